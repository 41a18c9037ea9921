/- The abstract machine: calls that leave no trace; forms of states in the rules; nil lists become tokens. -/
import Derived.Test.YtegoimldbgdeiaaAmKJ
set_option linter.all false
namespace Go.Am
open Go
section
variable {E:Env} {R R':ai} {w w':World} {β β':Nat→Nat} {s s':St} {a a':Act}
def bE (E:Env) (g:FuncId) (args:List AV) (Q:AV→Prop):Prop:=∀ G,cR E g args G (fun r G'=>G'=G∧Q r)
theorem bE.mono {g:FuncId} {args:List AV} {Q Q':AV→Prop} (h:bE E g args Q) (hq:∀ r,Q r→Q' r):bE E g args Q':=
 fun G=>(h G).mono fun r _ hh=>⟨hh.1,hq r hh.2⟩
theorem bE.of {g:FuncId} {args:List AV} {p:aM} {Q:p.T→Prop} (hc:aI 0 args=true) (hp:p.under 0=true)
  (h:cR E g args [] (fun r _=>∃ y,p.dec r=some y∧Q y)):bE E g args (fun r=>∃ y,r=p.enc y∧Q y):=fun G=>by
 refine ⟨h.1,fun R w cs hg hl=>?_⟩
 let R0:ai:=⟨R.I,[]⟩
 have m0:Mv R R0 0:=⟨fun _ _ h=>h,fun _ _ h=>absurd h (Nat.not_lt_zero _)⟩;have V4:fj E R0 w []:=⟨rfl,fun id go ro h1 _=>by simp [nth] at h1,fun i j ri rj b h1=>by simp [R0,nth] at h1,hg.wf,fun g cs wM=>(hg.dV g cs wM).move m0 (cU _ (E.B8 g cs wM)),hg.lo⟩;have wI:aL R0 w args cs:=hl.move m0 hc;refine (h.2 R0 w cs V4 wI).mono fun e w' he=>?_
 cases e with
 |panicked c=>exact he.elim
 |outgrown=>exact he.elim
 |returned c=>
  obtain ⟨r,G',R1,⟨y,hy,hQ⟩,dm,NE,st⟩:=he;have lH:∀ b,¬ Own R0 (fun _=>0) ig b:=fun b ho=>by
   obtain ⟨id,ro,h1,_⟩:=ga ho;simp [R0,nth] at h1
  let R2:ai:=⟨R1.I,R.obj⟩
  have e:Ext R w R2 w':=⟨st.ext.I,st.ext.cell,fun id ro h=>⟨ro,h,cp.refl ro⟩,st.ext.lp⟩;have aZ:∀ b,b < w.heap.size→w'.heap[b]?=w.heap[b]?:=fun b hb=>st.aZ b hb (lH b)
  have im:∀ b o,b < w.heap.size→R1.I b o→R.I b o:=fun b o hb hi=>st.im b o hi hb (lH b)
  have hd:=p.sa hy;have m:Mv R1 R2 0:=⟨fun _ _ h=>h,fun _ _ h=>absurd h (Nat.not_lt_zero _)⟩;refine ⟨p.enc y,G,R2,⟨rfl,y,rfl,hQ⟩,Rel.move m (p.du y hp) (hd.iy _ _ _ dm),⟨hg.len,fun id go ro h1 h2=>?_,hg.inj,NE.wf,fun g cs wM=>(hg.dV g cs wM).mono e,NE.lo⟩,⟨e,st.os,st.tape,st.output,st.size,fun b hb _=>aZ b hb,fun b _ ho=>?_,fun b o hi hb _=>im b o hb hi⟩⟩
  ·refine (hg.obj id go ro h1 h2).mono e (fun b hb=>aZ b ?_) (fun b o hb hi=>im b o ?_ hi)
   ·exact (hg.obj id go ro h1 h2).lt hb
   ·exact (hg.obj id go ro h1 h2).lt hb
  ·exact ho
theorem fE.abe {c:Code} {Q Q':Exit→St→Prop} (h:fE E c (fun e s'=>aG s s'∧Q' e s') s)
  (hq:∀ e s',Q' e s'→∃ (t:bI) (v:t.ps.T),t.dec s s'=some v∧Q e (t.st s v)):fE E c Q s:=fun R w β a F hr hf=>by
 refine wpIn_mono (h R w β a F hr hf) ?_;rintro e a' w' ⟨s',R',β',⟨hx,hq'⟩,lF,e9,bn⟩;obtain ⟨t,v,hd,hQ⟩:=hq e s' hq';obtain ⟨h1,h2⟩:=bI.Dm hx hr lF e9 hd;exact ⟨_,_,β',hQ,h1,h2,rfl⟩
theorem fE.gK {c:Code} {Q:Exit→St→Prop} {l:List (Loc × Nat × TypeId)} (hs:Am.gK l s=some s') (h:fE E c Q s'):fE E c Q s:=fun R w β a F hr hf=>by
 obtain ⟨R1,k1,k2,k3,_⟩:=jL hr hs;refine wpIn_mono (h R1 w β a F k1 (by rw [k3]; exact hf.mono k2.ext)) ?_;rintro e a' w' ⟨s2,R2,β2,hq,yp,st2,CN⟩;exact ⟨s2,R2,β2,hq,yp,k2.trans st2,CN.trans k3⟩
end
end Go.Am
namespace Go.Am
open Go
def LJ (s:St) (dst:Option Tmp) (x:SV):Option (Bool × St × St):=match x with
 |.v (.ptr id 0)=>match nth s.G id with
  |some (.ic l pos)=>some (Nat.blt pos l.length,(s.bG (aq s.G id (.ic l (pos+(cq l pos).2)))).put dst (.v (.bD [.bool true,.int .i64 pos,.int .i32 (cq l pos).1])),s.put dst (.v (.bD [.bool false])))
  |_=>none
 |_=>none
theorem GG {s:St} {dst:Option Tmp} {x:SV} {b:Bool} {s1 s2:St} (h:LJ s dst x=some (b,s1,s2)):mK s dst x=some (bif b then s1 else s2):=by
 unfold LJ at h;split at h
 ·split at h
  ·rename_i l pos hg;cases h;simp only [mK,hg];cases Nat.blt pos l.length <;> rfl
  ·cases h
 ·cases h
theorem HW {e:EK} {k:AV}:∀ {es:List (AV × AV)},cK e k es=true→jz e k es=some (e8 e k es)
 |[],_=>rfl
 |(k',v) :: l,h=>by
  simp only [cK,Bool.and_eq_true] at h;obtain ⟨b,hb⟩:=Option.isSome_iff_exists.1 h.1;simp only [jz,e8,Ak,hb];cases b
  ·simp only [cond_false]; exact HW h.2
  ·rfl
theorem LL {e:EK} {k v:AV}:∀ {es:List (AV × AV)},cK e k es=true→uO e k v es=some (cL e k v es)
 |[],_=>rfl
 |(k',v') :: l,h=>by
  simp only [cK,Bool.and_eq_true] at h;obtain ⟨b,hb⟩:=Option.isSome_iff_exists.1 h.1;simp only [uO,cL,Ak,hb];cases b
  ·simp only [cond_false,LL h.2]
  ·rfl
mutual
def aM.flat:aM→Bool
 |.int _=>true
 |.bool=>true
 |.str=>true
 |.agg ps=>ps.flat
 |.bc _ _ p=>p.flat
 |_=>false
def aK.flat:aK→Bool
 |.nil=>true
 |.cons p ps=>p.flat&&ps.flat
end
theorem Er {α:Type} {f:AV→Bool} {d:AV→α} {g:α→AV} (h:∀ a,f a=true→g (d a)=a):∀ {es:List AV},allFit f es=true→(es.map d).map g=es
 |[],_=>rfl
 |a :: l,hl=>by
  simp only [allFit,Bool.and_eq_true] at hl;rw [List.map_cons,List.map_cons,h a hl.1,Er h hl.2]
mutual
theorem aM.lU:∀ {p:aM},p.flat=true→∀ {a:AV},p.fits a=true→p.enc (p.bp a)=a
 |.int k,_,a,h=>by
  cases a <;> first | (cases h; done) | skip
  have hk:RB _ _=true:=h;rw [Ft hk]; rfl
 |.bool,_,a,h=>by cases a <;> first | (cases h; done) | rfl
 |.str,_,a,h=>by cases a <;> first | (cases h; done) | rfl
 |.agg ps,hp,a,h=>by
  cases a <;> first | (cases h; done) | skip
  exact congrArg AV.agg (aK.lU (ps:=ps) hp h)
 |.bD _,hp,_,_=>by cases hp
 |.list _ _,hp,_,_=>by cases hp
 |.own _ _ _,hp,_,_=>by cases hp
 |.bc id sz p,hp,a,h=>by
  cases a <;> first | (cases h; done) | skip
  rename_i k bu es;cases k <;> first | (cases h; done) | skip
  rename_i j7 j;simp only [aM.fits,Bool.and_eq_true] at h;have e1:=Nat.eq_of_beq_eq_true h.1.1;have e2:=Nat.eq_of_beq_eq_true h.1.2;subst e1 e2;have hp:p.flat=true:=hp;show AV.list (.bc id j) sz ((es.map p.bp).map p.enc)=_;rw [Er (fun a ha=>aM.lU hp ha) h.2]
 |.j6 _,hp,_,_=>by cases hp
 |.two _ _,hp,_,_=>by cases hp
theorem aK.lU:∀ {ps:aK},ps.flat=true→∀ {l:List AV},ps.fits l=true→ps.enc (ps.bp l)=l
 |.nil,_,l,h=>by
  cases l with
  |nil=>rfl
  |cons _ _=>cases h
 |.cons p .nil,hp,l,h=>by
  simp only [aK.flat,Bool.and_eq_true] at hp;cases l with
  |nil=>cases h
  |cons a l=>
   simp only [aK.fits,Bool.and_eq_true] at h;cases l with
   |nil=>exact congrArg (fun x=>[x]) (aM.lU hp.1 h.1)
   |cons _ _=>cases h.2
 |.cons p (.cons q ps),hp,l,h=>by
  rw [aK.flat,Bool.and_eq_true] at hp;cases l with
  |nil=>cases h
  |cons a l=>
   rw [aK.fits,Bool.and_eq_true] at h;have h1:=aM.lU hp.1 h.1;have h2:=aK.lU (ps:=.cons q ps) hp.2 h.2;show p.enc (p.bp a) :: (aK.cons q ps).enc ((aK.cons q ps).bp l)=a :: l;rw [h1,h2]
end
def xp (E:Env) (s:St) (t:TypeId) (m k:SV):Option (Bool × AV × Bool):=match Qv E s.G t,E.ti t,mapOf s m,k with
 |some p,some i,some es,.v k=>match i.k with
  |.map kt _ (some z)=>match E.ti kt with
   |some j=>if j.ek.plain&&jj j.ek k&&p.flat then
     some (cK j.ek k es&&p.fits (aP j.ek k (Ds E s.G t z) es),p.enc (p.bp (aP j.ek k (Ds E s.G t z) es)),(e8 j.ek k es).isSome)
    else none
   |none=>none
  |_=>none
 |_,_,_,_=>none
theorem tO {E:Env} {s:St} {t:TypeId} {m k:SV} {v:AV} {b:Bool} (h:xp E s t m k=some (true,v,b)):mJ E s t m k=some (v,b):=by
 unfold xp at h;split at h
 ·rename_i p i es k h1 h2 h3;split at h
  ·rename_i kt et z hk;split at h
   ·rename_i j hj;split at h
    ·rename_i hc;simp only [Bool.and_eq_true] at hc;injection h with h;injection h with h4 h;injection h with h5 h6;rw [Bool.and_eq_true] at h4;rw [aM.lU hc.2 h4.2] at h5;have e:jz j.ek k es=some (e8 j.ek k es):=HW h4.1;have s7:(j.ek.plain&&jj j.ek k)=true:=by rw [hc.1.1,hc.1.2]; rfl
     have e0:j8 E s t m (.v k)=some ((e8 j.ek k es).getD z,(e8 j.ek k es).isSome):=by
      simp only [j8,h2,h3,hk,hj,s7,if_true,e];cases e8 j.ek k es <;> rfl
     unfold mJ;rw [e0];unfold aP at h5;cases hg:e8 j.ek k es with
     |none=>
      rw [hg] at h5 h6;subst h5 h6;rfl
     |some v'=>
      rw [hg] at h5 h6;subst h5 h6;rfl
    ·cases h
   ·cases h
  ·cases h
 ·cases h
def xq (E:Env) (s:St) (t:TypeId) (m k x:SV):Option (Bool × St):=match E.ti t,m,k,x with
 |some i,.v (.map id),.v k,.v x=>match i.k,nth s.G id with
  |.map kt _ _,some (.map es)=>match E.ti kt with
   |some j=>if j.ek.plain&&jj j.ek k then some (cK j.ek k es,s.bG (aq s.G id (.map (cL j.ek k x es)))) else none
   |none=>none
  |_,_=>none
 |_,_,_,_=>none
theorem tP {E:Env} {s s':St} {t:TypeId} {m k x:SV} (h:xq E s t m k x=some (true,s')):fL E s t m k x=some s':=by
 unfold xq at h;split at h
 ·rename_i i id k x h1;split at h
  ·rename_i kt _ _ es hk hg;split at h
   ·rename_i j hj;split at h
    ·rename_i hc;injection h with h;injection h with h4 h5;simp only [fL,h1,hk,hg,hj,hc,if_true,LL h4,h5]
    ·cases h
   ·cases h
  ·cases h
 ·cases h
def LM (E:Env) (s:St) (dst:Option Tmp) (l:List AV) (tys:List TypeId):Option (Bool × St):=match l,tys with
 |[.jB id off sz len _,.str bs],t :: _=>match E.ti t,nth s.G id with
  |some i,some (.row cs el)=>match i.k with
   |.sl _ esz _ _ _=>if Nat.beq sz esz&&Nat.beq esz 1 then
     some (Nat.ble (off+(bs.take (Nat.min bs.length len)).length) cs.length,
      (s.bG (aq s.G id (.row (b9 cs off ((bs.take (Nat.min bs.length len)).map sU)) el))).put dst (.v (.int .i64 (Nat.min bs.length len))))
    else none
   |_=>none
  |_,_=>none
 |[.jB id off sz len _,.list _ bu es],t :: _=>match E.ti t,nth s.G id with
  |some i,some (.row cs el)=>match i.k with
   |.sl _ esz _ _ _=>if Nat.beq sz esz&&Nat.beq bu esz then
     some (Nat.ble (off+(aw (es.take (Nat.min es.length len))).length) cs.length,
      (s.bG (aq s.G id (.row (b9 cs off (aw (es.take (Nat.min es.length len)))) el))).put dst (.v (.int .i64 (Nat.min es.length len))))
    else none
   |_=>none
  |_,_=>none
 |[.cZ id f off sz len,.list _ bu xs],t :: _=>match E.ti t,nth s.G id with
  |some i,some (.bo es ZP el)=>match i.k with
   |.sl _ esz _ _ _=>if Nat.beq sz esz&&Nat.beq ZP sz&&Nat.beq bu esz then
     some (decide (f=es.length)&&decide (off+Nat.min xs.length len≤es.length),
      (s.bG (aq s.G id (.bo (b9 es off (xs.take (Nat.min xs.length len))) ZP el))).put dst (.v (.int .i64 (Nat.min xs.length len))))
    else none
   |_=>none
  |_,_=>none
 |_,_=>none
theorem GH {E:Env} {s s':St} {dst:Option Tmp} {l:List AV} {tys:List TypeId} (h:LM E s dst l tys=some (true,s')):bQ E s dst .copy l tys=some (true,s'):=by
 unfold LM at h;split at h
 ·rename_i id off sz len cap bs t ts;split at h
  ·rename_i i cs el hi hid;split at h
   ·rename_i a1 esz a2 a3 a4 hk;split at h
    ·rename_i hc;rw [Bool.and_eq_true] at hc;injection h with h;injection h with h1 h2;have qM:(Nat.beq esz 1&&Nat.ble (off+(bs.take (Nat.min bs.length len)).length) cs.length)=true:=by rw [hc.2,h1]; rfl
     simp only [bQ,hi,hk,sV,hid,hc.1,if_true,qM,h2]
    ·cases h
   ·cases h
  ·cases h
 ·rename_i id off sz len cap k bu es t ts;split at h
  ·rename_i i cs el hi hid;split at h
   ·rename_i a1 esz a2 a3 a4 hk;split at h
    ·rename_i hc;rw [Bool.and_eq_true] at hc;injection h with h;injection h with h1 h2;have e2:(Nat.beq bu esz || es.isEmpty)=true:=by rw [hc.2]; rfl
     simp only [bQ,hi,hk,sV,hid,hc.1,if_true,e2,h1,h2]
    ·cases h
   ·cases h
  ·cases h
 ·rename_i id f off sz len k bu xs t ts;split at h
  ·rename_i i es ZP el hi hid;split at h
   ·rename_i a1 esz a2 a3 a4 hk;split at h
    ·rename_i hc;rw [Bool.and_eq_true] at hc;injection h with h;injection h with h1 h2;rw [Bool.and_eq_true,decide_eq_true_eq,decide_eq_true_eq] at h1;obtain ⟨rfl,h1⟩:=h1;have e2:(Nat.beq sz esz&&Nat.beq ZP sz&&(Nat.beq bu esz || xs.isEmpty)&&Nat.ble es.length es.length&&Nat.ble es.length es.length&&Nat.ble (off+Nat.min xs.length len) es.length)=true:=by
      rw [hc.1,hc.2];simp only [Bool.true_or,Bool.true_and,Bool.and_eq_true];exact ⟨⟨Nat.ble_eq_true_of_le (Nat.le_refl _),Nat.ble_eq_true_of_le (Nat.le_refl _)⟩,Nat.ble_eq_true_of_le h1⟩
     simp only [bQ,hi,hk,sV,hid,e2,if_true,h2]
    ·cases h
   ·cases h
  ·cases h
 ·cases h
def xr (s:St) (dst:Option Tmp) (elem esz bh:Nat) (k:LK) (sz:Nat) (es ys:List AV):Option (Bool × St × Bool × St):=
 match k with
 |.nil=>some (ys.isEmpty,s.put dst (.v (.list .nil sz es)),decide ((es.length+ys.length) * bh≤140737488355328),
   (s.bG (s.G++[.tok (es.length+ys.length) esz elem])).put dst (.v (.list (.own s.G.length) esz (es++ys))))
 |.full=>if Nat.beq sz esz then some (ys.isEmpty,s.put dst (.v (.list .full sz es)),decide ((es.length+ys.length) * bh≤140737488355328),
   (s.bG (s.G++[.tok (es.length+ys.length) esz elem])).put dst (.v (.list (.own s.G.length) esz (es++ys)))) else none
 |.own id=>match nth s.G id with
  |some (.tok f bu e')=>if Nat.beq bu esz&&Nat.beq e' elem&&Nat.beq sz esz then
    some (false,s,decide (f=es.length)&&decide ((es.length+ys.length) * bh≤140737488355328),
     (s.bG (KK s.G id ys.length f esz elem)).put dst (.v (.list (.own id) esz (es++ys)))) else none
  |_=>none
 |.bc id j=>match nth s.G id with
  |some (.bc fs bu e')=>if Nat.beq bu esz&&Nat.beq e' elem&&Nat.beq sz esz then
    some (ys.isEmpty,s.put dst (.v (.list (.bc id j) sz es)),NW fs j es.length&&decide ((es.length+ys.length) * bh≤140737488355328),
     (s.bG (aq s.G id (.bc (IM fs j (es.length+ys.length)) esz elem))).put dst (.v (.list (.bc id j) esz (es++ys)))) else none
  |_=>none
 |.ea=>none
def CO (s:St) (dst:Option Tmp) (elem esz bh id f off sz len:Nat) (ys:List AV):Option (Bool × St × Bool × St):=match nth s.G id with
 |some (.bo es bu e')=>if Nat.beq bu esz&&Nat.beq e' elem&&Nat.beq sz esz then
   some (false,s,decide (f=es.length)&&decide (off=0)&&decide (len=f)&&decide ((es.length+ys.length) * bh≤140737488355328),
    (s.bG (aq s.G id (.bo (es++ys) esz elem))).put dst (.v (.cZ id (es.length+ys.length) 0 esz (es.length+ys.length)))) else none
 |_=>none
def CP (E:Env) (s:St) (dst:Option Tmp) (l:List AV) (tys:List TypeId):Option (Bool × St × Bool × St):=match l,tys with
 |[.list k sz es,.list _ bu ys],[t,u]=>match E.ti t with
  |some i=>match i.k with
   |.sl elem esz _ bh (some z)=>
    if Nat.beq bu esz&&Nat.beq t u&&Nat.ble 1 esz&&Nat.ble 1 bh&&Nat.beq z.cells.length esz&&z.aS then
     xr s dst elem esz bh k sz es ys
    else none
   |_=>none
  |none=>none
 |[.cZ id f off sz len,.list _ bu ys],[t,u]=>match E.ti t with
  |some i=>match i.k with
   |.sl elem esz _ bh (some z)=>
    if Nat.beq bu esz&&Nat.beq t u&&Nat.ble 1 esz&&Nat.ble 1 bh&&Nat.beq z.cells.length esz&&z.aS then CO s dst elem esz bh id f off sz len ys else none
   |_=>none
  |none=>none
 |[.list k sz es,.str bs],[t,u]=>match E.ti t,E.ti u with
  |some i,some j=>match i.k,j.k with
   |.sl elem esz _ bh (some z),.str=>
    if Nat.beq esz 1&&Nat.ble 1 bh&&Nat.beq z.cells.length esz&&z.aS then xr s dst elem esz bh k sz es (bs.map sU) else none
   |_,_=>none
  |_,_=>none
 |_,_=>none
theorem tQ {s s1 s2:St} {dst:Option Tmp} {elem esz bh:Nat} {k:LK} {sz:Nat} {es ys:List AV} {b c:Bool} (h:xr s dst elem esz bh k sz es ys=some (b,s1,c,s2)) (hc:b=false→c=true) :
  ∃ v G',fK s.G elem esz bh (.list k sz es) ys=some (true,v,G')∧(s.bG G').put dst (.v v)=bif b then s1 else s2:=by
 unfold xr at h;cases k with
 |nil=>
  cases h;cases ys with
  |nil=>exact ⟨_,_,rfl,rfl⟩
  |cons y ys=>
   have hc:=hc rfl;exact ⟨_,_,by simp only [fK,hc],rfl⟩
 |full=>
  simp only at h;cases hs:Nat.beq sz esz with
  |false=>rw [hs] at h; cases h
  |true=>
   rw [hs] at h;cases h;cases ys with
   |nil=>exact ⟨_,_,rfl,rfl⟩
   |cons y ys=>
    have hc:=hc rfl;exact ⟨_,_,by simp only [fK,hs,if_true,hc],rfl⟩
 |own id=>
  simp only at h;split at h
  ·rename_i f bu e' hg;split at h
   ·rename_i cm;cases h;have hc:=hc rfl;cases ys with
    |nil=>
     simp only [Bool.and_eq_true] at cm;have e1:=Nat.eq_of_beq_eq_true cm.1.1;have e2:=Nat.eq_of_beq_eq_true cm.1.2;have e3:=Nat.eq_of_beq_eq_true cm.2;subst e1; subst e2; subst e3;refine ⟨_,_,rfl,?_⟩;simp only [cond_false,KK,List.length_nil,Nat.add_zero,pP hg,List.append_nil]
    |cons y ys=>exact ⟨_,_,by simp only [fK,hg,cm,if_true,hc],rfl⟩
   ·cases h
  ·cases h
 |bc id j=>
  simp only at h;split at h
  ·rename_i fs bu e' hg;split at h
   ·rename_i cm;cases h;cases ys with
    |nil=>exact ⟨_,_,rfl,rfl⟩
    |cons y ys=>
     have hc:=hc rfl;exact ⟨_,_,by simp only [fK,hg,cm,if_true,hc],rfl⟩
   ·cases h
  ·cases h
 |ea=>cases h
theorem CQ {s s1 s2:St} {dst:Option Tmp} {elem esz bh id f off sz len:Nat} {ys:List AV} {b c:Bool} (h:CO s dst elem esz bh id f off sz len ys=some (b,s1,c,s2)) (hc:b=false→c=true) :
  ∃ v G',fK s.G elem esz bh (.cZ id f off sz len) ys=some (true,v,G')∧(s.bG G').put dst (.v v)=bif b then s1 else s2:=by
 unfold CO at h;split at h
 ·rename_i es bu e' hg;split at h
  ·rename_i cm;cases h;have hc:=hc rfl;cases ys with
   |nil=>
    simp only [Bool.and_eq_true,decide_eq_true_eq] at hc cm;have e1:=Nat.eq_of_beq_eq_true cm.1.1;have e2:=Nat.eq_of_beq_eq_true cm.1.2;have e3:=Nat.eq_of_beq_eq_true cm.2;obtain ⟨⟨⟨h1,h2⟩,h3⟩,_⟩:=hc;subst e1; subst e2; subst e3; subst h1; subst h2; subst h3;refine ⟨_,_,rfl,?_⟩;simp only [cond_false,List.length_nil,Nat.add_zero,pP hg,List.append_nil]
   |cons y ys=>exact ⟨_,_,by simp only [fK,hg,cm,if_true,hc],rfl⟩
  ·cases h
 ·cases h
theorem CR {E:Env} {s s1 s2:St} {dst:Option Tmp} {l:List AV} {tys:List TypeId} {b c:Bool} (h:CP E s dst l tys=some (b,s1,c,s2)) (FQ:b=false→c=true):bQ E s dst .append l tys=some (true,bif b then s1 else s2):=by
 unfold CP at h;split at h
 ·rename_i k sz es k' bu ys t u;split at h
  ·rename_i i hi;split at h
   ·rename_i elem esz a1 bh z hk;split at h
    ·rename_i hc;have s7:((Nat.beq bu esz || ys.isEmpty)&&Nat.beq t u&&Nat.ble 1 esz&&Nat.ble 1 bh&&Nat.beq z.cells.length esz&&z.aS)=true:=by
      simp only [Bool.and_eq_true] at hc ⊢;obtain ⟨⟨⟨⟨⟨c1,c2⟩,c3⟩,c4⟩,c5⟩,c6⟩:=hc;exact ⟨⟨⟨⟨⟨by rw [c1]; rfl,c2⟩,c3⟩,c4⟩,c5⟩,c6⟩
     obtain ⟨v,G',h1,h2⟩:=tQ h FQ;simp only [bQ,hi,hk,s7,if_true,h1,h2]
    ·cases h
   ·cases h
  ·cases h
 ·rename_i id f off sz len k' bu ys t u;split at h
  ·rename_i i hi;split at h
   ·rename_i elem esz a1 bh z hk;split at h
    ·rename_i hc;have s7:((Nat.beq bu esz || ys.isEmpty)&&Nat.beq t u&&Nat.ble 1 esz&&Nat.ble 1 bh&&Nat.beq z.cells.length esz&&z.aS)=true:=by
      simp only [Bool.and_eq_true] at hc ⊢;obtain ⟨⟨⟨⟨⟨c1,c2⟩,c3⟩,c4⟩,c5⟩,c6⟩:=hc;exact ⟨⟨⟨⟨⟨by rw [c1]; rfl,c2⟩,c3⟩,c4⟩,c5⟩,c6⟩
     obtain ⟨v,G',h1,h2⟩:=CQ h FQ;simp only [bQ,hi,hk,s7,if_true,h1,h2]
    ·cases h
   ·cases h
  ·cases h
 ·rename_i k sz es bs t u;split at h
  ·rename_i i j hi hj;split at h
   ·rename_i elem esz a1 bh z hk V7;split at h
    ·rename_i hc;obtain ⟨v,G',h1,h2⟩:=tQ h FQ;simp only [bQ,hi,hj,hk,V7,hc,if_true,h1,h2]
    ·cases h
   ·cases h
  ·cases h
 ·cases h
end Go.Am
namespace Go.Am
open Go
def SM (E:Env) (cut wk:Bool) (t:TypeId) (r:AV) (G:List GO):Option (Bool × AV × List GO):=match r with
 |.cZ id f 0 sz len=>match nth G id,E.ti t with
  |some (.bo es bu _),some i=>match i.k with
   |.sl _ esz _ _ _=>if Nat.beq esz sz&&Nat.beq bu sz then
     bif cut then some (decide (f=es.length)&&decide (len≤es.length)&&aF (A8 wk es),.list .ea sz (A8 wk (es.take len)),aq G id .dead)
     else some (decide (f=es.length)&&decide (len=es.length)&&aF (A8 wk es),.list .ea sz (A8 wk es),aq G id .dead)
    else none
   |_=>none
  |_,_=>none
 |.jB id 0 sz len _=>match nth G id,E.ti t,E.NV t with
  |some (.row cs _),some i,some p=>match i.k with
   |.sl _ esz agg _ _=>if Nat.beq esz sz&&Nat.ble 1 sz&&(agg || Nat.beq sz 1)&&p.under 0 then
     some (Nat.beq cs.length (len * sz)&&allFit (fun e=>p.fits e&&e.aS&&(agg || e.one)) (iM agg sz len cs),.list .ea sz ((iM agg sz len cs).map fun e=>p.enc (p.bp e)),aq G id .dead)
    else none
   |_=>none
  |_,_,_=>none
 |.agg cs=>match nH wk cs G with
  |(c,eP,G')=>some (c,.agg eP,G')
 |.ptr id 0=>match nth G id with
  |some (.row cs _)=>some (aF cs,.ep cs,aq G id .dead)
  |_=>none
 |_=>none
def zl (E:Env) (cut wk:Bool):List TypeId→List AV→List GO→Bool × List AV × List GO
 |t :: ts,r :: rs,G=>match SM E cut wk t r G with
  |some (c,r',G')=>match zl E cut wk ts rs G' with
   |(c',LN,HX)=>(c&&c',r' :: LN,HX)
  |none=>match zl E cut wk ts rs G with
   |(c',LN,HX)=>(c',r :: LN,HX)
 |_,rs,G=>(true,rs,G)
def SN {X:Type} (E:Env) (cut wk:Bool) (ts:List TypeId) (K:AV→List GO→Option X) (r:AV) (G:List GO):Option X:=match r with
 |.bD rs=>match zl E cut wk ts rs G with
  |(c,LN,G')=>bif c then K (.bD LN) G' else none
 |r=>match zl E cut wk ts [r] G with
  |(c,[r'],G')=>bif c then K r' G' else none
  |_=>none
section
variable {E:Env} {R:ai} {w:World}
theorem zm {R:ai} {b:Nat} (hI:∀ o,R.I b o):∀ {cs:List AV} {vs:List Value} {o:Nat},aL R w cs vs→(∀ v∈vs,v.oneCell'=true)→(∀ (j:Nat) (v:Value),vs[j]?=some v→w.cell? ⟨b,o+j,none⟩=some v)→fg R w b o cs
 |[],_,o,_,_,_=>.nil
 |a :: cs,_,o,.cons h t,h1,hc=>.cons (hc 0 _ rfl) (h1 _ (by simp)) (hI o) h (zm hI t (fun v hv=>h1 v (by simp [hv])) fun j v hj=>by
   have:=hc (j+1) v (by simpa using hj);rwa [show o+(j+1)=o+1+j by omega] at this)
theorem zn {R:ai} {b:Nat} {p:aM} {agg:Bool} {sz:Nat} (hI:∀ o,R.I b o) (hp:p.under 0=true) (fb:(agg || Nat.beq sz 1)=true) (abf:1≤sz):∀ (n:Nat) {cs:List AV} {vs:List Value} {o:Nat},aL R w cs vs→(∀ v∈vs,v.oneCell'=true)→cs.length=n * sz →
  (∀ (j:Nat) (v:Value),vs[j]?=some v→w.cell? ⟨b,o+j,none⟩=some v)→allFit (fun e=>p.fits e&&e.aS&&(agg || e.one)) (iM agg sz n cs)=true→iA R w b o sz ((iM agg sz n cs).map fun e=>p.enc (p.bp e))
 |0,_,_,_,_,_,_,_,_=>.nil
 |n+1,cs,vs,o,h,h1,hl,hc,hf=>by
  simp only [iM,allFit,Bool.and_eq_true] at hf;obtain ⟨⟨⟨wL,Zx⟩,hf4⟩,hf3⟩:=hf;have hlen:=h.length;have hle:sz≤cs.length:=by rw [hl,Nat.succ_mul]; omega
  have dk:=p.cV wL;have nr:(WN agg (cs.take sz)).cells=cs.take sz:=by
   cases agg with
   |true=>rfl
   |false=>
    have FC:sz=1:=by simpa using fb
    subst FC
    match cs,hle with
    |a :: cs,_=>
     show AV.cells a=[a];have ho:a.one=true:=by simpa [WN,eQ] using hf4
     cases a <;> first | rfl | simp [AV.one] at ho
  have hw:=dk.cells Zx;rw [nr] at hw;have hA:fg R w b o (cs.take sz):=zm hI (h.take sz) (fun v hv=>h1 v (List.mem_of_mem_take hv)) fun j v hj=>hc j v (by
   rw [List.getElem?_take] at hj;split at hj
   ·exact hj
   ·cases hj)
  refine .cons (by rw [← hw.length,List.length_take,Nat.min_eq_left hle]) (by rw [dk.bD]; exact Zx) (ny (p.du _ hp)) (hw.KR hA) ?_;exact zn hI hp fb abf n (h.drop sz) (fun v hv=>h1 v (List.mem_of_mem_drop hv)) (by rw [List.length_drop,hl,Nat.succ_mul]; omega) (fun j v hj=>by
   rw [List.getElem?_drop] at hj;have:=hc _ _ hj;rwa [show o+(sz+j)=o+sz+j by omega] at this) hf3
theorem OG {cut wk:Bool} {t:TypeId} {r r':AV} {G G':List GO} {c:Value} (hg:fj E R w G) (hr:Rel R w r c) (h:SM E cut wk t r G=some (true,r',G')) :
  ∃ R',fj E R' w G'∧Rel R' w r' c∧Ext R w R' w∧R'.obj=R.obj∧∀ b o,R'.I b o→R.I b o∨Live R b:=by
 unfold SM at h;split at h
 ·rename_i id f sz len;obtain ⟨ro,bn⟩:∃ ro,nth R.obj id=some ro:=by
   cases hr with
   |jE q _=>exact ⟨_,q⟩
   |cZ q _ _=>exact ⟨_,q⟩
  split at h
  ·rename_i es bu el i hid hi;split at h
   ·split at h
    ·rename_i hc;rw [Bool.and_eq_true] at hc;have q1:=Nat.eq_of_beq_eq_true hc.2;subst q1;cases cut with
     |true=>
      simp only [cond_true] at h;injection h with h; injection h with h1 h; injection h with h2 h3;subst h2 h3;rw [Bool.and_eq_true,Bool.and_eq_true,decide_eq_true_eq,decide_eq_true_eq] at h1;obtain ⟨h1,jX⟩:=h1;obtain ⟨R',r1,r2,r3,r4,r5⟩:=lJ (wk:=wk) hg hid h1.1 h1.2 jX bn;exact ⟨R',r1,r5 c hr,r2,r3,fun b o hi=>(r4 b o hi).imp_right fun hb=>⟨id,ro,bn,hb⟩⟩
     |false=>
      simp only [cond_false] at h;injection h with h; injection h with h1 h; injection h with h2 h3;subst h2 h3;rw [Bool.and_eq_true,Bool.and_eq_true,decide_eq_true_eq,decide_eq_true_eq] at h1;obtain ⟨h1,jX⟩:=h1;obtain ⟨R',r1,r2,r3,r4,r5⟩:=lJ (wk:=wk) hg hid h1.1 (Nat.le_of_eq h1.2) jX bn;have r6:=r5 c hr;rw [h1.2,List.take_length] at r6;exact ⟨R',r1,r6,r2,r3,fun b o hi=>(r4 b o hi).imp_right fun hb=>⟨id,ro,bn,hb⟩⟩
    ·cases h
   ·cases h
  ·cases h
 ·rename_i id sz len cap;split at h
  ·rename_i cs i p hid hi hp;split at h
   ·rename_i el esz agg eb z hk;split at h
    ·rename_i hc;simp only [Bool.and_eq_true] at hc;injection h with h;injection h with h1 h;injection h with h2 h3;subst h2 h3;rw [Bool.and_eq_true] at h1;cases hr with
     | @jB _ _ _ _ _ b hb gC=>
     obtain ⟨vs,k1,k2,k3,k4⟩:=hg.obj id _ _ hid hb;have DD:Live R b:=⟨id,_,hb,rfl⟩;have e:=tv R w b;have bO:=bt k1;refine ⟨R.all b,⟨by show R.obj.length=_; rw [iR]; exact hg.len,fun j7 go ro q1 q2=>?_,hg.inj,fun b' o ho=>?_,fun g cs wM=>(hg.dV g cs wM).mono e,hg.lo⟩,?_,e,rfl,fun b' o ho=>?_⟩
     ·rcases dZ q1 with ⟨rfl,rfl,_⟩|⟨cz,q1⟩
      ·have:ro=.bK b:=Option.some.inj (q2.symm.trans hb);subst this;exact bO
      ·refine (hg.obj j7 go ro q1 q2).mono e (fun _ _=>rfl) (fun b' o kM ho=>?_);rcases ho with ho|ho
       ·exact ho
       ·subst ho;exact absurd (hg.inj id j7 _ _ b' hb q2 rfl kM) cz
     ·rcases ho with ho|ho
      ·exact hg.wf b' o ho
      ·subst ho; exact bO
     ·refine Rel.list (zn (R:=R.all b) (fun o=>Or.inr rfl) hc.2 hc.1.2 (Nat.le_of_ble_eq_true hc.1.1.2) len (k2.mono e) k3 (Nat.eq_of_beq_eq_true h1.1) (fun j v hj=>?_) h1.2) ?_ gC trivial
      ·simp only [World.cell?,k1];simpa using hj
      ·rw [List.length_map];have:∀ (n:Nat) (l:List AV),(iM agg sz n l).length=n:=by
        intro n
        induction n with
        |zero=>intro l; rfl
        |succ n ih=>intro l; simp [iM,ih]
       rw [this]
     ·rcases ho with ho|ho
      ·exact .inl ho
      ·subst ho; exact .inr DD
    ·cases h
   ·cases h
  ·cases h
 ·rename_i cs;cases h2:nH wk cs G with
  |mk c' q=>
  obtain ⟨eP,G2⟩:=q;rw [h2] at h;injection h with h; injection h with h1 h; injection h with h3 h4;subst h1 h3 h4;cases hr with
  |agg hr qM=>
  obtain ⟨R',r1,r2,r3,r4,r5⟩:=tC hg hr h2;exact ⟨R',r1,.agg r2 qM,r3,r4,r5⟩
 ·-- an object's cells never change again
  rename_i id;split at h
  ·rename_i cs el hid;injection h with h; injection h with h1 h; injection h with h2 h3;subst h2 h3;cases hr with
   | @ptr _ _ b bn=>
   obtain ⟨vs,b1,b2,b3,b4⟩:=hg.obj id _ _ hid bn;have r2:=tv R w b;have r1:=hg.freeze bn rfl (show gX (R.all b) w .dead (.bK b) from bt b1);refine ⟨R.all b,r1,Rel.ep (fg.make (b2.mono r2) b3 (fun j v hv=>?_) (fun j _=>.inr rfl)),r2,rfl,fun b' o hi=>?_⟩
   ·rw [kb b1,Nat.zero_add];exact hv
   ·rcases hi with hi|rfl
    ·exact .inl hi
    ·exact .inr ⟨id,_,bn,rfl⟩
  ·cases h
 ·cases h
theorem xu {cut wk:Bool}:∀ {ts:List TypeId} {rs LN:List AV} {G G':List GO} {cs:List Value} {R:ai},fj E R w G→aL R w rs cs→zl E cut wk ts rs G=(true,LN,G') →
  ∃ R',fj E R' w G'∧aL R' w LN cs∧Ext R w R' w∧R'.obj=R.obj∧∀ b o,R'.I b o→R.I b o∨Live R b
 |[],rs,LN,G,G',cs,R,hg,hr,h=>by
  cases rs <;> (simp only [zl] at h; cases h; exact ⟨R,hg,hr,Ext.refl R w,rfl,fun _ _ h=>.inl h⟩)
 |_ :: _,[],LN,G,G',cs,R,hg,hr,h=>by
  simp only [zl] at h; cases h; exact ⟨R,hg,hr,Ext.refl R w,rfl,fun _ _ h=>.inl h⟩
 |t :: ts,r :: rs,LN,G,G',cs,R,hg,hr,h=>by
  cases hr with
  |cons h0 hr=>
  unfold zl at h;split at h
  ·rename_i c r' G1 h1;cases h2:zl E cut wk ts rs G1 with
   |mk c' q=>
   obtain ⟨Xp,G2⟩:=q;rw [h2] at h;simp only [Prod.mk.injEq,Bool.and_eq_true] at h;obtain ⟨⟨rfl,rfl⟩,rfl,rfl⟩:=h;obtain ⟨R1,a1,a2,a3,a4,a5⟩:=OG hg h0 h1;obtain ⟨R2,b1,b2,b3,b4,b5⟩:=xu a1 (hr.mono a3) h2;refine ⟨R2,b1,.cons (a2.mono b3) b2,a3.trans b3,b4.trans a4,fun b o ho=>?_⟩;rcases b5 b o ho with ho|ho
   ·exact a5 b o ho
   ·obtain ⟨id,ro,q1,q2⟩:=ho;rw [a4] at q1;exact .inr ⟨id,ro,q1,q2⟩
  ·cases h2:zl E cut wk ts rs G with
   |mk c' q=>
   obtain ⟨Xp,G2⟩:=q;rw [h2] at h;simp only [Prod.mk.injEq] at h;obtain ⟨rfl,rfl,rfl⟩:=h;obtain ⟨R2,b1,b2,b3,b4,b5⟩:=xu hg hr h2;exact ⟨R2,b1,.cons (h0.mono b3) b2,b3,b4,b5⟩
theorem cR.frz {g:FuncId} {args:List AV} {G:List GO} {X:Type} {cut wk:Bool} {ts:List TypeId} {K:AV→List GO→Option X} {x:X} (h:cR E g args G (fun r G'=>SN E cut wk ts K r G'=some x)):cR E g args G (fun r G'=>K r G'=some x):=
 ⟨h.1,fun R w cs hg hl=>(h.2 R w cs hg hl).mono fun e w' he=>by
  cases e with
  |panicked c=>exact he.elim
  |outgrown=>exact he.elim
  |returned c=>
   obtain ⟨r,G',R1,hq,dm,NE,st⟩:=he;have fin:∀ (r':AV) (G2:List GO) (R2:ai),K r' G2=some x→fj E R2 w' G2→Rel R2 w' r' c→Ext R1 w' R2 w'→R2.obj=R1.obj→(∀ b o,R2.I b o→R1.I b o∨Live R1 b)→Bt E R w (fun r G'=>K r G'=some x) (.returned c) w':=by
    intro r' G2 R2 k1 k2 k3 k4 k5 k6;have live:∀ b,Live R2 b→Live R1 b:=fun b ⟨id,ro,q1,q2⟩=>⟨id,ro,by rw [← k5]; exact q1,q2⟩
    refine ⟨r',G2,R2,k1,k3,k2,⟨st.ext.trans k4,st.os,st.tape,st.output,st.size,st.aZ,fun b hb ho=>?_,fun b o hi hb hn=>?_⟩⟩
    ·rcases ho with ho|⟨k,cs,hk,rfl⟩
     ·exact st.own b hb (.inl (live b ho))
     ·simp [ig,di] at hk
    ·rcases k6 b o hi with hi|hi
     ·exact st.im b o hi hb hn
     ·exact absurd (st.own b hb (.inl hi)) hn
   unfold SN at hq;split at hq
   ·rename_i rs;cases dm with
    |bD dm=>
    cases h2:zl E cut wk ts rs G' with
    |mk c' q=>
    obtain ⟨Xp,G2⟩:=q;rw [h2] at hq;cases c' with
    |false=>cases hq
    |true=>
     obtain ⟨R2,b1,b2,b3,b4,b5⟩:=xu NE dm h2;exact fin (.bD Xp) G2 R2 hq b1 (.bD b2) b3 b4 b5
   ·split at hq
    ·rename_i c' r' G2 h2;cases c' with
     |false=>cases hq
     |true=>
      obtain ⟨R2,b1,b2,b3,b4,b5⟩:=xu NE (.cons dm .nil) h2;cases b2 with
      |cons b2 _=>exact fin r' G2 R2 hq b1 b2 b3 b4 b5
    ·cases hq⟩
end
end Go.Am
namespace Go.Am
open Go
inductive RP
 |LO (p:aM)
 |map (pe:aM)
 |ep (ps:aK)
def RP.T:RP→Type
 |.LO p=>p.T
 |.map pe=>List pe.T
 |.ep ps=>ps.T
def RP.enc (n:Nat):(p:RP)→p.T→AV
 |.LO p,x=>p.enc x
 |.map _,_=>.map n
 |.ep ps,x=>.ep (ps.enc x)
def RP.GI:(p:RP)→p.T→List GO
 |.LO _,_=>[]
 |.map pe,(x:List pe.T)=>[.map (aC (x.map pe.enc))]
 |.ep _,_=>[]
def RP.no:RP→Nat
 |.map _=>1
 |_=>0
def vl:List RP→Type
 |[]=>Unit
 |[p]=>p.T
 |p :: q :: l=>p.T × vl (q :: l)
def qw:(n:Nat)→(l:List RP)→vl l→List AV
 |_,[],_=>[]
 |n,[p],x=>[p.enc n x]
 |n,p :: q :: l,x=>p.enc n x.1 :: qw (n+p.no) (q :: l) x.2
def iK:(l:List RP)→vl l→List GO
 |[],_=>[]
 |[p],x=>p.GI x
 |p :: q :: l,x=>p.GI x.1++iK (q :: l) x.2
structure RF where
 bD:Bool
 l:List RP
def RF.val (f:RF) (n:Nat) (x:vl f.l):AV:=bif f.bD then .bD (qw n f.l x) else eQ (qw n f.l x)
def RP.is:RP→AV→Bool
 |.LO p,v=>match p with
  |.j6 u=>dv v u
  |_=>true
 |.map _,v=>match v with
  |.map _=>true
  |_=>false
 |.ep _,v=>match v with
  |.ep _=>true
  |_=>false
def LP:List RP→List AV→Bool
 |[],[]=>true
 |p :: l,v :: vs=>p.is v&&LP l vs
 |_,_=>false
def RF.args (f:RF) (r:AV):List AV:=bif f.bD then r.RC else [r]
def RF.BF (f:RF):AV→Bool
 |.bD _=>f.bD
 |_=>!f.bD
def CS (G:List GO) (used:List Nat) (pe:aM) (v:AV):Option (List pe.T):=match v with
 |.map id=>match nth G id with
  |some (.map es)=>bif ND used id then none else (bif allFit pe.fits (af es) then some ((af es).map pe.bp) else none)
  |_=>none
 |_=>none
def HY (ps:aK) (v:AV):Option ps.T:=match v with
 |.ep cs=>ps.dec cs
 |_=>none
def RP.dec (G:List GO) (used:List Nat):(p:RP)→AV→Option p.T
 |.LO p,v=>p.dec v
 |.map pe,v=>CS G used pe v
 |.ep ps,v=>HY ps v
def vm (used:List Nat):AV→List Nat
 |.map id=>id :: used
 |_=>used
def vn (G:List GO):(used:List Nat)→(l:List RP)→List AV→Option (vl l)
 |_,[],vs=>match vs with
  |[]=>some ()
  |_=>none
 |u,[p],vs=>match vs with
  |[v]=>p.dec G u v
  |_=>none
 |u,p :: q :: l,vs=>match vs with
  |v :: vs=>(p.dec G u v).bind fun x=>(vn G (vm u v) (q :: l) vs).bind fun y=>some (x,y)
  |[]=>none
def RF.dec (f:RF) (G:List GO) (r:AV):Option (vl f.l):=bif f.BF r then vn G [] f.l (f.args r) else none
def RP.under:RP→Bool
 |.LO p=>p.under 0
 |.map pe=>pe.under 0
 |.ep ps=>ps.under 0
def RF.under (f:RF):Bool:=f.l.all RP.under&&(f.bD || Nat.beq f.l.length 1)
def XT:List RF→Type
 |[]=>Empty
 |[f]=>vl f.l
 |f :: g :: l=>vl f.l ⊕ XT (g :: l)
def JA (G:List GO) (r:AV):(l:List RF)→Option (XT l)
 |[]=>none
 |[f]=>f.dec G r
 |f :: g :: l=>bif f.BF r&&LP f.l (f.args r) then (f.dec G r).bind fun x=>some (.inl x) else (JA G r (g :: l)).bind fun x=>some (.inr x)
def Wg {α:Type} (G:List GO) (K:AV→List GO→α):(l:List RF)→XT l→α
 |[],o=>Empty.rec (fun _=>α) o
 |[f],o=>K (f.val G.length o) (G++iK f.l o)
 |f :: g :: l,o=>Sum.elim (fun v=>K (f.val G.length v) (G++iK f.l v)) (fun o=>Wg G K (g :: l) o) o
theorem Es {α:Type} {G:List GO} {K:AV→List GO→α} {r:AV} {G':List GO}:∀ (l:List RF) (o:XT l),Wg G (fun r0 G0=>r=r0∧G'=G0) l o→K r G'=Wg G K l o
 |[],o,_=>nomatch o
 |[f],o,h=>by
  have h:r=f.val G.length o∧G'=G++iK f.l o:=h;rw [h.1,h.2]; rfl
 |f :: g :: l,.inl v,h=>by
  have h:r=f.val G.length v∧G'=G++iK f.l v:=h;rw [h.1,h.2]; rfl
 |f :: g :: l,.inr o,h=>Es (g :: l) o h
def pd (E:Env) (g:FuncId) (args:List AV) (outs:List RF) (Q:XT outs→Prop):Prop:=
 ∀ G,cR E g args G (fun r G'=>∃ y,Q y∧Wg G (fun r0 G0=>r=r0∧G'=G0) outs y)
section
variable {E:Env} {R R1 R2:ai} {w:World}
theorem dO.QQ (m:Mv R R2 0):∀ {es:List (AV × AV)} {l:List AV} {aD:List MapEntry},ky (af es) l→aI 0 l=true→dO R w es aD→dO R2 w (aC l) aD
 |[],[],[],_,_,_=>trivial
 |[],[],_ :: _,_,_,h=>h.elim
 |[],_ :: _,_,h,_,_=>h.elim
 |(_,_) :: _,[],_,h,_,_=>h.elim
 |(_,_) :: _,_ :: _,[],_,_,h=>h.elim
 |(k,v) :: es,a :: l,en :: aD,hd,hu,h=>by
  obtain ⟨d1,d2⟩:=hd;simp only [aI,Bool.and_eq_true] at hu;have hc:=d1.cells rfl;have hl:[k,v].length=a.cells.length:=hc.length;cases a with
  |agg cs=>
   match cs,hc,hl with
   |[k',v'],hc,_=>
    have SJ:aI 0 [k',v']=true:=hu.1;simp only [aI,Bool.and_true,Bool.and_eq_true] at SJ;exact ⟨(hc.1 _ _ _ h.1).move m SJ.1,(hc.2.1 _ _ _ h.2.1).move m SJ.2,dO.QQ m d2 hu.2 h.2.2⟩
   |[],_,hl=>simp [AV.cells] at hl
   |[_],_,hl=>simp [AV.cells] at hl
   |_ :: _ :: _ :: _,_,hl=>simp [AV.cells] at hl
  |_=>simp [AV.cells] at hl
theorem aM.zo {p:aM} (h:p.under 0=true):∀ l:List p.T,aI 0 (l.map p.enc)=true
 |[]=>rfl
 |x :: l=>by
  show ((p.enc x).under 0&&aI 0 (l.map p.enc))=true;rw [p.du x h,aM.zo h l];rfl
def zp (R:ai) (n:Nat) (bs:List Nat):Prop:=∀ k b,nth bs k=some b→nth R.obj (n+k)=some (.bK b)
def HZ (R:ai) (w:World) (gs:List GO) (bs:List Nat):Prop:=∀ k go b,nth gs k=some go→nth bs k=some b→gX R w go (.bK b)
theorem RP.QR (p:RP) (x:p.T):(p.GI x).length=p.no:=by cases p <;> rfl
theorem LQ {ps:aK} {v:AV} {y:ps.T} (h:HY ps v=some y):∃ cs,v=.ep cs∧ps.dec cs=some y:=by
 unfold HY at h;split at h
 ·exact ⟨_,rfl,h⟩
 ·cases h
theorem JB {G:List GO} {used:List Nat} {pe:aM} {v:AV} {y:List pe.T} (h:CS G used pe v=some y):∃ id es,v=.map id∧nth G id=some (.map es)∧id∉used∧ky (af es) (y.map pe.enc):=by
 unfold CS at h;split at h
 ·rename_i id;split at h
  ·rename_i es Di;cases hu:ND used id with
   |true=>rw [hu] at h; cases h
   |false=>
    rw [hu,cond_false] at h;cases hf:allFit pe.fits (af es) with
    |false=>rw [hf] at h; cases h
    |true=>
     rw [hf,cond_true] at h;have hy:=Option.some.inj h;refine ⟨id,es,rfl,Di,fun hm=>?_,?_⟩
     ·rw [CI.2 hm] at hu; cases hu
     ·rw [← hy]; exact ky.of (fun v hv=>pe.cV hv) hf
  ·cases h
 ·cases h
theorem GJ {used:List Nat} {v:AV} {id:Nat} (h:id∈used):id∈vm used v:=by
 unfold vm;split
 ·exact List.mem_cons_of_mem _ h
 ·exact h
def CT (R1:ai) (w:World) (used:List Nat) (v:AV) (c:Value) (p:RP) (y:p.T):Prop:=
 ∃ bs:List Nat,bs.length=p.no∧(∀ b∈bs,∃ id,id∉used∧id∈vm used v∧nth R1.obj id=some (.bK b)) ∧
   ∀ (R2:ai) (n:Nat),(∀ b o,R1.I b o→R2.I b o)→zp R2 n bs→Rel R2 w (p.enc n y) c∧HZ R2 w (p.GI y) bs
theorem mvI {R1 R2:ai} (hI:∀ b o,R1.I b o→R2.I b o):Mv R1 R2 0:=⟨hI,fun _ _ h=>absurd h (Nat.not_lt_zero _)⟩
theorem RP.SO {used:List Nat} {p:aM} {v:AV} {c:Value} {y:p.T} (hp:p.under 0=true) (hv:Rel R1 w v c) (hd:p.dec v=some y):CT R1 w used v c (.LO p) y:=
 ⟨[],rfl,(fun b hb=>by cases hb),fun R2 n hI _=>⟨Rel.move (mvI hI) (p.du y hp) ((p.sa hd).iy _ _ _ hv),fun k go b h=>by cases k <;> cases h⟩⟩
theorem RP.XQ {used:List Nat} {ps:aK} {v:AV} {c:Value} {y:ps.T} (hp:ps.under 0=true) (hv:Rel R1 w v c) (hd:HY ps v=some y):CT R1 w used v c (.ep ps) y:=by
 obtain ⟨cs,rfl,hd⟩:=LQ hd;cases hv with
 |ep hc=>
 exact ⟨[],rfl,(fun b hb=>by cases hb),fun R2 n hI _=>⟨.ep (fg.move (mvI hI) ((ps.sa hd).1.KR hc) (ps.du y hp)),fun k go b h=>by cases k <;> cases h⟩⟩
theorem RP.SP {G1:List GO} (hg:fj E R1 w G1) {used:List Nat} {pe:aM} {v:AV} {c:Value} {y:List pe.T} (hp:pe.under 0=true) (hv:Rel R1 w v c) (hd:CS G1 used pe v=some y):CT R1 w used v c (.map pe) y:=by
 obtain ⟨id,es,rfl,Di,hu,JC⟩:=JB hd;cases hv with
 |map hb=>
 rename_i b;refine ⟨[b],rfl,fun b' kM=>?_,fun R2 n hI pL=>⟨.map (by have:=pL 0 b rfl; simpa using this),fun k go b' h1 h2=>?_⟩⟩
 ·rw [List.mem_singleton] at kM;subst kM;exact ⟨id,hu,List.mem_cons_self,hb⟩
 ·cases k with
  |succ k=>cases h2
  |zero=>
   cases h1; cases h2;obtain ⟨aD,clock,e1,e2,e3⟩:=hg.obj id _ _ Di hb;exact ⟨aD,clock,e1,dO.QQ (mvI hI) JC (aM.zo hp y) e2,e3⟩
theorem RP.ok {G1:List GO} (hg:fj E R1 w G1) {used:List Nat} {p:RP} {v:AV} {c:Value} {y:p.T} (hp:p.under=true) (hv:Rel R1 w v c) (hd:p.dec G1 used v=some y):CT R1 w used v c p y:=by
 cases p with
 |LO p=>exact RP.SO hp hv hd
 |ep ps=>exact RP.XQ hp hv hd
 |map pe=>exact RP.SP hg hp hv hd
theorem hU {α:Type} {l r:List α} {i:Nat} (h:i < l.length):nth (l++r) i=nth l i:=by
 rw [aV,aV,List.getElem?_append_left h]
theorem gf {α:Type} {l r:List α} (i:Nat):nth (l++r) (l.length+i)=nth r i:=by
 rw [aV,aV,List.getElem?_append_right (Nat.le_add_right _ _),Nat.add_sub_cancel_left]
theorem qY {α:Type} {l:List α} {i:Nat} {x:α} (h:nth l i=some x):i < l.length:=by
 rw [aV] at h;exact (List.getElem?_eq_some_iff.1 h).1
theorem RPs.ok {G1:List GO} (hg:fj E R1 w G1):∀ {l:List RP} {used:List Nat} {vs:List AV} {cs:List Value} {y:vl l},l.all RP.under=true→aL R1 w vs cs→vn G1 used l vs=some y →
  ∃ bs:List Nat,bs.length=(iK l y).length∧bs.Nodup∧(∀ b∈bs,∃ id,id∉used∧nth R1.obj id=some (.bK b)) ∧
   ∀ (R2:ai) (n:Nat),(∀ b o,R1.I b o→R2.I b o)→zp R2 n bs→aL R2 w (qw n l y) cs∧HZ R2 w (iK l y) bs
 |[],used,vs,cs,y,_,hv,hd=>by
  cases vs with
  |cons _ _=>cases hd
  |nil=>
  cases hv;exact ⟨[],rfl,List.nodup_nil,(fun b hb=>by cases hb),fun R2 n _ _=>⟨.nil,fun k go b h=>by simp [iK,nth] at h⟩⟩
 |[p],used,vs,cs,y,hu,hv,hd=>by
  match vs,hv,hd with
  |[],_,hd=>cases hd
  |_ :: _ :: _,_,hd=>cases hd
  |[v],.cons hv .nil,hd=>
  have hu:p.under=true:=by simpa using hu
  obtain ⟨bs,h1,h2,h4⟩:=RP.ok hg hu hv hd;refine ⟨bs,h1.trans (p.QR y).symm,?_,fun b hb=>let ⟨id,q1,_,q2⟩:=h2 b hb; ⟨id,q1,q2⟩,fun R2 n hI pL=>?_⟩
  ·have:bs.length≤1:=by rw [h1]; cases p <;> simp [RP.no]
   match bs,this with
   |[],_=>exact List.nodup_nil
   |[b],_=>simp
   |_ :: _ :: _,h=>simp at h
  ·obtain ⟨k1,k2⟩:=h4 R2 n hI pL;exact ⟨.cons k1 .nil,k2⟩
 |p :: q :: l,used,vs,cs,y,hu,hv,hd=>by
  match vs,hv,hd with
  |[],_,hd=>cases hd
  |v :: vs,.cons (c:=c) (cs:=cs) hv hvs,hd=>
  simp only [List.all_cons,Bool.and_eq_true] at hu;obtain ⟨hu1,hu2⟩:=hu;have hu2:(q :: l).all RP.under=true:=by simpa using hu2
  have hd:((p.dec G1 used v).bind fun x=>(vn G1 (vm used v) (q :: l) vs).bind fun y=>some (x,y))=some y:=hd;cases hx:p.dec G1 used v with
  |none=>rw [hx] at hd; cases hd
  |some x=>
  rw [hx] at hd;simp only [Option.bind_some] at hd;cases hz:vn G1 (vm used v) (q :: l) vs with
  |none=>rw [hz] at hd; cases hd
  |some z=>
  rw [hz] at hd;simp only [Option.bind_some] at hd;cases hd;obtain ⟨bs,h1,h2,h4⟩:=RP.ok hg hu1 hv hx;obtain ⟨bs',k1,k0,k2,k4⟩:=RPs.ok hg hu2 hvs hz;have Nx:bs.length=(p.GI x).length:=h1.trans (p.QR x).symm;refine ⟨bs++bs',?_,?_,fun b hb=>?_,fun R2 n hI pL=>?_⟩
  ·show _=(p.GI x++iK (q :: l) z).length;rw [List.length_append,List.length_append,Nx,k1]
  ·have IX:bs.Nodup:=by
    have:bs.length≤1:=by rw [h1]; cases p <;> simp [RP.no]
    match bs,this with
    |[],_=>exact List.nodup_nil
    |[b],_=>simp
    |_ :: _ :: _,h=>simp at h
   rw [List.nodup_append];refine ⟨IX,k0,fun a ha b hb e=>?_⟩;subst e;obtain ⟨id,_,q2,q3⟩:=h2 a ha;obtain ⟨j7,r1,r2⟩:=k2 a hb;have:id=j7:=hg.inj id j7 _ _ a q3 r2 rfl rfl;subst this;exact r1 q2
  ·rcases List.mem_append.1 hb with hb|hb
   ·obtain ⟨id,q1,_,q2⟩:=h2 b hb;exact ⟨id,q1,q2⟩
   ·obtain ⟨id,q1,q2⟩:=k2 b hb;exact ⟨id,fun hm=>q1 (GJ hm),q2⟩
  ·have at1:zp R2 n bs:=fun k b hk=>pL k b (by rw [hU (qY hk)]; exact hk)
   have at2:zp R2 (n+p.no) bs':=fun k b hk=>by
    have:=pL (bs.length+k) b (by rw [gf]; exact hk);rw [h1] at this;rw [Nat.add_assoc]; exact this
   obtain ⟨a1,a2⟩:=h4 R2 n hI at1;obtain ⟨b1,b2⟩:=k4 R2 (n+p.no) hI at2;refine ⟨.cons a1 b1,fun k go b iB hb=>?_⟩;change nth (p.GI x++iK (q :: l) z) k=some go at iB;rcases Nat.lt_or_ge k bs.length with hk|hk
   ·rw [hU (by rw [← Nx]; exact hk)] at iB;rw [hU hk] at hb;exact a2 k go b iB hb
   ·obtain ⟨j,rfl⟩:∃ j,k=bs.length+j:=⟨k - bs.length,by omega⟩;rw [gf] at hb;rw [Nx,gf] at iB;exact b2 j go b iB hb
theorem zq:∀ (l:List RP) (n:Nat) (y:vl l),(qw n l y).length=l.length
 |[],_,_=>rfl
 |[_],_,_=>rfl
 |p :: q :: l,n,y=>by
  show (qw (n+p.no) (q :: l) y.2).length+1=(q :: l).length+1;rw [zq (q :: l)]
theorem pd.of1 {R0:ai} {w0:World} {f:RF} {G G1:List GO} {r:AV} {c:Value} {y:vl f.l} (hf:f.under=true) (hG:fj E R0 w0 G) (st:Step ⟨R0.I,[]⟩ w0 (fun _=>0) ig R1 w (fun _=>0) ig) (hg:fj E R1 w G1) (dm:Rel R1 w r c) (hd:f.dec G1 r=some y) :
  ∃ R2,Rel R2 w (f.val G.length y) c∧fj E R2 w (G++iK f.l y)∧Step R0 w0 (fun _=>0) ig R2 w (fun _=>0) ig:=by
 unfold RF.under at hf;rw [Bool.and_eq_true] at hf;unfold RF.dec at hd;obtain ⟨ht,hd⟩:f.BF r=true∧vn G1 [] f.l (f.args r)=some y:=by
  cases ht:f.BF r with
  |true=>rw [ht] at hd; exact ⟨rfl,hd⟩
  |false=>rw [ht] at hd; cases hd
 obtain ⟨cs,tc,XR⟩:∃ cs,aL R1 w (f.args r) cs∧∀ R2 (x:vl f.l) n,aL R2 w (qw n f.l x) cs→Rel R2 w (f.val n x) c:=by
  unfold RF.args RF.val;cases abi:f.bD with
  |true=>
   have:∃ vs,r=.bD vs:=by
    cases r <;> first | exact ⟨_,rfl⟩ | (simp [RF.BF,abi] at ht)
   obtain ⟨vs,rfl⟩:=this;cases dm with
   |bD h=>exact ⟨_,h,fun R2 x n h=>.bD h⟩
  |false=>
   refine ⟨[c],.cons dm .nil,fun R2 x n h=>?_⟩;simp only [cond_false];have hlen:=zq f.l n x;revert h hlen;generalize qw n f.l x=l;intro h hlen;cases h with
   |cons h _=>exact h
 obtain ⟨bs,h1,h2,h3,h4⟩:=RPs.ok hg hf.1 tc hd;have lH:∀ b,¬ Own (⟨R0.I,[]⟩:ai) (fun _=>0) ig b:=fun b ho=>by
  obtain ⟨id,ro,q1,_⟩:=ga ho;simp [nth] at q1
 have oJ:∀ b∈bs,w0.heap.size≤b:=fun b hb=>by
  obtain ⟨id,_,hid⟩:=h3 b hb;rcases Nat.lt_or_ge b w0.heap.size with bO|A9
  ·exact absurd (st.own b bO (.inl ⟨id,_,hid,rfl⟩)) (lH b)
  ·exact A9
 let R2:ai:=⟨R1.I,R0.obj++bs.map RO.bK⟩
 have e:Ext R0 w0 R2 w:=⟨st.ext.I,st.ext.cell,fun id ro h=>⟨ro,by rw [hU (qY h)]; exact h,cp.refl ro⟩,st.ext.lp⟩;have aZ:∀ b,b < w0.heap.size→w.heap[b]?=w0.heap[b]?:=fun b hb=>st.aZ b hb (lH b)
 have im:∀ b o,b < w0.heap.size→R1.I b o→R0.I b o:=fun b o hb hi=>st.im b o hi hb (lH b)
 have abj:∀ {k ro},nth (bs.map RO.bK) k=some ro→∃ b,nth bs k=some b∧ro=.bK b:=fun {k ro} h=>by
  rw [aV,List.getElem?_map] at h;cases hb:bs[k]? with
  |none=>rw [hb] at h; cases h
  |some b=>rw [hb] at h; exact ⟨b,by rw [aV]; exact hb,(Option.some.inj h).symm⟩
 have pL:zp R2 R0.obj.length bs:=fun k b hk=>by
  show nth (R0.obj++bs.map RO.bK) (R0.obj.length+k)=_;rw [gf,aV,List.getElem?_map];rw [aV] at hk;rw [hk]; rfl
 obtain ⟨k1,k2⟩:=h4 R2 R0.obj.length (fun _ _ h=>h) pL;rw [hG.len] at k1;have hold:∀ id ro,nth R2.obj id=some ro→nth R0.obj id=some ro∨∃ k b,id=R0.obj.length+k∧nth bs k=some b∧ro=.bK b:=fun id ro h=>by
  rcases Nat.lt_or_ge id R0.obj.length with bO|A9
  ·exact .inl (by rw [← hU (r:=bs.map RO.bK) bO]; exact h)
  ·obtain ⟨k,rfl⟩:∃ k,id=R0.obj.length+k:=⟨id - R0.obj.length,by omega⟩;have h:nth (R0.obj++bs.map RO.bK) (R0.obj.length+k)=some ro:=h;rw [gf] at h;obtain ⟨b,q1,q2⟩:=abj h;exact .inr ⟨k,b,rfl,q1,q2⟩
 have QS:∀ id ro b,nth R0.obj id=some ro→ro.has b→b < w0.heap.size:=fun id ro b h hb=>by
  have hl:=qY h;rw [hG.len] at hl;have iB:nth G id=some G[id]:=by rw [aV]; exact List.getElem?_eq_getElem hl
  exact (hG.obj id _ _ iB h).lt hb
 have SQ:∀ {k b},nth bs k=some b→b∈bs:=fun {k b} h=>by
  rw [aV] at h;exact List.mem_of_getElem? h
 refine ⟨R2,XR R2 y _ k1,⟨?_,fun id go ro q1 q2=>?_,fun i j ri rj b q1 q2 b1 b2=>?_,hg.wf,fun g cs wM=>(hG.dV g cs wM).mono e,hg.lo⟩,⟨e,st.os,st.tape,st.output,st.size,fun b hb _=>aZ b hb,fun b hb ho=>?_,fun b o hi hb _=>im b o hb hi⟩⟩
 ·show (R0.obj++bs.map RO.bK).length=_;rw [List.length_append,List.length_map,List.length_append,hG.len,h1]
 ·rcases hold id ro q2 with q2|⟨k,b,rfl,q3,rfl⟩
  ·have hl:=qY q2;rw [hG.len] at hl;rw [hU hl] at q1;refine (hG.obj id go ro q1 q2).mono e (fun b hb=>aZ b ?_) (fun b o hb hi=>im b o ?_ hi)
   ·exact (hG.obj id go ro q1 q2).lt hb
   ·exact (hG.obj id go ro q1 q2).lt hb
  ·rw [hG.len,gf] at q1;exact k2 k go b q1 q3
 ·rcases hold i ri q1 with q1|⟨k,a,rfl,q3,rfl⟩
  ·rcases hold j rj q2 with q2|⟨k',a',rfl,q4,rfl⟩
   ·exact hG.inj i j ri rj b q1 q2 b1 b2
   ·have:b=a':=b2;subst this;have:=oJ _ (SQ q4);have:=QS i ri b q1 b1;omega
  ·have hba:b=a:=b1;subst hba;rcases hold j rj q2 with q2|⟨k',a',rfl,q4,rfl⟩
   ·have:=oJ _ (SQ q3);have:=QS j rj b q2 b2;omega
   ·have:b=a':=b2;subst this;have l1:=qY q3;have l2:=qY q4;rw [aV] at q3 q4;have:=(List.getElem?_inj l1 h2).1 (q3.trans q4.symm);omega
 ·rcases ga ho with ⟨id,ro,q1,q2⟩;rcases hold id ro q1 with q1|⟨k,a,rfl,q3,rfl⟩
  ·exact .inl ⟨id,ro,q1,q2⟩
  ·have:b=a:=q2;subst this;have:=oJ _ (SQ q3);omega
theorem H0 {G1:List GO} {r:AV}:∀ {outs:List RF} {y:XT outs},JA G1 r outs=some y→(∀ f∈outs,f.under=true) →
  ∃ (f:RF) (z:vl f.l),f.under=true∧f.dec G1 r=some z∧∀ {α:Type} (G:List GO) (K:AV→List GO→α),Wg G K outs y=K (f.val G.length z) (G++iK f.l z)
 |[],_,h,_=>by cases h
 |[f],y,h,hu=>⟨f,y,hu f (by simp),h,fun _ _=>rfl⟩
 |f :: g :: l,y,h,hu=>by
  simp only [JA] at h;cases hb:(f.BF r&&LP f.l (f.args r)) with
  |true=>
   rw [hb] at h;simp only [cond_true] at h;cases hx:f.dec G1 r with
   |none=>rw [hx] at h; cases h
   |some x=>
    rw [hx] at h;cases h;exact ⟨f,x,hu f (by simp),hx,fun _ _=>rfl⟩
  |false=>
   rw [hb] at h;simp only [cond_false] at h;cases hx:JA G1 r (g :: l) with
   |none=>rw [hx] at h; cases h
   |some x=>
    rw [hx] at h;cases h;obtain ⟨f',z,k0,k1,k2⟩:=H0 hx (fun f hf=>hu f (List.mem_cons_of_mem _ hf));exact ⟨f',z,k0,k1,fun G K=>k2 G K⟩
theorem pd.of {g:FuncId} {args:List AV} {outs:List RF} {Q:XT outs→Prop} (hc:aI 0 args=true) (hp:∀ f∈outs,f.under=true)
  (h:cR E g args [] (fun r G'=>∃ y,JA G' r outs=some y∧Q y)):pd E g args outs Q:=fun G=>by
 refine ⟨h.1,fun R w cs hg hl=>?_⟩
 let R0:ai:=⟨R.I,[]⟩
 have m0:Mv R R0 0:=⟨fun _ _ h=>h,fun _ _ h=>absurd h (Nat.not_lt_zero _)⟩;have V4:fj E R0 w []:=⟨rfl,fun id go ro h1 _=>by simp [nth] at h1,fun i j ri rj b h1=>by simp [R0,nth] at h1,hg.wf,fun g cs wM=>(hg.dV g cs wM).move m0 (cU _ (E.B8 g cs wM)),hg.lo⟩;have wI:aL R0 w args cs:=hl.move m0 hc;refine (h.2 R0 w cs V4 wI).mono fun e w' he=>?_
 cases e with
 |panicked c=>exact he.elim
 |outgrown=>exact he.elim
 |returned c=>
  obtain ⟨r,G',R1,⟨y,hy,hQ⟩,dm,NE,st⟩:=he;obtain ⟨f,z,hf,hz,iB⟩:=H0 hy hp;obtain ⟨R2,k1,k2,k3⟩:=pd.of1 hf hg st NE dm hz;refine ⟨_,_,R2,⟨y,hQ,?_⟩,k1,k2,k3⟩;rw [iB];exact ⟨rfl,rfl⟩
end
end Go.Am
namespace Go.Am
open Go
def tR (s:St) (t:Tmp) (sz:Nat) (e:TypeId):Option (Bool × St):=match lk s.ae t with
 |.v (.list (.own id) bu es)=>match nth s.G id with
  |some (.tok f Hs e2)=>if Nat.beq bu sz&&(Nat.beq Hs sz&&Nat.beq e2 e) then
    some (decide (f=es.length),⟨.put t (.v (.list .ea sz es)) :: s.ae,s.boxes,aq s.G id .dead,s.marks,s.ro,s.n⟩) else none
  |_=>none
 |_=>none
def wg (s:St) (t:Tmp) (sz:Nat) (e:TypeId):Option St:=match lk s.ae t with
 |.v (.list _ bu es)=>if Nat.beq bu sz then some ⟨.put t (.v (.list (.own s.G.length) sz es)) :: s.ae,s.boxes,s.G++[.tok es.length sz e],s.marks,s.ro,s.n⟩ else none
 |_=>none
section
variable {E:Env} {R:ai} {w:World} {β:Nat→Nat} {s:St} {a:Act}
def sy (R:ai) (w:World) (β:Nat→Nat) (bx:cD) (c:Value) (n sz:Nat) (e:TypeId) (ro:RO):Prop:=
 gX R w (.tok n sz e) ro∧(∀ b,ro.has b→¬ Live R b∧∀ k cs,di bx k=some cs→β k≠b) ∧
  ((c=.slice none 0 0∧ro=.bz)∨∃ b o len cap,c=.slice (some ⟨b,o,none⟩) len cap∧len=n∧KL b o len cap ro)
theorem sy.mono {R R':ai} {bx Hu:cD} {c:Value} {n sz:Nat} {e:TypeId} {ro:RO} (h:sy R w β bx c n sz e ro) (hI:R'.I=R.I) (hl:∀ b,Live R' b→Live R b) (hb:∀ k cs,di Hu k=some cs→∃ eP,di bx k=some eP):sy R' w β Hu c n sz e ro:=by
 obtain ⟨h1,h2,h3⟩:=h;refine ⟨?_,fun b N3=>⟨fun q=>(h2 b N3).1 (hl b q),fun k cs hk=>let ⟨eP,jy⟩:=hb k cs hk; (h2 b N3).2 k eP jy⟩,h3⟩;cases ro with
 |tok f g c k=>
  obtain ⟨q1,cur,q2,q3,q4,q5,q6⟩:=h1;exact ⟨q1,cur,q2,q3,q4,q5,fun o ho=>by rw [hI]; exact q6 o ho⟩
 |bz=>exact h1
 |none=>exact h1.elim
 |bK _=>exact h1.elim
 |bc _=>exact h1.elim
theorem BG {t:Tmp} {sz:Nat} {e:TypeId} {s':St} (h:aX E R w β s a) (hs:tR s t sz e=some (true,s')) :
  ∃ R' c ro es,aX E R' w β s' a∧Step R w β s.boxes R' w β s'.boxes∧s'.ro=s.ro∧aG s s'∧s'.boxes=s.boxes∧lk s'.ae t=.v (.list .ea sz es)∧a.tmps[t]?=some c∧sy R' w β s'.boxes c es.length sz e ro∧∀ b,ro.has b→Live R b:=by
 unfold tR at hs;split at hs
 ·rename_i id bu es ht;split at hs
  ·rename_i f Hs e2 hid;split at hs
   ·rename_i cm;simp only [Bool.and_eq_true] at cm;have q1:=Nat.eq_of_beq_eq_true cm.1;have q2:=Nat.eq_of_beq_eq_true cm.2.1;have q3:=Nat.eq_of_beq_eq_true cm.2.2;subst q1; subst q2; subst q3;injection hs with hs; injection hs with hc hs;have hf:=of_decide_eq_true hc;subst hf;obtain ⟨c,k1,k2⟩:=h.t t (by rw [ht]; simp);rw [ht] at k2;have k2:Rel R w (.list (.own id) Hs es) c:=k2;obtain ⟨ro,bn⟩:∃ ro,nth R.obj id=some ro:=by
     have bO:=bi hid;rw [← h.g.len] at bO;exact ⟨R.obj[id],by rw [aV,List.getElem?_eq_getElem bO]⟩
    have ca:=h.g.obj id _ _ hid bn
    let R':ai:=⟨R.I,aq R.obj id .none⟩
    have hle:cp ro .none:=by cases ro <;> first | trivial | exact ca.elim
    have ext:Ext R w R' w:=⟨fun _ _ h=>h,fun _ _ _=>rfl,fun i r hr=>by
     by_cases ei:id=i
     ·subst ei;rw [bn] at hr;cases hr;exact ⟨_,ay bn,hle⟩
     ·exact ⟨r,by rw [a8 ei]; exact hr,cp.refl r⟩,fh.refl w⟩
    have hinv:∀ {i:Nat} {r:RO},nth R'.obj i=some r→(i=id∧r=.none)∨(i≠id∧nth R.obj i=some r):=fun hr=>aB bn hr
    have live:∀ b,Live R' b→Live R b:=fun b ⟨i,r,l1,l2⟩=>by
     rcases hinv l1 with ⟨_,rfl⟩|⟨_,l1⟩
     ·exact l2.elim
     ·exact ⟨i,r,l1,l2⟩
    have hex:aG s s':=by subst hs; exact ⟨⟨[_],rfl⟩,⟨[],rfl⟩,rfl⟩
    have XS:Rel R' w (.list .ea Hs es) c:=by
     cases k2 with
     |kL _ _=>exact .jl
     |list hr hl gC _=>exact Rel.list (hr.mono ext) hl gC trivial
    have Cx:sy R' w β s'.boxes c es.length Hs e2 ro:=by
     refine ⟨?_,fun b hb=>⟨fun ⟨i,r,l1,l2⟩=>?_,fun k cs hk he=>?_⟩,?_⟩
     ·cases ro <;> first | exact ca | exact ca.elim
     ·rcases hinv l1 with ⟨_,rfl⟩|⟨cz,l1⟩
      ·exact l2.elim
      ·exact cz (h.g.inj i id r ro b l1 bn l2 hb)
     ·subst hs;exact (h.b.box k cs hk).2.2 ⟨id,ro,bn,by rw [he]; exact hb⟩
     ·cases k2 with
      |kL h1 h2=>
       rw [bn] at h1;cases h1;refine .inl ⟨rfl,?_⟩;cases ro with
       |bz=>rfl
       |none=>exact ca.elim
       |bK _=>exact ca.elim
       |bc _=>exact ca.elim
       |tok f g c k=>
        obtain ⟨q,_⟩:=ca;simp only [List.length_nil] at q;simp only [ni] at h2;omega
      | @list _ _ _ b o len cap hr hl gC hk=>
       obtain ⟨r',h1,h2⟩:=hk;rw [bn] at h1;cases h1;exact .inr ⟨b,o,len,cap,rfl,hl,h2⟩
    refine ⟨R',c,ro,es,?_,?_,by subst hs; rfl,hex,by subst hs; rfl,by subst hs; exact aA _ _ _,k1,Cx,fun b hb=>⟨id,ro,bn,hb⟩⟩
    ·subst hs;refine ⟨⟨by simp [R',h.g.len],fun i gg r g1 g2=>?_,fun i j ri rj b g1 g2 b1 b2=>?_,h.g.wf,fun g cs hg=>(h.g.dV g cs hg).mono ext,h.g.lo⟩,h.b.aZ ext (fun _ _ _=>rfl) (fun _ _ _ _ hi=>hi) (fun _ _ _ hl=>live _ hl),fun i hi=>?_,h.n,h.d.mono ext⟩
     ·rcases hinv g2 with ⟨rfl,rfl⟩|⟨cz,g2⟩
      ·rw [ay hid] at g1;cases g1;trivial
      ·rw [a8 (Ne.symm cz)] at g1;exact (h.g.obj i gg r g1 g2).mono ext (fun _ _=>rfl) (fun _ _ _ hi=>hi)
     ·rcases hinv g1 with ⟨_,rfl⟩|⟨_,g1⟩
      ·exact b1.elim
      ·rcases hinv g2 with ⟨_,rfl⟩|⟨_,g2⟩
       ·exact b2.elim
       ·exact h.g.inj i j ri rj b g1 g2 b1 b2
     ·by_cases e:t=i
      ·subst e;rw [aA];exact ⟨c,k1,XS⟩
      ·rw [aN e] at hi ⊢;obtain ⟨c',l1,l2⟩:=h.t i hi;exact ⟨c',l1,l2.mono ext⟩
    ·subst hs;refine ⟨ext,rfl,rfl,rfl,Nat.le_refl _,fun _ _ _=>rfl,fun b _ ho=>?_,fun _ _ hi _ _=>hi⟩;rcases ho with ho|ho
     ·exact .inl (live b ho)
     ·exact .inr ho
   ·cases hs
  ·cases hs
 ·cases hs
theorem JD {t:Tmp} {sz:Nat} {e:TypeId} {c:Value} {n:Nat} {ro:RO} {s':St} (h:aX E R w β s a) (hs:wg s t sz e=some s') (hc:a.tmps[t]?=some c) (ho:sy R w β s.boxes c n sz e ro) :
  aX E (R.add ro) w β s' a∧s'.boxes=s.boxes∧s'.ro=s.ro∧aG s s':=by
 unfold wg at hs;split at hs
 ·rename_i k bu es hl;split at hs
  ·rename_i hz;have hz:=Nat.eq_of_beq_eq_true hz;subst hz;cases hs;obtain ⟨o1,o2,o3⟩:=ho;obtain ⟨c',k1,k2⟩:=h.t t (by rw [hl]; simp);rw [hc] at k1;cases k1;rw [hl] at k2;have k2:Rel R w (.list k bu es) c:=k2;have ext:Ext R w (R.add ro) w:=⟨fun _ _ h=>h,fun _ _ _=>rfl,fun _ r hr=>⟨r,bA hr,cp.refl r⟩,fh.refl w⟩;have oJ:nth (R.add ro).obj s.G.length=some ro:=by rw [← h.g.len]; exact cI _ _
   have dm:es.length=n∧Rel (R.add ro) w (.list (.own s.G.length) bu es) c:=by
    rcases o3 with ⟨rfl,rfl⟩|⟨b,o,len,cap,rfl,rfl,hk⟩
    ·have hn:n=0:=o1;subst hn;cases k2 <;> exact ⟨rfl,Rel.kL oJ trivial⟩
    ·cases k2 with
     |nj=>exact ⟨rfl,Rel.list .nil rfl (Nat.le_refl _) ⟨_,oJ,hk⟩⟩
     |list hr hlen gC _=>exact ⟨hlen.symm,Rel.list (hr.mono ext) hlen gC ⟨_,oJ,hk⟩⟩
   obtain ⟨hn,dm⟩:=dm;subst hn;refine ⟨⟨⟨by simp [ai.add,h.g.len],fun i gg r g1 g2=>?_,fun i j ri rj b g1 g2 b1 b2=>?_,h.g.wf,fun g cs hg=>(h.g.dV g cs hg).mono ext,h.g.lo⟩,h.b.aZ ext (fun _ _ _=>rfl) (fun _ _ _ _ hi=>hi) (fun k cs hk hl=>?_),fun i hi=>?_,h.n,h.d.mono ext⟩,rfl,rfl,⟨⟨[_],rfl⟩,⟨[],rfl⟩,rfl⟩⟩
   ·rcases aj g2 with Wh|⟨g3,rfl⟩
    ·rcases aj g1 with Ns|⟨g4,_⟩
     ·exact (h.g.obj i gg r Ns Wh).mono ext (fun _ _=>rfl) (fun _ _ _ hi=>hi)
     ·have:=bi Wh;rw [h.g.len] at this;omega
    ·rcases aj g1 with Ns|⟨g4,rfl⟩
     ·have:=bi Ns;rw [g3,h.g.len] at this;omega
     ·cases r <;> first | exact o1 | exact o1.elim
   ·rcases aj g1 with Ns|⟨g3,e1⟩
    ·rcases aj g2 with Wh|⟨g4,e2⟩
     ·exact h.g.inj i j ri rj b Ns Wh b1 b2
     ·rw [e2] at b2;exact absurd ⟨i,ri,Ns,b1⟩ (o2 b b2).1
    ·rcases aj g2 with Wh|⟨g4,e2⟩
     ·rw [e1] at b1;exact absurd ⟨j,rj,Wh,b2⟩ (o2 b b1).1
     ·omega
   ·rcases kd hl with hl|hl
    ·exact hl
    ·exact absurd rfl ((o2 _ hl).2 k cs hk)
   ·by_cases e:t=i
    ·subst e;rw [aA];exact ⟨c,hc,dm⟩
    ·rw [aN e] at hi ⊢;obtain ⟨c',l1,l2⟩:=h.t i hi;exact ⟨c',l1,l2.mono ext⟩
  ·cases hs
 ·cases hs
theorem BH {R0 R1 R2 R3:ai} {w w2:World} {β β2:Nat→Nat} {bx0:cD} {s1 s2 s3 s4:St} {a a2:Act} {tm:bI} {v:tm.ps.T} {t:Tmp} {sz n:Nat} {e:TypeId} {c:Value} {ro:RO}
  (h1:aX E R1 w β s1 a) (hn:R0.obj.length=s1.G.length) (hx:aG s1 s3) (hE:Ext R1 w R3 w2) (st:Step R0 w β bx0 R2 w2 β2 s2.boxes) (h3:aX E R3 w2 β2 s3 a2) (OF:Step R2 w2 β2 s2.boxes R3 w2 β2 s3.boxes)
  (hc:a2.tmps[t]?=some c) (ho:sy R3 w2 β2 s3.boxes c n sz e ro) (hl:∀ b,ro.has b→Live R2 b) (hd:tm.dec s1 s3=some v) (hr:wg (tm.st s1 v) t sz e=some s4) :
  ∃ R4,aX E R4 w2 β2 s4 a2∧Step R0 w β bx0 R4 w2 β2 s4.boxes∧Ext R1 w R4 w2∧s4.ro=(tm.st s1 v).ro∧aG (tm.st s1 v) s4:=by
 obtain ⟨q1,q2,q3⟩:=bI.SK hx h1 h3 hE hd;obtain ⟨p1,p2,p3,p4⟩:=JD q1 hr hc (ho.mono rfl (fun b hb=>qt hb) q3);have ext:Ext (R3.cut s1.G.length) w2 ((R3.cut s1.G.length).add ro) w2:=⟨fun _ _ h=>h,fun _ _ _=>rfl,fun _ r hr=>⟨r,bA hr,cp.refl r⟩,fh.refl w2⟩;have GK:=st.trans OF;refine ⟨_,p1,⟨⟨GK.ext.I,GK.ext.cell,fun id r hid=>?_,GK.ext.lp⟩,st.os,st.tape,st.output,st.size,st.aZ,fun b hb Gg=>?_,fun b o hi hb sf=>GK.im b o hi hb sf⟩,q2.trans ext,p3,p4⟩
 ·obtain ⟨r',g1,g2⟩:=GK.ext.obj id r hid;have:=bi hid;exact ⟨r',bA (jq.2 ⟨by omega,g1⟩),g2⟩
 ·have Gl:b < w2.heap.size:=Nat.lt_of_lt_of_le hb st.size;rcases Gg with Gg|⟨k,cs,hk,rfl⟩
  ·rcases kd Gg with Gg|Gg
   ·exact GK.own b hb (.inl (qt Gg))
   ·exact st.own b hb (.inl (hl b Gg))
  ·rw [p2] at hk;obtain ⟨eP,jy⟩:=q3 k cs hk;exact GK.own _ hb (.inr ⟨k,eP,jy,rfl⟩)
end
end Go.Am
namespace Go.Am
open Go
structure bf where
 ps:aK
 p:aM
 T:ps.T→Option p.T
def aE (E:Env) (g:FuncId) (e:bf):Prop:=∀ x y,e.T x=some y→bE E g (e.ps.enc x) (fun r=>r=e.p.enc y)
inductive XK
 |norm
 |ret
 |ex (id:Nat)
def XK.is:XK→Exit→Bool
 |.norm,.normal=>true
 |.ret,.ret=>true
 |.ex i,.exit j=>Nat.beq i j
 |_,_=>false
def XK.exit:XK→Exit
 |.norm=>.normal
 |.ret=>.ret
 |.ex i=>.exit i
theorem XK.HT {k:XK} {e:Exit} (h:k.is e=true):e=k.exit:=by
 cases k <;> cases e <;> simp_all [XK.is,XK.exit]
def JT:List (XK × bI)→Type
 |[]=>Empty
 |[x]=>x.2.ps.T
 |x :: y :: l=>x.2.ps.T ⊕ JT (y :: l)
def jr (s:St):(outs:List (XK × bI))→Exit→St→Option (JT outs)
 |[],_,_=>none
 |[x],e,s'=>bif x.1.is e then x.2.dec s s' else none
 |x :: y :: l,e,s'=>bif x.1.is e then (x.2.dec s s').bind fun v=>some (.inl v) else (jr s (y :: l) e s').bind fun o=>some (.inr o)
def KA {α:Type} (s:St):(outs:List (XK × bI))→JT outs→(Exit→St→α)→α
 |[],o,_=>Empty.rec (fun _=>α) o
 |[x],o,K=>K x.1.exit (x.2.st s o)
 |x :: y :: l,o,K=>Sum.elim (fun v=>K x.1.exit (x.2.st s v)) (fun o=>KA s (y :: l) o K) o
inductive cC
 |loop (gh:List (Loc × Nat × TypeId)) (head:bI) (outs:List (XK × bI))
 |join (outs:List (XK × bI))
 |rot (k:List Bool) (gh:List (Loc × Nat × TypeId)) (head:bI) (outs:List (XK × bI))
 |alt (n:Nat) (a b:cC)
 |dC (gh:List (Loc × Nat × TypeId)) (head:bI) (outs:List (XK × bI))
 |LR (gh:List (Loc × Nat × TypeId)) (head:bI)
 |H3 (t:Tmp) (sz:Nat) (e:TypeId) (head:bI) (outs:List (XK × bI))
def LS (n:Nat):cC→cC
 |.alt m a b=>bif Nat.beq n m then LS n a else LS n b
 |c=>c
def ar {V X:Type} (rd:V→Option (V ⊕ X)):Nat→V→Option X
 |0,_=>none
 |n+1,v=>(rd v).bind fun o=>Sum.elim (fun v'=>ar rd n v') (fun x=>some x) o
def dC {V X:Type} (rd:(V→Option X)→V→Option X):Nat→V→Option X
 |0,_=>none
 |n+1,v=>rd (dC rd n) v
structure zr (E:Env) (g:FuncId) where
 f:List AV→List GO→Option (Bool × AV × List GO)
 ok:∀ args G r G',f args G=some (true,r,G')→cR E g args G (fun r' HX=>r'=r∧HX=G')
structure qx (E:Env) (g:FuncId) where
 ps:aK
 outs:List RF
 T:ps.T→Option (XT outs)
 ok:∀ x y,T x=some y→pd E g (ps.enc x) outs (fun z=>z=y)
structure iN where
 D:SH
 JE:FuncId→Option bf
 CU:FuncId→Nat→Option cC
 fz:Bool
 N:Nat
 gt:(g:FuncId)→Option (zr D.toEnv g):=fun _=>none
 xt:(g:FuncId)→Option (qx D.toEnv g):=fun _=>none
def qZ {α:Type} (fz:Bool) (s:St) (K:St→α):α:=match fz with
 |true=>Gw s K
 |false=>match s with
  |⟨sl,bx,G,m,ro,n⟩=>K ⟨sl,bx,G,m,ro,n⟩
theorem cP {α:Type} (fz:Bool) (s:St) (K:St→α):qZ fz s K=K s:=by
 cases fz
 ·rfl
 ·exact Jw s K
abbrev qy (X:Type):=FuncId→List AV→List GO→(AV→List GO→Option X)→Option X
abbrev nA (X:Type):=Nat→List AV→List GO→(Bool→List GO→Option X)→Option X
section ev
variable {X:Type}
def CV (E:Env) (s:St) (o:Oper):Option (Int × Nat × (Nat→Oper)):=match o.op with
 |.index t x (.tmp y)=>match bw E s.ae (.tmp y),E.ti t with
  |.v (.int k n),some i=>match i.k with
   |.arr len _ _=>some (n,len,fun j=>{ o with op:=.index t x (.const (.int k j)) })
   |_=>none
  |_,_=>none
 |.indexAddr t x (.tmp y)=>match bw E s.ae (.tmp y),E.ti t with
  |.v (.int k n),some i=>match i.k with
   |.arr len _ _=>match bw E s.ae x with
    |.v (.ep _)=>match E.NV t with
     |some _=>none
     |none=>some (n,len,fun j=>{ o with op:=.indexAddr t x (.const (.int k j)) })
    |_=>some (n,len,fun j=>{ o with op:=.indexAddr t x (.const (.int k j)) })
   |_=>none
  |_,_=>none
 |_=>none
def xw (E:Env) (fz:Bool) (f:FuncId) (g:Nat→Oper) (n:Int) (K:St→Option X) (s:St):Nat→Nat→Option X
 |0,_=>none
 |m+1,j=>bif decide (n=(j:Int)) then (match ak E f s (g j) with
   |some (c,s')=>bif c then qZ fz s' K else none
   |_=>none) else xw E fz f g n K s m (j+1)
def SR (E:Env) (fz:Bool) (call:qy X) (mP:nA X) (f:FuncId) (o:Oper) (K:St→Option X) (s:St):Option X:=
 match o.op with
 |.call { callee:=.value x,args,.. }=>match bw E s.ae x,nf E s.ae args.toList with
  |.v (.fn g first cap),some l=>call g (first++l++cap) s.G (fun r G'=>qZ fz ((s.bG G').put o.dst (.v r)) K)
  |.v (.yield id),some l=>mP id l s.G (fun b G'=>qZ fz ((s.bG G').put o.dst (.v (.bool b))) K)
  |_,_=>none
 |.defer _=>none
 |.next x true=>match LJ s o.dst (bw E s.ae x) with
  |some (b,s1,s2)=>bif b then qZ fz s1 K else qZ fz s2 K
  |none=>none
 |.lookup t m k ok=>match xp E s t (bw E s.ae m) (bw E s.ae k) with
  |some (c,v,b)=>bif c then qZ fz (s.put o.dst (.v (if ok then .bD [v,.bool b] else v))) K else none
  |none=>match ak E f s o with
   |some (c,s')=>bif c then qZ fz s' K else none
   |_=>none
 |.mapUpdate t m k x=>match o.dst,xq E s t (bw E s.ae m) (bw E s.ae k) (bw E s.ae x) with
  |none,some (c,s')=>bif c then qZ fz s' K else none
  |_,_=>none
 |.insert t m k x=>match o.dst,xq E s t (bw E s.ae m) (bw E s.ae k) (bw E s.ae x) with
  |none,some (c,s')=>bif c then qZ fz s' K else none
  |_,_=>none
 |.call { callee:=.builtin .append,args,argTypes }=>match iz E f s o with
  |some (c,s')=>bif c then qZ fz s' K else none
  |none=>match nf E s.ae args.toList with
   |some l=>match CP E s o.dst l argTypes.toList with
    |some (b,s1,c,s2)=>bif b then qZ fz s1 K else bif c then qZ fz s2 K else none
    |none=>match ak E f s o with
     |some (c,s')=>bif c then qZ fz s' K else none
     |_=>none
   |none=>none
 |.call { callee:=.builtin .copy,args,argTypes }=>match nf E s.ae args.toList with
  |some l=>match LM E s o.dst l argTypes.toList with
   |some (c,s')=>bif c then qZ fz s' K else none
   |none=>match ak E f s o with
    |some (c,s')=>bif c then qZ fz s' K else none
    |_=>none
  |none=>none
 |_=>match CV E s o with
  |some (n,len,g)=>xw E fz f g n K s len 0
  |none=>match ak E f s o with
   |some (c,s')=>bif c then qZ fz s' K else none
   |_=>none
def qz (E:Env) (fz:Bool) (call:qy X) (mP:nA X) (f:FuncId) (ops:List Oper) (o:Oper) (K:St→Option X) (s:St):Option X:=
 match o.guard with
 |none=>SR E fz call mP f o K s
 |some (j,want)=>match qf ops j with
  |none=>none
  |some d=>match lk s.ae d with
   |.v (.bool b)=>match want with
    |true=>bif b then qZ fz (s.put (some d) (.v (.bool true))) (SR E fz call mP f o K) else qZ fz ((s.put (some d) (.v (.bool false))).put o.dst (.v gG)) K
    |false=>bif b then qZ fz ((s.put (some d) (.v (.bool true))).put o.dst (.v gG)) K else qZ fz (s.put (some d) (.v (.bool false))) (SR E fz call mP f o K)
   |.v (.bD [])=>qZ fz (s.put o.dst (.v gG)) K
   |_=>none
def CW (E:Env) (fz:Bool) (call:qy X) (mP:nA X) (f:FuncId) (ops:List Oper) (o:Oper) (K:St→Option X) (s:St):Option X:=
 match o.guard,j9 E f s o with
 |none,some s'=>qZ fz s' K
 |_,_=>qz E fz call mP f ops o K s
noncomputable def Et {X:Type} (l:List Nat) (F:Nat→Option X):Option X:=match l with
 |[]=>none
 |i :: r=>@ite _ (∀ j∈r,F j=F i) (Classical.propDecidable _) (F i) none
theorem JF {X:Type} {l:List Nat} {F:Nat→Option X} {x:X} (h:Et l F=some x):∀ i∈l,F i=some x:=by
 cases l with
 |nil=>cases h
 |cons i r=>
  have h:@ite _ (∀ j∈r,F j=F i) (Classical.propDecidable _) (F i) none=some x:=h;by_cases hr:∀ j∈r,F j=F i
  ·rw [if_pos hr] at h;intro j hj;rcases List.mem_cons.1 hj with rfl|hj
   ·exact h
   ·rw [hr j hj]; exact h
  ·rw [if_neg hr] at h;cases h
theorem tS {X:Type} {l:List Nat} {F:Nat→Option X} {x:X} (hl:l≠[]) (h:∀ i∈l,F i=some x):Et l F=some x:=by
 cases l with
 |nil=>exact absurd rfl hl
 |cons i r=>
  show @ite _ (∀ j∈r,F j=F i) (Classical.propDecidable _) (F i) none=some x;have hr:∀ j∈r,F j=F i:=fun j hj=>by rw [h j (List.mem_cons_of_mem _ hj),h i List.mem_cons_self]
  rw [if_pos hr];exact h i List.mem_cons_self
noncomputable def xx (E:Env) (fz:Bool) (call:qy X) (mP:nA X) (f:FuncId) (ops:List Oper) (o:Oper) (K:St→Option X) (s:St):Option X:=
 match o.guard,vG E f s o,uP E s o with
 |none,some (c,s'),_=>bif c then qZ fz s' K else none
 |none,none,some (c,s0,left,g)=>bif c then (bif left.isEmpty then qZ fz s0 K else Et left fun i=>bif (g i).1 then qZ fz (g i).2 K else none) else none
 |_,_,_=>CW E fz call mP f ops o K s
noncomputable def CX (E:Env) (fz:Bool) (call:qy X) (mP:nA X) (f:FuncId) (ops:List Oper) (o:Oper) (K:St→Option X) (s:St):Option X:=
 match IP E f s o with
 |some (c,s')=>bif c then xx E fz call mP f ops o K s' else none
 |none=>xx E fz call mP f ops o K s
noncomputable def OH (E:Env) (fz:Bool) (call:qy X) (mP:nA X) (f:FuncId) (ops:List Oper):List Oper→(St→Option X)→St→Option X
 |[],K,s=>K s
 |o :: rest,K,s=>CX E fz call mP f ops o (fun s'=>match Bs E f o s' with
  |some (c,s2)=>bif c then OH E fz call mP f ops rest K s2 else none
  |none=>none) s
def SS (E:Env) (f:FuncId) (ops:List Oper) (o:Oper) (s:St):Bool:=match o.op,o.dst with
 |.lookup t m k ok,some d=>match Dn ops s o,xp E s t (bw E s.ae m) (bw E s.ae k) with
  |some true,some (c,v,b)=>c&&CF (.v (if ok then .bD [v,.bool b] else v)) (lk s.ae d)
  |_,_=>ZK E f ops o s
 |_,_=>ZK E f ops o s
def q8 (E:Env) (f:FuncId) (ops:List Oper):List Nat→St→Bool
 |[],_=>true
 |k :: l,s=>(match nth ops k with
  |some ok=>SS E f ops ok s
  |none=>true)&&q8 E f ops l s
def oT (E:Env) (fz:Bool) (call:qy X) (mP:nA X) (fF:Option X→Option X→Option X) (f:FuncId) (ops:List Oper):DT→(St→Option X)→St→Option X
 |.done,K,s=>K s
 |.take j _ t,K,s=>match nth ops j with
  |some oj=>qz E fz call mP f ops oj (oT E fz call mP fF f ops t K) s
  |none=>none
 |.br i re _ t .stop,K,s=>match nth ops i with
  |some oi=>qz E fz call mP f ops oi (fun s'=>bif q8 E f ops re s' then oT E fz call mP fF f ops t K s' else none) s
  |none=>none
 |.br i re _ t more,K,s=>fF (match nth ops i with
  |some oi=>qz E fz call mP f ops oi (fun s'=>bif q8 E f ops re s' then oT E fz call mP fF f ops t K s' else none) s
  |none=>none) (oT E fz call mP fF f ops more K s)
 |.stop,_,_=>none
 |.al j W t,K,s=>match nth ops j with
  |some oj=>bif SA E f oj W s then qz E fz call mP f ops oj (oT E fz call mP fF f ops t K) s else none
  |none=>none
end ev
def BI {X:Type} (N:St→Option X) (Q:Exit→St→Option X):Exit→St→Option X
 |.normal,s=>N s
 |e,s=>Q e s
def LU {X:Type} (id:Nat) (Q:Exit→St→Option X):Exit→St→Option X
 |.exit j7,s=>bif Nat.beq j7 id then Q .normal s else Q (.exit j7) s
 |e,s=>Q e s
def SU {X:Type} (Q:Exit→St→Option X):Exit→St→Option X
 |.goto _,_=>none
 |e,s=>Q e s
def LV {X:Type} (E:Env) (fn:Func) (K:AV→List GO→Option X):Exit→St→Option X
 |.normal,s | .ret,s=>match qh s.marks s.G with
  |some G=>match Ln E (s.bG G) fn with
   |some r=>K r G
   |none=>none
  |none=>none
 |_,_=>none
def wh (s:St) (head:bI) (outs:List (XK × bI)):Exit→St→Option (head.ps.T ⊕ JT outs)
 |.normal,s'=>(head.dec s s').bind fun v=>some (.inl v)
 |e,s'=>(jr s outs e s').bind fun o=>some (.inr o)
noncomputable def vo {X:Type} (a b:Option X):Option X:=@ite _ (a=b) (Classical.propDecidable _) a none
theorem Eu {X:Type} (a:Option X):vo a a=a:=by unfold vo; rw [if_pos rfl]
def wi {X:Type} (fF:Option X→Option X→Option X):Prop:=∀ a b x,fF a b=some x→a=some x∧b=some x
def GM {X:Type} (id:Nat) (K:Bool→List GO→Option X):Exit→St→Option X:=fun e s=>match nth s.G id with
 |some (.loop _ _ fn sl n ps ss bd d _)=>match e with
  |.normal=>K true (aq s.G id (.loop false none fn sl n ps ss bd d false))
  |.ret=>K false (aq s.G id (.loop false (some .ret) fn sl n ps ss bd d true))
  |.exit i=>K false (aq s.G id (.loop false (some (.exit i)) fn sl n ps ss bd d true))
  |_=>none
 |_=>none
def ZQ (fp:Nat):Nat:=fp % 4096
def fpP (fp:Nat):Nat:=fp / 4096
abbrev Wi:=FuncId→Nat→Code→(X:Type)→(Option X→Option X→Option X)→(Exit→St→Option X)→St→Option X
section
variable (C:iN) (ih:Wi)
def BJ {X:Type} (fF:Option X→Option X→Option X):qy X:=fun g args G K=>
 bif C.D.okF g then match C.D.P.funcs[g]? with
   |some fn=>match fn.body with
    | some b => bif !(fn.name == "runtime.NumGoroutine") then ih g 1 b X fF (LV C.D.toEnv fn (bif C.D.xJ g 131072 then SN C.D.toEnv (C.D.xJ g 131073) (C.D.xJ g 131074) fn.resultTypes.toList K else K)) (St.init fn.ntmps args G) else none
    |none=>none
   |none=>none
  else none
def BK {X:Type} (fF:Option X→Option X→Option X):qy X:=fun g args G K=>
 match C.JE g with
 |some e=>(e.ps.dec args).bind fun x=>(e.T x).bind fun y=>K (e.p.enc y) G
 |none=>match C.gt g with
  |some e=>match e.f args G with
   |some (c,r,G')=>bif c then K r G' else none
   |none=>none
  |none=>match C.xt g with
   |some e=>(e.ps.dec args).bind fun x=>(e.T x).bind fun o=>Wg G K e.outs o
   |none=>BJ C ih fF g args G K
def OI (n:Nat):List Tmp→Bool
 |[]=>true
 |t :: l=>Nat.blt t n&&OI n l
def OJ {X:Type} (fF:Option X→Option X→Option X):nA X:=fun id args G K=>match nth G id with
 |some (.loop false _ fp sl n ps ss bd _ false)=>
  bif Nat.beq args.length ps.length&&OI n ps&&bF (C.D.dt (ZQ fp)) ss&&bF (C.D.dt (ZQ fp)) bd then
   ih (ZQ fp) (2 * fpP fp) ss X fF (fun e s1=>match e with
    |.normal=>match nth s1.G id with
     |some (.loop false p fn sl n ps ss Wf d false)=>ih (ZQ fp) (2 * fpP fp+1) bd X fF (GM id K) (s1.bG (aq s1.G id (.loop true p fn sl n ps ss Wf d false)))
     |_=>none
    |_=>none) (St.round id (zj ps args sl) n G)
  else none
 |_=>none
noncomputable def zt (f:FuncId) (p:Nat) (c:Code) (X:Type) (fF:Option X→Option X→Option X) (K:Exit→St→Option X) (s:St):Option X:=
 match c with
 |.skip=>K .normal s
 |.label _=>K .normal s
 |.seq x y=>ih f (2 * p) x X fF (BI (ih f (2 * p+1) y X fF K) K) s
 |.cond c x y=>match bw C.D.toEnv s.ae c with
  |.v (.bool b)=>bif b then ih f (2 * p) x X fF K s else ih f (2 * p+1) y X fF K s
  |_=>none
 |.block id c=>ih f (2 * p) c X fF (LU id K) s
 |.exit id=>K (.exit id) s
 |.ret=>K .ret s
 |.region _ ops false=>OH C.D.toEnv C.fz (BK C ih fF) (OJ C ih fF) f ops.toList ops.toList (K .normal) s
 |.region id ops true=>match C.D.dt f id with
  |some pl=>oT C.D.toEnv C.fz (BK C ih fF) (OJ C ih fF) fF f ops.toList pl.T (K .normal) s
  |none=>none
 |.scope c=>ih f (2 * p) c X fF (SU K) s
 |.loop c=>ih f (2 * p) c X fF (BI (ih f p (.loop c) X fF K) K) s
 |.rangeFunc g ps ss bd=>match s.ro with
  |none=>match bw C.D.toEnv s.ae g with
   |.v (.fn h first cap)=>BK C ih fF h (first++[.yield (s.G.length+1)]++cap) (s.G++[.defers true]++[.loop false none (4096 * p+f) (fO s.ae) s.n ps.toList ss bd s.G.length false])
    (fun _ G'=>match nth G' (s.G.length+1) with
     |some (.loop busy pending _ _ _ _ _ _ _ done)=>bif !busy || done then
       match pending with
       |none=>qZ C.fz ⟨s.ae,s.boxes,aq G' (s.G.length+1) .dead,s.G.length :: s.marks,s.ro,s.n⟩ (K .normal)
       |some .ret=>qZ C.fz ⟨s.ae,s.boxes,aq G' (s.G.length+1) .dead,s.G.length :: s.marks,s.ro,s.n⟩ (K .ret)
       |some (.exit i)=>qZ C.fz ⟨s.ae,s.boxes,aq G' (s.G.length+1) .dead,s.G.length :: s.marks,s.ro,s.n⟩ (K (.exit i))
       |_=>none
      else none
     |_=>none)
   |_=>none
  |some id=>match nth s.G id with
   |some (.loop _ _ _ _ _ _ _ _ d0 _)=>match bw C.D.toEnv s.ae g with
    |.v (.fn h first cap)=>BK C ih fF h (first++[.yield s.G.length]++cap) (s.G++[.loop false none (4096 * p+f) (fO s.ae) s.n ps.toList ss bd d0 false])
     (fun _ G'=>match nth G' s.G.length with
      |some (.loop busy pending _ _ _ _ _ _ _ done)=>bif !busy || done then
        match pending with
        |none=>qZ C.fz ⟨s.ae,s.boxes,aq G' s.G.length .dead,s.marks,s.ro,s.n⟩ (K .normal)
        |some .ret=>qZ C.fz ⟨s.ae,s.boxes,aq G' s.G.length .dead,s.marks,s.ro,s.n⟩ (K .ret)
        |some (.exit i)=>qZ C.fz ⟨s.ae,s.boxes,aq G' s.G.length .dead,s.marks,s.ro,s.n⟩ (K (.exit i))
        |_=>none
       else none
      |_=>none)
    |_=>none
   |_=>none
 |_=>none
def GN:List Oper→List Tmp
 |[]=>[]
 |o :: l=>match o.dst with
  |some d=>d :: GN l
  |none=>GN l
def js:Code→List Tmp→List Tmp
 |.region _ ops _,r=>GN ops.toList++r
 |.seq x y,r=>js x (js y r)
 |.cond _ x y,r=>js x (js y r)
 |.block _ c,r=>js c r
 |.scope c,r=>js c r
 |.loop c,r=>js c r
 |.rangeFunc _ ps a b,r=>ps.toList++js a (js b r)
 |_,r=>r
def qA (W:List Tmp) (t:bI):bI:=⟨t.ps,t.sl,W,t.bx,t.g,t.Wd⟩
def qB (W:List Tmp):List (XK × bI)→List (XK × bI)
 |[]=>[]
 |(k,t) :: l=>(k,qA W t) :: qB W l
def LW:Code→Bool
 |.loop _=>true
 |_=>false
noncomputable def XU {X:Type} (f:FuncId) (p:Nat) (c:Code) (outs:List (XK × bI)) (K:Exit→St→Option X) (s:St):Option X:=
 (zt C ih f p c (JT outs) vo (jr s outs) s).bind fun o=>KA s outs o K
noncomputable def QT {X:Type} (f:FuncId) (p:Nat) (b:Code) (s1:St) (head:bI) (outs:List (XK × bI)) (K:Exit→St→Option X):Option X:=
 (head.dec s1 s1).bind fun v0=>(ar (fun v=>ih f (2 * p) b (head.ps.T ⊕ JT outs) vo (wh s1 head outs) (head.st s1 v)) C.N v0).bind fun o=>KA s1 outs o K
def LX (s:St) (head:bI) (outs:List (XK × bI)) (k:head.ps.T→Option (JT outs)):Exit→St→Option (JT outs)
 |.normal,s'=>(head.dec s s').bind k
 |e,s'=>jr s outs e s'
noncomputable def LY {X:Type} (f:FuncId) (p:Nat) (b:Code) (s1:St) (head:bI) (outs:List (XK × bI)) (K:Exit→St→Option X):Option X:=
 (head.dec s1 s1).bind fun v0=>(dC (fun k v=>ih f (2 * p) b (JT outs) vo (LX s1 head outs k) (head.st s1 v)) C.N v0).bind fun o=>KA s1 outs o K
def LZ {X:Type} (s:St) (head:bI) (K:Exit→St→Option X) (k:head.ps.T→Option X):Exit→St→Option X
 |.normal,s'=>(head.dec s s').bind k
 |e,s'=>K e s'
noncomputable def L0 {X:Type} (f:FuncId) (p:Nat) (b:Code) (s1:St) (head:bI) (K:Exit→St→Option X):Option X:=
 (head.dec s1 s1).bind fun v0=>dC (fun k v=>ih f (2 * p) b X vo (LZ s1 head K k) (head.st s1 v)) C.N v0
def L4 (s:St) (head:bI) (outs:List (XK × bI)) (t:Tmp) (sz:Nat) (e:TypeId):Exit→St→Option (head.ps.T ⊕ JT outs)
 |.normal,s'=>match tR s' t sz e with
  |some (c,s2)=>bif c then (head.dec s s2).bind fun v=>some (.inl v) else none
  |none=>none
 |x,s'=>(jr s outs x s').bind fun o=>some (.inr o)
noncomputable def GP {X:Type} (f:FuncId) (p:Nat) (b:Code) (s1:St) (head:bI) (outs:List (XK × bI)) (t:Tmp) (sz:Nat) (e:TypeId) (K:Exit→St→Option X):Option X:=
 (head.dec s1 s1).bind fun v0=>(ar (fun v=>match wg (head.st s1 v) t sz e with
  |some s2=>ih f (2 * p) b (head.ps.T ⊕ JT outs) vo (L4 s1 head outs t sz e) s2
  |none=>none) C.N v0).bind fun o=>KA s1 outs o K
def L5 {X:Type} (fF:Option X→Option X→Option X) (f:FuncId) (K:Exit→St→Option X):List Bool→Nat→Code→St→Option X
 |[],_,_,s=>K .normal s
 |true :: k,q,.seq x y,s=>ih f (2 * q) x X fF (BI (L5 fF f K k (2 * q+1) y) K) s
 |false :: k,q,.seq x _,s=>L5 fF f K k (2 * q) x s
 |_ :: _,_,_,_=>none
def OK {X:Type} (fF:Option X→Option X→Option X) (f:FuncId):List Bool→Nat→Code→(Exit→St→Option X)→St→Option X
 |[],q,c,K,s=>ih f q c X fF K s
 |true :: k,q,.seq _ y,K,s=>OK fF f k (2 * q+1) y K s
 |false :: k,q,.seq x y,K,s=>OK fF f k (2 * q) x (BI (ih f (2 * q+1) y X fF K) K) s
 |_ :: _,_,_,_,_=>none
noncomputable def XV {X:Type} (f:FuncId) (p:Nat) (b:Code) (k:List Bool) (s1:St) (head:bI) (outs:List (XK × bI)) (K:Exit→St→Option X):Option X:=
 ((L5 ih vo f (wh s1 head outs) k (2 * p) b s1).bind fun r0=>
  Sum.elim (fun v0=>ar (fun v=>OK ih vo f k (2 * p) b (BI (L5 ih vo f (wh s1 head outs) k (2 * p) b) (wh s1 head outs)) (head.st s1 v)) C.N v0) (fun x=>some x) r0).bind fun o=>KA s1 outs o K
noncomputable def zu (f:FuncId) (p:Nat) (c:Code) (X:Type) (fF:Option X→Option X→Option X) (K:Exit→St→Option X) (s:St):Option X:=
 match C.CU f p with
 |none=>zt C ih f p c X fF K s
 |some ct=>match LS s.G.length ct with
  |.join outs=>bif LW c then none else XU C ih f p c (qB (js c []) outs) K s
  |.loop gh head outs=>match c with
   |.loop b=>match gK gh s with
    |some s1=>QT C ih f p b s1 (qA (js b []) head) (qB (js b []) outs) K
    |none=>none
   |_=>none
  |.rot k gh head outs=>match c with
   |.loop b=>match gK gh s with
    |some s1=>XV C ih f p b k s1 (qA (js b []) head) (qB (js b []) outs) K
    |none=>none
   |_=>none
  |.dC gh head outs=>match c with
   |.loop b=>match gK gh s with
    |some s1=>LY C ih f p b s1 (qA (js b []) head) (qB (js b []) outs) K
    |none=>none
   |_=>none
  |.LR gh head=>match c with
   |.loop b=>match gK gh s with
    |some s1=>L0 C ih f p b s1 (qA (js b []) head) K
    |none=>none
   |_=>none
  |.H3 t sz e head outs=>match c with
   |.loop b=>match tR s t sz e with
    |some (cc,s1)=>bif cc then GP C ih f p b s1 (qA (js b []) head) (qB (js b []) outs) t sz e K else none
    |none=>none
   |_=>none
  |.alt _ _ _=>none
end
noncomputable def ev (C:iN):Nat→Wi:=Nat.rec (fun _ _ _ _ _ _ _=>none) (fun _ ih=>zu C ih)
end Go.Am
