/- The abstract machine: calls that leave no trace; forms of states in the rules; nil lists become tokens. -/
import Derived.Test.YtegoimldbgdeiaaAmKI
set_option linter.all false
namespace Go.Am
open Go
section
variable {E:Env} {R R':ak} {w w':World} {β β':Nat→Nat} {s s':St} {a a':Act}
def bk (E:Env) (g:FuncId) (args:List AV) (Q:AV→Prop):Prop:=∀ G,cH E g args G (fun r G'=>G'=G∧Q r)
theorem bk.mono {g:FuncId} {args:List AV} {Q Q':AV→Prop} (h:bk E g args Q) (hq:∀ r,Q r→Q' r):bk E g args Q':=
 fun G=>(h G).mono fun r _ hh=>⟨hh.1,hq r hh.2⟩
theorem bk.of {g:FuncId} {args:List AV} {p:ah} {Q:p.T→Prop} (hc:aE 0 args=true) (hp:p.under 0=true)
  (h:cH E g args [] (fun r _=>∃ y,p.dec r=some y∧Q y)):bk E g args (fun r=>∃ y,r=p.enc y∧Q y):=fun G=>by
 refine ⟨h.1,fun R w cs hg hl=>?_⟩
 let R0:ak:=⟨R.I,[]⟩
 have m0:Mv R R0 0:=⟨fun _ _ h=>h,fun _ _ h=>absurd h (Nat.not_lt_zero _)⟩
 have PQ:dW E R0 w []:=⟨rfl,fun id go ro h1 _=>by simp [nth] at h1,fun i j ri rj b h1=>by simp [R0,nth] at h1,hg.wf,fun g cs sU=>(hg.dK g cs sU).move m0 (cF _ (E.yi g cs sU)),hg.lo⟩
 have sQ:aI R0 w args cs:=hl.move m0 hc
 refine (h.2 R0 w cs PQ sQ).mono fun e w' he=>?_
 cases e with
 | panicked c=>exact he.elim
 | outgrown=>exact he.elim
 | returned c=>
  obtain ⟨r,G',R1,⟨y,hy,hQ⟩,dF,M3,st⟩:=he
  have jX:∀ b,¬ Own R0 (fun _=>0) fw b:=fun b ho=>by
   obtain ⟨id,ro,h1,_⟩:=fc ho
   simp [R0,nth] at h1
  let R2:ak:=⟨R1.I,R.obj⟩
  have e:Ext R w R2 w':=⟨st.ext.I,st.ext.cell,fun id ro h=>⟨ro,h,cp.refl ro⟩,st.ext.lp⟩
  have aZ:∀ b,b < w.heap.size→w'.heap[b]?=w.heap[b]?:=fun b hb=>st.aZ b hb (jX b)
  have im:∀ b o,b < w.heap.size→R1.I b o→R.I b o:=fun b o hb hi=>st.im b o hi hb (jX b)
  have hd:=p.pj hy
  have m:Mv R1 R2 0:=⟨fun _ _ h=>h,fun _ _ h=>absurd h (Nat.not_lt_zero _)⟩
  refine ⟨p.enc y,G,R2,⟨rfl,y,rfl,hQ⟩,Rel.move m (p.cQ y hp) (hd.gj _ _ _ dF),⟨hg.len,fun id go ro h1 h2=>?_,hg.inj,M3.wf,fun g cs sU=>(hg.dK g cs sU).mono e,M3.lo⟩,⟨e,st.os,st.tape,st.output,st.size,fun b hb _=>aZ b hb,fun b _ ho=>?_,fun b o hi hb _=>im b o hb hi⟩⟩
  ·refine (hg.obj id go ro h1 h2).mono e (fun b hb=>aZ b ?_) (fun b o hb hi=>im b o ?_ hi)
   ·exact (hg.obj id go ro h1 h2).lt hb
   ·exact (hg.obj id go ro h1 h2).lt hb
  ·exact ho
theorem eV.UL {c:Code} {Q Q':Exit→St→Prop} (h:eV E c (fun e s'=>aO s s'∧Q' e s') s)
  (hq:∀ e s',Q' e s'→∃ (t:b9) (v:t.ps.T),t.dec s s'=some v∧Q e (t.st s v)):eV E c Q s:=fun R w β a F hr hf=>by
 refine wpIn_mono (h R w β a F hr hf) ?_
 rintro e a' w' ⟨s',R',β',⟨hx,Uc⟩,kA,jI,bI⟩
 obtain ⟨t,v,hd,hQ⟩:=hq e s' Uc
 obtain ⟨h1,h2⟩:=b9.yM hx hr kA jI hd
 exact ⟨_,_,β',hQ,h1,h2,rfl⟩
theorem eV.fM {c:Code} {Q:Exit→St→Prop} {l:List (Loc × Nat × TypeId)} (hs:Am.fM l s=some s') (h:eV E c Q s'):eV E c Q s:=fun R w β a F hr hf=>by
 obtain ⟨R1,k1,k2,k3,_⟩:=il hr hs
 refine wpIn_mono (h R1 w β a F k1 (by rw [k3]; exact hf.mono k2.ext)) ?_
 rintro e a' w' ⟨s2,R2,β2,hq,xC,FX,AR⟩
 exact ⟨s2,R2,β2,hq,xC,k2.trans FX,AR.trans k3⟩
end
end Go.Am
namespace Go.Am
open Go
def Ha (s:St) (dst:Option Tmp) (x:SV):Option (Bool × St × St):=match x with
 | .v (.ptr id 0)=>match nth s.G id with
  | some (.fZ l pos)=>some (Nat.blt pos l.length,(s.bO (az s.G id (.fZ l (pos+(bZ l pos).2)))).put dst (.v (.bh [.bool true,.int .i64 pos,.int .i32 (bZ l pos).1])),s.put dst (.v (.bh [.bool false])))
  | _=>none
 | _=>none
theorem CL {s:St} {dst:Option Tmp} {x:SV} {b:Bool} {s1 s2:St} (h:Ha s dst x=some (b,s1,s2)):kG s dst x=some (bif b then s1 else s2):=by
 unfold Ha at h
 split at h
 ·split at h
  ·rename_i l pos hg
   cases h
   simp only [kG,hg]
   cases Nat.blt pos l.length <;> rfl
  ·cases h
 ·cases h
theorem DW {e:EK} {k:AV}:∀ {es:List (AV × AV)},cq e k es=true→hU e k es=some (eg e k es)
 | [],_=>rfl
 | (k',v) :: l,h=>by
  simp only [cq,Bool.and_eq_true] at h
  obtain ⟨b,hb⟩:=Option.isSome_iff_exists.1 h.1
  simp only [hU,eg,wE,hb]
  cases b
  ·simp only [cond_false]; exact DW h.2
  ·rfl
theorem Hb {e:EK} {k v:AV}:∀ {es:List (AV × AV)},cq e k es=true→ru e k v es=some (cr e k v es)
 | [],_=>rfl
 | (k',v') :: l,h=>by
  simp only [cq,Bool.and_eq_true] at h
  obtain ⟨b,hb⟩:=Option.isSome_iff_exists.1 h.1
  simp only [ru,cr,wE,hb]
  cases b
  ·simp only [cond_false,Hb h.2]
  ·rfl
mutual
def ah.flat:ah→Bool
 | .int _=>true
 | .bool=>true
 | .str=>true
 | .agg ps=>ps.flat
 | .aX _ _ p=>p.flat
 | _=>false
def aH.flat:aH→Bool
 | .nil=>true
 | .cons p ps=>p.flat&&ps.flat
end
theorem AS {α:Type} {f:AV→Bool} {d:AV→α} {g:α→AV} (h:∀ a,f a=true→g (d a)=a):∀ {es:List AV},allFit f es=true→(es.map d).map g=es
 | [],_=>rfl
 | a :: l,hl=>by
  simp only [allFit,Bool.and_eq_true] at hl
  rw [List.map_cons,List.map_cons,h a hl.1,AS h hl.2]
mutual
theorem ah.kf:∀ {p:ah},p.flat=true→∀ {a:AV},p.fits a=true→p.enc (p.ba a)=a
 | .int k,_,a,h=>by
  cases a <;> first | (cases h; done) | skip
  have hk:PJ _ _=true:=h
  rw [BI hk]; rfl
 | .bool,_,a,h=>by cases a <;> first | (cases h; done) | rfl
 | .str,_,a,h=>by cases a <;> first | (cases h; done) | rfl
 | .agg ps,hp,a,h=>by
  cases a <;> first | (cases h; done) | skip
  exact congrArg AV.agg (aH.kf (ps:=ps) hp h)
 | .bh _,hp,_,_=>by cases hp
 | .list _ _,hp,_,_=>by cases hp
 | .own _ _ _,hp,_,_=>by cases hp
 | .aX id sz p,hp,a,h=>by
  cases a <;> first | (cases h; done) | skip
  rename_i k bq es
  cases k <;> first | (cases h; done) | skip
  rename_i iS j
  simp only [ah.fits,Bool.and_eq_true] at h
  have e1:=Nat.eq_of_beq_eq_true h.1.1
  have e2:=Nat.eq_of_beq_eq_true h.1.2
  subst e1 e2
  have hp:p.flat=true:=hp
  show AV.list (.aX id j) sz ((es.map p.ba).map p.enc)=_
  rw [AS (fun a ha=>ah.kf hp ha) h.2]
 | .oH _,hp,_,_=>by cases hp
 | .two _ _,hp,_,_=>by cases hp
theorem aH.kf:∀ {ps:aH},ps.flat=true→∀ {l:List AV},ps.fits l=true→ps.enc (ps.ba l)=l
 | .nil,_,l,h=>by
  cases l with
  | nil=>rfl
  | cons _ _=>cases h
 | .cons p .nil,hp,l,h=>by
  simp only [aH.flat,Bool.and_eq_true] at hp
  cases l with
  | nil=>cases h
  | cons a l=>
   simp only [aH.fits,Bool.and_eq_true] at h
   cases l with
   | nil=>exact congrArg (fun x=>[x]) (ah.kf hp.1 h.1)
   | cons _ _=>cases h.2
 | .cons p (.cons q ps),hp,l,h=>by
  rw [aH.flat,Bool.and_eq_true] at hp
  cases l with
  | nil=>cases h
  | cons a l=>
   rw [aH.fits,Bool.and_eq_true] at h
   have h1:=ah.kf hp.1 h.1
   have h2:=aH.kf (ps:=.cons q ps) hp.2 h.2
   show p.enc (p.ba a) :: (aH.cons q ps).enc ((aH.cons q ps).ba l)=a :: l
   rw [h1,h2]
end
def tv (E:Env) (s:St) (t:TypeId) (m k:SV):Option (Bool × AV × Bool):=match KU E s.G t,E.ti t,mapOf s m,k with
 | some p,some i,some es,.v k=>match i.k with
  | .map kt _ (some z)=>match E.ti kt with
   | some j=>if j.ek.plain&&gT j.ek k&&p.flat then
     some (cq j.ek k es&&p.fits (aK j.ek k (zN E s.G t z) es),p.enc (p.ba (aK j.ek k (zN E s.G t z) es)),(eg j.ek k es).isSome)
    else none
   | none=>none
  | _=>none
 | _,_,_,_=>none
theorem qz {E:Env} {s:St} {t:TypeId} {m k:SV} {v:AV} {b:Bool} (h:tv E s t m k=some (true,v,b)):kF E s t m k=some (v,b):=by
 unfold tv at h
 split at h
 ·rename_i p i es k h1 h2 h3
  split at h
  ·rename_i kt et z hk
   split at h
   ·rename_i j hj
    split at h
    ·rename_i hc
     simp only [Bool.and_eq_true] at hc
     injection h with h
     injection h with h4 h
     injection h with h5 h6
     rw [Bool.and_eq_true] at h4
     rw [ah.kf hc.2 h4.2] at h5
     have e:hU j.ek k es=some (eg j.ek k es):=DW h4.1
     have pY:(j.ek.plain&&gT j.ek k)=true:=by rw [hc.1.1,hc.1.2]; rfl
     have e0:iD E s t m (.v k)=some ((eg j.ek k es).getD z,(eg j.ek k es).isSome):=by
      simp only [iD,h2,h3,hk,hj,pY,if_true,e]
      cases eg j.ek k es <;> rfl
     unfold kF
     rw [e0]
     unfold aK at h5
     cases hg:eg j.ek k es with
     | none=>
      rw [hg] at h5 h6
      subst h5 h6
      rfl
     | some v'=>
      rw [hg] at h5 h6
      subst h5 h6
      rfl
    ·cases h
   ·cases h
  ·cases h
 ·cases h
def tw (E:Env) (s:St) (t:TypeId) (m k x:SV):Option (Bool × St):=match E.ti t,m,k,x with
 | some i,.v (.map id),.v k,.v x=>match i.k,nth s.G id with
  | .map kt _ _,some (.map es)=>match E.ti kt with
   | some j=>if j.ek.plain&&gT j.ek k then some (cq j.ek k es,s.bO (az s.G id (.map (cr j.ek k x es)))) else none
   | none=>none
  | _,_=>none
 | _,_,_,_=>none
theorem qA {E:Env} {s s':St} {t:TypeId} {m k x:SV} (h:tw E s t m k x=some (true,s')):eT E s t m k x=some s':=by
 unfold tw at h
 split at h
 ·rename_i i id k x h1
  split at h
  ·rename_i kt _ _ es hk hg
   split at h
   ·rename_i j hj
    split at h
    ·rename_i hc
     injection h with h
     injection h with h4 h5
     simp only [eT,h1,hk,hg,hj,hc,if_true,Hb h4,h5]
    ·cases h
   ·cases h
  ·cases h
 ·cases h
def Hc (E:Env) (s:St) (dst:Option Tmp) (l:List AV) (tys:List TypeId):Option (Bool × St):=match l,tys with
 | [.iR id off sz len _,.str bs],t :: _=>match E.ti t,nth s.G id with
  | some i,some (.row cs el)=>match i.k with
   | .sl _ esz _ _ _=>if Nat.beq sz esz&&Nat.beq esz 1 then
     some (Nat.ble (off+(bs.take (Nat.min bs.length len)).length) cs.length,
      (s.bO (az s.G id (.row (bR cs off ((bs.take (Nat.min bs.length len)).map pR)) el))).put dst (.v (.int .i64 (Nat.min bs.length len))))
    else none
   | _=>none
  | _,_=>none
 | [.iR id off sz len _,.list _ bq es],t :: _=>match E.ti t,nth s.G id with
  | some i,some (.row cs el)=>match i.k with
   | .sl _ esz _ _ _=>if Nat.beq sz esz&&Nat.beq bq esz then
     some (Nat.ble (off+(au (es.take (Nat.min es.length len))).length) cs.length,
      (s.bO (az s.G id (.row (bR cs off (au (es.take (Nat.min es.length len)))) el))).put dst (.v (.int .i64 (Nat.min es.length len))))
    else none
   | _=>none
  | _,_=>none
 | [.dT id f off sz len,.list _ bq xs],t :: _=>match E.ti t,nth s.G id with
  | some i,some (.dE es Td el)=>match i.k with
   | .sl _ esz _ _ _=>if Nat.beq sz esz&&Nat.beq Td sz&&Nat.beq bq esz then
     some (decide (f=es.length)&&decide (off+Nat.min xs.length len≤es.length),
      (s.bO (az s.G id (.dE (bR es off (xs.take (Nat.min xs.length len))) Td el))).put dst (.v (.int .i64 (Nat.min xs.length len))))
    else none
   | _=>none
  | _,_=>none
 | _,_=>none
theorem CM {E:Env} {s s':St} {dst:Option Tmp} {l:List AV} {tys:List TypeId} (h:Hc E s dst l tys=some (true,s')):bG E s dst .copy l tys=some (true,s'):=by
 unfold Hc at h
 split at h
 ·rename_i id off sz len cap bs t ts
  split at h
  ·rename_i i cs el hi bM
   split at h
   ·rename_i a1 esz a2 a3 a4 hk
    split at h
    ·rename_i hc
     rw [Bool.and_eq_true] at hc
     injection h with h
     injection h with h1 h2
     have sN:(Nat.beq esz 1&&Nat.ble (off+(bs.take (Nat.min bs.length len)).length) cs.length)=true:=by rw [hc.2,h1]; rfl
     simp only [bG,hi,hk,pS,bM,hc.1,if_true,sN,h2]
    ·cases h
   ·cases h
  ·cases h
 ·rename_i id off sz len cap k bq es t ts
  split at h
  ·rename_i i cs el hi bM
   split at h
   ·rename_i a1 esz a2 a3 a4 hk
    split at h
    ·rename_i hc
     rw [Bool.and_eq_true] at hc
     injection h with h
     injection h with h1 h2
     have e2:(Nat.beq bq esz || es.isEmpty)=true:=by rw [hc.2]; rfl
     simp only [bG,hi,hk,pS,bM,hc.1,if_true,e2,h1,h2]
    ·cases h
   ·cases h
  ·cases h
 ·rename_i id f off sz len k bq xs t ts
  split at h
  ·rename_i i es Td el hi bM
   split at h
   ·rename_i a1 esz a2 a3 a4 hk
    split at h
    ·rename_i hc
     rw [Bool.and_eq_true] at hc
     injection h with h
     injection h with h1 h2
     rw [Bool.and_eq_true,decide_eq_true_eq,decide_eq_true_eq] at h1
     obtain ⟨rfl,h1⟩:=h1
     have e2:(Nat.beq sz esz&&Nat.beq Td sz&&(Nat.beq bq esz || xs.isEmpty)&&Nat.ble es.length es.length&&Nat.ble es.length es.length&&Nat.ble (off+Nat.min xs.length len) es.length)=true:=by
      rw [hc.1,hc.2]
      simp only [Bool.true_or,Bool.true_and,Bool.and_eq_true]
      exact ⟨⟨Nat.ble_eq_true_of_le (Nat.le_refl _),Nat.ble_eq_true_of_le (Nat.le_refl _)⟩,Nat.ble_eq_true_of_le h1⟩
     simp only [bG,hi,hk,pS,bM,e2,if_true,h2]
    ·cases h
   ·cases h
  ·cases h
 ·cases h
def tx (s:St) (dst:Option Tmp) (elem esz bg:Nat) (k:LK) (sz:Nat) (es ys:List AV):Option (Bool × St × Bool × St):=
 match k with
 | .nil=>some (ys.isEmpty,s.put dst (.v (.list .nil sz es)),decide ((es.length+ys.length) * bg≤140737488355328),
   (s.bO (s.G++[.tok (es.length+ys.length) esz elem])).put dst (.v (.list (.own s.G.length) esz (es++ys))))
 | .full=>if Nat.beq sz esz then some (ys.isEmpty,s.put dst (.v (.list .full sz es)),decide ((es.length+ys.length) * bg≤140737488355328),
   (s.bO (s.G++[.tok (es.length+ys.length) esz elem])).put dst (.v (.list (.own s.G.length) esz (es++ys)))) else none
 | .own id=>match nth s.G id with
  | some (.tok f bq e')=>if Nat.beq bq esz&&Nat.beq e' elem&&Nat.beq sz esz then
    some (false,s,decide (f=es.length)&&decide ((es.length+ys.length) * bg≤140737488355328),
     (s.bO (F1 s.G id ys.length f esz elem)).put dst (.v (.list (.own id) esz (es++ys)))) else none
  | _=>none
 | .aX id j=>match nth s.G id with
  | some (.aX fs bq e')=>if Nat.beq bq esz&&Nat.beq e' elem&&Nat.beq sz esz then
    some (ys.isEmpty,s.put dst (.v (.list (.aX id j) sz es)),IY fs j es.length&&decide ((es.length+ys.length) * bg≤140737488355328),
     (s.bO (az s.G id (.aX (Ex fs j (es.length+ys.length)) esz elem))).put dst (.v (.list (.aX id j) esz (es++ys)))) else none
  | _=>none
 | .iU=>none
def za (s:St) (dst:Option Tmp) (elem esz bg id f off sz len:Nat) (ys:List AV):Option (Bool × St × Bool × St):=match nth s.G id with
 | some (.dE es bq e')=>if Nat.beq bq esz&&Nat.beq e' elem&&Nat.beq sz esz then
   some (false,s,decide (f=es.length)&&decide (off=0)&&decide (len=f)&&decide ((es.length+ys.length) * bg≤140737488355328),
    (s.bO (az s.G id (.dE (es++ys) esz elem))).put dst (.v (.dT id (es.length+ys.length) 0 esz (es.length+ys.length)))) else none
 | _=>none
def zb (E:Env) (s:St) (dst:Option Tmp) (l:List AV) (tys:List TypeId):Option (Bool × St × Bool × St):=match l,tys with
 | [.list k sz es,.list _ bq ys],[t,u]=>match E.ti t with
  | some i=>match i.k with
   | .sl elem esz _ bg (some z)=>
    if Nat.beq bq esz&&Nat.beq t u&&Nat.ble 1 esz&&Nat.ble 1 bg&&Nat.beq z.cells.length esz&&z.aP then
     tx s dst elem esz bg k sz es ys
    else none
   | _=>none
  | none=>none
 | [.dT id f off sz len,.list _ bq ys],[t,u]=>match E.ti t with
  | some i=>match i.k with
   | .sl elem esz _ bg (some z)=>
    if Nat.beq bq esz&&Nat.beq t u&&Nat.ble 1 esz&&Nat.ble 1 bg&&Nat.beq z.cells.length esz&&z.aP then za s dst elem esz bg id f off sz len ys else none
   | _=>none
  | none=>none
 | [.list k sz es,.str bs],[t,u]=>match E.ti t,E.ti u with
  | some i,some j=>match i.k,j.k with
   | .sl elem esz _ bg (some z),.str=>
    if Nat.beq esz 1&&Nat.ble 1 bg&&Nat.beq z.cells.length esz&&z.aP then tx s dst elem esz bg k sz es (bs.map pR) else none
   | _,_=>none
  | _,_=>none
 | _,_=>none
theorem qB {s s1 s2:St} {dst:Option Tmp} {elem esz bg:Nat} {k:LK} {sz:Nat} {es ys:List AV} {b c:Bool} (h:tx s dst elem esz bg k sz es ys=some (b,s1,c,s2)) (hc:b=false→c=true) :
  ∃ v G',eS s.G elem esz bg (.list k sz es) ys=some (true,v,G')∧(s.bO G').put dst (.v v)=bif b then s1 else s2:=by
 unfold tx at h
 cases k with
 | nil=>
  cases h
  cases ys with
  | nil=>exact ⟨_,_,rfl,rfl⟩
  | cons y ys=>
   have hc:=hc rfl
   exact ⟨_,_,by simp only [eS,hc],rfl⟩
 | full=>
  simp only at h
  cases hs:Nat.beq sz esz with
  | false=>rw [hs] at h; cases h
  | true=>
   rw [hs] at h
   cases h
   cases ys with
   | nil=>exact ⟨_,_,rfl,rfl⟩
   | cons y ys=>
    have hc:=hc rfl
    exact ⟨_,_,by simp only [eS,hs,if_true,hc],rfl⟩
 | own id=>
  simp only at h
  split at h
  ·rename_i f bq e' hg
   split at h
   ·rename_i cC
    cases h
    have hc:=hc rfl
    cases ys with
    | nil=>
     simp only [Bool.and_eq_true] at cC
     have e1:=Nat.eq_of_beq_eq_true cC.1.1
     have e2:=Nat.eq_of_beq_eq_true cC.1.2
     have e3:=Nat.eq_of_beq_eq_true cC.2
     subst e1; subst e2; subst e3
     refine ⟨_,_,rfl,?_⟩
     simp only [cond_false,F1,List.length_nil,Nat.add_zero,mV hg,List.append_nil]
    | cons y ys=>exact ⟨_,_,by simp only [eS,hg,cC,if_true,hc],rfl⟩
   ·cases h
  ·cases h
 | aX id j=>
  simp only at h
  split at h
  ·rename_i fs bq e' hg
   split at h
   ·rename_i cC
    cases h
    cases ys with
    | nil=>exact ⟨_,_,rfl,rfl⟩
    | cons y ys=>
     have hc:=hc rfl
     exact ⟨_,_,by simp only [eS,hg,cC,if_true,hc],rfl⟩
   ·cases h
  ·cases h
 | iU=>cases h
theorem zd {s s1 s2:St} {dst:Option Tmp} {elem esz bg id f off sz len:Nat} {ys:List AV} {b c:Bool} (h:za s dst elem esz bg id f off sz len ys=some (b,s1,c,s2)) (hc:b=false→c=true) :
  ∃ v G',eS s.G elem esz bg (.dT id f off sz len) ys=some (true,v,G')∧(s.bO G').put dst (.v v)=bif b then s1 else s2:=by
 unfold za at h
 split at h
 ·rename_i es bq e' hg
  split at h
  ·rename_i cC
   cases h
   have hc:=hc rfl
   cases ys with
   | nil=>
    simp only [Bool.and_eq_true,decide_eq_true_eq] at hc cC
    have e1:=Nat.eq_of_beq_eq_true cC.1.1
    have e2:=Nat.eq_of_beq_eq_true cC.1.2
    have e3:=Nat.eq_of_beq_eq_true cC.2
    obtain ⟨⟨⟨h1,h2⟩,h3⟩,_⟩:=hc
    subst e1; subst e2; subst e3; subst h1; subst h2; subst h3
    refine ⟨_,_,rfl,?_⟩
    simp only [cond_false,List.length_nil,Nat.add_zero,mV hg,List.append_nil]
   | cons y ys=>exact ⟨_,_,by simp only [eS,hg,cC,if_true,hc],rfl⟩
  ·cases h
 ·cases h
theorem ze {E:Env} {s s1 s2:St} {dst:Option Tmp} {l:List AV} {tys:List TypeId} {b c:Bool} (h:zb E s dst l tys=some (b,s1,c,s2)) (B3:b=false→c=true):bG E s dst .append l tys=some (true,bif b then s1 else s2):=by
 unfold zb at h
 split at h
 ·rename_i k sz es k' bq ys t u
  split at h
  ·rename_i i hi
   split at h
   ·rename_i elem esz a1 bg z hk
    split at h
    ·rename_i hc
     have pY:((Nat.beq bq esz || ys.isEmpty)&&Nat.beq t u&&Nat.ble 1 esz&&Nat.ble 1 bg&&Nat.beq z.cells.length esz&&z.aP)=true:=by
      simp only [Bool.and_eq_true] at hc ⊢
      obtain ⟨⟨⟨⟨⟨c1,c2⟩,c3⟩,c4⟩,c5⟩,c6⟩:=hc
      exact ⟨⟨⟨⟨⟨by rw [c1]; rfl,c2⟩,c3⟩,c4⟩,c5⟩,c6⟩
     obtain ⟨v,G',h1,h2⟩:=qB h B3
     simp only [bG,hi,hk,pY,if_true,h1,h2]
    ·cases h
   ·cases h
  ·cases h
 ·rename_i id f off sz len k' bq ys t u
  split at h
  ·rename_i i hi
   split at h
   ·rename_i elem esz a1 bg z hk
    split at h
    ·rename_i hc
     have pY:((Nat.beq bq esz || ys.isEmpty)&&Nat.beq t u&&Nat.ble 1 esz&&Nat.ble 1 bg&&Nat.beq z.cells.length esz&&z.aP)=true:=by
      simp only [Bool.and_eq_true] at hc ⊢
      obtain ⟨⟨⟨⟨⟨c1,c2⟩,c3⟩,c4⟩,c5⟩,c6⟩:=hc
      exact ⟨⟨⟨⟨⟨by rw [c1]; rfl,c2⟩,c3⟩,c4⟩,c5⟩,c6⟩
     obtain ⟨v,G',h1,h2⟩:=zd h B3
     simp only [bG,hi,hk,pY,if_true,h1,h2]
    ·cases h
   ·cases h
  ·cases h
 ·rename_i k sz es bs t u
  split at h
  ·rename_i i j hi hj
   split at h
   ·rename_i elem esz a1 bg z hk PT
    split at h
    ·rename_i hc
     obtain ⟨v,G',h1,h2⟩:=qB h B3
     simp only [bG,hi,hj,hk,PT,hc,if_true,h1,h2]
    ·cases h
   ·cases h
  ·cases h
 ·cases h
end Go.Am
namespace Go.Am
open Go
def M4 (E:Env) (cut wk:Bool) (t:TypeId) (r:AV) (G:List GO):Option (Bool × AV × List GO):=match r with
 | .dT id f 0 sz len=>match nth G id,E.ti t with
  | some (.dE es bq _),some i=>match i.k with
   | .sl _ esz _ _ _=>if Nat.beq esz sz&&Nat.beq bq sz then
     bif cut then some (decide (f=es.length)&&decide (len≤es.length)&&aR (xh wk es),.list .iU sz (xh wk (es.take len)),az G id .dead)
     else some (decide (f=es.length)&&decide (len=es.length)&&aR (xh wk es),.list .iU sz (xh wk es),az G id .dead)
    else none
   | _=>none
  | _,_=>none
 | .iR id 0 sz len _=>match nth G id,E.ti t,E.IX t with
  | some (.row cs _),some i,some p=>match i.k with
   | .sl _ esz agg _ _=>if Nat.beq esz sz&&Nat.ble 1 sz&&(agg || Nat.beq sz 1)&&p.under 0 then
     some (Nat.beq cs.length (len * sz)&&allFit (fun e=>p.fits e&&e.aP&&(agg || e.one)) (gB agg sz len cs),.list .iU sz ((gB agg sz len cs).map fun e=>p.enc (p.ba e)),az G id .dead)
    else none
   | _=>none
  | _,_,_=>none
 | .agg cs=>match lm wk cs G with
  | (c,eQ,G')=>some (c,.agg eQ,G')
 | .ptr id 0=>match nth G id with
  | some (.row cs _)=>some (aR cs,.ep cs,az G id .dead)
  | _=>none
 | _=>none
def vp (E:Env) (cut wk:Bool):List TypeId→List AV→List GO→Bool × List AV × List GO
 | t :: ts,r :: rs,G=>match M4 E cut wk t r G with
  | some (c,r',G')=>match vp E cut wk ts rs G' with
   | (c',Hd,Lh)=>(c&&c',r' :: Hd,Lh)
  | none=>match vp E cut wk ts rs G with
   | (c',Hd,Lh)=>(c',r :: Hd,Lh)
 | _,rs,G=>(true,rs,G)
def M5 {X:Type} (E:Env) (cut wk:Bool) (ts:List TypeId) (K:AV→List GO→Option X) (r:AV) (G:List GO):Option X:=match r with
 | .bh rs=>match vp E cut wk ts rs G with
  | (c,Hd,G')=>bif c then K (.bh Hd) G' else none
 | r=>match vp E cut wk ts [r] G with
  | (c,[r'],G')=>bif c then K r' G' else none
  | _=>none
section
variable {E:Env} {R:ak} {w:World}
theorem vq {R:ak} {b:Nat} (hI:∀ o,R.I b o):∀ {cs:List AV} {vs:List Value} {o:Nat},aI R w cs vs→(∀ v∈vs,v.oneCell'=true)→(∀ (j:Nat) (v:Value),vs[j]?=some v→w.cell? ⟨b,o+j,none⟩=some v)→ew R w b o cs
 | [],_,o,_,_,_=>.nil
 | a :: cs,_,o,.cons h t,h1,hc=>.cons (hc 0 _ rfl) (h1 _ (by simp)) (hI o) h (vq hI t (fun v hv=>h1 v (by simp [hv])) fun j v hj=>by
   have:=hc (j+1) v (by simpa using hj)
   rwa [show o+(j+1)=o+1+j by omega] at this)
theorem vr {R:ak} {b:Nat} {p:ah} {agg:Bool} {sz:Nat} (hI:∀ o,R.I b o) (hp:p.under 0=true) (eC:(agg || Nat.beq sz 1)=true) (UM:1≤sz):∀ (n:Nat) {cs:List AV} {vs:List Value} {o:Nat},aI R w cs vs→(∀ v∈vs,v.oneCell'=true)→cs.length=n * sz →
  (∀ (j:Nat) (v:Value),vs[j]?=some v→w.cell? ⟨b,o+j,none⟩=some v)→allFit (fun e=>p.fits e&&e.aP&&(agg || e.one)) (gB agg sz n cs)=true→gl R w b o sz ((gB agg sz n cs).map fun e=>p.enc (p.ba e))
 | 0,_,_,_,_,_,_,_,_=>.nil
 | n+1,cs,vs,o,h,h1,hl,hc,hf=>by
  simp only [gB,allFit,Bool.and_eq_true] at hf
  obtain ⟨⟨⟨tZ,SY⟩,hf4⟩,hf3⟩:=hf
  have hlen:=h.length
  have hle:sz≤cs.length:=by rw [hl,Nat.succ_mul]; omega
  have dk:=p.cG tZ
  have kY:(Qw agg (cs.take sz)).cells=cs.take sz:=by
   cases agg with
   | true=>rfl
   | false=>
    have KY:sz=1:=by simpa using eC
    subst KY
    match cs,hle with
    | a :: cs,_=>
     show AV.cells a=[a]
     have ho:a.one=true:=by simpa [Qw,dU] using hf4
     cases a <;> first | rfl | simp [AV.one] at ho
  have hw:=dk.cells SY
  rw [kY] at hw
  have hA:ew R w b o (cs.take sz):=vq hI (h.take sz) (fun v hv=>h1 v (List.mem_of_mem_take hv)) fun j v hj=>hc j v (by
   rw [List.getElem?_take] at hj
   split at hj
   ·exact hj
   ·cases hj)
  refine .cons (by rw [← hw.length,List.length_take,Nat.min_eq_left hle]) (by rw [dk.bh]; exact SY) (k9 (p.cQ _ hp)) (hw.F8 hA) ?_
  exact vr hI hp eC UM n (h.drop sz) (fun v hv=>h1 v (List.mem_of_mem_drop hv)) (by rw [List.length_drop,hl,Nat.succ_mul]; omega) (fun j v hj=>by
   rw [List.getElem?_drop] at hj
   have:=hc _ _ hj
   rwa [show o+(sz+j)=o+sz+j by omega] at this) hf3
theorem Jv {cut wk:Bool} {t:TypeId} {r r':AV} {G G':List GO} {c:Value} (hg:dW E R w G) (hr:Rel R w r c) (h:M4 E cut wk t r G=some (true,r',G')) :
  ∃ R',dW E R' w G'∧Rel R' w r' c∧Ext R w R' w∧R'.obj=R.obj∧∀ b o,R'.I b o→R.I b o∨Live R b:=by
 unfold M4 at h
 split at h
 ·rename_i id f sz len
  obtain ⟨ro,bI⟩:∃ ro,nth R.obj id=some ro:=by
   cases hr with
   | iY q _=>exact ⟨_,q⟩
   | dT q _ _=>exact ⟨_,q⟩
  split at h
  ·rename_i es bq el i bM hi
   split at h
   ·split at h
    ·rename_i hc
     rw [Bool.and_eq_true] at hc
     have q1:=Nat.eq_of_beq_eq_true hc.2
     subst q1
     cases cut with
     | true=>
      simp only [cond_true] at h
      injection h with h; injection h with h1 h; injection h with h2 h3
      subst h2 h3
      rw [Bool.and_eq_true,Bool.and_eq_true,decide_eq_true_eq,decide_eq_true_eq] at h1
      obtain ⟨h1,jd⟩:=h1
      obtain ⟨R',r1,r2,r3,r4,r5⟩:=mn (wk:=wk) hg bM h1.1 h1.2 jd bI
      exact ⟨R',r1,r5 c hr,r2,r3,fun b o hi=>(r4 b o hi).imp_right fun hb=>⟨id,ro,bI,hb⟩⟩
     | false=>
      simp only [cond_false] at h
      injection h with h; injection h with h1 h; injection h with h2 h3
      subst h2 h3
      rw [Bool.and_eq_true,Bool.and_eq_true,decide_eq_true_eq,decide_eq_true_eq] at h1
      obtain ⟨h1,jd⟩:=h1
      obtain ⟨R',r1,r2,r3,r4,r5⟩:=mn (wk:=wk) hg bM h1.1 (Nat.le_of_eq h1.2) jd bI
      have r6:=r5 c hr
      rw [h1.2,List.take_length] at r6
      exact ⟨R',r1,r6,r2,r3,fun b o hi=>(r4 b o hi).imp_right fun hb=>⟨id,ro,bI,hb⟩⟩
    ·cases h
   ·cases h
  ·cases h
 ·rename_i id sz len cap
  split at h
  ·rename_i cs i p bM hi hp
   split at h
   ·rename_i el esz agg eb z hk
    split at h
    ·rename_i hc
     simp only [Bool.and_eq_true] at hc
     injection h with h
     injection h with h1 h
     injection h with h2 h3
     subst h2 h3
     rw [Bool.and_eq_true] at h1
     cases hr with
     | @iR _ _ _ _ _ b hb ic=>
     obtain ⟨vs,k1,k2,k3,k4⟩:=hg.obj id _ _ bM hb
     have zZ:Live R b:=⟨id,_,hb,rfl⟩
     have e:=qk R w b
     have bT:=a8 k1
     refine ⟨R.all b,⟨by show R.obj.length=_; rw [gE]; exact hg.len,fun iS go ro q1 q2=>?_,hg.inj,fun b' o ho=>?_,fun g cs sU=>(hg.dK g cs sU).mono e,hg.lo⟩,?_,e,rfl,fun b' o ho=>?_⟩
     ·rcases cY q1 with ⟨rfl,rfl,_⟩ | ⟨cM,q1⟩
      ·have:ro=.bB b:=Option.some.inj (q2.symm.trans hb)
       subst this
       exact bT
      ·refine (hg.obj iS go ro q1 q2).mono e (fun _ _=>rfl) (fun b' o li ho=>?_)
       rcases ho with ho | ho
       ·exact ho
       ·subst ho
        exact absurd (hg.inj id iS _ _ b' hb q2 rfl li) cM
     ·rcases ho with ho | ho
      ·exact hg.wf b' o ho
      ·subst ho; exact bT
     ·refine Rel.list (vr (R:=R.all b) (fun o=>Or.inr rfl) hc.2 hc.1.2 (Nat.le_of_ble_eq_true hc.1.1.2) len (k2.mono e) k3 (Nat.eq_of_beq_eq_true h1.1) (fun j v hj=>?_) h1.2) ?_ ic trivial
      ·simp only [World.cell?,k1]
       simpa using hj
      ·rw [List.length_map]
       have:∀ (n:Nat) (l:List AV),(gB agg sz n l).length=n:=by
        intro n
        induction n with
        | zero=>intro l; rfl
        | succ n ih=>intro l; simp [gB,ih]
       rw [this]
     ·rcases ho with ho | ho
      ·exact .inl ho
      ·subst ho; exact .inr zZ
    ·cases h
   ·cases h
  ·cases h
 ·rename_i cs
  cases h2:lm wk cs G with
  | mk c' q=>
  obtain ⟨eQ,G2⟩:=q
  rw [h2] at h
  injection h with h; injection h with h1 h; injection h with h3 h4
  subst h1 h3 h4
  cases hr with
  | agg hr sN=>
  obtain ⟨R',r1,r2,r3,r4,r5⟩:=qn hg hr h2
  exact ⟨R',r1,.agg r2 sN,r3,r4,r5⟩
 ·-- an object's cells never change again
  rename_i id
  split at h
  ·rename_i cs el bM
   injection h with h; injection h with h1 h; injection h with h2 h3
   subst h2 h3
   cases hr with
   | @ptr _ _ b bI=>
   obtain ⟨vs,b1,b2,b3,b4⟩:=hg.obj id _ _ bM bI
   have r2:=qk R w b
   have r1:=hg.freeze bI rfl (show gd (R.all b) w .dead (.bB b) from a8 b1)
   refine ⟨R.all b,r1,Rel.ep (ew.make (b2.mono r2) b3 (fun j v hv=>?_) (fun j _=>.inr rfl)),r2,rfl,fun b' o hi=>?_⟩
   ·rw [iH b1,Nat.zero_add]
    exact hv
   ·rcases hi with hi | rfl
    ·exact .inl hi
    ·exact .inr ⟨id,_,bI,rfl⟩
  ·cases h
 ·cases h
theorem tA {cut wk:Bool}:∀ {ts:List TypeId} {rs Hd:List AV} {G G':List GO} {cs:List Value} {R:ak},dW E R w G→aI R w rs cs→vp E cut wk ts rs G=(true,Hd,G') →
  ∃ R',dW E R' w G'∧aI R' w Hd cs∧Ext R w R' w∧R'.obj=R.obj∧∀ b o,R'.I b o→R.I b o∨Live R b
 | [],rs,Hd,G,G',cs,R,hg,hr,h=>by
  cases rs <;> (simp only [vp] at h; cases h; exact ⟨R,hg,hr,Ext.refl R w,rfl,fun _ _ h=>.inl h⟩)
 | _ :: _,[],Hd,G,G',cs,R,hg,hr,h=>by
  simp only [vp] at h; cases h; exact ⟨R,hg,hr,Ext.refl R w,rfl,fun _ _ h=>.inl h⟩
 | t :: ts,r :: rs,Hd,G,G',cs,R,hg,hr,h=>by
  cases hr with
  | cons h0 hr=>
  unfold vp at h
  split at h
  ·rename_i c r' G1 h1
   cases h2:vp E cut wk ts rs G1 with
   | mk c' q=>
   obtain ⟨Q6,G2⟩:=q
   rw [h2] at h
   simp only [Prod.mk.injEq,Bool.and_eq_true] at h
   obtain ⟨⟨rfl,rfl⟩,rfl,rfl⟩:=h
   obtain ⟨R1,a1,a2,a3,a4,a5⟩:=Jv hg h0 h1
   obtain ⟨R2,b1,b2,b3,b4,b5⟩:=tA a1 (hr.mono a3) h2
   refine ⟨R2,b1,.cons (a2.mono b3) b2,a3.trans b3,b4.trans a4,fun b o ho=>?_⟩
   rcases b5 b o ho with ho | ho
   ·exact a5 b o ho
   ·obtain ⟨id,ro,q1,q2⟩:=ho
    rw [a4] at q1
    exact .inr ⟨id,ro,q1,q2⟩
  ·cases h2:vp E cut wk ts rs G with
   | mk c' q=>
   obtain ⟨Q6,G2⟩:=q
   rw [h2] at h
   simp only [Prod.mk.injEq] at h
   obtain ⟨rfl,rfl,rfl⟩:=h
   obtain ⟨R2,b1,b2,b3,b4,b5⟩:=tA hg hr h2
   exact ⟨R2,b1,.cons (h0.mono b3) b2,b3,b4,b5⟩
theorem cH.YC {g:FuncId} {args:List AV} {G:List GO} {X:Type} {cut wk:Bool} {ts:List TypeId} {K:AV→List GO→Option X} {x:X} (h:cH E g args G (fun r G'=>M5 E cut wk ts K r G'=some x)):cH E g args G (fun r G'=>K r G'=some x):=
 ⟨h.1,fun R w cs hg hl=>(h.2 R w cs hg hl).mono fun e w' he=>by
  cases e with
  | panicked c=>exact he.elim
  | outgrown=>exact he.elim
  | returned c=>
   obtain ⟨r,G',R1,hq,dF,M3,st⟩:=he
   have fin:∀ (r':AV) (G2:List GO) (R2:ak),K r' G2=some x→dW E R2 w' G2→Rel R2 w' r' c→Ext R1 w' R2 w'→R2.obj=R1.obj→(∀ b o,R2.I b o→R1.I b o∨Live R1 b)→DI E R w (fun r G'=>K r G'=some x) (.returned c) w':=by
    intro r' G2 R2 k1 k2 k3 k4 k5 k6
    have live:∀ b,Live R2 b→Live R1 b:=fun b ⟨id,ro,q1,q2⟩=>⟨id,ro,by rw [← k5]; exact q1,q2⟩
    refine ⟨r',G2,R2,k1,k3,k2,⟨st.ext.trans k4,st.os,st.tape,st.output,st.size,st.aZ,fun b hb ho=>?_,fun b o hi hb hn=>?_⟩⟩
    ·rcases ho with ho | ⟨k,cs,hk,rfl⟩
     ·exact st.own b hb (.inl (live b ho))
     ·simp [fw,dy] at hk
    ·rcases k6 b o hi with hi | hi
     ·exact st.im b o hi hb hn
     ·exact absurd (st.own b hb (.inl hi)) hn
   unfold M5 at hq
   split at hq
   ·rename_i rs
    cases dF with
    | bh dF=>
    cases h2:vp E cut wk ts rs G' with
    | mk c' q=>
    obtain ⟨Q6,G2⟩:=q
    rw [h2] at hq
    cases c' with
    | false=>cases hq
    | true=>
     obtain ⟨R2,b1,b2,b3,b4,b5⟩:=tA M3 dF h2
     exact fin (.bh Q6) G2 R2 hq b1 (.bh b2) b3 b4 b5
   ·split at hq
    ·rename_i c' r' G2 h2
     cases c' with
     | false=>cases hq
     | true=>
      obtain ⟨R2,b1,b2,b3,b4,b5⟩:=tA M3 (.cons dF .nil) h2
      cases b2 with
      | cons b2 _=>exact fin r' G2 R2 hq b1 b2 b3 b4 b5
    ·cases hq⟩
end
end Go.Am
namespace Go.Am
open Go
inductive RP
 | Li (p:ah)
 | map (pe:ah)
 | ep (ps:aH)
def RP.T:RP→Type
 | .Li p=>p.T
 | .map pe=>List pe.T
 | .ep ps=>ps.T
def RP.enc (n:Nat):(p:RP)→p.T→AV
 | .Li p,x=>p.enc x
 | .map _,_=>.map n
 | .ep ps,x=>.ep (ps.enc x)
def RP.CN:(p:RP)→p.T→List GO
 | .Li _,_=>[]
 | .map pe,(x:List pe.T)=>[.map (ab (x.map pe.enc))]
 | .ep _,_=>[]
def RP.no:RP→Nat
 | .map _=>1
 | _=>0
def rS:List RP→Type
 | []=>Unit
 | [p]=>p.T
 | p :: q :: l=>p.T × rS (q :: l)
def nO:(n:Nat)→(l:List RP)→rS l→List AV
 | _,[],_=>[]
 | n,[p],x=>[p.enc n x]
 | n,p :: q :: l,x=>p.enc n x.1 :: nO (n+p.no) (q :: l) x.2
def gA:(l:List RP)→rS l→List GO
 | [],_=>[]
 | [p],x=>p.CN x
 | p :: q :: l,x=>p.CN x.1++gA (q :: l) x.2
structure RF where
 bh:Bool
 l:List RP
def RF.val (f:RF) (n:Nat) (x:rS f.l):AV:=bif f.bh then .bh (nO n f.l x) else dU (nO n f.l x)
def RP.is:RP→AV→Bool
 | .Li p,v=>match p with
  | .oH u=>cX v u
  | _=>true
 | .map _,v=>match v with
  | .map _=>true
  | _=>false
 | .ep _,v=>match v with
  | .ep _=>true
  | _=>false
def He:List RP→List AV→Bool
 | [],[]=>true
 | p :: l,v :: vs=>p.is v&&He l vs
 | _,_=>false
def RF.args (f:RF) (r:AV):List AV:=bif f.bh then r.L6 else [r]
def RF.xQ (f:RF):AV→Bool
 | .bh _=>f.bh
 | _=>!f.bh
def zf (G:List GO) (used:List Nat) (pe:ah) (v:AV):Option (List pe.T):=match v with
 | .map id=>match nth G id with
  | some (.map es)=>bif IP used id then none else (bif allFit pe.fits (af es) then some ((af es).map pe.ba) else none)
  | _=>none
 | _=>none
def DX (ps:aH) (v:AV):Option ps.T:=match v with
 | .ep cs=>ps.dec cs
 | _=>none
def RP.dec (G:List GO) (used:List Nat):(p:RP)→AV→Option p.T
 | .Li p,v=>p.dec v
 | .map pe,v=>zf G used pe v
 | .ep ps,v=>DX ps v
def rT (used:List Nat):AV→List Nat
 | .map id=>id :: used
 | _=>used
def rU (G:List GO):(used:List Nat)→(l:List RP)→List AV→Option (rS l)
 | _,[],vs=>match vs with
  | []=>some ()
  | _=>none
 | u,[p],vs=>match vs with
  | [v]=>p.dec G u v
  | _=>none
 | u,p :: q :: l,vs=>match vs with
  | v :: vs=>(p.dec G u v).bind fun x=>(rU G (rT u v) (q :: l) vs).bind fun y=>some (x,y)
  | []=>none
def RF.dec (f:RF) (G:List GO) (r:AV):Option (rS f.l):=bif f.xQ r then rU G [] f.l (f.args r) else none
def RP.under:RP→Bool
 | .Li p=>p.under 0
 | .map pe=>pe.under 0
 | .ep ps=>ps.under 0
def RF.under (f:RF):Bool:=f.l.all RP.under&&(f.bh || Nat.beq f.l.length 1)
def XT:List RF→Type
 | []=>Empty
 | [f]=>rS f.l
 | f :: g :: l=>rS f.l ⊕ XT (g :: l)
def Fi (G:List GO) (r:AV):(l:List RF)→Option (XT l)
 | []=>none
 | [f]=>f.dec G r
 | f :: g :: l=>bif f.xQ r&&He f.l (f.args r) then (f.dec G r).bind fun x=>some (.inl x) else (Fi G r (g :: l)).bind fun x=>some (.inr x)
def P3 {α:Type} (G:List GO) (K:AV→List GO→α):(l:List RF)→XT l→α
 | [],o=>Empty.rec (fun _=>α) o
 | [f],o=>K (f.val G.length o) (G++gA f.l o)
 | f :: g :: l,o=>Sum.elim (fun v=>K (f.val G.length v) (G++gA f.l v)) (fun o=>P3 G K (g :: l) o) o
theorem AT {α:Type} {G:List GO} {K:AV→List GO→α} {r:AV} {G':List GO}:∀ (l:List RF) (o:XT l),P3 G (fun r0 G0=>r=r0∧G'=G0) l o→K r G'=P3 G K l o
 | [],o,_=>nomatch o
 | [f],o,h=>by
  have h:r=f.val G.length o∧G'=G++gA f.l o:=h
  rw [h.1,h.2]; rfl
 | f :: g :: l,.inl v,h=>by
  have h:r=f.val G.length v∧G'=G++gA f.l v:=h
  rw [h.1,h.2]; rfl
 | f :: g :: l,.inr o,h=>AT (g :: l) o h
def nP (E:Env) (g:FuncId) (args:List AV) (outs:List RF) (Q:XT outs→Prop):Prop:=
 ∀ G,cH E g args G (fun r G'=>∃ y,Q y∧P3 G (fun r0 G0=>r=r0∧G'=G0) outs y)
section
variable {E:Env} {R R1 R2:ak} {w:World}
theorem di.Lj (m:Mv R R2 0):∀ {es:List (AV × AV)} {l:List AV} {aw:List MapEntry},ji (af es) l→aE 0 l=true→di R w es aw→di R2 w (ab l) aw
 | [],[],[],_,_,_=>trivial
 | [],[],_ :: _,_,_,h=>h.elim
 | [],_ :: _,_,h,_,_=>h.elim
 | (_,_) :: _,[],_,h,_,_=>h.elim
 | (_,_) :: _,_ :: _,[],_,_,h=>h.elim
 | (k,v) :: es,a :: l,en :: aw,hd,hu,h=>by
  obtain ⟨d1,d2⟩:=hd
  simp only [aE,Bool.and_eq_true] at hu
  have hc:=d1.cells rfl
  have hl:[k,v].length=a.cells.length:=hc.length
  cases a with
  | agg cs=>
   match cs,hc,hl with
   | [k',v'],hc,_=>
    have M0:aE 0 [k',v']=true:=hu.1
    simp only [aE,Bool.and_true,Bool.and_eq_true] at M0
    exact ⟨(hc.1 _ _ _ h.1).move m M0.1,(hc.2.1 _ _ _ h.2.1).move m M0.2,di.Lj m d2 hu.2 h.2.2⟩
   | [],_,hl=>simp [AV.cells] at hl
   | [_],_,hl=>simp [AV.cells] at hl
   | _ :: _ :: _ :: _,_,hl=>simp [AV.cells] at hl
  | _=>simp [AV.cells] at hl
theorem ah.vt {p:ah} (h:p.under 0=true):∀ l:List p.T,aE 0 (l.map p.enc)=true
 | []=>rfl
 | x :: l=>by
  show ((p.enc x).under 0&&aE 0 (l.map p.enc))=true
  rw [p.cQ x h,ah.vt h l]
  rfl
def vu (R:ak) (n:Nat) (bs:List Nat):Prop:=∀ k b,nth bs k=some b→nth R.obj (n+k)=some (.bB b)
def DY (R:ak) (w:World) (gs:List GO) (bs:List Nat):Prop:=∀ k go b,nth gs k=some go→nth bs k=some b→gd R w go (.bB b)
theorem RP.Lk (p:RP) (x:p.T):(p.CN x).length=p.no:=by cases p <;> rfl
theorem Hf {ps:aH} {v:AV} {y:ps.T} (h:DX ps v=some y):∃ cs,v=.ep cs∧ps.dec cs=some y:=by
 unfold DX at h
 split at h
 ·exact ⟨_,rfl,h⟩
 ·cases h
theorem Fj {G:List GO} {used:List Nat} {pe:ah} {v:AV} {y:List pe.T} (h:zf G used pe v=some y):∃ id es,v=.map id∧nth G id=some (.map es)∧id∉used∧ji (af es) (y.map pe.enc):=by
 unfold zf at h
 split at h
 ·rename_i id
  split at h
  ·rename_i es FT
   cases hu:IP used id with
   | true=>rw [hu] at h; cases h
   | false=>
    rw [hu,cond_false] at h
    cases hf:allFit pe.fits (af es) with
    | false=>rw [hf] at h; cases h
    | true=>
     rw [hf,cond_true] at h
     have hy:=Option.some.inj h
     refine ⟨id,es,rfl,FT,fun hm=>?_,?_⟩
     ·rw [yX.2 hm] at hu; cases hu
     ·rw [← hy]; exact ji.of (fun v hv=>pe.cG hv) hf
  ·cases h
 ·cases h
theorem CO {used:List Nat} {v:AV} {id:Nat} (h:id∈used):id∈rT used v:=by
 unfold rT
 split
 ·exact List.mem_cons_of_mem _ h
 ·exact h
def zg (R1:ak) (w:World) (used:List Nat) (v:AV) (c:Value) (p:RP) (y:p.T):Prop:=
 ∃ bs:List Nat,bs.length=p.no∧(∀ b∈bs,∃ id,id∉used∧id∈rT used v∧nth R1.obj id=some (.bB b)) ∧
   ∀ (R2:ak) (n:Nat),(∀ b o,R1.I b o→R2.I b o)→vu R2 n bs→Rel R2 w (p.enc n y) c∧DY R2 w (p.CN y) bs
theorem UN {R1 R2:ak} (hI:∀ b o,R1.I b o→R2.I b o):Mv R1 R2 0:=⟨hI,fun _ _ h=>absurd h (Nat.not_lt_zero _)⟩
theorem RP.M6 {used:List Nat} {p:ah} {v:AV} {c:Value} {y:p.T} (hp:p.under 0=true) (hv:Rel R1 w v c) (hd:p.dec v=some y):zg R1 w used v c (.Li p) y:=
 ⟨[],rfl,(fun b hb=>by cases hb),fun R2 n hI _=>⟨Rel.move (UN hI) (p.cQ y hp) ((p.pj hd).gj _ _ _ hv),fun k go b h=>by cases k <;> cases h⟩⟩
theorem RP.Rv {used:List Nat} {ps:aH} {v:AV} {c:Value} {y:ps.T} (hp:ps.under 0=true) (hv:Rel R1 w v c) (hd:DX ps v=some y):zg R1 w used v c (.ep ps) y:=by
 obtain ⟨cs,rfl,hd⟩:=Hf hd
 cases hv with
 | ep hc=>
 exact ⟨[],rfl,(fun b hb=>by cases hb),fun R2 n hI _=>⟨.ep (ew.move (UN hI) ((ps.pj hd).1.F8 hc) (ps.cQ y hp)),fun k go b h=>by cases k <;> cases h⟩⟩
theorem RP.M7 {G1:List GO} (hg:dW E R1 w G1) {used:List Nat} {pe:ah} {v:AV} {c:Value} {y:List pe.T} (hp:pe.under 0=true) (hv:Rel R1 w v c) (hd:zf G1 used pe v=some y):zg R1 w used v c (.map pe) y:=by
 obtain ⟨id,es,rfl,FT,hu,Fk⟩:=Fj hd
 cases hv with
 | map hb=>
 rename_i b
 refine ⟨[b],rfl,fun b' li=>?_,fun R2 n hI mR=>⟨.map (by have:=mR 0 b rfl; simpa using this),fun k go b' h1 h2=>?_⟩⟩
 ·rw [List.mem_singleton] at li
  subst li
  exact ⟨id,hu,List.mem_cons_self,hb⟩
 ·cases k with
  | succ k=>cases h2
  | zero=>
   cases h1; cases h2
   obtain ⟨aw,clock,e1,e2,e3⟩:=hg.obj id _ _ FT hb
   exact ⟨aw,clock,e1,di.Lj (UN hI) Fk (ah.vt hp y) e2,e3⟩
theorem RP.ok {G1:List GO} (hg:dW E R1 w G1) {used:List Nat} {p:RP} {v:AV} {c:Value} {y:p.T} (hp:p.under=true) (hv:Rel R1 w v c) (hd:p.dec G1 used v=some y):zg R1 w used v c p y:=by
 cases p with
 | Li p=>exact RP.M6 hp hv hd
 | ep ps=>exact RP.Rv hp hv hd
 | map pe=>exact RP.M7 hg hp hv hd
theorem fY {α:Type} {l r:List α} {i:Nat} (h:i < l.length):nth (l++r) i=nth l i:=by
 rw [aU,aU,List.getElem?_append_left h]
theorem fj {α:Type} {l r:List α} (i:Nat):nth (l++r) (l.length+i)=nth r i:=by
 rw [aU,aU,List.getElem?_append_right (Nat.le_add_right _ _),Nat.add_sub_cancel_left]
theorem ot {α:Type} {l:List α} {i:Nat} {x:α} (h:nth l i=some x):i < l.length:=by
 rw [aU] at h
 exact (List.getElem?_eq_some_iff.1 h).1
theorem WR.ok {G1:List GO} (hg:dW E R1 w G1):∀ {l:List RP} {used:List Nat} {vs:List AV} {cs:List Value} {y:rS l},l.all RP.under=true→aI R1 w vs cs→rU G1 used l vs=some y →
  ∃ bs:List Nat,bs.length=(gA l y).length∧bs.Nodup∧(∀ b∈bs,∃ id,id∉used∧nth R1.obj id=some (.bB b)) ∧
   ∀ (R2:ak) (n:Nat),(∀ b o,R1.I b o→R2.I b o)→vu R2 n bs→aI R2 w (nO n l y) cs∧DY R2 w (gA l y) bs
 | [],used,vs,cs,y,_,hv,hd=>by
  cases vs with
  | cons _ _=>cases hd
  | nil=>
  cases hv
  exact ⟨[],rfl,List.nodup_nil,(fun b hb=>by cases hb),fun R2 n _ _=>⟨.nil,fun k go b h=>by simp [gA,nth] at h⟩⟩
 | [p],used,vs,cs,y,hu,hv,hd=>by
  match vs,hv,hd with
  | [],_,hd=>cases hd
  | _ :: _ :: _,_,hd=>cases hd
  | [v],.cons hv .nil,hd=>
  have hu:p.under=true:=by simpa using hu
  obtain ⟨bs,h1,h2,h4⟩:=RP.ok hg hu hv hd
  refine ⟨bs,h1.trans (p.Lk y).symm,?_,fun b hb=>let ⟨id,q1,_,q2⟩:=h2 b hb; ⟨id,q1,q2⟩,fun R2 n hI mR=>?_⟩
  ·have:bs.length≤1:=by rw [h1]; cases p <;> simp [RP.no]
   match bs,this with
   | [],_=>exact List.nodup_nil
   | [b],_=>simp
   | _ :: _ :: _,h=>simp at h
  ·obtain ⟨k1,k2⟩:=h4 R2 n hI mR
   exact ⟨.cons k1 .nil,k2⟩
 | p :: q :: l,used,vs,cs,y,hu,hv,hd=>by
  match vs,hv,hd with
  | [],_,hd=>cases hd
  | v :: vs,.cons (c:=c) (cs:=cs) hv Uw,hd=>
  simp only [List.all_cons,Bool.and_eq_true] at hu
  obtain ⟨YD,UO⟩:=hu
  have UO:(q :: l).all RP.under=true:=by simpa using UO
  have hd:((p.dec G1 used v).bind fun x=>(rU G1 (rT used v) (q :: l) vs).bind fun y=>some (x,y))=some y:=hd
  cases hx:p.dec G1 used v with
  | none=>rw [hx] at hd; cases hd
  | some x=>
  rw [hx] at hd
  simp only [Option.bind_some] at hd
  cases hz:rU G1 (rT used v) (q :: l) vs with
  | none=>rw [hz] at hd; cases hd
  | some z=>
  rw [hz] at hd
  simp only [Option.bind_some] at hd
  cases hd
  obtain ⟨bs,h1,h2,h4⟩:=RP.ok hg YD hv hx
  obtain ⟨WS,k1,k0,k2,k4⟩:=WR.ok hg UO Uw hz
  have Jd:bs.length=(p.CN x).length:=h1.trans (p.Lk x).symm
  refine ⟨bs++WS,?_,?_,fun b hb=>?_,fun R2 n hI mR=>?_⟩
  ·show _=(p.CN x++gA (q :: l) z).length
   rw [List.length_append,List.length_append,Jd,k1]
  ·have FQ:bs.Nodup:=by
    have:bs.length≤1:=by rw [h1]; cases p <;> simp [RP.no]
    match bs,this with
    | [],_=>exact List.nodup_nil
    | [b],_=>simp
    | _ :: _ :: _,h=>simp at h
   rw [List.nodup_append]
   refine ⟨FQ,k0,fun a ha b hb e=>?_⟩
   subst e
   obtain ⟨id,_,q2,q3⟩:=h2 a ha
   obtain ⟨iS,r1,r2⟩:=k2 a hb
   have:id=iS:=hg.inj id iS _ _ a q3 r2 rfl rfl
   subst this
   exact r1 q2
  ·rcases List.mem_append.1 hb with hb | hb
   ·obtain ⟨id,q1,_,q2⟩:=h2 b hb
    exact ⟨id,q1,q2⟩
   ·obtain ⟨id,q1,q2⟩:=k2 b hb
    exact ⟨id,fun hm=>q1 (CO hm),q2⟩
  ·have YE:vu R2 n bs:=fun k b hk=>mR k b (by rw [fY (ot hk)]; exact hk)
   have YF:vu R2 (n+p.no) WS:=fun k b hk=>by
    have:=mR (bs.length+k) b (by rw [fj]; exact hk)
    rw [h1] at this
    rw [Nat.add_assoc]; exact this
   obtain ⟨a1,a2⟩:=h4 R2 n hI YE
   obtain ⟨b1,b2⟩:=k4 R2 (n+p.no) hI YF
   refine ⟨.cons a1 b1,fun k go b gS hb=>?_⟩
   change nth (p.CN x++gA (q :: l) z) k=some go at gS
   rcases Nat.lt_or_ge k bs.length with hk | hk
   ·rw [fY (by rw [← Jd]; exact hk)] at gS
    rw [fY hk] at hb
    exact a2 k go b gS hb
   ·obtain ⟨j,rfl⟩:∃ j,k=bs.length+j:=⟨k - bs.length,by omega⟩
    rw [fj] at hb
    rw [Jd,fj] at gS
    exact b2 j go b gS hb
theorem vv:∀ (l:List RP) (n:Nat) (y:rS l),(nO n l y).length=l.length
 | [],_,_=>rfl
 | [_],_,_=>rfl
 | p :: q :: l,n,y=>by
  show (nO (n+p.no) (q :: l) y.2).length+1=(q :: l).length+1
  rw [vv (q :: l)]
theorem nP.YG {R0:ak} {w0:World} {f:RF} {G G1:List GO} {r:AV} {c:Value} {y:rS f.l} (hf:f.under=true) (hG:dW E R0 w0 G) (st:Step ⟨R0.I,[]⟩ w0 (fun _=>0) fw R1 w (fun _=>0) fw) (hg:dW E R1 w G1) (dF:Rel R1 w r c) (hd:f.dec G1 r=some y) :
  ∃ R2,Rel R2 w (f.val G.length y) c∧dW E R2 w (G++gA f.l y)∧Step R0 w0 (fun _=>0) fw R2 w (fun _=>0) fw:=by
 unfold RF.under at hf
 rw [Bool.and_eq_true] at hf
 unfold RF.dec at hd
 obtain ⟨ht,hd⟩:f.xQ r=true∧rU G1 [] f.l (f.args r)=some y:=by
  cases ht:f.xQ r with
  | true=>rw [ht] at hd; exact ⟨rfl,hd⟩
  | false=>rw [ht] at hd; cases hd
 obtain ⟨cs,qa,Rw⟩:∃ cs,aI R1 w (f.args r) cs∧∀ R2 (x:rS f.l) n,aI R2 w (nO n f.l x) cs→Rel R2 w (f.val n x) c:=by
  unfold RF.args RF.val
  cases UP:f.bh with
  | true=>
   have:∃ vs,r=.bh vs:=by
    cases r <;> first | exact ⟨_,rfl⟩ | (simp [RF.xQ,UP] at ht)
   obtain ⟨vs,rfl⟩:=this
   cases dF with
   | bh h=>exact ⟨_,h,fun R2 x n h=>.bh h⟩
  | false=>
   refine ⟨[c],.cons dF .nil,fun R2 x n h=>?_⟩
   simp only [cond_false]
   have hlen:=vv f.l n x
   revert h hlen
   generalize nO n f.l x=l
   intro h hlen
   cases h with
   | cons h _=>exact h
 obtain ⟨bs,h1,h2,h3,h4⟩:=WR.ok hg hf.1 qa hd
 have jX:∀ b,¬ Own (⟨R0.I,[]⟩:ak) (fun _=>0) fw b:=fun b ho=>by
  obtain ⟨id,ro,q1,_⟩:=fc ho
  simp [nth] at q1
 have sT:∀ b∈bs,w0.heap.size≤b:=fun b hb=>by
  obtain ⟨id,_,bM⟩:=h3 b hb
  rcases Nat.lt_or_ge b w0.heap.size with bT | zB
  ·exact absurd (st.own b bT (.inl ⟨id,_,bM,rfl⟩)) (jX b)
  ·exact zB
 let R2:ak:=⟨R1.I,R0.obj++bs.map RO.bB⟩
 have e:Ext R0 w0 R2 w:=⟨st.ext.I,st.ext.cell,fun id ro h=>⟨ro,by rw [fY (ot h)]; exact h,cp.refl ro⟩,st.ext.lp⟩
 have aZ:∀ b,b < w0.heap.size→w.heap[b]?=w0.heap[b]?:=fun b hb=>st.aZ b hb (jX b)
 have im:∀ b o,b < w0.heap.size→R1.I b o→R0.I b o:=fun b o hb hi=>st.im b o hi hb (jX b)
 have UQ:∀ {k ro},nth (bs.map RO.bB) k=some ro→∃ b,nth bs k=some b∧ro=.bB b:=fun {k ro} h=>by
  rw [aU,List.getElem?_map] at h
  cases hb:bs[k]? with
  | none=>rw [hb] at h; cases h
  | some b=>rw [hb] at h; exact ⟨b,by rw [aU]; exact hb,(Option.some.inj h).symm⟩
 have mR:vu R2 R0.obj.length bs:=fun k b hk=>by
  show nth (R0.obj++bs.map RO.bB) (R0.obj.length+k)=_
  rw [fj,aU,List.getElem?_map]
  rw [aU] at hk
  rw [hk]; rfl
 obtain ⟨k1,k2⟩:=h4 R2 R0.obj.length (fun _ _ h=>h) mR
 rw [hG.len] at k1
 have hold:∀ id ro,nth R2.obj id=some ro→nth R0.obj id=some ro∨∃ k b,id=R0.obj.length+k∧nth bs k=some b∧ro=.bB b:=fun id ro h=>by
  rcases Nat.lt_or_ge id R0.obj.length with bT | zB
  ·exact .inl (by rw [← fY (r:=bs.map RO.bB) bT]; exact h)
  ·obtain ⟨k,rfl⟩:∃ k,id=R0.obj.length+k:=⟨id - R0.obj.length,by omega⟩
   have h:nth (R0.obj++bs.map RO.bB) (R0.obj.length+k)=some ro:=h
   rw [fj] at h
   obtain ⟨b,q1,q2⟩:=UQ h
   exact .inr ⟨k,b,rfl,q1,q2⟩
 have Ll:∀ id ro b,nth R0.obj id=some ro→ro.has b→b < w0.heap.size:=fun id ro b h hb=>by
  have hl:=ot h
  rw [hG.len] at hl
  have gS:nth G id=some G[id]:=by rw [aU]; exact List.getElem?_eq_getElem hl
  exact (hG.obj id _ _ gS h).lt hb
 have M8:∀ {k b},nth bs k=some b→b∈bs:=fun {k b} h=>by
  rw [aU] at h
  exact List.mem_of_getElem? h
 refine ⟨R2,Rw R2 y _ k1,⟨?_,fun id go ro q1 q2=>?_,fun i j ri rj b q1 q2 b1 b2=>?_,hg.wf,fun g cs sU=>(hG.dK g cs sU).mono e,hg.lo⟩,⟨e,st.os,st.tape,st.output,st.size,fun b hb _=>aZ b hb,fun b hb ho=>?_,fun b o hi hb _=>im b o hb hi⟩⟩
 ·show (R0.obj++bs.map RO.bB).length=_
  rw [List.length_append,List.length_map,List.length_append,hG.len,h1]
 ·rcases hold id ro q2 with q2 | ⟨k,b,rfl,q3,rfl⟩
  ·have hl:=ot q2
   rw [hG.len] at hl
   rw [fY hl] at q1
   refine (hG.obj id go ro q1 q2).mono e (fun b hb=>aZ b ?_) (fun b o hb hi=>im b o ?_ hi)
   ·exact (hG.obj id go ro q1 q2).lt hb
   ·exact (hG.obj id go ro q1 q2).lt hb
  ·rw [hG.len,fj] at q1
   exact k2 k go b q1 q3
 ·rcases hold i ri q1 with q1 | ⟨k,a,rfl,q3,rfl⟩
  ·rcases hold j rj q2 with q2 | ⟨k',a',rfl,q4,rfl⟩
   ·exact hG.inj i j ri rj b q1 q2 b1 b2
   ·have:b=a':=b2
    subst this
    have:=sT _ (M8 q4)
    have:=Ll i ri b q1 b1
    omega
  ·have YH:b=a:=b1
   subst YH
   rcases hold j rj q2 with q2 | ⟨k',a',rfl,q4,rfl⟩
   ·have:=sT _ (M8 q3)
    have:=Ll j rj b q2 b2
    omega
   ·have:b=a':=b2
    subst this
    have l1:=ot q3
    have l2:=ot q4
    rw [aU] at q3 q4
    have:=(List.getElem?_inj l1 h2).1 (q3.trans q4.symm)
    omega
 ·rcases fc ho with ⟨id,ro,q1,q2⟩
  rcases hold id ro q1 with q1 | ⟨k,a,rfl,q3,rfl⟩
  ·exact .inl ⟨id,ro,q1,q2⟩
  ·have:b=a:=q2
   subst this
   have:=sT _ (M8 q3)
   omega
theorem DZ {G1:List GO} {r:AV}:∀ {outs:List RF} {y:XT outs},Fi G1 r outs=some y→(∀ f∈outs,f.under=true) →
  ∃ (f:RF) (z:rS f.l),f.under=true∧f.dec G1 r=some z∧∀ {α:Type} (G:List GO) (K:AV→List GO→α),P3 G K outs y=K (f.val G.length z) (G++gA f.l z)
 | [],_,h,_=>by cases h
 | [f],y,h,hu=>⟨f,y,hu f (by simp),h,fun _ _=>rfl⟩
 | f :: g :: l,y,h,hu=>by
  simp only [Fi] at h
  cases hb:(f.xQ r&&He f.l (f.args r)) with
  | true=>
   rw [hb] at h
   simp only [cond_true] at h
   cases hx:f.dec G1 r with
   | none=>rw [hx] at h; cases h
   | some x=>
    rw [hx] at h
    cases h
    exact ⟨f,x,hu f (by simp),hx,fun _ _=>rfl⟩
  | false=>
   rw [hb] at h
   simp only [cond_false] at h
   cases hx:Fi G1 r (g :: l) with
   | none=>rw [hx] at h; cases h
   | some x=>
    rw [hx] at h
    cases h
    obtain ⟨f',z,k0,k1,k2⟩:=DZ hx (fun f hf=>hu f (List.mem_cons_of_mem _ hf))
    exact ⟨f',z,k0,k1,fun G K=>k2 G K⟩
theorem nP.of {g:FuncId} {args:List AV} {outs:List RF} {Q:XT outs→Prop} (hc:aE 0 args=true) (hp:∀ f∈outs,f.under=true)
  (h:cH E g args [] (fun r G'=>∃ y,Fi G' r outs=some y∧Q y)):nP E g args outs Q:=fun G=>by
 refine ⟨h.1,fun R w cs hg hl=>?_⟩
 let R0:ak:=⟨R.I,[]⟩
 have m0:Mv R R0 0:=⟨fun _ _ h=>h,fun _ _ h=>absurd h (Nat.not_lt_zero _)⟩
 have PQ:dW E R0 w []:=⟨rfl,fun id go ro h1 _=>by simp [nth] at h1,fun i j ri rj b h1=>by simp [R0,nth] at h1,hg.wf,fun g cs sU=>(hg.dK g cs sU).move m0 (cF _ (E.yi g cs sU)),hg.lo⟩
 have sQ:aI R0 w args cs:=hl.move m0 hc
 refine (h.2 R0 w cs PQ sQ).mono fun e w' he=>?_
 cases e with
 | panicked c=>exact he.elim
 | outgrown=>exact he.elim
 | returned c=>
  obtain ⟨r,G',R1,⟨y,hy,hQ⟩,dF,M3,st⟩:=he
  obtain ⟨f,z,hf,hz,gS⟩:=DZ hy hp
  obtain ⟨R2,k1,k2,k3⟩:=nP.YG hf hg st M3 dF hz
  refine ⟨_,_,R2,⟨y,hQ,?_⟩,k1,k2,k3⟩
  rw [gS]
  exact ⟨rfl,rfl⟩
end
end Go.Am
namespace Go.Am
open Go
structure bf where
 ps:aH
 p:ah
 T:ps.T→Option p.T
def aD (E:Env) (g:FuncId) (e:bf):Prop:=∀ x y,e.T x=some y→bk E g (e.ps.enc x) (fun r=>r=e.p.enc y)
inductive XK
 | norm
 | ret
 | ex (id:Nat)
def XK.is:XK→Exit→Bool
 | .norm,.normal=>true
 | .ret,.ret=>true
 | .ex i,.exit j=>Nat.beq i j
 | _,_=>false
def XK.exit:XK→Exit
 | .norm=>.normal
 | .ret=>.ret
 | .ex i=>.exit i
theorem XK.DS {k:XK} {e:Exit} (h:k.is e=true):e=k.exit:=by
 cases k <;> cases e <;> simp_all [XK.is,XK.exit]
def JT:List (XK × b9)→Type
 | []=>Empty
 | [x]=>x.2.ps.T
 | x :: y :: l=>x.2.ps.T ⊕ JT (y :: l)
def kC (s:St):(outs:List (XK × b9))→Exit→St→Option (JT outs)
 | [],_,_=>none
 | [x],e,s'=>bif x.1.is e then x.2.dec s s' else none
 | x :: y :: l,e,s'=>bif x.1.is e then (x.2.dec s s').bind fun v=>some (.inl v) else (kC s (y :: l) e s').bind fun o=>some (.inr o)
def IR {α:Type} (s:St):(outs:List (XK × b9))→JT outs→(Exit→St→α)→α
 | [],o,_=>Empty.rec (fun _=>α) o
 | [x],o,K=>K x.1.exit (x.2.st s o)
 | x :: y :: l,o,K=>Sum.elim (fun v=>K x.1.exit (x.2.st s v)) (fun o=>IR s (y :: l) o K) o
inductive cR
 | loop (gh:List (Loc × Nat × TypeId)) (head:b9) (outs:List (XK × b9))
 | join (outs:List (XK × b9))
 | UR (k:List Bool) (gh:List (Loc × Nat × TypeId)) (head:b9) (outs:List (XK × b9))
 | WT (n:Nat) (a b:cR)
 | dQ (gh:List (Loc × Nat × TypeId)) (head:b9) (outs:List (XK × b9))
 | Lm (gh:List (Loc × Nat × TypeId)) (head:b9)
def Hg (n:Nat):cR→cR
 | .WT m a b=>bif Nat.beq n m then Hg n a else Hg n b
 | c=>c
def aF {V X:Type} (rd:V→Option (V ⊕ X)):Nat→V→Option X
 | 0,_=>none
 | n+1,v=>(rd v).bind fun o=>Sum.elim (fun v'=>aF rd n v') (fun x=>some x) o
def dQ {V X:Type} (rd:(V→Option X)→V→Option X):Nat→V→Option X
 | 0,_=>none
 | n+1,v=>rd (dQ rd n) v
structure zh (E:Env) (g:FuncId) where
 f:List AV→List GO→Option (Bool × AV × List GO)
 ok:∀ args G r G',f args G=some (true,r,G')→cH E g args G (fun r' Lh=>r'=r∧Lh=G')
structure vw (E:Env) (g:FuncId) where
 ps:aH
 outs:List RF
 T:ps.T→Option (XT outs)
 ok:∀ x y,T x=some y→nP E g (ps.enc x) outs (fun z=>z=y)
structure hJ where
 D:MY
 Hh:FuncId→Option bf
 CP:FuncId→Nat→Option cR
 fz:Bool
 N:Nat
 gt:(g:FuncId)→Option (zh D.toEnv g):=fun _=>none
 xt:(g:FuncId)→Option (vw D.toEnv g):=fun _=>none
def ou {α:Type} (fz:Bool) (s:St) (K:St→α):α:=match fz with
 | true=>CB s K
 | false=>match s with
  | ⟨sl,bx,G,m,ro,n⟩=>K ⟨sl,bx,G,m,ro,n⟩
theorem cz {α:Type} (fz:Bool) (s:St) (K:St→α):ou fz s K=K s:=by
 cases fz
 ·rfl
 ·exact Fe s K
abbrev nQ (X:Type):=FuncId→List AV→List GO→(AV→List GO→Option X)→Option X
abbrev ld (X:Type):=Nat→List AV→List GO→(Bool→List GO→Option X)→Option X
section ev
variable {X:Type}
def zi (E:Env) (s:St) (o:Oper):Option (Int × Nat × (Nat→Oper)):=match o.op with
 | .index t x (.tmp y)=>match bi E s.ae (.tmp y),E.ti t with
  | .v (.int k n),some i=>match i.k with
   | .arr len _ _=>some (n,len,fun j=>{ o with op:=.index t x (.const (.int k j)) })
   | _=>none
  | _,_=>none
 | .indexAddr t x (.tmp y)=>match bi E s.ae (.tmp y),E.ti t with
  | .v (.int k n),some i=>match i.k with
   | .arr len _ _=>match bi E s.ae x with
    | .v (.ep _)=>match E.IX t with
     | some _=>none
     | none=>some (n,len,fun j=>{ o with op:=.indexAddr t x (.const (.int k j)) })
    | _=>some (n,len,fun j=>{ o with op:=.indexAddr t x (.const (.int k j)) })
   | _=>none
  | _,_=>none
 | _=>none
def tB (E:Env) (fz:Bool) (f:FuncId) (g:Nat→Oper) (n:Int) (K:St→Option X) (s:St):Nat→Nat→Option X
 | 0,_=>none
 | m+1,j=>bif decide (n=(j:Int)) then (match an E f s (g j) with
   | some (c,s')=>bif c then ou fz s' K else none
   | _=>none) else tB E fz f g n K s m (j+1)
def M9 (E:Env) (fz:Bool) (call:nQ X) (kL:ld X) (f:FuncId) (o:Oper) (K:St→Option X) (s:St):Option X:=
 match o.op with
 | .call { callee:=.value x,args,.. }=>match bi E s.ae x,kS E s.ae args.toList with
  | .v (.fn g first cap),some l=>call g (first++l++cap) s.G (fun r G'=>ou fz ((s.bO G').put o.dst (.v r)) K)
  | .v (.yield id),some l=>kL id l s.G (fun b G'=>ou fz ((s.bO G').put o.dst (.v (.bool b))) K)
  | _,_=>none
 | .defer _=>none
 | .next x true=>match Ha s o.dst (bi E s.ae x) with
  | some (b,s1,s2)=>bif b then ou fz s1 K else ou fz s2 K
  | none=>none
 | .lookup t m k ok=>match tv E s t (bi E s.ae m) (bi E s.ae k) with
  | some (c,v,b)=>bif c then ou fz (s.put o.dst (.v (if ok then .bh [v,.bool b] else v))) K else none
  | none=>match an E f s o with
   | some (c,s')=>bif c then ou fz s' K else none
   | _=>none
 | .mapUpdate t m k x=>match o.dst,tw E s t (bi E s.ae m) (bi E s.ae k) (bi E s.ae x) with
  | none,some (c,s')=>bif c then ou fz s' K else none
  | _,_=>none
 | .insert t m k x=>match o.dst,tw E s t (bi E s.ae m) (bi E s.ae k) (bi E s.ae x) with
  | none,some (c,s')=>bif c then ou fz s' K else none
  | _,_=>none
 | .call { callee:=.builtin .append,args,argTypes }=>match gk E f s o with
  | some (c,s')=>bif c then ou fz s' K else none
  | none=>match kS E s.ae args.toList with
   | some l=>match zb E s o.dst l argTypes.toList with
    | some (b,s1,c,s2)=>bif b then ou fz s1 K else bif c then ou fz s2 K else none
    | none=>match an E f s o with
     | some (c,s')=>bif c then ou fz s' K else none
     | _=>none
   | none=>none
 | .call { callee:=.builtin .copy,args,argTypes }=>match kS E s.ae args.toList with
  | some l=>match Hc E s o.dst l argTypes.toList with
   | some (c,s')=>bif c then ou fz s' K else none
   | none=>match an E f s o with
    | some (c,s')=>bif c then ou fz s' K else none
    | _=>none
  | none=>none
 | _=>match zi E s o with
  | some (n,len,g)=>tB E fz f g n K s len 0
  | none=>match an E f s o with
   | some (c,s')=>bif c then ou fz s' K else none
   | _=>none
def nR (E:Env) (fz:Bool) (call:nQ X) (kL:ld X) (f:FuncId) (ops:List Oper) (o:Oper) (K:St→Option X) (s:St):Option X:=
 match o.guard with
 | none=>M9 E fz call kL f o K s
 | some (j,want)=>match nA ops j with
  | none=>none
  | some d=>match lk s.ae d with
   | .v (.bool b)=>match want with
    | true=>bif b then ou fz (s.put (some d) (.v (.bool true))) (M9 E fz call kL f o K) else ou fz ((s.put (some d) (.v (.bool false))).put o.dst (.v fG)) K
    | false=>bif b then ou fz ((s.put (some d) (.v (.bool true))).put o.dst (.v fG)) K else ou fz (s.put (some d) (.v (.bool false))) (M9 E fz call kL f o K)
   | .v (.bh [])=>ou fz (s.put o.dst (.v fG)) K
   | _=>none
def zj (E:Env) (fz:Bool) (call:nQ X) (kL:ld X) (f:FuncId) (ops:List Oper) (o:Oper) (K:St→Option X) (s:St):Option X:=
 match o.guard,iE E f s o with
 | none,some s'=>ou fz s' K
 | _,_=>nR E fz call kL f ops o K s
noncomputable def AU {X:Type} (l:List Nat) (F:Nat→Option X):Option X:=match l with
 | []=>none
 | i :: r=>@ite _ (∀ j∈r,F j=F i) (Classical.propDecidable _) (F i) none
theorem Fl {X:Type} {l:List Nat} {F:Nat→Option X} {x:X} (h:AU l F=some x):∀ i∈l,F i=some x:=by
 cases l with
 | nil=>cases h
 | cons i r=>
  have h:@ite _ (∀ j∈r,F j=F i) (Classical.propDecidable _) (F i) none=some x:=h
  by_cases hr:∀ j∈r,F j=F i
  ·rw [if_pos hr] at h
   intro j hj
   rcases List.mem_cons.1 hj with rfl | hj
   ·exact h
   ·rw [hr j hj]; exact h
  ·rw [if_neg hr] at h
   cases h
theorem qC {X:Type} {l:List Nat} {F:Nat→Option X} {x:X} (hl:l≠[]) (h:∀ i∈l,F i=some x):AU l F=some x:=by
 cases l with
 | nil=>exact absurd rfl hl
 | cons i r=>
  show @ite _ (∀ j∈r,F j=F i) (Classical.propDecidable _) (F i) none=some x
  have hr:∀ j∈r,F j=F i:=fun j hj=>by rw [h j (List.mem_cons_of_mem _ hj),h i List.mem_cons_self]
  rw [if_pos hr]
  exact h i List.mem_cons_self
noncomputable def tC (E:Env) (fz:Bool) (call:nQ X) (kL:ld X) (f:FuncId) (ops:List Oper) (o:Oper) (K:St→Option X) (s:St):Option X:=
 match o.guard,sb E f s o,rv E s o with
 | none,some (c,s'),_=>bif c then ou fz s' K else none
 | none,none,some (c,s0,left,g)=>bif c then (bif left.isEmpty then ou fz s0 K else AU left fun i=>bif (g i).1 then ou fz (g i).2 K else none) else none
 | _,_,_=>zj E fz call kL f ops o K s
noncomputable def zk (E:Env) (fz:Bool) (call:nQ X) (kL:ld X) (f:FuncId) (ops:List Oper) (o:Oper) (K:St→Option X) (s:St):Option X:=
 match Ez E f s o with
 | some (c,s')=>bif c then tC E fz call kL f ops o K s' else none
 | none=>tC E fz call kL f ops o K s
noncomputable def Jw (E:Env) (fz:Bool) (call:nQ X) (kL:ld X) (f:FuncId) (ops:List Oper):List Oper→(St→Option X)→St→Option X
 | [],K,s=>K s
 | o :: rest,K,s=>zk E fz call kL f ops o (fun s'=>match xD E f o s' with
  | some s2=>Jw E fz call kL f ops rest K s2
  | none=>none) s
def Na (E:Env) (f:FuncId) (ops:List Oper) (o:Oper) (s:St):Bool:=match o.op,o.dst with
 | .lookup t m k ok,some d=>match zH ops s o,tv E s t (bi E s.ae m) (bi E s.ae k) with
  | some true,some (c,v,b)=>c&&yU (.v (if ok then .bh [v,.bool b] else v)) (lk s.ae d)
  | _,_=>S8 E f ops o s
 | _,_=>S8 E f ops o s
def ov (E:Env) (f:FuncId) (ops:List Oper):List Nat→St→Bool
 | [],_=>true
 | k :: l,s=>(match nth ops k with
  | some ok=>Na E f ops ok s
  | none=>true)&&ov E f ops l s
def oT (E:Env) (fz:Bool) (call:nQ X) (kL:ld X) (eN:Option X→Option X→Option X) (f:FuncId) (ops:List Oper):DT→(St→Option X)→St→Option X
 | .done,K,s=>K s
 | .take j _ t,K,s=>match nth ops j with
  | some oj=>nR E fz call kL f ops oj (oT E fz call kL eN f ops t K) s
  | none=>none
 | .br i re _ t .stop,K,s=>match nth ops i with
  | some oi=>nR E fz call kL f ops oi (fun s'=>bif ov E f ops re s' then oT E fz call kL eN f ops t K s' else none) s
  | none=>none
 | .br i re _ t more,K,s=>eN (match nth ops i with
  | some oi=>nR E fz call kL f ops oi (fun s'=>bif ov E f ops re s' then oT E fz call kL eN f ops t K s' else none) s
  | none=>none) (oT E fz call kL eN f ops more K s)
 | .stop,_,_=>none
 | .al j W t,K,s=>match nth ops j with
  | some oj=>bif MR E f oj W s then nR E fz call kL f ops oj (oT E fz call kL eN f ops t K) s else none
  | none=>none
end ev
def xR {X:Type} (N:St→Option X) (Q:Exit→St→Option X):Exit→St→Option X
 | .normal,s=>N s
 | e,s=>Q e s
def Hi {X:Type} (id:Nat) (Q:Exit→St→Option X):Exit→St→Option X
 | .exit iS,s=>bif Nat.beq iS id then Q .normal s else Q (.exit iS) s
 | e,s=>Q e s
def Nb {X:Type} (Q:Exit→St→Option X):Exit→St→Option X
 | .goto _,_=>none
 | e,s=>Q e s
def Hj {X:Type} (E:Env) (fn:Func) (K:AV→List GO→Option X):Exit→St→Option X
 | .normal,s | .ret,s=>match nC s.marks s.G with
  | some G=>match GI E (s.bO G) fn with
   | some r=>K r G
   | none=>none
  | none=>none
 | _,_=>none
def sE (s:St) (head:b9) (outs:List (XK × b9)):Exit→St→Option (head.ps.T ⊕ JT outs)
 | .normal,s'=>(head.dec s s').bind fun v=>some (.inl v)
 | e,s'=>(kC s outs e s').bind fun o=>some (.inr o)
noncomputable def wV {X:Type} (a b:Option X):Option X:=@ite _ (a=b) (Classical.propDecidable _) a none
def sF {X:Type} (eN:Option X→Option X→Option X):Prop:=∀ a b x,eN a b=some x→a=some x∧b=some x
def CQ {X:Type} (id:Nat) (K:Bool→List GO→Option X):Exit→St→Option X:=fun e s=>match nth s.G id with
 | some (.loop _ _ fn sl n ps py bd d _)=>match e with
  | .normal=>K true (az s.G id (.loop false none fn sl n ps py bd d false))
  | .ret=>K false (az s.G id (.loop false (some .ret) fn sl n ps py bd d true))
  | .exit i=>K false (az s.G id (.loop false (some (.exit i)) fn sl n ps py bd d true))
  | _=>none
 | _=>none
def Te (fp:Nat):Nat:=fp % 4096
def WU (fp:Nat):Nat:=fp / 4096
abbrev P4:=FuncId→Nat→Code→(X:Type)→(Option X→Option X→Option X)→(Exit→St→Option X)→St→Option X
section
variable (C:hJ) (ih:P4)
def xS {X:Type} (eN:Option X→Option X→Option X):nQ X:=fun g args G K=>
 bif C.D.okF g then match C.D.P.funcs[g]? with
   | some fn=>match fn.body with
    | some b => bif !(fn.name == "runtime.NumGoroutine") then ih g 1 b X eN (Hj C.D.toEnv fn (bif C.D.wG g 131072 then M5 C.D.toEnv (C.D.wG g 131073) (C.D.wG g 131074) fn.resultTypes.toList K else K)) (St.init fn.ntmps args G) else none
    | none=>none
   | none=>none
  else none
def xT {X:Type} (eN:Option X→Option X→Option X):nQ X:=fun g args G K=>
 match C.Hh g with
 | some e=>(e.ps.dec args).bind fun x=>(e.T x).bind fun y=>K (e.p.enc y) G
 | none=>match C.gt g with
  | some e=>match e.f args G with
   | some (c,r,G')=>bif c then K r G' else none
   | none=>none
  | none=>match C.xt g with
   | some e=>(e.ps.dec args).bind fun x=>(e.T x).bind fun o=>P3 G K e.outs o
   | none=>xS C ih eN g args G K
def Jx (n:Nat):List Tmp→Bool
 | []=>true
 | t :: l=>Nat.blt t n&&Jx n l
def Jy {X:Type} (eN:Option X→Option X→Option X):ld X:=fun id args G K=>match nth G id with
 | some (.loop false _ fp sl n ps py bd _ false)=>
  bif Nat.beq args.length ps.length&&Jx n ps&&bl (C.D.dt (Te fp)) py&&bl (C.D.dt (Te fp)) bd then
   ih (Te fp) (2 * WU fp) py X eN (fun e s1=>match e with
    | .normal=>match nth s1.G id with
     | some (.loop false p fn sl n ps py P2 d false)=>ih (Te fp) (2 * WU fp+1) bd X eN (CQ id K) (s1.bO (az s1.G id (.loop true p fn sl n ps py P2 d false)))
     | _=>none
    | _=>none) (St.round id (vn ps args sl) n G)
  else none
 | _=>none
noncomputable def vx (f:FuncId) (p:Nat) (c:Code) (X:Type) (eN:Option X→Option X→Option X) (K:Exit→St→Option X) (s:St):Option X:=
 match c with
 | .skip=>K .normal s
 | .label _=>K .normal s
 | .seq x y=>ih f (2 * p) x X eN (xR (ih f (2 * p+1) y X eN K) K) s
 | .cond c x y=>match bi C.D.toEnv s.ae c with
  | .v (.bool b)=>bif b then ih f (2 * p) x X eN K s else ih f (2 * p+1) y X eN K s
  | _=>none
 | .block id c=>ih f (2 * p) c X eN (Hi id K) s
 | .exit id=>K (.exit id) s
 | .ret=>K .ret s
 | .region _ ops false=>Jw C.D.toEnv C.fz (xT C ih eN) (Jy C ih eN) f ops.toList ops.toList (K .normal) s
 | .region id ops true=>match C.D.dt f id with
  | some pl=>oT C.D.toEnv C.fz (xT C ih eN) (Jy C ih eN) eN f ops.toList pl.T (K .normal) s
  | none=>none
 | .scope c=>ih f (2 * p) c X eN (Nb K) s
 | .loop c=>ih f (2 * p) c X eN (xR (ih f p (.loop c) X eN K) K) s
 | .rangeFunc g ps py bd=>match s.ro with
  | none=>match bi C.D.toEnv s.ae g with
   | .v (.fn h first cap)=>xT C ih eN h (first++[.yield (s.G.length+1)]++cap) (s.G++[.defers true]++[.loop false none (4096 * p+f) (eW s.ae) s.n ps.toList py bd s.G.length false])
    (fun _ G'=>match nth G' (s.G.length+1) with
     | some (.loop busy pending _ _ _ _ _ _ _ done)=>bif !busy || done then
       match pending with
       | none=>ou C.fz ⟨s.ae,s.boxes,az G' (s.G.length+1) .dead,s.G.length :: s.marks,s.ro,s.n⟩ (K .normal)
       | some .ret=>ou C.fz ⟨s.ae,s.boxes,az G' (s.G.length+1) .dead,s.G.length :: s.marks,s.ro,s.n⟩ (K .ret)
       | some (.exit i)=>ou C.fz ⟨s.ae,s.boxes,az G' (s.G.length+1) .dead,s.G.length :: s.marks,s.ro,s.n⟩ (K (.exit i))
       | _=>none
      else none
     | _=>none)
   | _=>none
  | some id=>match nth s.G id with
   | some (.loop _ _ _ _ _ _ _ _ d0 _)=>match bi C.D.toEnv s.ae g with
    | .v (.fn h first cap)=>xT C ih eN h (first++[.yield s.G.length]++cap) (s.G++[.loop false none (4096 * p+f) (eW s.ae) s.n ps.toList py bd d0 false])
     (fun _ G'=>match nth G' s.G.length with
      | some (.loop busy pending _ _ _ _ _ _ _ done)=>bif !busy || done then
        match pending with
        | none=>ou C.fz ⟨s.ae,s.boxes,az G' s.G.length .dead,s.marks,s.ro,s.n⟩ (K .normal)
        | some .ret=>ou C.fz ⟨s.ae,s.boxes,az G' s.G.length .dead,s.marks,s.ro,s.n⟩ (K .ret)
        | some (.exit i)=>ou C.fz ⟨s.ae,s.boxes,az G' s.G.length .dead,s.marks,s.ro,s.n⟩ (K (.exit i))
        | _=>none
       else none
      | _=>none)
    | _=>none
   | _=>none
 | _=>none
def CR:List Oper→List Tmp
 | []=>[]
 | o :: l=>match o.dst with
  | some d=>d :: CR l
  | none=>CR l
def jk:Code→List Tmp→List Tmp
 | .region _ ops _,r=>CR ops.toList++r
 | .seq x y,r=>jk x (jk y r)
 | .cond _ x y,r=>jk x (jk y r)
 | .block _ c,r=>jk c r
 | .scope c,r=>jk c r
 | .loop c,r=>jk c r
 | .rangeFunc _ ps a b,r=>ps.toList++jk a (jk b r)
 | _,r=>r
def qD (W:List Tmp) (t:b9):b9:=⟨t.ps,t.sl,W,t.bx,t.g,t.P0⟩
def qE (W:List Tmp):List (XK × b9)→List (XK × b9)
 | []=>[]
 | (k,t) :: l=>(k,qD W t) :: qE W l
def Hk:Code→Bool
 | .loop _=>true
 | _=>false
noncomputable def Rx {X:Type} (f:FuncId) (p:Nat) (c:Code) (outs:List (XK × b9)) (K:Exit→St→Option X) (s:St):Option X:=
 (vx C ih f p c (JT outs) wV (kC s outs) s).bind fun o=>IR s outs o K
noncomputable def Ln {X:Type} (f:FuncId) (p:Nat) (b:Code) (s1:St) (head:b9) (outs:List (XK × b9)) (K:Exit→St→Option X):Option X:=
 (head.dec s1 s1).bind fun v0=>(aF (fun v=>ih f (2 * p) b (head.ps.T ⊕ JT outs) wV (sE s1 head outs) (head.st s1 v)) C.N v0).bind fun o=>IR s1 outs o K
def Hl (s:St) (head:b9) (outs:List (XK × b9)) (k:head.ps.T→Option (JT outs)):Exit→St→Option (JT outs)
 | .normal,s'=>(head.dec s s').bind k
 | e,s'=>kC s outs e s'
noncomputable def Hm {X:Type} (f:FuncId) (p:Nat) (b:Code) (s1:St) (head:b9) (outs:List (XK × b9)) (K:Exit→St→Option X):Option X:=
 (head.dec s1 s1).bind fun v0=>(dQ (fun k v=>ih f (2 * p) b (JT outs) wV (Hl s1 head outs k) (head.st s1 v)) C.N v0).bind fun o=>IR s1 outs o K
def Hn {X:Type} (s:St) (head:b9) (K:Exit→St→Option X) (k:head.ps.T→Option X):Exit→St→Option X
 | .normal,s'=>(head.dec s s').bind k
 | e,s'=>K e s'
noncomputable def Ho {X:Type} (f:FuncId) (p:Nat) (b:Code) (s1:St) (head:b9) (K:Exit→St→Option X):Option X:=
 (head.dec s1 s1).bind fun v0=>dQ (fun k v=>ih f (2 * p) b X wV (Hn s1 head K k) (head.st s1 v)) C.N v0
def Hp {X:Type} (eN:Option X→Option X→Option X) (f:FuncId) (K:Exit→St→Option X):List Bool→Nat→Code→St→Option X
 | [],_,_,s=>K .normal s
 | true :: k,q,.seq x y,s=>ih f (2 * q) x X eN (xR (Hp eN f K k (2 * q+1) y) K) s
 | false :: k,q,.seq x _,s=>Hp eN f K k (2 * q) x s
 | _ :: _,_,_,_=>none
def Jz {X:Type} (eN:Option X→Option X→Option X) (f:FuncId):List Bool→Nat→Code→(Exit→St→Option X)→St→Option X
 | [],q,c,K,s=>ih f q c X eN K s
 | true :: k,q,.seq _ y,K,s=>Jz eN f k (2 * q+1) y K s
 | false :: k,q,.seq x y,K,s=>Jz eN f k (2 * q) x (xR (ih f (2 * q+1) y X eN K) K) s
 | _ :: _,_,_,_,_=>none
noncomputable def Ry {X:Type} (f:FuncId) (p:Nat) (b:Code) (k:List Bool) (s1:St) (head:b9) (outs:List (XK × b9)) (K:Exit→St→Option X):Option X:=
 ((Hp ih wV f (sE s1 head outs) k (2 * p) b s1).bind fun r0=>
  Sum.elim (fun v0=>aF (fun v=>Jz ih wV f k (2 * p) b (xR (Hp ih wV f (sE s1 head outs) k (2 * p) b) (sE s1 head outs)) (head.st s1 v)) C.N v0) (fun x=>some x) r0).bind fun o=>IR s1 outs o K
noncomputable def vy (f:FuncId) (p:Nat) (c:Code) (X:Type) (eN:Option X→Option X→Option X) (K:Exit→St→Option X) (s:St):Option X:=
 match C.CP f p with
 | none=>vx C ih f p c X eN K s
 | some ct=>match Hg s.G.length ct with
  | .join outs=>bif Hk c then none else Rx C ih f p c (qE (jk c []) outs) K s
  | .loop gh head outs=>match c with
   | .loop b=>match fM gh s with
    | some s1=>Ln C ih f p b s1 (qD (jk b []) head) (qE (jk b []) outs) K
    | none=>none
   | _=>none
  | .UR k gh head outs=>match c with
   | .loop b=>match fM gh s with
    | some s1=>Ry C ih f p b k s1 (qD (jk b []) head) (qE (jk b []) outs) K
    | none=>none
   | _=>none
  | .dQ gh head outs=>match c with
   | .loop b=>match fM gh s with
    | some s1=>Hm C ih f p b s1 (qD (jk b []) head) (qE (jk b []) outs) K
    | none=>none
   | _=>none
  | .Lm gh head=>match c with
   | .loop b=>match fM gh s with
    | some s1=>Ho C ih f p b s1 (qD (jk b []) head) K
    | none=>none
   | _=>none
  | .WT _ _ _=>none
end
noncomputable def ev (C:hJ):Nat→P4:=Nat.rec (fun _ _ _ _ _ _ _=>none) (fun _ ih=>vy C ih)
end Go.Am
