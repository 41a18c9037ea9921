/- The abstract machine: calls that leave no trace; forms of states in the rules; nil lists become tokens. -/
import Derived.Test.YtegoimldbgdeiaaAmKJ
set_option linter.all false
open Bool renaming and_eq_true→aae
open Classical renaming propDecidable→aat
open List renaming length_append→aau, mem_cons_of_mem→aay, mem_cons_self→aaA, getElem?_eq_getElem→aaM, length_nil→aaP, nodup_nil→aa0
open Nat renaming eq_of_beq_eq_true→aal, beq→aas, ble→aav, not_lt_zero→aax, lt_or_ge→aa3
open Option renaming isSome_iff_exists→aaK
open Option.some renaming inj→aaT
namespace Go.Am
open Go
section
variable {E:Env} {R R':aj} {w w':World} {β β':Nat→Nat} {s s':St} {a a':Act}
def bU (E:Env) (g:FuncId) (args:List AV) (Q:AV→Prop):Prop:=∀ G,dT E g args G (fun r G'=>G'=G∧Q r)
theorem bU.mono {g:FuncId} {args:List AV} {Q Q':AV→Prop} (h:bU E g args Q) (hq:∀ r,Q r→Q' r):bU E g args Q':=
 fun G=>(h G).mono fun r _ hh=>⟨hh.1,hq r hh.2⟩
theorem bU.of {g:FuncId} {args:List AV} {p:aL} {Q:p.T→Prop} (hc:aR 0 args=true) (hp:p.under 0=true)
  (h:dT E g args [] (fun r _=>∃ y,p.dec r=some y∧Q y)):bU E g args (fun r=>∃ y,r=p.enc y∧Q y):=fun G=>by
 refine ⟨h.1,fun R w cs hg hl=>?_⟩
 let R0:aj:=⟨R.I,[]⟩
 have m0:Mv R R0 0:=⟨fun _ _ h=>h,fun _ _ h=>absurd h (aax _)⟩;have hg0:gG E R0 w []:=⟨rfl,fun id go ro h1 _=>by simp [nth] at h1,fun i j ri rj b h1=>by simp [R0,nth] at h1,hg.wf,fun g cs A7=>(hg.fm g cs A7).move m0 (ee _ (E.Gt g cs A7)),hg.lo⟩;have A3:aW R0 w args cs:=hl.move m0 hc;refine (h.2 R0 w cs hg0 A3).mono fun e w' he=>?_
 cases e with
 |panicked c=>exact he.elim
 |outgrown=>exact he.elim
 |returned c=>
  obtain ⟨r,G',R1,⟨y,hy,hQ⟩,fT,Ua,st⟩:=he;have oG:∀ b,¬ Own R0 (fun _=>0) jG b:=fun b ho=>by
   obtain ⟨id,ro,h1,_⟩:=iF ho;simp [R0,nth] at h1
  let R2:aj:=⟨R1.I,R.obj⟩
  have e:Ext R w R2 w':=⟨st.ext.I,st.ext.cell,fun id ro h=>⟨ro,h,di.refl ro⟩,st.ext.lp⟩;have bh:∀ b,b < w.heap.size→w'.heap[b]?=w.heap[b]?:=fun b hb=>st.bh b hb (oG b)
  have im:∀ b o,b < w.heap.size→R1.I b o→R.I b o:=fun b o hb hi=>st.im b o hi hb (oG b)
  have hd:=p.wu hy;have m:Mv R1 R2 0:=⟨fun _ _ h=>h,fun _ _ h=>absurd h (aax _)⟩;refine ⟨p.enc y,G,R2,⟨rfl,y,rfl,hQ⟩,Rel.move m (p.eK y hp) (hd.jM _ _ _ fT),⟨hg.len,fun id go ro h1 h2=>?_,hg.inj,Ua.wf,fun g cs A7=>(hg.fm g cs A7).mono e,Ua.lo⟩,⟨e,st.os,st.tape,st.output,st.size,fun b hb _=>bh b hb,fun b _ ho=>?_,fun b o hi hb _=>im b o hb hi⟩⟩
  ·refine (hg.obj id go ro h1 h2).mono e (fun b hb=>bh b ?_) (fun b o hb hi=>im b o ?_ hi)
   ·exact (hg.obj id go ro h1 h2).lt hb
   ·exact (hg.obj id go ro h1 h2).lt hb
  ·exact ho
theorem gY.ah9 {c:Code} {Q Q':Exit→St→Prop} (h:gY E c (fun e s'=>aP s s'∧Q' e s') s)
  (hq:∀ e s',Q' e s'→∃ (t:cr) (v:t.ps.T),t.dec s s'=some v∧Q e (t.st s v)):gY E c Q s:=fun R w β a F hr hf=>by
 refine wpIn_mono (h R w β a F hr hf) ?_;rintro e a' w' ⟨s',R',β',⟨hx,hq'⟩,nD,ks,bD⟩;obtain ⟨t,v,hd,hQ⟩:=hq e s' hq';obtain ⟨h1,h2⟩:=cr.HT hx hr nD ks hd;exact ⟨_,_,β',hQ,h1,h2,rfl⟩
theorem gY.jg {c:Code} {Q:Exit→St→Prop} {l:List (Loc × Nat × TypeId)} (hs:Am.jg l s=some s') (h:gY E c Q s'):gY E c Q s:=fun R w β a F hr hf=>by
 obtain ⟨R1,k1,k2,k3,_⟩:=lM hr hs;refine wpIn_mono (h R1 w β a F k1 (by rw [k3]; exact hf.mono k2.ext)) ?_;rintro e a' w' ⟨s2,R2,β2,hq,Fu,AE,Hf⟩;exact ⟨s2,R2,β2,hq,Fu,k2.trans AE,Hf.trans k3⟩
end
end Go.Am
namespace Go.Am
open Go
def Ry (s:St) (dst:Option Tmp) (x:SV):Option (Bool × St × St):=match x with
 |.v (.ptr id 0)=>match nth s.G id with
  |some (.jF l pos)=>some (Nat.blt pos l.length,(s.cj (aE s.G id (.jF l (pos+(dj l pos).2)))).put dst (.v (.bG [.bool true,.int .i64 pos,.int .i32 (dj l pos).1])),s.put dst (.v (.bG [.bool false])))
  |_=>none
 |_=>none
theorem LJ {s:St} {dst:Option Tmp} {x:SV} {b:Bool} {s1 s2:St} (h:Ry s dst x=some (b,s1,s2)):pU s dst x=some (bif b then s1 else s2):=by
 unfold Ry at h;split at h
 ·split at h
  ·rename_i l pos hg;cases h;simp only [pU,hg];cases Nat.blt pos l.length <;> rfl
  ·cases h
 ·cases h
theorem Nc {e:EK} {k:AV}:∀ {es:List (AV × AV)},cX e k es=true→lB e k es=some (gu e k es)
 |[],_=>rfl
 |(k',v) :: l,h=>by
  simp only [cX,aae] at h;obtain ⟨b,hb⟩:=aaK.1 h.1;simp only [lB,gu,Bz,hb];cases b
  ·simp only [cond_false]; exact Nc h.2
  ·rfl
theorem Rz {e:EK} {k v:AV}:∀ {es:List (AV × AV)},cX e k es=true→zh e k v es=some (dq e k v es)
 |[],_=>rfl
 |(k',v') :: l,h=>by
  simp only [cX,aae] at h;obtain ⟨b,hb⟩:=aaK.1 h.1;simp only [zh,dq,Bz,hb];cases b
  ·simp only [cond_false,Rz h.2]
  ·rfl
mutual
def aL.flat:aL→Bool
 |.int _=>true
 |.bool=>true
 |.str=>true
 |.agg ps=>ps.flat
 |.bt _ _ p=>p.flat
 |_=>false
def aU.flat:aU→Bool
 |.nil=>true
 |.cons p ps=>p.flat&&ps.flat
end
theorem I5 {α:Type} {f:AV→Bool} {d:AV→α} {g:α→AV} (h:∀ a,f a=true→g (d a)=a):∀ {es:List AV},allFit f es=true→(es.map d).map g=es
 |[],_=>rfl
 |a :: l,hl=>by
  simp only [allFit,aae] at hl;rw [List.map_cons,List.map_cons,h a hl.1,I5 h hl.2]
mutual
theorem aL.oS:∀ {p:aL},p.flat=true→∀ {a:AV},p.fits a=true→p.enc (p.bB a)=a
 |.int k,_,a,h=>by
  cases a <;> first | (cases h; done) | skip
  have hk:kEq _ _=true:=h;rw [KB hk]; rfl
 |.bool,_,a,h=>by cases a <;> first | (cases h; done) | rfl
 |.str,_,a,h=>by cases a <;> first | (cases h; done) | rfl
 |.agg ps,hp,a,h=>by
  cases a <;> first | (cases h; done) | skip
  exact congrArg AV.agg (aU.oS (ps:=ps) hp h)
 |.bG _,hp,_,_=>by cases hp
 |.list _ _,hp,_,_=>by cases hp
 |.own _ _ _,hp,_,_=>by cases hp
 |.bt id sz p,hp,a,h=>by
  cases a <;> first | (cases h; done) | skip
  rename_i k cL es;cases k <;> first | (cases h; done) | skip
  rename_i nN j;simp only [aL.fits,aae] at h;have e1:=aal h.1.1;have e2:=aal h.1.2;subst e1 e2;have hp:p.flat=true:=hp;show AV.list (.bt id j) sz ((es.map p.bB).map p.enc)=_;rw [I5 (fun a ha=>aL.oS hp ha) h.2]
 |.mw _,hp,_,_=>by cases hp
 |.two _ _,hp,_,_=>by cases hp
theorem aU.oS:∀ {ps:aU},ps.flat=true→∀ {l:List AV},ps.fits l=true→ps.enc (ps.bB l)=l
 |.nil,_,l,h=>by
  cases l with
  |nil=>rfl
  |cons _ _=>cases h
 |.cons p .nil,hp,l,h=>by
  simp only [aU.flat,aae] at hp;cases l with
  |nil=>cases h
  |cons a l=>
   simp only [aU.fits,aae] at h;cases l with
   |nil=>exact congrArg (fun x=>[x]) (aL.oS hp.1 h.1)
   |cons _ _=>cases h.2
 |.cons p (.cons q ps),hp,l,h=>by
  rw [aU.flat,aae] at hp;cases l with
  |nil=>cases h
  |cons a l=>
   rw [aU.fits,aae] at h;have h1:=aL.oS hp.1 h.1;have h2:=aU.oS (ps:=.cons q ps) hp.2 h.2;show p.enc (p.bB a) :: (aU.cons q ps).enc ((aU.cons q ps).bB l)=a :: l;rw [h1,h2]
end
def BH (E:Env) (s:St) (t:TypeId) (m k:SV):Option (Bool × AV × Bool):=match Xg E s.G t,E.ti t,mapOf s m,k with
 |some p,some i,some es,.v k=>match i.k with
  |.map kt _ (some z)=>match E.ti kt with
   |some j=>if j.ek.plain&&kR j.ek k&&p.flat then
     some (cX j.ek k es&&p.fits (bK j.ek k (H5 E s.G t z) es),p.enc (p.bB (bK j.ek k (H5 E s.G t z) es)),(gu j.ek k es).isSome)
    else none
   |none=>none
  |_=>none
 |_,_,_,_=>none
theorem xZ {E:Env} {s:St} {t:TypeId} {m k:SV} {v:AV} {b:Bool} (h:BH E s t m k=some (true,v,b)):pT E s t m k=some (v,b):=by
 unfold BH at h;split at h
 ·rename_i p i es k h1 h2 h3;split at h
  ·rename_i kt et z hk;split at h
   ·rename_i j hj;split at h
    ·rename_i hc;simp only [aae] at hc;injection h with h;injection h with h4 h;injection h with h5 h6;rw [aae] at h4;rw [aL.oS hc.2 h4.2] at h5;have e:lB j.ek k es=some (gu j.ek k es):=Nc h4.1;have xq:(j.ek.plain&&kR j.ek k)=true:=by rw [hc.1.1,hc.1.2]; rfl
     have e0:my E s t m (.v k)=some ((gu j.ek k es).getD z,(gu j.ek k es).isSome):=by
      simp only [my,h2,h3,hk,hj,xq,if_true,e];cases gu j.ek k es <;> rfl
     unfold pT;rw [e0];unfold bK at h5;cases hg:gu j.ek k es with
     |none=>
      rw [hg] at h5 h6;subst h5 h6;rfl
     |some v'=>
      rw [hg] at h5 h6;subst h5 h6;rfl
    ·cases h
   ·cases h
  ·cases h
 ·cases h
def BI (E:Env) (s:St) (t:TypeId) (m k x:SV):Option (Bool × St):=match E.ti t,m,k,x with
 |some i,.v (.map id),.v k,.v x=>match i.k,nth s.G id with
  |.map kt _ _,some (.map es)=>match E.ti kt with
   |some j=>if j.ek.plain&&kR j.ek k then some (cX j.ek k es,s.cj (aE s.G id (.map (dq j.ek k x es)))) else none
   |none=>none
  |_,_=>none
 |_,_,_,_=>none
theorem yd {E:Env} {s s':St} {t:TypeId} {m k x:SV} (h:BI E s t m k x=some (true,s')):ia E s t m k x=some s':=by
 unfold BI at h;split at h
 ·rename_i i id k x h1;split at h
  ·rename_i kt _ _ es hk hg;split at h
   ·rename_i j hj;split at h
    ·rename_i hc;injection h with h;injection h with h4 h5;simp only [ia,h1,hk,hg,hj,hc,if_true,Rz h4,h5]
    ·cases h
   ·cases h
  ·cases h
 ·cases h
def RA (E:Env) (s:St) (dst:Option Tmp) (l:List AV) (tys:List TypeId):Option (Bool × St):=none
theorem LL {E:Env} {s s':St} {dst:Option Tmp} {l:List AV} {tys:List TypeId} (h:RA E s dst l tys=some (true,s')):dm E s dst .copy l tys=some (true,s'):=by
 unfold RA at h;cases h
def BJ (s:St) (dst:Option Tmp) (elem esz bz:Nat) (k:LK) (sz:Nat) (es ys:List AV):Option (Bool × St × Bool × St):=
 match k with
 |.nil=>some (ys.isEmpty,s.put dst (.v (.list .nil sz es)),decide ((es.length+ys.length) * bz≤140737488355328),
   (s.cj (s.G++[.tok (es.length+ys.length) esz elem])).put dst (.v (.list (.own s.G.length) esz (es++ys))))
 |.full=>if aas sz esz then some (ys.isEmpty,s.put dst (.v (.list .full sz es)),decide ((es.length+ys.length) * bz≤140737488355328),
   (s.cj (s.G++[.tok (es.length+ys.length) esz elem])).put dst (.v (.list (.own s.G.length) esz (es++ys)))) else none
 |.own id=>match nth s.G id with
  |some (.tok f cL e')=>if aas cL esz&&aas e' elem&&aas sz esz then
    some (false,s,decide (f=es.length)&&decide ((es.length+ys.length) * bz≤140737488355328),
     (s.cj (QA s.G id ys.length f esz elem)).put dst (.v (.list (.own id) esz (es++ys)))) else none
  |_=>none
 |.bt id j=>match nth s.G id with
  |some (.bt fs cL e')=>if aas cL esz&&aas e' elem&&aas sz esz then
    some (ys.isEmpty,s.put dst (.v (.list (.bt id j) sz es)),Up fs j es.length&&decide ((es.length+ys.length) * bz≤140737488355328),
     (s.cj (aE s.G id (.bt (Ov fs j (es.length+ys.length)) esz elem))).put dst (.v (.list (.bt id j) esz (es++ys)))) else none
  |_=>none
 |.gZ=>none
def Hg (s:St) (dst:Option Tmp) (elem esz bz id f off sz len:Nat) (ys:List AV):Option (Bool × St × Bool × St):=match nth s.G id with
 |some (.bF es cL e')=>if aas cL esz&&aas e' elem&&aas sz esz then
   some (false,s,decide (f=es.length)&&decide (off=0)&&decide (len=f)&&decide ((es.length+ys.length) * bz≤140737488355328),
    (s.cj (aE s.G id (.bF (es++ys) esz elem))).put dst (.v (.eH id (es.length+ys.length) 0 esz (es.length+ys.length)))) else none
 |_=>none
def Hh (E:Env) (s:St) (dst:Option Tmp) (l:List AV) (tys:List TypeId):Option (Bool × St × Bool × St):=match l,tys with
 |[.list k sz es,.list _ cL ys],[t,u]=>match E.ti t with
  |some i=>match i.k with
   |.sl elem esz _ bz (some z)=>
    if aas cL esz&&aas t u&&aav 1 esz&&aav 1 bz&&aas z.cells.length esz&&z.ba then
     BJ s dst elem esz bz k sz es ys
    else none
   |_=>none
  |none=>none
 |[.eH id f off sz len,.list _ cL ys],[t,u]=>match E.ti t with
  |some i=>match i.k with
   |.sl elem esz _ bz (some z)=>
    if aas cL esz&&aas t u&&aav 1 esz&&aav 1 bz&&aas z.cells.length esz&&z.ba then Hg s dst elem esz bz id f off sz len ys else none
   |_=>none
  |none=>none
 |[.list k sz es,.str bs],[t,u]=>match E.ti t,E.ti u with
  |some i,some j=>match i.k,j.k with
   |.sl elem esz _ bz (some z),.str=>
    if aas esz 1&&aav 1 bz&&aas z.cells.length esz&&z.ba then BJ s dst elem esz bz k sz es (bs.map H3) else none
   |_,_=>none
  |_,_=>none
 |_,_=>none
theorem ye {s s1 s2:St} {dst:Option Tmp} {elem esz bz:Nat} {k:LK} {sz:Nat} {es ys:List AV} {b c:Bool} (h:BJ s dst elem esz bz k sz es ys=some (b,s1,c,s2)) (hc:b=false→c=true) :
  ∃ v G',hZ s.G elem esz bz (.list k sz es) ys=some (true,v,G')∧(s.cj G').put dst (.v v)=bif b then s1 else s2:=by
 unfold BJ at h;cases k with
 |nil=>
  cases h;cases ys with
  |nil=>exact ⟨_,_,rfl,rfl⟩
  |cons y ys=>
   have hc:=hc rfl;exact ⟨_,_,by simp only [hZ,hc],rfl⟩
 |full=>
  simp only at h;cases hs:aas sz esz with
  |false=>rw [hs] at h; cases h
  |true=>
   rw [hs] at h;cases h;cases ys with
   |nil=>exact ⟨_,_,rfl,rfl⟩
   |cons y ys=>
    have hc:=hc rfl;exact ⟨_,_,by simp only [hZ,hs,if_true,hc],rfl⟩
 |own id=>
  simp only at h;split at h
  ·rename_i f cL e' hg;split at h
   ·rename_i dN;cases h;have hc:=hc rfl;cases ys with
    |nil=>
     simp only [aae] at dN;have e1:=aal dN.1.1;have e2:=aal dN.1.2;have e3:=aal dN.2;subst e1; subst e2; subst e3;refine ⟨_,_,rfl,?_⟩;simp only [cond_false,QA,aaP,Nat.add_zero,xl hg,List.append_nil]
    |cons y ys=>exact ⟨_,_,by simp only [hZ,hg,dN,if_true,hc],rfl⟩
   ·cases h
  ·cases h
 |bt id j=>
  simp only at h;split at h
  ·rename_i fs cL e' hg;split at h
   ·rename_i dN;cases h;cases ys with
    |nil=>exact ⟨_,_,rfl,rfl⟩
    |cons y ys=>
     have hc:=hc rfl;exact ⟨_,_,by simp only [hZ,hg,dN,if_true,hc],rfl⟩
   ·cases h
  ·cases h
 |gZ=>cases h
theorem Hi {s s1 s2:St} {dst:Option Tmp} {elem esz bz id f off sz len:Nat} {ys:List AV} {b c:Bool} (h:Hg s dst elem esz bz id f off sz len ys=some (b,s1,c,s2)) (hc:b=false→c=true) :
  ∃ v G',hZ s.G elem esz bz (.eH id f off sz len) ys=some (true,v,G')∧(s.cj G').put dst (.v v)=bif b then s1 else s2:=by
 unfold Hg at h;split at h
 ·rename_i es cL e' hg;split at h
  ·rename_i dN;cases h;have hc:=hc rfl;cases ys with
   |nil=>
    simp only [aae,decide_eq_true_eq] at hc dN;have e1:=aal dN.1.1;have e2:=aal dN.1.2;have e3:=aal dN.2;obtain ⟨⟨⟨h1,h2⟩,h3⟩,_⟩:=hc;subst e1; subst e2; subst e3; subst h1; subst h2; subst h3;refine ⟨_,_,rfl,?_⟩;simp only [cond_false,aaP,Nat.add_zero,xl hg,List.append_nil]
   |cons y ys=>exact ⟨_,_,by simp only [hZ,hg,dN,if_true,hc],rfl⟩
  ·cases h
 ·cases h
theorem Hj {E:Env} {s s1 s2:St} {dst:Option Tmp} {l:List AV} {tys:List TypeId} {b c:Bool} (h:Hh E s dst l tys=some (b,s1,c,s2)) (MU:b=false→c=true):dm E s dst .append l tys=some (true,bif b then s1 else s2):=by
 unfold Hh at h;split at h
 ·rename_i k sz es k' cL ys t u;split at h
  ·rename_i i hi;split at h
   ·rename_i elem esz a1 bz z hk;split at h
    ·rename_i hc;have xq:((aas cL esz || ys.isEmpty)&&aas t u&&aav 1 esz&&aav 1 bz&&aas z.cells.length esz&&z.ba)=true:=by
      simp only [aae] at hc ⊢;obtain ⟨⟨⟨⟨⟨c1,c2⟩,c3⟩,c4⟩,c5⟩,c6⟩:=hc;exact ⟨⟨⟨⟨⟨by rw [c1]; rfl,c2⟩,c3⟩,c4⟩,c5⟩,c6⟩
     obtain ⟨v,G',h1,h2⟩:=ye h MU;simp only [dm,hi,hk,xq,if_true,h1,h2]
    ·cases h
   ·cases h
  ·cases h
 ·rename_i id f off sz len k' cL ys t u;split at h
  ·rename_i i hi;split at h
   ·rename_i elem esz a1 bz z hk;split at h
    ·rename_i hc;have xq:((aas cL esz || ys.isEmpty)&&aas t u&&aav 1 esz&&aav 1 bz&&aas z.cells.length esz&&z.ba)=true:=by
      simp only [aae] at hc ⊢;obtain ⟨⟨⟨⟨⟨c1,c2⟩,c3⟩,c4⟩,c5⟩,c6⟩:=hc;exact ⟨⟨⟨⟨⟨by rw [c1]; rfl,c2⟩,c3⟩,c4⟩,c5⟩,c6⟩
     obtain ⟨v,G',h1,h2⟩:=Hi h MU;simp only [dm,hi,hk,xq,if_true,h1,h2]
    ·cases h
   ·cases h
  ·cases h
 ·rename_i k sz es bs t u;split at h
  ·rename_i i j hi hj;split at h
   ·rename_i elem esz a1 bz z hk hjk;split at h
    ·rename_i hc;obtain ⟨v,G',h1,h2⟩:=ye h MU;simp only [dm,hi,hj,hk,hjk,hc,if_true,h1,h2]
    ·cases h
   ·cases h
  ·cases h
 ·cases h
end Go.Am
namespace Go.Am
open Go
def Zw (E:Env) (cut wk:Bool) (t:TypeId) (r:AV) (G:List GO):Option (Bool × AV × List GO):=match r with
 |.eH id f 0 sz len=>match nth G id,E.ti t with
  |some (.bF es cL _),some i=>match i.k with
   |.sl _ esz _ _ _=>if aas esz sz&&aas cL sz then
     bif cut then some (decide (f=es.length)&&decide (len≤es.length)&&aN (Fb wk es),.list .gZ sz (Fb wk (es.take len)),aE G id .dead)
     else some (decide (f=es.length)&&decide (len=es.length)&&aN (Fb wk es),.list .gZ sz (Fb wk es),aE G id .dead)
    else none
   |_=>none
  |_,_=>none
 |.oA id 0 sz len _=>match nth G id,E.ti t,E.Uo t with
  |some (.row cs _),some i,some p=>match i.k with
   |.sl _ esz agg _ _=>if aas esz sz&&aav 1 sz&&(agg || aas sz 1)&&p.under 0 then
     some (aas cs.length (len * sz)&&allFit (fun e=>p.fits e&&e.ba&&(agg || e.one)) (kh agg sz len cs),.list .gZ sz ((kh agg sz len cs).map fun e=>p.enc (p.bB e)),aE G id .dead)
    else none
   |_=>none
  |_,_,_=>none
 |.agg cs=>match qP wk cs G with
  |(c,gr,G')=>some (c,.agg gr,G')
 |.ptr id 0=>match nth G id with
  |some (.row cs _)=>some (aN cs,.ep cs,aE G id .dead)
  |_=>none
 |_=>none
def Dh (E:Env) (cut wk:Bool):List TypeId→List AV→List GO→Bool × List AV × List GO
 |t :: ts,r :: rs,G=>match Zw E cut wk t r G with
  |some (c,r',G')=>match Dh E cut wk ts rs G' with
   |(c',RB,Nd)=>(c&&c',r' :: RB,Nd)
  |none=>match Dh E cut wk ts rs G with
   |(c',RB,Nd)=>(c',r :: RB,Nd)
 |_,rs,G=>(true,rs,G)
def Zx {X:Type} (E:Env) (cut wk:Bool) (ts:List TypeId) (K:AV→List GO→Option X) (r:AV) (G:List GO):Option X:=match r with
 |.bG rs=>match Dh E cut wk ts rs G with
  |(c,RB,G')=>bif c then K (.bG RB) G' else none
 |r=>match Dh E cut wk ts [r] G with
  |(c,[r'],G')=>bif c then K r' G' else none
  |_=>none
section
variable {E:Env} {R:aj} {w:World}
theorem Di {R:aj} {b:Nat} (hI:∀ o,R.I b o):∀ {cs:List AV} {vs:List Value} {o:Nat},aW R w cs vs→(∀ v∈vs,v.oneCell'=true)→(∀ (j:Nat) (v:Value),vs[j]?=some v→w.cell? ⟨b,o+j,none⟩=some v)→gz R w b o cs
 |[],_,o,_,_,_=>.nil
 |a :: cs,_,o,.cons h t,h1,hc=>.cons (hc 0 _ rfl) (h1 _ (by simp)) (hI o) h (Di hI t (fun v hv=>h1 v (by simp [hv])) fun j v hj=>by
   have:=hc (j+1) v (by simpa using hj);rwa [show o+(j+1)=o+1+j by omega] at this)
theorem Dj {R:aj} {b:Nat} {p:aL} {agg:Bool} {sz:Nat} (hI:∀ o,R.I b o) (hp:p.under 0=true) (gX:(agg || aas sz 1)=true) (aia:1≤sz):∀ (n:Nat) {cs:List AV} {vs:List Value} {o:Nat},aW R w cs vs→(∀ v∈vs,v.oneCell'=true)→cs.length=n * sz →
  (∀ (j:Nat) (v:Value),vs[j]?=some v→w.cell? ⟨b,o+j,none⟩=some v)→allFit (fun e=>p.fits e&&e.ba&&(agg || e.one)) (kh agg sz n cs)=true→jO R w b o sz ((kh agg sz n cs).map fun e=>p.enc (p.bB e))
 |0,_,_,_,_,_,_,_,_=>.nil
 |n+1,cs,vs,o,h,h1,hl,hc,hf=>by
  simp only [kh,allFit,aae] at hf;obtain ⟨⟨⟨A6,hf2⟩,hf4⟩,hf3⟩:=hf;have hlen:=h.length;have hle:sz≤cs.length:=by rw [hl,Nat.succ_mul]; omega
  have dk:=p.eg A6;have qx:(mkD agg (cs.take sz)).cells=cs.take sz:=by
   cases agg with
   |true=>rfl
   |false=>
    have TW:sz=1:=by simpa using gX
    subst TW
    match cs,hle with
    |a :: cs,_=>
     show AV.cells a=[a];have ho:a.one=true:=by simpa [mkD,fU] using hf4
     cases a <;> first | rfl | simp [AV.one] at ho
  have hw:=dk.cells hf2;rw [qx] at hw;have hA:gz R w b o (cs.take sz):=Di hI (h.take sz) (fun v hv=>h1 v (List.mem_of_mem_take hv)) fun j v hj=>hc j v (by
   rw [List.getElem?_take] at hj;split at hj
   ·exact hj
   ·cases hj)
  refine .cons (by rw [← hw.length,List.length_take,Nat.min_eq_left hle]) (by rw [dk.bG]; exact hf2) (qB (p.eK _ hp)) (hw.QH hA) ?_;exact Dj hI hp gX aia n (h.drop sz) (fun v hv=>h1 v (List.mem_of_mem_drop hv)) (by rw [List.length_drop,hl,Nat.succ_mul]; omega) (fun j v hj=>by
   rw [List.getElem?_drop] at hj;have:=hc _ _ hj;rwa [show o+(sz+j)=o+sz+j by omega] at this) hf3
theorem U5 {cut wk:Bool} {t:TypeId} {r r':AV} {G G':List GO} {c:Value} (hg:gG E R w G) (hr:Rel R w r c) (h:Zw E cut wk t r G=some (true,r',G')) :
  ∃ R',gG E R' w G'∧Rel R' w r' c∧Ext R w R' w∧R'.obj=R.obj∧∀ b o,R'.I b o→R.I b o∨Live R b:=by
 unfold Zw at h;split at h
 ·rename_i id f sz len;obtain ⟨ro,bD⟩:∃ ro,nth R.obj id=some ro:=by
   cases hr with
   |nh q _=>exact ⟨_,q⟩
   |eH q _ _=>exact ⟨_,q⟩
  split at h
  ·rename_i es cL el i bV hi;split at h
   ·split at h
    ·rename_i hc;rw [aae] at hc;have q1:=aal hc.2;subst q1;cases cut with
     |true=>
      simp only [cond_true] at h;injection h with h; injection h with h1 h; injection h with h2 h3;subst h2 h3;rw [aae,aae,decide_eq_true_eq,decide_eq_true_eq] at h1;obtain ⟨h1,mn⟩:=h1;obtain ⟨R',r1,r2,r3,r4,r5⟩:=oI (wk:=wk) hg bV h1.1 h1.2 mn bD;exact ⟨R',r1,r5 c hr,r2,r3,fun b o hi=>(r4 b o hi).imp_right fun hb=>⟨id,ro,bD,hb⟩⟩
     |false=>
      simp only [cond_false] at h;injection h with h; injection h with h1 h; injection h with h2 h3;subst h2 h3;rw [aae,aae,decide_eq_true_eq,decide_eq_true_eq] at h1;obtain ⟨h1,mn⟩:=h1;obtain ⟨R',r1,r2,r3,r4,r5⟩:=oI (wk:=wk) hg bV h1.1 (Nat.le_of_eq h1.2) mn bD;have r6:=r5 c hr;rw [h1.2,List.take_length] at r6;exact ⟨R',r1,r6,r2,r3,fun b o hi=>(r4 b o hi).imp_right fun hb=>⟨id,ro,bD,hb⟩⟩
    ·cases h
   ·cases h
  ·cases h
 ·rename_i id sz len cap;split at h
  ·rename_i cs i p bV hi hp;split at h
   ·rename_i el esz agg eb z hk;split at h
    ·rename_i hc;simp only [aae] at hc;injection h with h;injection h with h1 h;injection h with h2 h3;subst h2 h3;rw [aae] at h1;cases hr with
     | @oA _ _ _ _ _ b hb jy=>
     obtain ⟨vs,k1,k2,k3,k4⟩:=hg.obj id _ _ bV hb;have Ik:Live R b:=⟨id,_,hb,rfl⟩;have e:=xK R w b;have cI:=bE k1;refine ⟨R.all b,⟨by show R.obj.length=_; rw [kr]; exact hg.len,fun nN go ro q1 q2=>?_,hg.inj,fun b' o ho=>?_,fun g cs A7=>(hg.fm g cs A7).mono e,hg.lo⟩,?_,e,rfl,fun b' o ho=>?_⟩
     ·rcases fA q1 with ⟨rfl,rfl,_⟩|⟨du,q1⟩
      ·have:ro=.cu b:=aaT (q2.symm.trans hb);subst this;exact cI
      ·refine (hg.obj nN go ro q1 q2).mono e (fun _ _=>rfl) (fun b' o mX ho=>?_);rcases ho with ho|ho
       ·exact ho
       ·subst ho;exact absurd (hg.inj id nN _ _ b' hb q2 rfl mX) du
     ·rcases ho with ho|ho
      ·exact hg.wf b' o ho
      ·subst ho; exact cI
     ·refine Rel.list (Dj (R:=R.all b) (fun o=>Or.inr rfl) hc.2 hc.1.2 (Nat.le_of_ble_eq_true hc.1.1.2) len (k2.mono e) k3 (aal h1.1) (fun j v hj=>?_) h1.2) ?_ jy trivial
      ·simp only [World.cell?,k1];simpa using hj
      ·rw [List.length_map];have:∀ (n:Nat) (l:List AV),(kh agg sz n l).length=n:=by
        intro n
        induction n with
        |zero=>intro l; rfl
        |succ n ih=>intro l; simp [kh,ih]
       rw [this]
     ·rcases ho with ho|ho
      ·exact .inl ho
      ·subst ho; exact .inr Ik
    ·cases h
   ·cases h
  ·cases h
 ·rename_i cs;cases h2:qP wk cs G with
  |mk c' q=>
  obtain ⟨gr,G2⟩:=q;rw [h2] at h;injection h with h; injection h with h1 h; injection h with h3 h4;subst h1 h3 h4;cases hr with
  |agg hr vG=>
  obtain ⟨R',r1,r2,r3,r4,r5⟩:=xO hg hr h2;exact ⟨R',r1,.agg r2 vG,r3,r4,r5⟩
 ·-- an object's cells never change again
  rename_i id;split at h
  ·rename_i cs el bV;injection h with h; injection h with h1 h; injection h with h2 h3;subst h2 h3;cases hr with
   | @ptr _ _ b bD=>
   obtain ⟨vs,b1,b2,b3,b4⟩:=hg.obj id _ _ bV bD;have r2:=xK R w b;have r1:=hg.freeze bD rfl (show jw (R.all b) w .dead (.cu b) from bE b1);refine ⟨R.all b,r1,Rel.ep (gz.make (b2.mono r2) b3 (fun j v hv=>?_) (fun j _=>.inr rfl)),r2,rfl,fun b' o hi=>?_⟩
   ·rw [qR b1,Nat.zero_add];exact hv
   ·rcases hi with hi|rfl
    ·exact .inl hi
    ·exact .inr ⟨id,_,bD,rfl⟩
  ·cases h
 ·cases h
theorem BK {cut wk:Bool}:∀ {ts:List TypeId} {rs RB:List AV} {G G':List GO} {cs:List Value} {R:aj},gG E R w G→aW R w rs cs→Dh E cut wk ts rs G=(true,RB,G') →
  ∃ R',gG E R' w G'∧aW R' w RB cs∧Ext R w R' w∧R'.obj=R.obj∧∀ b o,R'.I b o→R.I b o∨Live R b
 |[],rs,RB,G,G',cs,R,hg,hr,h=>by
  cases rs <;> (simp only [Dh] at h; cases h; exact ⟨R,hg,hr,Ext.refl R w,rfl,fun _ _ h=>.inl h⟩)
 |_ :: _,[],RB,G,G',cs,R,hg,hr,h=>by
  simp only [Dh] at h; cases h; exact ⟨R,hg,hr,Ext.refl R w,rfl,fun _ _ h=>.inl h⟩
 |t :: ts,r :: rs,RB,G,G',cs,R,hg,hr,h=>by
  cases hr with
  |cons h0 hr=>
  unfold Dh at h;split at h
  ·rename_i c r' G1 h1;cases h2:Dh E cut wk ts rs G1 with
   |mk c' q=>
   obtain ⟨rs2,G2⟩:=q;rw [h2] at h;simp only [Prod.mk.injEq,aae] at h;obtain ⟨⟨rfl,rfl⟩,rfl,rfl⟩:=h;obtain ⟨R1,a1,a2,a3,a4,a5⟩:=U5 hg h0 h1;obtain ⟨R2,b1,b2,b3,b4,b5⟩:=BK a1 (hr.mono a3) h2;refine ⟨R2,b1,.cons (a2.mono b3) b2,a3.trans b3,b4.trans a4,fun b o ho=>?_⟩;rcases b5 b o ho with ho|ho
   ·exact a5 b o ho
   ·obtain ⟨id,ro,q1,q2⟩:=ho;rw [a4] at q1;exact .inr ⟨id,ro,q1,q2⟩
  ·cases h2:Dh E cut wk ts rs G with
   |mk c' q=>
   obtain ⟨rs2,G2⟩:=q;rw [h2] at h;simp only [Prod.mk.injEq] at h;obtain ⟨rfl,rfl,rfl⟩:=h;obtain ⟨R2,b1,b2,b3,b4,b5⟩:=BK hg hr h2;exact ⟨R2,b1,.cons (h0.mono b3) b2,b3,b4,b5⟩
theorem dT.frz {g:FuncId} {args:List AV} {G:List GO} {X:Type} {cut wk:Bool} {ts:List TypeId} {K:AV→List GO→Option X} {x:X} (h:dT E g args G (fun r G'=>Zx E cut wk ts K r G'=some x)):dT E g args G (fun r G'=>K r G'=some x):=
 ⟨h.1,fun R w cs hg hl=>(h.2 R w cs hg hl).mono fun e w' he=>by
  cases e with
  |panicked c=>exact he.elim
  |outgrown=>exact he.elim
  |returned c=>
   obtain ⟨r,G',R1,hq,fT,Ua,st⟩:=he;have fin:∀ (r':AV) (G2:List GO) (R2:aj),K r' G2=some x→gG E R2 w' G2→Rel R2 w' r' c→Ext R1 w' R2 w'→R2.obj=R1.obj→(∀ b o,R2.I b o→R1.I b o∨Live R1 b)→Ft E R w (fun r G'=>K r G'=some x) (.returned c) w':=by
    intro r' G2 R2 k1 k2 k3 k4 k5 k6;have live:∀ b,Live R2 b→Live R1 b:=fun b ⟨id,ro,q1,q2⟩=>⟨id,ro,by rw [← k5]; exact q1,q2⟩
    refine ⟨r',G2,R2,k1,k3,k2,⟨st.ext.trans k4,st.os,st.tape,st.output,st.size,st.bh,fun b hb ho=>?_,fun b o hi hb hn=>?_⟩⟩
    ·rcases ho with ho|⟨k,cs,hk,rfl⟩
     ·exact st.own b hb (.inl (live b ho))
     ·simp [jG,eJ] at hk
    ·rcases k6 b o hi with hi|hi
     ·exact st.im b o hi hb hn
     ·exact absurd (st.own b hb (.inl hi)) hn
   unfold Zx at hq;split at hq
   ·rename_i rs;cases fT with
    |bG fT=>
    cases h2:Dh E cut wk ts rs G' with
    |mk c' q=>
    obtain ⟨rs2,G2⟩:=q;rw [h2] at hq;cases c' with
    |false=>cases hq
    |true=>
     obtain ⟨R2,b1,b2,b3,b4,b5⟩:=BK Ua fT h2;exact fin (.bG rs2) G2 R2 hq b1 (.bG b2) b3 b4 b5
   ·split at hq
    ·rename_i c' r' G2 h2;cases c' with
     |false=>cases hq
     |true=>
      obtain ⟨R2,b1,b2,b3,b4,b5⟩:=BK Ua (.cons fT .nil) h2;cases b2 with
      |cons b2 _=>exact fin r' G2 R2 hq b1 b2 b3 b4 b5
    ·cases hq⟩
end
end Go.Am
namespace Go.Am
open Go
inductive RP
 |RC (p:aL)
 |map (pe:aL)
 |ep (ps:aU)
def RP.T:RP→Type
 |.RC p=>p.T
 |.map pe=>List pe.T
 |.ep ps=>ps.T
def RP.enc (n:Nat):(p:RP)→p.T→AV
 |.RC p,x=>p.enc x
 |.map _,_=>.map n
 |.ep ps,x=>.ep (ps.enc x)
def RP.LM:(p:RP)→p.T→List GO
 |.RC _,_=>[]
 |.map pe,(x:List pe.T)=>[.map (ar (x.map pe.enc))]
 |.ep _,_=>[]
def RP.no:RP→Nat
 |.map _=>1
 |_=>0
def zH:List RP→Type
 |[]=>Unit
 |[p]=>p.T
 |p :: q :: l=>p.T × zH (q :: l)
def ur:(n:Nat)→(l:List RP)→zH l→List AV
 |_,[],_=>[]
 |n,[p],x=>[p.enc n x]
 |n,p :: q :: l,x=>p.enc n x.1 :: ur (n+p.no) (q :: l) x.2
def kb:(l:List RP)→zH l→List GO
 |[],_=>[]
 |[p],x=>p.LM x
 |p :: q :: l,x=>p.LM x.1++kb (q :: l) x.2
structure RF where
 bG:Bool
 l:List RP
def RF.val (f:RF) (n:Nat) (x:zH f.l):AV:=bif f.bG then .bG (ur n f.l x) else fU (ur n f.l x)
def RP.is:RP→AV→Bool
 |.RC p,v=>match p with
  |.mw u=>eV v u
  |_=>true
 |.map _,v=>match v with
  |.map _=>true
  |_=>false
 |.ep _,v=>match v with
  |.ep _=>true
  |_=>false
def RD:List RP→List AV→Bool
 |[],[]=>true
 |p :: l,v :: vs=>p.is v&&RD l vs
 |_,_=>false
def RF.args (f:RF) (r:AV):List AV:=bif f.bG then r.YA else [r]
def RF.FG (f:RF):AV→Bool
 |.bG _=>f.bG
 |_=>!f.bG
def Hk (G:List GO) (used:List Nat) (pe:aL) (v:AV):Option (List pe.T):=match v with
 |.map id=>match nth G id with
  |some (.map es)=>bif HV used id then none else (bif allFit pe.fits (ab es) then some ((ab es).map pe.bB) else none)
  |_=>none
 |_=>none
def Nf (ps:aU) (v:AV):Option ps.T:=match v with
 |.ep cs=>ps.dec cs
 |_=>none
def RP.dec (G:List GO) (used:List Nat):(p:RP)→AV→Option p.T
 |.RC p,v=>p.dec v
 |.map pe,v=>Hk G used pe v
 |.ep ps,v=>Nf ps v
def zI (used:List Nat):AV→List Nat
 |.map id=>id :: used
 |_=>used
def zJ (G:List GO):(used:List Nat)→(l:List RP)→List AV→Option (zH l)
 |_,[],vs=>match vs with
  |[]=>some ()
  |_=>none
 |u,[p],vs=>match vs with
  |[v]=>p.dec G u v
  |_=>none
 |u,p :: q :: l,vs=>match vs with
  |v :: vs=>(p.dec G u v).bind fun x=>(zJ G (zI u v) (q :: l) vs).bind fun y=>some (x,y)
  |[]=>none
def RF.dec (f:RF) (G:List GO) (r:AV):Option (zH f.l):=bif f.FG r then zJ G [] f.l (f.args r) else none
def RP.under:RP→Bool
 |.RC p=>p.under 0
 |.map pe=>pe.under 0
 |.ep ps=>ps.under 0
def RF.under (f:RF):Bool:=f.l.all RP.under&&(f.bG || aas f.l.length 1)
def XT:List RF→Type
 |[]=>Empty
 |[f]=>zH f.l
 |f :: g :: l=>zH f.l ⊕ XT (g :: l)
def Pj (G:List GO) (r:AV):(l:List RF)→Option (XT l)
 |[]=>none
 |[f]=>f.dec G r
 |f :: g :: l=>bif f.FG r&&RD f.l (f.args r) then (f.dec G r).bind fun x=>some (.inl x) else (Pj G r (g :: l)).bind fun x=>some (.inr x)
def goX {α:Type} (G:List GO) (K:AV→List GO→α):(l:List RF)→XT l→α
 |[],o=>Empty.rec (fun _=>α) o
 |[f],o=>K (f.val G.length o) (G++kb f.l o)
 |f :: g :: l,o=>Sum.elim (fun v=>K (f.val G.length v) (G++kb f.l v)) (fun o=>goX G K (g :: l) o) o
theorem I6 {α:Type} {G:List GO} {K:AV→List GO→α} {r:AV} {G':List GO}:∀ (l:List RF) (o:XT l),goX G (fun r0 G0=>r=r0∧G'=G0) l o→K r G'=goX G K l o
 |[],o,_=>nomatch o
 |[f],o,h=>by
  have h:r=f.val G.length o∧G'=G++kb f.l o:=h;rw [h.1,h.2]; rfl
 |f :: g :: l,.inl v,h=>by
  have h:r=f.val G.length v∧G'=G++kb f.l v:=h;rw [h.1,h.2]; rfl
 |f :: g :: l,.inr o,h=>I6 (g :: l) o h
def sH (E:Env) (g:FuncId) (args:List AV) (outs:List RF) (Q:XT outs→Prop):Prop:=
 ∀ G,dT E g args G (fun r G'=>∃ y,Q y∧goX G (fun r0 G0=>r=r0∧G'=G0) outs y)
section
variable {E:Env} {R R1 R2:aj} {w:World}
theorem fc.XC (m:Mv R R2 0):∀ {es:List (AV × AV)} {l:List AV} {aI:List MapEntry},nu (ab es) l→aR 0 l=true→fc R w es aI→fc R2 w (ar l) aI
 |[],[],[],_,_,_=>trivial
 |[],[],_ :: _,_,_,h=>h.elim
 |[],_ :: _,_,h,_,_=>h.elim
 |(_,_) :: _,[],_,h,_,_=>h.elim
 |(_,_) :: _,_ :: _,[],_,_,h=>h.elim
 |(k,v) :: es,a :: l,en :: aI,hd,hu,h=>by
  obtain ⟨d1,d2⟩:=hd;simp only [aR,aae] at hu;have hc:=d1.cells rfl;have hl:[k,v].length=a.cells.length:=hc.length;cases a with
  |agg cs=>
   match cs,hc,hl with
   |[k',v'],hc,_=>
    have Zt:aR 0 [k',v']=true:=hu.1;simp only [aR,Bool.and_true,aae] at Zt;exact ⟨(hc.1 _ _ _ h.1).move m Zt.1,(hc.2.1 _ _ _ h.2.1).move m Zt.2,fc.XC m d2 hu.2 h.2.2⟩
   |[],_,hl=>simp [AV.cells] at hl
   |[_],_,hl=>simp [AV.cells] at hl
   |_ :: _ :: _ :: _,_,hl=>simp [AV.cells] at hl
  |_=>simp [AV.cells] at hl
theorem aL.Dk {p:aL} (h:p.under 0=true):∀ l:List p.T,aR 0 (l.map p.enc)=true
 |[]=>rfl
 |x :: l=>by
  show ((p.enc x).under 0&&aR 0 (l.map p.enc))=true;rw [p.eK x h,aL.Dk h l];rfl
def Dl (R:aj) (n:Nat) (bs:List Nat):Prop:=∀ k b,nth bs k=some b→nth R.obj (n+k)=some (.cu b)
def Ng (R:aj) (w:World) (gs:List GO) (bs:List Nat):Prop:=∀ k go b,nth gs k=some go→nth bs k=some b→jw R w go (.cu b)
theorem RP.XD (p:RP) (x:p.T):(p.LM x).length=p.no:=by cases p <;> rfl
theorem RE {ps:aU} {v:AV} {y:ps.T} (h:Nf ps v=some y):∃ cs,v=.ep cs∧ps.dec cs=some y:=by
 unfold Nf at h;split at h
 ·exact ⟨_,rfl,h⟩
 ·cases h
theorem Pk {G:List GO} {used:List Nat} {pe:aL} {v:AV} {y:List pe.T} (h:Hk G used pe v=some y):∃ id es,v=.map id∧nth G id=some (.map es)∧id∉used∧nu (ab es) (y.map pe.enc):=by
 unfold Hk at h;split at h
 ·rename_i id;split at h
  ·rename_i es HR;cases hu:HV used id with
   |true=>rw [hu] at h; cases h
   |false=>
    rw [hu,cond_false] at h;cases hf:allFit pe.fits (ab es) with
    |false=>rw [hf] at h; cases h
    |true=>
     rw [hf,cond_true] at h;have hy:=aaT h;refine ⟨id,es,rfl,HR,fun hm=>?_,?_⟩
     ·rw [Ha.2 hm] at hu; cases hu
     ·rw [← hy]; exact nu.of (fun v hv=>pe.eg hv) hf
  ·cases h
 ·cases h
theorem LN {used:List Nat} {v:AV} {id:Nat} (h:id∈used):id∈zI used v:=by
 unfold zI;split
 ·exact aay _ h
 ·exact h
def Hl (R1:aj) (w:World) (used:List Nat) (v:AV) (c:Value) (p:RP) (y:p.T):Prop:=
 ∃ bs:List Nat,bs.length=p.no∧(∀ b∈bs,∃ id,id∉used∧id∈zI used v∧nth R1.obj id=some (.cu b)) ∧
   ∀ (R2:aj) (n:Nat),(∀ b o,R1.I b o→R2.I b o)→Dl R2 n bs→Rel R2 w (p.enc n y) c∧Ng R2 w (p.LM y) bs
theorem mvI {R1 R2:aj} (hI:∀ b o,R1.I b o→R2.I b o):Mv R1 R2 0:=⟨hI,fun _ _ h=>absurd h (aax _)⟩
theorem RP.Zy {used:List Nat} {p:aL} {v:AV} {c:Value} {y:p.T} (hp:p.under 0=true) (hv:Rel R1 w v c) (hd:p.dec v=some y):Hl R1 w used v c (.RC p) y:=
 ⟨[],rfl,(fun b hb=>by cases hb),fun R2 n hI _=>⟨Rel.move (mvI hI) (p.eK y hp) ((p.wu hd).jM _ _ _ hv),fun k go b h=>by cases k <;> cases h⟩⟩
theorem RP.aem {used:List Nat} {ps:aU} {v:AV} {c:Value} {y:ps.T} (hp:ps.under 0=true) (hv:Rel R1 w v c) (hd:Nf ps v=some y):Hl R1 w used v c (.ep ps) y:=by
 obtain ⟨cs,rfl,hd⟩:=RE hd;cases hv with
 |ep hc=>
 exact ⟨[],rfl,(fun b hb=>by cases hb),fun R2 n hI _=>⟨.ep (gz.move (mvI hI) ((ps.wu hd).1.QH hc) (ps.eK y hp)),fun k go b h=>by cases k <;> cases h⟩⟩
theorem RP.Zz {G1:List GO} (hg:gG E R1 w G1) {used:List Nat} {pe:aL} {v:AV} {c:Value} {y:List pe.T} (hp:pe.under 0=true) (hv:Rel R1 w v c) (hd:Hk G1 used pe v=some y):Hl R1 w used v c (.map pe) y:=by
 obtain ⟨id,es,rfl,HR,hu,Pl⟩:=Pk hd;cases hv with
 |map hb=>
 rename_i b;refine ⟨[b],rfl,fun b' mX=>?_,fun R2 n hI tv=>⟨.map (by have:=tv 0 b rfl; simpa using this),fun k go b' h1 h2=>?_⟩⟩
 ·rw [List.mem_singleton] at mX;subst mX;exact ⟨id,hu,aaA,hb⟩
 ·cases k with
  |succ k=>cases h2
  |zero=>
   cases h1; cases h2;obtain ⟨aI,clock,e1,e2,e3⟩:=hg.obj id _ _ HR hb;exact ⟨aI,clock,e1,fc.XC (mvI hI) Pl (aL.Dk hp y) e2,e3⟩
theorem RP.ok {G1:List GO} (hg:gG E R1 w G1) {used:List Nat} {p:RP} {v:AV} {c:Value} {y:p.T} (hp:p.under=true) (hv:Rel R1 w v c) (hd:p.dec G1 used v=some y):Hl R1 w used v c p y:=by
 cases p with
 |RC p=>exact RP.Zy hp hv hd
 |ep ps=>exact RP.aem hp hv hd
 |map pe=>exact RP.Zz hg hp hv hd
theorem jB {α:Type} {l r:List α} {i:Nat} (h:i < l.length):nth (l++r) i=nth l i:=by
 rw [bg,bg,List.getElem?_append_left h]
theorem iI {α:Type} {l r:List α} (i:Nat):nth (l++r) (l.length+i)=nth r i:=by
 rw [bg,bg,List.getElem?_append_right (Nat.le_add_right _ _),Nat.add_sub_cancel_left]
theorem vg {α:Type} {l:List α} {i:Nat} {x:α} (h:nth l i=some x):i < l.length:=by
 rw [bg] at h;exact (List.getElem?_eq_some_iff.1 h).1
theorem RPs.ok {G1:List GO} (hg:gG E R1 w G1):∀ {l:List RP} {used:List Nat} {vs:List AV} {cs:List Value} {y:zH l},l.all RP.under=true→aW R1 w vs cs→zJ G1 used l vs=some y →
  ∃ bs:List Nat,bs.length=(kb l y).length∧bs.Nodup∧(∀ b∈bs,∃ id,id∉used∧nth R1.obj id=some (.cu b)) ∧
   ∀ (R2:aj) (n:Nat),(∀ b o,R1.I b o→R2.I b o)→Dl R2 n bs→aW R2 w (ur n l y) cs∧Ng R2 w (kb l y) bs
 |[],used,vs,cs,y,_,hv,hd=>by
  cases vs with
  |cons _ _=>cases hd
  |nil=>
  cases hv;exact ⟨[],rfl,aa0,(fun b hb=>by cases hb),fun R2 n _ _=>⟨.nil,fun k go b h=>by simp [kb,nth] at h⟩⟩
 |[p],used,vs,cs,y,hu,hv,hd=>by
  match vs,hv,hd with
  |[],_,hd=>cases hd
  |_ :: _ :: _,_,hd=>cases hd
  |[v],.cons hv .nil,hd=>
  have hu:p.under=true:=by simpa using hu
  obtain ⟨bs,h1,h2,h4⟩:=RP.ok hg hu hv hd;refine ⟨bs,h1.trans (p.XD y).symm,?_,fun b hb=>let ⟨id,q1,_,q2⟩:=h2 b hb; ⟨id,q1,q2⟩,fun R2 n hI tv=>?_⟩
  ·have:bs.length≤1:=by rw [h1]; cases p <;> simp [RP.no]
   match bs,this with
   |[],_=>exact aa0
   |[b],_=>simp
   |_ :: _ :: _,h=>simp at h
  ·obtain ⟨k1,k2⟩:=h4 R2 n hI tv;exact ⟨.cons k1 .nil,k2⟩
 |p :: q :: l,used,vs,cs,y,hu,hv,hd=>by
  match vs,hv,hd with
  |[],_,hd=>cases hd
  |v :: vs,.cons (c:=c) (cs:=cs) hv hvs,hd=>
  simp only [List.all_cons,aae] at hu;obtain ⟨hu1,hu2⟩:=hu;have hu2:(q :: l).all RP.under=true:=by simpa using hu2
  have hd:((p.dec G1 used v).bind fun x=>(zJ G1 (zI used v) (q :: l) vs).bind fun y=>some (x,y))=some y:=hd;cases hx:p.dec G1 used v with
  |none=>rw [hx] at hd; cases hd
  |some x=>
  rw [hx] at hd;simp only [Option.bind_some] at hd;cases hz:zJ G1 (zI used v) (q :: l) vs with
  |none=>rw [hz] at hd; cases hd
  |some z=>
  rw [hz] at hd;simp only [Option.bind_some] at hd;cases hd;obtain ⟨bs,h1,h2,h4⟩:=RP.ok hg hu1 hv hx;obtain ⟨bs',k1,k0,k2,k4⟩:=RPs.ok hg hu2 hvs hz;have T2:bs.length=(p.LM x).length:=h1.trans (p.XD x).symm;refine ⟨bs++bs',?_,?_,fun b hb=>?_,fun R2 n hI tv=>?_⟩
  ·show _=(p.LM x++kb (q :: l) z).length;rw [aau,aau,T2,k1]
  ·have OF:bs.Nodup:=by
    have:bs.length≤1:=by rw [h1]; cases p <;> simp [RP.no]
    match bs,this with
    |[],_=>exact aa0
    |[b],_=>simp
    |_ :: _ :: _,h=>simp at h
   rw [List.nodup_append];refine ⟨OF,k0,fun a ha b hb e=>?_⟩;subst e;obtain ⟨id,_,q2,q3⟩:=h2 a ha;obtain ⟨nN,r1,r2⟩:=k2 a hb;have:id=nN:=hg.inj id nN _ _ a q3 r2 rfl rfl;subst this;exact r1 q2
  ·rcases List.mem_append.1 hb with hb|hb
   ·obtain ⟨id,q1,_,q2⟩:=h2 b hb;exact ⟨id,q1,q2⟩
   ·obtain ⟨id,q1,q2⟩:=k2 b hb;exact ⟨id,fun hm=>q1 (LN hm),q2⟩
  ·have at1:Dl R2 n bs:=fun k b hk=>tv k b (by rw [jB (vg hk)]; exact hk)
   have at2:Dl R2 (n+p.no) bs':=fun k b hk=>by
    have:=tv (bs.length+k) b (by rw [iI]; exact hk);rw [h1] at this;rw [Nat.add_assoc]; exact this
   obtain ⟨a1,a2⟩:=h4 R2 n hI at1;obtain ⟨b1,b2⟩:=k4 R2 (n+p.no) hI at2;refine ⟨.cons a1 b1,fun k go b jQ hb=>?_⟩;change nth (p.LM x++kb (q :: l) z) k=some go at jQ;rcases aa3 k bs.length with hk|hk
   ·rw [jB (by rw [← T2]; exact hk)] at jQ;rw [jB hk] at hb;exact a2 k go b jQ hb
   ·obtain ⟨j,rfl⟩:∃ j,k=bs.length+j:=⟨k - bs.length,by omega⟩;rw [iI] at hb;rw [T2,iI] at jQ;exact b2 j go b jQ hb
theorem Dm:∀ (l:List RP) (n:Nat) (y:zH l),(ur n l y).length=l.length
 |[],_,_=>rfl
 |[_],_,_=>rfl
 |p :: q :: l,n,y=>by
  show (ur (n+p.no) (q :: l) y.2).length+1=(q :: l).length+1;rw [Dm (q :: l)]
theorem sH.of1 {R0:aj} {w0:World} {f:RF} {G G1:List GO} {r:AV} {c:Value} {y:zH f.l} (hf:f.under=true) (hG:gG E R0 w0 G) (st:Step ⟨R0.I,[]⟩ w0 (fun _=>0) jG R1 w (fun _=>0) jG) (hg:gG E R1 w G1) (fT:Rel R1 w r c) (hd:f.dec G1 r=some y) :
  ∃ R2,Rel R2 w (f.val G.length y) c∧gG E R2 w (G++kb f.l y)∧Step R0 w0 (fun _=>0) jG R2 w (fun _=>0) jG:=by
 unfold RF.under at hf;rw [aae] at hf;unfold RF.dec at hd;obtain ⟨ht,hd⟩:f.FG r=true∧zJ G1 [] f.l (f.args r)=some y:=by
  cases ht:f.FG r with
  |true=>rw [ht] at hd; exact ⟨rfl,hd⟩
  |false=>rw [ht] at hd; cases hd
 obtain ⟨cs,xw,aen⟩:∃ cs,aW R1 w (f.args r) cs∧∀ R2 (x:zH f.l) n,aW R2 w (ur n f.l x) cs→Rel R2 w (f.val n x) c:=by
  unfold RF.args RF.val;cases aid:f.bG with
  |true=>
   have:∃ vs,r=.bG vs:=by
    cases r <;> first | exact ⟨_,rfl⟩ | (simp [RF.FG,aid] at ht)
   obtain ⟨vs,rfl⟩:=this;cases fT with
   |bG h=>exact ⟨_,h,fun R2 x n h=>.bG h⟩
  |false=>
   refine ⟨[c],.cons fT .nil,fun R2 x n h=>?_⟩;simp only [cond_false];have hlen:=Dm f.l n x;revert h hlen;generalize ur n f.l x=l;intro h hlen;cases h with
   |cons h _=>exact h
 obtain ⟨bs,h1,h2,h3,h4⟩:=RPs.ok hg hf.1 xw hd;have oG:∀ b,¬ Own (⟨R0.I,[]⟩:aj) (fun _=>0) jG b:=fun b ho=>by
  obtain ⟨id,ro,q1,_⟩:=iF ho;simp [nth] at q1
 have r8:∀ b∈bs,w0.heap.size≤b:=fun b hb=>by
  obtain ⟨id,_,bV⟩:=h3 b hb;rcases aa3 b w0.heap.size with cI|Fc
  ·exact absurd (st.own b cI (.inl ⟨id,_,bV,rfl⟩)) (oG b)
  ·exact Fc
 let R2:aj:=⟨R1.I,R0.obj++bs.map RO.cu⟩
 have e:Ext R0 w0 R2 w:=⟨st.ext.I,st.ext.cell,fun id ro h=>⟨ro,by rw [jB (vg h)]; exact h,di.refl ro⟩,st.ext.lp⟩;have bh:∀ b,b < w0.heap.size→w.heap[b]?=w0.heap[b]?:=fun b hb=>st.bh b hb (oG b)
 have im:∀ b o,b < w0.heap.size→R1.I b o→R0.I b o:=fun b o hb hi=>st.im b o hi hb (oG b)
 have aie:∀ {k ro},nth (bs.map RO.cu) k=some ro→∃ b,nth bs k=some b∧ro=.cu b:=fun {k ro} h=>by
  rw [bg,List.getElem?_map] at h;cases hb:bs[k]? with
  |none=>rw [hb] at h; cases h
  |some b=>rw [hb] at h; exact ⟨b,by rw [bg]; exact hb,(aaT h).symm⟩
 have tv:Dl R2 R0.obj.length bs:=fun k b hk=>by
  show nth (R0.obj++bs.map RO.cu) (R0.obj.length+k)=_;rw [iI,bg,List.getElem?_map];rw [bg] at hk;rw [hk]; rfl
 obtain ⟨k1,k2⟩:=h4 R2 R0.obj.length (fun _ _ h=>h) tv;rw [hG.len] at k1;have hold:∀ id ro,nth R2.obj id=some ro→nth R0.obj id=some ro∨∃ k b,id=R0.obj.length+k∧nth bs k=some b∧ro=.cu b:=fun id ro h=>by
  rcases aa3 id R0.obj.length with cI|Fc
  ·exact .inl (by rw [← jB (r:=bs.map RO.cu) cI]; exact h)
  ·obtain ⟨k,rfl⟩:∃ k,id=R0.obj.length+k:=⟨id - R0.obj.length,by omega⟩;have h:nth (R0.obj++bs.map RO.cu) (R0.obj.length+k)=some ro:=h;rw [iI] at h;obtain ⟨b,q1,q2⟩:=aie h;exact .inr ⟨k,b,rfl,q1,q2⟩
 have XE:∀ id ro b,nth R0.obj id=some ro→ro.has b→b < w0.heap.size:=fun id ro b h hb=>by
  have hl:=vg h;rw [hG.len] at hl;have jQ:nth G id=some G[id]:=by rw [bg]; exact aaM hl
  exact (hG.obj id _ _ jQ h).lt hb
 have ZA:∀ {k b},nth bs k=some b→b∈bs:=fun {k b} h=>by
  rw [bg] at h;exact List.mem_of_getElem? h
 refine ⟨R2,aen R2 y _ k1,⟨?_,fun id go ro q1 q2=>?_,fun i j ri rj b q1 q2 b1 b2=>?_,hg.wf,fun g cs A7=>(hG.fm g cs A7).mono e,hg.lo⟩,⟨e,st.os,st.tape,st.output,st.size,fun b hb _=>bh b hb,fun b hb ho=>?_,fun b o hi hb _=>im b o hb hi⟩⟩
 ·show (R0.obj++bs.map RO.cu).length=_;rw [aau,List.length_map,aau,hG.len,h1]
 ·rcases hold id ro q2 with q2|⟨k,b,rfl,q3,rfl⟩
  ·have hl:=vg q2;rw [hG.len] at hl;rw [jB hl] at q1;refine (hG.obj id go ro q1 q2).mono e (fun b hb=>bh b ?_) (fun b o hb hi=>im b o ?_ hi)
   ·exact (hG.obj id go ro q1 q2).lt hb
   ·exact (hG.obj id go ro q1 q2).lt hb
  ·rw [hG.len,iI] at q1;exact k2 k go b q1 q3
 ·rcases hold i ri q1 with q1|⟨k,a,rfl,q3,rfl⟩
  ·rcases hold j rj q2 with q2|⟨k',a',rfl,q4,rfl⟩
   ·exact hG.inj i j ri rj b q1 q2 b1 b2
   ·have:b=a':=b2;subst this;have:=r8 _ (ZA q4);have:=XE i ri b q1 b1;omega
  ·have hba:b=a:=b1;subst hba;rcases hold j rj q2 with q2|⟨k',a',rfl,q4,rfl⟩
   ·have:=r8 _ (ZA q3);have:=XE j rj b q2 b2;omega
   ·have:b=a':=b2;subst this;have l1:=vg q3;have l2:=vg q4;rw [bg] at q3 q4;have:=(List.getElem?_inj l1 h2).1 (q3.trans q4.symm);omega
 ·rcases iF ho with ⟨id,ro,q1,q2⟩;rcases hold id ro q1 with q1|⟨k,a,rfl,q3,rfl⟩
  ·exact .inl ⟨id,ro,q1,q2⟩
  ·have:b=a:=q2;subst this;have:=r8 _ (ZA q3);omega
theorem Nh {G1:List GO} {r:AV}:∀ {outs:List RF} {y:XT outs},Pj G1 r outs=some y→(∀ f∈outs,f.under=true) →
  ∃ (f:RF) (z:zH f.l),f.under=true∧f.dec G1 r=some z∧∀ {α:Type} (G:List GO) (K:AV→List GO→α),goX G K outs y=K (f.val G.length z) (G++kb f.l z)
 |[],_,h,_=>by cases h
 |[f],y,h,hu=>⟨f,y,hu f (by simp),h,fun _ _=>rfl⟩
 |f :: g :: l,y,h,hu=>by
  simp only [Pj] at h;cases hb:(f.FG r&&RD f.l (f.args r)) with
  |true=>
   rw [hb] at h;simp only [cond_true] at h;cases hx:f.dec G1 r with
   |none=>rw [hx] at h; cases h
   |some x=>
    rw [hx] at h;cases h;exact ⟨f,x,hu f (by simp),hx,fun _ _=>rfl⟩
  |false=>
   rw [hb] at h;simp only [cond_false] at h;cases hx:Pj G1 r (g :: l) with
   |none=>rw [hx] at h; cases h
   |some x=>
    rw [hx] at h;cases h;obtain ⟨f',z,k0,k1,k2⟩:=Nh hx (fun f hf=>hu f (aay _ hf));exact ⟨f',z,k0,k1,fun G K=>k2 G K⟩
theorem sH.of {g:FuncId} {args:List AV} {outs:List RF} {Q:XT outs→Prop} (hc:aR 0 args=true) (hp:∀ f∈outs,f.under=true)
  (h:dT E g args [] (fun r G'=>∃ y,Pj G' r outs=some y∧Q y)):sH E g args outs Q:=fun G=>by
 refine ⟨h.1,fun R w cs hg hl=>?_⟩
 let R0:aj:=⟨R.I,[]⟩
 have m0:Mv R R0 0:=⟨fun _ _ h=>h,fun _ _ h=>absurd h (aax _)⟩;have hg0:gG E R0 w []:=⟨rfl,fun id go ro h1 _=>by simp [nth] at h1,fun i j ri rj b h1=>by simp [R0,nth] at h1,hg.wf,fun g cs A7=>(hg.fm g cs A7).move m0 (ee _ (E.Gt g cs A7)),hg.lo⟩;have A3:aW R0 w args cs:=hl.move m0 hc;refine (h.2 R0 w cs hg0 A3).mono fun e w' he=>?_
 cases e with
 |panicked c=>exact he.elim
 |outgrown=>exact he.elim
 |returned c=>
  obtain ⟨r,G',R1,⟨y,hy,hQ⟩,fT,Ua,st⟩:=he;obtain ⟨f,z,hf,hz,jQ⟩:=Nh hy hp;obtain ⟨R2,k1,k2,k3⟩:=sH.of1 hf hg st Ua fT hz;refine ⟨_,_,R2,⟨y,hQ,?_⟩,k1,k2,k3⟩;rw [jQ];exact ⟨rfl,rfl⟩
end
end Go.Am
namespace Go.Am
open Go
def yf (s:St) (t:Tmp) (sz:Nat) (e:TypeId):Option (Bool × St):=match lk s.af t with
 |.v (.list (.own id) cL es)=>match nth s.G id with
  |some (.tok f MF e2)=>if aas cL sz&&(aas MF sz&&aas e2 e) then
    some (decide (f=es.length),⟨.put t (.v (.list .gZ sz es)) :: s.af,s.boxes,aE s.G id .dead,s.marks,s.ro,s.n⟩) else none
  |_=>none
 |_=>none
def AF (s:St) (t:Tmp) (sz:Nat) (e:TypeId):Option St:=match lk s.af t with
 |.v (.list _ cL es)=>if aas cL sz then some ⟨.put t (.v (.list (.own s.G.length) sz es)) :: s.af,s.boxes,s.G++[.tok es.length sz e],s.marks,s.ro,s.n⟩ else none
 |_=>none
section
variable {E:Env} {R:aj} {w:World} {β:Nat→Nat} {s:St} {a:Act}
def wK (R:aj) (w:World) (β:Nat→Nat) (bx:dy) (c:Value) (n sz:Nat) (e:TypeId) (ro:RO):Prop:=
 jw R w (.tok n sz e) ro∧(∀ b,ro.has b→¬ Live R b∧∀ k cs,eJ bx k=some cs→β k≠b) ∧
  ((c=.slice none 0 0∧ro=.bL)∨∃ b o len cap,c=.slice (some ⟨b,o,none⟩) len cap∧len=n∧QB b o len cap ro)
theorem wK.mono {R R':aj} {bx MH:dy} {c:Value} {n sz:Nat} {e:TypeId} {ro:RO} (h:wK R w β bx c n sz e ro) (hI:R'.I=R.I) (hl:∀ b,Live R' b→Live R b) (hb:∀ k cs,eJ MH k=some cs→∃ gr,eJ bx k=some gr):wK R' w β MH c n sz e ro:=by
 obtain ⟨h1,h2,h3⟩:=h;refine ⟨?_,fun b Uv=>⟨fun q=>(h2 b Uv).1 (hl b q),fun k cs hk=>let ⟨gr,kT⟩:=hb k cs hk; (h2 b Uv).2 k gr kT⟩,h3⟩;cases ro with
 |tok f g c k=>
  obtain ⟨q1,cur,q2,q3,q4,q5,q6⟩:=h1;exact ⟨q1,cur,q2,q3,q4,q5,fun o ho=>by rw [hI]; exact q6 o ho⟩
 |bL=>exact h1
 |none=>exact h1.elim
 |cu _=>exact h1.elim
 |bt _=>exact h1.elim
theorem FH {t:Tmp} {sz:Nat} {e:TypeId} {s':St} (h:bk E R w β s a) (hs:yf s t sz e=some (true,s')) :
  ∃ R' c ro es,bk E R' w β s' a∧Step R w β s.boxes R' w β s'.boxes∧s'.ro=s.ro∧aP s s'∧s'.boxes=s.boxes∧lk s'.af t=.v (.list .gZ sz es)∧a.tmps[t]?=some c∧wK R' w β s'.boxes c es.length sz e ro∧∀ b,ro.has b→Live R b:=by
 unfold yf at hs;split at hs
 ·rename_i id cL es ht;split at hs
  ·rename_i f MF e2 bV;split at hs
   ·rename_i dN;simp only [aae] at dN;have q1:=aal dN.1;have q2:=aal dN.2.1;have q3:=aal dN.2.2;subst q1; subst q2; subst q3;injection hs with hs; injection hs with hc hs;have hf:=of_decide_eq_true hc;subst hf;obtain ⟨c,k1,k2⟩:=h.t t (by rw [ht]; simp);rw [ht] at k2;have k2:Rel R w (.list (.own id) MF es) c:=k2;obtain ⟨ro,bD⟩:∃ ro,nth R.obj id=some ro:=by
     have cI:=bA bV;rw [← h.g.len] at cI;exact ⟨R.obj[id],by rw [bg,aaM cI]⟩
    have cY:=h.g.obj id _ _ bV bD
    let R':aj:=⟨R.I,aE R.obj id .none⟩
    have hle:di ro .none:=by cases ro <;> first | trivial | exact cY.elim
    have ext:Ext R w R' w:=⟨fun _ _ h=>h,fun _ _ _=>rfl,fun i r hr=>by
     by_cases ei:id=i
     ·subst ei;rw [bD] at hr;cases hr;exact ⟨_,aB bD,hle⟩
     ·exact ⟨r,by rw [bn ei]; exact hr,di.refl r⟩,gF.refl w⟩
    have hinv:∀ {i:Nat} {r:RO},nth R'.obj i=some r→(i=id∧r=.none)∨(i≠id∧nth R.obj i=some r):=fun hr=>aH bD hr
    have live:∀ b,Live R' b→Live R b:=fun b ⟨i,r,l1,l2⟩=>by
     rcases hinv l1 with ⟨_,rfl⟩|⟨_,l1⟩
     ·exact l2.elim
     ·exact ⟨i,r,l1,l2⟩
    have hex:aP s s':=by subst hs; exact ⟨⟨[_],rfl⟩,⟨[],rfl⟩,rfl⟩
    have aeo:Rel R' w (.list .gZ MF es) c:=by
     cases k2 with
     |nP _ _=>exact .kS
     |list hr hl jy _=>exact Rel.list (hr.mono ext) hl jy trivial
    have GW:wK R' w β s'.boxes c es.length MF e2 ro:=by
     refine ⟨?_,fun b hb=>⟨fun ⟨i,r,l1,l2⟩=>?_,fun k cs hk he=>?_⟩,?_⟩
     ·cases ro <;> first | exact cY | exact cY.elim
     ·rcases hinv l1 with ⟨_,rfl⟩|⟨du,l1⟩
      ·exact l2.elim
      ·exact du (h.g.inj i id r ro b l1 bD l2 hb)
     ·subst hs;exact (h.b.box k cs hk).2.2 ⟨id,ro,bD,by rw [he]; exact hb⟩
     ·cases k2 with
      |nP h1 h2=>
       rw [bD] at h1;cases h1;refine .inl ⟨rfl,?_⟩;cases ro with
       |bL=>rfl
       |none=>exact cY.elim
       |cu _=>exact cY.elim
       |bt _=>exact cY.elim
       |tok f g c k=>
        obtain ⟨q,_⟩:=cY;simp only [aaP] at q;simp only [qp] at h2;omega
      | @list _ _ _ b o len cap hr hl jy hk=>
       obtain ⟨r',h1,h2⟩:=hk;rw [bD] at h1;cases h1;exact .inr ⟨b,o,len,cap,rfl,hl,h2⟩
    refine ⟨R',c,ro,es,?_,?_,by subst hs; rfl,hex,by subst hs; rfl,by subst hs; exact aG _ _ _,k1,GW,fun b hb=>⟨id,ro,bD,hb⟩⟩
    ·subst hs;refine ⟨⟨by simp [R',h.g.len],fun i gg r g1 g2=>?_,fun i j ri rj b g1 g2 b1 b2=>?_,h.g.wf,fun g cs hg=>(h.g.fm g cs hg).mono ext,h.g.lo⟩,h.b.bh ext (fun _ _ _=>rfl) (fun _ _ _ _ hi=>hi) (fun _ _ _ hl=>live _ hl),fun i hi=>?_,h.n,h.d.mono ext⟩
     ·rcases hinv g2 with ⟨rfl,rfl⟩|⟨du,g2⟩
      ·rw [aB bV] at g1;cases g1;trivial
      ·rw [bn (Ne.symm du)] at g1;exact (h.g.obj i gg r g1 g2).mono ext (fun _ _=>rfl) (fun _ _ _ hi=>hi)
     ·rcases hinv g1 with ⟨_,rfl⟩|⟨_,g1⟩
      ·exact b1.elim
      ·rcases hinv g2 with ⟨_,rfl⟩|⟨_,g2⟩
       ·exact b2.elim
       ·exact h.g.inj i j ri rj b g1 g2 b1 b2
     ·by_cases e:t=i
      ·subst e;rw [aG];exact ⟨c,k1,aeo⟩
      ·rw [aX e] at hi ⊢;obtain ⟨c',l1,l2⟩:=h.t i hi;exact ⟨c',l1,l2.mono ext⟩
    ·subst hs;refine ⟨ext,rfl,rfl,rfl,Nat.le_refl _,fun _ _ _=>rfl,fun b _ ho=>?_,fun _ _ hi _ _=>hi⟩;rcases ho with ho|ho
     ·exact .inl (live b ho)
     ·exact .inr ho
   ·cases hs
  ·cases hs
 ·cases hs
theorem Pm {t:Tmp} {sz:Nat} {e:TypeId} {c:Value} {n:Nat} {ro:RO} {s':St} (h:bk E R w β s a) (hs:AF s t sz e=some s') (hc:a.tmps[t]?=some c) (ho:wK R w β s.boxes c n sz e ro) :
  bk E (R.add ro) w β s' a∧s'.boxes=s.boxes∧s'.ro=s.ro∧aP s s':=by
 unfold AF at hs;split at hs
 ·rename_i k cL es hl;split at hs
  ·rename_i hz;have hz:=aal hz;subst hz;cases hs;obtain ⟨o1,o2,o3⟩:=ho;obtain ⟨c',k1,k2⟩:=h.t t (by rw [hl]; simp);rw [hc] at k1;cases k1;rw [hl] at k2;have k2:Rel R w (.list k cL es) c:=k2;have ext:Ext R w (R.add ro) w:=⟨fun _ _ h=>h,fun _ _ _=>rfl,fun _ r hr=>⟨r,bM hr,di.refl r⟩,gF.refl w⟩;have r8:nth (R.add ro).obj s.G.length=some ro:=by rw [← h.g.len]; exact dH _ _
   have fT:es.length=n∧Rel (R.add ro) w (.list (.own s.G.length) cL es) c:=by
    rcases o3 with ⟨rfl,rfl⟩|⟨b,o,len,cap,rfl,rfl,hk⟩
    ·have hn:n=0:=o1;subst hn;cases k2 <;> exact ⟨rfl,Rel.nP r8 trivial⟩
    ·cases k2 with
     |qt=>exact ⟨rfl,Rel.list .nil rfl (Nat.le_refl _) ⟨_,r8,hk⟩⟩
     |list hr hlen jy _=>exact ⟨hlen.symm,Rel.list (hr.mono ext) hlen jy ⟨_,r8,hk⟩⟩
   obtain ⟨hn,fT⟩:=fT;subst hn;refine ⟨⟨⟨by simp [aj.add,h.g.len],fun i gg r g1 g2=>?_,fun i j ri rj b g1 g2 b1 b2=>?_,h.g.wf,fun g cs hg=>(h.g.fm g cs hg).mono ext,h.g.lo⟩,h.b.bh ext (fun _ _ _=>rfl) (fun _ _ _ _ hi=>hi) (fun k cs hk hl=>?_),fun i hi=>?_,h.n,h.d.mono ext⟩,rfl,rfl,⟨⟨[_],rfl⟩,⟨[],rfl⟩,rfl⟩⟩
   ·rcases ak g2 with g2'|⟨g3,rfl⟩
    ·rcases ak g1 with TU|⟨g4,_⟩
     ·exact (h.g.obj i gg r TU g2').mono ext (fun _ _=>rfl) (fun _ _ _ hi=>hi)
     ·have:=bA g2';rw [h.g.len] at this;omega
    ·rcases ak g1 with TU|⟨g4,rfl⟩
     ·have:=bA TU;rw [g3,h.g.len] at this;omega
     ·cases r <;> first | exact o1 | exact o1.elim
   ·rcases ak g1 with TU|⟨g3,e1⟩
    ·rcases ak g2 with g2'|⟨g4,e2⟩
     ·exact h.g.inj i j ri rj b TU g2' b1 b2
     ·rw [e2] at b2;exact absurd ⟨i,ri,TU,b1⟩ (o2 b b2).1
    ·rcases ak g2 with g2'|⟨g4,e2⟩
     ·rw [e1] at b1;exact absurd ⟨j,rj,g2',b2⟩ (o2 b b1).1
     ·omega
   ·rcases mB hl with hl|hl
    ·exact hl
    ·exact absurd rfl ((o2 _ hl).2 k cs hk)
   ·by_cases e:t=i
    ·subst e;rw [aG];exact ⟨c,hc,fT⟩
    ·rw [aX e] at hi ⊢;obtain ⟨c',l1,l2⟩:=h.t i hi;exact ⟨c',l1,l2.mono ext⟩
  ·cases hs
 ·cases hs
theorem FI {R0 R1 R2 R3:aj} {w w2:World} {β β2:Nat→Nat} {bx0:dy} {s1 s2 s3 s4:St} {a a2:Act} {tm:cr} {v:tm.ps.T} {t:Tmp} {sz n:Nat} {e:TypeId} {c:Value} {ro:RO}
  (h1:bk E R1 w β s1 a) (hn:R0.obj.length=s1.G.length) (hx:aP s1 s3) (hE:Ext R1 w R3 w2) (st:Step R0 w β bx0 R2 w2 β2 s2.boxes) (h3:bk E R3 w2 β2 s3 a2) (U4:Step R2 w2 β2 s2.boxes R3 w2 β2 s3.boxes)
  (hc:a2.tmps[t]?=some c) (ho:wK R3 w2 β2 s3.boxes c n sz e ro) (hl:∀ b,ro.has b→Live R2 b) (hd:tm.dec s1 s3=some v) (hr:AF (tm.st s1 v) t sz e=some s4) :
  ∃ R4,bk E R4 w2 β2 s4 a2∧Step R0 w β bx0 R4 w2 β2 s4.boxes∧Ext R1 w R4 w2∧s4.ro=(tm.st s1 v).ro∧aP (tm.st s1 v) s4:=by
 obtain ⟨q1,q2,q3⟩:=cr.Zu hx h1 h3 hE hd;obtain ⟨p1,p2,p3,p4⟩:=Pm q1 hr hc (ho.mono rfl (fun b hb=>uo hb) q3);have ext:Ext (R3.cut s1.G.length) w2 ((R3.cut s1.G.length).add ro) w2:=⟨fun _ _ h=>h,fun _ _ _=>rfl,fun _ r hr=>⟨r,bM hr,di.refl r⟩,gF.refl w2⟩;have LO:=st.trans U4;refine ⟨_,p1,⟨⟨LO.ext.I,LO.ext.cell,fun id r bV=>?_,LO.ext.lp⟩,st.os,st.tape,st.output,st.size,st.bh,fun b hb Ll=>?_,fun b o hi hb wy=>LO.im b o hi hb wy⟩,q2.trans ext,p3,p4⟩
 ·obtain ⟨r',g1,g2⟩:=LO.ext.obj id r bV;have:=bA bV;exact ⟨r',bM (kX.2 ⟨by omega,g1⟩),g2⟩
 ·have O8:b < w2.heap.size:=Nat.lt_of_lt_of_le hb st.size;rcases Ll with Ll|⟨k,cs,hk,rfl⟩
  ·rcases mB Ll with Ll|Ll
   ·exact LO.own b hb (.inl (uo Ll))
   ·exact st.own b hb (.inl (hl b Ll))
  ·rw [p2] at hk;obtain ⟨gr,kT⟩:=q3 k cs hk;exact LO.own _ hb (.inr ⟨k,gr,kT,rfl⟩)
end
end Go.Am
namespace Go.Am
open Go
structure bi where
 ps:aU
 p:aL
 T:ps.T→Option p.T
def aK (E:Env) (g:FuncId) (e:bi):Prop:=∀ x y,e.T x=some y→bU E g (e.ps.enc x) (fun r=>r=e.p.enc y)
inductive XK
 |norm
 |ret
 |ex (id:Nat)
def XK.is:XK→Exit→Bool
 |.norm,.normal=>true
 |.ret,.ret=>true
 |.ex i,.exit j=>aas i j
 |_,_=>false
def XK.exit:XK→Exit
 |.norm=>.normal
 |.ret=>.ret
 |.ex i=>.exit i
theorem XK.M9 {k:XK} {e:Exit} (h:k.is e=true):e=k.exit:=by
 cases k <;> cases e <;> simp_all [XK.is,XK.exit]
def JT:List (XK × cr)→Type
 |[]=>Empty
 |[x]=>x.2.ps.T
 |x :: y :: l=>x.2.ps.T ⊕ JT (y :: l)
def kY (s:St):(outs:List (XK × cr))→Exit→St→Option (JT outs)
 |[],_,_=>none
 |[x],e,s'=>bif x.1.is e then x.2.dec s s' else none
 |x :: y :: l,e,s'=>bif x.1.is e then (x.2.dec s s').bind fun v=>some (.inl v) else (kY s (y :: l) e s').bind fun o=>some (.inr o)
def Qp {α:Type} (s:St):(outs:List (XK × cr))→JT outs→(Exit→St→α)→α
 |[],o,_=>Empty.rec (fun _=>α) o
 |[x],o,K=>K x.1.exit (x.2.st s o)
 |x :: y :: l,o,K=>Sum.elim (fun v=>K x.1.exit (x.2.st s v)) (fun o=>Qp s (y :: l) o K) o
inductive de
 |loop (gh:List (Loc × Nat × TypeId)) (head:cr) (outs:List (XK × cr))
 |join (outs:List (XK × cr))
 |rot (k:List Bool) (gh:List (Loc × Nat × TypeId)) (head:cr) (outs:List (XK × cr))
 |alt (n:Nat) (a b:de)
 |eN (gh:List (Loc × Nat × TypeId)) (head:cr) (outs:List (XK × cr))
 |RG (gh:List (Loc × Nat × TypeId)) (head:cr)
 |Ni (t:Tmp) (sz:Nat) (e:TypeId) (head:cr) (outs:List (XK × cr))
def RH (n:Nat):de→de
 |.alt m a b=>bif aas n m then RH n a else RH n b
 |c=>c
def aw {V X:Type} (rd:V→Option (V ⊕ X)):Nat→V→Option X
 |0,_=>none
 |n+1,v=>(rd v).bind fun o=>Sum.elim (fun v'=>aw rd n v') (fun x=>some x) o
def eN {V X:Type} (rd:(V→Option X)→V→Option X):Nat→V→Option X
 |0,_=>none
 |n+1,v=>rd (eN rd n) v
structure Dn (E:Env) (g:FuncId) where
 f:List AV→List GO→Option (Bool × AV × List GO)
 ok:∀ args G r G',f args G=some (true,r,G')→dT E g args G (fun r' Nd=>r'=r∧Nd=G')
structure sI (E:Env) (g:FuncId) where
 ps:aU
 outs:List RF
 T:ps.T→Option (XT outs)
 ok:∀ x y,T x=some y→sH E g (ps.enc x) outs (fun z=>z=y)
structure ke where
 D:Zr
 Pn:FuncId→Option bi
 Hm:FuncId→Nat→Option de
 fz:Bool
 N:Nat
 gt:(g:FuncId)→Option (Dn D.toEnv g):=fun _=>none
 xt:(g:FuncId)→Option (sI D.toEnv g):=fun _=>none
def vh {α:Type} (fz:Bool) (s:St) (K:St→α):α:=match fz with
 |true=>Lz s K
 |false=>match s with
  |⟨sl,bx,G,m,ro,n⟩=>K ⟨sl,bx,G,m,ro,n⟩
theorem dO {α:Type} (fz:Bool) (s:St) (K:St→α):vh fz s K=K s:=by
 cases fz
 ·rfl
 ·exact Pe s K
abbrev uu (X:Type):=FuncId→List AV→List GO→(AV→List GO→Option X)→Option X
abbrev qC (X:Type):=Nat→List AV→List GO→(Bool→List GO→Option X)→Option X
section ev
variable {X:Type}
def Hn (E:Env) (s:St) (o:Oper):Option (Int × Nat × (Nat→Oper)):=match o.op with
 |.index t x (.tmp y)=>match bJ E s.af (.tmp y),E.ti t with
  |.v (.int k n),some i=>match i.k with
   |.arr len _ _=>some (n,len,fun j=>{ o with op:=.index t x (.const (.int k j)) })
   |_=>none
  |_,_=>none
 |.indexAddr t x (.tmp y)=>match bJ E s.af (.tmp y),E.ti t with
  |.v (.int k n),some i=>match i.k with
   |.arr len _ _=>match bJ E s.af x with
    |.v (.ep _)=>match E.Uo t with
     |some _=>none
     |none=>some (n,len,fun j=>{ o with op:=.indexAddr t x (.const (.int k j)) })
    |_=>some (n,len,fun j=>{ o with op:=.indexAddr t x (.const (.int k j)) })
   |_=>none
  |_,_=>none
 |_=>none
def BL (E:Env) (fz:Bool) (f:FuncId) (g:Nat→Oper) (n:Int) (K:St→Option X) (s:St):Nat→Nat→Option X
 |0,_=>none
 |m+1,j=>bif decide (n=(j:Int)) then (match an E f s (g j) with
   |some (c,s')=>bif c then vh fz s' K else none
   |_=>none) else BL E fz f g n K s m (j+1)
def ZB (E:Env) (fz:Bool) (call:uu X) (pK:qC X) (f:FuncId) (o:Oper) (K:St→Option X) (s:St):Option X:=
 match o.op with
 |.call { callee:=.value x,args,.. }=>match bJ E s.af x,qm E s.af args.toList with
  |.v (.fn g first cap),some l=>call g (first++l++cap) s.G (fun r G'=>vh fz ((s.cj G').put o.dst (.v r)) K)
  |.v (.yield id),some l=>pK id l s.G (fun b G'=>vh fz ((s.cj G').put o.dst (.v (.bool b))) K)
  |_,_=>none
 |.defer _=>none
 |.next x true=>match Ry s o.dst (bJ E s.af x) with
  |some (b,s1,s2)=>bif b then vh fz s1 K else vh fz s2 K
  |none=>none
 |.lookup t m k ok=>match BH E s t (bJ E s.af m) (bJ E s.af k) with
  |some (c,v,b)=>bif c then vh fz (s.put o.dst (.v (if ok then .bG [v,.bool b] else v))) K else none
  |none=>match an E f s o with
   |some (c,s')=>bif c then vh fz s' K else none
   |_=>none
 |.mapUpdate t m k x=>match o.dst,BI E s t (bJ E s.af m) (bJ E s.af k) (bJ E s.af x) with
  |none,some (c,s')=>bif c then vh fz s' K else none
  |_,_=>none
 |.insert t m k x=>match o.dst,BI E s t (bJ E s.af m) (bJ E s.af k) (bJ E s.af x) with
  |none,some (c,s')=>bif c then vh fz s' K else none
  |_,_=>none
 |.call { callee:=.builtin .append,args,argTypes }=>match jN E f s o with
  |some (c,s')=>bif c then vh fz s' K else none
  |none=>match qm E s.af args.toList with
   |some l=>match Hh E s o.dst l argTypes.toList with
    |some (b,s1,c,s2)=>bif b then vh fz s1 K else bif c then vh fz s2 K else none
    |none=>match an E f s o with
     |some (c,s')=>bif c then vh fz s' K else none
     |_=>none
   |none=>none
 |.call { callee:=.builtin .copy,args,argTypes }=>match qm E s.af args.toList with
  |some l=>match RA E s o.dst l argTypes.toList with
   |some (c,s')=>bif c then vh fz s' K else none
   |none=>match an E f s o with
    |some (c,s')=>bif c then vh fz s' K else none
    |_=>none
  |none=>none
 |_=>match Hn E s o with
  |some (n,len,g)=>BL E fz f g n K s len 0
  |none=>match an E f s o with
   |some (c,s')=>bif c then vh fz s' K else none
   |_=>none
def uw (E:Env) (fz:Bool) (call:uu X) (pK:qC X) (f:FuncId) (ops:List Oper) (o:Oper) (K:St→Option X) (s:St):Option X:=
 match o.guard with
 |none=>ZB E fz call pK f o K s
 |some (j,want)=>match tW ops j with
  |none=>none
  |some d=>match lk s.af d with
   |.v (.bool b)=>match want with
    |true=>bif b then vh fz (s.put (some d) (.v (.bool true))) (ZB E fz call pK f o K) else vh fz ((s.put (some d) (.v (.bool false))).put o.dst (.v jd)) K
    |false=>bif b then vh fz ((s.put (some d) (.v (.bool true))).put o.dst (.v jd)) K else vh fz (s.put (some d) (.v (.bool false))) (ZB E fz call pK f o K)
   |.v (.bG [])=>vh fz (s.put o.dst (.v jd)) K
   |_=>none
def Ho (E:Env) (fz:Bool) (call:uu X) (pK:qC X) (f:FuncId) (ops:List Oper) (o:Oper) (K:St→Option X) (s:St):Option X:=
 match o.guard,mz E f s o with
 |none,some s'=>vh fz s' K
 |_,_=>uw E fz call pK f ops o K s
noncomputable def I7 {X:Type} (l:List Nat) (F:Nat→Option X):Option X:=match l with
 |[]=>none
 |i :: r=>@ite _ (∀ j∈r,F j=F i) (aat _) (F i) none
theorem Po {X:Type} {l:List Nat} {F:Nat→Option X} {x:X} (h:I7 l F=some x):∀ i∈l,F i=some x:=by
 cases l with
 |nil=>cases h
 |cons i r=>
  have h:@ite _ (∀ j∈r,F j=F i) (aat _) (F i) none=some x:=h;by_cases hr:∀ j∈r,F j=F i
  ·rw [if_pos hr] at h;intro j hj;rcases List.mem_cons.1 hj with rfl|hj
   ·exact h
   ·rw [hr j hj]; exact h
  ·rw [if_neg hr] at h;cases h
theorem yg {X:Type} {l:List Nat} {F:Nat→Option X} {x:X} (hl:l≠[]) (h:∀ i∈l,F i=some x):I7 l F=some x:=by
 cases l with
 |nil=>exact absurd rfl hl
 |cons i r=>
  show @ite _ (∀ j∈r,F j=F i) (aat _) (F i) none=some x;have hr:∀ j∈r,F j=F i:=fun j hj=>by rw [h j (aay _ hj),h i aaA]
  rw [if_pos hr];exact h i aaA
noncomputable def BM (E:Env) (fz:Bool) (call:uu X) (pK:qC X) (f:FuncId) (ops:List Oper) (o:Oper) (K:St→Option X) (s:St):Option X:=
 match o.guard,Ai E f s o,zi E s o with
 |none,some (c,s'),_=>bif c then vh fz s' K else none
 |none,none,some (c,s0,left,g)=>bif c then (bif left.isEmpty then vh fz s0 K else I7 left fun i=>bif (g i).1 then vh fz (g i).2 K else none) else none
 |_,_,_=>Ho E fz call pK f ops o K s
noncomputable def Hp (E:Env) (fz:Bool) (call:uu X) (pK:qC X) (f:FuncId) (ops:List Oper) (o:Oper) (K:St→Option X) (s:St):Option X:=
 match Ox E f s o with
 |some (c,s')=>bif c then BM E fz call pK f ops o K s' else none
 |none=>BM E fz call pK f ops o K s
noncomputable def U6 (E:Env) (fz:Bool) (call:uu X) (pK:qC X) (f:FuncId) (ops:List Oper):List Oper→(St→Option X)→St→Option X
 |[],K,s=>K s
 |o :: rest,K,s=>Hp E fz call pK f ops o (fun s'=>match Fs E f o s' with
  |some (c,s2)=>bif c then U6 E fz call pK f ops rest K s2 else none
  |none=>none) s
def ZC (E:Env) (f:FuncId) (ops:List Oper) (o:Oper) (s:St):Bool:=match o.op,o.dst with
 |.lookup t m k ok,some d=>match HU ops s o,BH E s t (bJ E s.af m) (bJ E s.af k) with
  |some true,some (c,v,b)=>c&&G7 (.v (if ok then .bG [v,.bool b] else v)) (lk s.af d)
  |_,_=>bRe E f ops o s
 |_,_=>bRe E f ops o s
def vi (E:Env) (f:FuncId) (ops:List Oper):List Nat→St→Bool
 |[],_=>true
 |k :: l,s=>(match nth ops k with
  |some ok=>ZC E f ops ok s
  |none=>true)&&vi E f ops l s
def oT (E:Env) (fz:Bool) (call:uu X) (pK:qC X) (hH:Option X→Option X→Option X) (f:FuncId) (ops:List Oper):DT→(St→Option X)→St→Option X
 |.done,K,s=>K s
 |.take j _ t,K,s=>match nth ops j with
  |some oj=>uw E fz call pK f ops oj (oT E fz call pK hH f ops t K) s
  |none=>none
 |.br i re _ t .stop,K,s=>match nth ops i with
  |some oi=>uw E fz call pK f ops oi (fun s'=>bif vi E f ops re s' then oT E fz call pK hH f ops t K s' else none) s
  |none=>none
 |.br i re _ t more,K,s=>hH (match nth ops i with
  |some oi=>uw E fz call pK f ops oi (fun s'=>bif vi E f ops re s' then oT E fz call pK hH f ops t K s' else none) s
  |none=>none) (oT E fz call pK hH f ops more K s)
 |.stop,_,_=>none
 |.al j W t,K,s=>match nth ops j with
  |some oj=>bif Zk E f oj W s then uw E fz call pK f ops oj (oT E fz call pK hH f ops t K) s else none
  |none=>none
end ev
def FJ {X:Type} (N:St→Option X) (Q:Exit→St→Option X):Exit→St→Option X
 |.normal,s=>N s
 |e,s=>Q e s
def RI {X:Type} (id:Nat) (Q:Exit→St→Option X):Exit→St→Option X
 |.exit nN,s=>bif aas nN id then Q .normal s else Q (.exit nN) s
 |e,s=>Q e s
def ZD {X:Type} (Q:Exit→St→Option X):Exit→St→Option X
 |.goto _,_=>none
 |e,s=>Q e s
def RJ {X:Type} (E:Env) (fn:Func) (K:AV→List GO→Option X):Exit→St→Option X
 |.normal,s | .ret,s=>match tY s.marks s.G with
  |some G=>match Rc E (s.cj G) fn with
   |some r=>K r G
   |none=>none
  |none=>none
 |_,_=>none
def AG (s:St) (head:cr) (outs:List (XK × cr)):Exit→St→Option (head.ps.T ⊕ JT outs)
 |.normal,s'=>(head.dec s s').bind fun v=>some (.inl v)
 |e,s'=>(kY s outs e s').bind fun o=>some (.inr o)
noncomputable def zK {X:Type} (a b:Option X):Option X:=@ite _ (a=b) (aat _) a none
theorem I8 {X:Type} (a:Option X):zK a a=a:=by unfold zK; rw [if_pos rfl]
def AH {X:Type} (hH:Option X→Option X→Option X):Prop:=∀ a b x,hH a b=some x→a=some x∧b=some x
def LP {X:Type} (id:Nat) (K:Bool→List GO→Option X):Exit→St→Option X:=fun e s=>match nth s.G id with
 |some (.loop _ _ fn sl n ps wG bd d _)=>match e with
  |.normal=>K true (aE s.G id (.loop false none fn sl n ps wG bd d false))
  |.ret=>K false (aE s.G id (.loop false (some .ret) fn sl n ps wG bd d true))
  |.exit i=>K false (aE s.G id (.loop false (some (.exit i)) fn sl n ps wG bd d true))
  |_=>none
 |_=>none
def fpF (fp:Nat):Nat:=fp % 4096
def fpP (fp:Nat):Nat:=fp / 4096
abbrev EvT:=FuncId→Nat→Code→(X:Type)→(Option X→Option X→Option X)→(Exit→St→Option X)→St→Option X
section
variable (C:ke) (ih:EvT)
def FK {X:Type} (hH:Option X→Option X→Option X):uu X:=fun g args G K=>
 bif C.D.okF g then match C.D.P.funcs[g]? with
   |some fn=>match fn.body with
    | some b => bif !(fn.name == "runtime.NumGoroutine") then ih g 1 b X hH (RJ C.D.toEnv fn (bif C.D.B7 g 131072 then Zx C.D.toEnv (C.D.B7 g 131073) (C.D.B7 g 131074) fn.resultTypes.toList K else K)) (St.init fn.ntmps args G) else none
    |none=>none
   |none=>none
  else none
def FL {X:Type} (hH:Option X→Option X→Option X):uu X:=fun g args G K=>
 match C.Pn g with
 |some e=>(e.ps.dec args).bind fun x=>(e.T x).bind fun y=>K (e.p.enc y) G
 |none=>match C.gt g with
  |some e=>match e.f args G with
   |some (c,r,G')=>bif c then K r G' else none
   |none=>none
  |none=>match C.xt g with
   |some e=>(e.ps.dec args).bind fun x=>(e.T x).bind fun o=>goX G K e.outs o
   |none=>FK C ih hH g args G K
def U7 (n:Nat):List Tmp→Bool
 |[]=>true
 |t :: l=>Nat.blt t n&&U7 n l
def U8 {X:Type} (hH:Option X→Option X→Option X):qC X:=fun id args G K=>match nth G id with
 |some (.loop false _ fp sl n ps wG bd _ false)=>
  bif aas args.length ps.length&&U7 n ps&&bW (C.D.dt (fpF fp)) wG&&bW (C.D.dt (fpF fp)) bd then
   ih (fpF fp) (2 * fpP fp) wG X hH (fun e s1=>match e with
    |.normal=>match nth s1.G id with
     |some (.loop false p fn sl n ps wG bd' d false)=>ih (fpF fp) (2 * fpP fp+1) bd X hH (LP id K) (s1.cj (aE s1.G id (.loop true p fn sl n ps wG bd' d false)))
     |_=>none
    |_=>none) (St.round id (Df ps args sl) n G)
  else none
 |_=>none
noncomputable def Dp (f:FuncId) (p:Nat) (c:Code) (X:Type) (hH:Option X→Option X→Option X) (K:Exit→St→Option X) (s:St):Option X:=
 match c with
 |.skip=>K .normal s
 |.label _=>K .normal s
 |.seq x y=>ih f (2 * p) x X hH (FJ (ih f (2 * p+1) y X hH K) K) s
 |.cond c x y=>match bJ C.D.toEnv s.af c with
  |.v (.bool b)=>bif b then ih f (2 * p) x X hH K s else ih f (2 * p+1) y X hH K s
  |_=>none
 |.block id c=>ih f (2 * p) c X hH (RI id K) s
 |.exit id=>K (.exit id) s
 |.ret=>K .ret s
 |.region _ ops false=>U6 C.D.toEnv C.fz (FL C ih hH) (U8 C ih hH) f ops.toList ops.toList (K .normal) s
 |.region id ops true=>match C.D.dt f id with
  |some pl=>oT C.D.toEnv C.fz (FL C ih hH) (U8 C ih hH) hH f ops.toList pl.T (K .normal) s
  |none=>none
 |.scope c=>ih f (2 * p) c X hH (ZD K) s
 |.loop c=>ih f (2 * p) c X hH (FJ (ih f p (.loop c) X hH K) K) s
 |.rangeFunc g ps wG bd=>match s.ro with
  |none=>match bJ C.D.toEnv s.af g with
   |.v (.fn h first cap)=>FL C ih hH h (first++[.yield (s.G.length+1)]++cap) (s.G++[.defers true]++[.loop false none (4096 * p+f) (ib s.af) s.n ps.toList wG bd s.G.length false])
    (fun _ G'=>match nth G' (s.G.length+1) with
     |some (.loop busy pending _ _ _ _ _ _ _ done)=>bif !busy || done then
       match pending with
       |none=>vh C.fz ⟨s.af,s.boxes,aE G' (s.G.length+1) .dead,s.G.length :: s.marks,s.ro,s.n⟩ (K .normal)
       |some .ret=>vh C.fz ⟨s.af,s.boxes,aE G' (s.G.length+1) .dead,s.G.length :: s.marks,s.ro,s.n⟩ (K .ret)
       |some (.exit i)=>vh C.fz ⟨s.af,s.boxes,aE G' (s.G.length+1) .dead,s.G.length :: s.marks,s.ro,s.n⟩ (K (.exit i))
       |_=>none
      else none
     |_=>none)
   |_=>none
  |some id=>match nth s.G id with
   |some (.loop _ _ _ _ _ _ _ _ d0 _)=>match bJ C.D.toEnv s.af g with
    |.v (.fn h first cap)=>FL C ih hH h (first++[.yield s.G.length]++cap) (s.G++[.loop false none (4096 * p+f) (ib s.af) s.n ps.toList wG bd d0 false])
     (fun _ G'=>match nth G' s.G.length with
      |some (.loop busy pending _ _ _ _ _ _ _ done)=>bif !busy || done then
        match pending with
        |none=>vh C.fz ⟨s.af,s.boxes,aE G' s.G.length .dead,s.marks,s.ro,s.n⟩ (K .normal)
        |some .ret=>vh C.fz ⟨s.af,s.boxes,aE G' s.G.length .dead,s.marks,s.ro,s.n⟩ (K .ret)
        |some (.exit i)=>vh C.fz ⟨s.af,s.boxes,aE G' s.G.length .dead,s.marks,s.ro,s.n⟩ (K (.exit i))
        |_=>none
       else none
      |_=>none)
    |_=>none
   |_=>none
 |_=>none
def LQ:List Oper→List Tmp
 |[]=>[]
 |o :: l=>match o.dst with
  |some d=>d :: LQ l
  |none=>LQ l
def kZ:Code→List Tmp→List Tmp
 |.region _ ops _,r=>LQ ops.toList++r
 |.seq x y,r=>kZ x (kZ y r)
 |.cond _ x y,r=>kZ x (kZ y r)
 |.block _ c,r=>kZ c r
 |.scope c,r=>kZ c r
 |.loop c,r=>kZ c r
 |.rangeFunc _ ps a b,r=>ps.toList++kZ a (kZ b r)
 |_,r=>r
def ux (W:List Tmp) (t:cr):cr:=⟨t.ps,t.sl,W,t.bx,t.g,t.lps⟩
def uy (W:List Tmp):List (XK × cr)→List (XK × cr)
 |[]=>[]
 |(k,t) :: l=>(k,ux W t) :: uy W l
def RK:Code→Bool
 |.loop _=>true
 |_=>false
noncomputable def aep {X:Type} (f:FuncId) (p:Nat) (c:Code) (outs:List (XK × cr)) (K:Exit→St→Option X) (s:St):Option X:=
 (Dp C ih f p c (JT outs) zK (kY s outs) s).bind fun o=>Qp s outs o K
noncomputable def XF {X:Type} (f:FuncId) (p:Nat) (b:Code) (s1:St) (head:cr) (outs:List (XK × cr)) (K:Exit→St→Option X):Option X:=
 (head.dec s1 s1).bind fun v0=>(aw (fun v=>ih f (2 * p) b (head.ps.T ⊕ JT outs) zK (AG s1 head outs) (head.st s1 v)) C.N v0).bind fun o=>Qp s1 outs o K
def RL (s:St) (head:cr) (outs:List (XK × cr)) (k:head.ps.T→Option (JT outs)):Exit→St→Option (JT outs)
 |.normal,s'=>(head.dec s s').bind k
 |e,s'=>kY s outs e s'
noncomputable def RM {X:Type} (f:FuncId) (p:Nat) (b:Code) (s1:St) (head:cr) (outs:List (XK × cr)) (K:Exit→St→Option X):Option X:=
 (head.dec s1 s1).bind fun v0=>(eN (fun k v=>ih f (2 * p) b (JT outs) zK (RL s1 head outs k) (head.st s1 v)) C.N v0).bind fun o=>Qp s1 outs o K
def RN {X:Type} (s:St) (head:cr) (K:Exit→St→Option X) (k:head.ps.T→Option X):Exit→St→Option X
 |.normal,s'=>(head.dec s s').bind k
 |e,s'=>K e s'
noncomputable def RQ {X:Type} (f:FuncId) (p:Nat) (b:Code) (s1:St) (head:cr) (K:Exit→St→Option X):Option X:=
 (head.dec s1 s1).bind fun v0=>eN (fun k v=>ih f (2 * p) b X zK (RN s1 head K k) (head.st s1 v)) C.N v0
def RR (s:St) (head:cr) (outs:List (XK × cr)) (t:Tmp) (sz:Nat) (e:TypeId):Exit→St→Option (head.ps.T ⊕ JT outs)
 |.normal,s'=>match yf s' t sz e with
  |some (c,s2)=>bif c then (head.dec s s2).bind fun v=>some (.inl v) else none
  |none=>none
 |x,s'=>(kY s outs x s').bind fun o=>some (.inr o)
noncomputable def LR {X:Type} (f:FuncId) (p:Nat) (b:Code) (s1:St) (head:cr) (outs:List (XK × cr)) (t:Tmp) (sz:Nat) (e:TypeId) (K:Exit→St→Option X):Option X:=
 (head.dec s1 s1).bind fun v0=>(aw (fun v=>match AF (head.st s1 v) t sz e with
  |some s2=>ih f (2 * p) b (head.ps.T ⊕ JT outs) zK (RR s1 head outs t sz e) s2
  |none=>none) C.N v0).bind fun o=>Qp s1 outs o K
def RS {X:Type} (hH:Option X→Option X→Option X) (f:FuncId) (K:Exit→St→Option X):List Bool→Nat→Code→St→Option X
 |[],_,_,s=>K .normal s
 |true :: k,q,.seq x y,s=>ih f (2 * q) x X hH (FJ (RS hH f K k (2 * q+1) y) K) s
 |false :: k,q,.seq x _,s=>RS hH f K k (2 * q) x s
 |_ :: _,_,_,_=>none
def U9 {X:Type} (hH:Option X→Option X→Option X) (f:FuncId):List Bool→Nat→Code→(Exit→St→Option X)→St→Option X
 |[],q,c,K,s=>ih f q c X hH K s
 |true :: k,q,.seq _ y,K,s=>U9 hH f k (2 * q+1) y K s
 |false :: k,q,.seq x y,K,s=>U9 hH f k (2 * q) x (FJ (ih f (2 * q+1) y X hH K) K) s
 |_ :: _,_,_,_,_=>none
noncomputable def aeq {X:Type} (f:FuncId) (p:Nat) (b:Code) (k:List Bool) (s1:St) (head:cr) (outs:List (XK × cr)) (K:Exit→St→Option X):Option X:=
 ((RS ih zK f (AG s1 head outs) k (2 * p) b s1).bind fun r0=>
  Sum.elim (fun v0=>aw (fun v=>U9 ih zK f k (2 * p) b (FJ (RS ih zK f (AG s1 head outs) k (2 * p) b) (AG s1 head outs)) (head.st s1 v)) C.N v0) (fun x=>some x) r0).bind fun o=>Qp s1 outs o K
noncomputable def Dq (f:FuncId) (p:Nat) (c:Code) (X:Type) (hH:Option X→Option X→Option X) (K:Exit→St→Option X) (s:St):Option X:=
 match C.Hm f p with
 |none=>Dp C ih f p c X hH K s
 |some ct=>match RH s.G.length ct with
  |.join outs=>bif RK c then none else aep C ih f p c (uy (kZ c []) outs) K s
  |.loop gh head outs=>match c with
   |.loop b=>match jg gh s with
    |some s1=>XF C ih f p b s1 (ux (kZ b []) head) (uy (kZ b []) outs) K
    |none=>none
   |_=>none
  |.rot k gh head outs=>match c with
   |.loop b=>match jg gh s with
    |some s1=>aeq C ih f p b k s1 (ux (kZ b []) head) (uy (kZ b []) outs) K
    |none=>none
   |_=>none
  |.eN gh head outs=>match c with
   |.loop b=>match jg gh s with
    |some s1=>RM C ih f p b s1 (ux (kZ b []) head) (uy (kZ b []) outs) K
    |none=>none
   |_=>none
  |.RG gh head=>match c with
   |.loop b=>match jg gh s with
    |some s1=>RQ C ih f p b s1 (ux (kZ b []) head) K
    |none=>none
   |_=>none
  |.Ni t sz e head outs=>match c with
   |.loop b=>match yf s t sz e with
    |some (cc,s1)=>bif cc then LR C ih f p b s1 (ux (kZ b []) head) (uy (kZ b []) outs) t sz e K else none
    |none=>none
   |_=>none
  |.alt _ _ _=>none
end
noncomputable def ev (C:ke):Nat→EvT:=Nat.rec (fun _ _ _ _ _ _ _=>none) (fun _ ih=>Dq C ih)
end Go.Am
