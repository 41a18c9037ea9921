/- The abstract machine: calls that leave no trace; forms of states in the rules; nil lists become tokens. -/
import Derived.Test.YtegoimldbgdeiaaAmKI
set_option linter.all false
namespace Go.Am
open Go
section
variable {E:Env} {R R':aj} {w w':World} {β β':Nat→Nat} {s s':St} {a a':Act}
def bg (E:Env) (g:FuncId) (args:List AV) (Q:AV→Prop):Prop:=∀ G,cA E g args G (fun r G'=>G'=G∧Q r)
theorem bg.mono {g:FuncId} {args:List AV} {Q Q':AV→Prop} (h:bg E g args Q) (hq:∀ r,Q r→Q' r):bg E g args Q':=
 fun G=>(h G).mono fun r _ hh=>⟨hh.1,hq r hh.2⟩
theorem bg.of {g:FuncId} {args:List AV} {p:ah} {Q:p.T→Prop} (hc:aA 0 args=true) (hp:p.under 0=true)
  (h:cA E g args [] (fun r _=>∃ y,p.dec r=some y∧Q y)):bg E g args (fun r=>∃ y,r=p.enc y∧Q y):=fun G=>by
 refine ⟨h.1,fun R w cs hg hl=>?_⟩
 let R0:aj:=⟨R.I,[]⟩
 have m0:Mv R R0 0:=⟨fun _ _ h=>h,fun _ _ h=>absurd h (Nat.not_lt_zero _)⟩
 have NN:dP E R0 w []:=⟨rfl,fun id go ro h1 _=>by simp [nth] at h1,fun i j ri rj b h1=>by simp [R0,nth] at h1,hg.wf,fun g cs sF=>(hg.dD g cs sF).move m0 (cw _ (E.xp g cs sF)),hg.lo⟩
 have sB:aE R0 w args cs:=hl.move m0 hc
 refine (h.2 R0 w cs NN sB).mono fun e w' he=>?_
 cases e with
 | panicked c=>exact he.elim
 | outgrown=>exact he.elim
 | returned c=>
  obtain ⟨r,G',R1,⟨y,hy,hQ⟩,dv,LI,st⟩:=he
  have jR:∀ b,¬ Own R0 (fun _=>0) fu b:=fun b ho=>by
   obtain ⟨id,ro,h1,_⟩:=fb ho
   simp [R0,nth] at h1
  let R2:aj:=⟨R1.I,R.obj⟩
  have e:Ext R w R2 w':=⟨st.ext.I,st.ext.cell,fun id ro h=>⟨ro,h,bZ.refl ro⟩,st.ext.lp⟩
  have aW:∀ b,b < w.heap.size→w'.heap[b]?=w.heap[b]?:=fun b hb=>st.aW b hb (jR b)
  have im:∀ b o,b < w.heap.size→R1.I b o→R.I b o:=fun b o hb hi=>st.im b o hi hb (jR b)
  have hd:=p.oX hy
  have m:Mv R1 R2 0:=⟨fun _ _ h=>h,fun _ _ h=>absurd h (Nat.not_lt_zero _)⟩
  refine ⟨p.enc y,G,R2,⟨rfl,y,rfl,hQ⟩,Rel.move m (p.cK y hp) (hd.gf _ _ _ dv),⟨hg.len,fun id go ro h1 h2=>?_,hg.inj,LI.wf,fun g cs sF=>(hg.dD g cs sF).mono e,LI.lo⟩,⟨e,st.os,st.tape,st.output,st.size,fun b hb _=>aW b hb,fun b _ ho=>?_,fun b o hi hb _=>im b o hb hi⟩⟩
  ·refine (hg.obj id go ro h1 h2).mono e (fun b hb=>aW b ?_) (fun b o hb hi=>im b o ?_ hi)
   ·exact (hg.obj id go ro h1 h2).lt hb
   ·exact (hg.obj id go ro h1 h2).lt hb
  ·exact ho
theorem eS.Si {c:Code} {Q Q':Exit→St→Prop} (h:eS E c (fun e s'=>aJ s s'∧Q' e s') s)
  (hq:∀ e s',Q' e s'→∃ (t:bR) (v:t.ps.T),t.dec s s'=some v∧Q e (t.st s v)):eS E c Q s:=fun R w β a F hr hf=>by
 refine wpIn_mono (h R w β a F hr hf) ?_
 rintro e a' w' ⟨s',R',β',⟨hx,RC⟩,ky,jE,bA⟩
 obtain ⟨t,v,hd,hQ⟩:=hq e s' RC
 obtain ⟨h1,h2⟩:=bR.xS hx hr ky jE hd
 exact ⟨_,_,β',hQ,h1,h2,rfl⟩
theorem eS.fJ {c:Code} {Q:Exit→St→Prop} {l:List (Loc × Nat × TypeId)} (hs:Am.fJ l s=some s') (h:eS E c Q s'):eS E c Q s:=fun R w β a F hr hf=>by
 obtain ⟨R1,k1,k2,k3,_⟩:=iq hr hs
 refine wpIn_mono (h R1 w β a F k1 (by rw [k3]; exact hf.mono k2.ext)) ?_
 rintro e a' w' ⟨s2,R2,β2,hq,wI,EM,z8⟩
 exact ⟨s2,R2,β2,hq,wI,k2.trans EM,z8.trans k3⟩
end
end Go.Am
namespace Go.Am
open Go
def FW (s:St) (dst:Option Tmp) (x:SV):Option (Bool × St × St):=match x with
 | .v (.ptr id 0)=>match nth s.G id with
  | some (.fV l pos)=>some (Nat.blt pos l.length,(s.bF (ax s.G id (.fV l (pos+(bO l pos).2)))).put dst (.v (.bk [.bool true,.int .i64 pos,.int .i32 (bO l pos).1])),s.put dst (.v (.bk [.bool false])))
  | _=>none
 | _=>none
theorem B1 {s:St} {dst:Option Tmp} {x:SV} {b:Bool} {s1 s2:St} (h:FW s dst x=some (b,s1,s2)):kE s dst x=some (bif b then s1 else s2):=by
 unfold FW at h
 split at h
 ·split at h
  ·rename_i l pos hg
   cases h
   simp only [kE,hg]
   cases Nat.blt pos l.length <;> rfl
  ·cases h
 ·cases h
theorem CZ {e:EK} {k:AV}:∀ {es:List (AV × AV)},b8 e k es=true→hX e k es=some (ef e k es)
 | [],_=>rfl
 | (k',v) :: l,h=>by
  simp only [b8,Bool.and_eq_true] at h
  obtain ⟨b,hb⟩:=Option.isSome_iff_exists.1 h.1
  simp only [hX,ef,vB,hb]
  cases b
  ·simp only [cond_false]; exact CZ h.2
  ·rfl
theorem FX {e:EK} {k v:AV}:∀ {es:List (AV × AV)},b8 e k es=true→qO e k v es=some (b9 e k v es)
 | [],_=>rfl
 | (k',v') :: l,h=>by
  simp only [b8,Bool.and_eq_true] at h
  obtain ⟨b,hb⟩:=Option.isSome_iff_exists.1 h.1
  simp only [qO,b9,vB,hb]
  cases b
  ·simp only [cond_false,FX h.2]
  ·rfl
mutual
def ah.flat:ah→Bool
 | .int _=>true
 | .bool=>true
 | .str=>true
 | .agg ps=>ps.flat
 | .aU _ _ p=>p.flat
 | _=>false
def aC.flat:aC→Bool
 | .nil=>true
 | .cons p ps=>p.flat&&ps.flat
end
theorem Aa {α:Type} {f:AV→Bool} {d:AV→α} {g:α→AV} (h:∀ a,f a=true→g (d a)=a):∀ {es:List AV},allFit f es=true→(es.map d).map g=es
 | [],_=>rfl
 | a :: l,hl=>by
  simp only [allFit,Bool.and_eq_true] at hl
  rw [List.map_cons,List.map_cons,h a hl.1,Aa h hl.2]
mutual
theorem ah.j8:∀ {p:ah},p.flat=true→∀ {a:AV},p.fits a=true→p.enc (p.a7 a)=a
 | .int k,_,a,h=>by
  cases a <;> first | (cases h; done) | skip
  have hk:NG _ _=true:=h
  rw [AX hk]; rfl
 | .bool,_,a,h=>by cases a <;> first | (cases h; done) | rfl
 | .str,_,a,h=>by cases a <;> first | (cases h; done) | rfl
 | .agg ps,hp,a,h=>by
  cases a <;> first | (cases h; done) | skip
  exact congrArg AV.agg (aC.j8 (ps:=ps) hp h)
 | .bk _,hp,_,_=>by cases hp
 | .list _ _,hp,_,_=>by cases hp
 | .own _ _ _,hp,_,_=>by cases hp
 | .aU id sz p,hp,a,h=>by
  cases a <;> first | (cases h; done) | skip
  rename_i k bl es
  cases k <;> first | (cases h; done) | skip
  rename_i iS j
  simp only [ah.fits,Bool.and_eq_true] at h
  have e1:=Nat.eq_of_beq_eq_true h.1.1
  have e2:=Nat.eq_of_beq_eq_true h.1.2
  subst e1 e2
  have hp:p.flat=true:=hp
  show AV.list (.aU id j) sz ((es.map p.a7).map p.enc)=_
  rw [Aa (fun a ha=>ah.j8 hp ha) h.2]
 | .py _,hp,_,_=>by cases hp
 | .two _ _,hp,_,_=>by cases hp
theorem aC.j8:∀ {ps:aC},ps.flat=true→∀ {l:List AV},ps.fits l=true→ps.enc (ps.a7 l)=l
 | .nil,_,l,h=>by
  cases l with
  | nil=>rfl
  | cons _ _=>cases h
 | .cons p .nil,hp,l,h=>by
  simp only [aC.flat,Bool.and_eq_true] at hp
  cases l with
  | nil=>cases h
  | cons a l=>
   simp only [aC.fits,Bool.and_eq_true] at h
   cases l with
   | nil=>exact congrArg (fun x=>[x]) (ah.j8 hp.1 h.1)
   | cons _ _=>cases h.2
 | .cons p (.cons q ps),hp,l,h=>by
  rw [aC.flat,Bool.and_eq_true] at hp
  cases l with
  | nil=>cases h
  | cons a l=>
   rw [aC.fits,Bool.and_eq_true] at h
   have h1:=ah.j8 hp.1 h.1
   have h2:=aC.j8 (ps:=.cons q ps) hp.2 h.2
   show p.enc (p.a7 a) :: (aC.cons q ps).enc ((aC.cons q ps).a7 l)=a :: l
   rw [h1,h2]
end
def s7 (E:Env) (s:St) (t:TypeId) (m k:SV):Option (Bool × AV × Bool):=match JD E s.G t,E.ti t,mapOf s m,k with
 | some p,some i,some es,.v k=>match i.k with
  | .map kt _ (some z)=>match E.ti kt with
   | some j=>if j.ek.plain&&gS j.ek k&&p.flat then
     some (b8 j.ek k es&&p.fits (aF j.ek k (yZ E s.G t z) es),p.enc (p.a7 (aF j.ek k (yZ E s.G t z) es)),(ef j.ek k es).isSome)
    else none
   | none=>none
  | _=>none
 | _,_,_,_=>none
theorem ql {E:Env} {s:St} {t:TypeId} {m k:SV} {v:AV} {b:Bool} (h:s7 E s t m k=some (true,v,b)):kD E s t m k=some (v,b):=by
 unfold s7 at h
 split at h
 ·rename_i p i es k h1 h2 h3
  split at h
  ·rename_i kt et z hk
   split at h
   ·rename_i j hj
    split at h
    ·rename_i hc
     simp only [Bool.and_eq_true] at hc
     injection h with h
     injection h with h4 h
     injection h with h5 h6
     rw [Bool.and_eq_true] at h4
     rw [ah.j8 hc.2 h4.2] at h5
     have e:hX j.ek k es=some (ef j.ek k es):=CZ h4.1
     have pM:(j.ek.plain&&gS j.ek k)=true:=by rw [hc.1.1,hc.1.2]; rfl
     have e0:iD E s t m (.v k)=some ((ef j.ek k es).getD z,(ef j.ek k es).isSome):=by
      simp only [iD,h2,h3,hk,hj,pM,if_true,e]
      cases ef j.ek k es <;> rfl
     unfold kD
     rw [e0]
     unfold aF at h5
     cases hg:ef j.ek k es with
     | none=>
      rw [hg] at h5 h6
      subst h5 h6
      rfl
     | some v'=>
      rw [hg] at h5 h6
      subst h5 h6
      rfl
    ·cases h
   ·cases h
  ·cases h
 ·cases h
def s8 (E:Env) (s:St) (t:TypeId) (m k x:SV):Option (Bool × St):=match E.ti t,m,k,x with
 | some i,.v (.map id),.v k,.v x=>match i.k,nth s.G id with
  | .map kt _ _,some (.map es)=>match E.ti kt with
   | some j=>if j.ek.plain&&gS j.ek k then some (b8 j.ek k es,s.bF (ax s.G id (.map (b9 j.ek k x es)))) else none
   | none=>none
  | _,_=>none
 | _,_,_,_=>none
theorem qm {E:Env} {s s':St} {t:TypeId} {m k x:SV} (h:s8 E s t m k x=some (true,s')):eR E s t m k x=some s':=by
 unfold s8 at h
 split at h
 ·rename_i i id k x h1
  split at h
  ·rename_i kt _ _ es hk hg
   split at h
   ·rename_i j hj
    split at h
    ·rename_i hc
     injection h with h
     injection h with h4 h5
     simp only [eR,h1,hk,hg,hj,hc,if_true,FX h4,h5]
    ·cases h
   ·cases h
  ·cases h
 ·cases h
def FY (E:Env) (s:St) (dst:Option Tmp) (l:List AV) (tys:List TypeId):Option (Bool × St):=match l,tys with
 | [.iR id off sz len _,.str bs],t :: _=>match E.ti t,nth s.G id with
  | some i,some (.row cs el)=>match i.k with
   | .sl _ esz _ _ _=>if Nat.beq sz esz&&Nat.beq esz 1 then
     some (Nat.ble (off+(bs.take (Nat.min bs.length len)).length) cs.length,
      (s.bF (ax s.G id (.row (bI cs off ((bs.take (Nat.min bs.length len)).map pF)) el))).put dst (.v (.int .i64 (Nat.min bs.length len))))
    else none
   | _=>none
  | _,_=>none
 | [.iR id off sz len _,.list _ bl es],t :: _=>match E.ti t,nth s.G id with
  | some i,some (.row cs el)=>match i.k with
   | .sl _ esz _ _ _=>if Nat.beq sz esz&&Nat.beq bl esz then
     some (Nat.ble (off+(ar (es.take (Nat.min es.length len))).length) cs.length,
      (s.bF (ax s.G id (.row (bI cs off (ar (es.take (Nat.min es.length len)))) el))).put dst (.v (.int .i64 (Nat.min es.length len))))
    else none
   | _=>none
  | _,_=>none
 | [.dM id f off sz len,.list _ bl xs],t :: _=>match E.ti t,nth s.G id with
  | some i,some (.du es QQ el)=>match i.k with
   | .sl _ esz _ _ _=>if Nat.beq sz esz&&Nat.beq QQ sz&&Nat.beq bl esz then
     some (decide (f=es.length)&&decide (off+Nat.min xs.length len≤es.length),
      (s.bF (ax s.G id (.du (bI es off (xs.take (Nat.min xs.length len))) QQ el))).put dst (.v (.int .i64 (Nat.min xs.length len))))
    else none
   | _=>none
  | _,_=>none
 | _,_=>none
theorem B2 {E:Env} {s s':St} {dst:Option Tmp} {l:List AV} {tys:List TypeId} (h:FY E s dst l tys=some (true,s')):bw E s dst .copy l tys=some (true,s'):=by
 unfold FY at h
 split at h
 ·rename_i id off sz len cap bs t ts
  split at h
  ·rename_i i cs el hi bE
   split at h
   ·rename_i a1 esz a2 a3 a4 hk
    split at h
    ·rename_i hc
     rw [Bool.and_eq_true] at hc
     injection h with h
     injection h with h1 h2
     have qT:(Nat.beq esz 1&&Nat.ble (off+(bs.take (Nat.min bs.length len)).length) cs.length)=true:=by rw [hc.2,h1]; rfl
     simp only [bw,hi,hk,pG,bE,hc.1,if_true,qT,h2]
    ·cases h
   ·cases h
  ·cases h
 ·rename_i id off sz len cap k bl es t ts
  split at h
  ·rename_i i cs el hi bE
   split at h
   ·rename_i a1 esz a2 a3 a4 hk
    split at h
    ·rename_i hc
     rw [Bool.and_eq_true] at hc
     injection h with h
     injection h with h1 h2
     have e2:(Nat.beq bl esz || es.isEmpty)=true:=by rw [hc.2]; rfl
     simp only [bw,hi,hk,pG,bE,hc.1,if_true,e2,h1,h2]
    ·cases h
   ·cases h
  ·cases h
 ·rename_i id f off sz len k bl xs t ts
  split at h
  ·rename_i i es QQ el hi bE
   split at h
   ·rename_i a1 esz a2 a3 a4 hk
    split at h
    ·rename_i hc
     rw [Bool.and_eq_true] at hc
     injection h with h
     injection h with h1 h2
     rw [Bool.and_eq_true,decide_eq_true_eq,decide_eq_true_eq] at h1
     obtain ⟨rfl,h1⟩:=h1
     have e2:(Nat.beq sz esz&&Nat.beq QQ sz&&(Nat.beq bl esz || xs.isEmpty)&&Nat.ble es.length es.length&&Nat.ble es.length es.length&&Nat.ble (off+Nat.min xs.length len) es.length)=true:=by
      rw [hc.1,hc.2]
      simp only [Bool.true_or,Bool.true_and,Bool.and_eq_true]
      exact ⟨⟨Nat.ble_eq_true_of_le (Nat.le_refl _),Nat.ble_eq_true_of_le (Nat.le_refl _)⟩,Nat.ble_eq_true_of_le h1⟩
     simp only [bw,hi,hk,pG,bE,e2,if_true,h2]
    ·cases h
   ·cases h
  ·cases h
 ·cases h
def s9 (s:St) (dst:Option Tmp) (elem esz a6:Nat) (k:LK) (sz:Nat) (es ys:List AV):Option (Bool × St × Bool × St):=
 match k with
 | .nil=>some (ys.isEmpty,s.put dst (.v (.list .nil sz es)),decide ((es.length+ys.length) * a6≤140737488355328),
   (s.bF (s.G++[.tok (es.length+ys.length) esz elem])).put dst (.v (.list (.own s.G.length) esz (es++ys))))
 | .full=>if Nat.beq sz esz then some (ys.isEmpty,s.put dst (.v (.list .full sz es)),decide ((es.length+ys.length) * a6≤140737488355328),
   (s.bF (s.G++[.tok (es.length+ys.length) esz elem])).put dst (.v (.list (.own s.G.length) esz (es++ys)))) else none
 | .own id=>match nth s.G id with
  | some (.tok f bl e')=>if Nat.beq bl esz&&Nat.beq e' elem&&Nat.beq sz esz then
    some (false,s,decide (f=es.length)&&decide ((es.length+ys.length) * a6≤140737488355328),
     (s.bF (ER s.G id ys.length f esz elem)).put dst (.v (.list (.own id) esz (es++ys)))) else none
  | _=>none
 | .aU id j=>match nth s.G id with
  | some (.aU fs bl e')=>if Nat.beq bl esz&&Nat.beq e' elem&&Nat.beq sz esz then
    some (ys.isEmpty,s.put dst (.v (.list (.aU id j) sz es)),HH fs j es.length&&decide ((es.length+ys.length) * a6≤140737488355328),
     (s.bF (ax s.G id (.aU (Ds fs j (es.length+ys.length)) esz elem))).put dst (.v (.list (.aU id j) esz (es++ys)))) else none
  | _=>none
 | .kr=>none
def yk (s:St) (dst:Option Tmp) (elem esz a6 id f off sz len:Nat) (ys:List AV):Option (Bool × St × Bool × St):=match nth s.G id with
 | some (.du es bl e')=>if Nat.beq bl esz&&Nat.beq e' elem&&Nat.beq sz esz then
   some (false,s,decide (f=es.length)&&decide (off=0)&&decide (len=f)&&decide ((es.length+ys.length) * a6≤140737488355328),
    (s.bF (ax s.G id (.du (es++ys) esz elem))).put dst (.v (.dM id (es.length+ys.length) 0 esz (es.length+ys.length)))) else none
 | _=>none
def yl (E:Env) (s:St) (dst:Option Tmp) (l:List AV) (tys:List TypeId):Option (Bool × St × Bool × St):=match l,tys with
 | [.list k sz es,.list _ bl ys],[t,u]=>match E.ti t with
  | some i=>match i.k with
   | .sl elem esz _ a6 (some z)=>
    if Nat.beq bl esz&&Nat.beq t u&&Nat.ble 1 esz&&Nat.ble 1 a6&&Nat.beq z.cells.length esz&&z.aL then
     s9 s dst elem esz a6 k sz es ys
    else none
   | _=>none
  | none=>none
 | [.dM id f off sz len,.list _ bl ys],[t,u]=>match E.ti t with
  | some i=>match i.k with
   | .sl elem esz _ a6 (some z)=>
    if Nat.beq bl esz&&Nat.beq t u&&Nat.ble 1 esz&&Nat.ble 1 a6&&Nat.beq z.cells.length esz&&z.aL then yk s dst elem esz a6 id f off sz len ys else none
   | _=>none
  | none=>none
 | [.list k sz es,.str bs],[t,u]=>match E.ti t,E.ti u with
  | some i,some j=>match i.k,j.k with
   | .sl elem esz _ a6 (some z),.str=>
    if Nat.beq esz 1&&Nat.ble 1 a6&&Nat.beq z.cells.length esz&&z.aL then s9 s dst elem esz a6 k sz es (bs.map pF) else none
   | _,_=>none
  | _,_=>none
 | _,_=>none
theorem qn {s s1 s2:St} {dst:Option Tmp} {elem esz a6:Nat} {k:LK} {sz:Nat} {es ys:List AV} {b c:Bool} (h:s9 s dst elem esz a6 k sz es ys=some (b,s1,c,s2)) (hc:b=false→c=true) :
  ∃ v G',eQ s.G elem esz a6 (.list k sz es) ys=some (true,v,G')∧(s.bF G').put dst (.v v)=bif b then s1 else s2:=by
 unfold s9 at h
 cases k with
 | nil=>
  cases h
  cases ys with
  | nil=>exact ⟨_,_,rfl,rfl⟩
  | cons y ys=>
   have hc:=hc rfl
   exact ⟨_,_,by simp only [eQ,hc],rfl⟩
 | full=>
  simp only at h
  cases hs:Nat.beq sz esz with
  | false=>rw [hs] at h; cases h
  | true=>
   rw [hs] at h
   cases h
   cases ys with
   | nil=>exact ⟨_,_,rfl,rfl⟩
   | cons y ys=>
    have hc:=hc rfl
    exact ⟨_,_,by simp only [eQ,hs,if_true,hc],rfl⟩
 | own id=>
  simp only at h
  split at h
  ·rename_i f bl e' hg
   split at h
   ·rename_i cp
    cases h
    have hc:=hc rfl
    cases ys with
    | nil=>
     simp only [Bool.and_eq_true] at cp
     have e1:=Nat.eq_of_beq_eq_true cp.1.1
     have e2:=Nat.eq_of_beq_eq_true cp.1.2
     have e3:=Nat.eq_of_beq_eq_true cp.2
     subst e1; subst e2; subst e3
     refine ⟨_,_,rfl,?_⟩
     simp only [cond_false,ER,List.length_nil,Nat.add_zero,mP hg,List.append_nil]
    | cons y ys=>exact ⟨_,_,by simp only [eQ,hg,cp,if_true,hc],rfl⟩
   ·cases h
  ·cases h
 | aU id j=>
  simp only at h
  split at h
  ·rename_i fs bl e' hg
   split at h
   ·rename_i cp
    cases h
    cases ys with
    | nil=>exact ⟨_,_,rfl,rfl⟩
    | cons y ys=>
     have hc:=hc rfl
     exact ⟨_,_,by simp only [eQ,hg,cp,if_true,hc],rfl⟩
   ·cases h
  ·cases h
 | kr=>cases h
theorem ym {s s1 s2:St} {dst:Option Tmp} {elem esz a6 id f off sz len:Nat} {ys:List AV} {b c:Bool} (h:yk s dst elem esz a6 id f off sz len ys=some (b,s1,c,s2)) (hc:b=false→c=true) :
  ∃ v G',eQ s.G elem esz a6 (.dM id f off sz len) ys=some (true,v,G')∧(s.bF G').put dst (.v v)=bif b then s1 else s2:=by
 unfold yk at h
 split at h
 ·rename_i es bl e' hg
  split at h
  ·rename_i cp
   cases h
   have hc:=hc rfl
   cases ys with
   | nil=>
    simp only [Bool.and_eq_true,decide_eq_true_eq] at hc cp
    have e1:=Nat.eq_of_beq_eq_true cp.1.1
    have e2:=Nat.eq_of_beq_eq_true cp.1.2
    have e3:=Nat.eq_of_beq_eq_true cp.2
    obtain ⟨⟨⟨h1,h2⟩,h3⟩,_⟩:=hc
    subst e1; subst e2; subst e3; subst h1; subst h2; subst h3
    refine ⟨_,_,rfl,?_⟩
    simp only [cond_false,List.length_nil,Nat.add_zero,mP hg,List.append_nil]
   | cons y ys=>exact ⟨_,_,by simp only [eQ,hg,cp,if_true,hc],rfl⟩
  ·cases h
 ·cases h
theorem yn {E:Env} {s s1 s2:St} {dst:Option Tmp} {l:List AV} {tys:List TypeId} {b c:Bool} (h:yl E s dst l tys=some (b,s1,c,s2)) (Bi:b=false→c=true):bw E s dst .append l tys=some (true,bif b then s1 else s2):=by
 unfold yl at h
 split at h
 ·rename_i k sz es k' bl ys t u
  split at h
  ·rename_i i hi
   split at h
   ·rename_i elem esz a1 a6 z hk
    split at h
    ·rename_i hc
     have pM:((Nat.beq bl esz || ys.isEmpty)&&Nat.beq t u&&Nat.ble 1 esz&&Nat.ble 1 a6&&Nat.beq z.cells.length esz&&z.aL)=true:=by
      simp only [Bool.and_eq_true] at hc ⊢
      obtain ⟨⟨⟨⟨⟨c1,c2⟩,c3⟩,c4⟩,c5⟩,c6⟩:=hc
      exact ⟨⟨⟨⟨⟨by rw [c1]; rfl,c2⟩,c3⟩,c4⟩,c5⟩,c6⟩
     obtain ⟨v,G',h1,h2⟩:=qn h Bi
     simp only [bw,hi,hk,pM,if_true,h1,h2]
    ·cases h
   ·cases h
  ·cases h
 ·rename_i id f off sz len k' bl ys t u
  split at h
  ·rename_i i hi
   split at h
   ·rename_i elem esz a1 a6 z hk
    split at h
    ·rename_i hc
     have pM:((Nat.beq bl esz || ys.isEmpty)&&Nat.beq t u&&Nat.ble 1 esz&&Nat.ble 1 a6&&Nat.beq z.cells.length esz&&z.aL)=true:=by
      simp only [Bool.and_eq_true] at hc ⊢
      obtain ⟨⟨⟨⟨⟨c1,c2⟩,c3⟩,c4⟩,c5⟩,c6⟩:=hc
      exact ⟨⟨⟨⟨⟨by rw [c1]; rfl,c2⟩,c3⟩,c4⟩,c5⟩,c6⟩
     obtain ⟨v,G',h1,h2⟩:=ym h Bi
     simp only [bw,hi,hk,pM,if_true,h1,h2]
    ·cases h
   ·cases h
  ·cases h
 ·rename_i k sz es bs t u
  split at h
  ·rename_i i j hi hj
   split at h
   ·rename_i elem esz a1 a6 z hk NQ
    split at h
    ·rename_i hc
     obtain ⟨v,G',h1,h2⟩:=qn h Bi
     simp only [bw,hi,hj,hk,NQ,hc,if_true,h1,h2]
    ·cases h
   ·cases h
  ·cases h
 ·cases h
end Go.Am
namespace Go.Am
open Go
def LJ (E:Env) (cut wk:Bool) (t:TypeId) (r:AV) (G:List GO):Option (Bool × AV × List GO):=match r with
 | .dM id f 0 sz len=>match nth G id,E.ti t with
  | some (.du es bl _),some i=>match i.k with
   | .sl _ esz _ _ _=>if Nat.beq esz sz&&Nat.beq bl sz then
     bif cut then some (decide (f=es.length)&&decide (len≤es.length)&&aM (wg wk es),.list .kr sz (wg wk (es.take len)),ax G id .dead)
     else some (decide (f=es.length)&&decide (len=es.length)&&aM (wg wk es),.list .kr sz (wg wk es),ax G id .dead)
    else none
   | _=>none
  | _,_=>none
 | .iR id 0 sz len _=>match nth G id,E.ti t,E.HG t with
  | some (.row cs _),some i,some p=>match i.k with
   | .sl _ esz agg _ _=>if Nat.beq esz sz&&Nat.ble 1 sz&&(agg || Nat.beq sz 1)&&p.under 0 then
     some (Nat.beq cs.length (len * sz)&&allFit (fun e=>p.fits e&&e.aL&&(agg || e.one)) (gB agg sz len cs),.list .kr sz ((gB agg sz len cs).map fun e=>p.enc (p.a7 e)),ax G id .dead)
    else none
   | _=>none
  | _,_,_=>none
 | .agg cs=>match ll wk cs G with
  | (c,eO,G')=>some (c,.agg eO,G')
 | .ptr id 0=>match nth G id with
  | some (.row cs _)=>some (aM cs,.ep cs,ax G id .dead)
  | _=>none
 | _=>none
def uX (E:Env) (cut wk:Bool):List TypeId→List AV→List GO→Bool × List AV × List GO
 | t :: ts,r :: rs,G=>match LJ E cut wk t r G with
  | some (c,r',G')=>match uX E cut wk ts rs G' with
   | (c',FZ,J1)=>(c&&c',r' :: FZ,J1)
  | none=>match uX E cut wk ts rs G with
   | (c',FZ,J1)=>(c',r :: FZ,J1)
 | _,rs,G=>(true,rs,G)
def LL {X:Type} (E:Env) (cut wk:Bool) (ts:List TypeId) (K:AV→List GO→Option X) (r:AV) (G:List GO):Option X:=match r with
 | .bk rs=>match uX E cut wk ts rs G with
  | (c,FZ,G')=>bif c then K (.bk FZ) G' else none
 | r=>match uX E cut wk ts [r] G with
  | (c,[r'],G')=>bif c then K r' G' else none
  | _=>none
section
variable {E:Env} {R:aj} {w:World}
theorem uY {R:aj} {b:Nat} (hI:∀ o,R.I b o):∀ {cs:List AV} {vs:List Value} {o:Nat},aE R w cs vs→(∀ v∈vs,v.oneCell'=true)→(∀ (j:Nat) (v:Value),vs[j]?=some v→w.cell? ⟨b,o+j,none⟩=some v)→eu R w b o cs
 | [],_,o,_,_,_=>.nil
 | a :: cs,_,o,.cons h t,h1,hc=>.cons (hc 0 _ rfl) (h1 _ (by simp)) (hI o) h (uY hI t (fun v hv=>h1 v (by simp [hv])) fun j v hj=>by
   have:=hc (j+1) v (by simpa using hj)
   rwa [show o+(j+1)=o+1+j by omega] at this)
theorem uZ {R:aj} {b:Nat} {p:ah} {agg:Bool} {sz:Nat} (hI:∀ o,R.I b o) (hp:p.under 0=true) (eC:(agg || Nat.beq sz 1)=true) (Sj:1≤sz):∀ (n:Nat) {cs:List AV} {vs:List Value} {o:Nat},aE R w cs vs→(∀ v∈vs,v.oneCell'=true)→cs.length=n * sz →
  (∀ (j:Nat) (v:Value),vs[j]?=some v→w.cell? ⟨b,o+j,none⟩=some v)→allFit (fun e=>p.fits e&&e.aL&&(agg || e.one)) (gB agg sz n cs)=true→gj R w b o sz ((gB agg sz n cs).map fun e=>p.enc (p.a7 e))
 | 0,_,_,_,_,_,_,_,_=>.nil
 | n+1,cs,vs,o,h,h1,hl,hc,hf=>by
  simp only [gB,allFit,Bool.and_eq_true] at hf
  obtain ⟨⟨⟨tJ,QA⟩,hf4⟩,hf3⟩:=hf
  have hlen:=h.length
  have hle:sz≤cs.length:=by rw [hl,Nat.succ_mul]; omega
  have dk:=p.cz tJ
  have kW:(Ol agg (cs.take sz)).cells=cs.take sz:=by
   cases agg with
   | true=>rfl
   | false=>
    have JH:sz=1:=by simpa using eC
    subst JH
    match cs,hle with
    | a :: cs,_=>
     show AV.cells a=[a]
     have ho:a.one=true:=by simpa [Ol,dN] using hf4
     cases a <;> first | rfl | simp [AV.one] at ho
  have hw:=dk.cells QA
  rw [kW] at hw
  have hA:eu R w b o (cs.take sz):=uY hI (h.take sz) (fun v hv=>h1 v (List.mem_of_mem_take hv)) fun j v hj=>hc j v (by
   rw [List.getElem?_take] at hj
   split at hj
   ·exact hj
   ·cases hj)
  refine .cons (by rw [← hw.length,List.length_take,Nat.min_eq_left hle]) (by rw [dk.bk]; exact QA) (kY (p.cK _ hp)) (hw.EY hA) ?_
  exact uZ hI hp eC Sj n (h.drop sz) (fun v hv=>h1 v (List.mem_of_mem_drop hv)) (by rw [List.length_drop,hl,Nat.succ_mul]; omega) (fun j v hj=>by
   rw [List.getElem?_drop] at hj
   have:=hc _ _ hj
   rwa [show o+(sz+j)=o+sz+j by omega] at this) hf3
theorem Ii {cut wk:Bool} {t:TypeId} {r r':AV} {G G':List GO} {c:Value} (hg:dP E R w G) (hr:Rel R w r c) (h:LJ E cut wk t r G=some (true,r',G')) :
  ∃ R',dP E R' w G'∧Rel R' w r' c∧Ext R w R' w∧R'.obj=R.obj∧∀ b o,R'.I b o→R.I b o∨Live R b:=by
 unfold LJ at h
 split at h
 ·rename_i id f sz len
  obtain ⟨ro,bA⟩:∃ ro,nth R.obj id=some ro:=by
   cases hr with
   | iW q _=>exact ⟨_,q⟩
   | dM q _ _=>exact ⟨_,q⟩
  split at h
  ·rename_i es bl el i bE hi
   split at h
   ·split at h
    ·rename_i hc
     rw [Bool.and_eq_true] at hc
     have q1:=Nat.eq_of_beq_eq_true hc.2
     subst q1
     cases cut with
     | true=>
      simp only [cond_true] at h
      injection h with h; injection h with h1 h; injection h with h2 h3
      subst h2 h3
      rw [Bool.and_eq_true,Bool.and_eq_true,decide_eq_true_eq,decide_eq_true_eq] at h1
      obtain ⟨h1,jb⟩:=h1
      obtain ⟨R',r1,r2,r3,r4,r5⟩:=mh (wk:=wk) hg bE h1.1 h1.2 jb bA
      exact ⟨R',r1,r5 c hr,r2,r3,fun b o hi=>(r4 b o hi).imp_right fun hb=>⟨id,ro,bA,hb⟩⟩
     | false=>
      simp only [cond_false] at h
      injection h with h; injection h with h1 h; injection h with h2 h3
      subst h2 h3
      rw [Bool.and_eq_true,Bool.and_eq_true,decide_eq_true_eq,decide_eq_true_eq] at h1
      obtain ⟨h1,jb⟩:=h1
      obtain ⟨R',r1,r2,r3,r4,r5⟩:=mh (wk:=wk) hg bE h1.1 (Nat.le_of_eq h1.2) jb bA
      have r6:=r5 c hr
      rw [h1.2,List.take_length] at r6
      exact ⟨R',r1,r6,r2,r3,fun b o hi=>(r4 b o hi).imp_right fun hb=>⟨id,ro,bA,hb⟩⟩
    ·cases h
   ·cases h
  ·cases h
 ·rename_i id sz len cap
  split at h
  ·rename_i cs i p bE hi hp
   split at h
   ·rename_i el esz agg eb z hk
    split at h
    ·rename_i hc
     simp only [Bool.and_eq_true] at hc
     injection h with h
     injection h with h1 h
     injection h with h2 h3
     subst h2 h3
     rw [Bool.and_eq_true] at h1
     cases hr with
     | @iR _ _ _ _ _ b hb ig=>
     obtain ⟨vs,k1,k2,k3,k4⟩:=hg.obj id _ _ bE hb
     have zk:Live R b:=⟨id,_,hb,rfl⟩
     have e:=pZ R w b
     have bK:=aY k1
     refine ⟨R.all b,⟨by show R.obj.length=_; rw [gD]; exact hg.len,fun iS go ro q1 q2=>?_,hg.inj,fun b' o ho=>?_,fun g cs sF=>(hg.dD g cs sF).mono e,hg.lo⟩,?_,e,rfl,fun b' o ho=>?_⟩
     ·rcases cP q1 with ⟨rfl,rfl,_⟩ | ⟨cq,q1⟩
      ·have:ro=.bq b:=Option.some.inj (q2.symm.trans hb)
       subst this
       exact bK
      ·refine (hg.obj iS go ro q1 q2).mono e (fun _ _=>rfl) (fun b' o kF ho=>?_)
       rcases ho with ho | ho
       ·exact ho
       ·subst ho
        exact absurd (hg.inj id iS _ _ b' hb q2 rfl kF) cq
     ·rcases ho with ho | ho
      ·exact hg.wf b' o ho
      ·subst ho; exact bK
     ·refine Rel.list (uZ (R:=R.all b) (fun o=>Or.inr rfl) hc.2 hc.1.2 (Nat.le_of_ble_eq_true hc.1.1.2) len (k2.mono e) k3 (Nat.eq_of_beq_eq_true h1.1) (fun j v hj=>?_) h1.2) ?_ ig trivial
      ·simp only [World.cell?,k1]
       simpa using hj
      ·rw [List.length_map]
       have:∀ (n:Nat) (l:List AV),(gB agg sz n l).length=n:=by
        intro n
        induction n with
        | zero=>intro l; rfl
        | succ n ih=>intro l; simp [gB,ih]
       rw [this]
     ·rcases ho with ho | ho
      ·exact .inl ho
      ·subst ho; exact .inr zk
    ·cases h
   ·cases h
  ·cases h
 ·rename_i cs
  cases h2:ll wk cs G with
  | mk c' q=>
  obtain ⟨eO,G2⟩:=q
  rw [h2] at h
  injection h with h; injection h with h1 h; injection h with h3 h4
  subst h1 h3 h4
  cases hr with
  | agg hr qT=>
  obtain ⟨R',r1,r2,r3,r4,r5⟩:=qb hg hr h2
  exact ⟨R',r1,.agg r2 qT,r3,r4,r5⟩
 ·-- an object's cells never change again
  rename_i id
  split at h
  ·rename_i cs el bE
   injection h with h; injection h with h1 h; injection h with h2 h3
   subst h2 h3
   cases hr with
   | @ptr _ _ b bA=>
   obtain ⟨vs,b1,b2,b3,b4⟩:=hg.obj id _ _ bE bA
   have r2:=pZ R w b
   have r1:=hg.freeze bA rfl (show fZ (R.all b) w .dead (.bq b) from aY b1)
   refine ⟨R.all b,r1,Rel.ep (eu.make (b2.mono r2) b3 (fun j v hv=>?_) (fun j _=>.inr rfl)),r2,rfl,fun b' o hi=>?_⟩
   ·rw [iH b1,Nat.zero_add]
    exact hv
   ·rcases hi with hi | rfl
    ·exact .inl hi
    ·exact .inr ⟨id,_,bA,rfl⟩
  ·cases h
 ·cases h
theorem ta {cut wk:Bool}:∀ {ts:List TypeId} {rs FZ:List AV} {G G':List GO} {cs:List Value} {R:aj},dP E R w G→aE R w rs cs→uX E cut wk ts rs G=(true,FZ,G') →
  ∃ R',dP E R' w G'∧aE R' w FZ cs∧Ext R w R' w∧R'.obj=R.obj∧∀ b o,R'.I b o→R.I b o∨Live R b
 | [],rs,FZ,G,G',cs,R,hg,hr,h=>by
  cases rs <;> (simp only [uX] at h; cases h; exact ⟨R,hg,hr,Ext.refl R w,rfl,fun _ _ h=>.inl h⟩)
 | _ :: _,[],FZ,G,G',cs,R,hg,hr,h=>by
  simp only [uX] at h; cases h; exact ⟨R,hg,hr,Ext.refl R w,rfl,fun _ _ h=>.inl h⟩
 | t :: ts,r :: rs,FZ,G,G',cs,R,hg,hr,h=>by
  cases hr with
  | cons h0 hr=>
  unfold uX at h
  split at h
  ·rename_i c r' G1 h1
   cases h2:uX E cut wk ts rs G1 with
   | mk c' q=>
   obtain ⟨OY,G2⟩:=q
   rw [h2] at h
   simp only [Prod.mk.injEq,Bool.and_eq_true] at h
   obtain ⟨⟨rfl,rfl⟩,rfl,rfl⟩:=h
   obtain ⟨R1,a1,a2,a3,a4,a5⟩:=Ii hg h0 h1
   obtain ⟨R2,b1,b2,b3,b4,b5⟩:=ta a1 (hr.mono a3) h2
   refine ⟨R2,b1,.cons (a2.mono b3) b2,a3.trans b3,b4.trans a4,fun b o ho=>?_⟩
   rcases b5 b o ho with ho | ho
   ·exact a5 b o ho
   ·obtain ⟨id,ro,q1,q2⟩:=ho
    rw [a4] at q1
    exact .inr ⟨id,ro,q1,q2⟩
  ·cases h2:uX E cut wk ts rs G with
   | mk c' q=>
   obtain ⟨OY,G2⟩:=q
   rw [h2] at h
   simp only [Prod.mk.injEq] at h
   obtain ⟨rfl,rfl,rfl⟩:=h
   obtain ⟨R2,b1,b2,b3,b4,b5⟩:=ta hg hr h2
   exact ⟨R2,b1,.cons (h0.mono b3) b2,b3,b4,b5⟩
theorem cA.VO {g:FuncId} {args:List AV} {G:List GO} {X:Type} {cut wk:Bool} {ts:List TypeId} {K:AV→List GO→Option X} {x:X} (h:cA E g args G (fun r G'=>LL E cut wk ts K r G'=some x)):cA E g args G (fun r G'=>K r G'=some x):=
 ⟨h.1,fun R w cs hg hl=>(h.2 R w cs hg hl).mono fun e w' he=>by
  cases e with
  | panicked c=>exact he.elim
  | outgrown=>exact he.elim
  | returned c=>
   obtain ⟨r,G',R1,hq,dv,LI,st⟩:=he
   have fin:∀ (r':AV) (G2:List GO) (R2:aj),K r' G2=some x→dP E R2 w' G2→Rel R2 w' r' c→Ext R1 w' R2 w'→R2.obj=R1.obj→(∀ b o,R2.I b o→R1.I b o∨Live R1 b)→CN E R w (fun r G'=>K r G'=some x) (.returned c) w':=by
    intro r' G2 R2 k1 k2 k3 k4 k5 k6
    have live:∀ b,Live R2 b→Live R1 b:=fun b ⟨id,ro,q1,q2⟩=>⟨id,ro,by rw [← k5]; exact q1,q2⟩
    refine ⟨r',G2,R2,k1,k3,k2,⟨st.ext.trans k4,st.os,st.tape,st.output,st.size,st.aW,fun b hb ho=>?_,fun b o hi hb hn=>?_⟩⟩
    ·rcases ho with ho | ⟨k,cs,hk,rfl⟩
     ·exact st.own b hb (.inl (live b ho))
     ·simp [fu,de] at hk
    ·rcases k6 b o hi with hi | hi
     ·exact st.im b o hi hb hn
     ·exact absurd (st.own b hb (.inl hi)) hn
   unfold LL at hq
   split at hq
   ·rename_i rs
    cases dv with
    | bk dv=>
    cases h2:uX E cut wk ts rs G' with
    | mk c' q=>
    obtain ⟨OY,G2⟩:=q
    rw [h2] at hq
    cases c' with
    | false=>cases hq
    | true=>
     obtain ⟨R2,b1,b2,b3,b4,b5⟩:=ta LI dv h2
     exact fin (.bk OY) G2 R2 hq b1 (.bk b2) b3 b4 b5
   ·split at hq
    ·rename_i c' r' G2 h2
     cases c' with
     | false=>cases hq
     | true=>
      obtain ⟨R2,b1,b2,b3,b4,b5⟩:=ta LI (.cons dv .nil) h2
      cases b2 with
      | cons b2 _=>exact fin r' G2 R2 hq b1 b2 b3 b4 b5
    ·cases hq⟩
end
end Go.Am
namespace Go.Am
open Go
inductive RP
 | J2 (p:ah)
 | map (pe:ah)
 | ep (ps:aC)
def RP.T:RP→Type
 | .J2 p=>p.T
 | .map pe=>List pe.T
 | .ep ps=>ps.T
def RP.enc (n:Nat):(p:RP)→p.T→AV
 | .J2 p,x=>p.enc x
 | .map _,_=>.map n
 | .ep ps,x=>.ep (ps.enc x)
def RP.B3:(p:RP)→p.T→List GO
 | .J2 _,_=>[]
 | .map pe,(x:List pe.T)=>[.map (ab (x.map pe.enc))]
 | .ep _,_=>[]
def RP.no:RP→Nat
 | .map _=>1
 | _=>0
def ru:List RP→Type
 | []=>Unit
 | [p]=>p.T
 | p :: q :: l=>p.T × ru (q :: l)
def nI:(n:Nat)→(l:List RP)→ru l→List AV
 | _,[],_=>[]
 | n,[p],x=>[p.enc n x]
 | n,p :: q :: l,x=>p.enc n x.1 :: nI (n+p.no) (q :: l) x.2
def gA:(l:List RP)→ru l→List GO
 | [],_=>[]
 | [p],x=>p.B3 x
 | p :: q :: l,x=>p.B3 x.1++gA (q :: l) x.2
structure RF where
 bk:Bool
 l:List RP
def RF.val (f:RF) (n:Nat) (x:ru f.l):AV:=bif f.bk then .bk (nI n f.l x) else dN (nI n f.l x)
def RP.is:RP→AV→Bool
 | .J2 p,v=>match p with
  | .py u=>dx v u
  | _=>true
 | .map _,v=>match v with
  | .map _=>true
  | _=>false
 | .ep _,v=>match v with
  | .ep _=>true
  | _=>false
def F0:List RP→List AV→Bool
 | [],[]=>true
 | p :: l,v :: vs=>p.is v&&F0 l vs
 | _,_=>false
def RF.args (f:RF) (r:AV):List AV:=bif f.bk then r.KJ else [r]
def RF.wW (f:RF):AV→Bool
 | .bk _=>f.bk
 | _=>!f.bk
def yo (G:List GO) (used:List Nat) (pe:ah) (v:AV):Option (List pe.T):=match v with
 | .map id=>match nth G id with
  | some (.map es)=>bif Hy used id then none else (bif allFit pe.fits (af es) then some ((af es).map pe.a7) else none)
  | _=>none
 | _=>none
def C0 (ps:aC) (v:AV):Option ps.T:=match v with
 | .ep cs=>ps.dec cs
 | _=>none
def RP.dec (G:List GO) (used:List Nat):(p:RP)→AV→Option p.T
 | .J2 p,v=>p.dec v
 | .map pe,v=>yo G used pe v
 | .ep ps,v=>C0 ps v
def rv (used:List Nat):AV→List Nat
 | .map id=>id :: used
 | _=>used
def rA (G:List GO):(used:List Nat)→(l:List RP)→List AV→Option (ru l)
 | _,[],vs=>match vs with
  | []=>some ()
  | _=>none
 | u,[p],vs=>match vs with
  | [v]=>p.dec G u v
  | _=>none
 | u,p :: q :: l,vs=>match vs with
  | v :: vs=>(p.dec G u v).bind fun x=>(rA G (rv u v) (q :: l) vs).bind fun y=>some (x,y)
  | []=>none
def RF.dec (f:RF) (G:List GO) (r:AV):Option (ru f.l):=bif f.wW r then rA G [] f.l (f.args r) else none
def RP.under:RP→Bool
 | .J2 p=>p.under 0
 | .map pe=>pe.under 0
 | .ep ps=>ps.under 0
def RF.under (f:RF):Bool:=f.l.all RP.under&&(f.bk || Nat.beq f.l.length 1)
def XT:List RF→Type
 | []=>Empty
 | [f]=>ru f.l
 | f :: g :: l=>ru f.l ⊕ XT (g :: l)
def Eb (G:List GO) (r:AV):(l:List RF)→Option (XT l)
 | []=>none
 | [f]=>f.dec G r
 | f :: g :: l=>bif f.wW r&&F0 f.l (f.args r) then (f.dec G r).bind fun x=>some (.inl x) else (Eb G r (g :: l)).bind fun x=>some (.inr x)
def N0 {α:Type} (G:List GO) (K:AV→List GO→α):(l:List RF)→XT l→α
 | [],o=>Empty.rec (fun _=>α) o
 | [f],o=>K (f.val G.length o) (G++gA f.l o)
 | f :: g :: l,o=>Sum.elim (fun v=>K (f.val G.length v) (G++gA f.l v)) (fun o=>N0 G K (g :: l) o) o
theorem Ab {α:Type} {G:List GO} {K:AV→List GO→α} {r:AV} {G':List GO}:∀ (l:List RF) (o:XT l),N0 G (fun r0 G0=>r=r0∧G'=G0) l o→K r G'=N0 G K l o
 | [],o,_=>nomatch o
 | [f],o,h=>by
  have h:r=f.val G.length o∧G'=G++gA f.l o:=h
  rw [h.1,h.2]; rfl
 | f :: g :: l,.inl v,h=>by
  have h:r=f.val G.length v∧G'=G++gA f.l v:=h
  rw [h.1,h.2]; rfl
 | f :: g :: l,.inr o,h=>Ab (g :: l) o h
def nJ (E:Env) (g:FuncId) (args:List AV) (outs:List RF) (Q:XT outs→Prop):Prop:=
 ∀ G,cA E g args G (fun r G'=>∃ y,Q y∧N0 G (fun r0 G0=>r=r0∧G'=G0) outs y)
section
variable {E:Env} {R R1 R2:aj} {w:World}
theorem cU.J3 (m:Mv R R2 0):∀ {es:List (AV × AV)} {l:List AV} {av:List MapEntry},jg (af es) l→aA 0 l=true→cU R w es av→cU R2 w (ab l) av
 | [],[],[],_,_,_=>trivial
 | [],[],_ :: _,_,_,h=>h.elim
 | [],_ :: _,_,h,_,_=>h.elim
 | (_,_) :: _,[],_,h,_,_=>h.elim
 | (_,_) :: _,_ :: _,[],_,_,h=>h.elim
 | (k,v) :: es,a :: l,en :: av,hd,hu,h=>by
  obtain ⟨d1,d2⟩:=hd
  simp only [aA,Bool.and_eq_true] at hu
  have hc:=d1.cells rfl
  have hl:[k,v].length=a.cells.length:=hc.length
  cases a with
  | agg cs=>
   match cs,hc,hl with
   | [k',v'],hc,_=>
    have LF:aA 0 [k',v']=true:=hu.1
    simp only [aA,Bool.and_true,Bool.and_eq_true] at LF
    exact ⟨(hc.1 _ _ _ h.1).move m LF.1,(hc.2.1 _ _ _ h.2.1).move m LF.2,cU.J3 m d2 hu.2 h.2.2⟩
   | [],_,hl=>simp [AV.cells] at hl
   | [_],_,hl=>simp [AV.cells] at hl
   | _ :: _ :: _ :: _,_,hl=>simp [AV.cells] at hl
  | _=>simp [AV.cells] at hl
theorem ah.u4 {p:ah} (h:p.under 0=true):∀ l:List p.T,aA 0 (l.map p.enc)=true
 | []=>rfl
 | x :: l=>by
  show ((p.enc x).under 0&&aA 0 (l.map p.enc))=true
  rw [p.cK x h,ah.u4 h l]
  rfl
def u6 (R:aj) (n:Nat) (bs:List Nat):Prop:=∀ k b,nth bs k=some b→nth R.obj (n+k)=some (.bq b)
def C1 (R:aj) (w:World) (gs:List GO) (bs:List Nat):Prop:=∀ k go b,nth gs k=some go→nth bs k=some b→fZ R w go (.bq b)
theorem RP.J4 (p:RP) (x:p.T):(p.B3 x).length=p.no:=by cases p <;> rfl
theorem F1 {ps:aC} {v:AV} {y:ps.T} (h:C0 ps v=some y):∃ cs,v=.ep cs∧ps.dec cs=some y:=by
 unfold C0 at h
 split at h
 ·exact ⟨_,rfl,h⟩
 ·cases h
theorem Ec {G:List GO} {used:List Nat} {pe:ah} {v:AV} {y:List pe.T} (h:yo G used pe v=some y):∃ id es,v=.map id∧nth G id=some (.map es)∧id∉used∧jg (af es) (y.map pe.enc):=by
 unfold yo at h
 split at h
 ·rename_i id
  split at h
  ·rename_i es EG
   cases hu:Hy used id with
   | true=>rw [hu] at h; cases h
   | false=>
    rw [hu,cond_false] at h
    cases hf:allFit pe.fits (af es) with
    | false=>rw [hf] at h; cases h
    | true=>
     rw [hf,cond_true] at h
     have hy:=Option.some.inj h
     refine ⟨id,es,rfl,EG,fun hm=>?_,?_⟩
     ·rw [yg.2 hm] at hu; cases hu
     ·rw [← hy]; exact jg.of (fun v hv=>pe.cz hv) hf
  ·cases h
 ·cases h
theorem B4 {used:List Nat} {v:AV} {id:Nat} (h:id∈used):id∈rv used v:=by
 unfold rv
 split
 ·exact List.mem_cons_of_mem _ h
 ·exact h
def yp (R1:aj) (w:World) (used:List Nat) (v:AV) (c:Value) (p:RP) (y:p.T):Prop:=
 ∃ bs:List Nat,bs.length=p.no∧(∀ b∈bs,∃ id,id∉used∧id∈rv used v∧nth R1.obj id=some (.bq b)) ∧
   ∀ (R2:aj) (n:Nat),(∀ b o,R1.I b o→R2.I b o)→u6 R2 n bs→Rel R2 w (p.enc n y) c∧C1 R2 w (p.B3 y) bs
theorem Sk {R1 R2:aj} (hI:∀ b o,R1.I b o→R2.I b o):Mv R1 R2 0:=⟨hI,fun _ _ h=>absurd h (Nat.not_lt_zero _)⟩
theorem RP.LM {used:List Nat} {p:ah} {v:AV} {c:Value} {y:p.T} (hp:p.under 0=true) (hv:Rel R1 w v c) (hd:p.dec v=some y):yp R1 w used v c (.J2 p) y:=
 ⟨[],rfl,(fun b hb=>by cases hb),fun R2 n hI _=>⟨Rel.move (Sk hI) (p.cK y hp) ((p.oX hd).gf _ _ _ hv),fun k go b h=>by cases k <;> cases h⟩⟩
theorem RP.Pn {used:List Nat} {ps:aC} {v:AV} {c:Value} {y:ps.T} (hp:ps.under 0=true) (hv:Rel R1 w v c) (hd:C0 ps v=some y):yp R1 w used v c (.ep ps) y:=by
 obtain ⟨cs,rfl,hd⟩:=F1 hd
 cases hv with
 | ep hc=>
 exact ⟨[],rfl,(fun b hb=>by cases hb),fun R2 n hI _=>⟨.ep (eu.move (Sk hI) ((ps.oX hd).1.EY hc) (ps.cK y hp)),fun k go b h=>by cases k <;> cases h⟩⟩
theorem RP.LN {G1:List GO} (hg:dP E R1 w G1) {used:List Nat} {pe:ah} {v:AV} {c:Value} {y:List pe.T} (hp:pe.under 0=true) (hv:Rel R1 w v c) (hd:yo G1 used pe v=some y):yp R1 w used v c (.map pe) y:=by
 obtain ⟨id,es,rfl,EG,hu,Ed⟩:=Ec hd
 cases hv with
 | map hb=>
 rename_i b
 refine ⟨[b],rfl,fun b' kF=>?_,fun R2 n hI mL=>⟨.map (by have:=mL 0 b rfl; simpa using this),fun k go b' h1 h2=>?_⟩⟩
 ·rw [List.mem_singleton] at kF
  subst kF
  exact ⟨id,hu,List.mem_cons_self,hb⟩
 ·cases k with
  | succ k=>cases h2
  | zero=>
   cases h1; cases h2
   obtain ⟨av,clock,e1,e2,e3⟩:=hg.obj id _ _ EG hb
   exact ⟨av,clock,e1,cU.J3 (Sk hI) Ed (ah.u4 hp y) e2,e3⟩
theorem RP.ok {G1:List GO} (hg:dP E R1 w G1) {used:List Nat} {p:RP} {v:AV} {c:Value} {y:p.T} (hp:p.under=true) (hv:Rel R1 w v c) (hd:p.dec G1 used v=some y):yp R1 w used v c p y:=by
 cases p with
 | J2 p=>exact RP.LM hp hv hd
 | ep ps=>exact RP.Pn hp hv hd
 | map pe=>exact RP.LN hg hp hv hd
theorem fU {α:Type} {l r:List α} {i:Nat} (h:i < l.length):nth (l++r) i=nth l i:=by
 rw [aR,aR,List.getElem?_append_left h]
theorem fh {α:Type} {l r:List α} (i:Nat):nth (l++r) (l.length+i)=nth r i:=by
 rw [aR,aR,List.getElem?_append_right (Nat.le_add_right _ _),Nat.add_sub_cancel_left]
theorem oe {α:Type} {l:List α} {i:Nat} {x:α} (h:nth l i=some x):i < l.length:=by
 rw [aR] at h
 exact (List.getElem?_eq_some_iff.1 h).1
theorem Ul.ok {G1:List GO} (hg:dP E R1 w G1):∀ {l:List RP} {used:List Nat} {vs:List AV} {cs:List Value} {y:ru l},l.all RP.under=true→aE R1 w vs cs→rA G1 used l vs=some y →
  ∃ bs:List Nat,bs.length=(gA l y).length∧bs.Nodup∧(∀ b∈bs,∃ id,id∉used∧nth R1.obj id=some (.bq b)) ∧
   ∀ (R2:aj) (n:Nat),(∀ b o,R1.I b o→R2.I b o)→u6 R2 n bs→aE R2 w (nI n l y) cs∧C1 R2 w (gA l y) bs
 | [],used,vs,cs,y,_,hv,hd=>by
  cases vs with
  | cons _ _=>cases hd
  | nil=>
  cases hv
  exact ⟨[],rfl,List.nodup_nil,(fun b hb=>by cases hb),fun R2 n _ _=>⟨.nil,fun k go b h=>by simp [gA,nth] at h⟩⟩
 | [p],used,vs,cs,y,hu,hv,hd=>by
  match vs,hv,hd with
  | [],_,hd=>cases hd
  | _ :: _ :: _,_,hd=>cases hd
  | [v],.cons hv .nil,hd=>
  have hu:p.under=true:=by simpa using hu
  obtain ⟨bs,h1,h2,h4⟩:=RP.ok hg hu hv hd
  refine ⟨bs,h1.trans (p.J4 y).symm,?_,fun b hb=>let ⟨id,q1,_,q2⟩:=h2 b hb; ⟨id,q1,q2⟩,fun R2 n hI mL=>?_⟩
  ·have:bs.length≤1:=by rw [h1]; cases p <;> simp [RP.no]
   match bs,this with
   | [],_=>exact List.nodup_nil
   | [b],_=>simp
   | _ :: _ :: _,h=>simp at h
  ·obtain ⟨k1,k2⟩:=h4 R2 n hI mL
   exact ⟨.cons k1 .nil,k2⟩
 | p :: q :: l,used,vs,cs,y,hu,hv,hd=>by
  match vs,hv,hd with
  | [],_,hd=>cases hd
  | v :: vs,.cons (c:=c) (cs:=cs) hv RZ,hd=>
  simp only [List.all_cons,Bool.and_eq_true] at hu
  obtain ⟨VP,Sl⟩:=hu
  have Sl:(q :: l).all RP.under=true:=by simpa using Sl
  have hd:((p.dec G1 used v).bind fun x=>(rA G1 (rv used v) (q :: l) vs).bind fun y=>some (x,y))=some y:=hd
  cases hx:p.dec G1 used v with
  | none=>rw [hx] at hd; cases hd
  | some x=>
  rw [hx] at hd
  simp only [Option.bind_some] at hd
  cases hz:rA G1 (rv used v) (q :: l) vs with
  | none=>rw [hz] at hd; cases hd
  | some z=>
  rw [hz] at hd
  simp only [Option.bind_some] at hd
  cases hd
  obtain ⟨bs,h1,h2,h4⟩:=RP.ok hg VP hv hx
  obtain ⟨Um,k1,k0,k2,k4⟩:=Ul.ok hg Sl RZ hz
  have HV:bs.length=(p.B3 x).length:=h1.trans (p.J4 x).symm
  refine ⟨bs++Um,?_,?_,fun b hb=>?_,fun R2 n hI mL=>?_⟩
  ·show _=(p.B3 x++gA (q :: l) z).length
   rw [List.length_append,List.length_append,HV,k1]
  ·have EE:bs.Nodup:=by
    have:bs.length≤1:=by rw [h1]; cases p <;> simp [RP.no]
    match bs,this with
    | [],_=>exact List.nodup_nil
    | [b],_=>simp
    | _ :: _ :: _,h=>simp at h
   rw [List.nodup_append]
   refine ⟨EE,k0,fun a ha b hb e=>?_⟩
   subst e
   obtain ⟨id,_,q2,q3⟩:=h2 a ha
   obtain ⟨iS,r1,r2⟩:=k2 a hb
   have:id=iS:=hg.inj id iS _ _ a q3 r2 rfl rfl
   subst this
   exact r1 q2
  ·rcases List.mem_append.1 hb with hb | hb
   ·obtain ⟨id,q1,_,q2⟩:=h2 b hb
    exact ⟨id,q1,q2⟩
   ·obtain ⟨id,q1,q2⟩:=k2 b hb
    exact ⟨id,fun hm=>q1 (B4 hm),q2⟩
  ·have VQ:u6 R2 n bs:=fun k b hk=>mL k b (by rw [fU (oe hk)]; exact hk)
   have VR:u6 R2 (n+p.no) Um:=fun k b hk=>by
    have:=mL (bs.length+k) b (by rw [fh]; exact hk)
    rw [h1] at this
    rw [Nat.add_assoc]; exact this
   obtain ⟨a1,a2⟩:=h4 R2 n hI VQ
   obtain ⟨b1,b2⟩:=k4 R2 (n+p.no) hI VR
   refine ⟨.cons a1 b1,fun k go b gR hb=>?_⟩
   change nth (p.B3 x++gA (q :: l) z) k=some go at gR
   rcases Nat.lt_or_ge k bs.length with hk | hk
   ·rw [fU (by rw [← HV]; exact hk)] at gR
    rw [fU hk] at hb
    exact a2 k go b gR hb
   ·obtain ⟨j,rfl⟩:∃ j,k=bs.length+j:=⟨k - bs.length,by omega⟩
    rw [fh] at hb
    rw [HV,fh] at gR
    exact b2 j go b gR hb
theorem u9:∀ (l:List RP) (n:Nat) (y:ru l),(nI n l y).length=l.length
 | [],_,_=>rfl
 | [_],_,_=>rfl
 | p :: q :: l,n,y=>by
  show (nI (n+p.no) (q :: l) y.2).length+1=(q :: l).length+1
  rw [u9 (q :: l)]
theorem nJ.VS {R0:aj} {w0:World} {f:RF} {G G1:List GO} {r:AV} {c:Value} {y:ru f.l} (hf:f.under=true) (hG:dP E R0 w0 G) (st:Step ⟨R0.I,[]⟩ w0 (fun _=>0) fu R1 w (fun _=>0) fu) (hg:dP E R1 w G1) (dv:Rel R1 w r c) (hd:f.dec G1 r=some y) :
  ∃ R2,Rel R2 w (f.val G.length y) c∧dP E R2 w (G++gA f.l y)∧Step R0 w0 (fun _=>0) fu R2 w (fun _=>0) fu:=by
 unfold RF.under at hf
 rw [Bool.and_eq_true] at hf
 unfold RF.dec at hd
 obtain ⟨ht,hd⟩:f.wW r=true∧rA G1 [] f.l (f.args r)=some y:=by
  cases ht:f.wW r with
  | true=>rw [ht] at hd; exact ⟨rfl,hd⟩
  | false=>rw [ht] at hd; cases hd
 obtain ⟨cs,pP,Po⟩:∃ cs,aE R1 w (f.args r) cs∧∀ R2 (x:ru f.l) n,aE R2 w (nI n f.l x) cs→Rel R2 w (f.val n x) c:=by
  unfold RF.args RF.val
  cases Sm:f.bk with
  | true=>
   have:∃ vs,r=.bk vs:=by
    cases r <;> first | exact ⟨_,rfl⟩ | (simp [RF.wW,Sm] at ht)
   obtain ⟨vs,rfl⟩:=this
   cases dv with
   | bk h=>exact ⟨_,h,fun R2 x n h=>.bk h⟩
  | false=>
   refine ⟨[c],.cons dv .nil,fun R2 x n h=>?_⟩
   simp only [cond_false]
   have hlen:=u9 f.l n x
   revert h hlen
   generalize nI n f.l x=l
   intro h hlen
   cases h with
   | cons h _=>exact h
 obtain ⟨bs,h1,h2,h3,h4⟩:=Ul.ok hg hf.1 pP hd
 have jR:∀ b,¬ Own (⟨R0.I,[]⟩:aj) (fun _=>0) fu b:=fun b ho=>by
  obtain ⟨id,ro,q1,_⟩:=fb ho
  simp [nth] at q1
 have sE:∀ b∈bs,w0.heap.size≤b:=fun b hb=>by
  obtain ⟨id,_,bE⟩:=h3 b hb
  rcases Nat.lt_or_ge b w0.heap.size with bK | yL
  ·exact absurd (st.own b bK (.inl ⟨id,_,bE,rfl⟩)) (jR b)
  ·exact yL
 let R2:aj:=⟨R1.I,R0.obj++bs.map RO.bq⟩
 have e:Ext R0 w0 R2 w:=⟨st.ext.I,st.ext.cell,fun id ro h=>⟨ro,by rw [fU (oe h)]; exact h,bZ.refl ro⟩,st.ext.lp⟩
 have aW:∀ b,b < w0.heap.size→w.heap[b]?=w0.heap[b]?:=fun b hb=>st.aW b hb (jR b)
 have im:∀ b o,b < w0.heap.size→R1.I b o→R0.I b o:=fun b o hb hi=>st.im b o hi hb (jR b)
 have Sn:∀ {k ro},nth (bs.map RO.bq) k=some ro→∃ b,nth bs k=some b∧ro=.bq b:=fun {k ro} h=>by
  rw [aR,List.getElem?_map] at h
  cases hb:bs[k]? with
  | none=>rw [hb] at h; cases h
  | some b=>rw [hb] at h; exact ⟨b,by rw [aR]; exact hb,(Option.some.inj h).symm⟩
 have mL:u6 R2 R0.obj.length bs:=fun k b hk=>by
  show nth (R0.obj++bs.map RO.bq) (R0.obj.length+k)=_
  rw [fh,aR,List.getElem?_map]
  rw [aR] at hk
  rw [hk]; rfl
 obtain ⟨k1,k2⟩:=h4 R2 R0.obj.length (fun _ _ h=>h) mL
 rw [hG.len] at k1
 have hold:∀ id ro,nth R2.obj id=some ro→nth R0.obj id=some ro∨∃ k b,id=R0.obj.length+k∧nth bs k=some b∧ro=.bq b:=fun id ro h=>by
  rcases Nat.lt_or_ge id R0.obj.length with bK | yL
  ·exact .inl (by rw [← fU (r:=bs.map RO.bq) bK]; exact h)
  ·obtain ⟨k,rfl⟩:∃ k,id=R0.obj.length+k:=⟨id - R0.obj.length,by omega⟩
   have h:nth (R0.obj++bs.map RO.bq) (R0.obj.length+k)=some ro:=h
   rw [fh] at h
   obtain ⟨b,q1,q2⟩:=Sn h
   exact .inr ⟨k,b,rfl,q1,q2⟩
 have J5:∀ id ro b,nth R0.obj id=some ro→ro.has b→b < w0.heap.size:=fun id ro b h hb=>by
  have hl:=oe h
  rw [hG.len] at hl
  have gR:nth G id=some G[id]:=by rw [aR]; exact List.getElem?_eq_getElem hl
  exact (hG.obj id _ _ gR h).lt hb
 have LO:∀ {k b},nth bs k=some b→b∈bs:=fun {k b} h=>by
  rw [aR] at h
  exact List.mem_of_getElem? h
 refine ⟨R2,Po R2 y _ k1,⟨?_,fun id go ro q1 q2=>?_,fun i j ri rj b q1 q2 b1 b2=>?_,hg.wf,fun g cs sF=>(hG.dD g cs sF).mono e,hg.lo⟩,⟨e,st.os,st.tape,st.output,st.size,fun b hb _=>aW b hb,fun b hb ho=>?_,fun b o hi hb _=>im b o hb hi⟩⟩
 ·show (R0.obj++bs.map RO.bq).length=_
  rw [List.length_append,List.length_map,List.length_append,hG.len,h1]
 ·rcases hold id ro q2 with q2 | ⟨k,b,rfl,q3,rfl⟩
  ·have hl:=oe q2
   rw [hG.len] at hl
   rw [fU hl] at q1
   refine (hG.obj id go ro q1 q2).mono e (fun b hb=>aW b ?_) (fun b o hb hi=>im b o ?_ hi)
   ·exact (hG.obj id go ro q1 q2).lt hb
   ·exact (hG.obj id go ro q1 q2).lt hb
  ·rw [hG.len,fh] at q1
   exact k2 k go b q1 q3
 ·rcases hold i ri q1 with q1 | ⟨k,a,rfl,q3,rfl⟩
  ·rcases hold j rj q2 with q2 | ⟨k',a',rfl,q4,rfl⟩
   ·exact hG.inj i j ri rj b q1 q2 b1 b2
   ·have:b=a':=b2
    subst this
    have:=sE _ (LO q4)
    have:=J5 i ri b q1 b1
    omega
  ·have VT:b=a:=b1
   subst VT
   rcases hold j rj q2 with q2 | ⟨k',a',rfl,q4,rfl⟩
   ·have:=sE _ (LO q3)
    have:=J5 j rj b q2 b2
    omega
   ·have:b=a':=b2
    subst this
    have l1:=oe q3
    have l2:=oe q4
    rw [aR] at q3 q4
    have:=(List.getElem?_inj l1 h2).1 (q3.trans q4.symm)
    omega
 ·rcases fb ho with ⟨id,ro,q1,q2⟩
  rcases hold id ro q1 with q1 | ⟨k,a,rfl,q3,rfl⟩
  ·exact .inl ⟨id,ro,q1,q2⟩
  ·have:b=a:=q2
   subst this
   have:=sE _ (LO q3)
   omega
theorem C2 {G1:List GO} {r:AV}:∀ {outs:List RF} {y:XT outs},Eb G1 r outs=some y→(∀ f∈outs,f.under=true) →
  ∃ (f:RF) (z:ru f.l),f.under=true∧f.dec G1 r=some z∧∀ {α:Type} (G:List GO) (K:AV→List GO→α),N0 G K outs y=K (f.val G.length z) (G++gA f.l z)
 | [],_,h,_=>by cases h
 | [f],y,h,hu=>⟨f,y,hu f (by simp),h,fun _ _=>rfl⟩
 | f :: g :: l,y,h,hu=>by
  simp only [Eb] at h
  cases hb:(f.wW r&&F0 f.l (f.args r)) with
  | true=>
   rw [hb] at h
   simp only [cond_true] at h
   cases hx:f.dec G1 r with
   | none=>rw [hx] at h; cases h
   | some x=>
    rw [hx] at h
    cases h
    exact ⟨f,x,hu f (by simp),hx,fun _ _=>rfl⟩
  | false=>
   rw [hb] at h
   simp only [cond_false] at h
   cases hx:Eb G1 r (g :: l) with
   | none=>rw [hx] at h; cases h
   | some x=>
    rw [hx] at h
    cases h
    obtain ⟨f',z,k0,k1,k2⟩:=C2 hx (fun f hf=>hu f (List.mem_cons_of_mem _ hf))
    exact ⟨f',z,k0,k1,fun G K=>k2 G K⟩
theorem nJ.of {g:FuncId} {args:List AV} {outs:List RF} {Q:XT outs→Prop} (hc:aA 0 args=true) (hp:∀ f∈outs,f.under=true)
  (h:cA E g args [] (fun r G'=>∃ y,Eb G' r outs=some y∧Q y)):nJ E g args outs Q:=fun G=>by
 refine ⟨h.1,fun R w cs hg hl=>?_⟩
 let R0:aj:=⟨R.I,[]⟩
 have m0:Mv R R0 0:=⟨fun _ _ h=>h,fun _ _ h=>absurd h (Nat.not_lt_zero _)⟩
 have NN:dP E R0 w []:=⟨rfl,fun id go ro h1 _=>by simp [nth] at h1,fun i j ri rj b h1=>by simp [R0,nth] at h1,hg.wf,fun g cs sF=>(hg.dD g cs sF).move m0 (cw _ (E.xp g cs sF)),hg.lo⟩
 have sB:aE R0 w args cs:=hl.move m0 hc
 refine (h.2 R0 w cs NN sB).mono fun e w' he=>?_
 cases e with
 | panicked c=>exact he.elim
 | outgrown=>exact he.elim
 | returned c=>
  obtain ⟨r,G',R1,⟨y,hy,hQ⟩,dv,LI,st⟩:=he
  obtain ⟨f,z,hf,hz,gR⟩:=C2 hy hp
  obtain ⟨R2,k1,k2,k3⟩:=nJ.VS hf hg st LI dv hz
  refine ⟨_,_,R2,⟨y,hQ,?_⟩,k1,k2,k3⟩
  rw [gR]
  exact ⟨rfl,rfl⟩
end
end Go.Am
namespace Go.Am
open Go
structure bS where
 ps:aC
 p:ah
 T:ps.T→Option p.T
def aO (E:Env) (g:FuncId) (e:bS):Prop:=∀ x y,e.T x=some y→bg E g (e.ps.enc x) (fun r=>r=e.p.enc y)
inductive XK
 | norm
 | ret
 | ex (id:Nat)
def XK.is:XK→Exit→Bool
 | .norm,.normal=>true
 | .ret,.ret=>true
 | .ex i,.exit j=>Nat.beq i j
 | _,_=>false
def XK.exit:XK→Exit
 | .norm=>.normal
 | .ret=>.ret
 | .ex i=>.exit i
theorem XK.CW {k:XK} {e:Exit} (h:k.is e=true):e=k.exit:=by
 cases k <;> cases e <;> simp_all [XK.is,XK.exit]
def JT:List (XK × bR)→Type
 | []=>Empty
 | [x]=>x.2.ps.T
 | x :: y :: l=>x.2.ps.T ⊕ JT (y :: l)
def kA (s:St):(outs:List (XK × bR))→Exit→St→Option (JT outs)
 | [],_,_=>none
 | [x],e,s'=>bif x.1.is e then x.2.dec s s' else none
 | x :: y :: l,e,s'=>bif x.1.is e then (x.2.dec s s').bind fun v=>some (.inl v) else (kA s (y :: l) e s').bind fun o=>some (.inr o)
def Hz {α:Type} (s:St):(outs:List (XK × bR))→JT outs→(Exit→St→α)→α
 | [],o,_=>Empty.rec (fun _=>α) o
 | [x],o,K=>K x.1.exit (x.2.st s o)
 | x :: y :: l,o,K=>Sum.elim (fun v=>K x.1.exit (x.2.st s v)) (fun o=>Hz s (y :: l) o K) o
inductive eL
 | loop (gh:List (Loc × Nat × TypeId)) (head:bR) (outs:List (XK × bR))
 | join (outs:List (XK × bR))
 | So (k:List Bool) (gh:List (Loc × Nat × TypeId)) (head:bR) (outs:List (XK × bR))
 | Un (n:Nat) (a b:eL)
 | dJ (gh:List (Loc × Nat × TypeId)) (head:bR) (outs:List (XK × bR))
 | J6 (gh:List (Loc × Nat × TypeId)) (head:bR)
def F2 (n:Nat):eL→eL
 | .Un m a b=>bif Nat.beq n m then F2 n a else F2 n b
 | c=>c
def a8 {V X:Type} (rd:V→Option (V ⊕ X)):Nat→V→Option X
 | 0,_=>none
 | n+1,v=>(rd v).bind fun o=>Sum.elim (fun v'=>a8 rd n v') (fun x=>some x) o
def dJ {V X:Type} (rd:(V→Option X)→V→Option X):Nat→V→Option X
 | 0,_=>none
 | n+1,v=>rd (dJ rd n) v
structure yq (E:Env) (g:FuncId) where
 f:List AV→List GO→Option (Bool × AV × List GO)
 ok:∀ args G r G',f args G=some (true,r,G')→cA E g args G (fun r' J1=>r'=r∧J1=G')
structure va (E:Env) (g:FuncId) where
 ps:aC
 outs:List RF
 T:ps.T→Option (XT outs)
 ok:∀ x y,T x=some y→nJ E g (ps.enc x) outs (fun z=>z=y)
structure kZ where
 D:LC
 F3:FuncId→Option bS
 B5:FuncId→Nat→Option eL
 fz:Bool
 N:Nat
 gt:(g:FuncId)→Option (yq D.toEnv g):=fun _=>none
 xt:(g:FuncId)→Option (va D.toEnv g):=fun _=>none
def og {α:Type} (fz:Bool) (s:St) (K:St→α):α:=match fz with
 | true=>BR s K
 | false=>match s with
  | ⟨sl,bx,G,m,ro,n⟩=>K ⟨sl,bx,G,m,ro,n⟩
theorem cg {α:Type} (fz:Bool) (s:St) (K:St→α):og fz s K=K s:=by
 cases fz
 ·rfl
 ·exact D7 s K
abbrev nK (X:Type):=FuncId→List AV→List GO→(AV→List GO→Option X)→Option X
abbrev k9 (X:Type):=Nat→List AV→List GO→(Bool→List GO→Option X)→Option X
section ev
variable {X:Type}
def yt (E:Env) (s:St) (o:Oper):Option (Int × Nat × (Nat→Oper)):=match o.op with
 | .index t x (.tmp y)=>match bc E s.ae (.tmp y),E.ti t with
  | .v (.int k n),some i=>match i.k with
   | .arr len _ _=>some (n,len,fun j=>{ o with op:=.index t x (.const (.int k j)) })
   | _=>none
  | _,_=>none
 | .indexAddr t x (.tmp y)=>match bc E s.ae (.tmp y),E.ti t with
  | .v (.int k n),some i=>match i.k with
   | .arr len _ _=>match bc E s.ae x with
    | .v (.ep _)=>match E.HG t with
     | some _=>none
     | none=>some (n,len,fun j=>{ o with op:=.indexAddr t x (.const (.int k j)) })
    | _=>some (n,len,fun j=>{ o with op:=.indexAddr t x (.const (.int k j)) })
   | _=>none
  | _,_=>none
 | _=>none
def tc (E:Env) (fz:Bool) (f:FuncId) (g:Nat→Oper) (n:Int) (K:St→Option X) (s:St):Nat→Nat→Option X
 | 0,_=>none
 | m+1,j=>bif decide (n=(j:Int)) then (match an E f s (g j) with
   | some (c,s')=>bif c then og fz s' K else none
   | _=>none) else tc E fz f g n K s m (j+1)
def LP (E:Env) (fz:Bool) (call:nK X) (kK:k9 X) (f:FuncId) (o:Oper) (K:St→Option X) (s:St):Option X:=
 match o.op with
 | .call { callee:=.value x,args,.. }=>match bc E s.ae x,kQ E s.ae args.toList with
  | .v (.fn g first cap),some l=>call g (first++l++cap) s.G (fun r G'=>og fz ((s.bF G').put o.dst (.v r)) K)
  | .v (.yield id),some l=>kK id l s.G (fun b G'=>og fz ((s.bF G').put o.dst (.v (.bool b))) K)
  | _,_=>none
 | .defer _=>none
 | .next x true=>match FW s o.dst (bc E s.ae x) with
  | some (b,s1,s2)=>bif b then og fz s1 K else og fz s2 K
  | none=>none
 | .lookup t m k ok=>match s7 E s t (bc E s.ae m) (bc E s.ae k) with
  | some (c,v,b)=>bif c then og fz (s.put o.dst (.v (if ok then .bk [v,.bool b] else v))) K else none
  | none=>match an E f s o with
   | some (c,s')=>bif c then og fz s' K else none
   | _=>none
 | .mapUpdate t m k x=>match o.dst,s8 E s t (bc E s.ae m) (bc E s.ae k) (bc E s.ae x) with
  | none,some (c,s')=>bif c then og fz s' K else none
  | _,_=>none
 | .insert t m k x=>match o.dst,s8 E s t (bc E s.ae m) (bc E s.ae k) (bc E s.ae x) with
  | none,some (c,s')=>bif c then og fz s' K else none
  | _,_=>none
 | .call { callee:=.builtin .append,args,argTypes }=>match gi E f s o with
  | some (c,s')=>bif c then og fz s' K else none
  | none=>match kQ E s.ae args.toList with
   | some l=>match yl E s o.dst l argTypes.toList with
    | some (b,s1,c,s2)=>bif b then og fz s1 K else bif c then og fz s2 K else none
    | none=>match an E f s o with
     | some (c,s')=>bif c then og fz s' K else none
     | _=>none
   | none=>none
 | .call { callee:=.builtin .copy,args,argTypes }=>match kQ E s.ae args.toList with
  | some l=>match FY E s o.dst l argTypes.toList with
   | some (c,s')=>bif c then og fz s' K else none
   | none=>match an E f s o with
    | some (c,s')=>bif c then og fz s' K else none
    | _=>none
  | none=>none
 | _=>match yt E s o with
  | some (n,len,g)=>tc E fz f g n K s len 0
  | none=>match an E f s o with
   | some (c,s')=>bif c then og fz s' K else none
   | _=>none
def nL (E:Env) (fz:Bool) (call:nK X) (kK:k9 X) (f:FuncId) (ops:List Oper) (o:Oper) (K:St→Option X) (s:St):Option X:=
 match o.guard with
 | none=>LP E fz call kK f o K s
 | some (j,want)=>match nr ops j with
  | none=>none
  | some d=>match lk s.ae d with
   | .v (.bool b)=>match want with
    | true=>bif b then og fz (s.put (some d) (.v (.bool true))) (LP E fz call kK f o K) else og fz ((s.put (some d) (.v (.bool false))).put o.dst (.v fD)) K
    | false=>bif b then og fz ((s.put (some d) (.v (.bool true))).put o.dst (.v fD)) K else og fz (s.put (some d) (.v (.bool false))) (LP E fz call kK f o K)
   | .v (.bk [])=>og fz (s.put o.dst (.v fD)) K
   | _=>none
def yu (E:Env) (fz:Bool) (call:nK X) (kK:k9 X) (f:FuncId) (ops:List Oper) (o:Oper) (K:St→Option X) (s:St):Option X:=
 match o.guard,iE E f s o with
 | none,some s'=>og fz s' K
 | _,_=>nL E fz call kK f ops o K s
noncomputable def Ac {X:Type} (l:List Nat) (F:Nat→Option X):Option X:=match l with
 | []=>none
 | i :: r=>@ite _ (∀ j∈r,F j=F i) (Classical.propDecidable _) (F i) none
theorem Ee {X:Type} {l:List Nat} {F:Nat→Option X} {x:X} (h:Ac l F=some x):∀ i∈l,F i=some x:=by
 cases l with
 | nil=>cases h
 | cons i r=>
  have h:@ite _ (∀ j∈r,F j=F i) (Classical.propDecidable _) (F i) none=some x:=h
  by_cases hr:∀ j∈r,F j=F i
  ·rw [if_pos hr] at h
   intro j hj
   rcases List.mem_cons.1 hj with rfl | hj
   ·exact h
   ·rw [hr j hj]; exact h
  ·rw [if_neg hr] at h
   cases h
theorem qo {X:Type} {l:List Nat} {F:Nat→Option X} {x:X} (hl:l≠[]) (h:∀ i∈l,F i=some x):Ac l F=some x:=by
 cases l with
 | nil=>exact absurd rfl hl
 | cons i r=>
  show @ite _ (∀ j∈r,F j=F i) (Classical.propDecidable _) (F i) none=some x
  have hr:∀ j∈r,F j=F i:=fun j hj=>by rw [h j (List.mem_cons_of_mem _ hj),h i List.mem_cons_self]
  rw [if_pos hr]
  exact h i List.mem_cons_self
noncomputable def td (E:Env) (fz:Bool) (call:nK X) (kK:k9 X) (f:FuncId) (ops:List Oper) (o:Oper) (K:St→Option X) (s:St):Option X:=
 match o.guard,rR E f s o,qP E s o with
 | none,some (c,s'),_=>bif c then og fz s' K else none
 | none,none,some (c,s0,left,g)=>bif c then (bif left.isEmpty then og fz s0 K else Ac left fun i=>bif (g i).1 then og fz (g i).2 K else none) else none
 | _,_,_=>yu E fz call kK f ops o K s
noncomputable def yw (E:Env) (fz:Bool) (call:nK X) (kK:k9 X) (f:FuncId) (ops:List Oper) (o:Oper) (K:St→Option X) (s:St):Option X:=
 match Du E f s o with
 | some (c,s')=>bif c then td E fz call kK f ops o K s' else none
 | none=>td E fz call kK f ops o K s
noncomputable def Ij (E:Env) (fz:Bool) (call:nK X) (kK:k9 X) (f:FuncId) (ops:List Oper):List Oper→(St→Option X)→St→Option X
 | [],K,s=>K s
 | o :: rest,K,s=>yw E fz call kK f ops o (fun s'=>match wJ E f o s' with
  | some s2=>Ij E fz call kK f ops rest K s2
  | none=>none) s
def LQ (E:Env) (f:FuncId) (ops:List Oper) (o:Oper) (s:St):Bool:=match o.op,o.dst with
 | .lookup t m k ok,some d=>match yR ops s o,s7 E s t (bc E s.ae m) (bc E s.ae k) with
  | some true,some (c,v,b)=>c&&yd (.v (if ok then .bk [v,.bool b] else v)) (lk s.ae d)
  | _,_=>QL E f ops o s
 | _,_=>QL E f ops o s
def oh (E:Env) (f:FuncId) (ops:List Oper):List Nat→St→Bool
 | [],_=>true
 | k :: l,s=>(match nth ops k with
  | some ok=>LQ E f ops ok s
  | none=>true)&&oh E f ops l s
def oT (E:Env) (fz:Bool) (call:nK X) (kK:k9 X) (eM:Option X→Option X→Option X) (f:FuncId) (ops:List Oper):DT→(St→Option X)→St→Option X
 | .done,K,s=>K s
 | .take j _ t,K,s=>match nth ops j with
  | some oj=>nL E fz call kK f ops oj (oT E fz call kK eM f ops t K) s
  | none=>none
 | .br i re _ t .stop,K,s=>match nth ops i with
  | some oi=>nL E fz call kK f ops oi (fun s'=>bif oh E f ops re s' then oT E fz call kK eM f ops t K s' else none) s
  | none=>none
 | .br i re _ t more,K,s=>eM (match nth ops i with
  | some oi=>nL E fz call kK f ops oi (fun s'=>bif oh E f ops re s' then oT E fz call kK eM f ops t K s' else none) s
  | none=>none) (oT E fz call kK eM f ops more K s)
 | .stop,_,_=>none
 | .al j W t,K,s=>match nth ops j with
  | some oj=>bif Lv E f oj W s then nL E fz call kK f ops oj (oT E fz call kK eM f ops t K) s else none
  | none=>none
end ev
def wX {X:Type} (N:St→Option X) (Q:Exit→St→Option X):Exit→St→Option X
 | .normal,s=>N s
 | e,s=>Q e s
def F4 {X:Type} (id:Nat) (Q:Exit→St→Option X):Exit→St→Option X
 | .exit iS,s=>bif Nat.beq iS id then Q .normal s else Q (.exit iS) s
 | e,s=>Q e s
def LR {X:Type} (Q:Exit→St→Option X):Exit→St→Option X
 | .goto _,_=>none
 | e,s=>Q e s
def F5 {X:Type} (E:Env) (fn:Func) (K:AV→List GO→Option X):Exit→St→Option X
 | .normal,s | .ret,s=>match nu s.marks s.G with
  | some G=>match Fz E (s.bF G) fn with
   | some r=>K r G
   | none=>none
  | none=>none
 | _,_=>none
def sk (s:St) (head:bR) (outs:List (XK × bR)):Exit→St→Option (head.ps.T ⊕ JT outs)
 | .normal,s'=>(head.dec s s').bind fun v=>some (.inl v)
 | e,s'=>(kA s outs e s').bind fun o=>some (.inr o)
noncomputable def vT {X:Type} (a b:Option X):Option X:=@ite _ (a=b) (Classical.propDecidable _) a none
def sm {X:Type} (eM:Option X→Option X→Option X):Prop:=∀ a b x,eM a b=some x→a=some x∧b=some x
def B6 {X:Type} (id:Nat) (K:Bool→List GO→Option X):Exit→St→Option X:=fun e s=>match nth s.G id with
 | some (.loop _ _ fn sl n ps pi bd d _)=>match e with
  | .normal=>K true (ax s.G id (.loop false none fn sl n ps pi bd d false))
  | .ret=>K false (ax s.G id (.loop false (some .ret) fn sl n ps pi bd d true))
  | .exit i=>K false (ax s.G id (.loop false (some (.exit i)) fn sl n ps pi bd d true))
  | _=>none
 | _=>none
def QR (fp:Nat):Nat:=fp % 4096
def Uo (fp:Nat):Nat:=fp / 4096
abbrev N1:=FuncId→Nat→Code→(X:Type)→(Option X→Option X→Option X)→(Exit→St→Option X)→St→Option X
section
variable (C:kZ) (ih:N1)
def wY {X:Type} (eM:Option X→Option X→Option X):nK X:=fun g args G K=>
 bif C.D.okF g then match C.D.P.funcs[g]? with
   | some fn=>match fn.body with
    | some b => bif !(fn.name == "runtime.NumGoroutine") then ih g 1 b X eM (F5 C.D.toEnv fn (bif C.D.vE g 131072 then LL C.D.toEnv (C.D.vE g 131073) (C.D.vE g 131074) fn.resultTypes.toList K else K)) (St.init fn.ntmps args G) else none
    | none=>none
   | none=>none
  else none
def wZ {X:Type} (eM:Option X→Option X→Option X):nK X:=fun g args G K=>
 match C.F3 g with
 | some e=>(e.ps.dec args).bind fun x=>(e.T x).bind fun y=>K (e.p.enc y) G
 | none=>match C.gt g with
  | some e=>match e.f args G with
   | some (c,r,G')=>bif c then K r G' else none
   | none=>none
  | none=>match C.xt g with
   | some e=>(e.ps.dec args).bind fun x=>(e.T x).bind fun o=>N0 G K e.outs o
   | none=>wY C ih eM g args G K
def Ik (n:Nat):List Tmp→Bool
 | []=>true
 | t :: l=>Nat.blt t n&&Ik n l
def Il {X:Type} (eM:Option X→Option X→Option X):k9 X:=fun id args G K=>match nth G id with
 | some (.loop false _ fp sl n ps pi bd _ false)=>
  bif Nat.beq args.length ps.length&&Ik n ps&&bi (C.D.dt (QR fp)) pi&&bi (C.D.dt (QR fp)) bd then
   ih (QR fp) (2 * Uo fp) pi X eM (fun e s1=>match e with
    | .normal=>match nth s1.G id with
     | some (.loop false p fn sl n ps pi NZ d false)=>ih (QR fp) (2 * Uo fp+1) bd X eM (B6 id K) (s1.bF (ax s1.G id (.loop true p fn sl n ps pi NZ d false)))
     | _=>none
    | _=>none) (St.round id (uV ps args sl) n G)
  else none
 | _=>none
noncomputable def vb (f:FuncId) (p:Nat) (c:Code) (X:Type) (eM:Option X→Option X→Option X) (K:Exit→St→Option X) (s:St):Option X:=
 match c with
 | .skip=>K .normal s
 | .label _=>K .normal s
 | .seq x y=>ih f (2 * p) x X eM (wX (ih f (2 * p+1) y X eM K) K) s
 | .cond c x y=>match bc C.D.toEnv s.ae c with
  | .v (.bool b)=>bif b then ih f (2 * p) x X eM K s else ih f (2 * p+1) y X eM K s
  | _=>none
 | .block id c=>ih f (2 * p) c X eM (F4 id K) s
 | .exit id=>K (.exit id) s
 | .ret=>K .ret s
 | .region _ ops false=>Ij C.D.toEnv C.fz (wZ C ih eM) (Il C ih eM) f ops.toList ops.toList (K .normal) s
 | .region id ops true=>match C.D.dt f id with
  | some pl=>oT C.D.toEnv C.fz (wZ C ih eM) (Il C ih eM) eM f ops.toList pl.T (K .normal) s
  | none=>none
 | .scope c=>ih f (2 * p) c X eM (LR K) s
 | .loop c=>ih f (2 * p) c X eM (wX (ih f p (.loop c) X eM K) K) s
 | .rangeFunc g ps pi bd=>match s.ro with
  | none=>match bc C.D.toEnv s.ae g with
   | .v (.fn h first cap)=>wZ C ih eM h (first++[.yield (s.G.length+1)]++cap) (s.G++[.defers true]++[.loop false none (4096 * p+f) (eT s.ae) s.n ps.toList pi bd s.G.length false])
    (fun _ G'=>match nth G' (s.G.length+1) with
     | some (.loop busy pending _ _ _ _ _ _ _ done)=>bif !busy || done then
       match pending with
       | none=>og C.fz ⟨s.ae,s.boxes,ax G' (s.G.length+1) .dead,s.G.length :: s.marks,s.ro,s.n⟩ (K .normal)
       | some .ret=>og C.fz ⟨s.ae,s.boxes,ax G' (s.G.length+1) .dead,s.G.length :: s.marks,s.ro,s.n⟩ (K .ret)
       | some (.exit i)=>og C.fz ⟨s.ae,s.boxes,ax G' (s.G.length+1) .dead,s.G.length :: s.marks,s.ro,s.n⟩ (K (.exit i))
       | _=>none
      else none
     | _=>none)
   | _=>none
  | some id=>match nth s.G id with
   | some (.loop _ _ _ _ _ _ _ _ d0 _)=>match bc C.D.toEnv s.ae g with
    | .v (.fn h first cap)=>wZ C ih eM h (first++[.yield s.G.length]++cap) (s.G++[.loop false none (4096 * p+f) (eT s.ae) s.n ps.toList pi bd d0 false])
     (fun _ G'=>match nth G' s.G.length with
      | some (.loop busy pending _ _ _ _ _ _ _ done)=>bif !busy || done then
        match pending with
        | none=>og C.fz ⟨s.ae,s.boxes,ax G' s.G.length .dead,s.marks,s.ro,s.n⟩ (K .normal)
        | some .ret=>og C.fz ⟨s.ae,s.boxes,ax G' s.G.length .dead,s.marks,s.ro,s.n⟩ (K .ret)
        | some (.exit i)=>og C.fz ⟨s.ae,s.boxes,ax G' s.G.length .dead,s.marks,s.ro,s.n⟩ (K (.exit i))
        | _=>none
       else none
      | _=>none)
    | _=>none
   | _=>none
 | _=>none
def B7:List Oper→List Tmp
 | []=>[]
 | o :: l=>match o.dst with
  | some d=>d :: B7 l
  | none=>B7 l
def ji:Code→List Tmp→List Tmp
 | .region _ ops _,r=>B7 ops.toList++r
 | .seq x y,r=>ji x (ji y r)
 | .cond _ x y,r=>ji x (ji y r)
 | .block _ c,r=>ji c r
 | .scope c,r=>ji c r
 | .loop c,r=>ji c r
 | .rangeFunc _ ps a b,r=>ps.toList++ji a (ji b r)
 | _,r=>r
def qp (W:List Tmp) (t:bR):bR:=⟨t.ps,t.sl,W,t.bx,t.g,t.NX⟩
def qq (W:List Tmp):List (XK × bR)→List (XK × bR)
 | []=>[]
 | (k,t) :: l=>(k,qp W t) :: qq W l
def F6:Code→Bool
 | .loop _=>true
 | _=>false
noncomputable def Pp {X:Type} (f:FuncId) (p:Nat) (c:Code) (outs:List (XK × bR)) (K:Exit→St→Option X) (s:St):Option X:=
 (vb C ih f p c (JT outs) vT (kA s outs) s).bind fun o=>Hz s outs o K
noncomputable def J7 {X:Type} (f:FuncId) (p:Nat) (b:Code) (s1:St) (head:bR) (outs:List (XK × bR)) (K:Exit→St→Option X):Option X:=
 (head.dec s1 s1).bind fun v0=>(a8 (fun v=>ih f (2 * p) b (head.ps.T ⊕ JT outs) vT (sk s1 head outs) (head.st s1 v)) C.N v0).bind fun o=>Hz s1 outs o K
def F7 (s:St) (head:bR) (outs:List (XK × bR)) (k:head.ps.T→Option (JT outs)):Exit→St→Option (JT outs)
 | .normal,s'=>(head.dec s s').bind k
 | e,s'=>kA s outs e s'
noncomputable def F8 {X:Type} (f:FuncId) (p:Nat) (b:Code) (s1:St) (head:bR) (outs:List (XK × bR)) (K:Exit→St→Option X):Option X:=
 (head.dec s1 s1).bind fun v0=>(dJ (fun k v=>ih f (2 * p) b (JT outs) vT (F7 s1 head outs k) (head.st s1 v)) C.N v0).bind fun o=>Hz s1 outs o K
def F9 {X:Type} (s:St) (head:bR) (K:Exit→St→Option X) (k:head.ps.T→Option X):Exit→St→Option X
 | .normal,s'=>(head.dec s s').bind k
 | e,s'=>K e s'
noncomputable def Ga {X:Type} (f:FuncId) (p:Nat) (b:Code) (s1:St) (head:bR) (K:Exit→St→Option X):Option X:=
 (head.dec s1 s1).bind fun v0=>dJ (fun k v=>ih f (2 * p) b X vT (F9 s1 head K k) (head.st s1 v)) C.N v0
def Gb {X:Type} (eM:Option X→Option X→Option X) (f:FuncId) (K:Exit→St→Option X):List Bool→Nat→Code→St→Option X
 | [],_,_,s=>K .normal s
 | true :: k,q,.seq x y,s=>ih f (2 * q) x X eM (wX (Gb eM f K k (2 * q+1) y) K) s
 | false :: k,q,.seq x _,s=>Gb eM f K k (2 * q) x s
 | _ :: _,_,_,_=>none
def Im {X:Type} (eM:Option X→Option X→Option X) (f:FuncId):List Bool→Nat→Code→(Exit→St→Option X)→St→Option X
 | [],q,c,K,s=>ih f q c X eM K s
 | true :: k,q,.seq _ y,K,s=>Im eM f k (2 * q+1) y K s
 | false :: k,q,.seq x y,K,s=>Im eM f k (2 * q) x (wX (ih f (2 * q+1) y X eM K) K) s
 | _ :: _,_,_,_,_=>none
noncomputable def Pq {X:Type} (f:FuncId) (p:Nat) (b:Code) (k:List Bool) (s1:St) (head:bR) (outs:List (XK × bR)) (K:Exit→St→Option X):Option X:=
 ((Gb ih vT f (sk s1 head outs) k (2 * p) b s1).bind fun r0=>
  Sum.elim (fun v0=>a8 (fun v=>Im ih vT f k (2 * p) b (wX (Gb ih vT f (sk s1 head outs) k (2 * p) b) (sk s1 head outs)) (head.st s1 v)) C.N v0) (fun x=>some x) r0).bind fun o=>Hz s1 outs o K
noncomputable def vc (f:FuncId) (p:Nat) (c:Code) (X:Type) (eM:Option X→Option X→Option X) (K:Exit→St→Option X) (s:St):Option X:=
 match C.B5 f p with
 | none=>vb C ih f p c X eM K s
 | some ct=>match F2 s.G.length ct with
  | .join outs=>bif F6 c then none else Pp C ih f p c (qq (ji c []) outs) K s
  | .loop gh head outs=>match c with
   | .loop b=>match fJ gh s with
    | some s1=>J7 C ih f p b s1 (qp (ji b []) head) (qq (ji b []) outs) K
    | none=>none
   | _=>none
  | .So k gh head outs=>match c with
   | .loop b=>match fJ gh s with
    | some s1=>Pq C ih f p b k s1 (qp (ji b []) head) (qq (ji b []) outs) K
    | none=>none
   | _=>none
  | .dJ gh head outs=>match c with
   | .loop b=>match fJ gh s with
    | some s1=>F8 C ih f p b s1 (qp (ji b []) head) (qq (ji b []) outs) K
    | none=>none
   | _=>none
  | .J6 gh head=>match c with
   | .loop b=>match fJ gh s with
    | some s1=>Ga C ih f p b s1 (qp (ji b []) head) K
    | none=>none
   | _=>none
  | .Un _ _ _=>none
end
noncomputable def ev (C:kZ):Nat→N1:=Nat.rec (fun _ _ _ _ _ _ _=>none) (fun _ ih=>vc C ih)
end Go.Am
