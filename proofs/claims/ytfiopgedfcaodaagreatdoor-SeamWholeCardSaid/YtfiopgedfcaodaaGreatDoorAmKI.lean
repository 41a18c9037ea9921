/- The abstract machine: maps and ranges over strings on values with leaves. -/
import Derived.Test.YtfiopgedfcaodaaGreatDoorAmKH
set_option linter.all false
namespace Go.Am
open Go
def KB (s:St) (dst:Option Tmp) (x:SV):Option (Bool × St × St):=match x with
 | .v (.ptr id 0)=>match nth s.G id with
  | some (.gf l pos)=>some (Nat.blt pos l.length,(s.bY (ap s.G id (.gf l (pos+(pg l pos).2)))).put dst (.v (.bH [.bool true,.int .i64 pos,.int .i32 (pg l pos).1])),s.put dst (.v (.bH [.bool false])))
  | _=>none
 | _=>none
theorem FF {s:St} {dst:Option Tmp} {x:SV} {b:Bool} {s1 s2:St} (h:KB s dst x=some (b,s1,s2)):nG s dst x=some (bif b then s1 else s2):=by
 unfold KB at h
 split at h
 ·split at h
  ·rename_i l pos hg
   cases h
   simp only [nG,hg]
   cases Nat.blt pos l.length <;> rfl
  ·cases h
 ·cases h
theorem GX {e:EK} {k:AV}:∀ {es:List (AV × AV)},cH e k es=true→iE e k es=some (dz e k es)
 | [],_=>rfl
 | (k',v) :: l,h=>by
  simp only [cH,Bool.and_eq_true] at h
  obtain ⟨b,hb⟩:=Option.isSome_iff_exists.1 h.1
  simp only [iE,dz,yT,hb]
  cases b
  ·simp only [cond_false]; exact GX h.2
  ·rfl
theorem KC {e:EK} {k v:AV}:∀ {es:List (AV × AV)},cH e k es=true→s9 e k v es=some (er e k v es)
 | [],_=>rfl
 | (k',v') :: l,h=>by
  simp only [cH,Bool.and_eq_true] at h
  obtain ⟨b,hb⟩:=Option.isSome_iff_exists.1 h.1
  simp only [s9,er,yT,hb]
  cases b
  ·simp only [cond_false,KC h.2]
  ·rfl
mutual
def aA.flat:aA→Bool
 | .int _=>true
 | .bool=>true
 | .str=>true
 | .agg ps=>ps.flat
 | .aP _ _ p=>p.flat
 | _=>false
def aO.flat:aO→Bool
 | .nil=>true
 | .cons p ps=>p.flat&&ps.flat
end
theorem Dg {α:Type} {f:AV→Bool} {d:AV→α} {g:α→AV} (h:∀ a,f a=true→g (d a)=a):∀ {es:List AV},allFit f es=true→(es.map d).map g=es
 | [],_=>rfl
 | a :: l,hl=>by
  simp only [allFit,Bool.and_eq_true] at hl
  rw [List.map_cons,List.map_cons,h a hl.1,Dg h hl.2]
mutual
theorem aA.jy:∀ {p:aA},p.flat=true→∀ {a:AV},p.fits a=true→p.enc (p.bh a)=a
 | .int k,_,a,h=>by
  cases a <;> first | (cases h; done) | skip
  have hk:VX _ _=true:=h
  rw [EF hk]; rfl
 | .bool,_,a,h=>by cases a <;> first | (cases h; done) | rfl
 | .str,_,a,h=>by cases a <;> first | (cases h; done) | rfl
 | .agg ps,hp,a,h=>by
  cases a <;> first | (cases h; done) | skip
  exact congrArg AV.agg (aO.jy (ps:=ps) hp h)
 | .bH _,hp,_,_=>by cases hp
 | .list _ _,hp,_,_=>by cases hp
 | .own _ _ _,hp,_,_=>by cases hp
 | .aP id sz p,hp,a,h=>by
  cases a <;> first | (cases h; done) | skip
  rename_i k bK es
  cases k <;> first | (cases h; done) | skip
  rename_i jF j
  simp only [aA.fits,Bool.and_eq_true] at h
  have e1:=Nat.eq_of_beq_eq_true h.1.1
  have e2:=Nat.eq_of_beq_eq_true h.1.2
  subst e1 e2
  have hp:p.flat=true:=hp
  show AV.list (.aP id j) sz ((es.map p.bh).map p.enc)=_
  rw [Dg (fun a ha=>aA.jy hp ha) h.2]
 | .eo _,hp,_,_=>by cases hp
 | .two _ _,hp,_,_=>by cases hp
theorem aO.jy:∀ {ps:aO},ps.flat=true→∀ {l:List AV},ps.fits l=true→ps.enc (ps.bh l)=l
 | .nil,_,l,h=>by
  cases l with
  | nil=>rfl
  | cons _ _=>cases h
 | .cons p .nil,hp,l,h=>by
  simp only [aO.flat,Bool.and_eq_true] at hp
  cases l with
  | nil=>cases h
  | cons a l=>
   simp only [aO.fits,Bool.and_eq_true] at h
   cases l with
   | nil=>exact congrArg (fun x=>[x]) (aA.jy hp.1 h.1)
   | cons _ _=>cases h.2
 | .cons p (.cons q ps),hp,l,h=>by
  rw [aO.flat,Bool.and_eq_true] at hp
  cases l with
  | nil=>cases h
  | cons a l=>
   rw [aO.fits,Bool.and_eq_true] at h
   have h1:=aA.jy hp.1 h.1
   have h2:=aO.jy (ps:=.cons q ps) hp.2 h.2
   show p.enc (p.bh a) :: (aO.cons q ps).enc ((aO.cons q ps).bh l)=a :: l
   rw [h1,h2]
end
def vB (E:Env) (s:St) (t:TypeId) (m k:SV):Option (Bool × AV × Bool):=match RQ E s.G t,E.ti t,mapOf s m,k with
 | some p,some i,some es,.v k=>match i.k with
  | .map kt _ (some z)=>match E.ti kt with
   | some j=>if j.ek.plain&&ic j.ek k&&p.flat then
     some (cH j.ek k es&&p.fits (bf j.ek k (Cl E s.G t z) es),p.enc (p.bh (bf j.ek k (Cl E s.G t z) es)),(dz j.ek k es).isSome)
    else none
   | none=>none
  | _=>none
 | _,_,_,_=>none
theorem se {E:Env} {s:St} {t:TypeId} {m k:SV} {v:AV} {b:Bool} (h:vB E s t m k=some (true,v,b)):kS E s t m k=some (v,b):=by
 unfold vB at h
 split at h
 ·rename_i p i es k h1 h2 h3
  split at h
  ·rename_i kt et z hk
   split at h
   ·rename_i j hj
    split at h
    ·rename_i hc
     simp only [Bool.and_eq_true] at hc
     injection h with h
     injection h with h4 h
     injection h with h5 h6
     rw [Bool.and_eq_true] at h4
     rw [aA.jy hc.2 h4.2] at h5
     have e:iE j.ek k es=some (dz j.ek k es):=GX h4.1
     have uQ:(j.ek.plain&&ic j.ek k)=true:=by rw [hc.1.1,hc.1.2]; rfl
     have e0:jj E s t m (.v k)=some ((dz j.ek k es).getD z,(dz j.ek k es).isSome):=by
      simp only [jj,h2,h3,hk,hj,uQ,if_true,e]
      cases dz j.ek k es <;> rfl
     unfold kS
     rw [e0]
     unfold bf at h5
     cases hg:dz j.ek k es with
     | none=>
      rw [hg] at h5 h6
      subst h5 h6
      rfl
     | some v'=>
      rw [hg] at h5 h6
      subst h5 h6
      rfl
    ·cases h
   ·cases h
  ·cases h
 ·cases h
def vC (E:Env) (s:St) (t:TypeId) (m k x:SV):Option (Bool × St):=match E.ti t,m,k,x with
 | some i,.v (.map id),.v k,.v x=>match i.k,nth s.G id with
  | .map kt _ _,some (.map es)=>match E.ti kt with
   | some j=>if j.ek.plain&&ic j.ek k then some (cH j.ek k es,s.bY (ap s.G id (.map (er j.ek k x es)))) else none
   | none=>none
  | _,_=>none
 | _,_,_,_=>none
theorem sf {E:Env} {s s':St} {t:TypeId} {m k x:SV} (h:vC E s t m k x=some (true,s')):fR E s t m k x=some s':=by
 unfold vC at h
 split at h
 ·rename_i i id k x h1
  split at h
  ·rename_i kt _ _ es hk hg
   split at h
   ·rename_i j hj
    split at h
    ·rename_i hc
     injection h with h
     injection h with h4 h5
     simp only [fR,h1,hk,hg,hj,hc,if_true,KC h4,h5]
    ·cases h
   ·cases h
  ·cases h
 ·cases h
def KD (E:Env) (s:St) (dst:Option Tmp) (l:List AV) (tys:List TypeId):Option (Bool × St):=match l,tys with
 | [.kM id off sz len _,.str bs],t :: _=>match E.ti t,nth s.G id with
  | some i,some (.row cs el)=>match i.k with
   | .sl _ esz _ _ _=>if Nat.beq sz esz&&Nat.beq esz 1 then
     some (Nat.ble (off+(bs.take (Nat.min bs.length len)).length) cs.length,
      (s.bY (ap s.G id (.row (bc cs off ((bs.take (Nat.min bs.length len)).map rA)) el))).put dst (.v (.int .i64 (Nat.min bs.length len))))
    else none
   | _=>none
  | _,_=>none
 | [.kM id off sz len _,.list _ bK es],t :: _=>match E.ti t,nth s.G id with
  | some i,some (.row cs el)=>match i.k with
   | .sl _ esz _ _ _=>if Nat.beq sz esz&&Nat.beq bK esz then
     some (Nat.ble (off+(aq (es.take (Nat.min es.length len))).length) cs.length,
      (s.bY (ap s.G id (.row (bc cs off (aq (es.take (Nat.min es.length len)))) el))).put dst (.v (.int .i64 (Nat.min es.length len))))
    else none
   | _=>none
  | _,_=>none
 | [.cR id f off sz len,.list _ bK xs],t :: _=>match E.ti t,nth s.G id with
  | some i,some (.a7 es ZQ el)=>match i.k with
   | .sl _ esz _ _ _=>if Nat.beq sz esz&&Nat.beq ZQ sz&&Nat.beq bK esz then
     some (decide (f=es.length)&&decide (off+Nat.min xs.length len≤es.length),
      (s.bY (ap s.G id (.a7 (bc es off (xs.take (Nat.min xs.length len))) ZQ el))).put dst (.v (.int .i64 (Nat.min xs.length len))))
    else none
   | _=>none
  | _,_=>none
 | _,_=>none
theorem FG {E:Env} {s s':St} {dst:Option Tmp} {l:List AV} {tys:List TypeId} (h:KD E s dst l tys=some (true,s')):bZ E s dst .copy l tys=some (true,s'):=by
 unfold KD at h
 split at h
 ·rename_i id off sz len cap bs t ts
  split at h
  ·rename_i i cs el hi hid
   split at h
   ·rename_i a1 esz a2 a3 a4 hk
    split at h
    ·rename_i hc
     rw [Bool.and_eq_true] at hc
     injection h with h
     injection h with h1 h2
     have mO:(Nat.beq esz 1&&Nat.ble (off+(bs.take (Nat.min bs.length len)).length) cs.length)=true:=by rw [hc.2,h1]; rfl
     simp only [bZ,hi,hk,rB,hid,hc.1,if_true,mO,h2]
    ·cases h
   ·cases h
  ·cases h
 ·rename_i id off sz len cap k bK es t ts
  split at h
  ·rename_i i cs el hi hid
   split at h
   ·rename_i a1 esz a2 a3 a4 hk
    split at h
    ·rename_i hc
     rw [Bool.and_eq_true] at hc
     injection h with h
     injection h with h1 h2
     have e2:(Nat.beq bK esz || es.isEmpty)=true:=by rw [hc.2]; rfl
     simp only [bZ,hi,hk,rB,hid,hc.1,if_true,e2,h1,h2]
    ·cases h
   ·cases h
  ·cases h
 ·rename_i id f off sz len k bK xs t ts
  split at h
  ·rename_i i es ZQ el hi hid
   split at h
   ·rename_i a1 esz a2 a3 a4 hk
    split at h
    ·rename_i hc
     rw [Bool.and_eq_true] at hc
     injection h with h
     injection h with h1 h2
     rw [Bool.and_eq_true,decide_eq_true_eq,decide_eq_true_eq] at h1
     obtain ⟨rfl,h1⟩:=h1
     have e2:(Nat.beq sz esz&&Nat.beq ZQ sz&&(Nat.beq bK esz || xs.isEmpty)&&Nat.ble es.length es.length&&Nat.ble es.length es.length&&Nat.ble (off+Nat.min xs.length len) es.length)=true:=by
      rw [hc.1,hc.2]
      simp only [Bool.true_or,Bool.true_and,Bool.and_eq_true]
      exact ⟨⟨Nat.ble_eq_true_of_le (Nat.le_refl _),Nat.ble_eq_true_of_le (Nat.le_refl _)⟩,Nat.ble_eq_true_of_le h1⟩
     simp only [bZ,hi,hk,rB,hid,e2,if_true,h2]
    ·cases h
   ·cases h
  ·cases h
 ·cases h
def vD (s:St) (dst:Option Tmp) (elem esz bw:Nat) (k:LK) (sz:Nat) (es ys:List AV):Option (Bool × St × Bool × St):=
 match k with
 | .nil=>some (ys.isEmpty,s.put dst (.v (.list .nil sz es)),decide ((es.length+ys.length) * bw≤140737488355328),
   (s.bY (s.G++[.tok (es.length+ys.length) esz elem])).put dst (.v (.list (.own s.G.length) esz (es++ys))))
 | .full=>if Nat.beq sz esz then some (ys.isEmpty,s.put dst (.v (.list .full sz es)),decide ((es.length+ys.length) * bw≤140737488355328),
   (s.bY (s.G++[.tok (es.length+ys.length) esz elem])).put dst (.v (.list (.own s.G.length) esz (es++ys)))) else none
 | .own id=>match nth s.G id with
  | some (.tok f bK e')=>if Nat.beq bK esz&&Nat.beq e' elem&&Nat.beq sz esz then
    some (false,s,decide (f=es.length)&&decide ((es.length+ys.length) * bw≤140737488355328),
     (s.bY (Jy s.G id ys.length f esz elem)).put dst (.v (.list (.own id) esz (es++ys)))) else none
  | _=>none
 | .aP id j=>match nth s.G id with
  | some (.aP fs bK e')=>if Nat.beq bK esz&&Nat.beq e' elem&&Nat.beq sz esz then
    some (ys.isEmpty,s.put dst (.v (.list (.aP id j) sz es)),EB fs j es.length&&decide ((es.length+ys.length) * bw≤140737488355328),
     (s.bY (ap s.G id (.aP (za fs j (es.length+ys.length)) esz elem))).put dst (.v (.list (.aP id j) esz (es++ys)))) else none
  | _=>none
 | .gr=>none
def Bt (s:St) (dst:Option Tmp) (elem esz bw id f off sz len:Nat) (ys:List AV):Option (Bool × St × Bool × St):=match nth s.G id with
 | some (.a7 es bK e')=>if Nat.beq bK esz&&Nat.beq e' elem&&Nat.beq sz esz then
   some (false,s,decide (f=es.length)&&decide (off=0)&&decide (len=f)&&decide ((es.length+ys.length) * bw≤140737488355328),
    (s.bY (ap s.G id (.a7 (es++ys) esz elem))).put dst (.v (.cR id (es.length+ys.length) 0 esz (es.length+ys.length)))) else none
 | _=>none
def Bu (E:Env) (s:St) (dst:Option Tmp) (l:List AV) (tys:List TypeId):Option (Bool × St × Bool × St):=match l,tys with
 | [.list k sz es,.list _ bK ys],[t,u]=>match E.ti t with
  | some i=>match i.k with
   | .sl elem esz _ bw (some z)=>
    if Nat.beq bK esz&&Nat.beq t u&&Nat.ble 1 esz&&Nat.ble 1 bw&&Nat.beq z.cells.length esz&&z.aV then
     vD s dst elem esz bw k sz es ys
    else none
   | _=>none
  | none=>none
 | [.cR id f off sz len,.list _ bK ys],[t,u]=>match E.ti t with
  | some i=>match i.k with
   | .sl elem esz _ bw (some z)=>
    if Nat.beq bK esz&&Nat.beq t u&&Nat.ble 1 esz&&Nat.ble 1 bw&&Nat.beq z.cells.length esz&&z.aV then Bt s dst elem esz bw id f off sz len ys else none
   | _=>none
  | none=>none
 | [.list k sz es,.str bs],[t,u]=>match E.ti t,E.ti u with
  | some i,some j=>match i.k,j.k with
   | .sl elem esz _ bw (some z),.str=>
    if Nat.beq esz 1&&Nat.ble 1 bw&&Nat.beq z.cells.length esz&&z.aV then vD s dst elem esz bw k sz es (bs.map rA) else none
   | _,_=>none
  | _,_=>none
 | _,_=>none
theorem sg {s s1 s2:St} {dst:Option Tmp} {elem esz bw:Nat} {k:LK} {sz:Nat} {es ys:List AV} {b c:Bool} (h:vD s dst elem esz bw k sz es ys=some (b,s1,c,s2)) (hc:b=false→c=true) :
  ∃ v G',fQ s.G elem esz bw (.list k sz es) ys=some (true,v,G')∧(s.bY G').put dst (.v v)=bif b then s1 else s2:=by
 unfold vD at h
 cases k with
 | nil=>
  cases h
  cases ys with
  | nil=>exact ⟨_,_,rfl,rfl⟩
  | cons y ys=>
   have hc:=hc rfl
   exact ⟨_,_,by simp only [fQ,hc],rfl⟩
 | full=>
  simp only at h
  cases hs:Nat.beq sz esz with
  | false=>rw [hs] at h; cases h
  | true=>
   rw [hs] at h
   cases h
   cases ys with
   | nil=>exact ⟨_,_,rfl,rfl⟩
   | cons y ys=>
    have hc:=hc rfl
    exact ⟨_,_,by simp only [fQ,hs,if_true,hc],rfl⟩
 | own id=>
  simp only at h
  split at h
  ·rename_i f bK e' hg
   split at h
   ·rename_i cC
    cases h
    have hc:=hc rfl
    cases ys with
    | nil=>
     simp only [Bool.and_eq_true] at cC
     have e1:=Nat.eq_of_beq_eq_true cC.1.1
     have e2:=Nat.eq_of_beq_eq_true cC.1.2
     have e3:=Nat.eq_of_beq_eq_true cC.2
     subst e1; subst e2; subst e3
     refine ⟨_,_,rfl,?_⟩
     simp only [cond_false,Jy,List.length_nil,Nat.add_zero,lT hg,List.append_nil]
    | cons y ys=>exact ⟨_,_,by simp only [fQ,hg,cC,if_true,hc],rfl⟩
   ·cases h
  ·cases h
 | aP id j=>
  simp only at h
  split at h
  ·rename_i fs bK e' hg
   split at h
   ·rename_i cC
    cases h
    cases ys with
    | nil=>exact ⟨_,_,rfl,rfl⟩
    | cons y ys=>
     have hc:=hc rfl
     exact ⟨_,_,by simp only [fQ,hg,cC,if_true,hc],rfl⟩
   ·cases h
  ·cases h
 | gr=>cases h
theorem Bv {s s1 s2:St} {dst:Option Tmp} {elem esz bw id f off sz len:Nat} {ys:List AV} {b c:Bool} (h:Bt s dst elem esz bw id f off sz len ys=some (b,s1,c,s2)) (hc:b=false→c=true) :
  ∃ v G',fQ s.G elem esz bw (.cR id f off sz len) ys=some (true,v,G')∧(s.bY G').put dst (.v v)=bif b then s1 else s2:=by
 unfold Bt at h
 split at h
 ·rename_i es bK e' hg
  split at h
  ·rename_i cC
   cases h
   have hc:=hc rfl
   cases ys with
   | nil=>
    simp only [Bool.and_eq_true,decide_eq_true_eq] at hc cC
    have e1:=Nat.eq_of_beq_eq_true cC.1.1
    have e2:=Nat.eq_of_beq_eq_true cC.1.2
    have e3:=Nat.eq_of_beq_eq_true cC.2
    obtain ⟨⟨⟨h1,h2⟩,h3⟩,_⟩:=hc
    subst e1; subst e2; subst e3; subst h1; subst h2; subst h3
    refine ⟨_,_,rfl,?_⟩
    simp only [cond_false,List.length_nil,Nat.add_zero,lT hg,List.append_nil]
   | cons y ys=>exact ⟨_,_,by simp only [fQ,hg,cC,if_true,hc],rfl⟩
  ·cases h
 ·cases h
theorem Bw {E:Env} {s s1 s2:St} {dst:Option Tmp} {l:List AV} {tys:List TypeId} {b c:Bool} (h:Bu E s dst l tys=some (b,s1,c,s2)) (Em:b=false→c=true):bZ E s dst .append l tys=some (true,bif b then s1 else s2):=by
 unfold Bu at h
 split at h
 ·rename_i k sz es k' bK ys t u
  split at h
  ·rename_i i hi
   split at h
   ·rename_i elem esz a1 bw z hk
    split at h
    ·rename_i hc
     have uQ:((Nat.beq bK esz || ys.isEmpty)&&Nat.beq t u&&Nat.ble 1 esz&&Nat.ble 1 bw&&Nat.beq z.cells.length esz&&z.aV)=true:=by
      simp only [Bool.and_eq_true] at hc ⊢
      obtain ⟨⟨⟨⟨⟨c1,c2⟩,c3⟩,c4⟩,c5⟩,c6⟩:=hc
      exact ⟨⟨⟨⟨⟨by rw [c1]; rfl,c2⟩,c3⟩,c4⟩,c5⟩,c6⟩
     obtain ⟨v,G',h1,h2⟩:=sg h Em
     simp only [bZ,hi,hk,uQ,if_true,h1,h2]
    ·cases h
   ·cases h
  ·cases h
 ·rename_i id f off sz len k' bK ys t u
  split at h
  ·rename_i i hi
   split at h
   ·rename_i elem esz a1 bw z hk
    split at h
    ·rename_i hc
     have uQ:((Nat.beq bK esz || ys.isEmpty)&&Nat.beq t u&&Nat.ble 1 esz&&Nat.ble 1 bw&&Nat.beq z.cells.length esz&&z.aV)=true:=by
      simp only [Bool.and_eq_true] at hc ⊢
      obtain ⟨⟨⟨⟨⟨c1,c2⟩,c3⟩,c4⟩,c5⟩,c6⟩:=hc
      exact ⟨⟨⟨⟨⟨by rw [c1]; rfl,c2⟩,c3⟩,c4⟩,c5⟩,c6⟩
     obtain ⟨v,G',h1,h2⟩:=Bv h Em
     simp only [bZ,hi,hk,uQ,if_true,h1,h2]
    ·cases h
   ·cases h
  ·cases h
 ·rename_i k sz es bs t u
  split at h
  ·rename_i i j hi hj
   split at h
   ·rename_i elem esz a1 bw z hk RY
    split at h
    ·rename_i hc
     obtain ⟨v,G',h1,h2⟩:=sg h Em
     simp only [bZ,hi,hj,hk,RY,hc,if_true,h1,h2]
    ·cases h
   ·cases h
  ·cases h
 ·cases h
end Go.Am
namespace Go.Am
open Go
def Ts (E:Env) (cut wk:Bool) (t:TypeId) (r:AV) (G:List GO):Option (Bool × AV × List GO):=match r with
 | .cR id f 0 sz len=>match nth G id,E.ti t with
  | some (.a7 es bK _),some i=>match i.k with
   | .sl _ esz _ _ _=>if Nat.beq esz sz&&Nat.beq bK sz then
     bif cut then some (decide (f=es.length)&&decide (len≤es.length)&&aC (zI wk es),.list .gr sz (zI wk (es.take len)),ap G id .dead)
     else some (decide (f=es.length)&&decide (len=es.length)&&aC (zI wk es),.list .gr sz (zI wk es),ap G id .dead)
    else none
   | _=>none
  | _,_=>none
 | .kM id 0 sz len _=>match nth G id,E.ti t,E.RN t with
  | some (.row cs _),some i,some p=>match i.k with
   | .sl _ esz agg _ _=>if Nat.beq esz sz&&Nat.ble 1 sz&&(agg || Nat.beq sz 1)&&p.under 0 then
     some (Nat.beq cs.length (len * sz)&&allFit (fun e=>p.fits e&&e.aV&&(agg || e.one)) (gK agg sz len cs),.list .gr sz ((gK agg sz len cs).map fun e=>p.enc (p.bh e)),ap G id .dead)
    else none
   | _=>none
  | _,_,_=>none
 | .agg cs=>match lQ wk cs G with
  | (c,eV,G')=>some (c,.agg eV,G')
 | .ptr id 0=>match nth G id with
  | some (.row cs _)=>some (aC cs,.ep cs,ap G id .dead)
  | _=>none
 | _=>none
def xL (E:Env) (cut wk:Bool):List TypeId→List AV→List GO→Bool × List AV × List GO
 | t :: ts,r :: rs,G=>match Ts E cut wk t r G with
  | some (c,r',G')=>match xL E cut wk ts rs G' with
   | (c',KE,Sf)=>(c&&c',r' :: KE,Sf)
  | none=>match xL E cut wk ts rs G with
   | (c',KE,Sf)=>(c',r :: KE,Sf)
 | _,rs,G=>(true,rs,G)
def Tt {X:Type} (E:Env) (cut wk:Bool) (ts:List TypeId) (K:AV→List GO→Option X) (r:AV) (G:List GO):Option X:=match r with
 | .bH rs=>match xL E cut wk ts rs G with
  | (c,KE,G')=>bif c then K (.bH KE) G' else none
 | r=>match xL E cut wk ts [r] G with
  | (c,[r'],G')=>bif c then K r' G' else none
  | _=>none
section
variable {E:Env} {R:aj} {w:World}
theorem xM {R:aj} {b:Nat} (hI:∀ o,R.I b o):∀ {cs:List AV} {vs:List Value} {o:Nat},aK R w cs vs→(∀ v∈vs,v.oneCell'=true)→(∀ (j:Nat) (v:Value),vs[j]?=some v→w.cell? ⟨b,o+j,none⟩=some v)→dU R w b o cs
 | [],_,o,_,_,_=>.nil
 | a :: cs,_,o,.cons h t,h1,hc=>.cons (hc 0 _ rfl) (h1 _ (by simp)) (hI o) h (xM hI t (fun v hv=>h1 v (by simp [hv])) fun j v hj=>by
   have:=hc (j+1) v (by simpa using hj)
   rwa [show o+(j+1)=o+1+j by omega] at this)
theorem xN {R:aj} {b:Nat} {p:aA} {agg:Bool} {sz:Nat} (hI:∀ o,R.I b o) (hp:p.under 0=true) (ej:(agg || Nat.beq sz 1)=true) (abt:1≤sz):∀ (n:Nat) {cs:List AV} {vs:List Value} {o:Nat},aK R w cs vs→(∀ v∈vs,v.oneCell'=true)→cs.length=n * sz →
  (∀ (j:Nat) (v:Value),vs[j]?=some v→w.cell? ⟨b,o+j,none⟩=some v)→allFit (fun e=>p.fits e&&e.aV&&(agg || e.one)) (gK agg sz n cs)=true→fS R w b o sz ((gK agg sz n cs).map fun e=>p.enc (p.bh e))
 | 0,_,_,_,_,_,_,_,_=>.nil
 | n+1,cs,vs,o,h,h1,hl,hc,hf=>by
  simp only [gK,allFit,Bool.and_eq_true] at hf
  obtain ⟨⟨⟨wC,Zz⟩,hf4⟩,hf3⟩:=hf
  have hlen:=h.length
  have hle:sz≤cs.length:=by rw [hl,Nat.succ_mul]; omega
  have dk:=p.cG wC
  have ls:(Wx agg (cs.take sz)).cells=cs.take sz:=by
   cases agg with
   | true=>rfl
   | false=>
    have Gv:sz=1:=by simpa using ej
    subst Gv
    match cs,hle with
    | a :: cs,_=>
     show AV.cells a=[a]
     have ho:a.one=true:=by simpa [Wx,dT] using hf4
     cases a <;> first | rfl | simp [AV.one] at ho
  have hw:=dk.cells Zz
  rw [ls] at hw
  have hA:dU R w b o (cs.take sz):=xM hI (h.take sz) (fun v hv=>h1 v (List.mem_of_mem_take hv)) fun j v hj=>hc j v (by
   rw [List.getElem?_take] at hj
   split at hj
   ·exact hj
   ·cases hj)
  refine .cons (by rw [← hw.length,List.length_take,Nat.min_eq_left hle]) (by rw [dk.bH]; exact Zz) (lC (p.de _ hp)) (hw.JE hA) ?_
  exact xN hI hp ej abt n (h.drop sz) (fun v hv=>h1 v (List.mem_of_mem_drop hv)) (by rw [List.length_drop,hl,Nat.succ_mul]; omega) (fun j v hj=>by
   rw [List.getElem?_drop] at hj
   have:=hc _ _ hj
   rwa [show o+(sz+j)=o+sz+j by omega] at this) hf3
theorem N0 {cut wk:Bool} {t:TypeId} {r r':AV} {G G':List GO} {c:Value} (hg:dE E R w G) (hr:Rel R w r c) (h:Ts E cut wk t r G=some (true,r',G')) :
  ∃ R',dE E R' w G'∧Rel R' w r' c∧Ext R w R' w∧R'.obj=R.obj∧∀ b o,R'.I b o→R.I b o∨Live R b:=by
 unfold Ts at h
 split at h
 ·rename_i id f sz len
  obtain ⟨ro,bR⟩:∃ ro,nth R.obj id=some ro:=by
   cases hr with
   | jm q _=>exact ⟨_,q⟩
   | cR q _ _=>exact ⟨_,q⟩
  split at h
  ·rename_i es bK el i hid hi
   split at h
   ·split at h
    ·rename_i hc
     rw [Bool.and_eq_true] at hc
     have q1:=Nat.eq_of_beq_eq_true hc.2
     subst q1
     cases cut with
     | true=>
      simp only [cond_true] at h
      injection h with h; injection h with h1 h; injection h with h2 h3
      subst h2 h3
      rw [Bool.and_eq_true,Bool.and_eq_true,decide_eq_true_eq,decide_eq_true_eq] at h1
      obtain ⟨h1,jh⟩:=h1
      obtain ⟨R',r1,r2,r3,r4,r5⟩:=mY (wk:=wk) hg hid h1.1 h1.2 jh bR
      exact ⟨R',r1,r5 c hr,r2,r3,fun b o hi=>(r4 b o hi).imp_right fun hb=>⟨id,ro,bR,hb⟩⟩
     | false=>
      simp only [cond_false] at h
      injection h with h; injection h with h1 h; injection h with h2 h3
      subst h2 h3
      rw [Bool.and_eq_true,Bool.and_eq_true,decide_eq_true_eq,decide_eq_true_eq] at h1
      obtain ⟨h1,jh⟩:=h1
      obtain ⟨R',r1,r2,r3,r4,r5⟩:=mY (wk:=wk) hg hid h1.1 (Nat.le_of_eq h1.2) jh bR
      have r6:=r5 c hr
      rw [h1.2,List.take_length] at r6
      exact ⟨R',r1,r6,r2,r3,fun b o hi=>(r4 b o hi).imp_right fun hb=>⟨id,ro,bR,hb⟩⟩
    ·cases h
   ·cases h
  ·cases h
 ·rename_i id sz len cap
  split at h
  ·rename_i cs i p hid hi hp
   split at h
   ·rename_i el esz agg eb z hk
    split at h
    ·rename_i hc
     simp only [Bool.and_eq_true] at hc
     injection h with h
     injection h with h1 h
     injection h with h2 h3
     subst h2 h3
     rw [Bool.and_eq_true] at h1
     cases hr with
     | @kM _ _ _ _ _ b hb iB=>
     obtain ⟨vs,k1,k2,k3,k4⟩:=hg.obj id _ _ hid hb
     have Cv:Live R b:=⟨id,_,hb,rfl⟩
     have e:=rV R w b
     have bP:=bo k1
     refine ⟨R.all b,⟨by show R.obj.length=_; rw [gT]; exact hg.len,fun jF go ro q1 q2=>?_,hg.inj,fun b' o ho=>?_,fun g cs qw=>(hg.cw g cs qw).mono e,hg.lo⟩,?_,e,rfl,fun b' o ho=>?_⟩
     ·rcases cV q1 with ⟨rfl,rfl,_⟩ | ⟨cL,q1⟩
      ·have:ro=.b0 b:=Option.some.inj (q2.symm.trans hb)
       subst this
       exact bP
      ·refine (hg.obj jF go ro q1 q2).mono e (fun _ _=>rfl) (fun b' o kT ho=>?_)
       rcases ho with ho | ho
       ·exact ho
       ·subst ho
        exact absurd (hg.inj id jF _ _ b' hb q2 rfl kT) cL
     ·rcases ho with ho | ho
      ·exact hg.wf b' o ho
      ·subst ho; exact bP
     ·refine Rel.list (xN (R:=R.all b) (fun o=>Or.inr rfl) hc.2 hc.1.2 (Nat.le_of_ble_eq_true hc.1.1.2) len (k2.mono e) k3 (Nat.eq_of_beq_eq_true h1.1) (fun j v hj=>?_) h1.2) ?_ iB trivial
      ·simp only [World.cell?,k1]
       simpa using hj
      ·rw [List.length_map]
       have:∀ (n:Nat) (l:List AV),(gK agg sz n l).length=n:=by
        intro n
        induction n with
        | zero=>intro l; rfl
        | succ n ih=>intro l; simp [gK,ih]
       rw [this]
     ·rcases ho with ho | ho
      ·exact .inl ho
      ·subst ho; exact .inr Cv
    ·cases h
   ·cases h
  ·cases h
 ·rename_i cs
  cases h2:lQ wk cs G with
  | mk c' q=>
  obtain ⟨eV,G2⟩:=q
  rw [h2] at h
  injection h with h; injection h with h1 h; injection h with h3 h4
  subst h1 h3 h4
  cases hr with
  | agg hr mO=>
  obtain ⟨R',r1,r2,r3,r4,r5⟩:=rY hg hr h2
  exact ⟨R',r1,.agg r2 mO,r3,r4,r5⟩
 ·-- an object's cells never change again
  rename_i id
  split at h
  ·rename_i cs el hid
   injection h with h; injection h with h1 h; injection h with h2 h3
   subst h2 h3
   cases hr with
   | @ptr _ _ b bR=>
   obtain ⟨vs,b1,b2,b3,b4⟩:=hg.obj id _ _ hid bR
   have r2:=rV R w b
   have r1:=hg.freeze bR rfl (show gL (R.all b) w .dead (.b0 b) from bo b1)
   refine ⟨R.all b,r1,Rel.ep (dU.make (b2.mono r2) b3 (fun j v hv=>?_) (fun j _=>.inr rfl)),r2,rfl,fun b' o hi=>?_⟩
   ·rw [jo b1,Nat.zero_add]
    exact hv
   ·rcases hi with hi | rfl
    ·exact .inl hi
    ·exact .inr ⟨id,_,bR,rfl⟩
  ·cases h
 ·cases h
theorem vE {cut wk:Bool}:∀ {ts:List TypeId} {rs KE:List AV} {G G':List GO} {cs:List Value} {R:aj},dE E R w G→aK R w rs cs→xL E cut wk ts rs G=(true,KE,G') →
  ∃ R',dE E R' w G'∧aK R' w KE cs∧Ext R w R' w∧R'.obj=R.obj∧∀ b o,R'.I b o→R.I b o∨Live R b
 | [],rs,KE,G,G',cs,R,hg,hr,h=>by
  cases rs <;> (simp only [xL] at h; cases h; exact ⟨R,hg,hr,Ext.refl R w,rfl,fun _ _ h=>.inl h⟩)
 | _ :: _,[],KE,G,G',cs,R,hg,hr,h=>by
  simp only [xL] at h; cases h; exact ⟨R,hg,hr,Ext.refl R w,rfl,fun _ _ h=>.inl h⟩
 | t :: ts,r :: rs,KE,G,G',cs,R,hg,hr,h=>by
  cases hr with
  | cons h0 hr=>
  unfold xL at h
  split at h
  ·rename_i c r' G1 h1
   cases h2:xL E cut wk ts rs G1 with
   | mk c' q=>
   obtain ⟨W8,G2⟩:=q
   rw [h2] at h
   simp only [Prod.mk.injEq,Bool.and_eq_true] at h
   obtain ⟨⟨rfl,rfl⟩,rfl,rfl⟩:=h
   obtain ⟨R1,a1,a2,a3,a4,a5⟩:=N0 hg h0 h1
   obtain ⟨R2,b1,b2,b3,b4,b5⟩:=vE a1 (hr.mono a3) h2
   refine ⟨R2,b1,.cons (a2.mono b3) b2,a3.trans b3,b4.trans a4,fun b o ho=>?_⟩
   rcases b5 b o ho with ho | ho
   ·exact a5 b o ho
   ·obtain ⟨id,ro,q1,q2⟩:=ho
    rw [a4] at q1
    exact .inr ⟨id,ro,q1,q2⟩
  ·cases h2:xL E cut wk ts rs G with
   | mk c' q=>
   obtain ⟨W8,G2⟩:=q
   rw [h2] at h
   simp only [Prod.mk.injEq] at h
   obtain ⟨rfl,rfl,rfl⟩:=h
   obtain ⟨R2,b1,b2,b3,b4,b5⟩:=vE hg hr h2
   exact ⟨R2,b1,.cons (h0.mono b3) b2,b3,b4,b5⟩
theorem cO.frz {g:FuncId} {args:List AV} {G:List GO} {X:Type} {cut wk:Bool} {ts:List TypeId} {K:AV→List GO→Option X} {x:X} (h:cO E g args G (fun r G'=>Tt E cut wk ts K r G'=some x)):cO E g args G (fun r G'=>K r G'=some x):=
 ⟨h.1,fun R w cs hg hl=>(h.2 R w cs hg hl).mono fun e w' he=>by
  cases e with
  | panicked c=>exact he.elim
  | outgrown=>exact he.elim
  | returned c=>
   obtain ⟨r,G',R1,hq,dZ,NZ,st⟩:=he
   have fin:∀ (r':AV) (G2:List GO) (R2:aj),K r' G2=some x→dE E R2 w' G2→Rel R2 w' r' c→Ext R1 w' R2 w'→R2.obj=R1.obj→(∀ b o,R2.I b o→R1.I b o∨Live R1 b)→GP E R w (fun r G'=>K r G'=some x) (.returned c) w':=by
    intro r' G2 R2 k1 k2 k3 k4 k5 k6
    have live:∀ b,Live R2 b→Live R1 b:=fun b ⟨id,ro,q1,q2⟩=>⟨id,ro,by rw [← k5]; exact q1,q2⟩
    refine ⟨r',G2,R2,k1,k3,k2,⟨st.ext.trans k4,st.os,st.tape,st.output,st.size,st.bQ,fun b hb ho=>?_,fun b o hi hb hn=>?_⟩⟩
    ·rcases ho with ho | ⟨k,cs,hk,rfl⟩
     ·exact st.own b hb (.inl (live b ho))
     ·simp [eZ,dS] at hk
    ·rcases k6 b o hi with hi | hi
     ·exact st.im b o hi hb hn
     ·exact absurd (st.own b hb (.inl hi)) hn
   unfold Tt at hq
   split at hq
   ·rename_i rs
    cases dZ with
    | bH dZ=>
    cases h2:xL E cut wk ts rs G' with
    | mk c' q=>
    obtain ⟨W8,G2⟩:=q
    rw [h2] at hq
    cases c' with
    | false=>cases hq
    | true=>
     obtain ⟨R2,b1,b2,b3,b4,b5⟩:=vE NZ dZ h2
     exact fin (.bH W8) G2 R2 hq b1 (.bH b2) b3 b4 b5
   ·split at hq
    ·rename_i c' r' G2 h2
     cases c' with
     | false=>cases hq
     | true=>
      obtain ⟨R2,b1,b2,b3,b4,b5⟩:=vE NZ (.cons dZ .nil) h2
      cases b2 with
      | cons b2 _=>exact fin r' G2 R2 hq b1 b2 b3 b4 b5
    ·cases hq⟩
end
end Go.Am
namespace Go.Am
open Go
inductive RP
 | Sg (p:aA)
 | map (pe:aA)
 | ep (ps:aO)
def RP.T:RP→Type
 | .Sg p=>p.T
 | .map pe=>List pe.T
 | .ep ps=>ps.T
def RP.enc (n:Nat):(p:RP)→p.T→AV
 | .Sg p,x=>p.enc x
 | .map _,_=>.map n
 | .ep ps,x=>.ep (ps.enc x)
def RP.FH:(p:RP)→p.T→List GO
 | .Sg _,_=>[]
 | .map pe,(x:List pe.T)=>[.map (aB (x.map pe.enc))]
 | .ep _,_=>[]
def RP.no:RP→Nat
 | .map _=>1
 | _=>0
def tC:List RP→Type
 | []=>Unit
 | [p]=>p.T
 | p :: q :: l=>p.T × tC (q :: l)
def oO:(n:Nat)→(l:List RP)→tC l→List AV
 | _,[],_=>[]
 | n,[p],x=>[p.enc n x]
 | n,p :: q :: l,x=>p.enc n x.1 :: oO (n+p.no) (q :: l) x.2
def gF:(l:List RP)→tC l→List GO
 | [],_=>[]
 | [p],x=>p.FH x
 | p :: q :: l,x=>p.FH x.1++gF (q :: l) x.2
structure RF where
 bH:Bool
 l:List RP
def RF.val (f:RF) (n:Nat) (x:tC f.l):AV:=bif f.bH then .bH (oO n f.l x) else dT (oO n f.l x)
def RP.is:RP→AV→Bool
 | .Sg p,v=>match p with
  | .eo u=>cM v u
  | _=>true
 | .map _,v=>match v with
  | .map _=>true
  | _=>false
 | .ep _,v=>match v with
  | .ep _=>true
  | _=>false
def KF:List RP→List AV→Bool
 | [],[]=>true
 | p :: l,v :: vs=>p.is v&&KF l vs
 | _,_=>false
def RF.args (f:RF) (r:AV):List AV:=bif f.bH then r.SJ else [r]
def RF.Ai (f:RF):AV→Bool
 | .bH _=>f.bH
 | _=>!f.bH
def Bx (G:List GO) (used:List Nat) (pe:aA) (v:AV):Option (List pe.T):=match v with
 | .map id=>match nth G id with
  | some (.map es)=>bif Ni used id then none else (bif allFit pe.fits (ah es) then some ((ah es).map pe.bh) else none)
  | _=>none
 | _=>none
def GY (ps:aO) (v:AV):Option ps.T:=match v with
 | .ep cs=>ps.dec cs
 | _=>none
def RP.dec (G:List GO) (used:List Nat):(p:RP)→AV→Option p.T
 | .Sg p,v=>p.dec v
 | .map pe,v=>Bx G used pe v
 | .ep ps,v=>GY ps v
def tD (used:List Nat):AV→List Nat
 | .map id=>id :: used
 | _=>used
def tE (G:List GO):(used:List Nat)→(l:List RP)→List AV→Option (tC l)
 | _,[],vs=>match vs with
  | []=>some ()
  | _=>none
 | u,[p],vs=>match vs with
  | [v]=>p.dec G u v
  | _=>none
 | u,p :: q :: l,vs=>match vs with
  | v :: vs=>(p.dec G u v).bind fun x=>(tE G (tD u v) (q :: l) vs).bind fun y=>some (x,y)
  | []=>none
def RF.dec (f:RF) (G:List GO) (r:AV):Option (tC f.l):=bif f.Ai r then tE G [] f.l (f.args r) else none
def RP.under:RP→Bool
 | .Sg p=>p.under 0
 | .map pe=>pe.under 0
 | .ep ps=>ps.under 0
def RF.under (f:RF):Bool:=f.l.all RP.under&&(f.bH || Nat.beq f.l.length 1)
def XT:List RF→Type
 | []=>Empty
 | [f]=>tC f.l
 | f :: g :: l=>tC f.l ⊕ XT (g :: l)
def KG (G:List GO) (r:AV):(l:List RF)→Option (XT l)
 | []=>none
 | [f]=>f.dec G r
 | f :: g :: l=>bif f.Ai r&&KF f.l (f.args r) then (f.dec G r).bind fun x=>some (.inl x) else (KG G r (g :: l)).bind fun x=>some (.inr x)
def Wg {α:Type} (G:List GO) (K:AV→List GO→α):(l:List RF)→XT l→α
 | [],o=>Empty.rec (fun _=>α) o
 | [f],o=>K (f.val G.length o) (G++gF f.l o)
 | f :: g :: l,o=>Sum.elim (fun v=>K (f.val G.length v) (G++gF f.l v)) (fun o=>Wg G K (g :: l) o) o
theorem Dh {α:Type} {G:List GO} {K:AV→List GO→α} {r:AV} {G':List GO}:∀ (l:List RF) (o:XT l),Wg G (fun r0 G0=>r=r0∧G'=G0) l o→K r G'=Wg G K l o
 | [],o,_=>nomatch o
 | [f],o,h=>by
  have h:r=f.val G.length o∧G'=G++gF f.l o:=h
  rw [h.1,h.2]; rfl
 | f :: g :: l,.inl v,h=>by
  have h:r=f.val G.length v∧G'=G++gF f.l v:=h
  rw [h.1,h.2]; rfl
 | f :: g :: l,.inr o,h=>Dh (g :: l) o h
def xO (E:Env) (g:FuncId) (args:List AV) (outs:List RF) (Q:XT outs→Prop):Prop:=
 ∀ G,cO E g args G (fun r G'=>∃ y,Q y∧Wg G (fun r0 G0=>r=r0∧G'=G0) outs y)
section
variable {E:Env} {R R1 R2:aj} {w:World}
theorem cZ.Sh (m:Mv R R2 0):∀ {es:List (AV × AV)} {l:List AV} {av:List MapEntry},jM (ah es) l→aH 0 l=true→cZ R w es av→cZ R2 w (aB l) av
 | [],[],[],_,_,_=>trivial
 | [],[],_ :: _,_,_,h=>h.elim
 | [],_ :: _,_,h,_,_=>h.elim
 | (_,_) :: _,[],_,h,_,_=>h.elim
 | (_,_) :: _,_ :: _,[],_,_,h=>h.elim
 | (k,v) :: es,a :: l,en :: av,hd,hu,h=>by
  obtain ⟨d1,d2⟩:=hd
  simp only [aH,Bool.and_eq_true] at hu
  have hc:=d1.cells rfl
  have hl:[k,v].length=a.cells.length:=hc.length
  cases a with
  | agg cs=>
   match cs,hc,hl with
   | [k',v'],hc,_=>
    have Tp:aH 0 [k',v']=true:=hu.1
    simp only [aH,Bool.and_true,Bool.and_eq_true] at Tp
    exact ⟨(hc.1 _ _ _ h.1).move m Tp.1,(hc.2.1 _ _ _ h.2.1).move m Tp.2,cZ.Sh m d2 hu.2 h.2.2⟩
   | [],_,hl=>simp [AV.cells] at hl
   | [_],_,hl=>simp [AV.cells] at hl
   | _ :: _ :: _ :: _,_,hl=>simp [AV.cells] at hl
  | _=>simp [AV.cells] at hl
theorem aA.xP {p:aA} (h:p.under 0=true):∀ l:List p.T,aH 0 (l.map p.enc)=true
 | []=>rfl
 | x :: l=>by
  show ((p.enc x).under 0&&aH 0 (l.map p.enc))=true
  rw [p.de x h,aA.xP h l]
  rfl
def xQ (R:aj) (n:Nat) (bs:List Nat):Prop:=∀ k b,nth bs k=some b→nth R.obj (n+k)=some (.b0 b)
def GZ (R:aj) (w:World) (gs:List GO) (bs:List Nat):Prop:=∀ k go b,nth gs k=some go→nth bs k=some b→gL R w go (.b0 b)
theorem RP.Si (p:RP) (x:p.T):(p.FH x).length=p.no:=by cases p <;> rfl
theorem KH {ps:aO} {v:AV} {y:ps.T} (h:GY ps v=some y):∃ cs,v=.ep cs∧ps.dec cs=some y:=by
 unfold GY at h
 split at h
 ·exact ⟨_,rfl,h⟩
 ·cases h
theorem ID {G:List GO} {used:List Nat} {pe:aA} {v:AV} {y:List pe.T} (h:Bx G used pe v=some y):∃ id es,v=.map id∧nth G id=some (.map es)∧id∉used∧jM (ah es) (y.map pe.enc):=by
 unfold Bx at h
 split at h
 ·rename_i id
  split at h
  ·rename_i es Jm
   cases hu:Ni used id with
   | true=>rw [hu] at h; cases h
   | false=>
    rw [hu,cond_false] at h
    cases hf:allFit pe.fits (ah es) with
    | false=>rw [hf] at h; cases h
    | true=>
     rw [hf,cond_true] at h
     have hy:=Option.some.inj h
     refine ⟨id,es,rfl,Jm,fun hm=>?_,?_⟩
     ·rw [Bp.2 hm] at hu; cases hu
     ·rw [← hy]; exact jM.of (fun v hv=>pe.cG hv) hf
  ·cases h
 ·cases h
theorem FI {used:List Nat} {v:AV} {id:Nat} (h:id∈used):id∈tD used v:=by
 unfold tD
 split
 ·exact List.mem_cons_of_mem _ h
 ·exact h
def By (R1:aj) (w:World) (used:List Nat) (v:AV) (c:Value) (p:RP) (y:p.T):Prop:=
 ∃ bs:List Nat,bs.length=p.no∧(∀ b∈bs,∃ id,id∉used∧id∈tD used v∧nth R1.obj id=some (.b0 b)) ∧
   ∀ (R2:aj) (n:Nat),(∀ b o,R1.I b o→R2.I b o)→xQ R2 n bs→Rel R2 w (p.enc n y) c∧GZ R2 w (p.FH y) bs
theorem mvI {R1 R2:aj} (hI:∀ b o,R1.I b o→R2.I b o):Mv R1 R2 0:=⟨hI,fun _ _ h=>absurd h (Nat.not_lt_zero _)⟩
theorem RP.Tu {used:List Nat} {p:aA} {v:AV} {c:Value} {y:p.T} (hp:p.under 0=true) (hv:Rel R1 w v c) (hd:p.dec v=some y):By R1 w used v c (.Sg p) y:=
 ⟨[],rfl,(fun b hb=>by cases hb),fun R2 n hI _=>⟨Rel.move (mvI hI) (p.de y hp) ((p.qu hd).fx _ _ _ hv),fun k go b h=>by cases k <;> cases h⟩⟩
theorem RP.XB {used:List Nat} {ps:aO} {v:AV} {c:Value} {y:ps.T} (hp:ps.under 0=true) (hv:Rel R1 w v c) (hd:GY ps v=some y):By R1 w used v c (.ep ps) y:=by
 obtain ⟨cs,rfl,hd⟩:=KH hd
 cases hv with
 | ep hc=>
 exact ⟨[],rfl,(fun b hb=>by cases hb),fun R2 n hI _=>⟨.ep (dU.move (mvI hI) ((ps.qu hd).1.JE hc) (ps.de y hp)),fun k go b h=>by cases k <;> cases h⟩⟩
theorem RP.Tv {G1:List GO} (hg:dE E R1 w G1) {used:List Nat} {pe:aA} {v:AV} {c:Value} {y:List pe.T} (hp:pe.under 0=true) (hv:Rel R1 w v c) (hd:Bx G1 used pe v=some y):By R1 w used v c (.map pe) y:=by
 obtain ⟨id,es,rfl,Jm,hu,hdl⟩:=ID hd
 cases hv with
 | map hb=>
 rename_i b
 refine ⟨[b],rfl,fun b' kT=>?_,fun R2 n hI mD=>⟨.map (by have:=mD 0 b rfl; simpa using this),fun k go b' h1 h2=>?_⟩⟩
 ·rw [List.mem_singleton] at kT
  subst kT
  exact ⟨id,hu,List.mem_cons_self,hb⟩
 ·cases k with
  | succ k=>cases h2
  | zero=>
   cases h1; cases h2
   obtain ⟨av,clock,e1,e2,e3⟩:=hg.obj id _ _ Jm hb
   exact ⟨av,clock,e1,cZ.Sh (mvI hI) hdl (aA.xP hp y) e2,e3⟩
theorem RP.ok {G1:List GO} (hg:dE E R1 w G1) {used:List Nat} {p:RP} {v:AV} {c:Value} {y:p.T} (hp:p.under=true) (hv:Rel R1 w v c) (hd:p.dec G1 used v=some y):By R1 w used v c p y:=by
 cases p with
 | Sg p=>exact RP.Tu hp hv hd
 | ep ps=>exact RP.XB hp hv hd
 | map pe=>exact RP.Tv hg hp hv hd
theorem fU {α:Type} {l r:List α} {i:Nat} (h:i < l.length):nth (l++r) i=nth l i:=by
 rw [aY,aY,List.getElem?_append_left h]
theorem fh {α:Type} {l r:List α} (i:Nat):nth (l++r) (l.length+i)=nth r i:=by
 rw [aY,aY,List.getElem?_append_right (Nat.le_add_right _ _),Nat.add_sub_cancel_left]
theorem pA {α:Type} {l:List α} {i:Nat} {x:α} (h:nth l i=some x):i < l.length:=by
 rw [aY] at h
 exact (List.getElem?_eq_some_iff.1 h).1
theorem RPs.ok {G1:List GO} (hg:dE E R1 w G1):∀ {l:List RP} {used:List Nat} {vs:List AV} {cs:List Value} {y:tC l},l.all RP.under=true→aK R1 w vs cs→tE G1 used l vs=some y →
  ∃ bs:List Nat,bs.length=(gF l y).length∧bs.Nodup∧(∀ b∈bs,∃ id,id∉used∧nth R1.obj id=some (.b0 b)) ∧
   ∀ (R2:aj) (n:Nat),(∀ b o,R1.I b o→R2.I b o)→xQ R2 n bs→aK R2 w (oO n l y) cs∧GZ R2 w (gF l y) bs
 | [],used,vs,cs,y,_,hv,hd=>by
  cases vs with
  | cons _ _=>cases hd
  | nil=>
  cases hv
  exact ⟨[],rfl,List.nodup_nil,(fun b hb=>by cases hb),fun R2 n _ _=>⟨.nil,fun k go b h=>by simp [gF,nth] at h⟩⟩
 | [p],used,vs,cs,y,hu,hv,hd=>by
  match vs,hv,hd with
  | [],_,hd=>cases hd
  | _ :: _ :: _,_,hd=>cases hd
  | [v],.cons hv .nil,hd=>
  have hu:p.under=true:=by simpa using hu
  obtain ⟨bs,h1,h2,h4⟩:=RP.ok hg hu hv hd
  refine ⟨bs,h1.trans (p.Si y).symm,?_,fun b hb=>let ⟨id,q1,_,q2⟩:=h2 b hb; ⟨id,q1,q2⟩,fun R2 n hI mD=>?_⟩
  ·have:bs.length≤1:=by rw [h1]; cases p <;> simp [RP.no]
   match bs,this with
   | [],_=>exact List.nodup_nil
   | [b],_=>simp
   | _ :: _ :: _,h=>simp at h
  ·obtain ⟨k1,k2⟩:=h4 R2 n hI mD
   exact ⟨.cons k1 .nil,k2⟩
 | p :: q :: l,used,vs,cs,y,hu,hv,hd=>by
  match vs,hv,hd with
  | [],_,hd=>cases hd
  | v :: vs,.cons (c:=c) (cs:=cs) hv Xv,hd=>
  simp only [List.all_cons,Bool.and_eq_true] at hu
  obtain ⟨Er,vF⟩:=hu
  have vF:(q :: l).all RP.under=true:=by simpa using vF
  have hd:((p.dec G1 used v).bind fun x=>(tE G1 (tD used v) (q :: l) vs).bind fun y=>some (x,y))=some y:=hd
  cases hx:p.dec G1 used v with
  | none=>rw [hx] at hd; cases hd
  | some x=>
  rw [hx] at hd
  simp only [Option.bind_some] at hd
  cases hz:tE G1 (tD used v) (q :: l) vs with
  | none=>rw [hz] at hd; cases hd
  | some z=>
  rw [hz] at hd
  simp only [Option.bind_some] at hd
  cases hd
  obtain ⟨bs,h1,h2,h4⟩:=RP.ok hg Er hv hx
  obtain ⟨bs',k1,k0,k2,k4⟩:=RPs.ok hg vF Xv hz
  have En:bs.length=(p.FH x).length:=h1.trans (p.Si x).symm
  refine ⟨bs++bs',?_,?_,fun b hb=>?_,fun R2 n hI mD=>?_⟩
  ·show _=(p.FH x++gF (q :: l) z).length
   rw [List.length_append,List.length_append,En,k1]
  ·have Gu:bs.Nodup:=by
    have:bs.length≤1:=by rw [h1]; cases p <;> simp [RP.no]
    match bs,this with
    | [],_=>exact List.nodup_nil
    | [b],_=>simp
    | _ :: _ :: _,h=>simp at h
   rw [List.nodup_append]
   refine ⟨Gu,k0,fun a ha b hb e=>?_⟩
   subst e
   obtain ⟨id,_,q2,q3⟩:=h2 a ha
   obtain ⟨jF,r1,r2⟩:=k2 a hb
   have:id=jF:=hg.inj id jF _ _ a q3 r2 rfl rfl
   subst this
   exact r1 q2
  ·rcases List.mem_append.1 hb with hb | hb
   ·obtain ⟨id,q1,_,q2⟩:=h2 b hb
    exact ⟨id,q1,q2⟩
   ·obtain ⟨id,q1,q2⟩:=k2 b hb
    exact ⟨id,fun hm=>q1 (FI hm),q2⟩
  ·have at1:xQ R2 n bs:=fun k b hk=>mD k b (by rw [fU (pA hk)]; exact hk)
   have at2:xQ R2 (n+p.no) bs':=fun k b hk=>by
    have:=mD (bs.length+k) b (by rw [fh]; exact hk)
    rw [h1] at this
    rw [Nat.add_assoc]; exact this
   obtain ⟨a1,a2⟩:=h4 R2 n hI at1
   obtain ⟨b1,b2⟩:=k4 R2 (n+p.no) hI at2
   refine ⟨.cons a1 b1,fun k go b hY hb=>?_⟩
   change nth (p.FH x++gF (q :: l) z) k=some go at hY
   rcases Nat.lt_or_ge k bs.length with hk | hk
   ·rw [fU (by rw [← En]; exact hk)] at hY
    rw [fU hk] at hb
    exact a2 k go b hY hb
   ·obtain ⟨j,rfl⟩:∃ j,k=bs.length+j:=⟨k - bs.length,by omega⟩
    rw [fh] at hb
    rw [En,fh] at hY
    exact b2 j go b hY hb
theorem xR:∀ (l:List RP) (n:Nat) (y:tC l),(oO n l y).length=l.length
 | [],_,_=>rfl
 | [_],_,_=>rfl
 | p :: q :: l,n,y=>by
  show (oO (n+p.no) (q :: l) y.2).length+1=(q :: l).length+1
  rw [xR (q :: l)]
theorem xO.of1 {R0:aj} {w0:World} {f:RF} {G G1:List GO} {r:AV} {c:Value} {y:tC f.l} (hf:f.under=true) (hG:dE E R0 w0 G) (st:Step ⟨R0.I,[]⟩ w0 (fun _=>0) eZ R1 w (fun _=>0) eZ) (hg:dE E R1 w G1) (dZ:Rel R1 w r c) (hd:f.dec G1 r=some y) :
  ∃ R2,Rel R2 w (f.val G.length y) c∧dE E R2 w (G++gF f.l y)∧Step R0 w0 (fun _=>0) eZ R2 w (fun _=>0) eZ:=by
 unfold RF.under at hf
 rw [Bool.and_eq_true] at hf
 unfold RF.dec at hd
 obtain ⟨ht,hd⟩:f.Ai r=true∧tE G1 [] f.l (f.args r)=some y:=by
  cases ht:f.Ai r with
  | true=>rw [ht] at hd; exact ⟨rfl,hd⟩
  | false=>rw [ht] at hd; cases hd
 obtain ⟨cs,qv,XC⟩:∃ cs,aK R1 w (f.args r) cs∧∀ R2 (x:tC f.l) n,aK R2 w (oO n f.l x) cs→Rel R2 w (f.val n x) c:=by
  unfold RF.args RF.val
  cases abv:f.bH with
  | true=>
   have:∃ vs,r=.bH vs:=by
    cases r <;> first | exact ⟨_,rfl⟩ | (simp [RF.Ai,abv] at ht)
   obtain ⟨vs,rfl⟩:=this
   cases dZ with
   | bH h=>exact ⟨_,h,fun R2 x n h=>.bH h⟩
  | false=>
   refine ⟨[c],.cons dZ .nil,fun R2 x n h=>?_⟩
   simp only [cond_false]
   have hlen:=xR f.l n x
   revert h hlen
   generalize oO n f.l x=l
   intro h hlen
   cases h with
   | cons h _=>exact h
 obtain ⟨bs,h1,h2,h3,h4⟩:=RPs.ok hg hf.1 qv hd
 have kU:∀ b,¬ Own (⟨R0.I,[]⟩:aj) (fun _=>0) eZ b:=fun b ho=>by
  obtain ⟨id,ro,q1,_⟩:=eB ho
  simp [nth] at q1
 have uT:∀ b∈bs,w0.heap.size≤b:=fun b hb=>by
  obtain ⟨id,_,hid⟩:=h3 b hb
  rcases Nat.lt_or_ge b w0.heap.size with bP | we
  ·exact absurd (st.own b bP (.inl ⟨id,_,hid,rfl⟩)) (kU b)
  ·exact we
 let R2:aj:=⟨R1.I,R0.obj++bs.map RO.b0⟩
 have e:Ext R0 w0 R2 w:=⟨st.ext.I,st.ext.cell,fun id ro h=>⟨ro,by rw [fU (pA h)]; exact h,cm.refl ro⟩,st.ext.lp⟩
 have bQ:∀ b,b < w0.heap.size→w.heap[b]?=w0.heap[b]?:=fun b hb=>st.bQ b hb (kU b)
 have im:∀ b o,b < w0.heap.size→R1.I b o→R0.I b o:=fun b o hb hi=>st.im b o hi hb (kU b)
 have abw:∀ {k ro},nth (bs.map RO.b0) k=some ro→∃ b,nth bs k=some b∧ro=.b0 b:=fun {k ro} h=>by
  rw [aY,List.getElem?_map] at h
  cases hb:bs[k]? with
  | none=>rw [hb] at h; cases h
  | some b=>rw [hb] at h; exact ⟨b,by rw [aY]; exact hb,(Option.some.inj h).symm⟩
 have mD:xQ R2 R0.obj.length bs:=fun k b hk=>by
  show nth (R0.obj++bs.map RO.b0) (R0.obj.length+k)=_
  rw [fh,aY,List.getElem?_map]
  rw [aY] at hk
  rw [hk]; rfl
 obtain ⟨k1,k2⟩:=h4 R2 R0.obj.length (fun _ _ h=>h) mD
 rw [hG.len] at k1
 have hold:∀ id ro,nth R2.obj id=some ro→nth R0.obj id=some ro∨∃ k b,id=R0.obj.length+k∧nth bs k=some b∧ro=.b0 b:=fun id ro h=>by
  rcases Nat.lt_or_ge id R0.obj.length with bP | we
  ·exact .inl (by rw [← fU (r:=bs.map RO.b0) bP]; exact h)
  ·obtain ⟨k,rfl⟩:∃ k,id=R0.obj.length+k:=⟨id - R0.obj.length,by omega⟩
   have h:nth (R0.obj++bs.map RO.b0) (R0.obj.length+k)=some ro:=h
   rw [fh] at h
   obtain ⟨b,q1,q2⟩:=abw h
   exact .inr ⟨k,b,rfl,q1,q2⟩
 have Sj:∀ id ro b,nth R0.obj id=some ro→ro.has b→b < w0.heap.size:=fun id ro b h hb=>by
  have hl:=pA h
  rw [hG.len] at hl
  have hY:nth G id=some G[id]:=by rw [aY]; exact List.getElem?_eq_getElem hl
  exact (hG.obj id _ _ hY h).lt hb
 have Tw:∀ {k b},nth bs k=some b→b∈bs:=fun {k b} h=>by
  rw [aY] at h
  exact List.mem_of_getElem? h
 refine ⟨R2,XC R2 y _ k1,⟨?_,fun id go ro q1 q2=>?_,fun i j ri rj b q1 q2 b1 b2=>?_,hg.wf,fun g cs qw=>(hG.cw g cs qw).mono e,hg.lo⟩,⟨e,st.os,st.tape,st.output,st.size,fun b hb _=>bQ b hb,fun b hb ho=>?_,fun b o hi hb _=>im b o hb hi⟩⟩
 ·show (R0.obj++bs.map RO.b0).length=_
  rw [List.length_append,List.length_map,List.length_append,hG.len,h1]
 ·rcases hold id ro q2 with q2 | ⟨k,b,rfl,q3,rfl⟩
  ·have hl:=pA q2
   rw [hG.len] at hl
   rw [fU hl] at q1
   refine (hG.obj id go ro q1 q2).mono e (fun b hb=>bQ b ?_) (fun b o hb hi=>im b o ?_ hi)
   ·exact (hG.obj id go ro q1 q2).lt hb
   ·exact (hG.obj id go ro q1 q2).lt hb
  ·rw [hG.len,fh] at q1
   exact k2 k go b q1 q3
 ·rcases hold i ri q1 with q1 | ⟨k,a,rfl,q3,rfl⟩
  ·rcases hold j rj q2 with q2 | ⟨k',a',rfl,q4,rfl⟩
   ·exact hG.inj i j ri rj b q1 q2 b1 b2
   ·have:b=a':=b2
    subst this
    have:=uT _ (Tw q4)
    have:=Sj i ri b q1 b1
    omega
  ·have hba:b=a:=b1
   subst hba
   rcases hold j rj q2 with q2 | ⟨k',a',rfl,q4,rfl⟩
   ·have:=uT _ (Tw q3)
    have:=Sj j rj b q2 b2
    omega
   ·have:b=a':=b2
    subst this
    have l1:=pA q3
    have l2:=pA q4
    rw [aY] at q3 q4
    have:=(List.getElem?_inj l1 h2).1 (q3.trans q4.symm)
    omega
 ·rcases eB ho with ⟨id,ro,q1,q2⟩
  rcases hold id ro q1 with q1 | ⟨k,a,rfl,q3,rfl⟩
  ·exact .inl ⟨id,ro,q1,q2⟩
  ·have:b=a:=q2
   subst this
   have:=uT _ (Tw q3)
   omega
theorem G3 {G1:List GO} {r:AV}:∀ {outs:List RF} {y:XT outs},KG G1 r outs=some y→(∀ f∈outs,f.under=true) →
  ∃ (f:RF) (z:tC f.l),f.under=true∧f.dec G1 r=some z∧∀ {α:Type} (G:List GO) (K:AV→List GO→α),Wg G K outs y=K (f.val G.length z) (G++gF f.l z)
 | [],_,h,_=>by cases h
 | [f],y,h,hu=>⟨f,y,hu f (by simp),h,fun _ _=>rfl⟩
 | f :: g :: l,y,h,hu=>by
  simp only [KG] at h
  cases hb:(f.Ai r&&KF f.l (f.args r)) with
  | true=>
   rw [hb] at h
   simp only [cond_true] at h
   cases hx:f.dec G1 r with
   | none=>rw [hx] at h; cases h
   | some x=>
    rw [hx] at h
    cases h
    exact ⟨f,x,hu f (by simp),hx,fun _ _=>rfl⟩
  | false=>
   rw [hb] at h
   simp only [cond_false] at h
   cases hx:KG G1 r (g :: l) with
   | none=>rw [hx] at h; cases h
   | some x=>
    rw [hx] at h
    cases h
    obtain ⟨f',z,k0,k1,k2⟩:=G3 hx (fun f hf=>hu f (List.mem_cons_of_mem _ hf))
    exact ⟨f',z,k0,k1,fun G K=>k2 G K⟩
theorem xO.of {g:FuncId} {args:List AV} {outs:List RF} {Q:XT outs→Prop} (hc:aH 0 args=true) (hp:∀ f∈outs,f.under=true)
  (h:cO E g args [] (fun r G'=>∃ y,KG G' r outs=some y∧Q y)):xO E g args outs Q:=fun G=>by
 refine ⟨h.1,fun R w cs hg hl=>?_⟩
 let R0:aj:=⟨R.I,[]⟩
 have m0:Mv R R0 0:=⟨fun _ _ h=>h,fun _ _ h=>absurd h (Nat.not_lt_zero _)⟩
 have RW:dE E R0 w []:=⟨rfl,fun id go ro h1 _=>by simp [nth] at h1,fun i j ri rj b h1=>by simp [R0,nth] at h1,hg.wf,fun g cs qw=>(hg.cw g cs qw).move m0 (cn _ (E.vX g cs qw)),hg.lo⟩
 have vu:aK R0 w args cs:=hl.move m0 hc
 refine (h.2 R0 w cs RW vu).mono fun e w' he=>?_
 cases e with
 | panicked c=>exact he.elim
 | outgrown=>exact he.elim
 | returned c=>
  obtain ⟨r,G',R1,⟨y,hy,hQ⟩,dZ,NZ,st⟩:=he
  obtain ⟨f,z,hf,hz,hY⟩:=G3 hy hp
  obtain ⟨R2,k1,k2,k3⟩:=xO.of1 hf hg st NZ dZ hz
  refine ⟨_,_,R2,⟨y,hQ,?_⟩,k1,k2,k3⟩
  rw [hY]
  exact ⟨rfl,rfl⟩
end
end Go.Am
namespace Go.Am
open Go
structure aD where
 ps:aO
 p:aA
 T:ps.T→Option p.T
def aw (E:Env) (g:FuncId) (e:aD):Prop:=∀ x y,e.T x=some y→ck E g (e.ps.enc x) (fun r=>r=e.p.enc y)
inductive XK
 | norm
 | ret
 | ex (id:Nat)
def XK.is:XK→Exit→Bool
 | .norm,.normal=>true
 | .ret,.ret=>true
 | .ex i,.exit j=>Nat.beq i j
 | _,_=>false
def XK.exit:XK→Exit
 | .norm=>.normal
 | .ret=>.ret
 | .ex i=>.exit i
theorem XK.GU {k:XK} {e:Exit} (h:k.is e=true):e=k.exit:=by
 cases k <;> cases e <;> simp_all [XK.is,XK.exit]
def JT:List (XK × cq)→Type
 | []=>Empty
 | [x]=>x.2.ps.T
 | x :: y :: l=>x.2.ps.T ⊕ JT (y :: l)
def kO (s:St):(outs:List (XK × cq))→Exit→St→Option (JT outs)
 | [],_,_=>none
 | [x],e,s'=>bif x.1.is e then x.2.dec s s' else none
 | x :: y :: l,e,s'=>bif x.1.is e then (x.2.dec s s').bind fun v=>some (.inl v) else (kO s (y :: l) e s').bind fun o=>some (.inr o)
def Nk {α:Type} (s:St):(outs:List (XK × cq))→JT outs→(Exit→St→α)→α
 | [],o,_=>Empty.rec (fun _=>α) o
 | [x],o,K=>K x.1.exit (x.2.st s o)
 | x :: y :: l,o,K=>Sum.elim (fun v=>K x.1.exit (x.2.st s v)) (fun o=>Nk s (y :: l) o K) o
inductive a8
 | loop (gh:List (Loc × Nat × TypeId)) (head:cq) (outs:List (XK × cq))
 | join (outs:List (XK × cq))
 | rot (k:List Bool) (gh:List (Loc × Nat × TypeId)) (head:cq) (outs:List (XK × cq))
 | ZR (n:Nat) (a b:a8)
 | uA (gh:List (Loc × Nat × TypeId)) (head:cq) (outs:List (XK × cq))
def KI (n:Nat):a8→a8
 | .ZR m a b=>bif Nat.beq n m then KI n a else KI n b
 | c=>c
def ak {V X:Type} (rd:V→Option (V ⊕ X)):Nat→V→Option X
 | 0,_=>none
 | n+1,v=>(rd v).bind fun o=>Sum.elim (fun v'=>ak rd n v') (fun x=>some x) o
def uA {V X:Type} (rd:(V→Option X)→V→Option X):Nat→V→Option X
 | 0,_=>none
 | n+1,v=>rd (uA rd n) v
structure Bz (E:Env) (g:FuncId) where
 f:List AV→List GO→Option (Bool × AV × List GO)
 ok:∀ args G r G',f args G=some (true,r,G')→cO E g args G (fun r' Sf=>r'=r∧Sf=G')
structure Tx (E:Env) (g:FuncId) where
 ps:aO
 outs:List RF
 T:ps.T→Option (XT outs)
 ok:∀ x y,T x=some y→xO E g (ps.enc x) outs (fun z=>z=y)
structure fJ where
 D:NU
 G4:FuncId→Option aD
 xS:FuncId→Nat→Option a8
 fz:Bool
 N:Nat
 gt:(g:FuncId)→Option (Bz D.toEnv g):=fun _=>none
 xt:(g:FuncId)→Option (Tx D.toEnv g):=fun _=>none
def qF {α:Type} (fz:Bool) (s:St) (K:St→α):α:=match fz with
 | true=>Fx s K
 | false=>match s with
  | ⟨sl,bx,G,m,ro,n⟩=>K ⟨sl,bx,G,m,ro,n⟩
theorem cK {α:Type} (fz:Bool) (s:St) (K:St→α):qF fz s K=K s:=by
 cases fz
 ·rfl
 ·exact Ix s K
abbrev oP (X:Type):=FuncId→List AV→List GO→(AV→List GO→Option X)→Option X
abbrev lD (X:Type):=Nat→List AV→List GO→(Bool→List GO→Option X)→Option X
section ev
variable {X:Type}
def BA (E:Env) (s:St) (o:Oper):Option (Int × Nat × (Nat→Oper)):=match o.op with
 | .index t x (.tmp y)=>match bS E s.ae (.tmp y),E.ti t with
  | .v (.int k n),some i=>match i.k with
   | .arr len _ _=>some (n,len,fun j=>{ o with op:=.index t x (.const (.int k j)) })
   | _=>none
  | _,_=>none
 | .indexAddr t x (.tmp y)=>match bS E s.ae (.tmp y),E.ti t with
  | .v (.int k n),some i=>match i.k with
   | .arr len _ _=>match bS E s.ae x with
    | .v (.ep _)=>none
    | _=>some (n,len,fun j=>{ o with op:=.indexAddr t x (.const (.int k j)) })
   | _=>none
  | _,_=>none
 | _=>none
def vG (E:Env) (fz:Bool) (f:FuncId) (g:Nat→Oper) (n:Int) (K:St→Option X) (s:St):Nat→Nat→Option X
 | 0,_=>none
 | m+1,j=>bif decide (n=(j:Int)) then (match ar E f s (g j) with
   | some (c,s')=>bif c then qF fz s' K else none
   | _=>none) else vG E fz f g n K s m (j+1)
def Ty (E:Env) (fz:Bool) (call:oP X) (lN:lD X) (f:FuncId) (o:Oper) (K:St→Option X) (s:St):Option X:=
 match o.op with
 | .call { callee:=.value x,args,.. }=>match bS E s.ae x,mC E s.ae args.toList with
  | .v (.fn g first cap),some l=>call g (first++l++cap) s.G (fun r G'=>qF fz ((s.bY G').put o.dst (.v r)) K)
  | .v (.yield id),some l=>lN id l s.G (fun b G'=>qF fz ((s.bY G').put o.dst (.v (.bool b))) K)
  | _,_=>none
 | .defer _=>none
 | .next x true=>match KB s o.dst (bS E s.ae x) with
  | some (b,s1,s2)=>bif b then qF fz s1 K else qF fz s2 K
  | none=>none
 | .lookup t m k ok=>match vB E s t (bS E s.ae m) (bS E s.ae k) with
  | some (c,v,b)=>bif c then qF fz (s.put o.dst (.v (if ok then .bH [v,.bool b] else v))) K else none
  | none=>match ar E f s o with
   | some (c,s')=>bif c then qF fz s' K else none
   | _=>none
 | .mapUpdate t m k x=>match o.dst,vC E s t (bS E s.ae m) (bS E s.ae k) (bS E s.ae x) with
  | none,some (c,s')=>bif c then qF fz s' K else none
  | _,_=>none
 | .insert t m k x=>match o.dst,vC E s t (bS E s.ae m) (bS E s.ae k) (bS E s.ae x) with
  | none,some (c,s')=>bif c then qF fz s' K else none
  | _,_=>none
 | .call { callee:=.builtin .append,args,argTypes }=>match ig E f s o with
  | some (c,s')=>bif c then qF fz s' K else none
  | none=>match mC E s.ae args.toList with
   | some l=>match Bu E s o.dst l argTypes.toList with
    | some (b,s1,c,s2)=>bif b then qF fz s1 K else bif c then qF fz s2 K else none
    | none=>match ar E f s o with
     | some (c,s')=>bif c then qF fz s' K else none
     | _=>none
   | none=>none
 | .call { callee:=.builtin .copy,args,argTypes }=>match mC E s.ae args.toList with
  | some l=>match KD E s o.dst l argTypes.toList with
   | some (c,s')=>bif c then qF fz s' K else none
   | none=>match ar E f s o with
    | some (c,s')=>bif c then qF fz s' K else none
    | _=>none
  | none=>none
 | _=>match BA E s o with
  | some (n,len,g)=>vG E fz f g n K s len 0
  | none=>match ar E f s o with
   | some (c,s')=>bif c then qF fz s' K else none
   | _=>none
def qG (E:Env) (fz:Bool) (call:oP X) (lN:lD X) (f:FuncId) (ops:List Oper) (o:Oper) (K:St→Option X) (s:St):Option X:=
 match o.guard with
 | none=>Ty E fz call lN f o K s
 | some (j,want)=>match oz ops j with
  | none=>none
  | some d=>match lk s.ae d with
   | .v (.bool b)=>match want with
    | true=>bif b then qF fz (s.put (some d) (.v (.bool true))) (Ty E fz call lN f o K) else qF fz ((s.put (some d) (.v (.bool false))).put o.dst (.v gJ)) K
    | false=>bif b then qF fz ((s.put (some d) (.v (.bool true))).put o.dst (.v gJ)) K else qF fz (s.put (some d) (.v (.bool false))) (Ty E fz call lN f o K)
   | .v (.bH [])=>qF fz (s.put o.dst (.v gJ)) K
   | _=>none
def BB (E:Env) (fz:Bool) (call:oP X) (lN:lD X) (f:FuncId) (ops:List Oper) (o:Oper) (K:St→Option X) (s:St):Option X:=
 match o.guard,jk E f s o with
 | none,some s'=>qF fz s' K
 | _,_=>qG E fz call lN f ops o K s
noncomputable def XD {X:Type} (l:List Nat) (F:Nat→Option X):Option X:=match l with
 | []=>none
 | i :: r=>@ite _ (∀ j∈r,F j=F i) (Classical.propDecidable _) (F i) none
theorem IE {X:Type} {l:List Nat} {F:Nat→Option X} {x:X} (h:XD l F=some x):∀ i∈l,F i=some x:=by
 cases l with
 | nil=>cases h
 | cons i r=>
  have h:@ite _ (∀ j∈r,F j=F i) (Classical.propDecidable _) (F i) none=some x:=h
  by_cases hr:∀ j∈r,F j=F i
  ·rw [if_pos hr] at h
   intro j hj
   rcases List.mem_cons.1 hj with rfl | hj
   ·exact h
   ·rw [hr j hj]; exact h
  ·rw [if_neg hr] at h
   cases h
noncomputable def vH (E:Env) (fz:Bool) (call:oP X) (lN:lD X) (f:FuncId) (ops:List Oper) (o:Oper) (K:St→Option X) (s:St):Option X:=
 match o.guard,tX E f s o,ta E s o with
 | none,some (c,s'),_=>bif c then qF fz s' K else none
 | none,none,some (c,s0,left,g)=>bif c then (bif left.isEmpty then qF fz s0 K else XD left fun i=>bif (g i).1 then qF fz (g i).2 K else none) else none
 | _,_,_=>BB E fz call lN f ops o K s
noncomputable def BC (E:Env) (fz:Bool) (call:oP X) (lN:lD X) (f:FuncId) (ops:List Oper) (o:Oper) (K:St→Option X) (s:St):Option X:=
 match HW E f s o with
 | some (c,s')=>bif c then vH E fz call lN f ops o K s' else none
 | none=>vH E fz call lN f ops o K s
noncomputable def N1 (E:Env) (fz:Bool) (call:oP X) (lN:lD X) (f:FuncId) (ops:List Oper):List Oper→(St→Option X)→St→Option X
 | [],K,s=>K s
 | o :: rest,K,s=>BC E fz call lN f ops o (fun s'=>match z6 E f o s' with
  | some s2=>N1 E fz call lN f ops rest K s2
  | none=>none) s
def Tz (E:Env) (f:FuncId) (ops:List Oper) (o:Oper) (s:St):Bool:=match o.op,o.dst with
 | .lookup t m k ok,some d=>match Cb ops s o,vB E s t (bS E s.ae m) (bS E s.ae k) with
  | some true,some (c,v,b)=>c&&Bm (.v (if ok then .bH [v,.bool b] else v)) (lk s.ae d)
  | _,_=>ZL E f ops o s
 | _,_=>ZL E f ops o s
def pC (E:Env) (f:FuncId) (ops:List Oper):List Nat→St→Bool
 | [],_=>true
 | k :: l,s=>(match nth ops k with
  | some ok=>Tz E f ops ok s
  | none=>true)&&pC E f ops l s
def oT (E:Env) (fz:Bool) (call:oP X) (lN:lD X) (eX:Option X→Option X→Option X) (f:FuncId) (ops:List Oper):DT→(St→Option X)→St→Option X
 | .done,K,s=>K s
 | .take j _ t,K,s=>match nth ops j with
  | some oj=>qG E fz call lN f ops oj (oT E fz call lN eX f ops t K) s
  | none=>none
 | .br i re _ t .stop,K,s=>match nth ops i with
  | some oi=>qG E fz call lN f ops oi (fun s'=>bif pC E f ops re s' then oT E fz call lN eX f ops t K s' else none) s
  | none=>none
 | .br i re _ t more,K,s=>eX (match nth ops i with
  | some oi=>qG E fz call lN f ops oi (fun s'=>bif pC E f ops re s' then oT E fz call lN eX f ops t K s' else none) s
  | none=>none) (oT E fz call lN eX f ops more K s)
 | .stop,_,_=>none
end ev
def Aj {X:Type} (N:St→Option X) (Q:Exit→St→Option X):Exit→St→Option X
 | .normal,s=>N s
 | e,s=>Q e s
def KJ {X:Type} (id:Nat) (Q:Exit→St→Option X):Exit→St→Option X
 | .exit jF,s=>bif Nat.beq jF id then Q .normal s else Q (.exit jF) s
 | e,s=>Q e s
def TA {X:Type} (Q:Exit→St→Option X):Exit→St→Option X
 | .goto _,_=>none
 | e,s=>Q e s
def KK {X:Type} (E:Env) (fn:Func) (K:AV→List GO→Option X):Exit→St→Option X
 | .normal,s | .ret,s=>match oB s.marks s.G with
  | some G=>match Ki E (s.bY G) fn with
   | some r=>K r G
   | none=>none
  | none=>none
 | _,_=>none
def uB (s:St) (head:cq) (outs:List (XK × cq)):Exit→St→Option (head.ps.T ⊕ JT outs)
 | .normal,s'=>(head.dec s s').bind fun v=>some (.inl v)
 | e,s'=>(kO s outs e s').bind fun o=>some (.inr o)
noncomputable def Cc {X:Type} (a b:Option X):Option X:=@ite _ (a=b) (Classical.propDecidable _) a none
def uC {X:Type} (eX:Option X→Option X→Option X):Prop:=∀ a b x,eX a b=some x→a=some x∧b=some x
def FJ {X:Type} (id:Nat) (K:Bool→List GO→Option X):Exit→St→Option X:=fun e s=>match nth s.G id with
 | some (.loop _ _ fn sl n ps rZ bd d _)=>match e with
  | .normal=>K true (ap s.G id (.loop false none fn sl n ps rZ bd d false))
  | .ret=>K false (ap s.G id (.loop false (some .ret) fn sl n ps rZ bd d true))
  | .exit i=>K false (ap s.G id (.loop false (some (.exit i)) fn sl n ps rZ bd d true))
  | _=>none
 | _=>none
def ZS (fp:Nat):Nat:=fp % 4096
def fpP (fp:Nat):Nat:=fp / 4096
abbrev Wh:=FuncId→Nat→Code→(X:Type)→(Option X→Option X→Option X)→(Exit→St→Option X)→St→Option X
section
variable (C:fJ) (ih:Wh)
def Di {X:Type} (eX:Option X→Option X→Option X):oP X:=fun g args G K=>
 bif C.D.okF g then match C.D.P.funcs[g]? with
   | some fn=>match fn.body with
    | some b => bif !(fn.name == "runtime.NumGoroutine") then ih g 1 b X eX (KK C.D.toEnv fn (bif C.D.Ch g 131072 then Tt C.D.toEnv (C.D.Ch g 131073) (C.D.Ch g 131074) fn.resultTypes.toList K else K)) (St.init fn.ntmps args G) else none
    | none=>none
   | none=>none
  else none
def Dj {X:Type} (eX:Option X→Option X→Option X):oP X:=fun g args G K=>
 match C.G4 g with
 | some e=>(e.ps.dec args).bind fun x=>(e.T x).bind fun y=>K (e.p.enc y) G
 | none=>match C.gt g with
  | some e=>match e.f args G with
   | some (c,r,G')=>bif c then K r G' else none
   | none=>none
  | none=>match C.xt g with
   | some e=>(e.ps.dec args).bind fun x=>(e.T x).bind fun o=>Wg G K e.outs o
   | none=>Di C ih eX g args G K
def N2 (n:Nat):List Tmp→Bool
 | []=>true
 | t :: l=>Nat.blt t n&&N2 n l
def N3 {X:Type} (eX:Option X→Option X→Option X):lD X:=fun id args G K=>match nth G id with
 | some (.loop false _ fp sl n ps rZ bd _ false)=>
  bif Nat.beq args.length ps.length&&N2 n ps&&bB (C.D.dt (ZS fp)) rZ&&bB (C.D.dt (ZS fp)) bd then
   ih (ZS fp) (2 * fpP fp) rZ X eX (fun e s1=>match e with
    | .normal=>match nth s1.G id with
     | some (.loop false p fn sl n ps rZ Wf d false)=>ih (ZS fp) (2 * fpP fp+1) bd X eX (FJ id K) (s1.bY (ap s1.G id (.loop true p fn sl n ps rZ Wf d false)))
     | _=>none
    | _=>none) (St.round id (xJ ps args sl) n G)
  else none
 | _=>none
noncomputable def xT (f:FuncId) (p:Nat) (c:Code) (X:Type) (eX:Option X→Option X→Option X) (K:Exit→St→Option X) (s:St):Option X:=
 match c with
 | .skip=>K .normal s
 | .label _=>K .normal s
 | .seq x y=>ih f (2 * p) x X eX (Aj (ih f (2 * p+1) y X eX K) K) s
 | .cond c x y=>match bS C.D.toEnv s.ae c with
  | .v (.bool b)=>bif b then ih f (2 * p) x X eX K s else ih f (2 * p+1) y X eX K s
  | _=>none
 | .block id c=>ih f (2 * p) c X eX (KJ id K) s
 | .exit id=>K (.exit id) s
 | .ret=>K .ret s
 | .region _ ops false=>N1 C.D.toEnv C.fz (Dj C ih eX) (N3 C ih eX) f ops.toList ops.toList (K .normal) s
 | .region id ops true=>match C.D.dt f id with
  | some pl=>oT C.D.toEnv C.fz (Dj C ih eX) (N3 C ih eX) eX f ops.toList pl.T (K .normal) s
  | none=>none
 | .scope c=>ih f (2 * p) c X eX (TA K) s
 | .loop c=>ih f (2 * p) c X eX (Aj (ih f p (.loop c) X eX K) K) s
 | .rangeFunc g ps rZ bd=>match s.ro with
  | none=>match bS C.D.toEnv s.ae g with
   | .v (.fn h first cap)=>Dj C ih eX h (first++[.yield (s.G.length+1)]++cap) (s.G++[.defers true]++[.loop false none (4096 * p+f) (gO s.ae) s.n ps.toList rZ bd s.G.length false])
    (fun _ G'=>match nth G' (s.G.length+1) with
     | some (.loop busy pending _ _ _ _ _ _ _ done)=>bif !busy || done then
       match pending with
       | none=>qF C.fz ⟨s.ae,s.boxes,ap G' (s.G.length+1) .dead,s.G.length :: s.marks,s.ro,s.n⟩ (K .normal)
       | some .ret=>qF C.fz ⟨s.ae,s.boxes,ap G' (s.G.length+1) .dead,s.G.length :: s.marks,s.ro,s.n⟩ (K .ret)
       | some (.exit i)=>qF C.fz ⟨s.ae,s.boxes,ap G' (s.G.length+1) .dead,s.G.length :: s.marks,s.ro,s.n⟩ (K (.exit i))
       | _=>none
      else none
     | _=>none)
   | _=>none
  | some _=>none
 | _=>none
def FK:List Oper→List Tmp
 | []=>[]
 | o :: l=>match o.dst with
  | some d=>d :: FK l
  | none=>FK l
def kr:Code→List Tmp→List Tmp
 | .region _ ops _,r=>FK ops.toList++r
 | .seq x y,r=>kr x (kr y r)
 | .cond _ x y,r=>kr x (kr y r)
 | .block _ c,r=>kr c r
 | .scope c,r=>kr c r
 | .loop c,r=>kr c r
 | .rangeFunc _ ps a b,r=>ps.toList++kr a (kr b r)
 | _,r=>r
def xU (W:List Tmp) (t:cq):cq:=⟨t.ps,t.sl,W,t.bx,t.g,t.Wd⟩
def sh (W:List Tmp):List (XK × cq)→List (XK × cq)
 | []=>[]
 | (k,t) :: l=>(k,xU W t) :: sh W l
def KL:Code→Bool
 | .loop _=>true
 | _=>false
noncomputable def XE {X:Type} (f:FuncId) (p:Nat) (c:Code) (outs:List (XK × cq)) (K:Exit→St→Option X) (s:St):Option X:=
 (xT C ih f p c (JT outs) Cc (kO s outs) s).bind fun o=>Nk s outs o K
noncomputable def Sk {X:Type} (f:FuncId) (p:Nat) (b:Code) (s1:St) (head:cq) (outs:List (XK × cq)) (K:Exit→St→Option X):Option X:=
 (head.dec s1 s1).bind fun v0=>(ak (fun v=>ih f (2 * p) b (head.ps.T ⊕ JT outs) Cc (uB s1 head outs) (head.st s1 v)) C.N v0).bind fun o=>Nk s1 outs o K
def KM (s:St) (head:cq) (outs:List (XK × cq)) (k:head.ps.T→Option (JT outs)):Exit→St→Option (JT outs)
 | .normal,s'=>(head.dec s s').bind k
 | e,s'=>kO s outs e s'
noncomputable def KN {X:Type} (f:FuncId) (p:Nat) (b:Code) (s1:St) (head:cq) (outs:List (XK × cq)) (K:Exit→St→Option X):Option X:=
 (head.dec s1 s1).bind fun v0=>(uA (fun k v=>ih f (2 * p) b (JT outs) Cc (KM s1 head outs k) (head.st s1 v)) C.N v0).bind fun o=>Nk s1 outs o K
def KO {X:Type} (eX:Option X→Option X→Option X) (f:FuncId) (K:Exit→St→Option X):List Bool→Nat→Code→St→Option X
 | [],_,_,s=>K .normal s
 | true :: k,q,.seq x y,s=>ih f (2 * q) x X eX (Aj (KO eX f K k (2 * q+1) y) K) s
 | false :: k,q,.seq x _,s=>KO eX f K k (2 * q) x s
 | _ :: _,_,_,_=>none
def N4 {X:Type} (eX:Option X→Option X→Option X) (f:FuncId):List Bool→Nat→Code→(Exit→St→Option X)→St→Option X
 | [],q,c,K,s=>ih f q c X eX K s
 | true :: k,q,.seq _ y,K,s=>N4 eX f k (2 * q+1) y K s
 | false :: k,q,.seq x y,K,s=>N4 eX f k (2 * q) x (Aj (ih f (2 * q+1) y X eX K) K) s
 | _ :: _,_,_,_,_=>none
noncomputable def XF {X:Type} (f:FuncId) (p:Nat) (b:Code) (k:List Bool) (s1:St) (head:cq) (outs:List (XK × cq)) (K:Exit→St→Option X):Option X:=
 ((KO ih Cc f (uB s1 head outs) k (2 * p) b s1).bind fun r0=>
  Sum.elim (fun v0=>ak (fun v=>N4 ih Cc f k (2 * p) b (Aj (KO ih Cc f (uB s1 head outs) k (2 * p) b) (uB s1 head outs)) (head.st s1 v)) C.N v0) (fun x=>some x) r0).bind fun o=>Nk s1 outs o K
noncomputable def xV (f:FuncId) (p:Nat) (c:Code) (X:Type) (eX:Option X→Option X→Option X) (K:Exit→St→Option X) (s:St):Option X:=
 match C.xS f p with
 | none=>xT C ih f p c X eX K s
 | some ct=>match KI s.G.length ct with
  | .join outs=>bif KL c then none else XE C ih f p c (sh (kr c []) outs) K s
  | .loop gh head outs=>match c with
   | .loop b=>match gN gh s with
    | some s1=>Sk C ih f p b s1 (xU (kr b []) head) (sh (kr b []) outs) K
    | none=>none
   | _=>none
  | .rot k gh head outs=>match c with
   | .loop b=>match gN gh s with
    | some s1=>XF C ih f p b k s1 (xU (kr b []) head) (sh (kr b []) outs) K
    | none=>none
   | _=>none
  | .uA gh head outs=>match c with
   | .loop b=>match gN gh s with
    | some s1=>KN C ih f p b s1 (xU (kr b []) head) (sh (kr b []) outs) K
    | none=>none
   | _=>none
  | .ZR _ _ _=>none
end
noncomputable def ev (C:fJ):Nat→Wh:=Nat.rec (fun _ _ _ _ _ _ _=>none) (fun _ ih=>xV C ih)
end Go.Am
namespace Go.Am
open Go
section ext
variable {E:Env} {f:FuncId} {s s':St} {o:Oper}
theorem aS.put (s:St) (d:Option Tmp) (x:SV):aS s (s.put d x):=by
 cases d with
 | none=>exact aS.refl s
 | some d=>
  simp only [St.put]
  split
  ·exact ⟨⟨[_],rfl⟩,⟨[],rfl⟩,rfl⟩
  ·exact aS.refl s
theorem aS.bY (s:St) (G:List GO):aS s (s.bY G):=⟨⟨[],rfl⟩,⟨[],rfl⟩,rfl⟩
theorem aS.dP (s:St) (o:GO):aS s (s.dP o):=⟨⟨[],rfl⟩,⟨[],rfl⟩,rfl⟩
theorem aS.yZ (s:St) (d:Nat) (cs:List AV):aS s (s.yZ d cs):=⟨⟨[],rfl⟩,⟨[_],rfl⟩,rfl⟩
theorem aS.kill (s:St) (d:Nat):aS s (s.kill d):=⟨⟨[_],rfl⟩,⟨[],rfl⟩,rfl⟩
theorem IF {c:Bool} {s':St} (h:ig E f s o=some (c,s')):aS s s':=by
 unfold ig at h
 repeat' (split at h)
 all_goals (first | (cases h; done) | skip)
 all_goals (injection h with h; injection h with _ h; subst h; exact (aS.bY _ _).trans (aS.put _ _ _))
theorem FL {c:Bool} (h:ar E f s o=some (c,s')):aS s s':=by
 have alloc:∀ {el:TypeId} {cs:List AV} {c:Bool} {s':St},iI E f s o.dst el cs=some (c,s')→aS s s':=by
  intro el cs c s' h
  unfold iI at h
  repeat' (split at h)
  all_goals (first | (cases h; done) | skip)
  ·injection h with h; injection h with _ h; subst h; exact (aS.dP _ _).trans (aS.put _ _ _)
  ·injection h with h; injection h with _ h; subst h; exact ((aS.kill _ _).trans (aS.yZ _ _ _)).trans (aS.put _ _ _)
 have store:∀ {t:TypeId} {p x:SV} {s':St},lh E s t p x=some s'→aS s s':=by
  intro t p x s' h
  unfold lh at h
  repeat' (split at h)
  all_goals (first | (cases h; done) | skip)
  all_goals (injection h with h; subst h)
  ·exact aS.yZ _ _ _
  ·exact aS.bY _ _
 have Fh:∀ {t:TypeId} {p x:SV} {c:Bool} {s':St},li E s t p x=some (c,s')→aS s s':=by
  intro t p x c s' h
  unfold li at h
  repeat' (split at h)
  all_goals (first | (cases h; done) | skip)
  all_goals (injection h with h; injection h with _ h; subst h)
  all_goals (first | exact aS.bY _ _ | exact store (by assumption))
 have blt:∀ {b:Builtin} {l:List AV} {tys:List TypeId} {c:Bool} {s':St},bZ E s o.dst b l tys=some (c,s')→aS s s':=by
  intro b l tys c s' h
  unfold bZ at h
  repeat' (split at h)
  all_goals (first | (cases h; done) | skip)
  all_goals (injection h with h; injection h with _ h; subst h)
  all_goals (first | exact aS.put _ _ _ | exact (aS.bY _ _).trans (aS.put _ _ _) | exact aS.bY _ _)
 have update:∀ {t:TypeId} {m k x:SV} {s':St},fR E s t m k x=some s'→aS s s':=by
  intro t m k x s' h
  unfold fR at h
  repeat' (split at h)
  all_goals (first | (cases h; done) | skip)
  all_goals (injection h with h; subst h; exact aS.bY _ _)
 have next:∀ {x:SV} {s':St},nG s o.dst x=some s'→aS s s':=by
  intro x s' h
  unfold nG at h
  split at h
  ·split at h
   ·rename_i l pos hg
    cases hb:Nat.blt pos l.length <;> rw [hb] at h <;> simp only [cond_true,cond_false] at h <;> cases h
    ·exact aS.put _ _ _
    ·exact (aS.bY _ _).trans (aS.put _ _ _)
   ·cases h
  ·cases h
 have Fi:∀ {t:TypeId} {m k:SV} {c:Bool} {v:AV} {s':St},gS E s t m k=some (c,v,s')→aS s s':=by
  intro t m k c v s' h
  unfold gS at h
  repeat' (split at h)
  all_goals (first | (cases h; done) | skip)
  all_goals (injection h with h; injection h with _ h; injection h with _ h; subst h; exact aS.bY _ _)
 have Fj:∀ {m st x:SV} {c:Bool} {s':St},eM s m st x=some (c,s')→aS s s':=by
  intro m st x c s' h
  unfold eM at h
  repeat' (split at h)
  all_goals (first | (cases h; done) | skip)
  all_goals (injection h with h; injection h with _ h; subst h; exact aS.bY _ _)
 unfold ar at h
 repeat' (split at h)
 all_goals (first | (cases h; done) | exact alloc h | exact blt h | (rename_i hf; cases h; exact IF hf) | skip)
 all_goals (injection h with h; injection h with _ h; subst h)
 all_goals (first | exact aS.put _ _ _ | exact (aS.dP _ _).trans (aS.put _ _ _) | skip)
 all_goals (first | exact Fh (by assumption) | exact update (by assumption) | exact (Fi (by assumption)).trans (aS.put _ _ _) | exact Fj (by assumption) | exact next (by assumption))
theorem cO.fx {g:FuncId} {args Sl:List AV} {G:List GO} {Q:AV→List GO→Prop} (hw:cr args Sl) (h:cO E g Sl G Q):cO E g args G Q:=
 ⟨h.1,fun R w cs hg hl=>h.2 R w cs hg (hw.rel hl)⟩
theorem Dk {K:St→Prop} (h:nf E f o K s):nf E f o (fun s'=>K s'∧aS s s') s:=by
 unfold nf at *
 split
 ·rename_i x args tys ho
  rw [ho] at h
  simp only at h
  split at h
  ·exact h.mono fun r G' hk=>⟨hk,(aS.bY _ _).trans (aS.put _ _ _)⟩
  ·exact h.mono fun r G' hk=>⟨hk,(aS.bY _ _).trans (aS.put _ _ _)⟩
  ·exact h
 ·rename_i ho
  rw [ho] at h
  exact h
 ·rename_i nc nd
  split at h
  ·rename_i ho
   exact absurd ho (nc _ _ _)
  ·exact h.elim
  ·split at h
   ·rename_i c s' hs
    obtain ⟨hc,hk⟩:=h.out
    exact dD.mk hc ⟨hk,FL hs⟩
   ·exact h.elim
theorem oQ {K:St→Prop} {ops:List Oper} (h:cB E f ops o K s):cB E f ops o (fun s'=>K s'∧aS s s') s:=by
 unfold cB at *
 split
 ·rename_i hg
  rw [hg] at h
  exact Dk h
 ·rename_i j want hg
  rw [hg] at h
  simp only at h
  split
  ·rename_i hd
   rw [hd] at h
   exact h
  ·rename_i d hd
   rw [hd] at h
   simp only at h
   split
   ·rename_i b hb
    rw [hb] at h
    simp only at h
    refine ⟨fun e=>?_,fun e=>⟨h.2 e,(aS.put _ _ _).trans (aS.put _ _ _)⟩⟩
    exact tx (Dk (h.1 e)) fun s' hh=>⟨hh.1,(aS.put _ _ _).trans hh.2⟩
   ·rename_i hb
    rw [hb] at h
    exact ⟨h,aS.put _ _ _⟩
   ·rename_i hb kT
    split at h
    ·rename_i b Jq
     exact absurd Jq (hb b)
    ·rename_i Jq
     exact absurd Jq kT
    ·exact h
theorem zr {K K':St→Prop} {ops:List Oper} (h:fG E f ops o K s) (hK:∀ s,K s→K' s):fG E f ops o K' s:=by
 unfold fG at *
 split
 ·rename_i s' h1 h2
  rw [h1,h2] at h
  exact hK _ h
 ·rename_i hn
  split at h
  ·rename_i s' h1 h2
   exact absurd h2 (hn s' h1)
  ·exact cT h hK
theorem vc {s':St} (h:jk E f s o=some s'):aS s s':=by
 unfold jk at h
 repeat' (split at h)
 all_goals (first | (cases h; done) | skip)
 all_goals (injection h with h; subst h; exact (aS.dP _ _).trans (aS.put _ _ _))
theorem BD {K:St→Prop} {ops:List Oper} (h:fG E f ops o K s):fG E f ops o (fun s'=>K s'∧aS s s') s:=by
 unfold fG at *
 split
 ·rename_i s' h1 h2
  rw [h1,h2] at h
  exact ⟨h,vc h2⟩
 ·rename_i hn
  split at h
  ·rename_i s' h1 h2
   exact absurd h2 (hn s' h1)
  ·exact oQ h
theorem lE {K K':St→Prop} {ops:List Oper} (h:e7 E f ops o K s) (hK:∀ s,K s→K' s):e7 E f ops o K' s:=by
 unfold e7 at *
 split at h
 ·obtain ⟨h1,h2⟩:=h.out
  exact dD.mk h1 (hK _ h2)
 ·obtain ⟨h1,h2,h3⟩:=h.out
  exact dD.mk h1 ⟨fun e=>hK _ (h2 e),fun i hi=>let ⟨k1,k2⟩:=(h3 i hi).out; dD.mk k1 (hK _ k2)⟩
 ·exact zr h hK
theorem IG {c:Bool} {s':St} (h:tX E f s o=some (c,s')):aS s s':=by
 unfold tX at h
 repeat' (split at h)
 all_goals (first | (cases h; done) | skip)
 all_goals (injection h with h; injection h with _ h; subst h; exact (aS.bY _ _).trans (aS.put _ _ _))
theorem FM {c:Bool} {s0:St} {left:List Nat} {g:Nat→Bool × St} (h:ta E s o=some (c,s0,left,g)):aS s s0∧∀ i,aS s (g i).2:=by
 unfold ta at h
 split at h
 ·unfold zH at h
  split at h
  ·split at h
   ·split at h
    ·cases h
     exact ⟨aS.put _ _ _,fun i=>(aS.bY _ _).trans (aS.put _ _ _)⟩
    ·cases h
   ·cases h
  ·cases h
 ·cases h
theorem si {K:St→Prop} {ops:List Oper} (h:e7 E f ops o K s):e7 E f ops o (fun s'=>K s'∧aS s s') s:=by
 unfold e7 at *
 split at h
 ·rename_i hb
  obtain ⟨h1,h2⟩:=h.out
  exact dD.mk h1 ⟨h2,IG hb⟩
 ·rename_i hb
  obtain ⟨h1,h2,h3⟩:=h.out
  obtain ⟨k1,k2⟩:=FM hb
  exact dD.mk h1 ⟨fun e=>⟨h2 e,k1⟩,fun i hi=>let ⟨q1,q2⟩:=(h3 i hi).out; dD.mk q1 ⟨q2,k2 i⟩⟩
 ·exact BD h
theorem lF {K K':St→Prop} {ops:List Oper} (h:e8 E f ops o K s) (hK:∀ s,K s→K' s):e8 E f ops o K' s:=by
 unfold e8 at *
 split at h
 ·exact ⟨h.1,lE h.2 hK⟩
 ·exact lE h hK
theorem gZ {cut wk:Bool}:∀ {l:List Operand} {s s':St} {c:Bool},gC cut wk l s=(c,s')→aS s s'
 | [],s,s',c,h=>by
  simp only [gC] at h
  cases h
  exact aS.refl _
 | .tmp t :: l,s,s',c,h=>by
  unfold gC at h
  split at h
  ·rename_i c1 s1 h1
   cases h2:gC cut wk l s1 with
   | mk c2 s2=>
   rw [h2] at h
   simp only [Prod.mk.injEq] at h
   obtain ⟨_,rfl⟩:=h
   exact (ow h1).trans (gZ h2)
  ·exact gZ h
 | .const _ :: l,s,s',c,h=>gZ (l:=l) h
 | .global _ :: l,s,s',c,h=>gZ (l:=l) h
 | .func _ :: l,s,s',c,h=>gZ (l:=l) h
theorem KP {s s':St} {o:Oper} {c:Bool} (h:HW E f s o=some (c,s')):aS s s':=by
 unfold HW at h
 split at h
 ·split at h
  ·injection h with h
   exact gZ h
  ·cases h
 ·cases h
theorem BE {K:St→Prop} {ops:List Oper} (h:e8 E f ops o K s):e8 E f ops o (fun s'=>K s'∧aS s s') s:=by
 unfold e8 at *
 split at h
 ·rename_i c s' hz
  exact ⟨h.1,lE (si h.2) fun s2 h2=>⟨h2.1,(KP hz).trans h2.2⟩⟩
 ·exact si h
theorem xW {s s':St} {l:Loc} {sz:Nat} {e:TypeId} (h:ou s l sz e=some s'):aS s s':=by
 unfold ou at h
 cases Ff:Nat.ble 196608 sz with
 | true=>rw [Ff] at h; cases h; exact aS.dP _ _
 | false=>
 rw [Ff] at h
 cases l with
 | slot t=>
  simp only at h
  split at h
  ·cases h; exact ⟨⟨[_],rfl⟩,⟨[],rfl⟩,rfl⟩
  ·cases h
 | box k i=>
  simp only at h
  split at h
  ·split at h
   ·cases h; exact ⟨⟨[],rfl⟩,⟨[_],rfl⟩,rfl⟩
   ·cases h
  ·cases h
 | row id i=>
  simp only at h
  split at h
  ·split at h
   ·cases h; exact ⟨⟨[],rfl⟩,⟨[],rfl⟩,rfl⟩
   ·cases h
  ·cases h
theorem nr:∀ {l:List (Loc × Nat × TypeId)} {s s':St},gN l s=some s'→aS s s'
 | [],s,s',h=>by
  simp only [gN] at h
  cases h
  exact aS.refl _
 | (l,sz,e) :: r,s,s',h=>by
  unfold gN at h
  split at h
  ·rename_i s1 h1
   exact (xW h1).trans (nr h)
  ·cases h
theorem oR:∀ {l:List (Loc × Nat × TypeId)} {s:St},aS s (ji l s)
 | [],s=>aS.refl _
 | (l,sz,e) :: r,s=>by
  unfold ji
  split
  ·rename_i s1 h1
   exact (xW h1).trans oR
  ·exact oR
theorem IH {s s':St} {o:Oper} (h:z6 E f o s=some s'):aS s s':=by
 unfold z6 at h
 split at h
 ·cases h; exact aS.refl _
 ·split at h
  ·split at h
   ·rename_i hz
    cases h
    exact ow hz
   ·cases h
  ·split at h
   ·cases h; exact aS.refl _
   ·split at h
    ·cases h; exact oR
    ·cases h
theorem xX {K K':St→Prop} {ops:List Oper} (hK:∀ s,K s→K' s):∀ {l:List Oper} {s:St},oA E f ops l K s→oA E f ops l K' s
 | [],s,h=>hK s h
 | _ :: _,_,h=>lF h fun s' h'=>by
  unfold z8 at *
  split at h'
  ·exact xX hK h'
  ·exact h'.elim
theorem Dl {K K':St→Prop} {ops:List Oper} (hK:∀ s,K s→K' s) {T:DT} {s:St} (h:xj E f ops T K s):xj E f ops T K' s:=
 gy (ops:=⟨ops⟩) hK T s h
theorem Ak {K:St→Prop} {ops:List Oper}:∀ {l:List Oper} {s:St},oA E f ops l K s→oA E f ops l (fun s'=>K s'∧aS s s') s
 | [],s,h=>⟨h,aS.refl s⟩
 | o :: l,s,h=>by
  simp only [oA] at *
  refine lF (BE h) fun s' hh=>?_
  obtain ⟨h1,h2⟩:=hh
  unfold z8 at *
  split at h1
  ·rename_i s2 hp
   exact xX (fun s3 h3=>⟨h3.1,(h2.trans (IH hp)).trans h3.2⟩) (Ak h1)
  ·exact h1.elim
theorem vI {K:St→Prop} {ops:List Oper}:∀ {T:DT} {s:St},xj E f ops T K s→xj E f ops T (fun s'=>K s'∧aS s s') s
 | .done,s,h=>⟨h,aS.refl s⟩
 | .stop,_,_=>trivial
 | .take j C T,s,h=>by
  unfold xj at h ⊢
  split
  ·rename_i oj hj
   rw [hj] at h
   exact cT (oQ h) fun s' hh=>Dl (fun s2 h2=>⟨h2.1,hh.2.trans h2.2⟩) (vI hh.1)
  ·rename_i hj
   rw [hj] at h
   exact h
 | .br i re C T more,s,h=>by
  unfold xj at h ⊢
  refine ⟨?_,vI h.2⟩
  have h:=h.1
  split
  ·rename_i oj hj
   rw [hj] at h
   exact cT (oQ h) fun s' hh=>⟨hh.1.1,Dl (fun s2 h2=>⟨h2.1,hh.2.trans h2.2⟩) (vI hh.1.2)⟩
  ·rename_i hj
   rw [hj] at h
   exact h
end ext
def lG (E:Env) (c:Code) (Q:Exit→St→Prop) (s:St):Prop:=fF E c (fun e s'=>Q e s'∧aS s s') s
section sound
variable {E:Env} {f:FuncId} {s:St} {X:Type} {fz:Bool} {call:oP X} {lN:lD X} {eX:Option X→Option X→Option X} {x:X}
def nt (E:Env) (call:oP X):Prop:=∀ g args G K x,call g args G K=some x→cO E g args G (fun r G'=>K r G'=some x)
def uD (E:Env) (lN:lD X):Prop:=∀ id args G K x,lN id args G K=some x→lA E id args G (fun b G'=>K b G'=some x)
theorem bq {α:Type} {c:Bool} {a:Option α} {x:α} (h:(bif c then a else none)=some x):c=true∧a=some x:=by
 cases c
 ·cases h
 ·exact ⟨rfl,h⟩
theorem bind_some {α β:Type} {a:Option α} {k:α→Option β} {x:β} (h:a.bind k=some x):∃ y,a=some y∧k y=some x:=by
 cases a with
 | none=>cases h
 | some y=>exact ⟨y,rfl,h⟩
theorem II {o:Oper} {n:Int} {len:Nat} {g:Nat→Oper} (h:BA E s o=some (n,len,g)) {j:Nat} (hj:n=(j:Int)):ar E f s (g j)=ar E f s o:=by
 subst hj
 unfold BA at h
 have V1:∀ k:IntKind,bS E s.ae (.const (.int k (j:Int)))=.v (.int k j):=fun k=>rfl
 split at h
 ·rename_i t x y ho
  split at h
  ·rename_i k n i h1 h2
   split at h
   ·injection h with h; injection h with e1 h; injection h with e2 h
    subst h; subst e1
    simp only [ar,ho,V1,h1]
   ·cases h
  ·cases h
 ·rename_i t x y ho
  split at h
  ·rename_i k n i h1 h2
   split at h
   ·split at h
    ·cases h
    ·injection h with h; injection h with e1 h; injection h with e2 h
     subst h; subst e1
     simp only [ar,ho,V1,h1]
   ·cases h
  ·cases h
 ·cases h
theorem qd {o:Oper} {n:Int} {len:Nat} {g:Nat→Oper} (hi:BA E s o=some (n,len,g)) {K:St→Option X}:∀ (m j:Nat),vG E fz f g n K s m j=some x→∃ c s',ar E f s o=some (c,s')∧c=true∧K s'=some x
 | 0,_,h=>by cases h
 | m+1,j,h=>by
  unfold vG at h
  by_cases hn:n=(j:Int)
  ·rw [decide_eq_true hn,cond_true,II hi hn] at h
   split at h
   ·rename_i c s' hs
    obtain ⟨h1,h2⟩:=bq h
    rw [cK] at h2
    exact ⟨c,s',hs,h1,h2⟩
   ·cases h
  ·rw [decide_eq_false hn,cond_false] at h
   exact qd hi m (j+1) h
theorem xY {ops:List Oper} {o:Oper} (h:Tz E f ops o s=true):Fs E f ops o s:=by
 unfold Tz at h
 split at h
 ·rename_i t m k ok d ho hd
  split at h
  ·rename_i c v b hg hs
   rw [Bool.and_eq_true] at h
   obtain ⟨rfl,h⟩:=h
   have hn:=se hs
   unfold Fs
   rw [hg]
   simp only
   have e:ar E f s o=some (true,s.put o.dst (.v (if ok then .bH [v,.bool b] else v))):=by simp only [ar,ho,hn]
   rw [hd] at e
   rw [hd,e]
   refine ⟨rfl,?_⟩
   unfold St.put
   simp only
   split
   ·rw [ba]
    exact Af h
   ·rfl
  ·exact Ag h
 ·exact Ag h
theorem qe {ops:List Oper}:∀ {l:List Nat} {s:St},pC E f ops l s=true→Ad E f ops l s
 | [],_,_=>trivial
 | k :: l,s,h=>by
  unfold pC at h
  unfold Ad
  rw [Bool.and_eq_true] at h
  refine ⟨?_,qe h.2⟩
  have h:=h.1
  split at h
  ·rename_i hk
   first
    | exact xY h
    | rw [hk]; exact xY h
  ·rename_i hk
   first
    | trivial
    | rw [hk]; trivial
theorem tF (hc:nt E call) (hr:uD E lN) {o:Oper} {K:St→Option X} (h:Ty E fz call lN f o K s=some x):nf E f o (fun s=>K s=some x) s:=by
 unfold nf
 split
 ·rename_i y args tys ho
  unfold Ty at h
  rw [ho] at h
  simp only at h
  split at h
  ·rename_i h1 h2
   rw [h1,h2]
   refine (hc _ _ _ _ _ h).mono fun r G' hk=>?_
   rw [cK] at hk
   exact hk
  ·rename_i h1 h2
   rw [h1,h2]
   refine (hr _ _ _ _ _ h).mono fun r G' hk=>?_
   rw [cK] at hk
   exact hk
  ·cases h
 ·rename_i ho
  unfold Ty at h
  rw [ho] at h
  cases h
 ·rename_i nc nd
  unfold Ty at h
  split at h
  ·rename_i ho
   exact absurd ho (nc _ _ _)
  ·cases h
  ·rename_i y ho
   split at h
   ·rename_i b s1 s2 hs
    have hn:=FF hs
    have e:ar E f s o=some (true,bif b then s1 else s2):=by simp only [ar,ho,hn]
    rw [e]
    refine dD.mk rfl ?_
    rw [cK,cK] at h
    cases b <;> exact h
   ·cases h
  ·rename_i t m k ok ho
   split at h
   ·rename_i c v b hs
    obtain ⟨h1,h2⟩:=bq h
    subst h1
    rw [cK] at h2
    have hn:=se hs
    have e:ar E f s o=some (true,s.put o.dst (.v (if ok then .bH [v,.bool b] else v))):=by simp only [ar,ho,hn]
    rw [e]
    exact dD.mk rfl h2
   ·split at h
    ·rename_i c s' hs
     obtain ⟨h1,h2⟩:=bq h
     rw [cK] at h2
     rw [hs]
     exact dD.mk h1 h2
    ·cases h
  ·rename_i t m k z ho
   split at h
   ·rename_i c s' hd hs
    obtain ⟨h1,h2⟩:=bq h
    subst h1
    rw [cK] at h2
    have hn:=sf hs
    have e:ar E f s o=some (true,s'):=by simp only [ar,ho,hd,hn]
    rw [e]
    exact dD.mk rfl h2
   ·cases h
  ·rename_i t m k z ho
   split at h
   ·rename_i c s' hd hs
    obtain ⟨h1,h2⟩:=bq h
    subst h1
    rw [cK] at h2
    have hn:=sf hs
    have e:ar E f s o=some (true,s'):=by simp only [ar,ho,hd,hn]
    rw [e]
    exact dD.mk rfl h2
   ·cases h
  ·rename_i args tys ho
   split at h
   ·rename_i c s' hf
    obtain ⟨h1,h2⟩:=bq h
    rw [cK] at h2
    have e:ar E f s o=some (c,s'):=by simp only [ar,ho,hf]
    rw [e]
    exact dD.mk h1 h2
   ·rename_i hf
    split at h
    ·rename_i l hl
     split at h
     ·rename_i b s1 c s2 hs
      have Em:b=false→c=true:=fun e=>by subst e; exact (bq (show (bif c then qF fz s2 K else none)=some x from h)).1
      have hn:=Bw hs Em
      have e:ar E f s o=some (true,bif b then s1 else s2):=by simp only [ar,ho,hf,hl,hn]
      rw [e]
      refine dD.mk rfl ?_
      cases b with
      | true=>
       show K s1=some x
       rw [← cK fz s1 K]
       exact h
      | false=>
       obtain ⟨h1,h2⟩:=bq (show (bif c then qF fz s2 K else none)=some x from h)
       rw [cK] at h2
       exact h2
     ·split at h
      ·rename_i c s' hs
       obtain ⟨h1,h2⟩:=bq h
       rw [cK] at h2
       rw [hs]
       exact dD.mk h1 h2
      ·cases h
    ·cases h
  ·rename_i args tys ho
   split at h
   ·rename_i l hl
    split at h
    ·rename_i c s' hs
     obtain ⟨h1,h2⟩:=bq h
     subst h1
     rw [cK] at h2
     have hn:=FG hs
     have hf:ig E f s o=none:=by
      cases hf:ig E f s o with
      | none=>rfl
      | some r=>
       obtain ⟨_,_,h2⟩:=ng hf
       rw [ho] at h2
       cases h2
     have e:ar E f s o=some (true,s'):=by simp only [ar,ho,hf,hl,hn]
     rw [e]
     exact dD.mk rfl h2
    ·split at h
     ·rename_i c s' hs
      obtain ⟨h1,h2⟩:=bq h
      rw [cK] at h2
      rw [hs]
      exact dD.mk h1 h2
     ·cases h
   ·cases h
  ·split at h
   ·rename_i n len g hi
    obtain ⟨c,s',hs,h1,h2⟩:=qd hi _ _ h
    rw [hs]
    exact dD.mk h1 h2
   ·split at h
    ·rename_i c s' hs
     obtain ⟨h1,h2⟩:=bq h
     rw [cK] at h2
     rw [hs]
     exact dD.mk h1 h2
    ·cases h
theorem nu (hc:nt E call) (hr:uD E lN) {ops:List Oper} {o:Oper} {K:St→Option X} (h:qG E fz call lN f ops o K s=some x):cB E f ops o (fun s=>K s=some x) s:=by
 unfold qG at h
 unfold cB
 split at h
 ·rename_i hg
  rw [hg]
  exact tF hc hr h
 ·rename_i j want hg
  rw [hg]
  simp only
  split at h
  ·cases h
  ·rename_i d hd
   rw [hd]
   simp only
   split at h
   ·rename_i b hb
    rw [hb]
    simp only
    cases want with
    | true=>
     simp only at h
     rw [cK,cK] at h
     refine ⟨fun e=>?_,fun e=>?_⟩
     ·subst e
      exact tF hc hr h
     ·have e:b=false:=by simpa using e
      subst e
      exact h
    | false=>
     simp only at h
     rw [cK,cK] at h
     refine ⟨fun e=>?_,fun e=>?_⟩
     ·subst e
      exact tF hc hr h
     ·have e:b=true:=by simpa using e
      subst e
      exact h
   ·rename_i hb
    rw [hb]
    rw [cK] at h
    exact h
   ·cases h
theorem zs (hc:nt E call) (hr:uD E lN) {ops:List Oper} {o:Oper} {K:St→Option X} (h:BB E fz call lN f ops o K s=some x):fG E f ops o (fun s=>K s=some x) s:=by
 unfold BB at h
 unfold fG
 split at h
 ·rename_i s' h1 h2
  rw [h1,h2]
  rw [cK] at h
  exact h
 ·rename_i hn
  split
  ·rename_i s' h1 h2
   exact absurd h2 (hn s' h1)
  ·exact nu hc hr h
theorem qf (hc:nt E call) (hr:uD E lN) {ops:List Oper} {o:Oper} {K:St→Option X} (h:vH E fz call lN f ops o K s=some x):e7 E f ops o (fun s=>K s=some x) s:=by
 unfold vH at h
 unfold e7
 split at h
 ·rename_i c s' h1 h2
  rw [h1,h2]
  obtain ⟨q1,q2⟩:=bq h
  rw [cK] at q2
  exact dD.mk q1 q2
 ·rename_i c s0 left g h1 h2 h3
  rw [h1,h2,h3]
  obtain ⟨q1,q2⟩:=bq h
  refine dD.mk q1 ?_
  cases left with
  | nil=>
   simp only [List.isEmpty_nil,cond_true,cK] at q2
   exact ⟨fun _=>q2,fun i hi=>by simp at hi⟩
  | cons i0 l=>
   simp only [List.isEmpty_cons,cond_false] at q2
   refine ⟨fun e=>(by cases e),fun i hi=>?_⟩
   obtain ⟨r1,r2⟩:=bq (IE q2 i hi)
   rw [cK] at r2
   exact dD.mk r1 r2
 ·rename_i Gu ZT
  split
  ·rename_i c s' h1 h2
   first
    | exact absurd h2 (Gu c s' h1)
    | exact absurd h2 (ZT c s' h1)
  ·rename_i c s0 left g h1 h2 h3
   first
    | exact absurd h3 (ZT c s0 left g h1 h2)
    | exact absurd h3 (Gu c s0 left g h1 h2)
  ·exact zs hc hr h
theorem zt (hc:nt E call) (hr:uD E lN) {ops:List Oper} {o:Oper} {K:St→Option X} (h:BC E fz call lN f ops o K s=some x):e8 E f ops o (fun s=>K s=some x) s:=by
 unfold BC at h
 unfold e8
 split at h
 ·rename_i c s' hz
  rw [hz]
  obtain ⟨h1,h2⟩:=bq h
  exact ⟨h1,qf hc hr h2⟩
 ·rename_i hz
  rw [hz]
  exact qf hc hr h
theorem xZ (hc:nt E call) (hr:uD E lN) {ops:List Oper}:∀ {l:List Oper} {K:St→Option X} {s:St},N1 E fz call lN f ops l K s=some x→oA E f ops l (fun s=>K s=some x) s
 | [],_,_,h=>h
 | o :: l,K,s,h=>by
  unfold N1 at h
  unfold oA
  refine lF (zt hc hr h) fun s' h'=>?_
  unfold z8
  split at h'
  ·rename_i s2 hp
   rw [hp]
   exact xZ hc hr h'
  ·cases h'
theorem mh (hc:nt E call) (hr:uD E lN) (hm:uC eX) {ops:List Oper}:∀ {T:DT} {K:St→Option X} {s:St} {x:X},oT E fz call lN eX f ops T K s=some x→xj E f ops T (fun s=>K s=some x) s
 | .done,_,_,_,h=>h
 | .stop,_,_,_,_=>trivial
 | .take j C T,K,s,x,h=>by
  unfold oT at h
  unfold xj
  split at h
  ·rename_i hk
   rw [hk]
   exact cT (nu hc hr h) fun s' h'=>mh hc hr hm h'
  ·cases h
 | .br i re C T more,K,s,x,h=>by
  have first:∀ {x:X},(match nth ops i with
   | some oi=>qG E fz call lN f ops oi (fun s'=>bif pC E f ops re s' then oT E fz call lN eX f ops T K s' else none) s
   | none=>none)=some x→(match nth ops i with
   | some oi=>cB E f ops oi (fun s'=>Ad E f ops re s'∧xj E f ops T (fun s=>K s=some x) s') s
   | none=>False):=by
   intro x h
   split at h
   ·rename_i hk
    refine cT (nu hc hr h) fun s' h'=>?_
    obtain ⟨h1,h2⟩:=bq h'
    exact ⟨qe h1,mh hc hr hm h2⟩
   ·cases h
  unfold xj
  cases more with
  | stop=>exact ⟨first h,trivial⟩
  | done=>obtain ⟨h1,h2⟩:=hm _ _ _ h; exact ⟨first h1,mh (T:=.done) hc hr hm h2⟩
  | take a b c=>obtain ⟨h1,h2⟩:=hm _ _ _ h; exact ⟨first h1,mh hc hr hm h2⟩
  | br a b c d e=>obtain ⟨h1,h2⟩:=hm _ _ _ h; exact ⟨first h1,mh hc hr hm h2⟩
end sound
end Go.Am
