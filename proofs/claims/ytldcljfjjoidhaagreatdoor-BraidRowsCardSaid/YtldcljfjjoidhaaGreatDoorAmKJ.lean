/- The abstract machine: maps and ranges over strings on values with leaves. -/
import Derived.Test.YtldcljfjjoidhaaGreatDoorAmKI
set_option linter.all false
namespace Go.Am
open Go
def JF (s:St) (dst:Option Tmp) (x:SV):Option (Bool × St × St):=match x with
 | .v (.ptr id 0)=>match nth s.G id with
  | some (.gB l pos)=>some (Nat.blt pos l.length,(s.bW (aD s.G id (.gB l (pos+(oQ l pos).2)))).put dst (.v (.bh [.bool true,.int .i64 pos,.int .i32 (oQ l pos).1])),s.put dst (.v (.bh [.bool false])))
  | _=>none
 | _=>none
theorem EQ {s:St} {dst:Option Tmp} {x:SV} {b:Bool} {s1 s2:St} (h:JF s dst x=some (b,s1,s2)):lq s dst x=some (bif b then s1 else s2):=by
 unfold JF at h
 split at h
 ·split at h
  ·rename_i l pos hg
   cases h
   simp only [lq,hg]
   cases Nat.blt pos l.length <;> rfl
  ·cases h
 ·cases h
theorem F4 {e:EK} {k:AV}:∀ {es:List (AV × AV)},dZ e k es=true→iP e k es=some (fj e k es)
 | [],_=>rfl
 | (k',v) :: l,h=>by
  simp only [dZ,Bool.and_eq_true] at h
  obtain ⟨b,hb⟩:=Option.isSome_iff_exists.1 h.1
  simp only [iP,fj,uX,hb]
  cases b
  ·simp only [cond_false]; exact F4 h.2
  ·rfl
theorem JG {e:EK} {k v:AV}:∀ {es:List (AV × AV)},dZ e k es=true→sH e k v es=some (eN e k v es)
 | [],_=>rfl
 | (k',v') :: l,h=>by
  simp only [dZ,Bool.and_eq_true] at h
  obtain ⟨b,hb⟩:=Option.isSome_iff_exists.1 h.1
  simp only [sH,eN,uX,hb]
  cases b
  ·simp only [cond_false,JG h.2]
  ·rfl
mutual
def aO.flat:aO→Bool
 | .int _=>true
 | .bool=>true
 | .str=>true
 | .agg ps=>ps.flat
 | .bf _ _ p=>p.flat
 | _=>false
def aP.flat:aP→Bool
 | .nil=>true
 | .cons p ps=>p.flat&&ps.flat
end
theorem CI {α:Type} {f:AV→Bool} {d:AV→α} {g:α→AV} (h:∀ a,f a=true→g (d a)=a):∀ {es:List AV},allFit f es=true→(es.map d).map g=es
 | [],_=>rfl
 | a :: l,hl=>by
  simp only [allFit,Bool.and_eq_true] at hl
  rw [List.map_cons,List.map_cons,h a hl.1,CI h hl.2]
mutual
theorem aO.jt:∀ {p:aO},p.flat=true→∀ {a:AV},p.fits a=true→p.enc (p.bo a)=a
 | .int k,_,a,h=>by
  cases a <;> first | (cases h; done) | skip
  have hk:RW _ _=true:=h
  rw [DM hk]; rfl
 | .bool,_,a,h=>by cases a <;> first | (cases h; done) | rfl
 | .str,_,a,h=>by cases a <;> first | (cases h; done) | rfl
 | .agg ps,hp,a,h=>by
  cases a <;> first | (cases h; done) | skip
  exact congrArg AV.agg (aP.jt (ps:=ps) hp h)
 | .bh _,hp,_,_=>by cases hp
 | .list _ _,hp,_,_=>by cases hp
 | .own _ _ _,hp,_,_=>by cases hp
 | .bf id sz p,hp,a,h=>by
  cases a <;> first | (cases h; done) | skip
  rename_i k bE es
  cases k <;> first | (cases h; done) | skip
  rename_i jz j
  simp only [aO.fits,Bool.and_eq_true] at h
  have e1:=Nat.eq_of_beq_eq_true h.1.1
  have e2:=Nat.eq_of_beq_eq_true h.1.2
  subst e1 e2
  have hp:p.flat=true:=hp
  show AV.list (.bf id j) sz ((es.map p.bo).map p.enc)=_
  rw [CI (fun a ha=>aO.jt hp ha) h.2]
 | .mF _,hp,_,_=>by cases hp
 | .two _ _,hp,_,_=>by cases hp
theorem aP.jt:∀ {ps:aP},ps.flat=true→∀ {l:List AV},ps.fits l=true→ps.enc (ps.bo l)=l
 | .nil,_,l,h=>by
  cases l with
  | nil=>rfl
  | cons _ _=>cases h
 | .cons p .nil,hp,l,h=>by
  simp only [aP.flat,Bool.and_eq_true] at hp
  cases l with
  | nil=>cases h
  | cons a l=>
   simp only [aP.fits,Bool.and_eq_true] at h
   cases l with
   | nil=>exact congrArg (fun x=>[x]) (aO.jt hp.1 h.1)
   | cons _ _=>cases h.2
 | .cons p (.cons q ps),hp,l,h=>by
  rw [aP.flat,Bool.and_eq_true] at hp
  cases l with
  | nil=>cases h
  | cons a l=>
   rw [aP.fits,Bool.and_eq_true] at h
   have h1:=aO.jt hp.1 h.1
   have h2:=aP.jt (ps:=.cons q ps) hp.2 h.2
   show p.enc (p.bo a) :: (aP.cons q ps).enc ((aP.cons q ps).bo l)=a :: l
   rw [h1,h2]
end
def vf (E:Env) (s:St) (t:TypeId) (m k:SV):Option (Bool × AV × Bool):=match QQ E s.G t,E.ti t,mapOf s m,k with
 | some p,some i,some es,.v k=>match i.k with
  | .map kt _ (some z)=>match E.ti kt with
   | some j=>if j.ek.plain&&iC j.ek k&&p.flat then
     some (dZ j.ek k es&&p.fits (cM j.ek k (BP E s.G t z) es),p.enc (p.bo (cM j.ek k (BP E s.G t z) es)),(fj j.ek k es).isSome)
    else none
   | none=>none
  | _=>none
 | _,_,_,_=>none
theorem rR {E:Env} {s:St} {t:TypeId} {m k:SV} {v:AV} {b:Bool} (h:vf E s t m k=some (true,v,b)):ln E s t m k=some (v,b):=by
 unfold vf at h
 split at h
 ·rename_i p i es k h1 h2 h3
  split at h
  ·rename_i kt et z hk
   split at h
   ·rename_i j hj
    split at h
    ·rename_i hc
     simp only [Bool.and_eq_true] at hc
     injection h with h
     injection h with h4 h
     injection h with h5 h6
     rw [Bool.and_eq_true] at h4
     rw [aO.jt hc.2 h4.2] at h5
     have e:iP j.ek k es=some (fj j.ek k es):=F4 h4.1
     have q9:(j.ek.plain&&iC j.ek k)=true:=by rw [hc.1.1,hc.1.2]; rfl
     have e0:jg E s t m (.v k)=some ((fj j.ek k es).getD z,(fj j.ek k es).isSome):=by
      simp only [jg,h2,h3,hk,hj,q9,if_true,e]
      cases fj j.ek k es <;> rfl
     unfold ln
     rw [e0]
     unfold cM at h5
     cases hg:fj j.ek k es with
     | none=>
      rw [hg] at h5 h6
      subst h5 h6
      rfl
     | some v'=>
      rw [hg] at h5 h6
      subst h5 h6
      rfl
    ·cases h
   ·cases h
  ·cases h
 ·cases h
def vg (E:Env) (s:St) (t:TypeId) (m k x:SV):Option (Bool × St):=match E.ti t,m,k,x with
 | some i,.v (.map id),.v k,.v x=>match i.k,nth s.G id with
  | .map kt _ _,some (.map es)=>match E.ti kt with
   | some j=>if j.ek.plain&&iC j.ek k then some (dZ j.ek k es,s.bW (aD s.G id (.map (eN j.ek k x es)))) else none
   | none=>none
  | _,_=>none
 | _,_,_,_=>none
theorem rS {E:Env} {s s':St} {t:TypeId} {m k x:SV} (h:vg E s t m k x=some (true,s')):fe E s t m k x=some s':=by
 unfold vg at h
 split at h
 ·rename_i i id k x h1
  split at h
  ·rename_i kt _ _ es hk hg
   split at h
   ·rename_i j hj
    split at h
    ·rename_i hc
     injection h with h
     injection h with h4 h5
     simp only [fe,h1,hk,hg,hj,hc,if_true,JG h4,h5]
    ·cases h
   ·cases h
  ·cases h
 ·cases h
def JH (E:Env) (s:St) (dst:Option Tmp) (l:List AV) (tys:List TypeId):Option (Bool × St):=match l,tys with
 | [.jS id off sz len _,.str bs],t :: _=>match E.ti t,nth s.G id with
  | some i,some (.row cs el)=>match i.k with
   | .sl _ esz _ _ _=>if Nat.beq sz esz&&Nat.beq esz 1 then
     some (Nat.ble (off+(bs.take (Nat.min bs.length len)).length) cs.length,
      (s.bW (aD s.G id (.row (bZ cs off ((bs.take (Nat.min bs.length len)).map qU)) el))).put dst (.v (.int .i64 (Nat.min bs.length len))))
    else none
   | _=>none
  | _,_=>none
 | [.jS id off sz len _,.list _ bE es],t :: _=>match E.ti t,nth s.G id with
  | some i,some (.row cs el)=>match i.k with
   | .sl _ esz _ _ _=>if Nat.beq sz esz&&Nat.beq bE esz then
     some (Nat.ble (off+(av (es.take (Nat.min es.length len))).length) cs.length,
      (s.bW (aD s.G id (.row (bZ cs off (av (es.take (Nat.min es.length len)))) el))).put dst (.v (.int .i64 (Nat.min es.length len))))
    else none
   | _=>none
  | _,_=>none
 | [.dX id f off sz len,.list _ bE xs],t :: _=>match E.ti t,nth s.G id with
  | some i,some (.dG es YR el)=>match i.k with
   | .sl _ esz _ _ _=>if Nat.beq sz esz&&Nat.beq YR sz&&Nat.beq bE esz then
     some (decide (f=es.length)&&decide (off+Nat.min xs.length len≤es.length),
      (s.bW (aD s.G id (.dG (bZ es off (xs.take (Nat.min xs.length len))) YR el))).put dst (.v (.int .i64 (Nat.min xs.length len))))
    else none
   | _=>none
  | _,_=>none
 | _,_=>none
theorem ER {E:Env} {s s':St} {dst:Option Tmp} {l:List AV} {tys:List TypeId} (h:JH E s dst l tys=some (true,s')):bI E s dst .copy l tys=some (true,s'):=by
 unfold JH at h
 split at h
 ·rename_i id off sz len cap bs t ts
  split at h
  ·rename_i i cs el hi hid
   split at h
   ·rename_i a1 esz a2 a3 a4 hk
    split at h
    ·rename_i hc
     rw [Bool.and_eq_true] at hc
     injection h with h
     injection h with h1 h2
     have sO:(Nat.beq esz 1&&Nat.ble (off+(bs.take (Nat.min bs.length len)).length) cs.length)=true:=by rw [hc.2,h1]; rfl
     simp only [bI,hi,hk,qV,hid,hc.1,if_true,sO,h2]
    ·cases h
   ·cases h
  ·cases h
 ·rename_i id off sz len cap k bE es t ts
  split at h
  ·rename_i i cs el hi hid
   split at h
   ·rename_i a1 esz a2 a3 a4 hk
    split at h
    ·rename_i hc
     rw [Bool.and_eq_true] at hc
     injection h with h
     injection h with h1 h2
     have e2:(Nat.beq bE esz || es.isEmpty)=true:=by rw [hc.2]; rfl
     simp only [bI,hi,hk,qV,hid,hc.1,if_true,e2,h1,h2]
    ·cases h
   ·cases h
  ·cases h
 ·rename_i id f off sz len k bE xs t ts
  split at h
  ·rename_i i es YR el hi hid
   split at h
   ·rename_i a1 esz a2 a3 a4 hk
    split at h
    ·rename_i hc
     rw [Bool.and_eq_true] at hc
     injection h with h
     injection h with h1 h2
     rw [Bool.and_eq_true,decide_eq_true_eq,decide_eq_true_eq] at h1
     obtain ⟨rfl,h1⟩:=h1
     have e2:(Nat.beq sz esz&&Nat.beq YR sz&&(Nat.beq bE esz || xs.isEmpty)&&Nat.ble es.length es.length&&Nat.ble es.length es.length&&Nat.ble (off+Nat.min xs.length len) es.length)=true:=by
      rw [hc.1,hc.2]
      simp only [Bool.true_or,Bool.true_and,Bool.and_eq_true]
      exact ⟨⟨Nat.ble_eq_true_of_le (Nat.le_refl _),Nat.ble_eq_true_of_le (Nat.le_refl _)⟩,Nat.ble_eq_true_of_le h1⟩
     simp only [bI,hi,hk,qV,hid,e2,if_true,h2]
    ·cases h
   ·cases h
  ·cases h
 ·cases h
def vh (s:St) (dst:Option Tmp) (elem esz bq:Nat) (k:LK) (sz:Nat) (es ys:List AV):Option (Bool × St × Bool × St):=
 match k with
 | .nil=>some (ys.isEmpty,s.put dst (.v (.list .nil sz es)),decide ((es.length+ys.length) * bq≤140737488355328),
   (s.bW (s.G++[.tok (es.length+ys.length) esz elem])).put dst (.v (.list (.own s.G.length) esz (es++ys))))
 | .full=>if Nat.beq sz esz then some (ys.isEmpty,s.put dst (.v (.list .full sz es)),decide ((es.length+ys.length) * bq≤140737488355328),
   (s.bW (s.G++[.tok (es.length+ys.length) esz elem])).put dst (.v (.list (.own s.G.length) esz (es++ys)))) else none
 | .own id=>match nth s.G id with
  | some (.tok f bE e')=>if Nat.beq bE esz&&Nat.beq e' elem&&Nat.beq sz esz then
    some (false,s,decide (f=es.length)&&decide ((es.length+ys.length) * bq≤140737488355328),
     (s.bW (IE s.G id ys.length f esz elem)).put dst (.v (.list (.own id) esz (es++ys)))) else none
  | _=>none
 | .bf id j=>match nth s.G id with
  | some (.bf fs bE e')=>if Nat.beq bE esz&&Nat.beq e' elem&&Nat.beq sz esz then
    some (ys.isEmpty,s.put dst (.v (.list (.bf id j) sz es)),MV fs j es.length&&decide ((es.length+ys.length) * bq≤140737488355328),
     (s.bW (aD s.G id (.bf (GP fs j (es.length+ys.length)) esz elem))).put dst (.v (.list (.bf id j) esz (es++ys)))) else none
  | _=>none
 | .jP=>none
def A1 (s:St) (dst:Option Tmp) (elem esz bq id f off sz len:Nat) (ys:List AV):Option (Bool × St × Bool × St):=match nth s.G id with
 | some (.dG es bE e')=>if Nat.beq bE esz&&Nat.beq e' elem&&Nat.beq sz esz then
   some (false,s,decide (f=es.length)&&decide (off=0)&&decide (len=f)&&decide ((es.length+ys.length) * bq≤140737488355328),
    (s.bW (aD s.G id (.dG (es++ys) esz elem))).put dst (.v (.dX id (es.length+ys.length) 0 esz (es.length+ys.length)))) else none
 | _=>none
def A2 (E:Env) (s:St) (dst:Option Tmp) (l:List AV) (tys:List TypeId):Option (Bool × St × Bool × St):=match l,tys with
 | [.list k sz es,.list _ bE ys],[t,u]=>match E.ti t with
  | some i=>match i.k with
   | .sl elem esz _ bq (some z)=>
    if Nat.beq bE esz&&Nat.beq t u&&Nat.ble 1 esz&&Nat.ble 1 bq&&Nat.beq z.cells.length esz&&z.aV then
     vh s dst elem esz bq k sz es ys
    else none
   | _=>none
  | none=>none
 | [.dX id f off sz len,.list _ bE ys],[t,u]=>match E.ti t with
  | some i=>match i.k with
   | .sl elem esz _ bq (some z)=>
    if Nat.beq bE esz&&Nat.beq t u&&Nat.ble 1 esz&&Nat.ble 1 bq&&Nat.beq z.cells.length esz&&z.aV then A1 s dst elem esz bq id f off sz len ys else none
   | _=>none
  | none=>none
 | [.list k sz es,.str bs],[t,u]=>match E.ti t,E.ti u with
  | some i,some j=>match i.k,j.k with
   | .sl elem esz _ bq (some z),.str=>
    if Nat.beq esz 1&&Nat.ble 1 bq&&Nat.beq z.cells.length esz&&z.aV then vh s dst elem esz bq k sz es (bs.map qU) else none
   | _,_=>none
  | _,_=>none
 | _,_=>none
theorem rT {s s1 s2:St} {dst:Option Tmp} {elem esz bq:Nat} {k:LK} {sz:Nat} {es ys:List AV} {b c:Bool} (h:vh s dst elem esz bq k sz es ys=some (b,s1,c,s2)) (hc:b=false→c=true) :
  ∃ v G',gf s.G elem esz bq (.list k sz es) ys=some (true,v,G')∧(s.bW G').put dst (.v v)=bif b then s1 else s2:=by
 unfold vh at h
 cases k with
 | nil=>
  cases h
  cases ys with
  | nil=>exact ⟨_,_,rfl,rfl⟩
  | cons y ys=>
   have hc:=hc rfl
   exact ⟨_,_,by simp only [gf,hc],rfl⟩
 | full=>
  simp only at h
  cases hs:Nat.beq sz esz with
  | false=>rw [hs] at h; cases h
  | true=>
   rw [hs] at h
   cases h
   cases ys with
   | nil=>exact ⟨_,_,rfl,rfl⟩
   | cons y ys=>
    have hc:=hc rfl
    exact ⟨_,_,by simp only [gf,hs,if_true,hc],rfl⟩
 | own id=>
  simp only at h
  split at h
  ·rename_i f bE e' hg
   split at h
   ·rename_i cC
    cases h
    have hc:=hc rfl
    cases ys with
    | nil=>
     simp only [Bool.and_eq_true] at cC
     have e1:=Nat.eq_of_beq_eq_true cC.1.1
     have e2:=Nat.eq_of_beq_eq_true cC.1.2
     have e3:=Nat.eq_of_beq_eq_true cC.2
     subst e1; subst e2; subst e3
     refine ⟨_,_,rfl,?_⟩
     simp only [cond_false,IE,List.length_nil,Nat.add_zero,jj hg,List.append_nil]
    | cons y ys=>exact ⟨_,_,by simp only [gf,hg,cC,if_true,hc],rfl⟩
   ·cases h
  ·cases h
 | bf id j=>
  simp only at h
  split at h
  ·rename_i fs bE e' hg
   split at h
   ·rename_i cC
    cases h
    cases ys with
    | nil=>exact ⟨_,_,rfl,rfl⟩
    | cons y ys=>
     have hc:=hc rfl
     exact ⟨_,_,by simp only [gf,hg,cC,if_true,hc],rfl⟩
   ·cases h
  ·cases h
 | jP=>cases h
theorem A3 {s s1 s2:St} {dst:Option Tmp} {elem esz bq id f off sz len:Nat} {ys:List AV} {b c:Bool} (h:A1 s dst elem esz bq id f off sz len ys=some (b,s1,c,s2)) (hc:b=false→c=true) :
  ∃ v G',gf s.G elem esz bq (.dX id f off sz len) ys=some (true,v,G')∧(s.bW G').put dst (.v v)=bif b then s1 else s2:=by
 unfold A1 at h
 split at h
 ·rename_i es bE e' hg
  split at h
  ·rename_i cC
   cases h
   have hc:=hc rfl
   cases ys with
   | nil=>
    simp only [Bool.and_eq_true,decide_eq_true_eq] at hc cC
    have e1:=Nat.eq_of_beq_eq_true cC.1.1
    have e2:=Nat.eq_of_beq_eq_true cC.1.2
    have e3:=Nat.eq_of_beq_eq_true cC.2
    obtain ⟨⟨⟨h1,h2⟩,h3⟩,_⟩:=hc
    subst e1; subst e2; subst e3; subst h1; subst h2; subst h3
    refine ⟨_,_,rfl,?_⟩
    simp only [cond_false,List.length_nil,Nat.add_zero,jj hg,List.append_nil]
   | cons y ys=>exact ⟨_,_,by simp only [gf,hg,cC,if_true,hc],rfl⟩
  ·cases h
 ·cases h
theorem A4 {E:Env} {s s1 s2:St} {dst:Option Tmp} {l:List AV} {tys:List TypeId} {b c:Bool} (h:A2 E s dst l tys=some (b,s1,c,s2)) (BE:b=false→c=true):bI E s dst .append l tys=some (true,bif b then s1 else s2):=by
 unfold A2 at h
 split at h
 ·rename_i k sz es k' bE ys t u
  split at h
  ·rename_i i hi
   split at h
   ·rename_i elem esz a1 bq z hk
    split at h
    ·rename_i hc
     have q9:((Nat.beq bE esz || ys.isEmpty)&&Nat.beq t u&&Nat.ble 1 esz&&Nat.ble 1 bq&&Nat.beq z.cells.length esz&&z.aV)=true:=by
      simp only [Bool.and_eq_true] at hc ⊢
      obtain ⟨⟨⟨⟨⟨c1,c2⟩,c3⟩,c4⟩,c5⟩,c6⟩:=hc
      exact ⟨⟨⟨⟨⟨by rw [c1]; rfl,c2⟩,c3⟩,c4⟩,c5⟩,c6⟩
     obtain ⟨v,G',h1,h2⟩:=rT h BE
     simp only [bI,hi,hk,q9,if_true,h1,h2]
    ·cases h
   ·cases h
  ·cases h
 ·rename_i id f off sz len k' bE ys t u
  split at h
  ·rename_i i hi
   split at h
   ·rename_i elem esz a1 bq z hk
    split at h
    ·rename_i hc
     have q9:((Nat.beq bE esz || ys.isEmpty)&&Nat.beq t u&&Nat.ble 1 esz&&Nat.ble 1 bq&&Nat.beq z.cells.length esz&&z.aV)=true:=by
      simp only [Bool.and_eq_true] at hc ⊢
      obtain ⟨⟨⟨⟨⟨c1,c2⟩,c3⟩,c4⟩,c5⟩,c6⟩:=hc
      exact ⟨⟨⟨⟨⟨by rw [c1]; rfl,c2⟩,c3⟩,c4⟩,c5⟩,c6⟩
     obtain ⟨v,G',h1,h2⟩:=A3 h BE
     simp only [bI,hi,hk,q9,if_true,h1,h2]
    ·cases h
   ·cases h
  ·cases h
 ·rename_i k sz es bs t u
  split at h
  ·rename_i i j hi hj
   split at h
   ·rename_i elem esz a1 bq z hk Vn
    split at h
    ·rename_i hc
     obtain ⟨v,G',h1,h2⟩:=rT h BE
     simp only [bI,hi,hj,hk,Vn,hc,if_true,h1,h2]
    ·cases h
   ·cases h
  ·cases h
 ·cases h
end Go.Am
namespace Go.Am
open Go
def SY (E:Env) (cut wk:Bool) (t:TypeId) (r:AV) (G:List GO):Option (Bool × AV × List GO):=match r with
 | .dX id f 0 sz len=>match nth G id,E.ti t with
  | some (.dG es bE _),some i=>match i.k with
   | .sl _ esz _ _ _=>if Nat.beq esz sz&&Nat.beq bE sz then
     bif cut then some (decide (f=es.length)&&decide (len≤es.length)&&ba (zg wk es),.list .jP sz (zg wk (es.take len)),aD G id .dead)
     else some (decide (f=es.length)&&decide (len=es.length)&&ba (zg wk es),.list .jP sz (zg wk es),aD G id .dead)
    else none
   | _=>none
  | _,_=>none
 | .jS id 0 sz len _=>match nth G id,E.ti t,E.MU t with
  | some (.row cs _),some i,some p=>match i.k with
   | .sl _ esz agg _ _=>if Nat.beq esz sz&&Nat.ble 1 sz&&(agg || Nat.beq sz 1)&&p.under 0 then
     some (Nat.beq cs.length (len * sz)&&allFit (fun e=>p.fits e&&e.aV&&(agg || e.one)) (gW agg sz len cs),.list .jP sz ((gW agg sz len cs).map fun e=>p.enc (p.bo e)),aD G id .dead)
    else none
   | _=>none
  | _,_,_=>none
 | .agg cs=>match lX wk cs G with
  | (c,cs',G')=>some (c,.agg cs',G')
 | .ptr id 0=>match nth G id with
  | some (.row cs _)=>some (ba cs,.ep cs,aD G id .dead)
  | _=>none
 | _=>none
def xe (E:Env) (cut wk:Bool):List TypeId→List AV→List GO→Bool × List AV × List GO
 | t :: ts,r :: rs,G=>match SY E cut wk t r G with
  | some (c,r',G')=>match xe E cut wk ts rs G' with
   | (c',JI,zO)=>(c&&c',r' :: JI,zO)
  | none=>match xe E cut wk ts rs G with
   | (c',JI,zO)=>(c',r :: JI,zO)
 | _,rs,G=>(true,rs,G)
def SZ {X:Type} (E:Env) (cut wk:Bool) (ts:List TypeId) (K:AV→List GO→Option X) (r:AV) (G:List GO):Option X:=match r with
 | .bh rs=>match xe E cut wk ts rs G with
  | (c,JI,G')=>bif c then K (.bh JI) G' else none
 | r=>match xe E cut wk ts [r] G with
  | (c,[r'],G')=>bif c then K r' G' else none
  | _=>none
section
variable {E:Env} {R:ai} {w:World}
theorem xf {R:ai} {b:Nat} (hI:∀ o,R.I b o):∀ {cs:List AV} {vs:List Value} {o:Nat},aM R w cs vs→(∀ v∈vs,v.oneCell'=true)→(∀ (j:Nat) (v:Value),vs[j]?=some v→w.cell? ⟨b,o+j,none⟩=some v)→dP R w b o cs
 | [],_,o,_,_,_=>.nil
 | a :: cs,_,o,.cons h t,h1,hc=>.cons (hc 0 _ rfl) (h1 _ (by simp)) (hI o) h (xf hI t (fun v hv=>h1 v (by simp [hv])) fun j v hj=>by
   have:=hc (j+1) v (by simpa using hj)
   rwa [show o+(j+1)=o+1+j by omega] at this)
theorem xg {R:ai} {b:Nat} {p:aO} {agg:Bool} {sz:Nat} (hI:∀ o,R.I b o) (hp:p.under 0=true) (eO:(agg || Nat.beq sz 1)=true) (aap:1≤sz):∀ (n:Nat) {cs:List AV} {vs:List Value} {o:Nat},aM R w cs vs→(∀ v∈vs,v.oneCell'=true)→cs.length=n * sz →
  (∀ (j:Nat) (v:Value),vs[j]?=some v→w.cell? ⟨b,o+j,none⟩=some v)→allFit (fun e=>p.fits e&&e.aV&&(agg || e.one)) (gW agg sz n cs)=true→gk R w b o sz ((gW agg sz n cs).map fun e=>p.enc (p.bo e))
 | 0,_,_,_,_,_,_,_,_=>.nil
 | n+1,cs,vs,o,h,h1,hl,hc,hf=>by
  simp only [gW,allFit,Bool.and_eq_true] at hf
  obtain ⟨⟨⟨vO,YB⟩,hf4⟩,hf3⟩:=hf
  have hlen:=h.length
  have hle:sz≤cs.length:=by rw [hl,Nat.succ_mul]; omega
  have dk:=p.cL vO
  have lI:(VT agg (cs.take sz)).cells=cs.take sz:=by
   cases agg with
   | true=>rfl
   | false=>
    have QU:sz=1:=by simpa using eO
    subst QU
    match cs,hle with
    | a :: cs,_=>
     show AV.cells a=[a]
     have ho:a.one=true:=by simpa [VT,eu] using hf4
     cases a <;> first | rfl | simp [AV.one] at ho
  have hw:=dk.cells YB
  rw [lI] at hw
  have hA:dP R w b o (cs.take sz):=xf hI (h.take sz) (fun v hv=>h1 v (List.mem_of_mem_take hv)) fun j v hj=>hc j v (by
   rw [List.getElem?_take] at hj
   split at hj
   ·exact hj
   ·cases hj)
  refine .cons (by rw [← hw.length,List.length_take,Nat.min_eq_left hle]) (by rw [dk.bh]; exact YB) (lL (p.dA _ hp)) (hw.IK hA) ?_
  exact xg hI hp eO aap n (h.drop sz) (fun v hv=>h1 v (List.mem_of_mem_drop hv)) (by rw [List.length_drop,hl,Nat.succ_mul]; omega) (fun j v hj=>by
   rw [List.getElem?_drop] at hj
   have:=hc _ _ hj
   rwa [show o+(sz+j)=o+sz+j by omega] at this) hf3
theorem Nt {cut wk:Bool} {t:TypeId} {r r':AV} {G G':List GO} {c:Value} (hg:dq E R w G) (hr:Rel R w r c) (h:SY E cut wk t r G=some (true,r',G')) :
  ∃ R',dq E R' w G'∧Rel R' w r' c∧Ext R w R' w∧R'.obj=R.obj∧∀ b o,R'.I b o→R.I b o∨Live R b:=by
 unfold SY at h
 split at h
 ·rename_i id f sz len
  obtain ⟨ro,bH⟩:∃ ro,nth R.obj id=some ro:=by
   cases hr with
   | iM q _=>exact ⟨_,q⟩
   | dX q _ _=>exact ⟨_,q⟩
  split at h
  ·rename_i es bE el i hid hi
   split at h
   ·split at h
    ·rename_i hc
     rw [Bool.and_eq_true] at hc
     have q1:=Nat.eq_of_beq_eq_true hc.2
     subst q1
     cases cut with
     | true=>
      simp only [cond_true] at h
      injection h with h; injection h with h1 h; injection h with h2 h3
      subst h2 h3
      rw [Bool.and_eq_true,Bool.and_eq_true,decide_eq_true_eq,decide_eq_true_eq] at h1
      obtain ⟨h1,iz⟩:=h1
      obtain ⟨R',r1,r2,r3,r4,r5⟩:=mV (wk:=wk) hg hid h1.1 h1.2 iz bH
      exact ⟨R',r1,r5 c hr,r2,r3,fun b o hi=>(r4 b o hi).imp_right fun hb=>⟨id,ro,bH,hb⟩⟩
     | false=>
      simp only [cond_false] at h
      injection h with h; injection h with h1 h; injection h with h2 h3
      subst h2 h3
      rw [Bool.and_eq_true,Bool.and_eq_true,decide_eq_true_eq,decide_eq_true_eq] at h1
      obtain ⟨h1,iz⟩:=h1
      obtain ⟨R',r1,r2,r3,r4,r5⟩:=mV (wk:=wk) hg hid h1.1 (Nat.le_of_eq h1.2) iz bH
      have r6:=r5 c hr
      rw [h1.2,List.take_length] at r6
      exact ⟨R',r1,r6,r2,r3,fun b o hi=>(r4 b o hi).imp_right fun hb=>⟨id,ro,bH,hb⟩⟩
    ·cases h
   ·cases h
  ·cases h
 ·rename_i id sz len cap
  split at h
  ·rename_i cs i p hid hi hp
   split at h
   ·rename_i el esz agg eb z hk
    split at h
    ·rename_i hc
     simp only [Bool.and_eq_true] at hc
     injection h with h
     injection h with h1 h
     injection h with h2 h3
     subst h2 h3
     rw [Bool.and_eq_true] at h1
     cases hr with
     | @jS _ _ _ _ _ b hb gX=>
     obtain ⟨vs,k1,k2,k3,k4⟩:=hg.obj id _ _ hid hb
     have B1:Live R b:=⟨id,_,hb,rfl⟩
     have e:=oX R w b
     have cg:=bg k1
     refine ⟨R.all b,⟨by show R.obj.length=_; rw [hZ]; exact hg.len,fun jz go ro q1 q2=>?_,hg.inj,fun b' o ho=>?_,fun g cs qf=>(hg.b6 g cs qf).mono e,hg.lo⟩,?_,e,rfl,fun b' o ho=>?_⟩
     ·rcases da q1 with ⟨rfl,rfl,_⟩ | ⟨cm,q1⟩
      ·have:ro=.bU b:=Option.some.inj (q2.symm.trans hb)
       subst this
       exact cg
      ·refine (hg.obj jz go ro q1 q2).mono e (fun _ _=>rfl) (fun b' o iS ho=>?_)
       rcases ho with ho | ho
       ·exact ho
       ·subst ho
        exact absurd (hg.inj id jz _ _ b' hb q2 rfl iS) cm
     ·rcases ho with ho | ho
      ·exact hg.wf b' o ho
      ·subst ho; exact cg
     ·refine Rel.list (xg (R:=R.all b) (fun o=>Or.inr rfl) hc.2 hc.1.2 (Nat.le_of_ble_eq_true hc.1.1.2) len (k2.mono e) k3 (Nat.eq_of_beq_eq_true h1.1) (fun j v hj=>?_) h1.2) ?_ gX trivial
      ·simp only [World.cell?,k1]
       simpa using hj
      ·rw [List.length_map]
       have:∀ (n:Nat) (l:List AV),(gW agg sz n l).length=n:=by
        intro n
        induction n with
        | zero=>intro l; rfl
        | succ n ih=>intro l; simp [gW,ih]
       rw [this]
     ·rcases ho with ho | ho
      ·exact .inl ho
      ·subst ho; exact .inr B1
    ·cases h
   ·cases h
  ·cases h
 ·rename_i cs
  cases h2:lX wk cs G with
  | mk c' q=>
  obtain ⟨cs',G2⟩:=q
  rw [h2] at h
  injection h with h; injection h with h1 h; injection h with h3 h4
  subst h1 h3 h4
  cases hr with
  | agg hr sO=>
  obtain ⟨R',r1,r2,r3,r4,r5⟩:=rG hg hr h2
  exact ⟨R',r1,.agg r2 sO,r3,r4,r5⟩
 ·-- an object's cells never change again
  rename_i id
  split at h
  ·rename_i cs el hid
   injection h with h; injection h with h1 h; injection h with h2 h3
   subst h2 h3
   cases hr with
   | @ptr _ _ b bH=>
   obtain ⟨vs,b1,b2,b3,b4⟩:=hg.obj id _ _ hid bH
   have r2:=oX R w b
   have r1:=hg.freeze bH rfl (show gF (R.all b) w .dead (.bU b) from bg b1)
   refine ⟨R.all b,r1,Rel.ep (dP.make (b2.mono r2) b3 (fun j v hv=>?_) (fun j _=>.inr rfl)),r2,rfl,fun b' o hi=>?_⟩
   ·rw [jl b1,Nat.zero_add]
    exact hv
   ·rcases hi with hi | rfl
    ·exact .inl hi
    ·exact .inr ⟨id,_,bH,rfl⟩
  ·cases h
 ·cases h
theorem vi {cut wk:Bool}:∀ {ts:List TypeId} {rs JI:List AV} {G G':List GO} {cs:List Value} {R:ai},dq E R w G→aM R w rs cs→xe E cut wk ts rs G=(true,JI,G') →
  ∃ R',dq E R' w G'∧aM R' w JI cs∧Ext R w R' w∧R'.obj=R.obj∧∀ b o,R'.I b o→R.I b o∨Live R b
 | [],rs,JI,G,G',cs,R,hg,hr,h=>by
  cases rs <;> (simp only [xe] at h; cases h; exact ⟨R,hg,hr,Ext.refl R w,rfl,fun _ _ h=>.inl h⟩)
 | _ :: _,[],JI,G,G',cs,R,hg,hr,h=>by
  simp only [xe] at h; cases h; exact ⟨R,hg,hr,Ext.refl R w,rfl,fun _ _ h=>.inl h⟩
 | t :: ts,r :: rs,JI,G,G',cs,R,hg,hr,h=>by
  cases hr with
  | cons h0 hr=>
  unfold xe at h
  split at h
  ·rename_i c r' G1 h1
   cases h2:xe E cut wk ts rs G1 with
   | mk c' q=>
   obtain ⟨Wu,G2⟩:=q
   rw [h2] at h
   simp only [Prod.mk.injEq,Bool.and_eq_true] at h
   obtain ⟨⟨rfl,rfl⟩,rfl,rfl⟩:=h
   obtain ⟨R1,a1,a2,a3,a4,a5⟩:=Nt hg h0 h1
   obtain ⟨R2,b1,b2,b3,b4,b5⟩:=vi a1 (hr.mono a3) h2
   refine ⟨R2,b1,.cons (a2.mono b3) b2,a3.trans b3,b4.trans a4,fun b o ho=>?_⟩
   rcases b5 b o ho with ho | ho
   ·exact a5 b o ho
   ·obtain ⟨id,ro,q1,q2⟩:=ho
    rw [a4] at q1
    exact .inr ⟨id,ro,q1,q2⟩
  ·cases h2:xe E cut wk ts rs G with
   | mk c' q=>
   obtain ⟨Wu,G2⟩:=q
   rw [h2] at h
   simp only [Prod.mk.injEq] at h
   obtain ⟨rfl,rfl,rfl⟩:=h
   obtain ⟨R2,b1,b2,b3,b4,b5⟩:=vi hg hr h2
   exact ⟨R2,b1,.cons (h0.mono b3) b2,b3,b4,b5⟩
theorem cu.frz {g:FuncId} {args:List AV} {G:List GO} {X:Type} {cut wk:Bool} {ts:List TypeId} {K:AV→List GO→Option X} {x:X} (h:cu E g args G (fun r G'=>SZ E cut wk ts K r G'=some x)):cu E g args G (fun r G'=>K r G'=some x):=
 ⟨h.1,fun R w cs hg hl=>(h.2 R w cs hg hl).mono fun e w' he=>by
  cases e with
  | panicked c=>exact he.elim
  | outgrown=>exact he.elim
  | returned c=>
   obtain ⟨r,G',R1,hq,eh,Ns,st⟩:=he
   have fin:∀ (r':AV) (G2:List GO) (R2:ai),K r' G2=some x→dq E R2 w' G2→Rel R2 w' r' c→Ext R1 w' R2 w'→R2.obj=R1.obj→(∀ b o,R2.I b o→R1.I b o∨Live R1 b)→FR E R w (fun r G'=>K r G'=some x) (.returned c) w':=by
    intro r' G2 R2 k1 k2 k3 k4 k5 k6
    have live:∀ b,Live R2 b→Live R1 b:=fun b ⟨id,ro,q1,q2⟩=>⟨id,ro,by rw [← k5]; exact q1,q2⟩
    refine ⟨r',G2,R2,k1,k3,k2,⟨st.ext.trans k4,st.os,st.tape,st.output,st.size,st.cq,fun b hb ho=>?_,fun b o hi hb hn=>?_⟩⟩
    ·rcases ho with ho | ⟨k,cs,hk,rfl⟩
     ·exact st.own b hb (.inl (live b ho))
     ·simp [fk,dm] at hk
    ·rcases k6 b o hi with hi | hi
     ·exact st.im b o hi hb hn
     ·exact absurd (st.own b hb (.inl hi)) hn
   unfold SZ at hq
   split at hq
   ·rename_i rs
    cases eh with
    | bh eh=>
    cases h2:xe E cut wk ts rs G' with
    | mk c' q=>
    obtain ⟨Wu,G2⟩:=q
    rw [h2] at hq
    cases c' with
    | false=>cases hq
    | true=>
     obtain ⟨R2,b1,b2,b3,b4,b5⟩:=vi Ns eh h2
     exact fin (.bh Wu) G2 R2 hq b1 (.bh b2) b3 b4 b5
   ·split at hq
    ·rename_i c' r' G2 h2
     cases c' with
     | false=>cases hq
     | true=>
      obtain ⟨R2,b1,b2,b3,b4,b5⟩:=vi Ns (.cons eh .nil) h2
      cases b2 with
      | cons b2 _=>exact fin r' G2 R2 hq b1 b2 b3 b4 b5
    ·cases hq⟩
end
end Go.Am
namespace Go.Am
open Go
inductive RP
 | Rb (p:aO)
 | map (pe:aO)
 | ep (ps:aP)
def RP.T:RP→Type
 | .Rb p=>p.T
 | .map pe=>List pe.T
 | .ep ps=>ps.T
def RP.enc (n:Nat):(p:RP)→p.T→AV
 | .Rb p,x=>p.enc x
 | .map _,_=>.map n
 | .ep ps,x=>.ep (ps.enc x)
def RP.ES:(p:RP)→p.T→List GO
 | .Rb _,_=>[]
 | .map pe,(x:List pe.T)=>[.map (ab (x.map pe.enc))]
 | .ep _,_=>[]
def RP.no:RP→Nat
 | .map _=>1
 | _=>0
def tc:List RP→Type
 | []=>Unit
 | [p]=>p.T
 | p :: q :: l=>p.T × tc (q :: l)
def oC:(n:Nat)→(l:List RP)→tc l→List AV
 | _,[],_=>[]
 | n,[p],x=>[p.enc n x]
 | n,p :: q :: l,x=>p.enc n x.1 :: oC (n+p.no) (q :: l) x.2
def gT:(l:List RP)→tc l→List GO
 | [],_=>[]
 | [p],x=>p.ES x
 | p :: q :: l,x=>p.ES x.1++gT (q :: l) x.2
structure RF where
 bh:Bool
 l:List RP
def RF.val (f:RF) (n:Nat) (x:tc f.l):AV:=bif f.bh then .bh (oC n f.l x) else eu (oC n f.l x)
def RP.is:RP→AV→Bool
 | .Rb p,v=>match p with
  | .mF u=>ej v u
  | _=>true
 | .map _,v=>match v with
  | .map _=>true
  | _=>false
 | .ep _,v=>match v with
  | .ep _=>true
  | _=>false
def JJ:List RP→List AV→Bool
 | [],[]=>true
 | p :: l,v :: vs=>p.is v&&JJ l vs
 | _,_=>false
def RF.args (f:RF) (r:AV):List AV:=bif f.bh then r.RX else [r]
def RF.zP (f:RF):AV→Bool
 | .bh _=>f.bh
 | _=>!f.bh
def A5 (G:List GO) (used:List Nat) (pe:aO) (v:AV):Option (List pe.T):=match v with
 | .map id=>match nth G id with
  | some (.map es)=>bif MO used id then none else (bif allFit pe.fits (an es) then some ((an es).map pe.bo) else none)
  | _=>none
 | _=>none
def F5 (ps:aP) (v:AV):Option ps.T:=match v with
 | .ep cs=>ps.dec cs
 | _=>none
def RP.dec (G:List GO) (used:List Nat):(p:RP)→AV→Option p.T
 | .Rb p,v=>p.dec v
 | .map pe,v=>A5 G used pe v
 | .ep ps,v=>F5 ps v
def td (used:List Nat):AV→List Nat
 | .map id=>id :: used
 | _=>used
def te (G:List GO):(used:List Nat)→(l:List RP)→List AV→Option (tc l)
 | _,[],vs=>match vs with
  | []=>some ()
  | _=>none
 | u,[p],vs=>match vs with
  | [v]=>p.dec G u v
  | _=>none
 | u,p :: q :: l,vs=>match vs with
  | v :: vs=>(p.dec G u v).bind fun x=>(te G (td u v) (q :: l) vs).bind fun y=>some (x,y)
  | []=>none
def RF.dec (f:RF) (G:List GO) (r:AV):Option (tc f.l):=bif f.zP r then te G [] f.l (f.args r) else none
def RP.under:RP→Bool
 | .Rb p=>p.under 0
 | .map pe=>pe.under 0
 | .ep ps=>ps.under 0
def RF.under (f:RF):Bool:=f.l.all RP.under&&(f.bh || Nat.beq f.l.length 1)
def XT:List RF→Type
 | []=>Empty
 | [f]=>tc f.l
 | f :: g :: l=>tc f.l ⊕ XT (g :: l)
def JK (G:List GO) (r:AV):(l:List RF)→Option (XT l)
 | []=>none
 | [f]=>f.dec G r
 | f :: g :: l=>bif f.zP r&&JJ f.l (f.args r) then (f.dec G r).bind fun x=>some (.inl x) else (JK G r (g :: l)).bind fun x=>some (.inr x)
def Vy {α:Type} (G:List GO) (K:AV→List GO→α):(l:List RF)→XT l→α
 | [],o=>Empty.rec (fun _=>α) o
 | [f],o=>K (f.val G.length o) (G++gT f.l o)
 | f :: g :: l,o=>Sum.elim (fun v=>K (f.val G.length v) (G++gT f.l v)) (fun o=>Vy G K (g :: l) o) o
theorem CJ {α:Type} {G:List GO} {K:AV→List GO→α} {r:AV} {G':List GO}:∀ (l:List RF) (o:XT l),Vy G (fun r0 G0=>r=r0∧G'=G0) l o→K r G'=Vy G K l o
 | [],o,_=>nomatch o
 | [f],o,h=>by
  have h:r=f.val G.length o∧G'=G++gT f.l o:=h
  rw [h.1,h.2]; rfl
 | f :: g :: l,.inl v,h=>by
  have h:r=f.val G.length v∧G'=G++gT f.l v:=h
  rw [h.1,h.2]; rfl
 | f :: g :: l,.inr o,h=>CJ (g :: l) o h
def xh (E:Env) (g:FuncId) (args:List AV) (outs:List RF) (Q:XT outs→Prop):Prop:=
 ∀ G,cu E g args G (fun r G'=>∃ y,Q y∧Vy G (fun r0 G0=>r=r0∧G'=G0) outs y)
section
variable {E:Env} {R R1 R2:ai} {w:World}
theorem dp.Rc (m:Mv R R2 0):∀ {es:List (AV × AV)} {l:List AV} {az:List MapEntry},jL (an es) l→aH 0 l=true→dp R w es az→dp R2 w (ab l) az
 | [],[],[],_,_,_=>trivial
 | [],[],_ :: _,_,_,h=>h.elim
 | [],_ :: _,_,h,_,_=>h.elim
 | (_,_) :: _,[],_,h,_,_=>h.elim
 | (_,_) :: _,_ :: _,[],_,_,h=>h.elim
 | (k,v) :: es,a :: l,en :: az,hd,hu,h=>by
  obtain ⟨d1,d2⟩:=hd
  simp only [aH,Bool.and_eq_true] at hu
  have hc:=d1.cells rfl
  have hl:[k,v].length=a.cells.length:=hc.length
  cases a with
  | agg cs=>
   match cs,hc,hl with
   | [k',v'],hc,_=>
    have SR:aH 0 [k',v']=true:=hu.1
    simp only [aH,Bool.and_true,Bool.and_eq_true] at SR
    exact ⟨(hc.1 _ _ _ h.1).move m SR.1,(hc.2.1 _ _ _ h.2.1).move m SR.2,dp.Rc m d2 hu.2 h.2.2⟩
   | [],_,hl=>simp [AV.cells] at hl
   | [_],_,hl=>simp [AV.cells] at hl
   | _ :: _ :: _ :: _,_,hl=>simp [AV.cells] at hl
  | _=>simp [AV.cells] at hl
theorem aO.xi {p:aO} (h:p.under 0=true):∀ l:List p.T,aH 0 (l.map p.enc)=true
 | []=>rfl
 | x :: l=>by
  show ((p.enc x).under 0&&aH 0 (l.map p.enc))=true
  rw [p.dA x h,aO.xi h l]
  rfl
def xj (R:ai) (n:Nat) (bs:List Nat):Prop:=∀ k b,nth bs k=some b→nth R.obj (n+k)=some (.bU b)
def F6 (R:ai) (w:World) (gs:List GO) (bs:List Nat):Prop:=∀ k go b,nth gs k=some go→nth bs k=some b→gF R w go (.bU b)
theorem RP.Re (p:RP) (x:p.T):(p.ES x).length=p.no:=by cases p <;> rfl
theorem JL {ps:aP} {v:AV} {y:ps.T} (h:F5 ps v=some y):∃ cs,v=.ep cs∧ps.dec cs=some y:=by
 unfold F5 at h
 split at h
 ·exact ⟨_,rfl,h⟩
 ·cases h
theorem HA {G:List GO} {used:List Nat} {pe:aO} {v:AV} {y:List pe.T} (h:A5 G used pe v=some y):∃ id es,v=.map id∧nth G id=some (.map es)∧id∉used∧jL (an es) (y.map pe.enc):=by
 unfold A5 at h
 split at h
 ·rename_i id
  split at h
  ·rename_i es Ir
   cases hu:MO used id with
   | true=>rw [hu] at h; cases h
   | false=>
    rw [hu,cond_false] at h
    cases hf:allFit pe.fits (an es) with
    | false=>rw [hf] at h; cases h
    | true=>
     rw [hf,cond_true] at h
     have hy:=Option.some.inj h
     refine ⟨id,es,rfl,Ir,fun hm=>?_,?_⟩
     ·rw [AX.2 hm] at hu; cases hu
     ·rw [← hy]; exact jL.of (fun v hv=>pe.cL hv) hf
  ·cases h
 ·cases h
theorem ET {used:List Nat} {v:AV} {id:Nat} (h:id∈used):id∈td used v:=by
 unfold td
 split
 ·exact List.mem_cons_of_mem _ h
 ·exact h
def A6 (R1:ai) (w:World) (used:List Nat) (v:AV) (c:Value) (p:RP) (y:p.T):Prop:=
 ∃ bs:List Nat,bs.length=p.no∧(∀ b∈bs,∃ id,id∉used∧id∈td used v∧nth R1.obj id=some (.bU b)) ∧
   ∀ (R2:ai) (n:Nat),(∀ b o,R1.I b o→R2.I b o)→xj R2 n bs→Rel R2 w (p.enc n y) c∧F6 R2 w (p.ES y) bs
theorem mvI {R1 R2:ai} (hI:∀ b o,R1.I b o→R2.I b o):Mv R1 R2 0:=⟨hI,fun _ _ h=>absurd h (Nat.not_lt_zero _)⟩
theorem RP.S0 {used:List Nat} {p:aO} {v:AV} {c:Value} {y:p.T} (hp:p.under 0=true) (hv:Rel R1 w v c) (hd:p.dec v=some y):A6 R1 w used v c (.Rb p) y:=
 ⟨[],rfl,(fun b hb=>by cases hb),fun R2 n hI _=>⟨Rel.move (mvI hI) (p.dA y hp) ((p.qc hd).gD _ _ _ hv),fun k go b h=>by cases k <;> cases h⟩⟩
theorem RP.WX {used:List Nat} {ps:aP} {v:AV} {c:Value} {y:ps.T} (hp:ps.under 0=true) (hv:Rel R1 w v c) (hd:F5 ps v=some y):A6 R1 w used v c (.ep ps) y:=by
 obtain ⟨cs,rfl,hd⟩:=JL hd
 cases hv with
 | ep hc=>
 exact ⟨[],rfl,(fun b hb=>by cases hb),fun R2 n hI _=>⟨.ep (dP.move (mvI hI) ((ps.qc hd).1.IK hc) (ps.dA y hp)),fun k go b h=>by cases k <;> cases h⟩⟩
theorem RP.S1 {G1:List GO} (hg:dq E R1 w G1) {used:List Nat} {pe:aO} {v:AV} {c:Value} {y:List pe.T} (hp:pe.under 0=true) (hv:Rel R1 w v c) (hd:A5 G1 used pe v=some y):A6 R1 w used v c (.map pe) y:=by
 obtain ⟨id,es,rfl,Ir,hu,hdl⟩:=HA hd
 cases hv with
 | map hb=>
 rename_i b
 refine ⟨[b],rfl,fun b' iS=>?_,fun R2 n hI mE=>⟨.map (by have:=mE 0 b rfl; simpa using this),fun k go b' h1 h2=>?_⟩⟩
 ·rw [List.mem_singleton] at iS
  subst iS
  exact ⟨id,hu,List.mem_cons_self,hb⟩
 ·cases k with
  | succ k=>cases h2
  | zero=>
   cases h1; cases h2
   obtain ⟨az,clock,e1,e2,e3⟩:=hg.obj id _ _ Ir hb
   exact ⟨az,clock,e1,dp.Rc (mvI hI) hdl (aO.xi hp y) e2,e3⟩
theorem RP.ok {G1:List GO} (hg:dq E R1 w G1) {used:List Nat} {p:RP} {v:AV} {c:Value} {y:p.T} (hp:p.under=true) (hv:Rel R1 w v c) (hd:p.dec G1 used v=some y):A6 R1 w used v c p y:=by
 cases p with
 | Rb p=>exact RP.S0 hp hv hd
 | ep ps=>exact RP.WX hp hv hd
 | map pe=>exact RP.S1 hg hp hv hd
theorem gu {α:Type} {l r:List α} {i:Nat} (h:i < l.length):nth (l++r) i=nth l i:=by
 rw [a8,a8,List.getElem?_append_left h]
theorem fC {α:Type} {l r:List α} (i:Nat):nth (l++r) (l.length+i)=nth r i:=by
 rw [a8,a8,List.getElem?_append_right (Nat.le_add_right _ _),Nat.add_sub_cancel_left]
theorem pn {α:Type} {l:List α} {i:Nat} {x:α} (h:nth l i=some x):i < l.length:=by
 rw [a8] at h
 exact (List.getElem?_eq_some_iff.1 h).1
theorem RPs.ok {G1:List GO} (hg:dq E R1 w G1):∀ {l:List RP} {used:List Nat} {vs:List AV} {cs:List Value} {y:tc l},l.all RP.under=true→aM R1 w vs cs→te G1 used l vs=some y →
  ∃ bs:List Nat,bs.length=(gT l y).length∧bs.Nodup∧(∀ b∈bs,∃ id,id∉used∧nth R1.obj id=some (.bU b)) ∧
   ∀ (R2:ai) (n:Nat),(∀ b o,R1.I b o→R2.I b o)→xj R2 n bs→aM R2 w (oC n l y) cs∧F6 R2 w (gT l y) bs
 | [],used,vs,cs,y,_,hv,hd=>by
  cases vs with
  | cons _ _=>cases hd
  | nil=>
  cases hv
  exact ⟨[],rfl,List.nodup_nil,(fun b hb=>by cases hb),fun R2 n _ _=>⟨.nil,fun k go b h=>by simp [gT,nth] at h⟩⟩
 | [p],used,vs,cs,y,hu,hv,hd=>by
  match vs,hv,hd with
  | [],_,hd=>cases hd
  | _ :: _ :: _,_,hd=>cases hd
  | [v],.cons hv .nil,hd=>
  have hu:p.under=true:=by simpa using hu
  obtain ⟨bs,h1,h2,h4⟩:=RP.ok hg hu hv hd
  refine ⟨bs,h1.trans (p.Re y).symm,?_,fun b hb=>let ⟨id,q1,_,q2⟩:=h2 b hb; ⟨id,q1,q2⟩,fun R2 n hI mE=>?_⟩
  ·have:bs.length≤1:=by rw [h1]; cases p <;> simp [RP.no]
   match bs,this with
   | [],_=>exact List.nodup_nil
   | [b],_=>simp
   | _ :: _ :: _,h=>simp at h
  ·obtain ⟨k1,k2⟩:=h4 R2 n hI mE
   exact ⟨.cons k1 .nil,k2⟩
 | p :: q :: l,used,vs,cs,y,hu,hv,hd=>by
  match vs,hv,hd with
  | [],_,hd=>cases hd
  | v :: vs,.cons (c:=c) (cs:=cs) hv SS,hd=>
  simp only [List.all_cons,Bool.and_eq_true] at hu
  obtain ⟨hu1,hu2⟩:=hu
  have hu2:(q :: l).all RP.under=true:=by simpa using hu2
  have hd:((p.dec G1 used v).bind fun x=>(te G1 (td used v) (q :: l) vs).bind fun y=>some (x,y))=some y:=hd
  cases hx:p.dec G1 used v with
  | none=>rw [hx] at hd; cases hd
  | some x=>
  rw [hx] at hd
  simp only [Option.bind_some] at hd
  cases hz:te G1 (td used v) (q :: l) vs with
  | none=>rw [hz] at hd; cases hd
  | some z=>
  rw [hz] at hd
  simp only [Option.bind_some] at hd
  cases hd
  obtain ⟨bs,h1,h2,h4⟩:=RP.ok hg hu1 hv hx
  obtain ⟨bs',k1,k0,k2,k4⟩:=RPs.ok hg hu2 SS hz
  have I2:bs.length=(p.ES x).length:=h1.trans (p.Re x).symm
  refine ⟨bs++bs',?_,?_,fun b hb=>?_,fun R2 n hI mE=>?_⟩
  ·show _=(p.ES x++gT (q :: l) z).length
   rw [List.length_append,List.length_append,I2,k1]
  ·have Fz:bs.Nodup:=by
    have:bs.length≤1:=by rw [h1]; cases p <;> simp [RP.no]
    match bs,this with
    | [],_=>exact List.nodup_nil
    | [b],_=>simp
    | _ :: _ :: _,h=>simp at h
   rw [List.nodup_append]
   refine ⟨Fz,k0,fun a ha b hb e=>?_⟩
   subst e
   obtain ⟨id,_,q2,q3⟩:=h2 a ha
   obtain ⟨jz,r1,r2⟩:=k2 a hb
   have:id=jz:=hg.inj id jz _ _ a q3 r2 rfl rfl
   subst this
   exact r1 q2
  ·rcases List.mem_append.1 hb with hb | hb
   ·obtain ⟨id,q1,_,q2⟩:=h2 b hb
    exact ⟨id,q1,q2⟩
   ·obtain ⟨id,q1,q2⟩:=k2 b hb
    exact ⟨id,fun hm=>q1 (ET hm),q2⟩
  ·have at1:xj R2 n bs:=fun k b hk=>mE k b (by rw [gu (pn hk)]; exact hk)
   have at2:xj R2 (n+p.no) bs':=fun k b hk=>by
    have:=mE (bs.length+k) b (by rw [fC]; exact hk)
    rw [h1] at this
    rw [Nat.add_assoc]; exact this
   obtain ⟨a1,a2⟩:=h4 R2 n hI at1
   obtain ⟨b1,b2⟩:=k4 R2 (n+p.no) hI at2
   refine ⟨.cons a1 b1,fun k go b iy hb=>?_⟩
   change nth (p.ES x++gT (q :: l) z) k=some go at iy
   rcases Nat.lt_or_ge k bs.length with hk | hk
   ·rw [gu (by rw [← I2]; exact hk)] at iy
    rw [gu hk] at hb
    exact a2 k go b iy hb
   ·obtain ⟨j,rfl⟩:∃ j,k=bs.length+j:=⟨k - bs.length,by omega⟩
    rw [fC] at hb
    rw [I2,fC] at iy
    exact b2 j go b iy hb
theorem xl:∀ (l:List RP) (n:Nat) (y:tc l),(oC n l y).length=l.length
 | [],_,_=>rfl
 | [_],_,_=>rfl
 | p :: q :: l,n,y=>by
  show (oC (n+p.no) (q :: l) y.2).length+1=(q :: l).length+1
  rw [xl (q :: l)]
theorem xh.of1 {R0:ai} {w0:World} {f:RF} {G G1:List GO} {r:AV} {c:Value} {y:tc f.l} (hf:f.under=true) (hG:dq E R0 w0 G) (st:Step ⟨R0.I,[]⟩ w0 (fun _=>0) fk R1 w (fun _=>0) fk) (hg:dq E R1 w G1) (eh:Rel R1 w r c) (hd:f.dec G1 r=some y) :
  ∃ R2,Rel R2 w (f.val G.length y) c∧dq E R2 w (G++gT f.l y)∧Step R0 w0 (fun _=>0) fk R2 w (fun _=>0) fk:=by
 unfold RF.under at hf
 rw [Bool.and_eq_true] at hf
 unfold RF.dec at hd
 obtain ⟨ht,hd⟩:f.zP r=true∧te G1 [] f.l (f.args r)=some y:=by
  cases ht:f.zP r with
  | true=>rw [ht] at hd; exact ⟨rfl,hd⟩
  | false=>rw [ht] at hd; cases hd
 obtain ⟨cs,oV,WY⟩:∃ cs,aM R1 w (f.args r) cs∧∀ R2 (x:tc f.l) n,aM R2 w (oC n f.l x) cs→Rel R2 w (f.val n x) c:=by
  unfold RF.args RF.val
  cases aas:f.bh with
  | true=>
   have:∃ vs,r=.bh vs:=by
    cases r <;> first | exact ⟨_,rfl⟩ | (simp [RF.zP,aas] at ht)
   obtain ⟨vs,rfl⟩:=this
   cases eh with
   | bh h=>exact ⟨_,h,fun R2 x n h=>.bh h⟩
  | false=>
   refine ⟨[c],.cons eh .nil,fun R2 x n h=>?_⟩
   simp only [cond_false]
   have hlen:=xl f.l n x
   revert h hlen
   generalize oC n f.l x=l
   intro h hlen
   cases h with
   | cons h _=>exact h
 obtain ⟨bs,h1,h2,h3,h4⟩:=RPs.ok hg hf.1 oV hd
 have jm:∀ b,¬ Own (⟨R0.I,[]⟩:ai) (fun _=>0) fk b:=fun b ho=>by
  obtain ⟨id,ro,q1,_⟩:=eV ho
  simp [nth] at q1
 have rk:∀ b∈bs,w0.heap.size≤b:=fun b hb=>by
  obtain ⟨id,_,hid⟩:=h3 b hb
  rcases Nat.lt_or_ge b w0.heap.size with cg | sA
  ·exact absurd (st.own b cg (.inl ⟨id,_,hid,rfl⟩)) (jm b)
  ·exact sA
 let R2:ai:=⟨R1.I,R0.obj++bs.map RO.bU⟩
 have e:Ext R0 w0 R2 w:=⟨st.ext.I,st.ext.cell,fun id ro h=>⟨ro,by rw [gu (pn h)]; exact h,cw.refl ro⟩,st.ext.lp⟩
 have cq:∀ b,b < w0.heap.size→w.heap[b]?=w0.heap[b]?:=fun b hb=>st.cq b hb (jm b)
 have im:∀ b o,b < w0.heap.size→R1.I b o→R0.I b o:=fun b o hb hi=>st.im b o hi hb (jm b)
 have aat:∀ {k ro},nth (bs.map RO.bU) k=some ro→∃ b,nth bs k=some b∧ro=.bU b:=fun {k ro} h=>by
  rw [a8,List.getElem?_map] at h
  cases hb:bs[k]? with
  | none=>rw [hb] at h; cases h
  | some b=>rw [hb] at h; exact ⟨b,by rw [a8]; exact hb,(Option.some.inj h).symm⟩
 have mE:xj R2 R0.obj.length bs:=fun k b hk=>by
  show nth (R0.obj++bs.map RO.bU) (R0.obj.length+k)=_
  rw [fC,a8,List.getElem?_map]
  rw [a8] at hk
  rw [hk]; rfl
 obtain ⟨k1,k2⟩:=h4 R2 R0.obj.length (fun _ _ h=>h) mE
 rw [hG.len] at k1
 have hold:∀ id ro,nth R2.obj id=some ro→nth R0.obj id=some ro∨∃ k b,id=R0.obj.length+k∧nth bs k=some b∧ro=.bU b:=fun id ro h=>by
  rcases Nat.lt_or_ge id R0.obj.length with cg | sA
  ·exact .inl (by rw [← gu (r:=bs.map RO.bU) cg]; exact h)
  ·obtain ⟨k,rfl⟩:∃ k,id=R0.obj.length+k:=⟨id - R0.obj.length,by omega⟩
   have h:nth (R0.obj++bs.map RO.bU) (R0.obj.length+k)=some ro:=h
   rw [fC] at h
   obtain ⟨b,q1,q2⟩:=aat h
   exact .inr ⟨k,b,rfl,q1,q2⟩
 have Rf:∀ id ro b,nth R0.obj id=some ro→ro.has b→b < w0.heap.size:=fun id ro b h hb=>by
  have hl:=pn h
  rw [hG.len] at hl
  have iy:nth G id=some G[id]:=by rw [a8]; exact List.getElem?_eq_getElem hl
  exact (hG.obj id _ _ iy h).lt hb
 have S2:∀ {k b},nth bs k=some b→b∈bs:=fun {k b} h=>by
  rw [a8] at h
  exact List.mem_of_getElem? h
 refine ⟨R2,WY R2 y _ k1,⟨?_,fun id go ro q1 q2=>?_,fun i j ri rj b q1 q2 b1 b2=>?_,hg.wf,fun g cs qf=>(hG.b6 g cs qf).mono e,hg.lo⟩,⟨e,st.os,st.tape,st.output,st.size,fun b hb _=>cq b hb,fun b hb ho=>?_,fun b o hi hb _=>im b o hb hi⟩⟩
 ·show (R0.obj++bs.map RO.bU).length=_
  rw [List.length_append,List.length_map,List.length_append,hG.len,h1]
 ·rcases hold id ro q2 with q2 | ⟨k,b,rfl,q3,rfl⟩
  ·have hl:=pn q2
   rw [hG.len] at hl
   rw [gu hl] at q1
   refine (hG.obj id go ro q1 q2).mono e (fun b hb=>cq b ?_) (fun b o hb hi=>im b o ?_ hi)
   ·exact (hG.obj id go ro q1 q2).lt hb
   ·exact (hG.obj id go ro q1 q2).lt hb
  ·rw [hG.len,fC] at q1
   exact k2 k go b q1 q3
 ·rcases hold i ri q1 with q1 | ⟨k,a,rfl,q3,rfl⟩
  ·rcases hold j rj q2 with q2 | ⟨k',a',rfl,q4,rfl⟩
   ·exact hG.inj i j ri rj b q1 q2 b1 b2
   ·have:b=a':=b2
    subst this
    have:=rk _ (S2 q4)
    have:=Rf i ri b q1 b1
    omega
  ·have hba:b=a:=b1
   subst hba
   rcases hold j rj q2 with q2 | ⟨k',a',rfl,q4,rfl⟩
   ·have:=rk _ (S2 q3)
    have:=Rf j rj b q2 b2
    omega
   ·have:b=a':=b2
    subst this
    have l1:=pn q3
    have l2:=pn q4
    rw [a8] at q3 q4
    have:=(List.getElem?_inj l1 h2).1 (q3.trans q4.symm)
    omega
 ·rcases eV ho with ⟨id,ro,q1,q2⟩
  rcases hold id ro q1 with q1 | ⟨k,a,rfl,q3,rfl⟩
  ·exact .inl ⟨id,ro,q1,q2⟩
  ·have:b=a:=q2
   subst this
   have:=rk _ (S2 q3)
   omega
theorem F7 {G1:List GO} {r:AV}:∀ {outs:List RF} {y:XT outs},JK G1 r outs=some y→(∀ f∈outs,f.under=true) →
  ∃ (f:RF) (z:tc f.l),f.under=true∧f.dec G1 r=some z∧∀ {α:Type} (G:List GO) (K:AV→List GO→α),Vy G K outs y=K (f.val G.length z) (G++gT f.l z)
 | [],_,h,_=>by cases h
 | [f],y,h,hu=>⟨f,y,hu f (by simp),h,fun _ _=>rfl⟩
 | f :: g :: l,y,h,hu=>by
  simp only [JK] at h
  cases hb:(f.zP r&&JJ f.l (f.args r)) with
  | true=>
   rw [hb] at h
   simp only [cond_true] at h
   cases hx:f.dec G1 r with
   | none=>rw [hx] at h; cases h
   | some x=>
    rw [hx] at h
    cases h
    exact ⟨f,x,hu f (by simp),hx,fun _ _=>rfl⟩
  | false=>
   rw [hb] at h
   simp only [cond_false] at h
   cases hx:JK G1 r (g :: l) with
   | none=>rw [hx] at h; cases h
   | some x=>
    rw [hx] at h
    cases h
    obtain ⟨f',z,k0,k1,k2⟩:=F7 hx (fun f hf=>hu f (List.mem_cons_of_mem _ hf))
    exact ⟨f',z,k0,k1,fun G K=>k2 G K⟩
theorem xh.of {g:FuncId} {args:List AV} {outs:List RF} {Q:XT outs→Prop} (hc:aH 0 args=true) (hp:∀ f∈outs,f.under=true)
  (h:cu E g args [] (fun r G'=>∃ y,JK G' r outs=some y∧Q y)):xh E g args outs Q:=fun G=>by
 refine ⟨h.1,fun R w cs hg hl=>?_⟩
 let R0:ai:=⟨R.I,[]⟩
 have m0:Mv R R0 0:=⟨fun _ _ h=>h,fun _ _ h=>absurd h (Nat.not_lt_zero _)⟩
 have MH:dq E R0 w []:=⟨rfl,fun id go ro h1 _=>by simp [nth] at h1,fun i j ri rj b h1=>by simp [R0,nth] at h1,hg.wf,fun g cs qf=>(hg.b6 g cs qf).move m0 (cp _ (E.nN g cs qf)),hg.lo⟩
 have vN:aM R0 w args cs:=hl.move m0 hc
 refine (h.2 R0 w cs MH vN).mono fun e w' he=>?_
 cases e with
 | panicked c=>exact he.elim
 | outgrown=>exact he.elim
 | returned c=>
  obtain ⟨r,G',R1,⟨y,hy,hQ⟩,eh,Ns,st⟩:=he
  obtain ⟨f,z,hf,hz,iy⟩:=F7 hy hp
  obtain ⟨R2,k1,k2,k3⟩:=xh.of1 hf hg st Ns eh hz
  refine ⟨_,_,R2,⟨y,hQ,?_⟩,k1,k2,k3⟩
  rw [iy]
  exact ⟨rfl,rfl⟩
end
end Go.Am
namespace Go.Am
open Go
structure aZ where
 ps:aP
 p:aO
 T:ps.T→Option p.T
def ap (E:Env) (g:FuncId) (e:aZ):Prop:=∀ x y,e.T x=some y→aW E g (e.ps.enc x) (fun r=>r=e.p.enc y)
inductive XK
 | norm
 | ret
 | ex (id:Nat)
def XK.is:XK→Exit→Bool
 | .norm,.normal=>true
 | .ret,.ret=>true
 | .ex i,.exit j=>Nat.beq i j
 | _,_=>false
def XK.exit:XK→Exit
 | .norm=>.normal
 | .ret=>.ret
 | .ex i=>.exit i
theorem XK.F1 {k:XK} {e:Exit} (h:k.is e=true):e=k.exit:=by
 cases k <;> cases e <;> simp_all [XK.is,XK.exit]
def JT:List (XK × cD)→Type
 | []=>Empty
 | [x]=>x.2.ps.T
 | x :: y :: l=>x.2.ps.T ⊕ JT (y :: l)
def lh (s:St):(outs:List (XK × cD))→Exit→St→Option (JT outs)
 | [],_,_=>none
 | [x],e,s'=>bif x.1.is e then x.2.dec s s' else none
 | x :: y :: l,e,s'=>bif x.1.is e then (x.2.dec s s').bind fun v=>some (.inl v) else (lh s (y :: l) e s').bind fun o=>some (.inr o)
def MP {α:Type} (s:St):(outs:List (XK × cD))→JT outs→(Exit→St→α)→α
 | [],o,_=>Empty.rec (fun _=>α) o
 | [x],o,K=>K x.1.exit (x.2.st s o)
 | x :: y :: l,o,K=>Sum.elim (fun v=>K x.1.exit (x.2.st s v)) (fun o=>MP s (y :: l) o K) o
inductive df
 | loop (gh:List (Loc × Nat × TypeId)) (head:cD) (outs:List (XK × cD))
 | join (outs:List (XK × cD))
 | rot (k:List Bool) (gh:List (Loc × Nat × TypeId)) (head:cD) (outs:List (XK × cD))
 | alt (n:Nat) (a b:df)
 | mo (gh:List (Loc × Nat × TypeId)) (head:cD) (outs:List (XK × cD))
def JM (n:Nat):df→df
 | .alt m a b=>bif Nat.beq n m then JM n a else JM n b
 | c=>c
def aN {V X:Type} (rd:V→Option (V ⊕ X)):Nat→V→Option X
 | 0,_=>none
 | n+1,v=>(rd v).bind fun o=>Sum.elim (fun v'=>aN rd n v') (fun x=>some x) o
def mo {V X:Type} (rd:(V→Option X)→V→Option X):Nat→V→Option X
 | 0,_=>none
 | n+1,v=>rd (mo rd n) v
structure lM (E:Env) (g:FuncId) where
 f:List AV→List GO→Option (Bool × AV × List GO)
 ok:∀ args G r G',f args G=some (true,r,G')→cu E g args G (fun r' zO=>r'=r∧zO=G')
structure S3 (E:Env) (g:FuncId) where
 ps:aP
 outs:List RF
 T:ps.T→Option (XT outs)
 ok:∀ x y,T x=some y→xh E g (ps.enc x) outs (fun z=>z=y)
structure gv where
 D:Hu
 yy:FuncId→Option aZ
 oD:FuncId→Nat→Option df
 fz:Bool
 N:Nat
 gt:(g:FuncId)→Option (lM D.toEnv g):=fun _=>none
 xt:(g:FuncId)→Option (S3 D.toEnv g):=fun _=>none
def qu {α:Type} (fz:Bool) (s:St) (K:St→α):α:=match fz with
 | true=>EH s K
 | false=>match s with
  | ⟨sl,bx,G,m,ro,n⟩=>K ⟨sl,bx,G,m,ro,n⟩
theorem cS {α:Type} (fz:Bool) (s:St) (K:St→α):qu fz s K=K s:=by
 cases fz
 ·rfl
 ·exact Hv s K
abbrev oE (X:Type):=FuncId→List AV→List GO→(AV→List GO→Option X)→Option X
abbrev lN (X:Type):=Nat→List AV→List GO→(Bool→List GO→Option X)→Option X
section ev
variable {X:Type}
def A7 (E:Env) (s:St) (o:Oper):Option (Int × Nat × (Nat→Oper)):=match o.op with
 | .index t x (.tmp y)=>match bw E s.af (.tmp y),E.ti t with
  | .v (.int k n),some i=>match i.k with
   | .arr len _ _=>some (n,len,fun j=>{ o with op:=.index t x (.const (.int k j)) })
   | _=>none
  | _,_=>none
 | .indexAddr t x (.tmp y)=>match bw E s.af (.tmp y),E.ti t with
  | .v (.int k n),some i=>match i.k with
   | .arr len _ _=>match bw E s.af x with
    | .v (.ep _)=>match E.MU t with
     | some _=>none
     | none=>some (n,len,fun j=>{ o with op:=.indexAddr t x (.const (.int k j)) })
    | _=>some (n,len,fun j=>{ o with op:=.indexAddr t x (.const (.int k j)) })
   | _=>none
  | _,_=>none
 | _=>none
def vj (E:Env) (fz:Bool) (f:FuncId) (g:Nat→Oper) (n:Int) (K:St→Option X) (s:St):Nat→Nat→Option X
 | 0,_=>none
 | m+1,j=>bif decide (n=(j:Int)) then (match ao E f s (g j) with
   | some (c,s')=>bif c then qu fz s' K else none
   | _=>none) else vj E fz f g n K s m (j+1)
def S4 (E:Env) (fz:Bool) (call:oE X) (lz:lN X) (f:FuncId) (o:Oper) (K:St→Option X) (s:St):Option X:=
 match o.op with
 | .call { callee:=.value x,args,.. }=>match bw E s.af x,lS E s.af args.toList with
  | .v (.fn g first cap),some l=>call g (first++l++cap) s.G (fun r G'=>qu fz ((s.bW G').put o.dst (.v r)) K)
  | .v (.yield id),some l=>lz id l s.G (fun b G'=>qu fz ((s.bW G').put o.dst (.v (.bool b))) K)
  | _,_=>none
 | .defer _=>none
 | .next x true=>match JF s o.dst (bw E s.af x) with
  | some (b,s1,s2)=>bif b then qu fz s1 K else qu fz s2 K
  | none=>none
 | .lookup t m k ok=>match vf E s t (bw E s.af m) (bw E s.af k) with
  | some (c,v,b)=>bif c then qu fz (s.put o.dst (.v (if ok then .bh [v,.bool b] else v))) K else none
  | none=>match ao E f s o with
   | some (c,s')=>bif c then qu fz s' K else none
   | _=>none
 | .mapUpdate t m k x=>match o.dst,vg E s t (bw E s.af m) (bw E s.af k) (bw E s.af x) with
  | none,some (c,s')=>bif c then qu fz s' K else none
  | _,_=>none
 | .insert t m k x=>match o.dst,vg E s t (bw E s.af m) (bw E s.af k) (bw E s.af x) with
  | none,some (c,s')=>bif c then qu fz s' K else none
  | _,_=>none
 | .call { callee:=.builtin .append,args,argTypes }=>match gE E f s o with
  | some (c,s')=>bif c then qu fz s' K else none
  | none=>match lS E s.af args.toList with
   | some l=>match A2 E s o.dst l argTypes.toList with
    | some (b,s1,c,s2)=>bif b then qu fz s1 K else bif c then qu fz s2 K else none
    | none=>match ao E f s o with
     | some (c,s')=>bif c then qu fz s' K else none
     | _=>none
   | none=>none
 | .call { callee:=.builtin .copy,args,argTypes }=>match lS E s.af args.toList with
  | some l=>match JH E s o.dst l argTypes.toList with
   | some (c,s')=>bif c then qu fz s' K else none
   | none=>match ao E f s o with
    | some (c,s')=>bif c then qu fz s' K else none
    | _=>none
  | none=>none
 | _=>match A7 E s o with
  | some (n,len,g)=>vj E fz f g n K s len 0
  | none=>match ao E f s o with
   | some (c,s')=>bif c then qu fz s' K else none
   | _=>none
def oF (E:Env) (fz:Bool) (call:oE X) (lz:lN X) (f:FuncId) (ops:List Oper) (o:Oper) (K:St→Option X) (s:St):Option X:=
 match o.guard with
 | none=>S4 E fz call lz f o K s
 | some (j,want)=>match og ops j with
  | none=>none
  | some d=>match lk s.af d with
   | .v (.bool b)=>match want with
    | true=>bif b then qu fz (s.put (some d) (.v (.bool true))) (S4 E fz call lz f o K) else qu fz ((s.put (some d) (.v (.bool false))).put o.dst (.v fM)) K
    | false=>bif b then qu fz ((s.put (some d) (.v (.bool true))).put o.dst (.v fM)) K else qu fz (s.put (some d) (.v (.bool false))) (S4 E fz call lz f o K)
   | .v (.bh [])=>qu fz (s.put o.dst (.v fM)) K
   | _=>none
def A8 (E:Env) (fz:Bool) (call:oE X) (lz:lN X) (f:FuncId) (ops:List Oper) (o:Oper) (K:St→Option X) (s:St):Option X:=
 match o.guard,jh E f s o with
 | none,some s'=>qu fz s' K
 | _,_=>oF E fz call lz f ops o K s
noncomputable def Nu {X:Type} (l:List Nat) (F:Nat→Option X):Option X:=match l with
 | []=>none
 | i :: r=>@ite _ (∀ j∈r,F j=F i) (Classical.propDecidable _) (F i) none
theorem HB {X:Type} {l:List Nat} {F:Nat→Option X} {x:X} (h:Nu l F=some x):∀ i∈l,F i=some x:=by
 cases l with
 | nil=>cases h
 | cons i r=>
  have h:@ite _ (∀ j∈r,F j=F i) (Classical.propDecidable _) (F i) none=some x:=h
  by_cases hr:∀ j∈r,F j=F i
  ·rw [if_pos hr] at h
   intro j hj
   rcases List.mem_cons.1 hj with rfl | hj
   ·exact h
   ·rw [hr j hj]; exact h
  ·rw [if_neg hr] at h
   cases h
theorem Nv {X:Type} {l:List Nat} {F:Nat→Option X} {x:X} (hl:l≠[]) (h:∀ i∈l,F i=some x):Nu l F=some x:=by
 cases l with
 | nil=>exact absurd rfl hl
 | cons i r=>
  show @ite _ (∀ j∈r,F j=F i) (Classical.propDecidable _) (F i) none=some x
  have hr:∀ j∈r,F j=F i:=fun j hj=>by rw [h j (List.mem_cons_of_mem _ hj),h i List.mem_cons_self]
  rw [if_pos hr]
  exact h i List.mem_cons_self
noncomputable def vk (E:Env) (fz:Bool) (call:oE X) (lz:lN X) (f:FuncId) (ops:List Oper) (o:Oper) (K:St→Option X) (s:St):Option X:=
 match o.guard,tJ E f s o,sI E s o with
 | none,some (c,s'),_=>bif c then qu fz s' K else none
 | none,none,some (c,s0,left,g)=>bif c then (bif left.isEmpty then qu fz s0 K else Nu left fun i=>bif (g i).1 then qu fz (g i).2 K else none) else none
 | _,_,_=>A8 E fz call lz f ops o K s
noncomputable def A9 (E:Env) (fz:Bool) (call:oE X) (lz:lN X) (f:FuncId) (ops:List Oper) (o:Oper) (K:St→Option X) (s:St):Option X:=
 match GR E f s o with
 | some (c,s')=>bif c then vk E fz call lz f ops o K s' else none
 | none=>vk E fz call lz f ops o K s
noncomputable def Nw (E:Env) (fz:Bool) (call:oE X) (lz:lN X) (f:FuncId) (ops:List Oper):List Oper→(St→Option X)→St→Option X
 | [],K,s=>K s
 | o :: rest,K,s=>A9 E fz call lz f ops o (fun s'=>match zB E f o s' with
  | some s2=>Nw E fz call lz f ops rest K s2
  | none=>none) s
def S5 (E:Env) (f:FuncId) (ops:List Oper) (o:Oper) (s:St):Bool:=match o.op,o.dst with
 | .lookup t m k ok,some d=>match BG ops s o,vf E s t (bw E s.af m) (bw E s.af k) with
  | some true,some (c,v,b)=>c&&AT (.v (if ok then .bh [v,.bool b] else v)) (lk s.af d)
  | _,_=>YN E f ops o s
 | _,_=>YN E f ops o s
def po (E:Env) (f:FuncId) (ops:List Oper):List Nat→St→Bool
 | [],_=>true
 | k :: l,s=>(match nth ops k with
  | some ok=>S5 E f ops ok s
  | none=>true)&&po E f ops l s
def oT (E:Env) (fz:Bool) (call:oE X) (lz:lN X) (fg:Option X→Option X→Option X) (f:FuncId) (ops:List Oper):DT→(St→Option X)→St→Option X
 | .done,K,s=>K s
 | .take j _ t,K,s=>match nth ops j with
  | some oj=>oF E fz call lz f ops oj (oT E fz call lz fg f ops t K) s
  | none=>none
 | .br i re _ t .stop,K,s=>match nth ops i with
  | some oi=>oF E fz call lz f ops oi (fun s'=>bif po E f ops re s' then oT E fz call lz fg f ops t K s' else none) s
  | none=>none
 | .br i re _ t more,K,s=>fg (match nth ops i with
  | some oi=>oF E fz call lz f ops oi (fun s'=>bif po E f ops re s' then oT E fz call lz fg f ops t K s' else none) s
  | none=>none) (oT E fz call lz fg f ops more K s)
 | .stop,_,_=>none
 | .al j W t,K,s=>match nth ops j with
  | some oj=>bif SK E f oj W s then oF E fz call lz f ops oj (oT E fz call lz fg f ops t K) s else none
  | none=>none
end ev
def zQ {X:Type} (N:St→Option X) (Q:Exit→St→Option X):Exit→St→Option X
 | .normal,s=>N s
 | e,s=>Q e s
def JN {X:Type} (id:Nat) (Q:Exit→St→Option X):Exit→St→Option X
 | .exit jz,s=>bif Nat.beq jz id then Q .normal s else Q (.exit jz) s
 | e,s=>Q e s
def S6 {X:Type} (Q:Exit→St→Option X):Exit→St→Option X
 | .goto _,_=>none
 | e,s=>Q e s
def JO {X:Type} (E:Env) (fn:Func) (K:AV→List GO→Option X):Exit→St→Option X
 | .normal,s | .ret,s=>match om s.marks s.G with
  | some G=>match Ji E (s.bW G) fn with
   | some r=>K r G
   | none=>none
  | none=>none
 | _,_=>none
def ui (s:St) (head:cD) (outs:List (XK × cD)):Exit→St→Option (head.ps.T ⊕ JT outs)
 | .normal,s'=>(head.dec s s').bind fun v=>some (.inl v)
 | e,s'=>(lh s outs e s').bind fun o=>some (.inr o)
noncomputable def BH {X:Type} (a b:Option X):Option X:=@ite _ (a=b) (Classical.propDecidable _) a none
def uj {X:Type} (fg:Option X→Option X→Option X):Prop:=∀ a b x,fg a b=some x→a=some x∧b=some x
def EU {X:Type} (id:Nat) (K:Bool→List GO→Option X):Exit→St→Option X:=fun e s=>match nth s.G id with
 | some (.loop _ _ fn sl n ps rH bd d _)=>match e with
  | .normal=>K true (aD s.G id (.loop false none fn sl n ps rH bd d false))
  | .ret=>K false (aD s.G id (.loop false (some .ret) fn sl n ps rH bd d true))
  | .exit i=>K false (aD s.G id (.loop false (some (.exit i)) fn sl n ps rH bd d true))
  | _=>none
 | _=>none
def YS (fp:Nat):Nat:=fp % 4096
def fpP (fp:Nat):Nat:=fp / 4096
abbrev Vz:=FuncId→Nat→Code→(X:Type)→(Option X→Option X→Option X)→(Exit→St→Option X)→St→Option X
section
variable (C:gv) (ih:Vz)
def CK {X:Type} (fg:Option X→Option X→Option X):oE X:=fun g args G K=>
 bif C.D.okF g then match C.D.P.funcs[g]? with
   | some fn=>match fn.body with
    | some b => bif !(fn.name == "runtime.NumGoroutine") then ih g 1 b X fg (JO C.D.toEnv fn (bif C.D.yB g 131072 then SZ C.D.toEnv (C.D.yB g 131073) (C.D.yB g 131074) fn.resultTypes.toList K else K)) (St.init fn.ntmps args G) else none
    | none=>none
   | none=>none
  else none
def CL {X:Type} (fg:Option X→Option X→Option X):oE X:=fun g args G K=>
 match C.yy g with
 | some e=>(e.ps.dec args).bind fun x=>(e.T x).bind fun y=>K (e.p.enc y) G
 | none=>match C.gt g with
  | some e=>match e.f args G with
   | some (c,r,G')=>bif c then K r G' else none
   | none=>none
  | none=>match C.xt g with
   | some e=>(e.ps.dec args).bind fun x=>(e.T x).bind fun o=>Vy G K e.outs o
   | none=>CK C ih fg g args G K
def Nx (n:Nat):List Tmp→Bool
 | []=>true
 | t :: l=>Nat.blt t n&&Nx n l
def Ny {X:Type} (fg:Option X→Option X→Option X):lN X:=fun id args G K=>match nth G id with
 | some (.loop false _ fp sl n ps rH bd _ false)=>
  bif Nat.beq args.length ps.length&&Nx n ps&&bu (C.D.dt (YS fp)) rH&&bu (C.D.dt (YS fp)) bd then
   ih (YS fp) (2 * fpP fp) rH X fg (fun e s1=>match e with
    | .normal=>match nth s1.G id with
     | some (.loop false p fn sl n ps rH Vw d false)=>ih (YS fp) (2 * fpP fp+1) bd X fg (EU id K) (s1.bW (aD s1.G id (.loop true p fn sl n ps rH Vw d false)))
     | _=>none
    | _=>none) (St.round id (wZ ps args sl) n G)
  else none
 | _=>none
noncomputable def xm (f:FuncId) (p:Nat) (c:Code) (X:Type) (fg:Option X→Option X→Option X) (K:Exit→St→Option X) (s:St):Option X:=
 match c with
 | .skip=>K .normal s
 | .label _=>K .normal s
 | .seq x y=>ih f (2 * p) x X fg (zQ (ih f (2 * p+1) y X fg K) K) s
 | .cond c x y=>match bw C.D.toEnv s.af c with
  | .v (.bool b)=>bif b then ih f (2 * p) x X fg K s else ih f (2 * p+1) y X fg K s
  | _=>none
 | .block id c=>ih f (2 * p) c X fg (JN id K) s
 | .exit id=>K (.exit id) s
 | .ret=>K .ret s
 | .region _ ops false=>Nw C.D.toEnv C.fz (CL C ih fg) (Ny C ih fg) f ops.toList ops.toList (K .normal) s
 | .region id ops true=>match C.D.dt f id with
  | some pl=>oT C.D.toEnv C.fz (CL C ih fg) (Ny C ih fg) fg f ops.toList pl.T (K .normal) s
  | none=>none
 | .scope c=>ih f (2 * p) c X fg (S6 K) s
 | .loop c=>ih f (2 * p) c X fg (zQ (ih f p (.loop c) X fg K) K) s
 | .rangeFunc g ps rH bd=>match s.ro with
  | none=>match bw C.D.toEnv s.af g with
   | .v (.fn h first cap)=>CL C ih fg h (first++[.yield (s.G.length+1)]++cap) (s.G++[.defers true]++[.loop false none (4096 * p+f) (hJ s.af) s.n ps.toList rH bd s.G.length false])
    (fun _ G'=>match nth G' (s.G.length+1) with
     | some (.loop busy pending _ _ _ _ _ _ _ done)=>bif !busy || done then
       match pending with
       | none=>qu C.fz ⟨s.af,s.boxes,aD G' (s.G.length+1) .dead,s.G.length :: s.marks,s.ro,s.n⟩ (K .normal)
       | some .ret=>qu C.fz ⟨s.af,s.boxes,aD G' (s.G.length+1) .dead,s.G.length :: s.marks,s.ro,s.n⟩ (K .ret)
       | some (.exit i)=>qu C.fz ⟨s.af,s.boxes,aD G' (s.G.length+1) .dead,s.G.length :: s.marks,s.ro,s.n⟩ (K (.exit i))
       | _=>none
      else none
     | _=>none)
   | _=>none
  | some _=>none
 | _=>none
def EV:List Oper→List Tmp
 | []=>[]
 | o :: l=>match o.dst with
  | some d=>d :: EV l
  | none=>EV l
def kL:Code→List Tmp→List Tmp
 | .region _ ops _,r=>EV ops.toList++r
 | .seq x y,r=>kL x (kL y r)
 | .cond _ x y,r=>kL x (kL y r)
 | .block _ c,r=>kL c r
 | .scope c,r=>kL c r
 | .loop c,r=>kL c r
 | .rangeFunc _ ps a b,r=>ps.toList++kL a (kL b r)
 | _,r=>r
def xn (W:List Tmp) (t:cD):cD:=⟨t.ps,t.sl,W,t.bx,t.g,t.Vu⟩
def rU (W:List Tmp):List (XK × cD)→List (XK × cD)
 | []=>[]
 | (k,t) :: l=>(k,xn W t) :: rU W l
def JP:Code→Bool
 | .loop _=>true
 | _=>false
noncomputable def WZ {X:Type} (f:FuncId) (p:Nat) (c:Code) (outs:List (XK × cD)) (K:Exit→St→Option X) (s:St):Option X:=
 (xm C ih f p c (JT outs) BH (lh s outs) s).bind fun o=>MP s outs o K
noncomputable def Rg {X:Type} (f:FuncId) (p:Nat) (b:Code) (s1:St) (head:cD) (outs:List (XK × cD)) (K:Exit→St→Option X):Option X:=
 (head.dec s1 s1).bind fun v0=>(aN (fun v=>ih f (2 * p) b (head.ps.T ⊕ JT outs) BH (ui s1 head outs) (head.st s1 v)) C.N v0).bind fun o=>MP s1 outs o K
def JQ (s:St) (head:cD) (outs:List (XK × cD)) (k:head.ps.T→Option (JT outs)):Exit→St→Option (JT outs)
 | .normal,s'=>(head.dec s s').bind k
 | e,s'=>lh s outs e s'
noncomputable def JR {X:Type} (f:FuncId) (p:Nat) (b:Code) (s1:St) (head:cD) (outs:List (XK × cD)) (K:Exit→St→Option X):Option X:=
 (head.dec s1 s1).bind fun v0=>(mo (fun k v=>ih f (2 * p) b (JT outs) BH (JQ s1 head outs k) (head.st s1 v)) C.N v0).bind fun o=>MP s1 outs o K
def JS {X:Type} (fg:Option X→Option X→Option X) (f:FuncId) (K:Exit→St→Option X):List Bool→Nat→Code→St→Option X
 | [],_,_,s=>K .normal s
 | true :: k,q,.seq x y,s=>ih f (2 * q) x X fg (zQ (JS fg f K k (2 * q+1) y) K) s
 | false :: k,q,.seq x _,s=>JS fg f K k (2 * q) x s
 | _ :: _,_,_,_=>none
def Nz {X:Type} (fg:Option X→Option X→Option X) (f:FuncId):List Bool→Nat→Code→(Exit→St→Option X)→St→Option X
 | [],q,c,K,s=>ih f q c X fg K s
 | true :: k,q,.seq _ y,K,s=>Nz fg f k (2 * q+1) y K s
 | false :: k,q,.seq x y,K,s=>Nz fg f k (2 * q) x (zQ (ih f (2 * q+1) y X fg K) K) s
 | _ :: _,_,_,_,_=>none
noncomputable def W0 {X:Type} (f:FuncId) (p:Nat) (b:Code) (k:List Bool) (s1:St) (head:cD) (outs:List (XK × cD)) (K:Exit→St→Option X):Option X:=
 ((JS ih BH f (ui s1 head outs) k (2 * p) b s1).bind fun r0=>
  Sum.elim (fun v0=>aN (fun v=>Nz ih BH f k (2 * p) b (zQ (JS ih BH f (ui s1 head outs) k (2 * p) b) (ui s1 head outs)) (head.st s1 v)) C.N v0) (fun x=>some x) r0).bind fun o=>MP s1 outs o K
noncomputable def xo (f:FuncId) (p:Nat) (c:Code) (X:Type) (fg:Option X→Option X→Option X) (K:Exit→St→Option X) (s:St):Option X:=
 match C.oD f p with
 | none=>xm C ih f p c X fg K s
 | some ct=>match JM s.G.length ct with
  | .join outs=>bif JP c then none else WZ C ih f p c (rU (kL c []) outs) K s
  | .loop gh head outs=>match c with
   | .loop b=>match gZ gh s with
    | some s1=>Rg C ih f p b s1 (xn (kL b []) head) (rU (kL b []) outs) K
    | none=>none
   | _=>none
  | .rot k gh head outs=>match c with
   | .loop b=>match gZ gh s with
    | some s1=>W0 C ih f p b k s1 (xn (kL b []) head) (rU (kL b []) outs) K
    | none=>none
   | _=>none
  | .mo gh head outs=>match c with
   | .loop b=>match gZ gh s with
    | some s1=>JR C ih f p b s1 (xn (kL b []) head) (rU (kL b []) outs) K
    | none=>none
   | _=>none
  | .alt _ _ _=>none
end
noncomputable def ev (C:gv):Nat→Vz:=Nat.rec (fun _ _ _ _ _ _ _=>none) (fun _ ih=>xo C ih)
end Go.Am
namespace Go.Am
open Go
section ext
variable {E:Env} {f:FuncId} {s s':St} {o:Oper}
theorem aU.put (s:St) (d:Option Tmp) (x:SV):aU s (s.put d x):=by
 cases d with
 | none=>exact aU.refl s
 | some d=>
  simp only [St.put]
  split
  ·exact ⟨⟨[_],rfl⟩,⟨[],rfl⟩,rfl⟩
  ·exact aU.refl s
theorem aU.bW (s:St) (G:List GO):aU s (s.bW G):=⟨⟨[],rfl⟩,⟨[],rfl⟩,rfl⟩
theorem aU.dO (s:St) (o:GO):aU s (s.dO o):=⟨⟨[],rfl⟩,⟨[],rfl⟩,rfl⟩
theorem aU.uz (s:St) (d:Nat) (cs:List AV):aU s (s.uz d cs):=⟨⟨[],rfl⟩,⟨[_],rfl⟩,rfl⟩
theorem aU.kill (s:St) (d:Nat):aU s (s.kill d):=⟨⟨[_],rfl⟩,⟨[],rfl⟩,rfl⟩
theorem HC {c:Bool} {s':St} (h:gE E f s o=some (c,s')):aU s s':=by
 unfold gE at h
 repeat' (split at h)
 all_goals (first | (cases h; done) | skip)
 all_goals (injection h with h; injection h with _ h; subst h; exact (aU.bW _ _).trans (aU.put _ _ _))
theorem EW {c:Bool} (h:ao E f s o=some (c,s')):aU s s':=by
 have alloc:∀ {el:TypeId} {cs:List AV} {c:Bool} {s':St},fc E f s o.dst el cs=some (c,s')→aU s s':=by
  intro el cs c s' h
  unfold fc at h
  repeat' (split at h)
  all_goals (first | (cases h; done) | skip)
  ·injection h with h; injection h with _ h; subst h; exact (aU.dO _ _).trans (aU.put _ _ _)
  ·injection h with h; injection h with _ h; subst h; exact ((aU.kill _ _).trans (aU.uz _ _ _)).trans (aU.put _ _ _)
 have store:∀ {t:TypeId} {p x:SV} {s':St},jB E s t p x=some s'→aU s s':=by
  intro t p x s' h
  unfold jB at h
  repeat' (split at h)
  all_goals (first | (cases h; done) | skip)
  all_goals (injection h with h; subst h)
  ·exact aU.uz _ _ _
  ·exact aU.bW _ _
 have Em:∀ {t:TypeId} {p x:SV} {c:Bool} {s':St},jC E s t p x=some (c,s')→aU s s':=by
  intro t p x c s' h
  unfold jC at h
  repeat' (split at h)
  all_goals (first | (cases h; done) | skip)
  all_goals (injection h with h; injection h with _ h; subst h)
  all_goals (first | exact aU.bW _ _ | exact store (by assumption))
 have blt:∀ {b:Builtin} {l:List AV} {tys:List TypeId} {c:Bool} {s':St},bI E s o.dst b l tys=some (c,s')→aU s s':=by
  intro b l tys c s' h
  unfold bI at h
  repeat' (split at h)
  all_goals (first | (cases h; done) | skip)
  all_goals (injection h with h; injection h with _ h; subst h)
  all_goals (first | exact aU.put _ _ _ | exact (aU.bW _ _).trans (aU.put _ _ _) | exact aU.bW _ _)
 have update:∀ {t:TypeId} {m k x:SV} {s':St},fe E s t m k x=some s'→aU s s':=by
  intro t m k x s' h
  unfold fe at h
  repeat' (split at h)
  all_goals (first | (cases h; done) | skip)
  all_goals (injection h with h; subst h; exact aU.bW _ _)
 have next:∀ {x:SV} {s':St},lq s o.dst x=some s'→aU s s':=by
  intro x s' h
  unfold lq at h
  split at h
  ·split at h
   ·rename_i l pos hg
    cases hb:Nat.blt pos l.length <;> rw [hb] at h <;> simp only [cond_true,cond_false] at h <;> cases h
    ·exact aU.put _ _ _
    ·exact (aU.bW _ _).trans (aU.put _ _ _)
   ·cases h
  ·cases h
 have En:∀ {t:TypeId} {m k:SV} {c:Bool} {v:AV} {s':St},gj E s t m k=some (c,v,s')→aU s s':=by
  intro t m k c v s' h
  unfold gj at h
  repeat' (split at h)
  all_goals (first | (cases h; done) | skip)
  all_goals (injection h with h; injection h with _ h; injection h with _ h; subst h; exact aU.bW _ _)
 have Eo:∀ {m st x:SV} {c:Bool} {s':St},eB s m st x=some (c,s')→aU s s':=by
  intro m st x c s' h
  unfold eB at h
  repeat' (split at h)
  all_goals (first | (cases h; done) | skip)
  all_goals (injection h with h; injection h with _ h; subst h; exact aU.bW _ _)
 unfold ao at h
 repeat' (split at h)
 all_goals (first | (cases h; done) | exact alloc h | exact blt h | (rename_i hf; cases h; exact HC hf) | skip)
 all_goals (injection h with h; injection h with _ h; subst h)
 all_goals (first | exact aU.put _ _ _ | exact (aU.dO _ _).trans (aU.put _ _ _) | skip)
 all_goals (first | exact Em (by assumption) | exact update (by assumption) | exact (En (by assumption)).trans (aU.put _ _ _) | exact Eo (by assumption) | exact next (by assumption))
theorem cu.gD {g:FuncId} {args Rh:List AV} {G:List GO} {Q:AV→List GO→Prop} (hw:cF args Rh) (h:cu E g Rh G Q):cu E g args G Q:=
 ⟨h.1,fun R w cs hg hl=>h.2 R w cs hg (hw.rel hl)⟩
theorem CM {K:St→Prop} (h:jY E f o K s):jY E f o (fun s'=>K s'∧aU s s') s:=by
 unfold jY at *
 split
 ·rename_i x args tys ho
  rw [ho] at h
  simp only at h
  split at h
  ·exact h.mono fun r G' hk=>⟨hk,(aU.bW _ _).trans (aU.put _ _ _)⟩
  ·exact h.mono fun r G' hk=>⟨hk,(aU.bW _ _).trans (aU.put _ _ _)⟩
  ·exact h
 ·rename_i ho
  rw [ho] at h
  exact h
 ·rename_i nc nd
  split at h
  ·rename_i ho
   exact absurd ho (nc _ _ _)
  ·exact h.elim
  ·split at h
   ·rename_i c s' hs
    obtain ⟨hc,hk⟩:=h.out
    exact dz.mk hc ⟨hk,EW hs⟩
   ·exact h.elim
theorem lA {K:St→Prop} {ops:List Oper} (h:b8 E f ops o K s):b8 E f ops o (fun s'=>K s'∧aU s s') s:=by
 unfold b8 at *
 split
 ·rename_i hg
  rw [hg] at h
  exact CM h
 ·rename_i j want hg
  rw [hg] at h
  simp only at h
  split
  ·rename_i hd
   rw [hd] at h
   exact h
  ·rename_i d hd
   rw [hd] at h
   simp only at h
   split
   ·rename_i b hb
    rw [hb] at h
    simp only at h
    refine ⟨fun e=>?_,fun e=>⟨h.2 e,(aU.put _ _ _).trans (aU.put _ _ _)⟩⟩
    exact s7 (CM (h.1 e)) fun s' hh=>⟨hh.1,(aU.put _ _ _).trans hh.2⟩
   ·rename_i hb
    rw [hb] at h
    exact ⟨h,aU.put _ _ _⟩
   ·rename_i hb iS
    split at h
    ·rename_i b vb
     exact absurd vb (hb b)
    ·rename_i vb
     exact absurd vb iS
    ·exact h
theorem yS {K K':St→Prop} {ops:List Oper} (h:fT E f ops o K s) (hK:∀ s,K s→K' s):fT E f ops o K' s:=by
 unfold fT at *
 split
 ·rename_i s' h1 h2
  rw [h1,h2] at h
  exact hK _ h
 ·rename_i hn
  split at h
  ·rename_i s' h1 h2
   exact absurd h2 (hn s' h1)
  ·exact b9 h hK
theorem uM {s':St} (h:jh E f s o=some s'):aU s s':=by
 unfold jh at h
 repeat' (split at h)
 all_goals (first | (cases h; done) | skip)
 all_goals (injection h with h; subst h; exact (aU.dO _ _).trans (aU.put _ _ _))
theorem Ba {K:St→Prop} {ops:List Oper} (h:fT E f ops o K s):fT E f ops o (fun s'=>K s'∧aU s s') s:=by
 unfold fT at *
 split
 ·rename_i s' h1 h2
  rw [h1,h2] at h
  exact ⟨h,uM h2⟩
 ·rename_i hn
  split at h
  ·rename_i s' h1 h2
   exact absurd h2 (hn s' h1)
  ·exact lA h
theorem lO {K K':St→Prop} {ops:List Oper} (h:fm E f ops o K s) (hK:∀ s,K s→K' s):fm E f ops o K' s:=by
 unfold fm at *
 split at h
 ·obtain ⟨h1,h2⟩:=h.out
  exact dz.mk h1 (hK _ h2)
 ·obtain ⟨h1,h2,h3⟩:=h.out
  exact dz.mk h1 ⟨fun e=>hK _ (h2 e),fun i hi=>let ⟨k1,k2⟩:=(h3 i hi).out; dz.mk k1 (hK _ k2)⟩
 ·exact yS h hK
theorem HD {c:Bool} {s':St} (h:tJ E f s o=some (c,s')):aU s s':=by
 unfold tJ at h
 repeat' (split at h)
 all_goals (first | (cases h; done) | skip)
 all_goals (injection h with h; injection h with _ h; subst h; exact (aU.bW _ _).trans (aU.put _ _ _))
theorem EX {c:Bool} {s0:St} {left:List Nat} {g:Nat→Bool × St} (h:sI E s o=some (c,s0,left,g)):aU s s0∧∀ i,aU s (g i).2:=by
 unfold sI at h
 split at h
 ·unfold zf at h
  split at h
  ·split at h
   ·split at h
    ·cases h
     exact ⟨aU.put _ _ _,fun i=>(aU.bW _ _).trans (aU.put _ _ _)⟩
    ·cases h
   ·cases h
  ·cases h
 ·cases h
theorem rV {K:St→Prop} {ops:List Oper} (h:fm E f ops o K s):fm E f ops o (fun s'=>K s'∧aU s s') s:=by
 unfold fm at *
 split at h
 ·rename_i hb
  obtain ⟨h1,h2⟩:=h.out
  exact dz.mk h1 ⟨h2,HD hb⟩
 ·rename_i hb
  obtain ⟨h1,h2,h3⟩:=h.out
  obtain ⟨k1,k2⟩:=EX hb
  exact dz.mk h1 ⟨fun e=>⟨h2 e,k1⟩,fun i hi=>let ⟨q1,q2⟩:=(h3 i hi).out; dz.mk q1 ⟨q2,k2 i⟩⟩
 ·exact Ba h
theorem lP {K K':St→Prop} {ops:List Oper} (h:fq E f ops o K s) (hK:∀ s,K s→K' s):fq E f ops o K' s:=by
 unfold fq at *
 split at h
 ·exact ⟨h.1,lO h.2 hK⟩
 ·exact lO h hK
theorem ik {cut wk:Bool}:∀ {l:List Operand} {s s':St} {c:Bool},gO cut wk l s=(c,s')→aU s s'
 | [],s,s',c,h=>by
  simp only [gO] at h
  cases h
  exact aU.refl _
 | .tmp t :: l,s,s',c,h=>by
  unfold gO at h
  split at h
  ·rename_i c1 s1 h1
   cases h2:gO cut wk l s1 with
   | mk c2 s2=>
   rw [h2] at h
   simp only [Prod.mk.injEq] at h
   obtain ⟨_,rfl⟩:=h
   exact (od h1).trans (ik h2)
  ·exact ik h
 | .const _ :: l,s,s',c,h=>ik (l:=l) h
 | .global _ :: l,s,s',c,h=>ik (l:=l) h
 | .func _ :: l,s,s',c,h=>ik (l:=l) h
theorem JU {s s':St} {o:Oper} {c:Bool} (h:GR E f s o=some (c,s')):aU s s':=by
 unfold GR at h
 split at h
 ·split at h
  ·injection h with h
   exact ik h
  ·cases h
 ·cases h
theorem Bb {K:St→Prop} {ops:List Oper} (h:fq E f ops o K s):fq E f ops o (fun s'=>K s'∧aU s s') s:=by
 unfold fq at *
 split at h
 ·rename_i c s' hz
  exact ⟨h.1,lO (rV h.2) fun s2 h2=>⟨h2.1,(JU hz).trans h2.2⟩⟩
 ·exact rV h
theorem xp {s s':St} {l:Loc} {sz:Nat} {e:TypeId} (h:n9 s l sz e=some s'):aU s s':=by
 unfold n9 at h
 cases Ek:Nat.ble 196608 sz with
 | true=>rw [Ek] at h; cases h; exact aU.dO _ _
 | false=>
 rw [Ek] at h
 cases l with
 | slot t=>
  simp only at h
  split at h
  ·cases h; exact ⟨⟨[_],rfl⟩,⟨[],rfl⟩,rfl⟩
  ·cases h
 | box k i=>
  simp only at h
  split at h
  ·split at h
   ·cases h; exact ⟨⟨[],rfl⟩,⟨[_],rfl⟩,rfl⟩
   ·cases h
  ·cases h
 | row id i=>
  simp only at h
  split at h
  ·split at h
   ·cases h; exact ⟨⟨[],rfl⟩,⟨[],rfl⟩,rfl⟩
   ·cases h
  ·cases h
theorem nl:∀ {l:List (Loc × Nat × TypeId)} {s s':St},gZ l s=some s'→aU s s'
 | [],s,s',h=>by
  simp only [gZ] at h
  cases h
  exact aU.refl _
 | (l,sz,e) :: r,s,s',h=>by
  unfold gZ at h
  split at h
  ·rename_i s1 h1
   exact (xp h1).trans (nl h)
  ·cases h
theorem oG:∀ {l:List (Loc × Nat × TypeId)} {s:St},aU s (je l s)
 | [],s=>aU.refl _
 | (l,sz,e) :: r,s=>by
  unfold je
  split
  ·rename_i s1 h1
   exact (xp h1).trans oG
  ·exact oG
theorem HE {s s':St} {o:Oper} (h:zB E f o s=some s'):aU s s':=by
 unfold zB at h
 split at h
 ·cases h; exact aU.refl _
 ·split at h
  ·split at h
   ·rename_i hz
    cases h
    exact od hz
   ·cases h
  ·split at h
   ·cases h; exact aU.refl _
   ·split at h
    ·cases h; exact oG
    ·cases h
theorem xq {K K':St→Prop} {ops:List Oper} (hK:∀ s,K s→K' s):∀ {l:List Oper} {s:St},oh E f ops l K s→oh E f ops l K' s
 | [],s,h=>hK s h
 | _ :: _,_,h=>lP h fun s' h'=>by
  unfold zD at *
  split at h'
  ·exact xq hK h'
  ·exact h'.elim
theorem xr {K K':St→Prop} {ops:List Oper} (hK:∀ s,K s→K' s) {T:DT} {s:St} (h:sD E f ops T K s):sD E f ops T K' s:=
 fA (ops:=⟨ops⟩) hK T s h
theorem zS {K:St→Prop} {ops:List Oper}:∀ {l:List Oper} {s:St},oh E f ops l K s→oh E f ops l (fun s'=>K s'∧aU s s') s
 | [],s,h=>⟨h,aU.refl s⟩
 | o :: l,s,h=>by
  simp only [oh] at *
  refine lP (Bb h) fun s' hh=>?_
  obtain ⟨h1,h2⟩:=hh
  unfold zD at *
  split at h1
  ·rename_i s2 hp
   exact xq (fun s3 h3=>⟨h3.1,(h2.trans (HE hp)).trans h3.2⟩) (zS h1)
  ·exact h1.elim
theorem rW {K:St→Prop} {ops:List Oper}:∀ {T:DT} {s:St},sD E f ops T K s→sD E f ops T (fun s'=>K s'∧aU s s') s
 | .done,s,h=>⟨h,aU.refl s⟩
 | .stop,_,_=>trivial
 | .take j C T,s,h=>by
  unfold sD at h ⊢
  split
  ·rename_i oj hj
   rw [hj] at h
   exact b9 (lA h) fun s' hh=>xr (fun s2 h2=>⟨h2.1,hh.2.trans h2.2⟩) (rW hh.1)
  ·rename_i hj
   rw [hj] at h
   exact h
 | .al j W T,s,h=>by
  unfold sD at h ⊢
  split
  ·rename_i oj hj
   rw [hj] at h
   exact ⟨h.1,b9 (lA h.2) fun s' hh=>xr (fun s2 h2=>⟨h2.1,hh.2.trans h2.2⟩) (rW hh.1)⟩
  ·rename_i hj
   rw [hj] at h
   exact h
 | .br i re C T more,s,h=>by
  unfold sD at h ⊢
  refine ⟨?_,rW h.2⟩
  have h:=h.1
  split
  ·rename_i oj hj
   rw [hj] at h
   exact b9 (lA h) fun s' hh=>⟨hh.1.1,xr (fun s2 h2=>⟨h2.1,hh.2.trans h2.2⟩) (rW hh.1.2)⟩
  ·rename_i hj
   rw [hj] at h
   exact h
end ext
def lQ (E:Env) (c:Code) (Q:Exit→St→Prop) (s:St):Prop:=fS E c (fun e s'=>Q e s'∧aU s s') s
section sound
variable {E:Env} {f:FuncId} {s:St} {X:Type} {fz:Bool} {call:oE X} {lz:lN X} {fg:Option X→Option X→Option X} {x:X}
def np (E:Env) (call:oE X):Prop:=∀ g args G K x,call g args G K=some x→cu E g args G (fun r G'=>K r G'=some x)
def uk (E:Env) (lz:lN X):Prop:=∀ id args G K x,lz id args G K=some x→kB E id args G (fun b G'=>K b G'=some x)
theorem bj {α:Type} {c:Bool} {a:Option α} {x:α} (h:(bif c then a else none)=some x):c=true∧a=some x:=by
 cases c
 ·cases h
 ·exact ⟨rfl,h⟩
theorem bind_some {α β:Type} {a:Option α} {k:α→Option β} {x:β} (h:a.bind k=some x):∃ y,a=some y∧k y=some x:=by
 cases a with
 | none=>cases h
 | some y=>exact ⟨y,rfl,h⟩
theorem HF {o:Oper} {n:Int} {len:Nat} {g:Nat→Oper} (h:A7 E s o=some (n,len,g)) {j:Nat} (hj:n=(j:Int)):ao E f s (g j)=ao E f s o:=by
 subst hj
 unfold A7 at h
 have DA:∀ k:IntKind,bw E s.af (.const (.int k (j:Int)))=.v (.int k j):=fun k=>rfl
 split at h
 ·rename_i t x y ho
  split at h
  ·rename_i k n i h1 h2
   split at h
   ·injection h with h; injection h with e1 h; injection h with e2 h
    subst h; subst e1
    simp only [ao,ho,DA,h1]
   ·cases h
  ·cases h
 ·rename_i t x y ho
  split at h
  ·rename_i k n i h1 h2
   split at h
   ·split at h
    ·split at h
     ·cases h
     ·injection h with h; injection h with e1 h; injection h with e2 h
      subst h; subst e1
      simp only [ao,ho,DA,h1]
    ·injection h with h; injection h with e1 h; injection h with e2 h
     subst h; subst e1
     simp only [ao,ho,DA,h1]
   ·cases h
  ·cases h
 ·cases h
theorem pU {o:Oper} {n:Int} {len:Nat} {g:Nat→Oper} (hi:A7 E s o=some (n,len,g)) {K:St→Option X}:∀ (m j:Nat),vj E fz f g n K s m j=some x→∃ c s',ao E f s o=some (c,s')∧c=true∧K s'=some x
 | 0,_,h=>by cases h
 | m+1,j,h=>by
  unfold vj at h
  by_cases hn:n=(j:Int)
  ·rw [decide_eq_true hn,cond_true,HF hi hn] at h
   split at h
   ·rename_i c s' hs
    obtain ⟨h1,h2⟩:=bj h
    rw [cS] at h2
    exact ⟨c,s',hs,h1,h2⟩
   ·cases h
  ·rw [decide_eq_false hn,cond_false] at h
   exact pU hi m (j+1) h
theorem xu {ops:List Oper} {o:Oper} (h:S5 E f ops o s=true):Ex E f ops o s:=by
 unfold S5 at h
 split at h
 ·rename_i t m k ok d ho hd
  split at h
  ·rename_i c v b hg hs
   rw [Bool.and_eq_true] at h
   obtain ⟨rfl,h⟩:=h
   have hn:=rR hs
   unfold Ex
   rw [hg]
   simp only
   have e:ao E f s o=some (true,s.put o.dst (.v (if ok then .bh [v,.bool b] else v))):=by simp only [ao,ho,hn]
   rw [hd] at e
   rw [hd,e]
   refine ⟨rfl,?_⟩
   unfold St.put
   simp only
   split
   ·rw [aA]
    exact zL h
   ·rfl
  ·exact zM h
 ·exact zM h
theorem pV {ops:List Oper}:∀ {l:List Nat} {s:St},po E f ops l s=true→zI E f ops l s
 | [],_,_=>trivial
 | k :: l,s,h=>by
  unfold po at h
  unfold zI
  rw [Bool.and_eq_true] at h
  refine ⟨?_,pV h.2⟩
  have h:=h.1
  split at h
  ·rename_i hk
   first
    | exact xu h
    | rw [hk]; exact xu h
  ·rename_i hk
   first
    | trivial
    | rw [hk]; trivial
theorem tf (hc:np E call) (hr:uk E lz) {o:Oper} {K:St→Option X} (h:S4 E fz call lz f o K s=some x):jY E f o (fun s=>K s=some x) s:=by
 unfold jY
 split
 ·rename_i y args tys ho
  unfold S4 at h
  rw [ho] at h
  simp only at h
  split at h
  ·rename_i h1 h2
   rw [h1,h2]
   refine (hc _ _ _ _ _ h).mono fun r G' hk=>?_
   rw [cS] at hk
   exact hk
  ·rename_i h1 h2
   rw [h1,h2]
   refine (hr _ _ _ _ _ h).mono fun r G' hk=>?_
   rw [cS] at hk
   exact hk
  ·cases h
 ·rename_i ho
  unfold S4 at h
  rw [ho] at h
  cases h
 ·rename_i nc nd
  unfold S4 at h
  split at h
  ·rename_i ho
   exact absurd ho (nc _ _ _)
  ·cases h
  ·rename_i y ho
   split at h
   ·rename_i b s1 s2 hs
    have hn:=EQ hs
    have e:ao E f s o=some (true,bif b then s1 else s2):=by simp only [ao,ho,hn]
    rw [e]
    refine dz.mk rfl ?_
    rw [cS,cS] at h
    cases b <;> exact h
   ·cases h
  ·rename_i t m k ok ho
   split at h
   ·rename_i c v b hs
    obtain ⟨h1,h2⟩:=bj h
    subst h1
    rw [cS] at h2
    have hn:=rR hs
    have e:ao E f s o=some (true,s.put o.dst (.v (if ok then .bh [v,.bool b] else v))):=by simp only [ao,ho,hn]
    rw [e]
    exact dz.mk rfl h2
   ·split at h
    ·rename_i c s' hs
     obtain ⟨h1,h2⟩:=bj h
     rw [cS] at h2
     rw [hs]
     exact dz.mk h1 h2
    ·cases h
  ·rename_i t m k z ho
   split at h
   ·rename_i c s' hd hs
    obtain ⟨h1,h2⟩:=bj h
    subst h1
    rw [cS] at h2
    have hn:=rS hs
    have e:ao E f s o=some (true,s'):=by simp only [ao,ho,hd,hn]
    rw [e]
    exact dz.mk rfl h2
   ·cases h
  ·rename_i t m k z ho
   split at h
   ·rename_i c s' hd hs
    obtain ⟨h1,h2⟩:=bj h
    subst h1
    rw [cS] at h2
    have hn:=rS hs
    have e:ao E f s o=some (true,s'):=by simp only [ao,ho,hd,hn]
    rw [e]
    exact dz.mk rfl h2
   ·cases h
  ·rename_i args tys ho
   split at h
   ·rename_i c s' hf
    obtain ⟨h1,h2⟩:=bj h
    rw [cS] at h2
    have e:ao E f s o=some (c,s'):=by simp only [ao,ho,hf]
    rw [e]
    exact dz.mk h1 h2
   ·rename_i hf
    split at h
    ·rename_i l hl
     split at h
     ·rename_i b s1 c s2 hs
      have BE:b=false→c=true:=fun e=>by subst e; exact (bj (show (bif c then qu fz s2 K else none)=some x from h)).1
      have hn:=A4 hs BE
      have e:ao E f s o=some (true,bif b then s1 else s2):=by simp only [ao,ho,hf,hl,hn]
      rw [e]
      refine dz.mk rfl ?_
      cases b with
      | true=>
       show K s1=some x
       rw [← cS fz s1 K]
       exact h
      | false=>
       obtain ⟨h1,h2⟩:=bj (show (bif c then qu fz s2 K else none)=some x from h)
       rw [cS] at h2
       exact h2
     ·split at h
      ·rename_i c s' hs
       obtain ⟨h1,h2⟩:=bj h
       rw [cS] at h2
       rw [hs]
       exact dz.mk h1 h2
      ·cases h
    ·cases h
  ·rename_i args tys ho
   split at h
   ·rename_i l hl
    split at h
    ·rename_i c s' hs
     obtain ⟨h1,h2⟩:=bj h
     subst h1
     rw [cS] at h2
     have hn:=ER hs
     have hf:gE E f s o=none:=by
      cases hf:gE E f s o with
      | none=>rfl
      | some r=>
       obtain ⟨_,_,h2⟩:=mY hf
       rw [ho] at h2
       cases h2
     have e:ao E f s o=some (true,s'):=by simp only [ao,ho,hf,hl,hn]
     rw [e]
     exact dz.mk rfl h2
    ·split at h
     ·rename_i c s' hs
      obtain ⟨h1,h2⟩:=bj h
      rw [cS] at h2
      rw [hs]
      exact dz.mk h1 h2
     ·cases h
   ·cases h
  ·split at h
   ·rename_i n len g hi
    obtain ⟨c,s',hs,h1,h2⟩:=pU hi _ _ h
    rw [hs]
    exact dz.mk h1 h2
   ·split at h
    ·rename_i c s' hs
     obtain ⟨h1,h2⟩:=bj h
     rw [cS] at h2
     rw [hs]
     exact dz.mk h1 h2
    ·cases h
theorem j6 (hc:np E call) (hr:uk E lz) {ops:List Oper} {o:Oper} {K:St→Option X} (h:oF E fz call lz f ops o K s=some x):b8 E f ops o (fun s=>K s=some x) s:=by
 unfold oF at h
 unfold b8
 split at h
 ·rename_i hg
  rw [hg]
  exact tf hc hr h
 ·rename_i j want hg
  rw [hg]
  simp only
  split at h
  ·cases h
  ·rename_i d hd
   rw [hd]
   simp only
   split at h
   ·rename_i b hb
    rw [hb]
    simp only
    cases want with
    | true=>
     simp only at h
     rw [cS,cS] at h
     refine ⟨fun e=>?_,fun e=>?_⟩
     ·subst e
      exact tf hc hr h
     ·have e:b=false:=by simpa using e
      subst e
      exact h
    | false=>
     simp only at h
     rw [cS,cS] at h
     refine ⟨fun e=>?_,fun e=>?_⟩
     ·subst e
      exact tf hc hr h
     ·have e:b=true:=by simpa using e
      subst e
      exact h
   ·rename_i hb
    rw [hb]
    rw [cS] at h
    exact h
   ·cases h
theorem yT (hc:np E call) (hr:uk E lz) {ops:List Oper} {o:Oper} {K:St→Option X} (h:A8 E fz call lz f ops o K s=some x):fT E f ops o (fun s=>K s=some x) s:=by
 unfold A8 at h
 unfold fT
 split at h
 ·rename_i s' h1 h2
  rw [h1,h2]
  rw [cS] at h
  exact h
 ·rename_i hn
  split
  ·rename_i s' h1 h2
   exact absurd h2 (hn s' h1)
  ·exact j6 hc hr h
theorem pW (hc:np E call) (hr:uk E lz) {ops:List Oper} {o:Oper} {K:St→Option X} (h:vk E fz call lz f ops o K s=some x):fm E f ops o (fun s=>K s=some x) s:=by
 unfold vk at h
 unfold fm
 split at h
 ·rename_i c s' h1 h2
  rw [h1,h2]
  obtain ⟨q1,q2⟩:=bj h
  rw [cS] at q2
  exact dz.mk q1 q2
 ·rename_i c s0 left g h1 h2 h3
  rw [h1,h2,h3]
  obtain ⟨q1,q2⟩:=bj h
  refine dz.mk q1 ?_
  cases left with
  | nil=>
   simp only [List.isEmpty_nil,cond_true,cS] at q2
   exact ⟨fun _=>q2,fun i hi=>by simp at hi⟩
  | cons i0 l=>
   simp only [List.isEmpty_cons,cond_false] at q2
   refine ⟨fun e=>(by cases e),fun i hi=>?_⟩
   obtain ⟨r1,r2⟩:=bj (HB q2 i hi)
   rw [cS] at r2
   exact dz.mk r1 r2
 ·rename_i Fz YT
  split
  ·rename_i c s' h1 h2
   first
    | exact absurd h2 (Fz c s' h1)
    | exact absurd h2 (YT c s' h1)
  ·rename_i c s0 left g h1 h2 h3
   first
    | exact absurd h3 (YT c s0 left g h1 h2)
    | exact absurd h3 (Fz c s0 left g h1 h2)
  ·exact yT hc hr h
theorem yU (hc:np E call) (hr:uk E lz) {ops:List Oper} {o:Oper} {K:St→Option X} (h:A9 E fz call lz f ops o K s=some x):fq E f ops o (fun s=>K s=some x) s:=by
 unfold A9 at h
 unfold fq
 split at h
 ·rename_i c s' hz
  rw [hz]
  obtain ⟨h1,h2⟩:=bj h
  exact ⟨h1,pW hc hr h2⟩
 ·rename_i hz
  rw [hz]
  exact pW hc hr h
theorem xw (hc:np E call) (hr:uk E lz) {ops:List Oper}:∀ {l:List Oper} {K:St→Option X} {s:St},Nw E fz call lz f ops l K s=some x→oh E f ops l (fun s=>K s=some x) s
 | [],_,_,h=>h
 | o :: l,K,s,h=>by
  unfold Nw at h
  unfold oh
  refine lP (yU hc hr h) fun s' h'=>?_
  unfold zD
  split at h'
  ·rename_i s2 hp
   rw [hp]
   exact xw hc hr h'
  ·cases h'
theorem ju (hc:np E call) (hr:uk E lz) (hm:uj fg) {ops:List Oper}:∀ {T:DT} {K:St→Option X} {s:St} {x:X},oT E fz call lz fg f ops T K s=some x→sD E f ops T (fun s=>K s=some x) s
 | .done,_,_,_,h=>h
 | .stop,_,_,_,_=>trivial
 | .take j C T,K,s,x,h=>by
  unfold oT at h
  unfold sD
  split at h
  ·rename_i hk
   rw [hk]
   exact b9 (j6 hc hr h) fun s' h'=>ju hc hr hm h'
  ·cases h
 | .al j W T,K,s,x,h=>by
  unfold oT at h
  unfold sD
  split at h
  ·rename_i hk
   obtain ⟨h1,h2⟩:=bj h
   rw [hk]
   exact ⟨h1,b9 (j6 hc hr h2) fun s' h'=>ju hc hr hm h'⟩
  ·cases h
 | .br i re C T more,K,s,x,h=>by
  have first:∀ {x:X},(match nth ops i with
   | some oi=>oF E fz call lz f ops oi (fun s'=>bif po E f ops re s' then oT E fz call lz fg f ops T K s' else none) s
   | none=>none)=some x→(match nth ops i with
   | some oi=>b8 E f ops oi (fun s'=>zI E f ops re s'∧sD E f ops T (fun s=>K s=some x) s') s
   | none=>False):=by
   intro x h
   split at h
   ·rename_i hk
    refine b9 (j6 hc hr h) fun s' h'=>?_
    obtain ⟨h1,h2⟩:=bj h'
    exact ⟨pV h1,ju hc hr hm h2⟩
   ·cases h
  unfold sD
  cases more with
  | stop=>exact ⟨first h,trivial⟩
  | done=>obtain ⟨h1,h2⟩:=hm _ _ _ h; exact ⟨first h1,ju (T:=.done) hc hr hm h2⟩
  | take a b c=>obtain ⟨h1,h2⟩:=hm _ _ _ h; exact ⟨first h1,ju hc hr hm h2⟩
  | br a b c d e=>obtain ⟨h1,h2⟩:=hm _ _ _ h; exact ⟨first h1,ju hc hr hm h2⟩
  | al a b c=>obtain ⟨h1,h2⟩:=hm _ _ _ h; exact ⟨first h1,ju hc hr hm h2⟩
end sound
end Go.Am
