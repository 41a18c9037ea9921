/- The abstract machine: maps and ranges over strings on values with leaves. -/
import Derived.Test.YtldcljfjjoidhaaGreatDoorAmKI
set_option linter.all false
namespace Go.Am
open Go
def JZ (s:St) (dst:Option Tmp) (x:SV):Option (Bool × St × St):=match x with
 | .v (.ptr id 0)=>match nth s.G id with
  | some (.gu l pos)=>some (Nat.blt pos l.length,(s.b9 (aB s.G id (.gu l (pos+(ph l pos).2)))).put dst (.v (.bi [.bool true,.int .i64 pos,.int .i32 (ph l pos).1])),s.put dst (.v (.bi [.bool false])))
  | _=>none
 | _=>none
theorem E1 {s:St} {dst:Option Tmp} {x:SV} {b:Bool} {s1 s2:St} (h:JZ s dst x=some (b,s1,s2)):kZ s dst x=some (bif b then s1 else s2):=by
 unfold JZ at h
 split at h
 ·split at h
  ·rename_i l pos hg
   cases h
   simp only [kZ,hg]
   cases Nat.blt pos l.length <;> rfl
  ·cases h
 ·cases h
theorem Gr {e:EK} {k:AV}:∀ {es:List (AV × AV)},e7 e k es=true→iP e k es=some (e9 e k es)
 | [],_=>rfl
 | (k',v) :: l,h=>by
  simp only [e7,Bool.and_eq_true] at h
  obtain ⟨b,hb⟩:=Option.isSome_iff_exists.1 h.1
  simp only [iP,e9,uT,hb]
  cases b
  ·simp only [cond_false]; exact Gr h.2
  ·rfl
theorem J0 {e:EK} {k v:AV}:∀ {es:List (AV × AV)},e7 e k es=true→sL e k v es=some (dU e k v es)
 | [],_=>rfl
 | (k',v') :: l,h=>by
  simp only [e7,Bool.and_eq_true] at h
  obtain ⟨b,hb⟩:=Option.isSome_iff_exists.1 h.1
  simp only [sL,dU,uT,hb]
  cases b
  ·simp only [cond_false,J0 h.2]
  ·rfl
mutual
def aT.flat:aT→Bool
 | .int _=>true
 | .bool=>true
 | .str=>true
 | .agg ps=>ps.flat
 | .bk _ _ p=>p.flat
 | _=>false
def aP.flat:aP→Bool
 | .nil=>true
 | .cons p ps=>p.flat&&ps.flat
end
theorem CQ {α:Type} {f:AV→Bool} {d:AV→α} {g:α→AV} (h:∀ a,f a=true→g (d a)=a):∀ {es:List AV},allFit f es=true→(es.map d).map g=es
 | [],_=>rfl
 | a :: l,hl=>by
  simp only [allFit,Bool.and_eq_true] at hl
  rw [List.map_cons,List.map_cons,h a hl.1,CQ h hl.2]
mutual
theorem aT.jt:∀ {p:aT},p.flat=true→∀ {a:AV},p.fits a=true→p.enc (p.bw a)=a
 | .int k,_,a,h=>by
  cases a <;> first | (cases h; done) | skip
  have hk:S3 _ _=true:=h
  rw [DY hk]; rfl
 | .bool,_,a,h=>by cases a <;> first | (cases h; done) | rfl
 | .str,_,a,h=>by cases a <;> first | (cases h; done) | rfl
 | .agg ps,hp,a,h=>by
  cases a <;> first | (cases h; done) | skip
  exact congrArg AV.agg (aP.jt (ps:=ps) hp h)
 | .bi _,hp,_,_=>by cases hp
 | .list _ _,hp,_,_=>by cases hp
 | .own _ _ _,hp,_,_=>by cases hp
 | .bk id sz p,hp,a,h=>by
  cases a <;> first | (cases h; done) | skip
  rename_i k bN es
  cases k <;> first | (cases h; done) | skip
  rename_i jw j
  simp only [aT.fits,Bool.and_eq_true] at h
  have e1:=Nat.eq_of_beq_eq_true h.1.1
  have e2:=Nat.eq_of_beq_eq_true h.1.2
  subst e1 e2
  have hp:p.flat=true:=hp
  show AV.list (.bk id j) sz ((es.map p.bw).map p.enc)=_
  rw [CQ (fun a ha=>aT.jt hp ha) h.2]
 | .gC _,hp,_,_=>by cases hp
 | .two _ _,hp,_,_=>by cases hp
theorem aP.jt:∀ {ps:aP},ps.flat=true→∀ {l:List AV},ps.fits l=true→ps.enc (ps.bw l)=l
 | .nil,_,l,h=>by
  cases l with
  | nil=>rfl
  | cons _ _=>cases h
 | .cons p .nil,hp,l,h=>by
  simp only [aP.flat,Bool.and_eq_true] at hp
  cases l with
  | nil=>cases h
  | cons a l=>
   simp only [aP.fits,Bool.and_eq_true] at h
   cases l with
   | nil=>exact congrArg (fun x=>[x]) (aT.jt hp.1 h.1)
   | cons _ _=>cases h.2
 | .cons p (.cons q ps),hp,l,h=>by
  rw [aP.flat,Bool.and_eq_true] at hp
  cases l with
  | nil=>cases h
  | cons a l=>
   rw [aP.fits,Bool.and_eq_true] at h
   have h1:=aT.jt hp.1 h.1
   have h2:=aP.jt (ps:=.cons q ps) hp.2 h.2
   show p.enc (p.bw a) :: (aP.cons q ps).enc ((aP.cons q ps).bw l)=a :: l
   rw [h1,h2]
end
def va (E:Env) (s:St) (t:TypeId) (m k:SV):Option (Bool × AV × Bool):=match RN E s.G t,E.ti t,mapOf s m,k with
 | some p,some i,some es,.v k=>match i.k with
  | .map kt _ (some z)=>match E.ti kt with
   | some j=>if j.ek.plain&&iw j.ek k&&p.flat then
     some (e7 j.ek k es&&p.fits (cC j.ek k (BU E s.G t z) es),p.enc (p.bw (cC j.ek k (BU E s.G t z) es)),(e9 j.ek k es).isSome)
    else none
   | none=>none
  | _=>none
 | _,_,_,_=>none
theorem rZ {E:Env} {s:St} {t:TypeId} {m k:SV} {v:AV} {b:Bool} (h:va E s t m k=some (true,v,b)):kY E s t m k=some (v,b):=by
 unfold va at h
 split at h
 ·rename_i p i es k h1 h2 h3
  split at h
  ·rename_i kt et z hk
   split at h
   ·rename_i j hj
    split at h
    ·rename_i hc
     simp only [Bool.and_eq_true] at hc
     injection h with h
     injection h with h4 h
     injection h with h5 h6
     rw [Bool.and_eq_true] at h4
     rw [aT.jt hc.2 h4.2] at h5
     have e:iP j.ek k es=some (e9 j.ek k es):=Gr h4.1
     have uE:(j.ek.plain&&iw j.ek k)=true:=by rw [hc.1.1,hc.1.2]; rfl
     have e0:jg E s t m (.v k)=some ((e9 j.ek k es).getD z,(e9 j.ek k es).isSome):=by
      simp only [jg,h2,h3,hk,hj,uE,if_true,e]
      cases e9 j.ek k es <;> rfl
     unfold kY
     rw [e0]
     unfold cC at h5
     cases hg:e9 j.ek k es with
     | none=>
      rw [hg] at h5 h6
      subst h5 h6
      rfl
     | some v'=>
      rw [hg] at h5 h6
      subst h5 h6
      rfl
    ·cases h
   ·cases h
  ·cases h
 ·cases h
def vb (E:Env) (s:St) (t:TypeId) (m k x:SV):Option (Bool × St):=match E.ti t,m,k,x with
 | some i,.v (.map id),.v k,.v x=>match i.k,nth s.G id with
  | .map kt _ _,some (.map es)=>match E.ti kt with
   | some j=>if j.ek.plain&&iw j.ek k then some (e7 j.ek k es,s.b9 (aB s.G id (.map (dU j.ek k x es)))) else none
   | none=>none
  | _,_=>none
 | _,_,_,_=>none
theorem r7 {E:Env} {s s':St} {t:TypeId} {m k x:SV} (h:vb E s t m k x=some (true,s')):eX E s t m k x=some s':=by
 unfold vb at h
 split at h
 ·rename_i i id k x h1
  split at h
  ·rename_i kt _ _ es hk hg
   split at h
   ·rename_i j hj
    split at h
    ·rename_i hc
     injection h with h
     injection h with h4 h5
     simp only [eX,h1,hk,hg,hj,hc,if_true,J0 h4,h5]
    ·cases h
   ·cases h
  ·cases h
 ·cases h
def J1 (E:Env) (s:St) (dst:Option Tmp) (l:List AV) (tys:List TypeId):Option (Bool × St):=match l,tys with
 | [.jO id off sz len _,.str bs],t :: _=>match E.ti t,nth s.G id with
  | some i,some (.row cs el)=>match i.k with
   | .sl _ esz _ _ _=>if Nat.beq sz esz&&Nat.beq esz 1 then
     some (Nat.ble (off+(bs.take (Nat.min bs.length len)).length) cs.length,
      (s.b9 (aB s.G id (.row (bg cs off ((bs.take (Nat.min bs.length len)).map rk)) el))).put dst (.v (.int .i64 (Nat.min bs.length len))))
    else none
   | _=>none
  | _,_=>none
 | [.jO id off sz len _,.list _ bN es],t :: _=>match E.ti t,nth s.G id with
  | some i,some (.row cs el)=>match i.k with
   | .sl _ esz _ _ _=>if Nat.beq sz esz&&Nat.beq bN esz then
     some (Nat.ble (off+(ay (es.take (Nat.min es.length len))).length) cs.length,
      (s.b9 (aB s.G id (.row (bg cs off (ay (es.take (Nat.min es.length len)))) el))).put dst (.v (.int .i64 (Nat.min es.length len))))
    else none
   | _=>none
  | _,_=>none
 | [.dH id f off sz len,.list _ bN xs],t :: _=>match E.ti t,nth s.G id with
  | some i,some (.dc es szo el)=>match i.k with
   | .sl _ esz _ _ _=>if Nat.beq sz esz&&Nat.beq szo sz&&Nat.beq bN esz then
     some (decide (f=es.length)&&decide (off+Nat.min xs.length len≤es.length),
      (s.b9 (aB s.G id (.dc (bg es off (xs.take (Nat.min xs.length len))) szo el))).put dst (.v (.int .i64 (Nat.min xs.length len))))
    else none
   | _=>none
  | _,_=>none
 | _,_=>none
theorem E2 {E:Env} {s s':St} {dst:Option Tmp} {l:List AV} {tys:List TypeId} (h:J1 E s dst l tys=some (true,s')):bS E s dst .copy l tys=some (true,s'):=by
 unfold J1 at h
 split at h
 ·rename_i id off sz len cap bs t ts
  split at h
  ·rename_i i cs el hi hid
   split at h
   ·rename_i a1 esz a2 a3 a4 hk
    split at h
    ·rename_i hc
     rw [Bool.and_eq_true] at hc
     injection h with h
     injection h with h1 h2
     have vw:(Nat.beq esz 1&&Nat.ble (off+(bs.take (Nat.min bs.length len)).length) cs.length)=true:=by rw [hc.2,h1]; rfl
     simp only [bS,hi,hk,rm,hid,hc.1,if_true,vw,h2]
    ·cases h
   ·cases h
  ·cases h
 ·rename_i id off sz len cap k bN es t ts
  split at h
  ·rename_i i cs el hi hid
   split at h
   ·rename_i a1 esz a2 a3 a4 hk
    split at h
    ·rename_i hc
     rw [Bool.and_eq_true] at hc
     injection h with h
     injection h with h1 h2
     have e2:(Nat.beq bN esz || es.isEmpty)=true:=by rw [hc.2]; rfl
     simp only [bS,hi,hk,rm,hid,hc.1,if_true,e2,h1,h2]
    ·cases h
   ·cases h
  ·cases h
 ·rename_i id f off sz len k bN xs t ts
  split at h
  ·rename_i i es szo el hi hid
   split at h
   ·rename_i a1 esz a2 a3 a4 hk
    split at h
    ·rename_i hc
     rw [Bool.and_eq_true] at hc
     injection h with h
     injection h with h1 h2
     rw [Bool.and_eq_true,decide_eq_true_eq,decide_eq_true_eq] at h1
     obtain ⟨rfl,h1⟩:=h1
     have e2:(Nat.beq sz esz&&Nat.beq szo sz&&(Nat.beq bN esz || xs.isEmpty)&&Nat.ble es.length es.length&&Nat.ble es.length es.length&&Nat.ble (off+Nat.min xs.length len) es.length)=true:=by
      rw [hc.1,hc.2]
      simp only [Bool.true_or,Bool.true_and,Bool.and_eq_true]
      exact ⟨⟨Nat.ble_eq_true_of_le (Nat.le_refl _),Nat.ble_eq_true_of_le (Nat.le_refl _)⟩,Nat.ble_eq_true_of_le h1⟩
     simp only [bS,hi,hk,rm,hid,e2,if_true,h2]
    ·cases h
   ·cases h
  ·cases h
 ·cases h
def vc (s:St) (dst:Option Tmp) (elem esz bF:Nat) (k:LK) (sz:Nat) (es ys:List AV):Option (Bool × St × Bool × St):=
 match k with
 | .nil=>some (ys.isEmpty,s.put dst (.v (.list .nil sz es)),decide ((es.length+ys.length) * bF≤140737488355328),
   (s.b9 (s.G++[.tok (es.length+ys.length) esz elem])).put dst (.v (.list (.own s.G.length) esz (es++ys))))
 | .full=>if Nat.beq sz esz then some (ys.isEmpty,s.put dst (.v (.list .full sz es)),decide ((es.length+ys.length) * bF≤140737488355328),
   (s.b9 (s.G++[.tok (es.length+ys.length) esz elem])).put dst (.v (.list (.own s.G.length) esz (es++ys)))) else none
 | .own id=>match nth s.G id with
  | some (.tok f bN e')=>if Nat.beq bN esz&&Nat.beq e' elem&&Nat.beq sz esz then
    some (false,s,decide (f=es.length)&&decide ((es.length+ys.length) * bF≤140737488355328),
     (s.b9 (IZ s.G id ys.length f esz elem)).put dst (.v (.list (.own id) esz (es++ys)))) else none
  | _=>none
 | .bk id j=>match nth s.G id with
  | some (.bk fs bN e')=>if Nat.beq bN esz&&Nat.beq e' elem&&Nat.beq sz esz then
    some (ys.isEmpty,s.put dst (.v (.list (.bk id j) sz es)),Nl fs j es.length&&decide ((es.length+ys.length) * bF≤140737488355328),
     (s.b9 (aB s.G id (.bk (Hf fs j (es.length+ys.length)) esz elem))).put dst (.v (.list (.bk id j) esz (es++ys)))) else none
  | _=>none
 | .eU=>none
def A3 (s:St) (dst:Option Tmp) (elem esz bF id f off sz len:Nat) (ys:List AV):Option (Bool × St × Bool × St):=match nth s.G id with
 | some (.dc es bN e')=>if Nat.beq bN esz&&Nat.beq e' elem&&Nat.beq sz esz then
   some (false,s,decide (f=es.length)&&decide (off=0)&&decide (len=f)&&decide ((es.length+ys.length) * bF≤140737488355328),
    (s.b9 (aB s.G id (.dc (es++ys) esz elem))).put dst (.v (.dH id (es.length+ys.length) 0 esz (es.length+ys.length)))) else none
 | _=>none
def A4 (E:Env) (s:St) (dst:Option Tmp) (l:List AV) (tys:List TypeId):Option (Bool × St × Bool × St):=match l,tys with
 | [.list k sz es,.list _ bN ys],[t,u]=>match E.ti t with
  | some i=>match i.k with
   | .sl elem esz _ bF (some z)=>
    if Nat.beq bN esz&&Nat.beq t u&&Nat.ble 1 esz&&Nat.ble 1 bF&&Nat.beq z.cells.length esz&&z.aX then
     vc s dst elem esz bF k sz es ys
    else none
   | _=>none
  | none=>none
 | [.dH id f off sz len,.list _ bN ys],[t,u]=>match E.ti t with
  | some i=>match i.k with
   | .sl elem esz _ bF (some z)=>
    if Nat.beq bN esz&&Nat.beq t u&&Nat.ble 1 esz&&Nat.ble 1 bF&&Nat.beq z.cells.length esz&&z.aX then A3 s dst elem esz bF id f off sz len ys else none
   | _=>none
  | none=>none
 | [.list k sz es,.str bs],[t,u]=>match E.ti t,E.ti u with
  | some i,some j=>match i.k,j.k with
   | .sl elem esz _ bF (some z),.str=>
    if Nat.beq esz 1&&Nat.ble 1 bF&&Nat.beq z.cells.length esz&&z.aX then vc s dst elem esz bF k sz es (bs.map rk) else none
   | _,_=>none
  | _,_=>none
 | _,_=>none
theorem r8 {s s1 s2:St} {dst:Option Tmp} {elem esz bF:Nat} {k:LK} {sz:Nat} {es ys:List AV} {b c:Bool} (h:vc s dst elem esz bF k sz es ys=some (b,s1,c,s2)) (hc:b=false→c=true) :
  ∃ v G',fV s.G elem esz bF (.list k sz es) ys=some (true,v,G')∧(s.b9 G').put dst (.v v)=bif b then s1 else s2:=by
 unfold vc at h
 cases k with
 | nil=>
  cases h
  cases ys with
  | nil=>exact ⟨_,_,rfl,rfl⟩
  | cons y ys=>
   have hc:=hc rfl
   exact ⟨_,_,by simp only [fV,hc],rfl⟩
 | full=>
  simp only at h
  cases hs:Nat.beq sz esz with
  | false=>rw [hs] at h; cases h
  | true=>
   rw [hs] at h
   cases h
   cases ys with
   | nil=>exact ⟨_,_,rfl,rfl⟩
   | cons y ys=>
    have hc:=hc rfl
    exact ⟨_,_,by simp only [fV,hs,if_true,hc],rfl⟩
 | own id=>
  simp only at h
  split at h
  ·rename_i f bN e' hg
   split at h
   ·rename_i cH
    cases h
    have hc:=hc rfl
    cases ys with
    | nil=>
     simp only [Bool.and_eq_true] at cH
     have e1:=Nat.eq_of_beq_eq_true cH.1.1
     have e2:=Nat.eq_of_beq_eq_true cH.1.2
     have e3:=Nat.eq_of_beq_eq_true cH.2
     subst e1; subst e2; subst e3
     refine ⟨_,_,rfl,?_⟩
     simp only [cond_false,IZ,List.length_nil,Nat.add_zero,jj hg,List.append_nil]
    | cons y ys=>exact ⟨_,_,by simp only [fV,hg,cH,if_true,hc],rfl⟩
   ·cases h
  ·cases h
 | bk id j=>
  simp only at h
  split at h
  ·rename_i fs bN e' hg
   split at h
   ·rename_i cH
    cases h
    cases ys with
    | nil=>exact ⟨_,_,rfl,rfl⟩
    | cons y ys=>
     have hc:=hc rfl
     exact ⟨_,_,by simp only [fV,hg,cH,if_true,hc],rfl⟩
   ·cases h
  ·cases h
 | eU=>cases h
theorem A5 {s s1 s2:St} {dst:Option Tmp} {elem esz bF id f off sz len:Nat} {ys:List AV} {b c:Bool} (h:A3 s dst elem esz bF id f off sz len ys=some (b,s1,c,s2)) (hc:b=false→c=true) :
  ∃ v G',fV s.G elem esz bF (.dH id f off sz len) ys=some (true,v,G')∧(s.b9 G').put dst (.v v)=bif b then s1 else s2:=by
 unfold A3 at h
 split at h
 ·rename_i es bN e' hg
  split at h
  ·rename_i cH
   cases h
   have hc:=hc rfl
   cases ys with
   | nil=>
    simp only [Bool.and_eq_true,decide_eq_true_eq] at hc cH
    have e1:=Nat.eq_of_beq_eq_true cH.1.1
    have e2:=Nat.eq_of_beq_eq_true cH.1.2
    have e3:=Nat.eq_of_beq_eq_true cH.2
    obtain ⟨⟨⟨h1,h2⟩,h3⟩,_⟩:=hc
    subst e1; subst e2; subst e3; subst h1; subst h2; subst h3
    refine ⟨_,_,rfl,?_⟩
    simp only [cond_false,List.length_nil,Nat.add_zero,jj hg,List.append_nil]
   | cons y ys=>exact ⟨_,_,by simp only [fV,hg,cH,if_true,hc],rfl⟩
  ·cases h
 ·cases h
theorem A6 {E:Env} {s s1 s2:St} {dst:Option Tmp} {l:List AV} {tys:List TypeId} {b c:Bool} (h:A4 E s dst l tys=some (b,s1,c,s2)) (B6:b=false→c=true):bS E s dst .append l tys=some (true,bif b then s1 else s2):=by
 unfold A4 at h
 split at h
 ·rename_i k sz es k' bN ys t u
  split at h
  ·rename_i i hi
   split at h
   ·rename_i elem esz a1 bF z hk
    split at h
    ·rename_i hc
     have uE:((Nat.beq bN esz || ys.isEmpty)&&Nat.beq t u&&Nat.ble 1 esz&&Nat.ble 1 bF&&Nat.beq z.cells.length esz&&z.aX)=true:=by
      simp only [Bool.and_eq_true] at hc ⊢
      obtain ⟨⟨⟨⟨⟨c1,c2⟩,c3⟩,c4⟩,c5⟩,c6⟩:=hc
      exact ⟨⟨⟨⟨⟨by rw [c1]; rfl,c2⟩,c3⟩,c4⟩,c5⟩,c6⟩
     obtain ⟨v,G',h1,h2⟩:=r8 h B6
     simp only [bS,hi,hk,uE,if_true,h1,h2]
    ·cases h
   ·cases h
  ·cases h
 ·rename_i id f off sz len k' bN ys t u
  split at h
  ·rename_i i hi
   split at h
   ·rename_i elem esz a1 bF z hk
    split at h
    ·rename_i hc
     have uE:((Nat.beq bN esz || ys.isEmpty)&&Nat.beq t u&&Nat.ble 1 esz&&Nat.ble 1 bF&&Nat.beq z.cells.length esz&&z.aX)=true:=by
      simp only [Bool.and_eq_true] at hc ⊢
      obtain ⟨⟨⟨⟨⟨c1,c2⟩,c3⟩,c4⟩,c5⟩,c6⟩:=hc
      exact ⟨⟨⟨⟨⟨by rw [c1]; rfl,c2⟩,c3⟩,c4⟩,c5⟩,c6⟩
     obtain ⟨v,G',h1,h2⟩:=A5 h B6
     simp only [bS,hi,hk,uE,if_true,h1,h2]
    ·cases h
   ·cases h
  ·cases h
 ·rename_i k sz es bs t u
  split at h
  ·rename_i i j hi hj
   split at h
   ·rename_i elem esz a1 bF z hk WN
    split at h
    ·rename_i hc
     obtain ⟨v,G',h1,h2⟩:=r8 h B6
     simp only [bS,hi,hj,hk,WN,hc,if_true,h1,h2]
    ·cases h
   ·cases h
  ·cases h
 ·cases h
end Go.Am
namespace Go.Am
open Go
def TY (E:Env) (cut wk:Bool) (t:TypeId) (r:AV) (G:List GO):Option (Bool × AV × List GO):=match r with
 | .dH id f 0 sz len=>match nth G id,E.ti t with
  | some (.dc es bN _),some i=>match i.k with
   | .sl _ esz _ _ _=>if Nat.beq esz sz&&Nat.beq bN sz then
     bif cut then some (decide (f=es.length)&&decide (len≤es.length)&&aH (zg wk es),.list .eU sz (zg wk (es.take len)),aB G id .dead)
     else some (decide (f=es.length)&&decide (len=es.length)&&aH (zg wk es),.list .eU sz (zg wk es),aB G id .dead)
    else none
   | _=>none
  | _,_=>none
 | .jO id 0 sz len _=>match nth G id,E.ti t,E.Nk t with
  | some (.row cs _),some i,some p=>match i.k with
   | .sl _ esz agg _ _=>if Nat.beq esz sz&&Nat.ble 1 sz&&(agg || Nat.beq sz 1)&&p.under 0 then
     some (Nat.beq cs.length (len * sz)&&allFit (fun e=>p.fits e&&e.aX&&(agg || e.one)) (gV agg sz len cs),.list .eU sz ((gV agg sz len cs).map fun e=>p.enc (p.bw e)),aB G id .dead)
    else none
   | _=>none
  | _,_,_=>none
 | .agg cs=>match lX wk cs G with
  | (c,cs',G')=>some (c,.agg cs',G')
 | .ptr id 0=>match nth G id with
  | some (.row cs _)=>some (aH cs,.ep cs,aB G id .dead)
  | _=>none
 | _=>none
def wX (E:Env) (cut wk:Bool):List TypeId→List AV→List GO→Bool × List AV × List GO
 | t :: ts,r :: rs,G=>match TY E cut wk t r G with
  | some (c,r',G')=>match wX E cut wk ts rs G' with
   | (c',J2,zM)=>(c&&c',r' :: J2,zM)
  | none=>match wX E cut wk ts rs G with
   | (c',J2,zM)=>(c',r :: J2,zM)
 | _,rs,G=>(true,rs,G)
def TZ {X:Type} (E:Env) (cut wk:Bool) (ts:List TypeId) (K:AV→List GO→Option X) (r:AV) (G:List GO):Option X:=match r with
 | .bi rs=>match wX E cut wk ts rs G with
  | (c,J2,G')=>bif c then K (.bi J2) G' else none
 | r=>match wX E cut wk ts [r] G with
  | (c,[r'],G')=>bif c then K r' G' else none
  | _=>none
section
variable {E:Env} {R:ao} {w:World}
theorem wY {R:ao} {b:Nat} (hI:∀ o,R.I b o):∀ {cs:List AV} {vs:List Value} {o:Nat},aM R w cs vs→(∀ v∈vs,v.oneCell'=true)→(∀ (j:Nat) (v:Value),vs[j]?=some v→w.cell? ⟨b,o+j,none⟩=some v)→dO R w b o cs
 | [],_,o,_,_,_=>.nil
 | a :: cs,_,o,.cons h t,h1,hc=>.cons (hc 0 _ rfl) (h1 _ (by simp)) (hI o) h (wY hI t (fun v hv=>h1 v (by simp [hv])) fun j v hj=>by
   have:=hc (j+1) v (by simpa using hj)
   rwa [show o+(j+1)=o+1+j by omega] at this)
theorem wZ {R:ao} {b:Nat} {p:aT} {agg:Bool} {sz:Nat} (hI:∀ o,R.I b o) (hp:p.under 0=true) (eC:(agg || Nat.beq sz 1)=true) (abY:1≤sz):∀ (n:Nat) {cs:List AV} {vs:List Value} {o:Nat},aM R w cs vs→(∀ v∈vs,v.oneCell'=true)→cs.length=n * sz →
  (∀ (j:Nat) (v:Value),vs[j]?=some v→w.cell? ⟨b,o+j,none⟩=some v)→allFit (fun e=>p.fits e&&e.aX&&(agg || e.one)) (gV agg sz n cs)=true→fY R w b o sz ((gV agg sz n cs).map fun e=>p.enc (p.bw e))
 | 0,_,_,_,_,_,_,_,_=>.nil
 | n+1,cs,vs,o,h,h1,hl,hc,hf=>by
  simp only [gV,allFit,Bool.and_eq_true] at hf
  obtain ⟨⟨⟨vH,hf2⟩,hf4⟩,hf3⟩:=hf
  have hlen:=h.length
  have hle:sz≤cs.length:=by rw [hl,Nat.succ_mul]; omega
  have dk:=p.cT vH
  have lE:(Xi agg (cs.take sz)).cells=cs.take sz:=by
   cases agg with
   | true=>rfl
   | false=>
    have FX:sz=1:=by simpa using eC
    subst FX
    match cs,hle with
    | a :: cs,_=>
     show AV.cells a=[a]
     have ho:a.one=true:=by simpa [Xi,ee] using hf4
     cases a <;> first | rfl | simp [AV.one] at ho
  have hw:=dk.cells hf2
  rw [lE] at hw
  have hA:dO R w b o (cs.take sz):=wY hI (h.take sz) (fun v hv=>h1 v (List.mem_of_mem_take hv)) fun j v hj=>hc j v (by
   rw [List.getElem?_take] at hj
   split at hj
   ·exact hj
   ·cases hj)
  refine .cons (by rw [← hw.length,List.length_take,Nat.min_eq_left hle]) (by rw [dk.bi]; exact hf2) (lH (p.dD _ hp)) (hw.I5 hA) ?_
  exact wZ hI hp eC abY n (h.drop sz) (fun v hv=>h1 v (List.mem_of_mem_drop hv)) (by rw [List.length_drop,hl,Nat.succ_mul]; omega) (fun j v hj=>by
   rw [List.getElem?_drop] at hj
   have:=hc _ _ hj
   rwa [show o+(sz+j)=o+sz+j by omega] at this) hf3
theorem NT {cut wk:Bool} {t:TypeId} {r r':AV} {G G':List GO} {c:Value} (hg:dz E R w G) (hr:Rel R w r c) (h:TY E cut wk t r G=some (true,r',G')) :
  ∃ R',dz E R' w G'∧Rel R' w r' c∧Ext R w R' w∧R'.obj=R.obj∧∀ b o,R'.I b o→R.I b o∨Live R b:=by
 unfold TY at h
 split at h
 ·rename_i id f sz len
  obtain ⟨ro,bR⟩:∃ ro,nth R.obj id=some ro:=by
   cases hr with
   | iN q _=>exact ⟨_,q⟩
   | dH q _ _=>exact ⟨_,q⟩
  split at h
  ·rename_i es bN el i hid hi
   split at h
   ·split at h
    ·rename_i hc
     rw [Bool.and_eq_true] at hc
     have q1:=Nat.eq_of_beq_eq_true hc.2
     subst q1
     cases cut with
     | true=>
      simp only [cond_true] at h
      injection h with h; injection h with h1 h; injection h with h2 h3
      subst h2 h3
      rw [Bool.and_eq_true,Bool.and_eq_true,decide_eq_true_eq,decide_eq_true_eq] at h1
      obtain ⟨h1,je⟩:=h1
      obtain ⟨R',r1,r2,r3,r4,r5⟩:=mW (wk:=wk) hg hid h1.1 h1.2 je bR
      exact ⟨R',r1,r5 c hr,r2,r3,fun b o hi=>(r4 b o hi).imp_right fun hb=>⟨id,ro,bR,hb⟩⟩
     | false=>
      simp only [cond_false] at h
      injection h with h; injection h with h1 h; injection h with h2 h3
      subst h2 h3
      rw [Bool.and_eq_true,Bool.and_eq_true,decide_eq_true_eq,decide_eq_true_eq] at h1
      obtain ⟨h1,je⟩:=h1
      obtain ⟨R',r1,r2,r3,r4,r5⟩:=mW (wk:=wk) hg hid h1.1 (Nat.le_of_eq h1.2) je bR
      have r6:=r5 c hr
      rw [h1.2,List.take_length] at r6
      exact ⟨R',r1,r6,r2,r3,fun b o hi=>(r4 b o hi).imp_right fun hb=>⟨id,ro,bR,hb⟩⟩
    ·cases h
   ·cases h
  ·cases h
 ·rename_i id sz len cap
  split at h
  ·rename_i cs i p hid hi hp
   split at h
   ·rename_i el esz agg eb z hk
    split at h
    ·rename_i hc
     simp only [Bool.and_eq_true] at hc
     injection h with h
     injection h with h1 h
     injection h with h2 h3
     subst h2 h3
     rw [Bool.and_eq_true] at h1
     cases hr with
     | @jO _ _ _ _ _ b hb gW=>
     obtain ⟨vs,k1,k2,k3,k4⟩:=hg.obj id _ _ hid hb
     have B7:Live R b:=⟨id,_,hb,rfl⟩
     have e:=pu R w b
     have bV:=bl k1
     refine ⟨R.all b,⟨by show R.obj.length=_; rw [hY]; exact hg.len,fun jw go ro q1 q2=>?_,hg.inj,fun b' o ho=>?_,fun g cs qx=>(hg.cb g cs qx).mono e,hg.lo⟩,?_,e,rfl,fun b' o ho=>?_⟩
     ·rcases dp q1 with ⟨rfl,rfl,_⟩ | ⟨cP,q1⟩
      ·have:ro=.b7 b:=Option.some.inj (q2.symm.trans hb)
       subst this
       exact bV
      ·refine (hg.obj jw go ro q1 q2).mono e (fun _ _=>rfl) (fun b' o kd ho=>?_)
       rcases ho with ho | ho
       ·exact ho
       ·subst ho
        exact absurd (hg.inj id jw _ _ b' hb q2 rfl kd) cP
     ·rcases ho with ho | ho
      ·exact hg.wf b' o ho
      ·subst ho; exact bV
     ·refine Rel.list (wZ (R:=R.all b) (fun o=>Or.inr rfl) hc.2 hc.1.2 (Nat.le_of_ble_eq_true hc.1.1.2) len (k2.mono e) k3 (Nat.eq_of_beq_eq_true h1.1) (fun j v hj=>?_) h1.2) ?_ gW trivial
      ·simp only [World.cell?,k1]
       simpa using hj
      ·rw [List.length_map]
       have:∀ (n:Nat) (l:List AV),(gV agg sz n l).length=n:=by
        intro n
        induction n with
        | zero=>intro l; rfl
        | succ n ih=>intro l; simp [gV,ih]
       rw [this]
     ·rcases ho with ho | ho
      ·exact .inl ho
      ·subst ho; exact .inr B7
    ·cases h
   ·cases h
  ·cases h
 ·rename_i cs
  cases h2:lX wk cs G with
  | mk c' q=>
  obtain ⟨cs',G2⟩:=q
  rw [h2] at h
  injection h with h; injection h with h1 h; injection h with h3 h4
  subst h1 h3 h4
  cases hr with
  | agg hr vw=>
  obtain ⟨R',r1,r2,r3,r4,r5⟩:=rP hg hr h2
  exact ⟨R',r1,.agg r2 vw,r3,r4,r5⟩
 ·-- an object's cells never change again
  rename_i id
  split at h
  ·rename_i cs el hid
   injection h with h; injection h with h1 h; injection h with h2 h3
   subst h2 h3
   cases hr with
   | @ptr _ _ b bR=>
   obtain ⟨vs,b1,b2,b3,b4⟩:=hg.obj id _ _ hid bR
   have r2:=pu R w b
   have r1:=hg.freeze bR rfl (show gG (R.all b) w .dead (.b7 b) from bl b1)
   refine ⟨R.all b,r1,Rel.ep (dO.make (b2.mono r2) b3 (fun j v hv=>?_) (fun j _=>.inr rfl)),r2,rfl,fun b' o hi=>?_⟩
   ·rw [jl b1,Nat.zero_add]
    exact hv
   ·rcases hi with hi | rfl
    ·exact .inl hi
    ·exact .inr ⟨id,_,bR,rfl⟩
  ·cases h
 ·cases h
theorem vd {cut wk:Bool}:∀ {ts:List TypeId} {rs J2:List AV} {G G':List GO} {cs:List Value} {R:ao},dz E R w G→aM R w rs cs→wX E cut wk ts rs G=(true,J2,G') →
  ∃ R',dz E R' w G'∧aM R' w J2 cs∧Ext R w R' w∧R'.obj=R.obj∧∀ b o,R'.I b o→R.I b o∨Live R b
 | [],rs,J2,G,G',cs,R,hg,hr,h=>by
  cases rs <;> (simp only [wX] at h; cases h; exact ⟨R,hg,hr,Ext.refl R w,rfl,fun _ _ h=>.inl h⟩)
 | _ :: _,[],J2,G,G',cs,R,hg,hr,h=>by
  simp only [wX] at h; cases h; exact ⟨R,hg,hr,Ext.refl R w,rfl,fun _ _ h=>.inl h⟩
 | t :: ts,r :: rs,J2,G,G',cs,R,hg,hr,h=>by
  cases hr with
  | cons h0 hr=>
  unfold wX at h
  split at h
  ·rename_i c r' G1 h1
   cases h2:wX E cut wk ts rs G1 with
   | mk c' q=>
   obtain ⟨XZ,G2⟩:=q
   rw [h2] at h
   simp only [Prod.mk.injEq,Bool.and_eq_true] at h
   obtain ⟨⟨rfl,rfl⟩,rfl,rfl⟩:=h
   obtain ⟨R1,a1,a2,a3,a4,a5⟩:=NT hg h0 h1
   obtain ⟨R2,b1,b2,b3,b4,b5⟩:=vd a1 (hr.mono a3) h2
   refine ⟨R2,b1,.cons (a2.mono b3) b2,a3.trans b3,b4.trans a4,fun b o ho=>?_⟩
   rcases b5 b o ho with ho | ho
   ·exact a5 b o ho
   ·obtain ⟨id,ro,q1,q2⟩:=ho
    rw [a4] at q1
    exact .inr ⟨id,ro,q1,q2⟩
  ·cases h2:wX E cut wk ts rs G with
   | mk c' q=>
   obtain ⟨XZ,G2⟩:=q
   rw [h2] at h
   simp only [Prod.mk.injEq] at h
   obtain ⟨rfl,rfl,rfl⟩:=h
   obtain ⟨R2,b1,b2,b3,b4,b5⟩:=vd hg hr h2
   exact ⟨R2,b1,.cons (h0.mono b3) b2,b3,b4,b5⟩
theorem cw.frz {g:FuncId} {args:List AV} {G:List GO} {X:Type} {cut wk:Bool} {ts:List TypeId} {K:AV→List GO→Option X} {x:X} (h:cw E g args G (fun r G'=>TZ E cut wk ts K r G'=some x)):cw E g args G (fun r G'=>K r G'=some x):=
 ⟨h.1,fun R w cs hg hl=>(h.2 R w cs hg hl).mono fun e w' he=>by
  cases e with
  | panicked c=>exact he.elim
  | outgrown=>exact he.elim
  | returned c=>
   obtain ⟨r,G',R1,hq,dZ,NS,st⟩:=he
   have fin:∀ (r':AV) (G2:List GO) (R2:ao),K r' G2=some x→dz E R2 w' G2→Rel R2 w' r' c→Ext R1 w' R2 w'→R2.obj=R1.obj→(∀ b o,R2.I b o→R1.I b o∨Live R1 b)→Ge E R w (fun r G'=>K r G'=some x) (.returned c) w':=by
    intro r' G2 R2 k1 k2 k3 k4 k5 k6
    have live:∀ b,Live R2 b→Live R1 b:=fun b ⟨id,ro,q1,q2⟩=>⟨id,ro,by rw [← k5]; exact q1,q2⟩
    refine ⟨r',G2,R2,k1,k3,k2,⟨st.ext.trans k4,st.os,st.tape,st.output,st.size,st.bE,fun b hb ho=>?_,fun b o hi hb hn=>?_⟩⟩
    ·rcases ho with ho | ⟨k,cs,hk,rfl⟩
     ·exact st.own b hb (.inl (live b ho))
     ·simp [fa,dv] at hk
    ·rcases k6 b o hi with hi | hi
     ·exact st.im b o hi hb hn
     ·exact absurd (st.own b hb (.inl hi)) hn
   unfold TZ at hq
   split at hq
   ·rename_i rs
    cases dZ with
    | bi dZ=>
    cases h2:wX E cut wk ts rs G' with
    | mk c' q=>
    obtain ⟨XZ,G2⟩:=q
    rw [h2] at hq
    cases c' with
    | false=>cases hq
    | true=>
     obtain ⟨R2,b1,b2,b3,b4,b5⟩:=vd NS dZ h2
     exact fin (.bi XZ) G2 R2 hq b1 (.bi b2) b3 b4 b5
   ·split at hq
    ·rename_i c' r' G2 h2
     cases c' with
     | false=>cases hq
     | true=>
      obtain ⟨R2,b1,b2,b3,b4,b5⟩:=vd NS (.cons dZ .nil) h2
      cases b2 with
      | cons b2 _=>exact fin r' G2 R2 hq b1 b2 b3 b4 b5
    ·cases hq⟩
end
end Go.Am
namespace Go.Am
open Go
inductive RP
 | Sd (p:aT)
 | map (pe:aT)
 | ep (ps:aP)
def RP.T:RP→Type
 | .Sd p=>p.T
 | .map pe=>List pe.T
 | .ep ps=>ps.T
def RP.enc (n:Nat):(p:RP)→p.T→AV
 | .Sd p,x=>p.enc x
 | .map _,_=>.map n
 | .ep ps,x=>.ep (ps.enc x)
def RP.E3:(p:RP)→p.T→List GO
 | .Sd _,_=>[]
 | .map pe,(x:List pe.T)=>[.map (ab (x.map pe.enc))]
 | .ep _,_=>[]
def RP.no:RP→Nat
 | .map _=>1
 | _=>0
def tg:List RP→Type
 | []=>Unit
 | [p]=>p.T
 | p :: q :: l=>p.T × tg (q :: l)
def oN:(n:Nat)→(l:List RP)→tg l→List AV
 | _,[],_=>[]
 | n,[p],x=>[p.enc n x]
 | n,p :: q :: l,x=>p.enc n x.1 :: oN (n+p.no) (q :: l) x.2
def gT:(l:List RP)→tg l→List GO
 | [],_=>[]
 | [p],x=>p.E3 x
 | p :: q :: l,x=>p.E3 x.1++gT (q :: l) x.2
structure RF where
 bi:Bool
 l:List RP
def RF.val (f:RF) (n:Nat) (x:tg f.l):AV:=bif f.bi then .bi (oN n f.l x) else ee (oN n f.l x)
def RP.is:RP→AV→Bool
 | .Sd p,v=>match p with
  | .gC u=>dX v u
  | _=>true
 | .map _,v=>match v with
  | .map _=>true
  | _=>false
 | .ep _,v=>match v with
  | .ep _=>true
  | _=>false
def J3:List RP→List AV→Bool
 | [],[]=>true
 | p :: l,v :: vs=>p.is v&&J3 l vs
 | _,_=>false
def RF.args (f:RF) (r:AV):List AV:=bif f.bi then r.S4 else [r]
def RF.zN (f:RF):AV→Bool
 | .bi _=>f.bi
 | _=>!f.bi
def A7 (G:List GO) (used:List Nat) (pe:aT) (v:AV):Option (List pe.T):=match v with
 | .map id=>match nth G id with
  | some (.map es)=>bif Nc used id then none else (bif allFit pe.fits (an es) then some ((an es).map pe.bw) else none)
  | _=>none
 | _=>none
def Gs (ps:aP) (v:AV):Option ps.T:=match v with
 | .ep cs=>ps.dec cs
 | _=>none
def RP.dec (G:List GO) (used:List Nat):(p:RP)→AV→Option p.T
 | .Sd p,v=>p.dec v
 | .map pe,v=>A7 G used pe v
 | .ep ps,v=>Gs ps v
def th (used:List Nat):AV→List Nat
 | .map id=>id :: used
 | _=>used
def tj (G:List GO):(used:List Nat)→(l:List RP)→List AV→Option (tg l)
 | _,[],vs=>match vs with
  | []=>some ()
  | _=>none
 | u,[p],vs=>match vs with
  | [v]=>p.dec G u v
  | _=>none
 | u,p :: q :: l,vs=>match vs with
  | v :: vs=>(p.dec G u v).bind fun x=>(tj G (th u v) (q :: l) vs).bind fun y=>some (x,y)
  | []=>none
def RF.dec (f:RF) (G:List GO) (r:AV):Option (tg f.l):=bif f.zN r then tj G [] f.l (f.args r) else none
def RP.under:RP→Bool
 | .Sd p=>p.under 0
 | .map pe=>pe.under 0
 | .ep ps=>ps.under 0
def RF.under (f:RF):Bool:=f.l.all RP.under&&(f.bi || Nat.beq f.l.length 1)
def XT:List RF→Type
 | []=>Empty
 | [f]=>tg f.l
 | f :: g :: l=>tg f.l ⊕ XT (g :: l)
def J4 (G:List GO) (r:AV):(l:List RF)→Option (XT l)
 | []=>none
 | [f]=>f.dec G r
 | f :: g :: l=>bif f.zN r&&J3 f.l (f.args r) then (f.dec G r).bind fun x=>some (.inl x) else (J4 G r (g :: l)).bind fun x=>some (.inr x)
def WZ {α:Type} (G:List GO) (K:AV→List GO→α):(l:List RF)→XT l→α
 | [],o=>Empty.rec (fun _=>α) o
 | [f],o=>K (f.val G.length o) (G++gT f.l o)
 | f :: g :: l,o=>Sum.elim (fun v=>K (f.val G.length v) (G++gT f.l v)) (fun o=>WZ G K (g :: l) o) o
theorem CR {α:Type} {G:List GO} {K:AV→List GO→α} {r:AV} {G':List GO}:∀ (l:List RF) (o:XT l),WZ G (fun r0 G0=>r=r0∧G'=G0) l o→K r G'=WZ G K l o
 | [],o,_=>nomatch o
 | [f],o,h=>by
  have h:r=f.val G.length o∧G'=G++gT f.l o:=h
  rw [h.1,h.2]; rfl
 | f :: g :: l,.inl v,h=>by
  have h:r=f.val G.length v∧G'=G++gT f.l v:=h
  rw [h.1,h.2]; rfl
 | f :: g :: l,.inr o,h=>CR (g :: l) o h
def xd (E:Env) (g:FuncId) (args:List AV) (outs:List RF) (Q:XT outs→Prop):Prop:=
 ∀ G,cw E g args G (fun r G'=>∃ y,Q y∧WZ G (fun r0 G0=>r=r0∧G'=G0) outs y)
section
variable {E:Env} {R R1 R2:ao} {w:World}
theorem dw.Se (m:Mv R R2 0):∀ {es:List (AV × AV)} {l:List AV} {aC:List MapEntry},jH (an es) l→aI 0 l=true→dw R w es aC→dw R2 w (ab l) aC
 | [],[],[],_,_,_=>trivial
 | [],[],_ :: _,_,_,h=>h.elim
 | [],_ :: _,_,h,_,_=>h.elim
 | (_,_) :: _,[],_,h,_,_=>h.elim
 | (_,_) :: _,_ :: _,[],_,_,h=>h.elim
 | (k,v) :: es,a :: l,en :: aC,hd,hu,h=>by
  obtain ⟨d1,d2⟩:=hd
  simp only [aI,Bool.and_eq_true] at hu
  have hc:=d1.cells rfl
  have hl:[k,v].length=a.cells.length:=hc.length
  cases a with
  | agg cs=>
   match cs,hc,hl with
   | [k',v'],hc,_=>
    have TU:aI 0 [k',v']=true:=hu.1
    simp only [aI,Bool.and_true,Bool.and_eq_true] at TU
    exact ⟨(hc.1 _ _ _ h.1).move m TU.1,(hc.2.1 _ _ _ h.2.1).move m TU.2,dw.Se m d2 hu.2 h.2.2⟩
   | [],_,hl=>simp [AV.cells] at hl
   | [_],_,hl=>simp [AV.cells] at hl
   | _ :: _ :: _ :: _,_,hl=>simp [AV.cells] at hl
  | _=>simp [AV.cells] at hl
theorem aT.xe {p:aT} (h:p.under 0=true):∀ l:List p.T,aI 0 (l.map p.enc)=true
 | []=>rfl
 | x :: l=>by
  show ((p.enc x).under 0&&aI 0 (l.map p.enc))=true
  rw [p.dD x h,aT.xe h l]
  rfl
def xf (R:ao) (n:Nat) (bs:List Nat):Prop:=∀ k b,nth bs k=some b→nth R.obj (n+k)=some (.b7 b)
def Gt (R:ao) (w:World) (gs:List GO) (bs:List Nat):Prop:=∀ k go b,nth gs k=some go→nth bs k=some b→gG R w go (.b7 b)
theorem RP.Sf (p:RP) (x:p.T):(p.E3 x).length=p.no:=by cases p <;> rfl
theorem J5 {ps:aP} {v:AV} {y:ps.T} (h:Gs ps v=some y):∃ cs,v=.ep cs∧ps.dec cs=some y:=by
 unfold Gs at h
 split at h
 ·exact ⟨_,rfl,h⟩
 ·cases h
theorem HX {G:List GO} {used:List Nat} {pe:aT} {v:AV} {y:List pe.T} (h:A7 G used pe v=some y):∃ id es,v=.map id∧nth G id=some (.map es)∧id∉used∧jH (an es) (y.map pe.enc):=by
 unfold A7 at h
 split at h
 ·rename_i id
  split at h
  ·rename_i es IT
   cases hu:Nc used id with
   | true=>rw [hu] at h; cases h
   | false=>
    rw [hu,cond_false] at h
    cases hf:allFit pe.fits (an es) with
    | false=>rw [hf] at h; cases h
    | true=>
     rw [hf,cond_true] at h
     have hy:=Option.some.inj h
     refine ⟨id,es,rfl,IT,fun hm=>?_,?_⟩
     ·rw [AZ.2 hm] at hu; cases hu
     ·rw [← hy]; exact jH.of (fun v hv=>pe.cT hv) hf
  ·cases h
 ·cases h
theorem E4 {used:List Nat} {v:AV} {id:Nat} (h:id∈used):id∈th used v:=by
 unfold th
 split
 ·exact List.mem_cons_of_mem _ h
 ·exact h
def A8 (R1:ao) (w:World) (used:List Nat) (v:AV) (c:Value) (p:RP) (y:p.T):Prop:=
 ∃ bs:List Nat,bs.length=p.no∧(∀ b∈bs,∃ id,id∉used∧id∈th used v∧nth R1.obj id=some (.b7 b)) ∧
   ∀ (R2:ao) (n:Nat),(∀ b o,R1.I b o→R2.I b o)→xf R2 n bs→Rel R2 w (p.enc n y) c∧Gt R2 w (p.E3 y) bs
theorem mvI {R1 R2:ao} (hI:∀ b o,R1.I b o→R2.I b o):Mv R1 R2 0:=⟨hI,fun _ _ h=>absurd h (Nat.not_lt_zero _)⟩
theorem RP.T0 {used:List Nat} {p:aT} {v:AV} {c:Value} {y:p.T} (hp:p.under 0=true) (hv:Rel R1 w v c) (hd:p.dec v=some y):A8 R1 w used v c (.Sd p) y:=
 ⟨[],rfl,(fun b hb=>by cases hb),fun R2 n hI _=>⟨Rel.move (mvI hI) (p.dD y hp) ((p.qu hd).gD _ _ _ hv),fun k go b h=>by cases k <;> cases h⟩⟩
theorem RP.Yp {used:List Nat} {ps:aP} {v:AV} {c:Value} {y:ps.T} (hp:ps.under 0=true) (hv:Rel R1 w v c) (hd:Gs ps v=some y):A8 R1 w used v c (.ep ps) y:=by
 obtain ⟨cs,rfl,hd⟩:=J5 hd
 cases hv with
 | ep hc=>
 exact ⟨[],rfl,(fun b hb=>by cases hb),fun R2 n hI _=>⟨.ep (dO.move (mvI hI) ((ps.qu hd).1.I5 hc) (ps.dD y hp)),fun k go b h=>by cases k <;> cases h⟩⟩
theorem RP.T1 {G1:List GO} (hg:dz E R1 w G1) {used:List Nat} {pe:aT} {v:AV} {c:Value} {y:List pe.T} (hp:pe.under 0=true) (hv:Rel R1 w v c) (hd:A7 G1 used pe v=some y):A8 R1 w used v c (.map pe) y:=by
 obtain ⟨id,es,rfl,IT,hu,hdl⟩:=HX hd
 cases hv with
 | map hb=>
 rename_i b
 refine ⟨[b],rfl,fun b' kd=>?_,fun R2 n hI nO=>⟨.map (by have:=nO 0 b rfl; simpa using this),fun k go b' h1 h2=>?_⟩⟩
 ·rw [List.mem_singleton] at kd
  subst kd
  exact ⟨id,hu,List.mem_cons_self,hb⟩
 ·cases k with
  | succ k=>cases h2
  | zero=>
   cases h1; cases h2
   obtain ⟨aC,clock,e1,e2,e3⟩:=hg.obj id _ _ IT hb
   exact ⟨aC,clock,e1,dw.Se (mvI hI) hdl (aT.xe hp y) e2,e3⟩
theorem RP.ok {G1:List GO} (hg:dz E R1 w G1) {used:List Nat} {p:RP} {v:AV} {c:Value} {y:p.T} (hp:p.under=true) (hv:Rel R1 w v c) (hd:p.dec G1 used v=some y):A8 R1 w used v c p y:=by
 cases p with
 | Sd p=>exact RP.T0 hp hv hd
 | ep ps=>exact RP.Yp hp hv hd
 | map pe=>exact RP.T1 hg hp hv hd
theorem gi {α:Type} {l r:List α} {i:Nat} (h:i < l.length):nth (l++r) i=nth l i:=by
 rw [bc,bc,List.getElem?_append_left h]
theorem fq {α:Type} {l r:List α} (i:Nat):nth (l++r) (l.length+i)=nth r i:=by
 rw [bc,bc,List.getElem?_append_right (Nat.le_add_right _ _),Nat.add_sub_cancel_left]
theorem pF {α:Type} {l:List α} {i:Nat} {x:α} (h:nth l i=some x):i < l.length:=by
 rw [bc] at h
 exact (List.getElem?_eq_some_iff.1 h).1
theorem RPs.ok {G1:List GO} (hg:dz E R1 w G1):∀ {l:List RP} {used:List Nat} {vs:List AV} {cs:List Value} {y:tg l},l.all RP.under=true→aM R1 w vs cs→tj G1 used l vs=some y →
  ∃ bs:List Nat,bs.length=(gT l y).length∧bs.Nodup∧(∀ b∈bs,∃ id,id∉used∧nth R1.obj id=some (.b7 b)) ∧
   ∀ (R2:ao) (n:Nat),(∀ b o,R1.I b o→R2.I b o)→xf R2 n bs→aM R2 w (oN n l y) cs∧Gt R2 w (gT l y) bs
 | [],used,vs,cs,y,_,hv,hd=>by
  cases vs with
  | cons _ _=>cases hd
  | nil=>
  cases hv
  exact ⟨[],rfl,List.nodup_nil,(fun b hb=>by cases hb),fun R2 n _ _=>⟨.nil,fun k go b h=>by simp [gT,nth] at h⟩⟩
 | [p],used,vs,cs,y,hu,hv,hd=>by
  match vs,hv,hd with
  | [],_,hd=>cases hd
  | _ :: _ :: _,_,hd=>cases hd
  | [v],.cons hv .nil,hd=>
  have hu:p.under=true:=by simpa using hu
  obtain ⟨bs,h1,h2,h4⟩:=RP.ok hg hu hv hd
  refine ⟨bs,h1.trans (p.Sf y).symm,?_,fun b hb=>let ⟨id,q1,_,q2⟩:=h2 b hb; ⟨id,q1,q2⟩,fun R2 n hI nO=>?_⟩
  ·have:bs.length≤1:=by rw [h1]; cases p <;> simp [RP.no]
   match bs,this with
   | [],_=>exact List.nodup_nil
   | [b],_=>simp
   | _ :: _ :: _,h=>simp at h
  ·obtain ⟨k1,k2⟩:=h4 R2 n hI nO
   exact ⟨.cons k1 .nil,k2⟩
 | p :: q :: l,used,vs,cs,y,hu,hv,hd=>by
  match vs,hv,hd with
  | [],_,hd=>cases hd
  | v :: vs,.cons (c:=c) (cs:=cs) hv TV,hd=>
  simp only [List.all_cons,Bool.and_eq_true] at hu
  obtain ⟨hu1,W0⟩:=hu
  have W0:(q :: l).all RP.under=true:=by simpa using W0
  have hd:((p.dec G1 used v).bind fun x=>(tj G1 (th used v) (q :: l) vs).bind fun y=>some (x,y))=some y:=hd
  cases hx:p.dec G1 used v with
  | none=>rw [hx] at hd; cases hd
  | some x=>
  rw [hx] at hd
  simp only [Option.bind_some] at hd
  cases hz:tj G1 (th used v) (q :: l) vs with
  | none=>rw [hz] at hd; cases hd
  | some z=>
  rw [hz] at hd
  simp only [Option.bind_some] at hd
  cases hd
  obtain ⟨bs,h1,h2,h4⟩:=RP.ok hg hu1 hv hx
  obtain ⟨bs',k1,k0,k2,k4⟩:=RPs.ok hg W0 TV hz
  have DM:bs.length=(p.E3 x).length:=h1.trans (p.Sf x).symm
  refine ⟨bs++bs',?_,?_,fun b hb=>?_,fun R2 n hI nO=>?_⟩
  ·show _=(p.E3 x++gT (q :: l) z).length
   rw [List.length_append,List.length_append,DM,k1]
  ·have IR:bs.Nodup:=by
    have:bs.length≤1:=by rw [h1]; cases p <;> simp [RP.no]
    match bs,this with
    | [],_=>exact List.nodup_nil
    | [b],_=>simp
    | _ :: _ :: _,h=>simp at h
   rw [List.nodup_append]
   refine ⟨IR,k0,fun a ha b hb e=>?_⟩
   subst e
   obtain ⟨id,_,q2,q3⟩:=h2 a ha
   obtain ⟨jw,r1,r2⟩:=k2 a hb
   have:id=jw:=hg.inj id jw _ _ a q3 r2 rfl rfl
   subst this
   exact r1 q2
  ·rcases List.mem_append.1 hb with hb | hb
   ·obtain ⟨id,q1,_,q2⟩:=h2 b hb
    exact ⟨id,q1,q2⟩
   ·obtain ⟨id,q1,q2⟩:=k2 b hb
    exact ⟨id,fun hm=>q1 (E4 hm),q2⟩
  ·have at1:xf R2 n bs:=fun k b hk=>nO k b (by rw [gi (pF hk)]; exact hk)
   have at2:xf R2 (n+p.no) bs':=fun k b hk=>by
    have:=nO (bs.length+k) b (by rw [fq]; exact hk)
    rw [h1] at this
    rw [Nat.add_assoc]; exact this
   obtain ⟨a1,a2⟩:=h4 R2 n hI at1
   obtain ⟨b1,b2⟩:=k4 R2 (n+p.no) hI at2
   refine ⟨.cons a1 b1,fun k go b iq hb=>?_⟩
   change nth (p.E3 x++gT (q :: l) z) k=some go at iq
   rcases Nat.lt_or_ge k bs.length with hk | hk
   ·rw [gi (by rw [← DM]; exact hk)] at iq
    rw [gi hk] at hb
    exact a2 k go b iq hb
   ·obtain ⟨j,rfl⟩:∃ j,k=bs.length+j:=⟨k - bs.length,by omega⟩
    rw [fq] at hb
    rw [DM,fq] at iq
    exact b2 j go b iq hb
theorem xg:∀ (l:List RP) (n:Nat) (y:tg l),(oN n l y).length=l.length
 | [],_,_=>rfl
 | [_],_,_=>rfl
 | p :: q :: l,n,y=>by
  show (oN (n+p.no) (q :: l) y.2).length+1=(q :: l).length+1
  rw [xg (q :: l)]
theorem xd.of1 {R0:ao} {w0:World} {f:RF} {G G1:List GO} {r:AV} {c:Value} {y:tg f.l} (hf:f.under=true) (hG:dz E R0 w0 G) (st:Step ⟨R0.I,[]⟩ w0 (fun _=>0) fa R1 w (fun _=>0) fa) (hg:dz E R1 w G1) (dZ:Rel R1 w r c) (hd:f.dec G1 r=some y) :
  ∃ R2,Rel R2 w (f.val G.length y) c∧dz E R2 w (G++gT f.l y)∧Step R0 w0 (fun _=>0) fa R2 w (fun _=>0) fa:=by
 unfold RF.under at hf
 rw [Bool.and_eq_true] at hf
 unfold RF.dec at hd
 obtain ⟨ht,hd⟩:f.zN r=true∧tj G1 [] f.l (f.args r)=some y:=by
  cases ht:f.zN r with
  | true=>rw [ht] at hd; exact ⟨rfl,hd⟩
  | false=>rw [ht] at hd; cases hd
 obtain ⟨cs,pq,Yq⟩:∃ cs,aM R1 w (f.args r) cs∧∀ R2 (x:tg f.l) n,aM R2 w (oN n f.l x) cs→Rel R2 w (f.val n x) c:=by
  unfold RF.args RF.val
  cases ab0:f.bi with
  | true=>
   have:∃ vs,r=.bi vs:=by
    cases r <;> first | exact ⟨_,rfl⟩ | (simp [RF.zN,ab0] at ht)
   obtain ⟨vs,rfl⟩:=this
   cases dZ with
   | bi h=>exact ⟨_,h,fun R2 x n h=>.bi h⟩
  | false=>
   refine ⟨[c],.cons dZ .nil,fun R2 x n h=>?_⟩
   simp only [cond_false]
   have hlen:=xg f.l n x
   revert h hlen
   generalize oN n f.l x=l
   intro h hlen
   cases h with
   | cons h _=>exact h
 obtain ⟨bs,h1,h2,h3,h4⟩:=RPs.ok hg hf.1 pq hd
 have jm:∀ b,¬ Own (⟨R0.I,[]⟩:ao) (fun _=>0) fa b:=fun b ho=>by
  obtain ⟨id,ro,q1,_⟩:=eJ ho
  simp [nth] at q1
 have ol:∀ b∈bs,w0.heap.size≤b:=fun b hb=>by
  obtain ⟨id,_,hid⟩:=h3 b hb
  rcases Nat.lt_or_ge b w0.heap.size with bV | mF
  ·exact absurd (st.own b bV (.inl ⟨id,_,hid,rfl⟩)) (jm b)
  ·exact mF
 let R2:ao:=⟨R1.I,R0.obj++bs.map RO.b7⟩
 have e:Ext R0 w0 R2 w:=⟨st.ext.I,st.ext.cell,fun id ro h=>⟨ro,by rw [gi (pF h)]; exact h,cD.refl ro⟩,st.ext.lp⟩
 have bE:∀ b,b < w0.heap.size→w.heap[b]?=w0.heap[b]?:=fun b hb=>st.bE b hb (jm b)
 have im:∀ b o,b < w0.heap.size→R1.I b o→R0.I b o:=fun b o hb hi=>st.im b o hi hb (jm b)
 have ab1:∀ {k ro},nth (bs.map RO.b7) k=some ro→∃ b,nth bs k=some b∧ro=.b7 b:=fun {k ro} h=>by
  rw [bc,List.getElem?_map] at h
  cases hb:bs[k]? with
  | none=>rw [hb] at h; cases h
  | some b=>rw [hb] at h; exact ⟨b,by rw [bc]; exact hb,(Option.some.inj h).symm⟩
 have nO:xf R2 R0.obj.length bs:=fun k b hk=>by
  show nth (R0.obj++bs.map RO.b7) (R0.obj.length+k)=_
  rw [fq,bc,List.getElem?_map]
  rw [bc] at hk
  rw [hk]; rfl
 obtain ⟨k1,k2⟩:=h4 R2 R0.obj.length (fun _ _ h=>h) nO
 rw [hG.len] at k1
 have hold:∀ id ro,nth R2.obj id=some ro→nth R0.obj id=some ro∨∃ k b,id=R0.obj.length+k∧nth bs k=some b∧ro=.b7 b:=fun id ro h=>by
  rcases Nat.lt_or_ge id R0.obj.length with bV | mF
  ·exact .inl (by rw [← gi (r:=bs.map RO.b7) bV]; exact h)
  ·obtain ⟨k,rfl⟩:∃ k,id=R0.obj.length+k:=⟨id - R0.obj.length,by omega⟩
   have h:nth (R0.obj++bs.map RO.b7) (R0.obj.length+k)=some ro:=h
   rw [fq] at h
   obtain ⟨b,q1,q2⟩:=ab1 h
   exact .inr ⟨k,b,rfl,q1,q2⟩
 have Sg:∀ id ro b,nth R0.obj id=some ro→ro.has b→b < w0.heap.size:=fun id ro b h hb=>by
  have hl:=pF h
  rw [hG.len] at hl
  have iq:nth G id=some G[id]:=by rw [bc]; exact List.getElem?_eq_getElem hl
  exact (hG.obj id _ _ iq h).lt hb
 have T2:∀ {k b},nth bs k=some b→b∈bs:=fun {k b} h=>by
  rw [bc] at h
  exact List.mem_of_getElem? h
 refine ⟨R2,Yq R2 y _ k1,⟨?_,fun id go ro q1 q2=>?_,fun i j ri rj b q1 q2 b1 b2=>?_,hg.wf,fun g cs qx=>(hG.cb g cs qx).mono e,hg.lo⟩,⟨e,st.os,st.tape,st.output,st.size,fun b hb _=>bE b hb,fun b hb ho=>?_,fun b o hi hb _=>im b o hb hi⟩⟩
 ·show (R0.obj++bs.map RO.b7).length=_
  rw [List.length_append,List.length_map,List.length_append,hG.len,h1]
 ·rcases hold id ro q2 with q2 | ⟨k,b,rfl,q3,rfl⟩
  ·have hl:=pF q2
   rw [hG.len] at hl
   rw [gi hl] at q1
   refine (hG.obj id go ro q1 q2).mono e (fun b hb=>bE b ?_) (fun b o hb hi=>im b o ?_ hi)
   ·exact (hG.obj id go ro q1 q2).lt hb
   ·exact (hG.obj id go ro q1 q2).lt hb
  ·rw [hG.len,fq] at q1
   exact k2 k go b q1 q3
 ·rcases hold i ri q1 with q1 | ⟨k,a,rfl,q3,rfl⟩
  ·rcases hold j rj q2 with q2 | ⟨k',a',rfl,q4,rfl⟩
   ·exact hG.inj i j ri rj b q1 q2 b1 b2
   ·have:b=a':=b2
    subst this
    have:=ol _ (T2 q4)
    have:=Sg i ri b q1 b1
    omega
  ·have hba:b=a:=b1
   subst hba
   rcases hold j rj q2 with q2 | ⟨k',a',rfl,q4,rfl⟩
   ·have:=ol _ (T2 q3)
    have:=Sg j rj b q2 b2
    omega
   ·have:b=a':=b2
    subst this
    have l1:=pF q3
    have l2:=pF q4
    rw [bc] at q3 q4
    have:=(List.getElem?_inj l1 h2).1 (q3.trans q4.symm)
    omega
 ·rcases eJ ho with ⟨id,ro,q1,q2⟩
  rcases hold id ro q1 with q1 | ⟨k,a,rfl,q3,rfl⟩
  ·exact .inl ⟨id,ro,q1,q2⟩
  ·have:b=a:=q2
   subst this
   have:=ol _ (T2 q3)
   omega
theorem Gu {G1:List GO} {r:AV}:∀ {outs:List RF} {y:XT outs},J4 G1 r outs=some y→(∀ f∈outs,f.under=true) →
  ∃ (f:RF) (z:tg f.l),f.under=true∧f.dec G1 r=some z∧∀ {α:Type} (G:List GO) (K:AV→List GO→α),WZ G K outs y=K (f.val G.length z) (G++gT f.l z)
 | [],_,h,_=>by cases h
 | [f],y,h,hu=>⟨f,y,hu f (by simp),h,fun _ _=>rfl⟩
 | f :: g :: l,y,h,hu=>by
  simp only [J4] at h
  cases hb:(f.zN r&&J3 f.l (f.args r)) with
  | true=>
   rw [hb] at h
   simp only [cond_true] at h
   cases hx:f.dec G1 r with
   | none=>rw [hx] at h; cases h
   | some x=>
    rw [hx] at h
    cases h
    exact ⟨f,x,hu f (by simp),hx,fun _ _=>rfl⟩
  | false=>
   rw [hb] at h
   simp only [cond_false] at h
   cases hx:J4 G1 r (g :: l) with
   | none=>rw [hx] at h; cases h
   | some x=>
    rw [hx] at h
    cases h
    obtain ⟨f',z,k0,k1,k2⟩:=Gu hx (fun f hf=>hu f (List.mem_cons_of_mem _ hf))
    exact ⟨f',z,k0,k1,fun G K=>k2 G K⟩
theorem xd.of {g:FuncId} {args:List AV} {outs:List RF} {Q:XT outs→Prop} (hc:aI 0 args=true) (hp:∀ f∈outs,f.under=true)
  (h:cw E g args [] (fun r G'=>∃ y,J4 G' r outs=some y∧Q y)):xd E g args outs Q:=fun G=>by
 refine ⟨h.1,fun R w cs hg hl=>?_⟩
 let R0:ao:=⟨R.I,[]⟩
 have m0:Mv R R0 0:=⟨fun _ _ h=>h,fun _ _ h=>absurd h (Nat.not_lt_zero _)⟩
 have M4:dz E R0 w []:=⟨rfl,fun id go ro h1 _=>by simp [nth] at h1,fun i j ri rj b h1=>by simp [R0,nth] at h1,hg.wf,fun g cs qx=>(hg.cb g cs qx).move m0 (cr _ (E.nX g cs qx)),hg.lo⟩
 have sV:aM R0 w args cs:=hl.move m0 hc
 refine (h.2 R0 w cs M4 sV).mono fun e w' he=>?_
 cases e with
 | panicked c=>exact he.elim
 | outgrown=>exact he.elim
 | returned c=>
  obtain ⟨r,G',R1,⟨y,hy,hQ⟩,dZ,NS,st⟩:=he
  obtain ⟨f,z,hf,hz,iq⟩:=Gu hy hp
  obtain ⟨R2,k1,k2,k3⟩:=xd.of1 hf hg st NS dZ hz
  refine ⟨_,_,R2,⟨y,hQ,?_⟩,k1,k2,k3⟩
  rw [iq]
  exact ⟨rfl,rfl⟩
end
end Go.Am
namespace Go.Am
open Go
structure aQ where
 ps:aP
 p:aT
 T:ps.T→Option p.T
def ap (E:Env) (g:FuncId) (e:aQ):Prop:=∀ x y,e.T x=some y→aY E g (e.ps.enc x) (fun r=>r=e.p.enc y)
inductive XK
 | norm
 | ret
 | ex (id:Nat)
def XK.is:XK→Exit→Bool
 | .norm,.normal=>true
 | .ret,.ret=>true
 | .ex i,.exit j=>Nat.beq i j
 | _,_=>false
def XK.exit:XK→Exit
 | .norm=>.normal
 | .ret=>.ret
 | .ex i=>.exit i
theorem XK.Gn {k:XK} {e:Exit} (h:k.is e=true):e=k.exit:=by
 cases k <;> cases e <;> simp_all [XK.is,XK.exit]
def JT:List (XK × cI)→Type
 | []=>Empty
 | [x]=>x.2.ps.T
 | x :: y :: l=>x.2.ps.T ⊕ JT (y :: l)
def kV (s:St):(outs:List (XK × cI))→Exit→St→Option (JT outs)
 | [],_,_=>none
 | [x],e,s'=>bif x.1.is e then x.2.dec s s' else none
 | x :: y :: l,e,s'=>bif x.1.is e then (x.2.dec s s').bind fun v=>some (.inl v) else (kV s (y :: l) e s').bind fun o=>some (.inr o)
def Nd {α:Type} (s:St):(outs:List (XK × cI))→JT outs→(Exit→St→α)→α
 | [],o,_=>Empty.rec (fun _=>α) o
 | [x],o,K=>K x.1.exit (x.2.st s o)
 | x :: y :: l,o,K=>Sum.elim (fun v=>K x.1.exit (x.2.st s v)) (fun o=>Nd s (y :: l) o K) o
inductive cA
 | loop (gh:List (Loc × Nat × TypeId)) (head:cI) (outs:List (XK × cI))
 | join (outs:List (XK × cI))
 | rot (k:List Bool) (gh:List (Loc × Nat × TypeId)) (head:cI) (outs:List (XK × cI))
 | Yr (n:Nat) (a b:cA)
 | mq (gh:List (Loc × Nat × TypeId)) (head:cI) (outs:List (XK × cI))
def J6 (n:Nat):cA→cA
 | .Yr m a b=>bif Nat.beq n m then J6 n a else J6 n b
 | c=>c
def aG {V X:Type} (rd:V→Option (V ⊕ X)):Nat→V→Option X
 | 0,_=>none
 | n+1,v=>(rd v).bind fun o=>Sum.elim (fun v'=>aG rd n v') (fun x=>some x) o
def mq {V X:Type} (rd:(V→Option X)→V→Option X):Nat→V→Option X
 | 0,_=>none
 | n+1,v=>rd (mq rd n) v
structure lI (E:Env) (g:FuncId) where
 f:List AV→List GO→Option (Bool × AV × List GO)
 ok:∀ args G r G',f args G=some (true,r,G')→cw E g args G (fun r' zM=>r'=r∧zM=G')
structure T3 (E:Env) (g:FuncId) where
 ps:aP
 outs:List RF
 T:ps.T→Option (XT outs)
 ok:∀ x y,T x=some y→xd E g (ps.enc x) outs (fun z=>z=y)
structure eE where
 D:HR
 yx:FuncId→Option aQ
 oO:FuncId→Nat→Option cA
 fz:Bool
 N:Nat
 gt:(g:FuncId)→Option (lI D.toEnv g):=fun _=>none
 xt:(g:FuncId)→Option (T3 D.toEnv g):=fun _=>none
def qI {α:Type} (fz:Bool) (s:St) (K:St→α):α:=match fz with
 | true=>ET s K
 | false=>match s with
  | ⟨sl,bx,G,m,ro,n⟩=>K ⟨sl,bx,G,m,ro,n⟩
theorem da {α:Type} (fz:Bool) (s:St) (K:St→α):qI fz s K=K s:=by
 cases fz
 ·rfl
 ·exact HS s K
abbrev oP (X:Type):=FuncId→List AV→List GO→(AV→List GO→Option X)→Option X
abbrev lJ (X:Type):=Nat→List AV→List GO→(Bool→List GO→Option X)→Option X
section ev
variable {X:Type}
def A9 (E:Env) (s:St) (o:Oper):Option (Int × Nat × (Nat→Oper)):=match o.op with
 | .index t x (.tmp y)=>match bI E s.ah (.tmp y),E.ti t with
  | .v (.int k n),some i=>match i.k with
   | .arr len _ _=>some (n,len,fun j=>{ o with op:=.index t x (.const (.int k j)) })
   | _=>none
  | _,_=>none
 | .indexAddr t x (.tmp y)=>match bI E s.ah (.tmp y),E.ti t with
  | .v (.int k n),some i=>match i.k with
   | .arr len _ _=>match bI E s.ah x with
    | .v (.ep _)=>match E.Nk t with
     | some _=>none
     | none=>some (n,len,fun j=>{ o with op:=.indexAddr t x (.const (.int k j)) })
    | _=>some (n,len,fun j=>{ o with op:=.indexAddr t x (.const (.int k j)) })
   | _=>none
  | _,_=>none
 | _=>none
def vf (E:Env) (fz:Bool) (f:FuncId) (g:Nat→Oper) (n:Int) (K:St→Option X) (s:St):Nat→Nat→Option X
 | 0,_=>none
 | m+1,j=>bif decide (n=(j:Int)) then (match au E f s (g j) with
   | some (c,s')=>bif c then qI fz s' K else none
   | _=>none) else vf E fz f g n K s m (j+1)
def T4 (E:Env) (fz:Bool) (call:oP X) (lj:lJ X) (f:FuncId) (o:Oper) (K:St→Option X) (s:St):Option X:=
 match o.op with
 | .call { callee:=.value x,args,.. }=>match bI E s.ah x,lS E s.ah args.toList with
  | .v (.fn g first cap),some l=>call g (first++l++cap) s.G (fun r G'=>qI fz ((s.b9 G').put o.dst (.v r)) K)
  | .v (.yield id),some l=>lj id l s.G (fun b G'=>qI fz ((s.b9 G').put o.dst (.v (.bool b))) K)
  | _,_=>none
 | .defer _=>none
 | .next x true=>match JZ s o.dst (bI E s.ah x) with
  | some (b,s1,s2)=>bif b then qI fz s1 K else qI fz s2 K
  | none=>none
 | .lookup t m k ok=>match va E s t (bI E s.ah m) (bI E s.ah k) with
  | some (c,v,b)=>bif c then qI fz (s.put o.dst (.v (if ok then .bi [v,.bool b] else v))) K else none
  | none=>match au E f s o with
   | some (c,s')=>bif c then qI fz s' K else none
   | _=>none
 | .mapUpdate t m k x=>match o.dst,vb E s t (bI E s.ah m) (bI E s.ah k) (bI E s.ah x) with
  | none,some (c,s')=>bif c then qI fz s' K else none
  | _,_=>none
 | .insert t m k x=>match o.dst,vb E s t (bI E s.ah m) (bI E s.ah k) (bI E s.ah x) with
  | none,some (c,s')=>bif c then qI fz s' K else none
  | _,_=>none
 | .call { callee:=.builtin .append,args,argTypes }=>match gF E f s o with
  | some (c,s')=>bif c then qI fz s' K else none
  | none=>match lS E s.ah args.toList with
   | some l=>match A4 E s o.dst l argTypes.toList with
    | some (b,s1,c,s2)=>bif b then qI fz s1 K else bif c then qI fz s2 K else none
    | none=>match au E f s o with
     | some (c,s')=>bif c then qI fz s' K else none
     | _=>none
   | none=>none
 | .call { callee:=.builtin .copy,args,argTypes }=>match lS E s.ah args.toList with
  | some l=>match J1 E s o.dst l argTypes.toList with
   | some (c,s')=>bif c then qI fz s' K else none
   | none=>match au E f s o with
    | some (c,s')=>bif c then qI fz s' K else none
    | _=>none
  | none=>none
 | _=>match A9 E s o with
  | some (n,len,g)=>vf E fz f g n K s len 0
  | none=>match au E f s o with
   | some (c,s')=>bif c then qI fz s' K else none
   | _=>none
def oQ (E:Env) (fz:Bool) (call:oP X) (lj:lJ X) (f:FuncId) (ops:List Oper) (o:Oper) (K:St→Option X) (s:St):Option X:=
 match o.guard with
 | none=>T4 E fz call lj f o K s
 | some (j,want)=>match oA ops j with
  | none=>none
  | some d=>match lk s.ah d with
   | .v (.bool b)=>match want with
    | true=>bif b then qI fz (s.put (some d) (.v (.bool true))) (T4 E fz call lj f o K) else qI fz ((s.put (some d) (.v (.bool false))).put o.dst (.v fE)) K
    | false=>bif b then qI fz ((s.put (some d) (.v (.bool true))).put o.dst (.v fE)) K else qI fz (s.put (some d) (.v (.bool false))) (T4 E fz call lj f o K)
   | .v (.bi [])=>qI fz (s.put o.dst (.v fE)) K
   | _=>none
def Ba (E:Env) (fz:Bool) (call:oP X) (lj:lJ X) (f:FuncId) (ops:List Oper) (o:Oper) (K:St→Option X) (s:St):Option X:=
 match o.guard,jh E f s o with
 | none,some s'=>qI fz s' K
 | _,_=>oQ E fz call lj f ops o K s
noncomputable def NU {X:Type} (l:List Nat) (F:Nat→Option X):Option X:=match l with
 | []=>none
 | i :: r=>@ite _ (∀ j∈r,F j=F i) (Classical.propDecidable _) (F i) none
theorem HY {X:Type} {l:List Nat} {F:Nat→Option X} {x:X} (h:NU l F=some x):∀ i∈l,F i=some x:=by
 cases l with
 | nil=>cases h
 | cons i r=>
  have h:@ite _ (∀ j∈r,F j=F i) (Classical.propDecidable _) (F i) none=some x:=h
  by_cases hr:∀ j∈r,F j=F i
  ·rw [if_pos hr] at h
   intro j hj
   rcases List.mem_cons.1 hj with rfl | hj
   ·exact h
   ·rw [hr j hj]; exact h
  ·rw [if_neg hr] at h
   cases h
theorem NV {X:Type} {l:List Nat} {F:Nat→Option X} {x:X} (hl:l≠[]) (h:∀ i∈l,F i=some x):NU l F=some x:=by
 cases l with
 | nil=>exact absurd rfl hl
 | cons i r=>
  show @ite _ (∀ j∈r,F j=F i) (Classical.propDecidable _) (F i) none=some x
  have hr:∀ j∈r,F j=F i:=fun j hj=>by rw [h j (List.mem_cons_of_mem _ hj),h i List.mem_cons_self]
  rw [if_pos hr]
  exact h i List.mem_cons_self
noncomputable def vg (E:Env) (fz:Bool) (call:oP X) (lj:lJ X) (f:FuncId) (ops:List Oper) (o:Oper) (K:St→Option X) (s:St):Option X:=
 match o.guard,tK E f s o,sM E s o with
 | none,some (c,s'),_=>bif c then qI fz s' K else none
 | none,none,some (c,s0,left,g)=>bif c then (bif left.isEmpty then qI fz s0 K else NU left fun i=>bif (g i).1 then qI fz (g i).2 K else none) else none
 | _,_,_=>Ba E fz call lj f ops o K s
noncomputable def Bb (E:Env) (fz:Bool) (call:oP X) (lj:lJ X) (f:FuncId) (ops:List Oper) (o:Oper) (K:St→Option X) (s:St):Option X:=
 match Hh E f s o with
 | some (c,s')=>bif c then vg E fz call lj f ops o K s' else none
 | none=>vg E fz call lj f ops o K s
noncomputable def NW (E:Env) (fz:Bool) (call:oP X) (lj:lJ X) (f:FuncId) (ops:List Oper):List Oper→(St→Option X)→St→Option X
 | [],K,s=>K s
 | o :: rest,K,s=>Bb E fz call lj f ops o (fun s'=>match zy E f o s' with
  | some s2=>NW E fz call lj f ops rest K s2
  | none=>none) s
def T5 (E:Env) (f:FuncId) (ops:List Oper) (o:Oper) (s:St):Bool:=match o.op,o.dst with
 | .lookup t m k ok,some d=>match BM ops s o,va E s t (bI E s.ah m) (bI E s.ah k) with
  | some true,some (c,v,b)=>c&&AW (.v (if ok then .bi [v,.bool b] else v)) (lk s.ah d)
  | _,_=>bRe E f ops o s
 | _,_=>bRe E f ops o s
def pG (E:Env) (f:FuncId) (ops:List Oper):List Nat→St→Bool
 | [],_=>true
 | k :: l,s=>(match nth ops k with
  | some ok=>T5 E f ops ok s
  | none=>true)&&pG E f ops l s
def oT (E:Env) (fz:Bool) (call:oP X) (lj:lJ X) (eY:Option X→Option X→Option X) (f:FuncId) (ops:List Oper):DT→(St→Option X)→St→Option X
 | .done,K,s=>K s
 | .take j _ t,K,s=>match nth ops j with
  | some oj=>oQ E fz call lj f ops oj (oT E fz call lj eY f ops t K) s
  | none=>none
 | .br i re _ t .stop,K,s=>match nth ops i with
  | some oi=>oQ E fz call lj f ops oi (fun s'=>bif pG E f ops re s' then oT E fz call lj eY f ops t K s' else none) s
  | none=>none
 | .br i re _ t more,K,s=>eY (match nth ops i with
  | some oi=>oQ E fz call lj f ops oi (fun s'=>bif pG E f ops re s' then oT E fz call lj eY f ops t K s' else none) s
  | none=>none) (oT E fz call lj eY f ops more K s)
 | .stop,_,_=>none
 | .al j W t,K,s=>match nth ops j with
  | some oj=>bif TL E f oj W s then oQ E fz call lj f ops oj (oT E fz call lj eY f ops t K) s else none
  | none=>none
end ev
def zO {X:Type} (N:St→Option X) (Q:Exit→St→Option X):Exit→St→Option X
 | .normal,s=>N s
 | e,s=>Q e s
def J7 {X:Type} (id:Nat) (Q:Exit→St→Option X):Exit→St→Option X
 | .exit jw,s=>bif Nat.beq jw id then Q .normal s else Q (.exit jw) s
 | e,s=>Q e s
def T6 {X:Type} (Q:Exit→St→Option X):Exit→St→Option X
 | .goto _,_=>none
 | e,s=>Q e s
def J8 {X:Type} (E:Env) (fn:Func) (K:AV→List GO→Option X):Exit→St→Option X
 | .normal,s | .ret,s=>match oC s.marks s.G with
  | some G=>match JC E (s.b9 G) fn with
   | some r=>K r G
   | none=>none
  | none=>none
 | _,_=>none
def ul (s:St) (head:cI) (outs:List (XK × cI)):Exit→St→Option (head.ps.T ⊕ JT outs)
 | .normal,s'=>(head.dec s s').bind fun v=>some (.inl v)
 | e,s'=>(kV s outs e s').bind fun o=>some (.inr o)
noncomputable def BN {X:Type} (a b:Option X):Option X:=@ite _ (a=b) (Classical.propDecidable _) a none
def um {X:Type} (eY:Option X→Option X→Option X):Prop:=∀ a b x,eY a b=some x→a=some x∧b=some x
def E5 {X:Type} (id:Nat) (K:Bool→List GO→Option X):Exit→St→Option X:=fun e s=>match nth s.G id with
 | some (.loop _ _ fn sl n ps rQ bd d _)=>match e with
  | .normal=>K true (aB s.G id (.loop false none fn sl n ps rQ bd d false))
  | .ret=>K false (aB s.G id (.loop false (some .ret) fn sl n ps rQ bd d true))
  | .exit i=>K false (aB s.G id (.loop false (some (.exit i)) fn sl n ps rQ bd d true))
  | _=>none
 | _=>none
def fpF (fp:Nat):Nat:=fp % 4096
def fpP (fp:Nat):Nat:=fp / 4096
abbrev W1:=FuncId→Nat→Code→(X:Type)→(Option X→Option X→Option X)→(Exit→St→Option X)→St→Option X
section
variable (C:eE) (ih:W1)
def CS {X:Type} (eY:Option X→Option X→Option X):oP X:=fun g args G K=>
 bif C.D.okF g then match C.D.P.funcs[g]? with
   | some fn=>match fn.body with
    | some b => bif !(fn.name == "runtime.NumGoroutine") then ih g 1 b X eY (J8 C.D.toEnv fn (bif C.D.yy g 131072 then TZ C.D.toEnv (C.D.yy g 131073) (C.D.yy g 131074) fn.resultTypes.toList K else K)) (St.init fn.ntmps args G) else none
    | none=>none
   | none=>none
  else none
def CT {X:Type} (eY:Option X→Option X→Option X):oP X:=fun g args G K=>
 match C.yx g with
 | some e=>(e.ps.dec args).bind fun x=>(e.T x).bind fun y=>K (e.p.enc y) G
 | none=>match C.gt g with
  | some e=>match e.f args G with
   | some (c,r,G')=>bif c then K r G' else none
   | none=>none
  | none=>match C.xt g with
   | some e=>(e.ps.dec args).bind fun x=>(e.T x).bind fun o=>WZ G K e.outs o
   | none=>CS C ih eY g args G K
def NX (n:Nat):List Tmp→Bool
 | []=>true
 | t :: l=>Nat.blt t n&&NX n l
def NY {X:Type} (eY:Option X→Option X→Option X):lJ X:=fun id args G K=>match nth G id with
 | some (.loop false _ fp sl n ps rQ bd _ false)=>
  bif Nat.beq args.length ps.length&&NX n ps&&bH (C.D.dt (fpF fp)) rQ&&bH (C.D.dt (fpF fp)) bd then
   ih (fpF fp) (2 * fpP fp) rQ X eY (fun e s1=>match e with
    | .normal=>match nth s1.G id with
     | some (.loop false p fn sl n ps rQ WX d false)=>ih (fpF fp) (2 * fpP fp+1) bd X eY (E5 id K) (s1.b9 (aB s1.G id (.loop true p fn sl n ps rQ WX d false)))
     | _=>none
    | _=>none) (St.round id (wV ps args sl) n G)
  else none
 | _=>none
noncomputable def xh (f:FuncId) (p:Nat) (c:Code) (X:Type) (eY:Option X→Option X→Option X) (K:Exit→St→Option X) (s:St):Option X:=
 match c with
 | .skip=>K .normal s
 | .label _=>K .normal s
 | .seq x y=>ih f (2 * p) x X eY (zO (ih f (2 * p+1) y X eY K) K) s
 | .cond c x y=>match bI C.D.toEnv s.ah c with
  | .v (.bool b)=>bif b then ih f (2 * p) x X eY K s else ih f (2 * p+1) y X eY K s
  | _=>none
 | .block id c=>ih f (2 * p) c X eY (J7 id K) s
 | .exit id=>K (.exit id) s
 | .ret=>K .ret s
 | .region _ ops false=>NW C.D.toEnv C.fz (CT C ih eY) (NY C ih eY) f ops.toList ops.toList (K .normal) s
 | .region id ops true=>match C.D.dt f id with
  | some pl=>oT C.D.toEnv C.fz (CT C ih eY) (NY C ih eY) eY f ops.toList pl.T (K .normal) s
  | none=>none
 | .scope c=>ih f (2 * p) c X eY (T6 K) s
 | .loop c=>ih f (2 * p) c X eY (zO (ih f p (.loop c) X eY K) K) s
 | .rangeFunc g ps rQ bd=>match s.ro with
  | none=>match bI C.D.toEnv s.ah g with
   | .v (.fn h first cap)=>CT C ih eY h (first++[.yield (s.G.length+1)]++cap) (s.G++[.defers true]++[.loop false none (4096 * p+f) (gZ s.ah) s.n ps.toList rQ bd s.G.length false])
    (fun _ G'=>match nth G' (s.G.length+1) with
     | some (.loop busy pending _ _ _ _ _ _ _ done)=>bif !busy || done then
       match pending with
       | none=>qI C.fz ⟨s.ah,s.boxes,aB G' (s.G.length+1) .dead,s.G.length :: s.marks,s.ro,s.n⟩ (K .normal)
       | some .ret=>qI C.fz ⟨s.ah,s.boxes,aB G' (s.G.length+1) .dead,s.G.length :: s.marks,s.ro,s.n⟩ (K .ret)
       | some (.exit i)=>qI C.fz ⟨s.ah,s.boxes,aB G' (s.G.length+1) .dead,s.G.length :: s.marks,s.ro,s.n⟩ (K (.exit i))
       | _=>none
      else none
     | _=>none)
   | _=>none
  | some _=>none
 | _=>none
def E6:List Oper→List Tmp
 | []=>[]
 | o :: l=>match o.dst with
  | some d=>d :: E6 l
  | none=>E6 l
def kA:Code→List Tmp→List Tmp
 | .region _ ops _,r=>E6 ops.toList++r
 | .seq x y,r=>kA x (kA y r)
 | .cond _ x y,r=>kA x (kA y r)
 | .block _ c,r=>kA c r
 | .scope c,r=>kA c r
 | .loop c,r=>kA c r
 | .rangeFunc _ ps a b,r=>ps.toList++kA a (kA b r)
 | _,r=>r
def xi (W:List Tmp) (t:cI):cI:=⟨t.ps,t.sl,W,t.bx,t.g,t.WV⟩
def r9 (W:List Tmp):List (XK × cI)→List (XK × cI)
 | []=>[]
 | (k,t) :: l=>(k,xi W t) :: r9 W l
def J9:Code→Bool
 | .loop _=>true
 | _=>false
noncomputable def Ys {X:Type} (f:FuncId) (p:Nat) (c:Code) (outs:List (XK × cI)) (K:Exit→St→Option X) (s:St):Option X:=
 (xh C ih f p c (JT outs) BN (kV s outs) s).bind fun o=>Nd s outs o K
noncomputable def Sh {X:Type} (f:FuncId) (p:Nat) (b:Code) (s1:St) (head:cI) (outs:List (XK × cI)) (K:Exit→St→Option X):Option X:=
 (head.dec s1 s1).bind fun v0=>(aG (fun v=>ih f (2 * p) b (head.ps.T ⊕ JT outs) BN (ul s1 head outs) (head.st s1 v)) C.N v0).bind fun o=>Nd s1 outs o K
def Ka (s:St) (head:cI) (outs:List (XK × cI)) (k:head.ps.T→Option (JT outs)):Exit→St→Option (JT outs)
 | .normal,s'=>(head.dec s s').bind k
 | e,s'=>kV s outs e s'
noncomputable def Kb {X:Type} (f:FuncId) (p:Nat) (b:Code) (s1:St) (head:cI) (outs:List (XK × cI)) (K:Exit→St→Option X):Option X:=
 (head.dec s1 s1).bind fun v0=>(mq (fun k v=>ih f (2 * p) b (JT outs) BN (Ka s1 head outs k) (head.st s1 v)) C.N v0).bind fun o=>Nd s1 outs o K
def Kc {X:Type} (eY:Option X→Option X→Option X) (f:FuncId) (K:Exit→St→Option X):List Bool→Nat→Code→St→Option X
 | [],_,_,s=>K .normal s
 | true :: k,q,.seq x y,s=>ih f (2 * q) x X eY (zO (Kc eY f K k (2 * q+1) y) K) s
 | false :: k,q,.seq x _,s=>Kc eY f K k (2 * q) x s
 | _ :: _,_,_,_=>none
def NZ {X:Type} (eY:Option X→Option X→Option X) (f:FuncId):List Bool→Nat→Code→(Exit→St→Option X)→St→Option X
 | [],q,c,K,s=>ih f q c X eY K s
 | true :: k,q,.seq _ y,K,s=>NZ eY f k (2 * q+1) y K s
 | false :: k,q,.seq x y,K,s=>NZ eY f k (2 * q) x (zO (ih f (2 * q+1) y X eY K) K) s
 | _ :: _,_,_,_,_=>none
noncomputable def Yt {X:Type} (f:FuncId) (p:Nat) (b:Code) (k:List Bool) (s1:St) (head:cI) (outs:List (XK × cI)) (K:Exit→St→Option X):Option X:=
 ((Kc ih BN f (ul s1 head outs) k (2 * p) b s1).bind fun r0=>
  Sum.elim (fun v0=>aG (fun v=>NZ ih BN f k (2 * p) b (zO (Kc ih BN f (ul s1 head outs) k (2 * p) b) (ul s1 head outs)) (head.st s1 v)) C.N v0) (fun x=>some x) r0).bind fun o=>Nd s1 outs o K
noncomputable def xj (f:FuncId) (p:Nat) (c:Code) (X:Type) (eY:Option X→Option X→Option X) (K:Exit→St→Option X) (s:St):Option X:=
 match C.oO f p with
 | none=>xh C ih f p c X eY K s
 | some ct=>match J6 s.G.length ct with
  | .join outs=>bif J9 c then none else Ys C ih f p c (r9 (kA c []) outs) K s
  | .loop gh head outs=>match c with
   | .loop b=>match gY gh s with
    | some s1=>Sh C ih f p b s1 (xi (kA b []) head) (r9 (kA b []) outs) K
    | none=>none
   | _=>none
  | .rot k gh head outs=>match c with
   | .loop b=>match gY gh s with
    | some s1=>Yt C ih f p b k s1 (xi (kA b []) head) (r9 (kA b []) outs) K
    | none=>none
   | _=>none
  | .mq gh head outs=>match c with
   | .loop b=>match gY gh s with
    | some s1=>Kb C ih f p b s1 (xi (kA b []) head) (r9 (kA b []) outs) K
    | none=>none
   | _=>none
  | .Yr _ _ _=>none
end
noncomputable def ev (C:eE):Nat→W1:=Nat.rec (fun _ _ _ _ _ _ _=>none) (fun _ ih=>xj C ih)
end Go.Am
namespace Go.Am
open Go
section ext
variable {E:Env} {f:FuncId} {s s':St} {o:Oper}
theorem aV.put (s:St) (d:Option Tmp) (x:SV):aV s (s.put d x):=by
 cases d with
 | none=>exact aV.refl s
 | some d=>
  simp only [St.put]
  split
  ·exact ⟨⟨[_],rfl⟩,⟨[],rfl⟩,rfl⟩
  ·exact aV.refl s
theorem aV.b9 (s:St) (G:List GO):aV s (s.b9 G):=⟨⟨[],rfl⟩,⟨[],rfl⟩,rfl⟩
theorem aV.dN (s:St) (o:GO):aV s (s.dN o):=⟨⟨[],rfl⟩,⟨[],rfl⟩,rfl⟩
theorem aV.uD (s:St) (d:Nat) (cs:List AV):aV s (s.uD d cs):=⟨⟨[],rfl⟩,⟨[_],rfl⟩,rfl⟩
theorem aV.kill (s:St) (d:Nat):aV s (s.kill d):=⟨⟨[_],rfl⟩,⟨[],rfl⟩,rfl⟩
theorem HZ {c:Bool} {s':St} (h:gF E f s o=some (c,s')):aV s s':=by
 unfold gF at h
 repeat' (split at h)
 all_goals (first | (cases h; done) | skip)
 all_goals (injection h with h; injection h with _ h; subst h; exact (aV.b9 _ _).trans (aV.put _ _ _))
theorem E7 {c:Bool} (h:au E f s o=some (c,s')):aV s s':=by
 have alloc:∀ {el:TypeId} {cs:List AV} {c:Bool} {s':St},eV E f s o.dst el cs=some (c,s')→aV s s':=by
  intro el cs c s' h
  unfold eV at h
  repeat' (split at h)
  all_goals (first | (cases h; done) | skip)
  ·injection h with h; injection h with _ h; subst h; exact (aV.dN _ _).trans (aV.put _ _ _)
  ·injection h with h; injection h with _ h; subst h; exact ((aV.kill _ _).trans (aV.uD _ _ _)).trans (aV.put _ _ _)
 have store:∀ {t:TypeId} {p x:SV} {s':St},jy E s t p x=some s'→aV s s':=by
  intro t p x s' h
  unfold jy at h
  repeat' (split at h)
  all_goals (first | (cases h; done) | skip)
  all_goals (injection h with h; subst h)
  ·exact aV.uD _ _ _
  ·exact aV.b9 _ _
 have Ez:∀ {t:TypeId} {p x:SV} {c:Bool} {s':St},jz E s t p x=some (c,s')→aV s s':=by
  intro t p x c s' h
  unfold jz at h
  repeat' (split at h)
  all_goals (first | (cases h; done) | skip)
  all_goals (injection h with h; injection h with _ h; subst h)
  all_goals (first | exact aV.b9 _ _ | exact store (by assumption))
 have blt:∀ {b:Builtin} {l:List AV} {tys:List TypeId} {c:Bool} {s':St},bS E s o.dst b l tys=some (c,s')→aV s s':=by
  intro b l tys c s' h
  unfold bS at h
  repeat' (split at h)
  all_goals (first | (cases h; done) | skip)
  all_goals (injection h with h; injection h with _ h; subst h)
  all_goals (first | exact aV.put _ _ _ | exact (aV.b9 _ _).trans (aV.put _ _ _) | exact aV.b9 _ _)
 have update:∀ {t:TypeId} {m k x:SV} {s':St},eX E s t m k x=some s'→aV s s':=by
  intro t m k x s' h
  unfold eX at h
  repeat' (split at h)
  all_goals (first | (cases h; done) | skip)
  all_goals (injection h with h; subst h; exact aV.b9 _ _)
 have next:∀ {x:SV} {s':St},kZ s o.dst x=some s'→aV s s':=by
  intro x s' h
  unfold kZ at h
  split at h
  ·split at h
   ·rename_i l pos hg
    cases hb:Nat.blt pos l.length <;> rw [hb] at h <;> simp only [cond_true,cond_false] at h <;> cases h
    ·exact aV.put _ _ _
    ·exact (aV.b9 _ _).trans (aV.put _ _ _)
   ·cases h
  ·cases h
 have EA:∀ {t:TypeId} {m k:SV} {c:Bool} {v:AV} {s':St},fX E s t m k=some (c,v,s')→aV s s':=by
  intro t m k c v s' h
  unfold fX at h
  repeat' (split at h)
  all_goals (first | (cases h; done) | skip)
  all_goals (injection h with h; injection h with _ h; injection h with _ h; subst h; exact aV.b9 _ _)
 have EB:∀ {m st x:SV} {c:Bool} {s':St},ef s m st x=some (c,s')→aV s s':=by
  intro m st x c s' h
  unfold ef at h
  repeat' (split at h)
  all_goals (first | (cases h; done) | skip)
  all_goals (injection h with h; injection h with _ h; subst h; exact aV.b9 _ _)
 unfold au at h
 repeat' (split at h)
 all_goals (first | (cases h; done) | exact alloc h | exact blt h | (rename_i hf; cases h; exact HZ hf) | skip)
 all_goals (injection h with h; injection h with _ h; subst h)
 all_goals (first | exact aV.put _ _ _ | exact (aV.dN _ _).trans (aV.put _ _ _) | skip)
 all_goals (first | exact Ez (by assumption) | exact update (by assumption) | exact (EA (by assumption)).trans (aV.put _ _ _) | exact EB (by assumption) | exact next (by assumption))
theorem cw.gD {g:FuncId} {args Si:List AV} {G:List GO} {Q:AV→List GO→Prop} (hw:cK args Si) (h:cw E g Si G Q):cw E g args G Q:=
 ⟨h.1,fun R w cs hg hl=>h.2 R w cs hg (hw.rel hl)⟩
theorem CU {K:St→Prop} (h:jU E f o K s):jU E f o (fun s'=>K s'∧aV s s') s:=by
 unfold jU at *
 split
 ·rename_i x args tys ho
  rw [ho] at h
  simp only at h
  split at h
  ·exact h.mono fun r G' hk=>⟨hk,(aV.b9 _ _).trans (aV.put _ _ _)⟩
  ·exact h.mono fun r G' hk=>⟨hk,(aV.b9 _ _).trans (aV.put _ _ _)⟩
  ·exact h
 ·rename_i ho
  rw [ho] at h
  exact h
 ·rename_i nc nd
  split at h
  ·rename_i ho
   exact absurd ho (nc _ _ _)
  ·exact h.elim
  ·split at h
   ·rename_i c s' hs
    obtain ⟨hc,hk⟩:=h.out
    exact dC.mk hc ⟨hk,E7 hs⟩
   ·exact h.elim
theorem ln {K:St→Prop} {ops:List Oper} (h:ck E f ops o K s):ck E f ops o (fun s'=>K s'∧aV s s') s:=by
 unfold ck at *
 split
 ·rename_i hg
  rw [hg] at h
  exact CU h
 ·rename_i j want hg
  rw [hg] at h
  simp only at h
  split
  ·rename_i hd
   rw [hd] at h
   exact h
  ·rename_i d hd
   rw [hd] at h
   simp only at h
   split
   ·rename_i b hb
    rw [hb] at h
    simp only at h
    refine ⟨fun e=>?_,fun e=>⟨h.2 e,(aV.put _ _ _).trans (aV.put _ _ _)⟩⟩
    exact tc (CU (h.1 e)) fun s' hh=>⟨hh.1,(aV.put _ _ _).trans hh.2⟩
   ·rename_i hb
    rw [hb] at h
    exact ⟨h,aV.put _ _ _⟩
   ·rename_i hb kd
    split at h
    ·rename_i b IV
     exact absurd IV (hb b)
    ·rename_i IV
     exact absurd IV kd
    ·exact h
theorem yQ {K K':St→Prop} {ops:List Oper} (h:fL E f ops o K s) (hK:∀ s,K s→K' s):fL E f ops o K' s:=by
 unfold fL at *
 split
 ·rename_i s' h1 h2
  rw [h1,h2] at h
  exact hK _ h
 ·rename_i hn
  split at h
  ·rename_i s' h1 h2
   exact absurd h2 (hn s' h1)
  ·exact cm h hK
theorem uQ {s':St} (h:jh E f s o=some s'):aV s s':=by
 unfold jh at h
 repeat' (split at h)
 all_goals (first | (cases h; done) | skip)
 all_goals (injection h with h; subst h; exact (aV.dN _ _).trans (aV.put _ _ _))
theorem Bc {K:St→Prop} {ops:List Oper} (h:fL E f ops o K s):fL E f ops o (fun s'=>K s'∧aV s s') s:=by
 unfold fL at *
 split
 ·rename_i s' h1 h2
  rw [h1,h2] at h
  exact ⟨h,uQ h2⟩
 ·rename_i hn
  split at h
  ·rename_i s' h1 h2
   exact absurd h2 (hn s' h1)
  ·exact ln h
theorem lK {K K':St→Prop} {ops:List Oper} (h:fb E f ops o K s) (hK:∀ s,K s→K' s):fb E f ops o K' s:=by
 unfold fb at *
 split at h
 ·obtain ⟨h1,h2⟩:=h.out
  exact dC.mk h1 (hK _ h2)
 ·obtain ⟨h1,h2,h3⟩:=h.out
  exact dC.mk h1 ⟨fun e=>hK _ (h2 e),fun i hi=>let ⟨k1,k2⟩:=(h3 i hi).out; dC.mk k1 (hK _ k2)⟩
 ·exact yQ h hK
theorem H0 {c:Bool} {s':St} (h:tK E f s o=some (c,s')):aV s s':=by
 unfold tK at h
 repeat' (split at h)
 all_goals (first | (cases h; done) | skip)
 all_goals (injection h with h; injection h with _ h; subst h; exact (aV.b9 _ _).trans (aV.put _ _ _))
theorem E8 {c:Bool} {s0:St} {left:List Nat} {g:Nat→Bool × St} (h:sM E s o=some (c,s0,left,g)):aV s s0∧∀ i,aV s (g i).2:=by
 unfold sM at h
 split at h
 ·unfold zf at h
  split at h
  ·split at h
   ·split at h
    ·cases h
     exact ⟨aV.put _ _ _,fun i=>(aV.b9 _ _).trans (aV.put _ _ _)⟩
    ·cases h
   ·cases h
  ·cases h
 ·cases h
theorem sa {K:St→Prop} {ops:List Oper} (h:fb E f ops o K s):fb E f ops o (fun s'=>K s'∧aV s s') s:=by
 unfold fb at *
 split at h
 ·rename_i hb
  obtain ⟨h1,h2⟩:=h.out
  exact dC.mk h1 ⟨h2,H0 hb⟩
 ·rename_i hb
  obtain ⟨h1,h2,h3⟩:=h.out
  obtain ⟨k1,k2⟩:=E8 hb
  exact dC.mk h1 ⟨fun e=>⟨h2 e,k1⟩,fun i hi=>let ⟨q1,q2⟩:=(h3 i hi).out; dC.mk q1 ⟨q2,k2 i⟩⟩
 ·exact Bc h
theorem lL {K K':St→Prop} {ops:List Oper} (h:fc E f ops o K s) (hK:∀ s,K s→K' s):fc E f ops o K' s:=by
 unfold fc at *
 split at h
 ·exact ⟨h.1,lK h.2 hK⟩
 ·exact lK h hK
theorem ij {cut wk:Bool}:∀ {l:List Operand} {s s':St} {c:Bool},gP cut wk l s=(c,s')→aV s s'
 | [],s,s',c,h=>by
  simp only [gP] at h
  cases h
  exact aV.refl _
 | .tmp t :: l,s,s',c,h=>by
  unfold gP at h
  split at h
  ·rename_i c1 s1 h1
   cases h2:gP cut wk l s1 with
   | mk c2 s2=>
   rw [h2] at h
   simp only [Prod.mk.injEq] at h
   obtain ⟨_,rfl⟩:=h
   exact (ox h1).trans (ij h2)
  ·exact ij h
 | .const _ :: l,s,s',c,h=>ij (l:=l) h
 | .global _ :: l,s,s',c,h=>ij (l:=l) h
 | .func _ :: l,s,s',c,h=>ij (l:=l) h
theorem Kd {s s':St} {o:Oper} {c:Bool} (h:Hh E f s o=some (c,s')):aV s s':=by
 unfold Hh at h
 split at h
 ·split at h
  ·injection h with h
   exact ij h
  ·cases h
 ·cases h
theorem Bd {K:St→Prop} {ops:List Oper} (h:fc E f ops o K s):fc E f ops o (fun s'=>K s'∧aV s s') s:=by
 unfold fc at *
 split at h
 ·rename_i c s' hz
  exact ⟨h.1,lK (sa h.2) fun s2 h2=>⟨h2.1,(Kd hz).trans h2.2⟩⟩
 ·exact sa h
theorem xl {s s':St} {l:Loc} {sz:Nat} {e:TypeId} (h:ov s l sz e=some s'):aV s s':=by
 unfold ov at h
 cases Ex:Nat.ble 196608 sz with
 | true=>rw [Ex] at h; cases h; exact aV.dN _ _
 | false=>
 rw [Ex] at h
 cases l with
 | slot t=>
  simp only at h
  split at h
  ·cases h; exact ⟨⟨[_],rfl⟩,⟨[],rfl⟩,rfl⟩
  ·cases h
 | box k i=>
  simp only at h
  split at h
  ·split at h
   ·cases h; exact ⟨⟨[],rfl⟩,⟨[_],rfl⟩,rfl⟩
   ·cases h
  ·cases h
 | row id i=>
  simp only at h
  split at h
  ·split at h
   ·cases h; exact ⟨⟨[],rfl⟩,⟨[],rfl⟩,rfl⟩
   ·cases h
  ·cases h
theorem nq:∀ {l:List (Loc × Nat × TypeId)} {s s':St},gY l s=some s'→aV s s'
 | [],s,s',h=>by
  simp only [gY] at h
  cases h
  exact aV.refl _
 | (l,sz,e) :: r,s,s',h=>by
  unfold gY at h
  split at h
  ·rename_i s1 h1
   exact (xl h1).trans (nq h)
  ·cases h
theorem oR:∀ {l:List (Loc × Nat × TypeId)} {s:St},aV s (jf l s)
 | [],s=>aV.refl _
 | (l,sz,e) :: r,s=>by
  unfold jf
  split
  ·rename_i s1 h1
   exact (xl h1).trans oR
  ·exact oR
theorem H3 {s s':St} {o:Oper} (h:zy E f o s=some s'):aV s s':=by
 unfold zy at h
 split at h
 ·cases h; exact aV.refl _
 ·split at h
  ·split at h
   ·rename_i hz
    cases h
    exact ox hz
   ·cases h
  ·split at h
   ·cases h; exact aV.refl _
   ·split at h
    ·cases h; exact oR
    ·cases h
theorem xm {K K':St→Prop} {ops:List Oper} (hK:∀ s,K s→K' s):∀ {l:List Oper} {s:St},oB E f ops l K s→oB E f ops l K' s
 | [],s,h=>hK s h
 | _ :: _,_,h=>lL h fun s' h'=>by
  unfold zA at *
  split at h'
  ·exact xm hK h'
  ·exact h'.elim
theorem xn {K K':St→Prop} {ops:List Oper} (hK:∀ s,K s→K' s) {T:DT} {s:St} (h:sH E f ops T K s):sH E f ops T K' s:=
 fk (ops:=⟨ops⟩) hK T s h
theorem zP {K:St→Prop} {ops:List Oper}:∀ {l:List Oper} {s:St},oB E f ops l K s→oB E f ops l (fun s'=>K s'∧aV s s') s
 | [],s,h=>⟨h,aV.refl s⟩
 | o :: l,s,h=>by
  simp only [oB] at *
  refine lL (Bd h) fun s' hh=>?_
  obtain ⟨h1,h2⟩:=hh
  unfold zA at *
  split at h1
  ·rename_i s2 hp
   exact xm (fun s3 h3=>⟨h3.1,(h2.trans (H3 hp)).trans h3.2⟩) (zP h1)
  ·exact h1.elim
theorem sb {K:St→Prop} {ops:List Oper}:∀ {T:DT} {s:St},sH E f ops T K s→sH E f ops T (fun s'=>K s'∧aV s s') s
 | .done,s,h=>⟨h,aV.refl s⟩
 | .stop,_,_=>trivial
 | .take j C T,s,h=>by
  unfold sH at h ⊢
  split
  ·rename_i oj hj
   rw [hj] at h
   exact cm (ln h) fun s' hh=>xn (fun s2 h2=>⟨h2.1,hh.2.trans h2.2⟩) (sb hh.1)
  ·rename_i hj
   rw [hj] at h
   exact h
 | .al j W T,s,h=>by
  unfold sH at h ⊢
  split
  ·rename_i oj hj
   rw [hj] at h
   exact ⟨h.1,cm (ln h.2) fun s' hh=>xn (fun s2 h2=>⟨h2.1,hh.2.trans h2.2⟩) (sb hh.1)⟩
  ·rename_i hj
   rw [hj] at h
   exact h
 | .br i re C T more,s,h=>by
  unfold sH at h ⊢
  refine ⟨?_,sb h.2⟩
  have h:=h.1
  split
  ·rename_i oj hj
   rw [hj] at h
   exact cm (ln h) fun s' hh=>⟨hh.1.1,xn (fun s2 h2=>⟨h2.1,hh.2.trans h2.2⟩) (sb hh.1.2)⟩
  ·rename_i hj
   rw [hj] at h
   exact h
end ext
def lM (E:Env) (c:Code) (Q:Exit→St→Prop) (s:St):Prop:=fK E c (fun e s'=>Q e s'∧aV s s') s
section sound
variable {E:Env} {f:FuncId} {s:St} {X:Type} {fz:Bool} {call:oP X} {lj:lJ X} {eY:Option X→Option X→Option X} {x:X}
def nr (E:Env) (call:oP X):Prop:=∀ g args G K x,call g args G K=some x→cw E g args G (fun r G'=>K r G'=some x)
def uo (E:Env) (lj:lJ X):Prop:=∀ id args G K x,lj id args G K=some x→kj E id args G (fun b G'=>K b G'=some x)
theorem bo {α:Type} {c:Bool} {a:Option α} {x:α} (h:(bif c then a else none)=some x):c=true∧a=some x:=by
 cases c
 ·cases h
 ·exact ⟨rfl,h⟩
theorem bind_some {α β:Type} {a:Option α} {k:α→Option β} {x:β} (h:a.bind k=some x):∃ y,a=some y∧k y=some x:=by
 cases a with
 | none=>cases h
 | some y=>exact ⟨y,rfl,h⟩
theorem H4 {o:Oper} {n:Int} {len:Nat} {g:Nat→Oper} (h:A9 E s o=some (n,len,g)) {j:Nat} (hj:n=(j:Int)):au E f s (g j)=au E f s o:=by
 subst hj
 unfold A9 at h
 have DK:∀ k:IntKind,bI E s.ah (.const (.int k (j:Int)))=.v (.int k j):=fun k=>rfl
 split at h
 ·rename_i t x y ho
  split at h
  ·rename_i k n i h1 h2
   split at h
   ·injection h with h; injection h with e1 h; injection h with e2 h
    subst h; subst e1
    simp only [au,ho,DK,h1]
   ·cases h
  ·cases h
 ·rename_i t x y ho
  split at h
  ·rename_i k n i h1 h2
   split at h
   ·split at h
    ·split at h
     ·cases h
     ·injection h with h; injection h with e1 h; injection h with e2 h
      subst h; subst e1
      simp only [au,ho,DK,h1]
    ·injection h with h; injection h with e1 h; injection h with e2 h
     subst h; subst e1
     simp only [au,ho,DK,h1]
   ·cases h
  ·cases h
 ·cases h
theorem qh {o:Oper} {n:Int} {len:Nat} {g:Nat→Oper} (hi:A9 E s o=some (n,len,g)) {K:St→Option X}:∀ (m j:Nat),vf E fz f g n K s m j=some x→∃ c s',au E f s o=some (c,s')∧c=true∧K s'=some x
 | 0,_,h=>by cases h
 | m+1,j,h=>by
  unfold vf at h
  by_cases hn:n=(j:Int)
  ·rw [decide_eq_true hn,cond_true,H4 hi hn] at h
   split at h
   ·rename_i c s' hs
    obtain ⟨h1,h2⟩:=bo h
    rw [da] at h2
    exact ⟨c,s',hs,h1,h2⟩
   ·cases h
  ·rw [decide_eq_false hn,cond_false] at h
   exact qh hi m (j+1) h
theorem xo {ops:List Oper} {o:Oper} (h:T5 E f ops o s=true):EJ E f ops o s:=by
 unfold T5 at h
 split at h
 ·rename_i t m k ok d ho hd
  split at h
  ·rename_i c v b hg hs
   rw [Bool.and_eq_true] at h
   obtain ⟨rfl,h⟩:=h
   have hn:=rZ hs
   unfold EJ
   rw [hg]
   simp only
   have e:au E f s o=some (true,s.put o.dst (.v (if ok then .bi [v,.bool b] else v))):=by simp only [au,ho,hn]
   rw [hd] at e
   rw [hd,e]
   refine ⟨rfl,?_⟩
   unfold St.put
   simp only
   split
   ·rw [aD]
    exact zI h
   ·rfl
  ·exact zJ h
 ·exact zJ h
theorem qi {ops:List Oper}:∀ {l:List Nat} {s:St},pG E f ops l s=true→zF E f ops l s
 | [],_,_=>trivial
 | k :: l,s,h=>by
  unfold pG at h
  unfold zF
  rw [Bool.and_eq_true] at h
  refine ⟨?_,qi h.2⟩
  have h:=h.1
  split at h
  ·rename_i hk
   first
    | exact xo h
    | rw [hk]; exact xo h
  ·rename_i hk
   first
    | trivial
    | rw [hk]; trivial
theorem tk (hc:nr E call) (hr:uo E lj) {o:Oper} {K:St→Option X} (h:T4 E fz call lj f o K s=some x):jU E f o (fun s=>K s=some x) s:=by
 unfold jU
 split
 ·rename_i y args tys ho
  unfold T4 at h
  rw [ho] at h
  simp only at h
  split at h
  ·rename_i h1 h2
   rw [h1,h2]
   refine (hc _ _ _ _ _ h).mono fun r G' hk=>?_
   rw [da] at hk
   exact hk
  ·rename_i h1 h2
   rw [h1,h2]
   refine (hr _ _ _ _ _ h).mono fun r G' hk=>?_
   rw [da] at hk
   exact hk
  ·cases h
 ·rename_i ho
  unfold T4 at h
  rw [ho] at h
  cases h
 ·rename_i nc nd
  unfold T4 at h
  split at h
  ·rename_i ho
   exact absurd ho (nc _ _ _)
  ·cases h
  ·rename_i y ho
   split at h
   ·rename_i b s1 s2 hs
    have hn:=E1 hs
    have e:au E f s o=some (true,bif b then s1 else s2):=by simp only [au,ho,hn]
    rw [e]
    refine dC.mk rfl ?_
    rw [da,da] at h
    cases b <;> exact h
   ·cases h
  ·rename_i t m k ok ho
   split at h
   ·rename_i c v b hs
    obtain ⟨h1,h2⟩:=bo h
    subst h1
    rw [da] at h2
    have hn:=rZ hs
    have e:au E f s o=some (true,s.put o.dst (.v (if ok then .bi [v,.bool b] else v))):=by simp only [au,ho,hn]
    rw [e]
    exact dC.mk rfl h2
   ·split at h
    ·rename_i c s' hs
     obtain ⟨h1,h2⟩:=bo h
     rw [da] at h2
     rw [hs]
     exact dC.mk h1 h2
    ·cases h
  ·rename_i t m k z ho
   split at h
   ·rename_i c s' hd hs
    obtain ⟨h1,h2⟩:=bo h
    subst h1
    rw [da] at h2
    have hn:=r7 hs
    have e:au E f s o=some (true,s'):=by simp only [au,ho,hd,hn]
    rw [e]
    exact dC.mk rfl h2
   ·cases h
  ·rename_i t m k z ho
   split at h
   ·rename_i c s' hd hs
    obtain ⟨h1,h2⟩:=bo h
    subst h1
    rw [da] at h2
    have hn:=r7 hs
    have e:au E f s o=some (true,s'):=by simp only [au,ho,hd,hn]
    rw [e]
    exact dC.mk rfl h2
   ·cases h
  ·rename_i args tys ho
   split at h
   ·rename_i c s' hf
    obtain ⟨h1,h2⟩:=bo h
    rw [da] at h2
    have e:au E f s o=some (c,s'):=by simp only [au,ho,hf]
    rw [e]
    exact dC.mk h1 h2
   ·rename_i hf
    split at h
    ·rename_i l hl
     split at h
     ·rename_i b s1 c s2 hs
      have B6:b=false→c=true:=fun e=>by subst e; exact (bo (show (bif c then qI fz s2 K else none)=some x from h)).1
      have hn:=A6 hs B6
      have e:au E f s o=some (true,bif b then s1 else s2):=by simp only [au,ho,hf,hl,hn]
      rw [e]
      refine dC.mk rfl ?_
      cases b with
      | true=>
       show K s1=some x
       rw [← da fz s1 K]
       exact h
      | false=>
       obtain ⟨h1,h2⟩:=bo (show (bif c then qI fz s2 K else none)=some x from h)
       rw [da] at h2
       exact h2
     ·split at h
      ·rename_i c s' hs
       obtain ⟨h1,h2⟩:=bo h
       rw [da] at h2
       rw [hs]
       exact dC.mk h1 h2
      ·cases h
    ·cases h
  ·rename_i args tys ho
   split at h
   ·rename_i l hl
    split at h
    ·rename_i c s' hs
     obtain ⟨h1,h2⟩:=bo h
     subst h1
     rw [da] at h2
     have hn:=E2 hs
     have hf:gF E f s o=none:=by
      cases hf:gF E f s o with
      | none=>rfl
      | some r=>
       obtain ⟨_,_,h2⟩:=mZ hf
       rw [ho] at h2
       cases h2
     have e:au E f s o=some (true,s'):=by simp only [au,ho,hf,hl,hn]
     rw [e]
     exact dC.mk rfl h2
    ·split at h
     ·rename_i c s' hs
      obtain ⟨h1,h2⟩:=bo h
      rw [da] at h2
      rw [hs]
      exact dC.mk h1 h2
     ·cases h
   ·cases h
  ·split at h
   ·rename_i n len g hi
    obtain ⟨c,s',hs,h1,h2⟩:=qh hi _ _ h
    rw [hs]
    exact dC.mk h1 h2
   ·split at h
    ·rename_i c s' hs
     obtain ⟨h1,h2⟩:=bo h
     rw [da] at h2
     rw [hs]
     exact dC.mk h1 h2
    ·cases h
theorem jX (hc:nr E call) (hr:uo E lj) {ops:List Oper} {o:Oper} {K:St→Option X} (h:oQ E fz call lj f ops o K s=some x):ck E f ops o (fun s=>K s=some x) s:=by
 unfold oQ at h
 unfold ck
 split at h
 ·rename_i hg
  rw [hg]
  exact tk hc hr h
 ·rename_i j want hg
  rw [hg]
  simp only
  split at h
  ·cases h
  ·rename_i d hd
   rw [hd]
   simp only
   split at h
   ·rename_i b hb
    rw [hb]
    simp only
    cases want with
    | true=>
     simp only at h
     rw [da,da] at h
     refine ⟨fun e=>?_,fun e=>?_⟩
     ·subst e
      exact tk hc hr h
     ·have e:b=false:=by simpa using e
      subst e
      exact h
    | false=>
     simp only at h
     rw [da,da] at h
     refine ⟨fun e=>?_,fun e=>?_⟩
     ·subst e
      exact tk hc hr h
     ·have e:b=true:=by simpa using e
      subst e
      exact h
   ·rename_i hb
    rw [hb]
    rw [da] at h
    exact h
   ·cases h
theorem yR (hc:nr E call) (hr:uo E lj) {ops:List Oper} {o:Oper} {K:St→Option X} (h:Ba E fz call lj f ops o K s=some x):fL E f ops o (fun s=>K s=some x) s:=by
 unfold Ba at h
 unfold fL
 split at h
 ·rename_i s' h1 h2
  rw [h1,h2]
  rw [da] at h
  exact h
 ·rename_i hn
  split
  ·rename_i s' h1 h2
   exact absurd h2 (hn s' h1)
  ·exact jX hc hr h
theorem qj (hc:nr E call) (hr:uo E lj) {ops:List Oper} {o:Oper} {K:St→Option X} (h:vg E fz call lj f ops o K s=some x):fb E f ops o (fun s=>K s=some x) s:=by
 unfold vg at h
 unfold fb
 split at h
 ·rename_i c s' h1 h2
  rw [h1,h2]
  obtain ⟨q1,q2⟩:=bo h
  rw [da] at q2
  exact dC.mk q1 q2
 ·rename_i c s0 left g h1 h2 h3
  rw [h1,h2,h3]
  obtain ⟨q1,q2⟩:=bo h
  refine dC.mk q1 ?_
  cases left with
  | nil=>
   simp only [List.isEmpty_nil,cond_true,da] at q2
   exact ⟨fun _=>q2,fun i hi=>by simp at hi⟩
  | cons i0 l=>
   simp only [List.isEmpty_cons,cond_false] at q2
   refine ⟨fun e=>(by cases e),fun i hi=>?_⟩
   obtain ⟨r1,r2⟩:=bo (HY q2 i hi)
   rw [da] at r2
   exact dC.mk r1 r2
 ·rename_i IR hn2
  split
  ·rename_i c s' h1 h2
   first
    | exact absurd h2 (IR c s' h1)
    | exact absurd h2 (hn2 c s' h1)
  ·rename_i c s0 left g h1 h2 h3
   first
    | exact absurd h3 (hn2 c s0 left g h1 h2)
    | exact absurd h3 (IR c s0 left g h1 h2)
  ·exact yR hc hr h
theorem yS (hc:nr E call) (hr:uo E lj) {ops:List Oper} {o:Oper} {K:St→Option X} (h:Bb E fz call lj f ops o K s=some x):fc E f ops o (fun s=>K s=some x) s:=by
 unfold Bb at h
 unfold fc
 split at h
 ·rename_i c s' hz
  rw [hz]
  obtain ⟨h1,h2⟩:=bo h
  exact ⟨h1,qj hc hr h2⟩
 ·rename_i hz
  rw [hz]
  exact qj hc hr h
theorem xp (hc:nr E call) (hr:uo E lj) {ops:List Oper}:∀ {l:List Oper} {K:St→Option X} {s:St},NW E fz call lj f ops l K s=some x→oB E f ops l (fun s=>K s=some x) s
 | [],_,_,h=>h
 | o :: l,K,s,h=>by
  unfold NW at h
  unfold oB
  refine lL (yS hc hr h) fun s' h'=>?_
  unfold zA
  split at h'
  ·rename_i s2 hp
   rw [hp]
   exact xp hc hr h'
  ·cases h'
theorem ju (hc:nr E call) (hr:uo E lj) (hm:um eY) {ops:List Oper}:∀ {T:DT} {K:St→Option X} {s:St} {x:X},oT E fz call lj eY f ops T K s=some x→sH E f ops T (fun s=>K s=some x) s
 | .done,_,_,_,h=>h
 | .stop,_,_,_,_=>trivial
 | .take j C T,K,s,x,h=>by
  unfold oT at h
  unfold sH
  split at h
  ·rename_i hk
   rw [hk]
   exact cm (jX hc hr h) fun s' h'=>ju hc hr hm h'
  ·cases h
 | .al j W T,K,s,x,h=>by
  unfold oT at h
  unfold sH
  split at h
  ·rename_i hk
   obtain ⟨h1,h2⟩:=bo h
   rw [hk]
   exact ⟨h1,cm (jX hc hr h2) fun s' h'=>ju hc hr hm h'⟩
  ·cases h
 | .br i re C T more,K,s,x,h=>by
  have first:∀ {x:X},(match nth ops i with
   | some oi=>oQ E fz call lj f ops oi (fun s'=>bif pG E f ops re s' then oT E fz call lj eY f ops T K s' else none) s
   | none=>none)=some x→(match nth ops i with
   | some oi=>ck E f ops oi (fun s'=>zF E f ops re s'∧sH E f ops T (fun s=>K s=some x) s') s
   | none=>False):=by
   intro x h
   split at h
   ·rename_i hk
    refine cm (jX hc hr h) fun s' h'=>?_
    obtain ⟨h1,h2⟩:=bo h'
    exact ⟨qi h1,ju hc hr hm h2⟩
   ·cases h
  unfold sH
  cases more with
  | stop=>exact ⟨first h,trivial⟩
  | done=>obtain ⟨h1,h2⟩:=hm _ _ _ h; exact ⟨first h1,ju (T:=.done) hc hr hm h2⟩
  | take a b c=>obtain ⟨h1,h2⟩:=hm _ _ _ h; exact ⟨first h1,ju hc hr hm h2⟩
  | br a b c d e=>obtain ⟨h1,h2⟩:=hm _ _ _ h; exact ⟨first h1,ju hc hr hm h2⟩
  | al a b c=>obtain ⟨h1,h2⟩:=hm _ _ _ h; exact ⟨first h1,ju hc hr hm h2⟩
end sound
end Go.Am
