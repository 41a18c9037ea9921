/- The abstract machine: maps and ranges over strings on values with leaves. -/
import Derived.Test.YtldcljfjjoidhaaGreatDoorAmKI
set_option linter.all false
namespace Go.Am
open Go
def KR (s:St) (dst:Option Tmp) (x:SV):Option (Bool × St × St):=match x with
 | .v (.ptr id 0)=>match nth s.G id with
  | some (.gZ l pos)=>some (Nat.blt pos l.length,(s.cg (aF s.G id (.gZ l (pos+(qg l pos).2)))).put dst (.v (.bp [.bool true,.int .i64 pos,.int .i32 (qg l pos).1])),s.put dst (.v (.bp [.bool false])))
  | _=>none
 | _=>none
theorem F2 {s:St} {dst:Option Tmp} {x:SV} {b:Bool} {s1 s2:St} (h:KR s dst x=some (b,s1,s2)):me s dst x=some (bif b then s1 else s2):=by
 unfold KR at h
 split at h
 ·split at h
  ·rename_i l pos hg
   cases h
   simp only [me,hg]
   cases Nat.blt pos l.length <;> rfl
  ·cases h
 ·cases h
theorem Hm {e:EK} {k:AV}:∀ {es:List (AV × AV)},gz e k es=true→jx e k es=some (fR e k es)
 | [],_=>rfl
 | (k',v) :: l,h=>by
  simp only [gz,Bool.and_eq_true] at h
  obtain ⟨b,hb⟩:=Option.isSome_iff_exists.1 h.1
  simp only [jx,fR,wF,hb]
  cases b
  ·simp only [cond_false]; exact Hm h.2
  ·rfl
theorem KS {e:EK} {k v:AV}:∀ {es:List (AV × AV)},gz e k es=true→tV e k v es=some (iO e k v es)
 | [],_=>rfl
 | (k',v') :: l,h=>by
  simp only [gz,Bool.and_eq_true] at h
  obtain ⟨b,hb⟩:=Option.isSome_iff_exists.1 h.1
  simp only [tV,iO,wF,hb]
  cases b
  ·simp only [cond_false,KS h.2]
  ·rfl
mutual
def aR.flat:aR→Bool
 | .int _=>true
 | .bool=>true
 | .str=>true
 | .agg ps=>ps.flat
 | .bk _ _ p=>p.flat
 | _=>false
def aT.flat:aT→Bool
 | .nil=>true
 | .cons p ps=>p.flat&&ps.flat
end
theorem DC {α:Type} {f:AV→Bool} {d:AV→α} {g:α→AV} (h:∀ a,f a=true→g (d a)=a):∀ {es:List AV},allFit f es=true→(es.map d).map g=es
 | [],_=>rfl
 | a :: l,hl=>by
  simp only [allFit,Bool.and_eq_true] at hl
  rw [List.map_cons,List.map_cons,h a hl.1,DC h hl.2]
mutual
theorem aR.j8:∀ {p:aR},p.flat=true→∀ {a:AV},p.fits a=true→p.enc (p.bA a)=a
 | .int k,_,a,h=>by
  cases a <;> first | (cases h; done) | skip
  have hk:Ub _ _=true:=h
  rw [EW hk]; rfl
 | .bool,_,a,h=>by cases a <;> first | (cases h; done) | rfl
 | .str,_,a,h=>by cases a <;> first | (cases h; done) | rfl
 | .agg ps,hp,a,h=>by
  cases a <;> first | (cases h; done) | skip
  exact congrArg AV.agg (aT.j8 (ps:=ps) hp h)
 | .bp _,hp,_,_=>by cases hp
 | .list _ _,hp,_,_=>by cases hp
 | .own _ _ _,hp,_,_=>by cases hp
 | .bk id sz p,hp,a,h=>by
  cases a <;> first | (cases h; done) | skip
  rename_i k bQ es
  cases k <;> first | (cases h; done) | skip
  rename_i kf j
  simp only [aR.fits,Bool.and_eq_true] at h
  have e1:=Nat.eq_of_beq_eq_true h.1.1
  have e2:=Nat.eq_of_beq_eq_true h.1.2
  subst e1 e2
  have hp:p.flat=true:=hp
  show AV.list (.bk id j) sz ((es.map p.bA).map p.enc)=_
  rw [DC (fun a ha=>aR.j8 hp ha) h.2]
 | .dS _,hp,_,_=>by cases hp
 | .two _ _,hp,_,_=>by cases hp
theorem aT.j8:∀ {ps:aT},ps.flat=true→∀ {l:List AV},ps.fits l=true→ps.enc (ps.bA l)=l
 | .nil,_,l,h=>by
  cases l with
  | nil=>rfl
  | cons _ _=>cases h
 | .cons p .nil,hp,l,h=>by
  simp only [aT.flat,Bool.and_eq_true] at hp
  cases l with
  | nil=>cases h
  | cons a l=>
   simp only [aT.fits,Bool.and_eq_true] at h
   cases l with
   | nil=>exact congrArg (fun x=>[x]) (aR.j8 hp.1 h.1)
   | cons _ _=>cases h.2
 | .cons p (.cons q ps),hp,l,h=>by
  rw [aT.flat,Bool.and_eq_true] at hp
  cases l with
  | nil=>cases h
  | cons a l=>
   rw [aT.fits,Bool.and_eq_true] at h
   have h1:=aR.j8 hp.1 h.1
   have h2:=aT.j8 (ps:=.cons q ps) hp.2 h.2
   show p.enc (p.bA a) :: (aT.cons q ps).enc ((aT.cons q ps).bA l)=a :: l
   rw [h1,h2]
end
def wO (E:Env) (s:St) (t:TypeId) (m k:SV):Option (Bool × AV × Bool):=match S6 E s.G t,E.ti t,mapOf s m,k with
 | some p,some i,some es,.v k=>match i.k with
  | .map kt _ (some z)=>match E.ti kt with
   | some j=>if j.ek.plain&&jf j.ek k&&p.flat then
     some (gz j.ek k es&&p.fits (eU j.ek k (CI E s.G t z) es),p.enc (p.bA (eU j.ek k (CI E s.G t z) es)),(fR j.ek k es).isSome)
    else none
   | none=>none
  | _=>none
 | _,_,_,_=>none
theorem td {E:Env} {s:St} {t:TypeId} {m k:SV} {v:AV} {b:Bool} (h:wO E s t m k=some (true,v,b)):mc E s t m k=some (v,b):=by
 unfold wO at h
 split at h
 ·rename_i p i es k h1 h2 h3
  split at h
  ·rename_i kt et z hk
   split at h
   ·rename_i j hj
    split at h
    ·rename_i hc
     simp only [Bool.and_eq_true] at hc
     injection h with h
     injection h with h4 h
     injection h with h5 h6
     rw [Bool.and_eq_true] at h4
     rw [aR.j8 hc.2 h4.2] at h5
     have e:jx j.ek k es=some (fR j.ek k es):=Hm h4.1
     have vX:(j.ek.plain&&jf j.ek k)=true:=by rw [hc.1.1,hc.1.2]; rfl
     have e0:jR E s t m (.v k)=some ((fR j.ek k es).getD z,(fR j.ek k es).isSome):=by
      simp only [jR,h2,h3,hk,hj,vX,if_true,e]
      cases fR j.ek k es <;> rfl
     unfold mc
     rw [e0]
     unfold eU at h5
     cases hg:fR j.ek k es with
     | none=>
      rw [hg] at h5 h6
      subst h5 h6
      rfl
     | some v'=>
      rw [hg] at h5 h6
      subst h5 h6
      rfl
    ·cases h
   ·cases h
  ·cases h
 ·cases h
def wP (E:Env) (s:St) (t:TypeId) (m k x:SV):Option (Bool × St):=match E.ti t,m,k,x with
 | some i,.v (.map id),.v k,.v x=>match i.k,nth s.G id with
  | .map kt _ _,some (.map es)=>match E.ti kt with
   | some j=>if j.ek.plain&&jf j.ek k then some (gz j.ek k es,s.cg (aF s.G id (.map (iO j.ek k x es)))) else none
   | none=>none
  | _,_=>none
 | _,_,_,_=>none
theorem te {E:Env} {s s':St} {t:TypeId} {m k x:SV} (h:wP E s t m k x=some (true,s')):fN E s t m k x=some s':=by
 unfold wP at h
 split at h
 ·rename_i i id k x h1
  split at h
  ·rename_i kt _ _ es hk hg
   split at h
   ·rename_i j hj
    split at h
    ·rename_i hc
     injection h with h
     injection h with h4 h5
     simp only [fN,h1,hk,hg,hj,hc,if_true,KS h4,h5]
    ·cases h
   ·cases h
  ·cases h
 ·cases h
def KT (E:Env) (s:St) (dst:Option Tmp) (l:List AV) (tys:List TypeId):Option (Bool × St):=match l,tys with
 | [.kB id off sz len _,.str bs],t :: _=>match E.ti t,nth s.G id with
  | some i,some (.row cs el)=>match i.k with
   | .sl _ esz _ _ _=>if Nat.beq sz esz&&Nat.beq esz 1 then
     some (Nat.ble (off+(bs.take (Nat.min bs.length len)).length) cs.length,
      (s.cg (aF s.G id (.row (ck cs off ((bs.take (Nat.min bs.length len)).map sA)) el))).put dst (.v (.int .i64 (Nat.min bs.length len))))
    else none
   | _=>none
  | _,_=>none
 | [.kB id off sz len _,.list _ bQ es],t :: _=>match E.ti t,nth s.G id with
  | some i,some (.row cs el)=>match i.k with
   | .sl _ esz _ _ _=>if Nat.beq sz esz&&Nat.beq bQ esz then
     some (Nat.ble (off+(av (es.take (Nat.min es.length len))).length) cs.length,
      (s.cg (aF s.G id (.row (ck cs off (av (es.take (Nat.min es.length len)))) el))).put dst (.v (.int .i64 (Nat.min es.length len))))
    else none
   | _=>none
  | _,_=>none
 | [.dD id f off sz len,.list _ bQ xs],t :: _=>match E.ti t,nth s.G id with
  | some i,some (.dw es szo el)=>match i.k with
   | .sl _ esz _ _ _=>if Nat.beq sz esz&&Nat.beq szo sz&&Nat.beq bQ esz then
     some (decide (f=es.length)&&decide (off+Nat.min xs.length len≤es.length),
      (s.cg (aF s.G id (.dw (ck es off (xs.take (Nat.min xs.length len))) szo el))).put dst (.v (.int .i64 (Nat.min xs.length len))))
    else none
   | _=>none
  | _,_=>none
 | _,_=>none
theorem F3 {E:Env} {s s':St} {dst:Option Tmp} {l:List AV} {tys:List TypeId} (h:KT E s dst l tys=some (true,s')):bV E s dst .copy l tys=some (true,s'):=by
 unfold KT at h
 split at h
 ·rename_i id off sz len cap bs t ts
  split at h
  ·rename_i i cs el hi hid
   split at h
   ·rename_i a1 esz a2 a3 a4 hk
    split at h
    ·rename_i hc
     rw [Bool.and_eq_true] at hc
     injection h with h
     injection h with h1 h2
     have xp:(Nat.beq esz 1&&Nat.ble (off+(bs.take (Nat.min bs.length len)).length) cs.length)=true:=by rw [hc.2,h1]; rfl
     simp only [bV,hi,hk,sB,hid,hc.1,if_true,xp,h2]
    ·cases h
   ·cases h
  ·cases h
 ·rename_i id off sz len cap k bQ es t ts
  split at h
  ·rename_i i cs el hi hid
   split at h
   ·rename_i a1 esz a2 a3 a4 hk
    split at h
    ·rename_i hc
     rw [Bool.and_eq_true] at hc
     injection h with h
     injection h with h1 h2
     have e2:(Nat.beq bQ esz || es.isEmpty)=true:=by rw [hc.2]; rfl
     simp only [bV,hi,hk,sB,hid,hc.1,if_true,e2,h1,h2]
    ·cases h
   ·cases h
  ·cases h
 ·rename_i id f off sz len k bQ xs t ts
  split at h
  ·rename_i i es szo el hi hid
   split at h
   ·rename_i a1 esz a2 a3 a4 hk
    split at h
    ·rename_i hc
     rw [Bool.and_eq_true] at hc
     injection h with h
     injection h with h1 h2
     rw [Bool.and_eq_true,decide_eq_true_eq,decide_eq_true_eq] at h1
     obtain ⟨rfl,h1⟩:=h1
     have e2:(Nat.beq sz esz&&Nat.beq szo sz&&(Nat.beq bQ esz || xs.isEmpty)&&Nat.ble es.length es.length&&Nat.ble es.length es.length&&Nat.ble (off+Nat.min xs.length len) es.length)=true:=by
      rw [hc.1,hc.2]
      simp only [Bool.true_or,Bool.true_and,Bool.and_eq_true]
      exact ⟨⟨Nat.ble_eq_true_of_le (Nat.le_refl _),Nat.ble_eq_true_of_le (Nat.le_refl _)⟩,Nat.ble_eq_true_of_le h1⟩
     simp only [bV,hi,hk,sB,hid,e2,if_true,h2]
    ·cases h
   ·cases h
  ·cases h
 ·cases h
def wQ (s:St) (dst:Option Tmp) (elem esz bI:Nat) (k:LK) (sz:Nat) (es ys:List AV):Option (Bool × St × Bool × St):=
 match k with
 | .nil=>some (ys.isEmpty,s.put dst (.v (.list .nil sz es)),decide ((es.length+ys.length) * bI≤140737488355328),
   (s.cg (s.G++[.tok (es.length+ys.length) esz elem])).put dst (.v (.list (.own s.G.length) esz (es++ys))))
 | .full=>if Nat.beq sz esz then some (ys.isEmpty,s.put dst (.v (.list .full sz es)),decide ((es.length+ys.length) * bI≤140737488355328),
   (s.cg (s.G++[.tok (es.length+ys.length) esz elem])).put dst (.v (.list (.own s.G.length) esz (es++ys)))) else none
 | .own id=>match nth s.G id with
  | some (.tok f bQ e')=>if Nat.beq bQ esz&&Nat.beq e' elem&&Nat.beq sz esz then
    some (false,s,decide (f=es.length)&&decide ((es.length+ys.length) * bI≤140737488355328),
     (s.cg (JS s.G id ys.length f esz elem)).put dst (.v (.list (.own id) esz (es++ys)))) else none
  | _=>none
 | .bk id j=>match nth s.G id with
  | some (.bk fs bQ e')=>if Nat.beq bQ esz&&Nat.beq e' elem&&Nat.beq sz esz then
    some (ys.isEmpty,s.put dst (.v (.list (.bk id j) sz es)),Oq fs j es.length&&decide ((es.length+ys.length) * bI≤140737488355328),
     (s.cg (aF s.G id (.bk (H7 fs j (es.length+ys.length)) esz elem))).put dst (.v (.list (.bk id j) esz (es++ys)))) else none
  | _=>none
 | .lQ=>none
def B7 (s:St) (dst:Option Tmp) (elem esz bI id f off sz len:Nat) (ys:List AV):Option (Bool × St × Bool × St):=match nth s.G id with
 | some (.dw es bQ e')=>if Nat.beq bQ esz&&Nat.beq e' elem&&Nat.beq sz esz then
   some (false,s,decide (f=es.length)&&decide (off=0)&&decide (len=f)&&decide ((es.length+ys.length) * bI≤140737488355328),
    (s.cg (aF s.G id (.dw (es++ys) esz elem))).put dst (.v (.dD id (es.length+ys.length) 0 esz (es.length+ys.length)))) else none
 | _=>none
def B8 (E:Env) (s:St) (dst:Option Tmp) (l:List AV) (tys:List TypeId):Option (Bool × St × Bool × St):=match l,tys with
 | [.list k sz es,.list _ bQ ys],[t,u]=>match E.ti t with
  | some i=>match i.k with
   | .sl elem esz _ bI (some z)=>
    if Nat.beq bQ esz&&Nat.beq t u&&Nat.ble 1 esz&&Nat.ble 1 bI&&Nat.beq z.cells.length esz&&z.a6 then
     wQ s dst elem esz bI k sz es ys
    else none
   | _=>none
  | none=>none
 | [.dD id f off sz len,.list _ bQ ys],[t,u]=>match E.ti t with
  | some i=>match i.k with
   | .sl elem esz _ bI (some z)=>
    if Nat.beq bQ esz&&Nat.beq t u&&Nat.ble 1 esz&&Nat.ble 1 bI&&Nat.beq z.cells.length esz&&z.a6 then B7 s dst elem esz bI id f off sz len ys else none
   | _=>none
  | none=>none
 | [.list k sz es,.str bs],[t,u]=>match E.ti t,E.ti u with
  | some i,some j=>match i.k,j.k with
   | .sl elem esz _ bI (some z),.str=>
    if Nat.beq esz 1&&Nat.ble 1 bI&&Nat.beq z.cells.length esz&&z.a6 then wQ s dst elem esz bI k sz es (bs.map sA) else none
   | _,_=>none
  | _,_=>none
 | _,_=>none
theorem tf {s s1 s2:St} {dst:Option Tmp} {elem esz bI:Nat} {k:LK} {sz:Nat} {es ys:List AV} {b c:Bool} (h:wQ s dst elem esz bI k sz es ys=some (b,s1,c,s2)) (hc:b=false→c=true) :
  ∃ v G',gN s.G elem esz bI (.list k sz es) ys=some (true,v,G')∧(s.cg G').put dst (.v v)=bif b then s1 else s2:=by
 unfold wQ at h
 cases k with
 | nil=>
  cases h
  cases ys with
  | nil=>exact ⟨_,_,rfl,rfl⟩
  | cons y ys=>
   have hc:=hc rfl
   exact ⟨_,_,by simp only [gN,hc],rfl⟩
 | full=>
  simp only at h
  cases hs:Nat.beq sz esz with
  | false=>rw [hs] at h; cases h
  | true=>
   rw [hs] at h
   cases h
   cases ys with
   | nil=>exact ⟨_,_,rfl,rfl⟩
   | cons y ys=>
    have hc:=hc rfl
    exact ⟨_,_,by simp only [gN,hs,if_true,hc],rfl⟩
 | own id=>
  simp only at h
  split at h
  ·rename_i f bQ e' hg
   split at h
   ·rename_i cN
    cases h
    have hc:=hc rfl
    cases ys with
    | nil=>
     simp only [Bool.and_eq_true] at cN
     have e1:=Nat.eq_of_beq_eq_true cN.1.1
     have e2:=Nat.eq_of_beq_eq_true cN.1.2
     have e3:=Nat.eq_of_beq_eq_true cN.2
     subst e1; subst e2; subst e3
     refine ⟨_,_,rfl,?_⟩
     simp only [cond_false,JS,List.length_nil,Nat.add_zero,jU hg,List.append_nil]
    | cons y ys=>exact ⟨_,_,by simp only [gN,hg,cN,if_true,hc],rfl⟩
   ·cases h
  ·cases h
 | bk id j=>
  simp only at h
  split at h
  ·rename_i fs bQ e' hg
   split at h
   ·rename_i cN
    cases h
    cases ys with
    | nil=>exact ⟨_,_,rfl,rfl⟩
    | cons y ys=>
     have hc:=hc rfl
     exact ⟨_,_,by simp only [gN,hg,cN,if_true,hc],rfl⟩
   ·cases h
  ·cases h
 | lQ=>cases h
theorem B9 {s s1 s2:St} {dst:Option Tmp} {elem esz bI id f off sz len:Nat} {ys:List AV} {b c:Bool} (h:B7 s dst elem esz bI id f off sz len ys=some (b,s1,c,s2)) (hc:b=false→c=true) :
  ∃ v G',gN s.G elem esz bI (.dD id f off sz len) ys=some (true,v,G')∧(s.cg G').put dst (.v v)=bif b then s1 else s2:=by
 unfold B7 at h
 split at h
 ·rename_i es bQ e' hg
  split at h
  ·rename_i cN
   cases h
   have hc:=hc rfl
   cases ys with
   | nil=>
    simp only [Bool.and_eq_true,decide_eq_true_eq] at hc cN
    have e1:=Nat.eq_of_beq_eq_true cN.1.1
    have e2:=Nat.eq_of_beq_eq_true cN.1.2
    have e3:=Nat.eq_of_beq_eq_true cN.2
    obtain ⟨⟨⟨h1,h2⟩,h3⟩,_⟩:=hc
    subst e1; subst e2; subst e3; subst h1; subst h2; subst h3
    refine ⟨_,_,rfl,?_⟩
    simp only [cond_false,List.length_nil,Nat.add_zero,jU hg,List.append_nil]
   | cons y ys=>exact ⟨_,_,by simp only [gN,hg,cN,if_true,hc],rfl⟩
  ·cases h
 ·cases h
theorem Ca {E:Env} {s s1 s2:St} {dst:Option Tmp} {l:List AV} {tys:List TypeId} {b c:Bool} (h:B8 E s dst l tys=some (b,s1,c,s2)) (CA:b=false→c=true):bV E s dst .append l tys=some (true,bif b then s1 else s2):=by
 unfold B8 at h
 split at h
 ·rename_i k sz es k' bQ ys t u
  split at h
  ·rename_i i hi
   split at h
   ·rename_i elem esz a1 bI z hk
    split at h
    ·rename_i hc
     have vX:((Nat.beq bQ esz || ys.isEmpty)&&Nat.beq t u&&Nat.ble 1 esz&&Nat.ble 1 bI&&Nat.beq z.cells.length esz&&z.a6)=true:=by
      simp only [Bool.and_eq_true] at hc ⊢
      obtain ⟨⟨⟨⟨⟨c1,c2⟩,c3⟩,c4⟩,c5⟩,c6⟩:=hc
      exact ⟨⟨⟨⟨⟨by rw [c1]; rfl,c2⟩,c3⟩,c4⟩,c5⟩,c6⟩
     obtain ⟨v,G',h1,h2⟩:=tf h CA
     simp only [bV,hi,hk,vX,if_true,h1,h2]
    ·cases h
   ·cases h
  ·cases h
 ·rename_i id f off sz len k' bQ ys t u
  split at h
  ·rename_i i hi
   split at h
   ·rename_i elem esz a1 bI z hk
    split at h
    ·rename_i hc
     have vX:((Nat.beq bQ esz || ys.isEmpty)&&Nat.beq t u&&Nat.ble 1 esz&&Nat.ble 1 bI&&Nat.beq z.cells.length esz&&z.a6)=true:=by
      simp only [Bool.and_eq_true] at hc ⊢
      obtain ⟨⟨⟨⟨⟨c1,c2⟩,c3⟩,c4⟩,c5⟩,c6⟩:=hc
      exact ⟨⟨⟨⟨⟨by rw [c1]; rfl,c2⟩,c3⟩,c4⟩,c5⟩,c6⟩
     obtain ⟨v,G',h1,h2⟩:=B9 h CA
     simp only [bV,hi,hk,vX,if_true,h1,h2]
    ·cases h
   ·cases h
  ·cases h
 ·rename_i k sz es bs t u
  split at h
  ·rename_i i j hi hj
   split at h
   ·rename_i elem esz a1 bI z hk X2
    split at h
    ·rename_i hc
     obtain ⟨v,G',h1,h2⟩:=tf h CA
     simp only [bV,hi,hj,hk,X2,hc,if_true,h1,h2]
    ·cases h
   ·cases h
  ·cases h
 ·cases h
end Go.Am
namespace Go.Am
open Go
def U4 (E:Env) (cut wk:Bool) (t:TypeId) (r:AV) (G:List GO):Option (Bool × AV × List GO):=match r with
 | .dD id f 0 sz len=>match nth G id,E.ti t with
  | some (.dw es bQ _),some i=>match i.k with
   | .sl _ esz _ _ _=>if Nat.beq esz sz&&Nat.beq bQ sz then
     bif cut then some (decide (f=es.length)&&decide (len≤es.length)&&bg (Aw wk es),.list .lQ sz (Aw wk (es.take len)),aF G id .dead)
     else some (decide (f=es.length)&&decide (len=es.length)&&bg (Aw wk es),.list .lQ sz (Aw wk es),aF G id .dead)
    else none
   | _=>none
  | _,_=>none
 | .kB id 0 sz len _=>match nth G id,E.ti t,E.Oo t with
  | some (.row cs _),some i,some p=>match i.k with
   | .sl _ esz agg _ _=>if Nat.beq esz sz&&Nat.ble 1 sz&&(agg || Nat.beq sz 1)&&p.under 0 then
     some (Nat.beq cs.length (len * sz)&&allFit (fun e=>p.fits e&&e.a6&&(agg || e.one)) (iF agg sz len cs),.list .lQ sz ((iF agg sz len cs).map fun e=>p.enc (p.bA e)),aF G id .dead)
    else none
   | _=>none
  | _,_,_=>none
 | .agg cs=>match mT wk cs G with
  | (c,cs',G')=>some (c,.agg cs',G')
 | .ptr id 0=>match nth G id with
  | some (.row cs _)=>some (bg cs,.ep cs,aF G id .dead)
  | _=>none
 | _=>none
def yN (E:Env) (cut wk:Bool):List TypeId→List AV→List GO→Bool × List AV × List GO
 | t :: ts,r :: rs,G=>match U4 E cut wk t r G with
  | some (c,r',G')=>match yN E cut wk ts rs G' with
   | (c',KU,A6)=>(c&&c',r' :: KU,A6)
  | none=>match yN E cut wk ts rs G with
   | (c',KU,A6)=>(c',r :: KU,A6)
 | _,rs,G=>(true,rs,G)
def U5 {X:Type} (E:Env) (cut wk:Bool) (ts:List TypeId) (K:AV→List GO→Option X) (r:AV) (G:List GO):Option X:=match r with
 | .bp rs=>match yN E cut wk ts rs G with
  | (c,KU,G')=>bif c then K (.bp KU) G' else none
 | r=>match yN E cut wk ts [r] G with
  | (c,[r'],G')=>bif c then K r' G' else none
  | _=>none
section
variable {E:Env} {R:an} {w:World}
theorem yO {R:an} {b:Nat} (hI:∀ o,R.I b o):∀ {cs:List AV} {vs:List Value} {o:Nat},aQ R w cs vs→(∀ v∈vs,v.oneCell'=true)→(∀ (j:Nat) (v:Value),vs[j]?=some v→w.cell? ⟨b,o+j,none⟩=some v)→eN R w b o cs
 | [],_,o,_,_,_=>.nil
 | a :: cs,_,o,.cons h t,h1,hc=>.cons (hc 0 _ rfl) (h1 _ (by simp)) (hI o) h (yO hI t (fun v hv=>h1 v (by simp [hv])) fun j v hj=>by
   have:=hc (j+1) v (by simpa using hj)
   rwa [show o+(j+1)=o+1+j by omega] at this)
theorem yP {R:an} {b:Nat} {p:aR} {agg:Bool} {sz:Nat} (hI:∀ o,R.I b o) (hp:p.under 0=true) (fu:(agg || Nat.beq sz 1)=true) (adt:1≤sz):∀ (n:Nat) {cs:List AV} {vs:List Value} {o:Nat},aQ R w cs vs→(∀ v∈vs,v.oneCell'=true)→cs.length=n * sz →
  (∀ (j:Nat) (v:Value),vs[j]?=some v→w.cell? ⟨b,o+j,none⟩=some v)→allFit (fun e=>p.fits e&&e.a6&&(agg || e.one)) (iF agg sz n cs)=true→gQ R w b o sz ((iF agg sz n cs).map fun e=>p.enc (p.bA e))
 | 0,_,_,_,_,_,_,_,_=>.nil
 | n+1,cs,vs,o,h,h1,hl,hc,hf=>by
  simp only [iF,allFit,Bool.and_eq_true] at hf
  obtain ⟨⟨⟨xF,hf2⟩,hf4⟩,hf3⟩:=hf
  have hlen:=h.length
  have hle:sz≤cs.length:=by rw [hl,Nat.succ_mul]; omega
  have dk:=p.dc xF
  have mE:(Yy agg (cs.take sz)).cells=cs.take sz:=by
   cases agg with
   | true=>rfl
   | false=>
    have Ta:sz=1:=by simpa using fu
    subst Ta
    match cs,hle with
    | a :: cs,_=>
     show AV.cells a=[a]
     have ho:a.one=true:=by simpa [Yy,fc] using hf4
     cases a <;> first | rfl | simp [AV.one] at ho
  have hw:=dk.cells hf2
  rw [mE] at hw
  have hA:eN R w b o (cs.take sz):=yO hI (h.take sz) (fun v hv=>h1 v (List.mem_of_mem_take hv)) fun j v hj=>hc j v (by
   rw [List.getElem?_take] at hj
   split at hj
   ·exact hj
   ·cases hj)
  refine .cons (by rw [← hw.length,List.length_take,Nat.min_eq_left hle]) (by rw [dk.bp]; exact hf2) (mH (p.dW _ hp)) (hw.JZ hA) ?_
  exact yP hI hp fu adt n (h.drop sz) (fun v hv=>h1 v (List.mem_of_mem_drop hv)) (by rw [List.length_drop,hl,Nat.succ_mul]; omega) (fun j v hj=>by
   rw [List.getElem?_drop] at hj
   have:=hc _ _ hj
   rwa [show o+(sz+j)=o+sz+j by omega] at this) hf3
theorem OY {cut wk:Bool} {t:TypeId} {r r':AV} {G G':List GO} {c:Value} (hg:dQ E R w G) (hr:Rel R w r c) (h:U4 E cut wk t r G=some (true,r',G')) :
  ∃ R',dQ E R' w G'∧Rel R' w r' c∧Ext R w R' w∧R'.obj=R.obj∧∀ b o,R'.I b o→R.I b o∨Live R b:=by
 unfold U4 at h
 split at h
 ·rename_i id f sz len
  obtain ⟨ro,bU⟩:∃ ro,nth R.obj id=some ro:=by
   cases hr with
   | js q _=>exact ⟨_,q⟩
   | dD q _ _=>exact ⟨_,q⟩
  split at h
  ·rename_i es bQ el i hid hi
   split at h
   ·split at h
    ·rename_i hc
     rw [Bool.and_eq_true] at hc
     have q1:=Nat.eq_of_beq_eq_true hc.2
     subst q1
     cases cut with
     | true=>
      simp only [cond_true] at h
      injection h with h; injection h with h1 h; injection h with h2 h3
      subst h2 h3
      rw [Bool.and_eq_true,Bool.and_eq_true,decide_eq_true_eq,decide_eq_true_eq] at h1
      obtain ⟨h1,jF⟩:=h1
      obtain ⟨R',r1,r2,r3,r4,r5⟩:=nV (wk:=wk) hg hid h1.1 h1.2 jF bU
      exact ⟨R',r1,r5 c hr,r2,r3,fun b o hi=>(r4 b o hi).imp_right fun hb=>⟨id,ro,bU,hb⟩⟩
     | false=>
      simp only [cond_false] at h
      injection h with h; injection h with h1 h; injection h with h2 h3
      subst h2 h3
      rw [Bool.and_eq_true,Bool.and_eq_true,decide_eq_true_eq,decide_eq_true_eq] at h1
      obtain ⟨h1,jF⟩:=h1
      obtain ⟨R',r1,r2,r3,r4,r5⟩:=nV (wk:=wk) hg hid h1.1 (Nat.le_of_eq h1.2) jF bU
      have r6:=r5 c hr
      rw [h1.2,List.take_length] at r6
      exact ⟨R',r1,r6,r2,r3,fun b o hi=>(r4 b o hi).imp_right fun hb=>⟨id,ro,bU,hb⟩⟩
    ·cases h
   ·cases h
  ·cases h
 ·rename_i id sz len cap
  split at h
  ·rename_i cs i p hid hi hp
   split at h
   ·rename_i el esz agg eb z hk
    split at h
    ·rename_i hc
     simp only [Bool.and_eq_true] at hc
     injection h with h
     injection h with h1 h
     injection h with h2 h3
     subst h2 h3
     rw [Bool.and_eq_true] at h1
     cases hr with
     | @kB _ _ _ _ _ b hb iG=>
     obtain ⟨vs,k1,k2,k3,k4⟩:=hg.obj id _ _ hid hb
     have CU:Live R b:=⟨id,_,hb,rfl⟩
     have e:=qn R w b
     have cu:=bn k1
     refine ⟨R.all b,⟨by show R.obj.length=_; rw [iP]; exact hg.len,fun kf go ro q1 q2=>?_,hg.inj,fun b' o ho=>?_,fun g cs rO=>(hg.cm g cs rO).mono e,hg.lo⟩,?_,e,rfl,fun b' o ho=>?_⟩
     ·rcases dE q1 with ⟨rfl,rfl,_⟩ | ⟨cD,q1⟩
      ·have:ro=.b9 b:=Option.some.inj (q2.symm.trans hb)
       subst this
       exact cu
      ·refine (hg.obj kf go ro q1 q2).mono e (fun _ _=>rfl) (fun b' o jB ho=>?_)
       rcases ho with ho | ho
       ·exact ho
       ·subst ho
        exact absurd (hg.inj id kf _ _ b' hb q2 rfl jB) cD
     ·rcases ho with ho | ho
      ·exact hg.wf b' o ho
      ·subst ho; exact cu
     ·refine Rel.list (yP (R:=R.all b) (fun o=>Or.inr rfl) hc.2 hc.1.2 (Nat.le_of_ble_eq_true hc.1.1.2) len (k2.mono e) k3 (Nat.eq_of_beq_eq_true h1.1) (fun j v hj=>?_) h1.2) ?_ iG trivial
      ·simp only [World.cell?,k1]
       simpa using hj
      ·rw [List.length_map]
       have:∀ (n:Nat) (l:List AV),(iF agg sz n l).length=n:=by
        intro n
        induction n with
        | zero=>intro l; rfl
        | succ n ih=>intro l; simp [iF,ih]
       rw [this]
     ·rcases ho with ho | ho
      ·exact .inl ho
      ·subst ho; exact .inr CU
    ·cases h
   ·cases h
  ·cases h
 ·rename_i cs
  cases h2:mT wk cs G with
  | mk c' q=>
  obtain ⟨cs',G2⟩:=q
  rw [h2] at h
  injection h with h; injection h with h1 h; injection h with h3 h4
  subst h1 h3 h4
  cases hr with
  | agg hr xp=>
  obtain ⟨R',r1,r2,r3,r4,r5⟩:=sW hg hr h2
  exact ⟨R',r1,.agg r2 xp,r3,r4,r5⟩
 ·-- an object's cells never change again
  rename_i id
  split at h
  ·rename_i cs el hid
   injection h with h; injection h with h1 h; injection h with h2 h3
   subst h2 h3
   cases hr with
   | @ptr _ _ b bU=>
   obtain ⟨vs,b1,b2,b3,b4⟩:=hg.obj id _ _ hid bU
   have r2:=qn R w b
   have r1:=hg.freeze bU rfl (show ic (R.all b) w .dead (.b9 b) from bn b1)
   refine ⟨R.all b,r1,Rel.ep (eN.make (b2.mono r2) b3 (fun j v hv=>?_) (fun j _=>.inr rfl)),r2,rfl,fun b' o hi=>?_⟩
   ·rw [jW b1,Nat.zero_add]
    exact hv
   ·rcases hi with hi | rfl
    ·exact .inl hi
    ·exact .inr ⟨id,_,bU,rfl⟩
  ·cases h
 ·cases h
theorem wR {cut wk:Bool}:∀ {ts:List TypeId} {rs KU:List AV} {G G':List GO} {cs:List Value} {R:an},dQ E R w G→aQ R w rs cs→yN E cut wk ts rs G=(true,KU,G') →
  ∃ R',dQ E R' w G'∧aQ R' w KU cs∧Ext R w R' w∧R'.obj=R.obj∧∀ b o,R'.I b o→R.I b o∨Live R b
 | [],rs,KU,G,G',cs,R,hg,hr,h=>by
  cases rs <;> (simp only [yN] at h; cases h; exact ⟨R,hg,hr,Ext.refl R w,rfl,fun _ _ h=>.inl h⟩)
 | _ :: _,[],KU,G,G',cs,R,hg,hr,h=>by
  simp only [yN] at h; cases h; exact ⟨R,hg,hr,Ext.refl R w,rfl,fun _ _ h=>.inl h⟩
 | t :: ts,r :: rs,KU,G,G',cs,R,hg,hr,h=>by
  cases hr with
  | cons h0 hr=>
  unfold yN at h
  split at h
  ·rename_i c r' G1 h1
   cases h2:yN E cut wk ts rs G1 with
   | mk c' q=>
   obtain ⟨Za,G2⟩:=q
   rw [h2] at h
   simp only [Prod.mk.injEq,Bool.and_eq_true] at h
   obtain ⟨⟨rfl,rfl⟩,rfl,rfl⟩:=h
   obtain ⟨R1,a1,a2,a3,a4,a5⟩:=OY hg h0 h1
   obtain ⟨R2,b1,b2,b3,b4,b5⟩:=wR a1 (hr.mono a3) h2
   refine ⟨R2,b1,.cons (a2.mono b3) b2,a3.trans b3,b4.trans a4,fun b o ho=>?_⟩
   rcases b5 b o ho with ho | ho
   ·exact a5 b o ho
   ·obtain ⟨id,ro,q1,q2⟩:=ho
    rw [a4] at q1
    exact .inr ⟨id,ro,q1,q2⟩
  ·cases h2:yN E cut wk ts rs G with
   | mk c' q=>
   obtain ⟨Za,G2⟩:=q
   rw [h2] at h
   simp only [Prod.mk.injEq] at h
   obtain ⟨rfl,rfl,rfl⟩:=h
   obtain ⟨R2,b1,b2,b3,b4,b5⟩:=wR hg hr h2
   exact ⟨R2,b1,.cons (h0.mono b3) b2,b3,b4,b5⟩
theorem cB.frz {g:FuncId} {args:List AV} {G:List GO} {X:Type} {cut wk:Bool} {ts:List TypeId} {K:AV→List GO→Option X} {x:X} (h:cB E g args G (fun r G'=>U5 E cut wk ts K r G'=some x)):cB E g args G (fun r G'=>K r G'=some x):=
 ⟨h.1,fun R w cs hg hl=>(h.2 R w cs hg hl).mono fun e w' he=>by
  cases e with
  | panicked c=>exact he.elim
  | outgrown=>exact he.elim
  | returned c=>
   obtain ⟨r,G',R1,hq,fb,OX,st⟩:=he
   have fin:∀ (r':AV) (G2:List GO) (R2:an),K r' G2=some x→dQ E R2 w' G2→Rel R2 w' r' c→Ext R1 w' R2 w'→R2.obj=R1.obj→(∀ b o,R2.I b o→R1.I b o∨Live R1 b)→G9 E R w (fun r G'=>K r G'=some x) (.returned c) w':=by
    intro r' G2 R2 k1 k2 k3 k4 k5 k6
    have live:∀ b,Live R2 b→Live R1 b:=fun b ⟨id,ro,q1,q2⟩=>⟨id,ro,by rw [← k5]; exact q1,q2⟩
    refine ⟨r',G2,R2,k1,k3,k2,⟨st.ext.trans k4,st.os,st.tape,st.output,st.size,st.bJ,fun b hb ho=>?_,fun b o hi hb hn=>?_⟩⟩
    ·rcases ho with ho | ⟨k,cs,hk,rfl⟩
     ·exact st.own b hb (.inl (live b ho))
     ·simp [fS,dO] at hk
    ·rcases k6 b o hi with hi | hi
     ·exact st.im b o hi hb hn
     ·exact absurd (st.own b hb (.inl hi)) hn
   unfold U5 at hq
   split at hq
   ·rename_i rs
    cases fb with
    | bp fb=>
    cases h2:yN E cut wk ts rs G' with
    | mk c' q=>
    obtain ⟨Za,G2⟩:=q
    rw [h2] at hq
    cases c' with
    | false=>cases hq
    | true=>
     obtain ⟨R2,b1,b2,b3,b4,b5⟩:=wR OX fb h2
     exact fin (.bp Za) G2 R2 hq b1 (.bp b2) b3 b4 b5
   ·split at hq
    ·rename_i c' r' G2 h2
     cases c' with
     | false=>cases hq
     | true=>
      obtain ⟨R2,b1,b2,b3,b4,b5⟩:=wR OX (.cons fb .nil) h2
      cases b2 with
      | cons b2 _=>exact fin r' G2 R2 hq b1 b2 b3 b4 b5
    ·cases hq⟩
end
end Go.Am
namespace Go.Am
open Go
inductive RP
 | Ts (p:aR)
 | map (pe:aR)
 | ep (ps:aT)
def RP.T:RP→Type
 | .Ts p=>p.T
 | .map pe=>List pe.T
 | .ep ps=>ps.T
def RP.enc (n:Nat):(p:RP)→p.T→AV
 | .Ts p,x=>p.enc x
 | .map _,_=>.map n
 | .ep ps,x=>.ep (ps.enc x)
def RP.F4:(p:RP)→p.T→List GO
 | .Ts _,_=>[]
 | .map pe,(x:List pe.T)=>[.map (ab (x.map pe.enc))]
 | .ep _,_=>[]
def RP.no:RP→Nat
 | .map _=>1
 | _=>0
def uA:List RP→Type
 | []=>Unit
 | [p]=>p.T
 | p :: q :: l=>p.T × uA (q :: l)
def pO:(n:Nat)→(l:List RP)→uA l→List AV
 | _,[],_=>[]
 | n,[p],x=>[p.enc n x]
 | n,p :: q :: l,x=>p.enc n x.1 :: pO (n+p.no) (q :: l) x.2
def iC:(l:List RP)→uA l→List GO
 | [],_=>[]
 | [p],x=>p.F4 x
 | p :: q :: l,x=>p.F4 x.1++iC (q :: l) x.2
structure RF where
 bp:Bool
 l:List RP
def RF.val (f:RF) (n:Nat) (x:uA f.l):AV:=bif f.bp then .bp (pO n f.l x) else fc (pO n f.l x)
def RP.is:RP→AV→Bool
 | .Ts p,v=>match p with
  | .dS u=>eH v u
  | _=>true
 | .map _,v=>match v with
  | .map _=>true
  | _=>false
 | .ep _,v=>match v with
  | .ep _=>true
  | _=>false
def KV:List RP→List AV→Bool
 | [],[]=>true
 | p :: l,v :: vs=>p.is v&&KV l vs
 | _,_=>false
def RF.args (f:RF) (r:AV):List AV:=bif f.bp then r.Uc else [r]
def RF.A7 (f:RF):AV→Bool
 | .bp _=>f.bp
 | _=>!f.bp
def Cb (G:List GO) (used:List Nat) (pe:aR) (v:AV):Option (List pe.T):=match v with
 | .map id=>match nth G id with
  | some (.map es)=>bif Of used id then none else (bif allFit pe.fits (ao es) then some ((ao es).map pe.bA) else none)
  | _=>none
 | _=>none
def Hn (ps:aT) (v:AV):Option ps.T:=match v with
 | .ep cs=>ps.dec cs
 | _=>none
def RP.dec (G:List GO) (used:List Nat):(p:RP)→AV→Option p.T
 | .Ts p,v=>p.dec v
 | .map pe,v=>Cb G used pe v
 | .ep ps,v=>Hn ps v
def uB (used:List Nat):AV→List Nat
 | .map id=>id :: used
 | _=>used
def uC (G:List GO):(used:List Nat)→(l:List RP)→List AV→Option (uA l)
 | _,[],vs=>match vs with
  | []=>some ()
  | _=>none
 | u,[p],vs=>match vs with
  | [v]=>p.dec G u v
  | _=>none
 | u,p :: q :: l,vs=>match vs with
  | v :: vs=>(p.dec G u v).bind fun x=>(uC G (uB u v) (q :: l) vs).bind fun y=>some (x,y)
  | []=>none
def RF.dec (f:RF) (G:List GO) (r:AV):Option (uA f.l):=bif f.A7 r then uC G [] f.l (f.args r) else none
def RP.under:RP→Bool
 | .Ts p=>p.under 0
 | .map pe=>pe.under 0
 | .ep ps=>ps.under 0
def RF.under (f:RF):Bool:=f.l.all RP.under&&(f.bp || Nat.beq f.l.length 1)
def XT:List RF→Type
 | []=>Empty
 | [f]=>uA f.l
 | f :: g :: l=>uA f.l ⊕ XT (g :: l)
def KW (G:List GO) (r:AV):(l:List RF)→Option (XT l)
 | []=>none
 | [f]=>f.dec G r
 | f :: g :: l=>bif f.A7 r&&KV f.l (f.args r) then (f.dec G r).bind fun x=>some (.inl x) else (KW G r (g :: l)).bind fun x=>some (.inr x)
def Yd {α:Type} (G:List GO) (K:AV→List GO→α):(l:List RF)→XT l→α
 | [],o=>Empty.rec (fun _=>α) o
 | [f],o=>K (f.val G.length o) (G++iC f.l o)
 | f :: g :: l,o=>Sum.elim (fun v=>K (f.val G.length v) (G++iC f.l v)) (fun o=>Yd G K (g :: l) o) o
theorem DD {α:Type} {G:List GO} {K:AV→List GO→α} {r:AV} {G':List GO}:∀ (l:List RF) (o:XT l),Yd G (fun r0 G0=>r=r0∧G'=G0) l o→K r G'=Yd G K l o
 | [],o,_=>nomatch o
 | [f],o,h=>by
  have h:r=f.val G.length o∧G'=G++iC f.l o:=h
  rw [h.1,h.2]; rfl
 | f :: g :: l,.inl v,h=>by
  have h:r=f.val G.length v∧G'=G++iC f.l v:=h
  rw [h.1,h.2]; rfl
 | f :: g :: l,.inr o,h=>DD (g :: l) o h
def yQ (E:Env) (g:FuncId) (args:List AV) (outs:List RF) (Q:XT outs→Prop):Prop:=
 ∀ G,cB E g args G (fun r G'=>∃ y,Q y∧Yd G (fun r0 G0=>r=r0∧G'=G0) outs y)
section
variable {E:Env} {R R1 R2:an} {w:World}
theorem dP.Tt (m:Mv R R2 0):∀ {es:List (AV × AV)} {l:List AV} {aC:List MapEntry},kv (ao es) l→aM 0 l=true→dP R w es aC→dP R2 w (ab l) aC
 | [],[],[],_,_,_=>trivial
 | [],[],_ :: _,_,_,h=>h.elim
 | [],_ :: _,_,h,_,_=>h.elim
 | (_,_) :: _,[],_,h,_,_=>h.elim
 | (_,_) :: _,_ :: _,[],_,_,h=>h.elim
 | (k,v) :: es,a :: l,en :: aC,hd,hu,h=>by
  obtain ⟨d1,d2⟩:=hd
  simp only [aM,Bool.and_eq_true] at hu
  have hc:=d1.cells rfl
  have hl:[k,v].length=a.cells.length:=hc.length
  cases a with
  | agg cs=>
   match cs,hc,hl with
   | [k',v'],hc,_=>
    have U0:aM 0 [k',v']=true:=hu.1
    simp only [aM,Bool.and_true,Bool.and_eq_true] at U0
    exact ⟨(hc.1 _ _ _ h.1).move m U0.1,(hc.2.1 _ _ _ h.2.1).move m U0.2,dP.Tt m d2 hu.2 h.2.2⟩
   | [],_,hl=>simp [AV.cells] at hl
   | [_],_,hl=>simp [AV.cells] at hl
   | _ :: _ :: _ :: _,_,hl=>simp [AV.cells] at hl
  | _=>simp [AV.cells] at hl
theorem aR.yR {p:aR} (h:p.under 0=true):∀ l:List p.T,aM 0 (l.map p.enc)=true
 | []=>rfl
 | x :: l=>by
  show ((p.enc x).under 0&&aM 0 (l.map p.enc))=true
  rw [p.dW x h,aR.yR h l]
  rfl
def yS (R:an) (n:Nat) (bs:List Nat):Prop:=∀ k b,nth bs k=some b→nth R.obj (n+k)=some (.b9 b)
def Ho (R:an) (w:World) (gs:List GO) (bs:List Nat):Prop:=∀ k go b,nth gs k=some go→nth bs k=some b→ic R w go (.b9 b)
theorem RP.Tu (p:RP) (x:p.T):(p.F4 x).length=p.no:=by cases p <;> rfl
theorem KX {ps:aT} {v:AV} {y:ps.T} (h:Hn ps v=some y):∃ cs,v=.ep cs∧ps.dec cs=some y:=by
 unfold Hn at h
 split at h
 ·exact ⟨_,rfl,h⟩
 ·cases h
theorem IT {G:List GO} {used:List Nat} {pe:aR} {v:AV} {y:List pe.T} (h:Cb G used pe v=some y):∃ id es,v=.map id∧nth G id=some (.map es)∧id∉used∧kv (ao es) (y.map pe.enc):=by
 unfold Cb at h
 split at h
 ·rename_i id
  split at h
  ·rename_i es JH
   cases hu:Of used id with
   | true=>rw [hu] at h; cases h
   | false=>
    rw [hu,cond_false] at h
    cases hf:allFit pe.fits (ao es) with
    | false=>rw [hf] at h; cases h
    | true=>
     rw [hf,cond_true] at h
     have hy:=Option.some.inj h
     refine ⟨id,es,rfl,JH,fun hm=>?_,?_⟩
     ·rw [B3.2 hm] at hu; cases hu
     ·rw [← hy]; exact kv.of (fun v hv=>pe.dc hv) hf
  ·cases h
 ·cases h
theorem F5 {used:List Nat} {v:AV} {id:Nat} (h:id∈used):id∈uB used v:=by
 unfold uB
 split
 ·exact List.mem_cons_of_mem _ h
 ·exact h
def Cc (R1:an) (w:World) (used:List Nat) (v:AV) (c:Value) (p:RP) (y:p.T):Prop:=
 ∃ bs:List Nat,bs.length=p.no∧(∀ b∈bs,∃ id,id∉used∧id∈uB used v∧nth R1.obj id=some (.b9 b)) ∧
   ∀ (R2:an) (n:Nat),(∀ b o,R1.I b o→R2.I b o)→yS R2 n bs→Rel R2 w (p.enc n y) c∧Ho R2 w (p.F4 y) bs
theorem mvI {R1 R2:an} (hI:∀ b o,R1.I b o→R2.I b o):Mv R1 R2 0:=⟨hI,fun _ _ h=>absurd h (Nat.not_lt_zero _)⟩
theorem RP.U6 {used:List Nat} {p:aR} {v:AV} {c:Value} {y:p.T} (hp:p.under 0=true) (hv:Rel R1 w v c) (hd:p.dec v=some y):Cc R1 w used v c (.Ts p) y:=
 ⟨[],rfl,(fun b hb=>by cases hb),fun R2 n hI _=>⟨Rel.move (mvI hI) (p.dW y hp) ((p.rK hd).ia _ _ _ hv),fun k go b h=>by cases k <;> cases h⟩⟩
theorem RP.ZA {used:List Nat} {ps:aT} {v:AV} {c:Value} {y:ps.T} (hp:ps.under 0=true) (hv:Rel R1 w v c) (hd:Hn ps v=some y):Cc R1 w used v c (.ep ps) y:=by
 obtain ⟨cs,rfl,hd⟩:=KX hd
 cases hv with
 | ep hc=>
 exact ⟨[],rfl,(fun b hb=>by cases hb),fun R2 n hI _=>⟨.ep (eN.move (mvI hI) ((ps.rK hd).1.JZ hc) (ps.dW y hp)),fun k go b h=>by cases k <;> cases h⟩⟩
theorem RP.U7 {G1:List GO} (hg:dQ E R1 w G1) {used:List Nat} {pe:aR} {v:AV} {c:Value} {y:List pe.T} (hp:pe.under 0=true) (hv:Rel R1 w v c) (hd:Cb G1 used pe v=some y):Cc R1 w used v c (.map pe) y:=by
 obtain ⟨id,es,rfl,JH,hu,hdl⟩:=IT hd
 cases hv with
 | map hb=>
 rename_i b
 refine ⟨[b],rfl,fun b' jB=>?_,fun R2 n hI oJ=>⟨.map (by have:=oJ 0 b rfl; simpa using this),fun k go b' h1 h2=>?_⟩⟩
 ·rw [List.mem_singleton] at jB
  subst jB
  exact ⟨id,hu,List.mem_cons_self,hb⟩
 ·cases k with
  | succ k=>cases h2
  | zero=>
   cases h1; cases h2
   obtain ⟨aC,clock,e1,e2,e3⟩:=hg.obj id _ _ JH hb
   exact ⟨aC,clock,e1,dP.Tt (mvI hI) hdl (aR.yR hp y) e2,e3⟩
theorem RP.ok {G1:List GO} (hg:dQ E R1 w G1) {used:List Nat} {p:RP} {v:AV} {c:Value} {y:p.T} (hp:p.under=true) (hv:Rel R1 w v c) (hd:p.dec G1 used v=some y):Cc R1 w used v c p y:=by
 cases p with
 | Ts p=>exact RP.U6 hp hv hd
 | ep ps=>exact RP.ZA hp hv hd
 | map pe=>exact RP.U7 hg hp hv hd
theorem gV {α:Type} {l r:List α} {i:Nat} (h:i < l.length):nth (l++r) i=nth l i:=by
 rw [bf,bf,List.getElem?_append_left h]
theorem gb {α:Type} {l r:List α} (i:Nat):nth (l++r) (l.length+i)=nth r i:=by
 rw [bf,bf,List.getElem?_append_right (Nat.le_add_right _ _),Nat.add_sub_cancel_left]
theorem qz {α:Type} {l:List α} {i:Nat} {x:α} (h:nth l i=some x):i < l.length:=by
 rw [bf] at h
 exact (List.getElem?_eq_some_iff.1 h).1
theorem RPs.ok {G1:List GO} (hg:dQ E R1 w G1):∀ {l:List RP} {used:List Nat} {vs:List AV} {cs:List Value} {y:uA l},l.all RP.under=true→aQ R1 w vs cs→uC G1 used l vs=some y →
  ∃ bs:List Nat,bs.length=(iC l y).length∧bs.Nodup∧(∀ b∈bs,∃ id,id∉used∧nth R1.obj id=some (.b9 b)) ∧
   ∀ (R2:an) (n:Nat),(∀ b o,R1.I b o→R2.I b o)→yS R2 n bs→aQ R2 w (pO n l y) cs∧Ho R2 w (iC l y) bs
 | [],used,vs,cs,y,_,hv,hd=>by
  cases vs with
  | cons _ _=>cases hd
  | nil=>
  cases hv
  exact ⟨[],rfl,List.nodup_nil,(fun b hb=>by cases hb),fun R2 n _ _=>⟨.nil,fun k go b h=>by simp [iC,nth] at h⟩⟩
 | [p],used,vs,cs,y,hu,hv,hd=>by
  match vs,hv,hd with
  | [],_,hd=>cases hd
  | _ :: _ :: _,_,hd=>cases hd
  | [v],.cons hv .nil,hd=>
  have hu:p.under=true:=by simpa using hu
  obtain ⟨bs,h1,h2,h4⟩:=RP.ok hg hu hv hd
  refine ⟨bs,h1.trans (p.Tu y).symm,?_,fun b hb=>let ⟨id,q1,_,q2⟩:=h2 b hb; ⟨id,q1,q2⟩,fun R2 n hI oJ=>?_⟩
  ·have:bs.length≤1:=by rw [h1]; cases p <;> simp [RP.no]
   match bs,this with
   | [],_=>exact List.nodup_nil
   | [b],_=>simp
   | _ :: _ :: _,h=>simp at h
  ·obtain ⟨k1,k2⟩:=h4 R2 n hI oJ
   exact ⟨.cons k1 .nil,k2⟩
 | p :: q :: l,used,vs,cs,y,hu,hv,hd=>by
  match vs,hv,hd with
  | [],_,hd=>cases hd
  | v :: vs,.cons (c:=c) (cs:=cs) hv U1,hd=>
  simp only [List.all_cons,Bool.and_eq_true] at hu
  obtain ⟨hu1,hu2⟩:=hu
  have hu2:(q :: l).all RP.under=true:=by simpa using hu2
  have hd:((p.dec G1 used v).bind fun x=>(uC G1 (uB used v) (q :: l) vs).bind fun y=>some (x,y))=some y:=hd
  cases hx:p.dec G1 used v with
  | none=>rw [hx] at hd; cases hd
  | some x=>
  rw [hx] at hd
  simp only [Option.bind_some] at hd
  cases hz:uC G1 (uB used v) (q :: l) vs with
  | none=>rw [hz] at hd; cases hd
  | some z=>
  rw [hz] at hd
  simp only [Option.bind_some] at hd
  cases hd
  obtain ⟨bs,h1,h2,h4⟩:=RP.ok hg hu1 hv hx
  obtain ⟨bs',k1,k0,k2,k4⟩:=RPs.ok hg hu2 U1 hz
  have OE:bs.length=(p.F4 x).length:=h1.trans (p.Tu x).symm
  refine ⟨bs++bs',?_,?_,fun b hb=>?_,fun R2 n hI oJ=>?_⟩
  ·show _=(p.F4 x++iC (q :: l) z).length
   rw [List.length_append,List.length_append,OE,k1]
  ·have JF:bs.Nodup:=by
    have:bs.length≤1:=by rw [h1]; cases p <;> simp [RP.no]
    match bs,this with
    | [],_=>exact List.nodup_nil
    | [b],_=>simp
    | _ :: _ :: _,h=>simp at h
   rw [List.nodup_append]
   refine ⟨JF,k0,fun a ha b hb e=>?_⟩
   subst e
   obtain ⟨id,_,q2,q3⟩:=h2 a ha
   obtain ⟨kf,r1,r2⟩:=k2 a hb
   have:id=kf:=hg.inj id kf _ _ a q3 r2 rfl rfl
   subst this
   exact r1 q2
  ·rcases List.mem_append.1 hb with hb | hb
   ·obtain ⟨id,q1,_,q2⟩:=h2 b hb
    exact ⟨id,q1,q2⟩
   ·obtain ⟨id,q1,q2⟩:=k2 b hb
    exact ⟨id,fun hm=>q1 (F5 hm),q2⟩
  ·have at1:yS R2 n bs:=fun k b hk=>oJ k b (by rw [gV (qz hk)]; exact hk)
   have at2:yS R2 (n+p.no) bs':=fun k b hk=>by
    have:=oJ (bs.length+k) b (by rw [gb]; exact hk)
    rw [h1] at this
    rw [Nat.add_assoc]; exact this
   obtain ⟨a1,a2⟩:=h4 R2 n hI at1
   obtain ⟨b1,b2⟩:=k4 R2 (n+p.no) hI at2
   refine ⟨.cons a1 b1,fun k go b jc hb=>?_⟩
   change nth (p.F4 x++iC (q :: l) z) k=some go at jc
   rcases Nat.lt_or_ge k bs.length with hk | hk
   ·rw [gV (by rw [← OE]; exact hk)] at jc
    rw [gV hk] at hb
    exact a2 k go b jc hb
   ·obtain ⟨j,rfl⟩:∃ j,k=bs.length+j:=⟨k - bs.length,by omega⟩
    rw [gb] at hb
    rw [OE,gb] at jc
    exact b2 j go b jc hb
theorem yT:∀ (l:List RP) (n:Nat) (y:uA l),(pO n l y).length=l.length
 | [],_,_=>rfl
 | [_],_,_=>rfl
 | p :: q :: l,n,y=>by
  show (pO (n+p.no) (q :: l) y.2).length+1=(q :: l).length+1
  rw [yT (q :: l)]
theorem yQ.of1 {R0:an} {w0:World} {f:RF} {G G1:List GO} {r:AV} {c:Value} {y:uA f.l} (hf:f.under=true) (hG:dQ E R0 w0 G) (st:Step ⟨R0.I,[]⟩ w0 (fun _=>0) fS R1 w (fun _=>0) fS) (hg:dQ E R1 w G1) (fb:Rel R1 w r c) (hd:f.dec G1 r=some y) :
  ∃ R2,Rel R2 w (f.val G.length y) c∧dQ E R2 w (G++iC f.l y)∧Step R0 w0 (fun _=>0) fS R2 w (fun _=>0) fS:=by
 unfold RF.under at hf
 rw [Bool.and_eq_true] at hf
 unfold RF.dec at hd
 obtain ⟨ht,hd⟩:f.A7 r=true∧uC G1 [] f.l (f.args r)=some y:=by
  cases ht:f.A7 r with
  | true=>rw [ht] at hd; exact ⟨rfl,hd⟩
  | false=>rw [ht] at hd; cases hd
 obtain ⟨cs,ql,ZB⟩:∃ cs,aQ R1 w (f.args r) cs∧∀ R2 (x:uA f.l) n,aQ R2 w (pO n f.l x) cs→Rel R2 w (f.val n x) c:=by
  unfold RF.args RF.val
  cases adw:f.bp with
  | true=>
   have:∃ vs,r=.bp vs:=by
    cases r <;> first | exact ⟨_,rfl⟩ | (simp [RF.A7,adw] at ht)
   obtain ⟨vs,rfl⟩:=this
   cases fb with
   | bp h=>exact ⟨_,h,fun R2 x n h=>.bp h⟩
  | false=>
   refine ⟨[c],.cons fb .nil,fun R2 x n h=>?_⟩
   simp only [cond_false]
   have hlen:=yT f.l n x
   revert h hlen
   generalize pO n f.l x=l
   intro h hlen
   cases h with
   | cons h _=>exact h
 obtain ⟨bs,h1,h2,h3,h4⟩:=RPs.ok hg hf.1 ql hd
 have jX:∀ b,¬ Own (⟨R0.I,[]⟩:an) (fun _=>0) fS b:=fun b ho=>by
  obtain ⟨id,ro,q1,_⟩:=fE ho
  simp [nth] at q1
 have pn:∀ b∈bs,w0.heap.size≤b:=fun b hb=>by
  obtain ⟨id,_,hid⟩:=h3 b hb
  rcases Nat.lt_or_ge b w0.heap.size with cu | qi
  ·exact absurd (st.own b cu (.inl ⟨id,_,hid,rfl⟩)) (jX b)
  ·exact qi
 let R2:an:=⟨R1.I,R0.obj++bs.map RO.b9⟩
 have e:Ext R0 w0 R2 w:=⟨st.ext.I,st.ext.cell,fun id ro h=>⟨ro,by rw [gV (qz h)]; exact h,cJ.refl ro⟩,st.ext.lp⟩
 have bJ:∀ b,b < w0.heap.size→w.heap[b]?=w0.heap[b]?:=fun b hb=>st.bJ b hb (jX b)
 have im:∀ b o,b < w0.heap.size→R1.I b o→R0.I b o:=fun b o hb hi=>st.im b o hi hb (jX b)
 have adx:∀ {k ro},nth (bs.map RO.b9) k=some ro→∃ b,nth bs k=some b∧ro=.b9 b:=fun {k ro} h=>by
  rw [bf,List.getElem?_map] at h
  cases hb:bs[k]? with
  | none=>rw [hb] at h; cases h
  | some b=>rw [hb] at h; exact ⟨b,by rw [bf]; exact hb,(Option.some.inj h).symm⟩
 have oJ:yS R2 R0.obj.length bs:=fun k b hk=>by
  show nth (R0.obj++bs.map RO.b9) (R0.obj.length+k)=_
  rw [gb,bf,List.getElem?_map]
  rw [bf] at hk
  rw [hk]; rfl
 obtain ⟨k1,k2⟩:=h4 R2 R0.obj.length (fun _ _ h=>h) oJ
 rw [hG.len] at k1
 have hold:∀ id ro,nth R2.obj id=some ro→nth R0.obj id=some ro∨∃ k b,id=R0.obj.length+k∧nth bs k=some b∧ro=.b9 b:=fun id ro h=>by
  rcases Nat.lt_or_ge id R0.obj.length with cu | qi
  ·exact .inl (by rw [← gV (r:=bs.map RO.b9) cu]; exact h)
  ·obtain ⟨k,rfl⟩:∃ k,id=R0.obj.length+k:=⟨id - R0.obj.length,by omega⟩
   have h:nth (R0.obj++bs.map RO.b9) (R0.obj.length+k)=some ro:=h
   rw [gb] at h
   obtain ⟨b,q1,q2⟩:=adx h
   exact .inr ⟨k,b,rfl,q1,q2⟩
 have Tv:∀ id ro b,nth R0.obj id=some ro→ro.has b→b < w0.heap.size:=fun id ro b h hb=>by
  have hl:=qz h
  rw [hG.len] at hl
  have jc:nth G id=some G[id]:=by rw [bf]; exact List.getElem?_eq_getElem hl
  exact (hG.obj id _ _ jc h).lt hb
 have U8:∀ {k b},nth bs k=some b→b∈bs:=fun {k b} h=>by
  rw [bf] at h
  exact List.mem_of_getElem? h
 refine ⟨R2,ZB R2 y _ k1,⟨?_,fun id go ro q1 q2=>?_,fun i j ri rj b q1 q2 b1 b2=>?_,hg.wf,fun g cs rO=>(hG.cm g cs rO).mono e,hg.lo⟩,⟨e,st.os,st.tape,st.output,st.size,fun b hb _=>bJ b hb,fun b hb ho=>?_,fun b o hi hb _=>im b o hb hi⟩⟩
 ·show (R0.obj++bs.map RO.b9).length=_
  rw [List.length_append,List.length_map,List.length_append,hG.len,h1]
 ·rcases hold id ro q2 with q2 | ⟨k,b,rfl,q3,rfl⟩
  ·have hl:=qz q2
   rw [hG.len] at hl
   rw [gV hl] at q1
   refine (hG.obj id go ro q1 q2).mono e (fun b hb=>bJ b ?_) (fun b o hb hi=>im b o ?_ hi)
   ·exact (hG.obj id go ro q1 q2).lt hb
   ·exact (hG.obj id go ro q1 q2).lt hb
  ·rw [hG.len,gb] at q1
   exact k2 k go b q1 q3
 ·rcases hold i ri q1 with q1 | ⟨k,a,rfl,q3,rfl⟩
  ·rcases hold j rj q2 with q2 | ⟨k',a',rfl,q4,rfl⟩
   ·exact hG.inj i j ri rj b q1 q2 b1 b2
   ·have:b=a':=b2
    subst this
    have:=pn _ (U8 q4)
    have:=Tv i ri b q1 b1
    omega
  ·have hba:b=a:=b1
   subst hba
   rcases hold j rj q2 with q2 | ⟨k',a',rfl,q4,rfl⟩
   ·have:=pn _ (U8 q3)
    have:=Tv j rj b q2 b2
    omega
   ·have:b=a':=b2
    subst this
    have l1:=qz q3
    have l2:=qz q4
    rw [bf] at q3 q4
    have:=(List.getElem?_inj l1 h2).1 (q3.trans q4.symm)
    omega
 ·rcases fE ho with ⟨id,ro,q1,q2⟩
  rcases hold id ro q1 with q1 | ⟨k,a,rfl,q3,rfl⟩
  ·exact .inl ⟨id,ro,q1,q2⟩
  ·have:b=a:=q2
   subst this
   have:=pn _ (U8 q3)
   omega
theorem Hp {G1:List GO} {r:AV}:∀ {outs:List RF} {y:XT outs},KW G1 r outs=some y→(∀ f∈outs,f.under=true) →
  ∃ (f:RF) (z:uA f.l),f.under=true∧f.dec G1 r=some z∧∀ {α:Type} (G:List GO) (K:AV→List GO→α),Yd G K outs y=K (f.val G.length z) (G++iC f.l z)
 | [],_,h,_=>by cases h
 | [f],y,h,hu=>⟨f,y,hu f (by simp),h,fun _ _=>rfl⟩
 | f :: g :: l,y,h,hu=>by
  simp only [KW] at h
  cases hb:(f.A7 r&&KV f.l (f.args r)) with
  | true=>
   rw [hb] at h
   simp only [cond_true] at h
   cases hx:f.dec G1 r with
   | none=>rw [hx] at h; cases h
   | some x=>
    rw [hx] at h
    cases h
    exact ⟨f,x,hu f (by simp),hx,fun _ _=>rfl⟩
  | false=>
   rw [hb] at h
   simp only [cond_false] at h
   cases hx:KW G1 r (g :: l) with
   | none=>rw [hx] at h; cases h
   | some x=>
    rw [hx] at h
    cases h
    obtain ⟨f',z,k0,k1,k2⟩:=Hp hx (fun f hf=>hu f (List.mem_cons_of_mem _ hf))
    exact ⟨f',z,k0,k1,fun G K=>k2 G K⟩
theorem yQ.of {g:FuncId} {args:List AV} {outs:List RF} {Q:XT outs→Prop} (hc:aM 0 args=true) (hp:∀ f∈outs,f.under=true)
  (h:cB E g args [] (fun r G'=>∃ y,KW G' r outs=some y∧Q y)):yQ E g args outs Q:=fun G=>by
 refine ⟨h.1,fun R w cs hg hl=>?_⟩
 let R0:an:=⟨R.I,[]⟩
 have m0:Mv R R0 0:=⟨fun _ _ h=>h,fun _ _ h=>absurd h (Nat.not_lt_zero _)⟩
 have N7:dQ E R0 w []:=⟨rfl,fun id go ro h1 _=>by simp [nth] at h1,fun i j ri rj b h1=>by simp [R0,nth] at h1,hg.wf,fun g cs rO=>(hg.cm g cs rO).move m0 (cz _ (E.oV g cs rO)),hg.lo⟩
 have xD:aQ R0 w args cs:=hl.move m0 hc
 refine (h.2 R0 w cs N7 xD).mono fun e w' he=>?_
 cases e with
 | panicked c=>exact he.elim
 | outgrown=>exact he.elim
 | returned c=>
  obtain ⟨r,G',R1,⟨y,hy,hQ⟩,fb,OX,st⟩:=he
  obtain ⟨f,z,hf,hz,jc⟩:=Hp hy hp
  obtain ⟨R2,k1,k2,k3⟩:=yQ.of1 hf hg st OX fb hz
  refine ⟨_,_,R2,⟨y,hQ,?_⟩,k1,k2,k3⟩
  rw [jc]
  exact ⟨rfl,rfl⟩
end
end Go.Am
namespace Go.Am
open Go
structure aS where
 ps:aT
 p:aR
 T:ps.T→Option p.T
def ak (E:Env) (g:FuncId) (e:aS):Prop:=∀ x y,e.T x=some y→a7 E g (e.ps.enc x) (fun r=>r=e.p.enc y)
inductive XK
 | norm
 | ret
 | ex (id:Nat)
def XK.is:XK→Exit→Bool
 | .norm,.normal=>true
 | .ret,.ret=>true
 | .ex i,.exit j=>Nat.beq i j
 | _,_=>false
def XK.exit:XK→Exit
 | .norm=>.normal
 | .ret=>.ret
 | .ex i=>.exit i
theorem XK.Hi {k:XK} {e:Exit} (h:k.is e=true):e=k.exit:=by
 cases k <;> cases e <;> simp_all [XK.is,XK.exit]
def JT:List (XK × cO)→Type
 | []=>Empty
 | [x]=>x.2.ps.T
 | x :: y :: l=>x.2.ps.T ⊕ JT (y :: l)
def lV (s:St):(outs:List (XK × cO))→Exit→St→Option (JT outs)
 | [],_,_=>none
 | [x],e,s'=>bif x.1.is e then x.2.dec s s' else none
 | x :: y :: l,e,s'=>bif x.1.is e then (x.2.dec s s').bind fun v=>some (.inl v) else (lV s (y :: l) e s').bind fun o=>some (.inr o)
def Og {α:Type} (s:St):(outs:List (XK × cO))→JT outs→(Exit→St→α)→α
 | [],o,_=>Empty.rec (fun _=>α) o
 | [x],o,K=>K x.1.exit (x.2.st s o)
 | x :: y :: l,o,K=>Sum.elim (fun v=>K x.1.exit (x.2.st s v)) (fun o=>Og s (y :: l) o K) o
inductive cE
 | loop (gh:List (Loc × Nat × TypeId)) (head:cO) (outs:List (XK × cO))
 | join (outs:List (XK × cO))
 | rot (k:List Bool) (gh:List (Loc × Nat × TypeId)) (head:cO) (outs:List (XK × cO))
 | Tw (n:Nat) (a b:cE)
 | nq (gh:List (Loc × Nat × TypeId)) (head:cO) (outs:List (XK × cO))
def KY (n:Nat):cE→cE
 | .Tw m a b=>bif Nat.beq n m then KY n a else KY n b
 | c=>c
def aL {V X:Type} (rd:V→Option (V ⊕ X)):Nat→V→Option X
 | 0,_=>none
 | n+1,v=>(rd v).bind fun o=>Sum.elim (fun v'=>aL rd n v') (fun x=>some x) o
def nq {V X:Type} (rd:(V→Option X)→V→Option X):Nat→V→Option X
 | 0,_=>none
 | n+1,v=>rd (nq rd n) v
structure mI (E:Env) (g:FuncId) where
 f:List AV→List GO→Option (Bool × AV × List GO)
 ok:∀ args G r G',f args G=some (true,r,G')→cB E g args G (fun r' A6=>r'=r∧A6=G')
structure U9 (E:Env) (g:FuncId) where
 ps:aT
 outs:List RF
 T:ps.T→Option (XT outs)
 ok:∀ x y,T x=some y→yQ E g (ps.enc x) outs (fun z=>z=y)
structure fw where
 D:IL
 zS:FuncId→Option aS
 pP:FuncId→Nat→Option cE
 fz:Bool
 N:Nat
 gt:(g:FuncId)→Option (mI D.toEnv g):=fun _=>none
 xt:(g:FuncId)→Option (U9 D.toEnv g):=fun _=>none
def r7 {α:Type} (fz:Bool) (s:St) (K:St→α):α:=match fz with
 | true=>FU s K
 | false=>match s with
  | ⟨sl,bx,G,m,ro,n⟩=>K ⟨sl,bx,G,m,ro,n⟩
theorem du {α:Type} (fz:Bool) (s:St) (K:St→α):r7 fz s K=K s:=by
 cases fz
 ·rfl
 ·exact IM s K
abbrev pQ (X:Type):=FuncId→List AV→List GO→(AV→List GO→Option X)→Option X
abbrev mJ (X:Type):=Nat→List AV→List GO→(Bool→List GO→Option X)→Option X
section ev
variable {X:Type}
def Cd (E:Env) (s:St) (o:Oper):Option (Int × Nat × (Nat→Oper)):=match o.op with
 | .index t x (.tmp y)=>match bM E s.ae (.tmp y),E.ti t with
  | .v (.int k n),some i=>match i.k with
   | .arr len _ _=>some (n,len,fun j=>{ o with op:=.index t x (.const (.int k j)) })
   | _=>none
  | _,_=>none
 | .indexAddr t x (.tmp y)=>match bM E s.ae (.tmp y),E.ti t with
  | .v (.int k n),some i=>match i.k with
   | .arr len _ _=>match bM E s.ae x with
    | .v (.ep _)=>match E.Oo t with
     | some _=>none
     | none=>some (n,len,fun j=>{ o with op:=.indexAddr t x (.const (.int k j)) })
    | _=>some (n,len,fun j=>{ o with op:=.indexAddr t x (.const (.int k j)) })
   | _=>none
  | _,_=>none
 | _=>none
def wS (E:Env) (fz:Bool) (f:FuncId) (g:Nat→Oper) (n:Int) (K:St→Option X) (s:St):Nat→Nat→Option X
 | 0,_=>none
 | m+1,j=>bif decide (n=(j:Int)) then (match ap E f s (g j) with
   | some (c,s')=>bif c then r7 fz s' K else none
   | _=>none) else wS E fz f g n K s m (j+1)
def Va (E:Env) (fz:Bool) (call:pQ X) (mm:mJ X) (f:FuncId) (o:Oper) (K:St→Option X) (s:St):Option X:=
 match o.op with
 | .call { callee:=.value x,args,.. }=>match bM E s.ae x,mP E s.ae args.toList with
  | .v (.fn g first cap),some l=>call g (first++l++cap) s.G (fun r G'=>r7 fz ((s.cg G').put o.dst (.v r)) K)
  | .v (.yield id),some l=>mm id l s.G (fun b G'=>r7 fz ((s.cg G').put o.dst (.v (.bool b))) K)
  | _,_=>none
 | .defer _=>none
 | .next x true=>match KR s o.dst (bM E s.ae x) with
  | some (b,s1,s2)=>bif b then r7 fz s1 K else r7 fz s2 K
  | none=>none
 | .lookup t m k ok=>match wO E s t (bM E s.ae m) (bM E s.ae k) with
  | some (c,v,b)=>bif c then r7 fz (s.put o.dst (.v (if ok then .bp [v,.bool b] else v))) K else none
  | none=>match ap E f s o with
   | some (c,s')=>bif c then r7 fz s' K else none
   | _=>none
 | .mapUpdate t m k x=>match o.dst,wP E s t (bM E s.ae m) (bM E s.ae k) (bM E s.ae x) with
  | none,some (c,s')=>bif c then r7 fz s' K else none
  | _,_=>none
 | .insert t m k x=>match o.dst,wP E s t (bM E s.ae m) (bM E s.ae k) (bM E s.ae x) with
  | none,some (c,s')=>bif c then r7 fz s' K else none
  | _,_=>none
 | .call { callee:=.builtin .append,args,argTypes }=>match ib E f s o with
  | some (c,s')=>bif c then r7 fz s' K else none
  | none=>match mP E s.ae args.toList with
   | some l=>match B8 E s o.dst l argTypes.toList with
    | some (b,s1,c,s2)=>bif b then r7 fz s1 K else bif c then r7 fz s2 K else none
    | none=>match ap E f s o with
     | some (c,s')=>bif c then r7 fz s' K else none
     | _=>none
   | none=>none
 | .call { callee:=.builtin .copy,args,argTypes }=>match mP E s.ae args.toList with
  | some l=>match KT E s o.dst l argTypes.toList with
   | some (c,s')=>bif c then r7 fz s' K else none
   | none=>match ap E f s o with
    | some (c,s')=>bif c then r7 fz s' K else none
    | _=>none
  | none=>none
 | _=>match Cd E s o with
  | some (n,len,g)=>wS E fz f g n K s len 0
  | none=>match ap E f s o with
   | some (c,s')=>bif c then r7 fz s' K else none
   | _=>none
def pR (E:Env) (fz:Bool) (call:pQ X) (mm:mJ X) (f:FuncId) (ops:List Oper) (o:Oper) (K:St→Option X) (s:St):Option X:=
 match o.guard with
 | none=>Va E fz call mm f o K s
 | some (j,want)=>match pA ops j with
  | none=>none
  | some d=>match lk s.ae d with
   | .v (.bool b)=>match want with
    | true=>bif b then r7 fz (s.put (some d) (.v (.bool true))) (Va E fz call mm f o K) else r7 fz ((s.put (some d) (.v (.bool false))).put o.dst (.v gw)) K
    | false=>bif b then r7 fz ((s.put (some d) (.v (.bool true))).put o.dst (.v gw)) K else r7 fz (s.put (some d) (.v (.bool false))) (Va E fz call mm f o K)
   | .v (.bp [])=>r7 fz (s.put o.dst (.v gw)) K
   | _=>none
def Ce (E:Env) (fz:Bool) (call:pQ X) (mm:mJ X) (f:FuncId) (ops:List Oper) (o:Oper) (K:St→Option X) (s:St):Option X:=
 match o.guard,jS E f s o with
 | none,some s'=>r7 fz s' K
 | _,_=>pR E fz call mm f ops o K s
noncomputable def OZ {X:Type} (l:List Nat) (F:Nat→Option X):Option X:=match l with
 | []=>none
 | i :: r=>@ite _ (∀ j∈r,F j=F i) (Classical.propDecidable _) (F i) none
theorem IU {X:Type} {l:List Nat} {F:Nat→Option X} {x:X} (h:OZ l F=some x):∀ i∈l,F i=some x:=by
 cases l with
 | nil=>cases h
 | cons i r=>
  have h:@ite _ (∀ j∈r,F j=F i) (Classical.propDecidable _) (F i) none=some x:=h
  by_cases hr:∀ j∈r,F j=F i
  ·rw [if_pos hr] at h
   intro j hj
   rcases List.mem_cons.1 hj with rfl | hj
   ·exact h
   ·rw [hr j hj]; exact h
  ·rw [if_neg hr] at h
   cases h
theorem O0 {X:Type} {l:List Nat} {F:Nat→Option X} {x:X} (hl:l≠[]) (h:∀ i∈l,F i=some x):OZ l F=some x:=by
 cases l with
 | nil=>exact absurd rfl hl
 | cons i r=>
  show @ite _ (∀ j∈r,F j=F i) (Classical.propDecidable _) (F i) none=some x
  have hr:∀ j∈r,F j=F i:=fun j hj=>by rw [h j (List.mem_cons_of_mem _ hj),h i List.mem_cons_self]
  rw [if_pos hr]
  exact h i List.mem_cons_self
noncomputable def wT (E:Env) (fz:Bool) (call:pQ X) (mm:mJ X) (f:FuncId) (ops:List Oper) (o:Oper) (K:St→Option X) (s:St):Option X:=
 match o.guard,vk E f s o,tW E s o with
 | none,some (c,s'),_=>bif c then r7 fz s' K else none
 | none,none,some (c,s0,left,g)=>bif c then (bif left.isEmpty then r7 fz s0 K else OZ left fun i=>bif (g i).1 then r7 fz (g i).2 K else none) else none
 | _,_,_=>Ce E fz call mm f ops o K s
noncomputable def Cf (E:Env) (fz:Bool) (call:pQ X) (mm:mJ X) (f:FuncId) (ops:List Oper) (o:Oper) (K:St→Option X) (s:St):Option X:=
 match H9 E f s o with
 | some (c,s')=>bif c then wT E fz call mm f ops o K s' else none
 | none=>wT E fz call mm f ops o K s
noncomputable def O1 (E:Env) (fz:Bool) (call:pQ X) (mm:mJ X) (f:FuncId) (ops:List Oper):List Oper→(St→Option X)→St→Option X
 | [],K,s=>K s
 | o :: rest,K,s=>Cf E fz call mm f ops o (fun s'=>match AR E f o s' with
  | some s2=>O1 E fz call mm f ops rest K s2
  | none=>none) s
def Vb (E:Env) (f:FuncId) (ops:List Oper) (o:Oper) (s:St):Bool:=match o.op,o.dst with
 | .lookup t m k ok,some d=>match CB ops s o,wO E s t (bM E s.ae m) (bM E s.ae k) with
  | some true,some (c,v,b)=>c&&B0 (.v (if ok then .bp [v,.bool b] else v)) (lk s.ae d)
  | _,_=>bRe E f ops o s
 | _,_=>bRe E f ops o s
def qA (E:Env) (f:FuncId) (ops:List Oper):List Nat→St→Bool
 | [],_=>true
 | k :: l,s=>(match nth ops k with
  | some ok=>Vb E f ops ok s
  | none=>true)&&qA E f ops l s
def oT (E:Env) (fz:Bool) (call:pQ X) (mm:mJ X) (fO:Option X→Option X→Option X) (f:FuncId) (ops:List Oper):DT→(St→Option X)→St→Option X
 | .done,K,s=>K s
 | .take j _ t,K,s=>match nth ops j with
  | some oj=>pR E fz call mm f ops oj (oT E fz call mm fO f ops t K) s
  | none=>none
 | .br i re _ t .stop,K,s=>match nth ops i with
  | some oi=>pR E fz call mm f ops oi (fun s'=>bif qA E f ops re s' then oT E fz call mm fO f ops t K s' else none) s
  | none=>none
 | .br i re _ t more,K,s=>fO (match nth ops i with
  | some oi=>pR E fz call mm f ops oi (fun s'=>bif qA E f ops re s' then oT E fz call mm fO f ops t K s' else none) s
  | none=>none) (oT E fz call mm fO f ops more K s)
 | .stop,_,_=>none
 | .al j W t,K,s=>match nth ops j with
  | some oj=>bif US E f oj W s then pR E fz call mm f ops oj (oT E fz call mm fO f ops t K) s else none
  | none=>none
end ev
def A8 {X:Type} (N:St→Option X) (Q:Exit→St→Option X):Exit→St→Option X
 | .normal,s=>N s
 | e,s=>Q e s
def KZ {X:Type} (id:Nat) (Q:Exit→St→Option X):Exit→St→Option X
 | .exit kf,s=>bif Nat.beq kf id then Q .normal s else Q (.exit kf) s
 | e,s=>Q e s
def Vc {X:Type} (Q:Exit→St→Option X):Exit→St→Option X
 | .goto _,_=>none
 | e,s=>Q e s
def K0 {X:Type} (E:Env) (fn:Func) (K:AV→List GO→Option X):Exit→St→Option X
 | .normal,s | .ret,s=>match pD s.marks s.G with
  | some G=>match Kv E (s.cg G) fn with
   | some r=>K r G
   | none=>none
  | none=>none
 | _,_=>none
def vI (s:St) (head:cO) (outs:List (XK × cO)):Exit→St→Option (head.ps.T ⊕ JT outs)
 | .normal,s'=>(head.dec s s').bind fun v=>some (.inl v)
 | e,s'=>(lV s outs e s').bind fun o=>some (.inr o)
noncomputable def CC {X:Type} (a b:Option X):Option X:=@ite _ (a=b) (Classical.propDecidable _) a none
def vJ {X:Type} (fO:Option X→Option X→Option X):Prop:=∀ a b x,fO a b=some x→a=some x∧b=some x
def F6 {X:Type} (id:Nat) (K:Bool→List GO→Option X):Exit→St→Option X:=fun e s=>match nth s.G id with
 | some (.loop _ _ fn sl n ps sX bd d _)=>match e with
  | .normal=>K true (aF s.G id (.loop false none fn sl n ps sX bd d false))
  | .ret=>K false (aF s.G id (.loop false (some .ret) fn sl n ps sX bd d true))
  | .exit i=>K false (aF s.G id (.loop false (some (.exit i)) fn sl n ps sX bd d true))
  | _=>none
 | _=>none
def fpF (fp:Nat):Nat:=fp % 4096
def fpP (fp:Nat):Nat:=fp / 4096
abbrev Ye:=FuncId→Nat→Code→(X:Type)→(Option X→Option X→Option X)→(Exit→St→Option X)→St→Option X
section
variable (C:fw) (ih:Ye)
def DE {X:Type} (fO:Option X→Option X→Option X):pQ X:=fun g args G K=>
 bif C.D.okF g then match C.D.P.funcs[g]? with
   | some fn=>match fn.body with
    | some b => bif !(fn.name == "runtime.NumGoroutine") then ih g 1 b X fO (K0 C.D.toEnv fn (bif C.D.zU g 131072 then U5 C.D.toEnv (C.D.zU g 131073) (C.D.zU g 131074) fn.resultTypes.toList K else K)) (St.init fn.ntmps args G) else none
    | none=>none
   | none=>none
  else none
def DF {X:Type} (fO:Option X→Option X→Option X):pQ X:=fun g args G K=>
 match C.zS g with
 | some e=>(e.ps.dec args).bind fun x=>(e.T x).bind fun y=>K (e.p.enc y) G
 | none=>match C.gt g with
  | some e=>match e.f args G with
   | some (c,r,G')=>bif c then K r G' else none
   | none=>none
  | none=>match C.xt g with
   | some e=>(e.ps.dec args).bind fun x=>(e.T x).bind fun o=>Yd G K e.outs o
   | none=>DE C ih fO g args G K
def O2 (n:Nat):List Tmp→Bool
 | []=>true
 | t :: l=>Nat.blt t n&&O2 n l
def O3 {X:Type} (fO:Option X→Option X→Option X):mJ X:=fun id args G K=>match nth G id with
 | some (.loop false _ fp sl n ps sX bd _ false)=>
  bif Nat.beq args.length ps.length&&O2 n ps&&bL (C.D.dt (fpF fp)) sX&&bL (C.D.dt (fpF fp)) bd then
   ih (fpF fp) (2 * fpP fp) sX X fO (fun e s1=>match e with
    | .normal=>match nth s1.G id with
     | some (.loop false p fn sl n ps sX Yb d false)=>ih (fpF fp) (2 * fpP fp+1) bd X fO (F6 id K) (s1.cg (aF s1.G id (.loop true p fn sl n ps sX Yb d false)))
     | _=>none
    | _=>none) (St.round id (yL ps args sl) n G)
  else none
 | _=>none
noncomputable def yU (f:FuncId) (p:Nat) (c:Code) (X:Type) (fO:Option X→Option X→Option X) (K:Exit→St→Option X) (s:St):Option X:=
 match c with
 | .skip=>K .normal s
 | .label _=>K .normal s
 | .seq x y=>ih f (2 * p) x X fO (A8 (ih f (2 * p+1) y X fO K) K) s
 | .cond c x y=>match bM C.D.toEnv s.ae c with
  | .v (.bool b)=>bif b then ih f (2 * p) x X fO K s else ih f (2 * p+1) y X fO K s
  | _=>none
 | .block id c=>ih f (2 * p) c X fO (KZ id K) s
 | .exit id=>K (.exit id) s
 | .ret=>K .ret s
 | .region _ ops false=>O1 C.D.toEnv C.fz (DF C ih fO) (O3 C ih fO) f ops.toList ops.toList (K .normal) s
 | .region id ops true=>match C.D.dt f id with
  | some pl=>oT C.D.toEnv C.fz (DF C ih fO) (O3 C ih fO) fO f ops.toList pl.T (K .normal) s
  | none=>none
 | .scope c=>ih f (2 * p) c X fO (Vc K) s
 | .loop c=>ih f (2 * p) c X fO (A8 (ih f p (.loop c) X fO K) K) s
 | .rangeFunc g ps sX bd=>match s.ro with
  | none=>match bM C.D.toEnv s.ae g with
   | .v (.fn h first cap)=>DF C ih fO h (first++[.yield (s.G.length+1)]++cap) (s.G++[.defers true]++[.loop false none (4096 * p+f) (iJ s.ae) s.n ps.toList sX bd s.G.length false])
    (fun _ G'=>match nth G' (s.G.length+1) with
     | some (.loop busy pending _ _ _ _ _ _ _ done)=>bif !busy || done then
       match pending with
       | none=>r7 C.fz ⟨s.ae,s.boxes,aF G' (s.G.length+1) .dead,s.G.length :: s.marks,s.ro,s.n⟩ (K .normal)
       | some .ret=>r7 C.fz ⟨s.ae,s.boxes,aF G' (s.G.length+1) .dead,s.G.length :: s.marks,s.ro,s.n⟩ (K .ret)
       | some (.exit i)=>r7 C.fz ⟨s.ae,s.boxes,aF G' (s.G.length+1) .dead,s.G.length :: s.marks,s.ro,s.n⟩ (K (.exit i))
       | _=>none
      else none
     | _=>none)
   | _=>none
  | some _=>none
 | _=>none
def F7:List Oper→List Tmp
 | []=>[]
 | o :: l=>match o.dst with
  | some d=>d :: F7 l
  | none=>F7 l
def lA:Code→List Tmp→List Tmp
 | .region _ ops _,r=>F7 ops.toList++r
 | .seq x y,r=>lA x (lA y r)
 | .cond _ x y,r=>lA x (lA y r)
 | .block _ c,r=>lA c r
 | .scope c,r=>lA c r
 | .loop c,r=>lA c r
 | .rangeFunc _ ps a b,r=>ps.toList++lA a (lA b r)
 | _,r=>r
def yV (W:List Tmp) (t:cO):cO:=⟨t.ps,t.sl,W,t.bx,t.g,t.X9⟩
def tg (W:List Tmp):List (XK × cO)→List (XK × cO)
 | []=>[]
 | (k,t) :: l=>(k,yV W t) :: tg W l
def K1:Code→Bool
 | .loop _=>true
 | _=>false
noncomputable def ZC {X:Type} (f:FuncId) (p:Nat) (c:Code) (outs:List (XK × cO)) (K:Exit→St→Option X) (s:St):Option X:=
 (yU C ih f p c (JT outs) CC (lV s outs) s).bind fun o=>Og s outs o K
noncomputable def Tx {X:Type} (f:FuncId) (p:Nat) (b:Code) (s1:St) (head:cO) (outs:List (XK × cO)) (K:Exit→St→Option X):Option X:=
 (head.dec s1 s1).bind fun v0=>(aL (fun v=>ih f (2 * p) b (head.ps.T ⊕ JT outs) CC (vI s1 head outs) (head.st s1 v)) C.N v0).bind fun o=>Og s1 outs o K
def K3 (s:St) (head:cO) (outs:List (XK × cO)) (k:head.ps.T→Option (JT outs)):Exit→St→Option (JT outs)
 | .normal,s'=>(head.dec s s').bind k
 | e,s'=>lV s outs e s'
noncomputable def K4 {X:Type} (f:FuncId) (p:Nat) (b:Code) (s1:St) (head:cO) (outs:List (XK × cO)) (K:Exit→St→Option X):Option X:=
 (head.dec s1 s1).bind fun v0=>(nq (fun k v=>ih f (2 * p) b (JT outs) CC (K3 s1 head outs k) (head.st s1 v)) C.N v0).bind fun o=>Og s1 outs o K
def K5 {X:Type} (fO:Option X→Option X→Option X) (f:FuncId) (K:Exit→St→Option X):List Bool→Nat→Code→St→Option X
 | [],_,_,s=>K .normal s
 | true :: k,q,.seq x y,s=>ih f (2 * q) x X fO (A8 (K5 fO f K k (2 * q+1) y) K) s
 | false :: k,q,.seq x _,s=>K5 fO f K k (2 * q) x s
 | _ :: _,_,_,_=>none
def O4 {X:Type} (fO:Option X→Option X→Option X) (f:FuncId):List Bool→Nat→Code→(Exit→St→Option X)→St→Option X
 | [],q,c,K,s=>ih f q c X fO K s
 | true :: k,q,.seq _ y,K,s=>O4 fO f k (2 * q+1) y K s
 | false :: k,q,.seq x y,K,s=>O4 fO f k (2 * q) x (A8 (ih f (2 * q+1) y X fO K) K) s
 | _ :: _,_,_,_,_=>none
noncomputable def ZD {X:Type} (f:FuncId) (p:Nat) (b:Code) (k:List Bool) (s1:St) (head:cO) (outs:List (XK × cO)) (K:Exit→St→Option X):Option X:=
 ((K5 ih CC f (vI s1 head outs) k (2 * p) b s1).bind fun r0=>
  Sum.elim (fun v0=>aL (fun v=>O4 ih CC f k (2 * p) b (A8 (K5 ih CC f (vI s1 head outs) k (2 * p) b) (vI s1 head outs)) (head.st s1 v)) C.N v0) (fun x=>some x) r0).bind fun o=>Og s1 outs o K
noncomputable def yW (f:FuncId) (p:Nat) (c:Code) (X:Type) (fO:Option X→Option X→Option X) (K:Exit→St→Option X) (s:St):Option X:=
 match C.pP f p with
 | none=>yU C ih f p c X fO K s
 | some ct=>match KY s.G.length ct with
  | .join outs=>bif K1 c then none else ZC C ih f p c (tg (lA c []) outs) K s
  | .loop gh head outs=>match c with
   | .loop b=>match iI gh s with
    | some s1=>Tx C ih f p b s1 (yV (lA b []) head) (tg (lA b []) outs) K
    | none=>none
   | _=>none
  | .rot k gh head outs=>match c with
   | .loop b=>match iI gh s with
    | some s1=>ZD C ih f p b k s1 (yV (lA b []) head) (tg (lA b []) outs) K
    | none=>none
   | _=>none
  | .nq gh head outs=>match c with
   | .loop b=>match iI gh s with
    | some s1=>K4 C ih f p b s1 (yV (lA b []) head) (tg (lA b []) outs) K
    | none=>none
   | _=>none
  | .Tw _ _ _=>none
end
noncomputable def ev (C:fw):Nat→Ye:=Nat.rec (fun _ _ _ _ _ _ _=>none) (fun _ ih=>yW C ih)
end Go.Am
namespace Go.Am
open Go
section ext
variable {E:Env} {f:FuncId} {s s':St} {o:Oper}
theorem aY.put (s:St) (d:Option Tmp) (x:SV):aY s (s.put d x):=by
 cases d with
 | none=>exact aY.refl s
 | some d=>
  simp only [St.put]
  split
  ·exact ⟨⟨[_],rfl⟩,⟨[],rfl⟩,rfl⟩
  ·exact aY.refl s
theorem aY.cg (s:St) (G:List GO):aY s (s.cg G):=⟨⟨[],rfl⟩,⟨[],rfl⟩,rfl⟩
theorem aY.eL (s:St) (o:GO):aY s (s.eL o):=⟨⟨[],rfl⟩,⟨[],rfl⟩,rfl⟩
theorem aY.vW (s:St) (d:Nat) (cs:List AV):aY s (s.vW d cs):=⟨⟨[],rfl⟩,⟨[_],rfl⟩,rfl⟩
theorem aY.kill (s:St) (d:Nat):aY s (s.kill d):=⟨⟨[_],rfl⟩,⟨[],rfl⟩,rfl⟩
theorem IV {c:Bool} {s':St} (h:ib E f s o=some (c,s')):aY s s':=by
 unfold ib at h
 repeat' (split at h)
 all_goals (first | (cases h; done) | skip)
 all_goals (injection h with h; injection h with _ h; subst h; exact (aY.cg _ _).trans (aY.put _ _ _))
theorem F8 {c:Bool} (h:ap E f s o=some (c,s')):aY s s':=by
 have alloc:∀ {el:TypeId} {cs:List AV} {c:Bool} {s':St},fM E f s o.dst el cs=some (c,s')→aY s s':=by
  intro el cs c s' h
  unfold fM at h
  repeat' (split at h)
  all_goals (first | (cases h; done) | skip)
  ·injection h with h; injection h with _ h; subst h; exact (aY.eL _ _).trans (aY.put _ _ _)
  ·injection h with h; injection h with _ h; subst h; exact ((aY.kill _ _).trans (aY.vW _ _ _)).trans (aY.put _ _ _)
 have store:∀ {t:TypeId} {p x:SV} {s':St},ki E s t p x=some s'→aY s s':=by
  intro t p x s' h
  unfold ki at h
  repeat' (split at h)
  all_goals (first | (cases h; done) | skip)
  all_goals (injection h with h; subst h)
  ·exact aY.vW _ _ _
  ·exact aY.cg _ _
 have Fz:∀ {t:TypeId} {p x:SV} {c:Bool} {s':St},kj E s t p x=some (c,s')→aY s s':=by
  intro t p x c s' h
  unfold kj at h
  repeat' (split at h)
  all_goals (first | (cases h; done) | skip)
  all_goals (injection h with h; injection h with _ h; subst h)
  all_goals (first | exact aY.cg _ _ | exact store (by assumption))
 have blt:∀ {b:Builtin} {l:List AV} {tys:List TypeId} {c:Bool} {s':St},bV E s o.dst b l tys=some (c,s')→aY s s':=by
  intro b l tys c s' h
  unfold bV at h
  repeat' (split at h)
  all_goals (first | (cases h; done) | skip)
  all_goals (injection h with h; injection h with _ h; subst h)
  all_goals (first | exact aY.put _ _ _ | exact (aY.cg _ _).trans (aY.put _ _ _) | exact aY.cg _ _)
 have update:∀ {t:TypeId} {m k x:SV} {s':St},fN E s t m k x=some s'→aY s s':=by
  intro t m k x s' h
  unfold fN at h
  repeat' (split at h)
  all_goals (first | (cases h; done) | skip)
  all_goals (injection h with h; subst h; exact aY.cg _ _)
 have next:∀ {x:SV} {s':St},me s o.dst x=some s'→aY s s':=by
  intro x s' h
  unfold me at h
  split at h
  ·split at h
   ·rename_i l pos hg
    cases hb:Nat.blt pos l.length <;> rw [hb] at h <;> simp only [cond_true,cond_false] at h <;> cases h
    ·exact aY.put _ _ _
    ·exact (aY.cg _ _).trans (aY.put _ _ _)
   ·cases h
  ·cases h
 have FA:∀ {t:TypeId} {m k:SV} {c:Bool} {v:AV} {s':St},gP E s t m k=some (c,v,s')→aY s s':=by
  intro t m k c v s' h
  unfold gP at h
  repeat' (split at h)
  all_goals (first | (cases h; done) | skip)
  all_goals (injection h with h; injection h with _ h; injection h with _ h; subst h; exact aY.cg _ _)
 have FB:∀ {m st x:SV} {c:Bool} {s':St},fe s m st x=some (c,s')→aY s s':=by
  intro m st x c s' h
  unfold fe at h
  repeat' (split at h)
  all_goals (first | (cases h; done) | skip)
  all_goals (injection h with h; injection h with _ h; subst h; exact aY.cg _ _)
 unfold ap at h
 repeat' (split at h)
 all_goals (first | (cases h; done) | exact alloc h | exact blt h | (rename_i hf; cases h; exact IV hf) | skip)
 all_goals (injection h with h; injection h with _ h; subst h)
 all_goals (first | exact aY.put _ _ _ | exact (aY.eL _ _).trans (aY.put _ _ _) | skip)
 all_goals (first | exact Fz (by assumption) | exact update (by assumption) | exact (FA (by assumption)).trans (aY.put _ _ _) | exact FB (by assumption) | exact next (by assumption))
theorem cB.ia {g:FuncId} {args Ty:List AV} {G:List GO} {Q:AV→List GO→Prop} (hw:cQ args Ty) (h:cB E g Ty G Q):cB E g args G Q:=
 ⟨h.1,fun R w cs hg hl=>h.2 R w cs hg (hw.rel hl)⟩
theorem DG {K:St→Prop} (h:kH E f o K s):kH E f o (fun s'=>K s'∧aY s s') s:=by
 unfold kH at *
 split
 ·rename_i x args tys ho
  rw [ho] at h
  simp only at h
  split at h
  ·exact h.mono fun r G' hk=>⟨hk,(aY.cg _ _).trans (aY.put _ _ _)⟩
  ·exact h.mono fun r G' hk=>⟨hk,(aY.cg _ _).trans (aY.put _ _ _)⟩
  ·exact h
 ·rename_i ho
  rw [ho] at h
  exact h
 ·rename_i nc nd
  split at h
  ·rename_i ho
   exact absurd ho (nc _ _ _)
  ·exact h.elim
  ·split at h
   ·rename_i c s' hs
    obtain ⟨hc,hk⟩:=h.out
    exact dV.mk hc ⟨hk,F8 hs⟩
   ·exact h.elim
theorem mn {K:St→Prop} {ops:List Oper} (h:cp E f ops o K s):cp E f ops o (fun s'=>K s'∧aY s s') s:=by
 unfold cp at *
 split
 ·rename_i hg
  rw [hg] at h
  exact DG h
 ·rename_i j want hg
  rw [hg] at h
  simp only at h
  split
  ·rename_i hd
   rw [hd] at h
   exact h
  ·rename_i d hd
   rw [hd] at h
   simp only at h
   split
   ·rename_i b hb
    rw [hb] at h
    simp only at h
    refine ⟨fun e=>?_,fun e=>⟨h.2 e,(aY.put _ _ _).trans (aY.put _ _ _)⟩⟩
    exact uw (DG (h.1 e)) fun s' hh=>⟨hh.1,(aY.put _ _ _).trans hh.2⟩
   ·rename_i hb
    rw [hb] at h
    exact ⟨h,aY.put _ _ _⟩
   ·rename_i hb jB
    split at h
    ·rename_i b AX
     exact absurd AX (hb b)
    ·rename_i AX
     exact absurd AX jB
    ·exact h
theorem Ai {K K':St→Prop} {ops:List Oper} (h:gF E f ops o K s) (hK:∀ s,K s→K' s):gF E f ops o K' s:=by
 unfold gF at *
 split
 ·rename_i s' h1 h2
  rw [h1,h2] at h
  exact hK _ h
 ·rename_i hn
  split at h
  ·rename_i s' h1 h2
   exact absurd h2 (hn s' h1)
  ·exact cq h hK
theorem wv {s':St} (h:jS E f s o=some s'):aY s s':=by
 unfold jS at h
 repeat' (split at h)
 all_goals (first | (cases h; done) | skip)
 all_goals (injection h with h; subst h; exact (aY.eL _ _).trans (aY.put _ _ _))
theorem Cg {K:St→Prop} {ops:List Oper} (h:gF E f ops o K s):gF E f ops o (fun s'=>K s'∧aY s s') s:=by
 unfold gF at *
 split
 ·rename_i s' h1 h2
  rw [h1,h2] at h
  exact ⟨h,wv h2⟩
 ·rename_i hn
  split at h
  ·rename_i s' h1 h2
   exact absurd h2 (hn s' h1)
  ·exact mn h
theorem mK {K K':St→Prop} {ops:List Oper} (h:fT E f ops o K s) (hK:∀ s,K s→K' s):fT E f ops o K' s:=by
 unfold fT at *
 split at h
 ·obtain ⟨h1,h2⟩:=h.out
  exact dV.mk h1 (hK _ h2)
 ·obtain ⟨h1,h2,h3⟩:=h.out
  exact dV.mk h1 ⟨fun e=>hK _ (h2 e),fun i hi=>let ⟨k1,k2⟩:=(h3 i hi).out; dV.mk k1 (hK _ k2)⟩
 ·exact Ai h hK
theorem IW {c:Bool} {s':St} (h:vk E f s o=some (c,s')):aY s s':=by
 unfold vk at h
 repeat' (split at h)
 all_goals (first | (cases h; done) | skip)
 all_goals (injection h with h; injection h with _ h; subst h; exact (aY.cg _ _).trans (aY.put _ _ _))
theorem F9 {c:Bool} {s0:St} {left:List Nat} {g:Nat→Bool × St} (h:tW E s o=some (c,s0,left,g)):aY s s0∧∀ i,aY s (g i).2:=by
 unfold tW at h
 split at h
 ·unfold Av at h
  split at h
  ·split at h
   ·split at h
    ·cases h
     exact ⟨aY.put _ _ _,fun i=>(aY.cg _ _).trans (aY.put _ _ _)⟩
    ·cases h
   ·cases h
  ·cases h
 ·cases h
theorem th {K:St→Prop} {ops:List Oper} (h:fT E f ops o K s):fT E f ops o (fun s'=>K s'∧aY s s') s:=by
 unfold fT at *
 split at h
 ·rename_i hb
  obtain ⟨h1,h2⟩:=h.out
  exact dV.mk h1 ⟨h2,IW hb⟩
 ·rename_i hb
  obtain ⟨h1,h2,h3⟩:=h.out
  obtain ⟨k1,k2⟩:=F9 hb
  exact dV.mk h1 ⟨fun e=>⟨h2 e,k1⟩,fun i hi=>let ⟨q1,q2⟩:=(h3 i hi).out; dV.mk q1 ⟨q2,k2 i⟩⟩
 ·exact Cg h
theorem mL {K K':St→Prop} {ops:List Oper} (h:fU E f ops o K s) (hK:∀ s,K s→K' s):fU E f ops o K' s:=by
 unfold fU at *
 split at h
 ·exact ⟨h.1,mK h.2 hK⟩
 ·exact mK h hK
theorem iV {cut wk:Bool}:∀ {l:List Operand} {s s':St} {c:Bool},iy cut wk l s=(c,s')→aY s s'
 | [],s,s',c,h=>by
  simp only [iy] at h
  cases h
  exact aY.refl _
 | .tmp t :: l,s,s',c,h=>by
  unfold iy at h
  split at h
  ·rename_i c1 s1 h1
   cases h2:iy cut wk l s1 with
   | mk c2 s2=>
   rw [h2] at h
   simp only [Prod.mk.injEq] at h
   obtain ⟨_,rfl⟩:=h
   exact (py h1).trans (iV h2)
  ·exact iV h
 | .const _ :: l,s,s',c,h=>iV (l:=l) h
 | .global _ :: l,s,s',c,h=>iV (l:=l) h
 | .func _ :: l,s,s',c,h=>iV (l:=l) h
theorem K6 {s s':St} {o:Oper} {c:Bool} (h:H9 E f s o=some (c,s')):aY s s':=by
 unfold H9 at h
 split at h
 ·split at h
  ·injection h with h
   exact iV h
  ·cases h
 ·cases h
theorem Ch {K:St→Prop} {ops:List Oper} (h:fU E f ops o K s):fU E f ops o (fun s'=>K s'∧aY s s') s:=by
 unfold fU at *
 split at h
 ·rename_i c s' hz
  exact ⟨h.1,mK (th h.2) fun s2 h2=>⟨h2.1,(K6 hz).trans h2.2⟩⟩
 ·exact th h
theorem yX {s s':St} {l:Loc} {sz:Nat} {e:TypeId} (h:pw s l sz e=some s'):aY s s':=by
 unfold pw at h
 cases Fx:Nat.ble 196608 sz with
 | true=>rw [Fx] at h; cases h; exact aY.eL _ _
 | false=>
 rw [Fx] at h
 cases l with
 | slot t=>
  simp only at h
  split at h
  ·cases h; exact ⟨⟨[_],rfl⟩,⟨[],rfl⟩,rfl⟩
  ·cases h
 | box k i=>
  simp only at h
  split at h
  ·split at h
   ·cases h; exact ⟨⟨[],rfl⟩,⟨[_],rfl⟩,rfl⟩
   ·cases h
  ·cases h
 | row id i=>
  simp only at h
  split at h
  ·split at h
   ·cases h; exact ⟨⟨[],rfl⟩,⟨[],rfl⟩,rfl⟩
   ·cases h
  ·cases h
theorem oh:∀ {l:List (Loc × Nat × TypeId)} {s s':St},iI l s=some s'→aY s s'
 | [],s,s',h=>by
  simp only [iI] at h
  cases h
  exact aY.refl _
 | (l,sz,e) :: r,s,s',h=>by
  unfold iI at h
  split at h
  ·rename_i s1 h1
   exact (yX h1).trans (oh h)
  ·cases h
theorem pS:∀ {l:List (Loc × Nat × TypeId)} {s:St},aY s (jP l s)
 | [],s=>aY.refl _
 | (l,sz,e) :: r,s=>by
  unfold jP
  split
  ·rename_i s1 h1
   exact (yX h1).trans pS
  ·exact pS
theorem IX {s s':St} {o:Oper} (h:AR E f o s=some s'):aY s s':=by
 unfold AR at h
 split at h
 ·cases h; exact aY.refl _
 ·split at h
  ·split at h
   ·rename_i hz
    cases h
    exact py hz
   ·cases h
  ·split at h
   ·cases h; exact aY.refl _
   ·split at h
    ·cases h; exact pS
    ·cases h
theorem yY {K K':St→Prop} {ops:List Oper} (hK:∀ s,K s→K' s):∀ {l:List Oper} {s:St},pC E f ops l K s→pC E f ops l K' s
 | [],s,h=>hK s h
 | _ :: _,_,h=>mL h fun s' h'=>by
  unfold AT at *
  split at h'
  ·exact yY hK h'
  ·exact h'.elim
theorem yZ {K K':St→Prop} {ops:List Oper} (hK:∀ s,K s→K' s) {T:DT} {s:St} (h:tR E f ops T K s):tR E f ops T K' s:=
 fZ (ops:=⟨ops⟩) hK T s h
theorem A9 {K:St→Prop} {ops:List Oper}:∀ {l:List Oper} {s:St},pC E f ops l K s→pC E f ops l (fun s'=>K s'∧aY s s') s
 | [],s,h=>⟨h,aY.refl s⟩
 | o :: l,s,h=>by
  simp only [pC] at *
  refine mL (Ch h) fun s' hh=>?_
  obtain ⟨h1,h2⟩:=hh
  unfold AT at *
  split at h1
  ·rename_i s2 hp
   exact yY (fun s3 h3=>⟨h3.1,(h2.trans (IX hp)).trans h3.2⟩) (A9 h1)
  ·exact h1.elim
theorem tj {K:St→Prop} {ops:List Oper}:∀ {T:DT} {s:St},tR E f ops T K s→tR E f ops T (fun s'=>K s'∧aY s s') s
 | .done,s,h=>⟨h,aY.refl s⟩
 | .stop,_,_=>trivial
 | .take j C T,s,h=>by
  unfold tR at h ⊢
  split
  ·rename_i oj hj
   rw [hj] at h
   exact cq (mn h) fun s' hh=>yZ (fun s2 h2=>⟨h2.1,hh.2.trans h2.2⟩) (tj hh.1)
  ·rename_i hj
   rw [hj] at h
   exact h
 | .al j W T,s,h=>by
  unfold tR at h ⊢
  split
  ·rename_i oj hj
   rw [hj] at h
   exact ⟨h.1,cq (mn h.2) fun s' hh=>yZ (fun s2 h2=>⟨h2.1,hh.2.trans h2.2⟩) (tj hh.1)⟩
  ·rename_i hj
   rw [hj] at h
   exact h
 | .br i re C T more,s,h=>by
  unfold tR at h ⊢
  refine ⟨?_,tj h.2⟩
  have h:=h.1
  split
  ·rename_i oj hj
   rw [hj] at h
   exact cq (mn h) fun s' hh=>⟨hh.1.1,yZ (fun s2 h2=>⟨h2.1,hh.2.trans h2.2⟩) (tj hh.1.2)⟩
  ·rename_i hj
   rw [hj] at h
   exact h
end ext
def mM (E:Env) (c:Code) (Q:Exit→St→Prop) (s:St):Prop:=gE E c (fun e s'=>Q e s'∧aY s s') s
section sound
variable {E:Env} {f:FuncId} {s:St} {X:Type} {fz:Bool} {call:pQ X} {mm:mJ X} {fO:Option X→Option X→Option X} {x:X}
def ol (E:Env) (call:pQ X):Prop:=∀ g args G K x,call g args G K=some x→cB E g args G (fun r G'=>K r G'=some x)
def vK (E:Env) (mm:mJ X):Prop:=∀ id args G K x,mm id args G K=some x→li E id args G (fun b G'=>K b G'=some x)
theorem bq {α:Type} {c:Bool} {a:Option α} {x:α} (h:(bif c then a else none)=some x):c=true∧a=some x:=by
 cases c
 ·cases h
 ·exact ⟨rfl,h⟩
theorem bind_some {α β:Type} {a:Option α} {k:α→Option β} {x:β} (h:a.bind k=some x):∃ y,a=some y∧k y=some x:=by
 cases a with
 | none=>cases h
 | some y=>exact ⟨y,rfl,h⟩
theorem IY {o:Oper} {n:Int} {len:Nat} {g:Nat→Oper} (h:Cd E s o=some (n,len,g)) {j:Nat} (hj:n=(j:Int)):ap E f s (g j)=ap E f s o:=by
 subst hj
 unfold Cd at h
 have EE:∀ k:IntKind,bM E s.ae (.const (.int k (j:Int)))=.v (.int k j):=fun k=>rfl
 split at h
 ·rename_i t x y ho
  split at h
  ·rename_i k n i h1 h2
   split at h
   ·injection h with h; injection h with e1 h; injection h with e2 h
    subst h; subst e1
    simp only [ap,ho,EE,h1]
   ·cases h
  ·cases h
 ·rename_i t x y ho
  split at h
  ·rename_i k n i h1 h2
   split at h
   ·split at h
    ·split at h
     ·cases h
     ·injection h with h; injection h with e1 h; injection h with e2 h
      subst h; subst e1
      simp only [ap,ho,EE,h1]
    ·injection h with h; injection h with e1 h; injection h with e2 h
     subst h; subst e1
     simp only [ap,ho,EE,h1]
   ·cases h
  ·cases h
 ·cases h
theorem rB {o:Oper} {n:Int} {len:Nat} {g:Nat→Oper} (hi:Cd E s o=some (n,len,g)) {K:St→Option X}:∀ (m j:Nat),wS E fz f g n K s m j=some x→∃ c s',ap E f s o=some (c,s')∧c=true∧K s'=some x
 | 0,_,h=>by cases h
 | m+1,j,h=>by
  unfold wS at h
  by_cases hn:n=(j:Int)
  ·rw [decide_eq_true hn,cond_true,IY hi hn] at h
   split at h
   ·rename_i c s' hs
    obtain ⟨h1,h2⟩:=bq h
    rw [du] at h2
    exact ⟨c,s',hs,h1,h2⟩
   ·cases h
  ·rw [decide_eq_false hn,cond_false] at h
   exact rB hi m (j+1) h
theorem za {ops:List Oper} {o:Oper} (h:Vb E f ops o s=true):FJ E f ops o s:=by
 unfold Vb at h
 split at h
 ·rename_i t m k ok d ho hd
  split at h
  ·rename_i c v b hg hs
   rw [Bool.and_eq_true] at h
   obtain ⟨rfl,h⟩:=h
   have hn:=td hs
   unfold FJ
   rw [hg]
   simp only
   have e:ap E f s o=some (true,s.put o.dst (.v (if ok then .bp [v,.bool b] else v))):=by simp only [ap,ho,hn]
   rw [hd] at e
   rw [hd,e]
   refine ⟨rfl,?_⟩
   unfold St.put
   simp only
   split
   ·rw [aG]
    exact A3 h
   ·rfl
  ·exact A4 h
 ·exact A4 h
theorem rC {ops:List Oper}:∀ {l:List Nat} {s:St},qA E f ops l s=true→A0 E f ops l s
 | [],_,_=>trivial
 | k :: l,s,h=>by
  unfold qA at h
  unfold A0
  rw [Bool.and_eq_true] at h
  refine ⟨?_,rC h.2⟩
  have h:=h.1
  split at h
  ·rename_i hk
   first
    | exact za h
    | rw [hk]; exact za h
  ·rename_i hk
   first
    | trivial
    | rw [hk]; trivial
theorem uD (hc:ol E call) (hr:vK E mm) {o:Oper} {K:St→Option X} (h:Va E fz call mm f o K s=some x):kH E f o (fun s=>K s=some x) s:=by
 unfold kH
 split
 ·rename_i y args tys ho
  unfold Va at h
  rw [ho] at h
  simp only at h
  split at h
  ·rename_i h1 h2
   rw [h1,h2]
   refine (hc _ _ _ _ _ h).mono fun r G' hk=>?_
   rw [du] at hk
   exact hk
  ·rename_i h1 h2
   rw [h1,h2]
   refine (hr _ _ _ _ _ h).mono fun r G' hk=>?_
   rw [du] at hk
   exact hk
  ·cases h
 ·rename_i ho
  unfold Va at h
  rw [ho] at h
  cases h
 ·rename_i nc nd
  unfold Va at h
  split at h
  ·rename_i ho
   exact absurd ho (nc _ _ _)
  ·cases h
  ·rename_i y ho
   split at h
   ·rename_i b s1 s2 hs
    have hn:=F2 hs
    have e:ap E f s o=some (true,bif b then s1 else s2):=by simp only [ap,ho,hn]
    rw [e]
    refine dV.mk rfl ?_
    rw [du,du] at h
    cases b <;> exact h
   ·cases h
  ·rename_i t m k ok ho
   split at h
   ·rename_i c v b hs
    obtain ⟨h1,h2⟩:=bq h
    subst h1
    rw [du] at h2
    have hn:=td hs
    have e:ap E f s o=some (true,s.put o.dst (.v (if ok then .bp [v,.bool b] else v))):=by simp only [ap,ho,hn]
    rw [e]
    exact dV.mk rfl h2
   ·split at h
    ·rename_i c s' hs
     obtain ⟨h1,h2⟩:=bq h
     rw [du] at h2
     rw [hs]
     exact dV.mk h1 h2
    ·cases h
  ·rename_i t m k z ho
   split at h
   ·rename_i c s' hd hs
    obtain ⟨h1,h2⟩:=bq h
    subst h1
    rw [du] at h2
    have hn:=te hs
    have e:ap E f s o=some (true,s'):=by simp only [ap,ho,hd,hn]
    rw [e]
    exact dV.mk rfl h2
   ·cases h
  ·rename_i t m k z ho
   split at h
   ·rename_i c s' hd hs
    obtain ⟨h1,h2⟩:=bq h
    subst h1
    rw [du] at h2
    have hn:=te hs
    have e:ap E f s o=some (true,s'):=by simp only [ap,ho,hd,hn]
    rw [e]
    exact dV.mk rfl h2
   ·cases h
  ·rename_i args tys ho
   split at h
   ·rename_i c s' hf
    obtain ⟨h1,h2⟩:=bq h
    rw [du] at h2
    have e:ap E f s o=some (c,s'):=by simp only [ap,ho,hf]
    rw [e]
    exact dV.mk h1 h2
   ·rename_i hf
    split at h
    ·rename_i l hl
     split at h
     ·rename_i b s1 c s2 hs
      have CA:b=false→c=true:=fun e=>by subst e; exact (bq (show (bif c then r7 fz s2 K else none)=some x from h)).1
      have hn:=Ca hs CA
      have e:ap E f s o=some (true,bif b then s1 else s2):=by simp only [ap,ho,hf,hl,hn]
      rw [e]
      refine dV.mk rfl ?_
      cases b with
      | true=>
       show K s1=some x
       rw [← du fz s1 K]
       exact h
      | false=>
       obtain ⟨h1,h2⟩:=bq (show (bif c then r7 fz s2 K else none)=some x from h)
       rw [du] at h2
       exact h2
     ·split at h
      ·rename_i c s' hs
       obtain ⟨h1,h2⟩:=bq h
       rw [du] at h2
       rw [hs]
       exact dV.mk h1 h2
      ·cases h
    ·cases h
  ·rename_i args tys ho
   split at h
   ·rename_i l hl
    split at h
    ·rename_i c s' hs
     obtain ⟨h1,h2⟩:=bq h
     subst h1
     rw [du] at h2
     have hn:=F3 hs
     have hf:ib E f s o=none:=by
      cases hf:ib E f s o with
      | none=>rfl
      | some r=>
       obtain ⟨_,_,h2⟩:=nY hf
       rw [ho] at h2
       cases h2
     have e:ap E f s o=some (true,s'):=by simp only [ap,ho,hf,hl,hn]
     rw [e]
     exact dV.mk rfl h2
    ·split at h
     ·rename_i c s' hs
      obtain ⟨h1,h2⟩:=bq h
      rw [du] at h2
      rw [hs]
      exact dV.mk h1 h2
     ·cases h
   ·cases h
  ·split at h
   ·rename_i n len g hi
    obtain ⟨c,s',hs,h1,h2⟩:=rB hi _ _ h
    rw [hs]
    exact dV.mk h1 h2
   ·split at h
    ·rename_i c s' hs
     obtain ⟨h1,h2⟩:=bq h
     rw [du] at h2
     rw [hs]
     exact dV.mk h1 h2
    ·cases h
theorem kK (hc:ol E call) (hr:vK E mm) {ops:List Oper} {o:Oper} {K:St→Option X} (h:pR E fz call mm f ops o K s=some x):cp E f ops o (fun s=>K s=some x) s:=by
 unfold pR at h
 unfold cp
 split at h
 ·rename_i hg
  rw [hg]
  exact uD hc hr h
 ·rename_i j want hg
  rw [hg]
  simp only
  split at h
  ·cases h
  ·rename_i d hd
   rw [hd]
   simp only
   split at h
   ·rename_i b hb
    rw [hb]
    simp only
    cases want with
    | true=>
     simp only at h
     rw [du,du] at h
     refine ⟨fun e=>?_,fun e=>?_⟩
     ·subst e
      exact uD hc hr h
     ·have e:b=false:=by simpa using e
      subst e
      exact h
    | false=>
     simp only at h
     rw [du,du] at h
     refine ⟨fun e=>?_,fun e=>?_⟩
     ·subst e
      exact uD hc hr h
     ·have e:b=true:=by simpa using e
      subst e
      exact h
   ·rename_i hb
    rw [hb]
    rw [du] at h
    exact h
   ·cases h
theorem Aj (hc:ol E call) (hr:vK E mm) {ops:List Oper} {o:Oper} {K:St→Option X} (h:Ce E fz call mm f ops o K s=some x):gF E f ops o (fun s=>K s=some x) s:=by
 unfold Ce at h
 unfold gF
 split at h
 ·rename_i s' h1 h2
  rw [h1,h2]
  rw [du] at h
  exact h
 ·rename_i hn
  split
  ·rename_i s' h1 h2
   exact absurd h2 (hn s' h1)
  ·exact kK hc hr h
theorem rD (hc:ol E call) (hr:vK E mm) {ops:List Oper} {o:Oper} {K:St→Option X} (h:wT E fz call mm f ops o K s=some x):fT E f ops o (fun s=>K s=some x) s:=by
 unfold wT at h
 unfold fT
 split at h
 ·rename_i c s' h1 h2
  rw [h1,h2]
  obtain ⟨q1,q2⟩:=bq h
  rw [du] at q2
  exact dV.mk q1 q2
 ·rename_i c s0 left g h1 h2 h3
  rw [h1,h2,h3]
  obtain ⟨q1,q2⟩:=bq h
  refine dV.mk q1 ?_
  cases left with
  | nil=>
   simp only [List.isEmpty_nil,cond_true,du] at q2
   exact ⟨fun _=>q2,fun i hi=>by simp at hi⟩
  | cons i0 l=>
   simp only [List.isEmpty_cons,cond_false] at q2
   refine ⟨fun e=>(by cases e),fun i hi=>?_⟩
   obtain ⟨r1,r2⟩:=bq (IU q2 i hi)
   rw [du] at r2
   exact dV.mk r1 r2
 ·rename_i JF hn2
  split
  ·rename_i c s' h1 h2
   first
    | exact absurd h2 (JF c s' h1)
    | exact absurd h2 (hn2 c s' h1)
  ·rename_i c s0 left g h1 h2 h3
   first
    | exact absurd h3 (hn2 c s0 left g h1 h2)
    | exact absurd h3 (JF c s0 left g h1 h2)
  ·exact Aj hc hr h
theorem Ak (hc:ol E call) (hr:vK E mm) {ops:List Oper} {o:Oper} {K:St→Option X} (h:Cf E fz call mm f ops o K s=some x):fU E f ops o (fun s=>K s=some x) s:=by
 unfold Cf at h
 unfold fU
 split at h
 ·rename_i c s' hz
  rw [hz]
  obtain ⟨h1,h2⟩:=bq h
  exact ⟨h1,rD hc hr h2⟩
 ·rename_i hz
  rw [hz]
  exact rD hc hr h
theorem zb (hc:ol E call) (hr:vK E mm) {ops:List Oper}:∀ {l:List Oper} {K:St→Option X} {s:St},O1 E fz call mm f ops l K s=some x→pC E f ops l (fun s=>K s=some x) s
 | [],_,_,h=>h
 | o :: l,K,s,h=>by
  unfold O1 at h
  unfold pC
  refine mL (Ak hc hr h) fun s' h'=>?_
  unfold AT
  split at h'
  ·rename_i s2 hp
   rw [hp]
   exact zb hc hr h'
  ·cases h'
theorem j9 (hc:ol E call) (hr:vK E mm) (hm:vJ fO) {ops:List Oper}:∀ {T:DT} {K:St→Option X} {s:St} {x:X},oT E fz call mm fO f ops T K s=some x→tR E f ops T (fun s=>K s=some x) s
 | .done,_,_,_,h=>h
 | .stop,_,_,_,_=>trivial
 | .take j C T,K,s,x,h=>by
  unfold oT at h
  unfold tR
  split at h
  ·rename_i hk
   rw [hk]
   exact cq (kK hc hr h) fun s' h'=>j9 hc hr hm h'
  ·cases h
 | .al j W T,K,s,x,h=>by
  unfold oT at h
  unfold tR
  split at h
  ·rename_i hk
   obtain ⟨h1,h2⟩:=bq h
   rw [hk]
   exact ⟨h1,cq (kK hc hr h2) fun s' h'=>j9 hc hr hm h'⟩
  ·cases h
 | .br i re C T more,K,s,x,h=>by
  have first:∀ {x:X},(match nth ops i with
   | some oi=>pR E fz call mm f ops oi (fun s'=>bif qA E f ops re s' then oT E fz call mm fO f ops T K s' else none) s
   | none=>none)=some x→(match nth ops i with
   | some oi=>cp E f ops oi (fun s'=>A0 E f ops re s'∧tR E f ops T (fun s=>K s=some x) s') s
   | none=>False):=by
   intro x h
   split at h
   ·rename_i hk
    refine cq (kK hc hr h) fun s' h'=>?_
    obtain ⟨h1,h2⟩:=bq h'
    exact ⟨rC h1,j9 hc hr hm h2⟩
   ·cases h
  unfold tR
  cases more with
  | stop=>exact ⟨first h,trivial⟩
  | done=>obtain ⟨h1,h2⟩:=hm _ _ _ h; exact ⟨first h1,j9 (T:=.done) hc hr hm h2⟩
  | take a b c=>obtain ⟨h1,h2⟩:=hm _ _ _ h; exact ⟨first h1,j9 hc hr hm h2⟩
  | br a b c d e=>obtain ⟨h1,h2⟩:=hm _ _ _ h; exact ⟨first h1,j9 hc hr hm h2⟩
  | al a b c=>obtain ⟨h1,h2⟩:=hm _ _ _ h; exact ⟨first h1,j9 hc hr hm h2⟩
end sound
end Go.Am
