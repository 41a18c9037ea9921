/- The abstract machine: maps and ranges over strings on values with leaves. -/
import Derived.Test.YtldcljfjjoidhaaGreatDoorAmKI
set_option linter.all false
namespace Go.Am
open Go
def C8 (s:St) (dst:Option Tmp) (x:SV):Option (Bool × St × St):=match x with
 | .v (.ptr id 0)=>match nth s.G id with
  | some (.eo l pos)=>some (Nat.blt pos l.length,(s.bp (aw s.G id (.eo l (pos+(lg l pos).2)))).put dst (.v (.aR [.bool true,.int .i64 pos,.int .i32 (lg l pos).1])),s.put dst (.v (.aR [.bool false])))
  | _=>none
 | _=>none
theorem zq {s:St} {dst:Option Tmp} {x:SV} {b:Bool} {s1 s2:St} (h:C8 s dst x=some (b,s1,s2)):iG s dst x=some (bif b then s1 else s2):=by
 unfold C8 at h
 split at h
 ·split at h
  ·rename_i l pos hg
   cases h
   simp only [iG,hg]
   cases Nat.blt pos l.length <;> rfl
  ·cases h
 ·cases h
theorem Ax {e:EK} {k:AV}:∀ {es:List (AV × AV)},ew e k es=true→fu e k es=some (dj e k es)
 | [],_=>rfl
 | (k',v) :: l,h=>by
  simp only [ew,Bool.and_eq_true] at h
  obtain ⟨b,hb⟩:=Option.isSome_iff_exists.1 h.1
  simp only [fu,dj,qo,hb]
  cases b
  ·simp only [cond_false]; exact Ax h.2
  ·rfl
theorem C9 {e:EK} {k v:AV}:∀ {es:List (AV × AV)},ew e k es=true→og e k v es=some (dm e k v es)
 | [],_=>rfl
 | (k',v') :: l,h=>by
  simp only [ew,Bool.and_eq_true] at h
  obtain ⟨b,hb⟩:=Option.isSome_iff_exists.1 h.1
  simp only [og,dm,qo,hb]
  cases b
  ·simp only [cond_false,C9 h.2]
  ·rfl
mutual
def av.flat:av→Bool
 | .int _=>true
 | .bool=>true
 | .str=>true
 | .agg ps=>ps.flat
 | .aM _ _ p=>p.flat
 | _=>false
def aB.flat:aB→Bool
 | .nil=>true
 | .cons p ps=>p.flat&&ps.flat
end
theorem xg {α:Type} {f:AV→Bool} {d:AV→α} {g:α→AV} (h:∀ a,f a=true→g (d a)=a):∀ {es:List AV},allFit f es=true→(es.map d).map g=es
 | [],_=>rfl
 | a :: l,hl=>by
  simp only [allFit,Bool.and_eq_true] at hl
  rw [List.map_cons,List.map_cons,h a hl.1,xg h hl.2]
mutual
theorem av.ib:∀ {p:av},p.flat=true→∀ {a:AV},p.fits a=true→p.enc (p.aX a)=a
 | .int k,_,a,h=>by
  cases a <;> first | (cases h; done) | skip
  have hk:Jk _ _=true:=h
  rw [x8 hk]; rfl
 | .bool,_,a,h=>by cases a <;> first | (cases h; done) | rfl
 | .str,_,a,h=>by cases a <;> first | (cases h; done) | rfl
 | .agg ps,hp,a,h=>by
  cases a <;> first | (cases h; done) | skip
  exact congrArg AV.agg (aB.ib (ps:=ps) hp h)
 | .aR _,hp,_,_=>by cases hp
 | .list _ _,hp,_,_=>by cases hp
 | .own _ _ _,hp,_,_=>by cases hp
 | .aM id sz p,hp,a,h=>by
  cases a <;> first | (cases h; done) | skip
  rename_i k a8 es
  cases k <;> first | (cases h; done) | skip
  rename_i fU j
  simp only [av.fits,Bool.and_eq_true] at h
  have e1:=Nat.eq_of_beq_eq_true h.1.1
  have e2:=Nat.eq_of_beq_eq_true h.1.2
  subst e1 e2
  have hp:p.flat=true:=hp
  show AV.list (.aM id j) sz ((es.map p.aX).map p.enc)=_
  rw [xg (fun a ha=>av.ib hp ha) h.2]
 | .qm _,hp,_,_=>by cases hp
 | .two _ _,hp,_,_=>by cases hp
theorem aB.ib:∀ {ps:aB},ps.flat=true→∀ {l:List AV},ps.fits l=true→ps.enc (ps.aX l)=l
 | .nil,_,l,h=>by
  cases l with
  | nil=>rfl
  | cons _ _=>cases h
 | .cons p .nil,hp,l,h=>by
  simp only [aB.flat,Bool.and_eq_true] at hp
  cases l with
  | nil=>cases h
  | cons a l=>
   simp only [aB.fits,Bool.and_eq_true] at h
   cases l with
   | nil=>exact congrArg (fun x=>[x]) (av.ib hp.1 h.1)
   | cons _ _=>cases h.2
 | .cons p (.cons q ps),hp,l,h=>by
  rw [aB.flat,Bool.and_eq_true] at hp
  cases l with
  | nil=>cases h
  | cons a l=>
   rw [aB.fits,Bool.and_eq_true] at h
   have h1:=av.ib hp.1 h.1
   have h2:=aB.ib (ps:=.cons q ps) hp.2 h.2
   show p.enc (p.aX a) :: (aB.cons q ps).enc ((aB.cons q ps).aX l)=a :: l
   rw [h1,h2]
end
def qz (E:Env) (s:St) (t:TypeId) (m k:SV):Option (Bool × AV × Bool):=match Ir E s.G t,E.ti t,mapOf s m,k with
 | some p,some i,some es,.v k=>match i.k with
  | .map kt _ (some z)=>match E.ti kt with
   | some j=>if j.ek.plain&&fc j.ek k&&p.flat then
     some (ew j.ek k es&&p.fits (bO j.ek k (vO E s.G t z) es),p.enc (p.aX (bO j.ek k (vO E s.G t z) es)),(dj j.ek k es).isSome)
    else none
   | none=>none
  | _=>none
 | _,_,_,_=>none
theorem nL {E:Env} {s:St} {t:TypeId} {m k:SV} {v:AV} {b:Bool} (h:qz E s t m k=some (true,v,b)):iF E s t m k=some (v,b):=by
 unfold qz at h
 split at h
 ·rename_i p i es k h1 h2 h3
  split at h
  ·rename_i kt et z hk
   split at h
   ·rename_i j hj
    split at h
    ·rename_i hc
     simp only [Bool.and_eq_true] at hc
     injection h with h
     injection h with h4 h
     injection h with h5 h6
     rw [Bool.and_eq_true] at h4
     rw [av.ib hc.2 h4.2] at h5
     have e:fu j.ek k es=some (dj j.ek k es):=Ax h4.1
     have pV:(j.ek.plain&&fc j.ek k)=true:=by rw [hc.1.1,hc.1.2]; rfl
     have e0:fI E s t m (.v k)=some ((dj j.ek k es).getD z,(dj j.ek k es).isSome):=by
      simp only [fI,h2,h3,hk,hj,pV,if_true,e]
      cases dj j.ek k es <;> rfl
     unfold iF
     rw [e0]
     unfold bO at h5
     cases hg:dj j.ek k es with
     | none=>
      rw [hg] at h5 h6
      subst h5 h6
      rfl
     | some v'=>
      rw [hg] at h5 h6
      subst h5 h6
      rfl
    ·cases h
   ·cases h
  ·cases h
 ·cases h
def qA (E:Env) (s:St) (t:TypeId) (m k x:SV):Option (Bool × St):=match E.ti t,m,k,x with
 | some i,.v (.map id),.v k,.v x=>match i.k,nth s.G id with
  | .map kt _ _,some (.map es)=>match E.ti kt with
   | some j=>if j.ek.plain&&fc j.ek k then some (ew j.ek k es,s.bp (aw s.G id (.map (dm j.ek k x es)))) else none
   | none=>none
  | _,_=>none
 | _,_,_,_=>none
theorem nN {E:Env} {s s':St} {t:TypeId} {m k x:SV} (h:qA E s t m k x=some (true,s')):de E s t m k x=some s':=by
 unfold qA at h
 split at h
 ·rename_i i id k x h1
  split at h
  ·rename_i kt _ _ es hk hg
   split at h
   ·rename_i j hj
    split at h
    ·rename_i hc
     injection h with h
     injection h with h4 h5
     simp only [de,h1,hk,hg,hj,hc,if_true,C9 h4,h5]
    ·cases h
   ·cases h
  ·cases h
 ·cases h
def Da (E:Env) (s:St) (dst:Option Tmp) (l:List AV) (tys:List TypeId):Option (Bool × St):=match l,tys with
 | [.gn id off sz len _,.str bs],t :: _=>match E.ti t,nth s.G id with
  | some i,some (.row cs el)=>match i.k with
   | .sl _ esz _ _ _=>if Nat.beq sz esz&&Nat.beq esz 1 then
     some (Nat.ble (off+(bs.take (Nat.min bs.length len)).length) cs.length,
      (s.bp (aw s.G id (.row (bt cs off ((bs.take (Nat.min bs.length len)).map mU)) el))).put dst (.v (.int .i64 (Nat.min bs.length len))))
    else none
   | _=>none
  | _,_=>none
 | [.gn id off sz len _,.list _ a8 es],t :: _=>match E.ti t,nth s.G id with
  | some i,some (.row cs el)=>match i.k with
   | .sl _ esz _ _ _=>if Nat.beq sz esz&&Nat.beq a8 esz then
     some (Nat.ble (off+(an (es.take (Nat.min es.length len))).length) cs.length,
      (s.bp (aw s.G id (.row (bt cs off (an (es.take (Nat.min es.length len)))) el))).put dst (.v (.int .i64 (Nat.min es.length len))))
    else none
   | _=>none
  | _,_=>none
 | [.dI id f off sz len,.list _ a8 xs],t :: _=>match E.ti t,nth s.G id with
  | some i,some (.dw es OP el)=>match i.k with
   | .sl _ esz _ _ _=>if Nat.beq sz esz&&Nat.beq OP sz&&Nat.beq a8 esz then
     some (decide (f=es.length)&&decide (off+Nat.min xs.length len≤es.length),
      (s.bp (aw s.G id (.dw (bt es off (xs.take (Nat.min xs.length len))) OP el))).put dst (.v (.int .i64 (Nat.min xs.length len))))
    else none
   | _=>none
  | _,_=>none
 | _,_=>none
theorem zr {E:Env} {s s':St} {dst:Option Tmp} {l:List AV} {tys:List TypeId} (h:Da E s dst l tys=some (true,s')):bf E s dst .copy l tys=some (true,s'):=by
 unfold Da at h
 split at h
 ·rename_i id off sz len cap bs t ts
  split at h
  ·rename_i i cs el hi hid
   split at h
   ·rename_i a1 esz a2 a3 a4 hk
    split at h
    ·rename_i hc
     rw [Bool.and_eq_true] at hc
     injection h with h
     injection h with h1 h2
     have qR:(Nat.beq esz 1&&Nat.ble (off+(bs.take (Nat.min bs.length len)).length) cs.length)=true:=by rw [hc.2,h1]; rfl
     simp only [bf,hi,hk,mV,hid,hc.1,if_true,qR,h2]
    ·cases h
   ·cases h
  ·cases h
 ·rename_i id off sz len cap k a8 es t ts
  split at h
  ·rename_i i cs el hi hid
   split at h
   ·rename_i a1 esz a2 a3 a4 hk
    split at h
    ·rename_i hc
     rw [Bool.and_eq_true] at hc
     injection h with h
     injection h with h1 h2
     have e2:(Nat.beq a8 esz || es.isEmpty)=true:=by rw [hc.2]; rfl
     simp only [bf,hi,hk,mV,hid,hc.1,if_true,e2,h1,h2]
    ·cases h
   ·cases h
  ·cases h
 ·rename_i id f off sz len k a8 xs t ts
  split at h
  ·rename_i i es OP el hi hid
   split at h
   ·rename_i a1 esz a2 a3 a4 hk
    split at h
    ·rename_i hc
     rw [Bool.and_eq_true] at hc
     injection h with h
     injection h with h1 h2
     rw [Bool.and_eq_true,decide_eq_true_eq,decide_eq_true_eq] at h1
     obtain ⟨rfl,h1⟩:=h1
     have e2:(Nat.beq sz esz&&Nat.beq OP sz&&(Nat.beq a8 esz || xs.isEmpty)&&Nat.ble es.length es.length&&Nat.ble es.length es.length&&Nat.ble (off+Nat.min xs.length len) es.length)=true:=by
      rw [hc.1,hc.2]
      simp only [Bool.true_or,Bool.true_and,Bool.and_eq_true]
      exact ⟨⟨Nat.ble_eq_true_of_le (Nat.le_refl _),Nat.ble_eq_true_of_le (Nat.le_refl _)⟩,Nat.ble_eq_true_of_le h1⟩
     simp only [bf,hi,hk,mV,hid,e2,if_true,h2]
    ·cases h
   ·cases h
  ·cases h
 ·cases h
def qB (s:St) (dst:Option Tmp) (elem esz aT:Nat) (k:LK) (sz:Nat) (es ys:List AV):Option (Bool × St × Bool × St):=
 match k with
 | .nil=>some (ys.isEmpty,s.put dst (.v (.list .nil sz es)),decide ((es.length+ys.length) * aT≤140737488355328),
   (s.bp (s.G++[.tok (es.length+ys.length) esz elem])).put dst (.v (.list (.own s.G.length) esz (es++ys))))
 | .full=>if Nat.beq sz esz then some (ys.isEmpty,s.put dst (.v (.list .full sz es)),decide ((es.length+ys.length) * aT≤140737488355328),
   (s.bp (s.G++[.tok (es.length+ys.length) esz elem])).put dst (.v (.list (.own s.G.length) esz (es++ys)))) else none
 | .own id=>match nth s.G id with
  | some (.tok f a8 e')=>if Nat.beq a8 esz&&Nat.beq e' elem&&Nat.beq sz esz then
    some (false,s,decide (f=es.length)&&decide ((es.length+ys.length) * aT≤140737488355328),
     (s.bp (B6 s.G id ys.length f esz elem)).put dst (.v (.list (.own id) esz (es++ys)))) else none
  | _=>none
 | .aM id j=>match nth s.G id with
  | some (.aM fs a8 e')=>if Nat.beq a8 esz&&Nat.beq e' elem&&Nat.beq sz esz then
    some (ys.isEmpty,s.put dst (.v (.list (.aM id j) sz es)),Fb fs j es.length&&decide ((es.length+ys.length) * aT≤140737488355328),
     (s.bp (aw s.G id (.aM (AT fs j (es.length+ys.length)) esz elem))).put dst (.v (.list (.aM id j) esz (es++ys)))) else none
  | _=>none
 | .iy=>none
def vh (s:St) (dst:Option Tmp) (elem esz aT id f off sz len:Nat) (ys:List AV):Option (Bool × St × Bool × St):=match nth s.G id with
 | some (.dw es a8 e')=>if Nat.beq a8 esz&&Nat.beq e' elem&&Nat.beq sz esz then
   some (false,s,decide (f=es.length)&&decide (off=0)&&decide (len=f)&&decide ((es.length+ys.length) * aT≤140737488355328),
    (s.bp (aw s.G id (.dw (es++ys) esz elem))).put dst (.v (.dI id (es.length+ys.length) 0 esz (es.length+ys.length)))) else none
 | _=>none
def vi (E:Env) (s:St) (dst:Option Tmp) (l:List AV) (tys:List TypeId):Option (Bool × St × Bool × St):=match l,tys with
 | [.list k sz es,.list _ a8 ys],[t,u]=>match E.ti t with
  | some i=>match i.k with
   | .sl elem esz _ aT (some z)=>
    if Nat.beq a8 esz&&Nat.beq t u&&Nat.ble 1 esz&&Nat.ble 1 aT&&Nat.beq z.cells.length esz&&z.aG then
     qB s dst elem esz aT k sz es ys
    else none
   | _=>none
  | none=>none
 | [.dI id f off sz len,.list _ a8 ys],[t,u]=>match E.ti t with
  | some i=>match i.k with
   | .sl elem esz _ aT (some z)=>
    if Nat.beq a8 esz&&Nat.beq t u&&Nat.ble 1 esz&&Nat.ble 1 aT&&Nat.beq z.cells.length esz&&z.aG then vh s dst elem esz aT id f off sz len ys else none
   | _=>none
  | none=>none
 | [.list k sz es,.str bs],[t,u]=>match E.ti t,E.ti u with
  | some i,some j=>match i.k,j.k with
   | .sl elem esz _ aT (some z),.str=>
    if Nat.beq esz 1&&Nat.ble 1 aT&&Nat.beq z.cells.length esz&&z.aG then qB s dst elem esz aT k sz es (bs.map mU) else none
   | _,_=>none
  | _,_=>none
 | _,_=>none
theorem nO {s s1 s2:St} {dst:Option Tmp} {elem esz aT:Nat} {k:LK} {sz:Nat} {es ys:List AV} {b c:Bool} (h:qB s dst elem esz aT k sz es ys=some (b,s1,c,s2)) (hc:b=false→c=true) :
  ∃ v G',dZ s.G elem esz aT (.list k sz es) ys=some (true,v,G')∧(s.bp G').put dst (.v v)=bif b then s1 else s2:=by
 unfold qB at h
 cases k with
 | nil=>
  cases h
  cases ys with
  | nil=>exact ⟨_,_,rfl,rfl⟩
  | cons y ys=>
   have hc:=hc rfl
   exact ⟨_,_,by simp only [dZ,hc],rfl⟩
 | full=>
  simp only at h
  cases hs:Nat.beq sz esz with
  | false=>rw [hs] at h; cases h
  | true=>
   rw [hs] at h
   cases h
   cases ys with
   | nil=>exact ⟨_,_,rfl,rfl⟩
   | cons y ys=>
    have hc:=hc rfl
    exact ⟨_,_,by simp only [dZ,hs,if_true,hc],rfl⟩
 | own id=>
  simp only at h
  split at h
  ·rename_i f a8 e' hg
   split at h
   ·rename_i bU
    cases h
    have hc:=hc rfl
    cases ys with
    | nil=>
     simp only [Bool.and_eq_true] at bU
     have e1:=Nat.eq_of_beq_eq_true bU.1.1
     have e2:=Nat.eq_of_beq_eq_true bU.1.2
     have e3:=Nat.eq_of_beq_eq_true bU.2
     subst e1; subst e2; subst e3
     refine ⟨_,_,rfl,?_⟩
     simp only [cond_false,B6,List.length_nil,Nat.add_zero,jm hg,List.append_nil]
    | cons y ys=>exact ⟨_,_,by simp only [dZ,hg,bU,if_true,hc],rfl⟩
   ·cases h
  ·cases h
 | aM id j=>
  simp only at h
  split at h
  ·rename_i fs a8 e' hg
   split at h
   ·rename_i bU
    cases h
    cases ys with
    | nil=>exact ⟨_,_,rfl,rfl⟩
    | cons y ys=>
     have hc:=hc rfl
     exact ⟨_,_,by simp only [dZ,hg,bU,if_true,hc],rfl⟩
   ·cases h
  ·cases h
 | iy=>cases h
theorem vj {s s1 s2:St} {dst:Option Tmp} {elem esz aT id f off sz len:Nat} {ys:List AV} {b c:Bool} (h:vh s dst elem esz aT id f off sz len ys=some (b,s1,c,s2)) (hc:b=false→c=true) :
  ∃ v G',dZ s.G elem esz aT (.dI id f off sz len) ys=some (true,v,G')∧(s.bp G').put dst (.v v)=bif b then s1 else s2:=by
 unfold vh at h
 split at h
 ·rename_i es a8 e' hg
  split at h
  ·rename_i bU
   cases h
   have hc:=hc rfl
   cases ys with
   | nil=>
    simp only [Bool.and_eq_true,decide_eq_true_eq] at hc bU
    have e1:=Nat.eq_of_beq_eq_true bU.1.1
    have e2:=Nat.eq_of_beq_eq_true bU.1.2
    have e3:=Nat.eq_of_beq_eq_true bU.2
    obtain ⟨⟨⟨h1,h2⟩,h3⟩,_⟩:=hc
    subst e1; subst e2; subst e3; subst h1; subst h2; subst h3
    refine ⟨_,_,rfl,?_⟩
    simp only [cond_false,List.length_nil,Nat.add_zero,jm hg,List.append_nil]
   | cons y ys=>exact ⟨_,_,by simp only [dZ,hg,bU,if_true,hc],rfl⟩
  ·cases h
 ·cases h
theorem vk {E:Env} {s s1 s2:St} {dst:Option Tmp} {l:List AV} {tys:List TypeId} {b c:Bool} (h:vi E s dst l tys=some (b,s1,c,s2)) (yy:b=false→c=true):bf E s dst .append l tys=some (true,bif b then s1 else s2):=by
 unfold vi at h
 split at h
 ·rename_i k sz es k' a8 ys t u
  split at h
  ·rename_i i hi
   split at h
   ·rename_i elem esz a1 aT z hk
    split at h
    ·rename_i hc
     have pV:((Nat.beq a8 esz || ys.isEmpty)&&Nat.beq t u&&Nat.ble 1 esz&&Nat.ble 1 aT&&Nat.beq z.cells.length esz&&z.aG)=true:=by
      simp only [Bool.and_eq_true] at hc ⊢
      obtain ⟨⟨⟨⟨⟨c1,c2⟩,c3⟩,c4⟩,c5⟩,c6⟩:=hc
      exact ⟨⟨⟨⟨⟨by rw [c1]; rfl,c2⟩,c3⟩,c4⟩,c5⟩,c6⟩
     obtain ⟨v,G',h1,h2⟩:=nO h yy
     simp only [bf,hi,hk,pV,if_true,h1,h2]
    ·cases h
   ·cases h
  ·cases h
 ·rename_i id f off sz len k' a8 ys t u
  split at h
  ·rename_i i hi
   split at h
   ·rename_i elem esz a1 aT z hk
    split at h
    ·rename_i hc
     have pV:((Nat.beq a8 esz || ys.isEmpty)&&Nat.beq t u&&Nat.ble 1 esz&&Nat.ble 1 aT&&Nat.beq z.cells.length esz&&z.aG)=true:=by
      simp only [Bool.and_eq_true] at hc ⊢
      obtain ⟨⟨⟨⟨⟨c1,c2⟩,c3⟩,c4⟩,c5⟩,c6⟩:=hc
      exact ⟨⟨⟨⟨⟨by rw [c1]; rfl,c2⟩,c3⟩,c4⟩,c5⟩,c6⟩
     obtain ⟨v,G',h1,h2⟩:=vj h yy
     simp only [bf,hi,hk,pV,if_true,h1,h2]
    ·cases h
   ·cases h
  ·cases h
 ·rename_i k sz es bs t u
  split at h
  ·rename_i i j hi hj
   split at h
   ·rename_i elem esz a1 aT z hk LN
    split at h
    ·rename_i hc
     obtain ⟨v,G',h1,h2⟩:=nO h yy
     simp only [bf,hi,hj,hk,LN,hc,if_true,h1,h2]
    ·cases h
   ·cases h
  ·cases h
 ·cases h
end Go.Am
namespace Go.Am
open Go
def Ke (E:Env) (cut wk:Bool) (t:TypeId) (r:AV) (G:List GO):Option (Bool × AV × List GO):=match r with
 | .dI id f 0 sz len=>match nth G id,E.ti t with
  | some (.dw es a8 _),some i=>match i.k with
   | .sl _ esz _ _ _=>if Nat.beq esz sz&&Nat.beq a8 sz then
     bif cut then some (decide (f=es.length)&&decide (len≤es.length)&&aK (tK wk es),.list .iy sz (tK wk (es.take len)),aw G id .dead)
     else some (decide (f=es.length)&&decide (len=es.length)&&aK (tK wk es),.list .iy sz (tK wk es),aw G id .dead)
    else none
   | _=>none
  | _,_=>none
 | .gn id 0 sz len _=>match nth G id,E.ti t,E.Iq t with
  | some (.row cs _),some i,some p=>match i.k with
   | .sl _ esz agg _ _=>if Nat.beq esz sz&&Nat.ble 1 sz&&(agg || Nat.beq sz 1)&&p.under 0 then
     some (Nat.beq cs.length (len * sz)&&allFit (fun e=>p.fits e&&e.aG&&(agg || e.one)) (eP agg sz len cs),.list .iy sz ((eP agg sz len cs).map fun e=>p.enc (p.aX e)),aw G id .dead)
    else none
   | _=>none
  | _,_,_=>none
 | .agg cs=>match jj wk cs G with
  | (c,cs',G')=>some (c,.agg cs',G')
 | .ptr id 0=>match nth G id with
  | some (.row cs _)=>some (aK cs,.ep cs,aw G id .dead)
  | _=>none
 | _=>none
def sx (E:Env) (cut wk:Bool):List TypeId→List AV→List GO→Bool × List AV × List GO
 | t :: ts,r :: rs,G=>match Ke E cut wk t r G with
  | some (c,r',G')=>match sx E cut wk ts rs G' with
   | (c',Db,E8)=>(c&&c',r' :: Db,E8)
  | none=>match sx E cut wk ts rs G with
   | (c',Db,E8)=>(c',r :: Db,E8)
 | _,rs,G=>(true,rs,G)
def Kf {X:Type} (E:Env) (cut wk:Bool) (ts:List TypeId) (K:AV→List GO→Option X) (r:AV) (G:List GO):Option X:=match r with
 | .aR rs=>match sx E cut wk ts rs G with
  | (c,Db,G')=>bif c then K (.aR Db) G' else none
 | r=>match sx E cut wk ts [r] G with
  | (c,[r'],G')=>bif c then K r' G' else none
  | _=>none
section
variable {E:Env} {R:ah} {w:World}
theorem sy {R:ah} {b:Nat} (hI:∀ o,R.I b o):∀ {cs:List AV} {vs:List Value} {o:Nat},aA R w cs vs→(∀ v∈vs,v.oneCell'=true)→(∀ (j:Nat) (v:Value),vs[j]?=some v→w.cell? ⟨b,o+j,none⟩=some v)→cG R w b o cs
 | [],_,o,_,_,_=>.nil
 | a :: cs,_,o,.cons h t,h1,hc=>.cons (hc 0 _ rfl) (h1 _ (by simp)) (hI o) h (sy hI t (fun v hv=>h1 v (by simp [hv])) fun j v hj=>by
   have:=hc (j+1) v (by simpa using hj)
   rwa [show o+(j+1)=o+1+j by omega] at this)
theorem sA {R:ah} {b:Nat} {p:av} {agg:Bool} {sz:Nat} (hI:∀ o,R.I b o) (hp:p.under 0=true) (cZ:(agg || Nat.beq sz 1)=true) (P3:1≤sz):∀ (n:Nat) {cs:List AV} {vs:List Value} {o:Nat},aA R w cs vs→(∀ v∈vs,v.oneCell'=true)→cs.length=n * sz →
  (∀ (j:Nat) (v:Value),vs[j]?=some v→w.cell? ⟨b,o+j,none⟩=some v)→allFit (fun e=>p.fits e&&e.aG&&(agg || e.one)) (eP agg sz n cs)=true→ee R w b o sz ((eP agg sz n cs).map fun e=>p.enc (p.aX e))
 | 0,_,_,_,_,_,_,_,_=>.nil
 | n+1,cs,vs,o,h,h1,hl,hc,hf=>by
  simp only [eP,allFit,Bool.and_eq_true] at hf
  obtain ⟨⟨⟨ra,Oz⟩,hf4⟩,hf3⟩:=hf
  have hlen:=h.length
  have hle:sz≤cs.length:=by rw [hl,Nat.succ_mul]; omega
  have dk:=p.bQ ra
  have iX:(Md agg (cs.take sz)).cells=cs.take sz:=by
   cases agg with
   | true=>rfl
   | false=>
    have Iw:sz=1:=by simpa using cZ
    subst Iw
    match cs,hle with
    | a :: cs,_=>
     show AV.cells a=[a]
     have ho:a.one=true:=by simpa [Md,cP] using hf4
     cases a <;> first | rfl | simp [AV.one] at ho
  have hw:=dk.cells Oz
  rw [iX] at hw
  have hA:cG R w b o (cs.take sz):=sy hI (h.take sz) (fun v hv=>h1 v (List.mem_of_mem_take hv)) fun j v hj=>hc j v (by
   rw [List.getElem?_take] at hj
   split at hj
   ·exact hj
   ·cases hj)
  refine .cons (by rw [← hw.length,List.length_take,Nat.min_eq_left hle]) (by rw [dk.aR]; exact Oz) (ja (p.cp _ hp)) (hw.Cc hA) ?_
  exact sA hI hp cZ P3 n (h.drop sz) (fun v hv=>h1 v (List.mem_of_mem_drop hv)) (by rw [List.length_drop,hl,Nat.succ_mul]; omega) (fun j v hj=>by
   rw [List.getElem?_drop] at hj
   have:=hc _ _ hj
   rwa [show o+(sz+j)=o+sz+j by omega] at this) hf3
theorem FJ {cut wk:Bool} {t:TypeId} {r r':AV} {G G':List GO} {c:Value} (hg:cu E R w G) (hr:Rel R w r c) (h:Ke E cut wk t r G=some (true,r',G')) :
  ∃ R',cu E R' w G'∧Rel R' w r' c∧Ext R w R' w∧R'.obj=R.obj∧∀ b o,R'.I b o→R.I b o∨Live R b:=by
 unfold Ke at h
 split at h
 ·rename_i id f sz len
  obtain ⟨ro,bj⟩:∃ ro,nth R.obj id=some ro:=by
   cases hr with
   | gu q _=>exact ⟨_,q⟩
   | dI q _ _=>exact ⟨_,q⟩
  split at h
  ·rename_i es a8 el i hid hi
   split at h
   ·split at h
    ·rename_i hc
     rw [Bool.and_eq_true] at hc
     have q1:=Nat.eq_of_beq_eq_true hc.2
     subst q1
     cases cut with
     | true=>
      simp only [cond_true] at h
      injection h with h; injection h with h1 h; injection h with h2 h3
      subst h2 h3
      rw [Bool.and_eq_true,Bool.and_eq_true,decide_eq_true_eq,decide_eq_true_eq] at h1
      obtain ⟨h1,gl⟩:=h1
      obtain ⟨R',r1,r2,r3,r4,r5⟩:=jT (wk:=wk) hg hid h1.1 h1.2 gl bj
      exact ⟨R',r1,r5 c hr,r2,r3,fun b o hi=>(r4 b o hi).imp_right fun hb=>⟨id,ro,bj,hb⟩⟩
     | false=>
      simp only [cond_false] at h
      injection h with h; injection h with h1 h; injection h with h2 h3
      subst h2 h3
      rw [Bool.and_eq_true,Bool.and_eq_true,decide_eq_true_eq,decide_eq_true_eq] at h1
      obtain ⟨h1,gl⟩:=h1
      obtain ⟨R',r1,r2,r3,r4,r5⟩:=jT (wk:=wk) hg hid h1.1 (Nat.le_of_eq h1.2) gl bj
      have r6:=r5 c hr
      rw [h1.2,List.take_length] at r6
      exact ⟨R',r1,r6,r2,r3,fun b o hi=>(r4 b o hi).imp_right fun hb=>⟨id,ro,bj,hb⟩⟩
    ·cases h
   ·cases h
  ·cases h
 ·rename_i id sz len cap
  split at h
  ·rename_i cs i p hid hi hp
   split at h
   ·rename_i el esz agg eb z hk
    split at h
    ·rename_i hc
     simp only [Bool.and_eq_true] at hc
     injection h with h
     injection h with h1 h
     injection h with h2 h3
     subst h2 h3
     rw [Bool.and_eq_true] at h1
     cases hr with
     | @gn _ _ _ _ _ b hb fg=>
     obtain ⟨vs,k1,k2,k3,k4⟩:=hg.obj id _ _ hid hb
     have v7:Live R b:=⟨id,_,hb,rfl⟩
     have e:=lm R w b
     have bD:=aQ k1
     refine ⟨R.all b,⟨by show R.obj.length=_; rw [eT]; exact hg.len,fun fU go ro q1 q2=>?_,hg.inj,fun b' o ho=>?_,fun g cs n4=>(hg.bY g cs n4).mono e,hg.lo⟩,?_,e,rfl,fun b' o ho=>?_⟩
     ·rcases ca q1 with ⟨rfl,rfl,_⟩ | ⟨bT,q1⟩
      ·have:ro=.bn b:=Option.some.inj (q2.symm.trans hb)
       subst this
       exact bD
      ·refine (hg.obj fU go ro q1 q2).mono e (fun _ _=>rfl) (fun b' o iU ho=>?_)
       rcases ho with ho | ho
       ·exact ho
       ·subst ho
        exact absurd (hg.inj id fU _ _ b' hb q2 rfl iU) bT
     ·rcases ho with ho | ho
      ·exact hg.wf b' o ho
      ·subst ho; exact bD
     ·refine Rel.list (sA (R:=R.all b) (fun o=>Or.inr rfl) hc.2 hc.1.2 (Nat.le_of_ble_eq_true hc.1.1.2) len (k2.mono e) k3 (Nat.eq_of_beq_eq_true h1.1) (fun j v hj=>?_) h1.2) ?_ fg trivial
      ·simp only [World.cell?,k1]
       simpa using hj
      ·rw [List.length_map]
       have:∀ (n:Nat) (l:List AV),(eP agg sz n l).length=n:=by
        intro n
        induction n with
        | zero=>intro l; rfl
        | succ n ih=>intro l; simp [eP,ih]
       rw [this]
     ·rcases ho with ho | ho
      ·exact .inl ho
      ·subst ho; exact .inr v7
    ·cases h
   ·cases h
  ·cases h
 ·rename_i cs
  cases h2:jj wk cs G with
  | mk c' q=>
  obtain ⟨cs',G2⟩:=q
  rw [h2] at h
  injection h with h; injection h with h1 h; injection h with h3 h4
  subst h1 h3 h4
  cases hr with
  | agg hr qR=>
  obtain ⟨R',r1,r2,r3,r4,r5⟩:=nA hg hr h2
  exact ⟨R',r1,.agg r2 qR,r3,r4,r5⟩
 ·-- an object's cells never change again
  rename_i id
  split at h
  ·rename_i cs el hid
   injection h with h; injection h with h1 h; injection h with h2 h3
   subst h2 h3
   cases hr with
   | @ptr _ _ b bj=>
   obtain ⟨vs,b1,b2,b3,b4⟩:=hg.obj id _ _ hid bj
   have r2:=lm R w b
   have r1:=hg.freeze bj rfl (show eB (R.all b) w .dead (.bn b) from aQ b1)
   refine ⟨R.all b,r1,Rel.ep (cG.make (b2.mono r2) b3 (fun j v hv=>?_) (fun j _=>.inr rfl)),r2,rfl,fun b' o hi=>?_⟩
   ·rw [fM b1,Nat.zero_add]
    exact hv
   ·rcases hi with hi | rfl
    ·exact .inl hi
    ·exact .inr ⟨id,_,bj,rfl⟩
  ·cases h
 ·cases h
theorem qC {cut wk:Bool}:∀ {ts:List TypeId} {rs Db:List AV} {G G':List GO} {cs:List Value} {R:ah},cu E R w G→aA R w rs cs→sx E cut wk ts rs G=(true,Db,G') →
  ∃ R',cu E R' w G'∧aA R' w Db cs∧Ext R w R' w∧R'.obj=R.obj∧∀ b o,R'.I b o→R.I b o∨Live R b
 | [],rs,Db,G,G',cs,R,hg,hr,h=>by
  cases rs <;> (simp only [sx] at h; cases h; exact ⟨R,hg,hr,Ext.refl R w,rfl,fun _ _ h=>.inl h⟩)
 | _ :: _,[],Db,G,G',cs,R,hg,hr,h=>by
  simp only [sx] at h; cases h; exact ⟨R,hg,hr,Ext.refl R w,rfl,fun _ _ h=>.inl h⟩
 | t :: ts,r :: rs,Db,G,G',cs,R,hg,hr,h=>by
  cases hr with
  | cons h0 hr=>
  unfold sx at h
  split at h
  ·rename_i c r' G1 h1
   cases h2:sx E cut wk ts rs G1 with
   | mk c' q=>
   obtain ⟨MP,G2⟩:=q
   rw [h2] at h
   simp only [Prod.mk.injEq,Bool.and_eq_true] at h
   obtain ⟨⟨rfl,rfl⟩,rfl,rfl⟩:=h
   obtain ⟨R1,a1,a2,a3,a4,a5⟩:=FJ hg h0 h1
   obtain ⟨R2,b1,b2,b3,b4,b5⟩:=qC a1 (hr.mono a3) h2
   refine ⟨R2,b1,.cons (a2.mono b3) b2,a3.trans b3,b4.trans a4,fun b o ho=>?_⟩
   rcases b5 b o ho with ho | ho
   ·exact a5 b o ho
   ·obtain ⟨id,ro,q1,q2⟩:=ho
    rw [a4] at q1
    exact .inr ⟨id,ro,q1,q2⟩
  ·cases h2:sx E cut wk ts rs G with
   | mk c' q=>
   obtain ⟨MP,G2⟩:=q
   rw [h2] at h
   simp only [Prod.mk.injEq] at h
   obtain ⟨rfl,rfl,rfl⟩:=h
   obtain ⟨R2,b1,b2,b3,b4,b5⟩:=qC hg hr h2
   exact ⟨R2,b1,.cons (h0.mono b3) b2,b3,b4,b5⟩
theorem bR.S9 {g:FuncId} {args:List AV} {G:List GO} {X:Type} {cut wk:Bool} {ts:List TypeId} {K:AV→List GO→Option X} {x:X} (h:bR E g args G (fun r G'=>Kf E cut wk ts K r G'=some x)):bR E g args G (fun r G'=>K r G'=some x):=
 ⟨h.1,fun R w cs hg hl=>(h.2 R w cs hg hl).mono fun e w' he=>by
  cases e with
  | panicked c=>exact he.elim
  | outgrown=>exact he.elim
  | returned c=>
   obtain ⟨r,G',R1,hq,dp,Kd,st⟩:=he
   have fin:∀ (r':AV) (G2:List GO) (R2:ah),K r' G2=some x→cu E R2 w' G2→Rel R2 w' r' c→Ext R1 w' R2 w'→R2.obj=R1.obj→(∀ b o,R2.I b o→R1.I b o∨Live R1 b)→Aj E R w (fun r G'=>K r G'=some x) (.returned c) w':=by
    intro r' G2 R2 k1 k2 k3 k4 k5 k6
    have live:∀ b,Live R2 b→Live R1 b:=fun b ⟨id,ro,q1,q2⟩=>⟨id,ro,by rw [← k5]; exact q1,q2⟩
    refine ⟨r',G2,R2,k1,k3,k2,⟨st.ext.trans k4,st.os,st.tape,st.output,st.size,st.bA,fun b hb ho=>?_,fun b o hi hb hn=>?_⟩⟩
    ·rcases ho with ho | ⟨k,cs,hk,rfl⟩
     ·exact st.own b hb (.inl (live b ho))
     ·simp [dE,cz] at hk
    ·rcases k6 b o hi with hi | hi
     ·exact st.im b o hi hb hn
     ·exact absurd (st.own b hb (.inl hi)) hn
   unfold Kf at hq
   split at hq
   ·rename_i rs
    cases dp with
    | aR dp=>
    cases h2:sx E cut wk ts rs G' with
    | mk c' q=>
    obtain ⟨MP,G2⟩:=q
    rw [h2] at hq
    cases c' with
    | false=>cases hq
    | true=>
     obtain ⟨R2,b1,b2,b3,b4,b5⟩:=qC Kd dp h2
     exact fin (.aR MP) G2 R2 hq b1 (.aR b2) b3 b4 b5
   ·split at hq
    ·rename_i c' r' G2 h2
     cases c' with
     | false=>cases hq
     | true=>
      obtain ⟨R2,b1,b2,b3,b4,b5⟩:=qC Kd (.cons dp .nil) h2
      cases b2 with
      | cons b2 _=>exact fin r' G2 R2 hq b1 b2 b3 b4 b5
    ·cases hq⟩
end
end Go.Am
namespace Go.Am
open Go
inductive RP
 | IP (p:av)
 | map (pe:av)
 | ep (ps:aB)
def RP.T:RP→Type
 | .IP p=>p.T
 | .map pe=>List pe.T
 | .ep ps=>ps.T
def RP.enc (n:Nat):(p:RP)→p.T→AV
 | .IP p,x=>p.enc x
 | .map _,_=>.map n
 | .ep ps,x=>.ep (ps.enc x)
def RP.zt:(p:RP)→p.T→List GO
 | .IP _,_=>[]
 | .map pe,(x:List pe.T)=>[.map (ab (x.map pe.enc))]
 | .ep _,_=>[]
def RP.no:RP→Nat
 | .map _=>1
 | _=>0
def oN:List RP→Type
 | []=>Unit
 | [p]=>p.T
 | p :: q :: l=>p.T × oN (q :: l)
def kU:(n:Nat)→(l:List RP)→oN l→List AV
 | _,[],_=>[]
 | n,[p],x=>[p.enc n x]
 | n,p :: q :: l,x=>p.enc n x.1 :: kU (n+p.no) (q :: l) x.2
def eN:(l:List RP)→oN l→List GO
 | [],_=>[]
 | [p],x=>p.zt x
 | p :: q :: l,x=>p.zt x.1++eN (q :: l) x.2
structure RF where
 aR:Bool
 l:List RP
def RF.val (f:RF) (n:Nat) (x:oN f.l):AV:=bif f.aR then .aR (kU n f.l x) else cP (kU n f.l x)
def RP.is:RP→AV→Bool
 | .IP p,v=>match p with
  | .qm u=>cO v u
  | _=>true
 | .map _,v=>match v with
  | .map _=>true
  | _=>false
 | .ep _,v=>match v with
  | .ep _=>true
  | _=>false
def Dc:List RP→List AV→Bool
 | [],[]=>true
 | p :: l,v :: vs=>p.is v&&Dc l vs
 | _,_=>false
def RF.args (f:RF) (r:AV):List AV:=bif f.aR then r.Jl else [r]
def RF.ur (f:RF):AV→Bool
 | .aR _=>f.aR
 | _=>!f.aR
def vl (G:List GO) (used:List Nat) (pe:av) (v:AV):Option (List pe.T):=match v with
 | .map id=>match nth G id with
  | some (.map es)=>bif E7 used id then none else (bif allFit pe.fits (aq es) then some ((aq es).map pe.aX) else none)
  | _=>none
 | _=>none
def Ay (ps:aB) (v:AV):Option ps.T:=match v with
 | .ep cs=>ps.dec cs
 | _=>none
def RP.dec (G:List GO) (used:List Nat):(p:RP)→AV→Option p.T
 | .IP p,v=>p.dec v
 | .map pe,v=>vl G used pe v
 | .ep ps,v=>Ay ps v
def oO (used:List Nat):AV→List Nat
 | .map id=>id :: used
 | _=>used
def oP (G:List GO):(used:List Nat)→(l:List RP)→List AV→Option (oN l)
 | _,[],vs=>match vs with
  | []=>some ()
  | _=>none
 | u,[p],vs=>match vs with
  | [v]=>p.dec G u v
  | _=>none
 | u,p :: q :: l,vs=>match vs with
  | v :: vs=>(p.dec G u v).bind fun x=>(oP G (oO u v) (q :: l) vs).bind fun y=>some (x,y)
  | []=>none
def RF.dec (f:RF) (G:List GO) (r:AV):Option (oN f.l):=bif f.ur r then oP G [] f.l (f.args r) else none
def RP.under:RP→Bool
 | .IP p=>p.under 0
 | .map pe=>pe.under 0
 | .ep ps=>ps.under 0
def RF.under (f:RF):Bool:=f.l.all RP.under&&(f.aR || Nat.beq f.l.length 1)
def XT:List RF→Type
 | []=>Empty
 | [f]=>oN f.l
 | f :: g :: l=>oN f.l ⊕ XT (g :: l)
def Dd (G:List GO) (r:AV):(l:List RF)→Option (XT l)
 | []=>none
 | [f]=>f.dec G r
 | f :: g :: l=>bif f.ur r&&Dc f.l (f.args r) then (f.dec G r).bind fun x=>some (.inl x) else (Dd G r (g :: l)).bind fun x=>some (.inr x)
def LZ {α:Type} (G:List GO) (K:AV→List GO→α):(l:List RF)→XT l→α
 | [],o=>Empty.rec (fun _=>α) o
 | [f],o=>K (f.val G.length o) (G++eN f.l o)
 | f :: g :: l,o=>Sum.elim (fun v=>K (f.val G.length v) (G++eN f.l v)) (fun o=>LZ G K (g :: l) o) o
theorem xh {α:Type} {G:List GO} {K:AV→List GO→α} {r:AV} {G':List GO}:∀ (l:List RF) (o:XT l),LZ G (fun r0 G0=>r=r0∧G'=G0) l o→K r G'=LZ G K l o
 | [],o,_=>nomatch o
 | [f],o,h=>by
  have h:r=f.val G.length o∧G'=G++eN f.l o:=h
  rw [h.1,h.2]; rfl
 | f :: g :: l,.inl v,h=>by
  have h:r=f.val G.length v∧G'=G++eN f.l v:=h
  rw [h.1,h.2]; rfl
 | f :: g :: l,.inr o,h=>xh (g :: l) o h
def sB (E:Env) (g:FuncId) (args:List AV) (outs:List RF) (Q:XT outs→Prop):Prop:=
 ∀ G,bR E g args G (fun r G'=>∃ y,Q y∧LZ G (fun r0 G0=>r=r0∧G'=G0) outs y)
section
variable {E:Env} {R R1 R2:ah} {w:World}
theorem ck.IQ (m:Mv R R2 0):∀ {es:List (AV × AV)} {l:List AV} {ar:List MapEntry},gk (aq es) l→ax 0 l=true→ck R w es ar→ck R2 w (ab l) ar
 | [],[],[],_,_,_=>trivial
 | [],[],_ :: _,_,_,h=>h.elim
 | [],_ :: _,_,h,_,_=>h.elim
 | (_,_) :: _,[],_,h,_,_=>h.elim
 | (_,_) :: _,_ :: _,[],_,_,h=>h.elim
 | (k,v) :: es,a :: l,en :: ar,hd,hu,h=>by
  obtain ⟨d1,d2⟩:=hd
  simp only [ax,Bool.and_eq_true] at hu
  have hc:=d1.cells rfl
  have hl:[k,v].length=a.cells.length:=hc.length
  cases a with
  | agg cs=>
   match cs,hc,hl with
   | [k',v'],hc,_=>
    have Ka:ax 0 [k',v']=true:=hu.1
    simp only [ax,Bool.and_true,Bool.and_eq_true] at Ka
    exact ⟨(hc.1 _ _ _ h.1).move m Ka.1,(hc.2.1 _ _ _ h.2.1).move m Ka.2,ck.IQ m d2 hu.2 h.2.2⟩
   | [],_,hl=>simp [AV.cells] at hl
   | [_],_,hl=>simp [AV.cells] at hl
   | _ :: _ :: _ :: _,_,hl=>simp [AV.cells] at hl
  | _=>simp [AV.cells] at hl
theorem av.sC {p:av} (h:p.under 0=true):∀ l:List p.T,ax 0 (l.map p.enc)=true
 | []=>rfl
 | x :: l=>by
  show ((p.enc x).under 0&&ax 0 (l.map p.enc))=true
  rw [p.cp x h,av.sC h l]
  rfl
def sD (R:ah) (n:Nat) (bs:List Nat):Prop:=∀ k b,nth bs k=some b→nth R.obj (n+k)=some (.bn b)
def Az (R:ah) (w:World) (gs:List GO) (bs:List Nat):Prop:=∀ k go b,nth gs k=some go→nth bs k=some b→eB R w go (.bn b)
theorem RP.IR (p:RP) (x:p.T):(p.zt x).length=p.no:=by cases p <;> rfl
theorem De {ps:aB} {v:AV} {y:ps.T} (h:Ay ps v=some y):∃ cs,v=.ep cs∧ps.dec cs=some y:=by
 unfold Ay at h
 split at h
 ·exact ⟨_,rfl,h⟩
 ·cases h
theorem BB {G:List GO} {used:List Nat} {pe:av} {v:AV} {y:List pe.T} (h:vl G used pe v=some y):∃ id es,v=.map id∧nth G id=some (.map es)∧id∉used∧gk (aq es) (y.map pe.enc):=by
 unfold vl at h
 split at h
 ·rename_i id
  split at h
  ·rename_i es BY
   cases hu:E7 used id with
   | true=>rw [hu] at h; cases h
   | false=>
    rw [hu,cond_false] at h
    cases hf:allFit pe.fits (aq es) with
    | false=>rw [hf] at h; cases h
    | true=>
     rw [hf,cond_true] at h
     have hy:=Option.some.inj h
     refine ⟨id,es,rfl,BY,fun hm=>?_,?_⟩
     ·rw [vc.2 hm] at hu; cases hu
     ·rw [← hy]; exact gk.of (fun v hv=>pe.bQ hv) hf
  ·cases h
 ·cases h
theorem zu {used:List Nat} {v:AV} {id:Nat} (h:id∈used):id∈oO used v:=by
 unfold oO
 split
 ·exact List.mem_cons_of_mem _ h
 ·exact h
def vm (R1:ah) (w:World) (used:List Nat) (v:AV) (c:Value) (p:RP) (y:p.T):Prop:=
 ∃ bs:List Nat,bs.length=p.no∧(∀ b∈bs,∃ id,id∉used∧id∈oO used v∧nth R1.obj id=some (.bn b)) ∧
   ∀ (R2:ah) (n:Nat),(∀ b o,R1.I b o→R2.I b o)→sD R2 n bs→Rel R2 w (p.enc n y) c∧Az R2 w (p.zt y) bs
theorem P4 {R1 R2:ah} (hI:∀ b o,R1.I b o→R2.I b o):Mv R1 R2 0:=⟨hI,fun _ _ h=>absurd h (Nat.not_lt_zero _)⟩
theorem RP.Kg {used:List Nat} {p:av} {v:AV} {c:Value} {y:p.T} (hp:p.under 0=true) (hv:Rel R1 w v c) (hd:p.dec v=some y):vm R1 w used v c (.IP p) y:=
 ⟨[],rfl,(fun b hb=>by cases hb),fun R2 n hI _=>⟨Rel.move (P4 hI) (p.cp y hp) ((p.mh hd).eu _ _ _ hv),fun k go b h=>by cases k <;> cases h⟩⟩
theorem RP.Nk {used:List Nat} {ps:aB} {v:AV} {c:Value} {y:ps.T} (hp:ps.under 0=true) (hv:Rel R1 w v c) (hd:Ay ps v=some y):vm R1 w used v c (.ep ps) y:=by
 obtain ⟨cs,rfl,hd⟩:=De hd
 cases hv with
 | ep hc=>
 exact ⟨[],rfl,(fun b hb=>by cases hb),fun R2 n hI _=>⟨.ep (cG.move (P4 hI) ((ps.mh hd).1.Cc hc) (ps.cp y hp)),fun k go b h=>by cases k <;> cases h⟩⟩
theorem RP.Kh {G1:List GO} (hg:cu E R1 w G1) {used:List Nat} {pe:av} {v:AV} {c:Value} {y:List pe.T} (hp:pe.under 0=true) (hv:Rel R1 w v c) (hd:vl G1 used pe v=some y):vm R1 w used v c (.map pe) y:=by
 obtain ⟨id,es,rfl,BY,hu,Ta⟩:=BB hd
 cases hv with
 | map hb=>
 rename_i b
 refine ⟨[b],rfl,fun b' iU=>?_,fun R2 n hI km=>⟨.map (by have:=km 0 b rfl; simpa using this),fun k go b' h1 h2=>?_⟩⟩
 ·rw [List.mem_singleton] at iU
  subst iU
  exact ⟨id,hu,List.mem_cons_self,hb⟩
 ·cases k with
  | succ k=>cases h2
  | zero=>
   cases h1; cases h2
   obtain ⟨ar,clock,e1,e2,e3⟩:=hg.obj id _ _ BY hb
   exact ⟨ar,clock,e1,ck.IQ (P4 hI) Ta (av.sC hp y) e2,e3⟩
theorem RP.ok {G1:List GO} (hg:cu E R1 w G1) {used:List Nat} {p:RP} {v:AV} {c:Value} {y:p.T} (hp:p.under=true) (hv:Rel R1 w v c) (hd:p.dec G1 used v=some y):vm R1 w used v c p y:=by
 cases p with
 | IP p=>exact RP.Kg hp hv hd
 | ep ps=>exact RP.Nk hp hv hd
 | map pe=>exact RP.Kh hg hp hv hd
theorem ej {α:Type} {l r:List α} {i:Nat} (h:i < l.length):nth (l++r) i=nth l i:=by
 rw [aJ,aJ,List.getElem?_append_left h]
theorem dB {α:Type} {l r:List α} (i:Nat):nth (l++r) (l.length+i)=nth r i:=by
 rw [aJ,aJ,List.getElem?_append_right (Nat.le_add_right _ _),Nat.add_sub_cancel_left]
theorem lA {α:Type} {l:List α} {i:Nat} {x:α} (h:nth l i=some x):i < l.length:=by
 rw [aJ] at h
 exact (List.getElem?_eq_some_iff.1 h).1
theorem RA.ok {G1:List GO} (hg:cu E R1 w G1):∀ {l:List RP} {used:List Nat} {vs:List AV} {cs:List Value} {y:oN l},l.all RP.under=true→aA R1 w vs cs→oP G1 used l vs=some y →
  ∃ bs:List Nat,bs.length=(eN l y).length∧bs.Nodup∧(∀ b∈bs,∃ id,id∉used∧nth R1.obj id=some (.bn b)) ∧
   ∀ (R2:ah) (n:Nat),(∀ b o,R1.I b o→R2.I b o)→sD R2 n bs→aA R2 w (kU n l y) cs∧Az R2 w (eN l y) bs
 | [],used,vs,cs,y,_,hv,hd=>by
  cases vs with
  | cons _ _=>cases hd
  | nil=>
  cases hv
  exact ⟨[],rfl,List.nodup_nil,(fun b hb=>by cases hb),fun R2 n _ _=>⟨.nil,fun k go b h=>by simp [eN,nth] at h⟩⟩
 | [p],used,vs,cs,y,hu,hv,hd=>by
  match vs,hv,hd with
  | [],_,hd=>cases hd
  | _ :: _ :: _,_,hd=>cases hd
  | [v],.cons hv .nil,hd=>
  have hu:p.under=true:=by simpa using hu
  obtain ⟨bs,h1,h2,h4⟩:=RP.ok hg hu hv hd
  refine ⟨bs,h1.trans (p.IR y).symm,?_,fun b hb=>let ⟨id,q1,_,q2⟩:=h2 b hb; ⟨id,q1,q2⟩,fun R2 n hI km=>?_⟩
  ·have:bs.length≤1:=by rw [h1]; cases p <;> simp [RP.no]
   match bs,this with
   | [],_=>exact List.nodup_nil
   | [b],_=>simp
   | _ :: _ :: _,h=>simp at h
  ·obtain ⟨k1,k2⟩:=h4 R2 n hI km
   exact ⟨.cons k1 .nil,k2⟩
 | p :: q :: l,used,vs,cs,y,hu,hv,hd=>by
  match vs,hv,hd with
  | [],_,hd=>cases hd
  | v :: vs,.cons (c:=c) (cs:=cs) hv PP,hd=>
  simp only [List.all_cons,Bool.and_eq_true] at hu
  obtain ⟨Tb,P5⟩:=hu
  have P5:(q :: l).all RP.under=true:=by simpa using P5
  have hd:((p.dec G1 used v).bind fun x=>(oP G1 (oO used v) (q :: l) vs).bind fun y=>some (x,y))=some y:=hd
  cases hx:p.dec G1 used v with
  | none=>rw [hx] at hd; cases hd
  | some x=>
  rw [hx] at hd
  simp only [Option.bind_some] at hd
  cases hz:oP G1 (oO used v) (q :: l) vs with
  | none=>rw [hz] at hd; cases hd
  | some z=>
  rw [hz] at hd
  simp only [Option.bind_some] at hd
  cases hd
  obtain ⟨bs,h1,h2,h4⟩:=RP.ok hg Tb hv hx
  obtain ⟨RB,k1,k0,k2,k4⟩:=RA.ok hg P5 PP hz
  have Fp:bs.length=(p.zt x).length:=h1.trans (p.IR x).symm
  refine ⟨bs++RB,?_,?_,fun b hb=>?_,fun R2 n hI km=>?_⟩
  ·show _=(p.zt x++eN (q :: l) z).length
   rw [List.length_append,List.length_append,Fp,k1]
  ·have BW:bs.Nodup:=by
    have:bs.length≤1:=by rw [h1]; cases p <;> simp [RP.no]
    match bs,this with
    | [],_=>exact List.nodup_nil
    | [b],_=>simp
    | _ :: _ :: _,h=>simp at h
   rw [List.nodup_append]
   refine ⟨BW,k0,fun a ha b hb e=>?_⟩
   subst e
   obtain ⟨id,_,q2,q3⟩:=h2 a ha
   obtain ⟨fU,r1,r2⟩:=k2 a hb
   have:id=fU:=hg.inj id fU _ _ a q3 r2 rfl rfl
   subst this
   exact r1 q2
  ·rcases List.mem_append.1 hb with hb | hb
   ·obtain ⟨id,q1,_,q2⟩:=h2 b hb
    exact ⟨id,q1,q2⟩
   ·obtain ⟨id,q1,q2⟩:=k2 b hb
    exact ⟨id,fun hm=>q1 (zu hm),q2⟩
  ·have Tc:sD R2 n bs:=fun k b hk=>km k b (by rw [ej (lA hk)]; exact hk)
   have Td:sD R2 (n+p.no) RB:=fun k b hk=>by
    have:=km (bs.length+k) b (by rw [dB]; exact hk)
    rw [h1] at this
    rw [Nat.add_assoc]; exact this
   obtain ⟨a1,a2⟩:=h4 R2 n hI Tc
   obtain ⟨b1,b2⟩:=k4 R2 (n+p.no) hI Td
   refine ⟨.cons a1 b1,fun k go b e9 hb=>?_⟩
   change nth (p.zt x++eN (q :: l) z) k=some go at e9
   rcases Nat.lt_or_ge k bs.length with hk | hk
   ·rw [ej (by rw [← Fp]; exact hk)] at e9
    rw [ej hk] at hb
    exact a2 k go b e9 hb
   ·obtain ⟨j,rfl⟩:∃ j,k=bs.length+j:=⟨k - bs.length,by omega⟩
    rw [dB] at hb
    rw [Fp,dB] at e9
    exact b2 j go b e9 hb
theorem sE:∀ (l:List RP) (n:Nat) (y:oN l),(kU n l y).length=l.length
 | [],_,_=>rfl
 | [_],_,_=>rfl
 | p :: q :: l,n,y=>by
  show (kU (n+p.no) (q :: l) y.2).length+1=(q :: l).length+1
  rw [sE (q :: l)]
theorem sB.Te {R0:ah} {w0:World} {f:RF} {G G1:List GO} {r:AV} {c:Value} {y:oN f.l} (hf:f.under=true) (hG:cu E R0 w0 G) (st:Step ⟨R0.I,[]⟩ w0 (fun _=>0) dE R1 w (fun _=>0) dE) (hg:cu E R1 w G1) (dp:Rel R1 w r c) (hd:f.dec G1 r=some y) :
  ∃ R2,Rel R2 w (f.val G.length y) c∧cu E R2 w (G++eN f.l y)∧Step R0 w0 (fun _=>0) dE R2 w (fun _=>0) dE:=by
 unfold RF.under at hf
 rw [Bool.and_eq_true] at hf
 unfold RF.dec at hd
 obtain ⟨ht,hd⟩:f.ur r=true∧oP G1 [] f.l (f.args r)=some y:=by
  cases ht:f.ur r with
  | true=>rw [ht] at hd; exact ⟨rfl,hd⟩
  | false=>rw [ht] at hd; cases hd
 obtain ⟨cs,mP,Nl⟩:∃ cs,aA R1 w (f.args r) cs∧∀ R2 (x:oN f.l) n,aA R2 w (kU n f.l x) cs→Rel R2 w (f.val n x) c:=by
  unfold RF.args RF.val
  cases P6:f.aR with
  | true=>
   have:∃ vs,r=.aR vs:=by
    cases r <;> first | exact ⟨_,rfl⟩ | (simp [RF.ur,P6] at ht)
   obtain ⟨vs,rfl⟩:=this
   cases dp with
   | aR h=>exact ⟨_,h,fun R2 x n h=>.aR h⟩
  | false=>
   refine ⟨[c],.cons dp .nil,fun R2 x n h=>?_⟩
   simp only [cond_false]
   have hlen:=sE f.l n x
   revert h hlen
   generalize kU n f.l x=l
   intro h hlen
   cases h with
   | cons h _=>exact h
 obtain ⟨bs,h1,h2,h3,h4⟩:=RA.ok hg hf.1 mP hd
 have gS:∀ b,¬ Own (⟨R0.I,[]⟩:ah) (fun _=>0) dE b:=fun b ho=>by
  obtain ⟨id,ro,q1,_⟩:=dy ho
  simp [nth] at q1
 have nh:∀ b∈bs,w0.heap.size≤b:=fun b hb=>by
  obtain ⟨id,_,hid⟩:=h3 b hb
  rcases Nat.lt_or_ge b w0.heap.size with bD | qO
  ·exact absurd (st.own b bD (.inl ⟨id,_,hid,rfl⟩)) (gS b)
  ·exact qO
 let R2:ah:=⟨R1.I,R0.obj++bs.map RO.bn⟩
 have e:Ext R0 w0 R2 w:=⟨st.ext.I,st.ext.cell,fun id ro h=>⟨ro,by rw [ej (lA h)]; exact h,bF.refl ro⟩,st.ext.lp⟩
 have bA:∀ b,b < w0.heap.size→w.heap[b]?=w0.heap[b]?:=fun b hb=>st.bA b hb (gS b)
 have im:∀ b o,b < w0.heap.size→R1.I b o→R0.I b o:=fun b o hb hi=>st.im b o hi hb (gS b)
 have P7:∀ {k ro},nth (bs.map RO.bn) k=some ro→∃ b,nth bs k=some b∧ro=.bn b:=fun {k ro} h=>by
  rw [aJ,List.getElem?_map] at h
  cases hb:bs[k]? with
  | none=>rw [hb] at h; cases h
  | some b=>rw [hb] at h; exact ⟨b,by rw [aJ]; exact hb,(Option.some.inj h).symm⟩
 have km:sD R2 R0.obj.length bs:=fun k b hk=>by
  show nth (R0.obj++bs.map RO.bn) (R0.obj.length+k)=_
  rw [dB,aJ,List.getElem?_map]
  rw [aJ] at hk
  rw [hk]; rfl
 obtain ⟨k1,k2⟩:=h4 R2 R0.obj.length (fun _ _ h=>h) km
 rw [hG.len] at k1
 have hold:∀ id ro,nth R2.obj id=some ro→nth R0.obj id=some ro∨∃ k b,id=R0.obj.length+k∧nth bs k=some b∧ro=.bn b:=fun id ro h=>by
  rcases Nat.lt_or_ge id R0.obj.length with bD | qO
  ·exact .inl (by rw [← ej (r:=bs.map RO.bn) bD]; exact h)
  ·obtain ⟨k,rfl⟩:∃ k,id=R0.obj.length+k:=⟨id - R0.obj.length,by omega⟩
   have h:nth (R0.obj++bs.map RO.bn) (R0.obj.length+k)=some ro:=h
   rw [dB] at h
   obtain ⟨b,q1,q2⟩:=P7 h
   exact .inr ⟨k,b,rfl,q1,q2⟩
 have IS:∀ id ro b,nth R0.obj id=some ro→ro.has b→b < w0.heap.size:=fun id ro b h hb=>by
  have hl:=lA h
  rw [hG.len] at hl
  have e9:nth G id=some G[id]:=by rw [aJ]; exact List.getElem?_eq_getElem hl
  exact (hG.obj id _ _ e9 h).lt hb
 have Ki:∀ {k b},nth bs k=some b→b∈bs:=fun {k b} h=>by
  rw [aJ] at h
  exact List.mem_of_getElem? h
 refine ⟨R2,Nl R2 y _ k1,⟨?_,fun id go ro q1 q2=>?_,fun i j ri rj b q1 q2 b1 b2=>?_,hg.wf,fun g cs n4=>(hG.bY g cs n4).mono e,hg.lo⟩,⟨e,st.os,st.tape,st.output,st.size,fun b hb _=>bA b hb,fun b hb ho=>?_,fun b o hi hb _=>im b o hb hi⟩⟩
 ·show (R0.obj++bs.map RO.bn).length=_
  rw [List.length_append,List.length_map,List.length_append,hG.len,h1]
 ·rcases hold id ro q2 with q2 | ⟨k,b,rfl,q3,rfl⟩
  ·have hl:=lA q2
   rw [hG.len] at hl
   rw [ej hl] at q1
   refine (hG.obj id go ro q1 q2).mono e (fun b hb=>bA b ?_) (fun b o hb hi=>im b o ?_ hi)
   ·exact (hG.obj id go ro q1 q2).lt hb
   ·exact (hG.obj id go ro q1 q2).lt hb
  ·rw [hG.len,dB] at q1
   exact k2 k go b q1 q3
 ·rcases hold i ri q1 with q1 | ⟨k,a,rfl,q3,rfl⟩
  ·rcases hold j rj q2 with q2 | ⟨k',a',rfl,q4,rfl⟩
   ·exact hG.inj i j ri rj b q1 q2 b1 b2
   ·have:b=a':=b2
    subst this
    have:=nh _ (Ki q4)
    have:=IS i ri b q1 b1
    omega
  ·have Tf:b=a:=b1
   subst Tf
   rcases hold j rj q2 with q2 | ⟨k',a',rfl,q4,rfl⟩
   ·have:=nh _ (Ki q3)
    have:=IS j rj b q2 b2
    omega
   ·have:b=a':=b2
    subst this
    have l1:=lA q3
    have l2:=lA q4
    rw [aJ] at q3 q4
    have:=(List.getElem?_inj l1 h2).1 (q3.trans q4.symm)
    omega
 ·rcases dy ho with ⟨id,ro,q1,q2⟩
  rcases hold id ro q1 with q1 | ⟨k,a,rfl,q3,rfl⟩
  ·exact .inl ⟨id,ro,q1,q2⟩
  ·have:b=a:=q2
   subst this
   have:=nh _ (Ki q3)
   omega
theorem AA {G1:List GO} {r:AV}:∀ {outs:List RF} {y:XT outs},Dd G1 r outs=some y→(∀ f∈outs,f.under=true) →
  ∃ (f:RF) (z:oN f.l),f.under=true∧f.dec G1 r=some z∧∀ {α:Type} (G:List GO) (K:AV→List GO→α),LZ G K outs y=K (f.val G.length z) (G++eN f.l z)
 | [],_,h,_=>by cases h
 | [f],y,h,hu=>⟨f,y,hu f (by simp),h,fun _ _=>rfl⟩
 | f :: g :: l,y,h,hu=>by
  simp only [Dd] at h
  cases hb:(f.ur r&&Dc f.l (f.args r)) with
  | true=>
   rw [hb] at h
   simp only [cond_true] at h
   cases hx:f.dec G1 r with
   | none=>rw [hx] at h; cases h
   | some x=>
    rw [hx] at h
    cases h
    exact ⟨f,x,hu f (by simp),hx,fun _ _=>rfl⟩
  | false=>
   rw [hb] at h
   simp only [cond_false] at h
   cases hx:Dd G1 r (g :: l) with
   | none=>rw [hx] at h; cases h
   | some x=>
    rw [hx] at h
    cases h
    obtain ⟨f',z,k0,k1,k2⟩:=AA hx (fun f hf=>hu f (List.mem_cons_of_mem _ hf))
    exact ⟨f',z,k0,k1,fun G K=>k2 G K⟩
theorem sB.of {g:FuncId} {args:List AV} {outs:List RF} {Q:XT outs→Prop} (hc:ax 0 args=true) (hp:∀ f∈outs,f.under=true)
  (h:bR E g args [] (fun r G'=>∃ y,Dd G' r outs=some y∧Q y)):sB E g args outs Q:=fun G=>by
 refine ⟨h.1,fun R w cs hg hl=>?_⟩
 let R0:ah:=⟨R.I,[]⟩
 have m0:Mv R R0 0:=⟨fun _ _ h=>h,fun _ _ h=>absurd h (Nat.not_lt_zero _)⟩
 have IA:cu E R0 w []:=⟨rfl,fun id go ro h1 _=>by simp [nth] at h1,fun i j ri rj b h1=>by simp [R0,nth] at h1,hg.wf,fun g cs n4=>(hg.bY g cs n4).move m0 (bH _ (E.mf g cs n4)),hg.lo⟩
 have q9:aA R0 w args cs:=hl.move m0 hc
 refine (h.2 R0 w cs IA q9).mono fun e w' he=>?_
 cases e with
 | panicked c=>exact he.elim
 | outgrown=>exact he.elim
 | returned c=>
  obtain ⟨r,G',R1,⟨y,hy,hQ⟩,dp,Kd,st⟩:=he
  obtain ⟨f,z,hf,hz,e9⟩:=AA hy hp
  obtain ⟨R2,k1,k2,k3⟩:=sB.Te hf hg st Kd dp hz
  refine ⟨_,_,R2,⟨y,hQ,?_⟩,k1,k2,k3⟩
  rw [e9]
  exact ⟨rfl,rfl⟩
end
end Go.Am
namespace Go.Am
open Go
structure aV where
 ps:aB
 p:av
 T:ps.T→Option p.T
def ap (E:Env) (g:FuncId) (e:aV):Prop:=∀ x y,e.T x=some y→aN E g (e.ps.enc x) (fun r=>r=e.p.enc y)
inductive XK
 | norm
 | ret
 | ex (id:Nat)
def XK.is:XK→Exit→Bool
 | .norm,.normal=>true
 | .ret,.ret=>true
 | .ex i,.exit j=>Nat.beq i j
 | _,_=>false
def XK.exit:XK→Exit
 | .norm=>.normal
 | .ret=>.ret
 | .ex i=>.exit i
theorem XK.Au {k:XK} {e:Exit} (h:k.is e=true):e=k.exit:=by
 cases k <;> cases e <;> simp_all [XK.is,XK.exit]
def JT:List (XK × bJ)→Type
 | []=>Empty
 | [x]=>x.2.ps.T
 | x :: y :: l=>x.2.ps.T ⊕ JT (y :: l)
def iC (s:St):(outs:List (XK × bJ))→Exit→St→Option (JT outs)
 | [],_,_=>none
 | [x],e,s'=>bif x.1.is e then x.2.dec s s' else none
 | x :: y :: l,e,s'=>bif x.1.is e then (x.2.dec s s').bind fun v=>some (.inl v) else (iC s (y :: l) e s').bind fun o=>some (.inr o)
def E9 {α:Type} (s:St):(outs:List (XK × bJ))→JT outs→(Exit→St→α)→α
 | [],o,_=>Empty.rec (fun _=>α) o
 | [x],o,K=>K x.1.exit (x.2.st s o)
 | x :: y :: l,o,K=>Sum.elim (fun v=>K x.1.exit (x.2.st s v)) (fun o=>E9 s (y :: l) o K) o
inductive e8
 | loop (gh:List (Loc × Nat × TypeId)) (head:bJ) (outs:List (XK × bJ))
 | join (outs:List (XK × bJ))
 | P8 (k:List Bool) (gh:List (Loc × Nat × TypeId)) (head:bJ) (outs:List (XK × bJ))
 | RC (n:Nat) (a b:e8)
 | jA (gh:List (Loc × Nat × TypeId)) (head:bJ) (outs:List (XK × bJ))
def Df (n:Nat):e8→e8
 | .RC m a b=>bif Nat.beq n m then Df n a else Df n b
 | c=>c
def cq {V X:Type} (rd:V→Option (V ⊕ X)):Nat→V→Option X
 | 0,_=>none
 | n+1,v=>(rd v).bind fun o=>Sum.elim (fun v'=>cq rd n v') (fun x=>some x) o
def jA {V X:Type} (rd:(V→Option X)→V→Option X):Nat→V→Option X
 | 0,_=>none
 | n+1,v=>rd (jA rd n) v
structure vn (E:Env) (g:FuncId) where
 f:List AV→List GO→Option (Bool × AV × List GO)
 ok:∀ args G r G',f args G=some (true,r,G')→bR E g args G (fun r' E8=>r'=r∧E8=G')
structure Kj (E:Env) (g:FuncId) where
 ps:aB
 outs:List RF
 T:ps.T→Option (XT outs)
 ok:∀ x y,T x=some y→sB E g (ps.enc x) outs (fun z=>z=y)
structure gD where
 D:C1
 zv:FuncId→Option aV
 tA:FuncId→Nat→Option e8
 fz:Bool
 N:Nat
 gt:(g:FuncId)→Option (vn D.toEnv g):=fun _=>none
 xt:(g:FuncId)→Option (Kj D.toEnv g):=fun _=>none
def mA {α:Type} (fz:Bool) (s:St) (K:St→α):α:=match fz with
 | true=>zi s K
 | false=>match s with
  | ⟨sl,bx,G,m,ro,n⟩=>K ⟨sl,bx,G,m,ro,n⟩
theorem bZ {α:Type} (fz:Bool) (s:St) (K:St→α):mA fz s K=K s:=by
 cases fz
 ·rfl
 ·exact Bw s K
abbrev kV (X:Type):=FuncId→List AV→List GO→(AV→List GO→Option X)→Option X
abbrev jb (X:Type):=Nat→List AV→List GO→(Bool→List GO→Option X)→Option X
section ev
variable {X:Type}
def vo (E:Env) (s:St) (o:Oper):Option (Int × Nat × (Nat→Oper)):=match o.op with
 | .index t x (.tmp y)=>match aY E s.ae (.tmp y),E.ti t with
  | .v (.int k n),some i=>match i.k with
   | .arr len _ _=>some (n,len,fun j=>{ o with op:=.index t x (.const (.int k j)) })
   | _=>none
  | _,_=>none
 | .indexAddr t x (.tmp y)=>match aY E s.ae (.tmp y),E.ti t with
  | .v (.int k n),some i=>match i.k with
   | .arr len _ _=>match aY E s.ae x with
    | .v (.ep _)=>none
    | _=>some (n,len,fun j=>{ o with op:=.indexAddr t x (.const (.int k j)) })
   | _=>none
  | _,_=>none
 | _=>none
def qD (E:Env) (fz:Bool) (f:FuncId) (g:Nat→Oper) (n:Int) (K:St→Option X) (s:St):Nat→Nat→Option X
 | 0,_=>none
 | m+1,j=>bif decide (n=(j:Int)) then (match aj E f s (g j) with
   | some (c,s')=>bif c then mA fz s' K else none
   | _=>none) else qD E fz f g n K s m (j+1)
def Kk (E:Env) (fz:Bool) (call:kV X) (iL:jb X) (f:FuncId) (o:Oper) (K:St→Option X) (s:St):Option X:=
 match o.op with
 | .call { callee:=.value x,args,.. }=>match aY E s.ae x,jf E s.ae args.toList with
  | .v (.fn g first cap),some l=>call g (first++l++cap) s.G (fun r G'=>mA fz ((s.bp G').put o.dst (.v r)) K)
  | .v (.yield id),some l=>iL id l s.G (fun b G'=>mA fz ((s.bp G').put o.dst (.v (.bool b))) K)
  | _,_=>none
 | .defer _=>none
 | .next x true=>match C8 s o.dst (aY E s.ae x) with
  | some (b,s1,s2)=>bif b then mA fz s1 K else mA fz s2 K
  | none=>none
 | .lookup t m k ok=>match qz E s t (aY E s.ae m) (aY E s.ae k) with
  | some (c,v,b)=>bif c then mA fz (s.put o.dst (.v (if ok then .aR [v,.bool b] else v))) K else none
  | none=>match aj E f s o with
   | some (c,s')=>bif c then mA fz s' K else none
   | _=>none
 | .mapUpdate t m k x=>match o.dst,qA E s t (aY E s.ae m) (aY E s.ae k) (aY E s.ae x) with
  | none,some (c,s')=>bif c then mA fz s' K else none
  | _,_=>none
 | .insert t m k x=>match o.dst,qA E s t (aY E s.ae m) (aY E s.ae k) (aY E s.ae x) with
  | none,some (c,s')=>bif c then mA fz s' K else none
  | _,_=>none
 | .call { callee:=.builtin .append,args,argTypes }=>match eA E f s o with
  | some (c,s')=>bif c then mA fz s' K else none
  | none=>match jf E s.ae args.toList with
   | some l=>match vi E s o.dst l argTypes.toList with
    | some (b,s1,c,s2)=>bif b then mA fz s1 K else bif c then mA fz s2 K else none
    | none=>match aj E f s o with
     | some (c,s')=>bif c then mA fz s' K else none
     | _=>none
   | none=>none
 | .call { callee:=.builtin .copy,args,argTypes }=>match jf E s.ae args.toList with
  | some l=>match Da E s o.dst l argTypes.toList with
   | some (c,s')=>bif c then mA fz s' K else none
   | none=>match aj E f s o with
    | some (c,s')=>bif c then mA fz s' K else none
    | _=>none
  | none=>none
 | _=>match vo E s o with
  | some (n,len,g)=>qD E fz f g n K s len 0
  | none=>match aj E f s o with
   | some (c,s')=>bif c then mA fz s' K else none
   | _=>none
def kW (E:Env) (fz:Bool) (call:kV X) (iL:jb X) (f:FuncId) (ops:List Oper) (o:Oper) (K:St→Option X) (s:St):Option X:=
 match o.guard with
 | none=>Kk E fz call iL f o K s
 | some (j,want)=>match kH ops j with
  | none=>none
  | some d=>match lk s.ae d with
   | .v (.bool b)=>match want with
    | true=>bif b then mA fz (s.put (some d) (.v (.bool true))) (Kk E fz call iL f o K) else mA fz ((s.put (some d) (.v (.bool false))).put o.dst (.v dL)) K
    | false=>bif b then mA fz ((s.put (some d) (.v (.bool true))).put o.dst (.v dL)) K else mA fz (s.put (some d) (.v (.bool false))) (Kk E fz call iL f o K)
   | .v (.aR [])=>mA fz (s.put o.dst (.v dL)) K
   | _=>none
def vp (E:Env) (fz:Bool) (call:kV X) (iL:jb X) (f:FuncId) (ops:List Oper) (o:Oper) (K:St→Option X) (s:St):Option X:=
 match o.guard,fJ E f s o with
 | none,some s'=>mA fz s' K
 | _,_=>kW E fz call iL f ops o K s
noncomputable def FK {X:Type} (l:List Nat) (F:Nat→Option X):Option X:=match l with
 | []=>none
 | i :: r=>@ite _ (∀ j∈r,F j=F i) (Classical.propDecidable _) (F i) none
theorem BC {X:Type} {l:List Nat} {F:Nat→Option X} {x:X} (h:FK l F=some x):∀ i∈l,F i=some x:=by
 cases l with
 | nil=>cases h
 | cons i r=>
  have h:@ite _ (∀ j∈r,F j=F i) (Classical.propDecidable _) (F i) none=some x:=h
  by_cases hr:∀ j∈r,F j=F i
  ·rw [if_pos hr] at h
   intro j hj
   rcases List.mem_cons.1 hj with rfl | hj
   ·exact h
   ·rw [hr j hj]; exact h
  ·rw [if_neg hr] at h
   cases h
theorem FL {X:Type} {l:List Nat} {F:Nat→Option X} {x:X} (hl:l≠[]) (h:∀ i∈l,F i=some x):FK l F=some x:=by
 cases l with
 | nil=>exact absurd rfl hl
 | cons i r=>
  show @ite _ (∀ j∈r,F j=F i) (Classical.propDecidable _) (F i) none=some x
  have hr:∀ j∈r,F j=F i:=fun j hj=>by rw [h j (List.mem_cons_of_mem _ hj),h i List.mem_cons_self]
  rw [if_pos hr]
  exact h i List.mem_cons_self
noncomputable def qE (E:Env) (fz:Bool) (call:kV X) (iL:jb X) (f:FuncId) (ops:List Oper) (o:Oper) (K:St→Option X) (s:St):Option X:=
 match o.guard,oZ E f s o,oh E s o with
 | none,some (c,s'),_=>bif c then mA fz s' K else none
 | none,none,some (c,s0,left,g)=>bif c then (bif left.isEmpty then mA fz s0 K else FK left fun i=>bif (g i).1 then mA fz (g i).2 K else none) else none
 | _,_,_=>vp E fz call iL f ops o K s
noncomputable def vq (E:Env) (fz:Bool) (call:kV X) (iL:jb X) (f:FuncId) (ops:List Oper) (o:Oper) (K:St→Option X) (s:St):Option X:=
 match AW E f s o with
 | some (c,s')=>bif c then qE E fz call iL f ops o K s' else none
 | none=>qE E fz call iL f ops o K s
noncomputable def FM (E:Env) (fz:Bool) (call:kV X) (iL:jb X) (f:FuncId) (ops:List Oper):List Oper→(St→Option X)→St→Option X
 | [],K,s=>K s
 | o :: rest,K,s=>vq E fz call iL f ops o (fun s'=>match ub E f o s' with
  | some s2=>FM E fz call iL f ops rest K s2
  | none=>none) s
def Kl (E:Env) (f:FuncId) (ops:List Oper) (o:Oper) (s:St):Bool:=match o.op,o.dst with
 | .lookup t m k ok,some d=>match vK ops s o,qz E s t (aY E s.ae m) (aY E s.ae k) with
  | some true,some (c,v,b)=>c&&u6 (.v (if ok then .aR [v,.bool b] else v)) (lk s.ae d)
  | _,_=>OL E f ops o s
 | _,_=>OL E f ops o s
def lB (E:Env) (f:FuncId) (ops:List Oper):List Nat→St→Bool
 | [],_=>true
 | k :: l,s=>(match nth ops k with
  | some ok=>Kl E f ops ok s
  | none=>true)&&lB E f ops l s
def oT (E:Env) (fz:Bool) (call:kV X) (iL:jb X) (df:Option X→Option X→Option X) (f:FuncId) (ops:List Oper):DT→(St→Option X)→St→Option X
 | .done,K,s=>K s
 | .take j _ t,K,s=>match nth ops j with
  | some oj=>kW E fz call iL f ops oj (oT E fz call iL df f ops t K) s
  | none=>none
 | .br i re _ t .stop,K,s=>match nth ops i with
  | some oi=>kW E fz call iL f ops oi (fun s'=>bif lB E f ops re s' then oT E fz call iL df f ops t K s' else none) s
  | none=>none
 | .br i re _ t more,K,s=>df (match nth ops i with
  | some oi=>kW E fz call iL f ops oi (fun s'=>bif lB E f ops re s' then oT E fz call iL df f ops t K s' else none) s
  | none=>none) (oT E fz call iL df f ops more K s)
 | .stop,_,_=>none
 | .al j W t,K,s=>match nth ops j with
  | some oj=>bif J2 E f oj W s then kW E fz call iL f ops oj (oT E fz call iL df f ops t K) s else none
  | none=>none
end ev
def uu {X:Type} (N:St→Option X) (Q:Exit→St→Option X):Exit→St→Option X
 | .normal,s=>N s
 | e,s=>Q e s
def Dg {X:Type} (id:Nat) (Q:Exit→St→Option X):Exit→St→Option X
 | .exit fU,s=>bif Nat.beq fU id then Q .normal s else Q (.exit fU) s
 | e,s=>Q e s
def Km {X:Type} (Q:Exit→St→Option X):Exit→St→Option X
 | .goto _,_=>none
 | e,s=>Q e s
def Dh {X:Type} (E:Env) (fn:Func) (K:AV→List GO→Option X):Exit→St→Option X
 | .normal,s | .ret,s=>match kJ s.marks s.G with
  | some G=>match CM E (s.bp G) fn with
   | some r=>K r G
   | none=>none
  | none=>none
 | _,_=>none
def pI (s:St) (head:bJ) (outs:List (XK × bJ)):Exit→St→Option (head.ps.T ⊕ JT outs)
 | .normal,s'=>(head.dec s s').bind fun v=>some (.inl v)
 | e,s'=>(iC s outs e s').bind fun o=>some (.inr o)
noncomputable def vL {X:Type} (a b:Option X):Option X:=@ite _ (a=b) (Classical.propDecidable _) a none
def pJ {X:Type} (df:Option X→Option X→Option X):Prop:=∀ a b x,df a b=some x→a=some x∧b=some x
def zw {X:Type} (id:Nat) (K:Bool→List GO→Option X):Exit→St→Option X:=fun e s=>match nth s.G id with
 | some (.loop _ _ fn sl n ps nC bd d _)=>match e with
  | .normal=>K true (aw s.G id (.loop false none fn sl n ps nC bd d false))
  | .ret=>K false (aw s.G id (.loop false (some .ret) fn sl n ps nC bd d true))
  | .exit i=>K false (aw s.G id (.loop false (some (.exit i)) fn sl n ps nC bd d true))
  | _=>none
 | _=>none
def OQ (fp:Nat):Nat:=fp % 4096
def RD (fp:Nat):Nat:=fp / 4096
abbrev L0:=FuncId→Nat→Code→(X:Type)→(Option X→Option X→Option X)→(Exit→St→Option X)→St→Option X
section
variable (C:gD) (ih:L0)
def xi {X:Type} (df:Option X→Option X→Option X):kV X:=fun g args G K=>
 bif C.D.okF g then match C.D.P.funcs[g]? with
   | some fn=>match fn.body with
    | some b => bif !(fn.name == "runtime.NumGoroutine") then ih g 1 b X df (Dh C.D.toEnv fn (bif C.D.tc g 131072 then Kf C.D.toEnv (C.D.tc g 131073) (C.D.tc g 131074) fn.resultTypes.toList K else K)) (St.init fn.ntmps args G) else none
    | none=>none
   | none=>none
  else none
def xj {X:Type} (df:Option X→Option X→Option X):kV X:=fun g args G K=>
 match C.zv g with
 | some e=>(e.ps.dec args).bind fun x=>(e.T x).bind fun y=>K (e.p.enc y) G
 | none=>match C.gt g with
  | some e=>match e.f args G with
   | some (c,r,G')=>bif c then K r G' else none
   | none=>none
  | none=>match C.xt g with
   | some e=>(e.ps.dec args).bind fun x=>(e.T x).bind fun o=>LZ G K e.outs o
   | none=>xi C ih df g args G K
def FN (n:Nat):List Tmp→Bool
 | []=>true
 | t :: l=>Nat.blt t n&&FN n l
def FO {X:Type} (df:Option X→Option X→Option X):jb X:=fun id args G K=>match nth G id with
 | some (.loop false _ fp sl n ps nC bd _ false)=>
  bif Nat.beq args.length ps.length&&FN n ps&&aW (C.D.dt (OQ fp)) nC&&aW (C.D.dt (OQ fp)) bd then
   ih (OQ fp) (2 * RD fp) nC X df (fun e s1=>match e with
    | .normal=>match nth s1.G id with
     | some (.loop false p fn sl n ps nC LX d false)=>ih (OQ fp) (2 * RD fp+1) bd X df (zw id K) (s1.bp (aw s1.G id (.loop true p fn sl n ps nC LX d false)))
     | _=>none
    | _=>none) (St.round id (su ps args sl) n G)
  else none
 | _=>none
noncomputable def sF (f:FuncId) (p:Nat) (c:Code) (X:Type) (df:Option X→Option X→Option X) (K:Exit→St→Option X) (s:St):Option X:=
 match c with
 | .skip=>K .normal s
 | .label _=>K .normal s
 | .seq x y=>ih f (2 * p) x X df (uu (ih f (2 * p+1) y X df K) K) s
 | .cond c x y=>match aY C.D.toEnv s.ae c with
  | .v (.bool b)=>bif b then ih f (2 * p) x X df K s else ih f (2 * p+1) y X df K s
  | _=>none
 | .block id c=>ih f (2 * p) c X df (Dg id K) s
 | .exit id=>K (.exit id) s
 | .ret=>K .ret s
 | .region _ ops false=>FM C.D.toEnv C.fz (xj C ih df) (FO C ih df) f ops.toList ops.toList (K .normal) s
 | .region id ops true=>match C.D.dt f id with
  | some pl=>oT C.D.toEnv C.fz (xj C ih df) (FO C ih df) df f ops.toList pl.T (K .normal) s
  | none=>none
 | .scope c=>ih f (2 * p) c X df (Km K) s
 | .loop c=>ih f (2 * p) c X df (uu (ih f p (.loop c) X df K) K) s
 | .rangeFunc g ps nC bd=>match s.ro with
  | none=>match aY C.D.toEnv s.ae g with
   | .v (.fn h first cap)=>xj C ih df h (first++[.yield (s.G.length+1)]++cap) (s.G++[.defers true]++[.loop false none (4096 * p+f) (eR s.ae) s.n ps.toList nC bd s.G.length false])
    (fun _ G'=>match nth G' (s.G.length+1) with
     | some (.loop busy pending _ _ _ _ _ _ _ done)=>bif !busy || done then
       match pending with
       | none=>mA C.fz ⟨s.ae,s.boxes,aw G' (s.G.length+1) .dead,s.G.length :: s.marks,s.ro,s.n⟩ (K .normal)
       | some .ret=>mA C.fz ⟨s.ae,s.boxes,aw G' (s.G.length+1) .dead,s.G.length :: s.marks,s.ro,s.n⟩ (K .ret)
       | some (.exit i)=>mA C.fz ⟨s.ae,s.boxes,aw G' (s.G.length+1) .dead,s.G.length :: s.marks,s.ro,s.n⟩ (K (.exit i))
       | _=>none
      else none
     | _=>none)
   | _=>none
  | some _=>none
 | _=>none
def zx:List Oper→List Tmp
 | []=>[]
 | o :: l=>match o.dst with
  | some d=>d :: zx l
  | none=>zx l
def ic:Code→List Tmp→List Tmp
 | .region _ ops _,r=>zx ops.toList++r
 | .seq x y,r=>ic x (ic y r)
 | .cond _ x y,r=>ic x (ic y r)
 | .block _ c,r=>ic c r
 | .scope c,r=>ic c r
 | .loop c,r=>ic c r
 | .rangeFunc _ ps a b,r=>ps.toList++ic a (ic b r)
 | _,r=>r
def sG (W:List Tmp) (t:bJ):bJ:=⟨t.ps,t.sl,W,t.bx,t.g,t.LV⟩
def nP (W:List Tmp):List (XK × bJ)→List (XK × bJ)
 | []=>[]
 | (k,t) :: l=>(k,sG W t) :: nP W l
def Di:Code→Bool
 | .loop _=>true
 | _=>false
noncomputable def Nn {X:Type} (f:FuncId) (p:Nat) (c:Code) (outs:List (XK × bJ)) (K:Exit→St→Option X) (s:St):Option X:=
 (sF C ih f p c (JT outs) vL (iC s outs) s).bind fun o=>E9 s outs o K
noncomputable def IT {X:Type} (f:FuncId) (p:Nat) (b:Code) (s1:St) (head:bJ) (outs:List (XK × bJ)) (K:Exit→St→Option X):Option X:=
 (head.dec s1 s1).bind fun v0=>(cq (fun v=>ih f (2 * p) b (head.ps.T ⊕ JT outs) vL (pI s1 head outs) (head.st s1 v)) C.N v0).bind fun o=>E9 s1 outs o K
def Dj (s:St) (head:bJ) (outs:List (XK × bJ)) (k:head.ps.T→Option (JT outs)):Exit→St→Option (JT outs)
 | .normal,s'=>(head.dec s s').bind k
 | e,s'=>iC s outs e s'
noncomputable def Dk {X:Type} (f:FuncId) (p:Nat) (b:Code) (s1:St) (head:bJ) (outs:List (XK × bJ)) (K:Exit→St→Option X):Option X:=
 (head.dec s1 s1).bind fun v0=>(jA (fun k v=>ih f (2 * p) b (JT outs) vL (Dj s1 head outs k) (head.st s1 v)) C.N v0).bind fun o=>E9 s1 outs o K
def Dl {X:Type} (df:Option X→Option X→Option X) (f:FuncId) (K:Exit→St→Option X):List Bool→Nat→Code→St→Option X
 | [],_,_,s=>K .normal s
 | true :: k,q,.seq x y,s=>ih f (2 * q) x X df (uu (Dl df f K k (2 * q+1) y) K) s
 | false :: k,q,.seq x _,s=>Dl df f K k (2 * q) x s
 | _ :: _,_,_,_=>none
def FP {X:Type} (df:Option X→Option X→Option X) (f:FuncId):List Bool→Nat→Code→(Exit→St→Option X)→St→Option X
 | [],q,c,K,s=>ih f q c X df K s
 | true :: k,q,.seq _ y,K,s=>FP df f k (2 * q+1) y K s
 | false :: k,q,.seq x y,K,s=>FP df f k (2 * q) x (uu (ih f (2 * q+1) y X df K) K) s
 | _ :: _,_,_,_,_=>none
noncomputable def No {X:Type} (f:FuncId) (p:Nat) (b:Code) (k:List Bool) (s1:St) (head:bJ) (outs:List (XK × bJ)) (K:Exit→St→Option X):Option X:=
 ((Dl ih vL f (pI s1 head outs) k (2 * p) b s1).bind fun r0=>
  Sum.elim (fun v0=>cq (fun v=>FP ih vL f k (2 * p) b (uu (Dl ih vL f (pI s1 head outs) k (2 * p) b) (pI s1 head outs)) (head.st s1 v)) C.N v0) (fun x=>some x) r0).bind fun o=>E9 s1 outs o K
noncomputable def sH (f:FuncId) (p:Nat) (c:Code) (X:Type) (df:Option X→Option X→Option X) (K:Exit→St→Option X) (s:St):Option X:=
 match C.tA f p with
 | none=>sF C ih f p c X df K s
 | some ct=>match Df s.G.length ct with
  | .join outs=>bif Di c then none else Nn C ih f p c (nP (ic c []) outs) K s
  | .loop gh head outs=>match c with
   | .loop b=>match eQ gh s with
    | some s1=>IT C ih f p b s1 (sG (ic b []) head) (nP (ic b []) outs) K
    | none=>none
   | _=>none
  | .P8 k gh head outs=>match c with
   | .loop b=>match eQ gh s with
    | some s1=>No C ih f p b k s1 (sG (ic b []) head) (nP (ic b []) outs) K
    | none=>none
   | _=>none
  | .jA gh head outs=>match c with
   | .loop b=>match eQ gh s with
    | some s1=>Dk C ih f p b s1 (sG (ic b []) head) (nP (ic b []) outs) K
    | none=>none
   | _=>none
  | .RC _ _ _=>none
end
noncomputable def ev (C:gD):Nat→L0:=Nat.rec (fun _ _ _ _ _ _ _=>none) (fun _ ih=>sH C ih)
end Go.Am
namespace Go.Am
open Go
section ext
variable {E:Env} {f:FuncId} {s s':St} {o:Oper}
theorem aF.put (s:St) (d:Option Tmp) (x:SV):aF s (s.put d x):=by
 cases d with
 | none=>exact aF.refl s
 | some d=>
  simp only [St.put]
  split
  ·exact ⟨⟨[_],rfl⟩,⟨[],rfl⟩,rfl⟩
  ·exact aF.refl s
theorem aF.bp (s:St) (G:List GO):aF s (s.bp G):=⟨⟨[],rfl⟩,⟨[],rfl⟩,rfl⟩
theorem aF.cJ (s:St) (o:GO):aF s (s.cJ o):=⟨⟨[],rfl⟩,⟨[],rfl⟩,rfl⟩
theorem aF.pU (s:St) (d:Nat) (cs:List AV):aF s (s.pU d cs):=⟨⟨[],rfl⟩,⟨[_],rfl⟩,rfl⟩
theorem aF.kill (s:St) (d:Nat):aF s (s.kill d):=⟨⟨[_],rfl⟩,⟨[],rfl⟩,rfl⟩
theorem BD {c:Bool} {s':St} (h:eA E f s o=some (c,s')):aF s s':=by
 unfold eA at h
 repeat' (split at h)
 all_goals (first | (cases h; done) | skip)
 all_goals (injection h with h; injection h with _ h; subst h; exact (aF.bp _ _).trans (aF.put _ _ _))
theorem zy {c:Bool} (h:aj E f s o=some (c,s')):aF s s':=by
 have alloc:∀ {el:TypeId} {cs:List AV} {c:Bool} {s':St},dc E f s o.dst el cs=some (c,s')→aF s s':=by
  intro el cs c s' h
  unfold dc at h
  repeat' (split at h)
  all_goals (first | (cases h; done) | skip)
  ·injection h with h; injection h with _ h; subst h; exact (aF.cJ _ _).trans (aF.put _ _ _)
  ·injection h with h; injection h with _ h; subst h; exact ((aF.kill _ _).trans (aF.pU _ _ _)).trans (aF.put _ _ _)
 have store:∀ {t:TypeId} {p x:SV} {s':St},fW E s t p x=some s'→aF s s':=by
  intro t p x s' h
  unfold fW at h
  repeat' (split at h)
  all_goals (first | (cases h; done) | skip)
  all_goals (injection h with h; subst h)
  ·exact aF.pU _ _ _
  ·exact aF.bp _ _
 have yP:∀ {t:TypeId} {p x:SV} {c:Bool} {s':St},fX E s t p x=some (c,s')→aF s s':=by
  intro t p x c s' h
  unfold fX at h
  repeat' (split at h)
  all_goals (first | (cases h; done) | skip)
  all_goals (injection h with h; injection h with _ h; subst h)
  all_goals (first | exact aF.bp _ _ | exact store (by assumption))
 have blt:∀ {b:Builtin} {l:List AV} {tys:List TypeId} {c:Bool} {s':St},bf E s o.dst b l tys=some (c,s')→aF s s':=by
  intro b l tys c s' h
  unfold bf at h
  repeat' (split at h)
  all_goals (first | (cases h; done) | skip)
  all_goals (injection h with h; injection h with _ h; subst h)
  all_goals (first | exact aF.put _ _ _ | exact (aF.bp _ _).trans (aF.put _ _ _) | exact aF.bp _ _)
 have update:∀ {t:TypeId} {m k x:SV} {s':St},de E s t m k x=some s'→aF s s':=by
  intro t m k x s' h
  unfold de at h
  repeat' (split at h)
  all_goals (first | (cases h; done) | skip)
  all_goals (injection h with h; subst h; exact aF.bp _ _)
 have next:∀ {x:SV} {s':St},iG s o.dst x=some s'→aF s s':=by
  intro x s' h
  unfold iG at h
  split at h
  ·split at h
   ·rename_i l pos hg
    cases hb:Nat.blt pos l.length <;> rw [hb] at h <;> simp only [cond_true,cond_false] at h <;> cases h
    ·exact aF.put _ _ _
    ·exact (aF.bp _ _).trans (aF.put _ _ _)
   ·cases h
  ·cases h
 have yQ:∀ {t:TypeId} {m k:SV} {c:Bool} {v:AV} {s':St},ea E s t m k=some (c,v,s')→aF s s':=by
  intro t m k c v s' h
  unfold ea at h
  repeat' (split at h)
  all_goals (first | (cases h; done) | skip)
  all_goals (injection h with h; injection h with _ h; injection h with _ h; subst h; exact aF.bp _ _)
 have yR:∀ {m st x:SV} {c:Bool} {s':St},cQ s m st x=some (c,s')→aF s s':=by
  intro m st x c s' h
  unfold cQ at h
  repeat' (split at h)
  all_goals (first | (cases h; done) | skip)
  all_goals (injection h with h; injection h with _ h; subst h; exact aF.bp _ _)
 unfold aj at h
 repeat' (split at h)
 all_goals (first | (cases h; done) | exact alloc h | exact blt h | (rename_i hf; cases h; exact BD hf) | skip)
 all_goals (injection h with h; injection h with _ h; subst h)
 all_goals (first | exact aF.put _ _ _ | exact (aF.cJ _ _).trans (aF.put _ _ _) | skip)
 all_goals (first | exact yP (by assumption) | exact update (by assumption) | exact (yQ (by assumption)).trans (aF.put _ _ _) | exact yR (by assumption) | exact next (by assumption))
theorem bR.eu {g:FuncId} {args IU:List AV} {G:List GO} {Q:AV→List GO→Prop} (hw:bL args IU) (h:bR E g IU G Q):bR E g args G Q:=
 ⟨h.1,fun R w cs hg hl=>h.2 R w cs hg (hw.rel hl)⟩
theorem xl {K:St→Prop} (h:gA E f o K s):gA E f o (fun s'=>K s'∧aF s s') s:=by
 unfold gA at *
 split
 ·rename_i x args tys ho
  rw [ho] at h
  simp only at h
  split at h
  ·exact h.mono fun r G' hk=>⟨hk,(aF.bp _ _).trans (aF.put _ _ _)⟩
  ·exact h.mono fun r G' hk=>⟨hk,(aF.bp _ _).trans (aF.put _ _ _)⟩
  ·exact h
 ·rename_i ho
  rw [ho] at h
  exact h
 ·rename_i nc nd
  split at h
  ·rename_i ho
   exact absurd ho (nc _ _ _)
  ·exact h.elim
  ·split at h
   ·rename_i c s' hs
    obtain ⟨hc,hk⟩:=h.out
    exact cn.mk hc ⟨hk,zy hs⟩
   ·exact h.elim
theorem iM {K:St→Prop} {ops:List Oper} (h:bw E f ops o K s):bw E f ops o (fun s'=>K s'∧aF s s') s:=by
 unfold bw at *
 split
 ·rename_i hg
  rw [hg] at h
  exact xl h
 ·rename_i j want hg
  rw [hg] at h
  simp only at h
  split
  ·rename_i hd
   rw [hd] at h
   exact h
  ·rename_i d hd
   rw [hd] at h
   simp only at h
   split
   ·rename_i b hb
    rw [hb] at h
    simp only at h
    refine ⟨fun e=>?_,fun e=>⟨h.2 e,(aF.put _ _ _).trans (aF.put _ _ _)⟩⟩
    exact oJ (xl (h.1 e)) fun s' hh=>⟨hh.1,(aF.put _ _ _).trans hh.2⟩
   ·rename_i hb
    rw [hb] at h
    exact ⟨h,aF.put _ _ _⟩
   ·rename_i hb iU
    split at h
    ·rename_i b B0
     exact absurd B0 (hb b)
    ·rename_i B0
     exact absurd B0 iU
    ·exact h
theorem tB {K K':St→Prop} {ops:List Oper} (h:dU E f ops o K s) (hK:∀ s,K s→K' s):dU E f ops o K' s:=by
 unfold dU at *
 split
 ·rename_i s' h1 h2
  rw [h1,h2] at h
  exact hK _ h
 ·rename_i hn
  split at h
  ·rename_i s' h1 h2
   exact absurd h2 (hn s' h1)
  ·exact bz h hK
theorem qe {s':St} (h:fJ E f s o=some s'):aF s s':=by
 unfold fJ at h
 repeat' (split at h)
 all_goals (first | (cases h; done) | skip)
 all_goals (injection h with h; subst h; exact (aF.cJ _ _).trans (aF.put _ _ _))
theorem vr {K:St→Prop} {ops:List Oper} (h:dU E f ops o K s):dU E f ops o (fun s'=>K s'∧aF s s') s:=by
 unfold dU at *
 split
 ·rename_i s' h1 h2
  rw [h1,h2] at h
  exact ⟨h,qe h2⟩
 ·rename_i hn
  split at h
  ·rename_i s' h1 h2
   exact absurd h2 (hn s' h1)
  ·exact iM h
theorem jc {K K':St→Prop} {ops:List Oper} (h:dq E f ops o K s) (hK:∀ s,K s→K' s):dq E f ops o K' s:=by
 unfold dq at *
 split at h
 ·obtain ⟨h1,h2⟩:=h.out
  exact cn.mk h1 (hK _ h2)
 ·obtain ⟨h1,h2,h3⟩:=h.out
  exact cn.mk h1 ⟨fun e=>hK _ (h2 e),fun i hi=>let ⟨k1,k2⟩:=(h3 i hi).out; cn.mk k1 (hK _ k2)⟩
 ·exact tB h hK
theorem BE {c:Bool} {s':St} (h:oZ E f s o=some (c,s')):aF s s':=by
 unfold oZ at h
 repeat' (split at h)
 all_goals (first | (cases h; done) | skip)
 all_goals (injection h with h; injection h with _ h; subst h; exact (aF.bp _ _).trans (aF.put _ _ _))
theorem zz {c:Bool} {s0:St} {left:List Nat} {g:Nat→Bool × St} (h:oh E s o=some (c,s0,left,g)):aF s s0∧∀ i,aF s (g i).2:=by
 unfold oh at h
 split at h
 ·unfold tJ at h
  split at h
  ·split at h
   ·split at h
    ·cases h
     exact ⟨aF.put _ _ _,fun i=>(aF.bp _ _).trans (aF.put _ _ _)⟩
    ·cases h
   ·cases h
  ·cases h
 ·cases h
theorem nQ {K:St→Prop} {ops:List Oper} (h:dq E f ops o K s):dq E f ops o (fun s'=>K s'∧aF s s') s:=by
 unfold dq at *
 split at h
 ·rename_i hb
  obtain ⟨h1,h2⟩:=h.out
  exact cn.mk h1 ⟨h2,BE hb⟩
 ·rename_i hb
  obtain ⟨h1,h2,h3⟩:=h.out
  obtain ⟨k1,k2⟩:=zz hb
  exact cn.mk h1 ⟨fun e=>⟨h2 e,k1⟩,fun i hi=>let ⟨q1,q2⟩:=(h3 i hi).out; cn.mk q1 ⟨q2,k2 i⟩⟩
 ·exact vr h
theorem jd {K K':St→Prop} {ops:List Oper} (h:du E f ops o K s) (hK:∀ s,K s→K' s):du E f ops o K' s:=by
 unfold du at *
 split at h
 ·exact ⟨h.1,jc h.2 hK⟩
 ·exact jc h hK
theorem eZ {cut wk:Bool}:∀ {l:List Operand} {s s':St} {c:Bool},eH cut wk l s=(c,s')→aF s s'
 | [],s,s',c,h=>by
  simp only [eH] at h
  cases h
  exact aF.refl _
 | .tmp t :: l,s,s',c,h=>by
  unfold eH at h
  split at h
  ·rename_i c1 s1 h1
   cases h2:eH cut wk l s1 with
   | mk c2 s2=>
   rw [h2] at h
   simp only [Prod.mk.injEq] at h
   obtain ⟨_,rfl⟩:=h
   exact (kF h1).trans (eZ h2)
  ·exact eZ h
 | .const _ :: l,s,s',c,h=>eZ (l:=l) h
 | .global _ :: l,s,s',c,h=>eZ (l:=l) h
 | .func _ :: l,s,s',c,h=>eZ (l:=l) h
theorem Dm {s s':St} {o:Oper} {c:Bool} (h:AW E f s o=some (c,s')):aF s s':=by
 unfold AW at h
 split at h
 ·split at h
  ·injection h with h
   exact eZ h
  ·cases h
 ·cases h
theorem vt {K:St→Prop} {ops:List Oper} (h:du E f ops o K s):du E f ops o (fun s'=>K s'∧aF s s') s:=by
 unfold du at *
 split at h
 ·rename_i c s' hz
  exact ⟨h.1,jc (nQ h.2) fun s2 h2=>⟨h2.1,(Dm hz).trans h2.2⟩⟩
 ·exact nQ h
theorem sI {s s':St} {l:Loc} {sz:Nat} {e:TypeId} (h:kD s l sz e=some s'):aF s s':=by
 unfold kD at h
 cases yN:Nat.ble 196608 sz with
 | true=>rw [yN] at h; cases h; exact aF.cJ _ _
 | false=>
 rw [yN] at h
 cases l with
 | slot t=>
  simp only at h
  split at h
  ·cases h; exact ⟨⟨[_],rfl⟩,⟨[],rfl⟩,rfl⟩
  ·cases h
 | box k i=>
  simp only at h
  split at h
  ·split at h
   ·cases h; exact ⟨⟨[],rfl⟩,⟨[_],rfl⟩,rfl⟩
   ·cases h
  ·cases h
 | row id i=>
  simp only at h
  split at h
  ·split at h
   ·cases h; exact ⟨⟨[],rfl⟩,⟨[],rfl⟩,rfl⟩
   ·cases h
  ·cases h
theorem j7:∀ {l:List (Loc × Nat × TypeId)} {s s':St},eQ l s=some s'→aF s s'
 | [],s,s',h=>by
  simp only [eQ] at h
  cases h
  exact aF.refl _
 | (l,sz,e) :: r,s,s',h=>by
  unfold eQ at h
  split at h
  ·rename_i s1 h1
   exact (sI h1).trans (j7 h)
  ·cases h
theorem kX:∀ {l:List (Loc × Nat × TypeId)} {s:St},aF s (fH l s)
 | [],s=>aF.refl _
 | (l,sz,e) :: r,s=>by
  unfold fH
  split
  ·rename_i s1 h1
   exact (sI h1).trans kX
  ·exact kX
theorem BF {s s':St} {o:Oper} (h:ub E f o s=some s'):aF s s':=by
 unfold ub at h
 split at h
 ·cases h; exact aF.refl _
 ·split at h
  ·split at h
   ·rename_i hz
    cases h
    exact kF hz
   ·cases h
  ·split at h
   ·cases h; exact aF.refl _
   ·split at h
    ·cases h; exact kX
    ·cases h
theorem sJ {K K':St→Prop} {ops:List Oper} (hK:∀ s,K s→K' s):∀ {l:List Oper} {s:St},kI E f ops l K s→kI E f ops l K' s
 | [],s,h=>hK s h
 | _ :: _,_,h=>jd h fun s' h'=>by
  unfold uf at *
  split at h'
  ·exact sJ hK h'
  ·exact h'.elim
theorem sK {K K':St→Prop} {ops:List Oper} (hK:∀ s,K s→K' s) {T:DT} {s:St} (h:n9 E f ops T K s):n9 E f ops T K' s:=
 dz (ops:=⟨ops⟩) hK T s h
theorem uv {K:St→Prop} {ops:List Oper}:∀ {l:List Oper} {s:St},kI E f ops l K s→kI E f ops l (fun s'=>K s'∧aF s s') s
 | [],s,h=>⟨h,aF.refl s⟩
 | o :: l,s,h=>by
  simp only [kI] at *
  refine jd (vt h) fun s' hh=>?_
  obtain ⟨h1,h2⟩:=hh
  unfold uf at *
  split at h1
  ·rename_i s2 hp
   exact sJ (fun s3 h3=>⟨h3.1,(h2.trans (BF hp)).trans h3.2⟩) (uv h1)
  ·exact h1.elim
theorem nR {K:St→Prop} {ops:List Oper}:∀ {T:DT} {s:St},n9 E f ops T K s→n9 E f ops T (fun s'=>K s'∧aF s s') s
 | .done,s,h=>⟨h,aF.refl s⟩
 | .stop,_,_=>trivial
 | .take j C T,s,h=>by
  unfold n9 at h ⊢
  split
  ·rename_i oj hj
   rw [hj] at h
   exact bz (iM h) fun s' hh=>sK (fun s2 h2=>⟨h2.1,hh.2.trans h2.2⟩) (nR hh.1)
  ·rename_i hj
   rw [hj] at h
   exact h
 | .al j W T,s,h=>by
  unfold n9 at h ⊢
  split
  ·rename_i oj hj
   rw [hj] at h
   exact ⟨h.1,bz (iM h.2) fun s' hh=>sK (fun s2 h2=>⟨h2.1,hh.2.trans h2.2⟩) (nR hh.1)⟩
  ·rename_i hj
   rw [hj] at h
   exact h
 | .br i re C T more,s,h=>by
  unfold n9 at h ⊢
  refine ⟨?_,nR h.2⟩
  have h:=h.1
  split
  ·rename_i oj hj
   rw [hj] at h
   exact bz (iM h) fun s' hh=>⟨hh.1.1,sK (fun s2 h2=>⟨h2.1,hh.2.trans h2.2⟩) (nR hh.1.2)⟩
  ·rename_i hj
   rw [hj] at h
   exact h
end ext
def je (E:Env) (c:Code) (Q:Exit→St→Prop) (s:St):Prop:=dS E c (fun e s'=>Q e s'∧aF s s') s
section sound
variable {E:Env} {f:FuncId} {s:St} {X:Type} {fz:Bool} {call:kV X} {iL:jb X} {df:Option X→Option X→Option X} {x:X}
def j8 (E:Env) (call:kV X):Prop:=∀ g args G K x,call g args G K=some x→bR E g args G (fun r G'=>K r G'=some x)
def pK (E:Env) (iL:jb X):Prop:=∀ id args G K x,iL id args G K=some x→gV E id args G (fun b G'=>K b G'=some x)
theorem aO {α:Type} {c:Bool} {a:Option α} {x:α} (h:(bif c then a else none)=some x):c=true∧a=some x:=by
 cases c
 ·cases h
 ·exact ⟨rfl,h⟩
theorem bind_some {α β:Type} {a:Option α} {k:α→Option β} {x:β} (h:a.bind k=some x):∃ y,a=some y∧k y=some x:=by
 cases a with
 | none=>cases h
 | some y=>exact ⟨y,rfl,h⟩
theorem BG {o:Oper} {n:Int} {len:Nat} {g:Nat→Oper} (h:vo E s o=some (n,len,g)) {j:Nat} (hj:n=(j:Int)):aj E f s (g j)=aj E f s o:=by
 subst hj
 unfold vo at h
 have Cf:∀ k:IntKind,aY E s.ae (.const (.int k (j:Int)))=.v (.int k j):=fun k=>rfl
 split at h
 ·rename_i t x y ho
  split at h
  ·rename_i k n i h1 h2
   split at h
   ·injection h with h; injection h with e1 h; injection h with e2 h
    subst h; subst e1
    simp only [aj,ho,Cf,h1]
   ·cases h
  ·cases h
 ·rename_i t x y ho
  split at h
  ·rename_i k n i h1 h2
   split at h
   ·split at h
    ·cases h
    ·injection h with h; injection h with e1 h; injection h with e2 h
     subst h; subst e1
     simp only [aj,ho,Cf,h1]
   ·cases h
  ·cases h
 ·cases h
theorem lW {o:Oper} {n:Int} {len:Nat} {g:Nat→Oper} (hi:vo E s o=some (n,len,g)) {K:St→Option X}:∀ (m j:Nat),qD E fz f g n K s m j=some x→∃ c s',aj E f s o=some (c,s')∧c=true∧K s'=some x
 | 0,_,h=>by cases h
 | m+1,j,h=>by
  unfold qD at h
  by_cases hn:n=(j:Int)
  ·rw [decide_eq_true hn,cond_true,BG hi hn] at h
   split at h
   ·rename_i c s' hs
    obtain ⟨h1,h2⟩:=aO h
    rw [bZ] at h2
    exact ⟨c,s',hs,h1,h2⟩
   ·cases h
  ·rw [decide_eq_false hn,cond_false] at h
   exact lW hi m (j+1) h
theorem sL {ops:List Oper} {o:Oper} (h:Kl E f ops o s=true):yY E f ops o s:=by
 unfold Kl at h
 split at h
 ·rename_i t m k ok d ho hd
  split at h
  ·rename_i c v b hg hs
   rw [Bool.and_eq_true] at h
   obtain ⟨rfl,h⟩:=h
   have hn:=nL hs
   unfold yY
   rw [hg]
   simp only
   have e:aj E f s o=some (true,s.put o.dst (.v (if ok then .aR [v,.bool b] else v))):=by simp only [aj,ho,hn]
   rw [hd] at e
   rw [hd,e]
   refine ⟨rfl,?_⟩
   unfold St.put
   simp only
   split
   ·rw [au]
    exact um h
   ·rfl
  ·exact uo h
 ·exact uo h
theorem lX {ops:List Oper}:∀ {l:List Nat} {s:St},lB E f ops l s=true→uj E f ops l s
 | [],_,_=>trivial
 | k :: l,s,h=>by
  unfold lB at h
  unfold uj
  rw [Bool.and_eq_true] at h
  refine ⟨?_,lX h.2⟩
  have h:=h.1
  split at h
  ·rename_i hk
   first
    | exact sL h
    | rw [hk]; exact sL h
  ·rename_i hk
   first
    | trivial
    | rw [hk]; trivial
theorem oQ (hc:j8 E call) (hr:pK E iL) {o:Oper} {K:St→Option X} (h:Kk E fz call iL f o K s=some x):gA E f o (fun s=>K s=some x) s:=by
 unfold gA
 split
 ·rename_i y args tys ho
  unfold Kk at h
  rw [ho] at h
  simp only at h
  split at h
  ·rename_i h1 h2
   rw [h1,h2]
   refine (hc _ _ _ _ _ h).mono fun r G' hk=>?_
   rw [bZ] at hk
   exact hk
  ·rename_i h1 h2
   rw [h1,h2]
   refine (hr _ _ _ _ _ h).mono fun r G' hk=>?_
   rw [bZ] at hk
   exact hk
  ·cases h
 ·rename_i ho
  unfold Kk at h
  rw [ho] at h
  cases h
 ·rename_i nc nd
  unfold Kk at h
  split at h
  ·rename_i ho
   exact absurd ho (nc _ _ _)
  ·cases h
  ·rename_i y ho
   split at h
   ·rename_i b s1 s2 hs
    have hn:=zq hs
    have e:aj E f s o=some (true,bif b then s1 else s2):=by simp only [aj,ho,hn]
    rw [e]
    refine cn.mk rfl ?_
    rw [bZ,bZ] at h
    cases b <;> exact h
   ·cases h
  ·rename_i t m k ok ho
   split at h
   ·rename_i c v b hs
    obtain ⟨h1,h2⟩:=aO h
    subst h1
    rw [bZ] at h2
    have hn:=nL hs
    have e:aj E f s o=some (true,s.put o.dst (.v (if ok then .aR [v,.bool b] else v))):=by simp only [aj,ho,hn]
    rw [e]
    exact cn.mk rfl h2
   ·split at h
    ·rename_i c s' hs
     obtain ⟨h1,h2⟩:=aO h
     rw [bZ] at h2
     rw [hs]
     exact cn.mk h1 h2
    ·cases h
  ·rename_i t m k z ho
   split at h
   ·rename_i c s' hd hs
    obtain ⟨h1,h2⟩:=aO h
    subst h1
    rw [bZ] at h2
    have hn:=nN hs
    have e:aj E f s o=some (true,s'):=by simp only [aj,ho,hd,hn]
    rw [e]
    exact cn.mk rfl h2
   ·cases h
  ·rename_i t m k z ho
   split at h
   ·rename_i c s' hd hs
    obtain ⟨h1,h2⟩:=aO h
    subst h1
    rw [bZ] at h2
    have hn:=nN hs
    have e:aj E f s o=some (true,s'):=by simp only [aj,ho,hd,hn]
    rw [e]
    exact cn.mk rfl h2
   ·cases h
  ·rename_i args tys ho
   split at h
   ·rename_i c s' hf
    obtain ⟨h1,h2⟩:=aO h
    rw [bZ] at h2
    have e:aj E f s o=some (c,s'):=by simp only [aj,ho,hf]
    rw [e]
    exact cn.mk h1 h2
   ·rename_i hf
    split at h
    ·rename_i l hl
     split at h
     ·rename_i b s1 c s2 hs
      have yy:b=false→c=true:=fun e=>by subst e; exact (aO (show (bif c then mA fz s2 K else none)=some x from h)).1
      have hn:=vk hs yy
      have e:aj E f s o=some (true,bif b then s1 else s2):=by simp only [aj,ho,hf,hl,hn]
      rw [e]
      refine cn.mk rfl ?_
      cases b with
      | true=>
       show K s1=some x
       rw [← bZ fz s1 K]
       exact h
      | false=>
       obtain ⟨h1,h2⟩:=aO (show (bif c then mA fz s2 K else none)=some x from h)
       rw [bZ] at h2
       exact h2
     ·split at h
      ·rename_i c s' hs
       obtain ⟨h1,h2⟩:=aO h
       rw [bZ] at h2
       rw [hs]
       exact cn.mk h1 h2
      ·cases h
    ·cases h
  ·rename_i args tys ho
   split at h
   ·rename_i l hl
    split at h
    ·rename_i c s' hs
     obtain ⟨h1,h2⟩:=aO h
     subst h1
     rw [bZ] at h2
     have hn:=zr hs
     have hf:eA E f s o=none:=by
      cases hf:eA E f s o with
      | none=>rfl
      | some r=>
       obtain ⟨_,_,h2⟩:=jV hf
       rw [ho] at h2
       cases h2
     have e:aj E f s o=some (true,s'):=by simp only [aj,ho,hf,hl,hn]
     rw [e]
     exact cn.mk rfl h2
    ·split at h
     ·rename_i c s' hs
      obtain ⟨h1,h2⟩:=aO h
      rw [bZ] at h2
      rw [hs]
      exact cn.mk h1 h2
     ·cases h
   ·cases h
  ·split at h
   ·rename_i n len g hi
    obtain ⟨c,s',hs,h1,h2⟩:=lW hi _ _ h
    rw [hs]
    exact cn.mk h1 h2
   ·split at h
    ·rename_i c s' hs
     obtain ⟨h1,h2⟩:=aO h
     rw [bZ] at h2
     rw [hs]
     exact cn.mk h1 h2
    ·cases h
theorem gE (hc:j8 E call) (hr:pK E iL) {ops:List Oper} {o:Oper} {K:St→Option X} (h:kW E fz call iL f ops o K s=some x):bw E f ops o (fun s=>K s=some x) s:=by
 unfold kW at h
 unfold bw
 split at h
 ·rename_i hg
  rw [hg]
  exact oQ hc hr h
 ·rename_i j want hg
  rw [hg]
  simp only
  split at h
  ·cases h
  ·rename_i d hd
   rw [hd]
   simp only
   split at h
   ·rename_i b hb
    rw [hb]
    simp only
    cases want with
    | true=>
     simp only at h
     rw [bZ,bZ] at h
     refine ⟨fun e=>?_,fun e=>?_⟩
     ·subst e
      exact oQ hc hr h
     ·have e:b=false:=by simpa using e
      subst e
      exact h
    | false=>
     simp only at h
     rw [bZ,bZ] at h
     refine ⟨fun e=>?_,fun e=>?_⟩
     ·subst e
      exact oQ hc hr h
     ·have e:b=true:=by simpa using e
      subst e
      exact h
   ·rename_i hb
    rw [hb]
    rw [bZ] at h
    exact h
   ·cases h
theorem tC (hc:j8 E call) (hr:pK E iL) {ops:List Oper} {o:Oper} {K:St→Option X} (h:vp E fz call iL f ops o K s=some x):dU E f ops o (fun s=>K s=some x) s:=by
 unfold vp at h
 unfold dU
 split at h
 ·rename_i s' h1 h2
  rw [h1,h2]
  rw [bZ] at h
  exact h
 ·rename_i hn
  split
  ·rename_i s' h1 h2
   exact absurd h2 (hn s' h1)
  ·exact gE hc hr h
theorem lY (hc:j8 E call) (hr:pK E iL) {ops:List Oper} {o:Oper} {K:St→Option X} (h:qE E fz call iL f ops o K s=some x):dq E f ops o (fun s=>K s=some x) s:=by
 unfold qE at h
 unfold dq
 split at h
 ·rename_i c s' h1 h2
  rw [h1,h2]
  obtain ⟨q1,q2⟩:=aO h
  rw [bZ] at q2
  exact cn.mk q1 q2
 ·rename_i c s0 left g h1 h2 h3
  rw [h1,h2,h3]
  obtain ⟨q1,q2⟩:=aO h
  refine cn.mk q1 ?_
  cases left with
  | nil=>
   simp only [List.isEmpty_nil,cond_true,bZ] at q2
   exact ⟨fun _=>q2,fun i hi=>by simp at hi⟩
  | cons i0 l=>
   simp only [List.isEmpty_cons,cond_false] at q2
   refine ⟨fun e=>(by cases e),fun i hi=>?_⟩
   obtain ⟨r1,r2⟩:=aO (BC q2 i hi)
   rw [bZ] at r2
   exact cn.mk r1 r2
 ·rename_i BW RE
  split
  ·rename_i c s' h1 h2
   first
    | exact absurd h2 (BW c s' h1)
    | exact absurd h2 (RE c s' h1)
  ·rename_i c s0 left g h1 h2 h3
   first
    | exact absurd h3 (RE c s0 left g h1 h2)
    | exact absurd h3 (BW c s0 left g h1 h2)
  ·exact tC hc hr h
theorem tD (hc:j8 E call) (hr:pK E iL) {ops:List Oper} {o:Oper} {K:St→Option X} (h:vq E fz call iL f ops o K s=some x):du E f ops o (fun s=>K s=some x) s:=by
 unfold vq at h
 unfold du
 split at h
 ·rename_i c s' hz
  rw [hz]
  obtain ⟨h1,h2⟩:=aO h
  exact ⟨h1,lY hc hr h2⟩
 ·rename_i hz
  rw [hz]
  exact lY hc hr h
theorem sM (hc:j8 E call) (hr:pK E iL) {ops:List Oper}:∀ {l:List Oper} {K:St→Option X} {s:St},FM E fz call iL f ops l K s=some x→kI E f ops l (fun s=>K s=some x) s
 | [],_,_,h=>h
 | o :: l,K,s,h=>by
  unfold FM at h
  unfold kI
  refine jd (tD hc hr h) fun s' h'=>?_
  unfold uf
  split at h'
  ·rename_i s2 hp
   rw [hp]
   exact sM hc hr h'
  ·cases h'
theorem fS (hc:j8 E call) (hr:pK E iL) (hm:pJ df) {ops:List Oper}:∀ {T:DT} {K:St→Option X} {s:St} {x:X},oT E fz call iL df f ops T K s=some x→n9 E f ops T (fun s=>K s=some x) s
 | .done,_,_,_,h=>h
 | .stop,_,_,_,_=>trivial
 | .take j C T,K,s,x,h=>by
  unfold oT at h
  unfold n9
  split at h
  ·rename_i hk
   rw [hk]
   exact bz (gE hc hr h) fun s' h'=>fS hc hr hm h'
  ·cases h
 | .al j W T,K,s,x,h=>by
  unfold oT at h
  unfold n9
  split at h
  ·rename_i hk
   obtain ⟨h1,h2⟩:=aO h
   rw [hk]
   exact ⟨h1,bz (gE hc hr h2) fun s' h'=>fS hc hr hm h'⟩
  ·cases h
 | .br i re C T more,K,s,x,h=>by
  have first:∀ {x:X},(match nth ops i with
   | some oi=>kW E fz call iL f ops oi (fun s'=>bif lB E f ops re s' then oT E fz call iL df f ops T K s' else none) s
   | none=>none)=some x→(match nth ops i with
   | some oi=>bw E f ops oi (fun s'=>uj E f ops re s'∧n9 E f ops T (fun s=>K s=some x) s') s
   | none=>False):=by
   intro x h
   split at h
   ·rename_i hk
    refine bz (gE hc hr h) fun s' h'=>?_
    obtain ⟨h1,h2⟩:=aO h'
    exact ⟨lX h1,fS hc hr hm h2⟩
   ·cases h
  unfold n9
  cases more with
  | stop=>exact ⟨first h,trivial⟩
  | done=>obtain ⟨h1,h2⟩:=hm _ _ _ h; exact ⟨first h1,fS (T:=.done) hc hr hm h2⟩
  | take a b c=>obtain ⟨h1,h2⟩:=hm _ _ _ h; exact ⟨first h1,fS hc hr hm h2⟩
  | br a b c d e=>obtain ⟨h1,h2⟩:=hm _ _ _ h; exact ⟨first h1,fS hc hr hm h2⟩
  | al a b c=>obtain ⟨h1,h2⟩:=hm _ _ _ h; exact ⟨first h1,fS hc hr hm h2⟩
end sound
end Go.Am
