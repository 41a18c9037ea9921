/- The abstract machine: maps and ranges over strings on values with leaves. -/
import Derived.Test.YtldcljfjjoidhaaGreatDoorAmKI
set_option linter.all false
namespace Go.Am
open Go
def Gu (s:St) (dst:Option Tmp) (x:SV):Option (Bool × St × St):=match x with
 | .v (.ptr id 0)=>match nth s.G id with
  | some (.fk l pos)=>some (Nat.blt pos l.length,(s.bL (aw s.G id (.fk l (pos+(nh l pos).2)))).put dst (.v (.aX [.bool true,.int .i64 pos,.int .i32 (nh l pos).1])),s.put dst (.v (.aX [.bool false])))
  | _=>none
 | _=>none
theorem Cu {s:St} {dst:Option Tmp} {x:SV} {b:Bool} {s1 s2:St} (h:Gu s dst x=some (b,s1,s2)):jT s dst x=some (bif b then s1 else s2):=by
 unfold Gu at h
 split at h
 ·split at h
  ·rename_i l pos hg
   cases h
   simp only [jT,hg]
   cases Nat.blt pos l.length <;> rfl
  ·cases h
 ·cases h
theorem DA {e:EK} {k:AV}:∀ {es:List (AV × AV)},eH e k es=true→gD e k es=some (dV e k es)
 | [],_=>rfl
 | (k',v) :: l,h=>by
  simp only [eH,Bool.and_eq_true] at h
  obtain ⟨b,hb⟩:=Option.isSome_iff_exists.1 h.1
  simp only [gD,dV,sI,hb]
  cases b
  ·simp only [cond_false]; exact DA h.2
  ·rfl
theorem Gv {e:EK} {k v:AV}:∀ {es:List (AV × AV)},eH e k es=true→qu e k v es=some (dD e k v es)
 | [],_=>rfl
 | (k',v') :: l,h=>by
  simp only [eH,Bool.and_eq_true] at h
  obtain ⟨b,hb⟩:=Option.isSome_iff_exists.1 h.1
  simp only [qu,dD,sI,hb]
  cases b
  ·simp only [cond_false,Gv h.2]
  ·rfl
mutual
def an.flat:an→Bool
 | .int _=>true
 | .bool=>true
 | .str=>true
 | .agg ps=>ps.flat
 | .aU _ _ p=>p.flat
 | _=>false
def aF.flat:aF→Bool
 | .nil=>true
 | .cons p ps=>p.flat&&ps.flat
end
theorem Aw {α:Type} {f:AV→Bool} {d:AV→α} {g:α→AV} (h:∀ a,f a=true→g (d a)=a):∀ {es:List AV},allFit f es=true→(es.map d).map g=es
 | [],_=>rfl
 | a :: l,hl=>by
  simp only [allFit,Bool.and_eq_true] at hl
  rw [List.map_cons,List.map_cons,h a hl.1,Aw h hl.2]
mutual
theorem an.ia:∀ {p:an},p.flat=true→∀ {a:AV},p.fits a=true→p.enc (p.bf a)=a
 | .int k,_,a,h=>by
  cases a <;> first | (cases h; done) | skip
  have hk:N5 _ _=true:=h
  rw [Br hk]; rfl
 | .bool,_,a,h=>by cases a <;> first | (cases h; done) | rfl
 | .str,_,a,h=>by cases a <;> first | (cases h; done) | rfl
 | .agg ps,hp,a,h=>by
  cases a <;> first | (cases h; done) | skip
  exact congrArg AV.agg (aF.ia (ps:=ps) hp h)
 | .aX _,hp,_,_=>by cases hp
 | .list _ _,hp,_,_=>by cases hp
 | .own _ _ _,hp,_,_=>by cases hp
 | .aU id sz p,hp,a,h=>by
  cases a <;> first | (cases h; done) | skip
  rename_i k bp es
  cases k <;> first | (cases h; done) | skip
  rename_i iu j
  simp only [an.fits,Bool.and_eq_true] at h
  have e1:=Nat.eq_of_beq_eq_true h.1.1
  have e2:=Nat.eq_of_beq_eq_true h.1.2
  subst e1 e2
  have hp:p.flat=true:=hp
  show AV.list (.aU id j) sz ((es.map p.bf).map p.enc)=_
  rw [Aw (fun a ha=>an.ia hp ha) h.2]
 | .iq _,hp,_,_=>by cases hp
 | .two _ _,hp,_,_=>by cases hp
theorem aF.ia:∀ {ps:aF},ps.flat=true→∀ {l:List AV},ps.fits l=true→ps.enc (ps.bf l)=l
 | .nil,_,l,h=>by
  cases l with
  | nil=>rfl
  | cons _ _=>cases h
 | .cons p .nil,hp,l,h=>by
  simp only [aF.flat,Bool.and_eq_true] at hp
  cases l with
  | nil=>cases h
  | cons a l=>
   simp only [aF.fits,Bool.and_eq_true] at h
   cases l with
   | nil=>exact congrArg (fun x=>[x]) (an.ia hp.1 h.1)
   | cons _ _=>cases h.2
 | .cons p (.cons q ps),hp,l,h=>by
  rw [aF.flat,Bool.and_eq_true] at hp
  cases l with
  | nil=>cases h
  | cons a l=>
   rw [aF.fits,Bool.and_eq_true] at h
   have h1:=an.ia hp.1 h.1
   have h2:=aF.ia (ps:=.cons q ps) hp.2 h.2
   show p.enc (p.bf a) :: (aF.cons q ps).enc ((aF.cons q ps).bf l)=a :: l
   rw [h1,h2]
end
def sR (E:Env) (s:St) (t:TypeId) (m k:SV):Option (Bool × AV × Bool):=match M7 E s.G t,E.ti t,mapOf s m,k with
 | some p,some i,some es,.v k=>match i.k with
  | .map kt _ (some z)=>match E.ti kt with
   | some j=>if j.ek.plain&&gk j.ek k&&p.flat then
     some (eH j.ek k es&&p.fits (b9 j.ek k (zq E s.G t z) es),p.enc (p.bf (b9 j.ek k (zq E s.G t z) es)),(dV j.ek k es).isSome)
    else none
   | none=>none
  | _=>none
 | _,_,_,_=>none
theorem pY {E:Env} {s:St} {t:TypeId} {m k:SV} {v:AV} {b:Bool} (h:sR E s t m k=some (true,v,b)):jS E s t m k=some (v,b):=by
 unfold sR at h
 split at h
 ·rename_i p i es k h1 h2 h3
  split at h
  ·rename_i kt et z hk
   split at h
   ·rename_i j hj
    split at h
    ·rename_i hc
     simp only [Bool.and_eq_true] at hc
     injection h with h
     injection h with h4 h
     injection h with h5 h6
     rw [Bool.and_eq_true] at h4
     rw [an.ia hc.2 h4.2] at h5
     have e:gD j.ek k es=some (dV j.ek k es):=DA h4.1
     have sf:(j.ek.plain&&gk j.ek k)=true:=by rw [hc.1.1,hc.1.2]; rfl
     have e0:gS E s t m (.v k)=some ((dV j.ek k es).getD z,(dV j.ek k es).isSome):=by
      simp only [gS,h2,h3,hk,hj,sf,if_true,e]
      cases dV j.ek k es <;> rfl
     unfold jS
     rw [e0]
     unfold b9 at h5
     cases hg:dV j.ek k es with
     | none=>
      rw [hg] at h5 h6
      subst h5 h6
      rfl
     | some v'=>
      rw [hg] at h5 h6
      subst h5 h6
      rfl
    ·cases h
   ·cases h
  ·cases h
 ·cases h
def sS (E:Env) (s:St) (t:TypeId) (m k x:SV):Option (Bool × St):=match E.ti t,m,k,x with
 | some i,.v (.map id),.v k,.v x=>match i.k,nth s.G id with
  | .map kt _ _,some (.map es)=>match E.ti kt with
   | some j=>if j.ek.plain&&gk j.ek k then some (eH j.ek k es,s.bL (aw s.G id (.map (dD j.ek k x es)))) else none
   | none=>none
  | _,_=>none
 | _,_,_,_=>none
theorem pZ {E:Env} {s s':St} {t:TypeId} {m k x:SV} (h:sS E s t m k x=some (true,s')):dR E s t m k x=some s':=by
 unfold sS at h
 split at h
 ·rename_i i id k x h1
  split at h
  ·rename_i kt _ _ es hk hg
   split at h
   ·rename_i j hj
    split at h
    ·rename_i hc
     injection h with h
     injection h with h4 h5
     simp only [dR,h1,hk,hg,hj,hc,if_true,Gv h4,h5]
    ·cases h
   ·cases h
  ·cases h
 ·cases h
def Gw (E:Env) (s:St) (dst:Option Tmp) (l:List AV) (tys:List TypeId):Option (Bool × St):=match l,tys with
 | [.iL id off sz len _,.str bs],t :: _=>match E.ti t,nth s.G id with
  | some i,some (.row cs el)=>match i.k with
   | .sl _ esz _ _ _=>if Nat.beq sz esz&&Nat.beq esz 1 then
     some (Nat.ble (off+(bs.take (Nat.min bs.length len)).length) cs.length,
      (s.bL (aw s.G id (.row (bz cs off ((bs.take (Nat.min bs.length len)).map po)) el))).put dst (.v (.int .i64 (Nat.min bs.length len))))
    else none
   | _=>none
  | _,_=>none
 | [.iL id off sz len _,.list _ bp es],t :: _=>match E.ti t,nth s.G id with
  | some i,some (.row cs el)=>match i.k with
   | .sl _ esz _ _ _=>if Nat.beq sz esz&&Nat.beq bp esz then
     some (Nat.ble (off+(ar (es.take (Nat.min es.length len))).length) cs.length,
      (s.bL (aw s.G id (.row (bz cs off (ar (es.take (Nat.min es.length len)))) el))).put dst (.v (.int .i64 (Nat.min es.length len))))
    else none
   | _=>none
  | _,_=>none
 | [.dC id f off sz len,.list _ bp xs],t :: _=>match E.ti t,nth s.G id with
  | some i,some (.dm es UR el)=>match i.k with
   | .sl _ esz _ _ _=>if Nat.beq sz esz&&Nat.beq UR sz&&Nat.beq bp esz then
     some (decide (f=es.length)&&decide (off+Nat.min xs.length len≤es.length),
      (s.bL (aw s.G id (.dm (bz es off (xs.take (Nat.min xs.length len))) UR el))).put dst (.v (.int .i64 (Nat.min xs.length len))))
    else none
   | _=>none
  | _,_=>none
 | _,_=>none
theorem Cv {E:Env} {s s':St} {dst:Option Tmp} {l:List AV} {tys:List TypeId} (h:Gw E s dst l tys=some (true,s')):bB E s dst .copy l tys=some (true,s'):=by
 unfold Gw at h
 split at h
 ·rename_i id off sz len cap bs t ts
  split at h
  ·rename_i i cs el hi hid
   split at h
   ·rename_i a1 esz a2 a3 a4 hk
    split at h
    ·rename_i hc
     rw [Bool.and_eq_true] at hc
     injection h with h
     injection h with h1 h2
     have tj:(Nat.beq esz 1&&Nat.ble (off+(bs.take (Nat.min bs.length len)).length) cs.length)=true:=by rw [hc.2,h1]; rfl
     simp only [bB,hi,hk,pq,hid,hc.1,if_true,tj,h2]
    ·cases h
   ·cases h
  ·cases h
 ·rename_i id off sz len cap k bp es t ts
  split at h
  ·rename_i i cs el hi hid
   split at h
   ·rename_i a1 esz a2 a3 a4 hk
    split at h
    ·rename_i hc
     rw [Bool.and_eq_true] at hc
     injection h with h
     injection h with h1 h2
     have e2:(Nat.beq bp esz || es.isEmpty)=true:=by rw [hc.2]; rfl
     simp only [bB,hi,hk,pq,hid,hc.1,if_true,e2,h1,h2]
    ·cases h
   ·cases h
  ·cases h
 ·rename_i id f off sz len k bp xs t ts
  split at h
  ·rename_i i es UR el hi hid
   split at h
   ·rename_i a1 esz a2 a3 a4 hk
    split at h
    ·rename_i hc
     rw [Bool.and_eq_true] at hc
     injection h with h
     injection h with h1 h2
     rw [Bool.and_eq_true,decide_eq_true_eq,decide_eq_true_eq] at h1
     obtain ⟨rfl,h1⟩:=h1
     have e2:(Nat.beq sz esz&&Nat.beq UR sz&&(Nat.beq bp esz || xs.isEmpty)&&Nat.ble es.length es.length&&Nat.ble es.length es.length&&Nat.ble (off+Nat.min xs.length len) es.length)=true:=by
      rw [hc.1,hc.2]
      simp only [Bool.true_or,Bool.true_and,Bool.and_eq_true]
      exact ⟨⟨Nat.ble_eq_true_of_le (Nat.le_refl _),Nat.ble_eq_true_of_le (Nat.le_refl _)⟩,Nat.ble_eq_true_of_le h1⟩
     simp only [bB,hi,hk,pq,hid,e2,if_true,h2]
    ·cases h
   ·cases h
  ·cases h
 ·cases h
def sT (s:St) (dst:Option Tmp) (elem esz bh:Nat) (k:LK) (sz:Nat) (es ys:List AV):Option (Bool × St × Bool × St):=
 match k with
 | .nil=>some (ys.isEmpty,s.put dst (.v (.list .nil sz es)),decide ((es.length+ys.length) * bh≤140737488355328),
   (s.bL (s.G++[.tok (es.length+ys.length) esz elem])).put dst (.v (.list (.own s.G.length) esz (es++ys))))
 | .full=>if Nat.beq sz esz then some (ys.isEmpty,s.put dst (.v (.list .full sz es)),decide ((es.length+ys.length) * bh≤140737488355328),
   (s.bL (s.G++[.tok (es.length+ys.length) esz elem])).put dst (.v (.list (.own s.G.length) esz (es++ys)))) else none
 | .own id=>match nth s.G id with
  | some (.tok f bp e')=>if Nat.beq bp esz&&Nat.beq e' elem&&Nat.beq sz esz then
    some (false,s,decide (f=es.length)&&decide ((es.length+ys.length) * bh≤140737488355328),
     (s.bL (Fv s.G id ys.length f esz elem)).put dst (.v (.list (.own id) esz (es++ys)))) else none
  | _=>none
 | .aU id j=>match nth s.G id with
  | some (.aU fs bp e')=>if Nat.beq bp esz&&Nat.beq e' elem&&Nat.beq sz esz then
    some (ys.isEmpty,s.put dst (.v (.list (.aU id j) sz es)),Jr fs j es.length&&decide ((es.length+ys.length) * bh≤140737488355328),
     (s.bL (aw s.G id (.aU (D6 fs j (es.length+ys.length)) esz elem))).put dst (.v (.list (.aU id j) esz (es++ys)))) else none
  | _=>none
 | .dP=>none
def yu (s:St) (dst:Option Tmp) (elem esz bh id f off sz len:Nat) (ys:List AV):Option (Bool × St × Bool × St):=match nth s.G id with
 | some (.dm es bp e')=>if Nat.beq bp esz&&Nat.beq e' elem&&Nat.beq sz esz then
   some (false,s,decide (f=es.length)&&decide (off=0)&&decide (len=f)&&decide ((es.length+ys.length) * bh≤140737488355328),
    (s.bL (aw s.G id (.dm (es++ys) esz elem))).put dst (.v (.dC id (es.length+ys.length) 0 esz (es.length+ys.length)))) else none
 | _=>none
def yw (E:Env) (s:St) (dst:Option Tmp) (l:List AV) (tys:List TypeId):Option (Bool × St × Bool × St):=match l,tys with
 | [.list k sz es,.list _ bp ys],[t,u]=>match E.ti t with
  | some i=>match i.k with
   | .sl elem esz _ bh (some z)=>
    if Nat.beq bp esz&&Nat.beq t u&&Nat.ble 1 esz&&Nat.ble 1 bh&&Nat.beq z.cells.length esz&&z.aL then
     sT s dst elem esz bh k sz es ys
    else none
   | _=>none
  | none=>none
 | [.dC id f off sz len,.list _ bp ys],[t,u]=>match E.ti t with
  | some i=>match i.k with
   | .sl elem esz _ bh (some z)=>
    if Nat.beq bp esz&&Nat.beq t u&&Nat.ble 1 esz&&Nat.ble 1 bh&&Nat.beq z.cells.length esz&&z.aL then yu s dst elem esz bh id f off sz len ys else none
   | _=>none
  | none=>none
 | [.list k sz es,.str bs],[t,u]=>match E.ti t,E.ti u with
  | some i,some j=>match i.k,j.k with
   | .sl elem esz _ bh (some z),.str=>
    if Nat.beq esz 1&&Nat.ble 1 bh&&Nat.beq z.cells.length esz&&z.aL then sT s dst elem esz bh k sz es (bs.map po) else none
   | _,_=>none
  | _,_=>none
 | _,_=>none
theorem p0 {s s1 s2:St} {dst:Option Tmp} {elem esz bh:Nat} {k:LK} {sz:Nat} {es ys:List AV} {b c:Bool} (h:sT s dst elem esz bh k sz es ys=some (b,s1,c,s2)) (hc:b=false→c=true) :
  ∃ v G',eX s.G elem esz bh (.list k sz es) ys=some (true,v,G')∧(s.bL G').put dst (.v v)=bif b then s1 else s2:=by
 unfold sT at h
 cases k with
 | nil=>
  cases h
  cases ys with
  | nil=>exact ⟨_,_,rfl,rfl⟩
  | cons y ys=>
   have hc:=hc rfl
   exact ⟨_,_,by simp only [eX,hc],rfl⟩
 | full=>
  simp only at h
  cases hs:Nat.beq sz esz with
  | false=>rw [hs] at h; cases h
  | true=>
   rw [hs] at h
   cases h
   cases ys with
   | nil=>exact ⟨_,_,rfl,rfl⟩
   | cons y ys=>
    have hc:=hc rfl
    exact ⟨_,_,by simp only [eX,hs,if_true,hc],rfl⟩
 | own id=>
  simp only at h
  split at h
  ·rename_i f bp e' hg
   split at h
   ·rename_i b6
    cases h
    have hc:=hc rfl
    cases ys with
    | nil=>
     simp only [Bool.and_eq_true] at b6
     have e1:=Nat.eq_of_beq_eq_true b6.1.1
     have e2:=Nat.eq_of_beq_eq_true b6.1.2
     have e3:=Nat.eq_of_beq_eq_true b6.2
     subst e1; subst e2; subst e3
     refine ⟨_,_,rfl,?_⟩
     simp only [cond_false,Fv,List.length_nil,Nat.add_zero,gV hg,List.append_nil]
    | cons y ys=>exact ⟨_,_,by simp only [eX,hg,b6,if_true,hc],rfl⟩
   ·cases h
  ·cases h
 | aU id j=>
  simp only at h
  split at h
  ·rename_i fs bp e' hg
   split at h
   ·rename_i b6
    cases h
    cases ys with
    | nil=>exact ⟨_,_,rfl,rfl⟩
    | cons y ys=>
     have hc:=hc rfl
     exact ⟨_,_,by simp only [eX,hg,b6,if_true,hc],rfl⟩
   ·cases h
  ·cases h
 | dP=>cases h
theorem yx {s s1 s2:St} {dst:Option Tmp} {elem esz bh id f off sz len:Nat} {ys:List AV} {b c:Bool} (h:yu s dst elem esz bh id f off sz len ys=some (b,s1,c,s2)) (hc:b=false→c=true) :
  ∃ v G',eX s.G elem esz bh (.dC id f off sz len) ys=some (true,v,G')∧(s.bL G').put dst (.v v)=bif b then s1 else s2:=by
 unfold yu at h
 split at h
 ·rename_i es bp e' hg
  split at h
  ·rename_i b6
   cases h
   have hc:=hc rfl
   cases ys with
   | nil=>
    simp only [Bool.and_eq_true,decide_eq_true_eq] at hc b6
    have e1:=Nat.eq_of_beq_eq_true b6.1.1
    have e2:=Nat.eq_of_beq_eq_true b6.1.2
    have e3:=Nat.eq_of_beq_eq_true b6.2
    obtain ⟨⟨⟨h1,h2⟩,h3⟩,_⟩:=hc
    subst e1; subst e2; subst e3; subst h1; subst h2; subst h3
    refine ⟨_,_,rfl,?_⟩
    simp only [cond_false,List.length_nil,Nat.add_zero,gV hg,List.append_nil]
   | cons y ys=>exact ⟨_,_,by simp only [eX,hg,b6,if_true,hc],rfl⟩
  ·cases h
 ·cases h
theorem yy {E:Env} {s s1 s2:St} {dst:Option Tmp} {l:List AV} {tys:List TypeId} {b c:Bool} (h:yw E s dst l tys=some (b,s1,c,s2)) (zD:b=false→c=true):bB E s dst .append l tys=some (true,bif b then s1 else s2):=by
 unfold yw at h
 split at h
 ·rename_i k sz es k' bp ys t u
  split at h
  ·rename_i i hi
   split at h
   ·rename_i elem esz a1 bh z hk
    split at h
    ·rename_i hc
     have sf:((Nat.beq bp esz || ys.isEmpty)&&Nat.beq t u&&Nat.ble 1 esz&&Nat.ble 1 bh&&Nat.beq z.cells.length esz&&z.aL)=true:=by
      simp only [Bool.and_eq_true] at hc ⊢
      obtain ⟨⟨⟨⟨⟨c1,c2⟩,c3⟩,c4⟩,c5⟩,c6⟩:=hc
      exact ⟨⟨⟨⟨⟨by rw [c1]; rfl,c2⟩,c3⟩,c4⟩,c5⟩,c6⟩
     obtain ⟨v,G',h1,h2⟩:=p0 h zD
     simp only [bB,hi,hk,sf,if_true,h1,h2]
    ·cases h
   ·cases h
  ·cases h
 ·rename_i id f off sz len k' bp ys t u
  split at h
  ·rename_i i hi
   split at h
   ·rename_i elem esz a1 bh z hk
    split at h
    ·rename_i hc
     have sf:((Nat.beq bp esz || ys.isEmpty)&&Nat.beq t u&&Nat.ble 1 esz&&Nat.ble 1 bh&&Nat.beq z.cells.length esz&&z.aL)=true:=by
      simp only [Bool.and_eq_true] at hc ⊢
      obtain ⟨⟨⟨⟨⟨c1,c2⟩,c3⟩,c4⟩,c5⟩,c6⟩:=hc
      exact ⟨⟨⟨⟨⟨by rw [c1]; rfl,c2⟩,c3⟩,c4⟩,c5⟩,c6⟩
     obtain ⟨v,G',h1,h2⟩:=yx h zD
     simp only [bB,hi,hk,sf,if_true,h1,h2]
    ·cases h
   ·cases h
  ·cases h
 ·rename_i k sz es bs t u
  split at h
  ·rename_i i j hi hj
   split at h
   ·rename_i elem esz a1 bh z hk Rj
    split at h
    ·rename_i hc
     obtain ⟨v,G',h1,h2⟩:=p0 h zD
     simp only [bB,hi,hj,hk,Rj,hc,if_true,h1,h2]
    ·cases h
   ·cases h
  ·cases h
 ·cases h
end Go.Am
namespace Go.Am
open Go
def O1 (E:Env) (cut wk:Bool) (t:TypeId) (r:AV) (G:List GO):Option (Bool × AV × List GO):=match r with
 | .dC id f 0 sz len=>match nth G id,E.ti t with
  | some (.dm es bp _),some i=>match i.k with
   | .sl _ esz _ _ _=>if Nat.beq esz sz&&Nat.beq bp sz then
     bif cut then some (decide (f=es.length)&&decide (len≤es.length)&&aS (wu wk es),.list .dP sz (wu wk (es.take len)),aw G id .dead)
     else some (decide (f=es.length)&&decide (len=es.length)&&aS (wu wk es),.list .dP sz (wu wk es),aw G id .dead)
    else none
   | _=>none
  | _,_=>none
 | .iL id 0 sz len _=>match nth G id,E.ti t,E.M6 t with
  | some (.row cs _),some i,some p=>match i.k with
   | .sl _ esz agg _ _=>if Nat.beq esz sz&&Nat.ble 1 sz&&(agg || Nat.beq sz 1)&&p.under 0 then
     some (Nat.beq cs.length (len * sz)&&allFit (fun e=>p.fits e&&e.aL&&(agg || e.one)) (fM agg sz len cs),.list .dP sz ((fM agg sz len cs).map fun e=>p.enc (p.bf e)),aw G id .dead)
    else none
   | _=>none
  | _,_,_=>none
 | .agg cs=>match ky wk cs G with
  | (c,cs',G')=>some (c,.agg cs',G')
 | .ptr id 0=>match nth G id with
  | some (.row cs _)=>some (aS cs,.ep cs,aw G id .dead)
  | _=>none
 | _=>none
def uK (E:Env) (cut wk:Bool):List TypeId→List AV→List GO→Bool × List AV × List GO
 | t :: ts,r :: rs,G=>match O1 E cut wk t r G with
  | some (c,r',G')=>match uK E cut wk ts rs G' with
   | (c',Gx,wY)=>(c&&c',r' :: Gx,wY)
  | none=>match uK E cut wk ts rs G with
   | (c',Gx,wY)=>(c',r :: Gx,wY)
 | _,rs,G=>(true,rs,G)
def O2 {X:Type} (E:Env) (cut wk:Bool) (ts:List TypeId) (K:AV→List GO→Option X) (r:AV) (G:List GO):Option X:=match r with
 | .aX rs=>match uK E cut wk ts rs G with
  | (c,Gx,G')=>bif c then K (.aX Gx) G' else none
 | r=>match uK E cut wk ts [r] G with
  | (c,[r'],G')=>bif c then K r' G' else none
  | _=>none
section
variable {E:Env} {R:ai} {w:World}
theorem uL {R:ai} {b:Nat} (hI:∀ o,R.I b o):∀ {cs:List AV} {vs:List Value} {o:Nat},aD R w cs vs→(∀ v∈vs,v.oneCell'=true)→(∀ (j:Nat) (v:Value),vs[j]?=some v→w.cell? ⟨b,o+j,none⟩=some v)→cW R w b o cs
 | [],_,o,_,_,_=>.nil
 | a :: cs,_,o,.cons h t,h1,hc=>.cons (hc 0 _ rfl) (h1 _ (by simp)) (hI o) h (uL hI t (fun v hv=>h1 v (by simp [hv])) fun j v hj=>by
   have:=hc (j+1) v (by simpa using hj)
   rwa [show o+(j+1)=o+1+j by omega] at this)
theorem uM {R:ai} {b:Nat} {p:an} {agg:Bool} {sz:Nat} (hI:∀ o,R.I b o) (hp:p.under 0=true) (dG:(agg || Nat.beq sz 1)=true) (V8:1≤sz):∀ (n:Nat) {cs:List AV} {vs:List Value} {o:Nat},aD R w cs vs→(∀ v∈vs,v.oneCell'=true)→cs.length=n * sz →
  (∀ (j:Nat) (v:Value),vs[j]?=some v→w.cell? ⟨b,o+j,none⟩=some v)→allFit (fun e=>p.fits e&&e.aL&&(agg || e.one)) (fM agg sz n cs)=true→e7 R w b o sz ((fM agg sz n cs).map fun e=>p.enc (p.bf e))
 | 0,_,_,_,_,_,_,_,_=>.nil
 | n+1,cs,vs,o,h,h1,hl,hc,hf=>by
  simp only [fM,allFit,Bool.and_eq_true] at hf
  obtain ⟨⟨⟨tC,UC⟩,hf4⟩,hf3⟩:=hf
  have hlen:=h.length
  have hle:sz≤cs.length:=by rw [hl,Nat.succ_mul]; omega
  have dk:=p.cm tC
  have kh:(RM agg (cs.take sz)).cells=cs.take sz:=by
   cases agg with
   | true=>rfl
   | false=>
    have Jb:sz=1:=by simpa using dG
    subst Jb
    match cs,hle with
    | a :: cs,_=>
     show AV.cells a=[a]
     have ho:a.one=true:=by simpa [RM,dq] using hf4
     cases a <;> first | rfl | simp [AV.one] at ho
  have hw:=dk.cells UC
  rw [kh] at hw
  have hA:cW R w b o (cs.take sz):=uL hI (h.take sz) (fun v hv=>h1 v (List.mem_of_mem_take hv)) fun j v hj=>hc j v (by
   rw [List.getElem?_take] at hj
   split at hj
   ·exact hj
   ·cases hj)
  refine .cons (by rw [← hw.length,List.length_take,Nat.min_eq_left hle]) (by rw [dk.aX]; exact UC) (kl (p.cM _ hp)) (hw.FB hA) ?_
  exact uM hI hp dG V8 n (h.drop sz) (fun v hv=>h1 v (List.mem_of_mem_drop hv)) (by rw [List.length_drop,hl,Nat.succ_mul]; omega) (fun j v hj=>by
   rw [List.getElem?_drop] at hj
   have:=hc _ _ hj
   rwa [show o+(sz+j)=o+sz+j by omega] at this) hf3
theorem J0 {cut wk:Bool} {t:TypeId} {r r':AV} {G G':List GO} {c:Value} (hg:cI E R w G) (hr:Rel R w r c) (h:O1 E cut wk t r G=some (true,r',G')) :
  ∃ R',cI E R' w G'∧Rel R' w r' c∧Ext R w R' w∧R'.obj=R.obj∧∀ b o,R'.I b o→R.I b o∨Live R b:=by
 unfold O1 at h
 split at h
 ·rename_i id f sz len
  obtain ⟨ro,bA⟩:∃ ro,nth R.obj id=some ro:=by
   cases hr with
   | gA q _=>exact ⟨_,q⟩
   | dC q _ _=>exact ⟨_,q⟩
  split at h
  ·rename_i es bp el i hid hi
   split at h
   ·split at h
    ·rename_i hc
     rw [Bool.and_eq_true] at hc
     have q1:=Nat.eq_of_beq_eq_true hc.2
     subst q1
     cases cut with
     | true=>
      simp only [cond_true] at h
      injection h with h; injection h with h1 h; injection h with h2 h3
      subst h2 h3
      rw [Bool.and_eq_true,Bool.and_eq_true,decide_eq_true_eq,decide_eq_true_eq] at h1
      obtain ⟨h1,iw⟩:=h1
      obtain ⟨R',r1,r2,r3,r4,r5⟩:=lm (wk:=wk) hg hid h1.1 h1.2 iw bA
      exact ⟨R',r1,r5 c hr,r2,r3,fun b o hi=>(r4 b o hi).imp_right fun hb=>⟨id,ro,bA,hb⟩⟩
     | false=>
      simp only [cond_false] at h
      injection h with h; injection h with h1 h; injection h with h2 h3
      subst h2 h3
      rw [Bool.and_eq_true,Bool.and_eq_true,decide_eq_true_eq,decide_eq_true_eq] at h1
      obtain ⟨h1,iw⟩:=h1
      obtain ⟨R',r1,r2,r3,r4,r5⟩:=lm (wk:=wk) hg hid h1.1 (Nat.le_of_eq h1.2) iw bA
      have r6:=r5 c hr
      rw [h1.2,List.take_length] at r6
      exact ⟨R',r1,r6,r2,r3,fun b o hi=>(r4 b o hi).imp_right fun hb=>⟨id,ro,bA,hb⟩⟩
    ·cases h
   ·cases h
  ·cases h
 ·rename_i id sz len cap
  split at h
  ·rename_i cs i p hid hi hp
   split at h
   ·rename_i el esz agg eb z hk
    split at h
    ·rename_i hc
     simp only [Bool.and_eq_true] at hc
     injection h with h
     injection h with h1 h
     injection h with h2 h3
     subst h2 h3
     rw [Bool.and_eq_true] at h1
     cases hr with
     | @iL _ _ _ _ _ b hb fN=>
     obtain ⟨vs,k1,k2,k3,k4⟩:=hg.obj id _ _ hid hb
     have zF:Live R b:=⟨id,_,hb,rfl⟩
     have e:=nr R w b
     have bT:=aV k1
     refine ⟨R.all b,⟨by show R.obj.length=_; rw [fU]; exact hg.len,fun iu go ro q1 q2=>?_,hg.inj,fun b' o ho=>?_,fun g cs ox=>(hg.bN g cs ox).mono e,hg.lo⟩,?_,e,rfl,fun b' o ho=>?_⟩
     ·rcases cD q1 with ⟨rfl,rfl,_⟩ | ⟨cj,q1⟩
      ·have:ro=.bJ b:=Option.some.inj (q2.symm.trans hb)
       subst this
       exact bT
      ·refine (hg.obj iu go ro q1 q2).mono e (fun _ _=>rfl) (fun b' o kd ho=>?_)
       rcases ho with ho | ho
       ·exact ho
       ·subst ho
        exact absurd (hg.inj id iu _ _ b' hb q2 rfl kd) cj
     ·rcases ho with ho | ho
      ·exact hg.wf b' o ho
      ·subst ho; exact bT
     ·refine Rel.list (uM (R:=R.all b) (fun o=>Or.inr rfl) hc.2 hc.1.2 (Nat.le_of_ble_eq_true hc.1.1.2) len (k2.mono e) k3 (Nat.eq_of_beq_eq_true h1.1) (fun j v hj=>?_) h1.2) ?_ fN trivial
      ·simp only [World.cell?,k1]
       simpa using hj
      ·rw [List.length_map]
       have:∀ (n:Nat) (l:List AV),(fM agg sz n l).length=n:=by
        intro n
        induction n with
        | zero=>intro l; rfl
        | succ n ih=>intro l; simp [fM,ih]
       rw [this]
     ·rcases ho with ho | ho
      ·exact .inl ho
      ·subst ho; exact .inr zF
    ·cases h
   ·cases h
  ·cases h
 ·rename_i cs
  cases h2:ky wk cs G with
  | mk c' q=>
  obtain ⟨cs',G2⟩:=q
  rw [h2] at h
  injection h with h; injection h with h1 h; injection h with h3 h4
  subst h1 h3 h4
  cases hr with
  | agg hr tj=>
  obtain ⟨R',r1,r2,r3,r4,r5⟩:=pO hg hr h2
  exact ⟨R',r1,.agg r2 tj,r3,r4,r5⟩
 ·-- an object's cells never change again
  rename_i id
  split at h
  ·rename_i cs el hid
   injection h with h; injection h with h1 h; injection h with h2 h3
   subst h2 h3
   cases hr with
   | @ptr _ _ b bA=>
   obtain ⟨vs,b1,b2,b3,b4⟩:=hg.obj id _ _ hid bA
   have r2:=nr R w b
   have r1:=hg.freeze bA rfl (show fx (R.all b) w .dead (.bJ b) from aV b1)
   refine ⟨R.all b,r1,Rel.ep (cW.make (b2.mono r2) b3 (fun j v hv=>?_) (fun j _=>.inr rfl)),r2,rfl,fun b' o hi=>?_⟩
   ·rw [gX b1,Nat.zero_add]
    exact hv
   ·rcases hi with hi | rfl
    ·exact .inl hi
    ·exact .inr ⟨id,_,bA,rfl⟩
  ·cases h
 ·cases h
theorem sU {cut wk:Bool}:∀ {ts:List TypeId} {rs Gx:List AV} {G G':List GO} {cs:List Value} {R:ai},cI E R w G→aD R w rs cs→uK E cut wk ts rs G=(true,Gx,G') →
  ∃ R',cI E R' w G'∧aD R' w Gx cs∧Ext R w R' w∧R'.obj=R.obj∧∀ b o,R'.I b o→R.I b o∨Live R b
 | [],rs,Gx,G,G',cs,R,hg,hr,h=>by
  cases rs <;> (simp only [uK] at h; cases h; exact ⟨R,hg,hr,Ext.refl R w,rfl,fun _ _ h=>.inl h⟩)
 | _ :: _,[],Gx,G,G',cs,R,hg,hr,h=>by
  simp only [uK] at h; cases h; exact ⟨R,hg,hr,Ext.refl R w,rfl,fun _ _ h=>.inl h⟩
 | t :: ts,r :: rs,Gx,G,G',cs,R,hg,hr,h=>by
  cases hr with
  | cons h0 hr=>
  unfold uK at h
  split at h
  ·rename_i c r' G1 h1
   cases h2:uK E cut wk ts rs G1 with
   | mk c' q=>
   obtain ⟨Sw,G2⟩:=q
   rw [h2] at h
   simp only [Prod.mk.injEq,Bool.and_eq_true] at h
   obtain ⟨⟨rfl,rfl⟩,rfl,rfl⟩:=h
   obtain ⟨R1,a1,a2,a3,a4,a5⟩:=J0 hg h0 h1
   obtain ⟨R2,b1,b2,b3,b4,b5⟩:=sU a1 (hr.mono a3) h2
   refine ⟨R2,b1,.cons (a2.mono b3) b2,a3.trans b3,b4.trans a4,fun b o ho=>?_⟩
   rcases b5 b o ho with ho | ho
   ·exact a5 b o ho
   ·obtain ⟨id,ro,q1,q2⟩:=ho
    rw [a4] at q1
    exact .inr ⟨id,ro,q1,q2⟩
  ·cases h2:uK E cut wk ts rs G with
   | mk c' q=>
   obtain ⟨Sw,G2⟩:=q
   rw [h2] at h
   simp only [Prod.mk.injEq] at h
   obtain ⟨rfl,rfl,rfl⟩:=h
   obtain ⟨R2,b1,b2,b3,b4,b5⟩:=sU hg hr h2
   exact ⟨R2,b1,.cons (h0.mono b3) b2,b3,b4,b5⟩
theorem bU.Z7 {g:FuncId} {args:List AV} {G:List GO} {X:Type} {cut wk:Bool} {ts:List TypeId} {K:AV→List GO→Option X} {x:X} (h:bU E g args G (fun r G'=>O2 E cut wk ts K r G'=some x)):bU E g args G (fun r G'=>K r G'=some x):=
 ⟨h.1,fun R w cs hg hl=>(h.2 R w cs hg hl).mono fun e w' he=>by
  cases e with
  | panicked c=>exact he.elim
  | outgrown=>exact he.elim
  | returned c=>
   obtain ⟨r,G',R1,hq,di,JZ,st⟩:=he
   have fin:∀ (r':AV) (G2:List GO) (R2:ai),K r' G2=some x→cI E R2 w' G2→Rel R2 w' r' c→Ext R1 w' R2 w'→R2.obj=R1.obj→(∀ b o,R2.I b o→R1.I b o∨Live R1 b)→Dn E R w (fun r G'=>K r G'=some x) (.returned c) w':=by
    intro r' G2 R2 k1 k2 k3 k4 k5 k6
    have live:∀ b,Live R2 b→Live R1 b:=fun b ⟨id,ro,q1,q2⟩=>⟨id,ro,by rw [← k5]; exact q1,q2⟩
    refine ⟨r',G2,R2,k1,k3,k2,⟨st.ext.trans k4,st.os,st.tape,st.output,st.size,st.bq,fun b hb ho=>?_,fun b o hi hb hn=>?_⟩⟩
    ·rcases ho with ho | ⟨k,cs,hk,rfl⟩
     ·exact st.own b hb (.inl (live b ho))
     ·simp [dW,cG] at hk
    ·rcases k6 b o hi with hi | hi
     ·exact st.im b o hi hb hn
     ·exact absurd (st.own b hb (.inl hi)) hn
   unfold O2 at hq
   split at hq
   ·rename_i rs
    cases di with
    | aX di=>
    cases h2:uK E cut wk ts rs G' with
    | mk c' q=>
    obtain ⟨Sw,G2⟩:=q
    rw [h2] at hq
    cases c' with
    | false=>cases hq
    | true=>
     obtain ⟨R2,b1,b2,b3,b4,b5⟩:=sU JZ di h2
     exact fin (.aX Sw) G2 R2 hq b1 (.aX b2) b3 b4 b5
   ·split at hq
    ·rename_i c' r' G2 h2
     cases c' with
     | false=>cases hq
     | true=>
      obtain ⟨R2,b1,b2,b3,b4,b5⟩:=sU JZ (.cons di .nil) h2
      cases b2 with
      | cons b2 _=>exact fin r' G2 R2 hq b1 b2 b3 b4 b5
    ·cases hq⟩
end
end Go.Am
namespace Go.Am
open Go
inductive RP
 | Nt (p:an)
 | map (pe:an)
 | ep (ps:aF)
def RP.T:RP→Type
 | .Nt p=>p.T
 | .map pe=>List pe.T
 | .ep ps=>ps.T
def RP.enc (n:Nat):(p:RP)→p.T→AV
 | .Nt p,x=>p.enc x
 | .map _,_=>.map n
 | .ep ps,x=>.ep (ps.enc x)
def RP.Cw:(p:RP)→p.T→List GO
 | .Nt _,_=>[]
 | .map pe,(x:List pe.T)=>[.map (ab (x.map pe.enc))]
 | .ep _,_=>[]
def RP.no:RP→Nat
 | .map _=>1
 | _=>0
def qT:List RP→Type
 | []=>Unit
 | [p]=>p.T
 | p :: q :: l=>p.T × qT (q :: l)
def mS:(n:Nat)→(l:List RP)→qT l→List AV
 | _,[],_=>[]
 | n,[p],x=>[p.enc n x]
 | n,p :: q :: l,x=>p.enc n x.1 :: mS (n+p.no) (q :: l) x.2
def fK:(l:List RP)→qT l→List GO
 | [],_=>[]
 | [p],x=>p.Cw x
 | p :: q :: l,x=>p.Cw x.1++fK (q :: l) x.2
structure RF where
 aX:Bool
 l:List RP
def RF.val (f:RF) (n:Nat) (x:qT f.l):AV:=bif f.aX then .aX (mS n f.l x) else dq (mS n f.l x)
def RP.is:RP→AV→Bool
 | .Nt p,v=>match p with
  | .iq u=>dp v u
  | _=>true
 | .map _,v=>match v with
  | .map _=>true
  | _=>false
 | .ep _,v=>match v with
  | .ep _=>true
  | _=>false
def Gy:List RP→List AV→Bool
 | [],[]=>true
 | p :: l,v :: vs=>p.is v&&Gy l vs
 | _,_=>false
def RF.args (f:RF) (r:AV):List AV:=bif f.aX then r.N6 else [r]
def RF.wZ (f:RF):AV→Bool
 | .aX _=>f.aX
 | _=>!f.aX
def yz (G:List GO) (used:List Nat) (pe:an) (v:AV):Option (List pe.T):=match v with
 | .map id=>match nth G id with
  | some (.map es)=>bif Jm used id then none else (bif allFit pe.fits (aj es) then some ((aj es).map pe.bf) else none)
  | _=>none
 | _=>none
def DB (ps:aF) (v:AV):Option ps.T:=match v with
 | .ep cs=>ps.dec cs
 | _=>none
def RP.dec (G:List GO) (used:List Nat):(p:RP)→AV→Option p.T
 | .Nt p,v=>p.dec v
 | .map pe,v=>yz G used pe v
 | .ep ps,v=>DB ps v
def qU (used:List Nat):AV→List Nat
 | .map id=>id :: used
 | _=>used
def qV (G:List GO):(used:List Nat)→(l:List RP)→List AV→Option (qT l)
 | _,[],vs=>match vs with
  | []=>some ()
  | _=>none
 | u,[p],vs=>match vs with
  | [v]=>p.dec G u v
  | _=>none
 | u,p :: q :: l,vs=>match vs with
  | v :: vs=>(p.dec G u v).bind fun x=>(qV G (qU u v) (q :: l) vs).bind fun y=>some (x,y)
  | []=>none
def RF.dec (f:RF) (G:List GO) (r:AV):Option (qT f.l):=bif f.wZ r then qV G [] f.l (f.args r) else none
def RP.under:RP→Bool
 | .Nt p=>p.under 0
 | .map pe=>pe.under 0
 | .ep ps=>ps.under 0
def RF.under (f:RF):Bool:=f.l.all RP.under&&(f.aX || Nat.beq f.l.length 1)
def XT:List RF→Type
 | []=>Empty
 | [f]=>qT f.l
 | f :: g :: l=>qT f.l ⊕ XT (g :: l)
def Gz (G:List GO) (r:AV):(l:List RF)→Option (XT l)
 | []=>none
 | [f]=>f.dec G r
 | f :: g :: l=>bif f.wZ r&&Gy f.l (f.args r) then (f.dec G r).bind fun x=>some (.inl x) else (Gz G r (g :: l)).bind fun x=>some (.inr x)
def Ru {α:Type} (G:List GO) (K:AV→List GO→α):(l:List RF)→XT l→α
 | [],o=>Empty.rec (fun _=>α) o
 | [f],o=>K (f.val G.length o) (G++fK f.l o)
 | f :: g :: l,o=>Sum.elim (fun v=>K (f.val G.length v) (G++fK f.l v)) (fun o=>Ru G K (g :: l) o) o
theorem Ax {α:Type} {G:List GO} {K:AV→List GO→α} {r:AV} {G':List GO}:∀ (l:List RF) (o:XT l),Ru G (fun r0 G0=>r=r0∧G'=G0) l o→K r G'=Ru G K l o
 | [],o,_=>nomatch o
 | [f],o,h=>by
  have h:r=f.val G.length o∧G'=G++fK f.l o:=h
  rw [h.1,h.2]; rfl
 | f :: g :: l,.inl v,h=>by
  have h:r=f.val G.length v∧G'=G++fK f.l v:=h
  rw [h.1,h.2]; rfl
 | f :: g :: l,.inr o,h=>Ax (g :: l) o h
def uN (E:Env) (g:FuncId) (args:List AV) (outs:List RF) (Q:XT outs→Prop):Prop:=
 ∀ G,bU E g args G (fun r G'=>∃ y,Q y∧Ru G (fun r0 G0=>r=r0∧G'=G0) outs y)
section
variable {E:Env} {R R1 R2:ai} {w:World}
theorem cH.Nu (m:Mv R R2 0):∀ {es:List (AV × AV)} {l:List AV} {ax:List MapEntry},iJ (aj es) l→aA 0 l=true→cH R w es ax→cH R2 w (ab l) ax
 | [],[],[],_,_,_=>trivial
 | [],[],_ :: _,_,_,h=>h.elim
 | [],_ :: _,_,h,_,_=>h.elim
 | (_,_) :: _,[],_,h,_,_=>h.elim
 | (_,_) :: _,_ :: _,[],_,_,h=>h.elim
 | (k,v) :: es,a :: l,en :: ax,hd,hu,h=>by
  obtain ⟨d1,d2⟩:=hd
  simp only [aA,Bool.and_eq_true] at hu
  have hc:=d1.cells rfl
  have hl:[k,v].length=a.cells.length:=hc.length
  cases a with
  | agg cs=>
   match cs,hc,hl with
   | [k',v'],hc,_=>
    have OX:aA 0 [k',v']=true:=hu.1
    simp only [aA,Bool.and_true,Bool.and_eq_true] at OX
    exact ⟨(hc.1 _ _ _ h.1).move m OX.1,(hc.2.1 _ _ _ h.2.1).move m OX.2,cH.Nu m d2 hu.2 h.2.2⟩
   | [],_,hl=>simp [AV.cells] at hl
   | [_],_,hl=>simp [AV.cells] at hl
   | _ :: _ :: _ :: _,_,hl=>simp [AV.cells] at hl
  | _=>simp [AV.cells] at hl
theorem an.uO {p:an} (h:p.under 0=true):∀ l:List p.T,aA 0 (l.map p.enc)=true
 | []=>rfl
 | x :: l=>by
  show ((p.enc x).under 0&&aA 0 (l.map p.enc))=true
  rw [p.cM x h,an.uO h l]
  rfl
def uP (R:ai) (n:Nat) (bs:List Nat):Prop:=∀ k b,nth bs k=some b→nth R.obj (n+k)=some (.bJ b)
def DC (R:ai) (w:World) (gs:List GO) (bs:List Nat):Prop:=∀ k go b,nth gs k=some go→nth bs k=some b→fx R w go (.bJ b)
theorem RP.Nv (p:RP) (x:p.T):(p.Cw x).length=p.no:=by cases p <;> rfl
theorem GA {ps:aF} {v:AV} {y:ps.T} (h:DB ps v=some y):∃ cs,v=.ep cs∧ps.dec cs=some y:=by
 unfold DB at h
 split at h
 ·exact ⟨_,rfl,h⟩
 ·cases h
theorem EP {G:List GO} {used:List Nat} {pe:an} {v:AV} {y:List pe.T} (h:yz G used pe v=some y):∃ id es,v=.map id∧nth G id=some (.map es)∧id∉used∧iJ (aj es) (y.map pe.enc):=by
 unfold yz at h
 split at h
 ·rename_i id
  split at h
  ·rename_i es Fo
   cases hu:Jm used id with
   | true=>rw [hu] at h; cases h
   | false=>
    rw [hu,cond_false] at h
    cases hf:allFit pe.fits (aj es) with
    | false=>rw [hf] at h; cases h
    | true=>
     rw [hf,cond_true] at h
     have hy:=Option.some.inj h
     refine ⟨id,es,rfl,Fo,fun hm=>?_,?_⟩
     ·rw [yn.2 hm] at hu; cases hu
     ·rw [← hy]; exact iJ.of (fun v hv=>pe.cm hv) hf
  ·cases h
 ·cases h
theorem Cx {used:List Nat} {v:AV} {id:Nat} (h:id∈used):id∈qU used v:=by
 unfold qU
 split
 ·exact List.mem_cons_of_mem _ h
 ·exact h
def yA (R1:ai) (w:World) (used:List Nat) (v:AV) (c:Value) (p:RP) (y:p.T):Prop:=
 ∃ bs:List Nat,bs.length=p.no∧(∀ b∈bs,∃ id,id∉used∧id∈qU used v∧nth R1.obj id=some (.bJ b)) ∧
   ∀ (R2:ai) (n:Nat),(∀ b o,R1.I b o→R2.I b o)→uP R2 n bs→Rel R2 w (p.enc n y) c∧DC R2 w (p.Cw y) bs
theorem V9 {R1 R2:ai} (hI:∀ b o,R1.I b o→R2.I b o):Mv R1 R2 0:=⟨hI,fun _ _ h=>absurd h (Nat.not_lt_zero _)⟩
theorem RP.O3 {used:List Nat} {p:an} {v:AV} {c:Value} {y:p.T} (hp:p.under 0=true) (hv:Rel R1 w v c) (hd:p.dec v=some y):yA R1 w used v c (.Nt p) y:=
 ⟨[],rfl,(fun b hb=>by cases hb),fun R2 n hI _=>⟨Rel.move (V9 hI) (p.cM y hp) ((p.ou hd).ft _ _ _ hv),fun k go b h=>by cases k <;> cases h⟩⟩
theorem RP.S0 {used:List Nat} {ps:aF} {v:AV} {c:Value} {y:ps.T} (hp:ps.under 0=true) (hv:Rel R1 w v c) (hd:DB ps v=some y):yA R1 w used v c (.ep ps) y:=by
 obtain ⟨cs,rfl,hd⟩:=GA hd
 cases hv with
 | ep hc=>
 exact ⟨[],rfl,(fun b hb=>by cases hb),fun R2 n hI _=>⟨.ep (cW.move (V9 hI) ((ps.ou hd).1.FB hc) (ps.cM y hp)),fun k go b h=>by cases k <;> cases h⟩⟩
theorem RP.O4 {G1:List GO} (hg:cI E R1 w G1) {used:List Nat} {pe:an} {v:AV} {c:Value} {y:List pe.T} (hp:pe.under 0=true) (hv:Rel R1 w v c) (hd:yz G1 used pe v=some y):yA R1 w used v c (.map pe) y:=by
 obtain ⟨id,es,rfl,Fo,hu,Z8⟩:=EP hd
 cases hv with
 | map hb=>
 rename_i b
 refine ⟨[b],rfl,fun b' kd=>?_,fun R2 n hI mc=>⟨.map (by have:=mc 0 b rfl; simpa using this),fun k go b' h1 h2=>?_⟩⟩
 ·rw [List.mem_singleton] at kd
  subst kd
  exact ⟨id,hu,List.mem_cons_self,hb⟩
 ·cases k with
  | succ k=>cases h2
  | zero=>
   cases h1; cases h2
   obtain ⟨ax,clock,e1,e2,e3⟩:=hg.obj id _ _ Fo hb
   exact ⟨ax,clock,e1,cH.Nu (V9 hI) Z8 (an.uO hp y) e2,e3⟩
theorem RP.ok {G1:List GO} (hg:cI E R1 w G1) {used:List Nat} {p:RP} {v:AV} {c:Value} {y:p.T} (hp:p.under=true) (hv:Rel R1 w v c) (hd:p.dec G1 used v=some y):yA R1 w used v c p y:=by
 cases p with
 | Nt p=>exact RP.O3 hp hv hd
 | ep ps=>exact RP.S0 hp hv hd
 | map pe=>exact RP.O4 hg hp hv hd
theorem fe {α:Type} {l r:List α} {i:Nat} (h:i < l.length):nth (l++r) i=nth l i:=by
 rw [aR,aR,List.getElem?_append_left h]
theorem eh {α:Type} {l r:List α} (i:Nat):nth (l++r) (l.length+i)=nth r i:=by
 rw [aR,aR,List.getElem?_append_right (Nat.le_add_right _ _),Nat.add_sub_cancel_left]
theorem nD {α:Type} {l:List α} {i:Nat} {x:α} (h:nth l i=some x):i < l.length:=by
 rw [aR] at h
 exact (List.getElem?_eq_some_iff.1 h).1
theorem Yu.ok {G1:List GO} (hg:cI E R1 w G1):∀ {l:List RP} {used:List Nat} {vs:List AV} {cs:List Value} {y:qT l},l.all RP.under=true→aD R1 w vs cs→qV G1 used l vs=some y →
  ∃ bs:List Nat,bs.length=(fK l y).length∧bs.Nodup∧(∀ b∈bs,∃ id,id∉used∧nth R1.obj id=some (.bJ b)) ∧
   ∀ (R2:ai) (n:Nat),(∀ b o,R1.I b o→R2.I b o)→uP R2 n bs→aD R2 w (mS n l y) cs∧DC R2 w (fK l y) bs
 | [],used,vs,cs,y,_,hv,hd=>by
  cases vs with
  | cons _ _=>cases hd
  | nil=>
  cases hv
  exact ⟨[],rfl,List.nodup_nil,(fun b hb=>by cases hb),fun R2 n _ _=>⟨.nil,fun k go b h=>by simp [fK,nth] at h⟩⟩
 | [p],used,vs,cs,y,hu,hv,hd=>by
  match vs,hv,hd with
  | [],_,hd=>cases hd
  | _ :: _ :: _,_,hd=>cases hd
  | [v],.cons hv .nil,hd=>
  have hu:p.under=true:=by simpa using hu
  obtain ⟨bs,h1,h2,h4⟩:=RP.ok hg hu hv hd
  refine ⟨bs,h1.trans (p.Nv y).symm,?_,fun b hb=>let ⟨id,q1,_,q2⟩:=h2 b hb; ⟨id,q1,q2⟩,fun R2 n hI mc=>?_⟩
  ·have:bs.length≤1:=by rw [h1]; cases p <;> simp [RP.no]
   match bs,this with
   | [],_=>exact List.nodup_nil
   | [b],_=>simp
   | _ :: _ :: _,h=>simp at h
  ·obtain ⟨k1,k2⟩:=h4 R2 n hI mc
   exact ⟨.cons k1 .nil,k2⟩
 | p :: q :: l,used,vs,cs,y,hu,hv,hd=>by
  match vs,hv,hd with
  | [],_,hd=>cases hd
  | v :: vs,.cons (c:=c) (cs:=cs) hv OY,hd=>
  simp only [List.all_cons,Bool.and_eq_true] at hu
  obtain ⟨Z9,Wa⟩:=hu
  have Wa:(q :: l).all RP.under=true:=by simpa using Wa
  have hd:((p.dec G1 used v).bind fun x=>(qV G1 (qU used v) (q :: l) vs).bind fun y=>some (x,y))=some y:=hd
  cases hx:p.dec G1 used v with
  | none=>rw [hx] at hd; cases hd
  | some x=>
  rw [hx] at hd
  simp only [Option.bind_some] at hd
  cases hz:qV G1 (qU used v) (q :: l) vs with
  | none=>rw [hz] at hd; cases hd
  | some z=>
  rw [hz] at hd
  simp only [Option.bind_some] at hd
  cases hd
  obtain ⟨bs,h1,h2,h4⟩:=RP.ok hg Z9 hv hx
  obtain ⟨Yv,k1,k0,k2,k4⟩:=Yu.ok hg Wa OY hz
  have JD:bs.length=(p.Cw x).length:=h1.trans (p.Nv x).symm
  refine ⟨bs++Yv,?_,?_,fun b hb=>?_,fun R2 n hI mc=>?_⟩
  ·show _=(p.Cw x++fK (q :: l) z).length
   rw [List.length_append,List.length_append,JD,k1]
  ·have Fl:bs.Nodup:=by
    have:bs.length≤1:=by rw [h1]; cases p <;> simp [RP.no]
    match bs,this with
    | [],_=>exact List.nodup_nil
    | [b],_=>simp
    | _ :: _ :: _,h=>simp at h
   rw [List.nodup_append]
   refine ⟨Fl,k0,fun a ha b hb e=>?_⟩
   subst e
   obtain ⟨id,_,q2,q3⟩:=h2 a ha
   obtain ⟨iu,r1,r2⟩:=k2 a hb
   have:id=iu:=hg.inj id iu _ _ a q3 r2 rfl rfl
   subst this
   exact r1 q2
  ·rcases List.mem_append.1 hb with hb | hb
   ·obtain ⟨id,q1,_,q2⟩:=h2 b hb
    exact ⟨id,q1,q2⟩
   ·obtain ⟨id,q1,q2⟩:=k2 b hb
    exact ⟨id,fun hm=>q1 (Cx hm),q2⟩
  ·have at1:uP R2 n bs:=fun k b hk=>mc k b (by rw [fe (nD hk)]; exact hk)
   have at2:uP R2 (n+p.no) Yv:=fun k b hk=>by
    have:=mc (bs.length+k) b (by rw [eh]; exact hk)
    rw [h1] at this
    rw [Nat.add_assoc]; exact this
   obtain ⟨a1,a2⟩:=h4 R2 n hI at1
   obtain ⟨b1,b2⟩:=k4 R2 (n+p.no) hI at2
   refine ⟨.cons a1 b1,fun k go b gf hb=>?_⟩
   change nth (p.Cw x++fK (q :: l) z) k=some go at gf
   rcases Nat.lt_or_ge k bs.length with hk | hk
   ·rw [fe (by rw [← JD]; exact hk)] at gf
    rw [fe hk] at hb
    exact a2 k go b gf hb
   ·obtain ⟨j,rfl⟩:∃ j,k=bs.length+j:=⟨k - bs.length,by omega⟩
    rw [eh] at hb
    rw [JD,eh] at gf
    exact b2 j go b gf hb
theorem uQ:∀ (l:List RP) (n:Nat) (y:qT l),(mS n l y).length=l.length
 | [],_,_=>rfl
 | [_],_,_=>rfl
 | p :: q :: l,n,y=>by
  show (mS (n+p.no) (q :: l) y.2).length+1=(q :: l).length+1
  rw [uQ (q :: l)]
theorem uN.of1 {R0:ai} {w0:World} {f:RF} {G G1:List GO} {r:AV} {c:Value} {y:qT f.l} (hf:f.under=true) (hG:cI E R0 w0 G) (st:Step ⟨R0.I,[]⟩ w0 (fun _=>0) dW R1 w (fun _=>0) dW) (hg:cI E R1 w G1) (di:Rel R1 w r c) (hd:f.dec G1 r=some y) :
  ∃ R2,Rel R2 w (f.val G.length y) c∧cI E R2 w (G++fK f.l y)∧Step R0 w0 (fun _=>0) dW R2 w (fun _=>0) dW:=by
 unfold RF.under at hf
 rw [Bool.and_eq_true] at hf
 unfold RF.dec at hd
 obtain ⟨ht,hd⟩:f.wZ r=true∧qV G1 [] f.l (f.args r)=some y:=by
  cases ht:f.wZ r with
  | true=>rw [ht] at hd; exact ⟨rfl,hd⟩
  | false=>rw [ht] at hd; cases hd
 obtain ⟨cs,np,S1⟩:∃ cs,aD R1 w (f.args r) cs∧∀ R2 (x:qT f.l) n,aD R2 w (mS n f.l x) cs→Rel R2 w (f.val n x) c:=by
  unfold RF.args RF.val
  cases Wb:f.aX with
  | true=>
   have:∃ vs,r=.aX vs:=by
    cases r <;> first | exact ⟨_,rfl⟩ | (simp [RF.wZ,Wb] at ht)
   obtain ⟨vs,rfl⟩:=this
   cases di with
   | aX h=>exact ⟨_,h,fun R2 x n h=>.aX h⟩
  | false=>
   refine ⟨[c],.cons di .nil,fun R2 x n h=>?_⟩
   simp only [cond_false]
   have hlen:=uQ f.l n x
   revert h hlen
   generalize mS n f.l x=l
   intro h hlen
   cases h with
   | cons h _=>exact h
 obtain ⟨bs,h1,h2,h3,h4⟩:=Yu.ok hg hf.1 np hd
 have gY:∀ b,¬ Own (⟨R0.I,[]⟩:ai) (fun _=>0) dW b:=fun b ho=>by
  obtain ⟨id,ro,q1,_⟩:=dJ ho
  simp [nth] at q1
 have ms:∀ b∈bs,w0.heap.size≤b:=fun b hb=>by
  obtain ⟨id,_,hid⟩:=h3 b hb
  rcases Nat.lt_or_ge b w0.heap.size with bT | pd
  ·exact absurd (st.own b bT (.inl ⟨id,_,hid,rfl⟩)) (gY b)
  ·exact pd
 let R2:ai:=⟨R1.I,R0.obj++bs.map RO.bJ⟩
 have e:Ext R0 w0 R2 w:=⟨st.ext.I,st.ext.cell,fun id ro h=>⟨ro,by rw [fe (nD h)]; exact h,bW.refl ro⟩,st.ext.lp⟩
 have bq:∀ b,b < w0.heap.size→w.heap[b]?=w0.heap[b]?:=fun b hb=>st.bq b hb (gY b)
 have im:∀ b o,b < w0.heap.size→R1.I b o→R0.I b o:=fun b o hb hi=>st.im b o hi hb (gY b)
 have Wc:∀ {k ro},nth (bs.map RO.bJ) k=some ro→∃ b,nth bs k=some b∧ro=.bJ b:=fun {k ro} h=>by
  rw [aR,List.getElem?_map] at h
  cases hb:bs[k]? with
  | none=>rw [hb] at h; cases h
  | some b=>rw [hb] at h; exact ⟨b,by rw [aR]; exact hb,(Option.some.inj h).symm⟩
 have mc:uP R2 R0.obj.length bs:=fun k b hk=>by
  show nth (R0.obj++bs.map RO.bJ) (R0.obj.length+k)=_
  rw [eh,aR,List.getElem?_map]
  rw [aR] at hk
  rw [hk]; rfl
 obtain ⟨k1,k2⟩:=h4 R2 R0.obj.length (fun _ _ h=>h) mc
 rw [hG.len] at k1
 have hold:∀ id ro,nth R2.obj id=some ro→nth R0.obj id=some ro∨∃ k b,id=R0.obj.length+k∧nth bs k=some b∧ro=.bJ b:=fun id ro h=>by
  rcases Nat.lt_or_ge id R0.obj.length with bT | pd
  ·exact .inl (by rw [← fe (r:=bs.map RO.bJ) bT]; exact h)
  ·obtain ⟨k,rfl⟩:∃ k,id=R0.obj.length+k:=⟨id - R0.obj.length,by omega⟩
   have h:nth (R0.obj++bs.map RO.bJ) (R0.obj.length+k)=some ro:=h
   rw [eh] at h
   obtain ⟨b,q1,q2⟩:=Wc h
   exact .inr ⟨k,b,rfl,q1,q2⟩
 have Nw:∀ id ro b,nth R0.obj id=some ro→ro.has b→b < w0.heap.size:=fun id ro b h hb=>by
  have hl:=nD h
  rw [hG.len] at hl
  have gf:nth G id=some G[id]:=by rw [aR]; exact List.getElem?_eq_getElem hl
  exact (hG.obj id _ _ gf h).lt hb
 have O6:∀ {k b},nth bs k=some b→b∈bs:=fun {k b} h=>by
  rw [aR] at h
  exact List.mem_of_getElem? h
 refine ⟨R2,S1 R2 y _ k1,⟨?_,fun id go ro q1 q2=>?_,fun i j ri rj b q1 q2 b1 b2=>?_,hg.wf,fun g cs ox=>(hG.bN g cs ox).mono e,hg.lo⟩,⟨e,st.os,st.tape,st.output,st.size,fun b hb _=>bq b hb,fun b hb ho=>?_,fun b o hi hb _=>im b o hb hi⟩⟩
 ·show (R0.obj++bs.map RO.bJ).length=_
  rw [List.length_append,List.length_map,List.length_append,hG.len,h1]
 ·rcases hold id ro q2 with q2 | ⟨k,b,rfl,q3,rfl⟩
  ·have hl:=nD q2
   rw [hG.len] at hl
   rw [fe hl] at q1
   refine (hG.obj id go ro q1 q2).mono e (fun b hb=>bq b ?_) (fun b o hb hi=>im b o ?_ hi)
   ·exact (hG.obj id go ro q1 q2).lt hb
   ·exact (hG.obj id go ro q1 q2).lt hb
  ·rw [hG.len,eh] at q1
   exact k2 k go b q1 q3
 ·rcases hold i ri q1 with q1 | ⟨k,a,rfl,q3,rfl⟩
  ·rcases hold j rj q2 with q2 | ⟨k',a',rfl,q4,rfl⟩
   ·exact hG.inj i j ri rj b q1 q2 b1 b2
   ·have:b=a':=b2
    subst this
    have:=ms _ (O6 q4)
    have:=Nw i ri b q1 b1
    omega
  ·have hba:b=a:=b1
   subst hba
   rcases hold j rj q2 with q2 | ⟨k',a',rfl,q4,rfl⟩
   ·have:=ms _ (O6 q3)
    have:=Nw j rj b q2 b2
    omega
   ·have:b=a':=b2
    subst this
    have l1:=nD q3
    have l2:=nD q4
    rw [aR] at q3 q4
    have:=(List.getElem?_inj l1 h2).1 (q3.trans q4.symm)
    omega
 ·rcases dJ ho with ⟨id,ro,q1,q2⟩
  rcases hold id ro q1 with q1 | ⟨k,a,rfl,q3,rfl⟩
  ·exact .inl ⟨id,ro,q1,q2⟩
  ·have:b=a:=q2
   subst this
   have:=ms _ (O6 q3)
   omega
theorem DD {G1:List GO} {r:AV}:∀ {outs:List RF} {y:XT outs},Gz G1 r outs=some y→(∀ f∈outs,f.under=true) →
  ∃ (f:RF) (z:qT f.l),f.under=true∧f.dec G1 r=some z∧∀ {α:Type} (G:List GO) (K:AV→List GO→α),Ru G K outs y=K (f.val G.length z) (G++fK f.l z)
 | [],_,h,_=>by cases h
 | [f],y,h,hu=>⟨f,y,hu f (by simp),h,fun _ _=>rfl⟩
 | f :: g :: l,y,h,hu=>by
  simp only [Gz] at h
  cases hb:(f.wZ r&&Gy f.l (f.args r)) with
  | true=>
   rw [hb] at h
   simp only [cond_true] at h
   cases hx:f.dec G1 r with
   | none=>rw [hx] at h; cases h
   | some x=>
    rw [hx] at h
    cases h
    exact ⟨f,x,hu f (by simp),hx,fun _ _=>rfl⟩
  | false=>
   rw [hb] at h
   simp only [cond_false] at h
   cases hx:Gz G1 r (g :: l) with
   | none=>rw [hx] at h; cases h
   | some x=>
    rw [hx] at h
    cases h
    obtain ⟨f',z,k0,k1,k2⟩:=DD hx (fun f hf=>hu f (List.mem_cons_of_mem _ hf))
    exact ⟨f',z,k0,k1,fun G K=>k2 G K⟩
theorem uN.of {g:FuncId} {args:List AV} {outs:List RF} {Q:XT outs→Prop} (hc:aA 0 args=true) (hp:∀ f∈outs,f.under=true)
  (h:bU E g args [] (fun r G'=>∃ y,Gz G' r outs=some y∧Q y)):uN E g args outs Q:=fun G=>by
 refine ⟨h.1,fun R w cs hg hl=>?_⟩
 let R0:ai:=⟨R.I,[]⟩
 have m0:Mv R R0 0:=⟨fun _ _ h=>h,fun _ _ h=>absurd h (Nat.not_lt_zero _)⟩
 have Je:cI E R0 w []:=⟨rfl,fun id go ro h1 _=>by simp [nth] at h1,fun i j ri rj b h1=>by simp [R0,nth] at h1,hg.wf,fun g cs ox=>(hg.bN g cs ox).move m0 (bS _ (E.me g cs ox)),hg.lo⟩
 have tB:aD R0 w args cs:=hl.move m0 hc
 refine (h.2 R0 w cs Je tB).mono fun e w' he=>?_
 cases e with
 | panicked c=>exact he.elim
 | outgrown=>exact he.elim
 | returned c=>
  obtain ⟨r,G',R1,⟨y,hy,hQ⟩,di,JZ,st⟩:=he
  obtain ⟨f,z,hf,hz,gf⟩:=DD hy hp
  obtain ⟨R2,k1,k2,k3⟩:=uN.of1 hf hg st JZ di hz
  refine ⟨_,_,R2,⟨y,hQ,?_⟩,k1,k2,k3⟩
  rw [gf]
  exact ⟨rfl,rfl⟩
end
end Go.Am
namespace Go.Am
open Go
structure aK where
 ps:aF
 p:an
 T:ps.T→Option p.T
def ao (E:Env) (g:FuncId) (e:aK):Prop:=∀ x y,e.T x=some y→aM E g (e.ps.enc x) (fun r=>r=e.p.enc y)
inductive XK
 | norm
 | ret
 | ex (id:Nat)
def XK.is:XK→Exit→Bool
 | .norm,.normal=>true
 | .ret,.ret=>true
 | .ex i,.exit j=>Nat.beq i j
 | _,_=>false
def XK.exit:XK→Exit
 | .norm=>.normal
 | .ret=>.ret
 | .ex i=>.exit i
theorem XK.Dx {k:XK} {e:Exit} (h:k.is e=true):e=k.exit:=by
 cases k <;> cases e <;> simp_all [XK.is,XK.exit]
def JT:List (XK × b7)→Type
 | []=>Empty
 | [x]=>x.2.ps.T
 | x :: y :: l=>x.2.ps.T ⊕ JT (y :: l)
def jP (s:St):(outs:List (XK × b7))→Exit→St→Option (JT outs)
 | [],_,_=>none
 | [x],e,s'=>bif x.1.is e then x.2.dec s s' else none
 | x :: y :: l,e,s'=>bif x.1.is e then (x.2.dec s s').bind fun v=>some (.inl v) else (jP s (y :: l) e s').bind fun o=>some (.inr o)
def Jn {α:Type} (s:St):(outs:List (XK × b7))→JT outs→(Exit→St→α)→α
 | [],o,_=>Empty.rec (fun _=>α) o
 | [x],o,K=>K x.1.exit (x.2.st s o)
 | x :: y :: l,o,K=>Sum.elim (fun v=>K x.1.exit (x.2.st s v)) (fun o=>Jn s (y :: l) o K) o
inductive cC
 | loop (gh:List (Loc × Nat × TypeId)) (head:b7) (outs:List (XK × b7))
 | join (outs:List (XK × b7))
 | Wd (k:List Bool) (gh:List (Loc × Nat × TypeId)) (head:b7) (outs:List (XK × b7))
 | S2 (n:Nat) (a b:cC)
 | kN (gh:List (Loc × Nat × TypeId)) (head:b7) (outs:List (XK × b7))
def GB (n:Nat):cC→cC
 | .S2 m a b=>bif Nat.beq n m then GB n a else GB n b
 | c=>c
def aQ {V X:Type} (rd:V→Option (V ⊕ X)):Nat→V→Option X
 | 0,_=>none
 | n+1,v=>(rd v).bind fun o=>Sum.elim (fun v'=>aQ rd n v') (fun x=>some x) o
def kN {V X:Type} (rd:(V→Option X)→V→Option X):Nat→V→Option X
 | 0,_=>none
 | n+1,v=>rd (kN rd n) v
structure lD (E:Env) (g:FuncId) where
 f:List AV→List GO→Option (Bool × AV × List GO)
 ok:∀ args G r G',f args G=some (true,r,G')→bU E g args G (fun r' wY=>r'=r∧wY=G')
structure O7 (E:Env) (g:FuncId) where
 ps:aF
 outs:List RF
 T:ps.T→Option (XT outs)
 ok:∀ x y,T x=some y→uN E g (ps.enc x) outs (fun z=>z=y)
structure eR where
 D:EI
 xd:FuncId→Option aK
 oJ:FuncId→Nat→Option cC
 fz:Bool
 N:Nat
 gt:(g:FuncId)→Option (lD D.toEnv g):=fun _=>none
 xt:(g:FuncId)→Option (O7 D.toEnv g):=fun _=>none
def oK {α:Type} (fz:Bool) (s:St) (K:St→α):α:=match fz with
 | true=>Cm s K
 | false=>match s with
  | ⟨sl,bx,G,m,ro,n⟩=>K ⟨sl,bx,G,m,ro,n⟩
theorem cw {α:Type} (fz:Bool) (s:St) (K:St→α):oK fz s K=K s:=by
 cases fz
 ·rfl
 ·exact EJ s K
abbrev mT (X:Type):=FuncId→List AV→List GO→(AV→List GO→Option X)→Option X
abbrev km (X:Type):=Nat→List AV→List GO→(Bool→List GO→Option X)→Option X
section ev
variable {X:Type}
def yB (E:Env) (s:St) (o:Oper):Option (Int × Nat × (Nat→Oper)):=match o.op with
 | .index t x (.tmp y)=>match bk E s.ae (.tmp y),E.ti t with
  | .v (.int k n),some i=>match i.k with
   | .arr len _ _=>some (n,len,fun j=>{ o with op:=.index t x (.const (.int k j)) })
   | _=>none
  | _,_=>none
 | .indexAddr t x (.tmp y)=>match bk E s.ae (.tmp y),E.ti t with
  | .v (.int k n),some i=>match i.k with
   | .arr len _ _=>match bk E s.ae x with
    | .v (.ep _)=>none
    | _=>some (n,len,fun j=>{ o with op:=.indexAddr t x (.const (.int k j)) })
   | _=>none
  | _,_=>none
 | _=>none
def sV (E:Env) (fz:Bool) (f:FuncId) (g:Nat→Oper) (n:Int) (K:St→Option X) (s:St):Nat→Nat→Option X
 | 0,_=>none
 | m+1,j=>bif decide (n=(j:Int)) then (match ap E f s (g j) with
   | some (c,s')=>bif c then oK fz s' K else none
   | _=>none) else sV E fz f g n K s m (j+1)
def O8 (E:Env) (fz:Bool) (call:mT X) (jZ:km X) (f:FuncId) (o:Oper) (K:St→Option X) (s:St):Option X:=
 match o.op with
 | .call { callee:=.value x,args,.. }=>match bk E s.ae x,kr E s.ae args.toList with
  | .v (.fn g first cap),some l=>call g (first++l++cap) s.G (fun r G'=>oK fz ((s.bL G').put o.dst (.v r)) K)
  | .v (.yield id),some l=>jZ id l s.G (fun b G'=>oK fz ((s.bL G').put o.dst (.v (.bool b))) K)
  | _,_=>none
 | .defer _=>none
 | .next x true=>match Gu s o.dst (bk E s.ae x) with
  | some (b,s1,s2)=>bif b then oK fz s1 K else oK fz s2 K
  | none=>none
 | .lookup t m k ok=>match sR E s t (bk E s.ae m) (bk E s.ae k) with
  | some (c,v,b)=>bif c then oK fz (s.put o.dst (.v (if ok then .aX [v,.bool b] else v))) K else none
  | none=>match ap E f s o with
   | some (c,s')=>bif c then oK fz s' K else none
   | _=>none
 | .mapUpdate t m k x=>match o.dst,sS E s t (bk E s.ae m) (bk E s.ae k) (bk E s.ae x) with
  | none,some (c,s')=>bif c then oK fz s' K else none
  | _,_=>none
 | .insert t m k x=>match o.dst,sS E s t (bk E s.ae m) (bk E s.ae k) (bk E s.ae x) with
  | none,some (c,s')=>bif c then oK fz s' K else none
  | _,_=>none
 | .call { callee:=.builtin .append,args,argTypes }=>match fw E f s o with
  | some (c,s')=>bif c then oK fz s' K else none
  | none=>match kr E s.ae args.toList with
   | some l=>match yw E s o.dst l argTypes.toList with
    | some (b,s1,c,s2)=>bif b then oK fz s1 K else bif c then oK fz s2 K else none
    | none=>match ap E f s o with
     | some (c,s')=>bif c then oK fz s' K else none
     | _=>none
   | none=>none
 | .call { callee:=.builtin .copy,args,argTypes }=>match kr E s.ae args.toList with
  | some l=>match Gw E s o.dst l argTypes.toList with
   | some (c,s')=>bif c then oK fz s' K else none
   | none=>match ap E f s o with
    | some (c,s')=>bif c then oK fz s' K else none
    | _=>none
  | none=>none
 | _=>match yB E s o with
  | some (n,len,g)=>sV E fz f g n K s len 0
  | none=>match ap E f s o with
   | some (c,s')=>bif c then oK fz s' K else none
   | _=>none
def mU (E:Env) (fz:Bool) (call:mT X) (jZ:km X) (f:FuncId) (ops:List Oper) (o:Oper) (K:St→Option X) (s:St):Option X:=
 match o.guard with
 | none=>O8 E fz call jZ f o K s
 | some (j,want)=>match mF ops j with
  | none=>none
  | some d=>match lk s.ae d with
   | .v (.bool b)=>match want with
    | true=>bif b then oK fz (s.put (some d) (.v (.bool true))) (O8 E fz call jZ f o K) else oK fz ((s.put (some d) (.v (.bool false))).put o.dst (.v eE)) K
    | false=>bif b then oK fz ((s.put (some d) (.v (.bool true))).put o.dst (.v eE)) K else oK fz (s.put (some d) (.v (.bool false))) (O8 E fz call jZ f o K)
   | .v (.aX [])=>oK fz (s.put o.dst (.v eE)) K
   | _=>none
def yC (E:Env) (fz:Bool) (call:mT X) (jZ:km X) (f:FuncId) (ops:List Oper) (o:Oper) (K:St→Option X) (s:St):Option X:=
 match o.guard,gT E f s o with
 | none,some s'=>oK fz s' K
 | _,_=>mU E fz call jZ f ops o K s
noncomputable def J1 {X:Type} (l:List Nat) (F:Nat→Option X):Option X:=match l with
 | []=>none
 | i :: r=>@ite _ (∀ j∈r,F j=F i) (Classical.propDecidable _) (F i) none
theorem EQ {X:Type} {l:List Nat} {F:Nat→Option X} {x:X} (h:J1 l F=some x):∀ i∈l,F i=some x:=by
 cases l with
 | nil=>cases h
 | cons i r=>
  have h:@ite _ (∀ j∈r,F j=F i) (Classical.propDecidable _) (F i) none=some x:=h
  by_cases hr:∀ j∈r,F j=F i
  ·rw [if_pos hr] at h
   intro j hj
   rcases List.mem_cons.1 hj with rfl | hj
   ·exact h
   ·rw [hr j hj]; exact h
  ·rw [if_neg hr] at h
   cases h
theorem J2 {X:Type} {l:List Nat} {F:Nat→Option X} {x:X} (hl:l≠[]) (h:∀ i∈l,F i=some x):J1 l F=some x:=by
 cases l with
 | nil=>exact absurd rfl hl
 | cons i r=>
  show @ite _ (∀ j∈r,F j=F i) (Classical.propDecidable _) (F i) none=some x
  have hr:∀ j∈r,F j=F i:=fun j hj=>by rw [h j (List.mem_cons_of_mem _ hj),h i List.mem_cons_self]
  rw [if_pos hr]
  exact h i List.mem_cons_self
noncomputable def sW (E:Env) (fz:Bool) (call:mT X) (jZ:km X) (f:FuncId) (ops:List Oper) (o:Oper) (K:St→Option X) (s:St):Option X:=
 match o.guard,rq E f s o,qv E s o with
 | none,some (c,s'),_=>bif c then oK fz s' K else none
 | none,none,some (c,s0,left,g)=>bif c then (bif left.isEmpty then oK fz s0 K else J1 left fun i=>bif (g i).1 then oK fz (g i).2 K else none) else none
 | _,_,_=>yC E fz call jZ f ops o K s
noncomputable def yD (E:Env) (fz:Bool) (call:mT X) (jZ:km X) (f:FuncId) (ops:List Oper) (o:Oper) (K:St→Option X) (s:St):Option X:=
 match D8 E f s o with
 | some (c,s')=>bif c then sW E fz call jZ f ops o K s' else none
 | none=>sW E fz call jZ f ops o K s
noncomputable def J3 (E:Env) (fz:Bool) (call:mT X) (jZ:km X) (f:FuncId) (ops:List Oper):List Oper→(St→Option X)→St→Option X
 | [],K,s=>K s
 | o :: rest,K,s=>yD E fz call jZ f ops o (fun s'=>match wM E f o s' with
  | some s2=>J3 E fz call jZ f ops rest K s2
  | none=>none) s
def O9 (E:Env) (f:FuncId) (ops:List Oper) (o:Oper) (s:St):Bool:=match o.op,o.dst with
 | .lookup t m k ok,some d=>match zl ops s o,sR E s t (bk E s.ae m) (bk E s.ae k) with
  | some true,some (c,v,b)=>c&&yk (.v (if ok then .aX [v,.bool b] else v)) (lk s.ae d)
  | _,_=>UN E f ops o s
 | _,_=>UN E f ops o s
def nE (E:Env) (f:FuncId) (ops:List Oper):List Nat→St→Bool
 | [],_=>true
 | k :: l,s=>(match nth ops k with
  | some ok=>O9 E f ops ok s
  | none=>true)&&nE E f ops l s
def oT (E:Env) (fz:Bool) (call:mT X) (jZ:km X) (dS:Option X→Option X→Option X) (f:FuncId) (ops:List Oper):DT→(St→Option X)→St→Option X
 | .done,K,s=>K s
 | .take j _ t,K,s=>match nth ops j with
  | some oj=>mU E fz call jZ f ops oj (oT E fz call jZ dS f ops t K) s
  | none=>none
 | .br i re _ t .stop,K,s=>match nth ops i with
  | some oi=>mU E fz call jZ f ops oi (fun s'=>bif nE E f ops re s' then oT E fz call jZ dS f ops t K s' else none) s
  | none=>none
 | .br i re _ t more,K,s=>dS (match nth ops i with
  | some oi=>mU E fz call jZ f ops oi (fun s'=>bif nE E f ops re s' then oT E fz call jZ dS f ops t K s' else none) s
  | none=>none) (oT E fz call jZ dS f ops more K s)
 | .stop,_,_=>none
 | .al j W t,K,s=>match nth ops j with
  | some oj=>bif OP E f oj W s then mU E fz call jZ f ops oj (oT E fz call jZ dS f ops t K) s else none
  | none=>none
end ev
def xe {X:Type} (N:St→Option X) (Q:Exit→St→Option X):Exit→St→Option X
 | .normal,s=>N s
 | e,s=>Q e s
def GC {X:Type} (id:Nat) (Q:Exit→St→Option X):Exit→St→Option X
 | .exit iu,s=>bif Nat.beq iu id then Q .normal s else Q (.exit iu) s
 | e,s=>Q e s
def Pa {X:Type} (Q:Exit→St→Option X):Exit→St→Option X
 | .goto _,_=>none
 | e,s=>Q e s
def GD {X:Type} (E:Env) (fn:Func) (K:AV→List GO→Option X):Exit→St→Option X
 | .normal,s | .ret,s=>match mH s.marks s.G with
  | some G=>match F8 E (s.bL G) fn with
   | some r=>K r G
   | none=>none
  | none=>none
 | _,_=>none
def rU (s:St) (head:b7) (outs:List (XK × b7)):Exit→St→Option (head.ps.T ⊕ JT outs)
 | .normal,s'=>(head.dec s s').bind fun v=>some (.inl v)
 | e,s'=>(jP s outs e s').bind fun o=>some (.inr o)
noncomputable def zm {X:Type} (a b:Option X):Option X:=@ite _ (a=b) (Classical.propDecidable _) a none
def rV {X:Type} (dS:Option X→Option X→Option X):Prop:=∀ a b x,dS a b=some x→a=some x∧b=some x
def Cy {X:Type} (id:Nat) (K:Bool→List GO→Option X):Exit→St→Option X:=fun e s=>match nth s.G id with
 | some (.loop _ _ fn sl n ps pP bd d _)=>match e with
  | .normal=>K true (aw s.G id (.loop false none fn sl n ps pP bd d false))
  | .ret=>K false (aw s.G id (.loop false (some .ret) fn sl n ps pP bd d true))
  | .exit i=>K false (aw s.G id (.loop false (some (.exit i)) fn sl n ps pP bd d true))
  | _=>none
 | _=>none
def US (fp:Nat):Nat:=fp % 4096
def Yw (fp:Nat):Nat:=fp / 4096
abbrev Rv:=FuncId→Nat→Code→(X:Type)→(Option X→Option X→Option X)→(Exit→St→Option X)→St→Option X
section
variable (C:eR) (ih:Rv)
def Ay {X:Type} (dS:Option X→Option X→Option X):mT X:=fun g args G K=>
 bif C.D.okF g then match C.D.P.funcs[g]? with
   | some fn=>match fn.body with
    | some b => bif !(fn.name == "runtime.NumGoroutine") then ih g 1 b X dS (GD C.D.toEnv fn (bif C.D.vI g 131072 then O2 C.D.toEnv (C.D.vI g 131073) (C.D.vI g 131074) fn.resultTypes.toList K else K)) (St.init fn.ntmps args G) else none
    | none=>none
   | none=>none
  else none
def Az {X:Type} (dS:Option X→Option X→Option X):mT X:=fun g args G K=>
 match C.xd g with
 | some e=>(e.ps.dec args).bind fun x=>(e.T x).bind fun y=>K (e.p.enc y) G
 | none=>match C.gt g with
  | some e=>match e.f args G with
   | some (c,r,G')=>bif c then K r G' else none
   | none=>none
  | none=>match C.xt g with
   | some e=>(e.ps.dec args).bind fun x=>(e.T x).bind fun o=>Ru G K e.outs o
   | none=>Ay C ih dS g args G K
def J4 (n:Nat):List Tmp→Bool
 | []=>true
 | t :: l=>Nat.blt t n&&J4 n l
def J5 {X:Type} (dS:Option X→Option X→Option X):km X:=fun id args G K=>match nth G id with
 | some (.loop false _ fp sl n ps pP bd _ false)=>
  bif Nat.beq args.length ps.length&&J4 n ps&&bj (C.D.dt (US fp)) pP&&bj (C.D.dt (US fp)) bd then
   ih (US fp) (2 * Yw fp) pP X dS (fun e s1=>match e with
    | .normal=>match nth s1.G id with
     | some (.loop false p fn sl n ps pP Rs d false)=>ih (US fp) (2 * Yw fp+1) bd X dS (Cy id K) (s1.bL (aw s1.G id (.loop true p fn sl n ps pP Rs d false)))
     | _=>none
    | _=>none) (St.round id (uI ps args sl) n G)
  else none
 | _=>none
noncomputable def uR (f:FuncId) (p:Nat) (c:Code) (X:Type) (dS:Option X→Option X→Option X) (K:Exit→St→Option X) (s:St):Option X:=
 match c with
 | .skip=>K .normal s
 | .label _=>K .normal s
 | .seq x y=>ih f (2 * p) x X dS (xe (ih f (2 * p+1) y X dS K) K) s
 | .cond c x y=>match bk C.D.toEnv s.ae c with
  | .v (.bool b)=>bif b then ih f (2 * p) x X dS K s else ih f (2 * p+1) y X dS K s
  | _=>none
 | .block id c=>ih f (2 * p) c X dS (GC id K) s
 | .exit id=>K (.exit id) s
 | .ret=>K .ret s
 | .region _ ops false=>J3 C.D.toEnv C.fz (Az C ih dS) (J5 C ih dS) f ops.toList ops.toList (K .normal) s
 | .region id ops true=>match C.D.dt f id with
  | some pl=>oT C.D.toEnv C.fz (Az C ih dS) (J5 C ih dS) dS f ops.toList pl.T (K .normal) s
  | none=>none
 | .scope c=>ih f (2 * p) c X dS (Pa K) s
 | .loop c=>ih f (2 * p) c X dS (xe (ih f p (.loop c) X dS K) K) s
 | .rangeFunc g ps pP bd=>match s.ro with
  | none=>match bk C.D.toEnv s.ae g with
   | .v (.fn h first cap)=>Az C ih dS h (first++[.yield (s.G.length+1)]++cap) (s.G++[.defers true]++[.loop false none (4096 * p+f) (fQ s.ae) s.n ps.toList pP bd s.G.length false])
    (fun _ G'=>match nth G' (s.G.length+1) with
     | some (.loop busy pending _ _ _ _ _ _ _ done)=>bif !busy || done then
       match pending with
       | none=>oK C.fz ⟨s.ae,s.boxes,aw G' (s.G.length+1) .dead,s.G.length :: s.marks,s.ro,s.n⟩ (K .normal)
       | some .ret=>oK C.fz ⟨s.ae,s.boxes,aw G' (s.G.length+1) .dead,s.G.length :: s.marks,s.ro,s.n⟩ (K .ret)
       | some (.exit i)=>oK C.fz ⟨s.ae,s.boxes,aw G' (s.G.length+1) .dead,s.G.length :: s.marks,s.ro,s.n⟩ (K (.exit i))
       | _=>none
      else none
     | _=>none)
   | _=>none
  | some _=>none
 | _=>none
def Cz:List Oper→List Tmp
 | []=>[]
 | o :: l=>match o.dst with
  | some d=>d :: Cz l
  | none=>Cz l
def ju:Code→List Tmp→List Tmp
 | .region _ ops _,r=>Cz ops.toList++r
 | .seq x y,r=>ju x (ju y r)
 | .cond _ x y,r=>ju x (ju y r)
 | .block _ c,r=>ju c r
 | .scope c,r=>ju c r
 | .loop c,r=>ju c r
 | .rangeFunc _ ps a b,r=>ps.toList++ju a (ju b r)
 | _,r=>r
def uS (W:List Tmp) (t:b7):b7:=⟨t.ps,t.sl,W,t.bx,t.g,t.Rq⟩
def p9 (W:List Tmp):List (XK × b7)→List (XK × b7)
 | []=>[]
 | (k,t) :: l=>(k,uS W t) :: p9 W l
def GF:Code→Bool
 | .loop _=>true
 | _=>false
noncomputable def S3 {X:Type} (f:FuncId) (p:Nat) (c:Code) (outs:List (XK × b7)) (K:Exit→St→Option X) (s:St):Option X:=
 (uR C ih f p c (JT outs) zm (jP s outs) s).bind fun o=>Jn s outs o K
noncomputable def Nx {X:Type} (f:FuncId) (p:Nat) (b:Code) (s1:St) (head:b7) (outs:List (XK × b7)) (K:Exit→St→Option X):Option X:=
 (head.dec s1 s1).bind fun v0=>(aQ (fun v=>ih f (2 * p) b (head.ps.T ⊕ JT outs) zm (rU s1 head outs) (head.st s1 v)) C.N v0).bind fun o=>Jn s1 outs o K
def GG (s:St) (head:b7) (outs:List (XK × b7)) (k:head.ps.T→Option (JT outs)):Exit→St→Option (JT outs)
 | .normal,s'=>(head.dec s s').bind k
 | e,s'=>jP s outs e s'
noncomputable def GH {X:Type} (f:FuncId) (p:Nat) (b:Code) (s1:St) (head:b7) (outs:List (XK × b7)) (K:Exit→St→Option X):Option X:=
 (head.dec s1 s1).bind fun v0=>(kN (fun k v=>ih f (2 * p) b (JT outs) zm (GG s1 head outs k) (head.st s1 v)) C.N v0).bind fun o=>Jn s1 outs o K
def GI {X:Type} (dS:Option X→Option X→Option X) (f:FuncId) (K:Exit→St→Option X):List Bool→Nat→Code→St→Option X
 | [],_,_,s=>K .normal s
 | true :: k,q,.seq x y,s=>ih f (2 * q) x X dS (xe (GI dS f K k (2 * q+1) y) K) s
 | false :: k,q,.seq x _,s=>GI dS f K k (2 * q) x s
 | _ :: _,_,_,_=>none
def J6 {X:Type} (dS:Option X→Option X→Option X) (f:FuncId):List Bool→Nat→Code→(Exit→St→Option X)→St→Option X
 | [],q,c,K,s=>ih f q c X dS K s
 | true :: k,q,.seq _ y,K,s=>J6 dS f k (2 * q+1) y K s
 | false :: k,q,.seq x y,K,s=>J6 dS f k (2 * q) x (xe (ih f (2 * q+1) y X dS K) K) s
 | _ :: _,_,_,_,_=>none
noncomputable def S4 {X:Type} (f:FuncId) (p:Nat) (b:Code) (k:List Bool) (s1:St) (head:b7) (outs:List (XK × b7)) (K:Exit→St→Option X):Option X:=
 ((GI ih zm f (rU s1 head outs) k (2 * p) b s1).bind fun r0=>
  Sum.elim (fun v0=>aQ (fun v=>J6 ih zm f k (2 * p) b (xe (GI ih zm f (rU s1 head outs) k (2 * p) b) (rU s1 head outs)) (head.st s1 v)) C.N v0) (fun x=>some x) r0).bind fun o=>Jn s1 outs o K
noncomputable def uT (f:FuncId) (p:Nat) (c:Code) (X:Type) (dS:Option X→Option X→Option X) (K:Exit→St→Option X) (s:St):Option X:=
 match C.oJ f p with
 | none=>uR C ih f p c X dS K s
 | some ct=>match GB s.G.length ct with
  | .join outs=>bif GF c then none else S3 C ih f p c (p9 (ju c []) outs) K s
  | .loop gh head outs=>match c with
   | .loop b=>match fP gh s with
    | some s1=>Nx C ih f p b s1 (uS (ju b []) head) (p9 (ju b []) outs) K
    | none=>none
   | _=>none
  | .Wd k gh head outs=>match c with
   | .loop b=>match fP gh s with
    | some s1=>S4 C ih f p b k s1 (uS (ju b []) head) (p9 (ju b []) outs) K
    | none=>none
   | _=>none
  | .kN gh head outs=>match c with
   | .loop b=>match fP gh s with
    | some s1=>GH C ih f p b s1 (uS (ju b []) head) (p9 (ju b []) outs) K
    | none=>none
   | _=>none
  | .S2 _ _ _=>none
end
noncomputable def ev (C:eR):Nat→Rv:=Nat.rec (fun _ _ _ _ _ _ _=>none) (fun _ ih=>uT C ih)
end Go.Am
namespace Go.Am
open Go
section ext
variable {E:Env} {f:FuncId} {s s':St} {o:Oper}
theorem aJ.put (s:St) (d:Option Tmp) (x:SV):aJ s (s.put d x):=by
 cases d with
 | none=>exact aJ.refl s
 | some d=>
  simp only [St.put]
  split
  ·exact ⟨⟨[_],rfl⟩,⟨[],rfl⟩,rfl⟩
  ·exact aJ.refl s
theorem aJ.bL (s:St) (G:List GO):aJ s (s.bL G):=⟨⟨[],rfl⟩,⟨[],rfl⟩,rfl⟩
theorem aJ.cV (s:St) (o:GO):aJ s (s.cV o):=⟨⟨[],rfl⟩,⟨[],rfl⟩,rfl⟩
theorem aJ.se (s:St) (d:Nat) (cs:List AV):aJ s (s.se d cs):=⟨⟨[],rfl⟩,⟨[_],rfl⟩,rfl⟩
theorem aJ.kill (s:St) (d:Nat):aJ s (s.kill d):=⟨⟨[_],rfl⟩,⟨[],rfl⟩,rfl⟩
theorem ER {c:Bool} {s':St} (h:fw E f s o=some (c,s')):aJ s s':=by
 unfold fw at h
 repeat' (split at h)
 all_goals (first | (cases h; done) | skip)
 all_goals (injection h with h; injection h with _ h; subst h; exact (aJ.bL _ _).trans (aJ.put _ _ _))
theorem CA {c:Bool} (h:ap E f s o=some (c,s')):aJ s s':=by
 have alloc:∀ {el:TypeId} {cs:List AV} {c:Bool} {s':St},dQ E f s o.dst el cs=some (c,s')→aJ s s':=by
  intro el cs c s' h
  unfold dQ at h
  repeat' (split at h)
  all_goals (first | (cases h; done) | skip)
  ·injection h with h; injection h with _ h; subst h; exact (aJ.cV _ _).trans (aJ.put _ _ _)
  ·injection h with h; injection h with _ h; subst h; exact ((aJ.kill _ _).trans (aJ.se _ _ _)).trans (aJ.put _ _ _)
 have store:∀ {t:TypeId} {p x:SV} {s':St},iz E s t p x=some s'→aJ s s':=by
  intro t p x s' h
  unfold iz at h
  repeat' (split at h)
  all_goals (first | (cases h; done) | skip)
  all_goals (injection h with h; subst h)
  ·exact aJ.se _ _ _
  ·exact aJ.bL _ _
 have B2:∀ {t:TypeId} {p x:SV} {c:Bool} {s':St},iA E s t p x=some (c,s')→aJ s s':=by
  intro t p x c s' h
  unfold iA at h
  repeat' (split at h)
  all_goals (first | (cases h; done) | skip)
  all_goals (injection h with h; injection h with _ h; subst h)
  all_goals (first | exact aJ.bL _ _ | exact store (by assumption))
 have blt:∀ {b:Builtin} {l:List AV} {tys:List TypeId} {c:Bool} {s':St},bB E s o.dst b l tys=some (c,s')→aJ s s':=by
  intro b l tys c s' h
  unfold bB at h
  repeat' (split at h)
  all_goals (first | (cases h; done) | skip)
  all_goals (injection h with h; injection h with _ h; subst h)
  all_goals (first | exact aJ.put _ _ _ | exact (aJ.bL _ _).trans (aJ.put _ _ _) | exact aJ.bL _ _)
 have update:∀ {t:TypeId} {m k x:SV} {s':St},dR E s t m k x=some s'→aJ s s':=by
  intro t m k x s' h
  unfold dR at h
  repeat' (split at h)
  all_goals (first | (cases h; done) | skip)
  all_goals (injection h with h; subst h; exact aJ.bL _ _)
 have next:∀ {x:SV} {s':St},jT s o.dst x=some s'→aJ s s':=by
  intro x s' h
  unfold jT at h
  split at h
  ·split at h
   ·rename_i l pos hg
    cases hb:Nat.blt pos l.length <;> rw [hb] at h <;> simp only [cond_true,cond_false] at h <;> cases h
    ·exact aJ.put _ _ _
    ·exact (aJ.bL _ _).trans (aJ.put _ _ _)
   ·cases h
  ·cases h
 have B3:∀ {t:TypeId} {m k:SV} {c:Bool} {v:AV} {s':St},eZ E s t m k=some (c,v,s')→aJ s s':=by
  intro t m k c v s' h
  unfold eZ at h
  repeat' (split at h)
  all_goals (first | (cases h; done) | skip)
  all_goals (injection h with h; injection h with _ h; injection h with _ h; subst h; exact aJ.bL _ _)
 have B4:∀ {m st x:SV} {c:Bool} {s':St},du s m st x=some (c,s')→aJ s s':=by
  intro m st x c s' h
  unfold du at h
  repeat' (split at h)
  all_goals (first | (cases h; done) | skip)
  all_goals (injection h with h; injection h with _ h; subst h; exact aJ.bL _ _)
 unfold ap at h
 repeat' (split at h)
 all_goals (first | (cases h; done) | exact alloc h | exact blt h | (rename_i hf; cases h; exact ER hf) | skip)
 all_goals (injection h with h; injection h with _ h; subst h)
 all_goals (first | exact aJ.put _ _ _ | exact (aJ.cV _ _).trans (aJ.put _ _ _) | skip)
 all_goals (first | exact B2 (by assumption) | exact update (by assumption) | exact (B3 (by assumption)).trans (aJ.put _ _ _) | exact B4 (by assumption) | exact next (by assumption))
theorem bU.ft {g:FuncId} {args Ny:List AV} {G:List GO} {Q:AV→List GO→Prop} (hw:ca args Ny) (h:bU E g Ny G Q):bU E g args G Q:=
 ⟨h.1,fun R w cs hg hl=>h.2 R w cs hg (hw.rel hl)⟩
theorem AA {K:St→Prop} (h:iR E f o K s):iR E f o (fun s'=>K s'∧aJ s s') s:=by
 unfold iR at *
 split
 ·rename_i x args tys ho
  rw [ho] at h
  simp only at h
  split at h
  ·exact h.mono fun r G' hk=>⟨hk,(aJ.bL _ _).trans (aJ.put _ _ _)⟩
  ·exact h.mono fun r G' hk=>⟨hk,(aJ.bL _ _).trans (aJ.put _ _ _)⟩
  ·exact h
 ·rename_i ho
  rw [ho] at h
  exact h
 ·rename_i nc nd
  split at h
  ·rename_i ho
   exact absurd ho (nc _ _ _)
  ·exact h.elim
  ·split at h
   ·rename_i c s' hs
    obtain ⟨hc,hk⟩:=h.out
    exact cL.mk hc ⟨hk,CA hs⟩
   ·exact h.elim
theorem j3 {K:St→Prop} {ops:List Oper} (h:bP E f ops o K s):bP E f ops o (fun s'=>K s'∧aJ s s') s:=by
 unfold bP at *
 split
 ·rename_i hg
  rw [hg] at h
  exact AA h
 ·rename_i j want hg
  rw [hg] at h
  simp only at h
  split
  ·rename_i hd
   rw [hd] at h
   exact h
  ·rename_i d hd
   rw [hd] at h
   simp only at h
   split
   ·rename_i b hb
    rw [hb] at h
    simp only at h
    refine ⟨fun e=>?_,fun e=>⟨h.2 e,(aJ.put _ _ _).trans (aJ.put _ _ _)⟩⟩
    exact qP (AA (h.1 e)) fun s' hh=>⟨hh.1,(aJ.put _ _ _).trans hh.2⟩
   ·rename_i hb
    rw [hb] at h
    exact ⟨h,aJ.put _ _ _⟩
   ·rename_i hb kd
    split at h
    ·rename_i b Bf
     exact absurd Bf (hb b)
    ·rename_i Bf
     exact absurd Bf kd
    ·exact h
theorem vY {K K':St→Prop} {ops:List Oper} (h:eN E f ops o K s) (hK:∀ s,K s→K' s):eN E f ops o K' s:=by
 unfold eN at *
 split
 ·rename_i s' h1 h2
  rw [h1,h2] at h
  exact hK _ h
 ·rename_i hn
  split at h
  ·rename_i s' h1 h2
   exact absurd h2 (hn s' h1)
  ·exact bQ h hK
theorem sy {s':St} (h:gT E f s o=some s'):aJ s s':=by
 unfold gT at h
 repeat' (split at h)
 all_goals (first | (cases h; done) | skip)
 all_goals (injection h with h; subst h; exact (aJ.cV _ _).trans (aJ.put _ _ _))
theorem yF {K:St→Prop} {ops:List Oper} (h:eN E f ops o K s):eN E f ops o (fun s'=>K s'∧aJ s s') s:=by
 unfold eN at *
 split
 ·rename_i s' h1 h2
  rw [h1,h2] at h
  exact ⟨h,sy h2⟩
 ·rename_i hn
  split at h
  ·rename_i s' h1 h2
   exact absurd h2 (hn s' h1)
  ·exact j3 h
theorem kn {K K':St→Prop} {ops:List Oper} (h:dX E f ops o K s) (hK:∀ s,K s→K' s):dX E f ops o K' s:=by
 unfold dX at *
 split at h
 ·obtain ⟨h1,h2⟩:=h.out
  exact cL.mk h1 (hK _ h2)
 ·obtain ⟨h1,h2,h3⟩:=h.out
  exact cL.mk h1 ⟨fun e=>hK _ (h2 e),fun i hi=>let ⟨k1,k2⟩:=(h3 i hi).out; cL.mk k1 (hK _ k2)⟩
 ·exact vY h hK
theorem ES {c:Bool} {s':St} (h:rq E f s o=some (c,s')):aJ s s':=by
 unfold rq at h
 repeat' (split at h)
 all_goals (first | (cases h; done) | skip)
 all_goals (injection h with h; injection h with _ h; subst h; exact (aJ.bL _ _).trans (aJ.put _ _ _))
theorem CB {c:Bool} {s0:St} {left:List Nat} {g:Nat→Bool × St} (h:qv E s o=some (c,s0,left,g)):aJ s s0∧∀ i,aJ s (g i).2:=by
 unfold qv at h
 split at h
 ·unfold wq at h
  split at h
  ·split at h
   ·split at h
    ·cases h
     exact ⟨aJ.put _ _ _,fun i=>(aJ.bL _ _).trans (aJ.put _ _ _)⟩
    ·cases h
   ·cases h
  ·cases h
 ·cases h
theorem qa {K:St→Prop} {ops:List Oper} (h:dX E f ops o K s):dX E f ops o (fun s'=>K s'∧aJ s s') s:=by
 unfold dX at *
 split at h
 ·rename_i hb
  obtain ⟨h1,h2⟩:=h.out
  exact cL.mk h1 ⟨h2,ES hb⟩
 ·rename_i hb
  obtain ⟨h1,h2,h3⟩:=h.out
  obtain ⟨k1,k2⟩:=CB hb
  exact cL.mk h1 ⟨fun e=>⟨h2 e,k1⟩,fun i hi=>let ⟨q1,q2⟩:=(h3 i hi).out; cL.mk q1 ⟨q2,k2 i⟩⟩
 ·exact yF h
theorem ko {K K':St→Prop} {ops:List Oper} (h:dY E f ops o K s) (hK:∀ s,K s→K' s):dY E f ops o K' s:=by
 unfold dY at *
 split at h
 ·exact ⟨h.1,kn h.2 hK⟩
 ·exact kn h hK
theorem gd {cut wk:Bool}:∀ {l:List Operand} {s s':St} {c:Bool},fG cut wk l s=(c,s')→aJ s s'
 | [],s,s',c,h=>by
  simp only [fG] at h
  cases h
  exact aJ.refl _
 | .tmp t :: l,s,s',c,h=>by
  unfold fG at h
  split at h
  ·rename_i c1 s1 h1
   cases h2:fG cut wk l s1 with
   | mk c2 s2=>
   rw [h2] at h
   simp only [Prod.mk.injEq] at h
   obtain ⟨_,rfl⟩:=h
   exact (mD h1).trans (gd h2)
  ·exact gd h
 | .const _ :: l,s,s',c,h=>gd (l:=l) h
 | .global _ :: l,s,s',c,h=>gd (l:=l) h
 | .func _ :: l,s,s',c,h=>gd (l:=l) h
theorem GJ {s s':St} {o:Oper} {c:Bool} (h:D8 E f s o=some (c,s')):aJ s s':=by
 unfold D8 at h
 split at h
 ·split at h
  ·injection h with h
   exact gd h
  ·cases h
 ·cases h
theorem yG {K:St→Prop} {ops:List Oper} (h:dY E f ops o K s):dY E f ops o (fun s'=>K s'∧aJ s s') s:=by
 unfold dY at *
 split at h
 ·rename_i c s' hz
  exact ⟨h.1,kn (qa h.2) fun s2 h2=>⟨h2.1,(GJ hz).trans h2.2⟩⟩
 ·exact qa h
theorem uU {s s':St} {l:Loc} {sz:Nat} {e:TypeId} (h:mB s l sz e=some s'):aJ s s':=by
 unfold mB at h
 cases B0:Nat.ble 196608 sz with
 | true=>rw [B0] at h; cases h; exact aJ.cV _ _
 | false=>
 rw [B0] at h
 cases l with
 | slot t=>
  simp only at h
  split at h
  ·cases h; exact ⟨⟨[_],rfl⟩,⟨[],rfl⟩,rfl⟩
  ·cases h
 | box k i=>
  simp only at h
  split at h
  ·split at h
   ·cases h; exact ⟨⟨[],rfl⟩,⟨[_],rfl⟩,rfl⟩
   ·cases h
  ·cases h
 | row id i=>
  simp only at h
  split at h
  ·split at h
   ·cases h; exact ⟨⟨[],rfl⟩,⟨[],rfl⟩,rfl⟩
   ·cases h
  ·cases h
theorem lE:∀ {l:List (Loc × Nat × TypeId)} {s s':St},fP l s=some s'→aJ s s'
 | [],s,s',h=>by
  simp only [fP] at h
  cases h
  exact aJ.refl _
 | (l,sz,e) :: r,s,s',h=>by
  unfold fP at h
  split at h
  ·rename_i s1 h1
   exact (uU h1).trans (lE h)
  ·cases h
theorem mV:∀ {l:List (Loc × Nat × TypeId)} {s:St},aJ s (gR l s)
 | [],s=>aJ.refl _
 | (l,sz,e) :: r,s=>by
  unfold gR
  split
  ·rename_i s1 h1
   exact (uU h1).trans mV
  ·exact mV
theorem ET {s s':St} {o:Oper} (h:wM E f o s=some s'):aJ s s':=by
 unfold wM at h
 split at h
 ·cases h; exact aJ.refl _
 ·split at h
  ·split at h
   ·rename_i hz
    cases h
    exact mD hz
   ·cases h
  ·split at h
   ·cases h; exact aJ.refl _
   ·split at h
    ·cases h; exact mV
    ·cases h
theorem uV {K K':St→Prop} {ops:List Oper} (hK:∀ s,K s→K' s):∀ {l:List Oper} {s:St},mG E f ops l K s→mG E f ops l K' s
 | [],s,h=>hK s h
 | _ :: _,_,h=>ko h fun s' h'=>by
  unfold wO at *
  split at h'
  ·exact uV hK h'
  ·exact h'.elim
theorem uW {K K':St→Prop} {ops:List Oper} (hK:∀ s,K s→K' s) {T:DT} {s:St} (h:qn E f ops T K s):qn E f ops T K' s:=
 ee (ops:=⟨ops⟩) hK T s h
theorem xf {K:St→Prop} {ops:List Oper}:∀ {l:List Oper} {s:St},mG E f ops l K s→mG E f ops l (fun s'=>K s'∧aJ s s') s
 | [],s,h=>⟨h,aJ.refl s⟩
 | o :: l,s,h=>by
  simp only [mG] at *
  refine ko (yG h) fun s' hh=>?_
  obtain ⟨h1,h2⟩:=hh
  unfold wO at *
  split at h1
  ·rename_i s2 hp
   exact uV (fun s3 h3=>⟨h3.1,(h2.trans (ET hp)).trans h3.2⟩) (xf h1)
  ·exact h1.elim
theorem qb {K:St→Prop} {ops:List Oper}:∀ {T:DT} {s:St},qn E f ops T K s→qn E f ops T (fun s'=>K s'∧aJ s s') s
 | .done,s,h=>⟨h,aJ.refl s⟩
 | .stop,_,_=>trivial
 | .take j C T,s,h=>by
  unfold qn at h ⊢
  split
  ·rename_i oj hj
   rw [hj] at h
   exact bQ (j3 h) fun s' hh=>uW (fun s2 h2=>⟨h2.1,hh.2.trans h2.2⟩) (qb hh.1)
  ·rename_i hj
   rw [hj] at h
   exact h
 | .al j W T,s,h=>by
  unfold qn at h ⊢
  split
  ·rename_i oj hj
   rw [hj] at h
   exact ⟨h.1,bQ (j3 h.2) fun s' hh=>uW (fun s2 h2=>⟨h2.1,hh.2.trans h2.2⟩) (qb hh.1)⟩
  ·rename_i hj
   rw [hj] at h
   exact h
 | .br i re C T more,s,h=>by
  unfold qn at h ⊢
  refine ⟨?_,qb h.2⟩
  have h:=h.1
  split
  ·rename_i oj hj
   rw [hj] at h
   exact bQ (j3 h) fun s' hh=>⟨hh.1.1,uW (fun s2 h2=>⟨h2.1,hh.2.trans h2.2⟩) (qb hh.1.2)⟩
  ·rename_i hj
   rw [hj] at h
   exact h
end ext
def kq (E:Env) (c:Code) (Q:Exit→St→Prop) (s:St):Prop:=eM E c (fun e s'=>Q e s'∧aJ s s') s
section sound
variable {E:Env} {f:FuncId} {s:St} {X:Type} {fz:Bool} {call:mT X} {jZ:km X} {dS:Option X→Option X→Option X} {x:X}
def lF (E:Env) (call:mT X):Prop:=∀ g args G K x,call g args G K=some x→bU E g args G (fun r G'=>K r G'=some x)
def rW (E:Env) (jZ:km X):Prop:=∀ id args G K x,jZ id args G K=some x→jj E id args G (fun b G'=>K b G'=some x)
theorem aZ {α:Type} {c:Bool} {a:Option α} {x:α} (h:(bif c then a else none)=some x):c=true∧a=some x:=by
 cases c
 ·cases h
 ·exact ⟨rfl,h⟩
theorem bind_some {α β:Type} {a:Option α} {k:α→Option β} {x:β} (h:a.bind k=some x):∃ y,a=some y∧k y=some x:=by
 cases a with
 | none=>cases h
 | some y=>exact ⟨y,rfl,h⟩
theorem EU {o:Oper} {n:Int} {len:Nat} {g:Nat→Oper} (h:yB E s o=some (n,len,g)) {j:Nat} (hj:n=(j:Int)):ap E f s (g j)=ap E f s o:=by
 subst hj
 unfold yB at h
 have Bt:∀ k:IntKind,bk E s.ae (.const (.int k (j:Int)))=.v (.int k j):=fun k=>rfl
 split at h
 ·rename_i t x y ho
  split at h
  ·rename_i k n i h1 h2
   split at h
   ·injection h with h; injection h with e1 h; injection h with e2 h
    subst h; subst e1
    simp only [ap,ho,Bt,h1]
   ·cases h
  ·cases h
 ·rename_i t x y ho
  split at h
  ·rename_i k n i h1 h2
   split at h
   ·split at h
    ·cases h
    ·injection h with h; injection h with e1 h; injection h with e2 h
     subst h; subst e1
     simp only [ap,ho,Bt,h1]
   ·cases h
  ·cases h
 ·cases h
theorem oe {o:Oper} {n:Int} {len:Nat} {g:Nat→Oper} (hi:yB E s o=some (n,len,g)) {K:St→Option X}:∀ (m j:Nat),sV E fz f g n K s m j=some x→∃ c s',ap E f s o=some (c,s')∧c=true∧K s'=some x
 | 0,_,h=>by cases h
 | m+1,j,h=>by
  unfold sV at h
  by_cases hn:n=(j:Int)
  ·rw [decide_eq_true hn,cond_true,EU hi hn] at h
   split at h
   ·rename_i c s' hs
    obtain ⟨h1,h2⟩:=aZ h
    rw [cw] at h2
    exact ⟨c,s',hs,h1,h2⟩
   ·cases h
  ·rw [decide_eq_false hn,cond_false] at h
   exact oe hi m (j+1) h
theorem uX {ops:List Oper} {o:Oper} (h:O9 E f ops o s=true):Cc E f ops o s:=by
 unfold O9 at h
 split at h
 ·rename_i t m k ok d ho hd
  split at h
  ·rename_i c v b hg hs
   rw [Bool.and_eq_true] at h
   obtain ⟨rfl,h⟩:=h
   have hn:=pY hs
   unfold Cc
   rw [hg]
   simp only
   have e:ap E f s o=some (true,s.put o.dst (.v (if ok then .aX [v,.bool b] else v))):=by simp only [ap,ho,hn]
   rw [hd] at e
   rw [hd,e]
   refine ⟨rfl,?_⟩
   unfold St.put
   simp only
   split
   ·rw [ay]
    exact wV h
   ·rfl
  ·exact wW h
 ·exact wW h
theorem og {ops:List Oper}:∀ {l:List Nat} {s:St},nE E f ops l s=true→wS E f ops l s
 | [],_,_=>trivial
 | k :: l,s,h=>by
  unfold nE at h
  unfold wS
  rw [Bool.and_eq_true] at h
  refine ⟨?_,og h.2⟩
  have h:=h.1
  split at h
  ·rename_i hk
   first
    | exact uX h
    | rw [hk]; exact uX h
  ·rename_i hk
   first
    | trivial
    | rw [hk]; trivial
theorem qW (hc:lF E call) (hr:rW E jZ) {o:Oper} {K:St→Option X} (h:O8 E fz call jZ f o K s=some x):iR E f o (fun s=>K s=some x) s:=by
 unfold iR
 split
 ·rename_i y args tys ho
  unfold O8 at h
  rw [ho] at h
  simp only at h
  split at h
  ·rename_i h1 h2
   rw [h1,h2]
   refine (hc _ _ _ _ _ h).mono fun r G' hk=>?_
   rw [cw] at hk
   exact hk
  ·rename_i h1 h2
   rw [h1,h2]
   refine (hr _ _ _ _ _ h).mono fun r G' hk=>?_
   rw [cw] at hk
   exact hk
  ·cases h
 ·rename_i ho
  unfold O8 at h
  rw [ho] at h
  cases h
 ·rename_i nc nd
  unfold O8 at h
  split at h
  ·rename_i ho
   exact absurd ho (nc _ _ _)
  ·cases h
  ·rename_i y ho
   split at h
   ·rename_i b s1 s2 hs
    have hn:=Cu hs
    have e:ap E f s o=some (true,bif b then s1 else s2):=by simp only [ap,ho,hn]
    rw [e]
    refine cL.mk rfl ?_
    rw [cw,cw] at h
    cases b <;> exact h
   ·cases h
  ·rename_i t m k ok ho
   split at h
   ·rename_i c v b hs
    obtain ⟨h1,h2⟩:=aZ h
    subst h1
    rw [cw] at h2
    have hn:=pY hs
    have e:ap E f s o=some (true,s.put o.dst (.v (if ok then .aX [v,.bool b] else v))):=by simp only [ap,ho,hn]
    rw [e]
    exact cL.mk rfl h2
   ·split at h
    ·rename_i c s' hs
     obtain ⟨h1,h2⟩:=aZ h
     rw [cw] at h2
     rw [hs]
     exact cL.mk h1 h2
    ·cases h
  ·rename_i t m k z ho
   split at h
   ·rename_i c s' hd hs
    obtain ⟨h1,h2⟩:=aZ h
    subst h1
    rw [cw] at h2
    have hn:=pZ hs
    have e:ap E f s o=some (true,s'):=by simp only [ap,ho,hd,hn]
    rw [e]
    exact cL.mk rfl h2
   ·cases h
  ·rename_i t m k z ho
   split at h
   ·rename_i c s' hd hs
    obtain ⟨h1,h2⟩:=aZ h
    subst h1
    rw [cw] at h2
    have hn:=pZ hs
    have e:ap E f s o=some (true,s'):=by simp only [ap,ho,hd,hn]
    rw [e]
    exact cL.mk rfl h2
   ·cases h
  ·rename_i args tys ho
   split at h
   ·rename_i c s' hf
    obtain ⟨h1,h2⟩:=aZ h
    rw [cw] at h2
    have e:ap E f s o=some (c,s'):=by simp only [ap,ho,hf]
    rw [e]
    exact cL.mk h1 h2
   ·rename_i hf
    split at h
    ·rename_i l hl
     split at h
     ·rename_i b s1 c s2 hs
      have zD:b=false→c=true:=fun e=>by subst e; exact (aZ (show (bif c then oK fz s2 K else none)=some x from h)).1
      have hn:=yy hs zD
      have e:ap E f s o=some (true,bif b then s1 else s2):=by simp only [ap,ho,hf,hl,hn]
      rw [e]
      refine cL.mk rfl ?_
      cases b with
      | true=>
       show K s1=some x
       rw [← cw fz s1 K]
       exact h
      | false=>
       obtain ⟨h1,h2⟩:=aZ (show (bif c then oK fz s2 K else none)=some x from h)
       rw [cw] at h2
       exact h2
     ·split at h
      ·rename_i c s' hs
       obtain ⟨h1,h2⟩:=aZ h
       rw [cw] at h2
       rw [hs]
       exact cL.mk h1 h2
      ·cases h
    ·cases h
  ·rename_i args tys ho
   split at h
   ·rename_i l hl
    split at h
    ·rename_i c s' hs
     obtain ⟨h1,h2⟩:=aZ h
     subst h1
     rw [cw] at h2
     have hn:=Cv hs
     have hf:fw E f s o=none:=by
      cases hf:fw E f s o with
      | none=>rfl
      | some r=>
       obtain ⟨_,_,h2⟩:=lr hf
       rw [ho] at h2
       cases h2
     have e:ap E f s o=some (true,s'):=by simp only [ap,ho,hf,hl,hn]
     rw [e]
     exact cL.mk rfl h2
    ·split at h
     ·rename_i c s' hs
      obtain ⟨h1,h2⟩:=aZ h
      rw [cw] at h2
      rw [hs]
      exact cL.mk h1 h2
     ·cases h
   ·cases h
  ·split at h
   ·rename_i n len g hi
    obtain ⟨c,s',hs,h1,h2⟩:=oe hi _ _ h
    rw [hs]
    exact cL.mk h1 h2
   ·split at h
    ·rename_i c s' hs
     obtain ⟨h1,h2⟩:=aZ h
     rw [cw] at h2
     rw [hs]
     exact cL.mk h1 h2
    ·cases h
theorem iU (hc:lF E call) (hr:rW E jZ) {ops:List Oper} {o:Oper} {K:St→Option X} (h:mU E fz call jZ f ops o K s=some x):bP E f ops o (fun s=>K s=some x) s:=by
 unfold mU at h
 unfold bP
 split at h
 ·rename_i hg
  rw [hg]
  exact qW hc hr h
 ·rename_i j want hg
  rw [hg]
  simp only
  split at h
  ·cases h
  ·rename_i d hd
   rw [hd]
   simp only
   split at h
   ·rename_i b hb
    rw [hb]
    simp only
    cases want with
    | true=>
     simp only at h
     rw [cw,cw] at h
     refine ⟨fun e=>?_,fun e=>?_⟩
     ·subst e
      exact qW hc hr h
     ·have e:b=false:=by simpa using e
      subst e
      exact h
    | false=>
     simp only at h
     rw [cw,cw] at h
     refine ⟨fun e=>?_,fun e=>?_⟩
     ·subst e
      exact qW hc hr h
     ·have e:b=true:=by simpa using e
      subst e
      exact h
   ·rename_i hb
    rw [hb]
    rw [cw] at h
    exact h
   ·cases h
theorem vZ (hc:lF E call) (hr:rW E jZ) {ops:List Oper} {o:Oper} {K:St→Option X} (h:yC E fz call jZ f ops o K s=some x):eN E f ops o (fun s=>K s=some x) s:=by
 unfold yC at h
 unfold eN
 split at h
 ·rename_i s' h1 h2
  rw [h1,h2]
  rw [cw] at h
  exact h
 ·rename_i hn
  split
  ·rename_i s' h1 h2
   exact absurd h2 (hn s' h1)
  ·exact iU hc hr h
theorem oh (hc:lF E call) (hr:rW E jZ) {ops:List Oper} {o:Oper} {K:St→Option X} (h:sW E fz call jZ f ops o K s=some x):dX E f ops o (fun s=>K s=some x) s:=by
 unfold sW at h
 unfold dX
 split at h
 ·rename_i c s' h1 h2
  rw [h1,h2]
  obtain ⟨q1,q2⟩:=aZ h
  rw [cw] at q2
  exact cL.mk q1 q2
 ·rename_i c s0 left g h1 h2 h3
  rw [h1,h2,h3]
  obtain ⟨q1,q2⟩:=aZ h
  refine cL.mk q1 ?_
  cases left with
  | nil=>
   simp only [List.isEmpty_nil,cond_true,cw] at q2
   exact ⟨fun _=>q2,fun i hi=>by simp at hi⟩
  | cons i0 l=>
   simp only [List.isEmpty_cons,cond_false] at q2
   refine ⟨fun e=>(by cases e),fun i hi=>?_⟩
   obtain ⟨r1,r2⟩:=aZ (EQ q2 i hi)
   rw [cw] at r2
   exact cL.mk r1 r2
 ·rename_i Fl Yx
  split
  ·rename_i c s' h1 h2
   first
    | exact absurd h2 (Fl c s' h1)
    | exact absurd h2 (Yx c s' h1)
  ·rename_i c s0 left g h1 h2 h3
   first
    | exact absurd h3 (Yx c s0 left g h1 h2)
    | exact absurd h3 (Fl c s0 left g h1 h2)
  ·exact vZ hc hr h
theorem v8 (hc:lF E call) (hr:rW E jZ) {ops:List Oper} {o:Oper} {K:St→Option X} (h:yD E fz call jZ f ops o K s=some x):dY E f ops o (fun s=>K s=some x) s:=by
 unfold yD at h
 unfold dY
 split at h
 ·rename_i c s' hz
  rw [hz]
  obtain ⟨h1,h2⟩:=aZ h
  exact ⟨h1,oh hc hr h2⟩
 ·rename_i hz
  rw [hz]
  exact oh hc hr h
theorem uY (hc:lF E call) (hr:rW E jZ) {ops:List Oper}:∀ {l:List Oper} {K:St→Option X} {s:St},J3 E fz call jZ f ops l K s=some x→mG E f ops l (fun s=>K s=some x) s
 | [],_,_,h=>h
 | o :: l,K,s,h=>by
  unfold J3 at h
  unfold mG
  refine ko (v8 hc hr h) fun s' h'=>?_
  unfold wO
  split at h'
  ·rename_i s2 hp
   rw [hp]
   exact uY hc hr h'
  ·cases h'
theorem ib (hc:lF E call) (hr:rW E jZ) (hm:rV dS) {ops:List Oper}:∀ {T:DT} {K:St→Option X} {s:St} {x:X},oT E fz call jZ dS f ops T K s=some x→qn E f ops T (fun s=>K s=some x) s
 | .done,_,_,_,h=>h
 | .stop,_,_,_,_=>trivial
 | .take j C T,K,s,x,h=>by
  unfold oT at h
  unfold qn
  split at h
  ·rename_i hk
   rw [hk]
   exact bQ (iU hc hr h) fun s' h'=>ib hc hr hm h'
  ·cases h
 | .al j W T,K,s,x,h=>by
  unfold oT at h
  unfold qn
  split at h
  ·rename_i hk
   obtain ⟨h1,h2⟩:=aZ h
   rw [hk]
   exact ⟨h1,bQ (iU hc hr h2) fun s' h'=>ib hc hr hm h'⟩
  ·cases h
 | .br i re C T more,K,s,x,h=>by
  have first:∀ {x:X},(match nth ops i with
   | some oi=>mU E fz call jZ f ops oi (fun s'=>bif nE E f ops re s' then oT E fz call jZ dS f ops T K s' else none) s
   | none=>none)=some x→(match nth ops i with
   | some oi=>bP E f ops oi (fun s'=>wS E f ops re s'∧qn E f ops T (fun s=>K s=some x) s') s
   | none=>False):=by
   intro x h
   split at h
   ·rename_i hk
    refine bQ (iU hc hr h) fun s' h'=>?_
    obtain ⟨h1,h2⟩:=aZ h'
    exact ⟨og h1,ib hc hr hm h2⟩
   ·cases h
  unfold qn
  cases more with
  | stop=>exact ⟨first h,trivial⟩
  | done=>obtain ⟨h1,h2⟩:=hm _ _ _ h; exact ⟨first h1,ib (T:=.done) hc hr hm h2⟩
  | take a b c=>obtain ⟨h1,h2⟩:=hm _ _ _ h; exact ⟨first h1,ib hc hr hm h2⟩
  | br a b c d e=>obtain ⟨h1,h2⟩:=hm _ _ _ h; exact ⟨first h1,ib hc hr hm h2⟩
  | al a b c=>obtain ⟨h1,h2⟩:=hm _ _ _ h; exact ⟨first h1,ib hc hr hm h2⟩
end sound
end Go.Am
