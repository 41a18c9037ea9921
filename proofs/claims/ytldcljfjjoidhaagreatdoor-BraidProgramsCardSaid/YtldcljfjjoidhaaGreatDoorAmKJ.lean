/- The abstract machine: maps and ranges over strings on values with leaves. -/
import Derived.Test.YtldcljfjjoidhaaGreatDoorAmKI
set_option linter.all false
namespace Go.Am
open Go
def Im (s:St) (dst:Option Tmp) (x:SV):Option (Bool × St × St):=match x with
 | .v (.ptr id 0)=>match nth s.G id with
  | some (.fB l pos)=>some (Nat.blt pos l.length,(s.bW (ay s.G id (.fB l (pos+(nV l pos).2)))).put dst (.v (.bg [.bool true,.int .i64 pos,.int .i32 (nV l pos).1])),s.put dst (.v (.bg [.bool false])))
  | _=>none
 | _=>none
theorem Dt {s:St} {dst:Option Tmp} {x:SV} {b:Bool} {s1 s2:St} (h:Im s dst x=some (b,s1,s2)):ko s dst x=some (bif b then s1 else s2):=by
 unfold Im at h
 split at h
 ·split at h
  ·rename_i l pos hg
   cases h
   simp only [ko,hg]
   cases Nat.blt pos l.length <;> rfl
  ·cases h
 ·cases h
theorem EO {e:EK} {k:AV}:∀ {es:List (AV × AV)},eo e k es=true→gU e k es=some (er e k es)
 | [],_=>rfl
 | (k',v) :: l,h=>by
  simp only [eo,Bool.and_eq_true] at h
  obtain ⟨b,hb⟩:=Option.isSome_iff_exists.1 h.1
  simp only [gU,er,tF,hb]
  cases b
  ·simp only [cond_false]; exact EO h.2
  ·rfl
theorem Io {e:EK} {k v:AV}:∀ {es:List (AV × AV)},eo e k es=true→rk e k v es=some (dy e k v es)
 | [],_=>rfl
 | (k',v') :: l,h=>by
  simp only [eo,Bool.and_eq_true] at h
  obtain ⟨b,hb⟩:=Option.isSome_iff_exists.1 h.1
  simp only [rk,dy,tF,hb]
  cases b
  ·simp only [cond_false,Io h.2]
  ·rfl
mutual
def aj.flat:aj→Bool
 | .int _=>true
 | .bool=>true
 | .str=>true
 | .agg ps=>ps.flat
 | .a7 _ _ p=>p.flat
 | _=>false
def aH.flat:aH→Bool
 | .nil=>true
 | .cons p ps=>p.flat&&ps.flat
end
theorem Bn {α:Type} {f:AV→Bool} {d:AV→α} {g:α→AV} (h:∀ a,f a=true→g (d a)=a):∀ {es:List AV},allFit f es=true→(es.map d).map g=es
 | [],_=>rfl
 | a :: l,hl=>by
  simp only [allFit,Bool.and_eq_true] at hl
  rw [List.map_cons,List.map_cons,h a hl.1,Bn h hl.2]
mutual
theorem aj.iF:∀ {p:aj},p.flat=true→∀ {a:AV},p.fits a=true→p.enc (p.bi a)=a
 | .int k,_,a,h=>by
  cases a <;> first | (cases h; done) | skip
  have hk:Qt _ _=true:=h
  rw [Cs hk]; rfl
 | .bool,_,a,h=>by cases a <;> first | (cases h; done) | rfl
 | .str,_,a,h=>by cases a <;> first | (cases h; done) | rfl
 | .agg ps,hp,a,h=>by
  cases a <;> first | (cases h; done) | skip
  exact congrArg AV.agg (aH.iF (ps:=ps) hp h)
 | .bg _,hp,_,_=>by cases hp
 | .list _ _,hp,_,_=>by cases hp
 | .own _ _ _,hp,_,_=>by cases hp
 | .a7 id sz p,hp,a,h=>by
  cases a <;> first | (cases h; done) | skip
  rename_i k bG es
  cases k <;> first | (cases h; done) | skip
  rename_i iN j
  simp only [aj.fits,Bool.and_eq_true] at h
  have e1:=Nat.eq_of_beq_eq_true h.1.1
  have e2:=Nat.eq_of_beq_eq_true h.1.2
  subst e1 e2
  have hp:p.flat=true:=hp
  show AV.list (.a7 id j) sz ((es.map p.bi).map p.enc)=_
  rw [Bn (fun a ha=>aj.iF hp ha) h.2]
 | .fe _,hp,_,_=>by cases hp
 | .two _ _,hp,_,_=>by cases hp
theorem aH.iF:∀ {ps:aH},ps.flat=true→∀ {l:List AV},ps.fits l=true→ps.enc (ps.bi l)=l
 | .nil,_,l,h=>by
  cases l with
  | nil=>rfl
  | cons _ _=>cases h
 | .cons p .nil,hp,l,h=>by
  simp only [aH.flat,Bool.and_eq_true] at hp
  cases l with
  | nil=>cases h
  | cons a l=>
   simp only [aH.fits,Bool.and_eq_true] at h
   cases l with
   | nil=>exact congrArg (fun x=>[x]) (aj.iF hp.1 h.1)
   | cons _ _=>cases h.2
 | .cons p (.cons q ps),hp,l,h=>by
  rw [aH.flat,Bool.and_eq_true] at hp
  cases l with
  | nil=>cases h
  | cons a l=>
   rw [aH.fits,Bool.and_eq_true] at h
   have h1:=aj.iF hp.1 h.1
   have h2:=aH.iF (ps:=.cons q ps) hp.2 h.2
   show p.enc (p.bi a) :: (aH.cons q ps).enc ((aH.cons q ps).bi l)=a :: l
   rw [h1,h2]
end
def tO (E:Env) (s:St) (t:TypeId) (m k:SV):Option (Bool × AV × Bool):=match Px E s.G t,E.ti t,mapOf s m,k with
 | some p,some i,some es,.v k=>match i.k with
  | .map kt _ (some z)=>match E.ti kt with
   | some j=>if j.ek.plain&&gF j.ek k&&p.flat then
     some (eo j.ek k es&&p.fits (b9 j.ek k (Aq E s.G t z) es),p.enc (p.bi (b9 j.ek k (Aq E s.G t z) es)),(er j.ek k es).isSome)
    else none
   | none=>none
  | _=>none
 | _,_,_,_=>none
theorem qH {E:Env} {s:St} {t:TypeId} {m k:SV} {v:AV} {b:Bool} (h:tO E s t m k=some (true,v,b)):kn E s t m k=some (v,b):=by
 unfold tO at h
 split at h
 ·rename_i p i es k h1 h2 h3
  split at h
  ·rename_i kt et z hk
   split at h
   ·rename_i j hj
    split at h
    ·rename_i hc
     simp only [Bool.and_eq_true] at hc
     injection h with h
     injection h with h4 h
     injection h with h5 h6
     rw [Bool.and_eq_true] at h4
     rw [aj.iF hc.2 h4.2] at h5
     have e:gU j.ek k es=some (er j.ek k es):=EO h4.1
     have tg:(j.ek.plain&&gF j.ek k)=true:=by rw [hc.1.1,hc.1.2]; rfl
     have e0:ij E s t m (.v k)=some ((er j.ek k es).getD z,(er j.ek k es).isSome):=by
      simp only [ij,h2,h3,hk,hj,tg,if_true,e]
      cases er j.ek k es <;> rfl
     unfold kn
     rw [e0]
     unfold b9 at h5
     cases hg:er j.ek k es with
     | none=>
      rw [hg] at h5 h6
      subst h5 h6
      rfl
     | some v'=>
      rw [hg] at h5 h6
      subst h5 h6
      rfl
    ·cases h
   ·cases h
  ·cases h
 ·cases h
def tP (E:Env) (s:St) (t:TypeId) (m k x:SV):Option (Bool × St):=match E.ti t,m,k,x with
 | some i,.v (.map id),.v k,.v x=>match i.k,nth s.G id with
  | .map kt _ _,some (.map es)=>match E.ti kt with
   | some j=>if j.ek.plain&&gF j.ek k then some (eo j.ek k es,s.bW (ay s.G id (.map (dy j.ek k x es)))) else none
   | none=>none
  | _,_=>none
 | _,_,_,_=>none
theorem qI {E:Env} {s s':St} {t:TypeId} {m k x:SV} (h:tP E s t m k x=some (true,s')):eh E s t m k x=some s':=by
 unfold tP at h
 split at h
 ·rename_i i id k x h1
  split at h
  ·rename_i kt _ _ es hk hg
   split at h
   ·rename_i j hj
    split at h
    ·rename_i hc
     injection h with h
     injection h with h4 h5
     simp only [eh,h1,hk,hg,hj,hc,if_true,Io h4,h5]
    ·cases h
   ·cases h
  ·cases h
 ·cases h
def Ip (E:Env) (s:St) (dst:Option Tmp) (l:List AV) (tys:List TypeId):Option (Bool × St):=match l,tys with
 | [.ja id off sz len _,.str bs],t :: _=>match E.ti t,nth s.G id with
  | some i,some (.row cs el)=>match i.k with
   | .sl _ esz _ _ _=>if Nat.beq sz esz&&Nat.beq esz 1 then
     some (Nat.ble (off+(bs.take (Nat.min bs.length len)).length) cs.length,
      (s.bW (ay s.G id (.row (aZ cs off ((bs.take (Nat.min bs.length len)).map p0)) el))).put dst (.v (.int .i64 (Nat.min bs.length len))))
    else none
   | _=>none
  | _,_=>none
 | [.ja id off sz len _,.list _ bG es],t :: _=>match E.ti t,nth s.G id with
  | some i,some (.row cs el)=>match i.k with
   | .sl _ esz _ _ _=>if Nat.beq sz esz&&Nat.beq bG esz then
     some (Nat.ble (off+(ar (es.take (Nat.min es.length len))).length) cs.length,
      (s.bW (ay s.G id (.row (aZ cs off (ar (es.take (Nat.min es.length len)))) el))).put dst (.v (.int .i64 (Nat.min es.length len))))
    else none
   | _=>none
  | _,_=>none
 | [.du id f off sz len,.list _ bG xs],t :: _=>match E.ti t,nth s.G id with
  | some i,some (.cO es XJ el)=>match i.k with
   | .sl _ esz _ _ _=>if Nat.beq sz esz&&Nat.beq XJ sz&&Nat.beq bG esz then
     some (decide (f=es.length)&&decide (off+Nat.min xs.length len≤es.length),
      (s.bW (ay s.G id (.cO (aZ es off (xs.take (Nat.min xs.length len))) XJ el))).put dst (.v (.int .i64 (Nat.min xs.length len))))
    else none
   | _=>none
  | _,_=>none
 | _,_=>none
theorem Du {E:Env} {s s':St} {dst:Option Tmp} {l:List AV} {tys:List TypeId} (h:Ip E s dst l tys=some (true,s')):bJ E s dst .copy l tys=some (true,s'):=by
 unfold Ip at h
 split at h
 ·rename_i id off sz len cap bs t ts
  split at h
  ·rename_i i cs el hi hid
   split at h
   ·rename_i a1 esz a2 a3 a4 hk
    split at h
    ·rename_i hc
     rw [Bool.and_eq_true] at hc
     injection h with h
     injection h with h1 h2
     have um:(Nat.beq esz 1&&Nat.ble (off+(bs.take (Nat.min bs.length len)).length) cs.length)=true:=by rw [hc.2,h1]; rfl
     simp only [bJ,hi,hk,p9,hid,hc.1,if_true,um,h2]
    ·cases h
   ·cases h
  ·cases h
 ·rename_i id off sz len cap k bG es t ts
  split at h
  ·rename_i i cs el hi hid
   split at h
   ·rename_i a1 esz a2 a3 a4 hk
    split at h
    ·rename_i hc
     rw [Bool.and_eq_true] at hc
     injection h with h
     injection h with h1 h2
     have e2:(Nat.beq bG esz || es.isEmpty)=true:=by rw [hc.2]; rfl
     simp only [bJ,hi,hk,p9,hid,hc.1,if_true,e2,h1,h2]
    ·cases h
   ·cases h
  ·cases h
 ·rename_i id f off sz len k bG xs t ts
  split at h
  ·rename_i i es XJ el hi hid
   split at h
   ·rename_i a1 esz a2 a3 a4 hk
    split at h
    ·rename_i hc
     rw [Bool.and_eq_true] at hc
     injection h with h
     injection h with h1 h2
     rw [Bool.and_eq_true,decide_eq_true_eq,decide_eq_true_eq] at h1
     obtain ⟨rfl,h1⟩:=h1
     have e2:(Nat.beq sz esz&&Nat.beq XJ sz&&(Nat.beq bG esz || xs.isEmpty)&&Nat.ble es.length es.length&&Nat.ble es.length es.length&&Nat.ble (off+Nat.min xs.length len) es.length)=true:=by
      rw [hc.1,hc.2]
      simp only [Bool.true_or,Bool.true_and,Bool.and_eq_true]
      exact ⟨⟨Nat.ble_eq_true_of_le (Nat.le_refl _),Nat.ble_eq_true_of_le (Nat.le_refl _)⟩,Nat.ble_eq_true_of_le h1⟩
     simp only [bJ,hi,hk,p9,hid,e2,if_true,h2]
    ·cases h
   ·cases h
  ·cases h
 ·cases h
def tQ (s:St) (dst:Option Tmp) (elem esz bq:Nat) (k:LK) (sz:Nat) (es ys:List AV):Option (Bool × St × Bool × St):=
 match k with
 | .nil=>some (ys.isEmpty,s.put dst (.v (.list .nil sz es)),decide ((es.length+ys.length) * bq≤140737488355328),
   (s.bW (s.G++[.tok (es.length+ys.length) esz elem])).put dst (.v (.list (.own s.G.length) esz (es++ys))))
 | .full=>if Nat.beq sz esz then some (ys.isEmpty,s.put dst (.v (.list .full sz es)),decide ((es.length+ys.length) * bq≤140737488355328),
   (s.bW (s.G++[.tok (es.length+ys.length) esz elem])).put dst (.v (.list (.own s.G.length) esz (es++ys)))) else none
 | .own id=>match nth s.G id with
  | some (.tok f bG e')=>if Nat.beq bG esz&&Nat.beq e' elem&&Nat.beq sz esz then
    some (false,s,decide (f=es.length)&&decide ((es.length+ys.length) * bq≤140737488355328),
     (s.bW (Hf s.G id ys.length f esz elem)).put dst (.v (.list (.own id) esz (es++ys)))) else none
  | _=>none
 | .a7 id j=>match nth s.G id with
  | some (.a7 fs bG e')=>if Nat.beq bG esz&&Nat.beq e' elem&&Nat.beq sz esz then
    some (ys.isEmpty,s.put dst (.v (.list (.a7 id j) sz es)),Lh fs j es.length&&decide ((es.length+ys.length) * bq≤140737488355328),
     (s.bW (ay s.G id (.a7 (Fx fs j (es.length+ys.length)) esz elem))).put dst (.v (.list (.a7 id j) esz (es++ys)))) else none
  | _=>none
 | .ka=>none
def zB (s:St) (dst:Option Tmp) (elem esz bq id f off sz len:Nat) (ys:List AV):Option (Bool × St × Bool × St):=match nth s.G id with
 | some (.cO es bG e')=>if Nat.beq bG esz&&Nat.beq e' elem&&Nat.beq sz esz then
   some (false,s,decide (f=es.length)&&decide (off=0)&&decide (len=f)&&decide ((es.length+ys.length) * bq≤140737488355328),
    (s.bW (ay s.G id (.cO (es++ys) esz elem))).put dst (.v (.du id (es.length+ys.length) 0 esz (es.length+ys.length)))) else none
 | _=>none
def zC (E:Env) (s:St) (dst:Option Tmp) (l:List AV) (tys:List TypeId):Option (Bool × St × Bool × St):=match l,tys with
 | [.list k sz es,.list _ bG ys],[t,u]=>match E.ti t with
  | some i=>match i.k with
   | .sl elem esz _ bq (some z)=>
    if Nat.beq bG esz&&Nat.beq t u&&Nat.ble 1 esz&&Nat.ble 1 bq&&Nat.beq z.cells.length esz&&z.aR then
     tQ s dst elem esz bq k sz es ys
    else none
   | _=>none
  | none=>none
 | [.du id f off sz len,.list _ bG ys],[t,u]=>match E.ti t with
  | some i=>match i.k with
   | .sl elem esz _ bq (some z)=>
    if Nat.beq bG esz&&Nat.beq t u&&Nat.ble 1 esz&&Nat.ble 1 bq&&Nat.beq z.cells.length esz&&z.aR then zB s dst elem esz bq id f off sz len ys else none
   | _=>none
  | none=>none
 | [.list k sz es,.str bs],[t,u]=>match E.ti t,E.ti u with
  | some i,some j=>match i.k,j.k with
   | .sl elem esz _ bq (some z),.str=>
    if Nat.beq esz 1&&Nat.ble 1 bq&&Nat.beq z.cells.length esz&&z.aR then tQ s dst elem esz bq k sz es (bs.map p0) else none
   | _,_=>none
  | _,_=>none
 | _,_=>none
theorem qJ {s s1 s2:St} {dst:Option Tmp} {elem esz bq:Nat} {k:LK} {sz:Nat} {es ys:List AV} {b c:Bool} (h:tQ s dst elem esz bq k sz es ys=some (b,s1,c,s2)) (hc:b=false→c=true) :
  ∃ v G',fh s.G elem esz bq (.list k sz es) ys=some (true,v,G')∧(s.bW G').put dst (.v v)=bif b then s1 else s2:=by
 unfold tQ at h
 cases k with
 | nil=>
  cases h
  cases ys with
  | nil=>exact ⟨_,_,rfl,rfl⟩
  | cons y ys=>
   have hc:=hc rfl
   exact ⟨_,_,by simp only [fh,hc],rfl⟩
 | full=>
  simp only at h
  cases hs:Nat.beq sz esz with
  | false=>rw [hs] at h; cases h
  | true=>
   rw [hs] at h
   cases h
   cases ys with
   | nil=>exact ⟨_,_,rfl,rfl⟩
   | cons y ys=>
    have hc:=hc rfl
    exact ⟨_,_,by simp only [fh,hs,if_true,hc],rfl⟩
 | own id=>
  simp only at h
  split at h
  ·rename_i f bG e' hg
   split at h
   ·rename_i cB
    cases h
    have hc:=hc rfl
    cases ys with
    | nil=>
     simp only [Bool.and_eq_true] at cB
     have e1:=Nat.eq_of_beq_eq_true cB.1.1
     have e2:=Nat.eq_of_beq_eq_true cB.1.2
     have e3:=Nat.eq_of_beq_eq_true cB.2
     subst e1; subst e2; subst e3
     refine ⟨_,_,rfl,?_⟩
     simp only [cond_false,Hf,List.length_nil,Nat.add_zero,jx hg,List.append_nil]
    | cons y ys=>exact ⟨_,_,by simp only [fh,hg,cB,if_true,hc],rfl⟩
   ·cases h
  ·cases h
 | a7 id j=>
  simp only at h
  split at h
  ·rename_i fs bG e' hg
   split at h
   ·rename_i cB
    cases h
    cases ys with
    | nil=>exact ⟨_,_,rfl,rfl⟩
    | cons y ys=>
     have hc:=hc rfl
     exact ⟨_,_,by simp only [fh,hg,cB,if_true,hc],rfl⟩
   ·cases h
  ·cases h
 | ka=>cases h
theorem zD {s s1 s2:St} {dst:Option Tmp} {elem esz bq id f off sz len:Nat} {ys:List AV} {b c:Bool} (h:zB s dst elem esz bq id f off sz len ys=some (b,s1,c,s2)) (hc:b=false→c=true) :
  ∃ v G',fh s.G elem esz bq (.du id f off sz len) ys=some (true,v,G')∧(s.bW G').put dst (.v v)=bif b then s1 else s2:=by
 unfold zB at h
 split at h
 ·rename_i es bG e' hg
  split at h
  ·rename_i cB
   cases h
   have hc:=hc rfl
   cases ys with
   | nil=>
    simp only [Bool.and_eq_true,decide_eq_true_eq] at hc cB
    have e1:=Nat.eq_of_beq_eq_true cB.1.1
    have e2:=Nat.eq_of_beq_eq_true cB.1.2
    have e3:=Nat.eq_of_beq_eq_true cB.2
    obtain ⟨⟨⟨h1,h2⟩,h3⟩,_⟩:=hc
    subst e1; subst e2; subst e3; subst h1; subst h2; subst h3
    refine ⟨_,_,rfl,?_⟩
    simp only [cond_false,List.length_nil,Nat.add_zero,jx hg,List.append_nil]
   | cons y ys=>exact ⟨_,_,by simp only [fh,hg,cB,if_true,hc],rfl⟩
  ·cases h
 ·cases h
theorem zF {E:Env} {s s1 s2:St} {dst:Option Tmp} {l:List AV} {tys:List TypeId} {b c:Bool} (h:zC E s dst l tys=some (b,s1,c,s2)) (Cf:b=false→c=true):bJ E s dst .append l tys=some (true,bif b then s1 else s2):=by
 unfold zC at h
 split at h
 ·rename_i k sz es k' bG ys t u
  split at h
  ·rename_i i hi
   split at h
   ·rename_i elem esz a1 bq z hk
    split at h
    ·rename_i hc
     have tg:((Nat.beq bG esz || ys.isEmpty)&&Nat.beq t u&&Nat.ble 1 esz&&Nat.ble 1 bq&&Nat.beq z.cells.length esz&&z.aR)=true:=by
      simp only [Bool.and_eq_true] at hc ⊢
      obtain ⟨⟨⟨⟨⟨c1,c2⟩,c3⟩,c4⟩,c5⟩,c6⟩:=hc
      exact ⟨⟨⟨⟨⟨by rw [c1]; rfl,c2⟩,c3⟩,c4⟩,c5⟩,c6⟩
     obtain ⟨v,G',h1,h2⟩:=qJ h Cf
     simp only [bJ,hi,hk,tg,if_true,h1,h2]
    ·cases h
   ·cases h
  ·cases h
 ·rename_i id f off sz len k' bG ys t u
  split at h
  ·rename_i i hi
   split at h
   ·rename_i elem esz a1 bq z hk
    split at h
    ·rename_i hc
     have tg:((Nat.beq bG esz || ys.isEmpty)&&Nat.beq t u&&Nat.ble 1 esz&&Nat.ble 1 bq&&Nat.beq z.cells.length esz&&z.aR)=true:=by
      simp only [Bool.and_eq_true] at hc ⊢
      obtain ⟨⟨⟨⟨⟨c1,c2⟩,c3⟩,c4⟩,c5⟩,c6⟩:=hc
      exact ⟨⟨⟨⟨⟨by rw [c1]; rfl,c2⟩,c3⟩,c4⟩,c5⟩,c6⟩
     obtain ⟨v,G',h1,h2⟩:=zD h Cf
     simp only [bJ,hi,hk,tg,if_true,h1,h2]
    ·cases h
   ·cases h
  ·cases h
 ·rename_i k sz es bs t u
  split at h
  ·rename_i i j hi hj
   split at h
   ·rename_i elem esz a1 bq z hk Uc
    split at h
    ·rename_i hc
     obtain ⟨v,G',h1,h2⟩:=qJ h Cf
     simp only [bJ,hi,hj,hk,Uc,hc,if_true,h1,h2]
    ·cases h
   ·cases h
  ·cases h
 ·cases h
end Go.Am
namespace Go.Am
open Go
def Rj (E:Env) (cut wk:Bool) (t:TypeId) (r:AV) (G:List GO):Option (Bool × AV × List GO):=match r with
 | .du id f 0 sz len=>match nth G id,E.ti t with
  | some (.cO es bG _),some i=>match i.k with
   | .sl _ esz _ _ _=>if Nat.beq esz sz&&Nat.beq bG sz then
     bif cut then some (decide (f=es.length)&&decide (len≤es.length)&&aA (xH wk es),.list .ka sz (xH wk (es.take len)),ay G id .dead)
     else some (decide (f=es.length)&&decide (len=es.length)&&aA (xH wk es),.list .ka sz (xH wk es),ay G id .dead)
    else none
   | _=>none
  | _,_=>none
 | .ja id 0 sz len _=>match nth G id,E.ti t,E.Pw t with
  | some (.row cs _),some i,some p=>match i.k with
   | .sl _ esz agg _ _=>if Nat.beq esz sz&&Nat.ble 1 sz&&(agg || Nat.beq sz 1)&&p.under 0 then
     some (Nat.beq cs.length (len * sz)&&allFit (fun e=>p.fits e&&e.aR&&(agg || e.one)) (gi agg sz len cs),.list .ka sz ((gi agg sz len cs).map fun e=>p.enc (p.bi e)),ay G id .dead)
    else none
   | _=>none
  | _,_,_=>none
 | .agg cs=>match kW wk cs G with
  | (c,cs',G')=>some (c,.agg cs',G')
 | .ptr id 0=>match nth G id with
  | some (.row cs _)=>some (aA cs,.ep cs,ay G id .dead)
  | _=>none
 | _=>none
def vF (E:Env) (cut wk:Bool):List TypeId→List AV→List GO→Bool × List AV × List GO
 | t :: ts,r :: rs,G=>match Rj E cut wk t r G with
  | some (c,r',G')=>match vF E cut wk ts rs G' with
   | (c',Iq,Cj)=>(c&&c',r' :: Iq,Cj)
  | none=>match vF E cut wk ts rs G with
   | (c',Iq,Cj)=>(c',r :: Iq,Cj)
 | _,rs,G=>(true,rs,G)
def Rk {X:Type} (E:Env) (cut wk:Bool) (ts:List TypeId) (K:AV→List GO→Option X) (r:AV) (G:List GO):Option X:=match r with
 | .bg rs=>match vF E cut wk ts rs G with
  | (c,Iq,G')=>bif c then K (.bg Iq) G' else none
 | r=>match vF E cut wk ts [r] G with
  | (c,[r'],G')=>bif c then K r' G' else none
  | _=>none
section
variable {E:Env} {R:ak} {w:World}
theorem vG {R:ak} {b:Nat} (hI:∀ o,R.I b o):∀ {cs:List AV} {vs:List Value} {o:Nat},aG R w cs vs→(∀ v∈vs,v.oneCell'=true)→(∀ (j:Nat) (v:Value),vs[j]?=some v→w.cell? ⟨b,o+j,none⟩=some v)→dp R w b o cs
 | [],_,o,_,_,_=>.nil
 | a :: cs,_,o,.cons h t,h1,hc=>.cons (hc 0 _ rfl) (h1 _ (by simp)) (hI o) h (vG hI t (fun v hv=>h1 v (by simp [hv])) fun j v hj=>by
   have:=hc (j+1) v (by simpa using hj)
   rwa [show o+(j+1)=o+1+j by omega] at this)
theorem vH {R:ak} {b:Nat} {p:aj} {agg:Bool} {sz:Nat} (hI:∀ o,R.I b o) (hp:p.under 0=true) (dO:(agg || Nat.beq sz 1)=true) (Zk:1≤sz):∀ (n:Nat) {cs:List AV} {vs:List Value} {o:Nat},aG R w cs vs→(∀ v∈vs,v.oneCell'=true)→cs.length=n * sz →
  (∀ (j:Nat) (v:Value),vs[j]?=some v→w.cell? ⟨b,o+j,none⟩=some v)→allFit (fun e=>p.fits e&&e.aR&&(agg || e.one)) (gi agg sz n cs)=true→fk R w b o sz ((gi agg sz n cs).map fun e=>p.enc (p.bi e))
 | 0,_,_,_,_,_,_,_,_=>.nil
 | n+1,cs,vs,o,h,h1,hl,hc,hf=>by
  simp only [gi,allFit,Bool.and_eq_true] at hf
  obtain ⟨⟨⟨uB,Xt⟩,hf4⟩,hf3⟩:=hf
  have hlen:=h.length
  have hle:sz≤cs.length:=by rw [hl,Nat.succ_mul]; omega
  have dk:=p.cE uB
  have kH:(UI agg (cs.take sz)).cells=cs.take sz:=by
   cases agg with
   | true=>rfl
   | false=>
    have Ek:sz=1:=by simpa using dO
    subst Ek
    match cs,hle with
    | a :: cs,_=>
     show AV.cells a=[a]
     have ho:a.one=true:=by simpa [UI,dG] using hf4
     cases a <;> first | rfl | simp [AV.one] at ho
  have hw:=dk.cells Xt
  rw [kH] at hw
  have hA:dp R w b o (cs.take sz):=vG hI (h.take sz) (fun v hv=>h1 v (List.mem_of_mem_take hv)) fun j v hj=>hc j v (by
   rw [List.getElem?_take] at hj
   split at hj
   ·exact hj
   ·cases hj)
  refine .cons (by rw [← hw.length,List.length_take,Nat.min_eq_left hle]) (by rw [dk.bg]; exact Xt) (kK (p.cZ _ hp)) (hw.Hl hA) ?_
  exact vH hI hp dO Zk n (h.drop sz) (fun v hv=>h1 v (List.mem_of_mem_drop hv)) (by rw [List.length_drop,hl,Nat.succ_mul]; omega) (fun j v hj=>by
   rw [List.getElem?_drop] at hj
   have:=hc _ _ hj
   rwa [show o+(sz+j)=o+sz+j by omega] at this) hf3
theorem LO {cut wk:Bool} {t:TypeId} {r r':AV} {G G':List GO} {c:Value} (hg:cW E R w G) (hr:Rel R w r c) (h:Rj E cut wk t r G=some (true,r',G')) :
  ∃ R',cW E R' w G'∧Rel R' w r' c∧Ext R w R' w∧R'.obj=R.obj∧∀ b o,R'.I b o→R.I b o∨Live R b:=by
 unfold Rj at h
 split at h
 ·rename_i id f sz len
  obtain ⟨ro,bL⟩:∃ ro,nth R.obj id=some ro:=by
   cases hr with
   | iq q _=>exact ⟨_,q⟩
   | du q _ _=>exact ⟨_,q⟩
  split at h
  ·rename_i es bG el i hid hi
   split at h
   ·split at h
    ·rename_i hc
     rw [Bool.and_eq_true] at hc
     have q1:=Nat.eq_of_beq_eq_true hc.2
     subst q1
     cases cut with
     | true=>
      simp only [cond_true] at h
      injection h with h; injection h with h1 h; injection h with h2 h3
      subst h2 h3
      rw [Bool.and_eq_true,Bool.and_eq_true,decide_eq_true_eq,decide_eq_true_eq] at h1
      obtain ⟨h1,iA⟩:=h1
      obtain ⟨R',r1,r2,r3,r4,r5⟩:=lW (wk:=wk) hg hid h1.1 h1.2 iA bL
      exact ⟨R',r1,r5 c hr,r2,r3,fun b o hi=>(r4 b o hi).imp_right fun hb=>⟨id,ro,bL,hb⟩⟩
     | false=>
      simp only [cond_false] at h
      injection h with h; injection h with h1 h; injection h with h2 h3
      subst h2 h3
      rw [Bool.and_eq_true,Bool.and_eq_true,decide_eq_true_eq,decide_eq_true_eq] at h1
      obtain ⟨h1,iA⟩:=h1
      obtain ⟨R',r1,r2,r3,r4,r5⟩:=lW (wk:=wk) hg hid h1.1 (Nat.le_of_eq h1.2) iA bL
      have r6:=r5 c hr
      rw [h1.2,List.take_length] at r6
      exact ⟨R',r1,r6,r2,r3,fun b o hi=>(r4 b o hi).imp_right fun hb=>⟨id,ro,bL,hb⟩⟩
    ·cases h
   ·cases h
  ·cases h
 ·rename_i id sz len cap
  split at h
  ·rename_i cs i p hid hi hp
   split at h
   ·rename_i el esz agg eb z hk
    split at h
    ·rename_i hc
     simp only [Bool.and_eq_true] at hc
     injection h with h
     injection h with h1 h
     injection h with h2 h3
     subst h2 h3
     rw [Bool.and_eq_true] at h1
     cases hr with
     | @ja _ _ _ _ _ b hb gB=>
     obtain ⟨vs,k1,k2,k3,k4⟩:=hg.obj id _ _ hid hb
     have AE:Live R b:=⟨id,_,hb,rfl⟩
     have e:=n5 R w b
     have bP:=bc k1
     refine ⟨R.all b,⟨by show R.obj.length=_; rw [gr]; exact hg.len,fun iN go ro q1 q2=>?_,hg.inj,fun b' o ho=>?_,fun g cs pt=>(hg.bY g cs pt).mono e,hg.lo⟩,?_,e,rfl,fun b' o ho=>?_⟩
     ·rcases cR q1 with ⟨rfl,rfl,_⟩ | ⟨cw,q1⟩
      ·have:ro=.bT b:=Option.some.inj (q2.symm.trans hb)
       subst this
       exact bP
      ·refine (hg.obj iN go ro q1 q2).mono e (fun _ _=>rfl) (fun b' o jy ho=>?_)
       rcases ho with ho | ho
       ·exact ho
       ·subst ho
        exact absurd (hg.inj id iN _ _ b' hb q2 rfl jy) cw
     ·rcases ho with ho | ho
      ·exact hg.wf b' o ho
      ·subst ho; exact bP
     ·refine Rel.list (vH (R:=R.all b) (fun o=>Or.inr rfl) hc.2 hc.1.2 (Nat.le_of_ble_eq_true hc.1.1.2) len (k2.mono e) k3 (Nat.eq_of_beq_eq_true h1.1) (fun j v hj=>?_) h1.2) ?_ gB trivial
      ·simp only [World.cell?,k1]
       simpa using hj
      ·rw [List.length_map]
       have:∀ (n:Nat) (l:List AV),(gi agg sz n l).length=n:=by
        intro n
        induction n with
        | zero=>intro l; rfl
        | succ n ih=>intro l; simp [gi,ih]
       rw [this]
     ·rcases ho with ho | ho
      ·exact .inl ho
      ·subst ho; exact .inr AE
    ·cases h
   ·cases h
  ·cases h
 ·rename_i cs
  cases h2:kW wk cs G with
  | mk c' q=>
  obtain ⟨cs',G2⟩:=q
  rw [h2] at h
  injection h with h; injection h with h1 h; injection h with h3 h4
  subst h1 h3 h4
  cases hr with
  | agg hr um=>
  obtain ⟨R',r1,r2,r3,r4,r5⟩:=qw hg hr h2
  exact ⟨R',r1,.agg r2 um,r3,r4,r5⟩
 ·-- an object's cells never change again
  rename_i id
  split at h
  ·rename_i cs el hid
   injection h with h; injection h with h1 h; injection h with h2 h3
   subst h2 h3
   cases hr with
   | @ptr _ _ b bL=>
   obtain ⟨vs,b1,b2,b3,b4⟩:=hg.obj id _ _ hid bL
   have r2:=n5 R w b
   have r1:=hg.freeze bL rfl (show fM (R.all b) w .dead (.bT b) from bc b1)
   refine ⟨R.all b,r1,Rel.ep (dp.make (b2.mono r2) b3 (fun j v hv=>?_) (fun j _=>.inr rfl)),r2,rfl,fun b' o hi=>?_⟩
   ·rw [iw b1,Nat.zero_add]
    exact hv
   ·rcases hi with hi | rfl
    ·exact .inl hi
    ·exact .inr ⟨id,_,bL,rfl⟩
  ·cases h
 ·cases h
theorem tR {cut wk:Bool}:∀ {ts:List TypeId} {rs Iq:List AV} {G G':List GO} {cs:List Value} {R:ak},cW E R w G→aG R w rs cs→vF E cut wk ts rs G=(true,Iq,G') →
  ∃ R',cW E R' w G'∧aG R' w Iq cs∧Ext R w R' w∧R'.obj=R.obj∧∀ b o,R'.I b o→R.I b o∨Live R b
 | [],rs,Iq,G,G',cs,R,hg,hr,h=>by
  cases rs <;> (simp only [vF] at h; cases h; exact ⟨R,hg,hr,Ext.refl R w,rfl,fun _ _ h=>.inl h⟩)
 | _ :: _,[],Iq,G,G',cs,R,hg,hr,h=>by
  simp only [vF] at h; cases h; exact ⟨R,hg,hr,Ext.refl R w,rfl,fun _ _ h=>.inl h⟩
 | t :: ts,r :: rs,Iq,G,G',cs,R,hg,hr,h=>by
  cases hr with
  | cons h0 hr=>
  unfold vF at h
  split at h
  ·rename_i c r' G1 h1
   cases h2:vF E cut wk ts rs G1 with
   | mk c' q=>
   obtain ⟨Vk,G2⟩:=q
   rw [h2] at h
   simp only [Prod.mk.injEq,Bool.and_eq_true] at h
   obtain ⟨⟨rfl,rfl⟩,rfl,rfl⟩:=h
   obtain ⟨R1,a1,a2,a3,a4,a5⟩:=LO hg h0 h1
   obtain ⟨R2,b1,b2,b3,b4,b5⟩:=tR a1 (hr.mono a3) h2
   refine ⟨R2,b1,.cons (a2.mono b3) b2,a3.trans b3,b4.trans a4,fun b o ho=>?_⟩
   rcases b5 b o ho with ho | ho
   ·exact a5 b o ho
   ·obtain ⟨id,ro,q1,q2⟩:=ho
    rw [a4] at q1
    exact .inr ⟨id,ro,q1,q2⟩
  ·cases h2:vF E cut wk ts rs G with
   | mk c' q=>
   obtain ⟨Vk,G2⟩:=q
   rw [h2] at h
   simp only [Prod.mk.injEq] at h
   obtain ⟨rfl,rfl,rfl⟩:=h
   obtain ⟨R2,b1,b2,b3,b4,b5⟩:=tR hg hr h2
   exact ⟨R2,b1,.cons (h0.mono b3) b2,b3,b4,b5⟩
theorem cj.frz {g:FuncId} {args:List AV} {G:List GO} {X:Type} {cut wk:Bool} {ts:List TypeId} {K:AV→List GO→Option X} {x:X} (h:cj E g args G (fun r G'=>Rk E cut wk ts K r G'=some x)):cj E g args G (fun r G'=>K r G'=some x):=
 ⟨h.1,fun R w cs hg hl=>(h.2 R w cs hg hl).mono fun e w' he=>by
  cases e with
  | panicked c=>exact he.elim
  | outgrown=>exact he.elim
  | returned c=>
   obtain ⟨r,G',R1,hq,dM,LN,st⟩:=he
   have fin:∀ (r':AV) (G2:List GO) (R2:ak),K r' G2=some x→cW E R2 w' G2→Rel R2 w' r' c→Ext R1 w' R2 w'→R2.obj=R1.obj→(∀ b o,R2.I b o→R1.I b o∨Live R1 b)→EB E R w (fun r G'=>K r G'=some x) (.returned c) w':=by
    intro r' G2 R2 k1 k2 k3 k4 k5 k6
    have live:∀ b,Live R2 b→Live R1 b:=fun b ⟨id,ro,q1,q2⟩=>⟨id,ro,by rw [← k5]; exact q1,q2⟩
    refine ⟨r',G2,R2,k1,k3,k2,⟨st.ext.trans k4,st.os,st.tape,st.output,st.size,st.bo,fun b hb ho=>?_,fun b o hi hb hn=>?_⟩⟩
    ·rcases ho with ho | ⟨k,cs,hk,rfl⟩
     ·exact st.own b hb (.inl (live b ho))
     ·simp [eu,dc] at hk
    ·rcases k6 b o hi with hi | hi
     ·exact st.im b o hi hb hn
     ·exact absurd (st.own b hb (.inl hi)) hn
   unfold Rk at hq
   split at hq
   ·rename_i rs
    cases dM with
    | bg dM=>
    cases h2:vF E cut wk ts rs G' with
    | mk c' q=>
    obtain ⟨Vk,G2⟩:=q
    rw [h2] at hq
    cases c' with
    | false=>cases hq
    | true=>
     obtain ⟨R2,b1,b2,b3,b4,b5⟩:=tR LN dM h2
     exact fin (.bg Vk) G2 R2 hq b1 (.bg b2) b3 b4 b5
   ·split at hq
    ·rename_i c' r' G2 h2
     cases c' with
     | false=>cases hq
     | true=>
      obtain ⟨R2,b1,b2,b3,b4,b5⟩:=tR LN (.cons dM .nil) h2
      cases b2 with
      | cons b2 _=>exact fin r' G2 R2 hq b1 b2 b3 b4 b5
    ·cases hq⟩
end
end Go.Am
namespace Go.Am
open Go
inductive RP
 | PR (p:aj)
 | map (pe:aj)
 | ep (ps:aH)
def RP.T:RP→Type
 | .PR p=>p.T
 | .map pe=>List pe.T
 | .ep ps=>ps.T
def RP.enc (n:Nat):(p:RP)→p.T→AV
 | .PR p,x=>p.enc x
 | .map _,_=>.map n
 | .ep ps,x=>.ep (ps.enc x)
def RP.Dv:(p:RP)→p.T→List GO
 | .PR _,_=>[]
 | .map pe,(x:List pe.T)=>[.map (ab (x.map pe.enc))]
 | .ep _,_=>[]
def RP.no:RP→Nat
 | .map _=>1
 | _=>0
def rS:List RP→Type
 | []=>Unit
 | [p]=>p.T
 | p :: q :: l=>p.T × rS (q :: l)
def nB:(n:Nat)→(l:List RP)→rS l→List AV
 | _,[],_=>[]
 | n,[p],x=>[p.enc n x]
 | n,p :: q :: l,x=>p.enc n x.1 :: nB (n+p.no) (q :: l) x.2
def gb:(l:List RP)→rS l→List GO
 | [],_=>[]
 | [p],x=>p.Dv x
 | p :: q :: l,x=>p.Dv x.1++gb (q :: l) x.2
structure RF where
 bg:Bool
 l:List RP
def RF.val (f:RF) (n:Nat) (x:rS f.l):AV:=bif f.bg then .bg (nB n f.l x) else dG (nB n f.l x)
def RP.is:RP→AV→Bool
 | .PR p,v=>match p with
  | .fe u=>dE v u
  | _=>true
 | .map _,v=>match v with
  | .map _=>true
  | _=>false
 | .ep _,v=>match v with
  | .ep _=>true
  | _=>false
def Ir:List RP→List AV→Bool
 | [],[]=>true
 | p :: l,v :: vs=>p.is v&&Ir l vs
 | _,_=>false
def RF.args (f:RF) (r:AV):List AV:=bif f.bg then r.Qu else [r]
def RF.yn (f:RF):AV→Bool
 | .bg _=>f.bg
 | _=>!f.bg
def zG (G:List GO) (used:List Nat) (pe:aj) (v:AV):Option (List pe.T):=match v with
 | .map id=>match nth G id with
  | some (.map es)=>bif Lb used id then none else (bif allFit pe.fits (ai es) then some ((ai es).map pe.bi) else none)
  | _=>none
 | _=>none
def EP (ps:aH) (v:AV):Option ps.T:=match v with
 | .ep cs=>ps.dec cs
 | _=>none
def RP.dec (G:List GO) (used:List Nat):(p:RP)→AV→Option p.T
 | .PR p,v=>p.dec v
 | .map pe,v=>zG G used pe v
 | .ep ps,v=>EP ps v
def rT (used:List Nat):AV→List Nat
 | .map id=>id :: used
 | _=>used
def rU (G:List GO):(used:List Nat)→(l:List RP)→List AV→Option (rS l)
 | _,[],vs=>match vs with
  | []=>some ()
  | _=>none
 | u,[p],vs=>match vs with
  | [v]=>p.dec G u v
  | _=>none
 | u,p :: q :: l,vs=>match vs with
  | v :: vs=>(p.dec G u v).bind fun x=>(rU G (rT u v) (q :: l) vs).bind fun y=>some (x,y)
  | []=>none
def RF.dec (f:RF) (G:List GO) (r:AV):Option (rS f.l):=bif f.yn r then rU G [] f.l (f.args r) else none
def RP.under:RP→Bool
 | .PR p=>p.under 0
 | .map pe=>pe.under 0
 | .ep ps=>ps.under 0
def RF.under (f:RF):Bool:=f.l.all RP.under&&(f.bg || Nat.beq f.l.length 1)
def XT:List RF→Type
 | []=>Empty
 | [f]=>rS f.l
 | f :: g :: l=>rS f.l ⊕ XT (g :: l)
def Is (G:List GO) (r:AV):(l:List RF)→Option (XT l)
 | []=>none
 | [f]=>f.dec G r
 | f :: g :: l=>bif f.yn r&&Ir f.l (f.args r) then (f.dec G r).bind fun x=>some (.inl x) else (Is G r (g :: l)).bind fun x=>some (.inr x)
def Un {α:Type} (G:List GO) (K:AV→List GO→α):(l:List RF)→XT l→α
 | [],o=>Empty.rec (fun _=>α) o
 | [f],o=>K (f.val G.length o) (G++gb f.l o)
 | f :: g :: l,o=>Sum.elim (fun v=>K (f.val G.length v) (G++gb f.l v)) (fun o=>Un G K (g :: l) o) o
theorem Bo {α:Type} {G:List GO} {K:AV→List GO→α} {r:AV} {G':List GO}:∀ (l:List RF) (o:XT l),Un G (fun r0 G0=>r=r0∧G'=G0) l o→K r G'=Un G K l o
 | [],o,_=>nomatch o
 | [f],o,h=>by
  have h:r=f.val G.length o∧G'=G++gb f.l o:=h
  rw [h.1,h.2]; rfl
 | f :: g :: l,.inl v,h=>by
  have h:r=f.val G.length v∧G'=G++gb f.l v:=h
  rw [h.1,h.2]; rfl
 | f :: g :: l,.inr o,h=>Bo (g :: l) o h
def vI (E:Env) (g:FuncId) (args:List AV) (outs:List RF) (Q:XT outs→Prop):Prop:=
 ∀ G,cj E g args G (fun r G'=>∃ y,Q y∧Un G (fun r0 G0=>r=r0∧G'=G0) outs y)
section
variable {E:Env} {R R1 R2:ak} {w:World}
theorem cV.PS (m:Mv R R2 0):∀ {es:List (AV × AV)} {l:List AV} {aw:List MapEntry},iY (ai es) l→aB 0 l=true→cV R w es aw→cV R2 w (ab l) aw
 | [],[],[],_,_,_=>trivial
 | [],[],_ :: _,_,_,h=>h.elim
 | [],_ :: _,_,h,_,_=>h.elim
 | (_,_) :: _,[],_,h,_,_=>h.elim
 | (_,_) :: _,_ :: _,[],_,_,h=>h.elim
 | (k,v) :: es,a :: l,en :: aw,hd,hu,h=>by
  obtain ⟨d1,d2⟩:=hd
  simp only [aB,Bool.and_eq_true] at hu
  have hc:=d1.cells rfl
  have hl:[k,v].length=a.cells.length:=hc.length
  cases a with
  | agg cs=>
   match cs,hc,hl with
   | [k',v'],hc,_=>
    have Rg:aB 0 [k',v']=true:=hu.1
    simp only [aB,Bool.and_true,Bool.and_eq_true] at Rg
    exact ⟨(hc.1 _ _ _ h.1).move m Rg.1,(hc.2.1 _ _ _ h.2.1).move m Rg.2,cV.PS m d2 hu.2 h.2.2⟩
   | [],_,hl=>simp [AV.cells] at hl
   | [_],_,hl=>simp [AV.cells] at hl
   | _ :: _ :: _ :: _,_,hl=>simp [AV.cells] at hl
  | _=>simp [AV.cells] at hl
theorem aj.vJ {p:aj} (h:p.under 0=true):∀ l:List p.T,aB 0 (l.map p.enc)=true
 | []=>rfl
 | x :: l=>by
  show ((p.enc x).under 0&&aB 0 (l.map p.enc))=true
  rw [p.cZ x h,aj.vJ h l]
  rfl
def vK (R:ak) (n:Nat) (bs:List Nat):Prop:=∀ k b,nth bs k=some b→nth R.obj (n+k)=some (.bT b)
def EQ (R:ak) (w:World) (gs:List GO) (bs:List Nat):Prop:=∀ k go b,nth gs k=some go→nth bs k=some b→fM R w go (.bT b)
theorem RP.PT (p:RP) (x:p.T):(p.Dv x).length=p.no:=by cases p <;> rfl
theorem It {ps:aH} {v:AV} {y:ps.T} (h:EP ps v=some y):∃ cs,v=.ep cs∧ps.dec cs=some y:=by
 unfold EP at h
 split at h
 ·exact ⟨_,rfl,h⟩
 ·cases h
theorem Gh {G:List GO} {used:List Nat} {pe:aj} {v:AV} {y:List pe.T} (h:zG G used pe v=some y):∃ id es,v=.map id∧nth G id=some (.map es)∧id∉used∧iY (ai es) (y.map pe.enc):=by
 unfold zG at h
 split at h
 ·rename_i id
  split at h
  ·rename_i es G3
   cases hu:Lb used id with
   | true=>rw [hu] at h; cases h
   | false=>
    rw [hu,cond_false] at h
    cases hf:allFit pe.fits (ai es) with
    | false=>rw [hf] at h; cases h
    | true=>
     rw [hf,cond_true] at h
     have hy:=Option.some.inj h
     refine ⟨id,es,rfl,G3,fun hm=>?_,?_⟩
     ·rw [zw.2 hm] at hu; cases hu
     ·rw [← hy]; exact iY.of (fun v hv=>pe.cE hv) hf
  ·cases h
 ·cases h
theorem Dw {used:List Nat} {v:AV} {id:Nat} (h:id∈used):id∈rT used v:=by
 unfold rT
 split
 ·exact List.mem_cons_of_mem _ h
 ·exact h
def zH (R1:ak) (w:World) (used:List Nat) (v:AV) (c:Value) (p:RP) (y:p.T):Prop:=
 ∃ bs:List Nat,bs.length=p.no∧(∀ b∈bs,∃ id,id∉used∧id∈rT used v∧nth R1.obj id=some (.bT b)) ∧
   ∀ (R2:ak) (n:Nat),(∀ b o,R1.I b o→R2.I b o)→vK R2 n bs→Rel R2 w (p.enc n y) c∧EQ R2 w (p.Dv y) bs
theorem Zl {R1 R2:ak} (hI:∀ b o,R1.I b o→R2.I b o):Mv R1 R2 0:=⟨hI,fun _ _ h=>absurd h (Nat.not_lt_zero _)⟩
theorem RP.Rl {used:List Nat} {p:aj} {v:AV} {c:Value} {y:p.T} (hp:p.under 0=true) (hv:Rel R1 w v c) (hd:p.dec v=some y):zH R1 w used v c (.PR p) y:=
 ⟨[],rfl,(fun b hb=>by cases hb),fun R2 n hI _=>⟨Rel.move (Zl hI) (p.cZ y hp) ((p.pn hd).fJ _ _ _ hv),fun k go b h=>by cases k <;> cases h⟩⟩
theorem RP.VN {used:List Nat} {ps:aH} {v:AV} {c:Value} {y:ps.T} (hp:ps.under 0=true) (hv:Rel R1 w v c) (hd:EP ps v=some y):zH R1 w used v c (.ep ps) y:=by
 obtain ⟨cs,rfl,hd⟩:=It hd
 cases hv with
 | ep hc=>
 exact ⟨[],rfl,(fun b hb=>by cases hb),fun R2 n hI _=>⟨.ep (dp.move (Zl hI) ((ps.pn hd).1.Hl hc) (ps.cZ y hp)),fun k go b h=>by cases k <;> cases h⟩⟩
theorem RP.Rm {G1:List GO} (hg:cW E R1 w G1) {used:List Nat} {pe:aj} {v:AV} {c:Value} {y:List pe.T} (hp:pe.under 0=true) (hv:Rel R1 w v c) (hd:zG G1 used pe v=some y):zH R1 w used v c (.map pe) y:=by
 obtain ⟨id,es,rfl,G3,hu,hdl⟩:=Gh hd
 cases hv with
 | map hb=>
 rename_i b
 refine ⟨[b],rfl,fun b' jy=>?_,fun R2 n hI lG=>⟨.map (by have:=lG 0 b rfl; simpa using this),fun k go b' h1 h2=>?_⟩⟩
 ·rw [List.mem_singleton] at jy
  subst jy
  exact ⟨id,hu,List.mem_cons_self,hb⟩
 ·cases k with
  | succ k=>cases h2
  | zero=>
   cases h1; cases h2
   obtain ⟨aw,clock,e1,e2,e3⟩:=hg.obj id _ _ G3 hb
   exact ⟨aw,clock,e1,cV.PS (Zl hI) hdl (aj.vJ hp y) e2,e3⟩
theorem RP.ok {G1:List GO} (hg:cW E R1 w G1) {used:List Nat} {p:RP} {v:AV} {c:Value} {y:p.T} (hp:p.under=true) (hv:Rel R1 w v c) (hd:p.dec G1 used v=some y):zH R1 w used v c p y:=by
 cases p with
 | PR p=>exact RP.Rl hp hv hd
 | ep ps=>exact RP.VN hp hv hd
 | map pe=>exact RP.Rm hg hp hv hd
theorem fu {α:Type} {l r:List α} {i:Nat} (h:i < l.length):nth (l++r) i=nth l i:=by
 rw [aX,aX,List.getElem?_append_left h]
theorem eI {α:Type} {l r:List α} (i:Nat):nth (l++r) (l.length+i)=nth r i:=by
 rw [aX,aX,List.getElem?_append_right (Nat.le_add_right _ _),Nat.add_sub_cancel_left]
theorem oo {α:Type} {l:List α} {i:Nat} {x:α} (h:nth l i=some x):i < l.length:=by
 rw [aX] at h
 exact (List.getElem?_eq_some_iff.1 h).1
theorem RPs.ok {G1:List GO} (hg:cW E R1 w G1):∀ {l:List RP} {used:List Nat} {vs:List AV} {cs:List Value} {y:rS l},l.all RP.under=true→aG R1 w vs cs→rU G1 used l vs=some y →
  ∃ bs:List Nat,bs.length=(gb l y).length∧bs.Nodup∧(∀ b∈bs,∃ id,id∉used∧nth R1.obj id=some (.bT b)) ∧
   ∀ (R2:ak) (n:Nat),(∀ b o,R1.I b o→R2.I b o)→vK R2 n bs→aG R2 w (nB n l y) cs∧EQ R2 w (gb l y) bs
 | [],used,vs,cs,y,_,hv,hd=>by
  cases vs with
  | cons _ _=>cases hd
  | nil=>
  cases hv
  exact ⟨[],rfl,List.nodup_nil,(fun b hb=>by cases hb),fun R2 n _ _=>⟨.nil,fun k go b h=>by simp [gb,nth] at h⟩⟩
 | [p],used,vs,cs,y,hu,hv,hd=>by
  match vs,hv,hd with
  | [],_,hd=>cases hd
  | _ :: _ :: _,_,hd=>cases hd
  | [v],.cons hv .nil,hd=>
  have hu:p.under=true:=by simpa using hu
  obtain ⟨bs,h1,h2,h4⟩:=RP.ok hg hu hv hd
  refine ⟨bs,h1.trans (p.PT y).symm,?_,fun b hb=>let ⟨id,q1,_,q2⟩:=h2 b hb; ⟨id,q1,q2⟩,fun R2 n hI lG=>?_⟩
  ·have:bs.length≤1:=by rw [h1]; cases p <;> simp [RP.no]
   match bs,this with
   | [],_=>exact List.nodup_nil
   | [b],_=>simp
   | _ :: _ :: _,h=>simp at h
  ·obtain ⟨k1,k2⟩:=h4 R2 n hI lG
   exact ⟨.cons k1 .nil,k2⟩
 | p :: q :: l,used,vs,cs,y,hu,hv,hd=>by
  match vs,hv,hd with
  | [],_,hd=>cases hd
  | v :: vs,.cons (c:=c) (cs:=cs) hv VH,hd=>
  simp only [List.all_cons,Bool.and_eq_true] at hu
  obtain ⟨hu1,Uo⟩:=hu
  have Uo:(q :: l).all RP.under=true:=by simpa using Uo
  have hd:((p.dec G1 used v).bind fun x=>(rU G1 (rT used v) (q :: l) vs).bind fun y=>some (x,y))=some y:=hd
  cases hx:p.dec G1 used v with
  | none=>rw [hx] at hd; cases hd
  | some x=>
  rw [hx] at hd
  simp only [Option.bind_some] at hd
  cases hz:rU G1 (rT used v) (q :: l) vs with
  | none=>rw [hz] at hd; cases hd
  | some z=>
  rw [hz] at hd
  simp only [Option.bind_some] at hd
  cases hd
  obtain ⟨bs,h1,h2,h4⟩:=RP.ok hg hu1 hv hx
  obtain ⟨bs',k1,k0,k2,k4⟩:=RPs.ok hg Uo VH hz
  have Cg:bs.length=(p.Dv x).length:=h1.trans (p.PT x).symm
  refine ⟨bs++bs',?_,?_,fun b hb=>?_,fun R2 n hI lG=>?_⟩
  ·show _=(p.Dv x++gb (q :: l) z).length
   rw [List.length_append,List.length_append,Cg,k1]
  ·have GY:bs.Nodup:=by
    have:bs.length≤1:=by rw [h1]; cases p <;> simp [RP.no]
    match bs,this with
    | [],_=>exact List.nodup_nil
    | [b],_=>simp
    | _ :: _ :: _,h=>simp at h
   rw [List.nodup_append]
   refine ⟨GY,k0,fun a ha b hb e=>?_⟩
   subst e
   obtain ⟨id,_,q2,q3⟩:=h2 a ha
   obtain ⟨iN,r1,r2⟩:=k2 a hb
   have:id=iN:=hg.inj id iN _ _ a q3 r2 rfl rfl
   subst this
   exact r1 q2
  ·rcases List.mem_append.1 hb with hb | hb
   ·obtain ⟨id,q1,_,q2⟩:=h2 b hb
    exact ⟨id,q1,q2⟩
   ·obtain ⟨id,q1,q2⟩:=k2 b hb
    exact ⟨id,fun hm=>q1 (Dw hm),q2⟩
  ·have at1:vK R2 n bs:=fun k b hk=>lG k b (by rw [fu (oo hk)]; exact hk)
   have at2:vK R2 (n+p.no) bs':=fun k b hk=>by
    have:=lG (bs.length+k) b (by rw [eI]; exact hk)
    rw [h1] at this
    rw [Nat.add_assoc]; exact this
   obtain ⟨a1,a2⟩:=h4 R2 n hI at1
   obtain ⟨b1,b2⟩:=k4 R2 (n+p.no) hI at2
   refine ⟨.cons a1 b1,fun k go b gC hb=>?_⟩
   change nth (p.Dv x++gb (q :: l) z) k=some go at gC
   rcases Nat.lt_or_ge k bs.length with hk | hk
   ·rw [fu (by rw [← Cg]; exact hk)] at gC
    rw [fu hk] at hb
    exact a2 k go b gC hb
   ·obtain ⟨j,rfl⟩:∃ j,k=bs.length+j:=⟨k - bs.length,by omega⟩
    rw [eI] at hb
    rw [Cg,eI] at gC
    exact b2 j go b gC hb
theorem vL:∀ (l:List RP) (n:Nat) (y:rS l),(nB n l y).length=l.length
 | [],_,_=>rfl
 | [_],_,_=>rfl
 | p :: q :: l,n,y=>by
  show (nB (n+p.no) (q :: l) y.2).length+1=(q :: l).length+1
  rw [vL (q :: l)]
theorem vI.of1 {R0:ak} {w0:World} {f:RF} {G G1:List GO} {r:AV} {c:Value} {y:rS f.l} (hf:f.under=true) (hG:cW E R0 w0 G) (st:Step ⟨R0.I,[]⟩ w0 (fun _=>0) eu R1 w (fun _=>0) eu) (hg:cW E R1 w G1) (dM:Rel R1 w r c) (hd:f.dec G1 r=some y) :
  ∃ R2,Rel R2 w (f.val G.length y) c∧cW E R2 w (G++gb f.l y)∧Step R0 w0 (fun _=>0) eu R2 w (fun _=>0) eu:=by
 unfold RF.under at hf
 rw [Bool.and_eq_true] at hf
 unfold RF.dec at hd
 obtain ⟨ht,hd⟩:f.yn r=true∧rU G1 [] f.l (f.args r)=some y:=by
  cases ht:f.yn r with
  | true=>rw [ht] at hd; exact ⟨rfl,hd⟩
  | false=>rw [ht] at hd; cases hd
 obtain ⟨cs,nY,VO⟩:∃ cs,aG R1 w (f.args r) cs∧∀ R2 (x:rS f.l) n,aG R2 w (nB n f.l x) cs→Rel R2 w (f.val n x) c:=by
  unfold RF.args RF.val
  cases Zm:f.bg with
  | true=>
   have:∃ vs,r=.bg vs:=by
    cases r <;> first | exact ⟨_,rfl⟩ | (simp [RF.yn,Zm] at ht)
   obtain ⟨vs,rfl⟩:=this
   cases dM with
   | bg h=>exact ⟨_,h,fun R2 x n h=>.bg h⟩
  | false=>
   refine ⟨[c],.cons dM .nil,fun R2 x n h=>?_⟩
   simp only [cond_false]
   have hlen:=vL f.l n x
   revert h hlen
   generalize nB n f.l x=l
   intro h hlen
   cases h with
   | cons h _=>exact h
 obtain ⟨bs,h1,h2,h3,h4⟩:=RPs.ok hg hf.1 nY hd
 have iy:∀ b,¬ Own (⟨R0.I,[]⟩:ak) (fun _=>0) eu b:=fun b ho=>by
  obtain ⟨id,ro,q1,_⟩:=dS ho
  simp [nth] at q1
 have mT:∀ b∈bs,w0.heap.size≤b:=fun b hb=>by
  obtain ⟨id,_,hid⟩:=h3 b hb
  rcases Nat.lt_or_ge b w0.heap.size with bP | lM
  ·exact absurd (st.own b bP (.inl ⟨id,_,hid,rfl⟩)) (iy b)
  ·exact lM
 let R2:ak:=⟨R1.I,R0.obj++bs.map RO.bT⟩
 have e:Ext R0 w0 R2 w:=⟨st.ext.I,st.ext.cell,fun id ro h=>⟨ro,by rw [fu (oo h)]; exact h,ca.refl ro⟩,st.ext.lp⟩
 have bo:∀ b,b < w0.heap.size→w.heap[b]?=w0.heap[b]?:=fun b hb=>st.bo b hb (iy b)
 have im:∀ b o,b < w0.heap.size→R1.I b o→R0.I b o:=fun b o hb hi=>st.im b o hi hb (iy b)
 have Zn:∀ {k ro},nth (bs.map RO.bT) k=some ro→∃ b,nth bs k=some b∧ro=.bT b:=fun {k ro} h=>by
  rw [aX,List.getElem?_map] at h
  cases hb:bs[k]? with
  | none=>rw [hb] at h; cases h
  | some b=>rw [hb] at h; exact ⟨b,by rw [aX]; exact hb,(Option.some.inj h).symm⟩
 have lG:vK R2 R0.obj.length bs:=fun k b hk=>by
  show nth (R0.obj++bs.map RO.bT) (R0.obj.length+k)=_
  rw [eI,aX,List.getElem?_map]
  rw [aX] at hk
  rw [hk]; rfl
 obtain ⟨k1,k2⟩:=h4 R2 R0.obj.length (fun _ _ h=>h) lG
 rw [hG.len] at k1
 have hold:∀ id ro,nth R2.obj id=some ro→nth R0.obj id=some ro∨∃ k b,id=R0.obj.length+k∧nth bs k=some b∧ro=.bT b:=fun id ro h=>by
  rcases Nat.lt_or_ge id R0.obj.length with bP | lM
  ·exact .inl (by rw [← fu (r:=bs.map RO.bT) bP]; exact h)
  ·obtain ⟨k,rfl⟩:∃ k,id=R0.obj.length+k:=⟨id - R0.obj.length,by omega⟩
   have h:nth (R0.obj++bs.map RO.bT) (R0.obj.length+k)=some ro:=h
   rw [eI] at h
   obtain ⟨b,q1,q2⟩:=Zn h
   exact .inr ⟨k,b,rfl,q1,q2⟩
 have PU:∀ id ro b,nth R0.obj id=some ro→ro.has b→b < w0.heap.size:=fun id ro b h hb=>by
  have hl:=oo h
  rw [hG.len] at hl
  have gC:nth G id=some G[id]:=by rw [aX]; exact List.getElem?_eq_getElem hl
  exact (hG.obj id _ _ gC h).lt hb
 have Rn:∀ {k b},nth bs k=some b→b∈bs:=fun {k b} h=>by
  rw [aX] at h
  exact List.mem_of_getElem? h
 refine ⟨R2,VO R2 y _ k1,⟨?_,fun id go ro q1 q2=>?_,fun i j ri rj b q1 q2 b1 b2=>?_,hg.wf,fun g cs pt=>(hG.bY g cs pt).mono e,hg.lo⟩,⟨e,st.os,st.tape,st.output,st.size,fun b hb _=>bo b hb,fun b hb ho=>?_,fun b o hi hb _=>im b o hb hi⟩⟩
 ·show (R0.obj++bs.map RO.bT).length=_
  rw [List.length_append,List.length_map,List.length_append,hG.len,h1]
 ·rcases hold id ro q2 with q2 | ⟨k,b,rfl,q3,rfl⟩
  ·have hl:=oo q2
   rw [hG.len] at hl
   rw [fu hl] at q1
   refine (hG.obj id go ro q1 q2).mono e (fun b hb=>bo b ?_) (fun b o hb hi=>im b o ?_ hi)
   ·exact (hG.obj id go ro q1 q2).lt hb
   ·exact (hG.obj id go ro q1 q2).lt hb
  ·rw [hG.len,eI] at q1
   exact k2 k go b q1 q3
 ·rcases hold i ri q1 with q1 | ⟨k,a,rfl,q3,rfl⟩
  ·rcases hold j rj q2 with q2 | ⟨k',a',rfl,q4,rfl⟩
   ·exact hG.inj i j ri rj b q1 q2 b1 b2
   ·have:b=a':=b2
    subst this
    have:=mT _ (Rn q4)
    have:=PU i ri b q1 b1
    omega
  ·have hba:b=a:=b1
   subst hba
   rcases hold j rj q2 with q2 | ⟨k',a',rfl,q4,rfl⟩
   ·have:=mT _ (Rn q3)
    have:=PU j rj b q2 b2
    omega
   ·have:b=a':=b2
    subst this
    have l1:=oo q3
    have l2:=oo q4
    rw [aX] at q3 q4
    have:=(List.getElem?_inj l1 h2).1 (q3.trans q4.symm)
    omega
 ·rcases dS ho with ⟨id,ro,q1,q2⟩
  rcases hold id ro q1 with q1 | ⟨k,a,rfl,q3,rfl⟩
  ·exact .inl ⟨id,ro,q1,q2⟩
  ·have:b=a:=q2
   subst this
   have:=mT _ (Rn q3)
   omega
theorem ER {G1:List GO} {r:AV}:∀ {outs:List RF} {y:XT outs},Is G1 r outs=some y→(∀ f∈outs,f.under=true) →
  ∃ (f:RF) (z:rS f.l),f.under=true∧f.dec G1 r=some z∧∀ {α:Type} (G:List GO) (K:AV→List GO→α),Un G K outs y=K (f.val G.length z) (G++gb f.l z)
 | [],_,h,_=>by cases h
 | [f],y,h,hu=>⟨f,y,hu f (by simp),h,fun _ _=>rfl⟩
 | f :: g :: l,y,h,hu=>by
  simp only [Is] at h
  cases hb:(f.yn r&&Ir f.l (f.args r)) with
  | true=>
   rw [hb] at h
   simp only [cond_true] at h
   cases hx:f.dec G1 r with
   | none=>rw [hx] at h; cases h
   | some x=>
    rw [hx] at h
    cases h
    exact ⟨f,x,hu f (by simp),hx,fun _ _=>rfl⟩
  | false=>
   rw [hb] at h
   simp only [cond_false] at h
   cases hx:Is G1 r (g :: l) with
   | none=>rw [hx] at h; cases h
   | some x=>
    rw [hx] at h
    cases h
    obtain ⟨f',z,k0,k1,k2⟩:=ER hx (fun f hf=>hu f (List.mem_cons_of_mem _ hf))
    exact ⟨f',z,k0,k1,fun G K=>k2 G K⟩
theorem vI.of {g:FuncId} {args:List AV} {outs:List RF} {Q:XT outs→Prop} (hc:aB 0 args=true) (hp:∀ f∈outs,f.under=true)
  (h:cj E g args [] (fun r G'=>∃ y,Is G' r outs=some y∧Q y)):vI E g args outs Q:=fun G=>by
 refine ⟨h.1,fun R w cs hg hl=>?_⟩
 let R0:ak:=⟨R.I,[]⟩
 have m0:Mv R R0 0:=⟨fun _ _ h=>h,fun _ _ h=>absurd h (Nat.not_lt_zero _)⟩
 have K3:cW E R0 w []:=⟨rfl,fun id go ro h1 _=>by simp [nth] at h1,fun i j ri rj b h1=>by simp [R0,nth] at h1,hg.wf,fun g cs pt=>(hg.bY g cs pt).move m0 (b8 _ (E.mJ g cs pt)),hg.lo⟩
 have rD:aG R0 w args cs:=hl.move m0 hc
 refine (h.2 R0 w cs K3 rD).mono fun e w' he=>?_
 cases e with
 | panicked c=>exact he.elim
 | outgrown=>exact he.elim
 | returned c=>
  obtain ⟨r,G',R1,⟨y,hy,hQ⟩,dM,LN,st⟩:=he
  obtain ⟨f,z,hf,hz,gC⟩:=ER hy hp
  obtain ⟨R2,k1,k2,k3⟩:=vI.of1 hf hg st LN dM hz
  refine ⟨_,_,R2,⟨y,hQ,?_⟩,k1,k2,k3⟩
  rw [gC]
  exact ⟨rfl,rfl⟩
end
end Go.Am
namespace Go.Am
open Go
structure aJ where
 ps:aH
 p:aj
 T:ps.T→Option p.T
def an (E:Env) (g:FuncId) (e:aJ):Prop:=∀ x y,e.T x=some y→aS E g (e.ps.enc x) (fun r=>r=e.p.enc y)
inductive XK
 | norm
 | ret
 | ex (id:Nat)
def XK.is:XK→Exit→Bool
 | .norm,.normal=>true
 | .ret,.ret=>true
 | .ex i,.exit j=>Nat.beq i j
 | _,_=>false
def XK.exit:XK→Exit
 | .norm=>.normal
 | .ret=>.ret
 | .ex i=>.exit i
theorem XK.EL {k:XK} {e:Exit} (h:k.is e=true):e=k.exit:=by
 cases k <;> cases e <;> simp_all [XK.is,XK.exit]
def JT:List (XK × cn)→Type
 | []=>Empty
 | [x]=>x.2.ps.T
 | x :: y :: l=>x.2.ps.T ⊕ JT (y :: l)
def kh (s:St):(outs:List (XK × cn))→Exit→St→Option (JT outs)
 | [],_,_=>none
 | [x],e,s'=>bif x.1.is e then x.2.dec s s' else none
 | x :: y :: l,e,s'=>bif x.1.is e then (x.2.dec s s').bind fun v=>some (.inl v) else (kh s (y :: l) e s').bind fun o=>some (.inr o)
def Lc {α:Type} (s:St):(outs:List (XK × cn))→JT outs→(Exit→St→α)→α
 | [],o,_=>Empty.rec (fun _=>α) o
 | [x],o,K=>K x.1.exit (x.2.st s o)
 | x :: y :: l,o,K=>Sum.elim (fun v=>K x.1.exit (x.2.st s v)) (fun o=>Lc s (y :: l) o K) o
inductive cu
 | loop (gh:List (Loc × Nat × TypeId)) (head:cn) (outs:List (XK × cn))
 | join (outs:List (XK × cn))
 | Zo (k:List Bool) (gh:List (Loc × Nat × TypeId)) (head:cn) (outs:List (XK × cn))
 | VP (n:Nat) (a b:cu)
 | lu (gh:List (Loc × Nat × TypeId)) (head:cn) (outs:List (XK × cn))
def Iu (n:Nat):cu→cu
 | .VP m a b=>bif Nat.beq n m then Iu n a else Iu n b
 | c=>c
def az {V X:Type} (rd:V→Option (V ⊕ X)):Nat→V→Option X
 | 0,_=>none
 | n+1,v=>(rd v).bind fun o=>Sum.elim (fun v'=>az rd n v') (fun x=>some x) o
def lu {V X:Type} (rd:(V→Option X)→V→Option X):Nat→V→Option X
 | 0,_=>none
 | n+1,v=>rd (lu rd n) v
structure pG (E:Env) (g:FuncId) where
 f:List AV→List GO→Option (Bool × AV × List GO)
 ok:∀ args G r G',f args G=some (true,r,G')→cj E g args G (fun r' Cj=>r'=r∧Cj=G')
structure Ro (E:Env) (g:FuncId) where
 ps:aH
 outs:List RF
 T:ps.T→Option (XT outs)
 ok:∀ x y,T x=some y→vI E g (ps.enc x) outs (fun z=>z=y)
structure ea where
 D:Gb
 yo:FuncId→Option aJ
 pH:FuncId→Nat→Option cu
 fz:Bool
 N:Nat
 gt:(g:FuncId)→Option (pG D.toEnv g):=fun _=>none
 xt:(g:FuncId)→Option (Ro D.toEnv g):=fun _=>none
def pI {α:Type} (fz:Bool) (s:St) (K:St→α):α:=match fz with
 | true=>Dk s K
 | false=>match s with
  | ⟨sl,bx,G,m,ro,n⟩=>K ⟨sl,bx,G,m,ro,n⟩
theorem cL {α:Type} (fz:Bool) (s:St) (K:St→α):pI fz s K=K s:=by
 cases fz
 ·rfl
 ·exact Gc s K
abbrev nC (X:Type):=FuncId→List AV→List GO→(AV→List GO→Option X)→Option X
abbrev kL (X:Type):=Nat→List AV→List GO→(Bool→List GO→Option X)→Option X
section ev
variable {X:Type}
def zI (E:Env) (s:St) (o:Oper):Option (Int × Nat × (Nat→Oper)):=match o.op with
 | .index t x (.tmp y)=>match bw E s.ae (.tmp y),E.ti t with
  | .v (.int k n),some i=>match i.k with
   | .arr len _ _=>some (n,len,fun j=>{ o with op:=.index t x (.const (.int k j)) })
   | _=>none
  | _,_=>none
 | .indexAddr t x (.tmp y)=>match bw E s.ae (.tmp y),E.ti t with
  | .v (.int k n),some i=>match i.k with
   | .arr len _ _=>match bw E s.ae x with
    | .v (.ep _)=>none
    | _=>some (n,len,fun j=>{ o with op:=.indexAddr t x (.const (.int k j)) })
   | _=>none
  | _,_=>none
 | _=>none
def tS (E:Env) (fz:Bool) (f:FuncId) (g:Nat→Oper) (n:Int) (K:St→Option X) (s:St):Nat→Nat→Option X
 | 0,_=>none
 | m+1,j=>bif decide (n=(j:Int)) then (match ap E f s (g j) with
   | some (c,s')=>bif c then pI fz s' K else none
   | _=>none) else tS E fz f g n K s m (j+1)
def Rp (E:Env) (fz:Bool) (call:nC X) (kw:kL X) (f:FuncId) (o:Oper) (K:St→Option X) (s:St):Option X:=
 match o.op with
 | .call { callee:=.value x,args,.. }=>match bw E s.ae x,kQ E s.ae args.toList with
  | .v (.fn g first cap),some l=>call g (first++l++cap) s.G (fun r G'=>pI fz ((s.bW G').put o.dst (.v r)) K)
  | .v (.yield id),some l=>kw id l s.G (fun b G'=>pI fz ((s.bW G').put o.dst (.v (.bool b))) K)
  | _,_=>none
 | .defer _=>none
 | .next x true=>match Im s o.dst (bw E s.ae x) with
  | some (b,s1,s2)=>bif b then pI fz s1 K else pI fz s2 K
  | none=>none
 | .lookup t m k ok=>match tO E s t (bw E s.ae m) (bw E s.ae k) with
  | some (c,v,b)=>bif c then pI fz (s.put o.dst (.v (if ok then .bg [v,.bool b] else v))) K else none
  | none=>match ap E f s o with
   | some (c,s')=>bif c then pI fz s' K else none
   | _=>none
 | .mapUpdate t m k x=>match o.dst,tP E s t (bw E s.ae m) (bw E s.ae k) (bw E s.ae x) with
  | none,some (c,s')=>bif c then pI fz s' K else none
  | _,_=>none
 | .insert t m k x=>match o.dst,tP E s t (bw E s.ae m) (bw E s.ae k) (bw E s.ae x) with
  | none,some (c,s')=>bif c then pI fz s' K else none
  | _,_=>none
 | .call { callee:=.builtin .append,args,argTypes }=>match fL E f s o with
  | some (c,s')=>bif c then pI fz s' K else none
  | none=>match kQ E s.ae args.toList with
   | some l=>match zC E s o.dst l argTypes.toList with
    | some (b,s1,c,s2)=>bif b then pI fz s1 K else bif c then pI fz s2 K else none
    | none=>match ap E f s o with
     | some (c,s')=>bif c then pI fz s' K else none
     | _=>none
   | none=>none
 | .call { callee:=.builtin .copy,args,argTypes }=>match kQ E s.ae args.toList with
  | some l=>match Ip E s o.dst l argTypes.toList with
   | some (c,s')=>bif c then pI fz s' K else none
   | none=>match ap E f s o with
    | some (c,s')=>bif c then pI fz s' K else none
    | _=>none
  | none=>none
 | _=>match zI E s o with
  | some (n,len,g)=>tS E fz f g n K s len 0
  | none=>match ap E f s o with
   | some (c,s')=>bif c then pI fz s' K else none
   | _=>none
def nD (E:Env) (fz:Bool) (call:nC X) (kw:kL X) (f:FuncId) (ops:List Oper) (o:Oper) (K:St→Option X) (s:St):Option X:=
 match o.guard with
 | none=>Rp E fz call kw f o K s
 | some (j,want)=>match nf ops j with
  | none=>none
  | some d=>match lk s.ae d with
   | .v (.bool b)=>match want with
    | true=>bif b then pI fz (s.put (some d) (.v (.bool true))) (Rp E fz call kw f o K) else pI fz ((s.put (some d) (.v (.bool false))).put o.dst (.v eR)) K
    | false=>bif b then pI fz ((s.put (some d) (.v (.bool true))).put o.dst (.v eR)) K else pI fz (s.put (some d) (.v (.bool false))) (Rp E fz call kw f o K)
   | .v (.bg [])=>pI fz (s.put o.dst (.v eR)) K
   | _=>none
def zJ (E:Env) (fz:Bool) (call:nC X) (kw:kL X) (f:FuncId) (ops:List Oper) (o:Oper) (K:St→Option X) (s:St):Option X:=
 match o.guard,ik E f s o with
 | none,some s'=>pI fz s' K
 | _,_=>nD E fz call kw f ops o K s
noncomputable def LP {X:Type} (l:List Nat) (F:Nat→Option X):Option X:=match l with
 | []=>none
 | i :: r=>@ite _ (∀ j∈r,F j=F i) (Classical.propDecidable _) (F i) none
theorem Gi {X:Type} {l:List Nat} {F:Nat→Option X} {x:X} (h:LP l F=some x):∀ i∈l,F i=some x:=by
 cases l with
 | nil=>cases h
 | cons i r=>
  have h:@ite _ (∀ j∈r,F j=F i) (Classical.propDecidable _) (F i) none=some x:=h
  by_cases hr:∀ j∈r,F j=F i
  ·rw [if_pos hr] at h
   intro j hj
   rcases List.mem_cons.1 hj with rfl | hj
   ·exact h
   ·rw [hr j hj]; exact h
  ·rw [if_neg hr] at h
   cases h
theorem LQ {X:Type} {l:List Nat} {F:Nat→Option X} {x:X} (hl:l≠[]) (h:∀ i∈l,F i=some x):LP l F=some x:=by
 cases l with
 | nil=>exact absurd rfl hl
 | cons i r=>
  show @ite _ (∀ j∈r,F j=F i) (Classical.propDecidable _) (F i) none=some x
  have hr:∀ j∈r,F j=F i:=fun j hj=>by rw [h j (List.mem_cons_of_mem _ hj),h i List.mem_cons_self]
  rw [if_pos hr]
  exact h i List.mem_cons_self
noncomputable def tT (E:Env) (fz:Bool) (call:nC X) (kw:kL X) (f:FuncId) (ops:List Oper) (o:Oper) (K:St→Option X) (s:St):Option X:=
 match o.guard,sw E f s o,rm E s o with
 | none,some (c,s'),_=>bif c then pI fz s' K else none
 | none,none,some (c,s0,left,g)=>bif c then (bif left.isEmpty then pI fz s0 K else LP left fun i=>bif (g i).1 then pI fz (g i).2 K else none) else none
 | _,_,_=>zJ E fz call kw f ops o K s
noncomputable def zK (E:Env) (fz:Bool) (call:nC X) (kw:kL X) (f:FuncId) (ops:List Oper) (o:Oper) (K:St→Option X) (s:St):Option X:=
 match Fz E f s o with
 | some (c,s')=>bif c then tT E fz call kw f ops o K s' else none
 | none=>tT E fz call kw f ops o K s
noncomputable def LR (E:Env) (fz:Bool) (call:nC X) (kw:kL X) (f:FuncId) (ops:List Oper):List Oper→(St→Option X)→St→Option X
 | [],K,s=>K s
 | o :: rest,K,s=>zK E fz call kw f ops o (fun s'=>match xY E f o s' with
  | some s2=>LR E fz call kw f ops rest K s2
  | none=>none) s
def Rq (E:Env) (f:FuncId) (ops:List Oper) (o:Oper) (s:St):Bool:=match o.op,o.dst with
 | .lookup t m k ok,some d=>match Ai ops s o,tO E s t (bw E s.ae m) (bw E s.ae k) with
  | some true,some (c,v,b)=>c&&zt (.v (if ok then .bg [v,.bool b] else v)) (lk s.ae d)
  | _,_=>XE E f ops o s
 | _,_=>XE E f ops o s
def oq (E:Env) (f:FuncId) (ops:List Oper):List Nat→St→Bool
 | [],_=>true
 | k :: l,s=>(match nth ops k with
  | some ok=>Rq E f ops ok s
  | none=>true)&&oq E f ops l s
def oT (E:Env) (fz:Bool) (call:nC X) (kw:kL X) (ej:Option X→Option X→Option X) (f:FuncId) (ops:List Oper):DT→(St→Option X)→St→Option X
 | .done,K,s=>K s
 | .take j _ t,K,s=>match nth ops j with
  | some oj=>nD E fz call kw f ops oj (oT E fz call kw ej f ops t K) s
  | none=>none
 | .br i re _ t .stop,K,s=>match nth ops i with
  | some oi=>nD E fz call kw f ops oi (fun s'=>bif oq E f ops re s' then oT E fz call kw ej f ops t K s' else none) s
  | none=>none
 | .br i re _ t more,K,s=>ej (match nth ops i with
  | some oi=>nD E fz call kw f ops oi (fun s'=>bif oq E f ops re s' then oT E fz call kw ej f ops t K s' else none) s
  | none=>none) (oT E fz call kw ej f ops more K s)
 | .stop,_,_=>none
 | .al j W t,K,s=>match nth ops j with
  | some oj=>bif Q7 E f oj W s then nD E fz call kw f ops oj (oT E fz call kw ej f ops t K) s else none
  | none=>none
end ev
def yp {X:Type} (N:St→Option X) (Q:Exit→St→Option X):Exit→St→Option X
 | .normal,s=>N s
 | e,s=>Q e s
def Iv {X:Type} (id:Nat) (Q:Exit→St→Option X):Exit→St→Option X
 | .exit iN,s=>bif Nat.beq iN id then Q .normal s else Q (.exit iN) s
 | e,s=>Q e s
def Rr {X:Type} (Q:Exit→St→Option X):Exit→St→Option X
 | .goto _,_=>none
 | e,s=>Q e s
def Iw {X:Type} (E:Env) (fn:Func) (K:AV→List GO→Option X):Exit→St→Option X
 | .normal,s | .ret,s=>match nh s.marks s.G with
  | some G=>match HT E (s.bW G) fn with
   | some r=>K r G
   | none=>none
  | none=>none
 | _,_=>none
def sW (s:St) (head:cn) (outs:List (XK × cn)):Exit→St→Option (head.ps.T ⊕ JT outs)
 | .normal,s'=>(head.dec s s').bind fun v=>some (.inl v)
 | e,s'=>(kh s outs e s').bind fun o=>some (.inr o)
noncomputable def Aj {X:Type} (a b:Option X):Option X:=@ite _ (a=b) (Classical.propDecidable _) a none
def sX {X:Type} (ej:Option X→Option X→Option X):Prop:=∀ a b x,ej a b=some x→a=some x∧b=some x
def Dx {X:Type} (id:Nat) (K:Bool→List GO→Option X):Exit→St→Option X:=fun e s=>match nth s.G id with
 | some (.loop _ _ fn sl n ps qx bd d _)=>match e with
  | .normal=>K true (ay s.G id (.loop false none fn sl n ps qx bd d false))
  | .ret=>K false (ay s.G id (.loop false (some .ret) fn sl n ps qx bd d true))
  | .exit i=>K false (ay s.G id (.loop false (some (.exit i)) fn sl n ps qx bd d true))
  | _=>none
 | _=>none
def XL (fp:Nat):Nat:=fp % 4096
def fpP (fp:Nat):Nat:=fp / 4096
abbrev Up:=FuncId→Nat→Code→(X:Type)→(Option X→Option X→Option X)→(Exit→St→Option X)→St→Option X
section
variable (C:ea) (ih:Up)
def Bp {X:Type} (ej:Option X→Option X→Option X):nC X:=fun g args G K=>
 bif C.D.okF g then match C.D.P.funcs[g]? with
   | some fn=>match fn.body with
    | some b => bif !(fn.name == "runtime.NumGoroutine") then ih g 1 b X ej (Iw C.D.toEnv fn (bif C.D.wW g 131072 then Rk C.D.toEnv (C.D.wW g 131073) (C.D.wW g 131074) fn.resultTypes.toList K else K)) (St.init fn.ntmps args G) else none
    | none=>none
   | none=>none
  else none
def Bq {X:Type} (ej:Option X→Option X→Option X):nC X:=fun g args G K=>
 match C.yo g with
 | some e=>(e.ps.dec args).bind fun x=>(e.T x).bind fun y=>K (e.p.enc y) G
 | none=>match C.gt g with
  | some e=>match e.f args G with
   | some (c,r,G')=>bif c then K r G' else none
   | none=>none
  | none=>match C.xt g with
   | some e=>(e.ps.dec args).bind fun x=>(e.T x).bind fun o=>Un G K e.outs o
   | none=>Bp C ih ej g args G K
def LS (n:Nat):List Tmp→Bool
 | []=>true
 | t :: l=>Nat.blt t n&&LS n l
def LU {X:Type} (ej:Option X→Option X→Option X):kL X:=fun id args G K=>match nth G id with
 | some (.loop false _ fp sl n ps qx bd _ false)=>
  bif Nat.beq args.length ps.length&&LS n ps&&bu (C.D.dt (XL fp)) qx&&bu (C.D.dt (XL fp)) bd then
   ih (XL fp) (2 * fpP fp) qx X ej (fun e s1=>match e with
    | .normal=>match nth s1.G id with
     | some (.loop false p fn sl n ps qx Um d false)=>ih (XL fp) (2 * fpP fp+1) bd X ej (Dx id K) (s1.bW (ay s1.G id (.loop true p fn sl n ps qx Um d false)))
     | _=>none
    | _=>none) (St.round id (vD ps args sl) n G)
  else none
 | _=>none
noncomputable def vM (f:FuncId) (p:Nat) (c:Code) (X:Type) (ej:Option X→Option X→Option X) (K:Exit→St→Option X) (s:St):Option X:=
 match c with
 | .skip=>K .normal s
 | .label _=>K .normal s
 | .seq x y=>ih f (2 * p) x X ej (yp (ih f (2 * p+1) y X ej K) K) s
 | .cond c x y=>match bw C.D.toEnv s.ae c with
  | .v (.bool b)=>bif b then ih f (2 * p) x X ej K s else ih f (2 * p+1) y X ej K s
  | _=>none
 | .block id c=>ih f (2 * p) c X ej (Iv id K) s
 | .exit id=>K (.exit id) s
 | .ret=>K .ret s
 | .region _ ops false=>LR C.D.toEnv C.fz (Bq C ih ej) (LU C ih ej) f ops.toList ops.toList (K .normal) s
 | .region id ops true=>match C.D.dt f id with
  | some pl=>oT C.D.toEnv C.fz (Bq C ih ej) (LU C ih ej) ej f ops.toList pl.T (K .normal) s
  | none=>none
 | .scope c=>ih f (2 * p) c X ej (Rr K) s
 | .loop c=>ih f (2 * p) c X ej (yp (ih f p (.loop c) X ej K) K) s
 | .rangeFunc g ps qx bd=>match s.ro with
  | none=>match bw C.D.toEnv s.ae g with
   | .v (.fn h first cap)=>Bq C ih ej h (first++[.yield (s.G.length+1)]++cap) (s.G++[.defers true]++[.loop false none (4096 * p+f) (gk s.ae) s.n ps.toList qx bd s.G.length false])
    (fun _ G'=>match nth G' (s.G.length+1) with
     | some (.loop busy pending _ _ _ _ _ _ _ done)=>bif !busy || done then
       match pending with
       | none=>pI C.fz ⟨s.ae,s.boxes,ay G' (s.G.length+1) .dead,s.G.length :: s.marks,s.ro,s.n⟩ (K .normal)
       | some .ret=>pI C.fz ⟨s.ae,s.boxes,ay G' (s.G.length+1) .dead,s.G.length :: s.marks,s.ro,s.n⟩ (K .ret)
       | some (.exit i)=>pI C.fz ⟨s.ae,s.boxes,ay G' (s.G.length+1) .dead,s.G.length :: s.marks,s.ro,s.n⟩ (K (.exit i))
       | _=>none
      else none
     | _=>none)
   | _=>none
  | some _=>none
 | _=>none
def Dy:List Oper→List Tmp
 | []=>[]
 | o :: l=>match o.dst with
  | some d=>d :: Dy l
  | none=>Dy l
def jN:Code→List Tmp→List Tmp
 | .region _ ops _,r=>Dy ops.toList++r
 | .seq x y,r=>jN x (jN y r)
 | .cond _ x y,r=>jN x (jN y r)
 | .block _ c,r=>jN c r
 | .scope c,r=>jN c r
 | .loop c,r=>jN c r
 | .rangeFunc _ ps a b,r=>ps.toList++jN a (jN b r)
 | _,r=>r
def vN (W:List Tmp) (t:cn):cn:=⟨t.ps,t.sl,W,t.bx,t.g,t.Uk⟩
def qK (W:List Tmp):List (XK × cn)→List (XK × cn)
 | []=>[]
 | (k,t) :: l=>(k,vN W t) :: qK W l
def Ix:Code→Bool
 | .loop _=>true
 | _=>false
noncomputable def VQ {X:Type} (f:FuncId) (p:Nat) (c:Code) (outs:List (XK × cn)) (K:Exit→St→Option X) (s:St):Option X:=
 (vM C ih f p c (JT outs) Aj (kh s outs) s).bind fun o=>Lc s outs o K
noncomputable def PV {X:Type} (f:FuncId) (p:Nat) (b:Code) (s1:St) (head:cn) (outs:List (XK × cn)) (K:Exit→St→Option X):Option X:=
 (head.dec s1 s1).bind fun v0=>(az (fun v=>ih f (2 * p) b (head.ps.T ⊕ JT outs) Aj (sW s1 head outs) (head.st s1 v)) C.N v0).bind fun o=>Lc s1 outs o K
def Iy (s:St) (head:cn) (outs:List (XK × cn)) (k:head.ps.T→Option (JT outs)):Exit→St→Option (JT outs)
 | .normal,s'=>(head.dec s s').bind k
 | e,s'=>kh s outs e s'
noncomputable def Iz {X:Type} (f:FuncId) (p:Nat) (b:Code) (s1:St) (head:cn) (outs:List (XK × cn)) (K:Exit→St→Option X):Option X:=
 (head.dec s1 s1).bind fun v0=>(lu (fun k v=>ih f (2 * p) b (JT outs) Aj (Iy s1 head outs k) (head.st s1 v)) C.N v0).bind fun o=>Lc s1 outs o K
def IA {X:Type} (ej:Option X→Option X→Option X) (f:FuncId) (K:Exit→St→Option X):List Bool→Nat→Code→St→Option X
 | [],_,_,s=>K .normal s
 | true :: k,q,.seq x y,s=>ih f (2 * q) x X ej (yp (IA ej f K k (2 * q+1) y) K) s
 | false :: k,q,.seq x _,s=>IA ej f K k (2 * q) x s
 | _ :: _,_,_,_=>none
def LV {X:Type} (ej:Option X→Option X→Option X) (f:FuncId):List Bool→Nat→Code→(Exit→St→Option X)→St→Option X
 | [],q,c,K,s=>ih f q c X ej K s
 | true :: k,q,.seq _ y,K,s=>LV ej f k (2 * q+1) y K s
 | false :: k,q,.seq x y,K,s=>LV ej f k (2 * q) x (yp (ih f (2 * q+1) y X ej K) K) s
 | _ :: _,_,_,_,_=>none
noncomputable def VR {X:Type} (f:FuncId) (p:Nat) (b:Code) (k:List Bool) (s1:St) (head:cn) (outs:List (XK × cn)) (K:Exit→St→Option X):Option X:=
 ((IA ih Aj f (sW s1 head outs) k (2 * p) b s1).bind fun r0=>
  Sum.elim (fun v0=>az (fun v=>LV ih Aj f k (2 * p) b (yp (IA ih Aj f (sW s1 head outs) k (2 * p) b) (sW s1 head outs)) (head.st s1 v)) C.N v0) (fun x=>some x) r0).bind fun o=>Lc s1 outs o K
noncomputable def vO (f:FuncId) (p:Nat) (c:Code) (X:Type) (ej:Option X→Option X→Option X) (K:Exit→St→Option X) (s:St):Option X:=
 match C.pH f p with
 | none=>vM C ih f p c X ej K s
 | some ct=>match Iu s.G.length ct with
  | .join outs=>bif Ix c then none else VQ C ih f p c (qK (jN c []) outs) K s
  | .loop gh head outs=>match c with
   | .loop b=>match gj gh s with
    | some s1=>PV C ih f p b s1 (vN (jN b []) head) (qK (jN b []) outs) K
    | none=>none
   | _=>none
  | .Zo k gh head outs=>match c with
   | .loop b=>match gj gh s with
    | some s1=>VR C ih f p b k s1 (vN (jN b []) head) (qK (jN b []) outs) K
    | none=>none
   | _=>none
  | .lu gh head outs=>match c with
   | .loop b=>match gj gh s with
    | some s1=>Iz C ih f p b s1 (vN (jN b []) head) (qK (jN b []) outs) K
    | none=>none
   | _=>none
  | .VP _ _ _=>none
end
noncomputable def ev (C:ea):Nat→Up:=Nat.rec (fun _ _ _ _ _ _ _=>none) (fun _ ih=>vO C ih)
end Go.Am
namespace Go.Am
open Go
section ext
variable {E:Env} {f:FuncId} {s s':St} {o:Oper}
theorem aP.put (s:St) (d:Option Tmp) (x:SV):aP s (s.put d x):=by
 cases d with
 | none=>exact aP.refl s
 | some d=>
  simp only [St.put]
  split
  ·exact ⟨⟨[_],rfl⟩,⟨[],rfl⟩,rfl⟩
  ·exact aP.refl s
theorem aP.bW (s:St) (G:List GO):aP s (s.bW G):=⟨⟨[],rfl⟩,⟨[],rfl⟩,rfl⟩
theorem aP.dw (s:St) (o:GO):aP s (s.dw o):=⟨⟨[],rfl⟩,⟨[],rfl⟩,rfl⟩
theorem aP.tf (s:St) (d:Nat) (cs:List AV):aP s (s.tf d cs):=⟨⟨[],rfl⟩,⟨[_],rfl⟩,rfl⟩
theorem aP.kill (s:St) (d:Nat):aP s (s.kill d):=⟨⟨[_],rfl⟩,⟨[],rfl⟩,rfl⟩
theorem Gj {c:Bool} {s':St} (h:fL E f s o=some (c,s')):aP s s':=by
 unfold fL at h
 repeat' (split at h)
 all_goals (first | (cases h; done) | skip)
 all_goals (injection h with h; injection h with _ h; subst h; exact (aP.bW _ _).trans (aP.put _ _ _))
theorem Dz {c:Bool} (h:ap E f s o=some (c,s')):aP s s':=by
 have alloc:∀ {el:TypeId} {cs:List AV} {c:Bool} {s':St},ef E f s o.dst el cs=some (c,s')→aP s s':=by
  intro el cs c s' h
  unfold ef at h
  repeat' (split at h)
  all_goals (first | (cases h; done) | skip)
  ·injection h with h; injection h with _ h; subst h; exact (aP.dw _ _).trans (aP.put _ _ _)
  ·injection h with h; injection h with _ h; subst h; exact ((aP.kill _ _).trans (aP.tf _ _ _)).trans (aP.put _ _ _)
 have store:∀ {t:TypeId} {p x:SV} {s':St},iP E s t p x=some s'→aP s s':=by
  intro t p x s' h
  unfold iP at h
  repeat' (split at h)
  all_goals (first | (cases h; done) | skip)
  all_goals (injection h with h; subst h)
  ·exact aP.tf _ _ _
  ·exact aP.bW _ _
 have C2:∀ {t:TypeId} {p x:SV} {c:Bool} {s':St},iQ E s t p x=some (c,s')→aP s s':=by
  intro t p x c s' h
  unfold iQ at h
  repeat' (split at h)
  all_goals (first | (cases h; done) | skip)
  all_goals (injection h with h; injection h with _ h; subst h)
  all_goals (first | exact aP.bW _ _ | exact store (by assumption))
 have blt:∀ {b:Builtin} {l:List AV} {tys:List TypeId} {c:Bool} {s':St},bJ E s o.dst b l tys=some (c,s')→aP s s':=by
  intro b l tys c s' h
  unfold bJ at h
  repeat' (split at h)
  all_goals (first | (cases h; done) | skip)
  all_goals (injection h with h; injection h with _ h; subst h)
  all_goals (first | exact aP.put _ _ _ | exact (aP.bW _ _).trans (aP.put _ _ _) | exact aP.bW _ _)
 have update:∀ {t:TypeId} {m k x:SV} {s':St},eh E s t m k x=some s'→aP s s':=by
  intro t m k x s' h
  unfold eh at h
  repeat' (split at h)
  all_goals (first | (cases h; done) | skip)
  all_goals (injection h with h; subst h; exact aP.bW _ _)
 have next:∀ {x:SV} {s':St},ko s o.dst x=some s'→aP s s':=by
  intro x s' h
  unfold ko at h
  split at h
  ·split at h
   ·rename_i l pos hg
    cases hb:Nat.blt pos l.length <;> rw [hb] at h <;> simp only [cond_true,cond_false] at h <;> cases h
    ·exact aP.put _ _ _
    ·exact (aP.bW _ _).trans (aP.put _ _ _)
   ·cases h
  ·cases h
 have C3:∀ {t:TypeId} {m k:SV} {c:Bool} {v:AV} {s':St},fj E s t m k=some (c,v,s')→aP s s':=by
  intro t m k c v s' h
  unfold fj at h
  repeat' (split at h)
  all_goals (first | (cases h; done) | skip)
  all_goals (injection h with h; injection h with _ h; injection h with _ h; subst h; exact aP.bW _ _)
 have C4:∀ {m st x:SV} {c:Bool} {s':St},dH s m st x=some (c,s')→aP s s':=by
  intro m st x c s' h
  unfold dH at h
  repeat' (split at h)
  all_goals (first | (cases h; done) | skip)
  all_goals (injection h with h; injection h with _ h; subst h; exact aP.bW _ _)
 unfold ap at h
 repeat' (split at h)
 all_goals (first | (cases h; done) | exact alloc h | exact blt h | (rename_i hf; cases h; exact Gj hf) | skip)
 all_goals (injection h with h; injection h with _ h; subst h)
 all_goals (first | exact aP.put _ _ _ | exact (aP.dw _ _).trans (aP.put _ _ _) | skip)
 all_goals (first | exact C2 (by assumption) | exact update (by assumption) | exact (C3 (by assumption)).trans (aP.put _ _ _) | exact C4 (by assumption) | exact next (by assumption))
theorem cj.fJ {g:FuncId} {args PW:List AV} {G:List GO} {Q:AV→List GO→Prop} (hw:cq args PW) (h:cj E g PW G Q):cj E g args G Q:=
 ⟨h.1,fun R w cs hg hl=>h.2 R w cs hg (hw.rel hl)⟩
theorem Br {K:St→Prop} (h:jh E f o K s):jh E f o (fun s'=>K s'∧aP s s') s:=by
 unfold jh at *
 split
 ·rename_i x args tys ho
  rw [ho] at h
  simp only at h
  split at h
  ·exact h.mono fun r G' hk=>⟨hk,(aP.bW _ _).trans (aP.put _ _ _)⟩
  ·exact h.mono fun r G' hk=>⟨hk,(aP.bW _ _).trans (aP.put _ _ _)⟩
  ·exact h
 ·rename_i ho
  rw [ho] at h
  exact h
 ·rename_i nc nd
  split at h
  ·rename_i ho
   exact absurd ho (nc _ _ _)
  ·exact h.elim
  ·split at h
   ·rename_i c s' hs
    obtain ⟨hc,hk⟩:=h.out
    exact cY.mk hc ⟨hk,Dz hs⟩
   ·exact h.elim
theorem ky {K:St→Prop} {ops:List Oper} (h:b6 E f ops o K s):b6 E f ops o (fun s'=>K s'∧aP s s') s:=by
 unfold b6 at *
 split
 ·rename_i hg
  rw [hg] at h
  exact Br h
 ·rename_i j want hg
  rw [hg] at h
  simp only at h
  split
  ·rename_i hd
   rw [hd] at h
   exact h
  ·rename_i d hd
   rw [hd] at h
   simp only at h
   split
   ·rename_i b hb
    rw [hb] at h
    simp only at h
    refine ⟨fun e=>?_,fun e=>⟨h.2 e,(aP.put _ _ _).trans (aP.put _ _ _)⟩⟩
    exact rO (Br (h.1 e)) fun s' hh=>⟨hh.1,(aP.put _ _ _).trans hh.2⟩
   ·rename_i hb
    rw [hb] at h
    exact ⟨h,aP.put _ _ _⟩
   ·rename_i hb jy
    split at h
    ·rename_i b G5
     exact absurd G5 (hb b)
    ·rename_i G5
     exact absurd G5 jy
    ·exact h
theorem xq {K K':St→Prop} {ops:List Oper} (h:e8 E f ops o K s) (hK:∀ s,K s→K' s):e8 E f ops o K' s:=by
 unfold e8 at *
 split
 ·rename_i s' h1 h2
  rw [h1,h2] at h
  exact hK _ h
 ·rename_i hn
  split at h
  ·rename_i s' h1 h2
   exact absurd h2 (hn s' h1)
  ·exact b7 h hK
theorem tB {s':St} (h:ik E f s o=some s'):aP s s':=by
 unfold ik at h
 repeat' (split at h)
 all_goals (first | (cases h; done) | skip)
 all_goals (injection h with h; subst h; exact (aP.dw _ _).trans (aP.put _ _ _))
theorem zL {K:St→Prop} {ops:List Oper} (h:e8 E f ops o K s):e8 E f ops o (fun s'=>K s'∧aP s s') s:=by
 unfold e8 at *
 split
 ·rename_i s' h1 h2
  rw [h1,h2] at h
  exact ⟨h,tB h2⟩
 ·rename_i hn
  split at h
  ·rename_i s' h1 h2
   exact absurd h2 (hn s' h1)
  ·exact ky h
theorem kM {K K':St→Prop} {ops:List Oper} (h:ey E f ops o K s) (hK:∀ s,K s→K' s):ey E f ops o K' s:=by
 unfold ey at *
 split at h
 ·obtain ⟨h1,h2⟩:=h.out
  exact cY.mk h1 (hK _ h2)
 ·obtain ⟨h1,h2,h3⟩:=h.out
  exact cY.mk h1 ⟨fun e=>hK _ (h2 e),fun i hi=>let ⟨k1,k2⟩:=(h3 i hi).out; cY.mk k1 (hK _ k2)⟩
 ·exact xq h hK
theorem Gk {c:Bool} {s':St} (h:sw E f s o=some (c,s')):aP s s':=by
 unfold sw at h
 repeat' (split at h)
 all_goals (first | (cases h; done) | skip)
 all_goals (injection h with h; injection h with _ h; subst h; exact (aP.bW _ _).trans (aP.put _ _ _))
theorem DA {c:Bool} {s0:St} {left:List Nat} {g:Nat→Bool × St} (h:rm E s o=some (c,s0,left,g)):aP s s0∧∀ i,aP s (g i).2:=by
 unfold rm at h
 split at h
 ·unfold xG at h
  split at h
  ·split at h
   ·split at h
    ·cases h
     exact ⟨aP.put _ _ _,fun i=>(aP.bW _ _).trans (aP.put _ _ _)⟩
    ·cases h
   ·cases h
  ·cases h
 ·cases h
theorem qL {K:St→Prop} {ops:List Oper} (h:ey E f ops o K s):ey E f ops o (fun s'=>K s'∧aP s s') s:=by
 unfold ey at *
 split at h
 ·rename_i hb
  obtain ⟨h1,h2⟩:=h.out
  exact cY.mk h1 ⟨h2,Gk hb⟩
 ·rename_i hb
  obtain ⟨h1,h2,h3⟩:=h.out
  obtain ⟨k1,k2⟩:=DA hb
  exact cY.mk h1 ⟨fun e=>⟨h2 e,k1⟩,fun i hi=>let ⟨q1,q2⟩:=(h3 i hi).out; cY.mk q1 ⟨q2,k2 i⟩⟩
 ·exact zL h
theorem kN {K K':St→Prop} {ops:List Oper} (h:eB E f ops o K s) (hK:∀ s,K s→K' s):eB E f ops o K' s:=by
 unfold eB at *
 split at h
 ·exact ⟨h.1,kM h.2 hK⟩
 ·exact kM h hK
theorem gA {cut wk:Bool}:∀ {l:List Operand} {s s':St} {c:Bool},fW cut wk l s=(c,s')→aP s s'
 | [],s,s',c,h=>by
  simp only [fW] at h
  cases h
  exact aP.refl _
 | .tmp t :: l,s,s',c,h=>by
  unfold fW at h
  split at h
  ·rename_i c1 s1 h1
   cases h2:fW cut wk l s1 with
   | mk c2 s2=>
   rw [h2] at h
   simp only [Prod.mk.injEq] at h
   obtain ⟨_,rfl⟩:=h
   exact (na h1).trans (gA h2)
  ·exact gA h
 | .const _ :: l,s,s',c,h=>gA (l:=l) h
 | .global _ :: l,s,s',c,h=>gA (l:=l) h
 | .func _ :: l,s,s',c,h=>gA (l:=l) h
theorem IB {s s':St} {o:Oper} {c:Bool} (h:Fz E f s o=some (c,s')):aP s s':=by
 unfold Fz at h
 split at h
 ·split at h
  ·injection h with h
   exact gA h
  ·cases h
 ·cases h
theorem zM {K:St→Prop} {ops:List Oper} (h:eB E f ops o K s):eB E f ops o (fun s'=>K s'∧aP s s') s:=by
 unfold eB at *
 split at h
 ·rename_i c s' hz
  exact ⟨h.1,kM (qL h.2) fun s2 h2=>⟨h2.1,(IB hz).trans h2.2⟩⟩
 ·exact qL h
theorem vP {s s':St} {l:Loc} {sz:Nat} {e:TypeId} (h:mY s l sz e=some s'):aP s s':=by
 unfold mY at h
 cases C0:Nat.ble 196608 sz with
 | true=>rw [C0] at h; cases h; exact aP.dw _ _
 | false=>
 rw [C0] at h
 cases l with
 | slot t=>
  simp only at h
  split at h
  ·cases h; exact ⟨⟨[_],rfl⟩,⟨[],rfl⟩,rfl⟩
  ·cases h
 | box k i=>
  simp only at h
  split at h
  ·split at h
   ·cases h; exact ⟨⟨[],rfl⟩,⟨[_],rfl⟩,rfl⟩
   ·cases h
  ·cases h
 | row id i=>
  simp only at h
  split at h
  ·split at h
   ·cases h; exact ⟨⟨[],rfl⟩,⟨[],rfl⟩,rfl⟩
   ·cases h
  ·cases h
theorem mj:∀ {l:List (Loc × Nat × TypeId)} {s s':St},gj l s=some s'→aP s s'
 | [],s,s',h=>by
  simp only [gj] at h
  cases h
  exact aP.refl _
 | (l,sz,e) :: r,s,s',h=>by
  unfold gj at h
  split at h
  ·rename_i s1 h1
   exact (vP h1).trans (mj h)
  ·cases h
theorem nE:∀ {l:List (Loc × Nat × TypeId)} {s:St},aP s (ig l s)
 | [],s=>aP.refl _
 | (l,sz,e) :: r,s=>by
  unfold ig
  split
  ·rename_i s1 h1
   exact (vP h1).trans nE
  ·exact nE
theorem Gl {s s':St} {o:Oper} (h:xY E f o s=some s'):aP s s':=by
 unfold xY at h
 split at h
 ·cases h; exact aP.refl _
 ·split at h
  ·split at h
   ·rename_i hz
    cases h
    exact na hz
   ·cases h
  ·split at h
   ·cases h; exact aP.refl _
   ·split at h
    ·cases h; exact nE
    ·cases h
theorem vQ {K K':St→Prop} {ops:List Oper} (hK:∀ s,K s→K' s):∀ {l:List Oper} {s:St},ng E f ops l K s→ng E f ops l K' s
 | [],s,h=>hK s h
 | _ :: _,_,h=>kN h fun s' h'=>by
  unfold yd at *
  split at h'
  ·exact vQ hK h'
  ·exact h'.elim
theorem vR {K K':St→Prop} {ops:List Oper} (hK:∀ s,K s→K' s) {T:DT} {s:St} (h:q8 E f ops T K s):q8 E f ops T K' s:=
 eF (ops:=⟨ops⟩) hK T s h
theorem yq {K:St→Prop} {ops:List Oper}:∀ {l:List Oper} {s:St},ng E f ops l K s→ng E f ops l (fun s'=>K s'∧aP s s') s
 | [],s,h=>⟨h,aP.refl s⟩
 | o :: l,s,h=>by
  simp only [ng] at *
  refine kN (zM h) fun s' hh=>?_
  obtain ⟨h1,h2⟩:=hh
  unfold yd at *
  split at h1
  ·rename_i s2 hp
   exact vQ (fun s3 h3=>⟨h3.1,(h2.trans (Gl hp)).trans h3.2⟩) (yq h1)
  ·exact h1.elim
theorem qM {K:St→Prop} {ops:List Oper}:∀ {T:DT} {s:St},q8 E f ops T K s→q8 E f ops T (fun s'=>K s'∧aP s s') s
 | .done,s,h=>⟨h,aP.refl s⟩
 | .stop,_,_=>trivial
 | .take j C T,s,h=>by
  unfold q8 at h ⊢
  split
  ·rename_i oj hj
   rw [hj] at h
   exact b7 (ky h) fun s' hh=>vR (fun s2 h2=>⟨h2.1,hh.2.trans h2.2⟩) (qM hh.1)
  ·rename_i hj
   rw [hj] at h
   exact h
 | .al j W T,s,h=>by
  unfold q8 at h ⊢
  split
  ·rename_i oj hj
   rw [hj] at h
   exact ⟨h.1,b7 (ky h.2) fun s' hh=>vR (fun s2 h2=>⟨h2.1,hh.2.trans h2.2⟩) (qM hh.1)⟩
  ·rename_i hj
   rw [hj] at h
   exact h
 | .br i re C T more,s,h=>by
  unfold q8 at h ⊢
  refine ⟨?_,qM h.2⟩
  have h:=h.1
  split
  ·rename_i oj hj
   rw [hj] at h
   exact b7 (ky h) fun s' hh=>⟨hh.1.1,vR (fun s2 h2=>⟨h2.1,hh.2.trans h2.2⟩) (qM hh.1.2)⟩
  ·rename_i hj
   rw [hj] at h
   exact h
end ext
def kO (E:Env) (c:Code) (Q:Exit→St→Prop) (s:St):Prop:=e7 E c (fun e s'=>Q e s'∧aP s s') s
section sound
variable {E:Env} {f:FuncId} {s:St} {X:Type} {fz:Bool} {call:nC X} {kw:kL X} {ej:Option X→Option X→Option X} {x:X}
def mm (E:Env) (call:nC X):Prop:=∀ g args G K x,call g args G K=some x→cj E g args G (fun r G'=>K r G'=some x)
def sY (E:Env) (kw:kL X):Prop:=∀ id args G K x,kw id args G K=some x→jD E id args G (fun b G'=>K b G'=some x)
theorem bf {α:Type} {c:Bool} {a:Option α} {x:α} (h:(bif c then a else none)=some x):c=true∧a=some x:=by
 cases c
 ·cases h
 ·exact ⟨rfl,h⟩
theorem bind_some {α β:Type} {a:Option α} {k:α→Option β} {x:β} (h:a.bind k=some x):∃ y,a=some y∧k y=some x:=by
 cases a with
 | none=>cases h
 | some y=>exact ⟨y,rfl,h⟩
theorem Gm {o:Oper} {n:Int} {len:Nat} {g:Nat→Oper} (h:zI E s o=some (n,len,g)) {j:Nat} (hj:n=(j:Int)):ap E f s (g j)=ap E f s o:=by
 subst hj
 unfold zI at h
 have FG:∀ k:IntKind,bw E s.ae (.const (.int k (j:Int)))=.v (.int k j):=fun k=>rfl
 split at h
 ·rename_i t x y ho
  split at h
  ·rename_i k n i h1 h2
   split at h
   ·injection h with h; injection h with e1 h; injection h with e2 h
    subst h; subst e1
    simp only [ap,ho,FG,h1]
   ·cases h
  ·cases h
 ·rename_i t x y ho
  split at h
  ·rename_i k n i h1 h2
   split at h
   ·split at h
    ·cases h
    ·injection h with h; injection h with e1 h; injection h with e2 h
     subst h; subst e1
     simp only [ap,ho,FG,h1]
   ·cases h
  ·cases h
 ·cases h
theorem oX {o:Oper} {n:Int} {len:Nat} {g:Nat→Oper} (hi:zI E s o=some (n,len,g)) {K:St→Option X}:∀ (m j:Nat),tS E fz f g n K s m j=some x→∃ c s',ap E f s o=some (c,s')∧c=true∧K s'=some x
 | 0,_,h=>by cases h
 | m+1,j,h=>by
  unfold tS at h
  by_cases hn:n=(j:Int)
  ·rw [decide_eq_true hn,cond_true,Gm hi hn] at h
   split at h
   ·rename_i c s' hs
    obtain ⟨h1,h2⟩:=bf h
    rw [cL] at h2
    exact ⟨c,s',hs,h1,h2⟩
   ·cases h
  ·rw [decide_eq_false hn,cond_false] at h
   exact oX hi m (j+1) h
theorem vS {ops:List Oper} {o:Oper} (h:Rq E f ops o s=true):Db E f ops o s:=by
 unfold Rq at h
 split at h
 ·rename_i t m k ok d ho hd
  split at h
  ·rename_i c v b hg hs
   rw [Bool.and_eq_true] at h
   obtain ⟨rfl,h⟩:=h
   have hn:=qH hs
   unfold Db
   rw [hg]
   simp only
   have e:ap E f s o=some (true,s.put o.dst (.v (if ok then .bg [v,.bool b] else v))):=by simp only [ap,ho,hn]
   rw [hd] at e
   rw [hd,e]
   refine ⟨rfl,?_⟩
   unfold St.put
   simp only
   split
   ·rw [ax]
    exact yk h
   ·rfl
  ·exact yl h
 ·exact yl h
theorem oY {ops:List Oper}:∀ {l:List Nat} {s:St},oq E f ops l s=true→yh E f ops l s
 | [],_,_=>trivial
 | k :: l,s,h=>by
  unfold oq at h
  unfold yh
  rw [Bool.and_eq_true] at h
  refine ⟨?_,oY h.2⟩
  have h:=h.1
  split at h
  ·rename_i hk
   first
    | exact vS h
    | rw [hk]; exact vS h
  ·rename_i hk
   first
    | trivial
    | rw [hk]; trivial
theorem rV (hc:mm E call) (hr:sY E kw) {o:Oper} {K:St→Option X} (h:Rp E fz call kw f o K s=some x):jh E f o (fun s=>K s=some x) s:=by
 unfold jh
 split
 ·rename_i y args tys ho
  unfold Rp at h
  rw [ho] at h
  simp only at h
  split at h
  ·rename_i h1 h2
   rw [h1,h2]
   refine (hc _ _ _ _ _ h).mono fun r G' hk=>?_
   rw [cL] at hk
   exact hk
  ·rename_i h1 h2
   rw [h1,h2]
   refine (hr _ _ _ _ _ h).mono fun r G' hk=>?_
   rw [cL] at hk
   exact hk
  ·cases h
 ·rename_i ho
  unfold Rp at h
  rw [ho] at h
  cases h
 ·rename_i nc nd
  unfold Rp at h
  split at h
  ·rename_i ho
   exact absurd ho (nc _ _ _)
  ·cases h
  ·rename_i y ho
   split at h
   ·rename_i b s1 s2 hs
    have hn:=Dt hs
    have e:ap E f s o=some (true,bif b then s1 else s2):=by simp only [ap,ho,hn]
    rw [e]
    refine cY.mk rfl ?_
    rw [cL,cL] at h
    cases b <;> exact h
   ·cases h
  ·rename_i t m k ok ho
   split at h
   ·rename_i c v b hs
    obtain ⟨h1,h2⟩:=bf h
    subst h1
    rw [cL] at h2
    have hn:=qH hs
    have e:ap E f s o=some (true,s.put o.dst (.v (if ok then .bg [v,.bool b] else v))):=by simp only [ap,ho,hn]
    rw [e]
    exact cY.mk rfl h2
   ·split at h
    ·rename_i c s' hs
     obtain ⟨h1,h2⟩:=bf h
     rw [cL] at h2
     rw [hs]
     exact cY.mk h1 h2
    ·cases h
  ·rename_i t m k z ho
   split at h
   ·rename_i c s' hd hs
    obtain ⟨h1,h2⟩:=bf h
    subst h1
    rw [cL] at h2
    have hn:=qI hs
    have e:ap E f s o=some (true,s'):=by simp only [ap,ho,hd,hn]
    rw [e]
    exact cY.mk rfl h2
   ·cases h
  ·rename_i t m k z ho
   split at h
   ·rename_i c s' hd hs
    obtain ⟨h1,h2⟩:=bf h
    subst h1
    rw [cL] at h2
    have hn:=qI hs
    have e:ap E f s o=some (true,s'):=by simp only [ap,ho,hd,hn]
    rw [e]
    exact cY.mk rfl h2
   ·cases h
  ·rename_i args tys ho
   split at h
   ·rename_i c s' hf
    obtain ⟨h1,h2⟩:=bf h
    rw [cL] at h2
    have e:ap E f s o=some (c,s'):=by simp only [ap,ho,hf]
    rw [e]
    exact cY.mk h1 h2
   ·rename_i hf
    split at h
    ·rename_i l hl
     split at h
     ·rename_i b s1 c s2 hs
      have Cf:b=false→c=true:=fun e=>by subst e; exact (bf (show (bif c then pI fz s2 K else none)=some x from h)).1
      have hn:=zF hs Cf
      have e:ap E f s o=some (true,bif b then s1 else s2):=by simp only [ap,ho,hf,hl,hn]
      rw [e]
      refine cY.mk rfl ?_
      cases b with
      | true=>
       show K s1=some x
       rw [← cL fz s1 K]
       exact h
      | false=>
       obtain ⟨h1,h2⟩:=bf (show (bif c then pI fz s2 K else none)=some x from h)
       rw [cL] at h2
       exact h2
     ·split at h
      ·rename_i c s' hs
       obtain ⟨h1,h2⟩:=bf h
       rw [cL] at h2
       rw [hs]
       exact cY.mk h1 h2
      ·cases h
    ·cases h
  ·rename_i args tys ho
   split at h
   ·rename_i l hl
    split at h
    ·rename_i c s' hs
     obtain ⟨h1,h2⟩:=bf h
     subst h1
     rw [cL] at h2
     have hn:=Du hs
     have hf:fL E f s o=none:=by
      cases hf:fL E f s o with
      | none=>rfl
      | some r=>
       obtain ⟨_,_,h2⟩:=lZ hf
       rw [ho] at h2
       cases h2
     have e:ap E f s o=some (true,s'):=by simp only [ap,ho,hf,hl,hn]
     rw [e]
     exact cY.mk rfl h2
    ·split at h
     ·rename_i c s' hs
      obtain ⟨h1,h2⟩:=bf h
      rw [cL] at h2
      rw [hs]
      exact cY.mk h1 h2
     ·cases h
   ·cases h
  ·split at h
   ·rename_i n len g hi
    obtain ⟨c,s',hs,h1,h2⟩:=oX hi _ _ h
    rw [hs]
    exact cY.mk h1 h2
   ·split at h
    ·rename_i c s' hs
     obtain ⟨h1,h2⟩:=bf h
     rw [cL] at h2
     rw [hs]
     exact cY.mk h1 h2
    ·cases h
theorem jk (hc:mm E call) (hr:sY E kw) {ops:List Oper} {o:Oper} {K:St→Option X} (h:nD E fz call kw f ops o K s=some x):b6 E f ops o (fun s=>K s=some x) s:=by
 unfold nD at h
 unfold b6
 split at h
 ·rename_i hg
  rw [hg]
  exact rV hc hr h
 ·rename_i j want hg
  rw [hg]
  simp only
  split at h
  ·cases h
  ·rename_i d hd
   rw [hd]
   simp only
   split at h
   ·rename_i b hb
    rw [hb]
    simp only
    cases want with
    | true=>
     simp only at h
     rw [cL,cL] at h
     refine ⟨fun e=>?_,fun e=>?_⟩
     ·subst e
      exact rV hc hr h
     ·have e:b=false:=by simpa using e
      subst e
      exact h
    | false=>
     simp only at h
     rw [cL,cL] at h
     refine ⟨fun e=>?_,fun e=>?_⟩
     ·subst e
      exact rV hc hr h
     ·have e:b=true:=by simpa using e
      subst e
      exact h
   ·rename_i hb
    rw [hb]
    rw [cL] at h
    exact h
   ·cases h
theorem xr (hc:mm E call) (hr:sY E kw) {ops:List Oper} {o:Oper} {K:St→Option X} (h:zJ E fz call kw f ops o K s=some x):e8 E f ops o (fun s=>K s=some x) s:=by
 unfold zJ at h
 unfold e8
 split at h
 ·rename_i s' h1 h2
  rw [h1,h2]
  rw [cL] at h
  exact h
 ·rename_i hn
  split
  ·rename_i s' h1 h2
   exact absurd h2 (hn s' h1)
  ·exact jk hc hr h
theorem oZ (hc:mm E call) (hr:sY E kw) {ops:List Oper} {o:Oper} {K:St→Option X} (h:tT E fz call kw f ops o K s=some x):ey E f ops o (fun s=>K s=some x) s:=by
 unfold tT at h
 unfold ey
 split at h
 ·rename_i c s' h1 h2
  rw [h1,h2]
  obtain ⟨q1,q2⟩:=bf h
  rw [cL] at q2
  exact cY.mk q1 q2
 ·rename_i c s0 left g h1 h2 h3
  rw [h1,h2,h3]
  obtain ⟨q1,q2⟩:=bf h
  refine cY.mk q1 ?_
  cases left with
  | nil=>
   simp only [List.isEmpty_nil,cond_true,cL] at q2
   exact ⟨fun _=>q2,fun i hi=>by simp at hi⟩
  | cons i0 l=>
   simp only [List.isEmpty_cons,cond_false] at q2
   refine ⟨fun e=>(by cases e),fun i hi=>?_⟩
   obtain ⟨r1,r2⟩:=bf (Gi q2 i hi)
   rw [cL] at r2
   exact cY.mk r1 r2
 ·rename_i GY hn2
  split
  ·rename_i c s' h1 h2
   first
    | exact absurd h2 (GY c s' h1)
    | exact absurd h2 (hn2 c s' h1)
  ·rename_i c s0 left g h1 h2 h3
   first
    | exact absurd h3 (hn2 c s0 left g h1 h2)
    | exact absurd h3 (GY c s0 left g h1 h2)
  ·exact xr hc hr h
theorem xu (hc:mm E call) (hr:sY E kw) {ops:List Oper} {o:Oper} {K:St→Option X} (h:zK E fz call kw f ops o K s=some x):eB E f ops o (fun s=>K s=some x) s:=by
 unfold zK at h
 unfold eB
 split at h
 ·rename_i c s' hz
  rw [hz]
  obtain ⟨h1,h2⟩:=bf h
  exact ⟨h1,oZ hc hr h2⟩
 ·rename_i hz
  rw [hz]
  exact oZ hc hr h
theorem vT (hc:mm E call) (hr:sY E kw) {ops:List Oper}:∀ {l:List Oper} {K:St→Option X} {s:St},LR E fz call kw f ops l K s=some x→ng E f ops l (fun s=>K s=some x) s
 | [],_,_,h=>h
 | o :: l,K,s,h=>by
  unfold LR at h
  unfold ng
  refine kN (xu hc hr h) fun s' h'=>?_
  unfold yd
  split at h'
  ·rename_i s2 hp
   rw [hp]
   exact vT hc hr h'
  ·cases h'
theorem iG (hc:mm E call) (hr:sY E kw) (hm:sX ej) {ops:List Oper}:∀ {T:DT} {K:St→Option X} {s:St} {x:X},oT E fz call kw ej f ops T K s=some x→q8 E f ops T (fun s=>K s=some x) s
 | .done,_,_,_,h=>h
 | .stop,_,_,_,_=>trivial
 | .take j C T,K,s,x,h=>by
  unfold oT at h
  unfold q8
  split at h
  ·rename_i hk
   rw [hk]
   exact b7 (jk hc hr h) fun s' h'=>iG hc hr hm h'
  ·cases h
 | .al j W T,K,s,x,h=>by
  unfold oT at h
  unfold q8
  split at h
  ·rename_i hk
   obtain ⟨h1,h2⟩:=bf h
   rw [hk]
   exact ⟨h1,b7 (jk hc hr h2) fun s' h'=>iG hc hr hm h'⟩
  ·cases h
 | .br i re C T more,K,s,x,h=>by
  have first:∀ {x:X},(match nth ops i with
   | some oi=>nD E fz call kw f ops oi (fun s'=>bif oq E f ops re s' then oT E fz call kw ej f ops T K s' else none) s
   | none=>none)=some x→(match nth ops i with
   | some oi=>b6 E f ops oi (fun s'=>yh E f ops re s'∧q8 E f ops T (fun s=>K s=some x) s') s
   | none=>False):=by
   intro x h
   split at h
   ·rename_i hk
    refine b7 (jk hc hr h) fun s' h'=>?_
    obtain ⟨h1,h2⟩:=bf h'
    exact ⟨oY h1,iG hc hr hm h2⟩
   ·cases h
  unfold q8
  cases more with
  | stop=>exact ⟨first h,trivial⟩
  | done=>obtain ⟨h1,h2⟩:=hm _ _ _ h; exact ⟨first h1,iG (T:=.done) hc hr hm h2⟩
  | take a b c=>obtain ⟨h1,h2⟩:=hm _ _ _ h; exact ⟨first h1,iG hc hr hm h2⟩
  | br a b c d e=>obtain ⟨h1,h2⟩:=hm _ _ _ h; exact ⟨first h1,iG hc hr hm h2⟩
  | al a b c=>obtain ⟨h1,h2⟩:=hm _ _ _ h; exact ⟨first h1,iG hc hr hm h2⟩
end sound
end Go.Am
