/- The abstract machine: maps and ranges over strings on values with leaves. -/
import Derived.Test.YtldcljfjjoidhaaGreatDoorAmKI
set_option linter.all false
namespace Go.Am
open Go
def Iw (s:St) (dst:Option Tmp) (x:SV):Option (Bool × St × St):=match x with
 | .v (.ptr id 0)=>match nth s.G id with
  | some (.fG l pos)=>some (Nat.blt pos l.length,(s.bW (aA s.G id (.fG l (pos+(oe l pos).2)))).put dst (.v (.bf [.bool true,.int .i64 pos,.int .i32 (oe l pos).1])),s.put dst (.v (.bf [.bool false])))
  | _=>none
 | _=>none
theorem DG {s:St} {dst:Option Tmp} {x:SV} {b:Bool} {s1 s2:St} (h:Iw s dst x=some (b,s1,s2)):kw s dst x=some (bif b then s1 else s2):=by
 unfold Iw at h
 split at h
 ·split at h
  ·rename_i l pos hg
   cases h
   simp only [kw,hg]
   cases Nat.blt pos l.length <;> rfl
  ·cases h
 ·cases h
theorem EX {e:EK} {k:AV}:∀ {es:List (AV × AV)},eB e k es=true→hJ e k es=some (eC e k es)
 | [],_=>rfl
 | (k',v) :: l,h=>by
  simp only [eB,Bool.and_eq_true] at h
  obtain ⟨b,hb⟩:=Option.isSome_iff_exists.1 h.1
  simp only [hJ,eC,tU,hb]
  cases b
  ·simp only [cond_false]; exact EX h.2
  ·rfl
theorem Ix {e:EK} {k v:AV}:∀ {es:List (AV × AV)},eB e k es=true→rC e k v es=some (dE e k v es)
 | [],_=>rfl
 | (k',v') :: l,h=>by
  simp only [eB,Bool.and_eq_true] at h
  obtain ⟨b,hb⟩:=Option.isSome_iff_exists.1 h.1
  simp only [rC,dE,tU,hb]
  cases b
  ·simp only [cond_false,Ix h.2]
  ·rfl
mutual
def aj.flat:aj→Bool
 | .int _=>true
 | .bool=>true
 | .str=>true
 | .agg ps=>ps.flat
 | .ba _ _ p=>p.flat
 | _=>false
def aJ.flat:aJ→Bool
 | .nil=>true
 | .cons p ps=>p.flat&&ps.flat
end
theorem BG {α:Type} {f:AV→Bool} {d:AV→α} {g:α→AV} (h:∀ a,f a=true→g (d a)=a):∀ {es:List AV},allFit f es=true→(es.map d).map g=es
 | [],_=>rfl
 | a :: l,hl=>by
  simp only [allFit,Bool.and_eq_true] at hl
  rw [List.map_cons,List.map_cons,h a hl.1,BG h hl.2]
mutual
theorem aj.iL:∀ {p:aj},p.flat=true→∀ {a:AV},p.fits a=true→p.enc (p.bn a)=a
 | .int k,_,a,h=>by
  cases a <;> first | (cases h; done) | skip
  have hk:QQ _ _=true:=h
  rw [CE hk]; rfl
 | .bool,_,a,h=>by cases a <;> first | (cases h; done) | rfl
 | .str,_,a,h=>by cases a <;> first | (cases h; done) | rfl
 | .agg ps,hp,a,h=>by
  cases a <;> first | (cases h; done) | skip
  exact congrArg AV.agg (aJ.iL (ps:=ps) hp h)
 | .bf _,hp,_,_=>by cases hp
 | .list _ _,hp,_,_=>by cases hp
 | .own _ _ _,hp,_,_=>by cases hp
 | .ba id sz p,hp,a,h=>by
  cases a <;> first | (cases h; done) | skip
  rename_i k bI es
  cases k <;> first | (cases h; done) | skip
  rename_i iS j
  simp only [aj.fits,Bool.and_eq_true] at h
  have e1:=Nat.eq_of_beq_eq_true h.1.1
  have e2:=Nat.eq_of_beq_eq_true h.1.2
  subst e1 e2
  have hp:p.flat=true:=hp
  show AV.list (.ba id j) sz ((es.map p.bn).map p.enc)=_
  rw [BG (fun a ha=>aj.iL hp ha) h.2]
 | .fk _,hp,_,_=>by cases hp
 | .two _ _,hp,_,_=>by cases hp
theorem aJ.iL:∀ {ps:aJ},ps.flat=true→∀ {l:List AV},ps.fits l=true→ps.enc (ps.bn l)=l
 | .nil,_,l,h=>by
  cases l with
  | nil=>rfl
  | cons _ _=>cases h
 | .cons p .nil,hp,l,h=>by
  simp only [aJ.flat,Bool.and_eq_true] at hp
  cases l with
  | nil=>cases h
  | cons a l=>
   simp only [aJ.fits,Bool.and_eq_true] at h
   cases l with
   | nil=>exact congrArg (fun x=>[x]) (aj.iL hp.1 h.1)
   | cons _ _=>cases h.2
 | .cons p (.cons q ps),hp,l,h=>by
  rw [aJ.flat,Bool.and_eq_true] at hp
  cases l with
  | nil=>cases h
  | cons a l=>
   rw [aJ.fits,Bool.and_eq_true] at h
   have h1:=aj.iL hp.1 h.1
   have h2:=aJ.iL (ps:=.cons q ps) hp.2 h.2
   show p.enc (p.bn a) :: (aJ.cons q ps).enc ((aJ.cons q ps).bn l)=a :: l
   rw [h1,h2]
end
def uc (E:Env) (s:St) (t:TypeId) (m k:SV):Option (Bool × AV × Bool):=match PS E s.G t,E.ti t,mapOf s m,k with
 | some p,some i,some es,.v k=>match i.k with
  | .map kt _ (some z)=>match E.ti kt with
   | some j=>if j.ek.plain&&gI j.ek k&&p.flat then
     some (eB j.ek k es&&p.fits (cg j.ek k (AL E s.G t z) es),p.enc (p.bn (cg j.ek k (AL E s.G t z) es)),(eC j.ek k es).isSome)
    else none
   | none=>none
  | _=>none
 | _,_,_,_=>none
theorem qL {E:Env} {s:St} {t:TypeId} {m k:SV} {v:AV} {b:Bool} (h:uc E s t m k=some (true,v,b)):kv E s t m k=some (v,b):=by
 unfold uc at h
 split at h
 ·rename_i p i es k h1 h2 h3
  split at h
  ·rename_i kt et z hk
   split at h
   ·rename_i j hj
    split at h
    ·rename_i hc
     simp only [Bool.and_eq_true] at hc
     injection h with h
     injection h with h4 h
     injection h with h5 h6
     rw [Bool.and_eq_true] at h4
     rw [aj.iL hc.2 h4.2] at h5
     have e:hJ j.ek k es=some (eC j.ek k es):=EX h4.1
     have tA:(j.ek.plain&&gI j.ek k)=true:=by rw [hc.1.1,hc.1.2]; rfl
     have e0:iy E s t m (.v k)=some ((eC j.ek k es).getD z,(eC j.ek k es).isSome):=by
      simp only [iy,h2,h3,hk,hj,tA,if_true,e]
      cases eC j.ek k es <;> rfl
     unfold kv
     rw [e0]
     unfold cg at h5
     cases hg:eC j.ek k es with
     | none=>
      rw [hg] at h5 h6
      subst h5 h6
      rfl
     | some v'=>
      rw [hg] at h5 h6
      subst h5 h6
      rfl
    ·cases h
   ·cases h
  ·cases h
 ·cases h
def uf (E:Env) (s:St) (t:TypeId) (m k x:SV):Option (Bool × St):=match E.ti t,m,k,x with
 | some i,.v (.map id),.v k,.v x=>match i.k,nth s.G id with
  | .map kt _ _,some (.map es)=>match E.ti kt with
   | some j=>if j.ek.plain&&gI j.ek k then some (eB j.ek k es,s.bW (aA s.G id (.map (dE j.ek k x es)))) else none
   | none=>none
  | _,_=>none
 | _,_,_,_=>none
theorem qM {E:Env} {s s':St} {t:TypeId} {m k x:SV} (h:uf E s t m k x=some (true,s')):eu E s t m k x=some s':=by
 unfold uf at h
 split at h
 ·rename_i i id k x h1
  split at h
  ·rename_i kt _ _ es hk hg
   split at h
   ·rename_i j hj
    split at h
    ·rename_i hc
     injection h with h
     injection h with h4 h5
     simp only [eu,h1,hk,hg,hj,hc,if_true,Ix h4,h5]
    ·cases h
   ·cases h
  ·cases h
 ·cases h
def Iy (E:Env) (s:St) (dst:Option Tmp) (l:List AV) (tys:List TypeId):Option (Bool × St):=match l,tys with
 | [.jh id off sz len _,.str bs],t :: _=>match E.ti t,nth s.G id with
  | some i,some (.row cs el)=>match i.k with
   | .sl _ esz _ _ _=>if Nat.beq sz esz&&Nat.beq esz 1 then
     some (Nat.ble (off+(bs.take (Nat.min bs.length len)).length) cs.length,
      (s.bW (aA s.G id (.row (a7 cs off ((bs.take (Nat.min bs.length len)).map qc)) el))).put dst (.v (.int .i64 (Nat.min bs.length len))))
    else none
   | _=>none
  | _,_=>none
 | [.jh id off sz len _,.list _ bI es],t :: _=>match E.ti t,nth s.G id with
  | some i,some (.row cs el)=>match i.k with
   | .sl _ esz _ _ _=>if Nat.beq sz esz&&Nat.beq bI esz then
     some (Nat.ble (off+(ar (es.take (Nat.min es.length len))).length) cs.length,
      (s.bW (aA s.G id (.row (a7 cs off (ar (es.take (Nat.min es.length len)))) el))).put dst (.v (.int .i64 (Nat.min es.length len))))
    else none
   | _=>none
  | _,_=>none
 | [.dA id f off sz len,.list _ bI xs],t :: _=>match E.ti t,nth s.G id with
  | some i,some (.cS es Yc el)=>match i.k with
   | .sl _ esz _ _ _=>if Nat.beq sz esz&&Nat.beq Yc sz&&Nat.beq bI esz then
     some (decide (f=es.length)&&decide (off+Nat.min xs.length len≤es.length),
      (s.bW (aA s.G id (.cS (a7 es off (xs.take (Nat.min xs.length len))) Yc el))).put dst (.v (.int .i64 (Nat.min xs.length len))))
    else none
   | _=>none
  | _,_=>none
 | _,_=>none
theorem DH {E:Env} {s s':St} {dst:Option Tmp} {l:List AV} {tys:List TypeId} (h:Iy E s dst l tys=some (true,s')):bN E s dst .copy l tys=some (true,s'):=by
 unfold Iy at h
 split at h
 ·rename_i id off sz len cap bs t ts
  split at h
  ·rename_i i cs el hi hid
   split at h
   ·rename_i a1 esz a2 a3 a4 hk
    split at h
    ·rename_i hc
     rw [Bool.and_eq_true] at hc
     injection h with h
     injection h with h1 h2
     have uA:(Nat.beq esz 1&&Nat.ble (off+(bs.take (Nat.min bs.length len)).length) cs.length)=true:=by rw [hc.2,h1]; rfl
     simp only [bN,hi,hk,qd,hid,hc.1,if_true,uA,h2]
    ·cases h
   ·cases h
  ·cases h
 ·rename_i id off sz len cap k bI es t ts
  split at h
  ·rename_i i cs el hi hid
   split at h
   ·rename_i a1 esz a2 a3 a4 hk
    split at h
    ·rename_i hc
     rw [Bool.and_eq_true] at hc
     injection h with h
     injection h with h1 h2
     have e2:(Nat.beq bI esz || es.isEmpty)=true:=by rw [hc.2]; rfl
     simp only [bN,hi,hk,qd,hid,hc.1,if_true,e2,h1,h2]
    ·cases h
   ·cases h
  ·cases h
 ·rename_i id f off sz len k bI xs t ts
  split at h
  ·rename_i i es Yc el hi hid
   split at h
   ·rename_i a1 esz a2 a3 a4 hk
    split at h
    ·rename_i hc
     rw [Bool.and_eq_true] at hc
     injection h with h
     injection h with h1 h2
     rw [Bool.and_eq_true,decide_eq_true_eq,decide_eq_true_eq] at h1
     obtain ⟨rfl,h1⟩:=h1
     have e2:(Nat.beq sz esz&&Nat.beq Yc sz&&(Nat.beq bI esz || xs.isEmpty)&&Nat.ble es.length es.length&&Nat.ble es.length es.length&&Nat.ble (off+Nat.min xs.length len) es.length)=true:=by
      rw [hc.1,hc.2]
      simp only [Bool.true_or,Bool.true_and,Bool.and_eq_true]
      exact ⟨⟨Nat.ble_eq_true_of_le (Nat.le_refl _),Nat.ble_eq_true_of_le (Nat.le_refl _)⟩,Nat.ble_eq_true_of_le h1⟩
     simp only [bN,hi,hk,qd,hid,e2,if_true,h2]
    ·cases h
   ·cases h
  ·cases h
 ·cases h
def ug (s:St) (dst:Option Tmp) (elem esz bu:Nat) (k:LK) (sz:Nat) (es ys:List AV):Option (Bool × St × Bool × St):=
 match k with
 | .nil=>some (ys.isEmpty,s.put dst (.v (.list .nil sz es)),decide ((es.length+ys.length) * bu≤140737488355328),
   (s.bW (s.G++[.tok (es.length+ys.length) esz elem])).put dst (.v (.list (.own s.G.length) esz (es++ys))))
 | .full=>if Nat.beq sz esz then some (ys.isEmpty,s.put dst (.v (.list .full sz es)),decide ((es.length+ys.length) * bu≤140737488355328),
   (s.bW (s.G++[.tok (es.length+ys.length) esz elem])).put dst (.v (.list (.own s.G.length) esz (es++ys)))) else none
 | .own id=>match nth s.G id with
  | some (.tok f bI e')=>if Nat.beq bI esz&&Nat.beq e' elem&&Nat.beq sz esz then
    some (false,s,decide (f=es.length)&&decide ((es.length+ys.length) * bu≤140737488355328),
     (s.bW (Ho s.G id ys.length f esz elem)).put dst (.v (.list (.own id) esz (es++ys)))) else none
  | _=>none
 | .ba id j=>match nth s.G id with
  | some (.ba fs bI e')=>if Nat.beq bI esz&&Nat.beq e' elem&&Nat.beq sz esz then
    some (ys.isEmpty,s.put dst (.v (.list (.ba id j) sz es)),Lu fs j es.length&&decide ((es.length+ys.length) * bu≤140737488355328),
     (s.bW (aA s.G id (.ba (FI fs j (es.length+ys.length)) esz elem))).put dst (.v (.list (.ba id j) esz (es++ys)))) else none
  | _=>none
 | .ki=>none
def zP (s:St) (dst:Option Tmp) (elem esz bu id f off sz len:Nat) (ys:List AV):Option (Bool × St × Bool × St):=match nth s.G id with
 | some (.cS es bI e')=>if Nat.beq bI esz&&Nat.beq e' elem&&Nat.beq sz esz then
   some (false,s,decide (f=es.length)&&decide (off=0)&&decide (len=f)&&decide ((es.length+ys.length) * bu≤140737488355328),
    (s.bW (aA s.G id (.cS (es++ys) esz elem))).put dst (.v (.dA id (es.length+ys.length) 0 esz (es.length+ys.length)))) else none
 | _=>none
def zQ (E:Env) (s:St) (dst:Option Tmp) (l:List AV) (tys:List TypeId):Option (Bool × St × Bool × St):=match l,tys with
 | [.list k sz es,.list _ bI ys],[t,u]=>match E.ti t with
  | some i=>match i.k with
   | .sl elem esz _ bu (some z)=>
    if Nat.beq bI esz&&Nat.beq t u&&Nat.ble 1 esz&&Nat.ble 1 bu&&Nat.beq z.cells.length esz&&z.aQ then
     ug s dst elem esz bu k sz es ys
    else none
   | _=>none
  | none=>none
 | [.dA id f off sz len,.list _ bI ys],[t,u]=>match E.ti t with
  | some i=>match i.k with
   | .sl elem esz _ bu (some z)=>
    if Nat.beq bI esz&&Nat.beq t u&&Nat.ble 1 esz&&Nat.ble 1 bu&&Nat.beq z.cells.length esz&&z.aQ then zP s dst elem esz bu id f off sz len ys else none
   | _=>none
  | none=>none
 | [.list k sz es,.str bs],[t,u]=>match E.ti t,E.ti u with
  | some i,some j=>match i.k,j.k with
   | .sl elem esz _ bu (some z),.str=>
    if Nat.beq esz 1&&Nat.ble 1 bu&&Nat.beq z.cells.length esz&&z.aQ then ug s dst elem esz bu k sz es (bs.map qc) else none
   | _,_=>none
  | _,_=>none
 | _,_=>none
theorem qN {s s1 s2:St} {dst:Option Tmp} {elem esz bu:Nat} {k:LK} {sz:Nat} {es ys:List AV} {b c:Bool} (h:ug s dst elem esz bu k sz es ys=some (b,s1,c,s2)) (hc:b=false→c=true) :
  ∃ v G',fu s.G elem esz bu (.list k sz es) ys=some (true,v,G')∧(s.bW G').put dst (.v v)=bif b then s1 else s2:=by
 unfold ug at h
 cases k with
 | nil=>
  cases h
  cases ys with
  | nil=>exact ⟨_,_,rfl,rfl⟩
  | cons y ys=>
   have hc:=hc rfl
   exact ⟨_,_,by simp only [fu,hc],rfl⟩
 | full=>
  simp only at h
  cases hs:Nat.beq sz esz with
  | false=>rw [hs] at h; cases h
  | true=>
   rw [hs] at h
   cases h
   cases ys with
   | nil=>exact ⟨_,_,rfl,rfl⟩
   | cons y ys=>
    have hc:=hc rfl
    exact ⟨_,_,by simp only [fu,hs,if_true,hc],rfl⟩
 | own id=>
  simp only at h
  split at h
  ·rename_i f bI e' hg
   split at h
   ·rename_i cD
    cases h
    have hc:=hc rfl
    cases ys with
    | nil=>
     simp only [Bool.and_eq_true] at cD
     have e1:=Nat.eq_of_beq_eq_true cD.1.1
     have e2:=Nat.eq_of_beq_eq_true cD.1.2
     have e3:=Nat.eq_of_beq_eq_true cD.2
     subst e1; subst e2; subst e3
     refine ⟨_,_,rfl,?_⟩
     simp only [cond_false,Ho,List.length_nil,Nat.add_zero,jH hg,List.append_nil]
    | cons y ys=>exact ⟨_,_,by simp only [fu,hg,cD,if_true,hc],rfl⟩
   ·cases h
  ·cases h
 | ba id j=>
  simp only at h
  split at h
  ·rename_i fs bI e' hg
   split at h
   ·rename_i cD
    cases h
    cases ys with
    | nil=>exact ⟨_,_,rfl,rfl⟩
    | cons y ys=>
     have hc:=hc rfl
     exact ⟨_,_,by simp only [fu,hg,cD,if_true,hc],rfl⟩
   ·cases h
  ·cases h
 | ki=>cases h
theorem zR {s s1 s2:St} {dst:Option Tmp} {elem esz bu id f off sz len:Nat} {ys:List AV} {b c:Bool} (h:zP s dst elem esz bu id f off sz len ys=some (b,s1,c,s2)) (hc:b=false→c=true) :
  ∃ v G',fu s.G elem esz bu (.dA id f off sz len) ys=some (true,v,G')∧(s.bW G').put dst (.v v)=bif b then s1 else s2:=by
 unfold zP at h
 split at h
 ·rename_i es bI e' hg
  split at h
  ·rename_i cD
   cases h
   have hc:=hc rfl
   cases ys with
   | nil=>
    simp only [Bool.and_eq_true,decide_eq_true_eq] at hc cD
    have e1:=Nat.eq_of_beq_eq_true cD.1.1
    have e2:=Nat.eq_of_beq_eq_true cD.1.2
    have e3:=Nat.eq_of_beq_eq_true cD.2
    obtain ⟨⟨⟨h1,h2⟩,h3⟩,_⟩:=hc
    subst e1; subst e2; subst e3; subst h1; subst h2; subst h3
    refine ⟨_,_,rfl,?_⟩
    simp only [cond_false,List.length_nil,Nat.add_zero,jH hg,List.append_nil]
   | cons y ys=>exact ⟨_,_,by simp only [fu,hg,cD,if_true,hc],rfl⟩
  ·cases h
 ·cases h
theorem zS {E:Env} {s s1 s2:St} {dst:Option Tmp} {l:List AV} {tys:List TypeId} {b c:Bool} (h:zQ E s dst l tys=some (b,s1,c,s2)) (Cr:b=false→c=true):bN E s dst .append l tys=some (true,bif b then s1 else s2):=by
 unfold zQ at h
 split at h
 ·rename_i k sz es k' bI ys t u
  split at h
  ·rename_i i hi
   split at h
   ·rename_i elem esz a1 bu z hk
    split at h
    ·rename_i hc
     have tA:((Nat.beq bI esz || ys.isEmpty)&&Nat.beq t u&&Nat.ble 1 esz&&Nat.ble 1 bu&&Nat.beq z.cells.length esz&&z.aQ)=true:=by
      simp only [Bool.and_eq_true] at hc ⊢
      obtain ⟨⟨⟨⟨⟨c1,c2⟩,c3⟩,c4⟩,c5⟩,c6⟩:=hc
      exact ⟨⟨⟨⟨⟨by rw [c1]; rfl,c2⟩,c3⟩,c4⟩,c5⟩,c6⟩
     obtain ⟨v,G',h1,h2⟩:=qN h Cr
     simp only [bN,hi,hk,tA,if_true,h1,h2]
    ·cases h
   ·cases h
  ·cases h
 ·rename_i id f off sz len k' bI ys t u
  split at h
  ·rename_i i hi
   split at h
   ·rename_i elem esz a1 bu z hk
    split at h
    ·rename_i hc
     have tA:((Nat.beq bI esz || ys.isEmpty)&&Nat.beq t u&&Nat.ble 1 esz&&Nat.ble 1 bu&&Nat.beq z.cells.length esz&&z.aQ)=true:=by
      simp only [Bool.and_eq_true] at hc ⊢
      obtain ⟨⟨⟨⟨⟨c1,c2⟩,c3⟩,c4⟩,c5⟩,c6⟩:=hc
      exact ⟨⟨⟨⟨⟨by rw [c1]; rfl,c2⟩,c3⟩,c4⟩,c5⟩,c6⟩
     obtain ⟨v,G',h1,h2⟩:=zR h Cr
     simp only [bN,hi,hk,tA,if_true,h1,h2]
    ·cases h
   ·cases h
  ·cases h
 ·rename_i k sz es bs t u
  split at h
  ·rename_i i j hi hj
   split at h
   ·rename_i elem esz a1 bu z hk UF
    split at h
    ·rename_i hc
     obtain ⟨v,G',h1,h2⟩:=qN h Cr
     simp only [bN,hi,hj,hk,UF,hc,if_true,h1,h2]
    ·cases h
   ·cases h
  ·cases h
 ·cases h
end Go.Am
namespace Go.Am
open Go
def RI (E:Env) (cut wk:Bool) (t:TypeId) (r:AV) (G:List GO):Option (Bool × AV × List GO):=match r with
 | .dA id f 0 sz len=>match nth G id,E.ti t with
  | some (.cS es bI _),some i=>match i.k with
   | .sl _ esz _ _ _=>if Nat.beq esz sz&&Nat.beq bI sz then
     bif cut then some (decide (f=es.length)&&decide (len≤es.length)&&aB (xX wk es),.list .ki sz (xX wk (es.take len)),aA G id .dead)
     else some (decide (f=es.length)&&decide (len=es.length)&&aB (xX wk es),.list .ki sz (xX wk es),aA G id .dead)
    else none
   | _=>none
  | _,_=>none
 | .jh id 0 sz len _=>match nth G id,E.ti t,E.PR t with
  | some (.row cs _),some i,some p=>match i.k with
   | .sl _ esz agg _ _=>if Nat.beq esz sz&&Nat.ble 1 sz&&(agg || Nat.beq sz 1)&&p.under 0 then
     some (Nat.beq cs.length (len * sz)&&allFit (fun e=>p.fits e&&e.aQ&&(agg || e.one)) (gl agg sz len cs),.list .ki sz ((gl agg sz len cs).map fun e=>p.enc (p.bn e)),aA G id .dead)
    else none
   | _=>none
  | _,_,_=>none
 | .agg cs=>match lj wk cs G with
  | (c,cs',G')=>some (c,.agg cs',G')
 | .ptr id 0=>match nth G id with
  | some (.row cs _)=>some (aB cs,.ep cs,aA G id .dead)
  | _=>none
 | _=>none
def vQ (E:Env) (cut wk:Bool):List TypeId→List AV→List GO→Bool × List AV × List GO
 | t :: ts,r :: rs,G=>match RI E cut wk t r G with
  | some (c,r',G')=>match vQ E cut wk ts rs G' with
   | (c',Iz,Cv)=>(c&&c',r' :: Iz,Cv)
  | none=>match vQ E cut wk ts rs G with
   | (c',Iz,Cv)=>(c',r :: Iz,Cv)
 | _,rs,G=>(true,rs,G)
def RJ {X:Type} (E:Env) (cut wk:Bool) (ts:List TypeId) (K:AV→List GO→Option X) (r:AV) (G:List GO):Option X:=match r with
 | .bf rs=>match vQ E cut wk ts rs G with
  | (c,Iz,G')=>bif c then K (.bf Iz) G' else none
 | r=>match vQ E cut wk ts [r] G with
  | (c,[r'],G')=>bif c then K r' G' else none
  | _=>none
section
variable {E:Env} {R:ak} {w:World}
theorem vR {R:ak} {b:Nat} (hI:∀ o,R.I b o):∀ {cs:List AV} {vs:List Value} {o:Nat},aH R w cs vs→(∀ v∈vs,v.oneCell'=true)→(∀ (j:Nat) (v:Value),vs[j]?=some v→w.cell? ⟨b,o+j,none⟩=some v)→dx R w b o cs
 | [],_,o,_,_,_=>.nil
 | a :: cs,_,o,.cons h t,h1,hc=>.cons (hc 0 _ rfl) (h1 _ (by simp)) (hI o) h (vR hI t (fun v hv=>h1 v (by simp [hv])) fun j v hj=>by
   have:=hc (j+1) v (by simpa using hj)
   rwa [show o+(j+1)=o+1+j by omega] at this)
theorem vS {R:ak} {b:Nat} {p:aj} {agg:Bool} {sz:Nat} (hI:∀ o,R.I b o) (hp:p.under 0=true) (dV:(agg || Nat.beq sz 1)=true) (ZB:1≤sz):∀ (n:Nat) {cs:List AV} {vs:List Value} {o:Nat},aH R w cs vs→(∀ v∈vs,v.oneCell'=true)→cs.length=n * sz →
  (∀ (j:Nat) (v:Value),vs[j]?=some v→w.cell? ⟨b,o+j,none⟩=some v)→allFit (fun e=>p.fits e&&e.aQ&&(agg || e.one)) (gl agg sz n cs)=true→fx R w b o sz ((gl agg sz n cs).map fun e=>p.enc (p.bn e))
 | 0,_,_,_,_,_,_,_,_=>.nil
 | n+1,cs,vs,o,h,h1,hl,hc,hf=>by
  simp only [gl,allFit,Bool.and_eq_true] at hf
  obtain ⟨⟨⟨uM,XW⟩,hf4⟩,hf3⟩:=hf
  have hlen:=h.length
  have hle:sz≤cs.length:=by rw [hl,Nat.succ_mul]; omega
  have dk:=p.cH uM
  have kQ:(U9 agg (cs.take sz)).cells=cs.take sz:=by
   cases agg with
   | true=>rfl
   | false=>
    have Eu:sz=1:=by simpa using dV
    subst Eu
    match cs,hle with
    | a :: cs,_=>
     show AV.cells a=[a]
     have ho:a.one=true:=by simpa [U9,dL] using hf4
     cases a <;> first | rfl | simp [AV.one] at ho
  have hw:=dk.cells XW
  rw [kQ] at hw
  have hA:dx R w b o (cs.take sz):=vR hI (h.take sz) (fun v hv=>h1 v (List.mem_of_mem_take hv)) fun j v hj=>hc j v (by
   rw [List.getElem?_take] at hj
   split at hj
   ·exact hj
   ·cases hj)
  refine .cons (by rw [← hw.length,List.length_take,Nat.min_eq_left hle]) (by rw [dk.bf]; exact XW) (kT (p.di _ hp)) (hw.Hu hA) ?_
  exact vS hI hp dV ZB n (h.drop sz) (fun v hv=>h1 v (List.mem_of_mem_drop hv)) (by rw [List.length_drop,hl,Nat.succ_mul]; omega) (fun j v hj=>by
   rw [List.getElem?_drop] at hj
   have:=hc _ _ hj
   rwa [show o+(sz+j)=o+sz+j by omega] at this) hf3
theorem L3 {cut wk:Bool} {t:TypeId} {r r':AV} {G G':List GO} {c:Value} (hg:de E R w G) (hr:Rel R w r c) (h:RI E cut wk t r G=some (true,r',G')) :
  ∃ R',de E R' w G'∧Rel R' w r' c∧Ext R w R' w∧R'.obj=R.obj∧∀ b o,R'.I b o→R.I b o∨Live R b:=by
 unfold RI at h
 split at h
 ·rename_i id f sz len
  obtain ⟨ro,bP⟩:∃ ro,nth R.obj id=some ro:=by
   cases hr with
   | iB q _=>exact ⟨_,q⟩
   | dA q _ _=>exact ⟨_,q⟩
  split at h
  ·rename_i es bI el i hid hi
   split at h
   ·split at h
    ·rename_i hc
     rw [Bool.and_eq_true] at hc
     have q1:=Nat.eq_of_beq_eq_true hc.2
     subst q1
     cases cut with
     | true=>
      simp only [cond_true] at h
      injection h with h; injection h with h1 h; injection h with h2 h3
      subst h2 h3
      rw [Bool.and_eq_true,Bool.and_eq_true,decide_eq_true_eq,decide_eq_true_eq] at h1
      obtain ⟨h1,iG⟩:=h1
      obtain ⟨R',r1,r2,r3,r4,r5⟩:=mf (wk:=wk) hg hid h1.1 h1.2 iG bP
      exact ⟨R',r1,r5 c hr,r2,r3,fun b o hi=>(r4 b o hi).imp_right fun hb=>⟨id,ro,bP,hb⟩⟩
     | false=>
      simp only [cond_false] at h
      injection h with h; injection h with h1 h; injection h with h2 h3
      subst h2 h3
      rw [Bool.and_eq_true,Bool.and_eq_true,decide_eq_true_eq,decide_eq_true_eq] at h1
      obtain ⟨h1,iG⟩:=h1
      obtain ⟨R',r1,r2,r3,r4,r5⟩:=mf (wk:=wk) hg hid h1.1 (Nat.le_of_eq h1.2) iG bP
      have r6:=r5 c hr
      rw [h1.2,List.take_length] at r6
      exact ⟨R',r1,r6,r2,r3,fun b o hi=>(r4 b o hi).imp_right fun hb=>⟨id,ro,bP,hb⟩⟩
    ·cases h
   ·cases h
  ·cases h
 ·rename_i id sz len cap
  split at h
  ·rename_i cs i p hid hi hp
   split at h
   ·rename_i el esz agg eb z hk
    split at h
    ·rename_i hc
     simp only [Bool.and_eq_true] at hc
     injection h with h
     injection h with h1 h
     injection h with h2 h3
     subst h2 h3
     rw [Bool.and_eq_true] at h1
     cases hr with
     | @jh _ _ _ _ _ b hb gC=>
     obtain ⟨vs,k1,k2,k3,k4⟩:=hg.obj id _ _ hid hb
     have AY:Live R b:=⟨id,_,hb,rfl⟩
     have e:=oq R w b
     have bM:=bh k1
     refine ⟨R.all b,⟨by show R.obj.length=_; rw [gu]; exact hg.len,fun iS go ro q1 q2=>?_,hg.inj,fun b' o ho=>?_,fun g cs py=>(hg.bY g cs py).mono e,hg.lo⟩,?_,e,rfl,fun b' o ho=>?_⟩
     ·rcases cV q1 with ⟨rfl,rfl,_⟩ | ⟨cA,q1⟩
      ·have:ro=.bU b:=Option.some.inj (q2.symm.trans hb)
       subst this
       exact bM
      ·refine (hg.obj iS go ro q1 q2).mono e (fun _ _=>rfl) (fun b' o jI ho=>?_)
       rcases ho with ho | ho
       ·exact ho
       ·subst ho
        exact absurd (hg.inj id iS _ _ b' hb q2 rfl jI) cA
     ·rcases ho with ho | ho
      ·exact hg.wf b' o ho
      ·subst ho; exact bM
     ·refine Rel.list (vS (R:=R.all b) (fun o=>Or.inr rfl) hc.2 hc.1.2 (Nat.le_of_ble_eq_true hc.1.1.2) len (k2.mono e) k3 (Nat.eq_of_beq_eq_true h1.1) (fun j v hj=>?_) h1.2) ?_ gC trivial
      ·simp only [World.cell?,k1]
       simpa using hj
      ·rw [List.length_map]
       have:∀ (n:Nat) (l:List AV),(gl agg sz n l).length=n:=by
        intro n
        induction n with
        | zero=>intro l; rfl
        | succ n ih=>intro l; simp [gl,ih]
       rw [this]
     ·rcases ho with ho | ho
      ·exact .inl ho
      ·subst ho; exact .inr AY
    ·cases h
   ·cases h
  ·cases h
 ·rename_i cs
  cases h2:lj wk cs G with
  | mk c' q=>
  obtain ⟨cs',G2⟩:=q
  rw [h2] at h
  injection h with h; injection h with h1 h; injection h with h3 h4
  subst h1 h3 h4
  cases hr with
  | agg hr uA=>
  obtain ⟨R',r1,r2,r3,r4,r5⟩:=qA hg hr h2
  exact ⟨R',r1,.agg r2 uA,r3,r4,r5⟩
 ·-- an object's cells never change again
  rename_i id
  split at h
  ·rename_i cs el hid
   injection h with h; injection h with h1 h; injection h with h2 h3
   subst h2 h3
   cases hr with
   | @ptr _ _ b bP=>
   obtain ⟨vs,b1,b2,b3,b4⟩:=hg.obj id _ _ hid bP
   have r2:=oq R w b
   have r1:=hg.freeze bP rfl (show fP (R.all b) w .dead (.bU b) from bh b1)
   refine ⟨R.all b,r1,Rel.ep (dx.make (b2.mono r2) b3 (fun j v hv=>?_) (fun j _=>.inr rfl)),r2,rfl,fun b' o hi=>?_⟩
   ·rw [iD b1,Nat.zero_add]
    exact hv
   ·rcases hi with hi | rfl
    ·exact .inl hi
    ·exact .inr ⟨id,_,bP,rfl⟩
  ·cases h
 ·cases h
theorem uh {cut wk:Bool}:∀ {ts:List TypeId} {rs Iz:List AV} {G G':List GO} {cs:List Value} {R:ak},de E R w G→aH R w rs cs→vQ E cut wk ts rs G=(true,Iz,G') →
  ∃ R',de E R' w G'∧aH R' w Iz cs∧Ext R w R' w∧R'.obj=R.obj∧∀ b o,R'.I b o→R.I b o∨Live R b
 | [],rs,Iz,G,G',cs,R,hg,hr,h=>by
  cases rs <;> (simp only [vQ] at h; cases h; exact ⟨R,hg,hr,Ext.refl R w,rfl,fun _ _ h=>.inl h⟩)
 | _ :: _,[],Iz,G,G',cs,R,hg,hr,h=>by
  simp only [vQ] at h; cases h; exact ⟨R,hg,hr,Ext.refl R w,rfl,fun _ _ h=>.inl h⟩
 | t :: ts,r :: rs,Iz,G,G',cs,R,hg,hr,h=>by
  cases hr with
  | cons h0 hr=>
  unfold vQ at h
  split at h
  ·rename_i c r' G1 h1
   cases h2:vQ E cut wk ts rs G1 with
   | mk c' q=>
   obtain ⟨VJ,G2⟩:=q
   rw [h2] at h
   simp only [Prod.mk.injEq,Bool.and_eq_true] at h
   obtain ⟨⟨rfl,rfl⟩,rfl,rfl⟩:=h
   obtain ⟨R1,a1,a2,a3,a4,a5⟩:=L3 hg h0 h1
   obtain ⟨R2,b1,b2,b3,b4,b5⟩:=uh a1 (hr.mono a3) h2
   refine ⟨R2,b1,.cons (a2.mono b3) b2,a3.trans b3,b4.trans a4,fun b o ho=>?_⟩
   rcases b5 b o ho with ho | ho
   ·exact a5 b o ho
   ·obtain ⟨id,ro,q1,q2⟩:=ho
    rw [a4] at q1
    exact .inr ⟨id,ro,q1,q2⟩
  ·cases h2:vQ E cut wk ts rs G with
   | mk c' q=>
   obtain ⟨VJ,G2⟩:=q
   rw [h2] at h
   simp only [Prod.mk.injEq] at h
   obtain ⟨rfl,rfl,rfl⟩:=h
   obtain ⟨R2,b1,b2,b3,b4,b5⟩:=uh hg hr h2
   exact ⟨R2,b1,.cons (h0.mono b3) b2,b3,b4,b5⟩
theorem cp.frz {g:FuncId} {args:List AV} {G:List GO} {X:Type} {cut wk:Bool} {ts:List TypeId} {K:AV→List GO→Option X} {x:X} (h:cp E g args G (fun r G'=>RJ E cut wk ts K r G'=some x)):cp E g args G (fun r G'=>K r G'=some x):=
 ⟨h.1,fun R w cs hg hl=>(h.2 R w cs hg hl).mono fun e w' he=>by
  cases e with
  | panicked c=>exact he.elim
  | outgrown=>exact he.elim
  | returned c=>
   obtain ⟨r,G',R1,hq,dS,L0,st⟩:=he
   have fin:∀ (r':AV) (G2:List GO) (R2:ak),K r' G2=some x→de E R2 w' G2→Rel R2 w' r' c→Ext R1 w' R2 w'→R2.obj=R1.obj→(∀ b o,R2.I b o→R1.I b o∨Live R1 b)→EL E R w (fun r G'=>K r G'=some x) (.returned c) w':=by
    intro r' G2 R2 k1 k2 k3 k4 k5 k6
    have live:∀ b,Live R2 b→Live R1 b:=fun b ⟨id,ro,q1,q2⟩=>⟨id,ro,by rw [← k5]; exact q1,q2⟩
    refine ⟨r',G2,R2,k1,k3,k2,⟨st.ext.trans k4,st.os,st.tape,st.output,st.size,st.bp,fun b hb ho=>?_,fun b o hi hb hn=>?_⟩⟩
    ·rcases ho with ho | ⟨k,cs,hk,rfl⟩
     ·exact st.own b hb (.inl (live b ho))
     ·simp [eD,dm] at hk
    ·rcases k6 b o hi with hi | hi
     ·exact st.im b o hi hb hn
     ·exact absurd (st.own b hb (.inl hi)) hn
   unfold RJ at hq
   split at hq
   ·rename_i rs
    cases dS with
    | bf dS=>
    cases h2:vQ E cut wk ts rs G' with
    | mk c' q=>
    obtain ⟨VJ,G2⟩:=q
    rw [h2] at hq
    cases c' with
    | false=>cases hq
    | true=>
     obtain ⟨R2,b1,b2,b3,b4,b5⟩:=uh L0 dS h2
     exact fin (.bf VJ) G2 R2 hq b1 (.bf b2) b3 b4 b5
   ·split at hq
    ·rename_i c' r' G2 h2
     cases c' with
     | false=>cases hq
     | true=>
      obtain ⟨R2,b1,b2,b3,b4,b5⟩:=uh L0 (.cons dS .nil) h2
      cases b2 with
      | cons b2 _=>exact fin r' G2 R2 hq b1 b2 b3 b4 b5
    ·cases hq⟩
end
end Go.Am
namespace Go.Am
open Go
inductive RP
 | Qd (p:aj)
 | map (pe:aj)
 | ep (ps:aJ)
def RP.T:RP→Type
 | .Qd p=>p.T
 | .map pe=>List pe.T
 | .ep ps=>ps.T
def RP.enc (n:Nat):(p:RP)→p.T→AV
 | .Qd p,x=>p.enc x
 | .map _,_=>.map n
 | .ep ps,x=>.ep (ps.enc x)
def RP.DI:(p:RP)→p.T→List GO
 | .Qd _,_=>[]
 | .map pe,(x:List pe.T)=>[.map (ab (x.map pe.enc))]
 | .ep _,_=>[]
def RP.no:RP→Nat
 | .map _=>1
 | _=>0
def r8:List RP→Type
 | []=>Unit
 | [p]=>p.T
 | p :: q :: l=>p.T × r8 (q :: l)
def nL:(n:Nat)→(l:List RP)→r8 l→List AV
 | _,[],_=>[]
 | n,[p],x=>[p.enc n x]
 | n,p :: q :: l,x=>p.enc n x.1 :: nL (n+p.no) (q :: l) x.2
def gf:(l:List RP)→r8 l→List GO
 | [],_=>[]
 | [p],x=>p.DI x
 | p :: q :: l,x=>p.DI x.1++gf (q :: l) x.2
structure RF where
 bf:Bool
 l:List RP
def RF.val (f:RF) (n:Nat) (x:r8 f.l):AV:=bif f.bf then .bf (nL n f.l x) else dL (nL n f.l x)
def RP.is:RP→AV→Bool
 | .Qd p,v=>match p with
  | .fk u=>dK v u
  | _=>true
 | .map _,v=>match v with
  | .map _=>true
  | _=>false
 | .ep _,v=>match v with
  | .ep _=>true
  | _=>false
def IA:List RP→List AV→Bool
 | [],[]=>true
 | p :: l,v :: vs=>p.is v&&IA l vs
 | _,_=>false
def RF.args (f:RF) (r:AV):List AV:=bif f.bf then r.QR else [r]
def RF.yG (f:RF):AV→Bool
 | .bf _=>f.bf
 | _=>!f.bf
def zT (G:List GO) (used:List Nat) (pe:aj) (v:AV):Option (List pe.T):=match v with
 | .map id=>match nth G id with
  | some (.map es)=>bif Ln used id then none else (bif allFit pe.fits (ai es) then some ((ai es).map pe.bn) else none)
  | _=>none
 | _=>none
def EY (ps:aJ) (v:AV):Option ps.T:=match v with
 | .ep cs=>ps.dec cs
 | _=>none
def RP.dec (G:List GO) (used:List Nat):(p:RP)→AV→Option p.T
 | .Qd p,v=>p.dec v
 | .map pe,v=>zT G used pe v
 | .ep ps,v=>EY ps v
def r9 (used:List Nat):AV→List Nat
 | .map id=>id :: used
 | _=>used
def sa (G:List GO):(used:List Nat)→(l:List RP)→List AV→Option (r8 l)
 | _,[],vs=>match vs with
  | []=>some ()
  | _=>none
 | u,[p],vs=>match vs with
  | [v]=>p.dec G u v
  | _=>none
 | u,p :: q :: l,vs=>match vs with
  | v :: vs=>(p.dec G u v).bind fun x=>(sa G (r9 u v) (q :: l) vs).bind fun y=>some (x,y)
  | []=>none
def RF.dec (f:RF) (G:List GO) (r:AV):Option (r8 f.l):=bif f.yG r then sa G [] f.l (f.args r) else none
def RP.under:RP→Bool
 | .Qd p=>p.under 0
 | .map pe=>pe.under 0
 | .ep ps=>ps.under 0
def RF.under (f:RF):Bool:=f.l.all RP.under&&(f.bf || Nat.beq f.l.length 1)
def XT:List RF→Type
 | []=>Empty
 | [f]=>r8 f.l
 | f :: g :: l=>r8 f.l ⊕ XT (g :: l)
def IB (G:List GO) (r:AV):(l:List RF)→Option (XT l)
 | []=>none
 | [f]=>f.dec G r
 | f :: g :: l=>bif f.yG r&&IA f.l (f.args r) then (f.dec G r).bind fun x=>some (.inl x) else (IB G r (g :: l)).bind fun x=>some (.inr x)
def UQ {α:Type} (G:List GO) (K:AV→List GO→α):(l:List RF)→XT l→α
 | [],o=>Empty.rec (fun _=>α) o
 | [f],o=>K (f.val G.length o) (G++gf f.l o)
 | f :: g :: l,o=>Sum.elim (fun v=>K (f.val G.length v) (G++gf f.l v)) (fun o=>UQ G K (g :: l) o) o
theorem BH {α:Type} {G:List GO} {K:AV→List GO→α} {r:AV} {G':List GO}:∀ (l:List RF) (o:XT l),UQ G (fun r0 G0=>r=r0∧G'=G0) l o→K r G'=UQ G K l o
 | [],o,_=>nomatch o
 | [f],o,h=>by
  have h:r=f.val G.length o∧G'=G++gf f.l o:=h
  rw [h.1,h.2]; rfl
 | f :: g :: l,.inl v,h=>by
  have h:r=f.val G.length v∧G'=G++gf f.l v:=h
  rw [h.1,h.2]; rfl
 | f :: g :: l,.inr o,h=>BH (g :: l) o h
def vT (E:Env) (g:FuncId) (args:List AV) (outs:List RF) (Q:XT outs→Prop):Prop:=
 ∀ G,cp E g args G (fun r G'=>∃ y,Q y∧UQ G (fun r0 G0=>r=r0∧G'=G0) outs y)
section
variable {E:Env} {R R1 R2:ak} {w:World}
theorem dc.Qe (m:Mv R R2 0):∀ {es:List (AV × AV)} {l:List AV} {aw:List MapEntry},jd (ai es) l→aC 0 l=true→dc R w es aw→dc R2 w (ab l) aw
 | [],[],[],_,_,_=>trivial
 | [],[],_ :: _,_,_,h=>h.elim
 | [],_ :: _,_,h,_,_=>h.elim
 | (_,_) :: _,[],_,h,_,_=>h.elim
 | (_,_) :: _,_ :: _,[],_,_,h=>h.elim
 | (k,v) :: es,a :: l,en :: aw,hd,hu,h=>by
  obtain ⟨d1,d2⟩:=hd
  simp only [aC,Bool.and_eq_true] at hu
  have hc:=d1.cells rfl
  have hl:[k,v].length=a.cells.length:=hc.length
  cases a with
  | agg cs=>
   match cs,hc,hl with
   | [k',v'],hc,_=>
    have RE:aC 0 [k',v']=true:=hu.1
    simp only [aC,Bool.and_true,Bool.and_eq_true] at RE
    exact ⟨(hc.1 _ _ _ h.1).move m RE.1,(hc.2.1 _ _ _ h.2.1).move m RE.2,dc.Qe m d2 hu.2 h.2.2⟩
   | [],_,hl=>simp [AV.cells] at hl
   | [_],_,hl=>simp [AV.cells] at hl
   | _ :: _ :: _ :: _,_,hl=>simp [AV.cells] at hl
  | _=>simp [AV.cells] at hl
theorem aj.vU {p:aj} (h:p.under 0=true):∀ l:List p.T,aC 0 (l.map p.enc)=true
 | []=>rfl
 | x :: l=>by
  show ((p.enc x).under 0&&aC 0 (l.map p.enc))=true
  rw [p.di x h,aj.vU h l]
  rfl
def vV (R:ak) (n:Nat) (bs:List Nat):Prop:=∀ k b,nth bs k=some b→nth R.obj (n+k)=some (.bU b)
def EZ (R:ak) (w:World) (gs:List GO) (bs:List Nat):Prop:=∀ k go b,nth gs k=some go→nth bs k=some b→fP R w go (.bU b)
theorem RP.Qf (p:RP) (x:p.T):(p.DI x).length=p.no:=by cases p <;> rfl
theorem IC {ps:aJ} {v:AV} {y:ps.T} (h:EY ps v=some y):∃ cs,v=.ep cs∧ps.dec cs=some y:=by
 unfold EY at h
 split at h
 ·exact ⟨_,rfl,h⟩
 ·cases h
theorem Gt {G:List GO} {used:List Nat} {pe:aj} {v:AV} {y:List pe.T} (h:zT G used pe v=some y):∃ id es,v=.map id∧nth G id=some (.map es)∧id∉used∧jd (ai es) (y.map pe.enc):=by
 unfold zT at h
 split at h
 ·rename_i id
  split at h
  ·rename_i es Hf
   cases hu:Ln used id with
   | true=>rw [hu] at h; cases h
   | false=>
    rw [hu,cond_false] at h
    cases hf:allFit pe.fits (ai es) with
    | false=>rw [hf] at h; cases h
    | true=>
     rw [hf,cond_true] at h
     have hy:=Option.some.inj h
     refine ⟨id,es,rfl,Hf,fun hm=>?_,?_⟩
     ·rw [zL.2 hm] at hu; cases hu
     ·rw [← hy]; exact jd.of (fun v hv=>pe.cH hv) hf
  ·cases h
 ·cases h
theorem DJ {used:List Nat} {v:AV} {id:Nat} (h:id∈used):id∈r9 used v:=by
 unfold r9
 split
 ·exact List.mem_cons_of_mem _ h
 ·exact h
def zU (R1:ak) (w:World) (used:List Nat) (v:AV) (c:Value) (p:RP) (y:p.T):Prop:=
 ∃ bs:List Nat,bs.length=p.no∧(∀ b∈bs,∃ id,id∉used∧id∈r9 used v∧nth R1.obj id=some (.bU b)) ∧
   ∀ (R2:ak) (n:Nat),(∀ b o,R1.I b o→R2.I b o)→vV R2 n bs→Rel R2 w (p.enc n y) c∧EZ R2 w (p.DI y) bs
theorem ZC {R1 R2:ak} (hI:∀ b o,R1.I b o→R2.I b o):Mv R1 R2 0:=⟨hI,fun _ _ h=>absurd h (Nat.not_lt_zero _)⟩
theorem RP.RL {used:List Nat} {p:aj} {v:AV} {c:Value} {y:p.T} (hp:p.under 0=true) (hv:Rel R1 w v c) (hd:p.dec v=some y):zU R1 w used v c (.Qd p) y:=
 ⟨[],rfl,(fun b hb=>by cases hb),fun R2 n hI _=>⟨Rel.move (ZC hI) (p.di y hp) ((p.pu hd).fM _ _ _ hv),fun k go b h=>by cases k <;> cases h⟩⟩
theorem RP.Wc {used:List Nat} {ps:aJ} {v:AV} {c:Value} {y:ps.T} (hp:ps.under 0=true) (hv:Rel R1 w v c) (hd:EY ps v=some y):zU R1 w used v c (.ep ps) y:=by
 obtain ⟨cs,rfl,hd⟩:=IC hd
 cases hv with
 | ep hc=>
 exact ⟨[],rfl,(fun b hb=>by cases hb),fun R2 n hI _=>⟨.ep (dx.move (ZC hI) ((ps.pu hd).1.Hu hc) (ps.di y hp)),fun k go b h=>by cases k <;> cases h⟩⟩
theorem RP.RM {G1:List GO} (hg:de E R1 w G1) {used:List Nat} {pe:aj} {v:AV} {c:Value} {y:List pe.T} (hp:pe.under 0=true) (hv:Rel R1 w v c) (hd:zT G1 used pe v=some y):zU R1 w used v c (.map pe) y:=by
 obtain ⟨id,es,rfl,Hf,hu,hdl⟩:=Gt hd
 cases hv with
 | map hb=>
 rename_i b
 refine ⟨[b],rfl,fun b' jI=>?_,fun R2 n hI kz=>⟨.map (by have:=kz 0 b rfl; simpa using this),fun k go b' h1 h2=>?_⟩⟩
 ·rw [List.mem_singleton] at jI
  subst jI
  exact ⟨id,hu,List.mem_cons_self,hb⟩
 ·cases k with
  | succ k=>cases h2
  | zero=>
   cases h1; cases h2
   obtain ⟨aw,clock,e1,e2,e3⟩:=hg.obj id _ _ Hf hb
   exact ⟨aw,clock,e1,dc.Qe (ZC hI) hdl (aj.vU hp y) e2,e3⟩
theorem RP.ok {G1:List GO} (hg:de E R1 w G1) {used:List Nat} {p:RP} {v:AV} {c:Value} {y:p.T} (hp:p.under=true) (hv:Rel R1 w v c) (hd:p.dec G1 used v=some y):zU R1 w used v c p y:=by
 cases p with
 | Qd p=>exact RP.RL hp hv hd
 | ep ps=>exact RP.Wc hp hv hd
 | map pe=>exact RP.RM hg hp hv hd
theorem fC {α:Type} {l r:List α} {i:Nat} (h:i < l.length):nth (l++r) i=nth l i:=by
 rw [aX,aX,List.getElem?_append_left h]
theorem eM {α:Type} {l r:List α} (i:Nat):nth (l++r) (l.length+i)=nth r i:=by
 rw [aX,aX,List.getElem?_append_right (Nat.le_add_right _ _),Nat.add_sub_cancel_left]
theorem oD {α:Type} {l:List α} {i:Nat} {x:α} (h:nth l i=some x):i < l.length:=by
 rw [aX] at h
 exact (List.getElem?_eq_some_iff.1 h).1
theorem RPs.ok {G1:List GO} (hg:de E R1 w G1):∀ {l:List RP} {used:List Nat} {vs:List AV} {cs:List Value} {y:r8 l},l.all RP.under=true→aH R1 w vs cs→sa G1 used l vs=some y →
  ∃ bs:List Nat,bs.length=(gf l y).length∧bs.Nodup∧(∀ b∈bs,∃ id,id∉used∧nth R1.obj id=some (.bU b)) ∧
   ∀ (R2:ak) (n:Nat),(∀ b o,R1.I b o→R2.I b o)→vV R2 n bs→aH R2 w (nL n l y) cs∧EZ R2 w (gf l y) bs
 | [],used,vs,cs,y,_,hv,hd=>by
  cases vs with
  | cons _ _=>cases hd
  | nil=>
  cases hv
  exact ⟨[],rfl,List.nodup_nil,(fun b hb=>by cases hb),fun R2 n _ _=>⟨.nil,fun k go b h=>by simp [gf,nth] at h⟩⟩
 | [p],used,vs,cs,y,hu,hv,hd=>by
  match vs,hv,hd with
  | [],_,hd=>cases hd
  | _ :: _ :: _,_,hd=>cases hd
  | [v],.cons hv .nil,hd=>
  have hu:p.under=true:=by simpa using hu
  obtain ⟨bs,h1,h2,h4⟩:=RP.ok hg hu hv hd
  refine ⟨bs,h1.trans (p.Qf y).symm,?_,fun b hb=>let ⟨id,q1,_,q2⟩:=h2 b hb; ⟨id,q1,q2⟩,fun R2 n hI kz=>?_⟩
  ·have:bs.length≤1:=by rw [h1]; cases p <;> simp [RP.no]
   match bs,this with
   | [],_=>exact List.nodup_nil
   | [b],_=>simp
   | _ :: _ :: _,h=>simp at h
  ·obtain ⟨k1,k2⟩:=h4 R2 n hI kz
   exact ⟨.cons k1 .nil,k2⟩
 | p :: q :: l,used,vs,cs,y,hu,hv,hd=>by
  match vs,hv,hd with
  | [],_,hd=>cases hd
  | v :: vs,.cons (c:=c) (cs:=cs) hv V6,hd=>
  simp only [List.all_cons,Bool.and_eq_true] at hu
  obtain ⟨hu1,UR⟩:=hu
  have UR:(q :: l).all RP.under=true:=by simpa using UR
  have hd:((p.dec G1 used v).bind fun x=>(sa G1 (r9 used v) (q :: l) vs).bind fun y=>some (x,y))=some y:=hd
  cases hx:p.dec G1 used v with
  | none=>rw [hx] at hd; cases hd
  | some x=>
  rw [hx] at hd
  simp only [Option.bind_some] at hd
  cases hz:sa G1 (r9 used v) (q :: l) vs with
  | none=>rw [hz] at hd; cases hd
  | some z=>
  rw [hz] at hd
  simp only [Option.bind_some] at hd
  cases hd
  obtain ⟨bs,h1,h2,h4⟩:=RP.ok hg hu1 hv hx
  obtain ⟨bs',k1,k0,k2,k4⟩:=RPs.ok hg UR V6 hz
  have Cs:bs.length=(p.DI x).length:=h1.trans (p.Qf x).symm
  refine ⟨bs++bs',?_,?_,fun b hb=>?_,fun R2 n hI kz=>?_⟩
  ·show _=(p.DI x++gf (q :: l) z).length
   rw [List.length_append,List.length_append,Cs,k1]
  ·have Hd:bs.Nodup:=by
    have:bs.length≤1:=by rw [h1]; cases p <;> simp [RP.no]
    match bs,this with
    | [],_=>exact List.nodup_nil
    | [b],_=>simp
    | _ :: _ :: _,h=>simp at h
   rw [List.nodup_append]
   refine ⟨Hd,k0,fun a ha b hb e=>?_⟩
   subst e
   obtain ⟨id,_,q2,q3⟩:=h2 a ha
   obtain ⟨iS,r1,r2⟩:=k2 a hb
   have:id=iS:=hg.inj id iS _ _ a q3 r2 rfl rfl
   subst this
   exact r1 q2
  ·rcases List.mem_append.1 hb with hb | hb
   ·obtain ⟨id,q1,_,q2⟩:=h2 b hb
    exact ⟨id,q1,q2⟩
   ·obtain ⟨id,q1,q2⟩:=k2 b hb
    exact ⟨id,fun hm=>q1 (DJ hm),q2⟩
  ·have at1:vV R2 n bs:=fun k b hk=>kz k b (by rw [fC (oD hk)]; exact hk)
   have at2:vV R2 (n+p.no) bs':=fun k b hk=>by
    have:=kz (bs.length+k) b (by rw [eM]; exact hk)
    rw [h1] at this
    rw [Nat.add_assoc]; exact this
   obtain ⟨a1,a2⟩:=h4 R2 n hI at1
   obtain ⟨b1,b2⟩:=k4 R2 (n+p.no) hI at2
   refine ⟨.cons a1 b1,fun k go b gF hb=>?_⟩
   change nth (p.DI x++gf (q :: l) z) k=some go at gF
   rcases Nat.lt_or_ge k bs.length with hk | hk
   ·rw [fC (by rw [← Cs]; exact hk)] at gF
    rw [fC hk] at hb
    exact a2 k go b gF hb
   ·obtain ⟨j,rfl⟩:∃ j,k=bs.length+j:=⟨k - bs.length,by omega⟩
    rw [eM] at hb
    rw [Cs,eM] at gF
    exact b2 j go b gF hb
theorem vW:∀ (l:List RP) (n:Nat) (y:r8 l),(nL n l y).length=l.length
 | [],_,_=>rfl
 | [_],_,_=>rfl
 | p :: q :: l,n,y=>by
  show (nL (n+p.no) (q :: l) y.2).length+1=(q :: l).length+1
  rw [vW (q :: l)]
theorem vT.of1 {R0:ak} {w0:World} {f:RF} {G G1:List GO} {r:AV} {c:Value} {y:r8 f.l} (hf:f.under=true) (hG:de E R0 w0 G) (st:Step ⟨R0.I,[]⟩ w0 (fun _=>0) eD R1 w (fun _=>0) eD) (hg:de E R1 w G1) (dS:Rel R1 w r c) (hd:f.dec G1 r=some y) :
  ∃ R2,Rel R2 w (f.val G.length y) c∧de E R2 w (G++gf f.l y)∧Step R0 w0 (fun _=>0) eD R2 w (fun _=>0) eD:=by
 unfold RF.under at hf
 rw [Bool.and_eq_true] at hf
 unfold RF.dec at hd
 obtain ⟨ht,hd⟩:f.yG r=true∧sa G1 [] f.l (f.args r)=some y:=by
  cases ht:f.yG r with
  | true=>rw [ht] at hd; exact ⟨rfl,hd⟩
  | false=>rw [ht] at hd; cases hd
 obtain ⟨cs,ol,Wd⟩:∃ cs,aH R1 w (f.args r) cs∧∀ R2 (x:r8 f.l) n,aH R2 w (nL n f.l x) cs→Rel R2 w (f.val n x) c:=by
  unfold RF.args RF.val
  cases ZD:f.bf with
  | true=>
   have:∃ vs,r=.bf vs:=by
    cases r <;> first | exact ⟨_,rfl⟩ | (simp [RF.yG,ZD] at ht)
   obtain ⟨vs,rfl⟩:=this
   cases dS with
   | bf h=>exact ⟨_,h,fun R2 x n h=>.bf h⟩
  | false=>
   refine ⟨[c],.cons dS .nil,fun R2 x n h=>?_⟩
   simp only [cond_false]
   have hlen:=vW f.l n x
   revert h hlen
   generalize nL n f.l x=l
   intro h hlen
   cases h with
   | cons h _=>exact h
 obtain ⟨bs,h1,h2,h3,h4⟩:=RPs.ok hg hf.1 ol hd
 have iE:∀ b,¬ Own (⟨R0.I,[]⟩:ak) (fun _=>0) eD b:=fun b ho=>by
  obtain ⟨id,ro,q1,_⟩:=dZ ho
  simp [nth] at q1
 have nh:∀ b∈bs,w0.heap.size≤b:=fun b hb=>by
  obtain ⟨id,_,hid⟩:=h3 b hb
  rcases Nat.lt_or_ge b w0.heap.size with bM | kN
  ·exact absurd (st.own b bM (.inl ⟨id,_,hid,rfl⟩)) (iE b)
  ·exact kN
 let R2:ak:=⟨R1.I,R0.obj++bs.map RO.bU⟩
 have e:Ext R0 w0 R2 w:=⟨st.ext.I,st.ext.cell,fun id ro h=>⟨ro,by rw [fC (oD h)]; exact h,ck.refl ro⟩,st.ext.lp⟩
 have bp:∀ b,b < w0.heap.size→w.heap[b]?=w0.heap[b]?:=fun b hb=>st.bp b hb (iE b)
 have im:∀ b o,b < w0.heap.size→R1.I b o→R0.I b o:=fun b o hb hi=>st.im b o hi hb (iE b)
 have ZE:∀ {k ro},nth (bs.map RO.bU) k=some ro→∃ b,nth bs k=some b∧ro=.bU b:=fun {k ro} h=>by
  rw [aX,List.getElem?_map] at h
  cases hb:bs[k]? with
  | none=>rw [hb] at h; cases h
  | some b=>rw [hb] at h; exact ⟨b,by rw [aX]; exact hb,(Option.some.inj h).symm⟩
 have kz:vV R2 R0.obj.length bs:=fun k b hk=>by
  show nth (R0.obj++bs.map RO.bU) (R0.obj.length+k)=_
  rw [eM,aX,List.getElem?_map]
  rw [aX] at hk
  rw [hk]; rfl
 obtain ⟨k1,k2⟩:=h4 R2 R0.obj.length (fun _ _ h=>h) kz
 rw [hG.len] at k1
 have hold:∀ id ro,nth R2.obj id=some ro→nth R0.obj id=some ro∨∃ k b,id=R0.obj.length+k∧nth bs k=some b∧ro=.bU b:=fun id ro h=>by
  rcases Nat.lt_or_ge id R0.obj.length with bM | kN
  ·exact .inl (by rw [← fC (r:=bs.map RO.bU) bM]; exact h)
  ·obtain ⟨k,rfl⟩:∃ k,id=R0.obj.length+k:=⟨id - R0.obj.length,by omega⟩
   have h:nth (R0.obj++bs.map RO.bU) (R0.obj.length+k)=some ro:=h
   rw [eM] at h
   obtain ⟨b,q1,q2⟩:=ZE h
   exact .inr ⟨k,b,rfl,q1,q2⟩
 have Qg:∀ id ro b,nth R0.obj id=some ro→ro.has b→b < w0.heap.size:=fun id ro b h hb=>by
  have hl:=oD h
  rw [hG.len] at hl
  have gF:nth G id=some G[id]:=by rw [aX]; exact List.getElem?_eq_getElem hl
  exact (hG.obj id _ _ gF h).lt hb
 have RN:∀ {k b},nth bs k=some b→b∈bs:=fun {k b} h=>by
  rw [aX] at h
  exact List.mem_of_getElem? h
 refine ⟨R2,Wd R2 y _ k1,⟨?_,fun id go ro q1 q2=>?_,fun i j ri rj b q1 q2 b1 b2=>?_,hg.wf,fun g cs py=>(hG.bY g cs py).mono e,hg.lo⟩,⟨e,st.os,st.tape,st.output,st.size,fun b hb _=>bp b hb,fun b hb ho=>?_,fun b o hi hb _=>im b o hb hi⟩⟩
 ·show (R0.obj++bs.map RO.bU).length=_
  rw [List.length_append,List.length_map,List.length_append,hG.len,h1]
 ·rcases hold id ro q2 with q2 | ⟨k,b,rfl,q3,rfl⟩
  ·have hl:=oD q2
   rw [hG.len] at hl
   rw [fC hl] at q1
   refine (hG.obj id go ro q1 q2).mono e (fun b hb=>bp b ?_) (fun b o hb hi=>im b o ?_ hi)
   ·exact (hG.obj id go ro q1 q2).lt hb
   ·exact (hG.obj id go ro q1 q2).lt hb
  ·rw [hG.len,eM] at q1
   exact k2 k go b q1 q3
 ·rcases hold i ri q1 with q1 | ⟨k,a,rfl,q3,rfl⟩
  ·rcases hold j rj q2 with q2 | ⟨k',a',rfl,q4,rfl⟩
   ·exact hG.inj i j ri rj b q1 q2 b1 b2
   ·have:b=a':=b2
    subst this
    have:=nh _ (RN q4)
    have:=Qg i ri b q1 b1
    omega
  ·have hba:b=a:=b1
   subst hba
   rcases hold j rj q2 with q2 | ⟨k',a',rfl,q4,rfl⟩
   ·have:=nh _ (RN q3)
    have:=Qg j rj b q2 b2
    omega
   ·have:b=a':=b2
    subst this
    have l1:=oD q3
    have l2:=oD q4
    rw [aX] at q3 q4
    have:=(List.getElem?_inj l1 h2).1 (q3.trans q4.symm)
    omega
 ·rcases dZ ho with ⟨id,ro,q1,q2⟩
  rcases hold id ro q1 with q1 | ⟨k,a,rfl,q3,rfl⟩
  ·exact .inl ⟨id,ro,q1,q2⟩
  ·have:b=a:=q2
   subst this
   have:=nh _ (RN q3)
   omega
theorem E0 {G1:List GO} {r:AV}:∀ {outs:List RF} {y:XT outs},IB G1 r outs=some y→(∀ f∈outs,f.under=true) →
  ∃ (f:RF) (z:r8 f.l),f.under=true∧f.dec G1 r=some z∧∀ {α:Type} (G:List GO) (K:AV→List GO→α),UQ G K outs y=K (f.val G.length z) (G++gf f.l z)
 | [],_,h,_=>by cases h
 | [f],y,h,hu=>⟨f,y,hu f (by simp),h,fun _ _=>rfl⟩
 | f :: g :: l,y,h,hu=>by
  simp only [IB] at h
  cases hb:(f.yG r&&IA f.l (f.args r)) with
  | true=>
   rw [hb] at h
   simp only [cond_true] at h
   cases hx:f.dec G1 r with
   | none=>rw [hx] at h; cases h
   | some x=>
    rw [hx] at h
    cases h
    exact ⟨f,x,hu f (by simp),hx,fun _ _=>rfl⟩
  | false=>
   rw [hb] at h
   simp only [cond_false] at h
   cases hx:IB G1 r (g :: l) with
   | none=>rw [hx] at h; cases h
   | some x=>
    rw [hx] at h
    cases h
    obtain ⟨f',z,k0,k1,k2⟩:=E0 hx (fun f hf=>hu f (List.mem_cons_of_mem _ hf))
    exact ⟨f',z,k0,k1,fun G K=>k2 G K⟩
theorem vT.of {g:FuncId} {args:List AV} {outs:List RF} {Q:XT outs→Prop} (hc:aC 0 args=true) (hp:∀ f∈outs,f.under=true)
  (h:cp E g args [] (fun r G'=>∃ y,IB G' r outs=some y∧Q y)):vT E g args outs Q:=fun G=>by
 refine ⟨h.1,fun R w cs hg hl=>?_⟩
 let R0:ak:=⟨R.I,[]⟩
 have m0:Mv R R0 0:=⟨fun _ _ h=>h,fun _ _ h=>absurd h (Nat.not_lt_zero _)⟩
 have Lf:de E R0 w []:=⟨rfl,fun id go ro h1 _=>by simp [nth] at h1,fun i j ri rj b h1=>by simp [R0,nth] at h1,hg.wf,fun g cs py=>(hg.bY g cs py).move m0 (cb _ (E.mT g cs py)),hg.lo⟩
 have rM:aH R0 w args cs:=hl.move m0 hc
 refine (h.2 R0 w cs Lf rM).mono fun e w' he=>?_
 cases e with
 | panicked c=>exact he.elim
 | outgrown=>exact he.elim
 | returned c=>
  obtain ⟨r,G',R1,⟨y,hy,hQ⟩,dS,L0,st⟩:=he
  obtain ⟨f,z,hf,hz,gF⟩:=E0 hy hp
  obtain ⟨R2,k1,k2,k3⟩:=vT.of1 hf hg st L0 dS hz
  refine ⟨_,_,R2,⟨y,hQ,?_⟩,k1,k2,k3⟩
  rw [gF]
  exact ⟨rfl,rfl⟩
end
end Go.Am
namespace Go.Am
open Go
structure aL where
 ps:aJ
 p:aj
 T:ps.T→Option p.T
def an (E:Env) (g:FuncId) (e:aL):Prop:=∀ x y,e.T x=some y→aR E g (e.ps.enc x) (fun r=>r=e.p.enc y)
inductive XK
 | norm
 | ret
 | ex (id:Nat)
def XK.is:XK→Exit→Bool
 | .norm,.normal=>true
 | .ret,.ret=>true
 | .ex i,.exit j=>Nat.beq i j
 | _,_=>false
def XK.exit:XK→Exit
 | .norm=>.normal
 | .ret=>.ret
 | .ex i=>.exit i
theorem XK.EU {k:XK} {e:Exit} (h:k.is e=true):e=k.exit:=by
 cases k <;> cases e <;> simp_all [XK.is,XK.exit]
def JT:List (XK × cu)→Type
 | []=>Empty
 | [x]=>x.2.ps.T
 | x :: y :: l=>x.2.ps.T ⊕ JT (y :: l)
def kq (s:St):(outs:List (XK × cu))→Exit→St→Option (JT outs)
 | [],_,_=>none
 | [x],e,s'=>bif x.1.is e then x.2.dec s s' else none
 | x :: y :: l,e,s'=>bif x.1.is e then (x.2.dec s s').bind fun v=>some (.inl v) else (kq s (y :: l) e s').bind fun o=>some (.inr o)
def Lo {α:Type} (s:St):(outs:List (XK × cu))→JT outs→(Exit→St→α)→α
 | [],o,_=>Empty.rec (fun _=>α) o
 | [x],o,K=>K x.1.exit (x.2.st s o)
 | x :: y :: l,o,K=>Sum.elim (fun v=>K x.1.exit (x.2.st s v)) (fun o=>Lo s (y :: l) o K) o
inductive cE
 | loop (gh:List (Loc × Nat × TypeId)) (head:cu) (outs:List (XK × cu))
 | join (outs:List (XK × cu))
 | ZF (k:List Bool) (gh:List (Loc × Nat × TypeId)) (head:cu) (outs:List (XK × cu))
 | We (n:Nat) (a b:cE)
 | lF (gh:List (Loc × Nat × TypeId)) (head:cu) (outs:List (XK × cu))
def ID (n:Nat):cE→cE
 | .We m a b=>bif Nat.beq n m then ID n a else ID n b
 | c=>c
def az {V X:Type} (rd:V→Option (V ⊕ X)):Nat→V→Option X
 | 0,_=>none
 | n+1,v=>(rd v).bind fun o=>Sum.elim (fun v'=>az rd n v') (fun x=>some x) o
def lF {V X:Type} (rd:(V→Option X)→V→Option X):Nat→V→Option X
 | 0,_=>none
 | n+1,v=>rd (lF rd n) v
structure pK (E:Env) (g:FuncId) where
 f:List AV→List GO→Option (Bool × AV × List GO)
 ok:∀ args G r G',f args G=some (true,r,G')→cp E g args G (fun r' Cv=>r'=r∧Cv=G')
structure RQ (E:Env) (g:FuncId) where
 ps:aJ
 outs:List RF
 T:ps.T→Option (XT outs)
 ok:∀ x y,T x=some y→vT E g (ps.enc x) outs (fun z=>z=y)
structure ej where
 D:Gm
 yH:FuncId→Option aL
 pL:FuncId→Nat→Option cE
 fz:Bool
 N:Nat
 gt:(g:FuncId)→Option (pK D.toEnv g):=fun _=>none
 xt:(g:FuncId)→Option (RQ D.toEnv g):=fun _=>none
def pM {α:Type} (fz:Bool) (s:St) (K:St→α):α:=match fz with
 | true=>Dx s K
 | false=>match s with
  | ⟨sl,bx,G,m,ro,n⟩=>K ⟨sl,bx,G,m,ro,n⟩
theorem cO {α:Type} (fz:Bool) (s:St) (K:St→α):pM fz s K=K s:=by
 cases fz
 ·rfl
 ·exact Gn s K
abbrev nN (X:Type):=FuncId→List AV→List GO→(AV→List GO→Option X)→Option X
abbrev kU (X:Type):=Nat→List AV→List GO→(Bool→List GO→Option X)→Option X
section ev
variable {X:Type}
def zV (E:Env) (s:St) (o:Oper):Option (Int × Nat × (Nat→Oper)):=match o.op with
 | .index t x (.tmp y)=>match bB E s.ae (.tmp y),E.ti t with
  | .v (.int k n),some i=>match i.k with
   | .arr len _ _=>some (n,len,fun j=>{ o with op:=.index t x (.const (.int k j)) })
   | _=>none
  | _,_=>none
 | .indexAddr t x (.tmp y)=>match bB E s.ae (.tmp y),E.ti t with
  | .v (.int k n),some i=>match i.k with
   | .arr len _ _=>match bB E s.ae x with
    | .v (.ep _)=>none
    | _=>some (n,len,fun j=>{ o with op:=.indexAddr t x (.const (.int k j)) })
   | _=>none
  | _,_=>none
 | _=>none
def ui (E:Env) (fz:Bool) (f:FuncId) (g:Nat→Oper) (n:Int) (K:St→Option X) (s:St):Nat→Nat→Option X
 | 0,_=>none
 | m+1,j=>bif decide (n=(j:Int)) then (match ap E f s (g j) with
   | some (c,s')=>bif c then pM fz s' K else none
   | _=>none) else ui E fz f g n K s m (j+1)
def RR (E:Env) (fz:Bool) (call:nN X) (kD:kU X) (f:FuncId) (o:Oper) (K:St→Option X) (s:St):Option X:=
 match o.op with
 | .call { callee:=.value x,args,.. }=>match bB E s.ae x,kZ E s.ae args.toList with
  | .v (.fn g first cap),some l=>call g (first++l++cap) s.G (fun r G'=>pM fz ((s.bW G').put o.dst (.v r)) K)
  | .v (.yield id),some l=>kD id l s.G (fun b G'=>pM fz ((s.bW G').put o.dst (.v (.bool b))) K)
  | _,_=>none
 | .defer _=>none
 | .next x true=>match Iw s o.dst (bB E s.ae x) with
  | some (b,s1,s2)=>bif b then pM fz s1 K else pM fz s2 K
  | none=>none
 | .lookup t m k ok=>match uc E s t (bB E s.ae m) (bB E s.ae k) with
  | some (c,v,b)=>bif c then pM fz (s.put o.dst (.v (if ok then .bf [v,.bool b] else v))) K else none
  | none=>match ap E f s o with
   | some (c,s')=>bif c then pM fz s' K else none
   | _=>none
 | .mapUpdate t m k x=>match o.dst,uf E s t (bB E s.ae m) (bB E s.ae k) (bB E s.ae x) with
  | none,some (c,s')=>bif c then pM fz s' K else none
  | _,_=>none
 | .insert t m k x=>match o.dst,uf E s t (bB E s.ae m) (bB E s.ae k) (bB E s.ae x) with
  | none,some (c,s')=>bif c then pM fz s' K else none
  | _,_=>none
 | .call { callee:=.builtin .append,args,argTypes }=>match fO E f s o with
  | some (c,s')=>bif c then pM fz s' K else none
  | none=>match kZ E s.ae args.toList with
   | some l=>match zQ E s o.dst l argTypes.toList with
    | some (b,s1,c,s2)=>bif b then pM fz s1 K else bif c then pM fz s2 K else none
    | none=>match ap E f s o with
     | some (c,s')=>bif c then pM fz s' K else none
     | _=>none
   | none=>none
 | .call { callee:=.builtin .copy,args,argTypes }=>match kZ E s.ae args.toList with
  | some l=>match Iy E s o.dst l argTypes.toList with
   | some (c,s')=>bif c then pM fz s' K else none
   | none=>match ap E f s o with
    | some (c,s')=>bif c then pM fz s' K else none
    | _=>none
  | none=>none
 | _=>match zV E s o with
  | some (n,len,g)=>ui E fz f g n K s len 0
  | none=>match ap E f s o with
   | some (c,s')=>bif c then pM fz s' K else none
   | _=>none
def nO (E:Env) (fz:Bool) (call:nN X) (kD:kU X) (f:FuncId) (ops:List Oper) (o:Oper) (K:St→Option X) (s:St):Option X:=
 match o.guard with
 | none=>RR E fz call kD f o K s
 | some (j,want)=>match ny ops j with
  | none=>none
  | some d=>match lk s.ae d with
   | .v (.bool b)=>match want with
    | true=>bif b then pM fz (s.put (some d) (.v (.bool true))) (RR E fz call kD f o K) else pM fz ((s.put (some d) (.v (.bool false))).put o.dst (.v eX)) K
    | false=>bif b then pM fz ((s.put (some d) (.v (.bool true))).put o.dst (.v eX)) K else pM fz (s.put (some d) (.v (.bool false))) (RR E fz call kD f o K)
   | .v (.bf [])=>pM fz (s.put o.dst (.v eX)) K
   | _=>none
def zW (E:Env) (fz:Bool) (call:nN X) (kD:kU X) (f:FuncId) (ops:List Oper) (o:Oper) (K:St→Option X) (s:St):Option X:=
 match o.guard,iz E f s o with
 | none,some s'=>pM fz s' K
 | _,_=>nO E fz call kD f ops o K s
noncomputable def L4 {X:Type} (l:List Nat) (F:Nat→Option X):Option X:=match l with
 | []=>none
 | i :: r=>@ite _ (∀ j∈r,F j=F i) (Classical.propDecidable _) (F i) none
theorem Gu {X:Type} {l:List Nat} {F:Nat→Option X} {x:X} (h:L4 l F=some x):∀ i∈l,F i=some x:=by
 cases l with
 | nil=>cases h
 | cons i r=>
  have h:@ite _ (∀ j∈r,F j=F i) (Classical.propDecidable _) (F i) none=some x:=h
  by_cases hr:∀ j∈r,F j=F i
  ·rw [if_pos hr] at h
   intro j hj
   rcases List.mem_cons.1 hj with rfl | hj
   ·exact h
   ·rw [hr j hj]; exact h
  ·rw [if_neg hr] at h
   cases h
theorem L5 {X:Type} {l:List Nat} {F:Nat→Option X} {x:X} (hl:l≠[]) (h:∀ i∈l,F i=some x):L4 l F=some x:=by
 cases l with
 | nil=>exact absurd rfl hl
 | cons i r=>
  show @ite _ (∀ j∈r,F j=F i) (Classical.propDecidable _) (F i) none=some x
  have hr:∀ j∈r,F j=F i:=fun j hj=>by rw [h j (List.mem_cons_of_mem _ hj),h i List.mem_cons_self]
  rw [if_pos hr]
  exact h i List.mem_cons_self
noncomputable def uj (E:Env) (fz:Bool) (call:nN X) (kD:kU X) (f:FuncId) (ops:List Oper) (o:Oper) (K:St→Option X) (s:St):Option X:=
 match o.guard,sI E f s o,rD E s o with
 | none,some (c,s'),_=>bif c then pM fz s' K else none
 | none,none,some (c,s0,left,g)=>bif c then (bif left.isEmpty then pM fz s0 K else L4 left fun i=>bif (g i).1 then pM fz (g i).2 K else none) else none
 | _,_,_=>zW E fz call kD f ops o K s
noncomputable def zX (E:Env) (fz:Bool) (call:nN X) (kD:kU X) (f:FuncId) (ops:List Oper) (o:Oper) (K:St→Option X) (s:St):Option X:=
 match FK E f s o with
 | some (c,s')=>bif c then uj E fz call kD f ops o K s' else none
 | none=>uj E fz call kD f ops o K s
noncomputable def L6 (E:Env) (fz:Bool) (call:nN X) (kD:kU X) (f:FuncId) (ops:List Oper):List Oper→(St→Option X)→St→Option X
 | [],K,s=>K s
 | o :: rest,K,s=>zX E fz call kD f ops o (fun s'=>match yq E f o s' with
  | some s2=>L6 E fz call kD f ops rest K s2
  | none=>none) s
def RS (E:Env) (f:FuncId) (ops:List Oper) (o:Oper) (s:St):Bool:=match o.op,o.dst with
 | .lookup t m k ok,some d=>match AG ops s o,uc E s t (bB E s.ae m) (bB E s.ae k) with
  | some true,some (c,v,b)=>c&&zI (.v (if ok then .bf [v,.bool b] else v)) (lk s.ae d)
  | _,_=>X7 E f ops o s
 | _,_=>X7 E f ops o s
def oE (E:Env) (f:FuncId) (ops:List Oper):List Nat→St→Bool
 | [],_=>true
 | k :: l,s=>(match nth ops k with
  | some ok=>RS E f ops ok s
  | none=>true)&&oE E f ops l s
def oT (E:Env) (fz:Bool) (call:nN X) (kD:kU X) (ey:Option X→Option X→Option X) (f:FuncId) (ops:List Oper):DT→(St→Option X)→St→Option X
 | .done,K,s=>K s
 | .take j _ t,K,s=>match nth ops j with
  | some oj=>nO E fz call kD f ops oj (oT E fz call kD ey f ops t K) s
  | none=>none
 | .br i re _ t .stop,K,s=>match nth ops i with
  | some oi=>nO E fz call kD f ops oi (fun s'=>bif oE E f ops re s' then oT E fz call kD ey f ops t K s' else none) s
  | none=>none
 | .br i re _ t more,K,s=>ey (match nth ops i with
  | some oi=>nO E fz call kD f ops oi (fun s'=>bif oE E f ops re s' then oT E fz call kD ey f ops t K s' else none) s
  | none=>none) (oT E fz call kD ey f ops more K s)
 | .stop,_,_=>none
 | .al j W t,K,s=>match nth ops j with
  | some oj=>bif Rw E f oj W s then nO E fz call kD f ops oj (oT E fz call kD ey f ops t K) s else none
  | none=>none
end ev
def yI {X:Type} (N:St→Option X) (Q:Exit→St→Option X):Exit→St→Option X
 | .normal,s=>N s
 | e,s=>Q e s
def IE {X:Type} (id:Nat) (Q:Exit→St→Option X):Exit→St→Option X
 | .exit iS,s=>bif Nat.beq iS id then Q .normal s else Q (.exit iS) s
 | e,s=>Q e s
def RT {X:Type} (Q:Exit→St→Option X):Exit→St→Option X
 | .goto _,_=>none
 | e,s=>Q e s
def IF {X:Type} (E:Env) (fn:Func) (K:AV→List GO→Option X):Exit→St→Option X
 | .normal,s | .ret,s=>match nA s.marks s.G with
  | some G=>match H4 E (s.bW G) fn with
   | some r=>K r G
   | none=>none
  | none=>none
 | _,_=>none
def td (s:St) (head:cu) (outs:List (XK × cu)):Exit→St→Option (head.ps.T ⊕ JT outs)
 | .normal,s'=>(head.dec s s').bind fun v=>some (.inl v)
 | e,s'=>(kq s outs e s').bind fun o=>some (.inr o)
noncomputable def AH {X:Type} (a b:Option X):Option X:=@ite _ (a=b) (Classical.propDecidable _) a none
def te {X:Type} (ey:Option X→Option X→Option X):Prop:=∀ a b x,ey a b=some x→a=some x∧b=some x
def DK {X:Type} (id:Nat) (K:Bool→List GO→Option X):Exit→St→Option X:=fun e s=>match nth s.G id with
 | some (.loop _ _ fn sl n ps qB bd d _)=>match e with
  | .normal=>K true (aA s.G id (.loop false none fn sl n ps qB bd d false))
  | .ret=>K false (aA s.G id (.loop false (some .ret) fn sl n ps qB bd d true))
  | .exit i=>K false (aA s.G id (.loop false (some (.exit i)) fn sl n ps qB bd d true))
  | _=>none
 | _=>none
def Yd (fp:Nat):Nat:=fp % 4096
def fpP (fp:Nat):Nat:=fp / 4096
abbrev US:=FuncId→Nat→Code→(X:Type)→(Option X→Option X→Option X)→(Exit→St→Option X)→St→Option X
section
variable (C:ej) (ih:US)
def BI {X:Type} (ey:Option X→Option X→Option X):nN X:=fun g args G K=>
 bif C.D.okF g then match C.D.P.funcs[g]? with
   | some fn=>match fn.body with
    | some b => bif !(fn.name == "runtime.NumGoroutine") then ih g 1 b X ey (IF C.D.toEnv fn (bif C.D.xl g 131072 then RJ C.D.toEnv (C.D.xl g 131073) (C.D.xl g 131074) fn.resultTypes.toList K else K)) (St.init fn.ntmps args G) else none
    | none=>none
   | none=>none
  else none
def BJ {X:Type} (ey:Option X→Option X→Option X):nN X:=fun g args G K=>
 match C.yH g with
 | some e=>(e.ps.dec args).bind fun x=>(e.T x).bind fun y=>K (e.p.enc y) G
 | none=>match C.gt g with
  | some e=>match e.f args G with
   | some (c,r,G')=>bif c then K r G' else none
   | none=>none
  | none=>match C.xt g with
   | some e=>(e.ps.dec args).bind fun x=>(e.T x).bind fun o=>UQ G K e.outs o
   | none=>BI C ih ey g args G K
def L7 (n:Nat):List Tmp→Bool
 | []=>true
 | t :: l=>Nat.blt t n&&L7 n l
def L8 {X:Type} (ey:Option X→Option X→Option X):kU X:=fun id args G K=>match nth G id with
 | some (.loop false _ fp sl n ps qB bd _ false)=>
  bif Nat.beq args.length ps.length&&L7 n ps&&bA (C.D.dt (Yd fp)) qB&&bA (C.D.dt (Yd fp)) bd then
   ih (Yd fp) (2 * fpP fp) qB X ey (fun e s1=>match e with
    | .normal=>match nth s1.G id with
     | some (.loop false p fn sl n ps qB UP d false)=>ih (Yd fp) (2 * fpP fp+1) bd X ey (DK id K) (s1.bW (aA s1.G id (.loop true p fn sl n ps qB UP d false)))
     | _=>none
    | _=>none) (St.round id (vO ps args sl) n G)
  else none
 | _=>none
noncomputable def vX (f:FuncId) (p:Nat) (c:Code) (X:Type) (ey:Option X→Option X→Option X) (K:Exit→St→Option X) (s:St):Option X:=
 match c with
 | .skip=>K .normal s
 | .label _=>K .normal s
 | .seq x y=>ih f (2 * p) x X ey (yI (ih f (2 * p+1) y X ey K) K) s
 | .cond c x y=>match bB C.D.toEnv s.ae c with
  | .v (.bool b)=>bif b then ih f (2 * p) x X ey K s else ih f (2 * p+1) y X ey K s
  | _=>none
 | .block id c=>ih f (2 * p) c X ey (IE id K) s
 | .exit id=>K (.exit id) s
 | .ret=>K .ret s
 | .region _ ops false=>L6 C.D.toEnv C.fz (BJ C ih ey) (L8 C ih ey) f ops.toList ops.toList (K .normal) s
 | .region id ops true=>match C.D.dt f id with
  | some pl=>oT C.D.toEnv C.fz (BJ C ih ey) (L8 C ih ey) ey f ops.toList pl.T (K .normal) s
  | none=>none
 | .scope c=>ih f (2 * p) c X ey (RT K) s
 | .loop c=>ih f (2 * p) c X ey (yI (ih f p (.loop c) X ey K) K) s
 | .rangeFunc g ps qB bd=>match s.ro with
  | none=>match bB C.D.toEnv s.ae g with
   | .v (.fn h first cap)=>BJ C ih ey h (first++[.yield (s.G.length+1)]++cap) (s.G++[.defers true]++[.loop false none (4096 * p+f) (gq s.ae) s.n ps.toList qB bd s.G.length false])
    (fun _ G'=>match nth G' (s.G.length+1) with
     | some (.loop busy pending _ _ _ _ _ _ _ done)=>bif !busy || done then
       match pending with
       | none=>pM C.fz ⟨s.ae,s.boxes,aA G' (s.G.length+1) .dead,s.G.length :: s.marks,s.ro,s.n⟩ (K .normal)
       | some .ret=>pM C.fz ⟨s.ae,s.boxes,aA G' (s.G.length+1) .dead,s.G.length :: s.marks,s.ro,s.n⟩ (K .ret)
       | some (.exit i)=>pM C.fz ⟨s.ae,s.boxes,aA G' (s.G.length+1) .dead,s.G.length :: s.marks,s.ro,s.n⟩ (K (.exit i))
       | _=>none
      else none
     | _=>none)
   | _=>none
  | some _=>none
 | _=>none
def DL:List Oper→List Tmp
 | []=>[]
 | o :: l=>match o.dst with
  | some d=>d :: DL l
  | none=>DL l
def jX:Code→List Tmp→List Tmp
 | .region _ ops _,r=>DL ops.toList++r
 | .seq x y,r=>jX x (jX y r)
 | .cond _ x y,r=>jX x (jX y r)
 | .block _ c,r=>jX c r
 | .scope c,r=>jX c r
 | .loop c,r=>jX c r
 | .rangeFunc _ ps a b,r=>ps.toList++jX a (jX b r)
 | _,r=>r
def vY (W:List Tmp) (t:cu):cu:=⟨t.ps,t.sl,W,t.bx,t.g,t.UN⟩
def qO (W:List Tmp):List (XK × cu)→List (XK × cu)
 | []=>[]
 | (k,t) :: l=>(k,vY W t) :: qO W l
def IG:Code→Bool
 | .loop _=>true
 | _=>false
noncomputable def Wf {X:Type} (f:FuncId) (p:Nat) (c:Code) (outs:List (XK × cu)) (K:Exit→St→Option X) (s:St):Option X:=
 (vX C ih f p c (JT outs) AH (kq s outs) s).bind fun o=>Lo s outs o K
noncomputable def Qh {X:Type} (f:FuncId) (p:Nat) (b:Code) (s1:St) (head:cu) (outs:List (XK × cu)) (K:Exit→St→Option X):Option X:=
 (head.dec s1 s1).bind fun v0=>(az (fun v=>ih f (2 * p) b (head.ps.T ⊕ JT outs) AH (td s1 head outs) (head.st s1 v)) C.N v0).bind fun o=>Lo s1 outs o K
def IH (s:St) (head:cu) (outs:List (XK × cu)) (k:head.ps.T→Option (JT outs)):Exit→St→Option (JT outs)
 | .normal,s'=>(head.dec s s').bind k
 | e,s'=>kq s outs e s'
noncomputable def II {X:Type} (f:FuncId) (p:Nat) (b:Code) (s1:St) (head:cu) (outs:List (XK × cu)) (K:Exit→St→Option X):Option X:=
 (head.dec s1 s1).bind fun v0=>(lF (fun k v=>ih f (2 * p) b (JT outs) AH (IH s1 head outs k) (head.st s1 v)) C.N v0).bind fun o=>Lo s1 outs o K
def IJ {X:Type} (ey:Option X→Option X→Option X) (f:FuncId) (K:Exit→St→Option X):List Bool→Nat→Code→St→Option X
 | [],_,_,s=>K .normal s
 | true :: k,q,.seq x y,s=>ih f (2 * q) x X ey (yI (IJ ey f K k (2 * q+1) y) K) s
 | false :: k,q,.seq x _,s=>IJ ey f K k (2 * q) x s
 | _ :: _,_,_,_=>none
def L9 {X:Type} (ey:Option X→Option X→Option X) (f:FuncId):List Bool→Nat→Code→(Exit→St→Option X)→St→Option X
 | [],q,c,K,s=>ih f q c X ey K s
 | true :: k,q,.seq _ y,K,s=>L9 ey f k (2 * q+1) y K s
 | false :: k,q,.seq x y,K,s=>L9 ey f k (2 * q) x (yI (ih f (2 * q+1) y X ey K) K) s
 | _ :: _,_,_,_,_=>none
noncomputable def Wg {X:Type} (f:FuncId) (p:Nat) (b:Code) (k:List Bool) (s1:St) (head:cu) (outs:List (XK × cu)) (K:Exit→St→Option X):Option X:=
 ((IJ ih AH f (td s1 head outs) k (2 * p) b s1).bind fun r0=>
  Sum.elim (fun v0=>az (fun v=>L9 ih AH f k (2 * p) b (yI (IJ ih AH f (td s1 head outs) k (2 * p) b) (td s1 head outs)) (head.st s1 v)) C.N v0) (fun x=>some x) r0).bind fun o=>Lo s1 outs o K
noncomputable def vZ (f:FuncId) (p:Nat) (c:Code) (X:Type) (ey:Option X→Option X→Option X) (K:Exit→St→Option X) (s:St):Option X:=
 match C.pL f p with
 | none=>vX C ih f p c X ey K s
 | some ct=>match ID s.G.length ct with
  | .join outs=>bif IG c then none else Wf C ih f p c (qO (jX c []) outs) K s
  | .loop gh head outs=>match c with
   | .loop b=>match gn gh s with
    | some s1=>Qh C ih f p b s1 (vY (jX b []) head) (qO (jX b []) outs) K
    | none=>none
   | _=>none
  | .ZF k gh head outs=>match c with
   | .loop b=>match gn gh s with
    | some s1=>Wg C ih f p b k s1 (vY (jX b []) head) (qO (jX b []) outs) K
    | none=>none
   | _=>none
  | .lF gh head outs=>match c with
   | .loop b=>match gn gh s with
    | some s1=>II C ih f p b s1 (vY (jX b []) head) (qO (jX b []) outs) K
    | none=>none
   | _=>none
  | .We _ _ _=>none
end
noncomputable def ev (C:ej):Nat→US:=Nat.rec (fun _ _ _ _ _ _ _=>none) (fun _ ih=>vZ C ih)
end Go.Am
namespace Go.Am
open Go
section ext
variable {E:Env} {f:FuncId} {s s':St} {o:Oper}
theorem aO.put (s:St) (d:Option Tmp) (x:SV):aO s (s.put d x):=by
 cases d with
 | none=>exact aO.refl s
 | some d=>
  simp only [St.put]
  split
  ·exact ⟨⟨[_],rfl⟩,⟨[],rfl⟩,rfl⟩
  ·exact aO.refl s
theorem aO.bW (s:St) (G:List GO):aO s (s.bW G):=⟨⟨[],rfl⟩,⟨[],rfl⟩,rfl⟩
theorem aO.dC (s:St) (o:GO):aO s (s.dC o):=⟨⟨[],rfl⟩,⟨[],rfl⟩,rfl⟩
theorem aO.tz (s:St) (d:Nat) (cs:List AV):aO s (s.tz d cs):=⟨⟨[],rfl⟩,⟨[_],rfl⟩,rfl⟩
theorem aO.kill (s:St) (d:Nat):aO s (s.kill d):=⟨⟨[_],rfl⟩,⟨[],rfl⟩,rfl⟩
theorem Gv {c:Bool} {s':St} (h:fO E f s o=some (c,s')):aO s s':=by
 unfold fO at h
 repeat' (split at h)
 all_goals (first | (cases h; done) | skip)
 all_goals (injection h with h; injection h with _ h; subst h; exact (aO.bW _ _).trans (aO.put _ _ _))
theorem DM {c:Bool} (h:ap E f s o=some (c,s')):aO s s':=by
 have alloc:∀ {el:TypeId} {cs:List AV} {c:Bool} {s':St},er E f s o.dst el cs=some (c,s')→aO s s':=by
  intro el cs c s' h
  unfold er at h
  repeat' (split at h)
  all_goals (first | (cases h; done) | skip)
  ·injection h with h; injection h with _ h; subst h; exact (aO.dC _ _).trans (aO.put _ _ _)
  ·injection h with h; injection h with _ h; subst h; exact ((aO.kill _ _).trans (aO.tz _ _ _)).trans (aO.put _ _ _)
 have store:∀ {t:TypeId} {p x:SV} {s':St},iU E s t p x=some s'→aO s s':=by
  intro t p x s' h
  unfold iU at h
  repeat' (split at h)
  all_goals (first | (cases h; done) | skip)
  all_goals (injection h with h; subst h)
  ·exact aO.tz _ _ _
  ·exact aO.bW _ _
 have De:∀ {t:TypeId} {p x:SV} {c:Bool} {s':St},iV E s t p x=some (c,s')→aO s s':=by
  intro t p x c s' h
  unfold iV at h
  repeat' (split at h)
  all_goals (first | (cases h; done) | skip)
  all_goals (injection h with h; injection h with _ h; subst h)
  all_goals (first | exact aO.bW _ _ | exact store (by assumption))
 have blt:∀ {b:Builtin} {l:List AV} {tys:List TypeId} {c:Bool} {s':St},bN E s o.dst b l tys=some (c,s')→aO s s':=by
  intro b l tys c s' h
  unfold bN at h
  repeat' (split at h)
  all_goals (first | (cases h; done) | skip)
  all_goals (injection h with h; injection h with _ h; subst h)
  all_goals (first | exact aO.put _ _ _ | exact (aO.bW _ _).trans (aO.put _ _ _) | exact aO.bW _ _)
 have update:∀ {t:TypeId} {m k x:SV} {s':St},eu E s t m k x=some s'→aO s s':=by
  intro t m k x s' h
  unfold eu at h
  repeat' (split at h)
  all_goals (first | (cases h; done) | skip)
  all_goals (injection h with h; subst h; exact aO.bW _ _)
 have next:∀ {x:SV} {s':St},kw s o.dst x=some s'→aO s s':=by
  intro x s' h
  unfold kw at h
  split at h
  ·split at h
   ·rename_i l pos hg
    cases hb:Nat.blt pos l.length <;> rw [hb] at h <;> simp only [cond_true,cond_false] at h <;> cases h
    ·exact aO.put _ _ _
    ·exact (aO.bW _ _).trans (aO.put _ _ _)
   ·cases h
  ·cases h
 have Df:∀ {t:TypeId} {m k:SV} {c:Bool} {v:AV} {s':St},fw E s t m k=some (c,v,s')→aO s s':=by
  intro t m k c v s' h
  unfold fw at h
  repeat' (split at h)
  all_goals (first | (cases h; done) | skip)
  all_goals (injection h with h; injection h with _ h; injection h with _ h; subst h; exact aO.bW _ _)
 have Dg:∀ {m st x:SV} {c:Bool} {s':St},dM s m st x=some (c,s')→aO s s':=by
  intro m st x c s' h
  unfold dM at h
  repeat' (split at h)
  all_goals (first | (cases h; done) | skip)
  all_goals (injection h with h; injection h with _ h; subst h; exact aO.bW _ _)
 unfold ap at h
 repeat' (split at h)
 all_goals (first | (cases h; done) | exact alloc h | exact blt h | (rename_i hf; cases h; exact Gv hf) | skip)
 all_goals (injection h with h; injection h with _ h; subst h)
 all_goals (first | exact aO.put _ _ _ | exact (aO.dC _ _).trans (aO.put _ _ _) | skip)
 all_goals (first | exact De (by assumption) | exact update (by assumption) | exact (Df (by assumption)).trans (aO.put _ _ _) | exact Dg (by assumption) | exact next (by assumption))
theorem cp.fM {g:FuncId} {args Qi:List AV} {G:List GO} {Q:AV→List GO→Prop} (hw:cz args Qi) (h:cp E g Qi G Q):cp E g args G Q:=
 ⟨h.1,fun R w cs hg hl=>h.2 R w cs hg (hw.rel hl)⟩
theorem BK {K:St→Prop} (h:jo E f o K s):jo E f o (fun s'=>K s'∧aO s s') s:=by
 unfold jo at *
 split
 ·rename_i x args tys ho
  rw [ho] at h
  simp only at h
  split at h
  ·exact h.mono fun r G' hk=>⟨hk,(aO.bW _ _).trans (aO.put _ _ _)⟩
  ·exact h.mono fun r G' hk=>⟨hk,(aO.bW _ _).trans (aO.put _ _ _)⟩
  ·exact h
 ·rename_i ho
  rw [ho] at h
  exact h
 ·rename_i nc nd
  split at h
  ·rename_i ho
   exact absurd ho (nc _ _ _)
  ·exact h.elim
  ·split at h
   ·rename_i c s' hs
    obtain ⟨hc,hk⟩:=h.out
    exact dh.mk hc ⟨hk,DM hs⟩
   ·exact h.elim
theorem kE {K:St→Prop} {ops:List Oper} (h:b7 E f ops o K s):b7 E f ops o (fun s'=>K s'∧aO s s') s:=by
 unfold b7 at *
 split
 ·rename_i hg
  rw [hg] at h
  exact BK h
 ·rename_i j want hg
  rw [hg] at h
  simp only at h
  split
  ·rename_i hd
   rw [hd] at h
   exact h
  ·rename_i d hd
   rw [hd] at h
   simp only at h
   split
   ·rename_i b hb
    rw [hb] at h
    simp only at h
    refine ⟨fun e=>?_,fun e=>⟨h.2 e,(aO.put _ _ _).trans (aO.put _ _ _)⟩⟩
    exact rX (BK (h.1 e)) fun s' hh=>⟨hh.1,(aO.put _ _ _).trans hh.2⟩
   ·rename_i hb
    rw [hb] at h
    exact ⟨h,aO.put _ _ _⟩
   ·rename_i hb jI
    split at h
    ·rename_i b Hi
     exact absurd Hi (hb b)
    ·rename_i Hi
     exact absurd Hi jI
    ·exact h
theorem xF {K K':St→Prop} {ops:List Oper} (h:fc E f ops o K s) (hK:∀ s,K s→K' s):fc E f ops o K' s:=by
 unfold fc at *
 split
 ·rename_i s' h1 h2
  rw [h1,h2] at h
  exact hK _ h
 ·rename_i hn
  split at h
  ·rename_i s' h1 h2
   exact absurd h2 (hn s' h1)
  ·exact b8 h hK
theorem tO {s':St} (h:iz E f s o=some s'):aO s s':=by
 unfold iz at h
 repeat' (split at h)
 all_goals (first | (cases h; done) | skip)
 all_goals (injection h with h; subst h; exact (aO.dC _ _).trans (aO.put _ _ _))
theorem zY {K:St→Prop} {ops:List Oper} (h:fc E f ops o K s):fc E f ops o (fun s'=>K s'∧aO s s') s:=by
 unfold fc at *
 split
 ·rename_i s' h1 h2
  rw [h1,h2] at h
  exact ⟨h,tO h2⟩
 ·rename_i hn
  split at h
  ·rename_i s' h1 h2
   exact absurd h2 (hn s' h1)
  ·exact kE h
theorem kV {K K':St→Prop} {ops:List Oper} (h:eE E f ops o K s) (hK:∀ s,K s→K' s):eE E f ops o K' s:=by
 unfold eE at *
 split at h
 ·obtain ⟨h1,h2⟩:=h.out
  exact dh.mk h1 (hK _ h2)
 ·obtain ⟨h1,h2,h3⟩:=h.out
  exact dh.mk h1 ⟨fun e=>hK _ (h2 e),fun i hi=>let ⟨k1,k2⟩:=(h3 i hi).out; dh.mk k1 (hK _ k2)⟩
 ·exact xF h hK
theorem Gw {c:Bool} {s':St} (h:sI E f s o=some (c,s')):aO s s':=by
 unfold sI at h
 repeat' (split at h)
 all_goals (first | (cases h; done) | skip)
 all_goals (injection h with h; injection h with _ h; subst h; exact (aO.bW _ _).trans (aO.put _ _ _))
theorem DN {c:Bool} {s0:St} {left:List Nat} {g:Nat→Bool × St} (h:rD E s o=some (c,s0,left,g)):aO s s0∧∀ i,aO s (g i).2:=by
 unfold rD at h
 split at h
 ·unfold xW at h
  split at h
  ·split at h
   ·split at h
    ·cases h
     exact ⟨aO.put _ _ _,fun i=>(aO.bW _ _).trans (aO.put _ _ _)⟩
    ·cases h
   ·cases h
  ·cases h
 ·cases h
theorem qP {K:St→Prop} {ops:List Oper} (h:eE E f ops o K s):eE E f ops o (fun s'=>K s'∧aO s s') s:=by
 unfold eE at *
 split at h
 ·rename_i hb
  obtain ⟨h1,h2⟩:=h.out
  exact dh.mk h1 ⟨h2,Gw hb⟩
 ·rename_i hb
  obtain ⟨h1,h2,h3⟩:=h.out
  obtain ⟨k1,k2⟩:=DN hb
  exact dh.mk h1 ⟨fun e=>⟨h2 e,k1⟩,fun i hi=>let ⟨q1,q2⟩:=(h3 i hi).out; dh.mk q1 ⟨q2,k2 i⟩⟩
 ·exact zY h
theorem kW {K K':St→Prop} {ops:List Oper} (h:eF E f ops o K s) (hK:∀ s,K s→K' s):eF E f ops o K' s:=by
 unfold eF at *
 split at h
 ·exact ⟨h.1,kV h.2 hK⟩
 ·exact kV h hK
theorem gB {cut wk:Bool}:∀ {l:List Operand} {s s':St} {c:Bool},fY cut wk l s=(c,s')→aO s s'
 | [],s,s',c,h=>by
  simp only [fY] at h
  cases h
  exact aO.refl _
 | .tmp t :: l,s,s',c,h=>by
  unfold fY at h
  split at h
  ·rename_i c1 s1 h1
   cases h2:fY cut wk l s1 with
   | mk c2 s2=>
   rw [h2] at h
   simp only [Prod.mk.injEq] at h
   obtain ⟨_,rfl⟩:=h
   exact (nu h1).trans (gB h2)
  ·exact gB h
 | .const _ :: l,s,s',c,h=>gB (l:=l) h
 | .global _ :: l,s,s',c,h=>gB (l:=l) h
 | .func _ :: l,s,s',c,h=>gB (l:=l) h
theorem IK {s s':St} {o:Oper} {c:Bool} (h:FK E f s o=some (c,s')):aO s s':=by
 unfold FK at h
 split at h
 ·split at h
  ·injection h with h
   exact gB h
  ·cases h
 ·cases h
theorem zZ {K:St→Prop} {ops:List Oper} (h:eF E f ops o K s):eF E f ops o (fun s'=>K s'∧aO s s') s:=by
 unfold eF at *
 split at h
 ·rename_i c s' hz
  exact ⟨h.1,kV (qP h.2) fun s2 h2=>⟨h2.1,(IK hz).trans h2.2⟩⟩
 ·exact qP h
theorem v7 {s s':St} {l:Loc} {sz:Nat} {e:TypeId} (h:nr s l sz e=some s'):aO s s':=by
 unfold nr at h
 cases Dc:Nat.ble 196608 sz with
 | true=>rw [Dc] at h; cases h; exact aO.dC _ _
 | false=>
 rw [Dc] at h
 cases l with
 | slot t=>
  simp only at h
  split at h
  ·cases h; exact ⟨⟨[_],rfl⟩,⟨[],rfl⟩,rfl⟩
  ·cases h
 | box k i=>
  simp only at h
  split at h
  ·split at h
   ·cases h; exact ⟨⟨[],rfl⟩,⟨[_],rfl⟩,rfl⟩
   ·cases h
  ·cases h
 | row id i=>
  simp only at h
  split at h
  ·split at h
   ·cases h; exact ⟨⟨[],rfl⟩,⟨[],rfl⟩,rfl⟩
   ·cases h
  ·cases h
theorem mw:∀ {l:List (Loc × Nat × TypeId)} {s s':St},gn l s=some s'→aO s s'
 | [],s,s',h=>by
  simp only [gn] at h
  cases h
  exact aO.refl _
 | (l,sz,e) :: r,s,s',h=>by
  unfold gn at h
  split at h
  ·rename_i s1 h1
   exact (v7 h1).trans (mw h)
  ·cases h
theorem nP:∀ {l:List (Loc × Nat × TypeId)} {s:St},aO s (iw l s)
 | [],s=>aO.refl _
 | (l,sz,e) :: r,s=>by
  unfold iw
  split
  ·rename_i s1 h1
   exact (v7 h1).trans nP
  ·exact nP
theorem Gx {s s':St} {o:Oper} (h:yq E f o s=some s'):aO s s':=by
 unfold yq at h
 split at h
 ·cases h; exact aO.refl _
 ·split at h
  ·split at h
   ·rename_i hz
    cases h
    exact nu hz
   ·cases h
  ·split at h
   ·cases h; exact aO.refl _
   ·split at h
    ·cases h; exact nP
    ·cases h
theorem v8 {K K':St→Prop} {ops:List Oper} (hK:∀ s,K s→K' s):∀ {l:List Oper} {s:St},nz E f ops l K s→nz E f ops l K' s
 | [],s,h=>hK s h
 | _ :: _,_,h=>kW h fun s' h'=>by
  unfold yu at *
  split at h'
  ·exact v8 hK h'
  ·exact h'.elim
theorem we {K K':St→Prop} {ops:List Oper} (hK:∀ s,K s→K' s) {T:DT} {s:St} (h:rr E f ops T K s):rr E f ops T K' s:=
 eK (ops:=⟨ops⟩) hK T s h
theorem yJ {K:St→Prop} {ops:List Oper}:∀ {l:List Oper} {s:St},nz E f ops l K s→nz E f ops l (fun s'=>K s'∧aO s s') s
 | [],s,h=>⟨h,aO.refl s⟩
 | o :: l,s,h=>by
  simp only [nz] at *
  refine kW (zZ h) fun s' hh=>?_
  obtain ⟨h1,h2⟩:=hh
  unfold yu at *
  split at h1
  ·rename_i s2 hp
   exact v8 (fun s3 h3=>⟨h3.1,(h2.trans (Gx hp)).trans h3.2⟩) (yJ h1)
  ·exact h1.elim
theorem qQ {K:St→Prop} {ops:List Oper}:∀ {T:DT} {s:St},rr E f ops T K s→rr E f ops T (fun s'=>K s'∧aO s s') s
 | .done,s,h=>⟨h,aO.refl s⟩
 | .stop,_,_=>trivial
 | .take j C T,s,h=>by
  unfold rr at h ⊢
  split
  ·rename_i oj hj
   rw [hj] at h
   exact b8 (kE h) fun s' hh=>we (fun s2 h2=>⟨h2.1,hh.2.trans h2.2⟩) (qQ hh.1)
  ·rename_i hj
   rw [hj] at h
   exact h
 | .al j W T,s,h=>by
  unfold rr at h ⊢
  split
  ·rename_i oj hj
   rw [hj] at h
   exact ⟨h.1,b8 (kE h.2) fun s' hh=>we (fun s2 h2=>⟨h2.1,hh.2.trans h2.2⟩) (qQ hh.1)⟩
  ·rename_i hj
   rw [hj] at h
   exact h
 | .br i re C T more,s,h=>by
  unfold rr at h ⊢
  refine ⟨?_,qQ h.2⟩
  have h:=h.1
  split
  ·rename_i oj hj
   rw [hj] at h
   exact b8 (kE h) fun s' hh=>⟨hh.1.1,we (fun s2 h2=>⟨h2.1,hh.2.trans h2.2⟩) (qQ hh.1.2)⟩
  ·rename_i hj
   rw [hj] at h
   exact h
end ext
def kX (E:Env) (c:Code) (Q:Exit→St→Prop) (s:St):Prop:=fb E c (fun e s'=>Q e s'∧aO s s') s
section sound
variable {E:Env} {f:FuncId} {s:St} {X:Type} {fz:Bool} {call:nN X} {kD:kU X} {ey:Option X→Option X→Option X} {x:X}
def my (E:Env) (call:nN X):Prop:=∀ g args G K x,call g args G K=some x→cp E g args G (fun r G'=>K r G'=some x)
def tf (E:Env) (kD:kU X):Prop:=∀ id args G K x,kD id args G K=some x→jN E id args G (fun b G'=>K b G'=some x)
theorem bi {α:Type} {c:Bool} {a:Option α} {x:α} (h:(bif c then a else none)=some x):c=true∧a=some x:=by
 cases c
 ·cases h
 ·exact ⟨rfl,h⟩
theorem bind_some {α β:Type} {a:Option α} {k:α→Option β} {x:β} (h:a.bind k=some x):∃ y,a=some y∧k y=some x:=by
 cases a with
 | none=>cases h
 | some y=>exact ⟨y,rfl,h⟩
theorem Gy {o:Oper} {n:Int} {len:Nat} {g:Nat→Oper} (h:zV E s o=some (n,len,g)) {j:Nat} (hj:n=(j:Int)):ap E f s (g j)=ap E f s o:=by
 subst hj
 unfold zV at h
 have FR:∀ k:IntKind,bB E s.ae (.const (.int k (j:Int)))=.v (.int k j):=fun k=>rfl
 split at h
 ·rename_i t x y ho
  split at h
  ·rename_i k n i h1 h2
   split at h
   ·injection h with h; injection h with e1 h; injection h with e2 h
    subst h; subst e1
    simp only [ap,ho,FR,h1]
   ·cases h
  ·cases h
 ·rename_i t x y ho
  split at h
  ·rename_i k n i h1 h2
   split at h
   ·split at h
    ·cases h
    ·injection h with h; injection h with e1 h; injection h with e2 h
     subst h; subst e1
     simp only [ap,ho,FR,h1]
   ·cases h
  ·cases h
 ·cases h
theorem pf {o:Oper} {n:Int} {len:Nat} {g:Nat→Oper} (hi:zV E s o=some (n,len,g)) {K:St→Option X}:∀ (m j:Nat),ui E fz f g n K s m j=some x→∃ c s',ap E f s o=some (c,s')∧c=true∧K s'=some x
 | 0,_,h=>by cases h
 | m+1,j,h=>by
  unfold ui at h
  by_cases hn:n=(j:Int)
  ·rw [decide_eq_true hn,cond_true,Gy hi hn] at h
   split at h
   ·rename_i c s' hs
    obtain ⟨h1,h2⟩:=bi h
    rw [cO] at h2
    exact ⟨c,s',hs,h1,h2⟩
   ·cases h
  ·rw [decide_eq_false hn,cond_false] at h
   exact pf hi m (j+1) h
theorem wg {ops:List Oper} {o:Oper} (h:RS E f ops o s=true):Dn E f ops o s:=by
 unfold RS at h
 split at h
 ·rename_i t m k ok d ho hd
  split at h
  ·rename_i c v b hg hs
   rw [Bool.and_eq_true] at h
   obtain ⟨rfl,h⟩:=h
   have hn:=qL hs
   unfold Dn
   rw [hg]
   simp only
   have e:ap E f s o=some (true,s.put o.dst (.v (if ok then .bf [v,.bool b] else v))):=by simp only [ap,ho,hn]
   rw [hd] at e
   rw [hd,e]
   refine ⟨rfl,?_⟩
   unfold St.put
   simp only
   split
   ·rw [ay]
    exact yC h
   ·rfl
  ·exact yD h
 ·exact yD h
theorem pg {ops:List Oper}:∀ {l:List Nat} {s:St},oE E f ops l s=true→yz E f ops l s
 | [],_,_=>trivial
 | k :: l,s,h=>by
  unfold oE at h
  unfold yz
  rw [Bool.and_eq_true] at h
  refine ⟨?_,pg h.2⟩
  have h:=h.1
  split at h
  ·rename_i hk
   first
    | exact wg h
    | rw [hk]; exact wg h
  ·rename_i hk
   first
    | trivial
    | rw [hk]; trivial
theorem sb (hc:my E call) (hr:tf E kD) {o:Oper} {K:St→Option X} (h:RR E fz call kD f o K s=some x):jo E f o (fun s=>K s=some x) s:=by
 unfold jo
 split
 ·rename_i y args tys ho
  unfold RR at h
  rw [ho] at h
  simp only at h
  split at h
  ·rename_i h1 h2
   rw [h1,h2]
   refine (hc _ _ _ _ _ h).mono fun r G' hk=>?_
   rw [cO] at hk
   exact hk
  ·rename_i h1 h2
   rw [h1,h2]
   refine (hr _ _ _ _ _ h).mono fun r G' hk=>?_
   rw [cO] at hk
   exact hk
  ·cases h
 ·rename_i ho
  unfold RR at h
  rw [ho] at h
  cases h
 ·rename_i nc nd
  unfold RR at h
  split at h
  ·rename_i ho
   exact absurd ho (nc _ _ _)
  ·cases h
  ·rename_i y ho
   split at h
   ·rename_i b s1 s2 hs
    have hn:=DG hs
    have e:ap E f s o=some (true,bif b then s1 else s2):=by simp only [ap,ho,hn]
    rw [e]
    refine dh.mk rfl ?_
    rw [cO,cO] at h
    cases b <;> exact h
   ·cases h
  ·rename_i t m k ok ho
   split at h
   ·rename_i c v b hs
    obtain ⟨h1,h2⟩:=bi h
    subst h1
    rw [cO] at h2
    have hn:=qL hs
    have e:ap E f s o=some (true,s.put o.dst (.v (if ok then .bf [v,.bool b] else v))):=by simp only [ap,ho,hn]
    rw [e]
    exact dh.mk rfl h2
   ·split at h
    ·rename_i c s' hs
     obtain ⟨h1,h2⟩:=bi h
     rw [cO] at h2
     rw [hs]
     exact dh.mk h1 h2
    ·cases h
  ·rename_i t m k z ho
   split at h
   ·rename_i c s' hd hs
    obtain ⟨h1,h2⟩:=bi h
    subst h1
    rw [cO] at h2
    have hn:=qM hs
    have e:ap E f s o=some (true,s'):=by simp only [ap,ho,hd,hn]
    rw [e]
    exact dh.mk rfl h2
   ·cases h
  ·rename_i t m k z ho
   split at h
   ·rename_i c s' hd hs
    obtain ⟨h1,h2⟩:=bi h
    subst h1
    rw [cO] at h2
    have hn:=qM hs
    have e:ap E f s o=some (true,s'):=by simp only [ap,ho,hd,hn]
    rw [e]
    exact dh.mk rfl h2
   ·cases h
  ·rename_i args tys ho
   split at h
   ·rename_i c s' hf
    obtain ⟨h1,h2⟩:=bi h
    rw [cO] at h2
    have e:ap E f s o=some (c,s'):=by simp only [ap,ho,hf]
    rw [e]
    exact dh.mk h1 h2
   ·rename_i hf
    split at h
    ·rename_i l hl
     split at h
     ·rename_i b s1 c s2 hs
      have Cr:b=false→c=true:=fun e=>by subst e; exact (bi (show (bif c then pM fz s2 K else none)=some x from h)).1
      have hn:=zS hs Cr
      have e:ap E f s o=some (true,bif b then s1 else s2):=by simp only [ap,ho,hf,hl,hn]
      rw [e]
      refine dh.mk rfl ?_
      cases b with
      | true=>
       show K s1=some x
       rw [← cO fz s1 K]
       exact h
      | false=>
       obtain ⟨h1,h2⟩:=bi (show (bif c then pM fz s2 K else none)=some x from h)
       rw [cO] at h2
       exact h2
     ·split at h
      ·rename_i c s' hs
       obtain ⟨h1,h2⟩:=bi h
       rw [cO] at h2
       rw [hs]
       exact dh.mk h1 h2
      ·cases h
    ·cases h
  ·rename_i args tys ho
   split at h
   ·rename_i l hl
    split at h
    ·rename_i c s' hs
     obtain ⟨h1,h2⟩:=bi h
     subst h1
     rw [cO] at h2
     have hn:=DH hs
     have hf:fO E f s o=none:=by
      cases hf:fO E f s o with
      | none=>rfl
      | some r=>
       obtain ⟨_,_,h2⟩:=mi hf
       rw [ho] at h2
       cases h2
     have e:ap E f s o=some (true,s'):=by simp only [ap,ho,hf,hl,hn]
     rw [e]
     exact dh.mk rfl h2
    ·split at h
     ·rename_i c s' hs
      obtain ⟨h1,h2⟩:=bi h
      rw [cO] at h2
      rw [hs]
      exact dh.mk h1 h2
     ·cases h
   ·cases h
  ·split at h
   ·rename_i n len g hi
    obtain ⟨c,s',hs,h1,h2⟩:=pf hi _ _ h
    rw [hs]
    exact dh.mk h1 h2
   ·split at h
    ·rename_i c s' hs
     obtain ⟨h1,h2⟩:=bi h
     rw [cO] at h2
     rw [hs]
     exact dh.mk h1 h2
    ·cases h
theorem js (hc:my E call) (hr:tf E kD) {ops:List Oper} {o:Oper} {K:St→Option X} (h:nO E fz call kD f ops o K s=some x):b7 E f ops o (fun s=>K s=some x) s:=by
 unfold nO at h
 unfold b7
 split at h
 ·rename_i hg
  rw [hg]
  exact sb hc hr h
 ·rename_i j want hg
  rw [hg]
  simp only
  split at h
  ·cases h
  ·rename_i d hd
   rw [hd]
   simp only
   split at h
   ·rename_i b hb
    rw [hb]
    simp only
    cases want with
    | true=>
     simp only at h
     rw [cO,cO] at h
     refine ⟨fun e=>?_,fun e=>?_⟩
     ·subst e
      exact sb hc hr h
     ·have e:b=false:=by simpa using e
      subst e
      exact h
    | false=>
     simp only at h
     rw [cO,cO] at h
     refine ⟨fun e=>?_,fun e=>?_⟩
     ·subst e
      exact sb hc hr h
     ·have e:b=true:=by simpa using e
      subst e
      exact h
   ·rename_i hb
    rw [hb]
    rw [cO] at h
    exact h
   ·cases h
theorem xG (hc:my E call) (hr:tf E kD) {ops:List Oper} {o:Oper} {K:St→Option X} (h:zW E fz call kD f ops o K s=some x):fc E f ops o (fun s=>K s=some x) s:=by
 unfold zW at h
 unfold fc
 split at h
 ·rename_i s' h1 h2
  rw [h1,h2]
  rw [cO] at h
  exact h
 ·rename_i hn
  split
  ·rename_i s' h1 h2
   exact absurd h2 (hn s' h1)
  ·exact js hc hr h
theorem ph (hc:my E call) (hr:tf E kD) {ops:List Oper} {o:Oper} {K:St→Option X} (h:uj E fz call kD f ops o K s=some x):eE E f ops o (fun s=>K s=some x) s:=by
 unfold uj at h
 unfold eE
 split at h
 ·rename_i c s' h1 h2
  rw [h1,h2]
  obtain ⟨q1,q2⟩:=bi h
  rw [cO] at q2
  exact dh.mk q1 q2
 ·rename_i c s0 left g h1 h2 h3
  rw [h1,h2,h3]
  obtain ⟨q1,q2⟩:=bi h
  refine dh.mk q1 ?_
  cases left with
  | nil=>
   simp only [List.isEmpty_nil,cond_true,cO] at q2
   exact ⟨fun _=>q2,fun i hi=>by simp at hi⟩
  | cons i0 l=>
   simp only [List.isEmpty_cons,cond_false] at q2
   refine ⟨fun e=>(by cases e),fun i hi=>?_⟩
   obtain ⟨r1,r2⟩:=bi (Gu q2 i hi)
   rw [cO] at r2
   exact dh.mk r1 r2
 ·rename_i Hd hn2
  split
  ·rename_i c s' h1 h2
   first
    | exact absurd h2 (Hd c s' h1)
    | exact absurd h2 (hn2 c s' h1)
  ·rename_i c s0 left g h1 h2 h3
   first
    | exact absurd h3 (hn2 c s0 left g h1 h2)
    | exact absurd h3 (Hd c s0 left g h1 h2)
  ·exact xG hc hr h
theorem xH (hc:my E call) (hr:tf E kD) {ops:List Oper} {o:Oper} {K:St→Option X} (h:zX E fz call kD f ops o K s=some x):eF E f ops o (fun s=>K s=some x) s:=by
 unfold zX at h
 unfold eF
 split at h
 ·rename_i c s' hz
  rw [hz]
  obtain ⟨h1,h2⟩:=bi h
  exact ⟨h1,ph hc hr h2⟩
 ·rename_i hz
  rw [hz]
  exact ph hc hr h
theorem wh (hc:my E call) (hr:tf E kD) {ops:List Oper}:∀ {l:List Oper} {K:St→Option X} {s:St},L6 E fz call kD f ops l K s=some x→nz E f ops l (fun s=>K s=some x) s
 | [],_,_,h=>h
 | o :: l,K,s,h=>by
  unfold L6 at h
  unfold nz
  refine kW (xH hc hr h) fun s' h'=>?_
  unfold yu
  split at h'
  ·rename_i s2 hp
   rw [hp]
   exact wh hc hr h'
  ·cases h'
theorem iM (hc:my E call) (hr:tf E kD) (hm:te ey) {ops:List Oper}:∀ {T:DT} {K:St→Option X} {s:St} {x:X},oT E fz call kD ey f ops T K s=some x→rr E f ops T (fun s=>K s=some x) s
 | .done,_,_,_,h=>h
 | .stop,_,_,_,_=>trivial
 | .take j C T,K,s,x,h=>by
  unfold oT at h
  unfold rr
  split at h
  ·rename_i hk
   rw [hk]
   exact b8 (js hc hr h) fun s' h'=>iM hc hr hm h'
  ·cases h
 | .al j W T,K,s,x,h=>by
  unfold oT at h
  unfold rr
  split at h
  ·rename_i hk
   obtain ⟨h1,h2⟩:=bi h
   rw [hk]
   exact ⟨h1,b8 (js hc hr h2) fun s' h'=>iM hc hr hm h'⟩
  ·cases h
 | .br i re C T more,K,s,x,h=>by
  have first:∀ {x:X},(match nth ops i with
   | some oi=>nO E fz call kD f ops oi (fun s'=>bif oE E f ops re s' then oT E fz call kD ey f ops T K s' else none) s
   | none=>none)=some x→(match nth ops i with
   | some oi=>b7 E f ops oi (fun s'=>yz E f ops re s'∧rr E f ops T (fun s=>K s=some x) s') s
   | none=>False):=by
   intro x h
   split at h
   ·rename_i hk
    refine b8 (js hc hr h) fun s' h'=>?_
    obtain ⟨h1,h2⟩:=bi h'
    exact ⟨pg h1,iM hc hr hm h2⟩
   ·cases h
  unfold rr
  cases more with
  | stop=>exact ⟨first h,trivial⟩
  | done=>obtain ⟨h1,h2⟩:=hm _ _ _ h; exact ⟨first h1,iM (T:=.done) hc hr hm h2⟩
  | take a b c=>obtain ⟨h1,h2⟩:=hm _ _ _ h; exact ⟨first h1,iM hc hr hm h2⟩
  | br a b c d e=>obtain ⟨h1,h2⟩:=hm _ _ _ h; exact ⟨first h1,iM hc hr hm h2⟩
  | al a b c=>obtain ⟨h1,h2⟩:=hm _ _ _ h; exact ⟨first h1,iM hc hr hm h2⟩
end sound
end Go.Am
