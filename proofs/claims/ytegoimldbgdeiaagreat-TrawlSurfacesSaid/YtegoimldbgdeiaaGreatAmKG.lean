/- The abstract machine: nil lists become tokens or slices that grow. -/
import Derived.Test.YtegoimldbgdeiaaGreatAmKF
import Derived.RangeFuncCalls
import Derived.RangeFuncRecord
import Derived.RangeFuncIn
import Derived.OrdersIn
set_option linter.all false
open Array renaming getD_eq_getD_getElem?→abr, mapM_eq_mapM_toList→abt
open Bool renaming and_eq_true→abu
open Go.Deferred renaming ofValue→abN
open Go.Fence renaming wide→aah
open Go.Instr renaming takeDeferred→abJ
open Go.Op renaming operands→aaa
open Go.Oper renaming semAt_eq→aas
open Go.Region renaming wanted→aag
open Go.Result renaming andThen_ok→aak
open Go.Sem renaming run_bind→aaq, run_pure→aaG
open List renaming mem_of_getElem?→aaN, replicate→abp, getElem?_eq_getElem→abv, getElem?_eq_none→abA
open Nat renaming eq_of_beq_eq_true→aar, ble→aaF, le_refl→abw, blt→abx, le_of_ble_eq_true→abz
namespace Go.Am
open Go
structure aU (s s':St):Prop where
 sl:∃ pre,s'.ab=pre++s.ab
 bx:∃ pre,s'.boxes=pre++s.boxes
 n:s'.n=s.n
theorem aU.refl (s:St):aU s s:=⟨⟨[],rfl⟩,⟨[],rfl⟩,rfl⟩
theorem aU.trans {a b c:St} (h:aU a b) (k:aU b c):aU a c:=by
 obtain ⟨p,hp⟩:=h.sl; obtain ⟨q,hq⟩:=k.sl; obtain ⟨p',UN⟩:=h.bx; obtain ⟨q',hq'⟩:=k.bx;exact ⟨⟨q++p,by rw [hq,hp,List.append_assoc]⟩,⟨q'++p',by rw [hq',UN,List.append_assoc]⟩,k.n.trans h.n⟩
section
variable {E:Env} {R R':aj} {w w':World} {β β':Nat→Nat} {s s':St} {a a':Act}
def jJ (R:aj):aj:=⟨R.I,R.obj++[.bj]⟩
theorem oL:Ext R w (jJ R) w:=⟨fun _ _ h=>h,fun _ _ _=>rfl,fun _ r h=>⟨r,cF h,cQ.refl r⟩,ju.refl w⟩
theorem xj {b:Nat} (h:Live (jJ R) b):Live R b:=by
 obtain ⟨id,r,h1,h2⟩:=h;rcases ak h1 with h1|⟨_,rfl⟩
 ·exact ⟨id,r,h1,h2⟩
 ·simp [RO.has] at h2
def ghV (n sz:Nat):AV:=bif aaF 65536 sz then .ey n 0 0 (sz - 65536) 0 else .list (.own n) sz []
def QV (sz:Nat) (e:TypeId):GO:=bif aaF 65536 sz then .da [] (sz - 65536) e else .tok 0 sz e
theorem Vs (sz:Nat) (e:TypeId):jW R w (QV sz e) .bj:=by
 unfold QV;cases aaF 65536 sz
 ·exact rfl
 ·exact rfl
theorem NU {n sz:Nat} (hn:nth R.obj n=some .bj):Rel R w (ghV n sz) (.slice none 0 0):=by
 unfold ghV;cases aaF 65536 sz
 ·exact .qJ hn trivial
 ·exact .mh hn trivial
theorem il.FT {G:List GO} (h:il E R w G) (sz:Nat) (e:TypeId):il E (jJ R) w (G++[QV sz e]):=by
 refine ⟨by simp [jJ,h.len],fun id g r h1 h2=>?_,fun i j ri rj b h1 h2 b1 b2=>?_,h.wf,fun g cs hg=>(h.ft g cs hg).mono oL,h.lo⟩
 ·rcases ak h2 with h2|⟨h3,rfl⟩
  ·rcases ak h1 with h1|⟨h4,_⟩
   ·exact (h.obj id g r h1 h2).mono oL (fun _ _=>rfl) (fun _ _ _ h=>h)
   ·have cE:=bl h2;rw [h.len] at cE;omega
  ·rcases ak h1 with h1|⟨h4,rfl⟩
   ·have:=bl h1;rw [h3,h.len] at this;omega
   ·exact Vs sz e
 ·rcases ak h1 with g1|⟨_,e1⟩
  ·rcases ak h2 with g2|⟨_,e2⟩
   ·exact h.inj i j ri rj b g1 g2 b1 b2
   ·rw [e2] at b2; simp [RO.has] at b2
  ·rw [e1] at b1; simp [RO.has] at b1
theorem bi.FT (h:bi E R w β s a) (sz:Nat) (e:TypeId):bi E (jJ R) w β (s.fL (QV sz e)) a∧Step R w β s.boxes (jJ R) w β s.boxes:=by
 refine ⟨⟨h.g.FT sz e,h.b.bD oL (fun _ _ _=>rfl) (fun _ _ _ _ h=>h) (fun _ _ _ hl=>xj hl),h.t.mono oL,h.n,h.d.mono (oL (w:=w))⟩,?_⟩;refine ⟨oL,rfl,rfl,rfl,abw _,fun _ _ _=>rfl,fun b _ ho=>?_,fun _ _ h _ _=>h⟩;rcases ho with ho|ho
 ·exact .inl (xj ho)
 ·exact .inr ho
inductive Loc
 |slot (t:Tmp)
 |box (k i:Nat)
 |row (id i:Nat)
def yq (s:St) (l:Loc) (sz:Nat) (e:TypeId):Option St:=
 let v:AV:=ghV s.G.length sz
 match aaF 196608 sz with
 |true=>some (s.fL (bif aaF 1048576 sz then .iP [] (sz - 1048576) e else .aY [] (sz - 196608) e))
 |false=>match l with
 |.slot t=>match lk s.ab t with
  |.v (.list .nil _ [])=>some ⟨.put t (.v v) :: s.ab,s.boxes,s.G++[QV sz e],s.marks,s.ro,s.n⟩
  |_=>none
 |.box k i=>match fh s.boxes k with
  |some cs=>match nth cs i with
   |some (.list .nil _ [])=>some ⟨s.ab,(k,aC cs i v) :: s.boxes,s.G++[QV sz e],s.marks,s.ro,s.n⟩
   |_=>none
  |none=>none
 |.row id i=>match nth s.G id with
  |some (.row cs el)=>match nth cs i with
   |some (.list .nil _ [])=>some ⟨s.ab,s.boxes,aC s.G id (.row (aC cs i v) el)++[QV sz e],s.marks,s.ro,s.n⟩
   |_=>none
  |_=>none
def Ak (s:St) (l:Loc) (sz:Nat) (e:TypeId):Option St:=match aaF 2097152 sz with
 |true=>some (s.fL (QV (65536+(sz - 2097152)) e))
 |false=>yq s l sz e
def kl:List (Loc × Nat × TypeId)→St→Option St
 |[],s=>some s
 |(l,sz,e) :: r,s=>match Ak s l sz e with
  |some s'=>kl r s'
  |none=>none
theorem aQ.aC {l:List AV} {cs:List Value} (h:aQ R w l cs) {i:Nat} {x y:AV} (hx:nth l i=some x) (hw:∀ c,Rel R w x c→Rel R w y c):aQ R w (Am.aC l i y) cs:=by
 induction l generalizing cs i with
 |nil=>simp [nth] at hx
 |cons a l ih=>
  cases h with
  |cons h t=>
   cases i with
   |zero=>simp only [nth] at hx; cases hx; exact .cons (hw _ h) t
   |succ i=>exact .cons h (ih t hx)
theorem bi.aai (h:bi E R w β s a) (sz:Nat) (e:TypeId):bi E (R.add (.aY [])) w β (s.fL (.aY [] sz e)) a∧Step R w β s.boxes (R.add (.aY [])) w β s.boxes:=by
 have no:∀ b,¬ RO.has (.aY []) b:=fun b ⟨j,f,c,hj⟩=>by simp [nth] at hj
 have ext:Ext R w (R.add (.aY [])) w:=⟨fun _ _ h=>h,fun _ _ _=>rfl,fun _ r h=>⟨r,cF h,cQ.refl r⟩,ju.refl w⟩;have live:∀ b,Live (R.add (.aY [])) b→Live R b:=fun b ⟨id,r,h1,h2⟩=>by
  rcases ak h1 with h1|⟨_,rfl⟩
  ·exact ⟨id,r,h1,h2⟩
  ·exact absurd h2 (no b)
 refine ⟨⟨⟨by simp [St.fL,aj.add,h.g.len],fun id g r h1 h2=>?_,fun i j ri rj b h1 h2 b1 b2=>?_,h.g.wf,fun g cs hg=>(h.g.ft g cs hg).mono ext,h.g.lo⟩,h.b.bD ext (fun _ _ _=>rfl) (fun _ _ _ _ h=>h) (fun _ _ _ hl=>live _ hl),h.t.mono ext,h.n,h.d.mono ext⟩,?_⟩
 ·rcases ak h2 with h2|⟨h3,rfl⟩
  ·rcases ak h1 with h1|⟨h4,_⟩
   ·exact (h.g.obj id g r h1 h2).mono ext (fun _ _=>rfl) (fun _ _ _ h=>h)
   ·have cE:=bl h2;rw [h.g.len] at cE;omega
  ·rcases ak h1 with h1|⟨h4,rfl⟩
   ·have:=bl h1;rw [h3,h.g.len] at this;omega
   ·exact ⟨rfl,fun i j f b c f' c' hi=>by simp [nth] at hi,fun j f t hj=>by simp [nth] at hj⟩
 ·rcases ak h1 with g1|⟨_,e1⟩
  ·rcases ak h2 with g2|⟨_,e2⟩
   ·exact h.g.inj i j ri rj b g1 g2 b1 b2
   ·rw [e2] at b2; exact absurd b2 (no b)
  ·rw [e1] at b1; exact absurd b1 (no b)
 ·refine ⟨ext,rfl,rfl,rfl,abw _,fun _ _ _=>rfl,fun b _ ho=>?_,fun _ _ h _ _=>h⟩;rcases ho with ho|ho
  ·exact .inl (live b ho)
  ·exact .inr ho
theorem bi.aaj (h:bi E R w β s a) (sz:Nat) (e:TypeId):bi E (R.add (.aY [])) w β (s.fL (.iP [] sz e)) a∧Step R w β s.boxes (R.add (.aY [])) w β s.boxes:=by
 have no:∀ b,¬ RO.has (.aY []) b:=fun b ⟨j,f,c,hj⟩=>by simp [nth] at hj
 have ext:Ext R w (R.add (.aY [])) w:=⟨fun _ _ h=>h,fun _ _ _=>rfl,fun _ r h=>⟨r,cF h,cQ.refl r⟩,ju.refl w⟩;have live:∀ b,Live (R.add (.aY [])) b→Live R b:=fun b ⟨id,r,h1,h2⟩=>by
  rcases ak h1 with h1|⟨_,rfl⟩
  ·exact ⟨id,r,h1,h2⟩
  ·exact absurd h2 (no b)
 refine ⟨⟨⟨by simp [St.fL,aj.add,h.g.len],fun id g r h1 h2=>?_,fun i j ri rj b h1 h2 b1 b2=>?_,h.g.wf,fun g cs hg=>(h.g.ft g cs hg).mono ext,h.g.lo⟩,h.b.bD ext (fun _ _ _=>rfl) (fun _ _ _ _ h=>h) (fun _ _ _ hl=>live _ hl),h.t.mono ext,h.n,h.d.mono ext⟩,?_⟩
 ·rcases ak h2 with h2|⟨h3,rfl⟩
  ·rcases ak h1 with h1|⟨h4,_⟩
   ·exact (h.g.obj id g r h1 h2).mono ext (fun _ _=>rfl) (fun _ _ _ h=>h)
   ·have cE:=bl h2;rw [h.g.len] at cE;omega
  ·rcases ak h1 with h1|⟨h4,rfl⟩
   ·have:=bl h1;rw [h3,h.g.len] at this;omega
   ·exact ⟨rfl,fun i j f b c f' c' hi=>by simp [nth] at hi,fun j f t hj=>by simp [nth] at hj⟩
 ·rcases ak h1 with g1|⟨_,e1⟩
  ·rcases ak h2 with g2|⟨_,e2⟩
   ·exact h.g.inj i j ri rj b g1 g2 b1 b2
   ·rw [e2] at b2; exact absurd b2 (no b)
  ·rw [e1] at b1; exact absurd b1 (no b)
 ·refine ⟨ext,rfl,rfl,rfl,abw _,fun _ _ _=>rfl,fun b _ ho=>?_,fun _ _ h _ _=>h⟩;rcases ho with ho|ho
  ·exact .inl (live b ho)
  ·exact .inr ho
theorem I2 {l:Loc} {sz:Nat} {e:TypeId} (h:bi E R w β s a) (LS:aaF 196608 sz=false) (hs:yq s l sz e=some s'):bi E (jJ R) w β s' a∧Step R w β s.boxes (jJ R) w β s'.boxes∧s'.ro=s.ro∧aU s s':=by
 obtain ⟨h1,h2⟩:=h.FT sz e;have hn:nth (jJ R).obj s.G.length=some .bj:=by
  rw [← h.g.len]; exact eS _ _
 have hw:∀ (bP:Nat) (c:Value),Rel (jJ R) w (.list .nil bP []) c→Rel (jJ R) w (ghV s.G.length sz) c:=fun bP c hc=>by
  cases hc with
  |lY=>exact NU hn
  |list _ _ _ hk=>exact hk.elim
 unfold yq at hs;rw [LS] at hs;cases l with
 |slot t=>
  simp only at hs;split at hs
  ·rename_i bP ht;cases hs;refine ⟨⟨h1.g,h1.b,fun i hi=>?_,h1.n,h1.d⟩,h2,rfl,⟨⟨[_],rfl⟩,⟨[],rfl⟩,rfl⟩⟩;by_cases e:t=i
   ·subst e;rw [aN];obtain ⟨c,k1,k2⟩:=h1.t t (by show lk s.ab t≠_; rw [ht]; simp);have UM:tR (jJ R) w β (lk s.ab t) c:=k2;rw [ht] at UM;exact ⟨c,k1,hw _ _ UM⟩
   ·rw [a8 e] at hi ⊢;exact h1.t i hi
  ·cases hs
 |box k i=>
  simp only at hs;split at hs
  ·rename_i cs hk;split at hs
   ·rename_i bP hi;cases hs;have hb:∀ k' ig,fh ((k,aC cs i (ghV s.G.length sz)) :: s.boxes) k'=some ig→∃ cs0,fh s.boxes k'=some cs0:=fun k' ig ly=>by
     rcases iA ly with ⟨rfl,_⟩|⟨_,ly⟩
     ·exact ⟨cs,hk⟩
     ·exact ⟨ig,ly⟩
    refine ⟨⟨h1.g,⟨fun k' ig ly=>?_,fun k1 k2 c1 c2 e1 e2 he=>?_⟩,h1.t,h1.n,h1.d⟩,?_,rfl,⟨⟨[],rfl⟩,⟨[_],rfl⟩,rfl⟩⟩
    ·rcases iA ly with ⟨rfl,rfl⟩|⟨_,ly⟩
     ·obtain ⟨⟨vs,el,q1,q2,q3⟩,q4⟩:=h1.b.box k cs hk;exact ⟨⟨vs,el,q1,q2.aC hi (hw _),q3⟩,q4⟩
     ·exact h1.b.box k' ig ly
    ·obtain ⟨d1,hd1⟩:=hb k1 c1 e1;obtain ⟨d2,hd2⟩:=hb k2 c2 e2;exact h.b.inj k1 k2 d1 d2 hd1 hd2 he
    ·refine ⟨h2.ext,rfl,rfl,rfl,abw _,fun _ _ _=>rfl,fun b oh ho=>?_,fun _ _ h _ _=>h⟩;rcases ho with ho|⟨k',ig,ly,rfl⟩
     ·exact .inl (xj ho)
     ·obtain ⟨d1,hd1⟩:=hb k' ig ly;exact .inr ⟨k',d1,hd1,rfl⟩
   ·cases hs
  ·cases hs
 |row id i=>
  simp only at hs;split at hs
  ·rename_i cs el hid;split at hs
   ·rename_i bP hi;cases hs;refine ⟨⟨⟨by have:=h1.g.len; simpa [St.fL] using this,fun mc go ro q1 q2=>?_,h1.g.inj,h1.g.wf,h1.g.ft,h1.g.lo⟩,h1.b,h1.t,h1.n,h1.d⟩,h2,rfl,⟨⟨[],rfl⟩,⟨[],rfl⟩,rfl⟩⟩;rcases ak q1 with q1|⟨q3,rfl⟩
    ·rcases cJ q1 with ⟨rfl,rfl,_⟩|⟨df,q1⟩
     ·have b8:=h1.g.obj id (.row cs el) ro (cF hid) q2;cases ro with
      |bZ b=>
       obtain ⟨vs,k1,k2,k3,k4⟩:=b8;exact ⟨vs,k1,k2.aC hi (hw _),k3,k4⟩
      |none=>exact b8.elim
      |bj=>exact b8.elim
      |tok _ _ _=>exact b8.elim
      |aY _=>exact b8.elim
     ·exact h1.g.obj mc go ro (cF q1) q2
    ·refine h1.g.obj mc _ ro ?_ q2;rw [gV] at q3;rw [q3];exact eS _ _
   ·cases hs
  ·cases hs
theorem C1 {l:Loc} {sz:Nat} {e:TypeId} (h:bi E R w β s a) (hs:Ak s l sz e=some s'):∃ R',bi E R' w β s' a∧Step R w β s.boxes R' w β s'.boxes∧s'.ro=s.ro∧aU s s':=by
 unfold Ak at hs;split at hs
 ·cases hs;obtain ⟨h1,h2⟩:=h.FT (65536+(sz - 2097152)) e;exact ⟨_,h1,h2,rfl,⟨⟨[],rfl⟩,⟨[],rfl⟩,rfl⟩⟩
 cases LS:aaF 196608 sz with
 |true=>
  unfold yq at hs;rw [LS] at hs;cases hs;cases aaF 1048576 sz with
  |false=>
   obtain ⟨h1,h2⟩:=h.aai (sz - 196608) e;exact ⟨_,h1,h2,rfl,⟨⟨[],rfl⟩,⟨[],rfl⟩,rfl⟩⟩
  |true=>
   obtain ⟨h1,h2⟩:=h.aaj (sz - 1048576) e;exact ⟨_,h1,h2,rfl,⟨⟨[],rfl⟩,⟨[],rfl⟩,rfl⟩⟩
 |false=>exact ⟨_,I2 h LS hs⟩
theorem pf:∀ {l:List (Loc × Nat × TypeId)} {R:aj} {s s':St},bi E R w β s a→kl l s=some s'→∃ R',bi E R' w β s' a∧Step R w β s.boxes R' w β s'.boxes∧s'.ro=s.ro∧aU s s'
 |[],R,s,s',h,hs=>by
  simp only [kl] at hs;cases hs;exact ⟨R,h,Step.refl _ _ _ _,rfl,aU.refl _⟩
 |(l,sz,e) :: r,R,s,s',h,hs=>by
  unfold kl at hs;split at hs
  ·rename_i s1 h1;obtain ⟨R0,g1,g2,g3,g4⟩:=C1 h h1;obtain ⟨R',k1,k2,k3,k4⟩:=pf g1 hs;exact ⟨R',k1,g2.trans k2,k3.trans g3,g4.trans k4⟩
  ·cases hs
def aal (s:St) (d:Tmp):List (Option Nat × Nat × TypeId)→Option (List (Loc × Nat × TypeId))
 |[]=>some []
 |(none,sz,e) :: l=>match aal s d l with
  |some r=>some ((.slot d,65536+sz,e) :: r)
  |none=>none
 |(some c,sz,e) :: l=>match aal s d l,lk s.ab d with
  |some r,.lp k off=>some ((.box k (off+c),65536+sz,e) :: r)
  |some r,.v (.ptr id off)=>some ((.row id (off+c),65536+sz,e) :: r)
  |some r,.v (.ob id off _ _ _)=>some ((.row id (off+c),65536+sz,e) :: r)
  |_,_=>none
def mO:List (Loc × Nat × TypeId)→St→St
 |[],s=>s
 |(l,sz,e) :: r,s=>match Ak s l sz e with
  |some s'=>mO r s'
  |none=>mO r s
theorem uy:∀ {l:List (Loc × Nat × TypeId)} {R:aj} {s:St},bi E R w β s a→∃ R',bi E R' w β (mO l s) a∧Step R w β s.boxes R' w β (mO l s).boxes∧(mO l s).ro=s.ro∧aU s (mO l s)
 |[],R,s,h=>⟨R,h,Step.refl _ _ _ _,rfl,aU.refl _⟩
 |(l,sz,e) :: r,R,s,h=>by
  unfold mO;split
  ·rename_i s1 h1;obtain ⟨R0,g1,g2,g3,g4⟩:=C1 h h1;obtain ⟨R',k1,k2,k3,k4⟩:=uy (l:=r) g1;exact ⟨R',k1,g2.trans k2,k3.trans g3,g4.trans k4⟩
  ·exact uy (l:=r) h
def C2 (s:St) (t:Tmp):Option (Bool × St):=match lk s.ab t with
 |.v (.ey _ _ _ _ _)=>sL false false s t
 |_=>some (true,s)
def C3 (s:St) (t:Tmp):Option (Bool × St):=match lk s.ab t with
 |.v (.ey id f 0 sz len)=>match nth s.G id with
  |some (.da es bP el)=>match xN s.G sz el 0 with
   |some jR=>match nth s.G jR with
    |some (.iP rows FO el2)=>if Nat.beq bP sz&&Nat.beq FO sz&&Nat.beq el2 el then
      some (decide (f=es.length)&&decide (len=es.length)&&aZ es,⟨.put t (.v (.gH jR rows.length sz len)) :: s.ab,s.boxes,aC (aC s.G id .dead) jR (.iP (rows++[es]) sz el),s.marks,s.ro,s.n⟩) else none
    |_=>none
   |none=>none
  |_=>none
 |_=>none
def vx (aY:Bool) (FO:Nat) (e2:TypeId) (s:St) (t:Tmp):Option (Bool × St):=match lk s.ab t with
 |.v (.ey id _ _ _ _)=>match nth s.G id with
  |some (.da es 1 el)=>match aY with
   |true=>match mM s.G FO e2 0 with
    |some p9=>some (ur es,s.bM (aC (aC s.G p9 (.aY (oS s.G p9++abp es.length 0) FO e2)) id (.da ((List.range es.length).map fun j=>.list (.aY p9 ((oS s.G p9).length+j)) FO []) 1 el)))
    |none=>none
   |false=>match xN s.G FO e2 0 with
    |some jR=>match nth s.G jR with
     |some (.iP rows sz3 e3)=>if Nat.beq sz3 FO&&Nat.beq e3 e2 then
       some (ur es,s.bM (aC (aC s.G jR (.iP (rows++abp es.length []) FO e2)) id (.da ((List.range es.length).map fun j=>.gH jR (rows.length+j) FO 0) 1 el))) else none
     |_=>none
    |none=>none
  |_=>none
 |_=>none
def yt (k sz:Nat) (s:St) (t:Tmp):Option (Bool × St):=match k with
 |0=>C2 s t
 |1=>C3 s t
 |2=>vx true (sz % 65536) (sz / 65536) s t
 |_=>vx false (sz % 65536) (sz / 65536) s t
def FU (E:Env) (f:FuncId) (o:Oper) (s:St):Option (Bool × St):=match o.dst with
 |none=>some (true,s)
 |some d=>match E.E0 f (d+327680) with
  |true=>sL false (E.E0 f (d+458752)) s d
  |false=>match E.gho f d with
   |[]=>some (true,s)
   |x :: l=>match aaF 1048576 x.2.2,x.1 with
    |true,some t=>yt (x.2.2 - 1048576) x.2.1 s t
    |_,_=>match aal s d (x :: l) with
     |some r=>some (true,mO r s)
     |none=>none
theorem mY {cut wk:Bool} {s s':St} {t:Tmp} {c:Bool} (h:sL cut wk s t=some (c,s')):aU s s':=by
 unfold sL at h
 repeat' (split at h)
 all_goals (first|(cases h; done) | skip)
 all_goals (injection h with h; injection h with _ h; subst h; exact ⟨⟨[_],rfl⟩,⟨[],rfl⟩,rfl⟩)
theorem LU {s s':St} {t:Tmp} {c:Bool} (h:C2 s t=some (c,s')):aU s s':=by
 unfold C2 at h;split at h
 ·exact mY h
 ·cases h; exact aU.refl _
theorem LV {t:Tmp} (h:bi E R w β s a) (hs:C2 s t=some (true,s')):∃ R',bi E R' w β s' a∧Step R w β s.boxes R' w β s'.boxes∧s'.ro=s.ro∧aU s s':=by
 unfold C2 at hs;split at hs
 ·obtain ⟨R',r1,r2,r3⟩:=ux h hs;exact ⟨R',r1,r2,r3,mY hs⟩
 ·cases hs;exact ⟨R,h,Step.refl _ _ _ _,rfl,aU.refl _⟩
theorem C4 {s s':St} {t:Tmp} {c:Bool} (h:C3 s t=some (c,s')):aU s s':=by
 unfold C3 at h
 repeat' (split at h)
 all_goals (first|(cases h; done) | skip)
 all_goals (injection h with h; injection h with _ h; subst h; exact ⟨⟨[_],rfl⟩,⟨[],rfl⟩,rfl⟩)
theorem uz {aY:Bool} {FO:Nat} {e2:TypeId} {s s':St} {t:Tmp} {c:Bool} (h:vx aY FO e2 s t=some (c,s')):aU s s':=by
 unfold vx at h
 repeat' (split at h)
 all_goals (first|(cases h; done) | skip)
 all_goals (injection h with h; injection h with _ h; subst h; exact ⟨⟨[],rfl⟩,⟨[],rfl⟩,rfl⟩)
theorem I3 {k sz:Nat} {s s':St} {t:Tmp} {c:Bool} (h:yt k sz s t=some (c,s')):aU s s':=by
 unfold yt at h;split at h
 ·exact LU h
 ·exact C4 h
 ·exact uz h
 ·exact uz h
theorem LW {t:Tmp} (h:bi E R w β s a) (hs:C3 s t=some (true,s')):∃ R',bi E R' w β s' a∧Step R w β s.boxes R' w β s'.boxes∧s'.ro=s.ro∧aU s s':=by
 have hx:=C4 hs;unfold C3 at hs;split at hs
 ·rename_i id f sz len ht;split at hs
  ·rename_i es bP el hg;split at hs
   ·rename_i jR _;split at hs
    ·rename_i rows FO el2 hm;split at hs
     ·rename_i hc;simp only [abu] at hc;obtain ⟨⟨c1,c2⟩,c3⟩:=hc;have c1:=aar c1;have c2:=aar c2;have c3:=aar c3;subst c1; subst c2; subst c3;injection hs with hs; injection hs with h1 h2;simp only [abu,decide_eq_true_eq] at h1;obtain ⟨⟨d1,d2⟩,d3⟩:=h1;obtain ⟨R',r1,r2,r3⟩:=h.aaf hg hm d3;subst h2;refine ⟨R',⟨r1.g,r1.b,fun i hi=>?_,r1.n,r1.d⟩,r2,rfl,hx⟩;by_cases e:t=i
      ·subst e;rw [aN];obtain ⟨c,k1,k2⟩:=h.t t (by rw [ht]; simp);rw [ht] at k2;exact ⟨c,k1,r3 f len c d1 d2 k2⟩
      ·rw [a8 e] at hi ⊢;exact r1.t i hi
     ·cases hs
    ·cases hs
   ·cases hs
  ·cases hs
 ·cases hs
theorem Bc {aY:Bool} {FO:Nat} {e2:TypeId} {t:Tmp} (h:bi E R w β s a) (hs:vx aY FO e2 s t=some (true,s')):∃ R',bi E R' w β s' a∧Step R w β s.boxes R' w β s'.boxes∧s'.ro=s.ro∧aU s s':=by
 have hx:=uz hs;have ex:∀ {i:Nat} {g:GO},nth s.G i=some g→∃ ro,nth R.obj i=some ro:=fun {i g} hi=>by
  have:=bl hi;rw [← h.g.len] at this;exact ⟨R.obj[i],by rw [aV]; exact abv this⟩
 unfold vx at hs;split at hs
 ·rename_i id f off sz len ht;split at hs
  ·rename_i es el hg;split at hs
   ·split at hs
    ·rename_i p9 RR;injection hs with hs; injection hs with h1 h2;subst h2;obtain ⟨fs,hf,_⟩:=sV RR;rw [Nat.sub_zero] at hf;have hfs:oS s.G p9=fs:=by unfold oS; rw [hf]
     rw [hfs] at hx ⊢;obtain ⟨ro,bu⟩:=ex hf;have df:p9≠id:=fun e=>by
      subst e;rw [hf] at hg;cases hg
     obtain ⟨ts,rfl,h3,r1,r2⟩:=h.LA hf (nfs:=abp es.length 0) (nts:=abp es.length .bj) (by simp) (fun j f t hj hk=>by
      rw [aV] at hj hk;rw [List.eq_of_mem_replicate (aaN hj),List.eq_of_mem_replicate (aaN hk)];exact rfl) (fun j f b c hj=>by
      rw [aV] at hj;cases List.eq_of_mem_replicate (aaN hj)) bu
     obtain ⟨k1,k2⟩:=r1.RM (id:=id) (es:=es) (el:=el) (g:=fun j=>.list (.aY p9 (fs.length+j)) FO []) (by show nth (aC s.G p9 _) id=_; rw [aX df]; exact hg) h1 (fun _=>rfl) (fun _=>rfl) (fun j bP c hc=>by
      cases hc with
      |lY=>exact Rel.qa (au bu) trivial
      |list _ _ _ hk=>exact hk.elim)
     exact ⟨_,k1,r2.trans k2,rfl,hx⟩
    ·cases hs
   ·split at hs
    ·rename_i jR _;split at hs
     ·rename_i rows sz3 e3 hm;split at hs
      ·rename_i hc;simp only [abu] at hc;have c1:=aar hc.1;have c2:=aar hc.2;subst c1; subst c2;injection hs with hs; injection hs with h1 h2;subst h2;obtain ⟨ro,bu⟩:=ex hm;have df:jR≠id:=fun e=>by
        subst e;rw [hm] at hg;cases hg
       obtain ⟨ts,rfl,h3,r1,r2⟩:=h.aae hm es.length bu;obtain ⟨k1,k2⟩:=r1.RM (id:=id) (es:=es) (el:=el) (g:=fun j=>.gH jR (rows.length+j) sz3 0) (by show nth (aC s.G jR _) id=_; rw [aX df]; exact hg) h1 (fun _=>rfl) (fun _=>rfl) (fun j bP c hc=>by
        cases hc with
        |lY=>exact Rel.xQ (au bu) trivial
        |list _ _ _ hk=>exact hk.elim)
       exact ⟨_,k1,r2.trans k2,rfl,hx⟩
      ·cases hs
     ·cases hs
    ·cases hs
  ·cases hs
 ·cases hs
theorem I4 {k sz:Nat} {t:Tmp} (h:bi E R w β s a) (hs:yt k sz s t=some (true,s')):∃ R',bi E R' w β s' a∧Step R w β s.boxes R' w β s'.boxes∧s'.ro=s.ro∧aU s s':=by
 unfold yt at hs;split at hs
 ·exact LV h hs
 ·exact LW h hs
 ·exact Bc h hs
 ·exact Bc h hs
theorem PA {f:FuncId} {o:Oper} (h:bi E R w β s a) (hs:FU E f o s=some (true,s')):∃ R',bi E R' w β s' a∧Step R w β s.boxes R' w β s'.boxes∧s'.ro=s.ro∧aU s s':=by
 unfold FU at hs;split at hs
 ·cases hs;exact ⟨R,h,Step.refl _ _ _ _,rfl,aU.refl _⟩
 ·split at hs
  ·obtain ⟨R',r1,r2,r3⟩:=ux h hs;exact ⟨R',r1,r2,r3,mY hs⟩
  ·split at hs
   ·cases hs;exact ⟨R,h,Step.refl _ _ _ _,rfl,aU.refl _⟩
   ·split at hs
    ·exact I4 h hs
    ·split at hs
     ·cases hs;exact uy h
     ·cases hs
end
end Go.Am
namespace Go.Am
open Go
def cT (R:aj) (ro:Option Nat) (F:Fence):Prop:=match ro with
 |none=>F=aah
 |some id=>∃ b,nth R.obj id=some (.bZ b)∧F=aah.inRound b
theorem cT.mono {R R':aj} {w w':World} (e:Ext R w R' w') {ro:Option Nat} {F:Fence} (h:cT R ro F):cT R' ro F:=by
 cases ro with
 |none=>exact h
 |some id=>obtain ⟨b,h1,h2⟩:=h; exact ⟨b,e.bZ h1,h2⟩
theorem cT.fn {R:aj} {ro:Option Nat} {F:Fence} (h:cT R ro F) (f:FuncId):F.fn f:=by
 cases ro with
 |none=>rw [show F=aah from h]; trivial
 |some id=>obtain ⟨b,_,h2⟩:=h; rw [h2]; trivial
theorem cT.depth {R:aj} {ro:Option Nat} {F:Fence} (h:cT R ro F):F.depth=none:=by
 cases ro with
 |none=>rw [show F=aah from h]; rfl
 |some id=>obtain ⟨b,_,h2⟩:=h; rw [h2]; rfl
theorem cT.calls {R:aj} {ro:Option Nat} {F:Fence} (h:cT R ro F) {n:Nat} {P:Program} {f:FuncId} {args:Array Value} {w:World} {Q:Ending→World→Prop} (hc:CallsIn aah n P f args w Q):CallsIn F n P f args w Q:=by
 cases ro with
 |none=>rw [show F=aah from h]; exact hc
 |some id=>obtain ⟨b,_,h2⟩:=h; rw [h2]; exact hc
def Res (E:Env) (R:aj) (w:World) (β:Nat→Nat) (s:St) (Q:Exit→St→Prop):Exit→Act→World→Prop:=
 fun e a' w'=>∃ s' R' β',Q e s'∧bi E R' w' β' s' a'∧Step R w β s.boxes R' w' β' s'.boxes∧s'.ro=s.ro
def jv (E:Env) (c:Code) (Q:Exit→St→Prop) (s:St):Prop:=
 ∀ (R:aj) (w:World) (β:Nat→Nat) (a:Act) (F:Fence),bi E R w β s a→cT R s.ro F→c.wpIn F 0 E.P (Res E R w β s Q) a w
theorem jv.mono {E:Env} {c:Code} {Q Q':Exit→St→Prop} {s:St} (h:jv E c Q s) (hq:∀ e s,Q e s→Q' e s):jv E c Q' s:=
 fun R w β a F hr hf=>wpIn_mono (h R w β a F hr hf) fun e _ _ ⟨s',R',β',h1,h2⟩=>⟨s',R',β',hq e s' h1,h2⟩
section rules
variable {E:Env} {Q:Exit→St→Prop} {s:St}
theorem jv.skip (h:Q .normal s):jv E .skip Q s:=fun _ _ _ _ _ hr _=>wpIn_skip ⟨s,_,_,h,hr,Step.refl _ _ _ _,rfl⟩
theorem jv.label {l:Nat} (h:Q .normal s):jv E (.label l) Q s:=fun _ _ _ _ _ hr _=>wpIn_label ⟨s,_,_,h,hr,Step.refl _ _ _ _,rfl⟩
theorem jv.exit {id:Nat} (h:Q (.exit id) s):jv E (.exit id) Q s:=fun _ _ _ _ _ hr _=>wpIn_exit ⟨s,_,_,h,hr,Step.refl _ _ _ _,rfl⟩
theorem jv.ret (h:Q .ret s):jv E .ret Q s:=fun _ _ _ _ _ hr _=>wpIn_ret ⟨s,_,_,h,hr,Step.refl _ _ _ _,rfl⟩
def Yv (N:St→Prop) (Q:Exit→St→Prop):Exit→St→Prop
 |.normal,s=>N s
 |e,s=>Q e s
theorem jv.seq {x y:Code} (h:jv E x (Yv (jv E y Q) Q) s):jv E (.seq x y) Q s:=fun R w β a F hr hf=>by
 refine wpIn_seq (wpIn_mono (h R w β a F hr hf) ?_);rintro e a' w' ⟨s',R',β',hq,mW,lI,bu⟩;cases e with
 |normal=>
  refine wpIn_mono (hq R' w' β' a' F mW (by rw [bu]; exact hf.mono lI.ext)) ?_;rintro e a'' U4 ⟨He,Rf,Yw,RW,C5,wC,Bd⟩;exact ⟨He,Rf,Yw,RW,C5,lI.trans wC,Bd.trans bu⟩
 |_=>exact ⟨s',R',β',hq,mW,lI,bu⟩
theorem jv.cond {c:Operand} {x y:Code} {b:Bool} (hc:bO E s.ab c=.v (.bool b)) (h1:b=true→jv E x Q s) (h2:b=false→jv E y Q s):jv E (.cond c x y) Q s:=fun R w β a F hr hf=>by
 have rc:=a6 hr c;rw [hc] at rc;have hb:a.eval c=.bool b:=by
  have rc':Rel R w (.bool b) (a.eval c):=rc;generalize a.eval c=v at rc';cases rc';rfl
 exact wpIn_cond_split hb (fun e=>h1 e R w β a F hr hf) (fun e=>h2 e R w β a F hr hf)
def aam (id:Nat) (Q:Exit→St→Prop):Exit→St→Prop
 |.exit mc,s=>(mc=id→Q .normal s)∧(mc≠id→Q (.exit mc) s)
 |e,s=>Q e s
theorem jv.block {id:Nat} {c:Code} (h:jv E c (aam id Q) s):jv E (.block id c) Q s:=fun R w β a F hr hf=>by
 refine wpIn_block (wpIn_mono (h R w β a F hr hf) ?_);rintro e a' w' ⟨s',R',β',hq,rest⟩;cases e with
 |exit mc=>
  by_cases e:mc=id
  ·simp only [Exit.inBlock,e,if_true];exact ⟨s',R',β',hq.1 e,rest⟩
  ·simp only [Exit.inBlock,e,if_false];exact ⟨s',R',β',hq.2 e,rest⟩
 |_=>exact ⟨s',R',β',hq,rest⟩
theorem s5 {F:Fence} {n:Nat} {P:Program} {Q:Exit→Act→World→Prop} {c:Code} (I:Nat→Act→World→Prop)
  (round:∀ m a w,I m a w→c.wpIn F n P (Exit.then (fun a' w'=>∃ m',m' < m∧I m' a' w') Q) a w):∀ {m:Nat} {a:Act} {w:World},I m a w→(Code.loop c).wpIn F n P Q a w:=by
 intro m a w h₀ b k cs bu hb hr;have key:∀ j a w,I j a w →
   ∃ e a' w',Q e a' w'∧ArrivesIn (Machine.fenced P F) P (lone (b.atR a (.code c :: .inLoop c :: k)) cs w) b k cs e a' w':=by
  intro j
  induction j using Nat.strongRecOn with
  |_ j ih=>
   intro a w hI;obtain ⟨e,a₁,w₁,hq,xl⟩:=round j a w hI b (.inLoop c :: k) cs bu hb hr;cases e with
   |normal=>
    obtain ⟨m',cE,hI₁⟩:=hq;obtain ⟨e₂,a₂,w₂,hq₂,aeS⟩:=ih m' cE a₁ w₁ hI₁;exact ⟨e₂,a₂,w₂,hq₂,.of_steps (StepsIn.trans xl (.one (fenced_calm hb hr rfl) stepR_inLoop)) aeS⟩
   |exit id=>exact ⟨_,a₁,w₁,hq,.pass (x:=.inLoop c) rfl (fun _ _=>.inl (by simp)) xl⟩
   |goto l=>exact ⟨_,a₁,w₁,hq,.pass (x:=.inLoop c) rfl (fun _ _=>.inl (by simp)) xl⟩
   |ret=>exact ⟨_,a₁,w₁,hq,.pass (x:=.inLoop c) rfl (fun _ _=>.inl (by simp)) xl⟩
   |panic ch=>exact ⟨_,a₁,w₁,hq,.pass (x:=.inLoop c) rfl (fun _ _=>.inl (by simp)) xl⟩
   |outgrown=>exact ⟨_,a₁,w₁,hq,.pass (x:=.inLoop c) rfl (fun _ _=>.inl (by simp)) xl⟩
 obtain ⟨e,a',w',hq,xl⟩:=key _ a w h₀;exact ⟨e,a',w',hq,.of_steps (.one (fenced_calm hb hr rfl) stepR_loop) xl⟩
theorem jv.loop {c:Code} (I:Nat→St→Prop) (round:∀ m s,I m s→jv E c (Yv (fun s'=>∃ m',m' < m∧I m' s') Q) s) {m:Nat} (h:I m s):jv E (.loop c) Q s:=fun R w β a F hr hf=>by
 refine s5 (fun m a' w'=>∃ s' R' β',I m s'∧bi E R' w' β' s' a'∧Step R w β s.boxes R' w' β' s'.boxes∧s'.ro=s.ro) ?_ ⟨s,R,β,h,hr,Step.refl _ _ _ _,rfl⟩;rintro m a' w' ⟨s',R',β',hI,mW,lI,bu⟩;refine wpIn_mono (round m s' hI R' w' β' a' F mW (by rw [bu]; exact hf.mono lI.ext)) ?_;rintro e a'' U4 ⟨He,Rf,Yw,hq,C5,wC,Bd⟩;cases e with
 |normal=>
  obtain ⟨m',cE,hI'⟩:=hq;exact ⟨m',cE,He,Rf,Yw,hI',C5,lI.trans wC,Bd.trans bu⟩
 |_=>exact ⟨He,Rf,Yw,hq,C5,lI.trans wC,Bd.trans bu⟩
end rules
def noGoto (Q:Exit→Act→World→Prop):Exit→Act→World→Prop
 |.goto _,_,_=>False
 |e,a,w=>Q e a w
section scopes
variable {P:Program} {b:Frame} {a:Act} {k:List Item} {cs:List Frame} {w:World} {Q:Exit→Act→World→Prop} {F:Fence} {n:Nat}
theorem kU {c:Code}:step P (lone (b.atR a (.code (.scope c) :: k)) cs w)=.next (lone (b.atR a (.code c :: .inScope c :: k)) cs w):=
 step_lone_go (by simp [stepG,stepG.exec,Frame.atR])
theorem Fe {c:Code}:step P (lone (b.atR a (.inScope c :: k)) cs w)=.next (lone (b.atR a k) cs w):=
 step_lone_go (by simp [stepG,stepG.exec,Frame.atR])
theorem LX {c:Code} (h:c.wpIn F n P (noGoto Q) a w):(Code.scope c).wpIn F n P Q a w:=by
 intro b k cs bu hb hr;have h0:(lone (b.atR a (.code (.scope c) :: k)) cs w).fenced P F:=fenced_calm hb hr rfl;obtain ⟨e,a₁,w₁,hq,xl⟩:=h b (.inScope c :: k) cs bu hb hr;cases e with
 |normal=>exact ⟨.normal,a₁,w₁,hq,.head h0 kU (StepsIn.trans xl (.one (fenced_calm hb hr rfl) Fe))⟩
 |exit id=>
  have hx:exitTo id (.inScope c :: k)=exitTo id k:=by simp [exitTo]
  exact ⟨.exit id,a₁,w₁,hq,fun k' hk=>.head h0 kU (xl.1 k' (by rw [hx]; exact hk)),
    fun mW hk=>let ⟨k₁,h1,h2⟩:=xl.2 mW (by rw [hx]; exact hk); ⟨k₁,h1,.head h0 kU h2⟩⟩
 |goto l=>exact hq.elim
 |ret=>exact ⟨_,a₁,w₁,hq,.of_steps (.one h0 kU) xl⟩
 |panic ch=>exact ⟨_,a₁,w₁,hq,.of_steps (.one h0 kU) xl⟩
 |outgrown=>exact ⟨_,a₁,w₁,hq,.of_steps (.one h0 kU) xl⟩
end scopes
def aan (Q:Exit→St→Prop):Exit→St→Prop
 |.goto _,_=>False
 |e,s=>Q e s
theorem jv.scope {E:Env} {c:Code} {Q:Exit→St→Prop} {s:St} (h:jv E c (aan Q) s):jv E (.scope c) Q s:=fun R w β a F hr hf=>by
 refine LX (wpIn_mono (h R w β a F hr hf) ?_);rintro e a' w' ⟨s',R',β',hq,rest⟩;cases e with
 |goto l=>exact hq.elim
 |_=>exact ⟨s',R',β',hq,rest⟩
def kg:dX:=[]
def FV (E:Env) (R:aj) (w:World) (Q:AV→List GO→Prop):Ending→World→Prop
 |.returned c,w'=>∃ r G' R',Q r G'∧Rel R' w' r c∧il E R' w' G'∧Step R w (fun _=>0) kg R' w' (fun _=>0) kg
 |_,_=>False
def Hk (E:Env) (R:aj) (w:World) (Q:Bool→List GO→Prop):Ending→World→Prop
 |.returned c,w'=>∃ r G' R',Q r G'∧c=.bool r∧il E R' w' G'∧Step R w (fun _=>0) kg R' w' (fun _=>0) kg
 |_,_=>False
def pg (E:Env) (id:Nat) (args:List AV) (G:List GO) (Q:Bool→List GO→Prop):Prop:=
 ∀ (R:aj) (w:World) (cs:List Value) (b:Nat),il E R w G→aQ R w args cs→nth R.obj id=some (.bZ b) →
  ∃ r:Loop,w.heap[b]?=some (.loop r)∧cs.length=r.params.size ∧
   RoundIn aah 0 E.P b r.fn ((r.params.zip ⟨cs⟩).foldl (fun tmps (t,a)=>tmps.setIfInBounds t a) r.tmps) r.assign r.body w (Hk E R w Q)
theorem pg.mono {E:Env} {id:Nat} {args:List AV} {G:List GO} {Q Q':Bool→List GO→Prop} (h:pg E id args G Q) (hq:∀ r G',Q r G'→Q' r G'):pg E id args G Q':=
 fun R w cs b hg hl hb=>by
  obtain ⟨r,h1,h2,h3⟩:=h R w cs b hg hl hb;refine ⟨r,h1,h2,h3.mono fun e w' he=>?_⟩;cases e with
  |returned c=>obtain ⟨r,G',R',k1,k2⟩:=he; exact ⟨r,G',R',hq _ _ k1,k2⟩
  |_=>exact he
def Plain (P : Program) (g : FuncId) : Prop := ∃ fn, P.funcs[g]? = some fn ∧ fn.body.isNone = false ∧ (fn.name == "runtime.NumGoroutine") = false
def eP (E:Env) (g:FuncId) (args:List AV) (G:List GO) (Q:AV→List GO→Prop):Prop:=
 Plain E.P g∧∀ (R:aj) (w:World) (cs:List Value),il E R w G→aQ R w args cs→CallsIn aah 0 E.P g ⟨cs⟩ w (FV E R w Q)
theorem eP.mono {E:Env} {g:FuncId} {args:List AV} {G:List GO} {Q Q':AV→List GO→Prop} (h:eP E g args G Q) (hq:∀ r G',Q r G'→Q' r G'):eP E g args G Q':=
 ⟨h.1,fun R w cs hg hl=>(h.2 R w cs hg hl).mono fun e _ he=>by
  cases e with
  |returned c=>obtain ⟨r,G',R',h1,h2⟩:=he; exact ⟨r,G',R',hq _ _ h1,h2⟩
  |_=>exact he⟩
theorem jk {R:aj} {β:Nat→Nat} {b:Nat} (h:Own R β kg b):Live R b:=by
 rcases h with h|⟨k,cs,hk,_⟩
 ·exact h
 ·simp [kg,fh] at hk
section calls
variable {E:Env} {R R':aj} {w w':World} {β:Nat→Nat} {s:St} {a:Act} {o:Oper}
theorem bi.vy (h:bi E R w β s a) {G':List GO} (hg:il E R' w' G') (st:Step R w (fun _=>0) kg R' w' (fun _=>0) kg) :
  bi E R' w' β (s.bM G') a∧Step R w β s.boxes R' w' β s.boxes:=by
 have CQ:∀ k cs,fh s.boxes k=some cs→β k < w.heap.size∧¬ Live R (β k):=fun k cs hk=>⟨h.fu (.inr ⟨k,cs,hk,rfl⟩),(h.b.box k cs hk).2.2⟩
 have live:∀ b,b < w.heap.size→Live R' b→Live R b:=fun b hb hl=>jk (st.own b hb (.inl hl))
 refine ⟨⟨hg,h.b.bD st.ext (fun k cs hk=>?_) (fun k cs o hk hi=>?_) (fun k cs hk hl=>live _ (CQ k cs hk).1 hl),h.t.mono st.ext,h.n,h.d.mono st.ext⟩,?_⟩
 ·obtain ⟨h1,h2⟩:=CQ k cs hk;exact st.bD _ h1 (fun ho=>h2 (jk ho))
 ·obtain ⟨h1,h2⟩:=CQ k cs hk;exact st.im _ o hi h1 (fun ho=>h2 (jk ho))
 ·refine ⟨st.ext,st.os,st.tape,st.output,st.size,fun b hb hn=>st.bD b hb (fun ho=>hn (.inl (jk ho))),fun b hb ho=>?_,fun b o hi hb hn=>st.im b o hi hb (fun ho=>hn (.inl (jk ho)))⟩;rcases ho with ho|ho
  ·exact .inl (live b hb ho)
  ·exact .inr ho
theorem s6 {P:Program} {g:FuncId} (h:Plain P g) (args:Array Value) (w:World):(callFunc g args).run P w=.ok (.enter g args) w:=by
 obtain ⟨fn,h1,h2,h3⟩:=h;unfold callFunc;simp only [aaq,run_program,aak,h1,h2,h3,Bool.false_eq_true,if_false,aaG]
def uC (E:Env) (R:aj) (w:World) (β:Nat→Nat) (s:St) (K:St→Prop) (a':Act) (w':World):Prop:=
 ∃ s' R' β',K s'∧bi E R' w' β' s' a'∧Step R w β s.boxes R' w' β' s'.boxes∧s'.ro=s.ro
@[simp] theorem lK (s:St) (d:Option Tmp) (x:SV):(s.put d x).ro=s.ro:=by
 cases d with
 |none=>rfl
 |some d=>
  simp only [St.put];split <;> rfl
theorem RX {f:FuncId} {c:Bool} {s':St} (h:kR E f s o=some (c,s')):s'.ro=s.ro:=by
 unfold kR at h;cases h
theorem PB {t:TypeId} {p x:SV} {c:Bool} {s':St} (h:iz E s t p x=some (c,s')):s'.ro=s.ro:=by
 have store:∀ {t:TypeId} {p x:SV} {s':St},kj E s t p x=some s'→s'.ro=s.ro:=by
  intro t p x s' h;unfold kj at h
  repeat' (split at h)
  all_goals (first|(cases h; done) | skip)
  all_goals (injection h with h; subst h; rfl)
 unfold iz at h
 repeat' (split at h)
 all_goals (first|(cases h; done) | skip)
 all_goals (injection h with h; injection h with _ h; subst h)
 all_goals (first|rfl | exact store (by assumption))
theorem PC {f:FuncId} {c:Bool} {s':St} (h:aq E f s o=some (c,s')):s'.ro=s.ro:=by
 have alloc:∀ {el:TypeId} {cs:List AV} {c:Bool} {s':St},iU E f s o.dst el cs=some (c,s')→s'.ro=s.ro:=by
  intro el cs c s' h;unfold iU at h
  repeat' (split at h)
  all_goals (first|(cases h; done) | skip)
  all_goals (injection h with h; injection h with _ h; subst h; simp [St.fL,St.AZ,St.kill])
 have store:∀ {t:TypeId} {p x:SV} {s':St},kj E s t p x=some s'→s'.ro=s.ro:=by
  intro t p x s' h;unfold kj at h
  repeat' (split at h)
  all_goals (first|(cases h; done) | skip)
  all_goals (injection h with h; subst h; rfl)
 have aao:∀ {t:TypeId} {p x:SV} {c:Bool} {s':St},iz E s t p x=some (c,s')→s'.ro=s.ro:=by
  intro t p x c s' h;unfold iz at h
  repeat' (split at h)
  all_goals (first|(cases h; done) | skip)
  all_goals (injection h with h; injection h with _ h; subst h)
  all_goals (first|rfl | exact store (by assumption))
 have aap:∀ {t:TypeId} {p x:SV} {c:Bool} {s':St},nS E s t p x=some (c,s')→s'.ro=s.ro:=by
  intro t p x c s' h;unfold nS at h;split at h
  ·rename_i hs;injection h with h; injection h with _ h;subst h;exact PB (s:=s.bM (wR s p x).2.2) hs
  ·cases h
 have blt:∀ {b:Builtin} {l:List AV} {tys:List TypeId} {c:Bool} {s':St},dG E s o.dst b l tys=some (c,s')→s'.ro=s.ro:=by
  intro b l tys c s' h;unfold dG at h
  repeat' (split at h)
  all_goals (first|(cases h; done) | skip)
  all_goals (injection h with h; injection h with _ h; subst h; simp [St.bM])
 have update:∀ {t:TypeId} {m k x:SV} {s':St},iV E s t m k x=some s'→s'.ro=s.ro:=by
  intro t m k x s' h;unfold iV at h
  repeat' (split at h)
  all_goals (first|(cases h; done) | skip)
  all_goals (injection h with h; subst h; rfl)
 have next:∀ {x:SV} {s':St},qi s o.dst x=some s'→s'.ro=s.ro:=by
  intro x s' h;unfold qi at h;split at h
  ·split at h
   ·rename_i l pos hg;cases hb:abx pos l.length <;> rw [hb] at h <;> simp only [cond_true,cond_false] at h <;> cases h <;> simp [St.bM]
   ·cases h
  ·cases h
 have LY:∀ {t:TypeId} {m k:SV} {c:Bool} {v:AV} {s':St},jU E s t m k=some (c,v,s')→s'.ro=s.ro:=by
  intro t m k c v s' h;unfold jU at h
  repeat' (split at h)
  all_goals (first|(cases h; done) | skip)
  all_goals (injection h with h; injection h with _ h; injection h with _ h; subst h; rfl)
 have LZ:∀ {m st x:SV} {c:Bool} {s':St},gU s m st x=some (c,s')→s'.ro=s.ro:=by
  intro m st x c s' h;unfold gU at h
  repeat' (split at h)
  all_goals (first|(cases h; done) | skip)
  all_goals (injection h with h; injection h with _ h; subst h; rfl)
 unfold aq sM at h
 repeat' (split at h)
 all_goals (first|(cases h; done) | exact alloc h | exact blt h | (rename_i hf; cases h; exact RX hf) | skip)
 all_goals (injection h with h; injection h with _ h; subst h)
 all_goals (first|(simp; done) | (simp [St.fL]; done) | (simp [St.bM]; done) | skip)
 all_goals (first|exact aap (by assumption) | exact update (by assumption) | exact (lK _ _ _).trans (LY (by assumption)) | exact LZ (by assumption) | exact next (by assumption))
theorem I5 {f:FuncId} {F:Fence} {s':St} {K:St→Prop} {Qc:Exit→Act→World→Prop} (h:bi E R w β s a) (hf:cT R s.ro F) (hs:aq E f s o=some (true,s')) (hK:K s')
  (nd:∀ c,o.op≠.defer c) (N:Act→World→Prop) (hN:∀ a' w',uC E R w β s K a' w'→N a' w'):o.wpIn F 0 E.P a w N Qc:=by
 obtain ⟨nx,x,w',R',β',h1,h2,h3,h4⟩:=I1 h hs;refine ⟨fun f _=>hf.fn f,?_⟩;rw [aas _ _ _ nd,h1];have:N (a.put o.dst x) w':=hN _ _ ⟨s',R',β',hK,h3,h4,PC hs⟩;rcases h2 with rfl|⟨rfl,rfl⟩
 ·exact this
 ·exact this
theorem PD {F:Fence} {K:St→Prop} {Qc:Exit→Act→World→Prop} (h:bi E R w β s a) (hf:cT R s.ro F) {fo:Operand} {args:Array Operand} {tys:Array TypeId} (ho:o.op=.call { callee:=.value fo,args:=args,argTypes:=tys })
  {g:FuncId} {first cap l:List AV} (hfo:bO E s.ab fo=.v (.fn g first cap)) (hl:rk E s.ab args.toList=some l)
  (hc:eP E g (first++l++cap) s.G (fun r G'=>K ((s.bM G').put o.dst (.v r)))) (N:Act→World→Prop) (hN:∀ a' w',uC E R w β s K a' w'→N a' w'):o.wpIn F 0 E.P a w N Qc:=by
 refine ⟨fun f _=>hf.fn f,?_⟩;have rf:=a6 h fo;rw [hfo] at rf;have rf':Rel R w (.fn g first cap) (a.eval fo):=rf;have rl:=j3 h hl;generalize hfv:a.eval fo=fv at rf';cases rf' with
 | @fn _ _ _ vs us h1 h2=>
 have bL:(o.semAt F.round a.eval).run E.P w=.ok (.enter g ⟨vs++args.toList.map a.eval++us⟩) w:=by
  rw [aas _ _ _ (fun c e=>by rw [ho] at e; cases e)];simp only [execOp,ho,resolve,hfv,abN,aaq,aaG,aak,invoke,oV];have:=s6 hc.1 (⟨vs⟩++⟨args.toList.map a.eval⟩++⟨us⟩) w;simpa using this
 rw [bL];refine ⟨fun e=>by rw [hf.depth] at e; simp at e,hf.calls ?_⟩;refine (hc.2 R w (vs++args.toList.map a.eval++us) h.g ((h1.append rl).append h2)).mono ?_;intro e U4 he;cases e with
 |returned c=>
  obtain ⟨r,G',R',hK,hr,hg,st⟩:=he;obtain ⟨q1,q2⟩:=h.vy hg st;exact hN _ _ ⟨_,R',β,hK,q1.put o.dst (x:=.v r) hr,by rw [bn]; exact q2,by rw [lK]; rfl⟩
 |panicked c=>exact he.elim
 |outgrown=>exact he.elim
theorem cT.rounds {R:aj} {ro:Option Nat} {F:Fence} (h:cT R ro F) {n:Nat} {P:Program} {l:Nat} {f:FuncId} {tmps:Array Value} {xm bd:Code} {w:World} {Q:Ending→World→Prop}
  (hc:RoundIn aah n P l f tmps xm bd w Q):RoundIn F n P l f tmps xm bd w Q:=by
 cases ro with
 |none=>rw [show F=aah from h]; exact hc
 |some id=>obtain ⟨b,_,h2⟩:=h; rw [h2]; exact hc
theorem L0 {F:Fence} {K:St→Prop} {Qc:Exit→Act→World→Prop} (h:bi E R w β s a) (hf:cT R s.ro F) {fo:Operand} {args:Array Operand} {tys:Array TypeId} (ho:o.op=.call { callee:=.value fo,args:=args,argTypes:=tys })
  {id:Nat} {l:List AV} (hfo:bO E s.ab fo=.v (.yield id)) (hl:rk E s.ab args.toList=some l)
  (hc:pg E id l s.G (fun b G'=>K ((s.bM G').put o.dst (.v (.bool b))))) (N:Act→World→Prop) (hN:∀ a' w',uC E R w β s K a' w'→N a' w'):o.wpIn F 0 E.P a w N Qc:=by
 refine ⟨fun f _=>hf.fn f,?_⟩;have rf:=a6 h fo;rw [hfo] at rf;have rf':Rel R w (.yield id) (a.eval fo):=rf;have rl:=j3 h hl;generalize hfv:a.eval fo=fv at rf';cases rf' with
 | @yield _ b hb=>
 obtain ⟨r,KV,I6,hr3⟩:=hc R w (args.toList.map a.eval) b h.g rl hb;have bL:(o.semAt F.round a.eval).run E.P w=.ok (.round b r.fn ((r.params.zip ⟨args.toList.map a.eval⟩).foldl (fun tmps (t,a)=>tmps.setIfInBounds t a) r.tmps) r.assign r.body) w:=by
  rw [aas _ _ _ (fun c e=>by rw [ho] at e; cases e)];simp only [execOp,ho,resolve,hfv,abN,aaq,aaG,aak,invoke,oV];have:=run_yield (P:=E.P) KV (args:=⟨args.toList.map a.eval⟩) I6;simpa using this
 rw [bL];refine ⟨fun e=>by rw [hf.depth] at e; simp at e,hf.rounds (hr3.mono ?_)⟩;intro e U4 he;cases e with
 |returned c=>
  obtain ⟨r,G',R',hK,rfl,hg,st⟩:=he;obtain ⟨q1,q2⟩:=h.vy hg st;exact hN _ _ ⟨_,R',β,hK,q1.put o.dst (x:=.v (.bool r)) (Rel.bool r),by rw [bn]; exact q2,by rw [lK]; rfl⟩
 |panicked c=>exact he.elim
 |outgrown=>exact he.elim
end calls
def uD (ops:List Oper) (j:Nat):Option Tmp:=match nth ops j with
 |some o=>o.dst
 |none=>none
def fU:Bool→Prop→Prop
 |true,p=>p
 |false,_=>False
theorem fU.mk {c:Bool} {p:Prop} (h:c=true) (hp:p):fU c p:=by subst h; exact hp
theorem fU.out {c:Bool} {p:Prop} (h:fU c p):c=true∧p:=by
 cases c
 ·exact h.elim
 ·exact ⟨rfl,h⟩
def ot (E:Env) (f:FuncId) (o:Oper) (K:St→Prop) (s:St):Prop:=
 match o.op with
 |.call { callee:=.value x,args,.. }=>match bO E s.ab x,rk E s.ab args.toList with
  |.v (.fn g first cap),some l=>eP E g (first++l++cap) s.G (fun r G'=>K ((s.bM G').put o.dst (.v r)))
  |.v (.yield id),some l=>pg E id l s.G (fun b G'=>K ((s.bM G').put o.dst (.v (.bool b))))
  |_,_=>False
 |.defer _=>False
 |_=>match aq E f s o with
  |some (c,s')=>fU c (K s')
  |none=>False
def dh (E:Env) (f:FuncId) (ops:List Oper) (o:Oper) (K:St→Prop) (s:St):Prop:=
 match o.guard with
 |none=>ot E f o K s
 |some (j,want)=>match uD ops j with
  |none=>False
  |some d=>match lk s.ab d with
   |.v (.bool b)=>(b=want→ot E f o K (s.put (some d) (.v (.bool want))))∧(b=!want→K ((s.put (some d) (.v (.bool (!want)))).put o.dst (.v jE)))
   |.v (.bW [])=>K (s.put o.dst (.v jE))
   |_=>False
def jK (E:Env) (f:FuncId) (ops:List Oper) (o:Oper) (K:St→Prop) (s:St):Prop:=
 match o.guard,mV E f s o with
 |none,some s'=>K s'
 |_,_=>dh E f ops o K s
def je (E:Env) (f:FuncId) (ops:List Oper) (o:Oper) (K:St→Prop) (s:St):Prop:=
 match o.guard,A2 E f s o,zT E s o with
 |none,some (c,s'),_=>fU c (K s')
 |none,none,some (c,s0,left,g)=>fU c ((left=[]→K s0)∧∀ i∈left,fU (g i).1 (K (g i).2))
 |_,_,_=>jK E f ops o K s
def jf (E:Env) (f:FuncId) (ops:List Oper) (o:Oper) (K:St→Prop) (s:St):Prop:=
 match Pc E f s o with
 |some (c,s')=>c=true∧je E f ops o K s'
 |none=>je E f ops o K s
def FW (E:Env) (f:FuncId) (o:Oper) (K:St→Prop) (s:St):Prop:=match FU E f o s with
 |some (c,s')=>c=true∧K s'
 |none=>False
def uE (E:Env) (f:FuncId) (ops:List Oper):List Oper→(St→Prop)→St→Prop
 |[],K,s=>K s
 |o :: rest,K,s=>jf E f ops o (FW E f o (uE E f ops rest K)) s
section regions
variable {E:Env} {R:aj} {w:World} {β:Nat→Nat} {s:St} {a:Act}
theorem FX {f:FuncId} {o:Oper} {F:Fence} {K:St→Prop} {Qc:Exit→Act→World→Prop} (h:bi E R w β s a) (hf:cT R s.ro F) (ha:ot E f o K s) (N:Act→World→Prop) (hN:∀ a' w',uC E R w β s K a' w'→N a' w') :
  o.wpIn F 0 E.P a w N Qc:=by
 unfold ot at ha;split at ha
 ·rename_i x args tys ho;split at ha
  ·rename_i g first cap l h1 h2
   exact PD h hf ho h1 h2 ha N hN
  ·rename_i id l h1 h2;exact L0 h hf ho h1 h2 ha N hN
  ·exact ha.elim
 ·exact ha.elim
 ·rename_i nc nd;split at ha
  ·rename_i c s' hs;obtain ⟨rfl,hK⟩:=ha.out;exact I5 h hf hs hK (fun c e=>nd c e) N hN
  ·exact ha.elim
theorem bi.I7 (h:bi E R w β s a) {d:Tmp} {b t:Bool} (hd:lk s.ab d=.v (.bool b)) (e:b=t):bi E R w β (s.put (some d) (.v (.bool t))) a:=by
 subst e;simp only [St.put];split
 ·refine ⟨h.g,h.b,fun i hi=>?_,h.n,h.d⟩;by_cases e:d=i
  ·subst e;rw [aN];have:=h.t d (by rw [hd]; simp);rw [hd] at this;exact this
  ·rw [a8 e] at hi ⊢;exact h.t i hi
 ·exact h
theorem L4 (h:bi E R w β s a) {ops:Array Oper} {j:Nat} {d:Tmp} {b:Bool} (hj:uD ops.toList j=some d) (hd:lk s.ab d=.v (.bool b)):yielded ops a.tmps j=some b:=by
 unfold uD at hj;split at hj
 ·rename_i o ho;rw [aV] at ho;have wX:ops[j]?=some o:=by simpa using ho
  obtain ⟨c,h1,h2⟩:=h.t d (by rw [hd]; simp);rw [hd] at h2;have h2':Rel R w (.bool b) c:=h2;cases h2';simp [yielded,wX,hj,h1]
 ·cases hj
theorem Ff (h:bi E R w β s a) {ops:Array Oper} {j:Nat} {d:Tmp} (hj:uD ops.toList j=some d) (hd:lk s.ab d=.v (.bW [])):yielded ops a.tmps j=none:=by
 unfold uD at hj;split at hj
 ·rename_i o ho;rw [aV] at ho;have wX:ops[j]?=some o:=by simpa using ho
  obtain ⟨c,h1,h2⟩:=h.t d (by rw [hd]; simp);rw [hd] at h2;have h2':Rel R w (.bW []) c:=h2;cases h2';simp [yielded,wX,hj,h1]
 ·cases hj
theorem yu {f:FuncId} {o:Oper} {F:Fence} {ops:Array Oper} {K:St→Prop} {Qc:Exit→Act→World→Prop} (h:bi E R w β s a) (hf:cT R s.ro F) (ha:dh E f ops.toList o K s) (N:Act→World→Prop) (hN:∀ a' w',uC E R w β s K a' w'→N a' w') :
  (if aag o (yielded ops a.tmps) then o.wpIn F 0 E.P a w N Qc else (∀ f,o.about E.P w a.eval=some f→F.fn f)∧N (a.put o.dst undef) w):=by
 unfold dh at ha;split at ha
 ·rename_i hg;have:aag o (yielded ops a.tmps)=true:=by simp [aag,hg]
  rw [if_pos this];exact FX h hf ha N hN
 ·rename_i j want hg;split at ha
  ·exact ha.elim
  ·rename_i d hd;split at ha
   ·rename_i b hb;have hy:=L4 h hd hb;by_cases hw:b=want
    ·have:aag o (yielded ops a.tmps)=true:=by simp [aag,hg,hy,hw]
     rw [if_pos this];exact FX (h.I7 hb hw) (by rw [lK]; exact hf) (ha.1 hw) N (fun a' w' hh=>hN a' w' (by
      obtain ⟨s',R',β',q1,q2,q3,q4⟩:=hh;exact ⟨s',R',β',q1,q2,by rw [bn] at q3; exact q3,by rw [lK] at q4; exact q4⟩))
    ·have hbw:b=!want:=by cases b <;> cases want <;> simp_all
     have:¬ aag o (yielded ops a.tmps)=true:=by simp [aag,hg,hy,hw]
     rw [if_neg this];refine ⟨fun f _=>hf.fn f,hN _ _ ⟨_,R,β,ha.2 hbw,(h.I7 hb hbw).put o.dst (x:=.v jE) (Rel.bW .nil),by rw [bn,bn]; exact Step.refl _ _ _ _,by rw [lK,lK]⟩⟩
   ·rename_i hb;have hy:=Ff h hd hb;have:¬ aag o (yielded ops a.tmps)=true:=by simp [aag,hg,hy]
    rw [if_neg this];exact ⟨fun f _=>hf.fn f,hN _ _ ⟨_,R,β,ha,h.put o.dst (x:=.v jE) (Rel.bW .nil),by rw [bn]; exact Step.refl _ _ _ _,by rw [lK]⟩⟩
   ·exact ha.elim
theorem Fg {f:FuncId} {o:Oper} {F:Fence} {ops:Array Oper} {K:St→Prop} {Qc:Exit→Act→World→Prop} (h:bi E R w β s a) (hf:cT R s.ro F) (ha:jK E f ops.toList o K s) (N:Act→World→Prop) (hN:∀ a' w',uC E R w β s K a' w'→N a' w') :
  (if aag o (yielded ops a.tmps) then o.wpIn F 0 E.P a w N Qc else (∀ f,o.about E.P w a.eval=some f→F.fn f)∧N (a.put o.dst undef) w):=by
 unfold jK at ha;split at ha
 ·rename_i s' hg hb;have:aag o (yielded ops a.tmps)=true:=by simp [aag,hg]
  rw [if_pos this];unfold mV at hb;split at hb
  ·rename_i t len parts ho;split at hb
   ·rename_i d hd;split at hb
    ·split at hb
     ·rename_i i hi;split at hb
      ·rename_i elem bP ag sE z esz es hk hv;cases hb;obtain ⟨nx,x,w',R',β',h1,h2,h3,h4⟩:=Ae h t len parts ho hv hi hk;refine ⟨fun f _=>hf.fn f,?_⟩;rw [aas _ _ _ (fun c e=>by rw [ho] at e; cases e),h1];rw [hd] at h3 h4;have jI:N (a.put o.dst x) w':=hN _ _ ⟨_,R',β',ha,by rw [hd]; exact h3,h4,by rw [lK]; rfl⟩;rcases h2 with rfl|⟨rfl,rfl⟩
       ·exact jI
       ·exact jI
      ·rename_i elem esz ag sE z hk _;split at hb;rotate_left
       ·cases hb
       rename_i cs hv;cases hb;obtain ⟨nx,x,w',R',β',h1,h2,h3,h4⟩:=Ad h t len parts ho hv hi hk;refine ⟨fun f _=>hf.fn f,?_⟩;rw [aas _ _ _ (fun c e=>by rw [ho] at e; cases e),h1];rw [hd] at h3 h4;have jI:N (a.put o.dst x) w':=hN _ _ ⟨_,R',β',ha,by rw [hd]; exact h3,h4,by rw [lK]; rfl⟩;rcases h2 with rfl|⟨rfl,rfl⟩
       ·exact jI
       ·exact jI
      ·cases hb
     ·cases hb
    ·split at hb
     ·split at hb
      ·rename_i i hi;split at hb
       ·rename_i elem bP ag sE z esz es hk hv;split at hb
        ·rename_i hle;cases hb;obtain ⟨nx,x,w',R',β',h1,h2,h3,h4⟩:=Ai h t len parts ho hv hi hk (abz hle);refine ⟨fun f _=>hf.fn f,?_⟩;rw [aas _ _ _ (fun c e=>by rw [ho] at e; cases e),h1];rw [hd] at h3 h4;have jI:N (a.put o.dst x) w':=hN _ _ ⟨_,R',β',ha,by rw [hd]; exact h3,h4,by rw [lK]; rfl⟩;rcases h2 with rfl|⟨rfl,rfl⟩
         ·exact jI
         ·exact jI
        ·cases hb
       ·cases hb
      ·cases hb
     ·split at hb
      ·split at hb
       ·rename_i i hi;split at hb
        ·rename_i elem bP ag sE z esz es hk hv;split at hb
         ·rename_i hle;cases hb;obtain ⟨nx,x,w',R',β',h1,h2,h3,h4⟩:=Af h t len parts ho hv hi hk (abz hle);refine ⟨fun f _=>hf.fn f,?_⟩;rw [aas _ _ _ (fun c e=>by rw [ho] at e; cases e),h1];rw [hd] at h3 h4;have jI:N (a.put o.dst x) w':=hN _ _ ⟨_,R',β',ha,by rw [hd]; exact h3,h4,by rw [lK]; rfl⟩;rcases h2 with rfl|⟨rfl,rfl⟩
          ·exact jI
          ·exact jI
         ·cases hb
        ·cases hb
       ·cases hb
      ·cases hb
   ·cases hb
  ·cases hb
 ·exact yu h hf ha N hN
theorem PE {f:FuncId} {o:Oper} {c:Bool} {s':St} (h:wS E f s o=some (c,s')):s'.ro=s.ro∧∀ d,o.op≠.defer d:=by
 unfold wS at h;split at h
 ·split at h
  ·split at h
   ·rename_i t m k ok ho;refine ⟨?_,fun d e=>by rw [ho] at e; cases e⟩
    repeat' (split at h)
    all_goals (first|(cases h; done) | skip)
    all_goals (injection h with h; injection h with _ h; subst h; simp [St.bM])
   ·cases h
  ·cases h
 ·cases h
theorem Vt {f:FuncId} {o:Oper} {c:Bool} {s':St} (h:Lc E f s o=some (c,s')):s'.ro=s.ro∧∀ d,o.op≠.defer d:=by
 unfold Lc at h;split at h
 ·rename_i t x lo d ho hd;refine ⟨?_,fun d e=>by rw [ho] at e; cases e⟩
  repeat' (split at h)
  all_goals (first|(cases h; done) | skip)
  all_goals (injection h with h; injection h with _ h; subst h; simp [St.bM])
 ·cases h
theorem RY {f:FuncId} {o:Oper} {c:Bool} {s':St} (h:A2 E f s o=some (c,s')):s'.ro=s.ro∧∀ d,o.op≠.defer d:=by
 unfold A2 at h;split at h
 ·rename_i r hr;cases h;exact Vt hr
 ·exact PE h
theorem PF {o:Oper} {c:Bool} {s0:St} {left:List Nat} {g:Nat→Bool × St} (h:zT E s o=some (c,s0,left,g)):(∃ x,o.op=.next x false∧Fz E s o.dst (bO E s.ab x)=some (c,s0,left,g))∧s0.ro=s.ro∧∀ i,(g i).2.ro=s.ro:=by
 unfold zT at h;split at h
 ·rename_i x ho;refine ⟨⟨x,ho,h⟩,?_⟩;unfold Fz at h;split at h
  ·split at h
   ·split at h
    ·cases h;exact ⟨lK _ _ _,fun i=>lK _ _ _⟩
    ·cases h
   ·cases h
  ·cases h
 ·cases h
theorem Al {f:FuncId} {F:Fence} {o:Oper} {s':St} {K:St→Prop} {Qc:Exit→Act→World→Prop} (hf:cT R s.ro F) (hd:cq E R w β s a o s') (hK:K s') (bu:s'.ro=s.ro)
  (nd:∀ c,o.op≠.defer c) (N:Act→World→Prop) (hN:∀ a' w',uC E R w β s K a' w'→N a' w'):o.wpIn F 0 E.P a w N Qc:=by
 obtain ⟨nx,x,w',R',β',h1,h2,h3,h4⟩:=hd;refine ⟨fun f _=>hf.fn f,?_⟩;rw [aas _ _ _ nd,h1];have:N (a.put o.dst x) w':=hN _ _ ⟨s',R',β',hK,h3,h4,bu⟩;rcases h2 with rfl|⟨rfl,rfl⟩
 ·exact this
 ·exact this
theorem wD {f:FuncId} {o:Oper} {F:Fence} {ops:Array Oper} {K:St→Prop} {Qc:Exit→Act→World→Prop} (h:bi E R w β s a) (hf:cT R s.ro F) (ha:je E f ops.toList o K s) (N:Act→World→Prop) (hN:∀ a' w',uC E R w β s K a' w'→N a' w') :
  (if aag o (yielded ops a.tmps) then o.wpIn F 0 E.P a w N Qc else (∀ f,o.about E.P w a.eval=some f→F.fn f)∧N (a.put o.dst undef) w):=by
 unfold je at ha;split at ha
 ·rename_i c s' hg hb;have:aag o (yielded ops a.tmps)=true:=by simp [aag,hg]
  rw [if_pos this];obtain ⟨rfl,hK⟩:=ha.out;obtain ⟨k1,k2⟩:=RY hb;exact Al (f:=f) hf (LO h hb) hK k1 k2 N hN
 ·rename_i c s0 left g hg _ hb;have:aag o (yielded ops a.tmps)=true:=by simp [aag,hg]
  rw [if_pos this];obtain ⟨rfl,hK1,hK2⟩:=ha.out;obtain ⟨⟨x,ho,hm⟩,k1,k2⟩:=PF hb;have nd:∀ c,o.op≠.defer c:=fun c e=>by rw [ho] at e; cases e
  rcases LL h x ho hm with ⟨hl,hd⟩|⟨i,hi,hd⟩
  ·exact Al (f:=f) hf hd (hK1 hl) k1 nd N hN
  ·obtain ⟨q1,q2⟩:=(hK2 i hi).out;exact Al (f:=f) hf (hd q1) q2 (k2 i) nd N hN
 ·exact Fg h hf ha N hN
theorem Fh {f:FuncId} {o:Oper} {F:Fence} {ops:Array Oper} {K:St→Prop} {Qc:Exit→Act→World→Prop} (h:bi E R w β s a) (hf:cT R s.ro F) (ha:jf E f ops.toList o K s) (N:Act→World→Prop) (hN:∀ a' w',uC E R w β s K a' w'→N a' w') :
  (if aag o (yielded ops a.tmps) then o.wpIn F 0 E.P a w N Qc else (∀ f,o.about E.P w a.eval=some f→F.fn f)∧N (a.put o.dst undef) w):=by
 unfold jf at ha;split at ha
 ·rename_i c s' hz;obtain ⟨rfl,ha⟩:=ha;obtain ⟨R1,k1,k2,k3⟩:=RV h hz;refine wD k1 (by rw [k3]; exact hf.mono k2.ext) ha N ?_;rintro a' w' ⟨s2,R',β',q1,q2,q3,q4⟩;exact hN a' w' ⟨s2,R',β',q1,q2,k2.trans q3,q4.trans k3⟩
 ·exact wD h hf ha N hN
theorem C6 {f:FuncId} {F:Fence} {ops:Array Oper} {K:St→Prop} {Qc:Exit→Act→World→Prop} (hQ:∀ a' w',uC E R w β s K a' w'→Qc .normal a' w') :
  ∀ (l:List Nat) (os:List Oper),l.map (fun i=>ops[i]?)=os.map some→∀ (R1:aj) (w1:World) (β1:Nat→Nat) (s1:St) (a1:Act),bi E R1 w1 β1 s1 a1→Step R w β s.boxes R1 w1 β1 s1.boxes→s1.ro=s.ro→cT R1 s1.ro F →
   uE E f ops.toList os K s1→wpOpsIn F 0 E.P ops Qc l a1 w1
 |[],os,hm,R1,w1,β1,s1,a1,hr,lI,bu,_,ha=>by
  have:os=[]:=by simpa using hm.symm
  subst this;exact hQ _ _ ⟨s1,R1,β1,ha,hr,lI,bu⟩
 |i :: l,[],hm,_,_,_,_,_,_,_,_,_,_=>by simp at hm
 |i :: l,o :: os,hm,R1,w1,β1,s1,a1,hr,lI,bu,hf,ha=>by
  simp only [List.map_cons,List.cons.injEq] at hm;obtain ⟨hi,hm⟩:=hm;simp only [wpOpsIn,hi];refine Fh hr hf (show jf E f ops.toList o (FW E f o (uE E f ops.toList os K)) s1 from ha) _ ?_;rintro a' w' ⟨s',R',β',q1,q2,q3,q4⟩;unfold FW at q1;split at q1
  ·rename_i c s2 hp;obtain ⟨rfl,q1⟩:=q1;obtain ⟨R2,p1,p2,p3,_⟩:=PA q2 hp;exact C6 hQ l os hm R2 w' β' s2 a' p1 ((lI.trans q3).trans p2) (p3.trans (q4.trans bu)) (by rw [p3,q4]; exact hf.mono (q3.ext.trans p2.ext)) q1
  ·exact q1.elim
theorem PG (ops:Array Oper):(List.range ops.size).map (fun i=>ops[i]?)=ops.toList.map some:=by
 apply List.ext_getElem?;intro i;simp only [List.getElem?_map];by_cases hi:i < ops.size
 ·rw [List.getElem?_range hi];simp [hi]
 ·rw [abA (by simp; omega),abA (by simp; omega)];rfl
theorem jv.region {f:FuncId} {id:Nat} {ops:Array Oper} {Q:Exit→St→Prop} {s:St} (h:uE E f ops.toList ops.toList (Q .normal) s):jv E (.region id ops false) Q s:=fun R w β a F hr hf=>by
 refine wpIn_region (C6 (R:=R) (w:=w) (β:=β) (s:=s) (K:=Q .normal) (f:=f) ?_ _ _ (PG ops) R w β s a hr (Step.refl _ _ _ _) rfl hf h);rintro a' w' ⟨s',R',β',h1,h2⟩;exact ⟨s',R',β',h1,h2⟩
end regions
end Go.Am
namespace Go.Am
open Go
def vsl:Nat→List AV→bz
 |_,[]=>[]
 |n,a :: l=>.put n (.v a) :: vsl (n+1) l
def St.init (ntmps:Nat) (args:List AV) (G:List GO):St:=
 ⟨vsl 0 args,[],G,[],none,max ntmps args.length⟩
def uF:List Nat→List GO→Option (List GO)
 |[],G=>some G
 |id :: l,G=>match nth G id with
  |some (.defers true)=>uF l (aC G id (.defers false))
  |_=>none
def L5 (E:Env) (s:St):List ResultVar→Option (List AV)
 |[]=>some []
 |.tmp t :: l=>match lk s.ab t,L5 E s l with
  |.v a,some r=>some (a :: r)
  |_,_=>none
 |.cell p t :: l=>match xM E s t (lk s.ab p),L5 E s l with
  |some a,some r=>some (a :: r)
  |_,_=>none
def RZ (E:Env) (s:St) (fn:Func):Option AV:=match L5 E s fn.results.toList with
 |some [a]=>some a
 |some l=>some (.bW l)
 |none=>none
def Yx (E:Env) (fn:Func) (Q:AV→List GO→Prop):Exit→St→Prop
 |.normal,s | .ret,s=>match uF s.marks s.G with
  |some G=>match RZ E (s.bM G) fn with
   |some r=>Q r G
   |none=>False
  |none=>False
 |_,_=>False
section fns
variable {E:Env} {R:aj} {w:World} {β:Nat→Nat} {s:St} {a:Act}
def C7 (tmps:Array Value):ResultVar→Sem Value
 |.tmp t=>pure (tmps.getD t undef)
 |.cell p t=>do loadVar t (← asAddr (tmps.getD p undef))
theorem C8 (fn:Func) (tmps:Array Value):results fn tmps=(do
  let vs ← fn.results.mapM (C7 tmps)
  pure (if h:vs.size=1 then vs[0] else .tuple vs)):=by
 unfold results;congr 1
theorem yw (h:bi E R w β s a):∀ {l:List ResultVar} {r:List AV},L5 E s l=some r →
  ∃ vs,(l.mapM (C7 a.tmps)).run E.P w=.ok vs w∧aQ R w r vs
 |[],r,hl=>by
  simp [L5] at hl;subst hl;exact ⟨[],by simp,.nil⟩
 |.tmp t :: l,r,hl=>by
  unfold L5 at hl;split at hl
  ·rename_i x r' h1 h2;cases hl;obtain ⟨vs,g1,g2⟩:=yw h h2;obtain ⟨c,k1,k2⟩:=h.t t (by rw [h1]; simp);rw [h1] at k2;have hg:a.tmps.getD t undef=c:=by simp [abr,k1]
   refine ⟨c :: vs,?_,.cons k2 g2⟩;simp only [List.mapM_cons,aaq,aaG,aak,C7,hg,g1]
  ·cases hl
 |.cell p t :: l,r,hl=>by
  unfold L5 at hl;split at hl
  ·rename_i v r' h1 h2
   ·cases hl;obtain ⟨vs,g1,g2⟩:=yw h h2;obtain ⟨c,k1,k2⟩:=h.t p (fun e=>by rw [e] at h1; unfold xM at h1; split at h1 <;> simp_all [sH]);have hg:a.tmps.getD p undef=c:=by simp [abr,k1]
    unfold xM at h1;split at h1
    ·rename_i i cs off hi hc;split at h1
     ·rename_i l' hs;obtain ⟨b,o',us,e,q1,q2,q3⟩:=A4 h k2 hc;obtain ⟨m1,m2,m3,m4⟩:=vv hs q1 q2;obtain ⟨c',vu,gO⟩:=qj (E:=E) hi (b:=b) (off:=o'+off) m1 m2 m3 (fun j y hy=>by rw [Nat.add_assoc]; exact q3 _ _ (m4 j y hy)) h1;refine ⟨c' :: vs,?_,.cons gO g2⟩;have ha:(asAddr c).run E.P w=.ok ⟨b,o'+off,none⟩ w:=by rw [e]; rfl
      have aiC:(C7 a.tmps (.cell p t)).run E.P w=.ok c' w:=by
       simp only [C7,aaq,hg,ha,aak,vu]
      simp only [List.mapM_cons,aaq,aaG,aak,aiC,g1]
     ·cases h1
    ·cases h1
  ·cases hl
theorem R5 (h:bi E R w β s a) {fn:Func} {r:AV} (hr:RZ E s fn=some r):∃ c,(results fn a.tmps).run E.P w=.ok c w∧Rel R w r c:=by
 unfold RZ at hr;split at hr
 ·rename_i x hl;cases hr;obtain ⟨vs,g1,g2⟩:=yw h hl;cases g2 with
  | @cons _ c _ _ g2 g3=>
  cases g3;refine ⟨c,?_,g2⟩;rw [C8,abt];simp only [aaq,Sem.run_map];rw [g1];simp
 ·rename_i l df hl;cases hr;obtain ⟨vs,g1,g2⟩:=yw h hl;refine ⟨.tuple ⟨vs⟩,?_,.bW g2⟩;have hlen:vs.length≠1:=by
   rw [← g2.length];intro e
   match l,e with
   |[x],_=>exact df x rfl
  rw [C8,abt];simp only [aaq,Sem.run_map];rw [g1];simp [hlen]
 ·cases hr
theorem PH (fn:Func) (Q:Ending→World→Prop):∀ {marks:List Nat} {G G':List GO} {R:aj} {w:World} {β:Nat→Nat} {s:St} {a:Act},bi E R w β (s.bM G) a→we R marks a.defers→uF marks G=some G' →
  (∀ w' ,bi E R w' β (s.bM G') a→Step R w β s.boxes R w' β s.boxes→∃ v,(results fn a.tmps).run E.P w'=.ok v w'∧Q (.returned v) w')→LeavesInM aah 0 E.P fn a.tmps Q a.defers .returning w:=by
 intro marks;have key:∀ (marks:List Nat) (ds:List Deferred) (G G':List GO) (R:aj) (w:World) (β:Nat→Nat) (s:St) (a:Act),bi E R w β (s.bM G) a→we R marks ds→uF marks G=some G' →
   (∀ w' ,bi E R w' β (s.bM G') a→Step R w β s.boxes R w' β s.boxes→∃ v,(results fn a.tmps).run E.P w'=.ok v w'∧Q (.returned v) w')→LeavesInM aah 0 E.P fn a.tmps Q ds .returning w:=by
  intro marks
  induction marks with
  |nil=>
   intro ds G G' R w β s a hr hd hl hq;cases ds with
   |cons _ _=>exact hd.elim
   |nil=>
    simp [uF] at hl;subst hl;obtain ⟨v,h1,h2⟩:=hq w hr (Step.refl _ _ _ _);exact ⟨v,h1,h2⟩
  |cons id marks ih=>
   intro ds G G' R w β s a hr hd hl hq;cases ds with
   |nil=>exact hd.elim
   |cons d ds=>
    obtain ⟨⟨b,hb,rfl⟩,hd⟩:=hd;unfold uF at hl;split at hl
    ·rename_i hg;have hob:w.heap[b]?=some (.deferred (some [])):=hr.g.obj id _ _ hg hb;have cE:=bK hob;have Rt:(abJ b).run E.P w=.ok [] (World.put w b (.deferred none)):=by
      simp only [abJ,getObj,setObj,aaq,Sem.run,hob,aak,aaG];rfl
     obtain ⟨q1,q2⟩:=hr.setObj (s:=s.bM G) (x':=.deferred none) (go':=.defers false) hb hob trivial trivial (fun _ e=>by cases e) (ku w b _ cE);refine ⟨by simp,.inl ⟨b,_,rfl,Rt,?_⟩⟩;refine ih ds (aC G id (.defers false)) G' R _ β s a q1 hd hl (fun w' mW lI=>?_);exact hq w' mW (q2.trans lI)
    ·cases hl
 intro G G' R w β s a hr hd hl hq;exact key marks a.defers G G' R w β s a hr hd hl hq
end fns
end Go.Am
namespace Go.Am
open Go
section intro
variable {E:Env} {R R':aj} {w w':World} {β β':Nat→Nat}
theorem C9 {bx Nz:dX} (h:Step R w β bx R' w' β' Nz) (hn:∀ k cs,fh bx k≠some cs):Step R w (fun _=>0) kg R' w' (fun _=>0) kg:=by
 have own:∀ b,Own R β bx b→Live R b:=fun b ho=>by
  rcases ho with ho|⟨k,cs,hk,_⟩
  ·exact ho
  ·exact absurd hk (hn k cs)
 exact ⟨h.ext,h.os,h.tape,h.output,h.size,fun b hb xe=>h.bD b hb (fun ho=>xe (.inl (own b ho))),fun b hb ho=>.inl (own b (h.own b hb (.inl (jk ho)))),fun b o hi hb xe=>h.im b o hi hb (fun ho=>xe (.inl (own b ho)))⟩
theorem R6:∀ {l:List AV} {n i:Nat},(i < n∨n+l.length≤i→lk (vsl n l) i=.none)∧(∀ a,l[i - n]?=some a→n≤i→lk (vsl n l) i=.v a)
 |[],n,i=>⟨fun _=>rfl,fun a h=>by simp at h⟩
 |b :: l,n,i=>by
  obtain ⟨h1,h2⟩:=R6 (l:=l) (n:=n+1) (i:=i);refine ⟨fun h=>?_,fun a h hn=>?_⟩
  ·simp only [List.length_cons] at h;simp only [vsl];rw [a8 (by omega)];exact h1 (by omega)
  ·simp only [vsl];by_cases e:n=i
   ·subst e;rw [aN];simp at h;rw [h]
   ·rw [a8 e];refine h2 a ?_ (by omega);have:i - n=(i - (n+1))+1:=by omega
    rw [this] at h;simpa using h
theorem R7 {ntmps:Nat} {args:List AV} {cs:List Value} {G:List GO} (hg:il E R w G) (hl:aQ R w args cs) :
  bi E R w (fun _=>0) (St.init ntmps args G) { tmps:=⟨cs⟩++Array.replicate (ntmps - (⟨cs⟩:Array Value).size) undef,defers:=[] }:=by
 have hlen:=hl.length;refine ⟨hg,⟨fun k c hk=>?_,fun k k' c c' hk _ _=>?_⟩,fun i hi=>?_,?_,trivial⟩
 ·simp [St.init,fh] at hk
 ·simp [St.init,fh] at hk
 ·simp only [St.init] at hi ⊢;obtain ⟨h1,h2⟩:=R6 (l:=args) (n:=0) (i:=i);by_cases cE:i < args.length
  ·have hy:args[i]?=some args[i]:=abv cE;obtain ⟨c,k1,k2⟩:=hl.get hy;rw [h2 _ (by rw [Nat.sub_zero]; exact hy) (Nat.zero_le _)];refine ⟨c,?_,k2⟩;rw [Array.getElem?_append_left (by simp; omega)];simpa using k1
  ·exact absurd (h1 (by omega)) hi
 ·simp [St.init];omega
theorem L6 {ntmps:Nat} {args:List AV} {G:List GO} (k:Nat) (cs:List AV):fh (St.init ntmps args G).boxes k≠some cs:=by
 simp [St.init,fh]
theorem eP.intro {g : FuncId} {fn : Func} {c : Code} {args : List AV} {G : List GO} {Q : AV → List GO → Prop} (hf : E.P.funcs[g]? = some fn) (hb : fn.body = some c) (hn : (fn.name == "runtime.NumGoroutine") = false)
  (h:jv E c (Yx E fn Q) (St.init fn.ntmps args G)):eP E g args G Q:=by
 refine ⟨⟨fn,hf,by simp [hb],hn⟩,fun R w cs hg hl=>?_⟩;refine callsIn_of_wp_marks hf hb trivial (wpIn_mono (h R w (fun _=>0) _ aah (R7 hg hl) rfl) ?_);rintro e a' w' ⟨s',R',β',hq,hr,lI,bu⟩;have fin:(match uF s'.marks s'.G with
  |some G=>match RZ E (s'.bM G) fn with
   |some r=>Q r G
   |none=>False
  |none=>False)→LeavesInM aah 0 E.P fn a'.tmps (FV E R w Q) a'.defers .returning w':=by
  intro hq;split at hq
  ·rename_i G2 hG2;split at hq
   ·rename_i r L7;refine PH fn (FV E R w Q) (s:=s') (G:=s'.G) hr hr.d hG2 (fun U4 C5 wC=>?_);obtain ⟨v,h1,h2⟩:=R5 C5 L7;exact ⟨v,h1,r,G2,R',hq,h2,C5.g,C9 (lI.trans wC) L6⟩
   ·exact hq.elim
  ·exact hq.elim
 cases e with
 |normal=>exact fin hq
 |ret=>exact fin hq
 |exit _=>exact hq.elim
 |goto _=>exact hq.elim
 |panic _=>exact hq.elim
 |outgrown=>exact hq.elim
end intro
end Go.Am
namespace Go.Am
open Go
def St.jg (s:St) (pre:bz) (preB:dX) (G:List GO):St:=⟨pre++s.ab,preB++s.boxes,G,s.marks,s.ro,s.n⟩
def Pre (al:Bool) (dst:Option Tmp) (pre:bz):Prop:=
 pre=[]∨∃ d x,dst=some d∧(pre=[.put d x]∨(al=true∧pre=[.put d x,.kill d]))
def cH (al w:Bool) (dst:Option Tmp) (s t s' t':St):Prop:=
 ∃ pre preB G,Pre al dst pre∧(w=false→preB=[]∧G=s.G∧∃ x,s'=s.put dst x∧t'=t.put dst x)∧s'=s.jg pre preB G∧t'=t.jg pre preB G
section
variable {E:Env} {s t:St} {o:Oper}
theorem ql (s:St) (d:Tmp) (x:SV):s.put (some d) x=bif abx d s.n then s.jg [.put d x] [] s.G else s:=by
 cases h:abx d s.n <;> simp [St.put,h,St.jg]
theorem cH.put {al w:Bool} (hn:s.n=t.n) (hG:s.G=t.G) (dst:Option Tmp) (x:SV):cH al w dst s t (s.put dst x) (t.put dst x):=by
 cases dst with
 |none=>exact ⟨[],[],s.G,.inl rfl,fun _=>⟨rfl,rfl,x,rfl,rfl⟩,rfl,by rw [hG]; rfl⟩
 |some d=>
  have hx:∃ y,s.put (some d) x=s.put (some d) y∧t.put (some d) x=t.put (some d) y:=⟨x,rfl,rfl⟩;revert hx;generalize hs:s.put (some d) x=s';generalize ht:t.put (some d) x=t';intro hx;rw [ql] at hs ht;rw [← hn] at ht;revert hs ht;cases abx d s.n with
  |true=>exact fun hs ht=>⟨[.put d x],[],s.G,.inr ⟨d,x,rfl,.inl rfl⟩,fun _=>⟨rfl,rfl,hx⟩,hs.symm,by rw [hG]; exact ht.symm⟩
  |false=>exact fun hs ht=>⟨[],[],s.G,.inl rfl,fun _=>⟨rfl,rfl,hx⟩,hs.symm,by rw [hG]; exact ht.symm⟩
theorem cH.fH {al:Bool} (hn:s.n=t.n) (G:List GO) (dst:Option Tmp) (x:SV):cH al true dst s t ((s.bM G).put dst x) ((t.bM G).put dst x):=by
 cases dst with
 |none=>exact ⟨[],[],G,.inl rfl,fun h=>(by cases h),rfl,rfl⟩
 |some d=>
  rw [ql,ql,show (t.bM G).n=(s.bM G).n from hn.symm];cases abx d (s.bM G).n with
  |true=>exact ⟨[.put d x],[],G,.inr ⟨d,x,rfl,.inl rfl⟩,fun h=>(by cases h),rfl,rfl⟩
  |false=>exact ⟨[],[],G,.inl rfl,fun h=>(by cases h),rfl,rfl⟩
theorem cH.bM {al:Bool} (G:List GO) (dst:Option Tmp):cH al true dst s t (s.bM G) (t.bM G):=⟨[],[],G,.inl rfl,fun h=>(by cases h),rfl,rfl⟩
theorem cH.AZ {al:Bool} (hG:s.G=t.G) (dst:Option Tmp) (d:Nat) (cs:List AV):cH al true dst s t (s.AZ d cs) (t.AZ d cs):=
 ⟨[],[(d,cs)],s.G,.inl rfl,fun h=>(by cases h),rfl,(by rw [hG]; rfl)⟩
theorem kV {a b:bz}:∀ {l:List Operand},(∀ y∈l,bO E a y=bO E b y)→rk E a l=rk E b l
 |[],_=>rfl
 |x :: l,h=>by
  simp only [rk];rw [h x (by simp),kV (l:=l) (fun y hy=>h y (by simp [hy]))]
theorem rQ {a b:bz}:∀ {l:List (Nat × Operand)},(∀ p∈l,bO E a p.2=bO E b p.2)→UG E a l=UG E b l
 |[],_=>rfl
 |(i,x) :: l,h=>by
  simp only [UG];rw [h (i,x) (by simp),rQ (l:=l) (fun y hy=>h y (by simp [hy]))]
theorem Fi (hG:s.G=t.G) (p:SV) (hB:∀ k off,p=.lp k off→fh s.boxes k=fh t.boxes k):sH s p=sH t p:=by
 unfold sH;rw [hG];cases p with
 |lp k off=>simp only [hB k off rfl]
 |v a=>cases a <;> rfl
 |_=>rfl
theorem I8 (hG:s.G=t.G) (ty:TypeId) (p:SV) (hB:∀ k off,p=.lp k off→fh s.boxes k=fh t.boxes k):xM E s ty p=xM E t ty p:=by
 unfold xM;rw [Fi hG p hB]
theorem Be (hG:s.G=t.G) (id f i sz:Nat) (ty:TypeId):Cx E s id f i sz ty=Cx E t id f i sz ty:=by
 unfold Cx;rw [hG]
theorem Bf (hG:s.G=t.G) (id j f i sz:Nat) (ty:TypeId):Cy E s id j f i sz ty=Cy E t id j f i sz ty:=by
 unfold Cy;rw [hG]
theorem I9 (hG:s.G=t.G) (ty:TypeId) (p:SV) (hB:∀ k off,p=.lp k off→fh s.boxes k=fh t.boxes k):Fy E s ty p=Fy E t ty p:=by
 unfold Fy;split
 ·rw [Be hG]
 ·rw [Bf hG]
 ·rw [I8 hG _ _ hB]
theorem Ja (hG:s.G=t.G) (esz:Nat) (d x:AV):Iz s esz d x=Iz t esz d x:=rfl
theorem Bg {f:FuncId} {dst:Option Tmp} {el:TypeId} {cs:List AV} {c:Bool} {s':St} (hn:s.n=t.n) (hG:s.G=t.G) (h:iU E f s dst el cs=some (c,s')) :
  ∃ t',iU E f t dst el cs=some (c,t')∧cH true true dst s t s' t':=by
 unfold iU at *;cases dst with
 |none=>cases h
 |some d=>
  simp only at *;split at h
  ·rename_i hg;injection h with h;injection h with h1 h2;subst h1 h2;rw [if_pos hg];refine ⟨_,rfl,?_⟩;have:=cH.fH (al:=true) hn (s.G++[.row cs el]) (some d) (.v (.ptr s.G.length 0));rw [hG] at this;have e:s.fL (.row cs el)=s.bM (t.G++[.row cs el]):=by rw [← hG]; rfl
   rw [e,hG];exact this
  ·rename_i hg;rw [if_neg hg,← hn];split at h
   ·rename_i hb;injection h with h;injection h with h1 h2;subst h1 h2;refine ⟨_,rfl,[.put d (.lp d 0),.kill d],[(d,cs)],s.G,.inr ⟨d,_,rfl,.inr ⟨rfl,rfl⟩⟩,fun h=>(by cases h),?_,?_⟩
    ·simp [St.put,St.AZ,St.kill,hb,St.jg]
    ·simp only [St.put,St.AZ,St.kill,← hn,hb,St.jg,hG];rfl
   ·cases h
theorem Jb {ty:TypeId} {p x:SV} {s':St} {al:Bool} {dst:Option Tmp} (hG:s.G=t.G) (hB:∀ k off,p=.lp k off→fh s.boxes k=fh t.boxes k) (h:kj E s ty p x=some s') :
  ∃ t',kj E t ty p x=some t'∧cH al true dst s t s' t':=by
 unfold kj at *;split at h
 ·split at h
  ·rename_i hc;rw [if_pos hc];split at h
   ·rw [← hB _ _ rfl];split at h
    ·split at h
     ·rename_i Jc;cases h;simp only [Jc,if_true];exact ⟨_,rfl,.AZ hG _ _ _⟩
     ·cases h
    ·cases h
   ·rw [← hG];split at h
    ·split at h
     ·rename_i Jc;cases h;simp only [Jc,if_true];exact ⟨_,rfl,.bM _ _⟩
     ·cases h
    ·cases h
   ·cases h
  ·cases h
 ·cases h
theorem Jd {ty:TypeId} {p x:SV} {c:Bool} {s':St} {al:Bool} {dst:Option Tmp} (hG:s.G=t.G) (hB:∀ k off,p=.lp k off→fh s.boxes k=fh t.boxes k) (h:iz E s ty p x=some (c,s')) :
  ∃ t',iz E t ty p x=some (c,t')∧cH al true dst s t s' t':=by
 unfold iz at *;split at h
 ·rw [← hG];split at h
  ·split at h
   ·rename_i h1 h2 hc;simp only [hc,if_true];split at h
    ·rename_i Jc;injection h with h; injection h with e1 e2;subst e1; subst e2;simp only [Jc,if_true];exact ⟨_,rfl,.bM _ _⟩
    ·rename_i Jc;rw [if_neg Jc,← Be hG];split at h
     ·rename_i hg;split at h
      ·rename_i hc3;injection h with h; injection h with e1 e2;subst e1; subst e2;simp only [hc3,if_true];exact ⟨_,rfl,.bM _ _⟩
      ·cases h
     ·cases h
   ·cases h
  ·cases h
 ·rw [← hG];split at h
  ·split at h
   ·rename_i h1 h2 hc;simp only [hc,if_true];split at h
    ·rename_i Jc;injection h with h; injection h with e1 e2;subst e1; subst e2;simp only [Jc,if_true];exact ⟨_,rfl,.bM _ _⟩
    ·rename_i Jc;rw [if_neg Jc,← Bf hG];split at h
     ·rename_i hg;split at h
      ·rename_i hc3;injection h with h; injection h with e1 e2;subst e1; subst e2;simp only [hc3,if_true];exact ⟨_,rfl,.bM _ _⟩
      ·cases h
     ·cases h
   ·cases h
  ·cases h
 ·split at h
  ·rename_i s1 hs;injection h with h; injection h with e1 e2;subst e1; subst e2;obtain ⟨t',h3,h4⟩:=Jb (al:=al) (dst:=dst) hG hB hs;simp only [h3];exact ⟨_,rfl,h4⟩
  ·cases h
theorem L8 (hG:s.G=t.G) (p x:SV):wR s p x=wR t p x:=by unfold wR; rw [hG]
theorem Je {ty:TypeId} {p x:SV} {c:Bool} {s':St} {al:Bool} {dst:Option Tmp} (hG:s.G=t.G) (hB:∀ k off,p=.lp k off→fh s.boxes k=fh t.boxes k) (h:nS E s ty p x=some (c,s')) :
  ∃ t',nS E t ty p x=some (c,t')∧cH al true dst s t s' t':=by
 unfold nS at *;rw [← L8 hG];split at h
 ·rename_i c1 s1 hs;injection h with h; injection h with e1 e2;subst e1; subst e2;obtain ⟨t',h3,pre,preB,G,h4,_,h5,h6⟩:=Jd (s:=s.bM (wR s p x).2.2) (t:=t.bM (wR s p x).2.2) (al:=al) (dst:=dst) rfl hB hs;rw [h3];exact ⟨_,rfl,pre,preB,G,h4,(fun h=>by cases h),h5,h6⟩
 ·cases h
def cK:Op→Bool
 |.alloc _=>true
 |.box _ _=>true
 |_=>false
def zN:Op→Bool
 |.move _ | .assign _ | .pick _ _ _ | .build _ _ | .buildSlice _ _ _ | .load _ _ | .binOp _ _ _ _ _ | .unOp _ _ _ | .convert _ _ _ | .makeFunc _ _ _ | .fieldAddr _ _ _ | .field _ _ _
 |.indexAddr _ _ _ | .index _ _ _ | .slice _ _ _ _ _ | .extract _ _ | .lookup _ _ _ _ | .nilCheck _=>true
 |.call { callee:=.builtin .len,.. }=>true
 |.call { callee:=.builtin .max,.. }=>true
 |.call { callee:=.builtin .min,.. }=>true
 |_=>false
def isR:Op→Bool
 |.load _ _=>true
 |.lookup _ _ _ _=>true
 |.call _=>true
 |.convert _ _ _=>true
 |_=>false
def Vu:Builtin→Bool
 |.append | .copy | .clear=>true
 |_=>false
theorem Fj {dst:Option Tmp} {b:Builtin} {l:List AV} {tys:List TypeId} {c:Bool} {s':St} {al:Bool} (hn:s.n=t.n) (hG:s.G=t.G) (h:dG E s dst b l tys=some (c,s')) :
  ∃ t',dG E t dst b l tys=some (c,t')∧cH al (Vu b) dst s t s' t':=by
 obtain ⟨sl,bx,G,m,ro,n⟩:=s;obtain ⟨sl',Nz,G',m',nT,n'⟩:=t;have hc:=fun esz d x=>Ja (s:=⟨sl,bx,G,m,ro,n⟩) (t:=⟨sl',Nz,G',m',nT,n'⟩) hG esz d x
 simp only at hn hG;subst hn hG;unfold dG at h ⊢;simp only [← hc];cases b
 all_goals (try (cases h; done))
 all_goals (try simp only at h ⊢)
 all_goals (try (split at h <;> first | (cases h; done) | simp only at h ⊢))
 all_goals (repeat' (split at h))
 all_goals (first|(cases h; done) | skip)
 all_goals (injection h with h; injection h with h1 h2; subst h1 h2)
 all_goals (try simp only [if_true, *])
 all_goals (first|exact ⟨_,rfl,.put (by rfl) (by rfl) _ _⟩ | exact ⟨_,rfl,.fH (by rfl) _ _ _⟩ | exact ⟨_,rfl,.bM _ _⟩)
theorem Da (hG:s.G=t.G) (a b:TypeId) (x:SV):ua E s a b x=ua E t a b x:=rfl
theorem Fk (hG:s.G=t.G) (ty:TypeId) (m k:SV):qh E s ty m k=qh E t ty m k:=by
 have:mapOf s=mapOf t:=by funext m; unfold mapOf; rw [hG]
 unfold qh mU;rw [this,hG]
theorem yx {ty:TypeId} {m k x:SV} {s':St} {al:Bool} {dst:Option Tmp} (hG:s.G=t.G) (h:iV E s ty m k x=some s') :
  ∃ t',iV E t ty m k x=some t'∧cH al true dst s t s' t':=by
 unfold iV at *;rw [← hG]
 repeat' (split at h)
 all_goals (first|(cases h; done) | skip)
 cases h;simp only [*];exact ⟨_,rfl,.bM _ _⟩
theorem L9 {dst:Option Tmp} {x:SV} {s':St} {al:Bool} (hn:s.n=t.n) (hG:s.G=t.G) (h:qi s dst x=some s') :
  ∃ t',qi t dst x=some t'∧cH al true dst s t s' t':=by
 unfold qi at *;rw [← hG];split at h
 ·split at h
  ·rename_i l pos hg;cases hb:abx pos l.length with
   |true=>
    rw [hb] at h;simp only [cond_true] at h ⊢;cases h;exact ⟨_,rfl,.fH hn _ _ _⟩
   |false=>
    rw [hb] at h;simp only [cond_false] at h ⊢;cases h;obtain ⟨pre,preB,G,p1,p2,p3⟩:=cH.put (al:=al) (w:=true) hn hG dst (.v (.bW [.bool false]));exact ⟨_,rfl,pre,preB,G,p1,p2,p3⟩
  ·cases h
 ·cases h
theorem yy {f:FuncId} {r:Bool × St} (h:kR E f s o=some r):∃ args tys,o.op=.call { callee:=.builtin .append,args:=args,argTypes:=tys }:=by
 unfold kR at h;cases h
theorem Ma {f:FuncId} {c:Bool} {s':St} {al:Bool} (hn:s.n=t.n) (hG:s.G=t.G) (hY:∀ y∈o.op.operands,bO E s.ab y=bO E t.ab y)
  (h:kR E f s o=some (c,s')):∃ t',kR E f t o=some (c,t')∧cH al true o.dst s t s' t':=by
 unfold kR at h;cases h
theorem BP {f:FuncId} (hn:s.n=t.n) (hG:s.G=t.G) (hY:∀ y∈o.op.operands,bO E s.ab y=bO E t.ab y) (h:kR E f s o=none):kR E f t o=none:=rfl
theorem yz {f:FuncId} {c:Bool} {s':St} (hn:s.n=t.n) (hG:s.G=t.G) (hB:∀ k off,(∃ y∈o.op.operands,bO E s.ab y=.lp k off)→fh s.boxes k=fh t.boxes k) (hY:∀ y∈o.op.operands,bO E s.ab y=bO E t.ab y)
  (h:aq E f s o=some (c,s')):∃ t',aq E f t o=some (c,t')∧cH (cK o.op) (!zN o.op) o.dst s t s' t':=by
 obtain ⟨dst,op,ty,pos,after,guard⟩:=o;cases op
 case move x=>
  simp only [aq,hY x (by simp [aaa])] at h ⊢;split at h
  all_goals (injection h with h; injection h with h1 h2; subst h1 h2; (try simp only [*]); exact ⟨_,rfl,.put hn hG _ _⟩)
 case assign x=>
  simp only [aq,hY x (by simp [aaa])] at h ⊢;split at h
  all_goals (injection h with h; injection h with h1 h2; subst h1 h2; (try simp only [*]); exact ⟨_,rfl,.put hn hG _ _⟩)
 case pick x y z=>
  simp only [aq,hY x (by simp [aaa]),hY y (by simp [aaa]),hY z (by simp [aaa])] at h ⊢;split at h
  ·injection h with h; injection h with h1 h2; subst h1 h2; (try simp only [*]); exact ⟨_,rfl,.put hn hG _ _⟩
  ·cases h
 case alloc e=>
  simp only [aq] at h ⊢
  repeat' (split at h)
  all_goals (first|(cases h; done) | skip)
  simp only [*];exact Bg hn hG h
 case box e x=>
  simp only [aq,hY x (by simp [aaa])] at h ⊢
  repeat' (split at h)
  all_goals (first|(cases h; done) | skip)
  simp only [*];exact Bg hn hG h
 case build ty ps=>
  have he:sI E s ty ps.toList=sI E t ty ps.toList:=by
   unfold sI;rw [rQ (fun p hp=>hY p.2 (by simp only [aaa,List.mem_toArray,List.mem_map]; exact ⟨p,hp,rfl⟩))]
  simp only [aq,he] at h ⊢;split at h
  ·injection h with h; injection h with h1 h2; subst h1 h2; (try simp only [*]); exact ⟨_,rfl,.put hn hG _ _⟩
  ·cases h
 case buildSlice ty len ps=>
  have he:cV E s ty len ps.toList=cV E t ty len ps.toList:=by
   unfold cV;rw [rQ (fun p hp=>hY p.2 (by simp only [aaa,List.mem_toArray,List.mem_map]; exact ⟨p,hp,rfl⟩))]
  simp only [aq,he] at h ⊢;split at h
  ·injection h with h; injection h with h1 h2; subst h1 h2; (try simp only [*]); exact ⟨_,rfl,.put hn hG _ _⟩
  ·cases h
 case load ty x=>
  simp only [aq,hY x (by simp [aaa])] at h ⊢;rw [I9 hG ty _ (fun k off e=>hB k off ⟨x,by simp [aaa],by rw [hY x (by simp [aaa])]; exact e⟩)] at h;split at h
  ·injection h with h; injection h with h1 h2; subst h1 h2; (try simp only [*]); exact ⟨_,rfl,.put hn hG _ _⟩
  ·cases h
 case store ty x y=>
  simp only [aq,hY x (by simp [aaa]),hY y (by simp [aaa])] at h ⊢;split at h
  ·rename_i s1 hs;injection h with h; injection h with h1 h2; subst h1 h2;obtain ⟨t',h3,h4⟩:=Je (al:=false) (dst:=none) hG (fun k off e=>hB k off ⟨x,by simp [aaa],by rw [hY x (by simp [aaa])]; exact e⟩) hs;rw [h3];exact ⟨_,rfl,h4⟩
  ·cases h
 case binOp op a x y b=>
  simp only [aq,hY x (by simp [aaa]),hY y (by simp [aaa])] at h ⊢
  repeat' (split at h)
  all_goals (first|(cases h; done) | skip)
  all_goals (injection h with h; injection h with h1 h2; subst h1 h2; (try simp only [*]); exact ⟨_,rfl,.put hn hG _ _⟩)
 case unOp op a x=>
  simp only [aq,hY x (by simp [aaa])] at h ⊢
  repeat' (split at h)
  all_goals (first|(cases h; done) | skip)
  all_goals (injection h with h; injection h with h1 h2; subst h1 h2; (try simp only [*]); exact ⟨_,rfl,.put hn hG _ _⟩)
 case nilCheck x=>
  simp only [aq,hY x (by simp [aaa])] at h ⊢
  repeat' (split at h)
  all_goals (first|(cases h; done) | skip)
  all_goals (injection h with h; injection h with h1 h2; subst h1 h2; (try simp only [*]); exact ⟨_,rfl,.put hn hG _ _⟩)
 case convert a b x=>
  simp only [aq,hY x (by simp [aaa]),Da hG] at h ⊢
  repeat' (split at h)
  all_goals (first|(cases h; done) | skip)
  all_goals (injection h with h; injection h with h1 h2; subst h1 h2; (try simp only [*]); exact ⟨_,rfl,.put hn hG _ _⟩)
 case makeFunc fo a b=>
  cases fo with
  |func g=>
   have h1:rk E s.ab a.toList=rk E t.ab a.toList:=kV fun y hy=>hY y (by simp only [aaa,Array.mem_append]; exact .inl (by simpa using hy))
   have h2:rk E s.ab b.toList=rk E t.ab b.toList:=kV fun y hy=>hY y (by simp only [aaa,Array.mem_append]; exact .inr (by simpa using hy))
   simp only [aq,h1,h2] at h ⊢
   repeat' (split at h)
   all_goals (first|(cases h; done) | skip)
   all_goals (injection h with h; injection h with h1 h2; subst h1 h2; (try simp only [*]); exact ⟨_,rfl,.put hn hG _ _⟩)
  |_=>simp [aq] at h
 case fieldAddr a x j=>
  simp only [aq,hY x (by simp [aaa])] at h ⊢
  repeat' (split at h)
  all_goals (first|(cases h; done) | skip)
  all_goals (injection h with h; injection h with h1 h2; subst h1 h2; (try simp only [*]); exact ⟨_,rfl,.put hn hG _ _⟩)
 case field a x j=>
  simp only [aq,hY x (by simp [aaa])] at h ⊢
  repeat' (split at h)
  all_goals (first|(cases h; done) | skip)
  all_goals (injection h with h; injection h with h1 h2; subst h1 h2; (try simp only [*]); exact ⟨_,rfl,.put hn hG _ _⟩)
 case indexAddr a x y=>
  simp only [aq,hY x (by simp [aaa]),hY y (by simp [aaa])] at h ⊢
  repeat' (split at h)
  all_goals (first|(cases h; done) | skip)
  all_goals (injection h with h; injection h with h1 h2; subst h1 h2; (try simp only [*]); exact ⟨_,rfl,.put hn hG _ _⟩)
 case index a x y=>
  simp only [aq,hY x (by simp [aaa]),hY y (by simp [aaa])] at h ⊢
  repeat' (split at h)
  all_goals (first|(cases h; done) | skip)
  all_goals (injection h with h; injection h with h1 h2; subst h1 h2; (try simp only [*]); exact ⟨_,rfl,.put hn hG _ _⟩)
 case slice a x lo hi mx=>
  have h1:pZ E s.ab lo=pZ E t.ab lo:=by
   cases lo with
   |none=>rfl
   |some y=>simp only [pZ]; rw [hY y (by simp [aaa])]
  have h2:pZ E s.ab hi=pZ E t.ab hi:=by
   cases hi with
   |none=>rfl
   |some y=>simp only [pZ]; rw [hY y (by simp [aaa])]
  simp only [aq,hY x (by simp [aaa]),h1,h2] at h ⊢
  repeat' (split at h)
  all_goals (first|(cases h; done) | skip)
  all_goals (injection h with h; injection h with h1 h2; subst h1 h2; (try simp only [*]); exact ⟨_,rfl,.put hn hG _ _⟩)
 case extract x i=>
  simp only [aq,hY x (by simp [aaa])] at h ⊢
  repeat' (split at h)
  all_goals (first|(cases h; done) | skip)
  all_goals (injection h with h; injection h with h1 h2; subst h1 h2; (try simp only [*]); exact ⟨_,rfl,.put hn hG _ _⟩)
 case makeSlice ty x y=>
  simp only [aq,sM,hY x (by simp [aaa]),hY y (by simp [aaa]),hG] at h ⊢
  repeat' (split at h)
  all_goals (first|(cases h; done) | skip)
  all_goals (injection h with h; injection h with h1 h2; subst h1 h2)
  all_goals (simp only [*])
  all_goals (refine ⟨_,rfl,?_⟩)
  all_goals (have e:∀ o,t.fL o=t.bM (t.G++[o]):=fun o=>rfl)
  all_goals (have e':∀ o,s.fL o=s.bM (t.G++[o]):=fun o=>by rw [← hG]; rfl)
  all_goals (try rw [e,e'])
  all_goals (exact cH.fH (al:=false) hn _ dst _)
 case lookup ty x y ok=>
  simp only [aq,hY x (by simp [aaa]),hY y (by simp [aaa]),Fk hG] at h ⊢;split at h
  ·injection h with h; injection h with h1 h2; subst h1 h2; (try simp only [*]); exact ⟨_,rfl,.put hn hG _ _⟩
  ·cases h
 case mapUpdate ty x y z=>
  simp only [aq,hY x (by simp [aaa]),hY y (by simp [aaa]),hY z (by simp [aaa])] at h ⊢;split at h
  ·rename_i s1 hs;injection h with h; injection h with h1 h2; subst h1 h2;obtain ⟨t',h3,h4⟩:=yx (al:=false) (dst:=none) hG hs;rw [h3];exact ⟨_,rfl,h4⟩
  ·cases h
 case insert ty x y z=>
  simp only [aq,hY x (by simp [aaa]),hY y (by simp [aaa]),hY z (by simp [aaa])] at h ⊢;split at h
  ·rename_i s1 hs;injection h with h; injection h with h1 h2; subst h1 h2;obtain ⟨t',h3,h4⟩:=yx (al:=false) (dst:=none) hG hs;rw [h3];exact ⟨_,rfl,h4⟩
  ·cases h
 case entry x=>
  simp only [aq,hY x (by simp [aaa])] at h ⊢;have e:zU E s (bO E t.ab x)=zU E t (bO E t.ab x):=by unfold zU; rw [hG]
  rw [e] at h;split at h
  ·injection h with h; injection h with h1 h2; subst h1 h2; (try simp only [*]); exact ⟨_,rfl,.put hn hG _ _⟩
  ·cases h
 case mapEntry ty x y=>
  simp only [aq,hY x (by simp [aaa]),hY y (by simp [aaa])] at h ⊢;unfold jU at h ⊢;rw [← hG]
  repeat' (split at h)
  all_goals (first|(cases h; done) | skip)
  rename_i oK
  repeat' (split at oK)
  all_goals (first|(cases oK; done) | skip)
  injection oK with oK; injection oK with h3 oK; injection oK with h4 h5;injection h with h; injection h with h1 h2; subst h1 h2 h3 h4 h5;simp only [*,if_true];exact ⟨_,rfl,cH.fH (al:=false) hn _ dst _⟩
 case entryStore ty x y z=>
  simp only [aq,hY x (by simp [aaa]),hY y (by simp [aaa]),hY z (by simp [aaa])] at h ⊢;unfold gU at h ⊢;rw [← hG]
  repeat' (split at h)
  all_goals (first|(cases h; done) | skip)
  rename_i oK
  repeat' (split at oK)
  all_goals (first|(cases oK; done) | skip)
  injection oK with oK; injection oK with h3 h5;injection h with h; injection h with h1 h2; subst h1 h2 h3 h5;simp only [*];exact ⟨_,rfl,.bM _ _⟩
 case range ty x=>
  simp only [aq,hY x (by simp [aaa])] at h ⊢
  repeat' (split at h)
  all_goals (first|(cases h; done) | skip)
  ·injection h with h; injection h with h1 h2; subst h1 h2
   (try simp only [*])
   refine ⟨_,rfl,?_⟩;have e:∀ o,t.fL o=t.bM (s.G++[o]):=fun o=>by rw [hG]; rfl
   rw [e,← hG];exact cH.fH (al:=false) hn _ dst _
  ·rename_i hk hg;injection h with h; injection h with h1 h2; subst h1 h2;have Il:=hg;rw [hG] at Il;simp only [hk,Il];refine ⟨_,rfl,?_⟩;have e:∀ o,t.fL o=t.bM (s.G++[o]):=fun o=>by rw [hG]; rfl
   rw [e,← hG];exact cH.fH (al:=false) hn _ dst _
 case next x b=>
  cases b with
  |false=>simp [aq] at h
  |true=>
   simp only [aq,hY x (by simp [aaa])] at h ⊢;split at h
   ·rename_i s1 hs;injection h with h; injection h with h1 h2; subst h1 h2;obtain ⟨t',h3,h4⟩:=L9 (al:=false) hn hG hs;rw [h3];exact ⟨_,rfl,h4⟩
   ·cases h
 case makeMap ty r=>
  cases r with
  |none=>
   simp only [aq] at h ⊢;injection h with h; injection h with h1 h2; subst h1 h2;refine ⟨_,rfl,?_⟩;have:=cH.fH (al:=false) hn (s.G++[.map []]) dst (.v (.map s.G.length));have e:∀ o,t.fL o=t.bM (s.G++[o]):=fun o=>by rw [hG]; rfl
   rw [e,← hG];exact this
  |some _=>simp [aq] at h
 case call cl=>
  obtain ⟨callee,args,tys⟩:=cl;cases callee with
  |builtin b=>
   have h1:rk E s.ab args.toList=rk E t.ab args.toList:=kV fun y hy=>hY y (by simp [aaa,Call.operands]; simpa using hy)
   cases hf:kR E f s { dst:=dst,op:=.call { callee:=.builtin b,args:=args,argTypes:=tys },type:=ty,pos:=pos,after:=after,guard:=guard } with
   |some r=>
    simp only [aq,hf] at h;obtain ⟨t',q1,q2⟩:=Ma (al:=cK (.call { callee:=.builtin b,args:=args,argTypes:=tys })) hn hG hY (c:=r.1) (s':=r.2) hf;cases h;obtain ⟨a2,t2,ho⟩:=yy hf;cases ho;refine ⟨t',by simp only [aq,q1],?_⟩;exact q2
   |none=>
   have hf':=BP hn hG hY hf;simp only [aq,hf,hf',h1] at h ⊢;split at h
   ·(try simp only [*])
    obtain ⟨t',h3,h4⟩:=Fj (al:=false) hn hG h;refine ⟨t',h3,?_⟩;have:(!zN (.call { callee:=.builtin b,args:=args,argTypes:=tys }))=Vu b∨Vu b=false:=by cases b <;> simp [zN,Vu]
    rcases this with this|this
    ·rw [this]; exact h4
    ·obtain ⟨pre,preB,G,p1,p2,p3⟩:=h4;exact ⟨pre,preB,G,p1,fun _=>p2 this,p3⟩
   ·cases h
  |_=>simp [aq] at h
 all_goals (simp [aq] at h)
theorem kW {f:FuncId} {c:Bool} {s':St} (hn:s.n=t.n) (hG:s.G=t.G) (hB:fh s.boxes=fh t.boxes) (hY:∀ y∈o.op.operands,bO E s.ab y=bO E t.ab y)
  (h:aq E f s o=some (c,s')):∃ t',aq E f t o=some (c,t')∧cH (cK o.op) (!zN o.op) o.dst s t s' t':=
 yz hn hG (fun k _ _=>by rw [hB]) hY h
end
end Go.Am
