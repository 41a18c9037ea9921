/- Plain laws: a net in two parts that are sewn at all common knots: degrees and parts. -/
import Derived.Test.YtfiopgedfcaodaaGreatDoorSeamWf
set_option linter.all false
namespace Go.Proofs.YtfiopgedfcaodaaGreatDoor
open Go Go.Am Go.Sort
set_option maxRecDepth 100000
def RL (c:Nat) (b:Int × Int):Bool:=decide (b.1.toNat=c) || decide (b.2.toNat=c)
theorem HQ (s:List Int) (i c:Nat) (hc:c < s.length) (h0:0≤s.getD c 0) (h1:s.getD c 0 < 1000000):(AK s i).getD c 0=s.getD c 0+if i=c then 1 else 0:=by
 unfold AK
 by_cases e:i=c
 ·subst e
  rw [if_pos rfl]
  have:(s.set i (IntKind.wrap .i64 (s.getD i 0+1))).getD i 0=IntKind.wrap .i64 (s.getD i 0+1):=by simp [hc]
  rw [this,DA ⟨by omega,by omega⟩]
 ·rw [if_neg e,Int.add_zero]
  simp [List.getElem?_set_ne e]
theorem HR {n c:Nat} (hc:c < n):∀ (B:List (Int × Int)) (s:List Int),s.length=n→0≤s.getD c 0→s.getD c 0+2 * (B.length:Int) < 1000000→(∀ b∈B,0≤b.1∧b.1 < b.2∧b.2 < (n:Int)) →
  (B.foldl (fun s b=>AK (AK s b.1.toNat) b.2.toNat) s).getD c 0=s.getD c 0+((B.filter (RL c)).length:Int)
 | [],s,_,_,_,_=>by simp
 | b :: B,s,h1,h2,h3,h4=>by
  obtain ⟨b1,b2,b3⟩:=h4 b (by simp)
  rw [List.length_cons] at h3
  have e1:=HQ s b.1.toNat c (by omega) h2 (by omega)
  have e2:=HQ (AK s b.1.toNat) b.2.toNat c (by rw [j3]; omega) (by rw [e1]; split <;> omega) (by rw [e1]; split <;> omega)
  rw [e1] at e2
  have ih:=HR hc B (AK (AK s b.1.toNat) b.2.toNat) (by rw [j3,j3,h1]) (by rw [e2]; split <;> split <;> omega) (by rw [e2]; split <;> split <;> omega) (fun d hd=>h4 d (by simp [hd]))
  rw [List.foldl_cons,ih,e2]
  by_cases c1:b.1.toNat=c
  ·have c2:¬ b.2.toNat=c:=by omega
   have hh:RL c b=true:=by unfold RL; rw [decide_eq_true c1]; rfl
   rw [List.filter_cons_of_pos hh,List.length_cons,if_pos c1,if_neg c2]
   omega
  ·by_cases c2:b.2.toNat=c
   ·have hh:RL c b=true:=by unfold RL; rw [decide_eq_true c2,Bool.or_true]
    rw [List.filter_cons_of_pos hh,List.length_cons,if_neg c1,if_pos c2]
    omega
   ·have hh:¬ RL c b=true:=by unfold RL; rw [decide_eq_false c1,decide_eq_false c2]; simp
    rw [List.filter_cons_of_neg hh,if_neg c1,if_neg c2]
    omega
section
variable {l A B:List P3} (h:eU l A B)
include h
theorem eU.Ev {k:Int × Int} (hk:k∈aT A∨k∈aT B):(Ev (nc A B) (iz [A,B] (dc [A,B] 0 1))).getD (kc A B k) 0=(DY l k:Int):=by
 have hlen:=h.lens
 have Nr:=h.len
 unfold Go.Proofs.YtfiopgedfcaodaaGreatDoor.Ev
 rw [h.bars]
 have hr:(List.replicate (nc A B) (0:Int)).getD (kc A B k) 0=0:=by
  rw [List.getD_eq_getElem?_getD,List.getElem?_replicate]
  split <;> rfl
 rw [HR (Ek A B hk) _ _ List.length_replicate (by rw [hr]; exact Int.le_refl 0) (by rw [hr,List.length_map,List.length_append]; omega) (fun b hb=>h.bar hb),hr]
 have e:(((A++B).map (sX A B)).filter (RL (kc A B k))).length=DY l k:=by
  unfold DY
  rw [List.filter_map,List.length_map]
  have e1:(A++B).filter (RL (kc A B k) ∘ sX A B)=(A++B).filter fun b=>decide (dO b=k) || decide (cY b=k):=by
   apply List.filter_congr
   intro b hb
   have hb:=h.perm.mem_iff.1 hb
   have i1:kc A B (dO b)=kc A B k↔dO b=k:=⟨kJ A B (h.lo hb) hk,fun e=>by rw [e]⟩
   have i2:kc A B (cY b)=kc A B k↔cY b=k:=⟨kJ A B (h.up hb) hk,fun e=>by rw [e]⟩
   show (decide (((min (kc A B (dO b)) (kc A B (cY b)):Nat):Int).toNat=kc A B k) || decide (((max (kc A B (dO b)) (kc A B (cY b)):Nat):Int).toNat=kc A B k))=_
   rw [Int.toNat_natCast,Int.toNat_natCast,← Bool.decide_or,← Bool.decide_or,decide_eq_decide,← i1,← i2]
   omega
  rw [e1]
  exact (h.perm.filter _).length_eq
 rw [e]
 omega
def Nt (A B:List P3):Nat→Nat:=nR (rn (iz [A,B] (dc [A,B] 0 1)))
omit h in
theorem M4 (A B:List P3):iG (Nt A B):=qX _
theorem eU.ends {b:P3} (hb:b∈l):Nt A B (kc A B (dO b))=Nt A B (kc A B (cY b)):=by
 have he:(min (kc A B (dO b)) (kc A B (cY b)),max (kc A B (dO b)) (kc A B (cY b)))∈rn (iz [A,B] (dc [A,B] 0 1)):=by
  unfold rn
  rw [h.bars]
  exact List.mem_map.2 ⟨sX A B b,List.mem_map.2 ⟨b,h.perm.mem_iff.2 hb,rfl⟩,rfl⟩
 have:=DN he
 have this:Nt A B (min (kc A B (dO b)) (kc A B (cY b)))=Nt A B (max (kc A B (dO b)) (kc A B (cY b))):=this
 rcases Nat.le_total (kc A B (dO b)) (kc A B (cY b)) with c | c
 ·rwa [Nat.min_eq_left c,Nat.max_eq_right c] at this
 ·rw [Nat.min_eq_right c,Nat.max_eq_left c] at this
  exact this.symm
omit h in
theorem B1 (a b:P3):q9 a b=true↔dO a=dO b∨dO a=cY b∨cY a=dO b∨cY a=cY b:=by
 unfold q9
 simp only [Bool.or_eq_true,decide_eq_true_eq,or_assoc]
theorem eU.rch {a b:P3} (ha:a∈l) (hb:b∈l):Nt A B (kc A B (dO a))=Nt A B (kc A B (dO b))↔s6 l a b:=by
 constructor
 ·intro hg
  have key:=(yx (S:=fun c=>∃ x∈l,s6 l a x∧(kc A B (dO x)=c∨kc A B (cY x)=c)) (es:=rn (iz [A,B] (dc [A,B] 0 1))) (fun e he=>by
   unfold rn at he
   rw [h.bars] at he
   obtain ⟨f,hf,rfl⟩:=List.mem_map.1 he
   obtain ⟨y,hy,rfl⟩:=List.mem_map.1 hf
   have hy:=h.perm.mem_iff.1 hy
   have both:∀ c d:Nat,(c=kc A B (dO y)∨c=kc A B (cY y))→(d=kc A B (dO y)∨d=kc A B (cY y))→(∃ x∈l,s6 l a x∧(kc A B (dO x)=c∨kc A B (cY x)=c))→∃ x∈l,s6 l a x∧(kc A B (dO x)=d∨kc A B (cY x)=d):=by
    rintro c d hc hd ⟨x,hx,hr,hxc⟩
    refine ⟨y,hy,.step hr hy ((B1 x y).2 ?_),by rcases hd with rfl | rfl; exact .inl rfl; exact .inr rfl⟩
    rcases hc with rfl | rfl <;> rcases hxc with e | e
    ·exact .inl (kJ A B (h.lo hx) (h.lo hy) e)
    ·exact .inr (.inr (.inl (kJ A B (h.up hx) (h.lo hy) e)))
    ·exact .inr (.inl (kJ A B (h.lo hx) (h.up hy) e))
    ·exact .inr (.inr (.inr (kJ A B (h.up hx) (h.up hy) e)))
   have m1:(sX A B y).1.toNat=kc A B (dO y)∨(sX A B y).1.toNat=kc A B (cY y):=by
    show ((min (kc A B (dO y)) (kc A B (cY y)):Nat):Int).toNat=_∨((min (kc A B (dO y)) (kc A B (cY y)):Nat):Int).toNat=_
    omega
   have m2:(sX A B y).2.toNat=kc A B (dO y)∨(sX A B y).2.toNat=kc A B (cY y):=by
    show ((max (kc A B (dO y)) (kc A B (cY y)):Nat):Int).toNat=_∨((max (kc A B (dO y)) (kc A B (cY y)):Nat):Int).toNat=_
    omega
   exact ⟨both _ _ m1 m2,both _ _ m2 m1⟩) hg).1 ⟨a,ha,.base,.inl rfl⟩
  obtain ⟨x,hx,hr,hc⟩:=key
  refine .step hr hb ((B1 x b).2 ?_)
  rcases hc with e | e
  ·exact .inl (kJ A B (h.lo hx) (h.lo hb) e)
  ·exact .inr (.inr (.inl (kJ A B (h.up hx) (h.lo hb) e)))
 ·intro hr
  induction hr with
  | base=>rfl
  | @step x y hx hy ht ih=>
   have wJ:=hx.Y8 ha
   rw [ih wJ]
   have e1:=h.ends wJ
   have e2:=h.ends hy
   rcases (B1 x y).1 ht with e | e | e | e
   ·rw [e]
   ·rw [e,e2]
   ·rw [e1,e]
   ·rw [e1,e,e2]
theorem eU.parts:(gd (Nt A B) (nc A B):Nat)=(l.foldl (vl l) []).length:=by
 obtain ⟨tR,q1,q2,q3,_,q5⟩:=rb l l [] (fun _ h=>h) (fun _ h=>by cases h) List.Pairwise.nil
 have q1:l.foldl (vl l) []=tR.map (kH l):=q1
 rw [q1,List.length_map]
 have hn:tR.Nodup:=q3.imp fun {a b} hr e=>hr (by rw [e]; exact .base)
 have e:=Eg (a:=tR.map fun r=>Nt A B (kc A B (dO r))) (b:=(List.range (nc A B)).filter fun i=>decide (Nt A B i=i)) (tS hn fun x hx y hy e=>by
  have hR:=(h.rch (q2 x hx) (q2 y hy)).1 e
  obtain ⟨i,hi,rfl⟩:=List.getElem_of_mem hx
  obtain ⟨j,hj,rfl⟩:=List.getElem_of_mem hy
  rcases Nat.lt_trichotomy i j with c | c | c
  ·exact absurd hR (List.pairwise_iff_getElem.1 q3 i j hi hj c)
  ·subst c; rfl
  ·exact absurd (hR.Y9 (q2 _ (List.getElem_mem hi))) (List.pairwise_iff_getElem.1 q3 j i hj hi c)) (List.nodup_range.sublist List.filter_sublist) fun c=>by
  rw [List.mem_map,List.mem_filter,List.mem_range]
  constructor
  ·rintro ⟨r,hr,rfl⟩
   have bP:=Ek A B (h.lo (q2 r hr))
   have hle:=(M4 A B).le (kc A B (dO r))
   exact ⟨by omega,decide_eq_true ((M4 A B).idem _)⟩
  ·rintro ⟨hc,hd⟩
   have hd:=of_decide_eq_true hd
   obtain ⟨k,hk,rfl⟩:=M3 A B hc
   obtain ⟨b,hb,hkb⟩:=(mB l k).1 ((h.Gj k).2 hk)
   obtain ⟨r,hr,hR⟩:=q5 b hb
   refine ⟨r,hr,?_⟩
   rw [(h.rch (q2 r hr) hb).2 hR]
   rcases hkb with rfl | rfl
   ·exact hd
   ·rw [h.ends hb]; exact hd
 rw [List.length_map] at e
 rw [e]
 unfold gd
 rw [List.countP_eq_length_filter]
end
end Go.Proofs.YtfiopgedfcaodaaGreatDoor
