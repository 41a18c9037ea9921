/- Plain laws: where the bars of a sheet lie; nets without bars,with bars; meshes. -/
import Derived.Test.YtophnjjjmikmeaaGreatOttYa
set_option linter.all false
namespace Go.Proofs.YtophnjjjmikmeaaGreat
open Go Go.Am Go.Sort
set_option maxRecDepth 100000
structure Z2 (X Y:Int) (C R:Nat) (b:cB):Prop where
 y:Y≤b.2.1∧b.2.1 < Y+R
 x:X≤b.1∧b.1≤X+2 * C
 e:(b.1 - X+(b.2.1 - Y)) % 2=0
 s:b.2.2=1∨b.2.2=-1
 u:X≤b.1+b.2.2∧b.1+b.2.2≤X+2 * C
theorem rW {X:Int} {C:Nat} {y x:Int} {b:cB}:b∈np X C y x↔b.1=x∧b.2.1=y∧(b.2.2=1∨b.2.2=-1)∧X≤x+b.2.2∧x+b.2.2≤X+2 * C:=by
 obtain ⟨b1,b2,b3⟩:=b
 unfold np
 rw [List.mem_append]
 constructor
 ·rintro (h | h)
  ·split at h
   ·rename_i hc
    rw [List.mem_singleton] at h
    cases h
    exact ⟨rfl,rfl,.inr rfl,hc.1,hc.2⟩
   ·cases h
  ·split at h
   ·rename_i hc
    rw [List.mem_singleton] at h
    cases h
    exact ⟨rfl,rfl,.inl rfl,hc.1,hc.2⟩
   ·cases h
 ·rintro ⟨rfl,rfl,h,h1,h2⟩
  simp only at h h1 h2
  rcases h with rfl | rfl
  ·right; rw [if_pos ⟨h1,h2⟩]; simp
  ·left; rw [if_pos ⟨h1,h2⟩]; simp
theorem qK {X Y:Int} {C R:Nat} {b:cB}:b∈kU X Y C R↔Z2 X Y C R b:=by
 unfold kU Aa tx
 simp only [List.mem_flatMap,List.mem_range,rW]
 constructor
 ·rintro ⟨n,hn,j,hj,h1,h2,h3,h4,h5⟩
  exact ⟨by omega,by omega,by omega,h3,by omega⟩
 ·rintro ⟨h1,h2,h3,h4,h5⟩
  refine ⟨(b.2.1 - Y).toNat,by omega,((b.1 - X - (((b.2.1 - Y).toNat % 2:Nat):Int)) / 2).toNat,by omega,by omega,by omega,h4,by omega,by omega⟩
theorem F0 (X:Int) (C:Nat) (y x:Int):(np X C y x).Pairwise fun a b=>ltOf lR a b=true:=by
 unfold np
 split <;> split <;> simp only [List.nil_append,List.append_nil,List.singleton_append,List.pairwise_cons,List.mem_singleton,List.not_mem_nil,false_implies,implies_true,List.Pairwise.nil,and_true,forall_eq]
 rw [iO]
 exact decide_eq_true (.inr ⟨rfl,.inr ⟨rfl,by simp only; omega⟩⟩)
theorem BN (X Y:Int) (C R:Nat):BK (ltOf lR) (kU X Y C R):=by
 unfold kU
 show List.Pairwise _ _
 rw [List.pairwise_flatMap]
 refine ⟨fun n _=>?_,List.pairwise_lt_range.imp fun {n m} GN a ha b hb=>?_⟩
 ·unfold Aa tx
  rw [List.pairwise_flatMap]
  refine ⟨fun j _=>F0 ..,List.pairwise_lt_range.imp fun {i j} SR a ha b hb=>?_⟩
  rw [rW] at ha hb
  rw [iO]
  exact decide_eq_true (.inr ⟨by omega,.inl (by omega)⟩)
 ·unfold Aa tx at ha hb
  simp only [List.mem_flatMap,rW] at ha hb
  obtain ⟨_,_,ha⟩:=ha
  obtain ⟨_,_,hb⟩:=hb
  rw [iO]
  exact decide_eq_true (.inl (by omega))
theorem I1 {X Y:Int} {C R:Nat} (hX:-90000≤X∧X≤90000) (hY:-90000≤Y∧Y≤90000) (he:(X+Y) % 2=0) (hC:C≤30) (hR:R≤60):ky (kU X Y C R)=0:=by
 refine z8 ?_ (fun b hb=>?_) (BN X Y C R)
 ·have:=BM X Y C R
  have h2:R * ((C+1) * 2)≤60 * ((30+1) * 2):=Nat.mul_le_mul hR (by omega)
  omega
 ·obtain ⟨h1,h2,h3,h4,h5⟩:=qK.1 hb
  have e1:aP (sU b)=0:=by
   unfold aP sU
   simp only
   rw [if_neg (by omega),if_pos (by omega)]
  have e2:aP (BH b)=0:=by
   unfold aP BH
   simp only
   rw [gf (by omega),gf (by omega),if_neg (by omega),if_pos (by omega)]
  unfold kw
  rw [if_neg (by rw [e1]; simp),if_neg (by omega),e2]
def oo (k:Bool→Bool→Bool):Nat→List cB→List cB→List cB
 | 0,_,_=>[]
 | _+1,[],[]=>[]
 | n+1,x :: a,[]=>(if k true false then [x] else [])++oo k n a []
 | n+1,[],y :: b=>(if k false true then [y] else [])++oo k n [] b
 | n+1,x :: a,y :: b=>if dw x y < 0 then (if k true false then [x] else [])++oo k n a (y :: b) else if dw x y > 0 then (if k false true then [y] else [])++oo k n (x :: a) b else (if k true true then [y] else [])++oo k n a b
theorem LC {a b:cB} (h1:¬ dw a b < 0) (h2:¬ dw a b > 0):a=b:=by
 have:=rV a b
 have e:(dw a b == 0)=true:=beq_iff_eq.2 (by omega)
 rw [e] at this
 exact of_decide_eq_true this.symm
theorem LD {a b:cB} (h:dw a b > 0):ltOf lR b a=true:=by
 have h1:=tT a b
 have hn:¬ dw a b < 0:=by omega
 rw [decide_eq_false hn] at h1
 cases hl:ltOf lR b a with
 | true=>rfl
 | false=>
  have:=Wc a b h1.symm hl
  subst this
  have z:=rV a a
  simp at z
  omega
theorem Ac {x:cB} {l:List cB} (h:BK (ltOf lR) (x :: l)):x∉l:=fun hx=>by
 have:=(List.pairwise_cons.1 h).1 x hx
 rw [iO] at this
 have:=of_decide_eq_true this
 omega
theorem ED {a b:cB} (h:ltOf lR a b=true):ltOf lR b a=false∧a≠b:=by
 rw [iO] at h
 have h:=of_decide_eq_true h
 refine ⟨?_,fun e=>by subst e; omega⟩
 rw [iO]
 exact decide_eq_false (by omega)
theorem jK (k:Bool→Bool→Bool):∀ (n:Nat) (a b:List cB),a.length+b.length≤n→BK (ltOf lR) a→BK (ltOf lR) b →
  BK (ltOf lR) (oo k n a b)∧∀ x,x∈oo k n a b↔(x∈a∧x∈b∧k true true=true)∨(x∈a∧x∉b∧k true false=true)∨(x∉a∧x∈b∧k false true=true)
 | 0,a,b,h,_,_=>by
  have ha:a=[]:=List.eq_nil_of_length_eq_zero (by omega)
  have hb:b=[]:=List.eq_nil_of_length_eq_zero (by omega)
  subst ha; subst hb
  exact ⟨.nil,fun x=>by simp [oo]⟩
 | _+1,[],[],_,_,_=>⟨.nil,fun x=>by simp [oo]⟩
 | n+1,x :: a,[],h,ha,hb=>by
  obtain ⟨i1,i2⟩:=jK k n a [] (by simp only [List.length_cons,List.length_nil] at h ⊢; omega) (List.pairwise_cons.1 ha).2 hb
  have hx:=Ac ha
  rw [oo]
  constructor
  ·split
   ·rw [List.singleton_append]
    refine List.pairwise_cons.2 ⟨fun z hz=>(List.pairwise_cons.1 ha).1 z ?_,i1⟩
    rcases (i2 z).1 hz with h | h | h
    ·exact h.1
    ·exact h.1
    ·exact absurd h.2.1 (by simp)
   ·exact i1
  ·intro z
   rw [List.mem_append,i2]
   by_cases hz:z=x
   ·subst hz
    cases k true false <;> simp [hx]
   ·cases k true false <;> simp [hz]
 | n+1,[],y :: b,h,ha,hb=>by
  obtain ⟨i1,i2⟩:=jK k n [] b (by simp only [List.length_cons,List.length_nil] at h ⊢; omega) ha (List.pairwise_cons.1 hb).2
  have hy:=Ac hb
  rw [oo]
  constructor
  ·split
   ·rw [List.singleton_append]
    refine List.pairwise_cons.2 ⟨fun z hz=>(List.pairwise_cons.1 hb).1 z ?_,i1⟩
    rcases (i2 z).1 hz with h | h | h
    ·exact absurd h.1 (by simp)
    ·exact absurd h.1 (by simp)
    ·exact h.2.1
   ·exact i1
  ·intro z
   rw [List.mem_append,i2]
   by_cases hz:z=y
   ·subst hz
    cases k false true <;> simp [hy]
   ·cases k false true <;> simp [hz]
 | n+1,x :: a,y :: b,h,ha,hb=>by
  obtain ⟨TZ,XO⟩:=List.pairwise_cons.1 ha
  obtain ⟨Hn,Aj⟩:=List.pairwise_cons.1 hb
  have XP:=Ac ha
  have XQ:=Ac hb
  simp only [List.length_cons] at h
  rw [oo]
  by_cases h1:dw x y < 0
  ·rw [if_pos h1]
   have bM:ltOf lR x y=true:=by rw [← tT]; exact decide_eq_true h1
   obtain ⟨i1,i2⟩:=jK k n a (y :: b) (by simp only [List.length_cons]; omega) XO hb
   have lo:∀ z∈a++(y :: b),ltOf lR x z=true:=fun z hz=>by
    rcases List.mem_append.1 hz with hz | hz
    ·exact TZ z hz
    ·rcases List.mem_cons.1 hz with rfl | hz
     ·exact bM
     ·exact BJ.trans _ _ _ bM (Hn z hz)
   have Wd:x∉y :: b:=fun hx=>(ED (lo x (List.mem_append_right _ hx))).2 rfl
   constructor
   ·split
    ·rw [List.singleton_append]
     refine List.pairwise_cons.2 ⟨fun z hz=>lo z ?_,i1⟩
     rcases (i2 z).1 hz with h | h | h
     ·exact List.mem_append_left _ h.1
     ·exact List.mem_append_left _ h.1
     ·exact List.mem_append_right _ h.2.1
    ·exact i1
   ·intro z
    rw [List.mem_append,i2]
    by_cases hz:z=x
    ·subst hz
     cases k true false <;> simp [XP,Wd]
    ·cases k true false <;> simp [hz]
  ·rw [if_neg h1]
   by_cases h2:dw x y > 0
   ·rw [if_pos h2]
    have bM:=LD h2
    obtain ⟨i1,i2⟩:=jK k n (x :: a) b (by simp only [List.length_cons]; omega) ha Aj
    have lo:∀ z∈(x :: a)++b,ltOf lR y z=true:=fun z hz=>by
     rcases List.mem_append.1 hz with hz | hz
     ·rcases List.mem_cons.1 hz with rfl | hz
      ·exact bM
      ·exact BJ.trans _ _ _ bM (TZ z hz)
     ·exact Hn z hz
    have Z3:y∉x :: a:=fun hy=>(ED (lo y (List.mem_append_left _ hy))).2 rfl
    constructor
    ·split
     ·rw [List.singleton_append]
      refine List.pairwise_cons.2 ⟨fun z hz=>lo z ?_,i1⟩
      rcases (i2 z).1 hz with h | h | h
      ·exact List.mem_append_left _ h.1
      ·exact List.mem_append_left _ h.1
      ·exact List.mem_append_right _ h.2.1
     ·exact i1
    ·intro z
     rw [List.mem_append,i2]
     by_cases hz:z=y
     ·subst hz
      cases k false true <;> simp [XQ,Z3]
     ·cases k false true <;> simp [hz]
   ·rw [if_neg h2]
    have e:=LC h1 h2
    subst e
    obtain ⟨i1,i2⟩:=jK k n a b (by omega) XO Aj
    constructor
    ·split
     ·rw [List.singleton_append]
      refine List.pairwise_cons.2 ⟨fun z hz=>?_,i1⟩
      rcases (i2 z).1 hz with h | h | h
      ·exact TZ z h.1
      ·exact TZ z h.1
      ·exact Hn z h.2.1
     ·exact i1
    ·intro z
     rw [List.mem_append,i2]
     by_cases hz:z=x
     ·subst hz
      cases k true true <;> simp [XP,XQ]
     ·cases k true true <;> simp [hz]
theorem F1 {S l:List cB} (hS:BK (ltOf lR) S) (hl:BK (ltOf lR) l) {n:Nat} (hn:S.length+l.length≤n):oo (fun one two=>one&&!two) n S l=S.filter fun b=>decide (b∉l):=by
 obtain ⟨h1,h2⟩:=jK (fun one two=>one&&!two) n S l hn hS hl
 refine tS BJ h1 (List.Pairwise.filter _ hS) fun x=>?_
 rw [h2,List.mem_filter]
 simp
theorem F2 {S l:List cB} (hS:BK (ltOf lR) S) (hl:BK (ltOf lR) l) (G4:∀ b∈l,b∈S) {n:Nat} (hn:(S.filter fun b=>decide (b∉l)).length+l.length≤n):oo (fun one two=>one || two) n (S.filter fun b=>decide (b∉l)) l=S:=by
 obtain ⟨h1,h2⟩:=jK (fun one two=>one || two) n _ l hn (List.Pairwise.filter _ hS) hl
 refine tS BJ h1 hS fun x=>?_
 rw [h2,List.mem_filter]
 by_cases hx:x∈l
 ·have:=G4 x hx
  simp [hx,this]
 ·simp [hx]
end Go.Proofs.YtophnjjjmikmeaaGreat
