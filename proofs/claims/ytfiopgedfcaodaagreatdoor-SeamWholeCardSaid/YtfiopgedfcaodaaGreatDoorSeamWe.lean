/- Plain laws: the number of the parts of a net. -/
import Derived.Test.YtfiopgedfcaodaaGreatDoorSeamWd
set_option linter.all false
namespace Go.Proofs.YtfiopgedfcaodaaGreatDoor
open Go Go.Am Go.Sort
set_option maxRecDepth 100000
theorem sS (a b:P3):less a b=decide (a.2.1 < b.2.1∨a.2.1=b.2.1∧(a.1 < b.1∨a.1=b.1∧a.2.2 < b.2.2)):=by
 unfold less
 by_cases h1:a.2.1=b.2.1
 ·rw [if_neg (by simp [h1])]
  by_cases h2:a.1=b.1
  ·rw [if_neg (by simp [h2])]
   rw [decide_eq_decide]; omega
  ·rw [if_pos h2]
   rw [decide_eq_decide]; omega
 ·rw [if_pos h1]
  rw [decide_eq_decide]; omega
theorem Y7:SWO less:=by
 refine ⟨fun x=>?_,fun x y z h1 h2=>?_,fun x y z h1 h2=>?_⟩
 ·rw [sS]; exact decide_eq_false (by omega)
 ·rw [sS] at *
  have h1:=of_decide_eq_true h1
  have h2:=of_decide_eq_true h2
  exact decide_eq_true (by omega)
 ·rw [sS] at *
  have h1:=of_decide_eq_false h1
  have h2:=of_decide_eq_false h2
  exact decide_eq_false (by omega)
theorem ad0 (x y:P3) (h1:less x y=false) (h2:less y x=false):x=y:=by
 rw [sS] at *
 have h1:=of_decide_eq_false h1
 have h2:=of_decide_eq_false h2
 exact Prod.ext (by omega) (Prod.ext (by omega) (by omega))
theorem AJ (l:List P3) (b:P3) (hb:b∈l) (x:P3):x∈kH l b↔s6 l b x:=by
 unfold kH
 rw [(my Y7 ad0 (0,0,0) (yX l l.length [b] 0)).2,Rv l b hb]
theorem Jd (a b:P3):q9 a b=q9 b a:=by
 unfold q9
 have e1:decide (dO a=dO b)=decide (dO b=dO a):=by rw [decide_eq_decide]; exact eq_comm
 have e2:decide (dO a=cY b)=decide (cY b=dO a):=by rw [decide_eq_decide]; exact eq_comm
 have e3:decide (cY a=dO b)=decide (dO b=cY a):=by rw [decide_eq_decide]; exact eq_comm
 have e4:decide (cY a=cY b)=decide (cY b=cY a):=by rw [decide_eq_decide]; exact eq_comm
 rw [e1,e2,e3,e4]
 cases decide (dO b=dO a) <;> cases decide (cY b=dO a) <;> cases decide (dO b=cY a) <;> cases decide (cY b=cY a) <;> rfl
theorem s6.trans' {l:List P3} {a b c:P3} (h1:s6 l a b) (h2:s6 l b c):s6 l a c:=by
 induction h2 with
 | base=>exact h1
 | step _ hy ht ih=>exact .step ih hy ht
theorem s6.Y8 {l:List P3} {a b:P3} (ha:a∈l) (h:s6 l a b):b∈l:=by
 cases h with
 | base=>exact ha
 | step _ hy _=>exact hy
theorem s6.Y9 {l:List P3} {a b:P3} (ha:a∈l) (h:s6 l a b):s6 l b a:=by
 induction h with
 | base=>exact .base
 | @step x y hx hy ht ih=>
  have:s6 l y x:=.step .base (hx.Y8 ha) (by rw [Jd]; exact ht)
  exact this.trans' ih
theorem rb (l:List P3):∀ (m kI:List P3),(∀ x∈m,x∈l)→(∀ r∈kI,r∈l)→kI.Pairwise (fun a b=>¬ s6 l a b) →
  ∃ tR:List P3,m.foldl (vl l) (kI.map (kH l))=tR.map (kH l)∧(∀ r∈tR,r∈l)∧tR.Pairwise (fun a b=>¬ s6 l a b)∧(∀ r∈kI,r∈tR)∧∀ b∈m,∃ r∈tR,s6 l r b
 | [],kI,_,h2,h3=>⟨kI,rfl,h2,h3,fun _ h=>h,fun _ h=>by cases h⟩
 | x :: m,kI,h1,h2,h3=>by
  have hx:=h1 x List.mem_cons_self
  have mO:∀ y∈m,y∈l:=fun y hy=>h1 y (List.mem_cons_of_mem _ hy)
  rw [List.foldl_cons]
  by_cases hA:((kI.map (kH l)).any fun p=>decide (x∈p))=true
  ·have e:vl l (kI.map (kH l)) x=kI.map (kH l):=by unfold vl; rw [if_pos hA]
   rw [e]
   obtain ⟨tR,q1,q2,q3,q4,q5⟩:=rb l m kI mO h2 h3
   refine ⟨tR,q1,q2,q3,q4,fun b hb=>?_⟩
   rcases List.mem_cons.1 hb with rfl | hb
   ·obtain ⟨p,hp,hd⟩:=List.any_eq_true.1 hA
    obtain ⟨r,hr,rfl⟩:=List.mem_map.1 hp
    exact ⟨r,q4 r hr,(AJ l r (h2 r hr) b).1 (of_decide_eq_true hd)⟩
   ·exact q5 b hb
  ·have e:vl l (kI.map (kH l)) x=(kI++[x]).map (kH l):=by unfold vl; rw [if_neg hA,List.map_append]; rfl
   rw [e]
   have vv:∀ r∈kI,¬ s6 l r x:=fun r hr hR=>hA (List.any_eq_true.2 ⟨kH l r,List.mem_map.2 ⟨r,hr,rfl⟩,decide_eq_true ((AJ l r (h2 r hr) x).2 hR)⟩)
   obtain ⟨tR,q1,q2,q3,q4,q5⟩:=rb l m (kI++[x]) mO (fun r hr=>by
    rcases List.mem_append.1 hr with hr | hr
    ·exact h2 r hr
    ·rw [List.mem_singleton] at hr; subst hr; exact hx) (by
    rw [List.pairwise_append]
    refine ⟨h3,by simp,fun a ha b hb=>?_⟩
    rw [List.mem_singleton] at hb
    subst hb
    exact vv a ha)
   refine ⟨tR,q1,q2,q3,fun r hr=>q4 r (List.mem_append_left _ hr),fun b hb=>?_⟩
   rcases List.mem_cons.1 hb with rfl | hb
   ·exact ⟨b,q4 b (by simp),.base⟩
   ·exact q5 b hb
end Go.Proofs.YtfiopgedfcaodaaGreatDoor
