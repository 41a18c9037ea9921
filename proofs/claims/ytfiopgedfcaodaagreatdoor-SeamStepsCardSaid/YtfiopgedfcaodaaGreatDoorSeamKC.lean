/- Plain laws: what is sewn,join by join: what holds of it. -/
import Derived.Test.YtfiopgedfcaodaaGreatDoorSeamKB
import Derived.Test.YtfiopgedfcaodaaGreatDoorSeamTj
set_option linter.all false
namespace Go.Proofs.YtfiopgedfcaodaaGreatDoor
open Go Go.Am Go.Sort
set_option maxRecDepth 100000
def tj (j:Six):Six:=(j.2.2.2.1,j.2.2.2.2.1,j.2.2.2.2.2,j.1,j.2.1,j.2.2.1)
def turnJ (J:List Six):List Six:=(J.map tj).reverse
theorem edg_turn (S:List P3) (J:List Six) (e:Nat × Nat):e∈edgJ S (turnJ J)↔(e.2,e.1)∈edgJ S J:=by
 unfold edgJ turnJ
 simp only [List.mem_map,List.mem_reverse]
 constructor
 ·rintro ⟨_,⟨j,hj,rfl⟩,rfl⟩
  exact ⟨j,hj,rfl⟩
 ·rintro ⟨j,hj,he⟩
  refine ⟨tj j,⟨j,hj,rfl⟩,?_⟩
  have h1:=congrArg Prod.fst he
  have h2:=congrArg Prod.snd he
  exact Prod.ext h2 h1
theorem lab_turn (S:List P3) (J:List Six):lab (edgJ S (turnJ J))=lab (edgJ S J):=lab_perm fun e=>by
 rw [edg_turn,edg_turn]
 exact ⟨fun h=>h.symm,fun h=>h.symm⟩
theorem errS_turn (C:List (List P3)) (j:Six) (h:errS C j=0):errS C (tj j)=0:=by
 unfold errS at h ⊢
 have h:=firstNZ_zero.1 h
 have h1:=h (errQ C (j.1,j.2.1,j.2.2.1)) (by simp)
 have h2:=h (errQ C (j.2.2.2.1,j.2.2.2.2.1,j.2.2.2.2.2)) (by simp)
 have h3:=h (if (j.1,j.2.1,j.2.2.1)=(j.2.2.2.1,j.2.2.2.2.1,j.2.2.2.2.2) then 9 else 0) (by simp)
 have hne:¬ (j.1,j.2.1,j.2.2.1)=(j.2.2.2.1,j.2.2.2.2.1,j.2.2.2.2.2):=fun c=>by rw [if_pos c] at h3; cases h3
 refine firstNZ_zero.2 fun x hx=>?_
 simp only [List.mem_cons,List.not_mem_nil,or_false] at hx
 rcases hx with rfl | rfl | rfl
 ·exact h2
 ·exact h1
 ·exact if_neg fun c=>hne c.symm
theorem chkQ_all {C:List (List P3)} {J:List Six} (h:chkQ C J=0):∀ j∈J,errS C j=0:=by
 obtain ⟨h1,h2⟩:=chkQ_ok h
 unfold chkQ at h
 rw [if_neg (fun c=>c h1),if_neg (by omega)] at h
 intro j hj
 exact firstNZ_zero.1 h _ (List.mem_map.2 ⟨j,hj,rfl⟩)
theorem chkQ_of {C:List (List P3)} {J:List Six} (h1:chkP C=0) (h2:J.length≤1024) (h:∀ j∈J,errS C j=0):chkQ C J=0:=by
 unfold chkQ
 rw [if_neg (fun c=>c h1),if_neg (by omega)]
 refine firstNZ_zero.2 fun x hx=>?_
 obtain ⟨j,hj,rfl⟩:=List.mem_map.1 hx
 exact h j hj
theorem chkQ_turn {C:List (List P3)} {J:List Six} (h:chkQ C J=0):chkQ C (turnJ J)=0:=by
 obtain ⟨h1,h2⟩:=chkQ_ok h
 refine chkQ_of h1 (by unfold turnJ; rw [List.length_reverse,List.length_map]; exact h2) fun j hj=>?_
 unfold turnJ at hj
 rw [List.mem_reverse,List.mem_map] at hj
 obtain ⟨i,hi,rfl⟩:=hj
 exact errS_turn C i (chkQ_all h i hi)
theorem chkQ_take {C:List (List P3)} {J:List Six} (h:chkQ C J=0) (k:Nat):chkQ C (J.take k)=0:=by
 obtain ⟨h1,h2⟩:=chkQ_ok h
 exact chkQ_of h1 (by rw [List.length_take]; omega) fun j hj=>chkQ_all h j (List.mem_of_mem_take hj)
theorem sew_turn (C:List (List P3)) (J:List Six):sewC C (turnJ J)=sewC C J∧sewB C (turnJ J)=sewB C J:=by
 unfold sewC sewB labS
 rw [lab_turn]
 exact ⟨rfl,rfl⟩
def goodP (p:P3):Prop:=rng p.1 0 15=0∧knotErr (p.2.1,p.2.2)=0
theorem foldP_ok:∀ (l sn:List P3),(∀ p∈l,goodP p)→(sn++l).Nodup→foldI stP sn l=.inl (sn++l)
 | [],sn,_,_=>by simp [foldI]
 | p :: l,sn,hg,hd=>by
  obtain ⟨g1,g2⟩:=hg p (by simp)
  have hp:p∉sn:=fun h=>by
   rw [List.nodup_append] at hd
   exact hd.2.2 p h p (by simp) rfl
  have e0:errP sn p=0:=by
   unfold errP
   refine firstNZ_zero.2 fun x hx=>?_
   simp only [List.mem_cons,List.not_mem_nil,or_false] at hx
   rcases hx with rfl | rfl | rfl
   ·exact g1
   ·exact g2
   ·rw [decide_eq_false hp]; rfl
  have e1:stP sn p=.inl (sn++[p]):=by unfold stP; rw [if_pos e0]
  unfold foldI
  rw [e1]
  have ih:=foldP_ok l (sn++[p]) (fun q hq=>hg q (by simp [hq])) (by simpa using hd)
  simpa using ih
theorem foldC_ok:∀ (CL:List (List P3)) (sn:List P3),(∀ c∈CL,c≠[]∧∀ p∈c,goodP p)→(sn++CL.flatten).Nodup→foldI stC sn CL=.inl (sn++CL.flatten)
 | [],sn,_,_=>by simp [foldI]
 | c :: CL,sn,hg,hd=>by
  obtain ⟨g1,g2⟩:=hg c (by simp)
  have hd':(sn++c++CL.flatten).Nodup:=by simpa using hd
  have e1:stC sn c=.inl (sn++c):=by
   unfold stC
   rw [if_neg (fun h=>g1 (List.length_eq_zero_iff.1 h)),foldP_ok c sn g2 (List.nodup_append.1 hd').1]
  unfold foldI
  rw [e1]
  have ih:=foldC_ok CL (sn++c) (fun q hq=>hg q (by simp [hq])) hd'
  simpa using ih
theorem flat_set (x:P3):∀ (CL:List (List P3)) (c:Nat),c < CL.length→(CL.set c (CL.getD c []++[x])).flatten.Perm (CL.flatten++[x])
 | [],c,h=>by simp at h
 | a :: CL,0,_=>by
  simp only [List.set_cons_zero,List.getD_cons_zero,List.flatten_cons,List.append_assoc]
  exact List.Perm.append_left a List.perm_append_comm
 | a :: CL,c+1,h=>by
  simp only [List.set_cons_succ,List.getD_cons_succ,List.flatten_cons,List.append_assoc]
  exact List.Perm.append_left a (flat_set x CL c (by simpa using h))
theorem clsL_perm {f:Nat→Nat} (hf:LabOk f) (S:List P3):∀ k,k≤S.length→(clsL f S k).flatten.Perm (S.take k)
 | 0,_=>by simp [clsL]
 | k+1,hk=>by
  have hk':k < S.length:=by omega
  have ih:=clsL_perm hf S k (by omega)
  have et:S.take (k+1)=S.take k++[S[k]]:=by rw [List.take_add_one,List.getElem?_eq_getElem hk']; rfl
  have eS:S.getD k (0,0,0)=S[k]:=by simp [hk']
  rw [clsL_succ,et]
  unfold clsS
  rw [eS]
  by_cases h:f k=k
  ·rw [if_pos h]
   simp only [List.flatten_append,List.flatten_cons,List.flatten_nil,List.append_nil]
   exact ih.append_right _
  ·rw [if_neg h]
   have hle:=hf.le k
   exact (flat_set S[k] _ _ (by rw [clsL_len]; exact cnt_lt (hf.idem k) (by omega))).trans (ih.append_right _)
theorem clsL_ne (f:Nat→Nat) (S:List P3):∀ k,∀ c∈clsL f S k,c≠[]
 | 0,c,h=>by cases h
 | k+1,c,h=>by
  rw [clsL_succ] at h
  unfold clsS at h
  split at h
  ·rcases List.mem_append.1 h with h | h
   ·exact clsL_ne f S k c h
   ·rw [List.mem_singleton] at h; subst h; simp
  ·rcases List.mem_or_eq_of_mem_set h with h | h
   ·exact clsL_ne f S k c h
   ·subst h; simp
theorem cnt_mrg {f:Nat→Nat} (hf:LabOk f) (e:Nat × Nat) (hne:f e.1≠f e.2):∀ k,cnt (mrg f e) k+(if max (f e.1) (f e.2) < k then 1 else 0)=cnt f k
 | 0=>by simp [cnt]
 | k+1=>by
  have ih:=cnt_mrg hf e hne k
  have h1:=hf.idem e.1
  have h2:=hf.idem e.2
  have h3:=hf.idem k
  have h4:=hf.le k
  rw [cnt_succ,cnt_succ]
  unfold mrg at ih ⊢
  generalize f e.1=a at *
  generalize f e.2=b at *
  by_cases hk:f k=max a b
  ·rw [if_pos hk]
   by_cases he:k=max a b
   ·have hmk:¬ min a b=k:=by omega
    have hfk:f k=k:=by omega
    rw [if_neg hmk,if_pos hfk,if_pos (by omega)]
    rw [if_neg (by omega)] at ih
    omega
   ·have hfk:¬ f k=k:=by omega
    have hmk:¬ min a b=k:=fun c=>by
     have:f k=k:=by
      rcases Nat.le_total a b with g | g
      ·rw [Nat.min_eq_left g] at c; rw [← c]; exact h1
      ·rw [Nat.min_eq_right g] at c; rw [← c]; exact h2
     exact hfk this
    rw [if_neg hmk,if_neg hfk]
    have hlt:max a b < k:=by omega
    have hlt2:max a b < k+1:=by omega
    rw [if_pos hlt] at ih
    rw [if_pos hlt2]
    omega
  ·rw [if_neg hk]
   have hkm:k≠max a b:=fun c=>by
    apply hk
    rcases Nat.le_total a b with g | g
    ·rw [Nat.max_eq_right g] at c ⊢; rw [c]; exact h2
    ·rw [Nat.max_eq_left g] at c ⊢; rw [c]; exact h1
   by_cases hlt:max a b < k
   ·have hlt2:max a b < k+1:=by omega
    rw [if_pos hlt] at ih; rw [if_pos hlt2]; omega
   ·have hlt2:¬ max a b < k+1:=by omega
    rw [if_neg hlt] at ih; rw [if_neg hlt2]; omega
theorem cnt_join {f:Nat→Nat} (hf:LabOk f) (e:Nat × Nat) {n:Nat} (h1:e.1 < n) (h2:e.2 < n):cnt (mrg f e) n=cnt f n∨cnt (mrg f e) n+1=cnt f n:=by
 by_cases h:f e.1=f e.2
 ·left
  apply cnt_ext
  intro i _
  unfold mrg
  rw [h,Nat.max_self,Nat.min_self]
  split
  ·rename_i c; exact c.symm
  ·rfl
 ·right
  have:=cnt_mrg hf e h n
  have a:=hf.le e.1
  have b:=hf.le e.2
  rw [if_pos (by omega)] at this
  exact this
theorem cnt_fold {n:Nat}:∀ (es:List (Nat × Nat)) {f:Nat→Nat},LabOk f→(∀ e∈es,e.1 < n∧e.2 < n)→cnt f n≤cnt (es.foldl mrg f) n+es.length
 | [],_,_,_=>by simp
 | e :: es,f,hf,he=>by
  obtain ⟨h1,h2⟩:=he e (by simp)
  have ih:=cnt_fold es (hf.mrg e) (fun d hd=>he d (by simp [hd]))
  rw [List.foldl_cons,List.length_cons]
  rcases cnt_join hf e h1 h2 with h | h <;> omega
theorem cnt_id (n:Nat):cnt id n=n:=by
 induction n with
 | zero=>rfl
 | succ n ih=>rw [cnt_succ,ih,if_pos (show id n=n from rfl)]
theorem loops_pos {n:Nat} (es:List (Nat × Nat)) (he:∀ e∈es,e.1 < n∧e.2 < n):n≤cnt (lab es) n+es.length:=by
 have:=cnt_fold es labOk_id he
 rw [cnt_id] at this
 exact this
theorem bmp_sum:∀ (s:List Int) (i:Nat),i < s.length→(∀ x∈s,0≤x∧x < 1000000)→(bmp s i).sum=s.sum+1∧∀ x∈bmp s i,0≤x
 | [],i,h,_=>by simp at h
 | a :: s,0,_,hb=>by
  have ha:=hb a (by simp)
  have hw:IntKind.wrap .i64 (a+1)=a+1:=w64 (by omega)
  unfold bmp
  simp only [List.set_cons_zero,List.getD_cons_zero,hw,List.sum_cons]
  refine ⟨by omega,fun x hx=>?_⟩
  rcases List.mem_cons.1 hx with rfl | hx
  ·omega
  ·exact (hb x (by simp [hx])).1
 | a :: s,i+1,h,hb=>by
  have ih:=bmp_sum s i (by simpa using h) (fun x hx=>hb x (by simp [hx]))
  have e:bmp (a :: s) (i+1)=a :: bmp s i:=rfl
  rw [e]
  simp only [List.sum_cons]
  refine ⟨by omega,fun x hx=>?_⟩
  rcases List.mem_cons.1 hx with rfl | hx
  ·exact (hb x (by simp)).1
  ·exact ih.2 x hx
theorem le_sum {s:List Int} (h:∀ x∈s,0≤x):∀ x∈s,x≤s.sum:=by
 induction s with
 | nil=>intro x hx; cases hx
 | cons a s ih=>
  have hn:0≤s.sum:=by
   clear ih
   have:∀ x∈s,0≤x:=fun x hx=>h x (by simp [hx])
   clear h
   induction s with
   | nil=>simp
   | cons b s ih=>
    have:=ih (fun x hx=>this x (by simp [hx]))
    have hb:=‹∀ x∈b :: s,0≤x› b (by simp)
    simp only [List.sum_cons]; omega
  intro x hx
  simp only [List.sum_cons]
  rcases List.mem_cons.1 hx with rfl | hx
  ·omega
  ·have:=ih (fun y hy=>h y (by simp [hy])) x hx
   have:=h a (by simp)
   omega
theorem deg_sum {n:Nat}:∀ (B:List (Int × Int)) (s:List Int) (k:Nat),s.length=n→s.sum=2 * (k:Int)→(∀ x∈s,0≤x)→k+B.length≤8192→(∀ b∈B,0≤b.1∧b.1≤b.2∧b.2 < (n:Int)) →
  (B.foldl (fun s b=>bmp (bmp s b.1.toNat) b.2.toNat) s).sum=2 * ((k+B.length:Nat):Int)∧∀ x∈B.foldl (fun s b=>bmp (bmp s b.1.toNat) b.2.toNat) s,0≤x
 | [],s,k,_,h2,h3,_,_=>by simpa using ⟨h2,h3⟩
 | b :: B,s,k,h1,h2,h3,h4,h5=>by
  obtain ⟨b1,b2,b3⟩:=h5 b (by simp)
  rw [List.length_cons] at h4
  have hs:=le_sum h3
  obtain ⟨p1,p2⟩:=bmp_sum s b.1.toNat (by omega) (fun x hx=>⟨h3 x hx,by have:=hs x hx; omega⟩)
  have hs2:=le_sum p2
  obtain ⟨q1,q2⟩:=bmp_sum (bmp s b.1.toNat) b.2.toNat (by rw [bmp_len]; omega) (fun x hx=>⟨p2 x hx,by have:=hs2 x hx; omega⟩)
  have ih:=deg_sum B (bmp (bmp s b.1.toNat) b.2.toNat) (k+1) (by rw [bmp_len,bmp_len,h1]) (by omega) q2 (by omega) (fun c hc=>h5 c (by simp [hc]))
  rw [List.foldl_cons,List.length_cons]
  rw [show k+(B.length+1)=k+1+B.length by omega]
  exact ih
end Go.Proofs.YtfiopgedfcaodaaGreatDoor
namespace Go.Proofs.YtfiopgedfcaodaaGreatDoor
open Go Go.Am Go.Sort
set_option maxRecDepth 100000
theorem flat_mem {l:List P3} {k:Int × Int} (h:k∈flatK2 l):∃ b∈l,k=loK b∨k=upK b:=by
 induction l with
 | nil=>cases h
 | cons a l ih=>
  rw [flatK2] at h
  rcases List.mem_cons.1 h with h | h
  ·exact ⟨a,by simp,.inl h⟩
  ·rcases List.mem_cons.1 h with h | h
   ·exact ⟨a,by simp,.inr h⟩
   ·obtain ⟨b,hb,hk⟩:=ih h
    exact ⟨b,by simp [hb],hk⟩
theorem chkN_bar {l:List P3} (h:chkN l=0) {b:P3} (hb:b∈l):knotErr (loK b)=0∧knotErr (upK b)=0:=by
 obtain ⟨k,hk,rfl⟩:=List.getElem_of_mem hb
 unfold chkN at h
 split at h
 ·cases h
 ·have e:=firstNZ_zero.1 h (errN l k) (List.mem_map.2 ⟨k,List.mem_range.2 hk,rfl⟩)
  have eg:l.getD k (0,0,0)=l[k]:=by simp [hk]
  unfold errN at e
  rw [eg] at e
  have hb0:chkB l[k]=0:=by
   by_cases c:chkB l[k]=0
   ·exact c
   ·rw [if_pos c] at e; exact e
  unfold chkB at hb0
  have h1:knotErr (loK l[k])=0:=by
   by_cases c:knotErr (loK l[k])=0
   ·exact c
   ·rw [if_pos c] at hb0; exact hb0
  rw [if_neg (fun c=>c h1)] at hb0
  split at hb0
  ·cases hb0
  ·exact ⟨h1,hb0⟩
theorem plcs_good {C:List (List P3)} (hC:∀ l∈C,chkN l=0) (hl:C.length≤16) {p:P3} (hp:p∈plcs C):goodP p:=by
 obtain ⟨i,hi,h1,h2⟩:=(mem_plcs p).1 hp
 have e:C.getD i []=C[i]:=by simp [hi]
 rw [e,mem_knots] at h2
 obtain ⟨b,hb,hk⟩:=flat_mem h2
 have hn:=chkN_bar (hC _ (List.getElem_mem hi)) hb
 refine ⟨?_,?_⟩
 ·unfold rng
  rw [if_neg (by omega)]
 ·rcases hk with hk | hk
  ·rw [hk]; exact hn.1
  ·rw [hk]; exact hn.2
theorem sewB_in {C:List (List P3)} {f:Nat→Nat} (hf:LabOk f) {b:Int × Int}:∀ k,k≤C.length→b∈barsK f (plcs C) C k→0≤b.1∧b.1≤b.2∧b.2 < (cnt f (plcs C).length:Int)
 | 0,_,h=>by simp [barsK] at h
 | k+1,hk,h=>by
  rw [barsK_succ] at h
  rcases List.mem_append.1 h with h | h
  ·exact sewB_in hf k (by omega) h
  ·have hk':k < C.length:=by omega
   have e:C.getD k []=C[k]:=by simp [hk']
   rw [e] at h
   obtain ⟨a,ha,rfl⟩:=List.mem_map.1 h
   obtain ⟨m1,m2⟩:=mem_ends hk' ha
   have l1:=ixN_lt m1
   have l2:=ixN_lt m2
   unfold barN
   generalize ixN (plcs C) ((k:Int),a.1,a.2.1)=x at *
   generalize ixN (plcs C) ((k:Int),(upK a).1,(upK a).2)=y at *
   have c1:=cnt_lt (hf.idem x) (k:=(plcs C).length) (by have:=hf.le x; omega)
   have c2:=cnt_lt (hf.idem y) (k:=(plcs C).length) (by have:=hf.le y; omega)
   simp only
   omega
theorem sew_ok {C:List (List P3)} {J:List Six} (h:chkQ C J=0) (h1:(sewC C J).length≤8192) (h2:(sewB C J).length≤8192):chkS (sewC C J) (sewB C J)=0:=by
 obtain ⟨hp,hJ⟩:=chkQ_ok h
 obtain ⟨c1,c2⟩:=chkP_ok hp
 have hok:LabOk (labS C J):=lab_ok _
 have hperm:=clsL_perm hok (plcs C) (plcs C).length (Nat.le_refl _)
 rw [List.take_length] at hperm
 have hperm:(sewC C J).flatten.Perm (plcs C):=hperm
 have hnd:([]++(sewC C J).flatten).Nodup:=by
  rw [List.nil_append]
  exact hperm.nodup_iff.2 (plcs_nodup C)
 have hg:∀ c∈sewC C J,c≠[]∧∀ p∈c,goodP p:=fun c hc=>⟨clsL_ne _ _ _ c hc,fun p hp=>plcs_good c2 c1 (hperm.mem_iff.1 (List.mem_flatten.2 ⟨c,hc,hp⟩))⟩
 have hf:=foldC_ok (sewC C J) [] hg hnd
 unfold chkS
 rw [if_neg (by omega),hf]
 simp only
 refine firstNZ_zero.2 fun x hx=>?_
 obtain ⟨b,hb,rfl⟩:=List.mem_map.1 hx
 obtain ⟨b1,b2,b3⟩:=sewB_in hok C.length (Nat.le_refl _) hb
 have hlen:(sewC C J).length=cnt (labS C J) (plcs C).length:=clsL_len _ _ _
 unfold errB
 refine firstNZ_zero.2 fun y hy=>?_
 simp only [List.mem_cons,List.not_mem_nil,or_false] at hy
 rcases hy with rfl | rfl | rfl
 ·unfold rng; rw [if_neg (by omega)]
 ·unfold rng; rw [if_neg (by omega)]
 ·have:¬ b.1 > b.2:=by omega
  simp [this]
theorem clsL_in {f:Nat→Nat} (hf:LabOk f) (S:List P3) (x:P3):∀ k,k≤S.length→∀ c,x∈(clsL f S k).getD c []↔∃ i,i < k∧S.getD i (0,0,0)=x∧cnt f (f i)=c
 | 0,_,c=>by simp [clsL]
 | k+1,hk,c=>by
  have hk':k < S.length:=by omega
  have ih:=clsL_in hf S x k (by omega)
  have hcl:=clsL_len f S k
  have hle:=hf.le k
  rw [clsL_succ]
  unfold clsS
  have split:(∃ i,i < k+1∧S.getD i (0,0,0)=x∧cnt f (f i)=c)↔(∃ i,i < k∧S.getD i (0,0,0)=x∧cnt f (f i)=c)∨(S.getD k (0,0,0)=x∧cnt f (f k)=c):=by
   constructor
   ·rintro ⟨i,h1,h2⟩
    by_cases e:i=k
    ·subst e; exact .inr h2
    ·exact .inl ⟨i,by omega,h2⟩
   ·rintro (⟨i,h1,h2⟩ | h)
    ·exact ⟨i,by omega,h2⟩
    ·exact ⟨k,by omega,h⟩
  rw [split,← ih c]
  by_cases h:f k=k
  ·rw [if_pos h,h]
   by_cases hc:c < (clsL f S k).length
   ·have e:(clsL f S k++[[S.getD k (0,0,0)]]).getD c []=(clsL f S k).getD c []:=by simp [List.getElem?_append,hc]
    rw [e]
    exact ⟨.inl,fun d=>d.resolve_right fun d=>by omega⟩
   ·have e0:(clsL f S k).getD c []=[]:=by simp [hc]
    by_cases hc2:c=(clsL f S k).length
    ·have e:(clsL f S k++[[S.getD k (0,0,0)]]).getD c []=[S.getD k (0,0,0)]:=by subst hc2; simp
     rw [e,e0,List.mem_singleton]
     constructor
     ·intro d; exact .inr ⟨d.symm,by omega⟩
     ·rintro (d | d)
      ·cases d
      ·exact d.1.symm
    ·have e:(clsL f S k++[[S.getD k (0,0,0)]]).getD c []=[]:=by
      have:(clsL f S k++[[S.getD k (0,0,0)]]).length≤c:=by simp; omega
      rw [List.getD_eq_getElem?_getD,List.getElem?_eq_none this]; rfl
     rw [e,e0]
     constructor
     ·intro d; cases d
     ·rintro (d | d)
      ·cases d
      ·omega
  ·rw [if_neg h]
   have hlt:cnt f (f k) < (clsL f S k).length:=by rw [hcl]; exact cnt_lt (hf.idem k) (by omega)
   by_cases hc:c=cnt f (f k)
   ·subst hc
    have e:((clsL f S k).set (cnt f (f k)) ((clsL f S k).getD (cnt f (f k)) []++[S.getD k (0,0,0)])).getD (cnt f (f k)) []=(clsL f S k).getD (cnt f (f k)) []++[S.getD k (0,0,0)]:=by simp [hlt]
    rw [e,List.mem_append,List.mem_singleton]
    exact ⟨fun d=>d.imp id fun d=>⟨d.symm,rfl⟩,fun d=>d.imp id fun d=>d.1.symm⟩
   ·have e:((clsL f S k).set (cnt f (f k)) ((clsL f S k).getD (cnt f (f k)) []++[S.getD k (0,0,0)])).getD c []=(clsL f S k).getD c []:=by
     simp [List.getElem?_set_ne (Ne.symm hc)]
    rw [e]
    exact ⟨.inl,fun d=>d.resolve_right fun d=>hc d.2.symm⟩
theorem cls_num {f:Nat→Nat} (hf:LabOk f) {S:List P3} (hS:S.Nodup) {p:P3} (hp:p∈S) (c:Nat):p∈(clsL f S S.length).getD c []↔cnt f (f (ixN S p))=c:=by
 rw [clsL_in hf S p S.length (Nat.le_refl _) c]
 have hl:=ixN_lt hp
 have hg:S[ixN S p]=p:=List.getElem_idxOf hl
 constructor
 ·rintro ⟨i,hi,h1,h2⟩
  have e:S.getD i (0,0,0)=S[i]:=by simp [hi]
  rw [e] at h1
  have:=ixN_at hS i hi
  rw [h1] at this
  rw [this]; exact h2
 ·intro h
  exact ⟨ixN S p,hl,by simp [hl,hg],h⟩
theorem cls_find {f:Nat→Nat} (hf:LabOk f) {S:List P3} (hS:S.Nodup) {p:P3} (hp:p∈S):clsF (clsL f S S.length) p=((cnt f (f (ixN S p)):Int),0):=by
 unfold clsF
 have hl:=ixN_lt hp
 have hlt:cnt f (f (ixN S p)) < (clsL f S S.length).length:=by
  rw [clsL_len]
  exact cnt_lt (hf.idem _) (by have:=hf.le (ixN S p); omega)
 have e:((List.range (clsL f S S.length).length).find? fun i=>decide (p∈(clsL f S S.length).getD i []))=some (cnt f (f (ixN S p))):=by
  rw [List.find?_range_eq_some]
  refine ⟨decide_eq_true ((cls_num hf hS hp _).2 rfl),List.mem_range.2 hlt,fun j hj=>?_⟩
  rw [decide_eq_false fun c=>by have:=(cls_num hf hS hp j).1 c; omega]
  rfl
 rw [e]
end Go.Proofs.YtfiopgedfcaodaaGreatDoor
namespace Go.Proofs.YtfiopgedfcaodaaGreatDoor
open Go Go.Am Go.Sort
set_option maxRecDepth 100000
theorem same_map {α:Type} (n:α→AV) (h:∀ x,sameA (n x) (n x)=true):∀ l:List α,sameL (List.map n l) (List.map n l)=true
 | []=>rfl
 | x :: l=>by
  show (sameA (n x) (n x)&&sameL (List.map n l) (List.map n l))=true
  rw [h x,same_map n h l]; rfl
theorem sameI (n:Int):sameA (.int .i64 n) (.int .i64 n)=true:=by
 show same0 (.int .i64 n) (.int .i64 n)=true
 simp [same0]
theorem sl129:∀ l:List Six,sameL (List.map n129 l) (List.map n129 l)=true:=same_map n129 fun x=>by
 show (sameA (.int .i64 x.1) (.int .i64 x.1)&&(sameA (.int .i64 x.2.1) (.int .i64 x.2.1)&&(sameA (.int .i64 x.2.2.1) (.int .i64 x.2.2.1)&&(sameA (.int .i64 x.2.2.2.1) (.int .i64 x.2.2.2.1)&&(sameA (.int .i64 x.2.2.2.2.1) (.int .i64 x.2.2.2.2.1)&&(sameA (.int .i64 x.2.2.2.2.2) (.int .i64 x.2.2.2.2.2)&&true))))))=true
 simp only [sameI,Bool.and_self]
theorem sl120:∀ l:List P3,sameL (List.map n120 l) (List.map n120 l)=true:=same_map n120 fun x=>by
 show (sameA (.int .i64 x.1) (.int .i64 x.1)&&(sameA (.int .i64 x.2.1) (.int .i64 x.2.1)&&(sameA (.int .i64 x.2.2) (.int .i64 x.2.2)&&true)))=true
 simp only [sameI,Bool.and_self]
theorem sl115:∀ l:List (List P3),sameL (List.map n115 l) (List.map n115 l)=true:=same_map n115 fun x=>by
 show (Nat.beq 3 3&&sameL (List.map n120 x) (List.map n120 x))=true
 rw [sl120]; rfl
theorem sl53:∀ l:List (List P3),sameL (List.map n53 l) (List.map n53 l)=true:=same_map n53 fun x=>by
 show (Nat.beq 3 3&&sameL (List.map n120 x) (List.map n120 x))=true
 rw [sl120]; rfl
theorem one127 (a b c d e f:Int):[AV.agg [AV.int .i64 a,AV.int .i64 b,AV.int .i64 c,AV.int .i64 d,AV.int .i64 e,AV.int .i64 f]]=List.map n127 [(a,b,c,d,e,f)]:=rfl
theorem turn_foldl:∀ (J acc:List Six),J.foldl (fun a j=>tj j :: a) acc=turnJ J++acc
 | [],acc=>rfl
 | j :: J,acc=>by
  rw [List.foldl_cons,turn_foldl J]
  unfold turnJ
  simp
theorem sew_small {C:List (List P3)} {J:List Six} (h12:∀ l∈C,l.length≤12) (h4:C.length≤4):(sewC C J).length≤96∧(sewB C J).length≤48∧∀ l∈sewC C J,l.length≤96:=by
 have hp:=plcs_len2 C h12
 have hB:=barsK_len2 (labS C J) (plcs C) C h12 C.length
 have hs:=clsL_len (labS C J) (plcs C) (plcs C).length
 have hc:=cnt_le (labS C J) (plcs C).length
 have hm:=clsL_mem (labS C J) (plcs C) (plcs C).length
 refine ⟨?_,?_,fun l hl=>?_⟩
 ·unfold sewC; omega
 ·unfold sewB; omega
 ·have:=hm l hl
  omega
section
variable {N:Nat} (hN:Big N)
include hN
theorem R10_turn (J:List Six) (hJ:J.length≤1000):loopR (R10x122 N J) N ([],0)=some (turnJ J):=by
 have key:=loopR_foldl (rd:=R10x122 N J) J (fun acc k=>(acc,(k:Int))) (fun acc j=>tj j :: acc) (fun acc=>acc) (fun acc k=>acc.length=k) (fun acc k hk ha=>by
  have hd:=nthD_map n127 J k hk
  have a1:d127 (nthD (List.map n127 J) k)=J[k]:=by rw [hd,dn127]
  have a2:Pat.fits p127 (nthD (List.map n127 J) k)=true:=by rw [hd,fn127]
  have hb:decide ((1+acc.length) * 48≤140737488355328)=true:=decide_eq_true (by omega)
  have z:∀ a b:List Six,List.map n127 a++List.map n127 b=List.map n127 (a++b):=fun a b=>by rw [List.map_append]
  refine ⟨?_,by rw [List.length_cons,ha]⟩
  by_cases h0:acc=[]
  ·subst h0
   have he:List.isEmpty (List.map n127 ([]:List Six))=true:=rfl
   simp only [R10x122,List.length_map,Int.toNat_natCast,a1,a2,lt_range hk,in_range hk,Bool.and_self,Bool.and_true,cond_true,he,one127,fa127,md127,Option.bind_some,w_succ (show k < 9223372036854775807 by omega)]
   rfl
  ·have he:List.isEmpty (List.map n127 acc)=false:=by
    cases acc with
    | nil=>exact absurd rfl h0
    | cons x y=>rfl
   simp only [R10x122,List.length_map,Int.toNat_natCast,a1,a2,lt_range hk,in_range hk,Bool.and_self,Bool.and_true,cond_true,cond_false,he,hb,one127,z,List.singleton_append,fa127,md127,Option.bind_some,w_succ (show k < 9223372036854775807 by omega)]
   rfl) (fun acc _=>by
  simp only [R10x122,List.length_map,ge_range,cond_false,fa127,md127,Bool.and_true,cond_true,Option.bind_some]) N [] 0 (Nat.zero_le _) (by unfold Big at hN; omega) rfl
 have key':loopR (R10x122 N J) N ([],0)=_:=key
 rw [key',List.drop_zero,turn_foldl,List.append_nil]
theorem R10_sum (s:List Int) (e:Int) (h:∀ x∈s,0≤x) (hs:s.sum < 1000000) (hl:s.length≤1000):loopR (R10x33507834 N (s,e)) N (0,0)=some s.sum:=by
 have hpre:∀ k,0≤(s.take k).sum∧(s.take k).sum≤s.sum:=by
  have gen:∀ (l:List Int),(∀ x∈l,0≤x)→∀ k,0≤(l.take k).sum∧(l.take k).sum≤l.sum:=by
   intro l
   induction l with
   | nil=>intro _ k; simp
   | cons a l ih=>
    intro hl k
    have i0:=ih (fun x hx=>hl x (by simp [hx]))
    have ha:=hl a (by simp)
    cases k with
    | zero=>
     have:=i0 0
     simp only [List.take_zero,List.sum_nil,List.sum_cons] at this ⊢
     omega
    | succ k=>
     have:=i0 k
     simp only [List.take_succ_cons,List.sum_cons]
     omega
  exact gen s h
 have key:=loopR_count (rd:=R10x33507834 N (s,e)) s.length (fun k=>((s.take k).sum,(k:Int))) s.sum (fun k hk=>by
  obtain ⟨a1,a2⟩:=at3 s hk
  have et:(s.take (k+1)).sum=(s.take k).sum+s[k]:=by
   rw [List.take_add_one,List.getElem?_eq_getElem hk,List.sum_append]
   simp
  have p1:=hpre k
  have p2:=hpre (k+1)
  have hw:IntKind.wrap .i64 ((s.take k).sum+s[k])=(s.take (k+1)).sum:=by rw [et,w64 (by rw [et] at p2; omega)]
  simp only [R10x33507834,List.length_map,Int.toNat_natCast,a1,a2,lt_range hk,in_range hk,Bool.and_self,Bool.and_true,cond_true,hw,w_succ (show k < 9223372036854775807 by omega)]) (by
  rw [List.take_length]
  simp only [R10x33507834,List.length_map,ge_range,cond_false]) N 0 (Nat.zero_le _) (by unfold Big at hN; omega)
 exact key
end
end Go.Proofs.YtfiopgedfcaodaaGreatDoor
namespace Go.Proofs.YtfiopgedfcaodaaGreatDoor
open Go Go.Am Go.Sort
set_option maxRecDepth 100000
theorem edgJ_take (S:List P3) (J:List Six) (k:Nat):edgJ S (J.take k)=(edgJ S J).take k:=by
 unfold edgJ
 rw [List.map_take]
theorem sub129 (l:List Six) (k:Nat):subA 0 k (List.map n129 l)=List.map n129 (l.take k):=by simp [subA,List.map_take]
def preC (C:List (List P3)) (J:List Six):Nat→Int
 | 0=>-1
 | k+1=>((sewC C (J.take k)).length:Int)
section
variable {N:Nat} (hN:Big N)
include hN
theorem R10_round (C:List (List P3)) (J:List Six) (hq:chkQ C J=0) (h12:∀ l∈C,l.length≤12) (h4:C.length≤4) (hJ:J.length≤8) {k:Nat} (hk:k≤J.length) :
  R10x4090 N C J (preC C J k,(k:Int))=some (.inl (preC C J (k+1),((k+1:Nat):Int))):=by
 obtain ⟨hp,hJ4⟩:=chkQ_ok hq
 obtain ⟨c1,c2⟩:=chkP_ok hp
 have hqk:=chkQ_take hq k
 obtain ⟨s1,s2,s3⟩:=sew_small (C:=C) (J:=J.take k) h12 h4
 have hin:=chkQ_in hqk
 have hc0:=sew_ok hqk (by omega) (by omega)
 have q47:=T47_sew hN C (J.take k)
 unfold sewR at q47
 rw [if_neg (fun c=>c hqk),if_neg (by omega)] at q47
 have q34:=T34_same hN C (by omega) (fun l h=>by have:=h12 l h; omega)
 have q35:=T35_same hN (J.take k) (by rw [List.length_take]; omega)
 have q50:=T50_own hN (sewC C (J.take k),sewB C (J.take k)) (by show (sewC C (J.take k)).length≤1000000; omega) (fun l hl=>by have:=s3 l hl; omega)
 have q56:=T56_chk hN (sewC C (J.take k)) (sewB C (J.take k)) (by omega) (by omega) (fun l hl=>by have:=s3 l hl; omega)
 have q54:=T54_deg hN (sewC C (J.take k)) (sewB C (J.take k)) (by omega) (by omega) (fun l hl=>by have:=s3 l hl; omega)
 have q55:=T55_cnt hN (sewC C (J.take k)) (sewB C (J.take k)) (by omega) (by omega) (fun l hl=>by have:=s3 l hl; omega)
 have q52:=T52_cls hN (sewC C (J.take k)) (sewB C (J.take k)) (by omega) (by omega) (fun l hl=>by have:=s3 l hl; omega)
 rw [hc0] at q56
 rw [if_pos hc0] at q54 q55
 have hbar:=(chkS_ok hc0).2.2
 have hz:∀ n,(List.replicate n (0:Int)).sum=0∧∀ x∈List.replicate n (0:Int),(0:Int)≤x:=fun n=>⟨by induction n with
  | zero=>rfl
  | succ n ih=>rw [List.replicate_succ,List.sum_cons,ih]; rfl,fun x hx=>by rw [List.mem_replicate] at hx; omega⟩
 obtain ⟨d1,d2⟩:=deg_sum (sewB C (J.take k)) (List.replicate (sewC C (J.take k)).length 0) 0 (by rw [List.length_replicate]) (by rw [(hz _).1]; rfl) (hz _).2 (by omega) hbar
 rw [Nat.zero_add] at d1
 have hds:(deg (sewC C (J.take k)).length (sewB C (J.take k))).sum=2 * ((sewB C (J.take k)).length:Int):=d1
 have hdl:=deg_len (sewC C (J.take k)).length (sewB C (J.take k))
 have qsum:=R10_sum hN (deg (sewC C (J.take k)).length (sewB C (J.take k))) 0 d2 (by rw [hds]; omega) (by rw [hdl]; omega)
 rw [hds] at qsum
 have hw2:IntKind.wrap .i64 (2 * ((sewB C (J.take k)).length:Int))=2 * ((sewB C (J.take k)).length:Int):=w64 (by omega)
 have hlp:=loops_pos (n:=(sewC C (J.take k)).length) (edg (sewB C (J.take k))) (fun e he=>by
  obtain ⟨b,hb,rfl⟩:=List.mem_map.1 he
  have:=hbar b hb
  constructor <;> simp only <;> omega)
 have hel:(edg (sewB C (J.take k))).length=(sewB C (J.take k)).length:=by simp [edg]
 rw [hel] at hlp
 have hcl:=cnt_le (lab (edg (sewB C (J.take k)))) (sewC C (J.take k)).length
 have hw3:IntKind.wrap .i64 (((sewB C (J.take k)).length:Int) - ((sewC C (J.take k)).length:Int))=((sewB C (J.take k)).length:Int) - ((sewC C (J.take k)).length:Int):=w64 (by omega)
 have hw4:IntKind.wrap .i64 (((sewB C (J.take k)).length:Int) - ((sewC C (J.take k)).length:Int)+(cnt (lab (edg (sewB C (J.take k)))) (sewC C (J.take k)).length:Int))=((sewB C (J.take k)).length:Int) - ((sewC C (J.take k)).length:Int)+(cnt (lab (edg (sewB C (J.take k)))) (sewC C (J.take k)).length:Int):=w64 (by omega)
 have hn1:decide (((sewB C (J.take k)).length:Int) - ((sewC C (J.take k)).length:Int)+(cnt (lab (edg (sewB C (J.take k)))) (sewC C (J.take k)).length:Int) < 0)=false:=decide_eq_false (by omega)
 have hn2:decide ((cnt (lab (edg (sewB C (J.take k)))) (sewC C (J.take k)).length:Int) > ((sewC C (J.take k)).length:Int))=false:=decide_eq_false (by omega)
 have hkl:decide ((k:Int)≤(J.length:Int))=true:=decide_eq_true (by omega)
 have hk0:decide ((0:Int)≤(k:Int)∧(k:Int)≤(J.length:Int))=true:=decide_eq_true (by omega)
 have hbb:((0:Int) != 0)=false:=rfl
 -- what comes of one round before the classes are compared
 by_cases hkz:k=0
 ·subst hkz
  have hg0:decide (((0:Nat):Int) > 0)=false:=rfl
  simp only [R10x4090,List.length_map,Int.toNat_natCast,hkl,hk0,Bool.and_self,Bool.and_true,cond_true,cond_false,fa115,md115,fa129,md129,fa127,md127,sub129,Option.bind_some,q34,q35,q47,beq_self_eq_true,sl53,sl46,sl129,sl115,fa53,md53,fa46,md46,eqC_self,hbb,q50,fa63,md63,q56,q54,q55,qsum,hw2,bne_self_eq_false,cntS,hw3,hw4,hn1,hn2,hg0,Sum.elim_inl,preC]
  rfl
 ·have hg0:decide ((k:Int) > 0)=true:=decide_eq_true (by omega)
  obtain ⟨m,rfl⟩:∃ m,k=m+1:=⟨k - 1,by omega⟩
  have hm:m < J.length:=by omega
  have hwk:IntKind.wrap .i64 (((m+1:Nat):Int) - 1)=(m:Int):=by rw [w64 (by omega)]; omega
  have hd:=nthD_map n129 J m hm
  have a1:d129 (nthD (List.map n129 J) m)=J[m]:=by rw [hd,dn129]
  have a2:Pat.fits p129 (nthD (List.map n129 J) m)=true:=by rw [hd,fn129]
  have hmem:J[m]∈J.take (m+1):=by
   rw [List.take_add_one,List.getElem?_eq_getElem hm,List.mem_append]
   exact .inr (List.mem_singleton.2 rfl)
  obtain ⟨i1,i2⟩:=hin _ hmem
  have hok:LabOk (labS C (J.take (m+1))):=lab_ok _
  have f1:=cls_find hok (plcs_nodup C) i1
  have f2:=cls_find hok (plcs_nodup C) i2
  have hsame:labS C (J.take (m+1)) (ixN (plcs C) (J[m].1,J[m].2.1,J[m].2.2.1))=labS C (J.take (m+1)) (ixN (plcs C) (J[m].2.2.2.1,J[m].2.2.2.2.1,J[m].2.2.2.2.2)):=
   lab_edge (es:=edgJ (plcs C) (J.take (m+1))) (e:=(ixN (plcs C) (J[m].1,J[m].2.1,J[m].2.2.1),ixN (plcs C) (J[m].2.2.2.1,J[m].2.2.2.2.1,J[m].2.2.2.2.2))) (List.mem_map.2 ⟨J[m],hmem,rfl⟩)
  have g1:=plcs_good c2 c1 i1
  have g2:=plcs_good c2 c1 i2
  have z1:firstNZ [chkS (sewC C (J.take (m+1))) (sewB C (J.take (m+1))),rng J[m].1 0 15,knotErr (J[m].2.1,J[m].2.2.1)]=0:=firstNZ_zero.2 fun x hx=>by
   simp only [List.mem_cons,List.not_mem_nil,or_false] at hx
   rcases hx with rfl | rfl | rfl
   ·exact hc0
   ·exact g1.1
   ·exact g1.2
  have z2:firstNZ [chkS (sewC C (J.take (m+1))) (sewB C (J.take (m+1))),rng J[m].2.2.2.1 0 15,knotErr (J[m].2.2.2.2.1,J[m].2.2.2.2.2)]=0:=firstNZ_zero.2 fun x hx=>by
   simp only [List.mem_cons,List.not_mem_nil,or_false] at hx
   rcases hx with rfl | rfl | rfl
   ·exact hc0
   ·exact g2.1
   ·exact g2.2
  have t1:=q52 (J[m].1,J[m].2.1,J[m].2.2.1)
  have t2:=q52 (J[m].2.2.2.1,J[m].2.2.2.2.1,J[m].2.2.2.2.2)
  rw [if_pos z1] at t1
  rw [if_pos z2] at t2
  have f1:clsF (sewC C (J.take (m+1))) (J[m].1,J[m].2.1,J[m].2.2.1)=_:=f1
  have f2:clsF (sewC C (J.take (m+1))) (J[m].2.2.2.1,J[m].2.2.2.2.1,J[m].2.2.2.2.2)=_:=f2
  rw [f1] at t1
  rw [f2,← hsame] at t2
  -- classes before
  have hl1:(sewC C (J.take (m+1))).length=cnt (labS C (J.take (m+1))) (plcs C).length:=clsL_len _ _ _
  have hl0:(sewC C (J.take m)).length=cnt (labS C (J.take m)) (plcs C).length:=clsL_len _ _ _
  have hke:m < (edgJ (plcs C) J).length:=by simp [edgJ]; exact hm
  have hst:labS C (J.take (m+1))=mrg (labS C (J.take m)) (edgJ (plcs C) J)[m]:=by
   unfold labS
   rw [edgJ_take,edgJ_take,lab_take _ hke]
  have hee:(edgJ (plcs C) J)[m]=(ixN (plcs C) (J[m].1,J[m].2.1,J[m].2.2.1),ixN (plcs C) (J[m].2.2.2.1,J[m].2.2.2.2.1,J[m].2.2.2.2.2)):=by simp [edgJ]
  have hj:=cnt_join (lab_ok (edgJ (plcs C) (J.take m))) (edgJ (plcs C) J)[m] (n:=(plcs C).length) (by rw [hee]; exact ixN_lt i1) (by rw [hee]; exact ixN_lt i2)
  have hj:cnt (labS C (J.take (m+1))) (plcs C).length=cnt (labS C (J.take m)) (plcs C).length∨cnt (labS C (J.take (m+1))) (plcs C).length+1=cnt (labS C (J.take m)) (plcs C).length:=by rw [hst]; exact hj
  rw [← hl1,← hl0] at hj
  have hw5:IntKind.wrap .i64 (((sewC C (J.take (m+1))).length:Int)+1)=((sewC C (J.take (m+1))).length:Int)+1:=w64 (by omega)
  have hpre:((bif ((sewC C (J.take m)).length:Int) != ((sewC C (J.take (m+1))).length:Int) then some (((sewC C (J.take m)).length:Int) != IntKind.wrap .i64 (((sewC C (J.take (m+1))).length:Int)+1)) else some false):Option Bool)=some false:=by
   rw [hw5]
   rcases hj with hj | hj
   ·have e:(((sewC C (J.take m)).length:Int) != ((sewC C (J.take (m+1))).length:Int))=false:=by simp; omega
    rw [e]; rfl
   ·have e:(((sewC C (J.take m)).length:Int) != ((sewC C (J.take (m+1))).length:Int)+1)=false:=by simp; omega
    rw [e]
    cases (((sewC C (J.take m)).length:Int) != ((sewC C (J.take (m+1))).length:Int)) <;> rfl
  simp only [R10x4090,List.length_map,Int.toNat_natCast,hkl,hk0,Bool.and_self,Bool.and_true,cond_true,cond_false,fa115,md115,fa129,md129,fa127,md127,sub129,Option.bind_some,q34,q35,q47,beq_self_eq_true,sl53,sl46,sl129,sl115,fa53,md53,fa46,md46,eqC_self,hbb,q50,fa63,md63,q56,q54,q55,qsum,hw2,bne_self_eq_false,cntS,hw3,hw4,hn1,hn2,hg0,preC,hpre,hwk,in_range hm,a1,a2,t1,t2,Sum.elim_inl,w_succ (show m+1 < 9223372036854775807 by omega)]
theorem T10_true (C:List (List P3)) (J:List Six):T10 N (C,J)=some true:=by
 obtain ⟨b,q32,hb⟩:=T32_short2 hN C
 have T16_eq:∀ u,T16 N u=some true:=fun _=>rfl
 have q38:=T38_chk hN C J
 rw [T10_eq]
 by_cases hgo:b=true∧C.length≤4∧J.length≤8∧chkQ C J=0
 ·obtain ⟨hbt,h4,hJ,hq⟩:=hgo
  obtain ⟨hp,hJ4⟩:=chkQ_ok hq
  obtain ⟨c1,c2⟩:=chkP_ok hp
  have hl:=(hb hbt).2
  have h12:∀ l∈C,l.length≤12:=fun l h=>by
   have a:=hl l h
   have b:=chkN_ok (c2 l h)
   omega
  have g4:decide ((C.length:Int) > 4)=false:=decide_eq_false (by omega)
  have g8:decide ((J.length:Int) > 8)=false:=decide_eq_false (by omega)
  have hbb:((0:Int) != 0)=false:=rfl
  rw [hq] at q38
  have q34:=T34_same hN C (by omega) (fun l h=>by have:=h12 l h; omega)
  have q35:=T35_same hN J (by omega)
  have qt:=R10_turn hN J (by omega)
  obtain ⟨s1,s2,s3⟩:=sew_small (C:=C) (J:=J) h12 h4
  obtain ⟨e1,e2⟩:=sew_turn C J
  have q47:=T47_sew hN C J
  have q47t:=T47_sew hN C (turnJ J)
  unfold sewR at q47 q47t
  rw [if_neg (fun c=>c hq),if_neg (by omega)] at q47
  rw [if_neg (fun c=>c (chkQ_turn hq)),e1,e2,if_neg (by omega)] at q47t
  have q50:=T50_own hN (sewC C J,sewB C J) (by show (sewC C J).length≤1000000; omega) (fun l hl=>by have:=s3 l hl; omega)
  have q49:=T49_same hN (sewC C J,sewB C J) (by show (sewC C J).length≤1000000; omega) (fun l hl=>by have:=s3 l hl; omega) (by show (sewB C J).length≤1000000; omega)
  have key:=loopR_count (rd:=R10x4090 N C J) (J.length+1) (fun k=>(preC C J k,(k:Int))) (.inr ()) (fun k hk=>R10_round hN C J hq h12 h4 hJ (by omega)) (by
   have hge:decide (((J.length+1:Nat):Int)≤(J.length:Int))=false:=decide_eq_false (by omega)
   simp only [R10x4090,List.length_map,hge,cond_false]) N 0 (Nat.zero_le _) (by unfold Big at hN; omega)
  have key':loopR (R10x4090 N C J) N (-1,0)=some (.inr ()):=key
  have f127:allFit (Pat.fits p127) []=true:=rfl
  have g127:List.map d127 ([]:List AV)=[]:=rfl
  simp only [fa115,md115,fa129,md129,fa127,md127,Bool.and_true,Bool.and_self,cond_true,cond_false,Option.bind_some,q32,hbt,Bool.not_true,List.length_map,g4,g8,q38,hbb,q35,f127,g127,qt,q34,q47,q47t,fa53,md53,fa46,md46,q50,sl53,sl46,fa63,md63,q49,key',Sum.elim_inr,T16_eq]
 ·have h1:((bif !b then some true else bif decide ((C.length:Int) > 4) then some true else bif decide ((J.length:Int) > 8) then some true else some (chkQ C J != 0)):Option Bool)=some true:=by
   cases b with
   | false=>rfl
   | true=>
    by_cases h4:C.length≤4
    ·by_cases h8:J.length≤8
     ·have hq:chkQ C J≠0:=fun c=>hgo ⟨rfl,h4,h8,c⟩
      have g4:decide ((C.length:Int) > 4)=false:=decide_eq_false (by omega)
      have g8:decide ((J.length:Int) > 8)=false:=decide_eq_false (by omega)
      have gq:(chkQ C J != 0)=true:=bne_iff_ne.2 hq
      rw [g4,g8,gq]; rfl
     ·have g8:decide ((J.length:Int) > 8)=true:=decide_eq_true (by omega)
      rw [g8]
      cases decide ((C.length:Int) > 4) <;> rfl
    ·have g4:decide ((C.length:Int) > 4)=true:=decide_eq_true (by omega)
     rw [g4]; rfl
  simp only [fa115,md115,fa129,md129,Bool.and_true,Bool.and_self,cond_true,Option.bind_some,q32,List.length_map,q38,h1,T16_eq]
end
end Go.Proofs.YtfiopgedfcaodaaGreatDoor
