/- Plain laws: pairs out of runs,their runs,turned round. -/
import Derived.Test.YtfiopgedfcaodaaGreatDoorSeamUe
import Derived.Test.YtfiopgedfcaodaaGreatDoorSeamSh
set_option linter.all false
namespace Go.Proofs.YtfiopgedfcaodaaGreatDoor
open Go Go.Am
set_option maxRecDepth 100000
def blkL:Int→List Int→List Int
 | _,[]=>[]
 | i,x :: l=>List.replicate x.toNat i++blkL (i+1) l
def prsL (B:List Int):List (Int × Int):=(List.range B.length).map fun k=>(B.getD k 0,((k:Nat):Int))
theorem prsL_len (B:List Int):(prsL B).length=B.length:=by simp [prsL]
theorem prsL_get (B:List Int) {k:Nat} (hk:k < B.length):(prsL B).getD k (0,0)=(B.getD k 0,(k:Int)):=by
 simp [prsL,hk]
theorem getD_app (a b:List Int) (k:Nat):(a++b).getD k 0=if k < a.length then a.getD k 0 else b.getD (k - a.length) 0:=by
 simp only [List.getD_eq_getElem?_getD]
 split
 ·rename_i h; rw [List.getElem?_append_left h]
 ·rename_i h; rw [List.getElem?_append_right (by omega)]
theorem getD_rep (n:Nat) (i:Int) {k:Nat} (h:k < n):(List.replicate n i).getD k 0=i:=by simp [h]
theorem prsL_rep (B:List Int) (v:Int) (n:Nat):prsL (B++List.replicate n v)=prsL B++(List.range n).map fun t=>(v,((B.length+t:Nat):Int)):=by
 unfold prsL
 rw [List.length_append,List.length_replicate,List.range_add,List.map_append,List.map_map]
 congr 1
 ·apply List.map_congr_left
  intro k hk
  rw [getD_app,if_pos (List.mem_range.1 hk)]
 ·apply List.map_congr_left
  intro t ht
  show ((B++List.replicate n v).getD (B.length+t) 0,((B.length+t:Nat):Int))=_
  rw [getD_app,if_neg (by omega),show B.length+t - B.length=t by omega,getD_rep _ _ (List.mem_range.1 ht)]
theorem blkL_snoc:∀ (l:List Int) (i x:Int),blkL i (l++[x])=blkL i l++List.replicate x.toNat (i+(l.length:Int))
 | [],i,x=>by simp [blkL]
 | y :: l,i,x=>by
  rw [List.cons_append,blkL,blkL_snoc l (i+1) x,blkL,List.append_assoc,List.length_cons]
  congr 3
  omega
theorem fromR_blk (l:List Int):fromR l=prsL (blkL 0 l):=by
 have gen:∀ j,j≤l.length→(List.range j).foldl (fun acc i=>addJ i acc (l.getD i 0).toNat) []=prsL (blkL 0 (l.take j)):=by
  intro j
  induction j with
  | zero=>intro _; rfl
  | succ j ih=>
   intro hj
   have hlt:j < l.length:=by omega
   rw [List.range_succ,List.foldl_append,ih (by omega),List.foldl_cons,List.foldl_nil]
   have et:l.take (j+1)=l.take j++[l.getD j 0]:=by
    rw [List.take_add_one,List.getElem?_eq_getElem hlt]
    simp [hlt]
   have el:(l.take j).length=j:=by rw [List.length_take]; omega
   rw [et,blkL_snoc,prsL_rep,el]
   unfold addJ
   rw [prsL_len,Int.zero_add]
 have:=gen l.length (Nat.le_refl _)
 rw [List.take_of_length_le (Nat.le_refl _)] at this
 exact this
theorem blkL_len:∀ (l:List Int) (i:Int),(∀ x∈l,1≤x)→((blkL i l).length:Int)=l.sum
 | [],_,_=>rfl
 | x :: l,i,h=>by
  have ih:=blkL_len l (i+1) fun y hy=>h y (List.mem_cons_of_mem _ hy)
  have hx:=h x List.mem_cons_self
  rw [blkL,List.length_append,List.length_replicate,List.sum_cons]
  omega
theorem blkL_head (l:List Int) (i:Int) (h:∀ x∈l,1≤x) (hl:1≤l.length):(blkL i l).getD 0 0=i:=by
 cases l with
 | nil=>simp at hl
 | cons x l=>
  have hx:=h x List.mem_cons_self
  rw [blkL,getD_app,List.length_replicate,if_pos (by omega),getD_rep _ _ (by omega)]
theorem blkL_step:∀ (l:List Int) (i:Int),(∀ x∈l,1≤x)→∀ k,k+1 < (blkL i l).length→(blkL i l).getD (k+1) 0=(blkL i l).getD k 0∨(blkL i l).getD (k+1) 0=(blkL i l).getD k 0+1
 | [],_,_,k,hk=>by simp [blkL] at hk
 | x :: l,i,h,k,hk=>by
  have hx:=h x List.mem_cons_self
  have h':∀ y∈l,1≤y:=fun y hy=>h y (List.mem_cons_of_mem _ hy)
  rw [blkL,List.length_append,List.length_replicate] at hk
  rw [blkL,getD_app,getD_app,List.length_replicate]
  by_cases c1:k+1 < x.toNat
  ·rw [if_pos c1,if_pos (by omega),getD_rep _ _ c1,getD_rep _ _ (by omega)]
   exact .inl rfl
  ·rw [if_neg c1]
   by_cases c2:k < x.toNat
   ·rw [if_pos c2,getD_rep _ _ c2,show k+1 - x.toNat=0 by omega]
    have hl:1≤l.length:=by
     cases l with
     | nil=>simp [blkL] at hk; omega
     | cons y l=>simp
    rw [blkL_head l (i+1) h' hl]
    exact .inr rfl
   ·rw [if_neg c2,show k+1 - x.toNat=k - x.toNat+1 by omega]
    exact blkL_step l (i+1) h' _ (by omega)
theorem blkL_rev:∀ (l:List Int) (i A:Int),(blkL i l).reverse.map (fun b=>A - b)=blkL (A - i - (l.length:Int)+1) l.reverse
 | [],_,_=>rfl
 | x :: l,i,A=>by
  rw [blkL,List.reverse_append,List.map_append,blkL_rev l (i+1) A,List.reverse_cons,blkL_snoc,List.reverse_replicate,List.map_replicate,List.length_cons,List.length_reverse]
  congr 2 <;> omega
theorem blkL_last (l:List Int) (h:∀ x∈l,1≤x) (hl:1≤l.length):(blkL 0 l).getD ((blkL 0 l).length - 1) 0=(l.length:Int) - 1:=by
 have h1:=blkL_rev l 0 ((l.length:Int) - 1)
 have h2:=blkL_head l.reverse ((l.length:Int) - 1 - 0 - (l.length:Int)+1) (fun x hx=>h x (List.mem_reverse.1 hx)) (by rw [List.length_reverse]; exact hl)
 rw [← h1] at h2
 have hlen:=blkL_len l 0 h
 have hs:l.sum≥1:=by
  cases l with
  | nil=>simp at hl
  | cons x l=>
   have:=(mem_le_sum l fun y hy=>h y (List.mem_cons_of_mem _ hy)).1
   have:=h x List.mem_cons_self
   rw [List.sum_cons]; omega
 have hpos:0 < (blkL 0 l).length:=by omega
 rw [List.getD_eq_getElem?_getD,List.getElem?_map,List.getElem?_reverse hpos] at h2
 rw [List.getD_eq_getElem?_getD]
 have e:(blkL 0 l)[(blkL 0 l).length - 1]?=some ((blkL 0 l)[(blkL 0 l).length - 1]'(by omega)):=List.getElem?_eq_getElem _
 rw [Nat.sub_zero,e] at h2
 rw [e]
 simp only [Option.map_some,Option.getD_some] at h2 ⊢
 omega
section
variable (B:List Int) (hst:∀ k,k+1 < B.length→B.getD (k+1) 0=B.getD k 0∨B.getD (k+1) 0=B.getD k 0+1)
include hst
theorem stairs (j:Nat):∀ d,j+d < B.length→B.getD j 0≤B.getD (j+d) 0∧B.getD (j+d) 0≤B.getD j 0+(d:Int):=by
 intro d
 induction d with
 | zero=>intro _; simp
 | succ d ih=>
  intro h
  have h1:=ih (by omega)
  have h2:=hst (j+d) (by omega)
  rw [show j+(d+1)=j+d+1 by omega]
  omega
theorem chkJ_prs (n:Nat) (hn:1≤n) (hnB:n≤B.length) (hB:B.length≤256) (h0:B.getD 0 0=0) (hl:B.getD (B.length - 1) 0=(n:Int) - 1):chkJ (n:Int) (B.length:Int) (prsL B)=0:=by
 have hin:∀ k,k < B.length→0≤B.getD k 0∧B.getD k 0≤(n:Int) - 1∧(n=B.length→B.getD k 0=(k:Int)):=fun k hk=>by
  have s1:=stairs B hst 0 k (by omega)
  have s2:=stairs B hst k (B.length - 1 - k) (by omega)
  rw [Nat.zero_add] at s1
  rw [show k+(B.length - 1 - k)=B.length - 1 by omega] at s2
  omega
 unfold chkJ
 have hc:chkM (n:Int) (B.length:Int)=0:=chkM_nat hn (by omega) (by omega) hB
 rw [if_neg (by rw [hc]; simp),prsL_len,if_neg (by unfold lng; split <;> omega)]
 have he:firstNZ ((List.range B.length).map (errJ (n:Int) (B.length:Int) (prsL B)))=0:=by
  rw [firstNZ_zero]
  intro e he
  obtain ⟨k,hk,rfl⟩:=List.mem_map.1 he
  have hk:=List.mem_range.1 hk
  have q:=hin k hk
  unfold errJ
  rw [prsL_get B hk]
  simp only
  rw [if_neg (by omega)]
  by_cases hk0:k=0
  ·subst hk0
   rw [if_pos rfl,h0]
   rfl
  ·rw [if_neg hk0,prsL_get B (show k - 1 < B.length by omega)]
   have q1:=hin (k - 1) (by omega)
   have s:=hst (k - 1) (by omega)
   rw [show k - 1+1=k by omega] at s
   generalize B.getD k 0=x1 at *
   generalize B.getD (k - 1) 0=x0 at *
   have hf:fol (n:Int) (B.length:Int) (x0,((k - 1:Nat):Int)) (x1,(k:Int))=true:=by
    unfold fol
    simp only
    rw [w64 (x:=x1 - x0) (by omega),w64 (x:=(k:Int) - ((k - 1:Nat):Int)) (by omega)]
    simp only [Bool.and_eq_true,Bool.or_eq_true,beq_iff_eq,decide_eq_true_eq]
    refine ⟨?_,.inl (by omega)⟩
    by_cases h:n=B.length
    ·left; have:=q.2.2 h; have:=q1.2.2 h; omega
    ·rcases s with s | s
     ·right; omega
     ·left; omega
   rw [hf]
   rfl
 rw [he,if_neg (by simp),prsL_get B (show B.length - 1 < B.length by omega),hl]
 have e2:((B.length - 1:Nat):Int)=(B.length:Int) - 1:=by omega
 rw [e2]
 simp
end
theorem bump_rep (pre z:List Int):∀ (n:Nat) (v:Int),0≤v→v+n≤100000→(List.replicate n ((pre.length:Nat):Int)).foldl bump (pre++v :: z)=pre++(v+n) :: z
 | 0,v,_,_=>by simp
 | n+1,v,h1,h2=>by
  rw [List.replicate_succ,List.foldl_cons]
  have e:bump (pre++v :: z) ((pre.length:Nat):Int)=pre++(v+1) :: z:=by
   unfold bump
   have g:(pre++v :: z).getD pre.length 0=v:=by simp
   rw [Int.toNat_natCast,g,w64 (by omega)]
   simp
  rw [e,bump_rep pre z n (v+1) (by omega) (by omega)]
  congr 2
  omega
theorem bump_blk:∀ (l pre:List Int),(∀ x∈l,0≤x∧x≤256)→(blkL ((pre.length:Nat):Int) l).foldl bump (pre++List.replicate l.length 0)=pre++l
 | [],pre,_=>by simp [blkL]
 | x :: l,pre,h=>by
  have hx:=h x List.mem_cons_self
  rw [blkL,List.foldl_append,List.length_cons,List.replicate_succ,bump_rep pre _ _ 0 (by omega) (by omega)]
  have e:(0:Int)+(x.toNat:Int)=x:=by omega
  have ih:=bump_blk l (pre++[x]) fun y hy=>h y (List.mem_cons_of_mem _ hy)
  rw [List.length_append,List.length_singleton,List.append_assoc,List.append_assoc] at ih
  rw [e,show ((pre.length:Nat):Int)+1=((pre.length+1:Nat):Int) by omega]
  exact ih
theorem runsF_blk (l:List Int) (h:∀ x∈l,0≤x∧x≤256) (S:Int) (hS:(l.length:Int)≤S):runsF (l.length:Int) S (prsL (blkL 0 l))=l:=by
 unfold runsF
 have hsh:shN (l.length:Int) S=l.length:=by unfold shN; split <;> omega
 have hf:(fun (s:List Int) (p:Int × Int)=>bump s (if (l.length:Int) > S then p.2 else p.1))=fun s p=>bump s p.1:=by
  funext s p
  rw [if_neg (by omega)]
 rw [hf,hsh]
 have e:(prsL (blkL 0 l)).foldl (fun s p=>bump s p.1) (List.replicate l.length 0)=(blkL 0 l).foldl bump (List.replicate l.length 0):=by
  have em:(prsL (blkL 0 l)).map Prod.fst=blkL 0 l:=by
   apply List.ext_getElem
   ·simp [prsL]
   ·intro k h1 h2
    simp [prsL,h2]
  conv=>rhs; rw [← em]
  rw [List.foldl_map]
 rw [e]
 have:=bump_blk l [] h
 simpa using this
theorem prs_rev (B:List Int) (n:Int) (hB:B.length≤256) (h1:1≤n) (h2:n≤256) (hb:∀ x∈B,0≤x∧x≤n):revJ n (B.length:Int) (prsL B)=prsL (B.reverse.map fun b=>n - 1 - b):=by
 unfold revJ
 apply List.ext_getElem
 ·simp [prsL]
 ·intro k hk1 hk2
  have hk:k < B.length:=by simpa [prsL] using hk1
  have hk':B.length - 1 - k < B.length:=by omega
  have hx:=hb _ (List.getElem_mem hk')
  simp only [List.getElem_map,List.getElem_reverse,prsL,List.length_map,List.length_range,List.getElem_range,List.getD_eq_getElem?_getD,List.getElem?_map,List.getElem?_eq_getElem (show k < B.reverse.length by rw [List.length_reverse]; exact hk),Option.map_some,Option.getD_some,List.getElem?_eq_getElem hk']
  rw [w64 (x:=n - 1) (by omega),w64 (x:=(B.length:Int) - 1) (by omega),w64 (by omega),w64 (by omega)]
  congr 1
  omega
end Go.Proofs.YtfiopgedfcaodaaGreatDoor
