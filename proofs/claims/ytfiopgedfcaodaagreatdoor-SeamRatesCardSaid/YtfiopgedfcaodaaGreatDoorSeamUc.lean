/- Plain laws: the pieces of a text,groups,rates read. -/
import Derived.Test.YtfiopgedfcaodaaGreatDoorSeamUb
set_option linter.all false
namespace Go.Proofs.YtfiopgedfcaodaaGreatDoor
open Go Go.Am
set_option maxRecDepth 100000
def spF (c:UInt8) (s:List UInt8) (x:List (List UInt8) × Nat) (k:Nat):List (List UInt8) × Nat:=if s.getD k 0=c then (x.1++[(s.take k).drop x.2],k+1) else x
def preL (p:List UInt8):List (List UInt8)→List (List UInt8)
 | []=>[p]
 | x :: xs=>(p++x) :: xs
theorem splitL_cons (c b:UInt8) (s:List UInt8):splitL c (b :: s)=if b=c then [] :: splitL c s else preL [b] (splitL c s):=by
 rw [splitL]
 split
 ·rfl
 ·cases splitL c s <;> rfl
theorem preL_app (p q:List UInt8) (l:List (List UInt8)):preL p (preL q l)=preL (p++q) l:=by
 cases l <;> simp [preL]
theorem preL_nil {l:List (List UInt8)} (h:l≠[]):preL [] l=l:=by
 cases l with
 | nil=>exact absurd rfl h
 | cons x l=>rfl
theorem spF_all (c:UInt8) (s:List UInt8):∀ (j k:Nat) (x:List (List UInt8) × Nat),k+j=s.length→x.2≤k →
  (((List.range s.length).drop k).foldl (spF c s) x).1++[s.drop (((List.range s.length).drop k).foldl (spF c s) x).2]=x.1++preL ((s.take k).drop x.2) (splitL c (s.drop k))
 | 0,k,x,hk,hx=>by
  have e1:(List.range s.length).drop k=[]:=List.drop_eq_nil_of_le (by simp; omega)
  have e2:s.drop k=[]:=List.drop_eq_nil_of_le (by omega)
  have e3:s.take k=s:=List.take_of_length_le (by omega)
  rw [e1,e2,e3]
  simp [splitL,preL]
 | j+1,k,x,hk,hx=>by
  have hlt:k < s.length:=by omega
  have hlt':k < (List.range s.length).length:=by simpa using hlt
  have ih:=spF_all c s j (k+1) (spF c s x k) (by omega) (by unfold spF; split; exact Nat.le_refl _; omega)
  rw [List.drop_eq_getElem_cons hlt',List.foldl_cons,List.getElem_range,ih,List.drop_eq_getElem_cons hlt,splitL_cons]
  unfold spF
  rw [getD_at s hlt]
  by_cases h:s[k]=c
  ·rw [if_pos h,if_pos h]
   have e1:(s.take (k+1)).drop (k+1)=[]:=List.drop_eq_nil_of_le (by simp; omega)
   rw [e1,preL_nil (splitL_ne _ _)]
   simp [preL]
  ·rw [if_neg h,if_neg h,preL_app]
   have e1:(s.take (k+1)).drop x.2=(s.take k).drop x.2++[s[k]]:=by
    rw [List.take_add_one,List.getElem?_eq_getElem hlt]
    rw [List.drop_append_of_le_length (by simp; omega)]
    rfl
   rw [e1]
theorem spF_len (c:UInt8) (s:List UInt8) (x:List (List UInt8) × Nat) (k:Nat) (h1:x.2≤k) (h2:x.1.length≤k):(spF c s x k).2≤k+1∧(spF c s x k).1.length≤k+1:=by
 unfold spF
 split
 ·simp; omega
 ·omega
theorem T155_split (m:Int) {N:Nat} (hN:Big N) (s:List UInt8) (c:UInt8) (a1:Int) (ha:a1=(c.toNat:Int)) (hs:s.length≤1000000):T155 m N (s,a1)=some (splitL c s):=by
 rw [T155_eq]
 have hc:∀ b:UInt8,(((b.toNat:Nat):Int) == a1)=decide (b=c):=fun b=>by
  rw [ha]
  by_cases h:b=c
  ·subst h; simp
  ·have:¬ ((b.toNat:Nat):Int)=(c.toNat:Int):=fun e=>h (UInt8.toNat_inj.1 (by omega))
   simp [h,this]
 have key:=loopR_foldl (rd:=R155x122 m N s a1) (List.range s.length) (fun (x:List (List UInt8) × Nat) k=>(x.1,((x.2:Nat):Int),(k:Int))) (spF c s) (fun x=>(x.1,((x.2:Nat):Int))) (fun x k=>x.2≤k∧x.1.length≤k∧k≤s.length)
  (fun x k hk hP=>by
   obtain ⟨p1,p2,_⟩:=hP
   rw [List.length_range] at hk
   rw [List.getElem_range]
   have hl:=spF_len c s x k p1 p2
   refine ⟨?_,hl.1,hl.2,hk⟩
   have c1:decide ((0:Int)≤(k:Int)∧(k:Int) < (s.length:Int))=true:=in_range hk
   have c2:decide ((0:Int)≤(k:Int)∧(k:Int)≤(s.length:Int))=true:=decide_eq_true (by omega)
   have c3:decide ((0:Int)≤(x.2:Int)∧(x.2:Int)≤(k:Int))=true:=decide_eq_true (by omega)
   have c4:decide ((x.1.length+1) * 16≤140737488355328)=true:=decide_eq_true (by omega)
   simp only [R155x122,List.length_map,Int.toNat_natCast,lt_range hk,c1,c2,c3,c4,cond_true,hc,Bool.and_self,snoc9,fa9,md9,Bool.and_true,Option.bind_some,decide_true]
   unfold spF subA
   by_cases h:s.getD k 0=c
   ·rw [if_pos h,decide_eq_true h,cond_true]
    simp only [List.length_append,List.length_singleton,decide_true,cond_true,Option.bind_some,w_succ (show k < 9223372036854775807 by omega),fa9,md9]
   ·rw [if_neg h,decide_eq_false h,cond_false]
    simp only [Option.bind_some,w_succ (show k < 9223372036854775807 by omega),fa9,md9,cond_true,decide_true]) (fun x hP=>by
   simp only [R155x122,List.length_range,List.length_map,ge_range,cond_false,fa9,md9,Bool.and_true,cond_true,Option.bind_some,decide_true]) N ([],0) 0 (Nat.zero_le _) (by rw [List.length_range]; unfold Big at hN; omega) ⟨Nat.le_refl _,Nat.le_refl _,Nat.zero_le _⟩
 rw [List.drop_zero] at key
 have key':loopR (R155x122 m N s a1) N (([]:List (List UInt8)),0,0)=_:=key
 have hall:=spF_all c s s.length 0 ([],0) (by omega) (Nat.le_refl _)
 rw [List.drop_zero] at hall
 have z1:(bif (allFit (Pat.fits p9) ([]:List AV)&&true) then some ((List.map d9 ([]:List AV)),(0:Int),(0:Int)) else none:Option ((List (List UInt8)) × Int × Int))=some ([],0,0):=rfl
 rw [z1,Option.bind_some]
 have z2:(bif (decide (0=(List.map n9 (([]:List (List UInt8)),(0:Int),(0:Int)).1).length)&&true) then some (([]:List (List UInt8)),(0:Int),(0:Int)) else none)=some ([],0,0):=rfl
 rw [z2,Option.bind_some,key',Option.bind_some]
 have hfin:∀ j,j≤s.length→(((List.range s.length).take j).foldl (spF c s) ([],0)).2≤j∧(((List.range s.length).take j).foldl (spF c s) ([],0)).1.length≤j:=by
  intro j
  induction j with
  | zero=>intro _; exact ⟨Nat.le_refl _,Nat.le_refl _⟩
  | succ j ih=>
   intro hj
   have:=ih (by omega)
   rw [List.take_add_one,List.getElem?_eq_getElem (by simp; omega),List.getElem_range]
   simp only [Option.toList_some,List.foldl_append,List.foldl_cons,List.foldl_nil]
   exact spF_len c s _ j this.1 this.2
 have hf:=hfin s.length (Nat.le_refl _)
 rw [List.take_of_length_le (by simp)] at hf
 obtain ⟨f1,f2⟩:=hf
 generalize List.foldl (spF c s) ([],0) (List.range s.length)=X at *
 have c1:decide ((0:Int)≤((X.2:Nat):Int)∧((X.2:Nat):Int)≤((s.length:Nat):Int))=true:=decide_eq_true (by omega)
 have c4:decide ((X.1.length+1) * 16≤140737488355328)=true:=decide_eq_true (by omega)
 simp only [List.length_map,c1,c4,cond_true,decide_true,Bool.and_self,Int.toNat_natCast,snoc9,fa9,md9]
 congr 1
 unfold subA
 rw [List.take_of_length_le (Nat.le_refl _),hall,List.nil_append]
 show preL [] (splitL c s)=_
 exact preL_nil (splitL_ne _ _)
theorem splitL_cut (c:UInt8):∀ s:List UInt8,splitL c s=if (cutL c s).2.2=true then (cutL c s).1 :: splitL c (cutL c s).2.1 else [s]
 | []=>rfl
 | b :: s=>by
  rw [splitL_cons,cutL]
  by_cases h:b=c
  ·rw [if_pos h,if_pos h]; rfl
  ·rw [if_neg h,if_neg h,splitL_cut c s]
   simp only
   split <;> rfl
theorem cutL_len (c:UInt8):∀ s:List UInt8,(cutL c s).1.length≤s.length∧(cutL c s).2.1.length≤s.length
 | []=>⟨Nat.le_refl _,Nat.le_refl _⟩
 | b :: s=>by
  have:=cutL_len c s
  rw [cutL]
  split
  ·simp
  ·simp; omega
theorem splitL_lenc (c:UInt8):∀ s:List UInt8,(splitL c s).length=s.count c+1
 | []=>rfl
 | b :: s=>by
  have ih:=splitL_lenc c s
  rw [splitL_cons]
  by_cases h:b=c
  ·subst h; simp [ih]
  ·rw [if_neg h,List.count_cons_of_ne h,← ih]
   have:=splitL_ne c s
   cases hs:splitL c s with
   | nil=>exact absurd hs this
   | cons x l=>rfl
theorem splitL_mem (c:UInt8):∀ (s:List UInt8) (w:List UInt8),w∈splitL c s→w.length≤s.length
 | [],w,h=>by simp [splitL] at h; subst h; exact Nat.le_refl _
 | b :: s,w,h=>by
  have ih:=splitL_mem c s
  rw [splitL_cons] at h
  by_cases hb:b=c
  ·rw [if_pos hb] at h
   rcases List.mem_cons.1 h with rfl | h
   ·simp
   ·have:=ih w h; simp; omega
  ·rw [if_neg hb] at h
   cases hs:splitL c s with
   | nil=>exact absurd hs (splitL_ne c s)
   | cons x l=>
    rw [hs] at h ih
    rcases List.mem_cons.1 h with rfl | h
    ·have:=ih x List.mem_cons_self; simp; omega
    ·have:=ih w (List.mem_cons_of_mem _ h); simp; omega
theorem num_no120 {s:List UInt8} {n:Int} (h:numB s=some n):s.count 120=0:=by
 have hb:=(numB_in h).2.2.2.2.1
 rw [List.count_eq_zero]
 intro hm
 obtain ⟨k,hk,e⟩:=List.getElem_of_mem hm
 have:=of_decide_eq_false (hb k hk)
 rw [getD_at s hk,e] at this
 exact this (.inr (.inl (by decide)))
def grp (w:List UInt8):Option (Int × Int):=if (cutL 120 w).2.2=true then (match numB (cutL 120 w).1,numB (cutL 120 w).2.1 with | some a,some b=>some (a,b) | _,_=>none) else none
theorem grp_in {w:List UInt8} {a b:Int} (h:grp w=some (a,b)):1≤a∧a≤999999999∧1≤b∧b≤999999999:=by
 unfold grp at h
 split at h
 ·cases h1:numB (cutL 120 w).1 with
  | none=>rw [h1] at h; cases h
  | some x=>
   cases h2:numB (cutL 120 w).2.1 with
   | none=>rw [h1,h2] at h; cases h
   | some y=>
    rw [h1,h2] at h
    cases h
    have:=numB_in h1
    have:=numB_in h2
    omega
 ·cases h
theorem T156_grp (m:Int) {N:Nat} (hN:Big N) (w:List UInt8) (hw:w.length≤1000000):∃ y,T156 m N w=some y∧(∀ a b,grp w=some (a,b)→y=(a,b,true))∧(grp w=none→y.2.2=false):=by
 rw [T156_eq,T155_split m hN w 120 120 rfl hw,Option.bind_some]
 have hcut:=splitL_cut 120 w
 have hlen:=cutL_len 120 w
 unfold grp
 by_cases hf:(cutL 120 w).2.2=true
 ·rw [if_pos hf] at hcut
  rw [if_pos hf]
  by_cases h1:(cutL 120 w).2.1.count 120=0
  ·rw [splitL_count0 _ _ h1] at hcut
   rw [hcut]
   obtain ⟨y1,e1,g1,n1⟩:=T184_num m hN (cutL 120 w).1 (by omega)
   obtain ⟨y2,e2,g2,n2⟩:=T184_num m hN (cutL 120 w).2.1 (by omega)
   obtain ⟨q1,q2⟩:=at9 [(cutL 120 w).1,(cutL 120 w).2.1] (show 0 < 2 by omega)
   obtain ⟨q3,q4⟩:=at9 [(cutL 120 w).1,(cutL 120 w).2.1] (show 1 < 2 by omega)
   have q1':d9 (nthD (List.map n9 [(cutL 120 w).1,(cutL 120 w).2.1]) 0)=(cutL 120 w).1:=q1
   have q3':d9 (nthD (List.map n9 [(cutL 120 w).1,(cutL 120 w).2.1]) 1)=(cutL 120 w).2.1:=q3
   have b0:((((List.map n9 [(cutL 120 w).1,(cutL 120 w).2.1]).length:Nat):Int) != 2)=false:=rfl
   have b1:decide ((0:Int)≤0∧0 < (((List.map n9 [(cutL 120 w).1,(cutL 120 w).2.1])).length:Int))=true:=rfl
   have b2:decide ((0:Int)≤1∧1 < (((List.map n9 [(cutL 120 w).1,(cutL 120 w).2.1])).length:Int))=true:=rfl
   rw [b0,b1,b2]
   simp only [cond_false,show Int.toNat 0=0 from rfl,show Int.toNat 1=1 from rfl,q1',q2,q3',q4,Bool.and_self,cond_true,e1,e2,Option.bind_some,beq_self_eq_true]
   by_cases p1:y1 > 0
   ·refine ⟨(y1,y2,decide (y2 > 0)),?_,?_,?_⟩
    ·simp only [p1,decide_true,cond_true,Option.bind_some]
    ·intro a b h
     cases h1:numB (cutL 120 w).1 with
     | none=>exact absurd p1 (n1 h1)
     | some x=>
      cases h2:numB (cutL 120 w).2.1 with
      | none=>rw [h1,h2] at h; cases h
      | some y=>
       rw [h1,h2] at h
       cases h
       have p2:=(numB_in h2).1
       rw [g1 _ h1,g2 _ h2,decide_eq_true (by omega)]
    ·intro h
     cases h1:numB (cutL 120 w).1 with
     | none=>exact absurd p1 (n1 h1)
     | some x=>
      cases h2:numB (cutL 120 w).2.1 with
      | none=>exact decide_eq_false (n2 h2)
      | some y=>rw [h1,h2] at h; cases h
   ·refine ⟨(y1,y2,false),?_,?_,fun _=>rfl⟩
    ·simp only [p1,decide_false,cond_false,Option.bind_some]
    ·intro a b h
     cases h1:numB (cutL 120 w).1 with
     | none=>rw [h1] at h; cases h
     | some x=>
      have p2:=(numB_in h1).1
      rw [g1 _ h1] at p1
      omega
  ·have hl:(splitL 120 w).length≥3:=by
    rw [hcut,List.length_cons,splitL_lenc]; omega
   have b0:((((List.map n9 (splitL 120 w)).length:Nat):Int) != 2)=true:=bne_iff_ne.2 (by rw [List.length_map]; omega)
   rw [b0,cond_true]
   refine ⟨(0,0,false),rfl,?_,fun _=>rfl⟩
   intro a b h
   cases h1:numB (cutL 120 w).1 with
   | none=>rw [h1] at h; cases h
   | some x=>
    cases h2:numB (cutL 120 w).2.1 with
    | none=>rw [h1,h2] at h; cases h
    | some y=>have:=num_no120 h2; omega
 ·rw [if_neg hf] at hcut
  rw [if_neg hf,hcut]
  exact ⟨(0,0,false),rfl,(fun _ _ h=>by cases h),fun _=>rfl⟩
end Go.Proofs.YtfiopgedfcaodaaGreatDoor
