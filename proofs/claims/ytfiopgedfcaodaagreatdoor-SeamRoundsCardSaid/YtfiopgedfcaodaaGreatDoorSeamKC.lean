/- Plain laws: bars and nets are checked. -/
import Derived.Test.YtfiopgedfcaodaaGreatDoorSeamKB
import Derived.Test.YtfiopgedfcaodaaGreatDoorSeamTg
import Derived.Test.YtfiopgedfcaodaaGreatDoorAmKL
import Derived.Test.YtfiopgedfcaodaaGreatDoorAmKK
import Derived.Test.YtfiopgedfcaodaaGreatDoorSeamTh
import Derived.Test.YtfiopgedfcaodaaGreatDoorSeamTi
import Derived.Test.YtfiopgedfcaodaaGreatDoorSeamKA
set_option linter.all false
namespace Go.Proofs.YtfiopgedfcaodaaGreatDoor
open Go Go.Am
set_option maxRecDepth 100000
def upK (b:P3):Int × Int:=(IntKind.wrap .i64 (b.1+b.2.2),IntKind.wrap .i64 (b.2.1+1))
def loK (b:P3):Int × Int:=(b.1,b.2.1)
def chkB (b:P3):Int:=if knotErr (loK b)≠0 then knotErr (loK b) else if b.2.2≠-1∧b.2.2≠1 then 13 else knotErr (upK b)
def less (a b:P3):Bool:=if a.2.1≠b.2.1 then decide (a.2.1 < b.2.1) else if a.1≠b.1 then decide (a.1 < b.1) else decide (a.2.2 < b.2.2)
def errN (l:List P3) (k:Nat):Int:=if chkB (l.getD k (0,0,0))≠0 then chkB (l.getD k (0,0,0)) else if 0 < k∧less (l.getD (k - 1) (0,0,0)) (l.getD k (0,0,0))=false then 11 else 0
def chkN (l:List P3):Int:=if l.length > 4096 then 5 else firstNZ ((List.range l.length).map (errN l))
end Go.Proofs.YtfiopgedfcaodaaGreatDoor
namespace Go.Proofs.YtfiopgedfcaodaaGreatDoor
open Go Go.Am Go.Sort
set_option maxRecDepth 100000
def flatK2:List P3→List (Int × Int)
 | []=>[]
 | b :: l=>loK b :: upK b :: flatK2 l
theorem flat_len:∀ l:List P3,(flatK2 l).length=2 * l.length
 | []=>rfl
 | b :: l=>by rw [flatK2,List.length_cons,List.length_cons,flat_len l,List.length_cons]; omega
theorem flat_get:∀ (l:List P3) (k:Nat) (h:k / 2 < l.length) (h2:k < (flatK2 l).length),(flatK2 l)[k]=if k % 2=0 then loK l[k / 2] else upK l[k / 2]
 | [],k,h,_=>absurd h (Nat.not_lt_zero _)
 | b :: l,0,_,_=>rfl
 | b :: l,1,_,_=>rfl
 | b :: l,k+2,h,h2=>by
  have e:(k+2) / 2=k / 2+1:=by omega
  have e2:(k+2) % 2=k % 2:=by omega
  have hl:k / 2 < l.length:=by rw [e,List.length_cons] at h; omega
  have hl2:k < (flatK2 l).length:=by rw [flat_len]; omega
  have ih:=flat_get l k hl hl2
  simp only [e2]
  have g1:(flatK2 (b :: l))[k+2]=(flatK2 l)[k]:=rfl
  have g2:(b :: l)[(k+2) / 2]=l[k / 2]:=by
   have:∀ i (hi:i < (b :: l).length) (hik:i=k / 2+1),(b :: l)[i]=l[k / 2]:=by
    intro i hi hik; subst hik; rfl
   exact this _ h e
  rw [g1,g2,ih]
section
variable {N:Nat} (hN:Big N)
include hN
section
variable (F st:List (Int × Int)) (hn:st.length=F.length) (hF:F.length≤2000000)
include hn hF
omit hN hn hF in
theorem splice_take (s:List AV):∀ (t:Nat) (z:List AV),t+z.length=s.length→(splice s t z).length=s.length∧(splice s t z).take t=s.take t:=by
 induction s with
 | nil=>intro t z h; cases z with
  | nil=>simp [splice]
  | cons y z=>simp at h
 | cons a s ih=>
  intro t z h
  cases z with
  | nil=>simp [splice]
  | cons y z=>
   cases t with
   | zero=>
    simp only [splice,List.length_cons,List.take_zero,and_true]
    have:=ih 0 z (by simp at h ⊢; omega)
    omega
   | succ t=>
    simp only [splice,List.length_cons,List.take_succ_cons]
    have:=ih t (y :: z) (by simp at h ⊢; omega)
    exact ⟨by omega,by rw [this.2]⟩
omit hN hn hF in
theorem splice_cl:∀ (s:List AV) (t:Nat) (z:List AV),closedL s=true→closedL z=true→closedL (splice s t z)=true
 | [],t,[],h1,h2=>by simpa [splice] using h1
 | [],t,y :: z,h1,h2=>rfl
 | a :: s,t,[],h1,h2=>by cases t <;> simpa [splice] using h1
 | a :: s,0,y :: z,h1,h2=>by
  simp only [closedL,Bool.and_eq_true] at h1 h2
  simp only [splice,closedL,Bool.and_eq_true]
  exact ⟨h2.1,splice_cl s 0 z h1.2 h2.2⟩
 | a :: s,t+1,y :: z,h1,h2=>by
  simp only [closedL,Bool.and_eq_true] at h1
  simp only [splice,closedL,Bool.and_eq_true]
  exact ⟨h1.1,splice_cl s t (y :: z) h1.2 h2⟩
end
end
end Go.Proofs.YtfiopgedfcaodaaGreatDoor
namespace Go.Proofs.YtfiopgedfcaodaaGreatDoor
open Go Go.Am Go.Sort
set_option maxRecDepth 100000
section
variable {N:Nat} (hN:Big N)
include hN
end
end Go.Proofs.YtfiopgedfcaodaaGreatDoor
namespace Go.Proofs.YtfiopgedfcaodaaGreatDoor
open Go Go.Am Go.Sort
set_option maxRecDepth 100000
theorem foldl_snocg {α β:Type} (g:α→β):∀ (l:List α) (s:List β),l.foldl (fun s x=>s++[g x]) s=s++l.map g
 | [],s=>by simp
 | a :: l,s=>by rw [List.foldl_cons,foldl_snocg g l]; simp
section
variable {N:Nat} (hN:Big N)
include hN
section
variable (C:List (List P3)) (hC:∀ l∈C,chkN l=0) (hl:C.length≤16)
include hC hl
end
end
end Go.Proofs.YtfiopgedfcaodaaGreatDoor
namespace Go.Proofs.YtfiopgedfcaodaaGreatDoor
open Go Go.Am Go.Sort
set_option maxRecDepth 100000
theorem w3 (x y:Int):((bif allFit (Pat.fits p3) [AV.int .i64 x,AV.int .i64 y] then some (List.map d3 [AV.int .i64 x,AV.int .i64 y]) else none:Option (List Int)))=some [x,y]:=rfl
section
variable {N:Nat} (hN:Big N)
include hN
end
end Go.Proofs.YtfiopgedfcaodaaGreatDoor
namespace Go.Proofs.YtfiopgedfcaodaaGreatDoor
open Go Go.Am Go.Sort
set_option maxRecDepth 100000
def jA (j:Six):P3:=(j.1,j.2.1,j.2.2.1)
def jB (j:Six):P3:=(j.2.2.2.1,j.2.2.2.2.1,j.2.2.2.2.2)
def tied (J:List Six) (p:P3):Bool:=J.any fun j=>decide (jA j=p) || decide (jB j=p)
section
variable {N:Nat} (hN:Big N)
include hN
end
end Go.Proofs.YtfiopgedfcaodaaGreatDoor
namespace Go.Proofs.YtfiopgedfcaodaaGreatDoor
open Go Go.Am Go.Sort
set_option maxRecDepth 100000
section
variable {N:Nat} (hN:Big N)
include hN
section
variable (J:List Six) (S:List P3) (m:List (P3 × Bool)) (hS:S.length≤1000000) (hm:∀ p,(getM p m).getD false=tied J p)
include hS hm
end
end
end Go.Proofs.YtfiopgedfcaodaaGreatDoor
namespace Go.Proofs.YtfiopgedfcaodaaGreatDoor
open Go Go.Am Go.Sort
set_option maxRecDepth 100000
section
variable {N:Nat} (hN:Big N)
include hN
end
end Go.Proofs.YtfiopgedfcaodaaGreatDoor
namespace Go.Proofs.YtfiopgedfcaodaaGreatDoor
open Go Go.Am Go.Sort
set_option maxRecDepth 100000
def ltP (a b:P3):Prop:=a.1 < b.1∨a.1=b.1∧(a.2.2 < b.2.2∨a.2.2=b.2.2∧a.2.1 < b.2.1)
section
variable {N:Nat} (hN:Big N)
include hN
section
variable (S:List P3) (hS:S.length≤131072) (hs:S.Pairwise ltP)
include hS hs
end
end
end Go.Proofs.YtfiopgedfcaodaaGreatDoor
namespace Go.Proofs.YtfiopgedfcaodaaGreatDoor
open Go Go.Am Go.Sort
set_option maxRecDepth 100000
section
variable {N:Nat} (hN:Big N)
include hN
end
end Go.Proofs.YtfiopgedfcaodaaGreatDoor
namespace Go.Proofs.YtfiopgedfcaodaaGreatDoor
open Go Go.Am Go.Sort
set_option maxRecDepth 100000
section
variable {N:Nat} (hN:Big N)
include hN
end
end Go.Proofs.YtfiopgedfcaodaaGreatDoor
namespace Go.Proofs.YtfiopgedfcaodaaGreatDoor
open Go Go.Am
set_option maxRecDepth 100000
def uL (n:Nat) (u:Nat→Nat):List Int:=(List.range n).map fun i=>((u i:Nat):Int)
@[simp] theorem uL_len (n:Nat) (u:Nat→Nat):(uL n u).length=n:=by simp [uL]
section
variable {N:Nat} (hN:Big N) (C:List (List P3)) (B:List (Int × Int)) (hC:C.length≤8192) (hB:B.length≤8192) (hb:∀ b∈B,0≤b.1∧b.1≤b.2∧b.2 < (C.length:Int))
include hN hC hB hb
end
end Go.Proofs.YtfiopgedfcaodaaGreatDoor
namespace Go.Proofs.YtfiopgedfcaodaaGreatDoor
open Go Go.Am Go.Sort
set_option maxRecDepth 100000
def lenI (L:List Nat):List Int:=L.map fun n:Nat=>(n:Int)
def lenC (CL:List (List P3)):List Nat:=CL.map List.length
def famE (CL:List (List P3)):List (Nat × List P3):=(List.range CL.length).map fun c=>(c,CL.getD c [])
theorem unf2 (L:List Nat):unfamL (List.map n2 (lenI L))=L:=by
 unfold unfamL lenI
 rw [List.map_map,List.map_map]
 conv=>rhs; rw [← List.map_id L]
 apply List.map_congr_left
 intro n _
 show ((n:Int)).toNat=n
 exact Int.toNat_natCast n
theorem famL_n2 (L:List Nat):famL L=List.map n2 (lenI L):=by
 unfold famL lenI
 rw [List.map_map]; rfl
theorem faL (L:List Nat):allFit (Pat.fits p2) (famL L)=true:=by rw [famL_n2,fa2]
theorem mdL (L:List Nat):List.map d2 (famL L)=lenI L:=by rw [famL_n2,md2]
@[simp] theorem lenC_len (CL:List (List P3)):(lenC CL).length=CL.length:=by simp [lenC]
@[simp] theorem famE_len (CL:List (List P3)):(famE CL).length=CL.length:=by simp [famE]
section
variable {N:Nat} (hN:Big N)
include hN
end
end Go.Proofs.YtfiopgedfcaodaaGreatDoor
namespace Go.Proofs.YtfiopgedfcaodaaGreatDoor
open Go Go.Am Go.Sort
set_option maxRecDepth 100000
def swpL (l:List (Int × Int)) (k:Nat):List (Int × Int):=(List.range l.length).map fun p=>if p < k∨l.length≤p+k then l.getD (l.length - 1 - p) (0,0) else l.getD p (0,0)
@[simp] theorem swpL_len (l:List (Int × Int)) (k:Nat):(swpL l k).length=l.length:=by simp [swpL]
theorem swpL_get (l:List (Int × Int)) (k:Nat) {p:Nat} (h:p < (swpL l k).length):(swpL l k)[p]=if p < k∨l.length≤p+k then l.getD (l.length - 1 - p) (0,0) else l.getD p (0,0):=by simp [swpL]
theorem swpL_zero (l:List (Int × Int)):swpL l 0=l:=by
 apply List.ext_getElem
 ·simp
 ·intro p h1 h2
  rw [swpL_get,if_neg (by simp at h1; omega)]
  simp [h2]
theorem swpL_rev (l:List (Int × Int)) (k:Nat) (hk:l.length≤2 * k+1):swpL l k=l.reverse:=by
 apply List.ext_getElem
 ·simp
 ·intro p h1 h2
  have hp:p < l.length:=by simpa using h1
  have hq:l.length - 1 - p < l.length:=by omega
  rw [swpL_get,List.getElem_reverse]
  by_cases h:p < k∨l.length≤p+k
  ·rw [if_pos h]; simp [hq]
  ·rw [if_neg h]
   have e:l.length - 1 - p=p:=by omega
   simp [e,hp]
theorem swpL_step (l:List (Int × Int)) (k:Nat) (hk:2 * k+1 < l.length):((swpL l k).set k (l.getD (l.length - 1 - k) (0,0))).set (l.length - 1 - k) (l.getD k (0,0))=swpL l (k+1):=by
 apply List.ext_getElem
 ·simp
 ·intro p h1 h2
  have hp:p < l.length:=by simpa using h2
  rw [swpL_get,List.getElem_set,List.getElem_set]
  by_cases e1:l.length - 1 - k=p
  ·rw [if_pos e1,if_pos (by omega),← e1]
   congr 1; omega
  ·rw [if_neg e1]
   by_cases e2:k=p
   ·rw [if_pos e2,if_pos (by omega),← e2]
   ·rw [if_neg e2,swpL_get]
    by_cases h:p < k∨l.length≤p+k
    ·rw [if_pos h,if_pos (by omega)]
    ·rw [if_neg h,if_neg (by omega)]
theorem splice_all:∀ (s xs:List AV),s.length=xs.length→splice s 0 xs=xs
 | [],[],_=>rfl
 | [],x :: xs,h=>by simp at h
 | a :: s,[],h=>by simp at h
 | a :: s,x :: xs,h=>by
  show x :: splice s 0 xs=x :: xs
  rw [splice_all s xs (by simpa using h)]
theorem set46 (s:List (Int × Int)) (i:Nat) (a b:Int):setN (List.map n46 s) i (AV.agg [AV.int .i64 a,AV.int .i64 b])=List.map n46 (s.set i (a,b)):=by
 rw [setN_eq]
 show (List.map n46 s).set i (n46 (a,b))=_
 rw [List.map_set]
def revJ (m n:Int) (l:List (Int × Int)):List (Int × Int):=l.reverse.map fun p=>(IntKind.wrap .i64 (IntKind.wrap .i64 (m - 1) - p.1),IntKind.wrap .i64 (IntKind.wrap .i64 (n - 1) - p.2))
theorem chkJ_len {m n:Int} {l:List (Int × Int)} (h:chkJ m n l=0):(l.length:Int)=lng m n:=by
 unfold chkJ at h
 split at h
 ·rename_i h0; exact absurd h h0
 ·split at h
  ·cases h
  ·rename_i h1
   exact Decidable.not_not.1 h1
theorem chkJ_pos {m n:Int} {l:List (Int × Int)} (h:chkJ m n l=0):1≤l.length:=by
 have h1:=chkJ_len h
 obtain ⟨h2,h3,h4,h5⟩:=chkM_ok (chkJ_ok h).1
 unfold lng at h1
 split at h1 <;> omega
section
variable {N:Nat} (hN:Big N)
include hN
theorem R26_swap (m n:Int) (l:List (Int × Int)) (hl:l.length≤1000000):loopR (R26x96x6 N l) N (0,(l.length:Int) - 1,m,n,l)=some (m,n,l.reverse):=by
 have key:=loopR_count (rd:=R26x96x6 N l) (l.length / 2) (fun k=>((k:Int),(l.length:Int) - 1 - (k:Int),m,n,swpL l k)) (m,n,l.reverse) (fun k hk=>by
  have hk2:2 * k+1 < l.length:=by omega
  have hka:k < l.length:=by omega
  have hkb:l.length - 1 - k < l.length:=by omega
  have hka':k < (swpL l k).length:=by rw [swpL_len]; exact hka
  have hkb':l.length - 1 - k < (swpL l k).length:=by rw [swpL_len]; exact hkb
  have e:(l.length:Int) - 1 - (k:Int)=((l.length - 1 - k:Nat):Int):=by omega
  obtain ⟨a1,a2⟩:=at46g (swpL l k) hka'
  obtain ⟨b1,b2⟩:=at46g (swpL l k) hkb'
  rw [swpL_get,if_neg (by omega)] at a1
  rw [swpL_get,if_neg (by omega)] at b1
  have hst:=swpL_step l k hk2
  have da:decide (k < l.length)=true:=decide_eq_true hka
  have db:decide (l.length - 1 - k < l.length)=true:=decide_eq_true hkb
  have hlt:decide ((k:Int) < ((l.length - 1 - k:Nat):Int))=true:=decide_eq_true (by omega)
  have hw:IntKind.wrap .i64 (((l.length - 1 - k:Nat):Int) - 1)=(l.length:Int) - 1 - ((k+1:Nat):Int):=by rw [w64 (by omega)]; omega
  rw [e]
  simp only [R26x96x6,List.length_map,Int.toNat_natCast,Nat.zero_add,hlt,in_range hka,in_range hkb,swpL_len,da,db,a1,a2,b1,b2,decide_true,Bool.and_self,Bool.and_true,cond_true,set46,List.length_set,hst,hw,fa46,md46,Option.bind_some,w_succ (show k < 9223372036854775807 by omega)]) (by
  have hge:decide (((l.length / 2:Nat):Int) < (l.length:Int) - 1 - ((l.length / 2:Nat):Int))=false:=decide_eq_false (by omega)
  rw [swpL_rev l (l.length / 2) (by omega)]
  simp only [R26x96x6,hge,cond_false,fa46,md46,Bool.and_true,cond_true,Option.bind_some]) N 0 (Nat.zero_le _) (by unfold Big at hN; omega)
 have key':loopR (R26x96x6 N l) N (0,(l.length:Int) - 1 - ((0:Nat):Int),m,n,swpL l 0)=_:=key
 rw [swpL_zero] at key'
 simpa using key'
theorem R26_map (m n:Int) (l s:List (Int × Int)) (hl:l.length≤1000000) (hs:s.length=l.length):loopR (R26x97x58 N l) N ([],0,m,n,s)=some (s.map fun p=>(IntKind.wrap .i64 (IntKind.wrap .i64 (m - 1) - p.1),IntKind.wrap .i64 (IntKind.wrap .i64 (n - 1) - p.2)),m,n,s):=by
 have key:=loopR_foldl (rd:=R26x97x58 N l) s (fun acc k=>(acc,(k:Int),m,n,s)) (fun acc p=>acc++[(IntKind.wrap .i64 (IntKind.wrap .i64 (m - 1) - p.1),IntKind.wrap .i64 (IntKind.wrap .i64 (n - 1) - p.2))]) (fun acc=>(acc,m,n,s)) (fun acc k=>acc.length=k) (fun acc k hk ha=>by
  obtain ⟨a1,a2⟩:=at46g s hk
  have hk':k < l.length:=by omega
  have dk:decide (k < s.length)=true:=decide_eq_true hk
  have hb:decide ((acc.length+1) * 16≤140737488355328)=true:=decide_eq_true (by omega)
  have hla:∀ p:Int × Int,(acc++[p]).length=acc.length+1:=fun p=>by simp
  refine ⟨?_,by rw [hla,ha]⟩
  simp only [R26x97x58,List.length_map,Int.toNat_natCast,Nat.zero_add,lt_range hk',in_range hk',hs.symm,lt_range hk,in_range hk,dk,a1,a2,decide_true,Bool.and_self,Bool.and_true,cond_true,hb,snoc46,hla,fa46,md46,Option.bind_some,w_succ (show k < 9223372036854775807 by omega)]) (fun acc _=>by
  simp only [R26x97x58,List.length_map,Int.toNat_natCast,hs,ge_range,cond_false,fa46,md46,Bool.and_self,Bool.and_true,cond_true,decide_true,Option.bind_some]) N [] 0 (Nat.zero_le _) (by unfold Big at hN; omega) rfl
 have key':loopR (R26x97x58 N l) N ([],0,m,n,s)=_:=key
 rw [key',List.drop_zero,foldl_snocg,List.nil_append]
theorem T26_rev (m n:Int) (l:List (Int × Int)) (hl:l.length≤1000000):T26 N (m,n,l)=some (if chkJ m n l=0 then (revJ m n l,0) else ([],chkJ m n l)):=by
 rw [T26_eq]
 simp only [fa46,md46,Bool.and_true,cond_true,Option.bind_some,T19_chk hN l hl]
 by_cases h:chkJ m n l=0
 ·have hp:=chkJ_pos h
  have hd:decide ((0:Int)≤(l.length:Int)∧(l.length:Int)≤(l.length:Int)∧(l.length:Int)≤140737488355328∧(l.length:Int) * 16≤140737488355328)=true:=decide_eq_true (by omega)
  have hmin:Nat.min l.length l.length=l.length:=Nat.min_self _
  have hsp:splice (List.replicate l.length (AV.agg [AV.int .i64 0,AV.int .i64 0])) 0 (List.take l.length (List.map n46 l))=List.map n46 l:=by
   rw [List.take_of_length_le (by rw [List.length_map]; exact Nat.le_refl _)]
   exact splice_all _ _ (by rw [List.length_replicate,List.length_map])
  have hw:IntKind.wrap .i64 ((l.length:Int) - 1)=(l.length:Int) - 1:=w64 (by omega)
  have r1:=R26_swap hN m n l hl
  have r2:=R26_map hN m n l l.reverse hl (List.length_reverse)
  have f46:allFit (Pat.fits p46) []=true:=rfl
  have g46:List.map d46 ([]:List AV)=[]:=rfl
  rw [if_pos h,h]
  simp only [bne_self_eq_false,cond_false,List.length_map,hd,Int.toNat_natCast,List.length_replicate,hmin,Nat.zero_add,Nat.le_refl,decide_true,Bool.and_self,Bool.and_true,cond_true,hsp,fa46,md46,hw,Option.bind_some,r1,f46,g46,List.map_nil,List.length_nil,r2]
  rfl
 ·rw [if_neg h]
  have hb:(chkJ m n l != 0)=true:=bne_iff_ne.2 h
  simp only [hb,cond_true]
  rfl
end
end Go.Proofs.YtfiopgedfcaodaaGreatDoor
namespace Go.Proofs.YtfiopgedfcaodaaGreatDoor
open Go Go.Am Go.Sort
set_option maxRecDepth 100000
def nvG (x:Nat × List Int):AV:=AV.list (.fam 1 x.1) 1 (List.map n3 x.2)
theorem fvG (x:Nat × List Int):Pat.fits (Pat.fam 1 1 p3) (nvG x)=true:=(Pat.fits_enc (p:=Pat.fam 1 1 p3) x rfl).1
theorem dvG (x:Nat × List Int):Pat.decD (Pat.fam 1 1 p3) (nvG x)=x:=(Pat.fits_enc (p:=Pat.fam 1 1 p3) x rfl).2
theorem mcG:∀ m:List (Int × Nat × List Int),mcells (entriesL (List.map nG169x1 m))=List.map nG169x1 m
 | []=>rfl
 | x :: m=>by
  have ih:=mcG m
  show nG169x1 x :: mcells (entriesL (List.map nG169x1 m))=_
  rw [ih]; rfl
theorem mkG (k:Int):∀ m:List (Int × Nat × List Int),mkeys .int (AV.int .i64 k) (entriesL (List.map nG169x1 m))=true
 | []=>rfl
 | x :: m=>by
  have ih:=mkG k m
  show ((eqK .int (AV.int .i64 k) (AV.int .i64 x.1)).isSome&&mkeys .int (AV.int .i64 k) (entriesL (List.map nG169x1 m)))=true
  rw [ih,eqK_int]; rfl
theorem mtG (k:Int):∀ m:List (Int × Nat × List Int),mgetT .int (AV.int .i64 k) (entriesL (List.map nG169x1 m))=(getM k m).map nvG
 | []=>rfl
 | x :: m=>by
  have ih:=mtG k m
  show (bif eqT .int (AV.int .i64 k) (AV.int .i64 x.1) then some (nvG x.2) else mgetT .int (AV.int .i64 k) (entriesL (List.map nG169x1 m)))=(if k=x.1 then some x.2 else getM k m).map nvG
  unfold eqT
  rw [eqK_int,ih]
  by_cases e:k=x.1 <;> simp [e]
theorem mgGf (k:Int) (n:Nat) (m:List (Int × Nat × List Int)):mgetD .int (AV.int .i64 k) (AV.list (.fam 1 n) 1 []) (entriesL (List.map nG169x1 m))=nvG ((getM k m).getD (n,[])):=by
 unfold mgetD
 rw [mtG]
 cases getM k m <;> rfl
theorem mpG (k:Int) (x:Nat × List Int):∀ m:List (Int × Nat × List Int),mputT .int (AV.int .i64 k) (AV.list (.fam 1 x.1) 1 (List.map n3 x.2)) (entriesL (List.map nG169x1 m))=entriesL (List.map nG169x1 (putM k x m))
 | []=>rfl
 | y :: m=>by
  have ih:=mpG k x m
  show (bif eqT .int (AV.int .i64 k) (AV.int .i64 y.1) then (AV.int .i64 k,nvG x) :: entriesL (List.map nG169x1 m) else (AV.int .i64 y.1,nvG y.2) :: mputT .int (AV.int .i64 k) (AV.list (.fam 1 x.1) 1 (List.map n3 x.2)) (entriesL (List.map nG169x1 m)))=entriesL (List.map nG169x1 (if k=y.1 then (k,x) :: m else (y.1,y.2) :: putM k x m))
  unfold eqT
  rw [eqK_int,ih]
  by_cases e:k=y.1
  ·simp only [e,decide_true,cond_true,if_true]; rfl
  ·simp only [e,decide_false,cond_false,if_false]; rfl
theorem mpG2 (k:Int) (a:Nat) (l:List Int) (m:List (Int × Nat × List Int)):mputT .int (AV.int .i64 k) (AV.list (.fam 1 a) 1 (List.map n3 l)) (entriesL (List.map nG169x1 m))=entriesL (List.map nG169x1 (putM k (a,l) m)):=mpG k (a,l) m
def prt (K:List (Int × Int)) (b:Int):List Int:=(K.filter fun q=>q.1 == b).map Prod.snd
theorem prt_len (K:List (Int × Int)) (b:Int):(prt K b).length≤K.length:=by
 unfold prt
 rw [List.length_map]
 exact List.length_filter_le _ _
theorem prt_succ (K:List (Int × Int)) {k:Nat} (hk:k < K.length) (b:Int):prt (K.take (k+1)) b=prt (K.take k) b++if K[k].1=b then [K[k].2] else []:=by
 unfold prt
 rw [List.take_add_one,List.getElem?_eq_getElem hk,List.filter_append,List.map_append]
 congr 1
 by_cases h:K[k].1=b
 ·simp [h]
 ·simp [h]
structure IsP (K:List (Int × Int)) (PM:List (Int × Nat × List Int)) (L:List Nat):Prop where
 no:∀ b,getM b PM=none→prt K b=[]
 ok:∀ b x,getM b PM=some x→x.2=prt K b∧nth L x.1=some x.2.length
 inj:∀ b b' x x',getM b PM=some x→getM b' PM=some x'→x.1=x'.1→b=b'
theorem IsP.step {K:List (Int × Int)} {PM:List (Int × Nat × List Int)} {L:List Nat} {k:Nat} (h:IsP (K.take k) PM L) (hk:k < K.length) :
  memA L ((getM K[k].1 PM).getD (L.length,[])).1 ((getM K[k].1 PM).getD (L.length,[])).2.length=true∧((getM K[k].1 PM).getD (L.length,[])).2.length≤k ∧
  IsP (K.take (k+1)) (putM K[k].1 (((getM K[k].1 PM).getD (L.length,[])).1,((getM K[k].1 PM).getD (L.length,[])).2++[K[k].2]) PM) (setA L ((getM K[k].1 PM).getD (L.length,[])).1 (((getM K[k].1 PM).getD (L.length,[])).2.length+1)):=by
 have hx:((getM K[k].1 PM).getD (L.length,[])).2=prt (K.take k) K[k].1∧memA L ((getM K[k].1 PM).getD (L.length,[])).1 ((getM K[k].1 PM).getD (L.length,[])).2.length=true∧(∀ b' x',b'≠K[k].1→getM b' PM=some x'→((getM K[k].1 PM).getD (L.length,[])).1≠x'.1) ∧
   ∀ n,nth (setA L ((getM K[k].1 PM).getD (L.length,[])).1 n) ((getM K[k].1 PM).getD (L.length,[])).1=some n∧∀ i m,((getM K[k].1 PM).getD (L.length,[])).1≠i→nth L i=some m→nth (setA L ((getM K[k].1 PM).getD (L.length,[])).1 n) i=some m:=by
  cases hg:getM K[k].1 PM with
  | none=>
   have hs:∀ n,setA L L.length n=L++[n]:=fun n=>by unfold setA; rw [Nat.beq_refl]; rfl
   refine ⟨(h.no _ hg).symm,?_,fun b' x' _ hg' he=>?_,fun n=>⟨?_,fun i m _ hi=>?_⟩⟩
   ·simp only [Option.getD_none,memA,List.length_nil,Nat.beq_refl,Bool.and_self,Bool.or_true]
   ·have:=nth_lt (h.ok b' x' hg').2
    simp only [Option.getD_none] at he
    omega
   ·simp only [Option.getD_none,hs]
    exact nth_append_new L n
   ·simp only [Option.getD_none,hs]
    exact nth_append_old hi
  | some x=>
   obtain ⟨h1,h2⟩:=h.ok _ x hg
   refine ⟨h1,?_,fun b' x' hne hg' he=>hne (h.inj _ _ _ _ hg' hg he.symm),fun n=>⟨?_,fun i m hne hi=>?_⟩⟩
   ·simp only [Option.getD_some,memA,decide_eq_true h2,Bool.true_or]
   ·simp only [Option.getD_some,setA_old h2]
    exact nth_setN_self h2
   ·simp only [Option.getD_some,setA_old h2] at hne ⊢
    rw [nth_setN_ne hne]
    exact hi
 generalize (getM K[k].1 PM).getD (L.length,[])=x at *
 obtain ⟨h1,h2,h3,h4⟩:=hx
 obtain ⟨h5,h6⟩:=h4 (x.2.length+1)
 refine ⟨h2,?_,?_,?_,?_⟩
 ·rw [h1]
  have:=prt_len (K.take k) K[k].1
  rw [List.length_take] at this
  omega
 ·intro b hb
  rw [getM_put] at hb
  split at hb
  ·cases hb
  ·rename_i hne
   rw [prt_succ K hk,if_neg (fun e=>hne e.symm),h.no b hb]
   rfl
 ·intro b y hb
  rw [getM_put] at hb
  split at hb
  ·rename_i he
   injection hb with hb
   subst hb
   refine ⟨?_,?_⟩
   ·rw [prt_succ K hk,if_pos he.symm,he,← h1]
   ·rw [h5,List.length_append]
    rfl
  ·rename_i hne
   obtain ⟨k1,k2⟩:=h.ok b y hb
   refine ⟨?_,?_⟩
   ·rw [prt_succ K hk,if_neg (fun e=>hne e.symm),List.append_nil,k1]
   ·exact h6 _ _ (h3 b y hne hb) k2
 ·intro b b' y y' hb hb' he
  rw [getM_put] at hb hb'
  split at hb
  ·rename_i e1
   injection hb with hb
   subst hb
   split at hb'
   ·rename_i e2; rw [e1,e2]
   ·rename_i e2
    exact absurd he (h3 b' y' e2 hb')
  ·rename_i e1
   split at hb'
   ·injection hb' with hb'
    subst hb'
    exact absurd he.symm (h3 b y e1 hb)
   ·exact h.inj b b' y y' hb hb' he
theorem IsP.find {K:List (Int × Int)} {PM:List (Int × Nat × List Int)} {L:List Nat} (h:IsP K PM L) (b:Int) (n:Nat):((getM b PM).getD (n,[])).2=prt K b:=by
 cases hg:getM b PM with
 | none=>exact (h.no b hg).symm
 | some x=>exact (h.ok b x hg).1
theorem cl46 (l:List (Int × Int)):closedL (List.map n46 l)=true:=closedL_map (fun _=>rfl) l
theorem qb46 (p q:Int × Int):(p.1 == q.1&&p.2 == q.2)=decide (p=q):=by
 obtain ⟨p1,p2⟩:=p
 obtain ⟨q1,q2⟩:=q
 rw [Bool.eq_iff_iff]
 simp
section
variable {N:Nat} (hN:Big N)
include hN
theorem R27_part (K:List (Int × Int)) (hK:K.length≤1000000):∃ PM L,loopR (R27x250 N K) N (0,[],[])=some (PM,lenI L)∧IsP K PM L:=by
 have key:∃ x,loopR (R27x250 N K) N (0,[],[])=some x∧∃ s:List (Int × Nat × List Int) × List Nat,x=(s.1,lenI s.2)∧IsP K s.1 s.2:=by
  refine loopR_cnt (rd:=R27x250 N K) (S:=List (Int × Nat × List Int) × List Nat) K.length (fun s k=>((k:Int),s.1,lenI s.2)) (fun s k=>IsP (K.take k) s.1 s.2) _ ?_ ?_ N ([],[]) 0 (Nat.zero_le _) (by unfold Big at hN; omega) ⟨fun b _=>by simp [prt],fun b x h=>by simp [getM] at h,fun b b' x x' h=>by simp [getM] at h⟩
  ·rintro ⟨PM,L⟩ k hk h
   obtain ⟨a1,a2⟩:=at46g K hk
   obtain ⟨s1,s2,s3⟩:=h.step hk
   have hg:=mgGf K[k].1 L.length PM
   refine ⟨(_,_),?_,s3⟩
   generalize (getM K[k].1 PM).getD (L.length,[])=x at *
   have hb:decide ((x.2.length+1) * 8≤140737488355328)=true:=decide_eq_true (by omega)
   simp only [R27x250,List.length_map,Int.toNat_natCast,a1,a2,lt_range hk,in_range hk,Bool.and_self,Bool.and_true,cond_true,mkG,unf2,hg,fvG,dvG,s1,hb,decide_true,beq_self_eq_true,snoc3,mpG2,mcG,faG169x1,mdG169x1,faL,mdL,Option.bind_some,w_succ (show k < 9223372036854775807 by omega)]
   rfl
  ·rintro ⟨PM,L⟩ h
   refine ⟨(PM,lenI L),?_,(PM,L),rfl,by rwa [List.take_length] at h⟩
   simp only [R27x250,List.length_map,ge_range,cond_false,mcG,faG169x1,mdG169x1,unf2,faL,mdL,Bool.and_self,Bool.and_true,cond_true,Option.bind_some]
 obtain ⟨x,r,s,rfl,h⟩:=key
 exact ⟨s.1,s.2,r,h⟩
theorem R27_in (J K:List (Int × Int)) {PM:List (Int × Nat × List Int)} {L:List Nat} (h:IsP K PM L) (hK:K.length≤1000000) {k:Nat} (hk:k < J.length) (v:Unit × Int × List (Int × Nat × List Int) × List Int × List (Int × Int)) (hv:v.2.1=(k:Int)) (hv2:v.2.2.1=PM) (hv3:v.2.2.2.1=lenI L) (M:List Int) (ch:List (Int × Int)) (b:Int) :
  loopR (R27x100x58 N J v) N ([],0,PM,lenI L,ch,J[k].1,b)=some ((prt K J[k].2).map fun c=>(J[k].1,c),PM,lenI L,ch,J[k].1,b):=by
 obtain ⟨a1,a2⟩:=at46g J hk
 have f1:=h.find J[k].2 L.length
 have hl:=prt_len K J[k].2
 have key:=loopR_foldl (rd:=R27x100x58 N J v) (prt K J[k].2) (fun acc i=>(acc,(i:Int),PM,lenI L,ch,J[k].1,b)) (fun acc c=>acc++[(J[k].1,c)]) (fun acc=>(acc,PM,lenI L,ch,J[k].1,b)) (fun acc i=>acc.length=i) (fun acc i hi ha=>by
  obtain ⟨c1,c2⟩:=at3 (prt K J[k].2) hi
  have hb:decide ((acc.length+1) * 16≤140737488355328)=true:=decide_eq_true (by omega)
  have hla:∀ p:Int × Int,(acc++[p]).length=acc.length+1:=fun p=>by simp
  refine ⟨?_,by rw [hla,ha]⟩
  simp only [R27x100x58,hv,hv2,hv3,List.length_map,Int.toNat_natCast,a1,unf2,mgGf,dvG,f1,c1,c2,lt_range hi,in_range hi,Bool.and_self,Bool.and_true,cond_true,decide_true,hb,snoc46,hla,fa46,md46,mcG,faG169x1,mdG169x1,unf2,faL,mdL,Option.bind_some,w_succ (show i < 9223372036854775807 by omega)]) (fun acc _=>by
  simp only [R27x100x58,hv,hv2,hv3,List.length_map,Int.toNat_natCast,a1,unf2,mgGf,dvG,f1,ge_range,cond_false,fa46,md46,mcG,faG169x1,mdG169x1,unf2,faL,mdL,Bool.and_self,Bool.and_true,cond_true,decide_true,Option.bind_some]) N [] 0 (Nat.zero_le _) (by unfold Big at hN; omega) rfl
 have key':loopR (R27x100x58 N J v) N ([],0,PM,lenI L,ch,J[k].1,b)=_:=key
 rw [key',List.drop_zero,foldl_snocg,List.nil_append]
def cmpJ (J K:List (Int × Int)):List (Int × Int):=J.flatMap fun p=>(prt K p.2).map fun c=>(p.1,c)
theorem R27_all (J K:List (Int × Int)) {PM:List (Int × Nat × List Int)} {L:List Nat} (h:IsP K PM L) (hK:K.length≤1000) (hJ:J.length≤1000):loopR (R27x1018 N J) N ((),0,PM,lenI L,[])=some ((),PM,lenI L,cmpJ J K)∧(cmpJ J K).length≤1000000:=by
 have hlen:∀ n,n≤J.length→((J.take n).flatMap fun p=>(prt K p.2).map fun c=>(p.1,c)).length≤1000 * n:=by
  intro n
  induction n with
  | zero=>simp
  | succ n ih=>
   intro hn
   have hn':n < J.length:=by omega
   rw [List.take_add_one,List.getElem?_eq_getElem hn',List.flatMap_append,List.length_append]
   have:=ih (by omega)
   have hp:=prt_len K J[n].2
   simp only [Option.toList_some,List.flatMap_cons,List.flatMap_nil,List.append_nil,List.length_map]
   omega
 have key:=loopR_count (rd:=R27x1018 N J) J.length (fun k=>((),(k:Int),PM,lenI L,(J.take k).flatMap fun p=>(prt K p.2).map fun c=>(p.1,c))) ((),PM,lenI L,cmpJ J K) (fun k hk=>by
  obtain ⟨a1,a2⟩:=at46g J hk
  have f1:=h.find J[k].2 L.length
  have hl:=hlen k (by omega)
  have hl2:=hlen (k+1) (by omega)
  have et:((J.take (k+1)).flatMap fun p=>(prt K p.2).map fun c=>(p.1,c))=((J.take k).flatMap fun p=>(prt K p.2).map fun c=>(p.1,c))++(prt K J[k].2).map fun c=>(J[k].1,c):=by
   rw [List.take_add_one,List.getElem?_eq_getElem hk,List.flatMap_append]
   simp
  rw [et] at hl2 ⊢
  generalize ((J.take k).flatMap fun p=>(prt K p.2).map fun c=>(p.1,c))=ch at *
  have r:=R27_in hN J K h (by omega) hk ((),(k:Int),PM,lenI L,ch) rfl rfl rfl [] ch J[k].2
  have z:∀ a b:List (Int × Int),List.map n46 a++List.map n46 b=List.map n46 (a++b):=fun a b=>by rw [List.map_append]
  rw [List.length_append] at hl2
  have hb:decide ((ch.length+((prt K J[k].2).map fun c=>(J[k].1,c)).length) * 16≤140737488355328)=true:=decide_eq_true (by omega)
  have f46:allFit (Pat.fits p46) []=true:=rfl
  have g46:List.map d46 ([]:List AV)=[]:=rfl
  rw [List.length_map] at hb
  simp only [R27x1018,List.length_map,Int.toNat_natCast,a1,a2,lt_range hk,in_range hk,mkG,unf2,mgGf,fvG,f46,g46,List.length_nil,mcG,faG169x1,mdG169x1,unf2,faL,mdL,fa46,md46,Bool.and_self,Bool.and_true,cond_true,decide_true,Option.bind_some,r,hb,z,List.length_append,Nat.beq_refl,w_succ (show k < 9223372036854775807 by omega)]) (by
  rw [List.take_length]
  simp only [R27x1018,List.length_map,ge_range,cond_false,mcG,faG169x1,mdG169x1,unf2,faL,mdL,fa46,md46,Nat.beq_refl,Bool.and_self,Bool.and_true,cond_true,decide_true,Option.bind_some]
  rfl) N 0 (Nat.zero_le _) (by unfold Big at hN; omega)
 refine ⟨key,?_⟩
 have:=hlen J.length (Nat.le_refl _)
 rw [List.take_length] at this
 unfold cmpJ
 omega
section
variable (PM:List (Int × Nat × List Int)) (L:List Nat) (F st:List (Int × Int)) (hn:st.length=F.length) (hF:F.length≤2000000)
include hn hF
theorem R27_com (m:Nat) (h1:1≤m) (hm:m < F.length) (hu:uqN (0,0) st (m+1)=st.take m) :
  ∃ x,loopR (R27x105x59690 N ((),PM,lenI L,F) ((m:Int),PM,lenI L,st)) N ((m:Int),1,PM,lenI L,st)=some x∧∃ (t:Nat) (c:List (Int × Int)),x=((t:Int),PM,lenI L,c)∧c.length=F.length∧t≤F.length∧c.take t=uqN (0,0) st F.length:=by
 refine loopR_cnt (rd:=R27x105x59690 N ((),PM,lenI L,F) ((m:Int),PM,lenI L,st)) (S:=Nat × List (Int × Int)) (F.length - m - 1) (fun s i=>((s.1:Int),((i+1:Nat):Int),PM,lenI L,s.2))
  (fun s i=>s.1≤m+i∧s.2.length=F.length∧s.2.take s.1=uqN (0,0) st (m+1+i)∧∀ t,m+i≤t→s.2[t]?=st[t]?) _ ?_ ?_ N (m,st) 0 (Nat.zero_le _) (by unfold Big at hN; omega) ⟨by omega,hn,hu.symm,fun _ _=>rfl⟩
 ·rintro ⟨t,c⟩ i hi ⟨i1,i2,i3,i4⟩
  simp only at i1 i2 i3 i4
  have hj:m+(i+1) < c.length:=by omega
  have hj0:m+i < c.length:=by omega
  have hs1:m+(i+1) < st.length:=by omega
  have hs0:m+i < st.length:=by omega
  have e1:c[m+(i+1)]=st[m+(i+1)]:=by
   have:=i4 (m+(i+1)) (by omega)
   rw [List.getElem?_eq_getElem hj,List.getElem?_eq_getElem hs1] at this
   exact Option.some.inj this
  have e0:c[m+i]=st[m+i]:=by
   have:=i4 (m+i) (by omega)
   rw [List.getElem?_eq_getElem hj0,List.getElem?_eq_getElem hs0] at this
   exact Option.some.inj this
  obtain ⟨a1,a2⟩:=at46g c hj
  obtain ⟨b1,b2⟩:=at46g c hj0
  rw [e1] at a1
  rw [e0] at b1
  have g1:st.getD (m+(i+1)) (0,0)=st[m+(i+1)]:=by simp [hs1]
  have g0:st.getD (m+i) (0,0)=st[m+i]:=by simp [hs0]
  have hu2:uqN (0,0) st (m+1+(i+1))=if st[m+(i+1)]=st[m+i] then uqN (0,0) st (m+1+i) else uqN (0,0) st (m+1+i)++[st[m+(i+1)]]:=by
   rw [show m+1+(i+1)=m+1+i+1 by omega]
   conv=>lhs; unfold uqN
   rw [show m+1+i=m+(i+1) by omega,g1,show m+(i+1) - 1=m+i by omega,g0]
   by_cases h:st[m+(i+1)]=st[m+i]
   ·rw [if_pos h,if_pos ⟨by omega,h⟩]
   ·rw [if_neg h,if_neg fun c=>h c.2]
  have hw:IntKind.wrap .i64 (((i+1:Nat):Int) - 1)=(i:Int):=by rw [w64 (by omega)]; omega
  have hlt:decide (((i+1:Nat):Int) < ((F.length - m:Nat):Int))=true:=decide_eq_true (by omega)
  have hr1:decide ((0:Int)≤((i+1:Nat):Int)∧((i+1:Nat):Int) < ((F.length - m:Nat):Int))=true:=decide_eq_true (by omega)
  have hr0:decide ((0:Int)≤(i:Int)∧(i:Int) < ((F.length - m:Nat):Int))=true:=decide_eq_true (by omega)
  have hd1:decide (m+(i+1) < F.length)=true:=decide_eq_true (by omega)
  have hd0:decide (m+i < F.length)=true:=decide_eq_true (by omega)
  have hrt:decide ((0:Int)≤(t:Int)∧(t:Int) < (F.length:Int))=true:=decide_eq_true (by omega)
  have hdt:decide (t < F.length)=true:=decide_eq_true (by omega)
  have q:=qb46 st[m+(i+1)] st[m+i]
  by_cases h:st[m+(i+1)]=st[m+i]
  ·rw [decide_eq_true h] at q
   refine ⟨(t,c),?_,by omega,i2,?_,fun t' ht'=>i4 t' (by omega)⟩
   ·simp only [R27x105x59690,List.length_map,Int.toNat_natCast,Nat.zero_add,hw,hlt,hr1,hr0,i2,hd1,hd0,a1,a2,b1,b2,decide_true,Bool.and_self,Bool.and_true,cond_true,q,Option.bind_some,Bool.not_true,cond_false,fa46,md46,faG169x1,mdG169x1,mcG,unf2,faL,mdL,w_succ (show i+1 < 9223372036854775807 by omega)]
   ·rw [hu2,if_pos h]; exact i3
  ·refine ⟨(t+1,c.set t st[m+(i+1)]),?_,by simp only; omega,by simp only [List.length_set]; exact i2,?_,fun t' ht'=>?_⟩
   ·simp only [R27x105x59690,List.length_map,Int.toNat_natCast,Nat.zero_add,hw,hlt,hr1,hr0,i2,hd1,hd0,hrt,hdt,a1,a2,b1,b2,decide_true,Bool.and_self,Bool.and_true,cond_true,q,h,decide_false,Option.bind_some,Bool.not_false,set46,fa46,md46,faG169x1,mdG169x1,mcG,unf2,faL,mdL,w_succ (show i+1 < 9223372036854775807 by omega),w_succ (show t < 9223372036854775807 by omega)]
   ·rw [hu2,if_neg h,← i3]
    simp only
    rw [List.take_succ,List.take_set_of_le (Nat.le_refl _),List.getElem?_set_self (by omega)]
    rfl
   ·simp only
    rw [List.getElem?_set_ne (by omega)]
    exact i4 t' (by omega)
 ·rintro ⟨t,c⟩ ⟨i1,i2,i3,i4⟩
  simp only at i1 i2 i3 i4
  have hge:decide (((F.length - m - 1+1:Nat):Int) < ((F.length - m:Nat):Int))=false:=decide_eq_false (by omega)
  refine ⟨((t:Int),PM,lenI L,c),?_,t,c,rfl,i2,by omega,?_⟩
  ·simp only [R27x105x59690,List.length_map,Int.toNat_natCast,hge,cond_false,fa46,md46,faG169x1,mdG169x1,mcG,unf2,faL,mdL,Bool.and_true,cond_true,Option.bind_some]
  ·rw [i3]; congr 1; omega
theorem R27_out:∃ o,loopR (R27x105x58 N ((),PM,lenI L,F)) N (1,PM,lenI L,st)=some o∧((o=.inl (uqN (0,0) st F.length,PM,lenI L))∨(o=.inr (PM,lenI L,uqN (0,0) st F.length)∧(uqN (0,0) st F.length).length=F.length)):=by
 have hN0:1≤F.length→F.length - 1 < N:=fun _=>by unfold Big at hN; omega
 by_cases hF0:F.length=0
 ·refine ⟨.inr (PM,lenI L,st),?_,.inr ⟨?_,?_⟩⟩
  ·obtain ⟨n,rfl⟩:∃ n,N=n+1:=⟨N - 1,by unfold Big at hN; omega⟩
   rw [loopR_succ]
   have hge:decide ((1:Int) < (F.length:Int))=false:=decide_eq_false (by omega)
   simp only [R27x105x58,List.length_map,hge,cond_false,fa46,md46,faG169x1,mdG169x1,mcG,unf2,faL,mdL,Bool.and_true,cond_true,Option.bind_some,Sum.elim_inr]
  ·rw [hF0]
   have:st=[]:=List.length_eq_zero_iff.1 (by omega)
   rw [this]; rfl
  ·rw [hF0]; rfl
 refine loopR_cne (rd:=R27x105x58 N ((),PM,lenI L,F)) (S:=Unit) (F.length - 1) (fun _ k=>(((k+1:Nat):Int),PM,lenI L,st)) (fun _ k=>∀ j,0 < j→j < k+1→st.getD j (0,0)≠st.getD (j - 1) (0,0)) _ ?_ ?_ N () 0 (Nat.zero_le _) (by unfold Big at hN; omega) (fun j h1 h2=>by omega)
 ·rintro _ k hk hP
  have hs1:k+1 < st.length:=by omega
  have hs0:k < st.length:=by omega
  obtain ⟨a1,a2⟩:=at46g st hs1
  obtain ⟨b1,b2⟩:=at46g st hs0
  have g1:st.getD (k+1) (0,0)=st[k+1]:=by simp [hs1]
  have g0:st.getD k (0,0)=st[k]:=by simp [hs0]
  have hw:IntKind.wrap .i64 (((k+1:Nat):Int) - 1)=(k:Int):=by rw [w64 (by omega)]; omega
  have hl1:k+1 < F.length:=by omega
  have hl0:k < F.length:=by omega
  have hd1:decide (k+1 < F.length)=true:=decide_eq_true hl1
  have hd0:decide (k < F.length)=true:=decide_eq_true hl0
  have q:=qb46 st[k+1] st[k]
  by_cases h:st[k+1]=st[k]
  ·right
   rw [decide_eq_true h] at q
   have ht:=uqN_take (0,0) st (k+1) (by omega) hP
   have hu:uqN (0,0) st (k+1+1)=st.take (k+1):=by
    rw [← ht]
    conv=>lhs; unfold uqN
    rw [if_pos ⟨by omega,by rw [g1,show k+1 - 1=k by omega,g0]; exact h⟩]
   obtain ⟨x,r,t,c,rfl,c1,c2,c3'⟩:=R27_com hN PM L F st hn hF (k+1) (by omega) hl1 hu
   have hle:decide ((0:Int)≤((k+1:Nat):Int)∧((k+1:Nat):Int)≤(F.length:Int))=true:=decide_eq_true (by omega)
   have hle2:decide ((0:Int)≤(t:Int)∧(t:Int)≤(F.length:Int))=true:=decide_eq_true (by omega)
   obtain ⟨z1,z2⟩:=splice_take (List.map n46 c) t (List.replicate (F.length - t) (AV.agg [AV.int .i64 0,AV.int .i64 0])) (by rw [List.length_replicate,List.length_map]; omega)
   have z3:closedL (splice (List.map n46 c) t (List.replicate (F.length - t) (AV.agg [AV.int .i64 0,AV.int .i64 0])))=true:=splice_cl _ _ _ (cl46 c) (by
    have:∀ n,closedL (List.replicate n (AV.agg [AV.int .i64 0,AV.int .i64 0]))=true:=by
     intro n
     induction n with
     | zero=>rfl
     | succ n ih=>rw [List.replicate_succ,closedL,ih]; rfl
    exact this _)
   have hs:decide (t+(F.length - t)≤F.length)=true:=decide_eq_true (by omega)
   have ht2:decide (t≤F.length)=true:=decide_eq_true c2
   rw [List.length_map] at z1
   refine ⟨.inl (uqN (0,0) st F.length,PM,lenI L),?_,.inl rfl⟩
   have hmt:List.take t (List.map n46 c)=List.map n46 (List.take t c):=by rw [List.map_take]
   simp only [R27x105x58,List.length_map,Int.toNat_natCast,Nat.zero_add,hw,lt_range hl1,in_range hl1,in_range hl0,hn,hd1,hd0,a1,a2,b1,b2,decide_true,Bool.and_self,Bool.and_true,cond_true,q,hle,fa46,md46,faG169x1,mdG169x1,mcG,unf2,faL,mdL,Option.bind_some,r,hle2,c1,hs,z1,ht2,z3,z2,hmt,c3']
  ·left
   rw [decide_eq_false h] at q
   refine ⟨(),?_,fun j h1 h2=>?_⟩
   ·simp only [R27x105x58,List.length_map,Int.toNat_natCast,Nat.zero_add,hw,lt_range hl1,in_range hl1,in_range hl0,hn,hd1,hd0,a1,a2,b1,b2,decide_true,Bool.and_self,Bool.and_true,cond_true,q,cond_false,fa46,md46,faG169x1,mdG169x1,mcG,unf2,faL,mdL,Option.bind_some,w_succ (show k+1 < 9223372036854775807 by omega)]
   ·by_cases hj:j=k+1
    ·subst hj
     rw [g1,show k+1 - 1=k by omega,g0]; exact h
    ·exact hP j h1 (by omega)
 ·intro _ hP
  have hge:decide (((F.length - 1+1:Nat):Int) < (F.length:Int))=false:=decide_eq_false (by omega)
  have hq:=uqN_take (0,0) st F.length (by omega) (fun j h1 h2=>hP j h1 (by omega))
  rw [← hn,List.take_length,hn] at hq
  refine ⟨.inr (PM,lenI L,st),?_,.inr ⟨by rw [hq],by rw [hq]; exact hn⟩⟩
  simp only [R27x105x58,List.length_map,hge,cond_false,fa46,md46,faG169x1,mdG169x1,mcG,unf2,faL,mdL,Bool.and_true,cond_true,Option.bind_some]
end
end
end Go.Proofs.YtfiopgedfcaodaaGreatDoor
