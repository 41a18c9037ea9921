/- Plain laws: what two joins make,as the reference finds it. -/
import Derived.Test.YtfiopgedfcaodaaGreatDoorSeamKA
set_option linter.all false
namespace Go.Proofs.YtfiopgedfcaodaaGreatDoor
open Go Go.Am Go.Sort
set_option maxRecDepth 100000
def lst (l:List (Int × Int)):Int × Int:=l.getD (l.length - 1) (0,0)
def chkT (l:List (Int × Int)):Int:=
 if l.length=0 then 12
 else if firstNZ [rng (lst l).1 0 255,rng (lst l).2 0 255]≠0 then firstNZ [rng (lst l).1 0 255,rng (lst l).2 0 255]
 else chkJ ((lst l).1+1) ((lst l).2+1) l
theorem rng2_zero {a b:Int} (h:firstNZ [rng a 0 255,rng b 0 255]=0):(0≤a∧a≤255)∧0≤b∧b≤255:=by
 have:=firstNZ_zero.1 h
 have h1:=this (rng a 0 255) (by simp)
 have h2:=this (rng b 0 255) (by simp)
 unfold rng at h1 h2
 split at h1
 ·cases h1
 ·split at h2
  ·cases h2
  ·omega
theorem rng2_val (a b:Int):firstNZ [rng a 0 255,rng b 0 255]=if a < 0∨a≥256∨b < 0∨b≥256 then 3 else 0:=by
 unfold rng
 by_cases h1:a < 0∨a > 255
 ·rw [if_pos h1,if_pos (show a < 0∨a≥256∨b < 0∨b≥256 by omega)]
  rfl
 ·rw [if_neg h1]
  by_cases h2:b < 0∨b > 255
  ·rw [if_pos h2,if_pos (show a < 0∨a≥256∨b < 0∨b≥256 by omega)]; rfl
  ·rw [if_neg h2,if_neg (show ¬ (a < 0∨a≥256∨b < 0∨b≥256) by omega)]; rfl
theorem ff24 (x y:Int):allFit (Pat.fits p24) [AV.int .i64 x,AV.int .i64 y]=true:=rfl
theorem mm24 (x y:Int):List.map d24 [AV.int .i64 x,AV.int .i64 y]=[x,y]:=rfl
section
variable {N:Nat} (hN:Big N)
include hN
theorem T99_chk (l:List (Int × Int)) (hl:l.length≤1000000):T99 N l=some (chkT l):=by
 rw [T99_eq]
 simp only [List.length_map]
 unfold chkT
 by_cases h0:l.length=0
 ·have e:((l.length:Int) == 0)=true:=by simp [h0]
  rw [e,cond_true,if_pos h0]
 ·have e:((l.length:Int) == 0)=false:=by simp; intro h; simp [h] at h0
  have hk:l.length - 1 < l.length:=by omega
  have hw:IntKind.wrap .i64 ((l.length:Int) - 1)=((l.length - 1:Nat):Int):=by rw [w64 (by omega)]; omega
  obtain ⟨a1,a2⟩:=at46 l hk
  have a1:d46 (nthD (List.map n46 l) (l.length - 1))=lst l:=a1
  rw [e,cond_false,if_neg h0]
  simp only [hw,Int.toNat_natCast,a1,a2,in_range hk,Bool.and_self,Bool.and_true,cond_true,T93_rng,Option.bind_some,beq_self_eq_true,ff24,mm24]
  rw [T90_first hN _ (by simp),Option.bind_some]
  by_cases hz:firstNZ [rng (lst l).1 0 255,rng (lst l).2 0 255]=0
  ·obtain ⟨⟨b1,b2⟩,b3,b4⟩:=rng2_zero hz
   rw [hz,if_neg (fun c=>c rfl)]
   simp only [bne_self_eq_false,cond_false,fa46,md46,Bool.and_true,cond_true,Option.bind_some,w64 (show -9223372036854775808≤(lst l).1+1∧(lst l).1+1≤9223372036854775807 by omega),w64 (show -9223372036854775808≤(lst l).2+1∧(lst l).2+1≤9223372036854775807 by omega),T19_chk hN l hl]
  ·rw [if_pos hz,show (firstNZ [rng (lst l).1 0 255,rng (lst l).2 0 255] != 0)=true from bne_iff_ne.2 hz]
   rfl
theorem T29_chk (l:List (Int × Int)) (hl:l.length≤1000000):T29 N l=some (chkT l):=by
 rw [T29_eq]
 simp only [List.length_map]
 unfold chkT
 by_cases h0:l.length=0
 ·have e:((l.length:Int) == 0)=true:=by simp [h0]
  rw [e,cond_true,if_pos h0]
 ·have e:((l.length:Int) == 0)=false:=by simp; intro h; simp [h] at h0
  have hk:l.length - 1 < l.length:=by omega
  have hw:IntKind.wrap .i64 ((l.length:Int) - 1)=((l.length - 1:Nat):Int):=by rw [w64 (by omega)]; omega
  obtain ⟨a1,a2⟩:=at46 l hk
  have a1:d46 (nthD (List.map n46 l) (l.length - 1))=lst l:=a1
  rw [e,cond_false,if_neg h0]
  simp only [hw,Int.toNat_natCast,a1,a2,in_range hk,Bool.and_self,Bool.and_true,cond_true]
  have ho:((bif (decide ((lst l).1 < 0)) then (some true) else (bif (decide ((lst l).1≥256)) then (some true) else (bif (decide ((lst l).2 < 0)) then (some true) else (some (decide ((lst l).2≥256)))))):Option Bool)=some (decide (firstNZ [rng (lst l).1 0 255,rng (lst l).2 0 255]≠0)):=by
   rw [rng2_val]
   by_cases h1:(lst l).1 < 0
   ·simp [h1]
   ·by_cases h2:(lst l).1≥256
    ·simp [h1,h2]
    ·by_cases h3:(lst l).2 < 0
     ·simp [h1,h2,h3]
     ·by_cases h4:(lst l).2≥256 <;> simp [h1,h2,h3,h4]
  rw [ho,Option.bind_some]
  by_cases hz:firstNZ [rng (lst l).1 0 255,rng (lst l).2 0 255]=0
  ·obtain ⟨⟨b1,b2⟩,b3,b4⟩:=rng2_zero hz
   rw [if_neg (fun c=>c hz),decide_eq_false (fun c=>c hz)]
   simp only [cond_false,fa46,md46,Bool.and_true,cond_true,Option.bind_some,w64 (show -9223372036854775808≤(lst l).1+1∧(lst l).1+1≤9223372036854775807 by omega),w64 (show -9223372036854775808≤(lst l).2+1∧(lst l).2+1≤9223372036854775807 by omega),T25_chk hN l hl]
  ·rw [if_pos hz,decide_eq_true hz,cond_true]
   rw [rng2_val] at hz ⊢
   split at hz
   ·rename_i h; rw [if_pos h]
   ·exact absurd rfl hz
omit hN in
theorem any_loop {α:Type} {rd:Int→Option (Int ⊕ (Bool ⊕ Unit))} (l:List α) (b:α→Bool) (h:∀ k (hk:k < l.length),rd (k:Int)=some (if b l[k] then .inr (.inl true) else .inl ((k+1:Nat):Int)))
  (h0:rd (l.length:Int)=some (.inr (.inr ()))) (n:Nat) (hn:l.length < n):loopR rd n 0=some (if l.any b then .inl true else .inr ()):=by
 have hb:∀ k (hk:k < l.length),((l[k]?.map b).getD false)=b l[k]:=fun k hk=>by rw [List.getElem?_eq_getElem hk]; rfl
 rcases find_loop (rd:=rd) l.length (fun k=>(l[k]?.map b).getD false) (fun _=>true) (fun k hk=>by rw [h k hk,hb k hk]) h0 n 0 (Nat.zero_le _) (by omega) with ⟨j,_,h2,h3,h4⟩ | ⟨h1,h2⟩
 ·rw [hb j h2] at h3
  have:l.any b=true:=List.any_eq_true.2 ⟨_,List.getElem_mem h2,h3⟩
  rw [this,if_pos rfl]; exact h4
 ·have:l.any b=false:=by
   rw [List.any_eq_false]
   intro x hx
   obtain ⟨j,hj,rfl⟩:=List.getElem_of_mem hx
   have:=h1 j (Nat.zero_le _) hj
   rw [hb j hj] at this
   rw [this]; simp
  rw [this]; exact h2
def metL (J K:List (Int × Int)) (i k:Int):Bool:=J.any fun p=>K.any fun q=>(p.1 == i&&p.2 == q.1)&&q.2 == k
theorem T106_met (J K:List (Int × Int)) (hJ:J.length≤1000000) (hK:K.length≤1000000) (i k:Int):T106 N (J,K,i,k)=some (metL J K i k):=by
 have inner:∀ x (hx:x < J.length),loopR (R106x1682 N J K i k (x:Int)) N 0=some (if (K.any fun q=>(J[x].1 == i&&J[x].2 == q.1)&&q.2 == k) then .inl true else .inr ()):=fun x hx=>by
  obtain ⟨a1,a2⟩:=at46g J hx
  refine any_loop K (fun q=>(J[x].1 == i&&J[x].2 == q.1)&&q.2 == k) (fun y hy=>?_) ?_ N (by unfold Big at hN; omega)
  ·obtain ⟨b1,b2⟩:=at46g K hy
   simp only [R106x1682,List.length_map,Int.toNat_natCast,lt_range hy,in_range hy,in_range hx,a1,a2,b1,b2,Bool.and_self,cond_true]
   cases h1:(J[x].1 == i) <;> cases h2:(J[x].2 == K[y].1) <;> cases h3:(K[y].2 == k) <;> simp only [cond_true,cond_false,Option.bind_some,Bool.and_self,Bool.and_true,Bool.and_false,Bool.false_and,Bool.true_and,if_true,Bool.false_eq_true,if_false,w_succ (show y < 9223372036854775807 by omega)]
  ·simp only [R106x1682,List.length_map,ge_range,cond_false]
 rw [T106_eq,any_loop (rd:=R106x26 N J K i k) J (fun p=>K.any fun q=>(p.1 == i&&p.2 == q.1)&&q.2 == k) (fun x hx=>by
  simp only [R106x26,List.length_map,lt_range hx,cond_true,inner x hx,Option.bind_some]
  split
  ·rfl
  ·simp only [Sum.elim_inr,w_succ (show x < 9223372036854775807 by omega)]) (by simp only [R106x26,List.length_map,ge_range,cond_false]) N (by unfold Big at hN; omega),Option.bind_some]
 unfold metL
 cases J.any fun p=>K.any fun q=>(p.1 == i&&p.2 == q.1)&&q.2 == k <;> rfl
omit hN in
theorem foldl_snocif {α β:Type} (p:β→Bool) (g:β→α):∀ (l:List β) (s:List α),l.foldl (fun s k=>if p k then s++[g k] else s) s=s++(l.filter p).map g
 | [],s=>by simp
 | b :: l,s=>by
  rw [List.foldl_cons,foldl_snocif p g l]
  cases h:p b with
  | true=>simp [h]
  | false=>simp [h]
omit hN in
theorem foldl_apps {α β:Type} (g:β→List α):∀ (l:List β) (s:List α),l.foldl (fun s k=>s++g k) s=s++l.flatMap g
 | [],s=>by simp
 | b :: l,s=>by
  rw [List.foldl_cons,foldl_apps g l]
  simp
def rowM (J K:List (Int × Int)) (i:Int) (B:Nat):List (Int × Int):=((List.range (B+1)).filter fun k=>metL J K i ((k:Nat):Int)).map fun k=>(i,((k:Nat):Int))
def comL (J K:List (Int × Int)) (A B:Nat):List (Int × Int):=(List.range (A+1)).flatMap fun i=>rowM J K ((i:Nat):Int) B
omit hN in
theorem rowM_len (J K:List (Int × Int)) (i:Int) (B:Nat):(rowM J K i B).length≤B+1:=by
 unfold rowM
 rw [List.length_map]
 have:=List.length_filter_le (fun k=>metL J K i ((k:Nat):Int)) (List.range (B+1))
 rw [List.length_range] at this
 exact this
theorem R31_in (J K:List (Int × Int)) (hJ:J.length≤1000000) (hK:K.length≤1000000) (h1:1≤K.length) {B:Nat} (hB:(lst K).2=(B:Int)) (hB':B≤300) (v:(List (Int × Int)) × Int) (s0:List (Int × Int)) (hs:s0.length≤100000) :
  loopR (R31x3730 N J K v) N (s0,0)=some (s0++rowM J K v.2 B):=by
 have hk:K.length - 1 < K.length:=by omega
 have hw:IntKind.wrap .i64 ((K.length:Int) - 1)=((K.length - 1:Nat):Int):=by rw [w64 (by omega)]; omega
 obtain ⟨a1,a2⟩:=at46 K hk
 have a1:d46 (nthD (List.map n46 K) (K.length - 1))=lst K:=a1
 have key:=loopR_foldl (rd:=R31x3730 N J K v) (List.range (B+1)) (fun s k=>(s,(k:Int))) (fun s k=>if metL J K v.2 ((k:Nat):Int) then s++[(v.2,((k:Nat):Int))] else s) (fun s=>s) (fun s k=>s.length≤100000+k) (fun s k hk' hP=>by
  have hkB:k < B+1:=by simpa using hk'
  have hle:decide ((k:Int)≤(B:Int))=true:=decide_eq_true (by omega)
  have hb:decide ((s.length+1) * 16≤140737488355328)=true:=decide_eq_true (by omega)
  have hla:∀ p:Int × Int,(s++[p]).length=s.length+1:=fun p=>by simp
  rw [List.getElem_range]
  have hm:=T106_met hN J K hJ hK v.2 ((k:Nat):Int)
  cases hh:metL J K v.2 ((k:Nat):Int) with
  | true=>
   rw [hh] at hm
   refine ⟨?_,by rw [if_pos rfl,hla]; omega⟩
   simp only [R31x3730,List.length_map,hw,Int.toNat_natCast,a1,a2,in_range hk,hB,hle,Bool.and_self,Bool.and_true,cond_true,fa46,md46,Option.bind_some,hm,hb,decide_true,snoc46,hla,if_true,w_succ (show k < 9223372036854775807 by omega)]
  | false=>
   rw [hh] at hm
   refine ⟨?_,by rw [if_neg (by simp)]; omega⟩
   simp only [R31x3730,List.length_map,hw,Int.toNat_natCast,a1,a2,in_range hk,hB,hle,Bool.and_self,Bool.and_true,cond_true,cond_false,fa46,md46,Option.bind_some,hm,decide_true,Bool.false_eq_true,if_false,w_succ (show k < 9223372036854775807 by omega)]) (fun s _=>by
  have hgt:decide (((B+1:Nat):Int)≤(B:Int))=false:=decide_eq_false (by omega)
  simp only [R31x3730,List.length_range,List.length_map,hw,Int.toNat_natCast,a1,a2,in_range hk,hB,hgt,Bool.and_self,Bool.and_true,cond_true,cond_false,fa46,md46,Option.bind_some,decide_true]) N s0 0 (Nat.zero_le _) (by rw [List.length_range]; unfold Big at hN; omega) hs
 have key':loopR (R31x3730 N J K v) N (s0,0)=_:=key
 rw [key',List.drop_zero,foldl_snocif (fun k=>metL J K v.2 ((k:Nat):Int)) (fun k=>(v.2,((k:Nat):Int)))]
 rfl
theorem T31_com (J K:List (Int × Int)) (hJ:J.length≤1000000) (hK:K.length≤1000000) (h0:1≤J.length) (h1:1≤K.length) {A B:Nat} (hA:(lst J).1=(A:Int)) (hA':A≤299) (hB:(lst K).2=(B:Int)) (hB':B≤299) :
  T31 N (J,K)=some (comL J K A B):=by
 have hk:J.length - 1 < J.length:=by omega
 have hw:IntKind.wrap .i64 ((J.length:Int) - 1)=((J.length - 1:Nat):Int):=by rw [w64 (by omega)]; omega
 obtain ⟨a1,a2⟩:=at46 J hk
 have a1:d46 (nthD (List.map n46 J) (J.length - 1))=lst J:=a1
 have key:=loopR_foldl (rd:=R31x58 N J K) (List.range (A+1)) (fun s i=>(s,(i:Int))) (fun s i=>s++rowM J K ((i:Nat):Int) B) (fun s=>s) (fun s i=>s.length≤300 * i) (fun s i hi' hP=>by
  have hi:i < A+1:=by simpa using hi'
  have hle:decide ((i:Int)≤(A:Int))=true:=decide_eq_true (by omega)
  have hin:=R31_in hN J K hJ hK h1 hB (by omega) (s,((i:Nat):Int)) s (by omega)
  have hrl:=rowM_len J K ((i:Nat):Int) B
  rw [List.getElem_range]
  refine ⟨?_,by rw [List.length_append]; omega⟩
  simp only [R31x58,List.length_map,hw,Int.toNat_natCast,a1,a2,in_range hk,hA,hle,Bool.and_self,Bool.and_true,cond_true,fa46,md46,Option.bind_some,hin,decide_true,w_succ (show i < 9223372036854775807 by omega)]) (fun s _=>by
  have hgt:decide (((A+1:Nat):Int)≤(A:Int))=false:=decide_eq_false (by omega)
  simp only [R31x58,List.length_range,List.length_map,hw,Int.toNat_natCast,a1,a2,in_range hk,hA,hgt,Bool.and_self,Bool.and_true,cond_true,cond_false,fa46,md46,Option.bind_some,decide_true]) N [] 0 (Nat.zero_le _) (by rw [List.length_range]; unfold Big at hN; omega) (by simp)
 have key':loopR (R31x58 N J K) N ([],0)=_:=key
 have z:((bif (allFit (Pat.fits p46) ([]:List AV)&&true) then some ((List.map d46 ([]:List AV)),0) else none:Option ((List (Int × Int)) × Int)).bind fun w19=>bif (decide (0=(List.map n46 w19.1).length)&&true) then some w19 else none)=some ([],0):=rfl
 rw [T31_eq,z,Option.bind_some,key',List.drop_zero,foldl_apps,List.nil_append,Option.bind_some]
 simp only [fa46,md46,cond_true]
 rfl
end
theorem comL_mem (J K:List (Int × Int)) (A B:Nat) (x:Int × Int):x∈comL J K A B↔(0≤x.1∧x.1≤(A:Int))∧(0≤x.2∧x.2≤(B:Int))∧metL J K x.1 x.2=true:=by
 unfold comL rowM
 simp only [List.mem_flatMap,List.mem_map,List.mem_filter,List.mem_range]
 constructor
 ·rintro ⟨i,hi,k,⟨hk,hm⟩,rfl⟩
  exact ⟨by simp only; omega,by simp only; omega,hm⟩
 ·rintro ⟨⟨h1,h2⟩,⟨h3,h4⟩,hm⟩
  refine ⟨x.1.toNat,by omega,x.2.toNat,⟨by omega,?_⟩,?_⟩
  ·rw [Int.toNat_of_nonneg h1,Int.toNat_of_nonneg h3]; exact hm
  ·rw [Int.toNat_of_nonneg h1,Int.toNat_of_nonneg h3]
theorem comL_asc (J K:List (Int × Int)) (A B:Nat):Asc (ltOf cfP) (comL J K A B):=by
 unfold Asc comL
 rw [List.pairwise_flatMap]
 refine ⟨fun i _=>?_,?_⟩
 ·unfold rowM
  rw [List.pairwise_map]
  refine ((List.pairwise_lt_range (n:=B+1)).filter _).imp fun {a b} h=>?_
  rw [cfP_lt]
  exact decide_eq_true (.inr ⟨rfl,by simp only; omega⟩)
 ·refine (List.pairwise_lt_range (n:=A+1)).imp fun {a b} h x hx y hy=>?_
  unfold rowM at hx hy
  obtain ⟨_,_,rfl⟩:=List.mem_map.1 hx
  obtain ⟨_,_,rfl⟩:=List.mem_map.1 hy
  rw [cfP_lt]
  exact decide_eq_true (.inl (by simp only; omega))
theorem metL_iff (J K:List (Int × Int)) (i k:Int):metL J K i k=true↔∃ p∈J,∃ q∈K,p.1=i∧p.2=q.1∧q.2=k:=by
 unfold metL
 simp only [List.any_eq_true,Bool.and_eq_true,beq_iff_eq,and_assoc]
end Go.Proofs.YtfiopgedfcaodaaGreatDoor
