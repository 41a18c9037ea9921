/- Plain laws: what two joins make,as the reference finds it. -/
import Derived.Test.YtfiopgedfcaodaaGreatDoorSeamKC
import Derived.Test.YtfiopgedfcaodaaGreatDoorSeamKA
set_option linter.all false
namespace Go.Proofs.YtfiopgedfcaodaaGreatDoor
open Go Go.Am Go.Sort
set_option maxRecDepth 100000
def lst (l:List (Int × Int)):Int × Int:=l.getD (l.length - 1) (0,0)
def chkT (l:List (Int × Int)):Int:=
 if l.length=0 then 12
 else if firstNZ [rng (lst l).1 0 255,rng (lst l).2 0 255]≠0 then firstNZ [rng (lst l).1 0 255,rng (lst l).2 0 255]
 else chkJ ((lst l).1+1) ((lst l).2+1) l
theorem rng2_zero {a b:Int} (h:firstNZ [rng a 0 255,rng b 0 255]=0):(0≤a∧a≤255)∧0≤b∧b≤255:=by
 have:=firstNZ_zero.1 h
 have h1:=this (rng a 0 255) (by simp)
 have h2:=this (rng b 0 255) (by simp)
 unfold rng at h1 h2
 split at h1
 ·cases h1
 ·split at h2
  ·cases h2
  ·omega
theorem ff24 (x y:Int):allFit (Pat.fits p24) [AV.int .i64 x,AV.int .i64 y]=true:=rfl
theorem mm24 (x y:Int):List.map d24 [AV.int .i64 x,AV.int .i64 y]=[x,y]:=rfl
section
variable {N:Nat} (hN:Big N)
include hN
theorem T99_chk (l:List (Int × Int)) (hl:l.length≤1000000):T99 N l=some (chkT l):=by
 rw [T99_eq]
 simp only [List.length_map]
 unfold chkT
 by_cases h0:l.length=0
 ·have e:((l.length:Int) == 0)=true:=by simp [h0]
  rw [e,cond_true,if_pos h0]
 ·have e:((l.length:Int) == 0)=false:=by simp; intro h; simp [h] at h0
  have hk:l.length - 1 < l.length:=by omega
  have hw:IntKind.wrap .i64 ((l.length:Int) - 1)=((l.length - 1:Nat):Int):=by rw [w64 (by omega)]; omega
  obtain ⟨a1,a2⟩:=at46 l hk
  have a1:d46 (nthD (List.map n46 l) (l.length - 1))=lst l:=a1
  rw [e,cond_false,if_neg h0]
  simp only [hw,Int.toNat_natCast,a1,a2,in_range hk,Bool.and_self,Bool.and_true,cond_true,T93_rng,Option.bind_some,beq_self_eq_true,ff24,mm24]
  rw [T90_first hN _ (by simp),Option.bind_some]
  by_cases hz:firstNZ [rng (lst l).1 0 255,rng (lst l).2 0 255]=0
  ·obtain ⟨⟨b1,b2⟩,b3,b4⟩:=rng2_zero hz
   rw [hz,if_neg (fun c=>c rfl)]
   simp only [bne_self_eq_false,cond_false,fa46,md46,Bool.and_true,cond_true,Option.bind_some,w64 (show -9223372036854775808≤(lst l).1+1∧(lst l).1+1≤9223372036854775807 by omega),w64 (show -9223372036854775808≤(lst l).2+1∧(lst l).2+1≤9223372036854775807 by omega),T19_chk hN l hl]
  ·rw [if_pos hz,show (firstNZ [rng (lst l).1 0 255,rng (lst l).2 0 255] != 0)=true from bne_iff_ne.2 hz]
   rfl
def metL (J K:List (Int × Int)) (i k:Int):Bool:=J.any fun p=>K.any fun q=>(p.1 == i&&p.2 == q.1)&&q.2 == k
end
theorem metL_iff (J K:List (Int × Int)) (i k:Int):metL J K i k=true↔∃ p∈J,∃ q∈K,p.1=i∧p.2=q.1∧q.2=k:=by
 unfold metL
 simp only [List.any_eq_true,Bool.and_eq_true,beq_iff_eq,and_assoc]
end Go.Proofs.YtfiopgedfcaodaaGreatDoor
