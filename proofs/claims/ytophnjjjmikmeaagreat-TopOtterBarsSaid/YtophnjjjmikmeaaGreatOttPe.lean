/- Plain laws: vectors and rates. -/
import Derived.Test.YtophnjjjmikmeaaGreatOttPb
set_option linter.all false
namespace Go.Proofs.YtophnjjjmikmeaaGreat
open Go Go.Am
set_option maxRecDepth 100000
theorem GM {l:List UInt8} {k:Nat} (h:k < l.length):l.getD k 0=l[k]:=by simp [h]
theorem Is (s:List UInt8) (k:Nat) (hk:k < s.length):True∧True∧((yU s[k]=true∨False)→bJ s k=(s[k].toNat,1)):=⟨trivial,trivial,fun h=>(uc s k hk).2 (h.resolve_right id)⟩
theorem zY {c:UInt8} (h:yU c=true):c=78∨c=66∨c=84:=by
 unfold yU Bw at h
 simp only [Bool.or_eq_true,beq_iff_eq] at h
 rcases h with h | h | h
 ·exact .inl (UInt8.toNat_inj.1 (by simpa using (show c.toNat=78 by omega)))
 ·exact .inr (.inl (UInt8.toNat_inj.1 (by simpa using (show c.toNat=66 by omega))))
 ·exact .inr (.inr (UInt8.toNat_inj.1 (by simpa using (show c.toNat=84 by omega))))
def cR (b:UInt8):Int × Int:=if b=78 then (0,2) else if b=66 then (1,1) else (2,0)
def VN (a:Int × Int) (b:UInt8):Int × Int:=(a.1+(cR b).1,a.2+(cR b).2)
theorem kz (b:UInt8):0≤(cR b).1∧0≤(cR b).2∧(cR b).1+(cR b).2=2:=by
 unfold cR
 split
 ·simp
 ·split <;> simp
def Xc (a:Int × Int) (k:Nat):Prop:=0≤a.1∧0≤a.2∧a.1+a.2=2 * k
theorem Xc.add {a:Int × Int} {k:Nat} (h:Xc a k) (b:UInt8):Xc (VN a b) (k+1):=by
 obtain ⟨h1,h2,h3⟩:=h
 obtain ⟨s1,s2,s3⟩:=kz b
 unfold Xc VN
 simp only
 refine ⟨by omega,by omega,by omega⟩
def dW:List (Int × (Int × Int)):=[(78,(0,2)),(66,(1,1)),(84,(2,0))]
theorem FD {c:UInt8} (h:yU c=true):(cH .int (AV.int .i32 (c.toNat:Int)) (ab (List.map dv dW))&&aj.fits WW (bu .int (AV.int .i32 (c.toNat:Int)) (AV.agg [(AV.int .i64 0),(AV.int .i64 0)]) (ab (List.map dv dW))))=true ∧
  d46 (bu .int (AV.int .i32 (c.toNat:Int)) (AV.agg [(AV.int .i64 0),(AV.int .i64 0)]) (ab (List.map dv dW)))=cR c:=by
 rcases zY h with rfl | rfl | rfl <;> exact ⟨rfl,rfl⟩
theorem It:(allFit (aj.fits n9) (ah (ab (List.map dv dW)))&&true)=true∧List.map rK (ah (ab (List.map dv dW)))=dW∧(bo (ab (List.map dv dW))&&true)=true:=⟨rfl,rfl,rfl⟩
section
variable {N:Nat} (hN:gU N)
include hN
end
end Go.Proofs.YtophnjjjmikmeaaGreat
