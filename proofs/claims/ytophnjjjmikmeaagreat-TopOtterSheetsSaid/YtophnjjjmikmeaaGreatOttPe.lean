/- Plain laws: vectors and rates. -/
import Derived.Test.YtophnjjjmikmeaaGreatOttPb
set_option linter.all false
namespace Go.Proofs.YtophnjjjmikmeaaGreat
open Go Go.Am
set_option maxRecDepth 100000
theorem getD_at {l:List UInt8} {k:Nat} (h:k < l.length):l.getD k 0=l[k]:=by simp [h]
theorem FU (s:List UInt8) (k:Nat) (hk:k < s.length):True∧True∧((xq s[k]=true∨False)→bA s k=(s[k].toNat,1)):=⟨trivial,trivial,fun h=>(sT s k hk).2 (h.resolve_right id)⟩
theorem yz {c:UInt8} (h:xq c=true):c=78∨c=66∨c=84:=by
 unfold xq zY at h
 simp only [Bool.or_eq_true,beq_iff_eq] at h
 rcases h with h | h | h
 ·exact .inl (UInt8.toNat_inj.1 (by simpa using (show c.toNat=78 by omega)))
 ·exact .inr (.inl (UInt8.toNat_inj.1 (by simpa using (show c.toNat=66 by omega))))
 ·exact .inr (.inr (UInt8.toNat_inj.1 (by simpa using (show c.toNat=84 by omega))))
def bg (b:UInt8):Int × Int:=if b=78 then (0,2) else if b=66 then (1,1) else (2,0)
def jR (a:Int × Int) (b:UInt8):Int × Int:=(a.1+(bg b).1,a.2+(bg b).2)
def vec (w:List UInt8):Int × Int:=w.foldl jR (0,0)
theorem fI (b:UInt8):0≤(bg b).1∧0≤(bg b).2∧(bg b).1+(bg b).2=2:=by
 unfold bg
 split
 ·simp
 ·split <;> simp
theorem IE (w:List UInt8):∀ a:Int × Int,0≤a.1→0≤a.2→0≤(w.foldl jR a).1∧0≤(w.foldl jR a).2∧(w.foldl jR a).1+(w.foldl jR a).2=a.1+a.2+2 * w.length:=by
 induction w with
 | nil=>intro a h1 h2; simp [h1,h2]
 | cons b w ih=>
  intro a h1 h2
  obtain ⟨s1,s2,s3⟩:=fI b
  obtain ⟨q1,q2,q3⟩:=ih (jR a b) (by unfold jR; simp only; omega) (by unfold jR; simp only; omega)
  refine ⟨q1,q2,?_⟩
  rw [List.foldl_cons,q3,List.length_cons]
  unfold jR
  simp only
  omega
theorem wu (w:List UInt8):0≤(vec w).1∧0≤(vec w).2∧(vec w).1+(vec w).2=2 * w.length:=by
 have:=IE w (0,0) (by simp) (by simp)
 unfold vec
 simpa using this
def SB (a:Int × Int) (k:Nat):Prop:=0≤a.1∧0≤a.2∧a.1+a.2=2 * k
theorem SB.add {a:Int × Int} {k:Nat} (h:SB a k) (b:UInt8):SB (jR a b) (k+1):=by
 obtain ⟨h1,h2,h3⟩:=h
 obtain ⟨s1,s2,s3⟩:=fI b
 unfold SB jR
 simp only
 refine ⟨by omega,by omega,by omega⟩
def dL:List (Int × (Int × Int)):=[(78,(0,2)),(66,(1,1)),(84,(2,0))]
theorem DB {c:UInt8} (h:xq c=true):(dc .int (AV.int .i32 (c.toNat:Int)) (ae (List.map da dL))&&aq.fits yu (b8 .int (AV.int .i32 (c.toNat:Int)) (AV.agg [(AV.int .i64 0),(AV.int .i64 0)]) (ae (List.map da dL))))=true ∧
  d46 (b8 .int (AV.int .i32 (c.toNat:Int)) (AV.agg [(AV.int .i64 0),(AV.int .i64 0)]) (ae (List.map da dL)))=bg c:=by
 rcases yz h with rfl | rfl | rfl <;> exact ⟨rfl,rfl⟩
theorem FV:(allFit (aq.fits nh) (ao (ae (List.map da dL)))&&true)=true∧List.map qy (ao (ae (List.map da dL)))=dL∧(bZ (ae (List.map da dL))&&true)=true:=⟨rfl,rfl,rfl⟩
section
variable {N:Nat} (hN:gQ N)
include hN
end
def Lm (a b:Int × Int):Int × Int:=(a.1+b.1,a.2+b.2)
theorem o0:∀ (l:List UInt8) (a:Int × Int),l.foldl jR a=Lm a (vec l)
 | [],a=>by simp [vec,Lm]
 | c :: l,a=>by
  have h1:=o0 l (jR a c)
  have h2:=o0 l (jR (0,0) c)
  have hv:vec (c :: l)=l.foldl jR (jR (0,0) c):=rfl
  rw [List.foldl_cons,h1,hv,h2]
  simp only [Lm,jR]
  refine Prod.ext ?_ ?_ <;> simp only <;> omega
end Go.Proofs.YtophnjjjmikmeaaGreat
