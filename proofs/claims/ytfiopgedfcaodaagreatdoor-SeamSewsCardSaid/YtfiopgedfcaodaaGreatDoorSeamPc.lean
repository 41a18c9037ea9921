/- Plain laws: what is sewn,its classes,degrees and counts. -/
import Derived.Test.YtfiopgedfcaodaaGreatDoorSeamTc
import Derived.Test.YtfiopgedfcaodaaGreatDoorSeamPs
import Derived.Test.YtfiopgedfcaodaaGreatDoorSeamPv
import Derived.Test.YtfiopgedfcaodaaGreatDoorAmKK
set_option linter.all false
namespace Go.Proofs.YtfiopgedfcaodaaGreatDoor
open Go Go.Am
set_option maxRecDepth 100000
abbrev P3:=Int × Int × Int
theorem at53 (C:List (List P3)) {k:Nat} (hk:k < C.length):d53 (nthD (List.map n53 C) k) = C[k] ∧ Pat.fits p53 (nthD (List.map n53 C) k) = true:=by
 rw [nthD_map n53 C k hk,dn53,fn53]; exact ⟨rfl,rfl⟩
theorem at63 (C:List (List P3)) {k:Nat} (hk:k < C.length):d63 (nthD (List.map n63 C) k) = C[k] ∧ Pat.fits p63 (nthD (List.map n63 C) k) = true:=by
 rw [nthD_map n63 C k hk,dn63,fn63]; exact ⟨rfl,rfl⟩
theorem at94 (C:List P3) {k:Nat} (hk:k < C.length):d94 (nthD (List.map n94 C) k) = C[k] ∧ Pat.fits p94 (nthD (List.map n94 C) k) = true:=by
 rw [nthD_map n94 C k hk,dn94,fn94]; exact ⟨rfl,rfl⟩
theorem at89 (C:List P3) {k:Nat} (hk:k < C.length):d89 (nthD (List.map n89 C) k) = C[k] ∧ Pat.fits p89 (nthD (List.map n89 C) k) = true:=by
 rw [nthD_map n89 C k hk,dn89,fn89]; exact ⟨rfl,rfl⟩
theorem find_gen {V X:Type} {rd:V → Option (V ⊕ X)} (m:Nat) (E:Nat → V) (b:Nat → Bool) (y:Nat → X) (x:X)
  (h:∀ k,k < m → rd (E k) = some (if b k then .inr (y k) else .inl (E (k + 1)))) (h0:rd (E m) = some (.inr x)) (n:Nat) (hn:m < n) :
  loopR rd n (E 0) = some (match (List.range m).find? b with | some j=>y j | none=>x):=by
 have key:=loopR_fold (rd:=rd) (S:=Unit) (Y:=Nat) (List.range m) (fun _ k=>E k) (fun _ i=>if b i then .inr i else .inl ()) (fun _=>x) y (fun _ _=>True)
  (fun s k hk _=>by
   have hk:k < m:=by simpa using hk
   refine ⟨?_,fun _ _=>trivial⟩
   rw [List.getElem_range,h k hk]
   cases b k <;> rfl) (fun _ _=>by rw [List.length_range]; exact h0) n () 0 (Nat.zero_le _) (by simpa using hn) trivial
 rw [List.drop_zero] at key
 refine key.trans (congrArg some ?_)
 clear key h h0 hn
 generalize List.range m = l
 induction l with
 | nil=>rfl
 | cons a l ih=>
  simp only [foldI,List.find?_cons]
  cases b a with
  | true=>rfl
  | false=>simp only [Bool.false_eq_true,if_false,Sum.elim_inl]; exact ih
theorem eq_three (x p:P3):(x.1 == p.1 && ((x.2.1 == p.2.1 && (x.2.2 == p.2.2 && true)) && true)) = decide (x = p):=by
 obtain ⟨x1,x2,x3⟩:=x
 obtain ⟨y1,y2,y3⟩:=p
 simp only [Prod.mk.injEq,Bool.and_true]
 by_cases h1:x1 = y1 <;> by_cases h2:x2 = y2 <;> by_cases h3:x3 = y3 <;> simp [h1,h2,h3]
theorem rep3 (n:Nat):List.replicate n (AV.int .i64 0) = List.map n3 (List.replicate n 0):=by rw [List.map_replicate]; rfl
def atI (l:List P3) (p:P3):Int:=match (List.range l.length).find? fun j=>decide (l.getD j (0,0,0) = p) with | some j=>(j:Int) | none=>-1
section
variable {N:Nat} (hN:Big N) (C:List (List P3)) (B:List (Int × Int)) (hC:C.length ≤ 10000) (hB:B.length ≤ 10000) (hc:∀ c ∈ C,c.length ≤ 10000)
include hN hC hB hc
omit hC hB hc in
theorem T126_at (l:List P3) (p:P3) (hl:l.length ≤ 1000000000000):T126 N (l,p) = some (atI l p):=by
 rw [T126_eq]
 have q:=find_gen (rd:=R126x26 N l p) l.length (fun j=>(j:Int)) (fun j=>decide (l.getD j (0,0,0) = p)) (fun j=>.inl (j:Int)) (.inr ()) (fun j hj=>by
  obtain ⟨a1,a2⟩:=at89 l hj
  have e:l.getD j (0,0,0) = l[j]:=by simp [hj]
  simp only [R126x26,List.length_map,Int.toNat_natCast,a1,a2,lt_range hj,in_range hj,Bool.and_self,cond_true,e,eq_three,w_succ (show j < 9223372036854775807 by omega)]
  by_cases h:l[j] = p <;> simp [h]) (by simp only [R126x26,List.length_map,ge_range,cond_false]) N (by unfold Big at hN; omega)
 have q':loopR (R126x26 N l p) N 0 = _:=q
 rw [q',Option.bind_some]
 unfold atI
 cases (List.range l.length).find? fun j=>decide (l.getD j (0,0,0) = p) <;> rfl
end
end Go.Proofs.YtfiopgedfcaodaaGreatDoor
