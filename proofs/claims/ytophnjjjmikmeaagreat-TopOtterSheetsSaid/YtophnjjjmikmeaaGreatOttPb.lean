/- Plain laws: words. -/
import Derived.Test.YtophnjjjmikmeaaGreatOttP
set_option linter.all false
namespace Go.Proofs.YtophnjjjmikmeaaGreat
open Go Go.Am
set_option maxRecDepth 100000
theorem FQ (x:Int):aq.fits qW (AV.int .i64 x)=true:=rfl
theorem FR (x:Int):d30 (AV.int .i64 x)=x:=rfl
def zY (c:Int):Bool:=c == 78 || (c == 66 || c == 84)
def xq (b:UInt8):Bool:=zY (b.toNat:Int)
theorem Sy (N:Nat) (c:Int):Tz N c=some (zY c):=by
 rw [OA]; unfold zY; cases c == 78 <;> cases c == 66 <;> rfl
theorem Sz (N:Nat) (c:Int):TE N c=some (zY c):=by
 rw [OW]; unfold zY; cases c == 78 <;> cases c == 66 <;> rfl
def dS (w:List UInt8):Int:=if w=[] then 12 else if w.length > 64 then 26 else if w.all xq then 0 else 1
theorem wo {w:List UInt8} (h:dS w=0):w≠[]∧w.length≤64∧w.all xq=true:=by
 unfold dS at h
 split at h
 ·cases h
 ·split at h
  ·cases h
  ·split at h
   ·rename_i h1 h2 h3; exact ⟨h1,by omega,h3⟩
   ·cases h
theorem FT {α:Type} (p:α→Bool) (l:List α):foldI (fun (_:Unit) a=>if p a then (.inl ():Unit ⊕ Unit) else .inr ()) () l=if l.all p then .inl () else .inr ():=by
 induction l with
 | nil=>rfl
 | cons a l ih=>
  simp only [foldI,List.all_cons]
  by_cases h:p a=true
  ·simp [h,ih]
  ·simp [h,Bool.cond_eq_ite]
theorem IB {N:Nat} (hN:gQ N) (w:List UInt8):TF N w=some (dS w):=by
 rw [OY]
 unfold dS
 by_cases h0:w=[]
 ·simp [h0]
 ·have SA:(w == ([]:List UInt8))=false:=by simpa using h0
  by_cases h1:w.length > 64
  ·have:(w.length:Int) > 64:=by omega
   simp [h0,SA,h1,this]
  ·have jP:¬ (w.length:Int) > 64:=by omega
   simp only [SA,jP,h0,h1,decide_false,cond_false,if_false]
   have key:=jJ (rd:=qz N w) w (fun (_:Unit) k=>(k:Int)) (fun _ (c:UInt8)=>if xq c then (.inl ():Unit ⊕ Unit) else .inr ()) (fun _=>.inr ()) (fun _=>.inl 1) (fun _ _=>True)
    (fun _ k hk _=>by
     refine ⟨?_,fun _ _=>trivial⟩
     have e1:w.getD k 0=w[k]:=by simp [hk]
     simp only [qz,Int.toNat_natCast,ck hk,bV hk,cond_true,e1,Sz,Option.bind_some,ea (by omega:k < 9223372036854775807)]
     change (bif !xq w[k] then _ else _)=_
     cases xq w[k] <;> rfl)
    (fun _ _=>by simp only [qz,cT,cond_false]) N () 0 (Nat.zero_le _) (by unfold gQ at hN; omega) trivial
   have wq:a6 (V:=Int) (X:=Int ⊕ Unit) (qz N w) N 0=_:=key
   rw [wq,List.drop_zero,FT]
   cases w.all xq <;> rfl
theorem yx {c:Int} (h:128≤c):zY c=false:=by
 unfold zY
 have h1:(c == 78)=false:=by simp; omega
 have h2:(c == 66)=false:=by simp; omega
 have h3:(c == 84)=false:=by simp; omega
 rw [h1,h2,h3]; rfl
theorem sT (w:List UInt8) (k:Nat) (hk:k < w.length):zY ((bA w k).1:Int)=xq w[k]∧(xq w[k]=true→bA w k=(w[k].toNat,1)):=by
 obtain ⟨h1,h2⟩:=Kr w k hk
 by_cases h:w[k].toNat < 128
 ·rw [h1 h]; exact ⟨rfl,fun _=>rfl⟩
 ·have e1:=yx (c:=((bA w k).1:Int)) (by have:=h2 (by omega); omega)
  have e2:xq w[k]=false:=yx (c:=(w[k].toNat:Int)) (by omega)
  rw [e1,e2]
  exact ⟨rfl,fun h=>by cases h⟩
theorem BF {a b:Nat} (h:a < b):Nat.blt a b=true:=Nat.ble_eq_true_of_le h
theorem yy {a b:Nat} (h:¬ a < b):Nat.blt a b=false:=by
 cases hb:Nat.blt a b with
 | false=>rfl
 | true=>exact absurd (Nat.le_of_ble_eq_true hb) h
theorem IC {N:Nat} (hN:gQ N) (w:List UInt8):TA N w=some (dS w):=by
 rw [OC]
 simp only [qB,Option.bind_some,allFit,FQ,FR,List.map_cons,List.map_nil,Bool.and_self,cond_true,yw hN _ (show [_,_].length≤9223372036854775806 by simp),aX]
 unfold dS
 by_cases h0:w=[]
 ·simp [h0]
 ·have SA:(w == ([]:List UInt8))=false:=by simpa using h0
  by_cases h1:w.length > 64
  ·have:(w.length:Int) > 64:=by omega
   simp [h0,SA,h1,this]
  ·have jP:¬ (w.length:Int) > 64:=by omega
   simp only [SA,jP,h0,h1,decide_false,cond_false,if_false,Bool.false_eq_true,if_true,bne_self_eq_false]
   have gen:∀ n k,k≤w.length→w.length < n+k→∃ o,a6 (v7 N) n (w,(k:Int))=some o∧Sum.elim (fun _=>(0:Int)) (fun o=>o.1) o=if (w.drop k).all xq then 0 else 1:=by
    intro n
    induction n with
    | zero=>intro k h1 h2; omega
    | succ n ih=>
     intro k hk hn
     rw [dK]
     by_cases bM:k < w.length
     ·obtain ⟨r1,r2⟩:=sT w k bM
      simp only [v7,Int.toNat_natCast,BF bM,cond_true,Sy,Option.bind_some,r1,List.drop_eq_getElem_cons bM,List.all_cons]
      cases hl:xq w[k] with
      | true=>
       rw [r2 hl]
       simp only [Bool.not_true,cond_false,Option.bind_some,Sum.elim_inl,Bool.true_and]
       exact ih (k+1) (by omega) (by omega)
      | false=>exact ⟨_,rfl,by simp⟩
     ·have:k=w.length:=by omega
      subst this
      simp only [v7,Int.toNat_natCast,yy (Nat.lt_irrefl _),cond_false,Option.bind_some,Sum.elim_inr]
      exact ⟨_,rfl,by simp⟩
   obtain ⟨o,h2,h3⟩:=gen N 0 (Nat.zero_le _) (by unfold gQ at hN; omega)
   have Ro:a6 (V:=(List UInt8) × Int) (X:=((List UInt8) × Int) ⊕ (Int × (List UInt8) × Int)) (v7 N) N (w,((0:Nat):Int))=some o:=h2
   rw [Ro,Option.bind_some]
   rw [List.drop_zero] at h3
   rcases o with o | o
   ·simpa using h3
   ·simpa using h3
theorem ID {n lo hi:Int} (h:qv n lo hi=0):lo≤n∧n≤hi:=by
 unfold qv at h
 split at h
 ·cases h
 ·omega
section
variable {N:Nat} (hN:gQ N) (a:List UInt8) (m:Int) (b:List UInt8) (n:Int)
include hN
end
end Go.Proofs.YtophnjjjmikmeaaGreat
