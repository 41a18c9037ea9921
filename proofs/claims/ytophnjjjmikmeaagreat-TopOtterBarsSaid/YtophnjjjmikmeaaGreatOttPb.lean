/- Plain laws: words. -/
import Derived.Test.YtophnjjjmikmeaaGreatOttP
set_option linter.all false
namespace Go.Proofs.YtophnjjjmikmeaaGreat
open Go Go.Am
set_option maxRecDepth 100000
theorem Ip (x:Int):aj.fits u0 (AV.int .i64 x)=true:=rfl
theorem Iq (x:Int):d30 (AV.int .i64 x)=x:=rfl
def Bw (c:Int):Bool:=c == 78 || (c == 66 || c == 84)
def yU (b:UInt8):Bool:=Bw (b.toNat:Int)
theorem VK (N:Nat) (c:Int):WZ N c=some (Bw c):=by
 rw [RG]; unfold Bw; cases c == 78 <;> cases c == 66 <;> rfl
theorem VL (N:Nat) (c:Int):W8 N c=some (Bw c):=by
 rw [Sa]; unfold Bw; cases c == 78 <;> cases c == 66 <;> rfl
def eo (w:List UInt8):Int:=if w=[] then 12 else if w.length > 64 then 26 else if w.all yU then 0 else 1
theorem xF {w:List UInt8} (h:eo w=0):w≠[]∧w.length≤64∧w.all yU=true:=by
 unfold eo at h
 split at h
 ·cases h
 ·split at h
  ·cases h
  ·split at h
   ·rename_i h1 h2 h3; exact ⟨h1,by omega,h3⟩
   ·cases h
theorem Ir {α:Type} (p:α→Bool) (l:List α):foldI (fun (_:Unit) a=>if p a then (.inl ():Unit ⊕ Unit) else .inr ()) () l=if l.all p then .inl () else .inr ():=by
 induction l with
 | nil=>rfl
 | cons a l ih=>
  simp only [foldI,List.all_cons]
  by_cases h:p a=true
  ·simp [h,ih]
  ·simp [h,Bool.cond_eq_ite]
theorem K7 {N:Nat} (hN:gU N) (w:List UInt8):W9 N w=some (eo w):=by
 rw [Sc]
 unfold eo
 by_cases h0:w=[]
 ·simp [h0]
 ·have VM:(w == ([]:List UInt8))=false:=by simpa using h0
  by_cases h1:w.length > 64
  ·have:(w.length:Int) > 64:=by omega
   simp [h0,VM,h1,this]
  ·have jZ:¬ (w.length:Int) > 64:=by omega
   simp only [VM,jZ,h0,h1,decide_false,cond_false,if_false]
   have key:=ky (rd:=rL N w) w (fun (_:Unit) k=>(k:Int)) (fun _ (c:UInt8)=>if yU c then (.inl ():Unit ⊕ Unit) else .inr ()) (fun _=>.inr ()) (fun _=>.inl 1) (fun _ _=>True)
    (fun _ k hk _=>by
     refine ⟨?_,fun _ _=>trivial⟩
     have e1:w.getD k 0=w[k]:=by simp [hk]
     simp only [rL,Int.toNat_natCast,cu hk,bP hk,cond_true,e1,VL,Option.bind_some,dy (by omega:k < 9223372036854775807)]
     change (bif !yU w[k] then _ else _)=_
     cases yU w[k] <;> rfl)
    (fun _ _=>by simp only [rL,du,cond_false]) N () 0 (Nat.zero_le _) (by unfold gU at hN; omega) trivial
   have pU:aZ (V:=Int) (X:=Int ⊕ Unit) (rL N w) N 0=_:=key
   rw [pU,List.drop_zero,Ir]
   cases w.all yU <;> rfl
theorem zW {c:Int} (h:128≤c):Bw c=false:=by
 unfold Bw
 have h1:(c == 78)=false:=by simp; omega
 have h2:(c == 66)=false:=by simp; omega
 have h3:(c == 84)=false:=by simp; omega
 rw [h1,h2,h3]; rfl
theorem uc (w:List UInt8) (k:Nat) (hk:k < w.length):Bw ((bJ w k).1:Int)=yU w[k]∧(yU w[k]=true→bJ w k=(w[k].toNat,1)):=by
 obtain ⟨h1,h2⟩:=Ng w k hk
 by_cases h:w[k].toNat < 128
 ·rw [h1 h]; exact ⟨rfl,fun _=>rfl⟩
 ·have e1:=zW (c:=((bJ w k).1:Int)) (by have:=h2 (by omega); omega)
  have e2:yU w[k]=false:=zW (c:=(w[k].toNat:Int)) (by omega)
  rw [e1,e2]
  exact ⟨rfl,fun h=>by cases h⟩
theorem Da {a b:Nat} (h:a < b):Nat.blt a b=true:=Nat.ble_eq_true_of_le h
theorem zX {a b:Nat} (h:¬ a < b):Nat.blt a b=false:=by
 cases hb:Nat.blt a b with
 | false=>rfl
 | true=>exact absurd (Nat.le_of_ble_eq_true hb) h
theorem K8 {N:Nat} (hN:gU N) (w:List UInt8):W0 N w=some (eo w):=by
 rw [RI]
 simp only [rM,Option.bind_some,allFit,Ip,Iq,List.map_cons,List.map_nil,Bool.and_self,cond_true,zV hN _ (show [_,_].length≤9223372036854775806 by simp),bg]
 unfold eo
 by_cases h0:w=[]
 ·simp [h0]
 ·have VM:(w == ([]:List UInt8))=false:=by simpa using h0
  by_cases h1:w.length > 64
  ·have:(w.length:Int) > 64:=by omega
   simp [h0,VM,h1,this]
  ·have jZ:¬ (w.length:Int) > 64:=by omega
   simp only [VM,jZ,h0,h1,decide_false,cond_false,if_false,Bool.false_eq_true,if_true,bne_self_eq_false]
   have gen:∀ n k,k≤w.length→w.length < n+k→∃ o,aZ (xA N) n (w,(k:Int))=some o∧Sum.elim (fun _=>(0:Int)) (fun o=>o.1) o=if (w.drop k).all yU then 0 else 1:=by
    intro n
    induction n with
    | zero=>intro k h1 h2; omega
    | succ n ih=>
     intro k hk hn
     rw [bf]
     by_cases bK:k < w.length
     ·obtain ⟨r1,r2⟩:=uc w k bK
      simp only [xA,Int.toNat_natCast,Da bK,cond_true,VK,Option.bind_some,r1,List.drop_eq_getElem_cons bK,List.all_cons]
      cases hl:yU w[k] with
      | true=>
       rw [r2 hl]
       simp only [Bool.not_true,cond_false,Option.bind_some,Sum.elim_inl,Bool.true_and]
       exact ih (k+1) (by omega) (by omega)
      | false=>exact ⟨_,rfl,by simp⟩
     ·have:k=w.length:=by omega
      subst this
      simp only [xA,Int.toNat_natCast,zX (Nat.lt_irrefl _),cond_false,Option.bind_some,Sum.elim_inr]
      exact ⟨_,rfl,by simp⟩
   obtain ⟨o,h2,h3⟩:=gen N 0 (Nat.zero_le _) (by unfold gU at hN; omega)
   have UN:aZ (V:=(List UInt8) × Int) (X:=((List UInt8) × Int) ⊕ (Int × (List UInt8) × Int)) (xA N) N (w,((0:Nat):Int))=some o:=h2
   rw [UN,Option.bind_some]
   rw [List.drop_zero] at h3
   rcases o with o | o
   ·simpa using h3
   ·simpa using h3
theorem K9 {n lo hi:Int} (h:uz n lo hi=0):lo≤n∧n≤hi:=by
 unfold uz at h
 split at h
 ·cases h
 ·omega
section
variable {N:Nat} (hN:gU N) (a:List UInt8) (m:Int) (b:List UInt8) (n:Int)
include hN
end
end Go.Proofs.YtophnjjjmikmeaaGreat
