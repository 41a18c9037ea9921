/- Plain laws: short programs. -/
import Derived.Test.YtldcljfjjoidhaaGreatDoorBraPm
set_option linter.all false
namespace Go.Proofs.YtldcljfjjoidhaaGreatDoor
open Go Go.Am Go.Sort
open List (map)
open Int (toNat)
open Go.IntKind (wrap)
open Go.Am.aT (fits)
set_option maxRecDepth 100000
section
variable {N:Nat} (hN:fB N)
include hN
theorem Wy (p:List bD) (n:Nat) (hn:n≤1000):∃ b,Ze N (p,(n:Int))=some b∧(b=true→(p.length≤n∨p.length=257)∧∀ c∈p,c.2.2.2.2≤12∨512 < c.2.2.2.2):=by
 rw [U4]
 simp only [List.length_map]
 by_cases hl:p.length≤n∨p.length=257
 ·have hp:p.length≤1000:=by omega
  have h1:((bif (decide ((p.length:Int) > (n:Int))) then (some ((p.length:Int) != 257)) else (some false)):Option Bool)=some false:=by
   by_cases h:p.length≤n
   ·rw [decide_eq_false (by omega)]; rfl
   ·have:p.length=257:=by omega
    rw [decide_eq_true (by omega),this]; rfl
  have q:=Dv (rd:=xI N p) p.length (fun k=>(k:Int)) (fun k=>decide ((p.getD k (0,0,false,false,0)).2.2.2.2 > 12)&&decide ((p.getD k (0,0,false,false,0)).2.2.2.2≤512)) (fun _=>Sum.inl false) (Sum.inr ()) (fun k hk=>by
   obtain ⟨a1,a2⟩:=Iq hN p hk
   have e:p.getD k (0,0,false,false,0)=p[k]:=by simp [hk]
   rw [e]
   simp only [xI,List.length_map,Int.toNat_natCast,a1,a2,bf hk,aO hk,Bool.and_self,cond_true,bA (show k < 9223372036854775807 by omega)]
   generalize p[k]=c at *
   cases decide (c.2.2.2.2 > 12) <;> cases decide (c.2.2.2.2≤512) <;> rfl) (by
   simp only [xI,List.length_map,bt,cond_false]) N (by unfold fB at hN; omega)
  have q':aG (xI N p) N 0=_:=q
  rw [h1,Option.bind_some,q']
  simp only [cond_false,Option.bind_some]
  cases hf:(List.range p.length).find? fun k=>decide ((p.getD k (0,0,false,false,0)).2.2.2.2 > 12)&&decide ((p.getD k (0,0,false,false,0)).2.2.2.2≤512) with
  | some j=>exact ⟨false,rfl,fun h=>by cases h⟩
  | none=>
   refine ⟨true,rfl,fun _=>⟨hl,fun c hc=>?_⟩⟩
   obtain ⟨k,hk,rfl⟩:=List.getElem_of_mem hc
   have:=List.find?_eq_none.1 hf k (List.mem_range.2 hk)
   have e:p.getD k (0,0,false,false,0)=p[k]:=by simp [hk]
   rw [e] at this
   simp only [Bool.and_eq_true,decide_eq_true_eq,not_and] at this
   omega
 ·have h1:((bif (decide ((p.length:Int) > (n:Int))) then (some ((p.length:Int) != 257)) else (some false)):Option Bool)=some true:=by
   rw [decide_eq_true (by omega),cond_true]
   exact congrArg some (bne_iff_ne.2 (by omega))
  rw [h1,Option.bind_some]
  exact ⟨false,rfl,fun h=>by cases h⟩
end
end Go.Proofs.YtldcljfjjoidhaaGreatDoor
