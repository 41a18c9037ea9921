/- Signs: the program's answer is the reference's. -/
import Derived.Test.YtegoimldbgdeiaaTrwSk
import Derived.Test.YtegoimldbgdeiaaTrwTs
set_option linter.all false
namespace Go.Proofs.Ytegoimldbgdeiaa
open Go Go.Am
open List (map)
open Int (toNat)
open Go.IntKind (wrap)
open Go.Am.aL (fits)
set_option maxRecDepth 100000
theorem Of {t:aZ} (h:kG t=0):P1 t:=by
 obtain ⟨_,_,_,_,h5⟩:=Ed h;intro i hi;unfold wi at h5;rw [ld] at h5;have:=h5 (pz t (t.2.take i) t.2[i]) (by rw [List.mem_mapIdx]; exact ⟨i,hi,rfl⟩);unfold pz at this;split at this
 ·cases this
 ·rename_i hc;have hc:(dw t (t.2[i].1,t.2[i].2.1)&&dw t (t.2[i].2.2.1,t.2[i].2.2.2.1))=true:=by simpa using hc
  rw [Bool.and_eq_true] at hc;obtain ⟨k1,i1,e1,b1,_⟩:=qg hc.1;obtain ⟨k2,i2,e2,b2,_⟩:=qg hc.2;rw [lm t hi];injection e1 with e1 _;injection e2 with e2 _;exact ⟨k1,k2,e1,b1,e2,b2⟩
structure Fin (t:aZ) (y:List Int × List (List Int) × List Int):Prop where
 ls:y.1.length=t.1.length
 val:∀ q:Nat,q < t.1.length→gI y.1 q=1∨gI y.1 q=-1
 Tn:∀ q:Nat,q < t.1.length→∃ r:Nat,gI y.2.2 q=r∧r≤q∧gI y.1 r=1∧gI y.2.2 r=r∧th t (gL y.2.1 q) ((r:Int),false)=some ((q:Int),decide (gI y.1 q=-1))∧(gL y.2.1 q).length+1≤t.1.length
 inw:∀ q:Int,InW t (gL y.2.1 q)
 same:∀ i < t.2.length,gI y.2.2 (bj t i).1=gI y.2.2 (bj t i).2.2.1
theorem Tr {t:aZ} (hS:P1 t):Fin t (fF t t.1.length):=by
 have inv:=yQ hS t.1.length (Nat.le_refl _);have hl:(fF t t.1.length).1.length=t.1.length:=inv.ls;refine ⟨hl,fun q hq=>?_,fun q hq=>?_,fun q=>(Es t t.1.length).at q,fun i hi=>?_⟩
 ·exact (inv.val q).resolve_left (inv.low q hq)
 ·obtain ⟨r,w1,w2,w3,w4,w5,w6⟩:=inv.Tn q hq (inv.low q hq);have:=Gk (fF t t.1.length).1;have w6:(gL (fF t t.1.length).2.1 q).length+1≤nz (fF t t.1.length).1:=w6;exact ⟨r,w1,w2,w3,w4,w5,by omega⟩
 ·obtain ⟨A,B,hA,JW,hB,Mx⟩:=hS i hi;have c:=(inv.Yr A JW (inv.low A JW) List.not_mem_nil i hi (fun e=>absurd e (by omega))).1 hA;have c:=c.2;rw [hA];exact c.symm
section
variable {N:Nat} (hN:eZ N)
include hN
end
end Go.Proofs.Ytegoimldbgdeiaa
