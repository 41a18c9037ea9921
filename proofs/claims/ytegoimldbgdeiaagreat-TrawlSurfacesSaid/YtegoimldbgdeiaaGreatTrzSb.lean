/- A search along seams,with a queue: what it keeps. -/
import Derived.Test.YtegoimldbgdeiaaGreatTrzSa
set_option linter.all false
namespace Go.Proofs.YtegoimldbgdeiaaGreat
open Go Go.Am
open List (map)
open Int (toNat)
open Go.IntKind (wrap)
open Go.Am.aM (fits)
def gI (l:List Int) (k:Int):Int:=l.getD k.toNat 0
def gL (l:List (List Int)) (k:Int):List Int:=l.getD k.toNat []
def nz:List Int→Nat
 |[]=>0
 |x :: l=>(if x=0 then 0 else 1)+nz l
abbrev BS:=List Int × List Int × List (List Int) × List Int
def adu (s:oN) (a:Int):Int:=if s.2.2.1=a then s.1 else s.2.2.1
def ZE (s:oN) (a:Int) (sg:List Int):Prop:=(s.1≠a∧s.2.2.1≠a)∨gI sg (adu s a)≠0
instance (s:oN) (a:Int) (sg:List Int):Decidable (ZE s a sg):=by unfold ZE; infer_instance
def InS (t:bk):Prop:=∀ i < t.2.length,∃ a b:Nat,(fm t i).1=a∧a < t.1.length∧(fm t i).2.2.1=b∧b < t.1.length
structure Inv (t:bk) (p:Nat) (x:BS) (ex:Int) (k:Nat):Prop where
 ls:x.2.1.length=t.1.length
 lp:x.2.2.1.length=t.1.length
 lt:x.2.2.2.length=t.1.length
 val:∀ q:Nat,gI x.2.1 q=0∨gI x.2.1 q=1∨gI x.2.1 q=-1
 wal:∀ q:Nat,q < t.1.length→gI x.2.1 q≠0→∃ r:Nat,gI x.2.2.2 q=r∧r≤q∧gI x.2.1 r=1∧gI x.2.2.2 r=r ∧
  ZD t (gL x.2.2.1 q) ((r:Int),false)=some ((q:Int),decide (gI x.2.1 q=-1))∧(gL x.2.2.1 q).length+1≤nz x.2.1
 que:∀ e∈x.1,∃ q:Nat,e=q∧q < t.1.length∧gI x.2.1 q≠0∧gI x.2.2.2 q=p
 len:x.1.length≤nz x.2.1
 low:∀ q:Nat,q < p→gI x.2.1 q≠0
 emp:∀ q:Nat,gI x.2.1 q=0→gL x.2.2.1 q=[]
 clo:∀ q:Nat,q < t.1.length→gI x.2.1 q≠0→(q:Int)∉x.1→∀ i < t.2.length,((q:Int)=ex→i < k) →
  ((fm t i).1=q→gI x.2.1 (fm t i).2.2.1≠0∧gI x.2.2.2 (fm t i).2.2.1=gI x.2.2.2 q) ∧
  ((fm t i).2.2.1=q→gI x.2.1 (fm t i).1≠0∧gI x.2.2.2 (fm t i).1=gI x.2.2.2 q)
theorem Inv.done {t:bk} {p:Nat} {x:BS} {a:Int} (h:Inv t p x a t.2.length):Inv t p x (-1) 0:=
 ⟨h.ls,h.lp,h.lt,h.val,h.wal,h.que,h.len,h.low,h.emp,fun q hq zW sT i hi _=>h.clo q hq zW sT i hi fun _=>hi⟩
end Go.Proofs.YtegoimldbgdeiaaGreat
