/- The laws' frame: the listed variables,the world of the witness. -/
import Derived.Test.YtfiopgedfcaodaaGreatDoorSeamT
import Derived.Test.YtfiopgedfcaodaaGreatDoorAmKJ
import Derived.Test.YtfiopgedfcaodaaGreatDoorRows
import Derived.Test.YtfiopgedfcaodaaGreatDoorCards
import Derived.Test.YtfiopgedfcaodaaGreatDoorTie
import Derived.ChangeSame
import Derived.ChangeVars
import Derived.JoinedOf
import Derived.RowKit
import Derived.RowKitTokens
import Derived.LaidLaws
import Derived.LaidHandle
import Derived.Stop.Joined
import Derived.SevenTiedAt
import Derived.Deep.DeepLaidRun
set_option linter.all false
namespace Go.Proofs.YtfiopgedfcaodaaGreatDoor
open Go Go.Am Go.ChangeShapes Go.WideShapes Go.RowKit
set_option maxRecDepth 100000
theorem own:ownKnob Tryz.prog.godebug=none:=by kernel_rfl
theorem laidOut:laidOutB Tryz.prog=true:=by kernel_rfl
theorem Un:Tryz.prog.underlying 4=some .bool:=by kernel_rfl
abbrev uH:List (String × DataW Unit):=Rows.seamJoinsRow.laid
def XV:Nat→DataW Unit→List Value
 | 0,_=>[]
 | n+1,d=>match d with
  | .lit l=>[l.value]
  | .agg ps=>ps.flatMap (XV n)
  | _=>[]
noncomputable def Ly (h:Array Obj):Array Obj:=uH.foldl (fun h x=>match Tryz.prog.globalNamed x.1 with
 | some g=>h.modify g fun
   | .cells _ t frozen=>.cells (XV 4 x.2).toArray t frozen
   | o=>o
 | none=>h) h
noncomputable def Aq (os:Os):World:=
 let w0:=World.holding Tryz.prog os ⟨#[],#[],[]⟩
 { w0 with heap:=Ly w0.heap }
theorem zu (os:Os) (args:Array Value):laidMetH Tryz.prog uH ((Aq os).forCall (fun _ _=>0) ⟨#[],args,[]⟩).memory:=
 laidMetH_of_parts (laidMet_of_run3 8 (by kernel_rfl) (by kernel_rfl) (by kernel_rfl)) (by kernel_rfl)
def FU:List (Int × Int):=[(1,1),(1,-1),(-1,1),(-1,-1),(2,0),(-2,0),(0,2),(0,-2)]
theorem zv {l : List (String × DataW Unit)} (hl : ("codend/seam.steps", Rows.laid_codend_seam_steps) ∈ l) {W : World} (h : laidMet Tryz.prog l W) (g : Nat) (cs : List AV) (hg : bX.cw g = some cs) : dU (nX W) W g 0 cs := by
 obtain ⟨ps,h1,_⟩:=h
 have ze:KW g=some cs:=hg
 have h0:g=0∧cs=FU.flatMap fun x=>[.int .i64 x.1,.int .i64 x.2]:=by
  cases g with
  | zero=>
   refine ⟨rfl,?_⟩
   have:KW 0=some (FU.flatMap fun x=>[.int .i64 x.1,.int .i64 x.2]):=by kernel_rfl
   exact Option.some.inj (ze.symm.trans this)
  | succ g=>cases ze
 obtain ⟨rfl,rfl⟩:=h0
 exact yf (P := Tryz.prog) (nm := "codend/seam.steps") (xs := FU) (k := .i64) (t := 219) (e := 87) (ti := 3) (by kernel_rfl) (by kernel_rfl) (by kernel_rfl) Tryz.underlying87 (by kernel_rfl) (by kernel_rfl) (by kernel_rfl) (by kernel_rfl) (by kernel_rfl) (by kernel_rfl) (by kernel_rfl) (by kernel_rfl) (by decide) h1 hl
theorem BJ {W:World} (h:laidMetH Tryz.prog uH W) (g:Nat) (cs:List AV) (hg:bX.cw g=some cs):dU (nX W) W g 0 cs:=
 zv (l:=uH) (.tail _ (.tail _ (.tail _ (.head _)))) (show laidMet Tryz.prog uH W from h) g cs hg
theorem PC {fn:Func} (h:(fn.params.toList.all fun t=>!(Tryz.prog.wantsStandIn t))=true) (j:Nat) (t:TypeId) (ht:fn.params[j]?=some t):Tryz.prog.wantsStandIn t=false:=by
 have:=List.all_eq_true.1 h t (Array.mem_toList_iff.2 (Array.mem_of_getElem? ht))
 simpa using this
theorem readable {fn:Func} (h:(fn.params.toList.all fun t=>Tryz.prog.readableRec t&&Nat.blt t Tryz.prog.types.size)=true):∀ t∈fn.params.toList,Tryz.prog.readableRec t=true∧t < Tryz.prog.types.size:=fun t ht=>by
 have:=List.all_eq_true.1 h t ht
 rw [Bool.and_eq_true] at this
 exact ⟨this.1,Nat.le_of_ble_eq_true this.2⟩
theorem XW:mapsRowed Tryz.prog=true:=by kernel_rfl
theorem Uo:(Rows.seamJoinsRow.plainKeys == Tryz.prog.plainKeys)=true:=by kernel_rfl
theorem Up:Tryz.prog.stopsHeard=true:=by kernel_rfl
theorem Uq:Tryz.prog.mayEnter=true:=by kernel_rfl
theorem Ur:(Rows.seamJoinsRow.lifted == Tryz.prog.liftsFinal)=true:=by kernel_rfl
theorem Us:(Tryz.prog.stops == [])=true:=by kernel_rfl
theorem Ut:(Tryz.prog.stopKnobs == [])=true:=by kernel_rfl
end Go.Proofs.YtfiopgedfcaodaaGreatDoor
