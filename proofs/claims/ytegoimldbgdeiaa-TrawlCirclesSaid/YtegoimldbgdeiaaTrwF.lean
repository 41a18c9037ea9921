/- The laws' frame: the world of the witness. -/
import Derived.Test.YtegoimldbgdeiaaSeamKC
import Derived.Test.YtegoimldbgdeiaaAmKL
import Derived.Test.YtegoimldbgdeiaaRows
import Derived.ChangeSame
import Derived.ChangeVars
import Derived.JoinedOf
import Derived.RowKit
import Derived.RowKitTokens
import Derived.Handed
set_option linter.all false
namespace Go.Proofs.Ytegoimldbgdeiaa
open Go Go.Am Go.ChangeShapes Go.WideShapes Go.RowKit
open List (map)
open Int (toNat)
open Go.IntKind (wrap)
open Go.Am.aL (fits)
set_option maxRecDepth 100000
theorem own:ownKnob Try.prog.godebug=none:=by kernel_rfl
theorem laidOut:laidOutB Try.prog=true:=by kernel_rfl
theorem abw:Try.prog.underlying 4=some .bool:=by kernel_rfl
theorem abx (W:World) (g:Nat) (cs:List AV) (hg:ck.fm g=some cs):gz (wP W) W g 0 cs:=by
 cases (show (none:Option (List AV))=some cs from hg)
theorem readable {fn:Func} (h:(fn.params.toList.all fun t=>Try.prog.readableRec t&&Nat.blt t Try.prog.types.size)=true):∀ t∈fn.params.toList,Try.prog.readableRec t=true∧t < Try.prog.types.size:=fun t ht=>by
 have:=List.all_eq_true.1 h t ht;rw [Bool.and_eq_true] at this;exact ⟨this.1,Nat.le_of_ble_eq_true this.2⟩
noncomputable def aby (os:Os):World:=World.holding Try.prog os ⟨#[],#[],[]⟩
theorem witness6 {H:Type} {enc:TypeId × Value→H} {os:Os} {f:FuncId} {fn:Func} {s:ChangeSpec} {conds:List PathCond} {apart:Bool}
  (h:∃ (w:World) (tape:Tape) (i:Input),w.os=os∧(w.forCall tape i).Shaped Try.prog∧i.vars=[]∧Input.okWide Try.prog (w.forCall tape i) .any w.heap.size f i ∧
   ((s.pre enc Try.prog fn conds apart (w.forCall tape i).memory i.args∧True)∧sizedMet enc Try.prog fn (OpenSpec.ofChange s) apart (w.forCall tape i).memory i.args)∧({ modest:=false }:Assume).holds Try.prog (lone (Frame.enter Try.prog f i.args .normal) [] (w.forCall tape i))) :
  ∃ (w:World) (tape:Tape) (i:Input),w.os=os∧(w.forCall tape i).Shaped Try.prog∧i.vars=[]∧Input.okWide Try.prog (w.forCall tape i) .any w.heap.size f i ∧
   s.pre6 enc Try.prog fn conds apart (w.forCall tape i).memory i.args∧({}:Assume).holds Try.prog (lone (Frame.enter Try.prog f i.args .normal) [] (w.forCall tape i)):=by
 obtain ⟨w,tape,i,h1,h2,h3,h4,⟨⟨h5,_⟩,h6⟩,h7⟩:=h;exact ⟨w,tape,i,h1,h2,h3,h4,⟨h5,h6⟩,h7⟩
theorem afF:mapsRowed Try.prog=true:=by kernel_rfl
theorem abz:(Rows.trawlLoadsRow.plainKeys == Try.prog.plainKeys)=true:=by kernel_rfl
theorem abA:Try.prog.stopsHeard=true:=by kernel_rfl
theorem abB:Try.prog.mayEnter=true:=by kernel_rfl
theorem abC:(Rows.trawlLoadsRow.lifted == Try.prog.liftsFinal)=true:=by kernel_rfl
theorem abD:(Try.prog.stops == [])=true:=by kernel_rfl
theorem abE:(Try.prog.stopKnobs == [])=true:=by kernel_rfl
end Go.Proofs.Ytegoimldbgdeiaa
