/- The laws' frame: the world of the witness. -/
import Derived.Test.YtegoimldbgdeiaaGreatSeamKC
import Derived.Test.YtegoimldbgdeiaaGreatAmKM
import Derived.Test.YtegoimldbgdeiaaGreatRows
import Derived.ChangeSame
import Derived.ChangeVars
import Derived.JoinedOf
import Derived.RowKit
import Derived.RowKitTokens
import Derived.Handed
set_option linter.all false
namespace Go.Proofs.YtegoimldbgdeiaaGreat
open Go Go.Am Go.ChangeShapes Go.WideShapes Go.RowKit
open List (map)
open Int (toNat)
open Go.IntKind (wrap)
open Go.Am.aP (fits)
set_option maxRecDepth 100000
theorem own:ownKnob Tryz.prog.godebug=none:=by kernel_rfl
theorem laidOut:laidOutB Tryz.prog=true:=by kernel_rfl
theorem Wy:Tryz.prog.underlying 4=some .bool:=by kernel_rfl
theorem Wz (W:World) (g:Nat) (cs:List AV) (hg:bU.dF g=some cs):fN (tZ W) W g 0 cs:=by
 cases (show (none:Option (List AV))=some cs from hg)
theorem readable {fn:Func} (h:(fn.params.toList.all fun t=>Tryz.prog.readableRec t&&Nat.blt t Tryz.prog.types.size)=true):∀ t∈fn.params.toList,Tryz.prog.readableRec t=true∧t < Tryz.prog.types.size:=fun t ht=>by
 have:=List.all_eq_true.1 h t ht;rw [Bool.and_eq_true] at this;exact ⟨this.1,Nat.le_of_ble_eq_true this.2⟩
noncomputable def WA (os:Os):World:=World.holding Tryz.prog os ⟨#[],#[],[]⟩
theorem witness6 {H:Type} {enc:TypeId × Value→H} {os:Os} {f:FuncId} {fn:Func} {s:ChangeSpec} {conds:List PathCond} {apart:Bool}
  (h:∃ (w:World) (tape:Tape) (i:Input),w.os=os∧(w.forCall tape i).Shaped Tryz.prog∧i.vars=[]∧Input.okWide Tryz.prog (w.forCall tape i) .any w.heap.size f i ∧
   ((s.pre enc Tryz.prog fn conds apart (w.forCall tape i).memory i.args∧True)∧sizedMet enc Tryz.prog fn (OpenSpec.ofChange s) apart (w.forCall tape i).memory i.args)∧({ modest:=false }:Assume).holds Tryz.prog (lone (Frame.enter Tryz.prog f i.args .normal) [] (w.forCall tape i))) :
  ∃ (w:World) (tape:Tape) (i:Input),w.os=os∧(w.forCall tape i).Shaped Tryz.prog∧i.vars=[]∧Input.okWide Tryz.prog (w.forCall tape i) .any w.heap.size f i ∧
   s.pre6 enc Tryz.prog fn conds apart (w.forCall tape i).memory i.args∧({}:Assume).holds Tryz.prog (lone (Frame.enter Tryz.prog f i.args .normal) [] (w.forCall tape i)):=by
 obtain ⟨w,tape,i,h1,h2,h3,h4,⟨⟨h5,_⟩,h6⟩,h7⟩:=h;exact ⟨w,tape,i,h1,h2,h3,h4,⟨h5,h6⟩,h7⟩
theorem aah:mapsRowed Tryz.prog=true:=by kernel_rfl
theorem WB:(Rows.trawlOpeningsRow.plainKeys == Tryz.prog.plainKeys)=true:=by kernel_rfl
theorem WC:Tryz.prog.stopsHeard=true:=by kernel_rfl
theorem WD:Tryz.prog.mayEnter=true:=by kernel_rfl
theorem WE:(Rows.trawlOpeningsRow.lifted == Tryz.prog.liftsFinal)=true:=by kernel_rfl
theorem WG:(Tryz.prog.stops == [])=true:=by kernel_rfl
theorem WH:(Tryz.prog.stopKnobs == [])=true:=by kernel_rfl
end Go.Proofs.YtegoimldbgdeiaaGreat
