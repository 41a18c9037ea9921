/- joins turned round and joins one after the other agree with the reference (the listed variables as the program and its library lay them). -/
import Derived.Test.YtfiopgedfcaodaaGreatDoorSeamF
import Derived.Test.YtfiopgedfcaodaaGreatDoorSeamSh
set_option linter.all false
namespace Go.Proofs.YtfiopgedfcaodaaGreatDoor
open Go Go.Am Go.ChangeShapes Go.WideShapes Go.RowKit
set_option maxRecDepth 100000
theorem seamTurns_calls {F:(Int × Int × (List (Int × Int))) × (List (Int × Int))→Option Bool} (hF:EntryOk envS 4 ⟨(.cons (.agg (.cons (.int .i64) (.cons (.int .i64) (.cons (.list 2 (.agg (.cons (.int .i64) (.cons (.int .i64) .nil)))) .nil)))) (.cons (.list 2 (.agg (.cons (.int .i64) (.cons (.int .i64) .nil)))) .nil)),.bool,F⟩) (x:(Int × Int × (List (Int × Int))) × (List (Int × Int))) (h:F x=some true):PCalls envS 4 (Pats.enc (.cons (.agg (.cons (.int .i64) (.cons (.int .i64) (.cons (.list 2 (.agg (.cons (.int .i64) (.cons (.int .i64) .nil)))) .nil)))) (.cons (.list 2 (.agg (.cons (.int .i64) (.cons (.int .i64) .nil)))) .nil)) x) (fun r=>r=.bool true):=hF x true h
theorem seamTurns_entry {N:Nat} (x:(Int × Int × (List (Int × Int))) × (List (Int × Int))) (h:T4 N x=some true):PCalls envS 4 (Pats.enc (.cons (.agg (.cons (.int .i64) (.cons (.int .i64) (.cons (.list 2 (.agg (.cons (.int .i64) (.cons (.int .i64) .nil)))) .nil)))) (.cons (.list 2 (.agg (.cons (.int .i64) (.cons (.int .i64) .nil)))) .nil)) x) (fun r=>r=.bool true):=
 seamTurns_calls (F:=T4 N) (T4_ok N) x h
theorem seamTurns_lifted (os:Os) (started:os.Started) (H:Type) (enc:TypeId × Value→H) :
  ReturnsInHanded {} Tryz.checked os 4 .any (fun w args=>(Rows.seamTurnsSpec.pre enc Tryz.prog Tryz.f4 [] false w args∧laidMetH Tryz.prog laidL w)∧sizedMet enc Tryz.prog Tryz.f4 (OpenSpec.ofChange Rows.seamTurnsSpec) false w args)
   (Rows.seamTurnsSpec.post enc Tryz.prog Tryz.f4 false true false false):=by
 refine returnsInHanded_of_change_and (C:=Tryz.checked) (X:=fun w _=>laidMetH Tryz.prog laidL w) (fun _ _ _ hh h=>h.of_heap hh) own started (by kernel_rfl) Tryz.func4
  (ChangeSpec.witness_at (enc:=enc) (C:=Tryz.checked) (os:=os) (X:=fun w _=>laidMetH Tryz.prog laidL w) false (laidWorld os) #[.agg #[.int .i64 0,.int .i64 0,.slice none 0 0],.slice none 0 0] 8 rfl (by kernel_rfl) (by kernel_rfl) (by kernel_rfl) (by kernel_rfl) (by kernel_rfl) (laidWorld_met os _)) ?_
 intro W base args ds gs before hval0 hW _ _ hL _
 have hval:∀ (j:Nat) t v,Tryz.f4.params[j]?=some t→args[j]?=some v→Value.okWide Tryz.prog W .any base t v:=hval0
 refine law_calls (E:=envS) (f:=4) (fn:=Tryz.f4) (n:=8) (tb:=4) (ps:=[(.agg (.cons (.int .i64) (.cons (.int .i64) (.cons (.list 2 (.agg (.cons (.int .i64) (.cons (.int .i64) .nil)))) .nil)))),.list 2 (.agg (.cons (.int .i64) (.cons (.int .i64) .nil)))]) ?_ (by kernel_rfl) hval hW (glob_of_laid hL) rfl ?_ (by kernel_rfl) under4 laidOut (readable (by kernel_rfl))
 ·intro x hx
  exact seamTurns_entry (N:=18446744073709551616) x (T4_true (Nat.le_refl _) x.1.1 x.1.2.1 x.1.2.2 x.2)
 ·intro ds h
  have hp:Tryz.f4.params.toList.length=2:=by kernel_rfl
  rw [hp] at h
  match ds,h with
  | [d1,d2],_=>rfl
theorem seamTurns_j1:(Rows.seamTurnsRow.inPlace == Tryz.prog.inPlace 4)=true:=by kernel_rfl
theorem seamTurns_j2:(Rows.seamTurnsRow.unfollowed == Tryz.prog.unfollowed 4)=true:=by kernel_rfl
theorem seamTurns_j3:(Rows.seamTurnsRow.recurses == Tryz.prog.recurses 4)=true:=by kernel_rfl
theorem seamTurns_j4:(Rows.seamTurnsRow.named == Tryz.prog.varsNamed 4)=true:=by kernel_rfl
theorem seamTurns_j5:(Rows.seamTurnsRow.lifted == Tryz.prog.liftsFinal)=true:=Eq.trans (show (Rows.seamTurnsRow.lifted == Tryz.prog.liftsFinal)=(Rows.seamJoinsRow.lifted == Tryz.prog.liftsFinal) from rfl) jLifts
theorem seamTurns_j6:(Rows.seamTurnsRow.plainKeys == Tryz.prog.plainKeys)=true:=Eq.trans (show (Rows.seamTurnsRow.plainKeys == Tryz.prog.plainKeys)=(Rows.seamJoinsRow.plainKeys == Tryz.prog.plainKeys) from rfl) jPlain
theorem seamTurns_facts:joinedFacts Tryz.prog 4 Tryz.f4 Rows.seamTurnsSpec Rows.seamTurnsRow=true:=by
 unfold joinedFacts
 rw [seamTurns_j1,seamTurns_j2,seamTurns_j3,seamTurns_j4,seamTurns_j5,seamTurns_j6,jMaps,jHeard,jEnter,jStops,jKnobs,laidOut]
 kernel_rfl
theorem seamTurns_holds:Rows.SeamTurnsSaid:=
 OpenClaim.holds_of_wide 4 Tryz.f4 rfl rfl rfl rfl rfl rfl rfl ⟨rfl,rfl,rfl,rfl,rfl⟩ rfl rfl rfl rfl rfl (by kernel_rfl) Tryz.func4 seamTurns_facts
  (of_decide_eq_true (by kernel_rfl)) (by unfold Func.isWrapper; rw [if_neg (of_decide_eq_false (by kernel_rfl))]; exact ⟨rfl,rfl⟩)
  (fun os started H enc _=>seamTurns_lifted os started H enc)
theorem seamTurns_card:Rows.SeamTurnsCardSaid:=
 Claim7.holds_tied_plain_at .later [] [.data, .data, .data, .widerDeep] true (true, "22d1f53af195ce4a65371a8e296f4f56373d419fbce4718ff79501aa217ed00d") false
  seamTurns_holds (fun _ h=>by cases h) (by kernel_rfl) (fun _ h=>by cases h) seamTurns_row_tie rfl ⟨rfl,rfl⟩ (by kernel_rfl) rfl
  (fun f fn hf hfn=>by
   obtain rfl:f=4:=Option.some.inj ((show Tryz.prog.funcNamed Rows.seamTurnsRow.func=some 4 by kernel_rfl).symm.trans hf) |>.symm
   obtain rfl:fn=Tryz.f4:=(Option.some.inj (Tryz.func4.symm.trans hfn)).symm
   exact ⟨by kernel_rfl,noStand (by kernel_rfl)⟩)
  (by kernel_rfl)
end Go.Proofs.YtfiopgedfcaodaaGreatDoor
