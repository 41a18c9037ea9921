/- pairs out of runs and back,turned round,put together,printed and read (the listed variables as the program and its library lay them). -/
import Derived.Test.YtfiopgedfcaodaaGreatDoorSeamFm
import Derived.Test.YtfiopgedfcaodaaGreatDoorSeamVc
set_option linter.all false
namespace Go.Proofs.YtfiopgedfcaodaaGreatDoor
open Go Go.Am Go.ChangeShapes Go.WideShapes Go.RowKit
set_option maxRecDepth 100000
theorem seamRounds_calls {m:Int} {F:List Int→Option Bool} (hF:EntryOk (envM m) 15 ⟨(.cons (.list 1 (.int .i64)) .nil),.bool,F⟩) (x:List Int) (h:F x=some true):PCalls (envM m) 15 (Pats.enc (.cons (.list 1 (.int .i64)) .nil) x) (fun r=>r=.bool true):=hF x true h
theorem seamRounds_entry {m:Int} {N:Nat} (x:List Int) (h:T15 m N x=some true):PCalls (envM m) 15 (Pats.enc (.cons (.list 1 (.int .i64)) .nil) x) (fun r=>r=.bool true):=
 seamRounds_calls (F:=T15 m N) (T15_ok m N) x h
theorem seamRounds_lifted (os:Os) (started:os.Started) (H:Type) (enc:TypeId × Value→H) :
  ReturnsInHanded {} Tryz.checked os 15 .any (fun w args=>(Rows.seamRoundsSpec.pre enc Tryz.prog Tryz.f15 [] false w args∧laidMetH Tryz.prog laidR w)∧sizedMet enc Tryz.prog Tryz.f15 (OpenSpec.ofChange Rows.seamRoundsSpec) false w args)
   (Rows.seamRoundsSpec.post enc Tryz.prog Tryz.f15 false true false false):=by
 refine returnsInHanded_shaped (C:=Tryz.checked) (X:=fun w _=>laidMetH Tryz.prog laidR w) (fun _ _ _ hh h=>h.of_heap hh) own started (by kernel_rfl) Tryz.func15
  (ChangeSpec.witness_at (enc:=enc) (C:=Tryz.checked) (os:=os) (X:=fun w _=>laidMetH Tryz.prog laidR w) false (laidWorldR os) #[.slice none 0 0] 8 rfl (by kernel_rfl) (by kernel_rfl) (by kernel_rfl) (by kernel_rfl) (by kernel_rfl) (laidWorldR_met os _)) ?_
 intro W base args ds gs before hval0 hW hL hS
 obtain ⟨m,hm⟩:=maxlen_int hS
 have hval:∀ (j:Nat) t v,Tryz.f15.params[j]?=some t→args[j]?=some v→Value.okWide Tryz.prog W .any base t v:=hval0
 refine law_calls (E:=envM m) (f:=15) (fn:=Tryz.f15) (n:=8) (tb:=4) (ps:=[.list 1 (.int .i64)]) ?_ (by kernel_rfl) hval hW (globM_laid hL hm) rfl ?_ (by kernel_rfl) under4 laidOut (readable (by kernel_rfl)) rfl (globM_gx hL)
 ·intro x hx
  exact seamRounds_entry (N:=18446744073709551616) x (T15_true m (Nat.le_refl _) x)
 ·intro ds h
  have hp:Tryz.f15.params.toList.length=1:=by kernel_rfl
  rw [hp] at h
  match ds,h with
  | [d1],_=>rfl
theorem seamRounds_j1:(Rows.seamRoundsRow.inPlace == Tryz.prog.inPlace 15)=true:=by kernel_rfl
theorem seamRounds_j2:(Rows.seamRoundsRow.unfollowed == Tryz.prog.unfollowed 15)=true:=by kernel_rfl
theorem seamRounds_j3:(Rows.seamRoundsRow.recurses == Tryz.prog.recurses 15)=true:=by kernel_rfl
theorem seamRounds_j4:(Rows.seamRoundsRow.named == Tryz.prog.varsNamed 15)=true:=by kernel_rfl
theorem seamRounds_j5:(Rows.seamRoundsRow.lifted == Tryz.prog.liftsFinal)=true:=Eq.trans (show (Rows.seamRoundsRow.lifted == Tryz.prog.liftsFinal)=(Rows.seamJoinsRow.lifted == Tryz.prog.liftsFinal) from rfl) jLifts
theorem seamRounds_j6:(Rows.seamRoundsRow.plainKeys == Tryz.prog.plainKeys)=true:=Eq.trans (show (Rows.seamRoundsRow.plainKeys == Tryz.prog.plainKeys)=(Rows.seamJoinsRow.plainKeys == Tryz.prog.plainKeys) from rfl) jPlain
theorem seamRounds_facts:joinedFacts Tryz.prog 15 Tryz.f15 Rows.seamRoundsSpec Rows.seamRoundsRow=true:=by
 unfold joinedFacts
 rw [seamRounds_j1,seamRounds_j2,seamRounds_j3,seamRounds_j4,seamRounds_j5,seamRounds_j6,jMaps,jHeard,jEnter,jStops,jKnobs,laidOut]
 kernel_rfl
theorem seamRounds_holds:Rows.SeamRoundsSaid:=
 OpenClaim.holds_of_wide 15 Tryz.f15 rfl rfl rfl rfl rfl rfl rfl ⟨rfl,rfl,rfl,rfl,rfl⟩ rfl rfl rfl rfl rfl (by kernel_rfl) Tryz.func15 seamRounds_facts
  (of_decide_eq_true (by kernel_rfl)) (by unfold Func.isWrapper; rw [if_neg (of_decide_eq_false (by kernel_rfl))]; exact ⟨rfl,rfl⟩)
  (fun os started H enc _=>seamRounds_lifted os started H enc)
theorem seamRounds_card:Rows.SeamRoundsCardSaid:=
 Claim7.holds_tied_plain_at .later [] [.data, .data, .data, .data, .widerDeep, .pinned] true (true, "22d1f53af195ce4a65371a8e296f4f56373d419fbce4718ff79501aa217ed00d") false
  seamRounds_holds (fun _ h=>by cases h) (by kernel_rfl) (fun _ h=>by cases h) seamRounds_row_tie rfl ⟨rfl,rfl⟩ (by kernel_rfl) rfl
  (fun f fn hf hfn=>by
   obtain rfl:f=15:=Option.some.inj ((show Tryz.prog.funcNamed Rows.seamRoundsRow.func=some 15 by kernel_rfl).symm.trans hf) |>.symm
   obtain rfl:fn=Tryz.f15:=(Option.some.inj (Tryz.func15.symm.trans hfn)).symm
   exact ⟨by kernel_rfl,noStand (by kernel_rfl)⟩)
  (by kernel_rfl)
end Go.Proofs.YtfiopgedfcaodaaGreatDoor
