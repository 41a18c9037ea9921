/- the rate of an even join and the rate of a text agree with the reference (the listed variables as the program and its library lay them). -/
import Derived.Test.YtfiopgedfcaodaaGreatDoorSeamFm
import Derived.Test.YtfiopgedfcaodaaGreatDoorSeamUe
set_option linter.all false
namespace Go.Proofs.YtfiopgedfcaodaaGreatDoor
open Go Go.Am Go.ChangeShapes Go.WideShapes Go.RowKit
set_option maxRecDepth 100000
theorem seamRates_calls {m:Int} {F:Int × Int × (List UInt8)→Option Bool} (hF:EntryOk (envM m) 14 ⟨(.cons (.int .i64) (.cons (.int .i64) (.cons .str .nil))),.bool,F⟩) (x:Int × Int × (List UInt8)) (h:F x=some true):PCalls (envM m) 14 (Pats.enc (.cons (.int .i64) (.cons (.int .i64) (.cons .str .nil))) x) (fun r=>r=.bool true):=hF x true h
theorem seamRates_entry {m:Int} {N:Nat} (x:Int × Int × (List UInt8)) (h:T14 m N x=some true):PCalls (envM m) 14 (Pats.enc (.cons (.int .i64) (.cons (.int .i64) (.cons .str .nil))) x) (fun r=>r=.bool true):=
 seamRates_calls (F:=T14 m N) (T14_ok m N) x h
theorem seamRates_lifted (os:Os) (started:os.Started) (H:Type) (enc:TypeId × Value→H) :
  ReturnsInHanded {} Tryz.checked os 14 .any (fun w args=>(Rows.seamRatesSpec.pre enc Tryz.prog Tryz.f14 [] false w args∧laidMetH Tryz.prog laidR w)∧sizedMet enc Tryz.prog Tryz.f14 (OpenSpec.ofChange Rows.seamRatesSpec) false w args)
   (Rows.seamRatesSpec.post enc Tryz.prog Tryz.f14 false true false false):=by
 refine returnsInHanded_shaped (C:=Tryz.checked) (X:=fun w _=>laidMetH Tryz.prog laidR w) (fun _ _ _ hh h=>h.of_heap hh) own started (by kernel_rfl) Tryz.func14
  (ChangeSpec.witness_at (enc:=enc) (C:=Tryz.checked) (os:=os) (X:=fun w _=>laidMetH Tryz.prog laidR w) false (laidWorldR os) #[.int .i64 0,.int .i64 0,.string ⟨#[]⟩] 8 rfl (by kernel_rfl) (by kernel_rfl) (by kernel_rfl) (by kernel_rfl) (by kernel_rfl) (laidWorldR_met os _)) ?_
 intro W base args ds gs before hval0 hW hL hS
 obtain ⟨m,hm⟩:=maxlen_int hS
 have hval:∀ (j:Nat) t v,Tryz.f14.params[j]?=some t→args[j]?=some v→Value.okWide Tryz.prog W .any base t v:=hval0
 refine law_calls (E:=envM m) (f:=14) (fn:=Tryz.f14) (n:=8) (tb:=4) (ps:=[.int .i64,.int .i64,.str]) ?_ (by kernel_rfl) hval hW (globM_laid hL hm) rfl ?_ (by kernel_rfl) under4 laidOut (readable (by kernel_rfl)) rfl (globM_gx hL)
 ·intro x hx
  exact seamRates_entry (N:=18446744073709551616) x (T14_true m (Nat.le_refl _) x.1 x.2.1 x.2.2)
 ·intro ds h
  have hp:Tryz.f14.params.toList.length=3:=by kernel_rfl
  rw [hp] at h
  match ds,h with
  | [d1,d2,d3],_=>rfl
theorem seamRates_j1:(Rows.seamRatesRow.inPlace == Tryz.prog.inPlace 14)=true:=by kernel_rfl
theorem seamRates_j2:(Rows.seamRatesRow.unfollowed == Tryz.prog.unfollowed 14)=true:=by kernel_rfl
theorem seamRates_j3:(Rows.seamRatesRow.recurses == Tryz.prog.recurses 14)=true:=by kernel_rfl
theorem seamRates_j4:(Rows.seamRatesRow.named == Tryz.prog.varsNamed 14)=true:=by kernel_rfl
theorem seamRates_j5:(Rows.seamRatesRow.lifted == Tryz.prog.liftsFinal)=true:=Eq.trans (show (Rows.seamRatesRow.lifted == Tryz.prog.liftsFinal)=(Rows.seamJoinsRow.lifted == Tryz.prog.liftsFinal) from rfl) jLifts
theorem seamRates_j6:(Rows.seamRatesRow.plainKeys == Tryz.prog.plainKeys)=true:=Eq.trans (show (Rows.seamRatesRow.plainKeys == Tryz.prog.plainKeys)=(Rows.seamJoinsRow.plainKeys == Tryz.prog.plainKeys) from rfl) jPlain
theorem seamRates_facts:joinedFacts Tryz.prog 14 Tryz.f14 Rows.seamRatesSpec Rows.seamRatesRow=true:=by
 unfold joinedFacts
 rw [seamRates_j1,seamRates_j2,seamRates_j3,seamRates_j4,seamRates_j5,seamRates_j6,jMaps,jHeard,jEnter,jStops,jKnobs,laidOut]
 kernel_rfl
theorem seamRates_holds:Rows.SeamRatesSaid:=
 OpenClaim.holds_of_wide 14 Tryz.f14 rfl rfl rfl rfl rfl rfl rfl ⟨rfl,rfl,rfl,rfl,rfl⟩ rfl rfl rfl rfl rfl (by kernel_rfl) Tryz.func14 seamRates_facts
  (of_decide_eq_true (by kernel_rfl)) (by unfold Func.isWrapper; rw [if_neg (of_decide_eq_false (by kernel_rfl))]; exact ⟨rfl,rfl⟩)
  (fun os started H enc _=>seamRates_lifted os started H enc)
theorem seamRates_card:Rows.SeamRatesCardSaid:=
 Claim7.holds_tied_plain_at .later [] [.data, .data, .data, .data, .widerDeep, .pinned] true (true, "22d1f53af195ce4a65371a8e296f4f56373d419fbce4718ff79501aa217ed00d") false
  seamRates_holds (fun _ h=>by cases h) (by kernel_rfl) (fun _ h=>by cases h) seamRates_row_tie rfl ⟨rfl,rfl⟩ (by kernel_rfl) rfl
  (fun f fn hf hfn=>by
   obtain rfl:f=14:=Option.some.inj ((show Tryz.prog.funcNamed Rows.seamRatesRow.func=some 14 by kernel_rfl).symm.trans hf) |>.symm
   obtain rfl:fn=Tryz.f14:=(Option.some.inj (Tryz.func14.symm.trans hfn)).symm
   exact ⟨by kernel_rfl,noStand (by kernel_rfl)⟩)
  (by kernel_rfl)
end Go.Proofs.YtfiopgedfcaodaaGreatDoor
