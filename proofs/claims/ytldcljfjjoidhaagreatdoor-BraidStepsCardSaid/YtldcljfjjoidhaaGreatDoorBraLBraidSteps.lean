/- the walks,the order,the pieces of twine and the fly knots of a program are what they are said to be (the listed variables as the program and its library lay them). -/
import Derived.Test.YtldcljfjjoidhaaGreatDoorBraF
import Derived.Test.YtldcljfjjoidhaaGreatDoorBraPo
set_option linter.all false
namespace Go.Proofs.YtldcljfjjoidhaaGreatDoor
open Go Go.Am Go.ChangeShapes Go.WideShapes Go.RowKit
set_option maxRecDepth 100000
theorem sC {m:Int} {F:(List (Int × Int × Bool × Bool × Int))→Option Bool} (hF:an (wE m) 10 ⟨(.cons (.list 5 (.agg (.cons (.int .i64) (.cons (.int .i64) (.cons .bool (.cons .bool (.cons (.int .i64) .nil))))))) .nil),.bool,F⟩) (x:(List (Int × Int × Bool × Bool × Int))) (h:F x=some true):aR (wE m) 10 (aJ.enc (.cons (.list 5 (.agg (.cons (.int .i64) (.cons (.int .i64) (.cons .bool (.cons .bool (.cons (.int .i64) .nil))))))) .nil) x) (fun r=>r=.bool true):=hF x true h
theorem sD {m:Int} {N:Nat} (x:(List (Int × Int × Bool × Bool × Int))) (h:XL m N x=some true):aR (wE m) 10 (aJ.enc (.cons (.list 5 (.agg (.cons (.int .i64) (.cons (.int .i64) (.cons .bool (.cons .bool (.cons (.int .i64) .nil))))))) .nil) x) (fun r=>r=.bool true):=
 sC (F:=XL m N) (Un m N) x h
theorem rn (os:Os) (started:os.Started) (H:Type) (enc:TypeId × Value→H) :
  ReturnsInHanded {} Tryz.checked os 10 .any (fun w args=>(Rows.braidStepsSpec.pre enc Tryz.prog Tryz.f10 [] false w args∧laidMetH Tryz.prog pq w)∧sizedMet enc Tryz.prog Tryz.f10 (OpenSpec.ofChange Rows.braidStepsSpec) false w args)
   (Rows.braidStepsSpec.post enc Tryz.prog Tryz.f10 false true false false):=by
 refine mC (C:=Tryz.checked) (X:=fun w _=>laidMetH Tryz.prog pq w) (fun _ _ _ hh h=>h.of_heap hh) own started (by kernel_rfl) Tryz.func10
  (ChangeSpec.witness_at (enc:=enc) (C:=Tryz.checked) (os:=os) (X:=fun w _=>laidMetH Tryz.prog pq w) false (wF os) #[.slice none 0 0] 8 rfl (by kernel_rfl) (by kernel_rfl) (by kernel_rfl) (by kernel_rfl) (by kernel_rfl) (wG os _)) ?_
 intro W base args ds gs before XQ hW hL hS
 obtain ⟨m,hm⟩:=DX hS
 have GD:∀ (j:Nat) t v,Tryz.f10.params[j]?=some t→args[j]?=some v→Value.okWide Tryz.prog W .any base t v:=XQ
 refine GC (E:=wE m) (f:=10) (fn:=Tryz.f10) (n:=8) (tb:=4) (ps:=[.list 5 (.agg (.cons (.int .i64) (.cons (.int .i64) (.cons .bool (.cons .bool (.cons (.int .i64) .nil))))))]) ?_ (by kernel_rfl) GD hW (DY hL hm) rfl ?_ (by kernel_rfl) SP laidOut (readable (by kernel_rfl)) rfl (Kc hL)
 ·intro x hx
  exact sD (N:=18446744073709551616) x (K9 (Nat.le_refl _) m x)
 ·intro ds h
  have hp:Tryz.f10.params.toList.length=1:=by kernel_rfl
  rw [hp] at h
  match ds,h with
  | [d1],_=>rfl
theorem xN:(Rows.braidStepsRow.inPlace == Tryz.prog.inPlace 10)=true:=by kernel_rfl
theorem xO:(Rows.braidStepsRow.unfollowed == Tryz.prog.unfollowed 10)=true:=by kernel_rfl
theorem xP:(Rows.braidStepsRow.recurses == Tryz.prog.recurses 10)=true:=by kernel_rfl
theorem xQ:(Rows.braidStepsRow.named == Tryz.prog.varsNamed 10)=true:=by kernel_rfl
theorem xR:(Rows.braidStepsRow.lifted == Tryz.prog.liftsFinal)=true:=Eq.trans (show (Rows.braidStepsRow.lifted == Tryz.prog.liftsFinal)=(Rows.braidCoursesRow.lifted == Tryz.prog.liftsFinal) from rfl) SU
theorem xS:(Rows.braidStepsRow.plainKeys == Tryz.prog.plainKeys)=true:=Eq.trans (show (Rows.braidStepsRow.plainKeys == Tryz.prog.plainKeys)=(Rows.braidCoursesRow.plainKeys == Tryz.prog.plainKeys) from rfl) SQ
theorem sE:joinedFacts Tryz.prog 10 Tryz.f10 Rows.braidStepsSpec Rows.braidStepsRow=true:=by
 unfold joinedFacts
 rw [xN,xO,xP,xQ,xR,xS,W2,SR,SS,SX,SY,laidOut]
 kernel_rfl
theorem sF:Rows.BraidStepsSaid:=
 OpenClaim.holds_of_wide 10 Tryz.f10 rfl rfl rfl rfl rfl rfl rfl ⟨rfl,rfl,rfl,rfl,rfl⟩ rfl rfl rfl rfl rfl (by kernel_rfl) Tryz.func10 sE
  (of_decide_eq_true (by kernel_rfl)) (by unfold Func.isWrapper; rw [if_neg (of_decide_eq_false (by kernel_rfl))]; exact ⟨rfl,rfl⟩)
  (fun os started H enc _=>rn os started H enc)
theorem braidSteps_card:Rows.BraidStepsCardSaid:=
 Claim7.holds_tied_plain_at .later [] [.data, .data, .data, .data, .pinned] true (true, "deb4da5057572103377ec8de70cfe10286de4363f67991ff94e1c452aa320a7a") false
  sF (fun _ h=>by cases h) (by kernel_rfl) (fun _ h=>by cases h) braidSteps_row_tie rfl ⟨rfl,rfl⟩ (by kernel_rfl) rfl
  (fun f fn hf UT=>by
   obtain rfl:f=10:=Option.some.inj ((show Tryz.prog.funcNamed Rows.braidStepsRow.func=some 10 by kernel_rfl).symm.trans hf) |>.symm
   obtain rfl:fn=Tryz.f10:=(Option.some.inj (Tryz.func10.symm.trans UT)).symm
   exact ⟨by kernel_rfl,Ox (by kernel_rfl)⟩)
  (by kernel_rfl)
end Go.Proofs.YtldcljfjjoidhaaGreatDoor
