/- the knots and the end of a course agree with the reference,or their errors (the listed variables as the program and its library lay them). -/
import Derived.Test.YtldcljfjjoidhaaGreatDoorBraF
import Derived.Test.YtldcljfjjoidhaaGreatDoorBraPc
set_option linter.all false
namespace Go.Proofs.YtldcljfjjoidhaaGreatDoor
open Go Go.Am Go.ChangeShapes Go.WideShapes Go.RowKit
set_option maxRecDepth 100000
theorem mK {m:Int} {F:(Int × Int × Bool × Bool × Int)→Option Bool} (hF:ap (sY m) 7 ⟨(.cons (.agg (.cons (.int .i64) (.cons (.int .i64) (.cons .bool (.cons .bool (.cons (.int .i64) .nil)))))) .nil),.bool,F⟩) (x:(Int × Int × Bool × Bool × Int)) (h:F x=some true):aN (sY m) 7 (aB.enc (.cons (.agg (.cons (.int .i64) (.cons (.int .i64) (.cons .bool (.cons .bool (.cons (.int .i64) .nil)))))) .nil) x) (fun r=>r=.bool true):=hF x true h
theorem mL {m:Int} {N:Nat} (x:(Int × Int × Bool × Bool × Int)) (h:T7 m N x=some true):aN (sY m) 7 (aB.enc (.cons (.agg (.cons (.int .i64) (.cons (.int .i64) (.cons .bool (.cons .bool (.cons (.int .i64) .nil)))))) .nil) x) (fun r=>r=.bool true):=
 mK (F:=T7 m N) (Oq m N) x h
theorem lK (os:Os) (started:os.Started) (H:Type) (enc:TypeId × Value→H) :
  ReturnsInHanded {} Tryz.checked os 7 .any (fun w args=>(Rows.braidCoursesSpec.pre enc Tryz.prog Tryz.f7 [] false w args∧laidMetH Tryz.prog mc w)∧sizedMet enc Tryz.prog Tryz.f7 (OpenSpec.ofChange Rows.braidCoursesSpec) false w args)
   (Rows.braidCoursesSpec.post enc Tryz.prog Tryz.f7 false true false false):=by
 refine kd (C:=Tryz.checked) (X:=fun w _=>laidMetH Tryz.prog mc w) (fun _ _ _ hh h=>h.of_heap hh) own started (by kernel_rfl) Tryz.func7
  (ChangeSpec.witness_at (enc:=enc) (C:=Tryz.checked) (os:=os) (X:=fun w _=>laidMetH Tryz.prog mc w) false (sZ os) #[.agg #[.int .i64 0,.int .i64 0,.bool false,.bool false,.int .i64 0]] 8 rfl (by kernel_rfl) (by kernel_rfl) (by kernel_rfl) (by kernel_rfl) (by kernel_rfl) (s5 os _)) ?_
 intro W base args ds gs before Ou hW hL hS
 obtain ⟨m,hm⟩:=zJ hS
 have BL:∀ (j:Nat) t v,Tryz.f7.params[j]?=some t→args[j]?=some v→Value.okWide Tryz.prog W .any base t v:=Ou
 refine BK (E:=sY m) (f:=7) (fn:=Tryz.f7) (n:=8) (tb:=4) (ps:=[(.agg (.cons (.int .i64) (.cons (.int .i64) (.cons .bool (.cons .bool (.cons (.int .i64) .nil))))))]) ?_ (by kernel_rfl) BL hW (zK hL hm) rfl ?_ (by kernel_rfl) K3 laidOut (readable (by kernel_rfl)) rfl (EM hL)
 ·intro x hx
  exact mL (N:=18446744073709551616) x (Ip (Nat.le_refl _) m x)
 ·intro ds h
  have hp:Tryz.f7.params.toList.length=1:=by kernel_rfl
  rw [hp] at h
  match ds,h with
  | [d1],_=>rfl
theorem qg:(Rows.braidCoursesRow.inPlace == Tryz.prog.inPlace 7)=true:=by kernel_rfl
theorem qh:(Rows.braidCoursesRow.unfollowed == Tryz.prog.unfollowed 7)=true:=by kernel_rfl
theorem qi:(Rows.braidCoursesRow.recurses == Tryz.prog.recurses 7)=true:=by kernel_rfl
theorem qj:(Rows.braidCoursesRow.named == Tryz.prog.varsNamed 7)=true:=by kernel_rfl
theorem qk:(Rows.braidCoursesRow.lifted == Tryz.prog.liftsFinal)=true:=Eq.trans (show (Rows.braidCoursesRow.lifted == Tryz.prog.liftsFinal)=(Rows.braidCoursesRow.lifted == Tryz.prog.liftsFinal) from rfl) K7
theorem ql:(Rows.braidCoursesRow.plainKeys == Tryz.prog.plainKeys)=true:=Eq.trans (show (Rows.braidCoursesRow.plainKeys == Tryz.prog.plainKeys)=(Rows.braidCoursesRow.plainKeys == Tryz.prog.plainKeys) from rfl) K4
theorem mM:joinedFacts Tryz.prog 7 Tryz.f7 Rows.braidCoursesSpec Rows.braidCoursesRow=true:=by
 unfold joinedFacts
 rw [qg,qh,qi,qj,qk,ql,Oc,K5,K6,K8,K9,laidOut]
 kernel_rfl
theorem mN:Rows.BraidCoursesSaid:=
 OpenClaim.holds_of_wide 7 Tryz.f7 rfl rfl rfl rfl rfl rfl rfl ⟨rfl,rfl,rfl,rfl,rfl⟩ rfl rfl rfl rfl rfl (by kernel_rfl) Tryz.func7 mM
  (of_decide_eq_true (by kernel_rfl)) (by unfold Func.isWrapper; rw [if_neg (of_decide_eq_false (by kernel_rfl))]; exact ⟨rfl,rfl⟩)
  (fun os started H enc _=>lK os started H enc)
theorem braidCourses_card:Rows.BraidCoursesCardSaid:=
 Claim7.holds_tied_plain_at .later [] [.data, .data, .data, .data, .pinned] true (true, "deb4da5057572103377ec8de70cfe10286de4363f67991ff94e1c452aa320a7a") false
  mN (fun _ h=>by cases h) (by kernel_rfl) (fun _ h=>by cases h) braidCourses_row_tie rfl ⟨rfl,rfl⟩ (by kernel_rfl) rfl
  (fun f fn hf L3=>by
   obtain rfl:f=7:=Option.some.inj ((show Tryz.prog.funcNamed Rows.braidCoursesRow.func=some 7 by kernel_rfl).symm.trans hf) |>.symm
   obtain rfl:fn=Tryz.f7:=(Option.some.inj (Tryz.func7.symm.trans L3)).symm
   exact ⟨by kernel_rfl,HZ (by kernel_rfl)⟩)
  (by kernel_rfl)
end Go.Proofs.YtldcljfjjoidhaaGreatDoor
