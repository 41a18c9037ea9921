/- the check,the order,the net,the pieces of twine and the fly knots of a program agree with the reference,or their errors (the listed variables as the program and its library lay them). -/
import Derived.Test.YtldcljfjjoidhaaGreatDoorBraF
import Derived.Test.YtldcljfjjoidhaaGreatDoorBraPn
set_option linter.all false
namespace Go.Proofs.YtldcljfjjoidhaaGreatDoor
open Go Go.Am Go.ChangeShapes Go.WideShapes Go.RowKit
set_option maxRecDepth 100000
theorem oH {m:Int} {F:(List (Int × Int × Bool × Bool × Int))→Option Bool} (hF:an (wh m) 6 ⟨(.cons (.list 5 (.agg (.cons (.int .i64) (.cons (.int .i64) (.cons .bool (.cons .bool (.cons (.int .i64) .nil))))))) .nil),.bool,F⟩) (x:(List (Int × Int × Bool × Bool × Int))) (h:F x=some true):aS (wh m) 6 (aH.enc (.cons (.list 5 (.agg (.cons (.int .i64) (.cons (.int .i64) (.cons .bool (.cons .bool (.cons (.int .i64) .nil))))))) .nil) x) (fun r=>r=.bool true):=hF x true h
theorem oI {m:Int} {N:Nat} (x:(List (Int × Int × Bool × Bool × Int))) (h:T6 m N x=some true):aS (wh m) 6 (aH.enc (.cons (.list 5 (.agg (.cons (.int .i64) (.cons (.int .i64) (.cons .bool (.cons .bool (.cons (.int .i64) .nil))))))) .nil) x) (fun r=>r=.bool true):=
 oH (F:=T6 m N) (Xm m N) x h
theorem nU (os:Os) (started:os.Started) (H:Type) (enc:TypeId × Value→H) :
  ReturnsInHanded {} Tryz.checked os 6 .any (fun w args=>(Rows.braidProgramsSpec.pre enc Tryz.prog Tryz.f6 [] false w args∧laidMetH Tryz.prog pg w)∧sizedMet enc Tryz.prog Tryz.f6 (OpenSpec.ofChange Rows.braidProgramsSpec) false w args)
   (Rows.braidProgramsSpec.post enc Tryz.prog Tryz.f6 false true false false):=by
 refine mr (C:=Tryz.checked) (X:=fun w _=>laidMetH Tryz.prog pg w) (fun _ _ _ hh h=>h.of_heap hh) own started (by kernel_rfl) Tryz.func6
  (ChangeSpec.witness_at (enc:=enc) (C:=Tryz.checked) (os:=os) (X:=fun w _=>laidMetH Tryz.prog pg w) false (wi os) #[.slice none 0 0] 8 rfl (by kernel_rfl) (by kernel_rfl) (by kernel_rfl) (by kernel_rfl) (by kernel_rfl) (wj os _)) ?_
 intro W base args ds gs before Xo hW hL hS
 obtain ⟨m,hm⟩:=DM hS
 have Gs:∀ (j:Nat) t v,Tryz.f6.params[j]?=some t→args[j]?=some v→Value.okWide Tryz.prog W .any base t v:=Xo
 refine Gr (E:=wh m) (f:=6) (fn:=Tryz.f6) (n:=8) (tb:=4) (ps:=[.list 5 (.agg (.cons (.int .i64) (.cons (.int .i64) (.cons .bool (.cons .bool (.cons (.int .i64) .nil))))))]) ?_ (by kernel_rfl) Gs hW (DN hL hm) rfl ?_ (by kernel_rfl) Sq laidOut (readable (by kernel_rfl)) rfl (J4 hL)
 ·intro x hx
  exact oI (N:=18446744073709551616) x (Pv (Nat.le_refl _) m x)
 ·intro ds h
  have hp:Tryz.f6.params.toList.length=1:=by kernel_rfl
  rw [hp] at h
  match ds,h with
  | [d1],_=>rfl
theorem si:(Rows.braidProgramsRow.inPlace == Tryz.prog.inPlace 6)=true:=by kernel_rfl
theorem sj:(Rows.braidProgramsRow.unfollowed == Tryz.prog.unfollowed 6)=true:=by kernel_rfl
theorem sk:(Rows.braidProgramsRow.recurses == Tryz.prog.recurses 6)=true:=by kernel_rfl
theorem so:(Rows.braidProgramsRow.named == Tryz.prog.varsNamed 6)=true:=by kernel_rfl
theorem sq:(Rows.braidProgramsRow.lifted == Tryz.prog.liftsFinal)=true:=Eq.trans (show (Rows.braidProgramsRow.lifted == Tryz.prog.liftsFinal)=(Rows.braidCoursesRow.lifted == Tryz.prog.liftsFinal) from rfl) Sv
theorem sr:(Rows.braidProgramsRow.plainKeys == Tryz.prog.plainKeys)=true:=Eq.trans (show (Rows.braidProgramsRow.plainKeys == Tryz.prog.plainKeys)=(Rows.braidCoursesRow.plainKeys == Tryz.prog.plainKeys) from rfl) Sr
theorem oJ:joinedFacts Tryz.prog 6 Tryz.f6 Rows.braidProgramsSpec Rows.braidProgramsRow=true:=by
 unfold joinedFacts
 rw [si,sj,sk,so,sq,sr,WG,Ss,Su,Sw,Sx,laidOut]
 kernel_rfl
theorem oK:Rows.BraidProgramsSaid:=
 OpenClaim.holds_of_wide 6 Tryz.f6 rfl rfl rfl rfl rfl rfl rfl ⟨rfl,rfl,rfl,rfl,rfl⟩ rfl rfl rfl rfl rfl (by kernel_rfl) Tryz.func6 oJ
  (of_decide_eq_true (by kernel_rfl)) (by unfold Func.isWrapper; rw [if_neg (of_decide_eq_false (by kernel_rfl))]; exact ⟨rfl,rfl⟩)
  (fun os started H enc _=>nU os started H enc)
theorem braidPrograms_card:Rows.BraidProgramsCardSaid:=
 Claim7.holds_tied_plain_at .later [] [.data, .data, .data, .data, .pinned] true (true, "deb4da5057572103377ec8de70cfe10286de4363f67991ff94e1c452aa320a7a") false
  oK (fun _ h=>by cases h) (by kernel_rfl) (fun _ h=>by cases h) braidPrograms_row_tie rfl ⟨rfl,rfl⟩ (by kernel_rfl) rfl
  (fun f fn hf Uq=>by
   obtain rfl:f=6:=Option.some.inj ((show Tryz.prog.funcNamed Rows.braidProgramsRow.func=some 6 by kernel_rfl).symm.trans hf) |>.symm
   obtain rfl:fn=Tryz.f6:=(Option.some.inj (Tryz.func6.symm.trans Uq)).symm
   exact ⟨by kernel_rfl,Oc (by kernel_rfl)⟩)
  (by kernel_rfl)
end Go.Proofs.YtldcljfjjoidhaaGreatDoor
