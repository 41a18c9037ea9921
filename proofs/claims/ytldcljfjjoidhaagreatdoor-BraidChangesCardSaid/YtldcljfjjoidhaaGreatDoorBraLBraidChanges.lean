/- programs mirrored,worked back,lifted and put one behind the other agree with the reference,or their errors (the listed variables as the program and its library lay them). -/
import Derived.Test.YtldcljfjjoidhaaGreatDoorBraF
import Derived.Test.YtldcljfjjoidhaaGreatDoorBraQb
set_option linter.all false
namespace Go.Proofs.YtldcljfjjoidhaaGreatDoor
open Go Go.Am Go.ChangeShapes Go.WideShapes Go.RowKit
set_option maxRecDepth 100000
theorem oX {m:Int} {F:(List (Int × Int × Bool × Bool × Int)) × (List (Int × Int × Bool × Bool × Int)) × (Int × Int)→Option Bool} (hF:ao (vj m) 11 ⟨(.cons (.list 5 (.agg (.cons (.int .i64) (.cons (.int .i64) (.cons .bool (.cons .bool (.cons (.int .i64) .nil))))))) (.cons (.list 5 (.agg (.cons (.int .i64) (.cons (.int .i64) (.cons .bool (.cons .bool (.cons (.int .i64) .nil))))))) (.cons (.agg (.cons (.int .i64) (.cons (.int .i64) .nil))) .nil))),.bool,F⟩) (x:(List (Int × Int × Bool × Bool × Int)) × (List (Int × Int × Bool × Bool × Int)) × (Int × Int)) (h:F x=some true):aM (vj m) 11 (aF.enc (.cons (.list 5 (.agg (.cons (.int .i64) (.cons (.int .i64) (.cons .bool (.cons .bool (.cons (.int .i64) .nil))))))) (.cons (.list 5 (.agg (.cons (.int .i64) (.cons (.int .i64) (.cons .bool (.cons .bool (.cons (.int .i64) .nil))))))) (.cons (.agg (.cons (.int .i64) (.cons (.int .i64) .nil))) .nil))) x) (fun r=>r=.bool true):=hF x true h
theorem oY {m:Int} {N:Nat} (x:(List (Int × Int × Bool × Bool × Int)) × (List (Int × Int × Bool × Bool × Int)) × (Int × Int)) (h:Uw m N x=some true):aM (vj m) 11 (aF.enc (.cons (.list 5 (.agg (.cons (.int .i64) (.cons (.int .i64) (.cons .bool (.cons .bool (.cons (.int .i64) .nil))))))) (.cons (.list 5 (.agg (.cons (.int .i64) (.cons (.int .i64) (.cons .bool (.cons .bool (.cons (.int .i64) .nil))))))) (.cons (.agg (.cons (.int .i64) (.cons (.int .i64) .nil))) .nil))) x) (fun r=>r=.bool true):=
 oX (F:=Uw m N) (Q7 m N) x h
theorem nT (os:Os) (started:os.Started) (H:Type) (enc:TypeId × Value→H) :
  ReturnsInHanded {} Tryz.checked os 11 .any (fun w args=>(Rows.braidChangesSpec.pre enc Tryz.prog Tryz.f11 [] false w args∧laidMetH Tryz.prog oq w)∧sizedMet enc Tryz.prog Tryz.f11 (OpenSpec.ofChange Rows.braidChangesSpec) false w args)
   (Rows.braidChangesSpec.post enc Tryz.prog Tryz.f11 false true false false):=by
 refine lJ (C:=Tryz.checked) (X:=fun w _=>laidMetH Tryz.prog oq w) (fun _ _ _ hh h=>h.of_heap hh) own started (by kernel_rfl) Tryz.func11
  (ChangeSpec.witness_at (enc:=enc) (C:=Tryz.checked) (os:=os) (X:=fun w _=>laidMetH Tryz.prog oq w) false (vk os) #[.slice none 0 0,.slice none 0 0,.agg #[.int .i64 0,.int .i64 0]] 8 rfl (by kernel_rfl) (by kernel_rfl) (by kernel_rfl) (by kernel_rfl) (by kernel_rfl) (vl os _)) ?_
 intro W base args ds gs before Ux hW hL hS
 obtain ⟨m,hm⟩:=CK hS
 have EZ:∀ (j:Nat) t v,Tryz.f11.params[j]?=some t→args[j]?=some v→Value.okWide Tryz.prog W .any base t v:=Ux
 refine EY (E:=vj m) (f:=11) (fn:=Tryz.f11) (n:=8) (tb:=4) (ps:=[.list 5 (.agg (.cons (.int .i64) (.cons (.int .i64) (.cons .bool (.cons .bool (.cons (.int .i64) .nil)))))),.list 5 (.agg (.cons (.int .i64) (.cons (.int .i64) (.cons .bool (.cons .bool (.cons (.int .i64) .nil)))))),.agg (.cons (.int .i64) (.cons (.int .i64) .nil))]) ?_ (by kernel_rfl) EZ hW (CL hL hm) rfl ?_ (by kernel_rfl) PX laidOut (readable (by kernel_rfl)) rfl (Ih hL)
 ·intro x hx
  exact oY (N:=18446744073709551616) x (I6 (Nat.le_refl _) m x.1 x.2.1 x.2.2)
 ·intro ds h
  have hp:Tryz.f11.params.toList.length=3:=by kernel_rfl
  rw [hp] at h
  match ds,h with
  | [d1,d2,d3],_=>rfl
theorem sC:(Rows.braidChangesRow.inPlace == Tryz.prog.inPlace 11)=true:=by kernel_rfl
theorem sD:(Rows.braidChangesRow.unfollowed == Tryz.prog.unfollowed 11)=true:=by kernel_rfl
theorem sE:(Rows.braidChangesRow.recurses == Tryz.prog.recurses 11)=true:=by kernel_rfl
theorem sF:(Rows.braidChangesRow.named == Tryz.prog.varsNamed 11)=true:=by kernel_rfl
theorem sG:(Rows.braidChangesRow.lifted == Tryz.prog.liftsFinal)=true:=Eq.trans (show (Rows.braidChangesRow.lifted == Tryz.prog.liftsFinal)=(Rows.braidCoursesRow.lifted == Tryz.prog.liftsFinal) from rfl) P1
theorem sH:(Rows.braidChangesRow.plainKeys == Tryz.prog.plainKeys)=true:=Eq.trans (show (Rows.braidChangesRow.plainKeys == Tryz.prog.plainKeys)=(Rows.braidCoursesRow.plainKeys == Tryz.prog.plainKeys) from rfl) PY
theorem oZ:joinedFacts Tryz.prog 11 Tryz.f11 Rows.braidChangesSpec Rows.braidChangesRow=true:=by
 unfold joinedFacts
 rw [sC,sD,sE,sF,sG,sH,TV,PZ,P0,P2,P3,laidOut]
 kernel_rfl
theorem pc:Rows.BraidChangesSaid:=
 OpenClaim.holds_of_wide 11 Tryz.f11 rfl rfl rfl rfl rfl rfl rfl ⟨rfl,rfl,rfl,rfl,rfl⟩ rfl rfl rfl rfl rfl (by kernel_rfl) Tryz.func11 oZ
  (of_decide_eq_true (by kernel_rfl)) (by unfold Func.isWrapper; rw [if_neg (of_decide_eq_false (by kernel_rfl))]; exact ⟨rfl,rfl⟩)
  (fun os started H enc _=>nT os started H enc)
theorem braidChanges_card:Rows.BraidChangesCardSaid:=
 Claim7.holds_tied_plain_at .later [] [.data, .data, .data, .data, .pinned] true (true, "deb4da5057572103377ec8de70cfe10286de4363f67991ff94e1c452aa320a7a") false
  pc (fun _ h=>by cases h) (by kernel_rfl) (fun _ h=>by cases h) braidChanges_row_tie rfl ⟨rfl,rfl⟩ (by kernel_rfl) rfl
  (fun f fn hf Rw=>by
   obtain rfl:f=11:=Option.some.inj ((show Tryz.prog.funcNamed Rows.braidChangesRow.func=some 11 by kernel_rfl).symm.trans hf) |>.symm
   obtain rfl:fn=Tryz.f11:=(Option.some.inj (Tryz.func11.symm.trans Rw)).symm
   exact ⟨by kernel_rfl,Mg (by kernel_rfl)⟩)
  (by kernel_rfl)
end Go.Proofs.YtldcljfjjoidhaaGreatDoor
