/- a net that is parted into two and sewn at all common knots has as many classes as knots,with their degrees,and its parts (the listed variables as the program and its library lay them). -/
import Derived.Test.YtfiopgedfcaodaaGreatDoorSeamF
import Derived.Test.YtfiopgedfcaodaaGreatDoorSeamWh
set_option linter.all false
namespace Go.Proofs.YtfiopgedfcaodaaGreatDoor
open Go Go.Am Go.ChangeShapes Go.WideShapes Go.RowKit
set_option maxRecDepth 100000
theorem vn {F:(List (Int × Int × Int)) × Int→Option Bool} (hF:aw bX 9 ⟨(.cons (.list 3 (.agg (.cons (.int .i64) (.cons (.int .i64) (.cons (.int .i64) .nil))))) (.cons (.int .u16) .nil)),.bool,F⟩) (x:(List (Int × Int × Int)) × Int) (h:F x=some true):ck bX 9 (aO.enc (.cons (.list 3 (.agg (.cons (.int .i64) (.cons (.int .i64) (.cons (.int .i64) .nil))))) (.cons (.int .u16) .nil)) x) (fun r=>r=.bool true):=hF x true h
theorem vo {N:Nat} (x:(List (Int × Int × Int)) × Int) (h:T9 N x=some true):ck bX 9 (aO.enc (.cons (.list 3 (.agg (.cons (.int .i64) (.cons (.int .i64) (.cons (.int .i64) .nil))))) (.cons (.int .u16) .nil)) x) (fun r=>r=.bool true):=
 vn (F:=T9 N) (YQ N) x h
theorem tV (os:Os) (started:os.Started) (H:Type) (enc:TypeId × Value→H) :
  ReturnsInHanded {} Tryz.checked os 9 .any (fun w args=>(Rows.seamWholeSpec.pre enc Tryz.prog Tryz.f9 [] false w args∧laidMetH Tryz.prog uH w)∧sizedMet enc Tryz.prog Tryz.f9 (OpenSpec.ofChange Rows.seamWholeSpec) false w args)
   (Rows.seamWholeSpec.post enc Tryz.prog Tryz.f9 false true false false):=by
 refine returnsInHanded_of_change_and (C:=Tryz.checked) (X:=fun w _=>laidMetH Tryz.prog uH w) (fun _ _ _ hh h=>h.of_heap hh) own started (by kernel_rfl) Tryz.func9
  (ChangeSpec.witness_at (enc:=enc) (C:=Tryz.checked) (os:=os) (X:=fun w _=>laidMetH Tryz.prog uH w) false (Aq os) #[.slice none 0 0,.int .u16 0] 8 rfl (by kernel_rfl) (by kernel_rfl) (by kernel_rfl) (by kernel_rfl) (by kernel_rfl) (zu os _)) ?_
 intro W base args ds gs before Zs hW _ _ hL _
 have N9:∀ (j:Nat) t v,Tryz.f9.params[j]?=some t→args[j]?=some v→Value.okWide Tryz.prog W .any base t v:=Zs
 refine IN (E:=bX) (f:=9) (fn:=Tryz.f9) (n:=8) (tb:=4) (ps:=[.list 3 (.agg (.cons (.int .i64) (.cons (.int .i64) (.cons (.int .i64) .nil)))),.int .u16]) ?_ (by kernel_rfl) N9 hW (BJ hL) rfl ?_ (by kernel_rfl) Un laidOut (readable (by kernel_rfl))
 ·intro x hx
  exact vo (N:=18446744073709551616) x (RM (Nat.le_refl _) x.1 x.2)
 ·intro ds h
  have hp:Tryz.f9.params.toList.length=2:=by kernel_rfl
  rw [hp] at h
  match ds,h with
  | [d1,d2],_=>rfl
theorem B2:(Rows.seamWholeRow.inPlace == Tryz.prog.inPlace 9)=true:=by kernel_rfl
theorem B3:(Rows.seamWholeRow.unfollowed == Tryz.prog.unfollowed 9)=true:=by kernel_rfl
theorem B4:(Rows.seamWholeRow.recurses == Tryz.prog.recurses 9)=true:=by kernel_rfl
theorem B5:(Rows.seamWholeRow.named == Tryz.prog.varsNamed 9)=true:=by kernel_rfl
theorem B6:(Rows.seamWholeRow.lifted == Tryz.prog.liftsFinal)=true:=Eq.trans (show (Rows.seamWholeRow.lifted == Tryz.prog.liftsFinal)=(Rows.seamJoinsRow.lifted == Tryz.prog.liftsFinal) from rfl) Ur
theorem B7:(Rows.seamWholeRow.plainKeys == Tryz.prog.plainKeys)=true:=Eq.trans (show (Rows.seamWholeRow.plainKeys == Tryz.prog.plainKeys)=(Rows.seamJoinsRow.plainKeys == Tryz.prog.plainKeys) from rfl) Uo
theorem vp:joinedFacts Tryz.prog 9 Tryz.f9 Rows.seamWholeSpec Rows.seamWholeRow=true:=by
 unfold joinedFacts
 rw [B2,B3,B4,B5,B6,B7,XW,Up,Uq,Us,Ut,laidOut]
 kernel_rfl
theorem vq:Rows.SeamWholeSaid:=
 OpenClaim.holds_of_wide 9 Tryz.f9 rfl rfl rfl rfl rfl rfl rfl ⟨rfl,rfl,rfl,rfl,rfl⟩ rfl rfl rfl rfl rfl (by kernel_rfl) Tryz.func9 vp
  (of_decide_eq_true (by kernel_rfl)) (by unfold Func.isWrapper; rw [if_neg (of_decide_eq_false (by kernel_rfl))]; exact ⟨rfl,rfl⟩)
  (fun os started H enc _=>tV os started H enc)
theorem seamWhole_card:Rows.SeamWholeCardSaid:=
 Claim7.holds_tied_plain_at .later [] [.data, .data, .data, .widerDeep] true (true, "22d1f53af195ce4a65371a8e296f4f56373d419fbce4718ff79501aa217ed00d") false
  vq (fun _ h=>by cases h) (by kernel_rfl) (fun _ h=>by cases h) seamWhole_row_tie rfl ⟨rfl,rfl⟩ (by kernel_rfl) rfl
  (fun f fn hf ZU=>by
   obtain rfl:f=9:=Option.some.inj ((show Tryz.prog.funcNamed Rows.seamWholeRow.func=some 9 by kernel_rfl).symm.trans hf) |>.symm
   obtain rfl:fn=Tryz.f9:=(Option.some.inj (Tryz.func9.symm.trans ZU)).symm
   exact ⟨by kernel_rfl,PC (by kernel_rfl)⟩)
  (by kernel_rfl)
end Go.Proofs.YtfiopgedfcaodaaGreatDoor
