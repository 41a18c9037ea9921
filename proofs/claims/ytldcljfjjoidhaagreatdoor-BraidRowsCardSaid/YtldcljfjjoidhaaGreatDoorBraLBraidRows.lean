/- the rows of a net,what they gain,and its ends of twine agree with the reference,or their errors (the listed variables as the program and its library lay them). -/
import Derived.Test.YtldcljfjjoidhaaGreatDoorBraF
import Derived.Test.YtldcljfjjoidhaaGreatDoorSeamKI
set_option linter.all false
namespace Go.Proofs.YtldcljfjjoidhaaGreatDoor
open Go Go.Am Go.ChangeShapes Go.WideShapes Go.RowKit
open List (map)
open Int (toNat)
open Go.IntKind (wrap)
open Go.Am.aO (fits)
set_option maxRecDepth 100000
theorem uT {m:Int} {F:bO→Option Bool} (hF:ap (xJ m) 3 ⟨(.cons cG .nil),.bool,F⟩) (x:bO) (h:F x=some true):aW (xJ m) 3 (aP.enc (.cons cG .nil) x) (fun r=>r=.bool true):=hF x true h
theorem uU {m:Int} {N:Nat} (x:bO) (h:T3 m N x=some true):aW (xJ m) 3 (aP.enc (.cons cG .nil) x) (fun r=>r=.bool true):=
 uT (F:=T3 m N) (Ys m N) x h
theorem tF (os:Os) (started:os.Started) (H:Type) (enc:TypeId × Value→H) :
  ReturnsInHanded {} Tryz.checked os 3 .any (fun w args=>(Rows.braidRowsSpec.pre enc Tryz.prog Tryz.f3 [] false w args∧laidMetH Tryz.prog p9 w)∧sizedMet enc Tryz.prog Tryz.f3 (OpenSpec.ofChange Rows.braidRowsSpec) false w args)
   (Rows.braidRowsSpec.post enc Tryz.prog Tryz.f3 false true false false):=by
 refine nw (C:=Tryz.checked) (X:=fun w _=>laidMetH Tryz.prog p9 w) (fun _ _ _ hh h=>h.of_heap hh) own started (by kernel_rfl) Tryz.func3
  (ChangeSpec.witness_at (enc:=enc) (C:=Tryz.checked) (os:=os) (X:=fun w _=>laidMetH Tryz.prog p9 w) false (xK os) #[.slice none 0 0] 8 rfl (by kernel_rfl) (by kernel_rfl) (by kernel_rfl) (by kernel_rfl) (by kernel_rfl) (xL os _)) ?_
 intro W base args ds gs before Yw hW hL hS
 obtain ⟨m,hm⟩:=E6 hS
 have CW:∀ (j:Nat) t v,Tryz.f3.params[j]?=some t→args[j]?=some v→Value.okWide Tryz.prog W .any base t v:=Yw
 refine HJ (E:=xJ m) (f:=3) (fn:=Tryz.f3) (n:=8) (tb:=4) (ps:=[.list 3 au]) ?_ (by kernel_rfl) CW hW (E7 hL hm) rfl ?_ (by kernel_rfl) TZ laidOut (readable (by kernel_rfl)) rfl (Lk hL)
 ·intro x hx
  exact uU (N:=18446744073709551616) x (QO (Nat.le_refl _) m x)
 ·intro ds h
  have hp:Tryz.f3.params.toList.length=1:=by kernel_rfl
  rw [hp] at h
  match ds,h with
  | [d1],_=>rfl
theorem Bx:(Rows.braidRowsRow.inPlace == Tryz.prog.inPlace 3)=true:=by kernel_rfl
theorem By:(Rows.braidRowsRow.unfollowed == Tryz.prog.unfollowed 3)=true:=by kernel_rfl
theorem Bz:(Rows.braidRowsRow.recurses == Tryz.prog.recurses 3)=true:=by kernel_rfl
theorem BA:(Rows.braidRowsRow.named == Tryz.prog.varsNamed 3)=true:=by kernel_rfl
theorem BB:(Rows.braidRowsRow.lifted == Tryz.prog.liftsFinal)=true:=Eq.trans (show (Rows.braidRowsRow.lifted == Tryz.prog.liftsFinal)=(Rows.braidCoursesRow.lifted == Tryz.prog.liftsFinal) from rfl) T4
theorem BC:(Rows.braidRowsRow.plainKeys == Tryz.prog.plainKeys)=true:=Eq.trans (show (Rows.braidRowsRow.plainKeys == Tryz.prog.plainKeys)=(Rows.braidCoursesRow.plainKeys == Tryz.prog.plainKeys) from rfl) T0
theorem uV:joinedFacts Tryz.prog 3 Tryz.f3 Rows.braidRowsSpec Rows.braidRowsRow=true:=by
 unfold joinedFacts
 rw [Bx,By,Bz,BA,BB,BC,XI,T1,T2,T5,T6,laidOut]
 kernel_rfl
theorem uW:Rows.BraidRowsSaid:=
 OpenClaim.holds_of_wide 3 Tryz.f3 rfl rfl rfl rfl rfl rfl rfl ⟨rfl,rfl,rfl,rfl,rfl⟩ rfl rfl rfl rfl rfl (by kernel_rfl) Tryz.func3 uV
  (of_decide_eq_true (by kernel_rfl)) (by unfold Func.isWrapper; rw [if_neg (of_decide_eq_false (by kernel_rfl))]; exact ⟨rfl,rfl⟩)
  (fun os started H enc _=>tF os started H enc)
theorem braidRows_card:Rows.BraidRowsCardSaid:=
 Claim7.holds_tied_plain_at .later [] [.data, .data, .data, .data, .pinned] true (true, "deb4da5057572103377ec8de70cfe10286de4363f67991ff94e1c452aa320a7a") false
  uW (fun _ h=>by cases h) (by kernel_rfl) (fun _ h=>by cases h) braidRows_row_tie rfl ⟨rfl,rfl⟩ (by kernel_rfl) rfl
  (fun f fn hf VA=>by
   obtain rfl:f=3:=Option.some.inj ((show Tryz.prog.funcNamed Rows.braidRowsRow.func=some 3 by kernel_rfl).symm.trans hf) |>.symm
   obtain rfl:fn=Tryz.f3:=(Option.some.inj (Tryz.func3.symm.trans VA)).symm
   exact ⟨by kernel_rfl,PR (by kernel_rfl)⟩)
  (by kernel_rfl)
end Go.Proofs.YtldcljfjjoidhaaGreatDoor
