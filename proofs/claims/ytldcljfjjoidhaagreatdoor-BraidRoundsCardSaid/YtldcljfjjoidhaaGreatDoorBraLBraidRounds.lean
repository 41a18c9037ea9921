/- programs worked back and mirrored twice,moved,and parted are as they are said to be (the listed variables as the program and its library lay them). -/
import Derived.Test.YtldcljfjjoidhaaGreatDoorBraF
import Derived.Test.YtldcljfjjoidhaaGreatDoorBraQd
set_option linter.all false
namespace Go.Proofs.YtldcljfjjoidhaaGreatDoor
open Go Go.Am Go.ChangeShapes Go.WideShapes Go.RowKit
open List (map)
open Int (toNat)
open Go.IntKind (wrap)
open Go.Am.aT (fits)
set_option maxRecDepth 100000
theorem sB {m:Int} {F:eD × XB→Option Bool} (hF:ap (xF m) 12 ⟨(.cons qp (.cons (.agg (.cons (.int .i8) (.cons (.int .i8) (.cons (.int .i8) .nil)))) .nil)),.bool,F⟩) (x:eD × XB) (h:F x=some true):aY (xF m) 12 (aP.enc (.cons qp (.cons (.agg (.cons (.int .i8) (.cons (.int .i8) (.cons (.int .i8) .nil)))) .nil)) x) (fun r=>r=.bool true):=hF x true h
theorem sC {m:Int} {N:Nat} (x:eD × XB) (h:Z2 m N x=some true):aY (xF m) 12 (aP.enc (.cons qp (.cons (.agg (.cons (.int .i8) (.cons (.int .i8) (.cons (.int .i8) .nil)))) .nil)) x) (fun r=>r=.bool true):=
 sB (F:=Z2 m N) (WA m N) x h
theorem qY (os:Os) (started:os.Started) (H:Type) (enc:TypeId × Value→H) :
  ReturnsInHanded {} Tryz.checked os 12 .any (fun w args=>(Rows.braidRoundsSpec.pre enc Tryz.prog Tryz.f12 [] false w args∧laidMetH Tryz.prog qn w)∧sizedMet enc Tryz.prog Tryz.f12 (OpenSpec.ofChange Rows.braidRoundsSpec) false w args)
   (Rows.braidRoundsSpec.post enc Tryz.prog Tryz.f12 false true false false):=by
 refine ny (C:=Tryz.checked) (X:=fun w _=>laidMetH Tryz.prog qn w) (fun _ _ _ hh h=>h.of_heap hh) own started (by kernel_rfl) Tryz.func12
  (ChangeSpec.witness_at (enc:=enc) (C:=Tryz.checked) (os:=os) (X:=fun w _=>laidMetH Tryz.prog qn w) false (xG os) #[.slice none 0 0,.agg #[.int .i8 0,.int .i8 0,.int .i8 0]] 8 rfl (by kernel_rfl) (by kernel_rfl) (by kernel_rfl) (by kernel_rfl) (by kernel_rfl) (xH os _)) ?_
 intro W base args ds gs before Z8 hW hL hS
 obtain ⟨m,hm⟩:=Fj hS
 have H9:∀ (j:Nat) t v,Tryz.f12.params[j]?=some t→args[j]?=some v→Value.okWide Tryz.prog W .any base t v:=Z8
 refine H8 (E:=xF m) (f:=12) (fn:=Tryz.f12) (n:=8) (tb:=4) (ps:=[.list 5 cR,.agg (.cons (.int .i8) (.cons (.int .i8) (.cons (.int .i8) .nil)))]) ?_ (by kernel_rfl) H9 hW (Fk hL hm) rfl ?_ (by kernel_rfl) UW laidOut (readable (by kernel_rfl)) rfl (LD hL)
 ·intro x hx
  exact sC (N:=18446744073709551616) x (MX (Nat.le_refl _) m x.1 x.2)
 ·intro ds h
  have hp:Tryz.f12.params.toList.length=2:=by kernel_rfl
  rw [hp] at h
  match ds,h with
  | [d1,mG],_=>rfl
theorem yo:(Rows.braidRoundsRow.inPlace == Tryz.prog.inPlace 12)=true:=by kernel_rfl
theorem yp:(Rows.braidRoundsRow.unfollowed == Tryz.prog.unfollowed 12)=true:=by kernel_rfl
theorem yq:(Rows.braidRoundsRow.recurses == Tryz.prog.recurses 12)=true:=by kernel_rfl
theorem yt:(Rows.braidRoundsRow.named == Tryz.prog.varsNamed 12)=true:=by kernel_rfl
theorem yu:(Rows.braidRoundsRow.lifted == Tryz.prog.liftsFinal)=true:=Eq.trans (show (Rows.braidRoundsRow.lifted == Tryz.prog.liftsFinal)=(Rows.braidCoursesRow.lifted == Tryz.prog.liftsFinal) from rfl) U0
theorem yw:(Rows.braidRoundsRow.plainKeys == Tryz.prog.plainKeys)=true:=Eq.trans (show (Rows.braidRoundsRow.plainKeys == Tryz.prog.plainKeys)=(Rows.braidCoursesRow.plainKeys == Tryz.prog.plainKeys) from rfl) UX
theorem sD:joinedFacts Tryz.prog 12 Tryz.f12 Rows.braidRoundsSpec Rows.braidRoundsRow=true:=by
 unfold joinedFacts
 rw [yo,yp,yq,yt,yu,yw,Zd,UY,UZ,U1,U2,laidOut]
 kernel_rfl
theorem sE:Rows.BraidRoundsSaid:=
 OpenClaim.holds_of_wide 12 Tryz.f12 rfl rfl rfl rfl rfl rfl rfl ⟨rfl,rfl,rfl,rfl,rfl⟩ rfl rfl rfl rfl rfl (by kernel_rfl) Tryz.func12 sD
  (of_decide_eq_true (by kernel_rfl)) (by unfold Func.isWrapper; rw [if_neg (of_decide_eq_false (by kernel_rfl))]; exact ⟨rfl,rfl⟩)
  (fun os started H enc _=>qY os started H enc)
theorem braidRounds_card:Rows.BraidRoundsCardSaid:=
 Claim7.holds_tied_plain_at .later [] [.data, .data, .data, .data, .pinned] true (true, "deb4da5057572103377ec8de70cfe10286de4363f67991ff94e1c452aa320a7a") false
  sE (fun _ h=>by cases h) (by kernel_rfl) (fun _ h=>by cases h) braidRounds_row_tie rfl ⟨rfl,rfl⟩ (by kernel_rfl) rfl
  (fun f fn hf W2=>by
   obtain rfl:f=12:=Option.some.inj ((show Tryz.prog.funcNamed Rows.braidRoundsRow.func=some 12 by kernel_rfl).symm.trans hf) |>.symm
   obtain rfl:fn=Tryz.f12:=(Option.some.inj (Tryz.func12.symm.trans W2)).symm
   exact ⟨by kernel_rfl,Qi (by kernel_rfl)⟩)
  (by kernel_rfl)
end Go.Proofs.YtldcljfjjoidhaaGreatDoor
