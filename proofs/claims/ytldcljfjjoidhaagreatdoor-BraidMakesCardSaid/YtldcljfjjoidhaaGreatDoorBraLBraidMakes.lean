/- the compiled program of a net makes it,with as few pieces as any choice of directions,and not fewer than the net needs (the listed variables as the program and its library lay them). -/
import Derived.Test.YtldcljfjjoidhaaGreatDoorBraF
import Derived.Test.YtldcljfjjoidhaaGreatDoorSeamKI
set_option linter.all false
open Option.some renaming inj→aad
namespace Go.Proofs.YtldcljfjjoidhaaGreatDoor
open Go Go.Am Go.ChangeShapes Go.WideShapes Go.RowKit
open List (map)
open Int (toNat)
open Go.IntKind (wrap)
open Go.Am.aO (fits)
set_option maxRecDepth 100000
theorem wD {m:Int} {F:cI→Option Bool} (hF:aj (AO m) 9 ⟨(.cons iF .nil),.bool,F⟩) (x:cI) (h:F x=some true):a6 (AO m) 9 (aQ.enc (.cons iF .nil) x) (fun r=>r=.bool true):=hF x true h
theorem wE {m:Int} {N:Nat} (x:cI) (h:T9 m N x=some true):a6 (AO m) 9 (aQ.enc (.cons iF .nil) x) (fun r=>r=.bool true):=
 wD (F:=T9 m N) (aeS m N) x h
theorem vd (os:Os) (started:os.Started) (H:Type) (enc:TypeId × Value→H) :
  ReturnsInHanded {} Tryz.checked os 9 .any (fun w args=>(Rows.braidMakesSpec.pre enc Tryz.prog Tryz.f9 [] false w args∧laidMetH Tryz.prog sO w)∧sizedMet enc Tryz.prog Tryz.f9 (OpenSpec.ofChange Rows.braidMakesSpec) false w args)
   (Rows.braidMakesSpec.post enc Tryz.prog Tryz.f9 false true false false):=by
 refine pK (C:=Tryz.checked) (X:=fun w _=>laidMetH Tryz.prog sO w) (fun _ _ _ hh h=>h.of_heap hh) own started (by kernel_rfl) Tryz.func9
  (ChangeSpec.witness_at (enc:=enc) (C:=Tryz.checked) (os:=os) (X:=fun w _=>laidMetH Tryz.prog sO w) false (AP os) #[.slice none 0 0] 8 rfl (by kernel_rfl) (by kernel_rfl) (by kernel_rfl) (by kernel_rfl) (by kernel_rfl) (AQ os _)) ?_
 intro W base args ds gs before aeW hW hL hS;obtain ⟨m,hm⟩:=IU hS;have F9:∀ (j:Nat) t v,Tryz.f9.params[j]?=some t→args[j]?=some v→Value.okWide Tryz.prog W .any base t v:=aeW;refine LJ (E:=AO m) (f:=9) (fn:=Tryz.f9) (n:=8) (tb:=4) (ps:=[.list 3 aA]) ?_ (by kernel_rfl) F9 hW (IV hL hm) rfl ?_ (by kernel_rfl) ZE laidOut (readable (by kernel_rfl)) rfl (Pp hL)
 ·intro x hx;exact wE (N:=18446744073709551616) x (Wx (Nat.le_refl _) m x)
 ·intro ds h;have hp:Tryz.f9.params.toList.length=1:=by kernel_rfl
  rw [hp] at h
  match ds,h with
  |[d1],_=>rfl
theorem B5:(Rows.braidMakesRow.inPlace == Tryz.prog.inPlace 9)=true:=by kernel_rfl
theorem B6:(Rows.braidMakesRow.unfollowed == Tryz.prog.unfollowed 9)=true:=by kernel_rfl
theorem B7:(Rows.braidMakesRow.recurses == Tryz.prog.recurses 9)=true:=by kernel_rfl
theorem B8:(Rows.braidMakesRow.named == Tryz.prog.varsNamed 9)=true:=by kernel_rfl
theorem B9:(Rows.braidMakesRow.lifted == Tryz.prog.liftsFinal)=true:=Eq.trans (show (Rows.braidMakesRow.lifted == Tryz.prog.liftsFinal)=(Rows.braidCoursesRow.lifted == Tryz.prog.liftsFinal) from rfl) ZI
theorem Ca:(Rows.braidMakesRow.plainKeys == Tryz.prog.plainKeys)=true:=Eq.trans (show (Rows.braidMakesRow.plainKeys == Tryz.prog.plainKeys)=(Rows.braidCoursesRow.plainKeys == Tryz.prog.plainKeys) from rfl) ZF
theorem wF:joinedFacts Tryz.prog 9 Tryz.f9 Rows.braidMakesSpec Rows.braidMakesRow=true:=by
 unfold joinedFacts;rw [B5,B6,B7,B8,B9,Ca,ad0,ZG,ZH,ZJ,ZK,laidOut]
 kernel_rfl
theorem wG:Rows.BraidMakesSaid:=
 OpenClaim.holds_of_wide 9 Tryz.f9 rfl rfl rfl rfl rfl rfl rfl ⟨rfl,rfl,rfl,rfl,rfl⟩ rfl rfl rfl rfl rfl (by kernel_rfl) Tryz.func9 wF
  (of_decide_eq_true (by kernel_rfl)) (by unfold Func.isWrapper; rw [if_neg (of_decide_eq_false (by kernel_rfl))]; exact ⟨rfl,rfl⟩)
  (fun os started H enc _=>vd os started H enc)
theorem braidMakes_card:Rows.BraidMakesCardSaid:=
 Claim7.holds_tied_plain_at .later [] [.data, .data, .data, .data, .pinned] true (true, "deb4da5057572103377ec8de70cfe10286de4363f67991ff94e1c452aa320a7a") false
  wG (fun _ h=>by cases h) (by kernel_rfl) (fun _ h=>by cases h) braidMakes_row_tie rfl ⟨rfl,rfl⟩ (by kernel_rfl) rfl
  (fun f fn hf hfn=>by
   obtain rfl:f=9:=aad ((show Tryz.prog.funcNamed Rows.braidMakesRow.func=some 9 by kernel_rfl).symm.trans hf) |>.symm;obtain rfl:fn=Tryz.f9:=(aad (Tryz.func9.symm.trans hfn)).symm;exact ⟨by kernel_rfl,UP (by kernel_rfl)⟩)
  (by kernel_rfl)
end Go.Proofs.YtldcljfjjoidhaaGreatDoor
