/- a compiled program and its check agree with the reference,or their errors (the listed variables as the program and its library lay them). -/
import Derived.Test.YtldcljfjjoidhaaGreatDoorBraF
import Derived.Test.YtldcljfjjoidhaaGreatDoorSeamKG
set_option linter.all false
namespace Go.Proofs.YtldcljfjjoidhaaGreatDoor
open Go Go.Am Go.ChangeShapes Go.WideShapes Go.RowKit
open List (map)
open Int (toNat)
open Go.IntKind (wrap)
open Go.Am.aR (fits)
set_option maxRecDepth 100000
theorem qY {m:Int} {F:dY × fK→Option Bool} (hF:ak (zm m) 8 ⟨(.cons qI (.cons zT .nil)),.bool,F⟩) (x:dY × fK) (h:F x=some true):a7 (zm m) 8 (aT.enc (.cons qI (.cons zT .nil)) x) (fun r=>r=.bool true):=hF x true h
theorem qZ {m:Int} {N:Nat} (x:dY × fK) (h:T8 m N x=some true):a7 (zm m) 8 (aT.enc (.cons qI (.cons zT .nil)) x) (fun r=>r=.bool true):=
 qY (F:=T8 m N) (abk m N) x h
theorem qf (os:Os) (started:os.Started) (H:Type) (enc:TypeId × Value→H) :
  ReturnsInHanded {} Tryz.checked os 8 .any (fun w args=>(Rows.braidCompilesSpec.pre enc Tryz.prog Tryz.f8 [] false w args∧laidMetH Tryz.prog rH w)∧sizedMet enc Tryz.prog Tryz.f8 (OpenSpec.ofChange Rows.braidCompilesSpec) false w args)
   (Rows.braidCompilesSpec.post enc Tryz.prog Tryz.f8 false true false false):=by
 refine ot (C:=Tryz.checked) (X:=fun w _=>laidMetH Tryz.prog rH w) (fun _ _ _ hh h=>h.of_heap hh) own started (by kernel_rfl) Tryz.func8
  (ChangeSpec.witness_at (enc:=enc) (C:=Tryz.checked) (os:=os) (X:=fun w _=>laidMetH Tryz.prog rH w) false (zn os) #[.slice none 0 0,.slice none 0 0] 8 rfl (by kernel_rfl) (by kernel_rfl) (by kernel_rfl) (by kernel_rfl) (by kernel_rfl) (zo os _)) ?_
 intro W base args ds gs before abm hW hL hS
 obtain ⟨m,hm⟩:=Gk hS
 have I3:∀ (j:Nat) t v,Tryz.f8.params[j]?=some t→args[j]?=some v→Value.okWide Tryz.prog W .any base t v:=abm
 refine I2 (E:=zm m) (f:=8) (fn:=Tryz.f8) (n:=8) (tb:=4) (ps:=[.list 3 ay,.list 5 df]) ?_ (by kernel_rfl) I3 hW (Gl hL hm) rfl ?_ (by kernel_rfl) V5 laidOut (readable (by kernel_rfl)) rfl (MA hL)
 ·intro x hx
  exact qZ (N:=18446744073709551616) x (S4 (Nat.le_refl _) m x.1 x.2)
 ·intro ds h
  have hp:Tryz.f8.params.toList.length=2:=by kernel_rfl
  rw [hp] at h
  match ds,h with
  | [d1,kw],_=>rfl
theorem vb:(Rows.braidCompilesRow.inPlace == Tryz.prog.inPlace 8)=true:=by kernel_rfl
theorem vc:(Rows.braidCompilesRow.unfollowed == Tryz.prog.unfollowed 8)=true:=by kernel_rfl
theorem vd:(Rows.braidCompilesRow.recurses == Tryz.prog.recurses 8)=true:=by kernel_rfl
theorem vf:(Rows.braidCompilesRow.named == Tryz.prog.varsNamed 8)=true:=by kernel_rfl
theorem vg:(Rows.braidCompilesRow.lifted == Tryz.prog.liftsFinal)=true:=Eq.trans (show (Rows.braidCompilesRow.lifted == Tryz.prog.liftsFinal)=(Rows.braidCoursesRow.lifted == Tryz.prog.liftsFinal) from rfl) V9
theorem vh:(Rows.braidCompilesRow.plainKeys == Tryz.prog.plainKeys)=true:=Eq.trans (show (Rows.braidCompilesRow.plainKeys == Tryz.prog.plainKeys)=(Rows.braidCoursesRow.plainKeys == Tryz.prog.plainKeys) from rfl) V6
theorem q8:joinedFacts Tryz.prog 8 Tryz.f8 Rows.braidCompilesSpec Rows.braidCompilesRow=true:=by
 unfold joinedFacts
 rw [vb,vc,vd,vf,vg,vh,aak,V7,V8,Wa,Wb,laidOut]
 kernel_rfl
theorem q9:Rows.BraidCompilesSaid:=
 OpenClaim.holds_of_wide 8 Tryz.f8 rfl rfl rfl rfl rfl rfl rfl ⟨rfl,rfl,rfl,rfl,rfl⟩ rfl rfl rfl rfl rfl (by kernel_rfl) Tryz.func8 q8
  (of_decide_eq_true (by kernel_rfl)) (by unfold Func.isWrapper; rw [if_neg (of_decide_eq_false (by kernel_rfl))]; exact ⟨rfl,rfl⟩)
  (fun os started H enc _=>qf os started H enc)
theorem braidCompiles_card:Rows.BraidCompilesCardSaid:=
 Claim7.holds_tied_plain_at .later [] [.data, .data, .data, .data, .pinned] true (true, "deb4da5057572103377ec8de70cfe10286de4363f67991ff94e1c452aa320a7a") false
  q9 (fun _ h=>by cases h) (by kernel_rfl) (fun _ h=>by cases h) braidCompiles_row_tie rfl ⟨rfl,rfl⟩ (by kernel_rfl) rfl
  (fun f fn hf Yf=>by
   obtain rfl:f=8:=Option.some.inj ((show Tryz.prog.funcNamed Rows.braidCompilesRow.func=some 8 by kernel_rfl).symm.trans hf) |>.symm
   obtain rfl:fn=Tryz.f8:=(Option.some.inj (Tryz.func8.symm.trans Yf)).symm
   exact ⟨by kernel_rfl,Rk (by kernel_rfl)⟩)
  (by kernel_rfl)
end Go.Proofs.YtldcljfjjoidhaaGreatDoor
