/- For every program,every text and every two numbers: BraidTexts returns true and leaves its input as it was (the listed variables as the program and its library lay them). -/
import Derived.Test.YtldcljfjjoidhaaGreatDoorBraF
import Derived.Test.YtldcljfjjoidhaaGreatDoorSeamKD
set_option linter.all false
open Option.some renaming inj→aab
namespace Go.Proofs.YtldcljfjjoidhaaGreatDoor
open Go Go.Am Go.ChangeShapes Go.WideShapes Go.RowKit
open List (map)
open Int (toNat)
open Go.IntKind (wrap)
open Go.Am.aP (fits)
set_option maxRecDepth 100000
theorem vk {m:Int} {F:dQ × (List UInt8) × XA→Option Bool} (hF:ai (oZ m) 4 ⟨(.cons CY (.cons .str (.cons cZ .nil))),.bool,F⟩) (x:dQ × (List UInt8) × XA) (h:F x=some true):aU (oZ m) 4 (aM.enc (.cons CY (.cons .str (.cons cZ .nil))) x) (fun r=>r=.bool true):=hF x true h
theorem vl {m:Int} {N:Nat} (x:dQ × (List UInt8) × XA) (h:T4 m N x=some true):aU (oZ m) 4 (aM.enc (.cons CY (.cons .str (.cons cZ .nil))) x) (fun r=>r=.bool true):=
 vk (F:=T4 m N) (acP m N) x h
theorem tW (os:Os) (started:os.Started) (H:Type) (enc:TypeId × Value→H) :
  ReturnsInHanded {} Tryz.checked os 4 .any (fun w args=>(Rows.braidTextsSpec.pre enc Tryz.prog Tryz.f4 [] false w args∧laidMetH Tryz.prog rR w)∧sizedMet enc Tryz.prog Tryz.f4 (OpenSpec.ofChange Rows.braidTextsSpec) false w args)
   (Rows.braidTextsSpec.post enc Tryz.prog Tryz.f4 false true false false):=by
 refine oz (C:=Tryz.checked) (X:=fun w _=>laidMetH Tryz.prog rR w) (fun _ _ _ hh h=>h.of_heap hh) own started (by kernel_rfl) Tryz.func4
  (ChangeSpec.witness_at (enc:=enc) (C:=Tryz.checked) (os:=os) (X:=fun w _=>laidMetH Tryz.prog rR w) false (zA os) #[.slice none 0 0,.string ⟨#[]⟩,.agg #[.int .i64 0,.int .i64 0]] 8 rfl (by kernel_rfl) (by kernel_rfl) (by kernel_rfl) (by kernel_rfl) (by kernel_rfl) (zB os _)) ?_
 intro W base args ds gs before acR hW hL hS;obtain ⟨m,hm⟩:=Hc hS;have J2:∀ (j:Nat) t v,Tryz.f4.params[j]?=some t→args[j]?=some v→Value.okWide Tryz.prog W .any base t v:=acR;refine J1 (E:=oZ m) (f:=4) (fn:=Tryz.f4) (n:=8) (tb:=4) (ps:=[.list 5 dS,.str,.agg (.cons (.int .i64) (.cons (.int .i64) .nil))]) ?_ (by kernel_rfl) J2 hW (Hd hL hm) rfl ?_ (by kernel_rfl) W9 laidOut (readable (by kernel_rfl)) rfl (NO hL)
 ·intro x hx;exact vl (N:=18446744073709551616) x (Ue (Nat.le_refl _) m x.1 x.2.1 x.2.2)
 ·intro ds h;have hp:Tryz.f4.params.toList.length=3:=by kernel_rfl
  rw [hp] at h
  match ds,h with
  |[d1,lD,gP],_=>rfl
theorem AN:(Rows.braidTextsRow.inPlace == Tryz.prog.inPlace 4)=true:=by kernel_rfl
theorem AO:(Rows.braidTextsRow.unfollowed == Tryz.prog.unfollowed 4)=true:=by kernel_rfl
theorem AP:(Rows.braidTextsRow.recurses == Tryz.prog.recurses 4)=true:=by kernel_rfl
theorem AQ:(Rows.braidTextsRow.named == Tryz.prog.varsNamed 4)=true:=by kernel_rfl
theorem AR:(Rows.braidTextsRow.lifted == Tryz.prog.liftsFinal)=true:=Eq.trans (show (Rows.braidTextsRow.lifted == Tryz.prog.liftsFinal)=(Rows.braidCoursesRow.lifted == Tryz.prog.liftsFinal) from rfl) Xd
theorem AS:(Rows.braidTextsRow.plainKeys == Tryz.prog.plainKeys)=true:=Eq.trans (show (Rows.braidTextsRow.plainKeys == Tryz.prog.plainKeys)=(Rows.braidCoursesRow.plainKeys == Tryz.prog.plainKeys) from rfl) Xa
theorem vm:joinedFacts Tryz.prog 4 Tryz.f4 Rows.braidTextsSpec Rows.braidTextsRow=true:=by
 unfold joinedFacts;rw [AN,AO,AP,AQ,AR,AS,abw,Xb,Xc,Xe,Xf,laidOut]
 kernel_rfl
theorem vo:Rows.BraidTextsSaid:=
 OpenClaim.holds_of_wide 4 Tryz.f4 rfl rfl rfl rfl rfl rfl rfl ⟨rfl,rfl,rfl,rfl,rfl⟩ rfl rfl rfl rfl rfl (by kernel_rfl) Tryz.func4 vm
  (of_decide_eq_true (by kernel_rfl)) (by unfold Func.isWrapper; rw [if_neg (of_decide_eq_false (by kernel_rfl))]; exact ⟨rfl,rfl⟩)
  (fun os started H enc _=>tW os started H enc)
theorem braidTexts_card:Rows.BraidTextsCardSaid:=
 Claim7.holds_tied_plain_at .later [] [.data, .data, .data, .data, .pinned] true (true, "deb4da5057572103377ec8de70cfe10286de4363f67991ff94e1c452aa320a7a") false
  vo (fun _ h=>by cases h) (by kernel_rfl) (fun _ h=>by cases h) braidTexts_row_tie rfl ⟨rfl,rfl⟩ (by kernel_rfl) rfl
  (fun f fn hf Y8=>by
   obtain rfl:f=4:=aab ((show Tryz.prog.funcNamed Rows.braidTextsRow.func=some 4 by kernel_rfl).symm.trans hf) |>.symm;obtain rfl:fn=Tryz.f4:=(aab (Tryz.func4.symm.trans Y8)).symm;exact ⟨by kernel_rfl,Sv (by kernel_rfl)⟩)
  (by kernel_rfl)
end Go.Proofs.YtldcljfjjoidhaaGreatDoor
