/- For every program,every text and every cut: BraidStrict returns true and leaves its input as it was (the listed variables as the program and its library lay them). -/
import Derived.Test.YtldcljfjjoidhaaGreatDoorBraF
import Derived.Test.YtldcljfjjoidhaaGreatDoorSeamKD
set_option linter.all false
open Option.some renaming inj→aaa
namespace Go.Proofs.YtldcljfjjoidhaaGreatDoor
open Go Go.Am Go.ChangeShapes Go.WideShapes Go.RowKit
open List (map)
open Int (toNat)
open Go.IntKind (wrap)
open Go.Am.aM (fits)
set_option maxRecDepth 100000
theorem tN {m:Int} {F:ey × (List UInt8) × Int→Option Bool} (hF:ai (oM m) 5 ⟨(.cons J0 (.cons .str (.cons (.int .u8) .nil))),.bool,F⟩) (x:ey × (List UInt8) × Int) (h:F x=some true):aR (oM m) 5 (aJ.enc (.cons J0 (.cons .str (.cons (.int .u8) .nil))) x) (fun r=>r=.bool true):=hF x true h
theorem tO {m:Int} {N:Nat} (x:ey × (List UInt8) × Int) (h:T5 m N x=some true):aR (oM m) 5 (aJ.enc (.cons J0 (.cons .str (.cons (.int .u8) .nil))) x) (fun r=>r=.bool true):=
 tN (F:=T5 m N) (abH m N) x h
theorem ss (os:Os) (started:os.Started) (H:Type) (enc:TypeId × Value→H) :
  ReturnsInHanded {} Tryz.checked os 5 .any (fun w args=>(Rows.braidStrictSpec.pre enc Tryz.prog Tryz.f5 [] false w args∧laidMetH Tryz.prog rE w)∧sizedMet enc Tryz.prog Tryz.f5 (OpenSpec.ofChange Rows.braidStrictSpec) false w args)
   (Rows.braidStrictSpec.post enc Tryz.prog Tryz.f5 false true false false):=by
 refine ol (C:=Tryz.checked) (X:=fun w _=>laidMetH Tryz.prog rE w) (fun _ _ _ hh h=>h.of_heap hh) own started (by kernel_rfl) Tryz.func5
  (ChangeSpec.witness_at (enc:=enc) (C:=Tryz.checked) (os:=os) (X:=fun w _=>laidMetH Tryz.prog rE w) false (zo os) #[.slice none 0 0,.string ⟨#[]⟩,.int .u8 0] 8 rfl (by kernel_rfl) (by kernel_rfl) (by kernel_rfl) (by kernel_rfl) (by kernel_rfl) (zp os _)) ?_
 intro W base args ds gs before abM hW hL hS;obtain ⟨m,hm⟩:=GR hS;have JH:∀ (j:Nat) t v,Tryz.f5.params[j]?=some t→args[j]?=some v→Value.okWide Tryz.prog W .any base t v:=abM;refine JG (E:=oM m) (f:=5) (fn:=Tryz.f5) (n:=8) (tb:=4) (ps:=[.list 5 e7,.str,.int .u8]) ?_ (by kernel_rfl) JH hW (GS hL hm) rfl ?_ (by kernel_rfl) Wq laidOut (readable (by kernel_rfl)) rfl (Ns hL)
 ·intro x hx;exact tO (N:=18446744073709551616) x (Ty (Nat.le_refl _) m x.1 x.2.1 x.2.2 hx.2.2)
 ·intro ds h;have hp:Tryz.f5.params.toList.length=3:=by kernel_rfl
  rw [hp] at h
  match ds,h with
  |[d1,lz,iD],_=>rfl
theorem Ad:(Rows.braidStrictRow.inPlace == Tryz.prog.inPlace 5)=true:=by kernel_rfl
theorem Ae:(Rows.braidStrictRow.unfollowed == Tryz.prog.unfollowed 5)=true:=by kernel_rfl
theorem Af:(Rows.braidStrictRow.recurses == Tryz.prog.recurses 5)=true:=by kernel_rfl
theorem Ag:(Rows.braidStrictRow.named == Tryz.prog.varsNamed 5)=true:=by kernel_rfl
theorem Ah:(Rows.braidStrictRow.lifted == Tryz.prog.liftsFinal)=true:=Eq.trans (show (Rows.braidStrictRow.lifted == Tryz.prog.liftsFinal)=(Rows.braidCoursesRow.lifted == Tryz.prog.liftsFinal) from rfl) Wu
theorem Ai:(Rows.braidStrictRow.plainKeys == Tryz.prog.plainKeys)=true:=Eq.trans (show (Rows.braidStrictRow.plainKeys == Tryz.prog.plainKeys)=(Rows.braidCoursesRow.plainKeys == Tryz.prog.plainKeys) from rfl) Wr
theorem tP:joinedFacts Tryz.prog 5 Tryz.f5 Rows.braidStrictSpec Rows.braidStrictRow=true:=by
 unfold joinedFacts;rw [Ad,Ae,Af,Ag,Ah,Ai,aaA,Ws,Wt,Wv,Ww,laidOut]
 kernel_rfl
theorem tQ:Rows.BraidStrictSaid:=
 OpenClaim.holds_of_wide 5 Tryz.f5 rfl rfl rfl rfl rfl rfl rfl ⟨rfl,rfl,rfl,rfl,rfl⟩ rfl rfl rfl rfl rfl (by kernel_rfl) Tryz.func5 tP
  (of_decide_eq_true (by kernel_rfl)) (by unfold Func.isWrapper; rw [if_neg (of_decide_eq_false (by kernel_rfl))]; exact ⟨rfl,rfl⟩)
  (fun os started H enc _=>ss os started H enc)
theorem braidStrict_card:Rows.BraidStrictCardSaid:=
 Claim7.holds_tied_plain_at .later [] [.data, .data, .data, .data, .pinned] true (true, "deb4da5057572103377ec8de70cfe10286de4363f67991ff94e1c452aa320a7a") false
  tQ (fun _ h=>by cases h) (by kernel_rfl) (fun _ h=>by cases h) braidStrict_row_tie rfl ⟨rfl,rfl⟩ (by kernel_rfl) rfl
  (fun f fn hf Yg=>by
   obtain rfl:f=5:=aaa ((show Tryz.prog.funcNamed Rows.braidStrictRow.func=some 5 by kernel_rfl).symm.trans hf) |>.symm;obtain rfl:fn=Tryz.f5:=(aaa (Tryz.func5.symm.trans Yg)).symm;exact ⟨by kernel_rfl,R9 (by kernel_rfl)⟩)
  (by kernel_rfl)
end Go.Proofs.YtldcljfjjoidhaaGreatDoor
