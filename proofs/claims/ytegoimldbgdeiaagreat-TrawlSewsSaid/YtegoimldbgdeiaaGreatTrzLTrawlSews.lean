/- Sew,Unsew and Flip return the trawls or the errors of the reference. -/
import Derived.Test.YtegoimldbgdeiaaGreatTrzF
import Derived.Test.YtegoimldbgdeiaaGreatTrzXg
set_option linter.all false
namespace Go.Proofs.YtegoimldbgdeiaaGreat
open Go Go.Am Go.ChangeShapes Go.WideShapes Go.RowKit
open List (map)
open Int (toNat)
open Go.IntKind (wrap)
open Go.Am.aP (fits)
set_option maxRecDepth 100000
theorem yH {F:((List ((List UInt8) × (List (Int × Int)))) × (List (Int × Int × Int × Int × Bool))) × (Int × Int × Int × Int × Bool) × (Int × Int)→Option Bool} (hF:aI bU 7 ⟨(.cons ko (.cons C0 (.cons th .nil))),.bool,F⟩) (x:((List ((List UInt8) × (List (Int × Int)))) × (List (Int × Int × Int × Int × Bool))) × (Int × Int × Int × Int × Bool) × (Int × Int)) (h:F x=some true):bJ bU 7 (aQ.enc (.cons ko (.cons C0 (.cons th .nil))) x) (fun r=>r=.bool true):=hF x true h
theorem yI {N:Nat} (x:((List ((List UInt8) × (List (Int × Int)))) × (List (Int × Int × Int × Int × Bool))) × (Int × Int × Int × Int × Bool) × (Int × Int)) (h:T7 N x=some true):bJ bU 7 (aQ.enc (.cons ko (.cons C0 (.cons th .nil))) x) (fun r=>r=.bool true):=
 yH (F:=T7 N) (aaG N) x h
theorem xg (os:Os) (started:os.Started) (H:Type) (enc:TypeId × Value→H) :
  ReturnsInHanded {} Tryz.checked os 7 .any (Rows.trawlSewsSpec.pre6 enc Tryz.prog Tryz.f7 [] false)
   (Rows.trawlSewsSpec.post enc Tryz.prog Tryz.f7 false true false false):=by
 refine returnsInHanded_of_change (C:=Tryz.checked) own started (by kernel_rfl) Tryz.func7
  (witness6 (ChangeSpec.witness_at (enc:=enc) (C:=Tryz.checked) (os:=os) (X:=fun _ _=>True) false (WA os) #[.agg #[.slice none 0 0,.slice none 0 0],.agg #[.int .i64 0,.int .i64 0,.int .i64 0,.int .i64 0,.bool false],.agg #[.int .i64 0,.int .i64 0]] 8 rfl (by kernel_rfl) (by kernel_rfl) (by kernel_rfl) (by kernel_rfl) (by kernel_rfl) trivial)) ?_
 intro W base args ds gs before aaP hW _ _;have Qg:∀ (j:Nat) t v,Tryz.f7.params[j]?=some t→args[j]?=some v→Value.okWide Tryz.prog W .any base t v:=aaP;refine Lk (E:=bU) (f:=7) (fn:=Tryz.f7) (n:=8) (tb:=4) (ps:=[.agg (.cons (.list 2 (.agg (.cons .str (.cons pz .nil)))) (.cons (.list 5 C0) .nil)),.agg (.cons (.int .i64) (.cons (.int .i64) (.cons (.int .i64) (.cons (.int .i64) (.cons .bool .nil))))),.agg (.cons (.int .i64) (.cons (.int .i64) .nil))]) ?_ (by kernel_rfl) Qg hW (Wz W) rfl ?_ (by kernel_rfl) Wy laidOut (readable (by kernel_rfl))
 ·intro x hx;exact yI (N:=18446744073709551616) x (Sv (Nat.le_refl _) x.1 x.2.1 x.2.2)
 ·intro ds h;have hp:Tryz.f7.params.toList.length=3:=by kernel_rfl
  rw [hp] at h
  match ds,h with
  |[d1,d2,d3],_=>rfl
theorem Ex:(Rows.trawlSewsRow.inPlace == Tryz.prog.inPlace 7)=true:=by kernel_rfl
theorem Ey:(Rows.trawlSewsRow.unfollowed == Tryz.prog.unfollowed 7)=true:=by kernel_rfl
theorem Ez:(Rows.trawlSewsRow.recurses == Tryz.prog.recurses 7)=true:=by kernel_rfl
theorem EA:(Rows.trawlSewsRow.named == Tryz.prog.varsNamed 7)=true:=by kernel_rfl
theorem EB:(Rows.trawlSewsRow.lifted == Tryz.prog.liftsFinal)=true:=Eq.trans (show (Rows.trawlSewsRow.lifted == Tryz.prog.liftsFinal)=(Rows.trawlOpeningsRow.lifted == Tryz.prog.liftsFinal) from rfl) WE
theorem EC:(Rows.trawlSewsRow.plainKeys == Tryz.prog.plainKeys)=true:=Eq.trans (show (Rows.trawlSewsRow.plainKeys == Tryz.prog.plainKeys)=(Rows.trawlOpeningsRow.plainKeys == Tryz.prog.plainKeys) from rfl) WB
theorem yJ:joinedFacts Tryz.prog 7 Tryz.f7 Rows.trawlSewsSpec Rows.trawlSewsRow=true:=by
 unfold joinedFacts;rw [Ex,Ey,Ez,EA,EB,EC,aah,WC,WD,WG,WH,laidOut]
 kernel_rfl
theorem trawlSews_holds:Rows.TrawlSewsSaid:=
 OpenClaim.holds_of_wide 7 Tryz.f7 rfl rfl rfl rfl rfl rfl rfl ⟨rfl,rfl,rfl,rfl,rfl⟩ rfl rfl rfl rfl rfl (by kernel_rfl) Tryz.func7 yJ
  (of_decide_eq_true (by kernel_rfl)) (by unfold Func.isWrapper; rw [if_neg (of_decide_eq_false (by kernel_rfl))]; exact ⟨rfl,rfl⟩)
  (fun os started H enc _=>xg os started H enc)
end Go.Proofs.YtegoimldbgdeiaaGreat
