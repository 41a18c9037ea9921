/- What the functions compute (printed by a program of ours, checked by the kernel). -/
import Derived.Test.YtfiopgedfcaodaaGreatDoorSeamTr
set_option linter.all false
namespace Go.Proofs.YtfiopgedfcaodaaGreatDoor
open Go Go.Am
set_option maxRecDepth 100000
abbrev p4 : Pat := .bool
abbrev d4 (v : AV) : Bool := Pat.decD p4 v
abbrev n4 (x : Bool) : AV := Pat.enc p4 x
theorem fn4 (x : Bool) : Pat.fits p4 (n4 x) = true := (Pat.fits_enc p4 x rfl).1
theorem dn4 (x : Bool) : d4 (n4 x) = x := (Pat.fits_enc p4 x rfl).2
abbrev p89 : Pat := (.agg (.cons (.int .i64) (.cons (.int .i64) (.cons (.int .i64) .nil))))
abbrev d89 (v : AV) : Int × Int × Int := Pat.decD p89 v
abbrev n89 (x : Int × Int × Int) : AV := Pat.enc p89 x
theorem fa89 (l : List (Int × Int × Int)) : allFit (Pat.fits p89) (List.map n89 l) = true := allFit_encs (p := p89) rfl l
theorem md89 (l : List (Int × Int × Int)) : List.map d89 (List.map n89 l) = l := map_decs (p := p89) rfl l
theorem fn89 (x : Int × Int × Int) : Pat.fits p89 (n89 x) = true := (Pat.fits_enc p89 x rfl).1
theorem dn89 (x : Int × Int × Int) : d89 (n89 x) = x := (Pat.fits_enc p89 x rfl).2
abbrev p94 : Pat := (.agg (.cons (.int .i64) (.cons (.int .i64) (.cons (.int .i64) .nil))))
abbrev d94 (v : AV) : Int × Int × Int := Pat.decD p94 v
abbrev n94 (x : Int × Int × Int) : AV := Pat.enc p94 x
theorem fa94 (l : List (Int × Int × Int)) : allFit (Pat.fits p94) (List.map n94 l) = true := allFit_encs (p := p94) rfl l
theorem md94 (l : List (Int × Int × Int)) : List.map d94 (List.map n94 l) = l := map_decs (p := p94) rfl l
theorem fn94 (x : Int × Int × Int) : Pat.fits p94 (n94 x) = true := (Pat.fits_enc p94 x rfl).1
theorem dn94 (x : Int × Int × Int) : d94 (n94 x) = x := (Pat.fits_enc p94 x rfl).2
abbrev pM177 : Pat := (.agg (.cons (.agg (.cons (.int .i64) (.cons (.int .i64) (.cons (.int .i64) .nil)))) (.cons .bool .nil)))
abbrev dM177 (v : AV) : (Int × Int × Int) × Bool := Pat.decD pM177 v
abbrev nM177 (x : (Int × Int × Int) × Bool) : AV := Pat.enc pM177 x
theorem faM177 (l : List ((Int × Int × Int) × Bool)) : allFit (Pat.fits pM177) (List.map nM177 l) = true := allFit_encs (p := pM177) rfl l
theorem mdM177 (l : List ((Int × Int × Int) × Bool)) : List.map dM177 (List.map nM177 l) = l := map_decs (p := pM177) rfl l
-- "codend/codendref04.ShortSewn"
-- "(codend/seam.Sewn).check"
-- "codend/seam.ClassOf"
-- "codend/codendlaw04.sewn"
-- "codend/seam.Degrees"
-- "codend/seam.Counts"
-- "codend/codendref04.at"
-- "codend/codendref04.CheckSewn"
-- "codend/codendref04.ClassOf"
-- "codend/codendref04.Degrees"
-- "codend/codendref04.Counts"
-- "codend/codendlaw04.SeamCounts"
end Go.Proofs.YtfiopgedfcaodaaGreatDoor
