/- What the functions compute (printed by a program of ours,checked by the kernel). -/
import Derived.Test.YtfiopgedfcaodaaGreatDoorSeamTr
set_option linter.all false
namespace Go.Proofs.YtfiopgedfcaodaaGreatDoor
open Go Go.Am
set_option maxRecDepth 100000
open List (map)
open Int (toNat)
open Pat (fits)
noncomputable section
abbrev p4:Pat:=.bool
abbrev d4 (v:AV):Bool:=Pat.decD p4 v
abbrev p53:Pat:=(.list 3 (.agg (.cons (.int .i64) (.cons (.int .i64) (.cons (.int .i64) .nil)))))
abbrev d53 (v:AV):List (Int × Int × Int):=Pat.decD p53 v
abbrev n53 (x:List (Int × Int × Int)):AV:=Pat.enc p53 x
abbrev L53 (l:List (List (Int × Int × Int))):=map n53 l
abbrev F53 (l:List (List (Int × Int × Int))):=allFit (fits p53) (map n53 l)
abbrev K53 (l:List (List (Int × Int × Int))):=map d53 (map n53 l)
theorem fa53 (l:List (List (Int × Int × Int))):allFit (fits p53) (map n53 l) = true:=allFit_encs (p:=p53) rfl l
theorem md53 (l:List (List (Int × Int × Int))):map d53 (map n53 l) = l:=map_decs (p:=p53) rfl l
theorem fn53 (x:List (Int × Int × Int)):fits p53 (n53 x) = true:=(Pat.fits_enc p53 x rfl).1
theorem dn53 (x:List (Int × Int × Int)):d53 (n53 x) = x:=(Pat.fits_enc p53 x rfl).2
abbrev p63:Pat:=(.list 3 (.agg (.cons (.int .i64) (.cons (.int .i64) (.cons (.int .i64) .nil)))))
abbrev d63 (v:AV):List (Int × Int × Int):=Pat.decD p63 v
abbrev n63 (x:List (Int × Int × Int)):AV:=Pat.enc p63 x
abbrev L63 (l:List (List (Int × Int × Int))):=map n63 l
abbrev F63 (l:List (List (Int × Int × Int))):=allFit (fits p63) (map n63 l)
abbrev K63 (l:List (List (Int × Int × Int))):=map d63 (map n63 l)
theorem fa63 (l:List (List (Int × Int × Int))):allFit (fits p63) (map n63 l) = true:=allFit_encs (p:=p63) rfl l
theorem md63 (l:List (List (Int × Int × Int))):map d63 (map n63 l) = l:=map_decs (p:=p63) rfl l
theorem fn63 (x:List (Int × Int × Int)):fits p63 (n63 x) = true:=(Pat.fits_enc p63 x rfl).1
theorem dn63 (x:List (Int × Int × Int)):d63 (n63 x) = x:=(Pat.fits_enc p63 x rfl).2
abbrev p89:Pat:=(.agg (.cons (.int .i64) (.cons (.int .i64) (.cons (.int .i64) .nil))))
abbrev d89 (v:AV):Int × Int × Int:=Pat.decD p89 v
abbrev n89 (x:Int × Int × Int):AV:=Pat.enc p89 x
abbrev L89 (l:List (Int × Int × Int)):=map n89 l
abbrev F89 (l:List (Int × Int × Int)):=allFit (fits p89) (map n89 l)
abbrev K89 (l:List (Int × Int × Int)):=map d89 (map n89 l)
theorem fa89 (l:List (Int × Int × Int)):allFit (fits p89) (map n89 l) = true:=allFit_encs (p:=p89) rfl l
theorem md89 (l:List (Int × Int × Int)):map d89 (map n89 l) = l:=map_decs (p:=p89) rfl l
theorem fn89 (x:Int × Int × Int):fits p89 (n89 x) = true:=(Pat.fits_enc p89 x rfl).1
theorem dn89 (x:Int × Int × Int):d89 (n89 x) = x:=(Pat.fits_enc p89 x rfl).2
abbrev p94:Pat:=(.agg (.cons (.int .i64) (.cons (.int .i64) (.cons (.int .i64) .nil))))
abbrev d94 (v:AV):Int × Int × Int:=Pat.decD p94 v
abbrev n94 (x:Int × Int × Int):AV:=Pat.enc p94 x
abbrev L94 (l:List (Int × Int × Int)):=map n94 l
abbrev F94 (l:List (Int × Int × Int)):=allFit (fits p94) (map n94 l)
abbrev K94 (l:List (Int × Int × Int)):=map d94 (map n94 l)
theorem fa94 (l:List (Int × Int × Int)):allFit (fits p94) (map n94 l) = true:=allFit_encs (p:=p94) rfl l
theorem md94 (l:List (Int × Int × Int)):map d94 (map n94 l) = l:=map_decs (p:=p94) rfl l
theorem fn94 (x:Int × Int × Int):fits p94 (n94 x) = true:=(Pat.fits_enc p94 x rfl).1
theorem dn94 (x:Int × Int × Int):d94 (n94 x) = x:=(Pat.fits_enc p94 x rfl).2
abbrev pM177:Pat:=(.agg (.cons (.agg (.cons (.int .i64) (.cons (.int .i64) (.cons (.int .i64) .nil)))) (.cons .bool .nil)))
-- "codend/codendref04.ShortSewn"
-- "(codend/seam.Sewn).check"
-- "codend/seam.ClassOf"
-- "codend/codendlaw04.sewn"
-- "codend/seam.Degrees"
-- "codend/seam.Counts"
def c126:List (Nat × Cert):=[(26,.loop [] ⟨(.cons (.int .i64) .nil),[5],[],[],[],[]⟩ [(.ret,⟨(.cons (.int .i64) .nil),[4],[],[],[],[]⟩),(.ex 0,⟨.nil,[],[],[],[],[]⟩)])]
-- "codend/codendref04.at"
def T126 (N:Nat):LB × PB → Option Int:=(cx N [] [(126,c126)]).fn 1000 126 (.cons p53 (.cons p89 .nil)) (.int .i64)
def e126 (N:Nat):Entry:=⟨(.cons p53 (.cons p89 .nil)),(.int .i64),T126 N⟩
theorem T126_ok (N:Nat):EntryOk envS 126 (e126 N):=Ctx.fn_ok (fun _ _ h=>by cases h) (by kernel_rfl) (by kernel_rfl)
def R126x26 (N:Nat) (a0:LB) (a1:Int × Int × Int) (v1:Int):Option (Int ⊕ (Int ⊕ Unit)):=
 (bif (decide (v1 < (((L89 a0).length:Nat):Int))) then bif (decide ((0:Int) ≤ v1 ∧ v1 < ((L89 a0).length:Int)) && fits p89 (nthD (L89 a0) (toNat v1))) then (bif (((d89 (nthD (L89 a0) (toNat v1))).1 == a1.1) && ((((d89 (nthD (L89 a0) (toNat v1))).2.1 == a1.2.1) && (((d89 (nthD (L89 a0) (toNat v1))).2.2 == a1.2.2) && true)) && true)) then (some (Sum.inr (Sum.inl v1))) else (some (Sum.inl (IntKind.wrap .i64 (v1 + 1))))) else none else (some (Sum.inr (Sum.inr ()))))
theorem T126_eq (N:Nat) (a0:LB) (a1:Int × Int × Int):T126 N (a0,a1) =
 ((loopR (R126x26 N a0 a1) N 0).bind fun o6=>(Sum.elim (fun o7=>some o7) (fun o8=>some (-1)) o6)):=by kernel_rfl
-- "codend/codendref04.CheckSewn"
-- "codend/codendref04.ClassOf"
-- "codend/codendref04.Degrees"
-- "codend/codendref04.Counts"
def c7:List (Nat × Cert):=[(4093,.join [(.norm,⟨(.cons (.int .i64) (.cons (.int .i64) (.cons (.list 1 (.int .i64)) (.cons (.int .i64) (.cons (.int .i64) (.cons (.int .i64) (.cons (.int .i64) .nil))))))),[12,13,14],[],[(15,4)],[],[]⟩)]),
 (4094,.join [(.norm,⟨(.cons .bool .nil),[4],[],[],[],[]⟩)])]
-- "codend/codendlaw04.SeamCounts"
end
end Go.Proofs.YtfiopgedfcaodaaGreatDoor
