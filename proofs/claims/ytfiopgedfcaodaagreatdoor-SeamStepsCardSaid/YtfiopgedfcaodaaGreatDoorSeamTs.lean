/- What the functions compute (printed by a program of ours,checked by the kernel). -/
import Derived.Test.YtfiopgedfcaodaaGreatDoorSeamTe
set_option linter.all false
namespace Go.Proofs.YtfiopgedfcaodaaGreatDoor
open Go Go.Am
set_option maxRecDepth 100000
open List (map)
open Int (toNat)
open Pat (fits)
noncomputable section
abbrev p127:Pat:=(.agg (.cons (.int .i64) (.cons (.int .i64) (.cons (.int .i64) (.cons (.int .i64) (.cons (.int .i64) (.cons (.int .i64) .nil)))))))
abbrev d127 (v:AV):Int × Int × Int × Int × Int × Int:=Pat.decD p127 v
abbrev n127 (x:Int × Int × Int × Int × Int × Int):AV:=Pat.enc p127 x
abbrev L127 (l:List (Int × Int × Int × Int × Int × Int)):=map n127 l
abbrev F127 (l:List (Int × Int × Int × Int × Int × Int)):=allFit (fits p127) (map n127 l)
abbrev K127 (l:List (Int × Int × Int × Int × Int × Int)):=map d127 (map n127 l)
theorem fa127 (l:List (Int × Int × Int × Int × Int × Int)):allFit (fits p127) (map n127 l)=true:=allFit_encs (p:=p127) rfl l
theorem md127 (l:List (Int × Int × Int × Int × Int × Int)):map d127 (map n127 l)=l:=map_decs (p:=p127) rfl l
theorem fn127 (x:Int × Int × Int × Int × Int × Int):fits p127 (n127 x)=true:=(Pat.fits_enc p127 x rfl).1
theorem dn127 (x:Int × Int × Int × Int × Int × Int):d127 (n127 x)=x:=(Pat.fits_enc p127 x rfl).2
abbrev p129:Pat:=(.agg (.cons (.int .i64) (.cons (.int .i64) (.cons (.int .i64) (.cons (.int .i64) (.cons (.int .i64) (.cons (.int .i64) .nil)))))))
abbrev d129 (v:AV):Int × Int × Int × Int × Int × Int:=Pat.decD p129 v
abbrev n129 (x:Int × Int × Int × Int × Int × Int):AV:=Pat.enc p129 x
abbrev L129 (l:List (Int × Int × Int × Int × Int × Int)):=map n129 l
abbrev F129 (l:List (Int × Int × Int × Int × Int × Int)):=allFit (fits p129) (map n129 l)
abbrev K129 (l:List (Int × Int × Int × Int × Int × Int)):=map d129 (map n129 l)
theorem fa129 (l:List (Int × Int × Int × Int × Int × Int)):allFit (fits p129) (map n129 l)=true:=allFit_encs (p:=p129) rfl l
theorem md129 (l:List (Int × Int × Int × Int × Int × Int)):map d129 (map n129 l)=l:=map_decs (p:=p129) rfl l
theorem fn129 (x:Int × Int × Int × Int × Int × Int):fits p129 (n129 x)=true:=(Pat.fits_enc p129 x rfl).1
theorem dn129 (x:Int × Int × Int × Int × Int × Int):d129 (n129 x)=x:=(Pat.fits_enc p129 x rfl).2
def c45:List (Nat × Cert):=[(58,.loop [] ⟨(.cons (.int .i64) .nil),[5],[],[],[],[]⟩ [(.ret,⟨(.cons .bool .nil),[4],[],[],[],[]⟩),(.ex 0,⟨.nil,[],[],[],[],[]⟩)])]
-- "codend/codendref04.SameJoins"
def T45 (N:Nat):LF × LF→Option Bool:=(cx N [] [(45,c45)]).fn 1000 45 (.cons (.list 6 p127) (.cons (.list 6 p127) .nil)) .bool
def e45 (N:Nat):Entry:=⟨(.cons (.list 6 p127) (.cons (.list 6 p127) .nil)),.bool,T45 N⟩
def c46:List (Nat × Cert):=[(58,.loop [(.slot 3,6,129)] ⟨(.cons (.own 0 6 p127) (.cons (.int .i64) .nil)),[3,8],[],[],[.tok 0 6 129],[]⟩ [(.ex 0,⟨(.cons (.own 0 6 p127) .nil),[3],[],[],[.tok 0 6 129],[]⟩)])]
-- "codend/codendlaw04.own"
def T46 (N:Nat):LF→Option (LF):=(cx N [] [(46,c46)]).fn 1000 46 (.cons (.list 6 p127) .nil) (.list 6 p127)
def e46 (N:Nat):Entry:=⟨(.cons (.list 6 p127) .nil),(.list 6 p127),T46 N⟩
-- "codend/seam.checkPiece"
def T129 (N:Nat):Int→Option Int:=(cx N [(93,e93 N)] []).fn 1000 129 (.cons (.int .i64) .nil) (.int .i64)
def e129 (N:Nat):Entry:=⟨(.cons (.int .i64) .nil),(.int .i64),T129 N⟩
theorem T129_ok (N:Nat):EntryOk envS 129 (e129 N):=Ctx.fn_ok (tabF_ok (by intro a e h; simp only [List.mem_cons,Prod.mk.injEq,List.not_mem_nil,or_false] at h; rcases h with ⟨rfl,rfl⟩; exact T93_ok N)) (by kernel_rfl) (by kernel_rfl)
theorem T129_eq (N:Nat) (a0:Int):T129 N a0 =
 (T93 N (a0,0,15)).bind fun y1=>some y1:=by kernel_rfl
-- "codend/seam.Seam"
-- "codend/codendref04.CheckPiece"
def T80 (N:Nat):Int→Option Int:=(cx N [(94,e94 N)] []).fn 1000 80 (.cons (.int .i64) .nil) (.int .i64)
def e80 (N:Nat):Entry:=⟨(.cons (.int .i64) .nil),(.int .i64),T80 N⟩
theorem T80_ok (N:Nat):EntryOk envS 80 (e80 N):=Ctx.fn_ok (tabF_ok (by intro a e h; simp only [List.mem_cons,Prod.mk.injEq,List.not_mem_nil,or_false] at h; rcases h with ⟨rfl,rfl⟩; exact T94_ok N)) (by kernel_rfl) (by kernel_rfl)
theorem T80_eq (N:Nat) (a0:Int):T80 N a0 =
 (T94 N (a0,0,15)).bind fun y1=>some y1:=by kernel_rfl
-- "codend/codendref04.Seam"
-- "codend/codendlaw04.SeamSeams"
end
end Go.Proofs.YtfiopgedfcaodaaGreatDoor
