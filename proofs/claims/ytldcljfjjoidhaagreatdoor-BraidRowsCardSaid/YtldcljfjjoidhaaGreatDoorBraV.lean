/- What the functions compute (printed by a program of ours,checked by the kernel). -/
import Derived.Test.YtldcljfjjoidhaaGreatDoorBraSo
import Derived.Test.YtldcljfjjoidhaaGreatDoorBraU
set_option linter.all false
namespace Go.Proofs.YtldcljfjjoidhaaGreatDoor
open Go Go.Am
open List (map)
open Int (toNat)
open Go.IntKind (wrap)
open Go.Am.aO (fits)
set_option maxRecDepth 100000
noncomputable section
def sd (N:Nat):XB→Option (XA):=(Uj N [] []).fn 1000 132 (.cons au .nil) fI
def LD (N:Nat):aZ:=⟨(.cons au .nil),fI,sd N⟩
theorem vr (N:Nat):ap bR 132 (LD N):=gv.bY (fun _ _ h=>by cases h) (by kernel_rfl) (by kernel_rfl)
theorem P7 (N:Nat) (a0:Int × Int × Int):sd N a0 =
 some (a0.1,a0.2.1):=by kernel_rfl
def se (N:Nat):XB→Option (XA):=(Uj N [] []).fn 1000 133 (.cons au .nil) fI
def LF (N:Nat):aZ:=⟨(.cons au .nil),fI,se N⟩
theorem vt (N:Nat):ap bR 133 (LF N):=gv.bY (fun _ _ h=>by cases h) (by kernel_rfl) (by kernel_rfl)
theorem P8 (N:Nat) (a0:Int × Int × Int):se N a0 =
 some ((wrap .i64 (a0.1+a0.2.2)),(wrap .i64 (a0.2.1+1))):=by kernel_rfl
def LG (N:Nat):XB→Option ((Int × Int × Int × Int)):=(Uj N [(132,LD N),(133,LF N)] []).fn 1000 105 (.cons au .nil) (.agg (.cons (.int .i64) (.cons (.int .i64) (.cons (.int .i64) (.cons (.int .i64) .nil)))))
def X0 (N:Nat):aZ:=⟨(.cons au .nil),(.agg (.cons (.int .i64) (.cons (.int .i64) (.cons (.int .i64) (.cons (.int .i64) .nil))))),LG N⟩
theorem P9 (N:Nat):ap bR 105 (X0 N):=gv.bY (bn (by intro a e h; simp only [List.mem_cons,Prod.mk.injEq,List.not_mem_nil,or_false] at h; rcases h with ⟨rfl,rfl⟩ | ⟨rfl,rfl⟩; exact vr N; exact vt N)) (by kernel_rfl) (by kernel_rfl)
theorem Qa (N:Nat) (a0:Int × Int × Int):LG N a0 =
 (sd N (a0.1,a0.2.1,a0.2.2)).bind fun y1=>bif (((a0.1 == a0.1)&&((a0.2.1 == a0.2.1)&&((a0.2.2 == a0.2.2)&&true)))&&true) then (se N (a0.1,a0.2.1,a0.2.2)).bind fun y2=>some (y1.1,y1.2,y2.1,y2.2) else none:=by kernel_rfl
def RQ (N:Nat):XB × XB→Option Bool:=(Uj N [] []).fn 1000 86 (.cons au (.cons au .nil)) .bool
def e86 (N:Nat):aZ:=⟨(.cons au (.cons au .nil)),.bool,RQ N⟩
theorem LH (N:Nat):ap bR 86 (e86 N):=gv.bY (fun _ _ h=>by cases h) (by kernel_rfl) (by kernel_rfl)
theorem LI (N:Nat) (a0:Int × Int × Int) (a1:Int × Int × Int):RQ N (a0,a1) =
 (bif (a0.2.1 != a1.2.1) then some (decide (a0.2.1 < a1.2.1)) else (bif (a0.1 != a1.1) then some (decide (a0.1 < a1.1)) else some (decide (a0.2.2 < a1.2.2)))):=by kernel_rfl
def c65:List (Nat × df):=[(26,.loop [] ⟨(.cons (.int .i64) .nil),[5],[],[],[],[]⟩ [(.ret,⟨(.cons .bool .nil),[4],[],[],[],[]⟩),(.ex 0,⟨.nil,[],[],[],[],[]⟩)])]
def Uk (N:Nat):bO × XB→Option Bool:=(Uj N [] [(65,c65)]).fn 1000 65 (.cons (.list 3 au) (.cons au .nil)) .bool
def e65 (N:Nat):aZ:=⟨(.cons (.list 3 au) (.cons au .nil)),.bool,Uk N⟩
theorem LJ (N:Nat):ap bR 65 (e65 N):=gv.bY (fun _ _ h=>by cases h) (by kernel_rfl) (by kernel_rfl)
def xV (N:Nat) (a0:List XB) (a1:Int × Int × Int) (v1:Int):Option (Int ⊕ (Bool ⊕ Unit)):=
 (bif (decide (v1 < ((((map ae a0)).length:Nat):Int))) then bif (decide ((0:Int)≤v1∧v1 < (((map ae a0)).length:Int))&&fits au (aj (map ae a0) (toNat v1))) then (bif (((ak (aj (map ae a0) (toNat v1))).1 == a1.1)&&(((ak (aj (map ae a0) (toNat v1))).2.1 == a1.2.1)&&(((ak (aj (map ae a0) (toNat v1))).2.2 == a1.2.2)&&true))) then (some (Sum.inr (Sum.inl true))) else (some (Sum.inl (wrap .i64 (v1+1))))) else none else (some (Sum.inr (Sum.inr ()))))
theorem Ul (N:Nat) (a0:List XB) (a1:Int × Int × Int):Uk N (a0,a1) =
 ((aN (xV N a0 a1) N 0).bind fun o6=>(Sum.elim (fun o7=>some o7) (fun o8=>some false) o6)):=by kernel_rfl
def c62:List (Nat × df):=[(58,.loop [] ⟨(.cons (.list 3 au) (.cons (.int .i64) .nil)),[3,4],[],[],[],[]⟩ [(.ex 0,⟨(.cons (.list 3 au) .nil),[3],[],[],[],[]⟩)]),
 (466,.join [(.norm,⟨(.cons (.list 3 au) .nil),[3],[],[],[],[]⟩)]),
 (7460,.loop [] ⟨(.cons (.int .i64) .nil),[5],[],[],[],[]⟩ [(.ex 2,⟨(.cons (.int .i64) .nil),[5],[],[],[],[]⟩)]),
 (7462,.join [(.norm,⟨(.cons .bool .nil),[43],[],[],[],[]⟩)]),
 (59680,.join [(.norm,⟨(.cons .bool .nil),[26],[],[],[],[]⟩)])]
def Zh (N:Nat):bO→Option (bO):=(Uj N [(86,e86 N)] [(62,c62)]).fn 1000 62 (.cons (.list 3 au) .nil) (.list 3 au)
def e62 (N:Nat):aZ:=⟨(.cons (.list 3 au) .nil),(.list 3 au),Zh N⟩
theorem Um (N:Nat):ap bR 62 (e62 N):=gv.bY (bn (by intro a e h; simp only [List.mem_cons,Prod.mk.injEq,List.not_mem_nil,or_false] at h; rcases h with ⟨rfl,rfl⟩; exact LH N)) (by kernel_rfl) (by kernel_rfl)
def my (N:Nat) (a0:List XB) (v1:bO × Int) (v2:Int):Option (Int ⊕ Int):=
 (((bif (decide (v2 < ((((map ae v1.1)).length:Nat):Int))) then bif (decide ((0:Int)≤v2∧v2 < (((map ae v1.1)).length:Int))&&fits au (aj (map ae v1.1) (toNat v2))) then bif (decide ((0:Int)≤v1.2∧v1.2 < (((map ae a0)).length:Int))&&fits au (aj (map ae a0) (toNat v1.2))) then (RQ N (((ak (aj (map ae v1.1) (toNat v2))).1,(ak (aj (map ae v1.1) (toNat v2))).2.1,(ak (aj (map ae v1.1) (toNat v2))).2.2),((ak (aj (map ae a0) (toNat v1.2))).1,(ak (aj (map ae a0) (toNat v1.2))).2.1,(ak (aj (map ae a0) (toNat v1.2))).2.2))).bind fun y3=>(some y3) else none else none else (some false)):Option Bool).bind fun o4=>(bif o4 then (some (Sum.inl (wrap .i64 (v2+1)))) else (some (Sum.inr v2))))
def jf (a0:List XB) (v1:bO × Int):=
 (AV.agg [(AV.int .i64 (ak (aj (map ae a0) (toNat v1.2))).1),(AV.int .i64 (ak (aj (map ae a0) (toNat v1.2))).2.1),(AV.int .i64 (ak (aj (map ae a0) (toNat v1.2))).2.2)])
def vu (a0:List XB) (v1:bO × Int):=
 ((((ak (aj (map ae a0) (toNat v1.2))).1 == (ak (aj (map ae a0) (toNat v1.2))).1)&&(((ak (aj (map ae a0) (toNat v1.2))).2.1 == (ak (aj (map ae a0) (toNat v1.2))).2.1)&&(((ak (aj (map ae a0) (toNat v1.2))).2.2 == (ak (aj (map ae a0) (toNat v1.2))).2.2)&&true)))&&true)
def tu (N:Nat) (a0:List XB) (v1:bO × Int):Option ((bO × Int) ⊕ ((bO))):=
 (bif (decide (v1.2 < ((((map ae a0)).length:Nat):Int))) then ((((aN (my N a0 v1) N 0).bind fun o6=>(((bif (o6 == ((((map ae v1.1)).length:Nat):Int)) then (some true) else bif (decide ((0:Int)≤o6∧o6 < (((map ae v1.1)).length:Int))&&fits au (aj (map ae v1.1) (toNat o6))) then bif (decide ((0:Int)≤v1.2∧v1.2 < (((map ae a0)).length:Int))&&fits au (aj (map ae a0) (toNat v1.2))) then (some (!(((ak (aj (map ae v1.1) (toNat o6))).1 == (ak (aj (map ae a0) (toNat v1.2))).1)&&(((ak (aj (map ae v1.1) (toNat o6))).2.1 == (ak (aj (map ae a0) (toNat v1.2))).2.1)&&(((ak (aj (map ae v1.1) (toNat o6))).2.2 == (ak (aj (map ae a0) (toNat v1.2))).2.2)&&true))))) else none else none):Option Bool).bind fun o7=>(bif o7 then bif (decide ((0:Int)≤o6∧o6≤(((map ae v1.1)).length:Int))&&true) then bif (decide ((0:Int)≤v1.2∧v1.2 < (((map ae a0)).length:Int))&&fits au (aj (map ae a0) (toNat v1.2))) then bif decide ((0:Int)≤o6∧o6≤((((map ae v1.1)).length:Nat):Int)) then (bif List.isEmpty (dB 0 (toNat o6) (map ae v1.1)) then bif (vu a0 v1) then (bif (decide (1=(([]++[(jf a0 v1)])).length)&&decide (((([]++[(jf a0 v1)])).length+List.length (dB (toNat o6) ((map ae v1.1)).length (map ae v1.1))) * 24≤140737488355328)) then ((bif (allFit (fits au) (([]++[(jf a0 v1)])++(dB (toNat o6) ((map ae v1.1)).length (map ae v1.1)))&&true) then some (map ak (([]++[(jf a0 v1)])++(dB (toNat o6) ((map ae v1.1)).length (map ae v1.1)))) else none).bind fun w8=>some w8) else none) else none else bif decide ((0+List.length (dB 0 (toNat o6) (map ae v1.1))) * 24≤140737488355328) then bif (vu a0 v1) then bif (decide ((0+List.length (dB 0 (toNat o6) (map ae v1.1)))=(([]++(dB 0 (toNat o6) (map ae v1.1)))).length)&&decide (((([]++(dB 0 (toNat o6) (map ae v1.1)))).length+1) * 24≤140737488355328)) then (bif (decide (((0+List.length (dB 0 (toNat o6) (map ae v1.1)))+1)=((([]++(dB 0 (toNat o6) (map ae v1.1)))++[(jf a0 v1)])).length)&&decide ((((([]++(dB 0 (toNat o6) (map ae v1.1)))++[(jf a0 v1)])).length+List.length (dB (toNat o6) ((map ae v1.1)).length (map ae v1.1))) * 24≤140737488355328)) then ((bif (allFit (fits au) ((([]++(dB 0 (toNat o6) (map ae v1.1)))++[(jf a0 v1)])++(dB (toNat o6) ((map ae v1.1)).length (map ae v1.1)))&&true) then some (map ak ((([]++(dB 0 (toNat o6) (map ae v1.1)))++[(jf a0 v1)])++(dB (toNat o6) ((map ae v1.1)).length (map ae v1.1)))) else none).bind fun w9=>some w9) else none) else none else none else none) else none else none else none else ((bif (allFit (fits au) (map ae v1.1)&&true) then some (map ak (map ae v1.1)) else none).bind fun BJ=>some BJ)))):Option ((bO))).bind fun Iv=>(((bif (allFit (fits au) (map ae Iv)&&true) then some ((map ak (map ae Iv)),(wrap .i64 (v1.2+1))) else none).bind fun Un=>some Un).bind fun X1=>some (Sum.inl X1))) else (((bif (allFit (fits au) (map ae v1.1)&&true) then some (map ak (map ae v1.1)) else none).bind fun H3=>some H3).bind fun u15=>some (Sum.inr u15)))
theorem Uo (N:Nat) (a0:List XB):Zh N a0 =
 (((bif (allFit (fits au) ([]:List AV)&&true) then some ((map ak ([]:List AV)),0) else none:Option (bO × Int)).bind fun Fh=>some Fh).bind fun x18=>(aN (tu N a0) N x18).bind fun Px=>(bif allFit (fits au) (map ae Px) then some (map ak (map ae Px)) else none)):=by kernel_rfl
def c41:List (Nat × df):=[(58,.loop [] ⟨(.cons (.list 2 fI) (.cons (.int .i64) .nil)),[3,4],[],[],[],[]⟩ [(.ex 0,⟨(.cons (.list 2 fI) .nil),[3],[],[],[],[]⟩)]),
 (466,.join [(.norm,⟨(.cons (.list 2 fI) .nil),[3],[],[],[],[]⟩)]),
 (1864,.join [(.norm,⟨(.cons (.int .i64) (.cons (.int .i64) .nil)),[],[],[(5,2)],[],[(5,5,0)]⟩)]),
 (14924,.loop [] ⟨(.cons (.int .i64) .nil),[6],[],[],[],[]⟩ [(.ex 2,⟨(.cons (.int .i64) .nil),[6],[],[],[],[]⟩)]),
 (14926,.join [(.norm,⟨(.cons .bool .nil),[70],[],[],[],[]⟩)]),
 (119392,.join [(.norm,⟨(.cons .bool .nil),[56],[],[],[],[]⟩)])]
def Zi (N:Nat):bO→Option (qO):=(Uj N [(105,X0 N)] [(41,c41)]).fn 1000 41 (.cons (.list 3 au) .nil) (.list 2 fI)
def e41 (N:Nat):aZ:=⟨(.cons (.list 3 au) .nil),(.list 2 fI),Zi N⟩
theorem Up (N:Nat):ap bR 41 (e41 N):=gv.bY (bn (by intro a e h; simp only [List.mem_cons,Prod.mk.injEq,List.not_mem_nil,or_false] at h; rcases h with ⟨rfl,rfl⟩; exact P9 N)) (by kernel_rfl) (by kernel_rfl)
def jb (N:Nat) (v1:qO × Int) (o3:XA) (v4:Int):Option (Int ⊕ Int):=
 (((bif (decide (v4 < ((((map cr v1.1)).length:Nat):Int))) then bif (decide ((0:Int)≤v4∧v4 < (((map cr v1.1)).length:Int))&&fits fI (aj (map cr v1.1) (toNat v4))) then (bif (decide ((mr (aj (map cr v1.1) (toNat v4))).2 < o3.2)) then (some true) else bif (decide ((0:Int)≤v4∧v4 < (((map cr v1.1)).length:Int))&&fits fI (aj (map cr v1.1) (toNat v4))) then (bif ((mr (aj (map cr v1.1) (toNat v4))).2 == o3.2) then bif (decide ((0:Int)≤v4∧v4 < (((map cr v1.1)).length:Int))&&fits fI (aj (map cr v1.1) (toNat v4))) then (some (decide ((mr (aj (map cr v1.1) (toNat v4))).1 < o3.1))) else none else (some false)) else none) else none else (some false)):Option Bool).bind fun o5=>(bif o5 then (some (Sum.inl (wrap .i64 (v4+1)))) else (some (Sum.inr v4))))
def tv (N:Nat) (a0:List XB) (v1:qO × Int):Option ((qO × Int) ⊕ ((qO))):=
 (bif (decide (v1.2 < (wrap .i64 (2 * ((((map ae a0)).length:Nat):Int))))) then ((((bif (decide ((0:Int)≤(wrap .i64 (Int.tdiv v1.2 2))∧(wrap .i64 (Int.tdiv v1.2 2)) < (((map ae a0)).length:Int))&&fits au (aj (map ae a0) (toNat (wrap .i64 (Int.tdiv v1.2 2))))) then (LG N ((ak (aj (map ae a0) (toNat (wrap .i64 (Int.tdiv v1.2 2))))).1,(ak (aj (map ae a0) (toNat (wrap .i64 (Int.tdiv v1.2 2))))).2.1,(ak (aj (map ae a0) (toNat (wrap .i64 (Int.tdiv v1.2 2))))).2.2)).bind fun y2=>(bif (decide ((Int.tmod v1.2 2)=0)) then (some (y2.1,y2.2.1)) else (bif (decide ((Int.tmod v1.2 2)=1)) then (some (y2.2.2.1,y2.2.2.2)) else none)) else none).bind fun o3=>((aN (jb N v1 o3) N 0).bind fun o7=>(((bif (o7 == ((((map cr v1.1)).length:Nat):Int)) then (some true) else bif (decide ((0:Int)≤o7∧o7 < (((map cr v1.1)).length:Int))&&fits fI (aj (map cr v1.1) (toNat o7))) then (some (!(((mr (aj (map cr v1.1) (toNat o7))).1 == o3.1)&&(((mr (aj (map cr v1.1) (toNat o7))).2 == o3.2)&&true)))) else none):Option Bool).bind fun o8=>(bif o8 then bif (decide ((0:Int)≤o7∧o7≤(((map cr v1.1)).length:Int))&&true) then bif decide ((0:Int)≤o7∧o7≤((((map cr v1.1)).length:Nat):Int)) then (bif List.isEmpty (dB 0 (toNat o7) (map cr v1.1)) then bif (((o3.1 == o3.1)&&((o3.2 == o3.2)&&true))&&true) then (bif (decide (1=(([]++[(AV.agg [(AV.int .i64 o3.1),(AV.int .i64 o3.2)])])).length)&&decide (((([]++[(AV.agg [(AV.int .i64 o3.1),(AV.int .i64 o3.2)])])).length+List.length (dB (toNat o7) ((map cr v1.1)).length (map cr v1.1))) * 16≤140737488355328)) then ((bif (allFit (fits fI) (([]++[(AV.agg [(AV.int .i64 o3.1),(AV.int .i64 o3.2)])])++(dB (toNat o7) ((map cr v1.1)).length (map cr v1.1)))&&true) then some (map mr (([]++[(AV.agg [(AV.int .i64 o3.1),(AV.int .i64 o3.2)])])++(dB (toNat o7) ((map cr v1.1)).length (map cr v1.1)))) else none).bind fun w9=>some w9) else none) else none else bif decide ((0+List.length (dB 0 (toNat o7) (map cr v1.1))) * 16≤140737488355328) then bif (((o3.1 == o3.1)&&((o3.2 == o3.2)&&true))&&true) then bif (decide ((0+List.length (dB 0 (toNat o7) (map cr v1.1)))=(([]++(dB 0 (toNat o7) (map cr v1.1)))).length)&&decide (((([]++(dB 0 (toNat o7) (map cr v1.1)))).length+1) * 16≤140737488355328)) then (bif (decide (((0+List.length (dB 0 (toNat o7) (map cr v1.1)))+1)=((([]++(dB 0 (toNat o7) (map cr v1.1)))++[(AV.agg [(AV.int .i64 o3.1),(AV.int .i64 o3.2)])])).length)&&decide ((((([]++(dB 0 (toNat o7) (map cr v1.1)))++[(AV.agg [(AV.int .i64 o3.1),(AV.int .i64 o3.2)])])).length+List.length (dB (toNat o7) ((map cr v1.1)).length (map cr v1.1))) * 16≤140737488355328)) then ((bif (allFit (fits fI) ((([]++(dB 0 (toNat o7) (map cr v1.1)))++[(AV.agg [(AV.int .i64 o3.1),(AV.int .i64 o3.2)])])++(dB (toNat o7) ((map cr v1.1)).length (map cr v1.1)))&&true) then some (map mr ((([]++(dB 0 (toNat o7) (map cr v1.1)))++[(AV.agg [(AV.int .i64 o3.1),(AV.int .i64 o3.2)])])++(dB (toNat o7) ((map cr v1.1)).length (map cr v1.1)))) else none).bind fun BJ=>some BJ) else none) else none else none else none) else none else none else ((bif (allFit (fits fI) (map cr v1.1)&&true) then some (map mr (map cr v1.1)) else none).bind fun VD=>some VD))))):Option ((qO))).bind fun xQ=>(((bif (allFit (fits fI) (map cr xQ)&&true) then some ((map mr (map cr xQ)),(wrap .i64 (v1.2+1))) else none).bind fun VE=>some VE).bind fun u14=>some (Sum.inl u14))) else (((bif (allFit (fits fI) (map cr v1.1)&&true) then some (map mr (map cr v1.1)) else none).bind fun VF=>some VF).bind fun u16=>some (Sum.inr u16)))
theorem Uq (N:Nat) (a0:List XB):Zi N a0 =
 (((bif (allFit (fits fI) ([]:List AV)&&true) then some ((map mr ([]:List AV)),0) else none:Option (qO × Int)).bind fun Fi=>some Fi).bind fun x19=>(aN (tv N a0) N x19).bind fun IA=>(bif allFit (fits fI) (map cr IA) then some (map mr (map cr IA)) else none)):=by kernel_rfl
end
end Go.Proofs.YtldcljfjjoidhaaGreatDoor
