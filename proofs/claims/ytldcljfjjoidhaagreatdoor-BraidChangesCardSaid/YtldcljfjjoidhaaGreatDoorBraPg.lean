/- Plain laws: sameness,sizes,twines. -/
import Derived.Test.YtldcljfjjoidhaaGreatDoorBraPf
set_option linter.all false
namespace Go.Proofs.YtldcljfjjoidhaaGreatDoor
open Go Go.Am Go.Sort
set_option maxRecDepth 100000
section
variable {N:Nat} (hN:iK N)
include hN
theorem QW (l:List cQ) (c:cQ):List.map au l++[AV.agg [AV.int .i64 c.1,AV.int .i64 c.2.1,AV.bool c.2.2.1,AV.bool c.2.2.2.1,AV.int .i64 c.2.2.2.2]]=List.map au (l++[c]):=by rw [List.map_append]; rfl
theorem IL (p:List cQ) (hp:p.length≤1000000):NY N p=some p:=by
 have key:=dz (rd:=vy N p) p.length (fun k=>(p.take k,(k:Int))) p (fun k hk=>by
  obtain ⟨a1,a2⟩:=yX hN p hk
  have hl:(p.take k).length=k:=by rw [List.length_take]; omega
  have hb:decide ((k+1) * 32≤140737488355328)=true:=decide_eq_true (by omega)
  have sn:=QW hN (p.take k) p[k]
  have es:p.take (k+1)=p.take k++[p[k]]:=by rw [List.take_add_one,List.getElem?_eq_getElem hk]; rfl
  rw [es]
  simp only [vy,List.length_map,Int.toNat_natCast,bV hk,bR hk,a1,a2,Bool.and_self,Bool.and_true,cond_true,decide_true,hl,hb,sn,gO,gP,Option.bind_some,List.length_append,List.length_singleton,cO (show k < 9223372036854775807 by omega)]) (by
  simp only [vy,List.length_map,b0,cond_false,gO,gP,Bool.and_true,cond_true,Option.bind_some,decide_true,List.take_length]) N 0 (Nat.zero_le _) (by unfold iK at hN; omega)
 have yR:aQ (vy N p) N ([],0)=some p:=key
 have z:((bif (allFit (an.fits fE) ([]:List AV)&&true) then some ((List.map d90 ([]:List AV)),0) else none:Option ((List (Int × Int × Bool × Bool × Int)) × Int)).bind fun w6=>bif (decide (0=(List.map au w6.1).length)&&true) then some w6 else none)=some ([],0):=rfl
 rw [Qy,z,Option.bind_some,yR,Option.bind_some]
 simp only [gO,gP,cond_true]
end
end Go.Proofs.YtldcljfjjoidhaaGreatDoor
