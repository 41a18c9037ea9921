/- Plain laws: the law of texts. -/
import Derived.Test.YtldcljfjjoidhaaGreatDoorSeamKC
import Derived.Test.YtldcljfjjoidhaaGreatDoorBraTk4
set_option linter.all false
open Bool renaming and_self→aac
open Option renaming bind_some→aab
namespace Go.Proofs.YtldcljfjjoidhaaGreatDoor
open Go Go.Am Go.Sort
open List (map)
open Int (toNat)
open Go.IntKind (wrap)
open Go.Am.aP (fits)
set_option maxRecDepth 100000
section
variable {N:Nat} (hN:eE N)
include hN
theorem Ue (m:Int) (p:List bQ) (s:List UInt8) (n:Int × Int):T4 m N (p,s,n)=some true:=by
 have hT:∀ u,T14 N u=some true:=fun _=>rfl
 obtain ⟨b,hb,hs⟩:=YH hN p 7 (by omega);have hb:T26 N (p,7)=some b:=hb;rw [acQ];simp only [qd,qe,Bool.and_true,cond_true,aab,hb];cases b with
 |false=>simp only [Bool.not_false,cond_true,hT,aab]
 |true=>
  obtain ⟨hl,-⟩:=hs rfl;by_cases h4:((s.length:Nat):Int) > 400
  ·simp only [Bool.not_true,cond_false,decide_eq_true h4,aab,cond_true,hT]
  ·have q30:=KH (m:=m) hN s (by omega);have q36:=KF hN s (by omega);have Jl:=HJ s;have q38:=YI hN (Fm (cR s)).1 (by omega);have q37:=OQ hN (Fm (cR s)).1 (by omega);have q27:=T6 hN p n.1 n.2;have q29:=OW hN m p;have q31:=TS hN p;have z3:(bif allFit (fits p3) [(AV.int .i64 (gG p)),(AV.int .i64 (ov n.1 1 100)),(AV.int .i64 (ov n.2 0 100))] then some (map gP [(AV.int .i64 (gG p)),(AV.int .i64 (ov n.1 1 100)),(AV.int .i64 (ov n.2 0 100))]) else none:Option ma)=some [gG p,ov n.1 1 100,ov n.2 0 100]:=rfl;have q32:=BK hN [gG p,ov n.1 1 100,ov n.2 0 100] (by simp);have q32:Ze N [gG p,ov n.1 1 100,ov n.2 0 100]=some (C6 p n.1 n.2):=q32;simp only [Bool.not_true,cond_false,decide_eq_false h4,aab,Yz hN p (by omega),qi,qj,Bool.and_true,aac,cond_true,beq_self_eq_true,q27,q29,q30,q36,q31,IV,z3,q32];have g1:∀ (hU:C6 p n.1 n.2=0),gG p=0:=fun hU=>gq.1 hU _ (by simp)
   by_cases hp:gG p=0
   ·have q35:=OT hN p (fun c hc=>OS ((oM hp).2 c hc)) (by have:=(oM hp).1; omega);have q34:=T7 hN p n.1 n.2 hp;by_cases hu:C6 p n.1 n.2=0
    ·simp only [hp,hu,if_true,beq_self_eq_true,cond_true,q34,q35,aab,aac,q38,qd,qe,q37,hT]
    ·have V8:(C6 p n.1 n.2 == 0)=false:=beq_false_of_ne hu;simp only [hp,hu,V8,if_true,if_false,beq_self_eq_true,cond_true,cond_false,q35,aab,aac,q38,qd,qe,q37,hT]
   ·have hp':(gG p == 0)=false:=beq_false_of_ne hp;have hu:C6 p n.1 n.2≠0:=fun h=>hp (g1 h)
    have V8:(C6 p n.1 n.2 == 0)=false:=beq_false_of_ne hu;simp only [hp,hp',hu,V8,if_true,if_false,beq_self_eq_true,cond_true,cond_false,aab,aac,q38,qd,qe,q37,hT]
end
end Go.Proofs.YtldcljfjjoidhaaGreatDoor
