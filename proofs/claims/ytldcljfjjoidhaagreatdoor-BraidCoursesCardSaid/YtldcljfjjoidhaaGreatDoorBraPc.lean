/- Plain laws: the law of courses. -/
import Derived.Test.YtldcljfjjoidhaaGreatDoorBraPb
import Derived.Test.YtldcljfjjoidhaaGreatDoorBraTc
set_option linter.all false
namespace Go.Proofs.YtldcljfjjoidhaaGreatDoor
open Go Go.Am
set_option maxRecDepth 100000
section
variable {N:Nat} (hN:ta N)
include hN
theorem Ip (m:Int) (c:xQ):T7 m N c=some true:=by
 have hT:∀ u,OV N u=some true:=fun _=>rfl
 obtain ⟨b,hb⟩:=Io hN c
 have f88:allFit (av.fits La) [AV.agg [AV.int .i64 c.1,AV.int .i64 c.2.1,AV.bool c.2.2.1,AV.bool c.2.2.2.1,AV.int .i64 c.2.2.2.2]]=true:=rfl
 have Ut:List.map d88 [AV.agg [AV.int .i64 c.1,AV.int .i64 c.2.1,AV.bool c.2.2.1,AV.bool c.2.2.2.1,AV.int .i64 c.2.2.2.2]]=[c]:=rfl
 have Uu:Of N (c.1,c.2.1,c.2.2.1,c.2.2.2.1,c.2.2.2.2)=_:=ES hN c
 have Uv:Oh N (c.1,c.2.1,c.2.2.1,c.2.2.2.1,c.2.2.2.2)=_:=Ik hN c
 have Uw:On N (c.1,c.2.1,c.2.2.1,c.2.2.2.1,c.2.2.2.2)=_:=Im hN c
 rw [Ot]
 simp only [f88,Ut,Bool.and_true,cond_true,Option.bind_some,hb]
 cases b with
 | false=>simp only [Bool.not_false,cond_true,hT,Option.bind_some]
 | true=>
  simp only [Bool.not_true,cond_false,Uu,Uv,Uw,Option.bind_some]
  by_cases h:ke c=0
  ·have LC:fx c=0:=by
    unfold ke at h
    by_cases h1:fx c=0
    ·exact h1
    ·rw [if_neg h1] at h; exact h
   obtain ⟨h1,h2,h3⟩:=iu LC
   have Ux:H9 N (c.1,c.2.1,c.2.2.1,c.2.2.2.1,c.2.2.2.2)=_:=s9 hN c LC
   have Uy:Oo N (c.1,c.2.1,c.2.2.1,c.2.2.2.1,c.2.2.2.2)=_:=Il hN c LC
   have Q7:=xS hN (bB c (c.2.2.2.2.toNat+1)) (by rw [cM]; omega)
   simp only [h,if_true,beq_self_eq_true,Bool.and_self,cond_true,Ux,Uy,Option.bind_some,xI,xJ,Q7,hT]
  ·have Q7:=xS hN [] (by simp)
   have f0:allFit (av.fits kn) []=true:=rfl
   have m0:List.map d86 ([]:List AV)=[]:=rfl
   have Uz:(ke c == 0)=false:=beq_false_of_ne h
   simp only [h,if_false,Uz,cond_false,f0,m0,Bool.and_self,cond_true,Option.bind_some,xI,xJ,Q7,beq_self_eq_true,hT]
end
end Go.Proofs.YtldcljfjjoidhaaGreatDoor
