/- Plain laws: the law of programs. -/
import Derived.Test.YtldcljfjjoidhaaGreatDoorBraQs
import Derived.Test.YtldcljfjjoidhaaGreatDoorBraTf
set_option linter.all false
namespace Go.Proofs.YtldcljfjjoidhaaGreatDoor
open Go Go.Am Go.Sort
set_option maxRecDepth 100000
section
variable {N:Nat} (hN:fC N)
include hN
theorem Pv (m:Int) (p:List dh):T6 m N p=some true:=by
 have hT:∀ u,XY N u=some true:=fun _=>rfl
 obtain ⟨b,hb,hs⟩:=T1 hN p 7 (by omega)
 have hb:WH N (p,7)=some b:=hb
 rw [Xn]
 simp only [J5,J6,Bool.and_true,cond_true,Option.bind_some,hb]
 cases b with
 | false=>simp only [Bool.not_false,cond_true,hT,Option.bind_some]
 | true=>
  obtain ⟨hl,-⟩:=hs rfl
  have hp:p.length≤1000:=by omega
  have Yp:=Fp hN p
  have hz:ki p=0→∀ c∈p,cm c=0:=fun h=>(ow h).2
  have q31:=Pe hN p
  have q42:=Pb hN p _ Yp hz (by omega)
  have q39:=Pc hN p _ Yp hz (by omega)
  have q40:=TU hN p _ Yp hz (by omega)
  have q43:=Pt hN p
  simp only [Bool.not_true,cond_false,TQ hN p (by omega),zZ,z6,Bool.and_true,cond_true,Option.bind_some,q42,q39,q40,q43,q31,Yp]
  by_cases h:ki p=0
  ·obtain ⟨o1,o2⟩:=j6 h p.length (Nat.le_refl _)
   rw [List.take_length] at o1 o2
   have nl:(dN p).length≤4096:=by rw [qZ o1]; exact o2
   have kl:=pU (dN p)
   have fl:(Cb p).length≤(eJ (dN p)).length:=List.length_filter_le _ _
   have tl:=Ab hN p p.length
   have q44:=ub hN p (hz h) (by omega)
   have q46:=TT hN p (hz h) (by omega)
   have s1:=wR hN (bz p) (by omega)
   have s2:=wR hN (dN p) (by omega)
   have s3:=B3 hN (Ck p p.length) (by omega)
   have s4:=B0 hN (Cb p) (by omega)
   simp only [h,if_true,beq_self_eq_true,cond_true,q44,Pu hN p h,q46,Pp hN p h,Option.bind_some,cz,cr,DH,DI,gn,gq,Bool.and_self,sh o1,s1,s2,s3,s4,hT]
  ·have s1:=wR hN [] (by simp)
   have s3:=B3 hN [] (by simp)
   have s4:=B0 hN [] (by simp)
   have f0:allFit (aj.fits aM) ([]:List AV)=true:=rfl
   have m0:List.map d106 ([]:List AV)=[]:=rfl
   have f1:allFit (aj.fits p3) ([]:List AV)=true:=rfl
   have m1:List.map d3 ([]:List AV)=[]:=rfl
   have f2:allFit (aj.fits cG) ([]:List AV)=true:=rfl
   have m2:List.map d86 ([]:List AV)=[]:=rfl
   have hbf:(ki p == 0)=false:=beq_false_of_ne h
   simp only [h,if_false,hbf,cond_false,f0,m0,f1,m1,f2,m2,cz,cr,DH,DI,gn,gq,Bool.and_self,cond_true,Option.bind_some,s1,s3,s4,beq_self_eq_true,hT]
end
end Go.Proofs.YtldcljfjjoidhaaGreatDoor
