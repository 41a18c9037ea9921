/- Plain laws: the law of changes. -/
import Derived.Test.YtldcljfjjoidhaaGreatDoorBraQa
import Derived.Test.YtldcljfjjoidhaaGreatDoorBraQs
import Derived.Test.YtldcljfjjoidhaaGreatDoorBraTg
set_option linter.all false
namespace Go.Proofs.YtldcljfjjoidhaaGreatDoor
open Go Go.Am Go.Sort
set_option maxRecDepth 100000
section
variable {N:Nat} (hN:iK N)
include hN
theorem I6 (m:Int) (a b:List cQ) (d:Int × Int):Uw m N (a,b,d)=some true:=by
 have hT:∀ u,UZ N u=some true:=fun _=>rfl
 obtain ⟨b1,Ae,Jb⟩:=I5 hN a 5 (by omega)
 obtain ⟨b2,Bf,UB⟩:=I5 hN b 5 (by omega)
 have Ae:P4 N (a,5)=some b1:=Ae
 have Bf:P4 N (b,5)=some b2:=Bf
 rw [Q8]
 simp only [ig,ij,Bool.and_true,cond_true,Option.bind_some,Ae,Bf]
 cases b1 with
 | false=>simp only [Bool.not_false,cond_true,hT,Option.bind_some]
 | true=>
 cases b2 with
 | false=>simp only [Bool.not_true,Bool.not_false,cond_true,cond_false,hT,Option.bind_some]
 | true=>
  obtain ⟨la,-⟩:=Jb rfl
  obtain ⟨lb,-⟩:=UB rfl
  have q67:=M4 hN a
  have q68:=IZ hN a
  have q69:=I3 hN a d.1 d.2
  have Zi:=I4 hN a b
  obtain ⟨F,hF⟩:∃ F,bc [dB a,dB b]=F:=⟨_,rfl⟩
  rw [hF] at Zi
  have q73:=I2 hN a d.1 d.2 (by omega)
  have z2:∀ x y:Int,((bif (allFit (an.fits p3) [(AV.int .i64 x),(AV.int .i64 y)]) then some (List.map d3 [(AV.int .i64 x),(AV.int .i64 y)]) else none:Option ((List Int))))=some [x,y]:=fun _ _=>rfl
  have e8:allFit (an.fits dN) ([]:List AV)=true:=rfl
  have m8:List.map d88 ([]:List AV)=[]:=rfl
  have sm:=fun l:List cQ=>fun h:l.length≤1000000=>I1 hN l h
  have oi:=fun l:List cQ=>fun h:l.length≤1000000=>Q5 hN l h
  have hab:((bif List.isEmpty (List.map az a) then (bif List.isEmpty (List.map az b) then ((bif (allFit (an.fits dN) []) then some (List.map d88 []) else none:Option ((List (Int × Int × Bool × Bool × Int)))).bind fun Tp=>some Tp) else bif decide ((0+List.length (List.map az b)) * 32≤140737488355328) then ((bif (allFit (an.fits dN) ([]++(List.map az b))) then some (List.map d88 ([]++(List.map az b))) else none:Option ((List (Int × Int × Bool × Bool × Int)))).bind fun Tq=>some Tq) else none) else bif decide ((0+List.length (List.map az a)) * 32≤140737488355328) then (bif (decide ((0+List.length (List.map az a))=(([]++(List.map az a))).length)&&decide (((([]++(List.map az a))).length+List.length (List.map az b)) * 32≤140737488355328)) then ((bif (allFit (an.fits dN) (([]++(List.map az a))++(List.map az b))) then some (List.map d88 (([]++(List.map az a))++(List.map az b))) else none:Option ((List (Int × Int × Bool × Bool × Int)))).bind fun Tr=>some Tr) else none) else none):Option (((List (Int × Int × Bool × Bool × Int)))))=some (a++b):=by
   have g1:decide ((0+b.length) * 32≤140737488355328)=true:=decide_eq_true (by omega)
   have g2:decide ((0+a.length) * 32≤140737488355328)=true:=decide_eq_true (by omega)
   have g3:decide ((a.length+b.length) * 32≤140737488355328)=true:=decide_eq_true (by omega)
   have g4:decide (0+a.length=a.length)=true:=decide_eq_true (by omega)
   cases a with
   | nil=>
    cases b with
    | nil=>rfl
    | cons y b=>
     rw [show List.isEmpty (List.map az ([]:List cQ))=true from rfl,show List.isEmpty (List.map az (y :: b))=false from rfl]
     simp only [cond_true,cond_false,List.length_map,g1,List.nil_append,ig,ij,Option.bind_some]
   | cons x a=>
    rw [show List.isEmpty (List.map az (x :: a))=false from rfl]
    simp only [cond_true,cond_false,List.length_map,g2,List.nil_append,g3,g4,Bool.and_self,← List.map_append,ig,ij,Option.bind_some]
  simp only [Bool.not_true,cond_false,IL hN a (by omega),IL hN b (by omega),gO,gP,Bool.and_self,Bool.and_true,cond_true,Option.bind_some,q67,q68,q69,Zi,DZ hN,beq_self_eq_true,z2,xm hN _ (show ([dB a,dB b]:List Int).length≤9223372036854775806 by simp),hF,hab]
  by_cases h:dB a=0
  ·have k1:(a.map CZ).length≤1000000:=by rw [List.length_map]; omega
   have k2:(a.map vH).length≤1000000:=by rw [List.length_map]; omega
   have k3:(a.map (il d.1 d.2)).length≤1000000:=by rw [List.length_map]; omega
   have k4:(a++b).length≤1000000:=by rw [List.length_append]; omega
   have k0:([]:List cQ).length≤1000000:=by simp
   have f2:F=dB b:=by rw [← hF,h]; by_cases hz:dB b=0 <;> simp [bc,hz]
   simp only [h,f2,M5 hN a h,I0 hN a h,q73,if_true,beq_self_eq_true,cond_true,Option.bind_some,ne_eq,not_true_eq_false,if_false,ig,ij,gO,gP,Bool.and_self,Bool.and_true]
   by_cases h2:dB b=0
   ·simp only [h2,not_true_eq_false,if_false,beq_self_eq_true,cond_true,Option.bind_some]
    by_cases h3:j8 d.1 d.2 a=0
    ·by_cases h4:dB (a++b)=0
     ·simp only [h3,h4,if_true,bne_self_eq_false,cond_false,ig,ij,gO,gP,Bool.and_self,cond_true,Option.bind_some,oi _ k1,oi _ k2,oi _ k3,oi _ k4,sm _ k1,sm _ k2,sm _ k3,sm _ k4,beq_self_eq_true,hT]
     ·have X3:(dB (a++b) != 0)=true:=bne_iff_ne.2 h4
      simp only [h3,h4,X3,if_true,if_false,e8,m8,ig,ij,gO,gP,Bool.and_self,cond_true,Option.bind_some,oi _ k1,oi _ k2,oi _ k3,oi _ k0,sm _ k1,sm _ k2,sm _ k3,sm _ k0,beq_self_eq_true,hT]
    ·by_cases h4:dB (a++b)=0
     ·simp only [h3,h4,if_true,if_false,bne_self_eq_false,cond_false,ig,ij,gO,gP,Bool.and_self,cond_true,Option.bind_some,oi _ k1,oi _ k2,oi _ k0,oi _ k4,sm _ k1,sm _ k2,sm _ k0,sm _ k4,beq_self_eq_true,hT]
     ·have X3:(dB (a++b) != 0)=true:=bne_iff_ne.2 h4
      simp only [h3,h4,X3,if_false,e8,m8,ig,ij,gO,gP,Bool.and_self,cond_true,Option.bind_some,oi _ k1,oi _ k2,oi _ k0,sm _ k1,sm _ k2,sm _ k0,beq_self_eq_true,hT]
   ·have X4:(dB b == 0)=false:=beq_false_of_ne h2
    simp only [h2,X4,not_false_eq_true,if_true,cond_false,e8,m8,cond_true,Option.bind_some]
    by_cases h3:j8 d.1 d.2 a=0
    ·simp only [h3,if_true,ig,ij,gO,gP,Bool.and_self,cond_true,Option.bind_some,oi _ k1,oi _ k2,oi _ k3,oi _ k0,sm _ k1,sm _ k2,sm _ k3,sm _ k0,beq_self_eq_true,hT]
    ·simp only [h3,if_false,ig,ij,gO,gP,Bool.and_self,cond_true,Option.bind_some,oi _ k1,oi _ k2,oi _ k0,sm _ k1,sm _ k2,sm _ k0,beq_self_eq_true,hT]
  ·have k0:([]:List cQ).length≤1000000:=by simp
   have f2:F=dB a:=by rw [← hF]; unfold bc; rw [if_neg h]
   have hbf:(dB a == 0)=false:=beq_false_of_ne h
   simp only [h,f2,hbf,if_false,cond_false,ne_eq,not_false_eq_true,if_true,e8,m8,ig,ij,gO,gP,Bool.and_self,cond_true,Option.bind_some,oi _ k0,sm _ k0,beq_self_eq_true,hT]
end
end Go.Proofs.YtldcljfjjoidhaaGreatDoor
