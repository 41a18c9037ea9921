/- Plain laws: the law of programs. -/
import Derived.Test.YtldcljfjjoidhaaGreatDoorBraPm
import Derived.Test.YtldcljfjjoidhaaGreatDoorBraTf
set_option linter.all false
namespace Go.Proofs.YtldcljfjjoidhaaGreatDoor
open Go Go.Am Go.Sort
set_option maxRecDepth 100000
section
variable {N:Nat} (hN:fG N)
include hN
theorem T1 (p:List dh) (n:Nat) (hn:n≤1000):∃ b,WH N (p,(n:Int))=some b∧(b=true→(p.length≤n∨p.length=257)∧∀ c∈p,c.2.2.2.2≤12∨512 < c.2.2.2.2):=by
 rw [Sz]
 simp only [List.length_map]
 by_cases hl:p.length≤n∨p.length=257
 ·have hp:p.length≤1000:=by omega
  have h1:((bif (decide ((p.length:Int) > (n:Int))) then (some ((p.length:Int) != 257)) else (some false)):Option Bool)=some false:=by
   by_cases h:p.length≤n
   ·rw [decide_eq_false (by omega)]; rfl
   ·have:p.length=257:=by omega
    rw [decide_eq_true (by omega),this]; rfl
  have q:=qX (rd:=wo N p) p.length (fun k=>(k:Int)) (fun k=>decide ((p.getD k (0,0,false,false,0)).2.2.2.2 > 12)&&decide ((p.getD k (0,0,false,false,0)).2.2.2.2≤512)) (fun _=>Sum.inl false) (Sum.inr ()) (fun k hk=>by
   obtain ⟨a1,a2⟩:=DY hN p hk
   have e:p.getD k (0,0,false,false,0)=p[k]:=by simp [hk]
   rw [e]
   simp only [wo,List.length_map,Int.toNat_natCast,a1,a2,a8 hk,aI hk,Bool.and_self,cond_true,bk (show k < 9223372036854775807 by omega)]
   generalize p[k]=c at *
   cases decide (c.2.2.2.2 > 12) <;> cases decide (c.2.2.2.2≤512) <;> rfl) (by
   simp only [wo,List.length_map,bp,cond_false]) N (by unfold fG at hN; omega)
  have q':az (wo N p) N 0=_:=q
  rw [h1,Option.bind_some,q']
  simp only [cond_false,Option.bind_some]
  cases hf:(List.range p.length).find? fun k=>decide ((p.getD k (0,0,false,false,0)).2.2.2.2 > 12)&&decide ((p.getD k (0,0,false,false,0)).2.2.2.2≤512) with
  | some j=>exact ⟨false,rfl,fun h=>by cases h⟩
  | none=>
   refine ⟨true,rfl,fun _=>⟨hl,fun c hc=>?_⟩⟩
   obtain ⟨k,hk,rfl⟩:=List.getElem_of_mem hc
   have:=List.find?_eq_none.1 hf k (List.mem_range.2 hk)
   have e:p.getD k (0,0,false,false,0)=p[k]:=by simp [hk]
   rw [e] at this
   simp only [Bool.and_eq_true,decide_eq_true_eq,not_and] at this
   omega
 ·have h1:((bif (decide ((p.length:Int) > (n:Int))) then (some ((p.length:Int) != 257)) else (some false)):Option Bool)=some true:=by
   rw [decide_eq_true (by omega),cond_true]
   exact congrArg some (bne_iff_ne.2 (by omega))
  rw [h1,Option.bind_some]
  exact ⟨false,rfl,fun h=>by cases h⟩
theorem Pu (p:List dh) (h:ki p=0):UC N p=some (dN p):=by
 have zz:∀ c∈p,cm c=0:=(ow h).2
 have hp:=(ow h).1
 obtain ⟨o1,o2⟩:=j6 h p.length (Nat.le_refl _)
 rw [List.take_length] at o1 o2
 have Yo:((bif (allFit (aj.fits nJ) (List.map bR p)&&true) then some (List.map d88 (List.map bR p)) else none:Option ((List (Int × Int × Bool × Bool × Int)))))=some p:=by simp only [J5,J6,Bool.and_true,cond_true]
 rw [KA,Yo,Option.bind_some,ub hN p zz (by omega),Option.bind_some]
 simp only [cz,cr,Bool.and_true,cond_true,Option.bind_some]
 rw [show UB N (bz p)=some (dN p) from Fh hN _ (by omega),Option.bind_some]
theorem Pv (m:Int) (p:List dh):T6 m N p=some true:=by
 have hT:∀ u,XY N u=some true:=fun _=>rfl
 obtain ⟨b,hb,hs⟩:=T1 hN p 7 (by omega)
 have hb:WH N (p,7)=some b:=hb
 rw [Xn]
 simp only [J5,J6,Bool.and_true,cond_true,Option.bind_some,hb]
 cases b with
 | false=>simp only [Bool.not_false,cond_true,hT,Option.bind_some]
 | true=>
  obtain ⟨hl,-⟩:=hs rfl
  have hp:p.length≤1000:=by omega
  have Yp:=Fp hN p
  have hz:ki p=0→∀ c∈p,cm c=0:=fun h=>(ow h).2
  have q31:=Pe hN p
  have q42:=Pb hN p _ Yp hz (by omega)
  have q39:=Pc hN p _ Yp hz (by omega)
  have q40:=TU hN p _ Yp hz (by omega)
  have q43:=Pt hN p
  simp only [Bool.not_true,cond_false,TQ hN p (by omega),zZ,z6,Bool.and_true,cond_true,Option.bind_some,q42,q39,q40,q43,q31,Yp]
  by_cases h:ki p=0
  ·obtain ⟨o1,o2⟩:=j6 h p.length (Nat.le_refl _)
   rw [List.take_length] at o1 o2
   have nl:(dN p).length≤4096:=by rw [qZ o1]; exact o2
   have kl:=pU (dN p)
   have fl:(Cb p).length≤(eJ (dN p)).length:=List.length_filter_le _ _
   have tl:=Ab hN p p.length
   have q44:=ub hN p (hz h) (by omega)
   have q46:=TT hN p (hz h) (by omega)
   have s1:=wR hN (bz p) (by omega)
   have s2:=wR hN (dN p) (by omega)
   have s3:=B3 hN (Ck p p.length) (by omega)
   have s4:=B0 hN (Cb p) (by omega)
   simp only [h,if_true,beq_self_eq_true,cond_true,q44,Pu hN p h,q46,Pp hN p h,Option.bind_some,cz,cr,DH,DI,gn,gq,Bool.and_self,sh o1,s1,s2,s3,s4,hT]
  ·have s1:=wR hN [] (by simp)
   have s3:=B3 hN [] (by simp)
   have s4:=B0 hN [] (by simp)
   have f0:allFit (aj.fits aM) ([]:List AV)=true:=rfl
   have m0:List.map d106 ([]:List AV)=[]:=rfl
   have f1:allFit (aj.fits p3) ([]:List AV)=true:=rfl
   have m1:List.map d3 ([]:List AV)=[]:=rfl
   have f2:allFit (aj.fits cG) ([]:List AV)=true:=rfl
   have m2:List.map d86 ([]:List AV)=[]:=rfl
   have hbf:(ki p == 0)=false:=beq_false_of_ne h
   simp only [h,if_false,hbf,cond_false,f0,m0,f1,m1,f2,m2,cz,cr,DH,DI,gn,gq,Bool.and_self,cond_true,Option.bind_some,s1,s3,s4,beq_self_eq_true,hT]
end
end Go.Proofs.YtldcljfjjoidhaaGreatDoor
