/- Plain laws: the bars of a course,the order of a program (reference). -/
import Derived.Test.YtldcljfjjoidhaaGreatDoorBraPb
import Derived.Test.YtldcljfjjoidhaaGreatDoorBraU
set_option linter.all false
namespace Go.Proofs.YtldcljfjjoidhaaGreatDoor
open Go Go.Am
set_option maxRecDepth 100000
abbrev dR:=Int × Int × Int
def iQ (a b:Int × Int):dR:=if a.2 > b.2 then (b.1,b.2,a.1 - b.1) else (a.1,a.2,b.1 - a.1)
theorem Fs (N:Nat) (a b:Int × Int) (h:-1000000≤a.1∧a.1≤1000000∧-1000000≤b.1∧b.1≤1000000):Tr N (a,b)=some (iQ a b):=by
 rw [Ts]
 unfold iQ
 by_cases h1:a.2 > b.2
 ·simp only [h1,decide_true,cond_true,if_true,Option.bind_some]
  rw [gY ⟨by omega,by omega⟩]
 ·simp only [h1,decide_false,cond_false,if_false,Option.bind_some]
  rw [gY ⟨by omega,by omega⟩]
theorem O1 (l:List dR) (p:dR):List.map n106 l++[AV.agg [AV.int .i64 p.1,AV.int .i64 p.2.1,AV.int .i64 p.2.2]]=List.map n106 (l++[p]):=by rw [List.map_append]; rfl
theorem eI (c:da) (h:cr c=0) (i:Nat) (hi:i≤100000):-1000000≤(ax c i).1∧(ax c i).1≤1000000:=by
 obtain ⟨h1,h2,h3⟩:=cZ h
 have uK:=j7 h1
 simp only at uK
 unfold ax sg
 split <;> (simp only; omega)
def eU (c:da) (i:Nat):dR:=iQ (ax c i) (ax c (i+1))
def cC (c:da) (k:Nat):List dR:=(List.range k).map (eU c)
def cj (c:da):List dR:=cC c c.2.2.2.2.toNat
theorem dz (c:da) (k:Nat):(cC c k).length=k:=by simp [cC]
theorem ka (c:da) (k:Nat):cC c (k+1)=cC c k++[eU c k]:=by unfold cC; rw [List.range_succ,List.map_append]; rfl
def a6 (p:List da):List dR:=p.flatMap cj
theorem oG {c:da} (h:cr c=0):(cj c).length≤512:=by
 obtain ⟨h1,h2,h3⟩:=cZ h
 unfold cj
 rw [dz]
 omega
theorem lJ (p:List da) (h:∀ c∈p,cr c=0):(a6 p).length≤512 * p.length:=by
 induction p with
 | nil=>simp [a6]
 | cons c p ih=>
  have h1:=oG (h c (by simp))
  have h2:=ih (fun c hc=>h c (by simp [hc]))
  unfold a6 at *
  rw [List.flatMap_cons,List.length_append,List.length_cons]
  omega
theorem jB (p:List da) {k:Nat} (hk:k < p.length):a6 (p.take (k+1))=a6 (p.take k)++cj p[k]:=by
 unfold a6
 rw [List.take_add_one,List.getElem?_eq_getElem hk,List.flatMap_append]
 simp
section
variable {N:Nat} (hN:fq N)
include hN
theorem yU (c:da) (h:cr c=0):GQ N c=some (cj c):=by
 obtain ⟨h1,h2,h3⟩:=cZ h
 have key:=bH (rd:=nW N (aZ c (c.2.2.2.2.toNat+1))) c.2.2.2.2.toNat (fun k=>(cC c k,((k+1:Nat):Int))) (cj c) (fun k hk=>by
  have hl:=cR c (c.2.2.2.2.toNat+1)
  have hm:IntKind.wrap .i64 (((k+1:Nat):Int) - 1)=(k:Int):=by rw [gY ⟨by omega,by omega⟩]; omega
  have a1:=Tq hN (aZ c (c.2.2.2.2.toNat+1)) (k:=k) (by omega)
  have a2:=Tq hN (aZ c (c.2.2.2.2.toNat+1)) (k:=k+1) (by omega)
  have g1:(aZ c (c.2.2.2.2.toNat+1))[k]'(by omega)=ax c k:=by simp [aZ]
  have g2:(aZ c (c.2.2.2.2.toNat+1))[k+1]'(by omega)=ax c (k+1):=by simp [aZ]
  rw [g1] at a1
  rw [g2] at a2
  have r1:decide ((0:Int)≤(k:Int)∧(k:Int) < ((aZ c (c.2.2.2.2.toNat+1)).length:Int))=true:=aI (by omega)
  have r2:decide ((0:Int)≤((k+1:Nat):Int)∧((k+1:Nat):Int) < ((aZ c (c.2.2.2.2.toNat+1)).length:Int))=true:=aI (by omega)
  have r3:decide (((k+1:Nat):Int) < ((aZ c (c.2.2.2.2.toNat+1)).length:Int))=true:=bc (by omega)
  have b:=Fs N (ax c k) (ax c (k+1)) ⟨(eI c h k (by omega)).1,(eI c h k (by omega)).2,(eI c h (k+1) (by omega)).1,(eI c h (k+1) (by omega)).2⟩
  have e:iQ (ax c k) (ax c (k+1))=eU c k:=rfl
  have hb:decide ((k+1) * 24≤140737488355328)=true:=decide_eq_true (by omega)
  have ll:(cC c k++[eU c k]).length=k+1:=by rw [List.length_append,dz]; rfl
  have sn:=O1 (cC c k) (eU c k)
  rw [ka]
  simp only [nW,r3,hm,r1,r2,Int.toNat_natCast,a1.1,a1.2,a2.1,a2.2,Bool.and_self,cond_true,b,e,Option.bind_some,List.length_map,dz,decide_true,hb,sn,cM,cI,ll,bk (show k+1 < 9223372036854775807 by omega)]) (by
  have hl:=cR c (c.2.2.2.2.toNat+1)
  have kN:decide (((c.2.2.2.2.toNat+1:Nat):Int) < ((aZ c (c.2.2.2.2.toNat+1)).length:Int))=false:=by rw [hl]; exact bq _
  simp only [nW,kN,cond_false,cM,cI,Bool.and_self,cond_true,Option.bind_some,List.length_map,decide_true]
  rfl) N 0 (Nat.zero_le _) (by unfold fq at hN; omega)
 rw [OP]
 have w:=Ch hN c h
 have mD:az (nW N (aZ c (c.2.2.2.2.toNat+1))) N (([]:List dR),1)=some (cj c):=key
 have z:((bif (allFit (aj.fits aP) ([]:List AV)&&true) then some ((List.map d106 ([]:List AV)),1) else none:Option ((List (Int × Int × Int)) × Int)).bind fun w8=>bif (decide (0=(List.map n106 w8.1).length)&&true) then some w8 else none)=some (([]:List dR),1):=rfl
 rw [show Te N (c.1,c.2.1,c.2.2.1,c.2.2.2.1,c.2.2.2.2)=some (aZ c (c.2.2.2.2.toNat+1)) from w,Option.bind_some,z,Option.bind_some,mD,Option.bind_some]
 simp only [cM,cI,cond_true]
theorem D6 (l:List da) {k:Nat} (hk:k < l.length):d88 (ah (List.map ca l) k)=l[k]∧aj.fits tR (ah (List.map ca l) k)=true:=by
 rw [fV ca l k hk]
 exact ⟨aaE _,aaD _⟩
theorem O2 (p:List da) (h:∀ c∈p,cr c=0) (hp:p.length≤1000000):Yv N p=some (a6 p):=by
 have key:=bH (rd:=wQ N p) p.length (fun k=>(a6 (p.take k),(k:Int))) (a6 p) (fun k hk=>by
  have a:=D6 hN p hk
  have r1:decide ((0:Int)≤(k:Int)∧(k:Int) < (p.length:Int))=true:=aI hk
  have r2:decide ((k:Int) < (p.length:Int))=true:=bc hk
  have e0:=h p[k] (List.getElem_mem hk)
  have b:=yU hN p[k] e0
  have hl:=lJ (p.take k) (fun c hc=>h c (List.mem_of_mem_take hc))
  have hm:=oG e0
  rw [List.length_take,Nat.min_eq_left (Nat.le_of_lt hk)] at hl
  have hb:decide (((a6 (p.take k)).length+(cj p[k]).length) * 24≤140737488355328)=true:=decide_eq_true (by omega)
  rw [jB p hk]
  simp only [wQ,List.length_map,r2,r1,Int.toNat_natCast,a.1,a.2,Bool.and_self,cond_true,b,Option.bind_some,decide_true,hb,← List.map_append,cM,cI,List.length_append,bk (show k < 9223372036854775807 by omega)]) (by
  have kN:decide ((p.length:Int) < (p.length:Int))=false:=bq _
  simp only [wQ,List.length_map,kN,cond_false,cM,cI,Bool.and_self,cond_true,Option.bind_some,decide_true,List.take_length]) N 0 (Nat.zero_le _) (by unfold fq at hN; omega)
 rw [Tv]
 have mD:az (wQ N p) N (([]:List dR),0)=some (a6 p):=key
 have z:((bif (allFit (aj.fits aP) ([]:List AV)&&true) then some ((List.map d106 ([]:List AV)),0) else none:Option ((List (Int × Int × Int)) × Int)).bind fun w8=>bif (decide (0=(List.map n106 w8.1).length)&&true) then some w8 else none)=some (([]:List dR),0):=rfl
 rw [z,Option.bind_some,mD,Option.bind_some]
 simp only [cM,cI,cond_true]
end
end Go.Proofs.YtldcljfjjoidhaaGreatDoor
