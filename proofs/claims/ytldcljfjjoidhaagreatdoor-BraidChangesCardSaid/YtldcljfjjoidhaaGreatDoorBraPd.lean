/- Plain laws: the bars of a course,the order of a program (reference). -/
import Derived.Test.YtldcljfjjoidhaaGreatDoorBraPb
import Derived.Test.YtldcljfjjoidhaaGreatDoorBraU
set_option linter.all false
namespace Go.Proofs.YtldcljfjjoidhaaGreatDoor
open Go Go.Am
set_option maxRecDepth 100000
abbrev nJ:=Int × Int × Int
def lX (a b:Int × Int):nJ:=if a.2 > b.2 then (b.1,b.2,a.1 - b.1) else (a.1,a.2,b.1 - a.1)
theorem MP (N:Nat) (a b:Int × Int) (h:-1000000≤a.1∧a.1≤1000000∧-1000000≤b.1∧b.1≤1000000):U3 N (a,b)=some (lX a b):=by
 rw [Qp]
 unfold lX
 by_cases h1:a.2 > b.2
 ·simp only [h1,decide_true,cond_true,if_true,Option.bind_some]
  rw [lW ⟨by omega,by omega⟩]
 ·simp only [h1,decide_false,cond_false,if_false,Option.bind_some]
  rw [lW ⟨by omega,by omega⟩]
theorem MQ (l:List nJ) (p:nJ):List.map n106 l++[AV.agg [AV.int .i64 p.1,AV.int .i64 p.2.1,AV.int .i64 p.2.2]]=List.map n106 (l++[p]):=by rw [List.map_append]; rfl
theorem ik (c:cQ) (h:df c=0) (i:Nat) (hi:i≤100000):-1000000≤(a8 c i).1∧(a8 c i).1≤1000000:=by
 obtain ⟨h1,h2,h3⟩:=dA h
 have Bd:=jD h1
 simp only at Bd
 unfold a8 sg
 split <;> (simp only; omega)
def jG (c:cQ) (i:Nat):nJ:=lX (a8 c i) (a8 c (i+1))
def fF (c:cQ) (k:Nat):List nJ:=(List.range k).map (jG c)
def cP (c:cQ):List nJ:=fF c c.2.2.2.2.toNat
theorem kQ (c:cQ) (k:Nat):(fF c k).length=k:=by simp [fF]
theorem vA (c:cQ) (k:Nat):fF c (k+1)=fF c k++[jG c k]:=by unfold fF; rw [List.range_succ,List.map_append]; rfl
def dU (p:List cQ):List nJ:=p.flatMap cP
theorem nK {c:cQ} (h:df c=0):(cP c).length≤512:=by
 obtain ⟨h1,h2,h3⟩:=dA h
 unfold cP
 rw [kQ]
 omega
theorem vB (p:List cQ) (h:∀ c∈p,df c=0):(dU p).length≤512 * p.length:=by
 induction p with
 | nil=>simp [dU]
 | cons c p ih=>
  have h1:=nK (h c (by simp))
  have h2:=ih (fun c hc=>h c (by simp [hc]))
  unfold dU at *
  rw [List.flatMap_cons,List.length_append,List.length_cons]
  omega
theorem xr (p:List cQ) {k:Nat} (hk:k < p.length):dU (p.take (k+1))=dU (p.take k)++cP p[k]:=by
 unfold dU
 rw [List.take_add_one,List.getElem?_eq_getElem hk,List.flatMap_append]
 simp
section
variable {N:Nat} (hN:iK N)
include hN
theorem xu (c:cQ) (h:df c=0):E9 N c=some (cP c):=by
 obtain ⟨h1,h2,h3⟩:=dA h
 have key:=dz (rd:=mZ N (bG c (c.2.2.2.2.toNat+1))) c.2.2.2.2.toNat (fun k=>(fF c k,((k+1:Nat):Int))) (cP c) (fun k hk=>by
  have hl:=dc c (c.2.2.2.2.toNat+1)
  have hm:IntKind.wrap .i64 (((k+1:Nat):Int) - 1)=(k:Int):=by rw [lW ⟨by omega,by omega⟩]; omega
  have a1:=My hN (bG c (c.2.2.2.2.toNat+1)) (k:=k) (by omega)
  have a2:=My hN (bG c (c.2.2.2.2.toNat+1)) (k:=k+1) (by omega)
  have g1:(bG c (c.2.2.2.2.toNat+1))[k]'(by omega)=a8 c k:=by simp [bG]
  have g2:(bG c (c.2.2.2.2.toNat+1))[k+1]'(by omega)=a8 c (k+1):=by simp [bG]
  rw [g1] at a1
  rw [g2] at a2
  have r1:decide ((0:Int)≤(k:Int)∧(k:Int) < ((bG c (c.2.2.2.2.toNat+1)).length:Int))=true:=bR (by omega)
  have r2:decide ((0:Int)≤((k+1:Nat):Int)∧((k+1:Nat):Int) < ((bG c (c.2.2.2.2.toNat+1)).length:Int))=true:=bR (by omega)
  have r3:decide (((k+1:Nat):Int) < ((bG c (c.2.2.2.2.toNat+1)).length:Int))=true:=bV (by omega)
  have b:=MP N (a8 c k) (a8 c (k+1)) ⟨(ik c h k (by omega)).1,(ik c h k (by omega)).2,(ik c h (k+1) (by omega)).1,(ik c h (k+1) (by omega)).2⟩
  have e:lX (a8 c k) (a8 c (k+1))=jG c k:=rfl
  have hb:decide ((k+1) * 24≤140737488355328)=true:=decide_eq_true (by omega)
  have ll:(fF c k++[jG c k]).length=k+1:=by rw [List.length_append,kQ]; rfl
  have sn:=MQ (fF c k) (jG c k)
  rw [vA]
  simp only [mZ,r3,hm,r1,r2,Int.toNat_natCast,a1.1,a1.2,a2.1,a2.2,Bool.and_self,cond_true,b,e,Option.bind_some,List.length_map,kQ,decide_true,hb,sn,vf,vg,ll,cO (show k+1 < 9223372036854775807 by omega)]) (by
  have hl:=dc c (c.2.2.2.2.toNat+1)
  have pd:decide (((c.2.2.2.2.toNat+1:Nat):Int) < ((bG c (c.2.2.2.2.toNat+1)).length:Int))=false:=by rw [hl]; exact b0 _
  simp only [mZ,pd,cond_false,vf,vg,Bool.and_self,cond_true,Option.bind_some,List.length_map,decide_true]
  rfl) N 0 (Nat.zero_le _) (by unfold iK at hN; omega)
 rw [MB]
 have w:=vv hN c h
 have yR:aQ (mZ N (bG c (c.2.2.2.2.toNat+1))) N (([]:List nJ),1)=some (cP c):=key
 have z:((bif (allFit (an.fits ej) ([]:List AV)&&true) then some ((List.map d106 ([]:List AV)),1) else none:Option ((List (Int × Int × Int)) × Int)).bind fun w8=>bif (decide (0=(List.map n106 w8.1).length)&&true) then some w8 else none)=some (([]:List nJ),1):=rfl
 rw [show Mo N (c.1,c.2.1,c.2.2.1,c.2.2.2.1,c.2.2.2.2)=some (bG c (c.2.2.2.2.toNat+1)) from w,Option.bind_some,z,Option.bind_some,yR,Option.bind_some]
 simp only [vf,vg,cond_true]
theorem yX (l:List cQ) {k:Nat} (hk:k < l.length):d88 (ah (List.map az l) k)=l[k]∧an.fits dN (ah (List.map az l) k)=true:=by
 rw [jz az l k hk]
 exact ⟨Xj _,Xi _⟩
theorem MR (p:List cQ) (h:∀ c∈p,df c=0) (hp:p.length≤1000000):U4 N p=some (dU p):=by
 have key:=dz (rd:=vw N p) p.length (fun k=>(dU (p.take k),(k:Int))) (dU p) (fun k hk=>by
  have a:=yX hN p hk
  have r1:decide ((0:Int)≤(k:Int)∧(k:Int) < (p.length:Int))=true:=bR hk
  have r2:decide ((k:Int) < (p.length:Int))=true:=bV hk
  have e0:=h p[k] (List.getElem_mem hk)
  have b:=xu hN p[k] e0
  have hl:=vB (p.take k) (fun c hc=>h c (List.mem_of_mem_take hc))
  have hm:=nK e0
  rw [List.length_take,Nat.min_eq_left (Nat.le_of_lt hk)] at hl
  have hb:decide (((dU (p.take k)).length+(cP p[k]).length) * 24≤140737488355328)=true:=decide_eq_true (by omega)
  rw [xr p hk]
  simp only [vw,List.length_map,r2,r1,Int.toNat_natCast,a.1,a.2,Bool.and_self,cond_true,b,Option.bind_some,decide_true,hb,← List.map_append,vf,vg,List.length_append,cO (show k < 9223372036854775807 by omega)]) (by
  have pd:decide ((p.length:Int) < (p.length:Int))=false:=b0 _
  simp only [vw,List.length_map,pd,cond_false,vf,vg,Bool.and_self,cond_true,Option.bind_some,decide_true,List.take_length]) N 0 (Nat.zero_le _) (by unfold iK at hN; omega)
 rw [Qs]
 have yR:aQ (vw N p) N (([]:List nJ),0)=some (dU p):=key
 have z:((bif (allFit (an.fits ej) ([]:List AV)&&true) then some ((List.map d106 ([]:List AV)),0) else none:Option ((List (Int × Int × Int)) × Int)).bind fun w8=>bif (decide (0=(List.map n106 w8.1).length)&&true) then some w8 else none)=some (([]:List nJ),0):=rfl
 rw [z,Option.bind_some,yR,Option.bind_some]
 simp only [vf,vg,cond_true]
end
end Go.Proofs.YtldcljfjjoidhaaGreatDoor
