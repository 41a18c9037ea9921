/- Plain laws: the bars of a course,the order of a program (reference). -/
import Derived.Test.YtldcljfjjoidhaaGreatDoorBraPb
import Derived.Test.YtldcljfjjoidhaaGreatDoorBraU
set_option linter.all false
namespace Go.Proofs.YtldcljfjjoidhaaGreatDoor
open Go Go.Am
set_option maxRecDepth 100000
abbrev dL:=Int × Int × Int
def iL (a b:Int × Int):dL:=if a.2 > b.2 then (b.1,b.2,a.1 - b.1) else (a.1,a.2,b.1 - a.1)
theorem OK (N:Nat) (a b:Int × Int) (h:-1000000≤a.1∧a.1≤1000000∧-1000000≤b.1∧b.1≤1000000):X8 N (a,b)=some (iL a b):=by
 rw [S2]
 unfold iL
 by_cases h1:a.2 > b.2
 ·simp only [h1,decide_true,cond_true,if_true,Option.bind_some]
  rw [iH ⟨by omega,by omega⟩]
 ·simp only [h1,decide_false,cond_false,if_false,Option.bind_some]
  rw [iH ⟨by omega,by omega⟩]
theorem OL (l:List dL) (p:dL):List.map n106 l++[AV.agg [AV.int .i64 p.1,AV.int .i64 p.2.1,AV.int .i64 p.2.2]]=List.map n106 (l++[p]):=by rw [List.map_append]; rfl
theorem eD (c:dh) (h:cm c=0) (i:Nat) (hi:i≤100000):-1000000≤(aN c i).1∧(aN c i).1≤1000000:=by
 obtain ⟨h1,h2,h3⟩:=dB h
 have xP:=jU h1
 simp only at xP
 unfold aN sg
 split <;> (simp only; omega)
def fy (c:dh) (i:Nat):dL:=iL (aN c i) (aN c (i+1))
def cC (c:dh) (k:Nat):List dL:=(List.range k).map (fy c)
def cF (c:dh):List dL:=cC c c.2.2.2.2.toNat
theorem dY (c:dh) (k:Nat):(cC c k).length=k:=by simp [cC]
theorem jY (c:dh) (k:Nat):cC c (k+1)=cC c k++[fy c k]:=by unfold cC; rw [List.range_succ,List.map_append]; rfl
def bz (p:List dh):List dL:=p.flatMap cF
theorem ou {c:dh} (h:cm c=0):(cF c).length≤512:=by
 obtain ⟨h1,h2,h3⟩:=dB h
 unfold cF
 rw [dY]
 omega
theorem lA (p:List dh) (h:∀ c∈p,cm c=0):(bz p).length≤512 * p.length:=by
 induction p with
 | nil=>simp [bz]
 | cons c p ih=>
  have h1:=ou (h c (by simp))
  have h2:=ih (fun c hc=>h c (by simp [hc]))
  unfold bz at *
  rw [List.flatMap_cons,List.length_append,List.length_cons]
  omega
theorem lB (p:List dh) {k:Nat} (hk:k < p.length):bz (p.take (k+1))=bz (p.take k)++cF p[k]:=by
 unfold bz
 rw [List.take_add_one,List.getElem?_eq_getElem hk,List.flatMap_append]
 simp
section
variable {N:Nat} (hN:fC N)
include hN
theorem yG (c:dh) (h:cm c=0):GB N c=some (cF c):=by
 obtain ⟨h1,h2,h3⟩:=dB h
 have key:=bF (rd:=nN N (bO c (c.2.2.2.2.toNat+1))) c.2.2.2.2.toNat (fun k=>(cC c k,((k+1:Nat):Int))) (cF c) (fun k hk=>by
  have hl:=dA c (c.2.2.2.2.toNat+1)
  have hm:IntKind.wrap .i64 (((k+1:Nat):Int) - 1)=(k:Int):=by rw [iH ⟨by omega,by omega⟩]; omega
  have a1:=Kh hN (bO c (c.2.2.2.2.toNat+1)) (k:=k) (by omega)
  have a2:=Kh hN (bO c (c.2.2.2.2.toNat+1)) (k:=k+1) (by omega)
  have g1:(bO c (c.2.2.2.2.toNat+1))[k]'(by omega)=aN c k:=by simp [bO]
  have g2:(bO c (c.2.2.2.2.toNat+1))[k+1]'(by omega)=aN c (k+1):=by simp [bO]
  rw [g1] at a1
  rw [g2] at a2
  have r1:decide ((0:Int)≤(k:Int)∧(k:Int) < ((bO c (c.2.2.2.2.toNat+1)).length:Int))=true:=aI (by omega)
  have r2:decide ((0:Int)≤((k+1:Nat):Int)∧((k+1:Nat):Int) < ((bO c (c.2.2.2.2.toNat+1)).length:Int))=true:=aI (by omega)
  have r3:decide (((k+1:Nat):Int) < ((bO c (c.2.2.2.2.toNat+1)).length:Int))=true:=a8 (by omega)
  have b:=OK N (aN c k) (aN c (k+1)) ⟨(eD c h k (by omega)).1,(eD c h k (by omega)).2,(eD c h (k+1) (by omega)).1,(eD c h (k+1) (by omega)).2⟩
  have e:iL (aN c k) (aN c (k+1))=fy c k:=rfl
  have hb:decide ((k+1) * 24≤140737488355328)=true:=decide_eq_true (by omega)
  have ll:(cC c k++[fy c k]).length=k+1:=by rw [List.length_append,dY]; rfl
  have sn:=OL (cC c k) (fy c k)
  rw [jY]
  simp only [nN,r3,hm,r1,r2,Int.toNat_natCast,a1.1,a1.2,a2.1,a2.2,Bool.and_self,cond_true,b,e,Option.bind_some,List.length_map,dY,decide_true,hb,sn,cz,cr,ll,bk (show k+1 < 9223372036854775807 by omega)]) (by
  have hl:=dA c (c.2.2.2.2.toNat+1)
  have lM:decide (((c.2.2.2.2.toNat+1:Nat):Int) < ((bO c (c.2.2.2.2.toNat+1)).length:Int))=false:=by rw [hl]; exact bp _
  simp only [nN,lM,cond_false,cz,cr,Bool.and_self,cond_true,Option.bind_some,List.length_map,decide_true]
  rfl) N 0 (Nat.zero_le _) (by unfold fC at hN; omega)
 rw [OB]
 have w:=wC hN c h
 have jV:az (nN N (bO c (c.2.2.2.2.toNat+1))) N (([]:List dL),1)=some (cF c):=key
 have z:((bif (allFit (aj.fits aM) ([]:List AV)&&true) then some ((List.map d106 ([]:List AV)),1) else none:Option ((List (Int × Int × Int)) × Int)).bind fun w8=>bif (decide (0=(List.map n106 w8.1).length)&&true) then some w8 else none)=some (([]:List dL),1):=rfl
 rw [show On N (c.1,c.2.1,c.2.2.1,c.2.2.2.1,c.2.2.2.2)=some (bO c (c.2.2.2.2.toNat+1)) from w,Option.bind_some,z,Option.bind_some,jV,Option.bind_some]
 simp only [cz,cr,cond_true]
theorem DY (l:List dh) {k:Nat} (hk:k < l.length):d88 (ah (List.map bR l) k)=l[k]∧aj.fits nJ (ah (List.map bR l) k)=true:=by
 rw [fS bR l k hk]
 exact ⟨aaj _,aai _⟩
theorem ub (p:List dh) (h:∀ c∈p,cm c=0) (hp:p.length≤1000000):Uy N p=some (bz p):=by
 have key:=bF (rd:=wD N p) p.length (fun k=>(bz (p.take k),(k:Int))) (bz p) (fun k hk=>by
  have a:=DY hN p hk
  have r1:decide ((0:Int)≤(k:Int)∧(k:Int) < (p.length:Int))=true:=aI hk
  have r2:decide ((k:Int) < (p.length:Int))=true:=a8 hk
  have e0:=h p[k] (List.getElem_mem hk)
  have b:=yG hN p[k] e0
  have hl:=lA (p.take k) (fun c hc=>h c (List.mem_of_mem_take hc))
  have hm:=ou e0
  rw [List.length_take,Nat.min_eq_left (Nat.le_of_lt hk)] at hl
  have hb:decide (((bz (p.take k)).length+(cF p[k]).length) * 24≤140737488355328)=true:=decide_eq_true (by omega)
  rw [lB p hk]
  simp only [wD,List.length_map,r2,r1,Int.toNat_natCast,a.1,a.2,Bool.and_self,cond_true,b,Option.bind_some,decide_true,hb,← List.map_append,cz,cr,List.length_append,bk (show k < 9223372036854775807 by omega)]) (by
  have lM:decide ((p.length:Int) < (p.length:Int))=false:=bp _
  simp only [wD,List.length_map,lM,cond_false,cz,cr,Bool.and_self,cond_true,Option.bind_some,decide_true,List.take_length]) N 0 (Nat.zero_le _) (by unfold fC at hN; omega)
 rw [S4]
 have jV:az (wD N p) N (([]:List dL),0)=some (bz p):=key
 have z:((bif (allFit (aj.fits aM) ([]:List AV)&&true) then some ((List.map d106 ([]:List AV)),0) else none:Option ((List (Int × Int × Int)) × Int)).bind fun w8=>bif (decide (0=(List.map n106 w8.1).length)&&true) then some w8 else none)=some (([]:List dL),0):=rfl
 rw [z,Option.bind_some,jV,Option.bind_some]
 simp only [cz,cr,cond_true]
end
end Go.Proofs.YtldcljfjjoidhaaGreatDoor
