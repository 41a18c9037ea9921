/- Plain laws: the bars of a course,the order of a program (reference). -/
import Derived.Test.YtldcljfjjoidhaaGreatDoorSeamKA
import Derived.Test.YtldcljfjjoidhaaGreatDoorBraU
set_option linter.all false
namespace Go.Proofs.YtldcljfjjoidhaaGreatDoor
open Go Go.Am
open List (map)
open Int (toNat)
open Go.IntKind (wrap)
open Go.Am.aR (fits)
set_option maxRecDepth 100000
abbrev dv:=Int × Int × Int
def mu (a b:Int × Int):dv:=if a.2 > b.2 then (b.1,b.2,a.1 - b.1) else (a.1,a.2,b.1 - a.1)
theorem RV (N:Nat) (a b:Int × Int) (h:-1000000≤a.1∧a.1≤1000000∧-1000000≤b.1∧b.1≤1000000):T64 N (a,b)=some (mu a b):=by
 rw [Wy]
 unfold mu
 by_cases h1:a.2 > b.2
 ·simp only [h1,decide_true,cond_true,if_true,Option.bind_some]
  rw [gk ⟨by omega,by omega⟩]
 ·simp only [h1,decide_false,cond_false,if_false,Option.bind_some]
  rw [gk ⟨by omega,by omega⟩]
theorem RW (l:List dv) (p:dv):map af l++[AV.agg [AV.int .i64 p.1,AV.int .i64 p.2.1,AV.int .i64 p.2.2]]=map af (l++[p]):=by rw [List.map_append]; rfl
theorem iu (c:dq) (h:cX c=0) (i:Nat) (hi:i≤100000):-1000000≤(bw c i).1∧(bw c i).1≤1000000:=by
 obtain ⟨h1,h2,h3⟩:=fk h
 have AF:=fm h1
 simp only at AF
 unfold bw sg
 split <;> (simp only; omega)
def jL (c:dq) (i:Nat):dv:=mu (bw c i) (bw c (i+1))
def e7 (c:dq) (k:Nat):List dv:=(List.range k).map (jL c)
def dJ (c:dq):List dv:=e7 c c.2.2.2.2.toNat
theorem iY (c:dq) (k:Nat):(e7 c k).length=k:=by simp [e7]
theorem ox (c:dq) (k:Nat):e7 c (k+1)=e7 c k++[jL c k]:=by unfold e7; rw [List.range_succ,List.map_append]; rfl
def cT (p:List dq):List dv:=p.flatMap dJ
theorem qE {c:dq} (h:cX c=0):(dJ c).length≤512:=by
 obtain ⟨h1,h2,h3⟩:=fk h
 unfold dJ
 rw [iY]
 omega
theorem p0 (p:List dq) (h:∀ c∈p,cX c=0):(cT p).length≤512 * p.length:=by
 induction p with
 | nil=>simp [cT]
 | cons c p ih=>
  have h1:=qE (h c (by simp))
  have h2:=ih (fun c hc=>h c (by simp [hc]))
  unfold cT at *
  rw [List.flatMap_cons,List.length_append,List.length_cons]
  omega
theorem qF (p:List dq) {k:Nat} (hk:k < p.length):cT (p.take (k+1))=cT (p.take k)++dJ p[k]:=by
 unfold cT
 rw [List.take_add_one,List.getElem?_eq_getElem hk,List.flatMap_append]
 simp
section
variable {N:Nat} (hN:fL N)
include hN
theorem Bj (c:dq) (h:cX c=0):Jf N c=some (dJ c):=by
 obtain ⟨h1,h2,h3⟩:=fk h
 have key:=cW (rd:=pX N (b6 c (c.2.2.2.2.toNat+1))) c.2.2.2.2.toNat (fun k=>(e7 c k,((k+1:Nat):Int))) (dJ c) (fun k hk=>by
  have hl:=eZ c (c.2.2.2.2.toNat+1)
  have hm:wrap .i64 (((k+1:Nat):Int) - 1)=(k:Int):=by rw [gk ⟨by omega,by omega⟩]; omega
  have a1:=RH hN (b6 c (c.2.2.2.2.toNat+1)) (k:=k) (by omega)
  have a2:=RH hN (b6 c (c.2.2.2.2.toNat+1)) (k:=k+1) (by omega)
  have g1:(b6 c (c.2.2.2.2.toNat+1))[k]'(by omega)=bw c k:=by simp [b6]
  have g2:(b6 c (c.2.2.2.2.toNat+1))[k+1]'(by omega)=bw c (k+1):=by simp [b6]
  rw [g1] at a1
  rw [g2] at a2
  have r1:decide ((0:Int)≤(k:Int)∧(k:Int) < ((b6 c (c.2.2.2.2.toNat+1)).length:Int))=true:=aB (by omega)
  have r2:decide ((0:Int)≤((k+1:Nat):Int)∧((k+1:Nat):Int) < ((b6 c (c.2.2.2.2.toNat+1)).length:Int))=true:=aB (by omega)
  have r3:decide (((k+1:Nat):Int) < ((b6 c (c.2.2.2.2.toNat+1)).length:Int))=true:=a8 (by omega)
  have b:=RV N (bw c k) (bw c (k+1)) ⟨(iu c h k (by omega)).1,(iu c h k (by omega)).2,(iu c h (k+1) (by omega)).1,(iu c h (k+1) (by omega)).2⟩
  have e:mu (bw c k) (bw c (k+1))=jL c k:=rfl
  have hb:decide ((k+1) * 24≤140737488355328)=true:=decide_eq_true (by omega)
  have ll:(e7 c k++[jL c k]).length=k+1:=by rw [List.length_append,iY]; rfl
  have sn:=RW (e7 c k) (jL c k)
  rw [ox]
  simp only [pX,r3,hm,r1,r2,Int.toNat_natCast,a1.1,a1.2,a2.1,a2.2,Bool.and_self,cond_true,b,e,Option.bind_some,List.length_map,iY,decide_true,hb,sn,fy,fj,ll,bE (show k+1 < 9223372036854775807 by omega)]) (by
  have hl:=eZ c (c.2.2.2.2.toNat+1)
  have qi:decide (((c.2.2.2.2.toNat+1:Nat):Int) < ((b6 c (c.2.2.2.2.toNat+1)).length:Int))=false:=by rw [hl]; exact bO _
  simp only [pX,qi,cond_false,fy,fj,Bool.and_self,cond_true,Option.bind_some,List.length_map,decide_true]
  rfl) N 0 (Nat.zero_le _) (by unfold fL at hN; omega)
 rw [RL]
 have w:=zx hN c h
 have pW:aL (pX N (b6 c (c.2.2.2.2.toNat+1))) N (([]:List dv),1)=some (dJ c):=key
 have z:((bif (allFit (fits ay) ([]:List AV)&&true) then some ((map aw ([]:List AV)),1) else none:Option (dY × Int)).bind fun w8=>bif (decide (0=(map af w8.1).length)&&true) then some w8 else none)=some (([]:List dv),1):=rfl
 rw [show Ru N (c.1,c.2.1,c.2.2.1,c.2.2.2.1,c.2.2.2.2)=some (b6 c (c.2.2.2.2.toNat+1)) from w,Option.bind_some,z,Option.bind_some,pW,Option.bind_some]
 simp only [fy,fj,cond_true]
theorem Eg (l:List dq) {k:Nat} (hk:k < l.length):bC (ah (map ax l) k)=l[k]∧fits df (ah (map ax l) k)=true:=by
 rw [fH ax l k hk]
 exact ⟨aew _,aev _⟩
theorem HI (p:List dq) (h:∀ c∈p,cX c=0) (hp:p.length≤1000000):T44 N p=some (cT p):=by
 have key:=cW (rd:=zy N p) p.length (fun k=>(cT (p.take k),(k:Int))) (cT p) (fun k hk=>by
  have a:=Eg hN p hk
  have r1:decide ((0:Int)≤(k:Int)∧(k:Int) < (p.length:Int))=true:=aB hk
  have r2:decide ((k:Int) < (p.length:Int))=true:=a8 hk
  have e0:=h p[k] (List.getElem_mem hk)
  have b:=Bj hN p[k] e0
  have hl:=p0 (p.take k) (fun c hc=>h c (List.mem_of_mem_take hc))
  have hm:=qE e0
  rw [List.length_take,Nat.min_eq_left (Nat.le_of_lt hk)] at hl
  have hb:decide (((cT (p.take k)).length+(dJ p[k]).length) * 24≤140737488355328)=true:=decide_eq_true (by omega)
  rw [qF p hk]
  simp only [zy,List.length_map,r2,r1,Int.toNat_natCast,a.1,a.2,Bool.and_self,cond_true,b,Option.bind_some,decide_true,hb,← List.map_append,fy,fj,List.length_append,bE (show k < 9223372036854775807 by omega)]) (by
  have qi:decide ((p.length:Int) < (p.length:Int))=false:=bO _
  simp only [zy,List.length_map,qi,cond_false,fy,fj,Bool.and_self,cond_true,Option.bind_some,decide_true,List.take_length]) N 0 (Nat.zero_le _) (by unfold fL at hN; omega)
 rw [WA]
 have pW:aL (zy N p) N (([]:List dv),0)=some (cT p):=key
 have z:((bif (allFit (fits ay) ([]:List AV)&&true) then some ((map aw ([]:List AV)),0) else none:Option (dY × Int)).bind fun w8=>bif (decide (0=(map af w8.1).length)&&true) then some w8 else none)=some (([]:List dv),0):=rfl
 rw [z,Option.bind_some,pW,Option.bind_some]
 simp only [fy,fj,cond_true]
end
end Go.Proofs.YtldcljfjjoidhaaGreatDoor
