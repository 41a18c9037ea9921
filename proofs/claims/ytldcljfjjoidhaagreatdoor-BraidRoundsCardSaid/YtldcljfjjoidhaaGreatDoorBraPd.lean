/- Plain laws: the bars of a course,the order of a program (reference). -/
import Derived.Test.YtldcljfjjoidhaaGreatDoorBraPb
import Derived.Test.YtldcljfjjoidhaaGreatDoorBraU
set_option linter.all false
namespace Go.Proofs.YtldcljfjjoidhaaGreatDoor
open Go Go.Am
open List (map)
open Int (toNat)
open Go.IntKind (wrap)
open Go.Am.aT (fits)
set_option maxRecDepth 100000
abbrev dM:=Int × Int × Int
def fP (a b:Int × Int):dM:=if a.2 > b.2 then (b.1,b.2,a.1 - b.1) else (a.1,a.2,b.1 - a.1)
theorem QN (N:Nat) (a b:Int × Int) (h:-1000000≤a.1∧a.1≤1000000∧-1000000≤b.1∧b.1≤1000000):T64 N (a,b)=some (fP a b):=by
 rw [Vr]
 unfold fP
 by_cases h1:a.2 > b.2
 ·simp only [h1,decide_true,cond_true,if_true,Option.bind_some]
  rw [iE ⟨by omega,by omega⟩]
 ·simp only [h1,decide_false,cond_false,if_false,Option.bind_some]
  rw [iE ⟨by omega,by omega⟩]
theorem QO (l:List dM) (p:dM):map ae l++[AV.agg [AV.int .i64 p.1,AV.int .i64 p.2.1,AV.int .i64 p.2.2]]=map ae (l++[p]):=by rw [List.map_append]; rfl
theorem fg (c:bD) (h:bX c=0) (i:Nat) (hi:i≤100000):-1000000≤(aK c i).1∧(aK c i).1≤1000000:=by
 obtain ⟨h1,h2,h3⟩:=cB h
 have zo:=ey h1
 simp only at zo
 unfold aK sg
 split <;> (simp only; omega)
def eQ (c:bD) (i:Nat):dM:=fP (aK c i) (aK c (i+1))
def cN (c:bD) (k:Nat):List dM:=(List.range k).map (eQ c)
def cp (c:bD):List dM:=cN c c.2.2.2.2.toNat
theorem dQ (c:bD) (k:Nat):(cN c k).length=k:=by simp [cN]
theorem kK (c:bD) (k:Nat):cN c (k+1)=cN c k++[eQ c k]:=by unfold cN; rw [List.range_succ,List.map_append]; rfl
def bp (p:List bD):List dM:=p.flatMap cp
theorem pN {c:bD} (h:bX c=0):(cp c).length≤512:=by
 obtain ⟨h1,h2,h3⟩:=cB h
 unfold cp
 rw [dQ]
 omega
theorem mw (p:List bD) (h:∀ c∈p,bX c=0):(bp p).length≤512 * p.length:=by
 induction p with
 | nil=>simp [bp]
 | cons c p ih=>
  have h1:=pN (h c (by simp))
  have h2:=ih (fun c hc=>h c (by simp [hc]))
  unfold bp at *
  rw [List.flatMap_cons,List.length_append,List.length_cons]
  omega
theorem my (p:List bD) {k:Nat} (hk:k < p.length):bp (p.take (k+1))=bp (p.take k)++cp p[k]:=by
 unfold bp
 rw [List.take_add_one,List.getElem?_eq_getElem hk,List.flatMap_append]
 simp
section
variable {N:Nat} (hN:fB N)
include hN
theorem zZ (c:bD) (h:bX c=0):Im N c=some (cp c):=by
 obtain ⟨h1,h2,h3⟩:=cB h
 have key:=bK (rd:=oX N (cg c (c.2.2.2.2.toNat+1))) c.2.2.2.2.toNat (fun k=>(cN c k,((k+1:Nat):Int))) (cp c) (fun k hk=>by
  have hl:=eZ c (c.2.2.2.2.toNat+1)
  have hm:wrap .i64 (((k+1:Nat):Int) - 1)=(k:Int):=by rw [iE ⟨by omega,by omega⟩]; omega
  have a1:=Vp hN (cg c (c.2.2.2.2.toNat+1)) (k:=k) (by omega)
  have a2:=Vp hN (cg c (c.2.2.2.2.toNat+1)) (k:=k+1) (by omega)
  have g1:(cg c (c.2.2.2.2.toNat+1))[k]'(by omega)=aK c k:=by simp [cg]
  have g2:(cg c (c.2.2.2.2.toNat+1))[k+1]'(by omega)=aK c (k+1):=by simp [cg]
  rw [g1] at a1
  rw [g2] at a2
  have r1:decide ((0:Int)≤(k:Int)∧(k:Int) < ((cg c (c.2.2.2.2.toNat+1)).length:Int))=true:=aO (by omega)
  have r2:decide ((0:Int)≤((k+1:Nat):Int)∧((k+1:Nat):Int) < ((cg c (c.2.2.2.2.toNat+1)).length:Int))=true:=aO (by omega)
  have r3:decide (((k+1:Nat):Int) < ((cg c (c.2.2.2.2.toNat+1)).length:Int))=true:=bf (by omega)
  have b:=QN N (aK c k) (aK c (k+1)) ⟨(fg c h k (by omega)).1,(fg c h k (by omega)).2,(fg c h (k+1) (by omega)).1,(fg c h (k+1) (by omega)).2⟩
  have e:fP (aK c k) (aK c (k+1))=eQ c k:=rfl
  have hb:decide ((k+1) * 24≤140737488355328)=true:=decide_eq_true (by omega)
  have ll:(cN c k++[eQ c k]).length=k+1:=by rw [List.length_append,dQ]; rfl
  have sn:=QO (cN c k) (eQ c k)
  rw [kK]
  simp only [oX,r3,hm,r1,r2,Int.toNat_natCast,a1.1,a1.2,a2.1,a2.2,Bool.and_self,cond_true,b,e,Option.bind_some,List.length_map,dQ,decide_true,hb,sn,cQ,cM,ll,bA (show k+1 < 9223372036854775807 by omega)]) (by
  have hl:=eZ c (c.2.2.2.2.toNat+1)
  have mF:decide (((c.2.2.2.2.toNat+1:Nat):Int) < ((cg c (c.2.2.2.2.toNat+1)).length:Int))=false:=by rw [hl]; exact bt _
  simp only [oX,mF,cond_false,cQ,cM,Bool.and_self,cond_true,Option.bind_some,List.length_map,decide_true]
  rfl) N 0 (Nat.zero_le _) (by unfold fB at hN; omega)
 rw [Qx]
 have w:=Du hN c h
 have lQ:aG (oX N (cg c (c.2.2.2.2.toNat+1))) N (([]:List dM),1)=some (cp c):=key
 have z:((bif (allFit (fits aw) ([]:List AV)&&true) then some ((map ak ([]:List AV)),1) else none:Option (eu × Int)).bind fun w8=>bif (decide (0=(map ae w8.1).length)&&true) then some w8 else none)=some (([]:List dM),1):=rfl
 rw [show Vd N (c.1,c.2.1,c.2.2.1,c.2.2.2.1,c.2.2.2.2)=some (cg c (c.2.2.2.2.toNat+1)) from w,Option.bind_some,z,Option.bind_some,lQ,Option.bind_some]
 simp only [cQ,cM,cond_true]
theorem Iq (l:List bD) {k:Nat} (hk:k < l.length):bO (af (map az l) k)=l[k]∧fits cR (af (map az l) k)=true:=by
 rw [gM az l k hk]
 exact ⟨ac4 _,ac3 _⟩
theorem QP (p:List bD) (h:∀ c∈p,bX c=0) (hp:p.length≤1000000):T44 N p=some (bp p):=by
 have key:=bK (rd:=xQ N p) p.length (fun k=>(bp (p.take k),(k:Int))) (bp p) (fun k hk=>by
  have a:=Iq hN p hk
  have r1:decide ((0:Int)≤(k:Int)∧(k:Int) < (p.length:Int))=true:=aO hk
  have r2:decide ((k:Int) < (p.length:Int))=true:=bf hk
  have e0:=h p[k] (List.getElem_mem hk)
  have b:=zZ hN p[k] e0
  have hl:=mw (p.take k) (fun c hc=>h c (List.mem_of_mem_take hc))
  have hm:=pN e0
  rw [List.length_take,Nat.min_eq_left (Nat.le_of_lt hk)] at hl
  have hb:decide (((bp (p.take k)).length+(cp p[k]).length) * 24≤140737488355328)=true:=decide_eq_true (by omega)
  rw [my p hk]
  simp only [xQ,List.length_map,r2,r1,Int.toNat_natCast,a.1,a.2,Bool.and_self,cond_true,b,Option.bind_some,decide_true,hb,← List.map_append,cQ,cM,List.length_append,bA (show k < 9223372036854775807 by omega)]) (by
  have mF:decide ((p.length:Int) < (p.length:Int))=false:=bt _
  simp only [xQ,List.length_map,mF,cond_false,cQ,cM,Bool.and_self,cond_true,Option.bind_some,decide_true,List.take_length]) N 0 (Nat.zero_le _) (by unfold fB at hN; omega)
 rw [Vu]
 have lQ:aG (xQ N p) N (([]:List dM),0)=some (bp p):=key
 have z:((bif (allFit (fits aw) ([]:List AV)&&true) then some ((map ak ([]:List AV)),0) else none:Option (eu × Int)).bind fun w8=>bif (decide (0=(map ae w8.1).length)&&true) then some w8 else none)=some (([]:List dM),0):=rfl
 rw [z,Option.bind_some,lQ,Option.bind_some]
 simp only [cQ,cM,cond_true]
end
end Go.Proofs.YtldcljfjjoidhaaGreatDoor
