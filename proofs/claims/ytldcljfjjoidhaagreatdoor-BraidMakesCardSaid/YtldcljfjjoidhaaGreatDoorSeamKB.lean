/- Plain laws: the bars of a course,the order of a program (reference). -/
import Derived.Test.YtldcljfjjoidhaaGreatDoorSeamKA
import Derived.Test.YtldcljfjjoidhaaGreatDoorBraU
set_option linter.all false
open Bool renaming and_self→aaB
open List renaming length_map→aao, length_append→aau, map_append→aaO
open Option renaming bind_some→aad
namespace Go.Proofs.YtldcljfjjoidhaaGreatDoor
open Go Go.Am
open List (map)
open Int (toNat)
open Go.IntKind (wrap)
open Go.Am.aO (fits)
set_option maxRecDepth 100000
abbrev aF:=Int × Int × Int
def kQ (a b:Int × Int):aF:=if a.2 > b.2 then (b.1,b.2,a.1 - b.1) else (a.1,a.2,b.1 - a.1)
theorem Vm (N:Nat) (a b:Int × Int) (h:-1000000≤a.1∧a.1≤1000000∧-1000000≤b.1∧b.1≤1000000):T64 N (a,b)=some (kQ a b):=by
 rw [Z5];unfold kQ;by_cases h1:a.2 > b.2
 ·simp only [h1,decide_true,cond_true,if_true,aad];rw [fT ⟨by omega,by omega⟩]
 ·simp only [h1,decide_false,cond_false,if_false,aad];rw [fT ⟨by omega,by omega⟩]
theorem uQ (l:List aF) (p:aF):map cC l++[AV.agg [AV.int .i64 p.1,AV.int .i64 p.2.1,AV.int .i64 p.2.2]]=map cC (l++[p]):=by rw [aaO]; rfl
theorem iT (c:cQ) (h:dJ c=0) (i:Nat) (hi:i≤100000):-1000000≤(au c i).1∧(au c i).1≤1000000:=by
 obtain ⟨h1,h2,h3⟩:=fL h;have Co:=eO h1;simp only at Co;unfold au sg;split <;> (simp only; omega)
def e8 (c:cQ) (i:Nat):aF:=kQ (au c i) (au c (i+1))
def dQ (c:cQ) (k:Nat):List aF:=(List.range k).map (e8 c)
def bV (c:cQ):List aF:=dQ c c.2.2.2.2.toNat
theorem iD (c:cQ) (k:Nat):(dQ c k).length=k:=by simp [dQ]
theorem mG (c:cQ) (k:Nat):dQ c (k+1)=dQ c k++[e8 c k]:=by unfold dQ; rw [List.range_succ,aaO]; rfl
def bn (p:List cQ):List aF:=p.flatMap bV
theorem r7 {c:cQ} (h:dJ c=0):(bV c).length≤512:=by
 obtain ⟨h1,h2,h3⟩:=fL h;unfold bV;rw [iD];omega
theorem rn (p:List cQ) (h:∀ c∈p,dJ c=0):(bn p).length≤512 * p.length:=by
 induction p with
 |nil=>simp [bn]
 |cons c p ih=>
  have h1:=r7 (h c (by simp));have h2:=ih (fun c hc=>h c (by simp [hc]));unfold bn at *;rw [List.flatMap_cons,aau,List.length_cons];omega
theorem r8 (p:List cQ) {k:Nat} (hk:k < p.length):bn (p.take (k+1))=bn (p.take k)++bV p[k]:=by
 unfold bn;rw [List.take_add_one,List.getElem?_eq_getElem hk,List.flatMap_append];simp
section
variable {N:Nat} (hN:fC N)
include hN
theorem C2 (c:cQ) (h:dJ c=0):LV N c=some (bV c):=by
 obtain ⟨h1,h2,h3⟩:=fL h;have key:=cU (rd:=rb N (b8 c (c.2.2.2.2.toNat+1))) c.2.2.2.2.toNat (fun k=>(dQ c k,((k+1:Nat):Int))) (bV c) (fun k hk=>by
  have hl:=fy c (c.2.2.2.2.toNat+1);have hm:wrap .i64 (((k+1:Nat):Int) - 1)=(k:Int):=by rw [fT ⟨by omega,by omega⟩]; omega
  have a1:=Vb hN (b8 c (c.2.2.2.2.toNat+1)) (k:=k) (by omega);have a2:=Vb hN (b8 c (c.2.2.2.2.toNat+1)) (k:=k+1) (by omega);have g1:(b8 c (c.2.2.2.2.toNat+1))[k]'(by omega)=au c k:=by simp [b8]
  have g2:(b8 c (c.2.2.2.2.toNat+1))[k+1]'(by omega)=au c (k+1):=by simp [b8]
  rw [g1] at a1;rw [g2] at a2;have r1:decide ((0:Int)≤(k:Int)∧(k:Int) < ((b8 c (c.2.2.2.2.toNat+1)).length:Int))=true:=ay (by omega);have r2:decide ((0:Int)≤((k+1:Nat):Int)∧((k+1:Nat):Int) < ((b8 c (c.2.2.2.2.toNat+1)).length:Int))=true:=ay (by omega);have r3:decide (((k+1:Nat):Int) < ((b8 c (c.2.2.2.2.toNat+1)).length:Int))=true:=a7 (by omega);have b:=Vm N (au c k) (au c (k+1)) ⟨(iT c h k (by omega)).1,(iT c h k (by omega)).2,(iT c h (k+1) (by omega)).1,(iT c h (k+1) (by omega)).2⟩;have e:kQ (au c k) (au c (k+1))=e8 c k:=rfl;have hb:decide ((k+1) * 24≤140737488355328)=true:=decide_eq_true (by omega);have ll:(dQ c k++[e8 c k]).length=k+1:=by rw [aau,iD]; rfl
  have sn:=uQ (dQ c k) (e8 c k);rw [mG];simp only [rb,r3,hm,r1,r2,Int.toNat_natCast,a1.1,a1.2,a2.1,a2.2,aaB,cond_true,b,e,aad,aao,iD,decide_true,hb,sn,cq,b9,ll,bw (show k+1 < 9223372036854775807 by omega)]) (by
  have hl:=fy c (c.2.2.2.2.toNat+1);have oP:decide (((c.2.2.2.2.toNat+1:Nat):Int) < ((b8 c (c.2.2.2.2.toNat+1)).length:Int))=false:=by rw [hl]; exact bO _
  simp only [rb,oP,cond_false,cq,b9,aaB,cond_true,aad,aao,decide_true];rfl) N 0 (Nat.zero_le _) (by unfold fC at hN; omega)
 rw [Ve];have w:=AY hN c h;have vT:az (rb N (b8 c (c.2.2.2.2.toNat+1))) N (([]:List aF),1)=some (bV c):=key;have z:((bif (allFit (fits aA) ([]:List AV)&&true) then some ((map aB ([]:List AV)),1) else none:Option (cI × Int)).bind fun w8=>bif (decide (0=(map cC w8.1).length)&&true) then some w8 else none)=some (([]:List aF),1):=rfl;rw [show U0 N (c.1,c.2.1,c.2.2.1,c.2.2.2.1,c.2.2.2.2)=some (b8 c (c.2.2.2.2.toNat+1)) from w,aad,z,aad,vT,aad];simp only [cq,b9,cond_true]
theorem PJ (l:List cQ) {k:Nat} (hk:k < l.length):ee (ae (map fQ l) k)=l[k]∧fits gI (ae (map fQ l) k)=true:=by
 rw [gd fQ l k hk];exact ⟨ah3 _,ah2 _⟩
theorem Kj (p:List cQ) (h:∀ c∈p,dJ c=0) (hp:p.length≤1000000):T44 N p=some (bn p):=by
 have key:=cU (rd:=AZ N p) p.length (fun k=>(bn (p.take k),(k:Int))) (bn p) (fun k hk=>by
  have a:=PJ hN p hk;have r1:decide ((0:Int)≤(k:Int)∧(k:Int) < (p.length:Int))=true:=ay hk;have r2:decide ((k:Int) < (p.length:Int))=true:=a7 hk;have e0:=h p[k] (List.getElem_mem hk);have b:=C2 hN p[k] e0;have hl:=rn (p.take k) (fun c hc=>h c (List.mem_of_mem_take hc));have hm:=r7 e0;rw [List.length_take,Nat.min_eq_left (Nat.le_of_lt hk)] at hl;have hb:decide (((bn (p.take k)).length+(bV p[k]).length) * 24≤140737488355328)=true:=decide_eq_true (by omega);rw [r8 p hk];simp only [AZ,aao,r2,r1,Int.toNat_natCast,a.1,a.2,aaB,cond_true,b,aad,decide_true,hb,← aaO,cq,b9,aau,bw (show k < 9223372036854775807 by omega)]) (by
  have oP:decide ((p.length:Int) < (p.length:Int))=false:=bO _;simp only [AZ,aao,oP,cond_false,cq,b9,aaB,cond_true,aad,decide_true,List.take_length]) N 0 (Nat.zero_le _) (by unfold fC at hN; omega)
 rw [Z7];have vT:az (AZ N p) N (([]:List aF),0)=some (bn p):=key;have z:((bif (allFit (fits aA) ([]:List AV)&&true) then some ((map aB ([]:List AV)),0) else none:Option (cI × Int)).bind fun w8=>bif (decide (0=(map cC w8.1).length)&&true) then some w8 else none)=some (([]:List aF),0):=rfl;rw [z,aad,vT,aad];simp only [cq,b9,cond_true]
end
end Go.Proofs.YtldcljfjjoidhaaGreatDoor
