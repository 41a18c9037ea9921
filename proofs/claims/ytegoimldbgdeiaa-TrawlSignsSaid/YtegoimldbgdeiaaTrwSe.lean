/- What the program's signs are,and its way that turns: T64. -/
import Derived.Test.YtegoimldbgdeiaaTrwSc
set_option linter.all false
namespace Go.Proofs.Ytegoimldbgdeiaa
open Go Go.Am
open List (map)
open Int (toNat)
open Go.IntKind (wrap)
open Go.Am.aM (fits)
set_option maxRecDepth 100000
theorem VU:∀ l:List (List Int),aF (map jg l)=true
 |[]=>rfl
 |x :: l=>by
  show ((jg x).closed&&aF (map jg l))=true;rw [VU l,Bool.and_true];rfl
def uD (l:List Int) (k:Nat):List Int:=(List.range l.length).map fun m=>if m < k∨l.length≤m+k then l.getD (l.length - 1 - m) 0 else l.getD m 0
theorem fZ (l:List Int) (k:Nat):(uD l k).length=l.length:=by simp [uD]
theorem rC (l:List Int) (k:Nat) {m:Nat} (hm:m < l.length):gI (uD l k) (m:Int)=if m < k∨l.length≤m+k then l.getD (l.length - 1 - m) 0 else l.getD m 0:=by
 rw [jw _ (by rw [fZ]; exact hm)];simp [uD]
theorem Kk (l:List Int):uD l 0=l:=by
 apply List.ext_getElem
 ·exact fZ l 0
 ·intro m h1 h2;have:=rC l 0 h2;rw [jw _ (by rw [fZ]; exact h2),if_neg (by omega)] at this;rw [this,List.getD_eq_getElem?_getD,List.getElem?_eq_getElem h2]; rfl
theorem M9 (l:List Int):uD l (l.length / 2)=l.reverse:=by
 apply List.ext_getElem
 ·rw [fZ,List.length_reverse]
 ·intro m h1 h2;have hm:m < l.length:=by rw [fZ] at h1; exact h1
  have:=rC l (l.length / 2) hm;rw [jw _ h1] at this;rw [this,List.getElem_reverse];by_cases c:m < l.length / 2∨l.length≤m+l.length / 2
  ·rw [if_pos c,List.getD_eq_getElem?_getD,List.getElem?_eq_getElem (by omega)]; rfl
  ·rw [if_neg c,List.getD_eq_getElem?_getD,List.getElem?_eq_getElem hm];have:l.length - 1 - m=m:=by omega
   simp only [this]; rfl
theorem Kl (l:List Int) (k:Nat) (hk:k < l.length / 2):((uD l k).set k (gI (uD l k) ((l.length - 1 - k:Nat):Int))).set (l.length - 1 - k) (gI (uD l k) (k:Int))=uD l (k+1):=by
 apply List.ext_getElem
 ·simp [fZ]
 ·intro m h1 h2;have hm:m < l.length:=by rw [fZ] at h2; exact h2
  have e:=rC l (k+1) hm;rw [jw _ h2] at e;have g1:=rC l k (m:=l.length - 1 - k) (by omega);have g2:=rC l k (m:=k) (by omega);have g3:=rC l k hm;rw [jw _ (by rw [fZ]; exact hm)] at g3;rw [if_neg (by omega)] at g1 g2;simp only [e,List.getElem_set,g1,g2,g3];by_cases c1:l.length - 1 - k=m
  ·rw [if_pos c1,if_pos (by omega)]; congr 1; omega
  ·rw [if_neg c1];by_cases c2:k=m
   ·rw [if_pos c2,if_pos (by omega),c2]
   ·rw [if_neg c2];by_cases c3:m < k∨l.length≤m+k
    ·rw [if_pos c3,if_pos (by omega)]
    ·rw [if_neg c3,if_neg (by omega)]
section
variable {N:Nat} (hN:ey N)
include hN
theorem Qh (t:cu) (bN:Int × List Int × List (List Int) × List Int × List (List Int) × List Int) (l:List Int) (hl:l.length≤1000)
  (h0:d77 (ab (map jg bN.2.2.2.2.1) (0+toNat (d110 (ab (map n110 t.2) (toNat bN.1))).2.2.1))=l) (sg:List Int) (pa:List (List Int)) (st:List Int) :
  ar (oo N t bN) N (0,wrap .i64 ((l.length:Int) - 1),sg,pa,st,l)=some (sg,pa,st,l.reverse):=by
 rw [Nat.zero_add] at h0;have key:=aU (rd:=oo N t bN) (l.length / 2) (fun k=>((k:Int),(l.length:Int) - 1 - (k:Int),sg,pa,st,uD l k)) (sg,pa,st,l.reverse) (fun k hk=>by
  have e1:decide ((k:Int) < (l.length:Int) - 1 - (k:Int))=true:=decide_eq_true (by omega);have hj:(l.length:Int) - 1 - (k:Int)=((l.length - 1 - k:Nat):Int):=by omega
  have w1:wrap .i64 ((k:Int)+1)=((k+1:Nat):Int):=aR (by omega);have w2:wrap .i64 (((l.length - 1 - k:Nat):Int) - 1)=(l.length:Int) - 1 - ((k+1:Nat):Int):=by rw [KB (by omega)]; omega
  have r1:decide ((0:Int)≤((l.length - 1 - k:Nat):Int)∧((l.length - 1 - k:Nat):Int) < (l.length:Int))=true:=ah (by omega);have r2:decide ((0:Int)≤(k:Int)∧(k:Int) < (l.length:Int))=true:=ah (by omega);have d1:decide (l.length - 1 - k < l.length)=true:=decide_eq_true (by omega);have d2:decide (k < l.length)=true:=decide_eq_true (by omega);obtain ⟨a1,a2⟩:=g3 (uD l k) (k:=l.length - 1 - k) (by rw [fZ]; omega);obtain ⟨b1,b2⟩:=g3 (uD l k) (k:=k) (by rw [fZ]; omega);have hsl:∀ v,((uD l k).set k v).length=l.length:=fun v=>by rw [List.length_set,fZ]
  have ZA:decide ((k:Int) < ((l.length - 1 - k:Nat):Int))=true:=by rw [← hj]; exact e1
  simp only [oo,List.length_map,h0,hj,ZA,r1,r2,d1,d2,fZ,Int.toNat_natCast,Nat.zero_add,a1,a2,b1,b2,Kg,hsl,dI,dJ,mF,mG,Bool.and_self,decide_true,cond_true,Option.bind_some,w1,w2,Kl l k hk]) (by
  have e1:decide (((l.length / 2:Nat):Int) < (l.length:Int) - 1 - ((l.length / 2:Nat):Int))=false:=decide_eq_false (by omega);simp only [oo,e1,cond_false,dI,dJ,mF,mG,Bool.and_self,cond_true,Option.bind_some,M9]) N 0 (Nat.zero_le _) (by unfold ey at hN; omega)
 simp only [Kk] at key;rw [KB (by omega)];rw [show ((l.length:Int) - 1)=(l.length:Int) - 1 - ((0:Nat):Int) by omega];exact key
omit hN in
theorem Rw (x y z:AV):ab [x,y,z] 0=x:=rfl
omit hN in
theorem Rx (x y z:AV):ab [x,y,z] 1=y:=rfl
omit hN in
theorem Ry (x y z:AV):ab [x,y,z] 2=z:=rfl
omit hN in
theorem Zf (x y z:AV):decide ((0:Int)≤((0:Nat):Int)∧((0:Nat):Int) < (([x,y,z].length:Nat):Int))=true:=rfl
omit hN in
theorem Zg (x y z:AV):decide ((0:Int)≤((1:Nat):Int)∧((1:Nat):Int) < (([x,y,z].length:Nat):Int))=true:=rfl
omit hN in
theorem Zh (x y z:AV):decide ((0:Int)≤((2:Nat):Int)∧((2:Nat):Int) < (([x,y,z].length:Nat):Int))=true:=rfl
omit hN in
theorem Rz (i:Int):d77 (.list .full 1 [AV.int .i64 i])=[i]∧fits uL (.list .full 1 [AV.int .i64 i])=true:=⟨rfl,rfl⟩
omit hN in
theorem ID (a:List Int):d77 (.list .ea 1 (map n3 a))=a∧fits uL (.list .ea 1 (map n3 a))=true:=⟨VA a,Vz a⟩
theorem Qi (t:cu) (bN:Int × List Int × List (List Int) × List Int × List (List Int) × List Int) (gF:List Int × List (List Int) × List Int × List Int) (a:List Int) (ha:a.length≤1000) (hc:gF.2.2.2.length≤1000)
  (h0:d77 (ab (map jg gF.2.1) (0+toNat (d110 (ab (map n110 t.2) (toNat bN.1))).1))=a) (sg:List Int) (pa:List (List Int)) (st:List Int) :
  ar (iP N t bN gF) N (0,0,sg,pa,st)=some ((a.length:Int)+1+(gF.2.2.2.length:Int),sg,pa,st):=by
 rw [Nat.zero_add] at h0;have key:=aU (rd:=iP N t bN gF) 3 (fun k=>((match k with | 0=>0 | 1=>(a.length:Int) | 2=>(a.length:Int)+1 | _=>(a.length:Int)+1+(gF.2.2.2.length:Int):Int),(k:Int),sg,pa,st)) ((a.length:Int)+1+(gF.2.2.2.length:Int),sg,pa,st) (fun k hk=>by
  have w1:wrap .i64 ((k:Int)+1)=((k+1:Nat):Int):=aR (by omega);have e1:decide ((k:Int) < 3)=true:=decide_eq_true (by omega);have q0:wrap .i64 (0+(a.length:Int))=(a.length:Int):=by rw [KB (by omega)]; omega
  have q1:wrap .i64 ((a.length:Int)+((1:Nat):Int))=(a.length:Int)+1:=by rw [KB (by omega)]; omega
  have q2:wrap .i64 ((a.length:Int)+1+(gF.2.2.2.length:Int))=(a.length:Int)+1+(gF.2.2.2.length:Int):=by rw [KB (by omega)]
  have z0:decide ((a.length:Int) < 0)=false:=decide_eq_false (by omega);have z1:decide ((a.length:Int)+1 < 0)=false:=decide_eq_false (by omega);have z2:decide ((a.length:Int)+1+(gF.2.2.2.length:Int) < 0)=false:=decide_eq_false (by omega);have hk3:k=0∨k=1∨k=2:=by omega
  rcases hk3 with rfl|rfl|rfl
  ·simp only [iP,e1,Nat.zero_add,h0,Zf,Int.toNat_natCast,Rw,ID,Bool.and_self,cond_true,cond_false,List.length_map,q0,z0,w1,dI,dJ,mF,mG,Option.bind_some]
  ·simp only [iP,e1,Nat.zero_add,h0,Zg,Int.toNat_natCast,Rx,Rz,Bool.and_self,cond_true,cond_false,List.length_map,List.length_singleton,q1,z1,w1,dI,dJ,mF,mG,Option.bind_some]
  ·simp only [iP,e1,Nat.zero_add,h0,Zh,Int.toNat_natCast,Ry,ID,Bool.and_self,cond_true,cond_false,List.length_map,q2,z2,w1,dI,dJ,mF,mG,Option.bind_some]) (by
  have e1:decide (((3:Nat):Int) < 3)=false:=rfl;simp only [iP,e1,cond_false,dI,dJ,mF,mG,Bool.and_self,cond_true,Option.bind_some]) N 0 (Nat.zero_le _) (by unfold ey at hN; omega)
 exact key
theorem Qj (t:cu) (bN:Int × List Int × List (List Int) × List Int × List (List Int) × List Int) (gF:List Int × List (List Int) × List Int × List Int) (a:List Int) (ha:a.length≤1000) (hc:gF.2.2.2.length≤1000)
  (h0:d77 (ab (map jg gF.2.1) (0+toNat (d110 (ab (map n110 t.2) (toNat bN.1))).1))=a) (sg:List Int) (pa:List (List Int)) (st:List Int) :
  ar (gU N t bN gF) N ((),0,sg,pa,st,[])=some ((),sg,pa,st,a++[bN.1]++gF.2.2.2):=by
 rw [Nat.zero_add] at h0;have key:=aU (rd:=gU N t bN gF) 3 (fun k=>((),(k:Int),sg,pa,st,(match k with | 0=>[] | 1=>a | 2=>a++[bN.1] | _=>a++[bN.1]++gF.2.2.2:List Int))) ((),sg,pa,st,a++[bN.1]++gF.2.2.2) (fun k hk=>by
  have w1:wrap .i64 ((k:Int)+1)=((k+1:Nat):Int):=aR (by omega);have e1:decide ((k:Int) < 3)=true:=decide_eq_true (by omega);have q0:decide (a.length * 8≤140737488355328)=true:=decide_eq_true (by omega);have q1:decide ((a.length+1) * 8≤140737488355328)=true:=decide_eq_true (by omega);have q2:decide ((a.length+1+gF.2.2.2.length) * 8≤140737488355328)=true:=decide_eq_true (by omega);have q3:([]:List Int).length+a.length=a.length:=by simp
  have hk3:k=0∨k=1∨k=2:=by omega
  rcases hk3 with rfl|rfl|rfl
  ·simp only [gU,e1,Nat.zero_add,h0,Zf,Int.toNat_natCast,Rw,ID,Bool.and_self,cond_true,cond_false,← List.map_append,List.nil_append,List.length_map,List.length_append,q0,q3,w1,dI,dJ,mF,mG,Option.bind_some,Nat.beq_refl,decide_true]
  ·simp only [gU,e1,Nat.zero_add,h0,Zg,Int.toNat_natCast,Rx,Rz,Bool.and_self,cond_true,cond_false,← List.map_append,List.length_map,List.length_append,List.length_singleton,q1,w1,dI,dJ,mF,mG,Option.bind_some,Nat.beq_refl,decide_true]
  ·simp only [gU,e1,Nat.zero_add,h0,Zh,Int.toNat_natCast,Ry,ID,Bool.and_self,cond_true,cond_false,← List.map_append,List.length_map,List.length_append,List.length_singleton,q2,w1,dI,dJ,mF,mG,Option.bind_some,Nat.beq_refl,decide_true]) (by
  have e1:decide (((3:Nat):Int) < 3)=false:=rfl;simp only [gU,e1,cond_false,List.length_map,Nat.beq_refl,dI,dJ,mF,mG,Bool.and_self,cond_true,Option.bind_some]) N 0 (Nat.zero_le _) (by unfold ey at hN; omega)
 exact key
end
end Go.Proofs.Ytegoimldbgdeiaa
