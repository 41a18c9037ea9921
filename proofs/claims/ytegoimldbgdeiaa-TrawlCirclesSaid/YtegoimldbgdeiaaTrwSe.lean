/- What the program's signs are,and its way that turns: T64. -/
import Derived.Test.YtegoimldbgdeiaaTrwSc
set_option linter.all false
open Bool renaming and_self→aal
open Int renaming toNat_natCast→aau
open List renaming length_map→aat, getD_eq_getElem?_getD→aav, getElem?_eq_getElem→aax, length_singleton→aay, length_append→aaA, ext_getElem→aaK, map_append→aaP
open Nat renaming zero_add→aas, beq_refl→aaM
open Option renaming bind_some→aae
namespace Go.Proofs.Ytegoimldbgdeiaa
open Go Go.Am
open List (map)
open Int (toNat)
open Go.IntKind (wrap)
open Go.Am.aL (fits)
set_option maxRecDepth 100000
theorem acm:∀ l:List (List Int),aN (map n8 l)=true
 |[]=>rfl
 |x :: l=>by
  show ((n8 x).closed&&aN (map n8 l))=true;rw [acm l,Bool.and_true];rfl
def yR (l:List Int) (k:Nat):List Int:=(List.range l.length).map fun m=>if m < k∨l.length≤m+k then l.getD (l.length - 1 - m) 0 else l.getD m 0
theorem iC (l:List Int) (k:Nat):(yR l k).length=l.length:=by simp [yR]
theorem vw (l:List Int) (k:Nat) {m:Nat} (hm:m < l.length):gI (yR l k) (m:Int)=if m < k∨l.length≤m+k then l.getD (l.length - 1 - m) 0 else l.getD m 0:=by
 rw [Gm _ (by rw [iC]; exact hm)];simp [yR]
theorem P7 (l:List Int):yR l 0=l:=by
 apply aaK
 ·exact iC l 0
 ·intro m h1 h2;have:=vw l 0 h2;rw [Gm _ (by rw [iC]; exact h2),if_neg (by omega)] at this;rw [this,aav,aax h2]; rfl
theorem Tp (l:List Int):yR l (l.length / 2)=l.reverse:=by
 apply aaK
 ·rw [iC,List.length_reverse]
 ·intro m h1 h2;have hm:m < l.length:=by rw [iC] at h1; exact h1
  have:=vw l (l.length / 2) hm;rw [Gm _ h1] at this;rw [this,List.getElem_reverse];by_cases c:m < l.length / 2∨l.length≤m+l.length / 2
  ·rw [if_pos c,aav,aax (by omega)]; rfl
  ·rw [if_neg c,aav,aax hm];have:l.length - 1 - m=m:=by omega
   simp only [this]; rfl
theorem P8 (l:List Int) (k:Nat) (hk:k < l.length / 2):((yR l k).set k (gI (yR l k) ((l.length - 1 - k:Nat):Int))).set (l.length - 1 - k) (gI (yR l k) (k:Int))=yR l (k+1):=by
 apply aaK
 ·simp [iC]
 ·intro m h1 h2;have hm:m < l.length:=by rw [iC] at h2; exact h2
  have e:=vw l (k+1) hm;rw [Gm _ h2] at e;have g1:=vw l k (m:=l.length - 1 - k) (by omega);have g2:=vw l k (m:=k) (by omega);have g3:=vw l k hm;rw [Gm _ (by rw [iC]; exact hm)] at g3;rw [if_neg (by omega)] at g1 g2;simp only [e,List.getElem_set,g1,g2,g3];by_cases c1:l.length - 1 - k=m
  ·rw [if_pos c1,if_pos (by omega)]; congr 1; omega
  ·rw [if_neg c1];by_cases c2:k=m
   ·rw [if_pos c2,if_pos (by omega),c2]
   ·rw [if_neg c2];by_cases c3:m < k∨l.length≤m+k
    ·rw [if_pos c3,if_pos (by omega)]
    ·rw [if_neg c3,if_neg (by omega)]
section
variable {N:Nat} (hN:eZ N)
include hN
theorem WO (t:aZ) (cJ:Int × List Int × List (List Int) × List Int × List (List Int) × List Int) (l:List Int) (hl:l.length≤1000)
  (h0:d77 (ae (map n8 cJ.2.2.2.2.1) (0+toNat (d110 (ae (map n110 t.2) (toNat cJ.1))).2.2.1))=l) (sg:List Int) (pa:List (List Int)) (st:List Int) :
  aw (rL N t cJ) N (0,wrap .i64 ((l.length:Int) - 1),sg,pa,st,l)=some (sg,pa,st,l.reverse):=by
 rw [aas] at h0;have key:=aV (rd:=rL N t cJ) (l.length / 2) (fun k=>((k:Int),(l.length:Int) - 1 - (k:Int),sg,pa,st,yR l k)) (sg,pa,st,l.reverse) (fun k hk=>by
  have e1:decide ((k:Int) < (l.length:Int) - 1 - (k:Int))=true:=decide_eq_true (by omega);have hj:(l.length:Int) - 1 - (k:Int)=((l.length - 1 - k:Nat):Int):=by omega
  have w1:wrap .i64 ((k:Int)+1)=((k+1:Nat):Int):=bc (by omega);have w2:wrap .i64 (((l.length - 1 - k:Nat):Int) - 1)=(l.length:Int) - 1 - ((k+1:Nat):Int):=by rw [wR (by omega)]; omega
  have r1:decide ((0:Int)≤((l.length - 1 - k:Nat):Int)∧((l.length - 1 - k:Nat):Int) < (l.length:Int))=true:=ai (by omega);have r2:decide ((0:Int)≤(k:Int)∧(k:Int) < (l.length:Int))=true:=ai (by omega);have d1:decide (l.length - 1 - k < l.length)=true:=decide_eq_true (by omega);have d2:decide (k < l.length)=true:=decide_eq_true (by omega);obtain ⟨a1,a2⟩:=g3 (yR l k) (k:=l.length - 1 - k) (by rw [iC]; omega);obtain ⟨b1,b2⟩:=g3 (yR l k) (k:=k) (by rw [iC]; omega);have hsl:∀ v,((yR l k).set k v).length=l.length:=fun v=>by rw [List.length_set,iC]
  have e1':decide ((k:Int) < ((l.length - 1 - k:Nat):Int))=true:=by rw [← hj]; exact e1
  simp only [rL,mf,aat,h0,hj,e1',r1,r2,d1,d2,iC,aau,aas,a1,a2,b1,b2,ack,hsl,gw,gy,jD,jE,aal,decide_true,cond_true,aae,w1,w2,P8 l k hk]) (by
  have e1:decide (((l.length / 2:Nat):Int) < (l.length:Int) - 1 - ((l.length / 2:Nat):Int))=false:=decide_eq_false (by omega);simp only [rL,mf,e1,cond_false,gw,gy,jD,jE,aal,cond_true,aae,Tp]) N 0 (Nat.zero_le _) (by unfold eZ at hN; omega)
 simp only [P7] at key;rw [wR (by omega)];rw [show ((l.length:Int) - 1)=(l.length:Int) - 1 - ((0:Nat):Int) by omega];exact key
omit hN in
theorem Yu (x y z:AV):ae [x,y,z] 0=x:=rfl
omit hN in
theorem Yv (x y z:AV):ae [x,y,z] 1=y:=rfl
omit hN in
theorem Yw (x y z:AV):ae [x,y,z] 2=z:=rfl
omit hN in
theorem af0 (x y z:AV):decide ((0:Int)≤((0:Nat):Int)∧((0:Nat):Int) < (([x,y,z].length:Nat):Int))=true:=rfl
omit hN in
theorem af1 (x y z:AV):decide ((0:Int)≤((1:Nat):Int)∧((1:Nat):Int) < (([x,y,z].length:Nat):Int))=true:=rfl
omit hN in
theorem af2 (x y z:AV):decide ((0:Int)≤((2:Nat):Int)∧((2:Nat):Int) < (([x,y,z].length:Nat):Int))=true:=rfl
omit hN in
theorem Yx (i:Int):d77 (.list .full 1 [AV.int .i64 i])=[i]∧fits Bp (.list .full 1 [AV.int .i64 i])=true:=⟨rfl,rfl⟩
omit hN in
theorem Oe (a:List Int):d77 (.list .gZ 1 (map n3 a))=a∧fits Bp (.list .gZ 1 (map n3 a))=true:=⟨afX a,afW a⟩
theorem WQ (t:aZ) (cJ:Int × List Int × List (List Int) × List Int × List (List Int) × List Int) (jL:List Int × List (List Int) × List Int × List Int) (a:List Int) (ha:a.length≤1000) (hc:jL.2.2.2.length≤1000)
  (h0:d77 (ae (map n8 jL.2.1) (0+toNat (d110 (ae (map n110 t.2) (toNat cJ.1))).1))=a) (sg:List Int) (pa:List (List Int)) (st:List Int) :
  aw (kq N t cJ jL) N (0,0,sg,pa,st)=some ((a.length:Int)+1+(jL.2.2.2.length:Int),sg,pa,st):=by
 rw [aas] at h0;have key:=aV (rd:=kq N t cJ jL) 3 (fun k=>((match k with | 0=>0 | 1=>(a.length:Int) | 2=>(a.length:Int)+1 | _=>(a.length:Int)+1+(jL.2.2.2.length:Int):Int),(k:Int),sg,pa,st)) ((a.length:Int)+1+(jL.2.2.2.length:Int),sg,pa,st) (fun k hk=>by
  have w1:wrap .i64 ((k:Int)+1)=((k+1:Nat):Int):=bc (by omega);have e1:decide ((k:Int) < 3)=true:=decide_eq_true (by omega);have q0:wrap .i64 (0+(a.length:Int))=(a.length:Int):=by rw [wR (by omega)]; omega
  have q1:wrap .i64 ((a.length:Int)+((1:Nat):Int))=(a.length:Int)+1:=by rw [wR (by omega)]; omega
  have q2:wrap .i64 ((a.length:Int)+1+(jL.2.2.2.length:Int))=(a.length:Int)+1+(jL.2.2.2.length:Int):=by rw [wR (by omega)]
  have z0:decide ((a.length:Int) < 0)=false:=decide_eq_false (by omega);have z1:decide ((a.length:Int)+1 < 0)=false:=decide_eq_false (by omega);have z2:decide ((a.length:Int)+1+(jL.2.2.2.length:Int) < 0)=false:=decide_eq_false (by omega);have hk3:k=0∨k=1∨k=2:=by omega
  rcases hk3 with rfl|rfl|rfl
  ·simp only [kq,jr,e1,aas,h0,af0,aau,Yu,Oe,aal,cond_true,cond_false,aat,q0,z0,w1,gw,gy,jD,jE,aae]
  ·simp only [kq,jr,e1,aas,h0,af1,aau,Yv,Yx,aal,cond_true,cond_false,aat,aay,q1,z1,w1,gw,gy,jD,jE,aae]
  ·simp only [kq,jr,e1,aas,h0,af2,aau,Yw,Oe,aal,cond_true,cond_false,aat,q2,z2,w1,gw,gy,jD,jE,aae]) (by
  have e1:decide (((3:Nat):Int) < 3)=false:=rfl;simp only [kq,jr,e1,cond_false,gw,gy,jD,jE,aal,cond_true,aae]) N 0 (Nat.zero_le _) (by unfold eZ at hN; omega)
 exact key
theorem WR (t:aZ) (cJ:Int × List Int × List (List Int) × List Int × List (List Int) × List Int) (jL:List Int × List (List Int) × List Int × List Int) (a:List Int) (ha:a.length≤1000) (hc:jL.2.2.2.length≤1000)
  (h0:d77 (ae (map n8 jL.2.1) (0+toNat (d110 (ae (map n110 t.2) (toNat cJ.1))).1))=a) (sg:List Int) (pa:List (List Int)) (st:List Int) :
  aw (js N t cJ jL) N ((),0,sg,pa,st,[])=some ((),sg,pa,st,a++[cJ.1]++jL.2.2.2):=by
 rw [aas] at h0;have key:=aV (rd:=js N t cJ jL) 3 (fun k=>((),(k:Int),sg,pa,st,(match k with | 0=>[] | 1=>a | 2=>a++[cJ.1] | _=>a++[cJ.1]++jL.2.2.2:List Int))) ((),sg,pa,st,a++[cJ.1]++jL.2.2.2) (fun k hk=>by
  have w1:wrap .i64 ((k:Int)+1)=((k+1:Nat):Int):=bc (by omega);have e1:decide ((k:Int) < 3)=true:=decide_eq_true (by omega);have q0:decide (a.length * 8≤140737488355328)=true:=decide_eq_true (by omega);have q1:decide ((a.length+1) * 8≤140737488355328)=true:=decide_eq_true (by omega);have q2:decide ((a.length+1+jL.2.2.2.length) * 8≤140737488355328)=true:=decide_eq_true (by omega);have q3:([]:List Int).length+a.length=a.length:=by simp
  have hk3:k=0∨k=1∨k=2:=by omega
  rcases hk3 with rfl|rfl|rfl
  ·simp only [js,dL,e1,aas,h0,af0,aau,Yu,Oe,aal,cond_true,cond_false,← aaP,List.nil_append,aat,aaA,q0,q3,w1,gw,gy,jD,jE,aae,aaM,decide_true]
  ·simp only [js,dL,e1,aas,h0,af1,aau,Yv,Yx,aal,cond_true,cond_false,← aaP,aat,aaA,aay,q1,w1,gw,gy,jD,jE,aae,aaM,decide_true]
  ·simp only [js,dL,e1,aas,h0,af2,aau,Yw,Oe,aal,cond_true,cond_false,← aaP,aat,aaA,aay,q2,w1,gw,gy,jD,jE,aae,aaM,decide_true]) (by
  have e1:decide (((3:Nat):Int) < 3)=false:=rfl;simp only [js,dL,e1,cond_false,aat,aaM,gw,gy,jD,jE,aal,cond_true,aae]) N 0 (Nat.zero_le _) (by unfold eZ at hN; omega)
 exact key
end
end Go.Proofs.Ytegoimldbgdeiaa
