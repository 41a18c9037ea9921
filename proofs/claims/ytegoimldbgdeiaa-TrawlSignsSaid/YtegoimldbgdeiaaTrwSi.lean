/- The reference's signs,and both checks of a way that turns. -/
import Derived.Test.YtegoimldbgdeiaaTrwSh
set_option linter.all false
namespace Go.Proofs.Ytegoimldbgdeiaa
open Go Go.Am
open List (map)
open Int (toNat)
open Go.IntKind (wrap)
open Go.Am.aM (fits)
set_option maxRecDepth 100000
def pI (t:cu) (w:List Int):Bool:=w.any fun i=>decide (i < 0) || decide (i≥(t.2.length:Int))
def Kq (t:cu) (w:Int × List Int):Int:=if b8 t w.2 (w.1,false)=some (w.1,true) then 0 else 21
def B6 (t:cu) (w:Int × List Int):Int:=if w.2.length > 256 then 5 else if w.1 < 0∨w.1≥(t.1.length:Int) then 10 else if pI t w.2=true then 10 else Kq t w
def WH (t:cu) (s:Int × Bool) (i:Int):(Int × Bool) ⊕ Unit:=match cO (av t i.toNat) s with | some y=>.inl y | none=>.inr ()
theorem Nf (t:cu):∀ (w:List Int) (s:Int × Bool),foldI (WH t) s w=match b8 t w s with | some y=>.inl y | none=>.inr ()
 |[],s=>rfl
 |i :: w,s=>by
  rw [foldI];unfold WH;show _=(match (cO (av t i.toNat) s).bind (b8 t w) with | some y=>.inl y | none=>.inr ():(Int × Bool) ⊕ Unit);cases cO (av t i.toNat) s with
  |none=>rfl
  |some y=>exact Nf t w y
theorem WI:∀ l:List Int,bk (map n3 l) (map n3 l)=true
 |[]=>rfl
 |x :: l=>by
  show (dv (n3 x) (n3 x)&&bk (map n3 l) (map n3 l))=true;rw [WI l,Bool.and_true];show ((IntKind.i64 == IntKind.i64)&&x == x)=true;simp
theorem IH {t:cu} {w:List Int} (h:pI t w=false):∀ i∈w,∃ k:Nat,i=k∧k < t.2.length:=by
 intro i hi;unfold pI at h;rw [List.any_eq_false] at h;have:=h i hi;simp at this;exact ⟨i.toNat,by omega,by omega⟩
section
variable {N:Nat} (hN:ey N)
include hN
theorem Qp (t:cu) (hS:uz t) (hP:t.1.length≤900) (hT:t.2.length≤100000) (R:List Int) (hR:R=iQ t (px (IF (e7 t t.2.length)) t.1.length t.1.length) t.1.length) :
  (Ru N t=some (R,true)∧∀ i,i < t.2.length→gz R (av t i)=true)∨(Ru N t=some ([],false)∧∃ i,i < t.2.length∧gz R (av t i)=false):=by
 have WG:(IF (e7 t t.2.length)).length=t.1.length:=by
  have:=(Hn (e7 t t.2.length) ([],[])).2;rw [my] at this;unfold IF; rw [this]; simp
 have k0:=Ho hN t hS hP hT;have k1:=Qo hN t (by omega) _ WG;have k2:=Hp hN t hS (by omega) hT _ (Ae (IF (e7 t t.2.length)) t.1.length);rw [← hR] at k2;have hsR:Fi t.1.length R:=by rw [hR]; exact (jU hS (Ae _ _) t.1.length).1
 have lR:=hsR.len;have key:=pt (rd:=uC N t) t.2 (fun s=>!gz R s) (fun k=>((k:Int),R)) (fun _=>.inl ((),false,R)) (.inr R) (fun i hi=>by
  obtain ⟨A,B,hA,om,hB,ow⟩:=hS i hi;rw [fC t hi] at hA hB;obtain ⟨a1,a2⟩:=ur t.2 hi;have a1:d113 (ab (map n113 t.2) i)=((A:Int),t.2[i].2.1,(B:Int),t.2[i].2.2.2.1,t.2[i].2.2.2.2):=by rw [a1,← hA,← hB]
  obtain ⟨A1,A2⟩:=g3 R (k:=A) (by omega);obtain ⟨B1,B2⟩:=g3 R (k:=B) (by omega);have rA:decide ((0:Int)≤(A:Int)∧(A:Int) < (t.1.length:Int))=true:=ah om;have rB:decide ((0:Int)≤(B:Int)∧(B:Int) < (t.1.length:Int))=true:=ah ow;have dA:decide (A < t.1.length)=true:=decide_eq_true om;have dB:decide (B < t.1.length)=true:=decide_eq_true ow;have w:wrap .i64 ((i:Int)+1)=((i+1:Nat):Int):=aR (by omega);have hc:(!gz R t.2[i])=((gI R (A:Int) == gI R (B:Int)) == t.2[i].2.2.2.2):=by
   unfold gz; rw [hA,hB];unfold bne;cases (gI R (A:Int) == gI R (B:Int)) <;> cases t.2[i].2.2.2.2 <;> rfl
  show _=some (if (!gz R t.2[i])=true then _ else _);rw [hc];cases hz:((gI R (A:Int) == gI R (B:Int)) == t.2[i].2.2.2.2) <;> simp only [uC,List.length_map,Int.toNat_natCast,ap hi,ah hi,a1,a2,rA,rB,dA,dB,A1,A2,B1,B2,lR,hz,Nat.zero_add,cond_true,cond_false,Bool.and_self,decide_true,dI,dJ,Option.bind_some,w,if_true,if_false,Bool.false_eq_true]) (by
  simp only [uC,List.length_map,aJ,cond_false,cond_true,Bool.and_self,dI,dJ,Option.bind_some]) N (by unfold ey at hN; omega)
 have c3:decide ((0:Int)≤(t.1.length:Int)∧(t.1.length:Int)≤(t.1.length:Int)∧(t.1.length:Int)≤140737488355328∧(t.1.length:Int) * 8≤140737488355328)=true:=decide_eq_true (by omega);have f0:allFit (fits p3) ([]:List AV)=true:=rfl;have m0:map d3 ([]:List AV)=[]:=rfl;have k1:ar (rv N t (IF (e7 t t.2.length))) N (0,List.replicate t.1.length 0)=_:=k1;have key:ar (uC N t) N (0,R)=_:=key;have e:Ru N t=some (match t.2.findIdx? (fun s=>!gz R s) with | some _=>([],false) | none=>(R,true)):=by
  rw [VR];simp only [J2,EP,J3,EQ,Bool.and_self,cond_true,Option.bind_some,k0,List.length_map,c3,Int.toNat_natCast,Zj,dI,dJ,k1,k2,key];cases t.2.findIdx? (fun s=>!gz R s) with
  |none=>simp only [Sum.elim_inr,lR,decide_true,Ws,Bool.and_self,cond_true,dI,dJ]
  |some i=>simp only [Sum.elim_inl,f0,m0,Bool.and_self,cond_true]
 rw [e];cases hf:t.2.findIdx? (fun s=>!gz R s) with
 |none=>
  rw [List.findIdx?_eq_none_iff] at hf;refine .inl ⟨rfl,fun i hi=>?_⟩;have:=hf _ (List.getElem_mem hi);rw [fC t hi]; simpa using this
 |some i=>
  rw [List.findIdx?_eq_some_iff_getElem] at hf;obtain ⟨hi,h1,_⟩:=hf;exact .inr ⟨rfl,i,hi,by rw [fC t hi]; simpa using h1⟩
theorem Ng (t:cu) (w:Int × List Int) (hw:w.2.length≤1000000) (ho:pI t w.2=false):VH N (t,w)=some (decide (b8 t w.2 (w.1,false)=some (w.1,true))):=by
 obtain ⟨p,w⟩:=w;have ho:pI t w=false:=ho;have hw:w.length≤1000000:=hw;have key:=fQ (rd:=qH N t (p,w)) w (fun (s:Int × Bool) k=>(s.1,s.2,(k:Int))) (WH t) (fun s=>.inr s) (fun _=>.inl false) (fun _ _=>True) (fun s k hk _=>⟨by
  obtain ⟨k1,k2⟩:=EG w hk;obtain ⟨i,hi,KI⟩:=IH ho _ (List.getElem_mem hk);rw [hi] at k1;obtain ⟨a1,a2⟩:=ur t.2 KI;have wr:wrap .i64 ((k:Int)+1)=((k+1:Nat):Int):=aR (by omega);have bs:∀ z:Int,(z == z)=true:=fun z=>beq_self_eq_true z
  have bb:∀ z:Bool,(z == z)=true:=fun z=>beq_self_eq_true z
  rw [hi];unfold WH cO;rw [Int.toNat_natCast,fC t KI];obtain ⟨at_,f⟩:=s;by_cases h1:t.2[i].1=at_
  ·rw [if_pos h1];have e1:(at_ == t.2[i].1)=true:=by rw [h1]; exact beq_self_eq_true _
   simp only [qH,List.length_map,Int.toNat_natCast,ap hk,ah hk,k1,k2,ah KI,a1,a2,bs,bb,WI,ET,e1,Bool.and_self,Bool.and_true,cond_true,Option.bind_some,Sum.elim_inl,Sum.elim_inr,wr,Sum.map_inl];rfl
  ·have e1:(at_ == t.2[i].1)=false:=by simpa using (fun e=>h1 e.symm)
   by_cases h2:t.2[i].2.2.1=at_
   ·rw [if_neg h1,if_pos h2];have e2:(at_ == t.2[i].2.2.1)=true:=by rw [h2]; exact beq_self_eq_true _
    simp only [qH,List.length_map,Int.toNat_natCast,ap hk,ah hk,k1,k2,ah KI,a1,a2,bs,bb,WI,ET,e1,e2,Bool.and_self,Bool.and_true,cond_true,cond_false,Option.bind_some,Sum.elim_inl,Sum.elim_inr,wr,Sum.map_inl];rfl
   ·rw [if_neg h1,if_neg h2];have e2:(at_ == t.2[i].2.2.1)=false:=by simpa using (fun e=>h2 e.symm)
    simp only [qH,List.length_map,Int.toNat_natCast,ap hk,ah hk,k1,k2,ah KI,a1,a2,bs,bb,WI,ET,e1,e2,Bool.and_self,Bool.and_true,cond_true,cond_false,Option.bind_some,Sum.elim_inl,Sum.elim_inr,wr,Sum.map_inr],fun _ _=>trivial⟩) (fun s _=>by
  simp only [qH,List.length_map,aJ,cond_false]) N (p,false) 0 (Nat.zero_le _) (by unfold ey at hN; omega) trivial
 rw [List.drop_zero,Nf] at key;have key:ar (qH N t (p,w)) N (p,false,0)=_:=key;rw [show VH N (t,(p,w))=VH N ((t.1,t.2),(p,w)) from rfl,VJ];have key:ar (qH N (t.1,t.2) (p,w)) N (p,false,0)=_:=key;simp only [key];show _=some (decide (b8 t w (p,false)=some (p,true)));cases hx:b8 t w (p,false) with
 |none=>rfl
 |some y=>
  obtain ⟨q,f⟩:=y;simp only [Option.bind_some,Sum.elim_inl,Sum.elim_inr];by_cases hq:q=p
  ·subst hq;cases f <;> simp
  ·have:(q == p)=false:=by simpa using hq
   simp [this,hq]
theorem II (t:cu) (w:Int × List Int):VK N (t,w)=some (B6 t w):=by
 obtain ⟨p,w⟩:=w;rw [show VK N (t,(p,w))=VK N ((t.1,t.2),(p,w)) from rfl,VM];unfold B6;show _=some (if w.length > 256 then 5 else if p < 0∨p≥(t.1.length:Int) then 10 else if pI t w=true then 10 else Kq t (p,w));by_cases h1:w.length > 256
 ·rw [if_pos h1];have e1:decide ((w.length:Int) > 256)=true:=decide_eq_true (by omega);simp only [List.length_map,e1,cond_true]
 ·have e1:decide ((w.length:Int) > 256)=false:=decide_eq_false (by omega);rw [if_neg h1];have key:=pt (rd:=rr N (t.1,t.2) (p,w)) w (fun i=>decide (i < 0) || decide (i≥(t.2.length:Int))) (fun k=>(k:Int)) (fun _=>.inl 10) (.inr ()) (fun k hk=>by
   obtain ⟨k1,k2⟩:=EG w hk;have wr:wrap .i64 ((k:Int)+1)=((k+1:Nat):Int):=aR (by omega);cases c1:decide (w[k] < 0) with
   |true=>simp only [rr,List.length_map,Int.toNat_natCast,ap hk,ah hk,k1,k2,c1,Bool.and_self,cond_true,Option.bind_some,Bool.true_or,if_true]
   |false=>
    cases c2:decide (w[k]≥(t.2.length:Int)) <;> simp only [rr,List.length_map,Int.toNat_natCast,ap hk,ah hk,k1,k2,c1,c2,Bool.and_self,cond_true,cond_false,Option.bind_some,Bool.false_or,if_true,if_false,Bool.false_eq_true,wr]) (by
   simp only [rr,List.length_map,aJ,cond_false]) N (by unfold ey at hN; omega)
  have key:ar (rr N (t.1,t.2) (p,w)) N 0=_:=key;have hb:((bif decide (p < 0) then some true else some (decide (p≥(t.1.length:Int)))):Option Bool)=some (decide (p < 0∨p≥(t.1.length:Int))):=by
   by_cases c:p < 0
   ·simp [c]
   ·simp [c]
  simp only [List.length_map,e1,cond_false,hb,Option.bind_some];by_cases h2:p < 0∨p≥(t.1.length:Int)
  ·rw [if_pos h2]; simp only [decide_eq_true h2,cond_true]
  ·rw [if_neg h2];simp only [decide_eq_false h2,cond_false,key,Option.bind_some];cases hf:w.findIdx? (fun i=>decide (i < 0) || decide (i≥(t.2.length:Int))) with
   |some i=>
    rw [List.findIdx?_eq_some_iff_getElem] at hf;obtain ⟨hi,h3,_⟩:=hf;have:pI t w=true:=by unfold pI; rw [List.any_eq_true]; exact ⟨_,List.getElem_mem hi,h3⟩
    rw [if_pos this]; rfl
   |none=>
    rw [List.findIdx?_eq_none_iff] at hf;have ho:pI t w=false:=by unfold pI; rw [List.any_eq_false]; intro x hx; rw [hf x hx]; simp
    rw [if_neg (by rw [ho]; simp)];have k3:=Ng hN t (p,w) (by show w.length≤1000000; omega) ho;have k3:VH N ((t.1,t.2),(p,w))=some (decide (b8 t w (p,false)=some (p,true))):=k3;simp only [Sum.elim_inr,J2,EP,dI,J3,EQ,dJ,Bool.and_self,cond_true,Option.bind_some,k3];unfold Kq;by_cases hd:b8 t w (p,false)=some (p,true)
    ·rw [if_pos hd]; simp [hd]
    ·rw [if_neg hd]; simp [hd]
end
end Go.Proofs.Ytegoimldbgdeiaa
