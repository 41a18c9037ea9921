/- The reference's pieces,and its signs. -/
import Derived.Test.YtegoimldbgdeiaaTrwSf
import Derived.Test.YtegoimldbgdeiaaTrwSd
set_option linter.all false
namespace Go.Proofs.Ytegoimldbgdeiaa
open Go Go.Am
open List (map)
open Int (toNat)
open Go.IntKind (wrap)
open Go.Am.aM (fits)
set_option maxRecDepth 100000
def vy (f:Int→Int) (l:List Int) (k:Nat):List Int:=(l.take k).map f++l.drop k
theorem qI (f:Int→Int) (l:List Int) (k:Nat) (hk:k≤l.length):(vy f l k).length=l.length:=by simp [vy]; omega
theorem IE (f:Int→Int) (l:List Int) (k:Nat) (hk:k < l.length):gI (vy f l k) (k:Int)=gI l (k:Int):=by
 rw [jw _ (by rw [qI _ _ _ (by omega)]; exact hk),jw _ hk];unfold vy;rw [List.getElem_append_right (by simp; omega)];simp [show min k l.length=k by omega]
theorem E2 (f:Int→Int) (l:List Int) (k:Nat) (hk:k < l.length):(vy f l k).set k (f (gI l (k:Int)))=vy f l (k+1):=by
 rw [jw _ hk];unfold vy;rw [List.set_append_right _ _ (by simp; omega),List.take_succ_eq_append_getElem hk,List.map_append,List.append_assoc,List.length_map,List.length_take,show k - min k l.length=0 by omega,List.drop_eq_getElem_cons hk];rfl
theorem Km (f:Int→Int) (l:List Int) (k:Nat) (hk:k < l.length) (h:f (gI l (k:Int))=gI l (k:Int)):vy f l k=vy f l (k+1):=by
 rw [← E2 f l k hk,h,← IE f l k hk];rw [jw _ (by rw [qI _ _ _ (by omega)]; exact hk),List.set_getElem_self]
theorem Nb (f:Int→Int) (l:List Int):vy f l l.length=l.map f:=by simp [vy]
def Ac (l:List Int) (a b:Int):List Int:=l.map fun x=>if x=a then b else x
def e7 (t:cu):Nat→List Int
 |0=>bC t.1.length
 |k+1=>Ac (e7 t k) (gI (e7 t k) (av t k).1) (gI (e7 t k) (av t k).2.2.1)
theorem my (t:cu):∀ k,(e7 t k).length=t.1.length
 |0=>gS _
 |k+1=>by show (map _ _).length=_; rw [List.length_map]; exact my t k
def sP (s:List Int × List Int) (x:Int):List Int × List Int:=(if s.1.idxOf x=s.1.length then s.1++[x] else s.1,s.2++[(s.1.idxOf x:Int)])
def IF (l:List Int):List Int:=(l.foldl sP ([],[])).2
section
variable {N:Nat} (hN:ey N)
include hN
theorem Qm (t:cu) (l:List Int) (hl:l.length≤1000) (i A B:Nat) (hA:A < l.length) (hB:B < l.length) (hi:i < t.2.length) (FC:(av t i).1=A) (I1:(av t i).2.2.1=B) :
  ar (ib N t ((),(i:Int),(),l)) N (0,(),l)=some ((),Ac l (gI l A) (gI l B)):=by
 obtain ⟨a1,a2⟩:=ur t.2 hi;have a1:d113 (ab (map n113 t.2) i)=((A:Int),t.2[i].2.1,(B:Int),t.2[i].2.2.2.1,t.2[i].2.2.2.2):=by
  rw [a1]; rw [fC t hi] at FC I1; rw [← FC,← I1]
 obtain ⟨gA,_⟩:=g3 l hA;obtain ⟨gB,_⟩:=g3 l hB;have key:=aU (rd:=ib N t ((),(i:Int),(),l)) l.length (fun k=>((k:Int),(),vy (fun x=>if x=gI l A then gI l B else x) l k)) ((),Ac l (gI l A) (gI l B)) (fun k hk=>by
  have ml:=qI (fun x=>if x=gI l A then gI l B else x) l k (by omega);obtain ⟨m1,m2⟩:=g3 (vy (fun x=>if x=gI l A then gI l B else x) l k) (k:=k) (by omega);rw [IE _ l k hk] at m1;have w:wrap .i64 ((k:Int)+1)=((k+1:Nat):Int):=aR (by omega);have dk:decide (k < l.length)=true:=decide_eq_true hk;cases hc:(gI l (k:Int) == gI l (A:Int)) with
  |true=>
   have he:gI l (k:Int)=gI l (A:Int):=by simpa using hc
   have pF:=E2 (fun x=>if x=gI l A then gI l B else x) l k hk;simp only [he,if_true] at pF;have ml2:=qI (fun x=>if x=gI l A then gI l B else x) l (k+1) (by omega);simp only [ib,List.length_map,ml,ml2,Int.toNat_natCast,a1,ap hk,ah hk,Nat.zero_add,dk,m1,m2,gA,gB,hc,cond_true,Kg,pF,dI,dJ,Bool.and_self,decide_true,Nat.beq_refl,Option.bind_some,w]
  |false=>
   have he:¬ gI l (k:Int)=gI l (A:Int):=by simpa using hc
   have Zl:=Km (fun x=>if x=gI l A then gI l B else x) l k hk (by simp only [if_neg he]);simp only [ib,List.length_map,ml,Int.toNat_natCast,a1,ap hk,ah hk,Nat.zero_add,dk,m1,m2,gA,gB,hc,cond_true,cond_false,dI,dJ,Bool.and_self,decide_true,Nat.beq_refl,Option.bind_some,w,← Zl]) (by
  have ml:=qI (fun x=>if x=gI l A then gI l B else x) l l.length (Nat.le_refl _);simp only [ib,List.length_map,ml,aJ,cond_false,dI,dJ,Bool.and_self,decide_true,cond_true,Nat.beq_refl,Option.bind_some,Nb];rfl) N 0 (Nat.zero_le _) (by unfold ey at hN; omega)
 exact key
theorem Kn (t:cu) (hS:uz t) (hP:t.1.length≤1000) (hT:t.2.length≤100000):ar (ru N t) N ((),0,(),e7 t 0)=some ((),(),e7 t t.2.length):=by
 have key:=aU (rd:=ru N t) t.2.length (fun k=>((),(k:Int),(),e7 t k)) ((),(),e7 t t.2.length) (fun k hk=>by
  obtain ⟨A,B,hA,om,hB,ow⟩:=hS k hk;have ln:=my t k;obtain ⟨a1,a2⟩:=ur t.2 hk;have a1:d113 (ab (map n113 t.2) k)=((A:Int),t.2[k].2.1,(B:Int),t.2[k].2.2.2.1,t.2[k].2.2.2.2):=by
   rw [a1]; rw [fC t hk] at hA hB; rw [← hA,← hB]
  obtain ⟨gA1,gA2⟩:=g3 (e7 t k) (k:=A) (by omega);obtain ⟨gB1,gB2⟩:=g3 (e7 t k) (k:=B) (by omega);have rA:decide ((0:Int)≤(A:Int)∧(A:Int) < (t.1.length:Int))=true:=ah om;have rB:decide ((0:Int)≤(B:Int)∧(B:Int) < (t.1.length:Int))=true:=ah ow;have dA:decide (A < t.1.length)=true:=decide_eq_true om;have dB:decide (B < t.1.length)=true:=decide_eq_true ow;have k1:=Qm hN t (e7 t k) (by omega) k A B (by omega) (by omega) hk hA hB;have w:wrap .i64 ((k:Int)+1)=((k+1:Nat):Int):=aR (by omega);have fin:e7 t (k+1)=Ac (e7 t k) (gI (e7 t k) A) (gI (e7 t k) B):=by show Ac _ _ _=_; rw [hA,hB]
  simp only [fin];simp only [ru,List.length_map,ln,Int.toNat_natCast,ap hk,ah hk,a1,a2,rA,rB,dA,dB,gA2,gB2,Nat.zero_add,Bool.and_self,decide_true,cond_true,Nat.beq_refl,dI,dJ,Option.bind_some,k1,w]) (by
  simp only [ru,List.length_map,aJ,cond_false,Nat.beq_refl,dI,dJ,Bool.and_self,cond_true,Option.bind_some]) N 0 (Nat.zero_le _) (by unfold ey at hN; omega)
 exact key
theorem Nc (l:List Int) (j:Nat) (hj:j < l.length) (hl:l.length≤1000) (u:List Int × List Int × Int × Unit × List Int) (hu:u.2.2.1=(j:Int)) (seen out:List Int) (hs:seen.length≤1000) (ho:out.length≤1000) :
  ar (eO N u) N (seen,out,0,(),l)=some (seen,out,((seen.idxOf (gI l j):Nat):Int),(),l):=by
 have hle:seen.idxOf (gI l j)≤seen.length:=List.idxOf_le_length;have dj:decide (j < l.length)=true:=decide_eq_true hj;obtain ⟨j1,j2⟩:=g3 l hj;have rj:decide ((0:Int)≤(j:Int)∧(j:Int) < (l.length:Int))=true:=ah hj;have key:=aU (rd:=eO N u) (seen.idxOf (gI l j)) (fun k=>(seen,out,(k:Int),(),l)) (seen,out,((seen.idxOf (gI l j):Nat):Int),(),l) (fun k hk=>by
  have BQ:k < seen.length:=by omega
  obtain ⟨s1,s2⟩:=EG seen BQ;have cz:(seen[k] != gI l (j:Int))=true:=by
   have:=List.not_of_lt_findIdx (p:=(· == gI l (j:Int))) (show k < List.findIdx (· == gI l (j:Int)) seen from hk);simpa using this
  have w:wrap .i64 ((k:Int)+1)=((k+1:Nat):Int):=aR (by omega);simp only [eO,List.length_map,hu,ap BQ,ah BQ,Int.toNat_natCast,s1,s2,rj,dj,j1,j2,Nat.zero_add,cz,dI,dJ,Bool.and_self,decide_true,cond_true,Nat.beq_refl,Option.bind_some,w]) (by
  by_cases he:seen.idxOf (gI l j)=seen.length
  ·simp only [eO,List.length_map,he,aJ,cond_false,dI,dJ,Bool.and_self,decide_true,cond_true,Nat.beq_refl,Option.bind_some]
  ·have BQ:seen.idxOf (gI l j) < seen.length:=by omega
   obtain ⟨s1,s2⟩:=EG seen BQ;have cz:(seen[seen.idxOf (gI l (j:Int))] != gI l (j:Int))=false:=by rw [List.getElem_idxOf BQ]; simp
   simp only [eO,List.length_map,hu,ap BQ,ah BQ,Int.toNat_natCast,s1,s2,rj,dj,j1,j2,Nat.zero_add,cz,dI,dJ,Bool.and_self,decide_true,cond_true,cond_false,Nat.beq_refl,Option.bind_some]) N 0 (Nat.zero_le _) (by unfold ey at hN; omega)
 exact key
omit hN in
theorem Hn:∀ (l:List Int) (s:List Int × List Int),(l.foldl sP s).1.length≤s.1.length+l.length∧(l.foldl sP s).2.length=s.2.length+l.length
 |[],s=>⟨by simp,by simp⟩
 |x :: l,s=>by
  obtain ⟨h1,h2⟩:=Hn l (sP s x);have e1:(sP s x).1.length≤s.1.length+1:=by unfold sP; show (if _ then _ else _:List Int).length≤_; split <;> simp
  have e2:(sP s x).2.length=s.2.length+1:=by simp [sP]
  exact ⟨by rw [List.foldl_cons,List.length_cons]; omega,by rw [List.foldl_cons,List.length_cons]; omega⟩
omit hN in
theorem Ad (l:List Int) (k:Nat) (hk:k < l.length):(l.take (k+1)).foldl sP ([],[])=sP ((l.take k).foldl sP ([],[])) (gI l (k:Int)):=by
 rw [List.take_succ_eq_append_getElem hk,List.foldl_append,jw _ hk]; rfl
theorem Qn (l:List Int) (hl:l.length≤900):ar (eZ N) N ([],[],0,(),l)=some ((l.foldl sP ([],[])).1,IF l,(),l):=by
 have key:=aU (rd:=eZ N) l.length (fun k=>(((l.take k).foldl sP ([],[])).1,((l.take k).foldl sP ([],[])).2,(k:Int),(),l)) ((l.foldl sP ([],[])).1,IF l,(),l) (fun k hk=>by
  obtain ⟨n1,n2⟩:=Hn (l.take k) ([],[]);simp only [Ad l k hk];generalize (l.take k).foldl sP ([],[])=s at *;obtain ⟨seen,out⟩:=s;have n1:seen.length≤0+(l.take k).length:=n1;have n2:out.length=0+(l.take k).length:=n2;rw [List.length_take] at n1 n2;have k1:=Nc hN l k hk (by omega) (seen,out,(k:Int),(),l) rfl seen out (by omega) (by omega);have w:wrap .i64 ((k:Int)+1)=((k+1:Nat):Int):=aR (by omega);have dk:decide (k < l.length)=true:=decide_eq_true hk;obtain ⟨j1,j2⟩:=g3 l hk;have c1:decide ((seen.length+1) * 8≤140737488355328)=true:=decide_eq_true (by omega);have c2:decide ((out.length+1) * 8≤140737488355328)=true:=decide_eq_true (by omega);show eZ N (seen,out,(k:Int),(),l)=some (.inl ((sP (seen,out) (gI l (k:Int))).1,(sP (seen,out) (gI l (k:Int))).2,((k+1:Nat):Int),(),l));have e2:(sP (seen,out) (gI l (k:Int))).2=out++[((seen.idxOf (gI l (k:Int)):Nat):Int)]:=rfl;have e1:(sP (seen,out) (gI l (k:Int))).1=if seen.idxOf (gI l (k:Int))=seen.length then seen++[gI l (k:Int)] else seen:=rfl
  rw [e1,e2];cases hc:(((seen.idxOf (gI l (k:Int)):Nat):Int) == ((seen.length:Nat):Int)) with
  |true=>
   have he:seen.idxOf (gI l (k:Int))=seen.length:=by have:=beq_iff_eq.1 hc; omega
   rw [if_pos he];simp only [eZ,List.length_map,Int.toNat_natCast,ap hk,ah hk,dk,j1,j2,Nat.zero_add,k1,hc,BP,c1,c2,dI,dJ,Bool.and_self,decide_true,cond_true,Nat.beq_refl,Option.bind_some,w,List.length_append,List.length_singleton,Bool.and_true]
  |false=>
   have he:¬ seen.idxOf (gI l (k:Int))=seen.length:=fun e=>by rw [e] at hc; simp at hc
   rw [if_neg he];simp only [eZ,List.length_map,Int.toNat_natCast,ap hk,ah hk,dk,j1,j2,Nat.zero_add,k1,hc,BP,c1,c2,dI,dJ,Bool.and_self,decide_true,cond_true,cond_false,Nat.beq_refl,Option.bind_some,w,List.length_append,List.length_singleton,Bool.and_true]) (by
  rw [List.take_length];simp only [eZ,List.length_map,aJ,cond_false,dI,dJ,Bool.and_self,decide_true,cond_true,Nat.beq_refl,Option.bind_some];rfl) N 0 (Nat.zero_le _) (by unfold ey at hN; omega)
 exact key
theorem Ho (t:cu) (hS:uz t) (hP:t.1.length≤900) (hT:t.2.length≤100000):Z7 N t=some (IF (e7 t t.2.length)):=by
 have k0:=aU (rd:=Aa N t) t.1.length (fun k=>((k:Int),(),bC k)) ((),bC t.1.length) (fun k hk=>by
  have w:wrap .i64 ((k:Int)+1)=((k+1:Nat):Int):=aR (by omega);have c1:decide ((k+1) * 8≤140737488355328)=true:=decide_eq_true (by omega);simp only [Aa,List.length_map,ap hk,gS,c1,BP,dI,dJ,← wx,w,Bool.and_self,decide_true,cond_true,Nat.beq_refl,Option.bind_some]) (by
  simp only [Aa,List.length_map,aJ,cond_false,dI,dJ,Bool.and_self,decide_true,cond_true,Nat.beq_refl,Option.bind_some]) N 0 (Nat.zero_le _) (by unfold ey at hN; omega)
 have k0:ar (Aa N t) N (0,(),[])=some ((),bC t.1.length):=k0;have k1:=Kn hN t hS (by omega) hT;have k1:ar (ru N t) N ((),0,(),bC t.1.length)=some ((),(),e7 t t.2.length):=k1;have k2:=Qn hN (e7 t t.2.length) (by rw [my]; exact hP);have f0:allFit (fits p3) ([]:List AV)=true:=rfl;have m0:map d3 ([]:List AV)=[]:=rfl;have nb:Nat.beq 0 (([]:List AV)).length=true:=rfl;have z0:decide (0=([]:List Int).length)=true:=rfl;have o1:∀ l:List Int,(decide ((0:Int)≤0∧0 < ((([]:List AV)++[(AV.list .ea 1 (map n3 l))]).length:Int))&&fits uL (ab (([]:List AV)++[(AV.list .ea 1 (map n3 l))]) (toNat 0)))=true:=fun l=>by
  show (true&&fits uL (AV.list .ea 1 (map n3 l)))=true;rw [Bool.true_and]; exact Vz l
 have o2:∀ l:List Int,d77 (ab (([]:List AV)++[(AV.list .ea 1 (map n3 l))]) (toNat 0))=l:=fun l=>VA l
 rw [VO];simp only [f0,m0,nb,z0,List.length_map,Bool.and_self,Bool.and_true,cond_true,Option.bind_some,k0,dI,dJ,Nat.beq_refl,k1,k2,o1,o2]
end
end Go.Proofs.Ytegoimldbgdeiaa
