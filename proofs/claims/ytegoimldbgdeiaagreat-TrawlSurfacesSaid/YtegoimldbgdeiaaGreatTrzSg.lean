/- The reference's pieces,and its signs. -/
import Derived.Test.YtegoimldbgdeiaaGreatTrzSf
import Derived.Test.YtegoimldbgdeiaaGreatTrzSd
set_option linter.all false
open Bool renaming and_self→aah, and_true→aaG
open Int renaming toNat_natCast→aaq
open List renaming length_map→aaa, length_singleton→aaF
open Nat renaming beq_refl→aak, zero_add→aar, zero_le→aas
open Option renaming bind_some→aag
namespace Go.Proofs.YtegoimldbgdeiaaGreat
open Go Go.Am
open List (map)
open Int (toNat)
open Go.IntKind (wrap)
open Go.Am.aM (fits)
set_option maxRecDepth 100000
def pT (f:Int→Int) (l:List Int) (k:Nat):List Int:=(l.take k).map f++l.drop k
theorem pU (f:Int→Int) (l:List Int) (k:Nat) (hk:k≤l.length):(pT f l k).length=l.length:=by simp [pT]; omega
theorem Cu (f:Int→Int) (l:List Int) (k:Nat) (hk:k < l.length):gI (pT f l k) (k:Int)=gI l (k:Int):=by
 rw [zD _ (by rw [pU _ _ _ (by omega)]; exact hk),zD _ hk];unfold pT;rw [List.getElem_append_right (by simp; omega)];simp [show min k l.length=k by omega]
theorem zE (f:Int→Int) (l:List Int) (k:Nat) (hk:k < l.length):(pT f l k).set k (f (gI l (k:Int)))=pT f l (k+1):=by
 rw [zD _ hk];unfold pT;rw [List.set_append_right _ _ (by simp; omega),List.take_succ_eq_append_getElem hk,List.map_append,List.append_assoc,aaa,List.length_take,show k - min k l.length=0 by omega,List.drop_eq_getElem_cons hk];rfl
theorem AP (f:Int→Int) (l:List Int) (k:Nat) (hk:k < l.length) (h:f (gI l (k:Int))=gI l (k:Int)):pT f l k=pT f l (k+1):=by
 rw [← zE f l k hk,h,← Cu f l k hk];rw [zD _ (by rw [pU _ _ _ (by omega)]; exact hk),List.set_getElem_self]
theorem EM (f:Int→Int) (l:List Int):pT f l l.length=l.map f:=by simp [pT]
def Nl (l:List Int) (a b:Int):List Int:=l.map fun x=>if x=a then b else x
def oF (t:bk):Nat→List Int
 |0=>bh t.1.length
 |k+1=>Nl (oF t k) (gI (oF t k) (fm t k).1) (gI (oF t k) (fm t k).2.2.1)
theorem zF (t:bk):∀ k,(oF t k).length=t.1.length
 |0=>gw _
 |k+1=>by show (map _ _).length=_; rw [aaa]; exact zF t k
def jT (s:List Int × List Int) (x:Int):List Int × List Int:=(if s.1.idxOf x=s.1.length then s.1++[x] else s.1,s.2++[(s.1.idxOf x:Int)])
def Ue (l:List Int):List Int:=(l.foldl jT ([],[])).2
section
variable {N:Nat} (hN:eQ N)
include hN
theorem XQ (t:bk) (l:List Int) (hl:l.length≤1000) (i A B:Nat) (hA:A < l.length) (hB:B < l.length) (hi:i < t.2.length) (Rp:(fm t i).1=A) (hs2:(fm t i).2.2.1=B) :
  aA (lq N t ((),(i:Int),(),l)) N (0,(),l)=some ((),Nl l (gI l A) (gI l B)):=by
 obtain ⟨a1,a2⟩:=Ng t.2 hi;have a1:d79 (af (map Q6 t.2) i)=((A:Int),t.2[i].2.1,(B:Int),t.2[i].2.2.2.1,t.2[i].2.2.2.2):=by
  rw [a1]; rw [lU t hi] at Rp hs2; rw [← Rp,← hs2]
 obtain ⟨gA,_⟩:=g3 l hA;obtain ⟨gB,_⟩:=g3 l hB;have key:=aF (rd:=lq N t ((),(i:Int),(),l)) l.length (fun k=>((k:Int),(),pT (fun x=>if x=gI l A then gI l B else x) l k)) ((),Nl l (gI l A) (gI l B)) (fun k hk=>by
  have ml:=pU (fun x=>if x=gI l A then gI l B else x) l k (by omega);obtain ⟨m1,m2⟩:=g3 (pT (fun x=>if x=gI l A then gI l B else x) l k) (k:=k) (by omega);rw [Cu _ l k hk] at m1;have w:wrap .i64 ((k:Int)+1)=((k+1:Nat):Int):=aS (by omega);have dk:decide (k < l.length)=true:=decide_eq_true hk;cases hc:(gI l (k:Int) == gI l (A:Int)) with
  |true=>
   have he:gI l (k:Int)=gI l (A:Int):=by simpa using hc
   have rN:=zE (fun x=>if x=gI l A then gI l B else x) l k hk;simp only [he,if_true] at rN;have ml2:=pU (fun x=>if x=gI l A then gI l B else x) l (k+1) (by omega);simp only [lq,iZ,aaa,ml,ml2,aaq,a1,ar hk,ah hk,aar,dk,m1,m2,gA,gB,hc,cond_true,adv,rN,ji,jj,aah,decide_true,aak,aag,w]
  |false=>
   have he:¬ gI l (k:Int)=gI l (A:Int):=by simpa using hc
   have Ku:=AP (fun x=>if x=gI l A then gI l B else x) l k hk (by simp only [if_neg he]);simp only [lq,iZ,aaa,ml,aaq,a1,ar hk,ah hk,aar,dk,m1,m2,gA,gB,hc,cond_true,cond_false,ji,jj,aah,decide_true,aak,aag,w,← Ku]) (by
  have ml:=pU (fun x=>if x=gI l A then gI l B else x) l l.length (Nat.le_refl _);simp only [lq,iZ,aaa,ml,aI,cond_false,ji,jj,aah,decide_true,cond_true,aak,aag,EM];rfl) N 0 (aas _) (by unfold eQ at hN; omega)
 exact key
theorem QD (t:bk) (hS:InS t) (hP:t.1.length≤1000) (hT:t.2.length≤100000):aA (vP N t) N ((),0,(),oF t 0)=some ((),(),oF t t.2.length):=by
 have key:=aF (rd:=vP N t) t.2.length (fun k=>((),(k:Int),(),oF t k)) ((),(),oF t t.2.length) (fun k hk=>by
  obtain ⟨A,B,hA,hA2,hB,hB2⟩:=hS k hk;have ln:=zF t k;obtain ⟨a1,a2⟩:=Ng t.2 hk;have a1:d79 (af (map Q6 t.2) k)=((A:Int),t.2[k].2.1,(B:Int),t.2[k].2.2.2.1,t.2[k].2.2.2.2):=by
   rw [a1]; rw [lU t hk] at hA hB; rw [← hA,← hB]
  obtain ⟨gA1,gA2⟩:=g3 (oF t k) (k:=A) (by omega);obtain ⟨gB1,gB2⟩:=g3 (oF t k) (k:=B) (by omega);have rA:decide ((0:Int)≤(A:Int)∧(A:Int) < (t.1.length:Int))=true:=ah hA2;have rB:decide ((0:Int)≤(B:Int)∧(B:Int) < (t.1.length:Int))=true:=ah hB2;have dA:decide (A < t.1.length)=true:=decide_eq_true hA2;have dB:decide (B < t.1.length)=true:=decide_eq_true hB2;have k1:=XQ hN t (oF t k) (by omega) k A B (by omega) (by omega) hk hA hB;have w:wrap .i64 ((k:Int)+1)=((k+1:Nat):Int):=aS (by omega);have fin:oF t (k+1)=Nl (oF t k) (gI (oF t k) A) (gI (oF t k) B):=by show Nl _ _ _=_; rw [hA,hB]
  simp only [fin];simp only [vP,aaa,ln,aaq,ar hk,ah hk,a1,a2,rA,rB,dA,dB,gA2,gB2,aar,aah,decide_true,cond_true,aak,ji,jj,aag,k1,w]) (by
  simp only [vP,aaa,aI,cond_false,aak,ji,jj,aah,cond_true,aag]) N 0 (aas _) (by unfold eQ at hN; omega)
 exact key
theorem Uf (l:List Int) (j:Nat) (hj:j < l.length) (hl:l.length≤1000) (u:List Int × List Int × Int × Unit × List Int) (hu:u.2.2.1=(j:Int)) (seen out:List Int) (hs:seen.length≤1000) (ho:out.length≤1000) :
  aA (iM N u) N (seen,out,0,(),l)=some (seen,out,((seen.idxOf (gI l j):Nat):Int),(),l):=by
 have hle:seen.idxOf (gI l j)≤seen.length:=List.idxOf_le_length;have dj:decide (j < l.length)=true:=decide_eq_true hj;obtain ⟨j1,j2⟩:=g3 l hj;have rj:decide ((0:Int)≤(j:Int)∧(j:Int) < (l.length:Int))=true:=ah hj;have key:=aF (rd:=iM N u) (seen.idxOf (gI l j)) (fun k=>(seen,out,(k:Int),(),l)) (seen,out,((seen.idxOf (gI l j):Nat):Int),(),l) (fun k hk=>by
  have zP:k < seen.length:=by omega
  obtain ⟨s1,s2⟩:=Iq seen zP;have df:(seen[k] != gI l (j:Int))=true:=by
   have:=List.not_of_lt_findIdx (p:=(· == gI l (j:Int))) (show k < List.findIdx (· == gI l (j:Int)) seen from hk);simpa using this
  have w:wrap .i64 ((k:Int)+1)=((k+1:Nat):Int):=aS (by omega);simp only [iM,aaa,hu,ar zP,ah zP,aaq,s1,s2,rj,dj,j1,j2,aar,df,ji,jj,aah,decide_true,cond_true,aak,aag,w]) (by
  by_cases he:seen.idxOf (gI l j)=seen.length
  ·simp only [iM,aaa,he,aI,cond_false,ji,jj,aah,decide_true,cond_true,aak,aag]
  ·have zP:seen.idxOf (gI l j) < seen.length:=by omega
   obtain ⟨s1,s2⟩:=Iq seen zP;have df:(seen[seen.idxOf (gI l (j:Int))] != gI l (j:Int))=false:=by rw [List.getElem_idxOf zP]; simp
   simp only [iM,aaa,hu,ar zP,ah zP,aaq,s1,s2,rj,dj,j1,j2,aar,df,ji,jj,aah,decide_true,cond_true,cond_false,aak,aag]) N 0 (aas _) (by unfold eQ at hN; omega)
 exact key
omit hN in
theorem EN:∀ (l:List Int) (s:List Int × List Int),(l.foldl jT s).1.length≤s.1.length+l.length∧(l.foldl jT s).2.length=s.2.length+l.length
 |[],s=>⟨by simp,by simp⟩
 |x :: l,s=>by
  obtain ⟨h1,h2⟩:=EN l (jT s x);have e1:(jT s x).1.length≤s.1.length+1:=by unfold jT; show (if _ then _ else _:List Int).length≤_; split <;> simp
  have e2:(jT s x).2.length=s.2.length+1:=by simp [jT]
  exact ⟨by rw [List.foldl_cons,List.length_cons]; omega,by rw [List.foldl_cons,List.length_cons]; omega⟩
omit hN in
theorem EO (l:List Int) (k:Nat) (hk:k < l.length):(l.take (k+1)).foldl jT ([],[])=jT ((l.take k).foldl jT ([],[])) (gI l (k:Int)):=by
 rw [List.take_succ_eq_append_getElem hk,List.foldl_append,zD _ hk]; rfl
theorem XR (l:List Int) (hl:l.length≤900):aA (ja N) N ([],[],0,(),l)=some ((l.foldl jT ([],[])).1,Ue l,(),l):=by
 have key:=aF (rd:=ja N) l.length (fun k=>(((l.take k).foldl jT ([],[])).1,((l.take k).foldl jT ([],[])).2,(k:Int),(),l)) ((l.foldl jT ([],[])).1,Ue l,(),l) (fun k hk=>by
  obtain ⟨n1,n2⟩:=EN (l.take k) ([],[]);simp only [EO l k hk];generalize (l.take k).foldl jT ([],[])=s at *;obtain ⟨seen,out⟩:=s;have n1:seen.length≤0+(l.take k).length:=n1;have n2:out.length=0+(l.take k).length:=n2;rw [List.length_take] at n1 n2;have k1:=Uf hN l k hk (by omega) (seen,out,(k:Int),(),l) rfl seen out (by omega) (by omega);have w:wrap .i64 ((k:Int)+1)=((k+1:Nat):Int):=aS (by omega);have dk:decide (k < l.length)=true:=decide_eq_true hk;obtain ⟨j1,j2⟩:=g3 l hk;have c1:decide ((seen.length+1) * 8≤140737488355328)=true:=decide_eq_true (by omega);have c2:decide ((out.length+1) * 8≤140737488355328)=true:=decide_eq_true (by omega);show ja N (seen,out,(k:Int),(),l)=some (.inl ((jT (seen,out) (gI l (k:Int))).1,(jT (seen,out) (gI l (k:Int))).2,((k+1:Nat):Int),(),l));have e2:(jT (seen,out) (gI l (k:Int))).2=out++[((seen.idxOf (gI l (k:Int)):Nat):Int)]:=rfl;have e1:(jT (seen,out) (gI l (k:Int))).1=if seen.idxOf (gI l (k:Int))=seen.length then seen++[gI l (k:Int)] else seen:=rfl
  rw [e1,e2];cases hc:(((seen.idxOf (gI l (k:Int)):Nat):Int) == ((seen.length:Nat):Int)) with
  |true=>
   have he:seen.idxOf (gI l (k:Int))=seen.length:=by have:=beq_iff_eq.1 hc; omega
   rw [if_pos he];simp only [ja,aaa,aaq,ar hk,ah hk,dk,j1,j2,aar,k1,hc,yX,c1,c2,ji,jj,aah,decide_true,cond_true,aak,aag,w,List.length_append,aaF,aaG]
  |false=>
   have he:¬ seen.idxOf (gI l (k:Int))=seen.length:=fun e=>by rw [e] at hc; simp at hc
   rw [if_neg he];simp only [ja,aaa,aaq,ar hk,ah hk,dk,j1,j2,aar,k1,hc,yX,c1,c2,ji,jj,aah,decide_true,cond_true,cond_false,aak,aag,w,List.length_append,aaF,aaG]) (by
  rw [List.take_length];simp only [ja,aaa,aI,cond_false,ji,jj,aah,decide_true,cond_true,aak,aag];rfl) N 0 (aas _) (by unfold eQ at hN; omega)
 exact key
theorem Nn (t:bk) (hS:InS t) (hP:t.1.length≤900) (hT:t.2.length≤100000):Zv N t=some (Ue (oF t t.2.length)):=by
 have k0:=aF (rd:=Ev N t) t.1.length (fun k=>((k:Int),(),bh k)) ((),bh t.1.length) (fun k hk=>by
  have w:wrap .i64 ((k:Int)+1)=((k+1:Nat):Int):=aS (by omega);have c1:decide ((k+1) * 8≤140737488355328)=true:=decide_eq_true (by omega);simp only [Ev,aaa,ar hk,gw,c1,yX,ji,jj,← Bw,w,aah,decide_true,cond_true,aak,aag]) (by
  simp only [Ev,aaa,aI,cond_false,ji,jj,aah,decide_true,cond_true,aak,aag]) N 0 (aas _) (by unfold eQ at hN; omega)
 have k0:aA (Ev N t) N (0,(),[])=some ((),bh t.1.length):=k0;have k1:=QD hN t hS (by omega) hT;have k1:aA (vP N t) N ((),0,(),bh t.1.length)=some ((),(),oF t t.2.length):=k1;have k2:=XR hN (oF t t.2.length) (by rw [zF]; exact hP);have f0:allFit (fits p3) ([]:List AV)=true:=rfl;have m0:map d3 ([]:List AV)=[]:=rfl;have nb:Nat.beq 0 (([]:List AV)).length=true:=rfl;have z0:decide (0=([]:List Int).length)=true:=rfl;have o1:∀ l:List Int,(decide ((0:Int)≤0∧0 < ((([]:List AV)++[(AV.list .iu 1 (map n3 l))]).length:Int))&&fits kH (af (([]:List AV)++[(AV.list .iu 1 (map n3 l))]) (toNat 0)))=true:=fun l=>by
  show (true&&fits kH (AV.list .iu 1 (map n3 l)))=true;rw [Bool.true_and]; exact agx l
 have o2:∀ l:List Int,d59 (af (([]:List AV)++[(AV.list .iu 1 (map n3 l))]) (toNat 0))=l:=fun l=>agy l
 rw [acO];simp only [f0,m0,nb,z0,aaa,aah,aaG,cond_true,aag,k0,ji,jj,aak,k1,k2,o1,o2]
end
end Go.Proofs.YtegoimldbgdeiaaGreat
