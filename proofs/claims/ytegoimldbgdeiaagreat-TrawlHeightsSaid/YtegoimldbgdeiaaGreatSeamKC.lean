/- Plain laws. -/
import Derived.Test.YtegoimldbgdeiaaGreatSeamKB
set_option linter.all false
open Bool renaming and_self->aaJ, and_true->aaL, true_and->aaN, not_false->aaR, not_true->aa5, true_or->abN, or_true->ab1, false_eq_true->acJ, and_eq_true->adF, not_eq_true'->ad7
open Int renaming toNat_natCast->aaK
open List renaming length_map->aag, replicate->aba, getElem?_eq_getElem->ab3, getElem_mem->ab5, mem_cons_of_mem->ab6, foldl_cons->ab7, length_replicate->ab9, length_take->aca, mem_cons_self->acd, map_append->acf, length_nil->acg, length_singleton->aci, length_set->acq, length_append->acu, getD_eq_getElem?_getD->acK, map_congr_left->acL, take_length->acN, map_cons->acO, ext_getElem->acV, map_map->acW, map_nil->adf, foldl_append->adh, range->adi, mem_range->adj, length->adk, append_assoc->adl, take_add_one->adm, getElem_of_mem->adn, length_cons->adx, getElem_set->ady, mem_map->adR, getElem_append_right->adU, mem_append->adY, mem_singleton->ad3, flatten_cons->ad6, mem_append_left->ad8, mem_cons->ad9, getElem?_map->aed, getElem_map->aee, mem_append_right->aek, map_set->aes, range_succ->aet, mem_of_mem_take->aeu, drop_eq_getElem_cons->aeH, getElem_append_left->aeJ, mem_flatMap->aeQ, set_append_right->aeT, set_set->afy
open Nat renaming beq_refl->aaS, zero_le->abk, zero_add->abC, mod_eq_of_lt->adO, le_refl->adP, not_lt_zero->adT
open Option renaming bind_some->aad
open Prod renaming ext->ad4
open Sum renaming elim_inl->acM, elim_inr->acP
namespace Go.Proofs.YtegoimldbgdeiaaGreat
noncomputable section
open Go Go.Am
open Go.Am.aF (fits)
open Go.IntKind (wrap)
open Int (toNat)
open List (map)
set_option maxRecDepth 100000
def zB22:=And.intro @aaK @abC
def zB12:=And.intro @aaL @aaN
variable {N:Nat}{K α:Type}{kn ht:List Int}{q a r x:Int}{R:Int->Prop}{e f:Int×Int}{pa:List (List Int)}{ps:List (K×K)}{o:Option α}
def SJ (l:List Int) (k:Nat) (v:Int):aC (map n3 l) k (aI v)=map n3 (l.set k v):=by rw [eY,aes]; rfl
def Ab (l:List Int) {k:Nat} (hk:k < l.length):gI l (k:Int)=l[k]:=by unfold gI; rw [aaK,acK,ab3 hk]; rfl
def HA (l:List (List Int)) {k:Nat} (hk:k < l.length):gL l (k:Int)=l[k]:=by unfold gL; rw [aaK,acK,ab3 hk]; rfl
def g3 (l:List Int) {k:Nat} (hk:k < l.length):d3 (an (map n3 l) k)=gI l (k:Int)/\fits p3 (an (map n3 l) k)=true:=by
 rw [Ab l hk]; exact Mq l hk
def g59 (l:List (List Int)) {k:Nat} (hk:k < l.length):d59 (an (map n59 l) k)=gL l (k:Int)/\fits oW (an (map n59 l) k)=true:=by
 rw [HA l hk,fK n59 l k hk]; exact ⟨aly _,alx _⟩
section
variable (hN:dC N)
include hN
end
def ame:∀ l:List (List Int),aZ (map n59 l)=true
 |[]=>rfl
 |x::l=>by
  show ((n59 x).closed&&aZ (map n59 l))=true;rw [ame l,aaL];rfl
section
variable (hN:dC N)
include hN
omit hN in
theorem adu (x y z:AV):an [x,y,z] 0=x:=rfl
omit hN in
theorem adv (x y z:AV):an [x,y,z] 1=y:=rfl
omit hN in
theorem adw (x y z:AV):an [x,y,z] 2=z:=rfl
omit hN in
theorem amf (x y z:AV):decide ((0:Int)<=((0:Nat):Int)/\((0:Nat):Int) < (([x,y,z].length:Nat):Int))=true:=rfl
omit hN in
theorem amg (x y z:AV):decide ((0:Int)<=((1:Nat):Int)/\((1:Nat):Int) < (([x,y,z].length:Nat):Int))=true:=rfl
omit hN in
theorem amh (x y z:AV):decide ((0:Int)<=((2:Nat):Int)/\((2:Nat):Int) < (([x,y,z].length:Nat):Int))=true:=rfl
end
section
variable (hN:dC N)
include hN
end
def InW (t:bh) (w:List Int):Prop:=∀ i∈w,∃ k:Nat,i=k/\k < t.2.length
def qe (f:Int->Int) (l:List Int) (k:Nat):List Int:=(l.take k).map f++l.drop k
def qh (f:Int->Int) (l:List Int) (k:Nat) (hk:k<=l.length):(qe f l k).length=l.length:=by simp [qe]; omega
def C3 (f:Int->Int) (l:List Int) (k:Nat) (hk:k < l.length):gI (qe f l k) (k:Int)=gI l (k:Int):=by
 rw [Ab _ (by rw [qh _ _ _ (by omega)]; exact hk),Ab _ hk];unfold qe;rw [adU (by simp; omega)];simp [show min k l.length=k by omega]
def Ac (f:Int->Int) (l:List Int) (k:Nat) (hk:k < l.length):(qe f l k).set k (f (gI l (k:Int)))=qe f l (k+1):=by
 rw [Ab _ hk];unfold qe;rw [aeT _ _ (by simp; omega),List.take_succ_eq_append_getElem hk,acf,adl,aag,aca,show k - min k l.length=0 by omega,aeH hk];rfl
def Bn (f:Int->Int) (l:List Int) (k:Nat) (hk:k < l.length) (h:f (gI l (k:Int))=gI l (k:Int)):qe f l k=qe f l (k+1):=by
 rw [<- Ac f l k hk,h,<- C3 f l k hk];rw [Ab _ (by rw [qh _ _ _ (by omega)]; exact hk),List.set_getElem_self]
def Fq (f:Int->Int) (l:List Int):qe f l l.length=l.map f:=by simp [qe]
def OO (l:List Int) (a b:Int):List Int:=l.map λ x=>if x=a then b else x
def oL (t:bh):Nat->List Int
 |0=>bH t.1.length
 |k+1=>OO (oL t k) (gI (oL t k) (jm t k).1) (gI (oL t k) (jm t k).2.2.1)
def Ad (t:bh):∀ k,(oL t k).length=t.1.length
 |0=>iY _
 |k+1=>by show (map _ _).length=_; rw [aag]; exact Ad t k
def jV (s:List Int×List Int) (x:Int):List Int×List Int:=(if s.1.idxOf x=s.1.length then s.1++[x] else s.1,s.2++[(s.1.idxOf x:Int)])
def WU (l:List Int):List Int:=(l.foldl jV ([],[])).2
section
variable (hN:dC N)
include hN
theorem abl (t:bh) (l:List Int) (hl:l.length<=1000) (i A B:Nat) (hA:A < l.length) (hB:B < l.length) (hi:i < t.2.length) (hs1:(jm t i).1=A) (hs2:(jm t i).2.2.1=B) :
  ao (lF N t ((),(i:Int),(),l)) N (0,(),l)=some ((),OO l (gI l A) (gI l B)):=by
 obtain ⟨a1,a2⟩:=Ss t.2 hi;have a1:d79 (an (map Tp t.2) i)=((A:Int),t.2[i].2.1,(B:Int),t.2[i].2.2.2.1,t.2[i].2.2.2.2):=by
  rw [a1]; rw [sE t hi] at hs1 hs2; rw [<- hs1,<- hs2]
 obtain ⟨gA,_⟩:=g3 l hA;obtain ⟨gB,_⟩:=g3 l hB;have key:=aL (rd:=lF N t ((),(i:Int),(),l)) l.length (λ k=>((k:Int),(),qe (λ x=>if x=gI l A then gI l B else x) l k)) ((),OO l (gI l A) (gI l B)) (λ k hk=>by
  have ml:=qh (λ x=>if x=gI l A then gI l B else x) l k (by omega);obtain ⟨m1,m2⟩:=g3 (qe (λ x=>if x=gI l A then gI l B else x) l k) (k:=k) (by omega);rw [C3 _ l k hk] at m1;have w:wrap .i64 ((k:Int)+1)=((k+1:Nat):Int):=aN (by omega);have dk:decide (k < l.length)=true:=decide_eq_true hk;cases hc:(gI l (k:Int) == gI l (A:Int)) with
  |true=>
   have he:gI l (k:Int)=gI l (A:Int):=by simpa using hc
   have rO:=Ac (λ x=>if x=gI l A then gI l B else x) l k hk;simp only [he,if_true] at rO;have ml2:=qh (λ x=>if x=gI l A then gI l B else x) l (k+1) (by omega);simp only [lF,zB3,ml,ml2,zB22,a1,ai hk,af hk,dk,m1,m2,gA,gB,hc,zB4,SJ,rO,aaS,w,Oy,Oz,aaM]
  |false=>
   have he:¬ gI l (k:Int)=gI l (A:Int):=by simpa using hc
   have LO:=Bn (λ x=>if x=gI l A then gI l B else x) l k hk (by simp only [if_neg he]);simp only [lF,zB3,ml,zB22,a1,ai hk,af hk,dk,m1,m2,gA,gB,hc,zB0,aaS,w,<- LO,Oy,Oz,aaM]) (by
  have ml:=qh (λ x=>if x=gI l A then gI l B else x) l l.length (adP _);simp only [lF,zB3,ml,ay,zB0,aaS,Fq,Oy,Oz,aaM];rfl) N 0 (abk _) (by unfold dC at hN; omega)
 exact key
theorem SK (t:bh) (hS:InS t) (hP:t.1.length<=1000) (hT:t.2.length<=100000):ao (vX N t) N ((),0,(),oL t 0)=some ((),(),oL t t.2.length):=by
 have key:=aL (rd:=vX N t) t.2.length (λ k=>((),(k:Int),(),oL t k)) ((),(),oL t t.2.length) (λ k hk=>by
  obtain ⟨A,B,hA,hA2,hB,hB2⟩:=hS k hk;have ln:=Ad t k;obtain ⟨a1,a2⟩:=Ss t.2 hk;have a1:d79 (an (map Tp t.2) k)=((A:Int),t.2[k].2.1,(B:Int),t.2[k].2.2.2.1,t.2[k].2.2.2.2):=by
   rw [a1]; rw [sE t hk] at hA hB; rw [<- hA,<- hB]
  obtain ⟨gA1,gA2⟩:=g3 (oL t k) (k:=A) (by omega);obtain ⟨gB1,gB2⟩:=g3 (oL t k) (k:=B) (by omega);have rA:decide ((0:Int)<=(A:Int)/\(A:Int) < (t.1.length:Int))=true:=af hA2;have rB:decide ((0:Int)<=(B:Int)/\(B:Int) < (t.1.length:Int))=true:=af hB2;have dA:decide (A < t.1.length)=true:=decide_eq_true hA2;have dB:decide (B < t.1.length)=true:=decide_eq_true hB2;have k1:=abl hN t (oL t k) (by omega) k A B (by omega) (by omega) hk hA hB;have w:wrap .i64 ((k:Int)+1)=((k+1:Nat):Int):=aN (by omega);have fin:oL t (k+1)=OO (oL t k) (gI (oL t k) A) (gI (oL t k) B):=by show OO _ _ _=_; rw [hA,hB]
  simp only [fin];simp only [vX,zB3,ln,zB22,ai hk,af hk,a1,a2,rA,rB,dA,dB,gA2,gB2,zB4,aaS,k1,w,Oz]) (by
  simp only [vX,aag,ay,zB0,aaS,eV,eW,Oz]) N 0 (abk _) (by unfold dC at hN; omega)
 exact key
theorem WV (l:List Int) (j:Nat) (hj:j < l.length) (hl:l.length<=1000) (u:List Int×List Int×Int×Unit×List Int) (hu:u.2.2.1=(j:Int)) (seen out:List Int) (hs:seen.length<=1000) (ho:out.length<=1000) :
  ao (iC N u) N (seen,out,0,(),l)=some (seen,out,((seen.idxOf (gI l j):Nat):Int),(),l):=by
 have hle:seen.idxOf (gI l j)<=seen.length:=List.idxOf_le_length;have dj:decide (j < l.length)=true:=decide_eq_true hj;obtain ⟨j1,j2⟩:=g3 l hj;have rj:decide ((0:Int)<=(j:Int)/\(j:Int) < (l.length:Int))=true:=af hj;have key:=aL (rd:=iC N u) (seen.idxOf (gI l j)) (λ k=>(seen,out,(k:Int),(),l)) (seen,out,((seen.idxOf (gI l j):Nat):Int),(),l) (λ k hk=>by
  have Ar:k < seen.length:=by omega
  obtain ⟨s1,s2⟩:=Mq seen Ar;have de:(seen[k] != gI l (j:Int))=true:=by
   have:=List.not_of_lt_findIdx (p:=(· == gI l (j:Int))) (show k < List.findIdx (· == gI l (j:Int)) seen from hk);simpa using this
  have w:wrap .i64 ((k:Int)+1)=((k+1:Nat):Int):=aN (by omega);simp only [iC,zB3,hu,ai Ar,af Ar,zB22,s1,s2,rj,dj,j1,j2,de,zB4,aaS,w,I3,V7]) (by
  by_cases he:seen.idxOf (gI l j)=seen.length
  .simp only [iC,zB3,he,ay,zB0,aaS,I3,V7]
  .have Ar:seen.idxOf (gI l j) < seen.length:=by omega
   obtain ⟨s1,s2⟩:=Mq seen Ar;have de:(seen[seen.idxOf (gI l (j:Int))] != gI l (j:Int))=false:=by rw [List.getElem_idxOf Ar]; simp
   simp only [iC,zB3,hu,ai Ar,af Ar,zB22,s1,s2,rj,dj,j1,j2,de,zB0,aaS,I3,V7]) N 0 (abk _) (by unfold dC at hN; omega)
 exact key
omit hN in
theorem Fs:∀ (l:List Int) (s:List Int×List Int),(l.foldl jV s).1.length<=s.1.length+l.length/\(l.foldl jV s).2.length=s.2.length+l.length
 |[],s=>⟨by simp,by simp⟩
 |x::l,s=>by
  obtain ⟨h1,h2⟩:=Fs l (jV s x);have e1:(jV s x).1.length<=s.1.length+1:=by unfold jV; show (if _ then _ else _:List Int).length<=_; split <;> simp
  have e2:(jV s x).2.length=s.2.length+1:=by simp [jV]
  exact ⟨by rw [ab7,adx]; omega,by rw [ab7,adx]; omega⟩
omit hN in
theorem Ft (l:List Int) (k:Nat) (hk:k < l.length):(l.take (k+1)).foldl jV ([],[])=jV ((l.take k).foldl jV ([],[])) (gI l (k:Int)):=by
 rw [List.take_succ_eq_append_getElem hk,adh,Ab _ hk]; rfl
theorem abm (l:List Int) (hl:l.length<=900):ao (iZ N) N ([],[],0,(),l)=some ((l.foldl jV ([],[])).1,WU l,(),l):=by
 have key:=aL (rd:=iZ N) l.length (λ k=>(((l.take k).foldl jV ([],[])).1,((l.take k).foldl jV ([],[])).2,(k:Int),(),l)) ((l.foldl jV ([],[])).1,WU l,(),l) (λ k hk=>by
  obtain ⟨n1,n2⟩:=Fs (l.take k) ([],[]);simp only [Ft l k hk];generalize (l.take k).foldl jV ([],[])=s at *;obtain ⟨seen,out⟩:=s;have n1:seen.length<=0+(l.take k).length:=n1;have n2:out.length=0+(l.take k).length:=n2;rw [aca] at n1 n2;have k1:=WV hN l k hk (by omega) (seen,out,(k:Int),(),l) rfl seen out (by omega) (by omega);have w:wrap .i64 ((k:Int)+1)=((k+1:Nat):Int):=aN (by omega);have dk:decide (k < l.length)=true:=decide_eq_true hk;obtain ⟨j1,j2⟩:=g3 l hk;have c1:decide ((seen.length+1)*8<=140737488355328)=true:=decide_eq_true (by omega);have c2:decide ((out.length+1)*8<=140737488355328)=true:=decide_eq_true (by omega);show iZ N (seen,out,(k:Int),(),l)=some (.inl ((jV (seen,out) (gI l (k:Int))).1,(jV (seen,out) (gI l (k:Int))).2,((k+1:Nat):Int),(),l));have e2:(jV (seen,out) (gI l (k:Int))).2=out++[((seen.idxOf (gI l (k:Int)):Nat):Int)]:=rfl;have e1:(jV (seen,out) (gI l (k:Int))).1=if seen.idxOf (gI l (k:Int))=seen.length then seen++[gI l (k:Int)] else seen:=rfl
  rw [e1,e2];cases hc:(((seen.idxOf (gI l (k:Int)):Nat):Int) == ((seen.length:Nat):Int)) with
  |true=>
   have he:seen.idxOf (gI l (k:Int))=seen.length:=by have:=beq_iff_eq.1 hc; omega
   rw [if_pos he];simp only [iZ,zB3,zB22,ai hk,af hk,dk,j1,j2,k1,hc,xd,c1,c2,zB4,aaS,w,acu,aci,aaL,V8,aaO,I3]
  |false=>
   have he:¬ seen.idxOf (gI l (k:Int))=seen.length:=λ e=>by rw [e] at hc; simp at hc
   rw [if_neg he];simp only [iZ,zB3,zB22,ai hk,af hk,dk,j1,j2,k1,hc,xd,c1,c2,zB0,aaS,w,acu,aci,aaL,V8,aaO,I3]) (by
  rw [acN];simp only [iZ,zB3,ay,zB0,aaS,V8,aaO,I3];rfl) N 0 (abk _) (by unfold dC at hN; omega)
 exact key
theorem OP (t:bh) (hS:InS t) (hP:t.1.length<=900) (hT:t.2.length<=100000):T27 N t=some (WU (oL t t.2.length)):=by
 have k0:=aL (rd:=E6 N t) t.1.length (λ k=>((k:Int),(),bH k)) ((),bH t.1.length) (λ k hk=>by
  have w:wrap .i64 ((k:Int)+1)=((k+1:Nat):Int):=aN (by omega);have c1:decide ((k+1)*8<=140737488355328)=true:=decide_eq_true (by omega);simp only [E6,zB3,ai hk,iY,c1,xd,<- B2,w,zB4,aaS,Oy]) (by
  simp only [E6,zB3,ay,zB0,aaS,Oy]) N 0 (abk _) (by unfold dC at hN; omega)
 have k0:ao (E6 N t) N (0,(),[])=some ((),bH t.1.length):=k0;have k1:=SK hN t hS (by omega) hT;have k1:ao (vX N t) N ((),0,(),bH t.1.length)=some ((),(),oL t t.2.length):=k1;have k2:=abm hN (oL t t.2.length) (by rw [Ad]; exact hP);have f0:allFit (fits p3) ([]:List AV)=true:=rfl;have m0:map d3 ([]:List AV)=[]:=rfl;have nb:Nat.beq 0 (([]:List AV)).length=true:=rfl;have z0:decide (0=([]:List Int).length)=true:=rfl;have o1:∀ l:List Int,(decide ((0:Int)<=0/\0 < ((([]:List AV)++[(AV.list .bV 1 (map n3 l))]).length:Int))&&fits oW (an (([]:List AV)++[(AV.list .bV 1 (map n3 l))]) (toNat 0)))=true:=λ l=>by
  show (true&&fits oW (AV.list .bV 1 (map n3 l)))=true;rw [aaN]; exact alx l
 have o2:∀ l:List Int,d59 (an (([]:List AV)++[(AV.list .bV 1 (map n3 l))]) (toNat 0))=l:=λ l=>aly l
 rw [ag4];simp only [f0,m0,nb,z0,aag,zB4,aaL,k0,eV,eW,aaS,k1,k2,o1,o2]
end
section
variable (hN:dC N)
include hN
end
section
variable (hN:dC N)
include hN
end
section
variable (hN:dC N)
include hN
end
def Qy:∀ (l:List Int) (s:List Int×List Int),(∃ e,(l.foldl jV s).1=s.1++e)/\(∀ x∈l,x∈(l.foldl jV s).1)/\(l.foldl jV s).2=s.2++l.map λ x=>(((l.foldl jV s).1.idxOf x:Nat):Int)
 |[],s=>⟨⟨[],by simp⟩,by simp,by simp⟩
 |x::l,s=>by
  obtain ⟨⟨e,h1⟩,h2,h3⟩:=Qy l (jV s x);rw [ab7];have key:∃ e2,(jV s x).1=s.1++e2/\x∈(jV s x).1/\∀ e3,(s.1++e2++e3).idxOf x=s.1.idxOf x:=by
   by_cases hx:x∈s.1
   .have du:s.1.idxOf x < s.1.length:=List.idxOf_lt_length_of_mem hx;refine ⟨[],?_,?_,λ e3=>?_⟩
    .show (if _ then _ else _:List Int)=_;rw [if_neg (by omega)]; simp
    .show x∈(if _ then _ else _:List Int);rw [if_neg (by omega)]; exact hx
    .rw [List.append_nil,List.idxOf_append,if_pos hx]
   .have hle:s.1.idxOf x=s.1.length:=List.idxOf_eq_length hx;refine ⟨[x],?_,?_,λ e3=>?_⟩
    .show (if _ then _ else _:List Int)=_;rw [if_pos hle]
    .show x∈(if _ then _ else _:List Int);rw [if_pos hle]; simp
    .rw [adl,List.idxOf_append,if_neg hx,hle];simp
  obtain ⟨e2,k1,k2,k3⟩:=key;refine ⟨⟨e2++e,by rw [h1,k1,adl]⟩,λ z hz=>?_,?_⟩
  .rcases ad9.1 hz with rfl|hz
   .rw [h1]; exact ad8 _ k2
   .exact h2 z hz
  .rw [h3];have:(jV s x).2=s.2++[((s.1.idxOf x:Nat):Int)]:=rfl;rw [this,acO,adl,List.singleton_append];congr 2;rw [h1,k1,k3 e]
def PIn (t:bh) (pa:List (List Int)):Prop:=∀ l∈pa,InW t l
def PIn.at {t:bh} (h:PIn t pa) (q:Int):InW t (gL pa q):=by
 unfold gL;rw [acK];cases hx:pa[q.toNat]? with
 |none=>intro i hi; cases hi
 |some l=>exact h l (List.mem_of_getElem? hx)
section
variable [DecidableEq K]
def Qz {f g:K->Int} {x:K}:∀ (s:List K),(∀ y∈s,(f y=f x↔g y=g x))->(s.map f).idxOf (f x)=(s.map g).idxOf (g x)
 |[],_=>rfl
 |y::s,h=>by
  rw [acO,acO,List.idxOf_cons,List.idxOf_cons];have h1:=h y acd;have e:(f y == f x)=(g y == g x):=by
   rw [Bool.eq_iff_iff,beq_iff_eq,beq_iff_eq]; exact h1
  rw [e,Qz s λ z hz=>h z (ab6 _ hz)]
def OQ {f g:K->Int}:∀ (l:List K) (s:List K) (o:List Int),(∀ x∈s++l,∀ y∈s++l,(f x=f y↔g x=g y))->((l.map f).foldl jV (s.map f,o)).2=((l.map g).foldl jV (s.map g,o)).2
 |[],_,_,_=>rfl
 |x::l,s,o,h=>by
  rw [acO,acO,ab7,ab7];have e:=Qz (f:=f) (g:=g) (x:=x) s λ y hy=>h y (ad8 _ hy) x (aek _ acd)
  unfold jV;simp only [e,aag];by_cases c:(s.map g).idxOf (g x)=s.length
  .simp only [c,if_true];have hm:∀ k:K->Int,s.map k++[k x]=(s++[x]).map k:=λ k=>by rw [acf]; rfl
   rw [hm f,hm g];exact OQ l (s++[x]) _ λ a ha b hb=>h a (by simpa using ha) b (by simpa using hb)
  .simp only [c,if_false];exact OQ l s _ λ a ha b hb=>h a (by
    rcases adY.1 ha with k|k
    .exact ad8 _ k
    .exact aek _ (ab6 _ k)) b (by
    rcases adY.1 hb with k|k
    .exact ad8 _ k
    .exact aek _ (ab6 _ k))
def abn {f g:K->Int} {l:List K} (h:∀ x∈l,∀ y∈l,(f x=f y↔g x=g y)):WU (l.map f)=WU (l.map g):=
 OQ l [] [] (by simpa using h)
def Bo (m:List (K×Int)):∀ (l:List K) (p o:List Int) (ns:List (Int×Int)),p.Nodup->xU p ns->((l.map (ar m)).foldl jV (p,o)).1.Nodup/\xU ((l.map (ar m)).foldl jV (p,o)).1 (l.foldl (rY m) ns)
 |[],p,o,ns,hn,h=>⟨hn,h⟩
 |x::l,p,o,ns,hn,h=>by
  rw [acO,ab7,ab7];have len:ns.length=p.length:=by rw [<- h.1,aag]
  unfold rY jV;by_cases c:ar m x∈p
  .obtain ⟨v,hv⟩:=tM (m:=ns) (k:=ar m x) (by rw [h.1]; exact c);have c2:¬ p.idxOf (ar m x)=p.length:=by have:=List.idxOf_lt_length_of_mem c; omega
   simp only [c2,if_false];rw [if_pos (by rw [hv]; rfl)];exact Bo m l p _ ns hn h
  .have hv:getM (ar m x) ns=none:=getM_none.2 (by rw [h.1]; exact c);have c2:p.idxOf (ar m x)=p.length:=List.idxOf_eq_length c;simp only [c2,if_true];rw [if_neg (by rw [hv]; decide),len];exact Bo m l (p++[ar m x]) _ _ (List.nodup_append.2 ⟨hn,by simp,λ a ha b hb e=>c (by rw [<- ad3.1 hb,<- e]; exact ha)⟩) (h.put c)
def HB {l:List K} (hl:l.Nodup) (hp:∀ p∈ps,p.1∈l/\p.2∈l) {F:K->Int} (hF:∀ x∈l,∀ y∈l,(F x=F y↔Cn (λ a b=>(a,b)∈ps) x y)) :
  l.map (ar (fR l ps))=WU (l.map F):=by
 have u:=Bl.fold ps _ _ (Bl.first hl) hp;obtain ⟨m,hm⟩:∃ m,m=ps.foldl kC (mL l):=⟨_,rfl⟩;rw [<- hm] at u;have e:fR l ps=m.map λ e=>(e.1,ar (l.foldl (rY m) []) e.2):=by unfold fR; rw [hm]
 obtain ⟨h1,h2⟩:=Bo m l [] [] [] List.nodup_nil ⟨rfl,λ i hi=>absurd hi (adT _)⟩;have WT:∀ x∈l,∀ y∈l,(F x=F y↔ar m x=ar m y):=λ x hx y hy=>by
  rw [hF x hx y hy,u.WT x hx y hy];exact ⟨Cn.mono λ a b c=>.one (.inr c),Cn.mono λ a b c=>.one (c.resolve_left id)⟩
 rw [abn (f:=F) (g:=ar m) WT];obtain ⟨_,q2,q3⟩:=Qy (l.map (ar m)) ([],[]);have e2:WU (l.map (ar m))=(l.map (ar m)).map λ x=>((((l.map (ar m)).foldl jV ([],[])).1.idxOf x:Nat):Int):=by unfold WU; rw [q3]; rfl
 rw [e2,acW];obtain ⟨S,hS⟩:∃ S,S=((l.map (ar m)).foldl jV ([],[])).1:=⟨_,rfl⟩;rw [<- hS] at h1 h2 q2 ⊢;refine acL λ x hx=>?_
 have JA:ar m x∈S:=q2 _ (List.mem_map_of_mem hx);have get:ar (fR l ps) x=ar (l.foldl (rY m) []) (ar m x):=by
  have:getM x (fR l ps)=some (ar (l.foldl (rY m) []) (ar m x)):=by
   rw [e,wo];obtain ⟨v,hv⟩:=tM (m:=m) (k:=x) (by rw [u.keys]; exact hx);rw [hv];unfold ar;rw [hv]; rfl
  rw [ar,this]; rfl
 rw [get];have du:=List.idxOf_lt_length_of_mem JA;have:=h2.2 (S.idxOf (ar m x)) du;rw [List.getElem_idxOf du] at this;show (getM (ar m x) _).getD 0=_;rw [this]; rfl
end
def ia (rows:List (List Int)):List (Nat×Nat):=(adi rows.length).map λ j=>(j,(rows.getD j []).length)
def dK (rows:List (List Int)):(ia rows).length=rows.length:=by simp [ia]
def Fu (rows:List (List Int)) {j:Nat} (hj:j < rows.length):(ia rows)[j]'(by rw [dK]; exact hj)=(j,rows[j].length):=by
 simp [ia,acK,ab3 hj]
def QA {r s:List (List Int)} (h:r.length=s.length) (k:∀ j (hj:j < r.length),r[j].length=(s[j]'(by omega)).length):ia r=ia s:=by
 apply acV
 .rw [dK,dK,h]
 .intro j h1 h2;rw [dK] at h1 h2;rw [Fu r h1,Fu s h2,k j h1]
def WW (rows:List (List Int)) (r:List Int):ia rows++[(rows.length,r.length)]=ia (rows++[r]):=by
 apply acV
 .simp [dK]
 .intro j h1 h2;rw [dK] at h2;rw [Fu _ h2];rw [acu,aci] at h2;rcases Nat.lt_or_ge j rows.length with c|c
  .rw [aeJ (by rw [dK]; exact c),aeJ c,Fu _ c]
  .have e:j=rows.length:=by omega
   subst e;rw [adU (by rw [dK]; omega),adU (adP _)];simp
def abo (rows:List (List Int)) (j:Nat) (r:List Int) (h:r.length=(rows.getD j []).length):ia (rows.set j r)=ia rows:=by
 refine QA (by simp) λ i hi=>?_
 rw [acq] at hi;rw [ady];split
 .rename_i e;subst e;rw [h,acK,ab3 hi]; rfl
 .rfl
def OR (rows:List (List Int)):bR (map n59 rows)=rows.map (map n3):=by
 unfold bR;rw [acW]; rfl
def nT (rows:List (List Int)):fC 1 (bR (map n59 rows))=map n59 rows:=by
 rw [OR]; unfold fC; rw [acW]; rfl
def ex3:∀ l:List Int,e7 (map n3 l)=true
 |[]=>rfl
 |x::l=>by
  show ((n3 x).exact&&e7 (map n3 l))=true;rw [ex3 l]; rfl
def mW:∀ rows:List (List Int),dP (bR (map n59 rows))=true
 |[]=>rfl
 |r::rows=>by
  show (e7 (map n3 r)&&dP (bR (map n59 rows)))=true;rw [ex3,mW rows]; rfl
def zB9:=And.intro @nT (And.intro @gH (And.intro @gJ (And.intro @dY (And.intro @dZ @mW))))
def arU (rows:List (List Int)):(bR (map n59 rows)).length=rows.length:=by rw [OR,aag]
def arV (rows:List (List Int)) (r:List Int):bR (map n59 rows)++[map n3 r]=bR (map n59 (rows++[r])):=by
 rw [OR,OR,acf]; rfl
def Je (rows:List (List Int)) {j:Nat} (hj:j < rows.length):rowOf (bR (map n59 rows)) j=map n3 rows[j]:=by
 unfold rowOf;rw [OR,bk,aed,ab3 hj]; rfl
def ami (rows:List (List Int)) (j:Nat) (r:List Int):aC (bR (map n59 rows)) j (map n3 r)=bR (map n59 (rows.set j r)):=by
 rw [OR,OR,eY,aes]
def atR (ls:List (Nat×Nat)) {j:Nat} (hj:j < ls.length):cY (an (map fV ls) j)=ls[j]/\fits ft (an (map fV ls) j)=true:=by
 rw [fK fV ls j hj,aaQ,aaP]; exact ⟨rfl,rfl⟩
def snR (ls:List (Nat×Nat)) (a b:Nat):map fV ls++[AV.gW 0 a 1 b]=map fV (ls++[(a,b)]):=by rw [acf]; rfl
def gR (rows:List (List Int)) {j:Nat} (hj:j < rows.length):cY (an (map fV (ia rows)) j)=(j,rows[j].length)/\fits ft (an (map fV (ia rows)) j)=true:=by
 obtain ⟨h1,h2⟩:=atR (ia rows) (j:=j) (by rw [dK]; exact hj);rw [Fu rows hj] at h1;exact ⟨h1,h2⟩
theorem rx0:dP ([]:List (List AV))=true:=rfl
def Fv (p n:Nat):List Int:=(adi n).map λ k:Nat=>(p:Int)*8+(k:Int)
def qP (t:bh) (k:Nat):List (List Int):=(adi k).map λ p=>Fv p (kr t (p:Int))
def HC (t:bh) (k:Nat):(qP t k).length=k:=by simp [qP]
def Fw (t:bh) (k:Nat):qP t k++[Fv k (kr t (k:Int))]=qP t (k+1):=by
 unfold qP;rw [aet,acf]; rfl
def Ae (p n:Nat):(Fv p n).length=n:=by simp [Fv]
def SL (p n:Nat):Fv p n++[(p:Int)*8+(n:Int)]=Fv p (n+1):=by
 unfold Fv;rw [aet,acf]; rfl
section
variable (hN:dC N)
include hN
theorem abp (t:bh) {p:Nat} (hp:p < t.1.length) (hP:t.1.length<=900) (hs:kr t (p:Int)<=1000) (rows:List (List Int)) :
  ao (sh N t ((),(p:Int),rows,ia rows)) N ((),0,rows,ia rows,[])=some ((),rows,ia rows,Fv p (kr t (p:Int))):=by
 obtain ⟨a1,a2⟩:=Bh t.1 hp;have sl:t.1[p].2.length=kr t (p:Int):=(gK t hp).symm;have key:=aL (rd:=sh N t ((),(p:Int),rows,ia rows)) (kr t (p:Int)) (λ k=>((),(k:Int),rows,ia rows,Fv p k)) ((),rows,ia rows,Fv p (kr t (p:Int))) (λ k hk=>by
  have w:wrap .i64 ((k:Int)+1)=((k+1:Nat):Int):=aN (by omega);have w1:wrap .i64 ((p:Int)*8)=(p:Int)*8:=Ap (by omega);have w2:wrap .i64 ((p:Int)*8+(k:Int))=(p:Int)*8+(k:Int):=Ap (by omega);have c1:decide ((k+1)*8<=140737488355328)=true:=decide_eq_true (by omega);simp only [sh,zB3,aaK,af hp,a1,a2,sl,ai hk,w1,w2,Ae,c1,xd,SL,zB9,zB4,aaS,w,Sj]) (by
  simp only [sh,zB11,af hp,a1,a2,sl,ay,zB0,Ae,zB9,eV,eW,aaS,Sj]) N 0 (abk _) (by unfold dC at hN; omega)
 exact key
theorem WX (t:bh) (hP:t.1.length<=900) (hs:∀ p:Nat,p < t.1.length->kr t (p:Int)<=1000) :
  ao (E8 N t) N ((),0,[],[])=some ((),qP t t.1.length,ia (qP t t.1.length)):=by
 have key:=aL (rd:=E8 N t) t.1.length (λ k=>((),(k:Int),qP t k,ia (qP t k))) ((),qP t t.1.length,ia (qP t t.1.length)) (λ k hk=>by
  have w:wrap .i64 ((k:Int)+1)=((k+1:Nat):Int):=aN (by omega);have c1:decide ((k+1)*24<=140737488355328)=true:=decide_eq_true (by omega);have k1:=abp hN t hk hP (hs k hk) (qP t k);have f0:allFit (fits p3) ([]:List AV)=true:=rfl;have m0:map d3 ([]:List AV)=[]:=rfl;have e:=WW (qP t k) (Fv k (kr t (k:Int)));rw [Fw,Ae,HC] at e;simp only [E8,zB7,ai hk,f0,m0,zB9,zB4,aaS,acg,k1,cl3,dK,HC,c1,arU,Ae,snR,e,arV,Fw,w,OA,ahd,Sj]) (by
  simp only [E8,aag,ay,zB0,zB9,aaS,OA,ahd,Sj]) N 0 (abk _) (by unfold dC at hN; omega)
 exact key
end
def QB (rows:List (List Int)) {j:Nat} (hj:j < rows.length) (x:List Int):rowOf (bR (map n59 (rows.set j x))) j=map n3 x:=by
 rw [Je _ (by rw [acq]; exact hj)];simp
def qi (f:Int->Int) (rows:List (List Int)) (k:Nat):List (List Int):=(rows.take k).map (map f)++rows.drop k
def Af (f:Int->Int) (rows:List (List Int)) (k:Nat) (hk:k<=rows.length):(qi f rows k).length=rows.length:=by simp [qi]; omega
def Jf (f:Int->Int) (rows:List (List Int)) (k:Nat) (hk:k < rows.length):(qi f rows k)[k]'(by rw [Af _ _ _ (by omega)]; exact hk)=rows[k]:=by
 unfold qi;rw [adU (by simp; omega)];simp [show min k rows.length=k by omega]
def Fx (f:Int->Int) (rows:List (List Int)) (k:Nat) (hk:k < rows.length):(qi f rows k).set k (rows[k].map f)=qi f rows (k+1):=by
 unfold qi;rw [aeT _ _ (by simp; omega),List.take_succ_eq_append_getElem hk,acf,adl,aag,aca,show k - min k rows.length=0 by omega,aeH hk];rfl
def LP (f:Int->Int) (rows:List (List Int)):qi f rows rows.length=rows.map (map f):=by simp [qi]
def qj (f:Int->Int) (rows:List (List Int)):∀ (k:Nat),k<=rows.length->ia (qi f rows k)=ia rows
 |0,_=>by simp [qi]
 |k+1,hk=>by
  rw [<- Fx f rows k hk,abo,qj f rows k (by omega)];have h:=Jf f rows k hk;rw [acK,ab3 (by rw [Af _ _ _ (by omega)]; exact hk),h];simp
section
variable (hN:dC N)
include hN
theorem Jg (oh:Unit×Int×(List (List Int))×(List (Nat×Nat))) (yk:Int×Int) (lC:Int×Int×Int×Int×(List (List Int))×(List (Nat×Nat))) (A B:Int) (hA:d3 (an (rowOf (bR (map n59 lC.2.2.2.2.1)) (cY (an (map fV lC.2.2.2.2.2) (toNat yk.1))).1) (toNat yk.2))=A) (hB:d3 (an (rowOf (bR (map n59 lC.2.2.2.2.1)) (cY (an (map fV lC.2.2.2.2.2) (toNat lC.1))).1) (toNat lC.2.1))=B) (rows:List (List Int)) (hv:oh.2.2.2.length=rows.length) {j:Nat} (hj:j < rows.length) (hr:rows[j].length<=1000) :
  ao (lG N oh yk lC ((j:Int),rows,ia rows)) N (0,rows,ia rows)=some (rows.set j (rows[j].map λ x=>if x=A then B else x),ia rows):=by
 obtain ⟨r,er⟩:∃ r,r=rows[j]:=⟨_,rfl⟩;rw [<- er] at hr ⊢;obtain ⟨g1,g2⟩:=gR rows hj;rw [<- er] at g1;have dj:decide (j < rows.length)=true:=decide_eq_true hj;have key:=aL (rd:=lG N oh yk lC ((j:Int),rows,ia rows)) r.length (λ k=>((k:Int),rows.set j (qe (λ x=>if x=A then B else x) r k),ia rows)) (rows.set j (r.map λ x=>if x=A then B else x),ia rows) (λ k hk=>by
  have ml:=qh (λ x=>if x=A then B else x) r k (by omega);obtain ⟨m1,m2⟩:=g3 (qe (λ x=>if x=A then B else x) r k) (k:=k) (by omega);rw [C3 _ r k hk] at m1;have w:wrap .i64 ((k:Int)+1)=((k+1:Nat):Int):=aN (by omega);have dk:decide (k < r.length)=true:=decide_eq_true hk;cases hc:(gI r (k:Int) == A) with
  |true=>
   have he:gI r (k:Int)=A:=by simpa using hc
   have rO:=Ac (λ x=>if x=A then B else x) r k hk;simp only [he,if_true] at rO;simp only [lG,zB7,dK,hv,zB22,af hj,dj,g1,g2,ai hk,af hk,QB rows hj,ml,dk,m1,m2,hA,hB,hc,SJ,ami,afy,rO,zB9,zB4,w,ug,rC]
  |false=>
   have he:¬ gI r (k:Int)=A:=by simpa using hc
   have LO:=Bn (λ x=>if x=A then B else x) r k hk (by simp only [if_neg he]);simp only [lG,zB7,dK,hv,zB22,af hj,dj,g1,g2,ai hk,af hk,QB rows hj,ml,dk,m1,m2,hA,hB,hc,zB9,zB0,w,<- LO,ug,rC]) (by
  simp only [lG,zB7,dK,hv,zB22,af hj,dj,g1,g2,ay,zB0,zB9,Fq,ug,rC]) N 0 (abk _) (by unfold dC at hN; omega)
 have e0:rows.set j (qe (λ x=>if x=A then B else x) r 0)=rows:=by
  have:qe (λ x=>if x=A then B else x) r 0=r:=by simp [qe]
  rw [this,er,List.set_getElem_self]
 rw [e0] at key;exact key
theorem xf (oh:Unit×Int×(List (List Int))×(List (Nat×Nat))) (yk:Int×Int) (lC:Int×Int×Int×Int×(List (List Int))×(List (Nat×Nat))) (A B:Int) (hA:d3 (an (rowOf (bR (map n59 lC.2.2.2.2.1)) (cY (an (map fV lC.2.2.2.2.2) (toNat yk.1))).1) (toNat yk.2))=A) (hB:d3 (an (rowOf (bR (map n59 lC.2.2.2.2.1)) (cY (an (map fV lC.2.2.2.2.2) (toNat lC.1))).1) (toNat lC.2.1))=B) (rows:List (List Int)) (hv:oh.2.2.2.length=rows.length) (hl:rows.length<=1000) (hr:∀ r∈rows,r.length<=1000) :
  ao (sj N oh yk lC) N (0,rows,ia rows)=some (rows.map (map λ x=>if x=A then B else x),ia rows):=by
 have key:=aL (rd:=sj N oh yk lC) rows.length (λ k=>((k:Int),qi (λ x=>if x=A then B else x) rows k,ia (qi (λ x=>if x=A then B else x) rows k))) (rows.map (map λ x=>if x=A then B else x),ia (qi (λ x=>if x=A then B else x) rows rows.length)) (λ k hk=>by
  have ml:=Af (λ x=>if x=A then B else x) rows k (by omega);have at_:=Jf (λ x=>if x=A then B else x) rows k hk;have w:wrap .i64 ((k:Int)+1)=((k+1:Nat):Int):=aN (by omega);have k1:=Jg hN oh yk lC A B hA hB (qi (λ x=>if x=A then B else x) rows k) (by omega) (j:=k) (by omega) (by rw [at_]; exact hr _ (ab5 hk));rw [at_,Fx _ rows k hk] at k1;simp only [qj _ rows k (Nat.le_of_lt hk),qj _ rows (k+1) hk] at k1 ⊢;simp only [sj,aag,hv,ai hk,zB9,zB4,k1,w,ug,rC]) (by
  simp only [sj,aag,hv,ay,zB0,zB9,LP,ug,rC]) N 0 (abk _) (by unfold dC at hN; omega)
 have e0:qi (λ x=>if x=A then B else x) rows 0=rows:=by simp [qi]
 rw [e0,qj _ rows rows.length (adP _)] at key;exact key
theorem Gn (oh:Unit×Int×(List (List Int))×(List (Nat×Nat))) (As:Int×Int) (lC:Int×Int×Int×Int×(List (List Int))×(List (Nat×Nat))) (vh:(List (List Int))×(List (Nat×Nat))) (A B:Int) (hA:d3 (an (rowOf (bR (map n59 vh.1)) (cY (an (map fV vh.2) (toNat As.1))).1) (toNat As.2))=A) (hB:d3 (an (rowOf (bR (map n59 vh.1)) (cY (an (map fV vh.2) (toNat lC.2.2.1))).1) (toNat lC.2.2.2.1))=B) (rows:List (List Int)) (hv:oh.2.2.2.length=rows.length) {j:Nat} (hj:j < rows.length) (hr:rows[j].length<=1000) :
  ao (j9 N oh As lC vh ((j:Int),rows,ia rows)) N (0,rows,ia rows)=some (rows.set j (rows[j].map λ x=>if x=A then B else x),ia rows):=by
 obtain ⟨r,er⟩:∃ r,r=rows[j]:=⟨_,rfl⟩;rw [<- er] at hr ⊢;obtain ⟨g1,g2⟩:=gR rows hj;rw [<- er] at g1;have dj:decide (j < rows.length)=true:=decide_eq_true hj;have key:=aL (rd:=j9 N oh As lC vh ((j:Int),rows,ia rows)) r.length (λ k=>((k:Int),rows.set j (qe (λ x=>if x=A then B else x) r k),ia rows)) (rows.set j (r.map λ x=>if x=A then B else x),ia rows) (λ k hk=>by
  have ml:=qh (λ x=>if x=A then B else x) r k (by omega);obtain ⟨m1,m2⟩:=g3 (qe (λ x=>if x=A then B else x) r k) (k:=k) (by omega);rw [C3 _ r k hk] at m1;have w:wrap .i64 ((k:Int)+1)=((k+1:Nat):Int):=aN (by omega);have dk:decide (k < r.length)=true:=decide_eq_true hk;cases hc:(gI r (k:Int) == A) with
  |true=>
   have he:gI r (k:Int)=A:=by simpa using hc
   have rO:=Ac (λ x=>if x=A then B else x) r k hk;simp only [he,if_true] at rO;simp only [j9,zB7,dK,hv,zB22,af hj,dj,g1,g2,ai hk,af hk,QB rows hj,ml,dk,m1,m2,hA,hB,hc,SJ,ami,afy,rO,zB9,zB4,w,ug,rC]
  |false=>
   have he:¬ gI r (k:Int)=A:=by simpa using hc
   have LO:=Bn (λ x=>if x=A then B else x) r k hk (by simp only [if_neg he]);simp only [j9,zB7,dK,hv,zB22,af hj,dj,g1,g2,ai hk,af hk,QB rows hj,ml,dk,m1,m2,hA,hB,hc,zB9,zB0,w,<- LO,ug,rC]) (by
  simp only [j9,zB7,dK,hv,zB22,af hj,dj,g1,g2,ay,zB0,zB9,Fq,ug,rC]) N 0 (abk _) (by unfold dC at hN; omega)
 have e0:rows.set j (qe (λ x=>if x=A then B else x) r 0)=rows:=by
  have:qe (λ x=>if x=A then B else x) r 0=r:=by simp [qe]
  rw [this,er,List.set_getElem_self]
 rw [e0] at key;exact key
theorem vu (oh:Unit×Int×(List (List Int))×(List (Nat×Nat))) (As:Int×Int) (lC:Int×Int×Int×Int×(List (List Int))×(List (Nat×Nat))) (vh:(List (List Int))×(List (Nat×Nat))) (A B:Int) (hA:d3 (an (rowOf (bR (map n59 vh.1)) (cY (an (map fV vh.2) (toNat As.1))).1) (toNat As.2))=A) (hB:d3 (an (rowOf (bR (map n59 vh.1)) (cY (an (map fV vh.2) (toNat lC.2.2.1))).1) (toNat lC.2.2.2.1))=B) (rows:List (List Int)) (hv:oh.2.2.2.length=rows.length) (hl:rows.length<=1000) (hr:∀ r∈rows,r.length<=1000) :
  ao (pX N oh As lC vh) N (0,rows,ia rows)=some (rows.map (map λ x=>if x=A then B else x),ia rows):=by
 have key:=aL (rd:=pX N oh As lC vh) rows.length (λ k=>((k:Int),qi (λ x=>if x=A then B else x) rows k,ia (qi (λ x=>if x=A then B else x) rows k))) (rows.map (map λ x=>if x=A then B else x),ia (qi (λ x=>if x=A then B else x) rows rows.length)) (λ k hk=>by
  have ml:=Af (λ x=>if x=A then B else x) rows k (by omega);have at_:=Jf (λ x=>if x=A then B else x) rows k hk;have w:wrap .i64 ((k:Int)+1)=((k+1:Nat):Int):=aN (by omega);have k1:=Gn hN oh As lC vh A B hA hB (qi (λ x=>if x=A then B else x) rows k) (by omega) (j:=k) (by omega) (by rw [at_]; exact hr _ (ab5 hk));rw [at_,Fx _ rows k hk] at k1;simp only [qj _ rows k (Nat.le_of_lt hk),qj _ rows (k+1) hk] at k1 ⊢;simp only [pX,aag,hv,ai hk,zB9,zB4,k1,w,ug,rC]) (by
  simp only [pX,aag,hv,ay,zB0,zB9,LP,ug,rC]) N 0 (abk _) (by unfold dC at hN; omega)
 have e0:qi (λ x=>if x=A then B else x) rows 0=rows:=by simp [qi]
 rw [e0,qj _ rows rows.length (adP _)] at key;exact key
end
def rD (s:List Int×List (List Int)) (r:List Int):List Int×List (List Int):=((r.foldl jV (s.1,[])).1,s.2++[(r.foldl jV (s.1,[])).2])
def nbR (rows:List (List Int)):List (List Int):=(rows.foldl rD ([],[])).2
def abq (l:List Int):∀ (p o:List Int),(l.foldl jV (p,o)).1=(l.foldl jV (p,[])).1/\(l.foldl jV (p,o)).2=o++(l.foldl jV (p,[])).2:=by
 induction l with
 |nil=>intro p o; exact ⟨rfl,by simp⟩
 |cons x l ih=>
  intro p o;rw [ab7,ab7];have e:∀ o:List Int,jV (p,o) x=((jV (p,[]) x).1,o++[(p.idxOf x:Int)]):=λ o=>rfl
  rw [e o,e []];obtain ⟨h1,h2⟩:=ih (jV (p,[]) x).1 (o++[(p.idxOf x:Int)]);obtain ⟨k1,k2⟩:=ih (jV (p,[]) x).1 ([]++[(p.idxOf x:Int)]);rw [h1,h2,k1,k2];exact ⟨rfl,by simp⟩
def LQ:∀ (rows:List (List Int)) (p:List Int) (o:List (List Int)),(rows.foldl rD (p,o)).2.flatten=o.flatten++(rows.flatten.foldl jV (p,[])).2/\(rows.foldl rD (p,o)).2.map adk=o.map adk++rows.map adk
 |[],p,o=>by simp
 |r::rows,p,o=>by
  rw [ab7];obtain ⟨h1,h2⟩:=LQ rows (rD (p,o) r).1 (rD (p,o) r).2;have e:rD (p,o) r=((rD (p,o) r).1,(rD (p,o) r).2):=rfl;rw [e,h1,h2];have n2:=(Fs r (p,[])).2;refine ⟨?_,?_⟩
  .rw [ad6,adh];have k:=abq rows.flatten (r.foldl jV (p,[])).1 (r.foldl jV (p,[])).2;have e2:((r.foldl jV (p,[])).1,(r.foldl jV (p,[])).2)=r.foldl jV (p,[]):=rfl;rw [e2] at k;rw [k.2];show (o++[(r.foldl jV (p,[])).2]).flatten++_=_;rw [List.flatten_append,adl];simp [rD]
  .show (o++[(r.foldl jV (p,[])).2]).map adk++_=_;rw [acf,adl];simp [n2]
def WY (rows:List (List Int)):(nbR rows).flatten=WU rows.flatten/\(nbR rows).map adk=rows.map adk:=by
 obtain ⟨h1,h2⟩:=LQ rows [] [];exact ⟨by unfold nbR WU; rw [h1]; rfl,by unfold nbR; rw [h2]; rfl⟩
def QC {α:Type}:∀ (a b:List (List α)),a.map adk=b.map adk->a.flatten=b.flatten->a=b
 |[],[],_,_=>rfl
 |[],_::_,h,_=>by simp at h
 |_::_,[],h,_=>by simp at h
 |x::a,y::b,h,k=>by
  rw [acO,acO,List.cons.injEq] at h;rw [ad6,ad6] at k;obtain ⟨e1,e2⟩:=List.append_inj k h.1;rw [e1,QC a b h.2 e2]
section
variable (hN:dC N)
include hN
theorem WZ (rows:List (List Int)) (i:Nat) (hi:i < rows.length) (j:Nat) (hj:j < rows[i].length) (Au:Unit×List (List Int)×List (Nat×Nat)) (ho:Au.2.2.length=rows.length)
  (v:List Int×List (List Int)×Int×List (List Int)×List (Nat×Nat)) (hv:v.2.2.1=(i:Int)) (u:List Int×List (List Int)×List Int×Int×List (List Int)×List (Nat×Nat)) (hu:u.2.2.2.1=(j:Int)) (seen:List Int) (out:List (List Int)) (row:List Int) (hs:seen.length<=100000) :
  ao (iD N Au v u) N (seen,out,row,0,rows,ia rows)=some (seen,out,row,((seen.idxOf (gI rows[i] j):Nat):Int),rows,ia rows):=by
 have hle:seen.idxOf (gI rows[i] j)<=seen.length:=List.idxOf_le_length;obtain ⟨g1,g2⟩:=gR rows hi;have di:decide (i < rows.length)=true:=decide_eq_true hi;have dj:decide (j < rows[i].length)=true:=decide_eq_true hj;obtain ⟨j1,j2⟩:=g3 rows[i] hj;have key:=aL (rd:=iD N Au v u) (seen.idxOf (gI rows[i] j)) (λ k=>(seen,out,row,(k:Int),rows,ia rows)) (seen,out,row,((seen.idxOf (gI rows[i] j):Nat):Int),rows,ia rows) (λ k hk=>by
  have Ar:k < seen.length:=by omega
  obtain ⟨s1,s2⟩:=Mq seen Ar;have de:(seen[k] != gI rows[i] (j:Int))=true:=by
   have:=List.not_of_lt_findIdx (p:=(· == gI rows[i] (j:Int))) (show k < List.findIdx (· == gI rows[i] (j:Int)) seen from hk);simpa using this
  have w:wrap .i64 ((k:Int)+1)=((k+1:Nat):Int):=aN (by omega);simp only [iD,zB3,dK,ho,hv,hu,ai Ar,af Ar,zB22,s1,s2,af hi,di,g1,g2,af hj,dj,Je rows hi,j1,j2,de,zB9,zB4,w,I4,Wc]) (by
  by_cases he:seen.idxOf (gI rows[i] j)=seen.length
  .simp only [iD,zB3,he,ay,zB0,zB9,I4,Wc]
  .have Ar:seen.idxOf (gI rows[i] j) < seen.length:=by omega
   obtain ⟨s1,s2⟩:=Mq seen Ar;have de:(seen[seen.idxOf (gI rows[i] (j:Int))] != gI rows[i] (j:Int))=false:=by rw [List.getElem_idxOf Ar]; simp
   simp only [iD,zB3,dK,ho,hv,hu,ai Ar,af Ar,zB22,s1,s2,af hi,di,g1,g2,af hj,dj,Je rows hi,j1,j2,de,zB9,zB0,I4,Wc]) N 0 (abk _) (by unfold dC at hN; omega)
 exact key
omit hN in
theorem OS (l:List Int) (p:List Int) (k:Nat) (hk:k < l.length):(l.take (k+1)).foldl jV (p,[])=jV ((l.take k).foldl jV (p,[])) (gI l (k:Int)):=by
 rw [List.take_succ_eq_append_getElem hk,adh,Ab _ hk]; rfl
theorem ah3 (rows:List (List Int)) (i:Nat) (hi:i < rows.length) (hr:rows[i].length<=1000) (Au:Unit×List (List Int)×List (Nat×Nat)) (ho:Au.2.2.length=rows.length)
  (v:List Int×List (List Int)×Int×List (List Int)×List (Nat×Nat)) (hv:v.2.2.1=(i:Int)) (seen:List Int) (out:List (List Int)) (hs:seen.length<=90000) (Uz:out.length<=1000) :
  ao (ja N Au v) N (seen,out,[],0,rows,ia rows)=some ((rows[i].foldl jV (seen,[])).1,out,(rows[i].foldl jV (seen,[])).2,rows,ia rows):=by
 obtain ⟨g1,g2⟩:=gR rows hi;have di:decide (i < rows.length)=true:=decide_eq_true hi;have key:=aL (rd:=ja N Au v) rows[i].length (λ k=>(((rows[i].take k).foldl jV (seen,[])).1,out,((rows[i].take k).foldl jV (seen,[])).2,(k:Int),rows,ia rows)) ((rows[i].foldl jV (seen,[])).1,out,(rows[i].foldl jV (seen,[])).2,rows,ia rows) (λ k hk=>by
  obtain ⟨n1,n2⟩:=Fs (rows[i].take k) (seen,[]);simp only [OS rows[i] seen k hk];generalize (rows[i].take k).foldl jV (seen,[])=s at *;obtain ⟨sn,ro⟩:=s;have n1:sn.length<=seen.length+(rows[i].take k).length:=n1;have n2:ro.length=0+(rows[i].take k).length:=n2;rw [aca] at n1 n2;have k1:=WZ hN rows i hi k hk Au ho v hv (sn,out,ro,(k:Int),rows,ia rows) rfl sn out ro (by omega);have w:wrap .i64 ((k:Int)+1)=((k+1:Nat):Int):=aN (by omega);have dk:decide (k < rows[i].length)=true:=decide_eq_true hk;obtain ⟨j1,j2⟩:=g3 rows[i] hk;have c1:decide ((sn.length+1)*8<=140737488355328)=true:=decide_eq_true (by omega);have c2:decide ((ro.length+1)*8<=140737488355328)=true:=decide_eq_true (by omega);show ja N Au v (sn,out,ro,(k:Int),rows,ia rows)=some (.inl ((jV (sn,ro) (gI rows[i] (k:Int))).1,out,(jV (sn,ro) (gI rows[i] (k:Int))).2,((k+1:Nat):Int),rows,ia rows));have e2:(jV (sn,ro) (gI rows[i] (k:Int))).2=ro++[((sn.idxOf (gI rows[i] (k:Int)):Nat):Int)]:=rfl;have e1:(jV (sn,ro) (gI rows[i] (k:Int))).1=if sn.idxOf (gI rows[i] (k:Int))=sn.length then sn++[gI rows[i] (k:Int)] else sn:=rfl
  rw [e1,e2];cases hc:(((sn.idxOf (gI rows[i] (k:Int)):Nat):Int) == ((sn.length:Nat):Int)) with
  |true=>
   have he:sn.idxOf (gI rows[i] (k:Int))=sn.length:=by have:=beq_iff_eq.1 hc; omega
   rw [if_pos he];simp only [ja,zB3,dK,ho,hv,zB22,af hi,di,g1,g2,ai hk,af hk,dk,Je rows hi,j1,j2,k1,hc,xd,c1,c2,zB9,zB4,w,acu,aci,aaL,Wd,OB,aaT,I4]
  |false=>
   have he:¬ sn.idxOf (gI rows[i] (k:Int))=sn.length:=λ e=>by rw [e] at hc; simp at hc
   rw [if_neg he];simp only [ja,zB3,dK,ho,hv,zB22,af hi,di,g1,g2,ai hk,af hk,dk,Je rows hi,j1,j2,k1,hc,xd,c1,c2,zB9,zB0,w,acu,aci,aaL,Wd,OB,aaT,I4]) (by
  rw [acN];simp only [ja,zB3,dK,ho,hv,zB22,af hi,di,g1,g2,ay,zB0,zB9,Wd,OB,aaT,I4]) N 0 (abk _) (by unfold dC at hN; omega)
 exact key
omit hN in
theorem LR:∀ (l:List (List Int)) (s:List Int×List (List Int)),(∀ r∈l,r.length<=1000)->(l.foldl rD s).1.length<=s.1.length+1000*l.length/\(l.foldl rD s).2.length=s.2.length+l.length
 |[],s,_=>⟨by simp,by simp⟩
 |r::l,s,h=>by
  obtain ⟨h1,h2⟩:=LR l (rD s r) λ x hx=>h x (ab6 _ hx)
  have n1:=(Fs r (s.1,[])).1;have hr:=h r acd;have e1:(rD s r).1.length<=s.1.length+1000:=Nat.le_trans n1 (by show s.1.length+r.length<=_; omega);have e2:(rD s r).2.length=s.2.length+1:=by simp [rD]
  exact ⟨by rw [ab7,adx]; omega,by rw [ab7,adx]; omega⟩
omit hN in
theorem W0 (l:List (List Int)) (x:List Int):map n59 l++[AV.list .bV 1 (map n3 x)]=map n59 (l++[x]):=by rw [acf]; rfl
theorem abr (rows:List (List Int)) (hl:rows.length<=80) (hr:∀ r∈rows,r.length<=1000) (Au:Unit×List (List Int)×List (Nat×Nat)) (ho:Au.2.2.length=rows.length) :
  ao (mR N Au) N ([],[],0,rows,ia rows)=some (nbR rows,rows,ia rows):=by
 have key:=aL (rd:=mR N Au) rows.length (λ k=>(((rows.take k).foldl rD ([],[])).1,((rows.take k).foldl rD ([],[])).2,(k:Int),rows,ia rows)) (nbR rows,rows,ia rows) (λ k hk=>by
  obtain ⟨n1,n2⟩:=LR (rows.take k) ([],[]) λ r h=>hr r (aeu h)
  have e:(rows.take (k+1)).foldl rD ([],[])=rD ((rows.take k).foldl rD ([],[])) rows[k]:=by
   rw [List.take_succ_eq_append_getElem hk,adh]; rfl
  simp only [e];generalize (rows.take k).foldl rD ([],[])=s at *;obtain ⟨sn,out⟩:=s;have n1:sn.length<=0+1000*(rows.take k).length:=n1;have n2:out.length=0+(rows.take k).length:=n2;rw [aca] at n1 n2;have k1:=ah3 hN rows k hk (hr _ (ab5 hk)) Au ho (sn,out,(k:Int),rows,ia rows) rfl sn out (by omega) (by omega);have w:wrap .i64 ((k:Int)+1)=((k+1:Nat):Int):=aN (by omega);have c1:decide ((out.length+1)*24<=140737488355328)=true:=decide_eq_true (by omega);have f0:allFit (fits p3) ([]:List AV)=true:=rfl;have m0:map d3 ([]:List AV)=[]:=rfl;have m1:map n3 []=([]:List AV):=rfl;show mR N Au (sn,out,(k:Int),rows,ia rows)=some (.inl ((rows[k].foldl jV (sn,[])).1,out++[(rows[k].foldl jV (sn,[])).2],((k+1:Nat):Int),rows,ia rows));simp only [mR,zB3,ho,ai hk,f0,m0,m1,acg,k1,c1,W0,zB9,zB4,w,acu,aci,aaL,OB]) (by
  rw [acN];simp only [mR,zB3,ho,ay,zB0,zB9,OB];rfl) N 0 (abk _) (by unfold dC at hN; omega)
 exact key
end
section
variable (hN:dC N)
include hN
theorem W1 (l:List Int) (h:l.length<=1000000):T26 N (l,l)=some true:=by
 have key:=aL (rd:=E7 N l l) l.length (λ k=>(k:Int)) (.inr ()) (λ k hk=>by
  obtain ⟨a1,a2⟩:=Mq l hk;simp only [E7,zB11,a1,a2,ai hk,af hk,bne_self_eq_false,aN (show k < 9223372036854775807 by omega),aaJ,aaL,zB10]) (by
  simp only [E7,zB15]) N 0 (abk _) (by unfold dC at hN; omega)
 have key:ao (E7 N l l) N 0=some (.inr ()):=key;rw [ag6,bne_self_eq_false,cond_false,key]; rfl
end
def ah4 {t:bh} (h:fS t=0):Gd t/\∀ e,aU t e=true->1<=(mj t e).1/\(mj t e).1<=10000:=by
 obtain ⟨_,_,h3,_,h5⟩:=Fi h;unfold ov at h3;rw [iX] at h3;unfold zX at h5;rw [iX] at h5;have hp:∀ (k:Nat) (hk:k < t.1.length),3<=t.1[k].2.length/\t.1[k].2.length<=8/\∀ s∈t.1[k].2,ot s=0:=λ k hk=>by
  have:=h3 (ub (t.1.take k) t.1[k]) (by rw [List.mem_mapIdx]; exact ⟨k,hk,rfl⟩);unfold ub at this;split at this
  .cases this
  .split at this
   .cases this
   .split at this
    .cases this
    .rw [iX] at this;exact ⟨by omega,by omega,λ s hs=>this _ (List.mem_map_of_mem hs)⟩
 have hs:∀ (i:Nat) (hi:i < t.2.length),aU t (sA t.2[i])=true/\aU t (sB t.2[i])=true/\sA t.2[i]≠sB t.2[i]/\(t.2.take i).any (I9 t.2[i])=false:=λ i hi=>by
  have:=h5 (sD t (t.2.take i) t.2[i]) (by rw [List.mem_mapIdx]; exact ⟨i,hi,rfl⟩);unfold sD at this;split at this
  .cases this
  .rename_i c1;split at this
   .cases this
   .rename_i c2;split at this
    .cases this
    .rename_i c3;have c1:(aU t (sA t.2[i])&&aU t (sB t.2[i]))=true:=by
      cases hc:(aU t (sA t.2[i])&&aU t (sB t.2[i]))
      .exact absurd hc c1
      .rfl
     rw [adF] at c1;exact ⟨c1.1,c1.2,λ e=>c2 (kN.2 e),by simpa using c3⟩
 refine ⟨⟨λ p h1 h2=>?_,λ s hsm=>?_,?_⟩,λ e he=>?_⟩
 .obtain ⟨k,rfl⟩:∃ k:Nat,p=k:=⟨p.toNat,by omega⟩;have hk:k < t.1.length:=by omega
  rw [gK t hk];exact ⟨(hp k hk).1,(hp k hk).2.1⟩
 .obtain ⟨i,hi,rfl⟩:=adn hsm;exact ⟨(hs i hi).1,(hs i hi).2.1,(hs i hi).2.2.1⟩
 .rw [List.pairwise_iff_getElem];intro i j hi hj hij;have c:=(hs j hj).2.2.2;rw [List.any_eq_false] at c;have c:=c t.2[i] (by
   rw [List.mem_iff_getElem];exact ⟨i,by rw [aca]; omega,List.getElem_take⟩)
  unfold I9 at c;simp only [Bool.or_eq_true,kN,not_or] at c;exact ⟨c.1,c.2.1,c.2.2.1,c.2.2.2⟩
 .obtain ⟨k,i,rfl,hk,hi⟩:=ni he;rw [Bi t hk hi];have:=(hp k hk).2.2 _ (ab5 hi);unfold ot at this;rw [iX] at this;have:=this (PL t.1[k].2[i].1 1 10000) acd;unfold PL at this;split at this
  .cases this
  .omega
def W2 {t:bh} (g:Gd t) {s:mi} (hs:s∈t.2):(0<=s.1/\s.1 < (t.1.length:Int))/\0<=s.2.2.1/\s.2.2.1 < (t.1.length:Int):=by
 have:=g.Aw s hs;have a:=cF.1 this.1;have b:=cF.1 this.2.1;exact ⟨⟨a.1,a.2.1⟩,b.1,b.2.1⟩
def W3 {t:bh} (g:Gd t):∀ p∈t.2.map qx,p.1∈bH t.1.length/\p.2∈bH t.1.length:=by
 intro p hp;obtain ⟨s,hs,rfl⟩:=adR.1 hp;exact ⟨kW.2 (W2 g hs).1,kW.2 (W2 g hs).2⟩
def Jh (t:bh) {p:Int} (hp:p∈bH t.1.length):(av t).getD p.toNat 0=ar (fR (bH t.1.length) (t.2.map qx)) p:=by
 have h:=kW.1 hp;unfold av bH;simp only [acW];rw [acK,aed,List.getElem?_range (by omega)];show ar _ ((p.toNat:Nat):Int)=_;rw [show ((p.toNat:Nat):Int)=p by omega]
def ib (t:bh):(av t).length=t.1.length:=by unfold av; simp only [aag,iY]
def Ca {t:bh} (g:Gd t):(∀ p∈bH t.1.length,∀ r∈bH t.1.length,((av t).getD p.toNat 0=(av t).getD r.toNat 0↔Cn (λ a b=>(a,b)∈t.2.map qx) p r)) /\
  ∃ n:Nat,n<=t.1.length/\(∀ p∈bH t.1.length,∃ k:Nat,k < n/\(av t).getD p.toNat 0=(k:Int))/\∀ k,k < n->∃ p∈bH t.1.length,(av t).getD p.toNat 0=(k:Int):=by
 obtain ⟨_,h2,n,h3,h4,h5⟩:=vt (Hw t.1.length) (W3 g);rw [iY] at h3;refine ⟨λ p hp r hr=>by rw [Jh t hp,Jh t hr]; exact h2 p hp r hr,n,h3,λ p hp=>?_,λ k hk=>?_⟩
 .obtain ⟨k,a,b,_⟩:=h4 p hp;exact ⟨k,a,by rw [Jh t hp]; exact b⟩
 .obtain ⟨p,hp,e⟩:=h5 k hk;exact ⟨p,hp,by rw [Jh t hp]; exact e⟩
def LS (t:bh) (h:Fl):Int×Int:=if h.2=true then h.1 else SB t h.1
def Ji {t:bh} {h:Fl} (he:aU t h.1=true):aU t (LS t h)=true:=by
 unfold LS;split
 .exact he
 .exact wh he
def Jj (t:bh) (h:Fl):(LS t h).1=h.1.1:=by
 unfold LS; split <;> rfl
def oM {t:bh} (g:Gd t) (he:aU t e=true):cg t e=SB t e:=by
 have h:=cF.1 he;have p:=g.IY e.1 h.1 h.2.1;unfold cg SB;have w:wrap .i64 (e.2+1)=e.2+1:=Ap ⟨by omega,by omega⟩;rw [w];refine ad4 rfl ?_;show Int.tmod (e.2+1) (kr t e.1:Int)=if e.2+1=(kr t e.1:Int) then 0 else e.2+1
 split
 .rename_i c;rw [c,Int.tmod_self]
 .rw [Int.tmod_eq_of_lt (by omega) (by omega)]
def Bp {t:bh} (g:Gd t) {x y:Int×Int}:(x,y)∈(fg t).map B3↔∃ s∈t.2,∃ b:Bool,x=LS t (sA s,b)/\y=LS t (sB s,b == s.2.2.2.2):=by
 unfold fg;rw [adR];constructor
 .rintro ⟨p,hp,e⟩;rw [aeQ] at hp;obtain ⟨s,hs,hp⟩:=hp;have u1:=oM g (g.Aw s hs).1;have u2:=oM g (g.Aw s hs).2.1;simp only [ad9,List.not_mem_nil,or_false] at hp;unfold dI at hp;rcases hp with rfl|rfl
  .refine ⟨s,hs,true,?_⟩;cases hw:s.2.2.2.2 <;> rw [hw] at e <;> cases e
   .exact ⟨rfl,u2⟩
   .exact ⟨rfl,rfl⟩
  .refine ⟨s,hs,false,?_⟩;cases hw:s.2.2.2.2 <;> rw [hw] at e <;> cases e
   .exact ⟨u1,rfl⟩
   .exact ⟨u1,u2⟩
 .rintro ⟨s,hs,b,rfl,rfl⟩;have u1:=oM g (g.Aw s hs).1;have u2:=oM g (g.Aw s hs).2.1;cases b
  .refine ⟨(dI t s).2,aeQ.2 ⟨s,hs,by simp⟩,?_⟩;unfold dI;cases hw:s.2.2.2.2
   .exact ad4 u1 rfl
   .exact ad4 u1 u2
  .refine ⟨(dI t s).1,aeQ.2 ⟨s,hs,by simp⟩,?_⟩;unfold dI;cases hw:s.2.2.2.2
   .exact ad4 rfl u2
   .exact ad4 rfl rfl
def Ag {t:bh} (g:Gd t):∀ p∈(fg t).map B3,p.1∈bM t/\p.2∈bM t:=by
 rintro ⟨x,y⟩ hp;rw [Bp g] at hp;obtain ⟨s,hs,b,rfl,rfl⟩:=hp;exact ⟨cZ.2 (Ji (g.Aw s hs).1),cZ.2 (Ji (g.Aw s hs).2.1)⟩
section
variable (hN:dC N)
include hN
end
def W4 {t:bh} (g:Gd t):∀ s∈t.2,ZX t s=true:=λ s hs=>by
 obtain ⟨a,b,_⟩:=g.Aw s hs;have ok:∀ e,aU t e=true->Ok t e=true:=λ e he=>by
  have:=cF.1 he;unfold Ok;simp only [adF,decide_eq_true_eq,ad7,beq_eq_false_iff_ne];exact ⟨⟨this.1,this.2.1⟩,by omega⟩
 unfold ZX;rw [adF];exact ⟨ok _ a,ok _ b⟩
section
variable (hN:dC N)
include hN
end
structure Vd (t:bh):Prop where
 err:fS t=0
 ne:t.1.length≠0
 le:t.1.length<=16
 Aw:t.2.length<=64
 gd:Gd t
 sd:∀ x∈t.1,x.2.length<=8
 msh:∀ e,aU t e=true->1<=(mj t e).1/\(mj t e).1<=10000
def amj {t:bh} (h:fS t=0):Vd t:=by
 obtain ⟨h1,h2,_,h4,_⟩:=Fi h;obtain ⟨g,m⟩:=ah4 h;refine ⟨h,h1,h2,h4,g,λ x hx=>?_,m⟩;obtain ⟨k,hk,rfl⟩:=adn hx;have:=(g.IY k (by omega) (by omega)).2;rw [gK t hk] at this;exact this
section
variable {t:bh} (v:Vd t)
include v
theorem Vd.LU:∀ x∈t.1,x.2.length<=1000:=λ x hx=>by have:=v.sd x hx; omega
theorem Vd.ah5:(bM t).length<=16000:=by
 have:=vV t.1 0 v.LU;have:=v.le;unfold bM;omega
theorem Vd.free:(jF t).length<=16000:=by
 have:=v.ah5;have:=List.length_filter_le (λ e:Int×Int=>(mtI t e).isNone) (bM t);unfold jF;omega
theorem Vd.open:(adr t).length<=16000:=by
 have:=(SH v.gd).head.length_le;rw [aag] at this;have:=v.free;unfold adr;omega
end
def LV:∀ (l:List Int) (m:Int),m<=l.foldl (λ m x=>if x > m then x else m) m/\(∀ x∈l,x<=l.foldl (λ m x=>if x > m then x else m) m)/\(l.foldl (λ m x=>if x > m then x else m) m=m\/l.foldl (λ m x=>if x > m then x else m) m∈l)
 |[],m=>⟨Int.le_refl _,λ _ h=>(nomatch h),.inl rfl⟩
 |a::l,m=>by
  rw [ab7];obtain ⟨h1,h2,h3⟩:=LV l (if a > m then a else m);have hm:m<=(if a > m then a else m)/\a<=(if a > m then a else m):=by split <;> omega
  refine ⟨by omega,λ x hx=>?_,?_⟩
  .rcases ad9.1 hx with rfl|hx
   .omega
   .exact h2 x hx
  .rcases h3 with h3|h3
   .by_cases c:a > m
    .rw [if_pos c] at h3 ⊢;exact .inr (by rw [h3]; exact acd)
    .rw [if_neg c] at h3 ⊢;exact .inl h3
   .exact .inr (ab6 _ h3)
section
variable (hN:dC N)
include hN
end
section
variable (hN:dC N)
include hN
end
section
variable (hN:dC N)
include hN
end
section
variable (hN:dC N)
include hN
end
def aT (t:bh) (F:Int×Int->Int):List (List Int):=(adi t.1.length).map λ p:Nat=>(adi (kr t (p:Int))).map λ k:Nat=>F ((p:Int),(k:Int))
def bS (t:bh) (F:Int×Int->Int):(aT t F).length=t.1.length:=by simp [aT]
def Bq (t:bh) (F:Int×Int->Int) {p:Nat} (hp:p < t.1.length):(aT t F)[p]'(by rw [bS]; exact hp)=(adi (kr t (p:Int))).map λ k:Nat=>F ((p:Int),(k:Int)):=by simp [aT]
def gZ (t:bh) (F:Int×Int->Int) {p:Nat} (hp:p < t.1.length):((aT t F)[p]'(by rw [bS]; exact hp)).length=kr t (p:Int):=by rw [Bq t F hp]; simp
def vv (t:bh) (F:Int×Int->Int) {p k:Nat} (hp:p < t.1.length) (hk:k < kr t (p:Int)):gI ((aT t F)[p]'(by rw [bS]; exact hp)) (k:Int)=F ((p:Int),(k:Int)):=by
 rw [Bq t F hp,Ab _ (by simpa using hk)];simp
def wq (t:bh) (F:Int×Int->Int) (a c:Int×Int):(aT t F).map (map λ x=>if x=F a then F c else x)=aT t (hZ F (a,c)):=by
 unfold aT;rw [acW];refine acL λ p _=>?_
 show map _ (map _ _)=_;rw [acW];rfl
def F0 (e:Int×Int):Int:=e.1*8+e.2
theorem abt (t:bh):qP t t.1.length=aT t F0:=rfl
def HD (t:bh) (F G:Int×Int->Int):ia (aT t F)=ia (aT t G):=QA (by rw [bS,bS]) λ j hj=>by
 rw [bS] at hj;rw [gZ t F hj,gZ t G hj]
def QD {N:Nat} (t:bh) (e:Int×Int):T39 N (t,e)=some e:=by rw [ag9]
def Jk {N:Nat} {t:bh} (he:aU t e=true):T40 N (t,e)=some (cg t e):=by
 have h:=cF.1 he;obtain ⟨p,hp⟩:∃ p:Nat,e.1=p:=⟨e.1.toNat,by omega⟩;have hp2:p < t.1.length:=by omega
 obtain ⟨a1,a2⟩:=Bh t.1 hp2;have sl:t.1[p].2.length=kr t (p:Int):=(gK t hp2).symm;have hn:decide (((kr t (p:Int):Nat):Int)=0)=false:=by
  rw [hp] at h;exact decide_eq_false (by omega)
 rw [aha];simp only [zB11,hp,af hp2,a1,a2,sl,hn,zB17,aaR];unfold cg;rw [hp]
section
variable (hN:dC N)
include hN
theorem LW (t:bh) (F:Int×Int->Int) {p s:Nat} (hp:p < t.1.length) (hs:s < kr t (p:Int)) :
  d3 (an (rowOf (bR (map n59 (aT t F))) (cY (an (map fV (ia (aT t F))) p)).1) s)=F ((p:Int),(s:Int)):=by
 have Yo:p < (aT t F).length:=by rw [bS]; exact hp
 obtain ⟨g1,g2⟩:=gR (aT t F) Yo;rw [g1,Je _ Yo,(g3 _ (by rw [gZ t F hp]; exact hs)).1,vv t F hp hs]
theorem W5 {t:bh} (g:Gd t) (hP:t.1.length<=80) (hT:t.2.length<=100000) {k:Nat} (hk:k < t.2.length) (F:Int×Int->Int) :
  tK N t ((),(k:Int),aT t F,ia (aT t F))=some (.inl ((),((k+1:Nat):Int),aT t (hZ (hZ F (B3 (dI t t.2[k]).1)) (B3 (dI t t.2[k]).2)),ia (aT t (hZ (hZ F (B3 (dI t t.2[k]).1)) (B3 (dI t t.2[k]).2))))):=by
 obtain ⟨a1,a2⟩:=Ss t.2 hk;obtain ⟨eA,eB,_⟩:=g.Aw t.2[k] (ab5 hk);have fA:=Jk (N:=N) eA;have fB:=Jk (N:=N) eB;have uA:aU t (cg t (sA t.2[k]))=true:=by rw [oM g eA]; exact wh eA
 have uB:aU t (cg t (sB t.2[k]))=true:=by rw [oM g eB]; exact wh eB
 have w:wrap .i64 ((k:Int)+1)=((k+1:Nat):Int):=aN (by omega);have hr:∀ G:Int×Int->Int,∀ r∈aT t G,r.length<=1000:=λ G r hr=>by
  obtain ⟨p,hp,rfl⟩:=adR.1 hr;have:=g.IY (p:Int) (by omega) (by have:=adj.1 hp; omega);simp; omega
 have nat:∀ e:Int×Int,aU t e=true->∃ p s:Nat,e=((p:Int),(s:Int))/\p < t.1.length/\s < kr t (p:Int):=λ e he=>by
  have h:=cF.1 he;have h1:((e.1.toNat:Nat):Int)=e.1:=by omega
  have h2:((e.2.toNat:Nat):Int)=e.2:=by omega
  refine ⟨e.1.toNat,e.2.toNat,?_,by omega,?_⟩
  .rw [h1,h2]
  .rw [h1]; omega
 obtain ⟨s,es⟩:∃ s,s=t.2[k]:=⟨_,rfl⟩;rw [<- es] at a1 eA eB fA fB uA uB ⊢;obtain ⟨pa,sa,q1,q2,q3⟩:=nat _ eA;obtain ⟨pb,sb,r1,r2,r3⟩:=nat _ eB;obtain ⟨XX,XY,q4,q5,q6⟩:=nat _ uA;obtain ⟨SM,SN,r4,r5,r6⟩:=nat _ uB;obtain ⟨s1,s2,s3,s4,tw⟩:=s;have q1:(s1,s2)=((pa:Int),(sa:Int)):=q1;have r1:(s3,s4)=((pb:Int),(sb:Int)):=r1;rw [Prod.mk.injEq] at q1 r1;obtain ⟨h1,h2⟩:=q1;obtain ⟨h3,h4⟩:=r1;subst h1 h2 h3 h4;have Q4:cg t ((pa:Int),(sa:Int))=((XX:Int),(XY:Int)):=q4;have R4:cg t ((pb:Int),(sb:Int))=((SM:Int),(SN:Int)):=r4;have FA:T40 N (t,(pa:Int),(sa:Int))=some ((XX:Int),(XY:Int)):=by rw [<- Q4]; exact fA
 have FB:T40 N (t,(pb:Int),(sb:Int))=some ((SM:Int),(SN:Int)):=by rw [<- R4]; exact fB
 have bA:T39 N (t,(pa:Int),(sa:Int))=some ((pa:Int),(sa:Int)):=QD t _;have bB:T39 N (t,(pb:Int),(sb:Int))=some ((pb:Int),(sb:Int)):=QD t _;have rd:∀ (G:Int×Int->Int) {p z:Nat},p < t.1.length->z < kr t (p:Int) ->
   (decide ((0:Int)<=(p:Int)/\(p:Int) < (t.1.length:Int))=true/\decide (p < t.1.length)=true) /\
   (cY (an (map fV (ia (aT t G))) p)=(p,kr t (p:Int))/\fits ft (an (map fV (ia (aT t G))) p)=true) /\
   (decide ((0:Int)<=(z:Int)/\(z:Int) < ((kr t (p:Int):Nat):Int))=true/\decide (z < kr t (p:Int))=true) /\
   ((rowOf (bR (map n59 (aT t G))) p).length=kr t (p:Int)/\d3 (an (rowOf (bR (map n59 (aT t G))) p) z)=G ((p:Int),(z:Int))/\fits p3 (an (rowOf (bR (map n59 (aT t G))) p) z)=true):=λ G {p z} hp hz=>by
  have Yo:p < (aT t G).length:=by rw [bS]; exact hp
  obtain ⟨g1,g2⟩:=gR (aT t G) Yo;rw [gZ t G hp] at g1;have:=g3 ((aT t G)[p]) (k:=z) (by rw [gZ t G hp]; exact hz);rw [vv t G hp hz] at this;refine ⟨⟨af hp,decide_eq_true hp⟩,⟨g1,g2⟩,⟨af hz,decide_eq_true hz⟩,?_,?_,?_⟩
  .rw [Je _ Yo,aag,gZ t G hp]
  .rw [Je _ Yo]; exact this.1
  .rw [Je _ Yo]; exact this.2
 cases tw with
 |true=>
  have hj:dI t ((pa:Int),(sa:Int),(pb:Int),(sb:Int),true)=(((pa:Int),(sa:Int),(pb:Int),(sb:Int)),((XX:Int),(XY:Int),(SM:Int),(SN:Int))):=by
   unfold dI;simp only [Q4,R4,if_true]
  rw [hj];have k1:=xf hN ((),(k:Int),aT t F,ia (aT t F)) ((pa:Int),(sa:Int)) ((pb:Int),(sb:Int),(SM:Int),(SN:Int),aT t F,ia (aT t F)) (F ((pa:Int),(sa:Int))) (F ((pb:Int),(sb:Int))) (LW hN t F q2 q3) (LW hN t F r2 r3) (aT t F) (dK _) (by rw [bS]; omega) (hr F);rw [wq,HD t F (hZ F (((pa:Int),(sa:Int)),((pb:Int),(sb:Int))))] at k1;generalize hG:hZ F (((pa:Int),(sa:Int)),((pb:Int),(sb:Int)))=G at k1;have k2:=vu hN ((),(k:Int),aT t F,ia (aT t G)) ((XX:Int),(XY:Int)) ((pb:Int),(sb:Int),(SM:Int),(SN:Int),aT t F,ia (aT t G)) (aT t G,ia (aT t G)) (G ((XX:Int),(XY:Int))) (G ((SM:Int),(SN:Int))) (LW hN t G q5 q6) (LW hN t G r5 r6) (aT t G) (by rw [dK]) (by rw [bS]; omega) (hr G);rw [wq] at k2;obtain ⟨⟨x1,x2⟩,⟨x3,x4⟩,⟨x5,x6⟩,x7,x8,x9⟩:=rd F q2 q3;obtain ⟨⟨y1,y2⟩,⟨y3,y4⟩,⟨y5,y6⟩,y7,y8,y9⟩:=rd F r2 r3;obtain ⟨⟨z1,z2⟩,⟨z3,z4⟩,⟨z5,z6⟩,z7,z8,z9⟩:=rd G q5 q6;obtain ⟨⟨v1,v2⟩,⟨v3,v4⟩,⟨v5,v6⟩,v7,v8,v9⟩:=rd G r5 r6;have ix:=HD t F G;rw [ix] at x3 x4 y3 y4;have ix2:=HD t (hZ G (((XX:Int),(XY:Int)),((SM:Int),(SN:Int)))) G;simp only [ix] at k1 k2 ⊢;simp only [tK,B3,hG,zB7,dK,bS,ai hk,af hk,zB22,a1,a2,bA,bB,FA,FB,Cy,Cz,zB18,beq_self_eq_true,x1,x2,x3,x4,x5,x6,x7,x9,y1,y2,y3,y4,y5,y6,y7,y9,z1,z2,z3,z4,z5,z6,z7,z9,v1,v2,v3,v4,v5,v6,v7,v9,k1,k2,zB9,zB4,aaS,w,OA,rC,Wb,Ba];rw [ix2]
 |false=>
  have hj:dI t ((pa:Int),(sa:Int),(pb:Int),(sb:Int),false)=(((pa:Int),(sa:Int),(SM:Int),(SN:Int)),((XX:Int),(XY:Int),(pb:Int),(sb:Int))):=by
   unfold dI;simp only [Q4,R4];rfl
  rw [hj];have k1:=xf hN ((),(k:Int),aT t F,ia (aT t F)) ((pa:Int),(sa:Int)) ((SM:Int),(SN:Int),(pb:Int),(sb:Int),aT t F,ia (aT t F)) (F ((pa:Int),(sa:Int))) (F ((SM:Int),(SN:Int))) (LW hN t F q2 q3) (LW hN t F r5 r6) (aT t F) (dK _) (by rw [bS]; omega) (hr F);rw [wq,HD t F (hZ F (((pa:Int),(sa:Int)),((SM:Int),(SN:Int))))] at k1;generalize hG:hZ F (((pa:Int),(sa:Int)),((SM:Int),(SN:Int)))=G at k1;have k2:=vu hN ((),(k:Int),aT t F,ia (aT t G)) ((XX:Int),(XY:Int)) ((SM:Int),(SN:Int),(pb:Int),(sb:Int),aT t F,ia (aT t G)) (aT t G,ia (aT t G)) (G ((XX:Int),(XY:Int))) (G ((pb:Int),(sb:Int))) (LW hN t G q5 q6) (LW hN t G r2 r3) (aT t G) (by rw [dK]) (by rw [bS]; omega) (hr G);rw [wq] at k2;obtain ⟨⟨x1,x2⟩,⟨x3,x4⟩,⟨x5,x6⟩,x7,x8,x9⟩:=rd F q2 q3;obtain ⟨⟨y1,y2⟩,⟨y3,y4⟩,⟨y5,y6⟩,y7,y8,y9⟩:=rd F r5 r6;obtain ⟨⟨z1,z2⟩,⟨z3,z4⟩,⟨z5,z6⟩,z7,z8,z9⟩:=rd G q5 q6;obtain ⟨⟨v1,v2⟩,⟨v3,v4⟩,⟨v5,v6⟩,v7,v8,v9⟩:=rd G r2 r3;have ix:=HD t F G;rw [ix] at x3 x4 y3 y4;have ix2:=HD t (hZ G (((XX:Int),(XY:Int)),((pb:Int),(sb:Int)))) G;simp only [ix] at k1 k2 ⊢;simp only [tK,B3,hG,zB7,dK,bS,ai hk,af hk,zB22,a1,a2,bA,bB,FA,FB,Cy,Cz,zB18,beq_self_eq_true,x1,x2,x3,x4,x5,x6,x7,x9,y1,y2,y3,y4,y5,y6,y7,y9,z1,z2,z3,z4,z5,z6,z7,z9,v1,v2,v3,v4,v5,v6,v7,v9,k1,k2,zB9,zB0,aaS,w,OA,rC,Wb,Ba];rw [ix2]
def sF (t:bh) (k:Nat):Int×Int->Int:=((t.2.take k).flatMap λ s=>[B3 (dI t s).1,B3 (dI t s).2]).foldl hZ F0
omit hN in
theorem SO (t:bh) {k:Nat} (hk:k < t.2.length):sF t (k+1)=hZ (hZ (sF t k) (B3 (dI t t.2[k]).1)) (B3 (dI t t.2[k]).2):=by
 unfold sF;rw [List.take_succ_eq_append_getElem hk,List.flatMap_append,adh];rfl
theorem SP {t:bh} (g:Gd t) (hP:t.1.length<=80) (hT:t.2.length<=100000) :
  ao (tK N t) N ((),0,aT t F0,ia (aT t F0))=some ((),aT t (sF t t.2.length),ia (aT t (sF t t.2.length))):=by
 have key:=aL (rd:=tK N t) t.2.length (λ k=>((),(k:Int),aT t (sF t k),ia (aT t (sF t k)))) ((),aT t (sF t t.2.length),ia (aT t (sF t t.2.length))) (λ k hk=>by
  have:=W5 hN g hP hT hk (sF t k);rw [<- SO t hk] at this;exact this) (by
  simp only [tK,aag,ay,zB0,zB9,aaS,OA,rC,Wb,Ba]) N 0 (abk _) (by unfold dC at hN; omega)
 exact key
theorem W6 {t:bh} (g:Gd t) (hP:t.1.length<=80) (hT:t.2.length<=100000):T25 N t=some (nbR (aT t (sF t t.2.length))):=by
 have hs:∀ p:Nat,p < t.1.length->kr t (p:Int)<=8:=λ p hp=>(g.IY (p:Int) (by omega) (by omega)).2
 have k1:=WX hN t (by omega) λ p hp=>Nat.le_trans (hs p hp) (by omega)
 have k2:=SP hN g hP hT;have hr:∀ r∈aT t (sF t t.2.length),r.length<=1000:=λ r hr=>by
  obtain ⟨p,hp,rfl⟩:=adR.1 hr;have:=hs p (adj.1 hp);simp; omega
 have k3:=abr hN (aT t (sF t t.2.length)) (by rw [bS]; omega) hr ((),aT t (sF t t.2.length),ia (aT t (sF t t.2.length))) (dK _);rw [abt] at k1;have f0:allFit (fits p3) ([]:List AV)=true:=rfl;have m0:map d3 ([]:List AV)=[]:=rfl;have f1:allFit (fits oW) ([]:List AV)=true:=rfl;have m1:map d59 ([]:List AV)=[]:=rfl;have f2:allFit (fits ft) ([]:List AV)=true:=rfl;have m2:map cY ([]:List AV)=[]:=rfl;have z:fC 1 ([]:List (List AV))=[]:=rfl;rw [ahf];simp only [z,f0,m0,f1,m1,f2,m2,rx0,acg,adf,k1,k2,k3,zB9,zB4,decide_true,aaS]
end
def Cb:∀ (l:List rk) (p:Nat) (g:Nat->Nat) (_:∀ k (hk:k < l.length),g k=l[k].2.length),((adi l.length).map λ k=>(adi (g k)).map λ i:Nat=>((((p+k:Nat):Int)),(i:Int))).flatten=eH l p
 |[],p,g,h=>rfl
 |x::l,p,g,h=>by
  rw [adx,List.range_succ_eq_map,acO,ad6,acW];unfold eH eP;have h0:=h 0 (by simp);have ih:=Cb l (p+1) (λ k=>g (k+1)) λ k hk=>h (k+1) (by simpa using hk)
  rw [h0,<- ih];congr 2;refine acL λ k _=>?_
  refine acL λ i _=>?_
  simp only [Prod.mk.injEq,and_true];omega
def xV (t:bh) (F:Int×Int->Int):(aT t F).flatten=(bM t).map F:=by
 have h:=Cb t.1 0 (λ k=>kr t (k:Int)) λ k hk=>gK t hk
 unfold bM;rw [<- h,List.map_flatten,acW];unfold aT;congr 1;refine acL λ k _=>?_
 show _=map F (map _ _);rw [acW];refine acL λ i _=>?_
 simp
def OT (t:bh) (F G:Int×Int->Int):(aT t F).map adk=(aT t G).map adk:=by
 unfold aT;rw [acW,acW];exact acL λ p _=>by simp
def HE {α:Type} [DecidableEq α] {l:List α} {c:α->Int} (hc:∀ x∈l,∀ y∈l,c x=c y->x=y):∀ (E:List (α×α)) (g:α->α) (G:α->Int),(∀ p∈E,p.1∈l/\p.2∈l)->(∀ x∈l,g x∈l)->(∀ x∈l,G x=c (g x)) ->
  ∀ x∈l,E.foldl hZ G x=c (E.foldl hZ g x)/\E.foldl hZ g x∈l
 |[],g,G,_,h1,h2,x,hx=>⟨h2 x hx,h1 x hx⟩
 |p::E,g,G,hE,h1,h2,x,hx=>by
  obtain ⟨p1,p2⟩:=hE p acd;rw [ab7,ab7];refine HE hc E (hZ g p) (hZ G p) (λ q hq=>hE q (ab6 _ hq)) (λ y hy=>?_) (λ y hy=>?_) x hx
  .unfold hZ;split
   .exact h1 _ p2
   .exact h1 y hy
  .unfold hZ;rw [h2 y hy,h2 _ p1,h2 _ p2];by_cases e:g y=g p.1
   .rw [if_pos (by rw [e]),if_pos e]
   .rw [if_neg λ k=>e (hc _ (h1 y hy) _ (h1 _ p1) k),if_neg e]
def abu (t:bh):((t.2.take t.2.length).flatMap λ s=>[B3 (dI t s).1,B3 (dI t s).2])=(fg t).map B3:=by
 rw [acN];unfold fg;rw [List.map_flatMap];rfl
def LX {t:bh} (g:Gd t):∀ x∈bM t,∀ y∈bM t,F0 x=F0 y->x=y:=λ x hx y hy e=>by
 have h:=cF.1 (cZ.1 hx);have k:=cF.1 (cZ.1 hy);have a:=g.IY x.1 h.1 h.2.1;have b:=g.IY y.1 k.1 k.2.1;unfold F0 at e;have e1:x.1=y.1:=by omega
 have e2:x.2=y.2:=by omega
 exact ad4 e1 e2
def abv {t:bh} (g:Gd t):∀ x∈bM t,∀ y∈bM t,(sF t t.2.length x=sF t t.2.length y↔Cn (λ a b=>(a,b)∈(fg t).map B3) x y):=λ x hx y hy=>by
 have hp:=Ag g;unfold sF;rw [abu];have fc:=HE (LX g) ((fg t).map B3) id F0 hp (λ _ h=>h) (λ _ _=>rfl);rw [(fc x hx).1,(fc y hy).1];have:=gU ((fg t).map B3) x y;unfold eh at this;rw [<- this];exact ⟨λ e=>LX g _ (fc x hx).2 _ (fc y hy).2 e,λ e=>by rw [e]⟩
def cC (t:bh):List (List Int):=aT t (ar (aB t))
def W7 {t:bh} (g:Gd t):nbR (aT t (sF t t.2.length))=cC t:=by
 obtain ⟨h1,h2⟩:=WY (aT t (sF t t.2.length));refine QC _ _ (h2.trans (OT t _ _)) ?_;unfold cC;rw [h1,xV,xV];unfold aB;exact (HB (Fj t) (Ag g) (abv g)).symm
def Fy (rows:List (List Int)):List (Nat×List Int):=(adi rows.length).map λ j=>(j,rows.getD j [])
def HF (rows:List (List Int)):List Nat:=rows.map adk
def kO (rows:List (List Int)):(Fy rows).length=rows.length:=by simp [Fy]
def Jl (rows:List (List Int)) {j:Nat} (hj:j < rows.length):(Fy rows)[j]'(by rw [kO]; exact hj)=(j,rows[j]):=by
 simp [Fy,acK,ab3 hj]
def arX (rows:List (List Int)) {j:Nat} (hj:j < rows.length):MC (HF rows) j rows[j].length=true:=by
 have:nth (HF rows) j=some rows[j].length:=by
  unfold HF;rw [bk,aed,ab3 hj]; rfl
 unfold MC;rw [this,decide_eq_true rfl,abN]
def arY (rows:List (List Int)) {j:Nat} (hj:j < rows.length) (x:List Int):FQ (HF rows) j x.length=HF (rows.set j x):=by
 have:nth (HF rows) j=some rows[j].length:=by
  unfold HF;rw [bk,aed,ab3 hj]; rfl
 rw [Ud this,eY];unfold HF;rw [aes]
def lnF (n:Nat):aba n 0=HF (aba n []):=by simp [HF]
def Fz:∀ n,xr (aba n (AV.list .nil 0 []))=true
 |0=>rfl
 |n+1=>Fz n
def mq (V:Int×Int->Int) (p k:Nat):List Int:=(adi k).map λ i:Nat=>V ((p:Int),(i:Int))
def HG (V:Int×Int->Int) (p k:Nat):mq V p k++[V ((p:Int),(k:Int))]=mq V p (k+1):=by
 unfold mq;rw [aet,acf]; rfl
def Ah (V:Int×Int->Int) (p k:Nat):(mq V p k).length=k:=by simp [mq]
def ki (t:bh) (V:Int×Int->Int) (p:Nat):List (List Int):=(adi t.1.length).map λ q=>if q < p then mq V q (kr t (q:Int)) else []
def wu (t:bh) (V:Int×Int->Int) (p:Nat):(ki t V p).length=t.1.length:=by simp [ki]
def FC (t:bh) (V:Int×Int->Int) (p:Nat) {i:Nat} (hi:i < (ki t V p).length):(ki t V p)[i]=if i < p then mq V i (kr t (i:Int)) else []:=by simp [ki]
def SQ (t:bh) (V:Int×Int->Int) {p:Nat} (hp:p < t.1.length):(ki t V p).set p (mq V p (kr t (p:Int)))=ki t V (p+1):=by
 apply acV
 .rw [acq,wu,wu]
 .intro i h1 h2;rw [ady,FC t V (p+1) h2];split
  .rename_i e; subst e;rw [if_pos (by omega)]
  .rw [FC];by_cases c:i < p
   .rw [if_pos c,if_pos (by omega)]
   .rw [if_neg c,if_neg (by omega)]
def abw (t:bh) (V:Int×Int->Int) {p:Nat} (hp:p < t.1.length):(ki t V p).set p (mq V p 0)=ki t V p:=by
 apply acV
 .rw [acq]
 .intro i h1 h2;rw [ady];split
  .rename_i e; subst e;rw [FC,if_neg (by omega)];rfl
  .rfl
def SR (t:bh) (V:Int×Int->Int):ki t V t.1.length=aT t V:=by
 unfold ki aT;exact acL λ q hq=>by rw [if_pos (adj.1 hq)]; rfl
def SS (t:bh) (V:Int×Int->Int):ki t V 0=aba t.1.length []:=by
 unfold ki;apply acV
 .simp
 .intro i h1 h2; simp
section
variable (hN:dC N)
include hN
end
def c24:List (Nat×dF):=[(58,.loop [] ⟨(.ci .nil),[5],[],[],[],[]⟩ [(.ret,⟨(.cons .bool .nil),[4],[],[],[],[]⟩),(.ex 0,⟨.nil,[],[],[],[],[]⟩)])]
def T24 (N:Nat):bz×bz->Option Bool:=(cx N [(26,e26 N)] [(24,c24)]).fn 1000 24 (.cons dR (.cons dR .nil)) .bool
def e24 (N:Nat):bJ:=⟨(.cons dR (.cons dR .nil)),.bool,T24 N⟩
def ah7 (N:Nat):aK cd 24 (e24 N):=jj.dQ (jw (ag5 N) oV)
def FD (N:Nat) (a0:List ah) (a1:List ah) (v1:Int):Option (Int⊕(Bool⊕Unit)):=
 let l2:=(an (mQ a1) (toNat v1)); let l1:=(mQ a0); (bif (decide (v1 < (((l1).length:Nat):Int))) then bif (decide ((0:Int)<=v1/\v1 < ((l1).length:Int))&&fits oW (an l1 (toNat v1))) then bif (decide ((0:Int)<=v1/\v1 < ((mQ a1).length:Int))&&fits oW l2) then ((jE (d59 (an l1 (toNat v1))) (d59 l2)).bind λ x3=>(T26 N x3).bind λ y2=>(bif (!y2) then (some (Sum.inr (Sum.inl false))) else (some (Sum.inl (wrap .i64 (v1+1)))))) else none else none else (some (Sum.inr (Sum.inr ()))))
def ah8 (N:Nat) (a0:List ah) (a1:List ah):T24 N (a0,a1) =
 (bif ((((mQ a0).length:Nat):Int) != (((mQ a1).length:Nat):Int)) then some false else ((ao (FD N a0 a1) N 0).bind λ o8=>(Sum.elim (λ o9=>some o9) (λ XG=>some true) o8))):=by kernel_rfl
def c4:List (Nat×dF):=[(12,.join [(.norm,⟨(.cons .bool .nil),[16],[],[],[],[]⟩)]),
 (510,.join [(.norm,⟨(.cons .bool .nil),[2],[],[],[],[]⟩)]),
 (2036,.join [(.norm,⟨(.cons .bool .nil),[2],[],[],[],[]⟩)])]
def T4 (N:Nat):dx->Option Bool:=(cx N [(8,e8 N),(9,e9 N),(11,e11 N),(14,e14 N),(21,e21 N),(22,e22 N),(23,e23 N),(24,e24 N),(25,e25 N),(26,e26 N),(27,e27 N),(28,e28 N)] [(4,c4)]).fn 1000 4 (.cons cJ .nil) .bool
def e4 (N:Nat):bJ:=⟨(.cons cJ .nil),.bool,T4 N⟩
section
variable (hN:dC N)
include hN
theorem W8 (l:List (List Int)) (h:l.length<=1000000) (hr:∀ r∈l,r.length<=1000000):T24 N (l,l)=some true:=by
 have key:=aL (rd:=FD N l l) l.length (λ k=>(k:Int)) (.inr ()) (λ k hk=>by
  obtain ⟨a1,a2⟩:=g59 l hk;have q:T26 N (gL l (k:Int),gL l (k:Int))=some true:=W1 hN _ (by rw [HA l hk]; exact hr _ (ab5 hk));have w:wrap .i64 ((k:Int)+1)=((k+1:Nat):Int):=aN (by omega);simp only [FD,zB11,ai hk,af hk,a1,a2,eV,eW,zB0,aaL,q,aa5,w,jE]) (by
  simp only [FD,zB15,jE]) N 0 (abk _) (by unfold dC at hN; omega)
 have key:ao (FD N l l) N 0=_:=key;rw [ah8];simp only [aag,bne_self_eq_false,cond_false,key,aad];rfl
omit hN in
theorem FE {α β:Type} (f:β->α->β):∀ (l:List (List α)) (b:β),l.foldl (λ b r=>r.foldl f b) b=l.flatten.foldl f b
 |[],_=>rfl
 |r::l,b=>by rw [ab7,ad6,adh,FE f l]
theorem abx (l:List (List Int)) (h:l.length<=1000000) (hr:∀ r∈l,r.length<=1000000):T74 N l=some (l.flatten.foldl (λ m x=>if x > m then x else m) (-1)):=by
 have inn:∀ (k:Nat) (hk:k < l.length) (s:Int),ao (vj N l (s,(k:Int))) N (s,0)=some ((l[k]).foldl (λ m x=>if x > m then x else m) s):=λ k hk s=>by
  obtain ⟨a1,a2⟩:=g59 l hk;rw [HA l hk] at a1;have hl:=hr _ (ab5 hk);exact dw (rd:=vj N l (s,(k:Int))) l[k] (λ (s:Int) j=>(s,(j:Int))) (λ m x=>if x > m then x else m) (λ s=>s) (λ _ _=>True) (λ s' j hj _=>by
   obtain ⟨b1,b2⟩:=Mq l[k] hj;refine ⟨?_,trivial⟩;simp only [vj,zB11,af hk,a1,a2,ai hj,af hj,b1,b2,aN (show j < 9223372036854775807 by omega),zB17]) (λ s' _=>by
   simp only [vj,zB11,af hk,a1,a2,ay,aaJ,zB10]) N s 0 (by omega) (by unfold dC at hN; omega) trivial
 have key:=dw (rd:=Fa N l) l (λ (s:Int) k=>(s,(k:Int))) (λ s r=>r.foldl (λ m x=>if x > m then x else m) s) (λ s=>s) (λ _ _=>True) (λ s k hk _=>by
  refine ⟨?_,trivial⟩;simp only [Fa,aag,ai hk,inn k hk s,cond_true,aad,aN (show k < 9223372036854775807 by omega)]) (λ s _=>by
  simp only [Fa,zB15]) N (-1) 0 (by omega) (by unfold dC at hN; omega) trivial
 rw [ahh];have key:ao (Fa N l) N (-1,0)=_:=key;rw [key,<- FE];rfl
end
section
variable (hN:dC N)
include hN
end
def LY {t:bh} (hS:InS t):∀ k,k<=t.2.length->oL t k=(bH t.1.length).map (eh ((t.2.take k).map qx))
 |0,_=>by
  show bH t.1.length=_;have:eh ((t.2.take 0).map qx)=(id:Int->Int):=rfl;rw [this,List.map_id]
 |k+1,hk=>by
  obtain ⟨A,B,hA,hA2,hB,hB2⟩:=hS k (by omega);have ih:=LY hS k (by omega);have e:((t.2.take (k+1)).map qx)=(t.2.take k).map qx++[qx (jm t k)]:=by
   rw [List.take_succ_eq_append_getElem (by omega),acf,sE t (by omega)]; rfl
  rw [e,Bg];show OO (oL t k) (gI (oL t k) (jm t k).1) (gI (oL t k) (jm t k).2.2.1)=_;have gi:∀ m:Nat,m < t.1.length->gI (oL t k) (m:Int)=eh ((t.2.take k).map qx) (m:Int):=λ m hm=>by
   rw [Ab _ (by rw [Ad]; exact hm)];simp only [ih,aee];simp [bH]
  rw [hA,hB,gi A hA2,gi B hB2,ih];unfold OO;rw [acW];refine acL λ x _=>?_
  show (if eh _ x=eh _ (A:Int) then eh _ (B:Int) else eh _ x)=hZ (eh _) (qx (jm t k)) x;unfold hZ qx;simp only [hA,hB]
def W9 {t:bh} (g:Gd t):InS t:=λ i hi=>by
 obtain ⟨⟨h1,h2⟩,h3,h4⟩:=W2 g (ab5 hi);rw [sE t hi];exact ⟨t.2[i].1.toNat,t.2[i].2.2.1.toNat,by omega,by omega,by omega,by omega⟩
def OU {t:bh} (g:Gd t):WU (oL t t.2.length)=av t:=by
 rw [LY (W9 g) t.2.length (adP _),acN];unfold av;exact (HB (Hw _) (W3 g) λ x _ y _=>gU _ x y).symm
section
variable (hN:dC N)
include hN
theorem LZ {t:bh} (v:Vd t):T25 N t=some (cC t):=by
 have le:=v.le;have se:=v.Aw;rw [W6 hN v.gd (by omega) (by omega),W7 v.gd]
theorem QE {t:bh} (v:Vd t):T27 N t=some (av t):=by
 have le:=v.le;have se:=v.Aw;rw [OP hN t (W9 v.gd) (by omega) (by omega),OU v.gd]
theorem SU {t:bh} (v:Vd t):(cC t).length<=1000000/\∀ r∈cC t,r.length<=1000000:=by
 have le:=v.le;refine ⟨by unfold cC; rw [bS]; omega,λ r hr=>?_⟩;obtain ⟨p,hp,rfl⟩:=adR.1 hr;have:=(v.gd.IY (p:Int) (by omega) (by have:=adj.1 hp; omega)).2;simp; omega
end
abbrev fX:=Int×Int×Bool
abbrev HM:=List (Int×Int)
abbrev PM:=List (Int×List fX)
def ui (m:PM) (a:Int):List fX:=(getM a m).getD []
def qm (s:fX):Int×Int:=(s.1,s.2.1)
def Br (s:fX):fX:=(s.1,s.2.1,!s.2.2)
section
variable (t:bh) (V:Int×Int->Int)
def xW (s:fX):Int:=if s.2.2=true then V (cg t (qm s)) else V (qm s)
def wv (s:fX):Int:=if s.2.2=true then V (qm s) else V (cg t (qm s))
def HH (s:fX):Int:=if s.2.2=true then 0 - (mj t (qm s)).2 else (mj t (qm s)).2
def Jm:List fX->Int->Int->Prop
 |[],a,b=>a=b
 |s::l,a,b=>xW t V s=a/\Jm l (wv t V s) b
def tN (l:List fX):Int:=(l.map (HH t)).sum
def lO (s:HM×PM×Bool) (e:Int×Int):HM×PM×Bool:=
 if (getM (V e) s.1).isSome=true/\(getM (V (cg t e)) s.1).isSome=false then
  (dG (V (cg t e)) (wrap .i64 (ar s.1 (V e)+(mj t e).2)) s.1,dG (V (cg t e)) (ui s.2.1 (V e)++[(e.1,e.2,false)]) s.2.1,true)
 else if (getM (V (cg t e)) s.1).isSome=true/\(getM (V e) s.1).isSome=false then
  (dG (V e) (wrap .i64 (ar s.1 (V (cg t e)) - (mj t e).2)) s.1,dG (V e) (ui s.2.1 (V (cg t e))++[(e.1,e.2,true)]) s.2.1,true)
 else s
def QF (P:PM) (a:Int):Int:=match ui P a with | []=>a | s::_=>xW t V s
end
section
variable {t:bh} {V:Int×Int->Int}
def Jn:∀ {l m:List fX} {a b:Int},Jm t V (l++m) a b↔∃ c,Jm t V l a c/\Jm t V m c b
 |[],m,a,b=>by
  constructor
  .intro h; exact ⟨a,rfl,h⟩
  .rintro ⟨c,rfl,h⟩; exact h
 |s::l,m,a,b=>by
  rw [List.cons_append];show (xW t V s=a/\Jm t V (l++m) _ b)↔∃ c,(xW t V s=a/\Jm t V l _ c)/\Jm t V m c b;rw [Jn];constructor
  .rintro ⟨h,c,h1,h2⟩; exact ⟨c,⟨h,h1⟩,h2⟩
  .rintro ⟨c,⟨h,h1⟩,h2⟩; exact ⟨h,c,h1,h2⟩
def FF {l:List fX} {b:Int} {s:fX} (h:Jm t V l a b) (hs:xW t V s=b):Jm t V (l++[s]) a (wv t V s):=
 Jn.2 ⟨b,h,hs,rfl⟩
def amk (s:fX):xW t V (Br s)=wv t V s:=by unfold xW wv Br qm; cases s.2.2 <;> rfl
def aml (s:fX):wv t V (Br s)=xW t V s:=by unfold xW wv Br qm; cases s.2.2 <;> rfl
def amm (s:fX):HH t (Br s)=0 - HH t s:=by
 unfold HH Br qm;cases s.2.2
 .simp
 .simp
def L0:∀ {l:List fX} {a b:Int},Jm t V l a b->Jm t V (l.map Br).reverse b a
 |[],a,b,h=>by
  have h:a=b:=h;exact h.symm
 |s::l,a,b,h=>by
  obtain ⟨h1,h2⟩:=h;rw [acO,List.reverse_cons];have:=FF (L0 h2) (amk s);rw [aml,h1] at this;exact this
def FH (l m:List fX):tN t (l++m)=tN t l+tN t m:=by unfold tN; rw [acf,List.sum_append]
def Jo (s:fX):tN t [s]=HH t s:=by unfold tN; simp
def Jp (s:fX) (l:List fX):tN t (s::l)=HH t s+tN t l:=by unfold tN; simp
def QG:∀ l:List fX,tN t (l.map Br).reverse=0 - tN t l
 |[]=>rfl
 |s::l=>by
  rw [acO,List.reverse_cons,FH,QG l,Jo,amm,Jp];omega
def Xa {G:Int->Int} (hG:∀ e,aU t e=true->G (V (cg t e)) - G (V e)=(mj t e).2):∀ {l:List fX} {a b:Int},Jm t V l a b->(∀ s∈l,aU t (qm s)=true)->tN t l=G b - G a
 |[],a,b,h,_=>by
  have h:a=b:=h;rw [h]; show (0:Int)=_; omega
 |s::l,a,b,h,hs=>by
  obtain ⟨h1,h2⟩:=h;rw [Jp,Xa hG h2 λ x hx=>hs x (ab6 _ hx)];have:=hG _ (hs s acd);rw [<- h1];unfold HH xW wv;cases s.2.2
  .simp only [zB14]; omega
  .simp only [if_true]; omega
def QH (hr:∀ e,aU t e=true->-100000<=(mj t e).2/\(mj t e).2<=100000):∀ {l:List fX},(∀ s∈l,aU t (qm s)=true)->-(100000*(l.length:Int))<=tN t l/\tN t l<=100000*(l.length:Int)
 |[],_=>by
  show _<=(0:Int)/\(0:Int)<=_;simp
 |s::l,hs=>by
  have h1:=QH hr λ x hx=>hs x (ab6 _ hx)
  have h2:=hr _ (hs s acd);have h3:-100000<=HH t s/\HH t s<=100000:=by
   unfold HH;cases s.2.2
   .simp only [zB14]; omega
   .simp only [if_true]; omega
  rw [Jp,adx];omega
def C4 {k:Int} {v:List fX} (hv:v≠[]):∀ {m:PM},(∀ x∈m,x.2≠[])->∀ x∈dG k v m,x.2≠[]
 |[],_,x,hx=>by
  rw [ad3.1 (show x∈[(k,v)] from hx)]; exact hv
 |y::m,h,x,hx=>by
  have hx:x∈(if k=y.1 then (k,v)::m else (y.1,y.2)::dG k v m):=hx;have hm:∀ z∈m,z.2≠[]:=λ z hz=>h z (ab6 _ hz)
  split at hx
  .rcases ad9.1 hx with rfl|hx
   .exact hv
   .exact hm x hx
  .rcases ad9.1 hx with rfl|hx
   .exact h y acd
   .exact C4 hv hm x hx
def Jq (l:List fX) (s:fX):l++[s]≠[]:=by simp
structure HI (t:bh) (V:Int×Int->Int) (R:Int->Prop) (H:HM) (P:PM):Prop where
 nd:(H.map Prod.fst).Nodup
 key:∀ a,(getM a H).isSome=true->∃ e,aU t e=true/\V e=a
 un:∀ a,getM a H=none->ui P a=[]
 ne:∀ x∈P,x.2≠[]
 wk:∀ a h,getM a H=some h->Jm t V (ui P a) (QF t V P a) a/\tN t (ui P a)=h/\(∀ s∈ui P a,aU t (qm s)=true)/\(ui P a).length < H.length/\R (QF t V P a)/\getM (QF t V P a) H=some 0
def HY :o.isSome=true↔∃ x,o=some x:=by cases o <;> simp
def wQ :o.isSome=false↔o=none:=by cases o <;> simp
def Jr (P:PM) (a b:Int) (l:List fX):ui (dG b l P) a=if a=b then l else ui P a:=by
 unfold ui;rw [eF];by_cases h:a=b
 .rw [if_pos h,if_pos h]; rfl
 .rw [if_neg h,if_neg h]
def C5 {k:Int} {v:Int} {m:HM} (h:(m.map Prod.fst).Nodup) (hk:getM k m=none):((dG k v m).map Prod.fst).Nodup/\(dG k v m).length=m.length+1:=by
 rw [EU hk];refine ⟨?_,by simp⟩;rw [acf,List.nodup_append];refine ⟨h,by simp,?_⟩;intro a ha b hb e;simp only [acO,adf,ad3] at hb;subst hb; subst e;exact getM_none.1 hk ha
def fT {m:HM} {h:Int} (k:getM a m=some h):ar m a=h:=by unfold ar; rw [k]; rfl
def HI.len {H:HM} {P:PM} (h:HI t V R H P):H.length<=(bM t).length:=by
 have:=B8 (m:=(bM t).map V) h.nd λ a ha=>by
  obtain ⟨v,hv⟩:=tM ha;obtain ⟨e,he,rfl⟩:=h.key a (HY.2 ⟨v,hv⟩);exact List.mem_map_of_mem (cZ.2 he)
 simpa using this
def HI.put (g:Gd t) {H:HM} {P:PM} (h:HI t V R H P) (s:fX) (hs:aU t (qm s)=true) {ht:Int} (ha:getM (xW t V s) H=some ht) (hb:getM (wv t V s) H=none) :
  HI t V R (dG (wv t V s) (ht+HH t s) H) (dG (wv t V s) (ui P (xW t V s)++[s]) P):=by
 obtain ⟨nd,ln⟩:=C5 (v:=ht+HH t s) h.nd hb;have rt:∀ a,QF t V (dG (wv t V s) (ui P (xW t V s)++[s]) P) a=if a=wv t V s then QF t V P (xW t V s) else QF t V P a:=λ a=>by
  unfold QF;rw [Jr];by_cases e:a=wv t V s
  .rw [if_pos e,if_pos e];cases ui P (xW t V s) with
   |nil=>rfl
   |cons x l=>rfl
  .rw [if_neg e,if_neg e]
 refine ⟨nd,λ a ka=>?_,λ a ka=>?_,C4 (Jq _ _) h.ne,λ a v ka=>?_⟩
 .rw [eF] at ka;by_cases e:a=wv t V s
  .subst e;unfold wv;cases s.2.2
   .exact ⟨cg t (qm s),by rw [oM g hs]; exact wh hs,rfl⟩
   .exact ⟨qm s,hs,rfl⟩
  .rw [if_neg e] at ka;exact h.key a ka
 .rw [eF] at ka;by_cases e:a=wv t V s
  .rw [if_pos e] at ka; cases ka
  .rw [if_neg e] at ka;rw [Jr,if_neg e];exact h.un a ka
 .rw [rt,Jr,ln];rw [eF] at ka;by_cases e:a=wv t V s
  .rw [if_pos e] at ka;rw [if_pos e,if_pos e];obtain ⟨w1,w2,w3,w4,w5,w6⟩:=h.wk _ _ ha;cases ka;refine ⟨e ▸ FF w1 rfl,by rw [FH,Jo,w2],λ x hx=>?_,by rw [acu,aci]; omega,w5,?_⟩
   .rcases adY.1 hx with hx|hx
    .exact w3 x hx
    .rw [ad3.1 hx]; exact hs
   .rw [eF,if_neg λ k=>?_]
    .exact w6
    .rw [k,hb] at w6; cases w6
  .rw [if_neg e] at ka;rw [if_neg e,if_neg e];obtain ⟨w1,w2,w3,w4,w5,w6⟩:=h.wk _ _ ka;refine ⟨w1,w2,w3,by omega,w5,?_⟩;rw [eF,if_neg λ k=>?_]
   .exact w6
   .rw [k,hb] at w6; cases w6
structure Ri (t:bh):Prop where
 gd:Gd t
 ri:∀ e,aU t e=true->-100000<=(mj t e).2/\(mj t e).2<=100000
 cn:(bM t).length<=1000000
def HI.le (q:Ri t) {H:HM} {P:PM} (h:HI t V R H P) {v:Int} (ha:getM a H=some v):-100000000000<=v/\v<=100000000000:=by
 obtain ⟨_,w2,w3,w4,_⟩:=h.wk _ _ ha;have b:=QH q.ri w3;have:=h.len;have:=q.cn;rw [w2] at b;omega
def HI.st (q:Ri t) {H:HM} {P:PM} (gr:Bool) (h:HI t V R H P) (he:aU t e=true) :
  HI t V R (lO t V (H,P,gr) e).1 (lO t V (H,P,gr) e).2.1 /\
  ((lO t V (H,P,gr) e=(H,P,gr)/\(getM (V e) H).isSome=(getM (V (cg t e)) H).isSome) \/
  ((lO t V (H,P,gr) e).2.2=true/\(lO t V (H,P,gr) e).1.length=H.length+1/\∀ a,(getM a H).isSome=true->getM a (lO t V (H,P,gr) e).1=getM a H)):=by
 unfold lO;by_cases c1:(getM (V e) H).isSome=true/\(getM (V (cg t e)) H).isSome=false
 .rw [if_pos c1];obtain ⟨ha,hb⟩:=c1;obtain ⟨v,hv⟩:=HY.1 ha;have nt:=wQ.1 hb;have k:=HI.put q.gd h (e.1,e.2,false) he (ht:=v) hv nt;have b:=h.le q hv;have r:=q.ri e he;have w:wrap .i64 (ar H (V e)+(mj t e).2)=v+HH t (e.1,e.2,false):=by
   rw [fT hv,Ap ⟨by omega,by omega⟩]; rfl
  show HI t V R (dG (V (cg t e)) (wrap .i64 (ar H (V e)+(mj t e).2)) H) _/\_;rw [w];refine ⟨k,.inr ⟨rfl,(C5 h.nd nt).2,λ a hA=>?_⟩⟩;show getM a (dG (V (cg t e)) _ H)=_;rw [eF,if_neg λ c=>by rw [c,hb] at hA; cases hA]
 .rw [if_neg c1];by_cases c2:(getM (V (cg t e)) H).isSome=true/\(getM (V e) H).isSome=false
  .rw [if_pos c2];obtain ⟨ha,hb⟩:=c2;obtain ⟨v,hv⟩:=HY.1 ha;have nt:=wQ.1 hb;have k:=HI.put q.gd h (e.1,e.2,true) he (ht:=v) hv nt;have b:=h.le q hv;have r:=q.ri e he;have w:wrap .i64 (ar H (V (cg t e)) - (mj t e).2)=v+HH t (e.1,e.2,true):=by
    rw [fT hv,Ap ⟨by omega,by omega⟩];show v - (mj t e).2=v+(0 - (mj t e).2);omega
   show HI t V R (dG (V e) (wrap .i64 (ar H (V (cg t e)) - (mj t e).2)) H) _/\_;rw [w];refine ⟨k,.inr ⟨rfl,(C5 h.nd nt).2,λ a hA=>?_⟩⟩;show getM a (dG (V e) _ H)=_;rw [eF,if_neg λ c=>by rw [c,hb] at hA; cases hA]
  .rw [if_neg c2];refine ⟨h,.inl ⟨rfl,?_⟩⟩;cases h1:(getM (V e) H).isSome <;> cases h2:(getM (V (cg t e)) H).isSome
   .rfl
   .exact absurd ⟨h2,h1⟩ c2
   .exact absurd ⟨h1,h2⟩ c1
   .rfl
def HI.fold (q:Ri t) {R:Int->Prop}:∀ (l:List (Int×Int)) {H:HM} {P:PM} (gr:Bool),(∀ e∈l,aU t e=true)->HI t V R H P ->
  HI t V R (l.foldl (lO t V) (H,P,gr)).1 (l.foldl (lO t V) (H,P,gr)).2.1/\(∀ a,(getM a H).isSome=true->getM a (l.foldl (lO t V) (H,P,gr)).1=getM a H) /\
  ((l.foldl (lO t V) (H,P,gr)=(H,P,gr)/\∀ e∈l,(getM (V e) H).isSome=(getM (V (cg t e)) H).isSome) \/
  ((l.foldl (lO t V) (H,P,gr)).2.2=true/\H.length < (l.foldl (lO t V) (H,P,gr)).1.length))
 |[],H,P,gr,_,h=>⟨h,λ _ _=>rfl,.inl ⟨rfl,λ e he=>by cases he⟩⟩
 |e::l,H,P,gr,hl,h=>by
  have hl':∀ x∈l,aU t x=true:=λ x hx=>hl x (ab6 _ hx)
  obtain ⟨k1,k2⟩:=h.st q gr (hl e acd);rw [ab7];rcases k2 with ⟨k2,k3⟩|⟨k2,k3,k4⟩
  .rw [k2];obtain ⟨i1,i2,i3⟩:=HI.fold q l gr hl' h;refine ⟨i1,i2,?_⟩;rcases i3 with ⟨i3,i4⟩|i3
   .refine .inl ⟨i3,λ x hx=>?_⟩;rcases ad9.1 hx with rfl|hx
    .exact k3
    .exact i4 x hx
   .exact .inr i3
  .generalize lO t V (H,P,gr) e=s at k1 k2 k3 k4;obtain ⟨H1,P1,g1⟩:=s;obtain ⟨i1,i2,i3⟩:=HI.fold q l g1 hl' k1;have k2:g1=true:=k2;subst k2;have k3:H1.length=H.length+1:=k3;refine ⟨i1,λ a ha=>?_,.inr ?_⟩
   .have e1:getM a H1=getM a H:=k4 a ha;rw [i2 a (by rw [e1]; exact ha),e1]
   .rcases i3 with ⟨i3,_⟩|⟨i3,i4⟩
    .rw [i3]; exact ⟨rfl,by show H.length < H1.length; omega⟩
    .have i4:H1.length < (l.foldl (lO t V) (H1,P1,true)).1.length:=i4;exact ⟨i3,by show H.length < (l.foldl (lO t V) (H1,P1,true)).1.length; omega⟩
def HI.pl (q:Ri t) {H:HM} {P:PM} (h:HI t V R H P) (a:Int):(ui P a).length<=1000000:=by
 cases c:getM a H with
 |none=>rw [h.un a c]; simp
 |some v=>
  have:=(h.wk _ _ c).2.2.2.1;have:=h.len;have:=q.cn;omega
end
section
variable {t:bh} (v:Vd t)
include v
theorem Vd.Xb:∀ e,aU t e=true->-100000<=(mj t e).2/\(mj t e).2<=100000:=λ e he=>by
 obtain ⟨_,_,h3,_,_⟩:=Fi v.err;unfold ov at h3;rw [iX] at h3;obtain ⟨k,i,rfl,hk,hi⟩:=ni he;rw [Bi t hk hi];have h:=h3 (ub (t.1.take k) t.1[k]) (by rw [List.mem_mapIdx]; exact ⟨k,hk,rfl⟩);unfold ub at h;split at h
 .cases h
 .split at h
  .cases h
  .split at h
   .cases h
   .rw [iX] at h;have h:=h _ (List.mem_map_of_mem (ab5 hi));unfold ot at h;rw [iX] at h;have h:=h (PL t.1[k].2[i].2 (-100000) 100000) (ab6 _ acd);unfold PL at h;split at h
    .cases h
    .omega
theorem Vd.ri:Ri t:=⟨v.gd,v.Xb,by have:=v.ah5; omega⟩
end
def FO (t:bh) (e:Int×Int):Int:=(av t).getD e.1.toNat 0
def wG (t:bh) (q:Int):Prop:=∀ r:Int,0<=r->r < q->(av t).getD r.toNat 0≠(av t).getD q.toNat 0
abbrev aJ (t:bh):Int×Int->Int:=ar (aB t)
def uj (t:bh) (a:Int):Prop:=∃ q:Int,0<=q/\q < (t.1.length:Int)/\wG t q/\a=aJ t (q,0)
section
variable {t:bh} (v:Vd t)
include v
theorem QI (he:aU t e=true) (hf:aU t f=true):aJ t e=aJ t f↔Cn (λ a b=>(a,b)∈(fg t).map B3) e f:=
 (vt (Fj t) (Ag v.gd)).2.1 e (cZ.2 he) f (cZ.2 hf)
theorem Js (he:aU t e=true) (hf:aU t f=true) (h:aJ t e=aJ t f):FO t e=FO t f:=by
 refine Cn.keep (f:=FO t) (λ x y hxy=>?_) ((QI v he hf).1 h);rw [Bp v.gd] at hxy;obtain ⟨s,hs,b,rfl,rfl⟩:=hxy;unfold FO;rw [Jj,Jj];exact ((Ca v.gd).1 s.1 (kW.2 (W2 v.gd hs).1) s.2.2.1 (kW.2 (W2 v.gd hs).2)).2 (.one (adR.2 ⟨s,hs,rfl⟩))
theorem qk (h0:0<=q) (h1:q < (t.1.length:Int)):aU t (q,0)=true:=by
 have:=v.gd.IY q h0 h1;exact cF.2 ⟨h0,h1,Int.le_refl _,by show (0:Int) < (kr t q:Int); omega⟩
theorem nU (he:aU t e=true):aU t (cg t e)=true:=by rw [oM v.gd he]; exact wh he
theorem OV:∀ {l:List fX} {e f:Int×Int},aU t e=true->aU t f=true->(∀ s∈l,aU t (qm s)=true)->Jm t (aJ t) l (aJ t e) (aJ t f)->FO t e=FO t f
 |[],e,f,he,hf,_,h=>Js v he hf h
 |s::l,e,f,he,hf,hs,h=>by
  obtain ⟨h1,h2⟩:=h;have es:=hs s acd;have hl:=λ x hx=>hs x (ab6 s hx)
  have ec:=nU v es;unfold xW at h1;unfold wv at h2;cases c:s.2.2
  .rw [c] at h1 h2;have a1:aJ t (qm s)=aJ t e:=h1;have a2:Jm t (aJ t) l (aJ t (cg t (qm s))) (aJ t f):=h2;have:=OV ec hf hl a2;rw [<- Js v es he a1,<- this]; rfl
  .rw [c] at h1 h2;have a1:aJ t (cg t (qm s))=aJ t e:=h1;have a2:Jm t (aJ t) l (aJ t (qm s)) (aJ t f):=h2;have:=OV es hf hl a2;rw [<- Js v ec he a1,<- this]; rfl
omit v in
theorem aby (hq:0<=q) (hr:0<=r) (fq:wG t q) (fr:wG t r) (h:FO t (q,0)=FO t (r,0)):q=r:=by
 rcases Int.lt_trichotomy q r with c|c|c
 .exact absurd h (fr q hq c)
 .exact c
 .exact absurd h.symm (fq r hr c)
theorem HI.rt {H:HM} {P:PM} (h:HI t (aJ t) (uj t) H P) (he:aU t e=true) (ka:getM (aJ t e) H=some x) :
  ∃ q:Int,0<=q/\q < (t.1.length:Int)/\wG t q/\QF t (aJ t) P (aJ t e)=aJ t (q,0)/\FO t (q,0)=FO t e:=by
 obtain ⟨w1,_,w3,_,w5,_⟩:=h.wk _ _ ka;obtain ⟨q,q0,q1,q2,q3⟩:=w5;rw [q3] at w1;exact ⟨q,q0,q1,q2,q3,OV v (qk v q0 q1) he w3 w1⟩
theorem HI.rt_eq {H H':HM} {P P':PM} (h:HI t (aJ t) (uj t) H P) (h':HI t (aJ t) (uj t) H' P') (he:aU t e=true) (hf:aU t f=true) {y:Int} (ka:getM (aJ t e) H=some x) (kb:getM (aJ t f) H'=some y) (hp:FO t e=FO t f) :
  QF t (aJ t) P (aJ t e)=QF t (aJ t) P' (aJ t f):=by
 obtain ⟨q,q0,q1,q2,q3,q4⟩:=h.rt v he ka;obtain ⟨r,r0,r1,r2,r3,r4⟩:=h'.rt v hf kb;rw [q3,r3,aby q0 r0 q2 r2 (by rw [q4,r4,hp])]
end
def Pot (t:bh) (G:Int->Int):Prop:=∀ e,aU t e=true->G (aJ t (cg t e)) - G (aJ t e)=(mj t e).2
def L4 (t:bh) (H:HM):Prop:=∀ e,aU t e=true->(getM (aJ t e) H).isSome=true
section
variable {t:bh} (v:Vd t)
include v
omit v in
theorem HI.val {H:HM} {P:PM} (h:HI t (aJ t) (uj t) H P) {G:Int->Int} (hG:Pot t G) {x:Int} (ka:getM a H=some x):x=G a - G (QF t (aJ t) P a):=by
 obtain ⟨w1,w2,w3,_⟩:=h.wk _ _ ka;rw [<- w2];exact Xa hG w1 w3
theorem HI.fit {H:HM} {P:PM} (h:HI t (aJ t) (uj t) H P) (k:L4 t H) {G:Int->Int} (hG:Pot t G):Pot t (ar H):=λ e he=>by
 obtain ⟨x,hx⟩:=HY.1 (k e he);have DV:=nU v he;obtain ⟨y,hy⟩:=HY.1 (k _ DV);have r:=h.rt_eq v h DV he hy hx rfl;have a:=h.val hG hx;have b:=h.val hG hy;have c:=hG e he;rw [fT hx,fT hy];rw [r] at b;omega
theorem HI.same {H H':HM} {P P':PM} (h:HI t (aJ t) (uj t) H P) (h':HI t (aJ t) (uj t) H' P') (k:L4 t H) (k':L4 t H') {G:Int->Int} (hG:Pot t G) (he:aU t e=true):ar H (aJ t e)=ar H' (aJ t e):=by
 obtain ⟨x,hx⟩:=HY.1 (k e he);obtain ⟨y,hy⟩:=HY.1 (k' e he);have r:=h.rt_eq v h' he he hx hy rfl;have a:=h.val hG hx;have b:=h'.val hG hy;rw [fT hx,fT hy,a,b,r]
def ol (t:bh) (P:PM) (e:Int×Int):List fX:=(ui P (aJ t e)++[(e.1,e.2,false)])++((ui P (aJ t (cg t e))).map Br).reverse
omit v in
theorem ah9 {l:List fX} (h:∀ s∈l,aU t (qm s)=true):∀ s∈(l.map Br).reverse,aU t (qm s)=true:=λ s hs=>by
 obtain ⟨x,hx,rfl⟩:=adR.1 (List.mem_reverse.1 hs);exact h x hx
theorem HI.amn {H:HM} {P:PM} (h:HI t (aJ t) (uj t) H P) (k:L4 t H) (he:aU t e=true) :
  (∃ r,Jm t (aJ t) (ol t P e) r r)/\tN t (ol t P e)=ar H (aJ t e)+(mj t e).2 - ar H (aJ t (cg t e))/\(∀ s∈ol t P e,aU t (qm s)=true)/\(ol t P e).length<=2*(bM t).length:=by
 obtain ⟨x,hx⟩:=HY.1 (k e he);have DV:=nU v he;obtain ⟨y,hy⟩:=HY.1 (k _ DV);have r:=h.rt_eq v h DV he hy hx rfl;obtain ⟨a1,a2,a3,a4,_⟩:=h.wk _ _ hx;obtain ⟨b1,b2,b3,b4,_⟩:=h.wk _ _ hy;have ln:=h.len;rw [r] at b1;unfold ol;refine ⟨⟨QF t (aJ t) P (aJ t e),?_⟩,?_,λ s hs=>?_,?_⟩
 .exact Jn.2 ⟨_,FF a1 rfl,L0 b1⟩
 .rw [FH,FH,Jo,QG,a2,b2,fT hx,fT hy];show x+(mj t e).2+(0 - y)=_;omega
 .rcases adY.1 hs with hs|hs
  .rcases adY.1 hs with hs|hs
   .exact a3 s hs
   .rw [ad3.1 hs]; exact he
  .exact ah9 b3 s hs
 .simp only [acu,aci,List.length_reverse,aag];omega
def HJ (t:bh) (H:HM):Prop:=∀ e,aU t e=true->(getM (aJ t e) H).isSome=(getM (aJ t (cg t e)) H).isSome
theorem HJ.IY {H:HM} (c:HJ t H) {q:Int} (h0:0<=q) (h1:q < (t.1.length:Int)):∀ k:Nat,k < kr t q->(getM (aJ t (q,(k:Int))) H).isSome=(getM (aJ t (q,0)) H).isSome
 |0,_=>rfl
 |k+1,hk=>by
  have he:aU t (q,(k:Int))=true:=cF.2 ⟨h0,h1,by show (0:Int)<=(k:Int); omega,by show (k:Int) < (kr t q:Int); omega⟩;have:=c _ he;rw [oM v.gd he] at this;unfold SB at this;rw [if_neg (by show ¬ ((k:Int)+1=(kr t q:Int)); omega)] at this;have e:((q,(k:Int)).1,(q,(k:Int)).2+1)=(q,((k+1:Nat):Int)):=ad4 rfl (by show (k:Int)+1=_; omega);rw [e] at this;rw [<- this];exact HJ.IY c h0 h1 k (by omega)
theorem HJ.end_ {H:HM} (c:HJ t H) (he:aU t e=true):(getM (aJ t e) H).isSome=(getM (aJ t (e.1,0)) H).isSome:=by
 obtain ⟨a,b,d,f⟩:=cF.1 he;have:=c.IY v a b e.2.toNat (by omega);rwa [show ((e.2.toNat:Nat):Int)=e.2 by omega] at this
theorem HJ.pc {H:HM} (c:HJ t H) (q0:0<=q) (q1:q < (t.1.length:Int)) (r0:0<=r) (r1:r < (t.1.length:Int)) (h:(av t).getD q.toNat 0=(av t).getD r.toNat 0):(getM (aJ t (q,0)) H).isSome=(getM (aJ t (r,0)) H).isSome:=by
 refine Cn.keep (f:=λ x:Int=>(getM (aJ t (x,0)) H).isSome) (λ x y hxy=>?_) (((Ca v.gd).1 q (kW.2 ⟨q0,q1⟩) r (kW.2 ⟨r0,r1⟩)).1 h);obtain ⟨s,hs,e⟩:=adR.1 hxy;cases e;have ea:aU t (sA s)=true:=(v.gd.Aw s hs).1;have eb:aU t (LS t (sB s,true == s.2.2.2.2))=true:=Ji (v.gd.Aw s hs).2.1;have k:aJ t (sA s)=aJ t (LS t (sB s,true == s.2.2.2.2)):=(QI v ea eb).2 (.one ((Bp v.gd).2 ⟨s,hs,true,rfl,rfl⟩));have a1:=c.end_ v ea;have a2:=c.end_ v eb;rw [Jj] at a2;show (getM (aJ t ((sA s).1,0)) H).isSome=(getM (aJ t ((sB s).1,0)) H).isSome;rw [<- a1,k];exact a2
theorem HJ.new {H:HM} (c:HJ t H) (he:aU t e=true) (hb:∀ f,aU t f=true->ltE f e->(getM (aJ t f) H).isSome=true) (hn:(getM (aJ t e) H).isSome=false):e.2=0/\wG t e.1:=by
 obtain ⟨a,b,d,f⟩:=cF.1 he;have hz:=qk v a b;have k:=c.end_ v he;rw [hn] at k;have z:e.2=0:=by
  rcases Int.lt_or_eq_of_le d with z|z
  .have:=hb (e.1,0) hz (.inr ⟨rfl,z⟩);rw [<- k] at this; cases this
  .exact z.symm
 refine ⟨z,λ r r0 r1 hr=>?_⟩;have:=hb (r,0) (qk v r0 (by omega)) (.inl r1);rw [c.pc v r0 (by omega) a b hr,<- k] at this;cases this
theorem HI.root {H:HM} {P:PM} (h:HI t (aJ t) (uj t) H P) {q:Int} (q0:0<=q) (q1:q < (t.1.length:Int)) (hf:wG t q) (hn:getM (aJ t (q,0)) H=none):HI t (aJ t) (uj t) (dG (aJ t (q,0)) 0 H) P:=by
 obtain ⟨nd,ln⟩:=C5 (v:=0) h.nd hn;have pn:=h.un _ hn;refine ⟨nd,λ a ka=>?_,λ a ka=>?_,h.ne,λ a x ka=>?_⟩
 .rw [eF] at ka;by_cases e:a=aJ t (q,0)
  .exact ⟨(q,0),qk v q0 q1,e.symm⟩
  .rw [if_neg e] at ka; exact h.key a ka
 .rw [eF] at ka;by_cases e:a=aJ t (q,0)
  .rw [if_pos e] at ka; cases ka
  .rw [if_neg e] at ka; exact h.un a ka
 .rw [eF] at ka;by_cases e:a=aJ t (q,0)
  .rw [if_pos e] at ka;cases ka;subst e;have rt:QF t (aJ t) P (aJ t (q,0))=aJ t (q,0):=by unfold QF; rw [pn]
   rw [rt,pn,ln];refine ⟨rfl,rfl,λ s hs=>(nomatch hs),by simp,⟨q,q0,q1,hf,rfl⟩,?_⟩;rw [eF,if_pos rfl]
  .rw [if_neg e] at ka;obtain ⟨w1,w2,w3,w4,w5,w6⟩:=h.wk _ _ ka;refine ⟨w1,w2,w3,by omega,w5,?_⟩;rw [eF,if_neg λ z=>by rw [z,hn] at w6; cases w6];exact w6
end
def iF (t:bh):(cC t).length=t.1.length:=bS t _
def wx (t:bh) {p:Nat} (hp:p < t.1.length):(gL (cC t) (p:Int)).length=kr t (p:Int)/\∀ k:Nat,k < kr t (p:Int)->gI (gL (cC t) (p:Int)) (k:Int)=aJ t ((p:Int),(k:Int)):=by
 rw [HA _ (by rw [iF]; exact hp)];exact ⟨gZ t _ hp,λ k hk=>vv t _ hp hk⟩
def L5 (l:List fX) {k:Nat} (hk:k < l.length):d169 (an (map n169 l) k)=l[k]/\fits uh (an (map n169 l) k)=true:=by
 rw [fK n169 l k hk]; exact ⟨alV _,alU _⟩
theorem Bs (a b:Nat):Int.tmod (a:Int) (b:Int)=((a % b:Nat):Int):=rfl
section
def L6 {t:bh} (v:Vd t) {s:fX} (hs:aU t (qm s)=true):T82 N (t,cC t,s)=some (xW t (aJ t) s,wv t (aJ t) s):=by
 obtain ⟨a,b,c⟩:=s;have he:aU t (a,b)=true:=hs;have DV:=nU v he;have fin:=Jk (N:=N) he;obtain ⟨h1,h2,h3,h4⟩:=cF.1 he;obtain ⟨k1,k2,k3,k4⟩:=cF.1 DV;obtain ⟨p,rfl⟩:∃ p:Nat,a=(p:Int):=⟨a.toNat,by have h1:0<=a:=h1; omega⟩;obtain ⟨i,rfl⟩:∃ i:Nat,b=(i:Int):=⟨b.toNat,by have h3:0<=b:=h3; omega⟩;have hp:p < t.1.length:=by have h2:(p:Int) < (t.1.length:Int):=h2; omega
 have hi:i < kr t (p:Int):=by have h4:(i:Int) < (kr t (p:Int):Int):=h4; omega
 have e1:(cg t ((p:Int),(i:Int))).1=(p:Int):=rfl;obtain ⟨j,hj⟩:∃ j:Nat,(cg t ((p:Int),(i:Int))).2=(j:Int):=⟨(cg t ((p:Int),(i:Int))).2.toNat,by omega⟩;have hjs:j < kr t (p:Int):=by rw [hj,e1] at k4; omega
 have hV:aJ t (cg t ((p:Int),(i:Int)))=aJ t ((p:Int),(j:Int)):=by rw [show cg t ((p:Int),(i:Int))=((p:Int),(j:Int)) from ad4 rfl hj]
 obtain ⟨r1,r2⟩:=g59 (cC t) (k:=p) (by rw [iF]; exact hp);obtain ⟨w1,w2⟩:=wx t hp;obtain ⟨x1,x2⟩:=g3 (gL (cC t) (p:Int)) (k:=i) (by rw [w1]; exact hi);obtain ⟨y1,y2⟩:=g3 (gL (cC t) (p:Int)) (k:=j) (by rw [w1]; exact hjs);have ar1:T40 N ((t.1,t.2),((p:Int),(i:Int)))=some (cg t ((p:Int),(i:Int))):=fin;have A9:=af (show p < (cC t).length by rw [iF]; exact hp);have SW:=af (show i < (gL (cC t) (p:Int)).length by rw [w1]; exact hi);have Xc:=af (show j < (gL (cC t) (p:Int)).length by rw [w1]; exact hjs);rw [ahz];simp only [zB18,ar1,e1,hj,zB11,A9,SW,Xc,r1,r2,x1,x2,y1,y2,w2 i hi,w2 j hjs,zB4,zB12];unfold xW wv qm;rw [hV];cases c <;> rfl
end
abbrev Zz:fX:=(0,0,false)
def nxS (l:List fX) (i:Nat):fX:=l.getD ((i+1) % l.length) Zz
def Tv (t:bh) (l:List fX) (i:Nat):Prop:=wv t (aJ t) (l.getD i Zz)=xW t (aJ t) (nxS l i)
def Xd (t:bh) (l:List fX) (x:Int):Prop:=
 (l.length > 256/\x=5)\/(l.length<=256/\(∃ s∈l,aU t (qm s)=false)/\x=10) \/
 (l.length<=256/\(∀ s∈l,aU t (qm s)=true)/\((((∀ i,i < l.length->Tv t l i)/\tN t l≠0)/\x=0)\/(¬ ((∀ i,i < l.length->Tv t l i)/\tN t l≠0)/\x=21)))
def L7 {t:bh} {l:List fX} {y:Int} (h:Xd t l x) (k:Xd t l y):x=y:=by
 have nb:(∃ s∈l,aU t (qm s)=false)->(∀ s∈l,aU t (qm s)=true)->False:=λ ⟨s,h1,h2⟩ h3=>by
  rw [h3 s h1] at h2; cases h2
 rcases h with ⟨h1,h2⟩|⟨h1,h2,h3⟩|⟨h1,h2,h3⟩ <;> rcases k with ⟨k1,k2⟩|⟨k1,k2,k3⟩|⟨k1,k2,k3⟩
 .rw [h2,k2]
 .omega
 .omega
 .omega
 .rw [h3,k3]
 .exact (nb h2 k2).elim
 .omega
 .exact (nb k2 h2).elim
 .rcases h3 with ⟨h3,h4⟩|⟨h3,h4⟩ <;> rcases k3 with ⟨k3,k4⟩|⟨k3,k4⟩
  .rw [h4,k4]
  .exact absurd h3 k3
  .exact absurd k3 h3
  .rw [h4,k4]
def Jt (t:bh) (l:List fX) {i:Nat} (hi:i < l.length):tN t (l.take (i+1))=tN t (l.take i)+HH t l[i]:=by
 rw [adm,ab3 hi];show tN t (l.take i++[l[i]])=_;rw [FH,Jo]
def abz (l:List fX) {i:Nat} (hi:i < l.length):l.getD i Zz=l[i]:=by simp [hi]
section
variable (hN:dC N)
include hN
theorem Xe {t:bh} (l:List fX) (hl:l.length<=256) :
  ∃ x,ao (Be N t l) N 0=some x/\((x=.inl 10/\∃ s∈l,aU t (qm s)=false)\/(x=.inr ()/\∀ s∈l,aU t (qm s)=true)):=by
 refine gk (rd:=Be N t l) (Inv:=λ s=>∃ i:Nat,s=(i:Int)/\i<=l.length/\∀ j (hj:j < l.length),j < i->aU t (qm l[j])=true) (m:=λ s=>l.length - s.toNat) (λ s ⟨i,hs,hi,hf⟩=>?_) N _ ⟨0,rfl,abk _,λ j _ hj=>absurd hj (adT _)⟩ (by
  show l.length - (0:Int).toNat < N;unfold dC at hN;omega)
 subst hs;by_cases c:i < l.length
 .obtain ⟨a1,a2⟩:=L5 l c;have q:V4 N ((t.1,t.2),(l[i].1,l[i].2.1))=some (aU t (qm l[i])):=zV N t (qm l[i]);cases e:aU t (qm l[i])
  .rw [e] at q;refine .inr ⟨.inl 10,?_,.inl ⟨rfl,l[i],ab5 c,e⟩⟩;simp only [Be,zB11,ai c,af c,a1,a2,zB18,q,zB4,zB12,aaR,Ba]
  .rw [e] at q;refine .inl ⟨((i+1:Nat):Int),?_,⟨i+1,rfl,c,λ j hj hji=>?_⟩,?_⟩
   .simp only [Be,zB11,ai c,af c,a1,a2,zB18,q,aN (show i < 9223372036854775807 by omega),zB0,zB12,aa5,Ba]
   .by_cases z:j=i
    .subst z; exact e
    .exact hf j hj (by omega)
   .show l.length - (((i+1:Nat):Int)).toNat < l.length - ((i:Int)).toNat;omega
 .have e:i=l.length:=by omega
  subst e;refine .inr ⟨.inr (),?_,.inr ⟨rfl,λ s hs=>?_⟩⟩
  .simp only [Be,zB15,Ba]
  .obtain ⟨j,hj,rfl⟩:=adn hs;exact hf j hj hj
theorem abA {t:bh} (v:Vd t) (l:List fX) (hl:l.length<=256) (he:∀ s∈l,aU t (qm s)=true) :
  ∃ x,ao (vY N t l (cC t)) N (0,0)=some x/\((x=.inl 21/\¬ ∀ i,i < l.length->Tv t l i)\/(x=.inr (tN t l)/\∀ i,i < l.length->Tv t l i)):=by
 refine gk (rd:=vY N t l (cC t)) (Inv:=λ s=>∃ i:Nat,s=(tN t (l.take i),(i:Int))/\i<=l.length/\∀ j,j < i->Tv t l j) (m:=λ s=>l.length - s.2.toNat) (λ s ⟨i,hs,hi,hf⟩=>?_) N _ ⟨0,rfl,abk _,λ j hj=>absurd hj (adT _)⟩ (by
  show l.length - (0:Int).toNat < N;unfold dC at hN;omega)
 subst hs;by_cases c:i < l.length
 .obtain ⟨a1,a2⟩:=L5 l c;have hm:(i+1) % l.length < l.length:=Nat.mod_lt _ (by omega);obtain ⟨b1,b2⟩:=L5 l hm;have ei:=he _ (ab5 c);have q1:T82 N ((t.1,t.2),cC t,(l[i].1,l[i].2.1,l[i].2.2))=some (xW t (aJ t) l[i],wv t (aJ t) l[i]):=L6 v ei;have q2:T82 N ((t.1,t.2),cC t,((l[(i+1) % l.length]'hm).1,(l[(i+1) % l.length]'hm).2.1,(l[(i+1) % l.length]'hm).2.2))=some (xW t (aJ t) (l[(i+1) % l.length]'hm),wv t (aJ t) (l[(i+1) % l.length]'hm)):=L6 v (he _ (ab5 hm));have q3:T69 N ((t.1,t.2),(l[i].1,l[i].2.1))=some (mj t (qm l[i])):=Fh N t _ ei;have w1:=aN (show i < 9223372036854775807 by omega);have tm:=Bs (i+1) l.length;have nz:decide ((l.length:Int)=0)=false:=decide_eq_false (by omega);have ok:Tv t l i↔wv t (aJ t) l[i]=xW t (aJ t) (l[(i+1) % l.length]'hm):=by
   unfold Tv nxS;rw [abz l c,abz l hm]
  by_cases k:wv t (aJ t) l[i]=xW t (aJ t) (l[(i+1) % l.length]'hm)
  .have kb:(wv t (aJ t) l[i] != xW t (aJ t) (l[(i+1) % l.length]'hm))=false:=by rw [bne_eq_false_iff_eq]; exact k
   have ri:=v.Xb _ ei;have o22:(bif l[i].2.2 then some (wrap .i64 (0 - (mj t (qm l[i])).2)) else some (mj t (qm l[i])).2)=some (HH t l[i]):=by
    unfold HH;rw [Ap ⟨by omega,by omega⟩];cases l[i].2.2 <;> rfl
   have sb:=QH v.Xb (l:=l.take (i+1)) (λ s hs=>he s (aeu hs));have tl:(l.take (i+1)).length=i+1:=by rw [aca]; omega
   rw [tl,Jt t l c] at sb;have w2:wrap .i64 (tN t (l.take i)+HH t l[i])=tN t (l.take (i+1)):=by
    rw [Jt t l c];exact Ap ⟨by omega,by omega⟩
   refine .inl ⟨(tN t (l.take (i+1)),((i+1:Nat):Int)),?_,⟨i+1,rfl,c,λ j hj=>?_⟩,?_⟩
   .simp only [vY,zB11,ai c,af c,af hm,nz,w1,tm,a1,a2,b1,b2,zB18,gH,gJ,q1,q2,q3,kb,o22,w2,zB0,zB12,aaR,Ba,LC]
   .by_cases z:j=i
    .subst z; exact ok.2 k
    .exact hf j (by omega)
   .show l.length - (((i+1:Nat):Int)).toNat < l.length - ((i:Int)).toNat;omega
  .have kb:(wv t (aJ t) l[i] != xW t (aJ t) (l[(i+1) % l.length]'hm))=true:=by rw [bne_iff_ne]; exact k
   refine .inr ⟨.inl 21,?_,.inl ⟨rfl,λ h=>k (ok.1 (h i c))⟩⟩;simp only [vY,zB11,ai c,af c,af hm,nz,w1,tm,a1,a2,b1,b2,zB18,gH,gJ,q1,q2,kb,zB0,zB12,aaR,Ba,LC]
 .have e:i=l.length:=by omega
  subst e;refine .inr ⟨.inr (tN t l),?_,.inr ⟨rfl,hf⟩⟩;rw [acN];simp only [vY,zB15,Ba,LC]
theorem QJ {t:bh} (v:Vd t) (l:List fX):∃ x,T36 N (t,l)=some x/\Xd t l x:=by
 rw [ahD];by_cases c:l.length > 256
 .have d:decide (((map n169 l).length:Int) > 256)=true:=decide_eq_true (by rw [aag]; omega);exact ⟨5,by rw [d]; rfl,.inl ⟨c,rfl⟩⟩
 .have d:decide (((map n169 l).length:Int) > 256)=false:=decide_eq_false (by rw [aag]; omega);obtain ⟨x,x1,x2⟩:=Xe hN (t:=t) l (by omega);rcases x2 with ⟨rfl,x2⟩|⟨rfl,x2⟩
  .exact ⟨10,by simp only [d,x1,cond_false,aad,acM],.inr (.inl ⟨by omega,x2,rfl⟩)⟩
  .obtain ⟨y,y1,y2⟩:=abA hN v l (by omega) x2;have q:=LZ hN v;have q:T25 N (t.1,t.2)=some (cC t):=q;rcases y2 with ⟨rfl,y2⟩|⟨rfl,y2⟩
   .refine ⟨21,?_,.inr (.inr ⟨by omega,x2,.inr ⟨λ h=>y2 h.1,rfl⟩⟩)⟩;simp only [d,x1,q,y1,zB18,zB0,zB12,acM,acP]
   .by_cases z:tN t l=0
    .have zb:(tN t l == 0)=true:=by rw [beq_iff_eq]; exact z
     refine ⟨21,?_,.inr (.inr ⟨by omega,x2,.inr ⟨λ h=>h.2 z,rfl⟩⟩)⟩;simp only [d,x1,q,y1,zB18,zb,zB0,zB12,acM,acP];cases ((((map n169 l).length:Nat):Int) == 0) <;> rfl
    .have zb:(tN t l == 0)=false:=by rw [beq_eq_false_iff_ne]; exact z
     have nl:((((map n169 l).length:Nat):Int) == 0)=false:=by
      rw [beq_eq_false_iff_ne,aag];intro h;have:l=[]:=List.eq_nil_of_length_eq_zero (by omega);subst this;exact z rfl
     refine ⟨0,?_,.inr (.inr ⟨by omega,x2,.inl ⟨⟨y2,z⟩,rfl⟩⟩)⟩;simp only [d,x1,q,y1,zB18,zb,nl,zB0,zB12,acM,acP]
end
def UJ (A B:Nat) (r:Int) (s:List Int×List Int):List Int×List Int:=
 if 0 < gI s.1 (A:Int)/\gI s.1 (B:Int)=0 then (s.1.set B 1,s.2.set B (wrap .i64 (gI s.2 (A:Int)+r)))
 else if 0 < gI s.1 (B:Int)/\gI s.1 (A:Int)=0 then (s.1.set A 1,s.2.set A (wrap .i64 (gI s.2 (B:Int) - r)))
 else s
def abB (l:List Int) {k:Nat} (v:Int) (h:k < l.length):gI (l.set k v) (k:Int)=v:=by rw [Jd l k k v h,if_pos rfl]
def Xf (l:List Int) {k j:Nat} (v:Int) (h:k < l.length) (e:j≠k):gI (l.set k v) (j:Int)=gI l (j:Int):=by rw [Jd l k j v h,if_neg e]
section
def aia (t:bh) {p k m A B:Nat} (hp:p < t.1.length) (hk:k < t.1[p].2.length) (hs:t.1[p].2.length<=1000)
  (w1:(gL (cC t) (p:Int)).length=t.1[p].2.length) (hA:gI (gL (cC t) (p:Int)) (k:Int)=(A:Int)) (hB:gI (gL (cC t) (p:Int)) (((k+1) % t.1[p].2.length:Nat):Int)=(B:Int)) (lA:A < m) (lB:B < m)
  (o1:Unit) (o2:Unit) (K0 T0 kn0 J0 kn ht:List Int) (l1:K0.length=m) (l2:T0.length=m) (l3:kn.length=m) (l4:ht.length=m) :
  fN N t (cC t) (o1,o2,K0,T0) ((p:Int),kn0,J0) ((k:Int),kn,ht) =
   some (.inl (((k+1:Nat):Int),UJ A B (t.1[p].2[k]).2 (kn,ht))):=by
 obtain ⟨r1,r2⟩:=g59 (cC t) (k:=p) (by rw [iF]; exact hp);obtain ⟨a1,a2⟩:=Bh t.1 hp;obtain ⟨b1,b2⟩:=WA t.1[p].2 hk;have hm:(k+1) % t.1[p].2.length < t.1[p].2.length:=Nat.mod_lt _ (by omega);obtain ⟨x1,x2⟩:=g3 (gL (cC t) (p:Int)) (k:=k) (by rw [w1]; exact hk);obtain ⟨y1,y2⟩:=g3 (gL (cC t) (p:Int)) (k:=(k+1) % t.1[p].2.length) (by rw [w1]; exact hm);rw [hA] at x1;rw [hB] at y1;obtain ⟨c1,c2⟩:=g3 kn (k:=A) (by omega);obtain ⟨d1,d2⟩:=g3 kn (k:=B) (by omega);obtain ⟨e1,e2⟩:=g3 ht (k:=A) (by omega);obtain ⟨f1,f2⟩:=g3 ht (k:=B) (by omega);have A9:=af (show p < (cC t).length by rw [iF]; exact hp);have SW:=af hk;have Xc:=af hm;have ih4:=af hp;have iA:=af lA;have iB:=af lB;have wk:=aN (show k < 9223372036854775807 by omega);have tm:=Bs (k+1) t.1[p].2.length;have nz:decide ((t.1[p].2.length:Int)=0)=false:=decide_eq_false (by omega);have dA:decide (A < m)=true:=decide_eq_true lA;have dB:decide (B < m)=true:=decide_eq_true lB;have sl:∀ (l:List Int) (i:Nat) (v:Int),(l.set i v).length=l.length:=λ l i v=>acq
 unfold UJ;by_cases u:0 < gI kn (A:Int)/\gI kn (B:Int)=0
 .obtain ⟨u1,u2⟩:=u;have ne:A≠B:=λ e=>by rw [e] at u1; omega
  have v1:decide (gI kn (A:Int) > 0)=true:=decide_eq_true u1;have v2:(gI kn (B:Int) == 0)=true:=by rw [beq_iff_eq]; exact u2
  obtain ⟨g1,g2⟩:=g3 (kn.set B 1) (k:=A) (by rw [sl]; omega);obtain ⟨h1,h2⟩:=g3 (kn.set B 1) (k:=B) (by rw [sl]; omega);rw [Xf kn 1 (by omega) ne] at g1;rw [abB kn 1 (by omega)] at h1;have v3:decide ((1:Int) > 0)=true:=rfl;have v4:(gI kn (A:Int) == 0)=false:=by rw [beq_eq_false_iff_ne]; omega
  rw [if_pos ⟨u1,u2⟩];simp only [fN,zB3,r1,r2,w1,A9,SW,Xc,ih4,ai hk,nz,wk,tm,zB22,x1,x2,y1,y2,a1,a2,b1,b2,l1,l2,l3,l4,iA,iB,dA,dB,c1,c2,d1,d2,e1,e2,v1,v2,SJ,sl,g1,g2,h1,h2,v3,v4,aaR,zB0,zB12,jE,lH,zQ,nO]
 .rw [if_neg u];by_cases u':0 < gI kn (B:Int)/\gI kn (A:Int)=0
  .obtain ⟨u1,u2⟩:=u';have v1:decide (gI kn (A:Int) > 0)=false:=decide_eq_false (by omega);have v2:decide (gI kn (B:Int) > 0)=true:=decide_eq_true u1;have v3:(gI kn (A:Int) == 0)=true:=by rw [beq_iff_eq]; exact u2
   rw [if_pos ⟨u1,u2⟩];simp only [fN,zB3,r1,r2,w1,A9,SW,Xc,ih4,ai hk,nz,wk,tm,zB22,x1,x2,y1,y2,a1,a2,b1,b2,l1,l2,l3,l4,iA,iB,dA,dB,c1,c2,d1,d2,f1,f2,v1,v2,v3,SJ,sl,aaR,zB0,zB12,jE,lH,zQ,nO]
  .rw [if_neg u'];cases v1:decide (gI kn (A:Int) > 0)
   .cases v2:decide (gI kn (B:Int) > 0)
    .simp only [fN,zB3,r1,r2,w1,A9,SW,Xc,ih4,ai hk,nz,wk,tm,zB22,x1,x2,y1,y2,a1,a2,b1,b2,l1,l2,l3,l4,iA,iB,dA,dB,c1,c2,d1,d2,v1,v2,aaR,zB0,zB12,jE,lH,zQ,nO]
    .have v3:(gI kn (A:Int) == 0)=false:=by
      rw [beq_eq_false_iff_ne];have:=of_decide_eq_true v2;omega
     simp only [fN,zB3,r1,r2,w1,A9,SW,Xc,ih4,ai hk,nz,wk,tm,zB22,x1,x2,y1,y2,a1,a2,b1,b2,l1,l2,l3,l4,iA,iB,dA,dB,c1,c2,d1,d2,v1,v2,v3,aaR,zB0,zB12,jE,lH,zQ,nO]
   .have v3:(gI kn (B:Int) == 0)=false:=by
     rw [beq_eq_false_iff_ne];have:=of_decide_eq_true v1;omega
    have v4:(gI kn (A:Int) == 0)=false:=by
     rw [beq_eq_false_iff_ne];have:=of_decide_eq_true v1;omega
    cases v2:decide (gI kn (B:Int) > 0)
    .simp only [fN,zB3,r1,r2,w1,A9,SW,Xc,ih4,ai hk,nz,wk,tm,zB22,x1,x2,y1,y2,a1,a2,b1,b2,l1,l2,l3,l4,iA,iB,dA,dB,c1,c2,d1,d2,v1,v2,v3,v4,aaR,zB0,zB12,jE,lH,zQ,nO]
    .simp only [fN,zB3,r1,r2,w1,A9,SW,Xc,ih4,ai hk,nz,wk,tm,zB22,x1,x2,y1,y2,a1,a2,b1,b2,l1,l2,l3,l4,iA,iB,dA,dB,c1,c2,d1,d2,v1,v2,v3,v4,aaR,zB0,zB12,jE,lH,zQ,nO]
end
structure AR (m:Nat) (H:HM) (kn ht:List Int):Prop where
 lk:kn.length=m
 lh:ht.length=m
 kv:∀ a:Nat,a < m->gI kn (a:Int)=if (getM (a:Int) H).isSome=true then 1 else 0
 hv:∀ (a:Nat) (x:Int),a < m->getM (a:Int) H=some x->gI ht (a:Int)=x
def AR.yes {m:Nat} {H:HM} (h:AR m H kn ht) {a:Nat} (ha:a < m):0 < gI kn (a:Int)↔(getM (a:Int) H).isSome=true:=by
 rw [h.kv a ha];split
 .rename_i c; exact ⟨λ _=>c,λ _=>by omega⟩
 .rename_i c; exact ⟨λ z=>absurd z (by omega),λ z=>absurd z c⟩
def AR.no {m:Nat} {H:HM} (h:AR m H kn ht) {a:Nat} (ha:a < m):gI kn (a:Int)=0↔(getM (a:Int) H).isSome=false:=by
 rw [h.kv a ha];cases (getM (a:Int) H).isSome
 .exact ⟨λ _=>rfl,λ _=>rfl⟩
 .exact ⟨λ z=>by simp at z,λ z=>by cases z⟩
def AR.put {m:Nat} {H:HM} (h:AR m H kn ht) {B:Nat} (lB:B < m) (x:Int):AR m (dG (B:Int) x H) (kn.set B 1) (ht.set B x):=by
 refine ⟨by rw [acq,h.lk],by rw [acq,h.lh],λ a ha=>?_,λ a y ha hy=>?_⟩
 .rw [Jd kn B a 1 (by rw [h.lk]; exact lB),eF];by_cases e:a=B
  .subst e; rw [if_pos rfl,if_pos rfl]; rfl
  .rw [if_neg e,if_neg (show ¬ ((a:Int)=(B:Int)) by omega),h.kv a ha]
 .rw [Jd ht B a x (by rw [h.lh]; exact lB)];rw [eF] at hy;by_cases e:a=B
  .subst e;rw [if_pos rfl] at hy;cases hy;rw [if_pos rfl]
  .rw [if_neg (show ¬ ((a:Int)=(B:Int)) by omega)] at hy;rw [if_neg e];exact h.hv a y ha hy
def fB (t:bh) (s:List Int×List Int) (e:Int×Int):List Int×List Int:=UJ (aJ t e).toNat (aJ t (cg t e)).toNat (mj t e).2 s
def AR.st {t:bh} {m:Nat} {H:HM} (h:AR m H kn ht) (P:PM) (g:Bool) {A B:Nat} (hA:aJ t e=(A:Int)) (hB:aJ t (cg t e)=(B:Int)) (lA:A < m) (lB:B < m) :
  AR m (lO t (aJ t) (H,P,g) e).1 (fB t (kn,ht) e).1 (fB t (kn,ht) e).2:=by
 unfold fB;rw [hA,hB,aaK,aaK];unfold lO UJ;rw [hA,hB];by_cases c1:(getM (A:Int) H).isSome=true/\(getM (B:Int) H).isSome=false
 .rw [if_pos c1,if_pos ⟨(h.yes lA).2 c1.1,(h.no lB).2 c1.2⟩];obtain ⟨x,hx⟩:=HY.1 c1.1;have:=h.hv A x lA hx;show AR m (dG (B:Int) (wrap .i64 (ar H (A:Int)+(mj t e).2)) H) (kn.set B 1) (ht.set B (wrap .i64 (gI ht (A:Int)+(mj t e).2)));rw [fT hx,this];exact h.put lB _
 .rw [if_neg c1,if_neg λ z:0 < gI kn (A:Int)/\gI kn (B:Int)=0=>c1 ⟨(h.yes lA).1 z.1,(h.no lB).1 z.2⟩];by_cases c2:(getM (B:Int) H).isSome=true/\(getM (A:Int) H).isSome=false
  .rw [if_pos c2,if_pos ⟨(h.yes lB).2 c2.1,(h.no lA).2 c2.2⟩];obtain ⟨x,hx⟩:=HY.1 c2.1;have:=h.hv B x lB hx;show AR m (dG (A:Int) (wrap .i64 (ar H (B:Int) - (mj t e).2)) H) (kn.set A 1) (ht.set A (wrap .i64 (gI ht (B:Int) - (mj t e).2)));rw [fT hx,this];exact h.put lA _
  .rw [if_neg c2,if_neg λ z:0 < gI kn (B:Int)/\gI kn (A:Int)=0=>c2 ⟨(h.yes lB).1 z.1,(h.no lA).1 z.2⟩];exact h
def Xg (t:bh) (m:Nat):Prop:=∀ e,aU t e=true->∃ a:Nat,a < m/\aJ t e=(a:Int)
def AR.fold {t:bh} (v:Vd t) {m:Nat} (pm:Xg t m):∀ (l:List (Int×Int)) {H:HM} {P:PM} {g:Bool} {kn ht:List Int},(∀ e∈l,aU t e=true)->AR m H kn ht ->
  AR m (l.foldl (lO t (aJ t)) (H,P,g)).1 (l.foldl (fB t) (kn,ht)).1 (l.foldl (fB t) (kn,ht)).2
 |[],H,P,g,kn,ht,_,h=>h
 |e::l,H,P,g,kn,ht,hl,h=>by
  have he:=hl e acd;obtain ⟨A,lA,hA⟩:=pm e he;obtain ⟨B,lB,hB⟩:=pm _ (nU v he);have k:=h.st P g hA hB lA lB;rw [ab7,ab7];generalize lO t (aJ t) (H,P,g) e=s at k;generalize fB t (kn,ht) e=r at k;obtain ⟨H1,P1,g1⟩:=s;obtain ⟨kn1,ht1⟩:=r;exact AR.fold v pm l (λ x hx=>hl x (ab6 _ hx)) k
def aib {t:bh} {V:Int×Int->Int} {H:HM} {P:PM} {g:Bool} (h:(getM (V e) H).isSome=(getM (V (cg t e)) H).isSome):lO t V (H,P,g) e=(H,P,g):=by
 unfold lO;rw [if_neg (λ z=>by
  have z1:(getM (V e) H).isSome=true:=z.1;have z2:(getM (V (cg t e)) H).isSome=false:=z.2;rw [h,z2] at z1; cases z1),if_neg (λ z=>by
  have z1:(getM (V (cg t e)) H).isSome=true:=z.1;have z2:(getM (V e) H).isSome=false:=z.2;rw [h,z1] at z2; cases z2)]
def QK {t:bh} {H:HM} {P:PM} {g:Bool} (c:HJ t H):∀ (l:List (Int×Int)),(∀ e∈l,aU t e=true)->l.foldl (lO t (aJ t)) (H,P,g)=(H,P,g)
 |[],_=>rfl
 |e::l,hl=>by
  rw [ab7,aib (c e (hl e acd))];exact QK c l λ x hx=>hl x (ab6 _ hx)
def tO (t:bh):Nat->List Int×List Int->List Int×List Int
 |0,s=>s
 |n+1,s=>(bM t).foldl (fB t) (tO t n s)
def abD {t:bh} {m:Nat} (pm:Xg t m) {H:HM} {P:PM} (h:HI t (aJ t) R H P):H.length<=m:=by
 have:=B8 (m:=(adi m).map λ k:Nat=>(k:Int)) h.nd λ a ha=>by
  obtain ⟨x,hx⟩:=tM ha;obtain ⟨e,he,rfl⟩:=h.key a (HY.2 ⟨x,hx⟩);obtain ⟨k,hk,hv⟩:=pm e he;rw [hv];exact List.mem_map_of_mem (adj.2 hk)
 simpa using this
def rounds {t:bh} (v:Vd t) {m:Nat} (pm:Xg t m) {H:HM} {kn ht:List Int} {P:PM} (h:HI t (aJ t) (uj t) H P) (k:AR m H kn ht):∀ n:Nat,
  ∃ H' P',HI t (aJ t) (uj t) H' P'/\AR m H' (tO t n (kn,ht)).1 (tO t n (kn,ht)).2/\(∀ a,(getM a H).isSome=true->(getM a H').isSome=true)/\(HJ t H'\/H.length+n<=H'.length)
 |0=>⟨H,P,h,k,λ _ z=>z,.inr (adP _)⟩
 |n+1=>by
  obtain ⟨H1,P1,h1,k1,l1,c1⟩:=rounds v pm h k n;obtain ⟨f1,f2,f3⟩:=HI.fold v.ri (bM t) false (λ e he=>cZ.1 he) h1;have f4:=AR.fold v pm (bM t) (P:=P1) (g:=false) (λ e he=>cZ.1 he) k1;refine ⟨((bM t).foldl (lO t (aJ t)) (H1,P1,false)).1,((bM t).foldl (lO t (aJ t)) (H1,P1,false)).2.1,f1,f4,λ a ha=>?_,?_⟩
  .rw [f2 a (l1 a ha)]; exact l1 a ha
  .rcases c1 with c1|c1
   .rw [QK c1 _ λ e he=>cZ.1 he];exact .inl c1
   .rcases f3 with ⟨f3,f5⟩|⟨_,f3⟩
    .rw [f3];exact .inl λ e he=>f5 e (cZ.2 he)
    .exact .inr (by omega)
def OW {t:bh} (v:Vd t) {m:Nat} (pm:Xg t m) {H:HM} {P:PM} (h:HI t (aJ t) (uj t) H P) (k:AR m H kn ht) (h0:1<=H.length)
  (hr:∀ q:Int,0<=q->q < (t.1.length:Int)->wG t q->(getM (aJ t (q,0)) H).isSome=true) :
  ∃ H' P',HI t (aJ t) (uj t) H' P'/\AR m H' (tO t m (kn,ht)).1 (tO t m (kn,ht)).2/\L4 t H':=by
 obtain ⟨H',P',h1,k1,l1,c1⟩:=rounds v pm h k m;have len:=abD pm h1;have c:HJ t H':=c1.resolve_right (by omega);refine ⟨H',P',h1,k1,λ e he=>?_⟩;obtain ⟨a,b,_,_⟩:=cF.1 he;rw [c.end_ v he];obtain ⟨q,q0,q1,q2,q3⟩:∃ q:Int,0<=q/\q < (t.1.length:Int)/\wG t q/\(av t).getD q.toNat 0=(av t).getD e.1.toNat 0:=by
  have main:∀ n:Nat,n < t.1.length->∃ q:Int,0<=q/\q < (t.1.length:Int)/\wG t q/\(av t).getD q.toNat 0=(av t).getD n 0:=by
   intro n
   induction n using Nat.strongRecOn with
   |_ n ih=>
    intro hn;by_cases f:wG t (n:Int)
    .exact ⟨(n:Int),by omega,by omega,f,by rw [aaK]⟩
    .unfold wG at f;simp only [Classical.not_forall] at f;obtain ⟨r,r0,r1,r2⟩:=f;have r2:(av t).getD r.toNat 0=(av t).getD ((n:Int)).toNat 0:=Classical.not_not.1 r2;obtain ⟨q,q0,q1,q2,q3⟩:=ih r.toNat (by omega) (by omega);exact ⟨q,q0,q1,q2,by rw [q3,r2,aaK]⟩
  obtain ⟨q,q0,q1,q2,q3⟩:=main e.1.toNat (by omega);exact ⟨q,q0,q1,q2,q3⟩
 rw [<- c.pc v q0 q1 a b q3];exact l1 _ (hr q q0 q1 q2)
def L8 (a:Int):∀ m:PM,bL .int (aI a) (ax (map kF m))=true
 |[]=>rfl
 |x::m=>by
  show ((JL .int (aI a) (aI x.1)).isSome&&bL .int (aI a) (ax (map kF m)))=true;rw [L8 a m,zx]; rfl
def adz (a:Int):∀ m:PM,gO .int (aI a) (ax (map kF m))=(getM a m).map n83
 |[]=>rfl
 |x::m=>by
  show (bif AD .int (aI a) (aI x.1) then some (n83 x.2) else gO .int (aI a) (ax (map kF m)))=(if a=x.1 then some x.2 else getM a m).map n83;unfold AD;rw [zx,adz a m];by_cases e:a=x.1
  .simp [e]
  .simp [e]
def Ai (a:Int) (m:PM):d83 (bu .int (aI a) (AV.list .nil 0 []) (ax (map kF m)))=ui m a/\fits Mu (bu .int (aI a) (AV.list .nil 0 []) (ax (map kF m)))=true:=by
 unfold bu ui;rw [adz];cases getM a m with
 |none=>exact ⟨rfl,rfl⟩
 |some l=>exact ⟨alI l,alH l⟩
def Xh (a:Int) (l:List fX):∀ m:PM,eL .int (aI a) (AV.list .bV 3 (map n119 l)) (ax (map kF m))=ax (map kF (dG a l m))
 |[]=>rfl
 |x::m=>by
  show (bif AD .int (aI a) (aI x.1) then (aI a,AV.list .bV 3 (map n119 l))::ax (map kF m) else (aI x.1,n83 x.2)::eL .int (aI a) (AV.list .bV 3 (map n119 l)) (ax (map kF m)))=ax (map kF (if a=x.1 then (a,l)::m else (x.1,x.2)::dG a l m));unfold AD;rw [zx,Xh a l m];by_cases e:a=x.1
  .simp only [e,decide_true,if_true]; rfl
  .simp only [e,decide_false,if_false]; rfl
def fy:∀ m:PM,ab (ax (map kF m))=map kF m
 |[]=>rfl
 |x::m=>by
  show kF x::ab (ax (map kF m))=_;rw [fy m]; rfl
def adA:∀ l:List fX,e7 (map n119 l)=true
 |[]=>rfl
 |x::l=>by
  show ((n119 x).exact&&e7 (map n119 l))=true;rw [adA l]; rfl
def aic {x:Int×List fX} (h:x.2≠[]):(kF x).exact=true:=by
 obtain ⟨a,l⟩:=x;cases l with
 |nil=>exact absurd rfl h
 |cons c l=>
  show (true&&(((n119 c).exact&&e7 (map n119 l))&&true))=true;rw [adA l]; rfl
def gV {m:PM} (h:∀ x∈m,x.2≠[]):aD (ax (map kF m))=true:=by
 unfold Go.Am.aD;rw [fy]
 induction m with
 |nil=>rfl
 |cons x m ih=>
  rw [acO,e7,ih λ y hy=>h y (ab6 _ hy),aic (h x acd)]; rfl
def L9 (l:List fX) (a b:Int) (c:Bool):map n119 l++[AV.agg [aI a,aI b,AV.bool c]]=map n119 (l++[(a,b,c)]):=by rw [acf]; rfl
def QL:∀ l:List fX,au (map n119 l) (map n119 l)=true
 |[]=>rfl
 |x::l=>by
  rw [acO,au,QL l];show (au [aI x.1,aI x.2.1,AV.bool x.2.2] [aI x.1,aI x.2.1,AV.bool x.2.2]&&true)=true;simp [au,eC,ur]
def QM:∀ l:List fX,aZ (map n119 l)=true
 |[]=>rfl
 |x::l=>by
  show ((n119 x).closed&&aZ (map n119 l))=true;rw [QM l]; rfl
def vw (a:List rk) (b:List mi):au [AV.list .bV 2 (map n131 a),AV.list .bV 5 (map n110 b)] [AV.list .bV 2 (map n131 a),AV.list .bV 5 (map n110 b)]=true:=by
 simp only [au,eC,mw,my,aaS,aaJ]
theorem vz:au [AV.fk] [AV.fk]=true:=rfl
def vA (l:List fX):au [AV.list .bV 3 (map n119 l)] [AV.list .bV 3 (map n119 l)]=true:=by
 simp only [au,eC,QL,aaS,aaJ]
def vB (b:Bool):au [AV.bool b] [AV.bool b]=true:=by cases b <;> rfl
def zB1:=And.intro @aaN (And.intro @beq_self_eq_true.{0} (And.intro @aaL (And.intro @aa5 (And.intro @eq_self.{1} (And.intro @aaS (And.intro @ab1 (And.intro @abN (And.intro @aaR (And.intro @bo (And.intro @b8 (And.intro @fy (And.intro @bp (And.intro @b9 (And.intro @aV (And.intro @aW (And.intro @bl (And.intro @bn (And.intro @dM (And.intro @dN (And.intro @vw (And.intro @vz (And.intro @vA @vB))))))))))))))))))))))
def amp (k v:AV) (es:List (AV×AV)):decide (jd .int k es < adk (eL .int k v es))=true:=decide_eq_true (Vv .int k v es)
def ge0 (n:Nat):decide ((0:Int)<=((n:Nat):Int))=true:=decide_eq_true (by omega)
section
def aid (v6:Bool×List ((Int×Int)×Int)×Unit×HM×Unit×PM×Unit×Unit×Bool) (t:bh) {p k:Nat} (hp:p < t.1.length) (hk:k < t.1[p].2.length) (hs:t.1[p].2.length<=1000) (i0:Int) (cl:List fX) (lJ:List ((Int×Int)×Int)) (H0:HM) (P0:PM) (a1:List rk) (a2:List mi) (Ma:List ((Int×Int)×Int)) (H1:HM) (P1:PM) (g1:Bool)
  (pm:List ((Int×Int)×Int)) (H:HM) (P:PM) (g:Bool) (hl:∀ a,(ui P a).length<=1000000) (hn:∀ x∈P,x.2≠[]) :
  jb N (i0,t.1,t.2,cl,lJ,(),H0,(),P0,(),(),a1,a2) v6 ((p:Int),Ma,(),H1,(),P1,(),(),g1,t.1,t.2) ((k:Int),pm,(),H,(),P,(),(),g) =
   some (.inl (((k+1:Nat):Int),pm,(),(lO t (ar pm) (H,P,g) ((p:Int),(k:Int))).1,(),(lO t (ar pm) (H,P,g) ((p:Int),(k:Int))).2.1,(),(),(lO t (ar pm) (H,P,g) ((p:Int),(k:Int))).2.2)):=by
 obtain ⟨b1,b2⟩:=kE t.1 hp;have he:aU t ((p:Int),(k:Int))=true:=kM t hp hk;have ho:Ok t ((p:Int),(k:Int))=true:=by
  unfold Ok;have:=gK t hp;simp only [adF,decide_eq_true_eq,ad7,beq_eq_false_iff_ne];omega
 have SX:tA N ((t.1,t.2),((p:Int),(k:Int)))=some ((p:Int),(k:Int),(cg t ((p:Int),(k:Int))).1,(cg t ((p:Int),(k:Int))).2):=pQ N t _ ho;have q88:Oc N ((t.1,t.2),((p:Int),(k:Int)))=some (mj t ((p:Int),(k:Int))):=sC N t _ he;have w:wrap .i64 ((k:Int)+1)=((k+1:Nat):Int):=aN (by omega);have l1:∀ a,decide ((ui P a).length*24<=140737488355328)=true:=λ a=>decide_eq_true (by have:=hl a; omega)
 have l2:∀ a,decide (((ui P a).length+1)*24<=140737488355328)=true:=λ a=>decide_eq_true (by have:=hl a; omega)
 have x1:=gV hn;have x2:=λ (a:Int) (l:List fX) (s:fX)=>gV (C4 (k:=a) (Jq l s) hn)
 have m1:=λ a=>(Ai a P).1
 have m2:=λ a=>(Ai a P).2
 unfold lO;generalize hA:ar pm ((p:Int),(k:Int))=A;generalize hBB:ar pm (cg t ((p:Int),(k:Int)))=B;have hB:ar pm ((cg t ((p:Int),(k:Int))).1,(cg t ((p:Int),(k:Int))).2)=B:=hBB;cases ga:(getM A H).isSome <;> cases gb:(getM B H).isSome <;>
  simp only [jb,KE,zB7,aaK,b1,ai hk,zB8,SX,q88,zB19,hA,hB,B0,ga,gb,L8,m1,m2,eR,eS,QL,l1,l2,L9,QM,xN,amp,ge0,zy,Xh,zB1,x1,x2,zB0,acu,aci,w,and_self,and_true,true_and,Bool.true_eq_false,zB14,and_false,false_and,if_true,Fb,Cw,Lx,r7,Cv]
def abE (t:bh) {p k:Nat} (hp:p < t.1.length) (hk:k < t.1[p].2.length) (hs:t.1[p].2.length<=1000) (i0:Int) (cl:List fX) (lJ:List ((Int×Int)×Int)) (H0:HM) (P0:PM) (a1:List rk) (a2:List mi) (Ma:List ((Int×Int)×Int)) (H1:HM) (P1:PM) (g1:Bool)
  (pm:List ((Int×Int)×Int)) (H:HM) (P:PM) (g:Bool) (hl:∀ a,(ui P a).length<=1000000) (hn:∀ x∈P,x.2≠[]) :
  gY N (i0,t.1,t.2,cl,lJ,(),H0,(),P0,(),(),a1,a2) ((p:Int),Ma,(),H1,(),P1,(),(),g1,t.1,t.2) ((k:Int),pm,(),H,(),P,(),(),g) =
   some (.inl (((k+1:Nat):Int),pm,(),(lO t (ar pm) (H,P,g) ((p:Int),(k:Int))).1,(),(lO t (ar pm) (H,P,g) ((p:Int),(k:Int))).2.1,(),(),(lO t (ar pm) (H,P,g) ((p:Int),(k:Int))).2.2)):=by
 obtain ⟨b1,b2⟩:=kE t.1 hp;have he:aU t ((p:Int),(k:Int))=true:=kM t hp hk;have ho:Ok t ((p:Int),(k:Int))=true:=by
  unfold Ok;have:=gK t hp;simp only [adF,decide_eq_true_eq,ad7,beq_eq_false_iff_ne];omega
 have SX:tA N ((t.1,t.2),((p:Int),(k:Int)))=some ((p:Int),(k:Int),(cg t ((p:Int),(k:Int))).1,(cg t ((p:Int),(k:Int))).2):=pQ N t _ ho;have q88:Oc N ((t.1,t.2),((p:Int),(k:Int)))=some (mj t ((p:Int),(k:Int))):=sC N t _ he;have w:wrap .i64 ((k:Int)+1)=((k+1:Nat):Int):=aN (by omega);have l1:∀ a,decide ((ui P a).length*24<=140737488355328)=true:=λ a=>decide_eq_true (by have:=hl a; omega)
 have l2:∀ a,decide (((ui P a).length+1)*24<=140737488355328)=true:=λ a=>decide_eq_true (by have:=hl a; omega)
 have x1:=gV hn;have x2:=λ (a:Int) (l:List fX) (s:fX)=>gV (C4 (k:=a) (Jq l s) hn)
 have m1:=λ a=>(Ai a P).1
 have m2:=λ a=>(Ai a P).2
 unfold lO;generalize hA:ar pm ((p:Int),(k:Int))=A;generalize hBB:ar pm (cg t ((p:Int),(k:Int)))=B;have hB:ar pm ((cg t ((p:Int),(k:Int))).1,(cg t ((p:Int),(k:Int))).2)=B:=hBB;cases ga:(getM A H).isSome <;> cases gb:(getM B H).isSome <;>
  simp only [gY,KE,zB7,aaK,b1,ai hk,zB8,SX,q88,zB19,hA,hB,B0,ga,gb,L8,m1,m2,eR,eS,QL,l1,l2,L9,QM,xN,amp,ge0,zy,Xh,zB1,x1,x2,zB0,acu,aci,w,and_self,and_true,true_and,Bool.true_eq_false,zB14,and_false,false_and,if_true,Fb,Cw,Lx,r7,Cv]
end
def Aj (p n:Nat) {k:Nat} (hk:k < (eP p n).length):(eP p n)[k]=((p:Int),(k:Int)):=by simp [eP]
section
def abF (v6:Bool×List ((Int×Int)×Int)×Unit×HM×Unit×PM×Unit×Unit×Bool) (t:bh) {p:Nat} (hp:p < t.1.length) (i0:Int) (cl:List fX) (lJ:List ((Int×Int)×Int)) (H0:HM) (P0:PM) (a1:List rk) (a2:List mi) (Ma:List ((Int×Int)×Int)) (H1:HM) (P1:PM) (g1:Bool)
  (pm:List ((Int×Int)×Int)) (H:HM) (P:PM) (g:Bool) (hn:∀ x∈P,x.2≠[]) :
  jb N (i0,t.1,t.2,cl,lJ,(),H0,(),P0,(),(),a1,a2) v6 ((p:Int),Ma,(),H1,(),P1,(),(),g1,t.1,t.2) ((t.1[p].2.length:Int),pm,(),H,(),P,(),(),g) =
   some (.inr (pm,(),H,(),P,(),(),g)):=by
 obtain ⟨b1,b2⟩:=kE t.1 hp;have x1:=gV hn;simp only [jb,zB11,b1,ay,zB8,zB1,x1,zB0,Fb,Cw,Lx,r7,Cv]
def Xi (t:bh) {p:Nat} (hp:p < t.1.length) (i0:Int) (cl:List fX) (lJ:List ((Int×Int)×Int)) (H0:HM) (P0:PM) (a1:List rk) (a2:List mi) (Ma:List ((Int×Int)×Int)) (H1:HM) (P1:PM) (g1:Bool)
  (pm:List ((Int×Int)×Int)) (H:HM) (P:PM) (g:Bool) (hn:∀ x∈P,x.2≠[]) :
  gY N (i0,t.1,t.2,cl,lJ,(),H0,(),P0,(),(),a1,a2) ((p:Int),Ma,(),H1,(),P1,(),(),g1,t.1,t.2) ((t.1[p].2.length:Int),pm,(),H,(),P,(),(),g) =
   some (.inr (pm,(),H,(),P,(),(),g)):=by
 obtain ⟨b1,b2⟩:=kE t.1 hp;have x1:=gV hn;simp only [gY,zB11,b1,ay,zB8,zB1,x1,zB0,Fb,Cw,Lx,r7,Cv]
variable (hN:dC N)
include hN
theorem Xj (v6:Bool×List ((Int×Int)×Int)×Unit×HM×Unit×PM×Unit×Unit×Bool) {t:bh} (q:Ri t) {p:Nat} (hp:p < t.1.length) (hs:t.1[p].2.length<=1000) (i0:Int) (cl:List fX) (lJ:List ((Int×Int)×Int)) (H0:HM) (P0:PM) (a1:List rk) (a2:List mi) (Ma:List ((Int×Int)×Int)) (H1:HM) (P1:PM) (g1:Bool)
  (pm:List ((Int×Int)×Int)) (H:HM) (P:PM) (g:Bool) (h:HI t (ar pm) R H P) :
  ao (jb N (i0,t.1,t.2,cl,lJ,(),H0,(),P0,(),(),a1,a2) v6 ((p:Int),Ma,(),H1,(),P1,(),(),g1,t.1,t.2)) N (0,pm,(),H,(),P,(),(),g) =
   some (pm,(),((eP p t.1[p].2.length).foldl (lO t (ar pm)) (H,P,g)).1,(),((eP p t.1[p].2.length).foldl (lO t (ar pm)) (H,P,g)).2.1,(),(),((eP p t.1[p].2.length).foldl (lO t (ar pm)) (H,P,g)).2.2):=by
 have key:=dw (rd:=jb N (i0,t.1,t.2,cl,lJ,(),H0,(),P0,(),(),a1,a2) v6 ((p:Int),Ma,(),H1,(),P1,(),(),g1,t.1,t.2)) (eP p t.1[p].2.length)
  (λ s k=>((k:Int),pm,(),s.1,(),s.2.1,(),(),s.2.2)) (lO t (ar pm)) (λ s=>(pm,(),s.1,(),s.2.1,(),(),s.2.2)) (λ s _=>HI t (ar pm) R s.1 s.2.1)
  (λ s k hk AX=>by
   obtain ⟨H,P,g⟩:=s;have AX:HI t (ar pm) R H P:=AX;rw [Aj];rw [iE] at hk;exact ⟨aid v6 t hp hk hs i0 cl lJ H0 P0 a1 a2 Ma H1 P1 g1 pm H P g (AX.pl q) AX.ne,(AX.st q g (kM t hp hk)).1⟩)
  (λ s AX=>by
   obtain ⟨H,P,g⟩:=s;have AX:HI t (ar pm) R H P:=AX;rw [iE];exact abF v6 t hp i0 cl lJ H0 P0 a1 a2 Ma H1 P1 g1 pm H P g AX.ne)
  N (H,P,g) 0 (abk _) (by rw [iE]; unfold dC at hN; omega) h
 exact key
theorem SY {t:bh} (q:Ri t) {p:Nat} (hp:p < t.1.length) (hs:t.1[p].2.length<=1000) (i0:Int) (cl:List fX) (lJ:List ((Int×Int)×Int)) (H0:HM) (P0:PM) (a1:List rk) (a2:List mi) (Ma:List ((Int×Int)×Int)) (H1:HM) (P1:PM) (g1:Bool)
  (pm:List ((Int×Int)×Int)) (H:HM) (P:PM) (g:Bool) (h:HI t (ar pm) R H P) :
  ao (gY N (i0,t.1,t.2,cl,lJ,(),H0,(),P0,(),(),a1,a2) ((p:Int),Ma,(),H1,(),P1,(),(),g1,t.1,t.2)) N (0,pm,(),H,(),P,(),(),g) =
   some (pm,(),((eP p t.1[p].2.length).foldl (lO t (ar pm)) (H,P,g)).1,(),((eP p t.1[p].2.length).foldl (lO t (ar pm)) (H,P,g)).2.1,(),(),((eP p t.1[p].2.length).foldl (lO t (ar pm)) (H,P,g)).2.2):=by
 have key:=dw (rd:=gY N (i0,t.1,t.2,cl,lJ,(),H0,(),P0,(),(),a1,a2) ((p:Int),Ma,(),H1,(),P1,(),(),g1,t.1,t.2)) (eP p t.1[p].2.length)
  (λ s k=>((k:Int),pm,(),s.1,(),s.2.1,(),(),s.2.2)) (lO t (ar pm)) (λ s=>(pm,(),s.1,(),s.2.1,(),(),s.2.2)) (λ s _=>HI t (ar pm) R s.1 s.2.1)
  (λ s k hk AX=>by
   obtain ⟨H,P,g⟩:=s;have AX:HI t (ar pm) R H P:=AX;rw [Aj];rw [iE] at hk;exact ⟨abE t hp hk hs i0 cl lJ H0 P0 a1 a2 Ma H1 P1 g1 pm H P g (AX.pl q) AX.ne,(AX.st q g (kM t hp hk)).1⟩)
  (λ s AX=>by
   obtain ⟨H,P,g⟩:=s;have AX:HI t (ar pm) R H P:=AX;rw [iE];exact Xi t hp i0 cl lJ H0 P0 a1 a2 Ma H1 P1 g1 pm H P g AX.ne)
  N (H,P,g) 0 (abk _) (by rw [iE]; unfold dC at hN; omega) h
 exact key
omit hN in
theorem xX (t:bh) {k:Nat} (hk:k < t.1.length):eH (t.1.take (k+1)) 0=eH (t.1.take k) 0++eP k t.1[k].2.length:=by
 have ht:(t.1.take k).length=k:=by rw [aca]; omega
 rw [adm,ab3 hk];show eH (t.1.take k++[t.1[k]]) 0=_;rw [tG,ht,abC]
omit hN in
theorem HK (t:bh) {k:Nat} (hk:k<=t.1.length):∀ e∈eH (t.1.take k) 0,aU t e=true:=by
 induction k with
 |zero=>intro e he; cases he
 |succ k ih=>
  intro e he;rw [xX t (by omega)] at he;rcases adY.1 he with he|he
  .exact ih (by omega) e he
  .obtain ⟨i,hi,rfl⟩:=adn he;rw [Aj];rw [iE] at hi;exact kM t (by omega) hi
theorem Xk (v6:Bool×List ((Int×Int)×Int)×Unit×HM×Unit×PM×Unit×Unit×Bool) {t:bh} (q:Ri t) (hP:t.1.length<=1000) (hs:∀ x∈t.1,x.2.length<=1000) (i0:Int) (cl:List fX) (lJ:List ((Int×Int)×Int)) (H0:HM) (P0:PM) (a1:List rk) (a2:List mi)
  (pm:List ((Int×Int)×Int)) (H:HM) (P:PM) (g:Bool) (h:HI t (ar pm) R H P) :
  ao (sq N (i0,t.1,t.2,cl,lJ,(),H0,(),P0,(),(),a1,a2) v6) N (0,pm,(),H,(),P,(),(),g,t.1,t.2) =
   some (pm,(),((bM t).foldl (lO t (ar pm)) (H,P,g)).1,(),((bM t).foldl (lO t (ar pm)) (H,P,g)).2.1,(),(),((bM t).foldl (lO t (ar pm)) (H,P,g)).2.2,t.1,t.2):=by
 obtain ⟨s,FW⟩:∃ s,s=λ k=>(eH (t.1.take k) 0).foldl (lO t (ar pm)) (H,P,g):=⟨_,rfl⟩
 have sk:∀ k,k<=t.1.length->HI t (ar pm) R (s k).1 (s k).2.1:=λ k hk=>by
  rw [FW];exact (HI.fold q (eH (t.1.take k) 0) g (HK t hk) h).1
 have ss:∀ k (hk:k < t.1.length),(eP k t.1[k].2.length).foldl (lO t (ar pm)) ((s k).1,(s k).2.1,(s k).2.2)=s (k+1):=λ k hk=>by
  rw [FW];show _=(eH (t.1.take (k+1)) 0).foldl (lO t (ar pm)) (H,P,g);rw [xX t hk,adh]
 have key:=aL (rd:=sq N (i0,t.1,t.2,cl,lJ,(),H0,(),P0,(),(),a1,a2) v6) t.1.length (λ k=>((k:Int),pm,(),(s k).1,(),(s k).2.1,(),(),(s k).2.2,t.1,t.2)) (pm,(),(s t.1.length).1,(),(s t.1.length).2.1,(),(),(s t.1.length).2.2,t.1,t.2) (λ k hk=>by
  obtain ⟨b1,b2⟩:=kE t.1 hk;have hI:=sk k (by omega);have x1:=gV hI.ne;have x2:=gV (sk (k+1) (by omega)).ne;have sd:=Xj hN v6 q hk (hs _ (ab5 hk)) i0 cl lJ H0 P0 a1 a2 pm (s k).1 (s k).2.1 (s k).2.2 pm (s k).1 (s k).2.1 (s k).2.2 hI;rw [ss k hk] at sd;simp only [sq,zB11,ai hk,af hk,b1,b2,zB8,zB1,x1,x2,sd,aN (show k < 9223372036854775807 by omega),zB0,Bb,I6,Cw]) (by
  have x1:=gV (sk t.1.length (adP _)).ne;simp only [sq,aag,ay,zB8,zB1,x1,zB0,Bb,I6,Cw]) N 0 (abk _) (by unfold dC at hN; omega)
 have e0:s 0=(H,P,g):=by rw [FW]; rfl
 have e1:s t.1.length=(bM t).foldl (lO t (ar pm)) (H,P,g):=by
  rw [FW];show (eH (t.1.take t.1.length) 0).foldl _ _=_;rw [acN]; rfl
 simp only [e0,e1] at key;exact key
theorem SZ {t:bh} (q:Ri t) (hP:t.1.length<=1000) (hs:∀ x∈t.1,x.2.length<=1000) (i0:Int) (cl:List fX) (lJ:List ((Int×Int)×Int)) (H0:HM) (P0:PM) (a1:List rk) (a2:List mi)
  (pm:List ((Int×Int)×Int)) (H:HM) (P:PM) (g:Bool) (h:HI t (ar pm) R H P) :
  ao (pY N (i0,t.1,t.2,cl,lJ,(),H0,(),P0,(),(),a1,a2)) N (0,pm,(),H,(),P,(),(),g,t.1,t.2) =
   some (pm,(),((bM t).foldl (lO t (ar pm)) (H,P,g)).1,(),((bM t).foldl (lO t (ar pm)) (H,P,g)).2.1,(),(),((bM t).foldl (lO t (ar pm)) (H,P,g)).2.2,t.1,t.2):=by
 obtain ⟨s,FW⟩:∃ s,s=λ k=>(eH (t.1.take k) 0).foldl (lO t (ar pm)) (H,P,g):=⟨_,rfl⟩
 have sk:∀ k,k<=t.1.length->HI t (ar pm) R (s k).1 (s k).2.1:=λ k hk=>by
  rw [FW];exact (HI.fold q (eH (t.1.take k) 0) g (HK t hk) h).1
 have ss:∀ k (hk:k < t.1.length),(eP k t.1[k].2.length).foldl (lO t (ar pm)) ((s k).1,(s k).2.1,(s k).2.2)=s (k+1):=λ k hk=>by
  rw [FW];show _=(eH (t.1.take (k+1)) 0).foldl (lO t (ar pm)) (H,P,g);rw [xX t hk,adh]
 have key:=aL (rd:=pY N (i0,t.1,t.2,cl,lJ,(),H0,(),P0,(),(),a1,a2)) t.1.length (λ k=>((k:Int),pm,(),(s k).1,(),(s k).2.1,(),(),(s k).2.2,t.1,t.2)) (pm,(),(s t.1.length).1,(),(s t.1.length).2.1,(),(),(s t.1.length).2.2,t.1,t.2) (λ k hk=>by
  obtain ⟨b1,b2⟩:=kE t.1 hk;have hI:=sk k (by omega);have x1:=gV hI.ne;have x2:=gV (sk (k+1) (by omega)).ne;have sd:=SY hN q hk (hs _ (ab5 hk)) i0 cl lJ H0 P0 a1 a2 pm (s k).1 (s k).2.1 (s k).2.2 pm (s k).1 (s k).2.1 (s k).2.2 hI;rw [ss k hk] at sd;simp only [pY,zB11,ai hk,af hk,b1,b2,zB8,zB1,x1,x2,sd,aN (show k < 9223372036854775807 by omega),zB0,Bb,I6,Cw]) (by
  have x1:=gV (sk t.1.length (adP _)).ne;simp only [pY,aag,ay,zB8,zB1,x1,zB0,Bb,I6,Cw]) N 0 (abk _) (by unfold dC at hN; omega)
 have e0:s 0=(H,P,g):=by rw [FW]; rfl
 have e1:s t.1.length=(bM t).foldl (lO t (ar pm)) (H,P,g):=by
  rw [FW];show (eH (t.1.take t.1.length) 0).foldl _ _=_;rw [acN]; rfl
 simp only [e0,e1] at key;exact key
end
def QN (A B:Nat) (r:Int) (s:List Int×List Int):(UJ A B r s).1.length=s.1.length/\(UJ A B r s).2.length=s.2.length:=by
 unfold UJ;split
 .exact ⟨acq,acq⟩
 .split
  .exact ⟨acq,acq⟩
  .exact ⟨rfl,rfl⟩
def FI (t:bh):∀ (l:List (Int×Int)) (s:List Int×List Int),(l.foldl (fB t) s).1.length=s.1.length/\(l.foldl (fB t) s).2.length=s.2.length
 |[],_=>⟨rfl,rfl⟩
 |e::l,s=>by
  rw [ab7,(FI t l _).1,(FI t l _).2];exact QN _ _ _ s
def Mb (t:bh):∀ (n:Nat) (s:List Int×List Int),(tO t n s).1.length=s.1.length/\(tO t n s).2.length=s.2.length
 |0,_=>⟨rfl,rfl⟩
 |n+1,s=>by
  show ((bM t).foldl (fB t) (tO t n s)).1.length=_/\((bM t).foldl (fB t) (tO t n s)).2.length=_;rw [(FI t _ _).1,(FI t _ _).2];exact Mb t n s
section
variable (hN:dC N)
include hN
theorem S0 {t:bh} (v:Vd t) {m:Nat} (pm:Xg t m) {p:Nat} (hp:p < t.1.length) (K0 T0 kn0 J0 kn ht:List Int) (l1:K0.length=m) (l2:T0.length=m) (l3:kn.length=m) (l4:ht.length=m) :
  ao (fN N t (cC t) ((),(),K0,T0) ((p:Int),kn0,J0)) N (0,kn,ht)=some ((eP p t.1[p].2.length).foldl (fB t) (kn,ht)):=by
 have s8:=v.sd _ (ab5 hp);have sl:kr t (p:Int)=t.1[p].2.length:=gK t hp;obtain ⟨w1,w2⟩:=wx t hp;rw [sl] at w1 w2;have key:=dw (rd:=fN N t (cC t) ((),(),K0,T0) ((p:Int),kn0,J0)) (eP p t.1[p].2.length)
  (λ s k=>((k:Int),s.1,s.2)) (fB t) (λ s=>s) (λ s _=>s.1.length=m/\s.2.length=m)
  (λ s k hk hs=>by
   obtain ⟨kn,ht⟩:=s;obtain ⟨h3,h4⟩:=hs;rw [Aj];rw [iE] at hk;have he:aU t ((p:Int),(k:Int))=true:=kM t hp hk;have hm:(k+1) % t.1[p].2.length < t.1[p].2.length:=Nat.mod_lt _ (by omega);have ec:cg t ((p:Int),(k:Int))=((p:Int),(((k+1) % t.1[p].2.length:Nat):Int)):=by
    unfold cg;rw [show (wrap .i64 (((p:Int),(k:Int)).2+1))=((k+1:Nat):Int) from aN (show k < 9223372036854775807 by omega),show kr t ((p:Int),(k:Int)).1=t.1[p].2.length from sl,Bs]
   obtain ⟨A,lA,hA⟩:=pm _ he;obtain ⟨B,lB,hB⟩:=pm _ (nU v he);have st:=aia (N:=N) t hp hk (by omega) w1 (by rw [w2 k hk]; exact hA) (by rw [w2 _ hm,<- ec]; exact hB) lA lB () () K0 T0 kn0 J0 kn ht l1 l2 h3 h4;have e:fB t (kn,ht) ((p:Int),(k:Int))=UJ A B (t.1[p].2[k]).2 (kn,ht):=by
    unfold fB;rw [hA,hB,Bi t hp hk,aaK,aaK]
   rw [e];refine ⟨st,?_⟩;obtain ⟨q1,q2⟩:=QN A B (t.1[p].2[k]).2 (kn,ht);exact ⟨q1.trans h3,q2.trans h4⟩)
  (λ s hs=>by
   obtain ⟨kn,ht⟩:=s;rw [iE];obtain ⟨r1,r2⟩:=g59 (cC t) (k:=p) (by rw [iF]; exact hp);have A9:=af (show p < (cC t).length by rw [iF]; exact hp);simp only [fN,zB11,r1,r2,w1,A9,ay,eV,eW,zB0,zB12,jE,lH,zQ,nO])
  N (kn,ht) 0 (abk _) (by rw [iE]; unfold dC at hN; omega) ⟨l3,l4⟩
 exact key
theorem Xl {t:bh} (v:Vd t) {m:Nat} (pm:Xg t m) (K0 T0 kn ht:List Int) (l1:K0.length=m) (l2:T0.length=m) (l3:kn.length=m) (l4:ht.length=m) :
  ao (oY N t (cC t) ((),(),K0,T0)) N (0,kn,ht)=some ((bM t).foldl (fB t) (kn,ht)):=by
 have le:=v.le;obtain ⟨s,FW⟩:∃ s,s=λ k=>(eH (t.1.take k) 0).foldl (fB t) (kn,ht):=⟨_,rfl⟩
 have ln:∀ k,(s k).1.length=m/\(s k).2.length=m:=λ k=>by
  rw [FW];obtain ⟨a,b⟩:=FI t (eH (t.1.take k) 0) (kn,ht);exact ⟨a.trans l3,b.trans l4⟩
 have ss:∀ k (hk:k < t.1.length),(eP k t.1[k].2.length).foldl (fB t) ((s k).1,(s k).2)=s (k+1):=λ k hk=>by
  rw [FW];show _=(eH (t.1.take (k+1)) 0).foldl (fB t) (kn,ht);have tU:(t.1.take k).length=k:=by rw [aca]; omega
  have:eH (t.1.take (k+1)) 0=eH (t.1.take k) 0++eP k t.1[k].2.length:=by
   rw [adm,ab3 hk];show eH (t.1.take k++[t.1[k]]) 0=_;rw [tG,tU,abC]
  rw [this,adh]
 have key:=aL (rd:=oY N t (cC t) ((),(),K0,T0)) t.1.length (λ k=>((k:Int),(s k).1,(s k).2)) (s t.1.length) (λ k hk=>by
  obtain ⟨x1,x2⟩:=ln k;have sd:=S0 hN v pm hk K0 T0 (s k).1 (s k).2 (s k).1 (s k).2 l1 l2 x1 x2;rw [ss k hk] at sd;simp only [oY,aag,ai hk,sd,eV,eW,aN (show k < 9223372036854775807 by omega),zB0,zB12,jE,lH]) (by
  simp only [oY,aag,ay,eV,eW,zB0,zB12,jE,lH]) N 0 (abk _) (by unfold dC at hN; omega)
 have e0:s 0=(kn,ht):=by rw [FW]; rfl
 have e1:s t.1.length=(bM t).foldl (fB t) (kn,ht):=by
  rw [FW];show (eH (t.1.take t.1.length) 0).foldl _ _=_;rw [acN]; rfl
 simp only [e0,e1] at key;exact key
theorem OX {t:bh} (v:Vd t) {m:Nat} (pm:Xg t m) (hm:m<=1000000) (y5:Int) (hy:wrap .i64 (y5+1)=(m:Int)) (K0 T0 kn ht:List Int) (l1:K0.length=m) (l2:T0.length=m) (l3:kn.length=m) (l4:ht.length=m) :
  ao (vk N t (cC t) y5 ((),(),K0,T0)) N (0,kn,ht)=some (tO t m (kn,ht)):=by
 have key:=aL (rd:=vk N t (cC t) y5 ((),(),K0,T0)) m (λ k=>((k:Int),(tO t k (kn,ht)).1,(tO t k (kn,ht)).2)) (tO t m (kn,ht)) (λ k hk=>by
  obtain ⟨x1,x2⟩:=Mb t k (kn,ht);have ps:=Xl hN v pm K0 T0 (tO t k (kn,ht)).1 (tO t k (kn,ht)).2 l1 l2 (x1.trans l3) (x2.trans l4);have ps:ao (oY N t (cC t) ((),(),K0,T0)) N (0,(tO t k (kn,ht)).1,(tO t k (kn,ht)).2)=some (tO t (k+1) (kn,ht)):=ps;simp only [vk,hy,ai hk,ps,eV,eW,aN (show k < 9223372036854775807 by omega),zB0,zB12,jE,lH]) (by
  simp only [vk,hy,ay,eV,eW,zB0,zB12,jE,lH]) N 0 (abk _) (by unfold dC at hN; omega)
 exact key
def Gp (t:bh) (i k:Nat):Bool:=(adi k).all λ r=>gI (av t) (r:Int) != gI (av t) (i:Int)
omit hN in
theorem S1 (t:bh) (i k:Nat):Gp t i (k+1)=(Gp t i k&&(gI (av t) (k:Int) != gI (av t) (i:Int))):=by
 unfold Gp;rw [aet,List.all_append];simp
omit hN in
theorem Mc (t:bh) (i:Nat):Gp t i i=true↔wG t (i:Int):=by
 unfold Gp wG;rw [List.all_eq_true];constructor
 .intro h r r0 r1;have:=h r.toNat (adj.2 (by omega));rw [bne_iff_ne] at this;rw [show ((r.toNat:Nat):Int)=r by omega] at this;exact this
 .intro h r hr;have hr:=adj.1 hr;rw [bne_iff_ne];exact h (r:Int) (by omega) (by omega)
theorem S2 {t:bh} (hP:t.1.length<=1000) {i:Nat} (hi:i < t.1.length) (kn0 J0 kn ht:List Int) :
  ao (mU N (av t) ((i:Int),kn0,J0)) N (true,0,kn,ht)=some (Gp t i i,kn,ht):=by
 have key:=aL (rd:=mU N (av t) ((i:Int),kn0,J0)) i (λ k=>(Gp t i k,(k:Int),kn,ht)) (Gp t i i,kn,ht) (λ k hk=>by
  obtain ⟨a1,a2⟩:=g3 (av t) (k:=k) (by rw [ib]; omega);obtain ⟨b1,b2⟩:=g3 (av t) (k:=i) (by rw [ib]; omega);have r1:=af (show k < (av t).length by rw [ib]; omega);have r2:=af (show i < (av t).length by rw [ib]; omega);rw [S1];cases Gp t i k
  .simp only [mU,ai hk,eV,eW,aN (show k < 9223372036854775807 by omega),zB0,Bool.false_and,nO,B6]
  .simp only [mU,zB11,ai hk,r1,r2,a1,a2,b1,b2,eV,eW,aN (show k < 9223372036854775807 by omega),zB4,aaN,nO,B6]) (by
  simp only [mU,ay,eV,eW,zB0,nO,B6]) N 0 (abk _) (by unfold dC at hN; omega)
 exact key
end
section
variable (hN:dC N)
include hN
theorem S3 {t:bh} (q:Ri t) (hP:t.1.length<=1000) (hs:∀ x∈t.1,x.2.length<=1000) (i0:Int) (cl:List fX) (lJ:List ((Int×Int)×Int)) (H0:HM) (P0:PM) (a1:List rk) (a2:List mi)
  (pm:List ((Int×Int)×Int)) (H:HM) (P:PM) (z:Bool) (h:HI t (ar pm) R H P) :
  mS N (i0,t.1,t.2,cl,lJ,(),H0,(),P0,(),(),a1,a2) (true,pm,(),H,(),P,(),(),z) =
   some (.inl (((bM t).foldl (lO t (ar pm)) (H,P,false)).2.2,pm,(),((bM t).foldl (lO t (ar pm)) (H,P,false)).1,(),((bM t).foldl (lO t (ar pm)) (H,P,false)).2.1,(),(),z)):=by
 have ps:=Xk hN (true,pm,(),H,(),P,(),(),z) q hP hs i0 cl lJ H0 P0 a1 a2 pm H P false h;have x1:=gV h.ne;have x2:=gV (HI.fold q (bM t) false (λ e he=>cZ.1 he) h).1.ne;simp only [mS,zB8,zB1,x1,x2,ps,zB0,Fb,Bb,I6]
omit hN in
theorem OY (t:bh) (i0:Int) (cl:List fX) (lJ:List ((Int×Int)×Int)) (H0:HM) (P0:PM) (a1:List rk) (a2:List mi)
  (pm:List ((Int×Int)×Int)) (H:HM) (P:PM) (z:Bool) (hn:∀ x∈P,x.2≠[]) :
  mS N (i0,t.1,t.2,cl,lJ,(),H0,(),P0,(),(),a1,a2) (false,pm,(),H,(),P,(),(),z)=some (.inr (pm,(),H,(),P,(),(),z)):=by
 have x1:=gV hn;simp only [mS,zB8,zB1,x1,zB0,Fb,Bb,I6]
theorem Xm {t:bh} (q:Ri t) (hP:t.1.length<=1000) (hs:∀ x∈t.1,x.2.length<=1000) (i0:Int) (cl:List fX) (lJ:List ((Int×Int)×Int)) (H0:HM) (P0:PM) (a1:List rk) (a2:List mi)
  (pm:List ((Int×Int)×Int)) (H:HM) (P:PM) (g z:Bool) (h:HI t (ar pm) R H P) (hg:g=false->∀ e,aU t e=true->(getM (ar pm e) H).isSome=(getM (ar pm (cg t e)) H).isSome) :
  ∃ H' P',ao (mS N (i0,t.1,t.2,cl,lJ,(),H0,(),P0,(),(),a1,a2)) N (g,pm,(),H,(),P,(),(),z)=some (pm,(),H',(),P',(),(),z)/\HI t (ar pm) R H' P' /\
   (∀ e,aU t e=true->(getM (ar pm e) H').isSome=(getM (ar pm (cg t e)) H').isSome)/\∀ a,(getM a H).isSome=true->getM a H'=getM a H:=by
 obtain ⟨x,h1,H',P',h2,h3,h4,h5⟩:=gk (rd:=mS N (i0,t.1,t.2,cl,lJ,(),H0,(),P0,(),(),a1,a2))
  (Inv:=λ v=>∃ (H1:HM) (P1:PM) (g:Bool),v=(g,pm,(),H1,(),P1,(),(),z)/\HI t (ar pm) R H1 P1/\(g=false->∀ e,aU t e=true->(getM (ar pm e) H1).isSome=(getM (ar pm (cg t e)) H1).isSome)/\∀ a,(getM a H).isSome=true->getM a H1=getM a H)
  (m:=λ v=>2*((bM t).length - v.2.2.2.1.length)+(if v.1=true then 1 else 0))
  (Post:=λ x=>∃ (H1:HM) (P1:PM),x=(pm,(),H1,(),P1,(),(),z)/\HI t (ar pm) R H1 P1/\(∀ e,aU t e=true->(getM (ar pm e) H1).isSome=(getM (ar pm (cg t e)) H1).isSome)/\∀ a,(getM a H).isSome=true->getM a H1=getM a H)
  (λ v ⟨H1,P1,g,hv,hi,hc,hk⟩=>by
   subst hv;cases g
   .exact .inr ⟨_,OY t i0 cl lJ H0 P0 a1 a2 pm H1 P1 z hi.ne,H1,P1,rfl,hi,hc rfl,hk⟩
   .have r:=S3 hN q hP hs i0 cl lJ H0 P0 a1 a2 pm H1 P1 z hi;obtain ⟨f1,f2,f3⟩:=HI.fold q (bM t) false (λ e he=>cZ.1 he) hi;generalize (bM t).foldl (lO t (ar pm)) (H1,P1,false)=s at r f1 f2 f3;obtain ⟨H2,P2,g2⟩:=s;have f2:∀ a,(getM a H1).isSome=true->getM a H2=getM a H1:=f2;have k2:∀ a,(getM a H).isSome=true->getM a H2=getM a H:=λ a ha=>by
     have e1:=hk a ha;rw [f2 a (by rw [e1]; exact ha),e1]
    refine .inl ⟨_,r,⟨H2,P2,g2,rfl,f1,λ hg=>?_,k2⟩,?_⟩
    .rcases f3 with ⟨f3,f4⟩|⟨f3,_⟩
     .cases f3;exact λ e he=>f4 e (cZ.2 he)
     .have f3:g2=true:=f3;rw [hg] at f3; cases f3
    .show 2*((bM t).length - H2.length)+(if g2=true then 1 else 0) < 2*((bM t).length - H1.length)+(if true=true then 1 else 0);rcases f3 with ⟨f3,f4⟩|⟨_,f3⟩
     .cases f3;simp
     .have f3:H1.length < H2.length:=f3;have l2:H2.length<=(bM t).length:=HI.len f1;rw [if_pos rfl];split <;> omega)
  N (g,pm,(),H,(),P,(),(),z) ⟨H,P,g,rfl,h,hg,λ _ _=>rfl⟩ (by
   show 2*((bM t).length - H.length)+(if g=true then 1 else 0) < N;have:=q.cn;unfold dC at hN;split <;> omega)
 exact ⟨H',P',by rw [h1,h2],h3,h4,h5⟩
omit hN in
def Bf (t:bh) (H:HM) (e:Int×Int):Prop:=∀ f,aU t f=true->ltE f e->(getM (aJ t f) H).isSome=true
omit hN in
theorem Xn (t:bh) (V:Int×Int->Int) (R:Int->Prop):HI t V R [] []:=
 ⟨List.nodup_nil,λ _ h=>(by cases h),λ _ _=>rfl,λ _ h=>(nomatch h),λ _ _ h=>(by cases h)⟩
theorem abG {t:bh} (v:Vd t) {p k:Nat} (hp:p < t.1.length) (hk:k < t.1[p].2.length) (cl:List fX) (lJ:List ((Int×Int)×Int)) (H0:HM) (P0:PM)
  (H:HM) (P:PM) (h:HI t (aJ t) (uj t) H P) (hc:HJ t H) (hb:Bf t H ((p:Int),(k:Int))) :
  ∃ H' P',gn N ((p:Int),t.1,t.2,cl,lJ,(),H0,(),P0,(),(),t.1,t.2) ((k:Int),aB t,(),H,(),P,(),())=some (.inl (((k+1:Nat):Int),aB t,(),H',(),P',(),())) /\
   HI t (aJ t) (uj t) H' P'/\HJ t H'/\Bf t H' ((p:Int),((k+1:Nat):Int)):=by
 have s8:=v.sd _ (ab5 hp);have le:=v.le;have he:aU t ((p:Int),(k:Int))=true:=kM t hp hk;obtain ⟨b1,b2⟩:=kE t.1 hp;have x1:=gV h.ne;have w:=aN (show k < 9223372036854775807 by omega);have lt1:∀ f,ltE f ((p:Int),((k+1:Nat):Int))->ltE f ((p:Int),(k:Int))\/f=((p:Int),(k:Int)):=λ f hf=>by
  rcases hf with hf|⟨h1,h2⟩
  .exact .inl (.inl hf)
  .by_cases c:f.2=(k:Int)
   .exact .inr (ad4 h1 c)
   .exact .inl (.inr ⟨h1,by show f.2 < (k:Int); have h2:f.2 < ((k+1:Nat):Int):=h2; omega⟩)
 have hA:ar (aB t) ((p:Int),(k:Int))=aJ t ((p:Int),(k:Int)):=rfl;generalize aJ t ((p:Int),(k:Int))=A at hA;cases ga:(getM A H).isSome
 .obtain ⟨z,hf⟩:=HJ.new v hc he hb (by show (getM (ar (aB t) _) H).isSome=false; rw [hA]; exact ga);have z:(k:Int)=0:=z;have hA':aJ t ((p:Int),0)=A:=by rw [<- z]; exact hA
  have nr:=HI.root v h (q:=(p:Int)) (by omega) (by omega) hf (by rw [hA']; exact wQ.1 ga);rw [hA'] at nr;have ps:=SZ hN v.ri (by omega) v.LU (p:Int) cl lJ H0 P0 t.1 t.2 (aB t) (dG A 0 H) P false nr;obtain ⟨f1,f2,f3⟩:=HI.fold v.ri (bM t) false (λ e he=>cZ.1 he) nr;generalize (bM t).foldl (lO t (ar (aB t))) (dG A 0 H,P,false)=s at ps f1 f2 f3;obtain ⟨H2,P2,g0⟩:=s;have f2:∀ a,(getM a (dG A 0 H)).isSome=true->getM a H2=getM a (dG A 0 H):=f2;obtain ⟨H',P',g1,g2,g3,g4'⟩:=Xm hN v.ri (by omega) v.LU (p:Int) cl lJ H0 P0 t.1 t.2 (aB t) H2 P2 g0 g0 f1 (λ hg=>by
   rcases f3 with ⟨f3,f4⟩|⟨f3,_⟩
   .cases f3;exact λ e he=>f4 e (cZ.2 he)
   .have f3:g0=true:=f3;rw [hg] at f3; cases f3)
  have g4:∀ a,(getM a (dG A 0 H)).isSome=true->getM a H'=getM a (dG A 0 H):=λ a ha=>by
   have e1:=f2 a ha;rw [g4' a (by rw [e1]; exact ha),e1]
  have x2:=gV g2.ne;have x3:=gV f1.ne;refine ⟨H',P',?_,g2,g3,λ f Po Ju=>?_⟩
  .simp only [gn,KE,zB11,b1,ai hk,zB8,zB19,hA,B0,ga,zy,zB1,x1,x2,x3,ps,g1,w,acM,zB0,Wi,OD,Bb]
  .have pk:∀ a,(getM a H).isSome=true->(getM a (dG A 0 H)).isSome=true:=λ a ha=>by
    rw [eF]; split
    .rfl
    .exact ha
   rcases lt1 f Ju with c|c
   .have:=pk _ (hb f Po c);rw [g4 _ this]; exact this
   .subst c;have:(getM (aJ t ((p:Int),(k:Int))) (dG A 0 H)).isSome=true:=by
     rw [show aJ t ((p:Int),(k:Int))=A from hA,eF,if_pos rfl]; rfl
    rw [g4 _ this]; exact this
 .refine ⟨H,P,?_,h,hc,λ f Po Ju=>?_⟩
  .simp only [gn,KE,zB11,b1,ai hk,zB8,zB19,hA,B0,ga,zy,zB1,x1,w,zB0,Wi,OD,Bb]
  .rcases lt1 f Ju with c|c
   .exact hb f Po c
   .subst c;rw [show aJ t ((p:Int),(k:Int))=A from hA]; exact ga
end
section
variable (hN:dC N)
include hN
theorem Xo {t:bh} (v:Vd t) {p:Nat} (hp:p < t.1.length) (cl:List fX) (lJ:List ((Int×Int)×Int)) (H0:HM) (P0:PM)
  (H:HM) (P:PM) (h:HI t (aJ t) (uj t) H P) (hc:HJ t H) (hb:Bf t H ((p:Int),0)) :
  ∃ H' P',ao (gn N ((p:Int),t.1,t.2,cl,lJ,(),H0,(),P0,(),(),t.1,t.2)) N (0,aB t,(),H,(),P,(),())=some (aB t,(),H',(),P',(),()) /\
   HI t (aJ t) (uj t) H' P'/\HJ t H'/\Bf t H' (((p+1:Nat):Int),0):=by
 have s8:=v.sd _ (ab5 hp);obtain ⟨b1,b2⟩:=kE t.1 hp;obtain ⟨x,h1,H',P',h2,h3,h4,h5⟩:=gk (rd:=gn N ((p:Int),t.1,t.2,cl,lJ,(),H0,(),P0,(),(),t.1,t.2))
  (Inv:=λ s=>∃ (k:Nat) (H1:HM) (P1:PM),s=((k:Int),aB t,(),H1,(),P1,(),())/\k<=t.1[p].2.length/\HI t (aJ t) (uj t) H1 P1/\HJ t H1/\Bf t H1 ((p:Int),(k:Int)))
  (m:=λ s=>t.1[p].2.length - s.1.toNat)
  (Post:=λ x=>∃ (H1:HM) (P1:PM),x=(aB t,(),H1,(),P1,(),())/\HI t (aJ t) (uj t) H1 P1/\HJ t H1/\Bf t H1 ((p:Int),(t.1[p].2.length:Int)))
  (λ s ⟨k,H1,P1,hs,hk,hi,JC,Kz⟩=>by
   subst hs;by_cases c:k < t.1[p].2.length
   .obtain ⟨H2,P2,r1,r2,r3,r4⟩:=abG hN v hp c cl lJ H0 P0 H1 P1 hi JC Kz;refine .inl ⟨_,r1,⟨k+1,H2,P2,rfl,c,r2,r3,r4⟩,?_⟩;show t.1[p].2.length - (((k+1:Nat):Int)).toNat < t.1[p].2.length - ((k:Int)).toNat;omega
   .have e:k=t.1[p].2.length:=by omega
    subst e;have x1:=gV hi.ne;refine .inr ⟨_,?_,H1,P1,rfl,hi,JC,Kz⟩;simp only [gn,zB11,b1,ay,zB8,zB1,x1,zB0,Wi,OD,Bb])
  N (0,aB t,(),H,(),P,(),()) ⟨0,H,P,rfl,abk _,h,hc,hb⟩ (by
   show t.1[p].2.length - (0:Int).toNat < N;unfold dC at hN;omega)
 refine ⟨H',P',by rw [h1,h2],h3,h4,λ f Po Ju=>h5 f Po ?_⟩;obtain ⟨c1,c2,c3,c4⟩:=cF.1 Po;rcases Ju with Ju|⟨_,Ju⟩
 .have Ju:f.1 < ((p+1:Nat):Int):=Ju;by_cases c:f.1=(p:Int)
  .refine .inr ⟨c,?_⟩;rw [c,gK t hp] at c4;exact c4
  .exact .inl (by show f.1 < (p:Int); omega)
 .have Ju:f.2 < 0:=Ju;omega
theorem OZ {t:bh} (v:Vd t) (cl:List fX) :
  ∃ H P,ao (nN N t) N (0,t.1,t.2,cl,aB t,(),[],(),[],(),(),t.1,t.2)=some (t.1,t.2,cl,aB t,(),H,(),P,(),(),t.1,t.2)/\HI t (aJ t) (uj t) H P/\L4 t H:=by
 have le:=v.le;obtain ⟨x,h1,H',P',h2,h3,h5⟩:=gk (rd:=nN N t)
  (Inv:=λ s=>∃ (p:Nat) (H1:HM) (P1:PM),s=((p:Int),t.1,t.2,cl,aB t,(),H1,(),P1,(),(),t.1,t.2)/\p<=t.1.length/\HI t (aJ t) (uj t) H1 P1/\HJ t H1/\Bf t H1 ((p:Int),0))
  (m:=λ s=>t.1.length - s.1.toNat)
  (Post:=λ x=>∃ (H1:HM) (P1:PM),x=(t.1,t.2,cl,aB t,(),H1,(),P1,(),(),t.1,t.2)/\HI t (aJ t) (uj t) H1 P1/\Bf t H1 ((t.1.length:Int),0))
  (λ s ⟨p,H1,P1,hs,hk,hi,JC,Kz⟩=>by
   subst hs;have x1:=gV hi.ne;by_cases c:p < t.1.length
   .obtain ⟨b1,b2⟩:=kE t.1 c;obtain ⟨H2,P2,r1,r2,r3,r4⟩:=Xo hN v c cl (aB t) H1 P1 H1 P1 hi JC Kz;have x2:=gV r2.ne;refine .inl ⟨(((p+1:Nat):Int),t.1,t.2,cl,aB t,(),H2,(),P2,(),(),t.1,t.2),?_,⟨p+1,H2,P2,rfl,c,r2,r3,r4⟩,?_⟩
    .simp only [nN,zB11,ai c,af c,b1,b2,zB8,eR,eS,zB1,x1,x2,r1,aN (show p < 9223372036854775807 by omega),zB0,OD]
    .show t.1.length - (((p+1:Nat):Int)).toNat < t.1.length - ((p:Int)).toNat;omega
   .have e:p=t.1.length:=by omega
    subst e;refine .inr ⟨_,?_,H1,P1,rfl,hi,Kz⟩;simp only [nN,aag,ay,zB8,eR,eS,zB1,x1,zB0,OD])
  N (0,t.1,t.2,cl,aB t,(),[],(),[],(),(),t.1,t.2) ⟨0,[],[],rfl,abk _,Xn t _ _,λ _ _=>rfl,λ f Po Ju=>by
   obtain ⟨c1,c2,c3,c4⟩:=cF.1 Po;rcases Ju with Ju|⟨_,Ju⟩
   .have Ju:f.1 < 0:=Ju;omega
   .have Ju:f.2 < 0:=Ju;omega⟩ (by
   show t.1.length - (0:Int).toNat < N;unfold dC at hN;omega)
 exact ⟨H',P',by rw [h1,h2],h3,λ e he=>h5 e he (.inl (cF.1 he).2.1)⟩
end
def Ak {α:Type} (z:α) (l:List α) (k:Nat):List α:=(adi l.length).map λ m=>if m < k\/l.length<=m+k then l.getD (l.length - 1 - m) z else l.getD m z
section
variable (z:α)
def Jv (l:List α) {m:Nat} (hm:m < l.length):l.getD m z=l[m]:=by simp [hm]
def jn (l:List α) (k:Nat):(Ak z l k).length=l.length:=by simp [Ak]
def wy (l:List α) (k:Nat) {m:Nat} (hm:m < l.length):(Ak z l k)[m]'(by rw [jn]; exact hm)=if m < k\/l.length<=m+k then l.getD (l.length - 1 - m) z else l.getD m z:=by
 simp [Ak]
def S4 (l:List α):Ak z l 0=l:=by
 apply acV
 .exact jn z l 0
 .intro m h1 h2;rw [wy z l 0 h2,if_neg (by omega),Jv z _ h2]
def Xp (l:List α):Ak z l (l.length / 2)=l.reverse:=by
 apply acV
 .rw [jn,List.length_reverse]
 .intro m h1 h2;have hm:m < l.length:=by rw [jn] at h1; exact h1
  rw [wy z l _ hm,List.getElem_reverse];by_cases c:m < l.length / 2\/l.length<=m+l.length / 2
  .rw [if_pos c,Jv z _ (by omega)]
  .rw [if_neg c,Jv z _ hm];congr 1;omega
def S5 (l:List α) (k:Nat) (hk:k < l.length / 2) :
  ((Ak z l k).set k ((Ak z l k)[l.length - 1 - k]'(by rw [jn]; omega))).set (l.length - 1 - k) ((Ak z l k)[k]'(by rw [jn]; omega))=Ak z l (k+1):=by
 apply acV
 .simp [jn]
 .intro m h1 h2;have hm:m < l.length:=by rw [jn] at h2; exact h2
  have e:=wy z l (k+1) hm;have g1:=wy z l k (m:=l.length - 1 - k) (by omega);have g2:=wy z l k (m:=k) (by omega);have g3:=wy z l k hm;rw [if_neg (by omega)] at g1 g2;simp only [e,ady,g1,g2,g3];by_cases c1:l.length - 1 - k=m
  .rw [if_pos c1,if_pos (by omega)]; congr 1; omega
  .rw [if_neg c1];by_cases c2:k=m
   .rw [if_pos c2,if_pos (by omega),c2]
   .rw [if_neg c2];by_cases c3:m < k\/l.length<=m+k
    .rw [if_pos c3,if_pos (by omega)]
    .rw [if_neg c3,if_neg (by omega)]
end
abbrev zS:fX:=(0,0,false)
def Md (l:List fX) {k:Nat} (hk:k < l.length):d119 (an (map n119 l) k)=l[k]/\fits kU (an (map n119 l) k)=true:=by
 rw [U6 n119 l k hk]; exact ⟨acU _,acT _⟩
def aie (l:List fX) (k:Nat) (a b:Int) (c:Bool):aC (map n119 l) k (AV.agg [aI a,aI b,AV.bool c])=map n119 (l.set k (a,b,c)):=by
 rw [eY,aes]; rfl
section
variable (hN:dC N)
include hN
variable (t:bh) (p k:Nat) (cl Gq:List fX) (lJ pm:List ((Int×Int)×Int)) (H0 H:HM) (P0 P:PM) (hn:∀ x∈P,x.2≠[])
include hn
theorem abH (a b c d:Int) (L:List fX) (hL:ui P (ar pm (c,d))=L) (hl:L.length<=1000000) :
  ao (pZ N ((p:Int),t.1,t.2,(),cl,lJ,(),H0,(),P0,(),(),t.1,t.2,[],[],t.1,t.2) ((k:Int),(),Gq,pm,(),H,(),P,(),(),[],[]) (a,b,c,d)) N ((),0,pm,(),H,(),P,(),(),[],[],[])=some ((),pm,(),H,(),P,(),(),[],[],L.map Br):=by
 have x1:=gV hn;have m1:=λ a=>(Ai a P).1
 have key:=aL (rd:=pZ N ((p:Int),t.1,t.2,(),cl,lJ,(),H0,(),P0,(),(),t.1,t.2,[],[],t.1,t.2) ((k:Int),(),Gq,pm,(),H,(),P,(),(),[],[]) (a,b,c,d)) L.length (λ j=>((),(j:Int),pm,(),H,(),P,(),(),[],[],(L.take j).map Br)) ((),pm,(),H,(),P,(),(),[],[],L.map Br) (λ j hj=>by
  have ht:((L.take j).map Br).length=j:=by rw [aag,aca]; omega
  have tU:((L.take (j+1)).map Br).length=j+1:=by rw [aag,aca]; omega
  obtain ⟨a1,a2⟩:=Md L hj;have es:(L.take j).map Br++[((L[j]).1,(L[j]).2.1,!(L[j]).2.2)]=(L.take (j+1)).map Br:=by
   rw [adm,ab3 hj,acf]; rfl
  have dl:decide ((j+1)*24<=140737488355328)=true:=decide_eq_true (by omega);simp only [pZ,kh,wE,m1,hL,zB3,ai hj,af hj,aaK,a1,a2,ht,L9,es,tU,dl,eR,eS,aN (show j < 9223372036854775807 by omega),zB1,x1,zB0,Ly,Bc]) (by
  simp only [pZ,kh,wE,m1,hL,zB3,ay,acN,eR,eS,zB1,x1,zB0,Ly,Bc]) N 0 (abk _) (by unfold dC at hN; omega)
 exact key
theorem abI (M:List fX) (hl:M.length<=1000000) :
  ao (sw N ((p:Int),t.1,t.2,(),cl,lJ,(),H0,(),P0,(),(),t.1,t.2,[],[],t.1,t.2) ((k:Int),(),Gq,pm,(),H,(),P,(),(),[],[]) ((),pm,(),H,(),P,(),(),[],[],M)) N (0,wrap .i64 ((M.length:Int) - 1),pm,(),H,(),P,(),(),[],[],M)=some (pm,(),H,(),P,(),(),[],[],M.reverse):=by
 have x1:=gV hn;have key:=aL (rd:=sw N ((p:Int),t.1,t.2,(),cl,lJ,(),H0,(),P0,(),(),t.1,t.2,[],[],t.1,t.2) ((k:Int),(),Gq,pm,(),H,(),P,(),(),[],[]) ((),pm,(),H,(),P,(),(),[],[],M)) (M.length / 2) (λ j=>((j:Int),(M.length:Int) - 1 - (j:Int),pm,(),H,(),P,(),(),[],[],Ak zS M j)) (pm,(),H,(),P,(),(),[],[],M.reverse) (λ j hk=>by
  have e1:decide ((j:Int) < (M.length:Int) - 1 - (j:Int))=true:=decide_eq_true (by omega);have hj:(M.length:Int) - 1 - (j:Int)=((M.length - 1 - j:Nat):Int):=by omega
  have w1:wrap .i64 ((j:Int)+1)=((j+1:Nat):Int):=aN (by omega);have w2:wrap .i64 (((M.length - 1 - j:Nat):Int) - 1)=(M.length:Int) - 1 - ((j+1:Nat):Int):=by rw [Ap (by omega)]; omega
  have r1:decide ((0:Int)<=((M.length - 1 - j:Nat):Int)/\((M.length - 1 - j:Nat):Int) < (M.length:Int))=true:=af (by omega);have r2:decide ((0:Int)<=(j:Int)/\(j:Int) < (M.length:Int))=true:=af (by omega);have d1:decide (M.length - 1 - j < M.length)=true:=decide_eq_true (by omega);have d2:decide (j < M.length)=true:=decide_eq_true (by omega);obtain ⟨a1,a2⟩:=Md (Ak zS M j) (k:=M.length - 1 - j) (by rw [jn]; omega);obtain ⟨b1,b2⟩:=Md (Ak zS M j) (k:=j) (by rw [jn]; omega);have hsl:∀ v,((Ak zS M j).set j v).length=M.length:=λ v=>by rw [acq,jn]
  have e1':decide ((j:Int) < ((M.length - 1 - j:Nat):Int))=true:=by rw [<- hj]; exact e1
  have su:=S5 zS M j hk;simp only [sw,zB3,hj,e1',r1,r2,d1,d2,jn,zB22,a1,a2,b1,b2,aie,hsl,su,eR,eS,w1,w2,zB1,x1,zB0,aho]) (by
  have e1:decide (((M.length / 2:Nat):Int) < (M.length:Int) - 1 - ((M.length / 2:Nat):Int))=false:=decide_eq_false (by omega);simp only [sw,e1,Xp,eR,eS,eV,eW,zB1,x1,zB0,decide_true,aho]) N 0 (abk _) (by unfold dC at hN; omega)
 simp only [S4] at key;rw [Ap (by omega)];rw [show ((M.length:Int) - 1)=(M.length:Int) - 1 - ((0:Nat):Int) by omega];exact key
omit hN hn in
theorem adB (a b:Int) (c:Bool):d83 (.list .full 3 [AV.agg [aI a,aI b,AV.bool c]])=[(a,b,c)]/\fits Mu (.list .full 3 [AV.agg [aI a,aI b,AV.bool c]])=true:=⟨rfl,rfl⟩
omit hN hn in
theorem QO (a:List fX):d83 (.list .bV 3 (map n119 a))=a/\fits Mu (.list .bV 3 (map n119 a))=true:=⟨alI a,alH a⟩
theorem abJ (a b c d:Int) (A M:List fX) (hA:ui P (ar pm (a,b))=A) (ha:A.length<=1000000) (hl:M.length<=1000000) :
  ao (kV N ((p:Int),t.1,t.2,(),cl,lJ,(),H0,(),P0,(),(),t.1,t.2,[],[],t.1,t.2) ((k:Int),(),Gq,pm,(),H,(),P,(),(),[],[]) (a,b,c,d) (pm,(),H,(),P,(),(),[],[],M)) N (0,0,pm,(),H,(),P,(),(),[],[])=some ((A.length:Int)+1+(M.length:Int),pm,(),H,(),P,(),(),[],[]):=by
 have x1:=gV hn;have m1:=λ a=>(Ai a P).1
 have key:=aL (rd:=kV N ((p:Int),t.1,t.2,(),cl,lJ,(),H0,(),P0,(),(),t.1,t.2,[],[],t.1,t.2) ((k:Int),(),Gq,pm,(),H,(),P,(),(),[],[]) (a,b,c,d) (pm,(),H,(),P,(),(),[],[],M)) 3 (λ k=>((match k with | 0=>0 | 1=>(A.length:Int) | 2=>(A.length:Int)+1 | _=>(A.length:Int)+1+(M.length:Int):Int),(k:Int),pm,(),H,(),P,(),(),[],[])) ((A.length:Int)+1+(M.length:Int),pm,(),H,(),P,(),(),[],[]) (λ k hk=>by
  have w1:wrap .i64 ((k:Int)+1)=((k+1:Nat):Int):=aN (by omega);have e1:decide ((k:Int) < 3)=true:=decide_eq_true (by omega);have q0:wrap .i64 (0+(A.length:Int))=(A.length:Int):=by rw [Ap (by omega)]; omega
  have q1:wrap .i64 ((A.length:Int)+((1:Nat):Int))=(A.length:Int)+1:=by rw [Ap (by omega)]; omega
  have q2:wrap .i64 ((A.length:Int)+1+(M.length:Int))=(A.length:Int)+1+(M.length:Int):=by rw [Ap (by omega)]
  have z0:decide ((A.length:Int) < 0)=false:=decide_eq_false (by omega);have z1:decide ((A.length:Int)+1 < 0)=false:=decide_eq_false (by omega);have z2:decide ((A.length:Int)+1+(M.length:Int) < 0)=false:=decide_eq_false (by omega);have hk3:k=0\/k=1\/k=2:=by omega
  rcases hk3 with rfl|rfl|rfl
  .simp only [kV,e1,kh,wE,m1,hA,amf,aaK,adu,QO,zB3,q0,z0,w1,eR,eS,zB1,x1,zB0]
  .simp only [kV,e1,kh,wE,m1,hA,amg,aaK,adv,adB,zB3,aci,q1,z1,w1,eR,eS,zB1,x1,zB0]
  .simp only [kV,e1,kh,wE,m1,hA,amh,aaK,adw,QO,zB3,q2,z2,w1,eR,eS,zB1,x1,zB0]) (by
  have e1:decide (((3:Nat):Int) < 3)=false:=rfl;simp only [kV,e1,eR,eS,eV,eW,zB1,x1,zB0,decide_true]) N 0 (abk _) (by unfold dC at hN; omega)
 exact key
theorem abK (a b c d:Int) (A M:List fX) (hA:ui P (ar pm (a,b))=A) (ha:A.length<=1000000) (hl:M.length<=1000000) :
  ao (jU N ((p:Int),t.1,t.2,(),cl,lJ,(),H0,(),P0,(),(),t.1,t.2,[],[],t.1,t.2) ((k:Int),(),Gq,pm,(),H,(),P,(),(),[],[]) (a,b,c,d) (pm,(),H,(),P,(),(),[],[],M)) N ((),0,pm,(),H,(),P,(),(),[],[],[])=some ((),pm,(),H,(),P,(),(),[],[],A++[((p:Int),(k:Int),false)]++M):=by
 have x1:=gV hn;have m1:=λ a=>(Ai a P).1
 have key:=aL (rd:=jU N ((p:Int),t.1,t.2,(),cl,lJ,(),H0,(),P0,(),(),t.1,t.2,[],[],t.1,t.2) ((k:Int),(),Gq,pm,(),H,(),P,(),(),[],[]) (a,b,c,d) (pm,(),H,(),P,(),(),[],[],M)) 3 (λ i=>((),(i:Int),pm,(),H,(),P,(),(),[],[],(match i with | 0=>[] | 1=>A | 2=>A++[((p:Int),(k:Int),false)] | _=>A++[((p:Int),(k:Int),false)]++M:List fX))) ((),pm,(),H,(),P,(),(),[],[],A++[((p:Int),(k:Int),false)]++M) (λ i hk=>by
  have w1:wrap .i64 ((i:Int)+1)=((i+1:Nat):Int):=aN (by omega);have e1:decide ((i:Int) < 3)=true:=decide_eq_true (by omega);have q0:decide (A.length*24<=140737488355328)=true:=decide_eq_true (by omega);have q1:decide ((A.length+1)*24<=140737488355328)=true:=decide_eq_true (by omega);have q2:decide ((A.length+1+M.length)*24<=140737488355328)=true:=decide_eq_true (by omega);have q3:([]:List fX).length+A.length=A.length:=by simp
  have hk3:i=0\/i=1\/i=2:=by omega
  rcases hk3 with rfl|rfl|rfl
  .simp only [jU,e1,kh,wE,m1,hA,amf,aaK,adu,QO,<- acf,List.nil_append,zB3,acu,q0,q3,w1,eR,eS,zB1,x1,zB0,Ly,Bc]
  .simp only [jU,e1,kh,wE,m1,hA,amg,aaK,adv,adB,<- acf,zB3,acu,aci,q1,w1,eR,eS,zB1,x1,zB0,Ly,Bc]
  .simp only [jU,e1,kh,wE,m1,hA,amh,aaK,adw,QO,<- acf,zB3,acu,aci,q2,w1,eR,eS,zB1,x1,zB0,Ly,Bc]) (by
  have e1:decide (((3:Nat):Int) < 3)=false:=rfl;simp only [jU,e1,zB3,eR,eS,zB1,x1,zB0,Ly,Bc]) N 0 (abk _) (by unfold dC at hN; omega)
 exact key
end
def kX (t:bh) (H:HM) (e:Int×Int):Prop:=ar H (aJ t (cg t e)) - ar H (aJ t e)=(mj t e).2
instance (t:bh) (H:HM) (e:Int×Int):Decidable (kX t H e):=inferInstanceAs (Decidable (_=_))
theorem aeI:aba (toNat 0) (AV.agg [aI 0,aI 0,AV.bool false])=([]:List AV):=rfl
theorem amq:aba 0 (AV.agg [aI 0,aI 0,AV.bool false])=([]:List AV):=rfl
theorem tn0:toNat 0=0:=rfl
theorem ln0:([]:List AV).length=0:=rfl
theorem Me (f:AV->α):map f []=[]:=rfl
theorem Mf (f:AV->Bool):allFit f []=true:=rfl
section
variable (hN:dC N)
include hN
theorem abL {t:bh} (v:Vd t) {p k:Nat} (hp:p < t.1.length) (hk:k < t.1[p].2.length) (cl Gq:List fX) (lJ:List ((Int×Int)×Int)) (H0:HM) (P0:PM)
  (H:HM) (P:PM) (h:HI t (aJ t) (uj t) H P) (kn:L4 t H) :
  fW N ((p:Int),t.1,t.2,(),cl,lJ,(),H0,(),P0,(),(),t.1,t.2,[],[],t.1,t.2) ((k:Int),(),Gq,aB t,(),H,(),P,(),(),[],[]) =
   if kX t H ((p:Int),(k:Int)) then some (.inl (((k+1:Nat):Int),(),Gq,aB t,(),H,(),P,(),(),[],[]))
   else some (.inr (.inl ((),ol t P ((p:Int),(k:Int)),aB t,(),H,(),P,(),(),[],[]))):=by
 have s8:=v.sd _ (ab5 hp);have le:=v.le;have he:aU t ((p:Int),(k:Int))=true:=kM t hp hk;have DV:=nU v he;obtain ⟨b1,b2⟩:=kE t.1 hp;have x1:=gV h.ne;have m1:=λ a=>(Ai a P).1
 have m2:=λ a=>(Ai a P).2
 have w:=aN (show k < 9223372036854775807 by omega);have ho:Ok t ((p:Int),(k:Int))=true:=by
  unfold Ok;have:=gK t hp;simp only [adF,decide_eq_true_eq,ad7,beq_eq_false_iff_ne];omega
 have SX:tA N ((t.1,t.2),((p:Int),(k:Int)))=some ((p:Int),(k:Int),(cg t ((p:Int),(k:Int))).1,(cg t ((p:Int),(k:Int))).2):=pQ N t _ ho;have q88:Oc N ((t.1,t.2),((p:Int),(k:Int)))=some (mj t ((p:Int),(k:Int))):=sC N t _ he;obtain ⟨x,hx⟩:=HY.1 (kn _ he);obtain ⟨y,hy⟩:=HY.1 (kn _ DV);have bx:=h.le v.ri hx;have bye:=h.le v.ri hy;have hw:wrap .i64 (y - x)=y - x:=Ap ⟨by omega,by omega⟩;have hA:ar (aB t) ((p:Int),(k:Int))=aJ t ((p:Int),(k:Int)):=rfl;have hB:ar (aB t) ((cg t ((p:Int),(k:Int))).1,(cg t ((p:Int),(k:Int))).2)=aJ t (cg t ((p:Int),(k:Int))):=rfl;have vx:=fT hx;have vy:=fT hy;have pl1:=h.pl v.ri (aJ t ((p:Int),(k:Int)));have pl2:=h.pl v.ri (aJ t (cg t ((p:Int),(k:Int))));have mp:=abH hN t p k cl Gq lJ (aB t) H0 H P0 P h.ne (p:Int) (k:Int) (cg t ((p:Int),(k:Int))).1 (cg t ((p:Int),(k:Int))).2 (ui P (aJ t (cg t ((p:Int),(k:Int))))) rfl pl2;have rv:=abI hN t p k cl Gq lJ (aB t) H0 H P0 P h.ne ((ui P (aJ t (cg t ((p:Int),(k:Int))))).map Br) (by rw [aag]; exact pl2);have sm:=abJ hN t p k cl Gq lJ (aB t) H0 H P0 P h.ne (p:Int) (k:Int) (cg t ((p:Int),(k:Int))).1 (cg t ((p:Int),(k:Int))).2 (ui P (aJ t ((p:Int),(k:Int)))) ((ui P (aJ t (cg t ((p:Int),(k:Int))))).map Br).reverse rfl pl1 (by rw [List.length_reverse,aag]; exact pl2);have ct:=abK hN t p k cl Gq lJ (aB t) H0 H P0 P h.ne (p:Int) (k:Int) (cg t ((p:Int),(k:Int))).1 (cg t ((p:Int),(k:Int))).2 (ui P (aJ t ((p:Int),(k:Int)))) ((ui P (aJ t (cg t ((p:Int),(k:Int))))).map Br).reverse rfl pl1 (by rw [List.length_reverse,aag]; exact pl2);have fc:kX t H ((p:Int),(k:Int))↔y - x=(mj t ((p:Int),(k:Int))).2:=by unfold kX; rw [vx,vy]
 by_cases c:kX t H ((p:Int),(k:Int))
 .rw [if_pos c];have c':(y - x == (mj t ((p:Int),(k:Int))).2)=true:=by rw [beq_iff_eq]; exact fc.1 c
  simp only [fW,KE,zB3,aaK,b1,ai hk,zB8,eR,eS,SX,q88,zB19,hA,hB,vx,vy,hw,c',L8,m1,m2,zB1,x1,w,zB0,Wk,Bc,Lz,r7]
 .rw [if_neg c];have c:=λ z=>c (fc.2 z)
  unfold ol;generalize aJ t ((p:Int),(k:Int))=A at *;generalize aJ t (cg t ((p:Int),(k:Int)))=B at *;generalize hPA:ui P A=LA at *;generalize hPB:ui P B=LB at *;have ll:((LB.map Br).reverse).length=(LB.map Br).length:=List.length_reverse;have d1:decide ((0:Int)<=0/\0<=(LB.length:Int)/\(LB.length:Int)<=140737488355328/\(LB.length:Int)*24<=140737488355328)=true:=decide_eq_true (by omega);have d2:decide ((0:Int)<=(LA.length:Int)+1+((LB.map Br).length:Int)/\((LA.length:Int)+1+((LB.map Br).length:Int))*((24:Nat):Int)<=140737488355328/\(LA.length:Int)+1+((LB.map Br).length:Int)<=4611686018427387904)=true:=decide_eq_true (by rw [aag]; omega);generalize hM:(LB.map Br).reverse=M at *;generalize hL:LB.map Br=L at *;have c':(y - x == (mj t ((p:Int),(k:Int))).2)=false:=by rw [beq_eq_false_iff_ne]; exact c
  simp only [fW,KE,zB3,aaK,b1,ai hk,zB8,eR,eS,SX,q88,zB19,hA,hB,vx,vy,hw,c',L8,m1,m2,hPA,hPB,d1,d2,aeI,amq,tn0,ln0,Me,Mf,mp,rv,sm,ct,ll,QM,zB1,x1,w,zB0,Wk,Bc,Lz,r7]
end
section
variable (hN:dC N)
include hN
theorem Xq {t:bh} (v:Vd t) {p:Nat} (hp:p < t.1.length) (cl Gq:List fX) (lJ:List ((Int×Int)×Int)) (H0:HM) (P0:PM)
  (H:HM) (P:PM) (h:HI t (aJ t) (uj t) H P) (kn:L4 t H) :
  ∃ x,ao (fW N ((p:Int),t.1,t.2,(),cl,lJ,(),H0,(),P0,(),(),t.1,t.2,[],[],t.1,t.2)) N (0,(),Gq,aB t,(),H,(),P,(),(),[],[])=some x /\
   ((x=.inr ((),Gq,aB t,(),H,(),P,(),(),[],[])/\∀ k:Nat,k < t.1[p].2.length->kX t H ((p:Int),(k:Int))) \/
   ∃ k:Nat,k < t.1[p].2.length/\¬ kX t H ((p:Int),(k:Int))/\x=.inl ((),ol t P ((p:Int),(k:Int)),aB t,(),H,(),P,(),(),[],[])):=by
 have s8:=v.sd _ (ab5 hp);obtain ⟨b1,b2⟩:=kE t.1 hp;have x1:=gV h.ne;refine gk (rd:=fW N ((p:Int),t.1,t.2,(),cl,lJ,(),H0,(),P0,(),(),t.1,t.2,[],[],t.1,t.2))
  (Inv:=λ s=>∃ k:Nat,s=((k:Int),(),Gq,aB t,(),H,(),P,(),(),[],[])/\k<=t.1[p].2.length/\∀ j:Nat,j < k->kX t H ((p:Int),(j:Int)))
  (m:=λ s=>t.1[p].2.length - s.1.toNat) (λ s ⟨k,hs,hk,hf⟩=>?_) N _ ⟨0,rfl,abk _,λ j hj=>absurd hj (adT _)⟩ (by
   show t.1[p].2.length - (0:Int).toNat < N;unfold dC at hN;omega)
 subst hs;by_cases c:k < t.1[p].2.length
 .have st:=abL hN v hp c cl Gq lJ H0 P0 H P h kn;by_cases f:kX t H ((p:Int),(k:Int))
  .rw [if_pos f] at st;refine .inl ⟨_,st,⟨k+1,rfl,c,λ j hj=>?_⟩,?_⟩
   .by_cases e:j=k
    .rw [e]; exact f
    .exact hf j (by omega)
   .show t.1[p].2.length - (((k+1:Nat):Int)).toNat < t.1[p].2.length - ((k:Int)).toNat;omega
  .rw [if_neg f] at st;exact .inr ⟨_,st,.inr ⟨k,c,f,rfl⟩⟩
 .have e:k=t.1[p].2.length:=by omega
  subst e;refine .inr ⟨.inr ((),Gq,aB t,(),H,(),P,(),(),[],[]),?_,.inl ⟨rfl,hf⟩⟩;simp only [fW,zB3,aaK,b1,ay,zB8,eR,eS,zB1,x1,Me,Mf,zB0,Wk,Bc,Lz,r7]
theorem Xr {t:bh} (v:Vd t) (cl:List fX) (H:HM) (P:PM) (h:HI t (aJ t) (uj t) H P) (kn:L4 t H) :
  ∃ x,ao (kd N t) N (0,t.1,t.2,(),cl,aB t,(),H,(),P,(),(),t.1,t.2,[],[],t.1,t.2)=some x /\
   ((x=.inr (t.1,t.2,(),cl,aB t,(),H,(),P,(),(),t.1,t.2,[],[],t.1,t.2)/\∀ e,aU t e=true->kX t H e) \/
   ∃ e,aU t e=true/\¬ kX t H e/\x=.inl (t.1,t.2,(),ol t P e,aB t,(),H,(),P,(),(),t.1,t.2,[],[],t.1,t.2)):=by
 have le:=v.le;have x1:=gV h.ne;refine gk (rd:=kd N t)
  (Inv:=λ s=>∃ p:Nat,s=((p:Int),t.1,t.2,(),cl,aB t,(),H,(),P,(),(),t.1,t.2,[],[],t.1,t.2)/\p<=t.1.length/\∀ e,aU t e=true->e.1 < (p:Int)->kX t H e)
  (m:=λ s=>t.1.length - s.1.toNat) (λ s ⟨p,hs,hp,hf⟩=>?_) N _ ⟨0,rfl,abk _,λ e he h1=>by
   have:=(cF.1 he).1;have h1:e.1 < 0:=h1;omega⟩ (by
   show t.1.length - (0:Int).toNat < N;unfold dC at hN;omega)
 subst hs;by_cases c:p < t.1.length
 .obtain ⟨b1,b2⟩:=kE t.1 c;obtain ⟨x,l1,l2⟩:=Xq hN v c cl cl (aB t) H P H P h kn;rcases l2 with ⟨rfl,l2⟩|⟨k,k1,k2,rfl⟩
  .refine .inl ⟨(((p+1:Nat):Int),t.1,t.2,(),cl,aB t,(),H,(),P,(),(),t.1,t.2,[],[],t.1,t.2),?_,⟨p+1,rfl,c,λ e he h1=>?_⟩,?_⟩
   .simp only [kd,zB3,aaK,ai c,af c,b1,b2,zB8,eR,eS,zB1,x1,l1,Me,Mf,acP,acM,aN (show p < 9223372036854775807 by omega),zB0,Wm,Lz]
   .obtain ⟨e1,e2,e3,e4⟩:=cF.1 he;by_cases z:e.1=(p:Int)
    .have e5:e=((p:Int),((e.2.toNat:Nat):Int)):=ad4 z (by show e.2=_; omega);rw [e5];refine l2 e.2.toNat ?_;rw [z,gK t c] at e4;omega
    .exact hf e he (by have h1:e.1 < ((p+1:Nat):Int):=h1; omega)
   .show t.1.length - (((p+1:Nat):Int)).toNat < t.1.length - ((p:Int)).toNat;omega
  .refine .inr ⟨.inl (t.1,t.2,(),ol t P ((p:Int),(k:Int)),aB t,(),H,(),P,(),(),t.1,t.2,[],[],t.1,t.2),?_,.inr ⟨_,kM t c k1,k2,rfl⟩⟩;simp only [kd,zB3,aaK,ai c,af c,b1,b2,zB8,eR,eS,zB1,x1,l1,Me,Mf,acP,acM,zB0,Wm,Lz]
 .have e:p=t.1.length:=by omega
  subst e;refine .inr ⟨.inr (t.1,t.2,(),cl,aB t,(),H,(),P,(),(),t.1,t.2,[],[],t.1,t.2),?_,.inl ⟨rfl,λ e he=>hf e he (cF.1 he).2.1⟩⟩;simp only [kd,zB3,ay,zB8,eR,eS,zB1,x1,Me,Mf,zB0,Wm,Lz]
end
theorem me0:ab ([]:List (AV×AV))=[]:=rfl
theorem ax0:aD ([]:List (AV×AV))=true:=rfl
section
variable (hN:dC N)
include hN
theorem Vd.pts {t:bh} (v:Vd t):RU N (t.1,t.2)=some (aB t):=
 tH hN t (by have:=v.le; omega) v.LU (by have:=v.Aw; omega) (W4 v.gd)
theorem abM {t:bh} (v:Vd t):∃ H P,HI t (aJ t) (uj t) H P/\L4 t H /\
  (((∀ e,aU t e=true->kX t H e)/\JH N t=some (.inl (H,())))\/∃ e,aU t e=true/\¬ kX t H e/\JH N t=some (.inr (H,ol t P e))):=by
 obtain ⟨H,P,b1,b2,b3⟩:=OZ hN v [];obtain ⟨x,l1,l2⟩:=Xr hN v [] H P b2 b3;have pt:=v.pts hN;have x1:=gV b2.ne;refine ⟨H,P,b2,b3,?_⟩;rcases l2 with ⟨rfl,l2⟩|⟨e,e1,e2,rfl⟩
 .refine .inl ⟨l2,?_⟩;rw [Wn];simp only [zB8,eR,eS,eV,eW,pt,b1,l1,Me,Mf,me0,ax0,zB1,x1,acM,acP,zB0,decide_true]
 .refine .inr ⟨e,e1,e2,?_⟩;rw [Wn];simp only [zB8,eR,eS,eV,eW,pt,b1,l1,Me,Mf,me0,ax0,zB1,x1,acM,acP,zB0,decide_true]
end
def pvS (l:List fX) (i:Nat):fX:=l.getD ((i+l.length - 1) % l.length) Zz
def okP (t:bh) (l:List fX) (i:Nat):Prop:=xW t (aJ t) (l.getD i Zz)=wv t (aJ t) (pvS l i)
def amr (t:bh) (l:List fX):(∀ i,i < l.length->okP t l i)↔∀ i,i < l.length->Tv t l i:=by
 constructor
 .intro h i hi;have hm:(i+1) % l.length < l.length:=Nat.mod_lt _ (by omega);have k:=h _ hm;unfold okP pvS at k;have e:((i+1) % l.length+l.length - 1) % l.length=i:=by
   by_cases c:i+1 < l.length
   .rw [adO c,show i+1+l.length - 1=i+l.length by omega,Nat.add_mod_right,adO hi]
   .have:i+1=l.length:=by omega
    rw [this,Nat.mod_self,abC,adO (by omega)];omega
  rw [e] at k;unfold Tv nxS;exact k.symm
 .intro h i hi;have hm:(i+l.length - 1) % l.length < l.length:=Nat.mod_lt _ (by omega);have k:=h _ hm;unfold Tv nxS at k;have e:((i+l.length - 1) % l.length+1) % l.length=i:=by
   by_cases c:i=0
   .subst c;rw [abC,adO (show l.length - 1 < l.length by omega),show l.length - 1+1=l.length by omega,Nat.mod_self]
   .rw [show i+l.length - 1=i - 1+l.length by omega,Nat.add_mod_right,adO (show i - 1 < l.length by omega),show i - 1+1=i by omega,adO hi]
  rw [e] at k;unfold okP pvS;exact k.symm
def QP {t:bh} (h:aU t e=true):Ok t e=true:=by
 obtain ⟨h1,h2,h3,h4⟩:=cF.1 h;unfold Ok;simp only [adF,decide_eq_true_eq,ad7,beq_eq_false_iff_ne];omega
def O0 (l:List fX) {k:Nat} (hk:k < l.length):d119 (an (map n119 l) k)=l[k]/\fits kU (an (map n119 l) k)=true:=by
 rw [fK n119 l k hk]; exact ⟨acU _,acT _⟩
section
variable (hN:dC N)
include hN
theorem Xs {t:bh} (l:List fX) (hl:l.length<=256) :
  ∃ x,ao (mO N l) N (0,t.1,t.2)=some x/\((∃ i:Nat,x=.inl ((i:Int),t.1,t.2)/\∃ s∈l,aU t (qm s)=false)\/(x=.inr (t.1,t.2)/\∀ s∈l,aU t (qm s)=true)):=by
 refine gk (rd:=mO N l) (Inv:=λ s=>∃ i:Nat,s=((i:Int),t.1,t.2)/\i<=l.length/\∀ j (hj:j < l.length),j < i->aU t (qm l[j])=true) (m:=λ s=>l.length - s.1.toNat) (λ s ⟨i,hs,hi,hf⟩=>?_) N _ ⟨0,rfl,abk _,λ j _ hj=>absurd hj (adT _)⟩ (by
  show l.length - (0:Int).toNat < N;unfold dC at hN;omega)
 subst hs;by_cases c:i < l.length
 .obtain ⟨a1,a2⟩:=O0 l c;have q:Oa N ((t.1,t.2),(l[i].1,l[i].2.1))=some (aU t (qm l[i])):=oK N t (qm l[i]);cases e:aU t (qm l[i])
  .rw [e] at q;refine .inr ⟨.inl ((i:Int),t.1,t.2),?_,.inl ⟨i,rfl,l[i],ab5 c,e⟩⟩;simp only [mO,zB11,ai c,af c,a1,a2,zB8,q,zB4,zB12,aaR,Oo,VH,r7]
  .rw [e] at q;refine .inl ⟨(((i+1:Nat):Int),t.1,t.2),?_,⟨i+1,rfl,c,λ j hj hji=>?_⟩,?_⟩
   .simp only [mO,zB11,ai c,af c,a1,a2,zB8,q,aN (show i < 9223372036854775807 by omega),zB0,zB12,aa5,Oo,VH,r7]
   .by_cases z:j=i
    .subst z; exact e
    .exact hf j hj (by omega)
   .show l.length - (((i+1:Nat):Int)).toNat < l.length - ((i:Int)).toNat;omega
 .have e:i=l.length:=by omega
  subst e;refine .inr ⟨.inr (t.1,t.2),?_,.inr ⟨rfl,λ s hs=>?_⟩⟩
  .simp only [mO,aag,ay,zB8,zB0,Oo,VH,r7]
  .obtain ⟨j,hj,rfl⟩:=adn hs;exact hf j hj hj
theorem abO {t:bh} (v:Vd t) (l:List fX) (hl:l.length<=256) (he:∀ s∈l,aU t (qm s)=true) :
  ∃ x,ao (vW N l) N (0,0,t.1,t.2,aB t)=some x/\((x=.inl (21,t.1,t.2,aB t)/\¬ ∀ i,i < l.length->okP t l i)\/(x=.inr (tN t l,t.1,t.2,aB t)/\∀ i,i < l.length->okP t l i)):=by
 refine gk (rd:=vW N l) (Inv:=λ s=>∃ i:Nat,s=(tN t (l.take i),(i:Int),t.1,t.2,aB t)/\i<=l.length/\∀ j,j < i->okP t l j) (m:=λ s=>l.length - s.2.1.toNat) (λ s ⟨i,hs,hi,hf⟩=>?_) N _ ⟨0,rfl,abk _,λ j hj=>absurd hj (adT _)⟩ (by
  show l.length - (0:Int).toNat < N;unfold dC at hN;omega)
 subst hs;by_cases c:i < l.length
 .obtain ⟨a1,a2⟩:=O0 l c;have hm:(i+l.length - 1) % l.length < l.length:=Nat.mod_lt _ (by omega);obtain ⟨b1,b2⟩:=O0 l hm;have ei:=he _ (ab5 c);have em:=he _ (ab5 hm);have w0:wrap .i64 (wrap .i64 ((i:Int)+(l.length:Int)) - 1)=((i+l.length - 1:Nat):Int):=by
   rw [Ap (x:=(i:Int)+(l.length:Int)) ⟨by omega,by omega⟩,Ap ⟨by omega,by omega⟩]; omega
  have tm:=Bs (i+l.length - 1) l.length;have nz:decide ((l.length:Int)=0)=false:=decide_eq_false (by omega);have w1:=aN (show i < 9223372036854775807 by omega);have ok:okP t l i↔xW t (aJ t) l[i]=wv t (aJ t) (l[(i+l.length - 1) % l.length]'hm):=by
   unfold okP pvS;rw [abz l c,abz l hm]
  generalize Tc:(i+l.length - 1) % l.length=m at *;generalize hsi:l[i]=si at *;generalize hsm:l[m]=sm at *;obtain ⟨p1,k1,f1⟩:=si;obtain ⟨p2,k2,f2⟩:=sm;have ei:aU t (p1,k1)=true:=ei;have em:aU t (p2,k2)=true:=em;have q1:tA N ((t.1,t.2),(p1,k1))=some (p1,k1,(cg t (p1,k1)).1,(cg t (p1,k1)).2):=pQ N t _ (QP ei);have q2:tA N ((t.1,t.2),(p2,k2))=some (p2,k2,(cg t (p2,k2)).1,(cg t (p2,k2)).2):=pQ N t _ (QP em);have q3:Oc N ((t.1,t.2),(p1,k1))=some (mj t (p1,k1)):=sC N t _ ei;have ri:=v.Xb _ ei;have g1:ar (aB t) (p1,k1)=aJ t (p1,k1):=rfl;have g2:ar (aB t) ((cg t (p1,k1)).1,(cg t (p1,k1)).2)=aJ t (cg t (p1,k1)):=rfl;have g3:ar (aB t) (p2,k2)=aJ t (p2,k2):=rfl;have g4:ar (aB t) ((cg t (p2,k2)).1,(cg t (p2,k2)).2)=aJ t (cg t (p2,k2)):=rfl;have tl1:xW t (aJ t) (p1,k1,f1)=if f1=true then aJ t (cg t (p1,k1)) else aJ t (p1,k1):=rfl
  have Un:wv t (aJ t) (p2,k2,f2)=if f2=true then aJ t (p2,k2) else aJ t (cg t (p2,k2)):=rfl
  have rs1:HH t (p1,k1,f1)=if f1=true then 0 - (mj t (p1,k1)).2 else (mj t (p1,k1)).2:=rfl
  have wr:wrap .i64 (0 - (mj t (p1,k1)).2)=0 - (mj t (p1,k1)).2:=Ap ⟨by omega,by omega⟩;have ee:∀ (a b:Int) (c:Bool),((a == a)&&((b == b)&&((c == c)&&true)))=true:=λ a b c=>by simp
  by_cases k:xW t (aJ t) (p1,k1,f1)=wv t (aJ t) (p2,k2,f2)
  .have sb:=QH v.Xb (l:=l.take (i+1)) (λ s hs=>he s (aeu hs));have tl:(l.take (i+1)).length=i+1:=by rw [aca]; omega
   have st:=Jt t l c;rw [hsi] at st;rw [tl,st] at sb;have w2:wrap .i64 (tN t (l.take i)+HH t (p1,k1,f1))=tN t (l.take (i+1)):=by
    rw [st];exact Ap ⟨by omega,by omega⟩
   rw [rs1] at w2;rw [tl1,Un] at k;have kb:((if f1=true then aJ t (cg t (p1,k1)) else aJ t (p1,k1)) != (if f2=true then aJ t (p2,k2) else aJ t (cg t (p2,k2))))=false:=by rw [bne_eq_false_iff_eq]; exact k
   refine .inl ⟨(tN t (l.take (i+1)),((i+1:Nat):Int),t.1,t.2,aB t),?_,⟨i+1,rfl,c,λ j hj=>?_⟩,?_⟩
   .cases f1 <;> cases f2 <;> simp only [zB14,if_true] at kb w2 <;>
     simp only [vW,KE,zB11,ai c,af c,af hm,nz,w0,w1,tm,Tc,a1,a2,b1,b2,zB6,zB21,mw,my,q1,q2,q3,oq,kh,Cq,wE,g1,g2,g3,g4,wr,ee,kb,w2,zB0,aaN,aaR,aa5,EZ,r7]
   .by_cases z:j=i
    .subst z; exact ok.2 (by rw [tl1,Un]; exact k)
    .exact hf j (by omega)
   .show l.length - (((i+1:Nat):Int)).toNat < l.length - ((i:Int)).toNat;omega
  .have nk:¬ ∀ i,i < l.length->okP t l i:=λ h=>k (ok.1 (h i c))
   rw [tl1,Un] at k;have kb:((if f1=true then aJ t (cg t (p1,k1)) else aJ t (p1,k1)) != (if f2=true then aJ t (p2,k2) else aJ t (cg t (p2,k2))))=true:=by rw [bne_iff_ne]; exact k
   refine .inr ⟨.inl (21,t.1,t.2,aB t),?_,.inl ⟨rfl,nk⟩⟩;cases f1 <;> cases f2 <;> simp only [zB14,if_true] at kb <;>
    simp only [vW,KE,zB11,ai c,af c,af hm,nz,w0,w1,tm,Tc,a1,a2,b1,b2,zB6,zB21,mw,my,q1,q2,oq,kh,Cq,wE,g1,g2,g3,g4,ee,kb,zB0,aaN,aaR,aa5,EZ,r7]
 .have e:i=l.length:=by omega
  subst e;refine .inr ⟨.inr (tN t l,t.1,t.2,aB t),?_,.inr ⟨rfl,hf⟩⟩;rw [acN];simp only [vW,aag,ay,zB8,zB21,mw,my,zB0,zB12,EZ,r7]
omit hN in
theorem S6 (a b:Int):bP [a,b]=if a=0 then b else a:=by
 have:=EJ [a] [b];have e:∀ x:Int,bP [x]=x:=λ x=>by
  by_cases h:x=0
  .subst h; rfl
  .simp [bP]; exact λ z=>absurd z h
 rw [show [a,b]=[a]++[b] from rfl,this,e,e]
omit hN in
theorem Aq (a b:Int):[aI a,aI b]=map n29 [a,b]:=rfl
theorem abP {t:bh} (h:fS t≠0) (l:List fX):T38 N (t,l)=some (fS t):=by
 have q:Mr N (t.1,t.2)=some (fS t):=xT hN t;have e:bP [fS t,if decide ((l.length:Int) > 256)=true then 5 else 0]=fS t:=by rw [S6,if_neg h]
 have f:IQ N [fS t,if decide ((l.length:Int) > 256)=true then 5 else 0]=some (fS t):=by rw [jt hN _ (by simp),e]
 have nb:(fS t != 0)=true:=by rw [bne_iff_ne]; exact h
 rw [A7];simp only [zB8,q,fh,aag,Aq,A4,A5,f,nb,zB4,zB12]
theorem abQ {t:bh} (v:Vd t) (l:List fX):∃ x,T38 N (t,l)=some x/\Xd t l x:=by
 have q:Mr N (t.1,t.2)=some 0:=by rw [show (t.1,t.2)=t from rfl,xT hN t,v.err]
 have nb:((0:Int) != 0)=false:=rfl;by_cases c:l.length > 256
 .have d:decide ((l.length:Int) > 256)=true:=decide_eq_true (by omega);have f:IQ N [0,5]=some 5:=by rw [jt hN _ (by simp),S6]; rfl
  have nb5:((5:Int) != 0)=true:=rfl;refine ⟨5,?_,.inl ⟨c,rfl⟩⟩;rw [A7];simp only [zB8,q,fh,aag,d,if_true,Aq,A4,A5,f,nb5,zB4,zB12]
 .have d:decide ((l.length:Int) > 256)=false:=decide_eq_false (by omega);have f:IQ N [0,0]=some 0:=by rw [jt hN _ (by simp),S6]; rfl
  obtain ⟨x,x1,x2⟩:=Xs hN (t:=t) l (by omega);rcases x2 with ⟨i,rfl,x2⟩|⟨rfl,x2⟩
  .have g:decide ((i:Int)>=0)=true:=decide_eq_true (by omega);refine ⟨10,?_,.inr (.inl ⟨by omega,x2,rfl⟩)⟩;rw [A7];simp only [zB8,q,fh,aag,d,zB14,Aq,A4,A5,f,nb,x1,g,acM,zB0,zB12]
  .have g:decide ((-1:Int)>=0)=false:=rfl;obtain ⟨y,y1,y2⟩:=abO hN v l (by omega) x2;have hs:=W4 v.gd;have pt:RU N (t.1,t.2)=some (aB t):=tH hN t (by have:=v.le; omega) v.LU (by have:=v.Aw; omega) hs;rcases y2 with ⟨rfl,y2⟩|⟨rfl,y2⟩
   .refine ⟨21,?_,.inr (.inr ⟨by omega,x2,.inr ⟨λ h=>y2 ((amr t l).2 h.1),rfl⟩⟩)⟩;rw [A7];simp only [zB8,q,fh,aag,d,zB14,Aq,A4,A5,f,nb,x1,g,pt,y1,zB21,mw,my,aaS,au,eC,acM,acP,zB0,zB12]
   .by_cases z:tN t l=0
    .have zb:(tN t l == 0)=true:=by rw [beq_iff_eq]; exact z
     refine ⟨21,?_,.inr (.inr ⟨by omega,x2,.inr ⟨λ h=>h.2 z,rfl⟩⟩)⟩;rw [A7];simp only [zB8,q,fh,aag,d,zB14,if_true,Aq,A4,A5,f,nb,x1,g,pt,y1,zb,zB21,mw,my,aaS,au,eC,acM,acP,zB0,zB12]
    .have zb:(tN t l == 0)=false:=by rw [beq_eq_false_iff_ne]; exact z
     refine ⟨0,?_,.inr (.inr ⟨by omega,x2,.inl ⟨⟨(amr t l).1 y2,z⟩,rfl⟩⟩)⟩;rw [A7];simp only [zB8,q,fh,aag,d,zB14,if_true,Aq,A4,A5,f,nb,x1,g,pt,y1,zb,zB21,mw,my,aaS,au,eC,acM,acP,zB0,zB12]
end
def gF4 (rows:List (List Int)) {j:Nat} (hj:j < rows.length):xS (an (map ks (Fy rows)) j)=(j,rows[j])/\fits mT (an (map ks (Fy rows)) j)=true:=by
 rw [fK ks (Fy rows) j (by rw [kO]; exact hj),aaY,aaX,Jl rows hj]; exact ⟨rfl,rfl⟩
def ar5 (rows:List (List Int)) (j:Nat) (x:List Int):aC (map ks (Fy rows)) j (AV.list (.bC 4 j) 1 (map n3 x))=map ks (Fy (rows.set j x)):=by
 rw [eY];have e:AV.list (.bC 4 j) 1 (map n3 x)=ks (j,x):=rfl;rw [e,<- aes];congr 1;apply acV
 .rw [acq,kO,kO,acq]
 .intro i h1 h2;rw [kO,acq] at h2;rw [Jl _ (by rw [acq]; exact h2),ady,ady];split
  .rename_i e; subst e; rfl
  .rw [Jl rows h2]
def ar6 (rows:List (List Int)):map AV.kj (map ks (Fy rows))=map n59 rows:=by
 apply acV
 .rw [aag,aag,kO,aag]
 .intro i h1 h2;rw [aag] at h2;rw [aee,aee,Jl rows h2,aee];rfl
def ar7 (n:Nat):map (λ j=>AV.list (.bC 4 (0+j)) 1 []) (adi n)=map ks (Fy (aba n [])):=by
 unfold Fy;rw [acW,ab9];refine acL λ j hj=>?_
 have hj:=adj.1 hj;show _=ks (j,(aba n []).getD j []);rw [acK,List.getElem?_replicate,if_pos hj,abC];rfl
abbrev jB (t:bh) (H:HM):Int×Int->Int:=λ e=>ar H (aJ t e)
section
variable (hN:dC N)
include hN
theorem aih (t:bh) {p:Nat} (hp:p < t.1.length) (hP:t.1.length<=1000) (hs:kr t (p:Int)<=1000) (H:HM) (x1:List Int) (x2:List (Nat×List Int)) (rows:List (List Int)) (hr:rows.length=t.1.length) :
  ao (me N ((p:Int),H,(),aB t,(),x1,x2,(),t)) N (0,H,(),aB t,(),hX (HF (rows.set p (mq (jB t H) p 0))),Fy (rows.set p (mq (jB t H) p 0)),(),t)=some (H,(),aB t,(),hX (HF (rows.set p (mq (jB t H) p (kr t (p:Int))))),Fy (rows.set p (mq (jB t H) p (kr t (p:Int)))),(),t):=by
 obtain ⟨a1,a2⟩:=kE t.1 hp;have sl:t.1[p].2.length=kr t (p:Int):=(gK t hp).symm;have key:=aL (rd:=me N ((p:Int),H,(),aB t,(),x1,x2,(),t)) (kr t (p:Int)) (λ k=>((k:Int),H,(),aB t,(),hX (HF (rows.set p (mq (jB t H) p k))),Fy (rows.set p (mq (jB t H) p k)),(),t)) (H,(),aB t,(),hX (HF (rows.set p (mq (jB t H) p (kr t (p:Int))))),Fy (rows.set p (mq (jB t H) p (kr t (p:Int)))),(),t) (λ k hk=>by
  have hp2:p < (rows.set p (mq (jB t H) p k)).length:=by rw [acq,hr]; exact hp
  obtain ⟨g1,g2⟩:=gF4 _ hp2;have m1:=arX _ hp2;have s1:=arY _ hp2 (mq (jB t H) p (k+1));have rs:mq (jB t H) p k++[ar H (ar (aB t) ((p:Int),(k:Int)))]=mq (jB t H) p (k+1):=HG (jB t H) p k;rw [List.getElem_set_self] at g1 m1;rw [Ah] at m1 s1;have w:wrap .i64 ((k:Int)+1)=((k+1:Nat):Int):=aN (by omega);have c1:decide ((k+1)*8<=140737488355328)=true:=decide_eq_true (by omega);have dp:decide (p < t.1.length)=true:=decide_eq_true hp;simp only [me,zB7,zB22,a1,a2,sl,ai hk,kO,acq,hr,af hp,g1,g2,zB19,jI,Ah,m1,c1,dp,xd,rs,s1,ar5,afy,zB21,zB20,zO,zP,zB6,aaS,zB4,aaN,w,Sn,aht]) (by
  simp only [me,zB7,aaK,a1,a2,sl,ay,zB0,kO,jI,zB21,zB20,zO,zP,zB8,aaS,zB12,Sn,aht]) N 0 (abk _) (by unfold dC at hN; omega)
 exact key
theorem abR (t:bh) (hP:t.1.length<=1000) (hs:∀ p:Nat,p < t.1.length->kr t (p:Int)<=1000) (H:HM) :
  ao (oX N t) N (0,H,(),aB t,(),hX (HF (aba t.1.length [])),Fy (aba t.1.length []),(),t)=some (H,(),aB t,(),hX (HF (aT t (jB t H))),Fy (aT t (jB t H)),(),t):=by
 have key:=aL (rd:=oX N t) t.1.length (λ p=>((p:Int),H,(),aB t,(),hX (HF (ki t (jB t H) p)),Fy (ki t (jB t H) p),(),t)) (H,(),aB t,(),hX (HF (ki t (jB t H) t.1.length)),Fy (ki t (jB t H) t.1.length),(),t) (λ p hp=>by
  obtain ⟨a1,a2⟩:=kE t.1 hp;have w:wrap .i64 ((p:Int)+1)=((p+1:Nat):Int):=aN (by omega);have k1:=aih hN t hp hP (hs p hp) H (hX (HF (ki t (jB t H) p))) (Fy (ki t (jB t H) p)) (ki t (jB t H) p) (wu _ _ _);rw [abw t _ hp,SQ t _ hp] at k1;simp only [oX,zB7,aaK,ai hp,af hp,a2,kO,wu,jI,zB21,zB20,zO,zP,zB8,aaS,zB4,zB12,k1,w,Sn,Qn]) (by
  simp only [oX,zB7,ay,zB0,kO,jI,zB21,zB20,zO,zP,zB8,aaS,zB12,Sn,Qn]) N 0 (abk _) (by unfold dC at hN; omega)
 rw [SR] at key;have key:ao (oX N t) N (((0:Nat):Int),H,(),aB t,(),hX (HF (ki t (jB t H) 0)),Fy (ki t (jB t H) 0),(),t)=_:=key;rw [SS] at key;exact key
omit hN in
theorem Jw (t:bh) (P:PM) (e:Int×Int):List.isEmpty (map n119 (ol t P e))=false:=by
 unfold ol;cases ui P (aJ t e) <;> rfl
theorem aii {t:bh} (v:Vd t):∃ H P,HI t (aJ t) (uj t) H P/\L4 t H /\
  (((∀ e,aU t e=true->kX t H e)/\JH N t=some (.inl (H,()))/\OF N t=some (aT t (jB t H),0)/\OH N t=some ([],7)) \/
  ∃ e,aU t e=true/\¬ kX t H e/\JH N t=some (.inr (H,ol t P e))/\OF N t=some ([],29)/\OH N t=some (ol t P e,0)):=by
 obtain ⟨H,P,h1,h2,h3⟩:=abM hN v;have q:Mr N (t.1,t.2)=some 0:=by rw [show (t.1,t.2)=t from rfl,xT hN t,v.err]
 have nb:((0:Int) != 0)=false:=rfl;have pt:=v.pts hN;have le:=v.le;have hs:∀ p:Nat,p < t.1.length->kr t (p:Int)<=1000:=λ p hp=>by
  have:=(v.gd.IY (p:Int) (by omega) (by omega)).2;omega
 have k2:=abR hN t (by omega) hs H;have d1:decide ((0:Int)<=(t.1.length:Int)/\(t.1.length:Int)<=(t.1.length:Int)/\(t.1.length:Int)<=140737488355328/\(t.1.length:Int)*24<=140737488355328)=true:=decide_eq_true (by omega);have hz:(aba t.1.length (AV.list .nil 0 [])).length=t.1.length:=ab9;have l2:(Fy (aba t.1.length [])).length=t.1.length:=by rw [kO,ab9]
 refine ⟨H,P,h1,h2,?_⟩;rcases h3 with ⟨f,g⟩|⟨e,e1,e2,g⟩
 .refine .inl ⟨f,g,?_,?_⟩
  .have g:JH N (t.1,t.2)=some (.inl (H,())):=g;rw [show OF N t=OF N (t.1,t.2) from rfl,OG];simp only [zB8,q,nb,g,pt,acM,zB7,d1,aaK,Fz,hz,acg,List.nil_append,ar7,lnF,zB21,zB20,zO,zP,l2,List.length_range,aaS,k2,kO,bS,ar6,ame,gH,gJ,zB0,zB12]
  .have g:JH N (t.1,t.2)=some (.inl (H,())):=g;rw [show OH N t=OH N (t.1,t.2) from rfl,OI];simp only [zB8,q,nb,g,acM,fh,Me,Mf,if_true,zB0,zB12]
 .refine .inr ⟨e,e1,e2,g,?_,?_⟩
  .have g:JH N (t.1,t.2)=some (.inr (H,ol t P e)):=g;rw [show OF N t=OF N (t.1,t.2) from rfl,OG];simp only [zB8,q,nb,g,acP,Jw,Me,Mf,aaR,zB0,zB12]
  .have g:JH N (t.1,t.2)=some (.inr (H,ol t P e)):=g;rw [show OH N t=OH N (t.1,t.2) from rfl,OI];simp only [zB8,q,nb,g,acP,Jw,fh,eR,eS,zB14,aaR,zB0,zB12]
theorem abS {t:bh} (h:fS t≠0):OF N t=some ([],fS t)/\OH N t=some ([],fS t):=by
 have q:Mr N (t.1,t.2)=some (fS t):=xT hN t;have nb:(fS t != 0)=true:=by rw [bne_iff_ne]; exact h
 constructor
 .rw [show OF N t=OF N (t.1,t.2) from rfl,OG];simp only [zB8,q,nb,Me,Mf,zB4,zB12]
 .rw [show OH N t=OH N (t.1,t.2) from rfl,OI];simp only [zB8,q,nb,Me,Mf,zB4,zB12]
omit hN in
theorem eq2 (a b:Int):((a == a)&&((b == b)&&true))=true:=by simp
def zB23:=And.intro @aaN (And.intro @mw (And.intro @my (And.intro @eq2 (And.intro @fh (And.intro @A4 @A5)))))
theorem abT {t:bh} (h:fS t≠0) (a b:Int×Int):Bd N (t,a,b)=some (0,fS t):=by
 have q:Mr N (t.1,t.2)=some (fS t):=xT hN t;have nb:(fS t != 0)=true:=by rw [bne_iff_ne]; exact h
 have f:∀ c:Int,IQ N [fS t,c]=some (fS t):=λ c=>by rw [jt hN _ (by simp),S6,if_neg h]
 have qa:Oa N ((t.1,t.2),(a.1,a.2))=some (aU t a):=oK N t a;have qb:Oa N ((t.1,t.2),(b.1,b.2))=some (aU t b):=oK N t b;rw [show Bd N (t,a,b)=Bd N ((t.1,t.2),a,b) from rfl,Fc];cases ea:aU t a
 .rw [ea] at qa;simp only [zB6,q,zB23,qa,Aq,f,nb,if_true,aaR,zB4]
 .rw [ea] at qa;simp only [zB6,q,zB23,qa,qb,Aq,f,nb,aa5,zB0]
theorem C6 {t:bh} (v:Vd t) (a b:Int×Int) (h:aU t a=false\/aU t b=false):Bd N (t,a,b)=some (0,10):=by
 have q:Mr N (t.1,t.2)=some 0:=by rw [show (t.1,t.2)=t from rfl,xT hN t,v.err]
 have nb:((10:Int) != 0)=true:=rfl;have f:IQ N [0,10]=some 10:=by rw [jt hN _ (by simp),S6]; rfl
 have qa:Oa N ((t.1,t.2),(a.1,a.2))=some (aU t a):=oK N t a;have qb:Oa N ((t.1,t.2),(b.1,b.2))=some (aU t b):=oK N t b;rw [show Bd N (t,a,b)=Bd N ((t.1,t.2),a,b) from rfl,Fc];cases ea:aU t a
 .rw [ea] at qa;simp only [zB6,q,zB23,qa,Aq,f,nb,if_true,aaR,zB4]
 .have eb:aU t b=false:=h.resolve_left (by rw [ea]; simp);rw [ea] at qa;rw [eb] at qb;simp only [zB6,q,zB23,qa,qb,Aq,f,nb,if_true,aa5,aaR,zB0]
theorem Mg {t:bh} (v:Vd t) {a b:Int×Int} (ha:aU t a=true) (hb:aU t b=true) :
  (FO t a≠FO t b->Bd N (t,a,b)=some (0,17)) /\
  (FO t a=FO t b->∀ H:HM,(JH N t=some (.inl (H,()))->Bd N (t,a,b)=some (wrap .i64 (ar H (aJ t b) - ar H (aJ t a)),0))/\∀ P e,JH N t=some (.inr (H,ol t P e))->Bd N (t,a,b)=some (0,29)):=by
 have q:Mr N (t.1,t.2)=some 0:=by rw [show (t.1,t.2)=t from rfl,xT hN t,v.err]
 have nb:((0:Int) != 0)=false:=rfl;have f:IQ N [0,0]=some 0:=by rw [jt hN _ (by simp),S6]; rfl
 have qa:Oa N ((t.1,t.2),(a.1,a.2))=some true:=by rw [<- ha]; exact oK N t a
 have qb:Oa N ((t.1,t.2),(b.1,b.2))=some true:=by rw [<- hb]; exact oK N t b
 have pt:=v.pts hN;have le:=v.le;have se:=v.Aw;have q1:T61 N (t.1,t.2)=some (av t):=xP hN t (by omega) (by omega);obtain ⟨p,i,rfl,hp,hi⟩:=ni ha;obtain ⟨r,j,rfl,hr,hj⟩:=ni hb;obtain ⟨u1,u2⟩:=g3 (av t) (k:=p) (by rw [ib]; exact hp);obtain ⟨w1,w2⟩:=g3 (av t) (k:=r) (by rw [ib]; exact hr);have r1:=af (show p < (av t).length by rw [ib]; exact hp);have r2:=af (show r < (av t).length by rw [ib]; exact hr);have e1:FO t ((p:Int),(i:Int))=gI (av t) (p:Int):=rfl;have e2:FO t ((r:Int),(j:Int))=gI (av t) (r:Int):=rfl;rw [e1,e2];refine ⟨λ h=>?_,λ h H=>⟨λ g=>?_,λ P e g=>?_⟩⟩
 .have b1:(gI (av t) (p:Int) != gI (av t) (r:Int))=true:=by rw [bne_iff_ne]; exact h
  rw [show Bd N (t,((p:Int),(i:Int)),((r:Int),(j:Int)))=Bd N ((t.1,t.2),((p:Int),(i:Int)),((r:Int),(j:Int))) from rfl,Fc];simp only [zB6,q,zB23,qa,qb,Aq 0 0,f,nb,q1,zB11,r1,r2,u1,u2,w1,w2,b1,zB14,aa5,zB0]
 .have b1:(gI (av t) (p:Int) != gI (av t) (r:Int))=false:=by rw [bne_eq_false_iff_eq]; exact h
  have g:JH N (t.1,t.2)=some (.inl (H,())):=g;rw [show Bd N (t,((p:Int),(i:Int)),((r:Int),(j:Int)))=Bd N ((t.1,t.2),((p:Int),(i:Int)),((r:Int),(j:Int))) from rfl,Fc];simp only [zB6,q,zB23,qa,qb,Aq 0 0,f,nb,q1,zB11,r1,r2,u1,u2,w1,w2,b1,g,pt,KE,zB19,acM,zB14,aa5,zB0]
 .have b1:(gI (av t) (p:Int) != gI (av t) (r:Int))=false:=by rw [bne_eq_false_iff_eq]; exact h
  have g:JH N (t.1,t.2)=some (.inr (H,ol t P e)):=g;rw [show Bd N (t,((p:Int),(i:Int)),((r:Int),(j:Int)))=Bd N ((t.1,t.2),((p:Int),(i:Int)),((r:Int),(j:Int))) from rfl,Fc];simp only [zB6,q,zB23,qa,qb,Aq 0 0,f,nb,q1,zB11,r1,r2,u1,u2,w1,w2,b1,g,acP,Jw,zB14,aa5,aaR,zB0]
end
def abU (m A:Nat):(aba m (0:Int)).set A 0=aba m 0:=by
 apply acV
 .simp
 .intro i h1 h2;rw [ady];split
  .simp
  .rfl
def aik (m:Nat):AR m [] (aba m 0) (aba m 0):=
 ⟨ab9,ab9,λ a _=>by rw [ah2]; rfl,λ a x _ h=>by cases h⟩
section
variable (hN:dC N)
include hN
theorem S7 {t:bh} (v:Vd t) {m:Nat} (pm:Xg t m) (K0 T0:List Int) (l1:K0.length=m) (l2:T0.length=m) :
  ∃ H kn,ao (vZ N t (cC t) (av t) ((),(),K0,T0)) N (0,aba m 0,aba m 0)=some (kn,aba m 0)/\HI t (aJ t) (uj t) H []/\AR m H kn (aba m 0)/\1<=H.length /\
   ∀ q:Int,0<=q->q < (t.1.length:Int)->wG t q->(getM (aJ t (q,0)) H).isSome=true:=by
 have le:=v.le;obtain ⟨x,h1,H',kn',h2,h3,h4,h5⟩:=gk (rd:=vZ N t (cC t) (av t) ((),(),K0,T0))
  (Inv:=λ s=>∃ (i:Nat) (H:HM) (kn:List Int),s=((i:Int),kn,aba m 0)/\i<=t.1.length/\HI t (aJ t) (uj t) H []/\AR m H kn (aba m 0)/\(∀ q:Int,0<=q->q < (i:Int)->wG t q->(getM (aJ t (q,0)) H).isSome=true)/\∀ a,(getM a H).isSome=true->∃ q:Int,0<=q/\q < (i:Int)/\a=aJ t (q,0))
  (m:=λ s=>t.1.length - s.1.toNat)
  (Post:=λ x=>∃ (H:HM) (kn:List Int),x=(kn,aba m 0)/\HI t (aJ t) (uj t) H []/\AR m H kn (aba m 0)/\∀ q:Int,0<=q->q < (t.1.length:Int)->wG t q->(getM (aJ t (q,0)) H).isSome=true)
  (λ s ⟨i,H,kn,hs,hi,hh,ha,hq,hk⟩=>by
   subst hs;by_cases c:i < t.1.length
   .have fr:=S2 hN (by omega) c kn (aba m 0) kn (aba m 0);have wi:=aN (show i < 9223372036854775807 by omega);cases fb:Gp t i i
    .rw [fb] at fr;refine .inl ⟨(((i+1:Nat):Int),kn,aba m 0),?_,⟨i+1,H,kn,rfl,c,hh,ha,λ q q0 q1 qf=>?_,λ a z=>?_⟩,?_⟩
     .simp only [vZ,aag,ai c,fr,wi,eV,eW,zB0,zB12,jE,lH,Qo,B6]
     .by_cases e:q=(i:Int)
      .subst e;rw [(Mc t i).2 qf] at fb; cases fb
      .exact hq q q0 (by omega) qf
     .obtain ⟨q,q0,q1,q2⟩:=hk a z;exact ⟨q,q0,by omega,q2⟩
     .show t.1.length - (((i+1:Nat):Int)).toNat < t.1.length - ((i:Int)).toNat;omega
    .rw [fb] at fr;have fp:=(Mc t i).1 fb;have ze:=qk v (q:=(i:Int)) (by omega) (by omega);obtain ⟨A,lA,hA⟩:=pm _ ze;obtain ⟨w1,w2⟩:=wx t c;have n3:=(v.gd.IY (i:Int) (by omega) (by omega)).1;have w0:=w2 0 (by omega);have hA':aJ t ((i:Int),((0:Nat):Int))=(A:Int):=hA;rw [hA'] at w0;obtain ⟨r1,r2⟩:=g59 (cC t) (k:=i) (by rw [iF]; exact c);obtain ⟨x1,x2⟩:=g3 (gL (cC t) (i:Int)) (k:=0) (by rw [w1]; omega);rw [w0] at x1;have A9:=af (show i < (cC t).length by rw [iF]; exact c);have SW:decide ((0:Int)<=0/\(0:Int) < ((gL (cC t) (i:Int)).length:Int))=true:=decide_eq_true (by omega);have iA:=af lA;have dA:decide (A < m)=true:=decide_eq_true lA;have lk:=ha.lk;have nn:getM (A:Int) H=none:=by
      cases z:getM (A:Int) H with
      |none=>rfl
      |some y=>
       obtain ⟨q,q0,q1,q2⟩:=hk (A:Int) (by rw [z]; rfl);have pe:=Js v (qk v q0 (by omega)) ze (by rw [hA]; exact q2.symm);exact absurd pe (fp q q0 q1)
     have nr:=HI.root v hh (q:=(i:Int)) (by omega) (by omega) fp (by rw [hA]; exact nn);rw [hA] at nr;have na:=ha.put lA 0;rw [abU] at na;refine .inl ⟨(((i+1:Nat):Int),kn.set A 1,aba m 0),?_,⟨i+1,dG (A:Int) 0 H,kn.set A 1,rfl,c,nr,na,λ q q0 q1 qf=>?_,λ a z=>?_⟩,?_⟩
     .simp only [vZ,zB3,ai c,fr,wi,r1,r2,A9,SW,zB22,tn0,x1,x2,iA,dA,l1,lk,SJ,zB0,zB12,jE,lH,Qo,B6]
     .rw [eF];by_cases e:q=(i:Int)
      .subst e; rw [if_pos hA]; rfl
      .split
       .rfl
       .exact hq q q0 (by omega) qf
     .rw [eF] at z;by_cases e:a=(A:Int)
      .exact ⟨(i:Int),by omega,by omega,by rw [hA]; exact e⟩
      .rw [if_neg e] at z;obtain ⟨q,q0,q1,q2⟩:=hk a z;exact ⟨q,q0,by omega,q2⟩
     .show t.1.length - (((i+1:Nat):Int)).toNat < t.1.length - ((i:Int)).toNat;omega
   .have e:i=t.1.length:=by omega
    subst e;refine .inr ⟨(kn,aba m 0),?_,H,kn,rfl,hh,ha,hq⟩;simp only [vZ,aag,ay,eV,eW,zB0,jE,lH,Qo,B6])
  N (0,aba m 0,aba m 0) ⟨0,[],aba m 0,rfl,abk _,Xn t _ _,aik m,λ q q0 q1 _=>absurd q1 (by omega),λ a z=>by cases z⟩ (by
   show t.1.length - (0:Int).toNat < N;unfold dC at hN;omega)
 refine ⟨H',kn',by rw [h1,h2],h3,h4,?_,h5⟩;have ne:=v.ne;have:=h5 0 (by omega) (by omega) (λ r r0 r1=>absurd r1 (by omega));cases H' with
 |nil=>cases this
 |cons x l=>simp
theorem abV {t:bh} (v:Vd t) {m:Nat} (pm:Xg t m) {H:HM} {P:PM} (hh:HI t (aJ t) (uj t) H P) (ha:AR m H kn ht) (kw:L4 t H) {p:Nat} (hp:p < t.1.length) (K0 T0:List Int) (l1:K0.length=m) (l2:T0.length=m) (out:List (List Int)) :
  ∃ x,ao (lI N t (cC t) ((),(),K0,T0) (out,(p:Int),kn,ht)) N (out,[],0,kn,ht)=some x /\
   ((x=.inr (out,mq (jB t H) p t.1[p].2.length,kn,ht)/\∀ k:Nat,k < t.1[p].2.length->kX t H ((p:Int),(k:Int))) \/
   (x=.inl ((),false,out,kn,ht)/\∃ k:Nat,k < t.1[p].2.length/\¬ kX t H ((p:Int),(k:Int)))):=by
 have s8:=v.sd _ (ab5 hp);have le:=v.le;have sl:kr t (p:Int)=t.1[p].2.length:=gK t hp;obtain ⟨w1,w2⟩:=wx t hp;rw [sl] at w1 w2;obtain ⟨r1,r2⟩:=g59 (cC t) (k:=p) (by rw [iF]; exact hp);have A9:=af (show p < (cC t).length by rw [iF]; exact hp);refine gk (rd:=lI N t (cC t) ((),(),K0,T0) (out,(p:Int),kn,ht))
  (Inv:=λ s=>∃ k:Nat,s=(out,mq (jB t H) p k,(k:Int),kn,ht)/\k<=t.1[p].2.length/\∀ j:Nat,j < k->kX t H ((p:Int),(j:Int)))
  (m:=λ s=>t.1[p].2.length - s.2.2.1.toNat) (λ s ⟨k,hs,hk,hf⟩=>?_) N _ ⟨0,rfl,abk _,λ j hj=>absurd hj (adT _)⟩ (by
   show t.1[p].2.length - (0:Int).toNat < N;unfold dC at hN;omega)
 subst hs;by_cases c:k < t.1[p].2.length
 .have he:aU t ((p:Int),(k:Int))=true:=kM t hp c;have DV:=nU v he;have hm:(k+1) % t.1[p].2.length < t.1[p].2.length:=Nat.mod_lt _ (by omega);have ec:cg t ((p:Int),(k:Int))=((p:Int),(((k+1) % t.1[p].2.length:Nat):Int)):=by
   unfold cg;rw [show (wrap .i64 (((p:Int),(k:Int)).2+1))=((k+1:Nat):Int) from aN (show k < 9223372036854775807 by omega),show kr t ((p:Int),(k:Int)).1=t.1[p].2.length from sl,Bs]
  obtain ⟨A,lA,hA⟩:=pm _ he;obtain ⟨B,lB,hB⟩:=pm _ DV;obtain ⟨x,hx⟩:=HY.1 (kw _ he);obtain ⟨y,hy⟩:=HY.1 (kw _ DV);have bx:=hh.le v.ri hx;have bye:=hh.le v.ri hy;have vx:=fT hx;have vy:=fT hy;rw [hA] at hx;rw [hB] at hy;have tx:=ha.hv A x lA hx;have ty:=ha.hv B y lB hy;obtain ⟨a1,a2⟩:=Bh t.1 hp;obtain ⟨b1,b2⟩:=WA t.1[p].2 c;obtain ⟨x1,x2⟩:=g3 (gL (cC t) (p:Int)) (k:=k) (by rw [w1]; exact c);obtain ⟨y1,y2⟩:=g3 (gL (cC t) (p:Int)) (k:=(k+1) % t.1[p].2.length) (by rw [w1]; exact hm);rw [show gI (gL (cC t) (p:Int)) (k:Int)=(A:Int) by rw [w2 k c]; exact hA] at x1;rw [show gI (gL (cC t) (p:Int)) (((k+1) % t.1[p].2.length:Nat):Int)=(B:Int) by rw [w2 _ hm,<- ec]; exact hB] at y1;have lh:=ha.lh;obtain ⟨e1,e2⟩:=g3 ht (k:=A) (by omega);obtain ⟨f1,f2⟩:=g3 ht (k:=B) (by omega);rw [tx] at e1;rw [ty] at f1;have SW:=af c;have Xc:=af hm;have ih4:=af hp;have iA:=af lA;have iB:=af lB;have wk:=aN (show k < 9223372036854775807 by omega);have tm:=Bs (k+1) t.1[p].2.length;have nz:decide ((t.1[p].2.length:Int)=0)=false:=decide_eq_false (by omega);have dA:decide (A < m)=true:=decide_eq_true lA;have dB:decide (B < m)=true:=decide_eq_true lB;have wr:wrap .i64 (y - x)=y - x:=Ap ⟨by omega,by omega⟩;have fc:kX t H ((p:Int),(k:Int))↔y - x=(t.1[p].2[k]).2:=by unfold kX; rw [vx,vy,Bi t hp c]
  by_cases f:kX t H ((p:Int),(k:Int))
  .have nb:(y - x != (t.1[p].2[k]).2)=false:=by rw [bne_eq_false_iff_eq]; exact fc.1 f
   have rs:mq (jB t H) p k++[x]=mq (jB t H) p (k+1):=by
    rw [<- vx]; exact HG (jB t H) p k
   have rl:=Ah (jB t H) p k;have rl':=Ah (jB t H) p (k+1);have d8:decide ((k+1)*8<=140737488355328)=true:=decide_eq_true (by omega);refine .inl ⟨(out,mq (jB t H) p (k+1),((k+1:Nat):Int),kn,ht),?_,⟨k+1,rfl,c,λ j hj=>?_⟩,?_⟩
   .simp only [lI,zB3,r1,r2,w1,A9,SW,Xc,ih4,ai c,nz,wk,tm,zB22,x1,x2,y1,y2,a1,a2,b1,b2,l1,l2,lh,iA,iB,dA,dB,e1,e2,f1,f2,wr,nb,xd,rs,rl,rl',d8,gH,gJ,aaR,zB0,zB12,B7]
   .by_cases z:j=k
    .rw [z]; exact f
    .exact hf j (by omega)
   .show t.1[p].2.length - (((k+1:Nat):Int)).toNat < t.1[p].2.length - ((k:Int)).toNat;omega
  .have nb:(y - x != (t.1[p].2[k]).2)=true:=by rw [bne_iff_ne]; exact λ z=>f (fc.2 z)
   refine .inr ⟨.inl ((),false,out,kn,ht),?_,.inr ⟨rfl,k,c,f⟩⟩;simp only [lI,zB3,r1,r2,w1,A9,SW,Xc,ih4,ai c,nz,wk,tm,zB22,x1,x2,y1,y2,a1,a2,b1,b2,l1,l2,lh,iA,iB,dA,dB,e1,e2,f1,f2,wr,nb,gH,gJ,aaR,zB0,zB12,B7]
 .have e:k=t.1[p].2.length:=by omega
  subst e;refine .inr ⟨.inr (out,mq (jB t H) p t.1[p].2.length,kn,ht),?_,.inl ⟨rfl,hf⟩⟩;simp only [lI,zB3,r1,r2,w1,A9,ay,aaK,gH,gJ,aaR,zB0,zB12,B7]
theorem abW {t:bh} (v:Vd t) {m:Nat} (pm:Xg t m) {H:HM} {P:PM} (hh:HI t (aJ t) (uj t) H P) (ha:AR m H kn ht) (kw:L4 t H) (K0 T0:List Int) (l1:K0.length=m) (l2:T0.length=m) :
  ∃ x,ao (sx N t (cC t) ((),(),K0,T0)) N ([],0,kn,ht)=some x /\
   ((x=.inr (aT t (jB t H),kn,ht)/\∀ e,aU t e=true->kX t H e)\/(x=.inl ((),false,kn,ht)/\∃ e,aU t e=true/\¬ kX t H e)):=by
 have le:=v.le;refine gk (rd:=sx N t (cC t) ((),(),K0,T0))
  (Inv:=λ s=>∃ p:Nat,s=((aT t (jB t H)).take p,(p:Int),kn,ht)/\p<=t.1.length/\∀ e,aU t e=true->e.1 < (p:Int)->kX t H e)
  (m:=λ s=>t.1.length - s.2.1.toNat) (λ s ⟨p,hs,hp,hf⟩=>?_) N _ ⟨0,rfl,abk _,λ e he h1=>by
   have:=(cF.1 he).1;have h1:e.1 < 0:=h1;omega⟩ (by
   show t.1.length - (0:Int).toNat < N;unfold dC at hN;omega)
 subst hs;have tl:((aT t (jB t H)).take p).length=p:=by rw [aca,bS]; omega
 by_cases c:p < t.1.length
 .obtain ⟨x,x1,x2⟩:=abV hN v pm hh ha kw c K0 T0 l1 l2 ((aT t (jB t H)).take p);rcases x2 with ⟨rfl,x2⟩|⟨rfl,k,k1,k2⟩
  .have tk:(aT t (jB t H)).take p++[mq (jB t H) p t.1[p].2.length]=(aT t (jB t H)).take (p+1):=by
    rw [adm,ab3 (by rw [bS]; exact c),Bq t _ c,gK t c];rfl
   have tl':((aT t (jB t H)).take (p+1)).length=p+1:=by rw [aca,bS]; omega
   have d24:decide ((p+1)*24<=140737488355328)=true:=decide_eq_true (by omega);refine .inl ⟨((aT t (jB t H)).take (p+1),((p+1:Nat):Int),kn,ht),?_,⟨p+1,rfl,c,λ e he h1=>?_⟩,?_⟩
   .simp only [sx,zB3,ai c,x1,tl,tl',d24,W0,tk,Me,Mf,ln0,aN (show p < 9223372036854775807 by omega),gH,gJ,acg,acP,zB0,zB12,B7]
   .obtain ⟨e1,e2,e3,e4⟩:=cF.1 he;by_cases z:e.1=(p:Int)
    .have e5:e=((p:Int),((e.2.toNat:Nat):Int)):=ad4 z (by show e.2=_; omega);rw [e5];refine x2 e.2.toNat ?_;rw [z,gK t c] at e4;omega
    .exact hf e he (by have h1:e.1 < ((p+1:Nat):Int):=h1; omega)
   .show t.1.length - (((p+1:Nat):Int)).toNat < t.1.length - ((p:Int)).toNat;omega
  .refine .inr ⟨.inl ((),false,kn,ht),?_,.inr ⟨rfl,_,kM t c k1,k2⟩⟩;simp only [sx,zB3,ai c,x1,tl,Me,Mf,ln0,gH,gJ,acg,acM,zB0,zB12,B7]
 .have e:p=t.1.length:=by omega
  subst e;have tk:(aT t (jB t H)).take t.1.length=aT t (jB t H):=List.take_of_length_le (by rw [bS]; exact adP _);rw [tk];refine .inr ⟨.inr (aT t (jB t H),kn,ht),?_,.inl ⟨rfl,λ e he=>hf e he (cF.1 he).2.1⟩⟩;simp only [sx,zB3,ay,gH,gJ,zB0,zB12,B7]
omit hN in
theorem abX {t:bh} (v:Vd t):∃ m:Nat,Xg t m/\1<=m/\m<=16000/\(cC t).flatten.foldl (λ m x=>if x > m then x else m) (-1)+1=(m:Int):=by
 obtain ⟨h1,h2,h3⟩:=LV (cC t).flatten (-1);have fl:(cC t).flatten=(bM t).map (aJ t):=xV t _;obtain ⟨_,_,n,hn,hk,_⟩:=vt (Fj t) (Ag v.gd);have nat:∀ e,aU t e=true->∃ k:Nat,k < n/\aJ t e=(k:Int):=λ e he=>by
  obtain ⟨k,k1,k2,_⟩:=hk e (cZ.2 he);exact ⟨k,k1,k2⟩
 have mem:∀ e,aU t e=true->aJ t e∈(cC t).flatten:=λ e he=>by rw [fl]; exact List.mem_map_of_mem (cZ.2 he)
 have ne:=v.ne;have z:=qk v (q:=0) (Int.le_refl _) (by omega);obtain ⟨k0,k1,k2⟩:=nat _ z;have g0:=h2 _ (mem _ z);rw [k2] at g0;generalize (cC t).flatten.foldl (λ m x=>if x > m then x else m) (-1)=M at *;have up:M+1<=(n:Int):=by
  rcases h3 with h3|h3
  .omega
  .rw [fl] at h3;obtain ⟨e,he,h4⟩:=adR.1 h3;obtain ⟨k,k3,k4⟩:=nat e (cZ.1 he);rw [<- h4,k4];omega
 have cl:=v.ah5;refine ⟨(M+1).toNat,λ e he=>?_,by omega,by omega,by omega⟩;obtain ⟨k,k3,k4⟩:=nat e he;have:=h2 _ (mem e he);exact ⟨k,by omega,k4⟩
theorem abY {t:bh} (v:Vd t):∃ H P,HI t (aJ t) (uj t) H P/\L4 t H /\
  (((∀ e,aU t e=true->kX t H e)/\Wt N t=some (aT t (jB t H),true))\/((∃ e,aU t e=true/\¬ kX t H e)/\Wt N t=some ([],false))):=by
 obtain ⟨m,pm,m1,m2,hM⟩:=abX v;obtain ⟨H0,kn,r1,r2,r3,r4,r5⟩:=S7 hN v pm (aba m 0) (aba m 0) ab9 ab9;obtain ⟨H,P,c1,c2,c3⟩:=OW v pm r2 r3 r4 r5;have q25:T25 N (t.1,t.2)=some (cC t):=LZ hN v;have q27:T27 N (t.1,t.2)=some (av t):=QE hN v;obtain ⟨g1,g2⟩:=SU hN v;have q74:=abx hN (cC t) g1 g2;generalize (cC t).flatten.foldl (λ m x=>if x > m then x else m) (-1)=M at hM q74;have wM:wrap .i64 (M+1)=(m:Int):=by rw [Ap ⟨by omega,by omega⟩]; exact hM
 have rr:=OX hN v pm (by omega) M wM (aba m 0) (aba m 0) kn (aba m 0) ab9 ab9 r3.lk ab9;obtain ⟨x,x1,x2⟩:=abW hN v pm c1 c2 c3 (aba m 0) (aba m 0) ab9 ab9;generalize tO t m (kn,aba m 0)=s at rr c2 x1 x2;obtain ⟨kn',tU⟩:=s;have d1:decide ((1:Int)<=(m:Int)/\(m:Int)<=(m:Int)/\(m:Int)<=140737488355328/\(m:Int)*8<=140737488355328)=true:=decide_eq_true (by omega);have rp:aba m (aI 0)=map n3 (aba m 0):=by rw [List.map_replicate]; rfl
 refine ⟨H,P,c1,c3,?_⟩;rcases x2 with ⟨rfl,x2⟩|⟨rfl,x2⟩
 .refine .inl ⟨x2,?_⟩;rw [show Wt N t=Wt N (t.1,t.2) from rfl,Wu];simp only [zB18,gH,gJ,zB3,q25,q27,q74,wM,d1,aaK,rp,ab9,aaS,KX,r1,rr,x1,Me,Mf,ln0,acg,acP,zB0,zB12]
 .refine .inr ⟨x2,?_⟩;rw [show Wt N t=Wt N (t.1,t.2) from rfl,Wu];simp only [zB18,gH,gJ,zB3,q25,q27,q74,wM,d1,aaK,rp,ab9,aaS,KX,r1,rr,x1,Me,Mf,ln0,acg,acM,zB0,zB12]
end
def c6:List (Nat×dF):=[(12,.join [(.norm,⟨(.cons .bool .nil),[41],[],[],[],[]⟩)]),
 (4084,.join [(.norm,⟨(.cons .bool .nil),[4],[],[],[],[]⟩)]),
 (8190,.join [(.norm,⟨(pl [pI,pI]),[15,16],[],[],[],[]⟩)]),
 (32760,.join [(.norm,⟨(.cons .bool .nil),[141],[],[],[],[]⟩)]),
 (32764,.join [(.norm,⟨(.cons .bool .nil),[180],[],[],[],[]⟩)]),
 (65534,.join [(.norm,⟨(.cons .bool .nil),[4],[],[],[],[]⟩)]),
 (262132,.join [(.norm,⟨(.cons .bool .nil),[4],[],[],[],[]⟩)])]
def T6 (N:Nat):((List ((List UInt8)×(List (Int×Int))))×(List (Int×Int×Int×Int×Bool)))×((List (Int×Int×Bool))×Int×Int×Int×Int)->Option Bool:=(cx N [(8,e8 N),(9,e9 N),(11,e11 N),(14,e14 N),(24,e24 N),(27,e27 N),(34,e34 N),(35,e35 N),(36,e36 N),(37,e37 N),(38,e38 N),(41,e41 N),(42,e42 N),(43,e43 N),(44,e44 N)] [(6,c6)]).fn 1000 6 (.cons cJ (.cons (.agg (.cons fx (.ci (.ci (.ci (.ci .nil)))))) .nil)) .bool
def e6 (N:Nat):bJ:=⟨(.cons cJ (.cons (.agg (.cons fx (.ci (.ci (.ci (.ci .nil)))))) .nil)),.bool,T6 N⟩
def amt (N:Nat):aK cd 6 (e6 N):=jj.dQ (jw (aln N) (jw (alv N) (jw (agY N) (jw (agW N) (jw (ah7 N) (jw (V6 N) (jw (ahs N) (jw (ahu N) (jw (ahB N) (jw (ahE N) (jw (age N) (jw (ahv N) (jw (ahG N) (jw (ahI N) (jw (Ox N) oV)))))))))))))))
def QQ (N:Nat) (a0:(List ((List UInt8)×(List (Int×Int))))×(List (Int×Int×Int×Int×Bool))) (a1:(List (Int×Int×Bool))×Int×Int×Int×Int):T6 N (a0,a1) =
 (let Ct:=(toNat a1.2.1); let Cu:=(a1.2.1 == a1.2.1); let lY:=(fits ir); let lN:=(fits fY); let hJ:=(a1.2.2.2.1 == a1.2.2.2.1); let fZ:=(V2 a0.2); let fL:=(xR a0.1); let dV:=(toNat a1.2.2.2.1); let l8:=(au fL fL&&(au fZ fZ&&true)); let l6:=(List UInt8); let l5:=(OE a1.1); let rE:=(allFit (fits uh) l5&&true); let mu:=(decide ((((l5).length:Nat):Int) > 258)); let l3:=(map d79 fZ); let l2:=(map d92 fL); let l1:=(allFit (fits B5) fL&&(allFit (fits Lv) fZ&&true)); let cX:=(l1&&true); (((T8 N ()).bind λ y1=>(bif (!y1) then (some true) else ((bif cX then some ((l2,l3),4) else none:Option (((List (l6×(List (Int×Int))))×(List (Int×Int×Int×Int×Bool)))×Int)).bind λ x3=>(T9 N x3).bind λ y2=>(bif (!y2) then (some true) else (bif (decide ((((l5).length:Nat):Int) > 20)) then (bif (decide ((((l5).length:Nat):Int)<=256)) then (some true) else (some mu)) else (some mu))))):Option Bool).bind λ o4=>(bif o4 then (T8 N ()).bind λ y5=>some y5 else ((bif cX then some (l2,l3) else none).bind λ x7=>(XR N x7).bind λ y6=>((bif ((allFit lN (cE y6.1)&&(allFit lY (dc y6.2)&&true))&&true) then some ((jH y6.1),(j8 y6.2)) else none).bind λ x9=>(OF N x9).bind λ y8=>let BX:=(mQ y8.1); let fa:=((((BX).length:Nat):Int) == 0); ((bif cX then some (l2,l3) else none).bind λ KT=>(XR N KT).bind λ y10=>bif ((hJ&&((a1.2.2.2.2 == a1.2.2.2.2)&&true))&&((Cu&&((a1.2.2.1 == a1.2.2.1)&&true))&&true)) then ((bif ((allFit lN (cE y10.1)&&(allFit lY (dc y10.2)&&true))&&true) then some (((jH y10.1),(j8 y10.2)),(a1.2.1,a1.2.2.1),(a1.2.2.2.1,a1.2.2.2.2)) else none).bind λ x13=>(Bd N x13).bind λ XQ=>((bif cX then some (l2,l3) else none).bind λ x15=>(XR N x15).bind λ Si=>((bif ((allFit lN (cE Si.1)&&(allFit lY (dc Si.2)&&true))&&true) then some ((jH Si.1),(j8 Si.2)) else none).bind λ x17=>(OH N x17).bind λ y16=>let eu:=(gG y16.1); let uf:=((((eu).length:Nat):Int) == 0); ((bif cX then some (l2,l3) else none).bind λ x19=>(XR N x19).bind λ y18=>bif (au l5 l5&&true) then ((bif rE then some (map d169 l5) else none).bind λ x21=>(T42 N x21).bind λ Qb=>((bif ((allFit lN (cE y18.1)&&(allFit lY (dc y18.2)&&true))&&(Om Qb&&true)) then some (((jH y18.1),(j8 y18.2)),(Gk Qb)) else none).bind λ x23=>(T38 N x23).bind λ y22=>((bif cX then some (l2,l3) else none).bind λ x25=>(T14 N x25).bind λ y24=>(bif (y24 != 0) then (((bif fa then (bif (y8.2 == y24) then (bif (XQ.1 == 0) then (bif (XQ.2 == y24) then (bif uf then (bif (y16.2 == y24) then (some (y22 == y24)) else (some false)) else (some false)) else (some false)) else (some false)) else (some false)) else (some false)):Option Bool).bind λ o26=>some o26) else ((bif (l1&&rE) then some ((l2,l3),(map d169 l5)) else none).bind λ x28=>(T36 N x28).bind λ y27=>(bif (y22 != y27) then some false else ((bif cX then some (l2,l3) else none).bind λ x30=>(Wt N x30).bind λ y29=>let l4:=(mQ y29.1); let cW:=(L3 (d59 (an l4 Ct))); let Gj:=(an cW (toNat a1.2.2.1)); let l9:=(L3 (d59 (an l4 dV))); let BW:=(an l9 (toNat a1.2.2.2.2)); ((((((bif cX then some ((l2,l3),(a1.2.1,a1.2.2.1)) else none).bind λ x32=>(V4 N x32).bind λ y31=>(bif (!y31) then (some true) else ((bif cX then some ((l2,l3),(a1.2.2.2.1,a1.2.2.2.2)) else none).bind λ x34=>(V4 N x34).bind λ y33=>(some (!y33))))):Option Bool).bind λ o35=>(bif o35 then (some (10,0)) else ((bif cX then some (l2,l3) else none).bind λ x37=>(T27 N x37).bind λ y36=>let l7:=(an (L3 y36) Ct); bif (hJ&&(l8&&(Cu&&true))) then bif (decide ((0:Int)<=a1.2.1/\a1.2.1 < ((L3 y36).length:Int))&&fits p3 l7) then ((bif cX then some (l2,l3) else none).bind λ x39=>(T27 N x39).bind λ y38=>let tD:=(L3 y38); bif (((d3 l7) == (d3 l7))&&(hJ&&(Cu&&true))) then bif (decide ((0:Int)<=a1.2.2.2.1/\a1.2.2.2.1 < ((tD).length:Int))&&fits p3 (an tD dV)) then (bif ((d3 l7) != (d3 (an tD dV))) then (some (17,0)) else (bif (!y29.2) then (some (29,0)) else bif (decide ((0:Int)<=a1.2.2.2.1/\a1.2.2.2.1 < ((l4).length:Int))&&fits oW (an l4 dV)) then bif (decide ((0:Int)<=a1.2.2.2.2/\a1.2.2.2.2 < ((l9).length:Int))&&fits p3 BW) then bif (decide ((0:Int)<=a1.2.1/\a1.2.1 < ((l4).length:Int))&&fits oW (an l4 Ct)) then bif (decide ((0:Int)<=a1.2.2.1/\a1.2.2.1 < ((cW).length:Int))&&fits p3 Gj) then (some (0,(wrap .i64 ((d3 BW) - (d3 Gj))))) else none else none else none else none)) else none else none) else none else none))):Option ((Int×Int))).bind λ P6=>(((bif (XQ.2 != P6.1) then (some true) else (some (XQ.1 != P6.2))):Option Bool).bind λ Vr=>(bif Vr then some false else (bif y29.2 then (((bif (y8.2 == 0) then ((bif (allFit (fits oW) BX&&(allFit (fits oW) l4&&true)) then some ((map d59 BX),(map d59 l4)) else none).bind λ x43=>(T24 N x43).bind λ y42=>(bif y42 then (bif uf then (some (y16.2 == 7)) else (some false)) else (some false))) else (some false)):Option Bool).bind λ o44=>some o44) else (((bif fa then (bif (y8.2 == 29) then (bif (y16.2 == 0) then ((bif (allFit (fits kU) eu&&true) then some (map d119 eu) else none).bind λ x46=>(T37 N x46).bind λ y45=>bif (l8&&true) then ((bif (l1&&(alS y45&&true)) then some ((l2,l3),(alT y45)) else none).bind λ x48=>(T36 N x48).bind λ y47=>(some (y47 == 0))) else none) else (some false)) else (some false)) else (some false)):Option Bool).bind λ o49=>some o49)))))))))))) else none)))) else none)))))):=by kernel_rfl
def adC (l:List fX) (a b:Int) (c:Bool):map n169 l++[AV.agg [aI a,aI b,AV.bool c]]=map n169 (l++[(a,b,c)]):=by rw [acf]; rfl
section
variable (hN:dC N)
include hN
theorem Xt (l:List fX) (hl:l.length<=1000000):T42 N l=some l:=by
 have key:=aL (rd:=Ff N l) l.length (λ k=>(l.take k,(k:Int))) l (λ k hk=>by
  obtain ⟨a1,a2⟩:=Md l hk;have tl:(l.take k).length=k:=by rw [aca]; omega
  have tl':(l.take (k+1)).length=k+1:=by rw [aca]; omega
  have d:decide ((k+1)*24<=140737488355328)=true:=decide_eq_true (by omega);have es:l.take k++[((l[k]).1,(l[k]).2.1,(l[k]).2.2)]=l.take (k+1):=by
   rw [adm,ab3 hk]; rfl
  obtain ⟨b1,b2⟩:=L5 l hk;simp only [Ff,zB7,ai hk,af hk,aaK,a1,a2,b1,b2,tl,tl',d,L9,adC,es,eR,eS,p9,qc,aN (show k < 9223372036854775807 by omega),zB4,zB12,Ws]) (by
  simp only [Ff,zB7,ay,acN,eR,eS,p9,qc,zB0,zB12,Ws]) N 0 (abk _) (by unfold dC at hN; omega)
 have key:ao (Ff N l) N ([],0)=some l:=key;rw [ahH];simp only [adf,Me,Mf,ln0,acg,key,eR,eS,p9,qc,zB4,zB12,decide_true]
theorem aim (l:List fX) (hl:l.length<=1000000):T37 N l=some l:=by
 have key:=aL (rd:=Fe N l) l.length (λ k=>(l.take k,(k:Int))) l (λ k hk=>by
  obtain ⟨a1,a2⟩:=Md l hk;have tl:(l.take k).length=k:=by rw [aca]; omega
  have tl':(l.take (k+1)).length=k+1:=by rw [aca]; omega
  have d:decide ((k+1)*24<=140737488355328)=true:=decide_eq_true (by omega);have es:l.take k++[((l[k]).1,(l[k]).2.1,(l[k]).2.2)]=l.take (k+1):=by
   rw [adm,ab3 hk]; rfl
  obtain ⟨b1,b2⟩:=L5 l hk;simp only [Fe,zB7,ai hk,af hk,aaK,a1,a2,b1,b2,tl,tl',d,L9,adC,es,eR,eS,p9,qc,aN (show k < 9223372036854775807 by omega),zB4,zB12,Wr]) (by
  simp only [Fe,zB7,ay,acN,eR,eS,p9,qc,zB0,zB12,Wr]) N 0 (abk _) (by unfold dC at hN; omega)
 have key:ao (Fe N l) N ([],0)=some l:=key;rw [ahF];simp only [adf,Me,Mf,ln0,acg,key,eR,eS,p9,qc,zB4,zB12,decide_true]
end
def Xu {t:bh} {V:Int×Int->Int}:∀ {l:List fX} {a b:Int},Jm t V l a b->l≠[]->xW t V (l.getD 0 Zz)=a/\wv t V (l.getD (l.length - 1) Zz)=b/\∀ i,i+1 < l.length->wv t V (l.getD i Zz)=xW t V (l.getD (i+1) Zz)
 |[],_,_,_,h=>absurd rfl h
 |[s],a,b,h,_=>by
  obtain ⟨h1,h2⟩:=h;have h2:wv t V s=b:=h2;exact ⟨h1,h2,λ i hi=>absurd hi (by simp)⟩
 |s::u::l,a,b,h,_=>by
  obtain ⟨h1,h2⟩:=h;obtain ⟨k1,k2,k3⟩:=Xu h2 (by simp);refine ⟨h1,?_,λ i hi=>?_⟩
  .have e:(s::u::l).getD ((s::u::l).length - 1) Zz=(u::l).getD ((u::l).length - 1) Zz:=by
    show (s::u::l).getD ((l.length+1)+1 - 1) Zz=(u::l).getD (l.length+1 - 1) Zz;rfl
   rw [e]; exact k2
  .cases i with
   |zero=>exact k1.symm
   |succ i=>exact k3 i (by simp only [adx] at hi ⊢; omega)
def ain {t:bh} {l:List fX} (h:Jm t (aJ t) l r r):∀ i,i < l.length->Tv t l i:=λ i hi=>by
 have ne:l≠[]:=by intro e; subst e; cases hi
 obtain ⟨h1,h2,h3⟩:=Xu h ne;unfold Tv nxS;by_cases c:i+1 < l.length
 .rw [adO c]; exact h3 i c
 .have e:i=l.length - 1:=by omega
  rw [e,show l.length - 1+1=l.length by omega,Nat.mod_self,h1,h2]
def FJ:∀ (l:List rk) (p:Nat),(∀ x∈l,x.2.length<=8)->(eH l p).length<=8*l.length
 |[],_,_=>adP _
 |x::l,p,h=>by
  show (eP p x.2.length++eH l (p+1)).length<=8*(l.length+1);rw [acu,iE];have h1:=h x acd;have h2:=FJ l (p+1) λ y hy=>h y (ab6 _ hy)
  omega
section
variable {t:bh} (v:Vd t) (h4:t.1.length<=4)
include v h4
theorem Xv {H:HM} {P:PM} (h:HI t (aJ t) (uj t) H P) (k:L4 t H) (he:aU t e=true) (hf:¬ kX t H e):Xd t (ol t P e) 0/\(ol t P e).length<=256:=by
 obtain ⟨⟨r,c1⟩,c2,c3,c4⟩:=h.amn v k he;have cl:=FJ t.1 0 v.sd;have c5:(ol t P e).length<=256:=by
  have:(bM t).length<=8*t.1.length:=cl;omega
 refine ⟨.inr (.inr ⟨c5,c3,.inl ⟨⟨ain c1,?_⟩,rfl⟩⟩),c5⟩;rw [c2];intro z;apply hf;unfold kX;omega
omit h4 in
theorem Mh {H H':HM} {P P':PM} (h:HI t (aJ t) (uj t) H P) (h':HI t (aJ t) (uj t) H' P') (k:L4 t H) (k':L4 t H') (f:∀ e,aU t e=true->kX t H e):(∀ e,aU t e=true->kX t H' e)/\∀ e,aU t e=true->ar H (aJ t e)=ar H' (aJ t e):=
 ⟨h'.fit v k' (G:=ar H) f,λ e he=>h.same v h' k k' (G:=ar H) f he⟩
end
def Mi {t:bh} {F G:Int×Int->Int} (h:∀ e,aU t e=true->F e=G e):aT t F=aT t G:=by
 unfold aT;refine acL λ p hp=>acL λ k hk=>h _ ?_
 have hp:=adj.1 hp;have hk:=adj.1 hk;rw [gK t hp] at hk;exact kM t hp hk
def xg:∀ l:List fX,au (map n169 l) (map n169 l)=true
 |[]=>rfl
 |x::l=>by
  rw [acO,au,xg l];show (au [aI x.1,aI x.2.1,AV.bool x.2.2] [aI x.1,aI x.2.1,AV.bool x.2.2]&&true)=true;simp [au,eC,ur]
def zB13:=And.intro @aaR (And.intro @aa5 (And.intro @nK (And.intro @nL (And.intro @oe (And.intro @og (And.intro @eR (And.intro @eS (And.intro @p9 (And.intro @qc (And.intro @gH (And.intro @gJ (And.intro @xg (And.intro @Cy (And.intro @Cz (And.intro @adf.{0,0} @acg.{0})))))))))))))))
def asa (n:Nat):∃ c:Bool,(bif decide ((n:Int) > 20) then (bif decide ((n:Int)<=256) then some true else some (decide ((n:Int) > 258))) else some (decide ((n:Int) > 258)))=some c/\(c=false->n<=258):=by
 refine ⟨bif decide ((n:Int) > 20) then (bif decide ((n:Int)<=256) then true else decide ((n:Int) > 258)) else decide ((n:Int) > 258),?_,λ h=>?_⟩
 .cases decide ((n:Int) > 20) <;> cases decide ((n:Int)<=256) <;> rfl
 .rcases Nat.lt_or_ge 258 n with g|g
  .have e1:decide ((n:Int) > 20)=true:=decide_eq_true (by omega);have e2:decide ((n:Int)<=256)=false:=decide_eq_false (by omega);have e3:decide ((n:Int) > 258)=true:=decide_eq_true (by omega);rw [e1,e2,e3] at h;cases h
  .exact g
section
variable (hN:dC N)
include hN
omit hN in
theorem abZ {t:bh} (h:T9 N (t,4)=some true):t.1.length<=4\/16 < t.1.length:=by
 rw [adg] at h;by_cases c:t.1.length<=4
 .exact .inl c
 .by_cases d:t.1.length<=16
  .have d1:decide ((t.1.length:Int) > 4)=true:=decide_eq_true (by omega);have d2:decide ((t.1.length:Int)<=16)=true:=decide_eq_true (by omega);simp only [aag,d1,d2,cond_true,aad] at h;cases h
  .exact .inr (by omega)
end
section
variable (hN:dC N)
include hN
theorem aio {t:bh} (he:fS t≠0) (s9:T9 N ((t.1,t.2),4)=some true) (ow:XR N (t.1,t.2)=some t) (w:List fX) (f1 f2 g1 g2:Int) (hw:w.length<=258)
  (o4:(bif decide ((w.length:Int) > 20) then (bif decide ((w.length:Int)<=256) then some true else some (decide ((w.length:Int) > 258))) else some (decide ((w.length:Int) > 258)))=some false) :
  T6 N ((t.1,t.2),(w,f1,f2,g1,g2))=some true:=by
 have k0:T8 N ()=some true:=rfl;obtain ⟨q34,q35⟩:=abS hN he;have q34:OF N (t.1,t.2)=_:=q34;have q35:OH N (t.1,t.2)=_:=q35;have HL:Bd N ((t.1,t.2),(f1,f2),(g1,g2))=some (0,fS t):=abT hN he (f1,f2) (g1,g2);have XZ:=Xt hN w (by omega);have Tw:T38 N ((t.1,t.2),w)=some (fS t):=abP hN he w;have X0:T14 N (t.1,t.2)=some (fS t):=WC hN t;have hb:(fS t != 0)=true:=by simpa using he
 have z0:((0:Int) == 0)=true:=rfl;have z1:(((0:Nat):Int) == 0)=true:=rfl;rw [QQ];simp only [k0,zB0,aa5,zB18,zB6,eR,eS,p9,qc,xg,s9,aag,o4,ow,q34,HL,q35,XZ,Tw,X0,hb,z0,z1,adf,acg]
theorem aip {t:bh} (v:Vd t) (s9:T9 N ((t.1,t.2),4)=some true) (ow:XR N (t.1,t.2)=some t) (w:List fX) (f1 f2 g1 g2:Int) (hw:w.length<=258)
  (o4:(bif decide ((w.length:Int) > 20) then (bif decide ((w.length:Int)<=256) then some true else some (decide ((w.length:Int) > 258))) else some (decide ((w.length:Int) > 258)))=some false) :
  T6 N ((t.1,t.2),(w,f1,f2,g1,g2))=some true:=by
 have k0:T8 N ()=some true:=rfl;have le:=v.le;have h4:t.1.length<=4:=(abZ s9).resolve_right (by show ¬ (16 < t.1.length); omega);have X0:T14 N (t.1,t.2)=some 0:=by
  have:=WC hN t;rw [v.err] at this;exact this
 have z:((0:Int) != 0)=false:=rfl;have z0:((0:Int) == 0)=true:=rfl;have z1:(((0:Nat):Int) == 0)=true:=rfl;have XZ:=Xt hN w (by omega);obtain ⟨x,Tw,c38⟩:=abQ hN v w;obtain ⟨x',X1,c36⟩:=QJ hN v w;have ex:x=x':=L7 c38 c36;subst ex;have Tw:T38 N ((t.1,t.2),w)=some x:=Tw;have X1:T36 N ((t.1,t.2),w)=some x:=X1;have nx:(x != x)=false:=by simp
 have q27:T27 N (t.1,t.2)=some (av t):=QE hN v;have qf:V4 N ((t.1,t.2),(f1,f2))=some (aU t (f1,f2)):=zV N t (f1,f2);have qg:V4 N ((t.1,t.2),(g1,g2))=some (aU t (g1,g2)):=zV N t (g1,g2);have n10:((10:Int) != 10)=false:=rfl;have n17:((17:Int) != 17)=false:=rfl;have n29:((29:Int) != 29)=false:=rfl;obtain ⟨H,P,h1,h2,h3⟩:=aii hN v;obtain ⟨H',P',j1,j2,j3⟩:=abY hN v;rw [QQ];rcases h3 with ⟨f,a81,QR,S8⟩|⟨e,e1,e2,a81,QR,S8⟩
 .obtain ⟨ff,same⟩:=Mh v h1 j1 h2 j2 f;rcases j3 with ⟨_,S9⟩|⟨⟨e,e1,e2⟩,_⟩
  .have rr:aT t (jB t H)=aT t (jB t H'):=Mi λ e he=>same e he
   rw [rr] at QR;have QR:OF N (t.1,t.2)=_:=QR;have S8:OH N (t.1,t.2)=_:=S8;have S9:Wt N (t.1,t.2)=_:=S9;have rl:∀ r∈aT t (jB t H'),r.length<=1000000:=λ r hr=>by
    obtain ⟨p,hp,rfl⟩:=adn hr;rw [bS] at hp;rw [gZ t _ hp];have:=(v.gd.IY (p:Int) (by omega) (by omega)).2;omega
   have q24:=W8 hN (aT t (jB t H')) (by rw [bS]; omega) rl;cases ef:aU t (f1,f2)
   .rw [ef] at qf;have HL:Bd N ((t.1,t.2),(f1,f2),(g1,g2))=some (0,10):=C6 hN v _ _ (.inl ef);simp only [k0,zB0,zB13,zB6,s9,aag,o4,ow,QR,HL,S8,XZ,Tw,X0,X1,nx,S9,qf,n10,z,z0,z1,q24]
   .cases eg:aU t (g1,g2)
    .rw [ef] at qf;rw [eg] at qg;have HL:Bd N ((t.1,t.2),(f1,f2),(g1,g2))=some (0,10):=C6 hN v _ _ (.inr eg);simp only [k0,zB0,zB13,zB6,s9,aag,o4,ow,QR,HL,S8,XZ,Tw,X0,X1,nx,S9,qf,qg,n10,z,z0,z1,q24]
    .rw [ef] at qf;rw [eg] at qg;obtain ⟨u1,u2⟩:=Mg hN v ef eg;have sf:=same _ ef;have sg:=same _ eg;obtain ⟨p,i,ep,hp,hi⟩:=ni ef;obtain ⟨r,j,er,hr,hj⟩:=ni eg;cases ep;cases er;obtain ⟨x1,x2⟩:=g3 (av t) (k:=p) (by rw [ib]; exact hp);obtain ⟨y1,y2⟩:=g3 (av t) (k:=r) (by rw [ib]; exact hr);have r1:=af (show p < (av t).length by rw [ib]; exact hp);have r2:=af (show r < (av t).length by rw [ib]; exact hr);have c1:FO t ((p:Int),(i:Int))=gI (av t) (p:Int):=rfl;have c2:FO t ((r:Int),(j:Int))=gI (av t) (r:Int):=rfl;rw [c1,c2] at u1 u2;by_cases c:gI (av t) (p:Int)=gI (av t) (r:Int)
     .have b1:(gI (av t) (p:Int) != gI (av t) (r:Int))=false:=by rw [bne_eq_false_iff_eq]; exact c
      have HL:=(u2 c H).1 a81;rw [sf,sg] at HL;have HL:Bd N ((t.1,t.2),((p:Int),(i:Int)),((r:Int),(j:Int)))=_:=HL;obtain ⟨s1,s2⟩:=g59 (aT t (jB t H')) (k:=p) (by rw [bS]; exact hp);obtain ⟨t1,t2⟩:=g59 (aT t (jB t H')) (k:=r) (by rw [bS]; exact hr);have slp:=gK t hp;have slr:=gK t hr;have gp:gL (aT t (jB t H')) (p:Int)=(aT t (jB t H'))[p]'(by rw [bS]; exact hp):=HA _ (by rw [bS]; exact hp);have gr:gL (aT t (jB t H')) (r:Int)=(aT t (jB t H'))[r]'(by rw [bS]; exact hr):=HA _ (by rw [bS]; exact hr);have lp:(gL (aT t (jB t H')) (p:Int)).length=t.1[p].2.length:=by rw [gp,gZ t _ hp,slp]
      have lr:(gL (aT t (jB t H')) (r:Int)).length=t.1[r].2.length:=by rw [gr,gZ t _ hr,slr]
      have vp:gI (gL (aT t (jB t H')) (p:Int)) (i:Int)=ar H' (aJ t ((p:Int),(i:Int))):=by rw [gp]; exact vv t _ hp (by rw [slp]; exact hi)
      have vr:gI (gL (aT t (jB t H')) (r:Int)) (j:Int)=ar H' (aJ t ((r:Int),(j:Int))):=by rw [gr]; exact vv t _ hr (by rw [slr]; exact hj)
      obtain ⟨m1,m2⟩:=g3 (gL (aT t (jB t H')) (p:Int)) (k:=i) (by rw [lp]; exact hi);obtain ⟨k1,k2⟩:=g3 (gL (aT t (jB t H')) (r:Int)) (k:=j) (by rw [lr]; exact hj);rw [vp] at m1;rw [vr] at k1;have i1:=af hp;have i2:=af hr;have i3:=af hi;have i4:=af hj;have nn:∀ a:Int,(a != a)=false:=λ a=>by simp
      simp only [k0,zB0,zB13,zB6,s9,zB11,o4,ow,QR,HL,S8,XZ,Tw,X0,X1,nx,S9,qf,qg,q27,r1,r2,x1,x2,y1,y2,b1,bS,i1,i2,i3,i4,s1,s2,t1,t2,lp,lr,m1,m2,k1,k2,nn,z,z0,z1,q24]
     .have b1:(gI (av t) (p:Int) != gI (av t) (r:Int))=true:=by rw [bne_iff_ne]; exact c
      have HL:Bd N ((t.1,t.2),((p:Int),(i:Int)),((r:Int),(j:Int)))=_:=u1 c;simp only [k0,zB0,zB13,zB6,s9,zB11,o4,ow,QR,HL,S8,XZ,Tw,X0,X1,nx,S9,qf,qg,q27,r1,r2,x1,x2,y1,y2,b1,n17,z,z0,z1,q24]
  .exact absurd (ff e e1) e2
 .rcases j3 with ⟨f',_⟩|⟨_,S9⟩
  .exact absurd ((Mh v j1 h1 j2 h2 f').1 e e1) e2
  .obtain ⟨cc,cl⟩:=Xv v h4 h1 h2 e1 e2;have q37:=aim hN (ol t P e) (by omega);obtain ⟨y,Ta,ase⟩:=QJ hN v (ol t P e);have ey:y=0:=L7 ase cc;subst ey;have Ta:T36 N ((t.1,t.2),ol t P e)=some 0:=Ta;have QR:OF N (t.1,t.2)=_:=QR;have S8:OH N (t.1,t.2)=_:=S8;have S9:Wt N (t.1,t.2)=_:=S9;cases ef:aU t (f1,f2)
   .rw [ef] at qf;have HL:Bd N ((t.1,t.2),(f1,f2),(g1,g2))=some (0,10):=C6 hN v _ _ (.inl ef);simp only [k0,zB0,zB13,zB6,s9,aag,o4,ow,QR,HL,S8,XZ,Tw,X0,X1,nx,S9,qf,n10,q37,Ta,z,z0,z1]
   .cases eg:aU t (g1,g2)
    .rw [ef] at qf;rw [eg] at qg;have HL:Bd N ((t.1,t.2),(f1,f2),(g1,g2))=some (0,10):=C6 hN v _ _ (.inr eg);simp only [k0,zB0,zB13,zB6,s9,aag,o4,ow,QR,HL,S8,XZ,Tw,X0,X1,nx,S9,qf,qg,n10,q37,Ta,z,z0,z1]
    .rw [ef] at qf;rw [eg] at qg;obtain ⟨u1,u2⟩:=Mg hN v ef eg;obtain ⟨p,i,ep,hp,hi⟩:=ni ef;obtain ⟨r,j,er,hr,hj⟩:=ni eg;cases ep;cases er;obtain ⟨x1,x2⟩:=g3 (av t) (k:=p) (by rw [ib]; exact hp);obtain ⟨y1,y2⟩:=g3 (av t) (k:=r) (by rw [ib]; exact hr);have r1:=af (show p < (av t).length by rw [ib]; exact hp);have r2:=af (show r < (av t).length by rw [ib]; exact hr);have c1:FO t ((p:Int),(i:Int))=gI (av t) (p:Int):=rfl;have c2:FO t ((r:Int),(j:Int))=gI (av t) (r:Int):=rfl;rw [c1,c2] at u1 u2;by_cases c:gI (av t) (p:Int)=gI (av t) (r:Int)
     .have b1:(gI (av t) (p:Int) != gI (av t) (r:Int))=false:=by rw [bne_eq_false_iff_eq]; exact c
      have HL:Bd N ((t.1,t.2),((p:Int),(i:Int)),((r:Int),(j:Int)))=_:=(u2 c H).2 P e a81;simp only [k0,zB0,zB13,zB6,s9,zB11,o4,ow,QR,HL,S8,XZ,Tw,X0,X1,nx,S9,qf,qg,q27,r1,r2,x1,x2,y1,y2,b1,n29,q37,Ta,z,z0,z1]
     .have b1:(gI (av t) (p:Int) != gI (av t) (r:Int))=true:=by rw [bne_iff_ne]; exact c
      have HL:Bd N ((t.1,t.2),((p:Int),(i:Int)),((r:Int),(j:Int)))=_:=u1 c;simp only [k0,zB0,zB13,zB6,s9,zB11,o4,ow,QR,HL,S8,XZ,Tw,X0,X1,nx,S9,qf,qg,q27,r1,r2,x1,x2,y1,y2,b1,n17,q37,Ta,z,z0,z1]
theorem ab0 (t:bh) (w:List fX×Int×Int×Int×Int):T6 N (t,w)=some true:=by
 have k0:T8 N ()=some true:=rfl;obtain ⟨b,s1,s2⟩:=WJ hN t 4;have s1:T9 N ((t.1,t.2),4)=some b:=s1;obtain ⟨c,c1,c2⟩:=asa w.1.length;obtain ⟨ws,f1,f2,g1,g2⟩:=w;rw [show T6 N (t,(ws,f1,f2,g1,g2))=T6 N ((t.1,t.2),(ws,f1,f2,g1,g2)) from rfl];cases b with
 |false=>
  rw [QQ];simp only [k0,zB0,aa5,aaR,zB18,aaL,s1]
 |true=>
  cases c with
  |true=>
   rw [QQ];simp only [k0,zB0,aa5,zB18,aaL,s1,aag,c1]
  |false=>
   obtain ⟨b1,b2,b3⟩:=s2 rfl;have ow:=aa9 hN t (by omega) (λ x hx=>by have:=b3 x hx; omega) (by omega);have ow:XR N (t.1,t.2)=some t:=ow;by_cases he:fS t=0
   .exact aip hN (amj he) s1 ow ws f1 f2 g1 g2 (c2 rfl) c1
   .exact aio hN he s1 ow ws f1 f2 g1 g2 (c2 rfl) c1
end
end
end Go.Proofs.YtegoimldbgdeiaaGreat
