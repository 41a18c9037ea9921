/- Plain laws: the rows of a net. -/
import Derived.Test.YtldcljfjjoidhaaGreatDoorSeamKC
import Derived.Test.YtldcljfjjoidhaaGreatDoorBraY
set_option linter.all false
open Bool renaming and_self→aau, and_true→aaO
open Int renaming toNat_natCast→aaB
open List renaming length_map→aao, getElem_of_mem→aaY, getElem_mem→abi, length_drop→abj, length_singleton→abn, pairwise_iff_getElem→abo, length_take→abp, mem_singleton→abq, mem_append→abr, length_append→abt, getElem_drop→abu, mem_filter→abv, map_append→abx, getElem_take→aby, getElem?_eq_getElem→abz, takeWhile_sublist→abA, filter_eq_nil_iff→abB, mem_range→abC, take_append_drop→abD, range→abE, mem_map→abF
open Nat renaming zero_add→abw, beq_refl→abH
open Option renaming bind_some→aad
namespace Go.Proofs.YtldcljfjjoidhaaGreatDoor
open Go Go.Am Go.Sort
open List (map)
open Int (toNat)
open Go.IntKind (wrap)
open Go.Am.aO (fits)
set_option maxRecDepth 100000
theorem sa {V X:Type} {rd:V→Option (V ⊕ X)} (P:V→Prop) (μ:V→Nat) (Q:X→Prop)
  (h:∀ v,P v→(∃ v',rd v=some (.inl v')∧P v'∧μ v' < μ v)∨∃ x,rd v=some (.inr x)∧Q x):∀ n v,P v→μ v < n→∃ x,az rd n v=some x∧Q x
 |0,_,_,hm=>by omega
 |n+1,v,hP,hm=>by
  rw [aX];rcases h v hP with ⟨v',e,hP',hl⟩|⟨x,e,hQ⟩
  ·rw [e];exact sa P μ Q h n v' hP' (by omega)
  ·rw [e];exact ⟨x,rfl,hQ⟩
theorem dp {l:List aF} (h:dC l=0):l.length≤4096∧(∀ b∈l,gL b=0)∧xx (ltOf gj) l:=by
 unfold dC at h;by_cases hl:l.length > 4096
 ·rw [if_pos hl] at h; simp at h
 ·rw [if_neg hl] at h;have hz:∀ k,k < l.length→ED l k=0:=fun k hk=>dz.1 h _ (abF.2 ⟨k,abC.2 hk,rfl⟩)
  have hb:∀ k (hk:k < l.length),gL l[k]=0:=fun k hk=>by
   have:=hz k hk;unfold ED at this;have e1:l.getD k (0,0,0)=l[k]:=by simp [hk]
   rw [e1] at this;by_cases hc:gL l[k]=0
   ·exact hc
   ·rw [if_pos hc] at this; exact absurd this hc
  have hs:∀ k (hk:k+1 < l.length),ltOf gj l[k] l[k+1]=true:=fun k hk=>by
   have:=hz (k+1) hk;unfold ED at this;have e1:l.getD (k+1) (0,0,0)=l[k+1]:=by simp [hk]
   have e2:l.getD (k+1 - 1) (0,0,0)=l[k]:=by simp [show k < l.length by omega]
   rw [e1,e2,if_neg (by simp [hb (k+1) hk])] at this;rw [uR];cases hc:less l[k] l[k+1] with
   |true=>rfl
   |false=>rw [if_pos ⟨by omega,hc⟩] at this; simp at this
  refine ⟨by omega,fun b ka=>by obtain ⟨k,hk,rfl⟩:=aaY ka; exact hb k hk,?_⟩;refine abo.2 fun i j hi hj Gy=>?_
  obtain ⟨d,rfl⟩:∃ d,j=i+1+d:=⟨j - i - 1,by omega⟩;clear Gy
  induction d with
  |zero=>exact hs i hj
  |succ d ih=>exact oH.trans _ _ _ (ih (by omega)) (hs (i+1+d) hj)
theorem GK {l:List aF} (h:xx (ltOf gj) l) {i j:Nat} (hi:i < l.length) (hj:j < l.length) (Gy:i≤j):l[i].2.1≤l[j].2.1:=by
 by_cases e:i=j
 ·subst e; exact Int.le_refl _
 ·have:=abo.1 h i j hi hj (by omega);rw [vV] at this;have:=of_decide_eq_true this;omega
def jF (b:aF):Int:=if b.1+b.2.2 < b.1 then b.1+b.2.2 else b.1
theorem VO {b:aF} (h:gL b=0):-100001≤jF b∧jF b≤100000:=by
 obtain ⟨c1,c2,c3⟩:=lJ h;have:=eO c1;unfold fO at this;simp only at this;unfold jF;split <;> omega
theorem VP (N:Nat) {b:aF} (h:gL b=0):T81 N b=some (jF b):=by
 obtain ⟨c1,c2,c3⟩:=lJ h;have:=eO c1;unfold fO at this;simp only at this;rw [aaM,fT (by omega)];rfl
theorem Qn {a b:aF} (ha:gL a=0) (hb:gL b=0) (hy:a.2.1=b.2.1) (h:jF a=jF b):a=b:=by
 obtain ⟨a1,a2,a3⟩:=lJ ha;obtain ⟨b1,b2,b3⟩:=lJ hb;have ea:=((jC _).1 a1).2;have eb:=((jC _).1 b1).2;unfold fO at ea eb;simp only at ea eb;unfold jF at h;obtain ⟨x,y,s⟩:=a;obtain ⟨x',y',s'⟩:=b;simp only at *;subst hy;rcases a2 with rfl|rfl <;> rcases b2 with rfl|rfl
 ·rw [if_pos (by omega),if_pos (by omega)] at h;have:x=x':=by omega
  subst this; rfl
 ·rw [if_pos (by omega),if_neg (by omega)] at h;omega
 ·rw [if_neg (by omega),if_pos (by omega)] at h;omega
 ·rw [if_neg (by omega),if_neg (by omega)] at h;subst h; rfl
def bX (l:List aF) (y:Int):List Int:=(l.filter fun b=>b.2.1 == y).map jF
theorem xB {l:List aF} (h:dC l=0) (y:Int):(bX l y).Nodup:=by
 obtain ⟨h1,h2,h3⟩:=dp h;have hn:l.Nodup:=km oH h3;unfold bX List.Nodup;rw [List.pairwise_map];refine List.Pairwise.imp_of_mem ?_ (hn.filter _);intro a b ha hb Mz e;have ha:=abv.1 ha;have hb:=abv.1 hb;have ya:a.2.1=y:=by simpa using ha.2
 have yb:b.2.1=y:=by simpa using hb.2
 exact Mz (Qn (h2 a ha.1) (h2 b hb.1) (by omega) e)
theorem Qo {l:List aF} (h:dC l=0) {y x:Int} (hx:x∈bX l y):-100001≤x∧x≤100000:=by
 obtain ⟨b,hb,rfl⟩:=abF.1 hx;exact VO ((dp h).2.1 b (abv.1 hb).1)
def flS (s:Int × Int × Int) (x:Int):Int × Int × Int:=(s.1+1,(if x < (if s.1=0 then x else s.2.1) then x else (if s.1=0 then x else s.2.1)),(if x+1 > (if s.1=0 then x+1 else s.2.2) then x+1 else (if s.1=0 then x+1 else s.2.2)))
def qg (c:List Int):Int × Int × Int:=c.foldl flS (0,0,0)
theorem Qp (c:List Int) (x:Int):qg (c++[x])=flS (qg c) x:=by unfold qg; rw [List.foldl_append]; rfl
theorem uT (c:List Int):(qg c).1=c.length∧(c≠[]→(qg c).2.1∈c∧(∀ x∈c,(qg c).2.1≤x)∧(qg c).2.2 - 1∈c∧∀ x∈c,x+1≤(qg c).2.2):=by
 have key:∀ k,k≤c.length→(qg (c.take k)).1=k∧(k≠0→(qg (c.take k)).2.1∈c.take k∧(∀ x∈c.take k,(qg (c.take k)).2.1≤x)∧(qg (c.take k)).2.2 - 1∈c.take k∧∀ x∈c.take k,x+1≤(qg (c.take k)).2.2):=by
  intro k
  induction k with
  |zero=>intro _; exact ⟨rfl,fun h=>absurd rfl h⟩
  |succ k ih=>
   intro hk;have jf:k < c.length:=by omega
   obtain ⟨i1,i2⟩:=ih (by omega);have e:c.take (k+1)=c.take k++[c[k]]:=by rw [List.take_add_one,abz jf]; rfl
   rw [e,Qp];by_cases h0:k=0
   ·subst h0;refine ⟨by unfold flS; simp only [i1]; rfl,fun _=>?_⟩;have e0:(qg ([]:List Int)).1=0:=rfl;unfold flS;simp only [List.take_zero,List.nil_append,e0,if_true,Int.lt_irrefl,if_false,gt_iff_lt,abq];exact ⟨trivial,fun x hx=>by omega,by omega,fun x hx=>by omega⟩
   ·obtain ⟨j1,j2,j3,j4⟩:=i2 h0;have hz:¬ (qg (c.take k)).1=0:=by rw [i1]; omega
    refine ⟨by unfold flS; simp only [i1]; omega,fun _=>?_⟩;generalize qg (c.take k)=f at *;unfold flS;simp only [hz,if_false];refine ⟨?_,?_,?_,?_⟩
    ·split
     ·exact abr.2 (.inr (abq.2 rfl))
     ·exact abr.2 (.inl j1)
    ·intro x hx;rcases abr.1 hx with hx|hx
     ·have:=j2 x hx;split <;> omega
     ·rw [abq] at hx;subst hx;split <;> omega
    ·split
     ·rw [Int.add_sub_cancel]; exact abr.2 (.inr (abq.2 rfl))
     ·exact abr.2 (.inl j3)
    ·intro x hx;rcases abr.1 hx with hx|hx
     ·have:=j4 x hx;split <;> omega
     ·rw [abq] at hx;subst hx;split <;> omega
 have:=key c.length (Nat.le_refl _);rw [List.take_length] at this;refine ⟨this.1,fun hc=>this.2 ?_⟩;intro h0;exact hc (List.length_eq_zero_iff.1 h0)
def okC (c:List Int):Prop:=c≠[]∧(qg c).2.2 - (qg c).2.1=c.length
instance (c:List Int):Decidable (okC c):=inferInstanceAs (Decidable (_∧_))
theorem Mb:∀ a b c:Int,(fun x y:Int=>decide (x≤y)) a b=true→(fun x y:Int=>decide (x≤y)) b c=true→(fun x y:Int=>decide (x≤y)) a c=true:=fun a b c h1 h2=>by
 simp only [decide_eq_true_eq] at *;omega
theorem Mc:∀ a b:Int,((fun x y:Int=>decide (x≤y)) a b || (fun x y:Int=>decide (x≤y)) b a)=true:=fun a b=>by
 simp only [Bool.or_eq_true,decide_eq_true_eq];omega
def fS (c:List Int):List Int:=c.mergeSort fun x y=>decide (x≤y)
theorem uU (c:List Int):(fS c).length=c.length:=List.length_mergeSort c
theorem rv (c:List Int) (x:Int):x∈fS c↔x∈c:=List.mem_mergeSort
theorem VQ {c:List Int} (hn:c.Nodup) {i j:Nat} (hj:j < (fS c).length) (Gy:i < j):(fS c)[i] < (fS c)[j]:=by
 have h1:=abo.1 (List.pairwise_mergeSort Mb Mc c) i j (by unfold fS at hj; omega) hj Gy;have h2:(fS c).Nodup:=(List.mergeSort_perm c _).nodup_iff.2 hn;have h3:=abo.1 h2 i j (by omega) hj Gy;have h1:=of_decide_eq_true h1;unfold fS at *;omega
theorem oM {c:List Int} (hn:c.Nodup):∀ (d i:Nat) (h:i+d < (fS c).length),(fS c)[i]+d≤(fS c)[i+d]
 |0,i,h=>by simp
 |d+1,i,h=>by
  have h1:=oM hn d i (by omega);have h2:=VQ hn (i:=i+d) (j:=i+(d+1)) h (by omega);omega
theorem Dc {c:List Int} (hn:c.Nodup) (h0:0 < (fS c).length):(fS c)[0]=(qg c).2.1∧(fS c)[(fS c).length - 1]+1=(qg c).2.2:=by
 have hc:c≠[]:=fun h=>by subst h; simp [fS] at h0
 obtain ⟨j1,j2,j3,j4⟩:=(uT c).2 hc;constructor
 ·have a1:=j2 _ ((rv c _).1 (abi h0));obtain ⟨i,hi,e⟩:=aaY ((rv c _).2 j1);have:=oM hn i 0 (by omega);simp only [abw] at this;omega
 ·have hl:(fS c).length - 1 < (fS c).length:=by omega
  have a1:=j4 _ ((rv c _).1 (abi hl));obtain ⟨i,hi,e⟩:=aaY ((rv c _).2 j3);have:=oM hn ((fS c).length - 1 - i) i (by omega);have e2:i+((fS c).length - 1 - i)=(fS c).length - 1:=by omega
  simp only [e2] at this;omega
theorem VR {c:List Int} (hn:c.Nodup) (h0:0 < (fS c).length):okC c↔∀ k (hk:k < (fS c).length),(fS c)[k]=(fS c)[0]+k:=by
 have hc:c≠[]:=fun h=>by subst h; simp [fS] at h0
 obtain ⟨e1,e2⟩:=Dc hn h0;have hlen:=uU c;have hl:(fS c).length - 1 < (fS c).length:=by omega
 constructor
 ·rintro ⟨-,h⟩ k hk;have a1:=oM hn k 0 (by omega);have a2:=oM hn ((fS c).length - 1 - k) k (by omega);have e3:k+((fS c).length - 1 - k)=(fS c).length - 1:=by omega
  simp only [e3,abw] at a1 a2;omega
 ·intro h;refine ⟨hc,?_⟩;have:=h _ hl;omega
abbrev bE:=Int × Int × Int
def fV (l:List aF):Int:=(l.getD 0 (0,0,0)).2.1
def EF (l:List aF):Int:=(l.getD (l.length - 1) (0,0,0)).2.1
def pR (l:List aF):Nat:=(EF l - fV l+1).toNat
def yi (l:List aF) (j:Nat):bE:=(fV l+j,(qg (bX l (fV l+j))).2.1,(qg (bX l (fV l+j))).2.2)
def jD (l:List aF):List bE:=(abE (pR l)).map (yi l)
def Qq (l:List aF):Prop:=∀ j,j < pR l→okC (bX l (fV l+j))
instance (l:List aF):Decidable (Qq l):=inferInstanceAs (Decidable (∀ j,j < pR l→_))
def Dd (l:List aF):List bE × Int:=if l=[] then ([],12) else if Qq l then (jD l,0) else ([],17)
theorem De {l:List aF} (h:dC l=0) {j:Nat} (hj:j < l.length):fV l≤l[j].2.1∧l[j].2.1≤EF l:=by
 obtain ⟨h1,h2,h3⟩:=dp h;have e0:l.getD 0 (0,0,0)=l[0]:=by simp [show 0 < l.length by omega]
 have e1:l.getD (l.length - 1) (0,0,0)=l[l.length - 1]:=by simp [show l.length - 1 < l.length by omega]
 unfold fV EF;rw [e0,e1];exact ⟨GK h3 (by omega) hj (by omega),GK h3 hj (by omega) (by omega)⟩
theorem Qr {l:List aF} (h:dC l=0) (h0:0 < l.length):-100000≤fV l∧fV l≤EF l∧EF l≤100000:=by
 obtain ⟨h1,h2,h3⟩:=dp h;have b:∀ j (hj:j < l.length),-100000≤l[j].2.1∧l[j].2.1≤100000:=fun j hj=>by
  have:=eO (lJ (h2 _ (abi hj))).1;unfold fO at this;simp only at this;omega
 have i0:=De h h0;have e0:l.getD 0 (0,0,0)=l[0]:=by simp [h0]
 have e1:l.getD (l.length - 1) (0,0,0)=l[l.length - 1]:=by simp [show l.length - 1 < l.length by omega]
 have b0:=b 0 h0;have b1:=b (l.length - 1) (by omega);have ef:fV l=l[0].2.1:=by unfold fV; rw [e0]
 have el:EF l=l[l.length - 1].2.1:=by unfold EF; rw [e1]
 omega
theorem GM (l:List bE) {k:Nat} (hk:k < l.length):fA (ae (map fD l) k)=l[k]∧fits nT (ae (map fD l) k)=true:=by
 rw [gd fD l k hk,aex,aew]; exact ⟨rfl,rfl⟩
theorem VS (l:List bE) (x y z:Int):map fD l++[AV.agg [AV.int .i64 x,AV.int .i64 y,AV.int .i64 z]]=map fD (l++[(x,y,z)]):=by rw [abx]; rfl
section
variable {N:Nat} (hN:fC N)
include hN
end
end Go.Proofs.YtldcljfjjoidhaaGreatDoor
namespace Go.Proofs.YtldcljfjjoidhaaGreatDoor
open Go Go.Am Go.Sort
open List (map)
open Int (toNat)
open Go.IntKind (wrap)
open Go.Am.aO (fits)
set_option maxRecDepth 100000
theorem aaV (l:List Int) (x:Int):map lS l++[AV.int .i64 x]=map lS (l++[x]):=by rw [abx]; rfl
theorem aaW (l:List Int) {k:Nat} (hk:k < l.length):gD (ae (map lS l) k)=l[k]∧fits p3 (ae (map lS l) k)=true:=by
 rw [gd lS l k hk]; exact ⟨rfl,rfl⟩
theorem Df (c:List Int):sP (map lS c)=map lS (fS c):=by
 unfold sP fS;have e:(map lS c).map Be=c:=by
  rw [List.map_map]
  conv=>rhs; rw [← List.map_id c]
  exact List.map_congr_left fun _ _=>rfl
 rw [e];rfl
theorem Dg (c:List Int):v7 (map lS c)=true:=by
 induction c with
 |nil=>rfl
 |cons x c ih=>exact ih
theorem B3 (p:aF→Bool) (l:List aF):(∀ k (hk:k < (l.takeWhile p).length) (h2:k < l.length),p l[k]=true)∧∀ h:(l.takeWhile p).length < l.length,p l[(l.takeWhile p).length]=false:=by
 obtain ⟨h1,h2⟩:=jb p l;refine ⟨fun k hk h3=>h1 _ ?_,h2⟩;have hle:(l.takeWhile p).length≤l.length:=(abA p).length_le;have:k < (l.take (l.takeWhile p).length).length:=by rw [abp]; omega
 have e:(l.take (l.takeWhile p).length)[k]=l[k]:=aby;rw [← e];exact abi this
def aaX (l:List aF) (rows:List bE) (i:Nat):Prop:=
 i≤l.length∧rows=(abE rows.length).map (yi l)∧(∀ j,j < rows.length→okC (bX l (fV l+j)))∧∀ j (hj:j < l.length),j < i↔l[j].2.1 < fV l+rows.length
def wh (l:List aF) (i:Nat) (y:Int):Nat:=i+((l.drop i).takeWhile fun b=>b.2.1 == y).length
theorem wj {l:List aF} (h:dC l=0) {i:Nat} (hi:i < l.length) (hb:∀ j (hj:j < l.length),j < i→l[j].2.1 < l[i].2.1) :
  i < wh l i l[i].2.1∧wh l i l[i].2.1≤l.length∧(∀ j (hj:j < l.length),i≤j→j < wh l i l[i].2.1→l[j].2.1=l[i].2.1)∧(∀ j (hj:j < l.length),wh l i l[i].2.1≤j→l[i].2.1 < l[j].2.1):=by
 obtain ⟨h1,h2,h3⟩:=dp h;have hlen:(l.drop i).length=l.length - i:=abj;have hle:((l.drop i).takeWhile fun b=>b.2.1 == l[i].2.1).length≤(l.drop i).length:=(abA _).length_le;obtain ⟨t1,t2⟩:=B3 (fun b=>b.2.1 == l[i].2.1) (l.drop i);have nH:0 < ((l.drop i).takeWhile fun b=>b.2.1 == l[i].2.1).length:=by
  rw [List.drop_eq_getElem_cons hi,List.takeWhile_cons];simp
 unfold wh;generalize ((l.drop i).takeWhile fun b=>b.2.1 == l[i].2.1).length=t at *;refine ⟨by omega,by omega,fun j hj Gy hjt=>?_,fun j hj hjt=>?_⟩
 ·have:=t1 (j - i) (by omega) (by omega);rw [abu] at this;have e:i+(j - i)=j:=by omega
  simp only [e] at this;simpa using this
 ·have ht:t < (l.drop i).length:=by omega
  have:=t2 ht;rw [abu] at this;have a1:=GK h3 (i:=i) (j:=i+t) hi (by omega) (by omega);have a2:=GK h3 (i:=i+t) (j:=j) (by omega) hj hjt;have cK:l[i+t].2.1≠l[i].2.1:=by simpa using this
  omega
theorem Dh {l:List aF} (h:dC l=0) {i:Nat} (hi:i < l.length) (hb:∀ j (hj:j < l.length),j < i→l[j].2.1 < l[i].2.1) :
  bX l l[i].2.1=((l.drop i).take (wh l i l[i].2.1 - i)).map jF:=by
 obtain ⟨e1,e2,e3,e4⟩:=wj h hi hb;unfold bX;congr 1;generalize wh l i l[i].2.1=e at *;have Cs:l=l.take i++((l.drop i).take (e - i)++l.drop e):=by
  have:l.drop e=(l.drop i).drop (e - i):=by rw [List.drop_drop]; congr 1; omega
  rw [this,abD,abD]
 generalize l[i].2.1=y at *;have f1:(l.take i).filter (fun b=>b.2.1 == y)=[]:=by
  rw [abB];intro b ka;obtain ⟨j,hj,rfl⟩:=aaY ka;rw [abp] at hj;rw [aby];have:=hb j (by omega) (by omega);simp;omega
 have f2:((l.drop i).take (e - i)).filter (fun b=>b.2.1 == y)=(l.drop i).take (e - i):=by
  rw [List.filter_eq_self];intro b ka;obtain ⟨j,hj,rfl⟩:=aaY ka;rw [abp,abj] at hj;rw [aby,abu];have:=e3 (i+j) (by omega) (by omega) (by omega);simpa using this
 have f3:(l.drop e).filter (fun b=>b.2.1 == y)=[]:=by
  rw [abB];intro b ka;obtain ⟨j,hj,rfl⟩:=aaY ka;rw [abj] at hj;rw [abu];have:=e4 (e+j) (by omega) (by omega);simp;omega
 conv=>lhs; rw [Cs]
 rw [List.filter_append,List.filter_append,f1,f2,f3,List.append_nil,List.nil_append]
theorem GN {l:List aF} (h:dC l=0) {y:Int} (hc:bX l y≠[]):∃ j,∃ hj:j < l.length,l[j].2.1=y:=by
 obtain ⟨x,hx⟩:=List.exists_mem_of_ne_nil _ hc;obtain ⟨b,hb,-⟩:=abF.1 hx;obtain ⟨hb,hy⟩:=abv.1 hb;obtain ⟨j,hj,rfl⟩:=aaY hb;exact ⟨j,hj,by simpa using hy⟩
section
variable {N:Nat} (hN:fC N)
include hN
theorem Qs (l:List aF) (h:dC l=0) (rows:List bE) (e:Int) {i:Nat} (hi:i < l.length) (hb:∀ j (hj:j < l.length),j < i→l[j].2.1 < l[i].2.1) :
  az (mK N l (rows,e,(i:Int))) N (rows,(i:Int),(),[])=some (rows,(wh l i l[i].2.1:Int),(),bX l l[i].2.1):=by
 obtain ⟨h1,h2,h3⟩:=dp h;obtain ⟨e1,e2,e3,e4⟩:=wj h hi hb;rw [Dh h hi hb];obtain ⟨a1,a2⟩:=gl l hi;generalize hE:wh l i l[i].2.1=E at *;have key:=cU (rd:=mK N l (rows,e,(i:Int))) (E - i) (fun k=>(rows,((i+k:Nat):Int),(),((l.drop i).take k).map jF)) (rows,(E:Int),(),((l.drop i).take (E - i)).map jF) (fun k hk=>by
  have hk2:i+k < l.length:=by omega
  obtain ⟨b1,b2⟩:=gl l hk2;have hy:=e3 (i+k) hk2 (by omega) (by omega);have hyb:(l[i+k].2.1 == l[i].2.1)=true:=by rw [hy]; exact beq_self_eq_true _
  have q:T81 N (l[i+k].1,l[i+k].2.1,l[i+k].2.2)=some (jF l[i+k]):=VP N (h2 _ (abi hk2));have hs:(((l.drop i).take k).map jF).length=k:=by rw [aao,abp,abj]; omega
  have es:((l.drop i).take (k+1)).map jF=((l.drop i).take k).map jF++[jF l[i+k]]:=by
   rw [List.take_add_one,abz (by rw [abj]; omega),abx,abu];rfl
  have WC:decide ((k+1) * 8≤140737488355328)=true:=decide_eq_true (by omega);have ew:wrap .i64 (((i+k:Nat):Int)+1)=((i+(k+1):Nat):Int):=by rw [fT (by omega)]; omega
  rw [es];generalize ((l.drop i).take k).map jF=c at *;have sn:=aaV c (jF l[i+k]);simp only [mK,aao,a7 hk2,ay hk2,ay hi,aaB,a1,a2,b1,b2,aau,aaO,cond_true,hyb,nA,nB,AI,By,abH,decide_true,aad,q,hs,WC,sn,abt,abn,ew]) (by
  have hs:(((l.drop i).take (E - i)).map jF).length=E - i:=by rw [aao,abp,abj]; omega
  have hc:((bif decide (((i+(E - i):Nat):Int) < (l.length:Int)) then bif (decide ((0:Int)≤((i+(E - i):Nat):Int)∧((i+(E - i):Nat):Int) < (l.length:Int))&&fits aA (ae (map cC l) (i+(E - i)))) then some (rows,(aB (ae (map cC l) (i+(E - i)))).2.1 == l[i].2.1,((l.drop i).take (E - i)).map jF) else none else some (rows,false,((l.drop i).take (E - i)).map jF)):Option (List bE × Bool × List Int))=some (rows,false,((l.drop i).take (E - i)).map jF):=by
   have eE:i+(E - i)=E:=by omega
   rw [eE];by_cases hl:E < l.length
   ·obtain ⟨b1,b2⟩:=gl l hl;have hy:=e4 E hl (Nat.le_refl _);have hyb:(l[E].2.1 == l[i].2.1)=false:=beq_false_of_ne (by omega);rw [a7 hl,ay hl,b1,b2,hyb];rfl
   ·rw [decide_eq_false (by omega)];rfl
  have eE:((i+(E - i):Nat):Int)=(E:Int):=by omega
  generalize ((l.drop i).take (E - i)).map jF=c at *;simp only [mK,aao,ay hi,aaB,a1,a2,aau,aaO,cond_true,nA,nB,AI,By,abH,decide_true,aad] at hc ⊢;rw [hc];simp only [aad,cond_false,nA,nB,AI,By,abH,decide_true,aau,cond_true,eE]) N 0 (Nat.zero_le _) (by unfold fC at hN; omega)
 simpa using key
theorem VT (o:List bE × Int × Unit × List Int) (rows:List bE) (b:Int) (s:List Int) (hs:s.length≤4096) (ho:o.2.2.2.length=s.length) (h0:0 < s.length) (Cr:∀ x∈s,-100001≤x∧x≤100000) :
  az (ic N o) N (rows,b,0,s)=some (if ∀ k (hk:k < s.length),s[k]=s[0]+k then .inr (rows,b,s) else .inl (rows,17,s)):=by
 obtain ⟨a1,a2⟩:=aaW s h0;have a1':gD (ae (map lS s) (toNat 0))=s[0]:=a1;have a2':fits p3 (ae (map lS s) (toNat 0))=true:=a2;have i0:decide ((0:Int)≤0∧0 < (s.length:Int))=true:=ay h0;have h0':decide (toNat 0 < s.length)=true:=decide_eq_true h0;have key:=rr (rd:=ic N o) s.length (fun k=>(rows,b,(k:Int),s)) (fun k=>!decide (s.getD k 0=s.getD 0 0+k)) (fun _=>Sum.inl (rows,17,s)) (Sum.inr (rows,b,s)) (fun k hk=>by
  obtain ⟨b1,b2⟩:=aaW s hk;have g0:s.getD 0 0=s[0]:=by simp [h0]
  have g1:s.getD k 0=s[k]:=by simp [hk]
  have bd:=Cr _ (abi h0);have w1:wrap .i64 (s[0]+(k:Int))=s[0]+k:=fT (by omega);have jf:decide (k < s.length)=true:=decide_eq_true hk;rw [g0,g1];by_cases hq:s[k]=s[0]+k
  ·have cK:(s[k] != s[0]+(k:Int))=false:=by rw [hq]; exact bne_self_eq_false _
   simp only [ic,aao,ho,a7 hk,ay hk,aaB,abw,b1,b2,jf,h0',i0,a1',a2',decide_true,aau,aaO,cond_true,cond_false,w1,cK,nA,nB,AI,By,aad,bw (show k < 9223372036854775807 by omega)];simp only [hq,decide_true,Bool.not_true,Bool.false_eq_true,if_false]
  ·have cK:(s[k] != s[0]+(k:Int))=true:=bne_iff_ne.2 hq;simp only [ic,aao,ho,a7 hk,ay hk,aaB,abw,b1,b2,jf,h0',i0,a1',a2',decide_true,aau,aaO,cond_true,w1,cK,nA,nB,AI,By,aad];simp only [hq,decide_false,Bool.not_false,if_true]) (by
  simp only [ic,aao,ho,bO,cond_false,nA,nB,AI,By,aau,aaO,decide_true,cond_true,aad]) N (by unfold fC at hN; omega)
 have vT:az (ic N o) N (rows,b,0,s)=_:=key;rw [vT];by_cases hq:∀ k (hk:k < s.length),s[k]=s[0]+k
 ·rw [if_pos hq];have hf:(abE s.length).find? (fun k:Nat=>!decide (s.getD k 0=s.getD 0 0+k))=none:=by
   rw [List.find?_eq_none];intro k hk;have hk:=abC.1 hk;have:=hq k hk;have g0:s.getD 0 0=s[0]:=by simp [h0]
   have g1:s.getD k 0=s[k]:=by simp [hk]
   rw [g0,g1,this];simp
  rw [hf]
 ·rw [if_neg hq];cases hf:(abE s.length).find? (fun k:Nat=>!decide (s.getD k 0=s.getD 0 0+k)) with
  |some j=>rfl
  |none=>
   refine absurd (fun k hk=>?_) hq;have:=List.find?_eq_none.1 hf k (abC.2 hk);have g0:s.getD 0 0=s[0]:=by simp [h0]
   have g1:s.getD k 0=s[k]:=by simp [hk]
   rw [g0,g1] at this;simpa using this
end
end Go.Proofs.YtldcljfjjoidhaaGreatDoor
namespace Go.Proofs.YtldcljfjjoidhaaGreatDoor
open Go Go.Am Go.Sort
open List (map)
open Int (toNat)
open Go.IntKind (wrap)
open Go.Am.aO (fits)
set_option maxRecDepth 100000
def Md (l:List aF) (x:List bE × Int):Prop:=if Qq l then x=(jD l,0) else x.2=17
section
variable {N:Nat} (hN:fC N)
include hN
theorem Qt (l:List aF) (h:dC l=0) (h0:0 < l.length) (rows:List bE) (i:Nat) (hI:aaX l rows i) :
  (∃ v',lK N l (rows,0,(i:Int))=some (.inl v')∧(∃ XE i',v'=(XE,0,((i':Nat):Int))∧aaX l XE i')∧l.length - v'.2.2.toNat < l.length - i)∨∃ x,lK N l (rows,0,(i:Int))=some (.inr x)∧Md l x:=by
 obtain ⟨h1,h2,h3⟩:=dp h;obtain ⟨g1,g2,g3,g4⟩:=hI;have bd:=Qr h h0;have rl:∀ j,j < rows.length→∃ k,∃ hk:k < l.length,l[k].2.1=fV l+j:=fun j hj=>GN h (g3 j hj).1
 have rM:rows.length≤pR l:=by
  rcases Nat.eq_zero_or_pos rows.length with hz|hz
  ·omega
  ·obtain ⟨k,hk,e⟩:=rl (rows.length - 1) (by omega);have:=(De h hk).2;unfold pR;omega
 have rM2:pR l≤200001:=by unfold pR; omega
 by_cases hi:i < l.length
 ·obtain ⟨a1,a2⟩:=gl l hi;have hb:∀ j (hj:j < l.length),j < i→l[j].2.1 < l[i].2.1:=fun j hj VU=>by
   have e1:=(g4 j hj).1 VU;have e2:¬ l[i].2.1 < fV l+rows.length:=fun hc=>by have:=(g4 i hi).2 hc; omega
   omega
  have hy0:fV l+rows.length≤l[i].2.1:=by
   have e2:¬ l[i].2.1 < fV l+rows.length:=fun hc=>by have:=(g4 i hi).2 hc; omega
   omega
  have hiy:=De h hi
  -- the row before
  have aaZ:((bif (decide ((rows.length:Int) > 0)) then bif (decide ((0:Int)≤(wrap .i64 ((rows.length:Int) - 1))∧(wrap .i64 ((rows.length:Int) - 1)) < (rows.length:Int))&&fits nT (ae (map fD rows) (toNat (wrap .i64 ((rows.length:Int) - 1))))) then some (rows,(l[i].2.1 != (wrap .i64 ((fA (ae (map fD rows) (toNat (wrap .i64 ((rows.length:Int) - 1))))).1+1)))) else none else some (rows,false)):Option (List bE × Bool))=some (rows,!decide (l[i].2.1=fV l+rows.length)):=by
   by_cases hr:rows.length=0
   ·have ez:i=0:=by
     rcases Nat.eq_zero_or_pos i with hz|hz
     ·exact hz
     ·have e1:=(g4 0 h0).1 hz;have e2:=(De h h0).1;rw [hr] at e1;omega
    have ey:l[i].2.1=fV l:=by
     subst ez;unfold fV;simp [h0]
    rw [decide_eq_false (by omega),hr];simp [ey]
   ·have hk:rows.length - 1 < rows.length:=by omega
    obtain ⟨c1,c2⟩:=GM rows hk;have wl:wrap .i64 ((rows.length:Int) - 1)=((rows.length - 1:Nat):Int):=by rw [fT (by omega)]; omega
    have er:rows[rows.length - 1].1=fV l+((rows.length - 1:Nat):Int):=by
     have:rows[rows.length - 1]=yi l (rows.length - 1):=by
      have:=List.getElem_of_eq g2 hk;rw [this,List.getElem_map,List.getElem_range]
     rw [this];rfl
    have w2:wrap .i64 (fV l+((rows.length - 1:Nat):Int)+1)=fV l+rows.length:=by rw [fT (by omega)]; omega
    rw [decide_eq_true (by omega),wl,ay hk,aaB,c1,c2,er,w2];by_cases hq:l[i].2.1=fV l+rows.length
    ·rw [hq]; simp
    ·have cK:(l[i].2.1 != fV l+(rows.length:Int))=true:=bne_iff_ne.2 hq;simp [hq,cK]
  by_cases hq:l[i].2.1=fV l+rows.length
  ·-- the next row
   have hqd:(!decide (l[i].2.1=fV l+rows.length))=false:=by rw [decide_eq_true hq]; rfl
   have aeC:=Qs hN l h rows 0 hi hb;obtain ⟨e1,e2,e3,e4⟩:=wj h hi hb;have Rw:=xB h l[i].2.1;have hlen:0 < (fS (bX l l[i].2.1)).length:=by
    rw [uU,Dh h hi hb,aao,abp,abj];omega
   have hle:(fS (bX l l[i].2.1)).length≤4096:=by
    rw [uU];unfold bX;rw [aao];have:=List.length_filter_le (fun b:aF=>b.2.1 == l[i].2.1) l;omega
   have Cr:∀ x∈fS (bX l l[i].2.1),-100001≤x∧x≤100000:=fun x hx=>Qo h ((rv _ _).1 hx)
   have hsl:=uU (bX l l[i].2.1);have VV:=VT hN (rows,(wh l i l[i].2.1:Int),(),bX l l[i].2.1) rows 0 (fS (bX l l[i].2.1)) hle hsl.symm hlen Cr;have aeD:=VR Rw hlen;obtain ⟨s1,s2⟩:=Dc Rw hlen;obtain ⟨fl1,fl2⟩:=uT (bX l l[i].2.1);have z1:decide ((bX l l[i].2.1).length≤140737488355328)=true:=decide_eq_true (by omega);obtain ⟨t1,t2⟩:=aaW _ hlen;have t1':gD (ae (map lS (fS (bX l l[i].2.1))) (toNat 0))=(fS (bX l l[i].2.1))[0]:=t1;have t2':fits p3 (ae (map lS (fS (bX l l[i].2.1))) (toNat 0))=true:=t2;have jN:0 < (bX l l[i].2.1).length:=by omega
   have i0:decide ((0:Int)≤0∧0 < ((bX l l[i].2.1).length:Int))=true:=ay jN;have i0':decide (toNat 0 < (bX l l[i].2.1).length)=true:=decide_eq_true (by show 0 < _; omega);have hrb:decide ((rows.length+1) * 24≤140737488355328)=true:=decide_eq_true (by omega);by_cases dS:okC (bX l l[i].2.1)
   ·refine .inl ⟨(rows++[yi l rows.length],0,(wh l i l[i].2.1:Int)),?_,⟨_,_,rfl,?_⟩,?_⟩
    ·rw [if_pos (aeD.1 dS)] at VV;have bs:=Cr _ (abi hlen);have wn:wrap .i64 ((fS (bX l l[i].2.1))[0]+((bX l l[i].2.1).length:Int))=(qg (bX l l[i].2.1)).2.2:=by
      have:=dS.2;rw [fT (by omega)];omega
     have er:yi l rows.length=(l[i].2.1,(fS (bX l l[i].2.1))[0],(qg (bX l l[i].2.1)).2.2):=by
      unfold yi;rw [← hq,s1]
     have sn:=VS rows l[i].2.1 (fS (bX l l[i].2.1))[0] (qg (bX l l[i].2.1)).2.2;rw [er];simp only [lK,aao,a7 hi,ay hi,aaB,a1,a2,aau,aaO,cond_true,nA,nB,aad,decide_true];rw [aaZ];simp only [aad,hqd,cond_false];have z5:((bif (Nat.beq 0 (([]:List AV)).length&&allFit (fits p3) ([]:List AV)) then some (rows,(i:Int),(),(map gD ([]:List AV))) else none:Option (List bE × Int × Unit × List Int)).bind fun RE=>bif decide (rows.length=RE.1.length) then some RE else none)=some (rows,(i:Int),(),[]):=by
      show (bif decide (rows.length=rows.length) then some (rows,(i:Int),(),([]:List Int)) else none)=_;rw [decide_eq_true rfl];rfl
     simp only [Bool.true_and];rw [z5,aad,aeC,aad];simp only [aad, aao,decide_true,z1,Dg,aau,cond_true,Df,AI,By,VV,Sum.elim_inr,i0,i0',hsl,abw,t1',t2',hrb,wn,sn,nA,nB,abt,abn]
    ·refine ⟨e2,?_,?_,?_⟩
     ·rw [abt,abn,List.range_succ,abx]
      conv=>lhs; rw [g2]
      simp
     ·intro j hj;rw [abt,abn] at hj;by_cases Z0:j < rows.length
      ·exact g3 j Z0
      ·obtain rfl:j=rows.length:=by omega
       rw [← hq]; exact dS
     ·intro j hj;rw [abt,abn];constructor
      ·intro hje;by_cases VU:j < i
       ·have:=(g4 j hj).1 VU; omega
       ·have:=e3 j hj (by omega) hje; omega
      ·intro bY;rcases Nat.lt_or_ge j (wh l i l[i].2.1) with hh|hh
       ·exact hh
       ·have:=e4 j hj hh; omega
    ·show l.length - toNat (wh l i l[i].2.1:Int) < _;rw [aaB];omega
   ·refine .inr ⟨(rows,17),?_,?_⟩
    ·rw [if_neg (fun hh=>dS (aeD.2 hh))] at VV;simp only [lK,aao,a7 hi,ay hi,aaB,a1,a2,aau,aaO,cond_true,nA,nB,aad,decide_true];rw [aaZ];simp only [aad,hqd,cond_false];have z5:((bif (Nat.beq 0 (([]:List AV)).length&&allFit (fits p3) ([]:List AV)) then some (rows,(i:Int),(),(map gD ([]:List AV))) else none:Option (List bE × Int × Unit × List Int)).bind fun RE=>bif decide (rows.length=RE.1.length) then some RE else none)=some (rows,(i:Int),(),[]):=by
      show (bif decide (rows.length=rows.length) then some (rows,(i:Int),(),([]:List Int)) else none)=_;rw [decide_eq_true rfl];rfl
     simp only [Bool.true_and];rw [z5,aad,aeC,aad];simp only [aad, aao,decide_true,z1,Dg,aau,cond_true,Df,AI,By,VV,Sum.elim_inl,nA,nB]
    ·unfold Md;rw [if_neg];intro hh;refine dS ?_;have:rows.length < pR l:=by unfold pR; omega
     rw [hq];exact hh _ this
  ·have hqd:(!decide (l[i].2.1=fV l+rows.length))=true:=by rw [decide_eq_false hq]; rfl
   refine .inr ⟨(rows,17),?_,?_⟩
   ·simp only [lK,aao,a7 hi,ay hi,aaB,a1,a2,aau,aaO,cond_true,nA,nB,aad,decide_true];rw [aaZ];simp only [aad,hqd,cond_true,nA,nB,decide_true]
   ·unfold Md;rw [if_neg];intro hh;have bY:rows.length < pR l:=by unfold pR; omega
    obtain ⟨k,hk,e⟩:=GN h (hh _ bY).1;rcases Nat.lt_or_ge k i with hki|hki
    ·have:=(g4 k hk).1 hki; omega
    ·have:=GK h3 hi hk hki; omega
 ·refine .inr ⟨(rows,0),?_,?_⟩
  ·have oP:decide ((i:Int) < (l.length:Int))=false:=decide_eq_false (by omega);simp only [lK,aao,oP,cond_false,nA,nB,aau,aaO,decide_true,cond_true,aad]
  ·have Kr:l.length - 1 < l.length:=by omega
   have e1:=(g4 _ Kr).1 (by omega);have el:EF l=l[l.length - 1].2.1:=by unfold EF; simp [Kr]
   have eM:rows.length=pR l:=by
    have:pR l≤rows.length:=by unfold pR; omega
    omega
   unfold Md;have dS:Qq l:=fun j hj=>g3 j (by omega)
   rw [if_pos dS,g2,eM];rfl
theorem Qu (l:List aF):T15 N l=some (if dC l=0 then Dd l else ([],dC l)):=by
 have z2:∀ x y:Int,((bif (allFit (fits xq) [(AV.int .i64 x),(AV.int .i64 y)]&&true) then some (map kN [(AV.int .i64 x),(AV.int .i64 y)]) else none:Option (kM)))=some [x,y]:=fun _ _=>rfl
 rw [aaN];simp only [cq,b9,aaO,cond_true,aad,aao,yQ hN,mD];simp only [aaO] at z2;rw [z2,aad,oD hN _ (by simp),aad,Hj];unfold Dd;by_cases h:dC l=0
 ·rw [if_pos h];by_cases h0:l=[]
  ·subst h0;rw [if_pos rfl,h];rfl
  ·have hl:0 < l.length:=List.length_pos_iff.2 h0;have hb:((l.length:Int) == 0)=false:=beq_false_of_ne (by omega);rw [if_neg h0,h,hb];have ef:aU [0,if false=true then 12 else 0]=0:=rfl;rw [if_pos ef];obtain ⟨x,e,hx⟩:=sa (rd:=lK N l) (fun v=>∃ rows i,v=(rows,0,((i:Nat):Int))∧aaX l rows i) (fun v=>l.length - v.2.2.toNat) (Md l) (fun v hv=>by
    obtain ⟨rows,i,rfl,hI⟩:=hv;rcases Qt hN l h hl rows i hI with ⟨v',e1,e2,e3⟩|⟨x,e1,e2⟩
    ·exact .inl ⟨v',e1,e2,by simpa using e3⟩
    ·exact .inr ⟨x,e1,e2⟩) N ([],0,((0:Nat):Int)) ⟨[],0,rfl,by omega,rfl,fun j hj=>absurd hj (Nat.not_lt_zero _),fun j hj=>⟨fun hh=>absurd hh (Nat.not_lt_zero _),fun hh=>by
     have:=(De h hj).1;simp at hh;omega⟩⟩ (by have:=(dp h).1; unfold fC at hN; show l.length - 0 < N; omega)
   have z:((bif allFit (fits nT) ([]:List AV) then some ((map fA ([]:List AV)),(0:Int),(0:Int)) else none:Option (List bE × Int × Int)).bind fun My=>bif decide (0=My.1.length) then some My else none)=some ([],0,0):=rfl;have e':az (lK N l) N ([],0,0)=some x:=e;rw [z,aad,e',aad];unfold Md at hx;by_cases dS:Qq l
   ·rw [if_pos dS] at hx ⊢;subst hx;simp only [bne_self_eq_false,cond_false,nA,nB,cond_true]
   ·rw [if_neg dS] at hx ⊢;rw [hx];rfl
 ·rw [if_neg h];have ef:aU [dC l,if ((l.length:Int) == 0)=true then 12 else 0]=dC l:=by unfold aU; rw [if_neg h]
  rw [ef,if_neg h];rfl
end
end Go.Proofs.YtldcljfjjoidhaaGreatDoor
