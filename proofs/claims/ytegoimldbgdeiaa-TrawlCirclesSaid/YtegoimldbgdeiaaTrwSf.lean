/- T64: signs,or a way that turns. -/
import Derived.Test.YtegoimldbgdeiaaTrwSe
set_option linter.all false
open Bool renaming and_self→aav
open Int renaming toNat_natCast→aal
open List renaming replicate→aae, length_map→aau
open Nat renaming zero_add→aat
open Option renaming bind_some→aas
namespace Go.Proofs.Ytegoimldbgdeiaa
open Go Go.Am
open List (map)
open Int (toNat)
open Go.IntKind (wrap)
open Go.Am.aL (fits)
set_option maxRecDepth 100000
def qj (sg:List Int) (s:kQ):Bool:=((gI sg s.1 != gI sg s.2.2.1) == s.2.2.2.2)
def P9 (y:List Int × List (List Int) × List Int) (i:Nat) (s:kQ):Int × List Int:=(gI y.2.2 s.1,gL y.2.1 s.1++[(i:Int)]++(gL y.2.1 s.2.2.1).reverse)
section
variable {N:Nat} (hN:eZ N)
include hN
theorem WS (t:aZ) (o3:Unit × Unit × List Int × List (List Int)) (l4:o3.2.2.1.length=t.1.length) (l5:o3.2.2.2.length=t.1.length) (y:List Int × List (List Int) × List Int) (ls:y.1.length=t.1.length) (lp:y.2.1.length=t.1.length) (lt:y.2.2.length=t.1.length)
  (hp:∀ q:Nat,q < t.1.length→(gL y.2.1 q).length≤1000) (i:Nat) (hi:i < t.2.length) (hi2:i < 100000) (A B:Nat) (hA:(bj t i).1=A) (JW:A < t.1.length) (hB:(bj t i).2.2.1=B) (Mx:B < t.1.length)
  (kk:Int × List Int × List (List Int) × List Int × List (List Int) × List Int→Option (((List Int × List (List Int)) × Unit) ⊕ ((List Int × List (List Int)) × (Int × List Int)))) :
  n9 N t o3 kk ((i:Int),[],[],y)=if qj y.1 (bj t i)=true then kk (((i+1:Nat):Int),[],[],y) else some (.inr ((y.1,y.2.1),P9 y i (bj t i))):=by
 obtain ⟨sg,pa,st⟩:=y;have ls:sg.length=t.1.length:=ls;have lp:pa.length=t.1.length:=lp;have lt:st.length=t.1.length:=lt;have hpA:(gL pa (A:Int)).length≤1000:=hp A JW;have hpB:(gL pa (B:Int)).length≤1000:=hp B Mx;obtain ⟨a1,a2⟩:=uE t.2 hi;obtain ⟨S,hS⟩:∃ S,S=bj t i:=⟨_,rfl⟩;have a1:d110 (ae (map n110 t.2) i)=((A:Int),S.2.1,(B:Int),S.2.2.2.1,S.2.2.2.2):=by rw [a1,← lm t hi,hS,← hA,← hB]
 rw [← hS] at hA hB ⊢;obtain ⟨sA1,sA2⟩:=g3 sg (k:=A) (by omega);obtain ⟨sB1,sB2⟩:=g3 sg (k:=B) (by omega);obtain ⟨tA1,tA2⟩:=g3 st (k:=A) (by omega);obtain ⟨pA1,pA2⟩:=g77 pa (k:=A) (by omega);obtain ⟨pB1,pB2⟩:=g77 pa (k:=B) (by omega);have rA:decide ((0:Int)≤(A:Int)∧(A:Int) < (t.1.length:Int))=true:=ai JW;have rB:decide ((0:Int)≤(B:Int)∧(B:Int) < (t.1.length:Int))=true:=ai Mx;have dA:decide (A < t.1.length)=true:=decide_eq_true JW;have dB:decide (B < t.1.length)=true:=decide_eq_true Mx;have w:wrap .i64 ((i:Int)+1)=((i+1:Nat):Int):=bc (by omega);have c1:decide ((gL pa (B:Int)).length * 8≤140737488355328)=true:=decide_eq_true (by omega);have c2:decide ((0:Int)≤((gL pa (A:Int)).length:Int)+1+((gL pa (B:Int)).length:Int)∧(((gL pa (A:Int)).length:Int)+1+((gL pa (B:Int)).length:Int)) * ((8:Nat):Int)≤140737488355328∧((gL pa (A:Int)).length:Int)+1+((gL pa (B:Int)).length:Int)≤4611686018427387904)=true:=decide_eq_true (by omega);have k1:=WO hN t ((i:Int),[],[],sg,pa,st) (gL pa (B:Int)) hpB (by
  show d77 (ae (map n8 pa) (0+toNat (d110 (ae (map n110 t.2) (toNat (i:Int)))).2.2.1))=_;rw [aal,a1,aat]; exact pB1) sg pa st
 have k2:=WQ hN t ((i:Int),[],[],sg,pa,st) (sg,pa,st,(gL pa (B:Int)).reverse) (gL pa (A:Int)) hpA (by rw [List.length_reverse]; exact hpB) (by
  show d77 (ae (map n8 pa) (0+toNat (d110 (ae (map n110 t.2) (toNat (i:Int)))).1))=_;rw [aal,a1,aat]; exact pA1) sg pa st
 have k3:=WR hN t ((i:Int),[],[],sg,pa,st) (sg,pa,st,(gL pa (B:Int)).reverse) (gL pa (A:Int)) hpA (by rw [List.length_reverse]; exact hpB) (by
  show d77 (ae (map n8 pa) (0+toNat (d110 (ae (map n110 t.2) (toNat (i:Int)))).1))=_;rw [aal,a1,aat]; exact pA1) sg pa st
 have nl:([]:List Int).length=0:=rfl;have f0:allFit (fits p3) ([]:List AV)=true:=rfl;have m0:map d3 ([]:List AV)=[]:=rfl;have nb:Nat.beq 0 (([]:List AV)).length=true:=rfl;have cl:∀ (a:Int) (l:List Int),aN [AV.int .i64 a,AV.list .gZ 1 (map n3 l)]=true:=fun _ _=>rfl
 have eA:((A:Int) == (A:Int))=true:=beq_self_eq_true _;have bs:∀ z:Int,(z == z)=true:=fun z=>beq_self_eq_true z
 have af3:qj sg S=((gI sg (A:Int) != gI sg (B:Int)) == S.2.2.2.2):=by unfold qj; rw [hA,hB]
 have aj6:P9 (sg,pa,st) i S=(gI st (A:Int),gL pa (A:Int)++[(i:Int)]++(gL pa (B:Int)).reverse):=by unfold P9; rw [hA,hB]
 show n9 N t o3 kk ((i:Int),[],[],sg,pa,st)=if qj sg S=true then kk (((i+1:Nat):Int),[],[],sg,pa,st) else some (.inr ((sg,pa),P9 (sg,pa,st) i S))
 rw [af3,aj6];cases hc:((gI sg (A:Int) != gI sg (B:Int)) == S.2.2.2.2) with
 |true=>
  simp only [n9,rM,aau,ay hi,ai hi,aal,a1,a2,l4,l5,ls,lp,lt,rA,rB,dA,dB,aat,sA1,sA2,sB1,sB2,hc,cond_true,aav,decide_true,gw,gy,jD,jE,aas,w,if_true]
 |false=>
  simp only [n9,rM,aau,ay hi,ai hi,aal,a1,a2,l4,l5,ls,lp,lt,rA,rB,dA,dB,aat,sA1,sA2,sB1,sB2,tA1,tA2,pA1,pA2,pB1,pB2,hc,cond_true,cond_false,aav,decide_true,gw,gy,jD,jE,f0,m0,nb,cl,cl3,acm,bs,aas,w,if_true,if_false,Bool.false_eq_true,Nat.beq_refl,Bool.true_or,Bool.and_true,c1,c2,k1,k2,k3,List.length_reverse];exact I8 _
omit hN in
theorem WT {V X:Type} (rd:(V→Option X)→V→Option X) (n:Nat) (v:V):eN rd (n+1) v=rd (eN rd n) v:=rfl
theorem JX (t:aZ) (hS:P1 t) (hT:t.2.length≤100000) (o3:Unit × Unit × List Int × List (List Int)) (l4:o3.2.2.1.length=t.1.length) (l5:o3.2.2.2.length=t.1.length) (y:List Int × List (List Int) × List Int) (ls:y.1.length=t.1.length) (lp:y.2.1.length=t.1.length) (lt:y.2.2.length=t.1.length)
  (hp:∀ q:Nat,q < t.1.length→(gL y.2.1 q).length≤1000):∀ (n i:Nat),i≤t.2.length→t.2.length < n+i →
  (eN (n9 N t o3) n ((i:Int),[],[],y)=some (.inl ((y.1,y.2.1),()))∧∀ j,i≤j→j < t.2.length→qj y.1 (bj t j)=true) ∨
  ∃ j,i≤j∧j < t.2.length∧qj y.1 (bj t j)=false∧eN (n9 N t o3) n ((i:Int),[],[],y)=some (.inr ((y.1,y.2.1),P9 y j (bj t j)))
 |0,i,h1,h2=>by omega
 |n+1,i,h1,h2=>by
  rw [WT];by_cases hi:i=t.2.length
  ·refine .inl ⟨?_,fun j a b=>by omega⟩;subst hi;obtain ⟨sg,pa,st⟩:=y;have ls:sg.length=t.1.length:=ls;have lp:pa.length=t.1.length:=lp;simp only [n9,rM,aau,aS,cond_false,l4,l5,ls,lp,decide_true,aav,cl3,acm,cond_true,gw,gy,jD,jE,aas]
  ·obtain ⟨A,B,hA,JW,hB,Mx⟩:=hS i (by omega);rw [WS hN t o3 l4 l5 y ls lp lt hp i (by omega) (by omega) A B hA JW hB Mx];cases hc:qj y.1 (bj t i) with
   |true=>
    rw [if_pos rfl];rcases JX t hS hT o3 l4 l5 y ls lp lt hp n (i+1) (by omega) (by omega) with ⟨e,e2⟩|⟨j,e1,e2,e3,e4⟩
    ·refine .inl ⟨e,fun j a b=>?_⟩;by_cases hj:j=i
     ·rw [hj]; exact hc
     ·exact e2 j (by omega) b
    ·exact .inr ⟨j,by omega,e2,e3,e4⟩
   |false=>exact .inr ⟨i,Nat.le_refl _,by omega,hc,by rw [if_neg (by simp)]⟩
omit hN in
theorem aj7 (n:Nat):aae n (AV.int .i64 0)=map n3 (aae n 0):=by rw [List.map_replicate]; rfl
omit hN in
theorem af4 (n:Nat):allFit (fits Bp) (aae n (AV.list .nil 0 []))=true∧map d77 (aae n (AV.list .nil 0 []))=aae n []:=by
 refine ⟨?_,by rw [List.map_replicate]; rfl⟩
 induction n with
 |zero=>rfl
 |succ n ih=>
  rw [List.replicate_succ];show (fits Bp (AV.list .nil 0 [])&&allFit (fits Bp) (aae n (AV.list .nil 0 [])))=true;rw [ih]; rfl
theorem Tq (t:aZ) (hS:P1 t) (hP1:t.1.length≠0) (hP:t.1.length≤1000) (hT:t.2.length≤100000) :
  (WI N t=some (.inl (((fF t t.1.length).1,(fF t t.1.length).2.1),()))∧∀ j,j < t.2.length→qj (fF t t.1.length).1 (bj t j)=true) ∨
  ∃ j,j < t.2.length∧qj (fF t t.1.length).1 (bj t j)=false∧WI N t=some (.inr (((fF t t.1.length).1,(fF t t.1.length).2.1),P9 (fF t t.1.length) j (bj t j))):=by
 have inv:=yQ hS t.1.length (Nat.le_refl _);have hp:∀ q:Nat,q < t.1.length→(gL (fF t t.1.length).2.1 q).length≤1000:=fun q hq=>by
  obtain ⟨r,_,_,_,_,_,w6⟩:=inv.Tn q hq (inv.low q hq);have:=Gk (fF t t.1.length).1;have hl:(fF t t.1.length).1.length=t.1.length:=inv.ls;have w6:(gL (fF t t.1.length).2.1 q).length+1≤nz (fF t t.1.length).1:=w6;omega
 have c1:decide ((1:Int)≤(t.1.length:Int)∧(t.1.length:Int)≤(t.1.length:Int)∧(t.1.length:Int)≤140737488355328∧(t.1.length:Int) * 8≤140737488355328)=true:=decide_eq_true (by omega);have c2:decide ((1:Int)≤(t.1.length:Int)∧(t.1.length:Int)≤(t.1.length:Int)∧(t.1.length:Int)≤140737488355328∧(t.1.length:Int) * 24≤140737488355328)=true:=decide_eq_true (by omega);have c3:decide ((0:Int)≤(t.1.length:Int)∧(t.1.length:Int)≤(t.1.length:Int)∧(t.1.length:Int)≤140737488355328∧(t.1.length:Int) * 8≤140737488355328)=true:=decide_eq_true (by omega);have bs:∀ z:Int,(z == z)=true:=fun z=>beq_self_eq_true z
 have f0:allFit (fits p3) ([]:List AV)=true:=rfl;have m0:map d3 ([]:List AV)=[]:=rfl;have f7:allFit (fits Bp) ([]:List AV)=true:=rfl;have m7:map d77 ([]:List AV)=[]:=rfl;have sl:bR (map n131 t.1) (map n131 t.1)=true:=abY t.1
 let o3:Unit × Unit × List Int × List (List Int):=((),(),aae t.1.length 0,aae t.1.length [])
 have k1:=WN hN t hS hP hT o3 (by simp [o3]) (by simp [o3]);have k1:aw (qi N t ((),(),aae t.1.length 0,aae t.1.length [])) N (0,aae t.1.length 0,aae t.1.length [],aae t.1.length 0)=some (fF t t.1.length):=k1;have k2:=JX hN t hS hT o3 (by simp [o3]) (by simp [o3]) (fF t t.1.length) inv.ls inv.lp inv.lt hp N 0 (Nat.zero_le _) (by unfold eZ at hN; omega);have e:WI N t=eN (n9 N t o3) N (((0:Nat):Int),[],[],fF t t.1.length):=by
  rw [acj];simp only [aau,c1,c2,c3,cond_true,bs,sl,aav,Bool.and_true,aal,List.length_replicate,Nat.beq_refl,aj7,gw,gy,af4,jD,jE,aas,I8,k1,f0,m0,f7,m7];rfl
 rw [e];rcases k2 with ⟨e1,e2⟩|⟨j,_,e2,e3,e4⟩
 ·exact .inl ⟨e1,fun j hj=>e2 j (Nat.zero_le _) hj⟩
 ·exact .inr ⟨j,e2,e3,e4⟩
end
end Go.Proofs.Ytegoimldbgdeiaa
