/- What the program's search along seams computes: one seam. -/
import Derived.Test.YtegoimldbgdeiaaTrwSb
import Derived.Test.YtegoimldbgdeiaaTrwU
set_option linter.all false
open Bool renaming and_self→aal
open Int renaming toNat_natCast→aas
open List renaming length_map→aat, getD_eq_getElem?_getD→aau, getElem?_eq_getElem→aav, length_singleton→aay
open Nat renaming zero_add→aax
open Option renaming bind_some→aae
namespace Go.Proofs.Ytegoimldbgdeiaa
open Go Go.Am
open List (map)
open Int (toNat)
open Go.IntKind (wrap)
open Go.Am.aL (fits)
set_option maxRecDepth 100000
theorem ack (l:List Int) (k:Nat) (v:Int):aE (map n3 l) k (AV.int .i64 v)=map n3 (l.set k v):=by rw [fh,List.map_set]; rfl
theorem Yt (l:List (List Int)) (k:Nat) (v:List Int):aE (map n8 l) k (AV.list .gZ 1 (map n3 v))=map n8 (l.set k v):=by rw [fh,List.map_set]; rfl
theorem Gm (l:List Int) {k:Nat} (hk:k < l.length):gI l (k:Int)=l[k]:=by unfold gI; rw [aas,aau,aav hk]; rfl
theorem afZ (l:List (List Int)) {k:Nat} (hk:k < l.length):gL l (k:Int)=l[k]:=by unfold gL; rw [aas,aau,aav hk]; rfl
theorem g3 (l:List Int) {k:Nat} (hk:k < l.length):d3 (ae (map n3 l) k)=gI l (k:Int)∧fits p3 (ae (map n3 l) k)=true:=by
 rw [Gm l hk]; exact Pz l hk
theorem g77 (l:List (List Int)) {k:Nat} (hk:k < l.length):d77 (ae (map n8 l) k)=gL l (k:Int)∧fits Bp (ae (map n8 l) k)=true:=by
 rw [afZ l hk,fY n8 l k hk]; exact ⟨afX _,afW _⟩
section
variable {N:Nat} (hN:eZ N)
include hN
omit hN in
theorem To (t:aZ) (o3:Unit × Unit × List Int × List (List Int)) (p:Int) (MA:List Int × List (List Int) × List Int) (v6:List Int × List Int × List (List Int) × List Int) (x:BS) (k a A B:Nat) (i j:Int) (tw:Bool)
  (hk:k < t.2.length) (hs:t.2[k]=((A:Int),i,(B:Int),j,tw)) (hA:A < t.1.length) (hB:B < t.1.length) (ha:a < t.1.length)
  (h0:d3 (ae (map n3 v6.1) (toNat 0))=(a:Int)) (l1:x.2.1.length=t.1.length) (l2:x.2.2.1.length=t.1.length) (l3:x.2.2.2.length=t.1.length) (l4:o3.2.2.1.length=t.1.length) (l5:o3.2.2.2.length=t.1.length)
  (hq:x.1.length≤1000) (hp:(gL x.2.2.1 a).length≤1000) (hg:gI x.2.1 a=0∨gI x.2.1 a=1∨gI x.2.1 a=-1) (Qu:k < 1000000) :
  fG N t o3 (p,MA) v6 (x.1,(k:Int),x.2)=some (.inl ((nJ p a x k (bj t k)).1,((k+1:Nat):Int),(nJ p a x k (bj t k)).2)):=by
 obtain ⟨a1,a2⟩:=uE t.2 hk;rw [hs] at a1;obtain ⟨qu,sg,pa,st⟩:=x;have l1:sg.length=t.1.length:=l1;have l2:pa.length=t.1.length:=l2;have l3:st.length=t.1.length:=l3;have hq:qu.length≤1000:=hq;have hp:(gL pa a).length≤1000:=hp;have hg:gI sg a=0∨gI sg a=1∨gI sg a=-1:=hg;have hsA:bj t k=((A:Int),i,(B:Int),j,tw):=by rw [lm t hk,hs]
 show fG N t o3 (p,MA) v6 (qu,(k:Int),sg,pa,st)=_;rw [hsA];have w:wrap .i64 ((k:Int)+1)=((k+1:Nat):Int):=bc (by omega);obtain ⟨ga1,ga2⟩:=g3 sg (k:=a) (by omega);have c1:decide ((gL pa a).length * 8≤140737488355328)=true:=decide_eq_true (by omega);have c2:decide (((gL pa a).length+1) * 8≤140737488355328)=true:=decide_eq_true (by omega);have c3:decide ((qu.length+1) * 8≤140737488355328)=true:=decide_eq_true (by omega);have r_a:decide ((0:Int)≤(a:Int)∧(a:Int) < (t.1.length:Int))=true:=ai ha;have d_a:decide (a < t.1.length)=true:=decide_eq_true ha;obtain ⟨pa1,pa2⟩:=g77 pa (k:=a) (by omega)
 -- the target
 have go:∀ (o:Nat) (eB eA:Bool),o < t.1.length→((B:Int) == (a:Int))=eB→((A:Int) != (a:Int))=eA→(bif eB then (A:Int) else (B:Int))=(o:Int) →
   fG N t o3 (p,MA) v6 (qu,(k:Int),sg,pa,st)=if ((bif eA then !eB else false) || gI sg o != 0)=true then some (.inl (qu,((k+1:Nat):Int),sg,pa,st)) else some (.inl (qu++[(o:Int)],((k+1:Nat):Int),sg.set o (if tw=true then - gI sg a else gI sg a),pa.set o (gL pa a++[(k:Int)]),st.set o p)):=by
  intro o eB eA ho e1 e2 e3;obtain ⟨go1,go2⟩:=g3 sg (k:=o) (by omega);have r_o:decide ((0:Int)≤(o:Int)∧(o:Int) < (t.1.length:Int))=true:=ai ho;have d_o:decide (o < t.1.length)=true:=decide_eq_true ho;have e2':((B:Int) != (a:Int))=!eB:=by rw [← e1]; rfl
  have wB:∀ v,(sg.set o v).length=t.1.length:=fun v=>by rw [List.length_set]; exact l1
  obtain ⟨gs1,gs2⟩:=g3 (sg.set o (gI sg a)) (k:=a) (by rw [wB]; exact ha);have gs1:d3 (ae (map n3 (sg.set o (gI sg a))) a)=gI sg a:=by
   rw [gs1,Ac _ _ _ _ (by omega)]; split <;> rfl
  have wr:wrap .i64 (0 - gI sg a)=- gI sg a:=by rw [wR (by omega)]; omega
  have bd:∀ {α:Type} (b:Bool) (x y:α),(bif b then some x else some y)=some (bif b then x else y):=fun b x y=>by cases b <;> rfl
  simp only [fG,cU,mu,aat,aas,h0,a1,a2,ay hk,ai hk,aal,cond_true,gw,jD,gy,jE,decide_true,aae,Bool.and_true,e1,e2,e2',bd];cases eB <;> cases eA <;> simp only [cond_true,cond_false,Bool.not_true,Bool.not_false] at e3 ⊢ <;> simp only [e3,l1,l2,l3,l4,l5,aas,aax,r_o,r_a,d_o,d_a,go1,go2,ga1,ga2,pa1,pa2,ack,Yt,wB,gs1,gs2,wr,aal,cond_true,cond_false,decide_true,aae,Bool.false_or,Bool.true_or,if_true]
  all_goals first | (rw [w]; done) | skip
  all_goals
   cases hz:(gI sg o != 0) with
   |true=>simp only [cond_true,aae,w,if_true,gy,gw,aal,decide_true]
   |false=>
    cases tw <;> simp only [cond_true,cond_false,aat,wB,decide_true,d_a,d_o,List.set_set,gw,gy,jD,jE,aal,Bool.and_true,aae,l2,pa1,pa2,c1,c2,c3,Nat.beq_refl,Nat.beq_eq_true_eq,Bool.true_or,Sn,cl3,Yt,List.length_append,aay,r_o,w,if_true,if_false,Bool.false_eq_true,reduceIte]
 have hoP:jK ((A:Int),i,(B:Int),j,tw) (a:Int)=((if B=a then A else B:Nat):Int):=by
  unfold jK;by_cases h:B=a
  ·have hi:(B:Int)=(a:Int):=by omega
   rw [if_pos h]; exact if_pos hi
  ·have hi:¬ (B:Int)=(a:Int):=by omega
   rw [if_neg h]; exact if_neg hi
 have key:=go (if B=a then A else B) (decide (B=a)) (!decide (A=a)) (by split <;> assumption) (by by_cases h:B=a <;> simp [h]; omega) (by
  by_cases h:A=a
  ·simp [h]
  ·have:(A:Int)≠(a:Int):=by omega
   simp [h,this]) (by by_cases h:B=a <;> simp [h])
 have hsk:uP ((A:Int),i,(B:Int),j,tw) (a:Int) sg↔((bif !decide (A=a) then !decide (B=a) else false) || gI sg ((if B=a then A else B:Nat):Int) != 0)=true:=by
  unfold uP;rw [hoP];generalize gI sg ((if B=a then A else B:Nat):Int)=z;by_cases h1:A=a <;> by_cases h2:B=a <;> simp [h1,h2] <;> omega
 rw [key];unfold nJ;show _=some (Sum.inl ((if uP ((A:Int),i,(B:Int),j,tw) (a:Int) sg then _ else _:BS).1,_,(if uP ((A:Int),i,(B:Int),j,tw) (a:Int) sg then _ else _:BS).2));by_cases hc:((bif !decide (A=a) then !decide (B=a) else false) || gI sg ((if B=a then A else B:Nat):Int) != 0)=true
 ·rw [if_pos hc,if_pos (hsk.2 hc)]
 ·rw [if_neg hc,if_neg (fun h=>hc (hsk.1 h)),hoP,aas]
theorem P4 (t:aZ) (hS:P1 t) (hP:t.1.length≤1000) (hT:t.2.length≤100000) (o3:Unit × Unit × List Int × List (List Int)) (l4:o3.2.2.1.length=t.1.length) (l5:o3.2.2.2.length=t.1.length) (p a:Nat) (MA:List Int × List (List Int) × List Int) (v6:List Int × List Int × List (List Int) × List Int)
  (h0:d3 (ae (map n3 v6.1) (toNat 0))=(a:Int)) (ha:a < t.1.length) (x:BS) (h:Inv t p x a 0) (h1:gI x.2.1 a≠0) (h2:gI x.2.2.2 a=p) :
  aw (fG N t o3 ((p:Int),MA) v6) N (x.1,(0:Int),x.2)=some (e9 t p a x t.2.length):=by
 have key:=aV (rd:=fG N t o3 ((p:Int),MA) v6) t.2.length (fun k=>((e9 t p a x k).1,(k:Int),(e9 t p a x k).2)) (e9 t p a x t.2.length) (fun k hk=>by
  obtain ⟨c1,c2,c3,c4⟩:=sV hS ha h h1 h2 k (by omega);obtain ⟨A,B,hA,JW,hB,Mx⟩:=hS k hk;rw [lm t hk] at hA hB;have hs:t.2[k]=((A:Int),t.2[k].2.1,(B:Int),t.2[k].2.2.2.1,t.2[k].2.2.2.2):=by rw [← hA,← hB]
  have hn:=Gk (e9 t p a x k).2.1;rw [c1.ls] at hn;obtain ⟨r,_,_,_,_,_,w6⟩:=c1.Tn a ha c2;have hl:=c1.len;exact To t o3 p MA v6 (e9 t p a x k) k a A B _ _ _ hk hs JW Mx ha h0 c1.ls c1.lp c1.lt l4 l5 (by omega) (by omega) (c1.val a) (by omega)) (by
  simp only [fG,cU,mu,aat,aS,cond_false,gw,gy,jD,jE,aal,cond_true,aae,decide_true]) N 0 (Nat.zero_le _) (by unfold eZ at hN; omega)
 exact key
theorem P5 (t:aZ) (hS:P1 t) (hP:t.1.length≤1000) (hT:t.2.length≤100000) (o3:Unit × Unit × List Int × List (List Int)) (l4:o3.2.2.1.length=t.1.length) (l5:o3.2.2.2.length=t.1.length) (p a:Nat) (MA:List Int × List (List Int) × List Int) (q:List Int) (y:List Int × List (List Int) × List Int)
  (ha:a < t.1.length) (h:Inv t p (q,y) a 0) (h1:gI y.1 a≠0) (h2:gI y.2.2 a=p) :
  kp N t o3 ((p:Int),MA) ((a:Int) :: q,y)=some (.inl (e9 t p a (q,y) t.2.length)):=by
 have hd:d3 (ae (map n3 ((a:Int) :: q)) (toNat 0))=(a:Int):=Hu _;have hf:fits p3 (ae (map n3 ((a:Int) :: q)) (toNat 0))=true:=Ht (a:Int);have k1:=P4 hN t hS hP hT o3 l4 l5 p a MA ((a:Int) :: q,y) hd ha (q,y) h h1 h2;have k1:aw (fG N t o3 ((p:Int),MA) ((a:Int) :: q,y)) N (q,0,y.1,y.2.1,y.2.2)=some (e9 t p a (q,y) t.2.length):=k1;have hdr:List.drop (toNat 1) (map n3 ((a:Int) :: q))=map n3 q:=rfl;have hl:((a:Int) :: q).length=q.length+1:=rfl;have e1:decide (((q.length+1:Nat):Int) > 0)=true:=decide_eq_true (by omega);have e2:decide ((0:Int)≤0∧0 < ((q.length+1:Nat):Int))=true:=decide_eq_true (by omega);have e3:decide (0 < q.length+1)=true:=decide_eq_true (by omega);have e4:decide ((0:Int)≤1∧1≤((q.length+1:Nat):Int))=true:=decide_eq_true (by omega);have e5:q.length+1 - toNat 1=q.length:=by show q.length+1 - 1=_; omega
 simp only [kp,aat,hl,e1,e2,e3,e4,e5,hf,hdr,cond_true,aal,decide_true,gw,gy,jD,jE,aae,k1]
omit hN in
theorem WM (t:aZ) (o3:Unit × Unit × List Int × List (List Int)) (v4:Int × List Int × List (List Int) × List Int) (y:List Int × List (List Int) × List Int):kp N t o3 v4 ([],y)=some (.inr y):=by
 have e1:decide ((((map n3 ([]:List Int)).length:Nat):Int) > 0)=false:=rfl;simp only [kp,e1,cond_false,gw,gy,jD,jE,cond_true,aal,aae]
theorem Gn (t:aZ) (hS:P1 t) (hP:t.1.length≤1000) (hT:t.2.length≤100000) (o3:Unit × Unit × List Int × List (List Int)) (l4:o3.2.2.1.length=t.1.length) (l5:o3.2.2.2.length=t.1.length) (p:Nat) (MA:List Int × List (List Int) × List Int):∀ (n:Nat) (x:BS),Inv t p x (-1) 0→t.1.length+x.1.length < n+nz x.2.1 →
  aw (kp N t o3 ((p:Int),MA)) n x=some (pF t p n x).2
 |0,x,h,hn=>by have:=Gk x.2.1; rw [h.ls] at this; omega
 |n+1,(l,y),h,hn=>by
  rw [oZ];cases l with
  |nil=>rw [WM t o3 _ y]; rfl
  |cons a q=>
   obtain ⟨k,rfl,e2,e3,e4,e5⟩:=h.pop;rw [P5 hN t hS hP hT o3 l4 l5 p k MA q y e2 e3 e4 e5];obtain ⟨c1,_,_,c4⟩:=sV hS e2 e3 e4 e5 t.2.length (Nat.le_refl _);have c4:(e9 t p k (q,y) t.2.length).1.length+nz y.1=q.length+nz (e9 t p k (q,y) t.2.length).2.1:=c4;have hn:t.1.length+(q.length+1) < n+1+nz y.1:=hn;exact Gn t hS hP hT o3 l4 l5 p MA n (e9 t p k (q,y) t.2.length) c1.done (by omega)
omit hN in
theorem AX (t:aZ) (p:Int):∀ (n m:Nat) (x:BS),(pF t p n x).1=[]→pF t p (n+m) x=pF t p n x
 |0,m,(l,y),h=>by
  have h:l=[]:=h;subst h;rw [aax];cases m <;> rfl
 |n+1,m,(l,y),h=>by
  rw [show n+1+m=(n+m)+1 by omega];cases l with
  |nil=>rfl
  |cons a q=>exact AX t p n m (e9 t p a (q,y) t.2.length) h
theorem P6 (t:aZ) (hS:P1 t) (hP:t.1.length≤1000) (hT:t.2.length≤100000) (o3:Unit × Unit × List Int × List (List Int)) (l4:o3.2.2.1.length=t.1.length) (l5:o3.2.2.2.length=t.1.length) (p:Nat) (hp:p < t.1.length) (y:List Int × List (List Int) × List Int) (h:Inv t p ([],y) (-1) 0) :
  qi N t o3 ((p:Int),y)=some (.inl (((p+1:Nat):Int),wX t y p)):=by
 have ls:y.1.length=t.1.length:=h.ls;have lp:y.2.1.length=t.1.length:=h.lp;have lt:y.2.2.length=t.1.length:=h.lt;have r_p:decide ((0:Int)≤(p:Int)∧(p:Int) < (t.1.length:Int))=true:=ai hp;have d_p:decide (p < t.1.length)=true:=decide_eq_true hp;have w:wrap .i64 ((p:Int)+1)=((p+1:Nat):Int):=bc (by omega);obtain ⟨g1,g2⟩:=g3 y.1 (k:=p) (by omega);have one:map n3 [(p:Int)]=[AV.int .i64 (p:Int)]:=rfl;have aj2:decide (1=([AV.int .i64 (p:Int)]).length)=true:=rfl;unfold wX;cases hz:(gI y.1 p != 0) with
 |true=>
  have ZI:gI y.1 p≠0:=by simpa using hz
  rw [if_pos ZI];simp only [qi,uQ,aat,aas,ay hp,l4,l5,ls,lp,lt,r_p,d_p,g1,g2,hz,w,aax,cond_true,aal,decide_true,gw,gy,jD,jE,aae]
 |false=>
  have ZI:gI y.1 p=0:=by simpa using hz
  rw [if_neg (by rw [ZI]; simp)];have hs:=Gl hp h ZI;have hl:p < y.1.length:=by omega
  have Ys:nz (y.1.set p 1)=nz y.1+1:=En (by decide) _ p hl (by have:=ZI; unfold gI at this; simpa using this);have c2:=wW hS (t.1.length+1) _ hs (by show t.1.length+1 < t.1.length+1+nz (y.1.set p 1); omega);have k1:=Gn hN t hS hP hT o3 l4 l5 p y N _ hs (by show t.1.length+1 < N+nz (y.1.set p 1); unfold eZ at hN; omega);have k2:=AX t p (t.1.length+1) (N - (t.1.length+1)) _ c2.2;rw [show t.1.length+1+(N - (t.1.length+1))=N by unfold eZ at hN; omega] at k2;rw [k2] at k1;have k1:aw (kp N t o3 ((p:Int),y)) N ([(p:Int)],y.1.set p 1,y.2.1,y.2.2.set p p)=_:=k1;simp only [qi,uQ,aat,aas,ay hp,l4,l5,ls,lp,lt,r_p,d_p,g1,g2,hz,w,aax,cond_true,cond_false,aal,decide_true,← one,aj2,ack,aay,gw,gy,jD,jE,aae,k1]
theorem WN (t:aZ) (hS:P1 t) (hP:t.1.length≤1000) (hT:t.2.length≤100000) (o3:Unit × Unit × List Int × List (List Int)) (l4:o3.2.2.1.length=t.1.length) (l5:o3.2.2.2.length=t.1.length) :
  aw (qi N t o3) N ((0:Int),fF t 0)=some (fF t t.1.length):=by
 have key:=aV (rd:=qi N t o3) t.1.length (fun p=>((p:Int),fF t p)) (fF t t.1.length) (fun p hp=>P6 hN t hS hP hT o3 l4 l5 p hp _ (yQ hS p (by omega))) (by
  simp only [qi,uQ,aat,aS,cond_false,gw,gy,jD,jE,aal,cond_true,aae]) N 0 (Nat.zero_le _) (by unfold eZ at hN; omega)
 exact key
end
end Go.Proofs.Ytegoimldbgdeiaa
