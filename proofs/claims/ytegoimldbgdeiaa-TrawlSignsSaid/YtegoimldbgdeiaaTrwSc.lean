/- What the program's search along seams computes: one seam. -/
import Derived.Test.YtegoimldbgdeiaaTrwSb
import Derived.Test.YtegoimldbgdeiaaTrwU
set_option linter.all false
namespace Go.Proofs.Ytegoimldbgdeiaa
open Go Go.Am
open List (map)
open Int (toNat)
open Go.IntKind (wrap)
open Go.Am.aM (fits)
set_option maxRecDepth 100000
theorem Kg (l:List Int) (k:Nat) (v:Int):aq (map n3 l) k (AV.int .i64 v)=map n3 (l.set k v):=by rw [dQ,List.map_set]; rfl
theorem Rv (l:List (List Int)) (k:Nat) (v:List Int):aq (map jg l) k (AV.list .ea 1 (map n3 v))=map jg (l.set k v):=by rw [dQ,List.map_set]; rfl
theorem jw (l:List Int) {k:Nat} (hk:k < l.length):gI l (k:Int)=l[k]:=by unfold gI; rw [Int.toNat_natCast,List.getD_eq_getElem?_getD,List.getElem?_eq_getElem hk]; rfl
theorem Ze (l:List (List Int)) {k:Nat} (hk:k < l.length):gL l (k:Int)=l[k]:=by unfold gL; rw [Int.toNat_natCast,List.getD_eq_getElem?_getD,List.getElem?_eq_getElem hk]; rfl
theorem g3 (l:List Int) {k:Nat} (hk:k < l.length):d3 (ab (map n3 l) k)=gI l (k:Int)∧fits p3 (ab (map n3 l) k)=true:=by
 rw [jw l hk]; exact EG l hk
theorem g77 (l:List (List Int)) {k:Nat} (hk:k < l.length):d77 (ab (map jg l) k)=gL l (k:Int)∧fits uL (ab (map jg l) k)=true:=by
 rw [Ze l hk,fu jg l k hk]; exact ⟨VA _,Vz _⟩
section
variable {N:Nat} (hN:ey N)
include hN
omit hN in
theorem M8 (t:cu) (o3:Unit × Unit × List Int × List (List Int)) (p:Int) (Hl:List Int × List (List Int) × List Int) (v6:List Int × List Int × List (List Int) × List Int) (x:BS) (k a A B:Nat) (i j:Int) (tw:Bool)
  (hk:k < t.2.length) (hs:t.2[k]=((A:Int),i,(B:Int),j,tw)) (hA:A < t.1.length) (hB:B < t.1.length) (ha:a < t.1.length)
  (h0:d3 (ab (map n3 v6.1) (toNat 0))=(a:Int)) (l1:x.2.1.length=t.1.length) (l2:x.2.2.1.length=t.1.length) (l3:x.2.2.2.length=t.1.length) (l4:o3.2.2.1.length=t.1.length) (l5:o3.2.2.2.length=t.1.length)
  (hq:x.1.length≤1000) (hp:(gL x.2.2.1 a).length≤1000) (hg:gI x.2.1 a=0∨gI x.2.1 a=1∨gI x.2.1 a=-1) (BQ:k < 1000000) :
  eu N t o3 (p,Hl) v6 (x.1,(k:Int),x.2)=some (.inl ((kI p a x k (av t k)).1,((k+1:Nat):Int),(kI p a x k (av t k)).2)):=by
 obtain ⟨a1,a2⟩:=wv t.2 hk;rw [hs] at a1;obtain ⟨qu,sg,pa,st⟩:=x;have l1:sg.length=t.1.length:=l1;have l2:pa.length=t.1.length:=l2;have l3:st.length=t.1.length:=l3;have hq:qu.length≤1000:=hq;have hp:(gL pa a).length≤1000:=hp;have hg:gI sg a=0∨gI sg a=1∨gI sg a=-1:=hg;have hsA:av t k=((A:Int),i,(B:Int),j,tw):=by rw [fC t hk,hs]
 show eu N t o3 (p,Hl) v6 (qu,(k:Int),sg,pa,st)=_;rw [hsA];have w:wrap .i64 ((k:Int)+1)=((k+1:Nat):Int):=aR (by omega);obtain ⟨ga1,ga2⟩:=g3 sg (k:=a) (by omega);have c1:decide ((gL pa a).length * 8≤140737488355328)=true:=decide_eq_true (by omega);have c2:decide (((gL pa a).length+1) * 8≤140737488355328)=true:=decide_eq_true (by omega);have c3:decide ((qu.length+1) * 8≤140737488355328)=true:=decide_eq_true (by omega);have r_a:decide ((0:Int)≤(a:Int)∧(a:Int) < (t.1.length:Int))=true:=ah ha;have d_a:decide (a < t.1.length)=true:=decide_eq_true ha;obtain ⟨pa1,pa2⟩:=g77 pa (k:=a) (by omega)
 -- the target
 have go:∀ (o:Nat) (eB eA:Bool),o < t.1.length→((B:Int) == (a:Int))=eB→((A:Int) != (a:Int))=eA→(bif eB then (A:Int) else (B:Int))=(o:Int) →
   eu N t o3 (p,Hl) v6 (qu,(k:Int),sg,pa,st)=if ((bif eA then !eB else false) || gI sg o != 0)=true then some (.inl (qu,((k+1:Nat):Int),sg,pa,st)) else some (.inl (qu++[(o:Int)],((k+1:Nat):Int),sg.set o (if tw=true then - gI sg a else gI sg a),pa.set o (gL pa a++[(k:Int)]),st.set o p)):=by
  intro o eB eA ho e1 e2 e3;obtain ⟨go1,go2⟩:=g3 sg (k:=o) (by omega);have r_o:decide ((0:Int)≤(o:Int)∧(o:Int) < (t.1.length:Int))=true:=ah ho;have d_o:decide (o < t.1.length)=true:=decide_eq_true ho;have Kx:((B:Int) != (a:Int))=!eB:=by rw [← e1]; rfl
  have pF:∀ v,(sg.set o v).length=t.1.length:=fun v=>by rw [List.length_set]; exact l1
  obtain ⟨gs1,gs2⟩:=g3 (sg.set o (gI sg a)) (k:=a) (by rw [pF]; exact ha);have gs1:d3 (ab (map n3 (sg.set o (gI sg a))) a)=gI sg a:=by
   rw [gs1,pu _ _ _ _ (by omega)]; split <;> rfl
  have wr:wrap .i64 (0 - gI sg a)=- gI sg a:=by rw [KB (by omega)]; omega
  have bd:∀ {α:Type} (b:Bool) (x y:α),(bif b then some x else some y)=some (bif b then x else y):=fun b x y=>by cases b <;> rfl
  simp only [eu,List.length_map,Int.toNat_natCast,h0,a1,a2,ap hk,ah hk,Bool.and_self,cond_true,dI,mF,dJ,mG,decide_true,Option.bind_some,Bool.and_true,e1,e2,Kx,bd];cases eB <;> cases eA <;> simp only [cond_true,cond_false,Bool.not_true,Bool.not_false] at e3 ⊢ <;> simp only [e3,l1,l2,l3,l4,l5,Int.toNat_natCast,Nat.zero_add,r_o,r_a,d_o,d_a,go1,go2,ga1,ga2,pa1,pa2,Kg,Rv,pF,gs1,gs2,wr,Bool.and_self,cond_true,cond_false,decide_true,Option.bind_some,Bool.false_or,Bool.true_or,if_true]
  all_goals first | (rw [w]; done) | skip
  all_goals
   cases hz:(gI sg o != 0) with
   |true=>simp only [cond_true,Option.bind_some,w,if_true,dJ,dI,Bool.and_self,decide_true]
   |false=>
    cases tw <;> simp only [cond_true,cond_false,List.length_map,pF,decide_true,d_a,d_o,List.set_set,dI,dJ,mF,mG,Bool.and_self,Bool.and_true,Option.bind_some,l2,pa1,pa2,c1,c2,c3,Nat.beq_refl,Nat.beq_eq_true_eq,Bool.true_or,BP,Ws,Rv,List.length_append,List.length_singleton,r_o,w,if_true,if_false,Bool.false_eq_true,reduceIte]
 have hoP:ir ((A:Int),i,(B:Int),j,tw) (a:Int)=((if B=a then A else B:Nat):Int):=by
  unfold ir;by_cases h:B=a
  ·have hi:(B:Int)=(a:Int):=by omega
   rw [if_pos h]; exact if_pos hi
  ·have hi:¬ (B:Int)=(a:Int):=by omega
   rw [if_neg h]; exact if_neg hi
 have key:=go (if B=a then A else B) (decide (B=a)) (!decide (A=a)) (by split <;> assumption) (by by_cases h:B=a <;> simp [h]; omega) (by
  by_cases h:A=a
  ·simp [h]
  ·have:(A:Int)≠(a:Int):=by omega
   simp [h,this]) (by by_cases h:B=a <;> simp [h])
 have hsk:qG ((A:Int),i,(B:Int),j,tw) (a:Int) sg↔((bif !decide (A=a) then !decide (B=a) else false) || gI sg ((if B=a then A else B:Nat):Int) != 0)=true:=by
  unfold qG;rw [hoP];generalize gI sg ((if B=a then A else B:Nat):Int)=z;by_cases h1:A=a <;> by_cases h2:B=a <;> simp [h1,h2] <;> omega
 rw [key];unfold kI;show _=some (Sum.inl ((if qG ((A:Int),i,(B:Int),j,tw) (a:Int) sg then _ else _:BS).1,_,(if qG ((A:Int),i,(B:Int),j,tw) (a:Int) sg then _ else _:BS).2));by_cases hc:((bif !decide (A=a) then !decide (B=a) else false) || gI sg ((if B=a then A else B:Nat):Int) != 0)=true
 ·rw [if_pos hc,if_pos (hsk.2 hc)]
 ·rw [if_neg hc,if_neg (fun h=>hc (hsk.1 h)),hoP,Int.toNat_natCast]
theorem Kh (t:cu) (hS:uz t) (hP:t.1.length≤1000) (hT:t.2.length≤100000) (o3:Unit × Unit × List Int × List (List Int)) (l4:o3.2.2.1.length=t.1.length) (l5:o3.2.2.2.length=t.1.length) (p a:Nat) (Hl:List Int × List (List Int) × List Int) (v6:List Int × List Int × List (List Int) × List Int)
  (h0:d3 (ab (map n3 v6.1) (toNat 0))=(a:Int)) (ha:a < t.1.length) (x:BS) (h:Inv t p x a 0) (h1:gI x.2.1 a≠0) (h2:gI x.2.2.2 a=p) :
  ar (eu N t o3 ((p:Int),Hl) v6) N (x.1,(0:Int),x.2)=some (dN t p a x t.2.length):=by
 have key:=aU (rd:=eu N t o3 ((p:Int),Hl) v6) t.2.length (fun k=>((dN t p a x k).1,(k:Int),(dN t p a x k).2)) (dN t p a x t.2.length) (fun k hk=>by
  obtain ⟨c1,c2,c3,c4⟩:=pw hS ha h h1 h2 k (by omega);obtain ⟨A,B,hA,om,hB,ow⟩:=hS k hk;rw [fC t hk] at hA hB;have hs:t.2[k]=((A:Int),t.2[k].2.1,(B:Int),t.2[k].2.2.2.1,t.2[k].2.2.2.2):=by rw [← hA,← hB]
  have hn:=B0 (dN t p a x k).2.1;rw [c1.ls] at hn;obtain ⟨r,_,_,_,_,_,w6⟩:=c1.De a ha c2;have hl:=c1.len;exact M8 t o3 p Hl v6 (dN t p a x k) k a A B _ _ _ hk hs om ow ha h0 c1.ls c1.lp c1.lt l4 l5 (by omega) (by omega) (c1.val a) (by omega)) (by
  simp only [eu,List.length_map,aJ,cond_false,dI,dJ,mF,mG,Bool.and_self,cond_true,Option.bind_some,decide_true]) N 0 (Nat.zero_le _) (by unfold ey at hN; omega)
 exact key
theorem Ki (t:cu) (hS:uz t) (hP:t.1.length≤1000) (hT:t.2.length≤100000) (o3:Unit × Unit × List Int × List (List Int)) (l4:o3.2.2.1.length=t.1.length) (l5:o3.2.2.2.length=t.1.length) (p a:Nat) (Hl:List Int × List (List Int) × List Int) (q:List Int) (y:List Int × List (List Int) × List Int)
  (ha:a < t.1.length) (h:Inv t p (q,y) a 0) (h1:gI y.1 a≠0) (h2:gI y.2.2 a=p) :
  iO N t o3 ((p:Int),Hl) ((a:Int) :: q,y)=some (.inl (dN t p a (q,y) t.2.length)):=by
 have hd:d3 (ab (map n3 ((a:Int) :: q)) (toNat 0))=(a:Int):=Fc _;have hf:fits p3 (ab (map n3 ((a:Int) :: q)) (toNat 0))=true:=Fb (a:Int);have k1:=Kh hN t hS hP hT o3 l4 l5 p a Hl ((a:Int) :: q,y) hd ha (q,y) h h1 h2;have k1:ar (eu N t o3 ((p:Int),Hl) ((a:Int) :: q,y)) N (q,0,y.1,y.2.1,y.2.2)=some (dN t p a (q,y) t.2.length):=k1;have Zv:List.drop (toNat 1) (map n3 ((a:Int) :: q))=map n3 q:=rfl;have hl:((a:Int) :: q).length=q.length+1:=rfl;have e1:decide (((q.length+1:Nat):Int) > 0)=true:=decide_eq_true (by omega);have e2:decide ((0:Int)≤0∧0 < ((q.length+1:Nat):Int))=true:=decide_eq_true (by omega);have e3:decide (0 < q.length+1)=true:=decide_eq_true (by omega);have e4:decide ((0:Int)≤1∧1≤((q.length+1:Nat):Int))=true:=decide_eq_true (by omega);have e5:q.length+1 - toNat 1=q.length:=by show q.length+1 - 1=_; omega
 simp only [iO,List.length_map,hl,e1,e2,e3,e4,e5,hf,Zv,cond_true,Bool.and_self,decide_true,dI,dJ,mF,mG,Option.bind_some,k1]
omit hN in
theorem Qf (t:cu) (o3:Unit × Unit × List Int × List (List Int)) (v4:Int × List Int × List (List Int) × List Int) (y:List Int × List (List Int) × List Int):iO N t o3 v4 ([],y)=some (.inr y):=by
 have e1:decide ((((map n3 ([]:List Int)).length:Nat):Int) > 0)=false:=rfl;simp only [iO,e1,cond_false,dI,dJ,mF,mG,cond_true,Bool.and_self,Option.bind_some]
theorem B4 (t:cu) (hS:uz t) (hP:t.1.length≤1000) (hT:t.2.length≤100000) (o3:Unit × Unit × List Int × List (List Int)) (l4:o3.2.2.1.length=t.1.length) (l5:o3.2.2.2.length=t.1.length) (p:Nat) (Hl:List Int × List (List Int) × List Int):∀ (n:Nat) (x:BS),Inv t p x (-1) 0→t.1.length+x.1.length < n+nz x.2.1 →
  ar (iO N t o3 ((p:Int),Hl)) n x=some (mu t p n x).2
 |0,x,h,hn=>by have:=B0 x.2.1; rw [h.ls] at this; omega
 |n+1,(l,y),h,hn=>by
  rw [gQ];cases l with
  |nil=>rw [Qf t o3 _ y]; rfl
  |cons a q=>
   obtain ⟨k,rfl,e2,e3,e4,e5⟩:=h.pop;rw [Ki hN t hS hP hT o3 l4 l5 p k Hl q y e2 e3 e4 e5];obtain ⟨c1,_,_,c4⟩:=pw hS e2 e3 e4 e5 t.2.length (Nat.le_refl _);have c4:(dN t p k (q,y) t.2.length).1.length+nz y.1=q.length+nz (dN t p k (q,y) t.2.length).2.1:=c4;have hn:t.1.length+(q.length+1) < n+1+nz y.1:=hn;exact B4 t hS hP hT o3 l4 l5 p Hl n (dN t p k (q,y) t.2.length) c1.done (by omega)
omit hN in
theorem wE (t:cu) (p:Int):∀ (n m:Nat) (x:BS),(mu t p n x).1=[]→mu t p (n+m) x=mu t p n x
 |0,m,(l,y),h=>by
  have h:l=[]:=h;subst h;rw [Nat.zero_add];cases m <;> rfl
 |n+1,m,(l,y),h=>by
  rw [show n+1+m=(n+m)+1 by omega];cases l with
  |nil=>rfl
  |cons a q=>exact wE t p n m (dN t p a (q,y) t.2.length) h
theorem Kj (t:cu) (hS:uz t) (hP:t.1.length≤1000) (hT:t.2.length≤100000) (o3:Unit × Unit × List Int × List (List Int)) (l4:o3.2.2.1.length=t.1.length) (l5:o3.2.2.2.length=t.1.length) (p:Nat) (hp:p < t.1.length) (y:List Int × List (List Int) × List Int) (h:Inv t p ([],y) (-1) 0) :
  mY N t o3 ((p:Int),y)=some (.inl (((p+1:Nat):Int),sI t y p)):=by
 have ls:y.1.length=t.1.length:=h.ls;have lp:y.2.1.length=t.1.length:=h.lp;have lt:y.2.2.length=t.1.length:=h.lt;have r_p:decide ((0:Int)≤(p:Int)∧(p:Int) < (t.1.length:Int))=true:=ah hp;have d_p:decide (p < t.1.length)=true:=decide_eq_true hp;have w:wrap .i64 ((p:Int)+1)=((p+1:Nat):Int):=aR (by omega);obtain ⟨g1,g2⟩:=g3 y.1 (k:=p) (by omega);have one:map n3 [(p:Int)]=[AV.int .i64 (p:Int)]:=rfl;have ac2:decide (1=([AV.int .i64 (p:Int)]).length)=true:=rfl;unfold sI;cases hz:(gI y.1 p != 0) with
 |true=>
  have S2:gI y.1 p≠0:=by simpa using hz
  rw [if_pos S2];simp only [mY,List.length_map,Int.toNat_natCast,ap hp,l4,l5,ls,lp,lt,r_p,d_p,g1,g2,hz,w,Nat.zero_add,cond_true,Bool.and_self,decide_true,dI,dJ,mF,mG,Option.bind_some]
 |false=>
  have S2:gI y.1 p=0:=by simpa using hz
  rw [if_neg (by rw [S2]; simp)];have hs:=B3 hp h S2;have hl:p < y.1.length:=by omega
  have Rt:nz (y.1.set p 1)=nz y.1+1:=z7 (by decide) _ p hl (by have:=S2; unfold gI at this; simpa using this);have c2:=sH hS (t.1.length+1) _ hs (by show t.1.length+1 < t.1.length+1+nz (y.1.set p 1); omega);have k1:=B4 hN t hS hP hT o3 l4 l5 p y N _ hs (by show t.1.length+1 < N+nz (y.1.set p 1); unfold ey at hN; omega);have k2:=wE t p (t.1.length+1) (N - (t.1.length+1)) _ c2.2;rw [show t.1.length+1+(N - (t.1.length+1))=N by unfold ey at hN; omega] at k2;rw [k2] at k1;have k1:ar (iO N t o3 ((p:Int),y)) N ([(p:Int)],y.1.set p 1,y.2.1,y.2.2.set p p)=_:=k1;simp only [mY,List.length_map,Int.toNat_natCast,ap hp,l4,l5,ls,lp,lt,r_p,d_p,g1,g2,hz,w,Nat.zero_add,cond_true,cond_false,Bool.and_self,decide_true,← one,ac2,Kg,List.length_singleton,dI,dJ,mF,mG,Option.bind_some,k1]
theorem Qg (t:cu) (hS:uz t) (hP:t.1.length≤1000) (hT:t.2.length≤100000) (o3:Unit × Unit × List Int × List (List Int)) (l4:o3.2.2.1.length=t.1.length) (l5:o3.2.2.2.length=t.1.length) :
  ar (mY N t o3) N ((0:Int),eL t 0)=some (eL t t.1.length):=by
 have key:=aU (rd:=mY N t o3) t.1.length (fun p=>((p:Int),eL t p)) (eL t t.1.length) (fun p hp=>Kj hN t hS hP hT o3 l4 l5 p hp _ (uA hS p (by omega))) (by
  simp only [mY,List.length_map,aJ,cond_false,dI,dJ,mF,mG,Bool.and_self,cond_true,Option.bind_some]) N 0 (Nat.zero_le _) (by unfold ey at hN; omega)
 exact key
end
end Go.Proofs.Ytegoimldbgdeiaa
