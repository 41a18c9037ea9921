/- Plain laws: the knots of a net. -/
import Derived.Test.YtophnjjjmikmeaaGreatOttPk
import Derived.Test.YtophnjjjmikmeaaGreatOttW
import Derived.Test.YtophnjjjmikmeaaGreatAmKM
set_option linter.all false
namespace Go.Proofs.YtophnjjjmikmeaaGreat
open Go Go.Am Go.Sort
set_option maxRecDepth 100000
def Mi:Int × Int→Int × Int→Bool:=ltOf Ad
def bW:List aV→List (Int × Int)
 | []=>[]
 | b :: l=>dq b :: eT b :: bW l
theorem od:∀ l:List aV,(bW l).length=2 * l.length
 | []=>rfl
 | b :: l=>by rw [bW,List.length_cons,List.length_cons,od l,List.length_cons]; omega
theorem rT:∀ (l:List aV) (k:Nat) (h:k / 2 < l.length) (h2:k < (bW l).length),(bW l)[k]=if k % 2=0 then dq l[k / 2] else eT l[k / 2]
 | [],k,h,_=>absurd h (Nat.not_lt_zero _)
 | b :: l,0,_,_=>rfl
 | b :: l,1,_,_=>rfl
 | b :: l,k+2,h,h2=>by
  have e:(k+2) / 2=k / 2+1:=by omega
  have e2:(k+2) % 2=k % 2:=by omega
  have hl:k / 2 < l.length:=by rw [e,List.length_cons] at h; omega
  have HW:k < (bW l).length:=by rw [od]; omega
  have ih:=rT l k hl HW
  simp only [e2]
  have g1:(bW (b :: l))[k+2]=(bW l)[k]:=rfl
  have g2:(b :: l)[(k+2) / 2]=l[k / 2]:=by
   have:∀ i (hi:i < (b :: l).length) (Gg:i=k / 2+1),(b :: l)[i]=l[k / 2]:=by
    intro i hi Gg; subst Gg; rfl
   exact this _ h e
  rw [g1,g2,ih]
def sW (l:List aV):List (Int × Int):=FO Mi (0,0) (bW l)
theorem GW (l:List (Int × Int)) {k:Nat} (hk:k < l.length):d23 (aw (List.map n23 l) k)=l[k]∧aj.fits iR (aw (List.map n23 l) k)=true:=by
 rw [gB n23 l k hk,Y1,Y0]; exact ⟨rfl,rfl⟩
section
variable {N:Nat} (hN:gU N)
include hN
omit hN in
theorem GX (N:Nat) (x y:Int × Int):Ta N (x,y)=some (decide (x=y)):=by
 rw [Tc]
 congr 1
 rw [Bool.eq_iff_iff]
 simp only [Bool.and_true,Bool.and_eq_true,beq_iff_eq,decide_eq_true_eq]
 constructor
 ·rintro ⟨h1,h2⟩; exact Prod.ext h1 h2
 ·rintro rfl; exact ⟨rfl,rfl⟩
omit hN in
theorem V7 (l:List (Int × Int)):ay (List.map n23 l)=true:=tQ (fun _=>rfl) l
omit hN in
theorem V8 (s:List (Int × Int)) (i:Nat) (a b:Int):au (List.map n23 s) i (AV.agg [AV.int .i64 a,AV.int .i64 b])=List.map n23 (s.set i (a,b)):=by
 rw [dw]
 show (List.map n23 s).set i (n23 (a,b))=_
 rw [List.map_set]
omit hN in
theorem OC (s:List (Int × Int)) (a b c d:Int):List.map n23 s++[AV.agg [AV.int .i64 a,AV.int .i64 b],AV.agg [AV.int .i64 c,AV.int .i64 d]]=List.map n23 (s++[(a,b),(c,d)]):=by
 rw [List.map_append]; rfl
theorem Lt (l:List aV) (hl:l.length≤1000000):aZ (sU N l) N ((),0,[])=some ((),bW l):=by
 have key:=lf (rd:=sU N l) l (fun s k=>((),(k:Int),s)) (fun s b=>s++[dq b,eT b]) (fun s=>((),s)) (fun s k=>s.length=2 * k) (fun s k hk hs=>by
  obtain ⟨a1,a2⟩:=yV l hk
  have q:GK N (l[k].1,l[k].2.1,l[k].2.2)=_:=xM N l[k]
  have gi:∀ a b c d:Int,ay [AV.int .i64 a,AV.int .i64 b,AV.int .i64 c,AV.int .i64 d]=true:=fun _ _ _ _=>rfl
  have hlen:(s++[(l[k].1,l[k].2.1),((eT l[k]).1,(eT l[k]).2)]).length=s.length+2:=by simp
  have hb:decide ((s.length+2) * 16≤140737488355328)=true:=decide_eq_true (by omega)
  refine ⟨?_,by rw [List.length_append,hs]; simp; omega⟩
  simp only [sU,List.length_map,Int.toNat_natCast,a1,a2,cu hk,bP hk,Bool.and_self,Bool.and_true,cond_true,q,Option.bind_some,gi,OC,hlen,hb,decide_true,Nat.beq_refl,rI,rJ,dy (show k < 9223372036854775807 by omega)]
  rfl) (fun s _=>by
  simp only [sU,List.length_map,du,cond_false,Nat.beq_refl,rI,rJ,Bool.and_self,Bool.and_true,cond_true,Option.bind_some]) N [] 0 (Nat.zero_le _) (by unfold gU at hN; omega) rfl
 have pU:aZ (sU N l) N ((),0,[])=_:=key
 rw [pU,List.drop_zero]
 congr 2
 have gen:∀ (l:List aV) (s:List (Int × Int)),l.foldl (fun s b=>s++[dq b,eT b]) s=s++bW l:=by
  intro l
  induction l with
  | nil=>intro s; simp [bW]
  | cons b l ih=>intro s; rw [List.foldl_cons,ih,bW,List.append_assoc]; rfl
 rw [gen]; rfl
section
variable (F st:List (Int × Int)) (hn:st.length=F.length) (hF:F.length≤2000000)
include hn hF
theorem Tp (m:Nat) (h1:1≤m) (hm:m < F.length) (hu:xW (0,0) st (m+1)=st.take m) :
  ∃ x,aZ (gb N ((),F) ((m:Int),st)) N ((m:Int),1,st)=some x∧∃ (t:Nat) (c:List (Int × Int)),x=((t:Int),c)∧c.length=F.length∧t≤F.length∧c.take t=xW (0,0) st F.length:=by
 refine sV (rd:=gb N ((),F) ((m:Int),st)) (S:=Nat × List (Int × Int)) (F.length - m - 1) (fun s i=>((s.1:Int),((i+1:Nat):Int),s.2))
  (fun s i=>s.1≤m+i∧s.2.length=F.length∧s.2.take s.1=xW (0,0) st (m+1+i)∧∀ t,m+i≤t→s.2[t]?=st[t]?) _ ?_ ?_ N (m,st) 0 (Nat.zero_le _) (by unfold gU at hN; omega) ⟨by omega,hn,hu.symm,fun _ _=>rfl⟩
 ·rintro ⟨t,c⟩ i hi ⟨i1,i2,i3,i4⟩
  simp only at i1 i2 i3 i4
  have hj:m+(i+1) < c.length:=by omega
  have hj0:m+i < c.length:=by omega
  have DB:m+(i+1) < st.length:=by omega
  have IT:m+i < st.length:=by omega
  have e1:c[m+(i+1)]=st[m+(i+1)]:=by
   have:=i4 (m+(i+1)) (by omega)
   rw [List.getElem?_eq_getElem hj,List.getElem?_eq_getElem DB] at this
   exact Option.some.inj this
  have e0:c[m+i]=st[m+i]:=by
   have:=i4 (m+i) (by omega)
   rw [List.getElem?_eq_getElem hj0,List.getElem?_eq_getElem IT] at this
   exact Option.some.inj this
  obtain ⟨a1,a2⟩:=GW c hj
  obtain ⟨b1,b2⟩:=GW c hj0
  rw [e1] at a1
  rw [e0] at b1
  have g1:st.getD (m+(i+1)) (0,0)=st[m+(i+1)]:=by simp [DB]
  have g0:st.getD (m+i) (0,0)=st[m+i]:=by simp [IT]
  have TN:xW (0,0) st (m+1+(i+1))=if st[m+(i+1)]=st[m+i] then xW (0,0) st (m+1+i) else xW (0,0) st (m+1+i)++[st[m+(i+1)]]:=by
   rw [show m+1+(i+1)=m+1+i+1 by omega]
   conv=>lhs; unfold xW
   rw [show m+1+i=m+(i+1) by omega,g1,show m+(i+1) - 1=m+i by omega,g0]
   by_cases h:st[m+(i+1)]=st[m+i]
   ·rw [if_pos h,if_pos ⟨by omega,h⟩]
   ·rw [if_neg h,if_neg fun c=>h c.2]
  have hw:IntKind.wrap .i64 (((i+1:Nat):Int) - 1)=(i:Int):=by rw [jA (by omega)]; omega
  have bK:decide (((i+1:Nat):Int) < ((F.length - m:Nat):Int))=true:=decide_eq_true (by omega)
  have AP:decide ((0:Int)≤((i+1:Nat):Int)∧((i+1:Nat):Int) < ((F.length - m:Nat):Int))=true:=decide_eq_true (by omega)
  have Ii:decide ((0:Int)≤(i:Int)∧(i:Int) < ((F.length - m:Nat):Int))=true:=decide_eq_true (by omega)
  have JJ:decide (m+(i+1) < F.length)=true:=decide_eq_true (by omega)
  have V9:decide (m+i < F.length)=true:=decide_eq_true (by omega)
  have hrt:decide ((0:Int)≤(t:Int)∧(t:Int) < (F.length:Int))=true:=decide_eq_true (by omega)
  have hdt:decide (t < F.length)=true:=decide_eq_true (by omega)
  have q:Ta N ((st[m+(i+1)].1,st[m+(i+1)].2),(st[m+i].1,st[m+i].2))=_:=GX N st[m+(i+1)] st[m+i]
  by_cases h:st[m+(i+1)]=st[m+i]
  ·rw [decide_eq_true h] at q
   refine ⟨(t,c),?_,by omega,i2,?_,fun t' qF=>i4 t' (by omega)⟩
   ·simp only [gb,List.length_map,Int.toNat_natCast,Nat.zero_add,hw,bK,AP,Ii,i2,JJ,V9,a1,a2,b1,b2,decide_true,Bool.and_self,Bool.and_true,cond_true,q,Option.bind_some,Bool.not_true,cond_false,rI,rJ,dy (show i+1 < 9223372036854775807 by omega)]
   ·rw [TN,if_pos h]; exact i3
  ·refine ⟨(t+1,c.set t st[m+(i+1)]),?_,by simp only; omega,by simp only [List.length_set]; exact i2,?_,fun t' qF=>?_⟩
   ·simp only [gb,List.length_map,Int.toNat_natCast,Nat.zero_add,hw,bK,AP,Ii,i2,JJ,V9,hrt,hdt,a1,a2,b1,b2,decide_true,Bool.and_self,Bool.and_true,cond_true,q,h,decide_false,Option.bind_some,Bool.not_false,V8,rI,rJ,dy (show i+1 < 9223372036854775807 by omega),dy (show t < 9223372036854775807 by omega)]
   ·rw [TN,if_neg h,← i3]
    simp only
    rw [List.take_succ,List.take_set_of_le (Nat.le_refl _),List.getElem?_set_self (by omega)]
    rfl
   ·simp only
    rw [List.getElem?_set_ne (by omega)]
    exact i4 t' (by omega)
 ·rintro ⟨t,c⟩ ⟨i1,i2,i3,i4⟩
  simp only at i1 i2 i3 i4
  have qe:decide (((F.length - m - 1+1:Nat):Int) < ((F.length - m:Nat):Int))=false:=decide_eq_false (by omega)
  refine ⟨((t:Int),c),?_,t,c,rfl,i2,by omega,?_⟩
  ·simp only [gb,List.length_map,Int.toNat_natCast,qe,cond_false,rI,rJ,Bool.and_true,cond_true,Option.bind_some]
  ·rw [i3]; congr 1; omega
omit hN hn hF in
theorem Dm (s:List AV):∀ (t:Nat) (z:List AV),t+z.length=s.length→(aY s t z).length=s.length∧(aY s t z).take t=s.take t:=by
 induction s with
 | nil=>intro t z h; cases z with
  | nil=>simp [aY]
  | cons y z=>simp at h
 | cons a s ih=>
  intro t z h
  cases z with
  | nil=>simp [aY]
  | cons y z=>
   cases t with
   | zero=>
    simp only [aY,List.length_cons,List.take_zero,and_true]
    have:=ih 0 z (by simp at h ⊢; omega)
    omega
   | succ t=>
    simp only [aY,List.length_cons,List.take_succ_cons]
    have:=ih t (y :: z) (by simp at h ⊢; omega)
    exact ⟨by omega,by rw [this.2]⟩
omit hN hn hF in
theorem sX:∀ (s:List AV) (t:Nat) (z:List AV),ay s=true→ay z=true→ay (aY s t z)=true
 | [],t,[],h1,h2=>by simpa [aY] using h1
 | [],t,y :: z,h1,h2=>rfl
 | a :: s,t,[],h1,h2=>by cases t <;> simpa [aY] using h1
 | a :: s,0,y :: z,h1,h2=>by
  simp only [ay,Bool.and_eq_true] at h1 h2
  simp only [aY,ay,Bool.and_eq_true]
  exact ⟨h2.1,sX s 0 z h1.2 h2.2⟩
 | a :: s,t+1,y :: z,h1,h2=>by
  simp only [ay,Bool.and_eq_true] at h1
  simp only [aY,ay,Bool.and_eq_true]
  exact ⟨h1.1,sX s t (y :: z) h1.2 h2⟩
theorem OD:∃ o,aZ (iO N ((),F)) N (1,st)=some o∧Sum.elim (fun l=>l) (fun l=>l) o=xW (0,0) st F.length∧∀ l,o=.inr l→l.length=F.length:=by
 have hN0:1≤F.length→F.length - 1 < N:=fun _=>by unfold gU at hN; omega
 by_cases hF0:F.length=0
 ·refine ⟨.inr st,?_,?_,fun l h=>by cases h; exact hn⟩
  ·obtain ⟨n,rfl⟩:∃ n,N=n+1:=⟨N - 1,by unfold gU at hN; omega⟩
   rw [bf]
   have qe:decide ((1:Int) < (F.length:Int))=false:=decide_eq_false (by omega)
   simp only [iO,List.length_map,qe,cond_false,rI,rJ,Bool.and_true,cond_true,Option.bind_some,Sum.elim_inr]
  ·rw [hF0]
   have:st=[]:=List.length_eq_zero_iff.1 (by omega)
   rw [this]; rfl
 refine Ae (rd:=iO N ((),F)) (S:=Unit) (F.length - 1) (fun _ k=>(((k+1:Nat):Int),st)) (fun _ k=>∀ j,0 < j→j < k+1→st.getD j (0,0)≠st.getD (j - 1) (0,0)) _ ?_ ?_ N () 0 (Nat.zero_le _) (by unfold gU at hN; omega) (fun j h1 h2=>by omega)
 ·rintro _ k hk hP
  have DB:k+1 < st.length:=by omega
  have IT:k < st.length:=by omega
  obtain ⟨a1,a2⟩:=GW st DB
  obtain ⟨b1,b2⟩:=GW st IT
  have g1:st.getD (k+1) (0,0)=st[k+1]:=by simp [DB]
  have g0:st.getD k (0,0)=st[k]:=by simp [IT]
  have hw:IntKind.wrap .i64 (((k+1:Nat):Int) - 1)=(k:Int):=by rw [jA (by omega)]; omega
  have AK:k+1 < F.length:=by omega
  have r7:k < F.length:=by omega
  have JJ:decide (k+1 < F.length)=true:=decide_eq_true AK
  have V9:decide (k < F.length)=true:=decide_eq_true r7
  have q:Ta N ((st[k+1].1,st[k+1].2),(st[k].1,st[k].2))=_:=GX N st[k+1] st[k]
  by_cases h:st[k+1]=st[k]
  ·right
   rw [decide_eq_true h] at q
   have ht:=rV (0,0) st (k+1) (by omega) hP
   have hu:xW (0,0) st (k+1+1)=st.take (k+1):=by
    rw [← ht]
    conv=>lhs; unfold xW
    rw [if_pos ⟨by omega,by rw [g1,show k+1 - 1=k by omega,g0]; exact h⟩]
   obtain ⟨x,r,t,c,rfl,c1,c2,ZB⟩:=Tp hN F st hn hF (k+1) (by omega) AK hu
   have hle:decide ((0:Int)≤((k+1:Nat):Int)∧((k+1:Nat):Int)≤(F.length:Int))=true:=decide_eq_true (by omega)
   have ZC:decide ((0:Int)≤(t:Int)∧(t:Int)≤(F.length:Int))=true:=decide_eq_true (by omega)
   obtain ⟨z1,z2⟩:=Dm (List.map n23 c) t (List.replicate (F.length - t) (AV.agg [AV.int .i64 0,AV.int .i64 0])) (by rw [List.length_replicate,List.length_map]; omega)
   have z3:ay (aY (List.map n23 c) t (List.replicate (F.length - t) (AV.agg [AV.int .i64 0,AV.int .i64 0])))=true:=sX _ _ _ (V7 c) (by
    have:∀ n,ay (List.replicate n (AV.agg [AV.int .i64 0,AV.int .i64 0]))=true:=by
     intro n
     induction n with
     | zero=>rfl
     | succ n ih=>rw [List.replicate_succ,ay,ih]; rfl
    exact this _)
   have hs:decide (t+(F.length - t)≤F.length)=true:=decide_eq_true (by omega)
   have ht2:decide (t≤F.length)=true:=decide_eq_true c2
   rw [List.length_map] at z1
   refine ⟨.inl (xW (0,0) st F.length),?_,rfl,fun l h=>by cases h⟩
   have hmt:List.take t (List.map n23 c)=List.map n23 (List.take t c):=by rw [List.map_take]
   simp only [iO,List.length_map,Int.toNat_natCast,Nat.zero_add,hw,cu AK,bP AK,bP r7,hn,JJ,V9,a1,a2,b1,b2,decide_true,Bool.and_self,Bool.and_true,cond_true,q,hle,rI,rJ,Option.bind_some,r,ZC,c1,hs,z1,ht2,z3,z2,hmt,ZB]
  ·left
   rw [decide_eq_false h] at q
   refine ⟨(),?_,fun j h1 h2=>?_⟩
   ·simp only [iO,List.length_map,Int.toNat_natCast,Nat.zero_add,hw,cu AK,bP AK,bP r7,hn,JJ,V9,a1,a2,b1,b2,decide_true,Bool.and_self,Bool.and_true,cond_true,q,cond_false,rI,rJ,Option.bind_some,dy (show k+1 < 9223372036854775807 by omega)]
   ·by_cases hj:j=k+1
    ·subst hj
     rw [g1,show k+1 - 1=k by omega,g0]; exact h
    ·exact hP j h1 (by omega)
 ·intro _ hP
  have qe:decide (((F.length - 1+1:Nat):Int) < (F.length:Int))=false:=decide_eq_false (by omega)
  refine ⟨.inr st,?_,?_,fun l h=>by cases h; exact hn⟩
  ·simp only [iO,List.length_map,qe,cond_false,rI,rJ,Bool.and_true,cond_true,Option.bind_some]
  ·have:=rV (0,0) st F.length (by omega) (fun j h1 h2=>hP j h1 (by omega))
   rw [this,← hn,List.take_length]
   rfl
end
theorem Iy (l:List aV) (hl:l.length≤1000000):Xt N l=some (sW l):=by
 have hs:dR iR Ad (List.map n23 (bW l))=List.map n23 ((bW l).mergeSort fun x y=>!Mi y x):=by
  unfold dR
  rw [show List.map (aj.bh iR) (List.map n23 (bW l))=bW l from rJ _]
  rfl
 have hfp:allFit (aj.fits iR) (List.map n23 (bW l))=true:=rI _
 have hlen:((bW l).mergeSort fun x y=>!Mi y x).length=(bW l).length:=List.length_mergeSort _
 have hb:decide ((bW l).length≤140737488355328)=true:=decide_eq_true (by rw [od]; omega)
 have tu:(bW l).length≤2000000:=by rw [od]; omega
 have Xz:=To FI Lm (0,0) (bW l)
 have Xz:xW (0,0) ((bW l).mergeSort fun x y=>!Mi y x) (bW l).length=sW l:=Xz
 have z:((bif ((Nat.beq 0 (([]:List AV)).length&&Nat.beq 0 (([]:List AV)).length)&&(allFit (aj.fits iR) ([]:List AV)&&true)) then some ((),0,(List.map d23 ([]:List AV))) else none:Option (Unit × Int × (List (Int × Int)))).bind fun w7=>some w7)=some ((),0,[]):=rfl
 rw [Tf,z,Option.bind_some,Lt hN l hl,Option.bind_some]
 simp only [hs,hfp,List.length_map,hb,hlen,decide_true,Bool.and_self,Bool.and_true,cond_true,Nat.le_refl,V7,rI,rJ,Option.bind_some]
 by_cases h2:((bW l).length:Int) < 2
 ·have ht:List.take (bW l).length (List.map n23 ((bW l).mergeSort fun x y=>!Mi y x))=List.map n23 ((bW l).mergeSort fun x y=>!Mi y x):=List.take_of_length_le (by rw [List.length_map,hlen]; exact Nat.le_refl _)
  simp only [h2,decide_true,cond_true,ht,rI,rJ,Option.bind_some]
  congr 1
  rw [← Xz,rV (0,0) _ _ (by rw [hlen]; exact Nat.le_refl _) (fun j a b=>by omega),List.take_of_length_le (by rw [hlen]; exact Nat.le_refl _)]
 ·obtain ⟨o,r,e,HW⟩:=OD hN (bW l) ((bW l).mergeSort fun x y=>!Mi y x) hlen tu
  simp only [h2,decide_false,cond_false,r,Option.bind_some]
  rw [Xz] at e
  cases o with
  | inl x=>
   simp only [Sum.elim_inl] at e ⊢
   rw [e]
   simp only [rI,rJ,cond_true,Option.bind_some]
  | inr x=>
   have hx:=HW x rfl
   simp only [Sum.elim_inr] at e ⊢
   subst e
   have ht:List.take (bW l).length (List.map n23 (sW l))=List.map n23 (sW l):=List.take_of_length_le (by rw [List.length_map,hx]; exact Nat.le_refl _)
   simp only [hx,decide_true,Nat.le_refl,Bool.and_self,cond_true,ht,rI,rJ,Option.bind_some]
end
end Go.Proofs.YtophnjjjmikmeaaGreat
