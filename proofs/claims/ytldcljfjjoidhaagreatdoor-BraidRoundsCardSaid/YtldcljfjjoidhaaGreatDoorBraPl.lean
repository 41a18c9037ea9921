/- Plain laws: the knots of a net. -/
import Derived.Test.YtldcljfjjoidhaaGreatDoorBraPk
set_option linter.all false
namespace Go.Proofs.YtldcljfjjoidhaaGreatDoor
open Go Go.Am Go.Sort
open List (map)
open Int (toNat)
open Go.IntKind (wrap)
open Go.Am.aT (fits)
set_option maxRecDepth 100000
def ID:Int × Int→Int × Int→Bool:=ltOf z7
theorem We (x y:Int × Int):ID x y=decide (x.2 < y.2∨x.2=y.2∧x.1 < y.1):=xU x y
def bZ:List dM→List XA
 | []=>[]
 | b :: l=>mE b :: mH b :: bZ l
theorem pf:∀ l:List dM,(bZ l).length=2 * l.length
 | []=>rfl
 | b :: l=>by rw [bZ,List.length_cons,List.length_cons,pf l,List.length_cons]; omega
theorem sk:∀ (l:List dM) (k:Nat) (h:k / 2 < l.length) (h2:k < (bZ l).length),(bZ l)[k]=if k % 2=0 then mE l[k / 2] else mH l[k / 2]
 | [],k,h,_=>absurd h (Nat.not_lt_zero _)
 | b :: l,0,_,_=>rfl
 | b :: l,1,_,_=>rfl
 | b :: l,k+2,h,h2=>by
  have e:(k+2) / 2=k / 2+1:=by omega
  have e2:(k+2) % 2=k % 2:=by omega
  have hl:k / 2 < l.length:=by rw [e,List.length_cons] at h; omega
  have JN:k < (bZ l).length:=by rw [pf]; omega
  have ih:=sk l k hl JN
  simp only [e2]
  have g1:(bZ (b :: l))[k+2]=(bZ l)[k]:=rfl
  have g2:(b :: l)[(k+2) / 2]=l[k / 2]:=by
   have:∀ i (hi:i < (b :: l).length) (BK:i=k / 2+1),(b :: l)[i]=l[k / 2]:=by
    intro i hi BK; subst BK; rfl
   exact this _ h e
  rw [g1,g2,ih]
def fR (l:List dM):List XA:=Bt ID (0,0) (bZ l)
theorem Ae (l:List XA) {k:Nat} (hk:k < l.length):cn (af (map av l) k)=l[k]∧fits cz (af (map av l) k)=true:=by
 rw [gM av l k hk,YE,YD]; exact ⟨rfl,rfl⟩
section
variable {N:Nat} (hN:fB N)
include hN
omit hN in
theorem DA (N:Nat) (x y:Int × Int):FB N (x,y)=some (decide (x=y)):=by
 rw [Q1]
 congr 1
 rw [Bool.eq_iff_iff]
 simp only [Bool.and_true,Bool.and_eq_true,beq_iff_eq,decide_eq_true_eq]
 constructor
 ·rintro ⟨h1,h2⟩; exact Prod.ext h1 h2
 ·rintro rfl; exact ⟨rfl,rfl⟩
omit hN in
theorem ZT (l:List XA):aH (map av l)=true:=uj (fun _=>rfl) l
omit hN in
theorem ZU (s:List XA) (i:Nat) (a b:Int):aB (map av s) i (AV.agg [AV.int .i64 a,AV.int .i64 b])=map av (s.set i (a,b)):=by
 rw [fu]
 show (map av s).set i (av (a,b))=_
 rw [List.map_set]
omit hN in
theorem Rl (s:List XA) (a b c d:Int):map av s++[AV.agg [AV.int .i64 a,AV.int .i64 b],AV.agg [AV.int .i64 c,AV.int .i64 d]]=map av (s++[(a,b),(c,d)]):=by
 rw [List.map_append]; rfl
theorem IE (l:List dM) (hl:l.length≤1000000):aG (pO N l) N ((),0,[])=some ((),bZ l):=by
 have key:=ls (rd:=pO N l) l (fun s k=>((),(k:Int),s)) (fun s b=>s++[mE b,mH b]) (fun s=>((),s)) (fun s k=>s.length=2 * k) (fun s k hk hs=>by
  obtain ⟨a1,a2⟩:=jM l hk
  have q:Df N (l[k].1,l[k].2.1,l[k].2.2)=_:=Ac N l[k]
  have je:∀ a b c d:Int,aH [AV.int .i64 a,AV.int .i64 b,AV.int .i64 c,AV.int .i64 d]=true:=fun _ _ _ _=>rfl
  have hlen:(s++[(l[k].1,l[k].2.1),((mH l[k]).1,(mH l[k]).2)]).length=s.length+2:=by simp
  have hb:decide ((s.length+2) * 16≤140737488355328)=true:=decide_eq_true (by omega)
  refine ⟨?_,by rw [List.length_append,hs]; simp; omega⟩
  simp only [pO,List.length_map,Int.toNat_natCast,a1,a2,bf hk,aO hk,Bool.and_self,Bool.and_true,cond_true,q,Option.bind_some,je,Rl,hlen,hb,decide_true,Nat.beq_refl,lO,lP,bA (show k < 9223372036854775807 by omega)]
  rfl) (fun s _=>by
  simp only [pO,List.length_map,bt,cond_false,Nat.beq_refl,lO,lP,Bool.and_self,Bool.and_true,cond_true,Option.bind_some]) N [] 0 (Nat.zero_le _) (by unfold fB at hN; omega) rfl
 have lQ:aG (pO N l) N ((),0,[])=_:=key
 rw [lQ,List.drop_zero]
 congr 2
 have gen:∀ (l:List dM) (s:List XA),l.foldl (fun s b=>s++[mE b,mH b]) s=s++bZ l:=by
  intro l
  induction l with
  | nil=>intro s; simp [bZ]
  | cons b l ih=>intro s; rw [List.foldl_cons,ih,bZ,List.append_assoc]; rfl
 rw [gen]; rfl
section
variable (F st:List XA) (hn:st.length=F.length) (hF:F.length≤2000000)
include hn hF
theorem Rm (m:Nat) (h1:1≤m) (hm:m < F.length) (hu:xO (0,0) st (m+1)=st.take m) :
  ∃ x,aG (eO N ((),F) ((m:Int),st)) N ((m:Int),1,st)=some x∧∃ (t:Nat) (c:List XA),x=((t:Int),c)∧c.length=F.length∧t≤F.length∧c.take t=xO (0,0) st F.length:=by
 refine zU (rd:=eO N ((),F) ((m:Int),st)) (S:=Nat × List XA) (F.length - m - 1) (fun s i=>((s.1:Int),((i+1:Nat):Int),s.2))
  (fun s i=>s.1≤m+i∧s.2.length=F.length∧s.2.take s.1=xO (0,0) st (m+1+i)∧∀ t,m+i≤t→s.2[t]?=st[t]?) _ ?_ ?_ N (m,st) 0 (Nat.zero_le _) (by unfold fB at hN; omega) ⟨by omega,hn,hu.symm,fun _ _=>rfl⟩
 ·rintro ⟨t,c⟩ i hi ⟨i1,i2,i3,i4⟩
  simp only at i1 i2 i3 i4
  have hj:m+(i+1) < c.length:=by omega
  have hj0:m+i < c.length:=by omega
  have FX:m+(i+1) < st.length:=by omega
  have LO:m+i < st.length:=by omega
  have e1:c[m+(i+1)]=st[m+(i+1)]:=by
   have:=i4 (m+(i+1)) (by omega)
   rw [List.getElem?_eq_getElem hj,List.getElem?_eq_getElem FX] at this
   exact Option.some.inj this
  have e0:c[m+i]=st[m+i]:=by
   have:=i4 (m+i) (by omega)
   rw [List.getElem?_eq_getElem hj0,List.getElem?_eq_getElem LO] at this
   exact Option.some.inj this
  obtain ⟨a1,a2⟩:=Ae c hj
  obtain ⟨b1,b2⟩:=Ae c hj0
  rw [e1] at a1
  rw [e0] at b1
  have g1:st.getD (m+(i+1)) (0,0)=st[m+(i+1)]:=by simp [FX]
  have g0:st.getD (m+i) (0,0)=st[m+i]:=by simp [LO]
  have W0:xO (0,0) st (m+1+(i+1))=if st[m+(i+1)]=st[m+i] then xO (0,0) st (m+1+i) else xO (0,0) st (m+1+i)++[st[m+(i+1)]]:=by
   rw [show m+1+(i+1)=m+1+i+1 by omega]
   conv=>lhs; unfold xO
   rw [show m+1+i=m+(i+1) by omega,g1,show m+(i+1) - 1=m+i by omega,g0]
   by_cases h:st[m+(i+1)]=st[m+i]
   ·rw [if_pos h,if_pos ⟨by omega,h⟩]
   ·rw [if_neg h,if_neg fun c=>h c.2]
  have hw:wrap .i64 (((i+1:Nat):Int) - 1)=(i:Int):=by rw [iE (by omega)]; omega
  have bV:decide (((i+1:Nat):Int) < ((F.length - m:Nat):Int))=true:=decide_eq_true (by omega)
  have vT:decide ((0:Int)≤((i+1:Nat):Int)∧((i+1:Nat):Int) < ((F.length - m:Nat):Int))=true:=decide_eq_true (by omega)
  have Sj:decide ((0:Int)≤(i:Int)∧(i:Int) < ((F.length - m:Nat):Int))=true:=decide_eq_true (by omega)
  have Jz:decide (m+(i+1) < F.length)=true:=decide_eq_true (by omega)
  have ZV:decide (m+i < F.length)=true:=decide_eq_true (by omega)
  have hrt:decide ((0:Int)≤(t:Int)∧(t:Int) < (F.length:Int))=true:=decide_eq_true (by omega)
  have hdt:decide (t < F.length)=true:=decide_eq_true (by omega)
  have q:FB N ((st[m+(i+1)].1,st[m+(i+1)].2),(st[m+i].1,st[m+i].2))=_:=DA N st[m+(i+1)] st[m+i]
  by_cases h:st[m+(i+1)]=st[m+i]
  ·rw [decide_eq_true h] at q
   refine ⟨(t,c),?_,by omega,i2,?_,fun t' CA=>i4 t' (by omega)⟩
   ·simp only [eO,List.length_map,Int.toNat_natCast,Nat.zero_add,hw,bV,vT,Sj,i2,Jz,ZV,a1,a2,b1,b2,decide_true,Bool.and_self,Bool.and_true,cond_true,q,Option.bind_some,Bool.not_true,cond_false,lO,lP,bA (show i+1 < 9223372036854775807 by omega)]
   ·rw [W0,if_pos h]; exact i3
  ·refine ⟨(t+1,c.set t st[m+(i+1)]),?_,by simp only; omega,by simp only [List.length_set]; exact i2,?_,fun t' CA=>?_⟩
   ·simp only [eO,List.length_map,Int.toNat_natCast,Nat.zero_add,hw,bV,vT,Sj,i2,Jz,ZV,hrt,hdt,a1,a2,b1,b2,decide_true,Bool.and_self,Bool.and_true,cond_true,q,h,decide_false,Option.bind_some,Bool.not_false,ZU,lO,lP,bA (show i+1 < 9223372036854775807 by omega),bA (show t < 9223372036854775807 by omega)]
   ·rw [W0,if_neg h,← i3]
    simp only
    rw [List.take_succ,List.take_set_of_le (Nat.le_refl _),List.getElem?_set_self (by omega)]
    rfl
   ·simp only
    rw [List.getElem?_set_ne (by omega)]
    exact i4 t' (by omega)
 ·rintro ⟨t,c⟩ ⟨i1,i2,i3,i4⟩
  simp only at i1 i2 i3 i4
  have mF:decide (((F.length - m - 1+1:Nat):Int) < ((F.length - m:Nat):Int))=false:=decide_eq_false (by omega)
  refine ⟨((t:Int),c),?_,t,c,rfl,i2,by omega,?_⟩
  ·simp only [eO,List.length_map,Int.toNat_natCast,mF,cond_false,lO,lP,Bool.and_true,cond_true,Option.bind_some]
  ·rw [i3]; congr 1; omega
omit hN hn hF in
theorem DB (s:List AV):∀ (t:Nat) (z:List AV),t+z.length=s.length→(bg s t z).length=s.length∧(bg s t z).take t=s.take t:=by
 induction s with
 | nil=>intro t z h; cases z with
  | nil=>simp [bg]
  | cons y z=>simp at h
 | cons a s ih=>
  intro t z h
  cases z with
  | nil=>simp [bg]
  | cons y z=>
   cases t with
   | zero=>
    simp only [bg,List.length_cons,List.take_zero,and_true]
    have:=ih 0 z (by simp at h ⊢; omega)
    omega
   | succ t=>
    simp only [bg,List.length_cons,List.take_succ_cons]
    have:=ih t (y :: z) (by simp at h ⊢; omega)
    exact ⟨by omega,by rw [this.2]⟩
omit hN hn hF in
theorem tD:∀ (s:List AV) (t:Nat) (z:List AV),aH s=true→aH z=true→aH (bg s t z)=true
 | [],t,[],h1,h2=>by simpa [bg] using h1
 | [],t,y :: z,h1,h2=>rfl
 | a :: s,t,[],h1,h2=>by cases t <;> simpa [bg] using h1
 | a :: s,0,y :: z,h1,h2=>by
  simp only [aH,Bool.and_eq_true] at h1 h2
  simp only [bg,aH,Bool.and_eq_true]
  exact ⟨h2.1,tD s 0 z h1.2 h2.2⟩
 | a :: s,t+1,y :: z,h1,h2=>by
  simp only [aH,Bool.and_eq_true] at h1
  simp only [bg,aH,Bool.and_eq_true]
  exact ⟨h1.1,tD s t (y :: z) h1.2 h2⟩
theorem Mx:∃ o,aG (fQ N ((),F)) N (1,st)=some o∧Sum.elim (fun l=>l) (fun l=>l) o=xO (0,0) st F.length∧∀ l,o=.inr l→l.length=F.length:=by
 have hN0:1≤F.length→F.length - 1 < N:=fun _=>by unfold fB at hN; omega
 by_cases hF0:F.length=0
 ·refine ⟨.inr st,?_,?_,fun l h=>by cases h; exact hn⟩
  ·obtain ⟨n,rfl⟩:∃ n,N=n+1:=⟨N - 1,by unfold fB at hN; omega⟩
   rw [bh]
   have mF:decide ((1:Int) < (F.length:Int))=false:=decide_eq_false (by omega)
   simp only [fQ,List.length_map,mF,cond_false,lO,lP,Bool.and_true,cond_true,Option.bind_some,Sum.elim_inr]
  ·rw [hF0]
   have:st=[]:=List.length_eq_zero_iff.1 (by omega)
   rw [this]; rfl
 refine zV (rd:=fQ N ((),F)) (S:=Unit) (F.length - 1) (fun _ k=>(((k+1:Nat):Int),st)) (fun _ k=>∀ j,0 < j→j < k+1→st.getD j (0,0)≠st.getD (j - 1) (0,0)) _ ?_ ?_ N () 0 (Nat.zero_le _) (by unfold fB at hN; omega) (fun j h1 h2=>by omega)
 ·rintro _ k hk hP
  have FX:k+1 < st.length:=by omega
  have LO:k < st.length:=by omega
  obtain ⟨a1,a2⟩:=Ae st FX
  obtain ⟨b1,b2⟩:=Ae st LO
  have g1:st.getD (k+1) (0,0)=st[k+1]:=by simp [FX]
  have g0:st.getD k (0,0)=st[k]:=by simp [LO]
  have hw:wrap .i64 (((k+1:Nat):Int) - 1)=(k:Int):=by rw [iE (by omega)]; omega
  have DM:k+1 < F.length:=by omega
  have sV:k < F.length:=by omega
  have Jz:decide (k+1 < F.length)=true:=decide_eq_true DM
  have ZV:decide (k < F.length)=true:=decide_eq_true sV
  have q:FB N ((st[k+1].1,st[k+1].2),(st[k].1,st[k].2))=_:=DA N st[k+1] st[k]
  by_cases h:st[k+1]=st[k]
  ·right
   rw [decide_eq_true h] at q
   have ht:=sq (0,0) st (k+1) (by omega) hP
   have hu:xO (0,0) st (k+1+1)=st.take (k+1):=by
    rw [← ht]
    conv=>lhs; unfold xO
    rw [if_pos ⟨by omega,by rw [g1,show k+1 - 1=k by omega,g0]; exact h⟩]
   obtain ⟨x,r,t,c,rfl,c1,c2,c3'⟩:=Rm hN F st hn hF (k+1) (by omega) DM hu
   have hle:decide ((0:Int)≤((k+1:Nat):Int)∧((k+1:Nat):Int)≤(F.length:Int))=true:=decide_eq_true (by omega)
   have adK:decide ((0:Int)≤(t:Int)∧(t:Int)≤(F.length:Int))=true:=decide_eq_true (by omega)
   obtain ⟨z1,z2⟩:=DB (map av c) t (List.replicate (F.length - t) (AV.agg [AV.int .i64 0,AV.int .i64 0])) (by rw [List.length_replicate,List.length_map]; omega)
   have z3:aH (bg (map av c) t (List.replicate (F.length - t) (AV.agg [AV.int .i64 0,AV.int .i64 0])))=true:=tD _ _ _ (ZT c) (by
    have:∀ n,aH (List.replicate n (AV.agg [AV.int .i64 0,AV.int .i64 0]))=true:=by
     intro n
     induction n with
     | zero=>rfl
     | succ n ih=>rw [List.replicate_succ,aH,ih]; rfl
    exact this _)
   have hs:decide (t+(F.length - t)≤F.length)=true:=decide_eq_true (by omega)
   have ht2:decide (t≤F.length)=true:=decide_eq_true c2
   rw [List.length_map] at z1
   refine ⟨.inl (xO (0,0) st F.length),?_,rfl,fun l h=>by cases h⟩
   have hmt:List.take t (map av c)=map av (List.take t c):=by rw [List.map_take]
   simp only [fQ,List.length_map,Int.toNat_natCast,Nat.zero_add,hw,bf DM,aO DM,aO sV,hn,Jz,ZV,a1,a2,b1,b2,decide_true,Bool.and_self,Bool.and_true,cond_true,q,hle,lO,lP,Option.bind_some,r,adK,c1,hs,z1,ht2,z3,z2,hmt,c3']
  ·left
   rw [decide_eq_false h] at q
   refine ⟨(),?_,fun j h1 h2=>?_⟩
   ·simp only [fQ,List.length_map,Int.toNat_natCast,Nat.zero_add,hw,bf DM,aO DM,aO sV,hn,Jz,ZV,a1,a2,b1,b2,decide_true,Bool.and_self,Bool.and_true,cond_true,q,cond_false,lO,lP,Option.bind_some,bA (show k+1 < 9223372036854775807 by omega)]
   ·by_cases hj:j=k+1
    ·subst hj
     rw [g1,show k+1 - 1=k by omega,g0]; exact h
    ·exact hP j h1 (by omega)
 ·intro _ hP
  have mF:decide (((F.length - 1+1:Nat):Int) < (F.length:Int))=false:=decide_eq_false (by omega)
  refine ⟨.inr st,?_,?_,fun l h=>by cases h; exact hn⟩
  ·simp only [fQ,List.length_map,mF,cond_false,lO,lP,Bool.and_true,cond_true,Option.bind_some]
  ·have:=sq (0,0) st F.length (by omega) (fun j h1 h2=>hP j h1 (by omega))
   rw [this,← hn,List.take_length]
   rfl
end
theorem FG (l:List dM) (hl:l.length≤1000000):Q2 N l=some (fR l):=by
 have hs:gv cz z7 (map av (bZ l))=map av ((bZ l).mergeSort fun x y=>!ID y x):=by
  unfold gv
  rw [show map (aT.bw cz) (map av (bZ l))=bZ l from lP _]
  rfl
 have hfp:allFit (fits cz) (map av (bZ l))=true:=lO _
 have hlen:((bZ l).mergeSort fun x y=>!ID y x).length=(bZ l).length:=List.length_mergeSort _
 have hb:decide ((bZ l).length≤140737488355328)=true:=decide_eq_true (by rw [pf]; omega)
 have tP:(bZ l).length≤2000000:=by rw [pf]; omega
 have huq:=Vl Ix QQ (0,0) (bZ l)
 have huq:xO (0,0) ((bZ l).mergeSort fun x y=>!ID y x) (bZ l).length=fR l:=huq
 have z:((bif ((Nat.beq 0 (([]:List AV)).length&&Nat.beq 0 (([]:List AV)).length)&&(allFit (fits cz) ([]:List AV)&&true)) then some ((),0,(map cn ([]:List AV))) else none:Option (Unit × Int × lN)).bind fun w7=>some w7)=some ((),0,[]):=rfl
 rw [Q5,z,Option.bind_some,IE hN l hl,Option.bind_some]
 simp only [hs,hfp,List.length_map,hb,hlen,decide_true,Bool.and_self,Bool.and_true,cond_true,Nat.le_refl,ZT,lO,lP,Option.bind_some]
 by_cases h2:((bZ l).length:Int) < 2
 ·have ht:List.take (bZ l).length (map av ((bZ l).mergeSort fun x y=>!ID y x))=map av ((bZ l).mergeSort fun x y=>!ID y x):=List.take_of_length_le (by rw [List.length_map,hlen]; exact Nat.le_refl _)
  simp only [h2,decide_true,cond_true,ht,lO,lP,Option.bind_some]
  congr 1
  rw [← huq,sq (0,0) _ _ (by rw [hlen]; exact Nat.le_refl _) (fun j a b=>by omega),List.take_of_length_le (by rw [hlen]; exact Nat.le_refl _)]
 ·obtain ⟨o,r,e,JN⟩:=Mx hN (bZ l) ((bZ l).mergeSort fun x y=>!ID y x) hlen tP
  simp only [h2,decide_false,cond_false,r,Option.bind_some]
  rw [huq] at e
  cases o with
  | inl x=>
   simp only [Sum.elim_inl] at e ⊢
   rw [e]
   simp only [lO,lP,cond_true,Option.bind_some]
  | inr x=>
   have hx:=JN x rfl
   simp only [Sum.elim_inr] at e ⊢
   subst e
   have ht:List.take (bZ l).length (map av (fR l))=map av (fR l):=List.take_of_length_le (by rw [List.length_map,hx]; exact Nat.le_refl _)
   simp only [hx,decide_true,Nat.le_refl,Bool.and_self,cond_true,ht,lO,lP,Option.bind_some]
end
end Go.Proofs.YtldcljfjjoidhaaGreatDoor
