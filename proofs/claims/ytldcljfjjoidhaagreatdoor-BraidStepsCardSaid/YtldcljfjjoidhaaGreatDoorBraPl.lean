/- Plain laws: the knots of a net. -/
import Derived.Test.YtldcljfjjoidhaaGreatDoorBraPk
set_option linter.all false
namespace Go.Proofs.YtldcljfjjoidhaaGreatDoor
open Go Go.Am Go.Sort
set_option maxRecDepth 100000
def sw:Int × Int→Int × Int→Bool:=ltOf yW
theorem KV (x y:Int × Int):sw x y=decide (x.2 < y.2∨x.2=y.2∧x.1 < y.1):=wT x y
def bz:List dR→List (Int × Int)
 | []=>[]
 | b :: l=>rv b :: n9 b :: bz l
theorem iR:∀ l:List dR,(bz l).length=2 * l.length
 | []=>rfl
 | b :: l=>by rw [bz,List.length_cons,List.length_cons,iR l,List.length_cons]; omega
theorem nU:∀ (l:List dR) (k:Nat) (h:k / 2 < l.length) (h2:k < (bz l).length),(bz l)[k]=if k % 2=0 then rv l[k / 2] else n9 l[k / 2]
 | [],k,h,_=>absurd h (Nat.not_lt_zero _)
 | b :: l,0,_,_=>rfl
 | b :: l,1,_,_=>rfl
 | b :: l,k+2,h,h2=>by
  have e:(k+2) / 2=k / 2+1:=by omega
  have e2:(k+2) % 2=k % 2:=by omega
  have hl:k / 2 < l.length:=by rw [e,List.length_cons] at h; omega
  have Ii:k < (bz l).length:=by rw [iR]; omega
  have ih:=nU l k hl Ii
  simp only [e2]
  have g1:(bz (b :: l))[k+2]=(bz l)[k]:=rfl
  have g2:(b :: l)[(k+2) / 2]=l[k / 2]:=by
   have:∀ i (hi:i < (b :: l).length) (EG:i=k / 2+1),(b :: l)[i]=l[k / 2]:=by
    intro i hi EG; subst EG; rfl
   exact this _ h e
  rw [g1,g2,ih]
def bK (l:List dR):List (Int × Int):=Ao sw (0,0) (bz l)
theorem kI (l:List (Int × Int)) {k:Nat} (hk:k < l.length):d86 (ah (List.map au l) k)=l[k]∧aj.fits cG (ah (List.map au l) k)=true:=by
 rw [fV au l k hk,Wr,Wq]; exact ⟨rfl,rfl⟩
theorem Eh (l:List (Int × Int)) (a b:Nat):cQ a b (List.map au l)=List.map au ((l.take b).drop a):=by simp [cQ,List.map_take,List.map_drop]
theorem KW (x o:Int × Int):(bif decide (x.2 < o.2) then some true else bif (x.2 == o.2) then some (decide (x.1 < o.1)) else some false)=some (sw x o):=by
 rw [KV]
 by_cases h1:x.2 < o.2
 ·simp [h1]
 ·by_cases h2:x.2=o.2
  ·simp [h2]
  ·have hb:(x.2 == o.2)=false:=beq_false_of_ne h2
   simp [h1,h2,hb]
section
variable {N:Nat} (hN:fq N)
include hN
theorem Uf (s:List (Int × Int)) (i:Int) (o:Int × Int) (hs:s.length≤2000000):az (ir N (s,i) o) N 0=some ((s.takeWhile fun x=>sw x o).length:Int):=by
 have q:=n4 (rd:=ir N (s,i) o) s.length (fun k=>(k:Int)) (fun k=>!sw (s.getD k (0,0)) o) (fun k=>(k:Int)) (s.length:Int) (fun k hk=>by
  obtain ⟨a1,a2⟩:=kI s hk
  have e:s.getD k (0,0)=s[k]:=by simp [hk]
  rw [e]
  have hb:=KW s[k] o
  simp only [ir,List.length_map,Int.toNat_natCast,a1,a2,bc hk,aI hk,Bool.and_self,cond_true,bk (show k < 9223372036854775807 by omega),hb,Option.bind_some]
  cases sw s[k] o <;> rfl) (by
  simp only [ir,List.length_map,bq,cond_false,Option.bind_some]) N (by unfold fq at hN; omega)
 have q':az (ir N (s,i) o) N 0=_:=q
 rw [q']
 have:=Fp s (fun x=>sw x o) (0,0)
 rw [← this]
 cases (List.range s.length).find? fun j=>!sw (s.getD j (0,0)) o <;> rfl
theorem KX (l:List dR) (s:List (Int × Int)) (k:Nat) (hl:l.length≤1000000) (hs:s.length≤2000000) (hk:k < 2 * l.length) (hk2:k < (bz l).length):sr N l (s,(k:Int))=some (.inl (mR sw (0,0) (bz l)[k] s,((k+1:Nat):Int))):=by
 have hk3:k / 2 < l.length:=by omega
 have hw:IntKind.wrap .i64 (2 * (l.length:Int))=((2 * l.length:Nat):Int):=by rw [gY (by omega)]; omega
 have hd:IntKind.wrap .i64 (Int.tdiv (k:Int) 2)=((k / 2:Nat):Int):=by
  rw [Int.tdiv_eq_ediv_of_nonneg (by omega),gY (by omega)]; omega
 have hm:Int.tmod (k:Int) 2=((k % 2:Nat):Int):=by
  rw [Int.tmod_eq_emod_of_nonneg (by omega)]; omega
 obtain ⟨a1,a2⟩:=jg l hk3
 have abe:KD N (l[k / 2].1,l[k / 2].2.1,l[k / 2].2.2)=_:=G5 N l[k / 2]
 have ho:((bif decide (((k % 2:Nat):Int)=0) then some (l[k / 2].1,l[k / 2].2.1) else bif decide (((k % 2:Nat):Int)=1) then some ((n9 l[k / 2]).1,(n9 l[k / 2]).2) else none):Option (Int × Int))=some (bz l)[k]:=by
  rw [nU l k hk3 hk2]
  by_cases h:k % 2=0
  ·rw [h]; rfl
  ·have h1:k % 2=1:=by omega
   rw [h1]; rfl
 generalize (bz l)[k]=o at *
 obtain ⟨t1,t2⟩:=gj (fun x=>sw x o) s
 have hle:(s.takeWhile fun x=>sw x o).length≤s.length:=(List.takeWhile_sublist _).length_le
 have kz:∀ i,az (ir N (s,i) o) N 0=some ((s.takeWhile fun x=>sw x o).length:Int):=fun i=>Uf hN s i o (by omega)
 unfold mR
 simp only
 generalize (s.takeWhile fun x=>sw x o).length=a at *
 have hc:((bif ((a:Int) == (s.length:Int)) then some true else bif (decide ((0:Int)≤(a:Int)∧(a:Int) < (s.length:Int))&&aj.fits cG (ah (List.map au s) a)) then some (!(((d86 (ah (List.map au s) a)).1 == o.1)&&(((d86 (ah (List.map au s) a)).2 == o.2)&&true))) else none):Option Bool)=some (decide (a=s.length∨s.getD a (0,0)≠o)):=by
  by_cases h:a=s.length
  ·have hb:((a:Int) == (s.length:Int))=true:=by simp [h]
   rw [hb]; simp [h]
  ·have tM:a < s.length:=by omega
   obtain ⟨b1,b2⟩:=kI s tM
   have hb:((a:Int) == (s.length:Int))=false:=beq_false_of_ne (by omega)
   have e:s.getD a (0,0)=s[a]:=by simp [tM]
   rw [hb,b1,b2,aI tM,e]
   simp only [Bool.and_self,cond_true,cond_false]
   congr 1
   rw [Bool.eq_iff_iff]
   simp only [h,false_or,Bool.not_eq_true',Bool.and_true,decide_eq_true_eq,Bool.and_eq_false_iff,beq_eq_false_iff_ne,ne_eq]
   constructor
   ·rintro h2 rfl
    rcases h2 with h2 | h2 <;> exact h2 rfl
   ·intro h2
    by_cases h3:s[a].1=o.1
    ·right; intro h4; exact h2 (Prod.ext h3 h4)
    ·exact .inl h3
 have c1:decide ((0:Int)≤(a:Int)∧(a:Int)≤(s.length:Int))=true:=decide_eq_true (by omega)
 have ht:(List.take a s).length=a:=by rw [List.length_take]; omega
 have QN:decide (1=([AV.agg [AV.int .i64 o.1,AV.int .i64 o.2]]:List AV).length)=true:=rfl
 have Pt:∀ x:Nat,x≤4000000→decide (x * 16≤140737488355328)=true:=fun x hx=>decide_eq_true (by omega)
 have z0:∀ x:List (Int × Int),[AV.agg [AV.int .i64 o.1,AV.int .i64 o.2]]++List.map au x=List.map au ([o]++x):=fun x=>rfl
 have z1:∀ x y:List (Int × Int),(List.map au x++[AV.agg [AV.int .i64 o.1,AV.int .i64 o.2]])++List.map au y=List.map au (x++[o]++y):=fun x y=>by rw [List.map_append,List.map_append]; rfl
 simp only [sr,List.length_map,hw,bc hk,hd,Int.toNat_natCast,a1,a2,aI hk3,Bool.and_self,cond_true,abe,Option.bind_some,hm,ho,kz,hc]
 by_cases hi:a=s.length∨s.getD a (0,0)≠o
 ·rw [if_pos hi]
  simp only [hi,decide_true,cond_true,c1,Bool.and_self,Bool.and_true,Eh,List.drop_zero,List.take_length,beq_self_eq_true]
  by_cases h0:a=0
  ·subst h0
   simp only [List.take_zero,List.map_nil,List.isEmpty_nil,cond_true,List.nil_append,List.length_singleton,List.length_map,List.length_drop,decide_true,Pt (1+s.length) (by omega),Bool.and_self,z0,gD,gE,Option.bind_some,List.drop_zero,Bool.and_true,bk (show k < 9223372036854775807 by omega)]
  ·have cA:List.isEmpty (List.map au (List.take a s))=false:=by
    cases hd:List.take a s with
    | nil=>rw [hd] at ht; simp at ht; omega
    | cons x y=>rfl
   simp only [cA,cond_false,List.nil_append,List.length_append,List.length_singleton,List.length_map,List.length_drop,ht,Nat.zero_add,Pt a (by omega),Pt (a+1) (by omega),Pt (a+1+(s.length - a)) (by omega),decide_true,cond_true,Bool.and_self,z1,gD,gE,Option.bind_some,Bool.and_true,bk (show k < 9223372036854775807 by omega)]
 ·rw [if_neg hi]
  simp only [hi,decide_false,cond_false,gD,gE,Bool.and_true,cond_true,Option.bind_some,bk (show k < 9223372036854775807 by omega)]
theorem G9 (l:List dR) (hl:l.length≤1000000):Yz N l=some (bK l):=by
 rw [TS]
 have key:=iN (rd:=sr N l) (bz l) (fun s k=>(s,(k:Int))) (fun s k=>mR sw (0,0) k s) (fun s=>s) (fun s k=>s.length≤k) (fun s k hk hs=>by
  have gX:k < 2 * l.length:=by rw [iR] at hk; exact hk
  refine ⟨KX hN l s k hl (by omega) gX hk,?_⟩
  have:=wN (lt:=sw) (0,0) (bz l)[k] s
  omega) (fun s _=>by
  have hw:IntKind.wrap .i64 (2 * (l.length:Int))=((2 * l.length:Nat):Int):=by rw [gY (by omega)]; omega
  rw [iR]
  simp only [sr,List.length_map,hw,bq,cond_false,gD,gE,Bool.and_true,cond_true,Option.bind_some]) N [] 0 (Nat.zero_le _) (by unfold fq at hN; rw [iR]; omega) (Nat.le_refl _)
 have mD:az (sr N l) N ([],0)=_:=key
 have z:((bif (allFit (aj.fits cG) ([]:List AV)&&true) then some ((List.map d86 ([]:List AV)),0) else none:Option ((List (Int × Int)) × Int)).bind fun OY=>some OY)=some ([],0):=rfl
 rw [z,Option.bind_some,mD,List.drop_zero,Option.bind_some]
 simp only [gD,gE,Bool.and_true,cond_true] <;> rfl
omit hN in
theorem Cl (N:Nat) (x y:Int × Int):Eb N (x,y)=some (decide (x=y)):=by
 rw [Pn]
 congr 1
 rw [Bool.eq_iff_iff]
 simp only [Bool.and_true,Bool.and_eq_true,beq_iff_eq,decide_eq_true_eq]
 constructor
 ·rintro ⟨h1,h2⟩; exact Prod.ext h1 h2
 ·rintro rfl; exact ⟨rfl,rfl⟩
omit hN in
theorem XC (l:List (Int × Int)):aB (List.map au l)=true:=ta (fun _=>rfl) l
omit hN in
theorem XD (s:List (Int × Int)) (i:Nat) (a b:Int):aA (List.map au s) i (AV.agg [AV.int .i64 a,AV.int .i64 b])=List.map au (s.set i (a,b)):=by
 rw [fy]
 show (List.map au s).set i (au (a,b))=_
 rw [List.map_set]
omit hN in
theorem PH (s:List (Int × Int)) (a b c d:Int):List.map au s++[AV.agg [AV.int .i64 a,AV.int .i64 b],AV.agg [AV.int .i64 c,AV.int .i64 d]]=List.map au (s++[(a,b),(c,d)]):=by
 rw [List.map_append]; rfl
theorem Ha (l:List dR) (hl:l.length≤1000000):az (oH N l) N ((),0,[])=some ((),bz l):=by
 have key:=iN (rd:=oH N l) l (fun s k=>((),(k:Int),s)) (fun s b=>s++[rv b,n9 b]) (fun s=>((),s)) (fun s k=>s.length=2 * k) (fun s k hk hs=>by
  obtain ⟨a1,a2⟩:=jg l hk
  have q:B7 N (l[k].1,l[k].2.1,l[k].2.2)=_:=za N l[k]
  have iG:∀ a b c d:Int,aB [AV.int .i64 a,AV.int .i64 b,AV.int .i64 c,AV.int .i64 d]=true:=fun _ _ _ _=>rfl
  have hlen:(s++[(l[k].1,l[k].2.1),((n9 l[k]).1,(n9 l[k]).2)]).length=s.length+2:=by simp
  have hb:decide ((s.length+2) * 16≤140737488355328)=true:=decide_eq_true (by omega)
  refine ⟨?_,by rw [List.length_append,hs]; simp; omega⟩
  simp only [oH,List.length_map,Int.toNat_natCast,a1,a2,bc hk,aI hk,Bool.and_self,Bool.and_true,cond_true,q,Option.bind_some,iG,PH,hlen,hb,decide_true,Nat.beq_refl,gD,gE,bk (show k < 9223372036854775807 by omega)]
  rfl) (fun s _=>by
  simp only [oH,List.length_map,bq,cond_false,Nat.beq_refl,gD,gE,Bool.and_self,Bool.and_true,cond_true,Option.bind_some]) N [] 0 (Nat.zero_le _) (by unfold fq at hN; omega) rfl
 have mD:az (oH N l) N ((),0,[])=_:=key
 rw [mD,List.drop_zero]
 congr 2
 have gen:∀ (l:List dR) (s:List (Int × Int)),l.foldl (fun s b=>s++[rv b,n9 b]) s=s++bz l:=by
  intro l
  induction l with
  | nil=>intro s; simp [bz]
  | cons b l ih=>intro s; rw [List.foldl_cons,ih,bz,List.append_assoc]; rfl
 rw [gen]; rfl
section
variable (F st:List (Int × Int)) (hn:st.length=F.length) (hF:F.length≤2000000)
include hn hF
theorem PI (m:Nat) (h1:1≤m) (hm:m < F.length) (hu:wM (0,0) st (m+1)=st.take m) :
  ∃ x,az (eh N ((),F) ((m:Int),st)) N ((m:Int),1,st)=some x∧∃ (t:Nat) (c:List (Int × Int)),x=((t:Int),c)∧c.length=F.length∧t≤F.length∧c.take t=wM (0,0) st F.length:=by
 refine yO (rd:=eh N ((),F) ((m:Int),st)) (S:=Nat × List (Int × Int)) (F.length - m - 1) (fun s i=>((s.1:Int),((i+1:Nat):Int),s.2))
  (fun s i=>s.1≤m+i∧s.2.length=F.length∧s.2.take s.1=wM (0,0) st (m+1+i)∧∀ t,m+i≤t→s.2[t]?=st[t]?) _ ?_ ?_ N (m,st) 0 (Nat.zero_le _) (by unfold fq at hN; omega) ⟨by omega,hn,hu.symm,fun _ _=>rfl⟩
 ·rintro ⟨t,c⟩ i hi ⟨i1,i2,i3,i4⟩
  simp only at i1 i2 i3 i4
  have hj:m+(i+1) < c.length:=by omega
  have hj0:m+i < c.length:=by omega
  have Eu:m+(i+1) < st.length:=by omega
  have Tl:m+i < st.length:=by omega
  have e1:c[m+(i+1)]=st[m+(i+1)]:=by
   have:=i4 (m+(i+1)) (by omega)
   rw [List.getElem?_eq_getElem hj,List.getElem?_eq_getElem Eu] at this
   exact Option.some.inj this
  have e0:c[m+i]=st[m+i]:=by
   have:=i4 (m+i) (by omega)
   rw [List.getElem?_eq_getElem hj0,List.getElem?_eq_getElem Tl] at this
   exact Option.some.inj this
  obtain ⟨a1,a2⟩:=kI c hj
  obtain ⟨b1,b2⟩:=kI c hj0
  rw [e1] at a1
  rw [e0] at b1
  have g1:st.getD (m+(i+1)) (0,0)=st[m+(i+1)]:=by simp [Eu]
  have g0:st.getD (m+i) (0,0)=st[m+i]:=by simp [Tl]
  have UR:wM (0,0) st (m+1+(i+1))=if st[m+(i+1)]=st[m+i] then wM (0,0) st (m+1+i) else wM (0,0) st (m+1+i)++[st[m+(i+1)]]:=by
   rw [show m+1+(i+1)=m+1+i+1 by omega]
   conv=>lhs; unfold wM
   rw [show m+1+i=m+(i+1) by omega,g1,show m+(i+1) - 1=m+i by omega,g0]
   by_cases h:st[m+(i+1)]=st[m+i]
   ·rw [if_pos h,if_pos ⟨by omega,h⟩]
   ·rw [if_neg h,if_neg fun c=>h c.2]
  have hw:IntKind.wrap .i64 (((i+1:Nat):Int) - 1)=(i:Int):=by rw [gY (by omega)]; omega
  have bM:decide (((i+1:Nat):Int) < ((F.length - m:Nat):Int))=true:=decide_eq_true (by omega)
  have uZ:decide ((0:Int)≤((i+1:Nat):Int)∧((i+1:Nat):Int) < ((F.length - m:Nat):Int))=true:=decide_eq_true (by omega)
  have Qj:decide ((0:Int)≤(i:Int)∧(i:Int) < ((F.length - m:Nat):Int))=true:=decide_eq_true (by omega)
  have HZ:decide (m+(i+1) < F.length)=true:=decide_eq_true (by omega)
  have XE:decide (m+i < F.length)=true:=decide_eq_true (by omega)
  have hrt:decide ((0:Int)≤(t:Int)∧(t:Int) < (F.length:Int))=true:=decide_eq_true (by omega)
  have hdt:decide (t < F.length)=true:=decide_eq_true (by omega)
  have q:Eb N ((st[m+(i+1)].1,st[m+(i+1)].2),(st[m+i].1,st[m+i].2))=_:=Cl N st[m+(i+1)] st[m+i]
  by_cases h:st[m+(i+1)]=st[m+i]
  ·rw [decide_eq_true h] at q
   refine ⟨(t,c),?_,by omega,i2,?_,fun t' Br=>i4 t' (by omega)⟩
   ·simp only [eh,List.length_map,Int.toNat_natCast,Nat.zero_add,hw,bM,uZ,Qj,i2,HZ,XE,a1,a2,b1,b2,decide_true,Bool.and_self,Bool.and_true,cond_true,q,Option.bind_some,Bool.not_true,cond_false,gD,gE,bk (show i+1 < 9223372036854775807 by omega)]
   ·rw [UR,if_pos h]; exact i3
  ·refine ⟨(t+1,c.set t st[m+(i+1)]),?_,by simp only; omega,by simp only [List.length_set]; exact i2,?_,fun t' Br=>?_⟩
   ·simp only [eh,List.length_map,Int.toNat_natCast,Nat.zero_add,hw,bM,uZ,Qj,i2,HZ,XE,hrt,hdt,a1,a2,b1,b2,decide_true,Bool.and_self,Bool.and_true,cond_true,q,h,decide_false,Option.bind_some,Bool.not_false,XD,gD,gE,bk (show i+1 < 9223372036854775807 by omega),bk (show t < 9223372036854775807 by omega)]
   ·rw [UR,if_neg h,← i3]
    simp only
    rw [List.take_succ,List.take_set_of_le (Nat.le_refl _),List.getElem?_set_self (by omega)]
    rfl
   ·simp only
    rw [List.getElem?_set_ne (by omega)]
    exact i4 t' (by omega)
 ·rintro ⟨t,c⟩ ⟨i1,i2,i3,i4⟩
  simp only at i1 i2 i3 i4
  have kN:decide (((F.length - m - 1+1:Nat):Int) < ((F.length - m:Nat):Int))=false:=decide_eq_false (by omega)
  refine ⟨((t:Int),c),?_,t,c,rfl,i2,by omega,?_⟩
  ·simp only [eh,List.length_map,Int.toNat_natCast,kN,cond_false,gD,gE,Bool.and_true,cond_true,Option.bind_some]
  ·rw [i3]; congr 1; omega
omit hN hn hF in
theorem Cm (s:List AV):∀ (t:Nat) (z:List AV),t+z.length=s.length→(a7 s t z).length=s.length∧(a7 s t z).take t=s.take t:=by
 induction s with
 | nil=>intro t z h; cases z with
  | nil=>simp [a7]
  | cons y z=>simp at h
 | cons a s ih=>
  intro t z h
  cases z with
  | nil=>simp [a7]
  | cons y z=>
   cases t with
   | zero=>
    simp only [a7,List.length_cons,List.take_zero,and_true]
    have:=ih 0 z (by simp at h ⊢; omega)
    omega
   | succ t=>
    simp only [a7,List.length_cons,List.take_succ_cons]
    have:=ih t (y :: z) (by simp at h ⊢; omega)
    exact ⟨by omega,by rw [this.2]⟩
omit hN hn hF in
theorem sA:∀ (s:List AV) (t:Nat) (z:List AV),aB s=true→aB z=true→aB (a7 s t z)=true
 | [],t,[],h1,h2=>by simpa [a7] using h1
 | [],t,y :: z,h1,h2=>rfl
 | a :: s,t,[],h1,h2=>by cases t <;> simpa [a7] using h1
 | a :: s,0,y :: z,h1,h2=>by
  simp only [aB,Bool.and_eq_true] at h1 h2
  simp only [a7,aB,Bool.and_eq_true]
  exact ⟨h2.1,sA s 0 z h1.2 h2.2⟩
 | a :: s,t+1,y :: z,h1,h2=>by
  simp only [aB,Bool.and_eq_true] at h1
  simp only [a7,aB,Bool.and_eq_true]
  exact ⟨h1.1,sA s t (y :: z) h1.2 h2⟩
theorem KY:∃ o,az (fj N ((),F)) N (1,st)=some o∧Sum.elim (fun l=>l) (fun l=>l) o=wM (0,0) st F.length∧∀ l,o=.inr l→l.length=F.length:=by
 have hN0:1≤F.length→F.length - 1 < N:=fun _=>by unfold fq at hN; omega
 by_cases hF0:F.length=0
 ·refine ⟨.inr st,?_,?_,fun l h=>by cases h; exact hn⟩
  ·obtain ⟨n,rfl⟩:∃ n,N=n+1:=⟨N - 1,by unfold fq at hN; omega⟩
   rw [bD]
   have kN:decide ((1:Int) < (F.length:Int))=false:=decide_eq_false (by omega)
   simp only [fj,List.length_map,kN,cond_false,gD,gE,Bool.and_true,cond_true,Option.bind_some,Sum.elim_inr]
  ·rw [hF0]
   have:st=[]:=List.length_eq_zero_iff.1 (by omega)
   rw [this]; rfl
 refine yP (rd:=fj N ((),F)) (S:=Unit) (F.length - 1) (fun _ k=>(((k+1:Nat):Int),st)) (fun _ k=>∀ j,0 < j→j < k+1→st.getD j (0,0)≠st.getD (j - 1) (0,0)) _ ?_ ?_ N () 0 (Nat.zero_le _) (by unfold fq at hN; omega) (fun j h1 h2=>by omega)
 ·rintro _ k hk hP
  have Eu:k+1 < st.length:=by omega
  have Tl:k < st.length:=by omega
  obtain ⟨a1,a2⟩:=kI st Eu
  obtain ⟨b1,b2⟩:=kI st Tl
  have g1:st.getD (k+1) (0,0)=st[k+1]:=by simp [Eu]
  have g0:st.getD k (0,0)=st[k]:=by simp [Tl]
  have hw:IntKind.wrap .i64 (((k+1:Nat):Int) - 1)=(k:Int):=by rw [gY (by omega)]; omega
  have Cs:k+1 < F.length:=by omega
  have rM:k < F.length:=by omega
  have HZ:decide (k+1 < F.length)=true:=decide_eq_true Cs
  have XE:decide (k < F.length)=true:=decide_eq_true rM
  have q:Eb N ((st[k+1].1,st[k+1].2),(st[k].1,st[k].2))=_:=Cl N st[k+1] st[k]
  by_cases h:st[k+1]=st[k]
  ·right
   rw [decide_eq_true h] at q
   have ht:=qZ (0,0) st (k+1) (by omega) hP
   have hu:wM (0,0) st (k+1+1)=st.take (k+1):=by
    rw [← ht]
    conv=>lhs; unfold wM
    rw [if_pos ⟨by omega,by rw [g1,show k+1 - 1=k by omega,g0]; exact h⟩]
   obtain ⟨x,r,t,c,rfl,c1,c2,c3'⟩:=PI hN F st hn hF (k+1) (by omega) Cs hu
   have hle:decide ((0:Int)≤((k+1:Nat):Int)∧((k+1:Nat):Int)≤(F.length:Int))=true:=decide_eq_true (by omega)
   have abf:decide ((0:Int)≤(t:Int)∧(t:Int)≤(F.length:Int))=true:=decide_eq_true (by omega)
   obtain ⟨z1,z2⟩:=Cm (List.map au c) t (List.replicate (F.length - t) (AV.agg [AV.int .i64 0,AV.int .i64 0])) (by rw [List.length_replicate,List.length_map]; omega)
   have z3:aB (a7 (List.map au c) t (List.replicate (F.length - t) (AV.agg [AV.int .i64 0,AV.int .i64 0])))=true:=sA _ _ _ (XC c) (by
    have:∀ n,aB (List.replicate n (AV.agg [AV.int .i64 0,AV.int .i64 0]))=true:=by
     intro n
     induction n with
     | zero=>rfl
     | succ n ih=>rw [List.replicate_succ,aB,ih]; rfl
    exact this _)
   have hs:decide (t+(F.length - t)≤F.length)=true:=decide_eq_true (by omega)
   have ht2:decide (t≤F.length)=true:=decide_eq_true c2
   rw [List.length_map] at z1
   refine ⟨.inl (wM (0,0) st F.length),?_,rfl,fun l h=>by cases h⟩
   have hmt:List.take t (List.map au c)=List.map au (List.take t c):=by rw [List.map_take]
   simp only [fj,List.length_map,Int.toNat_natCast,Nat.zero_add,hw,bc Cs,aI Cs,aI rM,hn,HZ,XE,a1,a2,b1,b2,decide_true,Bool.and_self,Bool.and_true,cond_true,q,hle,gD,gE,Option.bind_some,r,abf,c1,hs,z1,ht2,z3,z2,hmt,c3']
  ·left
   rw [decide_eq_false h] at q
   refine ⟨(),?_,fun j h1 h2=>?_⟩
   ·simp only [fj,List.length_map,Int.toNat_natCast,Nat.zero_add,hw,bc Cs,aI Cs,aI rM,hn,HZ,XE,a1,a2,b1,b2,decide_true,Bool.and_self,Bool.and_true,cond_true,q,cond_false,gD,gE,Option.bind_some,bk (show k+1 < 9223372036854775807 by omega)]
   ·by_cases hj:j=k+1
    ·subst hj
     rw [g1,show k+1 - 1=k by omega,g0]; exact h
    ·exact hP j h1 (by omega)
 ·intro _ hP
  have kN:decide (((F.length - 1+1:Nat):Int) < (F.length:Int))=false:=decide_eq_false (by omega)
  refine ⟨.inr st,?_,?_,fun l h=>by cases h; exact hn⟩
  ·simp only [fj,List.length_map,kN,cond_false,gD,gE,Bool.and_true,cond_true,Option.bind_some]
  ·have:=qZ (0,0) st F.length (by omega) (fun j h1 h2=>hP j h1 (by omega))
   rw [this,← hn,List.take_length]
   rfl
end
theorem Ei (l:List dR) (hl:l.length≤1000000):Po N l=some (bK l):=by
 have hs:fH cG yW (List.map au (bz l))=List.map au ((bz l).mergeSort fun x y=>!sw y x):=by
  unfold fH
  rw [show List.map (aj.bn cG) (List.map au (bz l))=bz l from gE _]
  rfl
 have hfp:allFit (aj.fits cG) (List.map au (bz l))=true:=gD _
 have hlen:((bz l).mergeSort fun x y=>!sw y x).length=(bz l).length:=List.length_mergeSort _
 have hb:decide ((bz l).length≤140737488355328)=true:=decide_eq_true (by rw [iR]; omega)
 have sN:(bz l).length≤2000000:=by rw [iR]; omega
 have YH:=Tn Kx Kz (0,0) (bz l)
 have YH:wM (0,0) ((bz l).mergeSort fun x y=>!sw y x) (bz l).length=bK l:=YH
 have z:((bif ((Nat.beq 0 (([]:List AV)).length&&Nat.beq 0 (([]:List AV)).length)&&(allFit (aj.fits cG) ([]:List AV)&&true)) then some ((),0,(List.map d86 ([]:List AV))) else none:Option (Unit × Int × (List (Int × Int)))).bind fun w7=>some w7)=some ((),0,[]):=rfl
 rw [Pq,z,Option.bind_some,Ha hN l hl,Option.bind_some]
 simp only [hs,hfp,List.length_map,hb,hlen,decide_true,Bool.and_self,Bool.and_true,cond_true,Nat.le_refl,XC,gD,gE,Option.bind_some]
 by_cases h2:((bz l).length:Int) < 2
 ·have ht:List.take (bz l).length (List.map au ((bz l).mergeSort fun x y=>!sw y x))=List.map au ((bz l).mergeSort fun x y=>!sw y x):=List.take_of_length_le (by rw [List.length_map,hlen]; exact Nat.le_refl _)
  simp only [h2,decide_true,cond_true,ht,gD,gE,Option.bind_some]
  congr 1
  rw [← YH,qZ (0,0) _ _ (by rw [hlen]; exact Nat.le_refl _) (fun j a b=>by omega),List.take_of_length_le (by rw [hlen]; exact Nat.le_refl _)]
 ·obtain ⟨o,r,e,Ii⟩:=KY hN (bz l) ((bz l).mergeSort fun x y=>!sw y x) hlen sN
  simp only [h2,decide_false,cond_false,r,Option.bind_some]
  rw [YH] at e
  cases o with
  | inl x=>
   simp only [Sum.elim_inl] at e ⊢
   rw [e]
   simp only [gD,gE,cond_true,Option.bind_some]
  | inr x=>
   have hx:=Ii x rfl
   simp only [Sum.elim_inr] at e ⊢
   subst e
   have ht:List.take (bz l).length (List.map au (bK l))=List.map au (bK l):=List.take_of_length_le (by rw [List.length_map,hx]; exact Nat.le_refl _)
   simp only [hx,decide_true,Nat.le_refl,Bool.and_self,cond_true,ht,gD,gE,Option.bind_some]
end
end Go.Proofs.YtldcljfjjoidhaaGreatDoor
