/- Plain laws: the law of steps. -/
import Derived.Test.YtldcljfjjoidhaaGreatDoorBraQs
import Derived.Test.YtldcljfjjoidhaaGreatDoorBraTj
set_option linter.all false
namespace Go.Proofs.YtldcljfjjoidhaaGreatDoor
open Go Go.Am Go.Sort
set_option maxRecDepth 100000
theorem xj (p:List da) {i:Nat} (hi:i < p.length):a6 p=a6 (p.take i)++(cj p[i]++a6 (p.drop (i+1))):=by
 have e:p=p.take i++(p[i] :: p.drop (i+1)):=by rw [← List.drop_eq_getElem_cons hi,List.take_append_drop]
 unfold a6
 conv=>lhs; rw [e]
 rw [List.flatMap_append,List.flatMap_cons]
theorem PO (p:List da) {i k:Nat} (hi:i < p.length) (hk:k < p[i].2.2.2.2.toNat):(a6 p)[(a6 (p.take i)).length+k]?=some (eU p[i] k):=by
 rw [xj p hi,List.getElem?_append_right (by omega),Nat.add_sub_cancel_left]
 have hl:k < (cj p[i]).length:=by unfold cj; rw [dz]; exact hk
 rw [List.getElem?_append_left hl,List.getElem?_eq_getElem hl]
 simp [cj,cC]
theorem Up {N:Nat} (hN:fq N) (p:List da) {i:Nat} (ht:su p i=true):∀ n,i < n→(q9 p n)[(q9 p i).length]?=some (i:Int):=by
 intro n
 induction n with
 | zero=>intro h; omega
 | succ n ih=>
  intro h
  rw [xd hN]
  by_cases e:n=i
  ·subst e
   rw [if_pos ht,List.getElem?_append_right (Nat.le_refl _),Nat.sub_self]
   rfl
  ·have q:=ih (by omega)
   split
   ·have hl:(q9 p i).length < (q9 p n).length:=by
     rcases Nat.lt_or_ge (q9 p i).length (q9 p n).length with h | h
     ·exact h
     ·rw [List.getElem?_eq_none h] at q; cases q
    rw [List.getElem?_append_left hl]
    exact q
   ·exact q
theorem Uq (c:da) (k:Nat):(ax c (k+1)).1 - (ax c k).1=if c.2.2.1 then 1 else -1:=by
 unfold ax sg
 cases c.2.2.1 <;> simp <;> omega
theorem Ur (c:da) (k:Nat):(ax c (k+1)).2 - (ax c k).2=if c.2.2.2.1 == ((k+1) % 2 == 1) then 1 else -1:=by
 unfold ax sg
 rcases Nat.mod_two_eq_zero_or_one k with hm | hm
 ·have D3:(k+1) % 2=1:=by omega
  rw [hm,D3]
  cases c.2.2.2.1 <;> simp <;> omega
 ·have D3:(k+1) % 2=0:=by omega
  rw [hm,D3]
  cases c.2.2.2.1 <;> simp <;> omega
theorem K6 {l:List (Int × Int)} (h:Fl sw l) {j:Nat} (hj:j < l.length):l[0].2≤l[j].2:=by
 by_cases h0:j=0
 ·subst h0; exact Int.le_refl _
 ·have:=List.pairwise_iff_getElem.1 h 0 j (by omega) hj (by omega)
  rw [KV] at this
  have:=of_decide_eq_true this
  omega
theorem Us {l:List dR} (h:Fl (ltOf jC) l) {j:Nat} (hj:j < l.length):l[0].2.1≤l[j].2.1:=by
 by_cases h0:j=0
 ·subst h0; exact Int.le_refl _
 ·have:=List.pairwise_iff_getElem.1 h 0 j (by omega) hj (by omega)
  rw [so] at this
  have:=of_decide_eq_true this
  omega
theorem Co {p:List da} (h:je p=0) (hk:0 < (bK (bE p)).length):∃ hn:0 < (bE p).length,(bK (bE p))[0].2=(bE p)[0].2.1:=by
 obtain ⟨b,hb,e⟩:=pX.1 (List.getElem_mem hk)
 obtain ⟨j,hj,rfl⟩:=List.getElem_of_mem hb
 have hn:0 < (bE p).length:=by omega
 refine ⟨hn,?_⟩
 have Ut:Fl sw (bK (bE p)):=(lH Kx Kz (0,0) (bz (bE p))).1
 have l1:=Us (jD p).1 hj
 have hm:rv (bE p)[0]∈bK (bE p):=pX.2 ⟨_,List.getElem_mem hn,.inl rfl⟩
 obtain ⟨i,hi,e2⟩:=List.getElem_of_mem hm
 have l2:=K6 Ut hi
 rw [e2] at l2
 have l3:(rv (bE p)[0]).2=(bE p)[0].2.1:=rfl
 obtain ⟨c1,c2,c3⟩:=rk (lO h _ (((jD p).2 _).1 (List.getElem_mem hj)))
 have e3:(bE p)[j].2.1≤(bK (bE p))[0].2:=by
  rcases e with e | e
  ·rw [e]; exact Int.le_refl _
  ·rw [e,rb c1 c2]; simp only; omega
 omega
theorem K7 {p:List da} (h:je p=0) {j:Nat} (hj:j < (bK (bE p)).length) (hn:0 < (bE p).length):decide ((bK (bE p))[j]∈xM p)=!(kJ (bE p) (bK (bE p))[j] || ((bK (bE p))[j].2 == (bE p)[0].2.1)):=by
 obtain ⟨UB,e⟩:=Co h (by omega)
 have Ut:Fl sw (bK (bE p)):=(lH Kx Kz (0,0) (bz (bE p))).1
 have l2:=K6 Ut hj
 have hm:=List.getElem_mem hj
 have eg:(bK (bE p)).getD 0 (0,0)=(bK (bE p))[0]:=by simp [show 0 < (bK (bE p)).length by omega]
 unfold xM
 rw [Bool.eq_iff_iff,decide_eq_true_iff,List.mem_filter,eg]
 rw [e] at l2 ⊢
 generalize (bK (bE p))[j]=x at *
 cases kJ (bE p) x
 ·simp only [hm,true_and,Bool.not_false,Bool.and_true,decide_eq_true_eq,Bool.false_or,Bool.not_eq_true',beq_eq_false_iff_ne]
  omega
 ·simp
section
variable {N:Nat} (hN:fq N)
include hN
theorem Uu (x:Int × Int):XI N (x.1,x.2)=some (aM x == 0):=by
 rw [Uk]
 have q:Ak N (x.1,x.2)=some (aM x):=sj N x
 rw [q]
 rfl
theorem PP (l:List (Int × Int)) (hl:l.length≤1000000) (b:Int × Int):XJ N (l,b)=some (decide (b∈l)):=by
 have q:=n4 (rd:=xi N l b) l.length (fun k=>(k:Int)) (fun k=>decide (l.getD k (0,0)=b)) (fun _=>Sum.inl true) (Sum.inr ()) (fun k hk=>by
  obtain ⟨a1,a2⟩:=kI l hk
  have e:l.getD k (0,0)=l[k]:=by simp [hk]
  rw [e]
  have e2:(l[k].1 == b.1&&(l[k].2 == b.2&&true))=decide (l[k]=b):=by
   rw [Bool.eq_iff_iff]
   simp [Prod.ext_iff]
  simp only [xi,List.length_map,Int.toNat_natCast,a1,a2,bc hk,aI hk,Bool.and_self,cond_true,bk (show k < 9223372036854775807 by omega),e2]
  by_cases h:l[k]=b <;> simp [h]) (by
  simp only [xi,List.length_map,bq,cond_false]) N (by unfold fq at hN; omega)
 have q':az (xi N l b) N 0=_:=q
 rw [Um,q',Option.bind_some]
 by_cases h:b∈l
 ·obtain ⟨k,hk,e⟩:=List.getElem_of_mem h
  cases hf:(List.range l.length).find? fun k=>decide (l.getD k (0,0)=b) with
  | none=>
   have:=List.find?_eq_none.1 hf k (List.mem_range.2 hk)
   simp [hk,e] at this
  | some j=>simp [h]
 ·cases hf:(List.range l.length).find? fun k=>decide (l.getD k (0,0)=b) with
  | none=>simp [h]
  | some j=>
   have h1:=List.find?_some hf
   have h2:=List.mem_range.1 (List.mem_of_find?_eq_some hf)
   have e:l.getD j (0,0)=l[j]:=by simp [h2]
   rw [e] at h1
   have:l[j]=b:=of_decide_eq_true h1
   exact absurd (this ▸ List.getElem_mem h2) h
theorem K8 (m:Int) (p:List da) (h:je p=0) (i:Nat) (hi:i < p.length) (w:Int × Int × Int × Int × Int) (hw:w.2.2.1=(i:Int)) (QO:Nat) (ha:QO=(a6 (p.take i)).length) (hl:(a6 p).length≤4096) :
  az (gV m N p (a6 p,0) w (aZ p[i] (p[i].2.2.2.2.toNat+1),0)) N ((QO:Int),1)=some (.inr ((QO+p[i].2.2.2.2.toNat:Nat):Int)):=by
 have hc:=Ej h p[i] (List.getElem_mem hi)
 obtain ⟨h1,h2,h3⟩:=cZ (mH hc)
 obtain ⟨a1,a2⟩:=D6 hN p hi
 have key:=bH (rd:=gV m N p (a6 p,0) w (aZ p[i] (p[i].2.2.2.2.toNat+1),0)) p[i].2.2.2.2.toNat (fun k=>(((QO+k:Nat):Int),((k+1:Nat):Int))) (.inr ((QO+p[i].2.2.2.2.toNat:Nat):Int)) (fun k hk=>by
  have kl:=cR p[i] (p[i].2.2.2.2.toNat+1)
  have Fo:k+1 < (aZ p[i] (p[i].2.2.2.2.toNat+1)).length:=by omega
  have uK:k < (aZ p[i] (p[i].2.2.2.2.toNat+1)).length:=by omega
  obtain ⟨b1,b2⟩:=kI _ Fo
  obtain ⟨d1,d2⟩:=kI _ uK
  have g1:(aZ p[i] (p[i].2.2.2.2.toNat+1))[k+1]=ax p[i] (k+1):=by simp [aZ]
  have g0:(aZ p[i] (p[i].2.2.2.2.toNat+1))[k]=ax p[i] k:=by simp [aZ]
  rw [g1] at b1
  rw [g0] at d1
  have ew:IntKind.wrap .i64 (((k+1:Nat):Int) - 1)=(k:Int):=by rw [gY (by omega)]; omega
  have o1:=PO p hi hk
  rw [← ha] at o1
  have kz:QO+k < (a6 p).length:=by
   rcases Nat.lt_or_ge (QO+k) (a6 p).length with h | h
   ·exact h
   ·rw [List.getElem?_eq_none h] at o1; cases o1
  rw [List.getElem?_eq_getElem kz] at o1
  obtain ⟨o2,o3⟩:=jg (a6 p) kz
  rw [Option.some.inj o1] at o2
  have k1:=ra hc (show k+1≤p[i].2.2.2.2.toNat by omega)
  have k0:=ra hc (show k≤p[i].2.2.2.2.toNat by omega)
  have sx:=Uq p[i] k
  have sy:=Ur p[i] k
  have b0:=(oa _).1 k0
  have b9:=(oa _).1 k1
  have wx:IntKind.wrap .i64 ((ax p[i] (k+1)).1 - (ax p[i] k).1)=(ax p[i] (k+1)).1 - (ax p[i] k).1:=gY (by omega)
  have wy:IntKind.wrap .i64 ((ax p[i] (k+1)).2 - (ax p[i] k).2)=(ax p[i] (k+1)).2 - (ax p[i] k).2:=gY (by omega)
  have q63:=Uu hN (ax p[i] (k+1))
  rw [k1] at q63
  have q64:Tr N (((ax p[i] k).1,(ax p[i] k).2),((ax p[i] (k+1)).1,(ax p[i] (k+1)).2))=some (eU p[i] k):=Fs N (ax p[i] k) (ax p[i] (k+1)) (by omega)
  have Ri:Int.tmod ((k+1:Nat):Int) 2=(((k+1) % 2:Nat):Int):=by rw [Int.tmod_eq_emod_of_nonneg (by omega)]; omega
  have hm1:((((k+1) % 2:Nat):Int) == 1)=((k+1) % 2 == 1):=by
   rcases Nat.mod_two_eq_zero_or_one (k+1) with hm | hm <;> rw [hm] <;> rfl
  simp only [gV,hw,Int.toNat_natCast,a1,List.length_map,bc Fo,aI Fo,ew,aI uK,b1,b2,d1,d2,Bool.and_self,cond_true,wx,wy,sx,sy,Ri,hm1,q63,aI kz,o2,o3,q64,Option.bind_some,beq_self_eq_true,bk (show QO+k < 9223372036854775807 by omega),bk (show k+1 < 9223372036854775807 by omega)]
  generalize ((k+1) % 2 == 1)=bb
  cases p[i].2.2.1 <;> cases p[i].2.2.2.1 <;> cases bb <;> rfl) (by
  have kl:=cR p[i] (p[i].2.2.2.2.toNat+1)
  simp only [gV,List.length_map,kl,bq,cond_false]) N 0 (Nat.zero_le _) (by unfold fq at hN; omega)
 exact key
theorem PQ (m:Int) (p:List da) (h:je p=0):az (od m N p (a6 p,0) (q9 p p.length,0)) N (0,0,0,0,0)=some (.inr (((a6 p).length:Int),((q9 p p.length).length:Int),if p.length=0 then ((0:Int),(0:Int)) else ax (p.getD (p.length - 1) (0,0,false,false,0)) (p.getD (p.length - 1) (0,0,false,false,0)).2.2.2.2.toNat)):=by
 have hp:=(rm h).1
 obtain ⟨o1,o2⟩:=mI h p.length (Nat.le_refl _)
 rw [List.take_length] at o1 o2
 refine bH (rd:=od m N p (a6 p,0) (q9 p p.length,0)) p.length (fun i=>(((a6 (p.take i)).length:Int),((q9 p i).length:Int),(i:Int),if i=0 then ((0:Int),(0:Int)) else ax (p.getD (i - 1) (0,0,false,false,0)) (p.getD (i - 1) (0,0,false,false,0)).2.2.2.2.toNat)) _ (fun i hi=>?_) ?_ N 0 (Nat.zero_le _) (by unfold fq at hN; omega)
 ·have hc:=Ej h p[i] (List.getElem_mem hi)
  obtain ⟨h1,h2,h3⟩:=cZ (mH hc)
  obtain ⟨a1,a2⟩:=D6 hN p hi
  have eg:p.getD i (0,0,false,false,0)=p[i]:=by simp [hi]
  have q52:W5 N (p[i].1,p[i].2.1,p[i].2.2.1,p[i].2.2.2.1,p[i].2.2.2.2)=_:=Ko hN p[i]
  have q53:W7 N (p[i].1,p[i].2.1,p[i].2.2.1,p[i].2.2.2.1,p[i].2.2.2.2)=_:=ON hN p[i]
  rw [if_pos hc] at q52 q53
  have kl:=cR p[i] (p[i].2.2.2.2.toNat+1)
  have uK:0 < (aZ p[i] (p[i].2.2.2.2.toNat+1)).length:=by omega
  have Fo:p[i].2.2.2.2.toNat < (aZ p[i] (p[i].2.2.2.2.toNat+1)).length:=by omega
  obtain ⟨b1,b2⟩:=kI _ uK
  obtain ⟨d1,d2⟩:=kI _ Fo
  have g0:(aZ p[i] (p[i].2.2.2.2.toNat+1))[0]=(p[i].1,p[i].2.1):=by simp [aZ,ax]
  have g1:(aZ p[i] (p[i].2.2.2.2.toNat+1))[p[i].2.2.2.2.toNat]=ax p[i] p[i].2.2.2.2.toNat:=by simp [aZ]
  rw [g0] at b1
  rw [g1] at d1
  have XG:d86 (ah (List.map au (aZ p[i] (p[i].2.2.2.2.toNat+1))) (Int.toNat 0))=(p[i].1,p[i].2.1):=b1
  have XH:aj.fits cG (ah (List.map au (aZ p[i] (p[i].2.2.2.2.toNat+1))) (Int.toNat 0))=true:=b2
  have i0:decide ((0:Int)≤0∧(0:Int) < ((p[i].2.2.2.2.toNat+1:Nat):Int))=true:=decide_eq_true (by omega)
  have i1:decide ((0:Int)≤p[i].2.2.2.2∧p[i].2.2.2.2 < ((p[i].2.2.2.2.toNat+1:Nat):Int))=true:=decide_eq_true (by omega)
  have wl:((((p[i].2.2.2.2.toNat+1:Nat):Int)) != IntKind.wrap .i64 (p[i].2.2.2.2+1))=false:=by
   rw [gY (by omega)]
   have:(((p[i].2.2.2.2.toNat+1:Nat):Int))=p[i].2.2.2.2+1:=by omega
   rw [this]
   exact bne_self_eq_false _
  have osp:=xj p hi
  have Hh:(cj p[i]).length=p[i].2.2.2.2.toNat:=dz _ _
  have agi:(a6 (p.take i)).length+p[i].2.2.2.2.toNat≤(a6 p).length:=by
   have:=congrArg List.length osp
   rw [List.length_append,List.length_append,Hh] at this
   omega
  have wo:decide (IntKind.wrap .i64 (((a6 (p.take i)).length:Int)+p[i].2.2.2.2) > ((a6 p).length:Int))=false:=by
   rw [gY (by omega)]
   exact decide_eq_false (by omega)
  have wk:=fun w hw=>K8 hN m p h i hi w hw (a6 (p.take i)).length rfl o2
  have ot:(a6 (p.take (i+1))).length=(a6 (p.take i)).length+p[i].2.2.2.2.toNat:=by rw [jB p hi,List.length_append,Hh]
  have k1:=fun x y:Int × Int=>(show (x.1 == y.1&&(x.2 == y.2&&true))=decide (x=y) by rw [Bool.eq_iff_iff]; simp [Prod.ext_iff])
  have kk:=k1 (ax p[i] p[i].2.2.2.2.toNat) (ax p[i] p[i].2.2.2.2.toNat)
  rw [decide_eq_true rfl] at kk
  have tl:=xd hN p i
  have tat:su p i=(i == 0 || !decide (ax (p.getD (i - 1) (0,0,false,false,0)) (p.getD (i - 1) (0,0,false,false,0)).2.2.2.2.toNat=(p[i].1,p[i].2.1))):=by
   unfold su
   rw [eg]
  have tw:=fun ht:su p i=true=>Up hN p ht p.length hi
  have agk:=Fz hN p i
  rw [ot,if_neg (show ¬ i+1=0 by omega),Nat.add_sub_cancel,eg]
  have ib:((i:Int) == 0)=(i == 0):=by cases i <;> rfl
  have fin:∀ e:Int × Int,e=(if i=0 then ((0:Int),(0:Int)) else ax (p.getD (i - 1) (0,0,false,false,0)) (p.getD (i - 1) (0,0,false,false,0)).2.2.2.2.toNat)→(bif ((i:Int) == 0) then (some true) else (some (!(e.1 == p[i].1&&(e.2 == p[i].2.1&&true)))):Option Bool)=some (su p i):=by
   intro e he
   rw [tat,ib]
   by_cases hi0:i=0
   ·subst hi0; rfl
   ·have:(i == 0)=false:=beq_false_of_ne hi0
    rw [this,if_neg hi0] at *
    subst he
    rw [cond_false,Bool.false_or]
    have:=k1 (ax (p.getD (i - 1) (0,0,false,false,0)) (p.getD (i - 1) (0,0,false,false,0)).2.2.2.2.toNat) (p[i].1,p[i].2.1)
    simp only at this
    rw [this]
  generalize (if i=0 then ((0:Int),(0:Int)) else ax (p.getD (i - 1) (0,0,false,false,0)) (p.getD (i - 1) (0,0,false,false,0)).2.2.2.2.toNat)=e at *
  have XO:=fin e rfl
  simp only [Bool.and_true] at XO
  simp only [od,List.length_map,Int.toNat_natCast,bc hi,aI hi,a1,a2,Bool.and_self,cond_true,q52,q53,Option.bind_some,bne_self_eq_false,cond_false,kl,wl,i0,i1,XG,XH,d1,d2,beq_self_eq_true,Bool.and_true,Bool.not_true,wo,wk,XO,Sum.elim_inr,bk (show i < 9223372036854775807 by omega)]
  cases ht:su p i with
  | false=>
   rw [ht] at tl
   simp only [cond_false,Option.bind_some,Sum.elim_inl,tl,Bool.false_eq_true,if_false]
  | true=>
   rw [ht] at tl
   have tg:=tw ht
   have bM:(q9 p i).length < (q9 p p.length).length:=by
    rcases Nat.lt_or_ge (q9 p i).length (q9 p p.length).length with h | h
    ·exact h
    ·rw [List.getElem?_eq_none h] at tg; cases tg
   rw [List.getElem?_eq_getElem bM] at tg
   obtain ⟨t1,t2⟩:=at3 hN (q9 p p.length) bM
   rw [Option.some.inj tg] at t1
   have kN:decide (((q9 p i).length:Int)≥((q9 p p.length).length:Int))=false:=decide_eq_false (by omega)
   simp only [cond_true,kN,cond_false,aI bM,t1,t2,Bool.and_self,bne_self_eq_false,Option.bind_some,Sum.elim_inl,tl,if_true,List.length_append,List.length_singleton,bk (show (q9 p i).length < 9223372036854775807 by omega)]
 ·simp only [od,List.length_map,bq,cond_false,List.take_length]
theorem K9 (m:Int) (p:List da):XL m N p=some true:=by
 have hT:∀ u,Yp N u=some true:=fun _=>rfl
 obtain ⟨b,hb,hs⟩:=Ui hN p 7 (by omega)
 have hb:W3 N (p,7)=some b:=hb
 rw [Uo]
 simp only [Oy,Oz,Bool.and_true,cond_true,Option.bind_some,hb]
 cases b with
 | false=>simp only [Bool.not_false,cond_true,hT,Option.bind_some]
 | true=>
  have q31:=Pz hN p
  simp only [Bool.not_true,cond_false,q31,Option.bind_some]
  by_cases h:je p=0
  ·obtain ⟨hl,-⟩:=hs rfl
   have hp:p.length≤256:=(rm h).1
   have q48:=FC hN p
   have hz:je p=0→∀ c∈p,cr c=0:=fun h=>(AA h).2
   have q42:=Pv hN p _ q48 hz (by omega)
   have q39:=Pw hN p _ q48 hz (by omega)
   have q40:=Ud hN p _ q48 hz (by omega)
   have q43:=PN hN p
   rw [if_pos h] at q42 q39 q40 q43
   obtain ⟨o1,o2⟩:=mI h p.length (Nat.le_refl _)
   rw [List.take_length] at o1 o2
   rw [sB o1] at q39
   have abl:=xg o1
   have kl:=xh (bE p)
   have fl:(xM p).length≤(bK (bE p)).length:=List.length_filter_le _ _
   have q62:=Pu hN (a6 p) (by omega)
   have s2:=KJ hN (bE p) (by omega)
   have q41:=G9 hN (bE p) (by omega)
   have QN:(je p != 0)=false:=by rw [h]; rfl
   have w0:(IntKind.wrap .i64 ((IntKind.wrap .i64 ((IntKind.wrap .i64 (0+0))+0))+0) != 0)=false:=rfl
   have nb:(((a6 p).length:Int) != ((bE p).length:Int))=false:=by rw [abl]; exact bne_self_eq_false _
   have key:az (lP m N (xM p,0) (bE p,0) (bK (bE p))) N 0=some (.inr ()):=by
    refine bH (rd:=lP m N (xM p,0) (bE p,0) (bK (bE p))) (bK (bE p)).length (fun k=>(k:Int)) (.inr ()) (fun k hk=>?_) ?_ N 0 (Nat.zero_le _) (by unfold fq at hN; omega)
    ·obtain ⟨hn,-⟩:=Co h (show 0 < (bK (bE p)).length by omega)
     have fm:=K7 h hk hn
     obtain ⟨a1,a2⟩:=kI _ hk
     obtain ⟨b1,b2⟩:=jg (bE p) hn
     have XG:d106 (ah (List.map n106 (bE p)) (Int.toNat 0))=(bE p)[0]:=b1
     have XH:aj.fits aP (ah (List.map n106 (bE p)) (Int.toNat 0))=true:=b2
     have i0:decide ((0:Int)≤0∧0 < ((bE p).length:Int))=true:=aI hn
     have bd:=(oa _).1 (K3 h (List.getElem_mem hk))
     have q66:=PP hN (xM p) (by omega) (bK (bE p))[k]
     have q1:=FD hN (bE p) (by omega) ((bK (bE p))[k].1 - 1,(bK (bE p))[k].2 - 1,1)
     have q2:=FD hN (bE p) (by omega) ((bK (bE p))[k].1+1,(bK (bE p))[k].2 - 1,-1)
     rw [fm] at q66
     have XP:XJ N (xM p,((bK (bE p))[k].1,(bK (bE p))[k].2))=_:=q66
     unfold kJ at XP
     generalize (bK (bE p))[k]=x at *
     have w1:IntKind.wrap .i64 (x.1 - 1)=x.1 - 1:=gY (by omega)
     have w2:IntKind.wrap .i64 (x.2 - 1)=x.2 - 1:=gY (by omega)
     have w3:IntKind.wrap .i64 (x.1+1)=x.1+1:=gY (by omega)
     simp only [lP,List.length_map,bc hk,aI hk,Int.toNat_natCast,a1,a2,XG,XH,i0,Bool.and_self,Bool.and_true,cond_true,cM,cI,gD,gE,Option.bind_some,w1,w2,w3,q1,q2,XP]
     cases decide ((x.1 - 1,x.2 - 1,(1:Int))∈bE p) <;> cases decide ((x.1+1,x.2 - 1,(-1:Int))∈bE p) <;> cases (x.2 == (bE p)[0].2.1) <;> simp only [cond_true,cond_false,Option.bind_some,Bool.or_false,Bool.or_true,Bool.true_or,Bool.false_or,Bool.or_self,Bool.not_true,Bool.not_false,beq_self_eq_true,show (false == true)=false from rfl,show (true == false)=false from rfl,bk (show k < 9223372036854775807 by omega)]
    ·simp only [lP,List.length_map,bq,cond_false]
   simp only [QN,cond_false,Ub hN p (by omega),Oy,Oz,Ap,Aq,Bool.and_true,cond_true,Option.bind_some,q42,q39,q40,q43,w0,List.length_map,nb,cM,cI,q62,Bool.and_self]
   rw [show Ao (ltOf jC) (0,0,0) (a6 p)=bE p from rfl]
   simp only [cM,cI,Bool.and_self,cond_true,Option.bind_some,s2,Bool.not_true,cond_false]
   rw [PQ hN m p h]
   simp only [Option.bind_some,Sum.elim_inr,bne_self_eq_false,cond_false,q41,key,hT]
  ·have QN:(je p != 0)=true:=bne_iff_ne.2 h
   simp only [QN,cond_true,hT,Option.bind_some]
end
end Go.Proofs.YtldcljfjjoidhaaGreatDoor
