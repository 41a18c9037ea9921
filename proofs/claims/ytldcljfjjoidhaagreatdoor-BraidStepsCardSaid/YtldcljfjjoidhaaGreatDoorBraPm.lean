/- Plain laws: the net of a valid program is a valid net; fly knots. -/
import Derived.Test.YtldcljfjjoidhaaGreatDoorBraPl
set_option linter.all false
namespace Go.Proofs.YtldcljfjjoidhaaGreatDoor
open Go Go.Am Go.Sort
set_option maxRecDepth 100000
theorem ra {c:da} (h:dQ c=0) {k:Nat} (hk:k≤c.2.2.2.2.toNat):aM (ax c k)=0:=by
 have h1:=mH h
 unfold dQ at h
 rw [if_pos h1] at h
 have:=jt.1 h (aM (ax c k)) (List.mem_map.2 ⟨ax c k,List.mem_map.2 ⟨k,List.mem_range.2 (by omega),rfl⟩,rfl⟩)
 exact this
theorem rb {b:dR} (h0:aM (rv b)=0) (h1:b.2.2=-1∨b.2.2=1):n9 b=(b.1+b.2.2,b.2.1+1):=by
 have:=j7 h0
 unfold rv at this
 simp only at this
 unfold n9
 rw [gY (by omega),gY (by omega)]
theorem oa (p:Int × Int):aM p=0↔(-100000≤p.1∧p.1≤100000∧-100000≤p.2∧p.2≤100000)∧(p.1+p.2) % 2=0:=by
 unfold aM
 constructor
 ·intro h
  split at h
  ·simp at h
  ·split at h
   ·omega
   ·simp at h
 ·rintro ⟨h1,h2⟩
  rw [if_neg (by omega),if_pos h2]
theorem KZ {c:da} (h:dQ c=0) {k:Nat} (hk:k < c.2.2.2.2.toNat):pW (eU c k)=0:=by
 have k1:=ra h (show k≤c.2.2.2.2.toNat by omega)
 have k2:=ra h (show k+1≤c.2.2.2.2.toNat by omega)
 have hs:((ax c (k+1)).1=(ax c k).1+1∨(ax c (k+1)).1=(ax c k).1 - 1)∧((ax c (k+1)).2=(ax c k).2+1∨(ax c (k+1)).2=(ax c k).2 - 1):=by
  unfold ax sg
  obtain ⟨x,y,r,u,n⟩:=c
  simp only
  rcases Nat.mod_two_eq_zero_or_one k with hm | hm
  ·have D3:(k+1) % 2=1:=by omega
   rw [hm,D3]
   cases r <;> cases u <;> simp <;> omega
  ·have D3:(k+1) % 2=0:=by omega
   rw [hm,D3]
   cases r <;> cases u <;> simp <;> omega
 unfold eU
 generalize ax c k=a at *
 generalize ax c (k+1)=b at *
 obtain ⟨a1,a2⟩:=a
 obtain ⟨b1,b2⟩:=b
 simp only at hs
 have e:∀ d:dR,aM (rv d)=0→(d.2.2=-1∨d.2.2=1)→aM (d.1+d.2.2,d.2.1+1)=0→pW d=0:=by
  intro d h0 h1 h2
  unfold pW
  rw [if_neg (by simp [h0]),if_neg (by omega),rb h0 h1]
  exact h2
 unfold iQ
 simp only
 by_cases hh:a2 > b2
 ·rw [if_pos hh]
  refine e _ k2 (by simp only; omega) ?_
  simp only
  rw [show b1+(a1 - b1)=a1 by omega,show b2+1=a2 by omega]
  exact k1
 ·rw [if_neg hh]
  refine e _ k1 (by simp only; omega) ?_
  simp only
  rw [show a1+(b1 - a1)=b1 by omega,show a2+1=b2 by omega]
  exact k2
theorem rk {b:dR} (h:pW b=0):aM (rv b)=0∧(b.2.2=-1∨b.2.2=1)∧aM (n9 b)=0:=by
 unfold pW at h
 by_cases h0:aM (rv b)=0
 ·rw [if_neg (by simp [h0])] at h
  by_cases h1:b.2.2≠-1∧b.2.2≠1
  ·rw [if_pos h1] at h; simp at h
  ·rw [if_neg h1] at h
   exact ⟨h0,by omega,h⟩
 ·rw [if_pos h0] at h
  exact absurd h h0
theorem Hb {c:da} {b:dR}:b∈cj c↔∃ k,k < c.2.2.2.2.toNat∧eU c k=b:=by
 unfold cj cC
 simp [List.mem_map,List.mem_range]
theorem rm {p:List da} (h:je p=0):p.length≤256∧(∀ k (hk:k < p.length),xe (p.take k) p[k]=0):=by
 unfold je at h
 by_cases hp:p.length > 256
 ·rw [if_pos hp] at h; simp at h
 ·rw [if_neg hp] at h
  exact ⟨by omega,fun k hk=>FA h hk⟩
theorem Ej {p:List da} (h:je p=0):∀ c∈p,dQ c=0:=by
 intro c hc
 obtain ⟨k,hk,rfl⟩:=List.getElem_of_mem hc
 exact (lN ((rm h).2 k hk)).1
theorem lO {p:List da} (h:je p=0):∀ b∈a6 p,pW b=0:=by
 intro b hb
 obtain ⟨c,hc,hb⟩:=List.mem_flatMap.1 hb
 obtain ⟨k,hk,rfl⟩:=Hb.1 hb
 exact KZ (Ej h c hc) hk
theorem tx (c:da):∀ k,(cC c k).Nodup
 | 0=>by simp [cC]
 | k+1=>by
  rw [ka,List.nodup_append]
  refine ⟨tx c k,by simp,?_⟩
  intro a ha b hb e
  rw [List.mem_singleton] at hb
  subst hb; subst e
  exact Cj c k ha
theorem mI {p:List da} (h:je p=0):∀ k,k≤p.length→(a6 (p.take k)).Nodup∧(a6 (p.take k)).length≤4096:=by
 intro k
 induction k with
 | zero=>intro _; simp [a6]
 | succ k ih=>
  intro hk
  have gX:k < p.length:=by omega
  obtain ⟨i1,i2⟩:=ih (by omega)
  obtain ⟨e1,e2,e3,e4⟩:=lN ((rm h).2 k gX)
  rw [jB p gX]
  refine ⟨?_,by rw [List.length_append]; exact e4⟩
  rw [List.nodup_append]
  refine ⟨i1,tx _ _,?_⟩
  intro a ha b hb e
  subst e
  exact e3 a hb ha
def bE (p:List da):List dR:=Ao (ltOf jC) (0,0,0) (a6 p)
theorem jD (p:List da):Fl (ltOf jC) (bE p)∧∀ x,x∈bE p↔x∈a6 p:=lH Ky O3 (0,0,0) (a6 p)
theorem K0 (a b:dR):ltOf jC a b=less a b:=by
 have h1:=Ci 0 a b
 have h2:=G6 0 a b
 rw [h1] at h2
 exact Option.some.inj h2
theorem sB {p:List da} (h:(a6 p).Nodup):(a6 p).mergeSort (fun x y=>!(ltOf jC) y x)=bE p:=by
 obtain ⟨s1,s2⟩:=Ce Ky (a6 p)
 obtain ⟨n1,n2⟩:=jD p
 refine Al Ky ?_ n1 (fun x=>by rw [s2,n2])
 have hn:((a6 p).mergeSort (fun x y=>!(ltOf jC) y x)).Nodup:=(List.mergeSort_perm (a6 p) _).nodup_iff.2 h
 refine List.Pairwise.imp₂ ?_ s1 hn
 intro a b hab cA
 cases hc:ltOf jC a b with
 | true=>rfl
 | false=>exact absurd (O3 a b hc hab) cA
theorem xg {p:List da} (h:(a6 p).Nodup):(bE p).length=(a6 p).length:=by
 rw [← sB h,List.length_mergeSort]
theorem K1 {p:List da} (h:je p=0):KU (bE p)=0:=by
 obtain ⟨o1,o2⟩:=mI h p.length (Nat.le_refl _)
 rw [List.take_length] at o1 o2
 have hlen:=xg o1
 obtain ⟨n1,n2⟩:=jD p
 unfold KU
 rw [if_neg (by omega)]
 refine jt.2 fun x hx=>?_
 obtain ⟨k,hk,rfl⟩:=List.mem_map.1 hx
 have hk:k < (bE p).length:=List.mem_range.1 hk
 have e1:(bE p).getD k (0,0,0)=(bE p)[k]:=by simp [hk]
 have c1:pW (bE p)[k]=0:=lO h _ ((n2 _).1 (List.getElem_mem hk))
 unfold PF
 rw [e1,if_neg (by simp [c1])]
 refine if_neg ?_
 rintro ⟨h0,hl⟩
 have Fo:k - 1 < (bE p).length:=by omega
 have e2:(bE p).getD (k - 1) (0,0,0)=(bE p)[k - 1]:=by simp [Fo]
 rw [e2,← K0] at hl
 have:=List.pairwise_iff_getElem.1 n1 (k - 1) k Fo hk (by omega)
 rw [hl] at this
 cases this
theorem Ek {l:List dR} {k:Int × Int}:k∈bz l↔∃ b∈l,k=rv b∨k=n9 b:=by
 induction l with
 | nil=>simp [bz]
 | cons b l ih=>
  simp only [bz,List.mem_cons,ih]
  constructor
  ·rintro (h | h | ⟨d,hd,h⟩)
   ·exact ⟨b,.inl rfl,.inl h⟩
   ·exact ⟨b,.inl rfl,.inr h⟩
   ·exact ⟨d,.inr hd,h⟩
  ·rintro ⟨d,rfl | hd,h | h⟩
   ·exact .inl h
   ·exact .inr (.inl h)
   ·exact .inr (.inr ⟨d,hd,.inl h⟩)
   ·exact .inr (.inr ⟨d,hd,.inr h⟩)
theorem pX {l:List dR} {k:Int × Int}:k∈bK l↔∃ b∈l,k=rv b∨k=n9 b:=by
 rw [← Ek]
 exact (lH Kx Kz (0,0) (bz l)).2 k
theorem xh (l:List dR):(bK l).length≤2 * l.length:=by
 rw [← iR]
 unfold bK Ao
 have:∀ (l a:List (Int × Int)),(l.foldl (fun s k=>mR sw (0,0) k s) a).length≤l.length+a.length:=by
  intro l
  induction l with
  | nil=>intro a; simp
  | cons x l ih=>
   intro a
   have h1:=ih (mR sw (0,0) x a)
   have h2:=wN (lt:=sw) (0,0) x a
   rw [List.foldl_cons,List.length_cons]
   omega
 exact this (bz l) []
theorem K3 {p:List da} (h:je p=0) {k:Int × Int} (hk:k∈bK (bE p)):aM k=0:=by
 obtain ⟨b,hb,hk⟩:=pX.1 hk
 obtain ⟨c1,c2,c3⟩:=rk (lO h b (((jD p).2 b).1 hb))
 rcases hk with rfl | rfl
 ·exact c1
 ·exact c3
def kJ (l:List dR) (k:Int × Int):Bool:=decide ((k.1 - 1,k.2 - 1,1)∈l) || decide ((k.1+1,k.2 - 1,-1)∈l)
theorem K4 {p:List da} (h:je p=0) (k:Int × Int):kJ (bE p) k=decide (k∈(a6 p).map n9):=by
 rw [Bool.eq_iff_iff]
 unfold kJ
 rw [Bool.or_eq_true,decide_eq_true_iff,decide_eq_true_iff,decide_eq_true_iff]
 obtain ⟨n1,n2⟩:=jD p
 rw [n2,n2,List.mem_map]
 constructor
 ·rintro (hb | hb)
  ·obtain ⟨c1,c2,c3⟩:=rk (lO h _ hb)
   refine ⟨_,hb,?_⟩
   rw [rb c1 c2]
   refine Prod.ext ?_ ?_ <;> simp only <;> omega
  ·obtain ⟨c1,c2,c3⟩:=rk (lO h _ hb)
   refine ⟨_,hb,?_⟩
   rw [rb c1 c2]
   refine Prod.ext ?_ ?_ <;> simp only <;> omega
 ·rintro ⟨b,hb,rfl⟩
  obtain ⟨c1,c2,c3⟩:=rk (lO h b hb)
  obtain ⟨x,y,s⟩:=b
  rw [rb c1 c2]
  simp only at c2 ⊢
  rcases c2 with rfl | rfl
  ·right
   rw [show x+-1+1=x by omega,show y+1 - 1=y by omega]
   exact hb
  ·left
   rw [show x+1 - 1=x by omega,show y+1 - 1=y by omega]
   exact hb
def xM (p:List da):List (Int × Int):=(bK (bE p)).filter fun k=>decide (k.2 > ((bK (bE p)).getD 0 (0,0)).2)&&!kJ (bE p) k
section
variable {N:Nat} (hN:fq N)
include hN
theorem FD (l:List dR) (hl:l.length≤1000000) (b:dR):Xu N (l,b)=some (decide (b∈l)):=by
 have q:=n4 (rd:=wX N l b) l.length (fun k=>(k:Int)) (fun k=>decide (l.getD k (0,0,0)=b)) (fun _=>Sum.inl true) (Sum.inr ()) (fun k hk=>by
  obtain ⟨a1,a2⟩:=jg l hk
  have e:l.getD k (0,0,0)=l[k]:=by simp [hk]
  rw [e]
  simp only [wX,List.length_map,Int.toNat_natCast,a1,a2,bc hk,aI hk,Bool.and_self,cond_true,bk (show k < 9223372036854775807 by omega),Ec]
  by_cases h:l[k]=b <;> simp [h]) (by
  simp only [wX,List.length_map,bq,cond_false]) N (by unfold fq at hN; omega)
 have q':az (wX N l b) N 0=_:=q
 rw [TL,q',Option.bind_some]
 by_cases h:b∈l
 ·obtain ⟨k,hk,e⟩:=List.getElem_of_mem h
  cases hf:(List.range l.length).find? fun k=>decide (l.getD k (0,0,0)=b) with
  | none=>
   have:=List.find?_eq_none.1 hf k (List.mem_range.2 hk)
   simp [hk,e] at this
  | some j=>simp [h]
 ·cases hf:(List.range l.length).find? fun k=>decide (l.getD k (0,0,0)=b) with
  | none=>simp [h]
  | some j=>
   have h1:=List.find?_some hf
   have h2:=List.mem_range.1 (List.mem_of_find?_eq_some hf)
   have e:l.getD j (0,0,0)=l[j]:=by simp [h2]
   rw [e] at h1
   have:l[j]=b:=of_decide_eq_true h1
   exact absurd (this ▸ List.getElem_mem h2) h
omit hN in
theorem Cn {α:Type} (P:α→Bool) (l:List α) {k:Nat} (hk:k < l.length):(l.take (k+1)).filter P=if P l[k] then (l.take k).filter P++[l[k]] else (l.take k).filter P:=by
 rw [List.take_add_one,List.getElem?_eq_getElem hk,List.filter_append]
 cases h:P l[k] <;> simp [h]
omit hN in
theorem PJ (l:List (Int × Int)) (p:Int × Int):List.map au l++[AV.agg [AV.int .i64 p.1,AV.int .i64 p.2]]=List.map au (l++[p]):=by rw [List.map_append]; rfl
omit hN in
theorem K5 {α:Type} (P:α→Bool) (l:List α) (k:Nat):((l.take k).filter P).length≤k:=Nat.le_trans (List.length_filter_le _ _) (by rw [List.length_take]; omega)
abbrev ekT:EK:=.st (.cons 0 1 false .int (.cons 1 1 false .int .nil))
abbrev nkT (k:Int × Int):AV:=.agg [.int .i64 k.1,.int .i64 k.2]
omit hN in
theorem fW:fK ekT nkT AV.bool bo where
 key:=Fc
 pair:=fun _=>rfl
 exact:=fun _=>rfl
def hM (l:List dR):List ((Int × Int) × Bool):=l.foldl (fun m b=>nT (n9 b) true m) []
omit hN in
theorem PK (l:List dR) {k:Nat} (hk:k < l.length):hM (l.take (k+1))=nT (n9 l[k]) true (hM (l.take k)):=by
 unfold hM
 rw [List.take_add_one,List.getElem?_eq_getElem hk,List.foldl_append]
 rfl
omit hN in
theorem Ug (l:List dR) (k:Int × Int):(getM k (hM l)).getD false=decide (k∈l.map n9):=by
 have:∀ (l:List dR) (m:List ((Int × Int) × Bool)),(getM k (l.foldl (fun m b=>nT (n9 b) true m) m)).getD false=(decide (k∈l.map n9) || (getM k m).getD false):=by
  intro l
  induction l with
  | nil=>intro m; simp
  | cons b l ih=>
   intro m
   rw [List.foldl_cons,ih,wB,List.map_cons]
   by_cases e:k=n9 b
   ·simp [e]
   ·simp [e,beq_false_of_ne e]
 have:=this l []
 simpa [hM,getM] using this
theorem Uh (p:List da) (i:Nat) (hi:i < p.length) (acc:List dR) (M:List ((Int × Int) × Bool)) (u:Unit) (M0:List ((Int × Int) × Bool)) (XF:List dR) (hc:cr p[i]=0) (ha:acc.length≤1000000000) :
  az (lM N p (u,(i:Int),M0,XF)) N (0,M,acc,p[i].1,p[i].2.1,p[i].2.2.1,p[i].2.2.2.1,p[i].2.2.2.2,())=some (M,acc++cj p[i],p[i].1,p[i].2.1,p[i].2.2.1,p[i].2.2.2.1,p[i].2.2.2.2,()):=by
 have a:=Ee hN p hi
 generalize p[i]=c at *
 obtain ⟨h1,h2,h3⟩:=cZ hc
 have key:=bH (rd:=lM N p (u,(i:Int),M0,XF)) c.2.2.2.2.toNat (fun k=>((k:Int),M,acc++cC c k,c.1,c.2.1,c.2.2.1,c.2.2.2.1,c.2.2.2.2,())) (M,acc++cj c,c.1,c.2.1,c.2.2.1,c.2.2.2.1,c.2.2.2.2,()) (fun k hk=>by
  have bM:decide ((k:Int) < c.2.2.2.2)=true:=decide_eq_true (by omega)
  have t1:=dJ N c k h1 (by omega)
  have t2:=dJ N c (k+1) h1 (by omega)
  have q1:=eI c hc k (by omega)
  have q2:=eI c hc (k+1) (by omega)
  have hl:(acc++cC c k).length=acc.length+k:=by rw [List.length_append,dz]
  have hb:decide ((acc.length+k+1) * 24≤140737488355328)=true:=decide_eq_true (by omega)
  have eb:eU c k=iQ (ax c k) (ax c (k+1)):=rfl
  have es:acc++cC c (k+1)=(acc++cC c k)++[eU c k]:=by rw [ka,List.append_assoc]
  rw [es]
  simp only [lM,Int.toNat_natCast,a.1,bM,cond_true,t1,bk (show k < 9223372036854775807 by omega),t2,Option.bind_some,beq_self_eq_true,Bool.and_self]
  unfold iQ at eb
  generalize ax c k=x at *
  generalize ax c (k+1)=y at *
  by_cases xL:x.2 > y.2
  ·rw [if_pos xL] at eb
   have w:IntKind.wrap .i64 (x.1 - y.1)=x.1 - y.1:=gY ⟨by omega,by omega⟩
   have sn:=q8 (acc++cC c k) (eU c k) y.1 y.2 (x.1 - y.1) eb
   simp only [xL,decide_true,cond_true,fW.cells,fW.aV,gT,gU,cM,cI,List.length_map,hl,Nat.beq_refl,Bool.and_self,Bool.and_true,Option.bind_some,w,hb,sn,List.length_append,List.length_singleton,dz]
  ·rw [if_neg xL] at eb
   have w:IntKind.wrap .i64 (y.1 - x.1)=y.1 - x.1:=gY ⟨by omega,by omega⟩
   have sn:=q8 (acc++cC c k) (eU c k) x.1 x.2 (y.1 - x.1) eb
   simp only [xL,decide_true,decide_false,cond_true,cond_false,fW.cells,fW.aV,gT,gU,cM,cI,List.length_map,hl,Nat.beq_refl,Bool.and_self,Bool.and_true,Option.bind_some,w,hb,sn,List.length_append,List.length_singleton,dz]) (by
  have kN:decide (((c.2.2.2.2.toNat:Nat):Int) < c.2.2.2.2)=false:=decide_eq_false (by omega)
  simp only [lM,Int.toNat_natCast,a.1,kN,cond_false,fW.cells,fW.aV,gT,gU,cM,cI,List.length_map,Nat.beq_refl,Bool.and_self,Bool.and_true,cond_true,Option.bind_some]
  rfl) N 0 (Nat.zero_le _) (by unfold fq at hN; omega)
 have e0:acc++cC c 0=acc:=by simp [cC]
 rw [e0] at key
 exact key
theorem PL (p:List da) (M:List ((Int × Int) × Bool)) (h:∀ c∈p,cr c=0) (hp:p.length≤1000000):az (ke N p) N ((),0,M,[])=some ((),M,a6 p):=by
 refine bH (rd:=ke N p) p.length (fun k=>((),(k:Int),M,a6 (p.take k))) ((),M,a6 p) (fun k hk=>?_) ?_ N 0 (Nat.zero_le _) (by unfold fq at hN; omega)
 ·have a:=Ee hN p hk
  have e0:=h p[k] (List.getElem_mem hk)
  have hl:=lJ (p.take k) (fun c hc=>h c (List.mem_of_mem_take hc))
  rw [List.length_take,Nat.min_eq_left (Nat.le_of_lt hk)] at hl
  have b:=Uh hN p k hk (a6 (p.take k)) M () M (a6 (p.take k)) e0 (by omega)
  rw [jB p hk]
  simp only [ke,List.length_map,bc hk,aI hk,Int.toNat_natCast,a.1,a.2,fW.cells,fW.aV,gT,gU,cM,cI,Nat.beq_refl,Bool.and_self,Bool.and_true,cond_true,Option.bind_some,b,bk (show k < 9223372036854775807 by omega)]
 ·simp only [ke,List.length_map,bq,cond_false,fW.cells,fW.aV,gT,gU,cM,cI,Nat.beq_refl,Bool.and_self,Bool.and_true,cond_true,Option.bind_some,List.take_length]
theorem PM (u:Unit) (M0:List ((Int × Int) × Bool)) (l:List dR) (hl:l.length≤1000000):az (q7 N (u,M0,l)) N (0,[],l)=some (hM l,l):=by
 refine bH (rd:=q7 N (u,M0,l)) l.length (fun k=>((k:Int),hM (l.take k),l)) (hM l,l) (fun k hk=>?_) ?_ N 0 (Nat.zero_le _) (by unfold fq at hN; omega)
 ·obtain ⟨a1,a2⟩:=jg l hk
  have kk:=fW.keys (n9 l[k]) (hM (l.take k))
  have kp:=fW.put (n9 l[k]) true (hM (l.take k))
  rw [← PK l hk] at kp
  have gX:decide (0+k < l.length)=true:=decide_eq_true (by omega)
  generalize hM (l.take (k+1))=S' at *
  generalize hM (l.take k)=S at *
  unfold n9 at kk kp
  simp only [q7,List.length_map,bc hk,aI hk,gX,Int.toNat_natCast,Nat.zero_add,a1,a2,decide_true,fW.cells,fW.aV,gT,gU,cM,cI,Bool.and_self,Bool.and_true,cond_true,Option.bind_some,kk,kp,decide_eq_true hk,bk (show k < 9223372036854775807 by omega)]
 ·simp only [q7,List.length_map,bq,cond_false,fW.cells,fW.aV,gT,gU,cM,cI,Bool.and_self,Bool.and_true,cond_true,Option.bind_some,List.take_length]
theorem Hc (l:List dR) (hl:l.length≤1000000) (h:KU l=0):YF N l=some (bK l,0):=by
 rw [T4]
 simp only [cM,cI,Bool.and_true,cond_true,Option.bind_some]
 rw [PG hN,h,Option.bind_some,Ei hN l hl]
 simp only [bne_self_eq_false,cond_false,Option.bind_some,gD,gE,cond_true]
theorem PN (p:List da):YG N p=some (if je p=0 then (xM p,0) else ([],je p)):=by
 have z:((bif (allFit (aj.fits nV) (List.map bZ p)&&true) then some (List.map d90 (List.map bZ p)) else none:Option ((List (Int × Int × Bool × Bool × Int)))))=some p:=by simp only [Ap,Aq,Bool.and_true,cond_true]
 rw [T6,z,Option.bind_some,FC hN p,Option.bind_some,GY]
 by_cases h:je p=0
 ·rw [if_pos h,if_pos h]
  have DC:∀ c∈p,cr c=0:=(AA h).2
  have hp:=(AA h).1
  obtain ⟨o1,o2⟩:=mI h p.length (Nat.le_refl _)
  rw [List.take_length] at o1 o2
  have nl:(bE p).length≤4096:=by rw [xg o1]; exact o2
  have kl:=xh (bE p)
  have z2:((bif ((Nat.beq 0 (([]:List AV)).length&&Nat.beq 0 (([]:List AV)).length)&&(allFit (aj.fits eo) (ai ([]:List (AV × AV)))&&(allFit (aj.fits aP) ([]:List AV)&&true))) then some ((),0,(List.map fI (ai ([]:List (AV × AV)))),(List.map d106 ([]:List AV))) else none:Option (Unit × Int × (List ((Int × Int) × Bool)) × (List (Int × Int × Int)))).bind fun KG=>bif (aV ([]:List (AV × AV))&&true) then some KG else none)=some ((),0,[],[]):=rfl
  rw [z2,Option.bind_some,PL hN p [] DC (by omega),Option.bind_some]
  simp only [fW.cells,fW.aV,gT,gU,cM,cI,Bool.and_self,Bool.and_true,cond_true,Option.bind_some]
  rw [PM hN () [] (a6 p) (by omega),Option.bind_some,Fy hN p DC (by omega),Option.bind_some,sB o1]
  simp only [fW.cells,fW.aV,gT,gU,cM,cI,Ap,Aq,Bool.and_self,Bool.and_true,cond_true,Option.bind_some]
  rw [Hc hN _ (by omega) (K1 h),Option.bind_some]
  have key:az (nZ N (bK (bE p),0)) N ([],0,hM (a6 p),a6 p)=some (xM p,hM (a6 p),a6 p):=by
   unfold xM
   have hg:∀ k,(getM k (hM (a6 p))).getD false=kJ (bE p) k:=fun k=>by rw [Ug,K4 h]
   generalize hM (a6 p)=M at *
   generalize bK (bE p)=ks at *
   refine bH (rd:=nZ N (ks,0)) ks.length (fun k=>((ks.take k).filter fun k=>decide (k.2 > (ks.getD 0 (0,0)).2)&&!kJ (bE p) k,(k:Int),M,a6 p)) _ (fun k hk=>?_) ?_ N 0 (Nat.zero_le _) (by unfold fq at hN; omega)
   ·rw [Cn _ ks hk]
    have fl:=K5 (fun k:Int × Int=>decide (k.2 > (ks.getD 0 (0,0)).2)&&!kJ (bE p) k) ks k
    generalize (ks.take k).filter (fun k:Int × Int=>decide (k.2 > (ks.getD 0 (0,0)).2)&&!kJ (bE p) k)=s at *
    obtain ⟨a1,a2⟩:=kI ks hk
    have h0:0 < ks.length:=by omega
    obtain ⟨b1,b2⟩:=kI ks h0
    have eg:ks.getD 0 (0,0)=ks[0]:=by simp [h0]
    rw [eg]
    have XG:d86 (ah (List.map au ks) (Int.toNat 0))=ks[0]:=b1
    have XH:aj.fits cG (ah (List.map au ks) (Int.toNat 0))=true:=b2
    have i0:decide ((0:Int)≤0∧0 < (ks.length:Int))=true:=aI h0
    have kk:=fW.keys ks[k] M
    have kg:=fW.getD ks[k] false M
    rw [hg] at kg
    have f4:aj.fits p4 (AV.bool (kJ (bE p) ks[k]))=true:=rfl
    have g4:d4 (AV.bool (kJ (bE p) ks[k]))=kJ (bE p) ks[k]:=rfl
    have hb:decide ((s.length+1) * 16≤140737488355328)=true:=decide_eq_true (by omega)
    have sn:=PJ s ks[k]
    simp only [nZ,List.length_map,bc hk,aI hk,Int.toNat_natCast,a1,a2,XG,XH,i0,Bool.and_self,Bool.and_true,cond_true,cM,cI,Option.bind_some,kk,kg,f4,g4,fW.cells,fW.aV,gT,gU]
    generalize ks[k]=x at *
    generalize ks[0]=y at *
    cases kJ (bE p) x <;> cases decide (x.2 > y.2) <;> simp only [cond_true,cond_false,gD,gE,fW.cells,fW.aV,gT,gU,cM,cI,decide_true,Bool.and_self,Bool.and_true,Bool.and_false,Bool.false_and,Bool.true_and,Bool.not_true,Bool.not_false,if_true,Bool.false_eq_true,if_false,Option.bind_some,List.length_map,hb,sn,List.length_append,List.length_singleton,bk (show k < 9223372036854775807 by omega)]
   ·simp only [nZ,List.length_map,bq,cond_false,gD,gE,fW.cells,fW.aV,gT,gU,cM,cI,Bool.and_self,Bool.and_true,cond_true,decide_true,Option.bind_some,List.take_length]
  have z3:((bif (allFit (aj.fits cG) ([]:List AV)&&(allFit (aj.fits eo) (ai (ab (List.map bo (hM (a6 p)))))&&(allFit (aj.fits aP) (List.map n106 (a6 p))&&true))) then some ((List.map d86 ([]:List AV)),0,(List.map fI (ai (ab (List.map bo (hM (a6 p)))))),(List.map d106 (List.map n106 (a6 p)))) else none:Option ((List (Int × Int)) × Int × (List ((Int × Int) × Bool)) × (List (Int × Int × Int)))).bind fun SC=>bif (aV (ab (List.map bo (hM (a6 p))))&&(decide (0=(List.map au SC.1).length)&&true)) then some SC else none)=some ([],0,hM (a6 p),a6 p):=by
   have f0:allFit (aj.fits cG) ([]:List AV)=true:=rfl
   have m0:List.map d86 ([]:List AV)=[]:=rfl
   simp only [f0,m0,fW.cells,fW.aV,gT,gU,cM,cI,Bool.and_self,Bool.and_true,cond_true,Option.bind_some,List.map_nil,List.length_nil,decide_true]
  simp only [fW.cells,fW.aV,gT,gU,cM,cI,Bool.and_self,Bool.and_true,Bool.true_and,cond_true] at z3
  simp only [Bool.true_and]
  rw [z3,Option.bind_some,key,Option.bind_some]
  simp only [gD,gE,cond_true]
 ·rw [if_neg h,if_neg h]
  rfl
end
end Go.Proofs.YtldcljfjjoidhaaGreatDoor
