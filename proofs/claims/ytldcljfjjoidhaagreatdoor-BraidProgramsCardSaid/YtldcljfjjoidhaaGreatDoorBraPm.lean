/- Plain laws: the net of a valid program is a valid net; fly knots. -/
import Derived.Test.YtldcljfjjoidhaaGreatDoorBraPl
set_option linter.all false
namespace Go.Proofs.YtldcljfjjoidhaaGreatDoor
open Go Go.Am Go.Sort
set_option maxRecDepth 100000
theorem B9 {c:dh} (h:fT c=0) {k:Nat} (hk:k≤c.2.2.2.2.toNat):aL (aN c k)=0:=by
 have h1:=pS h
 unfold fT at h
 rw [if_pos h1] at h
 have:=jl.1 h (aL (aN c k)) (List.mem_map.2 ⟨aN c k,List.mem_map.2 ⟨k,List.mem_range.2 (by omega),rfl⟩,rfl⟩)
 exact this
theorem uf {b:dL} (h0:aL (tc b)=0) (h1:b.2.2=-1∨b.2.2=1):nS b=(b.1+b.2.2,b.2.1+1):=by
 have:=jU h0
 unfold tc at this
 simp only at this
 unfold nS
 rw [iH (by omega),iH (by omega)]
theorem Ca (p:Int × Int):aL p=0↔(-100000≤p.1∧p.1≤100000∧-100000≤p.2∧p.2≤100000)∧(p.1+p.2) % 2=0:=by
 unfold aL
 constructor
 ·intro h
  split at h
  ·simp at h
  ·split at h
   ·omega
   ·simp at h
 ·rintro ⟨h1,h2⟩
  rw [if_neg (by omega),if_pos h2]
theorem KS {c:dh} (h:fT c=0) {k:Nat} (hk:k < c.2.2.2.2.toNat):pT (fy c k)=0:=by
 have k1:=B9 h (show k≤c.2.2.2.2.toNat by omega)
 have k2:=B9 h (show k+1≤c.2.2.2.2.toNat by omega)
 have hs:((aN c (k+1)).1=(aN c k).1+1∨(aN c (k+1)).1=(aN c k).1 - 1)∧((aN c (k+1)).2=(aN c k).2+1∨(aN c (k+1)).2=(aN c k).2 - 1):=by
  unfold aN sg
  obtain ⟨x,y,r,u,n⟩:=c
  simp only
  rcases Nat.mod_two_eq_zero_or_one k with hm | hm
  ·have Kj:(k+1) % 2=1:=by omega
   rw [hm,Kj]
   cases r <;> cases u <;> simp <;> omega
  ·have Kj:(k+1) % 2=0:=by omega
   rw [hm,Kj]
   cases r <;> cases u <;> simp <;> omega
 unfold fy
 generalize aN c k=a at *
 generalize aN c (k+1)=b at *
 obtain ⟨a1,a2⟩:=a
 obtain ⟨b1,b2⟩:=b
 simp only at hs
 have e:∀ d:dL,aL (tc d)=0→(d.2.2=-1∨d.2.2=1)→aL (d.1+d.2.2,d.2.1+1)=0→pT d=0:=by
  intro d h0 h1 h2
  unfold pT
  rw [if_neg (by simp [h0]),if_neg (by omega),uf h0 h1]
  exact h2
 unfold iL
 simp only
 by_cases hh:a2 > b2
 ·rw [if_pos hh]
  refine e _ k2 (by simp only; omega) ?_
  simp only
  rw [show b1+(a1 - b1)=a1 by omega,show b2+1=a2 by omega]
  exact k1
 ·rw [if_neg hh]
  refine e _ k1 (by simp only; omega) ?_
  simp only
  rw [show a1+(b1 - a1)=b1 by omega,show a2+1=b2 by omega]
  exact k2
theorem ug {b:dL} (h:pT b=0):aL (tc b)=0∧(b.2.2=-1∨b.2.2=1)∧aL (nS b)=0:=by
 unfold pT at h
 by_cases h0:aL (tc b)=0
 ·rw [if_neg (by simp [h0])] at h
  by_cases h1:b.2.2≠-1∧b.2.2≠1
  ·rw [if_pos h1] at h; simp at h
  ·rw [if_neg h1] at h
   exact ⟨h0,by omega,h⟩
 ·rw [if_pos h0] at h
  exact absurd h h0
theorem GW {c:dh} {b:dL}:b∈cF c↔∃ k,k < c.2.2.2.2.toNat∧fy c k=b:=by
 unfold cF cC
 simp [List.mem_map,List.mem_range]
theorem wU {p:List dh} (h:ki p=0):p.length≤256∧(∀ k (hk:k < p.length),wS (p.take k) p[k]=0):=by
 unfold ki at h
 by_cases hp:p.length > 256
 ·rw [if_pos hp] at h; simp at h
 ·rw [if_neg hp] at h
  exact ⟨by omega,fun k hk=>Fm h hk⟩
theorem TY {p:List dh} (h:ki p=0):∀ c∈p,fT c=0:=by
 intro c hc
 obtain ⟨k,hk,rfl⟩:=List.getElem_of_mem hc
 exact (lF ((wU h).2 k hk)).1
theorem nT {p:List dh} (h:ki p=0):∀ b∈bz p,pT b=0:=by
 intro b hb
 obtain ⟨c,hc,hb⟩:=List.mem_flatMap.1 hb
 obtain ⟨k,hk,rfl⟩:=GW.1 hb
 exact KS (TY h c hc) hk
theorem td (c:dh):∀ k,(cC c k).Nodup
 | 0=>by simp [cC]
 | k+1=>by
  rw [jY,List.nodup_append]
  refine ⟨td c k,by simp,?_⟩
  intro a ha b hb e
  rw [List.mem_singleton] at hb
  subst hb; subst e
  exact B5 c k ha
theorem j6 {p:List dh} (h:ki p=0):∀ k,k≤p.length→(bz (p.take k)).Nodup∧(bz (p.take k)).length≤4096:=by
 intro k
 induction k with
 | zero=>intro _; simp [bz]
 | succ k ih=>
  intro hk
  have gS:k < p.length:=by omega
  obtain ⟨i1,i2⟩:=ih (by omega)
  obtain ⟨e1,e2,e3,e4⟩:=lF ((wU h).2 k gS)
  rw [lB p gS]
  refine ⟨?_,by rw [List.length_append]; exact e4⟩
  rw [List.nodup_append]
  refine ⟨i1,td _ _,?_⟩
  intro a ha b hb e
  subst e
  exact e3 a hb ha
def dN (p:List dh):List dL:=BW (ltOf j9) (0,0,0) (bz p)
theorem ox (p:List dh):Ld (ltOf j9) (dN p)∧∀ x,x∈dN p↔x∈bz p:=r7 Kt OM (0,0,0) (bz p)
theorem KT (a b:dL):ltOf j9 a b=less a b:=by
 have h1:=B2 0 a b
 have h2:=GQ 0 a b
 rw [h1] at h2
 exact Option.some.inj h2
theorem sh {p:List dh} (h:(bz p).Nodup):(bz p).mergeSort (fun x y=>!(ltOf j9) y x)=dN p:=by
 obtain ⟨s1,s2⟩:=BX Kt (bz p)
 obtain ⟨n1,n2⟩:=ox p
 refine zX Kt ?_ n1 (fun x=>by rw [s2,n2])
 have hn:((bz p).mergeSort (fun x y=>!(ltOf j9) y x)).Nodup:=(List.mergeSort_perm (bz p) _).nodup_iff.2 h
 refine List.Pairwise.imp₂ ?_ s1 hn
 intro a b hab cw
 cases hc:ltOf j9 a b with
 | true=>rfl
 | false=>exact absurd (OM a b hc hab) cw
theorem qZ {p:List dh} (h:(bz p).Nodup):(dN p).length=(bz p).length:=by
 rw [← sh h,List.length_mergeSort]
theorem KU {p:List dh} (h:ki p=0):KO (dN p)=0:=by
 obtain ⟨o1,o2⟩:=j6 h p.length (Nat.le_refl _)
 rw [List.take_length] at o1 o2
 have hlen:=qZ o1
 obtain ⟨n1,n2⟩:=ox p
 unfold KO
 rw [if_neg (by omega)]
 refine jl.2 fun x hx=>?_
 obtain ⟨k,hk,rfl⟩:=List.mem_map.1 hx
 have hk:k < (dN p).length:=List.mem_range.1 hk
 have e1:(dN p).getD k (0,0,0)=(dN p)[k]:=by simp [hk]
 have c1:pT (dN p)[k]=0:=nT h _ ((n2 _).1 (List.getElem_mem hk))
 unfold Pl
 rw [e1,if_neg (by simp [c1])]
 refine if_neg ?_
 rintro ⟨h0,hl⟩
 have Qm:k - 1 < (dN p).length:=by omega
 have e2:(dN p).getD (k - 1) (0,0,0)=(dN p)[k - 1]:=by simp [Qm]
 rw [e2,← KT] at hl
 have:=List.pairwise_iff_getElem.1 n1 (k - 1) k Qm hk (by omega)
 rw [hl] at this
 cases this
theorem Eb {l:List dL} {k:Int × Int}:k∈bD l↔∃ b∈l,k=tc b∨k=nS b:=by
 induction l with
 | nil=>simp [bD]
 | cons b l ih=>
  simp only [bD,List.mem_cons,ih]
  constructor
  ·rintro (h | h | ⟨d,hd,h⟩)
   ·exact ⟨b,.inl rfl,.inl h⟩
   ·exact ⟨b,.inl rfl,.inr h⟩
   ·exact ⟨d,.inr hd,h⟩
  ·rintro ⟨d,rfl | hd,h | h⟩
   ·exact .inl h
   ·exact .inr (.inl h)
   ·exact .inr (.inr ⟨d,hd,.inl h⟩)
   ·exact .inr (.inr ⟨d,hd,.inr h⟩)
theorem Ec {l:List dL} {k:Int × Int}:k∈eJ l↔∃ b∈l,k=tc b∨k=nS b:=by
 rw [← Eb]
 exact (r7 Te Tf (0,0) (bD l)).2 k
theorem pU (l:List dL):(eJ l).length≤2 * l.length:=by
 rw [← iM]
 unfold eJ BW
 have:∀ (l a:List (Int × Int)),(l.foldl (fun s k=>mF uc (0,0) k s) a).length≤l.length+a.length:=by
  intro l
  induction l with
  | nil=>intro a; simp
  | cons x l ih=>
   intro a
   have h1:=ih (mF uc (0,0) x a)
   have h2:=wA (lt:=uc) (0,0) x a
   rw [List.foldl_cons,List.length_cons]
   omega
 exact this (bD l) []
theorem KV {p:List dh} (h:ki p=0) {k:Int × Int} (hk:k∈eJ (dN p)):aL k=0:=by
 obtain ⟨b,hb,hk⟩:=Ec.1 hk
 obtain ⟨c1,c2,c3⟩:=ug (nT h b (((ox p).2 b).1 hb))
 rcases hk with rfl | rfl
 ·exact c1
 ·exact c3
def j7 (l:List dL) (k:Int × Int):Bool:=decide ((k.1 - 1,k.2 - 1,1)∈l) || decide ((k.1+1,k.2 - 1,-1)∈l)
theorem KW {p:List dh} (h:ki p=0) (k:Int × Int):j7 (dN p) k=decide (k∈(bz p).map nS):=by
 rw [Bool.eq_iff_iff]
 unfold j7
 rw [Bool.or_eq_true,decide_eq_true_iff,decide_eq_true_iff,decide_eq_true_iff]
 obtain ⟨n1,n2⟩:=ox p
 rw [n2,n2,List.mem_map]
 constructor
 ·rintro (hb | hb)
  ·obtain ⟨c1,c2,c3⟩:=ug (nT h _ hb)
   refine ⟨_,hb,?_⟩
   rw [uf c1 c2]
   refine Prod.ext ?_ ?_ <;> simp only <;> omega
  ·obtain ⟨c1,c2,c3⟩:=ug (nT h _ hb)
   refine ⟨_,hb,?_⟩
   rw [uf c1 c2]
   refine Prod.ext ?_ ?_ <;> simp only <;> omega
 ·rintro ⟨b,hb,rfl⟩
  obtain ⟨c1,c2,c3⟩:=ug (nT h b hb)
  obtain ⟨x,y,s⟩:=b
  rw [uf c1 c2]
  simp only at c2 ⊢
  rcases c2 with rfl | rfl
  ·right
   rw [show x+-1+1=x by omega,show y+1 - 1=y by omega]
   exact hb
  ·left
   rw [show x+1 - 1=x by omega,show y+1 - 1=y by omega]
   exact hb
def Cb (p:List dh):List (Int × Int):=(eJ (dN p)).filter fun k=>decide (k.2 > ((eJ (dN p)).getD 0 (0,0)).2)&&!j7 (dN p) k
section
variable {N:Nat} (hN:fC N)
include hN
theorem Fq (l:List dL) (hl:l.length≤1000000) (b:dL):W6 N (l,b)=some (decide (b∈l)):=by
 have q:=qX (rd:=wM N l b) l.length (fun k=>(k:Int)) (fun k=>decide (l.getD k (0,0,0)=b)) (fun _=>Sum.inl true) (Sum.inr ()) (fun k hk=>by
  obtain ⟨a1,a2⟩:=kA l hk
  have e:l.getD k (0,0,0)=l[k]:=by simp [hk]
  rw [e]
  simp only [wM,List.length_map,Int.toNat_natCast,a1,a2,a8 hk,aI hk,Bool.and_self,cond_true,bk (show k < 9223372036854775807 by omega),D4]
  by_cases h:l[k]=b <;> simp [h]) (by
  simp only [wM,List.length_map,bp,cond_false]) N (by unfold fC at hN; omega)
 have q':az (wM N l b) N 0=_:=q
 rw [Tk,q',Option.bind_some]
 by_cases h:b∈l
 ·obtain ⟨k,hk,e⟩:=List.getElem_of_mem h
  cases hf:(List.range l.length).find? fun k=>decide (l.getD k (0,0,0)=b) with
  | none=>
   have:=List.find?_eq_none.1 hf k (List.mem_range.2 hk)
   simp [hk,e] at this
  | some j=>simp [h]
 ·cases hf:(List.range l.length).find? fun k=>decide (l.getD k (0,0,0)=b) with
  | none=>simp [h]
  | some j=>
   have h1:=List.find?_some hf
   have h2:=List.mem_range.1 (List.mem_of_find?_eq_some hf)
   have e:l.getD j (0,0,0)=l[j]:=by simp [h2]
   rw [e] at h1
   have:l[j]=b:=of_decide_eq_true h1
   exact absurd (this ▸ List.getElem_mem h2) h
omit hN in
theorem te {α:Type} (P:α→Bool) (l:List α) {k:Nat} (hk:k < l.length):(l.take (k+1)).filter P=if P l[k] then (l.take k).filter P++[l[k]] else (l.take k).filter P:=by
 rw [List.take_add_one,List.getElem?_eq_getElem hk,List.filter_append]
 cases h:P l[k] <;> simp [h]
omit hN in
theorem Fs (l:List (Int × Int)) (p:Int × Int):List.map av l++[AV.agg [AV.int .i64 p.1,AV.int .i64 p.2]]=List.map av (l++[p]):=by rw [List.map_append]; rfl
omit hN in
theorem Cc {α:Type} (P:α→Bool) (l:List α) (k:Nat):((l.take k).filter P).length≤k:=Nat.le_trans (List.length_filter_le _ _) (by rw [List.length_take]; omega)
theorem Pp (p:List dh) (h:ki p=0):Yf N p=some (Cb p):=by
 have hv:=wU h
 have zz:∀ c∈p,cm c=0:=(ow h).2
 obtain ⟨o1,o2⟩:=j6 h p.length (Nat.le_refl _)
 rw [List.take_length] at o1 o2
 have nl:(dN p).length≤4096:=by rw [qZ o1]; exact o2
 have kl:=pU (dN p)
 have Yo:((bif (allFit (aj.fits nJ) (List.map bR p)&&true) then some (List.map d88 (List.map bR p)) else none:Option ((List (Int × Int × Bool × Bool × Int)))))=some p:=by simp only [J5,J6,Bool.and_true,cond_true]
 have q45:UC N p=some (dN p):=by
  rw [KA,Yo,Option.bind_some,ub hN p zz (by omega),Option.bind_some]
  simp only [cz,cr,Bool.and_true,cond_true,Option.bind_some]
  rw [show UB N (bz p)=some (dN p) from Fh hN _ (by omega),Option.bind_some]
 rw [Tx,Yo,Option.bind_some,q45,Option.bind_some]
 simp only [cz,cr,Bool.and_true,cond_true,Option.bind_some]
 rw [GU hN _ (by omega),Option.bind_some]
 have xP:∀ k∈eJ (dN p),aL k=0:=fun k hk=>KV h hk
 have key:az (qV N (dN p) (eJ (dN p))) N ([],0)=some (Cb p):=by
  unfold Cb
  generalize dN p=nt at *
  generalize eJ nt=ks at *
  refine bF (rd:=qV N nt ks) ks.length (fun k=>((ks.take k).filter fun k=>decide (k.2 > (ks.getD 0 (0,0)).2)&&!j7 nt k,(k:Int))) _ (fun k hk=>?_) ?_ N 0 (Nat.zero_le _) (by unfold fC at hN; omega)
  ·rw [te _ ks hk]
   have fl:=Cc (fun k:Int × Int=>decide (k.2 > (ks.getD 0 (0,0)).2)&&!j7 nt k) ks k
   generalize (ks.take k).filter (fun k:Int × Int=>decide (k.2 > (ks.getD 0 (0,0)).2)&&!j7 nt k)=s at *
   have bd:=(Ca _).1 (xP ks[k] (List.getElem_mem hk))
   obtain ⟨a1,a2⟩:=ph ks hk
   have h0:0 < ks.length:=by omega
   obtain ⟨b1,b2⟩:=ph ks h0
   have eg:ks.getD 0 (0,0)=ks[0]:=by simp [h0]
   rw [eg]
   have b1':d86 (ah (List.map av ks) (Int.toNat 0))=ks[0]:=b1
   have b2':aj.fits cG (ah (List.map av ks) (Int.toNat 0))=true:=b2
   have i0:decide ((0:Int)≤0∧0 < (ks.length:Int))=true:=aI h0
   have w1:IntKind.wrap .i64 (ks[k].1 - 1)=ks[k].1 - 1:=iH (by omega)
   have w2:IntKind.wrap .i64 (ks[k].2 - 1)=ks[k].2 - 1:=iH (by omega)
   have w3:IntKind.wrap .i64 (ks[k].1+1)=ks[k].1+1:=iH (by omega)
   have q1:=Fq hN nt (by omega) (ks[k].1 - 1,ks[k].2 - 1,1)
   have q2:=Fq hN nt (by omega) (ks[k].1+1,ks[k].2 - 1,-1)
   have hb:decide ((s.length+1) * 16≤140737488355328)=true:=decide_eq_true (by omega)
   have sn:=Fs s ks[k]
   simp only [qV,List.length_map,a8 hk,aI hk,Int.toNat_natCast,a1,a2,b1',b2',i0,Bool.and_self,Bool.and_true,cond_true,cz,cr,Option.bind_some,w1,w2,w3,q1,q2]
   unfold j7
   generalize ks[k]=x at *
   generalize ks[0]=y at *
   cases decide ((x.1 - 1,x.2 - 1,(1:Int))∈nt) <;> cases decide ((x.1+1,x.2 - 1,(-1:Int))∈nt) <;> cases decide (x.2 > y.2) <;> simp only [cond_true,cond_false,gn,gq,decide_true,Bool.and_self,Bool.and_true,Bool.and_false,Bool.false_and,Bool.true_and,Bool.or_false,Bool.or_true,Bool.or_self,Bool.not_true,Bool.not_false,if_true,Bool.false_eq_true,if_false,Option.bind_some,List.length_map,hb,sn,List.length_append,List.length_singleton,bk (show k < 9223372036854775807 by omega)]
  ·simp only [qV,List.length_map,bp,cond_false,gn,gq,Bool.and_true,cond_true,decide_true,Option.bind_some,List.take_length]
 have z2:((bif (allFit (aj.fits cG) ([]:List AV)&&true) then some ((List.map d86 ([]:List AV)),0) else none:Option ((List (Int × Int)) × Int)).bind fun B1=>bif (decide (0=(List.map av B1.1).length)&&true) then some B1 else none)=some ([],0):=rfl
 simp only [Bool.and_true] at z2
 rw [z2,Option.bind_some,key,Option.bind_some]
 simp only [gn,gq,cond_true]
abbrev ekT:EK:=.st (.cons 0 1 false .int (.cons 1 1 false .int .nil))
abbrev nkT (k:Int × Int):AV:=.agg [.int .i64 k.1,.int .i64 k.2]
omit hN in
theorem fU:fH ekT nkT AV.bool bn where
 key:=E3
 pair:=fun _=>rfl
 exact:=fun _=>rfl
def hM (l:List dL):List ((Int × Int) × Bool):=l.foldl (fun m b=>nI (nS b) true m) []
omit hN in
theorem Pq (l:List dL) {k:Nat} (hk:k < l.length):hM (l.take (k+1))=nI (nS l[k]) true (hM (l.take k)):=by
 unfold hM
 rw [List.take_add_one,List.getElem?_eq_getElem hk,List.foldl_append]
 rfl
omit hN in
theorem TZ (l:List dL) (k:Int × Int):(getM k (hM l)).getD false=decide (k∈l.map nS):=by
 have:∀ (l:List dL) (m:List ((Int × Int) × Bool)),(getM k (l.foldl (fun m b=>nI (nS b) true m) m)).getD false=(decide (k∈l.map nS) || (getM k m).getD false):=by
  intro l
  induction l with
  | nil=>intro m; simp
  | cons b l ih=>
   intro m
   rw [List.foldl_cons,ih,v8,List.map_cons]
   by_cases e:k=nS b
   ·simp [e]
   ·simp [e,beq_false_of_ne e]
 have:=this l []
 simpa [hM,getM] using this
theorem T0 (p:List dh) (i:Nat) (hi:i < p.length) (acc:List dL) (M:List ((Int × Int) × Bool)) (u:Unit) (M0:List ((Int × Int) × Bool)) (Xl:List dL) (hc:cm p[i]=0) (ha:acc.length≤1000000000) :
  az (lE N p (u,(i:Int),M0,Xl)) N (0,M,acc,p[i].1,p[i].2.1,p[i].2.2.1,p[i].2.2.2.1,p[i].2.2.2.2,())=some (M,acc++cF p[i],p[i].1,p[i].2.1,p[i].2.2.1,p[i].2.2.2.1,p[i].2.2.2.2,()):=by
 have a:=D6 hN p hi
 generalize p[i]=c at *
 obtain ⟨h1,h2,h3⟩:=dB hc
 have key:=bF (rd:=lE N p (u,(i:Int),M0,Xl)) c.2.2.2.2.toNat (fun k=>((k:Int),M,acc++cC c k,c.1,c.2.1,c.2.2.1,c.2.2.2.1,c.2.2.2.2,())) (M,acc++cF c,c.1,c.2.1,c.2.2.1,c.2.2.2.1,c.2.2.2.2,()) (fun k hk=>by
  have bP:decide ((k:Int) < c.2.2.2.2)=true:=decide_eq_true (by omega)
  have t1:=dW N c k h1 (by omega)
  have t2:=dW N c (k+1) h1 (by omega)
  have q1:=eD c hc k (by omega)
  have q2:=eD c hc (k+1) (by omega)
  have hl:(acc++cC c k).length=acc.length+k:=by rw [List.length_append,dY]
  have hb:decide ((acc.length+k+1) * 24≤140737488355328)=true:=decide_eq_true (by omega)
  have eb:fy c k=iL (aN c k) (aN c (k+1)):=rfl
  have es:acc++cC c (k+1)=(acc++cC c k)++[fy c k]:=by rw [jY,List.append_assoc]
  rw [es]
  simp only [lE,Int.toNat_natCast,a.1,bP,cond_true,t1,bk (show k < 9223372036854775807 by omega),t2,Option.bind_some,beq_self_eq_true,Bool.and_self]
  unfold iL at eb
  generalize aN c k=x at *
  generalize aN c (k+1)=y at *
  by_cases xz:x.2 > y.2
  ·rw [if_pos xz] at eb
   have w:IntKind.wrap .i64 (x.1 - y.1)=x.1 - y.1:=iH ⟨by omega,by omega⟩
   have sn:=qY (acc++cC c k) (fy c k) y.1 y.2 (x.1 - y.1) eb
   simp only [xz,decide_true,cond_true,fU.cells,fU.aV,gQ,gR,cz,cr,List.length_map,hl,Nat.beq_refl,Bool.and_self,Bool.and_true,Option.bind_some,w,hb,sn,List.length_append,List.length_singleton,dY]
  ·rw [if_neg xz] at eb
   have w:IntKind.wrap .i64 (y.1 - x.1)=y.1 - x.1:=iH ⟨by omega,by omega⟩
   have sn:=qY (acc++cC c k) (fy c k) x.1 x.2 (y.1 - x.1) eb
   simp only [xz,decide_true,decide_false,cond_true,cond_false,fU.cells,fU.aV,gQ,gR,cz,cr,List.length_map,hl,Nat.beq_refl,Bool.and_self,Bool.and_true,Option.bind_some,w,hb,sn,List.length_append,List.length_singleton,dY]) (by
  have lM:decide (((c.2.2.2.2.toNat:Nat):Int) < c.2.2.2.2)=false:=decide_eq_false (by omega)
  simp only [lE,Int.toNat_natCast,a.1,lM,cond_false,fU.cells,fU.aV,gQ,gR,cz,cr,List.length_map,Nat.beq_refl,Bool.and_self,Bool.and_true,cond_true,Option.bind_some]
  rfl) N 0 (Nat.zero_le _) (by unfold fC at hN; omega)
 have e0:acc++cC c 0=acc:=by simp [cC]
 rw [e0] at key
 exact key
theorem Pr (p:List dh) (M:List ((Int × Int) × Bool)) (h:∀ c∈p,cm c=0) (hp:p.length≤1000000):az (j4 N p) N ((),0,M,[])=some ((),M,bz p):=by
 refine bF (rd:=j4 N p) p.length (fun k=>((),(k:Int),M,bz (p.take k))) ((),M,bz p) (fun k hk=>?_) ?_ N 0 (Nat.zero_le _) (by unfold fC at hN; omega)
 ·have a:=D6 hN p hk
  have e0:=h p[k] (List.getElem_mem hk)
  have hl:=lA (p.take k) (fun c hc=>h c (List.mem_of_mem_take hc))
  rw [List.length_take,Nat.min_eq_left (Nat.le_of_lt hk)] at hl
  have b:=T0 hN p k hk (bz (p.take k)) M () M (bz (p.take k)) e0 (by omega)
  rw [lB p hk]
  simp only [j4,List.length_map,a8 hk,aI hk,Int.toNat_natCast,a.1,a.2,fU.cells,fU.aV,gQ,gR,cz,cr,Nat.beq_refl,Bool.and_self,Bool.and_true,cond_true,Option.bind_some,b,bk (show k < 9223372036854775807 by omega)]
 ·simp only [j4,List.length_map,bp,cond_false,fU.cells,fU.aV,gQ,gR,cz,cr,Nat.beq_refl,Bool.and_self,Bool.and_true,cond_true,Option.bind_some,List.take_length]
theorem Ps (u:Unit) (M0:List ((Int × Int) × Bool)) (l:List dL) (hl:l.length≤1000000):az (qW N (u,M0,l)) N (0,[],l)=some (hM l,l):=by
 refine bF (rd:=qW N (u,M0,l)) l.length (fun k=>((k:Int),hM (l.take k),l)) (hM l,l) (fun k hk=>?_) ?_ N 0 (Nat.zero_le _) (by unfold fC at hN; omega)
 ·obtain ⟨a1,a2⟩:=kA l hk
  have kk:=fU.keys (nS l[k]) (hM (l.take k))
  have kp:=fU.put (nS l[k]) true (hM (l.take k))
  rw [← Pq l hk] at kp
  have gS:decide (0+k < l.length)=true:=decide_eq_true (by omega)
  generalize hM (l.take (k+1))=S' at *
  generalize hM (l.take k)=S at *
  unfold nS at kk kp
  simp only [qW,List.length_map,a8 hk,aI hk,gS,Int.toNat_natCast,Nat.zero_add,a1,a2,decide_true,fU.cells,fU.aV,gQ,gR,cz,cr,Bool.and_self,Bool.and_true,cond_true,Option.bind_some,kk,kp,decide_eq_true hk,bk (show k < 9223372036854775807 by omega)]
 ·simp only [qW,List.length_map,bp,cond_false,fU.cells,fU.aV,gQ,gR,cz,cr,Bool.and_self,Bool.and_true,cond_true,Option.bind_some,List.take_length]
theorem GX (l:List dL) (hl:l.length≤1000000) (h:KO l=0):Yk N l=some (eJ l,0):=by
 rw [TJ]
 simp only [cz,cr,Bool.and_true,cond_true,Option.bind_some]
 rw [Pm hN,h,Option.bind_some,Ea hN l hl]
 simp only [bne_self_eq_false,cond_false,Option.bind_some,gn,gq,cond_true]
theorem Pt (p:List dh):Yl N p=some (if ki p=0 then (Cb p,0) else ([],ki p)):=by
 have z:((bif (allFit (aj.fits mI) (List.map bV p)&&true) then some (List.map d90 (List.map bV p)) else none:Option ((List (Int × Int × Bool × Bool × Int)))))=some p:=by simp only [zZ,z6,Bool.and_true,cond_true]
 rw [TM,z,Option.bind_some,Fp hN p,Option.bind_some,GJ]
 by_cases h:ki p=0
 ·rw [if_pos h,if_pos h]
  have zz:∀ c∈p,cm c=0:=(ow h).2
  have hp:=(ow h).1
  obtain ⟨o1,o2⟩:=j6 h p.length (Nat.le_refl _)
  rw [List.take_length] at o1 o2
  have nl:(dN p).length≤4096:=by rw [qZ o1]; exact o2
  have kl:=pU (dN p)
  have z2:((bif ((Nat.beq 0 (([]:List AV)).length&&Nat.beq 0 (([]:List AV)).length)&&(allFit (aj.fits ee) (ai ([]:List (AV × AV)))&&(allFit (aj.fits aM) ([]:List AV)&&true))) then some ((),0,(List.map fF (ai ([]:List (AV × AV)))),(List.map d106 ([]:List AV))) else none:Option (Unit × Int × (List ((Int × Int) × Bool)) × (List (Int × Int × Int)))).bind fun B1=>bif (aV ([]:List (AV × AV))&&true) then some B1 else none)=some ((),0,[],[]):=rfl
  rw [z2,Option.bind_some,Pr hN p [] zz (by omega),Option.bind_some]
  simp only [fU.cells,fU.aV,gQ,gR,cz,cr,Bool.and_self,Bool.and_true,cond_true,Option.bind_some]
  rw [Ps hN () [] (bz p) (by omega),Option.bind_some,Fj hN p zz (by omega),Option.bind_some,sh o1]
  simp only [fU.cells,fU.aV,gQ,gR,cz,cr,zZ,z6,Bool.and_self,Bool.and_true,cond_true,Option.bind_some]
  rw [GX hN _ (by omega) (KU h),Option.bind_some]
  have key:az (nQ N (eJ (dN p),0)) N ([],0,hM (bz p),bz p)=some (Cb p,hM (bz p),bz p):=by
   unfold Cb
   have hg:∀ k,(getM k (hM (bz p))).getD false=j7 (dN p) k:=fun k=>by rw [TZ,KW h]
   generalize hM (bz p)=M at *
   generalize eJ (dN p)=ks at *
   refine bF (rd:=nQ N (ks,0)) ks.length (fun k=>((ks.take k).filter fun k=>decide (k.2 > (ks.getD 0 (0,0)).2)&&!j7 (dN p) k,(k:Int),M,bz p)) _ (fun k hk=>?_) ?_ N 0 (Nat.zero_le _) (by unfold fC at hN; omega)
   ·rw [te _ ks hk]
    have fl:=Cc (fun k:Int × Int=>decide (k.2 > (ks.getD 0 (0,0)).2)&&!j7 (dN p) k) ks k
    generalize (ks.take k).filter (fun k:Int × Int=>decide (k.2 > (ks.getD 0 (0,0)).2)&&!j7 (dN p) k)=s at *
    obtain ⟨a1,a2⟩:=ph ks hk
    have h0:0 < ks.length:=by omega
    obtain ⟨b1,b2⟩:=ph ks h0
    have eg:ks.getD 0 (0,0)=ks[0]:=by simp [h0]
    rw [eg]
    have b1':d86 (ah (List.map av ks) (Int.toNat 0))=ks[0]:=b1
    have b2':aj.fits cG (ah (List.map av ks) (Int.toNat 0))=true:=b2
    have i0:decide ((0:Int)≤0∧0 < (ks.length:Int))=true:=aI h0
    have kk:=fU.keys ks[k] M
    have kg:=fU.getD ks[k] false M
    rw [hg] at kg
    have f4:aj.fits p4 (AV.bool (j7 (dN p) ks[k]))=true:=rfl
    have g4:d4 (AV.bool (j7 (dN p) ks[k]))=j7 (dN p) ks[k]:=rfl
    have hb:decide ((s.length+1) * 16≤140737488355328)=true:=decide_eq_true (by omega)
    have sn:=Fs s ks[k]
    simp only [nQ,List.length_map,a8 hk,aI hk,Int.toNat_natCast,a1,a2,b1',b2',i0,Bool.and_self,Bool.and_true,cond_true,cz,cr,Option.bind_some,kk,kg,f4,g4,fU.cells,fU.aV,gQ,gR]
    generalize ks[k]=x at *
    generalize ks[0]=y at *
    cases j7 (dN p) x <;> cases decide (x.2 > y.2) <;> simp only [cond_true,cond_false,gn,gq,fU.cells,fU.aV,gQ,gR,cz,cr,decide_true,Bool.and_self,Bool.and_true,Bool.and_false,Bool.false_and,Bool.true_and,Bool.not_true,Bool.not_false,if_true,Bool.false_eq_true,if_false,Option.bind_some,List.length_map,hb,sn,List.length_append,List.length_singleton,bk (show k < 9223372036854775807 by omega)]
   ·simp only [nQ,List.length_map,bp,cond_false,gn,gq,fU.cells,fU.aV,gQ,gR,cz,cr,Bool.and_self,Bool.and_true,cond_true,decide_true,Option.bind_some,List.take_length]
  have z3:((bif (allFit (aj.fits cG) ([]:List AV)&&(allFit (aj.fits ee) (ai (ab (List.map bn (hM (bz p)))))&&(allFit (aj.fits aM) (List.map n106 (bz p))&&true))) then some ((List.map d86 ([]:List AV)),0,(List.map fF (ai (ab (List.map bn (hM (bz p)))))),(List.map d106 (List.map n106 (bz p)))) else none:Option ((List (Int × Int)) × Int × (List ((Int × Int) × Bool)) × (List (Int × Int × Int)))).bind fun Sc=>bif (aV (ab (List.map bn (hM (bz p))))&&(decide (0=(List.map av Sc.1).length)&&true)) then some Sc else none)=some ([],0,hM (bz p),bz p):=by
   have f0:allFit (aj.fits cG) ([]:List AV)=true:=rfl
   have m0:List.map d86 ([]:List AV)=[]:=rfl
   simp only [f0,m0,fU.cells,fU.aV,gQ,gR,cz,cr,Bool.and_self,Bool.and_true,cond_true,Option.bind_some,List.map_nil,List.length_nil,decide_true]
  simp only [fU.cells,fU.aV,gQ,gR,cz,cr,Bool.and_self,Bool.and_true,Bool.true_and,cond_true] at z3
  simp only [Bool.true_and]
  rw [z3,Option.bind_some,key,Option.bind_some]
  simp only [gn,gq,cond_true]
 ·rw [if_neg h,if_neg h]
  rfl
end
end Go.Proofs.YtldcljfjjoidhaaGreatDoor
