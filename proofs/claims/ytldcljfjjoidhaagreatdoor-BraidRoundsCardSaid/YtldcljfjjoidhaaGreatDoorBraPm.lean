/- Plain laws: the net of a valid program is a valid net; fly knots. -/
import Derived.Test.YtldcljfjjoidhaaGreatDoorBraPl
set_option linter.all false
namespace Go.Proofs.YtldcljfjjoidhaaGreatDoor
open Go Go.Am Go.Sort
open List (map)
open Int (toNat)
open Go.IntKind (wrap)
open Go.Am.aT (fits)
set_option maxRecDepth 100000
theorem su {c:bD} (h:dW c=0) {k:Nat} (hk:k≤c.2.2.2.2.toNat):aF (aK c k)=0:=by
 have h1:=nE h
 unfold dW at h
 rw [if_pos h1] at h
 have:=dj.1 h (aF (aK c k)) (List.mem_map.2 ⟨aK c k,List.mem_map.2 ⟨k,List.mem_range.2 (by omega),rfl⟩,rfl⟩)
 exact this
theorem nF {b:dM} (h0:aF (mE b)=0) (h1:b.2.2=-1∨b.2.2=1):mH b=(b.1+b.2.2,b.2.1+1):=by
 have:=ey h0
 unfold mE at this
 simp only at this
 unfold mH
 rw [iE (by omega),iE (by omega)]
theorem My {c:bD} (h:dW c=0) {k:Nat} (hk:k < c.2.2.2.2.toNat):gB (eQ c k)=0:=by
 have k1:=su h (show k≤c.2.2.2.2.toNat by omega)
 have k2:=su h (show k+1≤c.2.2.2.2.toNat by omega)
 have hs:((aK c (k+1)).1=(aK c k).1+1∨(aK c (k+1)).1=(aK c k).1 - 1)∧((aK c (k+1)).2=(aK c k).2+1∨(aK c (k+1)).2=(aK c k).2 - 1):=by
  unfold aK sg
  obtain ⟨x,y,r,u,n⟩:=c
  simp only
  rcases Nat.mod_two_eq_zero_or_one k with hm | hm
  ·have Fs:(k+1) % 2=1:=by omega
   rw [hm,Fs]
   cases r <;> cases u <;> simp <;> omega
  ·have Fs:(k+1) % 2=0:=by omega
   rw [hm,Fs]
   cases r <;> cases u <;> simp <;> omega
 unfold eQ
 generalize aK c k=a at *
 generalize aK c (k+1)=b at *
 obtain ⟨a1,a2⟩:=a
 obtain ⟨b1,b2⟩:=b
 simp only at hs
 have e:∀ d:dM,aF (mE d)=0→(d.2.2=-1∨d.2.2=1)→aF (d.1+d.2.2,d.2.1+1)=0→gB d=0:=by
  intro d h0 h1 h2
  unfold gB
  rw [if_neg (by simp [h0]),if_neg (by omega),nF h0 h1]
  exact h2
 unfold fP
 simp only
 by_cases hh:a2 > b2
 ·rw [if_pos hh]
  refine e _ k2 (by simp only; omega) ?_
  simp only
  rw [show b1+(a1 - b1)=a1 by omega,show b2+1=a2 by omega]
  exact k1
 ·rw [if_neg hh]
  refine e _ k1 (by simp only; omega) ?_
  simp only
  rw [show a1+(b1 - a1)=b1 by omega,show a2+1=b2 by omega]
  exact k2
theorem lx {b:dM} (h:gB b=0):aF (mE b)=0∧(b.2.2=-1∨b.2.2=1)∧aF (mH b)=0:=by
 unfold gB at h
 by_cases h0:aF (mE b)=0
 ·rw [if_neg (by simp [h0])] at h
  by_cases h1:b.2.2≠-1∧b.2.2≠1
  ·rw [if_pos h1] at h; simp at h
  ·rw [if_neg h1] at h
   exact ⟨h0,by omega,h⟩
 ·rw [if_pos h0] at h
  exact absurd h h0
theorem tE {c:bD} {b:dM}:b∈cp c↔∃ k,k < c.2.2.2.2.toNat∧eQ c k=b:=by
 unfold cp cN
 simp [List.mem_map,List.mem_range]
theorem fS {p:List bD} (h:bY p=0):p.length≤256∧(∀ k (hk:k < p.length),mD (p.take k) p[k]=0):=by
 unfold bY at h
 by_cases hp:p.length > 256
 ·rw [if_pos hp] at h; simp at h
 ·rw [if_neg hp] at h
  exact ⟨by omega,fun k hk=>G4 h hk⟩
theorem Mz {p:List bD} (h:bY p=0):∀ c∈p,dW c=0:=by
 intro c hc
 obtain ⟨k,hk,rfl⟩:=List.getElem_of_mem hc
 exact (gq ((fS h).2 k hk)).1
theorem gN {p:List bD} (h:bY p=0):∀ b∈bp p,gB b=0:=by
 intro b hb
 obtain ⟨c,hc,hb⟩:=List.mem_flatMap.1 hb
 obtain ⟨k,hk,rfl⟩:=tE.1 hb
 exact My (Mz h c hc) hk
theorem uA (c:bD):∀ k,(cN c k).Nodup
 | 0=>by simp [cN]
 | k+1=>by
  rw [kK,List.nodup_append]
  refine ⟨uA c k,by simp,?_⟩
  intro a ha b hb e
  rw [List.mem_singleton] at hb
  subst hb; subst e
  exact Dy c k ha
theorem qV {p:List bD} (h:bY p=0):∀ k,k≤p.length→(bp (p.take k)).Nodup∧(bp (p.take k)).length≤4096:=by
 intro k
 induction k with
 | zero=>intro _; simp [bp]
 | succ k ih=>
  intro hk
  have iR:k < p.length:=by omega
  obtain ⟨i1,i2⟩:=ih (by omega)
  obtain ⟨e1,e2,e3,e4⟩:=gq ((fS h).2 k iR)
  rw [my p iR]
  refine ⟨?_,by rw [List.length_append]; exact e4⟩
  rw [List.nodup_append]
  refine ⟨i1,uA _ _,?_⟩
  intro a ha b hb e
  subst e
  exact e3 a hb ha
def cU (p:List bD):List dM:=Bt (ltOf kL) (0,0,0) (bp p)
theorem cO (p:List bD):GN (ltOf kL) (cU p)∧∀ x,x∈cU p↔x∈bp p:=ms Bx L4 (0,0,0) (bp p)
theorem MA (a b:dM):ltOf kL a b=less a b:=by
 have h1:=Dw 0 a b
 have h2:=Ad 0 a b
 rw [h1] at h2
 exact Option.some.inj h2
theorem Af {α:Type} {lt:α→α→Bool} (hw:SWO lt) {l:List α} (h:GN lt l):l.Nodup:=by
 refine List.Pairwise.imp ?_ h
 intro a b Nh e
 subst e
 rw [hw.1 a] at Nh
 cases Nh
theorem tF {p:List bD} (h:(bp p).Nodup):(bp p).mergeSort (fun x y=>!(ltOf kL) y x)=cU p:=by
 obtain ⟨s1,s2⟩:=Dq Bx (bp p)
 obtain ⟨n1,gj⟩:=cO p
 refine pK Bx ?_ n1 (fun x=>by rw [s2,gj])
 have hn:((bp p).mergeSort (fun x y=>!(ltOf kL) y x)).Nodup:=(List.mergeSort_perm (bp p) _).nodup_iff.2 h
 refine List.Pairwise.imp₂ ?_ s1 hn
 intro a b Nh cP
 cases hc:ltOf kL a b with
 | true=>rfl
 | false=>exact absurd (L4 a b hc Nh) cP
theorem yg {p:List bD} (h:(bp p).Nodup):(cU p).length=(bp p).length:=by
 rw [← tF h,List.length_mergeSort]
theorem DC {p:List bD} (h:bY p=0):FF (cU p)=0:=by
 obtain ⟨o1,o2⟩:=qV h p.length (Nat.le_refl _)
 rw [List.take_length] at o1 o2
 have hlen:=yg o1
 obtain ⟨n1,gj⟩:=cO p
 unfold FF
 rw [if_neg (by omega)]
 refine dj.2 fun x hx=>?_
 obtain ⟨k,hk,rfl⟩:=List.mem_map.1 hx
 have hk:k < (cU p).length:=List.mem_range.1 hk
 have e1:(cU p).getD k (0,0,0)=(cU p)[k]:=by simp [hk]
 have c1:gB (cU p)[k]=0:=gN h _ ((gj _).1 (List.getElem_mem hk))
 unfold IC
 rw [e1,if_neg (by simp [c1])]
 refine if_neg ?_
 rintro ⟨h0,hl⟩
 have BQ:k - 1 < (cU p).length:=by omega
 have e2:(cU p).getD (k - 1) (0,0,0)=(cU p)[k - 1]:=by simp [BQ]
 rw [e2,← MA] at hl
 have:=List.pairwise_iff_getElem.1 n1 (k - 1) k BQ hk (by omega)
 rw [hl] at this
 cases this
theorem FH {l:List dM} {k:Int × Int}:k∈bZ l↔∃ b∈l,k=mE b∨k=mH b:=by
 induction l with
 | nil=>simp [bZ]
 | cons b l ih=>
  simp only [bZ,List.mem_cons,ih]
  constructor
  ·rintro (h | h | ⟨d,hd,h⟩)
   ·exact ⟨b,.inl rfl,.inl h⟩
   ·exact ⟨b,.inl rfl,.inr h⟩
   ·exact ⟨d,.inr hd,h⟩
  ·rintro ⟨d,rfl | hd,h | h⟩
   ·exact .inl h
   ·exact .inr (.inl h)
   ·exact .inr (.inr ⟨d,hd,.inl h⟩)
   ·exact .inr (.inr ⟨d,hd,.inr h⟩)
theorem nG {l:List dM} {k:Int × Int}:k∈fR l↔∃ b∈l,k=mE b∨k=mH b:=by
 rw [← FH]
 exact (ms Ix QQ (0,0) (bZ l)).2 k
theorem FI (l:List dM):(fR l).length≤2 * l.length:=by
 rw [← pf]
 unfold fR Bt
 have:∀ (l a:List XA),(l.foldl (fun s k=>qS ID (0,0) k s) a).length≤l.length+a.length:=by
  intro l
  induction l with
  | nil=>intro a; simp
  | cons x l ih=>
   intro a
   have h1:=ih (qS ID (0,0) x a)
   have h2:=Dp (lt:=ID) (0,0) x a
   rw [List.foldl_cons,List.length_cons]
   omega
 exact this (bZ l) []
def ly (l:List dM) (k:Int × Int):Bool:=decide ((k.1 - 1,k.2 - 1,1)∈l) || decide ((k.1+1,k.2 - 1,-1)∈l)
theorem yh {p:List bD} (h:bY p=0) (k:Int × Int):ly (cU p) k=decide (k∈(bp p).map mH):=by
 rw [Bool.eq_iff_iff]
 unfold ly
 rw [Bool.or_eq_true,decide_eq_true_iff,decide_eq_true_iff,decide_eq_true_iff]
 obtain ⟨n1,gj⟩:=cO p
 rw [gj,gj,List.mem_map]
 constructor
 ·rintro (hb | hb)
  ·obtain ⟨c1,c2,c3⟩:=lx (gN h _ hb)
   refine ⟨_,hb,?_⟩
   rw [nF c1 c2]
   refine Prod.ext ?_ ?_ <;> simp only <;> omega
  ·obtain ⟨c1,c2,c3⟩:=lx (gN h _ hb)
   refine ⟨_,hb,?_⟩
   rw [nF c1 c2]
   refine Prod.ext ?_ ?_ <;> simp only <;> omega
 ·rintro ⟨b,hb,rfl⟩
  obtain ⟨c1,c2,c3⟩:=lx (gN h b hb)
  obtain ⟨x,y,s⟩:=b
  rw [nF c1 c2]
  simp only at c2 ⊢
  rcases c2 with rfl | rfl
  ·right
   rw [show x+-1+1=x by omega,show y+1 - 1=y by omega]
   exact hb
  ·left
   rw [show x+1 - 1=x by omega,show y+1 - 1=y by omega]
   exact hb
def DD (p:List bD):List XA:=(fR (cU p)).filter fun k=>decide (k.2 > ((fR (cU p)).getD 0 (0,0)).2)&&!ly (cU p) k
section
variable {N:Nat} (hN:fB N)
include hN
omit hN in
theorem DE {α:Type} (P:α→Bool) (l:List α) {k:Nat} (hk:k < l.length):(l.take (k+1)).filter P=if P l[k] then (l.take k).filter P++[l[k]] else (l.take k).filter P:=by
 rw [List.take_add_one,List.getElem?_eq_getElem hk,List.filter_append]
 cases h:P l[k] <;> simp [h]
omit hN in
theorem Rn (l:List XA) (p:Int × Int):map av l++[AV.agg [AV.int .i64 p.1,AV.int .i64 p.2]]=map av (l++[p]):=by rw [List.map_append]; rfl
omit hN in
theorem MB {α:Type} (P:α→Bool) (l:List α) (k:Nat):((l.take k).filter P).length≤k:=Nat.le_trans (List.length_filter_le _ _) (by rw [List.length_take]; omega)
abbrev ekT:EK:=.st (.cons 0 1 false .int (.cons 1 1 false .int .nil))
abbrev nkT (k:Int × Int):AV:=.agg [.int .i64 k.1,.int .i64 k.2]
omit hN in
theorem gO:gz ekT nkT AV.bool bB where
 key:=GG
 pair:=fun _=>rfl
 exact:=fun _=>rfl
def hM (l:List dM):List (XA × Bool):=l.foldl (fun m b=>oW (mH b) true m) []
omit hN in
theorem Ro (l:List dM) {k:Nat} (hk:k < l.length):hM (l.take (k+1))=oW (mH l[k]) true (hM (l.take k)):=by
 unfold hM
 rw [List.take_add_one,List.getElem?_eq_getElem hk,List.foldl_append]
 rfl
omit hN in
theorem Wf (l:List dM) (k:Int × Int):(getM k (hM l)).getD false=decide (k∈l.map mH):=by
 have:∀ (l:List dM) (m:List (XA × Bool)),(getM k (l.foldl (fun m b=>oW (mH b) true m) m)).getD false=(decide (k∈l.map mH) || (getM k m).getD false):=by
  intro l
  induction l with
  | nil=>intro m; simp
  | cons b l ih=>
   intro m
   rw [List.foldl_cons,ih,xB,List.map_cons]
   by_cases e:k=mH b
   ·simp [e]
   ·simp [e,beq_false_of_ne e]
 have:=this l []
 simpa [hM,getM] using this
theorem Wg (p:List bD) (i:Nat) (hi:i < p.length) (acc:List dM) (M:List (XA × Bool)) (u:Unit) (M0:List (XA × Bool)) (ZW:List dM) (hc:bX p[i]=0) (ha:acc.length≤1000000000) :
  aG (mB N p (u,(i:Int),M0,ZW)) N (0,M,acc,p[i].1,p[i].2.1,p[i].2.2.1,p[i].2.2.2.1,p[i].2.2.2.2,())=some (M,acc++cp p[i],p[i].1,p[i].2.1,p[i].2.2.1,p[i].2.2.2.1,p[i].2.2.2.2,()):=by
 have a:=tC hN p hi
 generalize p[i]=c at *
 obtain ⟨h1,h2,h3⟩:=cB hc
 have key:=bK (rd:=mB N p (u,(i:Int),M0,ZW)) c.2.2.2.2.toNat (fun k=>((k:Int),M,acc++cN c k,c.1,c.2.1,c.2.2.1,c.2.2.2.1,c.2.2.2.2,())) (M,acc++cp c,c.1,c.2.1,c.2.2.1,c.2.2.2.1,c.2.2.2.2,()) (fun k hk=>by
  have bV:decide ((k:Int) < c.2.2.2.2)=true:=decide_eq_true (by omega)
  have t1:=eM N c k h1 (by omega)
  have t2:=eM N c (k+1) h1 (by omega)
  have q1:=fg c hc k (by omega)
  have q2:=fg c hc (k+1) (by omega)
  have hl:(acc++cN c k).length=acc.length+k:=by rw [List.length_append,dQ]
  have hb:decide ((acc.length+k+1) * 24≤140737488355328)=true:=decide_eq_true (by omega)
  have eb:eQ c k=fP (aK c k) (aK c (k+1)):=rfl
  have es:acc++cN c (k+1)=(acc++cN c k)++[eQ c k]:=by rw [kK,List.append_assoc]
  rw [es]
  simp only [mB,Int.toNat_natCast,a.1,bV,cond_true,t1,bA (show k < 9223372036854775807 by omega),t2,Option.bind_some,beq_self_eq_true,Bool.and_self]
  unfold fP at eb
  generalize aK c k=x at *
  generalize aK c (k+1)=y at *
  by_cases yW:x.2 > y.2
  ·rw [if_pos yW] at eb
   have w:wrap .i64 (x.1 - y.1)=x.1 - y.1:=iE ⟨by omega,by omega⟩
   have sn:=mC (acc++cN c k) (eQ c k) y.1 y.2 (x.1 - y.1) eb
   simp only [yW,decide_true,cond_true,gO.cells,gO.a7,iJ,iK,cQ,cM,List.length_map,hl,Nat.beq_refl,Bool.and_self,Bool.and_true,Option.bind_some,w,hb,sn,List.length_append,List.length_singleton,dQ]
  ·rw [if_neg yW] at eb
   have w:wrap .i64 (y.1 - x.1)=y.1 - x.1:=iE ⟨by omega,by omega⟩
   have sn:=mC (acc++cN c k) (eQ c k) x.1 x.2 (y.1 - x.1) eb
   simp only [yW,decide_true,decide_false,cond_true,cond_false,gO.cells,gO.a7,iJ,iK,cQ,cM,List.length_map,hl,Nat.beq_refl,Bool.and_self,Bool.and_true,Option.bind_some,w,hb,sn,List.length_append,List.length_singleton,dQ]) (by
  have mF:decide (((c.2.2.2.2.toNat:Nat):Int) < c.2.2.2.2)=false:=decide_eq_false (by omega)
  simp only [mB,Int.toNat_natCast,a.1,mF,cond_false,gO.cells,gO.a7,iJ,iK,cQ,cM,List.length_map,Nat.beq_refl,Bool.and_self,Bool.and_true,cond_true,Option.bind_some]
  rfl) N 0 (Nat.zero_le _) (by unfold fB at hN; omega)
 have e0:acc++cN c 0=acc:=by simp [cN]
 rw [e0] at key
 exact key
theorem Rp (p:List bD) (M:List (XA × Bool)) (h:∀ c∈p,bX c=0) (hp:p.length≤1000000):aG (kO N p) N ((),0,M,[])=some ((),M,bp p):=by
 refine bK (rd:=kO N p) p.length (fun k=>((),(k:Int),M,bp (p.take k))) ((),M,bp p) (fun k hk=>?_) ?_ N 0 (Nat.zero_le _) (by unfold fB at hN; omega)
 ·have a:=tC hN p hk
  have e0:=h p[k] (List.getElem_mem hk)
  have hl:=mw (p.take k) (fun c hc=>h c (List.mem_of_mem_take hc))
  rw [List.length_take,Nat.min_eq_left (Nat.le_of_lt hk)] at hl
  have b:=Wg hN p k hk (bp (p.take k)) M () M (bp (p.take k)) e0 (by omega)
  rw [my p hk]
  simp only [kO,List.length_map,bf hk,aO hk,Int.toNat_natCast,a.1,a.2,gO.cells,gO.a7,iJ,iK,cQ,cM,Nat.beq_refl,Bool.and_self,Bool.and_true,cond_true,Option.bind_some,b,bA (show k < 9223372036854775807 by omega)]
 ·simp only [kO,List.length_map,bt,cond_false,gO.cells,gO.a7,iJ,iK,cQ,cM,Nat.beq_refl,Bool.and_self,Bool.and_true,cond_true,Option.bind_some,List.take_length]
theorem Rq (u:Unit) (M0:List (XA × Bool)) (l:List dM) (hl:l.length≤1000000):aG (sr N (u,M0,l)) N (0,[],l)=some (hM l,l):=by
 refine bK (rd:=sr N (u,M0,l)) l.length (fun k=>((k:Int),hM (l.take k),l)) (hM l,l) (fun k hk=>?_) ?_ N 0 (Nat.zero_le _) (by unfold fB at hN; omega)
 ·obtain ⟨a1,a2⟩:=jM l hk
  have kk:=gO.keys (mH l[k]) (hM (l.take k))
  have kp:=gO.put (mH l[k]) true (hM (l.take k))
  rw [← Ro l hk] at kp
  have iR:decide (0+k < l.length)=true:=decide_eq_true (by omega)
  generalize hM (l.take (k+1))=S' at *
  generalize hM (l.take k)=S at *
  unfold mH at kk kp
  simp only [sr,List.length_map,bf hk,aO hk,iR,Int.toNat_natCast,Nat.zero_add,a1,a2,decide_true,gO.cells,gO.a7,iJ,iK,cQ,cM,Bool.and_self,Bool.and_true,cond_true,Option.bind_some,kk,kp,decide_eq_true hk,bA (show k < 9223372036854775807 by omega)]
 ·simp only [sr,List.length_map,bt,cond_false,gO.cells,gO.a7,iJ,iK,cQ,cM,Bool.and_self,Bool.and_true,cond_true,Option.bind_some,List.take_length]
theorem IF (l:List dM) (hl:l.length≤1000000) (h:FF l=0):T92 N l=some (fR l,0):=by
 rw [V6]
 simp only [cQ,cM,Bool.and_true,cond_true,Option.bind_some]
 rw [Rk hN,h,Option.bind_some,FG hN l hl]
 simp only [bne_self_eq_false,cond_false,Option.bind_some,lO,lP,cond_true]
theorem G6 (p:List bD):ZO N p=some (if bY p=0 then (DD p,0) else ([],bY p)):=by
 have z:((bif (allFit (fits dG) (map ai p)&&true) then some (map aq (map ai p)) else none:Option (eD)))=some p:=by simp only [jJ,jK,Bool.and_true,cond_true]
 rw [V8,z,Option.bind_some,iM hN p,Option.bind_some,BR]
 by_cases h:bY p=0
 ·rw [if_pos h,if_pos h]
  have zL:∀ c∈p,bX c=0:=(gr h).2
  have hp:=(gr h).1
  obtain ⟨o1,o2⟩:=qV h p.length (Nat.le_refl _)
  rw [List.take_length] at o1 o2
  have nl:(cU p).length≤4096:=by rw [yg o1]; exact o2
  have kl:=FI (cU p)
  have z2:((bif ((Nat.beq 0 (([]:List AV)).length&&Nat.beq 0 (([]:List AV)).length)&&(allFit (fits cZ) (an ([]:List (AV × AV)))&&(allFit (fits aw) ([]:List AV)&&true))) then some ((),0,(map gw (an ([]:List (AV × AV)))),(map ak ([]:List AV))) else none:Option (Unit × Int × (List (XA × Bool)) × eu)).bind fun V4=>bif (a7 ([]:List (AV × AV))&&true) then some V4 else none)=some ((),0,[],[]):=rfl
  rw [z2,Option.bind_some,Rp hN p [] zL (by omega),Option.bind_some]
  simp only [gO.cells,gO.a7,iJ,iK,cQ,cM,Bool.and_self,Bool.and_true,cond_true,Option.bind_some]
  rw [Rq hN () [] (bp p) (by omega),Option.bind_some,GZ hN p zL (by omega),Option.bind_some,tF o1]
  simp only [gO.cells,gO.a7,iJ,iK,cQ,cM,jJ,jK,Bool.and_self,Bool.and_true,cond_true,Option.bind_some]
  rw [IF hN _ (by omega) (DC h),Option.bind_some]
  have key:aG (pc N (fR (cU p),0)) N ([],0,hM (bp p),bp p)=some (DD p,hM (bp p),bp p):=by
   unfold DD
   have hg:∀ k,(getM k (hM (bp p))).getD false=ly (cU p) k:=fun k=>by rw [Wf,yh h]
   generalize hM (bp p)=M at *
   generalize fR (cU p)=ks at *
   refine bK (rd:=pc N (ks,0)) ks.length (fun k=>((ks.take k).filter fun k=>decide (k.2 > (ks.getD 0 (0,0)).2)&&!ly (cU p) k,(k:Int),M,bp p)) _ (fun k hk=>?_) ?_ N 0 (Nat.zero_le _) (by unfold fB at hN; omega)
   ·rw [DE _ ks hk]
    have fl:=MB (fun k:Int × Int=>decide (k.2 > (ks.getD 0 (0,0)).2)&&!ly (cU p) k) ks k
    generalize (ks.take k).filter (fun k:Int × Int=>decide (k.2 > (ks.getD 0 (0,0)).2)&&!ly (cU p) k)=s at *
    obtain ⟨a1,a2⟩:=Ae ks hk
    have h0:0 < ks.length:=by omega
    obtain ⟨b1,b2⟩:=Ae ks h0
    have eg:ks.getD 0 (0,0)=ks[0]:=by simp [h0]
    rw [eg]
    have b1':cn (af (map av ks) (toNat 0))=ks[0]:=b1
    have b2':fits cz (af (map av ks) (toNat 0))=true:=b2
    have i0:decide ((0:Int)≤0∧0 < (ks.length:Int))=true:=aO h0
    have kk:=gO.keys ks[k] M
    have kg:=gO.getD ks[k] false M
    rw [hg] at kg
    have f4:fits p4 (AV.bool (ly (cU p) ks[k]))=true:=rfl
    have g4:dq4 (AV.bool (ly (cU p) ks[k]))=ly (cU p) ks[k]:=rfl
    have hb:decide ((s.length+1) * 16≤140737488355328)=true:=decide_eq_true (by omega)
    have sn:=Rn s ks[k]
    simp only [pc,List.length_map,bf hk,aO hk,Int.toNat_natCast,a1,a2,b1',b2',i0,Bool.and_self,Bool.and_true,cond_true,cQ,cM,Option.bind_some,kk,kg,f4,g4,gO.cells,gO.a7,iJ,iK]
    generalize ks[k]=x at *
    generalize ks[0]=y at *
    cases ly (cU p) x <;> cases decide (x.2 > y.2) <;> simp only [cond_true,cond_false,lO,lP,gO.cells,gO.a7,iJ,iK,cQ,cM,decide_true,Bool.and_self,Bool.and_true,Bool.and_false,Bool.false_and,Bool.true_and,Bool.not_true,Bool.not_false,if_true,Bool.false_eq_true,if_false,Option.bind_some,List.length_map,hb,sn,List.length_append,List.length_singleton,bA (show k < 9223372036854775807 by omega)]
   ·simp only [pc,List.length_map,bt,cond_false,lO,lP,gO.cells,gO.a7,iJ,iK,cQ,cM,Bool.and_self,Bool.and_true,cond_true,decide_true,Option.bind_some,List.take_length]
  have z3:((bif (allFit (fits cz) ([]:List AV)&&(allFit (fits cZ) (an (ab (map bB (hM (bp p)))))&&(allFit (fits aw) (map ae (bp p))&&true))) then some ((map cn ([]:List AV)),0,(map gw (an (ab (map bB (hM (bp p)))))),(map ak (map ae (bp p)))) else none:Option (lN × Int × (List (XA × Bool)) × eu)).bind fun PY=>bif (a7 (ab (map bB (hM (bp p))))&&(decide (0=(map av PY.1).length)&&true)) then some PY else none)=some ([],0,hM (bp p),bp p):=by
   have f0:allFit (fits cz) ([]:List AV)=true:=rfl
   have m0:map cn ([]:List AV)=[]:=rfl
   simp only [f0,m0,gO.cells,gO.a7,iJ,iK,cQ,cM,Bool.and_self,Bool.and_true,cond_true,Option.bind_some,List.map_nil,List.length_nil,decide_true]
  simp only [gO.cells,gO.a7,iJ,iK,cQ,cM,Bool.and_self,Bool.and_true,Bool.true_and,cond_true] at z3
  simp only [Bool.true_and]
  rw [z3,Option.bind_some,key,Option.bind_some]
  simp only [lO,lP,cond_true]
 ·rw [if_neg h,if_neg h]
  rfl
end
end Go.Proofs.YtldcljfjjoidhaaGreatDoor
