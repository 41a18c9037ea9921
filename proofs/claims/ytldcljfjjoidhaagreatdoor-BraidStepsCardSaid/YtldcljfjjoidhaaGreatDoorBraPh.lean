/- Plain laws: the reference's check of a program. -/
import Derived.Test.YtldcljfjjoidhaaGreatDoorBraPg
set_option linter.all false
namespace Go.Proofs.YtldcljfjjoidhaaGreatDoor
open Go Go.Am Go.Sort
set_option maxRecDepth 100000
theorem mG {α:Type} (P:α→Prop) [DecidablePred P] (e:Int) (he:e≠0):∀ l:List α,aY (l.map fun x=>if P x then e else 0)=if ∃ x∈l,P x then e else 0
 | []=>by simp [aY]
 | a :: l=>by
  rw [List.map_cons,aY,mG P e he l]
  by_cases h:P a
  ·have:∃ x∈a :: l,P x:=⟨a,by simp,h⟩
   rw [if_pos h,if_neg he,if_pos this]
  ·rw [if_neg h,if_pos rfl]
   by_cases h2:∃ x∈l,P x
   ·obtain ⟨x,hx,hp⟩:=h2
    rw [if_pos ⟨x,hx,hp⟩,if_pos ⟨x,by simp [hx],hp⟩]
   ·rw [if_neg h2,if_neg]
    rintro ⟨x,hx,hp⟩
    rcases List.mem_cons.1 hx with rfl | hx
    ·exact h hp
    ·exact h2 ⟨x,hx,hp⟩
def Lt (c:da):Int:=if c.2.2.2.1 then c.2.1 else c.2.1 - 1
def below (p:List da) (c:da):Bool:=match p.getLast? with
 | some q=>decide (Lt c < Lt q)
 | none=>false
def xe (p:List da) (c:da):Int:=if dQ c=0 then (if below p c=true then 11 else if ∃ b∈cj c,b∈a6 p then 9 else if (a6 p).length+(cj c).length > 4096 then 4 else 0) else dQ c
theorem mH {c:da} (h:dQ c=0):cr c=0:=by
 unfold dQ at h
 by_cases h1:cr c=0
 ·exact h1
 ·rw [if_neg h1] at h; exact h
theorem lN {p:List da} {c:da} (h:xe p c=0):dQ c=0∧below p c=false∧(∀ b∈cj c,b∉a6 p)∧(a6 p).length+(cj c).length≤4096:=by
 unfold xe at h
 by_cases h1:dQ c=0
 ·rw [if_pos h1] at h
  by_cases h2:below p c=true
  ·rw [if_pos h2] at h; exact absurd h (by decide)
  ·rw [if_neg h2] at h
   by_cases h3:∃ b∈cj c,b∈a6 p
   ·rw [if_pos h3] at h; exact absurd h (by decide)
   ·rw [if_neg h3] at h
    by_cases h4:(a6 p).length+(cj c).length > 4096
    ·rw [if_pos h4] at h; exact absurd h (by decide)
    ·exact ⟨h1,by simpa using h2,fun b hb hq=>h3 ⟨b,hb,hq⟩,by omega⟩
 ·rw [if_neg h1] at h; exact absurd h h1
def Ay (p:List da):List Int:=(List.range p.length).map fun k=>xe (p.take k) (p.getD k (0,0,false,false,0))
def je (p:List da):Int:=if p.length > 256 then 5 else aY (Ay p)
theorem kf (p:List da):(Ay p).length=p.length:=by simp [Ay]
theorem Az (p:List da) {k:Nat} (hk:k < p.length):(Ay p)[k]'(by rw [kf]; exact hk)=xe (p.take k) p[k]:=by simp [Ay,hk]
theorem xf {V X:Type} {rd:V→Option (V ⊕ X)} (l:List Int) (E:Nat→V) (fin:X) (ex:Int→X) (P:Nat→Prop)
  (h:∀ k (hk:k < l.length),P k→rd (E k)=some (if l[k]=0 then .inl (E (k+1)) else .inr (ex l[k]))∧(l[k]=0→P (k+1))) (h0:P l.length→rd (E l.length)=some (.inr fin)) (n:Nat) (hn:l.length < n) (hP:P 0) :
  az rd n (E 0)=some (if aY l=0 then fin else ex (aY l)):=by
 have key:=j4 (rd:=rd) (S:=Unit) (Y:=Int) l (fun _ k=>E k) (fun _ x=>if x=0 then .inl () else .inr x) (fun _=>fin) ex (fun _ k=>P k)
  (fun s k hk hp=>by
   obtain ⟨h1,h2⟩:=h k hk hp
   refine ⟨by rw [h1]; by_cases e:l[k]=0 <;> simp [e],fun s' hs=>?_⟩
   by_cases e:l[k]=0
   ·exact h2 e
   ·rw [if_neg e] at hs; cases hs) (fun _ hp=>h0 hp) n () 0 (Nat.zero_le _) (by omega) hP
 rw [List.drop_zero] at key
 refine key.trans (congrArg some ?_)
 clear key h h0 hn hP
 induction l with
 | nil=>rfl
 | cons x l ih=>
  simp only [foldI,aY]
  by_cases e:x=0
  ·simp only [e,if_true,Sum.elim_inl]; exact ih
  ·simp [e]
theorem FA {p:List da} (h:aY (Ay p)=0) {k:Nat} (hk:k < p.length):xe (p.take k) p[k]=0:=by
 rw [← Az p hk]
 exact jt.1 h _ (List.getElem_mem _)
theorem AA {p:List da} (h:je p=0):p.length≤256∧(∀ c∈p,cr c=0):=by
 unfold je at h
 by_cases h1:p.length > 256
 ·rw [if_pos h1] at h; exact absurd h (by decide)
 ·rw [if_neg h1] at h
  refine ⟨by omega,fun c hc=>?_⟩
  obtain ⟨k,hk,rfl⟩:=List.getElem_of_mem hc
  exact mH (lN (FA h hk)).1
theorem G3 (l:List da) (a b:Nat):cQ a b (List.map ca l)=List.map ca ((l.take b).drop a):=by simp [cQ,List.map_take,List.map_drop]
section
variable {N:Nat} (hN:fq N)
include hN
theorem FB (c:da) (h:cr c=0):OQ N c=some (Lt c):=by
 obtain ⟨h1,h2,h3⟩:=cZ h
 have uK:=j7 h1
 simp only at uK
 rw [Tx]
 unfold Lt
 rw [gY ⟨by omega,by omega⟩]
 cases c.2.2.2.1 <;> rfl
theorem Py (A B:List dR) (j:Nat) (hj:j < B.length) (hA:A.length≤1000000000):az (j8 N A B (j:Int)) N 0=some (if B[j]∈A then .inl 9 else .inr ()):=by
 obtain ⟨b1,b2⟩:=jg B hj
 have key:=iO (rd:=j8 N A B (j:Int)) (A.map fun x=>if x=B[j] then (9:Int) else 0) (fun k hk=>by
  have hk:k < A.length:=by simpa using hk
  obtain ⟨a1,a2⟩:=jg A hk
  have e:(A.map fun x=>if x=B[j] then (9:Int) else 0)[k]'(by simpa using hk)=if A[k]=B[j] then (9:Int) else 0:=by simp
  rw [e]
  simp only [j8,List.length_map,Int.toNat_natCast,bc hk,aI hk,aI hj,a1,a2,b1,b2,Ec,Bool.and_self,cond_true,bk (show k < 9223372036854775807 by omega)]
  by_cases h:A[k]=B[j]
  ·rw [decide_eq_true h,if_pos h]; rfl
  ·rw [decide_eq_false h,if_neg h]; rfl) (by
  simp only [j8,List.length_map,bq,cond_false]) N (by rw [List.length_map]; unfold fq at hN; omega)
 rw [key,mG (fun x=>x=B[j]) 9 (by decide) A]
 have e:(∃ x,x∈A∧x=B[j])↔B[j]∈A:=⟨fun ⟨x,hx,e⟩=>e ▸ hx,fun h=>⟨_,h,rfl⟩⟩
 by_cases h:B[j]∈A
 ·rw [if_pos h,if_pos (e.2 h)]; rfl
 ·rw [if_neg h,if_neg (fun q=>h (e.1 q))]; rfl
theorem KK (A B:List dR) (hA:A.length≤1000000000) (hB:B.length≤1000000000):az (nX N A B) N 0=some (if ∃ b∈B,b∈A then .inl 9 else .inr ()):=by
 have key:=iO (rd:=nX N A B) (B.map fun x=>if x∈A then (9:Int) else 0) (fun k hk=>by
  have hk:k < B.length:=by simpa using hk
  have e:(B.map fun x=>if x∈A then (9:Int) else 0)[k]'(by simpa using hk)=if B[k]∈A then (9:Int) else 0:=by simp
  rw [e]
  simp only [nX,List.length_map,bc hk,cond_true,Py hN A B k hk hA,Option.bind_some,bk (show k < 9223372036854775807 by omega)]
  by_cases h:B[k]∈A
  ·simp only [h,if_true]; rfl
  ·simp only [h,if_false]; rfl) (by
  simp only [nX,List.length_map,bq,cond_false]) N (by rw [List.length_map]; unfold fq at hN; omega)
 rw [key,mG (fun x=>x∈A) 9 (by decide) B]
 by_cases h:∃ b∈B,b∈A
 ·rw [if_pos h,if_pos h]; rfl
 ·rw [if_neg h,if_neg h]; rfl
theorem KL (p:List da) (c:da) (h:∀ q∈p,cr q=0) (hp:p.length≤1000000):Kq N (p,c)=some (xe p c):=by
 have q54:Xa N (c.1,c.2.1,c.2.2.1,c.2.2.2.1,c.2.2.2.2)=_:=OO hN c
 rw [OS,q54,Option.bind_some]
 unfold xe
 by_cases hc:dQ c=0
 ·have DC:=mH hc
  have q60:OQ N (c.1,c.2.1,c.2.2.1,c.2.2.2.1,c.2.2.2.2)=_:=FB hN c DC
  have aa9:GQ N (c.1,c.2.1,c.2.2.1,c.2.2.2.1,c.2.2.2.2)=_:=yU hN c DC
  have Li:=lJ p h
  have Hh:=oG DC
  have q44:=O2 hN p h hp
  have qo:=KK hN (a6 p) (cj c) (by omega) (by omega)
  rw [if_pos hc,hc]
  have XA:((bif (decide (((((List.map ca p)).length:Nat):Int) > 0)) then bif (decide ((0:Int)≤(IntKind.wrap .i64 (((((List.map ca p)).length:Nat):Int) - 1))∧(IntKind.wrap .i64 (((((List.map ca p)).length:Nat):Int) - 1)) < (((List.map ca p)).length:Int))&&aj.fits tR (ah (List.map ca p) (Int.toNat (IntKind.wrap .i64 (((((List.map ca p)).length:Nat):Int) - 1))))) then (OQ N (c.1,c.2.1,c.2.2.1,c.2.2.2.1,c.2.2.2.2)).bind fun y2=>(OQ N ((d88 (ah (List.map ca p) (Int.toNat (IntKind.wrap .i64 (((((List.map ca p)).length:Nat):Int) - 1))))).1,(d88 (ah (List.map ca p) (Int.toNat (IntKind.wrap .i64 (((((List.map ca p)).length:Nat):Int) - 1))))).2.1,(d88 (ah (List.map ca p) (Int.toNat (IntKind.wrap .i64 (((((List.map ca p)).length:Nat):Int) - 1))))).2.2.1,(d88 (ah (List.map ca p) (Int.toNat (IntKind.wrap .i64 (((((List.map ca p)).length:Nat):Int) - 1))))).2.2.2.1,(d88 (ah (List.map ca p) (Int.toNat (IntKind.wrap .i64 (((((List.map ca p)).length:Nat):Int) - 1))))).2.2.2.2)).bind fun y3=>(some (decide (y2 < y3))) else none else (some false)):Option Bool)=some (below p c):=by
   cases p with
   | nil=>rfl
   | cons a l=>
    have hk:l.length < (a :: l).length:=by simp
    obtain ⟨a1,a2⟩:=D6 hN (a :: l) hk
    have hm:IntKind.wrap .i64 (((((List.map ca (a :: l))).length:Nat):Int) - 1)=(l.length:Int):=by
     rw [List.length_map,List.length_cons,gY ⟨by omega,by simp at hp; omega⟩]; omega
    have hg:decide (((((List.map ca (a :: l))).length:Nat):Int) > 0)=true:=by rw [List.length_map,List.length_cons]; exact decide_eq_true (by omega)
    have hb:below (a :: l) c=decide (Lt c < Lt (a :: l)[l.length]):=by
     unfold below
     rw [List.getLast?_eq_getElem?]
     simp
    have aba:OQ N ((a :: l)[l.length].1,(a :: l)[l.length].2.1,(a :: l)[l.length].2.2.1,(a :: l)[l.length].2.2.2.1,(a :: l)[l.length].2.2.2.2)=_:=FB hN _ (h _ (List.getElem_mem hk))
    rw [hm,hg,Int.toNat_natCast,a1,a2,hb,q60,aba]
    rw [aI (by rw [List.length_map]; exact hk)]
    rfl
  simp only [beq_self_eq_true,Bool.and_self,cond_true]
  rw [XA,Option.bind_some]
  cases hb:below p c with
  | true=>rfl
  | false=>
   simp only [cond_false,Option.bind_some,bne_self_eq_false,Oy,Oz,Bool.and_true,cond_true,q44,aa9,qo,List.length_map,Bool.false_eq_true,if_false]
   by_cases h9:∃ b∈cj c,b∈a6 p
   ·rw [if_pos h9,if_pos h9]; rfl
   ·rw [if_neg h9,if_neg h9,gY ⟨by omega,by omega⟩]
    by_cases h4:(a6 p).length+(cj c).length > 4096
    ·rw [if_pos h4,decide_eq_true (by omega)]; rfl
    ·rw [if_neg h4,decide_eq_false (by omega)]; rfl
 ·have QN:(dQ c == 0)=false:=beq_false_of_ne hc
  have Ij:(dQ c != 0)=true:=bne_iff_ne.2 hc
  rw [if_neg hc,QN]
  simp only [cond_false,Option.bind_some,Ij,cond_true]
theorem Pz (p:List da):Yw N p=some (je p):=by
 rw [Tz]
 unfold je
 rw [List.length_map]
 by_cases hp:p.length > 256
 ·rw [if_pos hp,decide_eq_true (by omega)]; rfl
 ·rw [if_neg hp,decide_eq_false (by omega),cond_false]
  have key:=xf (rd:=wR N p) (X:=Int ⊕ Unit) (Ay p) (fun k=>(k:Int)) (.inr ()) (fun x=>.inl x) (fun k=>∀ q∈p.take k,cr q=0) (fun k hk hP=>by
   rw [kf] at hk
   obtain ⟨a1,a2⟩:=D6 hN p hk
   have q:=KL hN (p.take k) p[k] hP (by rw [List.length_take]; omega)
   have c1:decide ((0:Int)≤(k:Int)∧(k:Int)≤(p.length:Int))=true:=decide_eq_true (by omega)
   rw [Az p hk]
   refine ⟨?_,fun e q hq=>?_⟩
   ·simp only [wR,List.length_map,Int.toNat_natCast,bc hk,aI hk,c1,a1,a2,G3,List.drop_zero,Oy,Oz,Bool.and_self,Bool.and_true,cond_true,Option.bind_some,bk (show k < 9223372036854775807 by omega)]
    rw [show Kq N (p.take k,p[k].1,p[k].2.1,p[k].2.2.1,p[k].2.2.2.1,p[k].2.2.2.2)=_ from q,Option.bind_some,GY]
    split <;> rfl
   ·rw [List.take_add_one,List.getElem?_eq_getElem hk] at hq
    rcases List.mem_append.1 hq with hq | hq
    ·exact hP q hq
    ·have:q=p[k]:=by simpa using hq
     subst this
     exact mH (lN e).1) (fun _=>by
   rw [kf]
   simp only [wR,List.length_map,bq,cond_false]) N (by rw [kf]; unfold fq at hN; omega) (fun q hq=>by simp at hq)
  rw [show az (wR N p) N 0=_ from key,Option.bind_some]
  by_cases h:aY (Ay p)=0
  ·rw [if_pos h,h]; rfl
  ·rw [if_neg h]; rfl
end
end Go.Proofs.YtldcljfjjoidhaaGreatDoor
