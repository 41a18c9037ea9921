/- Plain laws: the reference's check of a program. -/
import Derived.Test.YtldcljfjjoidhaaGreatDoorBraPg
set_option linter.all false
namespace Go.Proofs.YtldcljfjjoidhaaGreatDoor
open Go Go.Am Go.Sort
set_option maxRecDepth 100000
theorem lO {α:Type} (P:α→Prop) [DecidablePred P] (e:Int) (he:e≠0):∀ l:List α,bc (l.map fun x=>if P x then e else 0)=if ∃ x∈l,P x then e else 0
 | []=>by simp [bc]
 | a :: l=>by
  rw [List.map_cons,bc,lO P e he l]
  by_cases h:P a
  ·have:∃ x∈a :: l,P x:=⟨a,by simp,h⟩
   rw [if_pos h,if_neg he,if_pos this]
  ·rw [if_neg h,if_pos rfl]
   by_cases h2:∃ x∈l,P x
   ·obtain ⟨x,hx,hp⟩:=h2
    rw [if_pos ⟨x,hx,hp⟩,if_pos ⟨x,by simp [hx],hp⟩]
   ·rw [if_neg h2,if_neg]
    rintro ⟨x,hx,hp⟩
    rcases List.mem_cons.1 hx with rfl | hx
    ·exact h hp
    ·exact h2 ⟨x,hx,hp⟩
def Jq (c:cQ):Int:=if c.2.2.2.1 then c.2.1 else c.2.1 - 1
def below (p:List cQ) (c:cQ):Bool:=match p.getLast? with
 | some q=>decide (Jq c < Jq q)
 | none=>false
def wh (p:List cQ) (c:cQ):Int:=if gC c=0 then (if below p c=true then 11 else if ∃ b∈cP c,b∈dU p then 9 else if (dU p).length+(cP c).length > 4096 then 4 else 0) else gC c
theorem ra {c:cQ} (h:gC c=0):df c=0:=by
 unfold gC at h
 by_cases h1:df c=0
 ·exact h1
 ·rw [if_neg h1] at h; exact h
theorem rb {p:List cQ} {c:cQ} (h:wh p c=0):gC c=0∧below p c=false∧(∀ b∈cP c,b∉dU p)∧(dU p).length+(cP c).length≤4096:=by
 unfold wh at h
 by_cases h1:gC c=0
 ·rw [if_pos h1] at h
  by_cases h2:below p c=true
  ·rw [if_pos h2] at h; exact absurd h (by decide)
  ·rw [if_neg h2] at h
   by_cases h3:∃ b∈cP c,b∈dU p
   ·rw [if_pos h3] at h; exact absurd h (by decide)
   ·rw [if_neg h3] at h
    by_cases h4:(dU p).length+(cP c).length > 4096
    ·rw [if_pos h4] at h; exact absurd h (by decide)
    ·exact ⟨h1,by simpa using h2,fun b hb hq=>h3 ⟨b,hb,hq⟩,by omega⟩
 ·rw [if_neg h1] at h; exact absurd h h1
def zb (p:List cQ):List Int:=(List.range p.length).map fun k=>wh (p.take k) (p.getD k (0,0,false,false,0))
def dB (p:List cQ):Int:=if p.length > 256 then 5 else bc (zb p)
theorem jI (p:List cQ):(zb p).length=p.length:=by simp [zb]
theorem zd (p:List cQ) {k:Nat} (hk:k < p.length):(zb p)[k]'(by rw [jI]; exact hk)=wh (p.take k) p[k]:=by simp [zb,hk]
theorem vF {V X:Type} {rd:V→Option (V ⊕ X)} (l:List Int) (E:Nat→V) (fin:X) (ex:Int→X) (P:Nat→Prop)
  (h:∀ k (hk:k < l.length),P k→rd (E k)=some (if l[k]=0 then .inl (E (k+1)) else .inr (ex l[k]))∧(l[k]=0→P (k+1))) (h0:P l.length→rd (E l.length)=some (.inr fin)) (n:Nat) (hn:l.length < n) (hP:P 0) :
  aQ rd n (E 0)=some (if bc l=0 then fin else ex (bc l)):=by
 have key:=jA (rd:=rd) (S:=Unit) (Y:=Int) l (fun _ k=>E k) (fun _ x=>if x=0 then .inl () else .inr x) (fun _=>fin) ex (fun _ k=>P k)
  (fun s k hk hp=>by
   obtain ⟨h1,h2⟩:=h k hk hp
   refine ⟨by rw [h1]; by_cases e:l[k]=0 <;> simp [e],fun s' hs=>?_⟩
   by_cases e:l[k]=0
   ·exact h2 e
   ·rw [if_neg e] at hs; cases hs) (fun _ hp=>h0 hp) n () 0 (Nat.zero_le _) (by omega) hP
 rw [List.drop_zero] at key
 refine key.trans (congrArg some ?_)
 clear key h h0 hn hP
 induction l with
 | nil=>rfl
 | cons x l ih=>
  simp only [foldI,bc]
  by_cases e:x=0
  ·simp only [e,if_true,Sum.elim_inl]; exact ih
  ·simp [e]
theorem MV {p:List cQ} (h:bc (zb p)=0) {k:Nat} (hk:k < p.length):wh (p.take k) p[k]=0:=by
 rw [← zd p hk]
 exact lH.1 h _ (List.getElem_mem _)
theorem lP {p:List cQ} (h:dB p=0):p.length≤256∧(∀ c∈p,df c=0):=by
 unfold dB at h
 by_cases h1:p.length > 256
 ·rw [if_pos h1] at h; exact absurd h (by decide)
 ·rw [if_neg h1] at h
  refine ⟨by omega,fun c hc=>?_⟩
  obtain ⟨k,hk,rfl⟩:=List.getElem_of_mem hc
  exact ra (rb (MV h hk)).1
theorem Fh (l:List cQ) (a b:Nat):kT a b (List.map az l)=List.map az ((l.take b).drop a):=by simp [kT,List.map_take,List.map_drop]
section
variable {N:Nat} (hN:iK N)
include hN
theorem DY (c:cQ) (h:df c=0):MC N c=some (Jq c):=by
 obtain ⟨h1,h2,h3⟩:=dA h
 have Bd:=jD h1
 simp only at Bd
 rw [Qu]
 unfold Jq
 rw [lW ⟨by omega,by omega⟩]
 cases c.2.2.2.1 <;> rfl
theorem MW (A B:List nJ) (j:Nat) (hj:j < B.length) (hA:A.length≤1000000000):aQ (jE N A B (j:Int)) N 0=some (if B[j]∈A then .inl 9 else .inr ()):=by
 obtain ⟨b1,b2⟩:=HU B hj
 have key:=j5 (rd:=jE N A B (j:Int)) (A.map fun x=>if x=B[j] then (9:Int) else 0) (fun k hk=>by
  have hk:k < A.length:=by simpa using hk
  obtain ⟨a1,a2⟩:=HU A hk
  have e:(A.map fun x=>if x=B[j] then (9:Int) else 0)[k]'(by simpa using hk)=if A[k]=B[j] then (9:Int) else 0:=by simp
  rw [e]
  simp only [jE,List.length_map,Int.toNat_natCast,bV hk,bR hk,bR hj,a1,a2,b1,b2,QV,Bool.and_self,cond_true,cO (show k < 9223372036854775807 by omega)]
  by_cases h:A[k]=B[j]
  ·rw [decide_eq_true h,if_pos h]; rfl
  ·rw [decide_eq_false h,if_neg h]; rfl) (by
  simp only [jE,List.length_map,b0,cond_false]) N (by rw [List.length_map]; unfold iK at hN; omega)
 rw [key,lO (fun x=>x=B[j]) 9 (by decide) A]
 have e:(∃ x,x∈A∧x=B[j])↔B[j]∈A:=⟨fun ⟨x,hx,e⟩=>e ▸ hx,fun h=>⟨_,h,rfl⟩⟩
 by_cases h:B[j]∈A
 ·rw [if_pos h,if_pos (e.2 h)]; rfl
 ·rw [if_neg h,if_neg (fun q=>h (e.1 q))]; rfl
theorem IM (A B:List nJ) (hA:A.length≤1000000000) (hB:B.length≤1000000000):aQ (na N A B) N 0=some (if ∃ b∈B,b∈A then .inl 9 else .inr ()):=by
 have key:=j5 (rd:=na N A B) (B.map fun x=>if x∈A then (9:Int) else 0) (fun k hk=>by
  have hk:k < B.length:=by simpa using hk
  have e:(B.map fun x=>if x∈A then (9:Int) else 0)[k]'(by simpa using hk)=if B[k]∈A then (9:Int) else 0:=by simp
  rw [e]
  simp only [na,List.length_map,bV hk,cond_true,MW hN A B k hk hA,Option.bind_some,cO (show k < 9223372036854775807 by omega)]
  by_cases h:B[k]∈A
  ·simp only [h,if_true]; rfl
  ·simp only [h,if_false]; rfl) (by
  simp only [na,List.length_map,b0,cond_false]) N (by rw [List.length_map]; unfold iK at hN; omega)
 rw [key,lO (fun x=>x∈A) 9 (by decide) B]
 by_cases h:∃ b∈B,b∈A
 ·rw [if_pos h,if_pos h]; rfl
 ·rw [if_neg h,if_neg h]; rfl
theorem IN (p:List cQ) (c:cQ) (h:∀ q∈p,df q=0) (hp:p.length≤1000000):Ix N (p,c)=some (wh p c):=by
 have q54:T4 N (c.1,c.2.1,c.2.2.1,c.2.2.2.1,c.2.2.2.2)=_:=MA hN c
 rw [ME,q54,Option.bind_some]
 unfold wh
 by_cases hc:gC c=0
 ·have Bh:=ra hc
  have q60:MC N (c.1,c.2.1,c.2.2.1,c.2.2.2.1,c.2.2.2.2)=_:=DY hN c Bh
  have XL:E9 N (c.1,c.2.1,c.2.2.1,c.2.2.2.1,c.2.2.2.2)=_:=xu hN c Bh
  have Jh:=vB p h
  have JE:=nK Bh
  have q44:=MR hN p h hp
  have qo:=IM hN (dU p) (cP c) (by omega) (by omega)
  rw [if_pos hc,hc]
  have Us:((bif (decide (((((List.map az p)).length:Nat):Int) > 0)) then bif (decide ((0:Int)≤(IntKind.wrap .i64 (((((List.map az p)).length:Nat):Int) - 1))∧(IntKind.wrap .i64 (((((List.map az p)).length:Nat):Int) - 1)) < (((List.map az p)).length:Int))&&an.fits dN (ah (List.map az p) (Int.toNat (IntKind.wrap .i64 (((((List.map az p)).length:Nat):Int) - 1))))) then (MC N (c.1,c.2.1,c.2.2.1,c.2.2.2.1,c.2.2.2.2)).bind fun y2=>(MC N ((d88 (ah (List.map az p) (Int.toNat (IntKind.wrap .i64 (((((List.map az p)).length:Nat):Int) - 1))))).1,(d88 (ah (List.map az p) (Int.toNat (IntKind.wrap .i64 (((((List.map az p)).length:Nat):Int) - 1))))).2.1,(d88 (ah (List.map az p) (Int.toNat (IntKind.wrap .i64 (((((List.map az p)).length:Nat):Int) - 1))))).2.2.1,(d88 (ah (List.map az p) (Int.toNat (IntKind.wrap .i64 (((((List.map az p)).length:Nat):Int) - 1))))).2.2.2.1,(d88 (ah (List.map az p) (Int.toNat (IntKind.wrap .i64 (((((List.map az p)).length:Nat):Int) - 1))))).2.2.2.2)).bind fun y3=>(some (decide (y2 < y3))) else none else (some false)):Option Bool)=some (below p c):=by
   cases p with
   | nil=>rfl
   | cons a l=>
    have hk:l.length < (a :: l).length:=by simp
    obtain ⟨a1,a2⟩:=yX hN (a :: l) hk
    have hm:IntKind.wrap .i64 (((((List.map az (a :: l))).length:Nat):Int) - 1)=(l.length:Int):=by
     rw [List.length_map,List.length_cons,lW ⟨by omega,by simp at hp; omega⟩]; omega
    have hg:decide (((((List.map az (a :: l))).length:Nat):Int) > 0)=true:=by rw [List.length_map,List.length_cons]; exact decide_eq_true (by omega)
    have hb:below (a :: l) c=decide (Jq c < Jq (a :: l)[l.length]):=by
     unfold below
     rw [List.getLast?_eq_getElem?]
     simp
    have XM:MC N ((a :: l)[l.length].1,(a :: l)[l.length].2.1,(a :: l)[l.length].2.2.1,(a :: l)[l.length].2.2.2.1,(a :: l)[l.length].2.2.2.2)=_:=DY hN _ (h _ (List.getElem_mem hk))
    rw [hm,hg,Int.toNat_natCast,a1,a2,hb,q60,XM]
    rw [bR (by rw [List.length_map]; exact hk)]
    rfl
  simp only [beq_self_eq_true,Bool.and_self,cond_true]
  rw [Us,Option.bind_some]
  cases hb:below p c with
  | true=>rfl
  | false=>
   simp only [cond_false,Option.bind_some,bne_self_eq_false,ig,ij,Bool.and_true,cond_true,q44,XL,qo,List.length_map,Bool.false_eq_true,if_false]
   by_cases h9:∃ b∈cP c,b∈dU p
   ·rw [if_pos h9,if_pos h9]; rfl
   ·rw [if_neg h9,if_neg h9,lW ⟨by omega,by omega⟩]
    by_cases h4:(dU p).length+(cP c).length > 4096
    ·rw [if_pos h4,decide_eq_true (by omega)]; rfl
    ·rw [if_neg h4,decide_eq_false (by omega)]; rfl
 ·have XN:(gC c == 0)=false:=beq_false_of_ne hc
  have Ae:(gC c != 0)=true:=bne_iff_ne.2 hc
  rw [if_neg hc,XN]
  simp only [cond_false,Option.bind_some,Ae,cond_true]
theorem DZ (p:List cQ):Qv N p=some (dB p):=by
 rw [Qw]
 unfold dB
 rw [List.length_map]
 by_cases hp:p.length > 256
 ·rw [if_pos hp,decide_eq_true (by omega)]; rfl
 ·rw [if_neg hp,decide_eq_false (by omega),cond_false]
  have key:=vF (rd:=vx N p) (X:=Int ⊕ Unit) (zb p) (fun k=>(k:Int)) (.inr ()) (fun x=>.inl x) (fun k=>∀ q∈p.take k,df q=0) (fun k hk hP=>by
   rw [jI] at hk
   obtain ⟨a1,a2⟩:=yX hN p hk
   have q:=IN hN (p.take k) p[k] hP (by rw [List.length_take]; omega)
   have c1:decide ((0:Int)≤(k:Int)∧(k:Int)≤(p.length:Int))=true:=decide_eq_true (by omega)
   rw [zd p hk]
   refine ⟨?_,fun e q hq=>?_⟩
   ·simp only [vx,List.length_map,Int.toNat_natCast,bV hk,bR hk,c1,a1,a2,Fh,List.drop_zero,ig,ij,Bool.and_self,Bool.and_true,cond_true,Option.bind_some,cO (show k < 9223372036854775807 by omega)]
    rw [show Ix N (p.take k,p[k].1,p[k].2.1,p[k].2.2.1,p[k].2.2.2.1,p[k].2.2.2.2)=_ from q,Option.bind_some,Bj]
    split <;> rfl
   ·rw [List.take_add_one,List.getElem?_eq_getElem hk] at hq
    rcases List.mem_append.1 hq with hq | hq
    ·exact hP q hq
    ·have:q=p[k]:=by simpa using hq
     subst this
     exact ra (rb e).1) (fun _=>by
   rw [jI]
   simp only [vx,List.length_map,b0,cond_false]) N (by rw [jI]; unfold iK at hN; omega) (fun q hq=>by simp at hq)
  rw [show aQ (vx N p) N 0=_ from key,Option.bind_some]
  by_cases h:bc (zb p)=0
  ·rw [if_pos h,h]; rfl
  ·rw [if_neg h]; rfl
end
end Go.Proofs.YtldcljfjjoidhaaGreatDoor
