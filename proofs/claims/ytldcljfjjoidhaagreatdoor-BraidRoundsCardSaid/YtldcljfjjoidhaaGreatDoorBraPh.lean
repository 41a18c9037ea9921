/- Plain laws: the reference's check of a program. -/
import Derived.Test.YtldcljfjjoidhaaGreatDoorBraPg
set_option linter.all false
namespace Go.Proofs.YtldcljfjjoidhaaGreatDoor
open Go Go.Am Go.Sort
open List (map)
open Int (toNat)
open Go.IntKind (wrap)
open Go.Am.aT (fits)
set_option maxRecDepth 100000
theorem nD {α:Type} (P:α→Prop) [DecidablePred P] (e:Int) (he:e≠0):∀ l:List α,aS (l.map fun x=>if P x then e else 0)=if ∃ x∈l,P x then e else 0
 | []=>by simp [aS]
 | a :: l=>by
  rw [List.map_cons,aS,nD P e he l]
  by_cases h:P a
  ·have:∃ x∈a :: l,P x:=⟨a,by simp,h⟩
   rw [if_pos h,if_neg he,if_pos this]
  ·rw [if_neg h,if_pos rfl]
   by_cases h2:∃ x∈l,P x
   ·obtain ⟨x,hx,hp⟩:=h2
    rw [if_pos ⟨x,hx,hp⟩,if_pos ⟨x,by simp [hx],hp⟩]
   ·rw [if_neg h2,if_neg]
    rintro ⟨x,hx,hp⟩
    rcases List.mem_cons.1 hx with rfl | hx
    ·exact h hp
    ·exact h2 ⟨x,hx,hp⟩
def DP (c:bD):Int:=if c.2.2.2.1 then c.2.1 else c.2.1 - 1
def below (p:List bD) (c:bD):Bool:=match p.getLast? with
 | some q=>decide (DP c < DP q)
 | none=>false
def mD (p:List bD) (c:bD):Int:=if dW c=0 then (if below p c=true then 11 else if ∃ b∈cp c,b∈bp p then 9 else if (bp p).length+(cp c).length > 4096 then 4 else 0) else dW c
theorem nE {c:bD} (h:dW c=0):bX c=0:=by
 unfold dW at h
 by_cases h1:bX c=0
 ·exact h1
 ·rw [if_neg h1] at h; exact h
theorem gq {p:List bD} {c:bD} (h:mD p c=0):dW c=0∧below p c=false∧(∀ b∈cp c,b∉bp p)∧(bp p).length+(cp c).length≤4096:=by
 unfold mD at h
 by_cases h1:dW c=0
 ·rw [if_pos h1] at h
  by_cases h2:below p c=true
  ·rw [if_pos h2] at h; exact absurd h (by decide)
  ·rw [if_neg h2] at h
   by_cases h3:∃ b∈cp c,b∈bp p
   ·rw [if_pos h3] at h; exact absurd h (by decide)
   ·rw [if_neg h3] at h
    by_cases h4:(bp p).length+(cp c).length > 4096
    ·rw [if_pos h4] at h; exact absurd h (by decide)
    ·exact ⟨h1,by simpa using h2,fun b hb hq=>h3 ⟨b,hb,hq⟩,by omega⟩
 ·rw [if_neg h1] at h; exact absurd h h1
def BA (p:List bD):List Int:=(List.range p.length).map fun k=>mD (p.take k) (p.getD k (0,0,false,false,0))
def bY (p:List bD):Int:=if p.length > 256 then 5 else aS (BA p)
theorem iL (p:List bD):(BA p).length=p.length:=by simp [BA]
theorem ss (p:List bD) {k:Nat} (hk:k < p.length):(BA p)[k]'(by rw [iL]; exact hk)=mD (p.take k) p[k]:=by simp [BA,hk]
theorem yf {V X:Type} {rd:V→Option (V ⊕ X)} (l:List Int) (E:Nat→V) (fin:X) (ex:Int→X) (P:Nat→Prop)
  (h:∀ k (hk:k < l.length),P k→rd (E k)=some (if l[k]=0 then .inl (E (k+1)) else .inr (ex l[k]))∧(l[k]=0→P (k+1))) (h0:P l.length→rd (E l.length)=some (.inr fin)) (n:Nat) (hn:l.length < n) (hP:P 0) :
  aG rd n (E 0)=some (if aS l=0 then fin else ex (aS l)):=by
 have key:=kE (rd:=rd) (S:=Unit) (Y:=Int) l (fun _ k=>E k) (fun _ x=>if x=0 then .inl () else .inr x) (fun _=>fin) ex (fun _ k=>P k)
  (fun s k hk hp=>by
   obtain ⟨h1,h2⟩:=h k hk hp
   refine ⟨by rw [h1]; by_cases e:l[k]=0 <;> simp [e],fun s' hs=>?_⟩
   by_cases e:l[k]=0
   ·exact h2 e
   ·rw [if_neg e] at hs; cases hs) (fun _ hp=>h0 hp) n () 0 (Nat.zero_le _) (by omega) hP
 rw [List.drop_zero] at key
 refine key.trans (congrArg some ?_)
 clear key h h0 hn hP
 induction l with
 | nil=>rfl
 | cons x l ih=>
  simp only [foldI,aS]
  by_cases e:x=0
  ·simp only [e,if_true,Sum.elim_inl]; exact ih
  ·simp [e]
theorem G4 {p:List bD} (h:aS (BA p)=0) {k:Nat} (hk:k < p.length):mD (p.take k) p[k]=0:=by
 rw [← ss p hk]
 exact dj.1 h _ (List.getElem_mem _)
theorem gr {p:List bD} (h:bY p=0):p.length≤256∧(∀ c∈p,bX c=0):=by
 unfold bY at h
 by_cases h1:p.length > 256
 ·rw [if_pos h1] at h; exact absurd h (by decide)
 ·rw [if_neg h1] at h
  refine ⟨by omega,fun c hc=>?_⟩
  obtain ⟨k,hk,rfl⟩:=List.getElem_of_mem hc
  exact nE (gq (G4 h hk)).1
theorem z8 (l:List bD) (a b:Nat):eF a b (map az l)=map az ((l.take b).drop a):=by simp [eF,List.map_take,List.map_drop]
section
variable {N:Nat} (hN:fB N)
include hN
theorem G5 (c:bD) (h:bX c=0):Qy N c=some (DP c):=by
 obtain ⟨h1,h2,h3⟩:=cB h
 have zo:=ey h1
 simp only at zo
 rw [Vw]
 unfold DP
 rw [iE ⟨by omega,by omega⟩]
 cases c.2.2.2.1 <;> rfl
theorem Rc (A B:List dM) (j:Nat) (hj:j < B.length) (hA:A.length≤1000000000):aG (kI N A B (j:Int)) N 0=some (if B[j]∈A then .inl 9 else .inr ()):=by
 obtain ⟨b1,b2⟩:=jM B hj
 have key:=ik (rd:=kI N A B (j:Int)) (A.map fun x=>if x=B[j] then (9:Int) else 0) (fun k hk=>by
  have hk:k < A.length:=by simpa using hk
  obtain ⟨a1,a2⟩:=jM A hk
  have e:(A.map fun x=>if x=B[j] then (9:Int) else 0)[k]'(by simpa using hk)=if A[k]=B[j] then (9:Int) else 0:=by simp
  rw [e]
  simp only [kI,List.length_map,Int.toNat_natCast,bf hk,aO hk,aO hj,a1,a2,b1,b2,Mg,Bool.and_self,cond_true,bA (show k < 9223372036854775807 by omega)]
  by_cases h:A[k]=B[j]
  ·rw [decide_eq_true h,if_pos h]; rfl
  ·rw [decide_eq_false h,if_neg h]; rfl) (by
  simp only [kI,List.length_map,bt,cond_false]) N (by rw [List.length_map]; unfold fB at hN; omega)
 rw [key,nD (fun x=>x=B[j]) 9 (by decide) A]
 have e:(∃ x,x∈A∧x=B[j])↔B[j]∈A:=⟨fun ⟨x,hx,e⟩=>e ▸ hx,fun h=>⟨_,h,rfl⟩⟩
 by_cases h:B[j]∈A
 ·rw [if_pos h,if_pos (e.2 h)]; rfl
 ·rw [if_neg h,if_neg (fun q=>h (e.1 q))]; rfl
theorem Mm (A B:List dM) (hA:A.length≤1000000000) (hB:B.length≤1000000000):aG (oY N A B) N 0=some (if ∃ b∈B,b∈A then .inl 9 else .inr ()):=by
 have key:=ik (rd:=oY N A B) (B.map fun x=>if x∈A then (9:Int) else 0) (fun k hk=>by
  have hk:k < B.length:=by simpa using hk
  have e:(B.map fun x=>if x∈A then (9:Int) else 0)[k]'(by simpa using hk)=if B[k]∈A then (9:Int) else 0:=by simp
  rw [e]
  simp only [oY,List.length_map,bf hk,cond_true,Rc hN A B k hk hA,Option.bind_some,bA (show k < 9223372036854775807 by omega)]
  by_cases h:B[k]∈A
  ·simp only [h,if_true]; rfl
  ·simp only [h,if_false]; rfl) (by
  simp only [oY,List.length_map,bt,cond_false]) N (by rw [List.length_map]; unfold fB at hN; omega)
 rw [key,nD (fun x=>x∈A) 9 (by decide) B]
 by_cases h:∃ b∈B,b∈A
 ·rw [if_pos h,if_pos h]; rfl
 ·rw [if_neg h,if_neg h]; rfl
theorem Mn (p:List bD) (c:bD) (h:∀ q∈p,bX q=0) (hp:p.length≤1000000):LS N (p,c)=some (mD p c):=by
 have q54:Zk N (c.1,c.2.1,c.2.2.1,c.2.2.2.1,c.2.2.2.2)=_:=Qw hN c
 rw [QA,q54,Option.bind_some]
 unfold mD
 by_cases hc:dW c=0
 ·have zL:=nE hc
  have q60:Qy N (c.1,c.2.1,c.2.2.1,c.2.2.2.1,c.2.2.2.2)=_:=G5 hN c zL
  have adG:Im N (c.1,c.2.1,c.2.2.1,c.2.2.2.1,c.2.2.2.2)=_:=zZ hN c zL
  have M7:=mw p h
  have Ny:=pN zL
  have q44:=QP hN p h hp
  have qo:=Mm hN (bp p) (cp c) (by omega) (by omega)
  rw [if_pos hc,hc]
  have ZQ:((bif (decide (((((map az p)).length:Nat):Int) > 0)) then bif (decide ((0:Int)≤(wrap .i64 (((((map az p)).length:Nat):Int) - 1))∧(wrap .i64 (((((map az p)).length:Nat):Int) - 1)) < (((map az p)).length:Int))&&fits cR (af (map az p) (toNat (wrap .i64 (((((map az p)).length:Nat):Int) - 1))))) then (Qy N (c.1,c.2.1,c.2.2.1,c.2.2.2.1,c.2.2.2.2)).bind fun y2=>(Qy N ((bO (af (map az p) (toNat (wrap .i64 (((((map az p)).length:Nat):Int) - 1))))).1,(bO (af (map az p) (toNat (wrap .i64 (((((map az p)).length:Nat):Int) - 1))))).2.1,(bO (af (map az p) (toNat (wrap .i64 (((((map az p)).length:Nat):Int) - 1))))).2.2.1,(bO (af (map az p) (toNat (wrap .i64 (((((map az p)).length:Nat):Int) - 1))))).2.2.2.1,(bO (af (map az p) (toNat (wrap .i64 (((((map az p)).length:Nat):Int) - 1))))).2.2.2.2)).bind fun y3=>(some (decide (y2 < y3))) else none else (some false)):Option Bool)=some (below p c):=by
   cases p with
   | nil=>rfl
   | cons a l=>
    have hk:l.length < (a :: l).length:=by simp
    obtain ⟨a1,a2⟩:=Iq hN (a :: l) hk
    have hm:wrap .i64 (((((map az (a :: l))).length:Nat):Int) - 1)=(l.length:Int):=by
     rw [List.length_map,List.length_cons,iE ⟨by omega,by simp at hp; omega⟩]; omega
    have hg:decide (((((map az (a :: l))).length:Nat):Int) > 0)=true:=by rw [List.length_map,List.length_cons]; exact decide_eq_true (by omega)
    have hb:below (a :: l) c=decide (DP c < DP (a :: l)[l.length]):=by
     unfold below
     rw [List.getLast?_eq_getElem?]
     simp
    have adH:Qy N ((a :: l)[l.length].1,(a :: l)[l.length].2.1,(a :: l)[l.length].2.2.1,(a :: l)[l.length].2.2.2.1,(a :: l)[l.length].2.2.2.2)=_:=G5 hN _ (h _ (List.getElem_mem hk))
    rw [hm,hg,Int.toNat_natCast,a1,a2,hb,q60,adH]
    rw [aO (by rw [List.length_map]; exact hk)]
    rfl
  simp only [beq_self_eq_true,Bool.and_self,cond_true]
  rw [ZQ,Option.bind_some]
  cases hb:below p c with
  | true=>rfl
  | false=>
   simp only [cond_false,Option.bind_some,bne_self_eq_false,Bl,Bm,Bool.and_true,cond_true,q44,adG,qo,List.length_map,Bool.false_eq_true,if_false]
   by_cases h9:∃ b∈cp c,b∈bp p
   ·rw [if_pos h9,if_pos h9]; rfl
   ·rw [if_neg h9,if_neg h9,iE ⟨by omega,by omega⟩]
    by_cases h4:(bp p).length+(cp c).length > 4096
    ·rw [if_pos h4,decide_eq_true (by omega)]; rfl
    ·rw [if_neg h4,decide_eq_false (by omega)]; rfl
 ·have ZR:(dW c == 0)=false:=beq_false_of_ne hc
  have HL:(dW c != 0)=true:=bne_iff_ne.2 hc
  rw [if_neg hc,ZR]
  simp only [cond_false,Option.bind_some,HL,cond_true]
theorem Re (p:List bD):T31 N p=some (bY p):=by
 rw [Vy]
 unfold bY
 rw [List.length_map]
 by_cases hp:p.length > 256
 ·rw [if_pos hp,decide_eq_true (by omega)]; rfl
 ·rw [if_neg hp,decide_eq_false (by omega),cond_false]
  have key:=yf (rd:=xR N p) (X:=Int ⊕ Unit) (BA p) (fun k=>(k:Int)) (.inr ()) (fun x=>.inl x) (fun k=>∀ q∈p.take k,bX q=0) (fun k hk hP=>by
   rw [iL] at hk
   obtain ⟨a1,a2⟩:=Iq hN p hk
   have q:=Mn hN (p.take k) p[k] hP (by rw [List.length_take]; omega)
   have c1:decide ((0:Int)≤(k:Int)∧(k:Int)≤(p.length:Int))=true:=decide_eq_true (by omega)
   rw [ss p hk]
   refine ⟨?_,fun e q hq=>?_⟩
   ·simp only [xR,List.length_map,Int.toNat_natCast,bf hk,aO hk,c1,a1,a2,z8,List.drop_zero,Bl,Bm,Bool.and_self,Bool.and_true,cond_true,Option.bind_some,bA (show k < 9223372036854775807 by omega)]
    rw [show LS N (p.take k,p[k].1,p[k].2.1,p[k].2.2.1,p[k].2.2.2.1,p[k].2.2.2.2)=_ from q,Option.bind_some,BR]
    split <;> rfl
   ·rw [List.take_add_one,List.getElem?_eq_getElem hk] at hq
    rcases List.mem_append.1 hq with hq | hq
    ·exact hP q hq
    ·have:q=p[k]:=by simpa using hq
     subst this
     exact nE (gq e).1) (fun _=>by
   rw [iL]
   simp only [xR,List.length_map,bt,cond_false]) N (by rw [iL]; unfold fB at hN; omega) (fun q hq=>by simp at hq)
  rw [show aG (xR N p) N 0=_ from key,Option.bind_some]
  by_cases h:aS (BA p)=0
  ·rw [if_pos h,h]; rfl
  ·rw [if_neg h]; rfl
end
end Go.Proofs.YtldcljfjjoidhaaGreatDoor
