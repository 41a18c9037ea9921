/- Plain laws: the law of compiled programs. -/
import Derived.Test.YtldcljfjjoidhaaGreatDoorSeamKE
import Derived.Test.YtldcljfjjoidhaaGreatDoorSeamKG
import Derived.Test.YtldcljfjjoidhaaGreatDoorBraTk8
set_option linter.all false
open Bool renaming and_true→aau, and_self→aaB
open Int renaming toNat_natCast→aaO
open List renaming length_map→aad, range→aaY
open Option renaming bind_some→aao
namespace Go.Proofs.YtldcljfjjoidhaaGreatDoor
open Go Go.Am Go.Sort
open List (map)
open Int (toNat)
open Go.IntKind (wrap)
open Go.Am.aO (fits)
set_option maxRecDepth 100000
theorem Bu {α:Type} [DecidableEq α] (a b:List α) (d:α) (h:a.length=b.length):(match (aaY a.length).find? (fun k=>!decide (a.getD k d=b.getD k d)) with | some _=>false | none=>true)=decide (a=b):=by
 cases hf:(aaY a.length).find? (fun k=>!decide (a.getD k d=b.getD k d)) with
 |some j=>
  have h1:=List.find?_some hf;symm;refine decide_eq_false fun e=>?_
  rw [e] at h1;simp at h1
 |none=>
  symm;refine decide_eq_true (List.ext_getElem h fun k h1 h2=>?_);rw [List.find?_eq_none] at hf;have:=hf k (by simpa using h1);simpa [h1,h2] using this
section
variable {N:Nat} (hN:fC N)
include hN
theorem Mp (a b:List aF) (hl:a.length≤1000000):V3 N (a,b)=some (decide (a=b)):=by
 rw [V5];simp only [aad];by_cases h:a.length=b.length
 ·have hb:(((a.length:Nat):Int) != ((b.length:Nat):Int))=false:=by rw [h]; exact bne_self_eq_false _
  rw [hb,cond_false];have q:=rr (rd:=uV N a b) a.length (fun k=>(k:Int)) (fun k=>!decide (a.getD k (0,0,0)=b.getD k (0,0,0))) (fun _=>Sum.inl false) (Sum.inr ()) (fun k hk=>by
   obtain ⟨a1,a2⟩:=gl a hk;obtain ⟨b1,b2⟩:=gl b (k:=k) (by omega);have e1:a.getD k (0,0,0)=a[k]:=by simp [hk]
   have e2:b.getD k (0,0,0)=b[k]'(by omega):=by simp [show k < b.length by omega]
   have e3:((a[k].1 == (b[k]'(by omega)).1)&&((a[k].2.1 == (b[k]'(by omega)).2.1)&&(a[k].2.2 == (b[k]'(by omega)).2.2)))=decide (a[k]=b[k]'(by omega)):=by
    rw [Bool.eq_iff_iff]; simp [Prod.ext_iff]
   rw [e1,e2];simp only [uV,aad,aaO,a7 hk,ay hk,ay (show k < b.length by omega),a1,a2,b1,b2,aaB,aau,cond_true,e3,bw (show k < 9223372036854775807 by omega)];cases decide (a[k]=b[k]'(by omega)) <;> rfl) (by
   simp only [uV,aad,bO,cond_false]) N (by unfold fC at hN; omega)
  have q:az (uV N a b) N 0=_:=q;rw [q,aao,← Bu a b (0,0,0) h];cases (aaY a.length).find? (fun k=>!decide (a.getD k (0,0,0)=b.getD k (0,0,0))) <;> rfl
 ·have hb:(((a.length:Nat):Int) != ((b.length:Nat):Int))=true:=bne_iff_ne.2 (by omega);rw [hb,cond_true,decide_eq_false fun e=>h (by rw [e])]
theorem Wr (a b:List aF) (hl:a.length≤1000000):T49 N (a,b)=some (decide (a=b)):=by
 rw [aah];simp only [aad];by_cases h:a.length=b.length
 ·have hb:(((a.length:Nat):Int) != ((b.length:Nat):Int))=false:=by rw [h]; exact bne_self_eq_false _
  rw [hb,cond_false];have q:=rr (rd:=A4 N a b) a.length (fun k=>(k:Int)) (fun k=>!decide (a.getD k (0,0,0)=b.getD k (0,0,0))) (fun _=>Sum.inl false) (Sum.inr ()) (fun k hk=>by
   obtain ⟨a1,a2⟩:=gl a hk;obtain ⟨b1,b2⟩:=gl b (k:=k) (by omega);have e1:a.getD k (0,0,0)=a[k]:=by simp [hk]
   have e2:b.getD k (0,0,0)=b[k]'(by omega):=by simp [show k < b.length by omega]
   have e3:((a[k].1 == (b[k]'(by omega)).1)&&((a[k].2.1 == (b[k]'(by omega)).2.1)&&(a[k].2.2 == (b[k]'(by omega)).2.2)))=decide (a[k]=b[k]'(by omega)):=by
    rw [Bool.eq_iff_iff]; simp [Prod.ext_iff]
   rw [e1,e2];simp only [A4,aad,aaO,a7 hk,ay hk,ay (show k < b.length by omega),a1,a2,b1,b2,aaB,aau,cond_true,e3,bw (show k < 9223372036854775807 by omega)];cases decide (a[k]=b[k]'(by omega)) <;> rfl) (by
   simp only [A4,aad,bO,cond_false]) N (by unfold fC at hN; omega)
  have q:az (A4 N a b) N 0=_:=q;rw [q,aao,← Bu a b (0,0,0) h];cases (aaY a.length).find? (fun k=>!decide (a.getD k (0,0,0)=b.getD k (0,0,0))) <;> rfl
 ·have hb:(((a.length:Nat):Int) != ((b.length:Nat):Int))=true:=bne_iff_ne.2 (by omega);rw [hb,cond_true,decide_eq_false fun e=>h (by rw [e])]
theorem abl (l:List aF) (hl:l.length≤1000000):T16 N l=some l:=by
 rw [aaQ];have hb:decide ((0+l.length) * 24≤140737488355328)=true:=decide_eq_true (by omega);cases l with
 |nil=>rfl
 |cons x l=>
  have e:List.isEmpty (map cC (x :: l))=false:=rfl;simp only [e,cond_false,aad,hb,cond_true,List.nil_append,cq,b9,aau,aao]
theorem Mq (l:List aF):∃ b,T13 N l=some b∧(b=true→l.length≤40):=by
 rw [aaK];simp only [aad];by_cases h:l.length > 40
 ·exact ⟨false,by rw [decide_eq_true (by omega)]; rfl,fun h=>by cases h⟩
 ·rw [decide_eq_false (by omega),cond_false];by_cases h0:l=[]
  ·subst h0;exact ⟨true,rfl,fun _=>by simp⟩
  ·have hl:0 < l.length:=List.length_pos_iff.2 h0;have z:(((l.length:Nat):Int) == 0)=false:=beq_false_of_ne (by omega);obtain ⟨a1,a2⟩:=gl l hl;obtain ⟨b1,b2⟩:=gl l (k:=l.length - 1) (by omega);have a1':aB (ae (map cC l) (toNat 0))=l[0]:=a1;have a2':fits aA (ae (map cC l) (toNat 0))=true:=a2;have w1:wrap .i64 (((l.length:Nat):Int) - 1)=((l.length - 1:Nat):Int):=by rw [fT (by omega)]; omega
   have i0:decide ((0:Int)≤0∧0 < (l.length:Int))=true:=decide_eq_true (by omega);simp only [z,cond_false,cq,b9,aau,cond_true,aao,KN hN,Hj,w1,ay (show l.length - 1 < l.length by omega),aaO,b1,b2,a1',a2',i0,aaB];by_cases hc:dC l=0
   ·rw [if_pos hc];exact ⟨_,rfl,fun _=>by omega⟩
   ·rw [if_neg hc];exact ⟨_,rfl,fun _=>by omega⟩
def abm (l:List aF) (p:List cQ):Int:=if aU [dC l,nR p]=0 then (if Bb p=l then 0 else 21) else aU [dC l,nR p]
theorem Ws (l:List aF) (p:List cQ):T58 N (l,p)=some (abm l p):=by
 have z2:(bif (allFit (fits xq) [(AV.int .i64 (dC l)),(AV.int .i64 (nR p))]) then some (map kN [(AV.int .i64 (dC l)),(AV.int .i64 (nR p))]) else none:Option kM)=some [dC l,nR p]:=rfl;rw [abc];simp only [cq,b9,uN,uO,aau,cond_true,aao,yQ hN,Ks hN,z2,oD hN _ (show [dC l,nR p].length≤9223372036854775806 by simp),Hj];unfold abm;by_cases h:aU [dC l,nR p]=0
 ·rw [if_pos h,if_pos h];have hp:nR p=0:=dz.1 h _ (by simp);obtain ⟨e1,e2⟩:=yP hp;obtain ⟨o1,o2⟩:=Ba hp p.length (Nat.le_refl _);rw [List.take_length] at o1 o2;have nl:(Bb p).length≤1000000:=by rw [Qg o1]; omega
  have q91:=Vz hN p e2 (by omega);rw [Da o1] at q91;simp only [q91,aao,cq,b9,aaB,cond_true,Mp hN (Bb p) l nl,mD];cases hd:decide (Bb p=l) with
  |true=>rw [if_pos (of_decide_eq_true hd)]; rfl
  |false=>rw [if_neg (of_decide_eq_false hd)]; rfl
 ·rw [if_neg h,if_neg h]
end
end Go.Proofs.YtldcljfjjoidhaaGreatDoor
