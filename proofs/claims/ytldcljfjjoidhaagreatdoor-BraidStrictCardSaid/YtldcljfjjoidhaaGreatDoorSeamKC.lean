/- Plain laws: the words of a line,as the program reads them. -/
import Derived.Test.YtldcljfjjoidhaaGreatDoorSeamKB
import Derived.Test.YtldcljfjjoidhaaGreatDoorSeamKA
set_option linter.all false
open Bool renaming and_self→aab, and_true→aac, false_eq_true→aaH, not_true→aaX, not_false→aaZ
open List renaming length_map→aax, range→aaB, length_append→aaR, length_singleton→aaY, mem_range→aa4, length_cons→aa6, append_assoc→aa9, length_pos_iff→abq, getD_eq_getElem?_getD→abu, length_range→abJ, flatMap_cons→abK, getElem?_eq_getElem→abN
open Nat renaming pow_le_pow_right→aba
open Option renaming bind_some→aaa, isSome_none→aa3
open Option.some renaming inj→aa5
open Sum renaming elim_inr→aaC, elim_inl→aaM
namespace Go.Proofs.YtldcljfjjoidhaaGreatDoor
open Go Go.Am Go.Sort
open List (map)
open Int (toNat)
open Go.IntKind (wrap)
open Go.Am.aM (fits)
set_option maxRecDepth 100000
abbrev LB:=List UInt8
theorem CZ (w:List UInt8) (h:0 < w.length):(di 0 (toNat (((([45]:List UInt8)).length:Nat):Int)) w == ([45]:List UInt8))=oD w:=by
 cases w with
 |nil=>cases h
 |cons b t=>
  show ((b :: List.drop 0 (List.take 0 t):List UInt8) == [45])=decide (0 < t.length+1∧b.toNat=45);have e:(List.drop 0 (List.take 0 t):List UInt8)=[]:=rfl;rw [e,Bool.eq_iff_iff,beq_iff_eq,decide_eq_true_eq];constructor
  ·intro h;injection h with h1 h2;exact ⟨by omega,by rw [h1]; rfl⟩
  ·intro h;rw [UInt8.toNat.inj (show b.toNat=(45:UInt8).toNat from h.2)]
theorem z7 (w:List UInt8):di (toNat (((([45]:List UInt8)).length:Nat):Int)) w.length w=w.drop 1:=by
 unfold di;rw [List.take_length];rfl
theorem XS (d:List UInt8) (mb:Bool) (h0:d≠[]) (h9:¬ d.length > 9):oO d mb=(bif ((((d.getD 0 0).toNat:Nat):Int) == 48) then (bif decide (((d.length:Nat):Int) > 1) then true else mb) else false):=by
 unfold oO;by_cases h4:(d.getD 0 0).toNat=48
 ·have e:((((d.getD 0 0).toNat:Nat):Int) == 48)=true:=by rw [h4]; rfl
  rw [e,cond_true];by_cases h1:1 < d.length
  ·rw [decide_eq_true (show ((d.length:Nat):Int) > 1 by omega),cond_true];exact decide_eq_true (.inr (.inr ⟨h4,.inl h1⟩))
  ·rw [decide_eq_false (show ¬ ((d.length:Nat):Int) > 1 by omega),cond_false];cases mb
   ·exact decide_eq_false (by rintro (h | h | ⟨_,h | h⟩); exact h0 h; exact h9 h; exact h1 h; cases h)
   ·exact decide_eq_true (.inr (.inr ⟨h4,.inr rfl⟩))
 ·have e:((((d.getD 0 0).toNat:Nat):Int) == 48)=false:=beq_false_of_ne (by omega);rw [e,cond_false];exact decide_eq_false (by rintro (h | h | ⟨h,_⟩); exact h0 h; exact h9 h; exact h4 h)
theorem XU (v1:(List UInt8) × (List bD) × Int × (List (dK × Bool)) × Unit × Int × Int × Int × Bool × Bool × Int) (d:List UInt8) (mb:Bool) (M:List (dK × Bool)) (n0:Int) (q:bD) (c1 c2:Int) (c3 c4:Bool) (c5:Int) :
  lg (d,mb,M,(),n0,q.1,q.2.1,q.2.2.1,q.2.2.2.1,q.2.2.2.2,c1,c2,c3,c4,c5,(),(),(),(),(),(),()) v1=some (oO d mb,M,(),n0,q.1,q.2.1,q.2.2.1,q.2.2.2.1,q.2.2.2.2,c1,c2,c3,c4,c5,(),(),(),(),(),(),()):=by
 by_cases h0:d=[]
 ·subst h0;simp only [lg,ni,beq_self_eq_true,au.cells,au.bc,av,aw,aab,aac,cond_true,cond_false,aaa,eq_self,decide_true];rfl
 ·have e0:(d == ([]:List UInt8))=false:=by rw [Hn,decide_eq_false h0]
  by_cases h9:d.length > 9
  ·have e9:decide (((d.length:Nat):Int) > 9)=true:=decide_eq_true (by omega);have eb:oO d mb=true:=decide_eq_true (.inr (.inl h9));simp only [lg,ni,e0,e9,eb,au.cells,au.bc,av,aw,aab,aac,cond_true,cond_false,aaa,eq_self,decide_true]
  ·have e9:decide (((d.length:Nat):Int) > 9)=false:=decide_eq_false (by omega);have i0:decide ((0:Int)≤0∧0 < ((d.length:Nat):Int))=true:=decide_eq_true (by have:=abq.2 h0; omega);have ez:toNat 0=0:=rfl;rw [XS d mb h0 h9];simp only [lg,ni,e0,e9,i0,ez,au.cells,au.bc,av,aw,aab,aac,cond_true,cond_false,aaa,eq_self,decide_true];cases ((((d.getD 0 0).toNat:Nat):Int) == 48)
   ·simp only [au.cells,au.bc,av,aw,aab,aac,cond_true,cond_false,aaa,eq_self,decide_true]
   ·cases decide (((d.length:Nat):Int) > 1)
    ·simp only [au.cells,au.bc,av,aw,aab,aac,cond_true,cond_false,aaa,eq_self,decide_true]
    ·simp only [au.cells,au.bc,av,aw,aab,aac,cond_true,cond_false,aaa,eq_self,decide_true]
theorem aby (w0 w1 w2 w3 w4 w5:LB) (s0:LB) (out:List bD) (i:Int) (M:List (dK × Bool)) (n0:Int) (q:bD) :
  lX [w0,w1,w2,w3,w4,w5] (s0,out,i,M,(),n0,q.1,q.2.1,q.2.2.1,q.2.2.2.1,q.2.2.2.2)=some (nC w1,oD w1,M,(),n0,q.1,q.2.1,q.2.2.1,q.2.2.2.1,q.2.2.2.2,0,0,false,false,0,(),(),(),(),(),(),()):=by
 have a1:ng (ah (map vO [w0,w1,w2,w3,w4,w5]) 1)=w1:=rfl;have a2:ng (ah (map vO [w0,w1,w2,w3,w4,w5]) (toNat 1))=w1:=rfl;by_cases h0:0 < w1.length
 ·have ge:decide (((w1.length:Nat):Int)≥(((([45]:List UInt8)).length:Nat):Int))=true:=decide_eq_true (by show (1:Int)≤_; omega);have rg:decide ((0:Int)≤(((([45]:List UInt8)).length:Nat):Int)∧(((([45]:List UInt8)).length:Nat):Int)≤((w1.length:Nat):Int))=true:=decide_eq_true ⟨by decide,by show (1:Int)≤_; omega⟩;simp only [lX,a1,a2,ge,rg,CZ w1 h0,z7,au.cells,au.bc,av,aw,aab,aac,cond_true,cond_false,aaa,eq_self,decide_true];cases hm:oD w1
  ·simp only [nC,hm,aaZ,aaH,if_false,au.cells,au.bc,av,aw,aab,aac,cond_true,cond_false,aaa,eq_self,decide_true]
  ·simp only [nC,hm,aaX,if_true,au.cells,au.bc,av,aw,aab,aac,cond_true,cond_false,aaa,eq_self,decide_true]
 ·have ge:decide (((w1.length:Nat):Int)≥(((([45]:List UInt8)).length:Nat):Int))=false:=decide_eq_false (by show ¬ (1:Int)≤_; omega);have hm:oD w1=false:=decide_eq_false (fun h=>h0 h.1);simp only [lX,gb,a1,a2,ge,nC,hm,aaZ,aaH,if_false,au.cells,au.bc,av,aw,aab,aac,cond_true,cond_false,aaa,eq_self,decide_true]
theorem abz (w0 w1 w2 w3 w4 w5:LB) (v1:(List UInt8) × (List bD) × Int × (List (dK × Bool)) × Unit × Int × Int × Int × Bool × Bool × Int) (b:Bool) (M:List (dK × Bool)) (n0:Int) (q:bD) (c1 c2:Int) (c3 c4:Bool) (c5:Int) :
  lY [w0,w1,w2,w3,w4,w5] (b,M,(),n0,q.1,q.2.1,q.2.2.1,q.2.2.2.1,q.2.2.2.2,c1,c2,c3,c4,c5,(),(),(),(),(),(),()) v1=some (nC w2,oD w2,M,(),n0,q.1,q.2.1,q.2.2.1,q.2.2.2.1,q.2.2.2.2,c1,c2,c3,c4,c5,(),(),(),(),(),(),()):=by
 have a1:ng (ah (map vO [w0,w1,w2,w3,w4,w5]) 2)=w2:=rfl;have a2:ng (ah (map vO [w0,w1,w2,w3,w4,w5]) (toNat 2))=w2:=rfl;by_cases h0:0 < w2.length
 ·have ge:decide (((w2.length:Nat):Int)≥(((([45]:List UInt8)).length:Nat):Int))=true:=decide_eq_true (by show (1:Int)≤_; omega);have rg:decide ((0:Int)≤(((([45]:List UInt8)).length:Nat):Int)∧(((([45]:List UInt8)).length:Nat):Int)≤((w2.length:Nat):Int))=true:=decide_eq_true ⟨by decide,by show (1:Int)≤_; omega⟩;simp only [lY,a1,a2,ge,rg,CZ w2 h0,z7,au.cells,au.bc,av,aw,aab,aac,cond_true,cond_false,aaa,eq_self,decide_true];cases hm:oD w2
  ·simp only [nC,hm,aaZ,aaH,if_false,au.cells,au.bc,av,aw,aab,aac,cond_true,cond_false,aaa,eq_self,decide_true]
  ·simp only [nC,hm,aaX,if_true,au.cells,au.bc,av,aw,aab,aac,cond_true,cond_false,aaa,eq_self,decide_true]
 ·have ge:decide (((w2.length:Nat):Int)≥(((([45]:List UInt8)).length:Nat):Int))=false:=decide_eq_false (by show ¬ (1:Int)≤_; omega);have hm:oD w2=false:=decide_eq_false (fun h=>h0 h.1);simp only [lY,gb,a1,a2,ge,nC,hm,aaZ,aaH,if_false,au.cells,au.bc,av,aw,aab,aac,cond_true,cond_false,aaa,eq_self,decide_true]
theorem abA (w0 w1 w2 w3 w4 w5:LB) (v1:(List UInt8) × (List bD) × Int × (List (dK × Bool)) × Unit × Int × Int × Int × Bool × Bool × Int) (b:Bool) (M:List (dK × Bool)) (n0:Int) (q:bD) (c1 c2:Int) (c3 c4:Bool) (c5:Int) :
  mc [w0,w1,w2,w3,w4,w5] (b,M,(),n0,q.1,q.2.1,q.2.2.1,q.2.2.2.1,q.2.2.2.2,c1,c2,c3,c4,c5,(),(),(),(),(),(),()) v1=some (nC w5,oD w5,M,(),n0,q.1,q.2.1,q.2.2.1,q.2.2.2.1,q.2.2.2.2,c1,c2,c3,c4,c5,(),(),(),(),(),(),()):=by
 have a1:ng (ah (map vO [w0,w1,w2,w3,w4,w5]) 5)=w5:=rfl;have a2:ng (ah (map vO [w0,w1,w2,w3,w4,w5]) (toNat 5))=w5:=rfl;by_cases h0:0 < w5.length
 ·have ge:decide (((w5.length:Nat):Int)≥(((([45]:List UInt8)).length:Nat):Int))=true:=decide_eq_true (by show (1:Int)≤_; omega);have rg:decide ((0:Int)≤(((([45]:List UInt8)).length:Nat):Int)∧(((([45]:List UInt8)).length:Nat):Int)≤((w5.length:Nat):Int))=true:=decide_eq_true ⟨by decide,by show (1:Int)≤_; omega⟩;simp only [mc,a1,a2,ge,rg,CZ w5 h0,z7,au.cells,au.bc,av,aw,aab,aac,cond_true,cond_false,aaa,eq_self,decide_true];cases hm:oD w5
  ·simp only [nC,hm,aaZ,aaH,if_false,au.cells,au.bc,av,aw,aab,aac,cond_true,cond_false,aaa,eq_self,decide_true]
  ·simp only [nC,hm,aaX,if_true,au.cells,au.bc,av,aw,aab,aac,cond_true,cond_false,aaa,eq_self,decide_true]
 ·have ge:decide (((w5.length:Nat):Int)≥(((([45]:List UInt8)).length:Nat):Int))=false:=decide_eq_false (by show ¬ (1:Int)≤_; omega);have hm:oD w5=false:=decide_eq_false (fun h=>h0 h.1);simp only [mc,gb,a1,a2,ge,nC,hm,aaZ,aaH,if_false,au.cells,au.bc,av,aw,aab,aac,cond_true,cond_false,aaa,eq_self,decide_true]
section
variable {m:Int} {N:Nat} (hN:fD N)
include hN
theorem abB (w0 w1 w2 w3 w4 w5:LB) (s0:LB) (out:List bD) (i:Int) (M:List (dK × Bool)) (n0:Int) (q:bD) :
  ∃ x,qd m N [w0,w1,w2,w3,w4,w5] (s0,out,i,M,(),n0,q.1,q.2.1,q.2.2.1,q.2.2.2.1,q.2.2.2.2)=some ((lA w1).isSome,M,(),n0,q.1,q.2.1,q.2.2.1,q.2.2.2.1,q.2.2.2.2,x,0,false,false,0,(),(),(),(),(),(),())∧∀ n,lA w1=some n→x=n:=by
 have p:=aby w0 w1 w2 w3 w4 w5 s0 out i M n0 q;rw [CY];unfold qd;rw [p,aaa];have bd:=XU (s0,out,i,M,(),n0,q.1,q.2.1,q.2.2.1,q.2.2.2.1,q.2.2.2.2) (nC w1) (oD w1) M n0 q 0 0 false false 0;rw [bd,aaa];clear bd p;generalize nC w1=d;generalize oD w1=mb;by_cases hb:oO d mb=true
 ·refine ⟨0,?_,?_⟩
  ·have e:iU d mb=none:=by unfold iU; rw [if_pos hb]
   simp only [hb,e,gb,aa3,au.cells,au.bc,av,aw,aab,aac,cond_true,cond_false,aaa,eq_self,decide_true]
  ·intro n h;unfold iU at h;rw [if_pos hb] at h;cases h
 ·have gL:oO d mb=false:=by simpa using hb
  have hd:d.length≤9:=by
   unfold oO at gL;have:=of_decide_eq_false gL;have:¬ 9 < d.length:=fun h=>this (.inr (.inl h))
   omega
  have lp:=agf (m:=m) hN (s0,out,i,M,(),n0,q.1,q.2.1,q.2.2.1,q.2.2.2.1,q.2.2.2.2) M n0 q 0 false false 0 d hd;by_cases hx:∃ k,k < d.length∧((d.getD k 0).toNat < 48∨57 < (d.getD k 0).toNat)
  ·have e:iU d mb=none:=by unfold iU; rw [if_neg hb,if_pos hx]
   obtain ⟨k,hk,oJ⟩:=hx;obtain ⟨z,hz⟩:=qN d (aaB d.length) 0 k (aa4.2 hk) oJ;rw [hz,aaC] at lp;refine ⟨z.1,?_,?_⟩
   ·simp only [gL,e,lp,aaC,aa3,au.cells,au.bc,av,aw,aab,aac,cond_true,cond_false,aaa,eq_self,decide_true]
   ·intro n h;rw [e] at h;cases h
  ·have E1:∀ k∈aaB d.length,48≤(d.getD k 0).toNat∧(d.getD k 0).toNat≤57:=fun k hk=>by
    have:¬ ((d.getD k 0).toNat < 48∨57 < (d.getD k 0).toNat):=fun x=>hx ⟨k,aa4.1 hk,x⟩
    omega
   have e:iU d mb=some (if mb then - dh d else dh d):=by unfold iU; rw [if_neg hb,if_neg hx]
   have hv:=qM d (aaB d.length) 0 E1;have hv:foldI (tW d) 0 (aaB d.length)=.inl (dh d):=hv;rw [hv,aaM] at lp;have bn:=uZ d (aaB d.length) 0 0 E1 (by omega) (by simp);have bn:(0:Int)≤dh d∧dh d < ((10 ^ (0+(aaB d.length).length):Nat):Int):=bn;have hp:10 ^ (0+(aaB d.length).length)≤10 ^ 9:=aba (by omega) (by rw [abJ]; omega);have e9:10 ^ 9=1000000000:=rfl;have wn:wrap .i64 (0 - dh d)=- dh d:=by rw [gF (by omega)]; omega
   refine ⟨if mb then - dh d else dh d,?_,?_⟩
   ·cases mb
    ·simp only [gL,e,lp,aaM,iR,Option.isSome_some,aaH,if_false,au.cells,au.bc,av,aw,aab,aac,cond_true,cond_false,aaa,eq_self,decide_true]
    ·simp only [gL,e,lp,aaM,iR,Option.isSome_some,if_true,wn,au.cells,au.bc,av,aw,aab,aac,cond_true,cond_false,aaa,eq_self,decide_true]
   ·intro n h;rw [e] at h;exact aa5 h
theorem abC (w0 w1 w2 w3 w4 w5:LB) (v1:(List UInt8) × (List bD) × Int × (List (dK × Bool)) × Unit × Int × Int × Int × Bool × Bool × Int) (b:Bool) (M:List (dK × Bool)) (n0:Int) (q:bD) (c1 c2:Int) (c3 c4:Bool) (c5:Int) :
  ∃ x,qe m N [w0,w1,w2,w3,w4,w5] (b,M,(),n0,q.1,q.2.1,q.2.2.1,q.2.2.2.1,q.2.2.2.2,c1,c2,c3,c4,c5,(),(),(),(),(),(),()) v1=some ((lA w2).isSome,M,(),n0,q.1,q.2.1,q.2.2.1,q.2.2.2.1,q.2.2.2.2,c1,x,c3,c4,c5,(),(),(),(),(),(),())∧∀ n,lA w2=some n→x=n:=by
 have p:=abz w0 w1 w2 w3 w4 w5 v1 b M n0 q c1 c2 c3 c4 c5;rw [CY];unfold qe;rw [p,aaa];have bd:=XU v1 (nC w2) (oD w2) M n0 q c1 c2 c3 c4 c5;rw [bd,aaa];clear bd p;generalize nC w2=d;generalize oD w2=mb;by_cases hb:oO d mb=true
 ·refine ⟨c2,?_,?_⟩
  ·have e:iU d mb=none:=by unfold iU; rw [if_pos hb]
   simp only [hb,e,gb,aa3,au.cells,au.bc,av,aw,aab,aac,cond_true,cond_false,aaa,eq_self,decide_true]
  ·intro n h;unfold iU at h;rw [if_pos hb] at h;cases h
 ·have gL:oO d mb=false:=by simpa using hb
  have hd:d.length≤9:=by
   unfold oO at gL;have:=of_decide_eq_false gL;have:¬ 9 < d.length:=fun h=>this (.inr (.inl h))
   omega
  have lp:=agh (m:=m) hN v1 M n0 q c1 c3 c4 c5 d hd;by_cases hx:∃ k,k < d.length∧((d.getD k 0).toNat < 48∨57 < (d.getD k 0).toNat)
  ·have e:iU d mb=none:=by unfold iU; rw [if_neg hb,if_pos hx]
   obtain ⟨k,hk,oJ⟩:=hx;obtain ⟨z,hz⟩:=qN d (aaB d.length) 0 k (aa4.2 hk) oJ;rw [hz,aaC] at lp;refine ⟨z.1,?_,?_⟩
   ·simp only [gL,e,lp,aaC,aa3,au.cells,au.bc,av,aw,aab,aac,cond_true,cond_false,aaa,eq_self,decide_true]
   ·intro n h;rw [e] at h;cases h
  ·have E1:∀ k∈aaB d.length,48≤(d.getD k 0).toNat∧(d.getD k 0).toNat≤57:=fun k hk=>by
    have:¬ ((d.getD k 0).toNat < 48∨57 < (d.getD k 0).toNat):=fun x=>hx ⟨k,aa4.1 hk,x⟩
    omega
   have e:iU d mb=some (if mb then - dh d else dh d):=by unfold iU; rw [if_neg hb,if_neg hx]
   have hv:=qM d (aaB d.length) 0 E1;have hv:foldI (tW d) 0 (aaB d.length)=.inl (dh d):=hv;rw [hv,aaM] at lp;have bn:=uZ d (aaB d.length) 0 0 E1 (by omega) (by simp);have bn:(0:Int)≤dh d∧dh d < ((10 ^ (0+(aaB d.length).length):Nat):Int):=bn;have hp:10 ^ (0+(aaB d.length).length)≤10 ^ 9:=aba (by omega) (by rw [abJ]; omega);have e9:10 ^ 9=1000000000:=rfl;have wn:wrap .i64 (0 - dh d)=- dh d:=by rw [gF (by omega)]; omega
   refine ⟨if mb then - dh d else dh d,?_,?_⟩
   ·cases mb
    ·simp only [gL,e,lp,aaM,iR,Option.isSome_some,aaH,if_false,au.cells,au.bc,av,aw,aab,aac,cond_true,cond_false,aaa,eq_self,decide_true]
    ·simp only [gL,e,lp,aaM,iR,Option.isSome_some,if_true,wn,au.cells,au.bc,av,aw,aab,aac,cond_true,cond_false,aaa,eq_self,decide_true]
   ·intro n h;rw [e] at h;exact aa5 h
theorem abD (w0 w1 w2 w3 w4 w5:LB) (v1:(List UInt8) × (List bD) × Int × (List (dK × Bool)) × Unit × Int × Int × Int × Bool × Bool × Int) (b:Bool) (M:List (dK × Bool)) (n0:Int) (q:bD) (c1 c2:Int) (c3 c4:Bool) (c5:Int) :
  ∃ x,oz m N [w0,w1,w2,w3,w4,w5] (b,M,(),n0,q.1,q.2.1,q.2.2.1,q.2.2.2.1,q.2.2.2.2,c1,c2,c3,c4,c5,(),(),(),(),(),(),()) v1=some ((lA w5).isSome,M,(),n0,q.1,q.2.1,q.2.2.1,q.2.2.2.1,q.2.2.2.2,c1,c2,c3,c4,x,(),(),(),(),(),(),())∧∀ n,lA w5=some n→x=n:=by
 have p:=abA w0 w1 w2 w3 w4 w5 v1 b M n0 q c1 c2 c3 c4 c5;rw [CY];unfold oz;rw [p,aaa];have bd:=XU v1 (nC w5) (oD w5) M n0 q c1 c2 c3 c4 c5;rw [bd,aaa];clear bd p;generalize nC w5=d;generalize oD w5=mb;by_cases hb:oO d mb=true
 ·refine ⟨c5,?_,?_⟩
  ·have e:iU d mb=none:=by unfold iU; rw [if_pos hb]
   simp only [hb,e,gb,aa3,au.cells,au.bc,av,aw,aab,aac,cond_true,cond_false,aaa,eq_self,decide_true]
  ·intro n h;unfold iU at h;rw [if_pos hb] at h;cases h
 ·have gL:oO d mb=false:=by simpa using hb
  have hd:d.length≤9:=by
   unfold oO at gL;have:=of_decide_eq_false gL;have:¬ 9 < d.length:=fun h=>this (.inr (.inl h))
   omega
  have lp:=agi (m:=m) hN v1 M n0 q c1 c2 c3 c4 d hd;by_cases hx:∃ k,k < d.length∧((d.getD k 0).toNat < 48∨57 < (d.getD k 0).toNat)
  ·have e:iU d mb=none:=by unfold iU; rw [if_neg hb,if_pos hx]
   obtain ⟨k,hk,oJ⟩:=hx;obtain ⟨z,hz⟩:=qN d (aaB d.length) 0 k (aa4.2 hk) oJ;rw [hz,aaC] at lp;refine ⟨z.1,?_,?_⟩
   ·simp only [gL,e,lp,aaC,aa3,au.cells,au.bc,av,aw,aab,aac,cond_true,cond_false,aaa,eq_self,decide_true]
   ·intro n h;rw [e] at h;cases h
  ·have E1:∀ k∈aaB d.length,48≤(d.getD k 0).toNat∧(d.getD k 0).toNat≤57:=fun k hk=>by
    have:¬ ((d.getD k 0).toNat < 48∨57 < (d.getD k 0).toNat):=fun x=>hx ⟨k,aa4.1 hk,x⟩
    omega
   have e:iU d mb=some (if mb then - dh d else dh d):=by unfold iU; rw [if_neg hb,if_neg hx]
   have hv:=qM d (aaB d.length) 0 E1;have hv:foldI (tW d) 0 (aaB d.length)=.inl (dh d):=hv;rw [hv,aaM] at lp;have bn:=uZ d (aaB d.length) 0 0 E1 (by omega) (by simp);have bn:(0:Int)≤dh d∧dh d < ((10 ^ (0+(aaB d.length).length):Nat):Int):=bn;have hp:10 ^ (0+(aaB d.length).length)≤10 ^ 9:=aba (by omega) (by rw [abJ]; omega);have e9:10 ^ 9=1000000000:=rfl;have wn:wrap .i64 (0 - dh d)=- dh d:=by rw [gF (by omega)]; omega
   refine ⟨if mb then - dh d else dh d,?_,?_⟩
   ·cases mb
    ·simp only [gL,e,lp,aaM,iR,Option.isSome_some,aaH,if_false,au.cells,au.bc,av,aw,aab,aac,cond_true,cond_false,aaa,eq_self,decide_true]
    ·simp only [gL,e,lp,aaM,iR,Option.isSome_some,if_true,wn,au.cells,au.bc,av,aw,aab,aac,cond_true,cond_false,aaa,eq_self,decide_true]
   ·intro n h;rw [e] at h;exact aa5 h
end
theorem abE (w0 w1 w2 w3 w4 w5:LB) (v1:(List UInt8) × (List bD) × Int × (List (dK × Bool)) × Unit × Int × Int × Int × Bool × Bool × Int) (b:Bool) (M:List (dK × Bool)) (n0:Int) (q:bD) (c1 c2:Int) (c3 c4:Bool) (c5:Int) :
  lZ [w0,w1,w2,w3,w4,w5] (b,M,(),n0,q.1,q.2.1,q.2.2.1,q.2.2.2.1,q.2.2.2.2,c1,c2,c3,c4,c5,(),(),(),(),(),(),()) v1=some (decide (w3=vS∨w3=OB),M,(),n0,q.1,q.2.1,q.2.2.1,q.2.2.2.1,q.2.2.2.2,c1,c2,(w3 == vS),c4,c5,(),(),(),(),(),(),()):=by
 have a1:ng (ah (map vO [w0,w1,w2,w3,w4,w5]) 3)=w3:=rfl;have a2:ng (ah (map vO [w0,w1,w2,w3,w4,w5]) (toNat 3))=w3:=rfl;by_cases h:w3=vS
 ·have b1:(w3 == vS)=true:=by rw [h]; exact beq_self_eq_true _
  have b3:decide (w3=vS∨w3=OB)=true:=decide_eq_true (.inl h);unfold vS OB at *;simp only [lZ,a1,a2,b1,b3,au.cells,au.bc,av,aw,aab,aac,cond_true,cond_false,aaa,eq_self,decide_true]
 ·have b1:(w3 == vS)=false:=by rw [Hn]; exact decide_eq_false h
  have b2:(w3 == OB)=decide (w3=vS∨w3=OB):=by rw [Hn]; congr 1; simp [h]
  unfold vS OB at *;simp only [lZ,a1,a2,b1,b2,au.cells,au.bc,av,aw,aab,aac,cond_true,cond_false,aaa,eq_self,decide_true]
theorem abF (w0 w1 w2 w3 w4 w5:LB) (v1:(List UInt8) × (List bD) × Int × (List (dK × Bool)) × Unit × Int × Int × Int × Bool × Bool × Int) (b:Bool) (M:List (dK × Bool)) (n0:Int) (q:bD) (c1 c2:Int) (c3 c4:Bool) (c5:Int) :
  ma [w0,w1,w2,w3,w4,w5] (b,M,(),n0,q.1,q.2.1,q.2.2.1,q.2.2.2.1,q.2.2.2.2,c1,c2,c3,c4,c5,(),(),(),(),(),(),()) v1=some (decide (w4=xg∨w4=OC),M,(),n0,q.1,q.2.1,q.2.2.1,q.2.2.2.1,q.2.2.2.2,c1,c2,c3,(w4 == xg),c5,(),(),(),(),(),(),()):=by
 have a1:ng (ah (map vO [w0,w1,w2,w3,w4,w5]) 4)=w4:=rfl;have a2:ng (ah (map vO [w0,w1,w2,w3,w4,w5]) (toNat 4))=w4:=rfl;by_cases h:w4=xg
 ·have b1:(w4 == xg)=true:=by rw [h]; exact beq_self_eq_true _
  have b3:decide (w4=xg∨w4=OC)=true:=decide_eq_true (.inl h);unfold xg OC at *;simp only [ma,a1,a2,b1,b3,au.cells,au.bc,av,aw,aab,aac,cond_true,cond_false,aaa,eq_self,decide_true]
 ·have b1:(w4 == xg)=false:=by rw [Hn]; exact decide_eq_false h
  have b2:(w4 == OC)=decide (w4=xg∨w4=OC):=by rw [Hn]; congr 1; simp [h]
  unfold xg OC at *;simp only [ma,a1,a2,b1,b2,au.cells,au.bc,av,aw,aab,aac,cond_true,cond_false,aaa,eq_self,decide_true]
end Go.Proofs.YtldcljfjjoidhaaGreatDoor
namespace Go.Proofs.YtldcljfjjoidhaaGreatDoor
open Go Go.Am Go.Sort
open List (map)
open Int (toNat)
open Go.IntKind (wrap)
open Go.Am.aM (fits)
set_option maxRecDepth 100000
theorem OF (L:List LB):L.length≠6∨∃ w0 w1 w2 w3 w4 w5,L=[w0,w1,w2,w3,w4,w5]:=by
 match L with
 |[w0,w1,w2,w3,w4,w5]=>exact .inr ⟨w0,w1,w2,w3,w4,w5,rfl⟩
 |[]=>exact .inl (by simp)
 |[_]=>exact .inl (by simp)
 |[_,_]=>exact .inl (by simp)
 |[_,_,_]=>exact .inl (by simp)
 |[_,_,_,_]=>exact .inl (by simp)
 |[_,_,_,_,_]=>exact .inl (by simp)
 |_ :: _ :: _ :: _ :: _ :: _ :: _ :: t=>exact .inl (by simp)
theorem IH {L:List LB} (h:L.length≠6):xh L=none:=by
 unfold xh;split
 ·exact absurd rfl h
 ·rfl
theorem abG (s0:LB) (out:List bD) (i:Int) (M:List (dK × Bool)) (n0:Int) (q:bD):tG (s0,out,i,M,(),n0,q.1,q.2.1,q.2.2.1,q.2.2.2.1,q.2.2.2.2)=some (false,M,(),n0,q.1,q.2.1,q.2.2.1,q.2.2.2.1,q.2.2.2.2,0,0,false,false,0):=by
 simp only [tG,au.cells,au.bc,av,aw,aab,aac,cond_true,cond_false,aaa,eq_self,decide_true]
theorem OG (v1:(List UInt8) × (List bD) × Int × (List (dK × Bool)) × Unit × Int × Int × Int × Bool × Bool × Int) (b:Bool) (M:List (dK × Bool)) (n0:Int) (q c:bD):lh (b,M,(),n0,q.1,q.2.1,q.2.2.1,q.2.2.2.1,q.2.2.2.2,c.1,c.2.1,c.2.2.1,c.2.2.2.1,c.2.2.2.2,(),(),(),(),(),(),()) v1=some (false,M,(),n0,q.1,q.2.1,q.2.2.1,q.2.2.2.1,q.2.2.2.2,c.1,c.2.1,c.2.2.1,c.2.2.2.1,c.2.2.2.2):=by
 simp only [lh,au.cells,au.bc,av,aw,aab,aac,cond_true,cond_false,aaa,eq_self,decide_true]
section
variable {m:Int} {N:Nat} (hN:fD N)
include hN
theorem OH (s0:LB) (out:List bD) (i:Int) (M:List (dK × Bool)) (n0:Int) (q:bD) (y2:LB × LB × Bool) (hs:(bu 32 y2.1).length≤1000000000) (hT:Sa N (y2.1,([32]:List UInt8))=some (bu 32 y2.1)) :
  ∃ c:bD,oA m N y2 (s0,out,i,M,(),n0,q.1,q.2.1,q.2.2.1,q.2.2.2.1,q.2.2.2.2)=some ((xh (bu 32 y2.1)).isSome,M,(),n0,q.1,q.2.1,q.2.2.1,q.2.2.2.1,q.2.2.2.2,c.1,c.2.1,c.2.2.1,c.2.2.2.1,c.2.2.2.2)∧∀ c',xh (bu 32 y2.1)=some c'→c=c':=by
 unfold oA;rw [hT,aaa];generalize bu 32 y2.1=L at *;rcases OF L with h6|⟨w0,w1,w2,w3,w4,w5,rfl⟩
 ·rw [IH h6];refine ⟨(0,0,false,false,0),?_,fun c' h=>by cases h⟩;have e:((((map vO L).length:Nat):Int) != 6)=true:=bne_iff_ne.2 (by rw [aax]; omega);rw [e,cond_true];exact abG ..
 ·have e6:((((map vO [w0,w1,w2,w3,w4,w5]).length:Nat):Int) != 6)=false:=rfl;have a0:ng (ah (map vO [w0,w1,w2,w3,w4,w5]) (toNat 0))=w0:=rfl;have x0:(decide ((0:Int)≤0∧0 < (((map vO [w0,w1,w2,w3,w4,w5])).length:Int))&&fits p9 (ah (map vO [w0,w1,w2,w3,w4,w5]) (toNat 0)))=true:=rfl;have x1:(decide ((0:Int)≤1∧1 < (((map vO [w0,w1,w2,w3,w4,w5])).length:Int))&&fits p9 (ah (map vO [w0,w1,w2,w3,w4,w5]) (toNat 1)))=true:=rfl;have x2:(decide ((0:Int)≤2∧2 < (((map vO [w0,w1,w2,w3,w4,w5])).length:Int))&&fits p9 (ah (map vO [w0,w1,w2,w3,w4,w5]) (toNat 2)))=true:=rfl;have x3:(decide ((0:Int)≤3∧3 < (((map vO [w0,w1,w2,w3,w4,w5])).length:Int))&&fits p9 (ah (map vO [w0,w1,w2,w3,w4,w5]) (toNat 3)))=true:=rfl;have x4:(decide ((0:Int)≤4∧4 < (((map vO [w0,w1,w2,w3,w4,w5])).length:Int))&&fits p9 (ah (map vO [w0,w1,w2,w3,w4,w5]) (toNat 4)))=true:=rfl;have x5:(decide ((0:Int)≤5∧5 < (((map vO [w0,w1,w2,w3,w4,w5])).length:Int))&&fits p9 (ah (map vO [w0,w1,w2,w3,w4,w5]) (toNat 5)))=true:=rfl;rw [e6,cond_false,x0,cond_true,a0];by_cases hw0:w0=Kz
  ·have b0:(!(w0 == ([97,116]:List UInt8)))=false:=by rw [hw0]; rfl
   rw [b0,cond_false,x1,cond_true];obtain ⟨v1,p1,q1⟩:=abB (m:=m) hN w0 w1 w2 w3 w4 w5 s0 out i M n0 q;rw [p1,aaa];cases h1:lA w1 with
   |none=>
    have er:xh [w0,w1,w2,w3,w4,w5]=none:=by simp only [xh,h1]; split <;> rfl
    rw [er];exact ⟨(v1,0,false,false,0),OG _ _ M n0 q (v1,0,false,false,0),fun c' h=>by cases h⟩
   |some k1=>
    have e1:=q1 k1 h1;subst e1;simp only [Option.isSome_some,aaX,cond_false];rw [x2,cond_true];obtain ⟨v2,p2,q2⟩:=abC (m:=m) hN w0 w1 w2 w3 w4 w5 (s0,out,i,M,(),n0,q.1,q.2.1,q.2.2.1,q.2.2.2.1,q.2.2.2.2) true M n0 q v1 0 false false 0;rw [p2,aaa];cases h2:lA w2 with
    |none=>
     have er:xh [w0,w1,w2,w3,w4,w5]=none:=by simp only [xh,h1,h2]; split <;> rfl
     rw [er];exact ⟨(v1,v2,false,false,0),OG _ _ M n0 q (v1,v2,false,false,0),fun c' h=>by cases h⟩
    |some k2=>
     have e2:=q2 k2 h2;subst e2;simp only [Option.isSome_some,aaX,cond_false];rw [x3,cond_true,abE,aaa];by_cases h3:w3=vS∨w3=OB
     ·rw [decide_eq_true h3];simp only [aaX,cond_false];rw [x4,cond_true,abF,aaa];by_cases h4:w4=xg∨w4=OC
      ·rw [decide_eq_true h4];simp only [aaX,cond_false];rw [x5,cond_true];obtain ⟨v5,p5,q5⟩:=abD (m:=m) hN w0 w1 w2 w3 w4 w5 (s0,out,i,M,(),n0,q.1,q.2.1,q.2.2.1,q.2.2.2.1,q.2.2.2.2) true M n0 q v1 v2 (w3 == vS) (w4 == xg) 0;rw [p5,aaa];cases h5:lA w5 with
       |none=>
        have er:xh [w0,w1,w2,w3,w4,w5]=none:=by simp only [xh,h1,h2,h5]; split <;> rfl
        rw [er];exact ⟨(v1,v2,(w3 == vS),(w4 == xg),v5),OG _ _ M n0 q (v1,v2,(w3 == vS),(w4 == xg),v5),fun c' h=>by cases h⟩
       |some k5=>
        have e5:=q5 k5 h5;subst e5;have er:xh [w0,w1,w2,w3,w4,w5]=some (v1,v2,(w3 == vS),(w4 == xg),v5):=by simp only [xh,h1,h2,h5,hw0]; rw [if_pos ⟨trivial,h3,h4⟩]
        rw [er];refine ⟨(v1,v2,(w3 == vS),(w4 == xg),v5),?_,fun c' h=>aa5 h⟩;simp only [Option.isSome_some,aaX,au.cells,au.bc,av,aw,aab,aac,cond_true,cond_false,aaa,eq_self,decide_true]
      ·rw [decide_eq_false h4];have er:xh [w0,w1,w2,w3,w4,w5]=none:=by simp only [xh]; rw [if_neg (fun h=>h4 h.2.2)]
       rw [er];exact ⟨(v1,v2,(w3 == vS),(w4 == xg),0),OG _ _ M n0 q (v1,v2,(w3 == vS),(w4 == xg),0),fun c' h=>by cases h⟩
     ·rw [decide_eq_false h3];have er:xh [w0,w1,w2,w3,w4,w5]=none:=by simp only [xh]; rw [if_neg (fun h=>h3 h.2.1)]
      rw [er];exact ⟨(v1,v2,(w3 == vS),false,0),OG _ _ M n0 q (v1,v2,(w3 == vS),false,0),fun c' h=>by cases h⟩
  ·have b0:(!(w0 == ([97,116]:List UInt8)))=true:=by
    have:(w0 == ([97,116]:List UInt8))=false:=by rw [Hn]; exact decide_eq_false hw0
    rw [this]; rfl
   rw [b0,cond_true];have er:xh [w0,w1,w2,w3,w4,w5]=none:=by simp only [xh]; rw [if_neg (fun h=>hw0 h.1)]
   rw [er];exact ⟨(0,0,false,false,0),abG ..,fun c' h=>by cases h⟩
theorem OI (s0:LB) (out:List bD) (i:Int) (M:List (dK × Bool)) (n0:Int) (q:bD) (y2:LB × LB × Bool) (hs:(bu 32 y2.1).length≤1000000000) (hT:Sa N (y2.1,([32]:List UInt8))=some (bu 32 y2.1)) :
  ∃ c:bD,kf m N y2 (s0,out,i,M,(),n0,q.1,q.2.1,q.2.2.1,q.2.2.2.1,q.2.2.2.2)=some (out,!(y2.2.2&&(xh (bu 32 y2.1)).isSome),M,(),n0,q.1,q.2.1,q.2.2.1,q.2.2.2.1,q.2.2.2.2,c.1,c.2.1,c.2.2.1,c.2.2.2.1,c.2.2.2.2)∧∀ c',y2.2.2=true→xh (bu 32 y2.1)=some c'→c=c':=by
 cases hb:y2.2.2 with
 |false=>
  refine ⟨(0,0,false,false,0),?_,fun c' h=>by cases h⟩;simp only [kf,hb,aaZ,Bool.false_and,mZ,na,aax,au.cells,au.bc,av,aw,aab,aac,cond_true,cond_false,aaa,eq_self,decide_true]
 |true=>
  obtain ⟨c,p,r⟩:=OH (m:=m) hN s0 out i M n0 q y2 hs hT;refine ⟨c,?_,fun c' _=>r c'⟩;simp only [kf,hb,p,aaX,Bool.true_and,mZ,na,aax,au.cells,au.bc,av,aw,aab,aac,cond_true,cond_false,aaa,eq_self,decide_true]
end
end Go.Proofs.YtldcljfjjoidhaaGreatDoor
namespace Go.Proofs.YtldcljfjjoidhaaGreatDoor
open Go Go.Am Go.Sort
open List (map)
open Int (toNat)
open Go.IntKind (wrap)
open Go.Am.aM (fits)
set_option maxRecDepth 100000
section
variable {m:Int} {N:Nat} (hN:fD N)
include hN
theorem OJ (out:List bD) (bo:Bool) (Mx:List (dK × Bool)) (nx:Int) (qx:bD) (c:bD) (acc:List dK) (wC:Int) (q:bD) (hc:cU c=0) (ha:acc.length≤1000000000) :
  aH (nh m N (out,bo,Mx,(),nx,qx.1,qx.2.1,qx.2.2.1,qx.2.2.2.1,qx.2.2.2.2,c.1,c.2.1,c.2.2.1,c.2.2.2.1,c.2.2.2.2)) N (0,cq acc,(),wC,q.1,q.2.1,q.2.2.1,q.2.2.2.1,q.2.2.2.2,c.1,c.2.1,c.2.2.1,c.2.2.2.1,c.2.2.2.2,(),0,c.1,c.2.1,c.2.2.1,c.2.2.2.1,c.2.2.2.2) =
   some (if ∃ b∈bM c,b∈acc then .inl (cq acc,(),wC,q.1,q.2.1,q.2.2.1,q.2.2.2.1,q.2.2.2.2,c.1,c.2.1,c.2.2.1,c.2.2.2.1,c.2.2.2.2,(),9,c.1,c.2.1,c.2.2.1,c.2.2.2.1,c.2.2.2.2) else .inr (cq acc,(),wC,q.1,q.2.1,q.2.2.1,q.2.2.2.1,q.2.2.2.2,c.1,c.2.1,c.2.2.1,c.2.2.2.1,c.2.2.2.2,(),0,c.1,c.2.1,c.2.2.1,c.2.2.2.1,c.2.2.2.2)):=by
 obtain ⟨h1,h2,h3⟩:=dx hc;have ml:(bM c).length=c.2.2.2.2.toNat:=fF c _;have key:=sr (rd:=nh m N (out,bo,Mx,(),nx,qx.1,qx.2.1,qx.2.2.1,qx.2.2.2.1,qx.2.2.2.2,c.1,c.2.1,c.2.2.1,c.2.2.2.1,c.2.2.2.2)) ((bM c).map fun x=>if x∈acc then (9:Int) else 0) (fun k=>((k:Int),cq acc,(),wC,q.1,q.2.1,q.2.2.1,q.2.2.2.1,q.2.2.2.2,c.1,c.2.1,c.2.2.1,c.2.2.2.1,c.2.2.2.2,(),0,c.1,c.2.1,c.2.2.1,c.2.2.2.1,c.2.2.2.2))
  (.inr (cq acc,(),wC,q.1,q.2.1,q.2.2.1,q.2.2.2.1,q.2.2.2.2,c.1,c.2.1,c.2.2.1,c.2.2.2.1,c.2.2.2.2,(),0,c.1,c.2.1,c.2.2.1,c.2.2.2.1,c.2.2.2.2)) (fun x=>.inl (cq acc,(),wC,q.1,q.2.1,q.2.2.1,q.2.2.2.1,q.2.2.2.2,c.1,c.2.1,c.2.2.1,c.2.2.2.1,c.2.2.2.2,(),x,c.1,c.2.1,c.2.2.1,c.2.2.2.1,c.2.2.2.2)) (fun _=>True) (fun k hk _=>by
  refine ⟨?_,fun _=>trivial⟩;rw [aax,ml] at hk;have bZ:decide ((k:Int) < c.2.2.2.2)=true:=decide_eq_true (by omega);have t1:=dU N c k h1 (by omega);have t2:=dU N c (k+1) h1 (by omega);have q1:=eE c hc k (by omega);have q2:=eE c hc (k+1) (by omega);have eb:eF c k=iT (aS c k) (aS c (k+1)):=rfl;have el:((bM c).map fun x=>if x∈acc then (9:Int) else 0)[k]'(by rw [aax,ml]; exact hk)=if eF c k∈acc then (9:Int) else 0:=by simp [bM,cK]
  rw [el];simp only [nh,ov,ow,ox,bZ,cond_true,t1,bS (show k < 9223372036854775807 by omega),t2,aaa,beq_self_eq_true,aab];unfold iT at eb;have kk:=au.keys (eF c k) (cq acc);have kg:=au.getD (eF c k) false (cq acc);rw [ET] at kg;generalize aS c k=x at *;generalize aS c (k+1)=y at *;by_cases vP:x.2 > y.2
  ·rw [if_pos vP] at eb;have w:wrap .i64 (x.1 - y.1)=x.1 - y.1:=gF ⟨by omega,by omega⟩;generalize eF c k=bb at *;subst eb;simp only [vP,cond_true,au.cells,au.bc,eq_self,decide_true,av,aw,aab,aac,aaa,w,kk,kg];by_cases hm:(y.1,y.2,x.1 - y.1)∈acc
   ·simp only [hm,decide_true,if_true]; rfl
   ·simp only [hm,decide_false,if_false]; rfl
  ·rw [if_neg vP] at eb;have w:wrap .i64 (y.1 - x.1)=y.1 - x.1:=gF ⟨by omega,by omega⟩;generalize eF c k=bb at *;subst eb;simp only [vP,decide_false,cond_true,cond_false,au.cells,au.bc,eq_self,decide_true,av,aw,aab,aac,aaa,w,kk,kg];by_cases hm:(x.1,x.2,y.1 - x.1)∈acc
   ·simp only [hm,decide_true,if_true]; rfl
   ·simp only [hm,decide_false,if_false]; rfl) (fun _=>by
  rw [aax,ml];have mz:decide (((c.2.2.2.2.toNat:Nat):Int) < c.2.2.2.2)=false:=decide_eq_false (by omega);simp only [nh,ov,ow,ox,mz,cond_false,au.cells,au.bc,eq_self,decide_true,av,aw,aab,aac,cond_true,aaa]) N (by rw [aax,ml]; unfold fD at hN; omega) trivial
 refine Eq.trans key (congrArg some ?_);rw [lj (fun x=>x∈acc) 9 (by decide) (bM c)];by_cases h:∃ b∈bM c,b∈acc
 ·rw [if_pos h,if_pos h]; rfl
 ·rw [if_neg h,if_neg h]; rfl
theorem Tw (out:List bD) (bo:Bool) (Mx:List (dK × Bool)) (nx:Int) (qx:bD) (c:bD) (acc:List dK) (wC:Int) (q:bD) (e0:Int) (hc:cU c=0) (hn:∀ b∈bM c,b∉acc) :
  aH (lf m N (out,bo,Mx,(),nx,qx.1,qx.2.1,qx.2.2.1,qx.2.2.2.1,qx.2.2.2.2,c.1,c.2.1,c.2.2.1,c.2.2.2.1,c.2.2.2.2)) N (0,cq acc,(),wC,q.1,q.2.1,q.2.2.1,q.2.2.2.1,q.2.2.2.2,c.1,c.2.1,c.2.2.1,c.2.2.2.1,c.2.2.2.2,(),e0,c.1,c.2.1,c.2.2.1,c.2.2.2.1,c.2.2.2.2,c.1,c.2.1,c.2.2.1,c.2.2.2.1,c.2.2.2.2) =
   some (cq (acc++bM c),(),wC,q.1,q.2.1,q.2.2.1,q.2.2.2.1,q.2.2.2.2,c.1,c.2.1,c.2.2.1,c.2.2.2.1,c.2.2.2.2,(),e0,c.1,c.2.1,c.2.2.1,c.2.2.2.1,c.2.2.2.2,c.1,c.2.1,c.2.2.1,c.2.2.2.1,c.2.2.2.2):=by
 obtain ⟨h1,h2,h3⟩:=dx hc;have key:=cT (rd:=lf m N (out,bo,Mx,(),nx,qx.1,qx.2.1,qx.2.2.1,qx.2.2.2.1,qx.2.2.2.2,c.1,c.2.1,c.2.2.1,c.2.2.2.1,c.2.2.2.2)) c.2.2.2.2.toNat (fun k=>((k:Int),cq (acc++cK c k),(),wC,q.1,q.2.1,q.2.2.1,q.2.2.2.1,q.2.2.2.2,c.1,c.2.1,c.2.2.1,c.2.2.2.1,c.2.2.2.2,(),e0,c.1,c.2.1,c.2.2.1,c.2.2.2.1,c.2.2.2.2,c.1,c.2.1,c.2.2.1,c.2.2.2.1,c.2.2.2.2))
  (cq (acc++bM c),(),wC,q.1,q.2.1,q.2.2.1,q.2.2.2.1,q.2.2.2.2,c.1,c.2.1,c.2.2.1,c.2.2.2.1,c.2.2.2.2,(),e0,c.1,c.2.1,c.2.2.1,c.2.2.2.1,c.2.2.2.2,c.1,c.2.1,c.2.2.1,c.2.2.2.1,c.2.2.2.2) (fun k hk=>by
  have bZ:decide ((k:Int) < c.2.2.2.2)=true:=decide_eq_true (by omega);have t1:=dU N c k h1 (by omega);have t2:=dU N c (k+1) h1 (by omega);have q1:=eE c hc k (by omega);have q2:=eE c hc (k+1) (by omega);have eb:eF c k=iT (aS c k) (aS c (k+1)):=rfl;have mO:eF c k∉acc++cK c k:=by
   intro h;rcases List.mem_append.1 h with h|h
   ·exact hn (eF c k) (List.mem_map.2 ⟨k,aa4.2 hk,rfl⟩) h
   ·exact zM c k h
  have es:acc++cK c (k+1)=(acc++cK c k)++[eF c k]:=by rw [li,aa9]
  have kk:=au.keys (eF c k) (cq (acc++cK c k));have kp:=au.put (eF c k) true (cq (acc++cK c k));rw [EU _ _ mO,← es] at kp;simp only [lf,lV,jJ,lW,bZ,cond_true,t1,bS (show k < 9223372036854775807 by omega),t2,aaa,beq_self_eq_true,aab];clear mO;unfold iT at eb;generalize cq (acc++cK c (k+1))=S' at *;generalize cq (acc++cK c k)=S at *;clear es;generalize aS c k=x at *;generalize aS c (k+1)=y at *;by_cases vP:x.2 > y.2
  ·rw [if_pos vP] at eb;have w:wrap .i64 (x.1 - y.1)=x.1 - y.1:=gF ⟨by omega,by omega⟩;generalize eF c k=bb at *;subst eb;simp only [vP,cond_true,au.cells,au.bc,eq_self,decide_true,av,aw,aab,aaa,w,kk,kp]
  ·rw [if_neg vP] at eb;have w:wrap .i64 (y.1 - x.1)=y.1 - x.1:=gF ⟨by omega,by omega⟩;generalize eF c k=bb at *;subst eb;simp only [vP,decide_false,cond_true,cond_false,au.cells,au.bc,eq_self,decide_true,av,aw,aab,aaa,w,kk,kp]) (by
  have mz:decide (((c.2.2.2.2.toNat:Nat):Int) < c.2.2.2.2)=false:=decide_eq_false (by omega);simp only [lf,lV,jJ,lW,mz,cond_false,au.cells,au.bc,eq_self,decide_true,av,aw,aab,cond_true,aaa];rfl) N 0 (Nat.zero_le _) (by unfold fD at hN; omega)
 have e0':acc++cK c 0=acc:=by simp [cK]
 rw [e0'] at key;exact key
def bY (p:List bD):bD:=p.getLast?.getD (0,0,false,false,0)
theorem OK (out:List bD) (c:bD) (hp:out.length≤256) (hP:∀ q∈out,cU q=0) :
  iS m N (out,false,cq (bz out),(),(out.length:Int),(bY out).1,(bY out).2.1,(bY out).2.2.1,(bY out).2.2.2.1,(bY out).2.2.2.2,c.1,c.2.1,c.2.2.1,c.2.2.2.1,c.2.2.2.2) =
   some (if out.length≥256 then (out,5,cq (bz out),(),(out.length:Int),(bY out).1,(bY out).2.1,(bY out).2.2.1,(bY out).2.2.2.1,(bY out).2.2.2.2,c.1,c.2.1,c.2.2.1,c.2.2.2.1,c.2.2.2.2) else if ki out c=0 then (out,0,cq (bz (out++[c])),(),((out.length+1:Nat):Int),c.1,c.2.1,c.2.2.1,c.2.2.2.1,c.2.2.2.2,c.1,c.2.1,c.2.2.1,c.2.2.2.1,c.2.2.2.2) else (out,ki out c,cq (bz out),(),(out.length:Int),(bY out).1,(bY out).2.1,(bY out).2.2.1,(bY out).2.2.2.1,(bY out).2.2.2.2,c.1,c.2.1,c.2.2.1,c.2.2.2.1,c.2.2.2.2)):=by
 have hl:=ny out hP;have O0:out.length≠0→cU (bY out)=0∧below out c=decide (IC c < IC (bY out)):=by
  intro h0;obtain ⟨q,hq⟩:∃ q,out.getLast?=some q:=by
   cases h:out.getLast? with
   |none=>rw [List.getLast?_eq_none_iff] at h; subst h; exact absurd rfl h0
   |some q=>exact ⟨q,rfl⟩
  unfold bY below;rw [hq];exact ⟨hP _ (List.mem_of_getLast? hq),rfl⟩
 have Yq:out.length=0→below out c=false:=fun h=>by
  rw [List.length_eq_zero_iff] at h;subst h;rfl
 have es:bz (out++[c])=bz out++bM c:=by unfold bz; rw [List.flatMap_append]; simp
 rw [es];have t108:GY N (c.1,c.2.1,c.2.2.1,c.2.2.2.1,c.2.2.2.2)=some (dJ c):=EP hN c;by_cases Hq:out.length≥256
 ·have t80:O9 N (decide ((out.length:Int)≥256),5)=some 5:=by rw [qf,decide_eq_true (by omega)]; rfl
  have z2:(bif allFit (fits wS) [AV.int .i64 5,AV.int .i64 (dJ c)] then some (map kd [AV.int .i64 5,AV.int .i64 (dJ c)]) else none:Option oQ)=some [5,dJ c]:=rfl;have t78:O8 N [5,dJ c]=some 5:=by
   rw [nu hN [5,dJ c] (by simp)];rfl
  have Aj:((5:Int) != 0)=true:=rfl;rw [if_pos Hq];simp only [iS,qc,beq_self_eq_true,t80,t108,z2,t78,Aj,mZ,na,aax,au.cells,au.bc,av,aw,aab,aac,cond_true,cond_false,aaa,eq_self,decide_true]
 ·rw [if_neg Hq];generalize bY out=q at *;unfold ki;have t80:O9 N (decide ((out.length:Int)≥256),5)=some 0:=by rw [qf,decide_eq_false (by omega)]; rfl
  have z2:(bif allFit (fits wS) [AV.int .i64 0,AV.int .i64 (dJ c)] then some (map kd [AV.int .i64 0,AV.int .i64 (dJ c)]) else none:Option oQ)=some [0,dJ c]:=rfl;have t78:O8 N [0,dJ c]=some (dJ c):=by
   rw [nu hN [0,dJ c] (by simp)];show some (if (0:Int)=0 then (if dJ c=0 then aU [] else dJ c) else 0)=some (dJ c);rw [if_pos rfl];by_cases e:dJ c=0
   ·rw [if_pos e,e]; rfl
   ·rw [if_neg e]
  by_cases hc:dJ c=0
  ·have D6:=mu hc;have OY:=nw D6;have hcn:=dx D6;have mln:(bM c).length=c.2.2.2.2.toNat:=fF c _;have Gf:(dJ c != 0)=false:=by rw [hc]; rfl
   have XI:(aG (map zD (cq (bz out)))).length=(bz out).length:=by rw [au.ent]; simp [cq]
   have agj:kh N (out,false,cq (bz out),(),(out.length:Int),q.1,q.2.1,q.2.2.1,q.2.2.2.1,q.2.2.2.2,c.1,c.2.1,c.2.2.1,c.2.2.2.1,c.2.2.2.2)=some (below out c,cq (bz out),(),(out.length:Int),q.1,q.2.1,q.2.2.1,q.2.2.2.1,q.2.2.2.2,c.1,c.2.1,c.2.2.1,c.2.2.2.1,c.2.2.2.2,(),0):=by
    by_cases h0:out.length=0
    ·have d0:decide ((out.length:Int) > 0)=false:=decide_eq_false (by omega);simp only [kh,d0,Yq h0,au.cells,au.bc,av,aw,aab,aac,cond_true,cond_false,aaa,eq_self,decide_true]
    ·obtain ⟨e1,e2⟩:=O0 h0;have d0:decide ((out.length:Int) > 0)=true:=decide_eq_true (by omega);have ta:uN N (c.1,c.2.1,c.2.2.1,c.2.2.2.1,c.2.2.2.2)=some (IC c):=tL hN c (mu hc);have tb:uN N (q.1,q.2.1,q.2.2.1,q.2.2.2.1,q.2.2.2.2)=some (IC q):=tL hN q e1;simp only [kh,d0,e2,ta,tb,beq_self_eq_true,au.cells,au.bc,av,aw,aab,aac,cond_true,cond_false,aaa,eq_self,decide_true]
   have r1:=OJ (m:=m) hN out false (cq (bz out)) (out.length:Int) q c (bz out) (out.length:Int) q D6 (by omega);have agk:oB m N (false,cq (bz out),(),(out.length:Int),q.1,q.2.1,q.2.2.1,q.2.2.2.1,q.2.2.2.2,c.1,c.2.1,c.2.2.1,c.2.2.2.1,c.2.2.2.2,(),0) (out,false,cq (bz out),(),(out.length:Int),q.1,q.2.1,q.2.2.1,q.2.2.2.1,q.2.2.2.2,c.1,c.2.1,c.2.2.1,c.2.2.2.1,c.2.2.2.2)=some (if ∃ b∈bM c,b∈bz out then .inr (cq (bz out),(),(out.length:Int),q.1,q.2.1,q.2.2.1,q.2.2.2.1,q.2.2.2.2,c.1,c.2.1,c.2.2.1,c.2.2.2.1,c.2.2.2.2,(),9,c.1,c.2.1,c.2.2.1,c.2.2.2.1,c.2.2.2.2) else .inl (cq (bz out),(),(out.length:Int),q.1,q.2.1,q.2.2.1,q.2.2.2.1,q.2.2.2.2,c.1,c.2.1,c.2.2.1,c.2.2.2.1,c.2.2.2.2,(),0,c.1,c.2.1,c.2.2.1,c.2.2.2.1,c.2.2.2.2)):=by
    simp only [oB,r1,au.cells,au.bc,av,aw,aab,aac,cond_true,cond_false,aaa,eq_self,decide_true];by_cases h9:∃ b∈bM c,b∈bz out
    ·simp only [if_pos h9,aaM,aaC,au.cells,au.bc,av,aw,aab,aac,cond_true,cond_false,aaa,eq_self,decide_true]
    ·simp only [if_neg h9,aaM,aaC,au.cells,au.bc,av,aw,aab,aac,cond_true,cond_false,aaa,eq_self,decide_true]
   simp only [if_pos hc];simp only [iS,qc,beq_self_eq_true,t80,t108,z2,t78,Gf,agj,au.cells,au.bc,av,aw,aab,aac,cond_true,cond_false,aaa,eq_self,decide_true];cases hbw:below out c with
   |true=>
    simp only [mZ,na,aax,au.cells,au.bc,av,aw,aab,aac,cond_true,cond_false,aaa,eq_self,decide_true];rfl
   |false=>
    simp only [agk,au.cells,au.bc,av,aw,aab,aac,cond_true,cond_false,aaa,eq_self,decide_true,aaH,if_false];by_cases h9:∃ b∈bM c,b∈bz out
    ·simp only [if_pos h9,aaM,aaC,mZ,na,aax,au.cells,au.bc,av,aw,aab,aac,cond_true,cond_false,aaa,eq_self,decide_true];rfl
    ·simp only [if_neg h9,aaM,aaC,XI,au.cells,au.bc,av,aw,aab,aac,cond_true,cond_false,aaa,eq_self,decide_true];have w:wrap .i64 (((bz out).length:Int)+c.2.2.2.2)=(((bz out).length+(bM c).length:Nat):Int):=by rw [gF ⟨by omega,by omega⟩]; omega
     have r2:=Tw (m:=m) hN out false (cq (bz out)) (out.length:Int) q c (bz out) (out.length:Int) q 0 D6 (fun b hb hq=>h9 ⟨b,hb,hq⟩);rw [w];by_cases h4:(bz out).length+(bM c).length > 4096
     ·rw [decide_eq_true (show (((bz out).length+(bM c).length:Nat):Int) > 4096 by omega)];simp only [if_pos h4,mZ,na,aax,au.cells,au.bc,av,aw,aab,aac,cond_true,cond_false,aaa,eq_self,decide_true];rfl
     ·rw [decide_eq_false (show ¬ (((bz out).length+(bM c).length:Nat):Int) > 4096 by omega)];simp only [if_neg h4,if_true,r2,bS (show out.length < 9223372036854775807 by omega),mZ,na,aax,au.cells,au.bc,av,aw,aab,aac,cond_true,cond_false,aaa,eq_self,decide_true]
  ·have Gf:(dJ c != 0)=true:=bne_iff_ne.2 hc;simp only [if_neg hc];simp only [iS,qc,beq_self_eq_true,t80,t108,z2,t78,Gf,mZ,na,aax,au.cells,au.bc,av,aw,aab,aac,cond_true,cond_false,aaa,eq_self,decide_true]
end
end Go.Proofs.YtldcljfjjoidhaaGreatDoor
namespace Go.Proofs.YtldcljfjjoidhaaGreatDoor
open Go Go.Am Go.Sort
open List (map)
open Int (toNat)
open Go.IntKind (wrap)
open Go.Am.aM (fits)
set_option maxRecDepth 100000
theorem Km (s:List UInt8):s≠[]→cz s=if (fG 10 s).2.2=true then ((fG 10 s).1++[10]) :: cz (fG 10 s).2.1 else [s]:=by
 induction s with
 |nil=>intro h; exact absurd rfl h
 |cons b l ih=>
  intro _;rw [cz,fG];by_cases hb:b=10
  ·rw [if_pos hb,if_pos hb,if_pos rfl]; rfl
  ·rw [if_neg hb,if_neg hb];by_cases hl:l=[]
   ·subst hl;rfl
   ·rw [ih hl];show _=if (fG 10 l).2.2=true then ((b :: (fG 10 l).1)++[10]) :: cz (fG 10 l).2.1 else [b :: l]
    by_cases hc:(fG 10 l).2.2=true
    ·rw [if_pos hc,if_pos hc,u0 _ _ _ (by simp)];rfl
    ·rw [if_neg hc,if_neg hc,u0 _ _ _ hl];rfl
theorem OL (s:List UInt8) (h:(fG 10 s).2.2=false):(10:UInt8)∉s:=by
 induction s with
 |nil=>simp
 |cons b l ih=>
  rw [fG] at h;by_cases hb:b=10
  ·rw [if_pos hb] at h; cases h
  ·rw [if_neg hb] at h;intro hm;rcases List.mem_cons.1 hm with hm|hm
   ·exact hb hm.symm
   ·exact ih h hm
theorem Tx (s:List UInt8):(fG 10 s).1.length≤s.length∧(fG 10 s).2.1.length≤s.length∧((fG 10 s).2.2=true→(fG 10 s).2.1.length < s.length):=by
 induction s with
 |nil=>exact ⟨Nat.le_refl _,Nat.le_refl _,fun h=>by cases h⟩
 |cons b l ih=>
  rw [fG];by_cases hb:b=10
  ·rw [if_pos hb]; simp
  ·rw [if_neg hb];simp only [aa6];exact ⟨by omega,by omega,fun h=>by have:=ih.2.2 h; omega⟩
theorem OM (s:List UInt8):KA (s++[10])=xh (bu 32 s):=by
 unfold KA;have e1:(s++[10]).length - 1=s.length:=by simp
 have e2:(s++[10]).getD s.length 0=10:=by simp
 rw [e1,e2,if_pos (show (10:UInt8).toNat=10 from rfl),List.take_left' rfl]
theorem ON (s:List UInt8) (h:(10:UInt8)∉s):KA s=none:=by
 unfold KA;rw [if_neg];intro e;cases s with
 |nil=>cases e
 |cons b l=>
  have e1:(b :: l).getD ((b :: l).length - 1) 0∈b :: l:=by
   rw [abu,abN (by simp)];exact List.getElem_mem _
  have e2:(b :: l).getD ((b :: l).length - 1) 0=10:=UInt8.toNat.inj e;rw [e2] at e1;exact h e1
theorem z8 (c:UInt8):∀ s:List UInt8,(bu c s).length≤s.length+1
 |[]=>Nat.le_refl _
 |b :: l=>by
  have ih:=z8 c l;rw [bu];split
  ·simp only [aa6]; omega
  ·split
   ·simp only [aa6,List.length_nil]; omega
   ·rename_i h;rw [h] at ih;simp only [aa6] at *;omega
theorem E2:∀ (L:List (List UInt8)) (out:List bD) (i:Nat) (o:List bD),my L out i=.inr o→o.length=out.length+L.length
 |[],out,i,o,h=>by
  rw [my] at h;injection h with h;rw [h]; rfl
 |s :: t,out,i,o,h=>by
  rw [my] at h;cases hr:KA s with
  |none=>rw [hr] at h; cases h
  |some c=>
   rw [hr] at h;simp only at h;by_cases h1:i≥256
   ·rw [if_pos h1] at h; cases h
   ·rw [if_neg h1] at h;by_cases h2:ki out c=0
    ·rw [if_pos h2] at h;have:=E2 t _ _ _ h;rw [this,aaR,aaY,aa6];omega
    ·rw [if_neg h2] at h; cases h
theorem Hr (s:List UInt8):(tM (cz s)).1.length≤s.length:=by
 unfold tM;cases h:my (cz s) [] 0 with
 |inl o=>exact Nat.zero_le _
 |inr o=>
  have:=E2 _ _ _ _ h;have:=zW s;show o.length≤s.length;rw [List.length_nil] at *;omega
section
variable {m:Int} {N:Nat} (hN:fD N)
include hN
abbrev S30:=(List UInt8) × (List bD) × Int × (List (dK × Bool)) × Unit × Int × Int × Int × Bool × Bool × Int
def C0 (s:List UInt8) (out:List bD):S30:=(s,out,(out.length:Int),cq (bz out),(),(out.length:Int),(bY out).1,(bY out).2.1,(bY out).2.2.1,(bY out).2.2.2.1,(bY out).2.2.2.2)
def XV:(Unit × Int × Int × (List (dK × Bool)) × Unit × Int × Int × Int × Bool × Bool × Int) ⊕ ((List bD) × (List (dK × Bool)) × Unit × Int × Int × Int × Bool × Bool × Int)→(Unit × Int × Int) ⊕ List bD:=Sum.elim (fun o=>.inl ((),o.2.1,o.2.2.1)) (fun o=>.inr o.1)
theorem E3:∀ (n:Nat) (s:List UInt8) (out:List bD),s.length < n→s.length≤1000000→out.length≤256→(∀ q∈out,cU q=0)→∃ x,aH (jo m N) n (C0 s out)=some x∧XV x=my (cz s) out out.length
 |0,s,out,h,_,_,_=>by omega
 |n+1,s,out,hn,hs,ho,hP=>by
  rw [bF];by_cases h0:s=[]
  ·subst h0;have e0:(!(([]:List UInt8) == ([]:List UInt8)))=false:=rfl;refine ⟨.inr (out,cq (bz out),(),(out.length:Int),(bY out).1,(bY out).2.1,(bY out).2.2.1,(bY out).2.2.2.1,(bY out).2.2.2.2),?_,rfl⟩;simp only [C0,jo,e0,au.cells,au.bc,av,aw,mZ,na,aax,aab,aac,cond_true,cond_false,aaa,eq_self,decide_true,aaC]
  ·have e0:(!(s == ([]:List UInt8)))=true:=by rw [Hn,decide_eq_false h0]; rfl
   have hc:T98 N (s,([10]:List UInt8))=some (fG 10 s):=by
    show (bif decide (s.length < 4294967281) then some (fG 10 s) else none)=_;rw [decide_eq_true (by omega)];rfl
   obtain ⟨l1,l2,l3⟩:=Tx s;have hl:=z8 32 (fG 10 s).1;have hT:Sa N ((fG 10 s).1,([32]:List UInt8))=some (bu 32 (fG 10 s).1):=by
    show (bif decide ((fG 10 s).1.length < 4294967281) then some (bu 32 (fG 10 s).1) else none)=_;rw [decide_eq_true (by omega)];rfl
   obtain ⟨c,p,r⟩:=OI (m:=m) hN s out (out.length:Int) (cq (bz out)) (out.length:Int) (bY out) (fG 10 s) (by omega) hT;rw [Km s h0];have w:=OK (m:=m) hN out;have n25:((25:Int) != 0)=true:=rfl;cases hb:(fG 10 s).2.2 with
   |false=>
    have hr:=ON s (OL s hb);rw [hb,Bool.false_and,aaZ] at p;refine ⟨.inl ((),(out.length:Int),25,cq (bz out),(),(out.length:Int),(bY out).1,(bY out).2.1,(bY out).2.2.1,(bY out).2.2.2.1,(bY out).2.2.2.2),?_,?_⟩
    ·simp only [C0,jo,e0,hc,p,au.cells,au.bc,av,aw,aab,aac,cond_true,cond_false,aaa,eq_self,decide_true,aaC]
    ·rw [if_neg (by decide),my,hr];rfl
   |true=>
    rw [if_pos rfl,my,OM];rw [hb,Bool.true_and] at p;cases hr:xh (bu 32 (fG 10 s).1) with
    |none=>
     rw [hr] at p;refine ⟨.inl ((),(out.length:Int),25,cq (bz out),(),(out.length:Int),(bY out).1,(bY out).2.1,(bY out).2.2.1,(bY out).2.2.2.1,(bY out).2.2.2.2),?_,rfl⟩;simp only [C0,jo,e0,hc,p,aa3,aaZ,au.cells,au.bc,av,aw,aab,aac,cond_true,cond_false,aaa,eq_self,decide_true,aaC]
    |some c'=>
     have ec:=r c' hb hr;subst ec;rw [hr] at p;have w:=w c ho hP;simp only;by_cases Hq:out.length≥256
     ·have Aj:((5:Int) != 0)=true:=rfl;rw [if_pos Hq] at w;rw [if_pos Hq];refine ⟨.inl ((),(out.length:Int),5,cq (bz out),(),(out.length:Int),(bY out).1,(bY out).2.1,(bY out).2.2.1,(bY out).2.2.2.1,(bY out).2.2.2.2),?_,rfl⟩;simp only [C0,jo,e0,hc,p,w,Aj,Option.isSome_some,aaX,au.cells,au.bc,av,aw,aab,aac,cond_true,cond_false,aaa,eq_self,decide_true,aaC]
     ·rw [if_neg Hq] at w;rw [if_neg Hq];by_cases he:ki out c=0
      ·rw [if_pos he] at w;rw [if_pos he];have z0:((0:Int) != 0)=false:=rfl;have hU:decide ((out.length+1) * 32≤140737488355328)=true:=decide_eq_true (by omega);have sn:map eV out++[AV.agg [AV.int .i64 c.1,AV.int .i64 c.2.1,AV.bool c.2.2.1,AV.bool c.2.2.2.1,AV.int .i64 c.2.2.2.2]]=map eV (out++[c]):=by rw [List.map_append]; rfl
       have E9:bY (out++[c])=c:=by unfold bY; rw [List.getLast?_concat]; rfl
       have ih:=E3 n (fG 10 s).2.1 (out++[c]) (by have:=l3 hb; omega) (by omega) (by simp; omega) (fun q hq=>by
        rcases List.mem_append.1 hq with hq|hq
        ·exact hP q hq
        ·rw [List.mem_singleton] at hq;subst hq;exact mu (ks he).1)
       rw [aaR,aaY] at ih;obtain ⟨x,q1,q2⟩:=ih;refine ⟨x,?_,q2⟩;have st:jo m N (C0 s out)=some (.inl (C0 (fG 10 s).2.1 (out++[c]))):=by
        simp only [C0,jo,zK,e0,hc,p,w,z0,hU,sn,E9,mZ,na,aax,aaR,aaY,bS (show out.length < 9223372036854775807 by omega),Option.isSome_some,aaX,au.cells,au.bc,av,aw,aab,aac,cond_true,cond_false,aaa,eq_self,decide_true]
       rw [st,aaa,aaM];exact q1
      ·have ne:(ki out c != 0)=true:=bne_iff_ne.2 he;rw [if_neg he] at w;rw [if_neg he];refine ⟨.inl ((),(out.length:Int),ki out c,cq (bz out),(),(out.length:Int),(bY out).1,(bY out).2.1,(bY out).2.2.1,(bY out).2.2.2.1,(bY out).2.2.2.2),?_,rfl⟩;simp only [C0,jo,e0,hc,p,w,ne,Option.isSome_some,aaX,au.cells,au.bc,av,aw,aab,aac,cond_true,cond_false,aaa,eq_self,decide_true,aaC]
theorem BP (s:List UInt8) (hs:s.length≤1000000):T30 m N s=some (tM (cz s)):=by
 obtain ⟨x,w,hx⟩:=E3 (m:=m) hN N s [] (by unfold fD at hN; omega) hs (by simp) (fun q hq=>by cases hq);have w:aH (jo m N) N (s,([]:List bD),0,([]:List (dK × Bool)),(),0,0,0,false,false,0)=some x:=w;have d0:decide (((s.length:Nat):Int) > 1000000)=false:=decide_eq_false (by omega);have z:((bif (allFit (fits sf) ([]:List AV)&&(allFit (fits ap) (ab ([]:List (AV × AV)))&&true)) then some (s,(map bj ([]:List AV)),0,(map aI (ab ([]:List (AV × AV)))),(),0,0,0,false,false,0) else none:Option S30).bind fun N0=>bif (bc ([]:List (AV × AV))&&(decide (0=(map eV N0.2.1).length)&&true)) then some N0 else none)=some (s,([]:List bD),0,([]:List (dK × Bool)),(),0,0,0,false,false,0):=rfl;rw [Xu,d0,cond_false,z,aaa,w,aaa];unfold tM;have oJ:XV x=my (cz s) [] 0:=hx;rw [← oJ];cases x with
 |inl o=>rfl
 |inr o=>
  simp only [aaC,mZ,na,aab,cond_true,XV]
end
end Go.Proofs.YtldcljfjjoidhaaGreatDoor
namespace Go.Proofs.YtldcljfjjoidhaaGreatDoor
open Go Go.Am Go.Sort
open List (map)
open Int (toNat)
open Go.IntKind (wrap)
open Go.Am.aM (fits)
set_option maxRecDepth 100000
theorem II {b:UInt8} (h:48≤b.toNat∧b.toNat≤57):UInt8.ofNat (48+(b.toNat - 48))=b:=by
 rw [show 48+(b.toNat - 48)=b.toNat by omega,UInt8.ofNat_toNat]
theorem IJ:∀ (n:Nat) (d:List UInt8),d.length=n+1→(1 < d.length→(d.getD 0 0).toNat≠48)→(∀ k,k < d.length→48≤(d.getD k 0).toNat∧(d.getD k 0).toNat≤57)→Lib.decDigits (dh d).toNat=d
 |0,d,hl,_,hd=>by
  obtain ⟨b,rfl⟩:∃ b,d=[b]:=by
   match d,hl with
   |[b],_=>exact ⟨b,rfl⟩
  have hb:48≤b.toNat∧b.toNat≤57:=hd 0 (by simp);have e:dh [b]=10 * 0+((b.toNat:Int) - 48):=rfl;have e2:(dh [b]).toNat=b.toNat - 48:=by rw [e]; omega
  rw [e2,kj (by omega),II hb]
 |n+1,d,hl,h0,hd=>by
  obtain ⟨s,b,rfl⟩:∃ s b,d=s++[b]:=by
   have cQ:d≠[]:=by intro e; rw [e] at hl; cases hl
   exact ⟨d.dropLast,d.getLast cQ,(List.dropLast_concat_getLast cQ).symm⟩
  rw [aaR,aaY] at hl;have hsl:s.length=n+1:=by omega
  have hs:∀ k,k < s.length→48≤(s.getD k 0).toNat∧(s.getD k 0).toNat≤57:=fun k hk=>by
   have:=hd k (by rw [aaR]; omega);rw [nB s b hk] at this;exact this
  have hb:48≤b.toNat∧b.toNat≤57:=by
   have:=hd s.length (by rw [aaR,aaY]; omega);rw [qL] at this;exact this
  have h1:(s.getD 0 0).toNat≠48:=by
   have:=h0 (by rw [aaR,aaY]; omega);rw [nB s b (by omega)] at this;exact this
  have ih:=IJ n s hsl (fun _=>h1) hs;have hp:0 < dh s:=IG (by intro e; rw [e] at hsl; cases hsl) h1 (by
   rintro ⟨k,hk,h⟩;have:=hs k hk;omega)
  have ev:=BN s b;have et:(dh (s++[b])).toNat=10 * (dh s).toNat+(b.toNat - 48):=by rw [ev]; omega
  rw [et,zQ (by omega),show (10 * (dh s).toNat+(b.toNat - 48)) / 10=(dh s).toNat by omega,show (10 * (dh s).toNat+(b.toNat - 48)) % 10=b.toNat - 48 by omega,ih,kj (by omega),II hb]
theorem Aa {w:List UInt8} {n:Int} (h:lA w=some n):Lib.itoa n=w∧(-1000000000 < n∧n < 1000000000):=by
 have key:∀ {d:List UInt8} {k:Int},uY d=some k→Lib.decDigits k.toNat=d∧0≤k∧k≤999999999:=by
  intro d k hk;obtain ⟨a1,a2,a3,a4⟩:=Tu hk;refine ⟨?_,a1,a2⟩;subst a4;have cQ:d≠[]:=fun e=>a3 (.inl e)
  refine IJ (d.length - 1) d (by have:=abq.2 cQ; omega) (fun h1 h2=>a3 (.inr (.inr (.inl ⟨h1,h2⟩)))) fun j hj=>?_
  have:¬ ((d.getD j 0).toNat < 48∨57 < (d.getD j 0).toNat):=fun x=>a3 (.inr (.inr (.inr ⟨j,hj,x⟩)))
  omega
 unfold lA at h;by_cases hm:0 < w.length∧(w.getD 0 0).toNat=45
 ·rw [if_pos hm] at h;cases hn:uY (w.drop 1) with
  |none=>rw [hn] at h; cases h
  |some k=>
   rw [hn] at h;obtain ⟨k1,k2,k3⟩:=key hn;simp only at h;by_cases hk:k > 0
   ·rw [if_pos hk] at h;have e:=aa5 h;subst e;refine ⟨?_,by omega⟩;unfold Lib.itoa;rw [if_pos (by omega),show (-k).natAbs=k.toNat by omega,k1];cases w with
    |nil=>simp at hm
    |cons b t=>
     have hb:b=45:=UInt8.toNat.inj hm.2;rw [hb]; rfl
   ·rw [if_neg hk] at h; cases h
 ·rw [if_neg hm] at h;obtain ⟨k1,k2,k3⟩:=key h;refine ⟨?_,by omega⟩;unfold Lib.itoa;rw [if_neg (by omega),k1]
def zd (c:UInt8):List (List UInt8)→List UInt8
 |[]=>[]
 |[x]=>x
 |x :: y :: t=>x++c :: zd c (y :: t)
theorem Ab (c:UInt8):∀ s:List UInt8,zd c (bu c s)=s
 |[]=>rfl
 |b :: l=>by
  have ih:=Ab c l;rw [bu];by_cases hb:b=c
  ·rw [if_pos hb];cases hs:bu c l with
   |nil=>exact absurd hs (uJ c l)
   |cons x xs=>
    rw [hs] at ih;show []++c :: zd c (x :: xs)=b :: l;rw [ih,hb]; rfl
  ·rw [if_neg hb];cases hs:bu c l with
   |nil=>exact absurd hs (uJ c l)
   |cons x xs=>
    rw [hs] at ih;cases xs with
    |nil=>
     show b :: x=b :: l;rw [show x=l from ih]
    |cons y t=>
     show (b :: x)++c :: zd c (y :: t)=b :: l;have ih:x++c :: zd c (y :: t)=l:=ih;rw [← ih]; rfl
theorem OO {w:List UInt8} {c:bD} (h:KA w=some c):fa c=w∧Ox c:=by
 unfold KA at h;by_cases h1:(w.getD (w.length - 1) 0).toNat=10
 ·rw [if_pos h1] at h;have hw:w≠[]:=by
   intro e;subst e;cases h1
  have ew:w.take (w.length - 1)++[10]=w:=by
   have hl:=abq.2 hw;have e1:w.getD (w.length - 1) 0=10:=UInt8.toNat.inj h1;rw [abu,abN (show w.length - 1 < w.length by omega)] at e1;have e1:w[w.length - 1]=10:=e1;have:=List.take_append_getElem (l:=w) (i:=w.length - 1) (by omega);rw [e1,show w.length - 1+1=w.length by omega,List.take_length] at this;exact this
  have js:=Ab 32 (w.take (w.length - 1));generalize w.take (w.length - 1)=v at *;rcases OF (bu 32 v) with h6|⟨w0,w1,w2,w3,w4,w5,e6⟩
  ·rw [IH h6] at h; cases h
  ·rw [e6] at h js;simp only [xh] at h;by_cases hc:w0=Kz∧(w3=vS∨w3=OB)∧(w4=xg∨w4=OC)
   ·rw [if_pos hc] at h;obtain ⟨c0,c3,c4⟩:=hc;cases n1:lA w1 with
    |none=>rw [n1] at h; cases h
    |some x=>
     cases C6:lA w2 with
     |none=>rw [n1,C6] at h; cases h
     |some y=>
      cases Aj:lA w5 with
      |none=>rw [n1,C6,Aj] at h; cases h
      |some n=>
       rw [n1,C6,Aj] at h;have e:=aa5 h;subst e;obtain ⟨i1,b1⟩:=Aa n1;obtain ⟨i2,b2⟩:=Aa C6;obtain ⟨i5,b5⟩:=Aa Aj;have r3:ig (w3 == vS)=w3:=by rcases c3 with rfl | rfl <;> rfl
       have r4:Hm (w4 == xg)=w4:=by rcases c4 with rfl | rfl <;> rfl
       refine ⟨?_,b1,b2,b5⟩;have js:w0++32 :: (w1++32 :: (w2++32 :: (w3++32 :: (w4++32 :: w5))))=v:=js;rw [← ew,← js];unfold fa;simp only [i1,i2,i5,r3,r4,c0];simp [Kz,aa9]
   ·rw [if_neg hc] at h; cases h
 ·rw [if_neg h1] at h; cases h
theorem Ac:∀ s:List UInt8,(cz s).flatMap id=s
 |[]=>rfl
 |b :: l=>by
  have ih:=Ac l;rw [cz];by_cases hb:b=10
  ·rw [if_pos hb,abK,ih,hb]; rfl
  ·rw [if_neg hb];cases hl:cz l with
   |nil=>
    rw [hl] at ih;have:l=[]:=ih.symm;subst this;rfl
   |cons x t=>
    rw [hl] at ih;have hx:x≠[]:=(BO l x (by rw [hl]; exact List.mem_cons_self)).1;rw [u0 _ _ _ hx,abK];rw [abK] at ih;show ([b]++x)++t.flatMap id=b :: l;rw [← ih]; rfl
theorem IK:∀ (L:List (List UInt8)) (out o:List bD),out.length≤256→my L out out.length=.inr o→∃ t,o=out++t∧L=t.map fa∧o.length≤256∧∀ k (hk:k < t.length),ki (out++t.take k) t[k]=0
 |[],out,o,hl,h=>by
  rw [my] at h;injection h with h;subst h;exact ⟨[],by simp,rfl,hl,fun k hk=>by cases hk⟩
 |s :: L,out,o,hl,h=>by
  rw [my] at h;cases hr:KA s with
  |none=>rw [hr] at h; cases h
  |some c=>
   rw [hr] at h;simp only at h;by_cases h1:out.length≥256
   ·rw [if_pos h1] at h; cases h
   ·rw [if_neg h1] at h;by_cases h2:ki out c=0
    ·rw [if_pos h2] at h;have h':my L (out++[c]) (out++[c]).length=.inr o:=by rw [aaR]; exact h
     obtain ⟨t,q1,q2,q3,q4⟩:=IK L (out++[c]) o (by rw [aaR,aaY]; omega) h';refine ⟨c :: t,by rw [q1,aa9]; rfl,by rw [List.map_cons,(OO hr).1,q2],q3,fun k hk=>?_⟩;cases k with
     |zero=>simpa using h2
     |succ k=>
      have:=q4 k (by simpa using hk);rw [aa9] at this;exact this
    ·rw [if_neg h2] at h; cases h
theorem E4 {p:List bD} (hl:p.length≤256) (h:∀ k (hk:k < p.length),ki (p.take k) p[k]=0):gA p=0:=by
 unfold gA;rw [if_neg (by omega)];refine gu.2 fun x hx=>?_
 obtain ⟨k,hk,rfl⟩:=List.getElem_of_mem hx;rw [jK] at hk;rw [xf p hk];exact h k hk
theorem Hs {p:List bD} (h:gA p=0) (k:Nat):gA (p.take k)=0:=by
 obtain ⟨hl,he⟩:=zO h;refine E4 (by rw [List.length_take]; omega) fun j hj=>?_
 rw [List.length_take] at hj;have:=he j (by omega);rw [List.take_take,Nat.min_eq_left (by omega),List.getElem_take];exact this
theorem E5:∀ (L:List (List UInt8)) (out:List bD) (i:Nat) (o:Unit × Int × Int),my L out i=.inl o→o.2.2≠0
 |[],out,i,o,h=>by
  rw [my] at h;cases h
 |s :: L,out,i,o,h=>by
  rw [my] at h;cases hr:KA s with
  |none=>
   rw [hr] at h;injection h with h;subst h;exact (by decide:(25:Int)≠0)
  |some c=>
   rw [hr] at h;simp only at h;by_cases h1:i≥256
   ·rw [if_pos h1] at h;injection h with h;subst h;exact (by decide:(5:Int)≠0)
   ·rw [if_neg h1] at h;by_cases h2:ki out c=0
    ·rw [if_pos h2] at h;exact E5 L _ _ _ h
    ·rw [if_neg h2] at h;injection h with h;subst h;exact h2
theorem Kn {s:List UInt8} {p:List bD} {i:Int} (h:tM (cz s)=(p,i,0)):gA p=0∧cV p=s:=by
 unfold tM at h;cases hp:my (cz s) [] 0 with
 |inl o=>
  rw [hp] at h;exact absurd (congrArg (fun z=>z.2.2) h) (E5 _ _ _ _ hp)
 |inr o=>
  rw [hp] at h;have e:o=p:=congrArg (fun z=>z.1) h;subst e;obtain ⟨t,q1,q2,q3,q4⟩:=IK (cz s) [] o (by simp) hp;rw [List.nil_append] at q1;subst q1;refine ⟨E4 q3 fun k hk=>q4 k hk,?_⟩;have:=Ac s;rw [q2] at this;rw [← this];unfold cV;rw [List.flatMap_map];rfl
end Go.Proofs.YtldcljfjjoidhaaGreatDoor
