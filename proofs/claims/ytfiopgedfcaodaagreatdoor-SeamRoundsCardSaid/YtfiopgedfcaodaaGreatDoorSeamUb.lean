/- Plain laws: numbers in a text,words of a rate. -/
import Derived.Test.YtfiopgedfcaodaaGreatDoorSeamUa
set_option linter.all false
namespace Go.Proofs.YtfiopgedfcaodaaGreatDoor
open Go Go.Am
set_option maxRecDepth 100000
def badN (s:List UInt8) (k:Nat):Bool:=decide ((s.getD k 0).toNat < 48∨57 < (s.getD k 0).toNat∨k=9∨(k=0∧(s.getD k 0).toNat=48))
def stN (s:List UInt8) (n:Int) (k:Nat):Int ⊕ Int:=if badN s k=true then .inr ((k+(decodeA s k).2:Nat):Int) else .inl (10 * n+(((s.getD k 0).toNat:Int) - 48))
def numB (s:List UInt8):Option Int:=if s=[] then none else Sum.elim some (fun _=>none) (foldI (stN s) 0 (List.range s.length))
theorem getD_at (s:List UInt8) {k:Nat} (hk:k < s.length):s.getD k 0=s[k]:=by simp [hk]
theorem blt_iff (a b:Nat):Nat.blt a b=decide (a < b):=by
 rw [Bool.eq_iff_iff,decide_eq_true_iff]
 exact ⟨fun h=>Nat.le_of_ble_eq_true h,fun h=>Nat.ble_eq_true_of_le h⟩
theorem pow_le9 {k:Nat} (h:k≤8):10 ^ k≤100000000:=by
 have:=Nat.pow_le_pow_right (show 0 < 10 by omega) h
 simpa using this
theorem T153_num (m:Int) {N:Nat} (hN:Big N) (s:List UInt8) (hs:s.length≤1000000):T153 m N s=some (match numB s with | some n=>(n,true) | none=>(0,false)):=by
 rw [T153_eq]
 have key:=loopR_fold (rd:=R153x58 m N) (List.range s.length) (fun (n:Int) k=>(n,s,(k:Int))) (stN s) (fun n=>(.inl (n,s,(s.length:Int)):(Int × (List UInt8) × Int) ⊕ (Int × Bool × (List UInt8) × Int))) (fun pos=>.inr (0,false,s,pos)) (fun n k=>0≤n∧n < ((10 ^ k:Nat):Int)∧k≤9)
  (fun n k hk hP=>by
   obtain ⟨p1,p2,p3⟩:=hP
   rw [List.length_range] at hk
   rw [List.getElem_range]
   have r:=rune_at s k hk
   have eg:=getD_at s hk
   have c0:Nat.blt k s.length=true:=by rw [blt_iff]; exact decide_eq_true hk
   by_cases hb:badN s k=true
   ·have hb':=of_decide_eq_true hb
    rw [eg] at hb'
    constructor
    ·unfold stN
     rw [if_pos hb]
     simp only [Sum.map_inr,R153x58,Int.toNat_natCast,c0,cond_true]
     by_cases h1:s[k].toNat < 128
     ·simp only [r.1 h1]
      by_cases q1:s[k].toNat < 48
      ·rw [decide_eq_true (show ((s[k].toNat:Nat):Int) < 48 by omega)]
       simp only [cond_true,Option.bind_some,Int.toNat_natCast]
      ·rw [decide_eq_false (show ¬ ((s[k].toNat:Nat):Int) < 48 by omega)]
       by_cases q2:57 < s[k].toNat
       ·rw [decide_eq_true (show ((s[k].toNat:Nat):Int) > 57 by omega)]
        simp only [cond_true,cond_false,Option.bind_some,Int.toNat_natCast]
       ·rw [decide_eq_false (show ¬ ((s[k].toNat:Nat):Int) > 57 by omega)]
        by_cases q3:k=9
        ·have e:(((k:Nat):Int) == 9)=true:=by simp [q3]
         simp only [e,cond_true,cond_false,Option.bind_some,Int.toNat_natCast]
        ·have e:(((k:Nat):Int) == 9)=false:=by simp; omega
         obtain ⟨e0,e48⟩:k=0∧s[k].toNat=48:=by omega
         have e1:(((k:Nat):Int) == 0)=true:=by simp [e0]
         have e2:(((s[k].toNat:Nat):Int) == 48)=true:=by simp [e48]
         simp only [e,e1,e2,cond_true,cond_false,Option.bind_some,Int.toNat_natCast]
     ·have h2:=r.2 (by omega)
      rw [decide_eq_false (show ¬ (((decodeA s k).1:Nat):Int) < 48 by omega),decide_eq_true (show (((decodeA s k).1:Nat):Int) > 57 by omega)]
      simp only [cond_true,cond_false,Option.bind_some,Int.toNat_natCast]
    ·intro s' h
     unfold stN at h
     rw [if_pos hb] at h
     cases h
   ·have hb':=fun h=>hb (decide_eq_true h)
    rw [eg] at hb'
    have q1:¬ s[k].toNat < 48:=fun h=>hb' (.inl h)
    have q2:¬ 57 < s[k].toNat:=fun h=>hb' (.inr (.inl h))
    have q3:¬ k=9:=fun h=>hb' (.inr (.inr (.inl h)))
    have q4:¬ (k=0∧s[k].toNat=48):=fun h=>hb' (.inr (.inr (.inr h)))
    have hp8:=pow_le9 (show k≤8 by omega)
    have es:stN s n k=.inl (10 * n+((s[k].toNat:Int) - 48)):=by unfold stN; rw [if_neg hb,eg]
    rw [es]
    constructor
    ·have e:(((k:Nat):Int) == 9)=false:=by simp; omega
     have w1:IntKind.wrap .i32 (((s[k].toNat:Nat):Int) - 48)=((s[k].toNat:Nat):Int) - 48:=IntWalk.i32_in _ (by omega)
     have w2:IntKind.wrap .i64 (((s[k].toNat:Nat):Int) - 48)=((s[k].toNat:Nat):Int) - 48:=w64 (by omega)
     have w3:IntKind.wrap .i64 (10 * n)=10 * n:=w64 (by omega)
     have w4:IntKind.wrap .i64 (10 * n+(((s[k].toNat:Nat):Int) - 48))=10 * n+(((s[k].toNat:Nat):Int) - 48):=w64 (by omega)
     simp only [Sum.map_inl,R153x58,Int.toNat_natCast,c0,cond_true]
     simp only [r.1 (show s[k].toNat < 128 by omega)]
     rw [decide_eq_false (show ¬ ((s[k].toNat:Nat):Int) < 48 by omega),decide_eq_false (show ¬ ((s[k].toNat:Nat):Int) > 57 by omega)]
     by_cases q0:k=0
     ·have e1:(((k:Nat):Int) == 0)=true:=by simp [q0]
      have e2:(((s[k].toNat:Nat):Int) == 48)=false:=by simp; omega
      simp only [e,e1,e2,cond_true,cond_false,Option.bind_some,Int.toNat_natCast,w1,w2,w3,w4]
     ·have e1:(((k:Nat):Int) == 0)=false:=by simp; omega
      simp only [e,e1,cond_false,Option.bind_some,Int.toNat_natCast,w1,w2,w3,w4]
    ·intro s' h
     injection h with h
     subst h
     have:(10:Nat) ^ (k+1)=10 ^ k * 10:=Nat.pow_succ ..
     refine ⟨by omega,?_,by omega⟩
     rw [this]
     omega) (fun n _=>by
   have c0:Nat.blt s.length s.length=false:=by rw [blt_iff]; exact decide_eq_false (Nat.lt_irrefl _)
   simp only [R153x58,List.length_range,Int.toNat_natCast,c0,cond_false]) N 0 0 (Nat.zero_le _) (by rw [List.length_range]; unfold Big at hN; omega) ⟨Int.le_refl _,by simp,by omega⟩
 rw [List.drop_zero] at key
 have key':loopR (R153x58 m N) N (0,s,((0:Nat):Int))=_:=key
 rw [key',Option.bind_some]
 unfold numB
 by_cases h:s=[]
 ·subst h; rfl
 ·rw [if_neg h]
  have e:(s == ([]:List UInt8))=false:=by simpa using h
  cases foldI (stN s) 0 (List.range s.length) with
  | inl n=>simp only [Sum.elim_inl,e]; rfl
  | inr p=>rfl
theorem foldN_ok (s:List UInt8):∀ (l:List Nat) (n r:Int),foldI (stN s) n l=.inl r→∀ k∈l,badN s k=false
 | [],_,_,_,k,hk=>by cases hk
 | a :: l,n,r,h,k,hk=>by
  simp only [foldI] at h
  cases hb:badN s a with
  | true=>unfold stN at h; rw [if_pos hb] at h; cases h
  | false=>
   have e:stN s n a=.inl (10 * n+(((s.getD a 0).toNat:Int) - 48)):=by unfold stN; rw [hb]; rfl
   rw [e] at h
   rcases List.mem_cons.1 hk with rfl | hk
   ·exact hb
   ·exact foldN_ok s l _ _ h k hk
theorem foldN_val (s:List UInt8):∀ (l:List Nat) (n:Int),(∀ k∈l,badN s k=false)→foldI (stN s) n l=.inl (l.foldl (fun n k=>10 * n+(((s.getD k 0).toNat:Int) - 48)) n)
 | [],_,_=>rfl
 | a :: l,n,h=>by
  have hb:=h a List.mem_cons_self
  have e:stN s n a=.inl (10 * n+(((s.getD a 0).toNat:Int) - 48)):=by unfold stN; rw [hb]; rfl
  simp only [foldI,e,Sum.elim_inl,List.foldl_cons]
  exact foldN_val s l _ fun k hk=>h k (List.mem_cons_of_mem _ hk)
theorem val_in (s:List UInt8):∀ (l:List Nat) (n:Int) (j:Nat),(∀ k∈l,48≤(s.getD k 0).toNat∧(s.getD k 0).toNat≤57)→0≤n→n < ((10 ^ j:Nat):Int) →
  n≤(l.foldl (fun n k=>10 * n+(((s.getD k 0).toNat:Int) - 48)) n)∧(l.foldl (fun n k=>10 * n+(((s.getD k 0).toNat:Int) - 48)) n) < ((10 ^ (j+l.length):Nat):Int)
 | [],n,j,_,_,h2=>⟨Int.le_refl _,h2⟩
 | a :: l,n,j,h,h1,h2=>by
  have ha:=h a List.mem_cons_self
  have hp:(10:Nat) ^ (j+1)=10 ^ j * 10:=Nat.pow_succ ..
  have:=val_in s l (10 * n+(((s.getD a 0).toNat:Int) - 48)) (j+1) (fun k hk=>h k (List.mem_cons_of_mem _ hk)) (by omega) (by rw [hp]; omega)
  rw [show j+1+l.length=j+(a :: l).length by simp; omega] at this
  rw [List.foldl_cons]
  exact ⟨by omega,this.2⟩
theorem numB_in {s:List UInt8} {n:Int} (h:numB s=some n):1≤n∧n≤999999999∧s≠[]∧s.length≤9∧(∀ k,k < s.length→badN s k=false)∧n=(List.range s.length).foldl (fun n k=>10 * n+(((s.getD k 0).toNat:Int) - 48)) 0:=by
 unfold numB at h
 split at h
 ·cases h
 ·rename_i hne
  cases hf:foldI (stN s) 0 (List.range s.length) with
  | inr p=>rw [hf] at h; cases h
  | inl r=>
   rw [hf] at h
   simp only [Sum.elim_inl,Option.some.injEq] at h
   subst h
   have hk:∀ k,k < s.length→badN s k=false:=fun k hk=>foldN_ok s _ _ _ hf k (List.mem_range.2 hk)
   have hd:∀ k,k < s.length→¬ ((s.getD k 0).toNat < 48∨57 < (s.getD k 0).toNat∨k=9∨(k=0∧(s.getD k 0).toNat=48)):=fun k h=>of_decide_eq_false (hk k h)
   have hlen:s.length≤9:=by
    rcases Nat.lt_or_ge 9 s.length with h | h
    ·exact absurd (.inr (.inr (.inl rfl))) (hd 9 h)
    ·exact h
   have hpos:0 < s.length:=by
    cases s with
    | nil=>exact absurd rfl hne
    | cons b s=>simp
   rw [foldN_val s _ _ fun k h=>hk k (List.mem_range.1 h)] at hf
   injection hf with hf
   refine ⟨?_,?_,hne,hlen,hk,hf.symm⟩
   ·rw [← hf]
    obtain ⟨j,hj⟩:∃ j,s.length=j+1:=⟨s.length - 1,by omega⟩
    rw [hj,List.range_succ_eq_map,List.foldl_cons]
    have h0:=hd 0 (by omega)
    have:=(val_in s (List.map Nat.succ (List.range j)) (10 * 0+(((s.getD 0 0).toNat:Int) - 48)) 1 (fun k hk=>by
     obtain ⟨i,hi,rfl⟩:=List.mem_map.1 hk
     have:=hd (i+1) (by have:=List.mem_range.1 hi; omega)
     show 48≤(s.getD (i+1) 0).toNat∧(s.getD (i+1) 0).toNat≤57
     omega) (by omega) (by omega)).1
    refine Int.le_trans ?_ this
    omega
   ·rw [← hf]
    have:=(val_in s (List.range s.length) 0 0 (fun k hk=>by have:=hd k (List.mem_range.1 hk); omega) (by omega) (by simp)).2
    rw [List.length_range] at this
    have hp:=Nat.pow_le_pow_right (show 0 < 10 by omega) (show 0+s.length≤9 by omega)
    have e9:(10:Nat) ^ 9=1000000000:=rfl
    rw [e9] at hp
    omega
end Go.Proofs.YtfiopgedfcaodaaGreatDoor
