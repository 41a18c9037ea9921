/- Plain laws: integers,as the program reads them. -/
import Derived.Test.YtldcljfjjoidhaaGreatDoorBraMu
import Derived.Test.YtldcljfjjoidhaaGreatDoorSeamKB
import Derived.Test.YtldcljfjjoidhaaGreatDoorSeamKA
set_option linter.all false
open Bool renaming and_self→aac, and_true→aad, false_eq_true→aap, not_true→aaF, not_false→aaZ
open Int renaming toNat_natCast→aaf
open List renaming range→aae, length_map→aag, length_range→aah, mem_range→aa1, length_cons→aa2, length_singleton→aa6, length_pos_iff→abx, getElem_range→abD, length_append→abI, drop_zero→abN
open Nat renaming blt→aa3, ble_eq_true_of_le→aa4, le_of_ble_eq_true→aa5, pow_le_pow_right→aa7, zero_le→aby, pow_succ→abS
open Option renaming bind_some→aab, isSome_none→aa0
open Option.some renaming inj→aa8
open Sum renaming elim_inl→aai, elim_inr→aao
namespace Go.Proofs.YtldcljfjjoidhaaGreatDoor
open Go Go.Am Go.Sort
open List (map)
open Int (toNat)
open Go.IntKind (wrap)
open Go.Am.aP (fits)
set_option maxRecDepth 100000
def uf (d:List UInt8) (x:Int) (k:Nat):Int ⊕ XA:=if (d.getD k 0).toNat < 48∨57 < (d.getD k 0).toNat then .inr (x,((k+(bz d k).2:Nat):Int)) else .inl (10 * x+(((d.getD k 0).toNat:Int) - 48))
theorem q8 (s:List UInt8):∀ (l:List Nat) (n:Int),(∀ k∈l,48≤(s.getD k 0).toNat∧(s.getD k 0).toNat≤57)→foldI (uf s) n l=.inl (l.foldl (fun n k=>10 * n+(((s.getD k 0).toNat:Int) - 48)) n)
 |[],_,_=>rfl
 |a :: l,n,h=>by
  have hb:=h a List.mem_cons_self;have e:uf s n a=.inl (10 * n+(((s.getD a 0).toNat:Int) - 48)):=by unfold uf; rw [if_neg (by omega)]
  simp only [foldI,e,aai,List.foldl_cons];exact q8 s l _ fun k hk=>h k (List.mem_cons_of_mem _ hk)
theorem q9 (s:List UInt8):∀ (l:List Nat) (n:Int) (k:Nat),k∈l→((s.getD k 0).toNat < 48∨57 < (s.getD k 0).toNat)→∃ z,foldI (uf s) n l=.inr z
 |[],_,_,h,_=>by cases h
 |a :: l,n,k,h,hb=>by
  simp only [foldI];by_cases ha:(s.getD a 0).toNat < 48∨57 < (s.getD a 0).toNat
  ·unfold uf; rw [if_pos ha]; exact ⟨_,rfl⟩
  ·have e:uf s n a=.inl (10 * n+(((s.getD a 0).toNat:Int) - 48)):=by unfold uf; rw [if_neg ha]
   rw [e,aai];rcases List.mem_cons.1 h with rfl|h
   ·exact absurd hb ha
   ·exact q9 s l _ k h hb
theorem Ae {d:List UInt8} {k:Nat} (hk:k < d.length) (h:(d.getD k 0).toNat < 48∨57 < (d.getD k 0).toNat):(bz d k).1 < 48∨57 < (bz d k).1:=by
 obtain ⟨r1,r2⟩:=Ix d k hk;have e:d.getD k 0=d[k]:=by simp [hk]
 rw [e] at h;by_cases hb:d[k].toNat < 128
 ·rw [r1 hb]; exact h
 ·exact .inr (by have:=r2 (by omega); omega)
theorem Af {d:List UInt8} {k:Nat} (hk:k < d.length) (h:¬ ((d.getD k 0).toNat < 48∨57 < (d.getD k 0).toNat)):bz d k=((d.getD k 0).toNat,1):=by
 have e:d.getD k 0=d[k]:=by simp [hk]
 rw [e] at h ⊢;exact (Ix d k hk).1 (by omega)
def oP (w:List UInt8):Bool:=decide (0 < w.length∧(w.getD 0 0).toNat=45)
def nI (w:List UInt8):List UInt8:=if oP w then w.drop 1 else w
def pc (d:List UInt8) (mb:Bool):Bool:=decide (d=[]∨9 < d.length∨((d.getD 0 0).toNat=48∧(1 < d.length∨mb=true)))
open Classical in
noncomputable def iX (d:List UInt8) (mb:Bool):Option Int:=if pc d mb=true then none else if ∃ k,k < d.length∧((d.getD k 0).toNat < 48∨57 < (d.getD k 0).toNat) then none else some (if mb then - eO d else eO d)
theorem Ua {d:List UInt8} (h0:d≠[]) (h1:(d.getD 0 0).toNat≠48) (h:¬ ∃ k,k < d.length∧((d.getD k 0).toNat < 48∨57 < (d.getD k 0).toNat)):0 < eO d:=by
 have hp:=abx.2 h0;have hd:∀ k,k < d.length→48≤(d.getD k 0).toNat∧(d.getD k 0).toNat≤57:=fun k hk=>by
  have:¬ ((d.getD k 0).toNat < 48∨57 < (d.getD k 0).toNat):=fun x=>h ⟨k,hk,x⟩
  omega
 unfold eO;obtain ⟨n,hn⟩:∃ n,d.length=n+1:=⟨d.length - 1,by omega⟩;rw [hn,List.range_succ_eq_map,List.foldl_cons];have h9:=hd 0 hp;have:=(vf d ((aae n).map Nat.succ) (10 * 0+(((d.getD 0 0).toNat:Int) - 48)) 1 (fun k hk=>by
  obtain ⟨j,hj,rfl⟩:=List.mem_map.1 hk;exact hd _ (by have:=aa1.1 hj; omega)) (by omega) (by omega)).1
 omega
theorem C9 (w:List UInt8):jO w=iX (nI w) (oP w):=by
 unfold jO nI oP;by_cases hm:0 < w.length∧(w.getD 0 0).toNat=45
 ·rw [if_pos hm,decide_eq_true hm,if_pos rfl];generalize w.drop 1=d;by_cases HI:KD d
  ·have e1:lG d=none:=by unfold lG; rw [if_pos HI]
   have e2:iX d true=none:=by
    unfold iX;by_cases hb:pc d true=true
    ·rw [if_pos hb]
    ·rw [if_neg hb,if_pos];rcases HI with h|h|h|h
     ·exact absurd (decide_eq_true (.inl h)) hb
     ·exact absurd (decide_eq_true (.inr (.inl h))) hb
     ·exact absurd (decide_eq_true (.inr (.inr ⟨h.2,.inl h.1⟩))) hb
     ·exact h
   rw [e1,e2]
  ·have e1:lG d=some (eO d):=by unfold lG; rw [if_neg HI]
   have h1:d≠[]:=fun h=>HI (.inl h)
   have h2:¬ 9 < d.length:=fun h=>HI (.inr (.inl h))
   have h3:¬ ∃ k,k < d.length∧((d.getD k 0).toNat < 48∨57 < (d.getD k 0).toNat):=fun h=>HI (.inr (.inr (.inr h)))
   have DD:=abx.2 h1;rw [e1];by_cases h4:(d.getD 0 0).toNat=48
   ·have h5:¬ 1 < d.length:=fun h=>HI (.inr (.inr (.inl ⟨h,h4⟩)))
    have hl:d.length=1:=by omega
    have hv:eO d=0:=by
     unfold eO;rw [hl];show 10 * 0+(((d.getD 0 0).toNat:Int) - 48)=0;omega
    have e2:iX d true=none:=by
     unfold iX;exact if_pos (show pc d true=true from decide_eq_true (.inr (.inr ⟨h4,.inr rfl⟩)))
    rw [e2,hv];rfl
   ·have hv:=Ua h1 h4 h3;have e2:iX d true=some (- eO d):=by
     unfold iX;have hb:¬ pc d true=true:=fun h=>by
      rcases of_decide_eq_true h with h|h|h
      ·exact h1 h
      ·exact h2 h
      ·exact h4 h.1
     rw [if_neg hb,if_neg h3];rfl
    rw [e2];show (if eO d > 0 then some (- eO d) else none)=some (- eO d);rw [if_pos hv]
 ·rw [if_neg hm,decide_eq_false hm,if_neg (by decide)];unfold lG iX pc KD;by_cases h3:∃ k,k < w.length∧((w.getD k 0).toNat < 48∨57 < (w.getD k 0).toNat)
  ·rw [if_pos (.inr (.inr (.inr h3))),if_pos h3];simp
  ·rw [if_neg h3];by_cases hb:w=[]∨w.length > 9∨(1 < w.length∧(w.getD 0 0).toNat=48)
   ·rw [if_pos (by rcases hb with h | h | h; exact .inl h; exact .inr (.inl h); exact .inr (.inr (.inl h))),if_pos];rw [decide_eq_true_eq];rcases hb with h|h|h
    ·exact .inl h
    ·exact .inr (.inl h)
    ·exact .inr (.inr ⟨h.2,.inl h.1⟩)
   ·rw [if_neg (by rintro (h | h | h | h); exact hb (.inl h); exact hb (.inr (.inl h)); exact hb (.inr (.inr h)); exact h3 h),if_neg]
    ·rfl
    ·rw [decide_eq_true_eq];rintro (h|h|⟨h,h'⟩)
     ·exact hb (.inl h)
     ·exact hb (.inr (.inl h))
     ·rcases h' with h'|h'
      ·exact hb (.inr (.inr ⟨h',h⟩))
      ·cases h'
section
variable {m:Int} {N:Nat} (hN:eE N)
include hN
theorem ahE (v1:(List UInt8) × (List bQ) × Int × (List (dm × Bool)) × Unit × Int × Int × Int × Bool × Bool × Int) (M:List (dm × Bool)) (n0:Int) (q:bQ) (c2:Int) (c3:Bool) (c4:Bool) (c5:Int) (d:List UInt8) (hd:d.length≤9) :
  ay (iF m N v1) N (M,(),n0,q.1,q.2.1,q.2.2.1,q.2.2.2.1,q.2.2.2.2,0,c2,c3,c4,c5,(),(),(),(),(),(),(),d,((0:Nat):Int)) =
   some (Sum.elim (fun x=>.inl (M,(),n0,q.1,q.2.1,q.2.2.1,q.2.2.2.1,q.2.2.2.2,x,c2,c3,c4,c5,(),(),(),(),(),(),(),d,((d.length:Nat):Int))) (fun z=>.inr (false,M,(),n0,q.1,q.2.1,q.2.2.1,q.2.2.2.1,q.2.2.2.2,z.1,c2,c3,c4,c5,(),(),(),(),(),(),(),d,z.2)) (foldI (uf d) 0 (aae d.length))):=by
 have key:=fh (rd:=iF m N v1) (aae d.length) (fun (x:Int) k=>(M,(),n0,q.1,q.2.1,q.2.2.1,q.2.2.2.1,q.2.2.2.2,x,c2,c3,c4,c5,(),(),(),(),(),(),(),d,(k:Int))) (uf d) (fun x=>.inl (M,(),n0,q.1,q.2.1,q.2.2.1,q.2.2.2.1,q.2.2.2.2,x,c2,c3,c4,c5,(),(),(),(),(),(),(),d,((d.length:Nat):Int))) (fun z=>.inr (false,M,(),n0,q.1,q.2.1,q.2.2.1,q.2.2.2.1,q.2.2.2.2,z.1,c2,c3,c4,c5,(),(),(),(),(),(),(),d,z.2)) (fun x k=>0≤x∧x < ((10 ^ k:Nat):Int)∧k≤9)
  (fun x k hk hP=>by
   obtain ⟨p1,p2,p3⟩:=hP;rw [aah] at hk;rw [abD];have hb:aa3 k d.length=true:=aa4 hk;by_cases hx:(d.getD k 0).toNat < 48∨57 < (d.getD k 0).toNat
   ·constructor
    ·have rb:=Ae hk hx;unfold uf;rw [if_pos hx];simp only [iF,aaf,hb,Sum.map_inr];by_cases q1:(bz d k).1 < 48
     ·have d1:decide ((((bz d k).1:Nat):Int) < 48)=true:=decide_eq_true (by omega);simp only [d1,au.cells,au.bg,av,aw,aac,aad,cond_true,cond_false,aab,eq_self,decide_true,aaf]
     ·have d1:decide ((((bz d k).1:Nat):Int) < 48)=false:=decide_eq_false (by omega);have lD:decide ((((bz d k).1:Nat):Int) > 57)=true:=decide_eq_true (by omega);simp only [d1,lD,au.cells,au.bg,av,aw,aac,aad,cond_true,cond_false,aab,eq_self,decide_true,aaf]
    ·intro s' h;unfold uf at h;rw [if_pos hx] at h;cases h
   ·have hp8:=xx (show k≤8 by omega);have es:uf d x k=.inl (10 * x+(((d.getD k 0).toNat:Int) - 48)):=by unfold uf; rw [if_neg hx]
    have rd:=Af hk hx;rw [es];constructor
    ·have w1:wrap .i32 ((((d.getD k 0).toNat:Nat):Int) - 48)=(((d.getD k 0).toNat:Nat):Int) - 48:=IntWalk.i32_in _ (by omega);have w2:wrap .i64 ((((d.getD k 0).toNat:Nat):Int) - 48)=(((d.getD k 0).toNat:Nat):Int) - 48:=fA (by omega);have w3:wrap .i64 (10 * x)=10 * x:=fA (by omega);have w4:wrap .i64 (10 * x+((((d.getD k 0).toNat:Nat):Int) - 48))=10 * x+((((d.getD k 0).toNat:Nat):Int) - 48):=fA (by omega);have d1:decide ((((d.getD k 0).toNat:Nat):Int) < 48)=false:=decide_eq_false (by omega);have lD:decide ((((d.getD k 0).toNat:Nat):Int) > 57)=false:=decide_eq_false (by omega);simp only [iF,aaf,hb,rd,Sum.map_inl,d1,lD,au.cells,au.bg,av,aw,aac,aad,cond_true,cond_false,aab,eq_self,decide_true,w1,w2,w3,w4]
    ·intro s' h;injection h with h;subst h;have:(10:Nat) ^ (k+1)=10 ^ k * 10:=abS ..;refine ⟨by omega,?_,by omega⟩;rw [this];omega) (fun x _=>by
   have hb:aa3 d.length d.length=false:=by
    cases hb:aa3 d.length d.length with
    |false=>rfl
    |true=>have:=aa5 hb; omega
   simp only [iF,aah,aaf,hb,au.cells,au.bg,av,aw,aac,aad,cond_true,cond_false,aab,eq_self,decide_true]) N 0 0 (aby _) (by rw [aah]; unfold eE at hN; omega) ⟨Int.le_refl _,by simp,by omega⟩
 rw [abN] at key;exact key
theorem ahF (v1:(List UInt8) × (List bQ) × Int × (List (dm × Bool)) × Unit × Int × Int × Int × Bool × Bool × Int) (M:List (dm × Bool)) (n0:Int) (q:bQ) (c1:Int) (c3:Bool) (c4:Bool) (c5:Int) (d:List UInt8) (hd:d.length≤9) :
  ay (gw m N v1) N (M,(),n0,q.1,q.2.1,q.2.2.1,q.2.2.2.1,q.2.2.2.2,c1,0,c3,c4,c5,(),(),(),(),(),(),(),d,((0:Nat):Int)) =
   some (Sum.elim (fun x=>.inl (M,(),n0,q.1,q.2.1,q.2.2.1,q.2.2.2.1,q.2.2.2.2,c1,x,c3,c4,c5,(),(),(),(),(),(),(),d,((d.length:Nat):Int))) (fun z=>.inr (false,M,(),n0,q.1,q.2.1,q.2.2.1,q.2.2.2.1,q.2.2.2.2,c1,z.1,c3,c4,c5,(),(),(),(),(),(),(),d,z.2)) (foldI (uf d) 0 (aae d.length))):=by
 have key:=fh (rd:=gw m N v1) (aae d.length) (fun (x:Int) k=>(M,(),n0,q.1,q.2.1,q.2.2.1,q.2.2.2.1,q.2.2.2.2,c1,x,c3,c4,c5,(),(),(),(),(),(),(),d,(k:Int))) (uf d) (fun x=>.inl (M,(),n0,q.1,q.2.1,q.2.2.1,q.2.2.2.1,q.2.2.2.2,c1,x,c3,c4,c5,(),(),(),(),(),(),(),d,((d.length:Nat):Int))) (fun z=>.inr (false,M,(),n0,q.1,q.2.1,q.2.2.1,q.2.2.2.1,q.2.2.2.2,c1,z.1,c3,c4,c5,(),(),(),(),(),(),(),d,z.2)) (fun x k=>0≤x∧x < ((10 ^ k:Nat):Int)∧k≤9)
  (fun x k hk hP=>by
   obtain ⟨p1,p2,p3⟩:=hP;rw [aah] at hk;rw [abD];have hb:aa3 k d.length=true:=aa4 hk;by_cases hx:(d.getD k 0).toNat < 48∨57 < (d.getD k 0).toNat
   ·constructor
    ·have rb:=Ae hk hx;unfold uf;rw [if_pos hx];simp only [gw,aaf,hb,Sum.map_inr];by_cases q1:(bz d k).1 < 48
     ·have d1:decide ((((bz d k).1:Nat):Int) < 48)=true:=decide_eq_true (by omega);simp only [d1,au.cells,au.bg,av,aw,aac,aad,cond_true,cond_false,aab,eq_self,decide_true,aaf]
     ·have d1:decide ((((bz d k).1:Nat):Int) < 48)=false:=decide_eq_false (by omega);have lD:decide ((((bz d k).1:Nat):Int) > 57)=true:=decide_eq_true (by omega);simp only [d1,lD,au.cells,au.bg,av,aw,aac,aad,cond_true,cond_false,aab,eq_self,decide_true,aaf]
    ·intro s' h;unfold uf at h;rw [if_pos hx] at h;cases h
   ·have hp8:=xx (show k≤8 by omega);have es:uf d x k=.inl (10 * x+(((d.getD k 0).toNat:Int) - 48)):=by unfold uf; rw [if_neg hx]
    have rd:=Af hk hx;rw [es];constructor
    ·have w1:wrap .i32 ((((d.getD k 0).toNat:Nat):Int) - 48)=(((d.getD k 0).toNat:Nat):Int) - 48:=IntWalk.i32_in _ (by omega);have w2:wrap .i64 ((((d.getD k 0).toNat:Nat):Int) - 48)=(((d.getD k 0).toNat:Nat):Int) - 48:=fA (by omega);have w3:wrap .i64 (10 * x)=10 * x:=fA (by omega);have w4:wrap .i64 (10 * x+((((d.getD k 0).toNat:Nat):Int) - 48))=10 * x+((((d.getD k 0).toNat:Nat):Int) - 48):=fA (by omega);have d1:decide ((((d.getD k 0).toNat:Nat):Int) < 48)=false:=decide_eq_false (by omega);have lD:decide ((((d.getD k 0).toNat:Nat):Int) > 57)=false:=decide_eq_false (by omega);simp only [gw,aaf,hb,rd,Sum.map_inl,d1,lD,au.cells,au.bg,av,aw,aac,aad,cond_true,cond_false,aab,eq_self,decide_true,w1,w2,w3,w4]
    ·intro s' h;injection h with h;subst h;have:(10:Nat) ^ (k+1)=10 ^ k * 10:=abS ..;refine ⟨by omega,?_,by omega⟩;rw [this];omega) (fun x _=>by
   have hb:aa3 d.length d.length=false:=by
    cases hb:aa3 d.length d.length with
    |false=>rfl
    |true=>have:=aa5 hb; omega
   simp only [gw,aah,aaf,hb,au.cells,au.bg,av,aw,aac,aad,cond_true,cond_false,aab,eq_self,decide_true]) N 0 0 (aby _) (by rw [aah]; unfold eE at hN; omega) ⟨Int.le_refl _,by simp,by omega⟩
 rw [abN] at key;exact key
theorem ahG (v1:(List UInt8) × (List bQ) × Int × (List (dm × Bool)) × Unit × Int × Int × Int × Bool × Bool × Int) (M:List (dm × Bool)) (n0:Int) (q:bQ) (c1:Int) (c2:Int) (c3:Bool) (c4:Bool) (d:List UInt8) (hd:d.length≤9) :
  ay (fB m N v1) N (M,(),n0,q.1,q.2.1,q.2.2.1,q.2.2.2.1,q.2.2.2.2,c1,c2,c3,c4,0,(),(),(),(),(),(),(),d,((0:Nat):Int)) =
   some (Sum.elim (fun x=>.inl (M,(),n0,q.1,q.2.1,q.2.2.1,q.2.2.2.1,q.2.2.2.2,c1,c2,c3,c4,x,(),(),(),(),(),(),(),d,((d.length:Nat):Int))) (fun z=>.inr (false,M,(),n0,q.1,q.2.1,q.2.2.1,q.2.2.2.1,q.2.2.2.2,c1,c2,c3,c4,z.1,(),(),(),(),(),(),(),d,z.2)) (foldI (uf d) 0 (aae d.length))):=by
 have key:=fh (rd:=fB m N v1) (aae d.length) (fun (x:Int) k=>(M,(),n0,q.1,q.2.1,q.2.2.1,q.2.2.2.1,q.2.2.2.2,c1,c2,c3,c4,x,(),(),(),(),(),(),(),d,(k:Int))) (uf d) (fun x=>.inl (M,(),n0,q.1,q.2.1,q.2.2.1,q.2.2.2.1,q.2.2.2.2,c1,c2,c3,c4,x,(),(),(),(),(),(),(),d,((d.length:Nat):Int))) (fun z=>.inr (false,M,(),n0,q.1,q.2.1,q.2.2.1,q.2.2.2.1,q.2.2.2.2,c1,c2,c3,c4,z.1,(),(),(),(),(),(),(),d,z.2)) (fun x k=>0≤x∧x < ((10 ^ k:Nat):Int)∧k≤9)
  (fun x k hk hP=>by
   obtain ⟨p1,p2,p3⟩:=hP;rw [aah] at hk;rw [abD];have hb:aa3 k d.length=true:=aa4 hk;by_cases hx:(d.getD k 0).toNat < 48∨57 < (d.getD k 0).toNat
   ·constructor
    ·have rb:=Ae hk hx;unfold uf;rw [if_pos hx];simp only [fB,aaf,hb,Sum.map_inr];by_cases q1:(bz d k).1 < 48
     ·have d1:decide ((((bz d k).1:Nat):Int) < 48)=true:=decide_eq_true (by omega);simp only [d1,au.cells,au.bg,av,aw,aac,aad,cond_true,cond_false,aab,eq_self,decide_true,aaf]
     ·have d1:decide ((((bz d k).1:Nat):Int) < 48)=false:=decide_eq_false (by omega);have lD:decide ((((bz d k).1:Nat):Int) > 57)=true:=decide_eq_true (by omega);simp only [d1,lD,au.cells,au.bg,av,aw,aac,aad,cond_true,cond_false,aab,eq_self,decide_true,aaf]
    ·intro s' h;unfold uf at h;rw [if_pos hx] at h;cases h
   ·have hp8:=xx (show k≤8 by omega);have es:uf d x k=.inl (10 * x+(((d.getD k 0).toNat:Int) - 48)):=by unfold uf; rw [if_neg hx]
    have rd:=Af hk hx;rw [es];constructor
    ·have w1:wrap .i32 ((((d.getD k 0).toNat:Nat):Int) - 48)=(((d.getD k 0).toNat:Nat):Int) - 48:=IntWalk.i32_in _ (by omega);have w2:wrap .i64 ((((d.getD k 0).toNat:Nat):Int) - 48)=(((d.getD k 0).toNat:Nat):Int) - 48:=fA (by omega);have w3:wrap .i64 (10 * x)=10 * x:=fA (by omega);have w4:wrap .i64 (10 * x+((((d.getD k 0).toNat:Nat):Int) - 48))=10 * x+((((d.getD k 0).toNat:Nat):Int) - 48):=fA (by omega);have d1:decide ((((d.getD k 0).toNat:Nat):Int) < 48)=false:=decide_eq_false (by omega);have lD:decide ((((d.getD k 0).toNat:Nat):Int) > 57)=false:=decide_eq_false (by omega);simp only [fB,aaf,hb,rd,Sum.map_inl,d1,lD,au.cells,au.bg,av,aw,aac,aad,cond_true,cond_false,aab,eq_self,decide_true,w1,w2,w3,w4]
    ·intro s' h;injection h with h;subst h;have:(10:Nat) ^ (k+1)=10 ^ k * 10:=abS ..;refine ⟨by omega,?_,by omega⟩;rw [this];omega) (fun x _=>by
   have hb:aa3 d.length d.length=false:=by
    cases hb:aa3 d.length d.length with
    |false=>rfl
    |true=>have:=aa5 hb; omega
   simp only [fB,aah,aaf,hb,au.cells,au.bg,av,aw,aac,aad,cond_true,cond_false,aab,eq_self,decide_true]) N 0 0 (aby _) (by rw [aah]; unfold eE at hN; omega) ⟨Int.le_refl _,by simp,by omega⟩
 rw [abN] at key;exact key
end
end Go.Proofs.YtldcljfjjoidhaaGreatDoor
namespace Go.Proofs.YtldcljfjjoidhaaGreatDoor
open Go Go.Am Go.Sort
open List (map)
open Int (toNat)
open Go.IntKind (wrap)
open Go.Am.aP (fits)
set_option maxRecDepth 100000
abbrev LB:=List UInt8
theorem Da (w:List UInt8) (h:0 < w.length):(bC 0 (toNat (((([45]:List UInt8)).length:Nat):Int)) w == ([45]:List UInt8))=oP w:=by
 cases w with
 |nil=>cases h
 |cons b t=>
  show ((b :: List.drop 0 (List.take 0 t):List UInt8) == [45])=decide (0 < t.length+1∧b.toNat=45);have e:(List.drop 0 (List.take 0 t):List UInt8)=[]:=rfl;rw [e,Bool.eq_iff_iff,beq_iff_eq,decide_eq_true_eq];constructor
  ·intro h;injection h with h1 h2;exact ⟨by omega,by rw [h1]; rfl⟩
  ·intro h;rw [UInt8.toNat.inj (show b.toNat=(45:UInt8).toNat from h.2)]
theorem Ag (w:List UInt8):bC (toNat (((([45]:List UInt8)).length:Nat):Int)) w.length w=w.drop 1:=by
 unfold bC;rw [List.take_length];rfl
theorem YM (d:List UInt8) (mb:Bool) (h0:d≠[]) (h9:¬ d.length > 9):pc d mb=(bif ((((d.getD 0 0).toNat:Nat):Int) == 48) then (bif decide (((d.length:Nat):Int) > 1) then true else mb) else false):=by
 unfold pc;by_cases h4:(d.getD 0 0).toNat=48
 ·have e:((((d.getD 0 0).toNat:Nat):Int) == 48)=true:=by rw [h4]; rfl
  rw [e,cond_true];by_cases h1:1 < d.length
  ·rw [decide_eq_true (show ((d.length:Nat):Int) > 1 by omega),cond_true];exact decide_eq_true (.inr (.inr ⟨h4,.inl h1⟩))
  ·rw [decide_eq_false (show ¬ ((d.length:Nat):Int) > 1 by omega),cond_false];cases mb
   ·exact decide_eq_false (by rintro (h | h | ⟨_,h | h⟩); exact h0 h; exact h9 h; exact h1 h; cases h)
   ·exact decide_eq_true (.inr (.inr ⟨h4,.inr rfl⟩))
 ·have e:((((d.getD 0 0).toNat:Nat):Int) == 48)=false:=beq_false_of_ne (by omega);rw [e,cond_false];exact decide_eq_false (by rintro (h | h | ⟨h,_⟩); exact h0 h; exact h9 h; exact h4 h)
theorem YN (v1:(List UInt8) × (List bQ) × Int × (List (dm × Bool)) × Unit × Int × Int × Int × Bool × Bool × Int) (d:List UInt8) (mb:Bool) (M:List (dm × Bool)) (n0:Int) (q:bQ) (c1 c2:Int) (c3 c4:Bool) (c5:Int) :
  lm (d,mb,M,(),n0,q.1,q.2.1,q.2.2.1,q.2.2.2.1,q.2.2.2.2,c1,c2,c3,c4,c5,(),(),(),(),(),(),()) v1=some (pc d mb,M,(),n0,q.1,q.2.1,q.2.2.1,q.2.2.2.1,q.2.2.2.2,c1,c2,c3,c4,c5,(),(),(),(),(),(),()):=by
 by_cases h0:d=[]
 ·subst h0;simp only [lm,nw,beq_self_eq_true,au.cells,au.bg,av,aw,aac,aad,cond_true,cond_false,aab,eq_self,decide_true];rfl
 ·have e0:(d == ([]:List UInt8))=false:=by rw [Fl,decide_eq_false h0]
  by_cases h9:d.length > 9
  ·have e9:decide (((d.length:Nat):Int) > 9)=true:=decide_eq_true (by omega);have eb:pc d mb=true:=decide_eq_true (.inr (.inl h9));simp only [lm,nw,e0,e9,eb,au.cells,au.bg,av,aw,aac,aad,cond_true,cond_false,aab,eq_self,decide_true]
  ·have e9:decide (((d.length:Nat):Int) > 9)=false:=decide_eq_false (by omega);have i0:decide ((0:Int)≤0∧0 < ((d.length:Nat):Int))=true:=decide_eq_true (by have:=abx.2 h0; omega);have ez:toNat 0=0:=rfl;rw [YM d mb h0 h9];simp only [lm,nw,e0,e9,i0,ez,au.cells,au.bg,av,aw,aac,aad,cond_true,cond_false,aab,eq_self,decide_true];cases ((((d.getD 0 0).toNat:Nat):Int) == 48)
   ·simp only [au.cells,au.bg,av,aw,aac,aad,cond_true,cond_false,aab,eq_self,decide_true]
   ·cases decide (((d.length:Nat):Int) > 1)
    ·simp only [au.cells,au.bg,av,aw,aac,aad,cond_true,cond_false,aab,eq_self,decide_true]
    ·simp only [au.cells,au.bg,av,aw,aac,aad,cond_true,cond_false,aab,eq_self,decide_true]
theorem acG (w0 w1 w2 w3 w4 w5:LB) (s0:LB) (out:List bQ) (i:Int) (M:List (dm × Bool)) (n0:Int) (q:bQ) :
  mi [w0,w1,w2,w3,w4,w5] (s0,out,i,M,(),n0,q.1,q.2.1,q.2.2.1,q.2.2.2.1,q.2.2.2.2)=some (nI w1,oP w1,M,(),n0,q.1,q.2.1,q.2.2.1,q.2.2.2.1,q.2.2.2.2,0,0,false,false,0,(),(),(),(),(),(),()):=by
 have a1:fE (ah (map iS [w0,w1,w2,w3,w4,w5]) 1)=w1:=rfl;have a2:fE (ah (map iS [w0,w1,w2,w3,w4,w5]) (toNat 1))=w1:=rfl;by_cases h0:0 < w1.length
 ·have ge:decide (((w1.length:Nat):Int)≥(((([45]:List UInt8)).length:Nat):Int))=true:=decide_eq_true (by show (1:Int)≤_; omega);have rg:decide ((0:Int)≤(((([45]:List UInt8)).length:Nat):Int)∧(((([45]:List UInt8)).length:Nat):Int)≤((w1.length:Nat):Int))=true:=decide_eq_true ⟨by decide,by show (1:Int)≤_; omega⟩;simp only [mi,a1,a2,ge,rg,Da w1 h0,Ag,au.cells,au.bg,av,aw,aac,aad,cond_true,cond_false,aab,eq_self,decide_true];cases hm:oP w1
  ·simp only [nI,hm,aaZ,aap,if_false,au.cells,au.bg,av,aw,aac,aad,cond_true,cond_false,aab,eq_self,decide_true]
  ·simp only [nI,hm,aaF,if_true,au.cells,au.bg,av,aw,aac,aad,cond_true,cond_false,aab,eq_self,decide_true]
 ·have ge:decide (((w1.length:Nat):Int)≥(((([45]:List UInt8)).length:Nat):Int))=false:=decide_eq_false (by show ¬ (1:Int)≤_; omega);have hm:oP w1=false:=decide_eq_false (fun h=>h0 h.1);simp only [mi,fZ,a1,a2,ge,nI,hm,aaZ,aap,if_false,au.cells,au.bg,av,aw,aac,aad,cond_true,cond_false,aab,eq_self,decide_true]
theorem acH (w0 w1 w2 w3 w4 w5:LB) (v1:(List UInt8) × (List bQ) × Int × (List (dm × Bool)) × Unit × Int × Int × Int × Bool × Bool × Int) (b:Bool) (M:List (dm × Bool)) (n0:Int) (q:bQ) (c1 c2:Int) (c3 c4:Bool) (c5:Int) :
  mj [w0,w1,w2,w3,w4,w5] (b,M,(),n0,q.1,q.2.1,q.2.2.1,q.2.2.2.1,q.2.2.2.2,c1,c2,c3,c4,c5,(),(),(),(),(),(),()) v1=some (nI w2,oP w2,M,(),n0,q.1,q.2.1,q.2.2.1,q.2.2.2.1,q.2.2.2.2,c1,c2,c3,c4,c5,(),(),(),(),(),(),()):=by
 have a1:fE (ah (map iS [w0,w1,w2,w3,w4,w5]) 2)=w2:=rfl;have a2:fE (ah (map iS [w0,w1,w2,w3,w4,w5]) (toNat 2))=w2:=rfl;by_cases h0:0 < w2.length
 ·have ge:decide (((w2.length:Nat):Int)≥(((([45]:List UInt8)).length:Nat):Int))=true:=decide_eq_true (by show (1:Int)≤_; omega);have rg:decide ((0:Int)≤(((([45]:List UInt8)).length:Nat):Int)∧(((([45]:List UInt8)).length:Nat):Int)≤((w2.length:Nat):Int))=true:=decide_eq_true ⟨by decide,by show (1:Int)≤_; omega⟩;simp only [mj,a1,a2,ge,rg,Da w2 h0,Ag,au.cells,au.bg,av,aw,aac,aad,cond_true,cond_false,aab,eq_self,decide_true];cases hm:oP w2
  ·simp only [nI,hm,aaZ,aap,if_false,au.cells,au.bg,av,aw,aac,aad,cond_true,cond_false,aab,eq_self,decide_true]
  ·simp only [nI,hm,aaF,if_true,au.cells,au.bg,av,aw,aac,aad,cond_true,cond_false,aab,eq_self,decide_true]
 ·have ge:decide (((w2.length:Nat):Int)≥(((([45]:List UInt8)).length:Nat):Int))=false:=decide_eq_false (by show ¬ (1:Int)≤_; omega);have hm:oP w2=false:=decide_eq_false (fun h=>h0 h.1);simp only [mj,fZ,a1,a2,ge,nI,hm,aaZ,aap,if_false,au.cells,au.bg,av,aw,aac,aad,cond_true,cond_false,aab,eq_self,decide_true]
theorem acI (w0 w1 w2 w3 w4 w5:LB) (v1:(List UInt8) × (List bQ) × Int × (List (dm × Bool)) × Unit × Int × Int × Int × Bool × Bool × Int) (b:Bool) (M:List (dm × Bool)) (n0:Int) (q:bQ) (c1 c2:Int) (c3 c4:Bool) (c5:Int) :
  mo [w0,w1,w2,w3,w4,w5] (b,M,(),n0,q.1,q.2.1,q.2.2.1,q.2.2.2.1,q.2.2.2.2,c1,c2,c3,c4,c5,(),(),(),(),(),(),()) v1=some (nI w5,oP w5,M,(),n0,q.1,q.2.1,q.2.2.1,q.2.2.2.1,q.2.2.2.2,c1,c2,c3,c4,c5,(),(),(),(),(),(),()):=by
 have a1:fE (ah (map iS [w0,w1,w2,w3,w4,w5]) 5)=w5:=rfl;have a2:fE (ah (map iS [w0,w1,w2,w3,w4,w5]) (toNat 5))=w5:=rfl;by_cases h0:0 < w5.length
 ·have ge:decide (((w5.length:Nat):Int)≥(((([45]:List UInt8)).length:Nat):Int))=true:=decide_eq_true (by show (1:Int)≤_; omega);have rg:decide ((0:Int)≤(((([45]:List UInt8)).length:Nat):Int)∧(((([45]:List UInt8)).length:Nat):Int)≤((w5.length:Nat):Int))=true:=decide_eq_true ⟨by decide,by show (1:Int)≤_; omega⟩;simp only [mo,a1,a2,ge,rg,Da w5 h0,Ag,au.cells,au.bg,av,aw,aac,aad,cond_true,cond_false,aab,eq_self,decide_true];cases hm:oP w5
  ·simp only [nI,hm,aaZ,aap,if_false,au.cells,au.bg,av,aw,aac,aad,cond_true,cond_false,aab,eq_self,decide_true]
  ·simp only [nI,hm,aaF,if_true,au.cells,au.bg,av,aw,aac,aad,cond_true,cond_false,aab,eq_self,decide_true]
 ·have ge:decide (((w5.length:Nat):Int)≥(((([45]:List UInt8)).length:Nat):Int))=false:=decide_eq_false (by show ¬ (1:Int)≤_; omega);have hm:oP w5=false:=decide_eq_false (fun h=>h0 h.1);simp only [mo,fZ,a1,a2,ge,nI,hm,aaZ,aap,if_false,au.cells,au.bg,av,aw,aac,aad,cond_true,cond_false,aab,eq_self,decide_true]
section
variable {m:Int} {N:Nat} (hN:eE N)
include hN
theorem acJ (w0 w1 w2 w3 w4 w5:LB) (s0:LB) (out:List bQ) (i:Int) (M:List (dm × Bool)) (n0:Int) (q:bQ) :
  ∃ x,qu m N [w0,w1,w2,w3,w4,w5] (s0,out,i,M,(),n0,q.1,q.2.1,q.2.2.1,q.2.2.2.1,q.2.2.2.2)=some ((jO w1).isSome,M,(),n0,q.1,q.2.1,q.2.2.1,q.2.2.2.1,q.2.2.2.2,x,0,false,false,0,(),(),(),(),(),(),())∧∀ n,jO w1=some n→x=n:=by
 have p:=acG w0 w1 w2 w3 w4 w5 s0 out i M n0 q;rw [C9];unfold qu;rw [p,aab];have bd:=YN (s0,out,i,M,(),n0,q.1,q.2.1,q.2.2.1,q.2.2.2.1,q.2.2.2.2) (nI w1) (oP w1) M n0 q 0 0 false false 0;rw [bd,aab];clear bd p;generalize nI w1=d;generalize oP w1=mb;by_cases hb:pc d mb=true
 ·refine ⟨0,?_,?_⟩
  ·have e:iX d mb=none:=by unfold iX; rw [if_pos hb]
   simp only [hb,e,fZ,aa0,au.cells,au.bg,av,aw,aac,aad,cond_true,cond_false,aab,eq_self,decide_true]
  ·intro n h;unfold iX at h;rw [if_pos hb] at h;cases h
 ·have gJ:pc d mb=false:=by simpa using hb
  have hd:d.length≤9:=by
   unfold pc at gJ;have:=of_decide_eq_false gJ;have:¬ 9 < d.length:=fun h=>this (.inr (.inl h))
   omega
  have lp:=ahE (m:=m) hN (s0,out,i,M,(),n0,q.1,q.2.1,q.2.2.1,q.2.2.2.1,q.2.2.2.2) M n0 q 0 false false 0 d hd;by_cases hx:∃ k,k < d.length∧((d.getD k 0).toNat < 48∨57 < (d.getD k 0).toNat)
  ·have e:iX d mb=none:=by unfold iX; rw [if_neg hb,if_pos hx]
   obtain ⟨k,hk,oW⟩:=hx;obtain ⟨z,hz⟩:=q9 d (aae d.length) 0 k (aa1.2 hk) oW;rw [hz,aao] at lp;refine ⟨z.1,?_,?_⟩
   ·simp only [gJ,e,lp,aao,aa0,au.cells,au.bg,av,aw,aac,aad,cond_true,cond_false,aab,eq_self,decide_true]
   ·intro n h;rw [e] at h;cases h
  ·have Fo:∀ k∈aae d.length,48≤(d.getD k 0).toNat∧(d.getD k 0).toNat≤57:=fun k hk=>by
    have:¬ ((d.getD k 0).toNat < 48∨57 < (d.getD k 0).toNat):=fun x=>hx ⟨k,aa1.1 hk,x⟩
    omega
   have e:iX d mb=some (if mb then - eO d else eO d):=by unfold iX; rw [if_neg hb,if_neg hx]
   have hv:=q8 d (aae d.length) 0 Fo;have hv:foldI (uf d) 0 (aae d.length)=.inl (eO d):=hv;rw [hv,aai] at lp;have bn:=vf d (aae d.length) 0 0 Fo (by omega) (by simp);have bn:(0:Int)≤eO d∧eO d < ((10 ^ (0+(aae d.length).length):Nat):Int):=bn;have hp:10 ^ (0+(aae d.length).length)≤10 ^ 9:=aa7 (by omega) (by rw [aah]; omega);have e9:10 ^ 9=1000000000:=rfl;have wn:wrap .i64 (0 - eO d)=- eO d:=by rw [fA (by omega)]; omega
   refine ⟨if mb then - eO d else eO d,?_,?_⟩
   ·cases mb
    ·simp only [gJ,e,lp,aai,iT,Option.isSome_some,aap,if_false,au.cells,au.bg,av,aw,aac,aad,cond_true,cond_false,aab,eq_self,decide_true]
    ·simp only [gJ,e,lp,aai,iT,Option.isSome_some,if_true,wn,au.cells,au.bg,av,aw,aac,aad,cond_true,cond_false,aab,eq_self,decide_true]
   ·intro n h;rw [e] at h;exact aa8 h
theorem acK (w0 w1 w2 w3 w4 w5:LB) (v1:(List UInt8) × (List bQ) × Int × (List (dm × Bool)) × Unit × Int × Int × Int × Bool × Bool × Int) (b:Bool) (M:List (dm × Bool)) (n0:Int) (q:bQ) (c1 c2:Int) (c3 c4:Bool) (c5:Int) :
  ∃ x,qv m N [w0,w1,w2,w3,w4,w5] (b,M,(),n0,q.1,q.2.1,q.2.2.1,q.2.2.2.1,q.2.2.2.2,c1,c2,c3,c4,c5,(),(),(),(),(),(),()) v1=some ((jO w2).isSome,M,(),n0,q.1,q.2.1,q.2.2.1,q.2.2.2.1,q.2.2.2.2,c1,x,c3,c4,c5,(),(),(),(),(),(),())∧∀ n,jO w2=some n→x=n:=by
 have p:=acH w0 w1 w2 w3 w4 w5 v1 b M n0 q c1 c2 c3 c4 c5;rw [C9];unfold qv;rw [p,aab];have bd:=YN v1 (nI w2) (oP w2) M n0 q c1 c2 c3 c4 c5;rw [bd,aab];clear bd p;generalize nI w2=d;generalize oP w2=mb;by_cases hb:pc d mb=true
 ·refine ⟨c2,?_,?_⟩
  ·have e:iX d mb=none:=by unfold iX; rw [if_pos hb]
   simp only [hb,e,fZ,aa0,au.cells,au.bg,av,aw,aac,aad,cond_true,cond_false,aab,eq_self,decide_true]
  ·intro n h;unfold iX at h;rw [if_pos hb] at h;cases h
 ·have gJ:pc d mb=false:=by simpa using hb
  have hd:d.length≤9:=by
   unfold pc at gJ;have:=of_decide_eq_false gJ;have:¬ 9 < d.length:=fun h=>this (.inr (.inl h))
   omega
  have lp:=ahF (m:=m) hN v1 M n0 q c1 c3 c4 c5 d hd;by_cases hx:∃ k,k < d.length∧((d.getD k 0).toNat < 48∨57 < (d.getD k 0).toNat)
  ·have e:iX d mb=none:=by unfold iX; rw [if_neg hb,if_pos hx]
   obtain ⟨k,hk,oW⟩:=hx;obtain ⟨z,hz⟩:=q9 d (aae d.length) 0 k (aa1.2 hk) oW;rw [hz,aao] at lp;refine ⟨z.1,?_,?_⟩
   ·simp only [gJ,e,lp,aao,aa0,au.cells,au.bg,av,aw,aac,aad,cond_true,cond_false,aab,eq_self,decide_true]
   ·intro n h;rw [e] at h;cases h
  ·have Fo:∀ k∈aae d.length,48≤(d.getD k 0).toNat∧(d.getD k 0).toNat≤57:=fun k hk=>by
    have:¬ ((d.getD k 0).toNat < 48∨57 < (d.getD k 0).toNat):=fun x=>hx ⟨k,aa1.1 hk,x⟩
    omega
   have e:iX d mb=some (if mb then - eO d else eO d):=by unfold iX; rw [if_neg hb,if_neg hx]
   have hv:=q8 d (aae d.length) 0 Fo;have hv:foldI (uf d) 0 (aae d.length)=.inl (eO d):=hv;rw [hv,aai] at lp;have bn:=vf d (aae d.length) 0 0 Fo (by omega) (by simp);have bn:(0:Int)≤eO d∧eO d < ((10 ^ (0+(aae d.length).length):Nat):Int):=bn;have hp:10 ^ (0+(aae d.length).length)≤10 ^ 9:=aa7 (by omega) (by rw [aah]; omega);have e9:10 ^ 9=1000000000:=rfl;have wn:wrap .i64 (0 - eO d)=- eO d:=by rw [fA (by omega)]; omega
   refine ⟨if mb then - eO d else eO d,?_,?_⟩
   ·cases mb
    ·simp only [gJ,e,lp,aai,iT,Option.isSome_some,aap,if_false,au.cells,au.bg,av,aw,aac,aad,cond_true,cond_false,aab,eq_self,decide_true]
    ·simp only [gJ,e,lp,aai,iT,Option.isSome_some,if_true,wn,au.cells,au.bg,av,aw,aac,aad,cond_true,cond_false,aab,eq_self,decide_true]
   ·intro n h;rw [e] at h;exact aa8 h
theorem acL (w0 w1 w2 w3 w4 w5:LB) (v1:(List UInt8) × (List bQ) × Int × (List (dm × Bool)) × Unit × Int × Int × Int × Bool × Bool × Int) (b:Bool) (M:List (dm × Bool)) (n0:Int) (q:bQ) (c1 c2:Int) (c3 c4:Bool) (c5:Int) :
  ∃ x,oI m N [w0,w1,w2,w3,w4,w5] (b,M,(),n0,q.1,q.2.1,q.2.2.1,q.2.2.2.1,q.2.2.2.2,c1,c2,c3,c4,c5,(),(),(),(),(),(),()) v1=some ((jO w5).isSome,M,(),n0,q.1,q.2.1,q.2.2.1,q.2.2.2.1,q.2.2.2.2,c1,c2,c3,c4,x,(),(),(),(),(),(),())∧∀ n,jO w5=some n→x=n:=by
 have p:=acI w0 w1 w2 w3 w4 w5 v1 b M n0 q c1 c2 c3 c4 c5;rw [C9];unfold oI;rw [p,aab];have bd:=YN v1 (nI w5) (oP w5) M n0 q c1 c2 c3 c4 c5;rw [bd,aab];clear bd p;generalize nI w5=d;generalize oP w5=mb;by_cases hb:pc d mb=true
 ·refine ⟨c5,?_,?_⟩
  ·have e:iX d mb=none:=by unfold iX; rw [if_pos hb]
   simp only [hb,e,fZ,aa0,au.cells,au.bg,av,aw,aac,aad,cond_true,cond_false,aab,eq_self,decide_true]
  ·intro n h;unfold iX at h;rw [if_pos hb] at h;cases h
 ·have gJ:pc d mb=false:=by simpa using hb
  have hd:d.length≤9:=by
   unfold pc at gJ;have:=of_decide_eq_false gJ;have:¬ 9 < d.length:=fun h=>this (.inr (.inl h))
   omega
  have lp:=ahG (m:=m) hN v1 M n0 q c1 c2 c3 c4 d hd;by_cases hx:∃ k,k < d.length∧((d.getD k 0).toNat < 48∨57 < (d.getD k 0).toNat)
  ·have e:iX d mb=none:=by unfold iX; rw [if_neg hb,if_pos hx]
   obtain ⟨k,hk,oW⟩:=hx;obtain ⟨z,hz⟩:=q9 d (aae d.length) 0 k (aa1.2 hk) oW;rw [hz,aao] at lp;refine ⟨z.1,?_,?_⟩
   ·simp only [gJ,e,lp,aao,aa0,au.cells,au.bg,av,aw,aac,aad,cond_true,cond_false,aab,eq_self,decide_true]
   ·intro n h;rw [e] at h;cases h
  ·have Fo:∀ k∈aae d.length,48≤(d.getD k 0).toNat∧(d.getD k 0).toNat≤57:=fun k hk=>by
    have:¬ ((d.getD k 0).toNat < 48∨57 < (d.getD k 0).toNat):=fun x=>hx ⟨k,aa1.1 hk,x⟩
    omega
   have e:iX d mb=some (if mb then - eO d else eO d):=by unfold iX; rw [if_neg hb,if_neg hx]
   have hv:=q8 d (aae d.length) 0 Fo;have hv:foldI (uf d) 0 (aae d.length)=.inl (eO d):=hv;rw [hv,aai] at lp;have bn:=vf d (aae d.length) 0 0 Fo (by omega) (by simp);have bn:(0:Int)≤eO d∧eO d < ((10 ^ (0+(aae d.length).length):Nat):Int):=bn;have hp:10 ^ (0+(aae d.length).length)≤10 ^ 9:=aa7 (by omega) (by rw [aah]; omega);have e9:10 ^ 9=1000000000:=rfl;have wn:wrap .i64 (0 - eO d)=- eO d:=by rw [fA (by omega)]; omega
   refine ⟨if mb then - eO d else eO d,?_,?_⟩
   ·cases mb
    ·simp only [gJ,e,lp,aai,iT,Option.isSome_some,aap,if_false,au.cells,au.bg,av,aw,aac,aad,cond_true,cond_false,aab,eq_self,decide_true]
    ·simp only [gJ,e,lp,aai,iT,Option.isSome_some,if_true,wn,au.cells,au.bg,av,aw,aac,aad,cond_true,cond_false,aab,eq_self,decide_true]
   ·intro n h;rw [e] at h;exact aa8 h
end
theorem acM (w0 w1 w2 w3 w4 w5:LB) (v1:(List UInt8) × (List bQ) × Int × (List (dm × Bool)) × Unit × Int × Int × Int × Bool × Bool × Int) (b:Bool) (M:List (dm × Bool)) (n0:Int) (q:bQ) (c1 c2:Int) (c3 c4:Bool) (c5:Int) :
  mm [w0,w1,w2,w3,w4,w5] (b,M,(),n0,q.1,q.2.1,q.2.2.1,q.2.2.2.1,q.2.2.2.2,c1,c2,c3,c4,c5,(),(),(),(),(),(),()) v1=some (decide (w3=vj∨w3=KT),M,(),n0,q.1,q.2.1,q.2.2.1,q.2.2.2.1,q.2.2.2.2,c1,c2,(w3 == vj),c4,c5,(),(),(),(),(),(),()):=by
 have a1:fE (ah (map iS [w0,w1,w2,w3,w4,w5]) 3)=w3:=rfl;have a2:fE (ah (map iS [w0,w1,w2,w3,w4,w5]) (toNat 3))=w3:=rfl;by_cases h:w3=vj
 ·have b1:(w3 == vj)=true:=by rw [h]; exact beq_self_eq_true _
  have b3:decide (w3=vj∨w3=KT)=true:=decide_eq_true (.inl h);unfold vj KT at *;simp only [mm,a1,a2,b1,b3,au.cells,au.bg,av,aw,aac,aad,cond_true,cond_false,aab,eq_self,decide_true]
 ·have b1:(w3 == vj)=false:=by rw [Fl]; exact decide_eq_false h
  have b2:(w3 == KT)=decide (w3=vj∨w3=KT):=by rw [Fl]; congr 1; simp [h]
  unfold vj KT at *;simp only [mm,a1,a2,b1,b2,au.cells,au.bg,av,aw,aac,aad,cond_true,cond_false,aab,eq_self,decide_true]
theorem acN (w0 w1 w2 w3 w4 w5:LB) (v1:(List UInt8) × (List bQ) × Int × (List (dm × Bool)) × Unit × Int × Int × Int × Bool × Bool × Int) (b:Bool) (M:List (dm × Bool)) (n0:Int) (q:bQ) (c1 c2:Int) (c3 c4:Bool) (c5:Int) :
  mn [w0,w1,w2,w3,w4,w5] (b,M,(),n0,q.1,q.2.1,q.2.2.1,q.2.2.2.1,q.2.2.2.2,c1,c2,c3,c4,c5,(),(),(),(),(),(),()) v1=some (decide (w4=wO∨w4=KU),M,(),n0,q.1,q.2.1,q.2.2.1,q.2.2.2.1,q.2.2.2.2,c1,c2,c3,(w4 == wO),c5,(),(),(),(),(),(),()):=by
 have a1:fE (ah (map iS [w0,w1,w2,w3,w4,w5]) 4)=w4:=rfl;have a2:fE (ah (map iS [w0,w1,w2,w3,w4,w5]) (toNat 4))=w4:=rfl;by_cases h:w4=wO
 ·have b1:(w4 == wO)=true:=by rw [h]; exact beq_self_eq_true _
  have b3:decide (w4=wO∨w4=KU)=true:=decide_eq_true (.inl h);unfold wO KU at *;simp only [mn,a1,a2,b1,b3,au.cells,au.bg,av,aw,aac,aad,cond_true,cond_false,aab,eq_self,decide_true]
 ·have b1:(w4 == wO)=false:=by rw [Fl]; exact decide_eq_false h
  have b2:(w4 == KU)=decide (w4=wO∨w4=KU):=by rw [Fl]; congr 1; simp [h]
  unfold wO KU at *;simp only [mn,a1,a2,b1,b2,au.cells,au.bg,av,aw,aac,aad,cond_true,cond_false,aab,eq_self,decide_true]
end Go.Proofs.YtldcljfjjoidhaaGreatDoor
namespace Go.Proofs.YtldcljfjjoidhaaGreatDoor
open Go Go.Am Go.Sort
open List (map)
open Int (toNat)
open Go.IntKind (wrap)
open Go.Am.aP (fits)
set_option maxRecDepth 100000
theorem YO (L:List LB):L.length≠6∨∃ w0 w1 w2 w3 w4 w5,L=[w0,w1,w2,w3,w4,w5]:=by
 match L with
 |[w0,w1,w2,w3,w4,w5]=>exact .inr ⟨w0,w1,w2,w3,w4,w5,rfl⟩
 |[]=>exact .inl (by simp)
 |[_]=>exact .inl (by simp)
 |[_,_]=>exact .inl (by simp)
 |[_,_,_]=>exact .inl (by simp)
 |[_,_,_,_]=>exact .inl (by simp)
 |[_,_,_,_,_]=>exact .inl (by simp)
 |_ :: _ :: _ :: _ :: _ :: _ :: _ :: t=>exact .inl (by simp)
theorem Ub {L:List LB} (h:L.length≠6):uc L=none:=by
 unfold uc;split
 ·exact absurd rfl h
 ·rfl
theorem acO (s0:LB) (out:List bQ) (i:Int) (M:List (dm × Bool)) (n0:Int) (q:bQ):tR (s0,out,i,M,(),n0,q.1,q.2.1,q.2.2.1,q.2.2.2.1,q.2.2.2.2)=some (false,M,(),n0,q.1,q.2.1,q.2.2.1,q.2.2.2.1,q.2.2.2.2,0,0,false,false,0):=by
 simp only [tR,au.cells,au.bg,av,aw,aac,aad,cond_true,cond_false,aab,eq_self,decide_true]
theorem O1 (v1:(List UInt8) × (List bQ) × Int × (List (dm × Bool)) × Unit × Int × Int × Int × Bool × Bool × Int) (b:Bool) (M:List (dm × Bool)) (n0:Int) (q c:bQ):ln (b,M,(),n0,q.1,q.2.1,q.2.2.1,q.2.2.2.1,q.2.2.2.2,c.1,c.2.1,c.2.2.1,c.2.2.2.1,c.2.2.2.2,(),(),(),(),(),(),()) v1=some (false,M,(),n0,q.1,q.2.1,q.2.2.1,q.2.2.2.1,q.2.2.2.2,c.1,c.2.1,c.2.2.1,c.2.2.2.1,c.2.2.2.2):=by
 simp only [ln,au.cells,au.bg,av,aw,aac,aad,cond_true,cond_false,aab,eq_self,decide_true]
section
variable {m:Int} {N:Nat} (hN:eE N)
include hN
theorem O2 (s0:LB) (out:List bQ) (i:Int) (M:List (dm × Bool)) (n0:Int) (q:bQ) (y2:LB × LB × Bool) (hs:(bu 32 y2.1).length≤1000000000) (hT:Sw N (y2.1,([32]:List UInt8))=some (bu 32 y2.1)) :
  ∃ c:bQ,oJ m N y2 (s0,out,i,M,(),n0,q.1,q.2.1,q.2.2.1,q.2.2.2.1,q.2.2.2.2)=some ((uc (bu 32 y2.1)).isSome,M,(),n0,q.1,q.2.1,q.2.2.1,q.2.2.2.1,q.2.2.2.2,c.1,c.2.1,c.2.2.1,c.2.2.2.1,c.2.2.2.2)∧∀ c',uc (bu 32 y2.1)=some c'→c=c':=by
 unfold oJ;rw [hT,aab];generalize bu 32 y2.1=L at *;rcases YO L with h6|⟨w0,w1,w2,w3,w4,w5,rfl⟩
 ·rw [Ub h6];refine ⟨(0,0,false,false,0),?_,fun c' h=>by cases h⟩;have e:((((map iS L).length:Nat):Int) != 6)=true:=bne_iff_ne.2 (by rw [aag]; omega);rw [e,cond_true];exact acO ..
 ·have e6:((((map iS [w0,w1,w2,w3,w4,w5]).length:Nat):Int) != 6)=false:=rfl;have a0:fE (ah (map iS [w0,w1,w2,w3,w4,w5]) (toNat 0))=w0:=rfl;have x0:(decide ((0:Int)≤0∧0 < (((map iS [w0,w1,w2,w3,w4,w5])).length:Int))&&fits p9 (ah (map iS [w0,w1,w2,w3,w4,w5]) (toNat 0)))=true:=rfl;have x1:(decide ((0:Int)≤1∧1 < (((map iS [w0,w1,w2,w3,w4,w5])).length:Int))&&fits p9 (ah (map iS [w0,w1,w2,w3,w4,w5]) (toNat 1)))=true:=rfl;have x2:(decide ((0:Int)≤2∧2 < (((map iS [w0,w1,w2,w3,w4,w5])).length:Int))&&fits p9 (ah (map iS [w0,w1,w2,w3,w4,w5]) (toNat 2)))=true:=rfl;have x3:(decide ((0:Int)≤3∧3 < (((map iS [w0,w1,w2,w3,w4,w5])).length:Int))&&fits p9 (ah (map iS [w0,w1,w2,w3,w4,w5]) (toNat 3)))=true:=rfl;have x4:(decide ((0:Int)≤4∧4 < (((map iS [w0,w1,w2,w3,w4,w5])).length:Int))&&fits p9 (ah (map iS [w0,w1,w2,w3,w4,w5]) (toNat 4)))=true:=rfl;have x5:(decide ((0:Int)≤5∧5 < (((map iS [w0,w1,w2,w3,w4,w5])).length:Int))&&fits p9 (ah (map iS [w0,w1,w2,w3,w4,w5]) (toNat 5)))=true:=rfl;rw [e6,cond_false,x0,cond_true,a0];by_cases hw0:w0=Zp
  ·have b0:(!(w0 == ([97,116]:List UInt8)))=false:=by rw [hw0]; rfl
   rw [b0,cond_false,x1,cond_true];obtain ⟨v1,p1,q1⟩:=acJ (m:=m) hN w0 w1 w2 w3 w4 w5 s0 out i M n0 q;rw [p1,aab];cases h1:jO w1 with
   |none=>
    have er:uc [w0,w1,w2,w3,w4,w5]=none:=by simp only [uc,h1]; split <;> rfl
    rw [er];exact ⟨(v1,0,false,false,0),O1 _ _ M n0 q (v1,0,false,false,0),fun c' h=>by cases h⟩
   |some k1=>
    have e1:=q1 k1 h1;subst e1;simp only [Option.isSome_some,aaF,cond_false];rw [x2,cond_true];obtain ⟨v2,p2,q2⟩:=acK (m:=m) hN w0 w1 w2 w3 w4 w5 (s0,out,i,M,(),n0,q.1,q.2.1,q.2.2.1,q.2.2.2.1,q.2.2.2.2) true M n0 q v1 0 false false 0;rw [p2,aab];cases h2:jO w2 with
    |none=>
     have er:uc [w0,w1,w2,w3,w4,w5]=none:=by simp only [uc,h1,h2]; split <;> rfl
     rw [er];exact ⟨(v1,v2,false,false,0),O1 _ _ M n0 q (v1,v2,false,false,0),fun c' h=>by cases h⟩
    |some k2=>
     have e2:=q2 k2 h2;subst e2;simp only [Option.isSome_some,aaF,cond_false];rw [x3,cond_true,acM,aab];by_cases h3:w3=vj∨w3=KT
     ·rw [decide_eq_true h3];simp only [aaF,cond_false];rw [x4,cond_true,acN,aab];by_cases h4:w4=wO∨w4=KU
      ·rw [decide_eq_true h4];simp only [aaF,cond_false];rw [x5,cond_true];obtain ⟨v5,p5,q5⟩:=acL (m:=m) hN w0 w1 w2 w3 w4 w5 (s0,out,i,M,(),n0,q.1,q.2.1,q.2.2.1,q.2.2.2.1,q.2.2.2.2) true M n0 q v1 v2 (w3 == vj) (w4 == wO) 0;rw [p5,aab];cases h5:jO w5 with
       |none=>
        have er:uc [w0,w1,w2,w3,w4,w5]=none:=by simp only [uc,h1,h2,h5]; split <;> rfl
        rw [er];exact ⟨(v1,v2,(w3 == vj),(w4 == wO),v5),O1 _ _ M n0 q (v1,v2,(w3 == vj),(w4 == wO),v5),fun c' h=>by cases h⟩
       |some k5=>
        have e5:=q5 k5 h5;subst e5;have er:uc [w0,w1,w2,w3,w4,w5]=some (v1,v2,(w3 == vj),(w4 == wO),v5):=by simp only [uc,h1,h2,h5,hw0]; rw [if_pos ⟨trivial,h3,h4⟩]
        rw [er];refine ⟨(v1,v2,(w3 == vj),(w4 == wO),v5),?_,fun c' h=>aa8 h⟩;simp only [Option.isSome_some,aaF,au.cells,au.bg,av,aw,aac,aad,cond_true,cond_false,aab,eq_self,decide_true]
      ·rw [decide_eq_false h4];have er:uc [w0,w1,w2,w3,w4,w5]=none:=by simp only [uc]; rw [if_neg (fun h=>h4 h.2.2)]
       rw [er];exact ⟨(v1,v2,(w3 == vj),(w4 == wO),0),O1 _ _ M n0 q (v1,v2,(w3 == vj),(w4 == wO),0),fun c' h=>by cases h⟩
     ·rw [decide_eq_false h3];have er:uc [w0,w1,w2,w3,w4,w5]=none:=by simp only [uc]; rw [if_neg (fun h=>h3 h.2.1)]
      rw [er];exact ⟨(v1,v2,(w3 == vj),false,0),O1 _ _ M n0 q (v1,v2,(w3 == vj),false,0),fun c' h=>by cases h⟩
  ·have b0:(!(w0 == ([97,116]:List UInt8)))=true:=by
    have:(w0 == ([97,116]:List UInt8))=false:=by rw [Fl]; exact decide_eq_false hw0
    rw [this]; rfl
   rw [b0,cond_true];have er:uc [w0,w1,w2,w3,w4,w5]=none:=by simp only [uc]; rw [if_neg (fun h=>hw0 h.1)]
   rw [er];exact ⟨(0,0,false,false,0),acO ..,fun c' h=>by cases h⟩
theorem O3 (s0:LB) (out:List bQ) (i:Int) (M:List (dm × Bool)) (n0:Int) (q:bQ) (y2:LB × LB × Bool) (hs:(bu 32 y2.1).length≤1000000000) (hT:Sw N (y2.1,([32]:List UInt8))=some (bu 32 y2.1)) :
  ∃ c:bQ,km m N y2 (s0,out,i,M,(),n0,q.1,q.2.1,q.2.2.1,q.2.2.2.1,q.2.2.2.2)=some (out,!(y2.2.2&&(uc (bu 32 y2.1)).isSome),M,(),n0,q.1,q.2.1,q.2.2.1,q.2.2.2.1,q.2.2.2.2,c.1,c.2.1,c.2.2.1,c.2.2.2.1,c.2.2.2.2)∧∀ c',y2.2.2=true→uc (bu 32 y2.1)=some c'→c=c':=by
 cases hb:y2.2.2 with
 |false=>
  refine ⟨(0,0,false,false,0),?_,fun c' h=>by cases h⟩;simp only [km,hb,aaZ,Bool.false_and,qi,qj,aag,au.cells,au.bg,av,aw,aac,aad,cond_true,cond_false,aab,eq_self,decide_true]
 |true=>
  obtain ⟨c,p,r⟩:=O2 (m:=m) hN s0 out i M n0 q y2 hs hT;refine ⟨c,?_,fun c' _=>r c'⟩;simp only [km,hb,p,aaF,Bool.true_and,qi,qj,aag,au.cells,au.bg,av,aw,aac,aad,cond_true,cond_false,aab,eq_self,decide_true]
end
end Go.Proofs.YtldcljfjjoidhaaGreatDoor
namespace Go.Proofs.YtldcljfjjoidhaaGreatDoor
open Go Go.Am Go.Sort
open List (map)
open Int (toNat)
open Go.IntKind (wrap)
open Go.Am.aP (fits)
set_option maxRecDepth 100000
section
variable {m:Int} {N:Nat} (hN:eE N)
include hN
theorem O4 (out:List bQ) (bo:Bool) (Mx:List (dm × Bool)) (nx:Int) (qx:bQ) (c:bQ) (acc:List dm) (wM:Int) (q:bQ) (hc:cP c=0) (ha:acc.length≤1000000000) :
  ay (nu m N (out,bo,Mx,(),nx,qx.1,qx.2.1,qx.2.2.1,qx.2.2.2.1,qx.2.2.2.2,c.1,c.2.1,c.2.2.1,c.2.2.2.1,c.2.2.2.2)) N (0,cB acc,(),wM,q.1,q.2.1,q.2.2.1,q.2.2.2.1,q.2.2.2.2,c.1,c.2.1,c.2.2.1,c.2.2.2.1,c.2.2.2.2,(),0,c.1,c.2.1,c.2.2.1,c.2.2.2.1,c.2.2.2.2) =
   some (if ∃ b∈bS c,b∈acc then .inl (cB acc,(),wM,q.1,q.2.1,q.2.2.1,q.2.2.2.1,q.2.2.2.2,c.1,c.2.1,c.2.2.1,c.2.2.2.1,c.2.2.2.2,(),9,c.1,c.2.1,c.2.2.1,c.2.2.2.1,c.2.2.2.2) else .inr (cB acc,(),wM,q.1,q.2.1,q.2.2.1,q.2.2.2.1,q.2.2.2.2,c.1,c.2.1,c.2.2.1,c.2.2.2.1,c.2.2.2.2,(),0,c.1,c.2.1,c.2.2.1,c.2.2.2.1,c.2.2.2.2)):=by
 obtain ⟨h1,h2,h3⟩:=dj hc;have ml:(bS c).length=c.2.2.2.2.toNat:=fC c _;have key:=sF (rd:=nu m N (out,bo,Mx,(),nx,qx.1,qx.2.1,qx.2.2.1,qx.2.2.2.1,qx.2.2.2.2,c.1,c.2.1,c.2.2.1,c.2.2.2.1,c.2.2.2.2)) ((bS c).map fun x=>if x∈acc then (9:Int) else 0) (fun k=>((k:Int),cB acc,(),wM,q.1,q.2.1,q.2.2.1,q.2.2.2.1,q.2.2.2.2,c.1,c.2.1,c.2.2.1,c.2.2.2.1,c.2.2.2.2,(),0,c.1,c.2.1,c.2.2.1,c.2.2.2.1,c.2.2.2.2))
  (.inr (cB acc,(),wM,q.1,q.2.1,q.2.2.1,q.2.2.2.1,q.2.2.2.2,c.1,c.2.1,c.2.2.1,c.2.2.2.1,c.2.2.2.2,(),0,c.1,c.2.1,c.2.2.1,c.2.2.2.1,c.2.2.2.2)) (fun x=>.inl (cB acc,(),wM,q.1,q.2.1,q.2.2.1,q.2.2.2.1,q.2.2.2.2,c.1,c.2.1,c.2.2.1,c.2.2.2.1,c.2.2.2.2,(),x,c.1,c.2.1,c.2.2.1,c.2.2.2.1,c.2.2.2.2)) (fun _=>True) (fun k hk _=>by
  refine ⟨?_,fun _=>trivial⟩;rw [aag,ml] at hk;have cm:decide ((k:Int) < c.2.2.2.2)=true:=decide_eq_true (by omega);have t1:=dY N c k h1 (by omega);have t2:=dY N c (k+1) h1 (by omega);have q1:=eJ c hc k (by omega);have q2:=eJ c hc (k+1) (by omega);have eb:eK c k=iV (aT c k) (aT c (k+1)):=rfl;have el:((bS c).map fun x=>if x∈acc then (9:Int) else 0)[k]'(by rw [aag,ml]; exact hk)=if eK c k∈acc then (9:Int) else 0:=by simp [bS,cQ]
  rw [el];simp only [nu,oF,oG,oH,cm,cond_true,t1,bp (show k < 9223372036854775807 by omega),t2,aab,beq_self_eq_true,aac];unfold iV at eb;have kk:=au.keys (eK c k) (cB acc);have kg:=au.getD (eK c k) false (cB acc);rw [Fa] at kg;generalize aT c k=x at *;generalize aT c (k+1)=y at *;by_cases wg:x.2 > y.2
  ·rw [if_pos wg] at eb;have w:wrap .i64 (x.1 - y.1)=x.1 - y.1:=fA ⟨by omega,by omega⟩;generalize eK c k=bb at *;subst eb;simp only [wg,cond_true,au.cells,au.bg,eq_self,decide_true,av,aw,aac,aad,aab,w,kk,kg];by_cases hm:(y.1,y.2,x.1 - y.1)∈acc
   ·simp only [hm,decide_true,if_true]; rfl
   ·simp only [hm,decide_false,if_false]; rfl
  ·rw [if_neg wg] at eb;have w:wrap .i64 (y.1 - x.1)=y.1 - x.1:=fA ⟨by omega,by omega⟩;generalize eK c k=bb at *;subst eb;simp only [wg,decide_false,cond_true,cond_false,au.cells,au.bg,eq_self,decide_true,av,aw,aac,aad,aab,w,kk,kg];by_cases hm:(x.1,x.2,y.1 - x.1)∈acc
   ·simp only [hm,decide_true,if_true]; rfl
   ·simp only [hm,decide_false,if_false]; rfl) (fun _=>by
  rw [aag,ml];have lM:decide (((c.2.2.2.2.toNat:Nat):Int) < c.2.2.2.2)=false:=decide_eq_false (by omega);simp only [nu,oF,oG,oH,lM,cond_false,au.cells,au.bg,eq_self,decide_true,av,aw,aac,aad,cond_true,aab]) N (by rw [aag,ml]; unfold eE at hN; omega) trivial
 refine Eq.trans key (congrArg some ?_);rw [lr (fun x=>x∈acc) 9 (by decide) (bS c)];by_cases h:∃ b∈bS c,b∈acc
 ·rw [if_pos h,if_pos h]; rfl
 ·rw [if_neg h,if_neg h]; rfl
theorem Uc (out:List bQ) (bo:Bool) (Mx:List (dm × Bool)) (nx:Int) (qx:bQ) (c:bQ) (acc:List dm) (wM:Int) (q:bQ) (e0:Int) (hc:cP c=0) (hn:∀ b∈bS c,b∉acc) :
  ay (lj m N (out,bo,Mx,(),nx,qx.1,qx.2.1,qx.2.2.1,qx.2.2.2.1,qx.2.2.2.2,c.1,c.2.1,c.2.2.1,c.2.2.2.1,c.2.2.2.2)) N (0,cB acc,(),wM,q.1,q.2.1,q.2.2.1,q.2.2.2.1,q.2.2.2.2,c.1,c.2.1,c.2.2.1,c.2.2.2.1,c.2.2.2.2,(),e0,c.1,c.2.1,c.2.2.1,c.2.2.2.1,c.2.2.2.2,c.1,c.2.1,c.2.2.1,c.2.2.2.1,c.2.2.2.2) =
   some (cB (acc++bS c),(),wM,q.1,q.2.1,q.2.2.1,q.2.2.2.1,q.2.2.2.2,c.1,c.2.1,c.2.2.1,c.2.2.2.1,c.2.2.2.2,(),e0,c.1,c.2.1,c.2.2.1,c.2.2.2.1,c.2.2.2.2,c.1,c.2.1,c.2.2.1,c.2.2.2.1,c.2.2.2.2):=by
 obtain ⟨h1,h2,h3⟩:=dj hc;have key:=cE (rd:=lj m N (out,bo,Mx,(),nx,qx.1,qx.2.1,qx.2.2.1,qx.2.2.2.1,qx.2.2.2.2,c.1,c.2.1,c.2.2.1,c.2.2.2.1,c.2.2.2.2)) c.2.2.2.2.toNat (fun k=>((k:Int),cB (acc++cQ c k),(),wM,q.1,q.2.1,q.2.2.1,q.2.2.2.1,q.2.2.2.2,c.1,c.2.1,c.2.2.1,c.2.2.2.1,c.2.2.2.2,(),e0,c.1,c.2.1,c.2.2.1,c.2.2.2.1,c.2.2.2.2,c.1,c.2.1,c.2.2.1,c.2.2.2.1,c.2.2.2.2))
  (cB (acc++bS c),(),wM,q.1,q.2.1,q.2.2.1,q.2.2.2.1,q.2.2.2.2,c.1,c.2.1,c.2.2.1,c.2.2.2.1,c.2.2.2.2,(),e0,c.1,c.2.1,c.2.2.1,c.2.2.2.1,c.2.2.2.2,c.1,c.2.1,c.2.2.1,c.2.2.2.1,c.2.2.2.2) (fun k hk=>by
  have cm:decide ((k:Int) < c.2.2.2.2)=true:=decide_eq_true (by omega);have t1:=dY N c k h1 (by omega);have t2:=dY N c (k+1) h1 (by omega);have q1:=eJ c hc k (by omega);have q2:=eJ c hc (k+1) (by omega);have eb:eK c k=iV (aT c k) (aT c (k+1)):=rfl;have mU:eK c k∉acc++cQ c k:=by
   intro h;rcases List.mem_append.1 h with h|h
   ·exact hn (eK c k) (List.mem_map.2 ⟨k,aa1.2 hk,rfl⟩) h
   ·exact z6 c k h
  have es:acc++cQ c (k+1)=(acc++cQ c k)++[eK c k]:=by rw [lq,List.append_assoc]
  have kk:=au.keys (eK c k) (cB (acc++cQ c k));have kp:=au.put (eK c k) true (cB (acc++cQ c k));rw [Fb _ _ mU,← es] at kp;simp only [lj,mg,jM,mh,cm,cond_true,t1,bp (show k < 9223372036854775807 by omega),t2,aab,beq_self_eq_true,aac];clear mU;unfold iV at eb;generalize cB (acc++cQ c (k+1))=S' at *;generalize cB (acc++cQ c k)=S at *;clear es;generalize aT c k=x at *;generalize aT c (k+1)=y at *;by_cases wg:x.2 > y.2
  ·rw [if_pos wg] at eb;have w:wrap .i64 (x.1 - y.1)=x.1 - y.1:=fA ⟨by omega,by omega⟩;generalize eK c k=bb at *;subst eb;simp only [wg,cond_true,au.cells,au.bg,eq_self,decide_true,av,aw,aac,aab,w,kk,kp]
  ·rw [if_neg wg] at eb;have w:wrap .i64 (y.1 - x.1)=y.1 - x.1:=fA ⟨by omega,by omega⟩;generalize eK c k=bb at *;subst eb;simp only [wg,decide_false,cond_true,cond_false,au.cells,au.bg,eq_self,decide_true,av,aw,aac,aab,w,kk,kp]) (by
  have lM:decide (((c.2.2.2.2.toNat:Nat):Int) < c.2.2.2.2)=false:=decide_eq_false (by omega);simp only [lj,mg,jM,mh,lM,cond_false,au.cells,au.bg,eq_self,decide_true,av,aw,aac,cond_true,aab];rfl) N 0 (aby _) (by unfold eE at hN; omega)
 have e0':acc++cQ c 0=acc:=by simp [cQ]
 rw [e0'] at key;exact key
def b8 (p:List bQ):bQ:=p.getLast?.getD (0,0,false,false,0)
theorem O6 (out:List bQ) (c:bQ) (hp:out.length≤256) (hP:∀ q∈out,cP q=0) :
  iU m N (out,false,cB (bH out),(),(out.length:Int),(b8 out).1,(b8 out).2.1,(b8 out).2.2.1,(b8 out).2.2.2.1,(b8 out).2.2.2.2,c.1,c.2.1,c.2.2.1,c.2.2.2.1,c.2.2.2.2) =
   some (if out.length≥256 then (out,5,cB (bH out),(),(out.length:Int),(b8 out).1,(b8 out).2.1,(b8 out).2.2.1,(b8 out).2.2.2.1,(b8 out).2.2.2.2,c.1,c.2.1,c.2.2.1,c.2.2.2.1,c.2.2.2.2) else if jN out c=0 then (out,0,cB (bH (out++[c])),(),((out.length+1:Nat):Int),c.1,c.2.1,c.2.2.1,c.2.2.2.1,c.2.2.2.2,c.1,c.2.1,c.2.2.1,c.2.2.2.1,c.2.2.2.2) else (out,jN out c,cB (bH out),(),(out.length:Int),(b8 out).1,(b8 out).2.1,(b8 out).2.2.1,(b8 out).2.2.2.1,(b8 out).2.2.2.2,c.1,c.2.1,c.2.2.1,c.2.2.2.1,c.2.2.2.2)):=by
 have hl:=nF out hP;have Pl:out.length≠0→cP (b8 out)=0∧below out c=decide (I0 c < I0 (b8 out)):=by
  intro h0;obtain ⟨q,hq⟩:∃ q,out.getLast?=some q:=by
   cases h:out.getLast? with
   |none=>rw [List.getLast?_eq_none_iff] at h; subst h; exact absurd rfl h0
   |some q=>exact ⟨q,rfl⟩
  unfold b8 below;rw [hq];exact ⟨hP _ (List.mem_of_getLast? hq),rfl⟩
 have Zn:out.length=0→below out c=false:=fun h=>by
  rw [List.length_eq_zero_iff] at h;subst h;rfl
 have es:bH (out++[c])=bH out++bS c:=by unfold bH; rw [List.flatMap_append]; simp
 rw [es];have t108:Hg N (c.1,c.2.1,c.2.2.1,c.2.2.2.1,c.2.2.2.2)=some (dz c):=E5 hN c;by_cases Ad:out.length≥256
 ·have t80:Pt N (decide ((out.length:Int)≥256),5)=some 5:=by rw [qw,decide_eq_true (by omega)]; rfl
  have z2:(bif allFit (fits xh) [AV.int .i64 5,AV.int .i64 (dz c)] then some (map kj [AV.int .i64 5,AV.int .i64 (dz c)]) else none:Option ma)=some [5,dz c]:=rfl;have t78:Ps N [5,dz c]=some 5:=by
   rw [nD hN [5,dz c] (by simp)];rfl
  have Dl:((5:Int) != 0)=true:=rfl;rw [if_pos Ad];simp only [iU,qt,beq_self_eq_true,t80,t108,z2,t78,Dl,qi,qj,aag,au.cells,au.bg,av,aw,aac,aad,cond_true,cond_false,aab,eq_self,decide_true]
 ·rw [if_neg Ad];generalize b8 out=q at *;unfold jN;have t80:Pt N (decide ((out.length:Int)≥256),5)=some 0:=by rw [qw,decide_eq_false (by omega)]; rfl
  have z2:(bif allFit (fits xh) [AV.int .i64 0,AV.int .i64 (dz c)] then some (map kj [AV.int .i64 0,AV.int .i64 (dz c)]) else none:Option ma)=some [0,dz c]:=rfl;have t78:Ps N [0,dz c]=some (dz c):=by
   rw [nD hN [0,dz c] (by simp)];show some (if (0:Int)=0 then (if dz c=0 then aZ [] else dz c) else 0)=some (dz c);rw [if_pos rfl];by_cases e:dz c=0
   ·rw [if_pos e,e]; rfl
   ·rw [if_neg e]
  by_cases hc:dz c=0
  ·have Cy:=mF hc;have Pj:=nE Cy;have hcn:=dj Cy;have mln:(bS c).length=c.2.2.2.2.toNat:=fC c _;have Gy:(dz c != 0)=false:=by rw [hc]; rfl
   have YC:(aK (map zO (cB (bH out)))).length=(bH out).length:=by rw [au.ent]; simp [cB]
   have ahH:kn N (out,false,cB (bH out),(),(out.length:Int),q.1,q.2.1,q.2.2.1,q.2.2.2.1,q.2.2.2.2,c.1,c.2.1,c.2.2.1,c.2.2.2.1,c.2.2.2.2)=some (below out c,cB (bH out),(),(out.length:Int),q.1,q.2.1,q.2.2.1,q.2.2.2.1,q.2.2.2.2,c.1,c.2.1,c.2.2.1,c.2.2.2.1,c.2.2.2.2,(),0):=by
    by_cases h0:out.length=0
    ·have d0:decide ((out.length:Int) > 0)=false:=decide_eq_false (by omega);simp only [kn,d0,Zn h0,au.cells,au.bg,av,aw,aac,aad,cond_true,cond_false,aab,eq_self,decide_true]
    ·obtain ⟨e1,e2⟩:=Pl h0;have d0:decide ((out.length:Int) > 0)=true:=decide_eq_true (by omega);have ta:uT N (c.1,c.2.1,c.2.2.1,c.2.2.2.1,c.2.2.2.2)=some (I0 c):=tV hN c (mF hc);have tb:uT N (q.1,q.2.1,q.2.2.1,q.2.2.2.1,q.2.2.2.2)=some (I0 q):=tV hN q e1;simp only [kn,d0,e2,ta,tb,beq_self_eq_true,au.cells,au.bg,av,aw,aac,aad,cond_true,cond_false,aab,eq_self,decide_true]
   have r1:=O4 (m:=m) hN out false (cB (bH out)) (out.length:Int) q c (bH out) (out.length:Int) q Cy (by omega);have ahI:oK m N (false,cB (bH out),(),(out.length:Int),q.1,q.2.1,q.2.2.1,q.2.2.2.1,q.2.2.2.2,c.1,c.2.1,c.2.2.1,c.2.2.2.1,c.2.2.2.2,(),0) (out,false,cB (bH out),(),(out.length:Int),q.1,q.2.1,q.2.2.1,q.2.2.2.1,q.2.2.2.2,c.1,c.2.1,c.2.2.1,c.2.2.2.1,c.2.2.2.2)=some (if ∃ b∈bS c,b∈bH out then .inr (cB (bH out),(),(out.length:Int),q.1,q.2.1,q.2.2.1,q.2.2.2.1,q.2.2.2.2,c.1,c.2.1,c.2.2.1,c.2.2.2.1,c.2.2.2.2,(),9,c.1,c.2.1,c.2.2.1,c.2.2.2.1,c.2.2.2.2) else .inl (cB (bH out),(),(out.length:Int),q.1,q.2.1,q.2.2.1,q.2.2.2.1,q.2.2.2.2,c.1,c.2.1,c.2.2.1,c.2.2.2.1,c.2.2.2.2,(),0,c.1,c.2.1,c.2.2.1,c.2.2.2.1,c.2.2.2.2)):=by
    simp only [oK,r1,au.cells,au.bg,av,aw,aac,aad,cond_true,cond_false,aab,eq_self,decide_true];by_cases h9:∃ b∈bS c,b∈bH out
    ·simp only [if_pos h9,aai,aao,au.cells,au.bg,av,aw,aac,aad,cond_true,cond_false,aab,eq_self,decide_true]
    ·simp only [if_neg h9,aai,aao,au.cells,au.bg,av,aw,aac,aad,cond_true,cond_false,aab,eq_self,decide_true]
   simp only [if_pos hc];simp only [iU,qt,beq_self_eq_true,t80,t108,z2,t78,Gy,ahH,au.cells,au.bg,av,aw,aac,aad,cond_true,cond_false,aab,eq_self,decide_true];cases hbw:below out c with
   |true=>
    simp only [qi,qj,aag,au.cells,au.bg,av,aw,aac,aad,cond_true,cond_false,aab,eq_self,decide_true];rfl
   |false=>
    simp only [ahI,au.cells,au.bg,av,aw,aac,aad,cond_true,cond_false,aab,eq_self,decide_true,aap,if_false];by_cases h9:∃ b∈bS c,b∈bH out
    ·simp only [if_pos h9,aai,aao,qi,qj,aag,au.cells,au.bg,av,aw,aac,aad,cond_true,cond_false,aab,eq_self,decide_true];rfl
    ·simp only [if_neg h9,aai,aao,YC,au.cells,au.bg,av,aw,aac,aad,cond_true,cond_false,aab,eq_self,decide_true];have w:wrap .i64 (((bH out).length:Int)+c.2.2.2.2)=(((bH out).length+(bS c).length:Nat):Int):=by rw [fA ⟨by omega,by omega⟩]; omega
     have r2:=Uc (m:=m) hN out false (cB (bH out)) (out.length:Int) q c (bH out) (out.length:Int) q 0 Cy (fun b hb hq=>h9 ⟨b,hb,hq⟩);rw [w];by_cases h4:(bH out).length+(bS c).length > 4096
     ·rw [decide_eq_true (show (((bH out).length+(bS c).length:Nat):Int) > 4096 by omega)];simp only [if_pos h4,qi,qj,aag,au.cells,au.bg,av,aw,aac,aad,cond_true,cond_false,aab,eq_self,decide_true];rfl
     ·rw [decide_eq_false (show ¬ (((bH out).length+(bS c).length:Nat):Int) > 4096 by omega)];simp only [if_neg h4,if_true,r2,bp (show out.length < 9223372036854775807 by omega),qi,qj,aag,au.cells,au.bg,av,aw,aac,aad,cond_true,cond_false,aab,eq_self,decide_true]
  ·have Gy:(dz c != 0)=true:=bne_iff_ne.2 hc;simp only [if_neg hc];simp only [iU,qt,beq_self_eq_true,t80,t108,z2,t78,Gy,qi,qj,aag,au.cells,au.bg,av,aw,aac,aad,cond_true,cond_false,aab,eq_self,decide_true]
end
end Go.Proofs.YtldcljfjjoidhaaGreatDoor
namespace Go.Proofs.YtldcljfjjoidhaaGreatDoor
open Go Go.Am Go.Sort
open List (map)
open Int (toNat)
open Go.IntKind (wrap)
open Go.Am.aP (fits)
set_option maxRecDepth 100000
theorem KG (s:List UInt8):s≠[]→cR s=if (fD 10 s).2.2=true then ((fD 10 s).1++[10]) :: cR (fD 10 s).2.1 else [s]:=by
 induction s with
 |nil=>intro h; exact absurd rfl h
 |cons b l ih=>
  intro _;rw [cR,fD];by_cases hb:b=10
  ·rw [if_pos hb,if_pos hb,if_pos rfl]; rfl
  ·rw [if_neg hb,if_neg hb];by_cases hl:l=[]
   ·subst hl;rfl
   ·rw [ih hl];show _=if (fD 10 l).2.2=true then ((b :: (fD 10 l).1)++[10]) :: cR (fD 10 l).2.1 else [b :: l]
    by_cases hc:(fD 10 l).2.2=true
    ·rw [if_pos hc,if_pos hc,vi _ _ _ (by simp)];rfl
    ·rw [if_neg hc,if_neg hc,vi _ _ _ hl];rfl
theorem O7 (s:List UInt8) (h:(fD 10 s).2.2=false):(10:UInt8)∉s:=by
 induction s with
 |nil=>simp
 |cons b l ih=>
  rw [fD] at h;by_cases hb:b=10
  ·rw [if_pos hb] at h; cases h
  ·rw [if_neg hb] at h;intro hm;rcases List.mem_cons.1 hm with hm|hm
   ·exact hb hm.symm
   ·exact ih h hm
theorem Ud (s:List UInt8):(fD 10 s).1.length≤s.length∧(fD 10 s).2.1.length≤s.length∧((fD 10 s).2.2=true→(fD 10 s).2.1.length < s.length):=by
 induction s with
 |nil=>exact ⟨Nat.le_refl _,Nat.le_refl _,fun h=>by cases h⟩
 |cons b l ih=>
  rw [fD];by_cases hb:b=10
  ·rw [if_pos hb]; simp
  ·rw [if_neg hb];simp only [aa2];exact ⟨by omega,by omega,fun h=>by have:=ih.2.2 h; omega⟩
theorem O8 (s:List UInt8):OZ (s++[10])=uc (bu 32 s):=by
 unfold OZ;have e1:(s++[10]).length - 1=s.length:=by simp
 have e2:(s++[10]).getD s.length 0=10:=by simp
 rw [e1,e2,if_pos (show (10:UInt8).toNat=10 from rfl),List.take_left' rfl]
theorem O9 (s:List UInt8) (h:(10:UInt8)∉s):OZ s=none:=by
 unfold OZ;rw [if_neg];intro e;cases s with
 |nil=>cases e
 |cons b l=>
  have e1:(b :: l).getD ((b :: l).length - 1) 0∈b :: l:=by
   rw [List.getD_eq_getElem?_getD,List.getElem?_eq_getElem (by simp)];exact List.getElem_mem _
  have e2:(b :: l).getD ((b :: l).length - 1) 0=10:=UInt8.toNat.inj e;rw [e2] at e1;exact h e1
theorem Ah (c:UInt8):∀ s:List UInt8,(bu c s).length≤s.length+1
 |[]=>Nat.le_refl _
 |b :: l=>by
  have ih:=Ah c l;rw [bu];split
  ·simp only [aa2]; omega
  ·split
   ·simp only [aa2,List.length_nil]; omega
   ·rename_i h;rw [h] at ih;simp only [aa2] at *;omega
theorem Fp:∀ (L:List (List UInt8)) (out:List bQ) (i:Nat) (o:List bQ),qB L out i=.inr o→o.length=out.length+L.length
 |[],out,i,o,h=>by
  rw [qB] at h;injection h with h;rw [h]; rfl
 |s :: t,out,i,o,h=>by
  rw [qB] at h;cases hr:OZ s with
  |none=>rw [hr] at h; cases h
  |some c=>
   rw [hr] at h;simp only at h;by_cases h1:i≥256
   ·rw [if_pos h1] at h; cases h
   ·rw [if_neg h1] at h;by_cases h2:jN out c=0
    ·rw [if_pos h2] at h;have:=Fp t _ _ _ h;rw [this,abI,aa6,aa2];omega
    ·rw [if_neg h2] at h; cases h
theorem HJ (s:List UInt8):(Fm (cR s)).1.length≤s.length:=by
 unfold Fm;cases h:qB (cR s) [] 0 with
 |inl o=>exact aby _
 |inr o=>
  have:=Fp _ _ _ _ h;have:=oO s;show o.length≤s.length;rw [List.length_nil] at *;omega
section
variable {m:Int} {N:Nat} (hN:eE N)
include hN
abbrev S30:=(List UInt8) × (List bQ) × Int × (List (dm × Bool)) × Unit × Int × Int × Int × Bool × Bool × Int
def Db (s:List UInt8) (out:List bQ):S30:=(s,out,(out.length:Int),cB (bH out),(),(out.length:Int),(b8 out).1,(b8 out).2.1,(b8 out).2.2.1,(b8 out).2.2.2.1,(b8 out).2.2.2.2)
def YP:(Unit × Int × Int × (List (dm × Bool)) × Unit × Int × Int × Int × Bool × Bool × Int) ⊕ ((List bQ) × (List (dm × Bool)) × Unit × Int × Int × Int × Bool × Bool × Int)→(Unit × Int × Int) ⊕ List bQ:=Sum.elim (fun o=>.inl ((),o.2.1,o.2.2.1)) (fun o=>.inr o.1)
theorem Fq:∀ (n:Nat) (s:List UInt8) (out:List bQ),s.length < n→s.length≤1000000→out.length≤256→(∀ q∈out,cP q=0)→∃ x,ay (js m N) n (Db s out)=some x∧YP x=qB (cR s) out out.length
 |0,s,out,h,_,_,_=>by omega
 |n+1,s,out,hn,hs,ho,hP=>by
  rw [bE];by_cases h0:s=[]
  ·subst h0;have e0:(!(([]:List UInt8) == ([]:List UInt8)))=false:=rfl;refine ⟨.inr (out,cB (bH out),(),(out.length:Int),(b8 out).1,(b8 out).2.1,(b8 out).2.2.1,(b8 out).2.2.2.1,(b8 out).2.2.2.2),?_,rfl⟩;simp only [Db,js,e0,au.cells,au.bg,av,aw,qi,qj,aag,aac,aad,cond_true,cond_false,aab,eq_self,decide_true,aao]
  ·have e0:(!(s == ([]:List UInt8)))=true:=by rw [Fl,decide_eq_false h0]; rfl
   have hc:T98 N (s,([10]:List UInt8))=some (fD 10 s):=by
    show (bif decide (s.length < 4294967281) then some (fD 10 s) else none)=_;rw [decide_eq_true (by omega)];rfl
   obtain ⟨l1,l2,l3⟩:=Ud s;have hl:=Ah 32 (fD 10 s).1;have hT:Sw N ((fD 10 s).1,([32]:List UInt8))=some (bu 32 (fD 10 s).1):=by
    show (bif decide ((fD 10 s).1.length < 4294967281) then some (bu 32 (fD 10 s).1) else none)=_;rw [decide_eq_true (by omega)];rfl
   obtain ⟨c,p,r⟩:=O3 (m:=m) hN s out (out.length:Int) (cB (bH out)) (out.length:Int) (b8 out) (fD 10 s) (by omega) hT;rw [KG s h0];have w:=O6 (m:=m) hN out;have n25:((25:Int) != 0)=true:=rfl;cases hb:(fD 10 s).2.2 with
   |false=>
    have hr:=O9 s (O7 s hb);rw [hb,Bool.false_and,aaZ] at p;refine ⟨.inl ((),(out.length:Int),25,cB (bH out),(),(out.length:Int),(b8 out).1,(b8 out).2.1,(b8 out).2.2.1,(b8 out).2.2.2.1,(b8 out).2.2.2.2),?_,?_⟩
    ·simp only [Db,js,e0,hc,p,au.cells,au.bg,av,aw,aac,aad,cond_true,cond_false,aab,eq_self,decide_true,aao]
    ·rw [if_neg (by decide),qB,hr];rfl
   |true=>
    rw [if_pos rfl,qB,O8];rw [hb,Bool.true_and] at p;cases hr:uc (bu 32 (fD 10 s).1) with
    |none=>
     rw [hr] at p;refine ⟨.inl ((),(out.length:Int),25,cB (bH out),(),(out.length:Int),(b8 out).1,(b8 out).2.1,(b8 out).2.2.1,(b8 out).2.2.2.1,(b8 out).2.2.2.2),?_,rfl⟩;simp only [Db,js,e0,hc,p,aa0,aaZ,au.cells,au.bg,av,aw,aac,aad,cond_true,cond_false,aab,eq_self,decide_true,aao]
    |some c'=>
     have ec:=r c' hb hr;subst ec;rw [hr] at p;have w:=w c ho hP;simp only;by_cases Ad:out.length≥256
     ·have Dl:((5:Int) != 0)=true:=rfl;rw [if_pos Ad] at w;rw [if_pos Ad];refine ⟨.inl ((),(out.length:Int),5,cB (bH out),(),(out.length:Int),(b8 out).1,(b8 out).2.1,(b8 out).2.2.1,(b8 out).2.2.2.1,(b8 out).2.2.2.2),?_,rfl⟩;simp only [Db,js,e0,hc,p,w,Dl,Option.isSome_some,aaF,au.cells,au.bg,av,aw,aac,aad,cond_true,cond_false,aab,eq_self,decide_true,aao]
     ·rw [if_neg Ad] at w;rw [if_neg Ad];by_cases he:jN out c=0
      ·rw [if_pos he] at w;rw [if_pos he];have z0:((0:Int) != 0)=false:=rfl;have ib:decide ((out.length+1) * 32≤140737488355328)=true:=decide_eq_true (by omega);have sn:map iq out++[AV.agg [AV.int .i64 c.1,AV.int .i64 c.2.1,AV.bool c.2.2.1,AV.bool c.2.2.2.1,AV.int .i64 c.2.2.2.2]]=map iq (out++[c]):=by rw [List.map_append]; rfl
       have Fv:b8 (out++[c])=c:=by unfold b8; rw [List.getLast?_concat]; rfl
       have ih:=Fq n (fD 10 s).2.1 (out++[c]) (by have:=l3 hb; omega) (by omega) (by simp; omega) (fun q hq=>by
        rcases List.mem_append.1 hq with hq|hq
        ·exact hP q hq
        ·rw [List.mem_singleton] at hq;subst hq;exact mF (kx he).1)
       rw [abI,aa6] at ih;obtain ⟨x,q1,q2⟩:=ih;refine ⟨x,?_,q2⟩;have st:js m N (Db s out)=some (.inl (Db (fD 10 s).2.1 (out++[c]))):=by
        simp only [Db,js,zW,e0,hc,p,w,z0,ib,sn,Fv,qi,qj,aag,abI,aa6,bp (show out.length < 9223372036854775807 by omega),Option.isSome_some,aaF,au.cells,au.bg,av,aw,aac,aad,cond_true,cond_false,aab,eq_self,decide_true]
       rw [st,aab,aai];exact q1
      ·have ne:(jN out c != 0)=true:=bne_iff_ne.2 he;rw [if_neg he] at w;rw [if_neg he];refine ⟨.inl ((),(out.length:Int),jN out c,cB (bH out),(),(out.length:Int),(b8 out).1,(b8 out).2.1,(b8 out).2.2.1,(b8 out).2.2.2.1,(b8 out).2.2.2.2),?_,rfl⟩;simp only [Db,js,e0,hc,p,w,ne,Option.isSome_some,aaF,au.cells,au.bg,av,aw,aac,aad,cond_true,cond_false,aab,eq_self,decide_true,aao]
theorem KH (s:List UInt8) (hs:s.length≤1000000):T30 m N s=some (Fm (cR s)):=by
 obtain ⟨x,w,hx⟩:=Fq (m:=m) hN N s [] (by unfold eE at hN; omega) hs (by simp) (fun q hq=>by cases hq);have w:ay (js m N) N (s,([]:List bQ),0,([]:List (dm × Bool)),(),0,0,0,false,false,0)=some x:=w;have d0:decide (((s.length:Nat):Int) > 1000000)=false:=decide_eq_false (by omega);have z:((bif (allFit (fits xq) ([]:List AV)&&(allFit (fits ap) (ab ([]:List (AV × AV)))&&true)) then some (s,(map bF ([]:List AV)),0,(map aL (ab ([]:List (AV × AV)))),(),0,0,0,false,false,0) else none:Option S30).bind fun Ot=>bif (bg ([]:List (AV × AV))&&(decide (0=(map iq Ot.2.1).length)&&true)) then some Ot else none)=some (s,([]:List bQ),0,([]:List (dm × Bool)),(),0,0,0,false,false,0):=rfl;rw [Yp,d0,cond_false,z,aab,w,aab];unfold Fm;have oW:YP x=qB (cR s) [] 0:=hx;rw [← oW];cases x with
 |inl o=>rfl
 |inr o=>
  simp only [aao,qi,qj,aac,cond_true,YP]
end
end Go.Proofs.YtldcljfjjoidhaaGreatDoor
