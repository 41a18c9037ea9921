/- The comparing functions of the sorts,and the sorts' entries. -/
import Derived.Test.YtophnjjjmikmeaaGreatOttTk
import Derived.Test.YtophnjjjmikmeaaGreatOttSort
import Derived.Test.YtophnjjjmikmeaaGreatAmKM
set_option linter.all false
namespace Go.Proofs.YtophnjjjmikmeaaGreat
open Go Go.Am Go.Sort Go.Shelf Go.Proofs
set_option maxRecDepth 100000
instance:Inhabited iR.T:=⟨((0,0):Int × Int)⟩
instance:Inhabited cN.T:=⟨((0,0,0):Int × Int × Int)⟩
def BB (a b:Int):Int:=if a < b then -1 else if a > b then 1 else 0
def Ad (x y:Int × Int):Int:=if x.2 < y.2 then -1 else if x.2 > y.2 then 1 else BB x.1 y.1
def ji (x y:Int × Int × Int):Int:=if x.2.1 < y.2.1 then -1 else if x.2.1 > y.2.1 then 1 else if x.1 < y.1 then -1 else if x.1 > y.1 then 1 else BB x.2.2 y.2.2
theorem GS {a b:Int}:BB a b < 0↔a < b:=by
 unfold BB
 split
 ·constructor <;> intro <;> omega
 ·split <;> (constructor <;> intro <;> omega)
theorem BC (x y:Int × Int):ltOf Ad x y=decide (x.2 < y.2∨x.2=y.2∧x.1 < y.1):=by
 unfold ltOf Ad
 rw [decide_eq_decide]
 split
 ·constructor <;> intro <;> omega
 ·split
  ·constructor <;> intro <;> omega
  ·rw [GS]
   constructor <;> intro <;> omega
theorem pW (x y:Int × Int × Int):ltOf ji x y=decide (x.2.1 < y.2.1∨x.2.1=y.2.1∧(x.1 < y.1∨x.1=y.1∧x.2.2 < y.2.2)):=by
 unfold ltOf ji
 rw [decide_eq_decide]
 split
 ·constructor <;> intro <;> omega
 ·split
  ·constructor <;> intro <;> omega
  ·split
   ·constructor <;> intro <;> omega
   ·split
    ·constructor <;> intro <;> omega
    ·rw [GS]
     constructor <;> intro <;> omega
theorem FI:SWO (ltOf Ad):=by
 refine ⟨fun x=>?_,fun x y z h1 h2=>?_,fun x y z h1 h2=>?_⟩
 ·rw [BC]; exact decide_eq_false (by omega)
 ·rw [BC] at *
  have h1:=of_decide_eq_true h1
  have h2:=of_decide_eq_true h2
  exact decide_eq_true (by omega)
 ·rw [BC] at *
  have h1:=of_decide_eq_false h1
  have h2:=of_decide_eq_false h2
  exact decide_eq_false (by omega)
theorem BD:SWO (ltOf ji):=by
 refine ⟨fun x=>?_,fun x y z h1 h2=>?_,fun x y z h1 h2=>?_⟩
 ·rw [pW]; exact decide_eq_false (by omega)
 ·rw [pW] at *
  have h1:=of_decide_eq_true h1
  have h2:=of_decide_eq_true h2
  exact decide_eq_true (by omega)
 ·rw [pW] at *
  have h1:=of_decide_eq_false h1
  have h2:=of_decide_eq_false h2
  exact decide_eq_false (by omega)
theorem Lm (x y:Int × Int) (h1:ltOf Ad x y=false) (h2:ltOf Ad y x=false):x=y:=by
 rw [BC] at *
 have h1:=of_decide_eq_false h1
 have h2:=of_decide_eq_false h2
 exact Prod.ext (by omega) (by omega)
theorem OA (x y:Int × Int × Int) (h1:ltOf ji x y=false) (h2:ltOf ji y x=false):x=y:=by
 rw [pW] at *
 have h1:=of_decide_eq_false h1
 have h2:=of_decide_eq_false h2
 exact Prod.ext (by omega) (Prod.ext (by omega) (by omega))
theorem ccB (a b:Int):((bif (a != a) then (bif (b != b) then (some 0) else (some (-1))) else (bif (b != b) then (some 1) else (bif (decide (a < b)) then (some (-1)) else (bif (decide (a > b)) then (some 1) else (some 0))))):Option Int)=some (BB a b):=by
 unfold BB
 rw [bne_self_eq_false,bne_self_eq_false]
 by_cases h:a < b
 ·simp [h]
 ·by_cases h':a > b <;> simp [h,h']
theorem xQ {a b:Int}:BB a b=0↔a=b:=by
 unfold BB
 split
 ·constructor <;> intro <;> omega
 ·split <;> (constructor <;> intro <;> omega)
theorem VX {X:Type} (o:Int) (a b:X):(bif o != 0 then a else b)=if o=0 then b else a:=by
 by_cases h:o=0
 ·subst h; rfl
 ·rw [if_neg h,bne_iff_ne.2 h]; rfl
theorem SM (lo:Nat) (x y:Int × Int):Ox lo 5 (x,y)=some (Ad x y):=by
 have h0:∀ o1 o2:Int,kA 5 o1 o2 0=some (if o1=0 then .inl 1 else .inr (.inl o1)):=fun o1 o2=>by
  show (bif o1 != 0 then some (Sum.inr (Sum.inl o1)) else some (Sum.inl (IntKind.wrap .i64 (0+1))))=_
  rw [VX]; split <;> rfl
 have h1:∀ o1 o2:Int,kA 5 o1 o2 1=some (if o2=0 then .inl 2 else .inr (.inl o2)):=fun o1 o2=>by
  show (bif o2 != 0 then some (Sum.inr (Sum.inl o2)) else some (Sum.inl (IntKind.wrap .i64 (1+1))))=_
  rw [VX]; split <;> rfl
 have h2:∀ o1 o2:Int,kA 5 o1 o2 2=some (.inr (.inr ())):=fun o1 o2=>rfl
 have L:∀ o1 o2:Int,aZ (kA 5 o1 o2) 5 0=some (if o1=0 then (if o2=0 then .inr () else .inl o2) else .inl o1):=fun o1 o2=>by
  rw [bf,h0,Option.bind_some]
  by_cases e1:o1=0
  ·rw [if_pos e1,if_pos e1,Sum.elim_inl,bf,h1,Option.bind_some]
   by_cases e2:o2=0
   ·rw [if_pos e2,if_pos e2,Sum.elim_inl,bf,h2]; rfl
   ·rw [if_neg e2,if_neg e2]; rfl
  ·rw [if_neg e1,if_neg e1]; rfl
 rw [Oz]
 simp only [ccB,beq_self_eq_true,Bool.and_self,cond_true,Option.bind_some,L]
 unfold Ad
 by_cases e1:x.2 < y.2
 ·have:¬ x.2=y.2:=by omega
  simp [BB,e1]
 ·by_cases e2:x.2 > y.2
  ·simp [BB,e1,e2]
  ·have e:x.2=y.2:=by omega
   have e3:BB x.2 y.2=0:=xQ.2 e
   rw [if_neg e1,if_neg e2,e3,if_pos rfl]
   by_cases e4:BB x.1 y.1=0
   ·rw [if_pos e4,e4]; rfl
   ·rw [if_neg e4]; rfl
theorem SN (lo:Nat) (x y:Int × Int × Int):Oq lo 5 (x,y)=some (ji x y):=by
 have h0:∀ o1 o2 o3:Int,iN 5 o1 o2 o3 0=some (if o1=0 then .inl 1 else .inr (.inl o1)):=fun o1 o2 o3=>by
  show (bif o1 != 0 then some (Sum.inr (Sum.inl o1)) else some (Sum.inl (IntKind.wrap .i64 (0+1))))=_
  rw [VX]; split <;> rfl
 have h1:∀ o1 o2 o3:Int,iN 5 o1 o2 o3 1=some (if o2=0 then .inl 2 else .inr (.inl o2)):=fun o1 o2 o3=>by
  show (bif o2 != 0 then some (Sum.inr (Sum.inl o2)) else some (Sum.inl (IntKind.wrap .i64 (1+1))))=_
  rw [VX]; split <;> rfl
 have h2:∀ o1 o2 o3:Int,iN 5 o1 o2 o3 2=some (if o3=0 then .inl 3 else .inr (.inl o3)):=fun o1 o2 o3=>by
  show (bif o3 != 0 then some (Sum.inr (Sum.inl o3)) else some (Sum.inl (IntKind.wrap .i64 (2+1))))=_
  rw [VX]; split <;> rfl
 have h3:∀ o1 o2 o3:Int,iN 5 o1 o2 o3 3=some (.inr (.inr ())):=fun o1 o2 o3=>rfl
 have L:∀ o1 o2 o3:Int,aZ (iN 5 o1 o2 o3) 5 0=some (if o1=0 then (if o2=0 then (if o3=0 then .inr () else .inl o3) else .inl o2) else .inl o1):=fun o1 o2 o3=>by
  rw [bf,h0,Option.bind_some]
  by_cases e1:o1=0
  ·rw [if_pos e1,if_pos e1,Sum.elim_inl,bf,h1,Option.bind_some]
   by_cases e2:o2=0
   ·rw [if_pos e2,if_pos e2,Sum.elim_inl,bf,h2,Option.bind_some]
    by_cases e3:o3=0
    ·rw [if_pos e3,if_pos e3,Sum.elim_inl,bf,h3]; rfl
    ·rw [if_neg e3,if_neg e3]; rfl
   ·rw [if_neg e2,if_neg e2]; rfl
  ·rw [if_neg e1,if_neg e1]; rfl
 rw [Ou]
 simp only [ccB,beq_self_eq_true,Bool.and_self,cond_true,Option.bind_some,L]
 unfold ji
 by_cases e1:x.2.1 < y.2.1
 ·simp [BB,e1]
 ·by_cases e2:x.2.1 > y.2.1
  ·simp [BB,e1,e2]
  ·have e:x.2.1=y.2.1:=by omega
   have e3:BB x.2.1 y.2.1=0:=xQ.2 e
   rw [if_neg e1,if_neg e2,e3,if_pos rfl]
   by_cases f1:x.1 < y.1
   ·simp [BB,f1]
   ·by_cases f2:x.1 > y.1
    ·simp [BB,f1,f2]
    ·have f:x.1=y.1:=by omega
     have f3:BB x.1 y.1=0:=xQ.2 f
     rw [if_neg f1,if_neg f2,f3,if_pos rfl]
     by_cases e4:BB x.2.2 y.2.2=0
     ·rw [if_pos e4,e4]; rfl
     ·rw [if_neg e4]; rfl
theorem GU (lo:Nat):(rR lo).P=cn.P:=rfl
theorem xR (lo:Nat):(rR lo).ck=cn.ck:=rfl
theorem Dh (lo:Nat):(rR lo).gx=fun _=>false:=rfl
theorem Di (lo:Nat):(rR lo).lo=lo:=rfl
theorem FJ {E:Env} {g:FuncId} {F:(Int × Int) × (Int × Int)→Option Int} (hF:av E g ⟨.cons iR (.cons iR .nil),.int .i64,F⟩) (x y:Int × Int) (z:Int) (h:F (x,y)=some z):bz E g [iR.enc x,iR.enc y] (fun r=>r=.int .i64 z):=hF (x,y) z h
theorem FK {E:Env} {g:FuncId} {F:(Int × Int × Int) × (Int × Int × Int)→Option Int} (hF:av E g ⟨.cons cN (.cons cN .nil),.int .i64,F⟩) (x y:Int × Int × Int) (z:Int) (h:F (x,y)=some z):bz E g [cN.enc x,cN.enc y] (fun r=>r=.int .i64 z):=hF (x,y) z h
theorem FL (E:Env) (hP:E.P=cn.P) (hG:E.ck=cn.ck) (hx:E.gx=fun _=>false) (x y:Int × Int):bz E 75 [iR.enc x,iR.enc y] (fun r=>r=.int .i64 (Ad x y)):=
 bz.env (E:=rR E.lo) ((GU E.lo).trans hP.symm) ((xR E.lo).trans hG.symm) (FJ (F:=Ox E.lo 5) (Oy E.lo 5) x y (Ad x y) (SM E.lo x y)) (Di E.lo) ((Dh E.lo).trans hx.symm)
theorem FM (E:Env) (hP:E.P=cn.P) (hG:E.ck=cn.ck) (hx:E.gx=fun _=>false) (x y:Int × Int × Int):bz E 72 [cN.enc x,cN.enc y] (fun r=>r=.int .i64 (ji x y)):=
 bz.env (E:=rR E.lo) ((GU E.lo).trans hP.symm) ((xR E.lo).trans hG.symm) (FK (F:=Oq E.lo 5) (Ot E.lo 5) x y (ji x y) (SN E.lo x y)) (Di E.lo) ((Dh E.lo).trans hx.symm)
theorem VY (x:Int × Int × Int):∀ a∈[AV.int .i64 x.1,AV.int .i64 x.2.1,AV.int .i64 x.2.2],gC a=true:=fun a h=>by
 rcases List.mem_cons.1 h with rfl | h
 ·rfl
 ·rcases List.mem_cons.1 h with rfl | h
  ·rfl
  ·rcases List.mem_cons.1 h with rfl | h
   ·rfl
   ·cases h
theorem VZ:rS cn.P cn.ck 75 iR 2 Ad where
 flat:=rfl
 size:=fun _=>rfl
 Ix:=fun x a h=>by
  have h:a∈[AV.int .i64 x.1,AV.int .i64 x.2]:=h
  rcases List.mem_cons.1 h with rfl | h
  ·rfl
  ·rcases List.mem_cons.1 h with rfl | h
   ·rfl
   ·cases h
 agg:=fun x=>⟨[AV.int .i64 x.1,AV.int .i64 x.2],rfl⟩
 calls:=FL
 swo:=FI
 Zp:=Lm
theorem V0:rS cn.P cn.ck 72 cN 3 ji where
 flat:=rfl
 size:=fun _=>rfl
 Ix:=fun x a h=>VY x a h
 agg:=fun x=>⟨[AV.int .i64 x.1,AV.int .i64 x.2.1,AV.int .i64 x.2.2],rfl⟩
 calls:=FM
 swo:=BD
 Zp:=OA
noncomputable def SO:Bg cn 74:=⟨GQ iR Ad 2 23 75,Df (ρ:=Tryz.Aa) Tryz.VU (Plain.of Tryz.func74 (by kernel_rfl) (by kernel_rfl)) (Plain.of Tryz.func75 (by kernel_rfl) (by kernel_rfl)) (fun w=>Tryz.isAgg23 w) (fun w=>Tryz.sizeOf23 w) VZ (by kernel_rfl) (Nat.le_succ 1)⟩
noncomputable def SP:Bg cn 81:=⟨GQ cN ji 3 59 72,Df (ρ:=Tryz.z8) Tryz.VT (Plain.of Tryz.func81 (by kernel_rfl) (by kernel_rfl)) (Plain.of Tryz.func72 (by kernel_rfl) (by kernel_rfl)) (fun w=>Tryz.isAgg59 w) (fun w=>Tryz.sizeOf59 w) V0 (by kernel_rfl) (by decide)⟩
noncomputable def gtS:(g:FuncId)→Option (Bg cn g)
 | 74=>some SO
 | 81=>some SP
 | _=>none
noncomputable def TT (N:Nat) (DH:List (Nat × bl)) (sO:List (Nat × List (Nat × dL))):gn:={ cx N DH sO with gt:=gtS }
end Go.Proofs.YtophnjjjmikmeaaGreat
