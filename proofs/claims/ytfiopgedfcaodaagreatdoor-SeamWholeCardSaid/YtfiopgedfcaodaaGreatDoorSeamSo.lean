/- The comparing functions of the sorts,and the sorts' entries. -/
import Derived.Test.YtfiopgedfcaodaaGreatDoorSeamTk
import Derived.Test.YtfiopgedfcaodaaGreatDoorSeamSort
import Derived.Test.YtfiopgedfcaodaaGreatDoorAmKK
import Derived.Test.YtfiopgedfcaodaaGreatDoorAmKJ
set_option linter.all false
namespace Go.Proofs.YtfiopgedfcaodaaGreatDoor
open Go Go.Am Go.Sort Go.Shelf Go.Proofs
set_option maxRecDepth 100000
abbrev jZ:aA:=.agg (.cons (.int .i64) (.cons (.int .i64) .nil))
instance:Inhabited jZ.T:=⟨((0,0):Int × Int)⟩
def zx (x y:Int × Int):Int:=if x.2 < y.2 then -1 else if x.2 > y.2 then 1 else if x.1 < y.1 then -1 else if x.1 > y.1 then 1 else 0
def LO (x y:Int × Int):Int:=if x.1 < y.1 then -1 else if x.1 > y.1 then 1 else if x.2 < y.2 then -1 else if x.2 > y.2 then 1 else 0
theorem tK (x y:Int × Int):ltOf zx x y=decide (x.2 < y.2∨x.2=y.2∧x.1 < y.1):=by
 unfold ltOf zx
 rw [decide_eq_decide]
 split
 ·constructor <;> intro <;> omega
 ·split
  ·constructor <;> intro <;> omega
  ·split
   ·constructor <;> intro <;> omega
   ·split <;> (constructor <;> intro <;> omega)
theorem BK (x y:Int × Int):ltOf LO x y=decide (x.1 < y.1∨x.1=y.1∧x.2 < y.2):=by
 unfold ltOf LO
 rw [decide_eq_decide]
 split
 ·constructor <;> intro <;> omega
 ·split
  ·constructor <;> intro <;> omega
  ·split
   ·constructor <;> intro <;> omega
   ·split <;> (constructor <;> intro <;> omega)
theorem IU:SWO (ltOf zx):=by
 refine ⟨fun x=>?_,fun x y z h1 h2=>?_,fun x y z h1 h2=>?_⟩
 ·rw [tK]; exact decide_eq_false (by omega)
 ·rw [tK] at *
  have h1:=of_decide_eq_true h1
  have h2:=of_decide_eq_true h2
  exact decide_eq_true (by omega)
 ·rw [tK] at *
  have h1:=of_decide_eq_false h1
  have h2:=of_decide_eq_false h2
  exact decide_eq_false (by omega)
theorem ab1:SWO (ltOf LO):=by
 refine ⟨fun x=>?_,fun x y z h1 h2=>?_,fun x y z h1 h2=>?_⟩
 ·rw [BK]; exact decide_eq_false (by omega)
 ·rw [BK] at *
  have h1:=of_decide_eq_true h1
  have h2:=of_decide_eq_true h2
  exact decide_eq_true (by omega)
 ·rw [BK] at *
  have h1:=of_decide_eq_false h1
  have h2:=of_decide_eq_false h2
  exact decide_eq_false (by omega)
theorem LP (x y:Int × Int) (h1:ltOf zx x y=false) (h2:ltOf zx y x=false):x=y:=by
 rw [tK] at *
 have h1:=of_decide_eq_false h1
 have h2:=of_decide_eq_false h2
 exact Prod.ext (by omega) (by omega)
theorem ab2 (x y:Int × Int) (h1:ltOf LO x y=false) (h2:ltOf LO y x=false):x=y:=by
 rw [BK] at *
 have h1:=of_decide_eq_false h1
 have h2:=of_decide_eq_false h2
 exact Prod.ext (by omega) (by omega)
theorem PK (lo:Nat) (x y:Int × Int):PD lo 4 (x,y)=some (zx x y):=by
 have h0:∀ o1 o2:Int,jz 4 o1 o2 0=some (if o1=0 then .inl 1 else .inr (.inl o1)):=fun o1 o2=>by
  show (bif o1 != 0 then some (Sum.inr (Sum.inl o1)) else some (Sum.inl (IntKind.wrap .i64 (0+1))))=_
  by_cases h:o1=0
  ·subst h; rfl
  ·rw [if_neg h,bne_iff_ne.2 h]; rfl
 have h1:∀ o1 o2:Int,jz 4 o1 o2 1=some (if o2=0 then .inl 2 else .inr (.inl o2)):=fun o1 o2=>by
  show (bif o2 != 0 then some (Sum.inr (Sum.inl o2)) else some (Sum.inl (IntKind.wrap .i64 (1+1))))=_
  by_cases h:o2=0
  ·subst h; rfl
  ·rw [if_neg h,bne_iff_ne.2 h]; rfl
 have h2:∀ o1 o2:Int,jz 4 o1 o2 2=some (.inr (.inr ())):=fun o1 o2=>rfl
 have L:∀ o1 o2:Int,ak (jz 4 o1 o2) 4 0=some (if o1=0 then (if o2=0 then .inr () else .inl o2) else .inl o1):=fun o1 o2=>by
  rw [bt,h0,Option.bind_some]
  by_cases e1:o1=0
  ·rw [if_pos e1,if_pos e1,Sum.elim_inl,bt,h1,Option.bind_some]
   by_cases e2:o2=0
   ·rw [if_pos e2,if_pos e2,Sum.elim_inl,bt,h2]; rfl
   ·rw [if_neg e2,if_neg e2]; rfl
  ·rw [if_neg e1,if_neg e1]; rfl
 rw [PG]
 simp only [bne_self_eq_false,cond_false,beq_self_eq_true,Bool.and_self,cond_true]
 have c:∀ a b:Int,((bif decide (a < b) then some (-1) else bif decide (a > b) then some 1 else some 0):Option Int)=some (if a < b then -1 else if a > b then 1 else 0):=fun a b=>by
  by_cases h:a < b
  ·simp [h]
  ·by_cases h':a > b <;> simp [h,h']
 simp only [c,Option.bind_some,L]
 unfold zx
 by_cases e1:x.2 < y.2
 ·simp [e1]
 ·by_cases e2:x.2 > y.2
  ·simp [e1,e2]
  ·simp only [e1,e2,if_false,if_true]
   by_cases e3:x.1 < y.1
   ·simp [e3]
   ·by_cases e4:x.1 > y.1 <;> simp [e3,e4]
theorem PL (lo:Nat) (x y:Int × Int):PH lo 4 (x,y)=some (LO x y):=by
 have c:∀ a b:Int,((bif (a != a) then (bif (b != b) then some 0 else some (-1)) else (bif (b != b) then some 1 else (bif decide (a < b) then some (-1) else (bif decide (a > b) then some 1 else some 0)))):Option Int)=some (if a < b then -1 else if a > b then 1 else 0):=fun a b=>by
  rw [bne_self_eq_false,bne_self_eq_false]
  by_cases h:a < b
  ·simp [h]
  ·by_cases h':a > b <;> simp [h,h']
 have h0:lf 4 x y 0=some (if x.1=y.1 then .inl 1 else .inr (.inl (if x.1 < y.1 then -1 else if x.1 > y.1 then 1 else 0))):=by
  show (((bif (x.1 != x.1) then (bif (y.1 != y.1) then some 0 else some (-1)) else (bif (y.1 != y.1) then some 1 else (bif decide (x.1 < y.1) then some (-1) else (bif decide (x.1 > y.1) then some 1 else some 0)))):Option Int).bind fun o=>bif o != 0 then some (Sum.inr (Sum.inl o)) else some (Sum.inl (IntKind.wrap .i64 (0+1))))=_
  rw [c,Option.bind_some]
  by_cases h:x.1 < y.1
  ·have e:¬ x.1=y.1:=by omega
   simp [h,e]
  ·by_cases h':x.1 > y.1
   ·have e:¬ x.1=y.1:=by omega
    simp [h,h',e]
   ·have e:x.1=y.1:=by omega
    simp [e]
    rfl
 have h1:lf 4 x y 1=some (if x.2=y.2 then .inl 2 else .inr (.inl (if x.2 < y.2 then -1 else if x.2 > y.2 then 1 else 0))):=by
  show (((bif (x.2 != x.2) then (bif (y.2 != y.2) then some 0 else some (-1)) else (bif (y.2 != y.2) then some 1 else (bif decide (x.2 < y.2) then some (-1) else (bif decide (x.2 > y.2) then some 1 else some 0)))):Option Int).bind fun o=>bif o != 0 then some (Sum.inr (Sum.inl o)) else some (Sum.inl (IntKind.wrap .i64 (1+1))))=_
  rw [c,Option.bind_some]
  by_cases h:x.2 < y.2
  ·have e:¬ x.2=y.2:=by omega
   simp [h,e]
  ·by_cases h':x.2 > y.2
   ·have e:¬ x.2=y.2:=by omega
    simp [h,h',e]
   ·have e:x.2=y.2:=by omega
    simp [e]
    rfl
 have h2:lf 4 x y 2=some (.inr (.inr ())):=rfl
 rw [PJ,bt,h0,Option.bind_some]
 unfold LO
 by_cases e1:x.1=y.1
 ·rw [if_pos e1,Sum.elim_inl,bt,h1,Option.bind_some,if_neg (show ¬ x.1 < y.1 by omega),if_neg (show ¬ x.1 > y.1 by omega)]
  by_cases e2:x.2=y.2
  ·rw [if_pos e2,Sum.elim_inl,bt,h2,if_neg (show ¬ x.2 < y.2 by omega),if_neg (show ¬ x.2 > y.2 by omega)]
   rfl
  ·rw [if_neg e2]
   rfl
 ·rw [if_neg e1]
  by_cases h:x.1 < y.1
  ·simp [h]
  ·have h':x.1 > y.1:=by omega
   simp [h,h']
theorem Aw {E:Env} {g:FuncId} {F:(Int × Int) × (Int × Int)→Option Int} (hF:aw E g ⟨.cons jZ (.cons jZ .nil),.int .i64,F⟩) (x y:Int × Int) (z:Int) (h:F (x,y)=some z):ck E g [jZ.enc x,jZ.enc y] (fun r=>r=.int .i64 z):=hF (x,y) z h
theorem He (lo:Nat):(ss lo).P=bX.P:=rfl
theorem yk (lo:Nat):(ss lo).cw=bX.cw:=rfl
theorem DH (lo:Nat):(ss lo).gx=fun _=>false:=rfl
theorem DI (lo:Nat):(ss lo).lo=lo:=rfl
theorem FW (E:Env) (hP:E.P=bX.P) (hG:E.cw=bX.cw) (hx:E.gx=fun _=>false) (x y:Int × Int):ck E 212 [jZ.enc x,jZ.enc y] (fun r=>r=.int .i64 (zx x y)):=
 ck.env (E:=ss E.lo) ((He E.lo).trans hP.symm) ((yk E.lo).trans hG.symm) (Aw (F:=PD E.lo 4) (PE E.lo 4) x y (zx x y) (PK E.lo x y)) (DI E.lo) ((DH E.lo).trans hx.symm)
theorem FX (E:Env) (hP:E.P=bX.P) (hG:E.cw=bX.cw) (hx:E.gx=fun _=>false) (x y:Int × Int):ck E 103 [jZ.enc x,jZ.enc y] (fun r=>r=.int .i64 (LO x y)):=
 ck.env (E:=ss E.lo) ((He E.lo).trans hP.symm) ((yk E.lo).trans hG.symm) (Aw (F:=PH E.lo 4) (PI E.lo 4) x y (LO x y) (PL E.lo x y)) (DI E.lo) ((DH E.lo).trans hx.symm)
theorem X1:su bX.P bX.cw 212 jZ 2 zx where
 flat:=rfl
 size:=fun _=>rfl
 IT:=fun x a h=>by
  have h:a∈[AV.int .i64 x.1,AV.int .i64 x.2]:=h
  rcases List.mem_cons.1 h with rfl | h
  ·rfl
  ·rcases List.mem_cons.1 h with rfl | h
   ·rfl
   ·cases h
 agg:=fun x=>⟨[AV.int .i64 x.1,AV.int .i64 x.2],rfl⟩
 calls:=FW
 swo:=IU
 tot:=LP
theorem X2:su bX.P bX.cw 103 jZ 2 LO where
 flat:=rfl
 size:=fun _=>rfl
 IT:=fun x a h=>by
  have h:a∈[AV.int .i64 x.1,AV.int .i64 x.2]:=h
  rcases List.mem_cons.1 h with rfl | h
  ·rfl
  ·rcases List.mem_cons.1 h with rfl | h
   ·rfl
   ·cases h
 agg:=fun x=>⟨[AV.int .i64 x.1,AV.int .i64 x.2],rfl⟩
 calls:=FX
 swo:=ab1
 tot:=ab2
noncomputable def Uy:Bz bX 211:=⟨Hc jZ zx 2 87 212,DG (ρ:=Tryz.Ar) Tryz.XX (Plain.of Tryz.func211 (by kernel_rfl) (by kernel_rfl)) (Plain.of Tryz.func212 (by kernel_rfl) (by kernel_rfl)) (fun w=>Tryz.isAgg87 w) (fun w=>Tryz.sizeOf87 w) X1 (by kernel_rfl) (Nat.le_succ 1)⟩
noncomputable def Uz:Bz bX 102:=⟨Hc jZ LO 2 46 103,DG (ρ:=Tryz.As) Tryz.XY (Plain.of Tryz.func102 (by kernel_rfl) (by kernel_rfl)) (Plain.of Tryz.func103 (by kernel_rfl) (by kernel_rfl)) (fun w=>Tryz.isAgg46 w) (fun w=>Tryz.sizeOf46 w) X2 (by kernel_rfl) (Nat.le_succ 1)⟩
noncomputable def gtS:(g:FuncId)→Option (Bz bX g)
 | 211=>some Uy
 | 102=>some Uz
 | _=>none
noncomputable def iD (N:Nat) (G4:List (Nat × aD)) (xS:List (Nat × List (Nat × a8))):fJ:={ cx N G4 xS with gt:=gtS }
end Go.Proofs.YtfiopgedfcaodaaGreatDoor
