/- The comparing functions of the sorts,and the sorts' entries. -/
import Derived.Test.YtfiopgedfcaodaaGreatDoorSeamTk
import Derived.Test.YtfiopgedfcaodaaGreatDoorSeamSort
import Derived.Test.YtfiopgedfcaodaaGreatDoorAmKL
import Derived.Test.YtfiopgedfcaodaaGreatDoorAmKK
set_option linter.all false
namespace Go.Proofs.YtfiopgedfcaodaaGreatDoor
open Go Go.Am Go.Sort Go.Shelf Go.Proofs
set_option maxRecDepth 100000
abbrev pTwo:Pat:=.agg (.cons (.int .i64) (.cons (.int .i64) .nil))
instance:Inhabited pTwo.T:=⟨((0,0):Int × Int)⟩
def cfK (x y:Int × Int):Int:=if x.2 < y.2 then -1 else if x.2 > y.2 then 1 else if x.1 < y.1 then -1 else if x.1 > y.1 then 1 else 0
def cfP (x y:Int × Int):Int:=if x.1 < y.1 then -1 else if x.1 > y.1 then 1 else if x.2 < y.2 then -1 else if x.2 > y.2 then 1 else 0
theorem cfK_lt (x y:Int × Int):ltOf cfK x y=decide (x.2 < y.2∨x.2=y.2∧x.1 < y.1):=by
 unfold ltOf cfK
 rw [decide_eq_decide]
 split
 ·constructor <;> intro <;> omega
 ·split
  ·constructor <;> intro <;> omega
  ·split
   ·constructor <;> intro <;> omega
   ·split <;> (constructor <;> intro <;> omega)
theorem cfP_lt (x y:Int × Int):ltOf cfP x y=decide (x.1 < y.1∨x.1=y.1∧x.2 < y.2):=by
 unfold ltOf cfP
 rw [decide_eq_decide]
 split
 ·constructor <;> intro <;> omega
 ·split
  ·constructor <;> intro <;> omega
  ·split
   ·constructor <;> intro <;> omega
   ·split <;> (constructor <;> intro <;> omega)
theorem swoK:SWO (ltOf cfK):=by
 refine ⟨fun x=>?_,fun x y z h1 h2=>?_,fun x y z h1 h2=>?_⟩
 ·rw [cfK_lt]; exact decide_eq_false (by omega)
 ·rw [cfK_lt] at *
  have h1:=of_decide_eq_true h1
  have h2:=of_decide_eq_true h2
  exact decide_eq_true (by omega)
 ·rw [cfK_lt] at *
  have h1:=of_decide_eq_false h1
  have h2:=of_decide_eq_false h2
  exact decide_eq_false (by omega)
theorem swoP:SWO (ltOf cfP):=by
 refine ⟨fun x=>?_,fun x y z h1 h2=>?_,fun x y z h1 h2=>?_⟩
 ·rw [cfP_lt]; exact decide_eq_false (by omega)
 ·rw [cfP_lt] at *
  have h1:=of_decide_eq_true h1
  have h2:=of_decide_eq_true h2
  exact decide_eq_true (by omega)
 ·rw [cfP_lt] at *
  have h1:=of_decide_eq_false h1
  have h2:=of_decide_eq_false h2
  exact decide_eq_false (by omega)
theorem totK (x y:Int × Int) (h1:ltOf cfK x y=false) (h2:ltOf cfK y x=false):x=y:=by
 rw [cfK_lt] at *
 have h1:=of_decide_eq_false h1
 have h2:=of_decide_eq_false h2
 exact Prod.ext (by omega) (by omega)
theorem totP (x y:Int × Int) (h1:ltOf cfP x y=false) (h2:ltOf cfP y x=false):x=y:=by
 rw [cfP_lt] at *
 have h1:=of_decide_eq_false h1
 have h2:=of_decide_eq_false h2
 exact Prod.ext (by omega) (by omega)
theorem T212_cf (lo:Nat) (x y:Int × Int):T212 lo 4 (x,y)=some (cfK x y):=by
 have h0:∀ o1 o2:Int,R212x166x58 4 o1 o2 0=some (if o1=0 then .inl 1 else .inr (.inl o1)):=fun o1 o2=>by
  show (bif o1 != 0 then some (Sum.inr (Sum.inl o1)) else some (Sum.inl (IntKind.wrap .i64 (0+1))))=_
  by_cases h:o1=0
  ·subst h; rfl
  ·rw [if_neg h,bne_iff_ne.2 h]; rfl
 have h1:∀ o1 o2:Int,R212x166x58 4 o1 o2 1=some (if o2=0 then .inl 2 else .inr (.inl o2)):=fun o1 o2=>by
  show (bif o2 != 0 then some (Sum.inr (Sum.inl o2)) else some (Sum.inl (IntKind.wrap .i64 (1+1))))=_
  by_cases h:o2=0
  ·subst h; rfl
  ·rw [if_neg h,bne_iff_ne.2 h]; rfl
 have h2:∀ o1 o2:Int,R212x166x58 4 o1 o2 2=some (.inr (.inr ())):=fun o1 o2=>rfl
 have L:∀ o1 o2:Int,loopR (R212x166x58 4 o1 o2) 4 0=some (if o1=0 then (if o2=0 then .inr () else .inl o2) else .inl o1):=fun o1 o2=>by
  rw [loopR_succ,h0,Option.bind_some]
  by_cases e1:o1=0
  ·rw [if_pos e1,if_pos e1,Sum.elim_inl,loopR_succ,h1,Option.bind_some]
   by_cases e2:o2=0
   ·rw [if_pos e2,if_pos e2,Sum.elim_inl,loopR_succ,h2]; rfl
   ·rw [if_neg e2,if_neg e2]; rfl
  ·rw [if_neg e1,if_neg e1]; rfl
 rw [T212_eq]
 simp only [bne_self_eq_false,cond_false,beq_self_eq_true,Bool.and_self,cond_true]
 have c:∀ a b:Int,((bif decide (a < b) then some (-1) else bif decide (a > b) then some 1 else some 0):Option Int)=some (if a < b then -1 else if a > b then 1 else 0):=fun a b=>by
  by_cases h:a < b
  ·simp [h]
  ·by_cases h':a > b <;> simp [h,h']
 simp only [c,Option.bind_some,L]
 unfold cfK
 by_cases e1:x.2 < y.2
 ·simp [e1]
 ·by_cases e2:x.2 > y.2
  ·simp [e1,e2]
  ·simp only [e1,e2,if_false,if_true]
   by_cases e3:x.1 < y.1
   ·simp [e3]
   ·by_cases e4:x.1 > y.1 <;> simp [e3,e4]
theorem T103_cf (lo:Nat) (x y:Int × Int):T103 lo 4 (x,y)=some (cfP x y):=by
 have c:∀ a b:Int,((bif (a != a) then (bif (b != b) then some 0 else some (-1)) else (bif (b != b) then some 1 else (bif decide (a < b) then some (-1) else (bif decide (a > b) then some 1 else some 0)))):Option Int)=some (if a < b then -1 else if a > b then 1 else 0):=fun a b=>by
  rw [bne_self_eq_false,bne_self_eq_false]
  by_cases h:a < b
  ·simp [h]
  ·by_cases h':a > b <;> simp [h,h']
 have h0:R103x104x26 4 x y 0=some (if x.1=y.1 then .inl 1 else .inr (.inl (if x.1 < y.1 then -1 else if x.1 > y.1 then 1 else 0))):=by
  show (((bif (x.1 != x.1) then (bif (y.1 != y.1) then some 0 else some (-1)) else (bif (y.1 != y.1) then some 1 else (bif decide (x.1 < y.1) then some (-1) else (bif decide (x.1 > y.1) then some 1 else some 0)))):Option Int).bind fun o=>bif o != 0 then some (Sum.inr (Sum.inl o)) else some (Sum.inl (IntKind.wrap .i64 (0+1))))=_
  rw [c,Option.bind_some]
  by_cases h:x.1 < y.1
  ·have e:¬ x.1=y.1:=by omega
   simp [h,e]
  ·by_cases h':x.1 > y.1
   ·have e:¬ x.1=y.1:=by omega
    simp [h,h',e]
   ·have e:x.1=y.1:=by omega
    simp [e]
    rfl
 have h1:R103x104x26 4 x y 1=some (if x.2=y.2 then .inl 2 else .inr (.inl (if x.2 < y.2 then -1 else if x.2 > y.2 then 1 else 0))):=by
  show (((bif (x.2 != x.2) then (bif (y.2 != y.2) then some 0 else some (-1)) else (bif (y.2 != y.2) then some 1 else (bif decide (x.2 < y.2) then some (-1) else (bif decide (x.2 > y.2) then some 1 else some 0)))):Option Int).bind fun o=>bif o != 0 then some (Sum.inr (Sum.inl o)) else some (Sum.inl (IntKind.wrap .i64 (1+1))))=_
  rw [c,Option.bind_some]
  by_cases h:x.2 < y.2
  ·have e:¬ x.2=y.2:=by omega
   simp [h,e]
  ·by_cases h':x.2 > y.2
   ·have e:¬ x.2=y.2:=by omega
    simp [h,h',e]
   ·have e:x.2=y.2:=by omega
    simp [e]
    rfl
 have h2:R103x104x26 4 x y 2=some (.inr (.inr ())):=rfl
 rw [T103_eq,loopR_succ,h0,Option.bind_some]
 unfold cfP
 by_cases e1:x.1=y.1
 ·rw [if_pos e1,Sum.elim_inl,loopR_succ,h1,Option.bind_some,if_neg (show ¬ x.1 < y.1 by omega),if_neg (show ¬ x.1 > y.1 by omega)]
  by_cases e2:x.2=y.2
  ·rw [if_pos e2,Sum.elim_inl,loopR_succ,h2,if_neg (show ¬ x.2 < y.2 by omega),if_neg (show ¬ x.2 > y.2 by omega)]
   rfl
  ·rw [if_neg e2]
   rfl
 ·rw [if_neg e1]
  by_cases h:x.1 < y.1
  ·simp [h]
  ·have h':x.1 > y.1:=by omega
   simp [h,h']
theorem two_calls {E:Env} {g:FuncId} {F:(Int × Int) × (Int × Int)→Option Int} (hF:EntryOk E g ⟨.cons pTwo (.cons pTwo .nil),.int .i64,F⟩) (x y:Int × Int) (z:Int) (h:F (x,y)=some z):PCalls E g [pTwo.enc x,pTwo.enc y] (fun r=>r=.int .i64 z):=hF (x,y) z h
theorem envLo_P (lo:Nat):(envLo lo).P=envS.P:=rfl
theorem envLo_glob (lo:Nat):(envLo lo).glob=envS.glob:=rfl
theorem envLo_gx (lo:Nat):(envLo lo).gx=fun _=>false:=rfl
theorem envLo_lo (lo:Nat):(envLo lo).lo=lo:=rfl
theorem cmpK_calls (E:Env) (hP:E.P=envS.P) (hG:E.glob=envS.glob) (hx:E.gx=fun _=>false) (x y:Int × Int):PCalls E 212 [pTwo.enc x,pTwo.enc y] (fun r=>r=.int .i64 (cfK x y)):=
 PCalls.env (E:=envLo E.lo) ((envLo_P E.lo).trans hP.symm) ((envLo_glob E.lo).trans hG.symm) (two_calls (F:=T212 E.lo 4) (T212_ok E.lo 4) x y (cfK x y) (T212_cf E.lo x y)) (envLo_lo E.lo) ((envLo_gx E.lo).trans hx.symm)
theorem cmpP_calls (E:Env) (hP:E.P=envS.P) (hG:E.glob=envS.glob) (hx:E.gx=fun _=>false) (x y:Int × Int):PCalls E 103 [pTwo.enc x,pTwo.enc y] (fun r=>r=.int .i64 (cfP x y)):=
 PCalls.env (E:=envLo E.lo) ((envLo_P E.lo).trans hP.symm) ((envLo_glob E.lo).trans hG.symm) (two_calls (F:=T103 E.lo 4) (T103_ok E.lo 4) x y (cfP x y) (T103_cf E.lo x y)) (envLo_lo E.lo) ((envLo_gx E.lo).trans hx.symm)
theorem formK:CmpForm envS.P envS.glob 212 pTwo 2 cfK where
 flat:=rfl
 size:=fun _=>rfl
 scal:=fun x a h=>by
  have h:a∈[AV.int .i64 x.1,AV.int .i64 x.2]:=h
  rcases List.mem_cons.1 h with rfl | h
  ·rfl
  ·rcases List.mem_cons.1 h with rfl | h
   ·rfl
   ·cases h
 agg:=fun x=>⟨[AV.int .i64 x.1,AV.int .i64 x.2],rfl⟩
 calls:=cmpK_calls
 swo:=swoK
 tot:=totK
theorem formP:CmpForm envS.P envS.glob 103 pTwo 2 cfP where
 flat:=rfl
 size:=fun _=>rfl
 scal:=fun x a h=>by
  have h:a∈[AV.int .i64 x.1,AV.int .i64 x.2]:=h
  rcases List.mem_cons.1 h with rfl | h
  ·rfl
  ·rcases List.mem_cons.1 h with rfl | h
   ·rfl
   ·cases h
 agg:=fun x=>⟨[AV.int .i64 x.1,AV.int .i64 x.2],rfl⟩
 calls:=cmpP_calls
 swo:=swoP
 tot:=totP
noncomputable def sortKE:GEntry envS 211:=⟨sortF pTwo cfK 2 87 212,sortE_ok (ρ:=Tryz.sortK_ren) Tryz.sortK (Plain.of Tryz.func211 (by kernel_rfl) (by kernel_rfl)) (Plain.of Tryz.func212 (by kernel_rfl) (by kernel_rfl)) (fun w=>Tryz.isAgg87 w) (fun w=>Tryz.sizeOf87 w) formK (by kernel_rfl) (Nat.le_succ 1)⟩
noncomputable def sortPE:GEntry envS 102:=⟨sortF pTwo cfP 2 46 103,sortE_ok (ρ:=Tryz.sortP_ren) Tryz.sortP (Plain.of Tryz.func102 (by kernel_rfl) (by kernel_rfl)) (Plain.of Tryz.func103 (by kernel_rfl) (by kernel_rfl)) (fun w=>Tryz.isAgg46 w) (fun w=>Tryz.sizeOf46 w) formP (by kernel_rfl) (Nat.le_succ 1)⟩
noncomputable def gtS:(g:FuncId)→Option (GEntry envS g)
 | 211=>some sortKE
 | 102=>some sortPE
 | _=>none
noncomputable def cxS (N:Nat) (tab:List (Nat × Entry)) (cert:List (Nat × List (Nat × Cert))):Ctx:={ cx N tab cert with gt:=gtS }
end Go.Proofs.YtfiopgedfcaodaaGreatDoor
