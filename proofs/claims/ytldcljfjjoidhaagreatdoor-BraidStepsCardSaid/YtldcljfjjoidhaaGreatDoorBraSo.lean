/- The comparing functions of the sorts,and the sorts' entries. -/
import Derived.Test.YtldcljfjjoidhaaGreatDoorBraTk
import Derived.Test.YtldcljfjjoidhaaGreatDoorBraSort
import Derived.Test.YtldcljfjjoidhaaGreatDoorAmKL
import Derived.Test.YtldcljfjjoidhaaGreatDoorAmKK
set_option linter.all false
namespace Go.Proofs.YtldcljfjjoidhaaGreatDoor
open Go Go.Am Go.Sort Go.Shelf Go.Proofs
set_option maxRecDepth 100000
instance:Inhabited cG.T:=⟨((0,0):Int × Int)⟩
instance:Inhabited aP.T:=⟨((0,0,0):Int × Int × Int)⟩
def p0 (a b:Int):Int:=if a < b then -1 else if a > b then 1 else 0
def yW (x y:Int × Int):Int:=if x.2 < y.2 then -1 else if x.2 > y.2 then 1 else p0 x.1 y.1
def jC (x y:Int × Int × Int):Int:=if x.2.1 < y.2.1 then -1 else if x.2.1 > y.2.1 then 1 else if x.1 < y.1 then -1 else if x.1 > y.1 then 1 else p0 x.2.2 y.2.2
theorem Fw {a b:Int}:p0 a b < 0↔a < b:=by
 unfold p0
 split
 ·constructor <;> intro <;> omega
 ·split <;> (constructor <;> intro <;> omega)
theorem wT (x y:Int × Int):ltOf yW x y=decide (x.2 < y.2∨x.2=y.2∧x.1 < y.1):=by
 unfold ltOf yW
 rw [decide_eq_decide]
 split
 ·constructor <;> intro <;> omega
 ·split
  ·constructor <;> intro <;> omega
  ·rw [Fw]
   constructor <;> intro <;> omega
theorem so (x y:Int × Int × Int):ltOf jC x y=decide (x.2.1 < y.2.1∨x.2.1=y.2.1∧(x.1 < y.1∨x.1=y.1∧x.2.2 < y.2.2)):=by
 unfold ltOf jC
 rw [decide_eq_decide]
 split
 ·constructor <;> intro <;> omega
 ·split
  ·constructor <;> intro <;> omega
  ·split
   ·constructor <;> intro <;> omega
   ·split
    ·constructor <;> intro <;> omega
    ·rw [Fw]
     constructor <;> intro <;> omega
theorem Kx:SWO (ltOf yW):=by
 refine ⟨fun x=>?_,fun x y z h1 h2=>?_,fun x y z h1 h2=>?_⟩
 ·rw [wT]; exact decide_eq_false (by omega)
 ·rw [wT] at *
  have h1:=of_decide_eq_true h1
  have h2:=of_decide_eq_true h2
  exact decide_eq_true (by omega)
 ·rw [wT] at *
  have h1:=of_decide_eq_false h1
  have h2:=of_decide_eq_false h2
  exact decide_eq_false (by omega)
theorem Ky:SWO (ltOf jC):=by
 refine ⟨fun x=>?_,fun x y z h1 h2=>?_,fun x y z h1 h2=>?_⟩
 ·rw [so]; exact decide_eq_false (by omega)
 ·rw [so] at *
  have h1:=of_decide_eq_true h1
  have h2:=of_decide_eq_true h2
  exact decide_eq_true (by omega)
 ·rw [so] at *
  have h1:=of_decide_eq_false h1
  have h2:=of_decide_eq_false h2
  exact decide_eq_false (by omega)
theorem Kz (x y:Int × Int) (h1:ltOf yW x y=false) (h2:ltOf yW y x=false):x=y:=by
 rw [wT] at *
 have h1:=of_decide_eq_false h1
 have h2:=of_decide_eq_false h2
 exact Prod.ext (by omega) (by omega)
theorem O3 (x y:Int × Int × Int) (h1:ltOf jC x y=false) (h2:ltOf jC y x=false):x=y:=by
 rw [so] at *
 have h1:=of_decide_eq_false h1
 have h2:=of_decide_eq_false h2
 exact Prod.ext (by omega) (Prod.ext (by omega) (by omega))
theorem Xn (a b:Int):((bif (a != a) then (bif (b != b) then (some 0) else (some (-1))) else (bif (b != b) then (some 1) else (bif (decide (a < b)) then (some (-1)) else (bif (decide (a > b)) then (some 1) else (some 0))))):Option Int)=some (p0 a b):=by
 unfold p0
 rw [bne_self_eq_false,bne_self_eq_false]
 by_cases h:a < b
 ·simp [h]
 ·by_cases h':a > b <;> simp [h,h']
theorem kb {a b:Int}:p0 a b=0↔a=b:=by
 unfold p0
 split
 ·constructor <;> intro <;> omega
 ·split <;> (constructor <;> intro <;> omega)
theorem GY {X:Type} (o:Int) (a b:X):(bif o != 0 then a else b)=if o=0 then b else a:=by
 by_cases h:o=0
 ·subst h; rfl
 ·rw [if_neg h,bne_iff_ne.2 h]; rfl
theorem O4 (lo:Nat) (x y:Int × Int):Fv lo 5 (x,y)=some (yW x y):=by
 have h0:∀ o1 o2:Int,gS 5 o1 o2 0=some (if o1=0 then .inl 1 else .inr (.inl o1)):=fun o1 o2=>by
  show (bif o1 != 0 then some (Sum.inr (Sum.inl o1)) else some (Sum.inl (IntKind.wrap .i64 (0+1))))=_
  rw [GY]; split <;> rfl
 have h1:∀ o1 o2:Int,gS 5 o1 o2 1=some (if o2=0 then .inl 2 else .inr (.inl o2)):=fun o1 o2=>by
  show (bif o2 != 0 then some (Sum.inr (Sum.inl o2)) else some (Sum.inl (IntKind.wrap .i64 (1+1))))=_
  rw [GY]; split <;> rfl
 have h2:∀ o1 o2:Int,gS 5 o1 o2 2=some (.inr (.inr ())):=fun o1 o2=>rfl
 have L:∀ o1 o2:Int,az (gS 5 o1 o2) 5 0=some (if o1=0 then (if o2=0 then .inr () else .inl o2) else .inl o1):=fun o1 o2=>by
  rw [bD,h0,Option.bind_some]
  by_cases e1:o1=0
  ·rw [if_pos e1,if_pos e1,Sum.elim_inl,bD,h1,Option.bind_some]
   by_cases e2:o2=0
   ·rw [if_pos e2,if_pos e2,Sum.elim_inl,bD,h2]; rfl
   ·rw [if_neg e2,if_neg e2]; rfl
  ·rw [if_neg e1,if_neg e1]; rfl
 rw [Kw]
 simp only [Xn,beq_self_eq_true,Bool.and_self,cond_true,Option.bind_some,L]
 unfold yW
 by_cases e1:x.2 < y.2
 ·have:¬ x.2=y.2:=by omega
  simp [p0,e1]
 ·by_cases e2:x.2 > y.2
  ·simp [p0,e1,e2]
  ·have e:x.2=y.2:=by omega
   have e3:p0 x.2 y.2=0:=kb.2 e
   rw [if_neg e1,if_neg e2,e3,if_pos rfl]
   by_cases e4:p0 x.1 y.1=0
   ·rw [if_pos e4,e4]; rfl
   ·rw [if_neg e4]; rfl
theorem O6 (lo:Nat) (x y:Int × Int × Int):Ft lo 5 (x,y)=some (jC x y):=by
 have h0:∀ o1 o2 o3:Int,fF 5 o1 o2 o3 0=some (if o1=0 then .inl 1 else .inr (.inl o1)):=fun o1 o2 o3=>by
  show (bif o1 != 0 then some (Sum.inr (Sum.inl o1)) else some (Sum.inl (IntKind.wrap .i64 (0+1))))=_
  rw [GY]; split <;> rfl
 have h1:∀ o1 o2 o3:Int,fF 5 o1 o2 o3 1=some (if o2=0 then .inl 2 else .inr (.inl o2)):=fun o1 o2 o3=>by
  show (bif o2 != 0 then some (Sum.inr (Sum.inl o2)) else some (Sum.inl (IntKind.wrap .i64 (1+1))))=_
  rw [GY]; split <;> rfl
 have h2:∀ o1 o2 o3:Int,fF 5 o1 o2 o3 2=some (if o3=0 then .inl 3 else .inr (.inl o3)):=fun o1 o2 o3=>by
  show (bif o3 != 0 then some (Sum.inr (Sum.inl o3)) else some (Sum.inl (IntKind.wrap .i64 (2+1))))=_
  rw [GY]; split <;> rfl
 have h3:∀ o1 o2 o3:Int,fF 5 o1 o2 o3 3=some (.inr (.inr ())):=fun o1 o2 o3=>rfl
 have L:∀ o1 o2 o3:Int,az (fF 5 o1 o2 o3) 5 0=some (if o1=0 then (if o2=0 then (if o3=0 then .inr () else .inl o3) else .inl o2) else .inl o1):=fun o1 o2 o3=>by
  rw [bD,h0,Option.bind_some]
  by_cases e1:o1=0
  ·rw [if_pos e1,if_pos e1,Sum.elim_inl,bD,h1,Option.bind_some]
   by_cases e2:o2=0
   ·rw [if_pos e2,if_pos e2,Sum.elim_inl,bD,h2,Option.bind_some]
    by_cases e3:o3=0
    ·rw [if_pos e3,if_pos e3,Sum.elim_inl,bD,h3]; rfl
    ·rw [if_neg e3,if_neg e3]; rfl
   ·rw [if_neg e2,if_neg e2]; rfl
  ·rw [if_neg e1,if_neg e1]; rfl
 rw [Ks]
 simp only [Xn,beq_self_eq_true,Bool.and_self,cond_true,Option.bind_some,L]
 unfold jC
 by_cases e1:x.2.1 < y.2.1
 ·simp [p0,e1]
 ·by_cases e2:x.2.1 > y.2.1
  ·simp [p0,e1,e2]
  ·have e:x.2.1=y.2.1:=by omega
   have e3:p0 x.2.1 y.2.1=0:=kb.2 e
   rw [if_neg e1,if_neg e2,e3,if_pos rfl]
   by_cases f1:x.1 < y.1
   ·simp [p0,f1]
   ·by_cases f2:x.1 > y.1
    ·simp [p0,f1,f2]
    ·have f:x.1=y.1:=by omega
     have f3:p0 x.1 y.1=0:=kb.2 f
     rw [if_neg f1,if_neg f2,f3,if_pos rfl]
     by_cases e4:p0 x.2.2 y.2.2=0
     ·rw [if_pos e4,e4]; rfl
     ·rw [if_neg e4]; rfl
theorem O7 (lo:Nat) (x y:Int × Int × Int):Fu lo 5 (x,y)=some (jC x y):=by
 have h0:gR 5 x y 0=some (if p0 x.2.1 y.2.1=0 then .inl 1 else .inr (.inl (p0 x.2.1 y.2.1))):=by
  show (((bif (x.2.1 != x.2.1) then (bif (y.2.1 != y.2.1) then (some 0) else (some (-1))) else (bif (y.2.1 != y.2.1) then (some 1) else (bif (decide (x.2.1 < y.2.1)) then (some (-1)) else (bif (decide (x.2.1 > y.2.1)) then (some 1) else (some 0))))):Option Int).bind fun o=>bif o != 0 then some (Sum.inr (Sum.inl o)) else some (Sum.inl (IntKind.wrap .i64 (0+1))))=_
  rw [Xn,Option.bind_some,GY]; split <;> rfl
 have h1:gR 5 x y 1=some (if p0 x.1 y.1=0 then .inl 2 else .inr (.inl (p0 x.1 y.1))):=by
  show (((bif (x.1 != x.1) then (bif (y.1 != y.1) then (some 0) else (some (-1))) else (bif (y.1 != y.1) then (some 1) else (bif (decide (x.1 < y.1)) then (some (-1)) else (bif (decide (x.1 > y.1)) then (some 1) else (some 0))))):Option Int).bind fun o=>bif o != 0 then some (Sum.inr (Sum.inl o)) else some (Sum.inl (IntKind.wrap .i64 (1+1))))=_
  rw [Xn,Option.bind_some,GY]; split <;> rfl
 have h2:gR 5 x y 2=some (if p0 x.2.2 y.2.2=0 then .inl 3 else .inr (.inl (p0 x.2.2 y.2.2))):=by
  show (((bif (x.2.2 != x.2.2) then (bif (y.2.2 != y.2.2) then (some 0) else (some (-1))) else (bif (y.2.2 != y.2.2) then (some 1) else (bif (decide (x.2.2 < y.2.2)) then (some (-1)) else (bif (decide (x.2.2 > y.2.2)) then (some 1) else (some 0))))):Option Int).bind fun o=>bif o != 0 then some (Sum.inr (Sum.inl o)) else some (Sum.inl (IntKind.wrap .i64 (2+1))))=_
  rw [Xn,Option.bind_some,GY]; split <;> rfl
 have h3:gR 5 x y 3=some (.inr (.inr ())):=rfl
 rw [Ku,bD,h0,Option.bind_some]
 unfold jC
 by_cases e1:x.2.1=y.2.1
 ·rw [if_pos (kb.2 e1),Sum.elim_inl,bD,h1,Option.bind_some,if_neg (show ¬ x.2.1 < y.2.1 by omega),if_neg (show ¬ x.2.1 > y.2.1 by omega)]
  by_cases e2:x.1=y.1
  ·rw [if_pos (kb.2 e2),Sum.elim_inl,bD,h2,Option.bind_some,if_neg (show ¬ x.1 < y.1 by omega),if_neg (show ¬ x.1 > y.1 by omega)]
   by_cases e3:p0 x.2.2 y.2.2=0
   ·rw [if_pos e3,e3,Sum.elim_inl,bD,h3]; rfl
   ·rw [if_neg e3]; rfl
  ·rw [if_neg (fun h=>e2 (kb.1 h))]
   by_cases h:x.1 < y.1
   ·simp [p0,h]
   ·have h':x.1 > y.1:=by omega
    simp [p0,h,h']
 ·rw [if_neg (fun h=>e1 (kb.1 h))]
  by_cases h:x.2.1 < y.2.1
  ·simp [p0,h]
  ·have h':x.2.1 > y.2.1:=by omega
   simp [p0,h,h']
theorem Av (lo:Nat):(nY lo).P=bF.P:=rfl
theorem pV (lo:Nat):(nY lo).bY=bF.bY:=rfl
theorem wU (lo:Nat):(nY lo).gx=fun _=>false:=rfl
theorem wV (lo:Nat):(nY lo).lo=lo:=rfl
theorem D7 {E:Env} {g:FuncId} {F:(Int × Int) × (Int × Int)→Option Int} (hF:an E g ⟨.cons cG (.cons cG .nil),.int .i64,F⟩) (x y:Int × Int) (z:Int) (h:F (x,y)=some z):aR E g [cG.enc x,cG.enc y] (fun r=>r=.int .i64 z):=hF (x,y) z h
theorem wW {E:Env} {g:FuncId} {F:(Int × Int × Int) × (Int × Int × Int)→Option Int} (hF:an E g ⟨.cons aP (.cons aP .nil),.int .i64,F⟩) (x y:Int × Int × Int) (z:Int) (h:F (x,y)=some z):aR E g [aP.enc x,aP.enc y] (fun r=>r=.int .i64 z):=hF (x,y) z h
theorem D8 (E:Env) (hP:E.P=bF.P) (hG:E.bY=bF.bY) (hx:E.gx=fun _=>false) (x y:Int × Int):aR E 177 [cG.enc x,cG.enc y] (fun r=>r=.int .i64 (yW x y)):=
 aR.env (E:=nY E.lo) ((Av E.lo).trans hP.symm) ((pV E.lo).trans hG.symm) (D7 (F:=Fv E.lo 5) (Kv E.lo 5) x y (yW x y) (O4 E.lo x y)) (wV E.lo) ((wU E.lo).trans hx.symm)
theorem D9 (E:Env) (hP:E.P=bF.P) (hG:E.bY=bF.bY) (hx:E.gx=fun _=>false) (x y:Int × Int × Int):aR E 127 [aP.enc x,aP.enc y] (fun r=>r=.int .i64 (jC x y)):=
 aR.env (E:=nY E.lo) ((Av E.lo).trans hP.symm) ((pV E.lo).trans hG.symm) (wW (F:=Ft E.lo 5) (Kr E.lo 5) x y (jC x y) (O6 E.lo x y)) (wV E.lo) ((wU E.lo).trans hx.symm)
theorem Ea (E:Env) (hP:E.P=bF.P) (hG:E.bY=bF.bY) (hx:E.gx=fun _=>false) (x y:Int × Int × Int):aR E 136 [aP.enc x,aP.enc y] (fun r=>r=.int .i64 (jC x y)):=
 aR.env (E:=nY E.lo) ((Av E.lo).trans hP.symm) ((pV E.lo).trans hG.symm) (wW (F:=Fu E.lo 5) (Kt E.lo 5) x y (jC x y) (O7 E.lo x y)) (wV E.lo) ((wU E.lo).trans hx.symm)
theorem QK (x:Int × Int × Int):∀ a∈[AV.int .i64 x.1,AV.int .i64 x.2.1,AV.int .i64 x.2.2],fX a=true:=fun a h=>by
 rcases List.mem_cons.1 h with rfl | h
 ·rfl
 ·rcases List.mem_cons.1 h with rfl | h
  ·rfl
  ·rcases List.mem_cons.1 h with rfl | h
   ·rfl
   ·cases h
theorem Xo:oF bF.P bF.bY 177 cG 2 yW where
 flat:=rfl
 size:=fun _=>rfl
 D1:=fun x a h=>by
  have h:a∈[AV.int .i64 x.1,AV.int .i64 x.2]:=h
  rcases List.mem_cons.1 h with rfl | h
  ·rfl
  ·rcases List.mem_cons.1 h with rfl | h
   ·rfl
   ·cases h
 agg:=fun x=>⟨[AV.int .i64 x.1,AV.int .i64 x.2],rfl⟩
 calls:=D8
 swo:=Kx
 Yt:=Kz
theorem Xp:oF bF.P bF.bY 127 aP 3 jC where
 flat:=rfl
 size:=fun _=>rfl
 D1:=fun x a h=>QK x a h
 agg:=fun x=>⟨[AV.int .i64 x.1,AV.int .i64 x.2.1,AV.int .i64 x.2.2],rfl⟩
 calls:=D9
 swo:=Ky
 Yt:=O3
theorem Xq:oF bF.P bF.bY 136 aP 3 jC where
 flat:=rfl
 size:=fun _=>rfl
 D1:=fun x a h=>QK x a h
 agg:=fun x=>⟨[AV.int .i64 x.1,AV.int .i64 x.2.1,AV.int .i64 x.2.2],rfl⟩
 calls:=Ea
 swo:=Ky
 Yt:=O3
def KA (p:aj) (cf:p.T→p.T→Int) (sz:Nat) (el:TypeId) (c c2:FuncId) (args:List AV) (G:List GO):Option (Bool × AV × List GO):=
 match wJ p cf sz el c args G with
 | some r=>some r
 | none=>wJ p cf sz el c2 args G
noncomputable def TF:pK bF 176:=⟨wJ cG yW 2 86 177,wL (ρ:=Tryz.yV) Tryz.Xm (Plain.of Tryz.func176 (by kernel_rfl) (by kernel_rfl)) (Plain.of Tryz.func177 (by kernel_rfl) (by kernel_rfl)) (fun w=>Tryz.isAgg86 w) (fun w=>Tryz.sizeOf86 w) Xo (by kernel_rfl) (Nat.le_succ 1)⟩
theorem KB:∀ (args:List AV) (G:List GO) (r:AV) (G':List GO),wJ aP jC 3 106 127 args G=some (true,r,G')→cp bF 135 args G (fun r' Cv=>r'=r∧Cv=G'):=
 wL (ρ:=Tryz.sk) Tryz.QJ (Plain.of Tryz.func135 (by kernel_rfl) (by kernel_rfl)) (Plain.of Tryz.func127 (by kernel_rfl) (by kernel_rfl)) (fun w=>Tryz.isAgg106 w) (fun w=>Tryz.sizeOf106 w) Xp (by kernel_rfl) (by decide)
theorem KC:∀ (args:List AV) (G:List GO) (r:AV) (G':List GO),wJ aP jC 3 106 136 args G=some (true,r,G')→cp bF 135 args G (fun r' Cv=>r'=r∧Cv=G'):=
 wL (ρ:=Tryz.sk) Tryz.QJ (Plain.of Tryz.func135 (by kernel_rfl) (by kernel_rfl)) (Plain.of Tryz.func136 (by kernel_rfl) (by kernel_rfl)) (fun w=>Tryz.isAgg106 w) (fun w=>Tryz.sizeOf106 w) Xq (by kernel_rfl) (by decide)
noncomputable def TG:pK bF 135:=⟨KA aP jC 3 106 127 136,fun args G r G' h=>by
 unfold KA at h
 split at h
 ·rename_i r0 h0
  injection h with h
  subst h
  exact KB args G r G' h0
 ·exact KC args G r G' h⟩
noncomputable def gtS:(g:FuncId)→Option (pK bF g)
 | 176=>some TF
 | 135=>some TG
 | _=>none
noncomputable def Aw (N:Nat) (yH:List (Nat × aL)) (pL:List (Nat × List (Nat × cE))):ej:={ cx N yH pL with gt:=gtS }
end Go.Proofs.YtldcljfjjoidhaaGreatDoor
