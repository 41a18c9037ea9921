/- The comparing functions of the sorts,and the sorts' entries. -/
import Derived.Test.YtldcljfjjoidhaaGreatDoorBraTk
import Derived.Test.YtldcljfjjoidhaaGreatDoorBraSort
import Derived.Test.YtldcljfjjoidhaaGreatDoorAmKL
import Derived.Test.YtldcljfjjoidhaaGreatDoorAmKK
set_option linter.all false
namespace Go.Proofs.YtldcljfjjoidhaaGreatDoor
open Go Go.Am Go.Sort Go.Shelf Go.Proofs
set_option maxRecDepth 100000
instance:Inhabited cG.T:=⟨((0,0):Int × Int)⟩
instance:Inhabited aM.T:=⟨((0,0,0):Int × Int × Int)⟩
def pW (a b:Int):Int:=if a < b then -1 else if a > b then 1 else 0
def yI (x y:Int × Int):Int:=if x.2 < y.2 then -1 else if x.2 > y.2 then 1 else pW x.1 y.1
def j9 (x y:Int × Int × Int):Int:=if x.2.1 < y.2.1 then -1 else if x.2.1 > y.2.1 then 1 else if x.1 < y.1 then -1 else if x.1 > y.1 then 1 else pW x.2.2 y.2.2
theorem Fg {a b:Int}:pW a b < 0↔a < b:=by
 unfold pW
 split
 ·constructor <;> intro <;> omega
 ·split <;> (constructor <;> intro <;> omega)
theorem wH (x y:Int × Int):ltOf yI x y=decide (x.2 < y.2∨x.2=y.2∧x.1 < y.1):=by
 unfold ltOf yI
 rw [decide_eq_decide]
 split
 ·constructor <;> intro <;> omega
 ·split
  ·constructor <;> intro <;> omega
  ·rw [Fg]
   constructor <;> intro <;> omega
theorem wI (x y:Int × Int × Int):ltOf j9 x y=decide (x.2.1 < y.2.1∨x.2.1=y.2.1∧(x.1 < y.1∨x.1=y.1∧x.2.2 < y.2.2)):=by
 unfold ltOf j9
 rw [decide_eq_decide]
 split
 ·constructor <;> intro <;> omega
 ·split
  ·constructor <;> intro <;> omega
  ·split
   ·constructor <;> intro <;> omega
   ·split
    ·constructor <;> intro <;> omega
    ·rw [Fg]
     constructor <;> intro <;> omega
theorem Te:SWO (ltOf yI):=by
 refine ⟨fun x=>?_,fun x y z h1 h2=>?_,fun x y z h1 h2=>?_⟩
 ·rw [wH]; exact decide_eq_false (by omega)
 ·rw [wH] at *
  have h1:=of_decide_eq_true h1
  have h2:=of_decide_eq_true h2
  exact decide_eq_true (by omega)
 ·rw [wH] at *
  have h1:=of_decide_eq_false h1
  have h2:=of_decide_eq_false h2
  exact decide_eq_false (by omega)
theorem Kt:SWO (ltOf j9):=by
 refine ⟨fun x=>?_,fun x y z h1 h2=>?_,fun x y z h1 h2=>?_⟩
 ·rw [wI]; exact decide_eq_false (by omega)
 ·rw [wI] at *
  have h1:=of_decide_eq_true h1
  have h2:=of_decide_eq_true h2
  exact decide_eq_true (by omega)
 ·rw [wI] at *
  have h1:=of_decide_eq_false h1
  have h2:=of_decide_eq_false h2
  exact decide_eq_false (by omega)
theorem Tf (x y:Int × Int) (h1:ltOf yI x y=false) (h2:ltOf yI y x=false):x=y:=by
 rw [wH] at *
 have h1:=of_decide_eq_false h1
 have h2:=of_decide_eq_false h2
 exact Prod.ext (by omega) (by omega)
theorem OM (x y:Int × Int × Int) (h1:ltOf j9 x y=false) (h2:ltOf j9 y x=false):x=y:=by
 rw [wI] at *
 have h1:=of_decide_eq_false h1
 have h2:=of_decide_eq_false h2
 exact Prod.ext (by omega) (Prod.ext (by omega) (by omega))
theorem WZ (a b:Int):((bif (a != a) then (bif (b != b) then (some 0) else (some (-1))) else (bif (b != b) then (some 1) else (bif (decide (a < b)) then (some (-1)) else (bif (decide (a > b)) then (some 1) else (some 0))))):Option Int)=some (pW a b):=by
 unfold pW
 rw [bne_self_eq_false,bne_self_eq_false]
 by_cases h:a < b
 ·simp [h]
 ·by_cases h':a > b <;> simp [h,h']
theorem jZ {a b:Int}:pW a b=0↔a=b:=by
 unfold pW
 split
 ·constructor <;> intro <;> omega
 ·split <;> (constructor <;> intro <;> omega)
theorem GJ {X:Type} (o:Int) (a b:X):(bif o != 0 then a else b)=if o=0 then b else a:=by
 by_cases h:o=0
 ·subst h; rfl
 ·rw [if_neg h,bne_iff_ne.2 h]; rfl
theorem ON (lo:Nat) (x y:Int × Int):Ff lo 5 (x,y)=some (yI x y):=by
 have h0:∀ o1 o2:Int,gP 5 o1 o2 0=some (if o1=0 then .inl 1 else .inr (.inl o1)):=fun o1 o2=>by
  show (bif o1 != 0 then some (Sum.inr (Sum.inl o1)) else some (Sum.inl (IntKind.wrap .i64 (0+1))))=_
  rw [GJ]; split <;> rfl
 have h1:∀ o1 o2:Int,gP 5 o1 o2 1=some (if o2=0 then .inl 2 else .inr (.inl o2)):=fun o1 o2=>by
  show (bif o2 != 0 then some (Sum.inr (Sum.inl o2)) else some (Sum.inl (IntKind.wrap .i64 (1+1))))=_
  rw [GJ]; split <;> rfl
 have h2:∀ o1 o2:Int,gP 5 o1 o2 2=some (.inr (.inr ())):=fun o1 o2=>rfl
 have L:∀ o1 o2:Int,az (gP 5 o1 o2) 5 0=some (if o1=0 then (if o2=0 then .inr () else .inl o2) else .inl o1):=fun o1 o2=>by
  rw [bB,h0,Option.bind_some]
  by_cases e1:o1=0
  ·rw [if_pos e1,if_pos e1,Sum.elim_inl,bB,h1,Option.bind_some]
   by_cases e2:o2=0
   ·rw [if_pos e2,if_pos e2,Sum.elim_inl,bB,h2]; rfl
   ·rw [if_neg e2,if_neg e2]; rfl
  ·rw [if_neg e1,if_neg e1]; rfl
 rw [Ks]
 simp only [WZ,beq_self_eq_true,Bool.and_self,cond_true,Option.bind_some,L]
 unfold yI
 by_cases e1:x.2 < y.2
 ·have:¬ x.2=y.2:=by omega
  simp [pW,e1]
 ·by_cases e2:x.2 > y.2
  ·simp [pW,e1,e2]
  ·have e:x.2=y.2:=by omega
   have e3:pW x.2 y.2=0:=jZ.2 e
   rw [if_neg e1,if_neg e2,e3,if_pos rfl]
   by_cases e4:pW x.1 y.1=0
   ·rw [if_pos e4,e4]; rfl
   ·rw [if_neg e4]; rfl
theorem OO (lo:Nat) (x y:Int × Int × Int):Fc lo 5 (x,y)=some (j9 x y):=by
 have h0:∀ o1 o2 o3:Int,fA 5 o1 o2 o3 0=some (if o1=0 then .inl 1 else .inr (.inl o1)):=fun o1 o2 o3=>by
  show (bif o1 != 0 then some (Sum.inr (Sum.inl o1)) else some (Sum.inl (IntKind.wrap .i64 (0+1))))=_
  rw [GJ]; split <;> rfl
 have h1:∀ o1 o2 o3:Int,fA 5 o1 o2 o3 1=some (if o2=0 then .inl 2 else .inr (.inl o2)):=fun o1 o2 o3=>by
  show (bif o2 != 0 then some (Sum.inr (Sum.inl o2)) else some (Sum.inl (IntKind.wrap .i64 (1+1))))=_
  rw [GJ]; split <;> rfl
 have h2:∀ o1 o2 o3:Int,fA 5 o1 o2 o3 2=some (if o3=0 then .inl 3 else .inr (.inl o3)):=fun o1 o2 o3=>by
  show (bif o3 != 0 then some (Sum.inr (Sum.inl o3)) else some (Sum.inl (IntKind.wrap .i64 (2+1))))=_
  rw [GJ]; split <;> rfl
 have h3:∀ o1 o2 o3:Int,fA 5 o1 o2 o3 3=some (.inr (.inr ())):=fun o1 o2 o3=>rfl
 have L:∀ o1 o2 o3:Int,az (fA 5 o1 o2 o3) 5 0=some (if o1=0 then (if o2=0 then (if o3=0 then .inr () else .inl o3) else .inl o2) else .inl o1):=fun o1 o2 o3=>by
  rw [bB,h0,Option.bind_some]
  by_cases e1:o1=0
  ·rw [if_pos e1,if_pos e1,Sum.elim_inl,bB,h1,Option.bind_some]
   by_cases e2:o2=0
   ·rw [if_pos e2,if_pos e2,Sum.elim_inl,bB,h2,Option.bind_some]
    by_cases e3:o3=0
    ·rw [if_pos e3,if_pos e3,Sum.elim_inl,bB,h3]; rfl
    ·rw [if_neg e3,if_neg e3]; rfl
   ·rw [if_neg e2,if_neg e2]; rfl
  ·rw [if_neg e1,if_neg e1]; rfl
 rw [Ko]
 simp only [WZ,beq_self_eq_true,Bool.and_self,cond_true,Option.bind_some,L]
 unfold j9
 by_cases e1:x.2.1 < y.2.1
 ·simp [pW,e1]
 ·by_cases e2:x.2.1 > y.2.1
  ·simp [pW,e1,e2]
  ·have e:x.2.1=y.2.1:=by omega
   have e3:pW x.2.1 y.2.1=0:=jZ.2 e
   rw [if_neg e1,if_neg e2,e3,if_pos rfl]
   by_cases f1:x.1 < y.1
   ·simp [pW,f1]
   ·by_cases f2:x.1 > y.1
    ·simp [pW,f1,f2]
    ·have f:x.1=y.1:=by omega
     have f3:pW x.1 y.1=0:=jZ.2 f
     rw [if_neg f1,if_neg f2,f3,if_pos rfl]
     by_cases e4:pW x.2.2 y.2.2=0
     ·rw [if_pos e4,e4]; rfl
     ·rw [if_neg e4]; rfl
theorem OP (lo:Nat) (x y:Int × Int × Int):Fe lo 5 (x,y)=some (j9 x y):=by
 have h0:gO 5 x y 0=some (if pW x.2.1 y.2.1=0 then .inl 1 else .inr (.inl (pW x.2.1 y.2.1))):=by
  show (((bif (x.2.1 != x.2.1) then (bif (y.2.1 != y.2.1) then (some 0) else (some (-1))) else (bif (y.2.1 != y.2.1) then (some 1) else (bif (decide (x.2.1 < y.2.1)) then (some (-1)) else (bif (decide (x.2.1 > y.2.1)) then (some 1) else (some 0))))):Option Int).bind fun o=>bif o != 0 then some (Sum.inr (Sum.inl o)) else some (Sum.inl (IntKind.wrap .i64 (0+1))))=_
  rw [WZ,Option.bind_some,GJ]; split <;> rfl
 have h1:gO 5 x y 1=some (if pW x.1 y.1=0 then .inl 2 else .inr (.inl (pW x.1 y.1))):=by
  show (((bif (x.1 != x.1) then (bif (y.1 != y.1) then (some 0) else (some (-1))) else (bif (y.1 != y.1) then (some 1) else (bif (decide (x.1 < y.1)) then (some (-1)) else (bif (decide (x.1 > y.1)) then (some 1) else (some 0))))):Option Int).bind fun o=>bif o != 0 then some (Sum.inr (Sum.inl o)) else some (Sum.inl (IntKind.wrap .i64 (1+1))))=_
  rw [WZ,Option.bind_some,GJ]; split <;> rfl
 have h2:gO 5 x y 2=some (if pW x.2.2 y.2.2=0 then .inl 3 else .inr (.inl (pW x.2.2 y.2.2))):=by
  show (((bif (x.2.2 != x.2.2) then (bif (y.2.2 != y.2.2) then (some 0) else (some (-1))) else (bif (y.2.2 != y.2.2) then (some 1) else (bif (decide (x.2.2 < y.2.2)) then (some (-1)) else (bif (decide (x.2.2 > y.2.2)) then (some 1) else (some 0))))):Option Int).bind fun o=>bif o != 0 then some (Sum.inr (Sum.inl o)) else some (Sum.inl (IntKind.wrap .i64 (2+1))))=_
  rw [WZ,Option.bind_some,GJ]; split <;> rfl
 have h3:gO 5 x y 3=some (.inr (.inr ())):=rfl
 rw [Kq,bB,h0,Option.bind_some]
 unfold j9
 by_cases e1:x.2.1=y.2.1
 ·rw [if_pos (jZ.2 e1),Sum.elim_inl,bB,h1,Option.bind_some,if_neg (show ¬ x.2.1 < y.2.1 by omega),if_neg (show ¬ x.2.1 > y.2.1 by omega)]
  by_cases e2:x.1=y.1
  ·rw [if_pos (jZ.2 e2),Sum.elim_inl,bB,h2,Option.bind_some,if_neg (show ¬ x.1 < y.1 by omega),if_neg (show ¬ x.1 > y.1 by omega)]
   by_cases e3:pW x.2.2 y.2.2=0
   ·rw [if_pos e3,e3,Sum.elim_inl,bB,h3]; rfl
   ·rw [if_neg e3]; rfl
  ·rw [if_neg (fun h=>e2 (jZ.1 h))]
   by_cases h:x.1 < y.1
   ·simp [pW,h]
   ·have h':x.1 > y.1:=by omega
    simp [pW,h,h']
 ·rw [if_neg (fun h=>e1 (jZ.1 h))]
  by_cases h:x.2.1 < y.2.1
  ·simp [pW,h]
  ·have h':x.2.1 > y.2.1:=by omega
   simp [pW,h,h']
theorem z8 (lo:Nat):(nP lo).P=bC.P:=rfl
theorem pR (lo:Nat):(nP lo).bY=bC.bY:=rfl
theorem wJ (lo:Nat):(nP lo).gx=fun _=>false:=rfl
theorem wK (lo:Nat):(nP lo).lo=lo:=rfl
theorem DZ {E:Env} {g:FuncId} {F:(Int × Int) × (Int × Int)→Option Int} (hF:an E g ⟨.cons cG (.cons cG .nil),.int .i64,F⟩) (x y:Int × Int) (z:Int) (h:F (x,y)=some z):aS E g [cG.enc x,cG.enc y] (fun r=>r=.int .i64 z):=hF (x,y) z h
theorem wL {E:Env} {g:FuncId} {F:(Int × Int × Int) × (Int × Int × Int)→Option Int} (hF:an E g ⟨.cons aM (.cons aM .nil),.int .i64,F⟩) (x y:Int × Int × Int) (z:Int) (h:F (x,y)=some z):aS E g [aM.enc x,aM.enc y] (fun r=>r=.int .i64 z):=hF (x,y) z h
theorem D0 (E:Env) (hP:E.P=bC.P) (hG:E.bY=bC.bY) (hx:E.gx=fun _=>false) (x y:Int × Int):aS E 177 [cG.enc x,cG.enc y] (fun r=>r=.int .i64 (yI x y)):=
 aS.env (E:=nP E.lo) ((z8 E.lo).trans hP.symm) ((pR E.lo).trans hG.symm) (DZ (F:=Ff E.lo 5) (Kr E.lo 5) x y (yI x y) (ON E.lo x y)) (wK E.lo) ((wJ E.lo).trans hx.symm)
theorem D1 (E:Env) (hP:E.P=bC.P) (hG:E.bY=bC.bY) (hx:E.gx=fun _=>false) (x y:Int × Int × Int):aS E 127 [aM.enc x,aM.enc y] (fun r=>r=.int .i64 (j9 x y)):=
 aS.env (E:=nP E.lo) ((z8 E.lo).trans hP.symm) ((pR E.lo).trans hG.symm) (wL (F:=Fc E.lo 5) (Kn E.lo 5) x y (j9 x y) (OO E.lo x y)) (wK E.lo) ((wJ E.lo).trans hx.symm)
theorem D2 (E:Env) (hP:E.P=bC.P) (hG:E.bY=bC.bY) (hx:E.gx=fun _=>false) (x y:Int × Int × Int):aS E 136 [aM.enc x,aM.enc y] (fun r=>r=.int .i64 (j9 x y)):=
 aS.env (E:=nP E.lo) ((z8 E.lo).trans hP.symm) ((pR E.lo).trans hG.symm) (wL (F:=Fe E.lo 5) (Kp E.lo 5) x y (j9 x y) (OP E.lo x y)) (wK E.lo) ((wJ E.lo).trans hx.symm)
theorem Qp (x:Int × Int × Int):∀ a∈[AV.int .i64 x.1,AV.int .i64 x.2.1,AV.int .i64 x.2.2],fV a=true:=fun a h=>by
 rcases List.mem_cons.1 h with rfl | h
 ·rfl
 ·rcases List.mem_cons.1 h with rfl | h
  ·rfl
  ·rcases List.mem_cons.1 h with rfl | h
   ·rfl
   ·cases h
theorem W0:ot bC.P bC.bY 177 cG 2 yI where
 flat:=rfl
 size:=fun _=>rfl
 DS:=fun x a h=>by
  have h:a∈[AV.int .i64 x.1,AV.int .i64 x.2]:=h
  rcases List.mem_cons.1 h with rfl | h
  ·rfl
  ·rcases List.mem_cons.1 h with rfl | h
   ·rfl
   ·cases h
 agg:=fun x=>⟨[AV.int .i64 x.1,AV.int .i64 x.2],rfl⟩
 calls:=D0
 swo:=Te
 X6:=Tf
theorem W1:ot bC.P bC.bY 127 aM 3 j9 where
 flat:=rfl
 size:=fun _=>rfl
 DS:=fun x a h=>Qp x a h
 agg:=fun x=>⟨[AV.int .i64 x.1,AV.int .i64 x.2.1,AV.int .i64 x.2.2],rfl⟩
 calls:=D1
 swo:=Kt
 X6:=OM
theorem W2:ot bC.P bC.bY 136 aM 3 j9 where
 flat:=rfl
 size:=fun _=>rfl
 DS:=fun x a h=>Qp x a h
 agg:=fun x=>⟨[AV.int .i64 x.1,AV.int .i64 x.2.1,AV.int .i64 x.2.2],rfl⟩
 calls:=D2
 swo:=Kt
 X6:=OM
def Ku (p:aj) (cf:p.T→p.T→Int) (sz:Nat) (el:TypeId) (c c2:FuncId) (args:List AV) (G:List GO):Option (Bool × AV × List GO):=
 match wv p cf sz el c args G with
 | some r=>some r
 | none=>wv p cf sz el c2 args G
noncomputable def Tg:pG bC 176:=⟨wv cG yI 2 86 177,wy (ρ:=Tryz.yH) Tryz.WY (Plain.of Tryz.func176 (by kernel_rfl) (by kernel_rfl)) (Plain.of Tryz.func177 (by kernel_rfl) (by kernel_rfl)) (fun w=>Tryz.isAgg86 w) (fun w=>Tryz.sizeOf86 w) W0 (by kernel_rfl) (Nat.le_succ 1)⟩
theorem Kv:∀ (args:List AV) (G:List GO) (r:AV) (G':List GO),wv aM j9 3 106 127 args G=some (true,r,G')→cj bC 135 args G (fun r' Cj=>r'=r∧Cj=G'):=
 wy (ρ:=Tryz.r9) Tryz.Qo (Plain.of Tryz.func135 (by kernel_rfl) (by kernel_rfl)) (Plain.of Tryz.func127 (by kernel_rfl) (by kernel_rfl)) (fun w=>Tryz.isAgg106 w) (fun w=>Tryz.sizeOf106 w) W1 (by kernel_rfl) (by decide)
theorem Kw:∀ (args:List AV) (G:List GO) (r:AV) (G':List GO),wv aM j9 3 106 136 args G=some (true,r,G')→cj bC 135 args G (fun r' Cj=>r'=r∧Cj=G'):=
 wy (ρ:=Tryz.r9) Tryz.Qo (Plain.of Tryz.func135 (by kernel_rfl) (by kernel_rfl)) (Plain.of Tryz.func136 (by kernel_rfl) (by kernel_rfl)) (fun w=>Tryz.isAgg106 w) (fun w=>Tryz.sizeOf106 w) W2 (by kernel_rfl) (by decide)
noncomputable def Th:pG bC 135:=⟨Ku aM j9 3 106 127 136,fun args G r G' h=>by
 unfold Ku at h
 split at h
 ·rename_i r0 h0
  injection h with h
  subst h
  exact Kv args G r G' h0
 ·exact Kw args G r G' h⟩
noncomputable def gtS:(g:FuncId)→Option (pG bC g)
 | 176=>some Tg
 | 135=>some Th
 | _=>none
noncomputable def xA (N:Nat) (yo:List (Nat × aJ)) (pH:List (Nat × List (Nat × cu))):ea:={ cx N yo pH with gt:=gtS }
end Go.Proofs.YtldcljfjjoidhaaGreatDoor
