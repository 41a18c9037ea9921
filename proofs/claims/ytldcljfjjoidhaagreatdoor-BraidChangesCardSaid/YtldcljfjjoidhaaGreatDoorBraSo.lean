/- The comparing functions of the sorts,and the sorts' entries. -/
import Derived.Test.YtldcljfjjoidhaaGreatDoorBraTk
import Derived.Test.YtldcljfjjoidhaaGreatDoorBraSort
import Derived.Test.YtldcljfjjoidhaaGreatDoorAmKL
import Derived.Test.YtldcljfjjoidhaaGreatDoorAmKK
set_option linter.all false
namespace Go.Proofs.YtldcljfjjoidhaaGreatDoor
open Go Go.Am Go.Sort Go.Shelf Go.Proofs
set_option maxRecDepth 100000
instance:Inhabited nF.T:=⟨((0,0):Int × Int)⟩
instance:Inhabited ej.T:=⟨((0,0,0):Int × Int × Int)⟩
def pg (a b:Int):Int:=if a < b then -1 else if a > b then 1 else 0
def IG (x y:Int × Int):Int:=if x.2 < y.2 then -1 else if x.2 > y.2 then 1 else pg x.1 y.1
def zn (x y:Int × Int × Int):Int:=if x.2.1 < y.2.1 then -1 else if x.2.1 > y.2.1 then 1 else if x.1 < y.1 then -1 else if x.1 > y.1 then 1 else pg x.2.2 y.2.2
theorem DX {a b:Int}:pg a b < 0↔a < b:=by
 unfold pg
 split
 ·constructor <;> intro <;> omega
 ·split <;> (constructor <;> intro <;> omega)
theorem yY (x y:Int × Int):ltOf IG x y=decide (x.2 < y.2∨x.2=y.2∧x.1 < y.1):=by
 unfold ltOf IG
 rw [decide_eq_decide]
 split
 ·constructor <;> intro <;> omega
 ·split
  ·constructor <;> intro <;> omega
  ·rw [DX]
   constructor <;> intro <;> omega
theorem yZ (x y:Int × Int × Int):ltOf zn x y=decide (x.2.1 < y.2.1∨x.2.1=y.2.1∧(x.1 < y.1∨x.1=y.1∧x.2.2 < y.2.2)):=by
 unfold ltOf zn
 rw [decide_eq_decide]
 split
 ·constructor <;> intro <;> omega
 ·split
  ·constructor <;> intro <;> omega
  ·split
   ·constructor <;> intro <;> omega
   ·split
    ·constructor <;> intro <;> omega
    ·rw [DX]
     constructor <;> intro <;> omega
theorem XI:SWO (ltOf IG):=by
 refine ⟨fun x=>?_,fun x y z h1 h2=>?_,fun x y z h1 h2=>?_⟩
 ·rw [yY]; exact decide_eq_false (by omega)
 ·rw [yY] at *
  have h1:=of_decide_eq_true h1
  have h2:=of_decide_eq_true h2
  exact decide_eq_true (by omega)
 ·rw [yY] at *
  have h1:=of_decide_eq_false h1
  have h2:=of_decide_eq_false h2
  exact decide_eq_false (by omega)
theorem Um:SWO (ltOf zn):=by
 refine ⟨fun x=>?_,fun x y z h1 h2=>?_,fun x y z h1 h2=>?_⟩
 ·rw [yZ]; exact decide_eq_false (by omega)
 ·rw [yZ] at *
  have h1:=of_decide_eq_true h1
  have h2:=of_decide_eq_true h2
  exact decide_eq_true (by omega)
 ·rw [yZ] at *
  have h1:=of_decide_eq_false h1
  have h2:=of_decide_eq_false h2
  exact decide_eq_false (by omega)
theorem XJ (x y:Int × Int) (h1:ltOf IG x y=false) (h2:ltOf IG y x=false):x=y:=by
 rw [yY] at *
 have h1:=of_decide_eq_false h1
 have h2:=of_decide_eq_false h2
 exact Prod.ext (by omega) (by omega)
theorem Un (x y:Int × Int × Int) (h1:ltOf zn x y=false) (h2:ltOf zn y x=false):x=y:=by
 rw [yZ] at *
 have h1:=of_decide_eq_false h1
 have h2:=of_decide_eq_false h2
 exact Prod.ext (by omega) (Prod.ext (by omega) (by omega))
theorem Uo (a b:Int):((bif (a != a) then (bif (b != b) then (some 0) else (some (-1))) else (bif (b != b) then (some 1) else (bif (decide (a < b)) then (some (-1)) else (bif (decide (a > b)) then (some 1) else (some 0))))):Option Int)=some (pg a b):=by
 unfold pg
 rw [bne_self_eq_false,bne_self_eq_false]
 by_cases h:a < b
 ·simp [h]
 ·by_cases h':a > b <;> simp [h,h']
theorem jH {a b:Int}:pg a b=0↔a=b:=by
 unfold pg
 split
 ·constructor <;> intro <;> omega
 ·split <;> (constructor <;> intro <;> omega)
theorem Bj {X:Type} (o:Int) (a b:X):(bif o != 0 then a else b)=if o=0 then b else a:=by
 by_cases h:o=0
 ·subst h; rfl
 ·rw [if_neg h,bne_iff_ne.2 h]; rfl
theorem MS (lo:Nat) (x y:Int × Int):DW lo 5 (x,y)=some (IG x y):=by
 have h0:∀ o1 o2:Int,gz 5 o1 o2 0=some (if o1=0 then .inl 1 else .inr (.inl o1)):=fun o1 o2=>by
  show (bif o1 != 0 then some (Sum.inr (Sum.inl o1)) else some (Sum.inl (IntKind.wrap .i64 (0+1))))=_
  rw [Bj]; split <;> rfl
 have h1:∀ o1 o2:Int,gz 5 o1 o2 1=some (if o2=0 then .inl 2 else .inr (.inl o2)):=fun o1 o2=>by
  show (bif o2 != 0 then some (Sum.inr (Sum.inl o2)) else some (Sum.inl (IntKind.wrap .i64 (1+1))))=_
  rw [Bj]; split <;> rfl
 have h2:∀ o1 o2:Int,gz 5 o1 o2 2=some (.inr (.inr ())):=fun o1 o2=>rfl
 have L:∀ o1 o2:Int,aQ (gz 5 o1 o2) 5 0=some (if o1=0 then (if o2=0 then .inr () else .inl o2) else .inl o1):=fun o1 o2=>by
  rw [a6,h0,Option.bind_some]
  by_cases e1:o1=0
  ·rw [if_pos e1,if_pos e1,Sum.elim_inl,a6,h1,Option.bind_some]
   by_cases e2:o2=0
   ·rw [if_pos e2,if_pos e2,Sum.elim_inl,a6,h2]; rfl
   ·rw [if_neg e2,if_neg e2]; rfl
  ·rw [if_neg e1,if_neg e1]; rfl
 rw [IF]
 simp only [Uo,beq_self_eq_true,Bool.and_self,cond_true,Option.bind_some,L]
 unfold IG
 by_cases e1:x.2 < y.2
 ·have:¬ x.2=y.2:=by omega
  simp [pg,e1]
 ·by_cases e2:x.2 > y.2
  ·simp [pg,e1,e2]
  ·have e:x.2=y.2:=by omega
   have e3:pg x.2 y.2=0:=jH.2 e
   rw [if_neg e1,if_neg e2,e3,if_pos rfl]
   by_cases e4:pg x.1 y.1=0
   ·rw [if_pos e4,e4]; rfl
   ·rw [if_neg e4]; rfl
theorem MT (lo:Nat) (x y:Int × Int × Int):DU lo 5 (x,y)=some (zn x y):=by
 have h0:∀ o1 o2 o3:Int,fj 5 o1 o2 o3 0=some (if o1=0 then .inl 1 else .inr (.inl o1)):=fun o1 o2 o3=>by
  show (bif o1 != 0 then some (Sum.inr (Sum.inl o1)) else some (Sum.inl (IntKind.wrap .i64 (0+1))))=_
  rw [Bj]; split <;> rfl
 have h1:∀ o1 o2 o3:Int,fj 5 o1 o2 o3 1=some (if o2=0 then .inl 2 else .inr (.inl o2)):=fun o1 o2 o3=>by
  show (bif o2 != 0 then some (Sum.inr (Sum.inl o2)) else some (Sum.inl (IntKind.wrap .i64 (1+1))))=_
  rw [Bj]; split <;> rfl
 have h2:∀ o1 o2 o3:Int,fj 5 o1 o2 o3 2=some (if o3=0 then .inl 3 else .inr (.inl o3)):=fun o1 o2 o3=>by
  show (bif o3 != 0 then some (Sum.inr (Sum.inl o3)) else some (Sum.inl (IntKind.wrap .i64 (2+1))))=_
  rw [Bj]; split <;> rfl
 have h3:∀ o1 o2 o3:Int,fj 5 o1 o2 o3 3=some (.inr (.inr ())):=fun o1 o2 o3=>rfl
 have L:∀ o1 o2 o3:Int,aQ (fj 5 o1 o2 o3) 5 0=some (if o1=0 then (if o2=0 then (if o3=0 then .inr () else .inl o3) else .inl o2) else .inl o1):=fun o1 o2 o3=>by
  rw [a6,h0,Option.bind_some]
  by_cases e1:o1=0
  ·rw [if_pos e1,if_pos e1,Sum.elim_inl,a6,h1,Option.bind_some]
   by_cases e2:o2=0
   ·rw [if_pos e2,if_pos e2,Sum.elim_inl,a6,h2,Option.bind_some]
    by_cases e3:o3=0
    ·rw [if_pos e3,if_pos e3,Sum.elim_inl,a6,h3]; rfl
    ·rw [if_neg e3,if_neg e3]; rfl
   ·rw [if_neg e2,if_neg e2]; rfl
  ·rw [if_neg e1,if_neg e1]; rfl
 rw [IB]
 simp only [Uo,beq_self_eq_true,Bool.and_self,cond_true,Option.bind_some,L]
 unfold zn
 by_cases e1:x.2.1 < y.2.1
 ·simp [pg,e1]
 ·by_cases e2:x.2.1 > y.2.1
  ·simp [pg,e1,e2]
  ·have e:x.2.1=y.2.1:=by omega
   have e3:pg x.2.1 y.2.1=0:=jH.2 e
   rw [if_neg e1,if_neg e2,e3,if_pos rfl]
   by_cases f1:x.1 < y.1
   ·simp [pg,f1]
   ·by_cases f2:x.1 > y.1
    ·simp [pg,f1,f2]
    ·have f:x.1=y.1:=by omega
     have f3:pg x.1 y.1=0:=jH.2 f
     rw [if_neg f1,if_neg f2,f3,if_pos rfl]
     by_cases e4:pg x.2.2 y.2.2=0
     ·rw [if_pos e4,e4]; rfl
     ·rw [if_neg e4]; rfl
theorem MU (lo:Nat) (x y:Int × Int × Int):DV lo 5 (x,y)=some (zn x y):=by
 have h0:gy 5 x y 0=some (if pg x.2.1 y.2.1=0 then .inl 1 else .inr (.inl (pg x.2.1 y.2.1))):=by
  show (((bif (x.2.1 != x.2.1) then (bif (y.2.1 != y.2.1) then (some 0) else (some (-1))) else (bif (y.2.1 != y.2.1) then (some 1) else (bif (decide (x.2.1 < y.2.1)) then (some (-1)) else (bif (decide (x.2.1 > y.2.1)) then (some 1) else (some 0))))):Option Int).bind fun o=>bif o != 0 then some (Sum.inr (Sum.inl o)) else some (Sum.inl (IntKind.wrap .i64 (0+1))))=_
  rw [Uo,Option.bind_some,Bj]; split <;> rfl
 have h1:gy 5 x y 1=some (if pg x.1 y.1=0 then .inl 2 else .inr (.inl (pg x.1 y.1))):=by
  show (((bif (x.1 != x.1) then (bif (y.1 != y.1) then (some 0) else (some (-1))) else (bif (y.1 != y.1) then (some 1) else (bif (decide (x.1 < y.1)) then (some (-1)) else (bif (decide (x.1 > y.1)) then (some 1) else (some 0))))):Option Int).bind fun o=>bif o != 0 then some (Sum.inr (Sum.inl o)) else some (Sum.inl (IntKind.wrap .i64 (1+1))))=_
  rw [Uo,Option.bind_some,Bj]; split <;> rfl
 have h2:gy 5 x y 2=some (if pg x.2.2 y.2.2=0 then .inl 3 else .inr (.inl (pg x.2.2 y.2.2))):=by
  show (((bif (x.2.2 != x.2.2) then (bif (y.2.2 != y.2.2) then (some 0) else (some (-1))) else (bif (y.2.2 != y.2.2) then (some 1) else (bif (decide (x.2.2 < y.2.2)) then (some (-1)) else (bif (decide (x.2.2 > y.2.2)) then (some 1) else (some 0))))):Option Int).bind fun o=>bif o != 0 then some (Sum.inr (Sum.inl o)) else some (Sum.inl (IntKind.wrap .i64 (2+1))))=_
  rw [Uo,Option.bind_some,Bj]; split <;> rfl
 have h3:gy 5 x y 3=some (.inr (.inr ())):=rfl
 rw [ID,a6,h0,Option.bind_some]
 unfold zn
 by_cases e1:x.2.1=y.2.1
 ·rw [if_pos (jH.2 e1),Sum.elim_inl,a6,h1,Option.bind_some,if_neg (show ¬ x.2.1 < y.2.1 by omega),if_neg (show ¬ x.2.1 > y.2.1 by omega)]
  by_cases e2:x.1=y.1
  ·rw [if_pos (jH.2 e2),Sum.elim_inl,a6,h2,Option.bind_some,if_neg (show ¬ x.1 < y.1 by omega),if_neg (show ¬ x.1 > y.1 by omega)]
   by_cases e3:pg x.2.2 y.2.2=0
   ·rw [if_pos e3,e3,Sum.elim_inl,a6,h3]; rfl
   ·rw [if_neg e3]; rfl
  ·rw [if_neg (fun h=>e2 (jH.1 h))]
   by_cases h:x.1 < y.1
   ·simp [pg,h]
   ·have h':x.1 > y.1:=by omega
    simp [pg,h,h']
 ·rw [if_neg (fun h=>e1 (jH.1 h))]
  by_cases h:x.2.1 < y.2.1
  ·simp [pg,h]
  ·have h':x.2.1 > y.2.1:=by omega
   simp [pg,h,h']
theorem za (lo:Nat):(nb lo).P=bF.P:=rfl
theorem oW (lo:Nat):(nb lo).bN=bF.bN:=rfl
theorem vC (lo:Nat):(nb lo).gx=fun _=>false:=rfl
theorem vD (lo:Nat):(nb lo).lo=lo:=rfl
theorem CT {E:Env} {g:FuncId} {F:(Int × Int) × (Int × Int)→Option Int} (hF:ao E g ⟨.cons nF (.cons nF .nil),.int .i64,F⟩) (x y:Int × Int) (z:Int) (h:F (x,y)=some z):aM E g [nF.enc x,nF.enc y] (fun r=>r=.int .i64 z):=hF (x,y) z h
theorem vE {E:Env} {g:FuncId} {F:(Int × Int × Int) × (Int × Int × Int)→Option Int} (hF:ao E g ⟨.cons ej (.cons ej .nil),.int .i64,F⟩) (x y:Int × Int × Int) (z:Int) (h:F (x,y)=some z):aM E g [ej.enc x,ej.enc y] (fun r=>r=.int .i64 z):=hF (x,y) z h
theorem CU (E:Env) (hP:E.P=bF.P) (hG:E.bN=bF.bN) (hx:E.gx=fun _=>false) (x y:Int × Int):aM E 177 [nF.enc x,nF.enc y] (fun r=>r=.int .i64 (IG x y)):=
 aM.env (E:=nb E.lo) ((za E.lo).trans hP.symm) ((oW E.lo).trans hG.symm) (CT (F:=DW E.lo 5) (IE E.lo 5) x y (IG x y) (MS E.lo x y)) (vD E.lo) ((vC E.lo).trans hx.symm)
theorem CV (E:Env) (hP:E.P=bF.P) (hG:E.bN=bF.bN) (hx:E.gx=fun _=>false) (x y:Int × Int × Int):aM E 127 [ej.enc x,ej.enc y] (fun r=>r=.int .i64 (zn x y)):=
 aM.env (E:=nb E.lo) ((za E.lo).trans hP.symm) ((oW E.lo).trans hG.symm) (vE (F:=DU E.lo 5) (IA E.lo 5) x y (zn x y) (MT E.lo x y)) (vD E.lo) ((vC E.lo).trans hx.symm)
theorem CW (E:Env) (hP:E.P=bF.P) (hG:E.bN=bF.bN) (hx:E.gx=fun _=>false) (x y:Int × Int × Int):aM E 136 [ej.enc x,ej.enc y] (fun r=>r=.int .i64 (zn x y)):=
 aM.env (E:=nb E.lo) ((za E.lo).trans hP.symm) ((oW E.lo).trans hG.symm) (vE (F:=DV E.lo 5) (IC E.lo 5) x y (zn x y) (MU E.lo x y)) (vD E.lo) ((vC E.lo).trans hx.symm)
theorem N2 (x:Int × Int × Int):∀ a∈[AV.int .i64 x.1,AV.int .i64 x.2.1,AV.int .i64 x.2.2],eY a=true:=fun a h=>by
 rcases List.mem_cons.1 h with rfl | h
 ·rfl
 ·rcases List.mem_cons.1 h with rfl | h
  ·rfl
  ·rcases List.mem_cons.1 h with rfl | h
   ·rfl
   ·cases h
theorem Up:nH bF.P bF.bN 177 nF 2 IG where
 flat:=rfl
 size:=fun _=>rfl
 CO:=fun x a h=>by
  have h:a∈[AV.int .i64 x.1,AV.int .i64 x.2]:=h
  rcases List.mem_cons.1 h with rfl | h
  ·rfl
  ·rcases List.mem_cons.1 h with rfl | h
   ·rfl
   ·cases h
 agg:=fun x=>⟨[AV.int .i64 x.1,AV.int .i64 x.2],rfl⟩
 calls:=CU
 swo:=XI
 U1:=XJ
theorem Uq:nH bF.P bF.bN 127 ej 3 zn where
 flat:=rfl
 size:=fun _=>rfl
 CO:=fun x a h=>N2 x a h
 agg:=fun x=>⟨[AV.int .i64 x.1,AV.int .i64 x.2.1,AV.int .i64 x.2.2],rfl⟩
 calls:=CV
 swo:=Um
 U1:=Un
theorem Ur:nH bF.P bF.bN 136 ej 3 zn where
 flat:=rfl
 size:=fun _=>rfl
 CO:=fun x a h=>N2 x a h
 agg:=fun x=>⟨[AV.int .i64 x.1,AV.int .i64 x.2.1,AV.int .i64 x.2.2],rfl⟩
 calls:=CW
 swo:=Um
 U1:=Un
def IH (p:an) (cf:p.T→p.T→Int) (sz:Nat) (el:TypeId) (c c2:FuncId) (args:List AV) (G:List GO):Option (Bool × AV × List GO):=
 match vp p cf sz el c args G with
 | some r=>some r
 | none=>vp p cf sz el c2 args G
noncomputable def QT:lD bF 176:=⟨vp nF IG 2 86 177,vr (ρ:=Tryz.xw) Tryz.Ul (Plain.of Tryz.func176 (by kernel_rfl) (by kernel_rfl)) (Plain.of Tryz.func177 (by kernel_rfl) (by kernel_rfl)) (fun w=>Tryz.isAgg86 w) (fun w=>Tryz.sizeOf86 w) Up (by kernel_rfl) (Nat.le_succ 1)⟩
theorem II:∀ (args:List AV) (G:List GO) (r:AV) (G':List GO),vp ej zn 3 106 127 args G=some (true,r,G')→bU bF 135 args G (fun r' wY=>r'=r∧wY=G'):=
 vr (ρ:=Tryz.q9) Tryz.N1 (Plain.of Tryz.func135 (by kernel_rfl) (by kernel_rfl)) (Plain.of Tryz.func127 (by kernel_rfl) (by kernel_rfl)) (fun w=>Tryz.isAgg106 w) (fun w=>Tryz.sizeOf106 w) Uq (by kernel_rfl) (by decide)
theorem IJ:∀ (args:List AV) (G:List GO) (r:AV) (G':List GO),vp ej zn 3 106 136 args G=some (true,r,G')→bU bF 135 args G (fun r' wY=>r'=r∧wY=G'):=
 vr (ρ:=Tryz.q9) Tryz.N1 (Plain.of Tryz.func135 (by kernel_rfl) (by kernel_rfl)) (Plain.of Tryz.func136 (by kernel_rfl) (by kernel_rfl)) (fun w=>Tryz.isAgg106 w) (fun w=>Tryz.sizeOf106 w) Ur (by kernel_rfl) (by decide)
noncomputable def QU:lD bF 135:=⟨IH ej zn 3 106 127 136,fun args G r G' h=>by
 unfold IH at h
 split at h
 ·rename_i r0 h0
  injection h with h
  subst h
  exact II args G r G' h0
 ·exact IJ args G r G' h⟩
end Go.Proofs.YtldcljfjjoidhaaGreatDoor
