/- The comparing functions of the sorts,and the sorts' entries. -/
import Derived.Test.YtldcljfjjoidhaaGreatDoorBraTk
import Derived.Test.YtldcljfjjoidhaaGreatDoorBraSort
import Derived.Test.YtldcljfjjoidhaaGreatDoorAmKL
import Derived.Test.YtldcljfjjoidhaaGreatDoorAmKK
set_option linter.all false
open List renaming mem_cons→aax
open Option renaming bind_some→aaa
open Sum renaming inl→aab, elim_inl→aac, inr→aaB
namespace Go.Proofs.YtldcljfjjoidhaaGreatDoor
open Go Go.Am Go.Sort Go.Shelf Go.Proofs
open List (map)
open Int (toNat)
open Go.IntKind (wrap)
open Go.Am.aM (fits)
set_option maxRecDepth 100000
instance:Inhabited da.T:=⟨((0,0):Int × Int)⟩
instance:Inhabited ba.T:=⟨((0,0,0):Int × Int × Int)⟩
def sx (a b:Int):Int:=if a < b then -1 else if a > b then 1 else 0
def Bx (x y:Int × Int):Int:=if x.2 < y.2 then -1 else if x.2 > y.2 then 1 else sx x.1 y.1
def qF (x y:Int × Int × Int):Int:=if x.2.1 < y.2.1 then -1 else if x.2.1 > y.2.1 then 1 else if x.1 < y.1 then -1 else if x.1 > y.1 then 1 else sx x.2.2 y.2.2
theorem Iw {a b:Int}:sx a b < 0↔a < b:=by
 unfold sx;split
 ·constructor <;> intro <;> omega
 ·split <;> (constructor <;> intro <;> omega)
theorem zx (x y:Int × Int):ltOf Bx x y=decide (x.2 < y.2∨x.2=y.2∧x.1 < y.1):=by
 unfold ltOf Bx;rw [decide_eq_decide];split
 ·constructor <;> intro <;> omega
 ·split
  ·constructor <;> intro <;> omega
  ·rw [Iw];constructor <;> intro <;> omega
theorem zy (x y:Int × Int × Int):ltOf qF x y=decide (x.2.1 < y.2.1∨x.2.1=y.2.1∧(x.1 < y.1∨x.1=y.1∧x.2.2 < y.2.2)):=by
 unfold ltOf qF;rw [decide_eq_decide];split
 ·constructor <;> intro <;> omega
 ·split
  ·constructor <;> intro <;> omega
  ·split
   ·constructor <;> intro <;> omega
   ·split
    ·constructor <;> intro <;> omega
    ·rw [Iw];constructor <;> intro <;> omega
theorem aaP:SWO (ltOf Bx):=by
 refine ⟨fun x=>?_,fun x y z h1 h2=>?_,fun x y z h1 h2=>?_⟩
 ·rw [zx]; exact decide_eq_false (by omega)
 ·rw [zx] at *;have h1:=of_decide_eq_true h1;have h2:=of_decide_eq_true h2;exact decide_eq_true (by omega)
 ·rw [zx] at *;have h1:=of_decide_eq_false h1;have h2:=of_decide_eq_false h2;exact decide_eq_false (by omega)
theorem NI:SWO (ltOf qF):=by
 refine ⟨fun x=>?_,fun x y z h1 h2=>?_,fun x y z h1 h2=>?_⟩
 ·rw [zy]; exact decide_eq_false (by omega)
 ·rw [zy] at *;have h1:=of_decide_eq_true h1;have h2:=of_decide_eq_true h2;exact decide_eq_true (by omega)
 ·rw [zy] at *;have h1:=of_decide_eq_false h1;have h2:=of_decide_eq_false h2;exact decide_eq_false (by omega)
theorem aaQ (x y:Int × Int) (h1:ltOf Bx x y=false) (h2:ltOf Bx y x=false):x=y:=by
 rw [zx] at *;have h1:=of_decide_eq_false h1;have h2:=of_decide_eq_false h2;exact Prod.ext (by omega) (by omega)
theorem Ss (x y:Int × Int × Int) (h1:ltOf qF x y=false) (h2:ltOf qF y x=false):x=y:=by
 rw [zy] at *;have h1:=of_decide_eq_false h1;have h2:=of_decide_eq_false h2;exact Prod.ext (by omega) (Prod.ext (by omega) (by omega))
theorem ccB (a b:Int):((bif (a != a) then (bif (b != b) then (some 0) else (some (-1))) else (bif (b != b) then (some 1) else (bif (decide (a < b)) then (some (-1)) else (bif (decide (a > b)) then (some 1) else (some 0))))):Option Int)=some (sx a b):=by
 unfold sx;rw [bne_self_eq_false,bne_self_eq_false];by_cases h:a < b
 ·simp [h]
 ·by_cases h':a > b <;> simp [h,h']
theorem kW {a b:Int}:sx a b=0↔a=b:=by
 unfold sx;split
 ·constructor <;> intro <;> omega
 ·split <;> (constructor <;> intro <;> omega)
theorem JX {X:Type} (o:Int) (a b:X):(bif o != 0 then a else b)=if o=0 then b else a:=by
 by_cases h:o=0
 ·subst h; rfl
 ·rw [if_neg h,bne_iff_ne.2 h]; rfl
theorem Su (lo:Nat) (x y:Int × Int):Iv lo 5 (x,y)=some (Bx x y):=by
 have h0:∀ o1 o2:Int,iQ 5 o1 o2 0=some (if o1=0 then .inl 1 else .inr (.inl o1)):=fun o1 o2=>by
  show (bif o1 != 0 then some (aaB (aab o1)) else some (aab (wrap .i64 (0+1))))=_;rw [JX]; split <;> rfl
 have h1:∀ o1 o2:Int,iQ 5 o1 o2 1=some (if o2=0 then .inl 2 else .inr (.inl o2)):=fun o1 o2=>by
  show (bif o2 != 0 then some (aaB (aab o2)) else some (aab (wrap .i64 (1+1))))=_;rw [JX]; split <;> rfl
 have h2:∀ o1 o2:Int,iQ 5 o1 o2 2=some (.inr (.inr ())):=fun o1 o2=>rfl
 have L:∀ o1 o2:Int,aH (iQ 5 o1 o2) 5 0=some (if o1=0 then (if o2=0 then .inr () else .inl o2) else .inl o1):=fun o1 o2=>by
  rw [bF,h0,aaa];by_cases e1:o1=0
  ·rw [if_pos e1,if_pos e1,aac,bF,h1,aaa];by_cases e2:o2=0
   ·rw [if_pos e2,if_pos e2,aac,bF,h2]; rfl
   ·rw [if_neg e2,if_neg e2]; rfl
  ·rw [if_neg e1,if_neg e1]; rfl
 rw [ND];simp only [ccB,beq_self_eq_true,Bool.and_self,cond_true,aaa,L];unfold Bx;by_cases e1:x.2 < y.2
 ·have:¬ x.2=y.2:=by omega
  simp [sx,e1]
 ·by_cases e2:x.2 > y.2
  ·simp [sx,e1,e2]
  ·have e:x.2=y.2:=by omega
   have e3:sx x.2 y.2=0:=kW.2 e;rw [if_neg e1,if_neg e2,e3,if_pos rfl];by_cases e4:sx x.1 y.1=0
   ·rw [if_pos e4,e4]; rfl
   ·rw [if_neg e4]; rfl
theorem Sv (lo:Nat) (x y:Int × Int × Int):It lo 5 (x,y)=some (qF x y):=by
 have h0:∀ o1 o2 o3:Int,gw 5 o1 o2 o3 0=some (if o1=0 then .inl 1 else .inr (.inl o1)):=fun o1 o2 o3=>by
  show (bif o1 != 0 then some (aaB (aab o1)) else some (aab (wrap .i64 (0+1))))=_;rw [JX]; split <;> rfl
 have h1:∀ o1 o2 o3:Int,gw 5 o1 o2 o3 1=some (if o2=0 then .inl 2 else .inr (.inl o2)):=fun o1 o2 o3=>by
  show (bif o2 != 0 then some (aaB (aab o2)) else some (aab (wrap .i64 (1+1))))=_;rw [JX]; split <;> rfl
 have h2:∀ o1 o2 o3:Int,gw 5 o1 o2 o3 2=some (if o3=0 then .inl 3 else .inr (.inl o3)):=fun o1 o2 o3=>by
  show (bif o3 != 0 then some (aaB (aab o3)) else some (aab (wrap .i64 (2+1))))=_;rw [JX]; split <;> rfl
 have h3:∀ o1 o2 o3:Int,gw 5 o1 o2 o3 3=some (.inr (.inr ())):=fun o1 o2 o3=>rfl
 have L:∀ o1 o2 o3:Int,aH (gw 5 o1 o2 o3) 5 0=some (if o1=0 then (if o2=0 then (if o3=0 then .inr () else .inl o3) else .inl o2) else .inl o1):=fun o1 o2 o3=>by
  rw [bF,h0,aaa];by_cases e1:o1=0
  ·rw [if_pos e1,if_pos e1,aac,bF,h1,aaa];by_cases e2:o2=0
   ·rw [if_pos e2,if_pos e2,aac,bF,h2,aaa];by_cases e3:o3=0
    ·rw [if_pos e3,if_pos e3,aac,bF,h3]; rfl
    ·rw [if_neg e3,if_neg e3]; rfl
   ·rw [if_neg e2,if_neg e2]; rfl
  ·rw [if_neg e1,if_neg e1]; rfl
 rw [Ny];simp only [ccB,beq_self_eq_true,Bool.and_self,cond_true,aaa,L];unfold qF;by_cases e1:x.2.1 < y.2.1
 ·simp [sx,e1]
 ·by_cases e2:x.2.1 > y.2.1
  ·simp [sx,e1,e2]
  ·have e:x.2.1=y.2.1:=by omega
   have e3:sx x.2.1 y.2.1=0:=kW.2 e;rw [if_neg e1,if_neg e2,e3,if_pos rfl];by_cases f1:x.1 < y.1
   ·simp [sx,f1]
   ·by_cases f2:x.1 > y.1
    ·simp [sx,f1,f2]
    ·have f:x.1=y.1:=by omega
     have f3:sx x.1 y.1=0:=kW.2 f;rw [if_neg f1,if_neg f2,f3,if_pos rfl];by_cases e4:sx x.2.2 y.2.2=0
     ·rw [if_pos e4,e4]; rfl
     ·rw [if_neg e4]; rfl
theorem Sw (lo:Nat) (x y:Int × Int × Int):Iu lo 5 (x,y)=some (qF x y):=by
 have h0:iP 5 x y 0=some (if sx x.2.1 y.2.1=0 then .inl 1 else .inr (.inl (sx x.2.1 y.2.1))):=by
  show (((bif (x.2.1 != x.2.1) then (bif (y.2.1 != y.2.1) then (some 0) else (some (-1))) else (bif (y.2.1 != y.2.1) then (some 1) else (bif (decide (x.2.1 < y.2.1)) then (some (-1)) else (bif (decide (x.2.1 > y.2.1)) then (some 1) else (some 0))))):Option Int).bind fun o=>bif o != 0 then some (aaB (aab o)) else some (aab (wrap .i64 (0+1))))=_;rw [ccB,aaa,JX]; split <;> rfl
 have h1:iP 5 x y 1=some (if sx x.1 y.1=0 then .inl 2 else .inr (.inl (sx x.1 y.1))):=by
  show (((bif (x.1 != x.1) then (bif (y.1 != y.1) then (some 0) else (some (-1))) else (bif (y.1 != y.1) then (some 1) else (bif (decide (x.1 < y.1)) then (some (-1)) else (bif (decide (x.1 > y.1)) then (some 1) else (some 0))))):Option Int).bind fun o=>bif o != 0 then some (aaB (aab o)) else some (aab (wrap .i64 (1+1))))=_;rw [ccB,aaa,JX]; split <;> rfl
 have h2:iP 5 x y 2=some (if sx x.2.2 y.2.2=0 then .inl 3 else .inr (.inl (sx x.2.2 y.2.2))):=by
  show (((bif (x.2.2 != x.2.2) then (bif (y.2.2 != y.2.2) then (some 0) else (some (-1))) else (bif (y.2.2 != y.2.2) then (some 1) else (bif (decide (x.2.2 < y.2.2)) then (some (-1)) else (bif (decide (x.2.2 > y.2.2)) then (some 1) else (some 0))))):Option Int).bind fun o=>bif o != 0 then some (aaB (aab o)) else some (aab (wrap .i64 (2+1))))=_;rw [ccB,aaa,JX]; split <;> rfl
 have h3:iP 5 x y 3=some (.inr (.inr ())):=rfl;rw [NA,bF,h0,aaa];unfold qF;by_cases e1:x.2.1=y.2.1
 ·rw [if_pos (kW.2 e1),aac,bF,h1,aaa,if_neg (show ¬ x.2.1 < y.2.1 by omega),if_neg (show ¬ x.2.1 > y.2.1 by omega)];by_cases e2:x.1=y.1
  ·rw [if_pos (kW.2 e2),aac,bF,h2,aaa,if_neg (show ¬ x.1 < y.1 by omega),if_neg (show ¬ x.1 > y.1 by omega)];by_cases e3:sx x.2.2 y.2.2=0
   ·rw [if_pos e3,e3,aac,bF,h3]; rfl
   ·rw [if_neg e3]; rfl
  ·rw [if_neg (fun h=>e2 (kW.1 h))];by_cases h:x.1 < y.1
   ·simp [sx,h]
   ·have h':x.1 > y.1:=by omega
    simp [sx,h,h']
 ·rw [if_neg (fun h=>e1 (kW.1 h))];by_cases h:x.2.1 < y.2.1
  ·simp [sx,h]
  ·have h':x.2.1 > y.2.1:=by omega
   simp [sx,h,h']
theorem CK (lo:Nat):(pW lo).P=bQ.P:=rfl
theorem se (lo:Nat):(pW lo).ck=bQ.ck:=rfl
theorem zz (lo:Nat):(pW lo).gx=fun _=>false:=rfl
theorem zA (lo:Nat):(pW lo).lo=lo:=rfl
theorem G5 {E:Env} {g:FuncId} {F:XA × XA→Option Int} (hF:ai E g ⟨.cons da (.cons da .nil),.int .i64,F⟩) (x y:Int × Int) (z:Int) (h:F (x,y)=some z):aR E g [da.enc x,da.enc y] (fun r=>r=.int .i64 z):=hF (x,y) z h
theorem zB {E:Env} {g:FuncId} {F:XB × XB→Option Int} (hF:ai E g ⟨.cons ba (.cons ba .nil),.int .i64,F⟩) (x y:Int × Int × Int) (z:Int) (h:F (x,y)=some z):aR E g [ba.enc x,ba.enc y] (fun r=>r=.int .i64 z):=hF (x,y) z h
theorem G6 (E:Env) (hP:E.P=bQ.P) (hG:E.ck=bQ.ck) (hx:E.gx=fun _=>false) (x y:Int × Int):aR E 177 [da.enc x,da.enc y] (fun r=>r=.int .i64 (Bx x y)):=
 aR.env (E:=pW E.lo) ((CK E.lo).trans hP.symm) ((se E.lo).trans hG.symm) (G5 (F:=Iv E.lo 5) (NB E.lo 5) x y (Bx x y) (Su E.lo x y)) (zA E.lo) ((zz E.lo).trans hx.symm)
theorem G7 (E:Env) (hP:E.P=bQ.P) (hG:E.ck=bQ.ck) (hx:E.gx=fun _=>false) (x y:Int × Int × Int):aR E 127 [ba.enc x,ba.enc y] (fun r=>r=.int .i64 (qF x y)):=
 aR.env (E:=pW E.lo) ((CK E.lo).trans hP.symm) ((se E.lo).trans hG.symm) (zB (F:=It E.lo 5) (Nx E.lo 5) x y (qF x y) (Sv E.lo x y)) (zA E.lo) ((zz E.lo).trans hx.symm)
theorem G8 (E:Env) (hP:E.P=bQ.P) (hG:E.ck=bQ.ck) (hx:E.gx=fun _=>false) (x y:Int × Int × Int):aR E 136 [ba.enc x,ba.enc y] (fun r=>r=.int .i64 (qF x y)):=
 aR.env (E:=pW E.lo) ((CK E.lo).trans hP.symm) ((se E.lo).trans hG.symm) (zB (F:=Iu E.lo 5) (Nz E.lo 5) x y (qF x y) (Sw E.lo x y)) (zA E.lo) ((zz E.lo).trans hx.symm)
theorem Uw (x:Int × Int × Int):∀ a∈[AV.int .i64 x.1,AV.int .i64 x.2.1,AV.int .i64 x.2.2],gj a=true:=fun a h=>by
 rcases aax.1 h with rfl|h
 ·rfl
 ·rcases aax.1 h with rfl|h
  ·rfl
  ·rcases aax.1 h with rfl|h
   ·rfl
   ·cases h
theorem aaS:qE bQ.P bQ.ck 177 da 2 Bx where
 flat:=rfl
 size:=fun _=>rfl
 G3:=fun x a h=>by
  have h:a∈[AV.int .i64 x.1,AV.int .i64 x.2]:=h;rcases aax.1 h with rfl|h
  ·rfl
  ·rcases aax.1 h with rfl|h
   ·rfl
   ·cases h
 agg:=fun x=>⟨[AV.int .i64 x.1,AV.int .i64 x.2],rfl⟩
 calls:=G6
 swo:=aaP
 tot:=aaQ
theorem aaT:qE bQ.P bQ.ck 127 ba 3 qF where
 flat:=rfl
 size:=fun _=>rfl
 G3:=fun x a h=>Uw x a h
 agg:=fun x=>⟨[AV.int .i64 x.1,AV.int .i64 x.2.1,AV.int .i64 x.2.2],rfl⟩
 calls:=G7
 swo:=NI
 tot:=Ss
theorem aaU:qE bQ.P bQ.ck 136 ba 3 qF where
 flat:=rfl
 size:=fun _=>rfl
 G3:=fun x a h=>Uw x a h
 agg:=fun x=>⟨[AV.int .i64 x.1,AV.int .i64 x.2.1,AV.int .i64 x.2.2],rfl⟩
 calls:=G8
 swo:=NI
 tot:=Ss
def NJ (p:aM) (cf:p.T→p.T→Int) (sz:Nat) (el:TypeId) (c c2:FuncId) (args:List AV) (G:List GO):Option (Bool × AV × List GO):=
 match zt p cf sz el c args G with
 |some r=>some r
 |none=>zt p cf sz el c2 args G
noncomputable def NK:kN bQ 176:=⟨zt da Bx 2 86 177,zv (ρ:=Tryz.Bv) Tryz.aaL (Plain.of Tryz.func176 (by kernel_rfl) (by kernel_rfl)) (Plain.of Tryz.func177 (by kernel_rfl) (by kernel_rfl)) (fun w=>Tryz.isAgg86 w) (fun w=>Tryz.sizeOf86 w) aaS (by kernel_rfl) (Nat.le_succ 1)⟩
theorem NL:∀ (args:List AV) (G:List GO) (r:AV) (G':List GO),zt ba qF 3 106 127 args G=some (true,r,G')→cB bQ 135 args G (fun r' Bn=>r'=r∧Bn=G'):=
 zv (ρ:=Tryz.uK) Tryz.Uv (Plain.of Tryz.func135 (by kernel_rfl) (by kernel_rfl)) (Plain.of Tryz.func127 (by kernel_rfl) (by kernel_rfl)) (fun w=>Tryz.isAgg106 w) (fun w=>Tryz.sizeOf106 w) aaT (by kernel_rfl) (by decide)
theorem NM:∀ (args:List AV) (G:List GO) (r:AV) (G':List GO),zt ba qF 3 106 136 args G=some (true,r,G')→cB bQ 135 args G (fun r' Bn=>r'=r∧Bn=G'):=
 zv (ρ:=Tryz.uK) Tryz.Uv (Plain.of Tryz.func135 (by kernel_rfl) (by kernel_rfl)) (Plain.of Tryz.func136 (by kernel_rfl) (by kernel_rfl)) (fun w=>Tryz.isAgg106 w) (fun w=>Tryz.sizeOf106 w) aaU (by kernel_rfl) (by decide)
noncomputable def NN:kN bQ 135:=⟨NJ ba qF 3 106 127 136,fun args G r G' h=>by
 unfold NJ at h;split at h
 ·rename_i r0 h0;injection h with h;subst h;exact NL args G r G' h0
 ·exact NM args G r G' h⟩
noncomputable def gtS:(g:FuncId)→Option (kN bQ g)
 |176=>some NK
 |135=>some NN
 |_=>none
noncomputable def Kw (N:Nat) (wP:List (Nat × aP)) (n9:List (Nat × List (Nat × cN))):fj:={ cx N wP n9 with gt:=gtS }
end Go.Proofs.YtldcljfjjoidhaaGreatDoor
