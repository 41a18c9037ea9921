/- The comparing functions of the sorts,and the sorts' entries. -/
import Derived.Test.YtldcljfjjoidhaaGreatDoorBraTk
import Derived.Test.YtldcljfjjoidhaaGreatDoorBraSort
import Derived.Test.YtldcljfjjoidhaaGreatDoorAmKL
import Derived.Test.YtldcljfjjoidhaaGreatDoorAmKK
set_option linter.all false
namespace Go.Proofs.YtldcljfjjoidhaaGreatDoor
open Go Go.Am Go.Sort Go.Shelf Go.Proofs
open List (map)
open Int (toNat)
open Go.IntKind (wrap)
open Go.Am.aO (fits)
set_option maxRecDepth 100000
instance:Inhabited fI.T:=⟨((0,0):Int × Int)⟩
instance:Inhabited au.T:=⟨((0,0,0):Int × Int × Int)⟩
def qQ (a b:Int):Int:=if a < b then -1 else if a > b then 1 else 0
def Iz (x y:Int × Int):Int:=if x.2 < y.2 then -1 else if x.2 > y.2 then 1 else qQ x.1 y.1
def fL (x y:Int × Int × Int):Int:=if x.2.1 < y.2.1 then -1 else if x.2.1 > y.2.1 then 1 else if x.1 < y.1 then -1 else if x.1 > y.1 then 1 else qQ x.2.2 y.2.2
theorem Gt {a b:Int}:qQ a b < 0↔a < b:=by
 unfold qQ
 split
 ·constructor <;> intro <;> omega
 ·split <;> (constructor <;> intro <;> omega)
theorem xR (x y:Int × Int):ltOf Iz x y=decide (x.2 < y.2∨x.2=y.2∧x.1 < y.1):=by
 unfold ltOf Iz
 rw [decide_eq_decide]
 split
 ·constructor <;> intro <;> omega
 ·split
  ·constructor <;> intro <;> omega
  ·rw [Gt]
   constructor <;> intro <;> omega
theorem to (x y:Int × Int × Int):ltOf fL x y=decide (x.2.1 < y.2.1∨x.2.1=y.2.1∧(x.1 < y.1∨x.1=y.1∧x.2.2 < y.2.2)):=by
 unfold ltOf fL
 rw [decide_eq_decide]
 split
 ·constructor <;> intro <;> omega
 ·split
  ·constructor <;> intro <;> omega
  ·split
   ·constructor <;> intro <;> omega
   ·split
    ·constructor <;> intro <;> omega
    ·rw [Gt]
     constructor <;> intro <;> omega
theorem PZ:SWO (ltOf Iz):=by
 refine ⟨fun x=>?_,fun x y z h1 h2=>?_,fun x y z h1 h2=>?_⟩
 ·rw [xR]; exact decide_eq_false (by omega)
 ·rw [xR] at *
  have h1:=of_decide_eq_true h1
  have h2:=of_decide_eq_true h2
  exact decide_eq_true (by omega)
 ·rw [xR] at *
  have h1:=of_decide_eq_false h1
  have h2:=of_decide_eq_false h2
  exact decide_eq_false (by omega)
theorem tq:SWO (ltOf fL):=by
 refine ⟨fun x=>?_,fun x y z h1 h2=>?_,fun x y z h1 h2=>?_⟩
 ·rw [to]; exact decide_eq_false (by omega)
 ·rw [to] at *
  have h1:=of_decide_eq_true h1
  have h2:=of_decide_eq_true h2
  exact decide_eq_true (by omega)
 ·rw [to] at *
  have h1:=of_decide_eq_false h1
  have h2:=of_decide_eq_false h2
  exact decide_eq_false (by omega)
theorem Ui (x y:Int × Int) (h1:ltOf Iz x y=false) (h2:ltOf Iz y x=false):x=y:=by
 rw [xR] at *
 have h1:=of_decide_eq_false h1
 have h2:=of_decide_eq_false h2
 exact Prod.ext (by omega) (by omega)
theorem HZ (x y:Int × Int × Int) (h1:ltOf fL x y=false) (h2:ltOf fL y x=false):x=y:=by
 rw [to] at *
 have h1:=of_decide_eq_false h1
 have h2:=of_decide_eq_false h2
 exact Prod.ext (by omega) (Prod.ext (by omega) (by omega))
theorem XW (a b:Int):((bif (a != a) then (bif (b != b) then (some 0) else (some (-1))) else (bif (b != b) then (some 1) else (bif (decide (a < b)) then (some (-1)) else (bif (decide (a > b)) then (some 1) else (some 0))))):Option Int)=some (qQ a b):=by
 unfold qQ
 rw [bne_self_eq_false,bne_self_eq_false]
 by_cases h:a < b
 ·simp [h]
 ·by_cases h':a > b <;> simp [h,h']
theorem kR {a b:Int}:qQ a b=0↔a=b:=by
 unfold qQ
 split
 ·constructor <;> intro <;> omega
 ·split <;> (constructor <;> intro <;> omega)
theorem H0 {X:Type} (o:Int) (a b:X):(bif o != 0 then a else b)=if o=0 then b else a:=by
 by_cases h:o=0
 ·subst h; rfl
 ·rw [if_neg h,bne_iff_ne.2 h]; rfl
theorem P0 (lo:Nat) (x y:Int × Int):Gs lo 5 (x,y)=some (Iz x y):=by
 have h0:∀ o1 o2:Int,iI 5 o1 o2 0=some (if o1=0 then .inl 1 else .inr (.inl o1)):=fun o1 o2=>by
  show (bif o1 != 0 then some (Sum.inr (Sum.inl o1)) else some (Sum.inl (wrap .i64 (0+1))))=_
  rw [H0]; split <;> rfl
 have h1:∀ o1 o2:Int,iI 5 o1 o2 1=some (if o2=0 then .inl 2 else .inr (.inl o2)):=fun o1 o2=>by
  show (bif o2 != 0 then some (Sum.inr (Sum.inl o2)) else some (Sum.inl (wrap .i64 (1+1))))=_
  rw [H0]; split <;> rfl
 have h2:∀ o1 o2:Int,iI 5 o1 o2 2=some (.inr (.inr ())):=fun o1 o2=>rfl
 have L:∀ o1 o2:Int,aN (iI 5 o1 o2) 5 0=some (if o1=0 then (if o2=0 then .inr () else .inl o2) else .inl o1):=fun o1 o2=>by
  rw [a6,h0,Option.bind_some]
  by_cases e1:o1=0
  ·rw [if_pos e1,if_pos e1,Sum.elim_inl,a6,h1,Option.bind_some]
   by_cases e2:o2=0
   ·rw [if_pos e2,if_pos e2,Sum.elim_inl,a6,h2]; rfl
   ·rw [if_neg e2,if_neg e2]; rfl
  ·rw [if_neg e1,if_neg e1]; rfl
 rw [Lx]
 simp only [XW,beq_self_eq_true,Bool.and_self,cond_true,Option.bind_some,L]
 unfold Iz
 by_cases e1:x.2 < y.2
 ·have:¬ x.2=y.2:=by omega
  simp [qQ,e1]
 ·by_cases e2:x.2 > y.2
  ·simp [qQ,e1,e2]
  ·have e:x.2=y.2:=by omega
   have e3:qQ x.2 y.2=0:=kR.2 e
   rw [if_neg e1,if_neg e2,e3,if_pos rfl]
   by_cases e4:qQ x.1 y.1=0
   ·rw [if_pos e4,e4]; rfl
   ·rw [if_neg e4]; rfl
theorem P5 (lo:Nat) (x y:Int × Int × Int):Gq lo 5 (x,y)=some (fL x y):=by
 have h0:∀ o1 o2 o3:Int,gy 5 o1 o2 o3 0=some (if o1=0 then .inl 1 else .inr (.inl o1)):=fun o1 o2 o3=>by
  show (bif o1 != 0 then some (Sum.inr (Sum.inl o1)) else some (Sum.inl (wrap .i64 (0+1))))=_
  rw [H0]; split <;> rfl
 have h1:∀ o1 o2 o3:Int,gy 5 o1 o2 o3 1=some (if o2=0 then .inl 2 else .inr (.inl o2)):=fun o1 o2 o3=>by
  show (bif o2 != 0 then some (Sum.inr (Sum.inl o2)) else some (Sum.inl (wrap .i64 (1+1))))=_
  rw [H0]; split <;> rfl
 have h2:∀ o1 o2 o3:Int,gy 5 o1 o2 o3 2=some (if o3=0 then .inl 3 else .inr (.inl o3)):=fun o1 o2 o3=>by
  show (bif o3 != 0 then some (Sum.inr (Sum.inl o3)) else some (Sum.inl (wrap .i64 (2+1))))=_
  rw [H0]; split <;> rfl
 have h3:∀ o1 o2 o3:Int,gy 5 o1 o2 o3 3=some (.inr (.inr ())):=fun o1 o2 o3=>rfl
 have L:∀ o1 o2 o3:Int,aN (gy 5 o1 o2 o3) 5 0=some (if o1=0 then (if o2=0 then (if o3=0 then .inr () else .inl o3) else .inl o2) else .inl o1):=fun o1 o2 o3=>by
  rw [a6,h0,Option.bind_some]
  by_cases e1:o1=0
  ·rw [if_pos e1,if_pos e1,Sum.elim_inl,a6,h1,Option.bind_some]
   by_cases e2:o2=0
   ·rw [if_pos e2,if_pos e2,Sum.elim_inl,a6,h2,Option.bind_some]
    by_cases e3:o3=0
    ·rw [if_pos e3,if_pos e3,Sum.elim_inl,a6,h3]; rfl
    ·rw [if_neg e3,if_neg e3]; rfl
   ·rw [if_neg e2,if_neg e2]; rfl
  ·rw [if_neg e1,if_neg e1]; rfl
 rw [Lt]
 simp only [XW,beq_self_eq_true,Bool.and_self,cond_true,Option.bind_some,L]
 unfold fL
 by_cases e1:x.2.1 < y.2.1
 ·simp [qQ,e1]
 ·by_cases e2:x.2.1 > y.2.1
  ·simp [qQ,e1,e2]
  ·have e:x.2.1=y.2.1:=by omega
   have e3:qQ x.2.1 y.2.1=0:=kR.2 e
   rw [if_neg e1,if_neg e2,e3,if_pos rfl]
   by_cases f1:x.1 < y.1
   ·simp [qQ,f1]
   ·by_cases f2:x.1 > y.1
    ·simp [qQ,f1,f2]
    ·have f:x.1=y.1:=by omega
     have f3:qQ x.1 y.1=0:=kR.2 f
     rw [if_neg f1,if_neg f2,f3,if_pos rfl]
     by_cases e4:qQ x.2.2 y.2.2=0
     ·rw [if_pos e4,e4]; rfl
     ·rw [if_neg e4]; rfl
theorem P6 (lo:Nat) (x y:Int × Int × Int):Gr lo 5 (x,y)=some (fL x y):=by
 have h0:iH 5 x y 0=some (if qQ x.2.1 y.2.1=0 then .inl 1 else .inr (.inl (qQ x.2.1 y.2.1))):=by
  show (((bif (x.2.1 != x.2.1) then (bif (y.2.1 != y.2.1) then (some 0) else (some (-1))) else (bif (y.2.1 != y.2.1) then (some 1) else (bif (decide (x.2.1 < y.2.1)) then (some (-1)) else (bif (decide (x.2.1 > y.2.1)) then (some 1) else (some 0))))):Option Int).bind fun o=>bif o != 0 then some (Sum.inr (Sum.inl o)) else some (Sum.inl (wrap .i64 (0+1))))=_
  rw [XW,Option.bind_some,H0]; split <;> rfl
 have h1:iH 5 x y 1=some (if qQ x.1 y.1=0 then .inl 2 else .inr (.inl (qQ x.1 y.1))):=by
  show (((bif (x.1 != x.1) then (bif (y.1 != y.1) then (some 0) else (some (-1))) else (bif (y.1 != y.1) then (some 1) else (bif (decide (x.1 < y.1)) then (some (-1)) else (bif (decide (x.1 > y.1)) then (some 1) else (some 0))))):Option Int).bind fun o=>bif o != 0 then some (Sum.inr (Sum.inl o)) else some (Sum.inl (wrap .i64 (1+1))))=_
  rw [XW,Option.bind_some,H0]; split <;> rfl
 have h2:iH 5 x y 2=some (if qQ x.2.2 y.2.2=0 then .inl 3 else .inr (.inl (qQ x.2.2 y.2.2))):=by
  show (((bif (x.2.2 != x.2.2) then (bif (y.2.2 != y.2.2) then (some 0) else (some (-1))) else (bif (y.2.2 != y.2.2) then (some 1) else (bif (decide (x.2.2 < y.2.2)) then (some (-1)) else (bif (decide (x.2.2 > y.2.2)) then (some 1) else (some 0))))):Option Int).bind fun o=>bif o != 0 then some (Sum.inr (Sum.inl o)) else some (Sum.inl (wrap .i64 (2+1))))=_
  rw [XW,Option.bind_some,H0]; split <;> rfl
 have h3:iH 5 x y 3=some (.inr (.inr ())):=rfl
 rw [Lv,a6,h0,Option.bind_some]
 unfold fL
 by_cases e1:x.2.1=y.2.1
 ·rw [if_pos (kR.2 e1),Sum.elim_inl,a6,h1,Option.bind_some,if_neg (show ¬ x.2.1 < y.2.1 by omega),if_neg (show ¬ x.2.1 > y.2.1 by omega)]
  by_cases e2:x.1=y.1
  ·rw [if_pos (kR.2 e2),Sum.elim_inl,a6,h2,Option.bind_some,if_neg (show ¬ x.1 < y.1 by omega),if_neg (show ¬ x.1 > y.1 by omega)]
   by_cases e3:qQ x.2.2 y.2.2=0
   ·rw [if_pos e3,e3,Sum.elim_inl,a6,h3]; rfl
   ·rw [if_neg e3]; rfl
  ·rw [if_neg (fun h=>e2 (kR.1 h))]
   by_cases h:x.1 < y.1
   ·simp [qQ,h]
   ·have h':x.1 > y.1:=by omega
    simp [qQ,h,h']
 ·rw [if_neg (fun h=>e1 (kR.1 h))]
  by_cases h:x.2.1 < y.2.1
  ·simp [qQ,h]
  ·have h':x.2.1 > y.2.1:=by omega
   simp [qQ,h,h']
theorem Bm (lo:Nat):(oL lo).P=bR.P:=rfl
theorem qG (lo:Nat):(oL lo).b6=bR.b6:=rfl
theorem xS (lo:Nat):(oL lo).gx=fun _=>false:=rfl
theorem xT (lo:Nat):(oL lo).lo=lo:=rfl
theorem Fc {E:Env} {g:FuncId} {F:XA × XA→Option Int} (hF:ap E g ⟨.cons fI (.cons fI .nil),.int .i64,F⟩) (x y:Int × Int) (z:Int) (h:F (x,y)=some z):aW E g [fI.enc x,fI.enc y] (fun r=>r=.int .i64 z):=hF (x,y) z h
theorem xU {E:Env} {g:FuncId} {F:XB × XB→Option Int} (hF:ap E g ⟨.cons au (.cons au .nil),.int .i64,F⟩) (x y:Int × Int × Int) (z:Int) (h:F (x,y)=some z):aW E g [au.enc x,au.enc y] (fun r=>r=.int .i64 z):=hF (x,y) z h
theorem Fe (E:Env) (hP:E.P=bR.P) (hG:E.b6=bR.b6) (hx:E.gx=fun _=>false) (x y:Int × Int):aW E 177 [fI.enc x,fI.enc y] (fun r=>r=.int .i64 (Iz x y)):=
 aW.env (E:=oL E.lo) ((Bm E.lo).trans hP.symm) ((qG E.lo).trans hG.symm) (Fc (F:=Gs E.lo 5) (Lw E.lo 5) x y (Iz x y) (P0 E.lo x y)) (xT E.lo) ((xS E.lo).trans hx.symm)
theorem Ff (E:Env) (hP:E.P=bR.P) (hG:E.b6=bR.b6) (hx:E.gx=fun _=>false) (x y:Int × Int × Int):aW E 127 [au.enc x,au.enc y] (fun r=>r=.int .i64 (fL x y)):=
 aW.env (E:=oL E.lo) ((Bm E.lo).trans hP.symm) ((qG E.lo).trans hG.symm) (xU (F:=Gq E.lo 5) (Ls E.lo 5) x y (fL x y) (P5 E.lo x y)) (xT E.lo) ((xS E.lo).trans hx.symm)
theorem Fg (E:Env) (hP:E.P=bR.P) (hG:E.b6=bR.b6) (hx:E.gx=fun _=>false) (x y:Int × Int × Int):aW E 136 [au.enc x,au.enc y] (fun r=>r=.int .i64 (fL x y)):=
 aW.env (E:=oL E.lo) ((Bm E.lo).trans hP.symm) ((qG E.lo).trans hG.symm) (xU (F:=Gr E.lo 5) (Lu E.lo 5) x y (fL x y) (P6 E.lo x y)) (xT E.lo) ((xS E.lo).trans hx.symm)
theorem RN (x:Int × Int × Int):∀ a∈[AV.int .i64 x.1,AV.int .i64 x.2.1,AV.int .i64 x.2.2],gi a=true:=fun a h=>by
 rcases List.mem_cons.1 h with rfl | h
 ·rfl
 ·rcases List.mem_cons.1 h with rfl | h
  ·rfl
  ·rcases List.mem_cons.1 h with rfl | h
   ·rfl
   ·cases h
theorem XX:pt bR.P bR.b6 177 fI 2 Iz where
 flat:=rfl
 size:=fun _=>rfl
 E9:=fun x a h=>by
  have h:a∈[AV.int .i64 x.1,AV.int .i64 x.2]:=h
  rcases List.mem_cons.1 h with rfl | h
  ·rfl
  ·rcases List.mem_cons.1 h with rfl | h
   ·rfl
   ·cases h
 agg:=fun x=>⟨[AV.int .i64 x.1,AV.int .i64 x.2],rfl⟩
 calls:=Fe
 swo:=PZ
 Zg:=Ui
theorem XY:pt bR.P bR.b6 127 au 3 fL where
 flat:=rfl
 size:=fun _=>rfl
 E9:=fun x a h=>RN x a h
 agg:=fun x=>⟨[AV.int .i64 x.1,AV.int .i64 x.2.1,AV.int .i64 x.2.2],rfl⟩
 calls:=Ff
 swo:=tq
 Zg:=HZ
theorem XZ:pt bR.P bR.b6 136 au 3 fL where
 flat:=rfl
 size:=fun _=>rfl
 E9:=fun x a h=>RN x a h
 agg:=fun x=>⟨[AV.int .i64 x.1,AV.int .i64 x.2.1,AV.int .i64 x.2.2],rfl⟩
 calls:=Fg
 swo:=tq
 Zg:=HZ
def Ly (p:aO) (cf:p.T→p.T→Int) (sz:Nat) (el:TypeId) (c c2:FuncId) (args:List AV) (G:List GO):Option (Bool × AV × List GO):=
 match xN p cf sz el c args G with
 | some r=>some r
 | none=>xN p cf sz el c2 args G
noncomputable def Lz:lM bR 176:=⟨xN fI Iz 2 86 177,xP (ρ:=Tryz.z7) Tryz.XV (Plain.of Tryz.func176 (by kernel_rfl) (by kernel_rfl)) (Plain.of Tryz.func177 (by kernel_rfl) (by kernel_rfl)) (fun w=>Tryz.isAgg86 w) (fun w=>Tryz.sizeOf86 w) XX (by kernel_rfl) (Nat.le_succ 1)⟩
theorem LA:∀ (args:List AV) (G:List GO) (r:AV) (G':List GO),xN au fL 3 106 127 args G=some (true,r,G')→cu bR 135 args G (fun r' zO=>r'=r∧zO=G'):=
 xP (ρ:=Tryz.tn) Tryz.RM (Plain.of Tryz.func135 (by kernel_rfl) (by kernel_rfl)) (Plain.of Tryz.func127 (by kernel_rfl) (by kernel_rfl)) (fun w=>Tryz.isAgg106 w) (fun w=>Tryz.sizeOf106 w) XY (by kernel_rfl) (by decide)
theorem LB:∀ (args:List AV) (G:List GO) (r:AV) (G':List GO),xN au fL 3 106 136 args G=some (true,r,G')→cu bR 135 args G (fun r' zO=>r'=r∧zO=G'):=
 xP (ρ:=Tryz.tn) Tryz.RM (Plain.of Tryz.func135 (by kernel_rfl) (by kernel_rfl)) (Plain.of Tryz.func136 (by kernel_rfl) (by kernel_rfl)) (fun w=>Tryz.isAgg106 w) (fun w=>Tryz.sizeOf106 w) XZ (by kernel_rfl) (by decide)
noncomputable def LC:lM bR 135:=⟨Ly au fL 3 106 127 136,fun args G r G' h=>by
 unfold Ly at h
 split at h
 ·rename_i r0 h0
  injection h with h
  subst h
  exact LA args G r G' h0
 ·exact LB args G r G' h⟩
noncomputable def gtS:(g:FuncId)→Option (lM bR g)
 | 176=>some Lz
 | 135=>some LC
 | _=>none
noncomputable def Uj (N:Nat) (yy:List (Nat × aZ)) (oD:List (Nat × List (Nat × df))):gv:={ cx N yy oD with gt:=gtS }
end Go.Proofs.YtldcljfjjoidhaaGreatDoor
