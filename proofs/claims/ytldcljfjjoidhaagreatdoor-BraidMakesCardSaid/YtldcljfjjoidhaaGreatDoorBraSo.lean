/- The comparing functions of the sorts,and the sorts' entries. -/
import Derived.Test.YtldcljfjjoidhaaGreatDoorBraTk
import Derived.Test.YtldcljfjjoidhaaGreatDoorBraSort
import Derived.Test.YtldcljfjjoidhaaGreatDoorAmKL
import Derived.Test.YtldcljfjjoidhaaGreatDoorAmKK
set_option linter.all false
open List renaming mem_cons→aaB
open Option renaming bind_some→aad
open Sum renaming inl→aao, elim_inl→aau, inr→aaO
namespace Go.Proofs.YtldcljfjjoidhaaGreatDoor
open Go Go.Am Go.Sort Go.Shelf Go.Proofs
open List (map)
open Int (toNat)
open Go.IntKind (wrap)
open Go.Am.aO (fits)
set_option maxRecDepth 100000
instance:Inhabited gk.T:=⟨((0,0):Int × Int)⟩
instance:Inhabited aA.T:=⟨((0,0,0):Int × Int × Int)⟩
def tG (a b:Int):Int:=if a < b then -1 else if a > b then 1 else 0
def MA (x y:Int × Int):Int:=if x.2 < y.2 then -1 else if x.2 > y.2 then 1 else tG x.1 y.1
def gj (x y:Int × Int × Int):Int:=if x.2.1 < y.2.1 then -1 else if x.2.1 > y.2.1 then 1 else if x.1 < y.1 then -1 else if x.1 > y.1 then 1 else tG x.2.2 y.2.2
theorem Kn {a b:Int}:tG a b < 0↔a < b:=by
 unfold tG;split
 ·constructor <;> intro <;> omega
 ·split <;> (constructor <;> intro <;> omega)
theorem Ex (x y:Int × Int):ltOf MA x y=decide (x.2 < y.2∨x.2=y.2∧x.1 < y.1):=by
 unfold ltOf MA;rw [decide_eq_decide];split
 ·constructor <;> intro <;> omega
 ·split
  ·constructor <;> intro <;> omega
  ·rw [Kn];constructor <;> intro <;> omega
theorem vV (x y:Int × Int × Int):ltOf gj x y=decide (x.2.1 < y.2.1∨x.2.1=y.2.1∧(x.1 < y.1∨x.1=y.1∧x.2.2 < y.2.2)):=by
 unfold ltOf gj;rw [decide_eq_decide];split
 ·constructor <;> intro <;> omega
 ·split
  ·constructor <;> intro <;> omega
  ·split
   ·constructor <;> intro <;> omega
   ·split
    ·constructor <;> intro <;> omega
    ·rw [Kn];constructor <;> intro <;> omega
theorem L5:SWO (ltOf MA):=by
 refine ⟨fun x=>?_,fun x y z h1 h2=>?_,fun x y z h1 h2=>?_⟩
 ·rw [Ex]; exact decide_eq_false (by omega)
 ·rw [Ex] at *;have h1:=of_decide_eq_true h1;have h2:=of_decide_eq_true h2;exact decide_eq_true (by omega)
 ·rw [Ex] at *;have h1:=of_decide_eq_false h1;have h2:=of_decide_eq_false h2;exact decide_eq_false (by omega)
theorem oH:SWO (ltOf gj):=by
 refine ⟨fun x=>?_,fun x y z h1 h2=>?_,fun x y z h1 h2=>?_⟩
 ·rw [vV]; exact decide_eq_false (by omega)
 ·rw [vV] at *;have h1:=of_decide_eq_true h1;have h2:=of_decide_eq_true h2;exact decide_eq_true (by omega)
 ·rw [vV] at *;have h1:=of_decide_eq_false h1;have h2:=of_decide_eq_false h2;exact decide_eq_false (by omega)
theorem Vn (x y:Int × Int) (h1:ltOf MA x y=false) (h2:ltOf MA y x=false):x=y:=by
 rw [Ex] at *;have h1:=of_decide_eq_false h1;have h2:=of_decide_eq_false h2;exact Prod.ext (by omega) (by omega)
theorem Ey (x y:Int × Int × Int) (h1:ltOf gj x y=false) (h2:ltOf gj y x=false):x=y:=by
 rw [vV] at *;have h1:=of_decide_eq_false h1;have h2:=of_decide_eq_false h2;exact Prod.ext (by omega) (Prod.ext (by omega) (by omega))
theorem ccB (a b:Int):((bif (a != a) then (bif (b != b) then (some 0) else (some (-1))) else (bif (b != b) then (some 1) else (bif (decide (a < b)) then (some (-1)) else (bif (decide (a > b)) then (some 1) else (some 0))))):Option Int)=some (tG a b):=by
 unfold tG;rw [bne_self_eq_false,bne_self_eq_false];by_cases h:a < b
 ·simp [h]
 ·by_cases h':a > b <;> simp [h,h']
theorem mH {a b:Int}:tG a b=0↔a=b:=by
 unfold tG;split
 ·constructor <;> intro <;> omega
 ·split <;> (constructor <;> intro <;> omega)
theorem Hj {X:Type} (o:Int) (a b:X):(bif o != 0 then a else b)=if o=0 then b else a:=by
 by_cases h:o=0
 ·subst h; rfl
 ·rw [if_neg h,bne_iff_ne.2 h]; rfl
theorem Vo (lo:Nat) (x y:Int × Int):Km lo 5 (x,y)=some (MA x y):=by
 have h0:∀ o1 o2:Int,jU 5 o1 o2 0=some (if o1=0 then .inl 1 else .inr (.inl o1)):=fun o1 o2=>by
  show (bif o1 != 0 then some (aaO (aao o1)) else some (aao (wrap .i64 (0+1))))=_;rw [Hj]; split <;> rfl
 have h1:∀ o1 o2:Int,jU 5 o1 o2 1=some (if o2=0 then .inl 2 else .inr (.inl o2)):=fun o1 o2=>by
  show (bif o2 != 0 then some (aaO (aao o2)) else some (aao (wrap .i64 (1+1))))=_;rw [Hj]; split <;> rfl
 have h2:∀ o1 o2:Int,jU 5 o1 o2 2=some (.inr (.inr ())):=fun o1 o2=>rfl
 have L:∀ o1 o2:Int,az (jU 5 o1 o2) 5 0=some (if o1=0 then (if o2=0 then .inr () else .inl o2) else .inl o1):=fun o1 o2=>by
  rw [aX,h0,aad];by_cases e1:o1=0
  ·rw [if_pos e1,if_pos e1,aau,aX,h1,aad];by_cases e2:o2=0
   ·rw [if_pos e2,if_pos e2,aau,aX,h2]; rfl
   ·rw [if_neg e2,if_neg e2]; rfl
  ·rw [if_neg e1,if_neg e1]; rfl
 rw [PP];simp only [ccB,beq_self_eq_true,Bool.and_self,cond_true,aad,L];unfold MA;by_cases e1:x.2 < y.2
 ·have:¬ x.2=y.2:=by omega
  simp [tG,e1]
 ·by_cases e2:x.2 > y.2
  ·simp [tG,e1,e2]
  ·have e:x.2=y.2:=by omega
   have e3:tG x.2 y.2=0:=mH.2 e;rw [if_neg e1,if_neg e2,e3,if_pos rfl];by_cases e4:tG x.1 y.1=0
   ·rw [if_pos e4,e4]; rfl
   ·rw [if_neg e4]; rfl
theorem Vp (lo:Nat) (x y:Int × Int × Int):Kk lo 5 (x,y)=some (gj x y):=by
 have h0:∀ o1 o2 o3:Int,iE 5 o1 o2 o3 0=some (if o1=0 then .inl 1 else .inr (.inl o1)):=fun o1 o2 o3=>by
  show (bif o1 != 0 then some (aaO (aao o1)) else some (aao (wrap .i64 (0+1))))=_;rw [Hj]; split <;> rfl
 have h1:∀ o1 o2 o3:Int,iE 5 o1 o2 o3 1=some (if o2=0 then .inl 2 else .inr (.inl o2)):=fun o1 o2 o3=>by
  show (bif o2 != 0 then some (aaO (aao o2)) else some (aao (wrap .i64 (1+1))))=_;rw [Hj]; split <;> rfl
 have h2:∀ o1 o2 o3:Int,iE 5 o1 o2 o3 2=some (if o3=0 then .inl 3 else .inr (.inl o3)):=fun o1 o2 o3=>by
  show (bif o3 != 0 then some (aaO (aao o3)) else some (aao (wrap .i64 (2+1))))=_;rw [Hj]; split <;> rfl
 have h3:∀ o1 o2 o3:Int,iE 5 o1 o2 o3 3=some (.inr (.inr ())):=fun o1 o2 o3=>rfl
 have L:∀ o1 o2 o3:Int,az (iE 5 o1 o2 o3) 5 0=some (if o1=0 then (if o2=0 then (if o3=0 then .inr () else .inl o3) else .inl o2) else .inl o1):=fun o1 o2 o3=>by
  rw [aX,h0,aad];by_cases e1:o1=0
  ·rw [if_pos e1,if_pos e1,aau,aX,h1,aad];by_cases e2:o2=0
   ·rw [if_pos e2,if_pos e2,aau,aX,h2,aad];by_cases e3:o3=0
    ·rw [if_pos e3,if_pos e3,aau,aX,h3]; rfl
    ·rw [if_neg e3,if_neg e3]; rfl
   ·rw [if_neg e2,if_neg e2]; rfl
  ·rw [if_neg e1,if_neg e1]; rfl
 rw [PL];simp only [ccB,beq_self_eq_true,Bool.and_self,cond_true,aad,L];unfold gj;by_cases e1:x.2.1 < y.2.1
 ·simp [tG,e1]
 ·by_cases e2:x.2.1 > y.2.1
  ·simp [tG,e1,e2]
  ·have e:x.2.1=y.2.1:=by omega
   have e3:tG x.2.1 y.2.1=0:=mH.2 e;rw [if_neg e1,if_neg e2,e3,if_pos rfl];by_cases f1:x.1 < y.1
   ·simp [tG,f1]
   ·by_cases f2:x.1 > y.1
    ·simp [tG,f1,f2]
    ·have f:x.1=y.1:=by omega
     have f3:tG x.1 y.1=0:=mH.2 f;rw [if_neg f1,if_neg f2,f3,if_pos rfl];by_cases e4:tG x.2.2 y.2.2=0
     ·rw [if_pos e4,e4]; rfl
     ·rw [if_neg e4]; rfl
theorem Vq (lo:Nat) (x y:Int × Int × Int):Kl lo 5 (x,y)=some (gj x y):=by
 have h0:jT 5 x y 0=some (if tG x.2.1 y.2.1=0 then .inl 1 else .inr (.inl (tG x.2.1 y.2.1))):=by
  show (((bif (x.2.1 != x.2.1) then (bif (y.2.1 != y.2.1) then (some 0) else (some (-1))) else (bif (y.2.1 != y.2.1) then (some 1) else (bif (decide (x.2.1 < y.2.1)) then (some (-1)) else (bif (decide (x.2.1 > y.2.1)) then (some 1) else (some 0))))):Option Int).bind fun o=>bif o != 0 then some (aaO (aao o)) else some (aao (wrap .i64 (0+1))))=_;rw [ccB,aad,Hj]; split <;> rfl
 have h1:jT 5 x y 1=some (if tG x.1 y.1=0 then .inl 2 else .inr (.inl (tG x.1 y.1))):=by
  show (((bif (x.1 != x.1) then (bif (y.1 != y.1) then (some 0) else (some (-1))) else (bif (y.1 != y.1) then (some 1) else (bif (decide (x.1 < y.1)) then (some (-1)) else (bif (decide (x.1 > y.1)) then (some 1) else (some 0))))):Option Int).bind fun o=>bif o != 0 then some (aaO (aao o)) else some (aao (wrap .i64 (1+1))))=_;rw [ccB,aad,Hj]; split <;> rfl
 have h2:jT 5 x y 2=some (if tG x.2.2 y.2.2=0 then .inl 3 else .inr (.inl (tG x.2.2 y.2.2))):=by
  show (((bif (x.2.2 != x.2.2) then (bif (y.2.2 != y.2.2) then (some 0) else (some (-1))) else (bif (y.2.2 != y.2.2) then (some 1) else (bif (decide (x.2.2 < y.2.2)) then (some (-1)) else (bif (decide (x.2.2 > y.2.2)) then (some 1) else (some 0))))):Option Int).bind fun o=>bif o != 0 then some (aaO (aao o)) else some (aao (wrap .i64 (2+1))))=_;rw [ccB,aad,Hj]; split <;> rfl
 have h3:jT 5 x y 3=some (.inr (.inr ())):=rfl;rw [PN,aX,h0,aad];unfold gj;by_cases e1:x.2.1=y.2.1
 ·rw [if_pos (mH.2 e1),aau,aX,h1,aad,if_neg (show ¬ x.2.1 < y.2.1 by omega),if_neg (show ¬ x.2.1 > y.2.1 by omega)];by_cases e2:x.1=y.1
  ·rw [if_pos (mH.2 e2),aau,aX,h2,aad,if_neg (show ¬ x.1 < y.1 by omega),if_neg (show ¬ x.1 > y.1 by omega)];by_cases e3:tG x.2.2 y.2.2=0
   ·rw [if_pos e3,e3,aau,aX,h3]; rfl
   ·rw [if_neg e3]; rfl
  ·rw [if_neg (fun h=>e2 (mH.1 h))];by_cases h:x.1 < y.1
   ·simp [tG,h]
   ·have h':x.1 > y.1:=by omega
    simp [tG,h,h']
 ·rw [if_neg (fun h=>e1 (mH.1 h))];by_cases h:x.2.1 < y.2.1
  ·simp [tG,h]
  ·have h':x.2.1 > y.2.1:=by omega
   simp [tG,h,h']
theorem Ez (lo:Nat):(rq lo).P=bH.P:=rfl
theorem tx (lo:Nat):(rq lo).cw=bH.cw:=rfl
theorem A1 (lo:Nat):(rq lo).gx=fun _=>false:=rfl
theorem A2 (lo:Nat):(rq lo).lo=lo:=rfl
theorem I2 {E:Env} {g:FuncId} {F:XA × XA→Option Int} (hF:aj E g ⟨.cons gk (.cons gk .nil),.int .i64,F⟩) (x y:Int × Int) (z:Int) (h:F (x,y)=some z):a6 E g [gk.enc x,gk.enc y] (fun r=>r=.int .i64 z):=hF (x,y) z h
theorem A3 {E:Env} {g:FuncId} {F:XB × XB→Option Int} (hF:aj E g ⟨.cons aA (.cons aA .nil),.int .i64,F⟩) (x y:Int × Int × Int) (z:Int) (h:F (x,y)=some z):a6 E g [aA.enc x,aA.enc y] (fun r=>r=.int .i64 z):=hF (x,y) z h
theorem I3 (E:Env) (hP:E.P=bH.P) (hG:E.cw=bH.cw) (hx:E.gx=fun _=>false) (x y:Int × Int):a6 E 177 [gk.enc x,gk.enc y] (fun r=>r=.int .i64 (MA x y)):=
 a6.env (E:=rq E.lo) ((Ez E.lo).trans hP.symm) ((tx E.lo).trans hG.symm) (I2 (F:=Km E.lo 5) (PO E.lo 5) x y (MA x y) (Vo E.lo x y)) (A2 E.lo) ((A1 E.lo).trans hx.symm)
theorem I4 (E:Env) (hP:E.P=bH.P) (hG:E.cw=bH.cw) (hx:E.gx=fun _=>false) (x y:Int × Int × Int):a6 E 127 [aA.enc x,aA.enc y] (fun r=>r=.int .i64 (gj x y)):=
 a6.env (E:=rq E.lo) ((Ez E.lo).trans hP.symm) ((tx E.lo).trans hG.symm) (A3 (F:=Kk E.lo 5) (PK E.lo 5) x y (gj x y) (Vp E.lo x y)) (A2 E.lo) ((A1 E.lo).trans hx.symm)
theorem I5 (E:Env) (hP:E.P=bH.P) (hG:E.cw=bH.cw) (hx:E.gx=fun _=>false) (x y:Int × Int × Int):a6 E 136 [aA.enc x,aA.enc y] (fun r=>r=.int .i64 (gj x y)):=
 a6.env (E:=rq E.lo) ((Ez E.lo).trans hP.symm) ((tx E.lo).trans hG.symm) (A3 (F:=Kl E.lo 5) (PM E.lo 5) x y (gj x y) (Vq E.lo x y)) (A2 E.lo) ((A1 E.lo).trans hx.symm)
theorem Xz (x:Int × Int × Int):∀ a∈[AV.int .i64 x.1,AV.int .i64 x.2.1,AV.int .i64 x.2.2],il a=true:=fun a h=>by
 rcases aaB.1 h with rfl|h
 ·rfl
 ·rcases aaB.1 h with rfl|h
  ·rfl
  ·rcases aaB.1 h with rfl|h
   ·rfl
   ·cases h
theorem aek:rZ bH.P bH.cw 177 gk 2 MA where
 flat:=rfl
 size:=fun _=>rfl
 IX:=fun x a h=>by
  have h:a∈[AV.int .i64 x.1,AV.int .i64 x.2]:=h;rcases aaB.1 h with rfl|h
  ·rfl
  ·rcases aaB.1 h with rfl|h
   ·rfl
   ·cases h
 agg:=fun x=>⟨[AV.int .i64 x.1,AV.int .i64 x.2],rfl⟩
 calls:=I3
 swo:=L5
 tot:=Vn
theorem ael:rZ bH.P bH.cw 127 aA 3 gj where
 flat:=rfl
 size:=fun _=>rfl
 IX:=fun x a h=>Xz x a h
 agg:=fun x=>⟨[AV.int .i64 x.1,AV.int .i64 x.2.1,AV.int .i64 x.2.2],rfl⟩
 calls:=I4
 swo:=oH
 tot:=Ey
theorem aem:rZ bH.P bH.cw 136 aA 3 gj where
 flat:=rfl
 size:=fun _=>rfl
 IX:=fun x a h=>Xz x a h
 agg:=fun x=>⟨[AV.int .i64 x.1,AV.int .i64 x.2.1,AV.int .i64 x.2.2],rfl⟩
 calls:=I5
 swo:=oH
 tot:=Ey
def PQ (p:aO) (cf:p.T→p.T→Int) (sz:Nat) (el:TypeId) (c c2:FuncId) (args:List AV) (G:List GO):Option (Bool × AV × List GO):=
 match AU p cf sz el c args G with
 |some r=>some r
 |none=>AU p cf sz el c2 args G
noncomputable def PR:nK bH 176:=⟨AU gk MA 2 86 177,AX (ρ:=Tryz.C3) Tryz.aei (Plain.of Tryz.func176 (by kernel_rfl) (by kernel_rfl)) (Plain.of Tryz.func177 (by kernel_rfl) (by kernel_rfl)) (fun w=>Tryz.isAgg86 w) (fun w=>Tryz.sizeOf86 w) aek (by kernel_rfl) (Nat.le_succ 1)⟩
theorem PS:∀ (args:List AV) (G:List GO) (r:AV) (G':List GO),AU aA gj 3 106 127 args G=some (true,r,G')→cO bH 135 args G (fun r' CO=>r'=r∧CO=G'):=
 AX (ρ:=Tryz.vU) Tryz.Xy (Plain.of Tryz.func135 (by kernel_rfl) (by kernel_rfl)) (Plain.of Tryz.func127 (by kernel_rfl) (by kernel_rfl)) (fun w=>Tryz.isAgg106 w) (fun w=>Tryz.sizeOf106 w) ael (by kernel_rfl) (by decide)
theorem PT:∀ (args:List AV) (G:List GO) (r:AV) (G':List GO),AU aA gj 3 106 136 args G=some (true,r,G')→cO bH 135 args G (fun r' CO=>r'=r∧CO=G'):=
 AX (ρ:=Tryz.vU) Tryz.Xy (Plain.of Tryz.func135 (by kernel_rfl) (by kernel_rfl)) (Plain.of Tryz.func136 (by kernel_rfl) (by kernel_rfl)) (fun w=>Tryz.isAgg106 w) (fun w=>Tryz.sizeOf106 w) aem (by kernel_rfl) (by decide)
noncomputable def PU:nK bH 135:=⟨PQ aA gj 3 106 127 136,fun args G r G' h=>by
 unfold PQ at h;split at h
 ·rename_i r0 h0;injection h with h;subst h;exact PS args G r G' h0
 ·exact PT args G r G' h⟩
noncomputable def gtS:(g:FuncId)→Option (nK bH g)
 |176=>some PR
 |135=>some PU
 |_=>none
noncomputable def PV (N:Nat) (Bx:List (Nat × aR)) (qU:List (Nat × List (Nat × cW))):fU:={ cx N Bx qU with gt:=gtS }
end Go.Proofs.YtldcljfjjoidhaaGreatDoor
