/- The comparing functions of the sorts,and the sorts' entries. -/
import Derived.Test.YtldcljfjjoidhaaGreatDoorBraTk
import Derived.Test.YtldcljfjjoidhaaGreatDoorBraSort
import Derived.Test.YtldcljfjjoidhaaGreatDoorAmKL
import Derived.Test.YtldcljfjjoidhaaGreatDoorAmKK
set_option linter.all false
open List renaming mem_cons→aae
open Option renaming bind_some→aab
open Sum renaming inl→aac, elim_inl→aad, inr→aaf
namespace Go.Proofs.YtldcljfjjoidhaaGreatDoor
open Go Go.Am Go.Sort Go.Shelf Go.Proofs
open List (map)
open Int (toNat)
open Go.IntKind (wrap)
open Go.Am.aP (fits)
set_option maxRecDepth 100000
instance:Inhabited cZ.T:=⟨((0,0):Int × Int)⟩
instance:Inhabited aV.T:=⟨((0,0,0):Int × Int × Int)⟩
def sJ (a b:Int):Int:=if a < b then -1 else if a > b then 1 else 0
def BD (x y:Int × Int):Int:=if x.2 < y.2 then -1 else if x.2 > y.2 then 1 else sJ x.1 y.1
def lF (x y:Int × Int × Int):Int:=if x.2.1 < y.2.1 then -1 else if x.2.1 > y.2.1 then 1 else if x.1 < y.1 then -1 else if x.1 > y.1 then 1 else sJ x.2.2 y.2.2
theorem IM {a b:Int}:sJ a b < 0↔a < b:=by
 unfold sJ;split
 ·constructor <;> intro <;> omega
 ·split <;> (constructor <;> intro <;> omega)
theorem zI (x y:Int × Int):ltOf BD x y=decide (x.2 < y.2∨x.2=y.2∧x.1 < y.1):=by
 unfold ltOf BD;rw [decide_eq_decide];split
 ·constructor <;> intro <;> omega
 ·split
  ·constructor <;> intro <;> omega
  ·rw [IM];constructor <;> intro <;> omega
theorem zJ (x y:Int × Int × Int):ltOf lF x y=decide (x.2.1 < y.2.1∨x.2.1=y.2.1∧(x.1 < y.1∨x.1=y.1∧x.2.2 < y.2.2)):=by
 unfold ltOf lF;rw [decide_eq_decide];split
 ·constructor <;> intro <;> omega
 ·split
  ·constructor <;> intro <;> omega
  ·split
   ·constructor <;> intro <;> omega
   ·split
    ·constructor <;> intro <;> omega
    ·rw [IM];constructor <;> intro <;> omega
theorem abL:SWO (ltOf BD):=by
 refine ⟨fun x=>?_,fun x y z h1 h2=>?_,fun x y z h1 h2=>?_⟩
 ·rw [zI]; exact decide_eq_false (by omega)
 ·rw [zI] at *;have h1:=of_decide_eq_true h1;have h2:=of_decide_eq_true h2;exact decide_eq_true (by omega)
 ·rw [zI] at *;have h1:=of_decide_eq_false h1;have h2:=of_decide_eq_false h2;exact decide_eq_false (by omega)
theorem N2:SWO (ltOf lF):=by
 refine ⟨fun x=>?_,fun x y z h1 h2=>?_,fun x y z h1 h2=>?_⟩
 ·rw [zJ]; exact decide_eq_false (by omega)
 ·rw [zJ] at *;have h1:=of_decide_eq_true h1;have h2:=of_decide_eq_true h2;exact decide_eq_true (by omega)
 ·rw [zJ] at *;have h1:=of_decide_eq_false h1;have h2:=of_decide_eq_false h2;exact decide_eq_false (by omega)
theorem abM (x y:Int × Int) (h1:ltOf BD x y=false) (h2:ltOf BD y x=false):x=y:=by
 rw [zI] at *;have h1:=of_decide_eq_false h1;have h2:=of_decide_eq_false h2;exact Prod.ext (by omega) (by omega)
theorem SN (x y:Int × Int × Int) (h1:ltOf lF x y=false) (h2:ltOf lF y x=false):x=y:=by
 rw [zJ] at *;have h1:=of_decide_eq_false h1;have h2:=of_decide_eq_false h2;exact Prod.ext (by omega) (Prod.ext (by omega) (by omega))
theorem ccB (a b:Int):((bif (a != a) then (bif (b != b) then (some 0) else (some (-1))) else (bif (b != b) then (some 1) else (bif (decide (a < b)) then (some (-1)) else (bif (decide (a > b)) then (some 1) else (some 0))))):Option Int)=some (sJ a b):=by
 unfold sJ;rw [bne_self_eq_false,bne_self_eq_false];by_cases h:a < b
 ·simp [h]
 ·by_cases h':a > b <;> simp [h,h']
theorem kZ {a b:Int}:sJ a b=0↔a=b:=by
 unfold sJ;split
 ·constructor <;> intro <;> omega
 ·split <;> (constructor <;> intro <;> omega)
theorem N3 {X:Type} (o:Int) (a b:X):(bif o != 0 then a else b)=if o=0 then b else a:=by
 by_cases h:o=0
 ·subst h; rfl
 ·rw [if_neg h,bne_iff_ne.2 h]; rfl
theorem SO (lo:Nat) (x y:Int × Int):IL lo 5 (x,y)=some (BD x y):=by
 have h0:∀ o1 o2:Int,iR 5 o1 o2 0=some (if o1=0 then .inl 1 else .inr (.inl o1)):=fun o1 o2=>by
  show (bif o1 != 0 then some (aaf (aac o1)) else some (aac (wrap .i64 (0+1))))=_;rw [N3]; split <;> rfl
 have h1:∀ o1 o2:Int,iR 5 o1 o2 1=some (if o2=0 then .inl 2 else .inr (.inl o2)):=fun o1 o2=>by
  show (bif o2 != 0 then some (aaf (aac o2)) else some (aac (wrap .i64 (1+1))))=_;rw [N3]; split <;> rfl
 have h2:∀ o1 o2:Int,iR 5 o1 o2 2=some (.inr (.inr ())):=fun o1 o2=>rfl
 have L:∀ o1 o2:Int,ay (iR 5 o1 o2) 5 0=some (if o1=0 then (if o2=0 then .inr () else .inl o2) else .inl o1):=fun o1 o2=>by
  rw [bE,h0,aab];by_cases e1:o1=0
  ·rw [if_pos e1,if_pos e1,aad,bE,h1,aab];by_cases e2:o2=0
   ·rw [if_pos e2,if_pos e2,aad,bE,h2]; rfl
   ·rw [if_neg e2,if_neg e2]; rfl
  ·rw [if_neg e1,if_neg e1]; rfl
 rw [NX];simp only [ccB,beq_self_eq_true,Bool.and_self,cond_true,aab,L];unfold BD;by_cases e1:x.2 < y.2
 ·have:¬ x.2=y.2:=by omega
  simp [sJ,e1]
 ·by_cases e2:x.2 > y.2
  ·simp [sJ,e1,e2]
  ·have e:x.2=y.2:=by omega
   have e3:sJ x.2 y.2=0:=kZ.2 e;rw [if_neg e1,if_neg e2,e3,if_pos rfl];by_cases e4:sJ x.1 y.1=0
   ·rw [if_pos e4,e4]; rfl
   ·rw [if_neg e4]; rfl
theorem SP (lo:Nat) (x y:Int × Int × Int):IJ lo 5 (x,y)=some (lF x y):=by
 have h0:∀ o1 o2 o3:Int,gu 5 o1 o2 o3 0=some (if o1=0 then .inl 1 else .inr (.inl o1)):=fun o1 o2 o3=>by
  show (bif o1 != 0 then some (aaf (aac o1)) else some (aac (wrap .i64 (0+1))))=_;rw [N3]; split <;> rfl
 have h1:∀ o1 o2 o3:Int,gu 5 o1 o2 o3 1=some (if o2=0 then .inl 2 else .inr (.inl o2)):=fun o1 o2 o3=>by
  show (bif o2 != 0 then some (aaf (aac o2)) else some (aac (wrap .i64 (1+1))))=_;rw [N3]; split <;> rfl
 have h2:∀ o1 o2 o3:Int,gu 5 o1 o2 o3 2=some (if o3=0 then .inl 3 else .inr (.inl o3)):=fun o1 o2 o3=>by
  show (bif o3 != 0 then some (aaf (aac o3)) else some (aac (wrap .i64 (2+1))))=_;rw [N3]; split <;> rfl
 have h3:∀ o1 o2 o3:Int,gu 5 o1 o2 o3 3=some (.inr (.inr ())):=fun o1 o2 o3=>rfl
 have L:∀ o1 o2 o3:Int,ay (gu 5 o1 o2 o3) 5 0=some (if o1=0 then (if o2=0 then (if o3=0 then .inr () else .inl o3) else .inl o2) else .inl o1):=fun o1 o2 o3=>by
  rw [bE,h0,aab];by_cases e1:o1=0
  ·rw [if_pos e1,if_pos e1,aad,bE,h1,aab];by_cases e2:o2=0
   ·rw [if_pos e2,if_pos e2,aad,bE,h2,aab];by_cases e3:o3=0
    ·rw [if_pos e3,if_pos e3,aad,bE,h3]; rfl
    ·rw [if_neg e3,if_neg e3]; rfl
   ·rw [if_neg e2,if_neg e2]; rfl
  ·rw [if_neg e1,if_neg e1]; rfl
 rw [NT];simp only [ccB,beq_self_eq_true,Bool.and_self,cond_true,aab,L];unfold lF;by_cases e1:x.2.1 < y.2.1
 ·simp [sJ,e1]
 ·by_cases e2:x.2.1 > y.2.1
  ·simp [sJ,e1,e2]
  ·have e:x.2.1=y.2.1:=by omega
   have e3:sJ x.2.1 y.2.1=0:=kZ.2 e;rw [if_neg e1,if_neg e2,e3,if_pos rfl];by_cases f1:x.1 < y.1
   ·simp [sJ,f1]
   ·by_cases f2:x.1 > y.1
    ·simp [sJ,f1,f2]
    ·have f:x.1=y.1:=by omega
     have f3:sJ x.1 y.1=0:=kZ.2 f;rw [if_neg f1,if_neg f2,f3,if_pos rfl];by_cases e4:sJ x.2.2 y.2.2=0
     ·rw [if_pos e4,e4]; rfl
     ·rw [if_neg e4]; rfl
theorem SQ (lo:Nat) (x y:Int × Int × Int):IK lo 5 (x,y)=some (lF x y):=by
 have h0:iQ 5 x y 0=some (if sJ x.2.1 y.2.1=0 then .inl 1 else .inr (.inl (sJ x.2.1 y.2.1))):=by
  show (((bif (x.2.1 != x.2.1) then (bif (y.2.1 != y.2.1) then (some 0) else (some (-1))) else (bif (y.2.1 != y.2.1) then (some 1) else (bif (decide (x.2.1 < y.2.1)) then (some (-1)) else (bif (decide (x.2.1 > y.2.1)) then (some 1) else (some 0))))):Option Int).bind fun o=>bif o != 0 then some (aaf (aac o)) else some (aac (wrap .i64 (0+1))))=_;rw [ccB,aab,N3]; split <;> rfl
 have h1:iQ 5 x y 1=some (if sJ x.1 y.1=0 then .inl 2 else .inr (.inl (sJ x.1 y.1))):=by
  show (((bif (x.1 != x.1) then (bif (y.1 != y.1) then (some 0) else (some (-1))) else (bif (y.1 != y.1) then (some 1) else (bif (decide (x.1 < y.1)) then (some (-1)) else (bif (decide (x.1 > y.1)) then (some 1) else (some 0))))):Option Int).bind fun o=>bif o != 0 then some (aaf (aac o)) else some (aac (wrap .i64 (1+1))))=_;rw [ccB,aab,N3]; split <;> rfl
 have h2:iQ 5 x y 2=some (if sJ x.2.2 y.2.2=0 then .inl 3 else .inr (.inl (sJ x.2.2 y.2.2))):=by
  show (((bif (x.2.2 != x.2.2) then (bif (y.2.2 != y.2.2) then (some 0) else (some (-1))) else (bif (y.2.2 != y.2.2) then (some 1) else (bif (decide (x.2.2 < y.2.2)) then (some (-1)) else (bif (decide (x.2.2 > y.2.2)) then (some 1) else (some 0))))):Option Int).bind fun o=>bif o != 0 then some (aaf (aac o)) else some (aac (wrap .i64 (2+1))))=_;rw [ccB,aab,N3]; split <;> rfl
 have h3:iQ 5 x y 3=some (.inr (.inr ())):=rfl;rw [NV,bE,h0,aab];unfold lF;by_cases e1:x.2.1=y.2.1
 ·rw [if_pos (kZ.2 e1),aad,bE,h1,aab,if_neg (show ¬ x.2.1 < y.2.1 by omega),if_neg (show ¬ x.2.1 > y.2.1 by omega)];by_cases e2:x.1=y.1
  ·rw [if_pos (kZ.2 e2),aad,bE,h2,aab,if_neg (show ¬ x.1 < y.1 by omega),if_neg (show ¬ x.1 > y.1 by omega)];by_cases e3:sJ x.2.2 y.2.2=0
   ·rw [if_pos e3,e3,aad,bE,h3]; rfl
   ·rw [if_neg e3]; rfl
  ·rw [if_neg (fun h=>e2 (kZ.1 h))];by_cases h:x.1 < y.1
   ·simp [sJ,h]
   ·have h':x.1 > y.1:=by omega
    simp [sJ,h,h']
 ·rw [if_neg (fun h=>e1 (kZ.1 h))];by_cases h:x.2.1 < y.2.1
  ·simp [sJ,h]
  ·have h':x.2.1 > y.2.1:=by omega
   simp [sJ,h,h']
theorem CU (lo:Nat):(qg lo).P=bG.P:=rfl
theorem sy (lo:Nat):(qg lo).cr=bG.cr:=rfl
theorem zK (lo:Nat):(qg lo).gx=fun _=>false:=rfl
theorem zL (lo:Nat):(qg lo).lo=lo:=rfl
theorem Hl {E:Env} {g:FuncId} {F:XA × XA→Option Int} (hF:ai E g ⟨.cons cZ (.cons cZ .nil),.int .i64,F⟩) (x y:Int × Int) (z:Int) (h:F (x,y)=some z):aU E g [cZ.enc x,cZ.enc y] (fun r=>r=.int .i64 z):=hF (x,y) z h
theorem zM {E:Env} {g:FuncId} {F:XB × XB→Option Int} (hF:ai E g ⟨.cons aV (.cons aV .nil),.int .i64,F⟩) (x y:Int × Int × Int) (z:Int) (h:F (x,y)=some z):aU E g [aV.enc x,aV.enc y] (fun r=>r=.int .i64 z):=hF (x,y) z h
theorem Hm (E:Env) (hP:E.P=bG.P) (hG:E.cr=bG.cr) (hx:E.gx=fun _=>false) (x y:Int × Int):aU E 177 [cZ.enc x,cZ.enc y] (fun r=>r=.int .i64 (BD x y)):=
 aU.env (E:=qg E.lo) ((CU E.lo).trans hP.symm) ((sy E.lo).trans hG.symm) (Hl (F:=IL E.lo 5) (NW E.lo 5) x y (BD x y) (SO E.lo x y)) (zL E.lo) ((zK E.lo).trans hx.symm)
theorem Hn (E:Env) (hP:E.P=bG.P) (hG:E.cr=bG.cr) (hx:E.gx=fun _=>false) (x y:Int × Int × Int):aU E 127 [aV.enc x,aV.enc y] (fun r=>r=.int .i64 (lF x y)):=
 aU.env (E:=qg E.lo) ((CU E.lo).trans hP.symm) ((sy E.lo).trans hG.symm) (zM (F:=IJ E.lo 5) (NS E.lo 5) x y (lF x y) (SP E.lo x y)) (zL E.lo) ((zK E.lo).trans hx.symm)
theorem Ho (E:Env) (hP:E.P=bG.P) (hG:E.cr=bG.cr) (hx:E.gx=fun _=>false) (x y:Int × Int × Int):aU E 136 [aV.enc x,aV.enc y] (fun r=>r=.int .i64 (lF x y)):=
 aU.env (E:=qg E.lo) ((CU E.lo).trans hP.symm) ((sy E.lo).trans hG.symm) (zM (F:=IK E.lo 5) (NU E.lo 5) x y (lF x y) (SQ E.lo x y)) (zL E.lo) ((zK E.lo).trans hx.symm)
theorem U9 (x:Int × Int × Int):∀ a∈[AV.int .i64 x.1,AV.int .i64 x.2.1,AV.int .i64 x.2.2],gf a=true:=fun a h=>by
 rcases aae.1 h with rfl|h
 ·rfl
 ·rcases aae.1 h with rfl|h
  ·rfl
  ·rcases aae.1 h with rfl|h
   ·rfl
   ·cases h
theorem abO:qV bG.P bG.cr 177 cZ 2 BD where
 flat:=rfl
 size:=fun _=>rfl
 Hj:=fun x a h=>by
  have h:a∈[AV.int .i64 x.1,AV.int .i64 x.2]:=h;rcases aae.1 h with rfl|h
  ·rfl
  ·rcases aae.1 h with rfl|h
   ·rfl
   ·cases h
 agg:=fun x=>⟨[AV.int .i64 x.1,AV.int .i64 x.2],rfl⟩
 calls:=Hm
 swo:=abL
 tot:=abM
theorem abP:qV bG.P bG.cr 127 aV 3 lF where
 flat:=rfl
 size:=fun _=>rfl
 Hj:=fun x a h=>U9 x a h
 agg:=fun x=>⟨[AV.int .i64 x.1,AV.int .i64 x.2.1,AV.int .i64 x.2.2],rfl⟩
 calls:=Hn
 swo:=N2
 tot:=SN
theorem abQ:qV bG.P bG.cr 136 aV 3 lF where
 flat:=rfl
 size:=fun _=>rfl
 Hj:=fun x a h=>U9 x a h
 agg:=fun x=>⟨[AV.int .i64 x.1,AV.int .i64 x.2.1,AV.int .i64 x.2.2],rfl⟩
 calls:=Ho
 swo:=N2
 tot:=SN
def N4 (p:aP) (cf:p.T→p.T→Int) (sz:Nat) (el:TypeId) (c c2:FuncId) (args:List AV) (G:List GO):Option (Bool × AV × List GO):=
 match zF p cf sz el c args G with
 |some r=>some r
 |none=>zF p cf sz el c2 args G
noncomputable def N5:kQ bG 176:=⟨zF cZ BD 2 86 177,zH (ρ:=Tryz.BB) Tryz.abH (Plain.of Tryz.func176 (by kernel_rfl) (by kernel_rfl)) (Plain.of Tryz.func177 (by kernel_rfl) (by kernel_rfl)) (fun w=>Tryz.isAgg86 w) (fun w=>Tryz.sizeOf86 w) abO (by kernel_rfl) (Nat.le_succ 1)⟩
theorem N6:∀ (args:List AV) (G:List GO) (r:AV) (G':List GO),zF aV lF 3 106 127 args G=some (true,r,G')→cG bG 135 args G (fun r' Br=>r'=r∧Br=G'):=
 zH (ρ:=Tryz.uQ) Tryz.U8 (Plain.of Tryz.func135 (by kernel_rfl) (by kernel_rfl)) (Plain.of Tryz.func127 (by kernel_rfl) (by kernel_rfl)) (fun w=>Tryz.isAgg106 w) (fun w=>Tryz.sizeOf106 w) abP (by kernel_rfl) (by decide)
theorem N7:∀ (args:List AV) (G:List GO) (r:AV) (G':List GO),zF aV lF 3 106 136 args G=some (true,r,G')→cG bG 135 args G (fun r' Br=>r'=r∧Br=G'):=
 zH (ρ:=Tryz.uQ) Tryz.U8 (Plain.of Tryz.func135 (by kernel_rfl) (by kernel_rfl)) (Plain.of Tryz.func136 (by kernel_rfl) (by kernel_rfl)) (fun w=>Tryz.isAgg106 w) (fun w=>Tryz.sizeOf106 w) abQ (by kernel_rfl) (by decide)
noncomputable def N8:kQ bG 135:=⟨N4 aV lF 3 106 127 136,fun args G r G' h=>by
 unfold N4 at h;split at h
 ·rename_i r0 h0;injection h with h;subst h;exact N6 args G r G' h0
 ·exact N7 args G r G' h⟩
noncomputable def gtS:(g:FuncId)→Option (kQ bG g)
 |176=>some N5
 |135=>some N8
 |_=>none
noncomputable def Ki (N:Nat) (xe:List (Nat × aD)) (oo:List (Nat × List (Nat × cA))):eB:={ cx N xe oo with gt:=gtS }
end Go.Proofs.YtldcljfjjoidhaaGreatDoor
