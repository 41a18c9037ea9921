/- The comparing functions of the sorts,and the sorts' entries. -/
import Derived.Test.YtldcljfjjoidhaaGreatDoorBraTk
import Derived.Test.YtldcljfjjoidhaaGreatDoorBraSort
import Derived.Test.YtldcljfjjoidhaaGreatDoorAmKL
import Derived.Test.YtldcljfjjoidhaaGreatDoorAmKK
set_option linter.all false
namespace Go.Proofs.YtldcljfjjoidhaaGreatDoor
open Go Go.Am Go.Sort Go.Shelf Go.Proofs
open List (map)
open Int (toNat)
open Go.IntKind (wrap)
open Go.Am.aR (fits)
set_option maxRecDepth 100000
instance:Inhabited fI.T:=⟨((0,0):Int × Int)⟩
instance:Inhabited ay.T:=⟨((0,0,0):Int × Int × Int)⟩
def ss (a b:Int):Int:=if a < b then -1 else if a > b then 1 else 0
def MY (x y:Int × Int):Int:=if x.2 < y.2 then -1 else if x.2 > y.2 then 1 else ss x.1 y.1
def kV (x y:Int × Int × Int):Int:=if x.2.1 < y.2.1 then -1 else if x.2.1 > y.2.1 then 1 else if x.1 < y.1 then -1 else if x.1 > y.1 then 1 else ss x.2.2 y.2.2
theorem HM {a b:Int}:ss a b < 0↔a < b:=by
 unfold ss
 split
 ·constructor <;> intro <;> omega
 ·split <;> (constructor <;> intro <;> omega)
theorem Ct (x y:Int × Int):ltOf MY x y=decide (x.2 < y.2∨x.2=y.2∧x.1 < y.1):=by
 unfold ltOf MY
 rw [decide_eq_decide]
 split
 ·constructor <;> intro <;> omega
 ·split
  ·constructor <;> intro <;> omega
  ·rw [HM]
   constructor <;> intro <;> omega
theorem uN (x y:Int × Int × Int):ltOf kV x y=decide (x.2.1 < y.2.1∨x.2.1=y.2.1∧(x.1 < y.1∨x.1=y.1∧x.2.2 < y.2.2)):=by
 unfold ltOf kV
 rw [decide_eq_decide]
 split
 ·constructor <;> intro <;> omega
 ·split
  ·constructor <;> intro <;> omega
  ·split
   ·constructor <;> intro <;> omega
   ·split
    ·constructor <;> intro <;> omega
    ·rw [HM]
     constructor <;> intro <;> omega
theorem aeT:SWO (ltOf MY):=by
 refine ⟨fun x=>?_,fun x y z h1 h2=>?_,fun x y z h1 h2=>?_⟩
 ·rw [Ct]; exact decide_eq_false (by omega)
 ·rw [Ct] at *
  have h1:=of_decide_eq_true h1
  have h2:=of_decide_eq_true h2
  exact decide_eq_true (by omega)
 ·rw [Ct] at *
  have h1:=of_decide_eq_false h1
  have h2:=of_decide_eq_false h2
  exact decide_eq_false (by omega)
theorem Gr:SWO (ltOf kV):=by
 refine ⟨fun x=>?_,fun x y z h1 h2=>?_,fun x y z h1 h2=>?_⟩
 ·rw [uN]; exact decide_eq_false (by omega)
 ·rw [uN] at *
  have h1:=of_decide_eq_true h1
  have h2:=of_decide_eq_true h2
  exact decide_eq_true (by omega)
 ·rw [uN] at *
  have h1:=of_decide_eq_false h1
  have h2:=of_decide_eq_false h2
  exact decide_eq_false (by omega)
theorem aeU (x y:Int × Int) (h1:ltOf MY x y=false) (h2:ltOf MY y x=false):x=y:=by
 rw [Ct] at *
 have h1:=of_decide_eq_false h1
 have h2:=of_decide_eq_false h2
 exact Prod.ext (by omega) (by omega)
theorem RX (x y:Int × Int × Int) (h1:ltOf kV x y=false) (h2:ltOf kV y x=false):x=y:=by
 rw [uN] at *
 have h1:=of_decide_eq_false h1
 have h2:=of_decide_eq_false h2
 exact Prod.ext (by omega) (Prod.ext (by omega) (by omega))
theorem ccB (a b:Int):((bif (a != a) then (bif (b != b) then (some 0) else (some (-1))) else (bif (b != b) then (some 1) else (bif (decide (a < b)) then (some (-1)) else (bif (decide (a > b)) then (some 1) else (some 0))))):Option Int)=some (ss a b):=by
 unfold ss
 rw [bne_self_eq_false,bne_self_eq_false]
 by_cases h:a < b
 ·simp [h]
 ·by_cases h':a > b <;> simp [h,h']
theorem lK {a b:Int}:ss a b=0↔a=b:=by
 unfold ss
 split
 ·constructor <;> intro <;> omega
 ·split <;> (constructor <;> intro <;> omega)
theorem HN {X:Type} (o:Int) (a b:X):(bif o != 0 then a else b)=if o=0 then b else a:=by
 by_cases h:o=0
 ·subst h; rfl
 ·rw [if_neg h,bne_iff_ne.2 h]; rfl
theorem RY (lo:Nat) (x y:Int × Int):HL lo 5 (x,y)=some (MY x y):=by
 have h0:∀ o1 o2:Int,jq 5 o1 o2 0=some (if o1=0 then .inl 1 else .inr (.inl o1)):=fun o1 o2=>by
  show (bif o1 != 0 then some (Sum.inr (Sum.inl o1)) else some (Sum.inl (wrap .i64 (0+1))))=_
  rw [HN]; split <;> rfl
 have h1:∀ o1 o2:Int,jq 5 o1 o2 1=some (if o2=0 then .inl 2 else .inr (.inl o2)):=fun o1 o2=>by
  show (bif o2 != 0 then some (Sum.inr (Sum.inl o2)) else some (Sum.inl (wrap .i64 (1+1))))=_
  rw [HN]; split <;> rfl
 have h2:∀ o1 o2:Int,jq 5 o1 o2 2=some (.inr (.inr ())):=fun o1 o2=>rfl
 have L:∀ o1 o2:Int,aL (jq 5 o1 o2) 5 0=some (if o1=0 then (if o2=0 then .inr () else .inl o2) else .inl o1):=fun o1 o2=>by
  rw [bB,h0,Option.bind_some]
  by_cases e1:o1=0
  ·rw [if_pos e1,if_pos e1,Sum.elim_inl,bB,h1,Option.bind_some]
   by_cases e2:o2=0
   ·rw [if_pos e2,if_pos e2,Sum.elim_inl,bB,h2]; rfl
   ·rw [if_neg e2,if_neg e2]; rfl
  ·rw [if_neg e1,if_neg e1]; rfl
 rw [MX]
 simp only [ccB,beq_self_eq_true,Bool.and_self,cond_true,Option.bind_some,L]
 unfold MY
 by_cases e1:x.2 < y.2
 ·have:¬ x.2=y.2:=by omega
  simp [ss,e1]
 ·by_cases e2:x.2 > y.2
  ·simp [ss,e1,e2]
  ·have e:x.2=y.2:=by omega
   have e3:ss x.2 y.2=0:=lK.2 e
   rw [if_neg e1,if_neg e2,e3,if_pos rfl]
   by_cases e4:ss x.1 y.1=0
   ·rw [if_pos e4,e4]; rfl
   ·rw [if_neg e4]; rfl
theorem RZ (lo:Nat) (x y:Int × Int × Int):HJ lo 5 (x,y)=some (kV x y):=by
 have h0:∀ o1 o2 o3:Int,gY 5 o1 o2 o3 0=some (if o1=0 then .inl 1 else .inr (.inl o1)):=fun o1 o2 o3=>by
  show (bif o1 != 0 then some (Sum.inr (Sum.inl o1)) else some (Sum.inl (wrap .i64 (0+1))))=_
  rw [HN]; split <;> rfl
 have h1:∀ o1 o2 o3:Int,gY 5 o1 o2 o3 1=some (if o2=0 then .inl 2 else .inr (.inl o2)):=fun o1 o2 o3=>by
  show (bif o2 != 0 then some (Sum.inr (Sum.inl o2)) else some (Sum.inl (wrap .i64 (1+1))))=_
  rw [HN]; split <;> rfl
 have h2:∀ o1 o2 o3:Int,gY 5 o1 o2 o3 2=some (if o3=0 then .inl 3 else .inr (.inl o3)):=fun o1 o2 o3=>by
  show (bif o3 != 0 then some (Sum.inr (Sum.inl o3)) else some (Sum.inl (wrap .i64 (2+1))))=_
  rw [HN]; split <;> rfl
 have h3:∀ o1 o2 o3:Int,gY 5 o1 o2 o3 3=some (.inr (.inr ())):=fun o1 o2 o3=>rfl
 have L:∀ o1 o2 o3:Int,aL (gY 5 o1 o2 o3) 5 0=some (if o1=0 then (if o2=0 then (if o3=0 then .inr () else .inl o3) else .inl o2) else .inl o1):=fun o1 o2 o3=>by
  rw [bB,h0,Option.bind_some]
  by_cases e1:o1=0
  ·rw [if_pos e1,if_pos e1,Sum.elim_inl,bB,h1,Option.bind_some]
   by_cases e2:o2=0
   ·rw [if_pos e2,if_pos e2,Sum.elim_inl,bB,h2,Option.bind_some]
    by_cases e3:o3=0
    ·rw [if_pos e3,if_pos e3,Sum.elim_inl,bB,h3]; rfl
    ·rw [if_neg e3,if_neg e3]; rfl
   ·rw [if_neg e2,if_neg e2]; rfl
  ·rw [if_neg e1,if_neg e1]; rfl
 rw [MT]
 simp only [ccB,beq_self_eq_true,Bool.and_self,cond_true,Option.bind_some,L]
 unfold kV
 by_cases e1:x.2.1 < y.2.1
 ·simp [ss,e1]
 ·by_cases e2:x.2.1 > y.2.1
  ·simp [ss,e1,e2]
  ·have e:x.2.1=y.2.1:=by omega
   have e3:ss x.2.1 y.2.1=0:=lK.2 e
   rw [if_neg e1,if_neg e2,e3,if_pos rfl]
   by_cases f1:x.1 < y.1
   ·simp [ss,f1]
   ·by_cases f2:x.1 > y.1
    ·simp [ss,f1,f2]
    ·have f:x.1=y.1:=by omega
     have f3:ss x.1 y.1=0:=lK.2 f
     rw [if_neg f1,if_neg f2,f3,if_pos rfl]
     by_cases e4:ss x.2.2 y.2.2=0
     ·rw [if_pos e4,e4]; rfl
     ·rw [if_neg e4]; rfl
theorem R4 (lo:Nat) (x y:Int × Int × Int):HK lo 5 (x,y)=some (kV x y):=by
 have h0:jo 5 x y 0=some (if ss x.2.1 y.2.1=0 then .inl 1 else .inr (.inl (ss x.2.1 y.2.1))):=by
  show (((bif (x.2.1 != x.2.1) then (bif (y.2.1 != y.2.1) then (some 0) else (some (-1))) else (bif (y.2.1 != y.2.1) then (some 1) else (bif (decide (x.2.1 < y.2.1)) then (some (-1)) else (bif (decide (x.2.1 > y.2.1)) then (some 1) else (some 0))))):Option Int).bind fun o=>bif o != 0 then some (Sum.inr (Sum.inl o)) else some (Sum.inl (wrap .i64 (0+1))))=_
  rw [ccB,Option.bind_some,HN]; split <;> rfl
 have h1:jo 5 x y 1=some (if ss x.1 y.1=0 then .inl 2 else .inr (.inl (ss x.1 y.1))):=by
  show (((bif (x.1 != x.1) then (bif (y.1 != y.1) then (some 0) else (some (-1))) else (bif (y.1 != y.1) then (some 1) else (bif (decide (x.1 < y.1)) then (some (-1)) else (bif (decide (x.1 > y.1)) then (some 1) else (some 0))))):Option Int).bind fun o=>bif o != 0 then some (Sum.inr (Sum.inl o)) else some (Sum.inl (wrap .i64 (1+1))))=_
  rw [ccB,Option.bind_some,HN]; split <;> rfl
 have h2:jo 5 x y 2=some (if ss x.2.2 y.2.2=0 then .inl 3 else .inr (.inl (ss x.2.2 y.2.2))):=by
  show (((bif (x.2.2 != x.2.2) then (bif (y.2.2 != y.2.2) then (some 0) else (some (-1))) else (bif (y.2.2 != y.2.2) then (some 1) else (bif (decide (x.2.2 < y.2.2)) then (some (-1)) else (bif (decide (x.2.2 > y.2.2)) then (some 1) else (some 0))))):Option Int).bind fun o=>bif o != 0 then some (Sum.inr (Sum.inl o)) else some (Sum.inl (wrap .i64 (2+1))))=_
  rw [ccB,Option.bind_some,HN]; split <;> rfl
 have h3:jo 5 x y 3=some (.inr (.inr ())):=rfl
 rw [MV,bB,h0,Option.bind_some]
 unfold kV
 by_cases e1:x.2.1=y.2.1
 ·rw [if_pos (lK.2 e1),Sum.elim_inl,bB,h1,Option.bind_some,if_neg (show ¬ x.2.1 < y.2.1 by omega),if_neg (show ¬ x.2.1 > y.2.1 by omega)]
  by_cases e2:x.1=y.1
  ·rw [if_pos (lK.2 e2),Sum.elim_inl,bB,h2,Option.bind_some,if_neg (show ¬ x.1 < y.1 by omega),if_neg (show ¬ x.1 > y.1 by omega)]
   by_cases e3:ss x.2.2 y.2.2=0
   ·rw [if_pos e3,e3,Sum.elim_inl,bB,h3]; rfl
   ·rw [if_neg e3]; rfl
  ·rw [if_neg (fun h=>e2 (lK.1 h))]
   by_cases h:x.1 < y.1
   ·simp [ss,h]
   ·have h':x.1 > y.1:=by omega
    simp [ss,h,h']
 ·rw [if_neg (fun h=>e1 (lK.1 h))]
  by_cases h:x.2.1 < y.2.1
  ·simp [ss,h]
  ·have h':x.2.1 > y.2.1:=by omega
   simp [ss,h,h']
theorem Cu (lo:Nat):(p9 lo).P=bF.P:=rfl
theorem so (lo:Nat):(p9 lo).cm=bF.cm:=rfl
theorem zC (lo:Nat):(p9 lo).gx=fun _=>false:=rfl
theorem zD (lo:Nat):(p9 lo).lo=lo:=rfl
theorem Gs {E:Env} {g:FuncId} {F:XA × XA→Option Int} (hF:ak E g ⟨.cons fI (.cons fI .nil),.int .i64,F⟩) (x y:Int × Int) (z:Int) (h:F (x,y)=some z):a7 E g [fI.enc x,fI.enc y] (fun r=>r=.int .i64 z):=hF (x,y) z h
theorem zF {E:Env} {g:FuncId} {F:XB × XB→Option Int} (hF:ak E g ⟨.cons ay (.cons ay .nil),.int .i64,F⟩) (x y:Int × Int × Int) (z:Int) (h:F (x,y)=some z):a7 E g [ay.enc x,ay.enc y] (fun r=>r=.int .i64 z):=hF (x,y) z h
theorem Gt (E:Env) (hP:E.P=bF.P) (hG:E.cm=bF.cm) (hx:E.gx=fun _=>false) (x y:Int × Int):a7 E 177 [fI.enc x,fI.enc y] (fun r=>r=.int .i64 (MY x y)):=
 a7.env (E:=p9 E.lo) ((Cu E.lo).trans hP.symm) ((so E.lo).trans hG.symm) (Gs (F:=HL E.lo 5) (MW E.lo 5) x y (MY x y) (RY E.lo x y)) (zD E.lo) ((zC E.lo).trans hx.symm)
theorem Gu (E:Env) (hP:E.P=bF.P) (hG:E.cm=bF.cm) (hx:E.gx=fun _=>false) (x y:Int × Int × Int):a7 E 127 [ay.enc x,ay.enc y] (fun r=>r=.int .i64 (kV x y)):=
 a7.env (E:=p9 E.lo) ((Cu E.lo).trans hP.symm) ((so E.lo).trans hG.symm) (zF (F:=HJ E.lo 5) (MS E.lo 5) x y (kV x y) (RZ E.lo x y)) (zD E.lo) ((zC E.lo).trans hx.symm)
theorem Gv (E:Env) (hP:E.P=bF.P) (hG:E.cm=bF.cm) (hx:E.gx=fun _=>false) (x y:Int × Int × Int):a7 E 136 [ay.enc x,ay.enc y] (fun r=>r=.int .i64 (kV x y)):=
 a7.env (E:=p9 E.lo) ((Cu E.lo).trans hP.symm) ((so E.lo).trans hG.symm) (zF (F:=HK E.lo 5) (MU E.lo 5) x y (kV x y) (R4 E.lo x y)) (zD E.lo) ((zC E.lo).trans hx.symm)
theorem T5 (x:Int × Int × Int):∀ a∈[AV.int .i64 x.1,AV.int .i64 x.2.1,AV.int .i64 x.2.2],gO a=true:=fun a h=>by
 rcases List.mem_cons.1 h with rfl | h
 ·rfl
 ·rcases List.mem_cons.1 h with rfl | h
  ·rfl
  ·rcases List.mem_cons.1 h with rfl | h
   ·rfl
   ·cases h
theorem aaI:qC bF.P bF.cm 177 fI 2 MY where
 flat:=rfl
 size:=fun _=>rfl
 Gn:=fun x a h=>by
  have h:a∈[AV.int .i64 x.1,AV.int .i64 x.2]:=h
  rcases List.mem_cons.1 h with rfl | h
  ·rfl
  ·rcases List.mem_cons.1 h with rfl | h
   ·rfl
   ·cases h
 agg:=fun x=>⟨[AV.int .i64 x.1,AV.int .i64 x.2],rfl⟩
 calls:=Gt
 swo:=aeT
 tot:=aeU
theorem aaJ:qC bF.P bF.cm 127 ay 3 kV where
 flat:=rfl
 size:=fun _=>rfl
 Gn:=fun x a h=>T5 x a h
 agg:=fun x=>⟨[AV.int .i64 x.1,AV.int .i64 x.2.1,AV.int .i64 x.2.2],rfl⟩
 calls:=Gu
 swo:=Gr
 tot:=RX
theorem aaK:qC bF.P bF.cm 136 ay 3 kV where
 flat:=rfl
 size:=fun _=>rfl
 Gn:=fun x a h=>T5 x a h
 agg:=fun x=>⟨[AV.int .i64 x.1,AV.int .i64 x.2.1,AV.int .i64 x.2.2],rfl⟩
 calls:=Gv
 swo:=Gr
 tot:=RX
def MZ (p:aR) (cf:p.T→p.T→Int) (sz:Nat) (el:TypeId) (c c2:FuncId) (args:List AV) (G:List GO):Option (Bool × AV × List GO):=
 match zu p cf sz el c args G with
 | some r=>some r
 | none=>zu p cf sz el c2 args G
noncomputable def M0:mI bF 176:=⟨zu fI MY 2 86 177,zw (ρ:=Tryz.Bk) Tryz.aaG (Plain.of Tryz.func176 (by kernel_rfl) (by kernel_rfl)) (Plain.of Tryz.func177 (by kernel_rfl) (by kernel_rfl)) (fun w=>Tryz.isAgg86 w) (fun w=>Tryz.sizeOf86 w) aaI (by kernel_rfl) (Nat.le_succ 1)⟩
theorem M1:∀ (args:List AV) (G:List GO) (r:AV) (G':List GO),zu ay kV 3 106 127 args G=some (true,r,G')→cB bF 135 args G (fun r' A6=>r'=r∧A6=G'):=
 zw (ρ:=Tryz.uM) Tryz.T4 (Plain.of Tryz.func135 (by kernel_rfl) (by kernel_rfl)) (Plain.of Tryz.func127 (by kernel_rfl) (by kernel_rfl)) (fun w=>Tryz.isAgg106 w) (fun w=>Tryz.sizeOf106 w) aaJ (by kernel_rfl) (by decide)
theorem M2:∀ (args:List AV) (G:List GO) (r:AV) (G':List GO),zu ay kV 3 106 136 args G=some (true,r,G')→cB bF 135 args G (fun r' A6=>r'=r∧A6=G'):=
 zw (ρ:=Tryz.uM) Tryz.T4 (Plain.of Tryz.func135 (by kernel_rfl) (by kernel_rfl)) (Plain.of Tryz.func136 (by kernel_rfl) (by kernel_rfl)) (fun w=>Tryz.isAgg106 w) (fun w=>Tryz.sizeOf106 w) aaK (by kernel_rfl) (by decide)
noncomputable def M3:mI bF 135:=⟨MZ ay kV 3 106 127 136,fun args G r G' h=>by
 unfold MZ at h
 split at h
 ·rename_i r0 h0
  injection h with h
  subst h
  exact M1 args G r G' h0
 ·exact M2 args G r G' h⟩
noncomputable def gtS:(g:FuncId)→Option (mI bF g)
 | 176=>some M0
 | 135=>some M3
 | _=>none
noncomputable def R5 (N:Nat) (zS:List (Nat × aS)) (pP:List (Nat × List (Nat × cE))):fw:={ cx N zS pP with gt:=gtS }
end Go.Proofs.YtldcljfjjoidhaaGreatDoor
