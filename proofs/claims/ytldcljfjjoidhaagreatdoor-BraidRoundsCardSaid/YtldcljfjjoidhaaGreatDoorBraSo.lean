/- The comparing functions of the sorts,and the sorts' entries. -/
import Derived.Test.YtldcljfjjoidhaaGreatDoorBraTk
import Derived.Test.YtldcljfjjoidhaaGreatDoorBraSort
import Derived.Test.YtldcljfjjoidhaaGreatDoorAmKL
import Derived.Test.YtldcljfjjoidhaaGreatDoorAmKK
set_option linter.all false
namespace Go.Proofs.YtldcljfjjoidhaaGreatDoor
open Go Go.Am Go.Sort Go.Shelf Go.Proofs
open List (map)
open Int (toNat)
open Go.IntKind (wrap)
open Go.Am.aT (fits)
set_option maxRecDepth 100000
instance:Inhabited cz.T:=⟨((0,0):Int × Int)⟩
instance:Inhabited aw.T:=⟨((0,0,0):Int × Int × Int)⟩
def q8 (a b:Int):Int:=if a < b then -1 else if a > b then 1 else 0
def z7 (x y:Int × Int):Int:=if x.2 < y.2 then -1 else if x.2 > y.2 then 1 else q8 x.1 y.1
def kL (x y:Int × Int × Int):Int:=if x.2.1 < y.2.1 then -1 else if x.2.1 > y.2.1 then 1 else if x.1 < y.1 then -1 else if x.1 > y.1 then 1 else q8 x.2.2 y.2.2
theorem GV {a b:Int}:q8 a b < 0↔a < b:=by
 unfold q8
 split
 ·constructor <;> intro <;> omega
 ·split <;> (constructor <;> intro <;> omega)
theorem xU (x y:Int × Int):ltOf z7 x y=decide (x.2 < y.2∨x.2=y.2∧x.1 < y.1):=by
 unfold ltOf z7
 rw [decide_eq_decide]
 split
 ·constructor <;> intro <;> omega
 ·split
  ·constructor <;> intro <;> omega
  ·rw [GV]
   constructor <;> intro <;> omega
theorem tz (x y:Int × Int × Int):ltOf kL x y=decide (x.2.1 < y.2.1∨x.2.1=y.2.1∧(x.1 < y.1∨x.1=y.1∧x.2.2 < y.2.2)):=by
 unfold ltOf kL
 rw [decide_eq_decide]
 split
 ·constructor <;> intro <;> omega
 ·split
  ·constructor <;> intro <;> omega
  ·split
   ·constructor <;> intro <;> omega
   ·split
    ·constructor <;> intro <;> omega
    ·rw [GV]
     constructor <;> intro <;> omega
theorem Ix:SWO (ltOf z7):=by
 refine ⟨fun x=>?_,fun x y z h1 h2=>?_,fun x y z h1 h2=>?_⟩
 ·rw [xU]; exact decide_eq_false (by omega)
 ·rw [xU] at *
  have h1:=of_decide_eq_true h1
  have h2:=of_decide_eq_true h2
  exact decide_eq_true (by omega)
 ·rw [xU] at *
  have h1:=of_decide_eq_false h1
  have h2:=of_decide_eq_false h2
  exact decide_eq_false (by omega)
theorem Bx:SWO (ltOf kL):=by
 refine ⟨fun x=>?_,fun x y z h1 h2=>?_,fun x y z h1 h2=>?_⟩
 ·rw [tz]; exact decide_eq_false (by omega)
 ·rw [tz] at *
  have h1:=of_decide_eq_true h1
  have h2:=of_decide_eq_true h2
  exact decide_eq_true (by omega)
 ·rw [tz] at *
  have h1:=of_decide_eq_false h1
  have h2:=of_decide_eq_false h2
  exact decide_eq_false (by omega)
theorem QQ (x y:Int × Int) (h1:ltOf z7 x y=false) (h2:ltOf z7 y x=false):x=y:=by
 rw [xU] at *
 have h1:=of_decide_eq_false h1
 have h2:=of_decide_eq_false h2
 exact Prod.ext (by omega) (by omega)
theorem L4 (x y:Int × Int × Int) (h1:ltOf kL x y=false) (h2:ltOf kL y x=false):x=y:=by
 rw [tz] at *
 have h1:=of_decide_eq_false h1
 have h2:=of_decide_eq_false h2
 exact Prod.ext (by omega) (Prod.ext (by omega) (by omega))
theorem Zz (a b:Int):((bif (a != a) then (bif (b != b) then (some 0) else (some (-1))) else (bif (b != b) then (some 1) else (bif (decide (a < b)) then (some (-1)) else (bif (decide (a > b)) then (some 1) else (some 0))))):Option Int)=some (q8 a b):=by
 unfold q8
 rw [bne_self_eq_false,bne_self_eq_false]
 by_cases h:a < b
 ·simp [h]
 ·by_cases h':a > b <;> simp [h,h']
theorem kM {a b:Int}:q8 a b=0↔a=b:=by
 unfold q8
 split
 ·constructor <;> intro <;> omega
 ·split <;> (constructor <;> intro <;> omega)
theorem BR {X:Type} (o:Int) (a b:X):(bif o != 0 then a else b)=if o=0 then b else a:=by
 by_cases h:o=0
 ·subst h; rfl
 ·rw [if_neg h,bne_iff_ne.2 h]; rfl
theorem QR (lo:Nat) (x y:Int × Int):GU lo 5 (x,y)=some (z7 x y):=by
 have h0:∀ o1 o2:Int,iI 5 o1 o2 0=some (if o1=0 then .inl 1 else .inr (.inl o1)):=fun o1 o2=>by
  show (bif o1 != 0 then some (Sum.inr (Sum.inl o1)) else some (Sum.inl (wrap .i64 (0+1))))=_
  rw [BR]; split <;> rfl
 have h1:∀ o1 o2:Int,iI 5 o1 o2 1=some (if o2=0 then .inl 2 else .inr (.inl o2)):=fun o1 o2=>by
  show (bif o2 != 0 then some (Sum.inr (Sum.inl o2)) else some (Sum.inl (wrap .i64 (1+1))))=_
  rw [BR]; split <;> rfl
 have h2:∀ o1 o2:Int,iI 5 o1 o2 2=some (.inr (.inr ())):=fun o1 o2=>rfl
 have L:∀ o1 o2:Int,aG (iI 5 o1 o2) 5 0=some (if o1=0 then (if o2=0 then .inr () else .inl o2) else .inl o1):=fun o1 o2=>by
  rw [bh,h0,Option.bind_some]
  by_cases e1:o1=0
  ·rw [if_pos e1,if_pos e1,Sum.elim_inl,bh,h1,Option.bind_some]
   by_cases e2:o2=0
   ·rw [if_pos e2,if_pos e2,Sum.elim_inl,bh,h2]; rfl
   ·rw [if_neg e2,if_neg e2]; rfl
  ·rw [if_neg e1,if_neg e1]; rfl
 rw [L3]
 simp only [Zz,beq_self_eq_true,Bool.and_self,cond_true,Option.bind_some,L]
 unfold z7
 by_cases e1:x.2 < y.2
 ·have:¬ x.2=y.2:=by omega
  simp [q8,e1]
 ·by_cases e2:x.2 > y.2
  ·simp [q8,e1,e2]
  ·have e:x.2=y.2:=by omega
   have e3:q8 x.2 y.2=0:=kM.2 e
   rw [if_neg e1,if_neg e2,e3,if_pos rfl]
   by_cases e4:q8 x.1 y.1=0
   ·rw [if_pos e4,e4]; rfl
   ·rw [if_neg e4]; rfl
theorem QS (lo:Nat) (x y:Int × Int × Int):GR lo 5 (x,y)=some (kL x y):=by
 have h0:∀ o1 o2 o3:Int,gn 5 o1 o2 o3 0=some (if o1=0 then .inl 1 else .inr (.inl o1)):=fun o1 o2 o3=>by
  show (bif o1 != 0 then some (Sum.inr (Sum.inl o1)) else some (Sum.inl (wrap .i64 (0+1))))=_
  rw [BR]; split <;> rfl
 have h1:∀ o1 o2 o3:Int,gn 5 o1 o2 o3 1=some (if o2=0 then .inl 2 else .inr (.inl o2)):=fun o1 o2 o3=>by
  show (bif o2 != 0 then some (Sum.inr (Sum.inl o2)) else some (Sum.inl (wrap .i64 (1+1))))=_
  rw [BR]; split <;> rfl
 have h2:∀ o1 o2 o3:Int,gn 5 o1 o2 o3 2=some (if o3=0 then .inl 3 else .inr (.inl o3)):=fun o1 o2 o3=>by
  show (bif o3 != 0 then some (Sum.inr (Sum.inl o3)) else some (Sum.inl (wrap .i64 (2+1))))=_
  rw [BR]; split <;> rfl
 have h3:∀ o1 o2 o3:Int,gn 5 o1 o2 o3 3=some (.inr (.inr ())):=fun o1 o2 o3=>rfl
 have L:∀ o1 o2 o3:Int,aG (gn 5 o1 o2 o3) 5 0=some (if o1=0 then (if o2=0 then (if o3=0 then .inr () else .inl o3) else .inl o2) else .inl o1):=fun o1 o2 o3=>by
  rw [bh,h0,Option.bind_some]
  by_cases e1:o1=0
  ·rw [if_pos e1,if_pos e1,Sum.elim_inl,bh,h1,Option.bind_some]
   by_cases e2:o2=0
   ·rw [if_pos e2,if_pos e2,Sum.elim_inl,bh,h2,Option.bind_some]
    by_cases e3:o3=0
    ·rw [if_pos e3,if_pos e3,Sum.elim_inl,bh,h3]; rfl
    ·rw [if_neg e3,if_neg e3]; rfl
   ·rw [if_neg e2,if_neg e2]; rfl
  ·rw [if_neg e1,if_neg e1]; rfl
 rw [LX]
 simp only [Zz,beq_self_eq_true,Bool.and_self,cond_true,Option.bind_some,L]
 unfold kL
 by_cases e1:x.2.1 < y.2.1
 ·simp [q8,e1]
 ·by_cases e2:x.2.1 > y.2.1
  ·simp [q8,e1,e2]
  ·have e:x.2.1=y.2.1:=by omega
   have e3:q8 x.2.1 y.2.1=0:=kM.2 e
   rw [if_neg e1,if_neg e2,e3,if_pos rfl]
   by_cases f1:x.1 < y.1
   ·simp [q8,f1]
   ·by_cases f2:x.1 > y.1
    ·simp [q8,f1,f2]
    ·have f:x.1=y.1:=by omega
     have f3:q8 x.1 y.1=0:=kM.2 f
     rw [if_neg f1,if_neg f2,f3,if_pos rfl]
     by_cases e4:q8 x.2.2 y.2.2=0
     ·rw [if_pos e4,e4]; rfl
     ·rw [if_neg e4]; rfl
theorem QT (lo:Nat) (x y:Int × Int × Int):GS lo 5 (x,y)=some (kL x y):=by
 have h0:iH 5 x y 0=some (if q8 x.2.1 y.2.1=0 then .inl 1 else .inr (.inl (q8 x.2.1 y.2.1))):=by
  show (((bif (x.2.1 != x.2.1) then (bif (y.2.1 != y.2.1) then (some 0) else (some (-1))) else (bif (y.2.1 != y.2.1) then (some 1) else (bif (decide (x.2.1 < y.2.1)) then (some (-1)) else (bif (decide (x.2.1 > y.2.1)) then (some 1) else (some 0))))):Option Int).bind fun o=>bif o != 0 then some (Sum.inr (Sum.inl o)) else some (Sum.inl (wrap .i64 (0+1))))=_
  rw [Zz,Option.bind_some,BR]; split <;> rfl
 have h1:iH 5 x y 1=some (if q8 x.1 y.1=0 then .inl 2 else .inr (.inl (q8 x.1 y.1))):=by
  show (((bif (x.1 != x.1) then (bif (y.1 != y.1) then (some 0) else (some (-1))) else (bif (y.1 != y.1) then (some 1) else (bif (decide (x.1 < y.1)) then (some (-1)) else (bif (decide (x.1 > y.1)) then (some 1) else (some 0))))):Option Int).bind fun o=>bif o != 0 then some (Sum.inr (Sum.inl o)) else some (Sum.inl (wrap .i64 (1+1))))=_
  rw [Zz,Option.bind_some,BR]; split <;> rfl
 have h2:iH 5 x y 2=some (if q8 x.2.2 y.2.2=0 then .inl 3 else .inr (.inl (q8 x.2.2 y.2.2))):=by
  show (((bif (x.2.2 != x.2.2) then (bif (y.2.2 != y.2.2) then (some 0) else (some (-1))) else (bif (y.2.2 != y.2.2) then (some 1) else (bif (decide (x.2.2 < y.2.2)) then (some (-1)) else (bif (decide (x.2.2 > y.2.2)) then (some 1) else (some 0))))):Option Int).bind fun o=>bif o != 0 then some (Sum.inr (Sum.inl o)) else some (Sum.inl (wrap .i64 (2+1))))=_
  rw [Zz,Option.bind_some,BR]; split <;> rfl
 have h3:iH 5 x y 3=some (.inr (.inr ())):=rfl
 rw [LZ,bh,h0,Option.bind_some]
 unfold kL
 by_cases e1:x.2.1=y.2.1
 ·rw [if_pos (kM.2 e1),Sum.elim_inl,bh,h1,Option.bind_some,if_neg (show ¬ x.2.1 < y.2.1 by omega),if_neg (show ¬ x.2.1 > y.2.1 by omega)]
  by_cases e2:x.1=y.1
  ·rw [if_pos (kM.2 e2),Sum.elim_inl,bh,h2,Option.bind_some,if_neg (show ¬ x.1 < y.1 by omega),if_neg (show ¬ x.1 > y.1 by omega)]
   by_cases e3:q8 x.2.2 y.2.2=0
   ·rw [if_pos e3,e3,Sum.elim_inl,bh,h3]; rfl
   ·rw [if_neg e3]; rfl
  ·rw [if_neg (fun h=>e2 (kM.1 h))]
   by_cases h:x.1 < y.1
   ·simp [q8,h]
   ·have h':x.1 > y.1:=by omega
    simp [q8,h,h']
 ·rw [if_neg (fun h=>e1 (kM.1 h))]
  by_cases h:x.2.1 < y.2.1
  ·simp [q8,h]
  ·have h':x.2.1 > y.2.1:=by omega
   simp [q8,h,h']
theorem By (lo:Nat):(oZ lo).P=bC.P:=rfl
theorem qU (lo:Nat):(oZ lo).cb=bC.cb:=rfl
theorem xV (lo:Nat):(oZ lo).gx=fun _=>false:=rfl
theorem xW (lo:Nat):(oZ lo).lo=lo:=rfl
theorem Fx {E:Env} {g:FuncId} {F:XA × XA→Option Int} (hF:ap E g ⟨.cons cz (.cons cz .nil),.int .i64,F⟩) (x y:Int × Int) (z:Int) (h:F (x,y)=some z):aY E g [cz.enc x,cz.enc y] (fun r=>r=.int .i64 z):=hF (x,y) z h
theorem xX {E:Env} {g:FuncId} {F:XB × XB→Option Int} (hF:ap E g ⟨.cons aw (.cons aw .nil),.int .i64,F⟩) (x y:Int × Int × Int) (z:Int) (h:F (x,y)=some z):aY E g [aw.enc x,aw.enc y] (fun r=>r=.int .i64 z):=hF (x,y) z h
theorem Fy (E:Env) (hP:E.P=bC.P) (hG:E.cb=bC.cb) (hx:E.gx=fun _=>false) (x y:Int × Int):aY E 177 [cz.enc x,cz.enc y] (fun r=>r=.int .i64 (z7 x y)):=
 aY.env (E:=oZ E.lo) ((By E.lo).trans hP.symm) ((qU E.lo).trans hG.symm) (Fx (F:=GU E.lo 5) (L0 E.lo 5) x y (z7 x y) (QR E.lo x y)) (xW E.lo) ((xV E.lo).trans hx.symm)
theorem Fz (E:Env) (hP:E.P=bC.P) (hG:E.cb=bC.cb) (hx:E.gx=fun _=>false) (x y:Int × Int × Int):aY E 127 [aw.enc x,aw.enc y] (fun r=>r=.int .i64 (kL x y)):=
 aY.env (E:=oZ E.lo) ((By E.lo).trans hP.symm) ((qU E.lo).trans hG.symm) (xX (F:=GR E.lo 5) (LW E.lo 5) x y (kL x y) (QS E.lo x y)) (xW E.lo) ((xV E.lo).trans hx.symm)
theorem FA (E:Env) (hP:E.P=bC.P) (hG:E.cb=bC.cb) (hx:E.gx=fun _=>false) (x y:Int × Int × Int):aY E 136 [aw.enc x,aw.enc y] (fun r=>r=.int .i64 (kL x y)):=
 aY.env (E:=oZ E.lo) ((By E.lo).trans hP.symm) ((qU E.lo).trans hG.symm) (xX (F:=GS E.lo 5) (LY E.lo 5) x y (kL x y) (QT E.lo x y)) (xW E.lo) ((xV E.lo).trans hx.symm)
theorem SS (x:Int × Int × Int):∀ a∈[AV.int .i64 x.1,AV.int .i64 x.2.1,AV.int .i64 x.2.2],fW a=true:=fun a h=>by
 rcases List.mem_cons.1 h with rfl | h
 ·rfl
 ·rcases List.mem_cons.1 h with rfl | h
  ·rfl
  ·rcases List.mem_cons.1 h with rfl | h
   ·rfl
   ·cases h
theorem ZA:pJ bC.P bC.cb 177 cz 2 z7 where
 flat:=rfl
 size:=fun _=>rfl
 Fo:=fun x a h=>by
  have h:a∈[AV.int .i64 x.1,AV.int .i64 x.2]:=h
  rcases List.mem_cons.1 h with rfl | h
  ·rfl
  ·rcases List.mem_cons.1 h with rfl | h
   ·rfl
   ·cases h
 agg:=fun x=>⟨[AV.int .i64 x.1,AV.int .i64 x.2],rfl⟩
 calls:=Fy
 swo:=Ix
 tot:=QQ
theorem ZB:pJ bC.P bC.cb 127 aw 3 kL where
 flat:=rfl
 size:=fun _=>rfl
 Fo:=fun x a h=>SS x a h
 agg:=fun x=>⟨[AV.int .i64 x.1,AV.int .i64 x.2.1,AV.int .i64 x.2.2],rfl⟩
 calls:=Fz
 swo:=Bx
 tot:=L4
theorem ZC:pJ bC.P bC.cb 136 aw 3 kL where
 flat:=rfl
 size:=fun _=>rfl
 Fo:=fun x a h=>SS x a h
 agg:=fun x=>⟨[AV.int .i64 x.1,AV.int .i64 x.2.1,AV.int .i64 x.2.2],rfl⟩
 calls:=FA
 swo:=Bx
 tot:=L4
def L5 (p:aT) (cf:p.T→p.T→Int) (sz:Nat) (el:TypeId) (c c2:FuncId) (args:List AV) (G:List GO):Option (Bool × AV × List GO):=
 match xL p cf sz el c args G with
 | some r=>some r
 | none=>xL p cf sz el c2 args G
noncomputable def L6:lI bC 176:=⟨xL cz z7 2 86 177,xN (ρ:=Tryz.z6) Tryz.Zy (Plain.of Tryz.func176 (by kernel_rfl) (by kernel_rfl)) (Plain.of Tryz.func177 (by kernel_rfl) (by kernel_rfl)) (fun w=>Tryz.isAgg86 w) (fun w=>Tryz.sizeOf86 w) ZA (by kernel_rfl) (Nat.le_succ 1)⟩
theorem L7:∀ (args:List AV) (G:List GO) (r:AV) (G':List GO),xL aw kL 3 106 127 args G=some (true,r,G')→cw bC 135 args G (fun r' zM=>r'=r∧zM=G'):=
 xN (ρ:=Tryz.tx) Tryz.SR (Plain.of Tryz.func135 (by kernel_rfl) (by kernel_rfl)) (Plain.of Tryz.func127 (by kernel_rfl) (by kernel_rfl)) (fun w=>Tryz.isAgg106 w) (fun w=>Tryz.sizeOf106 w) ZB (by kernel_rfl) (by decide)
theorem L8:∀ (args:List AV) (G:List GO) (r:AV) (G':List GO),xL aw kL 3 106 136 args G=some (true,r,G')→cw bC 135 args G (fun r' zM=>r'=r∧zM=G'):=
 xN (ρ:=Tryz.tx) Tryz.SR (Plain.of Tryz.func135 (by kernel_rfl) (by kernel_rfl)) (Plain.of Tryz.func136 (by kernel_rfl) (by kernel_rfl)) (fun w=>Tryz.isAgg106 w) (fun w=>Tryz.sizeOf106 w) ZC (by kernel_rfl) (by decide)
noncomputable def L9:lI bC 135:=⟨L5 aw kL 3 106 127 136,fun args G r G' h=>by
 unfold L5 at h
 split at h
 ·rename_i r0 h0
  injection h with h
  subst h
  exact L7 args G r G' h0
 ·exact L8 args G r G' h⟩
noncomputable def gtS:(g:FuncId)→Option (lI bC g)
 | 176=>some L6
 | 135=>some L9
 | _=>none
noncomputable def GW (N:Nat) (yx:List (Nat × aQ)) (oO:List (Nat × List (Nat × cA))):eE:={ cx N yx oO with gt:=gtS }
end Go.Proofs.YtldcljfjjoidhaaGreatDoor
