/- Plain laws: the parts of a net as the program collects them. -/
import Derived.Test.YtldcljfjjoidhaaGreatDoorSeamKE
import Derived.Test.YtldcljfjjoidhaaGreatDoorSeamKD
set_option linter.all false
open Bool renaming and_true→aau, and_self→aaB, not_false→abu, not_true→abD
open Int renaming toNat_natCast→abv, tdiv→abz
open List renaming length_map→aao, mem_append→aaO, length_append→aaY, foldl_cons→abj, mem_singleton→abn, getElem?_eq_getElem→abp, getElem_mem→abq, mem_cons_of_mem→abr, append_assoc→abt, countP_cons→abw, range→abx, count_cons→abA, countP_eq_length_filter→abB, mem_cons→abE, perm_ext_iff_of_nodup→abF, count_append→abG, getElem?_append_left→abH, length_cons→abI, mem_filter→abJ, length_singleton→abK, count_nil→abM, getElem_of_mem→abN
open Nat renaming beq_refl→abi, le_refl→abC, ble_eq_true_of_le→abL
open Option renaming bind_some→aad
open Option.some renaming inj→abW
open Prod renaming fst→abo
open Sum renaming elim_inl→aby
namespace Go.Proofs.YtldcljfjjoidhaaGreatDoor
open Go Go.Am Go.Sort
open List (map)
open Int (toNat)
open Go.IntKind (wrap)
open Go.Am.aO (fits)
set_option maxRecDepth 100000
abbrev wA:=List (List aF)
def eD (l S:List aF) (P:List aF) (b:aF):List aF:=if b∈S++P then P else if b∈l then P++[b] else P
theorem mL (l S P:List aF) (b:aF):(eD l S P b).length≤P.length+1:=by
 unfold eD;split
 ·omega
 ·split
  ·rw [aaY]; exact abC _
  ·omega
def oN (k:Int × Int):List aF:=[(k.1 - 1,k.2 - 1,1),(k.1+1,k.2 - 1,-1),(k.1,k.2,-1),(k.1,k.2,1)]
section
variable {N:Nat} (hN:fC N)
include hN
theorem Wg (l:List aF) (hs:xx (ltOf gj) l) (hl:l.length≤1000000) (out:wA) (S P:List aF) (hP:P.length≤1000000) (y:Int × Int × Int × Int × Int × Int × Int × Int × Int × Int × Int × Int) :
  aw N l y (out,(),0,bp (S++P),P)=some (.inl (out,(),1,bp (S++eD l S P (y.1,y.2.1,y.2.2.1)),eD l S P (y.1,y.2.1,y.2.2.1))):=by
 have l4:decide ((0:Int) < 4)=true:=rfl;have z0:decide ((0:Int)=0)=true:=rfl;have w1:wrap .i64 ((0:Int)+1)=1:=rfl;have kk:fI EW (.agg [.int .i64 y.1,.int .i64 y.2.1,.int .i64 y.2.2.1]) (ar (map gn (bp (S++P))))=true:=bN.keys (y.1,y.2.1,y.2.2.1) _;have kg:dV EW (.agg [.int .i64 y.1,.int .i64 y.2.1,.int .i64 y.2.2.1]) (AV.bool false) (ar (map gn (bp (S++P))))=AV.bool (decide ((y.1,y.2.1,y.2.2.1)∈S++P)):=by
  have:=bN.getD (y.1,y.2.1,y.2.2.1) false (bp (S++P));rw [oK] at this;exact this
 have hh:GJ N (l,(y.1,y.2.1,y.2.2.1))=some (decide ((y.1,y.2.1,y.2.2.1)∈l)):=vc hN l hs hl _;have cb:decide ((P.length+1) * 24≤140737488355328)=true:=decide_eq_true (by omega);have fb:∀ x:Bool,fits p4 (AV.bool x)=true:=fun _=>rfl
 have db:∀ x:Bool,Xv (AV.bool x)=x:=fun _=>rfl
 have ll:(P++[(y.1,y.2.1,y.2.2.1)]).length=P.length+1:=by rw [aaY]; rfl
 have sn:=uQ P (y.1,y.2.1,y.2.2.1);simp only at sn;unfold eD;by_cases h1:(y.1,y.2.1,y.2.2.1)∈S++P
 ·rw [decide_eq_true h1] at kg;simp only [aw,aH,aL,l4,z0,cond_true,cond_false,mT,mU,cq,b9,cL,cM,bN.cells,bN.dP,aaB,aau,decide_true,aad,kk,kg,fb,db,abD,abi,w1,if_pos h1,aao]
 ·rw [decide_eq_false h1] at kg;by_cases h2:(y.1,y.2.1,y.2.2.1)∈l
  ·rw [decide_eq_true h2] at hh;have kp:fJ EW (.agg [.int .i64 y.1,.int .i64 y.2.1,.int .i64 y.2.2.1]) (AV.bool true) (ar (map gn (bp (S++P))))=ar (map gn (bp (S++(P++[(y.1,y.2.1,y.2.2.1)])))):=by
    have:=bN.put (y.1,y.2.1,y.2.2.1) true (bp (S++P));rw [oL _ _ h1,abt] at this;exact this
   simp only [aw,aH,aL,l4,z0,cond_true,cond_false,mT,mU,cq,b9,cL,cM,bN.cells,bN.dP,aaB,aau,decide_true,aad,kk,kg,kp,hh,cb,sn,ll,fb,db,abu,abi,w1,if_neg h1,if_pos h2,aao]
  ·rw [decide_eq_false h2] at hh;simp only [aw,aH,aL,l4,z0,cond_true,cond_false,mT,mU,cq,b9,cL,cM,bN.cells,bN.dP,aaB,aau,decide_true,aad,kk,kg,hh,fb,db,abu,abi,w1,if_neg h1,if_neg h2,aao]
theorem Wh (l:List aF) (hs:xx (ltOf gj) l) (hl:l.length≤1000000) (out:wA) (S P:List aF) (hP:P.length≤1000000) (y:Int × Int × Int × Int × Int × Int × Int × Int × Int × Int × Int × Int) :
  aw N l y (out,(),1,bp (S++P),P)=some (.inl (out,(),2,bp (S++eD l S P (y.2.2.2.1,y.2.2.2.2.1,y.2.2.2.2.2.1)),eD l S P (y.2.2.2.1,y.2.2.2.2.1,y.2.2.2.2.2.1))):=by
 have l4:decide ((1:Int) < 4)=true:=rfl;have z0:decide ((1:Int)=0)=false:=rfl;have z1:decide ((1:Int)=1)=true:=rfl;have w1:wrap .i64 ((1:Int)+1)=2:=rfl;have kk:fI EW (.agg [.int .i64 y.2.2.2.1,.int .i64 y.2.2.2.2.1,.int .i64 y.2.2.2.2.2.1]) (ar (map gn (bp (S++P))))=true:=bN.keys (y.2.2.2.1,y.2.2.2.2.1,y.2.2.2.2.2.1) _;have kg:dV EW (.agg [.int .i64 y.2.2.2.1,.int .i64 y.2.2.2.2.1,.int .i64 y.2.2.2.2.2.1]) (AV.bool false) (ar (map gn (bp (S++P))))=AV.bool (decide ((y.2.2.2.1,y.2.2.2.2.1,y.2.2.2.2.2.1)∈S++P)):=by
  have:=bN.getD (y.2.2.2.1,y.2.2.2.2.1,y.2.2.2.2.2.1) false (bp (S++P));rw [oK] at this;exact this
 have hh:GJ N (l,(y.2.2.2.1,y.2.2.2.2.1,y.2.2.2.2.2.1))=some (decide ((y.2.2.2.1,y.2.2.2.2.1,y.2.2.2.2.2.1)∈l)):=vc hN l hs hl _;have cb:decide ((P.length+1) * 24≤140737488355328)=true:=decide_eq_true (by omega);have fb:∀ x:Bool,fits p4 (AV.bool x)=true:=fun _=>rfl
 have db:∀ x:Bool,Xv (AV.bool x)=x:=fun _=>rfl
 have ll:(P++[(y.2.2.2.1,y.2.2.2.2.1,y.2.2.2.2.2.1)]).length=P.length+1:=by rw [aaY]; rfl
 have sn:=uQ P (y.2.2.2.1,y.2.2.2.2.1,y.2.2.2.2.2.1);simp only at sn;unfold eD;by_cases h1:(y.2.2.2.1,y.2.2.2.2.1,y.2.2.2.2.2.1)∈S++P
 ·rw [decide_eq_true h1] at kg;simp only [aw,aH,aL,l4,z0,z1,cond_true,cond_false,mT,mU,cq,b9,cL,cM,bN.cells,bN.dP,aaB,aau,decide_true,aad,kk,kg,fb,db,abD,abi,w1,if_pos h1,aao]
 ·rw [decide_eq_false h1] at kg;by_cases h2:(y.2.2.2.1,y.2.2.2.2.1,y.2.2.2.2.2.1)∈l
  ·rw [decide_eq_true h2] at hh;have kp:fJ EW (.agg [.int .i64 y.2.2.2.1,.int .i64 y.2.2.2.2.1,.int .i64 y.2.2.2.2.2.1]) (AV.bool true) (ar (map gn (bp (S++P))))=ar (map gn (bp (S++(P++[(y.2.2.2.1,y.2.2.2.2.1,y.2.2.2.2.2.1)])))):=by
    have:=bN.put (y.2.2.2.1,y.2.2.2.2.1,y.2.2.2.2.2.1) true (bp (S++P));rw [oL _ _ h1,abt] at this;exact this
   simp only [aw,aH,aL,l4,z0,z1,cond_true,cond_false,mT,mU,cq,b9,cL,cM,bN.cells,bN.dP,aaB,aau,decide_true,aad,kk,kg,kp,hh,cb,sn,ll,fb,db,abu,abi,w1,if_neg h1,if_pos h2,aao]
  ·rw [decide_eq_false h2] at hh;simp only [aw,aH,aL,l4,z0,z1,cond_true,cond_false,mT,mU,cq,b9,cL,cM,bN.cells,bN.dP,aaB,aau,decide_true,aad,kk,kg,hh,fb,db,abu,abi,w1,if_neg h1,if_neg h2,aao]
theorem Wi (l:List aF) (hs:xx (ltOf gj) l) (hl:l.length≤1000000) (out:wA) (S P:List aF) (hP:P.length≤1000000) (y:Int × Int × Int × Int × Int × Int × Int × Int × Int × Int × Int × Int) :
  aw N l y (out,(),2,bp (S++P),P)=some (.inl (out,(),3,bp (S++eD l S P (y.2.2.2.2.2.2.1,y.2.2.2.2.2.2.2.1,y.2.2.2.2.2.2.2.2.1)),eD l S P (y.2.2.2.2.2.2.1,y.2.2.2.2.2.2.2.1,y.2.2.2.2.2.2.2.2.1))):=by
 have l4:decide ((2:Int) < 4)=true:=rfl;have z0:decide ((2:Int)=0)=false:=rfl;have z1:decide ((2:Int)=1)=false:=rfl;have z2:decide ((2:Int)=2)=true:=rfl;have w1:wrap .i64 ((2:Int)+1)=3:=rfl;have kk:fI EW (.agg [.int .i64 y.2.2.2.2.2.2.1,.int .i64 y.2.2.2.2.2.2.2.1,.int .i64 y.2.2.2.2.2.2.2.2.1]) (ar (map gn (bp (S++P))))=true:=bN.keys (y.2.2.2.2.2.2.1,y.2.2.2.2.2.2.2.1,y.2.2.2.2.2.2.2.2.1) _;have kg:dV EW (.agg [.int .i64 y.2.2.2.2.2.2.1,.int .i64 y.2.2.2.2.2.2.2.1,.int .i64 y.2.2.2.2.2.2.2.2.1]) (AV.bool false) (ar (map gn (bp (S++P))))=AV.bool (decide ((y.2.2.2.2.2.2.1,y.2.2.2.2.2.2.2.1,y.2.2.2.2.2.2.2.2.1)∈S++P)):=by
  have:=bN.getD (y.2.2.2.2.2.2.1,y.2.2.2.2.2.2.2.1,y.2.2.2.2.2.2.2.2.1) false (bp (S++P));rw [oK] at this;exact this
 have hh:GJ N (l,(y.2.2.2.2.2.2.1,y.2.2.2.2.2.2.2.1,y.2.2.2.2.2.2.2.2.1))=some (decide ((y.2.2.2.2.2.2.1,y.2.2.2.2.2.2.2.1,y.2.2.2.2.2.2.2.2.1)∈l)):=vc hN l hs hl _;have cb:decide ((P.length+1) * 24≤140737488355328)=true:=decide_eq_true (by omega);have fb:∀ x:Bool,fits p4 (AV.bool x)=true:=fun _=>rfl
 have db:∀ x:Bool,Xv (AV.bool x)=x:=fun _=>rfl
 have ll:(P++[(y.2.2.2.2.2.2.1,y.2.2.2.2.2.2.2.1,y.2.2.2.2.2.2.2.2.1)]).length=P.length+1:=by rw [aaY]; rfl
 have sn:=uQ P (y.2.2.2.2.2.2.1,y.2.2.2.2.2.2.2.1,y.2.2.2.2.2.2.2.2.1);simp only at sn;unfold eD;by_cases h1:(y.2.2.2.2.2.2.1,y.2.2.2.2.2.2.2.1,y.2.2.2.2.2.2.2.2.1)∈S++P
 ·rw [decide_eq_true h1] at kg;simp only [aw,aH,aL,l4,z0,z1,z2,cond_true,cond_false,mT,mU,cq,b9,cL,cM,bN.cells,bN.dP,aaB,aau,decide_true,aad,kk,kg,fb,db,abD,abi,w1,if_pos h1,aao]
 ·rw [decide_eq_false h1] at kg;by_cases h2:(y.2.2.2.2.2.2.1,y.2.2.2.2.2.2.2.1,y.2.2.2.2.2.2.2.2.1)∈l
  ·rw [decide_eq_true h2] at hh;have kp:fJ EW (.agg [.int .i64 y.2.2.2.2.2.2.1,.int .i64 y.2.2.2.2.2.2.2.1,.int .i64 y.2.2.2.2.2.2.2.2.1]) (AV.bool true) (ar (map gn (bp (S++P))))=ar (map gn (bp (S++(P++[(y.2.2.2.2.2.2.1,y.2.2.2.2.2.2.2.1,y.2.2.2.2.2.2.2.2.1)])))):=by
    have:=bN.put (y.2.2.2.2.2.2.1,y.2.2.2.2.2.2.2.1,y.2.2.2.2.2.2.2.2.1) true (bp (S++P));rw [oL _ _ h1,abt] at this;exact this
   simp only [aw,aH,aL,l4,z0,z1,z2,cond_true,cond_false,mT,mU,cq,b9,cL,cM,bN.cells,bN.dP,aaB,aau,decide_true,aad,kk,kg,kp,hh,cb,sn,ll,fb,db,abu,abi,w1,if_neg h1,if_pos h2,aao]
  ·rw [decide_eq_false h2] at hh;simp only [aw,aH,aL,l4,z0,z1,z2,cond_true,cond_false,mT,mU,cq,b9,cL,cM,bN.cells,bN.dP,aaB,aau,decide_true,aad,kk,kg,hh,fb,db,abu,abi,w1,if_neg h1,if_neg h2,aao]
theorem Wj (l:List aF) (hs:xx (ltOf gj) l) (hl:l.length≤1000000) (out:wA) (S P:List aF) (hP:P.length≤1000000) (y:Int × Int × Int × Int × Int × Int × Int × Int × Int × Int × Int × Int) :
  aw N l y (out,(),3,bp (S++P),P)=some (.inl (out,(),4,bp (S++eD l S P (y.2.2.2.2.2.2.2.2.2.1,y.2.2.2.2.2.2.2.2.2.2.1,y.2.2.2.2.2.2.2.2.2.2.2)),eD l S P (y.2.2.2.2.2.2.2.2.2.1,y.2.2.2.2.2.2.2.2.2.2.1,y.2.2.2.2.2.2.2.2.2.2.2))):=by
 have l4:decide ((3:Int) < 4)=true:=rfl;have z0:decide ((3:Int)=0)=false:=rfl;have z1:decide ((3:Int)=1)=false:=rfl;have z2:decide ((3:Int)=2)=false:=rfl;have z3:decide ((3:Int)=3)=true:=rfl;have w1:wrap .i64 ((3:Int)+1)=4:=rfl;have kk:fI EW (.agg [.int .i64 y.2.2.2.2.2.2.2.2.2.1,.int .i64 y.2.2.2.2.2.2.2.2.2.2.1,.int .i64 y.2.2.2.2.2.2.2.2.2.2.2]) (ar (map gn (bp (S++P))))=true:=bN.keys (y.2.2.2.2.2.2.2.2.2.1,y.2.2.2.2.2.2.2.2.2.2.1,y.2.2.2.2.2.2.2.2.2.2.2) _;have kg:dV EW (.agg [.int .i64 y.2.2.2.2.2.2.2.2.2.1,.int .i64 y.2.2.2.2.2.2.2.2.2.2.1,.int .i64 y.2.2.2.2.2.2.2.2.2.2.2]) (AV.bool false) (ar (map gn (bp (S++P))))=AV.bool (decide ((y.2.2.2.2.2.2.2.2.2.1,y.2.2.2.2.2.2.2.2.2.2.1,y.2.2.2.2.2.2.2.2.2.2.2)∈S++P)):=by
  have:=bN.getD (y.2.2.2.2.2.2.2.2.2.1,y.2.2.2.2.2.2.2.2.2.2.1,y.2.2.2.2.2.2.2.2.2.2.2) false (bp (S++P));rw [oK] at this;exact this
 have hh:GJ N (l,(y.2.2.2.2.2.2.2.2.2.1,y.2.2.2.2.2.2.2.2.2.2.1,y.2.2.2.2.2.2.2.2.2.2.2))=some (decide ((y.2.2.2.2.2.2.2.2.2.1,y.2.2.2.2.2.2.2.2.2.2.1,y.2.2.2.2.2.2.2.2.2.2.2)∈l)):=vc hN l hs hl _;have cb:decide ((P.length+1) * 24≤140737488355328)=true:=decide_eq_true (by omega);have fb:∀ x:Bool,fits p4 (AV.bool x)=true:=fun _=>rfl
 have db:∀ x:Bool,Xv (AV.bool x)=x:=fun _=>rfl
 have ll:(P++[(y.2.2.2.2.2.2.2.2.2.1,y.2.2.2.2.2.2.2.2.2.2.1,y.2.2.2.2.2.2.2.2.2.2.2)]).length=P.length+1:=by rw [aaY]; rfl
 have sn:=uQ P (y.2.2.2.2.2.2.2.2.2.1,y.2.2.2.2.2.2.2.2.2.2.1,y.2.2.2.2.2.2.2.2.2.2.2);simp only at sn;unfold eD;by_cases h1:(y.2.2.2.2.2.2.2.2.2.1,y.2.2.2.2.2.2.2.2.2.2.1,y.2.2.2.2.2.2.2.2.2.2.2)∈S++P
 ·rw [decide_eq_true h1] at kg;simp only [aw,aH,aL,l4,z0,z1,z2,z3,cond_true,cond_false,mT,mU,cq,b9,cL,cM,bN.cells,bN.dP,aaB,aau,decide_true,aad,kk,kg,fb,db,abD,abi,w1,if_pos h1,aao]
 ·rw [decide_eq_false h1] at kg;by_cases h2:(y.2.2.2.2.2.2.2.2.2.1,y.2.2.2.2.2.2.2.2.2.2.1,y.2.2.2.2.2.2.2.2.2.2.2)∈l
  ·rw [decide_eq_true h2] at hh;have kp:fJ EW (.agg [.int .i64 y.2.2.2.2.2.2.2.2.2.1,.int .i64 y.2.2.2.2.2.2.2.2.2.2.1,.int .i64 y.2.2.2.2.2.2.2.2.2.2.2]) (AV.bool true) (ar (map gn (bp (S++P))))=ar (map gn (bp (S++(P++[(y.2.2.2.2.2.2.2.2.2.1,y.2.2.2.2.2.2.2.2.2.2.1,y.2.2.2.2.2.2.2.2.2.2.2)])))):=by
    have:=bN.put (y.2.2.2.2.2.2.2.2.2.1,y.2.2.2.2.2.2.2.2.2.2.1,y.2.2.2.2.2.2.2.2.2.2.2) true (bp (S++P));rw [oL _ _ h1,abt] at this;exact this
   simp only [aw,aH,aL,l4,z0,z1,z2,z3,cond_true,cond_false,mT,mU,cq,b9,cL,cM,bN.cells,bN.dP,aaB,aau,decide_true,aad,kk,kg,kp,hh,cb,sn,ll,fb,db,abu,abi,w1,if_neg h1,if_pos h2,aao]
  ·rw [decide_eq_false h2] at hh;simp only [aw,aH,aL,l4,z0,z1,z2,z3,cond_true,cond_false,mT,mU,cq,b9,cL,cM,bN.cells,bN.dP,aaB,aau,decide_true,aad,kk,kg,hh,fb,db,abu,abi,w1,if_neg h1,if_neg h2,aao]
theorem Wk (l:List aF) (out:wA) (S P:List aF) (y:Int × Int × Int × Int × Int × Int × Int × Int × Int × Int × Int × Int) :
  aw N l y (out,(),4,bp S,P)=some (.inr (out,(),bp S,P)):=by
 have l4:decide ((4:Int) < 4)=false:=rfl;simp only [aw,aH,aL,l4,cond_false,cond_true,mT,mU,cq,b9,cL,cM,bN.cells,bN.dP,aaB,aau,decide_true,aad,abi,aao]
theorem Dp (k:Int × Int) (hk:-200000≤k.1∧k.1≤200000∧-200000≤k.2∧k.2≤200000):Ma N k=some (k.1 - 1,k.2 - 1,1,k.1+1,k.2 - 1,-1,k.1,k.2,-1,k.1,k.2,1):=by
 rw [VK,fT (show _≤k.1 - 1∧k.1 - 1≤_ by omega),fT (show _≤k.2 - 1∧k.2 - 1≤_ by omega),fT (show _≤k.1+1∧k.1+1≤_ by omega)]
theorem Bp (l:List aF) (hs:xx (ltOf gj) l) (hl:l.length≤1000000) (out:wA) (S P:List aF) (hP:P.length≤100000) (k:Int × Int) :
  az (aw N l (k.1 - 1,k.2 - 1,1,k.1+1,k.2 - 1,-1,k.1,k.2,-1,k.1,k.2,1)) N (out,(),0,bp (S++P),P)=some (out,(),bp (S++(oN k).foldl (eD l S) P),(oN k).foldl (eD l S) P):=by
 have i1:=mL l S P (k.1 - 1,k.2 - 1,1);have i2:=fun Q=>mL l S Q (k.1+1,k.2 - 1,-1)
 have i3:=fun Q=>mL l S Q (k.1,k.2,-1)
 generalize hy:(k.1 - 1,k.2 - 1,(1:Int),k.1+1,k.2 - 1,(-1:Int),k.1,k.2,(-1:Int),k.1,k.2,(1:Int))=y;have e0:=Wg hN l hs hl out S P (by omega) y;have b0:(y.1,y.2.1,y.2.2.1)=(k.1 - 1,k.2 - 1,1):=by subst hy; rfl
 have b1:(y.2.2.2.1,y.2.2.2.2.1,y.2.2.2.2.2.1)=(k.1+1,k.2 - 1,-1):=by subst hy; rfl
 have b2:(y.2.2.2.2.2.2.1,y.2.2.2.2.2.2.2.1,y.2.2.2.2.2.2.2.2.1)=(k.1,k.2,-1):=by subst hy; rfl
 have b3:(y.2.2.2.2.2.2.2.2.2.1,y.2.2.2.2.2.2.2.2.2.2.1,y.2.2.2.2.2.2.2.2.2.2.2)=(k.1,k.2,1):=by subst hy; rfl
 rw [b0] at e0;have ef:(oN k).foldl (eD l S) P=eD l S (eD l S (eD l S (eD l S P (k.1 - 1,k.2 - 1,1)) (k.1+1,k.2 - 1,-1)) (k.1,k.2,-1)) (k.1,k.2,1):=rfl;rw [ef];generalize eD l S P (k.1 - 1,k.2 - 1,1)=P1 at *;have e1:=Wh hN l hs hl out S P1 (by omega) y;rw [b1] at e1;have j2:=i2 P1;generalize eD l S P1 (k.1+1,k.2 - 1,-1)=P2 at *;have e2:=Wi hN l hs hl out S P2 (by omega) y;rw [b2] at e2;have j3:=i3 P2;generalize eD l S P2 (k.1,k.2,-1)=P3 at *;have e3:=Wj hN l hs hl out S P3 (by omega) y;rw [b3] at e3;generalize eD l S P3 (k.1,k.2,1)=P4 at *;have e4:=Wk hN l out (S++P4) P4 y;obtain ⟨n,hn⟩:∃ n,N=n+5:=⟨N - 5,by unfold fC at hN; omega⟩;have key:∀ m,m=n+5→az (aw N l y) m (out,(),0,bp (S++P),P)=some (out,(),bp (S++P4),P4):=by
  rintro m rfl;rw [aX,e0,aad,aby,aX,e1,aad,aby,aX,e2,aad,aby,aX,e3,aad,aby,aX,e4];rfl
 exact key N hn
def RI (k:Int × Int):Prop:=-200000≤k.1∧k.1≤200000∧-200000≤k.2∧k.2≤200000
theorem QU (l:List aF) (hs:xx (ltOf gj) l) (hl:l.length≤1000000) (out:wA) (S P:List aF) (hP:P.length≤100000) (k1 k2:Int × Int) (hk:RI k1) :
  bP N l (k1.1,k1.2,k2.1,k2.2) (out,(),0,bp (S++P),P)=some (.inl (out,(),1,bp (S++(oN k1).foldl (eD l S) P),(oN k1).foldl (eD l S) P)):=by
 have l2:decide ((0:Int) < 2)=true:=rfl;have z0:decide ((0:Int)=0)=true:=rfl;have w1:wrap .i64 ((0:Int)+1)=1:=rfl;have q1:Ma N (k1.1,k1.2)=some (k1.1 - 1,k1.2 - 1,1,k1.1+1,k1.2 - 1,-1,k1.1,k1.2,-1,k1.1,k1.2,1):=Dp hN k1 hk;have q2:=Bp hN l hs hl out S P hP k1;generalize (oN k1).foldl (eD l S) P=P1 at *;simp only [bP,l2,z0,cond_true,cond_false,mT,mU,cq,b9,cL,cM,bN.cells,bN.dP,aaB,aau,decide_true,aad,q1,q2,abi,w1,aao]
theorem QV (l:List aF) (hs:xx (ltOf gj) l) (hl:l.length≤1000000) (out:wA) (S P:List aF) (hP:P.length≤100000) (k1 k2:Int × Int) (hk:RI k2) :
  bP N l (k1.1,k1.2,k2.1,k2.2) (out,(),1,bp (S++P),P)=some (.inl (out,(),2,bp (S++(oN k2).foldl (eD l S) P),(oN k2).foldl (eD l S) P)):=by
 have l2:decide ((1:Int) < 2)=true:=rfl;have z0:decide ((1:Int)=0)=false:=rfl;have z1:decide ((1:Int)=1)=true:=rfl;have w1:wrap .i64 ((1:Int)+1)=2:=rfl;have q1:Ma N (k2.1,k2.2)=some (k2.1 - 1,k2.2 - 1,1,k2.1+1,k2.2 - 1,-1,k2.1,k2.2,-1,k2.1,k2.2,1):=Dp hN k2 hk;have q2:=Bp hN l hs hl out S P hP k2;generalize (oN k2).foldl (eD l S) P=P1 at *;simp only [bP,l2,z0,z1,cond_true,cond_false,mT,mU,cq,b9,cL,cM,bN.cells,bN.dP,aaB,aau,decide_true,aad,q1,q2,abi,w1,aao]
theorem QW (l:List aF) (out:wA) (S P:List aF) (y:Int × Int × Int × Int) :
  bP N l y (out,(),2,bp S,P)=some (.inr (out,(),bp S,P)):=by
 have l2:decide ((2:Int) < 2)=false:=rfl;simp only [bP,l2,cond_false,cond_true,mT,mU,cq,b9,cL,cM,bN.cells,bN.dP,aaB,aau,decide_true,aad,abi,aao]
def sw (l S P:List aF) (b:aF):List aF:=(oN (gK b)).foldl (eD l S) ((oN (fO b)).foldl (eD l S) P)
omit hN in
theorem QX (l S P:List aF) (k:Int × Int):((oN k).foldl (eD l S) P).length≤P.length+4:=by
 show (eD l S (eD l S (eD l S (eD l S P (k.1 - 1,k.2 - 1,1)) (k.1+1,k.2 - 1,-1)) (k.1,k.2,-1)) (k.1,k.2,1)).length≤_;have i1:=mL l S P (k.1 - 1,k.2 - 1,1);generalize eD l S P (k.1 - 1,k.2 - 1,1)=P1 at *;have i2:=mL l S P1 (k.1+1,k.2 - 1,-1);generalize eD l S P1 (k.1+1,k.2 - 1,-1)=P2 at *;have i3:=mL l S P2 (k.1,k.2,-1);generalize eD l S P2 (k.1,k.2,-1)=P3 at *;have i4:=mL l S P3 (k.1,k.2,1);omega
theorem QY (l:List aF) (hs:xx (ltOf gj) l) (hl:l.length≤1000000) (out:wA) (S P:List aF) (hP:P.length≤50000) (b:aF) (h1:RI (fO b)) (h2:RI (gK b)) :
  az (bP N l (b.1,b.2.1,gK b)) N (out,(),0,bp (S++P),P)=some (out,(),bp (S++sw l S P b),sw l S P b):=by
 unfold sw;have i1:=QX l S P (fO b);have e0:bP N l (b.1,b.2.1,gK b) (out,(),0,bp (S++P),P)=_:=QU hN l hs hl out S P (by omega) (fO b) (gK b) h1;generalize (oN (fO b)).foldl (eD l S) P=P1 at *;have e1:bP N l (b.1,b.2.1,gK b) (out,(),1,bp (S++P1),P1)=_:=QV hN l hs hl out S P1 (by omega) (fO b) (gK b) h2;generalize (oN (gK b)).foldl (eD l S) P1=P2 at *;have e2:=QW hN l out (S++P2) P2 (b.1,b.2.1,gK b);obtain ⟨n,hn⟩:∃ n,N=n+3:=⟨N - 3,by unfold fC at hN; omega⟩;have key:∀ m,m=n+3→az (bP N l (b.1,b.2.1,gK b)) m (out,(),0,bp (S++P),P)=some (out,(),bp (S++P2),P2):=by
  rintro m rfl;rw [aX,e0,aad,aby,aX,e1,aad,aby,aX,e2];rfl
 exact key N hn
theorem Mj (l:List aF) (hs:xx (ltOf gj) l) (hl:l.length≤1000000) (out:wA) (S P:List aF) (hP:P.length≤50000) (i:Nat) (hi:i < P.length) (h1:RI (fO P[i])) (h2:RI (gK P[i])) :
  eQ N l (out,(),(i:Int),bp (S++P),P)=some (.inl (out,(),((i+1:Nat):Int),bp (S++sw l S P P[i]),sw l S P P[i])):=by
 have ne:((i:Int) == (P.length:Int))=false:=beq_false_of_ne (by omega);obtain ⟨a1,a2⟩:=gl P hi;have i1:decide ((0:Int)≤(i:Int)∧(i:Int) < (P.length:Int))=true:=decide_eq_true (by omega);have i2:decide (i < P.length)=true:=decide_eq_true hi;have q1:Gl N (P[i].1,P[i].2.1,P[i].2.2)=some (P[i].1,P[i].2.1,gK P[i]):=C7 N P[i];have q2:=QY hN l hs hl out S P hP P[i] h1 h2;generalize sw l S P P[i]=P2 at *;simp only [eQ,iG,aao,ne,cond_false,cond_true,i1,i2,Nat.zero_add,abv,a1,a2,q1,mT,mU,cq,b9,cL,cM,bN.cells,bN.dP,aaB,aau,decide_true,aad,abi,q2,bw (show i < 9223372036854775807 by omega)]
theorem QZ (l:List aF) (out:wA) (S P:List aF) :
  eQ N l (out,(),(P.length:Int),bp S,P)=some (.inr (out,(),bp S,P)):=by
 have e:((P.length:Int) == (P.length:Int))=true:=beq_self_eq_true _;simp only [eQ,iG,aao,e,cond_true,mT,mU,cq,b9,cL,cM,bN.cells,bN.dP,aaB,aau,decide_true,aad,abi]
end
end Go.Proofs.YtldcljfjjoidhaaGreatDoor
namespace Go.Proofs.YtldcljfjjoidhaaGreatDoor
open Go Go.Am Go.Sort
open List (map)
open Int (toNat)
open Go.IntKind (wrap)
open Go.Am.aO (fits)
set_option maxRecDepth 100000
theorem Q0 (l S P:List aF) (b x:aF):x∈eD l S P b↔x∈P∨(x=b∧b∈l∧b∉S):=by
 unfold eD;by_cases h1:b∈S++P
 ·rw [if_pos h1];constructor
  ·exact .inl
  ·rintro (h|⟨rfl,h2,h3⟩)
   ·exact h
   ·exact (aaO.1 h1).resolve_left h3
 ·rw [if_neg h1];have xJ:b∉S:=fun h=>h1 (aaO.2 (.inl h))
  by_cases h2:b∈l
  ·rw [if_pos h2,aaO,abn];constructor
   ·rintro (h|rfl)
    ·exact .inl h
    ·exact .inr ⟨rfl,h2,xJ⟩
   ·rintro (h|⟨rfl,-,-⟩)
    ·exact .inl h
    ·exact .inr rfl
  ·rw [if_neg h2];constructor
   ·exact .inl
   ·rintro (h|⟨rfl,h3,-⟩)
    ·exact h
    ·exact absurd h3 h2
theorem Q1 (l S P:List aF) (b:aF):∃ t,eD l S P b=P++t∧(P.Nodup→(eD l S P b).Nodup):=by
 unfold eD;by_cases h1:b∈S++P
 ·rw [if_pos h1]; exact ⟨[],by simp,id⟩
 ·rw [if_neg h1];by_cases h2:b∈l
  ·rw [if_pos h2];refine ⟨[b],rfl,fun h=>?_⟩;rw [List.nodup_append];refine ⟨h,by simp,fun x hx y hy=>?_⟩;rw [abn] at hy;subst hy;rintro rfl;exact h1 (aaO.2 (.inr hx))
  ·rw [if_neg h2]; exact ⟨[],by simp,id⟩
theorem Bq (l S:List aF) (x:aF):∀ (ks P:List aF),x∈ks.foldl (eD l S) P↔x∈P∨(x∈ks∧x∈l∧x∉S)
 |[],P=>by simp
 |b :: ks,P=>by
  rw [abj,Bq l S x ks,Q0,abE];constructor
  ·rintro ((h|⟨rfl,h2,h3⟩)|⟨h1,h2,h3⟩)
   ·exact .inl h
   ·exact .inr ⟨.inl rfl,h2,h3⟩
   ·exact .inr ⟨.inr h1,h2,h3⟩
  ·rintro (h|⟨rfl|h1,h2,h3⟩)
   ·exact .inl (.inl h)
   ·exact .inl (.inr ⟨rfl,h2,h3⟩)
   ·exact .inr ⟨h1,h2,h3⟩
theorem Br (l S:List aF):∀ (ks P:List aF),∃ t,ks.foldl (eD l S) P=P++t∧(P.Nodup→(ks.foldl (eD l S) P).Nodup)
 |[],P=>⟨[],by simp,id⟩
 |b :: ks,P=>by
  obtain ⟨t1,e1,n1⟩:=Q1 l S P b;obtain ⟨t2,e2,IQ⟩:=Br l S ks (eD l S P b);rw [abj];exact ⟨t1++t2,by rw [e2,e1,abt],fun h=>IQ (n1 h)⟩
theorem EL {b:aF} (h:gL b=0):gK b=(b.1+b.2.2,b.2.1+1)∧RI (fO b)∧RI (gK b):=by
 obtain ⟨c1,c2,c3⟩:=lJ h;have k1:=eO c1;have k2:=eO c3;unfold fO at k1;simp only at k1;refine ⟨?_,?_,?_⟩
 ·unfold gK;rw [fT (by omega),fT (by omega)]
 ·unfold RI fO;simp only;omega
 ·unfold RI;omega
theorem mM {y:aF} (h:gL y=0) (k:Int × Int):y∈oN k↔fO y=k∨gK y=k:=by
 obtain ⟨c1,c2,c3⟩:=lJ h;obtain ⟨u1,-,-⟩:=EL h;rw [u1];obtain ⟨a,b,s⟩:=y;obtain ⟨k1,k2⟩:=k;unfold oN fO;simp only [abE,List.not_mem_nil,or_false,Prod.mk.injEq] at c2 ⊢;constructor
 ·rintro (⟨rfl,rfl,rfl⟩|⟨rfl,rfl,rfl⟩|⟨rfl,rfl,rfl⟩|⟨rfl,rfl,rfl⟩)
  ·exact .inr ⟨by omega,by omega⟩
  ·exact .inr ⟨by omega,by omega⟩
  ·exact .inl ⟨rfl,rfl⟩
  ·exact .inl ⟨rfl,rfl⟩
 ·rintro (⟨rfl,rfl⟩|⟨rfl,rfl⟩)
  ·rcases c2 with rfl|rfl
   ·exact .inr (.inr (.inl ⟨rfl,rfl,rfl⟩))
   ·exact .inr (.inr (.inr ⟨rfl,rfl,rfl⟩))
  ·rcases c2 with rfl|rfl
   ·exact .inr (.inl ⟨by omega,by omega,rfl⟩)
   ·exact .inl ⟨by omega,by omega,rfl⟩
theorem GZ {l:List aF} (hv:∀ b∈l,gL b=0) (S P:List aF) (b x:aF):x∈sw l S P b↔x∈P∨(x∈l∧x∉S∧nV b x=true):=by
 unfold sw;rw [Bq,Bq];unfold nV;simp only [Bool.or_eq_true,decide_eq_true_eq];constructor
 ·rintro ((h|⟨h1,h2,h3⟩)|⟨h1,h2,h3⟩)
  ·exact .inl h
  ·refine .inr ⟨h2,h3,?_⟩;rcases (mM (hv x h2) _).1 h1 with h|h
   ·exact .inl (.inl (.inl h.symm))
   ·exact .inl (.inl (.inr h.symm))
  ·refine .inr ⟨h2,h3,?_⟩;rcases (mM (hv x h2) _).1 h1 with h|h
   ·exact .inl (.inr h.symm)
   ·exact .inr h.symm
 ·rintro (h|⟨h2,h3,((h|h)|h)|h⟩)
  ·exact .inl (.inl h)
  ·exact .inl (.inr ⟨(mM (hv x h2) _).2 (.inl h.symm),h2,h3⟩)
  ·exact .inl (.inr ⟨(mM (hv x h2) _).2 (.inr h.symm),h2,h3⟩)
  ·exact .inr ⟨(mM (hv x h2) _).2 (.inl h.symm),h2,h3⟩
  ·exact .inr ⟨(mM (hv x h2) _).2 (.inr h.symm),h2,h3⟩
theorem Q2 (l S P:List aF) (b:aF):∃ t,sw l S P b=P++t∧(P.Nodup→(sw l S P b).Nodup):=by
 obtain ⟨t1,e1,n1⟩:=Br l S (oN (fO b)) P;obtain ⟨t2,e2,IQ⟩:=Br l S (oN (gK b)) ((oN (fO b)).foldl (eD l S) P);unfold sw;exact ⟨t1++t2,by rw [e2,e1,abt],fun h=>IQ (n1 h)⟩
def Grw (l S:List aF) (c:aF) (Q:List aF):Prop:=Q.Nodup∧c∈Q∧∀ x∈Q,x∈l∧x∉S∧BD l c x
section
variable {N:Nat} (hN:fC N)
include hN
theorem Q3 (l:List aF) (h:dC l=0) (out:wA) (S:List aF) (c:aF) (hc:c∈l) (hS:c∉S) :
  ∃ F,az (eQ N l) N (out,(),0,bp (S++[c]),[c])=some (out,(),bp (S++F),F)∧Grw l S c F∧∀ x∈F,∀ y∈l,nV x y=true→y∈S++F:=by
 obtain ⟨g1,g2,g3⟩:=dp h;obtain ⟨x,h1,F,rfl,h2,h3⟩:=sa (rd:=eQ N l) (fun v=>∃ (Q:List aF) (i:Nat),v=(out,(),(i:Int),bp (S++Q),Q)∧i≤Q.length∧Grw l S c Q∧∀ j (hj:j < Q.length),j < i→∀ y∈l,nV Q[j] y=true→y∈S++Q)
  (fun v=>l.length - v.2.2.1.toNat) (fun x=>∃ F,x=(out,(),bp (S++F),F)∧Grw l S c F∧∀ x∈F,∀ y∈l,nV x y=true→y∈S++F) (by
  rintro v ⟨Q,i,rfl,hi,⟨q1,q2,q3⟩,hq⟩;have ql:=fN Q l q1 fun x hx=>(q3 x hx).1
  by_cases bY:i < Q.length
  ·have hb:=g2 _ (q3 _ (abq bY)).1;obtain ⟨-,u2,u3⟩:=EL hb;have st:=Mj hN l g3 (by omega) out S Q (by omega) i bY u2 u3;obtain ⟨t,et,en⟩:=Q2 l S Q Q[i];refine .inl ⟨_,st,⟨sw l S Q Q[i],i+1,rfl,?_,⟨en q1,?_,fun x hx=>?_⟩,fun j hj VU y hy CA=>?_⟩,?_⟩
   ·rw [et,aaY]; omega
   ·rw [et]; exact aaO.2 (.inl q2)
   ·rcases (GZ g2 S Q Q[i] x).1 hx with hx|⟨x1,x2,x3⟩
    ·exact q3 x hx
    ·exact ⟨x1,x2,.step (q3 _ (abq bY)).2.2 x1 x3⟩
   ·by_cases hyS:y∈S
    ·exact aaO.2 (.inl hyS)
    ·refine aaO.2 (.inr ((GZ g2 S Q Q[i] y).2 ?_));by_cases hje:j=i
     ·subst hje;have e:(sw l S Q Q[j])[j]=Q[j]:=by
       have:(sw l S Q Q[j])[j]?=Q[j]?:=by rw [et,abH bY]
       rw [abp hj,abp bY] at this;exact abW this
      rw [e] at CA;exact .inr ⟨hy,hyS,CA⟩
     ·have hjQ:j < Q.length:=by omega
      have e:(sw l S Q Q[i])[j]=Q[j]:=by
       have:(sw l S Q Q[i])[j]?=Q[j]?:=by rw [et,abH hjQ]
       rw [abp hj,abp hjQ] at this;exact abW this
      rw [e] at CA;rcases aaO.1 (hq j hjQ (by omega) y hy CA) with h5|h5
      ·exact absurd h5 hyS
      ·exact .inl h5
   ·show l.length - toNat ((i+1:Nat):Int) < l.length - toNat (i:Int);rw [abv,abv];omega
  ·have hiq:i=Q.length:=by omega
   subst hiq;refine .inr ⟨_,QZ hN l out (S++Q) Q,Q,rfl,⟨q1,q2,q3⟩,fun x hx y hy CA=>?_⟩;obtain ⟨j,hj,rfl⟩:=abN hx;exact hq j hj hj y hy CA) N (out,(),0,bp (S++[c]),[c]) ⟨[c],0,rfl,by simp,⟨by simp,by simp,fun x hx=>by rw [abn] at hx; subst hx; exact ⟨hc,hS,.base⟩⟩,fun j _ hj=>by omega⟩ (by
   show l.length - toNat 0 < N;unfold fC at hN;omega)
 exact ⟨F,h1,h2,h3⟩
end
theorem EM {l S:List aF} {c:aF} {F:List aF} (hg:Grw l S c F) (hS:∀ x∈S,x∈l∧∀ y∈l,nV x y=true→y∈S) (hF:∀ x∈F,∀ y∈l,nV x y=true→y∈S++F) (x:aF):x∈F↔BD l c x:=by
 obtain ⟨q1,q2,q3⟩:=hg;constructor
 ·exact fun hx=>(q3 x hx).2.2
 ·intro hx
  induction hx with
  |base=>exact q2
  |step ha hy ht ih=>
   rename_i a y;rcases aaO.1 (hF a ih y hy ht) with h|h
   ·exact absurd ((hS y h).2 a (q3 a ih).1 (by rw [Dl]; exact ht)) (q3 a ih).2.1
   ·exact h
theorem Wl {l S:List aF} {c:aF} {F:List aF} (hc:c∈l) (hg:Grw l S c F) (hS:∀ x∈S,x∈l∧∀ y∈l,nV x y=true→y∈S) (hF:∀ x∈F,∀ y∈l,nV x y=true→y∈S++F):F.mergeSort (fun x y=>!(ltOf gj) y x)=cr l c:=by
 obtain ⟨s1,s2⟩:=Gx oH F;have n1:xx (ltOf gj) (cr l c):=(jB oH Ey (0,0,0) (Mf l l.length [c] 0)).1;refine yL oH ?_ n1 (fun x=>by rw [s2,fq l c hc,EM hg hS hF]);have hn:(F.mergeSort (fun x y=>!(ltOf gj) y x)).Nodup:=(List.mergeSort_perm F _).nodup_iff.2 hg.1;refine List.Pairwise.imp₂ ?_ s1 hn;intro a b Mz cK;cases hc:ltOf gj a b with
 |true=>rfl
 |false=>exact absurd (Ey a b hc Mz) cK
end Go.Proofs.YtldcljfjjoidhaaGreatDoor
namespace Go.Proofs.YtldcljfjjoidhaaGreatDoor
open Go Go.Am Go.Sort
open List (map)
open Int (toNat)
open Go.IntKind (wrap)
open Go.Am.aO (fits)
set_option maxRecDepth 100000
def Q4 (l:List aF) (s:wA × List aF) (k:Nat):Prop:=s.1=(l.take k).foldl (rB l) []∧(∀ x,x∈s.2↔∃ p∈s.1,x∈p)∧s.1.length≤k∧∀ p∈s.1,∃ c∈l,p=cr l c
theorem G3 {l:List aF} {s:wA × List aF} {k:Nat} (h:Q4 l s k):∀ x∈s.2,x∈l∧∀ y∈l,nV x y=true→y∈s.2:=by
 intro x hx;obtain ⟨h1,h2,h3,h4⟩:=h;obtain ⟨p,hp,hxp⟩:=(h2 x).1 hx;obtain ⟨c,hc,rfl⟩:=h4 p hp;have hr:=(fq l c hc x).1 hxp;exact ⟨hr.We hc,fun y hy ht=>(h2 y).2 ⟨_,hp,(fq l c hc y).2 (.step hr hy ht)⟩⟩
theorem Bs {α β:Type} (f:β→α→β) (b:β) (l:List α) {k:Nat} (hk:k < l.length):(l.take (k+1)).foldl f b=f ((l.take k).foldl f b) l[k]:=by
 rw [List.take_add_one,abp hk,List.foldl_append];rfl
section
variable {N:Nat} (hN:fC N)
include hN
theorem Q5 (l:List aF) (h:dC l=0) (s:wA × List aF) (k:Nat) (hk:k < l.length) (hP:Q4 l s k):∃ s':wA × List aF,ig N l (s.1,(k:Int),bp s.2)=some (.inl (s'.1,((k+1:Nat):Int),bp s'.2))∧Q4 l s' (k+1):=by
 obtain ⟨g1,g2,g3⟩:=dp h;have jN:=G3 hP;obtain ⟨out,S⟩:=s;obtain ⟨h1,h2,h3,h4⟩:=hP;simp only at h1 h2 h3 h4 jN;obtain ⟨a1,a2⟩:=gl l hk;have hb:l[k]∈l:=abq hk;generalize hbe:l[k]=b at *;have kk:fI EW (.agg [.int .i64 b.1,.int .i64 b.2.1,.int .i64 b.2.2]) (ar (map gn (bp S)))=true:=bN.keys b _;have kg:dV EW (.agg [.int .i64 b.1,.int .i64 b.2.1,.int .i64 b.2.2]) (AV.bool false) (ar (map gn (bp S)))=AV.bool (decide (b∈S)):=by
  have:=bN.getD b false (bp S);rw [oK] at this;exact this
 have fb:∀ x:Bool,fits p4 (AV.bool x)=true:=fun _=>rfl
 have db:∀ x:Bool,Xv (AV.bool x)=x:=fun _=>rfl
 have DU:(out.any fun p=>decide (b∈p))=decide (b∈S):=by
  rw [Bool.eq_iff_iff,decide_eq_true_eq,h2 b,List.any_eq_true];constructor
  ·rintro ⟨p,hp,e⟩; exact ⟨p,hp,of_decide_eq_true e⟩
  ·rintro ⟨p,hp,e⟩; exact ⟨p,hp,decide_eq_true e⟩
 have Cm:(l.take (k+1)).foldl (rB l) []=if b∈S then out else out++[cr l b]:=by
  rw [Bs (rB l) [] l hk,← h1,hbe];unfold rB;rw [DU];by_cases hS:b∈S
  ·rw [if_pos hS,if_pos (decide_eq_true hS)]
  ·rw [if_neg hS,if_neg (by simpa using hS)]
 by_cases hS:b∈S
 ·rw [decide_eq_true hS] at kg;rw [if_pos hS] at Cm;refine ⟨(out,S),?_,Cm.symm,h2,by simp only; omega,h4⟩;simp only [ig,cE,jV,aao,a7 hk,ay hk,abv,a1,a2,kk,kg,fb,db,mT,mU,cL,cM,bN.cells,bN.dP,aaB,aau,cond_true,decide_true,aad,bw (show k < 9223372036854775807 by omega)]
 ·rw [decide_eq_false hS] at kg;rw [if_neg hS] at Cm;obtain ⟨F,f1,f2,f3⟩:=Q3 hN l h out S b hb hS;have srt:=Wl hb f2 jN f3;have fl:=fN F l f2.1 fun x hx=>(f2.2.2 x hx).1
  have kp:fJ EW (.agg [.int .i64 b.1,.int .i64 b.2.1,.int .i64 b.2.2]) (AV.bool true) (ar (map gn (bp S)))=ar (map gn (bp (S++[b]))):=by
   have:=bN.put b true (bp S);rw [oL _ _ hS] at this;exact this
  have es:jA aA gj (map cC F)=map cC (cr l b):=by
   unfold jA;rw [show map aA.bC (map cC F)=F from b9 _,← srt];rfl
  have sl:(cr l b).length=F.length:=by rw [← srt,List.length_mergeSort]
  have z1:allFit (fits aA) [AV.agg [AV.int .i64 b.1,AV.int .i64 b.2.1,AV.int .i64 b.2.2]]=true:=rfl;have z2:map aB [AV.agg [AV.int .i64 b.1,AV.int .i64 b.2.1,AV.int .i64 b.2.2]]=[b]:=rfl;have z3:Nat.beq 1 1=true:=rfl;have M4:decide (F.length≤140737488355328)=true:=decide_eq_true (by omega);have s7:decide ((out.length+1) * 24≤140737488355328)=true:=decide_eq_true (by omega);refine ⟨(out++[cr l b],S++F),?_,Cm.symm,fun x=>?_,by simp only [aaY,abK]; omega,fun p hp=>?_⟩
  ·simp only [ig,cE,jV,aao,a7 hk,ay hk,abv,a1,a2,kk,kg,kp,fb,db,mT,mU,cq,b9,cL,cM,bN.cells,bN.dP,aaB,aau,cond_true,cond_false,decide_true,aad,z1,z2,z3,Bool.true_and,f1,es,sl,M4,s7,C4 hN,abh,aaY,abK,bw (show k < 9223372036854775807 by omega)]
  ·rw [aaO,h2 x];constructor
   ·rintro (⟨p,hp,e⟩|hx)
    ·exact ⟨p,aaO.2 (.inl hp),e⟩
    ·exact ⟨cr l b,aaO.2 (.inr (by simp)),(fq l b hb x).2 ((EM f2 jN f3 x).1 hx)⟩
   ·rintro ⟨p,hp,e⟩;rcases aaO.1 hp with hp|hp
    ·exact .inl ⟨p,hp,e⟩
    ·rw [abn] at hp;subst hp;exact .inr ((EM f2 jN f3 x).2 ((fq l b hb x).1 e))
  ·rcases aaO.1 hp with hp|hp
   ·exact h4 p hp
   ·rw [abn] at hp;exact ⟨b,hb,hp⟩
def gV (l:List aF):wA:=l.foldl (rB l) []
theorem Mk (l:List aF):T83 N l=some (if dC l=0 then (gV l,0) else ([],dC l)):=by
 rw [aaS];simp only [cq,b9,aau,cond_true,aad,yQ hN,Hj];by_cases h:dC l=0
 ·rw [if_pos h,if_pos h];obtain ⟨g1,g2,g3⟩:=dp h;obtain ⟨x,e1,s,rfl,e2⟩:=CY (rd:=ig N l) l.length (fun (s:wA × List aF) k=>(s.1,(k:Int),bp s.2)) (Q4 l) (fun x=>∃ s:wA × List aF,x=(s.1,bp s.2)∧Q4 l s l.length) (fun s k hk hP=>Q5 hN l h s k hk hP) (fun s hP=>⟨(s.1,bp s.2),by
   simp only [ig,cE,jV,aao,bO,cond_false,cond_true,mT,mU,cL,cM,bN.cells,bN.dP,aaB,aau,decide_true,aad],s,rfl,hP⟩) N ([],[]) 0 (Nat.zero_le _) (by unfold fC at hN; omega) ⟨rfl,fun x=>by simp,by simp,fun p hp=>by cases hp⟩
  have e1:az (ig N l) N ([],0,[])=some (s.1,bp s.2):=e1;have z:((bif (allFit (fits iF) ([]:List AV)&&allFit (fits bi) (ah ([]:List (AV × AV)))) then some ((map EE ([]:List AV)),0,(map cD (ah ([]:List (AV × AV))))) else none:Option (wA × Int × List (aF × Bool))).bind fun w53=>bif dP ([]:List (AV × AV))&&decide (0=w53.1.length) then some w53 else none)=some ([],0,[]):=rfl;simp only [aao,z,aad,e1,mT,mU,cond_true];have:=e2.1;rw [List.take_length] at this;rw [this];rfl
 ·rw [if_neg h,if_neg h];rfl
end
end Go.Proofs.YtldcljfjjoidhaaGreatDoor
namespace Go.Proofs.YtldcljfjjoidhaaGreatDoor
open Go Go.Am Go.Sort
open List (map)
open Int (toNat)
open Go.IntKind (wrap)
open Go.Am.aO (fits)
set_option maxRecDepth 100000
theorem G4 {κ ν:Type} [DecidableEq κ]:∀ {m:List (κ × ν)} {x:κ × ν},(m.map abo).Nodup→x∈m→getM x.1 m=some x.2
 |[],x,_,h=>by cases h
 |(k',v') :: m,x,hn,h=>by
  rw [List.map_cons,List.nodup_cons] at hn;unfold getM;rcases abE.1 h with rfl|h
  ·rw [if_pos rfl]
  ·rw [if_neg,G4 hn.2 h];intro e;exact hn.1 (List.mem_map.2 ⟨x,h,e⟩)
def tD (m:List (XA × Int)) (k:Int × Int):Int:=(getM k m).getD 0
theorem G5 (m:List (XA × Int)) (a b:Int) (h:0≤tD m (a,b)∧tD m (a,b)≤1000000) (k:Int × Int):tD (tq m a b) k=tD m k+if k=(a,b) then 1 else 0:=by
 unfold tD at *;unfold tq;rw [AK];by_cases e:k=(a,b)
 ·subst e;rw [if_pos rfl,if_pos rfl];show wrap .i64 _=_;rw [fT (by omega)]
 ·rw [if_neg e,if_neg e];omega
theorem Ml (m:List (XA × Int)) (a b:Int):(tq m a b).map abo=if (a,b)∈m.map abo then m.map abo else m.map abo++[(a,b)]:=by
 unfold tq;refine (CU (κ:=Int × Int) (ν:=Int)).trans ?_;by_cases h:(a,b)∈m.map abo
 ·rw [if_pos h,if_pos h]
 ·rw [if_neg h,if_neg h]
theorem Dq (b:aF) (l:List aF) (k:Int × Int):jW (b :: l) k=jW l k+if fO b=k∨gK b=k then 1 else 0:=by
 unfold jW;rw [List.filter_cons];by_cases h:fO b=k∨gK b=k
 ·rw [if_pos h,if_pos (by simpa using h),abI]
 ·rw [if_neg h,if_neg (by simpa using h)];rfl
theorem Q6 {b:aF} (h:gL b=0):fO b≠gK b:=by
 obtain ⟨u1,-,-⟩:=EL h;rw [u1];intro e;have:=congrArg Prod.snd e;simp only [fO] at this;omega
theorem Q7 {b:aF} (h:gL b=0) (m:List (XA × Int)) (n:Int) (hm:∀ k,0≤tD m k∧tD m k≤n) (hn:n≤900000) (k:Int × Int):tD (AN m b) k=tD m k+if fO b=k∨gK b=k then 1 else 0:=by
 have cK:=Q6 h;unfold AN;have e1:=G5 m (tu b).1 (tu b).2 (by have:=hm ((tu b).1,(tu b).2); omega);have e2:=G5 (tq m (tu b).1 (tu b).2) (J9 b).1 (J9 b).2 (by
  rw [e1];have:=hm ((J9 b).1,(J9 b).2);split <;> omega) k
 rw [e2,e1];have l1:((tu b).1,(tu b).2)=fO b:=rfl;have l2:((J9 b).1,(J9 b).2)=gK b:=rfl;rw [l1,l2];by_cases h1:k=fO b
 ·subst h1;rw [if_pos rfl,if_neg cK,if_pos (.inl rfl)];omega
 ·by_cases h2:k=gK b
  ·subst h2;rw [if_neg h1,if_pos rfl,if_pos (.inr rfl)];omega
  ·rw [if_neg h1,if_neg h2,if_neg (by rintro (h | h); exact h1 h.symm; exact h2 h.symm)];omega
theorem G6:∀ (l:List aF) (m:List (XA × Int)) (n:Int),(∀ b∈l,gL b=0)→(∀ k,0≤tD m k∧tD m k≤n)→n+l.length≤900000→∀ k,tD (l.foldl AN m) k=tD m k+jW l k
 |[],m,n,_,_,_,k=>by simp [jW]
 |b :: l,m,n,hv,hm,hn,k=>by
  rw [abI] at hn;have e:=Q7 (hv b (by simp)) m n hm (by omega);rw [abj,G6 l (AN m b) (n+1) (fun x hx=>hv x (abr _ hx)) (fun k=>by
   rw [e];have:=hm k;split <;> omega) (by omega) k,e,Dq]
  split <;> omega
theorem wB:∀ (l:List aF) (m:List (XA × Int)),(m.map abo).Nodup→((l.foldl AN m).map abo).Nodup∧∀ k,k∈(l.foldl AN m).map abo↔k∈m.map abo∨∃ b∈l,k=fO b∨k=gK b
 |[],m,h=>⟨h,fun k=>by simp⟩
 |b :: l,m,h=>by
  have one:∀ (m:List (XA × Int)) (q:Int × Int),(m.map abo).Nodup→((tq m q.1 q.2).map abo).Nodup∧∀ k,k∈(tq m q.1 q.2).map abo↔k∈m.map abo∨k=q:=fun m q h=>by
   rw [Ml];by_cases hq:(q.1,q.2)∈m.map abo
   ·rw [if_pos hq];refine ⟨h,fun k=>⟨.inl,?_⟩⟩;rintro (h|rfl)
    ·exact h
    ·exact hq
   ·rw [if_neg hq];refine ⟨?_,fun k=>?_⟩
    ·rw [List.nodup_append];refine ⟨h,by simp,fun x hx y hy=>?_⟩;rw [abn] at hy;subst hy;rintro rfl;exact hq hx
    ·rw [aaO,abn]
  obtain ⟨a1,a2⟩:=one m (tu b) h;obtain ⟨b1,b2⟩:=one (tq m (tu b).1 (tu b).2) (J9 b) a1;obtain ⟨c1,c2⟩:=wB l (AN m b) b1;rw [abj];refine ⟨c1,fun k=>?_⟩;have b2':k∈(AN m b).map abo↔k∈(tq m (tu b).1 (tu b).2).map abo∨k=J9 b:=b2 k;rw [c2,b2',a2];constructor
  ·rintro (((h|h)|h)|⟨d,hd,h⟩)
   ·exact .inl h
   ·exact .inr ⟨b,by simp,.inl h⟩
   ·exact .inr ⟨b,by simp,.inr h⟩
   ·exact .inr ⟨d,abr _ hd,h⟩
  ·rintro (h|⟨d,hd,h⟩)
   ·exact .inl (.inl (.inl h))
   ·rcases abE.1 hd with rfl|hd
    ·rcases h with h|h
     ·exact .inl (.inl (.inr h))
     ·exact .inl (.inr h)
    ·exact .inr ⟨d,hd,h⟩
theorem Mm {l:List aF} (hn:l.Nodup) (hv:∀ b∈l,gL b=0) (k:Int × Int):jW l k≤4:=by
 unfold jW;have h1:(l.filter fun b=>decide (fO b=k) || decide (gK b=k)).Nodup:=hn.filter _;refine fN _ (oN k) h1 fun x hx=>?_
 obtain ⟨h2,h3⟩:=abJ.1 hx;exact (mM (hv x h2) k).2 (by simpa using h3)
theorem G7 (m:List (XA × Int)) (j:Int):jZ m j (abx m.length)=(m.countP fun x=>decide (x.2=j):Nat):=by
 have e:(abx m.length).map (fun i=>m.getD i ((0,0),0))=m:=by
  refine List.ext_getElem (by simp) fun i h1 h2=>?_
  simp [h2]
 unfold jZ
 conv=>rhs; rw [← e,List.countP_map]
 rfl
theorem KI:∀ (m:List (XA × Int)),(∀ x∈m,0≤x.2∧x.2≤4)→(m.countP fun x=>decide (x.2=1))+(m.countP fun x=>decide (x.2=3))=m.countP fun x=>decide (x.2 % 2=1)
 |[],_=>rfl
 |x :: m,h=>by
  have ih:=KI m fun y hy=>h y (abr _ hy)
  have hx:=h x (by simp);rw [abw,abw,abw,← ih];by_cases e1:x.2=1
  ·simp [e1]; omega
  ·by_cases e3:x.2=3
   ·simp [e3]; omega
   ·have:¬ x.2 % 2=1:=by omega
    simp [e1,e3,this]
theorem G8 {l:List aF} (h:dC l=0):(CW l).2.1+(CW l).2.2.2.1=((nS l).countP (fun k=>decide (jW l k % 2=1)):Nat)∧∀ x∈mS l,0≤x.2∧x.2≤4:=by
 obtain ⟨g1,g2,g3⟩:=dp h;have hn:=km oH g3;obtain ⟨k1,k2⟩:=wB l [] (by simp);have F9:=G6 l [] 0 g2 (fun k=>by simp [tD,getM]) (by omega);have kn:(nS l).Nodup:=km L5 (jB L5 Vn (0,0) (iM l)).1;have hx:∀ x∈mS l,x.2=(jW l x.1:Int):=fun x hx=>by
  have e1:=G4 k1 hx;have e2:=F9 x.1;unfold tD at e2;have e1:getM x.1 (l.foldl AN [])=some x.2:=e1;rw [e1] at e2;simpa [getM] using e2
 have h4:∀ x∈mS l,0≤x.2∧x.2≤4:=fun x so=>by
  have:=Mm hn g2 x.1;rw [hx x so];omega
 refine ⟨?_,h4⟩;show jZ (mS l) 1 _+jZ (mS l) 3 _=_;rw [G7,G7];have c1:=KI (mS l) h4;have c2:(mS l).countP (fun x=>decide (x.2 % 2=1))=((mS l).map abo).countP fun k=>decide (jW l k % 2=1):=by
  rw [List.countP_map];refine List.countP_congr fun x so=>?_
  have:=hx x so;simp only [Function.comp,decide_eq_true_eq];rw [this];omega
 have c3:((mS l).map abo).Perm (nS l):=by
  have k1':((mS l).map abo).Nodup:=k1;rw [abF k1' kn];intro k;have:=k2 k;rw [Bc];simpa [mS] using this
 rw [c2,c3.countP_eq] at c1;omega
end Go.Proofs.YtldcljfjjoidhaaGreatDoor
namespace Go.Proofs.YtldcljfjjoidhaaGreatDoor
open Go Go.Am Go.Sort
open List (map)
open Int (toNat)
open Go.IntKind (wrap)
open Go.Am.aO (fits)
set_option maxRecDepth 100000
theorem Wm {l:List aF} (hl:l.length≤4096) (hv:∀ b∈l,gL b=0) (n1:xx (ltOf gj) l):dC l=0:=by
 unfold dC;rw [if_neg (by omega)];refine dz.2 fun x hx=>?_
 obtain ⟨k,hk,rfl⟩:=List.mem_map.1 hx;have hk:k < l.length:=List.mem_range.1 hk;have e1:l.getD k (0,0,0)=l[k]:=by simp [hk]
 have c1:gL l[k]=0:=hv _ (abq hk);unfold ED;rw [e1,if_neg (by simp [c1])];refine if_neg ?_;rintro ⟨h0,hl⟩;have L8:k - 1 < l.length:=by omega
 have e2:l.getD (k - 1) (0,0,0)=l[k - 1]:=by simp [L8]
 rw [e2,← uR] at hl;have:=List.pairwise_iff_getElem.1 n1 (k - 1) k L8 hk (by omega);rw [hl] at this;cases this
theorem Q8 {l:List aF} (h:dC l=0) {c:aF} (hc:c∈l):dC (cr l c)=0∧(cr l c).length≤4096:=by
 obtain ⟨g1,g2,g3⟩:=dp h;have n1:xx (ltOf gj) (cr l c):=(jB oH Ey (0,0,0) (Mf l l.length [c] 0)).1;have sub:∀ x∈cr l c,x∈l:=fun x hx=>((fq l c hc x).1 hx).We hc
 have:=fN _ l (km oH n1) sub;exact ⟨Wm (by omega) (fun b hb=>g2 b (sub b hb)) n1,by omega⟩
theorem G9 {l:List aF}:(gV l).length≤l.length∧∀ p∈gV l,∃ c∈l,p=cr l c:=by
 have gen:∀ (m:List aF) (P:wA),(∀ x∈m,x∈l)→(∀ p∈P,∃ c∈l,p=cr l c)→(m.foldl (rB l) P).length≤P.length+m.length∧∀ p∈m.foldl (rB l) P,∃ c∈l,p=cr l c:=by
  intro m
  induction m with
  |nil=>intro P _ h; exact ⟨abC _,h⟩
  |cons b m ih=>
   intro P hm h;rw [abj,abI];have q:=ih (rB l P b) (fun x hx=>hm x (abr _ hx)) (by
    unfold rB;split
    ·exact h
    ·intro p hp;rcases aaO.1 hp with hp|hp
     ·exact h p hp
     ·rw [abn] at hp;exact ⟨b,hm b (by simp),hp⟩)
   refine ⟨?_,q.2⟩;have:(rB l P b).length≤P.length+1:=by
    unfold rB;split
    ·omega
    ·rw [aaY]; exact abC _
   omega
 have:=gen l [] (fun x hx=>hx) (fun p hp=>by cases hp);simpa [gV] using this
theorem Q9 {l:List aF}:(mS l).length≤2 * l.length:=by
 obtain ⟨k1,k2⟩:=wB l [] (by simp);have h1:=fN _ (nS l) k1 fun k hk=>by
  rw [Bc];simpa using (k2 k).1 hk
 have h2:=Bd l;rw [aao] at h1;unfold mS;omega
def pW (p:List aF):Nat:=(nS p).countP fun k=>decide (jW p k % 2=1)
theorem KJ (p:List aF):pW p≤2 * p.length:=by
 have h1:=List.countP_le_length (p:=fun k=>decide (jW p k % 2=1)) (l:=nS p);have h2:=Bd p;unfold pW;omega
def tE (p:List aF):Int:=if abz (pW p) 2 > 1 then abz (pW p) 2 else 1
theorem Wn {p:List aF} (h:p.length≤4096):1≤tE p∧tE p≤10000:=by
 have:=KJ p;have e:abz (pW p) 2=((pW p / 2:Nat):Int):=rfl;unfold tE;rw [e];split <;> omega
def xG (l:List aF):Int:=(gV l).foldl (fun s p=>s+tE p) 0
section
variable {N:Nat} (hN:fC N)
include hN
theorem Ra {p:List aF} (h:dC p=0) (hl:p.length≤4096):T84 N p=some (CW p,0):=by
 refine Kc hN p _ ?_;unfold Kb;have h4:=(G8 h).2;have dl:=@Q9 p;have e1:Nat.ble p.length 10000=true:=abL (by omega);have e2:Nat.ble (mS p).length 100000=true:=abL (by omega);have e3:((mS p).all fun x=>decide (0≤x.2)&&decide (x.2≤4))=true:=by
  rw [List.all_eq_true];intro x hx;have:=h4 x hx;simp [this.1,this.2]
 rw [yQ hN,aad,h,e1,e2,e3];rfl
theorem Wo (l:List aF) (h:dC l=0) (e:Int):az (uS N (gV l,e)) N (0,0)=some (xG l):=by
 obtain ⟨g1,-,-⟩:=dp h;obtain ⟨p1,p2⟩:=@G9 l;have key:=kL (rd:=uS N (gV l,e)) (gV l) (fun (s:Int) k=>(s,(k:Int))) (fun s p=>s+tE p) (fun s=>s) (fun s k=>0≤s∧s≤(k:Int) * 10000∧k≤(gV l).length)
  (fun s k hk hP=>by
   obtain ⟨s1,s2,s3⟩:=hP;obtain ⟨c,hc,ec⟩:=p2 _ (abq hk);obtain ⟨c1,c2⟩:=Q8 h hc;rw [← ec] at c1 c2;obtain ⟨a1,a2⟩:=ai1 (gV l) hk;have q:=Ra hN c1 c2;have ei:=Wn c2;have lo:=(G8 c1).1;have ol:=KJ (gV l)[k];have lo':(CW (gV l)[k]).2.1+(CW (gV l)[k]).2.2.2.1=(pW (gV l)[k]:Int):=lo;have et:abz (pW (gV l)[k]) 2=((pW (gV l)[k] / 2:Nat):Int):=rfl;constructor
   ·have w1:wrap .i64 ((pW (gV l)[k]:Nat):Int)=(pW (gV l)[k]:Int):=fT (by omega);have w2:wrap .i64 (abz (pW (gV l)[k]) 2)=abz (pW (gV l)[k]) 2:=by rw [et]; exact fT (by omega)
    have w3:wrap .i64 (s+tE (gV l)[k])=s+tE (gV l)[k]:=fT (by omega);simp only [uS,aao,a7 hk,ay hk,abv,a1,a2,aaB,aau,cond_true,cq,b9,aad,q,lo',w1,w2,bw (show k < 9223372036854775807 by omega)];have:(if abz (pW (gV l)[k]) 2 > 1 then abz (pW (gV l)[k]) 2 else 1)=tE (gV l)[k]:=rfl;rw [this,w3]
   ·refine ⟨by omega,?_,by omega⟩;rw [Int.natCast_add,Int.add_mul];omega) (fun s _=>by
   simp only [uS,aao,bO,cond_false]) N 0 0 (Nat.zero_le _) (by unfold fC at hN; omega) ⟨by omega,by omega,Nat.zero_le _⟩
 rw [List.drop_zero] at key;exact key
theorem Rb (l:List aF):T18 N l=some (if dC l=0 then (xG l,0) else (0,dC l)):=by
 rw [aaU];simp only [cq,b9,aau,cond_true,aad,Mk hN,Hj];by_cases h:dC l=0
 ·simp only [h,if_true,Wo hN l h,aad]
 ·simp only [h,if_false]
end
end Go.Proofs.YtldcljfjjoidhaaGreatDoor
namespace Go.Proofs.YtldcljfjjoidhaaGreatDoor
open Go Go.Am Go.Sort
open List (map)
open Int (toNat)
open Go.IntKind (wrap)
open Go.Am.aO (fits)
set_option maxRecDepth 100000
theorem rD {c:cQ} (h:gU c=0) {k:Nat} (hk:k < c.2.2.2.2.toNat):(fO (e8 c k)=au c k∧gK (e8 c k)=au c (k+1))∨(fO (e8 c k)=au c (k+1)∧gK (e8 c k)=au c k):=by
 have hc:=Qe h hk;obtain ⟨u1,-,-⟩:=EL hc;rw [u1];unfold e8 kQ fO;have hy:(au c k).2=(au c (k+1)).2+1∨(au c (k+1)).2=(au c k).2+1:=by
  unfold au sg;simp only;cases c.2.2.2.1 <;> simp only [Bool.false_eq_true,if_false,if_true] <;> omega
 by_cases bY:(au c k).2 > (au c (k+1)).2
 ·rw [if_pos bY];refine .inr ⟨rfl,Prod.ext ?_ ?_⟩
  ·show (au c (k+1)).1+((au c k).1 - (au c (k+1)).1)=_; omega
  ·show (au c (k+1)).2+1=_; omega
 ·rw [if_neg bY];refine .inl ⟨rfl,Prod.ext ?_ ?_⟩
  ·show (au c k).1+((au c (k+1)).1 - (au c k).1)=_; omega
  ·show (au c k).2+1=_; omega
theorem Jf {a b:aF} {k:Int × Int} (ha:fO a=k∨gK a=k) (hb:fO b=k∨gK b=k):nV a b=true:=by
 unfold nV;simp only [Bool.or_eq_true,decide_eq_true_eq];rcases ha with ha|ha <;> rcases hb with hb|hb
 ·exact .inl (.inl (.inl (ha.trans hb.symm)))
 ·exact .inl (.inl (.inr (ha.trans hb.symm)))
 ·exact .inl (.inr (ha.trans hb.symm))
 ·exact .inr (ha.trans hb.symm)
theorem wC {l:List aF} {c a b:aF} (hc:c∈l) (ha:a∈cr l c) (hb:b∈l) (ht:nV a b=true):b∈cr l c:=
 (fq l c hc b).2 (.step ((fq l c hc a).1 ha) hb ht)
theorem xH (a b:List aF) (k:Int × Int):jW (a++b) k=jW a k+jW b k:=by
 unfold jW;rw [List.filter_append,aaY]
theorem Dr {c:cQ} (h:gU c=0) (k:Int × Int):∀ n,n≤c.2.2.2.2.toNat→jW (dQ c n) k % 2=((if au c 0=k then 1 else 0)+(if au c n=k then 1 else 0)) % 2
 |0,_=>by
  unfold jW dQ;by_cases e:au c 0=k <;> simp [e]
 |n+1,hn=>by
  have ih:=Dr h k n (by omega);rw [mG,xH];have e:jW [e8 c n] k=(if au c n=k then 1 else 0)+(if au c (n+1)=k then 1 else 0):=by
   rw [Dq];have cK:au c n≠au c (n+1):=by
    intro e;have:=congrArg abo e;unfold au sg at this;simp only at this;cases hr:c.2.2.1 <;> simp only [hr,Bool.false_eq_true,if_false,if_true] at this <;> omega
   have e0:jW [] k=0:=rfl;rw [e0];rcases rD h (show n < c.2.2.2.2.toNat by omega) with ⟨h1,h2⟩|⟨h1,h2⟩
   ·rw [h1,h2];by_cases e1:au c n=k
    ·by_cases e2:au c (n+1)=k
     ·exact absurd (e1.trans e2.symm) cK
     ·simp [e1,e2]
    ·by_cases e2:au c (n+1)=k
     ·simp [e1,e2]
     ·simp [e1,e2]
   ·rw [h1,h2];by_cases e1:au c n=k
    ·by_cases e2:au c (n+1)=k
     ·exact absurd (e1.trans e2.symm) cK
     ·simp [e1,e2]
    ·by_cases e2:au c (n+1)=k
     ·simp [e1,e2]
     ·simp [e1,e2]
  rw [e];omega
structure Mks (l:List aF) (p:List cQ):Prop where
 ok:∀ c∈p,gU c=0∧0 < c.2.2.2.2.toNat
 sub:∀ c∈p,∀ b∈bV c,b∈l
def EN (P:List aF) (c:cQ):Bool:=decide (e8 c 0∈P)
theorem sd {l:List aF} {p:List cQ} (h:Mks l p) {c:cQ} (hc:c∈p) {d:aF} (hd:d∈l):∀ k,k < c.2.2.2.2.toNat→(e8 c k∈cr l d↔EN (cr l d) c=true)
 |0,_=>by unfold EN; simp
 |k+1,hk=>by
  rw [← sd h hc hd k (by omega)];have dS:=(h.ok c hc).1;have m1:e8 c k∈l:=h.sub c hc _ (lV.2 ⟨k,by omega,rfl⟩);have m2:e8 c (k+1)∈l:=h.sub c hc _ (lV.2 ⟨k+1,hk,rfl⟩);have t1:fO (e8 c k)=au c (k+1)∨gK (e8 c k)=au c (k+1):=by
   rcases rD dS (show k < c.2.2.2.2.toNat by omega) with ⟨_,h2⟩|⟨h1,_⟩
   ·exact .inr h2
   ·exact .inl h1
  have t2:fO (e8 c (k+1))=au c (k+1)∨gK (e8 c (k+1))=au c (k+1):=by
   rcases rD dS hk with ⟨h1,_⟩|⟨_,h2⟩
   ·exact .inl h1
   ·exact .inr h2
  exact ⟨fun hh=>wC hd hh m1 (Jf t2 t1),fun hh=>wC hd hh m2 (Jf t1 t2)⟩
theorem Rc {l:List aF} {p:List cQ} (h:Mks l p) {a b:cQ} (ha:a∈p) (hb:b∈p) (he:dj a=(b.1,b.2.1)) {d:aF} (hd:d∈l) (hi:EN (cr l d) b=true):EN (cr l d) a=true:=by
 obtain ⟨a1,a2⟩:=h.ok a ha;obtain ⟨b1,b2⟩:=h.ok b hb;have hl:a.2.2.2.2.toNat - 1 < a.2.2.2.2.toNat:=by omega
 rw [← sd h ha hd _ hl];rw [← sd h hb hd 0 b2] at hi;have e:a.2.2.2.2.toNat - 1+1=a.2.2.2.2.toNat:=by omega
 have t1:fO (e8 a (a.2.2.2.2.toNat - 1))=dj a∨gK (e8 a (a.2.2.2.2.toNat - 1))=dj a:=by
  have:=rD a1 hl;rw [e] at this;rcases this with ⟨_,h2⟩|⟨h1,_⟩
  ·exact .inr h2
  ·exact .inl h1
 have k0:au b 0=(b.1,b.2.1):=by unfold au; simp
 have t2:fO (e8 b 0)=dj a∨gK (e8 b 0)=dj a:=by
  rw [he,← k0];rcases rD b1 b2 with ⟨h1,_⟩|⟨_,h2⟩
  ·exact .inl h1
  ·exact .inr h2
 exact wC hd hi (h.sub a ha _ (lV.2 ⟨_,hl,rfl⟩)) (Jf t2 t1)
def EO (P:List aF) (p:List cQ):List aF:=(bn p).filter fun b=>decide (b∈P)
theorem Mn {l:List aF} {p:List cQ} (h:Mks l p) {d:aF} (hd:d∈l) {i:Nat} (hi:i < p.length):EO (cr l d) (p.take (i+1))=EO (cr l d) (p.take i)++if EN (cr l d) p[i]=true then bV p[i] else []:=by
 have e:bn (p.take (i+1))=bn (p.take i)++bV p[i]:=by
  rw [List.take_add_one,abp hi];unfold bn;rw [List.flatMap_append];simp
 unfold EO;rw [e,List.filter_append];congr 1;have hm:=abq hi;by_cases hp:EN (cr l d) p[i]=true
 ·rw [if_pos hp,List.filter_eq_self];intro b hb;obtain ⟨k,hk,rfl⟩:=lV.1 hb;exact decide_eq_true ((sd h hm hd k hk).2 hp)
 ·rw [if_neg hp,List.filter_eq_nil_iff];intro b hb;obtain ⟨k,hk,rfl⟩:=lV.1 hb;rw [decide_eq_true_eq];exact fun hh=>hp ((sd h hm hd k hk).1 hh)
def RJ (P:List aF) (p:List cQ) (n:Nat):Nat:=(abx n).countP fun i=>lq p i&&EN P (p.getD i (0,0,false,false,0))
theorem Re (P:List aF) (p:List cQ) (n:Nat):RJ P p (n+1)=RJ P p n+if (lq p n&&EN P (p.getD n (0,0,false,false,0)))=true then 1 else 0:=by
 unfold RJ;rw [List.range_succ,List.countP_append,List.countP_singleton]
theorem Bt {l:List aF} {p:List cQ} (h:Mks l p) {d:aF} (hd:d∈l):∀ i,i≤p.length→∃ L:List XA,L.length=2 * RJ (cr l d) p i∧(∀ k,jW (EO (cr l d) (p.take i)) k % 2=L.count k % 2) ∧
  (∀ j (hj:j < p.length),j+1=i→EN (cr l d) p[j]=true→∃ L',L=L'++[dj p[j]])∧((∃ j,∃ hj:j < p.length,j < i∧EN (cr l d) p[j]=true)→1≤RJ (cr l d) p i)
 |0,_=>⟨[],rfl,fun k=>by simp [EO,bn,jW],fun j _ hj=>by omega,fun ⟨j,_,hj,_⟩=>by omega⟩
 |i+1,hi=>by
  obtain ⟨L,h1,h2,h3,h4⟩:=Bt h hd i (by omega);have sS:i < p.length:=by omega
  have hm:=abq sS;obtain ⟨c1,c2⟩:=h.ok _ hm;have eg:p.getD i (0,0,false,false,0)=p[i]:=by simp [sS]
  have hs:=Mn h hd sS;have abk:∀ k,jW (EO (cr l d) (p.take (i+1))) k=jW (EO (cr l d) (p.take i)) k+if EN (cr l d) p[i]=true then jW (bV p[i]) k else 0:=fun k=>by
   rw [hs,xH];split <;> rfl
  have KK:∀ k,jW (bV p[i]) k % 2=((if au p[i] 0=k then 1 else 0)+(if dj p[i]=k then 1 else 0)) % 2:=fun k=>Dr c1 k _ (abC _)
  rw [Re,eg];by_cases hp:EN (cr l d) p[i]=true
  ·by_cases ht:lq p i=true
   ·refine ⟨L++[au p[i] 0,dj p[i]],?_,fun k=>?_,fun j hj VU _=>?_,fun _=>?_⟩
    ·rw [aaY,h1,ht,hp];show _+2=2 * (_+1);omega
    ·rw [abk,if_pos hp,abG];have a1:=h2 k;have a2:=KK k;have a3:[au p[i] 0,dj p[i]].count k=(if au p[i] 0=k then 1 else 0)+(if dj p[i]=k then 1 else 0):=by
      rw [abA,abA,abM];by_cases x1:au p[i] 0=k <;> by_cases x2:dj p[i]=k <;> simp [x1,x2]
     rw [a3];omega
    ·have:j=i:=by omega
     subst this;exact ⟨L++[au p[j] 0],by rw [abt]; rfl⟩
    ·rw [ht,hp];show 1≤_+1;omega
   ·have ht:lq p i=false:=by simpa using ht
    have hi0:i≠0:=by
     rintro rfl;cases ht
    have hj:i - 1 < p.length:=by omega
    have g1:p.getD (i - 1) (0,0,false,false,0)=p[i - 1]:=by simp [hj]
    have he:dj p[i - 1]=(p[i].1,p[i].2.1):=by
     unfold lq at ht;rw [g1,eg] at ht;have b0:(i == 0)=false:=beq_false_of_ne hi0;rw [b0,Bool.false_or,Bool.not_eq_false'] at ht;exact of_decide_eq_true ht
    have k0:au p[i] 0=dj p[i - 1]:=by rw [he]; unfold au; simp
    have WS:=Rc h (abq hj) hm he hd hp;obtain ⟨L',hL⟩:=h3 (i - 1) hj (by omega) WS;refine ⟨L'++[dj p[i]],?_,fun k=>?_,fun j Z0 VU _=>?_,fun _=>?_⟩
    ·rw [ht];rw [hL,aaY] at h1;rw [aaY];exact h1
    ·rw [abk,if_pos hp,abG];have a1:=h2 k;have a2:=KK k;rw [hL,abG] at a1;have a3:[dj p[i - 1]].count k=if dj p[i - 1]=k then 1 else 0:=by
      rw [abA,abM];by_cases x1:dj p[i - 1]=k <;> simp [x1]
     have a4:[dj p[i]].count k=if dj p[i]=k then 1 else 0:=by
      rw [abA,abM];by_cases x1:dj p[i]=k <;> simp [x1]
     rw [k0] at a2;rw [a3] at a1;rw [a4];omega
    ·have:j=i:=by omega
     subst this;exact ⟨L',rfl⟩
    ·rw [ht];exact h4 ⟨i - 1,hj,by omega,WS⟩
  ·have hp':EN (cr l d) p[i]=false:=by simpa using hp
   refine ⟨L,?_,fun k=>?_,fun j hj VU hjp=>?_,fun hex=>?_⟩
   ·rw [hp',Bool.and_false];exact h1
   ·rw [abk,if_neg hp];exact h2 k
   ·have:j=i:=by omega
    subst this;exact absurd hjp hp
   ·rw [hp',Bool.and_false];obtain ⟨j,hj,VU,hjp⟩:=hex;refine h4 ⟨j,hj,?_,hjp⟩;rcases Nat.lt_or_ge j i with h5|h5
    ·exact h5
    ·have:j=i:=by omega
     subst this;exact absurd hjp hp
end Go.Proofs.YtldcljfjjoidhaaGreatDoor
namespace Go.Proofs.YtldcljfjjoidhaaGreatDoor
open Go Go.Am Go.Sort
open List (map)
open Int (toNat)
open Go.IntKind (wrap)
open Go.Am.aO (fits)
set_option maxRecDepth 100000
theorem Mo {a b:List aF} (h:a.Perm b) (k:Int × Int):jW a k=jW b k:=by
 unfold jW;exact (h.filter _).length_eq
theorem Wp {l:List aF} {p:List cQ} (h:Mks l p) (hl:dC l=0) (hn:(bn p).Nodup) (ha:∀ x,x∈bn p↔x∈l) {d:aF} (hd:d∈l):tE (cr l d)≤(RJ (cr l d) p p.length:Int):=by
 obtain ⟨g1,g2,g3⟩:=dp hl;obtain ⟨L,h1,h2,-,h4⟩:=Bt h hd p.length (abC _);have n1:xx (ltOf gj) (cr l d):=(jB oH Ey (0,0,0) (Mf l l.length [d] 0)).1;have pn:=km oH n1;have aeR:(EO (cr l d) (p.take p.length)).Perm (cr l d):=by
  rw [List.take_length];unfold EO;rw [abF (hn.filter _) pn];intro x;rw [abJ,decide_eq_true_eq];exact ⟨fun hx=>hx.2,fun hx=>⟨(ha x).2 (((fq l d hd x).1 hx).We hd),hx⟩⟩
 have anE:pW (cr l d)≤L.length:=by
  unfold pW;rw [abB];have kn:(nS (cr l d)).Nodup:=km L5 (jB L5 Vn (0,0) (iM (cr l d))).1;refine fN _ L (kn.filter _) fun k hk=>?_
  have hk2:=(abJ.1 hk).2;rw [decide_eq_true_eq] at hk2;have:=h2 k;rw [Mo aeR k] at this;exact List.count_pos_iff.1 (by omega)
 have nH:1≤RJ (cr l d) p p.length:=by
  refine h4 ?_;have hdo:=(ha d).2 hd;obtain ⟨c,hc,hdc⟩:=List.mem_flatMap.1 hdo;obtain ⟨j,hj,rfl⟩:=abN hc;obtain ⟨k,hk,e⟩:=lV.1 hdc;refine ⟨j,hj,hj,?_⟩;rw [← sd h hc hd k hk,e,fq l d hd];exact .base
 have e:abz (pW (cr l d)) 2=((pW (cr l d) / 2:Nat):Int):=rfl;unfold tE;rw [e];split <;> omega
theorem Jg (l:List aF):(gV l).Pairwise fun P Q=>∀ x,x∈P→x∉Q:=by
 have gen:∀ (m:List aF) (P:wA),(∀ x∈m,x∈l)→(∀ p∈P,∃ c∈l,p=cr l c)→P.Pairwise (fun P Q=>∀ x,x∈P→x∉Q)→(m.foldl (rB l) P).Pairwise fun P Q=>∀ x,x∈P→x∉Q:=by
  intro m
  induction m with
  |nil=>intro P _ _ h; exact h
  |cons b m ih=>
   intro P hm hP h;rw [abj];have hb:b∈l:=hm b (by simp);refine ih _ (fun x hx=>hm x (abr _ hx)) ?_ ?_
   ·unfold rB;split
    ·exact hP
    ·intro p hp;rcases aaO.1 hp with hp|hp
     ·exact hP p hp
     ·rw [abn] at hp;exact ⟨b,hb,hp⟩
   ·unfold rB;split
    ·exact h
    ·next DU=>
     rw [List.pairwise_append];refine ⟨h,by simp,fun p hp q hq x hx hxq=>?_⟩;rw [abn] at hq;subst hq;obtain ⟨c,hc,rfl⟩:=hP p hp;refine DU ?_;rw [List.any_eq_true];refine ⟨_,hp,decide_eq_true ?_⟩;have r1:=(fq l c hc x).1 hx;have r2:=(fq l b hb x).1 hxq;exact (fq l c hc b).2 (r1.trans' (r2.aeP hb))
 exact gen l [] (fun x hx=>hx) (fun p hp=>by cases hp) List.Pairwise.nil
theorem Ds (R:List Nat) (f:Nat→Bool) (g:List aF→Nat→Bool):∀ (Q:wA),Q.Pairwise (fun P Q=>∀ i,g P i=true→g Q i=false)→∀ s:Int,Q.foldl (fun s P=>s+((R.countP (fun i=>f i&&g P i):Nat):Int)) s=s+((R.countP (fun i=>f i&&Q.any fun P=>g P i):Nat):Int)
 |[],_,s=>by simp
 |P :: Q,h,s=>by
  rw [List.pairwise_cons] at h;rw [abj,Ds R f g Q h.2];have e:R.countP (fun i=>f i&&(P :: Q).any fun P=>g P i)=R.countP (fun i=>f i&&g P i)+R.countP (fun i=>f i&&Q.any fun P=>g P i):=by
   clear s
   induction R with
   |nil=>rfl
   |cons i R ih=>
    rw [abw,abw,abw,ih,List.any_cons];by_cases hf:f i=true
    ·by_cases hg:g P i=true
     ·have hq:(Q.any fun P=>g P i)=false:=by
       rw [List.any_eq_false];intro q hq;rw [h.1 q hq i hg];simp
      rw [hf,hg,hq];simp;omega
     ·have sk:g P i=false:=by simpa using hg
      rw [hf,sk];simp;omega
    ·have hf':f i=false:=by simpa using hf
     rw [hf'];simp
  rw [e];omega
theorem EP (f g:List aF→Int):∀ (Q:wA) (s t:Int),(∀ P∈Q,f P≤g P)→s≤t→Q.foldl (fun s P=>s+f P) s≤Q.foldl (fun s P=>s+g P) t
 |[],s,t,_,h=>h
 |P :: Q,s,t,h,hs=>by
  rw [abj,abj];have:=h P (by simp);exact EP f g Q _ _ (fun q hq=>h q (abr _ hq)) (by omega)
theorem Wq {l:List aF} {p:List cQ} (h:Mks l p) (hl:dC l=0) (hn:(bn p).Nodup) (ha:∀ x,x∈bn p↔x∈l):xG l≤xD p:=by
 obtain ⟨-,hp⟩:=@G9 l;have h1:xG l≤(gV l).foldl (fun s P=>s+(RJ P p p.length:Int)) 0:=EP tE (fun P=>(RJ P p p.length:Int)) (gV l) 0 0 (fun P hP=>by
  obtain ⟨c,hc,rfl⟩:=hp P hP;exact Wp h hl hn ha hc) (Int.le_refl _)
 have WO:(gV l).Pairwise (fun P Q=>∀ i,EN P (p.getD i (0,0,false,false,0))=true→EN Q (p.getD i (0,0,false,false,0))=false):=by
  refine List.Pairwise.imp (fun {P Q} hPQ i hi=>?_) (Jg l);unfold EN at hi ⊢;exact decide_eq_false (hPQ _ (of_decide_eq_true hi))
 have h2:=Ds (abx p.length) (lq p) (fun P i=>EN P (p.getD i (0,0,false,false,0))) (gV l) WO 0;have h3:(gV l).foldl (fun s P=>s+(RJ P p p.length:Int)) 0=0+(((abx p.length).countP (fun i=>lq p i&&(gV l).any fun P=>EN P (p.getD i (0,0,false,false,0))):Nat):Int):=h2;have h4:(abx p.length).countP (fun i=>lq p i&&(gV l).any fun P=>EN P (p.getD i (0,0,false,false,0)))≤(abx p.length).countP (lq p):=by
  refine List.countP_mono_left fun i _ hi=>?_
  rw [Bool.and_eq_true] at hi;exact hi.1
 have h5:xD p=(((abx p.length).countP (lq p):Nat):Int):=by
  unfold xD BA;rw [aao,abB]
 omega
theorem KL (p:List aF):1≤tE p:=by unfold tE; split <;> omega
theorem KM (l:List aF):∀ (m:List aF) (P:wA),P≠[]→m.foldl (rB l) P≠[]
 |[],_,h=>h
 |b :: m,P,h=>by
  rw [abj];refine KM l m _ ?_;unfold rB;split
  ·exact h
  ·simp
theorem fold_zero:∀ (Q:wA) (s:Int),Q.foldl (fun s _=>s+0) s=s
 |[],_=>rfl
 |P :: Q,s=>by rw [abj,fold_zero Q,Int.add_zero]
theorem Rf {l:List aF} (h0:l≠[]):1≤xG l:=by
 have cK:gV l≠[]:=by
  unfold gV;cases l with
  |nil=>exact absurd rfl h0
  |cons b m=>
   rw [abj];refine KM _ m _ ?_;unfold rB;simp
 unfold xG;cases hq:gV l with
 |nil=>exact absurd hq cK
 |cons P Q=>
  rw [abj];have h1:=KL P;have h2:=EP (fun _=>0) tE Q 1 (0+tE P) (fun q _=>by have:=KL q; omega) (by omega);rw [fold_zero] at h2;exact h2
end Go.Proofs.YtldcljfjjoidhaaGreatDoor
namespace Go.Proofs.YtldcljfjjoidhaaGreatDoor
open Go Go.Am Go.Sort
open List (map)
open Int (toNat)
open Go.IntKind (wrap)
open Go.Am.aO (fits)
set_option maxRecDepth 100000
def mk (s:Bool) (x:Int):Int:=if s then -x else x
variable {s:Bool} {dx dy:Int}
end Go.Proofs.YtldcljfjjoidhaaGreatDoor
