/- Plain laws: the parts of a net as the program collects them. -/
import Derived.Test.YtophnjjjmikmeaaGreatOttWb
set_option linter.all false
namespace Go.Proofs.YtophnjjjmikmeaaGreat
open Go Go.Am Go.Sort
set_option maxRecDepth 100000
abbrev yY:=List (List aV)
def de (l S:List aV) (P:List aV) (b:aV):List aV:=if b∈S++P then P else if b∈l then P++[b] else P
theorem kD (l S P:List aV) (b:aV):(de l S P b).length≤P.length+1:=by
 unfold de
 split
 ·omega
 ·split
  ·rw [List.length_append]; exact Nat.le_refl _
  ·omega
def mc (k:Int × Int):List aV:=[(k.1 - 1,k.2 - 1,1),(k.1+1,k.2 - 1,-1),(k.1,k.2,-1),(k.1,k.2,1)]
section
variable {N:Nat} (hN:gU N)
include hN
theorem OK (l:List aV) (hs:vb (ltOf ji) l) (hl:l.length≤1000000) (out:yY) (S P:List aV) (hP:P.length≤1000000) (y:Int × Int × Int × Int × Int × Int × Int × Int × Int × Int × Int × Int) :
  aL N l y (out,(),0,bX (S++P),P)=some (.inl (out,(),1,bX (S++de l S P (y.1,y.2.1,y.2.2.1)),de l S P (y.1,y.2.1,y.2.2.1))):=by
 have l4:decide ((0:Int) < 4)=true:=rfl
 have z0:decide ((0:Int)=0)=true:=rfl
 have w1:IntKind.wrap .i64 ((0:Int)+1)=1:=rfl
 have kk:cH BT (.agg [.int .i64 y.1,.int .i64 y.2.1,.int .i64 y.2.2.1]) (ab (List.map aH (bX (S++P))))=true:=cO.keys (y.1,y.2.1,y.2.2.1) _
 have kg:bu BT (.agg [.int .i64 y.1,.int .i64 y.2.1,.int .i64 y.2.2.1]) (AV.bool false) (ab (List.map aH (bX (S++P))))=AV.bool (decide ((y.1,y.2.1,y.2.2.1)∈S++P)):=by
  have:=cO.getD (y.1,y.2.1,y.2.2.1) false (bX (S++P))
  rw [og] at this
  exact this
 have hh:Ln N (l,(y.1,y.2.1,y.2.2.1))=some (decide ((y.1,y.2.1,y.2.2.1)∈l)):=vc hN l hs hl _
 have cb:decide ((P.length+1) * 24≤140737488355328)=true:=decide_eq_true (by omega)
 have fb:∀ x:Bool,aj.fits p4 (AV.bool x)=true:=fun _=>rfl
 have db:∀ x:Bool,d4 (AV.bool x)=x:=fun _=>rfl
 have ll:(P++[(y.1,y.2.1,y.2.2.1)]).length=P.length+1:=by rw [List.length_append]; rfl
 have sn:=BI P (y.1,y.2.1,y.2.2.1)
 simp only at sn
 unfold de
 by_cases h1:(y.1,y.2.1,y.2.2.1)∈S++P
 ·rw [decide_eq_true h1] at kg
  simp only [aL,l4,z0,cond_true,cond_false,kJ,kK,fY,ft,dX,dY,cO.cells,cO.bo,Bool.and_self,Bool.and_true,decide_true,Option.bind_some,kk,kg,fb,db,Bool.not_true,Nat.beq_refl,w1,if_pos h1,List.length_map]
 ·rw [decide_eq_false h1] at kg
  by_cases h2:(y.1,y.2.1,y.2.2.1)∈l
  ·rw [decide_eq_true h2] at hh
   have kp:bi BT (.agg [.int .i64 y.1,.int .i64 y.2.1,.int .i64 y.2.2.1]) (AV.bool true) (ab (List.map aH (bX (S++P))))=ab (List.map aH (bX (S++(P++[(y.1,y.2.1,y.2.2.1)])))):=by
    have:=cO.put (y.1,y.2.1,y.2.2.1) true (bX (S++P))
    rw [oh _ _ h1,List.append_assoc] at this
    exact this
   simp only [aL,l4,z0,cond_true,cond_false,kJ,kK,fY,ft,dX,dY,cO.cells,cO.bo,Bool.and_self,Bool.and_true,decide_true,Option.bind_some,kk,kg,kp,hh,cb,sn,ll,fb,db,Bool.not_false,Nat.beq_refl,w1,if_neg h1,if_pos h2,List.length_map]
  ·rw [decide_eq_false h2] at hh
   simp only [aL,l4,z0,cond_true,cond_false,kJ,kK,fY,ft,dX,dY,cO.cells,cO.bo,Bool.and_self,Bool.and_true,decide_true,Option.bind_some,kk,kg,hh,fb,db,Bool.not_false,Nat.beq_refl,w1,if_neg h1,if_neg h2,List.length_map]
theorem OL (l:List aV) (hs:vb (ltOf ji) l) (hl:l.length≤1000000) (out:yY) (S P:List aV) (hP:P.length≤1000000) (y:Int × Int × Int × Int × Int × Int × Int × Int × Int × Int × Int × Int) :
  aL N l y (out,(),1,bX (S++P),P)=some (.inl (out,(),2,bX (S++de l S P (y.2.2.2.1,y.2.2.2.2.1,y.2.2.2.2.2.1)),de l S P (y.2.2.2.1,y.2.2.2.2.1,y.2.2.2.2.2.1))):=by
 have l4:decide ((1:Int) < 4)=true:=rfl
 have z0:decide ((1:Int)=0)=false:=rfl
 have z1:decide ((1:Int)=1)=true:=rfl
 have w1:IntKind.wrap .i64 ((1:Int)+1)=2:=rfl
 have kk:cH BT (.agg [.int .i64 y.2.2.2.1,.int .i64 y.2.2.2.2.1,.int .i64 y.2.2.2.2.2.1]) (ab (List.map aH (bX (S++P))))=true:=cO.keys (y.2.2.2.1,y.2.2.2.2.1,y.2.2.2.2.2.1) _
 have kg:bu BT (.agg [.int .i64 y.2.2.2.1,.int .i64 y.2.2.2.2.1,.int .i64 y.2.2.2.2.2.1]) (AV.bool false) (ab (List.map aH (bX (S++P))))=AV.bool (decide ((y.2.2.2.1,y.2.2.2.2.1,y.2.2.2.2.2.1)∈S++P)):=by
  have:=cO.getD (y.2.2.2.1,y.2.2.2.2.1,y.2.2.2.2.2.1) false (bX (S++P))
  rw [og] at this
  exact this
 have hh:Ln N (l,(y.2.2.2.1,y.2.2.2.2.1,y.2.2.2.2.2.1))=some (decide ((y.2.2.2.1,y.2.2.2.2.1,y.2.2.2.2.2.1)∈l)):=vc hN l hs hl _
 have cb:decide ((P.length+1) * 24≤140737488355328)=true:=decide_eq_true (by omega)
 have fb:∀ x:Bool,aj.fits p4 (AV.bool x)=true:=fun _=>rfl
 have db:∀ x:Bool,d4 (AV.bool x)=x:=fun _=>rfl
 have ll:(P++[(y.2.2.2.1,y.2.2.2.2.1,y.2.2.2.2.2.1)]).length=P.length+1:=by rw [List.length_append]; rfl
 have sn:=BI P (y.2.2.2.1,y.2.2.2.2.1,y.2.2.2.2.2.1)
 simp only at sn
 unfold de
 by_cases h1:(y.2.2.2.1,y.2.2.2.2.1,y.2.2.2.2.2.1)∈S++P
 ·rw [decide_eq_true h1] at kg
  simp only [aL,l4,z0,z1,cond_true,cond_false,kJ,kK,fY,ft,dX,dY,cO.cells,cO.bo,Bool.and_self,Bool.and_true,decide_true,Option.bind_some,kk,kg,fb,db,Bool.not_true,Nat.beq_refl,w1,if_pos h1,List.length_map]
 ·rw [decide_eq_false h1] at kg
  by_cases h2:(y.2.2.2.1,y.2.2.2.2.1,y.2.2.2.2.2.1)∈l
  ·rw [decide_eq_true h2] at hh
   have kp:bi BT (.agg [.int .i64 y.2.2.2.1,.int .i64 y.2.2.2.2.1,.int .i64 y.2.2.2.2.2.1]) (AV.bool true) (ab (List.map aH (bX (S++P))))=ab (List.map aH (bX (S++(P++[(y.2.2.2.1,y.2.2.2.2.1,y.2.2.2.2.2.1)])))):=by
    have:=cO.put (y.2.2.2.1,y.2.2.2.2.1,y.2.2.2.2.2.1) true (bX (S++P))
    rw [oh _ _ h1,List.append_assoc] at this
    exact this
   simp only [aL,l4,z0,z1,cond_true,cond_false,kJ,kK,fY,ft,dX,dY,cO.cells,cO.bo,Bool.and_self,Bool.and_true,decide_true,Option.bind_some,kk,kg,kp,hh,cb,sn,ll,fb,db,Bool.not_false,Nat.beq_refl,w1,if_neg h1,if_pos h2,List.length_map]
  ·rw [decide_eq_false h2] at hh
   simp only [aL,l4,z0,z1,cond_true,cond_false,kJ,kK,fY,ft,dX,dY,cO.cells,cO.bo,Bool.and_self,Bool.and_true,decide_true,Option.bind_some,kk,kg,hh,fb,db,Bool.not_false,Nat.beq_refl,w1,if_neg h1,if_neg h2,List.length_map]
theorem OM (l:List aV) (hs:vb (ltOf ji) l) (hl:l.length≤1000000) (out:yY) (S P:List aV) (hP:P.length≤1000000) (y:Int × Int × Int × Int × Int × Int × Int × Int × Int × Int × Int × Int) :
  aL N l y (out,(),2,bX (S++P),P)=some (.inl (out,(),3,bX (S++de l S P (y.2.2.2.2.2.2.1,y.2.2.2.2.2.2.2.1,y.2.2.2.2.2.2.2.2.1)),de l S P (y.2.2.2.2.2.2.1,y.2.2.2.2.2.2.2.1,y.2.2.2.2.2.2.2.2.1))):=by
 have l4:decide ((2:Int) < 4)=true:=rfl
 have z0:decide ((2:Int)=0)=false:=rfl
 have z1:decide ((2:Int)=1)=false:=rfl
 have z2:decide ((2:Int)=2)=true:=rfl
 have w1:IntKind.wrap .i64 ((2:Int)+1)=3:=rfl
 have kk:cH BT (.agg [.int .i64 y.2.2.2.2.2.2.1,.int .i64 y.2.2.2.2.2.2.2.1,.int .i64 y.2.2.2.2.2.2.2.2.1]) (ab (List.map aH (bX (S++P))))=true:=cO.keys (y.2.2.2.2.2.2.1,y.2.2.2.2.2.2.2.1,y.2.2.2.2.2.2.2.2.1) _
 have kg:bu BT (.agg [.int .i64 y.2.2.2.2.2.2.1,.int .i64 y.2.2.2.2.2.2.2.1,.int .i64 y.2.2.2.2.2.2.2.2.1]) (AV.bool false) (ab (List.map aH (bX (S++P))))=AV.bool (decide ((y.2.2.2.2.2.2.1,y.2.2.2.2.2.2.2.1,y.2.2.2.2.2.2.2.2.1)∈S++P)):=by
  have:=cO.getD (y.2.2.2.2.2.2.1,y.2.2.2.2.2.2.2.1,y.2.2.2.2.2.2.2.2.1) false (bX (S++P))
  rw [og] at this
  exact this
 have hh:Ln N (l,(y.2.2.2.2.2.2.1,y.2.2.2.2.2.2.2.1,y.2.2.2.2.2.2.2.2.1))=some (decide ((y.2.2.2.2.2.2.1,y.2.2.2.2.2.2.2.1,y.2.2.2.2.2.2.2.2.1)∈l)):=vc hN l hs hl _
 have cb:decide ((P.length+1) * 24≤140737488355328)=true:=decide_eq_true (by omega)
 have fb:∀ x:Bool,aj.fits p4 (AV.bool x)=true:=fun _=>rfl
 have db:∀ x:Bool,d4 (AV.bool x)=x:=fun _=>rfl
 have ll:(P++[(y.2.2.2.2.2.2.1,y.2.2.2.2.2.2.2.1,y.2.2.2.2.2.2.2.2.1)]).length=P.length+1:=by rw [List.length_append]; rfl
 have sn:=BI P (y.2.2.2.2.2.2.1,y.2.2.2.2.2.2.2.1,y.2.2.2.2.2.2.2.2.1)
 simp only at sn
 unfold de
 by_cases h1:(y.2.2.2.2.2.2.1,y.2.2.2.2.2.2.2.1,y.2.2.2.2.2.2.2.2.1)∈S++P
 ·rw [decide_eq_true h1] at kg
  simp only [aL,l4,z0,z1,z2,cond_true,cond_false,kJ,kK,fY,ft,dX,dY,cO.cells,cO.bo,Bool.and_self,Bool.and_true,decide_true,Option.bind_some,kk,kg,fb,db,Bool.not_true,Nat.beq_refl,w1,if_pos h1,List.length_map]
 ·rw [decide_eq_false h1] at kg
  by_cases h2:(y.2.2.2.2.2.2.1,y.2.2.2.2.2.2.2.1,y.2.2.2.2.2.2.2.2.1)∈l
  ·rw [decide_eq_true h2] at hh
   have kp:bi BT (.agg [.int .i64 y.2.2.2.2.2.2.1,.int .i64 y.2.2.2.2.2.2.2.1,.int .i64 y.2.2.2.2.2.2.2.2.1]) (AV.bool true) (ab (List.map aH (bX (S++P))))=ab (List.map aH (bX (S++(P++[(y.2.2.2.2.2.2.1,y.2.2.2.2.2.2.2.1,y.2.2.2.2.2.2.2.2.1)])))):=by
    have:=cO.put (y.2.2.2.2.2.2.1,y.2.2.2.2.2.2.2.1,y.2.2.2.2.2.2.2.2.1) true (bX (S++P))
    rw [oh _ _ h1,List.append_assoc] at this
    exact this
   simp only [aL,l4,z0,z1,z2,cond_true,cond_false,kJ,kK,fY,ft,dX,dY,cO.cells,cO.bo,Bool.and_self,Bool.and_true,decide_true,Option.bind_some,kk,kg,kp,hh,cb,sn,ll,fb,db,Bool.not_false,Nat.beq_refl,w1,if_neg h1,if_pos h2,List.length_map]
  ·rw [decide_eq_false h2] at hh
   simp only [aL,l4,z0,z1,z2,cond_true,cond_false,kJ,kK,fY,ft,dX,dY,cO.cells,cO.bo,Bool.and_self,Bool.and_true,decide_true,Option.bind_some,kk,kg,hh,fb,db,Bool.not_false,Nat.beq_refl,w1,if_neg h1,if_neg h2,List.length_map]
theorem ON (l:List aV) (hs:vb (ltOf ji) l) (hl:l.length≤1000000) (out:yY) (S P:List aV) (hP:P.length≤1000000) (y:Int × Int × Int × Int × Int × Int × Int × Int × Int × Int × Int × Int) :
  aL N l y (out,(),3,bX (S++P),P)=some (.inl (out,(),4,bX (S++de l S P (y.2.2.2.2.2.2.2.2.2.1,y.2.2.2.2.2.2.2.2.2.2.1,y.2.2.2.2.2.2.2.2.2.2.2)),de l S P (y.2.2.2.2.2.2.2.2.2.1,y.2.2.2.2.2.2.2.2.2.2.1,y.2.2.2.2.2.2.2.2.2.2.2))):=by
 have l4:decide ((3:Int) < 4)=true:=rfl
 have z0:decide ((3:Int)=0)=false:=rfl
 have z1:decide ((3:Int)=1)=false:=rfl
 have z2:decide ((3:Int)=2)=false:=rfl
 have z3:decide ((3:Int)=3)=true:=rfl
 have w1:IntKind.wrap .i64 ((3:Int)+1)=4:=rfl
 have kk:cH BT (.agg [.int .i64 y.2.2.2.2.2.2.2.2.2.1,.int .i64 y.2.2.2.2.2.2.2.2.2.2.1,.int .i64 y.2.2.2.2.2.2.2.2.2.2.2]) (ab (List.map aH (bX (S++P))))=true:=cO.keys (y.2.2.2.2.2.2.2.2.2.1,y.2.2.2.2.2.2.2.2.2.2.1,y.2.2.2.2.2.2.2.2.2.2.2) _
 have kg:bu BT (.agg [.int .i64 y.2.2.2.2.2.2.2.2.2.1,.int .i64 y.2.2.2.2.2.2.2.2.2.2.1,.int .i64 y.2.2.2.2.2.2.2.2.2.2.2]) (AV.bool false) (ab (List.map aH (bX (S++P))))=AV.bool (decide ((y.2.2.2.2.2.2.2.2.2.1,y.2.2.2.2.2.2.2.2.2.2.1,y.2.2.2.2.2.2.2.2.2.2.2)∈S++P)):=by
  have:=cO.getD (y.2.2.2.2.2.2.2.2.2.1,y.2.2.2.2.2.2.2.2.2.2.1,y.2.2.2.2.2.2.2.2.2.2.2) false (bX (S++P))
  rw [og] at this
  exact this
 have hh:Ln N (l,(y.2.2.2.2.2.2.2.2.2.1,y.2.2.2.2.2.2.2.2.2.2.1,y.2.2.2.2.2.2.2.2.2.2.2))=some (decide ((y.2.2.2.2.2.2.2.2.2.1,y.2.2.2.2.2.2.2.2.2.2.1,y.2.2.2.2.2.2.2.2.2.2.2)∈l)):=vc hN l hs hl _
 have cb:decide ((P.length+1) * 24≤140737488355328)=true:=decide_eq_true (by omega)
 have fb:∀ x:Bool,aj.fits p4 (AV.bool x)=true:=fun _=>rfl
 have db:∀ x:Bool,d4 (AV.bool x)=x:=fun _=>rfl
 have ll:(P++[(y.2.2.2.2.2.2.2.2.2.1,y.2.2.2.2.2.2.2.2.2.2.1,y.2.2.2.2.2.2.2.2.2.2.2)]).length=P.length+1:=by rw [List.length_append]; rfl
 have sn:=BI P (y.2.2.2.2.2.2.2.2.2.1,y.2.2.2.2.2.2.2.2.2.2.1,y.2.2.2.2.2.2.2.2.2.2.2)
 simp only at sn
 unfold de
 by_cases h1:(y.2.2.2.2.2.2.2.2.2.1,y.2.2.2.2.2.2.2.2.2.2.1,y.2.2.2.2.2.2.2.2.2.2.2)∈S++P
 ·rw [decide_eq_true h1] at kg
  simp only [aL,l4,z0,z1,z2,z3,cond_true,cond_false,kJ,kK,fY,ft,dX,dY,cO.cells,cO.bo,Bool.and_self,Bool.and_true,decide_true,Option.bind_some,kk,kg,fb,db,Bool.not_true,Nat.beq_refl,w1,if_pos h1,List.length_map]
 ·rw [decide_eq_false h1] at kg
  by_cases h2:(y.2.2.2.2.2.2.2.2.2.1,y.2.2.2.2.2.2.2.2.2.2.1,y.2.2.2.2.2.2.2.2.2.2.2)∈l
  ·rw [decide_eq_true h2] at hh
   have kp:bi BT (.agg [.int .i64 y.2.2.2.2.2.2.2.2.2.1,.int .i64 y.2.2.2.2.2.2.2.2.2.2.1,.int .i64 y.2.2.2.2.2.2.2.2.2.2.2]) (AV.bool true) (ab (List.map aH (bX (S++P))))=ab (List.map aH (bX (S++(P++[(y.2.2.2.2.2.2.2.2.2.1,y.2.2.2.2.2.2.2.2.2.2.1,y.2.2.2.2.2.2.2.2.2.2.2)])))):=by
    have:=cO.put (y.2.2.2.2.2.2.2.2.2.1,y.2.2.2.2.2.2.2.2.2.2.1,y.2.2.2.2.2.2.2.2.2.2.2) true (bX (S++P))
    rw [oh _ _ h1,List.append_assoc] at this
    exact this
   simp only [aL,l4,z0,z1,z2,z3,cond_true,cond_false,kJ,kK,fY,ft,dX,dY,cO.cells,cO.bo,Bool.and_self,Bool.and_true,decide_true,Option.bind_some,kk,kg,kp,hh,cb,sn,ll,fb,db,Bool.not_false,Nat.beq_refl,w1,if_neg h1,if_pos h2,List.length_map]
  ·rw [decide_eq_false h2] at hh
   simp only [aL,l4,z0,z1,z2,z3,cond_true,cond_false,kJ,kK,fY,ft,dX,dY,cO.cells,cO.bo,Bool.and_self,Bool.and_true,decide_true,Option.bind_some,kk,kg,hh,fb,db,Bool.not_false,Nat.beq_refl,w1,if_neg h1,if_neg h2,List.length_map]
theorem OO (l:List aV) (out:yY) (S P:List aV) (y:Int × Int × Int × Int × Int × Int × Int × Int × Int × Int × Int × Int) :
  aL N l y (out,(),4,bX S,P)=some (.inr (out,(),bX S,P)):=by
 have l4:decide ((4:Int) < 4)=false:=rfl
 simp only [aL,l4,cond_false,cond_true,kJ,kK,fY,ft,dX,dY,cO.cells,cO.bo,Bool.and_self,Bool.and_true,decide_true,Option.bind_some,Nat.beq_refl,List.length_map]
theorem Ds (k:Int × Int) (hk:-200000≤k.1∧k.1≤200000∧-200000≤k.2∧k.2≤200000):TX N k=some (k.1 - 1,k.2 - 1,1,k.1+1,k.2 - 1,-1,k.1,k.2,-1,k.1,k.2,1):=by
 rw [S9,jA (show _≤k.1 - 1∧k.1 - 1≤_ by omega),jA (show _≤k.2 - 1∧k.2 - 1≤_ by omega),jA (show _≤k.1+1∧k.1+1≤_ by omega)]
theorem ye (l:List aV) (hs:vb (ltOf ji) l) (hl:l.length≤1000000) (out:yY) (S P:List aV) (hP:P.length≤100000) (k:Int × Int) :
  aZ (aL N l (k.1 - 1,k.2 - 1,1,k.1+1,k.2 - 1,-1,k.1,k.2,-1,k.1,k.2,1)) N (out,(),0,bX (S++P),P)=some (out,(),bX (S++(mc k).foldl (de l S) P),(mc k).foldl (de l S) P):=by
 have i1:=kD l S P (k.1 - 1,k.2 - 1,1)
 have i2:=fun Q=>kD l S Q (k.1+1,k.2 - 1,-1)
 have i3:=fun Q=>kD l S Q (k.1,k.2,-1)
 generalize hy:(k.1 - 1,k.2 - 1,(1:Int),k.1+1,k.2 - 1,(-1:Int),k.1,k.2,(-1:Int),k.1,k.2,(1:Int))=y
 have e0:=OK hN l hs hl out S P (by omega) y
 have b0:(y.1,y.2.1,y.2.2.1)=(k.1 - 1,k.2 - 1,1):=by subst hy; rfl
 have b1:(y.2.2.2.1,y.2.2.2.2.1,y.2.2.2.2.2.1)=(k.1+1,k.2 - 1,-1):=by subst hy; rfl
 have b2:(y.2.2.2.2.2.2.1,y.2.2.2.2.2.2.2.1,y.2.2.2.2.2.2.2.2.1)=(k.1,k.2,-1):=by subst hy; rfl
 have b3:(y.2.2.2.2.2.2.2.2.2.1,y.2.2.2.2.2.2.2.2.2.2.1,y.2.2.2.2.2.2.2.2.2.2.2)=(k.1,k.2,1):=by subst hy; rfl
 rw [b0] at e0
 have ef:(mc k).foldl (de l S) P=de l S (de l S (de l S (de l S P (k.1 - 1,k.2 - 1,1)) (k.1+1,k.2 - 1,-1)) (k.1,k.2,-1)) (k.1,k.2,1):=rfl
 rw [ef]
 generalize de l S P (k.1 - 1,k.2 - 1,1)=P1 at *
 have e1:=OL hN l hs hl out S P1 (by omega) y
 rw [b1] at e1
 have j2:=i2 P1
 generalize de l S P1 (k.1+1,k.2 - 1,-1)=P2 at *
 have e2:=OM hN l hs hl out S P2 (by omega) y
 rw [b2] at e2
 have j3:=i3 P2
 generalize de l S P2 (k.1,k.2,-1)=P3 at *
 have e3:=ON hN l hs hl out S P3 (by omega) y
 rw [b3] at e3
 generalize de l S P3 (k.1,k.2,1)=P4 at *
 have e4:=OO hN l out (S++P4) P4 y
 obtain ⟨n,hn⟩:∃ n,N=n+5:=⟨N - 5,by unfold gU at hN; omega⟩
 have key:∀ m,m=n+5→aZ (aL N l y) m (out,(),0,bX (S++P),P)=some (out,(),bX (S++P4),P4):=by
  rintro m rfl
  rw [bf,e0,Option.bind_some,Sum.elim_inl,bf,e1,Option.bind_some,Sum.elim_inl,bf,e2,Option.bind_some,Sum.elim_inl,bf,e3,Option.bind_some,Sum.elim_inl,bf,e4]
  rfl
 exact key N hn
def Mj (k:Int × Int):Prop:=-200000≤k.1∧k.1≤200000∧-200000≤k.2∧k.2≤200000
theorem LB (l:List aV) (hs:vb (ltOf ji) l) (hl:l.length≤1000000) (out:yY) (S P:List aV) (hP:P.length≤100000) (k1 k2:Int × Int) (hk:Mj k1) :
  cw N l (k1.1,k1.2,k2.1,k2.2) (out,(),0,bX (S++P),P)=some (.inl (out,(),1,bX (S++(mc k1).foldl (de l S) P),(mc k1).foldl (de l S) P)):=by
 have l2:decide ((0:Int) < 2)=true:=rfl
 have z0:decide ((0:Int)=0)=true:=rfl
 have w1:IntKind.wrap .i64 ((0:Int)+1)=1:=rfl
 have q1:TX N (k1.1,k1.2)=some (k1.1 - 1,k1.2 - 1,1,k1.1+1,k1.2 - 1,-1,k1.1,k1.2,-1,k1.1,k1.2,1):=Ds hN k1 hk
 have q2:=ye hN l hs hl out S P hP k1
 generalize (mc k1).foldl (de l S) P=P1 at *
 simp only [cw,l2,z0,cond_true,cond_false,kJ,kK,fY,ft,dX,dY,cO.cells,cO.bo,Bool.and_self,Bool.and_true,decide_true,Option.bind_some,q1,q2,Nat.beq_refl,w1,List.length_map]
theorem LC (l:List aV) (hs:vb (ltOf ji) l) (hl:l.length≤1000000) (out:yY) (S P:List aV) (hP:P.length≤100000) (k1 k2:Int × Int) (hk:Mj k2) :
  cw N l (k1.1,k1.2,k2.1,k2.2) (out,(),1,bX (S++P),P)=some (.inl (out,(),2,bX (S++(mc k2).foldl (de l S) P),(mc k2).foldl (de l S) P)):=by
 have l2:decide ((1:Int) < 2)=true:=rfl
 have z0:decide ((1:Int)=0)=false:=rfl
 have z1:decide ((1:Int)=1)=true:=rfl
 have w1:IntKind.wrap .i64 ((1:Int)+1)=2:=rfl
 have q1:TX N (k2.1,k2.2)=some (k2.1 - 1,k2.2 - 1,1,k2.1+1,k2.2 - 1,-1,k2.1,k2.2,-1,k2.1,k2.2,1):=Ds hN k2 hk
 have q2:=ye hN l hs hl out S P hP k2
 generalize (mc k2).foldl (de l S) P=P1 at *
 simp only [cw,l2,z0,z1,cond_true,cond_false,kJ,kK,fY,ft,dX,dY,cO.cells,cO.bo,Bool.and_self,Bool.and_true,decide_true,Option.bind_some,q1,q2,Nat.beq_refl,w1,List.length_map]
theorem LD (l:List aV) (out:yY) (S P:List aV) (y:Int × Int × Int × Int) :
  cw N l y (out,(),2,bX S,P)=some (.inr (out,(),bX S,P)):=by
 have l2:decide ((2:Int) < 2)=false:=rfl
 simp only [cw,l2,cond_false,cond_true,kJ,kK,fY,ft,dX,dY,cO.cells,cO.bo,Bool.and_self,Bool.and_true,decide_true,Option.bind_some,Nat.beq_refl,List.length_map]
def oO (l S P:List aV) (b:aV):List aV:=(mc (eT b)).foldl (de l S) ((mc (dq b)).foldl (de l S) P)
omit hN in
theorem LF (l S P:List aV) (k:Int × Int):((mc k).foldl (de l S) P).length≤P.length+4:=by
 show (de l S (de l S (de l S (de l S P (k.1 - 1,k.2 - 1,1)) (k.1+1,k.2 - 1,-1)) (k.1,k.2,-1)) (k.1,k.2,1)).length≤_
 have i1:=kD l S P (k.1 - 1,k.2 - 1,1)
 generalize de l S P (k.1 - 1,k.2 - 1,1)=P1 at *
 have i2:=kD l S P1 (k.1+1,k.2 - 1,-1)
 generalize de l S P1 (k.1+1,k.2 - 1,-1)=P2 at *
 have i3:=kD l S P2 (k.1,k.2,-1)
 generalize de l S P2 (k.1,k.2,-1)=P3 at *
 have i4:=kD l S P3 (k.1,k.2,1)
 omega
theorem LG (l:List aV) (hs:vb (ltOf ji) l) (hl:l.length≤1000000) (out:yY) (S P:List aV) (hP:P.length≤50000) (b:aV) (h1:Mj (dq b)) (h2:Mj (eT b)) :
  aZ (cw N l (b.1,b.2.1,eT b)) N (out,(),0,bX (S++P),P)=some (out,(),bX (S++oO l S P b),oO l S P b):=by
 unfold oO
 have i1:=LF l S P (dq b)
 have e0:cw N l (b.1,b.2.1,eT b) (out,(),0,bX (S++P),P)=_:=LB hN l hs hl out S P (by omega) (dq b) (eT b) h1
 generalize (mc (dq b)).foldl (de l S) P=P1 at *
 have e1:cw N l (b.1,b.2.1,eT b) (out,(),1,bX (S++P1),P1)=_:=LC hN l hs hl out S P1 (by omega) (dq b) (eT b) h2
 generalize (mc (eT b)).foldl (de l S) P1=P2 at *
 have e2:=LD hN l out (S++P2) P2 (b.1,b.2.1,eT b)
 obtain ⟨n,hn⟩:∃ n,N=n+3:=⟨N - 3,by unfold gU at hN; omega⟩
 have key:∀ m,m=n+3→aZ (cw N l (b.1,b.2.1,eT b)) m (out,(),0,bX (S++P),P)=some (out,(),bX (S++P2),P2):=by
  rintro m rfl
  rw [bf,e0,Option.bind_some,Sum.elim_inl,bf,e1,Option.bind_some,Sum.elim_inl,bf,e2]
  rfl
 exact key N hn
theorem IC (l:List aV) (hs:vb (ltOf ji) l) (hl:l.length≤1000000) (out:yY) (S P:List aV) (hP:P.length≤50000) (i:Nat) (hi:i < P.length) (h1:Mj (dq P[i])) (h2:Mj (eT P[i])) :
  fJ N l (out,(),(i:Int),bX (S++P),P)=some (.inl (out,(),((i+1:Nat):Int),bX (S++oO l S P P[i]),oO l S P P[i])):=by
 have ne:((i:Int) == (P.length:Int))=false:=beq_false_of_ne (by omega)
 obtain ⟨a1,a2⟩:=yV P hi
 have i1:decide ((0:Int)≤(i:Int)∧(i:Int) < (P.length:Int))=true:=decide_eq_true (by omega)
 have i2:decide (i < P.length)=true:=decide_eq_true hi
 have q1:GK N (P[i].1,P[i].2.1,P[i].2.2)=some (P[i].1,P[i].2.1,eT P[i]):=xM N P[i]
 have q2:=LG hN l hs hl out S P hP P[i] h1 h2
 generalize oO l S P P[i]=P2 at *
 simp only [fJ,List.length_map,ne,cond_false,cond_true,i1,i2,Nat.zero_add,Int.toNat_natCast,a1,a2,q1,kJ,kK,fY,ft,dX,dY,cO.cells,cO.bo,Bool.and_self,Bool.and_true,decide_true,Option.bind_some,Nat.beq_refl,q2,dy (show i < 9223372036854775807 by omega)]
theorem LH (l:List aV) (out:yY) (S P:List aV) :
  fJ N l (out,(),(P.length:Int),bX S,P)=some (.inr (out,(),bX S,P)):=by
 have e:((P.length:Int) == (P.length:Int))=true:=beq_self_eq_true _
 simp only [fJ,List.length_map,e,cond_true,kJ,kK,fY,ft,dX,dY,cO.cells,cO.bo,Bool.and_self,Bool.and_true,decide_true,Option.bind_some,Nat.beq_refl]
end
end Go.Proofs.YtophnjjjmikmeaaGreat
