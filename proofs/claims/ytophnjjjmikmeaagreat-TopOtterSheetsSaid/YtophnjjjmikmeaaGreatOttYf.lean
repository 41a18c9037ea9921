/- Plain law: TopOtterSheets. -/
import Derived.Test.YtophnjjjmikmeaaGreatOttYe
import Derived.Test.YtophnjjjmikmeaaGreatOttTs
import Derived.Test.YtophnjjjmikmeaaGreatAmKM
set_option linter.all false
namespace Go.Proofs.YtophnjjjmikmeaaGreat
open Go Go.Am Go.Sort
set_option maxRecDepth 100000
abbrev T0:EK:=.st (.cons 0 1 false .int (.cons 1 1 false .int .nil))
abbrev nkT (k:Int × Int):AV:=.agg [.int .i64 k.1,.int .i64 k.2]
theorem jM:iP T0 nkT AV.bool aM where
 key:=LN
 pair:=fun _=>rfl
 exact:=fun _=>rfl
def kM (l:List (Int × Int)):List ((Int × Int) × Bool):=l.foldl (fun M m=>BQ m true M) []
theorem LO (l:List (Int × Int)) (m:Int × Int):kM (l++[m])=BQ m true (kM l):=by
 unfold kM
 rw [List.foldl_append]
 rfl
theorem Qe (l:List (Int × Int)) (k:Int × Int):(getM k (kM l)).getD false=decide (k∈l):=by
 have:∀ (l:List (Int × Int)) (M:List ((Int × Int) × Bool)),(getM k (l.foldl (fun M m=>BQ m true M) M)).getD false=(decide (k∈l) || (getM k M).getD false):=by
  intro l
  induction l with
  | nil=>intro M; simp
  | cons b l ih=>
   intro M
   rw [List.foldl_cons,ih,BR]
   by_cases e:k=b
   ·simp [e]
   ·simp [e,beq_false_of_ne e]
 have:=this l []
 simpa [kM,getM] using this
theorem kk (a b:Int) (M:List ((Int × Int) × Bool)):dc T0 (AV.agg [AV.int .i64 a,AV.int .i64 b]) (ae (List.map aM M))=true:=jM.keys (a,b) M
theorem kg (a b:Int) (l:List (Int × Int)):b8 T0 (AV.agg [AV.int .i64 a,AV.int .i64 b]) (AV.bool false) (ae (List.map aM (kM l)))=AV.bool (decide ((a,b)∈l)):=by
 have:=jM.getD (a,b) false (kM l)
 rw [Qe] at this
 exact this
theorem kp (a b:Int) (l:List (Int × Int)):bz T0 (AV.agg [AV.int .i64 a,AV.int .i64 b]) (AV.bool true) (ae (List.map aM (kM l)))=ae (List.map aM (kM (l++[(a,b)]))):=by
 have:=jM.put (a,b) true (kM l)
 rw [← LO] at this
 exact this
theorem yJ {α:Type} (l:List α) {k:Nat} (hk:k < l.length):l.take (k+1)=l.take k++[l[k]]:=by
 rw [List.take_add_one,List.getElem?_eq_getElem hk]; rfl
theorem DI (l:List cB) (b:cB):oq (l++[b])=oq l++[(b.1,b.2.1+1)]++[(b.1+b.2.2,b.2.1)]:=by
 unfold oq
 rw [List.flatMap_append]
 simp
section
variable {N:Nat} (hN:gQ N)
include hN
theorem LP (W:List (Int × Int)) (e:Int) (hW:W.length≤100000):a6 (V:=Int × (List ((Int × Int) × Bool))) (X:=(List ((Int × Int) × Bool))) (kY N (W,e)) N (0,[])=some (kM W):=by
 have key:=df (rd:=kY N (W,e)) W.length (fun k=>((k:Int),kM (W.take k))) (kM W) (fun k hk=>by
  rw [yJ W hk]
  simp only [kY,List.length_map,ck hk,bV hk,Int.toNat_natCast,dv n57 W k hk,Pv,Pw,Bool.and_self,cond_true,kk,kp,ot,ov,jM.cells,jM.bZ,Bool.and_true,Option.bind_some,ea (show k < 9223372036854775807 by omega)]) (by
  have tk:W.take W.length=W:=List.take_length
  simp only [kY,List.length_map,cT,cond_false,cond_true,tk,ot,ov,jM.cells,jM.bZ,Bool.and_true,Option.bind_some]) N 0 (Nat.zero_le _) (by unfold gQ at hN; omega)
 exact key
theorem SX (c W:List (Int × Int)) (e:Int) (hc:c.length≤100000) (h:∀ m∈c,m∈W):a6 (V:=Int × (List ((Int × Int) × Bool))) (X:=(Bool × (List ((Int × Int) × Bool))) ⊕ ((List ((Int × Int) × Bool)))) (kZ N (c,e)) N (0,kM W)=some (.inr (kM W)):=by
 have key:=df (rd:=kZ N (c,e)) c.length (fun k=>((k:Int),kM W)) (.inr (kM W)) (fun k hk=>by
  have hm:decide ((c[k].1,c[k].2)∈W)=true:=decide_eq_true (h _ (List.getElem_mem hk))
  have fb:∀ x:Bool,aq.fits p4 (AV.bool x)=true:=fun _=>rfl
  have db:∀ x:Bool,d4 (AV.bool x)=x:=fun _=>rfl
  simp only [kZ,List.length_map,ck hk,bV hk,Int.toNat_natCast,dv n46 c k hk,VC,VD,Bool.and_self,cond_true,kk,kg,fb,db,hm,Bool.not_true,cond_false,ot,ov,jM.cells,jM.bZ,Bool.and_true,Option.bind_some,ea (show k < 9223372036854775807 by omega)]) (by
  simp only [kZ,List.length_map,cT,cond_false,cond_true,ot,ov,jM.cells,jM.bZ,Bool.and_true,Option.bind_some]) N 0 (Nat.zero_le _) (by unfold gQ at hN; omega)
 exact key
theorem LQ (S l:List cB) (e1 e2:Int) (W:List (Int × Int)) (hS:ky S=0) (hl:l.length≤100000) (h:∀ b∈l,b∈S):a6 (V:=Int × (List ((Int × Int) × Bool)) × (List ((Int × Int) × Bool))) (X:=(Bool × (List ((Int × Int) × Bool)) × (List ((Int × Int) × Bool))) ⊕ ((List ((Int × Int) × Bool)) × (List ((Int × Int) × Bool)))) (jL N (S,e1) (l,e2)) N (0,kM W,[])=some (.inr (kM W,kM (oq l))):=by
 obtain ⟨-,hv,-⟩:=iu hS
 have key:=df (rd:=jL N (S,e1) (l,e2)) l.length (fun k=>((k:Int),kM W,kM (oq (l.take k)))) (.inr (kM W,kM (oq l))) (fun k hk=>by
  have hb:=h _ (List.getElem_mem hk)
  have XS:=hv _ hb
  have Hn:=EC XS
  have EB:=lQ Hn.1
  simp only [sU] at EB
  have w1:IntKind.wrap .i64 (l[k].2.1+1)=l[k].2.1+1:=gf (by omega)
  have w2:IntKind.wrap .i64 (l[k].1+l[k].2.2)=l[k].1+l[k].2.2:=gf (by omega)
  have t22:SL N (S,(l[k].1,l[k].2.1,l[k].2.2))=some (true,0):=by
   have:=LG hN S hS l[k] XS
   rw [decide_eq_true hb] at this
   exact this
  rw [yJ l hk,DI]
  simp only [jL,List.length_map,ck hk,bV hk,Int.toNat_natCast,dv n59 l k hk,xo,xp,Bool.and_self,cond_true,dF,dG,Bool.and_true,t22,bne_self_eq_false,Bool.not_true,cond_false,kk,kp,w1,w2,ot,ov,jM.cells,jM.bZ,Option.bind_some,ea (show k < 9223372036854775807 by omega)]) (by
  have tk:l.take l.length=l:=List.take_length
  simp only [jL,List.length_map,cT,cond_false,cond_true,tk,ot,ov,jM.cells,jM.bZ,Bool.and_self,Bool.and_true,Option.bind_some]) N 0 (Nat.zero_le _) (by unfold gQ at hN; omega)
 exact key
omit hN in
theorem F6 {α:Type} (P:α→Bool) (l:List α) {k:Nat} (hk:k < l.length) (h:P l[k]=true):∃ bM:((l.take k).filter P).length < (l.filter P).length,(l.filter P)[((l.take k).filter P).length]=l[k]:=by
 have e:l.filter P=(l.take k).filter P++(l[k] :: (l.drop (k+1)).filter P):=by
  conv=>lhs; rw [← List.take_append_drop k l,List.filter_append,List.drop_eq_getElem_cons hk,List.filter_cons,if_pos h]
 refine ⟨by rw [e,List.length_append,List.length_cons]; omega,?_⟩
 simp only [e]
 rw [List.getElem_append_right (Nat.le_refl _)]
 simp
theorem LR (W H G:List (Int × Int)) (e1 e2:Int) (hW:W.length≤100000):a6 (V:=Int × Int × (List ((Int × Int) × Bool)) × (List ((Int × Int) × Bool))) (X:=(Bool × (List ((Int × Int) × Bool)) × (List ((Int × Int) × Bool))) ⊕ (Int × (List ((Int × Int) × Bool)) × (List ((Int × Int) × Bool)))) (gT N (W,e1) (W.filter fun m=>!decide (m∈G),e2)) N (0,0,kM H,kM G)=some (.inr (((W.filter fun m=>!decide (m∈G)).length:Int),kM H,kM G)):=by
 generalize hP:(fun m=>!decide (m∈G):Int × Int→Bool)=P
 have key:=df (rd:=gT N (W,e1) (W.filter P,e2)) W.length (fun k=>((((W.take k).filter P).length:Int),(k:Int),kM H,kM G)) (.inr (((W.filter P).length:Int),kM H,kM G)) (fun k hk=>by
  have tl:((W.take k).filter P).length≤k:=lX P W k
  have fb:∀ x:Bool,aq.fits p4 (AV.bool x)=true:=fun _=>rfl
  have db:∀ x:Bool,d4 (AV.bool x)=x:=fun _=>rfl
  have XU:P W[k]=!decide ((W[k].1,W[k].2)∈G):=by rw [← hP]
  rw [sV P W hk,XU]
  by_cases hg:(W[k].1,W[k].2)∈G
  ·have hd:decide ((W[k].1,W[k].2)∈G)=true:=decide_eq_true hg
   simp only [gT,List.length_map,ck hk,bV hk,Int.toNat_natCast,dv n57 W k hk,Pv,Pw,Bool.and_self,cond_true,kk,kg,fb,db,hd,Bool.not_true,cond_false,ot,ov,jM.cells,jM.bZ,Bool.and_true,Option.bind_some,Sum.elim_inl,Bool.false_eq_true,if_false,List.append_nil,ea (show k < 9223372036854775807 by omega)]
  ·have hd:decide ((W[k].1,W[k].2)∈G)=false:=decide_eq_false hg
   obtain ⟨bM,lf⟩:=F6 P W hk (by rw [XU,hd]; rfl)
   have qS:decide ((((W.take k).filter P).length:Int)≥((W.filter P).length:Int))=false:=decide_eq_false (by omega)
   have ws:IntKind.wrap .i64 ((((W.take k).filter P).length:Int)+1)=(((W.take k).filter P).length+1:Nat):=by rw [gf (by omega)]; omega
   simp only [gT,List.length_map,ck hk,bV hk,Int.toNat_natCast,dv n57 W k hk,Pv,Pw,Bool.and_self,cond_true,kk,kg,fb,db,hd,Bool.not_false,cond_false,ot,ov,jM.cells,jM.bZ,Bool.and_true,Option.bind_some,Sum.elim_inl,if_true,qS,bV bM,dv n57 (W.filter P) _ bM,lf,beq_self_eq_true,Bool.not_true,ws,List.length_append,List.length_cons,List.length_nil,ea (show k < 9223372036854775807 by omega)]) (by
  have tk:W.take W.length=W:=List.take_length
  simp only [gT,List.length_map,cT,cond_false,cond_true,tk,ot,ov,jM.cells,jM.bZ,Bool.and_self,Bool.and_true,Option.bind_some]) N 0 (Nat.zero_le _) (by unfold gQ at hN; omega)
 exact key
end
end Go.Proofs.YtophnjjjmikmeaaGreat
