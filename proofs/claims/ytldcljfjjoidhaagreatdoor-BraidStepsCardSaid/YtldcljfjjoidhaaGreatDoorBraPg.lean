/- Plain laws: sameness,sizes,twines. -/
import Derived.Test.YtldcljfjjoidhaaGreatDoorBraPf
set_option linter.all false
namespace Go.Proofs.YtldcljfjjoidhaaGreatDoor
open Go Go.Am Go.Sort
set_option maxRecDepth 100000
section
variable {N:Nat} (hN:fq N)
include hN
theorem KJ (l:List dR) (hl:l.length≤1000000000):Yx N (l,l)=some true:=by
 have key:=bH (rd:=wY N l l) l.length (fun k=>(k:Int)) (.inr ()) (fun k hk=>by
  obtain ⟨a1,a2⟩:=jg l hk
  simp only [wY,List.length_map,Int.toNat_natCast,bc hk,aI hk,a1,a2,Bool.and_self,cond_true,beq_self_eq_true,Bool.not_true,cond_false,bk (show k < 9223372036854775807 by omega)]) (by
  simp only [wY,List.length_map,bq,cond_false]) N 0 (Nat.zero_le _) (by unfold fq at hN; omega)
 have mD:az (wY N l l) N 0=some (.inr ()):=key
 rw [TN,mD]
 simp only [bne_self_eq_false,cond_false,Option.bind_some,Sum.elim_inr]
theorem at3 (l:List Int) {k:Nat} (hk:k < l.length):d3 (ah (List.map n3 l) k)=l[k]∧aj.fits p3 (ah (List.map n3 l) k)=true:=by
 rw [fV n3 l k hk]
 exact ⟨Yi _,Yh _⟩
theorem Ua (l:List da) (c:da):List.map bZ l++[AV.agg [AV.int .i64 c.1,AV.int .i64 c.2.1,AV.bool c.2.2.1,AV.bool c.2.2.2.1,AV.int .i64 c.2.2.2.2]]=List.map bZ (l++[c]):=by rw [List.map_append]; rfl
theorem Ub (p:List da) (hp:p.length≤1000000):TA N p=some p:=by
 have key:=bH (rd:=wS N p) p.length (fun k=>(p.take k,(k:Int))) p (fun k hk=>by
  obtain ⟨a1,a2⟩:=D6 hN p hk
  have hl:(p.take k).length=k:=by rw [List.length_take]; omega
  have hb:decide ((k+1) * 32≤140737488355328)=true:=decide_eq_true (by omega)
  have sn:=Ua hN (p.take k) p[k]
  have es:p.take (k+1)=p.take k++[p[k]]:=by rw [List.take_add_one,List.getElem?_eq_getElem hk]; rfl
  rw [es]
  simp only [wS,List.length_map,Int.toNat_natCast,bc hk,aI hk,a1,a2,Bool.and_self,Bool.and_true,cond_true,decide_true,hl,hb,sn,Ap,Aq,Option.bind_some,List.length_append,List.length_singleton,bk (show k < 9223372036854775807 by omega)]) (by
  simp only [wS,List.length_map,bq,cond_false,Ap,Aq,Bool.and_true,cond_true,Option.bind_some,decide_true,List.take_length]) N 0 (Nat.zero_le _) (by unfold fq at hN; omega)
 have mD:az (wS N p) N ([],0)=some p:=key
 have z:((bif (allFit (aj.fits nV) ([]:List AV)&&true) then some ((List.map d90 ([]:List AV)),0) else none:Option ((List (Int × Int × Bool × Bool × Int)) × Int)).bind fun w6=>bif (decide (0=(List.map bZ w6.1).length)&&true) then some w6 else none)=some ([],0):=rfl
 rw [TC,z,Option.bind_some,mD,Option.bind_some]
 simp only [Ap,Aq,cond_true]
def su (p:List da) (i:Nat):Bool:=i == 0 || !decide (ax (p.getD (i - 1) (0,0,false,false,0)) (p.getD (i - 1) (0,0,false,false,0)).2.2.2.2.toNat=((p.getD i (0,0,false,false,0)).1,(p.getD i (0,0,false,false,0)).2.1))
def q9 (p:List da) (k:Nat):List Int:=((List.range k).filter (su p)).map fun i:Nat=>(i:Int)
theorem xd (p:List da) (k:Nat):q9 p (k+1)=if su p k then q9 p k++[(k:Int)] else q9 p k:=by
 unfold q9
 rw [List.range_succ,List.filter_append,List.map_append]
 cases h:su p k <;> simp [h]
theorem Fz (p:List da) (k:Nat):(q9 p k).length≤k:=by
 unfold q9
 rw [List.length_map]
 have:=List.length_filter_le (su p) (List.range k)
 rwa [List.length_range] at this
theorem QM (l:List Int) (x:Int):List.map n3 l++[AV.int .i64 x]=List.map n3 (l++[x]):=by rw [List.map_append]; rfl
theorem Px (q:Int × Int) (x y:Int):(!((q.1 == x)&&(q.2 == y)))=!decide (q=(x,y)):=by
 congr 1
 rw [Bool.eq_iff_iff]
 simp [Prod.ext_iff]
theorem Uc (p:List da) (h:∀ c∈p,cr c=0) (hp:p.length≤1000000):YA N p=some (q9 p p.length):=by
 have key:=bH (rd:=ss N p) p.length (fun k=>(q9 p k,(k:Int))) (q9 p p.length) (fun k hk=>by
  obtain ⟨a1,a2⟩:=Ee hN p hk
  have hl:=Fz hN p k
  have hb:decide (((q9 p k).length+1) * 8≤140737488355328)=true:=decide_eq_true (by omega)
  rw [xd hN]
  by_cases h0:k=0
  ·subst h0
   have e:su p 0=true:=rfl
   have b0:((0:Int) == 0)=true:=rfl
   have w1:IntKind.wrap .i64 (0+1)=1:=rfl
   have i0:decide ((0:Int)≤0∧(0:Int) < (p.length:Int))=true:=decide_eq_true (by omega)
   have l0:decide ((0:Int) < (p.length:Int))=true:=decide_eq_true (by omega)
   rw [e,if_pos rfl]
   simp only [ss,List.length_map,Int.natCast_zero,Int.toNat_zero,l0,i0,a1,a2,b0,Bool.and_self,Bool.and_true,cond_true,decide_true,hb,QM hN,Su,Sv,Option.bind_some,List.length_append,List.length_singleton,w1]
   rfl
  ·obtain ⟨j,rfl⟩:∃ j,k=j+1:=⟨k - 1,by omega⟩
   have hj:j < p.length:=by omega
   obtain ⟨b1,b2⟩:=Ee hN p hj
   have hm:IntKind.wrap .i64 (((j+1:Nat):Int) - 1)=(j:Int):=by rw [gY ⟨by omega,by omega⟩]; omega
   have b0:(((j+1:Nat):Int) == 0)=false:=beq_false_of_ne (by omega)
   have Kf:=Cg hN p[j] (h p[j] (List.getElem_mem hj))
   have e:su p (j+1)=!decide (ax p[j] p[j].2.2.2.2.toNat=(p[j+1].1,p[j+1].2.1)):=by
    unfold su
    have g1:p.getD (j+1 - 1) (0,0,false,false,0)=p[j]:=by simp [hj]
    have g2:p.getD (j+1) (0,0,false,false,0)=p[j+1]:=by simp [hk]
    rw [g1,g2]
    rfl
   rw [e]
   simp only [ss,List.length_map,Int.toNat_natCast,bc hk,aI hk,aI hj,hm,a1,a2,b1,b2,b0,Bool.and_self,Bool.and_true,cond_true,cond_false,beq_self_eq_true,Kf,Px hN,Su,Sv,decide_true,Option.bind_some]
   cases decide (ax p[j] p[j].2.2.2.2.toNat=(p[j+1].1,p[j+1].2.1)) with
   | true=>simp only [Bool.not_true,cond_false,Bool.false_eq_true,if_false,decide_true,Su,Sv,Option.bind_some,cond_true,Bool.and_true,Bool.and_self,bk (show j+1 < 9223372036854775807 by omega)]
   | false=>simp only [Bool.not_false,cond_true,if_true,hb,QM hN,Su,Sv,decide_true,List.length_append,List.length_singleton,Option.bind_some,Bool.and_true,Bool.and_self,bk (show j+1 < 9223372036854775807 by omega)]) (by
  simp only [ss,List.length_map,bq,cond_false,Su,Sv,Bool.and_true,cond_true,Option.bind_some,decide_true]) N 0 (Nat.zero_le _) (by unfold fq at hN; omega)
 have mD:az (ss N p) N ([],0)=_:=key
 have z:((bif (allFit (aj.fits p3) ([]:List AV)&&true) then some ((List.map d3 ([]:List AV)),0) else none:Option ((List Int) × Int)).bind fun Oa=>bif (decide (0=(List.map n3 Oa.1).length)&&true) then some Oa else none)=some ([],0):=rfl
 rw [TU,z,Option.bind_some,mD,Option.bind_some]
 simp only [Su,Sv,cond_true]
theorem Ud (p:List da) (y:Int) (hy:Lq N p=some y) (h:y=0→∀ c∈p,cr c=0) (hp:p.length≤1000000):YB N p=some (if y=0 then (q9 p p.length,0) else ([],y)):=by
 have z:((bif (allFit (aj.fits nV) (List.map bZ p)&&true) then some (List.map d90 (List.map bZ p)) else none:Option ((List (Int × Int × Bool × Bool × Int)))))=some p:=by simp only [Ap,Aq,Bool.and_true,cond_true]
 rw [TW,z,Option.bind_some,hy,Option.bind_some,GY]
 by_cases h0:y=0
 ·rw [if_pos h0,if_pos h0,Option.bind_some,Uc hN p (h h0) hp,Option.bind_some]
  simp only [Su,Sv,Bool.and_self,cond_true]
 ·rw [if_neg h0,if_neg h0]
  rfl
end
end Go.Proofs.YtldcljfjjoidhaaGreatDoor
