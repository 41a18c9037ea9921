/- Plain laws: the law of compiled programs. -/
import Derived.Test.YtldcljfjjoidhaaGreatDoorSeamKH
import Derived.Test.YtldcljfjjoidhaaGreatDoorSeamKF
import Derived.Test.YtldcljfjjoidhaaGreatDoorSeamKG
import Derived.Test.YtldcljfjjoidhaaGreatDoorBraTk8
import Derived.Test.YtldcljfjjoidhaaGreatDoorSeamKE
import Derived.Test.YtldcljfjjoidhaaGreatDoorBraTi
set_option linter.all false
namespace Go.Proofs.YtldcljfjjoidhaaGreatDoor
open Go Go.Am Go.Sort
open List (map)
open Int (toNat)
open Go.IntKind (wrap)
open Go.Am.aO (fits)
set_option maxRecDepth 100000
section
variable {N:Nat} (hN:e7 N)
include hN
theorem Vc (l:List aQ) (hl:l.length≤1000000):VL N l=some l:=by
 rw [UF]
 have hb:decide ((0+l.length) * 24≤140737488355328)=true:=decide_eq_true (by omega)
 cases l with
 | nil=>rfl
 | cons x l=>
  have e:List.isEmpty (map ae (x :: l))=false:=rfl
  simp only [e,cond_false,List.length_map,hb,cond_true,List.nil_append,cn,cj,Bool.and_true,Option.bind_some]
theorem Ip (l:List aQ):∃ b,Zj N l=some b∧(b=true→l.length≤40):=by
 rw [UA]
 simp only [List.length_map]
 by_cases h:l.length > 40
 ·exact ⟨false,by rw [decide_eq_true (by omega)]; rfl,fun h=>by cases h⟩
 ·rw [decide_eq_false (by omega),cond_false]
  by_cases h0:l=[]
  ·subst h0
   exact ⟨true,rfl,fun _=>by simp⟩
  ·have hl:0 < l.length:=List.length_pos_iff.2 h0
   have z:(((l.length:Nat):Int) == 0)=false:=beq_false_of_ne (by omega)
   obtain ⟨a1,a2⟩:=eF l hl
   obtain ⟨b1,b2⟩:=eF l (k:=l.length - 1) (by omega)
   have VN:ak (aj (map ae l) (toNat 0))=l[0]:=a1
   have VO:fits au (aj (map ae l) (toNat 0))=true:=a2
   have w1:wrap .i64 (((l.length:Nat):Int) - 1)=((l.length - 1:Nat):Int):=by rw [ki (by omega)]; omega
   have i0:decide ((0:Int)≤0∧0 < (l.length:Int))=true:=decide_eq_true (by omega)
   simp only [z,cond_false,cn,cj,Bool.and_true,cond_true,Option.bind_some,GI hN,H0,w1,ay (show l.length - 1 < l.length by omega),Int.toNat_natCast,b1,b2,VN,VO,i0,Bool.and_self]
   by_cases hc:dH l=0
   ·rw [if_pos hc]
    exact ⟨_,rfl,fun _=>by omega⟩
   ·rw [if_neg hc]
    exact ⟨_,rfl,fun _=>by omega⟩
end
end Go.Proofs.YtldcljfjjoidhaaGreatDoor
namespace Go.Proofs.YtldcljfjjoidhaaGreatDoor
open Go Go.Am Go.Sort
open List (map)
open Int (toNat)
open Go.IntKind (wrap)
open Go.Am.aO (fits)
set_option maxRecDepth 100000
def Bv (rows:List eQ) (j:Nat):Int × Int:=(wrap .i64 ((rows.getD (j+1) (0,0,0)).2.1 - (rows.getD j (0,0,0)).2.1),wrap .i64 ((rows.getD (j+1) (0,0,0)).2.2 - (rows.getD j (0,0,0)).2.2))
def RV (rows:List eQ):List XA:=(List.range (rows.length - 1)).map (Bv rows)
section
variable {N:Nat} (hN:e7 N)
include hN
theorem Vd (y:List eQ × Int) (hl:y.1.length≤1000000):aN (sk N y) N ([],1)=some (RV y.1):=by
 have key:=fa (rd:=sk N y) (y.1.length - 1) (fun k=>((List.range k).map (Bv y.1),(k:Int)+1)) (RV y.1) (fun k hk=>by
  have yY:k < y.1.length:=by omega
  have BM:k+1 < y.1.length:=by omega
  obtain ⟨a1,a2⟩:=GD y.1 yY
  obtain ⟨b1,b2⟩:=GD y.1 BM
  have g1:y.1.getD k (0,0,0)=y.1[k]:=by simp [yY]
  have g2:y.1.getD (k+1) (0,0,0)=y.1[k+1]:=by simp [BM]
  have e1:(k:Int)+1=((k+1:Nat):Int):=by omega
  have w1:wrap .i64 (((k+1:Nat):Int) - 1)=(k:Int):=by rw [ki (by omega)]; omega
  have w2:wrap .i64 (((k+1:Nat):Int)+1)=((k+1:Nat):Int)+1:=ki (by omega)
  have ll:((List.range k).map (Bv y.1)).length=k:=by simp
  have hb:decide ((k+1) * 16≤140737488355328)=true:=decide_eq_true (by omega)
  have es:(List.range (k+1)).map (Bv y.1)=(List.range k).map (Bv y.1)++[Bv y.1 k]:=by rw [List.range_succ,List.map_append]; rfl
  have sn:∀ s:List XA,map dv s++[AV.agg [AV.int .i64 (wrap .i64 (y.1[k+1].2.1 - y.1[k].2.1)),AV.int .i64 (wrap .i64 (y.1[k+1].2.2 - y.1[k].2.2))]]=map dv (s++[Bv y.1 k]):=fun s=>by
   rw [List.map_append]
   unfold Bv
   rw [g1,g2]
   rfl
  rw [es]
  generalize (List.range k).map (Bv y.1)=s at *
  generalize Bv y.1 k=g at *
  simp only [e1]
  simp only [sk,sj,List.length_map,aX BM,ay BM,ay yY,w1,Int.toNat_natCast,a1,a2,b1,b2,ll,hb,sn,Bp,Bq,List.length_append,List.length_singleton,Bool.and_self,Bool.and_true,cond_true,decide_true,Option.bind_some,w2]) (by
  have sA:decide (((y.1.length - 1:Nat):Int)+1 < (y.1.length:Int))=false:=decide_eq_false (by omega)
  simp only [sk,sj,List.length_map,sA,cond_false,cond_true,Bp,Bq,Bool.and_self,Bool.and_true,decide_true,Option.bind_some]
  rfl) N 0 (Nat.zero_le _) (by unfold e7 at hN; omega)
 exact key
theorem Ve (l:List eQ) (hl:l.length≤1000000):aN (yh N l) N ([],1)=some (RV l):=by
 have key:=fa (rd:=yh N l) (l.length - 1) (fun k=>((List.range k).map (Bv l),(k:Int)+1)) (RV l) (fun k hk=>by
  have yY:k < l.length:=by omega
  have BM:k+1 < l.length:=by omega
  obtain ⟨a1,a2⟩:=Mc l yY
  obtain ⟨b1,b2⟩:=Mc l BM
  have g1:l.getD k (0,0,0)=l[k]:=by simp [yY]
  have g2:l.getD (k+1) (0,0,0)=l[k+1]:=by simp [BM]
  have e1:(k:Int)+1=((k+1:Nat):Int):=by omega
  have w1:wrap .i64 (((k+1:Nat):Int) - 1)=(k:Int):=by rw [ki (by omega)]; omega
  have w2:wrap .i64 (((k+1:Nat):Int)+1)=((k+1:Nat):Int)+1:=ki (by omega)
  have ll:((List.range k).map (Bv l)).length=k:=by simp
  have hb:decide ((k+1) * 16≤140737488355328)=true:=decide_eq_true (by omega)
  have es:(List.range (k+1)).map (Bv l)=(List.range k).map (Bv l)++[Bv l k]:=by rw [List.range_succ,List.map_append]; rfl
  have sn:∀ s:List XA,map dv s++[AV.agg [AV.int .i64 (wrap .i64 (l[k+1].2.1 - l[k].2.1)),AV.int .i64 (wrap .i64 (l[k+1].2.2 - l[k].2.2))]]=map dv (s++[Bv l k]):=fun s=>by
   rw [List.map_append]
   unfold Bv
   rw [g1,g2]
   rfl
  rw [es]
  generalize (List.range k).map (Bv l)=s at *
  generalize Bv l k=g at *
  simp only [e1]
  simp only [yh,vv,List.length_map,aX BM,ay BM,ay yY,w1,Int.toNat_natCast,a1,a2,b1,b2,ll,hb,sn,Bp,Bq,List.length_append,List.length_singleton,Bool.and_self,Bool.and_true,cond_true,decide_true,Option.bind_some,w2]) (by
  have sA:decide (((l.length - 1:Nat):Int)+1 < (l.length:Int))=false:=decide_eq_false (by omega)
  simp only [yh,vv,List.length_map,sA,cond_false,cond_true,Bp,Bq,Bool.and_self,Bool.and_true,decide_true,Option.bind_some]
  rfl) N 0 (Nat.zero_le _) (by unfold e7 at hN; omega)
 exact key
theorem Vf (l:List aQ):Zl N l=some (if (ga l).2=0 then (RV (ga l).1,0) else ([],(ga l).2)):=by
 rw [UH]
 have z:((bif (allFit (fits uy) ([]:List AV)) then some ((map j8 ([]:List AV)),1) else none:Option (List XA × Int)).bind fun w8=>bif decide (0=w8.1.length) then some w8 else none)=some ([],1):=rfl
 simp only [cn,cj,Bool.and_true,cond_true,Option.bind_some,Ak hN,H0,List.length_map,z,Vd hN (ga l) (Dy l).2.1,Bp,Bq]
 by_cases h:(ga l).2=0
 ·rw [if_pos h,if_pos h]
 ·rw [if_neg h,if_neg h]; rfl
theorem Vg (rows:List eQ) (hl:rows.length≤1000000):Zq N rows=some (RV rows):=by
 rw [UX]
 have z:((bif (allFit (fits uy) ([]:List AV)) then some ((map j8 ([]:List AV)),1) else none:Option (List XA × Int)).bind fun w8=>bif decide (0=w8.1.length) then some w8 else none)=some ([],1):=rfl
 simp only [Bool.and_true,Option.bind_some,List.length_map,z,Ve hN rows hl,Bp,Bq,cond_true]
theorem Bw (rows:List eQ) (hl:rows.length≤1000000):Zs N rows=some rows:=by
 have z:((bif (allFit (fits eK) ([]:List AV)) then some ((map cI ([]:List AV)),0) else none:Option (List eQ × Int)).bind fun w6=>bif decide (0=w6.1.length) then some w6 else none)=some ([],0):=rfl
 have key:aN (Bs N rows) N ([],0)=some (rows.map id):=abT rows id (fun k hk s hs=>by
  obtain ⟨a1,a2⟩:=GD rows hk
  generalize rows[k]=c at *
  have hb:decide ((k+1) * 24≤140737488355328)=true:=decide_eq_true (by omega)
  have sn:map aC s++[AV.agg [AV.int .i64 c.1,AV.int .i64 c.2.1,AV.int .i64 c.2.2]]=map aC (s++[c]):=by rw [List.map_append]; rfl
  simp only [Bs,List.length_map,aX hk,ay hk,Int.toNat_natCast,a1,a2,Bool.and_self,cond_true,Option.bind_some,hs,hb,decide_true,sn,jQ,jR,Bool.and_true,List.length_append,List.length_singleton,bN (show k < 9223372036854775807 by omega)]
  rfl) (fun s hs=>by
  simp only [Bs,List.length_map,bJ,cond_false,jQ,jR,Bool.and_self,Bool.and_true,decide_true,cond_true,Option.bind_some]) N (by unfold e7 at hN; omega)
 rw [List.map_id] at key
 rw [U1]
 simp only [Bool.and_true,Option.bind_some,List.length_map,z,key,jQ,jR,cond_true]
theorem yu (l:List eQ) (hl:l.length≤1000000):Zr N (l,l)=some true:=by
 have key:=fa (rd:=yi N l l) l.length (fun k=>(k:Int)) (.inr ()) (fun k hk=>by
  obtain ⟨a1,a2⟩:=Mc l hk
  simp only [yi,List.length_map,Int.toNat_natCast,aX hk,ay hk,a1,a2,Bool.and_self,cond_true,beq_self_eq_true,Bool.not_true,cond_false,bN (show k < 9223372036854775807 by omega)]) (by
  simp only [yi,List.length_map,bJ,cond_false]) N 0 (Nat.zero_le _) (by unfold e7 at hN; omega)
 have qH:aN (yi N l l) N 0=some (.inr ()):=key
 rw [UZ,qH]
 simp only [bne_self_eq_false,cond_false,Option.bind_some,Sum.elim_inr]
theorem yw (l:List XA) (hl:l.length≤1000000):Zt N (l,l)=some true:=by
 have key:=fa (rd:=yj N l l) l.length (fun k=>(k:Int)) (.inr ()) (fun k hk=>by
  obtain ⟨a1,a2⟩:=abU l hk
  simp only [yj,List.length_map,Int.toNat_natCast,aX hk,ay hk,a1,a2,Bool.and_self,cond_true,beq_self_eq_true,Bool.not_true,cond_false,bN (show k < 9223372036854775807 by omega)]) (by
  simp only [yj,List.length_map,bJ,cond_false]) N 0 (Nat.zero_le _) (by unfold e7 at hN; omega)
 have qH:aN (yj N l l) N 0=some (.inr ()):=key
 rw [U3,qH]
 simp only [bne_self_eq_false,cond_false,Option.bind_some,Sum.elim_inr]
theorem QO (m:Int) (l:List aQ):T3 m N l=some true:=by
 have hT:∀ u,Zd N u=some true:=fun _=>rfl
 obtain ⟨b0,hb0,Uc⟩:=Ip hN l
 rw [Yt]
 simp only [cn,cj,Bool.and_true,cond_true,Option.bind_some,hb0]
 cases b0 with
 | false=>simp only [Bool.not_false,cond_true,hT,Option.bind_some]
 | true=>
  have hl:=Uc rfl
  obtain ⟨x1,x2,x3⟩:=Dy l
  have gl:∀ r:List eQ,r.length≤1000000→(RV r).length≤1000000:=fun r hr=>by unfold RV; rw [List.length_map,List.length_range]; omega
  simp only [Bool.not_true,cond_false,cn,cj,Bool.and_true,cond_true,Option.bind_some,Vc hN l (by omega),Ak hN,Vf hN,My hN,GI hN]
  by_cases h:dH l=0
  ·have eX:ga l=yl l:=by unfold ga; rw [if_pos h]
   have hb:(dH l == 0)=true:=beq_iff_eq.2 h
   have q20:Yg N l=some (ga l):=by rw [eX]; exact Md hN l h
   simp only [hb,cond_true,q20,Mz hN l h,Option.bind_some,if_pos h]
   by_cases h2:(ga l).2=0
   ·have vb:((ga l).2 == 0)=true:=beq_iff_eq.2 h2
    simp only [vb,cond_true,jQ,jR,jw,jx,Bp,Bq,Bool.and_self,Bool.and_true,Option.bind_some,Vg hN _ x2,Bw hN _ x2,yu hN _ x2,if_true,yw hN _ (gl _ x2),h2,h,beq_self_eq_true,hT]
   ·have vb:((ga l).2 == 0)=false:=beq_false_of_ne h2
    have z:(bif allFit (fits uy) ([]:List AV) then some ((ga l).2,(ga l).1,(map j8 ([]:List AV)),Aj l) else none:Option (Int × List eQ × List XA × Int))=some ((ga l).2,(ga l).1,[],Aj l):=rfl
    simp only [vb,cond_true,cond_false,jQ,jR,jw,jx,Bp,Bq,Bool.true_and,Bool.and_self,Bool.and_true,Option.bind_some,z,Bw hN _ x2,yu hN _ x2,if_neg h2,if_true,if_false,yw hN [] (by simp),h,beq_self_eq_true,hT]
  ·have eX:ga l=([],dH l):=by unfold ga; rw [if_neg h]
   have hb:(dH l == 0)=false:=beq_false_of_ne h
   have z:(bif (allFit (fits eK) ([]:List AV)&&allFit (fits uy) ([]:List AV)) then some (dH l,(map cI ([]:List AV)),(map j8 ([]:List AV)),0) else none:Option (Int × List eQ × List XA × Int))=some (dH l,[],[],0):=rfl
   have q24:=Bw hN [] (by simp)
   have q23:=yu hN [] (by simp)
   have q25:=yw hN [] (by simp)
   have f0:(bif allFit (fits fx) (map aB ([]:List eQ)) then some (map cW (map aB ([]:List eQ))) else none)=some []:=rfl
   simp only [hb,cond_false,z,Option.bind_some,eX,h,if_false,jw,jx,jQ,jR,Bp,Bq,Bool.and_self,cond_true,q24,q23,q25,beq_self_eq_true,hT]
end
end Go.Proofs.YtldcljfjjoidhaaGreatDoor
