/- Plain laws: sameness,sizes,twines. -/
import Derived.Test.YtldcljfjjoidhaaGreatDoorBraPf
set_option linter.all false
namespace Go.Proofs.YtldcljfjjoidhaaGreatDoor
open Go Go.Am Go.Sort
set_option maxRecDepth 100000
section
variable {N:Nat} (hN:fC N)
include hN
theorem wR (l:List dL) (hl:l.length≤1000000000):W7 N (l,l)=some true:=by
 have key:=bF (rd:=wN N l l) l.length (fun k=>(k:Int)) (.inr ()) (fun k hk=>by
  obtain ⟨a1,a2⟩:=kA l hk
  simp only [wN,List.length_map,Int.toNat_natCast,a8 hk,aI hk,a1,a2,Bool.and_self,cond_true,beq_self_eq_true,Bool.not_true,cond_false,bk (show k < 9223372036854775807 by omega)]) (by
  simp only [wN,List.length_map,bp,cond_false]) N 0 (Nat.zero_le _) (by unfold fC at hN; omega)
 have jV:az (wN N l l) N 0=some (.inr ()):=key
 rw [Tm,jV]
 simp only [bne_self_eq_false,cond_false,Option.bind_some,Sum.elim_inr]
theorem at3 (l:List Int) {k:Nat} (hk:k < l.length):d3 (ah (List.map n3 l) k)=l[k]∧aj.fits p3 (ah (List.map n3 l) k)=true:=by
 rw [fS n3 l k hk]
 exact ⟨XQ _,XP _⟩
theorem B3 (l:List Int) (hl:l.length≤1000000000):Yc N (l,l)=some true:=by
 have key:=bF (rd:=wO N l l) l.length (fun k=>(k:Int)) (.inr ()) (fun k hk=>by
  obtain ⟨a1,a2⟩:=at3 hN l hk
  simp only [wO,List.length_map,Int.toNat_natCast,a8 hk,aI hk,a1,a2,Bool.and_self,cond_true,bne_self_eq_false,cond_false,bk (show k < 9223372036854775807 by omega)]) (by
  simp only [wO,List.length_map,bp,cond_false]) N 0 (Nat.zero_le _) (by unfold fC at hN; omega)
 have jV:az (wO N l l) N 0=some (.inr ()):=key
 rw [To,jV]
 simp only [bne_self_eq_false,cond_false,Option.bind_some,Sum.elim_inr]
theorem TP (l:List dh) (c:dh):List.map bV l++[AV.agg [AV.int .i64 c.1,AV.int .i64 c.2.1,AV.bool c.2.2.1,AV.bool c.2.2.2.1,AV.int .i64 c.2.2.2.2]]=List.map bV (l++[c]):=by rw [List.map_append]; rfl
theorem TQ (p:List dh) (hp:p.length≤1000000):Qn N p=some p:=by
 have key:=bF (rd:=wF N p) p.length (fun k=>(p.take k,(k:Int))) p (fun k hk=>by
  obtain ⟨a1,a2⟩:=DY hN p hk
  have hl:(p.take k).length=k:=by rw [List.length_take]; omega
  have hb:decide ((k+1) * 32≤140737488355328)=true:=decide_eq_true (by omega)
  have sn:=TP hN (p.take k) p[k]
  have es:p.take (k+1)=p.take k++[p[k]]:=by rw [List.take_add_one,List.getElem?_eq_getElem hk]; rfl
  rw [es]
  simp only [wF,List.length_map,Int.toNat_natCast,a8 hk,aI hk,a1,a2,Bool.and_self,Bool.and_true,cond_true,decide_true,hl,hb,sn,zZ,z6,Option.bind_some,List.length_append,List.length_singleton,bk (show k < 9223372036854775807 by omega)]) (by
  simp only [wF,List.length_map,bp,cond_false,zZ,z6,Bool.and_true,cond_true,Option.bind_some,decide_true,List.take_length]) N 0 (Nat.zero_le _) (by unfold fC at hN; omega)
 have jV:az (wF N p) N ([],0)=some p:=key
 have z:((bif (allFit (aj.fits mI) ([]:List AV)&&true) then some ((List.map d90 ([]:List AV)),0) else none:Option ((List (Int × Int × Bool × Bool × Int)) × Int)).bind fun w6=>bif (decide (0=(List.map bV w6.1).length)&&true) then some w6 else none)=some ([],0):=rfl
 rw [Ta,z,Option.bind_some,jV,Option.bind_some]
 simp only [zZ,z6,cond_true]
def xB (p:List dh) (i:Nat):Bool:=i == 0 || !decide (aN (p.getD (i - 1) (0,0,false,false,0)) (p.getD (i - 1) (0,0,false,false,0)).2.2.2.2.toNat=((p.getD i (0,0,false,false,0)).1,(p.getD i (0,0,false,false,0)).2.1))
def Ck (p:List dh) (k:Nat):List Int:=((List.range k).filter (xB p)).map fun i:Nat=>(i:Int)
theorem B4 (p:List dh) (k:Nat):Ck p (k+1)=if xB p k then Ck p k++[(k:Int)] else Ck p k:=by
 unfold Ck
 rw [List.range_succ,List.filter_append,List.map_append]
 cases h:xB p k <;> simp [h]
theorem Ab (p:List dh) (k:Nat):(Ck p k).length≤k:=by
 unfold Ck
 rw [List.length_map]
 have:=List.length_filter_le (xB p) (List.range k)
 rwa [List.length_range] at this
theorem Fk (l:List Int) (x:Int):List.map n3 l++[AV.int .i64 x]=List.map n3 (l++[x]):=by rw [List.map_append]; rfl
theorem Fl (q:Int × Int) (x y:Int):(!((q.1 == x)&&(q.2 == y)))=!decide (q=(x,y)):=by
 congr 1
 rw [Bool.eq_iff_iff]
 simp [Prod.ext_iff]
theorem TS (p:List dh) (h:∀ c∈p,cm c=0) (hp:p.length≤1000000):Yg N p=some (Ck p p.length):=by
 have key:=bF (rd:=se N p) p.length (fun k=>(Ck p k,(k:Int))) (Ck p p.length) (fun k hk=>by
  obtain ⟨a1,a2⟩:=D6 hN p hk
  have hl:=Ab hN p k
  have hb:decide (((Ck p k).length+1) * 8≤140737488355328)=true:=decide_eq_true (by omega)
  rw [B4 hN]
  by_cases h0:k=0
  ·subst h0
   have e:xB p 0=true:=rfl
   have b0:((0:Int) == 0)=true:=rfl
   have w1:IntKind.wrap .i64 (0+1)=1:=rfl
   have i0:decide ((0:Int)≤0∧(0:Int) < (p.length:Int))=true:=decide_eq_true (by omega)
   have l0:decide ((0:Int) < (p.length:Int))=true:=decide_eq_true (by omega)
   rw [e,if_pos rfl]
   simp only [se,List.length_map,Int.natCast_zero,Int.toNat_zero,l0,i0,a1,a2,b0,Bool.and_self,Bool.and_true,cond_true,decide_true,hb,Fk hN,DH,DI,Option.bind_some,List.length_append,List.length_singleton,w1]
   rfl
  ·obtain ⟨j,rfl⟩:∃ j,k=j+1:=⟨k - 1,by omega⟩
   have hj:j < p.length:=by omega
   obtain ⟨b1,b2⟩:=D6 hN p hj
   have hm:IntKind.wrap .i64 (((j+1:Nat):Int) - 1)=(j:Int):=by rw [iH ⟨by omega,by omega⟩]; omega
   have b0:(((j+1:Nat):Int) == 0)=false:=beq_false_of_ne (by omega)
   have Oj:=Ki hN p[j] (h p[j] (List.getElem_mem hj))
   have e:xB p (j+1)=!decide (aN p[j] p[j].2.2.2.2.toNat=(p[j+1].1,p[j+1].2.1)):=by
    unfold xB
    have g1:p.getD (j+1 - 1) (0,0,false,false,0)=p[j]:=by simp [hj]
    have g2:p.getD (j+1) (0,0,false,false,0)=p[j+1]:=by simp [hk]
    rw [g1,g2]
    rfl
   rw [e]
   simp only [se,List.length_map,Int.toNat_natCast,a8 hk,aI hk,aI hj,hm,a1,a2,b1,b2,b0,Bool.and_self,Bool.and_true,cond_true,cond_false,beq_self_eq_true,Oj,Fl hN,DH,DI,decide_true,Option.bind_some]
   cases decide (aN p[j] p[j].2.2.2.2.toNat=(p[j+1].1,p[j+1].2.1)) with
   | true=>simp only [Bool.not_true,cond_false,Bool.false_eq_true,if_false,decide_true,DH,DI,Option.bind_some,cond_true,Bool.and_true,Bool.and_self,bk (show j+1 < 9223372036854775807 by omega)]
   | false=>simp only [Bool.not_false,cond_true,if_true,hb,Fk hN,DH,DI,decide_true,List.length_append,List.length_singleton,Option.bind_some,Bool.and_true,Bool.and_self,bk (show j+1 < 9223372036854775807 by omega)]) (by
  simp only [se,List.length_map,bp,cond_false,DH,DI,Bool.and_true,cond_true,Option.bind_some,decide_true]) N 0 (Nat.zero_le _) (by unfold fC at hN; omega)
 have jV:az (se N p) N ([],0)=_:=key
 have z:((bif (allFit (aj.fits p3) ([]:List AV)&&true) then some ((List.map d3 ([]:List AV)),0) else none:Option ((List Int) × Int)).bind fun Ak=>bif (decide (0=(List.map n3 Ak.1).length)&&true) then some Ak else none)=some ([],0):=rfl
 rw [Tz,z,Option.bind_some,jV,Option.bind_some]
 simp only [DH,DI,cond_true]
theorem TT (p:List dh) (h:∀ c∈p,cm c=0) (hp:p.length≤1000000):Ye N p=some (Ck p p.length):=by
 have key:=bF (rd:=sd N p) p.length (fun k=>(Ck p k,(k:Int))) (Ck p p.length) (fun k hk=>by
  obtain ⟨a1,a2⟩:=DY hN p hk
  have hl:=Ab hN p k
  have hb:decide (((Ck p k).length+1) * 8≤140737488355328)=true:=decide_eq_true (by omega)
  rw [B4 hN]
  by_cases h0:k=0
  ·subst h0
   have e:xB p 0=true:=rfl
   have b0:((0:Int) == 0)=true:=rfl
   have w1:IntKind.wrap .i64 (0+1)=1:=rfl
   have i0:decide ((0:Int)≤0∧(0:Int) < (p.length:Int))=true:=decide_eq_true (by omega)
   have l0:decide ((0:Int) < (p.length:Int))=true:=decide_eq_true (by omega)
   rw [e,if_pos rfl]
   simp only [sd,List.length_map,Int.natCast_zero,Int.toNat_zero,l0,i0,a1,a2,b0,Bool.and_self,Bool.and_true,cond_true,decide_true,hb,Fk hN,DH,DI,Option.bind_some,List.length_append,List.length_singleton,w1]
   rfl
  ·obtain ⟨j,rfl⟩:∃ j,k=j+1:=⟨k - 1,by omega⟩
   have hj:j < p.length:=by omega
   obtain ⟨b1,b2⟩:=DY hN p hj
   have hm:IntKind.wrap .i64 (((j+1:Nat):Int) - 1)=(j:Int):=by rw [iH ⟨by omega,by omega⟩]; omega
   have b0:(((j+1:Nat):Int) == 0)=false:=beq_false_of_ne (by omega)
   have X5:=Oz hN p[j] (h p[j] (List.getElem_mem hj))
   have e:xB p (j+1)=!decide (aN p[j] p[j].2.2.2.2.toNat=(p[j+1].1,p[j+1].2.1)):=by
    unfold xB
    have g1:p.getD (j+1 - 1) (0,0,false,false,0)=p[j]:=by simp [hj]
    have g2:p.getD (j+1) (0,0,false,false,0)=p[j+1]:=by simp [hk]
    rw [g1,g2]
    rfl
   rw [e]
   simp only [sd,List.length_map,Int.toNat_natCast,a8 hk,aI hk,aI hj,hm,a1,a2,b1,b2,b0,Bool.and_self,Bool.and_true,cond_true,cond_false,beq_self_eq_true,X5,Fl hN,DH,DI,decide_true,Option.bind_some]
   cases decide (aN p[j] p[j].2.2.2.2.toNat=(p[j+1].1,p[j+1].2.1)) with
   | true=>simp only [Bool.not_true,cond_false,Bool.false_eq_true,if_false,decide_true,DH,DI,Option.bind_some,cond_true,Bool.and_true,Bool.and_self,bk (show j+1 < 9223372036854775807 by omega)]
   | false=>simp only [Bool.not_false,cond_true,if_true,hb,Fk hN,DH,DI,decide_true,List.length_append,List.length_singleton,Option.bind_some,Bool.and_true,Bool.and_self,bk (show j+1 < 9223372036854775807 by omega)]) (by
  simp only [sd,List.length_map,bp,cond_false,DH,DI,Bool.and_true,cond_true,Option.bind_some,decide_true]) N 0 (Nat.zero_le _) (by unfold fC at hN; omega)
 have jV:az (sd N p) N ([],0)=_:=key
 have z:((bif (allFit (aj.fits p3) ([]:List AV)&&true) then some ((List.map d3 ([]:List AV)),0) else none:Option ((List Int) × Int)).bind fun Ak=>bif (decide (0=(List.map n3 Ak.1).length)&&true) then some Ak else none)=some ([],0):=rfl
 rw [Tu,z,Option.bind_some,jV,Option.bind_some]
 simp only [DH,DI,cond_true]
theorem TU (p:List dh) (y:Int) (hy:Kl N p=some y) (h:y=0→∀ c∈p,cm c=0) (hp:p.length≤1000000):Yh N p=some (if y=0 then (Ck p p.length,0) else ([],y)):=by
 have z:((bif (allFit (aj.fits mI) (List.map bV p)&&true) then some (List.map d90 (List.map bV p)) else none:Option ((List (Int × Int × Bool × Bool × Int)))))=some p:=by simp only [zZ,z6,Bool.and_true,cond_true]
 rw [TB,z,Option.bind_some,hy,Option.bind_some,GJ]
 by_cases h0:y=0
 ·rw [if_pos h0,if_pos h0,Option.bind_some,TS hN p (h h0) hp,Option.bind_some]
  simp only [DH,DI,Bool.and_self,cond_true]
 ·rw [if_neg h0,if_neg h0]
  rfl
end
end Go.Proofs.YtldcljfjjoidhaaGreatDoor
