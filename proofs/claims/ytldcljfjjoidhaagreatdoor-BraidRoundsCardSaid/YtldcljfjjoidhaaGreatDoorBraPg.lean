/- Plain laws: sameness,sizes,twines. -/
import Derived.Test.YtldcljfjjoidhaaGreatDoorBraPf
set_option linter.all false
namespace Go.Proofs.YtldcljfjjoidhaaGreatDoor
open Go Go.Am Go.Sort
open List (map)
open Int (toNat)
open Go.IntKind (wrap)
open Go.Am.aT (fits)
set_option maxRecDepth 100000
section
variable {N:Nat} (hN:fB N)
include hN
theorem Mi (l:List dM) (hl:l.length≤1000000000):VP N (l,l)=some true:=by
 have key:=bK (rd:=xY N l l) l.length (fun k=>(k:Int)) (.inr ()) (fun k hk=>by
  obtain ⟨a1,a2⟩:=jM l hk
  simp only [xY,List.length_map,Int.toNat_natCast,bf hk,aO hk,a1,a2,Bool.and_self,cond_true,beq_self_eq_true,Bool.not_true,cond_false,bA (show k < 9223372036854775807 by omega)]) (by
  simp only [xY,List.length_map,bt,cond_false]) N 0 (Nat.zero_le _) (by unfold fB at hN; omega)
 have lQ:aG (xY N l l) N 0=some (.inr ()):=key
 rw [VR,lQ]
 simp only [bne_self_eq_false,cond_false,Option.bind_some,Sum.elim_inr]
theorem at3 (l:List Int) {k:Nat} (hk:k < l.length):eR (af (map eP l) k)=l[k]∧fits p3 (af (map eP l) k)=true:=by
 rw [gM eP l k hk]
 exact ⟨dn3 _,fn3 _⟩
theorem Mj (l:List Int) (hl:l.length≤1000000000):T50 N (l,l)=some true:=by
 have key:=bK (rd:=xZ N l l) l.length (fun k=>(k:Int)) (.inr ()) (fun k hk=>by
  obtain ⟨a1,a2⟩:=at3 hN l hk
  simp only [xZ,List.length_map,Int.toNat_natCast,bf hk,aO hk,a1,a2,Bool.and_self,cond_true,bne_self_eq_false,cond_false,bA (show k < 9223372036854775807 by omega)]) (by
  simp only [xZ,List.length_map,bt,cond_false]) N 0 (Nat.zero_le _) (by unfold fB at hN; omega)
 have lQ:aG (xZ N l l) N 0=some (.inr ()):=key
 rw [VT,lQ]
 simp only [bne_self_eq_false,cond_false,Option.bind_some,Sum.elim_inr]
theorem Wb (l:List bD) (c:bD):map ai l++[AV.agg [AV.int .i64 c.1,AV.int .i64 c.2.1,AV.bool c.2.2.1,AV.bool c.2.2.2.1,AV.int .i64 c.2.2.2.2]]=map ai (l++[c]):=by rw [List.map_append]; rfl
theorem ye (p:List bD) (hp:p.length≤1000000):Io N p=some p:=by
 have key:=bK (rd:=xS N p) p.length (fun k=>(p.take k,(k:Int))) p (fun k hk=>by
  obtain ⟨a1,a2⟩:=Iq hN p hk
  have hl:(p.take k).length=k:=by rw [List.length_take]; omega
  have hb:decide ((k+1) * 32≤140737488355328)=true:=decide_eq_true (by omega)
  have sn:=Wb hN (p.take k) p[k]
  have es:p.take (k+1)=p.take k++[p[k]]:=by rw [List.take_add_one,List.getElem?_eq_getElem hk]; rfl
  rw [es]
  simp only [xS,List.length_map,Int.toNat_natCast,bf hk,aO hk,a1,a2,Bool.and_self,Bool.and_true,cond_true,decide_true,hl,hb,sn,jJ,jK,Option.bind_some,List.length_append,List.length_singleton,bA (show k < 9223372036854775807 by omega)]) (by
  simp only [xS,List.length_map,bt,cond_false,jJ,jK,Bool.and_true,cond_true,Option.bind_some,decide_true,List.take_length]) N 0 (Nat.zero_le _) (by unfold fB at hN; omega)
 have lQ:aG (xS N p) N ([],0)=some p:=key
 have z:((bif (allFit (fits dG) ([]:List AV)&&true) then some ((map aq ([]:List AV)),0) else none:Option (eD × Int)).bind fun w6=>bif (decide (0=(map ai w6.1).length)&&true) then some w6 else none)=some ([],0):=rfl
 rw [Vz,z,Option.bind_some,lQ,Option.bind_some]
 simp only [jJ,jK,cond_true]
def yX (p:List bD) (i:Nat):Bool:=i == 0 || !decide (aK (p.getD (i - 1) (0,0,false,false,0)) (p.getD (i - 1) (0,0,false,false,0)).2.2.2.2.toNat=((p.getD i (0,0,false,false,0)).1,(p.getD i (0,0,false,false,0)).2.1))
def Dx (p:List bD) (k:Nat):List Int:=((List.range k).filter (yX p)).map fun i:Nat=>(i:Int)
theorem Mk (p:List bD) (k:Nat):Dx p (k+1)=if yX p k then Dx p k++[(k:Int)] else Dx p k:=by
 unfold Dx
 rw [List.range_succ,List.filter_append,List.map_append]
 cases h:yX p k <;> simp [h]
theorem G3 (p:List bD) (k:Nat):(Dx p k).length≤k:=by
 unfold Dx
 rw [List.length_map]
 have:=List.length_filter_le (yX p) (List.range k)
 rwa [List.length_range] at this
theorem SY (l:List Int) (x:Int):map eP l++[AV.int .i64 x]=map eP (l++[x]):=by rw [List.map_append]; rfl
theorem Rb (q:Int × Int) (x y:Int):(!((q.1 == x)&&(q.2 == y)))=!decide (q=(x,y)):=by
 congr 1
 rw [Bool.eq_iff_iff]
 simp [Prod.ext_iff]
theorem Wc (p:List bD) (h:∀ c∈p,bX c=0) (hp:p.length≤1000000):T93 N p=some (Dx p p.length):=by
 have key:=bK (rd:=tB N p) p.length (fun k=>(Dx p k,(k:Int))) (Dx p p.length) (fun k hk=>by
  obtain ⟨a1,a2⟩:=tC hN p hk
  have hl:=G3 hN p k
  have hb:decide (((Dx p k).length+1) * 8≤140737488355328)=true:=decide_eq_true (by omega)
  rw [Mk hN]
  by_cases h0:k=0
  ·subst h0
   have e:yX p 0=true:=rfl
   have b0:((0:Int) == 0)=true:=rfl
   have w1:wrap .i64 (0+1)=1:=rfl
   have i0:decide ((0:Int)≤0∧(0:Int) < (p.length:Int))=true:=decide_eq_true (by omega)
   have l0:decide ((0:Int) < (p.length:Int))=true:=decide_eq_true (by omega)
   rw [e,if_pos rfl]
   simp only [tB,List.length_map,Int.natCast_zero,Int.toNat_zero,l0,i0,a1,a2,b0,Bool.and_self,Bool.and_true,cond_true,decide_true,hb,SY hN,Sr,Ss,Option.bind_some,List.length_append,List.length_singleton,w1]
   rfl
  ·obtain ⟨j,rfl⟩:∃ j,k=j+1:=⟨k - 1,by omega⟩
   have hj:j < p.length:=by omega
   obtain ⟨b1,b2⟩:=tC hN p hj
   have hm:wrap .i64 (((j+1:Nat):Int) - 1)=(j:Int):=by rw [iE ⟨by omega,by omega⟩]; omega
   have b0:(((j+1:Nat):Int) == 0)=false:=beq_false_of_ne (by omega)
   have LI:=Dt hN p[j] (h p[j] (List.getElem_mem hj))
   have e:yX p (j+1)=!decide (aK p[j] p[j].2.2.2.2.toNat=(p[j+1].1,p[j+1].2.1)):=by
    unfold yX
    have g1:p.getD (j+1 - 1) (0,0,false,false,0)=p[j]:=by simp [hj]
    have g2:p.getD (j+1) (0,0,false,false,0)=p[j+1]:=by simp [hk]
    rw [g1,g2]
    rfl
   rw [e]
   simp only [tB,List.length_map,Int.toNat_natCast,bf hk,aO hk,aO hj,hm,a1,a2,b1,b2,b0,Bool.and_self,Bool.and_true,cond_true,cond_false,beq_self_eq_true,LI,Rb hN,Sr,Ss,decide_true,Option.bind_some]
   cases decide (aK p[j] p[j].2.2.2.2.toNat=(p[j+1].1,p[j+1].2.1)) with
   | true=>simp only [Bool.not_true,cond_false,Bool.false_eq_true,if_false,decide_true,Sr,Ss,Option.bind_some,cond_true,Bool.and_true,Bool.and_self,bA (show j+1 < 9223372036854775807 by omega)]
   | false=>simp only [Bool.not_false,cond_true,if_true,hb,SY hN,Sr,Ss,decide_true,List.length_append,List.length_singleton,Option.bind_some,Bool.and_true,Bool.and_self,bA (show j+1 < 9223372036854775807 by omega)]) (by
  simp only [tB,List.length_map,bt,cond_false,Sr,Ss,Bool.and_true,cond_true,Option.bind_some,decide_true]) N 0 (Nat.zero_le _) (by unfold fB at hN; omega)
 have lQ:aG (tB N p) N ([],0)=_:=key
 have z:((bif (allFit (fits p3) ([]:List AV)&&true) then some ((map eR ([]:List AV)),0) else none:Option (pX × Int)).bind fun PX=>bif (decide (0=(map eP PX.1).length)&&true) then some PX else none)=some ([],0):=rfl
 rw [VY,z,Option.bind_some,lQ,Option.bind_some]
 simp only [Sr,Ss,cond_true]
theorem Ml (p:List bD) (y:Int) (hy:Ft N p=some y) (h:y=0→∀ c∈p,bX c=0) (hp:p.length≤1000000):ZI N p=some (if y=0 then (Dx p p.length,0) else ([],y)):=by
 have z:((bif (allFit (fits dG) (map ai p)&&true) then some (map aq (map ai p)) else none:Option (eD)))=some p:=by simp only [jJ,jK,Bool.and_true,cond_true]
 rw [V0,z,Option.bind_some,hy,Option.bind_some,BR]
 by_cases h0:y=0
 ·rw [if_pos h0,if_pos h0,Option.bind_some,Wc hN p (h h0) hp,Option.bind_some]
  simp only [Sr,Ss,Bool.and_self,cond_true]
 ·rw [if_neg h0,if_neg h0]
  rfl
end
end Go.Proofs.YtldcljfjjoidhaaGreatDoor
