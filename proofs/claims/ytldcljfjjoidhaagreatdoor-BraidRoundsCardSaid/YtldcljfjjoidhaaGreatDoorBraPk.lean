/- Plain laws: bars and nets are checked. -/
import Derived.Test.YtldcljfjjoidhaaGreatDoorBraPj
set_option linter.all false
namespace Go.Proofs.YtldcljfjjoidhaaGreatDoor
open Go Go.Am
open List (map)
open Int (toNat)
open Go.IntKind (wrap)
open Go.Am.aT (fits)
set_option maxRecDepth 100000
def mH (b:dM):Int × Int:=(wrap .i64 (b.1+b.2.2),wrap .i64 (b.2.1+1))
def mE (b:dM):Int × Int:=(b.1,b.2.1)
theorem Ac (N:Nat) (b:dM):Df N b=some (b.1,b.2.1,mH b):=by rw [GF]; rfl
theorem Rh (N:Nat) (b:dM):Ma N b=some (mE b):=by rw [QV]; rfl
theorem Ri (N:Nat) (b:dM):Mb N b=some (mH b):=by rw [QX]; rfl
def gB (b:dM):Int:=if aF (mE b)≠0 then aF (mE b) else if b.2.2≠-1∧b.2.2≠1 then 13 else aF (mH b)
theorem FD {N:Nat} (hN:fB N) (p:Int × Int):Ie N p=some (aS [pW p.1 (-100000) 100000,pW p.2 (-100000) 100000]):=by
 rw [GC]
 simp only [Dr,Option.bind_some,beq_self_eq_true,Bool.and_self,cond_true]
 rw [zW]
 simp only [Option.bind_some]
 rw [jc hN _ (by simp)]
 rfl
theorem Mt (b:dM) (h0:aF (mE b)=0) (h1:b.2.2=-1∨b.2.2=1):aS [pW (mH b).1 (-100000) 100000,pW (mH b).2 (-100000) 100000]=aF (mH b):=by
 unfold aF mE at h0
 simp only at h0
 split at h0
 ·cases h0
 ·rename_i hr
  split at h0
  ·rename_i hp
   have e1:(mH b).1=b.1+b.2.2:=iE (by omega)
   have e2:(mH b).2=b.2.1+1:=iE (by omega)
   unfold aF
   rw [e1,e2]
   have hp2:(b.1+b.2.2+(b.2.1+1)) % 2=0:=by omega
   rw [if_pos hp2]
   unfold pW
   simp only [aS]
   by_cases c1:b.1+b.2.2 < -100000∨b.1+b.2.2 > 100000
   ·have c:b.1+b.2.2 < -100000∨b.1+b.2.2 > 100000∨b.2.1+1 < -100000∨b.2.1+1 > 100000:=by omega
    rw [if_pos c,if_pos c1]; rfl
   ·rw [if_neg c1]
    by_cases c2:b.2.1+1 < -100000∨b.2.1+1 > 100000
    ·have c:b.1+b.2.2 < -100000∨b.1+b.2.2 > 100000∨b.2.1+1 < -100000∨b.2.1+1 > 100000:=by omega
     rw [if_pos c,if_pos c2]; rfl
    ·have c:¬ (b.1+b.2.2 < -100000∨b.1+b.2.2 > 100000∨b.2.1+1 < -100000∨b.2.1+1 > 100000):=by omega
     rw [if_neg c,if_neg c2]; rfl
  ·cases h0
theorem Mu {N:Nat} (hN:fB N) (b:dM):Lf N b=some (gB b):=by
 rw [PL]
 have q1:De N (b.1,b.2.1)=some (aF (mE b)):=tv hN _
 simp only [q1,j8,Option.bind_some,beq_self_eq_true,Bool.and_self,cond_true,Ac]
 have q2:∀ s t:Bool,((bif s then ((bif allFit (fits xz) [AV.int .i64 (aF (mE b)),AV.int .i64 (if t=true then 13 else 0)]&&true then some (map kF [AV.int .i64 (aF (mE b)),AV.int .i64 (if t=true then 13 else 0)]) else none:Option pX).bind fun x=>(uR N x).bind fun y=>some y) else ((bif allFit (fits xz) [AV.int .i64 (aF (mE b)),AV.int .i64 (if false=true then 13 else 0)]&&true then some (map kF [AV.int .i64 (aF (mE b)),AV.int .i64 (if false=true then 13 else 0)]) else none:Option pX).bind fun x=>(uR N x).bind fun y=>some y)):Option Int)=some (aS [aF (mE b),if s&&t then 13 else 0]):=fun s t=>by
  rw [zW,zW]
  simp only [Option.bind_some]
  rw [jc hN _ (by simp),jc hN _ (by simp)]
  cases s <;> cases t <;> rfl
 rw [q2,Option.bind_some]
 have q3:Ie N ((mH b).1,(mH b).2)=_:=FD hN (mH b)
 unfold gB
 simp only [aS]
 by_cases h0:aF (mE b)=0
 ·by_cases h1:b.2.2=-1∨b.2.2=1
  ·have hb:(b.2.2 != -1&&b.2.2 != 1)=false:=by rcases h1 with h | h <;> rw [h] <;> rfl
   rw [hb]
   have hn:¬ (b.2.2≠-1∧b.2.2≠1):=by omega
   rw [if_pos h0,if_neg (show ¬ aF (mE b)≠0 from fun c=>c h0),if_neg hn,← Mt b h0 h1]
   simp only [Bool.false_eq_true,if_false,if_true,bne_self_eq_false,cond_false,q3,Option.bind_some]
  ·have hb:(b.2.2 != -1&&b.2.2 != 1)=true:=by
    rw [Bool.and_eq_true]; exact ⟨bne_iff_ne.2 (by omega),bne_iff_ne.2 (by omega)⟩
   have hn:b.2.2≠-1∧b.2.2≠1:=by omega
   rw [hb,if_pos h0,if_neg (show ¬ aF (mE b)≠0 from fun c=>c h0),if_pos hn]
   rfl
 ·have hb:(aF (mE b) != 0)=true:=bne_iff_ne.2 h0
  rw [if_neg h0,if_pos h0,hb]
  rfl
def less (a b:dM):Bool:=if a.2.1≠b.2.1 then decide (a.2.1 < b.2.1) else if a.1≠b.1 then decide (a.1 < b.1) else decide (a.2.2 < b.2.2)
theorem Ad (N:Nat) (a b:dM):SU N (a,b)=some (less a b):=by
 rw [Md]
 unfold less
 by_cases h1:a.2.1=b.2.1
 ·by_cases h2:a.1=b.1
  ·simp [h1,h2]
  ·have hb:(a.1 != b.1)=true:=bne_iff_ne.2 h2
   simp [h1,h2,hb]
 ·have hb:(a.2.1 != b.2.1)=true:=bne_iff_ne.2 h1
  simp [h1,hb]
def IA (a b:Int):Int:=if a < b then -1 else if a > b then 1 else 0
theorem Rj (N:Nat) (a b:Int):Ig N (a,b)=some (IA a b):=by
 rw [PT]
 simp only [PR,bne_self_eq_false,Option.bind_some,cond_false]
 unfold IA
 by_cases h1:a < b
 ·simp [h1]
 ·by_cases h2:a > b <;> simp [h1,h2]
theorem FE {N:Nat} (hN:fB N) (l:List Int) (hl:l.length≤9223372036854775806):PM N l=some (aS l):=by
 obtain ⟨o,h1,h2⟩:=nu (rd:=vk N l) l (fun k hk=>by
  have hd:=gM eP l k hk
  have e1:eR (af (map eP l) k)=l[k]:=by rw [hd]; rfl
  have e2:fits p3 (af (map eP l) k)=true:=by rw [hd]; rfl
  simp only [vk,List.length_map,Int.toNat_natCast,e1,e2,bA (show k < 9223372036854775807 by omega),bf hk,aO hk,Bool.and_self,cond_true]
  by_cases hz:l[k]=0
  ·simp [hz]
  ·simp [hz,Bool.cond_eq_ite]) (by simp only [vk,List.length_map,bt,cond_false]) N (by unfold fB at hN; omega)
 rw [PO,h1,Option.bind_some]
 rcases o with o | o
 ·simpa using h2
 ·simpa using h2
def Wd (a b:dM):Int:=aS [IA a.2.1 b.2.1,IA a.1 b.1,IA a.2.2 b.2.2]
theorem Mw {N:Nat} (hN:fB N) (a b:dM):Lg N (a,b)=some (Wd a b):=by
 rw [PV]
 simp only [Rj,Option.bind_some,beq_self_eq_true,Bool.and_self,cond_true]
 have h3:∀ x y z:Int,((bif allFit (fits p3) [AV.int .i64 x,AV.int .i64 y,AV.int .i64 z]&&true then some (map eR [AV.int .i64 x,AV.int .i64 y,AV.int .i64 z]) else none:Option pX))=some [x,y,z]:=fun x y z=>rfl
 rw [h3]
 simp only [Option.bind_some]
 rw [FE hN _ (by simp)]
 rfl
theorem IB (a b:dM):decide (Wd a b≥0)=!less a b:=by
 unfold Wd less IA
 simp only [aS]
 by_cases h1:a.2.1 < b.2.1
 ·have:a.2.1≠b.2.1:=by omega
  simp [h1,this]
 ·by_cases h2:a.2.1 > b.2.1
  ·have:a.2.1≠b.2.1:=by omega
   simp [h1,h2,this]
  ·have:a.2.1=b.2.1:=by omega
   simp only [h1,h2,this,if_false,if_true,ne_eq,not_true_eq_false]
   by_cases h3:a.1 < b.1
   ·have:a.1≠b.1:=by omega
    simp [h3,this]
   ·by_cases h4:a.1 > b.1
    ·have:a.1≠b.1:=by omega
     simp [h3,h4,this]
    ·have:a.1=b.1:=by omega
     simp only [this,if_false,if_true,not_true_eq_false,Int.lt_irrefl,gt_iff_lt]
     by_cases h5:a.2.2 < b.2.2
     ·simp [h5]
     ·by_cases h6:b.2.2 < a.2.2 <;> simp [h5,h6]
def IC (l:List dM) (k:Nat):Int:=if gB (l.getD k (0,0,0))≠0 then gB (l.getD k (0,0,0)) else if 0 < k∧less (l.getD (k - 1) (0,0,0)) (l.getD k (0,0,0))=false then 11 else 0
def FF (l:List dM):Int:=if l.length > 4096 then 5 else aS ((List.range l.length).map (IC l))
theorem Rk {N:Nat} (hN:fB N) (l:List dM):UE N l=some (FF l):=by
 rw [UF]
 simp only [List.length_map]
 unfold FF
 by_cases h:l.length > 4096
 ·have h':(l.length:Int) > 4096:=by omega
  simp [h,h']
 ·have h':¬ (l.length:Int) > 4096:=by omega
  have key:=ik (rd:=xA N l) ((List.range l.length).map (IC l)) (fun k hk=>by
   have hk:k < l.length:=by simpa using hk
   obtain ⟨a1,a2⟩:=jM l hk
   rw [List.getElem_map,List.getElem_range]
   have e1:l.getD k (0,0,0)=l[k]:=by simp [hk]
   unfold IC
   rw [e1]
   have q1:Lf N (l[k].1,l[k].2.1,l[k].2.2)=_:=Mu hN l[k]
   have two:∀ x y:Int,((bif allFit (fits xz) [AV.int .i64 x,AV.int .i64 y]&&true then some (map kF [AV.int .i64 x,AV.int .i64 y]) else none:Option pX))=some [x,y]:=fun x y=>rfl
   have q5:∀ x y:Int,uR N [x,y]=some (aS [x,y]):=fun x y=>jc hN _ (by simp)
   by_cases zo:k=0
   ·subst zo
    simp only [xA,List.length_map,Int.toNat_natCast,a1,a2,bf hk,aO hk,Bool.and_self,cond_true,q1,Option.bind_some,two,q5,j8,bA (show 0 < 9223372036854775807 by omega),show decide (((0:Nat):Int) > 0)=false from rfl,cond_false]
    by_cases h0:gB l[0]=0
    ·simp [h0,aS]
    ·have hb:(gB l[0] != 0)=true:=bne_iff_ne.2 h0
     simp [h0,hb,aS]
   ·have BQ:k - 1 < l.length:=by omega
    obtain ⟨b1,b2⟩:=jM l BQ
    have e2:l.getD (k - 1) (0,0,0)=l[k - 1]:=by simp [BQ]
    rw [e2]
    have ew:wrap .i64 ((k:Int) - 1)=((k - 1:Nat):Int):=by rw [iE (by omega)]; omega
    have em:(if ((k - 1:Nat):Int) > 0 then ((k - 1:Nat):Int) else 0)=((k - 1:Nat):Int):=by split <;> omega
    have hp:decide ((k:Int) > 0)=true:=decide_eq_true (by omega)
    have q2:Lg N ((l[k - 1].1,l[k - 1].2.1,l[k - 1].2.2),(l[k].1,l[k].2.1,l[k].2.2))=_:=Mw hN l[k - 1] l[k]
    simp only [xA,List.length_map,Int.toNat_natCast,a1,a2,bf hk,aO hk,Bool.and_self,cond_true,q1,Option.bind_some,hp,ew,em,b1,b2,aO BQ,q2,j8,IB,two,q5,bA (show k < 9223372036854775807 by omega)]
    by_cases h0:gB l[k]=0
    ·cases less l[k - 1] l[k] with
     | true=>simp [h0,aS]
     | false=>simp [h0,aS,show 0 < k by omega]
    ·have hb:(gB l[k] != 0)=true:=bne_iff_ne.2 h0
     simp [h0,hb,aS]) (by
   rw [List.length_map,List.length_range]
   simp only [xA,List.length_map,bt,cond_false]) N (by unfold fB at hN; rw [List.length_map,List.length_range]; omega)
  rw [if_neg h]
  simp only [h',decide_false,cond_false,key,Option.bind_some]
  split <;> simp_all
end Go.Proofs.YtldcljfjjoidhaaGreatDoor
