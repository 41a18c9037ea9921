/- Plain laws: bars and nets are checked. -/
import Derived.Test.YtldcljfjjoidhaaGreatDoorBraPj
set_option linter.all false
namespace Go.Proofs.YtldcljfjjoidhaaGreatDoor
open Go Go.Am
set_option maxRecDepth 100000
def nS (b:dL):Int × Int:=(IntKind.wrap .i64 (b.1+b.2.2),IntKind.wrap .i64 (b.2.1+1))
def tc (b:dL):Int × Int:=(b.1,b.2.1)
theorem yM (N:Nat) (b:dL):BO N b=some (b.1,b.2.1,nS b):=by rw [E1]; rfl
theorem Ph (N:Nat) (b:dL):OQ N b=some (tc b):=by rw [OS]; rfl
theorem Pj (N:Nat) (b:dL):OT N b=some (nS b):=by rw [OV]; rfl
theorem GP (N:Nat) (b:dL):Kx N b=some (b.1,b.2.1,nS b):=by
 rw [OX]
 simp only [Ph,Pj,beq_self_eq_true,Bool.and_self,cond_true,Option.bind_some]
 rfl
def pT (b:dL):Int:=if aL (tc b)≠0 then aL (tc b) else if b.2.2≠-1∧b.2.2≠1 then 13 else aL (nS b)
theorem D7 {N:Nat} (hN:fC N) (p:Int × Int):Gv N p=some (aY [BH p.1 (-100000) 100000,BH p.2 (-100000) 100000]):=by
 rw [EZ]
 simp only [BY,Option.bind_some,beq_self_eq_true,Bool.and_self,cond_true]
 rw [yB]
 simp only [Option.bind_some]
 rw [ia hN _ (by simp)]
 rfl
theorem KL (b:dL) (h0:aL (tc b)=0) (h1:b.2.2=-1∨b.2.2=1):aY [BH (nS b).1 (-100000) 100000,BH (nS b).2 (-100000) 100000]=aL (nS b):=by
 unfold aL tc at h0
 simp only at h0
 split at h0
 ·cases h0
 ·rename_i hr
  split at h0
  ·rename_i hp
   have e1:(nS b).1=b.1+b.2.2:=iH (by omega)
   have e2:(nS b).2=b.2.1+1:=iH (by omega)
   unfold aL
   rw [e1,e2]
   have hp2:(b.1+b.2.2+(b.2.1+1)) % 2=0:=by omega
   rw [if_pos hp2]
   unfold BH
   simp only [aY]
   by_cases c1:b.1+b.2.2 < -100000∨b.1+b.2.2 > 100000
   ·have c:b.1+b.2.2 < -100000∨b.1+b.2.2 > 100000∨b.2.1+1 < -100000∨b.2.1+1 > 100000:=by omega
    rw [if_pos c,if_pos c1]; rfl
   ·rw [if_neg c1]
    by_cases c2:b.2.1+1 < -100000∨b.2.1+1 > 100000
    ·have c:b.1+b.2.2 < -100000∨b.1+b.2.2 > 100000∨b.2.1+1 < -100000∨b.2.1+1 > 100000:=by omega
     rw [if_pos c,if_pos c2]; rfl
    ·have c:¬ (b.1+b.2.2 < -100000∨b.1+b.2.2 > 100000∨b.2.1+1 < -100000∨b.2.1+1 > 100000):=by omega
     rw [if_neg c,if_neg c2]; rfl
  ·cases h0
theorem KM {N:Nat} (hN:fC N) (b:dL):JE N b=some (pT b):=by
 rw [NI]
 have q1:BN N (b.1,b.2.1)=some (aL (tc b)):=r8 hN _
 simp only [q1,jt,Option.bind_some,beq_self_eq_true,Bool.and_self,cond_true,yM]
 have q2:∀ s t:Bool,((bif s then ((bif allFit (aj.fits zS) [AV.int .i64 (aL (tc b)),AV.int .i64 (if t=true then 13 else 0)]&&true then some (List.map d26 [AV.int .i64 (aL (tc b)),AV.int .i64 (if t=true then 13 else 0)]) else none:Option (List Int)).bind fun x=>(tC N x).bind fun y=>some y) else ((bif allFit (aj.fits zS) [AV.int .i64 (aL (tc b)),AV.int .i64 (if false=true then 13 else 0)]&&true then some (List.map d26 [AV.int .i64 (aL (tc b)),AV.int .i64 (if false=true then 13 else 0)]) else none:Option (List Int)).bind fun x=>(tC N x).bind fun y=>some y)):Option Int)=some (aY [aL (tc b),if s&&t then 13 else 0]):=fun s t=>by
  rw [yB,yB]
  simp only [Option.bind_some]
  rw [ia hN _ (by simp),ia hN _ (by simp)]
  cases s <;> cases t <;> rfl
 rw [q2,Option.bind_some]
 have q3:Gv N ((nS b).1,(nS b).2)=_:=D7 hN (nS b)
 unfold pT
 simp only [aY]
 by_cases h0:aL (tc b)=0
 ·by_cases h1:b.2.2=-1∨b.2.2=1
  ·have hb:(b.2.2 != -1&&b.2.2 != 1)=false:=by rcases h1 with h | h <;> rw [h] <;> rfl
   rw [hb]
   have hn:¬ (b.2.2≠-1∧b.2.2≠1):=by omega
   rw [if_pos h0,if_neg (show ¬ aL (tc b)≠0 from fun c=>c h0),if_neg hn,← KL b h0 h1]
   simp only [Bool.false_eq_true,if_false,if_true,bne_self_eq_false,cond_false,q3,Option.bind_some]
  ·have hb:(b.2.2 != -1&&b.2.2 != 1)=true:=by
    rw [Bool.and_eq_true]; exact ⟨bne_iff_ne.2 (by omega),bne_iff_ne.2 (by omega)⟩
   have hn:b.2.2≠-1∧b.2.2≠1:=by omega
   rw [hb,if_pos h0,if_neg (show ¬ aL (tc b)≠0 from fun c=>c h0),if_pos hn]
   rfl
 ·have hb:(aL (tc b) != 0)=true:=bne_iff_ne.2 h0
  rw [if_neg h0,if_pos h0,hb]
  rfl
def less (a b:dL):Bool:=if a.2.1≠b.2.1 then decide (a.2.1 < b.2.1) else if a.1≠b.1 then decide (a.1 < b.1) else decide (a.2.2 < b.2.2)
theorem GQ (N:Nat) (a b:dL):UA N (a,b)=some (less a b):=by
 rw [Ky]
 unfold less
 by_cases h1:a.2.1=b.2.1
 ·by_cases h2:a.1=b.1
  ·simp [h1,h2]
  ·have hb:(a.1 != b.1)=true:=bne_iff_ne.2 h2
   simp [h1,h2,hb]
 ·have hb:(a.2.1 != b.2.1)=true:=bne_iff_ne.2 h1
  simp [h1,hb]
def GR (a b:Int):Int:=if a < b then -1 else if a > b then 1 else 0
theorem Pk (N:Nat) (a b:Int):Gw N (a,b)=some (GR a b):=by
 rw [NQ]
 simp only [NO,bne_self_eq_false,Option.bind_some,cond_false]
 unfold GR
 by_cases h1:a < b
 ·simp [h1]
 ·by_cases h2:a > b <;> simp [h1,h2]
theorem D8 {N:Nat} (hN:fC N) (l:List Int) (hl:l.length≤9223372036854775806):NJ N l=some (aY l):=by
 obtain ⟨o,h1,h2⟩:=mo (rd:=tX N l) l (fun k hk=>by
  have hd:=fS n3 l k hk
  have e1:d3 (ah (List.map n3 l) k)=l[k]:=by rw [hd]; rfl
  have e2:aj.fits p3 (ah (List.map n3 l) k)=true:=by rw [hd]; rfl
  simp only [tX,List.length_map,Int.toNat_natCast,e1,e2,bk (show k < 9223372036854775807 by omega),a8 hk,aI hk,Bool.and_self,cond_true]
  by_cases hz:l[k]=0
  ·simp [hz]
  ·simp [hz,Bool.cond_eq_ite]) (by simp only [tX,List.length_map,bp,cond_false]) N (by unfold fC at hN; omega)
 rw [NL,h1,Option.bind_some]
 rcases o with o | o
 ·simpa using h2
 ·simpa using h2
def TV (a b:dL):Int:=aY [GR a.2.1 b.2.1,GR a.1 b.1,GR a.2.2 b.2.2]
theorem KN {N:Nat} (hN:fC N) (a b:dL):JF N (a,b)=some (TV a b):=by
 rw [NS]
 simp only [Pk,Option.bind_some,beq_self_eq_true,Bool.and_self,cond_true]
 have h3:∀ x y z:Int,((bif allFit (aj.fits p3) [AV.int .i64 x,AV.int .i64 y,AV.int .i64 z]&&true then some (List.map d3 [AV.int .i64 x,AV.int .i64 y,AV.int .i64 z]) else none:Option (List Int)))=some [x,y,z]:=fun x y z=>rfl
 rw [h3]
 simp only [Option.bind_some]
 rw [D8 hN _ (by simp)]
 rfl
theorem GS (a b:dL):decide (TV a b≥0)=!less a b:=by
 unfold TV less GR
 simp only [aY]
 by_cases h1:a.2.1 < b.2.1
 ·have:a.2.1≠b.2.1:=by omega
  simp [h1,this]
 ·by_cases h2:a.2.1 > b.2.1
  ·have:a.2.1≠b.2.1:=by omega
   simp [h1,h2,this]
  ·have:a.2.1=b.2.1:=by omega
   simp only [h1,h2,this,if_false,if_true,ne_eq,not_true_eq_false]
   by_cases h3:a.1 < b.1
   ·have:a.1≠b.1:=by omega
    simp [h3,this]
   ·by_cases h4:a.1 > b.1
    ·have:a.1≠b.1:=by omega
     simp [h3,h4,this]
    ·have:a.1=b.1:=by omega
     simp only [this,if_false,if_true,not_true_eq_false,Int.lt_irrefl,gt_iff_lt]
     by_cases h5:a.2.2 < b.2.2
     ·simp [h5]
     ·by_cases h6:b.2.2 < a.2.2 <;> simp [h5,h6]
def Pl (l:List dL) (k:Nat):Int:=if pT (l.getD k (0,0,0))≠0 then pT (l.getD k (0,0,0)) else if 0 < k∧less (l.getD (k - 1) (0,0,0)) (l.getD k (0,0,0))=false then 11 else 0
def KO (l:List dL):Int:=if l.length > 4096 then 5 else aY ((List.range l.length).map (Pl l))
theorem Pm {N:Nat} (hN:fC N) (l:List dL):R8 N l=some (KO l):=by
 rw [R9]
 simp only [List.length_map]
 unfold KO
 by_cases h:l.length > 4096
 ·have h':(l.length:Int) > 4096:=by omega
  simp [h,h']
 ·have h':¬ (l.length:Int) > 4096:=by omega
  have key:=iJ (rd:=v7 N l) ((List.range l.length).map (Pl l)) (fun k hk=>by
   have hk:k < l.length:=by simpa using hk
   obtain ⟨a1,a2⟩:=kA l hk
   rw [List.getElem_map,List.getElem_range]
   have e1:l.getD k (0,0,0)=l[k]:=by simp [hk]
   unfold Pl
   rw [e1]
   have q1:JE N (l[k].1,l[k].2.1,l[k].2.2)=_:=KM hN l[k]
   have two:∀ x y:Int,((bif allFit (aj.fits zS) [AV.int .i64 x,AV.int .i64 y]&&true then some (List.map d26 [AV.int .i64 x,AV.int .i64 y]) else none:Option (List Int)))=some [x,y]:=fun x y=>rfl
   have q5:∀ x y:Int,tC N [x,y]=some (aY [x,y]):=fun x y=>ia hN _ (by simp)
   by_cases xP:k=0
   ·subst xP
    simp only [v7,List.length_map,Int.toNat_natCast,a1,a2,a8 hk,aI hk,Bool.and_self,cond_true,q1,Option.bind_some,two,q5,jt,bk (show 0 < 9223372036854775807 by omega),show decide (((0:Nat):Int) > 0)=false from rfl,cond_false]
    by_cases h0:pT l[0]=0
    ·simp [h0,aY]
    ·have hb:(pT l[0] != 0)=true:=bne_iff_ne.2 h0
     simp [h0,hb,aY]
   ·have Qm:k - 1 < l.length:=by omega
    obtain ⟨b1,b2⟩:=kA l Qm
    have e2:l.getD (k - 1) (0,0,0)=l[k - 1]:=by simp [Qm]
    rw [e2]
    have ew:IntKind.wrap .i64 ((k:Int) - 1)=((k - 1:Nat):Int):=by rw [iH (by omega)]; omega
    have em:(if ((k - 1:Nat):Int) > 0 then ((k - 1:Nat):Int) else 0)=((k - 1:Nat):Int):=by split <;> omega
    have hp:decide ((k:Int) > 0)=true:=decide_eq_true (by omega)
    have q2:JF N ((l[k - 1].1,l[k - 1].2.1,l[k - 1].2.2),(l[k].1,l[k].2.1,l[k].2.2))=_:=KN hN l[k - 1] l[k]
    simp only [v7,List.length_map,Int.toNat_natCast,a1,a2,a8 hk,aI hk,Bool.and_self,cond_true,q1,Option.bind_some,hp,ew,em,b1,b2,aI Qm,q2,jt,GS,two,q5,bk (show k < 9223372036854775807 by omega)]
    by_cases h0:pT l[k]=0
    ·cases less l[k - 1] l[k] with
     | true=>simp [h0,aY]
     | false=>simp [h0,aY,show 0 < k by omega]
    ·have hb:(pT l[k] != 0)=true:=bne_iff_ne.2 h0
     simp [h0,hb,aY]) (by
   rw [List.length_map,List.length_range]
   simp only [v7,List.length_map,bp,cond_false]) N (by unfold fC at hN; rw [List.length_map,List.length_range]; omega)
  rw [if_neg h]
  simp only [h',decide_false,cond_false,key,Option.bind_some]
  split <;> simp_all
end Go.Proofs.YtldcljfjjoidhaaGreatDoor
