/- Plain laws: bars and nets are checked. -/
import Derived.Test.YtldcljfjjoidhaaGreatDoorBraPj
set_option linter.all false
namespace Go.Proofs.YtldcljfjjoidhaaGreatDoor
open Go Go.Am
set_option maxRecDepth 100000
def n9 (b:dR):Int × Int:=(IntKind.wrap .i64 (b.1+b.2.2),IntKind.wrap .i64 (b.2.1+1))
def rv (b:dR):Int × Int:=(b.1,b.2.1)
theorem za (N:Nat) (b:dR):B7 N b=some (b.1,b.2.1,n9 b):=by rw [Fa]; rfl
theorem PC (N:Nat) (b:dR):O8 N b=some (rv b):=by rw [Pa]; rfl
theorem PD (N:Nat) (b:dR):Pb N b=some (n9 b):=by rw [Pd]; rfl
theorem G5 (N:Nat) (b:dR):KD N b=some (b.1,b.2.1,n9 b):=by
 rw [Pf]
 simp only [PC,PD,beq_self_eq_true,Bool.and_self,cond_true,Option.bind_some]
 rfl
def pW (b:dR):Int:=if aM (rv b)≠0 then aM (rv b) else if b.2.2≠-1∧b.2.2≠1 then 13 else aM (n9 b)
theorem Ef {N:Nat} (hN:fq N) (p:Int × Int):GH N p=some (aY [B0 p.1 (-100000) 100000,B0 p.2 (-100000) 100000]):=by
 rw [E8]
 simp only [Cf,Option.bind_some,beq_self_eq_true,Bool.and_self,cond_true]
 rw [yR]
 simp only [Option.bind_some]
 rw [iq hN _ (by simp)]
 rfl
theorem KR (b:dR) (h0:aM (rv b)=0) (h1:b.2.2=-1∨b.2.2=1):aY [B0 (n9 b).1 (-100000) 100000,B0 (n9 b).2 (-100000) 100000]=aM (n9 b):=by
 unfold aM rv at h0
 simp only at h0
 split at h0
 ·cases h0
 ·rename_i hr
  split at h0
  ·rename_i hp
   have e1:(n9 b).1=b.1+b.2.2:=gY (by omega)
   have e2:(n9 b).2=b.2.1+1:=gY (by omega)
   unfold aM
   rw [e1,e2]
   have hp2:(b.1+b.2.2+(b.2.1+1)) % 2=0:=by omega
   rw [if_pos hp2]
   unfold B0
   simp only [aY]
   by_cases c1:b.1+b.2.2 < -100000∨b.1+b.2.2 > 100000
   ·have c:b.1+b.2.2 < -100000∨b.1+b.2.2 > 100000∨b.2.1+1 < -100000∨b.2.1+1 > 100000:=by omega
    rw [if_pos c,if_pos c1]; rfl
   ·rw [if_neg c1]
    by_cases c2:b.2.1+1 < -100000∨b.2.1+1 > 100000
    ·have c:b.1+b.2.2 < -100000∨b.1+b.2.2 > 100000∨b.2.1+1 < -100000∨b.2.1+1 > 100000:=by omega
     rw [if_pos c,if_pos c2]; rfl
    ·have c:¬ (b.1+b.2.2 < -100000∨b.1+b.2.2 > 100000∨b.2.1+1 < -100000∨b.2.1+1 > 100000):=by omega
     rw [if_neg c,if_neg c2]; rfl
  ·cases h0
theorem KS {N:Nat} (hN:fq N) (b:dR):JN N b=some (pW b):=by
 rw [NY]
 have q1:B6 N (b.1,b.2.1)=some (aM (rv b)):=si hN _
 simp only [q1,jA,Option.bind_some,beq_self_eq_true,Bool.and_self,cond_true,za]
 have q2:∀ s t:Bool,((bif s then ((bif allFit (aj.fits Ac) [AV.int .i64 (aM (rv b)),AV.int .i64 (if t=true then 13 else 0)]&&true then some (List.map d26 [AV.int .i64 (aM (rv b)),AV.int .i64 (if t=true then 13 else 0)]) else none:Option (List Int)).bind fun x=>(tP N x).bind fun y=>some y) else ((bif allFit (aj.fits Ac) [AV.int .i64 (aM (rv b)),AV.int .i64 (if false=true then 13 else 0)]&&true then some (List.map d26 [AV.int .i64 (aM (rv b)),AV.int .i64 (if false=true then 13 else 0)]) else none:Option (List Int)).bind fun x=>(tP N x).bind fun y=>some y)):Option Int)=some (aY [aM (rv b),if s&&t then 13 else 0]):=fun s t=>by
  rw [yR,yR]
  simp only [Option.bind_some]
  rw [iq hN _ (by simp),iq hN _ (by simp)]
  cases s <;> cases t <;> rfl
 rw [q2,Option.bind_some]
 have q3:GH N ((n9 b).1,(n9 b).2)=_:=Ef hN (n9 b)
 unfold pW
 simp only [aY]
 by_cases h0:aM (rv b)=0
 ·by_cases h1:b.2.2=-1∨b.2.2=1
  ·have hb:(b.2.2 != -1&&b.2.2 != 1)=false:=by rcases h1 with h | h <;> rw [h] <;> rfl
   rw [hb]
   have hn:¬ (b.2.2≠-1∧b.2.2≠1):=by omega
   rw [if_pos h0,if_neg (show ¬ aM (rv b)≠0 from fun c=>c h0),if_neg hn,← KR b h0 h1]
   simp only [Bool.false_eq_true,if_false,if_true,bne_self_eq_false,cond_false,q3,Option.bind_some]
  ·have hb:(b.2.2 != -1&&b.2.2 != 1)=true:=by
    rw [Bool.and_eq_true]; exact ⟨bne_iff_ne.2 (by omega),bne_iff_ne.2 (by omega)⟩
   have hn:b.2.2≠-1∧b.2.2≠1:=by omega
   rw [hb,if_pos h0,if_neg (show ¬ aM (rv b)≠0 from fun c=>c h0),if_pos hn]
   rfl
 ·have hb:(aM (rv b) != 0)=true:=bne_iff_ne.2 h0
  rw [if_neg h0,if_pos h0,hb]
  rfl
def less (a b:dR):Bool:=if a.2.1≠b.2.1 then decide (a.2.1 < b.2.1) else if a.1≠b.1 then decide (a.1 < b.1) else decide (a.2.2 < b.2.2)
theorem G6 (N:Nat) (a b:dR):U4 N (a,b)=some (less a b):=by
 rw [KE]
 unfold less
 by_cases h1:a.2.1=b.2.1
 ·by_cases h2:a.1=b.1
  ·simp [h1,h2]
  ·have hb:(a.1 != b.1)=true:=bne_iff_ne.2 h2
   simp [h1,h2,hb]
 ·have hb:(a.2.1 != b.2.1)=true:=bne_iff_ne.2 h1
  simp [h1,hb]
def G7 (a b:Int):Int:=if a < b then -1 else if a > b then 1 else 0
theorem PE (N:Nat) (a b:Int):GI N (a,b)=some (G7 a b):=by
 rw [N6]
 simp only [N4,bne_self_eq_false,Option.bind_some,cond_false]
 unfold G7
 by_cases h1:a < b
 ·simp [h1]
 ·by_cases h2:a > b <;> simp [h1,h2]
theorem Eg {N:Nat} (hN:fq N) (l:List Int) (hl:l.length≤9223372036854775806):NZ N l=some (aY l):=by
 obtain ⟨o,h1,h2⟩:=mA (rd:=uo N l) l (fun k hk=>by
  have hd:=fV n3 l k hk
  have e1:d3 (ah (List.map n3 l) k)=l[k]:=by rw [hd]; rfl
  have e2:aj.fits p3 (ah (List.map n3 l) k)=true:=by rw [hd]; rfl
  simp only [uo,List.length_map,Int.toNat_natCast,e1,e2,bk (show k < 9223372036854775807 by omega),bc hk,aI hk,Bool.and_self,cond_true]
  by_cases hz:l[k]=0
  ·simp [hz]
  ·simp [hz,Bool.cond_eq_ite]) (by simp only [uo,List.length_map,bq,cond_false]) N (by unfold fq at hN; omega)
 rw [N1,h1,Option.bind_some]
 rcases o with o | o
 ·simpa using h2
 ·simpa using h2
def Ue (a b:dR):Int:=aY [G7 a.2.1 b.2.1,G7 a.1 b.1,G7 a.2.2 b.2.2]
theorem KT {N:Nat} (hN:fq N) (a b:dR):JO N (a,b)=some (Ue a b):=by
 rw [N8]
 simp only [PE,Option.bind_some,beq_self_eq_true,Bool.and_self,cond_true]
 have h3:∀ x y z:Int,((bif allFit (aj.fits p3) [AV.int .i64 x,AV.int .i64 y,AV.int .i64 z]&&true then some (List.map d3 [AV.int .i64 x,AV.int .i64 y,AV.int .i64 z]) else none:Option (List Int)))=some [x,y,z]:=fun x y z=>rfl
 rw [h3]
 simp only [Option.bind_some]
 rw [Eg hN _ (by simp)]
 rfl
theorem G8 (a b:dR):decide (Ue a b≥0)=!less a b:=by
 unfold Ue less G7
 simp only [aY]
 by_cases h1:a.2.1 < b.2.1
 ·have:a.2.1≠b.2.1:=by omega
  simp [h1,this]
 ·by_cases h2:a.2.1 > b.2.1
  ·have:a.2.1≠b.2.1:=by omega
   simp [h1,h2,this]
  ·have:a.2.1=b.2.1:=by omega
   simp only [h1,h2,this,if_false,if_true,ne_eq,not_true_eq_false]
   by_cases h3:a.1 < b.1
   ·have:a.1≠b.1:=by omega
    simp [h3,this]
   ·by_cases h4:a.1 > b.1
    ·have:a.1≠b.1:=by omega
     simp [h3,h4,this]
    ·have:a.1=b.1:=by omega
     simp only [this,if_false,if_true,not_true_eq_false,Int.lt_irrefl,gt_iff_lt]
     by_cases h5:a.2.2 < b.2.2
     ·simp [h5]
     ·by_cases h6:b.2.2 < a.2.2 <;> simp [h5,h6]
def PF (l:List dR) (k:Nat):Int:=if pW (l.getD k (0,0,0))≠0 then pW (l.getD k (0,0,0)) else if 0 < k∧less (l.getD (k - 1) (0,0,0)) (l.getD k (0,0,0))=false then 11 else 0
def KU (l:List dR):Int:=if l.length > 4096 then 5 else aY ((List.range l.length).map (PF l))
theorem PG {N:Nat} (hN:fq N) (l:List dR):Sz N l=some (KU l):=by
 rw [SA]
 simp only [List.length_map]
 unfold KU
 by_cases h:l.length > 4096
 ·have h':(l.length:Int) > 4096:=by omega
  simp [h,h']
 ·have h':¬ (l.length:Int) > 4096:=by omega
  have key:=iO (rd:=wA N l) ((List.range l.length).map (PF l)) (fun k hk=>by
   have hk:k < l.length:=by simpa using hk
   obtain ⟨a1,a2⟩:=jg l hk
   rw [List.getElem_map,List.getElem_range]
   have e1:l.getD k (0,0,0)=l[k]:=by simp [hk]
   unfold PF
   rw [e1]
   have q1:JN N (l[k].1,l[k].2.1,l[k].2.2)=_:=KS hN l[k]
   have two:∀ x y:Int,((bif allFit (aj.fits Ac) [AV.int .i64 x,AV.int .i64 y]&&true then some (List.map d26 [AV.int .i64 x,AV.int .i64 y]) else none:Option (List Int)))=some [x,y]:=fun x y=>rfl
   have q5:∀ x y:Int,tP N [x,y]=some (aY [x,y]):=fun x y=>iq hN _ (by simp)
   by_cases uK:k=0
   ·subst uK
    simp only [wA,List.length_map,Int.toNat_natCast,a1,a2,bc hk,aI hk,Bool.and_self,cond_true,q1,Option.bind_some,two,q5,jA,bk (show 0 < 9223372036854775807 by omega),show decide (((0:Nat):Int) > 0)=false from rfl,cond_false]
    by_cases h0:pW l[0]=0
    ·simp [h0,aY]
    ·have hb:(pW l[0] != 0)=true:=bne_iff_ne.2 h0
     simp [h0,hb,aY]
   ·have Fo:k - 1 < l.length:=by omega
    obtain ⟨b1,b2⟩:=jg l Fo
    have e2:l.getD (k - 1) (0,0,0)=l[k - 1]:=by simp [Fo]
    rw [e2]
    have ew:IntKind.wrap .i64 ((k:Int) - 1)=((k - 1:Nat):Int):=by rw [gY (by omega)]; omega
    have em:(if ((k - 1:Nat):Int) > 0 then ((k - 1:Nat):Int) else 0)=((k - 1:Nat):Int):=by split <;> omega
    have hp:decide ((k:Int) > 0)=true:=decide_eq_true (by omega)
    have q2:JO N ((l[k - 1].1,l[k - 1].2.1,l[k - 1].2.2),(l[k].1,l[k].2.1,l[k].2.2))=_:=KT hN l[k - 1] l[k]
    simp only [wA,List.length_map,Int.toNat_natCast,a1,a2,bc hk,aI hk,Bool.and_self,cond_true,q1,Option.bind_some,hp,ew,em,b1,b2,aI Fo,q2,jA,G8,two,q5,bk (show k < 9223372036854775807 by omega)]
    by_cases h0:pW l[k]=0
    ·cases less l[k - 1] l[k] with
     | true=>simp [h0,aY]
     | false=>simp [h0,aY,show 0 < k by omega]
    ·have hb:(pW l[k] != 0)=true:=bne_iff_ne.2 h0
     simp [h0,hb,aY]) (by
   rw [List.length_map,List.length_range]
   simp only [wA,List.length_map,bq,cond_false]) N (by unfold fq at hN; rw [List.length_map,List.length_range]; omega)
  rw [if_neg h]
  simp only [h',decide_false,cond_false,key,Option.bind_some]
  split <;> simp_all
end Go.Proofs.YtldcljfjjoidhaaGreatDoor
