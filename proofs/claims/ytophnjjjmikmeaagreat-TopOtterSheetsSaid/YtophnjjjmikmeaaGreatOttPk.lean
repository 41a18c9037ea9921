/- Plain laws: bars and nets are checked. -/
import Derived.Test.YtophnjjjmikmeaaGreatOttU
import Derived.Test.YtophnjjjmikmeaaGreatOttPh
set_option linter.all false
namespace Go.Proofs.YtophnjjjmikmeaaGreat
open Go Go.Am
set_option maxRecDepth 100000
abbrev cB:=Int × Int × Int
theorem qF (N:Nat) (b:Bool) (e:Int):Ir N (b,e)=some (if b then e else 0):=by rw [zS]; cases b <;> rfl
theorem wA (x y:Int):((bif allFit (aq.fits qW) [AV.int .i64 x,AV.int .i64 y]&&true then some (List.map d30 [AV.int .i64 x,AV.int .i64 y]) else none:Option (List Int)))=some [x,y]:=rfl
def BH (b:cB):Int × Int:=(IntKind.wrap .i64 (b.1+b.2.2),IntKind.wrap .i64 (b.2.1+1))
def sU (b:cB):Int × Int:=(b.1,b.2.1)
theorem IL (N:Nat) (b:cB):TJ N b=some (b.1,b.2.1,BH b):=by rw [O2]; rfl
theorem Pd (N:Nat) (b:cB):Si N b=some (sU b):=by rw [OO]; rfl
theorem Pe (N:Nat) (b:cB):Sj N b=some (BH b):=by rw [OQ]; rfl
def kw (b:cB):Int:=if aP (sU b)≠0 then aP (sU b) else if b.2.2≠-1∧b.2.2≠1 then 13 else aP (BH b)
theorem yG {N:Nat} (hN:gQ N) (p:Int × Int):MA N p=some (aX [qv p.1 (-100000) 100000,qv p.2 (-100000) 100000]):=by
 rw [It]
 simp only [zZ,Option.bind_some,beq_self_eq_true,Bool.and_self,cond_true]
 rw [wA]
 simp only [Option.bind_some]
 rw [di hN _ (by simp)]
 rfl
theorem IM (b:cB) (h0:aP (sU b)=0) (h1:b.2.2=-1∨b.2.2=1):aX [qv (BH b).1 (-100000) 100000,qv (BH b).2 (-100000) 100000]=aP (BH b):=by
 unfold aP sU at h0
 simp only at h0
 split at h0
 ·cases h0
 ·rename_i hr
  split at h0
  ·rename_i hp
   have e1:(BH b).1=b.1+b.2.2:=gf (by omega)
   have e2:(BH b).2=b.2.1+1:=gf (by omega)
   unfold aP
   rw [e1,e2]
   have Zq:(b.1+b.2.2+(b.2.1+1)) % 2=0:=by omega
   rw [if_pos Zq]
   unfold qv
   simp only [aX]
   by_cases c1:b.1+b.2.2 < -100000∨b.1+b.2.2 > 100000
   ·have c:b.1+b.2.2 < -100000∨b.1+b.2.2 > 100000∨b.2.1+1 < -100000∨b.2.1+1 > 100000:=by omega
    rw [if_pos c,if_pos c1]; rfl
   ·rw [if_neg c1]
    by_cases c2:b.2.1+1 < -100000∨b.2.1+1 > 100000
    ·have c:b.1+b.2.2 < -100000∨b.1+b.2.2 > 100000∨b.2.1+1 < -100000∨b.2.1+1 > 100000:=by omega
     rw [if_pos c,if_pos c2]; rfl
    ·have c:¬ (b.1+b.2.2 < -100000∨b.1+b.2.2 > 100000∨b.2.1+1 < -100000∨b.2.1+1 > 100000):=by omega
     rw [if_neg c,if_neg c2]; rfl
  ·cases h0
theorem EA {N:Nat} (hN:gQ N) (b:cB):O3 N b=some (kw b):=by
 rw [O4]
 have q1:MB N (b.1,b.2.1)=some (aP (sU b)):=qC hN _
 simp only [q1,qF,Option.bind_some,beq_self_eq_true,Bool.and_self,cond_true,IL]
 have q2:∀ s t:Bool,((bif s then ((bif allFit (aq.fits qW) [AV.int .i64 (aP (sU b)),AV.int .i64 (if t=true then 13 else 0)]&&true then some (List.map d30 [AV.int .i64 (aP (sU b)),AV.int .i64 (if t=true then 13 else 0)]) else none:Option (List Int)).bind fun x=>(wN N x).bind fun y=>some y) else ((bif allFit (aq.fits qW) [AV.int .i64 (aP (sU b)),AV.int .i64 (if false=true then 13 else 0)]&&true then some (List.map d30 [AV.int .i64 (aP (sU b)),AV.int .i64 (if false=true then 13 else 0)]) else none:Option (List Int)).bind fun x=>(wN N x).bind fun y=>some y)):Option Int)=some (aX [aP (sU b),if s&&t then 13 else 0]):=fun s t=>by
  rw [wA,wA]
  simp only [Option.bind_some]
  rw [di hN _ (by simp),di hN _ (by simp)]
  cases s <;> cases t <;> rfl
 rw [q2,Option.bind_some]
 have q3:MA N ((BH b).1,(BH b).2)=_:=yG hN (BH b)
 unfold kw
 simp only [aX]
 by_cases h0:aP (sU b)=0
 ·by_cases h1:b.2.2=-1∨b.2.2=1
  ·have hb:(b.2.2 != -1&&b.2.2 != 1)=false:=by rcases h1 with h | h <;> rw [h] <;> rfl
   rw [hb]
   have hn:¬ (b.2.2≠-1∧b.2.2≠1):=by omega
   rw [if_pos h0,if_neg (show ¬ aP (sU b)≠0 from fun c=>c h0),if_neg hn,← IM b h0 h1]
   simp only [Bool.false_eq_true,if_false,if_true,bne_self_eq_false,cond_false,q3,Option.bind_some]
  ·have hb:(b.2.2 != -1&&b.2.2 != 1)=true:=by
    rw [Bool.and_eq_true]; exact ⟨bne_iff_ne.2 (by omega),bne_iff_ne.2 (by omega)⟩
   have hn:b.2.2≠-1∧b.2.2≠1:=by omega
   rw [hb,if_pos h0,if_neg (show ¬ aP (sU b)≠0 from fun c=>c h0),if_pos hn]
   rfl
 ·have hb:(aP (sU b) != 0)=true:=bne_iff_ne.2 h0
  rw [if_neg h0,if_pos h0,hb]
  rfl
theorem Lr (N:Nat) (b:cB):Sk N b=some (kw b):=by
 rw [OS]
 have q1:Lf N ((sU b).1,(sU b).2)=_:=wv N (sU b)
 have q2:Lf N ((BH b).1,(BH b).2)=_:=wv N (BH b)
 have q0:Si N (b.1,b.2.1,b.2.2)=_:=Pd N b
 have q3:Sj N (b.1,b.2.1,b.2.2)=_:=Pe N b
 simp only [q0,q1,q3,q2,Option.bind_some]
 unfold kw
 by_cases h0:aP (sU b)=0
 ·rw [h0]
  by_cases h1:b.2.2=1
  ·rw [h1]; rfl
  ·have hb:(b.2.2 != 1)=true:=bne_iff_ne.2 h1
   by_cases h2:b.2.2=-1
   ·rw [h2]; rfl
   ·have Aj:(b.2.2 != -1)=true:=bne_iff_ne.2 h2
    rw [hb,Aj,if_neg (show ¬ (0:Int)≠0 from fun c=>c rfl),if_pos ⟨h2,h1⟩]
    rfl
 ·have hb:(aP (sU b) == 0)=false:=beq_false_of_ne h0
  rw [if_pos h0,hb]
  simp only [cond_false,Option.bind_some,hb]
def less (a b:cB):Bool:=if a.2.1≠b.2.1 then decide (a.2.1 < b.2.1) else if a.1≠b.1 then decide (a.1 < b.1) else decide (a.2.2 < b.2.2)
theorem IN (N:Nat) (a b:cB):Sl N (a,b)=some (less a b):=by
 rw [OU]
 unfold less
 by_cases h1:a.2.1=b.2.1
 ·by_cases h2:a.1=b.1
  ·simp [h1,h2]
  ·have hb:(a.1 != b.1)=true:=bne_iff_ne.2 h2
   simp [h1,h2,hb]
 ·have hb:(a.2.1 != b.2.1)=true:=bne_iff_ne.2 h1
  simp [h1,hb]
def wB (a b:Int):Int:=if a < b then -1 else if a > b then 1 else 0
theorem Pf (N:Nat) (a b:Int):QB N (a,b)=some (wB a b):=by
 rw [O6]
 simp only [Lk,bne_self_eq_false,Option.bind_some,cond_false]
 unfold wB
 by_cases h1:a < b
 ·simp [h1]
 ·by_cases h2:a > b <;> simp [h1,h2]
theorem FW {N:Nat} (hN:gQ N) (l:List Int) (hl:l.length≤9223372036854775806):TL N l=some (aX l):=by
 obtain ⟨o,h1,h2⟩:=oY (rd:=zW N l) l (fun k hk=>by
  have hd:=dv n3 l k hk
  have e1:d3 (av (List.map n3 l) k)=l[k]:=by rw [hd]; rfl
  have e2:aq.fits p3 (av (List.map n3 l) k)=true:=by rw [hd]; rfl
  simp only [zW,List.length_map,Int.toNat_natCast,e1,e2,ea (show k < 9223372036854775807 by omega),ck hk,bV hk,Bool.and_self,cond_true]
  by_cases hz:l[k]=0
  ·simp [hz]
  ·simp [hz,Bool.cond_eq_ite]) (by simp only [zW,List.length_map,cT,cond_false]) N (by unfold gQ at hN; omega)
 rw [O8,h1,Option.bind_some]
 rcases o with o | o
 ·simpa using h2
 ·simpa using h2
def dw (a b:cB):Int:=aX [wB a.2.1 b.2.1,wB a.1 b.1,wB a.2.2 b.2.2]
theorem qG {N:Nat} (hN:gQ N) (a b:cB):FP N (a,b)=some (dw a b):=by
 rw [O9]
 simp only [Pf,Option.bind_some,beq_self_eq_true,Bool.and_self,cond_true]
 have h3:∀ x y z:Int,((bif allFit (aq.fits p3) [AV.int .i64 x,AV.int .i64 y,AV.int .i64 z]&&true then some (List.map d3 [AV.int .i64 x,AV.int .i64 y,AV.int .i64 z]) else none:Option (List Int)))=some [x,y,z]:=fun x y z=>rfl
 rw [h3]
 simp only [Option.bind_some]
 rw [FW hN _ (by simp)]
 rfl
theorem yH (a b:cB):decide (dw a b≥0)=!less a b:=by
 unfold dw less wB
 simp only [aX]
 by_cases h1:a.2.1 < b.2.1
 ·have:a.2.1≠b.2.1:=by omega
  simp [h1,this]
 ·by_cases h2:a.2.1 > b.2.1
  ·have:a.2.1≠b.2.1:=by omega
   simp [h1,h2,this]
  ·have:a.2.1=b.2.1:=by omega
   simp only [h1,h2,this,if_false,if_true,ne_eq,not_true_eq_false]
   by_cases h3:a.1 < b.1
   ·have:a.1≠b.1:=by omega
    simp [h3,this]
   ·by_cases h4:a.1 > b.1
    ·have:a.1≠b.1:=by omega
     simp [h3,h4,this]
    ·have:a.1=b.1:=by omega
     simp only [this,if_false,if_true,not_true_eq_false,Int.lt_irrefl,gt_iff_lt]
     by_cases h5:a.2.2 < b.2.2
     ·simp [h5]
     ·by_cases h6:b.2.2 < a.2.2 <;> simp [h5,h6]
def z7 (l:List cB) (k:Nat):Int:=if kw (l.getD k (0,0,0))≠0 then kw (l.getD k (0,0,0)) else if 0 < k∧less (l.getD (k - 1) (0,0,0)) (l.getD k (0,0,0))=false then 11 else 0
def ky (l:List cB):Int:=if l.length > 4096 then 5 else aX ((List.range l.length).map (z7 l))
theorem FX (C:List cB) {k:Nat} (hk:k < C.length):d59 (av (List.map n59 C) k)=C[k]∧aq.fits b6 (av (List.map n59 C) k)=true:=by
 rw [dv n59 C k hk,xp,xo]; exact ⟨rfl,rfl⟩
theorem Pg {N:Nat} (hN:gQ N) (l:List cB):T9 N l=some (ky l):=by
 rw [Sn]
 simp only [List.length_map]
 unfold ky
 by_cases h:l.length > 4096
 ·have h':(l.length:Int) > 4096:=by omega
  simp [h,h']
 ·have h':¬ (l.length:Int) > 4096:=by omega
  have key:=sP (rd:=Ez N l) ((List.range l.length).map (z7 l)) (fun k hk=>by
   have hk:k < l.length:=by simpa using hk
   obtain ⟨a1,a2⟩:=FX l hk
   rw [List.getElem_map,List.getElem_range]
   have e1:l.getD k (0,0,0)=l[k]:=by simp [hk]
   unfold z7
   rw [e1]
   have q1:Sk N (l[k].1,l[k].2.1,l[k].2.2)=_:=Lr N l[k]
   simp only [Ez,List.length_map,Int.toNat_natCast,a1,a2,ck hk,bV hk,Bool.and_self,cond_true,q1,Option.bind_some,ea (show k < 9223372036854775807 by omega)]
   by_cases h0:kw l[k]=0
   ·rw [h0]
    by_cases Ag:k=0
    ·subst Ag; rfl
    ·have EB:k - 1 < l.length:=by omega
     obtain ⟨b1,b2⟩:=FX l EB
     have e2:l.getD (k - 1) (0,0,0)=l[k - 1]:=by simp [EB]
     rw [e2]
     have ew:IntKind.wrap .i64 ((k:Int) - 1)=((k - 1:Nat):Int):=by rw [gf (by omega)]; omega
     have hp:decide ((k:Int) > 0)=true:=decide_eq_true (by omega)
     have q2:Sl N ((l[k - 1].1,l[k - 1].2.1,l[k - 1].2.2),(l[k].1,l[k].2.1,l[k].2.2))=_:=IN N l[k - 1] l[k]
     simp only [hp,ew,Int.toNat_natCast,b1,b2,bV EB,Bool.and_self,cond_true,q2,Option.bind_some,bne_self_eq_false,cond_false]
     cases less l[k - 1] l[k] with
     | true=>simp
     | false=>simp [show 0 < k by omega]
   ·have hb:(kw l[k] != 0)=true:=bne_iff_ne.2 h0
    simp [hb,h0]) (by
   rw [List.length_map,List.length_range]
   simp only [Ez,List.length_map,cT,cond_false]) N (by unfold gQ at hN; rw [List.length_map,List.length_range]; omega)
  rw [if_neg h]
  simp only [h',decide_false,cond_false,key,Option.bind_some]
  split <;> simp_all
theorem qH {N:Nat} (hN:gQ N) (l:List cB):Js N l=some (ky l):=by
 rw [Pa]
 simp only [List.length_map]
 unfold ky
 by_cases h:l.length > 4096
 ·have h':(l.length:Int) > 4096:=by omega
  simp [h,h']
 ·have h':¬ (l.length:Int) > 4096:=by omega
  have key:=sP (rd:=wj N l) ((List.range l.length).map (z7 l)) (fun k hk=>by
   have hk:k < l.length:=by simpa using hk
   obtain ⟨a1,a2⟩:=FX l hk
   rw [List.getElem_map,List.getElem_range]
   have e1:l.getD k (0,0,0)=l[k]:=by simp [hk]
   unfold z7
   rw [e1]
   have q1:O3 N (l[k].1,l[k].2.1,l[k].2.2)=_:=EA hN l[k]
   have two:∀ x y:Int,((bif allFit (aq.fits qW) [AV.int .i64 x,AV.int .i64 y]&&true then some (List.map d30 [AV.int .i64 x,AV.int .i64 y]) else none:Option (List Int)))=some [x,y]:=fun x y=>rfl
   have q5:∀ x y:Int,wN N [x,y]=some (aX [x,y]):=fun x y=>di hN _ (by simp)
   by_cases Ag:k=0
   ·subst Ag
    simp only [wj,List.length_map,Int.toNat_natCast,a1,a2,ck hk,bV hk,Bool.and_self,cond_true,q1,Option.bind_some,two,q5,qF,ea (show 0 < 9223372036854775807 by omega),show decide (((0:Nat):Int) > 0)=false from rfl,cond_false]
    by_cases h0:kw l[0]=0
    ·simp [h0,aX]
    ·have hb:(kw l[0] != 0)=true:=bne_iff_ne.2 h0
     simp [h0,hb,aX]
   ·have EB:k - 1 < l.length:=by omega
    obtain ⟨b1,b2⟩:=FX l EB
    have e2:l.getD (k - 1) (0,0,0)=l[k - 1]:=by simp [EB]
    rw [e2]
    have ew:IntKind.wrap .i64 ((k:Int) - 1)=((k - 1:Nat):Int):=by rw [gf (by omega)]; omega
    have em:(if ((k - 1:Nat):Int) > 0 then ((k - 1:Nat):Int) else 0)=((k - 1:Nat):Int):=by split <;> omega
    have hp:decide ((k:Int) > 0)=true:=decide_eq_true (by omega)
    have q2:FP N ((l[k - 1].1,l[k - 1].2.1,l[k - 1].2.2),(l[k].1,l[k].2.1,l[k].2.2))=_:=qG hN l[k - 1] l[k]
    simp only [wj,List.length_map,Int.toNat_natCast,a1,a2,ck hk,bV hk,Bool.and_self,cond_true,q1,Option.bind_some,hp,ew,em,b1,b2,bV EB,q2,qF,yH,two,q5,ea (show k < 9223372036854775807 by omega)]
    by_cases h0:kw l[k]=0
    ·cases less l[k - 1] l[k] with
     | true=>simp [h0,aX]
     | false=>simp [h0,aX,show 0 < k by omega]
    ·have hb:(kw l[k] != 0)=true:=bne_iff_ne.2 h0
     simp [h0,hb,aX]) (by
   rw [List.length_map,List.length_range]
   simp only [wj,List.length_map,cT,cond_false]) N (by unfold gQ at hN; rw [List.length_map,List.length_range]; omega)
  rw [if_neg h]
  simp only [h',decide_false,cond_false,key,Option.bind_some]
  split <;> simp_all
end Go.Proofs.YtophnjjjmikmeaaGreat
