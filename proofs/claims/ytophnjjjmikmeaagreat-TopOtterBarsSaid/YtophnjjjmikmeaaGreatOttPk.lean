/- Plain laws: bars and nets are checked. -/
import Derived.Test.YtophnjjjmikmeaaGreatOttU
import Derived.Test.YtophnjjjmikmeaaGreatOttPh
set_option linter.all false
namespace Go.Proofs.YtophnjjjmikmeaaGreat
open Go Go.Am
set_option maxRecDepth 100000
abbrev aV:=Int × Int × Int
theorem xL (N:Nat) (b:Bool) (e:Int):Mc N (b,e)=some (if b then e else 0):=by rw [Bq]; cases b <;> rfl
theorem Dc (x y:Int):((bif allFit (aj.fits u0) [AV.int .i64 x,AV.int .i64 y]&&true then some (List.map d30 [AV.int .i64 x,AV.int .i64 y]) else none:Option (List Int)))=some [x,y]:=rfl
def eT (b:aV):Int × Int:=(IntKind.wrap .i64 (b.1+b.2.2),IntKind.wrap .i64 (b.2.1+1))
def dq (b:aV):Int × Int:=(b.1,b.2.1)
theorem xM (N:Nat) (b:aV):GK N b=some (b.1,b.2.1,eT b):=by rw [Bu]; rfl
theorem Ss (N:Nat) (b:aV):Vw N b=some (dq b):=by rw [RW]; rfl
theorem Su (N:Nat) (b:aV):Vx N b=some (eT b):=by rw [RY]; rfl
def gW (b:aV):Int:=if aP (dq b)≠0 then aP (dq b) else if b.2.2≠-1∧b.2.2≠1 then 13 else aP (eT b)
theorem z6 {N:Nat} (hN:gU N) (p:Int × Int):N2 N p=some (bg [uz p.1 (-100000) 100000,uz p.2 (-100000) 100000]):=by
 rw [KY]
 simp only [GN,Option.bind_some,beq_self_eq_true,Bool.and_self,cond_true]
 rw [Dc]
 simp only [Option.bind_some]
 rw [fc hN _ (by simp)]
 rfl
theorem Lf (b:aV) (h0:aP (dq b)=0) (h1:b.2.2=-1∨b.2.2=1):bg [uz (eT b).1 (-100000) 100000,uz (eT b).2 (-100000) 100000]=aP (eT b):=by
 unfold aP dq at h0
 simp only at h0
 split at h0
 ·cases h0
 ·rename_i hr
  split at h0
  ·rename_i hp
   have e1:(eT b).1=b.1+b.2.2:=jA (by omega)
   have e2:(eT b).2=b.2.1+1:=jA (by omega)
   unfold aP
   rw [e1,e2]
   have hp2:(b.1+b.2.2+(b.2.1+1)) % 2=0:=by omega
   rw [if_pos hp2]
   unfold uz
   simp only [bg]
   by_cases c1:b.1+b.2.2 < -100000∨b.1+b.2.2 > 100000
   ·have c:b.1+b.2.2 < -100000∨b.1+b.2.2 > 100000∨b.2.1+1 < -100000∨b.2.1+1 > 100000:=by omega
    rw [if_pos c,if_pos c1]; rfl
   ·rw [if_neg c1]
    by_cases c2:b.2.1+1 < -100000∨b.2.1+1 > 100000
    ·have c:b.1+b.2.2 < -100000∨b.1+b.2.2 > 100000∨b.2.1+1 < -100000∨b.2.1+1 > 100000:=by omega
     rw [if_pos c,if_pos c2]; rfl
    ·have c:¬ (b.1+b.2.2 < -100000∨b.1+b.2.2 > 100000∨b.2.1+1 < -100000∨b.2.1+1 > 100000):=by omega
     rw [if_neg c,if_neg c2]; rfl
  ·cases h0
theorem Og {N:Nat} (hN:gU N) (b:aV):VG N b=some (gW b):=by
 rw [Sh]
 have q1:N3 N (b.1,b.2.1)=some (aP (dq b)):=rN hN _
 simp only [q1,xL,Option.bind_some,beq_self_eq_true,Bool.and_self,cond_true,xM]
 have q2:∀ s t:Bool,((bif s then ((bif allFit (aj.fits u0) [AV.int .i64 (aP (dq b)),AV.int .i64 (if t=true then 13 else 0)]&&true then some (List.map d30 [AV.int .i64 (aP (dq b)),AV.int .i64 (if t=true then 13 else 0)]) else none:Option (List Int)).bind fun x=>(DJ N x).bind fun y=>some y) else ((bif allFit (aj.fits u0) [AV.int .i64 (aP (dq b)),AV.int .i64 (if false=true then 13 else 0)]&&true then some (List.map d30 [AV.int .i64 (aP (dq b)),AV.int .i64 (if false=true then 13 else 0)]) else none:Option (List Int)).bind fun x=>(DJ N x).bind fun y=>some y)):Option Int)=some (bg [aP (dq b),if s&&t then 13 else 0]):=fun s t=>by
  rw [Dc,Dc]
  simp only [Option.bind_some]
  rw [fc hN _ (by simp),fc hN _ (by simp)]
  cases s <;> cases t <;> rfl
 rw [q2,Option.bind_some]
 have q3:N2 N ((eT b).1,(eT b).2)=_:=z6 hN (eT b)
 unfold gW
 simp only [bg]
 by_cases h0:aP (dq b)=0
 ·by_cases h1:b.2.2=-1∨b.2.2=1
  ·have hb:(b.2.2 != -1&&b.2.2 != 1)=false:=by rcases h1 with h | h <;> rw [h] <;> rfl
   rw [hb]
   have hn:¬ (b.2.2≠-1∧b.2.2≠1):=by omega
   rw [if_pos h0,if_neg (show ¬ aP (dq b)≠0 from fun c=>c h0),if_neg hn,← Lf b h0 h1]
   simp only [Bool.false_eq_true,if_false,if_true,bne_self_eq_false,cond_false,q3,Option.bind_some]
  ·have hb:(b.2.2 != -1&&b.2.2 != 1)=true:=by
    rw [Bool.and_eq_true]; exact ⟨bne_iff_ne.2 (by omega),bne_iff_ne.2 (by omega)⟩
   have hn:b.2.2≠-1∧b.2.2≠1:=by omega
   rw [hb,if_pos h0,if_neg (show ¬ aP (dq b)≠0 from fun c=>c h0),if_pos hn]
   rfl
 ·have hb:(aP (dq b) != 0)=true:=bne_iff_ne.2 h0
  rw [if_neg h0,if_pos h0,hb]
  rfl
theorem Oh (N:Nat) (b:aV):Vy N b=some (gW b):=by
 rw [R6]
 have q1:N4 N ((dq b).1,(dq b).2)=_:=xG N (dq b)
 have q2:N4 N ((eT b).1,(eT b).2)=_:=xG N (eT b)
 have q0:Vw N (b.1,b.2.1,b.2.2)=_:=Ss N b
 have q3:Vx N (b.1,b.2.1,b.2.2)=_:=Su N b
 simp only [q0,q1,q3,q2,Option.bind_some]
 unfold gW
 by_cases h0:aP (dq b)=0
 ·rw [h0]
  by_cases h1:b.2.2=1
  ·rw [h1]; rfl
  ·have hb:(b.2.2 != 1)=true:=bne_iff_ne.2 h1
   by_cases h2:b.2.2=-1
   ·rw [h2]; rfl
   ·have EQ:(b.2.2 != -1)=true:=bne_iff_ne.2 h2
    rw [hb,EQ,if_neg (show ¬ (0:Int)≠0 from fun c=>c rfl),if_pos ⟨h2,h1⟩]
    rfl
 ·have hb:(aP (dq b) == 0)=false:=beq_false_of_ne h0
  rw [if_pos h0,hb]
  simp only [cond_false,Option.bind_some,hb]
def less (a b:aV):Bool:=if a.2.1≠b.2.1 then decide (a.2.1 < b.2.1) else if a.1≠b.1 then decide (a.1 < b.1) else decide (a.2.2 < b.2.2)
theorem Lg (N:Nat) (a b:aV):Vz N (a,b)=some (less a b):=by
 rw [R8]
 unfold less
 by_cases h1:a.2.1=b.2.1
 ·by_cases h2:a.1=b.1
  ·simp [h1,h2]
  ·have hb:(a.1 != b.1)=true:=bne_iff_ne.2 h2
   simp [h1,h2,hb]
 ·have hb:(a.2.1 != b.2.1)=true:=bne_iff_ne.2 h1
  simp [h1,hb]
def xN (a b:Int):Int:=if a < b then -1 else if a > b then 1 else 0
theorem Sv (N:Nat) (a b:Int):TS N (a,b)=some (xN a b):=by
 rw [Sj]
 simp only [N9,bne_self_eq_false,Option.bind_some,cond_false]
 unfold xN
 by_cases h1:a < b
 ·simp [h1]
 ·by_cases h2:a > b <;> simp [h1,h2]
theorem Iw {N:Nat} (hN:gU N) (l:List Int) (hl:l.length≤9223372036854775806):Xb N l=some (bg l):=by
 obtain ⟨o,h1,h2⟩:=pS (rd:=Bv N l) l (fun k hk=>by
  have hd:=gB n3 l k hk
  have e1:d3 (aw (List.map n3 l) k)=l[k]:=by rw [hd]; rfl
  have e2:aj.fits p3 (aw (List.map n3 l) k)=true:=by rw [hd]; rfl
  simp only [Bv,List.length_map,Int.toNat_natCast,e1,e2,dy (show k < 9223372036854775807 by omega),cu hk,bP hk,Bool.and_self,cond_true]
  by_cases hz:l[k]=0
  ·simp [hz]
  ·simp [hz,Bool.cond_eq_ite]) (by simp only [Bv,List.length_map,du,cond_false]) N (by unfold gU at hN; omega)
 rw [Sl,h1,Option.bind_some]
 rcases o with o | o
 ·simpa using h2
 ·simpa using h2
def uA (a b:aV):Int:=bg [xN a.2.1 b.2.1,xN a.1 b.1,xN a.2.2 b.2.2]
theorem Bz {N:Nat} (hN:gU N) (a b:aV):Oa N (a,b)=some (uA a b):=by
 rw [Sm]
 simp only [Sv,Option.bind_some,beq_self_eq_true,Bool.and_self,cond_true]
 have h3:∀ x y z:Int,((bif allFit (aj.fits p3) [AV.int .i64 x,AV.int .i64 y,AV.int .i64 z]&&true then some (List.map d3 [AV.int .i64 x,AV.int .i64 y,AV.int .i64 z]) else none:Option (List Int)))=some [x,y,z]:=fun x y z=>rfl
 rw [h3]
 simp only [Option.bind_some]
 rw [Iw hN _ (by simp)]
 rfl
theorem z7 (a b:aV):decide (uA a b≥0)=!less a b:=by
 unfold uA less xN
 simp only [bg]
 by_cases h1:a.2.1 < b.2.1
 ·have:a.2.1≠b.2.1:=by omega
  simp [h1,this]
 ·by_cases h2:a.2.1 > b.2.1
  ·have:a.2.1≠b.2.1:=by omega
   simp [h1,h2,this]
  ·have:a.2.1=b.2.1:=by omega
   simp only [h1,h2,this,if_false,if_true,ne_eq,not_true_eq_false]
   by_cases h3:a.1 < b.1
   ·have:a.1≠b.1:=by omega
    simp [h3,this]
   ·by_cases h4:a.1 > b.1
    ·have:a.1≠b.1:=by omega
     simp [h3,h4,this]
    ·have:a.1=b.1:=by omega
     simp only [this,if_false,if_true,not_true_eq_false,Int.lt_irrefl,gt_iff_lt]
     by_cases h5:a.2.2 < b.2.2
     ·simp [h5]
     ·by_cases h6:b.2.2 < a.2.2 <;> simp [h5,h6]
def BA (l:List aV) (k:Nat):Int:=if gW (l.getD k (0,0,0))≠0 then gW (l.getD k (0,0,0)) else if 0 < k∧less (l.getD (k - 1) (0,0,0)) (l.getD k (0,0,0))=false then 11 else 0
def ng (l:List aV):Int:=if l.length > 4096 then 5 else bg ((List.range l.length).map (BA l))
theorem yV (C:List aV) {k:Nat} (hk:k < C.length):d59 (aw (List.map n59 C) k)=C[k]∧aj.fits cN (aw (List.map n59 C) k)=true:=by
 rw [gB n59 C k hk,KX,KW]; exact ⟨rfl,rfl⟩
theorem Sw {N:Nat} (hN:gU N) (l:List aV):T9 N l=some (ng l):=by
 rw [VB]
 simp only [List.length_map]
 unfold ng
 by_cases h:l.length > 4096
 ·have h':(l.length:Int) > 4096:=by omega
  simp [h,h']
 ·have h':¬ (l.length:Int) > 4096:=by omega
  have key:=tY (rd:=GJ N l) ((List.range l.length).map (BA l)) (fun k hk=>by
   have hk:k < l.length:=by simpa using hk
   obtain ⟨a1,a2⟩:=yV l hk
   rw [List.getElem_map,List.getElem_range]
   have e1:l.getD k (0,0,0)=l[k]:=by simp [hk]
   unfold BA
   rw [e1]
   have q1:Vy N (l[k].1,l[k].2.1,l[k].2.2)=_:=Oh N l[k]
   simp only [GJ,List.length_map,Int.toNat_natCast,a1,a2,cu hk,bP hk,Bool.and_self,cond_true,q1,Option.bind_some,dy (show k < 9223372036854775807 by omega)]
   by_cases h0:gW l[k]=0
   ·rw [h0]
    by_cases yx:k=0
    ·subst yx; rfl
    ·have DM:k - 1 < l.length:=by omega
     obtain ⟨b1,b2⟩:=yV l DM
     have e2:l.getD (k - 1) (0,0,0)=l[k - 1]:=by simp [DM]
     rw [e2]
     have ew:IntKind.wrap .i64 ((k:Int) - 1)=((k - 1:Nat):Int):=by rw [jA (by omega)]; omega
     have hp:decide ((k:Int) > 0)=true:=decide_eq_true (by omega)
     have q2:Vz N ((l[k - 1].1,l[k - 1].2.1,l[k - 1].2.2),(l[k].1,l[k].2.1,l[k].2.2))=_:=Lg N l[k - 1] l[k]
     simp only [hp,ew,Int.toNat_natCast,b1,b2,bP DM,Bool.and_self,cond_true,q2,Option.bind_some,bne_self_eq_false,cond_false]
     cases less l[k - 1] l[k] with
     | true=>simp
     | false=>simp [show 0 < k by omega]
   ·have hb:(gW l[k] != 0)=true:=bne_iff_ne.2 h0
    simp [hb,h0]) (by
   rw [List.length_map,List.length_range]
   simp only [GJ,List.length_map,du,cond_false]) N (by unfold gU at hN; rw [List.length_map,List.length_range]; omega)
  rw [if_neg h]
  simp only [h',decide_false,cond_false,key,Option.bind_some]
  split <;> simp_all
theorem rQ {N:Nat} (hN:gU N) (l:List aV):Mg N l=some (ng l):=by
 rw [Sn]
 simp only [List.length_map]
 unfold ng
 by_cases h:l.length > 4096
 ·have h':(l.length:Int) > 4096:=by omega
  simp [h,h']
 ·have h':¬ (l.length:Int) > 4096:=by omega
  have key:=tY (rd:=xD N l) ((List.range l.length).map (BA l)) (fun k hk=>by
   have hk:k < l.length:=by simpa using hk
   obtain ⟨a1,a2⟩:=yV l hk
   rw [List.getElem_map,List.getElem_range]
   have e1:l.getD k (0,0,0)=l[k]:=by simp [hk]
   unfold BA
   rw [e1]
   have q1:VG N (l[k].1,l[k].2.1,l[k].2.2)=_:=Og hN l[k]
   have two:∀ x y:Int,((bif allFit (aj.fits u0) [AV.int .i64 x,AV.int .i64 y]&&true then some (List.map d30 [AV.int .i64 x,AV.int .i64 y]) else none:Option (List Int)))=some [x,y]:=fun x y=>rfl
   have q5:∀ x y:Int,DJ N [x,y]=some (bg [x,y]):=fun x y=>fc hN _ (by simp)
   by_cases yx:k=0
   ·subst yx
    simp only [xD,List.length_map,Int.toNat_natCast,a1,a2,cu hk,bP hk,Bool.and_self,cond_true,q1,Option.bind_some,two,q5,xL,dy (show 0 < 9223372036854775807 by omega),show decide (((0:Nat):Int) > 0)=false from rfl,cond_false]
    by_cases h0:gW l[0]=0
    ·simp [h0,bg]
    ·have hb:(gW l[0] != 0)=true:=bne_iff_ne.2 h0
     simp [h0,hb,bg]
   ·have DM:k - 1 < l.length:=by omega
    obtain ⟨b1,b2⟩:=yV l DM
    have e2:l.getD (k - 1) (0,0,0)=l[k - 1]:=by simp [DM]
    rw [e2]
    have ew:IntKind.wrap .i64 ((k:Int) - 1)=((k - 1:Nat):Int):=by rw [jA (by omega)]; omega
    have em:(if ((k - 1:Nat):Int) > 0 then ((k - 1:Nat):Int) else 0)=((k - 1:Nat):Int):=by split <;> omega
    have hp:decide ((k:Int) > 0)=true:=decide_eq_true (by omega)
    have q2:Oa N ((l[k - 1].1,l[k - 1].2.1,l[k - 1].2.2),(l[k].1,l[k].2.1,l[k].2.2))=_:=Bz hN l[k - 1] l[k]
    simp only [xD,List.length_map,Int.toNat_natCast,a1,a2,cu hk,bP hk,Bool.and_self,cond_true,q1,Option.bind_some,hp,ew,em,b1,b2,bP DM,q2,xL,z7,two,q5,dy (show k < 9223372036854775807 by omega)]
    by_cases h0:gW l[k]=0
    ·cases less l[k - 1] l[k] with
     | true=>simp [h0,bg]
     | false=>simp [h0,bg,show 0 < k by omega]
    ·have hb:(gW l[k] != 0)=true:=bne_iff_ne.2 h0
     simp [h0,hb,bg]) (by
   rw [List.length_map,List.length_range]
   simp only [xD,List.length_map,du,cond_false]) N (by unfold gU at hN; rw [List.length_map,List.length_range]; omega)
  rw [if_neg h]
  simp only [h',decide_false,cond_false,key,Option.bind_some]
  split <;> simp_all
end Go.Proofs.YtophnjjjmikmeaaGreat
