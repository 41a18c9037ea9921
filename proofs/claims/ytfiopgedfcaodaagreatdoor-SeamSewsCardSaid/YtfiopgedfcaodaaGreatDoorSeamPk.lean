/- Plain laws: bars and nets are checked. -/
import Derived.Test.YtfiopgedfcaodaaGreatDoorSeamPc
import Derived.Test.YtfiopgedfcaodaaGreatDoorSeamTg
import Derived.Test.YtfiopgedfcaodaaGreatDoorAmKL
set_option linter.all false
namespace Go.Proofs.YtfiopgedfcaodaaGreatDoor
open Go Go.Am
set_option maxRecDepth 100000
def upK (b:P3):Int × Int:=(IntKind.wrap .i64 (b.1 + b.2.2),IntKind.wrap .i64 (b.2.1 + 1))
def loK (b:P3):Int × Int:=(b.1,b.2.1)
theorem T197_ends (N:Nat) (b:P3):T197 N b = some (b.1,b.2.1,upK b):=by rw [T197_eq]; rfl
theorem T141_lo (N:Nat) (b:P3):T141 N b = some (loK b):=by rw [T141_eq]; rfl
theorem T142_up (N:Nat) (b:P3):T142 N b = some (upK b):=by rw [T142_eq]; rfl
theorem T127_ends (N:Nat) (b:P3):T127 N b = some (b.1,b.2.1,upK b):=by
 rw [T127_eq]
 simp only [T141_lo,T142_up,beq_self_eq_true,Bool.and_self,cond_true,Option.bind_some]
 rfl
def chkB (b:P3):Int:=if knotErr (loK b) ≠ 0 then knotErr (loK b) else if b.2.2 ≠ -1 ∧ b.2.2 ≠ 1 then 13 else knotErr (upK b)
theorem T171_reach {N:Nat} (hN:Big N) (p:Int × Int):T171 N p = some (firstNZ [rng p.1 (-100000) 100000,rng p.2 (-100000) 100000]):=by
 rw [T171_eq]
 simp only [T198_rng,Option.bind_some,beq_self_eq_true,Bool.and_self,cond_true]
 rw [two24]
 simp only [Option.bind_some]
 rw [T167_first hN _ (by simp)]
 rfl
theorem up_reach (b:P3) (h0:knotErr (loK b) = 0) (h1:b.2.2 = -1 ∨ b.2.2 = 1):firstNZ [rng (upK b).1 (-100000) 100000,rng (upK b).2 (-100000) 100000] = knotErr (upK b):=by
 unfold knotErr loK at h0
 simp only at h0
 split at h0
 ·cases h0
 ·rename_i hr
  split at h0
  ·rename_i hp
   have e1:(upK b).1 = b.1 + b.2.2:=w64 (by omega)
   have e2:(upK b).2 = b.2.1 + 1:=w64 (by omega)
   unfold knotErr
   rw [e1,e2]
   have hp2:(b.1 + b.2.2 + (b.2.1 + 1)) % 2 = 0:=by omega
   rw [if_pos hp2]
   unfold rng
   simp only [firstNZ]
   by_cases c1:b.1 + b.2.2 < -100000 ∨ b.1 + b.2.2 > 100000
   ·have c:b.1 + b.2.2 < -100000 ∨ b.1 + b.2.2 > 100000 ∨ b.2.1 + 1 < -100000 ∨ b.2.1 + 1 > 100000:=by omega
    rw [if_pos c,if_pos c1]; rfl
   ·rw [if_neg c1]
    by_cases c2:b.2.1 + 1 < -100000 ∨ b.2.1 + 1 > 100000
    ·have c:b.1 + b.2.2 < -100000 ∨ b.1 + b.2.2 > 100000 ∨ b.2.1 + 1 < -100000 ∨ b.2.1 + 1 > 100000:=by omega
     rw [if_pos c,if_pos c2]; rfl
    ·have c:¬ (b.1 + b.2.2 < -100000 ∨ b.1 + b.2.2 > 100000 ∨ b.2.1 + 1 < -100000 ∨ b.2.1 + 1 > 100000):=by omega
     rw [if_neg c,if_neg c2]; rfl
  ·cases h0
theorem T168_chk {N:Nat} (hN:Big N) (b:P3):T168 N b = some (chkB b):=by
 rw [T168_eq]
 have q1:T130 N (b.1,b.2.1) = some (knotErr (loK b)):=T130_knot hN _
 simp only [q1,T169_when,Option.bind_some,beq_self_eq_true,Bool.and_self,cond_true,T197_ends]
 have q2:∀ s t:Bool,((bif s then ((bif allFit (Pat.fits p24) [AV.int .i64 (knotErr (loK b)),AV.int .i64 (if t = true then 13 else 0)] && true then some (List.map d24 [AV.int .i64 (knotErr (loK b)),AV.int .i64 (if t = true then 13 else 0)]) else none:Option (List Int)).bind fun x=>(T167 N x).bind fun y=>some y) else ((bif allFit (Pat.fits p24) [AV.int .i64 (knotErr (loK b)),AV.int .i64 (if false = true then 13 else 0)] && true then some (List.map d24 [AV.int .i64 (knotErr (loK b)),AV.int .i64 (if false = true then 13 else 0)]) else none:Option (List Int)).bind fun x=>(T167 N x).bind fun y=>some y)):Option Int) = some (firstNZ [knotErr (loK b),if s && t then 13 else 0]):=fun s t=>by
  rw [two24,two24]
  simp only [Option.bind_some]
  rw [T167_first hN _ (by simp),T167_first hN _ (by simp)]
  cases s <;> cases t <;> rfl
 rw [q2,Option.bind_some]
 have q3:T171 N ((upK b).1,(upK b).2) = _:=T171_reach hN (upK b)
 unfold chkB
 simp only [firstNZ]
 by_cases h0:knotErr (loK b) = 0
 ·by_cases h1:b.2.2 = -1 ∨ b.2.2 = 1
  ·have hb:(b.2.2 != -1 && b.2.2 != 1) = false:=by rcases h1 with h | h <;> rw [h] <;> rfl
   rw [hb]
   have hn:¬ (b.2.2 ≠ -1 ∧ b.2.2 ≠ 1):=by omega
   rw [if_pos h0,if_neg (show ¬ knotErr (loK b) ≠ 0 from fun c=>c h0),if_neg hn,← up_reach b h0 h1]
   simp only [Bool.false_eq_true,if_false,if_true,bne_self_eq_false,cond_false,q3,Option.bind_some]
  ·have hb:(b.2.2 != -1 && b.2.2 != 1) = true:=by
    rw [Bool.and_eq_true]; exact ⟨bne_iff_ne.2 (by omega),bne_iff_ne.2 (by omega)⟩
   have hn:b.2.2 ≠ -1 ∧ b.2.2 ≠ 1:=by omega
   rw [hb,if_pos h0,if_neg (show ¬ knotErr (loK b) ≠ 0 from fun c=>c h0),if_pos hn]
   rfl
 ·have hb:(knotErr (loK b) != 0) = true:=bne_iff_ne.2 h0
  rw [if_neg h0,if_pos h0,hb]
  rfl
theorem T137_chk (N:Nat) (b:P3):T137 N b = some (chkB b):=by
 rw [T137_eq]
 have q1:T134 N ((loK b).1,(loK b).2) = _:=T134_knot N (loK b)
 have q2:T134 N ((upK b).1,(upK b).2) = _:=T134_knot N (upK b)
 have q0:T141 N (b.1,b.2.1,b.2.2) = _:=T141_lo N b
 have q3:T142 N (b.1,b.2.1,b.2.2) = _:=T142_up N b
 simp only [q0,q1,q3,q2,Option.bind_some]
 unfold chkB
 by_cases h0:knotErr (loK b) = 0
 ·rw [h0]
  by_cases h1:b.2.2 = 1
  ·rw [h1]; rfl
  ·have hb:(b.2.2 != 1) = true:=bne_iff_ne.2 h1
   by_cases h2:b.2.2 = -1
   ·rw [h2]; rfl
   ·have hb2:(b.2.2 != -1) = true:=bne_iff_ne.2 h2
    rw [hb,hb2,if_neg (show ¬ (0:Int) ≠ 0 from fun c=>c rfl),if_pos ⟨h2,h1⟩]
    rfl
 ·have hb:(knotErr (loK b) == 0) = false:=beq_false_of_ne h0
  rw [if_pos h0,hb]
  simp only [cond_false,Option.bind_some,hb]
def less (a b:P3):Bool:=if a.2.1 ≠ b.2.1 then decide (a.2.1 < b.2.1) else if a.1 ≠ b.1 then decide (a.1 < b.1) else decide (a.2.2 < b.2.2)
theorem T138_less (N:Nat) (a b:P3):T138 N (a,b) = some (less a b):=by
 rw [T138_eq]
 unfold less
 by_cases h1:a.2.1 = b.2.1
 ·by_cases h2:a.1 = b.1
  ·simp [h1,h2]
  ·have hb:(a.1 != b.1) = true:=bne_iff_ne.2 h2
   simp [h1,h2,hb]
 ·have hb:(a.2.1 != b.2.1) = true:=bne_iff_ne.2 h1
  simp [h1,hb]
def cmp3 (a b:Int):Int:=if a < b then -1 else if a > b then 1 else 0
theorem T161_c3 (N:Nat) (a b:Int):T161 N (a,b) = some (cmp3 a b):=by
 rw [T161_eq]
 simp only [T195_eq,bne_self_eq_false,Option.bind_some,cond_false]
 unfold cmp3
 by_cases h1:a < b
 ·simp [h1]
 ·by_cases h2:a > b <;> simp [h1,h2]
theorem T166_first {N:Nat} (hN:Big N) (l:List Int) (hl:l.length ≤ 9223372036854775806):T166 N l = some (firstNZ l):=by
 obtain ⟨o,h1,h2⟩:=first_loop (rd:=R166x58 N l) l (fun k hk=>by
  have hd:=nthD_map n3 l k hk
  have e1:d3 (nthD (List.map n3 l) k) = l[k]:=by rw [hd]; rfl
  have e2:Pat.fits p3 (nthD (List.map n3 l) k) = true:=by rw [hd]; rfl
  simp only [R166x58,List.length_map,Int.toNat_natCast,e1,e2,w_succ (show k < 9223372036854775807 by omega),lt_range hk,in_range hk,Bool.and_self,cond_true]
  by_cases hz:l[k] = 0
  ·simp [hz]
  ·simp [hz,Bool.cond_eq_ite]) (by simp only [R166x58,List.length_map,ge_range,cond_false]) N (by unfold Big at hN; omega)
 rw [T166_eq,h1,Option.bind_some]
 rcases o with o | o
 ·simpa using h2
 ·simpa using h2
def cmpB (a b:P3):Int:=firstNZ [cmp3 a.2.1 b.2.1,cmp3 a.1 b.1,cmp3 a.2.2 b.2.2]
theorem T170_cmp {N:Nat} (hN:Big N) (a b:P3):T170 N (a,b) = some (cmpB a b):=by
 rw [T170_eq]
 simp only [T161_c3,Option.bind_some,beq_self_eq_true,Bool.and_self,cond_true]
 have h3:∀ x y z:Int,((bif allFit (Pat.fits p3) [AV.int .i64 x,AV.int .i64 y,AV.int .i64 z] && true then some (List.map d3 [AV.int .i64 x,AV.int .i64 y,AV.int .i64 z]) else none:Option (List Int))) = some [x,y,z]:=fun x y z=>rfl
 rw [h3]
 simp only [Option.bind_some]
 rw [T166_first hN _ (by simp)]
 rfl
theorem cmpB_less (a b:P3):decide (cmpB a b ≥ 0) = !less a b:=by
 unfold cmpB less cmp3
 simp only [firstNZ]
 by_cases h1:a.2.1 < b.2.1
 ·have:a.2.1 ≠ b.2.1:=by omega
  simp [h1,this]
 ·by_cases h2:a.2.1 > b.2.1
  ·have:a.2.1 ≠ b.2.1:=by omega
   simp [h1,h2,this]
  ·have:a.2.1 = b.2.1:=by omega
   simp only [h1,h2,this,if_false,if_true,ne_eq,not_true_eq_false]
   by_cases h3:a.1 < b.1
   ·have:a.1 ≠ b.1:=by omega
    simp [h3,this]
   ·by_cases h4:a.1 > b.1
    ·have:a.1 ≠ b.1:=by omega
     simp [h3,h4,this]
    ·have:a.1 = b.1:=by omega
     simp only [this,if_false,if_true,not_true_eq_false,Int.lt_irrefl,gt_iff_lt]
     by_cases h5:a.2.2 < b.2.2
     ·simp [h5]
     ·by_cases h6:b.2.2 < a.2.2 <;> simp [h5,h6]
def errN (l:List P3) (k:Nat):Int:=if chkB (l.getD k (0,0,0)) ≠ 0 then chkB (l.getD k (0,0,0)) else if 0 < k ∧ less (l.getD (k - 1) (0,0,0)) (l.getD k (0,0,0)) = false then 11 else 0
def chkN (l:List P3):Int:=if l.length > 4096 then 5 else firstNZ ((List.range l.length).map (errN l))
theorem at120 (C:List P3) {k:Nat} (hk:k < C.length):d120 (nthD (List.map n120 C) k) = C[k] ∧ Pat.fits p120 (nthD (List.map n120 C) k) = true:=by
 rw [nthD_map n120 C k hk,dn120,fn120]; exact ⟨rfl,rfl⟩
theorem T65_chk {N:Nat} (hN:Big N) (l:List P3):T65 N l = some (chkN l):=by
 rw [T65_eq]
 simp only [List.length_map]
 unfold chkN
 by_cases h:l.length > 4096
 ·have h':(l.length:Int) > 4096:=by omega
  simp [h,h']
 ·have h':¬ (l.length:Int) > 4096:=by omega
  have key:=first_loop2 (rd:=R65x58 N l) ((List.range l.length).map (errN l)) (fun k hk=>by
   have hk:k < l.length:=by simpa using hk
   obtain ⟨a1,a2⟩:=at120 l hk
   rw [List.getElem_map,List.getElem_range]
   have e1:l.getD k (0,0,0) = l[k]:=by simp [hk]
   unfold errN
   rw [e1]
   have q1:T137 N (l[k].1,l[k].2.1,l[k].2.2) = _:=T137_chk N l[k]
   simp only [R65x58,List.length_map,Int.toNat_natCast,a1,a2,lt_range hk,in_range hk,Bool.and_self,cond_true,q1,Option.bind_some,w_succ (show k < 9223372036854775807 by omega)]
   by_cases h0:chkB l[k] = 0
   ·rw [h0]
    by_cases hk0:k = 0
    ·subst hk0; rfl
    ·have hk1:k - 1 < l.length:=by omega
     obtain ⟨b1,b2⟩:=at120 l hk1
     have e2:l.getD (k - 1) (0,0,0) = l[k - 1]:=by simp [hk1]
     rw [e2]
     have ew:IntKind.wrap .i64 ((k:Int) - 1) = ((k - 1:Nat):Int):=by rw [w64 (by omega)]; omega
     have hp:decide ((k:Int) > 0) = true:=decide_eq_true (by omega)
     have q2:T138 N ((l[k - 1].1,l[k - 1].2.1,l[k - 1].2.2),(l[k].1,l[k].2.1,l[k].2.2)) = _:=T138_less N l[k - 1] l[k]
     simp only [hp,ew,Int.toNat_natCast,b1,b2,in_range hk1,Bool.and_self,cond_true,q2,Option.bind_some,bne_self_eq_false,cond_false]
     cases less l[k - 1] l[k] with
     | true=>simp
     | false=>simp [show 0 < k by omega]
   ·have hb:(chkB l[k] != 0) = true:=bne_iff_ne.2 h0
    simp [hb,h0]) (by
   rw [List.length_map,List.length_range]
   simp only [R65x58,List.length_map,ge_range,cond_false]) N (by unfold Big at hN; rw [List.length_map,List.length_range]; omega)
  rw [if_neg h]
  simp only [h',decide_false,cond_false,key,Option.bind_some]
  split <;> simp_all
theorem T117_chk {N:Nat} (hN:Big N) (l:List P3):T117 N l = some (chkN l):=by
 rw [T117_eq]
 simp only [List.length_map]
 unfold chkN
 by_cases h:l.length > 4096
 ·have h':(l.length:Int) > 4096:=by omega
  simp [h,h']
 ·have h':¬ (l.length:Int) > 4096:=by omega
  have key:=first_loop2 (rd:=R117x58 N l) ((List.range l.length).map (errN l)) (fun k hk=>by
   have hk:k < l.length:=by simpa using hk
   obtain ⟨a1,a2⟩:=at120 l hk
   rw [List.getElem_map,List.getElem_range]
   have e1:l.getD k (0,0,0) = l[k]:=by simp [hk]
   unfold errN
   rw [e1]
   have q1:T168 N (l[k].1,l[k].2.1,l[k].2.2) = _:=T168_chk hN l[k]
   have two:∀ x y:Int,((bif allFit (Pat.fits p24) [AV.int .i64 x,AV.int .i64 y] && true then some (List.map d24 [AV.int .i64 x,AV.int .i64 y]) else none:Option (List Int))) = some [x,y]:=fun x y=>rfl
   have q5:∀ x y:Int,T167 N [x,y] = some (firstNZ [x,y]):=fun x y=>T167_first hN _ (by simp)
   by_cases hk0:k = 0
   ·subst hk0
    simp only [R117x58,List.length_map,Int.toNat_natCast,a1,a2,lt_range hk,in_range hk,Bool.and_self,cond_true,q1,Option.bind_some,two,q5,T169_when,w_succ (show 0 < 9223372036854775807 by omega),show decide (((0:Nat):Int) > 0) = false from rfl,cond_false]
    by_cases h0:chkB l[0] = 0
    ·simp [h0,firstNZ]
    ·have hb:(chkB l[0] != 0) = true:=bne_iff_ne.2 h0
     simp [h0,hb,firstNZ]
   ·have hk1:k - 1 < l.length:=by omega
    obtain ⟨b1,b2⟩:=at120 l hk1
    have e2:l.getD (k - 1) (0,0,0) = l[k - 1]:=by simp [hk1]
    rw [e2]
    have ew:IntKind.wrap .i64 ((k:Int) - 1) = ((k - 1:Nat):Int):=by rw [w64 (by omega)]; omega
    have em:(if ((k - 1:Nat):Int) > 0 then ((k - 1:Nat):Int) else 0) = ((k - 1:Nat):Int):=by split <;> omega
    have hp:decide ((k:Int) > 0) = true:=decide_eq_true (by omega)
    have q2:T170 N ((l[k - 1].1,l[k - 1].2.1,l[k - 1].2.2),(l[k].1,l[k].2.1,l[k].2.2)) = _:=T170_cmp hN l[k - 1] l[k]
    simp only [R117x58,List.length_map,Int.toNat_natCast,a1,a2,lt_range hk,in_range hk,Bool.and_self,cond_true,q1,Option.bind_some,hp,ew,em,b1,b2,in_range hk1,q2,T169_when,cmpB_less,two,q5,w_succ (show k < 9223372036854775807 by omega)]
    by_cases h0:chkB l[k] = 0
    ·cases less l[k - 1] l[k] with
     | true=>simp [h0,firstNZ]
     | false=>simp [h0,firstNZ,show 0 < k by omega]
    ·have hb:(chkB l[k] != 0) = true:=bne_iff_ne.2 h0
     simp [h0,hb,firstNZ]) (by
   rw [List.length_map,List.length_range]
   simp only [R117x58,List.length_map,ge_range,cond_false]) N (by unfold Big at hN; rw [List.length_map,List.length_range]; omega)
  rw [if_neg h]
  simp only [h',decide_false,cond_false,key,Option.bind_some]
  split <;> simp_all
end Go.Proofs.YtfiopgedfcaodaaGreatDoor
