/- Plain laws: programs mirrored,worked back,lifted,and put one behind the other. -/
import Derived.Test.YtldcljfjjoidhaaGreatDoorBraPm
import Derived.Test.YtldcljfjjoidhaaGreatDoorBraX
set_option linter.all false
namespace Go.Proofs.YtldcljfjjoidhaaGreatDoor
open Go Go.Am Go.Sort
set_option maxRecDepth 100000
theorem Fk {α β:Type} {rd:List β × Int→Option ((List β × Int) ⊕ List β)} (l:List α) (g:α→β)
  (h:∀ k (hk:k < l.length) (s:List β),s.length=k→rd (s,(k:Int))=some (.inl (s++[g l[k]],((k+1:Nat):Int)))) (h0:∀ s:List β,s.length=l.length→rd (s,(l.length:Int))=some (.inr s)) (n:Nat) (hn:l.length < n) :
  aQ rd n ([],0)=some (l.map g):=by
 have key:=dz (rd:=rd) l.length (fun k=>((l.take k).map g,(k:Int))) (l.map g) (fun k hk=>by
  rw [h k hk _ (by rw [List.length_map,List.length_take]; omega)]
  have e:(l.take (k+1)).map g=(l.take k).map g++[g l[k]]:=by
   rw [List.take_add_one,List.getElem?_eq_getElem hk,List.map_append]
   rfl
  rw [e]) (by
  have e:(l.take l.length).map g=l.map g:=by rw [List.take_length]
  have:=h0 (l.map g) (by rw [List.length_map])
  rw [e]
  exact this) n 0 (Nat.zero_le _) (by omega)
 simpa using key
def CZ (c:cQ):cQ:=(-c.1,c.2.1,!c.2.2.1,c.2.2.2.1,c.2.2.2.2)
def vH (c:cQ):cQ:=((a8 c c.2.2.2.2.toNat).1,(a8 c c.2.2.2.2.toNat).2,!c.2.2.1,!(c.2.2.2.1 == (Int.tmod c.2.2.2.2 2 == 1)),c.2.2.2.2)
def il (dx dy:Int) (c:cQ):cQ:=(IntKind.wrap .i64 (c.1+dx),IntKind.wrap .i64 (c.2.1+dy),c.2.2.1,c.2.2.2.1,c.2.2.2.2)
def j8 (dx dy:Int) (p:List cQ):Int:=if AQ dx (-200000) 200000≠0∨AQ dy (-200000) 200000≠0 then 3 else if Int.tmod (IntKind.wrap .i64 (dx+dy)) 2≠0 then 14 else dB (p.map (il dx dy))
theorem ta (n lo hi:Int):AQ n lo hi=0∨AQ n lo hi=3:=by
 unfold AQ; split
 ·exact .inr rfl
 ·exact .inl rfl
theorem D0 (l:List cQ) (x y:Int) (r u:Bool) (n:Int):List.map au l++[AV.agg [AV.int .i64 x,AV.int .i64 y,AV.bool r,AV.bool u,AV.int .i64 n]]=List.map au (l++[(x,y,r,u,n)]):=by rw [List.map_append]; rfl
theorem tc (l:List cQ) (x y:Int) (r u:Bool) (n:Int):List.map az l++[AV.agg [AV.int .i64 x,AV.int .i64 y,AV.bool r,AV.bool u,AV.int .i64 n]]=List.map az (l++[(x,y,r,u,n)]):=by rw [List.map_append]; rfl
theorem Uv (s:List cQ) (i:Nat) (x y:Int) (r u:Bool) (n:Int):aw (List.map au s) i (AV.agg [AV.int .i64 x,AV.int .i64 y,AV.bool r,AV.bool u,AV.int .i64 n])=List.map au (s.set i (x,y,r,u,n)):=by
 rw [e9]
 show (List.map au s).set i (au (x,y,r,u,n))=_
 rw [List.map_set]
theorem A9 (l:List cQ):aS (List.map au l)=true:=by
 induction l with
 | nil=>rfl
 | cons x l ih=>exact ih
theorem N3:((bif (allFit (an.fits fE) ([]:List AV)&&true) then some ((List.map d90 ([]:List AV)),(0:Int)) else none:Option (List cQ × Int)).bind fun w9=>bif (decide (0=(List.map au w9.1).length)&&true) then some w9 else none)=some ([],0):=rfl
theorem D1:((bif (allFit (an.fits dN) ([]:List AV)&&true) then some ((List.map d88 ([]:List AV)),(0:Int)) else none:Option (List cQ × Int)).bind fun w9=>bif (decide (0=(List.map az w9.1).length)&&true) then some w9 else none)=some ([],0):=rfl
theorem IY (p:List cQ):((bif (allFit (an.fits fE) (List.map au p)&&true) then some (List.map d90 (List.map au p)) else none:Option ((List (Int × Int × Bool × Bool × Int)))))=some p:=by simp only [gO,gP,Bool.and_true,cond_true]
theorem XU (p:List cQ):((bif (allFit (an.fits dN) (List.map az p)&&true) then some (List.map d88 (List.map az p)) else none:Option ((List (Int × Int × Bool × Bool × Int)))))=some p:=by simp only [ig,ij,Bool.and_true,cond_true]
theorem Ba {c:cQ} (h:df c=0):-100000≤c.1∧c.1≤100000∧-100000≤c.2.1∧c.2.1≤100000:=by
 have:=jD (dA h).1
 exact this
section
variable {N:Nat} (hN:iK N)
include hN
theorem M4 (p:List cQ):U6 N p=some (if dB p=0 then (p.map CZ,0) else ([],dB p)):=by
 rw [QI,IY,Option.bind_some,lQ hN p,Option.bind_some,Bj]
 by_cases h:dB p=0
 ·rw [if_pos h,if_pos h,N3,Option.bind_some]
  obtain ⟨hp,hc⟩:=lP h
  have key:aQ (lM N p) N ([],0)=some (p.map CZ):=Fk p CZ (fun k hk s hs=>by
   obtain ⟨a1,a2⟩:=CX hN p hk
   have b:=Ba (hc p[k] (List.getElem_mem hk))
   generalize p[k]=c at *
   have w:IntKind.wrap .i64 (0 - c.1)=-c.1:=by rw [lW (by omega)]; omega
   have hb:decide ((k+1) * 32≤140737488355328)=true:=decide_eq_true (by omega)
   have sn:=D0 s (-c.1) c.2.1 (!c.2.2.1) c.2.2.2.1 c.2.2.2.2
   simp only [lM,List.length_map,bV hk,bR hk,Int.toNat_natCast,a1,a2,Bool.and_self,cond_true,MK,w,Option.bind_some,hs,hb,decide_true,sn,gO,gP,Bool.and_true,List.length_append,List.length_singleton,cO (show k < 9223372036854775807 by omega)]
   rfl) (fun s hs=>by
   simp only [lM,List.length_map,b0,cond_false,gO,gP,Bool.and_self,Bool.and_true,decide_true,cond_true,Option.bind_some]) N (by unfold iK at hN; omega)
  rw [key,Option.bind_some]
  simp only [gO,gP,Bool.and_true,cond_true]
 ·rw [if_neg h,if_neg h]
  rfl
theorem IZ (p:List cQ):U7 N p=some (if dB p=0 then (p.map vH,0) else ([],dB p)):=by
 rw [QL,IY,Option.bind_some,lQ hN p,Option.bind_some,Bj]
 by_cases h:dB p=0
 ·rw [if_pos h,if_pos h,N3,Option.bind_some]
  obtain ⟨hp,hc⟩:=lP h
  have key:aQ (lN N p) N ([],0)=some (p.map vH):=Fk p vH (fun k hk s hs=>by
   obtain ⟨a1,a2⟩:=CX hN p hk
   have Bh:=hc p[k] (List.getElem_mem hk)
   generalize p[k]=c at *
   have q:Im N (c.1,c.2.1,c.2.2.1,c.2.2.2.1,c.2.2.2.2)=_:=Iw hN c Bh
   have hb:decide ((k+1) * 32≤140737488355328)=true:=decide_eq_true (by omega)
   have sn:=D0 s (a8 c c.2.2.2.2.toNat).1 (a8 c c.2.2.2.2.toNat).2 (!c.2.2.1) (!(c.2.2.2.1 == (Int.tmod c.2.2.2.2 2 == 1))) c.2.2.2.2
   simp only [lN,List.length_map,bV hk,bR hk,Int.toNat_natCast,a1,a2,Bool.and_self,cond_true,MN,q,beq_self_eq_true,Option.bind_some,hs,hb,decide_true,sn,gO,gP,Bool.and_true,List.length_append,List.length_singleton,cO (show k < 9223372036854775807 by omega)]
   rfl) (fun s hs=>by
   simp only [lN,List.length_map,b0,cond_false,gO,gP,Bool.and_self,Bool.and_true,decide_true,cond_true,Option.bind_some]) N (by unfold iK at hN; omega)
  rw [key,Option.bind_some]
  simp only [gO,gP,Bool.and_true,cond_true]
 ·rw [if_neg h,if_neg h]
  rfl
theorem M5 (p:List cQ) (h:dB p=0):U8 N p=some (p.map CZ):=by
 rw [QN,D1,Option.bind_some]
 obtain ⟨hp,hc⟩:=lP h
 have key:aQ (yV N p) N ([],0)=some (p.map CZ):=Fk p CZ (fun k hk s hs=>by
  obtain ⟨a1,a2⟩:=yX hN p hk
  have b:=Ba (hc p[k] (List.getElem_mem hk))
  generalize p[k]=c at *
  have w:IntKind.wrap .i64 (0 - c.1)=-c.1:=by rw [lW (by omega)]; omega
  have hb:decide ((k+1) * 32≤140737488355328)=true:=decide_eq_true (by omega)
  have sn:=tc s (-c.1) c.2.1 (!c.2.2.1) c.2.2.2.1 c.2.2.2.2
  simp only [yV,List.length_map,bV hk,bR hk,Int.toNat_natCast,a1,a2,Bool.and_self,cond_true,w,Option.bind_some,hs,hb,decide_true,sn,ig,ij,Bool.and_true,List.length_append,List.length_singleton,cO (show k < 9223372036854775807 by omega)]
  rfl) (fun s hs=>by
  simp only [yV,List.length_map,b0,cond_false,ig,ij,Bool.and_self,Bool.and_true,decide_true,cond_true,Option.bind_some]) N (by unfold iK at hN; omega)
 rw [key,Option.bind_some]
 simp only [ig,ij,cond_true]
theorem I0 (p:List cQ) (h:dB p=0):U9 N p=some (p.map vH):=by
 rw [QP,D1,Option.bind_some]
 obtain ⟨hp,hc⟩:=lP h
 have key:aQ (yW N p) N ([],0)=some (p.map vH):=Fk p vH (fun k hk s hs=>by
  obtain ⟨a1,a2⟩:=yX hN p hk
  have Bh:=hc p[k] (List.getElem_mem hk)
  generalize p[k]=c at *
  have q:T5 N (c.1,c.2.1,c.2.2.1,c.2.2.2.1,c.2.2.2.2)=_:=Mz hN c Bh
  have hb:decide ((k+1) * 32≤140737488355328)=true:=decide_eq_true (by omega)
  have sn:=tc s (a8 c c.2.2.2.2.toNat).1 (a8 c c.2.2.2.2.toNat).2 (!c.2.2.1) (!(c.2.2.2.1 == (Int.tmod c.2.2.2.2 2 == 1))) c.2.2.2.2
  simp only [yW,List.length_map,bV hk,bR hk,Int.toNat_natCast,a1,a2,Bool.and_self,cond_true,q,beq_self_eq_true,Option.bind_some,hs,hb,decide_true,sn,ig,ij,Bool.and_true,List.length_append,List.length_singleton,cO (show k < 9223372036854775807 by omega)]
  rfl) (fun s hs=>by
  simp only [yW,List.length_map,b0,cond_false,ig,ij,Bool.and_self,Bool.and_true,decide_true,cond_true,Option.bind_some]) N (by unfold iK at hN; omega)
 rw [key,Option.bind_some]
 simp only [ig,ij,cond_true]
theorem Q5 (p:List cQ) (hp:p.length≤1000000):Qz N p=some p:=by
 rw [QB,D1,Option.bind_some]
 have key:aQ (yS N p) N ([],0)=some (p.map id):=Fk p id (fun k hk s hs=>by
  obtain ⟨a1,a2⟩:=CX hN p hk
  generalize p[k]=c at *
  have hb:decide ((k+1) * 32≤140737488355328)=true:=decide_eq_true (by omega)
  have sn:=tc s c.1 c.2.1 c.2.2.1 c.2.2.2.1 c.2.2.2.2
  simp only [yS,List.length_map,bV hk,bR hk,Int.toNat_natCast,a1,a2,Bool.and_self,cond_true,Option.bind_some,hs,hb,decide_true,sn,ig,ij,Bool.and_true,List.length_append,List.length_singleton,cO (show k < 9223372036854775807 by omega)]
  rfl) (fun s hs=>by
  simp only [yS,List.length_map,b0,cond_false,ig,ij,Bool.and_self,Bool.and_true,decide_true,cond_true,Option.bind_some]) N (by unfold iK at hN; omega)
 rw [key,List.map_id,Option.bind_some]
 simp only [ig,ij,cond_true]
theorem I1 (l:List cQ) (hl:l.length≤1000000):QC N (l,l)=some true:=by
 have key:=dz (rd:=vz N l l) l.length (fun k=>(k:Int)) (.inr ()) (fun k hk=>by
  obtain ⟨a1,a2⟩:=yX hN l hk
  simp only [vz,List.length_map,Int.toNat_natCast,bV hk,bR hk,a1,a2,Bool.and_self,cond_true,beq_self_eq_true,Bool.not_true,cond_false,cO (show k < 9223372036854775807 by omega)]) (by
  simp only [vz,List.length_map,b0,cond_false]) N 0 (Nat.zero_le _) (by unfold iK at hN; omega)
 have yR:aQ (vz N l l) N 0=some (.inr ()):=key
 rw [QE,yR]
 simp only [bne_self_eq_false,cond_false,Option.bind_some,Sum.elim_inr]
theorem I2 (p:List cQ) (dx dy:Int) (hp:p.length≤1000000):Va N (p,dx,dy)=some (if j8 dx dy p=0 then (p.map (il dx dy),0) else ([],j8 dx dy p)):=by
 rw [QR]
 unfold j8
 simp only [DR,Option.bind_some]
 rcases ta dx (-200000) 200000 with h1 | h1
 ·rcases ta dy (-200000) 200000 with h2 | h2
  ·simp only [h1,h2,bne_self_eq_false,cond_false,Option.bind_some,ne_eq,not_true_eq_false,or_self,if_false]
   by_cases h3:Int.tmod (IntKind.wrap .i64 (dx+dy)) 2=0
   ·have Q6:(Int.tmod (IntKind.wrap .i64 (dx+dy)) 2 != 0)=false:=by rw [h3]; rfl
    rw [Q6,cond_false]
    simp only [h3,not_true_eq_false,if_false]
    rw [D1,Option.bind_some]
    have key:aQ (s9 N p dx dy) N ([],0)=some (p.map (il dx dy)):=Fk p (il dx dy) (fun k hk s hs=>by
     obtain ⟨a1,a2⟩:=yX hN p hk
     generalize p[k]=c at *
     have hb:decide ((k+1) * 32≤140737488355328)=true:=decide_eq_true (by omega)
     have sn:=tc s (IntKind.wrap .i64 (c.1+dx)) (IntKind.wrap .i64 (c.2.1+dy)) c.2.2.1 c.2.2.2.1 c.2.2.2.2
     simp only [s9,List.length_map,bV hk,bR hk,Int.toNat_natCast,a1,a2,Bool.and_self,cond_true,Option.bind_some,hs,hb,decide_true,sn,ig,ij,Bool.and_true,List.length_append,List.length_singleton,cO (show k < 9223372036854775807 by omega)]
     rfl) (fun s hs=>by
     simp only [s9,List.length_map,b0,cond_false,ig,ij,Bool.and_self,Bool.and_true,decide_true,cond_true,Option.bind_some]) N (by unfold iK at hN; omega)
    rw [key,Option.bind_some,XU,Option.bind_some,DZ hN,Option.bind_some,Bj]
    by_cases h4:dB (p.map (il dx dy))=0
    ·rw [if_pos h4,if_pos h4]
     simp only [ig,ij,Bool.and_true,cond_true]
    ·rw [if_neg h4,if_neg h4]
     rfl
   ·have Q6:(Int.tmod (IntKind.wrap .i64 (dx+dy)) 2 != 0)=true:=bne_iff_ne.2 h3
    rw [Q6,cond_true,if_pos h3]
    rfl
  ·simp only [h1,h2,bne_self_eq_false,cond_false,Option.bind_some]
   rfl
 ·simp only [h1]
  rfl
theorem I3 (p:List cQ) (dx dy:Int):Vb N (p,dx,dy)=some (if dB p≠0 then ([],dB p) else if j8 dx dy p=0 then (p.map (il dx dy),0) else ([],j8 dx dy p)):=by
 have z3:∀ x y z:Int,((bif (allFit (an.fits Bi) [(AV.int .i64 x),(AV.int .i64 y),(AV.int .i64 z)]&&true) then some (List.map d26 [(AV.int .i64 x),(AV.int .i64 y),(AV.int .i64 z)]) else none:Option ((List Int))))=some [x,y,z]:=fun _ _ _=>rfl
 rw [Q2,IY,Option.bind_some,lQ hN p,Option.bind_some,yQ,Option.bind_some,yQ,Option.bind_some,z3,Option.bind_some,nI hN _ (by simp),Option.bind_some,Bj]
 unfold j8
 simp only [bc]
 by_cases h:dB p=0
 ·obtain ⟨hp,hc⟩:=lP h
  rcases ta dx (-200000) 200000 with h1 | h1
  ·rcases ta dy (-200000) 200000 with h2 | h2
   ·simp only [h,h1,h2,ne_eq,not_true_eq_false,or_self,if_false,if_true]
    by_cases h3:Int.tmod (IntKind.wrap .i64 (dx+dy)) 2=0
    ·have Q6:(Int.tmod (IntKind.wrap .i64 (dx+dy)) 2 != 0)=false:=by rw [h3]; rfl
     have Ae:decide ((0:Int)≤(p.length:Int)∧(p.length:Int)≤(p.length:Int)∧(p.length:Int)≤140737488355328∧(p.length:Int) * 32≤140737488355328)=true:=decide_eq_true (by omega)
     have XV:Nat.min p.length p.length=p.length:=Nat.min_self _
     have hle:decide (0+p.length≤p.length)=true:=decide_eq_true (by omega)
     have esp:bz (List.replicate p.length (AV.agg [AV.int .i64 0,AV.int .i64 0,AV.bool false,AV.bool false,AV.int .i64 0])) 0 (List.map au p)=List.map au p:=by
      rw [dj _ _ _ (by simp)]
      simp
     have zi:List.take p.length (List.map au p)=List.map au p:=List.take_of_length_le (by simp)
     have key:aQ (qk N p dx dy) N (0,p)=some (p.map (il dx dy)):=by
      have key:=dz (rd:=qk N p dx dy) p.length (fun k=>((k:Int),(p.take k).map (il dx dy)++p.drop k)) (p.map (il dx dy)) (fun k hk=>by
       have hl:((p.take k).map (il dx dy)++p.drop k).length=p.length:=by
        rw [List.length_append,List.length_map,List.length_take,List.length_drop]; omega
       have XW:k < ((p.take k).map (il dx dy)++p.drop k).length:=by omega
       have eg:((p.take k).map (il dx dy)++p.drop k)[k]=p[k]:=by
        rw [List.getElem_append_right (by rw [List.length_map,List.length_take]; omega)]
        simp [List.getElem_drop,List.length_take,Nat.min_eq_left (Nat.le_of_lt hk)]
       have es:((p.take k).map (il dx dy)++p.drop k).set k (il dx dy p[k])=(p.take (k+1)).map (il dx dy)++p.drop (k+1):=by
        apply List.ext_getElem?
        intro i
        rw [List.getElem?_set]
        by_cases zj:k=i
        ·subst zj
         rw [if_pos rfl,if_pos XW,List.take_add_one,List.getElem?_eq_getElem hk,List.map_append,List.append_assoc,List.getElem?_append_right (by simp; omega)]
         simp [Nat.min_eq_left (Nat.le_of_lt hk)]
        ·rw [if_neg zj]
         rcases Nat.lt_or_gt_of_ne zj with h | h
         ·rw [List.getElem?_append_right (by simp; omega),List.getElem?_append_right (by simp; omega)]
          simp only [List.length_map,List.length_take,List.getElem?_drop]
          congr 1
          omega
         ·rw [List.getElem?_append_left (by simp; omega),List.getElem?_append_left (by simp; omega)]
          simp only [List.getElem?_map,List.getElem?_take]
          rw [if_pos (by omega),if_pos (by omega)]
       obtain ⟨a1,a2⟩:=CX hN _ XW
       rw [eg] at a1
       generalize (p.take k).map (il dx dy)++p.drop k=s at *
       have Y6:∀ c:cQ,k < (s.set k c).length:=fun c=>by rw [List.length_set]; exact XW
       have b1:∀ c:cQ,d90 (ah (List.map au (s.set k c)) k)=c:=fun c=>by
        rw [(CX hN _ (Y6 c)).1]; simp
       have b2:∀ c:cQ,an.fits fE (ah (List.map au (s.set k c)) k)=true:=fun c=>(CX hN _ (Y6 c)).2
       have hkb:decide (k < p.length)=true:=decide_eq_true hk
       rw [← es]
       generalize p[k]=c at *
       simp only [qk,List.length_map,Int.toNat_natCast,Nat.zero_add,bV hk,bR hk,a1,a2,hl,hkb,decide_true,Bool.and_self,cond_true,Uv,b1,b2,List.length_set,List.set_set,gO,gP,Bool.and_true,Option.bind_some,cO (show k < 9223372036854775807 by omega)]
       rfl) (by
       simp only [qk,List.length_map,Int.toNat_natCast,b0,cond_false,List.take_length,List.drop_length,List.append_nil,gO,gP,Bool.and_true,cond_true,Option.bind_some]) N 0 (Nat.zero_le _) (by unfold iK at hN; omega)
      simpa using key
     rw [Q6]
     simp only [cond_false,h3,not_true_eq_false,if_false,List.length_map,Ae,cond_true,Int.toNat_natCast,List.length_replicate,decide_true,XV,hle,Bool.and_self,zi,esp,gO,gP,Bool.and_true,Option.bind_some]
     rw [key,Option.bind_some]
     simp only [List.length_map,decide_true,A9,Bool.and_self,cond_true,gO,gP,Bool.and_true,Option.bind_some]
     rw [lQ hN,Option.bind_some,Bj]
     split <;> rfl
    ·have Q6:(Int.tmod (IntKind.wrap .i64 (dx+dy)) 2 != 0)=true:=bne_iff_ne.2 h3
     rw [Q6,cond_true]
     simp only [h3,not_false_eq_true,if_true]
     rfl
   ·simp only [h,h1,h2,ne_eq,not_true_eq_false,if_false,if_true]
    rfl
  ·simp only [h,h1,ne_eq,not_true_eq_false,if_false,if_true]
   rfl
 ·simp only [h,ne_eq,not_false_eq_true,if_true,if_false]
  rfl
theorem I4 (a b:List cQ):Vc N (a,b)=some (if bc [dB a,dB b]≠0 then ([],bc [dB a,dB b]) else if dB (a++b)=0 then (a++b,0) else ([],dB (a++b))):=by
 have z2:∀ x y:Int,((bif (allFit (an.fits Bi) [(AV.int .i64 x),(AV.int .i64 y)]&&true) then some (List.map d26 [(AV.int .i64 x),(AV.int .i64 y)]) else none:Option ((List Int))))=some [x,y]:=fun _ _=>rfl
 rw [Q4,IY,Option.bind_some,lQ hN a,Option.bind_some,IY,Option.bind_some,lQ hN b,Option.bind_some,z2,Option.bind_some,nI hN _ (by simp),Option.bind_some,Bj]
 by_cases h:bc [dB a,dB b]=0
 ·have h':=lH.1 h
  have ha:=h' (dB a) (by simp)
  have hb:=h' (dB b) (by simp)
  obtain ⟨la,-⟩:=lP ha
  obtain ⟨lb,-⟩:=lP hb
  rw [if_pos h,if_neg (by simp [h])]
  have n0:ah [(AV.list .dP 5 (List.map au a)),(AV.list .dP 5 (List.map au b))] (Int.toNat 0)=n50 a:=rfl
  have n1:ah [(AV.list .dP 5 (List.map au a)),(AV.list .dP 5 (List.map au b))] (Int.toNat 1)=n50 b:=rfl
  have w1:IntKind.wrap .i64 (0+(a.length:Int))=(a.length:Int):=by rw [lW (by omega)]; omega
  have w2:IntKind.wrap .i64 ((a.length:Int)+(b.length:Int))=((a.length+b.length:Nat):Int):=by rw [lW (by omega)]; omega
  have c1:IntKind.wrap .i64 (0+1)=1:=rfl
  have c2:IntKind.wrap .i64 (1+1)=2:=rfl
  have d0:decide ((0:Int) < 2)=true:=rfl
  have d1:decide ((1:Int) < 2)=true:=rfl
  have d2:decide ((2:Int) < 2)=false:=rfl
  have i0:decide ((0:Int)≤0∧(0:Int) < (([(AV.list .dP 5 (List.map au a)),(AV.list .dP 5 (List.map au b))]).length:Int))=true:=rfl
  have i1:decide ((0:Int)≤1∧(1:Int) < (([(AV.list .dP 5 (List.map au a)),(AV.list .dP 5 (List.map au b))]).length:Int))=true:=rfl
  have ga:decide ((a.length:Int) < 0)=false:=decide_eq_false (by omega)
  have gb:decide (((a.length+b.length:Nat):Int) < 0)=false:=decide_eq_false (by omega)
  have key:aQ (eU N a b) N (0,0)=some ((a.length+b.length:Nat):Int):=by
   obtain ⟨k,rfl⟩:∃ k,N=k+3:=⟨N - 3,by unfold iK at hN; omega⟩
   have r0:eU (k+3) a b (0,0)=some (.inl ((a.length:Int),1)):=by
    simp only [eU,d0,i0,n0,M1,M2,Bool.and_self,cond_true,List.length_map,w1,ga,cond_false,c1]
   have r1:eU (k+3) a b ((a.length:Int),1)=some (.inl (((a.length+b.length:Nat):Int),2)):=by
    simp only [eU,d1,i1,n1,M1,M2,Bool.and_self,cond_true,List.length_map,w2,gb,cond_false,c2]
   have r2:eU (k+3) a b (((a.length+b.length:Nat):Int),2)=some (.inr ((a.length+b.length:Nat):Int)):=by
    simp only [eU,d2,cond_false]
   rw [a6,r0,Option.bind_some,Sum.elim_inl,a6,r1,Option.bind_some,Sum.elim_inl,a6,r2]
   rfl
  have XX:aQ (dO N a b) N ((),0,[])=some ((),a++b):=by
   obtain ⟨k,rfl⟩:∃ k,N=k+3:=⟨N - 3,by unfold iK at hN; omega⟩
   have ba:decide ((0+a.length) * 32≤140737488355328)=true:=decide_eq_true (by omega)
   have ba':decide (a.length * 32≤140737488355328)=true:=decide_eq_true (by omega)
   have bb:decide ((a.length+b.length) * 32≤140737488355328)=true:=decide_eq_true (by omega)
   have Y7:∀ x y:List cQ,List.map au x++List.map au y=List.map au (x++y):=fun x y=>by rw [List.map_append]
   have r0:dO (k+3) a b ((),0,[])=some (.inl ((),1,a)):=by
    simp only [dO,d0,i0,n0,M1,M2,Bool.and_self,cond_true,List.length_map,List.length_nil,decide_true,ba',Y7,List.nil_append,Nat.zero_add,Nat.beq_refl,gO,gP,Bool.and_true,Option.bind_some,c1]
   have r1:dO (k+3) a b ((),1,a)=some (.inl ((),2,a++b)):=by
    simp only [dO,d1,i1,n1,M1,M2,Bool.and_self,cond_true,List.length_map,decide_true,bb,Y7,List.length_append,Nat.beq_refl,gO,gP,Bool.and_true,Option.bind_some,c2]
   have r2:dO (k+3) a b ((),2,a++b)=some (.inr ((),a++b)):=by
    simp only [dO,d2,cond_false,List.length_map,Nat.beq_refl,gO,gP,Bool.and_self,Bool.and_true,cond_true,Option.bind_some]
   rw [a6,r0,Option.bind_some,Sum.elim_inl,a6,r1,Option.bind_some,Sum.elim_inl,a6,r2]
   rfl
  have z5:(((bif ((Nat.beq 0 (([]:List AV)).length&&Nat.beq 0 (([]:List AV)).length)&&(allFit (an.fits fE) ([]:List AV)&&true)) then some ((),0,(List.map d90 ([]:List AV))) else none:Option (Unit × Int × (List (Int × Int × Bool × Bool × Int)))).bind fun To=>some To))=some ((),0,[]):=rfl
  have hg:decide ((0:Int)≤((a.length+b.length:Nat):Int)∧((a.length+b.length:Nat):Int) * ((32:Nat):Int)≤140737488355328∧((a.length+b.length:Nat):Int)≤4611686018427387904)=true:=decide_eq_true (by omega)
  rw [key,Option.bind_some,hg,cond_true,z5,Option.bind_some,XX,Option.bind_some]
  simp only [List.length_map,decide_true,A9,Bool.and_self,cond_true,gO,gP,Bool.and_true,Option.bind_some]
  rw [lQ hN,Option.bind_some,Bj]
  split <;> rfl
 ·rw [if_neg h,if_pos h]
  rfl
end
end Go.Proofs.YtldcljfjjoidhaaGreatDoor
