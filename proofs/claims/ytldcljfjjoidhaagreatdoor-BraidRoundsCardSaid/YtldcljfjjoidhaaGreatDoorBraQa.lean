/- Plain laws: programs mirrored,worked back,lifted,and put one behind the other. -/
import Derived.Test.YtldcljfjjoidhaaGreatDoorBraPm
import Derived.Test.YtldcljfjjoidhaaGreatDoorBraX
set_option linter.all false
namespace Go.Proofs.YtldcljfjjoidhaaGreatDoor
open Go Go.Am Go.Sort
open List (map)
open Int (toNat)
open Go.IntKind (wrap)
open Go.Am.aT (fits)
set_option maxRecDepth 100000
theorem Rw {α β:Type} {rd:List β × Int→Option ((List β × Int) ⊕ List β)} (l:List α) (g:α→β)
  (h:∀ k (hk:k < l.length) (s:List β),s.length=k→rd (s,(k:Int))=some (.inl (s++[g l[k]],((k+1:Nat):Int)))) (h0:∀ s:List β,s.length=l.length→rd (s,(l.length:Int))=some (.inr s)) (n:Nat) (hn:l.length < n) :
  aG rd n ([],0)=some (l.map g):=by
 have key:=bK (rd:=rd) l.length (fun k=>((l.take k).map g,(k:Int))) (l.map g) (fun k hk=>by
  rw [h k hk _ (by rw [List.length_map,List.length_take]; omega)]
  have e:(l.take (k+1)).map g=(l.take k).map g++[g l[k]]:=by
   rw [List.take_add_one,List.getElem?_eq_getElem hk,List.map_append]
   rfl
  rw [e]) (by
  have e:(l.take l.length).map g=l.map g:=by rw [List.take_length]
  have:=h0 (l.map g) (by rw [List.length_map])
  rw [e]
  exact this) n 0 (Nat.zero_le _) (by omega)
 simpa using key
def nV (c:bD):bD:=(-c.1,c.2.1,!c.2.2.1,c.2.2.2.1,c.2.2.2.2)
def df (c:bD):bD:=((aK c c.2.2.2.2.toNat).1,(aK c c.2.2.2.2.toNat).2,!c.2.2.1,!(c.2.2.2.1 == (Int.tmod c.2.2.2.2 2 == 1)),c.2.2.2.2)
def jN (dx dy:Int) (c:bD):bD:=(wrap .i64 (c.1+dx),wrap .i64 (c.2.1+dy),c.2.2.1,c.2.2.2.1,c.2.2.2.2)
def jZ (dx dy:Int) (p:List bD):Int:=if pW dx (-200000) 200000≠0∨pW dy (-200000) 200000≠0 then 3 else if Int.tmod (wrap .i64 (dx+dy)) 2≠0 then 14 else bY (p.map (jN dx dy))
theorem G7 (n lo hi:Int):pW n lo hi=0∨pW n lo hi=3:=by
 unfold pW; split
 ·exact .inr rfl
 ·exact .inl rfl
theorem G8 (l:List bD) (x y:Int) (r u:Bool) (n:Int):map ai l++[AV.agg [AV.int .i64 x,AV.int .i64 y,AV.bool r,AV.bool u,AV.int .i64 n]]=map ai (l++[(x,y,r,u,n)]):=by rw [List.map_append]; rfl
theorem Rx (l:List bD) (x y:Int) (r u:Bool) (n:Int):map az l++[AV.agg [AV.int .i64 x,AV.int .i64 y,AV.bool r,AV.bool u,AV.int .i64 n]]=map az (l++[(x,y,r,u,n)]):=by rw [List.map_append]; rfl
theorem Z0 (s:List bD) (i:Nat) (x y:Int) (r u:Bool) (n:Int):aB (map ai s) i (AV.agg [AV.int .i64 x,AV.int .i64 y,AV.bool r,AV.bool u,AV.int .i64 n])=map ai (s.set i (x,y,r,u,n)):=by
 rw [fu]
 show (map ai s).set i (ai (x,y,r,u,n))=_
 rw [List.map_set]
theorem DF (l:List bD):aH (map ai l)=true:=by
 induction l with
 | nil=>rfl
 | cons x l ih=>exact ih
theorem SZ:((bif (allFit (fits dG) ([]:List AV)&&true) then some ((map aq ([]:List AV)),(0:Int)) else none:Option (List bD × Int)).bind fun w9=>bif (decide (0=(map ai w9.1).length)&&true) then some w9 else none)=some ([],0):=rfl
theorem Z1:((bif (allFit (fits cR) ([]:List AV)&&true) then some ((map bO ([]:List AV)),(0:Int)) else none:Option (List bD × Int)).bind fun w9=>bif (decide (0=(map az w9.1).length)&&true) then some w9 else none)=some ([],0):=rfl
theorem MF (p:List bD):((bif (allFit (fits dG) (map ai p)&&true) then some (map aq (map ai p)) else none:Option (eD)))=some p:=by simp only [jJ,jK,Bool.and_true,cond_true]
theorem DG {c:bD} (h:bX c=0):-100000≤c.1∧c.1≤100000∧-100000≤c.2.1∧c.2.1≤100000:=by
 have:=ey (cB h).1
 exact this
section
variable {N:Nat} (hN:fB N)
include hN
theorem Ry (p:List bD):SP N p=some (if bY p=0 then (p.map nV,0) else ([],bY p)):=by
 rw [VK,MF,Option.bind_some,iM hN p,Option.bind_some,BR]
 by_cases h:bY p=0
 ·rw [if_pos h,if_pos h,SZ,Option.bind_some]
  obtain ⟨hp,hc⟩:=gr h
  have key:aG (nB N p) N ([],0)=some (p.map nV):=Rw p nV (fun k hk s hs=>by
   obtain ⟨a1,a2⟩:=tC hN p hk
   have b:=DG (hc p[k] (List.getElem_mem hk))
   generalize p[k]=c at *
   have w:wrap .i64 (0 - c.1)=-c.1:=by rw [iE (by omega)]; omega
   have hb:decide ((k+1) * 32≤140737488355328)=true:=decide_eq_true (by omega)
   have sn:=G8 s (-c.1) c.2.1 (!c.2.2.1) c.2.2.2.1 c.2.2.2.2
   simp only [nB,List.length_map,bf hk,aO hk,Int.toNat_natCast,a1,a2,Bool.and_self,cond_true,QI,w,Option.bind_some,hs,hb,decide_true,sn,jJ,jK,Bool.and_true,List.length_append,List.length_singleton,bA (show k < 9223372036854775807 by omega)]
   rfl) (fun s hs=>by
   simp only [nB,List.length_map,bt,cond_false,jJ,jK,Bool.and_self,Bool.and_true,decide_true,cond_true,Option.bind_some]) N (by unfold fB at hN; omega)
  rw [key,Option.bind_some]
  simp only [jJ,jK,Bool.and_true,cond_true]
 ·rw [if_neg h,if_neg h]
  rfl
theorem MG (p:List bD):SQ N p=some (if bY p=0 then (p.map df,0) else ([],bY p)):=by
 rw [VN,MF,Option.bind_some,iM hN p,Option.bind_some,BR]
 by_cases h:bY p=0
 ·rw [if_pos h,if_pos h,SZ,Option.bind_some]
  obtain ⟨hp,hc⟩:=gr h
  have key:aG (nC N p) N ([],0)=some (p.map df):=Rw p df (fun k hk s hs=>by
   obtain ⟨a1,a2⟩:=tC hN p hk
   have zL:=hc p[k] (List.getElem_mem hk)
   generalize p[k]=c at *
   have q:Ik N (c.1,c.2.1,c.2.2.1,c.2.2.2.1,c.2.2.2.2)=_:=Dt hN c zL
   have hb:decide ((k+1) * 32≤140737488355328)=true:=decide_eq_true (by omega)
   have sn:=G8 s (aK c c.2.2.2.2.toNat).1 (aK c c.2.2.2.2.toNat).2 (!c.2.2.1) (!(c.2.2.2.1 == (Int.tmod c.2.2.2.2 2 == 1))) c.2.2.2.2
   simp only [nC,List.length_map,bf hk,aO hk,Int.toNat_natCast,a1,a2,Bool.and_self,cond_true,QL,q,beq_self_eq_true,Option.bind_some,hs,hb,decide_true,sn,jJ,jK,Bool.and_true,List.length_append,List.length_singleton,bA (show k < 9223372036854775807 by omega)]
   rfl) (fun s hs=>by
   simp only [nC,List.length_map,bt,cond_false,jJ,jK,Bool.and_self,Bool.and_true,decide_true,cond_true,Option.bind_some]) N (by unfold fB at hN; omega)
  rw [key,Option.bind_some]
  simp only [jJ,jK,Bool.and_true,cond_true]
 ·rw [if_neg h,if_neg h]
  rfl
theorem Wx (p:List bD) (hp:p.length≤1000000):QB N p=some p:=by
 rw [VB,Z1,Option.bind_some]
 have key:aG (Bv N p) N ([],0)=some (p.map id):=Rw p id (fun k hk s hs=>by
  obtain ⟨a1,a2⟩:=tC hN p hk
  generalize p[k]=c at *
  have hb:decide ((k+1) * 32≤140737488355328)=true:=decide_eq_true (by omega)
  have sn:=Rx s c.1 c.2.1 c.2.2.1 c.2.2.2.1 c.2.2.2.2
  simp only [Bv,List.length_map,bf hk,aO hk,Int.toNat_natCast,a1,a2,Bool.and_self,cond_true,Option.bind_some,hs,hb,decide_true,sn,Bl,Bm,Bool.and_true,List.length_append,List.length_singleton,bA (show k < 9223372036854775807 by omega)]
  rfl) (fun s hs=>by
  simp only [Bv,List.length_map,bt,cond_false,Bl,Bm,Bool.and_self,Bool.and_true,decide_true,cond_true,Option.bind_some]) N (by unfold fB at hN; omega)
 rw [key,List.map_id,Option.bind_some]
 simp only [Bl,Bm,cond_true]
theorem MH (l:List bD) (hl:l.length≤1000000):Xb N (l,l)=some true:=by
 have key:=bK (rd:=xT N l l) l.length (fun k=>(k:Int)) (.inr ()) (fun k hk=>by
  obtain ⟨a1,a2⟩:=Iq hN l hk
  simp only [xT,List.length_map,Int.toNat_natCast,bf hk,aO hk,a1,a2,Bool.and_self,cond_true,beq_self_eq_true,Bool.not_true,cond_false,bA (show k < 9223372036854775807 by omega)]) (by
  simp only [xT,List.length_map,bt,cond_false]) N 0 (Nat.zero_le _) (by unfold fB at hN; omega)
 have lQ:aG (xT N l l) N 0=some (.inr ()):=key
 rw [VD,lQ]
 simp only [bne_self_eq_false,cond_false,Option.bind_some,Sum.elim_inr]
theorem MI (p:List bD) (dx dy:Int):T69 N (p,dx,dy)=some (if bY p≠0 then ([],bY p) else if jZ dx dy p=0 then (p.map (jN dx dy),0) else ([],jZ dx dy p)):=by
 have z3:∀ x y z:Int,((bif (allFit (fits xz) [(AV.int .i64 x),(AV.int .i64 y),(AV.int .i64 z)]&&true) then some (map kF [(AV.int .i64 x),(AV.int .i64 y),(AV.int .i64 z)]) else none:Option (pX)))=some [x,y,z]:=fun _ _ _=>rfl
 rw [Wl,MF,Option.bind_some,iM hN p,Option.bind_some,Bu,Option.bind_some,Bu,Option.bind_some,z3,Option.bind_some,pL hN _ (by simp),Option.bind_some,BR]
 unfold jZ
 simp only [aS]
 by_cases h:bY p=0
 ·obtain ⟨hp,hc⟩:=gr h
  rcases G7 dx (-200000) 200000 with h1 | h1
  ·rcases G7 dy (-200000) 200000 with h2 | h2
   ·simp only [h,h1,h2,ne_eq,not_true_eq_false,or_self,if_false,if_true]
    by_cases h3:Int.tmod (wrap .i64 (dx+dy)) 2=0
    ·have h3b:(Int.tmod (wrap .i64 (dx+dy)) 2 != 0)=false:=by rw [h3]; rfl
     have HL:decide ((0:Int)≤(p.length:Int)∧(p.length:Int)≤(p.length:Int)∧(p.length:Int)≤140737488355328∧(p.length:Int) * 32≤140737488355328)=true:=decide_eq_true (by omega)
     have adN:Nat.min p.length p.length=p.length:=Nat.min_self _
     have hle:decide (0+p.length≤p.length)=true:=decide_eq_true (by omega)
     have esp:bg (List.replicate p.length (AV.agg [AV.int .i64 0,AV.int .i64 0,AV.bool false,AV.bool false,AV.int .i64 0])) 0 (map ai p)=map ai p:=by
      rw [ea _ _ _ (by simp)]
      simp
     have BJ:List.take p.length (map ai p)=map ai p:=List.take_of_length_le (by simp)
     have key:aG (sw N p dx dy) N (0,p)=some (p.map (jN dx dy)):=by
      have key:=bK (rd:=sw N p dx dy) p.length (fun k=>((k:Int),(p.take k).map (jN dx dy)++p.drop k)) (p.map (jN dx dy)) (fun k hk=>by
       have hl:((p.take k).map (jN dx dy)++p.drop k).length=p.length:=by
        rw [List.length_append,List.length_map,List.length_take,List.length_drop]; omega
       have hk2:k < ((p.take k).map (jN dx dy)++p.drop k).length:=by omega
       have eg:((p.take k).map (jN dx dy)++p.drop k)[k]=p[k]:=by
        rw [List.getElem_append_right (by rw [List.length_map,List.length_take]; omega)]
        simp [List.getElem_drop,List.length_take,Nat.min_eq_left (Nat.le_of_lt hk)]
       have es:((p.take k).map (jN dx dy)++p.drop k).set k (jN dx dy p[k])=(p.take (k+1)).map (jN dx dy)++p.drop (k+1):=by
        apply List.ext_getElem?
        intro i
        rw [List.getElem?_set]
        by_cases BK:k=i
        ·subst BK
         rw [if_pos rfl,if_pos hk2,List.take_add_one,List.getElem?_eq_getElem hk,List.map_append,List.append_assoc,List.getElem?_append_right (by simp; omega)]
         simp [Nat.min_eq_left (Nat.le_of_lt hk)]
        ·rw [if_neg BK]
         rcases Nat.lt_or_gt_of_ne BK with h | h
         ·rw [List.getElem?_append_right (by simp; omega),List.getElem?_append_right (by simp; omega)]
          simp only [List.length_map,List.length_take,List.getElem?_drop]
          congr 1
          omega
         ·rw [List.getElem?_append_left (by simp; omega),List.getElem?_append_left (by simp; omega)]
          simp only [List.getElem?_map,List.getElem?_take]
          rw [if_pos (by omega),if_pos (by omega)]
       obtain ⟨a1,a2⟩:=tC hN _ hk2
       rw [eg] at a1
       generalize (p.take k).map (jN dx dy)++p.drop k=s at *
       have hk3:∀ c:bD,k < (s.set k c).length:=fun c=>by rw [List.length_set]; exact hk2
       have b1:∀ c:bD,aq (af (map ai (s.set k c)) k)=c:=fun c=>by
        rw [(tC hN _ (hk3 c)).1]; simp
       have b2:∀ c:bD,fits dG (af (map ai (s.set k c)) k)=true:=fun c=>(tC hN _ (hk3 c)).2
       have hkb:decide (k < p.length)=true:=decide_eq_true hk
       rw [← es]
       generalize p[k]=c at *
       simp only [sw,List.length_map,Int.toNat_natCast,Nat.zero_add,bf hk,aO hk,a1,a2,hl,hkb,decide_true,Bool.and_self,cond_true,Z0,b1,b2,List.length_set,List.set_set,jJ,jK,Bool.and_true,Option.bind_some,bA (show k < 9223372036854775807 by omega)]
       rfl) (by
       simp only [sw,List.length_map,Int.toNat_natCast,bt,cond_false,List.take_length,List.drop_length,List.append_nil,jJ,jK,Bool.and_true,cond_true,Option.bind_some]) N 0 (Nat.zero_le _) (by unfold fB at hN; omega)
      simpa using key
     rw [h3b]
     simp only [cond_false,h3,not_true_eq_false,if_false,List.length_map,HL,cond_true,Int.toNat_natCast,List.length_replicate,decide_true,adN,hle,Bool.and_self,BJ,esp,jJ,jK,Bool.and_true,Option.bind_some]
     rw [key,Option.bind_some]
     simp only [List.length_map,decide_true,DF,Bool.and_self,cond_true,jJ,jK,Bool.and_true,Option.bind_some]
     rw [iM hN,Option.bind_some,BR]
     split <;> rfl
    ·have h3b:(Int.tmod (wrap .i64 (dx+dy)) 2 != 0)=true:=bne_iff_ne.2 h3
     rw [h3b,cond_true]
     simp only [h3,not_false_eq_true,if_true]
     rfl
   ·simp only [h,h1,h2,ne_eq,not_true_eq_false,if_false,if_true]
    rfl
  ·simp only [h,h1,ne_eq,not_true_eq_false,if_false,if_true]
   rfl
 ·simp only [h,ne_eq,not_false_eq_true,if_true,if_false]
  rfl
theorem MJ (a b:List bD):T70 N (a,b)=some (if aS [bY a,bY b]≠0 then ([],aS [bY a,bY b]) else if bY (a++b)=0 then (a++b,0) else ([],bY (a++b))):=by
 have z2:∀ x y:Int,((bif (allFit (fits xz) [(AV.int .i64 x),(AV.int .i64 y)]&&true) then some (map kF [(AV.int .i64 x),(AV.int .i64 y)]) else none:Option (pX)))=some [x,y]:=fun _ _=>rfl
 rw [Wo,MF,Option.bind_some,iM hN a,Option.bind_some,MF,Option.bind_some,iM hN b,Option.bind_some,z2,Option.bind_some,pL hN _ (by simp),Option.bind_some,BR]
 by_cases h:aS [bY a,bY b]=0
 ·have h':=dj.1 h
  have ha:=h' (bY a) (by simp)
  have hb:=h' (bY b) (by simp)
  obtain ⟨la,-⟩:=gr ha
  obtain ⟨lb,-⟩:=gr hb
  rw [if_pos h,if_neg (by simp [h])]
  have n0:af [(AV.list .eU 5 (map ai a)),(AV.list .eU 5 (map ai b))] (toNat 0)=Rs a:=rfl
  have n1:af [(AV.list .eU 5 (map ai a)),(AV.list .eU 5 (map ai b))] (toNat 1)=Rs b:=rfl
  have w1:wrap .i64 (0+(a.length:Int))=(a.length:Int):=by rw [iE (by omega)]; omega
  have w2:wrap .i64 ((a.length:Int)+(b.length:Int))=((a.length+b.length:Nat):Int):=by rw [iE (by omega)]; omega
  have c1:wrap .i64 (0+1)=1:=rfl
  have c2:wrap .i64 (1+1)=2:=rfl
  have d0:decide ((0:Int) < 2)=true:=rfl
  have d1:decide ((1:Int) < 2)=true:=rfl
  have mG:decide ((2:Int) < 2)=false:=rfl
  have i0:decide ((0:Int)≤0∧(0:Int) < (([(AV.list .eU 5 (map ai a)),(AV.list .eU 5 (map ai b))]).length:Int))=true:=rfl
  have i1:decide ((0:Int)≤1∧(1:Int) < (([(AV.list .eU 5 (map ai a)),(AV.list .eU 5 (map ai b))]).length:Int))=true:=rfl
  have ga:decide ((a.length:Int) < 0)=false:=decide_eq_false (by omega)
  have gb:decide (((a.length+b.length:Nat):Int) < 0)=false:=decide_eq_false (by omega)
  have key:aG (fT N a b) N (0,0)=some ((a.length+b.length:Nat):Int):=by
   obtain ⟨k,rfl⟩:∃ k,N=k+3:=⟨N - 3,by unfold fB at hN; omega⟩
   have r0:fT (k+3) a b (0,0)=some (.inl ((a.length:Int),1)):=by
    simp only [fT,d0,i0,n0,Rt,Ru,Bool.and_self,cond_true,List.length_map,w1,ga,cond_false,c1]
   have r1:fT (k+3) a b ((a.length:Int),1)=some (.inl (((a.length+b.length:Nat):Int),2)):=by
    simp only [fT,d1,i1,n1,Rt,Ru,Bool.and_self,cond_true,List.length_map,w2,gb,cond_false,c2]
   have r2:fT (k+3) a b (((a.length+b.length:Nat):Int),2)=some (.inr ((a.length+b.length:Nat):Int)):=by
    simp only [fT,mG,cond_false]
   rw [bh,r0,Option.bind_some,Sum.elim_inl,bh,r1,Option.bind_some,Sum.elim_inl,bh,r2]
   rfl
  have adP:aG (eT N a b) N ((),0,[])=some ((),a++b):=by
   obtain ⟨k,rfl⟩:∃ k,N=k+3:=⟨N - 3,by unfold fB at hN; omega⟩
   have ba:decide ((0+a.length) * 32≤140737488355328)=true:=decide_eq_true (by omega)
   have ba':decide (a.length * 32≤140737488355328)=true:=decide_eq_true (by omega)
   have bb:decide ((a.length+b.length) * 32≤140737488355328)=true:=decide_eq_true (by omega)
   have app:∀ x y:List bD,map ai x++map ai y=map ai (x++y):=fun x y=>by rw [List.map_append]
   have r0:eT (k+3) a b ((),0,[])=some (.inl ((),1,a)):=by
    simp only [eT,d0,i0,n0,Rt,Ru,Bool.and_self,cond_true,List.length_map,List.length_nil,decide_true,ba',app,List.nil_append,Nat.zero_add,Nat.beq_refl,jJ,jK,Bool.and_true,Option.bind_some,c1]
   have r1:eT (k+3) a b ((),1,a)=some (.inl ((),2,a++b)):=by
    simp only [eT,d1,i1,n1,Rt,Ru,Bool.and_self,cond_true,List.length_map,decide_true,bb,app,List.length_append,Nat.beq_refl,jJ,jK,Bool.and_true,Option.bind_some,c2]
   have r2:eT (k+3) a b ((),2,a++b)=some (.inr ((),a++b)):=by
    simp only [eT,mG,cond_false,List.length_map,Nat.beq_refl,jJ,jK,Bool.and_self,Bool.and_true,cond_true,Option.bind_some]
   rw [bh,r0,Option.bind_some,Sum.elim_inl,bh,r1,Option.bind_some,Sum.elim_inl,bh,r2]
   rfl
  have z5:(((bif ((Nat.beq 0 (([]:List AV)).length&&Nat.beq 0 (([]:List AV)).length)&&(allFit (fits dG) ([]:List AV)&&true)) then some ((),0,(map aq ([]:List AV))) else none:Option (Unit × Int × eD)).bind fun UH=>some UH))=some ((),0,[]):=rfl
  have hg:decide ((0:Int)≤((a.length+b.length:Nat):Int)∧((a.length+b.length:Nat):Int) * ((32:Nat):Int)≤140737488355328∧((a.length+b.length:Nat):Int)≤4611686018427387904)=true:=decide_eq_true (by omega)
  rw [key,Option.bind_some,hg,cond_true,z5,Option.bind_some,adP,Option.bind_some]
  simp only [List.length_map,decide_true,DF,Bool.and_self,cond_true,jJ,jK,Bool.and_true,Option.bind_some]
  rw [iM hN,Option.bind_some,BR]
  split <;> rfl
 ·rw [if_neg h,if_pos h]
  rfl
end
end Go.Proofs.YtldcljfjjoidhaaGreatDoor
