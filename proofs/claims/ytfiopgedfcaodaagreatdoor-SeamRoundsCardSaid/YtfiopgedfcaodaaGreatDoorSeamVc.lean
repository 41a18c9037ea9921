/- Plain laws: the law of rounds. -/
import Derived.Test.YtfiopgedfcaodaaGreatDoorSeamVb
set_option linter.all false
namespace Go.Proofs.YtfiopgedfcaodaaGreatDoor
open Go Go.Am
set_option maxRecDepth 100000
theorem sum_app:∀ a b:List Int,(a++b).sum=a.sum+b.sum
 | [],b=>by simp
 | x :: a,b=>by rw [List.cons_append,List.sum_cons,sum_app a b,List.sum_cons]; omega
theorem sum_rev (l:List Int):l.reverse.sum=l.sum:=by
 induction l with
 | nil=>rfl
 | cons x l ih=>rw [List.reverse_cons,sum_app,ih,List.sum_cons,List.sum_cons]; simp; omega
section
variable {l:List Int} (hc:chkR l=0)
include hc
theorem runs_ge (x:Int) (hx:x∈l):1≤x:=((chkR_ok hc).2.2.1 x hx).1
theorem runs_L:((blkL 0 l).length:Int)=l.sum∧l.length≤(blkL 0 l).length∧(blkL 0 l).length≤256∧1≤l.length:=by
 obtain ⟨h1,h2,h3,h4⟩:=chkR_ok hc
 have e:=blkL_len l 0 fun x hx=>(h3 x hx).1
 have gen:∀ l:List Int,(∀ x∈l,1≤x)→(l.length:Int)≤l.sum:=by
  intro l
  induction l with
  | nil=>intro _; simp
  | cons x l ih=>
   intro h
   have:=ih fun y hy=>h y (List.mem_cons_of_mem _ hy)
   have:=h x List.mem_cons_self
   rw [List.sum_cons,List.length_cons]
   omega
 have:=gen l fun x hx=>(h3 x hx).1
 omega
theorem chk_rev:chkR l.reverse=0:=by
 obtain ⟨h1,h2,h3,h4⟩:=chkR_ok hc
 have hs:l.reverse.sum=l.sum:=sum_rev l
 exact chkR_of (by rw [List.length_reverse]; exact h1) (by rw [List.length_reverse]; exact h2) (fun x hx=>(h3 x (List.mem_reverse.1 hx)).1) (by rw [hs]; exact h4)
theorem from_chk:chkJ (l.length:Int) l.sum (fromR l)=0:=by
 obtain ⟨e,h1,h2,h3⟩:=runs_L hc
 have hge:=runs_ge hc
 rw [← e,fromR_blk]
 exact chkJ_prs (blkL 0 l) (blkL_step l 0 hge) l.length h3 h1 h2 (blkL_head l 0 hge h3) (blkL_last l hge h3)
theorem from_runs:runsF (l.length:Int) l.sum (fromR l)=l:=by
 obtain ⟨e,h1,h2,h3⟩:=runs_L hc
 obtain ⟨_,_,q3,_⟩:=chkR_ok hc
 rw [fromR_blk]
 exact runsF_blk l (fun x hx=>by have:=q3 x hx; omega) l.sum (by omega)
theorem blk_in (x:Int) (hx:x∈blkL 0 l):0≤x∧x≤(l.length:Int):=by
 obtain ⟨e,h1,h2,h3⟩:=runs_L hc
 have hge:=runs_ge hc
 obtain ⟨k,hk,rfl⟩:=List.getElem_of_mem hx
 have hst:=blkL_step l 0 hge
 have s1:=stairs (blkL 0 l) hst 0 k (by omega)
 have s2:=stairs (blkL 0 l) hst k ((blkL 0 l).length - 1 - k) (by omega)
 rw [Nat.zero_add,blkL_head l 0 hge h3] at s1
 rw [show k+((blkL 0 l).length - 1 - k)=(blkL 0 l).length - 1 by omega,blkL_last l hge h3] at s2
 have eg:(blkL 0 l).getD k 0=(blkL 0 l)[k]:=by simp [hk]
 rw [eg] at s1 s2
 omega
theorem from_rev:revJ (l.length:Int) l.sum (fromR l)=fromR l.reverse:=by
 obtain ⟨e,h1,h2,h3⟩:=runs_L hc
 obtain ⟨_,q2,_,_⟩:=chkR_ok hc
 rw [← e,fromR_blk,fromR_blk,prs_rev (blkL 0 l) (l.length:Int) h2 (by omega) (by omega) (blk_in hc),blkL_rev]
 congr 2
 omega
theorem from_len:(fromR l).length≤256∧(fromR l).length=(blkL 0 l).length:=by
 rw [fromR_blk,prsL_len]
 exact ⟨(runs_L hc).2.2.1,rfl⟩
theorem from_asc:Asc (ltOf cfP) (fromR l):=by
 have hge:=runs_ge hc
 rw [fromR_blk]
 unfold Asc
 rw [List.pairwise_iff_getElem]
 intro i j hi hj hij
 rw [prsL_len] at hi hj
 have s:=stairs (blkL 0 l) (blkL_step l 0 hge) i (j - i) (by omega)
 rw [show i+(j - i)=j by omega] at s
 have e1:∀ k (hk:k < (prsL (blkL 0 l)).length),(prsL (blkL 0 l))[k]=((blkL 0 l).getD k 0,(k:Int)):=fun k hk=>by simp [prsL]
 rw [e1 i,e1 j,cfP_lt]
 refine decide_eq_true ?_
 simp only
 omega
theorem from_mem (p:Int × Int) (hp:p∈fromR l):0≤p.2∧p.2 < l.sum:=by
 have:=(chkJ_ok (from_chk hc)).2 p hp
 exact this.2
theorem from_lst:lst (fromR l)=((l.length:Int) - 1,l.sum - 1):=by
 obtain ⟨e,h1,h2,h3⟩:=runs_L hc
 unfold lst
 rw [fromR_blk,prsL_len,prsL_get _ (by omega),blkL_last l (runs_ge hc) h3]
 congr 1
 omega
theorem from_com {N:Nat} (hN:Big N):T27 N (fromR l,jns l.sum l.sum)=some (fromR l,0):=by
 obtain ⟨e,h1,h2,h3⟩:=runs_L hc
 obtain ⟨f1,f2⟩:=from_len hc
 obtain ⟨L,hL⟩:∃ L,(blkL 0 l).length=L:=⟨_,rfl⟩
 rw [hL] at e h1 h2 f2
 have hK:jns l.sum l.sum=(List.range L).map fun (k:Nat)=>((k:Int),(k:Int)):=by
  rw [← e,jns_nat,Nat.max_self]
  apply List.map_congr_left
  intro k _
  rw [evQ_full (by omega)]
 have hKl:(jns l.sum l.sum).length=L:=by rw [hK]; simp
 have hKlst:lst (jns l.sum l.sum)=(l.sum - 1,l.sum - 1):=by
  unfold lst
  rw [hKl,hK,List.getD_eq_getElem?_getD,List.getElem?_map,List.getElem?_range (by omega)]
  simp only [Option.map_some,Option.getD_some]
  congr 1 <;> omega
 have hKc:chkJ l.sum l.sum (jns l.sum l.sum)=0:=by
  have:=chkJ_jns (a:=L) (b:=L) (by omega) h2 (by omega) h2
  rwa [e] at this
 have rz:∀ a b:Int,0≤a→a≤255→0≤b→b≤255→firstNZ [rng a 0 255,rng b 0 255]=0:=fun a b q1 q2 q3 q4=>by
  have r1:rng a 0 255=0:=by unfold rng; rw [if_neg (by omega)]
  have r2:rng b 0 255=0:=by unfold rng; rw [if_neg (by omega)]
  simp [firstNZ,r1,r2]
 have t1:chkT (fromR l)=0:=by
  unfold chkT
  rw [from_lst hc,if_neg (by omega)]
  simp only
  rw [if_neg (by rw [rz _ _ (by omega) (by omega) (by omega) (by omega)]; simp),show (l.length:Int) - 1+1=(l.length:Int) by omega,show l.sum - 1+1=l.sum by omega]
  exact from_chk hc
 have t2:chkT (jns l.sum l.sum)=0:=by
  unfold chkT
  rw [hKlst,if_neg (by omega)]
  simp only
  rw [if_neg (by rw [rz _ _ (by omega) (by omega) (by omega) (by omega)]; simp),show l.sum - 1+1=l.sum by omega]
  exact hKc
 have ht:twoE (fromR l) (jns l.sum l.sum)=0:=by
  unfold twoE
  rw [t1,t2,from_lst hc,hKlst,if_neg (by simp [firstNZ]),if_neg (by simp)]
 rw [T27_com hN _ _ (by omega) (by omega)]
 unfold comF27
 rw [if_pos ht]
 obtain ⟨i1,i2⟩:=insL_spec swoP totP (0,0) (cmpJ (fromR l) (jns l.sum l.sum))
 have:insL (ltOf cfP) (0,0) (cmpJ (fromR l) (jns l.sum l.sum))=fromR l:=by
  refine asc_ext swoP i1 (from_asc hc) fun x=>?_
  rw [i2,cmpJ_mem,metL_iff]
  constructor
  ·rintro ⟨p,hp,q,hq,e1,e2,e3⟩
   rw [hK] at hq
   obtain ⟨k,_,rfl⟩:=List.mem_map.1 hq
   have:x=p:=Prod.ext e1.symm (by simp only at e2 e3; omega)
   rw [this]; exact hp
  ·intro hx
   have:=from_mem hc x hx
   refine ⟨x,hx,(x.2,x.2),?_,rfl,rfl,rfl⟩
   rw [hK]
   exact List.mem_map.2 ⟨x.2.toNat,List.mem_range.2 (by omega),by rw [show ((x.2.toNat:Nat):Int)=x.2 by omega]⟩
 rw [this]
theorem runsE_sum:runsE (l.length:Int) l.sum=evRuns l.length (blkL 0 l).length 0∧chkR (runsE (l.length:Int) l.sum)=0∧fromR (runsE (l.length:Int) l.sum)=jns (l.length:Int) l.sum∧(runsE (l.length:Int) l.sum).length=l.length:=by
 obtain ⟨e,h1,h2,h3⟩:=runs_L hc
 have e1:runsE (l.length:Int) l.sum=evRuns l.length (blkL 0 l).length 0:=by
  unfold runsE
  rw [← e,Int.toNat_natCast,Int.toNat_natCast,Nat.min_eq_left h1,Nat.max_eq_right h1]
 have hlen:(evRuns l.length (blkL 0 l).length 0).length=l.length:=by simp [evRuns]
 rw [e1]
 refine ⟨rfl,chkR_of (by omega) (by omega) (evRuns_in h3 h1 0) (by rw [evRuns_sum h3 h1]; omega),?_,hlen⟩
 rw [from_even h3 h1 h2,e]
end
section
variable (m:Int) {N:Nat} (hN:Big N)
include hN
theorem R15_sum (l:List Int) (hl:l.length≤256) (hx:∀ x∈l,1≤x∧x≤256):loopR (R15x250 m N l) N (0,0)=some l.sum:=by
 have key:=loopR_foldl (rd:=R15x250 m N l) l (fun (s:Int) k=>(s,(k:Int))) (fun s x=>s+x) (fun s=>s) (fun s k=>0≤s∧s≤(k:Int) * 256)
  (fun s k hk hP=>by
   obtain ⟨p1,p2⟩:=hP
   obtain ⟨a1,a2⟩:=at3 l hk
   have:=hx _ (List.getElem_mem hk)
   refine ⟨?_,by omega,by omega⟩
   simp only [R15x250,List.length_map,Int.toNat_natCast,lt_range hk,in_range hk,a1,a2,Bool.and_self,cond_true,w_succ (show k < 9223372036854775807 by omega),w64 (show -9223372036854775808≤s+l[k]∧s+l[k]≤9223372036854775807 by omega)]) (fun s _=>by
   simp only [R15x250,List.length_map,ge_range,cond_false]) N 0 0 (Nat.zero_le _) (by unfold Big at hN; omega) ⟨Int.le_refl _,by simp⟩
 rw [List.drop_zero,foldl_sum,Int.zero_add] at key
 exact key
theorem R15_turn (l:List Int) (hl:l.length≤256) (e:Int):loopR (R15x131066 m N l (l.reverse,e)) N 0=some (.inr ()):=by
 have key:=loopR_count (rd:=R15x131066 m N l (l.reverse,e)) l.length (fun k=>(k:Int)) (.inr ()) (fun k hk=>by
  have hk':k < l.reverse.length:=by rw [List.length_reverse]; exact hk
  have hk2:l.length - 1 - k < l.length:=by omega
  obtain ⟨a1,a2⟩:=at3 l.reverse hk'
  obtain ⟨b1,b2⟩:=at3 l hk2
  have c1:decide ((0:Int)≤(k:Int)∧(k:Int) < (l.reverse.length:Int))=true:=in_range hk'
  have w1:IntKind.wrap .i64 ((l.length:Int) - 1)=(l.length:Int) - 1:=w64 (by omega)
  have w2:IntKind.wrap .i64 ((l.length:Int) - 1 - (k:Int))=((l.length - 1 - k:Nat):Int):=by rw [w64 (by omega)]; omega
  have ee:l.reverse[k]=l[l.length - 1 - k]:=by rw [List.getElem_reverse]
  simp only [R15x131066,List.length_map,Int.toNat_natCast,lt_range hk,c1,a1,a2,w1,w2,in_range hk2,b1,b2,ee,Bool.and_self,cond_true,bne_self_eq_false,cond_false,w_succ (show k < 9223372036854775807 by omega)]) (by
  simp only [R15x131066,List.length_map,ge_range,cond_false]) N 0 (Nat.zero_le _) (by unfold Big at hN; omega)
 exact key
theorem T15_true (l:List Int):T15 m N l=some true:=by
 rw [T15_eq]
 have T16_eq:∀ u,T16 N u=some true:=fun _=>rfl
 by_cases hw:(l.length:Int) > 20
 ·simp only [List.length_map,hw,decide_true,cond_true,Option.bind_some,T16_eq]
 ·have hl:l.length≤1000000:=by omega
  by_cases hc:chkR l=0
  ·obtain ⟨h1,h2,h3,h4⟩:=chkR_ok hc
   obtain ⟨e,r1,r2,r3⟩:=runs_L hc
   have hrev:=chk_rev hc
   obtain ⟨f1,f2⟩:=from_len hc
   obtain ⟨g1,g2⟩:=from_len hrev
   obtain ⟨s1,s2,s3,s4⟩:=runsE_sum hc
   have hrs:l.reverse.sum=l.sum:=sum_rev l
   have j1:=from_chk hc
   have j2:=from_chk hrev
   have u1:=from_runs hc
   have u2:=from_runs hrev
   have v1:=from_rev hc
   have v2:=from_rev hrev
   rw [List.length_reverse,hrs] at j2 u2 v2
   rw [List.reverse_reverse] at v2
   have hcb:(chkR l != 0)=false:=by simp [hc]
   have hE:List.isEmpty (List.map n3 l)=false:=by
    cases l with
    | nil=>simp at h1
    | cons x l=>rfl
   have hb:decide ((0+l.length) * 8≤140737488355328)=true:=decide_eq_true (by omega)
   have cM:chkM l.sum l.sum=0:=by
    have:=chkM_nat (a:=(blkL 0 l).length) (b:=(blkL 0 l).length) (by omega) r2 (by omega) r2
    rwa [e] at this
   have cM2:chkM (l.length:Int) l.sum=0:=(chkJ_ok j1).1
   obtain ⟨k1,k2,k3,k4⟩:=chkM_ok cM
   obtain ⟨k5,k6,k7,k8⟩:=chkM_ok cM2
   have t75:T75 N l=some (fromR l,0):=by rw [T75_from hN l hl,if_pos hc]
   have t75e:T75 N (runsE (l.length:Int) l.sum)=some (jns (l.length:Int) l.sum,0):=by rw [T75_from hN _ (by omega),if_pos s2,s3]
   have t19:T19 N ((l.length:Int),l.sum,fromR l)=some 0:=by rw [T19_chk hN (fromR l) (by omega),j1]
   have t61:T61 N ((l.length:Int),l.sum,fromR l)=some (l,0):=by rw [T61_runs hN _ _ _ (by omega),if_pos j1,u1]
   have t26:T26 N ((l.length:Int),l.sum,fromR l)=some (fromR l.reverse,0):=by rw [T26_rev hN _ _ _ (by omega),if_pos j1,v1]
   have t26b:T26 N ((l.length:Int),l.sum,fromR l.reverse)=some (fromR l,0):=by rw [T26_rev hN _ _ _ (by omega),if_pos j2,v2]
   have t61b:T61 N ((l.length:Int),l.sum,fromR l.reverse)=some (l.reverse,0):=by rw [T61_runs hN _ _ _ (by omega),if_pos j2,u2]
   have t17:T17 N (l.sum,l.sum)=some (jns l.sum l.sum,0):=T17_jns k1 k2 k3 k4 hN cM
   have t17b:T17 N ((l.length:Int),l.sum)=some (jns (l.length:Int) l.sum,0):=T17_jns k5 k6 k7 k8 hN cM2
   have t27:=from_com hc hN
   have hlj:(jns (l.length:Int) l.sum).length≤1000000:=by
    have:=lng_in k5 k6 k7 k8
    simp [jns]; omega
   have t20:=T20_same N (fromR l) (by omega)
   have t20b:=T20_same N (fromR l.reverse) (by omega)
   have t60:=T60_same hN l hl
   have t24:=T24_same hN (fromR l) (by omega)
   have t24b:=T24_same hN (jns (l.length:Int) l.sum) hlj
   have t82:T82 m N ((l.length:Int),l.sum)=some (rateT (runsE (l.length:Int) l.sum),0):=by rw [T82_rate m hN,if_pos cM2]
   have t83:T83 m N (rateT (runsE (l.length:Int) l.sum))=some (runsE (l.length:Int) l.sum,0):=by
    have hsm:small (runsE (l.length:Int) l.sum):=fun x hx=>by have:=(chkR_ok s2).2.2.1 x hx; omega
    have:=(rateT_len (by omega) hsm).2
    rw [T83_par m hN _ (by omega),parR_rate _ s2]
   have wz:IntKind.wrap .i64 ((0:Int)+0)=0:=by rw [w64 (by omega)]; rfl
   have t63:=T63_chk hN l hl
   have n1:(((fromR l).length:Int) != l.sum)=false:=by
    rw [f2,e]; simp
   have n2:((l.reverse.length:Int) != (l.length:Int))=false:=by simp
   have n3':(((runsE (l.length:Int) l.sum).length:Int) != (l.length:Int))=false:=by rw [s4]; simp
   simp only [List.length_map,hw,decide_false,cond_false,fa3,md3,Bool.and_true,cond_true,Option.bind_some,t63,hcb,hE,hb,List.nil_append,t75,fa46,md46,R15_sum m hN l h2 h3,bne_self_eq_false,n1,t20,t19,t61,t26,t20b,t26b,t61b,t17,t27,wz,t60,Bool.not_true,t24,n2,R15_turn m hN l h2,Sum.elim_inr,t82,t83,n3',t75e,t17b,beq_self_eq_true,t24b,T16_eq]
  ·have hcb:(chkR l != 0)=true:=bne_iff_ne.2 hc
   have t63:=T63_chk hN l hl
   simp only [List.length_map,hw,decide_false,cond_false,fa3,md3,Bool.and_true,cond_true,Option.bind_some,t63,hcb,T16_eq]
end
end Go.Proofs.YtfiopgedfcaodaaGreatDoor
