/- Plain laws: the law of rounds. -/
import Derived.Test.YtldcljfjjoidhaaGreatDoorBraQc
import Derived.Test.YtldcljfjjoidhaaGreatDoorBraQs
import Derived.Test.YtldcljfjjoidhaaGreatDoorBraTh
set_option linter.all false
namespace Go.Proofs.YtldcljfjjoidhaaGreatDoor
open Go Go.Am Go.Sort
open List (map)
open Int (toNat)
open Go.IntKind (wrap)
open Go.Am.aT (fits)
set_option maxRecDepth 100000
theorem Z7 (l:List dM):hU (map ae l) (map ae l)=true:=by
 induction l with
 | nil=>rfl
 | cons x l ih=>
  rw [List.map_cons,hU,ih]
  show (hU [AV.int .i64 x.1,AV.int .i64 x.2.1,AV.int .i64 x.2.2] [AV.int .i64 x.1,AV.int .i64 x.2.1,AV.int .i64 x.2.2]&&true)=true
  simp [hU,dX,FP]
def RJ (x:Int):Bool:=decide (x < -100000) || decide (x > 100000)
theorem MW (N:Nat) (x:Int):Bq N x=some (RJ x):=by
 rw [Br]
 unfold RJ
 by_cases h:x < -100000
 ·simp [h]
 ·simp [h]
theorem BG {x:Int} (h:-100000≤x∧x≤100000):RJ x=false:=by
 unfold RJ
 rw [decide_eq_false (by omega),decide_eq_false (by omega)]
 rfl
section
variable {N:Nat} (hN:fB N)
include hN
theorem RL (l:List dM):T19 N l=some (FF l):=by
 rw [Wr]
 simp only [List.length_map]
 unfold FF
 by_cases h:l.length > 4096
 ·have h':(l.length:Int) > 4096:=by omega
  simp [h,h']
 ·have h':¬ (l.length:Int) > 4096:=by omega
  have key:=ik (rd:=yj N l) ((List.range l.length).map (IC l)) (fun k hk=>by
   have hk:k < l.length:=by simpa using hk
   obtain ⟨a1,a2⟩:=jM l hk
   rw [List.getElem_map,List.getElem_range]
   have e1:l.getD k (0,0,0)=l[k]:=by simp [hk]
   unfold IC
   rw [e1]
   have q1:Ma N (l[k].1,l[k].2.1,l[k].2.2)=_:=Rh N l[k]
   have q2:Mb N (l[k].1,l[k].2.1,l[k].2.2)=_:=Ri N l[k]
   have q3:xJ N ((mE l[k]).1,(mE l[k]).2)=_:=pM N (mE l[k])
   have q4:xJ N ((mH l[k]).1,(mH l[k]).2)=_:=pM N (mH l[k])
   have q5:(((bif (aF (mE l[k]) == 0) then (bif (l[k].2.2 != 1) then (some (l[k].2.2 != (-1))) else (some false)) else (some false)):Option Bool).bind fun o4=>((((bif o4 then (some 13) else (some (aF (mE l[k])))):Option Int)).bind fun o5=>(((bif (o5 == 0) then some (aF (mH l[k])) else (some o5)):Option Int))))=some (gB l[k]):=by
    unfold gB
    by_cases h0:aF (mE l[k])=0
    ·by_cases h1:l[k].2.2=1
     ·simp [h0,h1]
     ·by_cases h2:l[k].2.2=-1
      ·simp [h0,h2]
      ·have b1:(l[k].2.2 != 1)=true:=bne_iff_ne.2 h1
       have b2:(l[k].2.2 != -1)=true:=bne_iff_ne.2 h2
       simp [h0,h1,h2,b1,b2]
    ·have hb:(aF (mE l[k]) == 0)=false:=beq_false_of_ne h0
     simp [h0,hb]
   have q6:∀ (F:Int→Option (Int ⊕ (Int ⊕ Unit))),((((bif (aF (mE l[k]) == 0) then (bif (l[k].2.2 != 1) then (some (l[k].2.2 != (-1))) else (some false)) else (some false)):Option Bool).bind fun o4=>((((bif o4 then (some 13) else (some (aF (mE l[k])))):Option Int)).bind fun o5=>(((bif (o5 == 0) then some (aF (mH l[k])) else (some o5)):Option Int)).bind F)))=F (gB l[k]):=by
    intro F
    have:=congrArg (fun o:Option Int=>o.bind F) q5
    simp only [Option.bind_some] at this
    rw [← this]
    simp only [Option.bind_assoc]
   by_cases zo:k=0
   ·subst zo
    simp only [yj,List.length_map,Int.toNat_natCast,a1,a2,bf hk,aO hk,Bool.and_self,cond_true,q1,q2,q3,q4,Option.bind_some,bA (show 0 < 9223372036854775807 by omega),show decide (((0:Nat):Int) > 0)=false from rfl,cond_false]
    rw [q6]
    by_cases h0:gB l[0]=0
    ·simp [h0]
    ·have hb:(gB l[0] != 0)=true:=bne_iff_ne.2 h0
     simp [h0,hb]
   ·have BQ:k - 1 < l.length:=by omega
    obtain ⟨b1,b2⟩:=jM l BQ
    have e2:l.getD (k - 1) (0,0,0)=l[k - 1]:=by simp [BQ]
    rw [e2]
    have ew:wrap .i64 ((k:Int) - 1)=((k - 1:Nat):Int):=by rw [iE (by omega)]; omega
    have hp:decide ((k:Int) > 0)=true:=decide_eq_true (by omega)
    have q7:SU N ((l[k - 1].1,l[k - 1].2.1,l[k - 1].2.2),(l[k].1,l[k].2.1,l[k].2.2))=_:=Ad N l[k - 1] l[k]
    simp only [yj,List.length_map,Int.toNat_natCast,a1,a2,bf hk,aO hk,Bool.and_self,cond_true,q1,q2,q3,q4,Option.bind_some,hp,ew,b1,b2,aO BQ,q7,bA (show k < 9223372036854775807 by omega)]
    rw [q6]
    by_cases h0:gB l[k]=0
    ·cases less l[k - 1] l[k] with
     | true=>simp [h0]
     | false=>simp [h0,show 0 < k by omega]
    ·have hb:(gB l[k] != 0)=true:=bne_iff_ne.2 h0
     simp [h0,hb]) (by
   rw [List.length_map,List.length_range]
   simp only [yj,List.length_map,bt,cond_false]) N (by unfold fB at hN; rw [List.length_map,List.length_range]; omega)
  rw [if_neg h]
  simp only [h',decide_false,cond_false,key,Option.bind_some]
  split <;> simp_all
theorem An {p q:List bD} (hp:bY p=0) (hq:bY q=0) (ht:Dx q q.length=Dx p p.length) (hf:(DD q).length=(DD p).length):Wu N (p,q)=some true:=by
 have lp:=(fS hp).1
 have lq:=(fS hq).1
 have hz:∀ p:List bD,bY p=0→∀ c∈p,bX c=0:=fun p h=>(gr h).2
 have q1:=Ml hN p _ (iM hN p) (hz p) (by omega)
 have q2:=Ml hN q _ (iM hN q) (hz q) (by omega)
 have q3:=G6 hN p
 have q4:=G6 hN q
 rw [if_pos hp] at q1 q3
 rw [if_pos hq] at q2 q4
 have tl:=G3 hN p p.length
 have s3:=Mj hN (Dx p p.length) (by omega)
 have w0:(wrap .i64 ((wrap .i64 ((wrap .i64 (0+0))+0))+0) == 0)=true:=rfl
 rw [Ww]
 simp only [Bl,Bm,jJ,jK,Sr,Ss,Bool.and_self,Bool.and_true,cond_true,Option.bind_some,ye hN p (by omega),ye hN q (by omega),q1,q2,q3,q4,w0,ht,s3,List.length_map,hf,beq_self_eq_true]
theorem IQ (l:List dM) (dx dy:Int) (hl:l.length≤1000000) (hx:-200000≤dx∧dx≤200000) (hy:-200000≤dy∧dy≤200000) (h0:∀ b∈l,gB b=0) (h:∀ b∈l,gB (fh false dx dy b)=0):T76 N (l,(dx,dy))=some (l.map (fh false dx dy),true):=by
 have key:=bK (rd:=sx N l (dx,dy)) l.length (fun k=>((l.take k).map (fh false dx dy),true,(k:Int))) (l.map (fh false dx dy),true) (fun k hk=>by
  obtain ⟨a1,a2⟩:=jM l hk
  have e:(l.take (k+1)).map (fh false dx dy)=(l.take k).map (fh false dx dy)++[fh false dx dy l[k]]:=by
   rw [List.take_add_one,List.getElem?_eq_getElem hk,List.map_append]
   rfl
  have hs:((l.take k).map (fh false dx dy)).length=k:=by rw [List.length_map,List.length_take]; omega
  obtain ⟨d1,mG,eR⟩:=lx (h0 l[k] (List.getElem_mem hk))
  obtain ⟨c1,c2,c3⟩:=lx (h l[k] (List.getElem_mem hk))
  rw [nF c1 c2] at c3
  have b0:=ey d1
  have b1:=ey c1
  have b2:=ey c3
  rw [e]
  have sl:=Z7 l
  generalize (l.take k).map (fh false dx dy)=s at *
  generalize l[k]=b at *
  unfold mE at b0
  unfold fh mk mE at b1
  unfold fh mk at b2 c2
  simp only [Bool.false_eq_true,if_false] at b0 b1 b2 c2
  have w1:wrap .i64 (b.1+dx)=b.1+dx:=iE (by omega)
  have w2:wrap .i64 (b.2.1+dy)=b.2.1+dy:=iE (by omega)
  have w3:wrap .i64 (b.1+dx+b.2.2)=b.1+dx+b.2.2:=iE (by omega)
  have w4:wrap .i64 (b.2.1+dy+1)=b.2.1+dy+1:=iE (by omega)
  have f1:=BG (x:=b.1+dx) (by omega)
  have f2:=BG (x:=b.2.1+dy) (by omega)
  have f3:=BG (x:=b.1+dx+b.2.2) (by omega)
  have f4:=BG (x:=b.2.1+dy+1) (by omega)
  have sn:=mC s (fh false dx dy b) (b.1+dx) (b.2.1+dy) b.2.2 rfl
  have hb:decide ((k+1) * 24≤140737488355328)=true:=decide_eq_true (by omega)
  simp only [sx,List.length_map,Int.toNat_natCast,bf hk,aO hk,a1,a2,beq_self_eq_true,sl,Bool.and_self,Bool.and_true,cond_true,w1,w2,w3,w4,MW,f1,f2,f3,f4,Bool.not_false,Option.bind_some,cQ,cM,hs,decide_true,hb,sn,List.length_append,List.length_singleton,bA (show k < 9223372036854775807 by omega)]) (by
  simp only [sx,List.length_map,bt,cond_false,List.take_length,cQ,cM,Bool.and_self,Bool.and_true,decide_true,cond_true,Option.bind_some]) N 0 (Nat.zero_le _) (by unfold fB at hN; omega)
 have z:((bif (allFit (fits aw) ([]:List AV)&&true) then some ((map ak ([]:List AV)),true,0) else none:Option (List dM × Bool × Int)).bind fun Ip=>bif (decide (0=(map ae Ip.1).length)&&true) then some Ip else none)=some ([],true,0):=rfl
 have lQ:aG (sx N l (dx,dy)) N ([],true,0)=_:=key
 rw [Wt,z,Option.bind_some,lQ,Option.bind_some]
 simp only [cQ,cM,Bool.and_true,cond_true]
theorem RM (m:Int) (l:List dM) (y:Int) (hl:l.length≤1000000) (h0:∀ b∈l,gB b=0):aG (pP m N (l,y)) N ([],0)=some (l.map (fh true 0 0)):=
 Rw l (fh true 0 0) (fun k hk s hs=>by
  obtain ⟨a1,a2⟩:=jM l hk
  obtain ⟨d1,mG,eR⟩:=lx (h0 l[k] (List.getElem_mem hk))
  have b0:=ey d1
  generalize l[k]=b at *
  unfold mE at b0
  simp only at b0
  have w1:wrap .i64 (0 - b.1)=-b.1+0:=by rw [iE (by omega)]; omega
  have w2:wrap .i64 (0 - b.2.2)=-b.2.2:=by rw [iE (by omega)]; omega
  have hb:decide ((k+1) * 24≤140737488355328)=true:=decide_eq_true (by omega)
  have sn:=mC s (fh true 0 0 b) (-b.1+0) b.2.1 (-b.2.2) (by unfold fh mk; simp)
  simp only [pP,List.length_map,Int.toNat_natCast,bf hk,aO hk,a1,a2,Bool.and_self,Bool.and_true,cond_true,w1,w2,hs,decide_true,hb,sn,cQ,cM,Option.bind_some,List.length_append,List.length_singleton,bA (show k < 9223372036854775807 by omega)]) (fun s hs=>by
  simp only [pP,List.length_map,bt,cond_false,cQ,cM,Bool.and_self,Bool.and_true,decide_true,cond_true,Option.bind_some]) N (by unfold fB at hN; omega)
theorem DI {Y:Type} (l:List bD) (hl:l.length≤1000000) (T:List bD→Option (Y × Int)) (r:Y × Int) (hr:T l=some r) :
  ((bif List.isEmpty (map ai l) then ((bif (allFit (fits dG) []) then some (map aq []) else none:Option (List bD)).bind fun Wm=>(T Wm).bind fun Fu=>some (Fu.1,Fu.2)) else bif decide ((0+List.length (map ai l)) * 32≤140737488355328) then ((bif (allFit (fits dG) ([]++(map ai l))) then some (map aq ([]++(map ai l))) else none:Option (List bD)).bind fun ZZ=>(T ZZ).bind fun Xd=>some (Xd.1,Xd.2)) else none):Option (Y × Int))=some r:=by
 have g1:decide ((0+l.length) * 32≤140737488355328)=true:=decide_eq_true (by omega)
 cases l with
 | nil=>
  rw [show List.isEmpty (map ai ([]:List bD))=true from rfl,cond_true]
  have e8:allFit (fits dG) ([]:List AV)=true:=rfl
  have m8:map aq ([]:List AV)=[]:=rfl
  simp only [e8,m8,cond_true,Option.bind_some,hr]
 | cons y b=>
  rw [show List.isEmpty (map ai (y :: b))=false from rfl]
  simp only [cond_false,List.length_map,g1,cond_true,List.nil_append,jJ,jK,Option.bind_some,hr]
theorem MX (m:Int) (p:List bD) (x:Int × Int × Int):Z2 m N (p,x)=some true:=by
 have hT:∀ u,W9 N u=some true:=fun _=>rfl
 obtain ⟨b,hb,hs⟩:=Wy hN p 7 (by omega)
 have hb:Ze N (p,7)=some b:=hb
 rw [WB]
 simp only [Bl,Bm,Bool.and_true,cond_true,Option.bind_some,hb]
 cases b with
 | false=>simp only [Bool.not_false,cond_true,hT,Option.bind_some]
 | true=>
  simp only [Bool.not_true,cond_false,Re hN p,Option.bind_some]
  by_cases h:bY p=0
  ·obtain ⟨hl,-⟩:=hs rfl
   have hp:p.length≤256:=(fS h).1
   have hz:∀ q:List bD,bY q=0→∀ c∈q,bX c=0:=fun q h=>(gr h).2
   have o0:∀ q:List bD,bY q=0→(bp q).Nodup∧(cU q).length≤4096:=fun q hq=>by
    obtain ⟨o1,o2⟩:=qV hq q.length (Nat.le_refl _)
    rw [List.take_length] at o1 o2
    exact ⟨o1,by rw [yg o1]; exact o2⟩
   have q39:∀ q:List bD,bY q=0→GX N q=some (cU q,0):=fun q hq=>by
    have:=Ra hN q _ (iM hN q) (hz q) (by have:=(fS hq).1; omega)
    rw [if_pos hq,tF (o0 q hq).1] at this
    exact this
   have q67:∀ q:List bD,bY q=0→SP N q=some (q.map nV,0):=fun q hq=>by rw [Ry hN q,if_pos hq]
   have q68:∀ q:List bD,bY q=0→SQ N q=some (q.map df,0):=fun q hq=>by rw [MG hN q,if_pos hq]
   have s49:∀ q:List bD,bY q=0→VP N (cU q,cU q)=some true:=fun q hq=>Mi hN _ (by have:=(o0 q hq).2; omega)
   have s37:=MH hN p (by omega)
   have s38:∀ q:List bD,q.length≤1000000→QB N q=some q:=fun q hq=>Wx hN q hq
   have eb:=IM h
   have em:=MT h
   have lb:(p.map df).length≤1000000:=by rw [List.length_map]; omega
   have lm:(p.map nV).length≤1000000:=by rw [List.length_map]; omega
   have c1:=DI hN (p.map df) lb (SQ N) _ (q68 _ eb)
   have c2:=DI hN (p.map df) lb (GX N) _ (q39 _ eb)
   have c3:=DI hN (p.map nV) lm (SP N) _ (q67 _ em)
   have c4:=DI hN (p.map nV) lm (GX N) _ (q39 _ em)
   rw [IP h] at c1
   rw [IN h] at c2
   rw [RH] at c3
   have w4:(wrap .i64 ((wrap .i64 ((wrap .i64 (0+0))+0))+0) != 0)=false:=rfl
   have w3:(wrap .i64 ((wrap .i64 (0+0))+0) != 0)=false:=rfl
   have q19:=RL hN (cU p)
   rw [DC h] at q19
   have hv:∀ b∈cU p,gB b=0:=fun b hb=>gN h b (((cO p).2 b).1 hb)
   have nl:=(o0 p h).2
   have r12:=RM hN m (cU p) 0 (by omega) hv
   have z2:((bif (allFit (fits aw) ([]:List AV)) then some ((map ak ([]:List AV)),0) else none:Option (List dM × Int)).bind fun Z3=>bif decide (0=(map ae Z3.1).length) then some Z3 else none)=some ([],0):=rfl
   have q62:ZF N ((cU p).map (fh true 0 0))=some (cU (p.map nV)):=by
    rw [Q8 hN _ (by rw [List.length_map]; omega),yn,← IK]
   have q75:Wu N (p,p.map nV)=some true:=by
    rw [yn] at em ⊢
    exact An hN h em (MP p) (MR h em)
   obtain ⟨b77,h77⟩:∃ b,((bif ((Int.tmod (wrap .i64 x.1) 2) != (Int.tmod (wrap .i64 x.2.1) 2)) then (some ((Int.tmod (wrap .i64 x.1) 2) != (Int.tmod (wrap .i64 (0 - (wrap .i64 x.2.1))) 2))) else (some false)):Option Bool)=some b:=by
    cases ((Int.tmod (wrap .i64 x.1) 2) != (Int.tmod (wrap .i64 x.2.1) 2)) <;> exact ⟨_,rfl⟩
   obtain ⟨dy,h78⟩:∃ v,((bif b77 then (some (wrap .i64 ((wrap .i64 x.2.1)+1))) else (some (wrap .i64 x.2.1))):Option Int)=some v:=by
    cases b77 <;> exact ⟨_,rfl⟩
   simp only [h,bne_self_eq_false,cond_false,h77,h78,ye hN p (by omega),jJ,jK,Bl,Bm,cQ,cM,Bool.and_self,cond_true,Option.bind_some,q39 p h,q68 p h,q67 p h,c1,c2,c3,c4,w4,w3,s38 p (by omega),s37,s49 p h,s49 _ em,q19,Bool.not_true,z2,r12,q62,s38 _ lm,q75]
   have WD:=MI hN p (wrap .i64 x.1) dy
   rw [if_neg (by simp [h])] at WD
   generalize wrap .i64 x.1=dx at *
   have eP:((3:Int) != 0)=true:=rfl
   have n14:((14:Int) != 0)=true:=rfl
   have e33:((3:Int) == 3)=true:=rfl
   have e43:((14:Int) == 3)=false:=rfl
   have e44:((14:Int) == 14)=true:=rfl
   rcases za (dx:=dx) (dy:=dy) h with hq | hq | hq
   ·obtain ⟨hx,hy,el,e0⟩:=BF h hq
    rw [if_pos hq,el] at WD
    have ll:(p.map (iT false dx dy)).length≤1000000:=by rw [List.length_map]; omega
    have c5:=DI hN (p.map (iT false dx dy)) ll (GX N) _ (q39 _ e0)
    have hv2:∀ b∈cU p,gB (fh false dx dy b)=0:=fun b hb=>gN e0 _ (((cO _).2 _).1 ((il p _).2 ⟨b,hb,rfl⟩))
    have q76:=IQ hN (cU p) dx dy (by omega) hx hy hv hv2
    rw [← RE] at q76
    have aec:Wu N (p,p.map (iT false dx dy))=some true:=An hN h e0 (MP p) (MR h e0)
    have wl:wrap .i64 ((p.length:Int)+1)=(p.length:Int)+1:=iE (by omega)
    have wu:0≤wrap .u8 x.2.2∧wrap .u8 x.2.2 < 256:=by
     have:wrap .u8 x.2.2=x.2.2 % 256:=by simp [wrap,IntKind.bits,IntKind.signed]
     rw [this]
     omega
    generalize wrap .u8 x.2.2=u at *
    have wu2:wrap .i64 u=u:=iE (by omega)
    obtain ⟨K,hK,hKl⟩:∃ K:Nat,Int.tmod u ((p.length:Int)+1)=(K:Int)∧K≤p.length:=by
     rw [Int.tmod_eq_emod_of_nonneg wu.1]
     have h1:=Int.emod_nonneg u (show (p.length:Int)+1≠0 by omega)
     have h2:=Int.emod_lt_of_pos u (show (0:Int) < (p.length:Int)+1 by omega)
     exact ⟨(u % ((p.length:Int)+1)).toNat,by omega,by omega⟩
    have d1:decide ((p.length:Int)+1=0)=false:=decide_eq_false (by omega)
    have mG:decide ((0:Int)≤(K:Int)∧(K:Int)≤(p.length:Int))=true:=decide_eq_true (by omega)
    have t1:(p.take K).length≤1000000:=by rw [List.length_take]; omega
    have t2:(p.drop K).length≤1000000:=by rw [List.length_drop]; omega
    have q70:=MJ hN (p.take K) (p.drop K)
    rw [II h K,IJ h K,List.take_append_drop,if_pos h,if_neg (show ¬ aS [0,0]≠0 by simp [aS])] at q70
    simp only [WD,Option.bind_some,bne_self_eq_false,cond_false,c5,q76,s49 _ e0,Bool.not_true,s38 _ ll,aec]
    simp only [List.length_map,wl,wu2,hK,d1,mG,Bool.not_false,cond_true,Int.toNat_natCast,z8,List.drop_zero,List.take_length,Bl,Bm,ye hN _ t1,ye hN _ t2,q70,Option.bind_some,beq_self_eq_true,s38 p (by omega),s37,hT]
   ·rw [hq,if_neg (by decide)] at WD
    simp only [WD,Option.bind_some,eP,e33,cond_true,hT]
   ·rw [hq,if_neg (by decide)] at WD
    simp only [WD,Option.bind_some,n14,e43,e44,cond_true,cond_false,hT]
  ·have ZR:(bY p != 0)=true:=bne_iff_ne.2 h
   simp only [ZR,cond_true,hT,Option.bind_some]
end
end Go.Proofs.YtldcljfjjoidhaaGreatDoor
