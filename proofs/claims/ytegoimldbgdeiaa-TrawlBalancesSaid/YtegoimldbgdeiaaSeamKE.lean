/- Plain laws: law 3,loads. -/
import Derived.Test.YtegoimldbgdeiaaSeamKD
import Derived.Test.YtegoimldbgdeiaaTrwT
set_option linter.all false
namespace Go.Proofs.Ytegoimldbgdeiaa
open Go Go.Am
set_option maxRecDepth 100000
theorem Hd (l:List Ld) (x:Ld):List.map bh l++[AV.agg [AV.str x.1,AV.int .i64 x.2.1,AV.int .i64 x.2.2]]=List.map bh (l++[x]):=by rw [List.map_append]; rfl
theorem Qs:allFit (ah.fits tg) ([]:List AV)=true:=rfl
theorem Qt:List.map d28 ([]:List AV)=[]:=rfl
section
variable {N:Nat} (hN:hZ N)
include hN
end
end Go.Proofs.Ytegoimldbgdeiaa
namespace Go.Proofs.Ytegoimldbgdeiaa
open Go Go.Am
set_option maxRecDepth 100000
theorem He (D:Int):nT (-D)=nT D:=by unfold nT; split <;> split <;> omega
theorem Cs (D P a:Int):cI (-D) P a=cI D P a:=by unfold cI; rw [He]
theorem EB (n D:Int):fa n (-D)=fa n D:=by
 unfold fa
 have et:Int.tmod (n - -D) 2=0↔Int.tmod (n - D) 2=0:=⟨fun h=>Int.tmod_eq_zero_of_dvd (by have:=Int.dvd_of_tmod_eq_zero h; omega),fun h=>Int.tmod_eq_zero_of_dvd (by have:=Int.dvd_of_tmod_eq_zero h; omega)⟩
 by_cases h:Int.tmod (n - D) 2=0
 ·rw [if_pos h,if_pos (et.2 h)]
 ·rw [if_neg h,if_neg (fun e=>h (et.1 e))]
theorem Hf {M P a b:Int} (hL:1≤a * b):mD (-M) P a b=(((mD M P a b).1.2,(mD M P a b).1.1),(mD M P a b).2):=by
 unfold mD
 by_cases hd:Int.tmod M (a * b)=0
 ·have vC:Int.tmod (-M) (a * b)=0:=by rw [Int.neg_tmod,hd]; rfl
  obtain ⟨e,_,_⟩:=rH hL hd
  obtain ⟨e',_,_⟩:=rH hL vC
  have en:-M / (a * b)=-(M / (a * b)):=by
   have h3:(a * b) * (-M / (a * b))=(a * b) * (-(M / (a * b))):=by rw [← e',Int.mul_neg,← e]
   exact Int.eq_of_mul_eq_mul_left (by omega) h3
  rw [if_neg (show ¬ (Int.tmod M (a * b)≠0) from fun h=>h hd),if_neg (show ¬ (Int.tmod (-M) (a * b)≠0) from fun h=>h vC),en,Cs,EB]
  generalize fa (cI (M / (a * b)) P a) (M / (a * b))=e1
  generalize M / (a * b)=D
  by_cases hg:e1 > 10000
  ·rw [if_pos hg,if_pos hg]
  ·rw [if_neg hg,if_neg hg]
   have x1:e1+-D=e1 - D:=by omega
   have x2:e1 - -D=e1+D:=by omega
   rw [x1,x2]
 ·have vC:Int.tmod (-M) (a * b)≠0:=by rw [Int.neg_tmod]; omega
  rw [if_pos hd,if_pos vC]
theorem Hg {M P a b:Int} (ok:HF M P a b) (h:(mD M P a b).2=5):(if -M > M then -M else M) > a * b * 9998∨-P > a * 9998:=by
 have hL:=ok.L
 unfold mD at h
 by_cases hd:Int.tmod M (a * b)=0
 ·rw [if_neg (show ¬ (Int.tmod M (a * b)≠0) from fun q=>q hd)] at h
  obtain ⟨e,_,_⟩:=rH hL.1 hd
  have hn:=ok.n hd
  by_cases hg:fa (cI (M / (a * b)) P a) (M / (a * b)) > 10000
  ·have eb:=yK (cI (M / (a * b)) P a) (M / (a * b))
   have hl:cI (M / (a * b)) P a≥10000:=by omega
   have ha:=ok.a
   generalize M / (a * b)=D at *
   generalize a * b=L at *
   have hD:nT D≥10000→(if -M > M then -M else M) > L * 9998:=fun h=>by
    unfold nT at h
    by_cases vC:-D > D
    ·rw [if_pos vC] at h
     have h1:L * 10000≤L * (-D):=Int.mul_le_mul_of_nonneg_left h (by omega)
     rw [Int.mul_neg,← e] at h1
     split <;> omega
    ·rw [if_neg vC] at h
     have h1:L * 10000≤L * D:=Int.mul_le_mul_of_nonneg_left h (by omega)
     rw [← e] at h1
     split <;> omega
   unfold cI at hl
   by_cases hP:P < 0
   ·rw [if_pos hP] at hl
    by_cases hq:qI P a > nT D
    ·rw [if_pos hq] at hl
     refine .inr ?_
     have h1:=(oq ha.1 hP).2.2 9999
     have h2:¬ 0≤P+a * 9999:=fun h=>by have:=h1.1 h; omega
     have h3:a * 9999=a * 9998+a:=by omega
     omega
    ·rw [if_neg hq] at hl; exact .inl (hD hl)
   ·rw [if_neg hP] at hl; exact .inl (hD hl)
  ·rw [if_neg hg] at h; cases h
 ·rw [if_pos hd] at h; exact absurd h (by decide)
theorem JB {M P a b:Int} (h:(mD M P a b).2=23):Int.tmod M (a * b)≠0:=by
 intro hd
 unfold mD at h
 rw [if_neg (show ¬ (Int.tmod M (a * b)≠0) from fun q=>q hd)] at h
 split at h
 ·exact absurd (show (5:Int)=23 from h) (by decide)
 ·exact absurd (show (0:Int)=23 from h) (by decide)
theorem NF {M P a b:Int} (ok:HF M P a b) (h1:(mD M P a b).2≠23) (h2:(mD M P a b).2≠5) :
  ∃ f g:Int,mD M P a b=((f,g),0)∧0≤f∧0≤g∧f+g≤10000∧M+a * b * (g - f)=0∧0≤P+a * (f+g)∧(f=0∨g=0∨P+a * (f+g - 2) < 0):=by
 have hL:=ok.L
 unfold mD at h1 h2 ⊢
 by_cases hd:Int.tmod M (a * b)=0
 ·rw [if_neg (show ¬ (Int.tmod M (a * b)≠0) from fun q=>q hd)] at h1 h2 ⊢
  by_cases hg:fa (cI (M / (a * b)) P a) (M / (a * b)) > 10000
  ·rw [if_pos hg] at h2; exact absurd rfl h2
  ·rw [if_neg hg]
   obtain ⟨e,_,_⟩:=rH hL.1 hd
   have ha:=ok.a
   have hn:=ok.n hd
   have ee:=Jz (cI (M / (a * b)) P a) (M / (a * b))
   have eb:=yK (cI (M / (a * b)) P a) (M / (a * b))
   have sp:=fun s hs=>Hb (D:=M / (a * b)) (P:=P) ha.1 s hs
   generalize hE:fa (cI (M / (a * b)) P a) (M / (a * b))=s at *
   obtain ⟨s1,s2,s3,s4⟩:=(sp s (by omega)).2 ⟨Int.le_refl _,ee⟩
   generalize M / (a * b)=D at *
   have XR:=Int.dvd_of_tmod_eq_zero ee
   have f1:2 * Int.tdiv (s+D) 2=s+D:=by
    have:=Int.mul_tdiv_add_tmod (s+D) 2
    have h0:Int.tmod (s+D) 2=0:=Int.tmod_eq_zero_of_dvd (by omega)
    omega
   have f2:2 * Int.tdiv (s - D) 2=s - D:=by
    have:=Int.mul_tdiv_add_tmod (s - D) 2
    omega
   refine ⟨_,_,rfl,?_⟩
   generalize Int.tdiv (s+D) 2=f at *
   generalize Int.tdiv (s - D) 2=g at *
   have x1:g - f=-D:=by omega
   have x2:f+g=s:=by omega
   refine ⟨by omega,by omega,by omega,?_,by rw [x2]; exact s4,?_⟩
   ·rw [x1,Int.mul_neg,← e]; omega
   ·by_cases hf:f=0
    ·exact .inl hf
    ·by_cases hg:g=0
     ·exact .inr (.inl hg)
     ·refine .inr (.inr ?_)
      rw [x2]
      by_cases hp:0≤P+a * (s - 2)
      ·have:=(sp (s - 2) (by omega)).1 ⟨by omega,by omega,Int.tmod_eq_zero_of_dvd (by omega),hp⟩
       omega
      ·omega
 ·rw [if_pos hd] at h1; exact absurd rfl h1
def kq (l:List Ld):List Ld:=l.map fun x=>(x.1,x.2.1,-x.2.2)
theorem EC {l:List Ld} (h:dy l=0):dy l.reverse=0:=by
 unfold dy at h ⊢
 rw [List.length_reverse]
 split at h
 ·cases h
 ·rename_i h1
  rw [if_neg h1,dS]
  intro x hx
  rw [List.map_reverse,List.mem_reverse] at hx
  exact dS.1 h x hx
theorem ED {l:List Ld} (h:dy l=0):dy (kq l)=0:=by
 obtain ⟨h1,h2⟩:=qG h
 have qT:¬ (kq l).length > 64:=by unfold kq; rw [List.length_map]; omega
 unfold dy
 rw [if_neg qT,dS]
 intro x hx
 unfold kq at hx
 rw [List.map_map] at hx
 obtain ⟨y,hy,rfl⟩:=List.mem_map.1 hx
 obtain ⟨g1,g2,g3⟩:=h2 y hy
 have r1:kB y.2.1 (-1000000) 1000000=0:=by unfold kB; rw [if_neg (by omega)]
 have r2:kB (-y.2.2) (-10000) 10000=0:=by unfold kB; rw [if_neg (by omega)]
 show lK (y.1,y.2.1,-y.2.2)=0
 unfold lK
 show cn [if hJ y.1 then 0 else 8,kB y.2.1 (-1000000) 1000000,kB (-y.2.2) (-10000) 10000]=0
 rw [g1,r1,r2]; rfl
theorem Hh (l:List Ld):hU l.reverse=hU l:=by
 unfold hU; rw [List.map_reverse,List.sum_reverse]
theorem Hi (l:List Ld):gu l.reverse=gu l:=by
 unfold gu; rw [List.map_reverse,List.sum_reverse]
theorem Hj (l:List Ld):hU (kq l)=hU l:=by
 unfold hU kq; rw [List.map_map]; rfl
theorem AG:∀ l:List Ld,gu (kq l)=-gu l
 | []=>rfl
 | x :: l=>by
  have h:=AG l
  have e1:gu (kq (x :: l))=x.2.1 * -x.2.2+gu (kq l):=rfl
  have e2:gu (x :: l)=x.2.1 * x.2.2+gu l:=rfl
  rw [e1,e2,h,Int.mul_neg]; omega
section
variable {N:Nat} (hN:hZ N)
include hN
theorem Hk (l:List Ld) (h:dy l=0):a8 (vA N l) N ([],[],[],0)=some (l,l.reverse,kq l.reverse):=by
 obtain ⟨h1,h2⟩:=qG h
 have hm:(kq l.reverse).length=l.length:=by unfold kq; rw [List.length_map,List.length_reverse]
 refine dR (rd:=vA N l) l.length (fun k=>(l.take k,l.reverse.take k,(kq l.reverse).take k,(k:Int))) (l,l.reverse,kq l.reverse) (fun k hk=>?_) ?_ N 0 (Nat.zero_le _) (by unfold hZ at hN; omega)
 ·have hj:l.length - 1 - k < l.length:=by omega
  obtain ⟨e1,e2⟩:=NE l hk
  obtain ⟨e3,e4⟩:=NE l hj
  have hr:k < l.reverse.length:=by rw [List.length_reverse]; exact hk
  have QC:k < (kq l.reverse).length:=by rw [hm]; exact hk
  have er:l.reverse[k]=l[l.length - 1 - k]:=by rw [List.getElem_reverse]
  have em:(kq l.reverse)[k]=(l[l.length - 1 - k].1,l[l.length - 1 - k].2.1,-l[l.length - 1 - k].2.2):=by
   have:=List.getElem_map (fun x:Ld=>(x.1,x.2.1,-x.2.2)) (l:=l.reverse) (i:=k) (h:=by rw [List.length_map]; exact hr)
   rw [er] at this; exact this
  obtain ⟨_,_,ga⟩:=h2 l[l.length - 1 - k] (List.getElem_mem hj)
  have wi:IntKind.wrap .i64 (IntKind.wrap .i64 ((l.length:Int) - 1) - (k:Int))=((l.length - 1 - k:Nat):Int):=by
   rw [mJ (x:=(l.length:Int) - 1) (by omega),mJ (by omega)]; omega
  have wa:IntKind.wrap .i64 (0 - l[l.length - 1 - k].2.2)=-l[l.length - 1 - k].2.2:=by rw [mJ (by omega)]; omega
  have t1:l.take k++[l[k]]=l.take (k+1):=by rw [List.take_add_one,List.getElem?_eq_getElem hk]; rfl
  have t2:l.reverse.take k++[l[l.length - 1 - k]]=l.reverse.take (k+1):=by rw [List.take_add_one,List.getElem?_eq_getElem hr,er]; rfl
  have t3:(kq l.reverse).take k++[(l[l.length - 1 - k].1,l[l.length - 1 - k].2.1,-l[l.length - 1 - k].2.2)]=(kq l.reverse).take (k+1):=by rw [List.take_add_one,List.getElem?_eq_getElem QC,em]; rfl
  have s3:=Hd ((kq l.reverse).take k) (l[l.length - 1 - k].1,l[l.length - 1 - k].2.1,-l[l.length - 1 - k].2.2)
  dsimp only at s3
  have c1:(l.take k).length=k:=by rw [List.length_take]; omega
  have c2:(l.reverse.take k).length=k:=by rw [List.length_take]; omega
  have c3:((kq l.reverse).take k).length=k:=by rw [List.length_take]; omega
  have Xu:(l.take (k+1)).length=k+1:=by rw [List.length_take]; omega
  have Xv:(l.reverse.take (k+1)).length=k+1:=by rw [List.length_take]; omega
  have Xw:((kq l.reverse).take (k+1)).length=k+1:=by rw [List.length_take]; omega
  have d2:decide ((k+1) * 32≤140737488355328)=true:=decide_eq_true (by omega)
  simp only [vA,List.length_map,wi,Int.toNat_natCast,e1,e2,e3,e4,bW (show k < 9223372036854775807 by omega),aZ hk,aK hk,aK hj,Bool.and_self,cond_true,c1,c2,c3,d2,wa,Hd,s3,t1,t2,t3,GD,GF,Xu,Xv,Xw,Bool.and_true,eq_self,decide_true,Option.bind_some,beq_self_eq_true]
 ·have x2:l.reverse.take l.length=l.reverse:=List.take_of_length_le (by rw [List.length_reverse]; exact Nat.le_refl _)
  have x3:(kq l.reverse).take l.length=kq l.reverse:=List.take_of_length_le (by rw [hm]; exact Nat.le_refl _)
  simp only [vA,List.length_map,bP,cond_false,List.take_length,x2,x3,GD,GF,Bool.and_true,Bool.and_self,cond_true,Option.bind_some,eq_self,decide_true]
theorem JC (l:List Ld) (x:Int × Int):T4 N (l,x)=some true:=by
 obtain ⟨a,b⟩:=x
 rw [Qr]
 simp only [Q6,Option.bind_some,Bool.not_true,cond_false,List.length_map,Ty,Tz,Bool.and_true,cond_true,Jx hN]
 by_cases h8:l.length > 8
 ·have d:decide (((l.length:Nat):Int) > 8)=true:=by simp; omega
  rw [d]; rfl
 have d:decide (((l.length:Nat):Int) > 8)=false:=by simp; omega
 rw [d]
 by_cases hz:dy l=0
 case neg=>rw [Ao hz]; rfl
 have q:(dy l != 0)=false:=by simp [hz]
 rw [q]
 by_cases c1:a < 1
 ·rw [decide_eq_true c1]; rfl
 rw [decide_eq_false c1]
 by_cases c2:a > 1000000
 ·rw [decide_eq_true c2]; rfl
 rw [decide_eq_false c2]
 by_cases c3:b < 1
 ·rw [decide_eq_true c3]; rfl
 rw [decide_eq_false c3]
 by_cases c4:b > 10000
 ·rw [decide_eq_true c4]; rfl
 rw [decide_eq_false c4]
 have r1:kB a 1 1000000=0:=by unfold kB; rw [if_neg (by omega)]
 have r2:kB b 1 10000=0:=by unfold kB; rw [if_neg (by omega)]
 have hr:=EC hz
 have hm:=ED hr
 have f1:cn [0,kB a 1 1000000,kB b 1 10000]=0:=by rw [r1,r2]; rfl
 have tk:=tj hz l.length
 rw [List.take_length] at tk
 have ok:HF (gu l) (hU l) a b:=⟨tk.2,tk.1,by omega,by omega⟩
 have hL:=ok.L
 simp only [cond_false,Option.bind_some,Qs,Qt,List.length_nil,Bool.and_true,Bool.and_self,cond_true,eq_self,decide_true,Hk hN l hz,GD,GF,Dp hN,JA hN,f1,hz,hr,hm,if_true,Hh,Hi,Hj,AG,Hf hL.1,bne_self_eq_false,beq_self_eq_true,Bool.not_true]
 have Xx:=Hg ok
 have Xy:=JB (M:=gu l) (P:=hU l) (a:=a) (b:=b)
 have Xz:=NF ok
 have hp:=ok.p
 have XS:=ok.m
 have ha:=ok.a
 generalize gu l=M at *
 generalize hU l=P at *
 have wL:IntKind.wrap .i64 (a * b)=a * b:=mJ (by omega)
 have nz:decide (a * b=0)=false:=by simp; omega
 rw [wL,nz]
 simp only [Bool.not_false,cond_true]
 by_cases g1:(mD M P a b).2=23
 ·rw [g1]
  simp only [beq_self_eq_true,cond_true]
  rw [Ao (Xy g1)]
 ·rw [show ((mD M P a b).2 == 23)=false by simp [g1]]
  by_cases g2:(mD M P a b).2=5
  ·rw [g2]
   simp only [beq_self_eq_true,cond_true,cond_false]
   have w1:IntKind.wrap .i64 (0 - M)=-M:=by rw [mJ (by omega)]; omega
   have w2:IntKind.wrap .i64 (a * b * 9998)=a * b * 9998:=mJ (by omega)
   have w3:IntKind.wrap .i64 (0 - P)=-P:=by rw [mJ (by omega)]; omega
   have w4:IntKind.wrap .i64 (a * 9998)=a * 9998:=mJ (by omega)
   rw [w1,w2,w3,w4]
   by_cases g3:(if -M > M then -M else M) > a * b * 9998
   ·rw [decide_eq_true g3]; rfl
   ·rw [decide_eq_false g3,decide_eq_true ((Xx g2).resolve_left g3)]; rfl
  ·rw [show ((mD M P a b).2 == 5)=false by simp [g2]]
   obtain ⟨f,g,e,k1,k2,k3,k4,k5,k6⟩:=Xz g1 g2
   rw [e]
   dsimp only
   have y1:a * b * (g - f)=-M:=by omega
   have w1:IntKind.wrap .i64 (f+g)=f+g:=mJ (by omega)
   have w2:IntKind.wrap .i64 (g - f)=g - f:=mJ (by omega)
   have y2:=qH (a:=a) (b:=f+g) ⟨by omega,by omega⟩ ⟨by omega,by omega⟩
   have y3:=qH (a:=a) (b:=f+g - 2) ⟨by omega,by omega⟩ ⟨by omega,by omega⟩
   have w3:IntKind.wrap .i64 (a * b * (g - f))=a * b * (g - f):=mJ (by omega)
   have w4:IntKind.wrap .i64 (M+a * b * (g - f))=0:=by rw [mJ (by omega)]; exact k4
   have w5:IntKind.wrap .i64 (a * (f+g))=a * (f+g):=mJ (by omega)
   have w6:IntKind.wrap .i64 (P+a * (f+g))=P+a * (f+g):=mJ (by omega)
   have w7:IntKind.wrap .i64 (f+g - 2)=f+g - 2:=mJ (by omega)
   have w8:IntKind.wrap .i64 (a * (f+g - 2))=a * (f+g - 2):=mJ (by omega)
   have w9:IntKind.wrap .i64 (P+a * (f+g - 2))=P+a * (f+g - 2):=mJ (by omega)
   rw [w1,w2,w3,w4,w5,w6,w7,w8,w9,decide_eq_false (show ¬ f < 0 by omega),decide_eq_false (show ¬ g < 0 by omega),decide_eq_false (show ¬ f+g > 10000 by omega),decide_eq_false (show ¬ P+a * (f+g) < 0 by omega)]
   simp only [bne_self_eq_false,cond_false,Option.bind_some]
   by_cases z1:f=0
   ·rw [z1]; rfl
   ·by_cases z2:g=0
    ·rw [It z1,z2]; rfl
    ·rw [It z1,It z2,decide_eq_true ((k6.resolve_left z1).resolve_left z2)]; rfl
end
end Go.Proofs.Ytegoimldbgdeiaa
