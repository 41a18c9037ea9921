/- Plain law: TopOtterSheets,joined. -/
import Derived.Test.YtophnjjjmikmeaaGreatOttYf
set_option linter.all false
namespace Go.Proofs.YtophnjjjmikmeaaGreat
open Go Go.Am Go.Sort
set_option maxRecDepth 100000
section
variable {N:Nat} (hN:gQ N)
include hN
theorem LS (w:List UInt8) (n:Nat) (hw:w.length≤64) (hn:n≤1000):TN N (w,(n:Int))=some (cD w n):=by
 have key:=df (rd:=wC N w (n:Int)) n (fun k=>(cD w k,(k:Int))) (cD w n) (fun k hk=>by
  have hl:(cD w k).length≤1000 * 64:=by rw [eh]; exact Nat.mul_le_mul (by omega) hw
  have e1:decide ((cD w k).length+w.length≤9223372036854775807)=true:=decide_eq_true (by omega)
  simp only [wC,ck hk,cond_true,e1,← yC,ea (show k < 9223372036854775807 by omega)]) (by simp only [wC,cT,cond_false]) N 0 (Nat.zero_le _) (by unfold gQ at hN; omega)
 have wq:a6 (V:=(List UInt8) × Int) (X:=(List UInt8)) (wC N w (n:Int)) N (([]:List UInt8),0)=some (cD w n):=key
 rw [Py,wq]
 rfl
structure Qf (p:Int × Int) (w:List UInt8) (t:Int):Prop where
 len:w.length≤6
 word:dS w=0
 times:1≤t∧t≤4
 aaM:aP p=0
 x:-1000≤p.1∧p.1≤1000
 y:-1000≤p.2∧p.2≤1000
theorem Jd (p:Int × Int) (w:List UInt8) (t:Int):T6 N (p,(w,t))=some true∧Qf p w t∨T6 N (p,(w,t))=some false:=by
 rw [SJ,IB hN]
 have hk:Lf N (p.1,p.2)=some (aP p):=wv N p
 simp only [Option.bind_some,hk]
 by_cases h1:(w.length:Int)≤6
 ·by_cases h2:dS w=0
  ·by_cases h3:t≥1
   ·by_cases h4:t≤4
    ·by_cases h5:aP p=0
     ·by_cases h6:p.1≥-1000
      ·by_cases h7:p.1≤1000
       ·by_cases h8:p.2≥-1000
        ·by_cases h9:p.2≤1000
         ·left
          refine ⟨by simp [h1,h2,h3,h4,h5,h6,h7,h8,h9],⟨by omega,h2,⟨h3,h4⟩,h5,⟨h6,h7⟩,⟨h8,h9⟩⟩⟩
         ·right; simp [h1,h2,h3,h4,h5,h6,h7,h8,h9]
        ·right; simp [h1,h2,h3,h4,h5,h6,h7,h8]
       ·right; simp [h1,h2,h3,h4,h5,h6,h7]
      ·right; simp [h1,h2,h3,h4,h5,h6]
     ·right; simp [h1,h2,h3,h4,RY h5]
    ·right; simp [h1,h2,h3,h4]
   ·right; simp [h1,h2,h3]
  ·right; simp [h1,RY h2]
 ·right; simp [h1]
theorem Je (l:List (Int × Int × Int)) (hl:l.length≤100000):TO N (l,l)=some true:=by
 rw [PA]
 have key:=df (rd:=wD N l l) l.length (fun k=>(k:Int)) (.inr ()) (fun k hk=>by
  simp only [wD,List.length_map,ck hk,bV hk,Int.toNat_natCast,dv n59 l k hk,xo,xp,Bool.and_self,cond_true,beq_self_eq_true,Bool.not_true,cond_false,ea (show k < 9223372036854775807 by omega)]) (by simp only [wD,List.length_map,cT,cond_false]) N 0 (Nat.zero_le _) (by unfold gQ at hN; omega)
 have wq:a6 (V:=Int) (X:=Bool ⊕ Unit) (wD N l l) N 0=some (.inr ()):=key
 rw [wq]
 simp
theorem wJ (out:Bool):∀ (L:List UInt8) (p:Int × Int),∀ k∈z6 out p L,p.1 - 2 * L.length≤k.1∧k.1≤p.1+2 * L.length∧k.2≤p.2+2 * L.length
 | [],p,k,hk=>by
  have:k=p:=List.mem_singleton.1 hk
  subst this
  simp
 | c :: L,p,k,hk=>by
  have hk:k∈p :: z6 out (mv out p c) L:=hk
  rw [List.length_cons]
  rcases List.mem_cons.1 hk with rfl | hk
  ·omega
  ·have:=wJ out L (mv out p c) k hk
   have s:=fI c
   have m2:(mv out p c).2=p.2+(bg c).2:=rfl
   have m1:(mv out p c).1=p.1+(if out then (bg c).1 else -(bg c).1):=rfl
   rw [m1,m2] at this
   cases out <;> simp only [Bool.false_eq_true,if_false,if_true] at this <;> omega
theorem DJ {p:Int × Int} {w:List UInt8} {n:Nat} (out:Bool) (hk:aP p=0) (hx:-2000≤p.1∧p.1≤2000) (hy:-2000≤p.2∧p.2≤2000) (hw:dS w=0) (hl:w.length≤6) (h1:1≤n) (h4:n≤4):walkErr p w (n:Int) out=0:=by
 have hm:w.length * n≤6 * 4:=Nat.mul_le_mul hl h4
 have ee:eL p w (n:Int)=0:=by
  unfold eL
  have e2:qv (n:Int) 1 256=0:=by unfold qv; rw [if_neg (by omega)]
  have e3:¬ (w.length:Int) * (n:Int) > 256:=by
   have:((w.length * n:Nat):Int)=(w.length:Int) * (n:Int):=Int.natCast_mul ..
   omega
  rw [hk,hw,e2,if_neg e3]
  rfl
 unfold walkErr
 rw [if_pos ee,Int.toNat_natCast,if_neg]
 rw [Bool.not_eq_true,List.any_eq_false]
 intro k fA
 have b:=wJ hN out (cD w n) p k fA
 rw [eh,Nat.mul_comm] at b
 unfold DD
 have c1:¬ k.1 < -100000:=by omega
 have c2:¬ k.1 > 100000:=by omega
 have c3:¬ k.2 > 100000:=by omega
 simp [c1,c2,c3]
omit hN in
theorem F7 {l:List cB} (h:l.Pairwise fun a b=>a.2.1 < b.2.1):BK (ltOf lR) l:=h.imp fun {a b} hab=>by
 rw [iO]
 exact decide_eq_true (.inl hab)
omit hN in
theorem DK {S l:List cB} (hS:BK (ltOf lR) S) (hl:BK (ltOf lR) l) (G4:∀ b∈l,b∈S):(S.filter fun b=>decide (b∉l)).length+l.length=S.length:=by
 have e:S.filter (fun b=>decide (b∈l))=l:=tS BJ (List.Pairwise.filter _ hS) hl fun x=>by
  rw [List.mem_filter]
  exact ⟨fun h=>of_decide_eq_true h.2,fun h=>⟨G4 x h,decide_eq_true h⟩⟩
 have h1:=List.length_eq_countP_add_countP (fun b=>decide (b∈l)) (l:=S)
 rw [List.countP_eq_length_filter,e] at h1
 have h2:S.countP (fun a=>decide ¬ (decide (a∈l))=true)=(S.filter fun b=>decide (b∉l)).length:=by
  rw [List.countP_eq_length_filter]
  congr 1
  refine List.filter_congr fun x _=>?_
  simp
 omega
theorem LU (p:Int × Int) (w:List UInt8) (t:Int):T4 N (p,(w,t))=some true:=by
 rw [SU]
 have s6:=Jd hN p w t
 have ep:T6 N ((p.1,p.2),(w,t))=T6 N (p,(w,t)):=rfl
 rcases s6 with ⟨s6,s⟩ | s6
 ·obtain ⟨l6,we,ht,hk,hx,hy⟩:=s
  obtain ⟨n,rfl⟩:∃ n:Nat,t=(n:Int):=⟨t.toNat,by omega⟩
  have hn:1≤n∧n≤4:=by omega
  have hkp:=lQ hk
  have aaN:w.length * n≤6 * 4:=Nat.mul_le_mul l6 hn.2
  have hLe:(cD w n).length=w.length * n:=by rw [eh,Nat.mul_comm]
  have W1:=DJ hN (p:=p) true hk (by omega) (by omega) we l6 hn.1 hn.2
  have E8:T8 N ((p.1,p.2),w,(n:Int),true)=some (bG true p (cD w n),0):=by
   have e:=Lq hN p w (n:Int) true
   rw [if_pos W1,Int.toNat_natCast] at e
   unfold IJ at e
   rw [BP,List.nil_append] at e
   exact e
  have E18:SK N ((p.1,p.2),w,(n:Int),true)=some (mG p (cD w n),0):=by
   have e:=I4 hN p w (n:Int) true
   rw [if_pos W1,Int.toNat_natCast] at e
   unfold Ad at e
   rw [wH,List.nil_append] at e
   exact e
  have E10:=LS hN w n (by omega) (by omega)
  have E16:=LF hN (cD w n) (by omega)
  have v:=wu (cD w n)
  have aaR:=Ja true (cD w n) p
  have aaS:=Jb (cD w n) p
  obtain ⟨C,hC⟩:∃ C:Nat,(C:Int)=((vec (cD w n)).1+5) / 2:=⟨(((vec (cD w n)).1+5) / 2).toNat,by omega⟩
  obtain ⟨R,hR⟩:∃ R:Nat,(R:Int)=(vec (cD w n)).2+4:=⟨((vec (cD w n)).2+4).toNat,by omega⟩
  have hCb:1≤C∧C≤26:=by omega
  have hRb:1≤R∧R≤52:=by omega
  have hCR:2 * C * R≤2 * 26 * 52:=Nat.mul_le_mul (by omega) hRb.2
  have a1:IntKind.wrap .i64 (p.1 - 2)=p.1 - 2:=gf (by omega)
  have a2:IntKind.wrap .i64 (p.2 - 2)=p.2 - 2:=gf (by omega)
  have a3:IntKind.wrap .i64 (Int.tdiv (IntKind.wrap .i64 ((vec (cD w n)).1+5)) 2)=(C:Int):=by
   rw [gf (x:=(vec (cD w n)).1+5) (by omega),Int.tdiv_eq_ediv_of_nonneg (by omega),← hC,gf (by omega)]
  have a4:IntKind.wrap .i64 ((vec (cD w n)).2+4)=(R:Int):=by rw [← hR,gf (by omega)]
  have kX:aP (p.1 - 2,p.2 - 2)=0:=by unfold aP; simp only; rw [if_neg (by omega),if_pos (by omega)]
  have TH:=FZ hN (p.1 - 2) (p.2 - 2) C R kX (by omega) (by omega) (by omega) (by omega) (by omega)
  have cS:ky (kU (p.1 - 2) (p.2 - 2) C R)=0:=I1 (by omega) (by omega) (by omega) (by omega) (by omega)
  have aS:=BN (p.1 - 2) (p.2 - 2) C R
  have bin:=LJ (p:=p) hC hR
  have min:=LL (p:=p) hC hR
  have bup:=MI true (cD w n) p
  have SY:∀ b∈bG true p (cD w n),b.2.2=1:=fun b hb=>(DG (cD w n) p b hb).2.2.2.2.2
  have lw:(cD w n).length≤24:=by omega
  have cle:(cD w n).countP (fun c=>c == 66)≤(cD w n).length:=List.countP_le_length
  generalize kU (p.1 - 2) (p.2 - 2) C R=S at *
  generalize bG true p (cD w n)=l at *
  generalize mG p (cD w n)=c at *
  obtain ⟨S1,S2,S3⟩:=iu cS
  have al:=F7 bup
  have ll:l.length≤24:=by omega
  have cl:ky l=0:=z8 (by omega) (fun b hb=>S2 b (bin b hb)) al
  have fl:=DK S3 al bin
  have cR:ky (S.filter fun b=>decide (b∉l))=0:=z8 (by omega) (fun b hb=>S2 b (List.mem_filter.1 hb).1) (List.Pairwise.filter _ S3)
  have m1:=F1 S3 al (n:=S.length+l.length) (Nat.le_refl _)
  have XV:=LH hN S l cS cl (by rw [m1]; omega)
  rw [m1] at XV
  have m2:=F2 S3 al bin (n:=(S.filter fun b=>decide (b∉l)).length+l.length) (Nat.le_refl _)
  have XW:=LI hN (S.filter fun b=>decide (b∉l)) l cR cl (by rw [m2]; omega)
  rw [m2] at XW
  have E21:=BO hN S cS
  have SZ:=BO hN (S.filter fun b=>decide (b∉l)) cR
  rw [F4 SY] at SZ
  have hW:(nV S).length≤100000:=by
   unfold nV
   rw [List.length_map]
   exact Nat.le_trans (List.length_filter_le _ _) (by omega)
  have L1:=LP hN (nV S) 0 hW
  have L2:=SX hN c (nV S) 0 (by omega) min
  have L3:=LQ hN S l 0 0 (nV S) cS (by omega) bin
  have L4:=LR hN (nV S) (nV S) (oq l) 0 0 hW
  have d1:(IntKind.wrap .i64 ((l.length:Int)+(c.length:Int)) != IntKind.wrap .i64 ((w.length:Int) * (n:Int)))=false:=by
   have e:((w.length * n:Nat):Int)=(w.length:Int) * (n:Int):=Int.natCast_mul ..
   rw [gf (x:=(l.length:Int)+(c.length:Int)) (by omega),gf (by omega)]
   have:(l.length:Int)+(c.length:Int)=(w.length:Int) * (n:Int):=by omega
   rw [this]
   simp
  have d2:(((S.filter fun b=>decide (b∉l)).length:Int) != IntKind.wrap .i64 ((S.length:Int) - (l.length:Int)))=false:=by
   rw [gf (by omega)]
   have:((S.filter fun b=>decide (b∉l)).length:Int)=(S.length:Int) - (l.length:Int):=by omega
   rw [this]
   simp
  have self:=Je hN S (by omega)
  have z1:((bif allFit (aq.fits dj) (ao ([]:List (AV × AV))) then some (0,(List.map dH (ao ([]:List (AV × AV))))) else none:Option (Int × (List ((Int × Int) × Bool)))).bind fun Ly=>bif bZ ([]:List (AV × AV)) then some Ly else none)=some ((0:Int),([]:List ((Int × Int) × Bool))):=rfl
  have f0:allFit (aq.fits dj) (ao ([]:List (AV × AV)))=true:=rfl
  have g0:List.map dH (ao ([]:List (AV × AV)))=[]:=rfl
  have x0:bZ ([]:List (AV × AV))=true:=rfl
  simp only [ep,s6,Option.bind_some,Bool.not_true,cond_false,cond_true,E10,E16,a1,a2,a3,a4,TH,E8,E18,bne_self_eq_false,dF,dG,Bool.and_self,Bool.and_true,Pg hN,cl,List.length_map,d1,XV,XW,E21,SZ,d2,self,z1,L1,ot,ov,jM.cells,jM.bZ,L2,Sum.elim_inr,f0,g0,x0,L3,L4,beq_self_eq_true,T7]
 ·rw [ep,s6]
  rfl
end
end Go.Proofs.YtophnjjjmikmeaaGreat
