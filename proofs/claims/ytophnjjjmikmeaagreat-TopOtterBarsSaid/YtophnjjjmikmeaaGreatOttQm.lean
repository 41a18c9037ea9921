/- Plain law: TopOtterBars. -/
import Derived.Test.YtophnjjjmikmeaaGreatOttQl
set_option linter.all false
namespace Go.Proofs.YtophnjjjmikmeaaGreat
open Go Go.Am Go.Sort
set_option maxRecDepth 100000
def Al (prev:Bool):List UInt8→Bool
 | []=>prev
 | c :: L=>Al (decide (c=66)) L
theorem yn (c:UInt8):∀ (L:List UInt8) (prev:Bool),Al prev (L++[c])=decide (c=66)
 | [],_=>rfl
 | d :: L,prev=>yn c L (decide (d=66))
theorem Hd (c:UInt8):∀ (L:List UInt8) (prev:Bool),rW prev (L++[c])=rW prev L+if c=66∧Al prev L=false then 1 else 0
 | [],prev=>by
  show (if c=66∧prev=false then 1 else 0)+0=0+if c=66∧prev=false then 1 else 0
  omega
 | d :: L,prev=>by
  show (if d=66∧prev=false then 1 else 0)+rW (decide (d=66)) (L++[c])=_
  rw [Hd c L]
  show _=(if d=66∧prev=false then 1 else 0)+rW (decide (d=66)) L+if c=66∧Al (decide (d=66)) L=false then 1 else 0
  omega
theorem An {α:Type} (l:List α) {k:Nat} (hk:k < l.length):l.take (k+1)=l.take k++[l[k]]:=by
 rw [List.take_add_one,List.getElem?_eq_getElem hk]; rfl
theorem PJ:∀ (L:List UInt8) (prev:Bool),rW prev L≤L.length
 | [],_=>Nat.le_refl _
 | c :: L,prev=>by
  have:=PJ L (decide (c=66))
  show (if c=66∧prev=false then 1 else 0)+rW (decide (c=66)) L≤L.length+1
  split <;> omega
section
variable {N:Nat} (hN:gU N)
include hN
theorem OV (L:List UInt8) (hL:L.length≤100000):aZ (rZ N L) N (0,0,0)=some (((rW false L:Nat):Int),((L.countP fun c=>c == 66:Nat):Int)):=by
 have key:=fH (rd:=rZ N L) L.length (fun k=>(((rW false (L.take k):Nat):Int),(((L.take k).countP fun c=>c == 66:Nat):Int),(k:Int))) (((rW false L:Nat):Int),((L.countP fun c=>c == 66:Nat):Int)) (fun k hk=>by
  have r1:=PJ (L.take k) false
  have c1:=List.countP_le_length (p:=fun c:UInt8=>c == 66) (l:=L.take k)
  rw [List.length_take] at r1 c1
  have hb:(((L[k].toNat:Nat):Int) == 66)=decide (L[k]=66):=by
   by_cases h:L[k]=66
   ·rw [h]; rfl
   ·rw [decide_eq_false h]
    refine beq_eq_false_iff_ne.2 fun e=>h (UInt8.toNat_inj.1 ?_)
    have h66:(66:UInt8).toNat=66:=rfl
    omega
  rw [An L hk,Hd,List.countP_append]
  have cs:[L[k]].countP (fun c=>c == 66)=if L[k]=66 then 1 else 0:=by
   by_cases h:L[k]=66 <;> simp [h]
  rw [cs]
  have w1:IntKind.wrap .i64 (((rW false (L.take k):Nat):Int)+1)=((rW false (L.take k)+1:Nat):Int):=by rw [jA (by omega)]; omega
  have w2:IntKind.wrap .i64 ((((L.take k).countP fun c=>c == 66:Nat):Int)+1)=(((L.take k).countP fun c=>c == 66)+1:Nat):=by rw [jA (by omega)]; omega
  simp only [rZ,cu hk,bP hk,cond_true,Int.toNat_natCast,GM hk,hb,dy (show k < 9223372036854775807 by omega),w1,w2]
  by_cases h:L[k]=66
  ·rw [decide_eq_true h,if_pos h]
   by_cases h0:k=0
   ·subst h0
    have:Al false (L.take 0)=false:=rfl
    rw [if_pos ⟨h,this⟩]
    rfl
   ·have DM:k - 1 < L.length:=by omega
    have ez:((k:Int) == 0)=false:=beq_eq_false_iff_ne.2 (by omega)
    have ew:IntKind.wrap .i64 ((k:Int) - 1)=((k - 1:Nat):Int):=by rw [jA (by omega)]; omega
    have QC:(((L[k - 1].toNat:Nat):Int) != 66)=!decide (L[k - 1]=66):=by
     show (!(((L[k - 1].toNat:Nat):Int) == 66))=_
     congr 1
     by_cases h:L[k - 1]=66
     ·rw [h]; rfl
     ·rw [decide_eq_false h]
      refine beq_eq_false_iff_ne.2 fun e=>h (UInt8.toNat_inj.1 ?_)
      have h66:(66:UInt8).toNat=66:=rfl
      omega
    have la:Al false (L.take k)=decide (L[k - 1]=66):=by
     have:=An L DM
     rw [show k - 1+1=k by omega] at this
     rw [this,yn]
    simp only [ez,cond_false,cond_true,ew,bP DM,Int.toNat_natCast,GM DM,QC,Option.bind_some,la]
    by_cases h1:L[k - 1]=66
    ·simp [h1]
    ·simp [h1,h]
  ·rw [decide_eq_false h,if_neg h,if_neg (fun c=>h c.1)]
   rfl) (by
  simp only [rZ,du,cond_false,List.take_length]) N 0 (Nat.zero_le _) (by unfold gU at hN; omega)
 exact key
theorem yo (out:Bool):∀ (L:List UInt8) (p:Int × Int),∀ k∈Bx out p L,p.1 - 2 * L.length≤k.1∧k.1≤p.1+2 * L.length∧k.2≤p.2+2 * L.length
 | [],p,k,hk=>by
  have:k=p:=List.mem_singleton.1 hk
  subst this
  simp
 | c :: L,p,k,hk=>by
  have hk:k∈p :: Bx out (mv out p c) L:=hk
  rw [List.length_cons]
  rcases List.mem_cons.1 hk with rfl | hk
  ·omega
  ·have:=yo out L (mv out p c) k hk
   have s:=kz c
   have m2:(mv out p c).2=p.2+(cR c).2:=rfl
   have m1:(mv out p c).1=p.1+(if out then (cR c).1 else -(cR c).1):=rfl
   rw [m1,m2] at this
   cases out <;> simp only [Bool.false_eq_true,if_false,if_true] at this <;> omega
theorem qa {p:Int × Int} {w:List UInt8} {n:Nat} (out:Bool) (hk:aP p=0) (hx:-2000≤p.1∧p.1≤2000) (hy:-2000≤p.2∧p.2≤2000) (hw:eo w=0) (hl:w.length≤6) (h1:1≤n) (h4:n≤4):walkErr p w (n:Int) out=0:=by
 have hm:w.length * n≤6 * 4:=Nat.mul_le_mul hl h4
 have ee:fZ p w (n:Int)=0:=by
  unfold fZ
  have e2:uz (n:Int) 1 256=0:=by unfold uz; rw [if_neg (by omega)]
  have e3:¬ (w.length:Int) * (n:Int) > 256:=by
   have:((w.length * n:Nat):Int)=(w.length:Int) * (n:Int):=Int.natCast_mul ..
   omega
  rw [hk,hw,e2,if_neg e3]
  rfl
 unfold walkErr
 rw [if_pos ee,Int.toNat_natCast,if_neg]
 rw [Bool.not_eq_true,List.any_eq_false]
 intro k gm
 have b:=yo hN out (dQ w n) p k gm
 rw [fI,Nat.mul_comm] at b
 unfold FF
 have c1:¬ k.1 < -100000:=by omega
 have c2:¬ k.1 > 100000:=by omega
 have c3:¬ k.2 > 100000:=by omega
 simp [c1,c2,c3]
theorem OW (p:Int × Int) (w:List UInt8) (t z:Int) (hz:-128≤z∧z≤127):T3 N (p,(w,t),z)=some true:=by
 rw [Wp]
 have s6:=LY hN p w t
 have ep:T6 N ((p.1,p.2),(w,t))=T6 N (p,(w,t)):=rfl
 rcases s6 with ⟨s6,s⟩ | s6
 ·obtain ⟨l6,we,ht,hk,hx,hy⟩:=s
  obtain ⟨n,rfl⟩:∃ n:Nat,t=(n:Int):=⟨t.toNat,by omega⟩
  have hn:1≤n∧n≤4:=by omega
  have hkp:=mJ hk
  have hL:(dQ w n).length≤24:=by
   rw [fI,Nat.mul_comm]
   have:w.length * n≤6 * 4:=Nat.mul_le_mul l6 hn.2
   omega
  -- the three edges
  have a1:IntKind.wrap .i64 (0 - p.1)=-p.1:=by rw [jA (by omega)]; omega
  have a2:IntKind.wrap .i64 (p.1+2 * z)=p.1+2 * z:=jA (by omega)
  have a3:IntKind.wrap .i64 (2 * IntKind.wrap .i64 z)=2 * z:=by rw [jA (x:=z) (by omega),jA (by omega)]
  have k2:aP (-p.1,p.2)=0:=by unfold aP; simp only; rw [if_neg (by omega),if_pos (by omega)]
  have k3:aP (p.1+2 * z,p.2)=0:=by unfold aP; simp only; rw [if_neg (by omega),if_pos (by omega)]
  have W1:=qa hN (p:=p) true hk (by omega) (by omega) we l6 hn.1 hn.2
  have W2:=qa hN (p:=(-p.1,p.2)) false k2 (by simp only; omega) (by simp only; omega) we l6 hn.1 hn.2
  have W3:=qa hN (p:=(p.1+2 * z,p.2)) true k3 (by simp only; omega) (by simp only; omega) we l6 hn.1 hn.2
  have B:∀ (q:Int × Int) (out:Bool),walkErr q w (n:Int) out=0→T8 N (q,w,(n:Int),out)=some (bG out q (dQ w n),0):=fun q out hq=>by
   have e:=Of hN q w (n:Int) out
   rw [if_pos hq,Int.toNat_natCast] at e
   unfold Ld at e
   rw [Dx,List.nil_append] at e
   exact e
  have E1:T8 N ((p.1,p.2),w,(n:Int),true)=some (bG true p (dQ w n),0):=B p true W1
  have E2:=B (-p.1,p.2) false W2
  have E3:=B (p.1+2 * z,p.2) true W3
  rw [LX] at E2
  rw [Dy (2 * z) (dQ w n) p] at E3
  have D:=Wn (L:=dQ w n) (p:=p) (by omega) (by omega) hkp.2.2.2.2 (by omega)
  have yq:=Hc true (dQ w n) p
  have ll:=LW true (dQ w n) p
  have hr:=(Hb (dQ w n) p).1
  have R:=OV hN (dQ w n) (by omega)
  generalize bG true p (dQ w n)=l at *
  have hl:l.length≤24:=by
   rw [ll]
   exact Nat.le_trans List.countP_le_length hL
  have hc:ng l=0:=OE (by omega) (fun b hb=>(D.ok b hb).1) (IL D.up)
  have hs:∀ b∈l,b.2.2=1∧-90000≤b.1∧b.1≤90000∧-90000≤b.2.1∧b.2.1≤90000:=fun b hb=>by
   have h1:=yq b hb
   exact ⟨(D.ok b hb).2,by omega,by omega,by omega,by omega⟩
  have C:=IK hN D (by omega) hc
  have G:=L3 hN hc (by omega)
  rw [II D (by omega)] at G
  have M:=FU hN (by omega) hc hs D.up
  have S:=IN hN l (2 * z) (by omega) (by omega) (by omega) hc hs
  have lm:(l.map fun b=>((-b.1,b.2.1,-1):aV)).length≤100000:=by rw [List.length_map]; omega
  have ls:(l.map fun b=>((b.1+2 * z,b.2.1,b.2.2):aV)).length≤100000:=by rw [List.length_map]; omega
  have rl:=ym l
  rw [← hr] at R
  rw [← ll] at R
  have w1:IntKind.wrap .i64 ((l.length:Int)+(cY l:Int))=(l.length:Int)+(cY l:Int):=jA (by omega)
  have w2:IntKind.wrap .i64 (2 * (cY l:Int))=((2 * cY l:Nat):Int):=by rw [jA (by omega)]; omega
  have w3:IntKind.wrap .i64 ((l.length:Int) - (cY l:Int))=(l.length:Int) - (cY l:Int):=jA (by omega)
  have P:=OT hN w n (by omega) (by omega)
  simp only [ep,s6,Option.bind_some,Bool.not_true,cond_false,cond_true,a1,a2,a3,E1,E2,E3,bne_self_eq_false,fY,ft,Bool.and_self,Bool.and_true,Sw hN,hc,P,R,C,G,M,S,List.length_map,beq_self_eq_true,w1,w2,w3,Dz hN _ lm,Dz hN _ ls,T7]
 ·rw [ep,s6]
  rfl
end
end Go.Proofs.YtophnjjjmikmeaaGreat
