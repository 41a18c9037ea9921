/- Plain law: the bars that an edge follows are a net. -/
import Derived.Test.YtophnjjjmikmeaaGreatOttQ
import Derived.Test.YtophnjjjmikmeaaGreatOttTb
set_option linter.all false
namespace Go.Proofs.YtophnjjjmikmeaaGreat
open Go Go.Am Go.Sort
set_option maxRecDepth 100000
theorem ym:∀ l:List aV,cY l≤l.length
 | []=>Nat.le_refl _
 | [_]=>Nat.le_refl _
 | a :: b :: l=>by
  have:=ym (b :: l)
  simp only [cY,List.length_cons] at this ⊢
  split <;> omega
section
variable {N:Nat} (hN:gU N)
include hN
theorem OT (w:List UInt8) (n:Nat) (hw:w.length≤64) (hn:n≤1000):Xe N (w,(n:Int))=some (dQ w n):=by
 have key:=fH (rd:=xS N w (n:Int)) n (fun k=>(dQ w k,(k:Int))) (dQ w n) (fun k hk=>by
  have hl:(dQ w k).length≤1000 * 64:=by rw [fI]; exact Nat.mul_le_mul (by omega) hw
  have e1:decide ((dQ w k).length+w.length≤9223372036854775807)=true:=decide_eq_true (by omega)
  simp only [xS,cu hk,cond_true,e1,← zZ,dy (show k < 9223372036854775807 by omega)]) (by simp only [xS,du,cond_false]) N 0 (Nat.zero_le _) (by unfold gU at hN; omega)
 have pU:aZ (V:=(List UInt8) × Int) (X:=(List UInt8)) (xS N w (n:Int)) N (([]:List UInt8),0)=some (dQ w n):=key
 rw [SR,pU]
 rfl
structure Tv (p:Int × Int) (w:List UInt8) (t:Int):Prop where
 len:w.length≤6
 word:eo w=0
 times:1≤t∧t≤4
 aex:aP p=0
 x:-1000≤p.1∧p.1≤1000
 y:-1000≤p.2∧p.2≤1000
theorem LY (p:Int × Int) (w:List UInt8) (t:Int):T6 N (p,(w,t))=some true∧Tv p w t∨T6 N (p,(w,t))=some false:=by
 rw [V2,K7 hN]
 have hk:N4 N (p.1,p.2)=some (aP p):=xG N p
 simp only [Option.bind_some,hk]
 by_cases h1:(w.length:Int)≤6
 ·by_cases h2:eo w=0
  ·by_cases h3:t≥1
   ·by_cases h4:t≤4
    ·by_cases h5:aP p=0
     ·by_cases h6:p.1≥-1000
      ·by_cases h7:p.1≤1000
       ·by_cases h8:p.2≥-1000
        ·by_cases h9:p.2≤1000
         ·left
          refine ⟨by simp [h1,h2,h3,h4,h5,h6,h7,h8,h9],⟨by omega,h2,⟨h3,h4⟩,h5,⟨h6,h7⟩,⟨h8,h9⟩⟩⟩
         ·right; simp [h1,h2,h3,h4,h5,h6,h7,h8,h9]
        ·right; simp [h1,h2,h3,h4,h5,h6,h7,h8]
       ·right; simp [h1,h2,h3,h4,h5,h6,h7]
      ·right; simp [h1,h2,h3,h4,h5,h6]
     ·right; simp [h1,h2,h3,h4,Vj h5]
    ·right; simp [h1,h2,h3,h4]
   ·right; simp [h1,h2,h3]
  ·right; simp [h1,Vj h2]
 ·right; simp [h1]
theorem Dz (l:List (Int × Int × Int)) (hl:l.length≤100000):V3 N (l,l)=some true:=by
 rw [SU]
 have key:=fH (rd:=xT N l l) l.length (fun k=>(k:Int)) (.inr ()) (fun k hk=>by
  simp only [xT,List.length_map,cu hk,bP hk,Int.toNat_natCast,gB n59 l k hk,KW,KX,Bool.and_self,cond_true,beq_self_eq_true,Bool.not_true,cond_false,dy (show k < 9223372036854775807 by omega)]) (by simp only [xT,List.length_map,du,cond_false]) N 0 (Nat.zero_le _) (by unfold gU at hN; omega)
 have pU:aZ (V:=Int) (X:=Bool ⊕ Unit) (xT N l l) N 0=some (.inr ()):=key
 rw [pU]
 simp
theorem LZ (l:List aV) (hl:l.length≤100000) (h:∀ b∈l,b.2.2=1):Xh N l=some []:=by
 have key:=fH (rd:=xV N l) l.length (fun k=>(([]:List (Int × Int)),(k:Int))) ([]:List (Int × Int)) (fun k hk=>by
  have hs:(l[k].2.2 == (-1:Int))=false:=by rw [h _ (List.getElem_mem hk)]; rfl
  have e1:allFit (aj.fits FN) ([]:List AV)=true:=rfl
  simp only [xV,List.length_map,cu hk,bP hk,Int.toNat_natCast,gB n59 l k hk,KW,KX,Bool.and_self,Bool.and_true,cond_true,hs,cond_false,List.map_nil,e1,decide_true,List.length_nil,Option.bind_some,dy (show k < 9223372036854775807 by omega)]) (by
  have e1:allFit (aj.fits FN) ([]:List AV)=true:=rfl
  simp only [xV,List.length_map,du,cond_false,List.map_nil,e1,Bool.and_true,cond_true,decide_true,List.length_nil,Option.bind_some]) N 0 (Nat.zero_le _) (by unfold gU at hN; omega)
 have pU:aZ (V:=(List (Int × Int)) × Int) (X:=(List (Int × Int))) (xV N l) N (([]:List (Int × Int)),0)=some []:=key
 have z:((bif (allFit (aj.fits FN) ([]:List AV)&&true) then some ((List.map d57 ([]:List AV)),0) else none:Option ((List (Int × Int)) × Int)).bind fun Mh=>bif (decide (0=(List.map n57 Mh.1).length)&&true) then some Mh else none)=some (([]:List (Int × Int)),(0:Int)):=rfl
 rw [S4,z,Option.bind_some,pU]
 rfl
theorem IK {l:List aV} (h:Dg l) (hl:l.length≤4096) (hc:ng l=0):Xx N l=some (((l.length:Int)+(cY l:Int),(l.length:Int),0,(cY l:Int),0),0):=by
 have hr:cY l≤l.length:=by
  exact ym l
 rw [Tj]
 simp only [fY,ft,Bool.and_true,cond_true,Option.bind_some,rQ hN,hc,bne_self_eq_false,cond_false,Iy hN l (by omega),LZ hN l (by omega) (fun b hb=>(h.ok b hb).2),ID hN l hc,List.length_map,IH h,IJ h,List.length_nil]
 rw [jA (x:=(l.length:Int) - ((l.length+cY l:Nat):Int)) (by omega),jA (x:=(l.length:Int) - ((l.length+cY l:Nat):Int)+(cY l:Int)) (by omega),jA (by omega)]
 congr 1
 refine Prod.ext (Prod.ext ?_ (Prod.ext rfl (Prod.ext rfl (Prod.ext rfl ?_)))) rfl
 ·simp only; omega
 ·simp only; omega
omit hN in
theorem L0 (l:List aV):(fj l).length≤2 * l.length:=by
 obtain ⟨k1,k2⟩:=Dw l
 have h1:=ir _ (sW l) k1 fun k hk=>by
  rw [xX]
  exact (k2 k).1 hk
 have h2:=Lu l
 rw [List.length_map] at h1
 omega
theorem L3 {p:List aV} (h:ng p=0) (hl:p.length≤4096):V4 N p=some (Ah p,0):=by
 refine OH hN p _ ?_
 unfold Lz
 have h4:=(LR h).2
 have dl:=L0 p
 have e1:Nat.ble p.length 10000=true:=Nat.ble_eq_true_of_le (by omega)
 have e2:Nat.ble (fj p).length 100000=true:=Nat.ble_eq_true_of_le (by omega)
 have e3:((fj p).all fun x=>decide (0≤x.2)&&decide (x.2≤4))=true:=by
  rw [List.all_eq_true]
  intro x hx
  have:=h4 x hx
  simp [this.1,this.2]
 rw [rQ hN,Option.bind_some,h,e1,e2,e3]
 rfl
omit hN in
theorem IL {l:List aV} (h:l.Pairwise fun a b=>a.2.1 < b.2.1):vb (ltOf ji) l:=h.imp fun {a b} Dl=>by
 rw [pW]
 exact decide_eq_true (.inl Dl)
omit hN in
theorem OU {l:List aV} (h:l.Pairwise fun a b=>a.2.1 < b.2.1):l.mergeSort (fun x y=>!(ltOf ji) y x)=l:=by
 refine List.mergeSort_of_pairwise (h.imp fun {a b} Dl=>?_)
 rw [pW,Bool.not_eq_true',decide_eq_false_iff_not]
 omega
theorem FU {l:List aV} (hl:l.length≤4096) (hc:ng l=0) (hs:∀ b∈l,b.2.2=1∧-90000≤b.1∧b.1≤90000∧-90000≤b.2.1∧b.2.1≤90000) (hu:l.Pairwise fun a b=>a.2.1 < b.2.1) :
  Xy N l=some (l.map fun b=>((-b.1,b.2.1,-1):aV),0):=by
 generalize hM:l.map (fun b=>((-b.1,b.2.1,-1):aV))=M
 have XB:M.length=l.length:=by rw [← hM,List.length_map]
 have hMu:M.Pairwise fun a b=>a.2.1 < b.2.1:=by rw [← hM]; exact List.pairwise_map.2 hu
 have key:=fH (rd:=mb N l) l.length (fun k=>((),(k:Int),M.take k)) ((),M) (fun k hk=>by
  obtain ⟨s1,s2,s3,s4,s5⟩:=hs _ (List.getElem_mem hk)
  have ZR:k < M.length:=by omega
  have eM:M[k]=((-l[k].1,l[k].2.1,-1):aV):=by simp only [← hM,List.getElem_map]
  have tl:(M.take k).length=k:=by rw [List.length_take]; omega
  have e0:GK N (l[k].1,l[k].2.1,l[k].2.2)=some (l[k].1,l[k].2.1,l[k].1+1,l[k].2.1+1):=by
   rw [Bu]
   simp only [s1]
   rw [jA (by omega),jA (by omega)]
  have e1:TZ N (l[k].1,l[k].2.1)=some (-l[k].1,l[k].2.1):=by rw [Lp,jA (by omega)]; congr 2; omega
  have e2:TZ N (l[k].1+1,l[k].2.1+1)=some (-l[k].1 - 1,l[k].2.1+1):=by rw [Lp,jA (by omega)]; congr 2; omega
  have g1:¬ l[k].2.1 > l[k].2.1+1:=by omega
  have w1:IntKind.wrap .i64 (-l[k].1 - 1 - -l[k].1)=-1:=by rw [jA (by omega)]; omega
  have c1:decide ((k+1) * 24≤140737488355328)=true:=decide_eq_true (by omega)
  have sn:=xK (M.take k) (-l[k].1) l[k].2.1 (-1)
  have tk:M.take k++[((-l[k].1,l[k].2.1,-1):aV)]=M.take (k+1):=by rw [List.take_add_one,List.getElem?_eq_getElem ZR,eM]; rfl
  rw [tk] at sn
  have ZS:(M.take (k+1)).length=k+1:=by rw [List.length_take]; omega
  simp only [mb,List.length_map,cu hk,bP hk,Int.toNat_natCast,gB n59 l k hk,KW,KX,Bool.and_self,Bool.and_true,cond_true,e0,e1,e2,Option.bind_some,beq_self_eq_true,g1,decide_false,cond_false,fY,ft,decide_true,tl,ZS,c1,w1,sn,Nat.beq_refl,dy (show k < 9223372036854775807 by omega)]) (by
  have tm:M.take l.length=M:=by rw [← XB,List.take_length]
  simp only [mb,List.length_map,du,cond_false,tm,fY,ft,Nat.beq_refl,Bool.and_self,Bool.and_true,cond_true,Option.bind_some]) N 0 (Nat.zero_le _) (by unfold gU at hN; omega)
 have pU:aZ (V:=Unit × Int × (List (Int × Int × Int))) (X:=(Unit × (List (Int × Int × Int)))) (mb N l) N ((),0,[])=some ((),M):=key
 have z:((bif ((Nat.beq 0 (([]:List AV)).length&&Nat.beq 0 (([]:List AV)).length)&&(allFit (aj.fits cN) ([]:List AV)&&true)) then some ((),0,(List.map d59 ([]:List AV))) else none:Option (Unit × Int × (List (Int × Int × Int)))).bind fun Dj=>some Dj)=some ((),(0:Int),([]:List aV)):=rfl
 have es:dR cN ji (List.map n59 M)=List.map n59 M:=by
  unfold dR
  have e1:List.map cN.bh (List.map n59 M)=M:=ft M
  rw [e1]
  exact congrArg (List.map n59) (OU hMu)
 have cl:ay (List.map n59 M)=true:=Wj M
 have hb:decide (l.length≤140737488355328)=true:=decide_eq_true (by omega)
 simp only [Bool.and_true,Bool.and_self] at z
 rw [Tn]
 simp only [fY,ft,Bool.and_true,cond_true,Option.bind_some,rQ hN,hc,bne_self_eq_false,cond_false,z,pU,es,cl,decide_true,Bool.and_self,List.length_map,XB,hb]
theorem IM (l:List aV) (n:Int) (hn:-1000≤n∧n≤1000) (hl:l.length≤4096) (hs:∀ b∈l,b.2.2=1∧-90000≤b.1∧b.1≤90000∧-90000≤b.2.1∧b.2.1≤90000) :
  Xf N (l,(n,0))=some (l.map fun b=>((b.1+n,b.2.1,b.2.2):aV),0):=by
 generalize hM:l.map (fun b=>((b.1+n,b.2.1,b.2.2):aV))=M
 have XB:M.length=l.length:=by rw [← hM,List.length_map]
 have key:=fH (rd:=xU N l (n,0)) l.length (fun k=>(M.take k,(k:Int))) (.inr M) (fun k hk=>by
  obtain ⟨s1,s2,s3,s4,s5⟩:=hs _ (List.getElem_mem hk)
  have ZR:k < M.length:=by omega
  have eM:M[k]=((l[k].1+n,l[k].2.1,l[k].2.2):aV):=by simp only [← hM,List.getElem_map]
  have tl:(M.take k).length=k:=by rw [List.length_take]; omega
  have a1:IntKind.wrap .i64 (l[k].1+n)=l[k].1+n:=jA (by omega)
  have a2:IntKind.wrap .i64 (l[k].2.1+0)=l[k].2.1:=by rw [jA (by omega)]; omega
  have e0:GK N (l[k].1+n,l[k].2.1,l[k].2.2)=some (l[k].1+n,l[k].2.1,l[k].1+n+1,l[k].2.1+1):=by
   rw [Bu]
   simp only [s1]
   rw [jA (by omega),jA (by omega)]
  have rz:∀ x y:Int,-100000≤x→x≤100000→-100000≤y→y≤100000→N2 N (x,y)=some 0:=fun x y h1 h2 h3 h4=>by
   rw [z6 hN]
   have q1:uz x (-100000) 100000=0:=by unfold uz; rw [if_neg (by omega)]
   have q2:uz y (-100000) 100000=0:=by unfold uz; rw [if_neg (by omega)]
   simp only [q1,q2]
   rfl
  have e1:=rz (l[k].1+n) l[k].2.1 (by omega) (by omega) (by omega) (by omega)
  have e2:=rz (l[k].1+n+1) (l[k].2.1+1) (by omega) (by omega) (by omega) (by omega)
  have e3:DJ N [0,0]=some 0:=fc hN _ (by simp)
  have c1:decide ((k+1) * 24≤140737488355328)=true:=decide_eq_true (by omega)
  have sn:=xK (M.take k) (l[k].1+n) l[k].2.1 l[k].2.2
  have tk:M.take k++[((l[k].1+n,l[k].2.1,l[k].2.2):aV)]=M.take (k+1):=by rw [List.take_add_one,List.getElem?_eq_getElem ZR,eM]; rfl
  rw [tk] at sn
  have ZS:(M.take (k+1)).length=k+1:=by rw [List.length_take]; omega
  have t2:=Dc 0 0
  simp only [xU,List.length_map,cu hk,bP hk,Int.toNat_natCast,gB n59 l k hk,KW,KX,Bool.and_self,Bool.and_true,cond_true,a1,a2,e0,e1,e2,Option.bind_some,beq_self_eq_true,fY,ft,decide_true,tl,ZS,c1,sn,dy (show k < 9223372036854775807 by omega)]
  rw [Bool.and_true] at t2
  simp only [t2,Option.bind_some,e3,bne_self_eq_false,cond_false]) (by
  have tm:M.take l.length=M:=by rw [← XB,List.take_length]
  simp only [xU,List.length_map,du,cond_false,tm,fY,ft,Bool.and_self,Bool.and_true,cond_true,Option.bind_some,decide_true]) N 0 (Nat.zero_le _) (by unfold gU at hN; omega)
 have pU:aZ (V:=(List (Int × Int × Int)) × Int) (X:=(Unit × Int) ⊕ ((List (Int × Int × Int)))) (xU N l (n,0)) N (([]:List aV),0)=some (.inr M):=key
 have z:((bif (allFit (aj.fits cN) ([]:List AV)&&true) then some ((List.map d59 ([]:List AV)),0) else none:Option ((List (Int × Int × Int)) × Int)).bind fun Dj=>bif (decide (0=(List.map n59 Dj.1).length)&&true) then some Dj else none)=some (([]:List aV),(0:Int)):=rfl
 rw [SY,z,Option.bind_some,pU]
 simp only [Option.bind_some,Sum.elim_inr,fY,ft,Bool.and_true,cond_true]
theorem IN (l:List aV) (n:Int) (hn:-1000≤n∧n≤1000) (he:n % 2=0) (hl:l.length≤4096) (hc:ng l=0) (hs:∀ b∈l,b.2.2=1∧-90000≤b.1∧b.1≤90000∧-90000≤b.2.1∧b.2.1≤90000) :
  Xg N (l,(n,0))=some (l.map fun b=>((b.1+n,b.2.1,b.2.2):aV),0):=by
 have k0:N3 N (n,0)=some 0:=by
  rw [rN hN]
  unfold aP
  simp only
  rw [if_neg (by omega),if_pos (by omega)]
 have e3:DJ N [0,0]=some 0:=fc hN _ (by simp)
 have t2:=Dc 0 0
 rw [Bool.and_true] at t2
 rw [S0]
 simp only [fY,ft,Bool.and_true,cond_true,Option.bind_some,rQ hN,hc,beq_self_eq_true,k0,t2,e3,bne_self_eq_false,cond_false,IM hN l n hn hl hs]
end
end Go.Proofs.YtophnjjjmikmeaaGreat
