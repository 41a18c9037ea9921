/- Plain laws: the law of whole nets. -/
import Derived.Test.YtfiopgedfcaodaaGreatDoorSeamWg
set_option linter.all false
namespace Go.Proofs.YtfiopgedfcaodaaGreatDoor
open Go Go.Am Go.Sort
set_option maxRecDepth 100000
theorem Zp (x:Int):pN .u16 x 1=0∨pN .u16 x 1=1:=by
 have h:BitVec.ofInt 16 x &&& BitVec.ofInt 16 1=0#16∨BitVec.ofInt 16 x &&& BitVec.ofInt 16 1=1#16:=by
  have e1:BitVec.ofInt 16 1=1#16:=by decide
  rw [e1]
  generalize BitVec.ofInt 16 x=b
  have e:(b &&& 1#16).toNat=b.toNat % 2:=by
   rw [BitVec.toNat_and]
   exact Nat.and_one_is_mod b.toNat
  rcases Nat.mod_two_eq_zero_or_one b.toNat with h | h
  ·left
   apply BitVec.eq_of_toNat_eq
   rw [e,h]; rfl
  ·right
   apply BitVec.eq_of_toNat_eq
   rw [e,h]; rfl
 rcases h with h | h
 ·left
  show IntKind.wrap .u16 ((BitVec.ofInt 16 x &&& BitVec.ofInt 16 1).toNat:Int)=0
  rw [h]; decide
 ·right
  show IntKind.wrap .u16 ((BitVec.ofInt 16 x &&& BitVec.ofInt 16 1).toNat:Int)=1
  rw [h]; decide
def Zq (a:Int) (k:Nat):Int:=pN .u16 (Int.fdiv a (2 ^ (min k 16))) 1
def cg (a:Int) (l:List P3):Nat→List P3 × List P3
 | 0=>([],[])
 | k+1=>if Zq a k=0 then ((cg a l k).1++[l.getD k (0,0,0)],(cg a l k).2) else ((cg a l k).1,(cg a l k).2++[l.getD k (0,0,0)])
theorem tU (a:Int) (l:List P3):∀ k,k≤l.length→((cg a l k).1++(cg a l k).2).Perm (l.take k)∧(cg a l k).1.Sublist (l.take k)∧(cg a l k).2.Sublist (l.take k)
 | 0,_=>by simp [cg]
 | k+1,hk=>by
  have gl:k < l.length:=hk
  obtain ⟨h1,h2,h3⟩:=tU a l k (by omega)
  have eg:l.getD k (0,0,0)=l[k]:=by simp [gl]
  have et:l.take (k+1)=l.take k++[l[k]]:=(Jk l gl).symm
  rw [cg,eg,et]
  have s0:∀ x:List P3,x.Sublist (l.take k)→x.Sublist (l.take k++[l[k]]):=fun x hx=>hx.trans (List.sublist_append_left _ _)
  split
  ·refine ⟨?_,h2.append (List.Sublist.refl _),s0 _ h3⟩
   show ((cg a l k).1++[l[k]]++(cg a l k).2).Perm _
   rw [List.append_assoc]
   exact ((List.perm_append_comm (l₁:=[l[k]]) (l₂:=(cg a l k).2)).append_left _).trans (by rw [← List.append_assoc]; exact h1.append_right _)
  ·refine ⟨?_,s0 _ h2,h3.append (List.Sublist.refl _)⟩
   show ((cg a l k).1++((cg a l k).2++[l[k]])).Perm _
   rw [← List.append_assoc]
   exact h1.append_right _
theorem zF {l:List P3} (a:Int) (h:eR l=0) (hl:l.length≤12):eU l (cg a l l.length).1 (cg a l l.length).2:=by
 obtain ⟨h1,h2,h3⟩:=tU a l l.length (Nat.le_refl _)
 rw [List.take_length] at h1 h2 h3
 exact ⟨h1,h,Ej h2 h,Ej h3 h,hl⟩
theorem M5 (N:Nat) (l:List P3) (a:Int) (hl:l.length≤12) {k:Nat} (hk:k < l.length) :
  qV N l a ((k:Int),(),(),(cg a l k).1,(cg a l k).2)=some (.inl (((k+1:Nat):Int),(),(),(cg a l (k+1)).1,(cg a l (k+1)).2)):=by
 obtain ⟨a1,a2⟩:=iH l hk
 obtain ⟨h1,_,_⟩:=tU a l k (by omega)
 have hlen:=h1.length_eq
 rw [List.length_append,List.length_take] at hlen
 have eg:l.getD k (0,0,0)=l[k]:=by simp [hk]
 have d0:decide ((0:Int)≤(k:Int))=true:=decide_eq_true (by omega)
 have b1:decide (((cg a l k).1.length+1) * 24≤140737488355328)=true:=decide_eq_true (by omega)
 have b2:decide (((cg a l k).2.length+1) * 24≤140737488355328)=true:=decide_eq_true (by omega)
 have l1:∀ x:List P3,∀ b:P3,(x++[b]).length=x.length+1:=fun x b=>by simp
 rw [cg,eg]
 generalize (cg a l k).1=A at *
 generalize (cg a l k).2=B at *
 have hb:Zq a k=pN .u16 (Int.fdiv a (2 ^ (min k 16))) 1:=rfl
 rw [hb]
 have e10:decide ((1:Int)=0)=false:=rfl
 have e01:decide ((0:Int)=1)=false:=rfl
 rcases Zp (Int.fdiv a (2 ^ (min k 16))) with c | c
 ·simp only [qV,List.length_map,Int.toNat_natCast,ax hk,an hk,a1,a2,Bool.and_self,cond_true,d0,c,decide_true,b1,BU,eN,eO,l1,Nat.beq_refl,Option.bind_some,if_true,aN (show k < 9223372036854775807 by omega)]
 ·simp only [qV,List.length_map,Int.toNat_natCast,ax hk,an hk,a1,a2,Bool.and_self,cond_true,cond_false,d0,c,e10,e01,decide_true,b2,BU,eN,eO,l1,Nat.beq_refl,Option.bind_some,aN (show k < 9223372036854775807 by omega),show ¬ ((1:Int)=0) from by decide,if_false,decide_false]
section
variable {N:Nat} (hN:cU N)
include hN
theorem M6 (l:List P3) (a:Int) (hl:l.length≤12):ak (qV N l a) N (0,(),(),[],[])=some ((),(),(cg a l l.length).1,(cg a l l.length).2):=by
 have key:=hU (rd:=qV N l a) l.length (fun k=>((k:Int),(),(),(cg a l k).1,(cg a l k).2)) ((),(),(cg a l l.length).1,(cg a l l.length).2) (fun k hk=>M5 N l a hl hk) (by
  simp only [qV,List.length_map,aJ,cond_false,eN,eO,Nat.beq_refl,Bool.and_self,cond_true,Option.bind_some]) N 0 (Nat.zero_le _) (by unfold cU at hN; omega)
 exact key
theorem Zr (C:List (List P3)) (B:List (Int × Int)) (e:Int) {c:Nat} (hc:c < C.length) (h0:0 < C[c].length) (hl:C[c].length≤1000000) (hs:∀ p∈C[c],p.2=C[c][0].2) :
  ak (jD N (e,C,B) (c:Int)) N 0=some (.inr ()):=by
 obtain ⟨e1,e2⟩:=Mn C hc
 obtain ⟨z1,z2⟩:=vi C[c] h0
 have z0:decide ((0:Int)≤0∧0 < (C[c].length:Int))=true:=decide_eq_true (by omega)
 exact hU (rd:=jD N (e,C,B) (c:Int)) C[c].length (fun j=>(j:Int)) (.inr ()) (fun j hj=>by
  obtain ⟨a1,a2⟩:=vi C[c] hj
  have hq:=hs _ (List.getElem_mem hj)
  have q1:C[c][j].2.1=C[c][0].2.1:=congrArg Prod.fst hq
  have q2:C[c][j].2.2=C[c][0].2.2:=congrArg Prod.snd hq
  have t0:(Int.toNat 0)=0:=rfl
  simp only [jD,Int.toNat_natCast,t0,e1,List.length_map,ax hj,an hj,a1,a2,z0,z1,z2,q1,q2,Bool.and_self,cond_true,beq_self_eq_true,Bool.not_true,cond_false,aN (show j < 9223372036854775807 by omega)]) (by
  simp only [jD,Int.toNat_natCast,e1,List.length_map,aJ,cond_false]) N 0 (Nat.zero_le _) (by unfold cU at hN; omega)
theorem Gk {l A B:List P3} (h:eU l A B) (e:Int):ak (pd N l (e,dX [A,B] (dc [A,B] 0 1),iz [A,B] (dc [A,B] 0 1)) (Ev (dX [A,B] (dc [A,B] 0 1)).length (iz [A,B] (dc [A,B] 0 1)),0)) N 0=some (.inr ()):=by
 have hlen:=h.lens
 have Nr:=h.len
 obtain ⟨s1,s2,s3⟩:=AP (C:=[A,B]) (J:=dc [A,B] 0 1) (fun x hx=>by
  rcases List.mem_cons.1 hx with rfl | hx
  ·omega
  ·rw [List.mem_singleton] at hx; subst hx; omega) (by simp)
 have SH:∀ c (hc:c < (dX [A,B] (dc [A,B] 0 1)).length),∀ p∈(dX [A,B] (dc [A,B] 0 1))[c],(p.2∈aT A∨p.2∈aT B)∧kc A B p.2=c:=fun c hc p hp=>by
  obtain ⟨m1,m2⟩:=h.same (c:=c) (p:=p) (by rw [List.getD_eq_getElem?_getD,List.getElem?_eq_getElem hc]; exact hp)
  refine ⟨?_,m2⟩
  rcases (Ns A B p).1 m1 with ⟨_,m⟩ | ⟨_,m⟩
  ·exact .inl m
  ·exact .inr m
 have cL:∀ c (hc:c < (dX [A,B] (dc [A,B] 0 1)).length),0 < (dX [A,B] (dc [A,B] 0 1))[c].length:=fun c hc=>List.length_pos_iff.2 (vU _ _ _ _ (List.getElem_mem hc))
 have aec:∀ k,(k∈aT A∨k∈aT B)→(Ev (dX [A,B] (dc [A,B] 0 1)).length (iz [A,B] (dc [A,B] 0 1))).getD (kc A B k) 0=(DY l k:Int):=fun k hk=>by rw [h.VW]; exact h.Ev hk
 generalize dX [A,B] (dc [A,B] 0 1)=C at *
 generalize iz [A,B] (dc [A,B] 0 1)=E at *
 exact hU (rd:=pd N l (e,C,E) (Ev C.length E,0)) C.length (fun c=>(c:Int)) (.inr ()) (fun c hc=>by
  obtain ⟨e1,e2⟩:=Mn C hc
  have h0:=cL c hc
  obtain ⟨z1,z2⟩:=vi C[c] h0
  obtain ⟨k1,k2⟩:=SH c hc _ (List.getElem_mem h0)
  have hd:c < (Ev C.length E).length:=by rw [BX]; exact hc
  obtain ⟨d1,d2⟩:=at3 (Ev C.length E) hd
  have hdc:=aec _ k1
  rw [k2,List.getD_eq_getElem?_getD,List.getElem?_eq_getElem hd,Option.getD_some] at hdc
  have z0:decide ((0:Int)≤0∧0 < (C[c].length:Int))=true:=decide_eq_true (by omega)
  have t0:(Int.toNat 0)=0:=rfl
  have q:=Rn hN l (C[c][0].2.1,C[c][0].2.2) (by omega)
  have tj:=Zr hN C E e hc h0 (by have:=s3 _ (List.getElem_mem hc); omega) fun p hp=>by
   obtain ⟨p1,p2⟩:=SH c hc p hp
   exact kJ A B p1 k1 (p2.trans k2.symm)
  have ir:decide ((0:Int)≤(c:Int)∧(c:Int) < ((Ev C.length E).length:Int))=true:=an hd
  have aed:(Ev C.length E)[c]=(DY l (C[c][0].2.1,C[c][0].2.2):Int):=hdc
  simp only [pd,Int.toNat_natCast,t0,e1,e2,List.length_map,ax hc,an hc,tj,Option.bind_some,Sum.elim_inr,ir,d1,d2,z0,z1,z2,Bool.and_self,cond_true,eN,eO,q,aed,beq_self_eq_true,bne_self_eq_false,cond_false,aN (show c < 9223372036854775807 by omega)]) (by
  simp only [pd,List.length_map,aJ,cond_false]) N 0 (Nat.zero_le _) (by unfold cU at hN; omega)
theorem RM (l:List P3) (a:Int):T9 N (l,a)=some true:=by
 have Gl:∀ u,Z2 N u=some true:=fun _=>rfl
 rw [YR]
 by_cases hY:l.length≤12∧eR l=0
 ·obtain ⟨Nr,h0⟩:=hY
  have g12:decide ((l.length:Int) > 12)=false:=decide_eq_false (by omega)
  have g0:((0:Int) != 0)=false:=rfl
  have q65:=HC hN l
  rw [h0] at q65
  have hP:=zF a h0 Nr
  have r9:=M6 hN l a Nr
  have hlen:=hP.lens
  generalize (cg a l l.length).1=A at *
  generalize (cg a l l.length).2=B at *
  have jh:∀ x:List P3,aC (List.map n120 x)=true:=fun x=>jx (fun _=>rfl) x
  have fA:allFit (aA.fits hZ) [AV.list .gr 3 (List.map n120 A),AV.list .gr 3 (List.map n120 B)]=true:=eH [A,B]
  have mA:List.map d115 [AV.list .gr 3 (List.map n120 A),AV.list .gr 3 (List.map n120 B)]=[A,B]:=ee [A,B]
  have q34:=MN hN [A,B] (by simp) (fun x hx=>by
   rcases List.mem_cons.1 hx with rfl | hx
   ·omega
   ·rw [List.mem_singleton] at hx; subst hx; omega)
  have hq:=aea A B hP.aeb hP.mz (by omega)
  have q36:=Ru hN [A,B] 0 1
  rw [if_pos (sR hq).1,show Rt [A,B] 0 1=(dc [A,B] 0 1,0) from by unfold Rt; rw [if_neg (by simp),if_neg (by decide)]; rfl] at q36
  obtain ⟨s1,s2,s3⟩:=AP (C:=[A,B]) (J:=dc [A,B] 0 1) (fun x hx=>by
   rcases List.mem_cons.1 hx with rfl | hx
   ·omega
   ·rw [List.mem_singleton] at hx; subst hx; omega) (by simp)
  have q47:=RA hN [A,B] (dc [A,B] 0 1)
  unfold VT at q47
  rw [if_neg (fun c=>c hq),if_neg (by omega)] at q47
  have hJ:(dc [A,B] 0 1).length≤1024:=(sR hq).2
  have dY:=VV hq (by omega) (by omega)
  have q50:=RB hN (dX [A,B] (dc [A,B] 0 1),iz [A,B] (dc [A,B] 0 1)) (by show (dX _ _).length≤1000000; omega) (fun x hx=>by have:=s3 x hx; omega)
  have q56:=RE hN (dX [A,B] (dc [A,B] 0 1)) (iz [A,B] (dc [A,B] 0 1)) (by omega) (by omega) (fun x hx=>by have:=s3 x hx; omega)
  have q54:=RG hN (dX [A,B] (dc [A,B] 0 1)) (iz [A,B] (dc [A,B] 0 1)) (by omega) (by omega) (fun x hx=>by have:=s3 x hx; omega)
  have q55:=RH hN (dX [A,B] (dc [A,B] 0 1)) (iz [A,B] (dc [A,B] 0 1)) (by omega) (by omega) (fun x hx=>by have:=s3 x hx; omega)
  rw [dY] at q56
  rw [if_pos dY] at q54 q55
  have q66:=I7 hN l (by omega)
  have q67:=Jc hN l (by omega)
  have nb:(iz [A,B] (dc [A,B] 0 1)).length=l.length:=by rw [hP.bars,List.length_map,List.length_append,hlen]
  have nk:(dX [A,B] (dc [A,B] 0 1)).length=(aT l).length:=hP.VW.trans hP.num
  have np:(Zc (dX [A,B] (dc [A,B] 0 1)) (iz [A,B] (dc [A,B] 0 1))).2.2.1=((l.foldl (vl l) []).length:Int):=by
   have:=hP.parts
   rw [← hP.VW] at this
   exact congrArg (fun n:Nat=>(n:Int)) this
  have rc:=Gk hN hP 0
  have nbi:(((iz [A,B] (dc [A,B] 0 1)).length:Int) != (l.length:Int))=false:=by rw [nb]; exact bne_self_eq_false _
  have nki:(((dX [A,B] (dc [A,B] 0 1)).length:Int) != ((aT l).length:Int))=false:=by rw [nk]; exact bne_self_eq_false _
  have nd:(Ev (dX [A,B] (dc [A,B] 0 1)).length (iz [A,B] (dc [A,B] 0 1))).length=(dX [A,B] (dc [A,B] 0 1)).length:=BX _ _
  generalize dc [A,B] 0 1=J at *
  generalize dX [A,B] J=C at *
  generalize iz [A,B] J=E at *
  have f0:allFit (aA.fits dH) []=true:=rfl
  have m0:List.map d120 ([]:List AV)=[]:=rfl
  have n0:Nat.beq 0 (List.length ([]:List AV))=true:=rfl
  have f127:allFit (aA.fits ca) []=true:=rfl
  have aej:List.map d127 ([]:List AV)=[]:=rfl
  cases J with
  | nil=>
   have i0:List.isEmpty (List.map n127 ([]:List qW))=true:=rfl
   simp only [List.length_map,g12,cond_false,eN,eO,Bool.and_true,Bool.and_self,cond_true,Option.bind_some,q65,g0,f0,m0,n0,r9,decide_true,jh,fA,mA,q34,eH,ee,q36,i0,f127,aej,q47,LU,LV,vd,vf,LW,LX,q50,q56,nbi,q66,beq_self_eq_true,Zm,nki,q54,q55,nd,bne_self_eq_false,q67,np,rc,Sum.elim_inr,Gl]
  | cons j J=>
   have i0:List.isEmpty (List.map n127 (j :: J))=false:=rfl
   have hb:decide ((0+(j :: J).length) * 48≤140737488355328)=true:=decide_eq_true (by omega)
   simp only [List.length_map,g12,cond_false,eN,eO,Bool.and_true,Bool.and_self,cond_true,Option.bind_some,q65,g0,f0,m0,n0,r9,decide_true,jh,fA,mA,q34,eH,ee,q36,i0,hb,List.nil_append,yl,ym,q47,LU,LV,vd,vf,LW,LX,q50,q56,nbi,q66,beq_self_eq_true,Zm,nki,q54,q55,nd,bne_self_eq_false,q67,np,rc,Sum.elim_inr,Gl]
 ·have h1:((bif decide ((l.length:Int) > 12) then some true else some (eR l != 0)):Option Bool)=some true:=by
   by_cases Nr:l.length≤12
   ·have hq:eR l≠0:=fun c=>hY ⟨Nr,c⟩
    have g12:decide ((l.length:Int) > 12)=false:=decide_eq_false (by omega)
    rw [g12,cond_false,bne_iff_ne.2 hq]
   ·have g12:decide ((l.length:Int) > 12)=true:=decide_eq_true (by omega)
    rw [g12,cond_true]
  simp only [List.length_map,eN,eO,Bool.and_true,cond_true,Option.bind_some,HC hN l,h1,Gl]
end
end Go.Proofs.YtfiopgedfcaodaaGreatDoor
