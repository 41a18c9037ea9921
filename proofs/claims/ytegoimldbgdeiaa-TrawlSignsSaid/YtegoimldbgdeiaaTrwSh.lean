/- The reference's signs: T30. -/
import Derived.Test.YtegoimldbgdeiaaTrwSg
set_option linter.all false
namespace Go.Proofs.Ytegoimldbgdeiaa
open Go Go.Am
open List (map)
open Int (toNat)
open Go.IntKind (wrap)
open Go.Am.aM (fits)
set_option maxRecDepth 100000
def gm (pc:List Int) (q:Nat):Nat→Bool
 |0=>true
 |b+1=>gm pc q b&&(gI pc b != gI pc q)
def px (pc:List Int) (P:Nat):Nat→List Int
 |0=>List.replicate P 0
 |q+1=>if gm pc q q=true then (px pc P q).set q 1 else px pc P q
theorem qJ (pc:List Int) (P:Nat):∀ q,(px pc P q).length=P
 |0=>List.length_replicate
 |q+1=>by
  show (if _ then _ else _:List Int).length=P;split
  ·rw [List.length_set]; exact qJ pc P q
  ·exact qJ pc P q
theorem xG (pc:List Int) (P:Nat) (m:Nat):∀ q,q≤P→gI (px pc P q) (m:Int)=if m < q∧gm pc m m=true then 1 else 0
 |0,_=>by rw [if_neg (fun h=>absurd h.1 (Nat.not_lt_zero _))]; exact Df _ _
 |q+1,hq=>by
  have ih:=xG pc P m q (by omega);show gI (if _ then _ else _:List Int) (m:Int)=_;by_cases hf:gm pc q q=true
  ·rw [if_pos hf,pu _ _ _ _ (by rw [qJ]; omega),ih];by_cases hm:m=q
   ·subst hm; rw [if_pos rfl,if_pos ⟨by omega,hf⟩]
   ·rw [if_neg hm];by_cases hc:m < q∧gm pc m m=true
    ·rw [if_pos hc,if_pos ⟨by omega,hc.2⟩]
    ·rw [if_neg hc,if_neg (fun h=>hc ⟨by omega,h.2⟩)]
  ·rw [if_neg hf,ih];by_cases hc:m < q∧gm pc m m=true
   ·rw [if_pos hc,if_pos ⟨by omega,hc.2⟩]
   ·rw [if_neg hc,if_neg (fun h=>hc ⟨by
     have:m≠q:=fun e=>hf (by rw [← e]; exact h.2)
     omega,h.2⟩)]
theorem Ae (pc:List Int) (P:Nat):Fi P (px pc P P):=⟨qJ pc P P,fun q=>by rw [xG pc P q P (Nat.le_refl _)]; split <;> simp⟩
section
variable {N:Nat} (hN:ey N)
include hN
theorem Ko (pc:List Int) (WG:pc.length≤1000) (q:Nat) (hq:q < pc.length) (NT sg:List Int):ar (ot N pc ((q:Int),NT)) N (true,0,sg)=some (gm pc q q,sg):=by
 obtain ⟨q1,q2⟩:=g3 pc hq;have key:=aU (rd:=ot N pc ((q:Int),NT)) q (fun b=>(gm pc q b,(b:Int),sg)) (gm pc q q,sg) (fun b hb=>by
  obtain ⟨b1,b2⟩:=g3 pc (k:=b) (by omega);have w:wrap .i64 ((b:Int)+1)=((b+1:Nat):Int):=aR (by omega);have e:gm pc q (b+1)=(gm pc q b&&(gI pc b != gI pc q)):=rfl;rw [e];cases gm pc q b <;> simp only [ot,List.length_map,Int.toNat_natCast,ap hb,ah hq,ah (show b < pc.length by omega),b1,b2,q1,q2,cond_true,cond_false,Bool.and_self,Bool.true_and,Bool.false_and,dI,dJ,Option.bind_some,w]) (by
  simp only [ot,aJ,cond_false,cond_true,Bool.and_self,dI,dJ,Option.bind_some]) N 0 (Nat.zero_le _) (by unfold ey at hN; omega)
 exact key
theorem Qo (t:cu) (hP:t.1.length≤1000) (pc:List Int) (WG:pc.length=t.1.length):ar (rv N t pc) N (0,px pc t.1.length 0)=some (px pc t.1.length t.1.length):=by
 have key:=aU (rd:=rv N t pc) t.1.length (fun q=>((q:Int),px pc t.1.length q)) (px pc t.1.length t.1.length) (fun q hq=>by
  have k1:=Ko hN pc (by omega) q (by omega) (px pc t.1.length q) (px pc t.1.length q);have w:wrap .i64 ((q:Int)+1)=((q+1:Nat):Int):=aR (by omega);have dq:decide (q < t.1.length)=true:=decide_eq_true hq;have il:=qJ pc t.1.length q;have e:px pc t.1.length (q+1)=if gm pc q q=true then (px pc t.1.length q).set q 1 else px pc t.1.length q:=rfl
  rw [e];cases hf:gm pc q q <;> simp only [rv,List.length_map,Int.toNat_natCast,ap hq,ah hq,il,dq,k1,hf,Nat.zero_add,Kg,cond_true,cond_false,Bool.and_self,decide_true,dI,dJ,Option.bind_some,w,if_true,if_false,Bool.false_eq_true]) (by
  simp only [rv,List.length_map,Int.toNat_natCast,aJ,cond_false,cond_true,Bool.and_self,dI,dJ,Option.bind_some]) N 0 (Nat.zero_le _) (by unfold ey at hN; omega)
 exact key
omit hN in
theorem IG (t:cu) (i:Nat) (hi:i < t.2.length) (A B:Int) (s2 s3:Int) (tw:Bool) (hs:t.2[i]=(A,s2,B,s3,tw)) (NT sg:List Int) (h:Fi t.1.length sg) (x y d:Nat) (hx:x < t.1.length) (hy:y < t.1.length) (hd:d < 2) :
  fI N t ((i:Int),NT) ((x:Int),(y:Int),(d:Int),sg)=some (.inl ((y:Int),(x:Int),((d+1:Nat):Int),gl x y tw sg)):=by
 obtain ⟨a1,a2⟩:=ur t.2 hi;rw [hs] at a1;have hl:=h.len;obtain ⟨x1,x2⟩:=g3 sg (k:=x) (by omega);obtain ⟨y1,y2⟩:=g3 sg (k:=y) (by omega);have rx:decide ((0:Int)≤(x:Int)∧(x:Int) < (t.1.length:Int))=true:=ah hx;have ry:decide ((0:Int)≤(y:Int)∧(y:Int) < (t.1.length:Int))=true:=ah hy;have dx:decide (x < t.1.length)=true:=decide_eq_true hx;have dy:decide (y < t.1.length)=true:=decide_eq_true hy;have w:wrap .i64 ((d:Int)+1)=((d+1:Nat):Int):=aR (by omega);have e2:decide ((d:Int) < 2)=true:=decide_eq_true (by omega);have hsl:∀ v,(sg.set y v).length=t.1.length:=fun v=>by rw [List.length_set]; exact hl
 obtain ⟨z1,z2⟩:=g3 (sg.set y (gI sg x)) (k:=x) (by rw [hsl]; exact hx);have z1:d3 (ab (map n3 (sg.set y (gI sg x))) x)=gI sg x:=by
  rw [z1,pu _ _ _ _ (by omega)]; split <;> rfl
 have hv:=h.val x;have wr:wrap .i64 (0 - gI sg x)=- gI sg x:=by rw [KB (by omega)]; omega
 unfold gl;cases SZ:(gI sg (x:Int) != 0) with
 |false=>
  have hz:gI sg (x:Int)=0:=by simpa using SZ
  rw [if_neg (fun c=>c.1 hz)];simp only [fI,List.length_map,Int.toNat_natCast,e2,hl,rx,ry,dx,dy,x1,x2,y1,y2,SZ,Nat.zero_add,cond_true,cond_false,Bool.and_self,decide_true,dI,dJ,Option.bind_some,w]
 |true=>
  have hz:gI sg (x:Int)≠0:=by simpa using SZ
  cases hy0:(gI sg (y:Int) == 0) with
  |false=>
   have hw:¬ gI sg (y:Int)=0:=by simpa using hy0
   rw [if_neg (fun c=>hw c.2)];simp only [fI,List.length_map,Int.toNat_natCast,e2,hl,rx,ry,dx,dy,x1,x2,y1,y2,SZ,hy0,Nat.zero_add,cond_true,cond_false,Bool.and_self,decide_true,dI,dJ,Option.bind_some,w]
  |true=>
   have hw:gI sg (y:Int)=0:=by simpa using hy0
   rw [if_pos ⟨hz,hw⟩];cases tw <;> simp only [fI,List.length_map,Int.toNat_natCast,e2,hl,rx,ry,dx,dy,x1,x2,y1,y2,SZ,hy0,Nat.zero_add,a1,a2,ah hi,Kg,hsl,z1,z2,wr,List.set_set,cond_true,cond_false,Bool.and_self,decide_true,dI,dJ,Option.bind_some,w,if_true,if_false,Bool.false_eq_true]
theorem Nd (t:cu) (hS:uz t) (hP:t.1.length≤1000) (hT:t.2.length≤100000) (i:Nat) (hi:i < t.2.length) (sg:List Int) (h:Fi t.1.length sg):lx N t ((i:Int),sg)=some (.inl (((i+1:Nat):Int),jT sg (av t i))):=by
 obtain ⟨A,B,hA,om,hB,ow⟩:=hS i hi;rw [fC t hi] at hA hB;have hs:t.2[i]=((A:Int),t.2[i].2.1,(B:Int),t.2[i].2.2.2.1,t.2[i].2.2.2.2):=by rw [← hA,← hB]
 obtain ⟨a1,a2⟩:=ur t.2 hi;have s1:=sJ h (x:=A) ow t.2[i].2.2.2.2;have r1:=IG (N:=N) t i hi A B _ _ _ hs sg sg h A B 0 om ow (by omega);have r2:=IG (N:=N) t i hi A B _ _ _ hs sg _ s1 B A 1 ow om (by omega);have k1:ar (fI N t ((i:Int),sg)) N ((A:Int),(B:Int),0,sg)=some (jT sg (av t i)):=by
  obtain ⟨n,rfl⟩:∃ n,N=n+3:=⟨N - 3,by unfold ey at hN; omega⟩;have r1:fI (n+3) t ((i:Int),sg) ((A:Int),(B:Int),0,sg)=_:=r1;rw [show n+3=(n+2)+1 from rfl,gQ,r1];show ar _ (n+2) ((B:Int),(A:Int),((1:Nat):Int),_)=_;rw [show n+2=(n+1)+1 from rfl,gQ,r2];show ar _ (n+1) ((A:Int),(B:Int),((2:Nat):Int),gl B A t.2[i].2.2.2.2 (gl A B t.2[i].2.2.2.2 sg))=_;rw [gQ];have e2:decide (((2:Nat):Int) < 2)=false:=rfl;have fin:jT sg (av t i)=gl B A t.2[i].2.2.2.2 (gl A B t.2[i].2.2.2.2 sg):=by rw [fC t hi]; unfold jT; rw [hA,hB]
  rw [fin];simp only [fI,e2,cond_false,cond_true,dI,dJ,Bool.and_self,Option.bind_some];rfl
 have w:wrap .i64 ((i:Int)+1)=((i+1:Nat):Int):=aR (by omega);simp only [lx,List.length_map,Int.toNat_natCast,ap hi,ah hi,a1,a2,hA,hB,k1,cond_true,dI,dJ,Bool.and_self,Option.bind_some,w]
theorem Kp (t:cu) (hS:uz t) (hP:t.1.length≤1000) (hT:t.2.length≤100000) (sg:List Int) (h:Fi t.1.length sg):ar (lx N t) N (0,sg)=some (jx t sg t.2.length):=by
 have key:=aU (rd:=lx N t) t.2.length (fun i=>((i:Int),jx t sg i)) (jx t sg t.2.length) (fun i hi=>Nd hN t hS hP hT i hi _ (mw hS h i (by omega)).1) (by
  simp only [lx,List.length_map,aJ,cond_false,cond_true,Bool.and_self,dI,dJ,Option.bind_some]) N 0 (Nat.zero_le _) (by unfold ey at hN; omega)
 exact key
theorem Hp (t:cu) (hS:uz t) (hP:t.1.length≤1000) (hT:t.2.length≤100000) (sg:List Int) (h:Fi t.1.length sg):ar (uB N t) N (0,sg)=some (iQ t sg t.1.length):=by
 have key:=aU (rd:=uB N t) t.1.length (fun r=>((r:Int),iQ t sg r)) (iQ t sg t.1.length) (fun r hr=>by
  have c:=(jU hS h r).1;have k1:=Kp hN t hS hP hT _ c;have w:wrap .i64 ((r:Int)+1)=((r+1:Nat):Int):=aR (by omega);simp only [uB,List.length_map,Int.toNat_natCast,ap hr,k1,cond_true,dI,dJ,Bool.and_self,Option.bind_some,w];rfl) (by
  simp only [uB,List.length_map,Int.toNat_natCast,aJ,cond_false,cond_true,Bool.and_self,dI,dJ,Option.bind_some]) N 0 (Nat.zero_le _) (by unfold ey at hN; omega)
 exact key
end
end Go.Proofs.Ytegoimldbgdeiaa
