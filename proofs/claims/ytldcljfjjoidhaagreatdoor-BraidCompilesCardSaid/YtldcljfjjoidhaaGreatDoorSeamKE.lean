/- Plain laws: programs mirrored,worked back,lifted,and put one behind the other. -/
import Derived.Test.YtldcljfjjoidhaaGreatDoorSeamKC
import Derived.Test.YtldcljfjjoidhaaGreatDoorBraX
import Derived.Test.YtldcljfjjoidhaaGreatDoorSeamKD
import Derived.Test.YtldcljfjjoidhaaGreatDoorBraZ
set_option linter.all false
namespace Go.Proofs.YtldcljfjjoidhaaGreatDoor
open Go Go.Am Go.Sort
open List (map)
open Int (toNat)
open Go.IntKind (wrap)
open Go.Am.aR (fits)
set_option maxRecDepth 100000
theorem abf {α β:Type} {rd:List β × Int→Option ((List β × Int) ⊕ List β)} (l:List α) (g:α→β)
  (h:∀ k (hk:k < l.length) (s:List β),s.length=k→rd (s,(k:Int))=some (.inl (s++[g l[k]],((k+1:Nat):Int)))) (h0:∀ s:List β,s.length=l.length→rd (s,(l.length:Int))=some (.inr s)) (n:Nat) (hn:l.length < n) :
  aL rd n ([],0)=some (l.map g):=by
 have key:=cW (rd:=rd) l.length (fun k=>((l.take k).map g,(k:Int))) (l.map g) (fun k hk=>by
  rw [h k hk _ (by rw [List.length_map,List.length_take]; omega)]
  have e:(l.take (k+1)).map g=(l.take k).map g++[g l[k]]:=by
   rw [List.take_add_one,List.getElem?_eq_getElem hk,List.map_append]
   rfl
  rw [e]) (by
  have e:(l.take l.length).map g=l.map g:=by rw [List.take_length]
  have:=h0 (l.map g) (by rw [List.length_map])
  rw [e]
  exact this) n 0 (Nat.zero_le _) (by omega)
 simpa using key
theorem SP (l:List dq) (x y:Int) (r u:Bool) (n:Int):map ax l++[AV.agg [AV.int .i64 x,AV.int .i64 y,AV.bool r,AV.bool u,AV.int .i64 n]]=map ax (l++[(x,y,r,u,n)]):=by rw [List.map_append]; rfl
theorem abg:((bif (allFit (fits df) ([]:List AV)&&true) then some ((map bC ([]:List AV)),(0:Int)) else none:Option (List dq × Int)).bind fun w9=>bif (decide (0=(map ax w9.1).length)&&true) then some w9 else none)=some ([],0):=rfl
section
variable {N:Nat} (hN:fL N)
include hN
theorem XR (p:List dq) (hp:p.length≤1000000):T38 N p=some p:=by
 rw [WJ,abg,Option.bind_some]
 have key:aL (Cr N p) N ([],0)=some (p.map id):=abf p id (fun k hk s hs=>by
  obtain ⟨a1,a2⟩:=Se hN p hk
  generalize p[k]=c at *
  have hb:decide ((k+1) * 32≤140737488355328)=true:=decide_eq_true (by omega)
  have sn:=SP s c.1 c.2.1 c.2.2.1 c.2.2.2.1 c.2.2.2.2
  simp only [Cr,xf,List.length_map,a8 hk,aB hk,Int.toNat_natCast,a1,a2,Bool.and_self,cond_true,Option.bind_some,hs,hb,decide_true,sn,wz,wA,Bool.and_true,List.length_append,List.length_singleton,bE (show k < 9223372036854775807 by omega)]
  rfl) (fun s hs=>by
  simp only [Cr,xf,List.length_map,bO,cond_false,wz,wA,Bool.and_self,Bool.and_true,decide_true,cond_true,Option.bind_some]) N (by unfold fL at hN; omega)
 rw [key,List.map_id,Option.bind_some]
 simp only [wz,wA,cond_true]
theorem NG (l:List dq) (hl:l.length≤1000000):T37 N (l,l)=some true:=by
 have key:=cW (rd:=zB N l l) l.length (fun k=>(k:Int)) (.inr ()) (fun k hk=>by
  obtain ⟨a1,a2⟩:=Eg hN l hk
  simp only [zB,List.length_map,Int.toNat_natCast,a8 hk,aB hk,a1,a2,Bool.and_self,cond_true,beq_self_eq_true,Bool.not_true,cond_false,bE (show k < 9223372036854775807 by omega)]) (by
  simp only [zB,List.length_map,bO,cond_false]) N 0 (Nat.zero_le _) (by unfold fL at hN; omega)
 have pW:aL (zB N l l) N 0=some (.inr ()):=key
 rw [WL,pW]
 simp only [bne_self_eq_false,cond_false,Option.bind_some,Sum.elim_inr]
end
end Go.Proofs.YtldcljfjjoidhaaGreatDoor
namespace Go.Proofs.YtldcljfjjoidhaaGreatDoor
open Go Go.Am Go.Sort
open List (map)
open Int (toNat)
open Go.IntKind (wrap)
open Go.Am.aR (fits)
set_option maxRecDepth 100000
abbrev GA:=Int × Int × Bool × Bool × Int × Int × Int × Bool × Bool × Int
def qX (r:bX) (w:Bool):Int:=if w then r.2.1 else r.2.2
def aD (r:bX) (w:Bool):dq:=if (qX r w+r.1) % 2=0 then (qX r w,r.1,w,true,r.2.2 - r.2.1) else (qX r w,r.1+1,w,false,r.2.2 - r.2.1)
def bD (r:bX):GA:=((aD r true).1,(aD r true).2.1,(aD r true).2.2.1,(aD r true).2.2.2.1,(aD r true).2.2.2.2,(aD r false).1,(aD r false).2.1,(aD r false).2.2.1,(aD r false).2.2.2.1,(aD r false).2.2.2.2)
def nE (r:bX):Prop:=-100000≤r.1∧r.1+1≤100000∧-100000≤r.2.1∧r.2.1 < r.2.2∧r.2.2≤100000
theorem HT {r:bX} (h:nE r) (w:Bool):-100000≤qX r w∧qX r w≤100000:=by
 obtain ⟨h1,h2,h3,h4,h5⟩:=h
 unfold qX
 cases w
 ·exact ⟨by simp only [Bool.false_eq_true,if_false]; omega,by simp only [Bool.false_eq_true,if_false]; omega⟩
 ·exact ⟨by simp only [if_true]; omega,by simp only [if_true]; omega⟩
theorem Jz (r:bX) (w:Bool):(aD r w).2.2.2.2=r.2.2 - r.2.1:=by unfold aD; split <;> rfl
theorem qK {r:bX} (h:nE r) (hl:r.2.2 - r.2.1≤512) (w:Bool):cX (aD r w)=0:=by
 have hc:=HT h w
 obtain ⟨h1,h2,h3,h4,h5⟩:=h
 unfold cX
 rw [fP,Jz]
 intro x hx
 rcases List.mem_cons.1 hx with rfl | hx
 ·rw [mw]
  unfold aD
  split
  ·next e=>exact ⟨⟨hc.1,hc.2,by show -100000≤r.1; omega,by show r.1≤100000; omega⟩,e⟩
  ·next e=>exact ⟨⟨hc.1,hc.2,by show -100000≤r.1+1; omega,by show r.1+1≤100000; omega⟩,by show (qX r w+(r.1+1)) % 2=0; omega⟩
 ·rw [List.mem_singleton] at hx
  subst hx
  unfold CD
  rw [if_neg (by omega)]
theorem Ez (x:Int):(Int.tmod x 2 == 0)=decide (x % 2=0):=by
 by_cases h:x % 2=0
 ·rw [decide_eq_true h,Int.tmod_eq_zero_of_dvd (Int.dvd_of_emod_eq_zero h)]; rfl
 ·rw [decide_eq_false h]
  exact beq_false_of_ne fun e=>h (Int.emod_eq_zero_of_dvd (Int.dvd_of_tmod_eq_zero e))
theorem NH (N:Nat) {r:bX} (h:nE r):NF N r=some (bD r):=by
 obtain ⟨h1,h2,h3,h4,h5⟩:=h
 obtain ⟨y,a,b⟩:=r
 simp only at h1 h2 h3 h4 h5
 rw [SE]
 have w1:wrap .i64 (a+y)=a+y:=gk (by omega)
 have w2:wrap .i64 (b+y)=b+y:=gk (by omega)
 have w3:wrap .i64 (y+1)=y+1:=gk (by omega)
 have w4:wrap .i64 (b - a)=b - a:=gk (by omega)
 have ne:(y+1 == y)=false:=beq_false_of_ne (by omega)
 unfold bD aD qX
 simp only [w1,w3,Ez,if_true,if_false,Bool.false_eq_true]
 by_cases e1:(a+y) % 2=0
 ·by_cases e2:(b+y) % 2=0
  ·simp only [e1,e2,decide_true,cond_true,if_true,Option.bind_some,beq_self_eq_true,Bool.and_self,w2,w4,Ez]
  ·simp only [e1,e2,decide_true,decide_false,cond_true,cond_false,if_true,if_false,Option.bind_some,beq_self_eq_true,Bool.and_self,w2,w3,w4,Ez,ne]
 ·by_cases e2:(b+y) % 2=0
  ·simp only [e1,e2,decide_true,decide_false,cond_true,cond_false,if_true,if_false,Option.bind_some,beq_self_eq_true,Bool.and_self,w2,w3,w4,Ez,ne]
  ·simp only [e1,e2,decide_true,decide_false,cond_true,cond_false,if_true,if_false,Option.bind_some,beq_self_eq_true,Bool.and_self,w2,w3,w4,Ez,ne]
theorem HU (N:Nat) {r:bX} (h:nE r) (w:Bool):SN N (r,w)=some (aD r w):=by
 have hc:=HT h w
 obtain ⟨h1,h2,h3,h4,h5⟩:=h
 rw [XN]
 have e0:((bif w then (some r.2.1) else (some r.2.2)):Option Int)=some (qX r w):=by cases w <;> rfl
 have e1:T63 N (qX r w,r.1)=some (aV (qX r w,r.1) == 0):=by
  rw [Xc]
  have q:uI N (qX r w,r.1)=some (aV (qX r w,r.1)):=ny N _
  rw [q]
  rfl
 have w3:wrap .i64 (r.1+1)=r.1+1:=gk (by omega)
 have w4:wrap .i64 (r.2.2 - r.2.1)=r.2.2 - r.2.1:=gk (by omega)
 have e2:(aV (qX r w,r.1) == 0)=decide ((qX r w+r.1) % 2=0):=by
  rw [Bool.eq_iff_iff,beq_iff_eq,mw,decide_eq_true_eq]
  exact ⟨fun h=>h.2,fun h=>⟨⟨hc.1,hc.2,by show -100000≤r.1; omega,by show r.1≤100000; omega⟩,h⟩⟩
 rw [e0,Option.bind_some,e1,Option.bind_some,e2,w3,w4]
 unfold aD
 by_cases e:(qX r w+r.1) % 2=0
 ·rw [decide_eq_true e,if_pos e]; rfl
 ·rw [decide_eq_false e,if_neg e]; rfl
theorem abh (l:List GA) {k:Nat} (hk:k < l.length):aI (ah (map aj l) k)=l[k]∧fits cA (ah (map aj l) k)=true:=by
 rw [fH aj l k hk]; exact ⟨rfl,rfl⟩
theorem aft (l:List XA) {k:Nat} (hk:k < l.length):dZ (ah (map aq l) k)=l[k]∧fits lX (ah (map aq l) k)=true:=by
 rw [fH aq l k hk]; exact ⟨rfl,rfl⟩
def zN (r:bX):Bool:=decide (r.2.2 - r.2.1 > 512)
section
variable {N:Nat} (hN:fL N)
include hN
theorem NI (y:List bX × Int) (h:∀ r∈y.1,nE r) (hl:y.1.length≤1000000) :
  aL (jN N y) N 0=some (match (List.range y.1.length).find? (fun k=>zN (y.1.getD k (0,0,0))) with | some j=>.inl (j:Int) | none=>.inr ()):=by
 exact ke (rd:=jN N y) y.1.length (fun k=>(k:Int)) _ (fun j=>Sum.inl (j:Int)) (Sum.inr ()) (fun k hk=>by
  obtain ⟨a1,a2⟩:=Ny y.1 hk
  have e:y.1.getD k (0,0,0)=y.1[k]:=by simp [hk]
  obtain ⟨h1,h2,h3,h4,h5⟩:=h _ (List.getElem_mem hk)
  have w4:wrap .i64 (y.1[k].2.2 - y.1[k].2.1)=y.1[k].2.2 - y.1[k].2.1:=gk (by omega)
  rw [e]
  simp only [jN,List.length_map,Int.toNat_natCast,a8 hk,aB hk,a1,a2,Bool.and_self,cond_true,w4,bE (show k < 9223372036854775807 by omega)]
  unfold zN
  cases decide (y.1[k].2.2 - y.1[k].2.1 > 512) <;> rfl) (by
  simp only [jN,List.length_map,bO,cond_false]) N (by unfold fL at hN; omega)
theorem SQ (y:List bX × Int) (h:∀ r∈y.1,nE r) (hl:y.1.length≤1000000) :
  aL (oD N y) N ([],0)=some (y.1.map bD):=abf y.1 bD (fun k hk s hs=>by
  obtain ⟨a1,a2⟩:=Ny y.1 hk
  have q:NF N (y.1[k].1,y.1[k].2.1,y.1[k].2.2)=some (bD y.1[k]):=NH N (h _ (List.getElem_mem hk))
  generalize bD y.1[k]=c at *
  have hb:decide ((k+1) * 64≤140737488355328)=true:=decide_eq_true (by omega)
  have sn:map aj s++[AV.agg [AV.int .i64 c.1,AV.int .i64 c.2.1,AV.bool c.2.2.1,AV.bool c.2.2.2.1,AV.int .i64 c.2.2.2.2.1,AV.int .i64 c.2.2.2.2.2.1,AV.int .i64 c.2.2.2.2.2.2.1,AV.bool c.2.2.2.2.2.2.2.1,AV.bool c.2.2.2.2.2.2.2.2.1,AV.int .i64 c.2.2.2.2.2.2.2.2.2]]=map aj (s++[c]):=by rw [List.map_append]; rfl
  simp only [oD,List.length_map,a8 hk,aB hk,Int.toNat_natCast,a1,a2,Bool.and_self,cond_true,q,Option.bind_some,hs,hb,decide_true,sn,gn,gq,Bool.and_true,List.length_append,List.length_singleton,bE (show k < 9223372036854775807 by omega)]) (fun s hs=>by
  simp only [oD,List.length_map,bO,cond_false,gn,gq,Bool.and_self,Bool.and_true,decide_true,cond_true,Option.bind_some]) N (by unfold fL at hN; omega)
theorem NJ (y:List bX × Int) (h:∀ r∈y.1,nE r) (hl:y.1.length≤1000000) :
  aL (tJ N y) N 0=some (match (List.range y.1.length).find? (fun k=>zN (y.1.getD k (0,0,0))) with | some _=>.inl ((),3) | none=>.inr ()):=by
 exact ke (rd:=tJ N y) y.1.length (fun k=>(k:Int)) _ (fun _=>Sum.inl ((),3)) (Sum.inr ()) (fun k hk=>by
  obtain ⟨a1,a2⟩:=aa3 y.1 hk
  have e:y.1.getD k (0,0,0)=y.1[k]:=by simp [hk]
  obtain ⟨h1,h2,h3,h4,h5⟩:=h _ (List.getElem_mem hk)
  have w4:wrap .i64 (y.1[k].2.2 - y.1[k].2.1)=y.1[k].2.2 - y.1[k].2.1:=gk (by omega)
  rw [e]
  simp only [tJ,List.length_map,Int.toNat_natCast,a8 hk,aB hk,a1,a2,Bool.and_self,cond_true,w4,bE (show k < 9223372036854775807 by omega)]
  unfold zN
  cases decide (y.1[k].2.2 - y.1[k].2.1 > 512) <;> rfl) (by
  simp only [tJ,List.length_map,bO,cond_false]) N (by unfold fL at hN; omega)
end
theorem SR {l:List dv} (h:dA l=0) (ho:T9 l) {r:bX} (hr:r∈tF l):nE r:=by
 unfold tF at hr
 obtain ⟨j,hj,rfl⟩:=List.mem_map.1 hr
 rw [List.mem_range] at hj
 obtain ⟨cD,-⟩:=ho j hj
 obtain ⟨h1,h2,h3⟩:=gL h
 obtain ⟨-,fs⟩:=tD (bW l (cZ l+j))
 obtain ⟨f1,f2,f3,f4⟩:=fs cD
 have NK:∀ x∈bW l (cZ l+j),-100000≤x∧x+1≤100000∧-100000≤cZ l+j∧cZ l+j+1≤100000:=fun x hx=>by
  obtain ⟨b,hb,rfl⟩:=List.mem_map.1 hx
  obtain ⟨IF,AX⟩:=List.mem_filter.1 hb
  obtain ⟨c1,c2,c3⟩:=oB (h2 b IF)
  have k1:=fm c1
  have k2:=fm c3
  unfold qH at k1
  unfold Ap at k2
  simp only at k1 k2
  have w1:wrap .i64 (b.1+b.2.2)=b.1+b.2.2:=gk (by omega)
  have w2:wrap .i64 (b.2.1+1)=b.2.1+1:=gk (by omega)
  rw [w1,w2] at k2
  have:b.2.1=cZ l+j:=by simpa using AX
  unfold jb
  split <;> omega
 have s1:=NK _ f1
 have s3:=NK _ f3
 have s4:=f4 _ f1
 exact ⟨s1.2.2.1,s1.2.2.2,s1.1,by show (kW _).2.1 < (kW _).2.2; omega,by show (kW _).2.2≤100000; omega⟩
end Go.Proofs.YtldcljfjjoidhaaGreatDoor
namespace Go.Proofs.YtldcljfjjoidhaaGreatDoor
open Go Go.Am Go.Sort
open List (map)
open Int (toNat)
open Go.IntKind (wrap)
open Go.Am.aR (fits)
set_option maxRecDepth 100000
def ft (c:dq):Int × Int:=bw c c.2.2.2.2.toNat
def HV (c d:dq):Int:=if ft c=(d.1,d.2.1) then 0 else 1
def JA (a b:Int):Int:=if b < a then b else a
def uX (r s:bX) (p:Int × Int) (w v:Bool):Int:=(if v then p.1 else p.2)+HV (aD r w) (aD s v)
theorem xh (B:List GA):iN (map aj B) (map aj B)=true:=by
 induction B with
 | nil=>rfl
 | cons x B ih=>
  have e:eH (aj x) (aj x)=true:=by
   obtain ⟨x1,x2,x3,x4,x5,x6,x7,x8,x9,T2⟩:=x
   show eH (AV.agg [AV.int .i64 x1,AV.int .i64 x2,AV.bool x3,AV.bool x4,AV.int .i64 x5,AV.int .i64 x6,AV.int .i64 x7,AV.bool x8,AV.bool x9,AV.int .i64 T2]) (AV.agg [AV.int .i64 x1,AV.int .i64 x2,AV.bool x3,AV.bool x4,AV.int .i64 x5,AV.int .i64 x6,AV.int .i64 x7,AV.bool x8,AV.bool x9,AV.int .i64 T2])=true
   simp [eH,iN,GF]
  rw [List.map_cons,iN,e,ih]
  rfl
theorem vV (s:List XA) (i:Nat) (a b:Int):aF (map aq s) i (AV.agg [AV.int .i64 a,AV.int .i64 b])=map aq (s.set i (a,b)):=by
 rw [gR,List.map_set]
 rfl
theorem mO {l:List GA} {k:Nat} {x:GA} (h:l[k]?=some x):aI (ah (map aj l) k)=x∧fits cA (ah (map aj l) k)=true:=by
 obtain ⟨hk,rfl⟩:=List.getElem?_eq_some_iff.1 h
 exact abh l hk
theorem tK {l:List XA} {k:Nat} {x:Int × Int} (h:l[k]?=some x):dZ (ah (map aq l) k)=x∧fits lX (ah (map aq l) k)=true:=by
 obtain ⟨hk,rfl⟩:=List.getElem?_eq_some_iff.1 h
 exact aft l hk
theorem EA (q:Int × Int) (a b:Int):((q.1 == a)&&(q.2 == b))=decide (q=(a,b)):=by
 rw [Bool.eq_iff_iff]; simp [Prod.ext_iff]
section
variable {N:Nat} (hN:fL N)
include hN
theorem NL (B:List GA) (H0 bh:List XA) (i:Nat) (r s:bX) (P P0:Int × Int) (hB:B.length=bh.length) (hi:i+1 < bh.length) (hl:bh.length≤1000) (hr:nE r∧r.2.2 - r.2.1≤512)
  (eA:B[i]?=some (bD r)) (eS:B[i+1]?=some (bD s)) (e0:bh[i]?=some P0) (eP:bh[i+1]?=some P) (hp:0≤P.1∧P.1≤1000∧0≤P.2∧P.2≤1000) :
  cU N ((i:Int),B,H0,()) (0,B,bh,())=some (.inl (1,B,bh.set i (JA (uX r s P true true) (uX r s P true false),P0.2),())):=by
 obtain ⟨a1,a2⟩:=mO eA
 obtain ⟨b1,b2⟩:=mO eS
 obtain ⟨c1,c2⟩:=tK e0
 obtain ⟨d1,kw⟩:=tK eP
 have q0:sj N ((bD r).1,(bD r).2.1,(bD r).2.2.1,(bD r).2.2.2.1,(bD r).2.2.2.2.1)=some (ft (aD r true)):=tA hN _ (qK hr.1 hr.2 true)
 have s9:=xh B
 have wi:wrap .i64 ((i:Int)+1)=((i+1:Nat):Int):=bE (by omega)
 have i1:decide ((0:Int)≤(i:Int)∧(i:Int) < (bh.length:Int))=true:=decide_eq_true (by omega)
 have i2:decide ((0:Int)≤(i:Int)∧(i:Int) < (B.length:Int))=true:=decide_eq_true (by omega)
 have i3:decide ((0:Int)≤((i+1:Nat):Int)∧((i+1:Nat):Int) < (B.length:Int))=true:=decide_eq_true (by omega)
 have i4:decide ((0:Int)≤((i+1:Nat):Int)∧((i+1:Nat):Int) < (bh.length:Int))=true:=decide_eq_true (by omega)
 have i5:decide (i+1 < bh.length)=true:=decide_eq_true (by omega)
 have i6:decide (i < bh.length)=true:=decide_eq_true (by omega)
 have l0:decide ((0:Int) < 2)=true:=rfl
 have z0:decide ((0:Int)=0)=true:=rfl
 have SS:wrap .i64 (0+1)=1:=rfl
 have u0:wrap .i64 (P.1+1)=P.1+1:=gk (by omega)
 have u1:wrap .i64 (P.2+1)=P.2+1:=gk (by omega)
 have es:∀ a b:Int,(bh.set i (a,b)).length=bh.length:=fun _ _=>List.length_set ..
 have k1:(((ft (aD r true)).1 == (bD s).1)&&((ft (aD r true)).2 == (bD s).2.1))=decide (ft (aD r true)=((aD s true).1,(aD s true).2.1)):=EA _ _ _
 have k2:(((ft (aD r true)).1 == (bD s).2.2.2.2.2.1)&&((ft (aD r true)).2 == (bD s).2.2.2.2.2.2.1))=decide (ft (aD r true)=((aD s false).1,(aD s false).2.1)):=EA _ _ _
 unfold uX HV JA
 by_cases D1:ft (aD r true)=((aD s true).1,(aD s true).2.1)
 ·by_cases D2:ft (aD r true)=((aD s false).1,(aD s false).2.1)
  ·rw [decide_eq_true D1] at k1
   rw [decide_eq_true D2] at k2
   simp only [cU,cY,dK,dL,dM,dN,List.length_map,Int.toNat_natCast,Nat.zero_add,a1,a2,b1,b2,c1,c2,d1,kw,wi,i1,i2,i3,i4,i5,i6,l0,z0,q0,k1,k2,s9,Bool.and_self,Bool.and_true,cond_true,cond_false,Option.bind_some,beq_self_eq_true,decide_true,Nat.beq_refl,gn,gq,lY,lZ,vV,es,SS,u0,u1,if_pos D1,if_pos D2,if_true,if_false,Bool.false_eq_true,Int.add_zero]
  ·rw [decide_eq_true D1] at k1
   rw [decide_eq_false D2] at k2
   simp only [cU,cY,dK,dL,dM,dN,List.length_map,Int.toNat_natCast,Nat.zero_add,a1,a2,b1,b2,c1,c2,d1,kw,wi,i1,i2,i3,i4,i5,i6,l0,z0,q0,k1,k2,s9,Bool.and_self,Bool.and_true,cond_true,cond_false,Option.bind_some,beq_self_eq_true,decide_true,Nat.beq_refl,gn,gq,lY,lZ,vV,es,SS,u0,u1,if_pos D1,if_neg D2,if_true,if_false,Bool.false_eq_true,Int.add_zero]
 ·by_cases D2:ft (aD r true)=((aD s false).1,(aD s false).2.1)
  ·rw [decide_eq_false D1] at k1
   rw [decide_eq_true D2] at k2
   simp only [cU,cY,dK,dL,dM,dN,List.length_map,Int.toNat_natCast,Nat.zero_add,a1,a2,b1,b2,c1,c2,d1,kw,wi,i1,i2,i3,i4,i5,i6,l0,z0,q0,k1,k2,s9,Bool.and_self,Bool.and_true,cond_true,cond_false,Option.bind_some,beq_self_eq_true,decide_true,Nat.beq_refl,gn,gq,lY,lZ,vV,es,SS,u0,u1,if_neg D1,if_pos D2,if_true,if_false,Bool.false_eq_true,Int.add_zero]
  ·rw [decide_eq_false D1] at k1
   rw [decide_eq_false D2] at k2
   simp only [cU,cY,dK,dL,dM,dN,List.length_map,Int.toNat_natCast,Nat.zero_add,a1,a2,b1,b2,c1,c2,d1,kw,wi,i1,i2,i3,i4,i5,i6,l0,z0,q0,k1,k2,s9,Bool.and_self,Bool.and_true,cond_true,cond_false,Option.bind_some,beq_self_eq_true,decide_true,Nat.beq_refl,gn,gq,lY,lZ,vV,es,SS,u0,u1,if_neg D1,if_neg D2,if_true,if_false,Bool.false_eq_true,Int.add_zero]
theorem NM (B:List GA) (H0 bh:List XA) (i:Nat) (r s:bX) (P P0:Int × Int) (hB:B.length=bh.length) (hi:i+1 < bh.length) (hl:bh.length≤1000) (hr:nE r∧r.2.2 - r.2.1≤512)
  (eA:B[i]?=some (bD r)) (eS:B[i+1]?=some (bD s)) (e0:bh[i]?=some P0) (eP:bh[i+1]?=some P) (hp:0≤P.1∧P.1≤1000∧0≤P.2∧P.2≤1000) :
  cU N ((i:Int),B,H0,()) (1,B,bh,())=some (.inl (2,B,bh.set i (P0.1,JA (uX r s P false true) (uX r s P false false)),())):=by
 obtain ⟨a1,a2⟩:=mO eA
 obtain ⟨b1,b2⟩:=mO eS
 obtain ⟨c1,c2⟩:=tK e0
 obtain ⟨d1,kw⟩:=tK eP
 have q0:sj N ((bD r).2.2.2.2.2.1,(bD r).2.2.2.2.2.2.1,(bD r).2.2.2.2.2.2.2.1,(bD r).2.2.2.2.2.2.2.2.1,(bD r).2.2.2.2.2.2.2.2.2)=some (ft (aD r false)):=tA hN _ (qK hr.1 hr.2 false)
 have s9:=xh B
 have wi:wrap .i64 ((i:Int)+1)=((i+1:Nat):Int):=bE (by omega)
 have i1:decide ((0:Int)≤(i:Int)∧(i:Int) < (bh.length:Int))=true:=decide_eq_true (by omega)
 have i2:decide ((0:Int)≤(i:Int)∧(i:Int) < (B.length:Int))=true:=decide_eq_true (by omega)
 have i3:decide ((0:Int)≤((i+1:Nat):Int)∧((i+1:Nat):Int) < (B.length:Int))=true:=decide_eq_true (by omega)
 have i4:decide ((0:Int)≤((i+1:Nat):Int)∧((i+1:Nat):Int) < (bh.length:Int))=true:=decide_eq_true (by omega)
 have i5:decide (i+1 < bh.length)=true:=decide_eq_true (by omega)
 have i6:decide (i < bh.length)=true:=decide_eq_true (by omega)
 have l0:decide ((1:Int) < 2)=true:=rfl
 have z0:decide ((1:Int)=0)=false:=rfl
 have z1:decide ((1:Int)=1)=true:=rfl
 have SS:wrap .i64 (1+1)=2:=rfl
 have u0:wrap .i64 (P.1+1)=P.1+1:=gk (by omega)
 have u1:wrap .i64 (P.2+1)=P.2+1:=gk (by omega)
 have es:∀ a b:Int,(bh.set i (a,b)).length=bh.length:=fun _ _=>List.length_set ..
 have k1:(((ft (aD r false)).1 == (bD s).1)&&((ft (aD r false)).2 == (bD s).2.1))=decide (ft (aD r false)=((aD s true).1,(aD s true).2.1)):=EA _ _ _
 have k2:(((ft (aD r false)).1 == (bD s).2.2.2.2.2.1)&&((ft (aD r false)).2 == (bD s).2.2.2.2.2.2.1))=decide (ft (aD r false)=((aD s false).1,(aD s false).2.1)):=EA _ _ _
 unfold uX HV JA
 by_cases D1:ft (aD r false)=((aD s true).1,(aD s true).2.1)
 ·by_cases D2:ft (aD r false)=((aD s false).1,(aD s false).2.1)
  ·rw [decide_eq_true D1] at k1
   rw [decide_eq_true D2] at k2
   simp only [cU,cY,dK,dL,dM,dN,List.length_map,Int.toNat_natCast,Nat.zero_add,a1,a2,b1,b2,c1,c2,d1,kw,wi,i1,i2,i3,i4,i5,i6,l0,z0,z1,q0,k1,k2,s9,Bool.and_self,Bool.and_true,cond_true,cond_false,Option.bind_some,beq_self_eq_true,decide_true,Nat.beq_refl,gn,gq,lY,lZ,vV,es,SS,u0,u1,if_pos D1,if_pos D2,if_true,if_false,Bool.false_eq_true,Int.add_zero]
  ·rw [decide_eq_true D1] at k1
   rw [decide_eq_false D2] at k2
   simp only [cU,cY,dK,dL,dM,dN,List.length_map,Int.toNat_natCast,Nat.zero_add,a1,a2,b1,b2,c1,c2,d1,kw,wi,i1,i2,i3,i4,i5,i6,l0,z0,z1,q0,k1,k2,s9,Bool.and_self,Bool.and_true,cond_true,cond_false,Option.bind_some,beq_self_eq_true,decide_true,Nat.beq_refl,gn,gq,lY,lZ,vV,es,SS,u0,u1,if_pos D1,if_neg D2,if_true,if_false,Bool.false_eq_true,Int.add_zero]
 ·by_cases D2:ft (aD r false)=((aD s false).1,(aD s false).2.1)
  ·rw [decide_eq_false D1] at k1
   rw [decide_eq_true D2] at k2
   simp only [cU,cY,dK,dL,dM,dN,List.length_map,Int.toNat_natCast,Nat.zero_add,a1,a2,b1,b2,c1,c2,d1,kw,wi,i1,i2,i3,i4,i5,i6,l0,z0,z1,q0,k1,k2,s9,Bool.and_self,Bool.and_true,cond_true,cond_false,Option.bind_some,beq_self_eq_true,decide_true,Nat.beq_refl,gn,gq,lY,lZ,vV,es,SS,u0,u1,if_neg D1,if_pos D2,if_true,if_false,Bool.false_eq_true,Int.add_zero]
  ·rw [decide_eq_false D1] at k1
   rw [decide_eq_false D2] at k2
   simp only [cU,cY,dK,dL,dM,dN,List.length_map,Int.toNat_natCast,Nat.zero_add,a1,a2,b1,b2,c1,c2,d1,kw,wi,i1,i2,i3,i4,i5,i6,l0,z0,z1,q0,k1,k2,s9,Bool.and_self,Bool.and_true,cond_true,cond_false,Option.bind_some,beq_self_eq_true,decide_true,Nat.beq_refl,gn,gq,lY,lZ,vV,es,SS,u0,u1,if_neg D1,if_neg D2,if_true,if_false,Bool.false_eq_true,Int.add_zero]
theorem NN (B:List GA) (bh:List XA) (x:Int × List GA × List XA × Unit):cU N x (2,B,bh,())=some (.inr (B,bh,())):=by
 have l0:decide ((2:Int) < 2)=false:=rfl
 simp only [cU,cY,dK,dL,dM,dN,l0,cond_false,gn,gq,lY,lZ,Nat.beq_refl,Bool.and_self,Bool.and_true,cond_true,Option.bind_some,decide_true]
theorem NO (B:List GA) (bh:List XA) (i:Nat) (r s:bX) (P:Int × Int) (hB:B.length=bh.length) (hi:i+1 < bh.length) (hl:bh.length≤1000) (hr:nE r∧r.2.2 - r.2.1≤512)
  (eA:B[i]?=some (bD r)) (eS:B[i+1]?=some (bD s)) (eP:bh[i+1]?=some P) (hp:0≤P.1∧P.1≤1000∧0≤P.2∧P.2≤1000) :
  aL (cU N ((i:Int),B,bh,())) N (0,B,bh,())=some (B,bh.set i (JA (uX r s P true true) (uX r s P true false),JA (uX r s P false true) (uX r s P false false)),()):=by
 have e0:bh[i]?=some (bh[i]'(by omega)):=List.getElem?_eq_getElem _
 generalize (bh[i]'(by omega))=P0 at e0
 have f0:=NL hN B bh bh i r s P P0 hB hi hl hr eA eS e0 eP hp
 generalize JA (uX r s P true true) (uX r s P true false)=v at f0 ⊢
 have ls:(bh.set i (v,P0.2)).length=bh.length:=List.length_set ..
 have f1:=NM hN B bh (bh.set i (v,P0.2)) i r s P (v,P0.2) (by omega) (by omega) (by omega) hr eA eS (by rw [List.getElem?_set_self (by omega)]) (by rw [List.getElem?_set_ne (by omega)]; exact eP) hp
 rw [List.set_set] at f1
 generalize JA (uX r s P false true) (uX r s P false false)=v' at f1 ⊢
 have f2:=NN hN B (bh.set i (v,v')) ((i:Int),B,bh,())
 obtain ⟨k,hk⟩:∃ k,N=k+3:=⟨N - 3,by unfold fL at hN; omega⟩
 have key:∀ m,m=k+3→aL (cU N ((i:Int),B,bh,())) m (0,B,bh,())=some (B,bh.set i (v,v'),()):=by
  rintro m rfl
  rw [bB,f0,Option.bind_some,Sum.elim_inl,bB,f1,Option.bind_some,Sum.elim_inl,bB,f2]
  rfl
 exact key N hk
end
def dS:List bX→Bool→Int
 | [],_=>0
 | r :: t,w=>match t with
  | []=>0
  | s :: _=>JA (uX r s (dS t true,dS t false) w true) (uX r s (dS t true,dS t false) w false)
theorem NP (c d:dq):0≤HV c d∧HV c d≤1:=by unfold HV; split <;> omega
theorem uY:∀ (l:List bX) (w:Bool),0≤dS l w∧dS l w≤l.length
 | [],_=>⟨Int.le_refl _,Int.le_refl _⟩
 | [_],_=>⟨Int.le_refl _,by show (0:Int)≤1; omega⟩
 | r :: s :: t,w=>by
  have h1:=uY (s :: t) true
  have h2:=uY (s :: t) false
  have s1:=NP (aD r w) (aD s true)
  have s2:=NP (aD r w) (aD s false)
  rw [dS]
  unfold JA uX
  rw [List.length_cons]
  simp only [if_true,Bool.false_eq_true,if_false]
  split <;> omega
def jr (l:List bX):Int × Int:=(dS l true,dS l false)
theorem NQ (rows:List bX) {i:Nat} (hi:i+1 < rows.length):jr (rows.drop i)=(JA (uX (rows[i]'(by omega)) rows[i+1] (jr (rows.drop (i+1))) true true) (uX (rows[i]'(by omega)) rows[i+1] (jr (rows.drop (i+1))) true false),JA (uX (rows[i]'(by omega)) rows[i+1] (jr (rows.drop (i+1))) false true) (uX (rows[i]'(by omega)) rows[i+1] (jr (rows.drop (i+1))) false false)):=by
 rw [List.drop_eq_getElem_cons (i:=i) (by omega),List.drop_eq_getElem_cons hi]
 unfold jr
 rw [dS,dS]
def jw (rows:List bX) (m:Nat):List XA:=(List.range rows.length).map fun j=>if m≤j then jr (rows.drop j) else (0,0)
theorem cr (rows:List bX) (m:Nat):(jw rows m).length=rows.length:=by simp [jw]
theorem xi (rows:List bX) (m:Nat) {j:Nat} (hj:j < rows.length) (hm:m≤j):(jw rows m)[j]?=some (jr (rows.drop j)):=by
 unfold jw
 rw [List.getElem?_map,List.getElem?_range hj,Option.map_some,if_pos hm]
theorem zO (rows:List bX) (m j:Nat) (h:j < (jw rows m).length):(jw rows m)[j]=if m≤j then jr (rows.drop j) else (0,0):=by
 simp [jw]
theorem NR (rows:List bX) {i:Nat} (hi:i < rows.length):(jw rows (i+1)).set i (jr (rows.drop i))=jw rows i:=by
 refine List.ext_getElem (by rw [List.length_set,cr,cr]) fun j h1 h2=>?_
 rw [List.getElem_set,zO,zO]
 by_cases e:i=j
 ·subst e
  rw [if_pos rfl,if_pos (Nat.le_refl _)]
 ·rw [if_neg e]
  by_cases h:i≤j
  ·rw [if_pos h,if_pos (by omega)]
  ·rw [if_neg h,if_neg (by omega)]
theorem GB (rows:List bX) (h:0 < rows.length):jw rows (rows.length - 1)=List.replicate rows.length (0,0):=by
 refine List.ext_getElem (by rw [cr,List.length_replicate]) fun j h1 h2=>?_
 rw [List.getElem_replicate,zO]
 split
 ·have hj:j=rows.length - 1:=by rw [cr] at h1; omega
  subst hj
  rw [List.drop_eq_getElem_cons (by omega),List.drop_eq_nil_of_le (by omega)]
  rfl
 ·rfl
section
variable {N:Nat} (hN:fL N)
include hN
theorem GC (rows:List bX) (hr:∀ r∈rows,nE r∧r.2.2 - r.2.1≤512) (hl:rows.length≤1000) (h0:0 < rows.length) :
  aL (qe N) N ((rows.length:Int) - 2,rows.map bD,List.replicate rows.length (0,0),())=some (rows.map bD,jw rows 0,()):=by
 have key:=cW (rd:=qe N) (rows.length - 1) (fun t=>((rows.length:Int) - 2 - (t:Int),rows.map bD,jw rows (rows.length - 1 - t),())) (rows.map bD,jw rows 0,()) (fun t ht=>by
  obtain ⟨i,hi⟩:∃ i,i+1+t=rows.length - 1:=⟨rows.length - 2 - t,by omega⟩
  have e1:rows.length - 1 - t=i+1:=by omega
  have e2:rows.length - 1 - (t+1)=i:=by omega
  have e3:(rows.length:Int) - 2 - (t:Int)=(i:Int):=by omega
  have e4:(rows.length:Int) - 2 - ((t+1:Nat):Int)=(i:Int) - 1:=by omega
  have hm:(rows.map bD).length=rows.length:=List.length_map _
  have b1:=uY (rows.drop (i+1)) true
  have b2:=uY (rows.drop (i+1)) false
  have hd:(rows.drop (i+1)).length≤1000:=by rw [List.length_drop]; omega
  have q:=NO hN (rows.map bD) (jw rows (i+1)) i (rows[i]'(by omega)) (rows[i+1]'(by omega)) (jr (rows.drop (i+1))) (by rw [cr]; exact hm) (by rw [cr]; omega) (by rw [cr]; exact hl) (hr _ (List.getElem_mem _))
   (by rw [List.getElem?_map,List.getElem?_eq_getElem (by omega)]; rfl) (by rw [List.getElem?_map,List.getElem?_eq_getElem (by omega)]; rfl) (xi rows _ (by omega) (Nat.le_refl _)) (by unfold jr; simp only; omega)
  rw [← NQ rows (by omega),NR rows (by omega)] at q
  simp only [e1,e2,e3,e4]
  have g0:decide ((i:Int)≥0)=true:=decide_eq_true (by omega)
  have w1:wrap .i64 ((i:Int) - 1)=(i:Int) - 1:=gk (by omega)
  simp only [qe,g0,gn,gq,lY,lZ,Nat.beq_refl,Bool.and_self,Bool.and_true,cond_true,Option.bind_some,decide_true,q,w1]) (by
  have e3:(rows.length:Int) - 2 - ((rows.length - 1:Nat):Int)=-1:=by omega
  have g0:decide ((-1:Int)≥0)=false:=rfl
  simp only [e3,Nat.sub_self]
  simp only [qe,g0,gn,gq,lY,lZ,Nat.beq_refl,Bool.and_self,Bool.and_true,cond_true,cond_false,Option.bind_some,decide_true]) N 0 (Nat.zero_le _) (by unfold fL at hN; omega)
 simp only [Nat.sub_zero,Int.natCast_zero,Int.sub_zero,GB rows h0] at key
 exact key
end
end Go.Proofs.YtldcljfjjoidhaaGreatDoor
namespace Go.Proofs.YtldcljfjjoidhaaGreatDoor
open Go Go.Am Go.Sort
open List (map)
open Int (toNat)
open Go.IntKind (wrap)
open Go.Am.aR (fits)
set_option maxRecDepth 100000
def On (r s:bX) (P:Int × Int) (w:Bool):Bool:=decide (uX r s P w true≤uX r s P w false)
def zP (w:Bool):Int:=if w then 0 else 1
section
variable {N:Nat} (hN:fL N)
include hN
theorem NS (y:List bX × Int) (B:List GA) (st:List dq) (bh:List XA) (i:Nat) (r s:bX) (P P0:Int × Int) (hB:B.length=bh.length) (hy:y.1.length=bh.length) (hi:i+1 < bh.length) (hl:bh.length≤1000) (hs:st.length=i) (hr:nE r∧r.2.2 - r.2.1≤512)
  (eA:B[i]?=some (bD r)) (eS:B[i+1]?=some (bD s)) (e0:bh[i]?=some P0) (eP:bh[i+1]?=some P) (hp:0≤P.1∧P.1≤1000∧0≤P.2∧P.2≤1000) :
  cK N y (0,st,(i:Int),B,bh,())=some (.inl (zP (On r s P true),st++[aD r true],((i+1:Nat):Int),B,bh,())):=by
 obtain ⟨a1,a2⟩:=mO eA
 obtain ⟨b1,b2⟩:=mO eS
 obtain ⟨c1,c2⟩:=tK e0
 obtain ⟨d1,kw⟩:=tK eP
 have q0:sj N ((bD r).1,(bD r).2.1,(bD r).2.2.1,(bD r).2.2.2.1,(bD r).2.2.2.2.1)=some (ft (aD r true)):=tA hN _ (qK hr.1 hr.2 true)
 have s9:=xh B
 have wi:wrap .i64 ((i:Int)+1)=((i+1:Nat):Int):=bE (by omega)
 have i0:decide ((i:Int) < (y.1.length:Int))=true:=decide_eq_true (by omega)
 have i1:decide ((0:Int)≤(i:Int)∧(i:Int) < (bh.length:Int))=true:=decide_eq_true (by omega)
 have i2:decide ((0:Int)≤(i:Int)∧(i:Int) < (B.length:Int))=true:=decide_eq_true (by omega)
 have i3:decide ((0:Int)≤((i+1:Nat):Int)∧((i+1:Nat):Int) < (B.length:Int))=true:=decide_eq_true (by omega)
 have i4:decide ((0:Int)≤((i+1:Nat):Int)∧((i+1:Nat):Int) < (bh.length:Int))=true:=decide_eq_true (by omega)
 have i5:decide (i+1 < bh.length)=true:=decide_eq_true (by omega)
 have i7:((((i+1:Nat):Int)) == (y.1.length:Int))=false:=beq_false_of_ne (by omega)
 have hb:decide ((i+1) * 32≤140737488355328)=true:=decide_eq_true (by omega)
 have sn:map aU st++[AV.agg [AV.int .i64 (bD r).1,AV.int .i64 (bD r).2.1,AV.bool (bD r).2.2.1,AV.bool (bD r).2.2.2.1,AV.int .i64 (bD r).2.2.2.2.1]]=map aU (st++[aD r true]):=by rw [List.map_append]; rfl
 have ls:(st++[aD r true]).length=i+1:=by rw [List.length_append,hs]; rfl
 have z0:decide ((0:Int)=0)=true:=rfl
 have u0:wrap .i64 (P.1+1)=P.1+1:=gk (by omega)
 have u1:wrap .i64 (P.2+1)=P.2+1:=gk (by omega)
 have k1:(((ft (aD r true)).1 == (bD s).1)&&((ft (aD r true)).2 == (bD s).2.1))=decide (ft (aD r true)=((aD s true).1,(aD s true).2.1)):=EA _ _ _
 have k2:(((ft (aD r true)).1 == (bD s).2.2.2.2.2.1)&&((ft (aD r true)).2 == (bD s).2.2.2.2.2.2.1))=decide (ft (aD r true)=((aD s false).1,(aD s false).2.1)):=EA _ _ _
 unfold On uX HV zP
 by_cases D1:ft (aD r true)=((aD s true).1,(aD s true).2.1)
 ·by_cases D2:ft (aD r true)=((aD s false).1,(aD s false).2.1)
  ·rw [decide_eq_true D1] at k1
   rw [decide_eq_true D2] at k2
   simp only [if_pos D1,if_pos D2,if_true,if_false,Bool.false_eq_true,Int.add_zero]
   cases hle:decide (P.1≤P.2) <;> simp only [cK,ee,eh,eu,eC,cF,de,cG,cV,eB,ej,List.length_map,Int.toNat_natCast,Nat.zero_add,a1,a2,b1,b2,c1,c2,d1,kw,wi,i0,i1,i2,i3,i4,i5,i7,hs,hb,sn,ls,z0,q0,k1,k2,s9,hle,Bool.and_self,Bool.and_true,cond_true,cond_false,Option.bind_some,beq_self_eq_true,decide_true,Nat.beq_refl,gn,gq,lY,lZ,qU,qV,List.length_append,List.length_singleton,u0,u1,if_true,if_false,Bool.false_eq_true,Sum.elim_inl]
  ·rw [decide_eq_true D1] at k1
   rw [decide_eq_false D2] at k2
   simp only [if_pos D1,if_neg D2,if_true,if_false,Bool.false_eq_true,Int.add_zero]
   cases hle:decide (P.1≤P.2+1) <;> simp only [cK,ee,eh,eu,eC,cF,de,cG,cV,eB,ej,List.length_map,Int.toNat_natCast,Nat.zero_add,a1,a2,b1,b2,c1,c2,d1,kw,wi,i0,i1,i2,i3,i4,i5,i7,hs,hb,sn,ls,z0,q0,k1,k2,s9,hle,Bool.and_self,Bool.and_true,cond_true,cond_false,Option.bind_some,beq_self_eq_true,decide_true,Nat.beq_refl,gn,gq,lY,lZ,qU,qV,List.length_append,List.length_singleton,u0,u1,if_true,if_false,Bool.false_eq_true,Sum.elim_inl]
 ·by_cases D2:ft (aD r true)=((aD s false).1,(aD s false).2.1)
  ·rw [decide_eq_false D1] at k1
   rw [decide_eq_true D2] at k2
   simp only [if_neg D1,if_pos D2,if_true,if_false,Bool.false_eq_true,Int.add_zero]
   cases hle:decide (P.1+1≤P.2) <;> simp only [cK,ee,eh,eu,eC,cF,de,cG,cV,eB,ej,List.length_map,Int.toNat_natCast,Nat.zero_add,a1,a2,b1,b2,c1,c2,d1,kw,wi,i0,i1,i2,i3,i4,i5,i7,hs,hb,sn,ls,z0,q0,k1,k2,s9,hle,Bool.and_self,Bool.and_true,cond_true,cond_false,Option.bind_some,beq_self_eq_true,decide_true,Nat.beq_refl,gn,gq,lY,lZ,qU,qV,List.length_append,List.length_singleton,u0,u1,if_true,if_false,Bool.false_eq_true,Sum.elim_inl]
  ·rw [decide_eq_false D1] at k1
   rw [decide_eq_false D2] at k2
   simp only [if_neg D1,if_neg D2,if_true,if_false,Bool.false_eq_true,Int.add_zero]
   cases hle:decide (P.1+1≤P.2+1) <;> simp only [cK,ee,eh,eu,eC,cF,de,cG,cV,eB,ej,List.length_map,Int.toNat_natCast,Nat.zero_add,a1,a2,b1,b2,c1,c2,d1,kw,wi,i0,i1,i2,i3,i4,i5,i7,hs,hb,sn,ls,z0,q0,k1,k2,s9,hle,Bool.and_self,Bool.and_true,cond_true,cond_false,Option.bind_some,beq_self_eq_true,decide_true,Nat.beq_refl,gn,gq,lY,lZ,qU,qV,List.length_append,List.length_singleton,u0,u1,if_true,if_false,Bool.false_eq_true,Sum.elim_inl]
theorem NT (y:List bX × Int) (B:List GA) (st:List dq) (bh:List XA) (i:Nat) (r:bX) (hB:B.length=bh.length) (hy:y.1.length=bh.length) (hi:i+1=bh.length) (hl:bh.length≤1000) (hs:st.length=i)
  (eA:B[i]?=some (bD r)) :
  cK N y (0,st,(i:Int),B,bh,())=some (.inr (st++[aD r true],B,bh,())):=by
 obtain ⟨a1,a2⟩:=mO eA
 have wi:wrap .i64 ((i:Int)+1)=((i+1:Nat):Int):=bE (by omega)
 have i0:decide ((i:Int) < (y.1.length:Int))=true:=decide_eq_true (by omega)
 have i2:decide ((0:Int)≤(i:Int)∧(i:Int) < (B.length:Int))=true:=decide_eq_true (by omega)
 have i7:((((i+1:Nat):Int)) == (y.1.length:Int))=true:=beq_iff_eq.2 (by omega)
 have hb:decide ((i+1) * 32≤140737488355328)=true:=decide_eq_true (by omega)
 have sn:map aU st++[AV.agg [AV.int .i64 (bD r).1,AV.int .i64 (bD r).2.1,AV.bool (bD r).2.2.1,AV.bool (bD r).2.2.2.1,AV.int .i64 (bD r).2.2.2.2.1]]=map aU (st++[aD r true]):=by rw [List.map_append]; rfl
 have ls:(st++[aD r true]).length=i+1:=by rw [List.length_append,hs]; rfl
 have z0:decide ((0:Int)=0)=true:=rfl
 simp only [cK,ee,eh,eu,eC,cF,de,cG,cV,eB,ej,List.length_map,Int.toNat_natCast,Nat.zero_add,a1,a2,wi,i0,i2,i7,hs,hb,sn,ls,z0,Bool.and_self,Bool.and_true,cond_true,cond_false,Option.bind_some,beq_self_eq_true,decide_true,Nat.beq_refl,gn,gq,lY,lZ,qU,qV,List.length_append,List.length_singleton,Sum.elim_inr]
theorem NU (y:List bX × Int) (B:List GA) (st:List dq) (bh:List XA) (i:Nat) (r s:bX) (P P0:Int × Int) (hB:B.length=bh.length) (hy:y.1.length=bh.length) (hi:i+1 < bh.length) (hl:bh.length≤1000) (hs:st.length=i) (hr:nE r∧r.2.2 - r.2.1≤512)
  (eA:B[i]?=some (bD r)) (eS:B[i+1]?=some (bD s)) (e0:bh[i]?=some P0) (eP:bh[i+1]?=some P) (hp:0≤P.1∧P.1≤1000∧0≤P.2∧P.2≤1000) :
  cK N y (1,st,(i:Int),B,bh,())=some (.inl (zP (On r s P false),st++[aD r false],((i+1:Nat):Int),B,bh,())):=by
 obtain ⟨a1,a2⟩:=mO eA
 obtain ⟨b1,b2⟩:=mO eS
 obtain ⟨c1,c2⟩:=tK e0
 obtain ⟨d1,kw⟩:=tK eP
 have q0:sj N ((bD r).2.2.2.2.2.1,(bD r).2.2.2.2.2.2.1,(bD r).2.2.2.2.2.2.2.1,(bD r).2.2.2.2.2.2.2.2.1,(bD r).2.2.2.2.2.2.2.2.2)=some (ft (aD r false)):=tA hN _ (qK hr.1 hr.2 false)
 have s9:=xh B
 have wi:wrap .i64 ((i:Int)+1)=((i+1:Nat):Int):=bE (by omega)
 have i0:decide ((i:Int) < (y.1.length:Int))=true:=decide_eq_true (by omega)
 have i1:decide ((0:Int)≤(i:Int)∧(i:Int) < (bh.length:Int))=true:=decide_eq_true (by omega)
 have i2:decide ((0:Int)≤(i:Int)∧(i:Int) < (B.length:Int))=true:=decide_eq_true (by omega)
 have i3:decide ((0:Int)≤((i+1:Nat):Int)∧((i+1:Nat):Int) < (B.length:Int))=true:=decide_eq_true (by omega)
 have i4:decide ((0:Int)≤((i+1:Nat):Int)∧((i+1:Nat):Int) < (bh.length:Int))=true:=decide_eq_true (by omega)
 have i5:decide (i+1 < bh.length)=true:=decide_eq_true (by omega)
 have i7:((((i+1:Nat):Int)) == (y.1.length:Int))=false:=beq_false_of_ne (by omega)
 have hb:decide ((i+1) * 32≤140737488355328)=true:=decide_eq_true (by omega)
 have sn:map aU st++[AV.agg [AV.int .i64 (bD r).2.2.2.2.2.1,AV.int .i64 (bD r).2.2.2.2.2.2.1,AV.bool (bD r).2.2.2.2.2.2.2.1,AV.bool (bD r).2.2.2.2.2.2.2.2.1,AV.int .i64 (bD r).2.2.2.2.2.2.2.2.2]]=map aU (st++[aD r false]):=by rw [List.map_append]; rfl
 have ls:(st++[aD r false]).length=i+1:=by rw [List.length_append,hs]; rfl
 have z0:decide ((1:Int)=0)=false:=rfl
 have z1:decide ((1:Int)=1)=true:=rfl
 have u0:wrap .i64 (P.1+1)=P.1+1:=gk (by omega)
 have u1:wrap .i64 (P.2+1)=P.2+1:=gk (by omega)
 have k1:(((ft (aD r false)).1 == (bD s).1)&&((ft (aD r false)).2 == (bD s).2.1))=decide (ft (aD r false)=((aD s true).1,(aD s true).2.1)):=EA _ _ _
 have k2:(((ft (aD r false)).1 == (bD s).2.2.2.2.2.1)&&((ft (aD r false)).2 == (bD s).2.2.2.2.2.2.1))=decide (ft (aD r false)=((aD s false).1,(aD s false).2.1)):=EA _ _ _
 unfold On uX HV zP
 by_cases D1:ft (aD r false)=((aD s true).1,(aD s true).2.1)
 ·by_cases D2:ft (aD r false)=((aD s false).1,(aD s false).2.1)
  ·rw [decide_eq_true D1] at k1
   rw [decide_eq_true D2] at k2
   simp only [if_pos D1,if_pos D2,if_true,if_false,Bool.false_eq_true,Int.add_zero]
   cases hle:decide (P.1≤P.2) <;> simp only [cK,ee,eh,eu,eC,cF,de,cG,cV,eB,ej,List.length_map,Int.toNat_natCast,Nat.zero_add,a1,a2,b1,b2,c1,c2,d1,kw,wi,i0,i1,i2,i3,i4,i5,i7,hs,hb,sn,ls,z0,z1,q0,k1,k2,s9,hle,Bool.and_self,Bool.and_true,cond_true,cond_false,Option.bind_some,beq_self_eq_true,decide_true,Nat.beq_refl,gn,gq,lY,lZ,qU,qV,List.length_append,List.length_singleton,u0,u1,if_true,if_false,Bool.false_eq_true,Sum.elim_inl]
  ·rw [decide_eq_true D1] at k1
   rw [decide_eq_false D2] at k2
   simp only [if_pos D1,if_neg D2,if_true,if_false,Bool.false_eq_true,Int.add_zero]
   cases hle:decide (P.1≤P.2+1) <;> simp only [cK,ee,eh,eu,eC,cF,de,cG,cV,eB,ej,List.length_map,Int.toNat_natCast,Nat.zero_add,a1,a2,b1,b2,c1,c2,d1,kw,wi,i0,i1,i2,i3,i4,i5,i7,hs,hb,sn,ls,z0,z1,q0,k1,k2,s9,hle,Bool.and_self,Bool.and_true,cond_true,cond_false,Option.bind_some,beq_self_eq_true,decide_true,Nat.beq_refl,gn,gq,lY,lZ,qU,qV,List.length_append,List.length_singleton,u0,u1,if_true,if_false,Bool.false_eq_true,Sum.elim_inl]
 ·by_cases D2:ft (aD r false)=((aD s false).1,(aD s false).2.1)
  ·rw [decide_eq_false D1] at k1
   rw [decide_eq_true D2] at k2
   simp only [if_neg D1,if_pos D2,if_true,if_false,Bool.false_eq_true,Int.add_zero]
   cases hle:decide (P.1+1≤P.2) <;> simp only [cK,ee,eh,eu,eC,cF,de,cG,cV,eB,ej,List.length_map,Int.toNat_natCast,Nat.zero_add,a1,a2,b1,b2,c1,c2,d1,kw,wi,i0,i1,i2,i3,i4,i5,i7,hs,hb,sn,ls,z0,z1,q0,k1,k2,s9,hle,Bool.and_self,Bool.and_true,cond_true,cond_false,Option.bind_some,beq_self_eq_true,decide_true,Nat.beq_refl,gn,gq,lY,lZ,qU,qV,List.length_append,List.length_singleton,u0,u1,if_true,if_false,Bool.false_eq_true,Sum.elim_inl]
  ·rw [decide_eq_false D1] at k1
   rw [decide_eq_false D2] at k2
   simp only [if_neg D1,if_neg D2,if_true,if_false,Bool.false_eq_true,Int.add_zero]
   cases hle:decide (P.1+1≤P.2+1) <;> simp only [cK,ee,eh,eu,eC,cF,de,cG,cV,eB,ej,List.length_map,Int.toNat_natCast,Nat.zero_add,a1,a2,b1,b2,c1,c2,d1,kw,wi,i0,i1,i2,i3,i4,i5,i7,hs,hb,sn,ls,z0,z1,q0,k1,k2,s9,hle,Bool.and_self,Bool.and_true,cond_true,cond_false,Option.bind_some,beq_self_eq_true,decide_true,Nat.beq_refl,gn,gq,lY,lZ,qU,qV,List.length_append,List.length_singleton,u0,u1,if_true,if_false,Bool.false_eq_true,Sum.elim_inl]
theorem NV (y:List bX × Int) (B:List GA) (st:List dq) (bh:List XA) (i:Nat) (r:bX) (hB:B.length=bh.length) (hy:y.1.length=bh.length) (hi:i+1=bh.length) (hl:bh.length≤1000) (hs:st.length=i)
  (eA:B[i]?=some (bD r)) :
  cK N y (1,st,(i:Int),B,bh,())=some (.inr (st++[aD r false],B,bh,())):=by
 obtain ⟨a1,a2⟩:=mO eA
 have wi:wrap .i64 ((i:Int)+1)=((i+1:Nat):Int):=bE (by omega)
 have i0:decide ((i:Int) < (y.1.length:Int))=true:=decide_eq_true (by omega)
 have i2:decide ((0:Int)≤(i:Int)∧(i:Int) < (B.length:Int))=true:=decide_eq_true (by omega)
 have i7:((((i+1:Nat):Int)) == (y.1.length:Int))=true:=beq_iff_eq.2 (by omega)
 have hb:decide ((i+1) * 32≤140737488355328)=true:=decide_eq_true (by omega)
 have sn:map aU st++[AV.agg [AV.int .i64 (bD r).2.2.2.2.2.1,AV.int .i64 (bD r).2.2.2.2.2.2.1,AV.bool (bD r).2.2.2.2.2.2.2.1,AV.bool (bD r).2.2.2.2.2.2.2.2.1,AV.int .i64 (bD r).2.2.2.2.2.2.2.2.2]]=map aU (st++[aD r false]):=by rw [List.map_append]; rfl
 have ls:(st++[aD r false]).length=i+1:=by rw [List.length_append,hs]; rfl
 have z0:decide ((1:Int)=0)=false:=rfl
 have z1:decide ((1:Int)=1)=true:=rfl
 simp only [cK,ee,eh,eu,eC,cF,de,cG,cV,eB,ej,List.length_map,Int.toNat_natCast,Nat.zero_add,a1,a2,wi,i0,i2,i7,hs,hb,sn,ls,z0,z1,Bool.and_self,Bool.and_true,cond_true,cond_false,Option.bind_some,beq_self_eq_true,decide_true,Nat.beq_refl,gn,gq,lY,lZ,qU,qV,List.length_append,List.length_singleton,Sum.elim_inr]
end
def HW:List bX→Bool→List dq
 | [],_=>[]
 | r :: t,w=>aD r w :: (match t with
  | []=>[]
  | s :: _=>HW t (On r s (jr t) w))
theorem HX:∀ (l:List bX) (w:Bool),(HW l w).length=l.length
 | [],_=>rfl
 | [_],_=>rfl
 | r :: s :: t,w=>by
  rw [HW,List.length_cons,HX (s :: t)]
  rfl
section
variable {N:Nat} (hN:fL N)
include hN
theorem NW (y:List bX × Int) (hr:∀ r∈y.1,nE r∧r.2.2 - r.2.1≤512) (hl:y.1.length≤1000):∀ (t:List bX) (r:bX) (i:Nat) (w:Bool) (st:List dq) (m:Nat),
  y.1.drop i=r :: t→st.length=i→t.length < m→aL (cK N y) m (zP w,st,(i:Int),y.1.map bD,jw y.1 0,())=some (st++HW (r :: t) w,y.1.map bD,jw y.1 0,()):=by
 intro t
 induction t with
 | nil=>
  intro r i w st m hd hs hm
  have hlen:y.1.length=i+1:=by
   have:=congrArg List.length hd
   rw [List.length_drop] at this
   simp only [List.length_singleton] at this
   omega
  have er:y.1[i]?=some r:=by
   have:=congrArg (fun l=>l[0]?) hd
   simpa using this
  have eA:(y.1.map bD)[i]?=some (bD r):=by rw [List.getElem?_map,er]; rfl
  obtain ⟨k,rfl⟩:∃ k,m=k+1:=⟨m - 1,by omega⟩
  rw [bB]
  have q:cK N y (zP w,st,(i:Int),y.1.map bD,jw y.1 0,())=some (.inr (st++[aD r w],y.1.map bD,jw y.1 0,())):=by
   cases w
   ·exact NV hN y _ st _ i r (by rw [List.length_map,cr]) (by rw [cr]) (by rw [cr]; omega) (by rw [cr]; exact hl) hs eA
   ·exact NT hN y _ st _ i r (by rw [List.length_map,cr]) (by rw [cr]) (by rw [cr]; omega) (by rw [cr]; exact hl) hs eA
  rw [q]
  rfl
 | cons s t ih=>
  intro r i w st m hd hs hm
  have hlen:y.1.length=i+(t.length+2):=by
   have:=congrArg List.length hd
   rw [List.length_drop] at this
   simp only [List.length_cons] at this
   omega
  have er:y.1[i]?=some r:=by
   have:=congrArg (fun l=>l[0]?) hd
   simpa using this
  have es:y.1[i+1]?=some s:=by
   have:=congrArg (fun l=>l[1]?) hd
   simpa using this
  have Tg:y.1.drop (i+1)=s :: t:=by
   have:=congrArg List.tail hd
   rw [List.tail_drop] at this
   exact this
  have hrr:=hr r (List.mem_of_getElem? er)
  have eA:(y.1.map bD)[i]?=some (bD r):=by rw [List.getElem?_map,er]; rfl
  have eS:(y.1.map bD)[i+1]?=some (bD s):=by rw [List.getElem?_map,es]; rfl
  have e0:(jw y.1 0)[i]?=some (jr (y.1.drop i)):=xi _ _ (by omega) (Nat.zero_le _)
  have eP:(jw y.1 0)[i+1]?=some (jr (s :: t)):=by rw [← Tg]; exact xi _ _ (by omega) (Nat.zero_le _)
  have b1:=uY (s :: t) true
  have b2:=uY (s :: t) false
  rw [List.length_cons] at b1 b2
  have hp:0≤(jr (s :: t)).1∧(jr (s :: t)).1≤1000∧0≤(jr (s :: t)).2∧(jr (s :: t)).2≤1000:=by unfold jr; simp only; omega
  obtain ⟨k,rfl⟩:∃ k,m=k+1:=⟨m - 1,by omega⟩
  rw [bB]
  have q:cK N y (zP w,st,(i:Int),y.1.map bD,jw y.1 0,())=some (.inl (zP (On r s (jr (s :: t)) w),st++[aD r w],((i+1:Nat):Int),y.1.map bD,jw y.1 0,())):=by
   cases w
   ·exact NU hN y _ st _ i r s _ _ (by rw [List.length_map,cr]) (by rw [cr]) (by rw [cr]; omega) (by rw [cr]; exact hl) hs hrr eA eS e0 eP hp
   ·exact NS hN y _ st _ i r s _ _ (by rw [List.length_map,cr]) (by rw [cr]) (by rw [cr]; omega) (by rw [cr]; exact hl) hs hrr eA eS e0 eP hp
  rw [q,Option.bind_some,Sum.elim_inl,ih s (i+1) _ _ k Tg (by rw [List.length_append,hs]; rfl) (by rw [List.length_cons] at hm; omega)]
  rw [HW,List.append_assoc]
  rfl
end
def aK (l:List dv):List bX × Int:=if dA l=0 then zM l else ([],dA l)
theorem tL (l:List dv):(∀ r∈(aK l).1,nE r)∧(aK l).1.length≤1000000∧((aK l).2=0→0 < (aK l).1.length):=by
 unfold aK
 by_cases h:dA l=0
 ·rw [if_pos h]
  unfold zM
  by_cases h0:l=[]
  ·rw [if_pos h0]; exact ⟨fun r hr=>(by cases hr),by simp,fun h=>by simp at h⟩
  ·rw [if_neg h0]
   have hlp:0 < l.length:=List.length_pos_iff.2 h0
   have bd:=Nx h hlp
   by_cases ho:T9 l
   ·rw [if_pos ho]
    have e:(tF l).length=kz l:=by simp [tF]
    refine ⟨fun r hr=>SR h ho hr,?_,fun _=>?_⟩
    ·show (tF l).length≤1000000
     rw [e]; unfold kz; omega
    ·show 0 < (tF l).length
     rw [e]; unfold kz; omega
   ·rw [if_neg ho]; exact ⟨fun r hr=>(by cases hr),by simp,fun h=>by simp at h⟩
 ·rw [if_neg h]; exact ⟨fun r hr=>(by cases hr),by simp,fun h2=>absurd h2 h⟩
def oR (rows:List bX):Bool:=((List.range rows.length).find? fun k=>zN (rows.getD k (0,0,0))).isSome
theorem SU {rows:List bX} (h:oR rows=false):∀ r∈rows,r.2.2 - r.2.1≤512:=by
 intro r hr
 obtain ⟨k,hk,rfl⟩:=List.getElem_of_mem hr
 unfold oR at h
 rw [Option.isSome_eq_false_iff,Option.isNone_iff_eq_none,List.find?_eq_none] at h
 have:=h k (by simpa using hk)
 have e:rows.getD k (0,0,0)=rows[k]:=by simp [hk]
 rw [e] at this
 unfold zN at this
 simp at this
 omega
def uZ (l:List dv):Int:=aJ [(aK l).2,if (aK l).1.length > 256 then 5 else 0,if oR (aK l).1 then 3 else 0]
def EB (rows:List bX):Bool:=!decide (dS rows false < dS rows true)
theorem HY {l:List dv} (h:uZ l=0):(aK l).2=0∧(aK l).1.length≤256∧∀ r∈(aK l).1,nE r∧r.2.2 - r.2.1≤512:=by
 have h:=fP.1 h
 have h1:=h (aK l).2 (by simp)
 have h2:=h (if (aK l).1.length > 256 then 5 else 0) (by simp)
 have h3:=h (if oR (aK l).1 then 3 else 0) (by simp)
 refine ⟨h1,?_,fun r hr=>⟨(tL l).1 r hr,SU ?_ r hr⟩⟩
 ·by_cases e:(aK l).1.length > 256
  ·rw [if_pos e] at h2; cases h2
  ·omega
 ·cases e:oR (aK l).1 with
  | true=>rw [e] at h3; cases h3
  | false=>rfl
end Go.Proofs.YtldcljfjjoidhaaGreatDoor
namespace Go.Proofs.YtldcljfjjoidhaaGreatDoor
open Go Go.Am Go.Sort
open List (map)
open Int (toNat)
open Go.IntKind (wrap)
open Go.Am.aR (fits)
set_option maxRecDepth 100000
def tM (l:List dv):List dq × Int:=if uZ l=0 then (HW (aK l).1 (EB (aK l).1),0) else ([],uZ l)
section
variable {N:Nat} (hN:fL N)
include hN
theorem JB (l:List dv):T15 N l=some (aK l):=by rw [ND hN]; rfl
theorem NX (l:List dv):T57 N l=some (tM l):=by
 obtain ⟨x1,x2,x3⟩:=tL l
 have z3:∀ x y z:Int,((bif (allFit (fits vO) [(AV.int .i64 x),(AV.int .i64 y),(AV.int .i64 z)]&&true) then some (map ka [(AV.int .i64 x),(AV.int .i64 y),(AV.int .i64 z)]) else none:Option (lW)))=some [x,y,z]:=fun _ _ _=>rfl
 have abi:((aL (jN N (aK l)) N 0).bind fun o8=>Sum.elim (fun o9=>(some o9:Option Int)) (fun _=>some (-1)) o8)=some (match (List.range (aK l).1.length).find? (fun k=>zN ((aK l).1.getD k (0,0,0))) with | some j=>(j:Int) | none=>-1):=by
  rw [NI hN _ x1 x2,Option.bind_some]
  cases (List.range (aK l).1.length).find? (fun k=>zN ((aK l).1.getD k (0,0,0))) <;> rfl
 have KK:decide ((match (List.range (aK l).1.length).find? (fun k=>zN ((aK l).1.getD k (0,0,0))) with | some j=>(j:Int) | none=>-1)≥0)=oR (aK l).1:=by
  unfold oR
  cases (List.range (aK l).1.length).find? (fun k=>zN ((aK l).1.getD k (0,0,0))) with
  | none=>rfl
  | some j=>exact decide_eq_true (by show (0:Int)≤(j:Int); omega)
 have abj:(if decide ((((aK l).1.length:Nat):Int) > 256)=true then (5:Int) else 0)=if (aK l).1.length > 256 then 5 else 0:=by
  by_cases h:(aK l).1.length > 256
  ·rw [if_pos h,decide_eq_true (by omega),if_pos rfl]
  ·rw [if_neg h,decide_eq_false (by omega),if_neg (by simp)]
 have hz:(bif (allFit (fits vO) [(AV.int .i64 (aK l).2),(AV.int .i64 (if (aK l).1.length > 256 then 5 else 0)),(AV.int .i64 (if oR (aK l).1 then 3 else 0))]&&true) then some (map ka [(AV.int .i64 (aK l).2),(AV.int .i64 (if (aK l).1.length > 256 then 5 else 0)),(AV.int .i64 (if oR (aK l).1 then 3 else 0))]) else none:Option (lW))=some [(aK l).2,if (aK l).1.length > 256 then 5 else 0,if oR (aK l).1 then 3 else 0]:=z3 _ _ _
 rw [XH]
 simp only [fy,fj,Bool.and_true,cond_true,Option.bind_some,JB hN,List.length_map]
 rw [abi,Option.bind_some,lH,Option.bind_some,lH,Option.bind_some,KK,abj]
 simp only [Bool.and_true] at hz
 rw [hz,Option.bind_some,nw hN _ (by simp),Option.bind_some,HN]
 unfold tM
 by_cases h:uZ l=0
 ·rw [if_pos h]
  have h':aJ [(aK l).2,if (aK l).1.length > 256 then 5 else 0,if oR (aK l).1 then 3 else 0]=0:=h
  rw [if_pos h']
  obtain ⟨e1,e2,e3⟩:=HY h
  have h0:=x3 e1
  have q1:=SQ hN (aK l) x1 x2
  have q2:=GC hN (aK l).1 e3 (by omega) h0
  obtain ⟨r,t,hrt⟩:∃ r t,(aK l).1=r :: t:=by
   cases hh:(aK l).1 with
   | nil=>rw [hh] at h0; cases h0
   | cons r t=>exact ⟨r,t,rfl⟩
  have q3:=NW hN (aK l) e3 (by omega) t r 0 (EB (aK l).1) [] N hrt rfl (by
   have:=congrArg List.length hrt
   rw [List.length_cons] at this
   unfold fL at hN; omega)
  have z0:((bif (allFit (fits cA) ([]:List AV)) then some ((map aI ([]:List AV)),0) else none:Option (List GA × Int)).bind fun WN=>bif decide (0=WN.1.length) then some WN else none)=some ([],0):=rfl
  have i1:decide ((0:Int)≤((aK l).1.length:Int)∧((aK l).1.length:Int)≤((aK l).1.length:Int)∧((aK l).1.length:Int)≤140737488355328∧((aK l).1.length:Int) * 16≤140737488355328)=true:=decide_eq_true (by omega)
  have AW:List.replicate (aK l).1.length (AV.agg [AV.int .i64 0,AV.int .i64 0])=map aq (List.replicate (aK l).1.length (0,0)):=by rw [List.map_replicate]; rfl
  have w1:wrap .i64 (((aK l).1.length:Int) - 2)=((aK l).1.length:Int) - 2:=gk (by omega)
  have W6:(jw (aK l).1 0)[0]?=some (jr (aK l).1):=xi _ _ h0 (Nat.le_refl _)
  obtain ⟨c1,c2⟩:=tK W6
  have bl:=cr (aK l).1 0
  have i2:decide ((0:Int)≤0∧0 < ((aK l).1.length:Int))=true:=decide_eq_true (by omega)
  have i3:decide (0 < (aK l).1.length)=true:=decide_eq_true h0
  have ml:((aK l).1.map bD).length=(aK l).1.length:=List.length_map _
  simp only [z0,q1,i1,AW,w1,q2,c1,c2,bl,i2,i3,gn,gq,lY,lZ,Int.toNat_natCast,Int.toNat_zero,Nat.add_zero,List.length_map,List.length_replicate,Nat.beq_refl,Bool.and_self,Bool.and_true,cond_true,decide_true,Option.bind_some]
  have hw:(bif decide ((jr (aK l).1).2 < (jr (aK l).1).1) then some ((1:Int),(aK l).1.map bD,jw (aK l).1 0,()) else some (0,(aK l).1.map bD,jw (aK l).1 0,()))=some (zP (EB (aK l).1),(aK l).1.map bD,jw (aK l).1 0,()):=by
   unfold EB jr
   cases decide (dS (aK l).1 false < dS (aK l).1 true) <;> rfl
  have z9:(bif allFit (fits qD) ([]:List AV) then some (zP (EB (aK l).1),map cb ([]:List AV),(0:Int),(aK l).1.map bD,jw (aK l).1 0,()) else none)=some (zP (EB (aK l).1),[],0,(aK l).1.map bD,jw (aK l).1 0,()):=rfl
  simp only [Int.natCast_zero,List.nil_append,← hrt] at q3
  rw [hw,Option.bind_some]
  simp only [z9,Option.bind_some,decide_true,List.length_nil,Bool.and_self,cond_true,q3,qU,qV]
 ·rw [if_neg h]
  have h':¬ aJ [(aK l).2,if (aK l).1.length > 256 then 5 else 0,if oR (aK l).1 then 3 else 0]=0:=h
  rw [if_neg h']
  rfl
end
def NY (b:List dq):Int:=((Cv b b.length).length:Int)
theorem NZ (b:List dq) (d:List dq) {i:Nat} (h:i < b.length):wC (b++d) i=wC b i:=by
 unfold wC
 have e:∀ j,j < b.length→(b++d).getD j (0,0,false,false,0)=b.getD j (0,0,false,false,0):=fun j hj=>by
  rw [List.getD_eq_getElem?_getD,List.getD_eq_getElem?_getD,List.getElem?_append_left hj]
 rw [e i h,e (i - 1) (by omega)]
theorem SX (b d:List dq):Cv (b++d) b.length=Cv b b.length:=by
 unfold Cv
 congr 1
 refine List.filter_congr fun i hi=>?_
 rw [List.mem_range] at hi
 exact NZ b d hi
section
variable {N:Nat} (hN:fL N)
include hN
theorem EC (b:List dq) (c d:dq):NY (b++[c]++[d])=NY (b++[c])+HV c d:=by
 unfold NY
 have e:(b++[c]++[d]).length=(b++[c]).length+1:=by rw [List.length_append]; rfl
 rw [e,Ej hN,SX]
 have hl:(b++[c]).length=b.length+1:=by rw [List.length_append]; rfl
 have g1:(b++[c]++[d]).getD (b++[c]).length (0,0,false,false,0)=d:=by
  rw [List.getD_eq_getElem?_getD,List.getElem?_append_right (Nat.le_refl _),Nat.sub_self]; rfl
 have g2:(b++[c]++[d]).getD ((b++[c]).length - 1) (0,0,false,false,0)=c:=by
  rw [List.getD_eq_getElem?_getD,List.getElem?_append_left (by omega),hl,Nat.add_sub_cancel,List.getElem?_append_right (Nat.le_refl _),Nat.sub_self]; rfl
 have ht:wC (b++[c]++[d]) (b++[c]).length=!decide (ft c=(d.1,d.2.1)):=by
  unfold wC
  rw [g1,g2]
  have:((b++[c]).length == 0)=false:=beq_false_of_ne (by omega)
  rw [this,Bool.false_or]
  rfl
 rw [ht]
 unfold HV
 by_cases h:ft c=(d.1,d.2.1)
 ·rw [decide_eq_true h,if_pos h,Bool.not_true,if_neg (by simp)]
  omega
 ·rw [decide_eq_false h,if_neg h,Bool.not_false,if_pos rfl,List.length_append,List.length_singleton]
  omega
theorem SY (c:dq):NY ([]++[c])=1:=rfl
theorem tN:∀ (t:List bX) (b:List dq) (r:bX) (w:Bool),NY (b++HW (r :: t) w)=NY (b++[aD r w])+dS (r :: t) w
 | [],b,r,w=>by
  show NY (b++[aD r w])=_+0
  omega
 | s :: t,b,r,w=>by
  have ih:=tN t (b++[aD r w]) s (On r s (jr (s :: t)) w)
  rw [EC hN] at ih
  have e:b++HW (r :: s :: t) w=b++[aD r w]++HW (s :: t) (On r s (jr (s :: t)) w):=by
   rw [HW,List.append_assoc]
   rfl
  rw [e,ih,dS]
  have ec:jr (s :: t)=(dS (s :: t) true,dS (s :: t) false):=rfl
  rw [ec]
  unfold On JA uX
  simp only [if_true,Bool.false_eq_true,if_false]
  by_cases h:dS (s :: t) true+HV (aD r w) (aD s true)≤dS (s :: t) false+HV (aD r w) (aD s false)
  ·rw [decide_eq_true h,if_neg (by omega)]
   omega
  ·rw [decide_eq_false h,if_pos (by omega)]
   omega
def fA:List dq→List bX→List dq
 | b,[]=>b
 | b,r :: t=>if NY (fA (b++[aD r false]) t) < NY (fA (b++[aD r true]) t) then fA (b++[aD r false]) t else fA (b++[aD r true]) t
theorem qL:∀ (t:List bX) (b:List dq) (r:bX) (w:Bool),fA (b++[aD r w]) t=b++HW (r :: t) w
 | [],b,r,w=>rfl
 | s :: t,b,r,w=>by
  have i1:=qL t (b++[aD r w]) s true
  have i2:=qL t (b++[aD r w]) s false
  have p1:=tN hN t (b++[aD r w]) s true
  have p2:=tN hN t (b++[aD r w]) s false
  rw [EC hN] at p1 p2
  have ec:jr (s :: t)=(dS (s :: t) true,dS (s :: t) false):=rfl
  rw [fA,i1,i2,p1,p2,HW,ec]
  unfold On uX
  simp only [if_true,Bool.false_eq_true,if_false]
  by_cases h:dS (s :: t) true+HV (aD r w) (aD s true)≤dS (s :: t) false+HV (aD r w) (aD s false)
  ·rw [decide_eq_true h,if_neg (by omega),List.append_assoc]
   rfl
  ·rw [decide_eq_false h,if_pos (by omega),List.append_assoc]
   rfl
theorem JC (r:bX) (t:List bX):fA [] (r :: t)=HW (r :: t) (EB (r :: t)):=by
 have i1:=qL hN t [] r true
 have i2:=qL hN t [] r false
 have p1:=tN hN t [] r true
 have p2:=tN hN t [] r false
 rw [SY hN] at p1 p2
 rw [fA,i1,i2,p1,p2]
 unfold EB
 by_cases h:dS (r :: t) false < dS (r :: t) true
 ·rw [if_pos (by omega),decide_eq_true h]
  rfl
 ·rw [if_neg (by omega),decide_eq_false h]
  rfl
theorem qM:∀ (t:List bX) (b:List dq),(fA b t).length=b.length+t.length
 | [],b=>rfl
 | r :: t,b=>by
  have i1:=qM t (b++[aD r true])
  have i2:=qM t (b++[aD r false])
  rw [List.length_append,List.length_singleton] at i1 i2
  rw [fA,List.length_cons]
  split <;> omega
theorem tO:∀ (t:List bX) (b:List dq),(∀ c∈b,cX c=0)→(∀ r∈t,nE r∧r.2.2 - r.2.1≤512)→∀ c∈fA b t,cX c=0
 | [],b,h,_=>h
 | r :: t,b,h,hr=>by
  have hh:∀ w,∀ c∈b++[aD r w],cX c=0:=fun w c hc=>by
   rcases List.mem_append.1 hc with hc | hc
   ·exact h c hc
   ·rw [List.mem_singleton] at hc
    subst hc
    exact qK (hr r (by simp)).1 (hr r (by simp)).2 w
  have i1:=tO t (b++[aD r true]) (hh true) fun q hq=>hr q (List.mem_cons_of_mem _ hq)
  have i2:=tO t (b++[aD r false]) (hh false) fun q hq=>hr q (List.mem_cons_of_mem _ hq)
  rw [fA]
  split
  ·exact i2
  ·exact i1
theorem va:∀ (t:List bX) (b:List dq) (n:Nat),t.length < n→b.length+t.length≤1000→(∀ c∈b,cX c=0)→(∀ r∈t,nE r∧r.2.2 - r.2.1≤512)→tH N n (b,t)=some (fA b t)
 | [],b,n,hn,_,_,_=>by
  obtain ⟨n,rfl⟩:∃ k,n=k+1:=⟨n - 1,by omega⟩
  rw [Ey]
  have i0:(((([]:List bX).map az).length:Int) == 0)=true:=rfl
  rw [i0]
  simp only [cond_true,wz,wA]
  rfl
 | r :: t,b,n,hn,hb,hc,hr=>by
  obtain ⟨n,rfl⟩:∃ k,n=k+1:=⟨n - 1,by omega⟩
  rw [List.length_cons] at hn hb
  have hh:∀ w,∀ c∈b++[aD r w],cX c=0:=fun w c EI=>by
   rcases List.mem_append.1 EI with EI | EI
   ·exact hc c EI
   ·rw [List.mem_singleton] at EI
    subst EI
    exact qK (hr r (by simp)).1 (hr r (by simp)).2 w
  have kQ:∀ q∈t,nE q∧q.2.2 - q.2.1≤512:=fun q hq=>hr q (List.mem_cons_of_mem _ hq)
  have ll:∀ w,(b++[aD r w]).length=b.length+1:=fun w=>by rw [List.length_append]; rfl
  have j1:=va t (b++[aD r true]) n (by omega) (by rw [ll]; omega) (hh true) kQ
  have j2:=va t (b++[aD r false]) n (by omega) (by rw [ll]; omega) (hh false) kQ
  have k1:=Na hN (fA (b++[aD r true]) t) (tO hN t _ (hh true) kQ) (by rw [qM hN,ll]; omega)
  have k2:=Na hN (fA (b++[aD r false]) t) (tO hN t _ (hh false) kQ) (by rw [qM hN,ll]; omega)
  have f1:SN N ((r.1,r.2.1,r.2.2),true)=some (aD r true):=HU N (hr r (by simp)).1 true
  have f2:SN N ((r.1,r.2.1,r.2.2),false)=some (aD r false):=HU N (hr r (by simp)).1 false
  have i0:(((t.length+1:Nat):Int) == 0)=false:=beq_false_of_ne (by omega)
  have i1:decide ((0:Int)≤0∧0 < ((t.length+1:Nat):Int))=true:=decide_eq_true (by omega)
  have i2:decide ((0:Int)≤1∧1≤((t.length+1:Nat):Int))=true:=decide_eq_true (by omega)
  have sb:eR (toNat 1) (t.length+1) (map az (r :: t))=map az t:=by
   unfold eR
   rw [List.take_of_length_le (by rw [List.length_map,List.length_cons]; exact Nat.le_refl _)]
   rfl
  have a1:bG (ah (map az (r :: t)) (toNat 0))=r:=rfl
  have a2:fits gJ (ah (map az (r :: t)) (toNat 0))=true:=rfl
  have sn:∀ w,map ax b++[AV.agg [AV.int .i64 (aD r w).1,AV.int .i64 (aD r w).2.1,AV.bool (aD r w).2.2.1,AV.bool (aD r w).2.2.2.1,AV.int .i64 (aD r w).2.2.2.2]]=map ax (b++[aD r w]):=fun w=>by rw [List.map_append]; rfl
  have tl:∀ c:List dq,(Cv c c.length).length=(NY c).toNat:=fun c=>rfl
  have hif:(bif decide (((((Cv (fA (b++[aD r false]) t) (fA (b++[aD r false]) t).length).length:Nat):Int)) < (((Cv (fA (b++[aD r true]) t) (fA (b++[aD r true]) t).length).length:Nat):Int)) then some (fA (b++[aD r false]) t) else some (fA (b++[aD r true]) t))=some (fA b (r :: t)):=by
   rw [fA]
   unfold NY
   by_cases h:((((Cv (fA (b++[aD r false]) t) (fA (b++[aD r false]) t).length).length:Nat):Int)) < (((Cv (fA (b++[aD r true]) t) (fA (b++[aD r true]) t).length).length:Nat):Int)
   ·rw [decide_eq_true h,if_pos h]; rfl
   ·rw [decide_eq_false h,if_neg h]; rfl
  rw [Ey]
  have SZ:List.isEmpty (map ax b)=decide (b=[]):=by cases b <;> rfl
  have lb:decide (b.length * 32≤140737488355328)=true:=decide_eq_true (by omega)
  have lb1:decide ((b.length+1) * 32≤140737488355328)=true:=decide_eq_true (by omega)
  by_cases hbe:b=[]
  ·rw [decide_eq_true hbe] at SZ
   have sn':∀ w,[AV.agg [AV.int .i64 (aD r w).1,AV.int .i64 (aD r w).2.1,AV.bool (aD r w).2.2.1,AV.bool (aD r w).2.2.2.1,AV.int .i64 (aD r w).2.2.2.2]]=map ax (b++[aD r w]):=fun w=>by rw [hbe]; rfl
   simp only [List.length_map,List.length_cons,i0,i1,i2,a1,a2,sb,SZ,f1,f2,List.nil_append,sn',j1,j2,k1,k2,wz,wA,oL,oM,EL,EM,cond_true,cond_false,Bool.and_self,Bool.and_true,beq_self_eq_true,Option.bind_some,decide_true]
   exact hif
  ·rw [decide_eq_false hbe] at SZ
   simp only [List.length_map,List.length_cons,i0,i1,i2,a1,a2,sb,SZ,f1,f2,List.nil_append,Nat.zero_add,lb,lb1,sn,j1,j2,k1,k2,wz,wA,oL,oM,EL,EM,cond_true,cond_false,Bool.and_self,Bool.and_true,beq_self_eq_true,Option.bind_some,decide_true]
   exact hif
theorem N0 (l:List dv) (h:dA l=0):T59 N l=some (tM l):=by
 obtain ⟨x1,x2,x3⟩:=tL l
 have eX:aK l=zM l:=by unfold aK; rw [if_pos h]
 have hR:=Nz hN l h
 rw [← eX] at hR
 rw [XQ]
 simp only [fy,fj,Bool.and_true,cond_true,Option.bind_some,hR,List.length_map]
 rw [HN]
 unfold tM
 have e0:(bif (allFit (fits df) ([]:List AV)) then some ((map bC ([]:List AV)),(aK l).2) else none)=some (([]:List dq),(aK l).2):=rfl
 by_cases h1:(aK l).2=0
 ·rw [if_pos h1]
  by_cases h2:(aK l).1.length > 256
  ·have UM:decide ((((aK l).1.length:Nat):Int) > 256)=true:=decide_eq_true (by omega)
   have e:uZ l=5:=by unfold uZ; rw [h1,if_pos h2]; rfl
   rw [UM,e,if_neg (by omega)]
   rfl
  ·have UM:decide ((((aK l).1.length:Nat):Int) > 256)=false:=decide_eq_false (by omega)
   rw [UM,cond_false,NJ hN _ x1 x2,Option.bind_some]
   have e:uZ l=if oR (aK l).1 then 3 else 0:=by
    unfold uZ
    rw [h1,if_neg h2]
    cases oR (aK l).1 <;> rfl
   cases hf:(List.range (aK l).1.length).find? (fun k=>zN ((aK l).1.getD k (0,0,0))) with
   | some j=>
    have ha:oR (aK l).1=true:=by unfold oR; rw [hf]; rfl
    rw [ha] at e
    rw [e,if_neg (by simp)]
    rfl
   | none=>
    have ha:oR (aK l).1=false:=by unfold oR; rw [hf]; rfl
    rw [ha] at e
    have e:uZ l=0:=e
    obtain ⟨g1,g2,g3⟩:=HY e
    have q:XO N ([],(aK l).1)=some (fA [] (aK l).1):=va hN _ [] N (by unfold fL at hN; omega) (by simp only [List.length_nil]; omega) (fun _ hc=>nomatch hc) g3
    have z1:(bif allFit (fits df) ([]:List AV) then some (map bC ([]:List AV),(aK l).1) else none)=some (([]:List dq),(aK l).1):=rfl
    rw [e,if_pos rfl]
    simp only [Sum.elim_inr,z1,Option.bind_some,q,wz,wA,cond_true]
    have h0:=x3 h1
    cases hh:(aK l).1 with
    | nil=>rw [hh] at h0; cases h0
    | cons r t=>rw [JC hN]
 ·rw [if_neg h1]
  have e:uZ l=(aK l).2:=by
   unfold uZ
   simp [aJ,h1]
  rw [e,if_neg h1]
  exact e0
end
end Go.Proofs.YtldcljfjjoidhaaGreatDoor
namespace Go.Proofs.YtldcljfjjoidhaaGreatDoor
open Go Go.Am Go.Sort
open List (map)
open Int (toNat)
open Go.IntKind (wrap)
open Go.Am.aR (fits)
set_option maxRecDepth 100000
section
variable {N:Nat} (hN:fL N)
include hN
theorem XS (p:List dq) (n:Nat) (hn:n≤1000):∃ b,T26 N (p,(n:Int))=some b∧(b=true→(p.length≤n∨p.length=257)∧∀ c∈p,c.2.2.2.2≤12∨512 < c.2.2.2.2):=by
 rw [Wd]
 simp only [List.length_map]
 by_cases hl:p.length≤n∨p.length=257
 ·have hp:p.length≤1000:=by omega
  have h1:((bif (decide ((p.length:Int) > (n:Int))) then (some ((p.length:Int) != 257)) else (some false)):Option Bool)=some false:=by
   by_cases h:p.length≤n
   ·rw [decide_eq_false (by omega)]; rfl
   ·have:p.length=257:=by omega
    rw [decide_eq_true (by omega),this]; rfl
  have q:=ke (rd:=zp N p) p.length (fun k=>(k:Int)) (fun k=>decide ((p.getD k (0,0,false,false,0)).2.2.2.2 > 12)&&decide ((p.getD k (0,0,false,false,0)).2.2.2.2≤512)) (fun _=>Sum.inl false) (Sum.inr ()) (fun k hk=>by
   obtain ⟨a1,a2⟩:=Eg hN p hk
   have e:p.getD k (0,0,false,false,0)=p[k]:=by simp [hk]
   rw [e]
   simp only [zp,List.length_map,Int.toNat_natCast,a1,a2,a8 hk,aB hk,Bool.and_self,cond_true,bE (show k < 9223372036854775807 by omega)]
   generalize p[k]=c at *
   cases decide (c.2.2.2.2 > 12) <;> cases decide (c.2.2.2.2≤512) <;> rfl) (by
   simp only [zp,List.length_map,bO,cond_false]) N (by unfold fL at hN; omega)
  have q':aL (zp N p) N 0=_:=q
  rw [h1,Option.bind_some,q']
  simp only [cond_false,Option.bind_some]
  cases hf:(List.range p.length).find? fun k=>decide ((p.getD k (0,0,false,false,0)).2.2.2.2 > 12)&&decide ((p.getD k (0,0,false,false,0)).2.2.2.2≤512) with
  | some j=>exact ⟨false,rfl,fun h=>by cases h⟩
  | none=>
   refine ⟨true,rfl,fun _=>⟨hl,fun c hc=>?_⟩⟩
   obtain ⟨k,hk,rfl⟩:=List.getElem_of_mem hc
   have:=List.find?_eq_none.1 hf k (List.mem_range.2 hk)
   have e:p.getD k (0,0,false,false,0)=p[k]:=by simp [hk]
   rw [e] at this
   simp only [Bool.and_eq_true,decide_eq_true_eq,not_and] at this
   omega
 ·have h1:((bif (decide ((p.length:Int) > (n:Int))) then (some ((p.length:Int) != 257)) else (some false)):Option Bool)=some true:=by
   rw [decide_eq_true (by omega),cond_true]
   exact congrArg some (bne_iff_ne.2 (by omega))
  rw [h1,Option.bind_some]
  exact ⟨false,rfl,fun h=>by cases h⟩
theorem S0 (p:List dq) (h:iw p=0):T45 N p=some (tC p):=by
 have Hl:∀ c∈p,cX c=0:=(Cy h).2
 have hp:=(Cy h).1
 obtain ⟨o1,o2⟩:=sq h p.length (Nat.le_refl _)
 rw [List.take_length] at o1 o2
 have z88:((bif (allFit (fits df) (map ax p)&&true) then some (map bC (map ax p)) else none:Option (fK)))=some p:=by simp only [wz,wA,Bool.and_true,cond_true]
 rw [WX,z88,Option.bind_some,HI hN p Hl (by omega),Option.bind_some]
 simp only [fy,fj,Bool.and_true,cond_true,Option.bind_some]
 rw [show T62 N (cT p)=some (tC p) from Sd hN _ (by omega),Option.bind_some]
end
end Go.Proofs.YtldcljfjjoidhaaGreatDoor
namespace Go.Proofs.YtldcljfjjoidhaaGreatDoor
open Go Go.Am Go.Sort
open List (map)
open Int (toNat)
open Go.IntKind (wrap)
open Go.Am.aR (fits)
set_option maxRecDepth 100000
def mk (s:Bool) (x:Int):Int:=if s then -x else x
variable {s:Bool} {dx dy:Int}
end Go.Proofs.YtldcljfjjoidhaaGreatDoor
