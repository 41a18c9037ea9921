/- Plain laws: programs mirrored,worked back,lifted,and put one behind the other. -/
import Derived.Test.YtldcljfjjoidhaaGreatDoorSeamKC
import Derived.Test.YtldcljfjjoidhaaGreatDoorBraX
import Derived.Test.YtldcljfjjoidhaaGreatDoorSeamKD
import Derived.Test.YtldcljfjjoidhaaGreatDoorBraZ
import Derived.Test.YtldcljfjjoidhaaGreatDoorBraY
import Derived.Test.YtldcljfjjoidhaaGreatDoorBraLp
set_option linter.all false
open Bool renaming false_eq_true→aao, and_self→aaB, and_true→abi, eq_iff_iff→abJ
open Int renaming toNat_natCast→aaO, add_zero→abr, le_refl→abI
open List renaming length_map→aau, length_append→aaY, length_singleton→abj, getElem?_eq_getElem→abo, getElem_mem→abq, length_cons→abt, getElem_of_mem→abu, mem_range→abw, map_append→abx, mem_singleton→aby, mem_map→abz, getD_eq_getElem?_getD→abA, getElem?_map→abC, range→abD, drop_eq_getElem_cons→abF, getElem?_append_left→abG, append_assoc→abH, length_set→abK, mem_cons_of_mem→abL, replicate→abM, mem_cons_self→abO, mem_cons→abP, getElem?_append_right→abQ, nodup_iff_pairwise_ne→abR, take_add_one→abS, nodup_append→abT, getElem?_eq_some_iff→abU, length_take→abV, take_length→abW, length_drop→abX, mem_flatMap→abY, length_eq_zero_iff→abZ, mem_filter→ab0, nil_append→ab1, length_replicate→ab3, flatMap_append→ab4, length→ab6
open Nat renaming beq_refl→abn, zero_add→abp, le_refl→abE, zero_le→abN, sub_self→ab5
open Option renaming bind_some→aad
open Option.some renaming inj→ab2
open Prod renaming ext→abB
open Sum renaming elim_inl→abv
namespace Go.Proofs.YtldcljfjjoidhaaGreatDoor
open Go Go.Am Go.Sort
open List (map)
open Int (toNat)
open Go.IntKind (wrap)
open Go.Am.aO (fits)
set_option maxRecDepth 100000
theorem aeJ {α β:Type} {rd:List β × Int→Option ((List β × Int) ⊕ List β)} (l:List α) (g:α→β)
  (h:∀ k (hk:k < l.length) (s:List β),s.length=k→rd (s,(k:Int))=some (.inl (s++[g l[k]],((k+1:Nat):Int)))) (h0:∀ s:List β,s.length=l.length→rd (s,(l.length:Int))=some (.inr s)) (n:Nat) (hn:l.length < n) :
  az rd n ([],0)=some (l.map g):=by
 have key:=cU (rd:=rd) l.length (fun k=>((l.take k).map g,(k:Int))) (l.map g) (fun k hk=>by
  rw [h k hk _ (by rw [aau,abV]; omega)];have e:(l.take (k+1)).map g=(l.take k).map g++[g l[k]]:=by
   rw [abS,abo hk,abx];rfl
  rw [e]) (by
  have e:(l.take l.length).map g=l.map g:=by rw [abW]
  have:=h0 (l.map g) (by rw [aau]);rw [e];exact this) n 0 (abN _) (by omega)
 simpa using key
theorem V6 (l:List cQ) (x y:Int) (r u:Bool) (n:Int):map fQ l++[AV.agg [AV.int .i64 x,AV.int .i64 y,AV.bool r,AV.bool u,AV.int .i64 n]]=map fQ (l++[(x,y,r,u,n)]):=by rw [abx]; rfl
theorem aeK:((bif (allFit (fits gI) ([]:List AV)&&true) then some ((map ee ([]:List AV)),(0:Int)) else none:Option (List cQ × Int)).bind fun w9=>bif (decide (0=(map fQ w9.1).length)&&true) then some w9 else none)=some ([],0):=rfl
section
variable {N:Nat} (hN:fC N)
include hN
theorem abf (p:List cQ) (hp:p.length≤1000000):T38 N p=some p:=by
 rw [aac,aeK,aad];have key:az (Ev N p) N ([],0)=some (p.map id):=aeJ p id (fun k hk s hs=>by
  obtain ⟨a1,a2⟩:=I7 hN p hk;generalize p[k]=c at *;have hb:decide ((k+1) * 32≤140737488355328)=true:=decide_eq_true (by omega);have sn:=V6 s c.1 c.2.1 c.2.2.1 c.2.2.2.1 c.2.2.2.2;simp only [Ev,yM,aau,a7 hk,ay hk,aaO,a1,a2,aaB,cond_true,aad,hs,hb,decide_true,sn,B0,B1,abi,aaY,abj,bw (show k < 9223372036854775807 by omega)];rfl) (fun s hs=>by
  simp only [Ev,yM,aau,bO,cond_false,B0,B1,aaB,abi,decide_true,cond_true,aad]) N (by unfold fC at hN; omega)
 rw [key,List.map_id,aad];simp only [B0,B1,cond_true]
end
end Go.Proofs.YtldcljfjjoidhaaGreatDoor
namespace Go.Proofs.YtldcljfjjoidhaaGreatDoor
open Go Go.Am Go.Sort
open List (map)
open Int (toNat)
open Go.IntKind (wrap)
open Go.Am.aO (fits)
set_option maxRecDepth 100000
abbrev Jc:=Int × Int × Bool × Bool × Int × Int × Int × Bool × Bool × Int
def lL (r:bE) (w:Bool):Int:=if w then r.2.1 else r.2.2
def aM (r:bE) (w:Bool):cQ:=if (lL r w+r.1) % 2=0 then (lL r w,r.1,w,true,r.2.2 - r.2.1) else (lL r w,r.1+1,w,false,r.2.2 - r.2.1)
def bD (r:bE):Jc:=((aM r true).1,(aM r true).2.1,(aM r true).2.2.1,(aM r true).2.2.2.1,(aM r true).2.2.2.2,(aM r false).1,(aM r false).2.1,(aM r false).2.2.1,(aM r false).2.2.2.1,(aM r false).2.2.2.2)
def mX (r:bE):Prop:=-100000≤r.1∧r.1+1≤100000∧-100000≤r.2.1∧r.2.1 < r.2.2∧r.2.2≤100000
theorem Kv {r:bE} (h:mX r) (w:Bool):-100000≤lL r w∧lL r w≤100000:=by
 obtain ⟨h1,h2,h3,h4,h5⟩:=h;unfold lL;cases w
 ·exact ⟨by simp only [aao,if_false]; omega,by simp only [aao,if_false]; omega⟩
 ·exact ⟨by simp only [if_true]; omega,by simp only [if_true]; omega⟩
theorem lW (r:bE) (w:Bool):(aM r w).2.2.2.2=r.2.2 - r.2.1:=by unfold aM; split <;> rfl
theorem pV {r:bE} (h:mX r) (hl:r.2.2 - r.2.1≤512) (w:Bool):dJ (aM r w)=0:=by
 have hc:=Kv h w;obtain ⟨h1,h2,h3,h4,h5⟩:=h;unfold dJ;rw [dz,lW];intro x hx;rcases abP.1 hx with rfl|hx
 ·rw [jC];unfold aM;split
  ·next e=>exact ⟨⟨hc.1,hc.2,by show -100000≤r.1; omega,by show r.1≤100000; omega⟩,e⟩
  ·next e=>exact ⟨⟨hc.1,hc.2,by show -100000≤r.1+1; omega,by show r.1+1≤100000; omega⟩,by show (lL r w+(r.1+1)) % 2=0; omega⟩
 ·rw [aby] at hx;subst hx;unfold EU;rw [if_neg (by omega)]
theorem GQ (x:Int):(Int.tmod x 2 == 0)=decide (x % 2=0):=by
 by_cases h:x % 2=0
 ·rw [decide_eq_true h,Int.tmod_eq_zero_of_dvd (Int.dvd_of_emod_eq_zero h)]; rfl
 ·rw [decide_eq_false h];exact beq_false_of_ne fun e=>h (Int.emod_eq_zero_of_dvd (Int.dvd_of_tmod_eq_zero e))
theorem Qx (N:Nat) {r:bE} (h:mX r):Qw N r=some (bD r):=by
 obtain ⟨h1,h2,h3,h4,h5⟩:=h;obtain ⟨y,a,b⟩:=r;simp only at h1 h2 h3 h4 h5;rw [VX];have w1:wrap .i64 (a+y)=a+y:=fT (by omega);have w2:wrap .i64 (b+y)=b+y:=fT (by omega);have w3:wrap .i64 (y+1)=y+1:=fT (by omega);have w4:wrap .i64 (b - a)=b - a:=fT (by omega);have ne:(y+1 == y)=false:=beq_false_of_ne (by omega);unfold bD aM lL;simp only [w1,w3,GQ,if_true,if_false,aao];by_cases e1:(a+y) % 2=0
 ·by_cases e2:(b+y) % 2=0
  ·simp only [e1,e2,decide_true,cond_true,if_true,aad,beq_self_eq_true,aaB,w2,w4,GQ]
  ·simp only [e1,e2,decide_true,decide_false,cond_true,cond_false,if_true,if_false,aad,beq_self_eq_true,aaB,w2,w3,w4,GQ,ne]
 ·by_cases e2:(b+y) % 2=0
  ·simp only [e1,e2,decide_true,decide_false,cond_true,cond_false,if_true,if_false,aad,beq_self_eq_true,aaB,w2,w3,w4,GQ,ne]
  ·simp only [e1,e2,decide_true,decide_false,cond_true,cond_false,if_true,if_false,aad,beq_self_eq_true,aaB,w2,w3,w4,GQ,ne]
theorem V7 (N:Nat) {r:bE} (h:mX r) (w:Bool):T61 N (r,w)=some (aM r w):=by
 have hc:=Kv h w;obtain ⟨h1,h2,h3,h4,h5⟩:=h;rw [abe];have e0:((bif w then (some r.2.1) else (some r.2.2)):Option Int)=some (lL r w):=by cases w <;> rfl
 have e1:T63 N (lL r w,r.1)=some (aK (lL r w,r.1) == 0):=by
  rw [aaG];have q:vQ N (lL r w,r.1)=some (aK (lL r w,r.1)):=oE N _;rw [q];rfl
 have w3:wrap .i64 (r.1+1)=r.1+1:=fT (by omega);have w4:wrap .i64 (r.2.2 - r.2.1)=r.2.2 - r.2.1:=fT (by omega);have e2:(aK (lL r w,r.1) == 0)=decide ((lL r w+r.1) % 2=0):=by
  rw [abJ,beq_iff_eq,jC,decide_eq_true_eq];exact ⟨fun h=>h.2,fun h=>⟨⟨hc.1,hc.2,by show -100000≤r.1; omega,by show r.1≤100000; omega⟩,h⟩⟩
 rw [e0,aad,e1,aad,e2,w3,w4];unfold aM;by_cases e:(lL r w+r.1) % 2=0
 ·rw [decide_eq_true e,if_pos e]; rfl
 ·rw [decide_eq_false e,if_neg e]; rfl
theorem aeL (l:List Jc) {k:Nat} (hk:k < l.length):a8 (ae (map cF l) k)=l[k]∧fits fM (ae (map cF l) k)=true:=by
 rw [gd cF l k hk]; exact ⟨rfl,rfl⟩
theorem ai0 (l:List XA) {k:Nat} (hk:k < l.length):lr (ae (map we l) k)=l[k]∧fits Bh (ae (map we l) k)=true:=by
 rw [gd we l k hk]; exact ⟨rfl,rfl⟩
def EG (r:bE):Bool:=decide (r.2.2 - r.2.1 > 512)
section
variable {N:Nat} (hN:fC N)
include hN
theorem Qy (y:List bE × Int) (h:∀ r∈y.1,mX r) (hl:y.1.length≤1000000) :
  az (kq N y) N 0=some (match (abD y.1.length).find? (fun k=>EG (y.1.getD k (0,0,0))) with | some j=>.inl (j:Int) | none=>.inr ()):=by
 exact rr (rd:=kq N y) y.1.length (fun k=>(k:Int)) _ (fun j=>Sum.inl (j:Int)) (Sum.inr ()) (fun k hk=>by
  obtain ⟨a1,a2⟩:=GM y.1 hk;have e:y.1.getD k (0,0,0)=y.1[k]:=by simp [hk]
  obtain ⟨h1,h2,h3,h4,h5⟩:=h _ (abq hk);have w4:wrap .i64 (y.1[k].2.2 - y.1[k].2.1)=y.1[k].2.2 - y.1[k].2.1:=fT (by omega);rw [e];simp only [kq,aau,aaO,a7 hk,ay hk,a1,a2,aaB,cond_true,w4,bw (show k < 9223372036854775807 by omega)];unfold EG;cases decide (y.1[k].2.2 - y.1[k].2.1 > 512) <;> rfl) (by
  simp only [kq,aau,bO,cond_false]) N (by unfold fC at hN; omega)
theorem V8 (y:List bE × Int) (h:∀ r∈y.1,mX r) (hl:y.1.length≤1000000) :
  az (pS N y) N ([],0)=some (y.1.map bD):=aeJ y.1 bD (fun k hk s hs=>by
  obtain ⟨a1,a2⟩:=GM y.1 hk;have q:Qw N (y.1[k].1,y.1[k].2.1,y.1[k].2.2)=some (bD y.1[k]):=Qx N (h _ (abq hk));generalize bD y.1[k]=c at *;have hb:decide ((k+1) * 64≤140737488355328)=true:=decide_eq_true (by omega);have sn:map cF s++[AV.agg [AV.int .i64 c.1,AV.int .i64 c.2.1,AV.bool c.2.2.1,AV.bool c.2.2.2.1,AV.int .i64 c.2.2.2.2.1,AV.int .i64 c.2.2.2.2.2.1,AV.int .i64 c.2.2.2.2.2.2.1,AV.bool c.2.2.2.2.2.2.2.1,AV.bool c.2.2.2.2.2.2.2.2.1,AV.int .i64 c.2.2.2.2.2.2.2.2.2]]=map cF (s++[c]):=by rw [abx]; rfl
  simp only [pS,aau,a7 hk,ay hk,aaO,a1,a2,aaB,cond_true,q,aad,hs,hb,decide_true,sn,gQ,gR,abi,aaY,abj,bw (show k < 9223372036854775807 by omega)]) (fun s hs=>by
  simp only [pS,aau,bO,cond_false,gQ,gR,aaB,abi,decide_true,cond_true,aad]) N (by unfold fC at hN; omega)
end
theorem Kw {l:List aF} (h:dC l=0) (ho:Qq l) {r:bE} (hr:r∈jD l):mX r:=by
 unfold jD at hr;obtain ⟨j,hj,rfl⟩:=abz.1 hr;rw [abw] at hj;obtain ⟨cK,-⟩:=ho j hj;obtain ⟨h1,h2,h3⟩:=dp h;obtain ⟨-,fs⟩:=uT (bX l (fV l+j));obtain ⟨f1,f2,f3,f4⟩:=fs cK;have Qz:∀ x∈bX l (fV l+j),-100000≤x∧x+1≤100000∧-100000≤fV l+j∧fV l+j+1≤100000:=fun x hx=>by
  obtain ⟨b,hb,rfl⟩:=abz.1 hx;obtain ⟨Ih,Hf⟩:=ab0.1 hb;obtain ⟨c1,c2,c3⟩:=lJ (h2 b Ih);have k1:=eO c1;have k2:=eO c3;unfold fO at k1;unfold gK at k2;simp only at k1 k2;have w1:wrap .i64 (b.1+b.2.2)=b.1+b.2.2:=fT (by omega);have w2:wrap .i64 (b.2.1+1)=b.2.1+1:=fT (by omega);rw [w1,w2] at k2;have:b.2.1=fV l+j:=by simpa using Hf
  unfold jF;split <;> omega
 have s1:=Qz _ f1;have s3:=Qz _ f3;have s4:=f4 _ f1;exact ⟨s1.2.2.1,s1.2.2.2,s1.1,by show (qg _).2.1 < (qg _).2.2; omega,by show (qg _).2.2≤100000; omega⟩
end Go.Proofs.YtldcljfjjoidhaaGreatDoor
namespace Go.Proofs.YtldcljfjjoidhaaGreatDoor
open Go Go.Am Go.Sort
open List (map)
open Int (toNat)
open Go.IntKind (wrap)
open Go.Am.aO (fits)
set_option maxRecDepth 100000
def dj (c:cQ):Int × Int:=au c c.2.2.2.2.toNat
def Me (c d:cQ):Int:=if dj c=(d.1,d.2.1) then 0 else 1
def Kx (a b:Int):Int:=if b < a then b else a
def wq (r s:bE) (p:Int × Int) (w v:Bool):Int:=(if v then p.1 else p.2)+Me (aM r w) (aM s v)
theorem yR (B:List Jc):jo (map cF B) (map cF B)=true:=by
 induction B with
 |nil=>rfl
 |cons x B ih=>
  have e:fa (cF x) (cF x)=true:=by
   obtain ⟨x1,x2,x3,x4,x5,x6,x7,x8,x9,Xw⟩:=x;show fa (AV.agg [AV.int .i64 x1,AV.int .i64 x2,AV.bool x3,AV.bool x4,AV.int .i64 x5,AV.int .i64 x6,AV.int .i64 x7,AV.bool x8,AV.bool x9,AV.int .i64 Xw]) (AV.agg [AV.int .i64 x1,AV.int .i64 x2,AV.bool x3,AV.bool x4,AV.int .i64 x5,AV.int .i64 x6,AV.int .i64 x7,AV.bool x8,AV.bool x9,AV.int .i64 Xw])=true;simp [fa,jo,Jj]
  rw [List.map_cons,jo,e,ih];rfl
theorem xC (s:List XA) (i:Nat) (a b:Int):aG (map we s) i (AV.agg [AV.int .i64 a,AV.int .i64 b])=map we (s.set i (a,b)):=by
 rw [iw,List.map_set];rfl
theorem nU {l:List Jc} {k:Nat} {x:Jc} (h:l[k]?=some x):a8 (ae (map cF l) k)=x∧fits fM (ae (map cF l) k)=true:=by
 obtain ⟨hk,rfl⟩:=abU.1 h;exact aeL l hk
theorem uW {l:List XA} {k:Nat} {x:Int × Int} (h:l[k]?=some x):lr (ae (map we l) k)=x∧fits Bh (ae (map we l) k)=true:=by
 obtain ⟨hk,rfl⟩:=abU.1 h;exact ai0 l hk
theorem GR (q:Int × Int) (a b:Int):((q.1 == a)&&(q.2 == b))=decide (q=(a,b)):=by
 rw [abJ]; simp [Prod.ext_iff]
section
variable {N:Nat} (hN:fC N)
include hN
theorem QA (B:List Jc) (H0 bh:List XA) (i:Nat) (r s:bE) (P P0:Int × Int) (hB:B.length=bh.length) (hi:i+1 < bh.length) (hl:bh.length≤1000) (hr:mX r∧r.2.2 - r.2.1≤512)
  (eA:B[i]?=some (bD r)) (eS:B[i+1]?=some (bD s)) (e0:bh[i]?=some P0) (eP:bh[i+1]?=some P) (hp:0≤P.1∧P.1≤1000∧0≤P.2∧P.2≤1000) :
  dh N ((i:Int),B,H0,()) (0,B,bh,())=some (.inl (1,B,bh.set i (Kx (wq r s P true true) (wq r s P true false),P0.2),())):=by
 obtain ⟨a1,a2⟩:=nU eA;obtain ⟨b1,b2⟩:=nU eS;obtain ⟨c1,c2⟩:=uW e0;obtain ⟨d1,kW⟩:=uW eP;have q0:su N ((bD r).1,(bD r).2.1,(bD r).2.2.1,(bD r).2.2.2.1,(bD r).2.2.2.2.1)=some (dj (aM r true)):=ra hN _ (pV hr.1 hr.2 true);have s7:=yR B;have wi:wrap .i64 ((i:Int)+1)=((i+1:Nat):Int):=bw (by omega);have i1:decide ((0:Int)≤(i:Int)∧(i:Int) < (bh.length:Int))=true:=decide_eq_true (by omega);have i2:decide ((0:Int)≤(i:Int)∧(i:Int) < (B.length:Int))=true:=decide_eq_true (by omega);have i3:decide ((0:Int)≤((i+1:Nat):Int)∧((i+1:Nat):Int) < (B.length:Int))=true:=decide_eq_true (by omega);have i4:decide ((0:Int)≤((i+1:Nat):Int)∧((i+1:Nat):Int) < (bh.length:Int))=true:=decide_eq_true (by omega);have i5:decide (i+1 < bh.length)=true:=decide_eq_true (by omega);have i6:decide (i < bh.length)=true:=decide_eq_true (by omega);have l0:decide ((0:Int) < 2)=true:=rfl;have z0:decide ((0:Int)=0)=true:=rfl;have V9:wrap .i64 (0+1)=1:=rfl;have u0:wrap .i64 (P.1+1)=P.1+1:=fT (by omega);have u1:wrap .i64 (P.2+1)=P.2+1:=fT (by omega);have es:∀ a b:Int,(bh.set i (a,b)).length=bh.length:=fun _ _=>abK ..
 have k1:(((dj (aM r true)).1 == (bD s).1)&&((dj (aM r true)).2 == (bD s).2.1))=decide (dj (aM r true)=((aM s true).1,(aM s true).2.1)):=GR _ _ _;have k2:(((dj (aM r true)).1 == (bD s).2.2.2.2.2.1)&&((dj (aM r true)).2 == (bD s).2.2.2.2.2.2.1))=decide (dj (aM r true)=((aM s false).1,(aM s false).2.1)):=GR _ _ _;unfold wq Me Kx;by_cases D1:dj (aM r true)=((aM s true).1,(aM s true).2.1)
 ·by_cases D2:dj (aM r true)=((aM s false).1,(aM s false).2.1)
  ·rw [decide_eq_true D1] at k1;rw [decide_eq_true D2] at k2;simp only [dh,dq,eh,ej,eB,eC,aau,aaO,abp,a1,a2,b1,b2,c1,c2,d1,kW,wi,i1,i2,i3,i4,i5,i6,l0,z0,q0,k1,k2,s7,aaB,abi,cond_true,cond_false,aad,beq_self_eq_true,decide_true,abn,gQ,gR,mV,mW,xC,es,V9,u0,u1,if_pos D1,if_pos D2,if_true,if_false,aao,abr]
  ·rw [decide_eq_true D1] at k1;rw [decide_eq_false D2] at k2;simp only [dh,dq,eh,ej,eB,eC,aau,aaO,abp,a1,a2,b1,b2,c1,c2,d1,kW,wi,i1,i2,i3,i4,i5,i6,l0,z0,q0,k1,k2,s7,aaB,abi,cond_true,cond_false,aad,beq_self_eq_true,decide_true,abn,gQ,gR,mV,mW,xC,es,V9,u0,u1,if_pos D1,if_neg D2,if_true,if_false,aao,abr]
 ·by_cases D2:dj (aM r true)=((aM s false).1,(aM s false).2.1)
  ·rw [decide_eq_false D1] at k1;rw [decide_eq_true D2] at k2;simp only [dh,dq,eh,ej,eB,eC,aau,aaO,abp,a1,a2,b1,b2,c1,c2,d1,kW,wi,i1,i2,i3,i4,i5,i6,l0,z0,q0,k1,k2,s7,aaB,abi,cond_true,cond_false,aad,beq_self_eq_true,decide_true,abn,gQ,gR,mV,mW,xC,es,V9,u0,u1,if_neg D1,if_pos D2,if_true,if_false,aao,abr]
  ·rw [decide_eq_false D1] at k1;rw [decide_eq_false D2] at k2;simp only [dh,dq,eh,ej,eB,eC,aau,aaO,abp,a1,a2,b1,b2,c1,c2,d1,kW,wi,i1,i2,i3,i4,i5,i6,l0,z0,q0,k1,k2,s7,aaB,abi,cond_true,cond_false,aad,beq_self_eq_true,decide_true,abn,gQ,gR,mV,mW,xC,es,V9,u0,u1,if_neg D1,if_neg D2,if_true,if_false,aao,abr]
theorem QB (B:List Jc) (H0 bh:List XA) (i:Nat) (r s:bE) (P P0:Int × Int) (hB:B.length=bh.length) (hi:i+1 < bh.length) (hl:bh.length≤1000) (hr:mX r∧r.2.2 - r.2.1≤512)
  (eA:B[i]?=some (bD r)) (eS:B[i+1]?=some (bD s)) (e0:bh[i]?=some P0) (eP:bh[i+1]?=some P) (hp:0≤P.1∧P.1≤1000∧0≤P.2∧P.2≤1000) :
  dh N ((i:Int),B,H0,()) (1,B,bh,())=some (.inl (2,B,bh.set i (P0.1,Kx (wq r s P false true) (wq r s P false false)),())):=by
 obtain ⟨a1,a2⟩:=nU eA;obtain ⟨b1,b2⟩:=nU eS;obtain ⟨c1,c2⟩:=uW e0;obtain ⟨d1,kW⟩:=uW eP;have q0:su N ((bD r).2.2.2.2.2.1,(bD r).2.2.2.2.2.2.1,(bD r).2.2.2.2.2.2.2.1,(bD r).2.2.2.2.2.2.2.2.1,(bD r).2.2.2.2.2.2.2.2.2)=some (dj (aM r false)):=ra hN _ (pV hr.1 hr.2 false);have s7:=yR B;have wi:wrap .i64 ((i:Int)+1)=((i+1:Nat):Int):=bw (by omega);have i1:decide ((0:Int)≤(i:Int)∧(i:Int) < (bh.length:Int))=true:=decide_eq_true (by omega);have i2:decide ((0:Int)≤(i:Int)∧(i:Int) < (B.length:Int))=true:=decide_eq_true (by omega);have i3:decide ((0:Int)≤((i+1:Nat):Int)∧((i+1:Nat):Int) < (B.length:Int))=true:=decide_eq_true (by omega);have i4:decide ((0:Int)≤((i+1:Nat):Int)∧((i+1:Nat):Int) < (bh.length:Int))=true:=decide_eq_true (by omega);have i5:decide (i+1 < bh.length)=true:=decide_eq_true (by omega);have i6:decide (i < bh.length)=true:=decide_eq_true (by omega);have l0:decide ((1:Int) < 2)=true:=rfl;have z0:decide ((1:Int)=0)=false:=rfl;have z1:decide ((1:Int)=1)=true:=rfl;have V9:wrap .i64 (1+1)=2:=rfl;have u0:wrap .i64 (P.1+1)=P.1+1:=fT (by omega);have u1:wrap .i64 (P.2+1)=P.2+1:=fT (by omega);have es:∀ a b:Int,(bh.set i (a,b)).length=bh.length:=fun _ _=>abK ..
 have k1:(((dj (aM r false)).1 == (bD s).1)&&((dj (aM r false)).2 == (bD s).2.1))=decide (dj (aM r false)=((aM s true).1,(aM s true).2.1)):=GR _ _ _;have k2:(((dj (aM r false)).1 == (bD s).2.2.2.2.2.1)&&((dj (aM r false)).2 == (bD s).2.2.2.2.2.2.1))=decide (dj (aM r false)=((aM s false).1,(aM s false).2.1)):=GR _ _ _;unfold wq Me Kx;by_cases D1:dj (aM r false)=((aM s true).1,(aM s true).2.1)
 ·by_cases D2:dj (aM r false)=((aM s false).1,(aM s false).2.1)
  ·rw [decide_eq_true D1] at k1;rw [decide_eq_true D2] at k2;simp only [dh,dq,eh,ej,eB,eC,aau,aaO,abp,a1,a2,b1,b2,c1,c2,d1,kW,wi,i1,i2,i3,i4,i5,i6,l0,z0,z1,q0,k1,k2,s7,aaB,abi,cond_true,cond_false,aad,beq_self_eq_true,decide_true,abn,gQ,gR,mV,mW,xC,es,V9,u0,u1,if_pos D1,if_pos D2,if_true,if_false,aao,abr]
  ·rw [decide_eq_true D1] at k1;rw [decide_eq_false D2] at k2;simp only [dh,dq,eh,ej,eB,eC,aau,aaO,abp,a1,a2,b1,b2,c1,c2,d1,kW,wi,i1,i2,i3,i4,i5,i6,l0,z0,z1,q0,k1,k2,s7,aaB,abi,cond_true,cond_false,aad,beq_self_eq_true,decide_true,abn,gQ,gR,mV,mW,xC,es,V9,u0,u1,if_pos D1,if_neg D2,if_true,if_false,aao,abr]
 ·by_cases D2:dj (aM r false)=((aM s false).1,(aM s false).2.1)
  ·rw [decide_eq_false D1] at k1;rw [decide_eq_true D2] at k2;simp only [dh,dq,eh,ej,eB,eC,aau,aaO,abp,a1,a2,b1,b2,c1,c2,d1,kW,wi,i1,i2,i3,i4,i5,i6,l0,z0,z1,q0,k1,k2,s7,aaB,abi,cond_true,cond_false,aad,beq_self_eq_true,decide_true,abn,gQ,gR,mV,mW,xC,es,V9,u0,u1,if_neg D1,if_pos D2,if_true,if_false,aao,abr]
  ·rw [decide_eq_false D1] at k1;rw [decide_eq_false D2] at k2;simp only [dh,dq,eh,ej,eB,eC,aau,aaO,abp,a1,a2,b1,b2,c1,c2,d1,kW,wi,i1,i2,i3,i4,i5,i6,l0,z0,z1,q0,k1,k2,s7,aaB,abi,cond_true,cond_false,aad,beq_self_eq_true,decide_true,abn,gQ,gR,mV,mW,xC,es,V9,u0,u1,if_neg D1,if_neg D2,if_true,if_false,aao,abr]
theorem QC (B:List Jc) (bh:List XA) (x:Int × List Jc × List XA × Unit):dh N x (2,B,bh,())=some (.inr (B,bh,())):=by
 have l0:decide ((2:Int) < 2)=false:=rfl;simp only [dh,dq,eh,ej,eB,eC,l0,cond_false,gQ,gR,mV,mW,abn,aaB,abi,cond_true,aad,decide_true]
theorem QD (B:List Jc) (bh:List XA) (i:Nat) (r s:bE) (P:Int × Int) (hB:B.length=bh.length) (hi:i+1 < bh.length) (hl:bh.length≤1000) (hr:mX r∧r.2.2 - r.2.1≤512)
  (eA:B[i]?=some (bD r)) (eS:B[i+1]?=some (bD s)) (eP:bh[i+1]?=some P) (hp:0≤P.1∧P.1≤1000∧0≤P.2∧P.2≤1000) :
  az (dh N ((i:Int),B,bh,())) N (0,B,bh,())=some (B,bh.set i (Kx (wq r s P true true) (wq r s P true false),Kx (wq r s P false true) (wq r s P false false)),()):=by
 have e0:bh[i]?=some (bh[i]'(by omega)):=abo _;generalize (bh[i]'(by omega))=P0 at e0;have f0:=QA hN B bh bh i r s P P0 hB hi hl hr eA eS e0 eP hp;generalize Kx (wq r s P true true) (wq r s P true false)=v at f0 ⊢;have ls:(bh.set i (v,P0.2)).length=bh.length:=abK ..;have f1:=QB hN B bh (bh.set i (v,P0.2)) i r s P (v,P0.2) (by omega) (by omega) (by omega) hr eA eS (by rw [List.getElem?_set_self (by omega)]) (by rw [List.getElem?_set_ne (by omega)]; exact eP) hp;rw [List.set_set] at f1;generalize Kx (wq r s P false true) (wq r s P false false)=v' at f1 ⊢;have f2:=QC hN B (bh.set i (v,v')) ((i:Int),B,bh,());obtain ⟨k,hk⟩:∃ k,N=k+3:=⟨N - 3,by unfold fC at hN; omega⟩;have key:∀ m,m=k+3→az (dh N ((i:Int),B,bh,())) m (0,B,bh,())=some (B,bh.set i (v,v'),()):=by
  rintro m rfl;rw [aX,f0,aad,abv,aX,f1,aad,abv,aX,f2];rfl
 exact key N hk
end
def dO:List bE→Bool→Int
 |[],_=>0
 |r :: t,w=>match t with
  |[]=>0
  |s :: _=>Kx (wq r s (dO t true,dO t false) w true) (wq r s (dO t true,dO t false) w false)
theorem QE (c d:cQ):0≤Me c d∧Me c d≤1:=by unfold Me; split <;> omega
theorem wu:∀ (l:List bE) (w:Bool),0≤dO l w∧dO l w≤l.length
 |[],_=>⟨abI _,abI _⟩
 |[_],_=>⟨abI _,by show (0:Int)≤1; omega⟩
 |r :: s :: t,w=>by
  have h1:=wu (s :: t) true;have h2:=wu (s :: t) false;have s1:=QE (aM r w) (aM s true);have s2:=QE (aM r w) (aM s false);rw [dO];unfold Kx wq;rw [abt];simp only [if_true,aao,if_false];split <;> omega
def jG (l:List bE):Int × Int:=(dO l true,dO l false)
theorem QF (rows:List bE) {i:Nat} (hi:i+1 < rows.length):jG (rows.drop i)=(Kx (wq (rows[i]'(by omega)) rows[i+1] (jG (rows.drop (i+1))) true true) (wq (rows[i]'(by omega)) rows[i+1] (jG (rows.drop (i+1))) true false),Kx (wq (rows[i]'(by omega)) rows[i+1] (jG (rows.drop (i+1))) false true) (wq (rows[i]'(by omega)) rows[i+1] (jG (rows.drop (i+1))) false false)):=by
 rw [abF (i:=i) (by omega),abF hi];unfold jG;rw [dO,dO]
def j6 (rows:List bE) (m:Nat):List XA:=(abD rows.length).map fun j=>if m≤j then jG (rows.drop j) else (0,0)
theorem cG (rows:List bE) (m:Nat):(j6 rows m).length=rows.length:=by simp [j6]
theorem yS (rows:List bE) (m:Nat) {j:Nat} (hj:j < rows.length) (hm:m≤j):(j6 rows m)[j]?=some (jG (rows.drop j)):=by
 unfold j6;rw [abC,List.getElem?_range hj,Option.map_some,if_pos hm]
theorem Bj (rows:List bE) (m j:Nat) (h:j < (j6 rows m).length):(j6 rows m)[j]=if m≤j then jG (rows.drop j) else (0,0):=by
 simp [j6]
theorem QG (rows:List bE) {i:Nat} (hi:i < rows.length):(j6 rows (i+1)).set i (jG (rows.drop i))=j6 rows i:=by
 refine List.ext_getElem (by rw [abK,cG,cG]) fun j h1 h2=>?_
 rw [List.getElem_set,Bj,Bj];by_cases e:i=j
 ·subst e;rw [if_pos rfl,if_pos (abE _)]
 ·rw [if_neg e];by_cases h:i≤j
  ·rw [if_pos h,if_pos (by omega)]
  ·rw [if_neg h,if_neg (by omega)]
theorem Jd (rows:List bE) (h:0 < rows.length):j6 rows (rows.length - 1)=abM rows.length (0,0):=by
 refine List.ext_getElem (by rw [cG,ab3]) fun j h1 h2=>?_
 rw [List.getElem_replicate,Bj];split
 ·have hj:j=rows.length - 1:=by rw [cG] at h1; omega
  subst hj;rw [abF (by omega),List.drop_eq_nil_of_le (by omega)];rfl
 ·rfl
section
variable {N:Nat} (hN:fC N)
include hN
theorem Je (rows:List bE) (hr:∀ r∈rows,mX r∧r.2.2 - r.2.1≤512) (hl:rows.length≤1000) (h0:0 < rows.length) :
  az (rA N) N ((rows.length:Int) - 2,rows.map bD,abM rows.length (0,0),())=some (rows.map bD,j6 rows 0,()):=by
 have key:=cU (rd:=rA N) (rows.length - 1) (fun t=>((rows.length:Int) - 2 - (t:Int),rows.map bD,j6 rows (rows.length - 1 - t),())) (rows.map bD,j6 rows 0,()) (fun t ht=>by
  obtain ⟨i,hi⟩:∃ i,i+1+t=rows.length - 1:=⟨rows.length - 2 - t,by omega⟩;have e1:rows.length - 1 - t=i+1:=by omega
  have e2:rows.length - 1 - (t+1)=i:=by omega
  have e3:(rows.length:Int) - 2 - (t:Int)=(i:Int):=by omega
  have e4:(rows.length:Int) - 2 - ((t+1:Nat):Int)=(i:Int) - 1:=by omega
  have hm:(rows.map bD).length=rows.length:=aau _;have b1:=wu (rows.drop (i+1)) true;have b2:=wu (rows.drop (i+1)) false;have hd:(rows.drop (i+1)).length≤1000:=by rw [abX]; omega
  have q:=QD hN (rows.map bD) (j6 rows (i+1)) i (rows[i]'(by omega)) (rows[i+1]'(by omega)) (jG (rows.drop (i+1))) (by rw [cG]; exact hm) (by rw [cG]; omega) (by rw [cG]; exact hl) (hr _ (abq _))
   (by rw [abC,abo (by omega)]; rfl) (by rw [abC,abo (by omega)]; rfl) (yS rows _ (by omega) (abE _)) (by unfold jG; simp only; omega)
  rw [← QF rows (by omega),QG rows (by omega)] at q;simp only [e1,e2,e3,e4];have g0:decide ((i:Int)≥0)=true:=decide_eq_true (by omega);have w1:wrap .i64 ((i:Int) - 1)=(i:Int) - 1:=fT (by omega);simp only [rA,g0,gQ,gR,mV,mW,abn,aaB,abi,cond_true,aad,decide_true,q,w1]) (by
  have e3:(rows.length:Int) - 2 - ((rows.length - 1:Nat):Int)=-1:=by omega
  have g0:decide ((-1:Int)≥0)=false:=rfl;simp only [e3,ab5];simp only [rA,g0,gQ,gR,mV,mW,abn,aaB,abi,cond_true,cond_false,aad,decide_true]) N 0 (abN _) (by unfold fC at hN; omega)
 simp only [Nat.sub_zero,Int.natCast_zero,Int.sub_zero,Jd rows h0] at key;exact key
end
end Go.Proofs.YtldcljfjjoidhaaGreatDoor
namespace Go.Proofs.YtldcljfjjoidhaaGreatDoor
open Go Go.Am Go.Sort
open List (map)
open Int (toNat)
open Go.IntKind (wrap)
open Go.Am.aO (fits)
set_option maxRecDepth 100000
def QH (r s:bE) (P:Int × Int) (w:Bool):Bool:=decide (wq r s P w true≤wq r s P w false)
def Bk (w:Bool):Int:=if w then 0 else 1
section
variable {N:Nat} (hN:fC N)
include hN
theorem QI (y:List bE × Int) (B:List Jc) (st:List cQ) (bh:List XA) (i:Nat) (r s:bE) (P P0:Int × Int) (hB:B.length=bh.length) (hy:y.1.length=bh.length) (hi:i+1 < bh.length) (hl:bh.length≤1000) (hs:st.length=i) (hr:mX r∧r.2.2 - r.2.1≤512)
  (eA:B[i]?=some (bD r)) (eS:B[i+1]?=some (bD s)) (e0:bh[i]?=some P0) (eP:bh[i+1]?=some P) (hp:0≤P.1∧P.1≤1000∧0≤P.2∧P.2≤1000) :
  cX N y (0,st,(i:Int),B,bh,())=some (.inl (Bk (QH r s P true),st++[aM r true],((i+1:Nat):Int),B,bh,())):=by
 obtain ⟨a1,a2⟩:=nU eA;obtain ⟨b1,b2⟩:=nU eS;obtain ⟨c1,c2⟩:=uW e0;obtain ⟨d1,kW⟩:=uW eP;have q0:su N ((bD r).1,(bD r).2.1,(bD r).2.2.1,(bD r).2.2.2.1,(bD r).2.2.2.2.1)=some (dj (aM r true)):=ra hN _ (pV hr.1 hr.2 true);have s7:=yR B;have wi:wrap .i64 ((i:Int)+1)=((i+1:Nat):Int):=bw (by omega);have i0:decide ((i:Int) < (y.1.length:Int))=true:=decide_eq_true (by omega);have i1:decide ((0:Int)≤(i:Int)∧(i:Int) < (bh.length:Int))=true:=decide_eq_true (by omega);have i2:decide ((0:Int)≤(i:Int)∧(i:Int) < (B.length:Int))=true:=decide_eq_true (by omega);have i3:decide ((0:Int)≤((i+1:Nat):Int)∧((i+1:Nat):Int) < (B.length:Int))=true:=decide_eq_true (by omega);have i4:decide ((0:Int)≤((i+1:Nat):Int)∧((i+1:Nat):Int) < (bh.length:Int))=true:=decide_eq_true (by omega);have i5:decide (i+1 < bh.length)=true:=decide_eq_true (by omega);have i7:((((i+1:Nat):Int)) == (y.1.length:Int))=false:=beq_false_of_ne (by omega);have hb:decide ((i+1) * 32≤140737488355328)=true:=decide_eq_true (by omega);have sn:map iL st++[AV.agg [AV.int .i64 (bD r).1,AV.int .i64 (bD r).2.1,AV.bool (bD r).2.2.1,AV.bool (bD r).2.2.2.1,AV.int .i64 (bD r).2.2.2.2.1]]=map iL (st++[aM r true]):=by rw [abx]; rfl
 have ls:(st++[aM r true]).length=i+1:=by rw [aaY,hs]; rfl
 have z0:decide ((0:Int)=0)=true:=rfl;have u0:wrap .i64 (P.1+1)=P.1+1:=fT (by omega);have u1:wrap .i64 (P.2+1)=P.2+1:=fT (by omega);have k1:(((dj (aM r true)).1 == (bD s).1)&&((dj (aM r true)).2 == (bD s).2.1))=decide (dj (aM r true)=((aM s true).1,(aM s true).2.1)):=GR _ _ _;have k2:(((dj (aM r true)).1 == (bD s).2.2.2.2.2.1)&&((dj (aM r true)).2 == (bD s).2.2.2.2.2.2.1))=decide (dj (aM r true)=((aM s false).1,(aM s false).2.1)):=GR _ _ _;unfold QH wq Me Bk;by_cases D1:dj (aM r true)=((aM s true).1,(aM s true).2.1)
 ·by_cases D2:dj (aM r true)=((aM s false).1,(aM s false).2.1)
  ·rw [decide_eq_true D1] at k1;rw [decide_eq_true D2] at k2;simp only [if_pos D1,if_pos D2,if_true,if_false,aao,abr];cases hle:decide (P.1≤P.2) <;> simp only [cX,eR,eT,eV,eY,cS,dA,cT,di,eX,eU,aau,aaO,abp,a1,a2,b1,b2,c1,c2,d1,kW,wi,i0,i1,i2,i3,i4,i5,i7,hs,hb,sn,ls,z0,q0,k1,k2,s7,hle,aaB,abi,cond_true,cond_false,aad,beq_self_eq_true,decide_true,abn,gQ,gR,mV,mW,uN,uO,aaY,abj,u0,u1,if_true,if_false,aao,abv]
  ·rw [decide_eq_true D1] at k1;rw [decide_eq_false D2] at k2;simp only [if_pos D1,if_neg D2,if_true,if_false,aao,abr];cases hle:decide (P.1≤P.2+1) <;> simp only [cX,eR,eT,eV,eY,cS,dA,cT,di,eX,eU,aau,aaO,abp,a1,a2,b1,b2,c1,c2,d1,kW,wi,i0,i1,i2,i3,i4,i5,i7,hs,hb,sn,ls,z0,q0,k1,k2,s7,hle,aaB,abi,cond_true,cond_false,aad,beq_self_eq_true,decide_true,abn,gQ,gR,mV,mW,uN,uO,aaY,abj,u0,u1,if_true,if_false,aao,abv]
 ·by_cases D2:dj (aM r true)=((aM s false).1,(aM s false).2.1)
  ·rw [decide_eq_false D1] at k1;rw [decide_eq_true D2] at k2;simp only [if_neg D1,if_pos D2,if_true,if_false,aao,abr];cases hle:decide (P.1+1≤P.2) <;> simp only [cX,eR,eT,eV,eY,cS,dA,cT,di,eX,eU,aau,aaO,abp,a1,a2,b1,b2,c1,c2,d1,kW,wi,i0,i1,i2,i3,i4,i5,i7,hs,hb,sn,ls,z0,q0,k1,k2,s7,hle,aaB,abi,cond_true,cond_false,aad,beq_self_eq_true,decide_true,abn,gQ,gR,mV,mW,uN,uO,aaY,abj,u0,u1,if_true,if_false,aao,abv]
  ·rw [decide_eq_false D1] at k1;rw [decide_eq_false D2] at k2;simp only [if_neg D1,if_neg D2,if_true,if_false,aao,abr];cases hle:decide (P.1+1≤P.2+1) <;> simp only [cX,eR,eT,eV,eY,cS,dA,cT,di,eX,eU,aau,aaO,abp,a1,a2,b1,b2,c1,c2,d1,kW,wi,i0,i1,i2,i3,i4,i5,i7,hs,hb,sn,ls,z0,q0,k1,k2,s7,hle,aaB,abi,cond_true,cond_false,aad,beq_self_eq_true,decide_true,abn,gQ,gR,mV,mW,uN,uO,aaY,abj,u0,u1,if_true,if_false,aao,abv]
theorem QJ (y:List bE × Int) (B:List Jc) (st:List cQ) (bh:List XA) (i:Nat) (r:bE) (hB:B.length=bh.length) (hy:y.1.length=bh.length) (hi:i+1=bh.length) (hl:bh.length≤1000) (hs:st.length=i)
  (eA:B[i]?=some (bD r)) :
  cX N y (0,st,(i:Int),B,bh,())=some (.inr (st++[aM r true],B,bh,())):=by
 obtain ⟨a1,a2⟩:=nU eA;have wi:wrap .i64 ((i:Int)+1)=((i+1:Nat):Int):=bw (by omega);have i0:decide ((i:Int) < (y.1.length:Int))=true:=decide_eq_true (by omega);have i2:decide ((0:Int)≤(i:Int)∧(i:Int) < (B.length:Int))=true:=decide_eq_true (by omega);have i7:((((i+1:Nat):Int)) == (y.1.length:Int))=true:=beq_iff_eq.2 (by omega);have hb:decide ((i+1) * 32≤140737488355328)=true:=decide_eq_true (by omega);have sn:map iL st++[AV.agg [AV.int .i64 (bD r).1,AV.int .i64 (bD r).2.1,AV.bool (bD r).2.2.1,AV.bool (bD r).2.2.2.1,AV.int .i64 (bD r).2.2.2.2.1]]=map iL (st++[aM r true]):=by rw [abx]; rfl
 have ls:(st++[aM r true]).length=i+1:=by rw [aaY,hs]; rfl
 have z0:decide ((0:Int)=0)=true:=rfl;simp only [cX,eR,eT,eV,eY,cS,dA,cT,di,eX,eU,aau,aaO,abp,a1,a2,wi,i0,i2,i7,hs,hb,sn,ls,z0,aaB,abi,cond_true,cond_false,aad,beq_self_eq_true,decide_true,abn,gQ,gR,mV,mW,uN,uO,aaY,abj,Sum.elim_inr]
theorem QK (y:List bE × Int) (B:List Jc) (st:List cQ) (bh:List XA) (i:Nat) (r s:bE) (P P0:Int × Int) (hB:B.length=bh.length) (hy:y.1.length=bh.length) (hi:i+1 < bh.length) (hl:bh.length≤1000) (hs:st.length=i) (hr:mX r∧r.2.2 - r.2.1≤512)
  (eA:B[i]?=some (bD r)) (eS:B[i+1]?=some (bD s)) (e0:bh[i]?=some P0) (eP:bh[i+1]?=some P) (hp:0≤P.1∧P.1≤1000∧0≤P.2∧P.2≤1000) :
  cX N y (1,st,(i:Int),B,bh,())=some (.inl (Bk (QH r s P false),st++[aM r false],((i+1:Nat):Int),B,bh,())):=by
 obtain ⟨a1,a2⟩:=nU eA;obtain ⟨b1,b2⟩:=nU eS;obtain ⟨c1,c2⟩:=uW e0;obtain ⟨d1,kW⟩:=uW eP;have q0:su N ((bD r).2.2.2.2.2.1,(bD r).2.2.2.2.2.2.1,(bD r).2.2.2.2.2.2.2.1,(bD r).2.2.2.2.2.2.2.2.1,(bD r).2.2.2.2.2.2.2.2.2)=some (dj (aM r false)):=ra hN _ (pV hr.1 hr.2 false);have s7:=yR B;have wi:wrap .i64 ((i:Int)+1)=((i+1:Nat):Int):=bw (by omega);have i0:decide ((i:Int) < (y.1.length:Int))=true:=decide_eq_true (by omega);have i1:decide ((0:Int)≤(i:Int)∧(i:Int) < (bh.length:Int))=true:=decide_eq_true (by omega);have i2:decide ((0:Int)≤(i:Int)∧(i:Int) < (B.length:Int))=true:=decide_eq_true (by omega);have i3:decide ((0:Int)≤((i+1:Nat):Int)∧((i+1:Nat):Int) < (B.length:Int))=true:=decide_eq_true (by omega);have i4:decide ((0:Int)≤((i+1:Nat):Int)∧((i+1:Nat):Int) < (bh.length:Int))=true:=decide_eq_true (by omega);have i5:decide (i+1 < bh.length)=true:=decide_eq_true (by omega);have i7:((((i+1:Nat):Int)) == (y.1.length:Int))=false:=beq_false_of_ne (by omega);have hb:decide ((i+1) * 32≤140737488355328)=true:=decide_eq_true (by omega);have sn:map iL st++[AV.agg [AV.int .i64 (bD r).2.2.2.2.2.1,AV.int .i64 (bD r).2.2.2.2.2.2.1,AV.bool (bD r).2.2.2.2.2.2.2.1,AV.bool (bD r).2.2.2.2.2.2.2.2.1,AV.int .i64 (bD r).2.2.2.2.2.2.2.2.2]]=map iL (st++[aM r false]):=by rw [abx]; rfl
 have ls:(st++[aM r false]).length=i+1:=by rw [aaY,hs]; rfl
 have z0:decide ((1:Int)=0)=false:=rfl;have z1:decide ((1:Int)=1)=true:=rfl;have u0:wrap .i64 (P.1+1)=P.1+1:=fT (by omega);have u1:wrap .i64 (P.2+1)=P.2+1:=fT (by omega);have k1:(((dj (aM r false)).1 == (bD s).1)&&((dj (aM r false)).2 == (bD s).2.1))=decide (dj (aM r false)=((aM s true).1,(aM s true).2.1)):=GR _ _ _;have k2:(((dj (aM r false)).1 == (bD s).2.2.2.2.2.1)&&((dj (aM r false)).2 == (bD s).2.2.2.2.2.2.1))=decide (dj (aM r false)=((aM s false).1,(aM s false).2.1)):=GR _ _ _;unfold QH wq Me Bk;by_cases D1:dj (aM r false)=((aM s true).1,(aM s true).2.1)
 ·by_cases D2:dj (aM r false)=((aM s false).1,(aM s false).2.1)
  ·rw [decide_eq_true D1] at k1;rw [decide_eq_true D2] at k2;simp only [if_pos D1,if_pos D2,if_true,if_false,aao,abr];cases hle:decide (P.1≤P.2) <;> simp only [cX,eR,eT,eV,eY,cS,dA,cT,di,eX,eU,aau,aaO,abp,a1,a2,b1,b2,c1,c2,d1,kW,wi,i0,i1,i2,i3,i4,i5,i7,hs,hb,sn,ls,z0,z1,q0,k1,k2,s7,hle,aaB,abi,cond_true,cond_false,aad,beq_self_eq_true,decide_true,abn,gQ,gR,mV,mW,uN,uO,aaY,abj,u0,u1,if_true,if_false,aao,abv]
  ·rw [decide_eq_true D1] at k1;rw [decide_eq_false D2] at k2;simp only [if_pos D1,if_neg D2,if_true,if_false,aao,abr];cases hle:decide (P.1≤P.2+1) <;> simp only [cX,eR,eT,eV,eY,cS,dA,cT,di,eX,eU,aau,aaO,abp,a1,a2,b1,b2,c1,c2,d1,kW,wi,i0,i1,i2,i3,i4,i5,i7,hs,hb,sn,ls,z0,z1,q0,k1,k2,s7,hle,aaB,abi,cond_true,cond_false,aad,beq_self_eq_true,decide_true,abn,gQ,gR,mV,mW,uN,uO,aaY,abj,u0,u1,if_true,if_false,aao,abv]
 ·by_cases D2:dj (aM r false)=((aM s false).1,(aM s false).2.1)
  ·rw [decide_eq_false D1] at k1;rw [decide_eq_true D2] at k2;simp only [if_neg D1,if_pos D2,if_true,if_false,aao,abr];cases hle:decide (P.1+1≤P.2) <;> simp only [cX,eR,eT,eV,eY,cS,dA,cT,di,eX,eU,aau,aaO,abp,a1,a2,b1,b2,c1,c2,d1,kW,wi,i0,i1,i2,i3,i4,i5,i7,hs,hb,sn,ls,z0,z1,q0,k1,k2,s7,hle,aaB,abi,cond_true,cond_false,aad,beq_self_eq_true,decide_true,abn,gQ,gR,mV,mW,uN,uO,aaY,abj,u0,u1,if_true,if_false,aao,abv]
  ·rw [decide_eq_false D1] at k1;rw [decide_eq_false D2] at k2;simp only [if_neg D1,if_neg D2,if_true,if_false,aao,abr];cases hle:decide (P.1+1≤P.2+1) <;> simp only [cX,eR,eT,eV,eY,cS,dA,cT,di,eX,eU,aau,aaO,abp,a1,a2,b1,b2,c1,c2,d1,kW,wi,i0,i1,i2,i3,i4,i5,i7,hs,hb,sn,ls,z0,z1,q0,k1,k2,s7,hle,aaB,abi,cond_true,cond_false,aad,beq_self_eq_true,decide_true,abn,gQ,gR,mV,mW,uN,uO,aaY,abj,u0,u1,if_true,if_false,aao,abv]
theorem QL (y:List bE × Int) (B:List Jc) (st:List cQ) (bh:List XA) (i:Nat) (r:bE) (hB:B.length=bh.length) (hy:y.1.length=bh.length) (hi:i+1=bh.length) (hl:bh.length≤1000) (hs:st.length=i)
  (eA:B[i]?=some (bD r)) :
  cX N y (1,st,(i:Int),B,bh,())=some (.inr (st++[aM r false],B,bh,())):=by
 obtain ⟨a1,a2⟩:=nU eA;have wi:wrap .i64 ((i:Int)+1)=((i+1:Nat):Int):=bw (by omega);have i0:decide ((i:Int) < (y.1.length:Int))=true:=decide_eq_true (by omega);have i2:decide ((0:Int)≤(i:Int)∧(i:Int) < (B.length:Int))=true:=decide_eq_true (by omega);have i7:((((i+1:Nat):Int)) == (y.1.length:Int))=true:=beq_iff_eq.2 (by omega);have hb:decide ((i+1) * 32≤140737488355328)=true:=decide_eq_true (by omega);have sn:map iL st++[AV.agg [AV.int .i64 (bD r).2.2.2.2.2.1,AV.int .i64 (bD r).2.2.2.2.2.2.1,AV.bool (bD r).2.2.2.2.2.2.2.1,AV.bool (bD r).2.2.2.2.2.2.2.2.1,AV.int .i64 (bD r).2.2.2.2.2.2.2.2.2]]=map iL (st++[aM r false]):=by rw [abx]; rfl
 have ls:(st++[aM r false]).length=i+1:=by rw [aaY,hs]; rfl
 have z0:decide ((1:Int)=0)=false:=rfl;have z1:decide ((1:Int)=1)=true:=rfl;simp only [cX,eR,eT,eV,eY,cS,dA,cT,di,eX,eU,aau,aaO,abp,a1,a2,wi,i0,i2,i7,hs,hb,sn,ls,z0,z1,aaB,abi,cond_true,cond_false,aad,beq_self_eq_true,decide_true,abn,gQ,gR,mV,mW,uN,uO,aaY,abj,Sum.elim_inr]
end
def uX:List bE→Bool→List cQ
 |[],_=>[]
 |r :: t,w=>aM r w :: (match t with
  |[]=>[]
  |s :: _=>uX t (QH r s (jG t) w))
theorem uY:∀ (l:List bE) (w:Bool),(uX l w).length=l.length
 |[],_=>rfl
 |[_],_=>rfl
 |r :: s :: t,w=>by
  rw [uX,abt,uY (s :: t)];rfl
section
variable {N:Nat} (hN:fC N)
include hN
theorem QM (y:List bE × Int) (hr:∀ r∈y.1,mX r∧r.2.2 - r.2.1≤512) (hl:y.1.length≤1000):∀ (t:List bE) (r:bE) (i:Nat) (w:Bool) (st:List cQ) (m:Nat),
  y.1.drop i=r :: t→st.length=i→t.length < m→az (cX N y) m (Bk w,st,(i:Int),y.1.map bD,j6 y.1 0,())=some (st++uX (r :: t) w,y.1.map bD,j6 y.1 0,()):=by
 intro t
 induction t with
 |nil=>
  intro r i w st m hd hs hm;have hlen:y.1.length=i+1:=by
   have:=congrArg ab6 hd;rw [abX] at this;simp only [abj] at this;omega
  have er:y.1[i]?=some r:=by
   have:=congrArg (fun l=>l[0]?) hd;simpa using this
  have eA:(y.1.map bD)[i]?=some (bD r):=by rw [abC,er]; rfl
  obtain ⟨k,rfl⟩:∃ k,m=k+1:=⟨m - 1,by omega⟩;rw [aX];have q:cX N y (Bk w,st,(i:Int),y.1.map bD,j6 y.1 0,())=some (.inr (st++[aM r w],y.1.map bD,j6 y.1 0,())):=by
   cases w
   ·exact QL hN y _ st _ i r (by rw [aau,cG]) (by rw [cG]) (by rw [cG]; omega) (by rw [cG]; exact hl) hs eA
   ·exact QJ hN y _ st _ i r (by rw [aau,cG]) (by rw [cG]) (by rw [cG]; omega) (by rw [cG]; exact hl) hs eA
  rw [q];rfl
 |cons s t ih=>
  intro r i w st m hd hs hm;have hlen:y.1.length=i+(t.length+2):=by
   have:=congrArg ab6 hd;rw [abX] at this;simp only [abt] at this;omega
  have er:y.1[i]?=some r:=by
   have:=congrArg (fun l=>l[0]?) hd;simpa using this
  have es:y.1[i+1]?=some s:=by
   have:=congrArg (fun l=>l[1]?) hd;simpa using this
  have WM:y.1.drop (i+1)=s :: t:=by
   have:=congrArg List.tail hd;rw [List.tail_drop] at this;exact this
  have hrr:=hr r (List.mem_of_getElem? er);have eA:(y.1.map bD)[i]?=some (bD r):=by rw [abC,er]; rfl
  have eS:(y.1.map bD)[i+1]?=some (bD s):=by rw [abC,es]; rfl
  have e0:(j6 y.1 0)[i]?=some (jG (y.1.drop i)):=yS _ _ (by omega) (abN _);have eP:(j6 y.1 0)[i+1]?=some (jG (s :: t)):=by rw [← WM]; exact yS _ _ (by omega) (abN _)
  have b1:=wu (s :: t) true;have b2:=wu (s :: t) false;rw [abt] at b1 b2;have hp:0≤(jG (s :: t)).1∧(jG (s :: t)).1≤1000∧0≤(jG (s :: t)).2∧(jG (s :: t)).2≤1000:=by unfold jG; simp only; omega
  obtain ⟨k,rfl⟩:∃ k,m=k+1:=⟨m - 1,by omega⟩;rw [aX];have q:cX N y (Bk w,st,(i:Int),y.1.map bD,j6 y.1 0,())=some (.inl (Bk (QH r s (jG (s :: t)) w),st++[aM r w],((i+1:Nat):Int),y.1.map bD,j6 y.1 0,())):=by
   cases w
   ·exact QK hN y _ st _ i r s _ _ (by rw [aau,cG]) (by rw [cG]) (by rw [cG]; omega) (by rw [cG]; exact hl) hs hrr eA eS e0 eP hp
   ·exact QI hN y _ st _ i r s _ _ (by rw [aau,cG]) (by rw [cG]) (by rw [cG]; omega) (by rw [cG]; exact hl) hs hrr eA eS e0 eP hp
  rw [q,aad,abv,ih s (i+1) _ _ k WM (by rw [aaY,hs]; rfl) (by rw [abt] at hm; omega)];rw [uX,abH];rfl
end
def ao (l:List aF):List bE × Int:=if dC l=0 then Dd l else ([],dC l)
theorem uZ (l:List aF):(∀ r∈(ao l).1,mX r)∧(ao l).1.length≤1000000∧((ao l).2=0→0 < (ao l).1.length):=by
 unfold ao;by_cases h:dC l=0
 ·rw [if_pos h];unfold Dd;by_cases h0:l=[]
  ·rw [if_pos h0]; exact ⟨fun r hr=>(by cases hr),by simp,fun h=>by simp at h⟩
  ·rw [if_neg h0];have hlp:0 < l.length:=List.length_pos_iff.2 h0;have bd:=Qr h hlp;by_cases ho:Qq l
   ·rw [if_pos ho];have e:(jD l).length=pR l:=by simp [jD]
    refine ⟨fun r hr=>Kw h ho hr,?_,fun _=>?_⟩
    ·show (jD l).length≤1000000;rw [e]; unfold pR; omega
    ·show 0 < (jD l).length;rw [e]; unfold pR; omega
   ·rw [if_neg ho]; exact ⟨fun r hr=>(by cases hr),by simp,fun h=>by simp at h⟩
 ·rw [if_neg h]; exact ⟨fun r hr=>(by cases hr),by simp,fun h2=>absurd h2 h⟩
def va (rows:List bE):Bool:=((abD rows.length).find? fun k=>EG (rows.getD k (0,0,0))).isSome
theorem Wa {rows:List bE} (h:va rows=false):∀ r∈rows,r.2.2 - r.2.1≤512:=by
 intro r hr;obtain ⟨k,hk,rfl⟩:=abu hr;unfold va at h;rw [Option.isSome_eq_false_iff,Option.isNone_iff_eq_none,List.find?_eq_none] at h;have:=h k (by simpa using hk);have e:rows.getD k (0,0,0)=rows[k]:=by simp [hk]
 rw [e] at this;unfold EG at this;simp at this;omega
def B4 (l:List aF):Int:=aU [(ao l).2,if (ao l).1.length > 256 then 5 else 0,if va (ao l).1 then 3 else 0]
def kT (rows:List bE):Bool:=!decide (dO rows false < dO rows true)
theorem Wb {l:List aF} (h:B4 l=0):(ao l).2=0∧(ao l).1.length≤256∧∀ r∈(ao l).1,mX r∧r.2.2 - r.2.1≤512:=by
 have h:=dz.1 h;have h1:=h (ao l).2 (by simp);have h2:=h (if (ao l).1.length > 256 then 5 else 0) (by simp);have h3:=h (if va (ao l).1 then 3 else 0) (by simp);refine ⟨h1,?_,fun r hr=>⟨(uZ l).1 r hr,Wa ?_ r hr⟩⟩
 ·by_cases e:(ao l).1.length > 256
  ·rw [if_pos e] at h2; cases h2
  ·omega
 ·cases e:va (ao l).1 with
  |true=>rw [e] at h3; cases h3
  |false=>rfl
end Go.Proofs.YtldcljfjjoidhaaGreatDoor
namespace Go.Proofs.YtldcljfjjoidhaaGreatDoor
open Go Go.Am Go.Sort
open List (map)
open Int (toNat)
open Go.IntKind (wrap)
open Go.Am.aO (fits)
set_option maxRecDepth 100000
def Di (l:List aF):List cQ × Int:=if B4 l=0 then (uX (ao l).1 (kT (ao l).1),0) else ([],B4 l)
section
variable {N:Nat} (hN:fC N)
include hN
theorem Dj (l:List aF):T15 N l=some (ao l):=by rw [Qu hN]; rfl
theorem QN (l:List aF):T57 N l=some (Di l):=by
 obtain ⟨x1,x2,x3⟩:=uZ l;have z3:∀ x y z:Int,((bif (allFit (fits xq) [(AV.int .i64 x),(AV.int .i64 y),(AV.int .i64 z)]&&true) then some (map kN [(AV.int .i64 x),(AV.int .i64 y),(AV.int .i64 z)]) else none:Option (kM)))=some [x,y,z]:=fun _ _ _=>rfl
 have aeN:((az (kq N (ao l)) N 0).bind fun o8=>Sum.elim (fun o9=>(some o9:Option Int)) (fun _=>some (-1)) o8)=some (match (abD (ao l).1.length).find? (fun k=>EG ((ao l).1.getD k (0,0,0))) with | some j=>(j:Int) | none=>-1):=by
  rw [Qy hN _ x1 x2,aad];cases (abD (ao l).1.length).find? (fun k=>EG ((ao l).1.getD k (0,0,0))) <;> rfl
 have DU:decide ((match (abD (ao l).1.length).find? (fun k=>EG ((ao l).1.getD k (0,0,0))) with | some j=>(j:Int) | none=>-1)≥0)=va (ao l).1:=by
  unfold va;cases (abD (ao l).1.length).find? (fun k=>EG ((ao l).1.getD k (0,0,0))) with
  |none=>rfl
  |some j=>exact decide_eq_true (by show (0:Int)≤(j:Int); omega)
 have aeO:(if decide ((((ao l).1.length:Nat):Int) > 256)=true then (5:Int) else 0)=if (ao l).1.length > 256 then 5 else 0:=by
  by_cases h:(ao l).1.length > 256
  ·rw [if_pos h,decide_eq_true (by omega),if_pos rfl]
  ·rw [if_neg h,decide_eq_false (by omega),if_neg (by simp)]
 have hz:(bif (allFit (fits xq) [(AV.int .i64 (ao l).2),(AV.int .i64 (if (ao l).1.length > 256 then 5 else 0)),(AV.int .i64 (if va (ao l).1 then 3 else 0))]&&true) then some (map kN [(AV.int .i64 (ao l).2),(AV.int .i64 (if (ao l).1.length > 256 then 5 else 0)),(AV.int .i64 (if va (ao l).1 then 3 else 0))]) else none:Option (kM))=some [(ao l).2,if (ao l).1.length > 256 then 5 else 0,if va (ao l).1 then 3 else 0]:=z3 _ _ _;rw [aa9];simp only [cq,b9,abi,cond_true,aad,Dj hN,aau];rw [aeN,aad,mD,aad,mD,aad,DU,aeO];simp only [abi] at hz;rw [hz,aad,oD hN _ (by simp),aad,Hj];unfold Di;by_cases h:B4 l=0
 ·rw [if_pos h];have h':aU [(ao l).2,if (ao l).1.length > 256 then 5 else 0,if va (ao l).1 then 3 else 0]=0:=h;rw [if_pos h'];obtain ⟨e1,e2,e3⟩:=Wb h;have h0:=x3 e1;have q1:=V8 hN (ao l) x1 x2;have q2:=Je hN (ao l).1 e3 (by omega) h0;obtain ⟨r,t,hrt⟩:∃ r t,(ao l).1=r :: t:=by
   cases hh:(ao l).1 with
   |nil=>rw [hh] at h0; cases h0
   |cons r t=>exact ⟨r,t,rfl⟩
  have q3:=QM hN (ao l) e3 (by omega) t r 0 (kT (ao l).1) [] N hrt rfl (by
   have:=congrArg ab6 hrt;rw [abt] at this;unfold fC at hN; omega)
  have z0:((bif (allFit (fits fM) ([]:List AV)) then some ((map a8 ([]:List AV)),0) else none:Option (List Jc × Int)).bind fun RB=>bif decide (0=RB.1.length) then some RB else none)=some ([],0):=rfl;have i1:decide ((0:Int)≤((ao l).1.length:Int)∧((ao l).1.length:Int)≤((ao l).1.length:Int)∧((ao l).1.length:Int)≤140737488355328∧((ao l).1.length:Int) * 16≤140737488355328)=true:=decide_eq_true (by omega);have CF:abM (ao l).1.length (AV.agg [AV.int .i64 0,AV.int .i64 0])=map we (abM (ao l).1.length (0,0)):=by rw [List.map_replicate]; rfl
  have w1:wrap .i64 (((ao l).1.length:Int) - 2)=((ao l).1.length:Int) - 2:=fT (by omega);have hb0:(j6 (ao l).1 0)[0]?=some (jG (ao l).1):=yS _ _ h0 (abE _);obtain ⟨c1,c2⟩:=uW hb0;have bl:=cG (ao l).1 0;have i2:decide ((0:Int)≤0∧0 < ((ao l).1.length:Int))=true:=decide_eq_true (by omega);have i3:decide (0 < (ao l).1.length)=true:=decide_eq_true h0;have ml:((ao l).1.map bD).length=(ao l).1.length:=aau _;simp only [z0,q1,i1,CF,w1,q2,c1,c2,bl,i2,i3,gQ,gR,mV,mW,aaO,Int.toNat_zero,Nat.add_zero,aau,ab3,abn,aaB,abi,cond_true,decide_true,aad];have hw:(bif decide ((jG (ao l).1).2 < (jG (ao l).1).1) then some ((1:Int),(ao l).1.map bD,j6 (ao l).1 0,()) else some (0,(ao l).1.map bD,j6 (ao l).1 0,()))=some (Bk (kT (ao l).1),(ao l).1.map bD,j6 (ao l).1 0,()):=by
   unfold kT jG;cases decide (dO (ao l).1 false < dO (ao l).1 true) <;> rfl
  have z9:(bif allFit (fits qf) ([]:List AV) then some (Bk (kT (ao l).1),map bM ([]:List AV),(0:Int),(ao l).1.map bD,j6 (ao l).1 0,()) else none)=some (Bk (kT (ao l).1),[],0,(ao l).1.map bD,j6 (ao l).1 0,()):=rfl;simp only [Int.natCast_zero,ab1,← hrt] at q3;rw [hw,aad];simp only [z9,aad,decide_true,List.length_nil,aaB,cond_true,q3,uN,uO]
 ·rw [if_neg h];have h':¬ aU [(ao l).2,if (ao l).1.length > 256 then 5 else 0,if va (ao l).1 then 3 else 0]=0:=h;rw [if_neg h'];rfl
end
def xD (b:List cQ):Int:=((BA b b.length).length:Int)
theorem QO (b:List cQ) (d:List cQ) {i:Nat} (h:i < b.length):lq (b++d) i=lq b i:=by
 unfold lq;have e:∀ j,j < b.length→(b++d).getD j (0,0,false,false,0)=b.getD j (0,0,false,false,0):=fun j hj=>by
  rw [abA,abA,abG hj]
 rw [e i h,e (i - 1) (by omega)]
theorem Wc (b d:List cQ):BA (b++d) b.length=BA b b.length:=by
 unfold BA;congr 1;refine List.filter_congr fun i hi=>?_
 rw [abw] at hi;exact QO b d hi
section
variable {N:Nat} (hN:fC N)
include hN
theorem GS (b:List cQ) (c d:cQ):xD (b++[c]++[d])=xD (b++[c])+Me c d:=by
 unfold xD;have e:(b++[c]++[d]).length=(b++[c]).length+1:=by rw [aaY]; rfl
 rw [e,A5 hN,Wc];have hl:(b++[c]).length=b.length+1:=by rw [aaY]; rfl
 have g1:(b++[c]++[d]).getD (b++[c]).length (0,0,false,false,0)=d:=by
  rw [abA,abQ (abE _),ab5]; rfl
 have g2:(b++[c]++[d]).getD ((b++[c]).length - 1) (0,0,false,false,0)=c:=by
  rw [abA,abG (by omega),hl,Nat.add_sub_cancel,abQ (abE _),ab5]; rfl
 have ht:lq (b++[c]++[d]) (b++[c]).length=!decide (dj c=(d.1,d.2.1)):=by
  unfold lq;rw [g1,g2];have:((b++[c]).length == 0)=false:=beq_false_of_ne (by omega);rw [this,Bool.false_or];rfl
 rw [ht];unfold Me;by_cases h:dj c=(d.1,d.2.1)
 ·rw [decide_eq_true h,if_pos h,Bool.not_true,if_neg (by simp)];omega
 ·rw [decide_eq_false h,if_neg h,Bool.not_false,if_pos rfl,aaY,abj];omega
theorem Ky (c:cQ):xD ([]++[c])=1:=rfl
theorem Kz:∀ (t:List bE) (b:List cQ) (r:bE) (w:Bool),xD (b++uX (r :: t) w)=xD (b++[aM r w])+dO (r :: t) w
 |[],b,r,w=>by
  show xD (b++[aM r w])=_+0;omega
 |s :: t,b,r,w=>by
  have ih:=Kz t (b++[aM r w]) s (QH r s (jG (s :: t)) w);rw [GS hN] at ih;have e:b++uX (r :: s :: t) w=b++[aM r w]++uX (s :: t) (QH r s (jG (s :: t)) w):=by
   rw [uX,abH];rfl
  rw [e,ih,dO];have ec:jG (s :: t)=(dO (s :: t) true,dO (s :: t) false):=rfl;rw [ec];unfold QH Kx wq;simp only [if_true,aao,if_false];by_cases h:dO (s :: t) true+Me (aM r w) (aM s true)≤dO (s :: t) false+Me (aM r w) (aM s false)
  ·rw [decide_eq_true h,if_neg (by omega)];omega
  ·rw [decide_eq_false h,if_pos (by omega)];omega
end
end Go.Proofs.YtldcljfjjoidhaaGreatDoor
namespace Go.Proofs.YtldcljfjjoidhaaGreatDoor
open Go Go.Am Go.Sort
open List (map)
open Int (toNat)
open Go.IntKind (wrap)
open Go.Am.aO (fits)
set_option maxRecDepth 100000
def nV (a b:aF):Bool:=decide (fO a=fO b) || decide (fO a=gK b) || decide (gK a=fO b) || decide (gK a=gK b)
def jW (l:List aF) (k:Int × Int):Nat:=(l.filter fun b=>decide (fO b=k) || decide (gK b=k)).length
def Dk (b:aF) (o:List aF) (x:aF):List aF:=if nV b x=true∧x∉o then o++[x] else o
theorem EH (b:aF):∀ (l:List aF) (o:List aF),∃ t,l.foldl (Dk b) o=o++t
 |[],o=>⟨[],(List.append_nil o).symm⟩
 |x :: l,o=>by
  obtain ⟨t,ht⟩:=EH b l (Dk b o x);rw [List.foldl_cons,ht];unfold Dk;split
  ·exact ⟨[x]++t,by rw [abH]⟩
  ·exact ⟨t,rfl⟩
theorem abg (b:aF) {l:List aF} {o:List aF} (ho:o.Nodup∧∀ x∈o,x∈l) {x:aF} (hx:x∈l):(Dk b o x).Nodup∧∀ y∈Dk b o x,y∈l:=by
 unfold Dk;split
 ·rename_i h;refine ⟨?_,fun y hy=>?_⟩
  ·rw [abT];refine ⟨ho.1,by simp,fun a ha c hc=>?_⟩;rw [aby] at hc;subst hc;intro e;subst e;exact h.2 ha
  ·rcases List.mem_append.1 hy with hy|hy
   ·exact ho.2 y hy
   ·rw [aby] at hy; subst hy; exact hx
 ·exact ho
theorem KA (b:aF) {l:List aF}:∀ (m o:List aF),(o.Nodup∧∀ x∈o,x∈l)→(∀ x∈m,x∈l)→(m.foldl (Dk b) o).Nodup∧∀ y∈m.foldl (Dk b) o,y∈l
 |[],_,ho,_=>ho
 |x :: m,o,ho,hm=>KA b m (Dk b o x) (abg b ho (hm x abO)) fun y hy=>hm y (abL _ hy)
def Mf (l:List aF):Nat→List aF→Nat→List aF
 |0,o,_=>o
 |n+1,o,i=>if h:i < o.length then Mf l n (l.foldl (Dk o[i]) o) (i+1) else o
theorem fN {α:Type} [DecidableEq α]:∀ (o l:List α),o.Nodup→(∀ x∈o,x∈l)→o.length≤l.length
 |[],_,_,_=>abN _
 |x :: o,l,hn,h=>by
  have hx:=h x abO;obtain ⟨Jq,hn2⟩:=List.nodup_cons.1 hn;have:=fN o (l.erase x) hn2 fun y hy=>by
   have cK:y≠x:=fun e=>Jq (e ▸ hy)
   exact (List.mem_erase_of_ne cK).2 (h y (abL _ hy))
  rw [List.length_erase_of_mem hx] at this;have nH:=List.length_pos_of_mem hx;rw [abt];omega
section
variable {N:Nat} (hN:fC N)
include hN
end
theorem ai1 (C:List (List aF)) {k:Nat} (hk:k < C.length):EE (ae (map iN C) k)=C[k]∧fits iF (ae (map iN C) k)=true:=by
 have h:=gd iN C k hk;rw [h];exact ⟨(aO.bI iF C[k] rfl).2,(aO.bI iF C[k] rfl).1⟩
theorem abh (s:List (List aF)) (l:List aF):map iN s++[AV.list .lM 3 (map cC l)]=map iN (s++[l]):=by
 rw [abx];rfl
def cr (l:List aF) (b:aF):List aF:=Gv (ltOf gj) (0,0,0) (Mf l l.length [b] 0)
def rB (l:List aF) (P:List (List aF)) (b:aF):List (List aF):=if (P.any fun p=>decide (b∈p))=true then P else P++[cr l b]
section
variable {N:Nat} (hN:fC N)
include hN
end
inductive BD (l:List aF) (b:aF):aF→Prop
 |base:BD l b b
 |step {x y:aF}:BD l b x→y∈l→nV x y=true→BD l b y
theorem Bl (b:aF) (m o:List aF) {x:aF} (hx:x∈o):x∈m.foldl (Dk b) o:=by
 obtain ⟨t,ht⟩:=EH b m o;rw [ht];exact List.mem_append_left _ hx
theorem KB (b:aF):∀ (m o:List aF) (y:aF),y∈m→nV b y=true→y∈m.foldl (Dk b) o
 |[],_,_,h,_=>by cases h
 |x :: m,o,y,h,ht=>by
  rw [List.foldl_cons];rcases abP.1 h with rfl|h
  ·refine Bl b m _ ?_;unfold Dk;by_cases hy:y∈o
   ·rw [if_neg (fun h=>h.2 hy)]; exact hy
   ·rw [if_pos ⟨ht,hy⟩]; simp
  ·exact KB b m _ y h ht
theorem GU (l:List aF):∀ (n:Nat) (o:List aF) (i:Nat),(o.Nodup∧∀ x∈o,x∈l)→i≤o.length→l.length≤n+i→(∀ j (hj:j < o.length),j < i→∀ y∈l,nV o[j] y=true→y∈o) →
  (∀ x∈o,x∈Mf l n o i)∧∀ x∈Mf l n o i,∀ y∈l,nV x y=true→y∈Mf l n o i
 |0,o,i,ho,hi,hn,hc=>by
  have hlen:=fN o l ho.1 ho.2;refine ⟨fun x hx=>hx,fun x hx y hy ht=>?_⟩;have so:x∈o:=hx;obtain ⟨j,hj,rfl⟩:=abu so;exact hc j hj (by omega) y hy ht
 |n+1,o,i,ho,hi,hn,hc=>by
  rw [Mf];by_cases h:i < o.length
  ·rw [dif_pos h];obtain ⟨t,ht⟩:=EH o[i] l o;have hlen:o.length≤(l.foldl (Dk o[i]) o).length:=by rw [ht,aaY]; omega
   have ih:=GU l n (l.foldl (Dk o[i]) o) (i+1) (KA o[i] l o ho fun x hx=>hx) (by omega) (by omega) (fun j hj VU y hy htc=>by
    have hjo:j < o.length:=by omega
    have e:(l.foldl (Dk o[i]) o)[j]=o[j]:=by
     have:(l.foldl (Dk o[i]) o)[j]?=o[j]?:=by rw [ht,abG hjo]
     rw [abo hj,abo hjo] at this;exact ab2 this
    rw [e] at htc;by_cases hjj:j < i
    ·exact Bl o[i] l o (hc j hjo hjj y hy htc)
    ·have:j=i:=by omega
     subst this;exact KB o[j] l o y hy htc)
   exact ⟨fun x hx=>ih.1 x (Bl o[i] l o hx),ih.2⟩
  ·rw [dif_neg h];refine ⟨fun x hx=>hx,fun x hx y hy ht=>?_⟩;obtain ⟨j,hj,rfl⟩:=abu hx;exact hc j hj (by omega) y hy ht
theorem KC (l:List aF) (c b:aF) (hb:BD l c b):∀ (m o:List aF),(∀ x∈m,x∈l)→(∀ x∈o,BD l c x)→∀ x∈m.foldl (Dk b) o,BD l c x
 |[],_,_,ho=>ho
 |x :: m,o,hm,ho=>by
  refine KC l c b hb m (Dk b o x) (fun y hy=>hm y (abL _ hy)) fun y hy=>?_
  unfold Dk at hy;split at hy
  ·rename_i h;rcases List.mem_append.1 hy with hy|hy
   ·exact ho y hy
   ·rw [aby] at hy;subst hy;exact .step hb (hm _ abO) h.1
  ·exact ho y hy
theorem KD (l:List aF) (c:aF):∀ (n:Nat) (o:List aF) (i:Nat),(∀ x∈o,BD l c x)→∀ x∈Mf l n o i,BD l c x
 |0,_,_,ho=>ho
 |n+1,o,i,ho=>by
  rw [Mf];by_cases h:i < o.length
  ·rw [dif_pos h];exact KD l c n _ _ (KC l c o[i] (ho _ (abq h)) l o (fun x hx=>hx) ho)
  ·rw [dif_neg h]; exact ho
theorem Wd (l:List aF) (b:aF) (hb:b∈l) (x:aF):x∈Mf l l.length [b] 0↔BD l b x:=by
 have ho:([b]:List aF).Nodup∧∀ x∈[b],x∈l:=⟨by simp,fun x hx=>by rw [aby] at hx; subst hx; exact hb⟩;obtain ⟨d1,kW⟩:=GU l l.length [b] 0 ho (by simp) (by omega) (fun j _ h=>absurd h (by omega));constructor
 ·exact fun h=>KD l b l.length [b] 0 (fun y hy=>by rw [aby] at hy; subst hy; exact .base) x h
 ·intro h
  induction h with
  |base=>exact d1 b (by simp)
  |step _ hy ht ih=>exact kW _ ih _ hy ht
theorem fq (l:List aF) (b:aF) (hb:b∈l) (x:aF):x∈cr l b↔BD l b x:=by
 unfold cr;rw [(jB oH Ey (0,0,0) (Mf l l.length [b] 0)).2,Wd l b hb]
theorem Dl (a b:aF):nV a b=nV b a:=by
 unfold nV;have e1:decide (fO a=fO b)=decide (fO b=fO a):=by rw [decide_eq_decide]; exact eq_comm
 have e2:decide (fO a=gK b)=decide (gK b=fO a):=by rw [decide_eq_decide]; exact eq_comm
 have e3:decide (gK a=fO b)=decide (fO b=gK a):=by rw [decide_eq_decide]; exact eq_comm
 have e4:decide (gK a=gK b)=decide (gK b=gK a):=by rw [decide_eq_decide]; exact eq_comm
 rw [e1,e2,e3,e4];cases decide (fO b=fO a) <;> cases decide (gK b=fO a) <;> cases decide (fO b=gK a) <;> cases decide (gK b=gK a) <;> rfl
theorem BD.trans' {l:List aF} {a b c:aF} (h1:BD l a b) (h2:BD l b c):BD l a c:=by
 induction h2 with
 |base=>exact h1
 |step _ hy ht ih=>exact .step ih hy ht
theorem BD.We {l:List aF} {a b:aF} (ha:a∈l) (h:BD l a b):b∈l:=by
 cases h with
 |base=>exact ha
 |step _ hy _=>exact hy
theorem BD.aeP {l:List aF} {a b:aF} (ha:a∈l) (h:BD l a b):BD l b a:=by
 induction h with
 |base=>exact .base
 | @step x y hx hy ht ih=>
  have:BD l y x:=.step .base (hx.We ha) (by rw [Dl]; exact ht);exact this.trans' ih
end Go.Proofs.YtldcljfjjoidhaaGreatDoor
namespace Go.Proofs.YtldcljfjjoidhaaGreatDoor
open Go Go.Am Go.Sort
open List (map)
open Int (toNat)
open Go.IntKind (wrap)
open Go.Am.aO (fits)
set_option maxRecDepth 100000
def nC (y x:Int):aF:=if (x+y) % 2=0 then (x,y,1) else (x+1,y,-1)
theorem wv (y x:Int):(nC y x).2.1=y:=by unfold nC; split <;> rfl
theorem Mg (y x:Int):jF (nC y x)=x:=by
 unfold nC jF;split
 ·simp only; rw [if_neg (by omega)]
 ·simp only; rw [if_pos (by omega)]; omega
theorem Bm {b:aF} (h:gL b=0):b=nC b.2.1 (jF b):=by
 obtain ⟨c1,c2,c3⟩:=lJ h;have k1:=((jC _).1 c1).2;obtain ⟨x,y,s⟩:=b;simp only [fO] at k1 c2;unfold nC jF;simp only;rcases c2 with rfl|rfl
 ·have e:(if x+-1 < x then x+-1 else x)=x+-1:=if_pos (by omega);rw [e,if_neg (by omega)];exact abB (by show x=x+-1+1; omega) rfl
 ·have e:(if x+1 < x then x+1 else x)=x:=if_neg (by omega);rw [e,if_pos k1]
theorem wx (r:bE) (w:Bool) (i:Nat):au (aM r w) i=(lL r w+(i:Int) * sg w,if (lL r w+r.1+i) % 2=0 then r.1 else r.1+1):=by
 unfold aM;have hi:((i % 2:Nat):Int)=(i:Int) % 2:=by omega
 by_cases h:(lL r w+r.1) % 2=0
 ·rw [if_pos h];unfold au;simp only [sg,if_true];refine abB rfl ?_;simp only;split <;> omega
 ·rw [if_neg h];unfold au;simp only [sg,aao,if_false];refine abB rfl ?_;simp only;split <;> omega
theorem Bn (r:bE) (w:Bool) (k:Nat):e8 (aM r w) k=nC r.1 (if w then r.2.1+k else r.2.2 - 1 - k):=by
 unfold e8;rw [wx,wx];unfold kQ nC lL;cases w
 ·simp only [sg,aao,if_false];by_cases h:(r.2.2+r.1+(k:Int)) % 2=0
  ·have h2:¬ (r.2.2+r.1+((k+1:Nat):Int)) % 2=0:=by omega
   rw [if_pos h,if_neg h2,if_neg (by omega),if_neg (by omega)];refine abB ?_ (abB rfl ?_)
   ·show r.2.2+(k:Int) * -1=r.2.2 - 1 - k+1; omega
   ·show r.2.2+((k+1:Nat):Int) * -1 - (r.2.2+(k:Int) * -1)=-1; omega
  ·have h2:(r.2.2+r.1+((k+1:Nat):Int)) % 2=0:=by omega
   rw [if_neg h,if_pos h2,if_pos (by omega),if_pos (by omega)];refine abB ?_ (abB rfl ?_)
   ·show r.2.2+((k+1:Nat):Int) * -1=r.2.2 - 1 - k; omega
   ·show r.2.2+(k:Int) * -1 - (r.2.2+((k+1:Nat):Int) * -1)=1; omega
 ·simp only [sg,if_true];by_cases h:(r.2.1+r.1+(k:Int)) % 2=0
  ·have h2:¬ (r.2.1+r.1+((k+1:Nat):Int)) % 2=0:=by omega
   rw [if_pos h,if_neg h2,if_neg (by omega),if_pos (by omega)];refine abB ?_ (abB rfl ?_)
   ·show r.2.1+(k:Int) * 1=r.2.1+k; omega
   ·show r.2.1+((k+1:Nat):Int) * 1 - (r.2.1+(k:Int) * 1)=1; omega
  ·have h2:(r.2.1+r.1+((k+1:Nat):Int)) % 2=0:=by omega
   rw [if_neg h,if_pos h2,if_pos (by omega),if_neg (by omega)];refine abB ?_ (abB rfl ?_)
   ·show r.2.1+((k+1:Nat):Int) * 1=r.2.1+k+1; omega
   ·show r.2.1+(k:Int) * 1 - (r.2.1+((k+1:Nat):Int) * 1)=-1; omega
theorem wz {r:bE} (h:mX r) (w:Bool) (x:aF):x∈bV (aM r w)↔∃ c,r.2.1≤c∧c < r.2.2∧x=nC r.1 c:=by
 obtain ⟨h1,h2,h3,h4,h5⟩:=h;unfold bV dQ;rw [lW,abz];constructor
 ·rintro ⟨k,hk,rfl⟩;have hk:=abw.1 hk;rw [Bn];cases w
  ·exact ⟨_,by simp only [aao,if_false]; omega,by simp only [aao,if_false]; omega,rfl⟩
  ·exact ⟨_,by simp only [if_true]; omega,by simp only [if_true]; omega,rfl⟩
 ·rintro ⟨c,c1,c2,rfl⟩;cases w
  ·refine ⟨(r.2.2 - 1 - c).toNat,abw.2 (by omega),?_⟩;rw [Bn];simp only [aao,if_false];congr 1;omega
  ·refine ⟨(c - r.2.1).toNat,abw.2 (by omega),?_⟩;rw [Bn];simp only [if_true];congr 1;omega
theorem GV (c:cQ):(bV c).Nodup:=by
 unfold bV dQ;rw [abR,List.pairwise_map];exact List.Pairwise.imp (fun {a b} Mz e=>Mz (GD c a b e)) (abR.1 List.nodup_range)
theorem Dm {l:List aF} (h:dC l=0) {y:Int} (ho:okC (bX l y)) (c:Int):c∈bX l y↔(qg (bX l y)).2.1≤c∧c < (qg (bX l y)).2.2:=by
 obtain ⟨cK,hlen⟩:=ho;have Rw:=xB h y;obtain ⟨-,fs⟩:=uT (bX l y);obtain ⟨f1,f2,f3,f4⟩:=fs cK;constructor
 ·intro hc;have:=f2 c hc;have:=f4 c hc;omega
 ·rintro ⟨c1,c2⟩;apply Classical.byContradiction;intro hc;have hn2:(c :: bX l y).Nodup:=List.nodup_cons.2 ⟨hc,Rw⟩;have:=fN (c :: bX l y) ((abD (bX l y).length).map fun k:Nat=>(qg (bX l y)).2.1+k) hn2 (fun x hx=>by
   rw [abz];have IJ:(qg (bX l y)).2.1≤x∧x < (qg (bX l y)).2.2:=by
    rcases abP.1 hx with rfl|hx
    ·exact ⟨c1,c2⟩
    ·have:=f2 x hx;have:=f4 x hx;omega
   exact ⟨(x - (qg (bX l y)).2.1).toNat,abw.2 (by omega),by omega⟩)
  rw [abt,aau,List.length_range] at this;omega
theorem Dn {l:List aF} (h:dC l=0) {y c:Int}:c∈bX l y↔nC y c∈l:=by
 obtain ⟨g1,g2,g3⟩:=dp h;unfold bX;rw [abz];constructor
 ·rintro ⟨b,hb,rfl⟩;obtain ⟨b1,b2⟩:=ab0.1 hb;have b2:b.2.1=y:=by simpa using b2
  rw [← b2,← Bm (g2 b b1)];exact b1
 ·intro hb;exact ⟨nC y c,ab0.2 ⟨hb,by rw [wv]; simp⟩,Mg y c⟩
theorem rC {l:List aF} (h:dC l=0) (ho:Qq l) (x:aF):x∈l↔∃ r∈jD l,∃ c,r.2.1≤c∧c < r.2.2∧x=nC r.1 c:=by
 obtain ⟨g1,g2,g3⟩:=dp h;constructor
 ·intro hx;obtain ⟨j,hj,rfl⟩:=abu hx;have hy:=De h hj;have hk:(l[j].2.1 - fV l).toNat < pR l:=by unfold pR; omega
  have e:fV l+((l[j].2.1 - fV l).toNat:Int)=l[j].2.1:=by omega
  have hc:jF l[j]∈bX l l[j].2.1:=by
   rw [Dn h,← Bm (g2 _ hx)];exact hx
  have pf:=ho _ hk;rw [e] at pf;have:=(Dm h pf _).1 hc;refine ⟨yi l (l[j].2.1 - fV l).toNat,abz.2 ⟨_,abw.2 hk,rfl⟩,jF l[j],?_,?_,?_⟩
  ·unfold yi; rw [e]; exact this.1
  ·unfold yi; rw [e]; exact this.2
  ·unfold yi; rw [e]; exact Bm (g2 _ hx)
 ·rintro ⟨r,hr,c,c1,c2,rfl⟩;obtain ⟨j,hj,rfl⟩:=abz.1 hr;have hj:=abw.1 hj;exact (Dn h).1 ((Dm h (ho j hj) c).2 ⟨c1,c2⟩)
end Go.Proofs.YtldcljfjjoidhaaGreatDoor
namespace Go.Proofs.YtldcljfjjoidhaaGreatDoor
open Go Go.Am Go.Sort
open List (map)
open Int (toNat)
open Go.IntKind (wrap)
open Go.Am.aO (fits)
set_option maxRecDepth 100000
section
variable {N:Nat} (hN:fC N)
include hN
theorem Wf (p:List cQ) (h:nR p=0):T45 N p=some (Bb p):=by
 have JS:∀ c∈p,dJ c=0:=(yP h).2;have hp:=(yP h).1;obtain ⟨o1,o2⟩:=Ba h p.length (abE _);rw [abW] at o1 o2;have z88:((bif (allFit (fits gI) (map fQ p)&&true) then some (map ee (map fQ p)) else none:Option (iO)))=some p:=by simp only [B0,B1,abi,cond_true]
 rw [aal,z88,aad,Kj hN p JS (by omega),aad];simp only [cq,b9,abi,cond_true,aad];rw [show T62 N (bn p)=some (Bb p) from Vx hN _ (by omega),aad]
end
end Go.Proofs.YtldcljfjjoidhaaGreatDoor
namespace Go.Proofs.YtldcljfjjoidhaaGreatDoor
open Go Go.Am Go.Sort
open List (map)
open Int (toNat)
open Go.IntKind (wrap)
open Go.Am.aO (fits)
set_option maxRecDepth 100000
theorem QP:∀ (l:List bE) (w:Bool) (k:Nat) (hk:k < l.length),∃ v,(uX l w)[k]?=some (aM l[k] v)
 |[],_,_,hk=>by simp at hk
 |[r],w,0,_=>⟨w,rfl⟩
 |r :: s :: t,w,0,_=>⟨w,rfl⟩
 |[r],w,k+1,hk=>by simp at hk
 |r :: s :: t,w,k+1,hk=>by
  obtain ⟨v,hv⟩:=QP (s :: t) (QH r s (jG (s :: t)) w) k (by simpa using hk);exact ⟨v,by rw [uX]; exact hv⟩
theorem EI (r:bE) (w:Bool):MB (aM r w)=r.1:=by
 unfold aM MB;split
 ·rfl
 ·show r.1+1 - 1=r.1; omega
theorem GW {r:bE} (h:mX r) (hl:r.2.2 - r.2.1≤512) (w:Bool):gU (aM r w)=0:=by
 have h1:=pV h hl w;obtain ⟨b1,b2,b3,b4,b5⟩:=h;unfold gU;rw [if_pos h1,dz];intro x hx;obtain ⟨k,hk,rfl⟩:=abz.1 hx;obtain ⟨i,hi,rfl⟩:=abz.1 hk;have hi:=abw.1 hi;rw [lW] at hi;rw [jC,wx];unfold lL;cases w
 ·simp only [sg,aao,if_false];split <;> (refine ⟨⟨?_,?_,?_,?_⟩,?_⟩ <;> omega)
 ·simp only [sg,if_true];split <;> (refine ⟨⟨?_,?_,?_,?_⟩,?_⟩ <;> omega)
structure KE (rows:List bE) (p:List cQ):Prop where
 len:p.length=rows.length
 at':∀ k (hk:k < rows.length),∃ v,p[k]?=some (aM rows[k] v)
 ok:∀ r∈rows,mX r∧r.2.2 - r.2.1≤512
 up:∀ i j (hj:j < rows.length) (Gy:i < j),(rows[i]'(by omega)).1 < rows[j].1
theorem KE.get {rows:List bE} {p:List cQ} (h:KE rows p) (k:Nat) (hk:k < p.length):∃ v,p[k]=aM (rows[k]'(by rw [← h.len]; exact hk)) v:=by
 obtain ⟨v,hv⟩:=h.at' k (by rw [← h.len]; exact hk);rw [abo hk] at hv;exact ⟨v,ab2 hv⟩
theorem nW {p:List cQ} {k:Nat} {x:aF}:x∈bn (p.take k)↔∃ i,∃ hi:i < p.length,i < k∧x∈bV p[i]:=by
 unfold bn;rw [abY];constructor
 ·rintro ⟨c,hc,hx⟩;obtain ⟨i,hi,rfl⟩:=abu hc;rw [abV] at hi;rw [List.getElem_take] at hx;exact ⟨i,by omega,by omega,hx⟩
 ·rintro ⟨i,hi,HM,hx⟩;refine ⟨p[i],?_,hx⟩;rw [List.mem_take_iff_getElem];exact ⟨i,by omega,rfl⟩
theorem KE.row {rows:List bE} {p:List cQ} (h:KE rows p) {k:Nat} (hk:k < p.length) {x:aF} (hx:x∈bV p[k]):x.2.1=(rows[k]'(by rw [← h.len]; exact hk)).1:=by
 obtain ⟨v,hv⟩:=h.get k hk;rw [hv] at hx;obtain ⟨c,-,-,rfl⟩:=(wz (h.ok _ (abq _)).1 v x).1 hx;exact wv _ _
theorem KE.nodup {rows:List bE} {p:List cQ} (h:KE rows p):∀ k,k≤p.length→(bn (p.take k)).Nodup
 |0,_=>by simp [bn]
 |k+1,hk=>by
  have ih:=h.nodup k (by omega);have jf:k < p.length:=by omega
  have e:bn (p.take (k+1))=bn (p.take k)++bV p[k]:=by
   rw [abS,abo jf];unfold bn;rw [ab4];simp
  rw [e,abT];refine ⟨ih,GV _,fun x hx y hy=>?_⟩;rintro rfl;obtain ⟨i,hi,HM,hxi⟩:=nW.1 hx;have h1:=h.row hi hxi;have h2:=h.row jf hy;have:=h.up i k (by rw [← h.len]; exact jf) HM;omega
theorem KE.Mh {rows:List bE} {p:List cQ} (h:KE rows p) (hr:rows.length≤256) (ho:(bn p).length≤4096):nR p=0:=by
 have hl:=h.len;unfold nR;rw [if_neg (by omega),dz];intro x hx;obtain ⟨k,hk,rfl⟩:=abu hx;rw [kR] at hk;rw [yO p hk];have Sk:k < rows.length:=by omega
 obtain ⟨v,hv⟩:=h.get k hk;have dS:=h.ok rows[k] (abq Sk);unfold yg;rw [if_pos (by rw [hv]; exact GW dS.1 dS.2 v)];have hb:below (p.take k) p[k]=false:=by
  unfold below;cases hq:(p.take k).getLast? with
  |none=>rfl
  |some q=>
   simp only;have Co:k≠0:=by
    rintro rfl;simp at hq
   have:q=p[k - 1]:=by
    rw [List.getLast?_eq_getElem?,abV,List.getElem?_take_of_lt (by omega),show min k p.length - 1=k - 1 by omega,abo (by omega)] at hq;exact (ab2 hq).symm
   obtain ⟨v',RU⟩:=h.get (k - 1) (by omega);rw [this,hv,RU,EI,EI];have:=h.up (k - 1) k Sk (by omega);exact decide_eq_false (by omega)
 rw [if_neg (by rw [hb]; simp)];have e:bn (p.take (k+1))=bn (p.take k)++bV p[k]:=by
  rw [abS,abo hk];unfold bn;rw [ab4];simp
 have n1:=h.nodup (k+1) (by omega);rw [if_neg]
 ·have IQ:=fN (bn (p.take (k+1))) (bn p) n1 (fun x hx=>by
   obtain ⟨i,hi,-,hx⟩:=nW.1 hx;unfold bn;exact abY.2 ⟨_,abq hi,hx⟩)
  rw [e,aaY] at IQ;rw [if_neg (by omega)]
 ·rintro ⟨b,Ih,Hf⟩;rw [e,abT] at n1;exact n1.2.2 b Hf b Ih rfl
theorem KE.mem {rows:List bE} {p:List cQ} (h:KE rows p) (x:aF):x∈bn p↔∃ r∈rows,∃ c,r.2.1≤c∧c < r.2.2∧x=nC r.1 c:=by
 unfold bn;rw [abY];constructor
 ·rintro ⟨q,hq,hx⟩;obtain ⟨k,hk,rfl⟩:=abu hq;obtain ⟨v,hv⟩:=h.get k hk;rw [hv] at hx;have Sk:k < rows.length:=by rw [← h.len]; exact hk
  exact ⟨rows[k],abq _,(wz (h.ok _ (abq Sk)).1 v x).1 hx⟩
 ·rintro ⟨r,hr,hx⟩;obtain ⟨k,hk,rfl⟩:=abu hr;have hkp:k < p.length:=by rw [h.len]; exact hk
  obtain ⟨v,hv⟩:=h.get k hkp;refine ⟨p[k],abq hkp,?_⟩;rw [hv];exact (wz (h.ok _ (abq hk)).1 v x).2 hx
theorem GX (l:List aF):∀ i j (hj:j < (jD l).length) (Gy:i < j),((jD l)[i]'(by omega)).1 < (jD l)[j].1:=by
 intro i j hj Gy;have e:∀ k (hk:k < (jD l).length),(jD l)[k].1=fV l+k:=fun k hk=>by
  have:(jD l)[k]=yi l k:=by simp [jD]
  rw [this];rfl
 rw [e,e];omega
theorem vb {l:List aF} (h:(ao l).2=0):dC l=0∧l≠[]∧Qq l∧(ao l).1=jD l:=by
 unfold ao at h ⊢;by_cases hc:dC l=0
 ·rw [if_pos hc] at h ⊢;unfold Dd at h ⊢;by_cases h0:l=[]
  ·rw [if_pos h0] at h; cases h
  ·rw [if_neg h0] at h ⊢;by_cases ho:Qq l
   ·rw [if_pos ho]; exact ⟨hc,h0,ho,rfl⟩
   ·rw [if_neg ho] at h; cases h
 ·rw [if_neg hc] at h;exact absurd h hc
theorem KE.net {l:List aF} {p:List cQ} (hx:(ao l).2=0) (h:KE (ao l).1 p) (hr:(ao l).1.length≤256):nR p=0∧Bb p=l∧(bn p).length=l.length:=by
 obtain ⟨h1,h2,h3,h4⟩:=vb hx;obtain ⟨g1,g2,g3⟩:=dp h1;have hm:∀ x,x∈bn p↔x∈l:=fun x=>by rw [h.mem,h4,← rC h1 h3]
 have hn:(bn p).Nodup:=by
  have:=h.nodup p.length (abE _);rw [abW] at this;exact this
 have l1:=fN (bn p) l hn fun x hx=>(hm x).1 hx
 have l2:=fN l (bn p) (km oH g3) fun x hx=>(hm x).2 hx
 refine ⟨h.Mh hr (by omega),?_,by omega⟩;exact yL oH (vZ p).1 g3 fun x=>by rw [(vZ p).2,hm]
end Go.Proofs.YtldcljfjjoidhaaGreatDoor
namespace Go.Proofs.YtldcljfjjoidhaaGreatDoor
open Go Go.Am Go.Sort
open List (map)
open Int (toNat)
open Go.IntKind (wrap)
open Go.Am.aO (fits)
set_option maxRecDepth 100000
def xF:List bE→List Bool→List cQ
 |r :: t,w :: u=>aM r w :: xF t u
 |_,_=>[]
def QQ:List bE→List Bool→Int
 |r :: s :: t,w :: v :: u=>Me (aM r w) (aM s v)+QQ (s :: t) (v :: u)
 |_,_=>0
theorem EJ:∀ (l:List bE) (u:List Bool),u.length=l.length→(xF l u).length=l.length
 |[],[],_=>rfl
 |r :: t,w :: u,h=>by rw [xF,abt,EJ t u (by simpa using h),abt]
theorem QR:∀ (l:List bE) (u:List Bool) (_:u.length=l.length) (k:Nat) (hk:k < l.length),∃ v,(xF l u)[k]?=some (aM l[k] v)
 |[],_,_,_,hk=>by simp at hk
 |r :: t,w :: u,_,0,_=>⟨w,rfl⟩
 |r :: t,w :: u,h,k+1,hk=>by
  obtain ⟨v,hv⟩:=QR t u (by simpa using h) k (by simpa using hk);exact ⟨v,hv⟩
theorem QS:∀ (t:List bE) (r:bE) (w:Bool) (u:List Bool),u.length=t.length→dO (r :: t) w≤QQ (r :: t) (w :: u)
 |[],r,w,u,h=>by
  have:u=[]:=abZ.1 h;subst this;exact abI _
 |s :: t,r,w,v :: u,h=>by
  have ih:=QS t s v u (by simpa using h);rw [dO,QQ];unfold Kx wq;simp only [if_true,aao,if_false];cases v
  ·split <;> omega
  ·split <;> omega
section
variable {N:Nat} (hN:fC N)
include hN
theorem KF:∀ (t:List bE) (b:List cQ) (r:bE) (w:Bool) (u:List Bool),u.length=t.length→xD (b++xF (r :: t) (w :: u))=xD (b++[aM r w])+QQ (r :: t) (w :: u)
 |[],b,r,w,u,h=>by
  have:u=[]:=abZ.1 h;subst this;show xD (b++[aM r w])=_+0;omega
 |s :: t,b,r,w,v :: u,h=>by
  have ih:=KF t (b++[aM r w]) s v u (by simpa using h);rw [GS hN] at ih;have e:b++xF (r :: s :: t) (w :: v :: u)=b++[aM r w]++xF (s :: t) (v :: u):=by
   rw [xF,abH];rfl
  rw [e,ih,QQ];omega
theorem QT (r:bE) (t:List bE) (u:List Bool) (h:u.length=(r :: t).length):xD (uX (r :: t) (kT (r :: t)))≤xD (xF (r :: t) u):=by
 have p1:=Kz hN t [] r (kT (r :: t));rw [Ky hN,ab1] at p1;cases u with
 |nil=>simp at h
 |cons w u=>
  have p2:=KF hN t [] r w u (by simpa using h);rw [Ky hN,ab1] at p2;have c:=QS t r w u (by simpa using h);rw [p1,p2];have hf:dO (r :: t) (kT (r :: t))≤dO (r :: t) w:=by
   unfold kT;by_cases hh:dO (r :: t) false < dO (r :: t) true
   ·rw [decide_eq_true hh];cases w
    ·exact abI _
    ·show dO (r :: t) false≤_;omega
   ·rw [decide_eq_false hh];cases w
    ·show dO (r :: t) true≤_;omega
    ·exact abI _
  omega
end
theorem KG:∀ (l:List bE) (w:Bool),∃ u,u.length=l.length∧uX l w=xF l u
 |[],_=>⟨[],rfl,rfl⟩
 |[r],w=>⟨[w],rfl,rfl⟩
 |r :: s :: t,w=>by
  obtain ⟨u,h1,h2⟩:=KG (s :: t) (QH r s (jG (s :: t)) w);exact ⟨w :: u,by simpa using h1,by rw [uX,h2]; rfl⟩
def kU (n m:Nat):List Bool:=(abD n).map fun i=>!m.testBit i
theorem Bo (n m:Nat):(kU n m).length=n:=by simp [kU]
theorem GY:∀ (u:List Bool),∃ m,m < 2 ^ u.length∧kU u.length m=u
 |[]=>⟨0,by simp,rfl⟩
 |w :: u=>by
  obtain ⟨m,h1,h2⟩:=GY u;refine ⟨2 * m+(if w then 0 else 1),?_,?_⟩
  ·rw [abt,Nat.pow_succ];split <;> omega
  ·have e0:(2 * m+(if w then 0 else 1)).testBit 0=!w:=by
    cases w <;> simp [Nat.testBit_zero]
   have e1:∀ i,(2 * m+(if w then 0 else 1)).testBit (i+1)=m.testBit i:=fun i=>by
    rw [Nat.testBit_succ];congr 1;cases w <;> simp <;> omega
   unfold kU at h2 ⊢;rw [abt,List.range_succ_eq_map,List.map_cons,List.map_map];rw [e0,Bool.not_not];congr 1
   conv=>rhs; rw [← h2]
   refine List.map_congr_left fun i _=>?_
   show (!(2 * m+(if w then 0 else 1)).testBit (i+1))=_;rw [e1]
end Go.Proofs.YtldcljfjjoidhaaGreatDoor
namespace Go.Proofs.YtldcljfjjoidhaaGreatDoor
open Go Go.Am Go.Sort
open List (map)
open Int (toNat)
open Go.IntKind (wrap)
open Go.Am.aO (fits)
set_option maxRecDepth 100000
theorem KH (a b:aF):decide (yh a b < 0)=ltOf gj a b:=by
 have h:=C9 a b;rw [uR];cases hl:less a b with
 |true=>
  rw [hl] at h;have:¬ (yh a b≥0):=of_decide_eq_false h;exact decide_eq_true (by omega)
 |false=>
  rw [hl] at h;have:yh a b≥0:=of_decide_eq_true h;exact decide_eq_false (by omega)
theorem sb (a b:Int):A7 a b=0↔a=b:=by
 unfold A7;split
 ·exact ⟨fun h=>(by cases h),fun h=>by omega⟩
 ·split
  ·exact ⟨fun h=>(by cases h),fun h=>by omega⟩
  ·exact ⟨fun _=>by omega,fun _=>rfl⟩
theorem Mi (a b:aF):(yh a b == 0)=decide (a=b):=by
 rw [abJ,beq_iff_eq,decide_eq_true_eq];unfold yh;rw [dz];constructor
 ·intro h;have h1:=(sb _ _).1 (h (A7 a.2.1 b.2.1) (by simp));have h2:=(sb _ _).1 (h (A7 a.1 b.1) (by simp));have h3:=(sb _ _).1 (h (A7 a.2.2 b.2.2) (by simp));exact abB h2 (abB h1 h3)
 ·rintro rfl x hx;simp only [abP,List.not_mem_nil,or_false] at hx;rcases hx with rfl|rfl|rfl <;> exact (sb _ _).2 rfl
section
variable {N:Nat} (hN:fC N)
include hN
theorem vc (l:List aF) (hs:xx (ltOf gj) l) (hl:l.length≤1000000) (b:aF):GJ N (l,b)=some (decide (b∈l)):=by
 have asc:∀ i j (hj:j < l.length) (Gy:i < j),ltOf gj (l[i]'(by omega)) l[j]=true:=fun i j hj Gy=>by
  exact List.pairwise_iff_getElem.1 hs i j (by omega) hj Gy
 obtain ⟨x,h1,h2⟩:=sa (rd:=kS N l b) (fun v=>∃ lo hi:Nat,v=((lo:Int),(hi:Int))∧lo≤hi∧hi≤l.length∧(∀ j (hj:j < l.length),j < lo→ltOf gj l[j] b=true)∧∀ j (hj:j < l.length),hi≤j→ltOf gj l[j] b=false)
  (fun v=>(v.2 - v.1).toNat) (fun x=>∃ i:Nat,x=(i:Int)∧i≤l.length∧(∀ j (hj:j < l.length),j < i→ltOf gj l[j] b=true)∧∀ j (hj:j < l.length),i≤j→ltOf gj l[j] b=false) (by
  rintro v ⟨lo,hi,rfl,h1,h2,h3,h4⟩;by_cases h:lo < hi
  ·have hm:(lo+hi) / 2 < l.length:=by omega
   obtain ⟨a1,a2⟩:=gl l hm;have em:wrap .i64 (Int.fdiv (wrap .u64 (wrap .i64 ((lo:Int)+(hi:Int)))) (2 ^ (min (toNat 1) 64)))=(((lo+hi) / 2:Nat):Int):=by
    have e1:(2 ^ (min (toNat 1) 64):Int)=2:=rfl;rw [fT (show _≤(lo:Int)+(hi:Int)∧(lo:Int)+(hi:Int)≤_ by omega),IntWalk.u64_in _ (by omega),e1,Int.fdiv_eq_ediv_of_nonneg _ (by omega),fT (by omega)];omega
   have bY:decide ((lo:Int) < (hi:Int))=true:=decide_eq_true (by omega);have q:Eo N ((l[(lo+hi) / 2].1,l[(lo+hi) / 2].2.1,l[(lo+hi) / 2].2.2),(b.1,b.2.1,b.2.2))=some (yh l[(lo+hi) / 2] b):=A8 hN _ _;refine .inl ?_;cases hc:ltOf gj l[(lo+hi) / 2] b with
   |true=>
    have yl:decide (yh l[(lo+hi) / 2] b < 0)=true:=by rw [KH]; exact hc
    refine ⟨((((lo+hi) / 2+1:Nat):Int),(hi:Int)),?_,⟨(lo+hi) / 2+1,hi,rfl,by omega,h2,fun j hj hjl=>?_,h4⟩,by simp only; omega⟩
    ·simp only [kS,gw,bY,cond_true,em,aau,ay hm,aaO,a1,a2,aaB,q,aad,yl,bw (show (lo+hi) / 2 < 9223372036854775807 by omega)]
    ·by_cases he:j=(lo+hi) / 2
     ·subst he; exact hc
     ·exact oH.trans _ _ _ (asc j _ hm (by omega)) hc
   |false=>
    have yl:decide (yh l[(lo+hi) / 2] b < 0)=false:=by rw [KH]; exact hc
    refine ⟨((lo:Int),(((lo+hi) / 2:Nat):Int)),?_,⟨lo,(lo+hi) / 2,rfl,by omega,by omega,h3,fun j hj hjl=>?_⟩,by simp only; omega⟩
    ·simp only [kS,gw,bY,cond_true,em,aau,ay hm,aaO,a1,a2,aaB,q,aad,yl,cond_false]
    ·by_cases he:j=(lo+hi) / 2
     ·subst he; exact hc
     ·cases hh:ltOf gj l[j] b with
      |false=>rfl
      |true=>
       have:=oH.trans _ _ _ (asc ((lo+hi) / 2) j hj (by omega)) hh;rw [hc] at this;cases this
  ·have oP:decide ((lo:Int) < (hi:Int))=false:=decide_eq_false (by omega);refine .inr ⟨(lo:Int),?_,lo,rfl,by omega,h3,fun j hj hjl=>h4 j hj (by omega)⟩;simp only [kS,gw,oP,cond_false]) N ((0:Int),(l.length:Int)) ⟨0,l.length,rfl,by omega,by omega,fun j hj h=>by omega,fun j hj h=>by omega⟩ (by unfold fC at hN; simp only; omega)
 obtain ⟨i,rfl,g1,g2,g3⟩:=h2;rw [VM,aau,h1,aad];have irr:∀ x:aF,ltOf gj x x=false:=fun x=>by
  rw [uR];unfold less;simp
 by_cases hi:i < l.length
 ·obtain ⟨a1,a2⟩:=gl l hi;have q:Eo N ((l[i].1,l[i].2.1,l[i].2.2),(b.1,b.2.1,b.2.2))=some (yh l[i] b):=A8 hN _ _;simp only [a7 hi,ay hi,cond_true,aaO,a1,a2,aaB,q,aad,Mi];congr 1;rw [abJ,decide_eq_true_eq,decide_eq_true_eq];constructor
  ·rintro rfl; exact abq hi
  ·intro hb;obtain ⟨j,hj,rfl⟩:=abu hb;rcases Nat.lt_trichotomy i j with h|h|h
   ·have h5:=asc i j hj h;rw [g3 i hi (abE _)] at h5;cases h5
   ·subst h; rfl
   ·have h5:=g2 j hj h;rw [irr] at h5;cases h5
 ·have oP:decide ((i:Int) < (l.length:Int))=false:=decide_eq_false (by omega);rw [oP,cond_false,aad];congr 1;symm;refine decide_eq_false fun hb=>?_
  obtain ⟨j,hj,rfl⟩:=abu hb;have h5:=g2 j hj (by omega);rw [irr] at h5;cases h5
end
end Go.Proofs.YtldcljfjjoidhaaGreatDoor
