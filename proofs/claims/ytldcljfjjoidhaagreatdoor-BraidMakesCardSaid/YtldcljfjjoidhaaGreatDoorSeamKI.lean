/- Plain laws: the rounds of the law of making. -/
import Derived.Test.YtldcljfjjoidhaaGreatDoorSeamKF
import Derived.Test.YtldcljfjjoidhaaGreatDoorSeamKH
import Derived.Test.YtldcljfjjoidhaaGreatDoorBraTk9
set_option linter.all false
open BitVec renaming ofInt→abt
open Bool renaming and_true→aau, and_self→abi, not_true→abq
open Int renaming toNat_natCast→aaY
open List renaming length_map→aao, getElem_mem→aaB, getElem?_eq_getElem→aaO, range→abj, length_append→abn, take_of_length_le→abo, length_singleton→abp, getElem_of_mem→abr
open Option renaming bind_some→aad
open Option.some renaming inj→abB
namespace Go.Proofs.YtldcljfjjoidhaaGreatDoor
open Go Go.Am Go.Sort
open List (map)
open Int (toNat)
open Go.IntKind (wrap)
open Go.Am.aO (fits)
set_option maxRecDepth 100000
theorem KO:∀ (l:List bE) (u:List Bool) (_:u.length=l.length) (k:Nat) (hk:k < l.length) (hu:k < u.length),(xF l u)[k]?=some (aM l[k] u[k])
 |[],_,_,_,hk,_=>by simp at hk
 |r :: t,w :: u,_,0,_,_=>rfl
 |r :: t,w :: u,h,k+1,hk,hu=>by
  have:=KO t u (by simpa using h) k (by simpa using hk) (by simpa using hu);exact this
theorem Wt (m i:Nat) (hi:i < 62) (hm:m < 4611686018427387904):(BE .i64 (Int.fdiv (m:Int) (2 ^ (min (toNat (i:Int)) 64))) 1 == 0)=!m.testBit i:=by
 have e1:Int.fdiv (m:Int) (2 ^ (min (toNat (i:Int)) 64))=((m / 2 ^ i:Nat):Int):=by
  rw [aaY,Nat.min_eq_left (by omega),Int.fdiv_eq_ediv_of_nonneg _ (by
   have:(0:Int) < 2 ^ i:=Int.pow_pos (by omega);omega)]
  rw [Int.natCast_ediv,Int.natCast_pow];rfl
 rw [e1];have hq:m / 2 ^ i≤m:=Nat.div_le_self _ _;rw [Nat.testBit_eq_decide_div_mod_eq];generalize m / 2 ^ i=q at *;have h2:(abt 64 1).toNat=1:=by decide
 have e2:BE .i64 (q:Int) 1=((q % 2:Nat):Int):=by
  show wrap .i64 (((abt 64 (q:Int) &&& abt 64 1).toNat:Nat):Int)=_;rw [BitVec.toNat_and,h2,Nat.and_one_is_mod,BitVec.toNat_ofInt];have e3:(((q:Int)) % ((2 ^ 64:Nat):Int)).toNat=q:=by
   have:((2 ^ 64:Nat):Int)=18446744073709551616:=rfl;rw [this];omega
  rw [e3];exact fT (by omega)
 rw [e2];by_cases h:q % 2=1
 ·rw [h]; rfl
 ·have:q % 2=0:=by omega
  rw [this]; rfl
section
variable {N:Nat} (hN:fC N)
include hN
theorem Wu (m:Int) (y:List bE × Int) (hr:∀ r∈y.1,mX r) (hl:y.1.length≤60) (s:Int) (k:Nat) (hk:k < 4611686018427387904):az (iH m N y (s,(k:Int))) N ([],0)=some (xF y.1 (kU y.1.length k)):=by
 have dl:=Bo y.1.length k;have fl:=EJ y.1 (kU y.1.length k) dl;have key:=cU (rd:=iH m N y (s,(k:Int))) y.1.length (fun i=>((xF y.1 (kU y.1.length k)).take i,(i:Int))) (xF y.1 (kU y.1.length k)) (fun i hi=>by
  obtain ⟨a1,a2⟩:=GM y.1 hi;have hd:(kU y.1.length k)[i]'(by rw [dl]; exact hi)=!k.testBit i:=by simp [kU]
  have hg:=KO y.1 (kU y.1.length k) dl i hi (by rw [dl]; exact hi);rw [hd] at hg;have q:T61 N ((y.1[i].1,y.1[i].2.1,y.1[i].2.2),(BE .i64 (Int.fdiv (k:Int) (2 ^ (min (toNat (i:Int)) 64))) 1 == 0))=some (aM y.1[i] (!k.testBit i)):=by
   rw [Wt k i (by omega) hk];exact V7 N (hr _ (aaB hi)) _
  have i0:decide ((0:Int)≤(i:Int))=true:=decide_eq_true (by omega);have lt:((xF y.1 (kU y.1.length k)).take i).length=i:=by rw [List.length_take]; omega
  have es:(xF y.1 (kU y.1.length k)).take (i+1)=(xF y.1 (kU y.1.length k)).take i++[aM y.1[i] (!k.testBit i)]:=by
   rw [List.take_add_one,hg];rfl
  rw [es];generalize (xF y.1 (kU y.1.length k)).take i=t at *;generalize aM y.1[i] (!k.testBit i)=c at *;have hb:decide ((i+1) * 32≤140737488355328)=true:=decide_eq_true (by omega);have sn:map fQ t++[AV.agg [AV.int .i64 c.1,AV.int .i64 c.2.1,AV.bool c.2.2.1,AV.bool c.2.2.2.1,AV.int .i64 c.2.2.2.2]]=map fQ (t++[c]):=by rw [List.map_append]; rfl
  simp only [iH,aao,a7 hi,ay hi,i0,a1,a2,q,lt,hb,sn,B0,B1,abn,abp,abi,aau,cond_true,decide_true,aad,bw (show i < 9223372036854775807 by omega)];rw [aaY] at q ⊢;simp only [a1,a2,q,lt,hb,sn,B0,B1,abn,abp,abi,aau,cond_true,decide_true,aad]) (by
  have e:(xF y.1 (kU y.1.length k)).take y.1.length=xF y.1 (kU y.1.length k):=abo (by omega);rw [e];simp only [iH,aao,bO,cond_false,B0,B1,abi,aau,cond_true,decide_true,aad]) N 0 (Nat.zero_le _) (by unfold fC at hN; omega)
 have key:az (iH m N y (s,(k:Int))) N ([],0)=_:=key;exact key
def Bv (rows:List bE) (s:Int) (k:Nat):Int:=if xD (xF rows (kU rows.length k)) < s then xD (xF rows (kU rows.length k)) else s
theorem Rg (m:Int) (y:List bE × Int) (hr:∀ r∈y.1,mX r∧r.2.2 - r.2.1≤512) (hl:y.1.length≤60):az (oO m N y) N ((y.1.length:Int),0)=some ((abj (2 ^ y.1.length)).foldl (Bv y.1) (y.1.length:Int)):=by
 have h60:2 ^ y.1.length≤2 ^ 60:=Nat.pow_le_pow_right (by omega) hl;have e60:2 ^ 60=1152921504606846976:=rfl;have ew:wrap .i64 (1 * 2 ^ (min (toNat (y.1.length:Int)) 64))=((2 ^ y.1.length:Nat):Int):=by
  rw [aaY,Nat.min_eq_left (by omega),Int.one_mul];have:(2 ^ y.1.length:Int)=((2 ^ y.1.length:Nat):Int):=by rw [Int.natCast_pow]; rfl
  rw [this];clear this;refine fT ?_;generalize 2 ^ y.1.length=q at *;omega
 have z:((bif (allFit (fits gI) ([]:List AV)) then some ((map ee ([]:List AV)),0) else none:Option (List cQ × Int)).bind fun w71=>bif decide (0=w71.1.length) then some w71 else none)=some ([],0):=rfl;have key:=kL (rd:=oO m N y) (abj (2 ^ y.1.length)) (fun (s:Int) k=>(s,(k:Int))) (Bv y.1) (fun s=>s) (fun _ _=>True) (fun s k hk _=>by
  refine ⟨?_,trivial⟩;have hk:k < 2 ^ y.1.length:=by simpa using hk
  have bY:decide ((k:Int) < ((2 ^ y.1.length:Nat):Int))=true:=decide_eq_true (by omega);have q1:=Wu hN m y (fun r h=>(hr r h).1) hl s k (by omega);have dl:=Bo y.1.length k;have fl:=EJ y.1 (kU y.1.length k) dl;have q2:=aaz hN (xF y.1 (kU y.1.length k)) (fun c hc=>by
   obtain ⟨i,hi,rfl⟩:=abr hc;obtain ⟨v,hv⟩:=QR y.1 (kU y.1.length k) dl i (by omega);rw [aaO hi] at hv;rw [abB hv];have:=hr y.1[i] (aaB _);exact pV this.1 this.2 v) (by omega)
  have eg:(abj (2 ^ y.1.length))[k]=k:=by simp
  rw [eg];simp only [oO,aao,ew,bY,cond_true,aau,z,aad,q1,B0,B1,q2,AI,bw (show k < 9223372036854775807 by omega)];rfl) (fun s _=>by
  rw [List.length_range];have oP:decide (((2 ^ y.1.length:Nat):Int) < ((2 ^ y.1.length:Nat):Int))=false:=decide_eq_false (by omega);simp only [oO,aao,ew,oP,cond_false]) N (y.1.length:Int) 0 (Nat.zero_le _) (by rw [List.length_range]; unfold fC at hN; omega) trivial
 rw [List.drop_zero] at key;exact key
omit hN in
theorem Rh (rows:List bE) (t:Int):∀ (K:List Nat) (s:Int),t≤s→(∀ k∈K,t≤xD (xF rows (kU rows.length k)))→t≤K.foldl (Bv rows) s
 |[],s,h,_=>h
 |k :: K,s,h,hk=>by
  rw [List.foldl_cons];refine Rh rows t K _ ?_ (fun x hx=>hk x (List.mem_cons_of_mem _ hx));have:=hk k (by simp);unfold Bv;split <;> omega
omit hN in
theorem Ri (rows:List bE):∀ (K:List Nat) (s:Int),K.foldl (Bv rows) s≤s∧∀ k∈K,K.foldl (Bv rows) s≤xD (xF rows (kU rows.length k))
 |[],s=>⟨Int.le_refl _,fun k hk=>by cases hk⟩
 |k :: K,s=>by
  obtain ⟨h1,h2⟩:=Ri rows K (Bv rows s k);have h3:Bv rows s k≤s∧Bv rows s k≤xD (xF rows (kU rows.length k)):=by
   unfold Bv;split <;> omega
  rw [List.foldl_cons];refine ⟨by omega,fun x hx=>?_⟩;rcases List.mem_cons.1 hx with rfl|hx
  ·omega
  ·exact h2 x hx
theorem Wv (r:bE) (t:List bE):(abj (2 ^ (r :: t).length)).foldl (Bv (r :: t)) ((r :: t).length:Int)=xD (uX (r :: t) (kT (r :: t))):=by
 have aja:=QT hN r t;obtain ⟨u,hu,eu⟩:=KG (r :: t) (kT (r :: t));obtain ⟨k,hk,ek⟩:=GY u;rw [hu] at hk ek;obtain ⟨g1,g2⟩:=Ri (r :: t) (abj (2 ^ (r :: t).length)) ((r :: t).length:Int);have a1:=g2 k (List.mem_range.2 hk);rw [ek,← eu] at a1;have hs:xD (uX (r :: t) (kT (r :: t)))≤((r :: t).length:Int):=by
  have:=EA hN (uX (r :: t) (kT (r :: t))) (uX (r :: t) (kT (r :: t))).length;rw [uY] at this;unfold xD;rw [uY];omega
 have a2:=Rh (r :: t) (xD (uX (r :: t) (kT (r :: t)))) (abj (2 ^ (r :: t).length)) ((r :: t).length:Int) hs (fun k _=>aja (kU (r :: t).length k) (Bo _ _));omega
end
end Go.Proofs.YtldcljfjjoidhaaGreatDoor
namespace Go.Proofs.YtldcljfjjoidhaaGreatDoor
open Go Go.Am Go.Sort
open List (map)
open Int (toNat)
open Go.IntKind (wrap)
open Go.Am.aO (fits)
set_option maxRecDepth 100000
theorem Bw {p:List cQ} {i:Nat} (hi:i < p.length):bn (p.take (i+1))=bn (p.take i)++bV p[i]:=by
 rw [List.take_add_one,aaO hi];unfold bn;rw [List.flatMap_append];simp
theorem pX {l:List aF} (hx:(ao l).2=0) (hl:l.length≤40):(ao l).1.length≤40∧∀ r∈(ao l).1,mX r∧r.2.2 - r.2.1≤512:=by
 obtain ⟨h1,h2,h3,h4⟩:=vb hx;have hb:=(uZ l).1;constructor
 ·rw [h4];have hn:((jD l).map fun r=>nC r.1 r.2.1).Nodup:=by
   rw [List.nodup_iff_pairwise_ne,List.pairwise_map,List.pairwise_iff_getElem];intro i j hi hj Gy e;have:=congrArg (fun b:aF=>b.2.1) e;simp only [wv] at this;have:=GX l i j hj Gy;omega
  have:=fN _ l hn (fun x hx=>by
   obtain ⟨r,hr,rfl⟩:=List.mem_map.1 hx;have hrb:=Kw h1 h3 hr;obtain ⟨b1,b2,b3,b4,b5⟩:=hrb;exact (rC h1 h3 _).2 ⟨r,hr,r.2.1,by omega,by omega,rfl⟩)
  rw [aao] at this;omega
 ·intro r hr;refine ⟨hb r hr,?_⟩;rw [h4] at hr;obtain ⟨j,hj,rfl⟩:=List.mem_map.1 hr;have hj:=List.mem_range.1 hj;have:=(h3 j hj).2;have hc:(bX l (fV l+j)).length≤l.length:=by
   unfold bX;rw [aao];exact List.length_filter_le _ _
  show (qg _).2.2 - (qg _).2.1≤512;omega
theorem Jh {l:List aF} (hl:l.length≤40):B4 l=(ao l).2:=by
 by_cases h:(ao l).2=0
 ·obtain ⟨s1,s2⟩:=pX h hl;have ha:va (ao l).1=false:=by
   unfold va;rw [Option.isSome_eq_false_iff,Option.isNone_iff_eq_none,List.find?_eq_none];intro k hk;have hk:k < (ao l).1.length:=by simpa using hk
   have e:(ao l).1.getD k (0,0,0)=(ao l).1[k]:=by simp [hk]
   rw [e];have:=(s2 _ (aaB hk)).2;unfold EG;simp;omega
  unfold B4;rw [h,ha,if_neg (by omega)];rfl
 ·unfold B4;simp [aU,h]
theorem Mr {l:List aF} (hc:dC l=0) (h:(ao l).2≠0):(ao l).2=12∨(ao l).2=17:=by
 unfold ao at h ⊢;rw [if_pos hc] at h ⊢;unfold Dd at h ⊢;by_cases h0:l=[]
 ·rw [if_pos h0]; exact .inl rfl
 ·rw [if_neg h0] at h ⊢;by_cases ho:Qq l
  ·rw [if_pos ho] at h; exact absurd rfl h
  ·rw [if_neg ho]; exact .inr rfl
section
variable {N:Nat} (hN:fC N)
include hN
theorem Ww (m:Int) (l:List aF) (hx:(ao l).2=0) (p:List cQ) (e:Int) (hl:l.length≤40) (h:KE (ao l).1 p) :
  az (rE m N l (p,e) (ao l)) N (0,0)=some (.inr ((bn p).length:Int)):=by
 obtain ⟨h1,h2,h3,h4⟩:=vb hx;obtain ⟨g1,g2,g3⟩:=dp h1;have hlp:0 < l.length:=List.length_pos_iff.2 h2;have bd:=Qr h1 hlp;have hlen:=h.len;have key:=cU (rd:=rE m N l (p,e) (ao l)) (ao l).1.length (fun k=>(((bn (p.take k)).length:Int),(k:Int))) (.inr ((bn p).length:Int)) (fun k hk=>by
  have hkp:k < p.length:=by omega
  obtain ⟨a1,a2⟩:=GM (ao l).1 hk;obtain ⟨b1,b2⟩:=I7 hN p hkp;obtain ⟨c1,c2⟩:=gl l hlp;have c1':aB (ae (map cC l) (toNat 0))=l[0]:=c1;have c2':fits aA (ae (map cC l) (toNat 0))=true:=c2;obtain ⟨v,hv⟩:=h.get k hkp;have dS:=h.ok _ (aaB hk);have hy:((ao l).1[k]).1=fV l+k:=by
   have:(ao l).1[k]?=some (yi l k):=by
    rw [h4];unfold jD;rw [List.getElem?_map,List.getElem?_range (by rw [h4] at hk; simpa [jD] using hk)];rfl
   rw [aaO hk] at this;rw [abB this];rfl
  have aoc:k < 41:=by have:=(pX hx hl).1; omega
  have e0:l[0].2.1=fV l:=by unfold fV; simp [hlp]
  have wy:wrap .i64 (l[0].2.1+(k:Int))=((ao l).1[k]).1:=by rw [e0,hy]; exact fT (by omega)
  have q60:PE N (p[k].1,p[k].2.1,p[k].2.2.1,p[k].2.2.2.1,p[k].2.2.2.2)=some ((ao l).1[k]).1:=by
   have:=EC hN p[k] (by rw [hv]; exact pV dS.1 dS.2 v);rw [hv,EI] at this;rw [hv];exact this
  have KK:(bV p[k]).length=(((ao l).1[k]).2.2 - ((ao l).1[k]).2.1).toNat:=by
   unfold bV;rw [iD,hv,lW]
  have ajb:((bn (p.take (k+1))).length:Int)=((bn (p.take k)).length:Int)+(((ao l).1[k]).2.2 - ((ao l).1[k]).2.1):=by
   rw [Bw hkp,abn,KK];have:=dS.1.2.2.2.1;omega
  have Rw:=h.nodup k (by omega);have hle:=fN (bn (p.take k)) l Rw (fun x IJ=>by
   obtain ⟨i,hi,-,hxi⟩:=nW.1 IJ;have:x∈bn p:=List.mem_flatMap.2 ⟨_,aaB hi,hxi⟩;rw [h.mem,h4,← rC h1 h3] at this;exact this)
  obtain ⟨r1,r2,r3,r4,r5⟩:=dS.1;have wd:wrap .i64 (((ao l).1[k]).2.2 - ((ao l).1[k]).2.1)=((ao l).1[k]).2.2 - ((ao l).1[k]).2.1:=fT (by omega);have ws:wrap .i64 (((bn (p.take k)).length:Int)+(((ao l).1[k]).2.2 - ((ao l).1[k]).2.1))=((bn (p.take (k+1))).length:Int):=by
   rw [ajb];have:=dS.2;exact fT (by omega)
  have nr:decide (((ao l).1[k]).2.1≥((ao l).1[k]).2.2)=false:=decide_eq_false (by omega);have i0:decide ((0:Int)≤0∧0 < (l.length:Int))=true:=decide_eq_true (by omega);have pb:p[k].2.2.2.2=((ao l).1[k]).2.2 - ((ao l).1[k]).2.1:=by rw [hv,lW]
  have px:p[k].1=lL (ao l).1[k] v:=by rw [hv]; unfold aM; split <;> rfl
  have pw:p[k].2.2.1=v:=by rw [hv]; unfold aM; split <;> rfl
  generalize (ao l).1[k]=r at *;generalize p[k]=c at *;rw [px,pw,pb] at q60;simp only [rE,se,aao,a7 hk,ay hk,ay hkp,aaY,a1,a2,b1,b2,c1',c2',i0,abi,aau,cond_true,wy,bne_self_eq_false,cond_false,nr,q60,aad,beq_self_eq_true,pb,wd,pw,px];cases v
  ·simp only [cond_false,Bool.not_false,cond_true,lL,Bool.false_eq_true,if_false,bne_self_eq_false,aad,ws,bw (show k < 9223372036854775807 by omega)]
  ·simp only [cond_false,abq,cond_true,lL,if_true,bne_self_eq_false,aad,ws,bw (show k < 9223372036854775807 by omega)]) (by
  have e:p.take (ao l).1.length=p:=abo (by omega);simp only [rE,se,aao,bO,cond_false,e]) N 0 (Nat.zero_le _) (by
  have:=(pX hx hl).1;unfold fC at hN; omega)
 exact key
theorem Wx (m:Int) (l:List aF):T9 m N l=some true:=by
 have hT:∀ u,T14 N u=some true:=fun _=>rfl
 obtain ⟨b0,hb0,ZZ⟩:=Mq hN l;rw [aeU];simp only [cq,b9,aau,cond_true,aad,hb0];cases b0 with
 |false=>simp only [Bool.not_false,cond_true,hT,aad]
 |true=>
  have hl:=ZZ rfl;simp only [abq,cond_false,KN hN,aad];by_cases hc:dC l=0
  ·have hcb:(dC l != 0)=false:=by rw [hc]; rfl
   have hew:=Jh hl;simp only [hcb,cond_false,cq,b9,aau,cond_true,aad,abl hN l (by omega),QN hN,Dj hN];by_cases hx:(ao l).2=0
   ·have hwz:B4 l=0:=by rw [hew]; exact hx
    obtain ⟨s1,s2⟩:=pX hx hl;obtain ⟨y1,y2,y3,y4⟩:=vb hx;obtain ⟨r,t,hrt⟩:∃ r t,(ao l).1=r :: t:=by
     have h0:=(uZ l).2.2 hx;cases hh:(ao l).1 with
     |nil=>rw [hh] at h0; cases h0
     |cons r t=>exact ⟨r,t,rfl⟩
    have ec:Di l=(uX (ao l).1 (kT (ao l).1),0):=by unfold Di; rw [if_pos hwz]
    have fol:KE (ao l).1 (uX (ao l).1 (kT (ao l).1)):=⟨uY _ _,fun k hk=>QP _ _ k hk,s2,by rw [y4]; exact GX l⟩;obtain ⟨f1,f2,f3⟩:=fol.net hx (by omega);have q9:=Ww hN m l hx (uX (ao l).1 (kT (ao l).1)) 0 hl fol;have ql:=Rg hN m (ao l) s2 (by omega);have la:=Wv hN r t;rw [← hrt] at la;rw [la] at ql;have pl:=uY (ao l).1 (kT (ao l).1);have ajd:Mks l (uX (ao l).1 (kT (ao l).1)):=by
     refine ⟨fun c hc=>?_,fun c hc b hb=>?_⟩
     ·obtain ⟨k,hk,rfl⟩:=abr hc;obtain ⟨v,hv⟩:=fol.get k hk;have ho:=s2 _ (aaB (show k < (ao l).1.length by omega));rw [hv];refine ⟨GW ho.1 ho.2 v,?_⟩;rw [lW];have:=ho.1.2.2.2.1;omega
     ·have:b∈bn (uX (ao l).1 (kT (ao l).1)):=List.mem_flatMap.2 ⟨c,hc,hb⟩;rw [fol.mem,y4,← rC y1 y3] at this;exact this
    have Rw:(bn (uX (ao l).1 (kT (ao l).1))).Nodup:=by
     have:=fol.nodup _ (Nat.le_refl _);rw [List.take_length] at this;exact this
    have aeV:=Wq ajd hc Rw (fun x=>by rw [fol.mem,y4,← rC y1 y3]);have nH:=Rf y2;have cK:List.isEmpty (map iL (uX (ao l).1 (kT (ao l).1)))=false:=by rw [hrt]; rfl
    have q40:=aaA hN (uX (ao l).1 (kT (ao l).1)) 0 (by rw [Ks hN,f1]) (fun _=>(yP f1).2) (by omega);rw [if_pos rfl] at q40;generalize hp:uX (ao l).1 (kT (ao l).1)=p at *;have q38:=abf hN p (by omega);have q31:=VB hN p;rw [f1] at q31;have q58:T58 N (l,p)=some 0:=by
     rw [Ws hN];unfold abm;rw [hc,f1,f2];simp [aU]
    have q45:=Wf hN p f1;rw [f2] at q45;have q49:=Wr hN l l (by omega);have lb:decide (p.length * 32≤140737488355328)=true:=decide_eq_true (by omega);have nl:(((p.length:Nat):Int) != (((ao l).1.length:Nat):Int))=false:=by rw [pl]; exact bne_self_eq_false _
    have w1:decide ((((BA p p.length).length:Nat):Int) < xG l)=false:=decide_eq_false (by unfold xD at aeV; omega);have w2:decide (xG l < 1)=false:=decide_eq_false (by omega);have w3:decide ((0:Int)≤(((ao l).1.length:Nat):Int))=true:=decide_eq_true (by omega);have w4:((((bn p).length:Nat):Int) != ((l.length:Nat):Int))=false:=by rw [f3]; exact bne_self_eq_false _
    have w5:(((((BA p p.length).length:Nat):Int)) == xD p)=true:=beq_self_eq_true _;simp only [ec,hx,bne_self_eq_false,cond_false,aad,aao,nl,uN,uO,cq,b9,AI,By,abi,aau,cond_true,q38,q31,cK,lb,Nat.zero_add,List.nil_append,q58,q45,q49,decide_true,abq,q40,Rb hN,hc,if_true,w1,w2,q9,Sum.elim_inr,w4,w3,ql,w5,hT]
   ·have hb:(B4 l != 0)=true:=bne_iff_ne.2 (by rw [hew]; exact hx);have ec:Di l=([],B4 l):=by unfold Di; rw [if_neg (by rw [hew]; exact hx)]
    simp only [ec,hb,cond_true,aad,hew,beq_self_eq_true];rcases Mr hc hx with e|e
    ·have n12:((12:Int) != 0)=true:=rfl;simp only [e,n12,beq_self_eq_true,cond_true,hT,aad]
    ·have n17:((17:Int) != 0)=true:=rfl;have ne:((17:Int) == 12)=false:=rfl;simp only [e,n17,ne,beq_self_eq_true,cond_true,cond_false,hT,aad]
  ·have hcb:(dC l != 0)=true:=bne_iff_ne.2 hc;simp only [hcb,cond_true,hT,aad]
end
end Go.Proofs.YtldcljfjjoidhaaGreatDoor
