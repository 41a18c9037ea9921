/- Plain laws: mates,free sides,trawls of the reference as those of the program. -/
import Derived.Test.YtegoimldbgdeiaaSeamKD
import Derived.Test.YtegoimldbgdeiaaTrwT
set_option linter.all false
namespace Go.Proofs.Ytegoimldbgdeiaa
open Go Go.Am
set_option maxRecDepth 100000
theorem pI {V X α:Type} {rd:V→Option (V ⊕ X)} (l:List α) (q:α→Bool) (E:Nat→V) (ex:Nat→X) (fin:X)
  (h:∀ k (hk:k < l.length),rd (E k)=some (if q l[k]=true then .inr (ex k) else .inl (E (k+1)))) (h0:rd (E l.length)=some (.inr fin)) (n:Nat) (hn:l.length < n) :
  aF rd n (E 0)=some (match l.findIdx? q with | some i=>ex i | none=>fin):=by
 cases hf:l.findIdx? q with
 | none=>
  rw [List.findIdx?_eq_none_iff] at hf
  exact bu (rd:=rd) l.length E fin (fun k hk=>by rw [h k hk,hf _ (List.getElem_mem hk)]; rfl) h0 n 0 (Nat.zero_le _) (by omega)
 | some i=>
  rw [List.findIdx?_eq_some_iff_getElem] at hf
  obtain ⟨hi,h1,h2⟩:=hf
  exact bu (rd:=rd) i E (ex i) (fun k hk=>by
   rw [h k (by omega),if_neg (h2 k hk)]) (by rw [h i hi,if_pos h1]) n 0 (Nat.zero_le _) (by omega)
def Bo (e:Int × Int) (s:td):Bool:=qY (s.1,s.2.1) e || qY (s.2.2.1,s.2.2.2.1) e
def mN (t:fS) (e:Int × Int):Option Nat:=t.2.findIdx? (Bo e)
def Bp (s:td) (e:Int × Int):Int × Int:=if qY (s.1,s.2.1) e=true then (s.2.2.1,s.2.2.2.1) else (s.1,s.2.1)
def pd (t:fS) (i:Nat):td:=t.2.getD i (0,0,0,0,false)
def Eu (t:fS) (e:Int × Int):(Int × Int) × Int × Bool:=match mN t e with | some i=>(Bp (pd t i) e,(i:Int),true) | none=>((0,0),0,false)
def pf (t:fS) (e:Int × Int):(Int × Int) × Bool × Bool:=match mN t e with | some i=>(Bp (pd t i) e,(pd t i).2.2.2.2,true) | none=>((0,0),false,false)
def wu (t:fS):List (Int × Int):=(eh t).filter fun e=>(mN t e).isNone
theorem wv (t:fS) {i:Nat} (hi:i < t.2.length):pd t i=t.2[i]:=by
 unfold pd; rw [List.getD_eq_getElem?_getD,List.getElem?_eq_getElem hi]; rfl
theorem Ip {t:fS} {e:Int × Int} {i:Nat} (h:mN t e=some i):∃ hi:i < t.2.length,Bo e t.2[i]=true:=by
 unfold mN at h
 rw [List.findIdx?_eq_some_iff_getElem] at h
 obtain ⟨hi,h1,_⟩:=h
 exact ⟨hi,h1⟩
section
variable {N:Nat} (hN:fA N)
include hN
theorem Bq (t:fS) (e:Int × Int) (ht:t.2.length≤1000000):LH N (t,e)=some (Eu t e):=by
 have key:=pI (rd:=vW N t e) t.2 (Bo e) (fun k=>((k:Int),(0:Int),(0:Int))) (fun k=>.inl ((k:Int),true,(Bp (pd t k) e).1,(Bp (pd t k) e).2)) (.inr (0,0)) (fun k hk=>by
  obtain ⟨a1,a2⟩:=vQ t.2 hk
  simp only [vW,List.length_map,Int.toNat_natCast,a1,a2,aB hk,ar hk,Bool.and_self,cond_true,oA,a6 (show k < 9223372036854775807 by omega),wv t hk]
  unfold Bo Bp
  rw [lM (e.1,e.2) (t.2[k].1,t.2[k].2.1),lM (e.1,e.2) (t.2[k].2.2.1,t.2[k].2.2.2.1),show (e.1,e.2)=e from rfl]
  cases qY (t.2[k].1,t.2[k].2.1) e with
  | true=>rfl
  | false=>cases qY (t.2[k].2.2.1,t.2[k].2.2.2.1) e <;> rfl) (by
  simp only [vW,List.length_map,aQ,cond_false]) N (by unfold fA at hN; omega)
 rw [show LH N (t,e)=LH N ((t.1,t.2),e) from rfl,Ox]
 have key:aF (vW N (t.1,t.2) e) N (0,0,0)=_:=key
 rw [key]
 unfold Eu mN
 cases t.2.findIdx? (Bo e) <;> rfl
theorem Br (t:fS) (e:Int × Int) (ht:t.2.length≤1000000):L0 N (t,e)=some (pf t e):=by
 have key:=pI (rd:=we N t e) t.2 (Bo e) (fun k=>((k:Int),(0:Int),(0:Int))) (fun k=>.inl ((pd t k).2.2.2.2,true,(Bp (pd t k) e).1,(Bp (pd t k) e).2)) (.inr (0,0)) (fun k hk=>by
  obtain ⟨a1,a2⟩:=Ep t.2 hk
  simp only [we,List.length_map,Int.toNat_natCast,a1,a2,aB hk,ar hk,Bool.and_self,cond_true,oA,beq_self_eq_true,a6 (show k < 9223372036854775807 by omega),wv t hk]
  unfold Bo Bp
  rw [show (e.1,e.2)=e from rfl]
  cases qY (t.2[k].1,t.2[k].2.1) e with
  | true=>rfl
  | false=>cases qY (t.2[k].2.2.1,t.2[k].2.2.2.1) e <;> rfl) (by
  simp only [we,List.length_map,aQ,cond_false]) N (by unfold fA at hN; omega)
 rw [show L0 N (t,e)=L0 N ((t.1,t.2),e) from rfl,Pr]
 have key:aF (we N (t.1,t.2) e) N (0,0,0)=_:=key
 rw [key]
 unfold pf mN
 cases t.2.findIdx? (Bo e) <;> rfl
omit hN in
theorem Iq (l:List (Int × Int)) (a b:Int):List.map eZ l++[AV.agg [AV.int .i64 a,AV.int .i64 b]]=List.map eZ (l++[(a,b)]):=by rw [List.map_append]; rfl
omit hN in
theorem yg {α:Type} (q:α→Bool) (l:List α) (x:α):(l++[x]).filter q=if q x=true then l.filter q++[x] else l.filter q:=by
 rw [List.filter_append]
 cases h:q x <;> simp [h]
omit hN in
theorem wx (p k:Nat):cK p (k+1)=cK p k++[((p:Int),(k:Int))]:=by unfold cK; rw [List.range_succ,List.map_append]; rfl
omit hN in
theorem yh (p k:Nat):(cK p k).length=k:=by simp [cK]
theorem Ir (t:fS) (p:Nat) (hp:p < t.1.length) (hs:t.1[p].2.length≤1000) (ht:t.2.length≤1000000) (acc:List (Int × Int)) (ha:acc.length≤1000000) :
  aF (hH N ((p:Int),t.1,t.2,acc,t.1,t.2)) N (0,t.1,t.2,acc,t.1,t.2)=some (t.1,t.2,acc++(cK p t.1[p].2.length).filter (fun e=>(mN t e).isNone),t.1,t.2):=by
 obtain ⟨a1,a2⟩:=qM t.1 hp
 have key:=bu (rd:=hH N ((p:Int),t.1,t.2,acc,t.1,t.2)) t.1[p].2.length (fun k=>((k:Int),t.1,t.2,acc++(cK p k).filter (fun e=>(mN t e).isNone),t.1,t.2)) (t.1,t.2,acc++(cK p t.1[p].2.length).filter (fun e=>(mN t e).isNone),t.1,t.2) (fun k hk=>by
  have cl:(acc++(cK p k).filter (fun e=>(mN t e).isNone)).length≤acc.length+k:=by
   rw [List.length_append]
   have:=List.length_filter_le (fun e=>(mN t e).isNone) (cK p k)
   rw [yh] at this
   omega
  have q:=Bq hN t ((p:Int),(k:Int)) ht
  have q:LH N ((t.1,t.2),((p:Int),(k:Int)))=_:=q
  have d2:decide (((acc++(cK p k).filter (fun e=>(mN t e).isNone)).length+1) * 16≤140737488355328)=true:=decide_eq_true (by omega)
  simp only [hH,List.length_map,Int.toNat_natCast,a1,aB hk,bW,bX,ca,cb,fE,fF,a6 (show k < 9223372036854775807 by omega),Bool.and_self,Bool.and_true,cond_true,Option.bind_some,eq_self,decide_true,q,d2,HI]
  rw [wx,yg]
  unfold Eu
  cases hm:mN t ((p:Int),(k:Int)) with
  | none=>simp only [Option.isNone_none,if_true,List.append_assoc,Bool.not_false,cond_true,Option.bind_some,List.length_append,List.length_cons,List.length_nil,eq_self,decide_true,Nat.add_assoc,Nat.zero_add]
  | some i=>simp only [Option.isNone_some,reduceCtorEq,if_false,Bool.not_true,cond_false,Option.bind_some,eq_self,decide_true,cond_true]) (by
  simp only [hH,List.length_map,Int.toNat_natCast,a1,aQ,bW,bX,ca,cb,fE,fF,Bool.and_self,Bool.and_true,cond_true,cond_false,Option.bind_some,eq_self,decide_true]) N 0 (Nat.zero_le _) (by unfold fA at hN; omega)
 have e0:acc++(cK p 0).filter (fun e=>(mN t e).isNone)=acc:=by simp [cK]
 rw [e0] at key
 exact key
theorem Is (t:fS) (h:t.1.length≤1000) (hs:∀ x∈t.1,x.2.length≤1000) (ht:t.2.length≤1000000):HQ N t=some (wu t):=by
 have key:=bu (rd:=jQ N t) t.1.length (fun k=>((k:Int),t.1,t.2,(eK (t.1.take k) 0).filter (fun e=>(mN t e).isNone),t.1,t.2)) (t.1,t.2,wu t,t.1,t.2) (fun k hk=>by
  obtain ⟨a1,a2⟩:=qM t.1 hk
  have hc:=jP (t.1.take k) 0 fun x hx=>hs x (List.mem_of_mem_take hx)
  have hf:=List.length_filter_le (fun e=>(mN t e).isNone) (eK (t.1.take k) 0)
  have Bu:(t.1.take k).length=k:=by rw [List.length_take]; omega
  rw [Bu] at hc
  have q:=Ir hN t k hk (hs _ (List.getElem_mem hk)) ht ((eK (t.1.take k) 0).filter (fun e=>(mN t e).isNone)) (by omega)
  have es:(eK (t.1.take (k+1)) 0).filter (fun e=>(mN t e).isNone)=(eK (t.1.take k) 0).filter (fun e=>(mN t e).isNone)++(cK k t.1[k].2.length).filter (fun e=>(mN t e).isNone):=by
   rw [List.take_add_one,List.getElem?_eq_getElem hk]
   show (eK (t.1.take k++[t.1[k]]) 0).filter _=_
   rw [mH,Bu,Nat.zero_add,List.filter_append]
  simp only [jQ,List.length_map,Int.toNat_natCast,aB hk,ar hk,a2,q,← es,bW,bX,ca,cb,fE,fF,a6 (show k < 9223372036854775807 by omega),Bool.and_self,Bool.and_true,cond_true,Option.bind_some,eq_self,decide_true]) (by
  simp only [jQ,List.length_map,aQ,List.take_length,bW,bX,ca,cb,fE,fF,Bool.and_self,Bool.and_true,cond_true,cond_false,Option.bind_some,eq_self,decide_true]
  rfl) N 0 (Nat.zero_le _) (by unfold fA at hN; omega)
 have key:aF (jQ N t) N (0,t.1,t.2,[],t.1,t.2)=_:=key
 rw [show HQ N t=HQ N (t.1,t.2) from rfl,OA]
 have key:aF (jQ N (t.1,t.2)) N (0,t.1,t.2,[],t.1,t.2)=_:=key
 simp only [bW,bX,ca,cb,fE,fF,HJ,HK,Bool.and_self,Bool.and_true,cond_true,Option.bind_some]
 rw [show decide (0=(List.map aJ ([]:List (Int × Int))).length)=true from rfl]
 simp only [cond_true,Option.bind_some,key]
omit hN in
theorem It:allFit (ah.fits rn) ([]:List AV)=true:=rfl
omit hN in
theorem Iu:List.map d69 ([]:List AV)=[]:=rfl
theorem Iv (t:fS) (p:Nat) (hp:p < t.1.length) (hs:t.1[p].2.length≤1000) (ht:t.2.length≤1000000) (acc:List (Int × Int)) (ha:acc.length≤1000000) :
  aF (nY N t (acc,(p:Int))) N (acc,0)=some (acc++(cK p t.1[p].2.length).filter (fun e=>(mN t e).isNone)):=by
 obtain ⟨a1,a2⟩:=wj t.1 hp
 have key:=bu (rd:=nY N t (acc,(p:Int))) t.1[p].2.length (fun k=>(acc++(cK p k).filter (fun e=>(mN t e).isNone),(k:Int))) (acc++(cK p t.1[p].2.length).filter (fun e=>(mN t e).isNone)) (fun k hk=>by
  have cl:(acc++(cK p k).filter (fun e=>(mN t e).isNone)).length≤acc.length+k:=by
   rw [List.length_append]
   have:=List.length_filter_le (fun e=>(mN t e).isNone) (cK p k)
   rw [yh] at this
   omega
  have q:=Br hN t ((p:Int),(k:Int)) ht
  have q:L0 N ((t.1,t.2),((p:Int),(k:Int)))=_:=q
  have d2:decide (((acc++(cK p k).filter (fun e=>(mN t e).isNone)).length+1) * 16≤140737488355328)=true:=decide_eq_true (by omega)
  simp only [nY,List.length_map,Int.toNat_natCast,a1,a2,ar hp,aB hk,Ie,Ig,En,Eo,zw,zx,a6 (show k < 9223372036854775807 by omega),Bool.and_self,Bool.and_true,cond_true,Option.bind_some,eq_self,decide_true,q,d2,Iq]
  rw [wx,yg]
  unfold pf
  cases hm:mN t ((p:Int),(k:Int)) with
  | none=>simp only [Option.isNone_none,if_true,List.append_assoc,Bool.not_false,cond_true,Option.bind_some,List.length_append,List.length_cons,List.length_nil,eq_self,decide_true,Nat.add_assoc,Nat.zero_add]
  | some i=>simp only [Option.isNone_some,reduceCtorEq,if_false,Bool.not_true,cond_false,Option.bind_some,eq_self,decide_true,cond_true]) (by
  simp only [nY,List.length_map,Int.toNat_natCast,a1,a2,ar hp,aQ,zw,zx,Bool.and_self,Bool.and_true,cond_true,cond_false,Option.bind_some,eq_self,decide_true]) N 0 (Nat.zero_le _) (by unfold fA at hN; omega)
 have e0:acc++(cK p 0).filter (fun e=>(mN t e).isNone)=acc:=by simp [cK]
 rw [e0] at key
 exact key
theorem Iw (t:fS) (h:t.1.length≤1000) (hs:∀ x∈t.1,x.2.length≤1000) (ht:t.2.length≤1000000):Qp N t=some (wu t):=by
 have key:=bu (rd:=wg N t) t.1.length (fun k=>((eK (t.1.take k) 0).filter (fun e=>(mN t e).isNone),(k:Int))) (wu t) (fun k hk=>by
  obtain ⟨a1,a2⟩:=wj t.1 hk
  have hc:=jP (t.1.take k) 0 fun x hx=>hs x (List.mem_of_mem_take hx)
  have hf:=List.length_filter_le (fun e=>(mN t e).isNone) (eK (t.1.take k) 0)
  have Bu:(t.1.take k).length=k:=by rw [List.length_take]; omega
  rw [Bu] at hc
  have q:=Iv hN t k hk (hs _ (List.getElem_mem hk)) ht ((eK (t.1.take k) 0).filter (fun e=>(mN t e).isNone)) (by omega)
  have es:(eK (t.1.take (k+1)) 0).filter (fun e=>(mN t e).isNone)=(eK (t.1.take k) 0).filter (fun e=>(mN t e).isNone)++(cK k t.1[k].2.length).filter (fun e=>(mN t e).isNone):=by
   rw [List.take_add_one,List.getElem?_eq_getElem hk]
   show (eK (t.1.take k++[t.1[k]]) 0).filter _=_
   rw [mH,Bu,Nat.zero_add,List.filter_append]
  simp only [wg,List.length_map,Int.toNat_natCast,aB hk,q,← es,zw,zx,a6 (show k < 9223372036854775807 by omega),Bool.and_self,Bool.and_true,cond_true,Option.bind_some,eq_self,decide_true]) (by
  simp only [wg,List.length_map,aQ,List.take_length,zw,zx,Bool.and_self,Bool.and_true,cond_true,cond_false,Option.bind_some,eq_self,decide_true]
  rfl) N 0 (Nat.zero_le _) (by unfold fA at hN; omega)
 have key:aF (wg N (t.1,t.2)) N ([],0)=_:=key
 rw [show Qp N t=Qp N (t.1,t.2) from rfl,Pt]
 simp only [zw,zx,It,Iu,Bool.and_true,cond_true,Option.bind_some]
 rw [show decide (0=(List.map eZ ([]:List (Int × Int))).length)=true from rfl]
 simp only [cond_true,Option.bind_some,key]
theorem Ix (l:List (Int × Int)) (h:l.length≤1000000):TD N l=some l:=by
 have key:=bu (rd:=wi N l) l.length (fun k=>(l.take k,(k:Int))) l (fun k hk=>by
  obtain ⟨a1,a2⟩:=Kb l hk
  have ht:(l.take k).length=k:=by rw [List.length_take]; omega
  have uO:(l.take (k+1)).length=k+1:=by rw [List.length_take]; omega
  have d2:decide ((k+1) * 16≤140737488355328)=true:=decide_eq_true (by omega)
  have es:l.take k++[(l[k].1,l[k].2)]=l.take (k+1):=by rw [List.take_add_one,List.getElem?_eq_getElem hk]; rfl
  simp only [wi,List.length_map,Int.toNat_natCast,a1,a2,aB hk,ar hk,ht,uO,d2,Iq,es,zw,zx,a6 (show k < 9223372036854775807 by omega),Bool.and_self,Bool.and_true,cond_true,Option.bind_some,eq_self,decide_true]) (by
  simp only [wi,List.length_map,aQ,List.take_length,zw,zx,Bool.and_self,Bool.and_true,cond_true,cond_false,Option.bind_some,eq_self,decide_true]) N 0 (Nat.zero_le _) (by unfold fA at hN; omega)
 have key:aF (wi N l) N ([],0)=some l:=key
 rw [Px]
 simp only [zw,zx,It,Iu,Bool.and_true,cond_true,Option.bind_some]
 rw [show decide (0=(List.map eZ ([]:List (Int × Int))).length)=true from rfl]
 simp only [cond_true,Option.bind_some,key]
theorem q8 (l:List (Int × Int)) (h:l.length≤1000000):TC N (l,l)=some true:=by
 have key:=bu (rd:=wh N l l) l.length (fun k=>(k:Int)) (.inr ()) (fun k hk=>by
  obtain ⟨a1,a2⟩:=Wc l hk
  simp only [wh,List.length_map,Int.toNat_natCast,a1,a2,aB hk,ar hk,beq_self_eq_true,a6 (show k < 9223372036854775807 by omega),Bool.and_self,Bool.and_true,Bool.not_true,cond_true,cond_false]) (by
  simp only [wh,List.length_map,aQ,cond_false]) N 0 (Nat.zero_le _) (by unfold fA at hN; omega)
 have key:aF (wh N l l) N 0=some (.inr ()):=key
 rw [Pv,bne_self_eq_false,cond_false,key]; rfl
omit hN in
theorem KP (l:List (Int × Int)) (a b:Int):List.map n132 l++[AV.agg [AV.int .i64 a,AV.int .i64 b]]=List.map n132 (l++[(a,b)]):=by rw [List.map_append]; rfl
omit hN in
theorem KQ (l:List wZ) (x:List UInt8) (s:List (Int × Int)):List.map n131 l++[AV.agg [AV.str x,AV.list .iU 2 (List.map n132 s)]]=List.map n131 (l++[(x,s)]):=by rw [List.map_append]; rfl
omit hN in
theorem KR (l:List td) (a b c d:Int) (w:Bool):List.map n110 l++[AV.agg [AV.int .i64 a,AV.int .i64 b,AV.int .i64 c,AV.int .i64 d,AV.bool w]]=List.map n110 (l++[(a,b,c,d,w)]):=by rw [List.map_append]; rfl
omit hN in
theorem PG:allFit (ah.fits jE) ([]:List AV)=true∧List.map d132 ([]:List AV)=[]∧(List.map n132 ([]:List (Int × Int))).length=0:=⟨rfl,rfl,rfl⟩
omit hN in
theorem PH:allFit (ah.fits bp) ([]:List AV)=true∧List.map d131 ([]:List AV)=[]∧(List.map n131 ([]:List wZ)).length=0:=⟨rfl,rfl,rfl⟩
omit hN in
theorem PI:allFit (ah.fits bA) ([]:List AV)=true∧List.map d110 ([]:List AV)=[]∧(List.map n110 ([]:List td)).length=0:=⟨rfl,rfl,rfl⟩
theorem Iy (t:fS) (p:Nat) (hp:p < t.1.length) (hs:t.1[p].2.length≤1000) (acc:List wZ) (nm:List UInt8) :
  aF (lQ N t ((p:Int),acc,())) N (0,nm,[])=some (nm,t.1[p].2):=by
 obtain ⟨a1,a2⟩:=wj t.1 hp
 have key:=bu (rd:=lQ N t ((p:Int),acc,())) t.1[p].2.length (fun k=>((k:Int),nm,t.1[p].2.take k)) (nm,t.1[p].2) (fun k hk=>by
  obtain ⟨b1,b2⟩:=Pz t.1[p].2 hk
  have ht:(t.1[p].2.take k).length=k:=by rw [List.length_take]; omega
  have uO:(t.1[p].2.take (k+1)).length=k+1:=by rw [List.length_take]; omega
  have d2:decide ((k+1) * 16≤140737488355328)=true:=decide_eq_true (by omega)
  have es:t.1[p].2.take k++[(t.1[p].2[k].1,t.1[p].2[k].2)]=t.1[p].2.take (k+1):=by rw [List.take_add_one,List.getElem?_eq_getElem hk]; rfl
  simp only [lQ,List.length_map,Int.toNat_natCast,a1,b1,b2,aB hk,ar hk,ht,uO,d2,KP,es,vK,vL,a6 (show k < 9223372036854775807 by omega),Bool.and_self,Bool.and_true,cond_true,Option.bind_some,eq_self,decide_true]) (by
  simp only [lQ,List.length_map,Int.toNat_natCast,a1,aQ,List.take_length,vK,vL,Bool.and_self,Bool.and_true,cond_true,cond_false,Option.bind_some,eq_self,decide_true]) N 0 (Nat.zero_le _) (by unfold fA at hN; omega)
 exact key
theorem Iz (t:fS) (h:t.1.length≤1000) (hs:∀ x∈t.1,x.2.length≤1000):aF (wq N t) N (0,[],())=some (t.1,()):=by
 have key:=bu (rd:=wq N t) t.1.length (fun k=>((k:Int),t.1.take k,())) (t.1,()) (fun k hk=>by
  obtain ⟨a1,a2⟩:=wj t.1 hk
  have ht:(t.1.take k).length=k:=by rw [List.length_take]; omega
  have uO:(t.1.take (k+1)).length=k+1:=by rw [List.length_take]; omega
  have d2:decide ((k+1) * 40≤140737488355328)=true:=decide_eq_true (by omega)
  have es:t.1.take k++[(t.1[k].1,t.1[k].2)]=t.1.take (k+1):=by rw [List.take_add_one,List.getElem?_eq_getElem hk]; rfl
  have q:=Iy hN t k hk (hs _ (List.getElem_mem hk)) (t.1.take k) t.1[k].1
  simp only [wq,List.length_map,Int.toNat_natCast,a1,a2,aB hk,ar hk,ht,uO,d2,q,KQ,es,bW,bX,PG,a6 (show k < 9223372036854775807 by omega),Bool.and_self,Bool.and_true,cond_true,Option.bind_some,eq_self,decide_true,List.length_nil]) (by
  simp only [wq,List.length_map,aQ,List.take_length,bW,bX,Bool.and_self,Bool.and_true,cond_true,cond_false,Option.bind_some,eq_self,decide_true]) N 0 (Nat.zero_le _) (by unfold fA at hN; omega)
 exact key
theorem FO (t:fS) (h:t.2.length≤1000000) (l:List wZ):aF (qZ N t) N (0,l,[])=some (l,t.2):=by
 have key:=bu (rd:=qZ N t) t.2.length (fun k=>((k:Int),l,t.2.take k)) (l,t.2) (fun k hk=>by
  obtain ⟨a1,a2⟩:=Ep t.2 hk
  have ht:(t.2.take k).length=k:=by rw [List.length_take]; omega
  have uO:(t.2.take (k+1)).length=k+1:=by rw [List.length_take]; omega
  have d2:decide ((k+1) * 40≤140737488355328)=true:=decide_eq_true (by omega)
  have es:t.2.take k++[(t.2[k].1,t.2[k].2.1,t.2[k].2.2.1,t.2[k].2.2.2.1,t.2[k].2.2.2.2)]=t.2.take (k+1):=by rw [List.take_add_one,List.getElem?_eq_getElem hk]; rfl
  simp only [qZ,List.length_map,Int.toNat_natCast,a1,a2,aB hk,ar hk,ht,uO,d2,KR,es,bW,bX,ca,cb,a6 (show k < 9223372036854775807 by omega),Bool.and_self,Bool.and_true,cond_true,Option.bind_some,eq_self,decide_true]) (by
  simp only [qZ,List.length_map,aQ,List.take_length,bW,bX,ca,cb,Bool.and_self,Bool.and_true,cond_true,cond_false,Option.bind_some,eq_self,decide_true]) N 0 (Nat.zero_le _) (by unfold fA at hN; omega)
 exact key
theorem KS (t:fS) (h:t.1.length≤1000) (hs:∀ x∈t.1,x.2.length≤1000) (h2:t.2.length≤1000000):Qq N t=some t:=by
 rw [PF]
 simp only [bW,bX,ca,cb,PH,PI,List.length_map,List.length_nil,Iz hN t h hs,FO hN t h2,Bool.and_self,Bool.and_true,cond_true,Option.bind_some,eq_self,decide_true]
theorem FP (t:fS) (a:Int):∃ b,Tz N (t,a)=some b∧(b=true→t.1.length≤18∧t.2.length≤66∧∀ x∈t.1,x.2.length≤10):=by
 rw [Pf]
 simp only [List.length_map]
 have o1:∃ c:Bool,((bif (decide (((t.1.length:Nat):Int) > a)) then (bif (decide (((t.1.length:Nat):Int)≤16)) then (some true) else (bif (decide (((t.1.length:Nat):Int) > 18)) then (some true) else (bif (decide (((t.2.length:Nat):Int) > 12)) then (bif (decide (((t.2.length:Nat):Int)≤64)) then (some true) else (some (decide (((t.2.length:Nat):Int) > 66)))) else (some (decide (((t.2.length:Nat):Int) > 66)))))) else (bif (decide (((t.1.length:Nat):Int) > 18)) then (some true) else (bif (decide (((t.2.length:Nat):Int) > 12)) then (bif (decide (((t.2.length:Nat):Int)≤64)) then (some true) else (some (decide (((t.2.length:Nat):Int) > 66)))) else (some (decide (((t.2.length:Nat):Int) > 66)))))):Option Bool)=some c∧(c=false→t.1.length≤18∧t.2.length≤66):=by
  by_cases c1:((t.1.length:Nat):Int) > a <;> by_cases c2:((t.1.length:Nat):Int)≤16 <;> by_cases c3:((t.1.length:Nat):Int) > 18 <;> by_cases c4:((t.2.length:Nat):Int) > 12 <;> by_cases c5:((t.2.length:Nat):Int)≤64 <;> by_cases c6:((t.2.length:Nat):Int) > 66 <;>
   simp only [c1,c2,c3,c4,c5,c6,decide_true,decide_false,cond_true,cond_false] <;> exact ⟨_,rfl,fun h=>by first | (cases h; done) | omega⟩
 obtain ⟨c,hc,E4⟩:=o1
 rw [hc]
 simp only [Option.bind_some]
 cases c with
 | true=>exact ⟨false,rfl,fun h=>by cases h⟩
 | false=>
  obtain ⟨h1,h2⟩:=E4 rfl
  have key:=pI (rd:=vZ N t) t.1 (fun x=>decide (x.1.length > 60) || decide (x.2.length > 10)) (fun k=>(k:Int)) (fun _=>.inl false) (.inr ()) (fun k hk=>by
   obtain ⟨a1,a2⟩:=wj t.1 hk
   simp only [vZ,List.length_map,Int.toNat_natCast,a1,a2,aB hk,ar hk,Bool.and_self,cond_true,a6 (show k < 9223372036854775807 by omega)]
   by_cases c1:t.1[k].1.length > 60
   ·have d:decide (((t.1[k].1.length:Nat):Int) > 60)=true:=by simp; omega
    rw [d,decide_eq_true c1]; rfl
   ·have d:decide (((t.1[k].1.length:Nat):Int) > 60)=false:=by simp; omega
    rw [d,decide_eq_false c1]
    by_cases c2:t.1[k].2.length > 10
    ·have d:decide (((t.1[k].2.length:Nat):Int) > 10)=true:=by simp; omega
     rw [d,decide_eq_true c2]; rfl
    ·have d:decide (((t.1[k].2.length:Nat):Int) > 10)=false:=by simp; omega
     rw [d,decide_eq_false c2]; rfl) (by
   simp only [vZ,List.length_map,aQ,cond_false]) N (by unfold fA at hN; omega)
  have key:aF (vZ N t) N 0=_:=key
  rw [key,cond_false]
  cases hf:t.1.findIdx? (fun x=>decide (x.1.length > 60) || decide (x.2.length > 10)) with
  | some i=>exact ⟨false,rfl,fun h=>by cases h⟩
  | none=>
   rw [List.findIdx?_eq_none_iff] at hf
   refine ⟨true,rfl,fun _=>⟨h1,h2,fun x hx=>?_⟩⟩
   have:=hf x hx
   simp only [Bool.or_eq_false_iff,decide_eq_false_iff_not] at this
   omega
theorem IA (t:fS) (h:t.1.length≤1000) (hs:∀ x∈t.1,x.2.length≤1000) (ht:t.2.length≤1000000):Qk N t=some (if lP t=0 then (wu t,0) else ([],lP t)):=by
 rw [show Qk N t=Qk N (t.1,t.2) from rfl,OF]
 simp only [bW,bX,ca,cb,fE,fF,HJ,HK,Bool.and_self,Bool.and_true,cond_true,Option.bind_some,show (t.1,t.2)=t from rfl,Dl hN,Is hN t h hs ht]
 by_cases hz:lP t=0
 ·rw [hz]; rfl
 ·rw [A6 hz,if_neg hz]; rfl
theorem IB (t:fS) (e:Int × Int) (ht:t.2.length≤1000000):Ql N (t,e)=some (if lP t≠0 then ((0,0),false,lP t) else if n5 t e=false then ((0,0),false,10) else if (pf t e).2.2=false then ((0,0),false,7) else ((pf t e).1,(pf t e).2.1,0)):=by
 rw [show Ql N (t,e)=Ql N ((t.1,t.2),(e.1,e.2)) from rfl,OH]
 simp only [bW,bX,ca,cb,Bool.and_self,Bool.and_true,cond_true,Option.bind_some,show (t.1,t.2)=t from rfl,show (e.1,e.2)=e from rfl,Dl hN,zA,Bq hN t e ht,List.length_map]
 by_cases hz:lP t=0
 ·rw [hz,if_neg (show ¬ ((0:Int)≠0) by decide)]
  cases he:n5 t e with
  | false=>rfl
  | true=>
   unfold Eu pf
   cases hm:mN t e with
   | none=>rfl
   | some i=>
    obtain ⟨hi,_⟩:=Ip hm
    obtain ⟨a1,a2⟩:=vQ t.2 hi
    simp only [bne_self_eq_false,cond_false,Bool.not_true,Int.toNat_natCast,a1,a2,ar hi,Bool.and_self,cond_true,beq_self_eq_true,Bc,Bool.and_true,reduceCtorEq,if_false,wv t hi]
 ·rw [A6 hz,if_pos hz]; rfl
theorem KT (t:fS) (e:Int × Int):T7 N (t,e)=some true:=by
 rw [show T7 N (t,e)=T7 N ((t.1,t.2),(e.1,e.2)) from rfl,SP]
 obtain ⟨b,hb,DK⟩:=FP hN t 4
 simp only [Tv,Ie,Ig,En,Eo,Bool.and_self,Bool.and_true,cond_true,cond_false,Bool.not_true,Option.bind_some,show (t.1,t.2)=t from rfl,show (e.1,e.2)=e from rfl,hb]
 cases b with
 | false=>rfl
 | true=>
  obtain ⟨h1,h2,h3⟩:=DK rfl
  have hs:∀ x∈t.1,x.2.length≤1000:=fun x hx=>by have:=h3 x hx; omega
  have fl:(wu t).length≤1000000:=by
   have:=List.length_filter_le (fun e=>(mN t e).isNone) (eh t)
   have h4:=jP t.1 0 hs
   unfold wu
   unfold eh at this ⊢
   omega
  simp only [Bool.not_true,cond_false,PD hN,KS hN t (by omega) hs (by omega),bW,bX,ca,cb,fE,fF,zw,zx,It,Iu,Bool.and_self,Bool.and_true,cond_true,Option.bind_some,show (t.1,t.2)=t from rfl,show (e.1,e.2)=e from rfl,IA hN t (by omega) hs (by omega),IB hN t e (by omega),Iw hN t (by omega) hs (by omega),zz,Br hN t e (by omega),Dl hN,beq_self_eq_true]
  by_cases hz:lP t=0
  ·have n1:¬ ((0:Int)≠0):=by decide
   simp only [hz,beq_self_eq_true,cond_true,if_true,if_neg n1,Ix hN _ fl,Option.bind_some]
   cases he:n5 t e with
   | false=>
    simp only [Bool.not_false,cond_true,Option.bind_some,q8 hN _ fl,if_true,beq_self_eq_true,Bool.and_self]
   | true=>
    simp only [Bool.not_true,cond_false,Option.bind_some,reduceCtorEq,if_false]
    cases hm:(pf t e).2.2 with
    | false=>
     have e0:pf t e=((0,0),false,false):=by
      unfold pf at hm ⊢
      cases hq:mN t e with
      | none=>rfl
      | some i=>rw [hq] at hm; cases hm
     simp only [e0,Bool.not_false,cond_true,Option.bind_some,q8 hN _ fl,if_true,beq_self_eq_true,Bool.and_self]
    | true=>
     simp only [Bool.not_true,cond_false,cond_true,Option.bind_some,q8 hN _ fl,reduceCtorEq,if_false,beq_self_eq_true,Bool.and_self]
  ·have q:(lP t == 0)=false:=RG hz
   simp only [q,hz,cond_false,if_false,Option.bind_some,if_pos (show lP t≠0 from hz),beq_self_eq_true,cond_true,Ix hN [] (by simp),q8 hN [] (by simp),Bool.and_self]
end
end Go.Proofs.Ytegoimldbgdeiaa
