/- Plain laws: mates,free sides,trawls of the reference as those of the program. -/
import Derived.Test.YtegoimldbgdeiaaSeamKD
import Derived.Test.YtegoimldbgdeiaaTrwT
set_option linter.all false
namespace Go.Proofs.Ytegoimldbgdeiaa
open Go Go.Am
open List (map)
open Int (toNat)
open Go.IntKind (wrap)
open Go.Am.aM (fits)
set_option maxRecDepth 100000
theorem pt {V X α:Type} {rd:V→Option (V ⊕ X)} (l:List α) (q:α→Bool) (E:Nat→V) (ex:Nat→X) (fin:X)
  (h:∀ k (hk:k < l.length),rd (E k)=some (if q l[k]=true then .inr (ex k) else .inl (E (k+1)))) (h0:rd (E l.length)=some (.inr fin)) (n:Nat) (hn:l.length < n) :
  ar rd n (E 0)=some (match l.findIdx? q with | some i=>ex i | none=>fin):=by
 cases hf:l.findIdx? q with
 |none=>
  rw [List.findIdx?_eq_none_iff] at hf;exact aU (rd:=rd) l.length E fin (fun k hk=>by rw [h k hk,hf _ (List.getElem_mem hk)]; rfl) h0 n 0 (Nat.zero_le _) (by omega)
 |some i=>
  rw [List.findIdx?_eq_some_iff_getElem] at hf;obtain ⟨hi,h1,h2⟩:=hf;exact aU (rd:=rd) i E (ex i) (fun k hk=>by
   rw [h k (by omega),if_neg (h2 k hk)]) (by rw [h i hi,if_pos h1]) n 0 (Nat.zero_le _) (by omega)
def av (t:cu) (i:Nat):pH:=t.2.getD i (0,0,0,0,false)
theorem fC (t:cu) {i:Nat} (hi:i < t.2.length):av t i=t.2[i]:=by
 unfold av; rw [List.getD_eq_getElem?_getD,List.getElem?_eq_getElem hi]; rfl
section
variable {N:Nat} (hN:ey N)
include hN
omit hN in
theorem P7 (l:List (Int × Int)) (a b:Int):map n132 l++[AV.agg [AV.int .i64 a,AV.int .i64 b]]=map n132 (l++[(a,b)]):=by rw [List.map_append]; rfl
omit hN in
theorem P8 (l:List AS) (x:List UInt8) (s:List (Int × Int)):map n131 l++[AV.agg [AV.str x,AV.list .ea 2 (map n132 s)]]=map n131 (l++[(x,s)]):=by rw [List.map_append]; rfl
omit hN in
theorem P9 (l:List pH) (a b c d:Int) (w:Bool):map n110 l++[AV.agg [AV.int .i64 a,AV.int .i64 b,AV.int .i64 c,AV.int .i64 d,AV.bool w]]=map n110 (l++[(a,b,c,d,w)]):=by rw [List.map_append]; rfl
omit hN in
theorem Vt:allFit (fits wY) ([]:List AV)=true∧map d132 ([]:List AV)=[]∧(map n132 ([]:List (Int × Int))).length=0:=⟨rfl,rfl,rfl⟩
omit hN in
theorem Vu:allFit (fits nY) ([]:List AV)=true∧map d131 ([]:List AV)=[]∧(map n131 ([]:List AS)).length=0:=⟨rfl,rfl,rfl⟩
omit hN in
theorem Vv:allFit (fits ma) ([]:List AV)=true∧map d110 ([]:List AV)=[]∧(map n110 ([]:List pH)).length=0:=⟨rfl,rfl,rfl⟩
theorem M5 (t:cu) (p:Nat) (hp:p < t.1.length) (hs:t.1[p].2.length≤1000) (acc:List AS) (nm:List UInt8) :
  ar (ol N t ((p:Int),acc,())) N (0,nm,[])=some (nm,t.1[p].2):=by
 obtain ⟨a1,a2⟩:=Dd t.1 hp;have key:=aU (rd:=ol N t ((p:Int),acc,())) t.1[p].2.length (fun k=>((k:Int),nm,t.1[p].2.take k)) (nm,t.1[p].2) (fun k hk=>by
  obtain ⟨b1,b2⟩:=Vl t.1[p].2 hk;have ht:(t.1[p].2.take k).length=k:=by rw [List.length_take]; omega
  have AL:(t.1[p].2.take (k+1)).length=k+1:=by rw [List.length_take]; omega
  have d2:decide ((k+1) * 16≤140737488355328)=true:=decide_eq_true (by omega);have es:t.1[p].2.take k++[(t.1[p].2[k].1,t.1[p].2[k].2)]=t.1[p].2.take (k+1):=by rw [List.take_add_one,List.getElem?_eq_getElem hk]; rfl
  simp only [ol,List.length_map,Int.toNat_natCast,a1,b1,b2,ap hk,ah hk,ht,AL,d2,P7,es,zE,zF,aR (show k < 9223372036854775807 by omega),Bool.and_self,Bool.and_true,cond_true,Option.bind_some,eq_self,decide_true]) (by
  simp only [ol,List.length_map,Int.toNat_natCast,a1,aJ,List.take_length,zE,zF,Bool.and_self,Bool.and_true,cond_true,cond_false,Option.bind_some,eq_self,decide_true]) N 0 (Nat.zero_le _) (by unfold ey at hN; omega)
 exact key
theorem M6 (t:cu) (h:t.1.length≤1000) (hs:∀ x∈t.1,x.2.length≤1000):ar (zZ N t) N (0,[],())=some (t.1,()):=by
 have key:=aU (rd:=zZ N t) t.1.length (fun k=>((k:Int),t.1.take k,())) (t.1,()) (fun k hk=>by
  obtain ⟨a1,a2⟩:=Dd t.1 hk;have ht:(t.1.take k).length=k:=by rw [List.length_take]; omega
  have AL:(t.1.take (k+1)).length=k+1:=by rw [List.length_take]; omega
  have d2:decide ((k+1) * 40≤140737488355328)=true:=decide_eq_true (by omega);have es:t.1.take k++[(t.1[k].1,t.1[k].2)]=t.1.take (k+1):=by rw [List.take_add_one,List.getElem?_eq_getElem hk]; rfl
  have q:=M5 hN t k hk (hs _ (List.getElem_mem hk)) (t.1.take k) t.1[k].1;simp only [zZ,List.length_map,Int.toNat_natCast,a1,a2,ap hk,ah hk,ht,AL,d2,q,P8,es,bW,bX,Vt,aR (show k < 9223372036854775807 by omega),Bool.and_self,Bool.and_true,cond_true,Option.bind_some,eq_self,decide_true,List.length_nil]) (by
  simp only [zZ,List.length_map,aJ,List.take_length,bW,bX,Bool.and_self,Bool.and_true,cond_true,cond_false,Option.bind_some,eq_self,decide_true]) N 0 (Nat.zero_le _) (by unfold ey at hN; omega)
 exact key
theorem Ka (t:cu) (h:t.2.length≤1000000) (l:List AS):ar (uy N t) N (0,l,[])=some (l,t.2):=by
 have key:=aU (rd:=uy N t) t.2.length (fun k=>((k:Int),l,t.2.take k)) (l,t.2) (fun k hk=>by
  obtain ⟨a1,a2⟩:=ur t.2 hk;have ht:(t.2.take k).length=k:=by rw [List.length_take]; omega
  have AL:(t.2.take (k+1)).length=k+1:=by rw [List.length_take]; omega
  have d2:decide ((k+1) * 40≤140737488355328)=true:=decide_eq_true (by omega);have es:t.2.take k++[(t.2[k].1,t.2[k].2.1,t.2[k].2.2.1,t.2[k].2.2.2.1,t.2[k].2.2.2.2)]=t.2.take (k+1):=by rw [List.take_add_one,List.getElem?_eq_getElem hk]; rfl
  simp only [uy,List.length_map,Int.toNat_natCast,a1,a2,ap hk,ah hk,ht,AL,d2,P9,es,bW,bX,cj,ck,aR (show k < 9223372036854775807 by omega),Bool.and_self,Bool.and_true,cond_true,Option.bind_some,eq_self,decide_true]) (by
  simp only [uy,List.length_map,aJ,List.take_length,bW,bX,cj,ck,Bool.and_self,Bool.and_true,cond_true,cond_false,Option.bind_some,eq_self,decide_true]) N 0 (Nat.zero_le _) (by unfold ey at hN; omega)
 exact key
theorem Qa (t:cu) (h:t.1.length≤1000) (hs:∀ x∈t.1,x.2.length≤1000) (h2:t.2.length≤1000000):Wz N t=some t:=by
 rw [Vs];simp only [bW,bX,cj,ck,Vu,Vv,List.length_map,List.length_nil,M6 hN t h hs,Ka hN t h2,Bool.and_self,Bool.and_true,cond_true,Option.bind_some,eq_self,decide_true]
theorem Kb (t:cu) (a:Int):∃ b,Z4 N (t,a)=some b∧(b=true→t.1.length≤18∧t.2.length≤66∧∀ x∈t.1,x.2.length≤10):=by
 rw [Va];simp only [List.length_map];have o1:∃ c:Bool,((bif (decide (((t.1.length:Nat):Int) > a)) then (bif (decide (((t.1.length:Nat):Int)≤16)) then (some true) else (bif (decide (((t.1.length:Nat):Int) > 18)) then (some true) else (bif (decide (((t.2.length:Nat):Int) > 12)) then (bif (decide (((t.2.length:Nat):Int)≤64)) then (some true) else (some (decide (((t.2.length:Nat):Int) > 66)))) else (some (decide (((t.2.length:Nat):Int) > 66)))))) else (bif (decide (((t.1.length:Nat):Int) > 18)) then (some true) else (bif (decide (((t.2.length:Nat):Int) > 12)) then (bif (decide (((t.2.length:Nat):Int)≤64)) then (some true) else (some (decide (((t.2.length:Nat):Int) > 66)))) else (some (decide (((t.2.length:Nat):Int) > 66)))))):Option Bool)=some c∧(c=false→t.1.length≤18∧t.2.length≤66):=by
  by_cases c1:((t.1.length:Nat):Int) > a <;> by_cases c2:((t.1.length:Nat):Int)≤16 <;> by_cases c3:((t.1.length:Nat):Int) > 18 <;> by_cases c4:((t.2.length:Nat):Int) > 12 <;> by_cases c5:((t.2.length:Nat):Int)≤64 <;> by_cases c6:((t.2.length:Nat):Int) > 66 <;>
   simp only [c1,c2,c3,c4,c5,c6,decide_true,decide_false,cond_true,cond_false] <;> exact ⟨_,rfl,fun h=>by first | (cases h; done) | omega⟩
 obtain ⟨c,hc,Jn⟩:=o1;rw [hc];simp only [Option.bind_some];cases c with
 |true=>exact ⟨false,rfl,fun h=>by cases h⟩
 |false=>
  obtain ⟨h1,h2⟩:=Jn rfl;have key:=pt (rd:=zX N t) t.1 (fun x=>decide (x.1.length > 60) || decide (x.2.length > 10)) (fun k=>(k:Int)) (fun _=>.inl false) (.inr ()) (fun k hk=>by
   obtain ⟨a1,a2⟩:=Dd t.1 hk;simp only [zX,List.length_map,Int.toNat_natCast,a1,a2,ap hk,ah hk,Bool.and_self,cond_true,aR (show k < 9223372036854775807 by omega)];by_cases c1:t.1[k].1.length > 60
   ·have d:decide (((t.1[k].1.length:Nat):Int) > 60)=true:=by simp; omega
    rw [d,decide_eq_true c1]; rfl
   ·have d:decide (((t.1[k].1.length:Nat):Int) > 60)=false:=by simp; omega
    rw [d,decide_eq_false c1];by_cases c2:t.1[k].2.length > 10
    ·have d:decide (((t.1[k].2.length:Nat):Int) > 10)=true:=by simp; omega
     rw [d,decide_eq_true c2]; rfl
    ·have d:decide (((t.1[k].2.length:Nat):Int) > 10)=false:=by simp; omega
     rw [d,decide_eq_false c2]; rfl) (by
   simp only [zX,List.length_map,aJ,cond_false]) N (by unfold ey at hN; omega)
  have key:ar (zX N t) N 0=_:=key;rw [key,cond_false];cases hf:t.1.findIdx? (fun x=>decide (x.1.length > 60) || decide (x.2.length > 10)) with
  |some i=>exact ⟨false,rfl,fun h=>by cases h⟩
  |none=>
   rw [List.findIdx?_eq_none_iff] at hf;refine ⟨true,rfl,fun _=>⟨h1,h2,fun x hx=>?_⟩⟩;have:=hf x hx;simp only [Bool.or_eq_false_iff,decide_eq_false_iff_not] at this;omega
end
end Go.Proofs.Ytegoimldbgdeiaa
