/- Plain laws: seams are checked,and the places of pieces. -/
import Derived.Test.YtfiopgedfcaodaaGreatDoorSeamKA
import Derived.Test.YtfiopgedfcaodaaGreatDoorAmKK
import Derived.Test.YtfiopgedfcaodaaGreatDoorSeamTh
set_option linter.all false
namespace Go.Proofs.YtfiopgedfcaodaaGreatDoor
open Go Go.Am Go.Sort
set_option maxRecDepth 100000
theorem w24 (x y:Int):((bif allFit (Pat.fits p24) [AV.int .i64 x,AV.int .i64 y] then some (List.map d24 [AV.int .i64 x,AV.int .i64 y]) else none:Option (List Int)))=some [x,y]:=rfl
theorem w3 (x y:Int):((bif allFit (Pat.fits p3) [AV.int .i64 x,AV.int .i64 y] then some (List.map d3 [AV.int .i64 x,AV.int .i64 y]) else none:Option (List Int)))=some [x,y]:=rfl
section
variable {N:Nat} (hN:Big N)
include hN
theorem T42_chk (C:List (List P3)) (J:List Six):T42 N (C,J)=some (chkQ C J):=by
 rw [T42_eq]
 simp only [fa115,md115,Bool.and_true,cond_true,Option.bind_some,T41_chk hN C,T91_when,List.length_map,w24]
 rw [T90_first hN _ (by simp),Option.bind_some]
 unfold chkQ
 simp only [firstNZ]
 by_cases h0:chkP C=0
 ·obtain ⟨c1,c2⟩:=chkP_ok h0
  rw [if_pos h0,if_neg (show ¬ chkP C≠0 from fun c=>c h0)]
  by_cases h1:J.length > 1024
  ·have h1':(J.length:Int) > 1024:=by omega
   simp [h1,h1']
  ·have h1':¬ (J.length:Int) > 1024:=by omega
   have hpl:(plcs C).length≤1000000:=by
    have gen:∀ (n:Nat),((List.range n).flatMap (plc C)).length≤8192 * n:=by
     intro n
     induction n with
     | zero=>simp
     | succ n ih=>
      rw [List.range_succ,List.flatMap_append,List.length_append]
      have:=plc_len c2 n
      simp only [List.flatMap_cons,List.flatMap_nil,List.append_nil]
      omega
    have:=gen C.length
    unfold plcs
    omega
   obtain ⟨x,r,m,rfl,hm⟩:=R42_index hN C (plcs C) hpl
   have n0:mcells ([]:List (AV × AV))=[]:=rfl
   have x0:allX ([]:List (AV × AV))=true:=rfl
   have f0:allFit (Pat.fits pM191) []=true:=rfl
   have f1:allFit (Pat.fits p94) []=true:=rfl
   have f2:allFit (Pat.fits p24) []=true:=rfl
   have nb:Nat.beq 0 0=true:=rfl
   have hq:T90 N (J.map (errS C))=_:=T90_first hN _ (by rw [List.length_map]; omega)
   rw [if_neg h1]
   simp only [h1',decide_false,Bool.false_eq_true,if_false,if_true,bne_self_eq_false,cond_false,n0,x0,f0,f1,f2,nb,List.map_nil,List.length_nil,fa115,md115,fa94,md94,mc191,ax191,faM191,mdM191,Bool.and_self,cond_true,Option.bind_some,R42_places hN C c2 c1,r,R42_errs hN C J (by omega) (plcs C) m hm,decide_true,fa24,md24,hq]
 ·have hb:(chkP C != 0)=true:=bne_iff_ne.2 h0
  rw [if_neg h0,if_pos h0,hb]
  rfl
theorem T38_chk (C:List (List P3)) (J:List Six):T38 N (C,J)=some (chkQ C J):=by
 rw [T38_eq]
 simp only [fa115,md115,Bool.and_true,cond_true,Option.bind_some,T37_chk hN C,List.length_map]
 unfold chkQ
 by_cases h0:chkP C=0
 ·obtain ⟨c1,c2⟩:=chkP_ok h0
  rw [if_neg (show ¬ chkP C≠0 from fun c=>c h0),h0]
  by_cases h1:J.length > 1024
  ·have h1':(J.length:Int) > 1024:=by omega
   simp [h1,h1']
  ·have h1':¬ (J.length:Int) > 1024:=by omega
   have key:=first_loop2 (rd:=R38x250 N C J) (J.map (errS C)) (fun k hk=>by
    have hk:k < J.length:=by simpa using hk
    have hd:=nthD_map n129 J k hk
    have a1:d129 (nthD (List.map n129 J) k)=J[k]:=by rw [hd,dn129]
    have a2:Pat.fits p129 (nthD (List.map n129 J) k)=true:=by rw [hd,fn129]
    rw [List.getElem_map]
    have es:errS C J[k]=firstNZ [errQ C (J[k].1,J[k].2.1,J[k].2.2.1),errQ C (J[k].2.2.2.1,J[k].2.2.2.2.1,J[k].2.2.2.2.2),if (J[k].1,J[k].2.1,J[k].2.2.1)=(J[k].2.2.2.1,J[k].2.2.2.2.1,J[k].2.2.2.2.2) then 9 else 0]:=rfl
    have q1:=T113_err hN C (J[k].1,J[k].2.1,J[k].2.2.1) c2
    have q2:=T113_err hN C (J[k].2.2.2.1,J[k].2.2.2.2.1,J[k].2.2.2.2.2) c2
    have q3:∀ x y:Int,T28 N [x,y]=some (firstNZ [x,y]):=fun x y=>T28_first hN _ (by simp)
    generalize J[k]=j at *
    have hbeq:(j.1 == j.2.2.2.1&&(j.2.1 == j.2.2.2.2.1&&j.2.2.1 == j.2.2.2.2.2))=decide ((j.1,j.2.1,j.2.2.1)=(j.2.2.2.1,j.2.2.2.2.1,j.2.2.2.2.2)):=by
     rw [Bool.eq_iff_iff]
     simp only [Bool.and_eq_true,beq_iff_eq,decide_eq_true_eq,Prod.mk.injEq]
    simp only [R38x250,List.length_map,Int.toNat_natCast,a1,a2,lt_range hk,in_range hk,Bool.and_self,Bool.and_true,cond_true,fa115,md115,Option.bind_some,q1,q2,beq_self_eq_true,w3,q3,hbeq,w_succ (show k < 9223372036854775807 by omega)]
    rw [es]
    simp only [firstNZ]
    generalize errQ C (j.1,j.2.1,j.2.2.1)=u
    generalize errQ C (j.2.2.2.1,j.2.2.2.2.1,j.2.2.2.2.2)=v
    by_cases hu:u=0
    ·by_cases hv:v=0
     ·by_cases he:(j.1,j.2.1,j.2.2.1)=(j.2.2.2.1,j.2.2.2.2.1,j.2.2.2.2.2)
      ·simp only [hu,hv,if_true,he,decide_true,beq_self_eq_true,cond_true,Option.bind_some]; rfl
      ·simp only [hu,hv,if_true,he,if_false,decide_false,beq_self_eq_true,cond_true,cond_false,Option.bind_some]; rfl
     ·have hvb:(v == 0)=false:=beq_false_of_ne hv
      have hvn:(v != 0)=true:=bne_iff_ne.2 hv
      simp only [hu,hv,if_true,if_false,hvb,hvn,cond_true,cond_false,Option.bind_some]
    ·have hub:(u == 0)=false:=beq_false_of_ne hu
     have hun:(u != 0)=true:=bne_iff_ne.2 hu
     simp only [hu,if_false,hub,hun,cond_true,cond_false,Option.bind_some]) (by
    rw [List.length_map]
    simp only [R38x250,List.length_map,ge_range,cond_false]) N (by unfold Big at hN; rw [List.length_map]; omega)
   rw [if_neg h1]
   simp only [bne_self_eq_false,cond_false,h1',decide_false,key,Option.bind_some]
   split <;> simp_all
 ·have hb:(chkP C != 0)=true:=bne_iff_ne.2 h0
  rw [if_pos h0,hb]
  rfl
omit hN in
theorem snoc89b (s:List P3) (a b c:Int):List.map n89 s++[AV.agg [AV.int .i64 a,AV.int .i64 b,AV.int .i64 c]]=List.map n89 (s++[(a,b,c)]):=by
 rw [List.map_append]; rfl
end
end Go.Proofs.YtfiopgedfcaodaaGreatDoor
namespace Go.Proofs.YtfiopgedfcaodaaGreatDoor
open Go Go.Am Go.Sort
set_option maxRecDepth 100000
def jA (j:Six):P3:=(j.1,j.2.1,j.2.2.1)
def jB (j:Six):P3:=(j.2.2.2.1,j.2.2.2.2.1,j.2.2.2.2.2)
def tied (J:List Six) (p:P3):Bool:=J.any fun j=>decide (jA j=p) || decide (jB j=p)
theorem at129 (J:List Six) {k:Nat} (hk:k < J.length):d129 (nthD (List.map n129 J) k)=J[k]∧Pat.fits p129 (nthD (List.map n129 J) k)=true:=by
 rw [nthD_map n129 J k hk,dn129,fn129]; exact ⟨rfl,rfl⟩
theorem at89k (S:List P3) {k:Nat} (hk:k < S.length):d89 (nthD (List.map n89 S) k)=S[k]∧Pat.fits p89 (nthD (List.map n89 S) k)=true:=by
 rw [nthD_map n89 S k hk,dn89,fn89]; exact ⟨rfl,rfl⟩
theorem plcs_len {C:List (List P3)} (hC:∀ l∈C,chkN l=0) (hl:C.length≤16):(plcs C).length≤131072:=by
 have gen:∀ (n:Nat),((List.range n).flatMap (plc C)).length≤8192 * n:=by
  intro n
  induction n with
  | zero=>simp
  | succ n ih=>
   rw [List.range_succ,List.flatMap_append,List.length_append]
   have:=plc_len hC n
   simp only [List.flatMap_cons,List.flatMap_nil,List.append_nil]
   omega
 have:=gen C.length
 unfold plcs
 omega
section
variable {N:Nat} (hN:Big N)
include hN
theorem T43_same (l:List P3) (hl:l.length≤1000000):T43 N (l,l)=some true:=by
 rw [T43_eq]
 simp only [bne_self_eq_false,cond_false,List.length_map]
 have key:=loopR_count (rd:=R43x58 N l l) l.length (fun k=>(k:Int)) (.inr ()) (fun k hk=>by
  obtain ⟨a1,a2⟩:=at89k l hk
  simp only [R43x58,List.length_map,Int.toNat_natCast,a1,a2,lt_range hk,in_range hk,Bool.and_self,cond_true,beq_self_eq_true,Bool.not_true,cond_false,w_succ (show k < 9223372036854775807 by omega)]) (by
  simp only [R43x58,List.length_map,ge_range,cond_false]) N 0 (Nat.zero_le _) (by unfold Big at hN; omega)
 have key':loopR (R43x58 N l l) N 0=some (.inr ()):=key
 rw [key',Option.bind_some]
 rfl
theorem T44_same (l:List P3) (hl:l.length≤1000000):T44 N l=some l:=by
 rw [T44_eq]
 have key:=loopR_foldl (rd:=R44x58 N l) l (fun s k=>(s,(k:Int))) (fun s p=>s++[p]) (fun s=>s) (fun s k=>s.length=k) (fun s k hk hs=>by
  obtain ⟨a1,a2⟩:=at94 l hk
  have hb:decide ((s.length+1) * 24≤140737488355328)=true:=decide_eq_true (by omega)
  have hla:(s++[l[k]]).length=s.length+1:=by simp
  have hsn:List.map n89 s++[AV.agg [AV.int .i64 l[k].1,AV.int .i64 l[k].2.1,AV.int .i64 l[k].2.2]]=List.map n89 (s++[l[k]]):=snoc89b s _ _ _
  refine ⟨?_,by rw [hla,hs]⟩
  simp only [R44x58,List.length_map,Int.toNat_natCast,a1,a2,lt_range hk,in_range hk,Bool.and_self,Bool.and_true,cond_true,decide_true,hb,hsn,fa89,md89,Option.bind_some,hla,w_succ (show k < 9223372036854775807 by omega)]) (fun s _=>by
  simp only [R44x58,List.length_map,ge_range,cond_false,fa89,md89,Bool.and_true,cond_true,Option.bind_some,decide_true]) N [] 0 (Nat.zero_le _) (by unfold Big at hN; omega) rfl
 have key':loopR (R44x58 N l) N ([],0)=_:=key
 have z:((bif (allFit (Pat.fits p89) ([]:List AV)&&true) then some ((List.map d89 ([]:List AV)),0) else none:Option ((List (Int × Int × Int)) × Int)).bind fun w16=>bif (decide (0=(List.map n89 w16.1).length)&&true) then some w16 else none)=some ([],0):=rfl
 rw [z,Option.bind_some,key',List.drop_zero,foldl_snoc,List.nil_append,Option.bind_some]
 simp only [fa89,md89,Bool.and_true,cond_true] <;> rfl
end
end Go.Proofs.YtfiopgedfcaodaaGreatDoor
namespace Go.Proofs.YtfiopgedfcaodaaGreatDoor
open Go Go.Am Go.Sort
set_option maxRecDepth 100000
section
variable {N:Nat} (hN:Big N)
include hN
section
variable (J:List Six) (S:List P3) (m:List (P3 × Bool)) (hS:S.length≤1000000) (hm:∀ p,(getM p m).getD false=tied J p)
include hS hm
end
end
end Go.Proofs.YtfiopgedfcaodaaGreatDoor
namespace Go.Proofs.YtfiopgedfcaodaaGreatDoor
open Go Go.Am Go.Sort
set_option maxRecDepth 100000
theorem chkQ_ok {C:List (List P3)} {J:List Six} (h:chkQ C J=0):chkP C=0∧J.length≤1024:=by
 unfold chkQ at h
 split at h
 ·rename_i h0; exact absurd h h0
 ·rename_i h0
  split at h
  ·cases h
  ·exact ⟨Decidable.not_not.1 h0,by omega⟩
section
variable {N:Nat} (hN:Big N)
include hN
end
end Go.Proofs.YtfiopgedfcaodaaGreatDoor
namespace Go.Proofs.YtfiopgedfcaodaaGreatDoor
open Go Go.Am Go.Sort
set_option maxRecDepth 100000
def ltP (a b:P3):Prop:=a.1 < b.1∨a.1=b.1∧(a.2.2 < b.2.2∨a.2.2=b.2.2∧a.2.1 < b.2.1)
theorem plcs_sorted (C:List (List P3)):(plcs C).Pairwise ltP:=by
 unfold plcs
 rw [List.pairwise_flatMap]
 constructor
 ·intro i _
  unfold plc
  rw [List.pairwise_map]
  refine ((insL_spec swoK totK (0,0) (flatK2 (C.getD i []))).1).imp fun {x y} h=>?_
  have h:=of_decide_eq_true ((cfK_lt x y).symm.trans h)
  exact .inr ⟨rfl,h⟩
 ·refine List.pairwise_lt_range.imp fun {i j} h x hx y hy=>?_
  unfold plc at hx hy
  obtain ⟨k1,_,rfl⟩:=List.mem_map.1 hx
  obtain ⟨k2,_,rfl⟩:=List.mem_map.1 hy
  unfold ltP
  simp only
  omega
section
variable {N:Nat} (hN:Big N)
include hN
section
variable (S:List P3) (hS:S.length≤131072) (hs:S.Pairwise ltP)
include hS hs
end
end
end Go.Proofs.YtfiopgedfcaodaaGreatDoor
namespace Go.Proofs.YtfiopgedfcaodaaGreatDoor
open Go Go.Am Go.Sort
set_option maxRecDepth 100000
section
variable {N:Nat} (hN:Big N)
include hN
theorem R36_in (K:List (Int × Int)) (e:Int) (s:List P3) (i:Int) (hK:K.length≤8192):loopR (R36x164x58 N (K,e)) N ([],0,s,i)=some (K.map fun k=>(i,k.1,k.2),s,i):=by
 have key:=loopR_foldl (rd:=R36x164x58 N (K,e)) K (fun acc k=>(acc,(k:Int),s,i)) (fun acc k=>acc++[(i,k.1,k.2)]) (fun acc=>(acc,s,i)) (fun acc k=>acc.length=k) (fun acc k hk hs=>by
  obtain ⟨a1,a2⟩:=at87k K hk
  have hb:decide ((acc.length+1) * 24≤140737488355328)=true:=decide_eq_true (by omega)
  have hl:(acc++[(i,K[k].1,K[k].2)]).length=acc.length+1:=by simp
  refine ⟨?_,by rw [hl,hs]⟩
  simp only [R36x164x58,List.length_map,Int.toNat_natCast,a1,a2,lt_range hk,in_range hk,Bool.and_self,Bool.and_true,cond_true,decide_true,hb,snoc94,fa94,md94,Option.bind_some,hl,w_succ (show k < 9223372036854775807 by omega)]) (fun acc _=>by
  simp only [R36x164x58,List.length_map,ge_range,cond_false,fa94,md94,Bool.and_self,Bool.and_true,cond_true,Option.bind_some,decide_true]) N [] 0 (Nat.zero_le _) (by unfold Big at hN; omega) rfl
 have key':loopR (R36x164x58 N (K,e)) N ([],0,s,i)=_:=key
 rw [key',List.drop_zero,foldl_snocg,List.nil_append]
theorem R36_places (C:List (List P3)) (hC:∀ l∈C,chkN l=0) (hl:C.length≤16):loopR (R36x109x58 N C) N ((),0,[])=some ((),plcs C):=by
 have key:=loopR_foldl (rd:=R36x109x58 N C) (List.range C.length) (fun s k=>((),(k:Int),s)) (fun s i=>s++plc C i) (fun s=>((),s)) (fun s k=>s.length≤8192 * k) (fun s k hk hs=>by
  have hk:k < C.length:=by simpa using hk
  rw [List.getElem_range]
  obtain ⟨a1,a2⟩:=at115 C hk
  have hn:=hC _ (List.getElem_mem hk)
  have e:C.getD k []=C[k]:=by simp [hk]
  have hkl:=knots_len hn
  have q:=T163_knots hN C[k]
  rw [if_pos hn] at q
  have hpl:=plc_len hC k
  have hb:decide ((s.length+(plc C k).length) * 24≤140737488355328)=true:=decide_eq_true (by omega)
  have hi:=R36_in hN (knotsL C[k]) 0 s (k:Int) hkl
  have he:(knotsL C[k]).map (fun x=>((k:Int),x.1,x.2))=plc C k:=by unfold plc; rw [e]
  rw [he] at hi
  have z:∀ a b:List P3,List.map n94 a++List.map n94 b=List.map n94 (a++b):=fun a b=>by rw [List.map_append]
  have zn:allFit (Pat.fits p94) ([]:List AV)=true:=rfl
  have hla:(s++plc C k).length=s.length+(plc C k).length:=List.length_append
  refine ⟨?_,by rw [hla]; omega⟩
  simp only [R36x109x58,List.length_map,Int.toNat_natCast,a1,a2,lt_range hk,in_range hk,Bool.and_self,Bool.and_true,cond_true,fa120,md120,q,Option.bind_some,zn,fa94,md94,List.map_nil,List.length_nil,decide_true,hi,hb,z,hla,Nat.beq_refl,w_succ (show k < 9223372036854775807 by omega)]) (fun s _=>by
  rw [List.length_range]
  simp only [R36x109x58,List.length_map,ge_range,cond_false,Nat.beq_refl,fa94,md94,Bool.and_self,Bool.and_true,cond_true,Option.bind_some]) N [] 0 (Nat.zero_le _) (by unfold Big at hN; simp; omega) (Nat.zero_le _)
 have key':loopR (R36x109x58 N C) N ((),0,[])=_:=key
 rw [key',List.drop_zero,flatMap_foldl,List.nil_append]
 rfl
end
end Go.Proofs.YtfiopgedfcaodaaGreatDoor
namespace Go.Proofs.YtfiopgedfcaodaaGreatDoor
open Go Go.Am Go.Sort
set_option maxRecDepth 100000
theorem full_fit:∀ s:List (List P3),allFit (Pat.fits p115) (List.map n115 s++[AV.list .full 3 []])=true
 | []=>rfl
 | x :: s=>by
  show (Pat.fits p115 (n115 x)&&allFit (Pat.fits p115) (List.map n115 s++[AV.list .full 3 []]))=true
  rw [full_fit s,fn115]; rfl
theorem full_dec (s:List (List P3)):List.map d115 (List.map n115 s++[AV.list .full 3 []])=s++[[]]:=by
 rw [List.map_append,md115]; rfl
theorem snoc115 (s:List (List P3)) (l:List P3):List.map n115 s++[AV.list .opn 3 (List.map n120 l)]=List.map n115 (s++[l]):=by
 rw [List.map_append]; rfl
def short (l:List P3):Bool:=if l.length≤12 then true else if l.length > 4096 then decide (l.length≤4098) else false
section
variable {N:Nat} (hN:Big N)
include hN
theorem T34_same (C:List (List P3)) (hC:C.length≤100) (hl:∀ l∈C,l.length≤4098):T34 N C=some C:=by
 rw [T34_eq]
 have key:=loopR_foldl (rd:=R34x58 N C) C (fun s k=>(s,(k:Int))) (fun s l=>s++[l]) (fun s=>s) (fun s k=>s.length=k) (fun s k hk hs=>by
  obtain ⟨a1,a2⟩:=at115 C hk
  have hb:decide ((s.length+1) * 24≤140737488355328)=true:=decide_eq_true (by omega)
  have hla:(s++[C[k]]).length=s.length+1:=by simp
  have hlk:=hl _ (List.getElem_mem hk)
  refine ⟨?_,by rw [hla,hs]⟩
  by_cases h0:C[k]=[]
  ·rw [h0] at a1 hla ⊢
   simp only [R34x58,List.length_map,Int.toNat_natCast,a1,a2,lt_range hk,in_range hk,Bool.and_self,Bool.and_true,cond_true,List.map_nil,List.isEmpty_nil,decide_true,hb,full_fit,full_dec,Option.bind_some,hla,fa115,md115,w_succ (show k < 9223372036854775807 by omega)]
  ·have hne:List.isEmpty (List.map n120 C[k])=false:=by
    cases hd:C[k] with
    | nil=>exact absurd hd h0
    | cons x y=>rfl
   have hb2:decide ((0+C[k].length) * 24≤140737488355328)=true:=decide_eq_true (by omega)
   simp only [R34x58,List.length_map,Int.toNat_natCast,a1,a2,lt_range hk,in_range hk,Bool.and_self,Bool.and_true,cond_true,cond_false,hne,hb2,decide_true,hb,List.nil_append,snoc115,fa115,md115,Option.bind_some,hla,w_succ (show k < 9223372036854775807 by omega)]) (fun s _=>by
  simp only [R34x58,List.length_map,ge_range,cond_false,fa115,md115,Bool.and_true,cond_true,Option.bind_some,decide_true]) N [] 0 (Nat.zero_le _) (by unfold Big at hN; omega) rfl
 have key':loopR (R34x58 N C) N ([],0)=_:=key
 have z:((bif (allFit (Pat.fits p115) ([]:List AV)&&true) then some ((List.map d115 ([]:List AV)),0) else none:Option ((List (List (Int × Int × Int))) × Int)).bind fun w9=>bif (decide (0=(List.map n115 w9.1).length)&&true) then some w9 else none)=some ([],0):=rfl
 rw [z,Option.bind_some,key',List.drop_zero,foldl_snoc,List.nil_append,Option.bind_some]
 simp only [fa115,md115,Bool.and_true,cond_true] <;> rfl
theorem T35_same (J:List Six) (hJ:J.length≤1000000):T35 N J=some J:=by
 rw [T35_eq]
 have key:=loopR_foldl (rd:=R35x58 N J) J (fun s k=>(s,(k:Int))) (fun s p=>s++[p]) (fun s=>s) (fun s k=>s.length=k) (fun s k hk hs=>by
  obtain ⟨a1,a2⟩:=at129 J hk
  have hb:decide ((s.length+1) * 48≤140737488355328)=true:=decide_eq_true (by omega)
  have hla:(s++[J[k]]).length=s.length+1:=by simp
  have hsn:List.map n127 s++[AV.agg [AV.int .i64 J[k].1,AV.int .i64 J[k].2.1,AV.int .i64 J[k].2.2.1,AV.int .i64 J[k].2.2.2.1,AV.int .i64 J[k].2.2.2.2.1,AV.int .i64 J[k].2.2.2.2.2]]=List.map n127 (s++[J[k]]):=by rw [List.map_append]; rfl
  refine ⟨?_,by rw [hla,hs]⟩
  simp only [R35x58,List.length_map,Int.toNat_natCast,a1,a2,lt_range hk,in_range hk,Bool.and_self,Bool.and_true,cond_true,decide_true,hb,hsn,fa127,md127,Option.bind_some,hla,w_succ (show k < 9223372036854775807 by omega)]) (fun s _=>by
  simp only [R35x58,List.length_map,ge_range,cond_false,fa127,md127,Bool.and_true,cond_true,Option.bind_some,decide_true]) N [] 0 (Nat.zero_le _) (by unfold Big at hN; omega) rfl
 have key':loopR (R35x58 N J) N ([],0)=_:=key
 have z:((bif (allFit (Pat.fits p127) ([]:List AV)&&true) then some ((List.map d127 ([]:List AV)),0) else none:Option ((List (Int × Int × Int × Int × Int × Int)) × Int)).bind fun w6=>bif (decide (0=(List.map n127 w6.1).length)&&true) then some w6 else none)=some ([],0):=rfl
 rw [z,Option.bind_some,key',List.drop_zero,foldl_snoc,List.nil_append,Option.bind_some]
 simp only [fa127,md127,Bool.and_true,cond_true] <;> rfl
omit hN in
theorem T107_short (l:List P3):T107 N (l,12)=some (short l):=by
 rw [T107_eq]
 simp only [List.length_map]
 unfold short
 by_cases h1:l.length≤12
 ·have h1':(l.length:Int)≤12:=by omega
  simp [h1,h1']
 ·have h1':¬ (l.length:Int)≤12:=by omega
  by_cases h2:l.length > 4096
  ·have h2':(l.length:Int) > 4096:=by omega
   have e:decide ((l.length:Int)≤4098)=decide (l.length≤4098):=by rw [decide_eq_decide]; omega
   rw [decide_eq_false h1',decide_eq_true h2',if_neg h1,if_pos h2,e]
   rfl
  ·have h2':¬ (l.length:Int) > 4096:=by omega
   rw [decide_eq_false h1',decide_eq_false h2',if_neg h1,if_neg h2]
   rfl
end
end Go.Proofs.YtfiopgedfcaodaaGreatDoor
namespace Go.Proofs.YtfiopgedfcaodaaGreatDoor
open Go Go.Am
set_option maxRecDepth 100000
def uL (n:Nat) (u:Nat→Nat):List Int:=(List.range n).map fun i=>((u i:Nat):Int)
@[simp] theorem uL_len (n:Nat) (u:Nat→Nat):(uL n u).length=n:=by simp [uL]
theorem uL_get {n:Nat} (u:Nat→Nat) {k:Nat} (hk:k < (uL n u).length):(uL n u)[k]=(u k:Int):=by simp [uL]
theorem uL_set (n:Nat) (u:Nat→Nat) (k v:Nat):(uL n u).set k (v:Int)=uL n (upd u k v):=by
 apply List.ext_getElem
 ·simp
 ·intro j h1 h2
  have e1:(uL n (upd u k v))[j]=((upd u k v j:Nat):Int):=uL_get _ _
  rw [List.getElem_set,e1]
  by_cases e:j=k
  ·subst e; rw [if_pos rfl,upd_self]
  ·have e':¬ k=j:=fun h=>e h.symm
   rw [if_neg e',upd_ne e,uL_get]
theorem atU (n:Nat) (u:Nat→Nat) {k:Nat} (hk:k < n):d3 (nthD (List.map n3 (uL n u)) k)=(u k:Int)∧Pat.fits p3 (nthD (List.map n3 (uL n u)) k)=true:=by
 obtain ⟨a1,a2⟩:=at3 (uL n u) (k:=k) (by simpa using hk)
 exact ⟨a1.trans (uL_get u _),a2⟩
theorem setU (n:Nat) (u:Nat→Nat) (k v:Nat):setN (List.map n3 (uL n u)) k (AV.int .i64 (v:Int))=List.map n3 (uL n (upd u k v)):=by rw [setN3,uL_set]
def cnt (f:Nat→Nat) (k:Nat):Nat:=(List.range k).countP fun i=>decide (f i=i)
theorem cnt_succ (f:Nat→Nat) (k:Nat):cnt f (k+1)=cnt f k+if f k=k then 1 else 0:=by
 unfold cnt
 rw [List.range_succ,List.countP_append,List.countP_singleton]
 by_cases h:f k=k <;> simp [h]
theorem cnt_le (f:Nat→Nat) (k:Nat):cnt f k≤k:=by
 have:=List.countP_le_length (p:=fun i=>decide (f i=i)) (l:=List.range k)
 rwa [List.length_range] at this
theorem cnt_ext {f g:Nat→Nat} {n:Nat} (h:∀ i,i < n→f i=g i):cnt f n=cnt g n:=by
 unfold cnt
 apply List.countP_congr
 intro i hi
 rw [h i (List.mem_range.1 hi)]
theorem errB_ok {n:Int} {b:Int × Int} (h:errB n b=0):0≤b.1∧b.1≤b.2∧b.2 < n:=by
 have h:=firstNZ_zero.1 h
 have h1:=h (rng b.1 0 (n - 1)) (by simp)
 have h2:=h (rng b.2 0 (n - 1)) (by simp)
 have h3:=h (if decide (b.1 > b.2)=true then 11 else 0) (by simp)
 unfold rng at h1 h2
 split at h1
 ·cases h1
 ·split at h2
  ·cases h2
  ·split at h3
   ·cases h3
   ·rename_i a b c
    simp at c
    omega
theorem chkS_ok {C:List (List P3)} {B:List (Int × Int)} (h:chkS C B=0):C.length≤8192∧B.length≤8192∧∀ b∈B,0≤b.1∧b.1≤b.2∧b.2 < (C.length:Int):=by
 unfold chkS at h
 split at h
 ·cases h
 ·rename_i h0
  refine ⟨by omega,by omega,?_⟩
  cases hf:foldI stC [] C with
  | inr e=>
   rw [hf] at h
   have key:∀ (l:List (List P3)) (s:List P3) (e:Int × List P3),foldI stC s l=.inr e→e.1≠0:=by
    intro l
    induction l with
    | nil=>intro s e h; cases h
    | cons c l ih=>
     intro s e h
     unfold foldI at h
     cases hs:stC s c with
     | inl s'=>rw [hs] at h; exact ih s' e h
     | inr y=>
      rw [hs] at h
      injection h with h
      subst h
      unfold stC at hs
      split at hs
      ·injection hs with hs; subst hs; show (12:Int)≠0; decide
      ·have k2:∀ (l:List P3) (s:List P3) (e:Int × List P3),foldI stP s l=.inr e→e.1≠0:=by
        intro l
        induction l with
        | nil=>intro s e h; cases h
        | cons p l ih=>
         intro s e h
         unfold foldI at h
         unfold stP at h
         split at h
         ·exact ih _ e h
         ·rename_i hz
          injection h with h
          subst h
          exact hz
       exact k2 _ _ _ hs
   exact absurd h (key _ _ _ hf)
  | inl s=>
   rw [hf] at h
   intro b hb
   exact errB_ok (firstNZ_zero.1 h _ (List.mem_map.2 ⟨b,hb,rfl⟩))
theorem mm_if (a b:Nat):((if (b:Int) > (a:Int) then (b:Int) else (a:Int))=((max a b:Nat):Int))∧((if (b:Int) < (a:Int) then (b:Int) else (a:Int))=((min a b:Nat):Int)):=by
 constructor <;> split <;> omega
def bmp (s:List Int) (i:Nat):List Int:=s.set i (IntKind.wrap .i64 (s.getD i 0+1))
theorem bmp_len (s:List Int) (i:Nat):(bmp s i).length=s.length:=by simp [bmp]
def deg (n:Nat) (B:List (Int × Int)):List Int:=B.foldl (fun s b=>bmp (bmp s b.1.toNat) b.2.toNat) (List.replicate n 0)
theorem deg_len (n:Nat) (B:List (Int × Int)):(deg n B).length=n:=by
 unfold deg
 have:∀ (B:List (Int × Int)) (s:List Int),(B.foldl (fun s b=>bmp (bmp s b.1.toNat) b.2.toNat) s).length=s.length:=fun B=>by
  induction B with
  | nil=>intro s; rfl
  | cons b B ih=>intro s; rw [List.foldl_cons,ih,bmp_len,bmp_len]
 rw [this,List.length_replicate]
theorem bmp_at (s:List Int) {i:Nat} (hi:i < s.length):setN (List.map n3 s) i (AV.int .i64 (IntKind.wrap .i64 (s[i]+1)))=List.map n3 (bmp s i):=by
 rw [setN3]
 unfold bmp
 have e:s.getD i 0=s[i]:=by simp [hi]
 rw [e]
section
variable {N:Nat} (hN:Big N) (C:List (List P3)) (B:List (Int × Int)) (hC:C.length≤8192) (hB:B.length≤8192) (hb:∀ b∈B,0≤b.1∧b.1≤b.2∧b.2 < (C.length:Int))
include hN hC hB hb
theorem R54_loop:loopR (R54x122 N (C,B)) N (0,List.replicate C.length 0)=some (deg C.length B):=by
 have key:=loopR_foldl (rd:=R54x122 N (C,B)) B (fun s k=>((k:Int),s)) (fun s b=>bmp (bmp s b.1.toNat) b.2.toNat) (fun s=>s) (fun s _=>s.length=C.length) (fun s k hk hs=>by
  obtain ⟨a1,a2⟩:=at46g B hk
  obtain ⟨c1,c2,c3⟩:=hb _ (List.getElem_mem hk)
  obtain ⟨i,hi⟩:=Int.eq_ofNat_of_zero_le c1
  obtain ⟨j,hj⟩:=Int.eq_ofNat_of_zero_le (Int.le_trans c1 c2)
  have hic:i < C.length:=by omega
  have hjc:j < C.length:=by omega
  have his:i < s.length:=by omega
  have hjs:j < (bmp s i).length:=by rw [bmp_len]; omega
  obtain ⟨x1,x2⟩:=at3 s his
  obtain ⟨y1,y2⟩:=at3 (bmp s i) hjs
  have di:decide (i < C.length)=true:=decide_eq_true hic
  have dj:decide (j < C.length)=true:=decide_eq_true hjc
  refine ⟨?_,by rw [bmp_len,bmp_len,hs]⟩
  simp only [R54x122,List.length_map,Int.toNat_natCast,a1,a2,hi,hj,lt_range hk,in_range hk,in_range hic,in_range hjc,Bool.and_self,cond_true,hs,Nat.zero_add,decide_true,di,dj,x1,x2,bmp_at s his,bmp_len,y1,y2,bmp_at (bmp s i) hjs,fa3,md3,Option.bind_some,w_succ (show k < 9223372036854775807 by omega)]) (fun s hs=>by
  simp only [R54x122,List.length_map,ge_range,cond_false,fa3,md3,Bool.and_self,cond_true,Option.bind_some]) N (List.replicate C.length 0) 0 (Nat.zero_le _) (by unfold Big at hN; omega) (by simp)
 rw [List.drop_zero] at key
 exact key
def edg (B:List (Int × Int)):List (Nat × Nat):=B.map fun b=>(b.1.toNat,b.2.toNat)
omit hN hC hB hb in
theorem lab_take (es:List (Nat × Nat)) {k:Nat} (hk:k < es.length):lab (es.take (k+1))=mrg (lab (es.take k)) es[k]:=by
 unfold lab
 rw [List.take_add_one,List.foldl_append,List.getElem?_eq_getElem hk]
 rfl
omit hC hB hb in
theorem root_loop {n:Nat} {f:Nat→Nat} (o9:Unit × List Int) (ho:o9.2.length=n):∀ (fuel i:Nat) (u:Nat→Nat),i < fuel→i < n→UF f n u →
  ∃ u',loopR (R55x123x12 N o9) fuel ((i:Int),uL n u)=some ((f i:Int),uL n u')∧UF f n u'
 | 0,i,u,h,_,_=>by omega
 | fuel+1,i,u,hf,hi,hu=>by
  rw [loopR_succ]
  obtain ⟨a1,a2⟩:=atU n u hi
  have hle:=hu.le i hi
  have hui:u i < n:=by omega
  obtain ⟨b1,b2⟩:=atU n u hui
  obtain ⟨c1,c2⟩:=atU n (upd u i (u (u i))) hi
  rw [upd_self] at c1
  have di:decide (i < n)=true:=decide_eq_true hi
  have du:decide (u i < n)=true:=decide_eq_true hui
  by_cases he:u i=i
  ·refine ⟨u,?_,hu⟩
   have hb:((u i:Int) != (i:Int))=false:=by simp [he]
   simp only [R55x123x12,List.length_map,ho,uL_len,Int.toNat_natCast,Nat.zero_add,in_range hi,decide_true,di,a1,a2,Bool.and_self,cond_true,hb,cond_false,fa3,md3,Option.bind_some,Sum.elim_inr]
   rw [hu.fix i hi he]
  ·have hb:((u i:Int) != (i:Int))=true:=by simp; omega
   have hlt:=hu.le (u i) hui
   have hstep:R55x123x12 N o9 ((i:Int),uL n u)=some (.inl ((u (u i):Int),uL n (upd u i (u (u i))))):=by
    simp only [R55x123x12,List.length_map,ho,uL_len,Int.toNat_natCast,Nat.zero_add,in_range hi,in_range hui,decide_true,di,du,a1,a2,b1,b2,Bool.and_self,cond_true,hb,setU,c1,c2,fa3,md3,Option.bind_some]
   rw [hstep]
   simp only [Option.bind_some,Sum.elim_inl]
   have hu2:=hu.half hi he
   obtain ⟨u',h1,h2⟩:=root_loop o9 ho fuel (u (u i)) _ (by omega) (by omega) hu2
   refine ⟨u',?_,h2⟩
   rw [h1,(hu.lb (u i) hui).trans (hu.lb i hi)]
theorem bars_loop (o9:Unit × List Int) (ho:o9.2.length=C.length):∀ (m k fuel:Nat) (u:Nat→Nat),k+m=B.length→m < fuel→UF (lab ((edg B).take k)) C.length u →
  ∃ u',loopR (R55x122 N (C,B) o9) fuel ((k:Int),uL C.length u)=some (uL C.length u')∧UF (lab (edg B)) C.length u'
 | 0,k,fuel,u,hk,hf,hu=>by
  obtain ⟨fuel,rfl⟩:∃ g,fuel=g+1:=⟨fuel - 1,by omega⟩
  have hk:k=B.length:=by omega
  subst hk
  rw [loopR_succ]
  refine ⟨u,?_,?_⟩
  ·simp only [R55x122,List.length_map,ge_range,cond_false,fa3,md3,Bool.and_self,cond_true,Option.bind_some,Sum.elim_inr]
  ·have e:(edg B).take B.length=edg B:=List.take_of_length_le (by simp [edg])
   rwa [e] at hu
 | m+1,k,fuel,u,hk,hf,hu=>by
  obtain ⟨fuel,rfl⟩:∃ g,fuel=g+1:=⟨fuel - 1,by omega⟩
  have hk':k < B.length:=by omega
  rw [loopR_succ]
  obtain ⟨a1,a2⟩:=at46g B hk'
  obtain ⟨c1,c2,c3⟩:=hb _ (List.getElem_mem hk')
  obtain ⟨i,hi⟩:=Int.eq_ofNat_of_zero_le c1
  obtain ⟨j,hj⟩:=Int.eq_ofNat_of_zero_le (Int.le_trans c1 c2)
  have hic:i < C.length:=by omega
  have hjc:j < C.length:=by omega
  have hke:k < (edg B).length:=by simp [edg]; exact hk'
  have he:(edg B)[k]=(i,j):=by simp [edg,hi,hj]
  have hl:=lab_take (edg B) hke
  rw [he] at hl
  have hok:=lab_ok ((edg B).take k)
  obtain ⟨u1,r1,hu1⟩:=root_loop hN o9 ho N i u (by unfold Big at hN; omega) hic hu
  obtain ⟨u2,r2,hu2⟩:=root_loop hN o9 ho N j u1 (by unfold Big at hN; omega) hjc hu1
  have r2':loopR (R55x123x12b N o9) N ((j:Int),uL C.length u1)=some ((lab ((edg B).take k) j:Int),uL C.length u2):=r2
  obtain ⟨m1,m2⟩:=mm_if (lab ((edg B).take k) i) (lab ((edg B).take k) j)
  have hmax:max (lab ((edg B).take k) i) (lab ((edg B).take k) j) < C.length:=by
   have x1:=hok.le i
   have x2:=hok.le j
   omega
  have dm:decide (max (lab ((edg B).take k) i) (lab ((edg B).take k) j) < C.length)=true:=decide_eq_true hmax
  have hu3:=hu2.join hok (i,j) hic hjc
  rw [← hl] at hu3
  obtain ⟨u',h1,h2⟩:=bars_loop o9 ho m (k+1) fuel _ (by omega) (by omega) hu3
  refine ⟨u',?_,h2⟩
  have hstep:R55x122 N (C,B) o9 ((k:Int),uL C.length u)=some (.inl (((k+1:Nat):Int),uL C.length (upd u2 (max (lab ((edg B).take k) i) (lab ((edg B).take k) j)) (min (lab ((edg B).take k) i) (lab ((edg B).take k) j))))):=by
   simp only [R55x122,List.length_map,Int.toNat_natCast,a1,a2,hi,hj,lt_range hk',in_range hk',Bool.and_self,cond_true,fa3,md3,Option.bind_some,r1,r2',m1,m2,ho,uL_len,in_range hmax,Nat.zero_add,decide_true,dm,setU,w_succ (show k < 9223372036854775807 by omega)]
  rw [hstep]
  simp only [Option.bind_some,Sum.elim_inl]
  exact h1
omit hC hB hb in
theorem count_loop {n:Nat} (hn:n≤8192) {f:Nat→Nat} (o9:Unit × List Int) (ho:o9.2.length=n) (c1 c2 z:Int):∀ (m k fuel:Nat) (u:Nat→Nat),k+m=n→m < fuel→UF f n u →
  ∃ u',loopR (R55x506 N o9) fuel ((k:Int),c1,c2,(cnt f k:Int),z,uL n u)=some (c1,c2,(cnt f n:Int),z,uL n u')
 | 0,k,fuel,u,hk,hf,hu=>by
  obtain ⟨fuel,rfl⟩:∃ g,fuel=g+1:=⟨fuel - 1,by omega⟩
  have hk:k=n:=by omega
  subst hk
  rw [loopR_succ]
  exact ⟨u,by simp only [R55x506,List.length_map,ho,ge_range,cond_false,fa3,md3,Bool.and_self,cond_true,Option.bind_some,Sum.elim_inr]⟩
 | m+1,k,fuel,u,hk,hf,hu=>by
  obtain ⟨fuel,rfl⟩:∃ g,fuel=g+1:=⟨fuel - 1,by omega⟩
  have hk':k < n:=by omega
  rw [loopR_succ]
  obtain ⟨u1,r1,hu1⟩:=root_loop hN o9 ho N k u (by unfold Big at hN; omega) hk' hu
  have r1':loopR (R55x123x12bb N o9) N ((k:Int),uL n u)=some ((f k:Int),uL n u1):=r1
  obtain ⟨u',h1⟩:=count_loop hn o9 ho c1 c2 z m (k+1) fuel u1 (by omega) (by omega) hu1
  refine ⟨u',?_⟩
  have hcl:=cnt_le f k
  have hstep:R55x506 N o9 ((k:Int),c1,c2,(cnt f k:Int),z,uL n u)=some (.inl (((k+1:Nat):Int),c1,c2,(cnt f (k+1):Int),z,uL n u1)):=by
   simp only [R55x506,List.length_map,ho,lt_range hk',cond_true,fa3,md3,Bool.and_self,Option.bind_some,r1',w_succ (show k < 9223372036854775807 by omega),w_succ (show cnt f k < 9223372036854775807 by omega)]
   rw [cnt_succ]
   by_cases h:f k=k
   ·simp only [h,beq_self_eq_true,cond_true,if_true,fa3,md3,Bool.and_self,Option.bind_some]
   ·have hb:((f k:Int) == (k:Int))=false:=beq_false_of_ne (by omega)
    simp only [hb,cond_false,h,if_false,fa3,md3,Bool.and_self,cond_true,Option.bind_some,Nat.add_zero]
  rw [hstep]
  simp only [Option.bind_some,Sum.elim_inl]
  exact h1
omit hC hB hb in
theorem apart_loop (a0:List (List P3) × List (Int × Int)) (hn:a0.1.length≤8192):loopR (R55x122x58 N a0) N ((),0,[])=some ((),uL a0.1.length id):=by
 have hs:∀ k,uL k id++[(k:Int)]=uL (k+1) id:=fun k=>by unfold uL; rw [List.range_succ,List.map_append]; rfl
 have key:=loopR_count (rd:=R55x122x58 N a0) a0.1.length (fun k=>((),(k:Int),uL k id)) ((),uL a0.1.length id) (fun k hk=>by
  have hb:(k+1) * 8≤140737488355328:=by omega
  simp only [R55x122x58,List.length_map,lt_range hk,cond_true,uL_len,decide_true,Bool.and_self,hb,snoc3,hs,List.length_append,List.length_singleton,Nat.beq_refl,fa3,md3,Option.bind_some,w_succ (show k < 9223372036854775807 by omega)]) (by
  simp only [R55x122x58,List.length_map,ge_range,cond_false,uL_len,Nat.beq_refl,fa3,md3,Bool.and_self,cond_true,Option.bind_some]) N 0 (Nat.zero_le _) (by unfold Big at hN; omega)
 exact key
def cntS (C:List (List P3)) (B:List (Int × Int)):Int × Int × Int × Int:=
 ((C.length:Int),(B.length:Int),(cnt (lab (edg B)) C.length:Int),IntKind.wrap .i64 (IntKind.wrap .i64 ((B.length:Int) - (C.length:Int))+(cnt (lab (edg B)) C.length:Int)))
end
end Go.Proofs.YtfiopgedfcaodaaGreatDoor
namespace Go.Proofs.YtfiopgedfcaodaaGreatDoor
open Go Go.Am Go.Sort
set_option maxRecDepth 100000
def ixN (S:List P3) (p:P3):Nat:=S.idxOf p
theorem ixN_lt {S:List P3} {p:P3} (h:p∈S):ixN S p < S.length:=List.idxOf_lt_length_of_mem h
theorem ixN_at {S:List P3} (hS:S.Nodup) (k:Nat) (h:k < S.length):ixN S S[k]=k:=hS.idxOf_getElem k h
theorem plcs_nodup (C:List (List P3)):(plcs C).Nodup:=(plcs_sorted C).imp fun {a b} h e=>by
 subst e
 unfold ltP at h
 omega
theorem MR109:MapEnc .int (fun k=>AV.int .i64 k) (fun v=>AV.int .i64 v) nM109:=⟨fun a b=>eqK_int .i64 a b,fun _=>rfl,fun _=>rfl⟩
theorem mk109 (k:Int) (m:List (Int × Int)):mkeys .int (AV.int .i64 k) (entriesL (List.map nM109 m))=true:=MR109.keys k m
theorem mg109 (k:Int) (m:List (Int × Int)):mgetD .int (AV.int .i64 k) (AV.int .i64 0) (entriesL (List.map nM109 m))=n3 ((getM k m).getD 0):=MR109.getD k 0 m
theorem mp109 (k v:Int) (m:List (Int × Int)):mputT .int (AV.int .i64 k) (AV.int .i64 v) (entriesL (List.map nM109 m))=entriesL (List.map nM109 (putM k v m)):=MR109.put k v m
theorem mc109 (m:List (Int × Int)):mcells (entriesL (List.map nM109 m))=List.map nM109 m:=MR109.cells m
theorem ax109 (m:List (Int × Int)):allX (entriesL (List.map nM109 m))=true:=MR109.allX m
def lenI (L:List Nat):List Int:=L.map fun n:Nat=>(n:Int)
def lenC (CL:List (List P3)):List Nat:=CL.map List.length
def famE (CL:List (List P3)):List (Nat × List P3):=(List.range CL.length).map fun c=>(c,CL.getD c [])
theorem unf2 (L:List Nat):unfamL (List.map n2 (lenI L))=L:=by
 unfold unfamL lenI
 rw [List.map_map,List.map_map]
 conv=>rhs; rw [← List.map_id L]
 apply List.map_congr_left
 intro n _
 show ((n:Int)).toNat=n
 exact Int.toNat_natCast n
theorem famL_n2 (L:List Nat):famL L=List.map n2 (lenI L):=by
 unfold famL lenI
 rw [List.map_map]; rfl
theorem faL (L:List Nat):allFit (Pat.fits p2) (famL L)=true:=by rw [famL_n2,fa2]
theorem mdL (L:List Nat):List.map d2 (famL L)=lenI L:=by rw [famL_n2,md2]
@[simp] theorem lenC_len (CL:List (List P3)):(lenC CL).length=CL.length:=by simp [lenC]
theorem lenC_snoc (CL:List (List P3)):lenC CL++[0]=lenC (CL++[[]]):=by simp [lenC]
theorem lenC_set (CL:List (List P3)) (c:Nat) (l:List P3):setN (lenC CL) c l.length=lenC (CL.set c l):=by
 rw [setN_eq]
 unfold lenC
 rw [List.map_set]
theorem lenC_nth {CL:List (List P3)} {c:Nat} (h:c < CL.length):nth (lenC CL) c=some CL[c].length:=by
 rw [nth_eq]
 simp [lenC,h]
@[simp] theorem famE_len (CL:List (List P3)):(famE CL).length=CL.length:=by simp [famE]
theorem famE_get {CL:List (List P3)} {c:Nat} (h:c < (famE CL).length):(famE CL)[c]=(c,CL[c]'(by simpa using h)):=by
 have h':c < CL.length:=by simpa using h
 simp [famE,h']
theorem famE_snoc (CL:List (List P3)) (l:List P3):famE CL++[(CL.length,l)]=famE (CL++[l]):=by
 unfold famE
 rw [List.length_append,List.length_singleton,List.range_succ,List.map_append]
 congr 1
 ·apply List.map_congr_left
  intro c hc
  have hc:=List.mem_range.1 hc
  simp [List.getElem?_append,hc]
 ·simp
theorem famE_set (CL:List (List P3)) (c:Nat) (l:List P3):(famE CL).set c (c,l)=famE (CL.set c l):=by
 apply List.ext_getElem
 ·simp
 ·intro j h1 h2
  have hj:j < CL.length:=by simpa using h1
  rw [famE_get h2,List.getElem_set]
  by_cases e:c=j
  ·subst e; simp
  ·rw [if_neg e,famE_get (by simpa using hj)]
   simp [e]
theorem atF {CL:List (List P3)} {c:Nat} (h:c < CL.length):dF74x4 (nthD (List.map nF74x4 (famE CL)) c)=(c,CL[c])∧Pat.fits pF74x4 (nthD (List.map nF74x4 (famE CL)) c)=true:=by
 have hd:=nthD_map nF74x4 (famE CL) c (by simpa using h)
 rw [hd,dnF74x4,fnF74x4,famE_get]
 exact ⟨rfl,rfl⟩
theorem snocF (CL:List (List P3)):List.map nF74x4 (famE CL)++[AV.list (.fam 4 CL.length) 3 []]=List.map nF74x4 (famE (CL++[[]])):=by
 rw [← famE_snoc,List.map_append]; rfl
theorem setF (CL:List (List P3)) (c:Nat) (l:List P3) (a b d:Int):setN (List.map nF74x4 (famE CL)) c (AV.list (.fam 4 c) 3 (List.map n94 l++[AV.agg [AV.int .i64 a,AV.int .i64 b,AV.int .i64 d]]))=List.map nF74x4 (famE (CL.set c (l++[(a,b,d)]))):=by
 rw [← famE_set,setN_eq,List.map_set,snoc94]
 rfl
def clsS (f:Nat→Nat) (S:List P3) (CL:List (List P3)) (i:Nat):List (List P3):=
 if f i=i then CL++[[S.getD i (0,0,0)]] else CL.set (cnt f (f i)) (CL.getD (cnt f (f i)) []++[S.getD i (0,0,0)])
def clsL (f:Nat→Nat) (S:List P3) (k:Nat):List (List P3):=(List.range k).foldl (clsS f S) []
theorem clsL_succ (f:Nat→Nat) (S:List P3) (k:Nat):clsL f S (k+1)=clsS f S (clsL f S k) k:=by
 unfold clsL
 rw [List.range_succ,List.foldl_append]
 rfl
theorem clsL_len (f:Nat→Nat) (S:List P3):∀ k,(clsL f S k).length=cnt f k
 | 0=>rfl
 | k+1=>by
  rw [clsL_succ,cnt_succ]
  unfold clsS
  split
  ·rw [List.length_append,clsL_len f S k]; rfl
  ·rw [List.length_set,clsL_len f S k]; rfl
theorem clsL_mem (f:Nat→Nat) (S:List P3):∀ k,∀ l∈clsL f S k,l.length≤k
 | 0,l,h=>by cases h
 | k+1,l,h=>by
  rw [clsL_succ] at h
  unfold clsS at h
  split at h
  ·rcases List.mem_append.1 h with h | h
   ·have:=clsL_mem f S k l h; omega
   ·rw [List.mem_singleton] at h; subst h; simp
  ·rcases List.mem_or_eq_of_mem_set h with h | h
   ·have:=clsL_mem f S k l h; omega
   ·subst h
    rw [List.length_append,List.length_singleton]
    by_cases hc:cnt f (f k) < (clsL f S k).length
    ·have e:(clsL f S k).getD (cnt f (f k)) []=(clsL f S k)[cnt f (f k)]:=by simp [hc]
     rw [e]
     have:=clsL_mem f S k _ (List.getElem_mem hc)
     omega
    ·have e:(clsL f S k).getD (cnt f (f k)) []=[]:=by simp [hc]
     rw [e]; simp
theorem cnt_lt {f:Nat→Nat} {r:Nat} (h:f r=r):∀ {k:Nat},r < k→cnt f r < cnt f k
 | 0,hk=>by omega
 | k+1,hk=>by
  rw [cnt_succ]
  by_cases e:r=k
  ·subst e; rw [if_pos h]; omega
  ·have:=cnt_lt h (k:=k) (by omega)
   omega
section
variable {N:Nat} (hN:Big N)
include hN
theorem rootA {n:Nat} {f:Nat→Nat} (o:Unit × List P3 × List (P3 × Int) × List Int) (ho:o.2.2.2.length=n) (S:List P3) (m:List (P3 × Int)):∀ (fuel i:Nat) (u:Nat→Nat),i < fuel→i < n→UF f n u →
  ∃ u',loopR (R47x123x12 N o) fuel ((i:Int),S,m,uL n u)=some ((f i:Int),S,m,uL n u')∧UF f n u'
 | 0,i,u,h,_,_=>by omega
 | fuel+1,i,u,hf,hi,hu=>by
  rw [loopR_succ]
  obtain ⟨a1,a2⟩:=atU n u hi
  have hle:=hu.le i hi
  have hui:u i < n:=by omega
  obtain ⟨b1,b2⟩:=atU n u hui
  obtain ⟨c1,c2⟩:=atU n (upd u i (u (u i))) hi
  rw [upd_self] at c1
  have di:decide (i < n)=true:=decide_eq_true hi
  have du:decide (u i < n)=true:=decide_eq_true hui
  by_cases he:u i=i
  ·refine ⟨u,?_,hu⟩
   have hb:((u i:Int) != (i:Int))=false:=by simp [he]
   simp only [R47x123x12,List.length_map,ho,uL_len,Int.toNat_natCast,Nat.zero_add,in_range hi,decide_true,di,a1,a2,Bool.and_self,Bool.and_true,cond_true,hb,cond_false,fa3,md3,fa94,md94,mc191,ax191,faM191,mdM191,Option.bind_some,Sum.elim_inr]
   rw [hu.fix i hi he]
  ·have hb:((u i:Int) != (i:Int))=true:=by simp; omega
   have hlt:=hu.le (u i) hui
   have hstep:R47x123x12 N o ((i:Int),S,m,uL n u)=some (.inl ((u (u i):Int),S,m,uL n (upd u i (u (u i))))):=by
    simp only [R47x123x12,List.length_map,ho,uL_len,Int.toNat_natCast,Nat.zero_add,in_range hi,in_range hui,decide_true,di,du,a1,a2,b1,b2,Bool.and_self,Bool.and_true,cond_true,hb,setU,c1,c2,fa3,md3,fa94,md94,mc191,ax191,faM191,mdM191,Option.bind_some]
   rw [hstep]
   simp only [Option.bind_some,Sum.elim_inl]
   have hu2:=hu.half hi he
   obtain ⟨u',h1,h2⟩:=rootA o ho S m fuel (u (u i)) _ (by omega) (by omega) hu2
   refine ⟨u',?_,h2⟩
   rw [h1,(hu.lb (u i) hui).trans (hu.lb i hi)]
theorem rootB {n:Nat} {f:Nat→Nat} (o:Unit × List P3 × List (P3 × Int) × List Int) (ho:o.2.2.2.length=n) (S:List P3) (m:List (P3 × Int)) (E:List (Nat × List P3)) (L:List Nat) (M:List (Int × Int)):∀ (fuel i:Nat) (u:Nat→Nat),i < fuel→i < n→UF f n u →
  ∃ u',loopR (R47x123x12bb N o) fuel ((i:Int),S,m,uL n u,E,lenI L,M)=some ((f i:Int),S,m,uL n u',E,lenI L,M)∧UF f n u'
 | 0,i,u,h,_,_=>by omega
 | fuel+1,i,u,hf,hi,hu=>by
  rw [loopR_succ]
  obtain ⟨a1,a2⟩:=atU n u hi
  have hle:=hu.le i hi
  have hui:u i < n:=by omega
  obtain ⟨b1,b2⟩:=atU n u hui
  obtain ⟨c1,c2⟩:=atU n (upd u i (u (u i))) hi
  rw [upd_self] at c1
  have di:decide (i < n)=true:=decide_eq_true hi
  have du:decide (u i < n)=true:=decide_eq_true hui
  by_cases he:u i=i
  ·refine ⟨u,?_,hu⟩
   have hb:((u i:Int) != (i:Int))=false:=by simp [he]
   simp only [R47x123x12bb,List.length_map,ho,uL_len,Int.toNat_natCast,Nat.zero_add,in_range hi,decide_true,di,a1,a2,Bool.and_self,Bool.and_true,cond_true,hb,cond_false,fa3,md3,fa94,md94,mc191,ax191,faM191,mdM191,mc109,ax109,faM109,mdM109,faF74x4,mdF74x4,unf2,faL,mdL,Option.bind_some,Sum.elim_inr]
   rw [hu.fix i hi he]
  ·have hb:((u i:Int) != (i:Int))=true:=by simp; omega
   have hlt:=hu.le (u i) hui
   have hstep:R47x123x12bb N o ((i:Int),S,m,uL n u,E,lenI L,M)=some (.inl ((u (u i):Int),S,m,uL n (upd u i (u (u i))),E,lenI L,M)):=by
    simp only [R47x123x12bb,List.length_map,ho,uL_len,Int.toNat_natCast,Nat.zero_add,in_range hi,in_range hui,decide_true,di,du,a1,a2,b1,b2,Bool.and_self,Bool.and_true,cond_true,hb,setU,c1,c2,fa3,md3,fa94,md94,mc191,ax191,faM191,mdM191,mc109,ax109,faM109,mdM109,faF74x4,mdF74x4,unf2,faL,mdL,Option.bind_some]
   rw [hstep]
   simp only [Option.bind_some,Sum.elim_inl]
   have hu2:=hu.half hi he
   obtain ⟨u',h1,h2⟩:=rootB o ho S m E L M fuel (u (u i)) _ (by omega) (by omega) hu2
   refine ⟨u',?_,h2⟩
   rw [h1,(hu.lb (u i) hui).trans (hu.lb i hi)]
end
end Go.Proofs.YtfiopgedfcaodaaGreatDoor
namespace Go.Proofs.YtfiopgedfcaodaaGreatDoor
open Go Go.Am Go.Sort
set_option maxRecDepth 100000
theorem mt109 (k:Int) (m:List (Int × Int)):mgetT .int (AV.int .i64 k) (entriesL (List.map nM109 m))=(getM k m).map n3:=MR109.get k m
def edgJ (S:List P3) (J:List Six):List (Nat × Nat):=J.map fun j=>(ixN S (j.1,j.2.1,j.2.2.1),ixN S (j.2.2.2.1,j.2.2.2.2.1,j.2.2.2.2.2))
def inJ (S:List P3) (J:List Six):Prop:=∀ j∈J,(j.1,j.2.1,j.2.2.1)∈S∧(j.2.2.2.1,j.2.2.2.2.1,j.2.2.2.2.2)∈S
def isIx (S:List P3) (m:List (P3 × Int)):Prop:=∀ p,p∈S→getM p m=some (ixN S p:Int)
section
variable {N:Nat} (hN:Big N)
include hN
theorem R47_places (C:List (List P3)) (hC:∀ l∈C,chkN l=0) (hl:C.length≤16):loopR (R47x109x58 N C) N ((),0,[])=some ((),plcs C):=R36_places hN C hC hl
theorem R47_index (S:List P3) (hS:S.length≤1000000) (hd:S.Nodup):∃ m,loopR (R47x118x58 N ((),S)) N (0,S,[])=some (S,m)∧isIx S m:=by
 have key:∃ x,loopR (R47x118x58 N ((),S)) N (0,S,[])=some x∧∃ m:List (P3 × Int),x=(S,m)∧isIx S m:=by
  refine loopR_cnt (rd:=R47x118x58 N ((),S)) (S:=List (P3 × Int)) S.length (fun m k=>((k:Int),S,m)) (fun m k=>∀ p,p∈S.take k→getM p m=some (ixN S p:Int)) _ ?_ ?_ N [] 0 (Nat.zero_le _) (by unfold Big at hN; omega) (fun p h=>by simp at h)
  ·intro m k hk hP
   obtain ⟨a1,a2⟩:=at94 S hk
   have hdk:decide (k < S.length)=true:=decide_eq_true hk
   refine ⟨putM S[k] (k:Int) m,?_,fun p=>?_⟩
   ·simp only [R47x118x58,List.length_map,Int.toNat_natCast,Nat.zero_add,a1,a2,lt_range hk,in_range hk,hdk,decide_true,Bool.and_self,Bool.and_true,cond_true,mk191,mp191,mc191,ax191,faM191,mdM191,fa94,md94,Option.bind_some,w_succ (show k < 9223372036854775807 by omega)]
   ·have et:S.take (k+1)=S.take k++[S[k]]:=by rw [List.take_succ,List.getElem?_eq_getElem hk]; rfl
    intro hp
    rw [getM_put]
    by_cases h:p=S[k]
    ·rw [if_pos h,h,ixN_at hd]
    ·rw [if_neg h]
     rw [et,List.mem_append,List.mem_singleton] at hp
     exact hP p (hp.resolve_right h)
  ·intro m hP
   refine ⟨(S,m),?_,m,rfl,fun p hp=>hP p (by rwa [List.take_length])⟩
   simp only [R47x118x58,List.length_map,ge_range,cond_false,mc191,ax191,faM191,mdM191,fa94,md94,Bool.and_self,Bool.and_true,cond_true,Option.bind_some]
 obtain ⟨x,r,m,rfl,h⟩:=key
 exact ⟨m,r,h⟩
theorem R47_apart (S:List P3) (hS:S.length≤1000000) (m:List (P3 × Int)):loopR (R47x122x58 N ((),S)) N ((),0,S,m,[])=some ((),S,m,uL S.length id):=by
 have hs:∀ k,uL k id++[(k:Int)]=uL (k+1) id:=fun k=>by unfold uL; rw [List.range_succ,List.map_append]; rfl
 have key:=loopR_count (rd:=R47x122x58 N ((),S)) S.length (fun k=>((),(k:Int),S,m,uL k id)) ((),S,m,uL S.length id) (fun k hk=>by
  have hb:decide ((k+1) * 8≤140737488355328)=true:=decide_eq_true (by omega)
  simp only [R47x122x58,List.length_map,lt_range hk,cond_true,uL_len,decide_true,Bool.and_self,Bool.and_true,hb,snoc3,hs,List.length_append,List.length_singleton,Nat.beq_refl,fa3,md3,fa94,md94,mc191,ax191,faM191,mdM191,Option.bind_some,w_succ (show k < 9223372036854775807 by omega)]) (by
  simp only [R47x122x58,List.length_map,ge_range,cond_false,uL_len,Nat.beq_refl,fa3,md3,fa94,md94,mc191,ax191,faM191,mdM191,Bool.and_self,Bool.and_true,cond_true,Option.bind_some]) N 0 (Nat.zero_le _) (by unfold Big at hN; omega)
 exact key
theorem R47_join (S:List P3) (hS:S.length≤1000000) (J:List Six) (hJ:J.length≤1024) (hin:inJ S J) (m:List (P3 × Int)) (hm:isIx S m):∃ u,loopR (R47x1018 N J ((),S,m,uL S.length id)) N (0,S,m,uL S.length id)=some (S,m,uL S.length u)∧UF (lab (edgJ S J)) S.length u:=by
 have key:∃ x,loopR (R47x1018 N J ((),S,m,uL S.length id)) N (0,S,m,uL S.length id)=some x∧∃ u:Nat→Nat,x=(S,m,uL S.length u)∧UF (lab (edgJ S J)) S.length u:=by
  refine loopR_cnt (rd:=R47x1018 N J ((),S,m,uL S.length id)) (S:=Nat→Nat) J.length (fun u k=>((k:Int),S,m,uL S.length u)) (fun u k=>UF (lab ((edgJ S J).take k)) S.length u) _ ?_ ?_ N id 0 (Nat.zero_le _) (by unfold Big at hN; omega) (UF.id _)
  ·intro u k hk hu
   have hd:=nthD_map n127 J k hk
   have a1:d127 (nthD (List.map n127 J) k)=J[k]:=by rw [hd,dn127]
   have a2:Pat.fits p127 (nthD (List.map n127 J) k)=true:=by rw [hd,fn127]
   obtain ⟨i1,i2⟩:=hin _ (List.getElem_mem hk)
   have q1:=hm _ i1
   have q2:=hm _ i2
   have l1:=ixN_lt i1
   have l2:=ixN_lt i2
   have hke:k < (edgJ S J).length:=by simp [edgJ]; exact hk
   have he:(edgJ S J)[k]=(ixN S (J[k].1,J[k].2.1,J[k].2.2.1),ixN S (J[k].2.2.2.1,J[k].2.2.2.2.1,J[k].2.2.2.2.2)):=by simp [edgJ]
   have hl:=lab_take (edgJ S J) hke
   rw [he] at hl
   have hok:=lab_ok ((edgJ S J).take k)
   have k1:=mk191 (J[k].1,J[k].2.1,J[k].2.2.1) m
   have k2:=mk191 (J[k].2.2.2.1,J[k].2.2.2.2.1,J[k].2.2.2.2.2) m
   have g1:=mg191 (J[k].1,J[k].2.1,J[k].2.2.1) m
   have g2:=mg191 (J[k].2.2.2.1,J[k].2.2.2.2.1,J[k].2.2.2.2.2) m
   rw [q1,Option.getD_some] at g1
   rw [q2,Option.getD_some] at g2
   simp only at k1 k2 g1 g2
   generalize ixN S (J[k].1,J[k].2.1,J[k].2.2.1)=i at *
   generalize ixN S (J[k].2.2.2.1,J[k].2.2.2.2.1,J[k].2.2.2.2.2)=j at *
   obtain ⟨u1,r1,hu1⟩:=rootA hN ((),S,m,uL S.length id) (uL_len _ _) S m N i u (by unfold Big at hN; omega) l1 hu
   obtain ⟨u2,r2,hu2⟩:=rootA hN ((),S,m,uL S.length id) (uL_len _ _) S m N j u1 (by unfold Big at hN; omega) l2 hu1
   have r2':loopR (R47x123x12b N ((),S,m,uL S.length id)) N ((j:Int),S,m,uL S.length u1)=some ((lab ((edgJ S J).take k) j:Int),S,m,uL S.length u2):=r2
   obtain ⟨m1,m2⟩:=mm_if (lab ((edgJ S J).take k) i) (lab ((edgJ S J).take k) j)
   obtain ⟨m1',m2'⟩:=mm_if (lab ((edgJ S J).take k) j) (lab ((edgJ S J).take k) i)
   have hmax:max (lab ((edgJ S J).take k) i) (lab ((edgJ S J).take k) j) < S.length:=by
    have x1:=hok.le i
    have x2:=hok.le j
    omega
   have dm:decide (max (lab ((edgJ S J).take k) i) (lab ((edgJ S J).take k) j) < S.length)=true:=decide_eq_true hmax
   have hu3:=hu2.join hok (i,j) l1 l2
   rw [← hl] at hu3
   refine ⟨_,?_,hu3⟩
   simp only [R47x1018,List.length_map,Int.toNat_natCast,a1,a2,k1,k2,g1,g2,fn3,dn3,lt_range hk,in_range hk,Bool.and_self,Bool.and_true,cond_true,fa3,md3,fa94,md94,mc191,ax191,faM191,mdM191,Option.bind_some,r1,r2',m1,m2,uL_len,in_range hmax,Nat.zero_add,decide_true,dm,setU,w_succ (show k < 9223372036854775807 by omega)]
  ·intro u hu
   refine ⟨(S,m,uL S.length u),?_,u,rfl,?_⟩
   ·simp only [R47x1018,List.length_map,ge_range,cond_false,mc191,ax191,faM191,mdM191,fa94,md94,fa3,md3,Bool.and_self,Bool.and_true,cond_true,Option.bind_some]
   ·have e:(edgJ S J).take J.length=edgJ S J:=List.take_of_length_le (by simp [edgJ])
    rwa [e] at hu
 obtain ⟨x,r,u,rfl,h⟩:=key
 exact ⟨u,r,h⟩
def isCl (f:Nat→Nat) (k:Nat) (M:List (Int × Int)):Prop:=∀ r:Nat,getM (r:Int) M=if r < k∧f r=r then some (cnt f r:Int) else none
theorem R47_cls (S:List P3) (hS:S.length≤1000000) (m:List (P3 × Int)) {f:Nat→Nat} (hf:LabOk f) (o33:Unit × List P3 × List (P3 × Int) × List Int) (ho:o33.2.2.2.length=S.length) (u:Nat→Nat) (hu:UF f S.length u) :
  ∃ u' M,loopR (R47x8186 N ((),S) o33) N (0,(),(),S,m,uL S.length u,[],[],[])=some ((),(),S,m,uL S.length u',famE (clsL f S S.length),lenI (lenC (clsL f S S.length)),M)∧UF f S.length u'∧isCl f S.length M:=by
 have key:∃ x,loopR (R47x8186 N ((),S) o33) N (0,(),(),S,m,uL S.length u,[],[],[])=some x∧∃ s:(Nat→Nat) × List (Int × Int),x=((),(),S,m,uL S.length s.1,famE (clsL f S S.length),lenI (lenC (clsL f S S.length)),s.2)∧UF f S.length s.1∧isCl f S.length s.2:=by
  refine loopR_cnt (rd:=R47x8186 N ((),S) o33) (S:=(Nat→Nat) × List (Int × Int)) S.length (fun s k=>((k:Int),(),(),S,m,uL S.length s.1,famE (clsL f S k),lenI (lenC (clsL f S k)),s.2)) (fun s k=>UF f S.length s.1∧isCl f k s.2) _ ?_ ?_ N (u,[]) 0 (Nat.zero_le _) (by unfold Big at hN; omega) ⟨hu,fun r=>by simp [getM]⟩
  ·rintro ⟨u,M⟩ k hk ⟨hu,hM⟩
   obtain ⟨a1,a2⟩:=at94 S hk
   have hdk:decide (k < S.length)=true:=decide_eq_true hk
   obtain ⟨u1,r1,hu1⟩:=rootB hN o33 ho S m (famE (clsL f S k)) (lenC (clsL f S k)) M N k u (by unfold Big at hN; omega) hk hu
   obtain ⟨u2,r2,hu2⟩:=rootB hN o33 ho S m (famE (clsL f S k)) (lenC (clsL f S k)) M N k u1 (by unfold Big at hN; omega) hk hu1
   have r2':loopR (R47x123x12bbb N o33) N ((k:Int),S,m,uL S.length u1,famE (clsL f S k),lenI (lenC (clsL f S k)),M)=some ((f k:Int),S,m,uL S.length u2,famE (clsL f S k),lenI (lenC (clsL f S k)),M):=r2
   have hle:=hf.le k
   have hg:=hM (f k)
   have hcl:=clsL_len f S k
   have hck:=cnt_le f k
   have hmem:=clsL_mem f S k
   have hb24:decide (((clsL f S k).length+1) * 24≤140737488355328)=true:=decide_eq_true (by omega)
   have eS:S.getD k (0,0,0)=S[k]:=by simp [hk]
   have hsucc:=clsL_succ f S k
   unfold clsS at hsucc
   rw [eS] at hsucc
   by_cases h:f k=k
   ·rw [if_neg (by omega)] at hg
    rw [if_pos h] at hsucc
    generalize clsL f S k=CL at *
    have hlt:CL.length < (CL++[[]]).length:=by simp
    obtain ⟨f1,f2⟩:=atF hlt
    have hgl:(CL++[[]])[CL.length]'hlt=[]:=by simp
    rw [hgl] at f1
    have hnt:=lenC_nth hlt
    rw [hgl] at hnt
    have hst:(CL++[[]]).set CL.length ([]++[(S[k].1,S[k].2.1,S[k].2.2)])=CL++[[S[k]]]:=by simp
    have hsf:=setF (CL++[[]]) CL.length [] S[k].1 S[k].2.1 S[k].2.2
    rw [hst,List.map_nil,List.nil_append] at hsf
    have hsl:=lenC_set (CL++[[]]) CL.length [(S[k].1,S[k].2.1,S[k].2.2)]
    have hst':(CL++[[]]).set CL.length [(S[k].1,S[k].2.1,S[k].2.2)]=CL++[[S[k]]]:=by simp
    rw [hst',List.length_singleton] at hsl
    have hla:decide (CL.length < CL.length+1)=true:=decide_eq_true (by omega)
    have hl1:(CL++[[]]).length=CL.length+1:=by simp
    have hl2:(CL++[[S[k]]]).length=CL.length+1:=by simp
    have h24:decide (1 * 24≤140737488355328)=true:=rfl
    refine ⟨(u2,putM (f k:Int) (CL.length:Int) M),?_,hu2,fun r=>?_⟩
    ·simp only [R47x8186,List.length_map,Int.toNat_natCast,Nat.zero_add,a1,a2,lt_range hk,in_range hk,hdk,decide_true,Bool.and_self,Bool.and_true,cond_true,fa94,md94,mc191,ax191,faM191,mdM191,fa3,md3,faF74x4,mdF74x4,unf2,faL,mdL,mc109,ax109,faM109,mdM109,Option.bind_some,r1,mk109,mg109,mt109,fn3,hg,Option.map_none,Option.isSome_none,Bool.not_false,r2',famE_len,hb24,lenC_len,snocF,lenC_snoc,List.length_append,List.length_singleton,Nat.beq_refl,mp109,hl1,in_range (show CL.length < CL.length+1 by omega),hla,f1,f2,hnt,List.map_nil,List.length_nil,List.nil_append,hsf,hsl,hl2,h24,w_succ (show k < 9223372036854775807 by omega)]
     rw [hsucc]
    ·rw [getM_put,hM r,h]
     by_cases e:r=k
     ·subst e
      rw [if_pos rfl,if_pos ⟨by omega,h⟩,hcl]
     ·have e':¬ (r:Int)=(k:Int):=by omega
      rw [if_neg e']
      by_cases c:r < k∧f r=r
      ·rw [if_pos c,if_pos ⟨by omega,c.2⟩]
      ·rw [if_neg c,if_neg fun d=>c ⟨by omega,d.2⟩]
   ·have hlt:f k < k:=by omega
    rw [if_pos ⟨hlt,hf.idem k⟩] at hg
    rw [if_neg h] at hsucc
    have hc:cnt f (f k) < (clsL f S k).length:=by rw [hcl]; exact cnt_lt (hf.idem k) hlt
    have hmc:=hmem _ (List.getElem_mem hc)
    have eC:(clsL f S k).getD (cnt f (f k)) []=(clsL f S k)[cnt f (f k)]:=by simp [hc]
    rw [eC] at hsucc
    generalize clsL f S k=CL at *
    obtain ⟨f1,f2⟩:=atF hc
    have hnt:=lenC_nth hc
    have hsf:=setF CL (cnt f (f k)) CL[cnt f (f k)] S[k].1 S[k].2.1 S[k].2.2
    have hsl:=lenC_set CL (cnt f (f k)) (CL[cnt f (f k)]++[S[k]])
    rw [List.length_append,List.length_singleton] at hsl
    have hdc:decide (cnt f (f k) < CL.length)=true:=decide_eq_true hc
    have h24:decide ((CL[cnt f (f k)].length+1) * 24≤140737488355328)=true:=decide_eq_true (by omega)
    refine ⟨(u1,M),?_,hu1,fun r=>?_⟩
    ·simp only [R47x8186,List.length_map,Int.toNat_natCast,Nat.zero_add,a1,a2,lt_range hk,in_range hk,hdk,decide_true,Bool.and_self,Bool.and_true,cond_true,cond_false,fa94,md94,mc191,ax191,faM191,mdM191,fa3,md3,faF74x4,mdF74x4,unf2,faL,mdL,mc109,ax109,faM109,mdM109,Option.bind_some,r1,mk109,mg109,mt109,fn3,dn3,hg,Option.map_some,Option.isSome_some,Option.getD_some,Bool.not_true,famE_len,lenC_len,Nat.beq_refl,in_range hc,hdc,f1,f2,hnt,h24,hsf,hsl,List.length_set,w_succ (show k < 9223372036854775807 by omega)]
     rw [hsucc]
    ·rw [hM r]
     by_cases e:r=k
     ·subst e
      rw [if_neg (fun d=>absurd d.1 (Nat.lt_irrefl _)),if_neg fun d=>h d.2]
     ·by_cases c:r < k∧f r=r
      ·rw [if_pos c,if_pos ⟨by omega,c.2⟩]
      ·rw [if_neg c,if_neg fun d=>c ⟨by omega,d.2⟩]
  ·rintro ⟨u,M⟩ ⟨hu,hM⟩
   refine ⟨((),(),S,m,uL S.length u,famE (clsL f S S.length),lenI (lenC (clsL f S S.length)),M),?_,(u,M),rfl,hu,hM⟩
   simp only [R47x8186,List.length_map,ge_range,cond_false,mc191,ax191,faM191,mdM191,fa94,md94,fa3,md3,mc109,ax109,faM109,mdM109,faF74x4,mdF74x4,unf2,faL,mdL,Nat.beq_refl,Bool.and_self,Bool.and_true,cond_true,Option.bind_some]
 obtain ⟨x,r,s,rfl,h1,h2⟩:=key
 exact ⟨s.1,s.2,r,h1,h2⟩
end
end Go.Proofs.YtfiopgedfcaodaaGreatDoor
namespace Go.Proofs.YtfiopgedfcaodaaGreatDoor
open Go Go.Am Go.Sort
set_option maxRecDepth 100000
theorem mem_knots (l:List P3) (p:Int × Int):p∈knotsL l↔p∈flatK2 l:=(insL_spec swoK totK (0,0) (flatK2 l)).2 p
theorem mem_flat {l:List P3} {b:P3} (h:b∈l):loK b∈flatK2 l∧upK b∈flatK2 l:=by
 induction l with
 | nil=>cases h
 | cons a l ih=>
  rw [flatK2]
  rcases List.mem_cons.1 h with rfl | h
  ·simp
  ·have:=ih h
   simp [this.1,this.2]
theorem mem_ends {C:List (List P3)} {i:Nat} (hi:i < C.length) {b:P3} (hb:b∈C[i]):((i:Int),b.1,b.2.1)∈plcs C∧((i:Int),(upK b).1,(upK b).2)∈plcs C:=by
 have e:C.getD i []=C[i]:=by simp [hi]
 have h:=mem_flat hb
 refine ⟨(mem_plcs _).2 ⟨i,hi,rfl,?_⟩,(mem_plcs _).2 ⟨i,hi,rfl,?_⟩⟩
 ·rw [e,mem_knots]; exact h.1
 ·rw [e,mem_knots]; exact h.2
def barN (f:Nat→Nat) (S:List P3) (i:Nat) (b:P3):Int × Int:=
 (((min (cnt f (f (ixN S ((i:Int),b.1,b.2.1)))) (cnt f (f (ixN S ((i:Int),(upK b).1,(upK b).2)))):Nat):Int),((max (cnt f (f (ixN S ((i:Int),b.1,b.2.1)))) (cnt f (f (ixN S ((i:Int),(upK b).1,(upK b).2)))):Nat):Int))
def barsK (f:Nat→Nat) (S:List P3) (C:List (List P3)) (k:Nat):List (Int × Int):=(List.range k).flatMap fun i=>(C.getD i []).map (barN f S i)
theorem barsK_succ (f:Nat→Nat) (S:List P3) (C:List (List P3)) (k:Nat):barsK f S C (k+1)=barsK f S C k++(C.getD k []).map (barN f S k):=by
 unfold barsK
 rw [List.range_succ,List.flatMap_append]
 simp only [List.flatMap_cons,List.flatMap_nil,List.append_nil]
theorem barsK_len (f:Nat→Nat) (S:List P3) (C:List (List P3)) (hC:∀ l∈C,l.length≤4096):∀ k,(barsK f S C k).length≤4096 * k
 | 0=>by simp [barsK]
 | k+1=>by
  rw [barsK_succ,List.length_append,List.length_map]
  have:=barsK_len f S C hC k
  have h2:(C.getD k []).length≤4096:=by
   by_cases h:k < C.length
   ·have e:C.getD k []=C[k]:=by simp [h]
    rw [e]; exact hC _ (List.getElem_mem h)
   ·have e:C.getD k []=[]:=by simp [h]
    rw [e]; simp
  omega
theorem mn_if (a b:Nat):((if (a:Int) < (b:Int) then (a:Int) else (b:Int))=((min a b:Nat):Int))∧((if (a:Int) > (b:Int) then (a:Int) else (b:Int))=((max a b:Nat):Int)):=by
 constructor <;> split <;> omega
section
variable {N:Nat} (hN:Big N)
theorem rootC {n:Nat} {f:Nat→Nat} (o:Unit × List P3 × List (P3 × Int) × List Int) (ho:o.2.2.2.length=n) (S:List P3) (m:List (P3 × Int)) (E:List (Nat × List P3)) (L:List Nat) (M:List (Int × Int)) (v:Int × Unit × List (Int × Int) × List P3 × List (P3 × Int) × List Int × List (Nat × List P3) × List Int × List (Int × Int)):∀ (fuel i:Nat) (u:Nat→Nat),i < fuel→i < n→UF f n u →
  ∃ u',loopR (R47x123x12bbbb N o v) fuel ((i:Int),S,m,uL n u,E,lenI L,M)=some ((f i:Int),S,m,uL n u',E,lenI L,M)∧UF f n u'
 | 0,i,u,h,_,_=>by omega
 | fuel+1,i,u,hf,hi,hu=>by
  rw [loopR_succ]
  obtain ⟨a1,a2⟩:=atU n u hi
  have hle:=hu.le i hi
  have hui:u i < n:=by omega
  obtain ⟨b1,b2⟩:=atU n u hui
  obtain ⟨c1,c2⟩:=atU n (upd u i (u (u i))) hi
  rw [upd_self] at c1
  have di:decide (i < n)=true:=decide_eq_true hi
  have du:decide (u i < n)=true:=decide_eq_true hui
  by_cases he:u i=i
  ·refine ⟨u,?_,hu⟩
   have hb:((u i:Int) != (i:Int))=false:=by simp [he]
   simp only [R47x123x12bbbb,List.length_map,ho,uL_len,Int.toNat_natCast,Nat.zero_add,in_range hi,decide_true,di,a1,a2,Bool.and_self,Bool.and_true,cond_true,hb,cond_false,fa3,md3,fa94,md94,mc191,ax191,faM191,mdM191,mc109,ax109,faM109,mdM109,faF74x4,mdF74x4,unf2,faL,mdL,Option.bind_some,Sum.elim_inr]
   rw [hu.fix i hi he]
  ·have hb:((u i:Int) != (i:Int))=true:=by simp; omega
   have hlt:=hu.le (u i) hui
   have hstep:R47x123x12bbbb N o v ((i:Int),S,m,uL n u,E,lenI L,M)=some (.inl ((u (u i):Int),S,m,uL n (upd u i (u (u i))),E,lenI L,M)):=by
    simp only [R47x123x12bbbb,List.length_map,ho,uL_len,Int.toNat_natCast,Nat.zero_add,in_range hi,in_range hui,decide_true,di,du,a1,a2,b1,b2,Bool.and_self,Bool.and_true,cond_true,hb,setU,c1,c2,fa3,md3,fa94,md94,mc191,ax191,faM191,mdM191,mc109,ax109,faM109,mdM109,faF74x4,mdF74x4,unf2,faL,mdL,Option.bind_some]
   rw [hstep]
   simp only [Option.bind_some,Sum.elim_inl]
   have hu2:=hu.half hi he
   obtain ⟨u',h1,h2⟩:=rootC o ho S m E L M v fuel (u (u i)) _ (by omega) (by omega) hu2
   refine ⟨u',?_,h2⟩
   rw [h1,(hu.lb (u i) hui).trans (hu.lb i hi)]
include hN
theorem R47_in (C:List (List P3)) (i:Nat) (hi:i < C.length) (hl:C[i].length≤4096) (S:List P3) (hS:S.length≤1000000) (hin:∀ b∈C[i],((i:Int),b.1,b.2.1)∈S∧((i:Int),(upK b).1,(upK b).2)∈S) (m:List (P3 × Int)) (hm:isIx S m) {f:Nat→Nat} (hf:LabOk f) (o33:Unit × List P3 × List (P3 × Int) × List Int) (ho:o33.2.2.2.length=S.length) (E:List (Nat × List P3)) (L:List Nat) (M:List (Int × Int)) (hM:isCl f S.length M) (B:List (Int × Int)) (hB:B.length≤1000000) (v:Int × Unit × List (Int × Int) × List P3 × List (P3 × Int) × List Int × List (Nat × List P3) × List Int × List (Int × Int)) (hv:v.1=(i:Int)) (u:Nat→Nat) (hu:UF f S.length u) :
  ∃ u',loopR (R47x4192870 N C o33 v) N (0,(),B,S,m,uL S.length u,E,lenI L,M)=some ((),B++C[i].map (barN f S i),S,m,uL S.length u',E,lenI L,M)∧UF f S.length u':=by
 have key:∃ x,loopR (R47x4192870 N C o33 v) N (0,(),B,S,m,uL S.length u,E,lenI L,M)=some x∧∃ u':Nat→Nat,x=((),B++C[i].map (barN f S i),S,m,uL S.length u',E,lenI L,M)∧UF f S.length u':=by
  obtain ⟨e1,e2⟩:=at115 C hi
  have hz:(B++(C[i].take 0).map (barN f S i))=B:=by simp
  have go:=loopR_cnt (rd:=R47x4192870 N C o33 v) (S:=Nat→Nat) C[i].length (fun u k=>((k:Int),(),B++(C[i].take k).map (barN f S i),S,m,uL S.length u,E,lenI L,M)) (fun u k=>UF f S.length u) (fun x=>∃ u':Nat→Nat,x=((),B++C[i].map (barN f S i),S,m,uL S.length u',E,lenI L,M)∧UF f S.length u') ?_ ?_ N u 0 (Nat.zero_le _) (by unfold Big at hN; omega) hu
  ·have go':∃ x,loopR (R47x4192870 N C o33 v) N (0,(),(B++(C[i].take 0).map (barN f S i)),S,m,uL S.length u,E,lenI L,M)=some x∧_:=go
   rwa [hz] at go'
  ·intro u k hk hu
   obtain ⟨a1,a2⟩:=at120 C[i] hk
   obtain ⟨n1,n2⟩:=hin _ (List.getElem_mem hk)
   have q1:=hm _ n1
   have q2:=hm _ n2
   have l1:=ixN_lt n1
   have l2:=ixN_lt n2
   have et:(C[i].take (k+1)).map (barN f S i)=(C[i].take k).map (barN f S i)++[barN f S i C[i][k]]:=by rw [List.take_add_one,List.getElem?_eq_getElem hk,List.map_append]; rfl
   have hbl:(B++(C[i].take k).map (barN f S i)).length≤2000000:=by
    rw [List.length_append,List.length_map,List.length_take]
    omega
   rw [et,← List.append_assoc]
   generalize B++(C[i].take k).map (barN f S i)=D at *
   have k1:=mk191 ((i:Int),C[i][k].1,C[i][k].2.1) m
   have k2:=mk191 ((i:Int),(upK C[i][k]).1,(upK C[i][k]).2) m
   have g1:=mg191 ((i:Int),C[i][k].1,C[i][k].2.1) m
   have g2:=mg191 ((i:Int),(upK C[i][k]).1,(upK C[i][k]).2) m
   have qT:T125 N (C[i][k].1,C[i][k].2.1,C[i][k].2.2)=some (C[i][k].1,C[i][k].2.1,(upK C[i][k]).1,(upK C[i][k]).2):=T125_eq N _
   have eb:barN f S i C[i][k]=(((min (cnt f (f (ixN S ((i:Int),C[i][k].1,C[i][k].2.1)))) (cnt f (f (ixN S ((i:Int),(upK C[i][k]).1,(upK C[i][k]).2)))):Nat):Int),((max (cnt f (f (ixN S ((i:Int),C[i][k].1,C[i][k].2.1)))) (cnt f (f (ixN S ((i:Int),(upK C[i][k]).1,(upK C[i][k]).2)))):Nat):Int)):=rfl
   rw [q1,Option.getD_some] at g1
   rw [q2,Option.getD_some] at g2
   simp only at k1 k2 g1 g2
   rw [eb]
   generalize ixN S ((i:Int),C[i][k].1,C[i][k].2.1)=x at *
   generalize ixN S ((i:Int),(upK C[i][k]).1,(upK C[i][k]).2)=y at *
   obtain ⟨u1,r1,hu1⟩:=rootC (N:=N) o33 ho S m E L M ((k:Int),(),D,S,m,uL S.length u,E,lenI L,M) N x u (by unfold Big at hN; omega) l1 hu
   obtain ⟨u2,r2,hu2⟩:=rootC (N:=N) o33 ho S m E L M ((k:Int),(),D,S,m,uL S.length u,E,lenI L,M) N y u1 (by unfold Big at hN; omega) l2 hu1
   have r2':loopR (R47x123x12bbbbb N o33 ((k:Int),(),D,S,m,uL S.length u,E,lenI L,M)) N ((y:Int),S,m,uL S.length u1,E,lenI L,M)=some ((f y:Int),S,m,uL S.length u2,E,lenI L,M):=r2
   have c1:=hM (f x)
   have c2:=hM (f y)
   have lx:=hf.le x
   have ly:=hf.le y
   rw [if_pos ⟨by omega,hf.idem x⟩] at c1
   rw [if_pos ⟨by omega,hf.idem y⟩] at c2
   obtain ⟨m1,m2⟩:=mn_if (cnt f (f x)) (cnt f (f y))
   obtain ⟨m1',m2'⟩:=mm_if (cnt f (f x)) (cnt f (f y))
   have hb16:decide ((D.length+1) * 16≤140737488355328)=true:=decide_eq_true (by omega)
   refine ⟨u2,?_,hu2⟩
   simp only [R47x4192870,hv,List.length_map,Int.toNat_natCast,e1,a1,a2,qT,k1,k2,g1,g2,fn3,dn3,lt_range hk,in_range hk,Bool.and_self,Bool.and_true,cond_true,fa3,md3,fa94,md94,fa46,md46,mc191,ax191,faM191,mdM191,mc109,ax109,faM109,mdM109,faF74x4,mdF74x4,unf2,faL,mdL,Option.bind_some,r1,r2',mk109,mg109,c1,c2,Option.getD_some,m1,m2,m1',m2',snoc46,uL_len,beq_self_eq_true,Nat.zero_add,decide_true,hb16,Nat.beq_refl,List.length_append,List.length_singleton,w_succ (show k < 9223372036854775807 by omega)]
  ·intro u hu
   refine ⟨((),B++(C[i].take C[i].length).map (barN f S i),S,m,uL S.length u,E,lenI L,M),?_,u,by rw [List.take_length],hu⟩
   simp only [R47x4192870,hv,Int.toNat_natCast,e1,List.length_map,ge_range,cond_false,mc191,ax191,faM191,mdM191,fa94,md94,fa3,md3,fa46,md46,mc109,ax109,faM109,mdM109,faF74x4,mdF74x4,unf2,faL,mdL,Nat.beq_refl,Bool.and_self,Bool.and_true,cond_true,decide_true,Option.bind_some]
 obtain ⟨x,r,u,rfl,h⟩:=key
 exact ⟨u,r,h⟩
theorem R47_bars (C:List (List P3)) (hl:∀ l∈C,l.length≤4096) (hC:C.length≤16) (hS:(plcs C).length≤1000000) (m:List (P3 × Int)) (hm:isIx (plcs C) m) {f:Nat→Nat} (hf:LabOk f) (o33:Unit × List P3 × List (P3 × Int) × List Int) (ho:o33.2.2.2.length=(plcs C).length) (E:List (Nat × List P3)) (L:List Nat) (M:List (Int × Int)) (hM:isCl f (plcs C).length M) (u:Nat→Nat) (hu:UF f (plcs C).length u) :
  ∃ u',loopR (R47x16378 N C o33) N (0,(),[],plcs C,m,uL (plcs C).length u,E,lenI L,M)=some ((),barsK f (plcs C) C C.length,plcs C,m,uL (plcs C).length u',E,lenI L,M)∧UF f (plcs C).length u':=by
 have key:∃ x,loopR (R47x16378 N C o33) N (0,(),[],plcs C,m,uL (plcs C).length u,E,lenI L,M)=some x∧∃ u':Nat→Nat,x=((),barsK f (plcs C) C C.length,plcs C,m,uL (plcs C).length u',E,lenI L,M)∧UF f (plcs C).length u':=by
  refine loopR_cnt (rd:=R47x16378 N C o33) (S:=Nat→Nat) C.length (fun u k=>((k:Int),(),barsK f (plcs C) C k,plcs C,m,uL (plcs C).length u,E,lenI L,M)) (fun u k=>UF f (plcs C).length u) _ ?_ ?_ N u 0 (Nat.zero_le _) (by unfold Big at hN; omega) hu
  ·intro u k hk hu
   obtain ⟨e1,e2⟩:=at115 C hk
   have hbl:=barsK_len f (plcs C) C hl k
   obtain ⟨u1,r1,hu1⟩:=R47_in hN C k hk (hl _ (List.getElem_mem hk)) (plcs C) hS (fun b hb=>mem_ends hk hb) m hm hf o33 ho E L M hM (barsK f (plcs C) C k) (by omega) ((k:Int),(),barsK f (plcs C) C k,plcs C,m,uL (plcs C).length u,E,lenI L,M) rfl u hu
   have e:C.getD k []=C[k]:=by simp [hk]
   refine ⟨u1,?_,hu1⟩
   rw [barsK_succ,e]
   simp only [R47x16378,Int.toNat_natCast,e1,e2,List.length_map,lt_range hk,in_range hk,mc191,ax191,faM191,mdM191,fa94,md94,fa3,md3,fa46,md46,mc109,ax109,faM109,mdM109,faF74x4,mdF74x4,unf2,faL,mdL,Nat.beq_refl,Bool.and_self,Bool.and_true,cond_true,decide_true,Option.bind_some,r1,w_succ (show k < 9223372036854775807 by omega)]
  ·intro u hu
   refine ⟨((),barsK f (plcs C) C C.length,plcs C,m,uL (plcs C).length u,E,lenI L,M),?_,u,rfl,hu⟩
   simp only [R47x16378,List.length_map,ge_range,cond_false,mc191,ax191,faM191,mdM191,fa94,md94,fa3,md3,fa46,md46,mc109,ax109,faM109,mdM109,faF74x4,mdF74x4,unf2,faL,mdL,Nat.beq_refl,Bool.and_self,Bool.and_true,cond_true,decide_true,Option.bind_some]
 obtain ⟨x,r,u,rfl,h⟩:=key
 exact ⟨u,r,h⟩
end
end Go.Proofs.YtfiopgedfcaodaaGreatDoor
namespace Go.Proofs.YtfiopgedfcaodaaGreatDoor
open Go Go.Am Go.Sort
set_option maxRecDepth 100000
theorem wk74 (E:List (Nat × List P3)):List.map AV.weak (List.map nF74x4 E)=List.map n53 (E.map Prod.snd):=by
 rw [List.map_map,List.map_map]; rfl
theorem cl53 (l:List (List P3)):closedL (List.map n53 l)=true:=closedL_map (fun _=>rfl) l
theorem famE_snd (CL:List (List P3)):(famE CL).map Prod.snd=CL:=by
 apply List.ext_getElem
 ·simp
 ·intro j h1 h2
  rw [List.getElem_map,famE_get]
theorem errQ_in {C:List (List P3)} {p:P3} (h:errQ C p=0):p∈plcs C:=by
 unfold errQ at h
 split at h
 ·cases h
 ·rename_i h1
  split at h
  ·rename_i h2
   exact (mem_plcs p).2 ⟨p.1.toNat,by omega,by omega,h2⟩
  ·cases h
theorem chkQ_in {C:List (List P3)} {J:List Six} (h:chkQ C J=0):inJ (plcs C) J:=by
 obtain ⟨h1,h2⟩:=chkQ_ok h
 unfold chkQ at h
 rw [if_neg (fun c=>c h1),if_neg (by omega)] at h
 intro j hj
 have:=firstNZ_zero.1 h (errS C j) (List.mem_map.2 ⟨j,hj,rfl⟩)
 unfold errS at this
 have:=firstNZ_zero.1 this
 exact ⟨errQ_in (this _ (by simp)),errQ_in (this _ (by simp))⟩
def labS (C:List (List P3)) (J:List Six):Nat→Nat:=lab (edgJ (plcs C) J)
def sewC (C:List (List P3)) (J:List Six):List (List P3):=clsL (labS C J) (plcs C) (plcs C).length
def sewB (C:List (List P3)) (J:List Six):List (Int × Int):=barsK (labS C J) (plcs C) C C.length
def sewR (C:List (List P3)) (J:List Six):(List (List P3) × List (Int × Int)) × Int:=
 if chkQ C J≠0 then (([],[]),chkQ C J) else if (sewC C J).length > 8192∨(sewB C J).length > 8192 then (([],[]),5) else ((sewC C J,sewB C J),0)
section
variable {N:Nat} (hN:Big N)
include hN
theorem T47_sew (C:List (List P3)) (J:List Six):T47 N (C,J)=some (sewR C J):=by
 rw [T47_eq]
 have f127:allFit (Pat.fits p127) (List.map n127 J)=true:=fa127 J
 have m127:List.map d127 (List.map n127 J)=J:=md127 J
 simp only [fa115,md115,f127,m127,Bool.and_true,Bool.and_self,cond_true,Option.bind_some,T42_chk hN C J]
 unfold sewR
 by_cases h:chkQ C J=0
 ·rw [if_neg (fun c=>c h)]
  obtain ⟨hp,hJ⟩:=chkQ_ok h
  obtain ⟨c1,c2⟩:=chkP_ok hp
  have hin:=chkQ_in h
  have hSl:=plcs_len c2 c1
  obtain ⟨m,r2,hm⟩:=R47_index hN (plcs C) (by omega) (plcs_nodup C)
  obtain ⟨u1,r4,hu1⟩:=R47_join hN (plcs C) (by omega) J hJ hin m hm
  obtain ⟨u2,M,r5,hu2,hM⟩:=R47_cls hN (plcs C) (by omega) m (lab_ok (edgJ (plcs C) J)) ((),plcs C,m,uL (plcs C).length id) (uL_len _ _) u1 hu1
  obtain ⟨u3,r6,hu3⟩:=R47_bars hN C (fun l hl=>chkN_ok (c2 l hl)) c1 (by omega) m hm (lab_ok (edgJ (plcs C) J)) ((),plcs C,m,uL (plcs C).length id) (uL_len _ _) (famE (sewC C J)) (lenC (sewC C J)) M hM u2 hu2
  have r1:=R47_places hN C c2 c1
  have r3:=R47_apart hN (plcs C) (by omega) m
  have r5':loopR (R47x8186 N ((),plcs C) ((),plcs C,m,uL (plcs C).length id)) N (0,(),(),plcs C,m,uL (plcs C).length u1,[],[],[])=some ((),(),plcs C,m,uL (plcs C).length u2,famE (sewC C J),lenI (lenC (sewC C J)),M):=r5
  have r6':loopR (R47x16378 N C ((),plcs C,m,uL (plcs C).length id)) N (0,(),[],plcs C,m,uL (plcs C).length u2,famE (sewC C J),lenI (lenC (sewC C J)),M)=some ((),sewB C J,plcs C,m,uL (plcs C).length u3,famE (sewC C J),lenI (lenC (sewC C J)),M):=r6
  have hb:(chkQ C J != 0)=false:=by simp [h]
  have nb:Nat.beq 0 0=true:=rfl
  have f94:allFit (Pat.fits p94) []=true:=rfl
  have f46:allFit (Pat.fits p46) []=true:=rfl
  have f3:allFit (Pat.fits p3) []=true:=rfl
  have f53:allFit (Pat.fits p53) []=true:=rfl
  have ff:allFit (Pat.fits pF74x4) []=true:=rfl
  have f2:allFit (Pat.fits p2) (famL [])=true:=rfl
  have g2:List.map d2 (famL [])=[]:=rfl
  have fm:allFit (Pat.fits pM109) []=true:=rfl
  have fm2:allFit (Pat.fits pM191) []=true:=rfl
  have n0:mcells ([]:List (AV × AV))=[]:=rfl
  have x0:allX ([]:List (AV × AV))=true:=rfl
  simp only [hb,cond_false,nb,f94,f46,f3,f53,ff,f2,g2,fm,fm2,n0,x0,List.map_nil,List.length_nil,Bool.and_self,Bool.and_true,cond_true,decide_true,Option.bind_some,fa94,md94,fa3,md3,fa46,md46,mc191,ax191,faM191,mdM191,mc109,ax109,faM109,mdM109,faF74x4,mdF74x4,unf2,faL,mdL,r1,r2,r3,r4,r5',r6',List.length_map,famE_len,wk74,famE_snd,cl53,fa53,md53,Nat.beq_refl]
  by_cases h1:(sewC C J).length > 8192
  ·have h1':decide (((sewC C J).length:Int) > 8192)=true:=decide_eq_true (by omega)
   rw [if_pos (.inl h1),h1']; rfl
  ·have h1':decide (((sewC C J).length:Int) > 8192)=false:=decide_eq_false (by omega)
   by_cases h2:(sewB C J).length > 8192
   ·have h2':decide (((sewB C J).length:Int) > 8192)=true:=decide_eq_true (by omega)
    rw [if_pos (.inr h2),h1',h2']; rfl
   ·have h2':decide (((sewB C J).length:Int) > 8192)=false:=decide_eq_false (by omega)
    rw [if_neg (fun c=>c.elim h1 h2),h1',h2']
    simp only [cond_false,Option.bind_some,famE_len,decide_true,cond_true,famE_snd]
 ·have hb:(chkQ C J != 0)=true:=bne_iff_ne.2 h
  rw [if_pos h]
  simp only [hb,cond_true]
  rfl
end
end Go.Proofs.YtfiopgedfcaodaaGreatDoor
namespace Go.Proofs.YtfiopgedfcaodaaGreatDoor
open Go Go.Am Go.Sort
set_option maxRecDepth 100000
section
variable {N:Nat} (hN:Big N)
include hN
end
end Go.Proofs.YtfiopgedfcaodaaGreatDoor
namespace Go.Proofs.YtfiopgedfcaodaaGreatDoor
open Go Go.Am Go.Sort
set_option maxRecDepth 100000
theorem sl63r (l:List (List P3)):sameL (List.map n63 l) (List.map n63 l)=true:=by
 have h3:∀ l:List P3,sameL (List.map n89 l) (List.map n89 l)=true:=fun l=>by
  induction l with
  | nil=>rfl
  | cons x l ih=>
   rw [List.map_cons]
   show (sameA (n89 x) (n89 x)&&sameL (List.map n89 l) (List.map n89 l))=true
   rw [ih]
   show ((same0 (.int .i64 x.1) (.int .i64 x.1)&&(same0 (.int .i64 x.2.1) (.int .i64 x.2.1)&&(same0 (.int .i64 x.2.2) (.int .i64 x.2.2)&&true)))&&true)=true
   simp [same0]
 induction l with
 | nil=>rfl
 | cons x l ih=>
  rw [List.map_cons]
  show (sameA (n63 x) (n63 x)&&sameL (List.map n63 l) (List.map n63 l))=true
  rw [ih]
  show ((Nat.beq 3 3&&sameL (List.map n89 x) (List.map n89 x))&&true)=true
  rw [h3]; rfl
theorem snoc63 (s:List (List P3)) (l:List P3):List.map n63 s++[AV.list .opn 3 (List.map n89 l)]=List.map n63 (s++[l]):=by
 rw [List.map_append]; rfl
theorem barsK_len2 (f:Nat→Nat) (S:List P3) (C:List (List P3)) (hC:∀ l∈C,l.length≤12):∀ k,(barsK f S C k).length≤12 * k
 | 0=>by simp [barsK]
 | k+1=>by
  rw [barsK_succ,List.length_append,List.length_map]
  have:=barsK_len2 f S C hC k
  have h2:(C.getD k []).length≤12:=by
   by_cases h:k < C.length
   ·have e:C.getD k []=C[k]:=by simp [h]
    rw [e]; exact hC _ (List.getElem_mem h)
   ·have e:C.getD k []=[]:=by simp [h]
    rw [e]; simp
  omega
theorem plcs_len2 (C:List (List P3)) (hC:∀ l∈C,l.length≤12):(plcs C).length≤24 * C.length:=by
 have gen:∀ n,((List.range n).flatMap (plc C)).length≤24 * n:=by
  intro n
  induction n with
  | zero=>simp
  | succ n ih=>
   rw [List.range_succ,List.flatMap_append,List.length_append]
   have:(plc C n).length≤24:=by
    unfold plc
    rw [List.length_map]
    unfold knotsL
    have h1:=insL_len ltK (0,0) (flatK2 (C.getD n []))
    have h2:(C.getD n []).length≤12:=by
     by_cases h:n < C.length
     ·have e:C.getD n []=C[n]:=by simp [h]
      rw [e]; exact hC _ (List.getElem_mem h)
     ·have e:C.getD n []=[]:=by simp [h]
      rw [e]; simp
    rw [flat_len] at h1
    omega
   simp only [List.flatMap_cons,List.flatMap_nil,List.append_nil]
   omega
 exact gen C.length
section
variable {N:Nat} (hN:Big N)
include hN
theorem T32_short2 (C:List (List P3)):∃ b,T32 N C=some b∧(b=true→(C.length≤4∨C.length=17)∧∀ l∈C,l.length≤12∨(4096 < l.length∧l.length≤4098)):=by
 rw [T32_eq]
 simp only [List.length_map]
 by_cases h:(C.length:Int) > 4∧(C.length:Int)≠17
 ·have hb:((C.length:Int) != 17)=true:=bne_iff_ne.2 h.2
  refine ⟨false,?_,fun c=>by cases c⟩
  simp only [h.1,decide_true,cond_true,hb,Option.bind_some]
 ·have h0:((bif decide ((C.length:Int) > 4) then some ((C.length:Int) != 17) else some false):Option Bool)=some false:=by
   by_cases h4:(C.length:Int) > 4
   ·have h17:(C.length:Int)=17:=by omega
    simp [h17]
   ·simp [h4]
  have hC:C.length≤4∨C.length=17:=by omega
  have q:=find_gen (rd:=R32x58 N C) C.length (fun k=>(k:Int)) (fun k=>!short (C.getD k [])) (fun _=>.inl false) (.inr ()) (fun k hk=>by
   obtain ⟨a1,a2⟩:=at115 C hk
   have e:C.getD k []=C[k]:=by simp [hk]
   rw [e]
   simp only [R32x58,List.length_map,Int.toNat_natCast,a1,a2,lt_range hk,in_range hk,Bool.and_self,Bool.and_true,cond_true,fa120,md120,T107_short C[k],Option.bind_some,w_succ (show k < 9223372036854775807 by omega)]
   cases short C[k] <;> rfl) (by simp only [R32x58,List.length_map,ge_range,cond_false]) N (by unfold Big at hN; omega)
  have q':loopR (R32x58 N C) N 0=_:=q
  simp only [h0,Option.bind_some,cond_false,q']
  cases hf:(List.range C.length).find? fun k=>!short (C.getD k []) with
  | some k=>exact ⟨false,rfl,fun c=>by cases c⟩
  | none=>
   refine ⟨true,rfl,fun _=>⟨hC,fun l hl=>?_⟩⟩
   obtain ⟨k,hk,rfl⟩:=List.getElem_of_mem hl
   rw [List.find?_eq_none] at hf
   have:=hf k (List.mem_range.2 hk)
   have e:C.getD k []=C[k]:=by simp [hk]
   rw [e] at this
   have hs:short C[k]=true:=by simpa using this
   unfold short at hs
   split at hs
   ·omega
   ·split at hs
    ·have:=of_decide_eq_true hs
     omega
    ·cases hs
theorem T50_own (x:List (List P3) × List (Int × Int)) (h1:x.1.length≤1000000) (h2:∀ l∈x.1,l.length≤1000000):T50 N x=some x:=by
 have key:=loopR_foldl (rd:=R50x58 N x) x.1 (fun s k=>((k:Int),s,x.2)) (fun s l=>s++[l]) (fun s=>(s,x.2)) (fun s k=>s.length=k) (fun s k hk hs=>by
  obtain ⟨a1,a2⟩:=at53 x.1 hk
  have hb:decide ((s.length+1) * 24≤140737488355328)=true:=decide_eq_true (by omega)
  have hla:(s++[x.1[k]]).length=s.length+1:=by simp
  have q:=T44_same hN x.1[k] (h2 _ (List.getElem_mem hk))
  refine ⟨?_,by rw [hla,hs]⟩
  simp only [R50x58,List.length_map,Int.toNat_natCast,a1,a2,lt_range hk,in_range hk,Bool.and_self,Bool.and_true,cond_true,fa94,md94,q,Option.bind_some,sl63r,decide_true,hb,snoc63,fa63,md63,fa46,md46,hla,w_succ (show k < 9223372036854775807 by omega)]) (fun s _=>by
  simp only [R50x58,List.length_map,ge_range,cond_false,fa63,md63,fa46,md46,Bool.and_self,Bool.and_true,cond_true,Option.bind_some,decide_true]) N [] 0 (Nat.zero_le _) (by unfold Big at hN; omega) rfl
 have key':loopR (R50x58 N x) N (0,[],x.2)=_:=key
 have f63:allFit (Pat.fits p63) []=true:=rfl
 rw [T50_eq]
 simp only [f63,fa46,md46,List.map_nil,List.length_nil,Bool.and_self,Bool.and_true,cond_true,decide_true,Option.bind_some,key',List.drop_zero,foldl_snoc,List.nil_append,fa63,md63]
theorem T49_same (x:List (List P3) × List (Int × Int)) (h1:x.1.length≤1000000) (h2:∀ l∈x.1,l.length≤1000000) (h3:x.2.length≤1000000):T49 N (x,x)=some true:=by
 have q:=find_gen (rd:=R49x58 N x x) x.1.length (fun k=>(k:Int)) (fun _=>false) (fun _=>.inl false) (.inr ()) (fun k hk=>by
  obtain ⟨a1,a2⟩:=at63 x.1 hk
  have q:=T43_same hN x.1[k] (h2 _ (List.getElem_mem hk))
  simp only [R49x58,List.length_map,Int.toNat_natCast,a1,a2,lt_range hk,in_range hk,Bool.and_self,Bool.and_true,cond_true,fa89,md89,q,Option.bind_some,Bool.not_true,cond_false,w_succ (show k < 9223372036854775807 by omega)]
  rfl) (by simp only [R49x58,List.length_map,ge_range,cond_false]) N (by unfold Big at hN; omega)
 have q':loopR (R49x58 N x x) N 0=_:=q
 have hn:(List.range x.1.length).find? (fun _=>false)=none:=by simp
 have q24:=T24_same hN x.2 h3
 rw [T49_eq]
 simp only [bne_self_eq_false,cond_false,fa46,md46,Bool.and_self,Bool.and_true,cond_true,Option.bind_some,q24,Bool.not_true,q',hn]
 rfl
end
end Go.Proofs.YtfiopgedfcaodaaGreatDoor
namespace Go.Proofs.YtfiopgedfcaodaaGreatDoor
open Go Go.Am
set_option maxRecDepth 100000
theorem stP_len {s s':List P3} {c:List P3} (h:foldI stP s c=.inl s'):s'.length≤s.length+c.length:=by
 have:=foldI_inl (st:=stP) (P:=fun s' k=>s'.length≤s.length+k) (l:=c) (s:=s) (s':=s') (k:=0) (fun s1 a s2 k _ hk h=>by
  unfold stP at h
  split at h
  ·injection h with h; subst h; simp; omega
  ·cases h) (by simp) h
 simpa using this
section
variable {N:Nat} (hN:Big N) (C:List (List P3)) (B:List (Int × Int)) (hC:C.length≤10000) (hB:B.length≤10000) (hc:∀ c∈C,c.length≤10000)
include hN hC hB hc
theorem R56_out:loopR (R56x122 N (C,B)) N ([],0)=some (Sum.elim (fun _=>.inr ()) (fun y=>.inl y.1) (foldI stC [] C)):=by
 have key:=loopR_fold (rd:=R56x122 N (C,B)) C (fun s k=>(s,(k:Int))) stC (fun _=>.inr ()) (fun y=>.inl y.1) (fun s k=>s.length≤10000 * k) (fun s k hk hs=>by
  obtain ⟨a1,a2⟩:=at63 C hk
  have hck:=hc _ (List.getElem_mem hk)
  refine ⟨?_,fun s' h=>?_⟩
  ·have hi:=R56_in hN C B hC hB hc k hk s s (by omega)
   simp only [R56x122,List.length_map,Int.toNat_natCast,a1,a2,lt_range hk,in_range hk,Bool.and_self,Bool.and_true,cond_true,fa89,md89,decide_true,Option.bind_some,hi,w_succ (show k < 9223372036854775807 by omega)]
   unfold stC
   by_cases hz:C[k].length=0
   ·simp only [hz,if_true,Sum.map_inr]
    rfl
   ·have hb:((C[k].length:Int) == 0)=false:=beq_false_of_ne (by omega)
    simp only [hb,cond_false,hz,if_false]
    cases foldI stP s C[k] <;> simp only [Sum.elim_inl,Sum.elim_inr,Sum.map_inl,Sum.map_inr,fa89,md89,decide_true,cond_true,Option.bind_some]
  ·unfold stC at h
   split at h
   ·cases h
   ·have:=stP_len h
    omega) (fun s hs=>by
  simp only [R56x122,List.length_map,ge_range,cond_false]) N [] 0 (Nat.zero_le _) (by unfold Big at hN; omega) (by simp)
 rw [List.drop_zero] at key
 exact key
theorem R56_bars:loopR (R56x250 N (C,B)) N 0=some (if firstNZ (B.map (errB C.length))=0 then .inr () else .inl (firstNZ (B.map (errB C.length)))):=by
 refine first_loop2 (rd:=R56x250 N (C,B)) (B.map (errB C.length)) (fun k hk=>?_) (by
  rw [List.length_map]
  simp only [R56x250,List.length_map,ge_range,cond_false]) N (by unfold Big at hN; rw [List.length_map]; omega)
 have hk:k < B.length:=by simpa using hk
 obtain ⟨a1,a2⟩:=at46g B hk
 rw [List.getElem_map]
 simp only [R56x250,List.length_map,Int.toNat_natCast,a1,a2,lt_range hk,in_range hk,Bool.and_self,cond_true,w_succ (show k < 9223372036854775807 by omega)]
 unfold errB rng
 simp only [firstNZ]
 generalize B[k]=b
 by_cases c1:b.1 < 0
 ·simp [c1]
 ·by_cases c2:b.1≥(C.length:Int)
  ·have d2:b.1 > (C.length:Int) - 1:=by omega
   simp [c1,c2,d2]
  ·have d2:¬ b.1 > (C.length:Int) - 1:=by omega
   by_cases c3:b.2 < 0
   ·simp [c1,c2,c3,d2]
   ·by_cases c4:b.2≥(C.length:Int)
    ·have d4:b.2 > (C.length:Int) - 1:=by omega
     simp [c1,c2,c3,c4,d2,d4]
    ·have d4:¬ b.2 > (C.length:Int) - 1:=by omega
     by_cases c5:b.1 > b.2 <;> simp [c1,c2,c3,c4,c5,d2,d4]
theorem T56_chk:T56 N (C,B)=some (chkS C B):=by
 rw [T56_eq]
 unfold chkS
 by_cases h0:C.length > 8192∨B.length > 8192
 ·rw [if_pos h0]
  have:((bif (decide ((C.length:Int) > 8192)) then (some true) else (some (decide ((B.length:Int) > 8192)))):Option Bool)=some true:=by
   by_cases h1:(C.length:Int) > 8192
   ·simp [h1]
   ·have h2:(B.length:Int) > 8192:=by omega
    simp [h2]
  simp only [List.length_map,this,Option.bind_some,cond_true]
 ·rw [if_neg h0]
  have:((bif (decide ((C.length:Int) > 8192)) then (some true) else (some (decide ((B.length:Int) > 8192)))):Option Bool)=some false:=by
   have h1:¬ (C.length:Int) > 8192:=by omega
   have h2:¬ (B.length:Int) > 8192:=by omega
   simp [h1,h2]
  simp only [List.length_map,this,Option.bind_some,cond_false]
  have z:((bif allFit (Pat.fits p89) ([]:List AV)&&true then some (List.map d89 ([]:List AV),0) else none:Option ((List P3) × Int)).bind fun w36=>bif decide (0=w36.1.length)&&true then some w36 else none)=some ([],0):=rfl
  rw [z,Option.bind_some,R56_out hN C B hC hB hc,Option.bind_some]
  cases foldI stC [] C with
  | inr e=>rfl
  | inl s=>
   simp only [Sum.elim_inl,Sum.elim_inr,R56_bars hN C B hC hB hc,Option.bind_some]
   by_cases hz:firstNZ (B.map (errB C.length))=0
   ·simp only [hz,if_true,Sum.elim_inr]
   ·simp only [hz,if_false,Sum.elim_inl]
def clsF (C:List (List P3)) (p:P3):Int × Int:=match (List.range C.length).find? fun i=>decide (p∈C.getD i []) with | some i=>((i:Int),0) | none=>(0,7)
theorem in52 (k:Nat) (hk:k < C.length) (p:P3):loopR (R52x172x26 N (C,B) ((k:Int),p)) N (0,p)=some (match (List.range C[k].length).find? fun j=>decide (C[k].getD j (0,0,0)=p) with | some j=>.inl ((j:Int),p) | none=>.inr p):=by
 obtain ⟨a1,a2⟩:=at53 C hk
 have hcl:=hc _ (List.getElem_mem hk)
 have q:=find_gen (rd:=R52x172x26 N (C,B) ((k:Int),p)) C[k].length (fun j=>((j:Int),p)) (fun j=>decide (C[k].getD j (0,0,0)=p)) (fun j=>.inl ((j:Int),p)) (.inr p) (fun j hj=>by
  obtain ⟨b1,b2⟩:=at94 C[k] hj
  have e:C[k].getD j (0,0,0)=C[k][j]:=by simp [hj]
  have e2:=eq_three p C[k][j]
  simp only [R52x172x26,List.length_map,Int.toNat_natCast,a1,b1,b2,lt_range hj,in_range hj,Bool.and_self,cond_true,e,e2,w_succ (show j < 9223372036854775807 by omega)]
  by_cases h:p=C[k][j]
  ·simp [h]
  ·have h':¬ C[k][j]=p:=fun x=>h x.symm
   simp [h,h']) (by simp only [R52x172x26,List.length_map,Int.toNat_natCast,a1,ge_range,cond_false]) N (by unfold Big at hN; omega)
 exact q
theorem out52 (p:P3):loopR (R52x131x26 N (C,B)) N (0,p)=some (match (List.range C.length).find? fun i=>decide (p∈C.getD i []) with | some i=>.inl ((i:Int),p) | none=>.inr p):=by
 have q:=find_gen (rd:=R52x131x26 N (C,B)) C.length (fun i=>((i:Int),p)) (fun i=>decide (p∈C.getD i [])) (fun i=>.inl ((i:Int),p)) (.inr p) (fun k hk=>by
  obtain ⟨a1,a2⟩:=at53 C hk
  have e:C.getD k []=C[k]:=by simp [hk]
  have hi:=in52 hN C B hC hB hc k hk p
  have ha:=find_any C[k] (fun x=>decide (x=p)) (0,0,0)
  have he:C[k].any (fun x=>decide (x=p))=decide (p∈C[k]):=by rw [Bool.eq_iff_iff,List.any_eq_true]; simp
  rw [he] at ha
  have hi':loopR (R52x172x26 N (C,B) ((k:Int),p)) N (0,p.1,p.2.1,p.2.2)=_:=hi
  simp only [R52x131x26,List.length_map,Int.toNat_natCast,a2,lt_range hk,in_range hk,Bool.and_self,cond_true,e,hi',Option.bind_some,w_succ (show k < 9223372036854775807 by omega)]
  rw [← ha]
  cases (List.range C[k].length).find? fun j=>decide (C[k].getD j (0,0,0)=p) with
  | none=>rfl
  | some j=>simp) (by simp only [R52x131x26,List.length_map,ge_range,cond_false]) N (by unfold Big at hN; omega)
 exact q
theorem T52_cls (p:P3):T52 N ((C,B),p)=some (if firstNZ [chkS C B,rng p.1 0 15,knotErr (p.2.1,p.2.2)]=0 then clsF C p else (0,firstNZ [chkS C B,rng p.1 0 15,knotErr (p.2.1,p.2.2)])):=by
 rw [T52_eq]
 have h128:=T128_chk hN C B hC hB hc
 have h52:loopR (R52x131x26 N (C,B)) N (0,p.1,p.2.1,p.2.2)=_:=out52 hN C B hC hB hc p
 simp only [fa53,md53,fa46,md46,Bool.and_self,cond_true,Option.bind_some,h128,beq_self_eq_true,T129_rng,T130_knot hN,three24,h52]
 rw [T90_first hN _ (by simp),Option.bind_some]
 generalize firstNZ [chkS C B,rng p.1 0 15,knotErr (p.2.1,p.2.2)]=e
 by_cases he:e=0
 ·subst he
  simp only [bne_self_eq_false,cond_false,if_true,Option.bind_some]
  unfold clsF
  cases (List.range C.length).find? fun i=>decide (p∈C.getD i []) with
  | none=>simp [T91_when]
  | some i=>
   have h1:¬ ((i:Int) < 0):=by omega
   simp only [Sum.elim_inl,Option.bind_some,T91_when,h1,decide_false,Bool.false_eq_true,if_false]
   by_cases h2:(i:Int) > 0
   ·rw [if_pos h2]
   ·have:(i:Int)=0:=by omega
    rw [if_neg h2,this]
 ·simp only [bne0 he,cond_true,if_neg he]
theorem T54_deg:T54 N (C,B)=some (if chkS C B=0 then (deg C.length B,0) else ([],chkS C B)):=by
 rw [T54_eq]
 simp only [fa53,md53,fa46,md46,Bool.and_self,cond_true,Option.bind_some,T128_chk hN C B hC hB hc]
 by_cases h:chkS C B=0
 ·obtain ⟨h1,h2,h3⟩:=chkS_ok h
  have hd:decide ((0:Int)≤(C.length:Int)∧(C.length:Int)≤(C.length:Int)∧(C.length:Int)≤140737488355328∧(C.length:Int) * 8≤140737488355328)=true:=decide_eq_true (by omega)
  simp only [h,bne_self_eq_false,cond_false,List.length_map,hd,cond_true,Int.toNat_natCast,rep3,fa3,md3,Bool.and_self,Option.bind_some,R54_loop hN C B h1 h2 h3,deg_len,decide_true,cl3,if_true]
 ·rw [bne0 h,if_neg h]
  rfl
theorem T55_cnt:T55 N (C,B)=some (if chkS C B=0 then (cntS C B,0) else ((0,0,0,0),chkS C B)):=by
 rw [T55_eq]
 simp only [fa53,md53,fa46,md46,Bool.and_self,cond_true,Option.bind_some,T128_chk hN C B hC hB hc]
 by_cases h:chkS C B=0
 ·obtain ⟨h1,h2,h3⟩:=chkS_ok h
  have z:((bif (Nat.beq 0 (([]:List AV)).length&&Nat.beq 0 (([]:List AV)).length)&&(allFit (Pat.fits p3) ([]:List AV)&&true) then some ((),0,(List.map d3 ([]:List AV))) else none:Option (Unit × Int × (List Int))).bind fun w8=>some w8)=some ((),0,[]):=rfl
  simp only [Bool.and_self] at z
  obtain ⟨u,r1,hu⟩:=bars_loop hN C B h1 h2 h3 ((),uL C.length id) (by simp) B.length 0 N id (by omega) (by unfold Big at hN; omega) (UF.id _)
  obtain ⟨u2,r2⟩:=count_loop hN h1 (f:=lab (edg B)) ((),uL C.length id) (by simp) (C.length:Int) (B.length:Int) 0 C.length 0 N u (by omega) (by unfold Big at hN; omega) hu
  have r1':loopR (R55x122 N (C,B) ((),uL C.length id)) N (0,uL C.length id)=_:=r1
  have r2':loopR (R55x506 N ((),uL C.length id)) N (0,(C.length:Int),(B.length:Int),0,0,uL C.length u)=_:=r2
  have ha:loopR (R55x122x58 N (C,B)) N ((),0,[])=_:=apart_loop hN (C,B) h1
  simp only [h,bne_self_eq_false,cond_false,if_true]
  rw [z]
  simp only [Option.bind_some,ha,fa3,md3,Bool.and_self,cond_true,r1',List.length_map,r2']
  rfl
 ·rw [bne0 h,if_neg h]
  rfl
end
section
variable {N:Nat} (hN:Big N) (C:List (List P3)) (B:List (Int × Int)) (hC:C.length≤10000) (hB:B.length≤10000) (hc:∀ c∈C,c.length≤10000)
include hN hC hB hc
end
end Go.Proofs.YtfiopgedfcaodaaGreatDoor
