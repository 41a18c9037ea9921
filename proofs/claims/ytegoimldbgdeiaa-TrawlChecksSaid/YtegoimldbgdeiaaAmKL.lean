/- Plain laws that many chapters share: loops,numbers in range,divisors. -/
import Derived.Test.YtegoimldbgdeiaaAmKK
import Derived.IntWalk
import Derived.Shelf.Spec.SlicesGrow
set_option linter.all false
namespace Go.Am
open Go
theorem RE {x:Int} (h:-9223372036854775808≤x∧x≤9223372036854775807):IntKind.wrap .i64 x=x:=IntWalk.i64_in x (by omega)
def fA (N:Nat):Prop:=18446744073709551616≤N
theorem mD {V X:Type} (rd:V→Option (V ⊕ X)) (n:Nat) (v:V):aF rd (n+1) v=(rd v).bind fun o=>Sum.elim (fun v'=>aF rd n v') (fun x=>some x) o:=rfl
theorem eF {α:Type} (g:α→AV) (xs:List α) (k:Nat) (h:k < xs.length):ai (xs.map g) k=g xs[k]:=by
 unfold ai
 rw [aU,List.getElem?_map,List.getElem?_eq_getElem h]
 rfl
def foldI {S α Y:Type} (st:S→α→S ⊕ Y):S→List α→S ⊕ Y
 | s,[]=>.inl s
 | s,a :: l=>Sum.elim (fun s'=>foldI st s' l) (fun y=>.inr y) (st s a)
theorem gD {V X S α Y:Type} {rd:V→Option (V ⊕ X)} (l:List α) (E:S→Nat→V) (st:S→α→S ⊕ Y) (fin:S→X) (ex:Y→X) (P:S→Nat→Prop)
  (h:∀ s k (hk:k < l.length),P s k→rd (E s k)=some (Sum.map (fun s'=>E s' (k+1)) ex (st s l[k]))∧∀ s',st s l[k]=.inl s'→P s' (k+1))
  (h0:∀ s,P s l.length→rd (E s l.length)=some (.inr (fin s))) :
  ∀ n s k,k≤l.length→l.length < n+k→P s k→aF rd n (E s k)=some (Sum.elim fin ex (foldI st s (l.drop k)))
 | 0,s,k,hk,hn,_=>by omega
 | n+1,s,k,hk,hn,hP=>by
  rw [mD]
  by_cases bT:k < l.length
  ·obtain ⟨h1,h2⟩:=h s k bT hP
   rw [h1,List.drop_eq_getElem_cons bT]
   simp only [Option.bind_some,foldI]
   cases hs:st s l[k] with
   | inl s'=>
    simp only [Sum.map_inl,Sum.elim_inl]
    exact gD l E st fin ex P h h0 n s' (k+1) (by omega) (by omega) (h2 s' hs)
   | inr y=>simp only [Sum.map_inr,Sum.elim_inr]
  ·have:k=l.length:=by omega
   subst this
   rw [h0 s hP,List.drop_eq_nil_of_le (Nat.le_refl _)]
   rfl
theorem dc {V X S α:Type} {rd:V→Option (V ⊕ X)} (l:List α) (E:S→Nat→V) (f:S→α→S) (fin:S→X) (P:S→Nat→Prop)
  (h:∀ s k (hk:k < l.length),P s k→rd (E s k)=some (.inl (E (f s l[k]) (k+1)))∧P (f s l[k]) (k+1))
  (h0:∀ s,P s l.length→rd (E s l.length)=some (.inr (fin s))) :
  ∀ n s k,k≤l.length→l.length < n+k→P s k→aF rd n (E s k)=some (fin ((l.drop k).foldl f s))
 | 0,s,k,hk,hn,_=>by omega
 | n+1,s,k,hk,hn,hP=>by
  rw [mD]
  by_cases bT:k < l.length
  ·obtain ⟨h1,h2⟩:=h s k bT hP
   rw [h1,List.drop_eq_getElem_cons bT]
   simp only [Option.bind_some,Sum.elim_inl,List.foldl_cons]
   exact dc l E f fin P h h0 n _ (k+1) (by omega) (by omega) h2
  ·have:k=l.length:=by omega
   subst this
   rw [h0 s hP,List.drop_eq_nil_of_le (Nat.le_refl _)]
   rfl
theorem bu {V X:Type} {rd:V→Option (V ⊕ X)} (m:Nat) (E:Nat→V) (x:X) (h:∀ k,k < m→rd (E k)=some (.inl (E (k+1)))) (h0:rd (E m)=some (.inr x)) :
  ∀ n k,k≤m→m < n+k→aF rd n (E k)=some x
 | 0,k,hk,hn=>by omega
 | n+1,k,hk,hn=>by
  rw [mD]
  by_cases bT:k < m
  ·rw [h k bT]
   simp only [Option.bind_some,Sum.elim_inl]
   exact bu m E x h h0 n (k+1) (by omega) (by omega)
  ·have:k=m:=by omega
   subst this
   rw [h0]
   rfl
theorem ar {k n:Nat} (h:k < n):decide (0≤(k:Int)∧(k:Int) < (n:Int))=true:=by simp; omega
theorem aB {k n:Nat} (h:k < n):decide ((k:Int) < (n:Int))=true:=by simpa using h
theorem aQ (n:Nat):decide ((n:Int) < (n:Int))=false:=by simp
theorem a6 {k:Nat} (h:k < 9223372036854775807):IntKind.wrap .i64 ((k:Int)+1)=((k+1:Nat):Int):=by rw [RE (by omega)]; simp
def IS (n lo hi:Int):Int:=if n < lo∨n > hi then 3 else 0
def bE:List Int→Int
 | []=>0
 | x :: l=>if x=0 then bE l else x
theorem vJ {rd:Int→Option (Int ⊕ (Int ⊕ Unit))} (l:List Int)
  (h:∀ k (hk:k < l.length),rd (k:Int)=some (if l[k]=0 then .inl ((k+1:Nat):Int) else .inr (.inl l[k]))) (h0:rd (l.length:Int)=some (.inr (.inr ()))) (n:Nat) (hn:l.length < n) :
  ∃ o,aF rd n 0=some o∧Sum.elim (fun x=>x) (fun _=>0) o=bE l:=by
 have key:=gD (rd:=rd) (S:=Unit) (Y:=Int) l (fun _ k=>(k:Int)) (fun _ x=>if x=0 then .inl () else .inr x) (fun _=>.inr ()) (fun x=>.inl x) (fun _ _=>True)
  (fun s k hk _=>⟨by rw [h k hk]; by_cases e:l[k]=0 <;> simp [e],fun _ _=>trivial⟩) (fun _ _=>h0) n () 0 (Nat.zero_le _) (by omega) trivial
 refine ⟨_,key,?_⟩
 rw [List.drop_zero]
 clear key h h0 hn
 induction l with
 | nil=>rfl
 | cons x l ih=>
  simp only [foldI,bE]
  by_cases e:x=0
  ·simp only [e,if_true,Sum.elim_inl]; exact ih
  ·simp [e]
theorem eO {rd:Int→Option (Int ⊕ (Int ⊕ Unit))} (l:List Int)
  (h:∀ k (hk:k < l.length),rd (k:Int)=some (if l[k]=0 then .inl ((k+1:Nat):Int) else .inr (.inl l[k]))) (h0:rd (l.length:Int)=some (.inr (.inr ()))) (n:Nat) (hn:l.length < n) :
  aF rd n 0=some (if bE l=0 then .inr () else .inl (bE l)):=by
 have key:=gD (rd:=rd) (S:=Unit) (Y:=Int) l (fun _ k=>(k:Int)) (fun _ x=>if x=0 then .inl () else .inr x) (fun _=>.inr ()) (fun x=>.inl x) (fun _ _=>True)
  (fun s k hk _=>⟨by rw [h k hk]; by_cases e:l[k]=0 <;> simp [e],fun _ _=>trivial⟩) (fun _ _=>h0) n () 0 (Nat.zero_le _) (by omega) trivial
 rw [List.drop_zero] at key
 refine key.trans (congrArg some ?_)
 clear key h h0 hn
 induction l with
 | nil=>rfl
 | cons x l ih=>
  simp only [foldI,bE]
  by_cases e:x=0
  ·simp only [e,if_true,Sum.elim_inl]; exact ih
  ·simp [e]
theorem JE (s:List UInt8) (k:Nat) (hk:k < s.length):((s[k].toNat < 128)→bZ s k=(s[k].toNat,1))∧(128≤s[k].toNat→128≤(bZ s k).1):=by
 have e1:s.getD k 0=s[k]:=by simp [hk]
 constructor
 ·intro h
  have:Nat.blt s[k].toNat 128=true:=Nat.ble_eq_true_of_le h
  unfold bZ
  rw [e1,this]
  rfl
 ·intro h
  have:Nat.blt s[k].toNat 128=false:=by
   cases hb:Nat.blt s[k].toNat 128 with
   | false=>rfl
   | true=>have:=Nat.le_of_ble_eq_true hb; omega
  unfold bZ
  rw [e1,this]
  simp only [cond_false]
  have e2:((⟨⟨s⟩⟩:ByteArray).get! (k+0)).toNat=s[k].toNat:=by
   simp [ByteArray.get!,hk]
  unfold Utf8.decode
  simp only [e2,if_neg (by omega:¬ s[k].toNat < 128)]
  have hr:(128:Nat)≤Utf8.runeError:=by decide
  repeat' split
  all_goals first | exact hr | skip
  all_goals simp_all
  all_goals omega
theorem RG {x:Int} (h:x≠0):(x == 0)=false:=by simpa using h
theorem A6 {x:Int} (h:x≠0):(x != 0)=true:=by simpa using h
end Go.Am
namespace Go.Am
open Go
section
variable {κ ν:Type} [DecidableEq κ]
def getM (k:κ):List (κ × ν)→Option ν
 | []=>none
 | (k',v) :: m=>if k=k' then some v else getM k m
def fR (k:κ) (v:ν):List (κ × ν)→List (κ × ν)
 | []=>[(k,v)]
 | (k',v') :: m=>if k=k' then (k,v) :: m else (k',v') :: fR k v m
theorem A7 {k:κ} {v:ν}:∀ {m:List (κ × ν)},getM k m=none→fR k v m=m++[(k,v)]
 | [],_=>rfl
 | (k1,v1) :: m,h=>by
  unfold getM at h
  split at h
  ·cases h
  ·rename_i cM
   unfold fR
   rw [if_neg cM,A7 h]
   rfl
theorem rX {k:κ} {v:ν}:∀ {m:List (κ × ν)},(fR k v m).map Prod.fst=if k∈m.map Prod.fst then m.map Prod.fst else m.map Prod.fst++[k]
 | []=>by simp [fR]
 | (k1,v1) :: m=>by
  unfold fR
  by_cases h:k=k1
  ·simp [h]
  ·rw [if_neg h,List.map_cons,rX (m:=m)]
   by_cases h2:k∈m.map Prod.fst
   ·have:k∈((k1,v1) :: m).map Prod.fst:=by simp only [List.map_cons,List.mem_cons]; exact .inr h2
    rw [if_pos h2,if_pos this]
    rfl
   ·have:¬ k∈((k1,v1) :: m).map Prod.fst:=by
     simp only [List.map_cons,List.mem_cons,not_or]; exact ⟨h,h2⟩
    rw [if_neg h2,if_neg this]
    rfl
theorem Fy (k:κ) (l:List κ):getM k (l.map fun x=>(x,true))=if k∈l then some true else none:=by
 induction l with
 | nil=>rfl
 | cons a l ih=>
  simp only [List.map_cons,getM,ih,List.mem_cons]
  by_cases h:k=a
  ·simp [h]
  ·simp [h]
structure gi (ek:EK) (nk:κ→AV) (nv:ν→AV) (nM:κ × ν→AV):Prop where
 key:∀ a b,Bs ek (nk a) (nk b)=some (decide (a=b))
 pair:∀ x,nM x=.agg [nk x.1,nv x.2]
 exact:∀ x,(nM x).exact=true
variable {ek:EK} {nk:κ→AV} {nv:ν→AV} {nM:κ × ν→AV} (h:gi ek nk nv nM)
include h
theorem gi.Qg:∀ m:List (κ × ν),ab (List.map nM m)=m.map fun x=>(nk x.1,nv x.2)
 | []=>rfl
 | x :: m=>by
  rw [List.map_cons,h.pair,ab,gi.Qg m]
  rfl
theorem gi.keys (k:κ):∀ m:List (κ × ν),cq ek (nk k) (ab (List.map nM m))=true
 | []=>rfl
 | x :: m=>by
  have:=gi.keys k m
  rw [List.map_cons,h.pair,ab]
  show ((Bs ek (nk k) (nk x.1)).isSome&&cq ek (nk k) (ab (List.map nM m)))=true
  rw [this,h.key]
  rfl
theorem gi.get (k:κ):∀ m:List (κ × ν),eg ek (nk k) (ab (List.map nM m))=(getM k m).map nv
 | []=>rfl
 | x :: m=>by
  have ih:=gi.get k m
  rw [List.map_cons,h.pair,ab]
  show (bif wE ek (nk k) (nk x.1) then some (nv x.2) else eg ek (nk k) (ab (List.map nM m)))=(if k=x.1 then some x.2 else getM k m).map nv
  unfold wE
  rw [h.key,ih]
  by_cases e:k=x.1
  ·simp [e]
  ·simp [e]
theorem gi.getD (k:κ) (z:ν) (m:List (κ × ν)):aK ek (nk k) (nv z) (ab (List.map nM m))=nv ((getM k m).getD z):=by
 unfold aK
 rw [h.get]
 cases getM k m <;> rfl
theorem gi.put (k:κ) (v:ν):∀ m:List (κ × ν),cr ek (nk k) (nv v) (ab (List.map nM m))=ab (List.map nM (fR k v m))
 | []=>by
  show [(nk k,nv v)]=ab [nM (k,v)]
  rw [h.pair]
  rfl
 | x :: m=>by
  have ih:=gi.put k v m
  rw [List.map_cons,h.pair,ab]
  show (bif wE ek (nk k) (nk x.1) then (nk k,nv v) :: ab (List.map nM m) else (nk x.1,nv x.2) :: cr ek (nk k) (nv v) (ab (List.map nM m)))=ab (List.map nM (if k=x.1 then (k,v) :: m else (x.1,x.2) :: fR k v m))
  unfold wE
  rw [h.key,ih]
  by_cases e:k=x.1
  ·simp only [e,decide_true,cond_true,if_true,List.map_cons]
   rw [h.pair (x.1,v),ab]
   rfl
  ·simp only [e,decide_false,cond_false,if_false,List.map_cons]
   rw [h.pair (x.1,x.2),ab]
   rfl
theorem gi.cells:∀ m:List (κ × ν),af (ab (List.map nM m))=List.map nM m
 | []=>rfl
 | x :: m=>by
  have ih:=gi.cells m
  rw [List.map_cons,h.pair,ab]
  show AV.agg [nk x.1,nv x.2] :: af (ab (List.map nM m))=_
  rw [ih]
theorem gi.aM (m:List (κ × ν)):Go.Am.aM (ab (List.map nM m))=true:=by
 unfold Go.Am.aM
 rw [h.cells]
 induction m with
 | nil=>rfl
 | cons x m ih=>rw [List.map_cons,fQ,ih,h.exact]; rfl
end
theorem D9 (k:IntKind) (a b:Int):Bs .int (.int k a) (.int k b)=some (decide (a=b)):=by
 unfold Bs
 simp only [kz,if_true]
 by_cases h:a=b
 ·subst h; simp [EK.wide]
 ·have:(a == b)=false:=by simpa using h
  rw [this]; simp [h]
theorem J8 (a b:Int × Int):Bs (.st (.cons 0 1 false .int (.cons 1 1 false .int .nil))) (.agg [.int .i64 a.1,.int .i64 a.2]) (.agg [.int .i64 b.1,.int .i64 b.2])=some (decide (a=b)):=by
 obtain ⟨a1,a2⟩:=a
 obtain ⟨b1,b2⟩:=b
 have e:kz (.st (.cons 0 1 false .int (.cons 1 1 false .int .nil))) (.agg [.int .i64 a1,.int .i64 a2]) (.agg [.int .i64 b1,.int .i64 b2])=some ((a1 == b1)&&((a2 == b2)&&true)):=rfl
 unfold Bs
 rw [e]
 by_cases h1:a1=b1 <;> by_cases h2:a2=b2
 ·subst h1; subst h2
  simp [EK.wide,lV,mS,pT]
 all_goals simp [h1,h2]
end Go.Am
namespace Go.Am
open Go
theorem kp {V X:Type} (rd:(V→Option X)→V→Option X) (n:Nat) (v:V):dQ rd (n+1) v=rd (dQ rd n) v:=rfl
def gr (L:List Nat):List Int:=L.map fun n:Nat=>(n:Int)
theorem A8 {α:Type} (f:α→AV × AV) (m:List α) {i:Nat} (h:i < m.length):bL (m.map f) i=f m[i]:=by
 unfold bL
 rw [aU,List.getElem?_map,List.getElem?_eq_getElem h]
 rfl
end Go.Am
namespace Go.Am
open Go Go.RowKit Go.Proofs Go.Shelf Go.Lib
def Em (sz na:Nat) (el:TypeId):List AV→List GO→Option (Bool × AV × List GO)
 | [.list .nil _ [],.int .i64 n],G=>some (decide (0≤n∧n * (na:Int)≤140737488355328∧n≤4611686018427387904),.dT G.length 0 0 sz 0,G++[.dE [] sz el])
 | _,_=>none
section
variable {E:Env} {ρ:Ren}
theorem Bg (L:Lays8.n4 E.P ρ) (hp:Plain E.P (ρ.f 4)) (i0:TypeInfo) (z:Value) (Z3:E.P.info? (ρ.t 25)=some i0) (TW:i0.zero=some z) (Z4:0 < i0.size) (Z5:z.cells.size=i0.size) :
  ∀ (args:List AV) (G:List GO) (r:AV) (G':List GO),Em i0.size i0.bytes (ρ.t 25) args G=some (true,r,G')→cH E (ρ.f 4) args G (fun r' Lh=>r'=r∧Lh=G'):=by
 intro args G r G' h
 unfold Em at h
 split at h
 ·rename_i G1 Ws n
  injection h with h
  injection h with h1 h
  injection h with h2 h3
  subst h2; subst h3
  have h1:=of_decide_eq_true h1
  obtain ⟨yq,ME,Z6⟩:=h1
  refine ⟨hp,fun R w cs hg hl=>callsIn_wide.2 ?_⟩
  cases hl with
  | @cons _ cv _ _ r1 hl=>
  cases hl with
  | @cons _ nv _ _ r2 hl=>
  cases hl
  cases r2
  have Mg:∃ c0,cv=.slice none 0 c0∧c0=0:=by
   cases r1 with
   | iF=>exact ⟨_,rfl,rfl⟩
   | list _ _ _ hk=>exact hk.elim
  obtain ⟨c0,rfl,rfl⟩:=Mg
  obtain ⟨m,rfl⟩:∃ m:Nat,n=(m:Int):=⟨n.toNat,by omega⟩
  have cT:aY E R w (fun _=>0) ⟨[],[],G,[],none,0⟩ (⟨#[],[]⟩:Act):=
   ⟨hg,⟨fun k cs h=>by simp [dy] at h,fun k k' cs eQ h=>by simp [dy] at h⟩,fun i hi=>absurd rfl hi,rfl,trivial⟩
  by_cases hm:m=0
  ·subst hm
   refine (Any8.slices_Grow_room (P:=E.P) (ρ:=ρ) L none 0 0 0 w (Nat.le_refl _) (by omega) (by omega) (by omega)).mono fun e w' ⟨e1,e2⟩=>?_
   have e2:=e2.symm
   subst e1; subst e2
   obtain ⟨k1,k2⟩:=cT.DH (i0.size+65536) (ρ.t 25)
   have hn:nth (gC R).obj G.length=some .bn:=by rw [← hg.len]; exact ey _ _
   have ev:MF G.length (i0.size+65536)=.dT G.length 0 0 i0.size 0:=by
    unfold MF
    rw [Nat.ble_eq_true_of_le (Nat.le_add_left _ _),Nat.add_sub_cancel]
    rfl
   have eo:GD (i0.size+65536) (ρ.t 25)=.dE [] i0.size (ρ.t 25):=by
    unfold GD
    rw [Nat.ble_eq_true_of_le (Nat.le_add_left _ _),Nat.add_sub_cancel]
    rfl
   have hv:Rel (gC R) w (.dT G.length 0 0 i0.size 0) (.slice none 0 0):=by
    rw [← ev]; exact DG hn
   have Xs:=k1.g
   have eG:((⟨[],[],G,[],none,0⟩:St).dH (GD (i0.size+65536) (ρ.t 25))).G=G++[.dE [] i0.size (ρ.t 25)]:=by
    show G++[GD (i0.size+65536) (ρ.t 25)]=_
    rw [eo]
   rw [eG] at Xs
   exact ⟨_,_,gC R,⟨rfl,rfl⟩,hv,Xs,k2⟩
  ·have OL:(0+m) * i0.bytes≤140737488355328:=by
    rw [Nat.zero_add]
    have:((m * i0.bytes:Nat):Int)≤140737488355328:=by rw [Int.natCast_mul]; exact ME
    omega
   have key:=Any8.slices_Grow_grow (P:=E.P) (ρ:=ρ) L i0 z Z3 TW Z4 none 0 0 m [] w (Nat.le_refl _) (by omega) OL (by omega) (by simp) (fun _=>rfl) (fun a h=>by cases h)
   refine key.mono fun e w' ⟨e1,e2⟩=>?_
   have zB:=grownCap_ge w (0+m) 0 (ρ.t 25)
   have TT:=grownCap_le_maxLen w (0+m) 0 (ρ.t 25) (by unfold maxLen; omega)
   generalize grownCap w (0+m) 0 (ρ.t 25)=cap at *
   subst e1; subst e2
   obtain ⟨d1,d2⟩:=cT.drew
   have eC:(([]:List Value).toArray++Builtin.zeroCells z.cells (0+m - 0)++Builtin.zeroCells z.cells (cap - (0+m))).size=cap * i0.size:=by
    simp only [Array.size_append,List.size_toArray,size_zeroCells,Z5,List.length_nil,Nat.zero_add,Nat.sub_zero,← Nat.add_mul]
    congr 1
    omega
   have r1:=d1.B1 (cur:=([]:List Value).toArray++Builtin.zeroCells z.cells (0+m - 0)++Builtin.zeroCells z.cells (cap - (0+m))) (vs:=[]) (es:=[]) (elem:=ρ.t 25) (sz:=i0.size) (cap:=cap) (Nat.zero_le _) TT eC (fun e he=>by cases he) .nil (fun v hv=>by cases hv) (by simp)
   have st:=d2.trans (cB d1 (.cells (([]:List Value).toArray++Builtin.zeroCells z.cells (0+m - 0)++Builtin.zeroCells z.cells (cap - (0+m))) (ρ.t 25)) (.tok 0 w.drew.heap.size cap) (by exact fun _ h=>h))
   have hv:Rel (R.add (.tok 0 w.heap.size cap)) (w.drew.alloc (.cells (([]:List Value).toArray++Builtin.zeroCells z.cells (0+m - 0)++Builtin.zeroCells z.cells (cap - (0+m))) (ρ.t 25))) (.dT G.length 0 0 i0.size 0) (.slice (some ⟨w.heap.size,0,none⟩) 0 cap):=
    Rel.dT (ft cT _) ⟨Nat.le_refl _,fun _=>⟨rfl,Nat.zero_add _,.inl (Nat.zero_mul _).symm⟩⟩ (Nat.zero_le _)
   exact ⟨_,_,_,⟨rfl,rfl⟩,hv,r1.g,st⟩
 ·cases h
end
end Go.Am
