/- Plain laws that many chapters share: loops,numbers in range,divisors. -/
import Derived.Test.YtegoimldbgdeiaaAmKL
import Derived.IntWalk
import Derived.Shelf.Spec.SlicesGrow
import Derived.Shelf.Slices.Clone
set_option linter.all false
namespace Go.Am
open Go
theorem KB {x:Int} (h:-9223372036854775808≤x∧x≤9223372036854775807):IntKind.wrap .i64 x=x:=IntWalk.i64_in x (by omega)
def ey (N:Nat):Prop:=18446744073709551616≤N
theorem gQ {V X:Type} (rd:V→Option (V ⊕ X)) (n:Nat) (v:V):ar rd (n+1) v=(rd v).bind fun o=>Sum.elim (fun v'=>ar rd n v') (fun x=>some x) o:=rfl
theorem fu {α:Type} (g:α→AV) (xs:List α) (k:Nat) (h:k < xs.length):ab (xs.map g) k=g xs[k]:=by
 unfold ab;rw [aV,List.getElem?_map,List.getElem?_eq_getElem h];rfl
def low (a b:Int):Int × Int:=(a / (Int.gcd a b:Int),b / (Int.gcd a b:Int))
def foldI {S α Y:Type} (st:S→α→S ⊕ Y):S→List α→S ⊕ Y
 |s,[]=>.inl s
 |s,a :: l=>Sum.elim (fun s'=>foldI st s' l) (fun y=>.inr y) (st s a)
theorem fQ {V X S α Y:Type} {rd:V→Option (V ⊕ X)} (l:List α) (E:S→Nat→V) (st:S→α→S ⊕ Y) (fin:S→X) (ex:Y→X) (P:S→Nat→Prop)
  (h:∀ s k (hk:k < l.length),P s k→rd (E s k)=some (Sum.map (fun s'=>E s' (k+1)) ex (st s l[k]))∧∀ s',st s l[k]=.inl s'→P s' (k+1))
  (h0:∀ s,P s l.length→rd (E s l.length)=some (.inr (fin s))) :
  ∀ n s k,k≤l.length→l.length < n+k→P s k→ar rd n (E s k)=some (Sum.elim fin ex (foldI st s (l.drop k)))
 |0,s,k,hk,hn,_=>by omega
 |n+1,s,k,hk,hn,hP=>by
  rw [gQ];by_cases bO:k < l.length
  ·obtain ⟨h1,h2⟩:=h s k bO hP;rw [h1,List.drop_eq_getElem_cons bO];simp only [Option.bind_some,foldI];cases hs:st s l[k] with
   |inl s'=>
    simp only [Sum.map_inl,Sum.elim_inl];exact fQ l E st fin ex P h h0 n s' (k+1) (by omega) (by omega) (h2 s' hs)
   |inr y=>simp only [Sum.map_inr,Sum.elim_inr]
  ·have:k=l.length:=by omega
   subst this;rw [h0 s hP,List.drop_eq_nil_of_le (Nat.le_refl _)];rfl
theorem dL {V X S α:Type} {rd:V→Option (V ⊕ X)} (l:List α) (E:S→Nat→V) (f:S→α→S) (fin:S→X) (P:S→Nat→Prop)
  (h:∀ s k (hk:k < l.length),P s k→rd (E s k)=some (.inl (E (f s l[k]) (k+1)))∧P (f s l[k]) (k+1))
  (h0:∀ s,P s l.length→rd (E s l.length)=some (.inr (fin s))) :
  ∀ n s k,k≤l.length→l.length < n+k→P s k→ar rd n (E s k)=some (fin ((l.drop k).foldl f s))
 |0,s,k,hk,hn,_=>by omega
 |n+1,s,k,hk,hn,hP=>by
  rw [gQ];by_cases bO:k < l.length
  ·obtain ⟨h1,h2⟩:=h s k bO hP;rw [h1,List.drop_eq_getElem_cons bO];simp only [Option.bind_some,Sum.elim_inl,List.foldl_cons];exact dL l E f fin P h h0 n _ (k+1) (by omega) (by omega) h2
  ·have:k=l.length:=by omega
   subst this;rw [h0 s hP,List.drop_eq_nil_of_le (Nat.le_refl _)];rfl
theorem aU {V X:Type} {rd:V→Option (V ⊕ X)} (m:Nat) (E:Nat→V) (x:X) (h:∀ k,k < m→rd (E k)=some (.inl (E (k+1)))) (h0:rd (E m)=some (.inr x)) :
  ∀ n k,k≤m→m < n+k→ar rd n (E k)=some x
 |0,k,hk,hn=>by omega
 |n+1,k,hk,hn=>by
  rw [gQ];by_cases bO:k < m
  ·rw [h k bO];simp only [Option.bind_some,Sum.elim_inl];exact aU m E x h h0 n (k+1) (by omega) (by omega)
  ·have:k=m:=by omega
   subst this;rw [h0];rfl
theorem ah {k n:Nat} (h:k < n):decide (0≤(k:Int)∧(k:Int) < (n:Int))=true:=by simp; omega
theorem ap {k n:Nat} (h:k < n):decide ((k:Int) < (n:Int))=true:=by simpa using h
theorem aJ (n:Nat):decide ((n:Int) < (n:Int))=false:=by simp
theorem aR {k:Nat} (h:k < 9223372036854775807):IntKind.wrap .i64 ((k:Int)+1)=((k+1:Nat):Int):=by rw [KB (by omega)]; simp
def NG (n lo hi:Int):Int:=if n < lo∨n > hi then 3 else 0
def bq:List Int→Int
 |[]=>0
 |x :: l=>if x=0 then bq l else x
theorem C2 {l:List Int}:bq l=0↔∀ x∈l,x=0:=by
 induction l with
 |nil=>simp [bq]
 |cons x l ih=>
  simp only [bq,List.mem_cons,forall_eq_or_imp];by_cases h:x=0
  ·simp [h,ih]
  ·simp [h]
theorem zD {rd:Int→Option (Int ⊕ (Int ⊕ Unit))} (l:List Int)
  (h:∀ k (hk:k < l.length),rd (k:Int)=some (if l[k]=0 then .inl ((k+1:Nat):Int) else .inr (.inl l[k]))) (h0:rd (l.length:Int)=some (.inr (.inr ()))) (n:Nat) (hn:l.length < n) :
  ∃ o,ar rd n 0=some o∧Sum.elim (fun x=>x) (fun _=>0) o=bq l:=by
 have key:=fQ (rd:=rd) (S:=Unit) (Y:=Int) l (fun _ k=>(k:Int)) (fun _ x=>if x=0 then .inl () else .inr x) (fun _=>.inr ()) (fun x=>.inl x) (fun _ _=>True)
  (fun s k hk _=>⟨by rw [h k hk]; by_cases e:l[k]=0 <;> simp [e],fun _ _=>trivial⟩) (fun _ _=>h0) n () 0 (Nat.zero_le _) (by omega) trivial
 refine ⟨_,key,?_⟩;rw [List.drop_zero];clear key h h0 hn
 induction l with
 |nil=>rfl
 |cons x l ih=>
  simp only [foldI,bq];by_cases e:x=0
  ·simp only [e,if_true,Sum.elim_inl]; exact ih
  ·simp [e]
theorem fG {rd:Int→Option (Int ⊕ (Int ⊕ Unit))} (l:List Int)
  (h:∀ k (hk:k < l.length),rd (k:Int)=some (if l[k]=0 then .inl ((k+1:Nat):Int) else .inr (.inl l[k]))) (h0:rd (l.length:Int)=some (.inr (.inr ()))) (n:Nat) (hn:l.length < n) :
  ar rd n 0=some (if bq l=0 then .inr () else .inl (bq l)):=by
 have key:=fQ (rd:=rd) (S:=Unit) (Y:=Int) l (fun _ k=>(k:Int)) (fun _ x=>if x=0 then .inl () else .inr x) (fun _=>.inr ()) (fun x=>.inl x) (fun _ _=>True)
  (fun s k hk _=>⟨by rw [h k hk]; by_cases e:l[k]=0 <;> simp [e],fun _ _=>trivial⟩) (fun _ _=>h0) n () 0 (Nat.zero_le _) (by omega) trivial
 rw [List.drop_zero] at key;refine key.trans (congrArg some ?_);clear key h h0 hn
 induction l with
 |nil=>rfl
 |cons x l ih=>
  simp only [foldI,bq];by_cases e:x=0
  ·simp only [e,if_true,Sum.elim_inl]; exact ih
  ·simp [e]
theorem OP (s:List UInt8) (k:Nat) (hk:k < s.length):((s[k].toNat < 128)→cq s k=(s[k].toNat,1))∧(128≤s[k].toNat→128≤(cq s k).1):=by
 have e1:s.getD k 0=s[k]:=by simp [hk]
 constructor
 ·intro h;have:Nat.blt s[k].toNat 128=true:=Nat.ble_eq_true_of_le h;unfold cq;rw [e1,this];rfl
 ·intro h;have:Nat.blt s[k].toNat 128=false:=by
   cases hb:Nat.blt s[k].toNat 128 with
   |false=>rfl
   |true=>have:=Nat.le_of_ble_eq_true hb; omega
  unfold cq;rw [e1,this];simp only [cond_false];have e2:((⟨⟨s⟩⟩:ByteArray).get! (k+0)).toNat=s[k].toNat:=by
   simp [ByteArray.get!,hk]
  unfold Utf8.decode;simp only [e2,if_neg (by omega:¬ s[k].toNat < 128)];have hr:(128:Nat)≤Utf8.runeError:=by decide
  repeat' split
  all_goals first | exact hr | skip
  all_goals simp_all
  all_goals omega
theorem abw {x:Int} (h:x≠0):(x == 0)=false:=by simpa using h
theorem JO {x:Int} (h:x≠0):(x != 0)=true:=by simpa using h
end Go.Am
namespace Go.Am
open Go
section
variable {κ ν:Type} [DecidableEq κ]
def getM (k:κ):List (κ × ν)→Option ν
 |[]=>none
 |(k',v) :: m=>if k=k' then some v else getM k m
def gR (k:κ) (v:ν):List (κ × ν)→List (κ × ν)
 |[]=>[(k,v)]
 |(k',v') :: m=>if k=k' then (k,v) :: m else (k',v') :: gR k v m
theorem ED {k:κ} {v:ν}:∀ {m:List (κ × ν)},getM k m=none→gR k v m=m++[(k,v)]
 |[],_=>rfl
 |(k1,v1) :: m,h=>by
  unfold getM at h;split at h
  ·cases h
  ·rename_i cz;unfold gR;rw [if_neg cz,ED h];rfl
theorem vu {k:κ} {v:ν}:∀ {m:List (κ × ν)},(gR k v m).map Prod.fst=if k∈m.map Prod.fst then m.map Prod.fst else m.map Prod.fst++[k]
 |[]=>by simp [gR]
 |(k1,v1) :: m=>by
  unfold gR;by_cases h:k=k1
  ·simp [h]
  ·rw [if_neg h,List.map_cons,vu (m:=m)];by_cases h2:k∈m.map Prod.fst
   ·have:k∈((k1,v1) :: m).map Prod.fst:=by simp only [List.map_cons,List.mem_cons]; exact .inr h2
    rw [if_pos h2,if_pos this];rfl
   ·have:¬ k∈((k1,v1) :: m).map Prod.fst:=by
     simp only [List.map_cons,List.mem_cons,not_or]; exact ⟨h,h2⟩
    rw [if_neg h2,if_neg this];rfl
theorem JP (k:κ) (l:List κ):getM k (l.map fun x=>(x,true))=if k∈l then some true else none:=by
 induction l with
 |nil=>rfl
 |cons a l ih=>
  simp only [List.map_cons,getM,ih,List.mem_cons];by_cases h:k=a
  ·simp [h]
  ·simp [h]
structure iq (ek:EK) (nk:κ→AV) (nv:ν→AV) (nM:κ × ν→AV):Prop where
 key:∀ a b,E3 ek (nk a) (nk b)=some (decide (a=b))
 pair:∀ x,nM x=.agg [nk x.1,nv x.2]
 exact:∀ x,(nM x).exact=true
variable {ek:EK} {nk:κ→AV} {nv:ν→AV} {nM:κ × ν→AV} (h:iq ek nk nv nM)
include h
theorem iq.Wr:∀ m:List (κ × ν),aC (List.map nM m)=m.map fun x=>(nk x.1,nv x.2)
 |[]=>rfl
 |x :: m=>by
  rw [List.map_cons,h.pair,aC,iq.Wr m];rfl
theorem iq.keys (k:κ):∀ m:List (κ × ν),cK ek (nk k) (aC (List.map nM m))=true
 |[]=>rfl
 |x :: m=>by
  have:=iq.keys k m;rw [List.map_cons,h.pair,aC];show ((E3 ek (nk k) (nk x.1)).isSome&&cK ek (nk k) (aC (List.map nM m)))=true;rw [this,h.key];rfl
theorem iq.get (k:κ):∀ m:List (κ × ν),e8 ek (nk k) (aC (List.map nM m))=(getM k m).map nv
 |[]=>rfl
 |x :: m=>by
  have ih:=iq.get k m;rw [List.map_cons,h.pair,aC];show (bif Ak ek (nk k) (nk x.1) then some (nv x.2) else e8 ek (nk k) (aC (List.map nM m)))=(if k=x.1 then some x.2 else getM k m).map nv;unfold Ak;rw [h.key,ih];by_cases e:k=x.1
  ·simp [e]
  ·simp [e]
theorem iq.getD (k:κ) (z:ν) (m:List (κ × ν)):aP ek (nk k) (nv z) (aC (List.map nM m))=nv ((getM k m).getD z):=by
 unfold aP;rw [h.get];cases getM k m <;> rfl
theorem iq.put (k:κ) (v:ν):∀ m:List (κ × ν),cL ek (nk k) (nv v) (aC (List.map nM m))=aC (List.map nM (gR k v m))
 |[]=>by
  show [(nk k,nv v)]=aC [nM (k,v)];rw [h.pair];rfl
 |x :: m=>by
  have ih:=iq.put k v m;rw [List.map_cons,h.pair,aC];show (bif Ak ek (nk k) (nk x.1) then (nk k,nv v) :: aC (List.map nM m) else (nk x.1,nv x.2) :: cL ek (nk k) (nv v) (aC (List.map nM m)))=aC (List.map nM (if k=x.1 then (k,v) :: m else (x.1,x.2) :: gR k v m));unfold Ak;rw [h.key,ih];by_cases e:k=x.1
  ·simp only [e,decide_true,cond_true,if_true,List.map_cons];rw [h.pair (x.1,v),aC];rfl
  ·simp only [e,decide_false,cond_false,if_false,List.map_cons];rw [h.pair (x.1,x.2),aC];rfl
theorem iq.cells:∀ m:List (κ × ν),af (aC (List.map nM m))=List.map nM m
 |[]=>rfl
 |x :: m=>by
  have ih:=iq.cells m;rw [List.map_cons,h.pair,aC];show AV.agg [nk x.1,nv x.2] :: af (aC (List.map nM m))=_;rw [ih]
theorem iq.jd (m:List (κ × ν)):Go.Am.jd (aC (List.map nM m))=true:=by
 unfold Go.Am.jd;rw [h.cells]
 induction m with
 |nil=>rfl
 |cons x m ih=>rw [List.map_cons,gP,ih,h.exact]; rfl
end
theorem Ig (k:IntKind) (a b:Int):E3 .int (.int k a) (.int k b)=some (decide (a=b)):=by
 unfold E3;simp only [mB,if_true];by_cases h:a=b
 ·subst h; simp [EK.wide]
 ·have:(a == b)=false:=by simpa using h
  rw [this]; simp [h]
theorem Pp (a b:Int × Int):E3 (.st (.cons 0 1 false .int (.cons 1 1 false .int .nil))) (.agg [.int .i64 a.1,.int .i64 a.2]) (.agg [.int .i64 b.1,.int .i64 b.2])=some (decide (a=b)):=by
 obtain ⟨a1,a2⟩:=a;obtain ⟨b1,b2⟩:=b;have e:mB (.st (.cons 0 1 false .int (.cons 1 1 false .int .nil))) (.agg [.int .i64 a1,.int .i64 a2]) (.agg [.int .i64 b1,.int .i64 b2])=some ((a1 == b1)&&((a2 == b2)&&true)):=rfl;unfold E3;rw [e];by_cases h1:a1=b1 <;> by_cases h2:a2=b2
 ·subst h1; subst h2;simp [EK.wide,oB,pM,sW]
 all_goals simp [h1,h2]
end Go.Am
namespace Go.Am
open Go
theorem mh {V X:Type} (rd:(V→Option X)→V→Option X) (n:Nat) (v:V):dC rd (n+1) v=rd (dC rd n) v:=rfl
def iF (L:List Nat):List Int:=L.map fun n:Nat=>(n:Int)
theorem EE {α:Type} (f:α→AV × AV) (m:List α) {i:Nat} (h:i < m.length):bY (m.map f) i=f m[i]:=by
 unfold bY;rw [aV,List.getElem?_map,List.getElem?_eq_getElem h];rfl
end Go.Am
namespace Go.Am
open Go Go.RowKit Go.Proofs Go.Shelf Go.Lib
def Iu (sz oI:Nat) (el:TypeId):List AV→List GO→Option (Bool × AV × List GO)
 |[.list .nil _ [],.int .i64 n],G=>some (decide (0≤n∧n * (oI:Int)≤140737488355328∧n≤4611686018427387904),.cZ G.length 0 0 sz 0,G++[.bo [] sz el])
 |_,_=>none
section
variable {E:Env} {ρ:Ren}
theorem EM (L:Lays8.n4 E.P ρ) (hp:Plain E.P (ρ.f 4)) (i0:TypeInfo) (z:Value) (hi0:E.P.info? (ρ.t 25)=some i0) (hz0:i0.zero=some z) (Zy:0 < i0.size) (hzs:z.cells.size=i0.size) :
  ∀ (args:List AV) (G:List GO) (r:AV) (G':List GO),Iu i0.size i0.bytes (ρ.t 25) args G=some (true,r,G')→cR E (ρ.f 4) args G (fun r' HX=>r'=r∧HX=G'):=by
 intro args G r G' h;unfold Iu at h;split at h
 ·rename_i G1 sz0 n;injection h with h;injection h with h1 h;injection h with h2 h3;subst h2; subst h3;have h1:=of_decide_eq_true h1;obtain ⟨Be,Ol,ahm⟩:=h1;refine ⟨hp,fun R w cs hg hl=>callsIn_wide.2 ?_⟩;cases hl with
  | @cons _ cv _ _ r1 hl=>
  cases hl with
  | @cons _ nv _ _ r2 hl=>
  cases hl;cases r2;have RN:∃ c0,cv=.slice none 0 c0∧c0=0:=by
   cases r1 with
   |jD=>exact ⟨_,rfl,rfl⟩
   |list _ _ _ hk=>exact hk.elim
  obtain ⟨c0,rfl,rfl⟩:=RN;obtain ⟨m,rfl⟩:∃ m:Nat,n=(m:Int):=⟨n.toNat,by omega⟩;have ca:aX E R w (fun _=>0) ⟨[],[],G,[],none,0⟩ (⟨#[],[]⟩:Act):=
   ⟨hg,⟨fun k cs h=>by simp [di] at h,fun k k' cs eP h=>by simp [di] at h⟩,fun i hi=>absurd rfl hi,rfl,trivial⟩
  by_cases hm:m=0
  ·subst hm;refine (Any8.slices_Grow_room (P:=E.P) (ρ:=ρ) L none 0 0 0 w (Nat.le_refl _) (by omega) (by omega) (by omega)).mono fun e w' ⟨e1,e2⟩=>?_
   have e2:=e2.symm;subst e1; subst e2;obtain ⟨k1,k2⟩:=ca.Br (i0.size+65536) (ρ.t 25);have hn:nth (gJ R).obj G.length=some .bz:=by rw [← hg.len]; exact cI _ _
   have ev:Sj G.length (i0.size+65536)=.cZ G.length 0 0 i0.size 0:=by
    unfold Sj;rw [Nat.ble_eq_true_of_le (Nat.le_add_left _ _),Nat.add_sub_cancel];rfl
   have eo:Ky (i0.size+65536) (ρ.t 25)=.bo [] i0.size (ρ.t 25):=by
    unfold Ky;rw [Nat.ble_eq_true_of_le (Nat.le_add_left _ _),Nat.add_sub_cancel];rfl
   have hv:Rel (gJ R) w (.cZ G.length 0 0 i0.size 0) (.slice none 0 0):=by
    rw [← ev]; exact HK hn
   have hk1:=k1.g;have eG:((⟨[],[],G,[],none,0⟩:St).dW (Ky (i0.size+65536) (ρ.t 25))).G=G++[.bo [] i0.size (ρ.t 25)]:=by
    show G++[Ky (i0.size+65536) (ρ.t 25)]=_;rw [eo]
   rw [eG] at hk1;exact ⟨_,_,gJ R,⟨rfl,rfl⟩,hv,hk1,k2⟩
  ·have UB:(0+m) * i0.bytes≤140737488355328:=by
    rw [Nat.zero_add];have:((m * i0.bytes:Nat):Int)≤140737488355328:=by rw [Int.natCast_mul]; exact Ol
    omega
   have key:=Any8.slices_Grow_grow (P:=E.P) (ρ:=ρ) L i0 z hi0 hz0 Zy none 0 0 m [] w (Nat.le_refl _) (by omega) UB (by omega) (by simp) (fun _=>rfl) (fun a h=>by cases h);refine key.mono fun e w' ⟨e1,e2⟩=>?_
   have A9:=grownCap_ge w (0+m) 0 (ρ.t 25);have hcm:=grownCap_le_maxLen w (0+m) 0 (ρ.t 25) (by unfold maxLen; omega);generalize grownCap w (0+m) 0 (ρ.t 25)=cap at *;subst e1; subst e2;obtain ⟨d1,d2⟩:=ca.drew;have fb:(([]:List Value).toArray++Builtin.zeroCells z.cells (0+m - 0)++Builtin.zeroCells z.cells (cap - (0+m))).size=cap * i0.size:=by
    simp only [Array.size_append,List.size_toArray,size_zeroCells,hzs,List.length_nil,Nat.zero_add,Nat.sub_zero,← Nat.add_mul];congr 1;omega
   have r1:=d1.FO (cur:=([]:List Value).toArray++Builtin.zeroCells z.cells (0+m - 0)++Builtin.zeroCells z.cells (cap - (0+m))) (vs:=[]) (es:=[]) (elem:=ρ.t 25) (sz:=i0.size) (cap:=cap) (Nat.zero_le _) hcm fb (fun e he=>by cases he) .nil (fun v hv=>by cases hv) (by simp);have st:=d2.trans (cQ d1 (.cells (([]:List Value).toArray++Builtin.zeroCells z.cells (0+m - 0)++Builtin.zeroCells z.cells (cap - (0+m))) (ρ.t 25)) (.tok 0 w.drew.heap.size cap 0) (by exact fun _ h=>h));have hv:Rel (R.add (.tok 0 w.heap.size cap 0)) (w.drew.alloc (.cells (([]:List Value).toArray++Builtin.zeroCells z.cells (0+m - 0)++Builtin.zeroCells z.cells (cap - (0+m))) (ρ.t 25))) (.cZ G.length 0 0 i0.size 0) (.slice (some ⟨w.heap.size,0,none⟩) 0 cap):=
    Rel.cZ (gr ca _) ⟨Nat.le_refl _,fun _=>⟨rfl,Nat.zero_add _,.inl (Nat.zero_mul _).symm⟩⟩ (Nat.zero_le _)
   exact ⟨_,_,_,⟨rfl,rfl⟩,hv,r1.g,st⟩
 ·cases h
end
end Go.Am
namespace Go.Am
open Go Go.RowKit Go.Proofs Go.Shelf Go.Lib
def Db (el:TypeId):List AV→List GO→Option (Bool × AV × List GO)
 |[.list _ sz es],G=>some ((Nat.beq sz 1 || es.isEmpty)&&(allFit (aM.fits (.int .i64)) es&&decide (es.length * 8≤140737488355328)),.cZ G.length es.length 0 1 es.length,G++[.bo es 1 el])
 |_,_=>none
theorem UD {a b:IntKind} (h:RB a b=true):b=a:=by cases a <;> cases b <;> first | rfl | cases h
theorem zV:∀ {es:List AV},allFit (aM.fits (.int .i64)) es=true→aw es=es∧es=es.map fun e=>.int .i64 e.ox
 |[],_=>⟨rfl,rfl⟩
 |e :: es,h=>by
  simp only [allFit,Bool.and_eq_true] at h;obtain ⟨h1,h2⟩:=h;obtain ⟨k1,k2⟩:=zV h2;cases e <;> first | (simp [aM.fits] at h1; done) | skip
  rename_i k n;have hk:k=.i64:=UD h1;subst hk;exact ⟨by simp only [aw,AV.cells,k1,List.cons_append,List.nil_append],by rw [List.map_cons,← k2]; rfl⟩
theorem BV {R:ai} {w:World}:∀ {zs:List Int} {vs:List Value},aL R w (zs.map fun z=>AV.int .i64 z) vs→vs=zs.map (Value.int .i64)
 |[],_,h=>by cases h; rfl
 |z :: zs,vs,h=>by
  cases h with
  | @cons _ c _ cs h1 h2=>
   cases h1;rw [BV h2]; rfl
theorem EN {R:ai} {w:World}:∀ zs:List Int,aL R w (zs.map fun z=>AV.int .i64 z) (zs.map (Value.int .i64))
 |[]=>.nil
 |z :: zs=>.cons (.int .i64 z) (EN zs)
section
variable {E:Env} {R:ai} {w w':World}
theorem JZ {G:List GO} (hg:fj E R w G) (hE:E.lo=0) (hb:Below w.heap.size w w') {g cap sz:Nat} {es:List AV} {el:TypeId} {cur:Array Value} {vs:List Value} (NE:w.heap.size≤g) (hc:w'.heap[g]?=some (.cells cur el (0,0)))
  (hn:es.length≤cap) (hm:cap≤maxLen) (hs:cur.size=cap * sz) (nJ:dw sz es) (hr:aL R w (aw es) vs) (h1:∀ v∈vs,v.oneCell'=true) (ht:cur.toList.take (es.length * sz)=vs) :
  fj E (R.add (.tok es.length g cap 0)) w' (G++[.bo es sz el])∧Step R w (fun _=>0) ig (R.add (.tok es.length g cap 0)) w' (fun _=>0) ig:=by
 have e:Ext R w (R.add (.tok es.length g cap 0)) w':=
  ⟨fun _ _ h=>h,fun b o hi=>bP (hb.block b (hg.wf b o hi)) o,fun _ r h=>⟨r,bA h,cp.refl r⟩,.old fun b kM=>hb.block b kM⟩
 have bO:∀ {i r b},nth R.obj i=some r→r.has b→b < w.heap.size:=fun h1 h2=>hg.bS ⟨_,_,h1,h2⟩
 refine ⟨⟨by simp [ai.add,hg.len],fun i gg r q1 q2=>?_,fun i j ri rj b q1 q2 b1 b2=>?_,fun b o hi=>Nat.lt_of_lt_of_le (hg.wf b o hi) hb.size,fun g cs hq=>(hg.dV g cs hq).mono e,by rw [hE]; exact Nat.zero_le _⟩,?_⟩
 ·rcases aj q2 with q2|⟨q3,rfl⟩
  ·rcases aj q1 with q1|⟨q4,_⟩
   ·exact (hg.obj i gg r q1 q2).mono e (fun b kM=>hb.block b (bO q2 kM)) (fun _ _ _ hi=>hi)
   ·have:=bi q2;rw [hg.len] at this;omega
  ·rcases aj q1 with q1|⟨q4,rfl⟩
   ·have:=bi q1;rw [q3,hg.len] at this;omega
   ·exact ⟨rfl,rfl,nJ,cur,vs,hc,hn,hm,hs,fun o hi=>by have:=hg.wf _ _ hi; omega,hr.mono e,h1,ht⟩
 ·rcases aj q1 with g1|⟨g3,rfl⟩
  ·rcases aj q2 with g2|⟨g4,rfl⟩
   ·exact hg.inj i j ri rj b g1 g2 b1 b2
   ·have:=bO g1 b1;simp [RO.has] at b2;omega
  ·rcases aj q2 with g2|⟨g4,rfl⟩
   ·have:=bO g2 b2;simp [RO.has] at b1;omega
   ·omega
 ·refine ⟨e,hb.os,hb.tape,hb.output,hb.size,fun b kM _=>hb.block b kM,fun b kM ho=>?_,fun _ _ hi _ _=>hi⟩;rcases ho with ⟨i,r,l1,l2⟩|⟨k,cs,hk,_⟩
  ·rcases aj l1 with l1|⟨_,rfl⟩
   ·exact .inl ⟨i,r,l1,l2⟩
   ·simp [RO.has] at l2;omega
  ·simp [ig,di] at hk
variable {ρ:Ren}
theorem J0 (L:Lays2.n15 E.P ρ) (hp:Plain E.P (ρ.f 15)) (hE:E.lo=0) :
  ∀ (args:List AV) (G:List GO) (r:AV) (G':List GO),Db (ρ.t 3) args G=some (true,r,G')→cR E (ρ.f 15) args G (fun r' HX=>r'=r∧HX=G'):=by
 intro args G r G' h;unfold Db at h;split at h
 ·rename_i G1 k sz es;injection h with h;injection h with h1 h;injection h with h2 h3;subst h2; subst h3;simp only [Bool.and_eq_true,decide_eq_true_eq] at h1;obtain ⟨fb,pE,aci⟩:=h1;obtain ⟨ic1,ic2⟩:=zV pE;have acj:dw 1 es:=fun e he=>by
   rw [ic2] at he;obtain ⟨x,_,rfl⟩:=List.mem_map.1 he;exact ⟨rfl,rfl⟩
  refine ⟨hp,fun R w cs hg hl=>callsIn_wide.2 ?_⟩;cases hl with
  | @cons _ cv _ _ r1 hl=>
  cases hl
  -- nil
  have Iv:es=[]→cv=.slice none 0 0→Calls E.P (ρ.f 15) ⟨[cv]⟩ w (Bt E R w fun r' HX=>r'=.cZ G.length es.length 0 1 es.length∧HX=G++[.bo es 1 (ρ.t 3)]):=fun he hc=>by
   subst he; subst hc;have ca:aX E R w (fun _=>0) ⟨[],[],G,[],none,0⟩ (⟨#[],[]⟩:Act):=
    ⟨hg,⟨fun k cs h=>by simp [di] at h,fun k k' cs eP h=>by simp [di] at h⟩,fun i hi=>absurd rfl hi,rfl,trivial⟩
   refine (Any.slices_Clone_int_nil L 0 0 w).mono fun e w' ⟨e1,e2⟩=>?_
   subst e1; subst e2;obtain ⟨k1,k2⟩:=ca.Br (1+65536) (ρ.t 3);have hn:nth (gJ R).obj G.length=some .bz:=by rw [← hg.len]; exact cI _ _
   exact ⟨_,_,gJ R,⟨rfl,rfl⟩,Rel.jE hn trivial,k1.g,k2⟩
  -- a row of its own
  have ML:∀ {v':Value} {w':World} {zs:List Int},es=zs.map (fun z=>AV.int .i64 z)→w'.ownsRow w.heap.size (ρ.t 3) 1 v' es.length (zs.map (Value.int .i64))→v'≠.slice none 0 0→Below w.heap.size w w' →
    Bt E R w (fun r' HX=>r'=.cZ G.length es.length 0 1 es.length∧HX=G++[.bo es 1 (ρ.t 3)]) (.returned v') w':=fun {v' w' zs} Di uT cz hbl=>by
   obtain ⟨_,uT⟩:=uT;rcases uT with ⟨rfl,_⟩|⟨g,cap,cur,rfl,NE,hc,hn,hm,hs,ht⟩
   ·exact absurd rfl cz
   ·have dm:aL R w (aw es) (zs.map (Value.int .i64)):=by
     rw [ic1,Di];exact EN zs
    obtain ⟨r1,r2⟩:=JZ hg hE hbl NE hc hn hm hs acj dm (fun v hv=>by obtain ⟨x,_,rfl⟩:=List.mem_map.1 hv; rfl) ht;have CL:nth (R.add (.tok es.length g cap 0)).obj G.length=some (.tok es.length g cap 0):=by rw [← hg.len]; exact cI _ _
    refine ⟨_,_,_,⟨rfl,rfl⟩,Rel.cZ CL ⟨Nat.le_refl _,fun _=>⟨rfl,Nat.zero_add _,.inl (Nat.zero_mul _).symm⟩⟩ hn,r1,r2⟩
  cases r1 with
  |jD=>exact Iv rfl rfl
  |jl=>exact Iv rfl rfl
  |kL _ _=>exact Iv rfl rfl
  |mD _ _=>exact Iv rfl rfl
  | @nj _ ad=>
   exact (Any.slices_Clone_int_zero L ad 0 w).mono fun e w' ⟨v',e1,e2,e3,e4⟩=>by subst e1; exact ML (zs:=[]) rfl e2 e3 e4
  | @list _ _ _ b o len cap hr hlen gC hk=>
   subst hlen;by_cases cz:es=[]
   ·subst cz;exact (Any.slices_Clone_int_zero L ⟨b,o,none⟩ cap w).mono fun e w' ⟨v',e1,e2,e3,e4⟩=>by subst e1; exact ML (zs:=[]) rfl e2 e3 e4
   ·have ack:sz=1:=by
     simp only [Bool.or_eq_true] at fb;rcases fb with q|q
     ·exact Nat.eq_of_beq_eq_true q
     ·simp at q; exact absurd q cz
    subst ack;obtain ⟨x0,xs,x1,x2,x3,x4⟩:=fM (esz:=1) (Rel.list hr rfl gC hk) (.inr rfl);rcases x4 with ⟨he,_⟩|⟨b',o',F2,jW,Sd,xk,rM,_⟩
    ·exact absurd he cz
    ·cases jW;rw [ic1] at x1;have Di:es=(es.map AV.ox).map fun z=>AV.int .i64 z:=by rw [List.map_map]; exact ic2
     rw [Di] at x1;have hxs:=BV x1;have key:=Any.slices_Clone_int L b o es.length cap (es.map AV.ox) w (by rw [List.length_map]; exact Nat.le_refl _) aci (fun j hj=>by
      have:=rM j (.int .i64 ((es.map AV.ox).getD j 0)) (by rw [hxs,List.getElem?_map,List.getElem?_eq_getElem hj,List.getD_eq_getElem?_getD,List.getElem?_eq_getElem hj]; rfl);rw [cr] at this;exact this)
     refine key.mono fun e w' ⟨v',e1,e2,e3,e4⟩=>?_
     subst e1;rw [List.take_of_length_le (by rw [List.length_map]; exact Nat.le_refl _)] at e2;exact ML Di e2 e3 e4
 ·cases h
end
end Go.Am
