/- Plain laws that many chapters share: loops,numbers in range,divisors. -/
import Derived.Test.YtegoimldbgdeiaaAmKL
import Derived.IntWalk
import Derived.Shelf.Spec.SlicesGrow
import Derived.Shelf.Slices.Clone
set_option linter.all false
open Go.Builtin renaming zeroCells→aal
open Go.Value renaming int→abd
open List renaming map_cons→aae, map→aas, getElem?_eq_getElem→aat, mem_cons→aav, getElem?_map→aaM, drop_eq_getElem_cons→aaP, drop_eq_nil_of_le→aa3
open Nat renaming le_refl→aau, ble_eq_true_of_le→aay, zero_le→aaK, zero_add→aa0
open Option renaming bind_some→aaT
open Prod renaming fst→aax
open Sum renaming elim_inl→aaA
namespace Go.Am
open Go
theorem wR {x:Int} (h:-9223372036854775808≤x∧x≤9223372036854775807):IntKind.wrap .i64 x=x:=IntWalk.i64_in x (by omega)
def eZ (N:Nat):Prop:=18446744073709551616≤N
theorem oZ {V X:Type} (rd:V→Option (V ⊕ X)) (n:Nat) (v:V):aw rd (n+1) v=(rd v).bind fun o=>Sum.elim (fun v'=>aw rd n v') (fun x=>some x) o:=rfl
theorem fY {α:Type} (g:α→AV) (xs:List α) (k:Nat) (h:k < xs.length):ae (xs.map g) k=g xs[k]:=by
 unfold ae;rw [bg,aaM,aat h];rfl
def low (a b:Int):Int × Int:=(a / (Int.gcd a b:Int),b / (Int.gcd a b:Int))
def foldI {S α Y:Type} (st:S→α→S ⊕ Y):S→List α→S ⊕ Y
 |s,[]=>.inl s
 |s,a :: l=>Sum.elim (fun s'=>foldI st s' l) (fun y=>.inr y) (st s a)
theorem ki {V X S α Y:Type} {rd:V→Option (V ⊕ X)} (l:List α) (E:S→Nat→V) (st:S→α→S ⊕ Y) (fin:S→X) (ex:Y→X) (P:S→Nat→Prop)
  (h:∀ s k (hk:k < l.length),P s k→rd (E s k)=some (Sum.map (fun s'=>E s' (k+1)) ex (st s l[k]))∧∀ s',st s l[k]=.inl s'→P s' (k+1))
  (h0:∀ s,P s l.length→rd (E s l.length)=some (.inr (fin s))) :
  ∀ n s k,k≤l.length→l.length < n+k→P s k→aw rd n (E s k)=some (Sum.elim fin ex (foldI st s (l.drop k)))
 |0,s,k,hk,hn,_=>by omega
 |n+1,s,k,hk,hn,hP=>by
  rw [oZ];by_cases cI:k < l.length
  ·obtain ⟨h1,h2⟩:=h s k cI hP;rw [h1,aaP cI];simp only [aaT,foldI];cases hs:st s l[k] with
   |inl s'=>
    simp only [Sum.map_inl,aaA];exact ki l E st fin ex P h h0 n s' (k+1) (by omega) (by omega) (h2 s' hs)
   |inr y=>simp only [Sum.map_inr,Sum.elim_inr]
  ·have:k=l.length:=by omega
   subst this;rw [h0 s hP,aa3 (aau _)];rfl
theorem dQ {V X S α:Type} {rd:V→Option (V ⊕ X)} (l:List α) (E:S→Nat→V) (f:S→α→S) (fin:S→X) (P:S→Nat→Prop)
  (h:∀ s k (hk:k < l.length),P s k→rd (E s k)=some (.inl (E (f s l[k]) (k+1)))∧P (f s l[k]) (k+1))
  (h0:∀ s,P s l.length→rd (E s l.length)=some (.inr (fin s))) :
  ∀ n s k,k≤l.length→l.length < n+k→P s k→aw rd n (E s k)=some (fin ((l.drop k).foldl f s))
 |0,s,k,hk,hn,_=>by omega
 |n+1,s,k,hk,hn,hP=>by
  rw [oZ];by_cases cI:k < l.length
  ·obtain ⟨h1,h2⟩:=h s k cI hP;rw [h1,aaP cI];simp only [aaT,aaA,List.foldl_cons];exact dQ l E f fin P h h0 n _ (k+1) (by omega) (by omega) h2
  ·have:k=l.length:=by omega
   subst this;rw [h0 s hP,aa3 (aau _)];rfl
theorem aV {V X:Type} {rd:V→Option (V ⊕ X)} (m:Nat) (E:Nat→V) (x:X) (h:∀ k,k < m→rd (E k)=some (.inl (E (k+1)))) (h0:rd (E m)=some (.inr x)) :
  ∀ n k,k≤m→m < n+k→aw rd n (E k)=some x
 |0,k,hk,hn=>by omega
 |n+1,k,hk,hn=>by
  rw [oZ];by_cases cI:k < m
  ·rw [h k cI];simp only [aaT,aaA];exact aV m E x h h0 n (k+1) (by omega) (by omega)
  ·have:k=m:=by omega
   subst this;rw [h0];rfl
theorem ai {k n:Nat} (h:k < n):decide (0≤(k:Int)∧(k:Int) < (n:Int))=true:=by simp; omega
theorem ay {k n:Nat} (h:k < n):decide ((k:Int) < (n:Int))=true:=by simpa using h
theorem aS (n:Nat):decide ((n:Int) < (n:Int))=false:=by simp
theorem bc {k:Nat} (h:k < 9223372036854775807):IntKind.wrap .i64 ((k:Int)+1)=((k+1:Nat):Int):=by rw [wR (by omega)]; simp
def Qq (n lo hi:Int):Int:=if n < lo∨n > hi then 3 else 0
def bX:List Int→Int
 |[]=>0
 |x :: l=>if x=0 then bX l else x
theorem ld {l:List Int}:bX l=0↔∀ x∈l,x=0:=by
 induction l with
 |nil=>simp [bX]
 |cons x l ih=>
  simp only [bX,aav,forall_eq_or_imp];by_cases h:x=0
  ·simp [h,ih]
  ·simp [h]
theorem Dz {rd:Int→Option (Int ⊕ (Int ⊕ Unit))} (l:List Int)
  (h:∀ k (hk:k < l.length),rd (k:Int)=some (if l[k]=0 then .inl ((k+1:Nat):Int) else .inr (.inl l[k]))) (h0:rd (l.length:Int)=some (.inr (.inr ()))) (n:Nat) (hn:l.length < n) :
  ∃ o,aw rd n 0=some o∧Sum.elim (fun x=>x) (fun _=>0) o=bX l:=by
 have key:=ki (rd:=rd) (S:=Unit) (Y:=Int) l (fun _ k=>(k:Int)) (fun _ x=>if x=0 then .inl () else .inr x) (fun _=>.inr ()) (fun x=>.inl x) (fun _ _=>True)
  (fun s k hk _=>⟨by rw [h k hk]; by_cases e:l[k]=0 <;> simp [e],fun _ _=>trivial⟩) (fun _ _=>h0) n () 0 (aaK _) (by omega) trivial
 refine ⟨_,key,?_⟩;rw [List.drop_zero];clear key h h0 hn
 induction l with
 |nil=>rfl
 |cons x l ih=>
  simp only [foldI,bX];by_cases e:x=0
  ·simp only [e,if_true,aaA]; exact ih
  ·simp [e]
theorem hJ {rd:Int→Option (Int ⊕ (Int ⊕ Unit))} (l:List Int)
  (h:∀ k (hk:k < l.length),rd (k:Int)=some (if l[k]=0 then .inl ((k+1:Nat):Int) else .inr (.inl l[k]))) (h0:rd (l.length:Int)=some (.inr (.inr ()))) (n:Nat) (hn:l.length < n) :
  aw rd n 0=some (if bX l=0 then .inr () else .inl (bX l)):=by
 have key:=ki (rd:=rd) (S:=Unit) (Y:=Int) l (fun _ k=>(k:Int)) (fun _ x=>if x=0 then .inl () else .inr x) (fun _=>.inr ()) (fun x=>.inl x) (fun _ _=>True)
  (fun s k hk _=>⟨by rw [h k hk]; by_cases e:l[k]=0 <;> simp [e],fun _ _=>trivial⟩) (fun _ _=>h0) n () 0 (aaK _) (by omega) trivial
 rw [List.drop_zero] at key;refine key.trans (congrArg some ?_);clear key h h0 hn
 induction l with
 |nil=>rfl
 |cons x l ih=>
  simp only [foldI,bX];by_cases e:x=0
  ·simp only [e,if_true,aaA]; exact ih
  ·simp [e]
theorem Vf (s:List UInt8) (k:Nat) (hk:k < s.length):((s[k].toNat < 128)→dj s k=(s[k].toNat,1))∧(128≤s[k].toNat→128≤(dj s k).1):=by
 have e1:s.getD k 0=s[k]:=by simp [hk]
 constructor
 ·intro h;have:Nat.blt s[k].toNat 128=true:=aay h;unfold dj;rw [e1,this];rfl
 ·intro h;have:Nat.blt s[k].toNat 128=false:=by
   cases hb:Nat.blt s[k].toNat 128 with
   |false=>rfl
   |true=>have:=Nat.le_of_ble_eq_true hb; omega
  unfold dj;rw [e1,this];simp only [cond_false];have e2:((⟨⟨s⟩⟩:ByteArray).get! (k+0)).toNat=s[k].toNat:=by
   simp [ByteArray.get!,hk]
  unfold Utf8.decode;simp only [e2,if_neg (by omega:¬ s[k].toNat < 128)];have hr:(128:Nat)≤Utf8.runeError:=by decide
  repeat' split
  all_goals first | exact hr | skip
  all_goals simp_all
  all_goals omega
theorem aiq {x:Int} (h:x≠0):(x == 0)=false:=by simpa using h
theorem L5 {x:Int} (h:x≠0):(x != 0)=true:=by simpa using h
end Go.Am
namespace Go.Am
open Go
section
variable {κ ν:Type} [DecidableEq κ]
def getM (k:κ):List (κ × ν)→Option ν
 |[]=>none
 |(k',v) :: m=>if k=k' then some v else getM k m
def fx (k:κ) (v:ν):List (κ × ν)→List (κ × ν)
 |[]=>[(k,v)]
 |(k',v') :: m=>if k=k' then (k,v) :: m else (k',v') :: fx k v m
theorem DG (k k':κ) (v:ν):∀ m:List (κ × ν),getM k' (fx k v m)=if k'=k then some v else getM k' m
 |[]=>rfl
 |(k1,v1) :: m=>by
  unfold fx;by_cases h:k=k1
  ·subst h;rw [if_pos rfl];by_cases h2:k'=k
   ·simp [getM,h2]
   ·simp [getM,h2]
  ·rw [if_neg h];by_cases h2:k'=k1
   ·subst h2;have h3:¬ k'=k:=fun e=>h e.symm
    simp [getM,h3]
   ·simp only [getM,if_neg h2];exact DG k k' v m
theorem getM_none {k:κ}:∀ {m:List (κ × ν)},getM k m=none↔k∉m.map aax
 |[]=>by simp [getM]
 |(k1,v1) :: m=>by
  simp only [getM,aae,aav,not_or];by_cases h:k=k1
  ·simp [h]
  ·simp only [if_neg h,h,not_false_eq_true,true_and]; exact getM_none
theorem yt {k:κ} {v:ν}:∀ {m:List (κ × ν)},getM k m=none→fx k v m=m++[(k,v)]
 |[],_=>rfl
 |(k1,v1) :: m,h=>by
  unfold getM at h;split at h
  ·cases h
  ·rename_i du;unfold fx;rw [if_neg du,yt h];rfl
theorem vk {k:κ} {v:ν}:∀ {m:List (κ × ν)},(fx k v m).map aax=if k∈m.map aax then m.map aax else m.map aax++[k]
 |[]=>by simp [fx]
 |(k1,v1) :: m=>by
  unfold fx;by_cases h:k=k1
  ·simp [h]
  ·rw [if_neg h,aae,vk (m:=m)];by_cases h2:k∈m.map aax
   ·have:k∈((k1,v1) :: m).map aax:=by simp only [aae,aav]; exact .inr h2
    rw [if_pos h2,if_pos this];rfl
   ·have:¬ k∈((k1,v1) :: m).map aax:=by
     simp only [aae,aav,not_or]; exact ⟨h,h2⟩
    rw [if_neg h2,if_neg this];rfl
theorem zQ (k:κ) (l:List κ):getM k (l.map fun x=>(x,true))=if k∈l then some true else none:=by
 induction l with
 |nil=>rfl
 |cons a l ih=>
  simp only [aae,getM,ih,aav];by_cases h:k=a
  ·simp [h]
  ·simp [h]
structure jo (ek:EK) (nk:κ→AV) (nv:ν→AV) (nM:κ × ν→AV):Prop where
 key:∀ a b,Kg ek (nk a) (nk b)=some (decide (a=b))
 pair:∀ x,nM x=.agg [nk x.1,nv x.2]
 exact:∀ x,(nM x).exact=true
variable {ek:EK} {nk:κ→AV} {nv:ν→AV} {nM:κ × ν→AV} (h:jo ek nk nv nM)
include h
theorem jo.ent:∀ m:List (κ × ν),ar (aas nM m)=m.map fun x=>(nk x.1,nv x.2)
 |[]=>rfl
 |x :: m=>by
  rw [aae,h.pair,ar,jo.ent m];rfl
theorem jo.keys (k:κ):∀ m:List (κ × ν),cX ek (nk k) (ar (aas nM m))=true
 |[]=>rfl
 |x :: m=>by
  have:=jo.keys k m;rw [aae,h.pair,ar];show ((Kg ek (nk k) (nk x.1)).isSome&&cX ek (nk k) (ar (aas nM m)))=true;rw [this,h.key];rfl
theorem jo.get (k:κ):∀ m:List (κ × ν),gu ek (nk k) (ar (aas nM m))=(getM k m).map nv
 |[]=>rfl
 |x :: m=>by
  have ih:=jo.get k m;rw [aae,h.pair,ar];show (bif Bz ek (nk k) (nk x.1) then some (nv x.2) else gu ek (nk k) (ar (aas nM m)))=(if k=x.1 then some x.2 else getM k m).map nv;unfold Bz;rw [h.key,ih];by_cases e:k=x.1
  ·simp [e]
  ·simp [e]
theorem jo.getD (k:κ) (z:ν) (m:List (κ × ν)):bK ek (nk k) (nv z) (ar (aas nM m))=nv ((getM k m).getD z):=by
 unfold bK;rw [h.get];cases getM k m <;> rfl
theorem jo.put (k:κ) (v:ν):∀ m:List (κ × ν),dq ek (nk k) (nv v) (ar (aas nM m))=ar (aas nM (fx k v m))
 |[]=>by
  show [(nk k,nv v)]=ar [nM (k,v)];rw [h.pair];rfl
 |x :: m=>by
  have ih:=jo.put k v m;rw [aae,h.pair,ar];show (bif Bz ek (nk k) (nk x.1) then (nk k,nv v) :: ar (aas nM m) else (nk x.1,nv x.2) :: dq ek (nk k) (nv v) (ar (aas nM m)))=ar (aas nM (if k=x.1 then (k,v) :: m else (x.1,x.2) :: fx k v m));unfold Bz;rw [h.key,ih];by_cases e:k=x.1
  ·simp only [e,decide_true,cond_true,if_true,aae];rw [h.pair (x.1,v),ar];rfl
  ·simp only [e,decide_false,cond_false,if_false,aae];rw [h.pair (x.1,x.2),ar];rfl
theorem jo.cells:∀ m:List (κ × ν),ab (ar (aas nM m))=aas nM m
 |[]=>rfl
 |x :: m=>by
  have ih:=jo.cells m;rw [aae,h.pair,ar];show AV.agg [nk x.1,nv x.2] :: ab (ar (aas nM m))=_;rw [ih]
theorem jo.iz (m:List (κ × ν)):Go.Am.iz (ar (aas nM m))=true:=by
 unfold Go.Am.iz;rw [h.cells]
 induction m with
 |nil=>rfl
 |cons x m ih=>rw [aae,jk,ih,h.exact]; rfl
end
theorem NB (k:IntKind) (a b:Int):Kg .int (.int k a) (.int k b)=some (decide (a=b)):=by
 unfold Kg;simp only [pN,if_true];by_cases h:a=b
 ·subst h; simp [EK.wide]
 ·have:(a == b)=false:=by simpa using h
  rw [this]; simp [h]
theorem ND (a b:Int × Int):Kg (.st (.cons 0 1 false .int (.cons 1 1 false .int .nil))) (.agg [.int .i64 a.1,.int .i64 a.2]) (.agg [.int .i64 b.1,.int .i64 b.2])=some (decide (a=b)):=by
 obtain ⟨a1,a2⟩:=a;obtain ⟨b1,b2⟩:=b;have e:pN (.st (.cons 0 1 false .int (.cons 1 1 false .int .nil))) (.agg [.int .i64 a1,.int .i64 a2]) (.agg [.int .i64 b1,.int .i64 b2])=some ((a1 == b1)&&((a2 == b2)&&true)):=rfl;unfold Kg;rw [e];by_cases h1:a1=b1 <;> by_cases h2:a2=b2
 ·subst h1; subst h2;simp [EK.wide,rT,tx,xi]
 all_goals simp [h1,h2]
end Go.Am
namespace Go.Am
open Go
theorem DH (ek:EK) (k v x:AV):∀ es:List (AV × AV),ng (dq ek k v es) (kI ek k es) x=dq ek k x es
 |[]=>rfl
 |(k',v') :: l=>by
  unfold dq kI;cases h:Bz ek k k' with
  |true=>rfl
  |false=>
   simp only [cond_false,ng];rw [DH ek k v x l]
theorem Sj (ek:EK) (k v:AV):∀ es:List (AV × AV),kI ek k es < (dq ek k v es).length
 |[]=>Nat.zero_lt_one
 |(k',v') :: l=>by
  unfold dq kI;cases h:Bz ek k k' with
  |true=>exact Nat.zero_lt_succ _
  |false=>
   simp only [cond_false,List.length_cons];have:=Sj ek k v l;omega
theorem pi {V X:Type} (rd:(V→Option X)→V→Option X) (n:Nat) (v:V):eN rd (n+1) v=rd (eN rd n) v:=rfl
def jY (L:List Nat):List Int:=L.map fun n:Nat=>(n:Int)
theorem Jk {α:Type} (f:α→AV × AV) (m:List α) {i:Nat} (h:i < m.length):cR (m.map f) i=f m[i]:=by
 unfold cR;rw [bg,aaM,aat h];rfl
end Go.Am
namespace Go.Am
open Go Go.RowKit Go.Proofs Go.Shelf Go.Lib
def NS (sz r7:Nat) (el:TypeId):List AV→List GO→Option (Bool × AV × List GO)
 |[.list .nil _ [],.int .i64 n],G=>some (decide (0≤n∧n * (r7:Int)≤140737488355328∧n≤4611686018427387904),.eH G.length 0 0 sz 0,G++[.bF [] sz el])
 |_,_=>none
section
variable {E:Env} {ρ:Ren}
theorem Jy (L:Lays8.n4 E.P ρ) (hp:Plain E.P (ρ.f 4)) (i0:TypeInfo) (z:Value) (hi0:E.P.info? (ρ.t 25)=some i0) (hz0:i0.zero=some z) (hs0:0 < i0.size) (hzs:z.cells.size=i0.size) :
  ∀ (args:List AV) (G:List GO) (r:AV) (G':List GO),NS i0.size i0.bytes (ρ.t 25) args G=some (true,r,G')→dT E (ρ.f 4) args G (fun r' Nd=>r'=r∧Nd=G'):=by
 intro args G r G' h;unfold NS at h;split at h
 ·rename_i G1 sz0 n;injection h with h;injection h with h1 h;injection h with h2 h3;subst h2; subst h3;have h1:=of_decide_eq_true h1;obtain ⟨Qj,UM,aoC⟩:=h1;refine ⟨hp,fun R w cs hg hl=>callsIn_wide.2 ?_⟩;cases hl with
  | @cons _ cv _ _ r1 hl=>
  cases hl with
  | @cons _ nv _ _ r2 hl=>
  cases hl;cases r2;have YK:∃ c0,cv=.slice none 0 c0∧c0=0:=by
   cases r1 with
   |lF=>exact ⟨_,rfl,rfl⟩
   |list _ _ _ hk=>exact hk.elim
  obtain ⟨c0,rfl,rfl⟩:=YK;obtain ⟨m,rfl⟩:∃ m:Nat,n=(m:Int):=⟨n.toNat,by omega⟩;have cY:bk E R w (fun _=>0) ⟨[],[],G,[],none,0⟩ (⟨#[],[]⟩:Act):=
   ⟨hg,⟨fun k cs h=>by simp [eJ] at h,fun k k' cs gr h=>by simp [eJ] at h⟩,fun i hi=>absurd rfl hi,rfl,trivial⟩
  by_cases hm:m=0
  ·subst hm;refine (Any8.slices_Grow_room (P:=E.P) (ρ:=ρ) L none 0 0 0 w (aau _) (by omega) (by omega) (by omega)).mono fun e w' ⟨e1,e2⟩=>?_
   have e2:=e2.symm;subst e1; subst e2;obtain ⟨k1,k2⟩:=cY.Fq (i0.size+65536) (ρ.t 25);have hn:nth (jf R).obj G.length=some .bL:=by rw [← hg.len]; exact dH _ _
   have ev:Y5 G.length (i0.size+65536)=.eH G.length 0 0 i0.size 0:=by
    unfold Y5;rw [aay (Nat.le_add_left _ _),Nat.add_sub_cancel];rfl
   have eo:Qm (i0.size+65536) (ρ.t 25)=.bF [] i0.size (ρ.t 25):=by
    unfold Qm;rw [aay (Nat.le_add_left _ _),Nat.add_sub_cancel];rfl
   have hv:Rel (jf R) w (.eH G.length 0 0 i0.size 0) (.slice none 0 0):=by
    rw [← ev]; exact MZ hn
   have hk1:=k1.g;have eG:((⟨[],[],G,[],none,0⟩:St).fq (Qm (i0.size+65536) (ρ.t 25))).G=G++[.bF [] i0.size (ρ.t 25)]:=by
    show G++[Qm (i0.size+65536) (ρ.t 25)]=_;rw [eo]
   rw [eG] at hk1;exact ⟨_,_,jf R,⟨rfl,rfl⟩,hv,hk1,k2⟩
  ·have abg:(0+m) * i0.bytes≤140737488355328:=by
    rw [aa0];have:((m * i0.bytes:Nat):Int)≤140737488355328:=by rw [Int.natCast_mul]; exact UM
    omega
   have key:=Any8.slices_Grow_grow (P:=E.P) (ρ:=ρ) L i0 z hi0 hz0 hs0 none 0 0 m [] w (aau _) (by omega) abg (by omega) (by simp) (fun _=>rfl) (fun a h=>by cases h);refine key.mono fun e w' ⟨e1,e2⟩=>?_
   have Fc:=grownCap_ge w (0+m) 0 (ρ.t 25);have hcm:=grownCap_le_maxLen w (0+m) 0 (ρ.t 25) (by unfold maxLen; omega);generalize grownCap w (0+m) 0 (ρ.t 25)=cap at *;subst e1; subst e2;obtain ⟨d1,d2⟩:=cY.drew;have gX:(([]:List Value).toArray++aal z.cells (0+m - 0)++aal z.cells (cap - (0+m))).size=cap * i0.size:=by
    simp only [Array.size_append,List.size_toArray,size_zeroCells,hzs,List.length_nil,aa0,Nat.sub_zero,← Nat.add_mul];congr 1;omega
   have r1:=d1.KW (cur:=([]:List Value).toArray++aal z.cells (0+m - 0)++aal z.cells (cap - (0+m))) (vs:=[]) (es:=[]) (elem:=ρ.t 25) (sz:=i0.size) (cap:=cap) (aaK _) hcm gX (fun e he=>by cases he) .nil (fun v hv=>by cases hv) (by simp);have st:=d2.trans (dP d1 (.cells (([]:List Value).toArray++aal z.cells (0+m - 0)++aal z.cells (cap - (0+m))) (ρ.t 25)) (.tok 0 w.drew.heap.size cap 0) (by exact fun _ h=>h));have hv:Rel (R.add (.tok 0 w.heap.size cap 0)) (w.drew.alloc (.cells (([]:List Value).toArray++aal z.cells (0+m - 0)++aal z.cells (cap - (0+m))) (ρ.t 25))) (.eH G.length 0 0 i0.size 0) (.slice (some ⟨w.heap.size,0,none⟩) 0 cap):=
    Rel.eH (iW cY _) ⟨aau _,fun _=>⟨rfl,aa0 _,.inl (Nat.zero_mul _).symm⟩⟩ (aaK _)
   exact ⟨_,_,_,⟨rfl,rfl⟩,hv,r1.g,st⟩
 ·cases h
end
end Go.Am
namespace Go.Am
open Go Go.RowKit Go.Proofs Go.Shelf Go.Lib
def HC (el:TypeId):List AV→List GO→Option (Bool × AV × List GO)
 |[.list _ sz es],G=>some ((Nat.beq sz 1 || es.isEmpty)&&(allFit (aL.fits (.int .i64)) es&&decide (es.length * 8≤140737488355328)),.eH G.length es.length 0 1 es.length,G++[.bF es 1 el])
 |_,_=>none
theorem abi {a b:IntKind} (h:kEq a b=true):b=a:=by cases a <;> cases b <;> first | rfl | cases h
theorem DX:∀ {es:List AV},allFit (aL.fits (.int .i64)) es=true→aC es=es∧es=es.map fun e=>.int .i64 e.AZ
 |[],_=>⟨rfl,rfl⟩
 |e :: es,h=>by
  simp only [allFit,Bool.and_eq_true] at h;obtain ⟨h1,h2⟩:=h;obtain ⟨k1,k2⟩:=DX h2;cases e <;> first | (simp [aL.fits] at h1; done) | skip
  rename_i k n;have hk:k=.i64:=abi h1;subst hk;exact ⟨by simp only [aC,AV.cells,k1,List.cons_append,List.nil_append],by rw [aae,← k2]; rfl⟩
theorem Ga {R:aj} {w:World}:∀ {zs:List Int} {vs:List Value},aW R w (zs.map fun z=>AV.int .i64 z) vs→vs=zs.map (abd .i64)
 |[],_,h=>by cases h; rfl
 |z :: zs,vs,h=>by
  cases h with
  | @cons _ c _ cs h1 h2=>
   cases h1;rw [Ga h2]; rfl
theorem Jz {R:aj} {w:World}:∀ zs:List Int,aW R w (zs.map fun z=>AV.int .i64 z) (zs.map (abd .i64))
 |[]=>.nil
 |z :: zs=>.cons (.int .i64 z) (Jz zs)
section
variable {E:Env} {R:aj} {w w':World}
theorem PH {G:List GO} (hg:gG E R w G) (hE:E.lo=0) (hb:Below w.heap.size w w') {g cap sz:Nat} {es:List AV} {el:TypeId} {cur:Array Value} {vs:List Value} (Ua:w.heap.size≤g) (hc:w'.heap[g]?=some (.cells cur el (0,0)))
  (hn:es.length≤cap) (hm:cap≤maxLen) (hs:cur.size=cap * sz) (qQ:eW sz es) (hr:aW R w (aC es) vs) (h1:∀ v∈vs,v.oneCell'=true) (ht:cur.toList.take (es.length * sz)=vs) :
  gG E (R.add (.tok es.length g cap 0)) w' (G++[.bF es sz el])∧Step R w (fun _=>0) jG (R.add (.tok es.length g cap 0)) w' (fun _=>0) jG:=by
 have e:Ext R w (R.add (.tok es.length g cap 0)) w':=
  ⟨fun _ _ h=>h,fun b o hi=>cH (hb.block b (hg.wf b o hi)) o,fun _ r h=>⟨r,bM h,di.refl r⟩,.old fun b mX=>hb.block b mX⟩
 have cI:∀ {i r b},nth R.obj i=some r→r.has b→b < w.heap.size:=fun h1 h2=>hg.cM ⟨_,_,h1,h2⟩
 refine ⟨⟨by simp [aj.add,hg.len],fun i gg r q1 q2=>?_,fun i j ri rj b q1 q2 b1 b2=>?_,fun b o hi=>Nat.lt_of_lt_of_le (hg.wf b o hi) hb.size,fun g cs hq=>(hg.fm g cs hq).mono e,by rw [hE]; exact aaK _⟩,?_⟩
 ·rcases ak q2 with q2|⟨q3,rfl⟩
  ·rcases ak q1 with q1|⟨q4,_⟩
   ·exact (hg.obj i gg r q1 q2).mono e (fun b mX=>hb.block b (cI q2 mX)) (fun _ _ _ hi=>hi)
   ·have:=bA q2;rw [hg.len] at this;omega
  ·rcases ak q1 with q1|⟨q4,rfl⟩
   ·have:=bA q1;rw [q3,hg.len] at this;omega
   ·exact ⟨rfl,rfl,qQ,cur,vs,hc,hn,hm,hs,fun o hi=>by have:=hg.wf _ _ hi; omega,hr.mono e,h1,ht⟩
 ·rcases ak q1 with g1|⟨g3,rfl⟩
  ·rcases ak q2 with g2|⟨g4,rfl⟩
   ·exact hg.inj i j ri rj b g1 g2 b1 b2
   ·have:=cI g1 b1;simp [RO.has] at b2;omega
  ·rcases ak q2 with g2|⟨g4,rfl⟩
   ·have:=cI g2 b2;simp [RO.has] at b1;omega
   ·omega
 ·refine ⟨e,hb.os,hb.tape,hb.output,hb.size,fun b mX _=>hb.block b mX,fun b mX ho=>?_,fun _ _ hi _ _=>hi⟩;rcases ho with ⟨i,r,l1,l2⟩|⟨k,cs,hk,_⟩
  ·rcases ak l1 with l1|⟨_,rfl⟩
   ·exact .inl ⟨i,r,l1,l2⟩
   ·simp [RO.has] at l2;omega
  ·simp [jG,eJ] at hk
variable {ρ:Ren}
theorem PI (L:Lays2.n15 E.P ρ) (hp:Plain E.P (ρ.f 15)) (hE:E.lo=0) :
  ∀ (args:List AV) (G:List GO) (r:AV) (G':List GO),HC (ρ.t 3) args G=some (true,r,G')→dT E (ρ.f 15) args G (fun r' Nd=>r'=r∧Nd=G'):=by
 intro args G r G' h;unfold HC at h;split at h
 ·rename_i G1 k sz es;injection h with h;injection h with h1 h;injection h with h2 h3;subst h2; subst h3;simp only [Bool.and_eq_true,decide_eq_true_eq] at h1;obtain ⟨gX,tn,aje⟩:=h1;obtain ⟨ic1,ic2⟩:=DX tn;have ajf:eW 1 es:=fun e he=>by
   rw [ic2] at he;obtain ⟨x,_,rfl⟩:=List.mem_map.1 he;exact ⟨rfl,rfl⟩
  refine ⟨hp,fun R w cs hg hl=>callsIn_wide.2 ?_⟩;cases hl with
  | @cons _ cv _ _ r1 hl=>
  cases hl
  -- nil
  have NT:es=[]→cv=.slice none 0 0→Calls E.P (ρ.f 15) ⟨[cv]⟩ w (Ft E R w fun r' Nd=>r'=.eH G.length es.length 0 1 es.length∧Nd=G++[.bF es 1 (ρ.t 3)]):=fun he hc=>by
   subst he; subst hc;have cY:bk E R w (fun _=>0) ⟨[],[],G,[],none,0⟩ (⟨#[],[]⟩:Act):=
    ⟨hg,⟨fun k cs h=>by simp [eJ] at h,fun k k' cs gr h=>by simp [eJ] at h⟩,fun i hi=>absurd rfl hi,rfl,trivial⟩
   refine (Any.slices_Clone_int_nil L 0 0 w).mono fun e w' ⟨e1,e2⟩=>?_
   subst e1; subst e2;obtain ⟨k1,k2⟩:=cY.Fq (1+65536) (ρ.t 3);have hn:nth (jf R).obj G.length=some .bL:=by rw [← hg.len]; exact dH _ _
   exact ⟨_,_,jf R,⟨rfl,rfl⟩,Rel.nh hn trivial,k1.g,k2⟩
  -- a row of its own
  have SE:∀ {v':Value} {w':World} {zs:List Int},es=zs.map (fun z=>AV.int .i64 z)→w'.ownsRow w.heap.size (ρ.t 3) 1 v' es.length (zs.map (abd .i64))→v'≠.slice none 0 0→Below w.heap.size w w' →
    Ft E R w (fun r' Nd=>r'=.eH G.length es.length 0 1 es.length∧Nd=G++[.bF es 1 (ρ.t 3)]) (.returned v') w':=fun {v' w' zs} HR zn du hbl=>by
   obtain ⟨_,zn⟩:=zn;rcases zn with ⟨rfl,_⟩|⟨g,cap,cur,rfl,Ua,hc,hn,hm,hs,ht⟩
   ·exact absurd rfl du
   ·have fT:aW R w (aC es) (zs.map (abd .i64)):=by
     rw [ic1,HR];exact Jz zs
    obtain ⟨r1,r2⟩:=PH hg hE hbl Ua hc hn hm hs ajf fT (fun v hv=>by obtain ⟨x,_,rfl⟩:=List.mem_map.1 hv; rfl) ht;have Hd:nth (R.add (.tok es.length g cap 0)).obj G.length=some (.tok es.length g cap 0):=by rw [← hg.len]; exact dH _ _
    refine ⟨_,_,_,⟨rfl,rfl⟩,Rel.eH Hd ⟨aau _,fun _=>⟨rfl,aa0 _,.inl (Nat.zero_mul _).symm⟩⟩ hn,r1,r2⟩
  cases r1 with
  |lF=>exact NT rfl rfl
  |kS=>exact NT rfl rfl
  |nP _ _=>exact NT rfl rfl
  |pP _ _=>exact NT rfl rfl
  | @qt _ ad=>
   exact (Any.slices_Clone_int_zero L ad 0 w).mono fun e w' ⟨v',e1,e2,e3,e4⟩=>by subst e1; exact SE (zs:=[]) rfl e2 e3 e4
  | @list _ _ _ b o len cap hr hlen jy hk=>
   subst hlen;by_cases du:es=[]
   ·subst du;exact (Any.slices_Clone_int_zero L ⟨b,o,none⟩ cap w).mono fun e w' ⟨v',e1,e2,e3,e4⟩=>by subst e1; exact SE (zs:=[]) rfl e2 e3 e4
   ·have ajg:sz=1:=by
     simp only [Bool.or_eq_true] at gX;rcases gX with q|q
     ·exact Nat.eq_of_beq_eq_true q
     ·simp at q; exact absurd q du
    subst ajg;obtain ⟨x0,xs,x1,x2,x3,x4⟩:=lH (esz:=1) (Rel.list hr rfl jy hk) (.inr rfl);rcases x4 with ⟨he,_⟩|⟨b',o',aoD,mm,Y1,xk,vJ,_⟩
    ·exact absurd he du
    ·cases mm;rw [ic1] at x1;have HR:es=(es.map AV.AZ).map fun z=>AV.int .i64 z:=by rw [List.map_map]; exact ic2
     rw [HR] at x1;have hxs:=Ga x1;have key:=Any.slices_Clone_int L b o es.length cap (es.map AV.AZ) w (by rw [List.length_map]; exact aau _) aje (fun j hj=>by
      have:=vJ j (.int .i64 ((es.map AV.AZ).getD j 0)) (by rw [hxs,aaM,aat hj,List.getD_eq_getElem?_getD,aat hj]; rfl);rw [dI] at this;exact this)
     refine key.mono fun e w' ⟨v',e1,e2,e3,e4⟩=>?_
     subst e1;rw [List.take_of_length_le (by rw [List.length_map]; exact aau _)] at e2;exact SE HR e2 e3 e4
 ·cases h
end
end Go.Am
