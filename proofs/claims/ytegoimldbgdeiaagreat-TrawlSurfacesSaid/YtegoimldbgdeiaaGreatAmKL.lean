/- The abstract machine: a law's row out of what its function computes. -/
import Derived.Test.YtegoimldbgdeiaaGreatAmKK
import Derived.Below
import Derived.ChangeSame
import Derived.Carry
import Derived.RowKit
import Derived.FnData
import GoSem.ClaimJoined
import Derived.Lib.Builder
import Derived.Lib.UnsafeStr
import Derived.IntWalk
import Derived.Shelf.Spec.SlicesGrow
import Derived.Shelf.Slices.Clone
set_option linter.all false
open Go.Builtin renaming zeroCells→aah
open Go.DataW renaming TrodAll→abp
open Go.Value renaming okWide→abx, int→abA
open List renaming map_cons→aaa, map→aag, getElem?_eq_getElem→aak, mem_cons→aas, getElem?_map→abr, drop_eq_getElem_cons→abt, drop_eq_nil_of_le→abw
open Nat renaming le_refl→aaq, zero_le→aar, ble_eq_true_of_le→aaG, zero_add→abv
open Option renaming bind_some→abu
open Prod renaming fst→aaF
open Sum renaming elim_inl→aaN
namespace Go.Am
open Go Go.RowKit Go.WideShapes Go.ChangeShapes
section
variable {H:Type} {enc:TypeId × Value→H} {P:Program}
theorem MN {f:Func} {s:ChangeSpec} {apart fresh handsOn again:Bool} {W W':World} {args:Array Value} {v:Value} {ds gs:List (DataW H)} {before pa pv:List MemPlace}
  (hW:DataW.Whole enc P f.params.toList s.vars apart W args.toList ds gs before)
  (L7:∀ (b:Nat) (sp:Nat→Bool) (hd:Bool),abp enc P W' b sp hd f.resultTypes.toList (v.resultList f.resultTypes.size) (s.fn H (ds++gs)).results [])
  (wz:∀ sp:Nat→Bool,(∀ p∈before,sp p.block=true)→abp enc P W' 0 sp true f.params.toList args.toList (s.fn H (ds++gs)).args pa)
  (JL:∀ sp:Nat→Bool,(∀ p∈before,sp p.block=true)→DataW.TrodVars enc P W' sp s.vars (s.fn H (ds++gs)).vars pv)
  (QP:before=pa++pv) (hb:Below W.heap.size W W')
  (fQ:∀ (j:Nat) (t:TypeId) (r:Value),f.resultTypes[j]?=some t→(v.resultList f.resultTypes.size)[j]?=some r→abx P W' .any 0 t r) :
  s.post enc P f apart fresh handsOn again W args v W':=by
 have cE:∀ p∈before,p.block < W.heap.size:=fun p hp=>hW.lt p hp
 have hold:∀ p∈before,(fun b=>decide (b < W.heap.size)) p.block=true:=fun p hp=>by simpa using cE p hp
 refine ⟨ds,gs,before,[],pa,pv,hW,L7 _ _ _,wz _ hold,JL _ hold,World.keptBut_mono (fun p hp=>⟨hp,?_⟩) (hb.frame (·∈before)),fun _=>?_⟩
 ·rw [QP,List.mem_append] at hp;exact Or.inr hp
 ·obtain ⟨_,_,_,_,_,hz,hn⟩:=hW;refine ⟨fQ,_,_,([]++pa)++pv,⟨[]++pa,pv,trodAll_append (wz _ (fun _ _=>rfl)) (L7 _ _ _),JL _ (fun _ _=>rfl),rfl,?_,?_⟩,?_⟩
  ·intro b off hp;have E3:MemPlace.cell b off∈before:=by rw [QP]; simpa using hp
   rw [hb.frozen (cE _ E3)];exact hz b off E3
  ·intro ha;have:=hn ha;rw [QP] at this;simpa using this
  ·intro p hp _;rw [QP];simpa using hp
theorem wK (hl:laidOutB P=true) {W W':World} (hb:Below W.heap.size W W') {sp:Nat→Bool}:∀ {ts:List TypeId} {vs:List Value} {ds:List (DataW H)} {pl:List MemPlace},
  (∀ t∈ts,P.readableRec t=true∧t < P.types.size)→abp enc P W 0 (fun _=>true) true ts vs ds pl→(∀ p∈pl,p.block < W.heap.size)→(∀ p∈pl,sp p.block=true) →
  abp enc P W' 0 sp true ts vs ds pl
 |[],[],[],_,_,h,_,_=>h
 |t :: ts,v :: vs,d :: ds,pl,hr,h,cE,Fa=>by
  obtain ⟨p,q,h1,h2,rfl⟩:=h;refine ⟨p,q,?_,wK hl hb (fun t ht=>hr t (by simp [ht])) h2 (fun x hx=>cE x (by simp [hx])) (fun x hx=>Fa x (by simp [hx])),rfl⟩;exact WideElems.Trod_stays hl (hr t (by simp)).1 (hr t (by simp)).2 h1 (fun x hx=>hb.same (cE x (by simp [hx]))) (fun x hx=>Fa x (by simp [hx]))
 |[],[],_ :: _,_,_,h,_,_=>h.elim
 |[],_ :: _,_,_,_,h,_,_=>h.elim
 |_ :: _,[],_,_,_,h,_,_=>h.elim
 |_ :: _,_ :: _,[],_,_,h,_,_=>h.elim
theorem P6 {E:Env} {f:FuncId} {fn:Func} {s:ChangeSpec} {ps:List aM} {apart fresh handsOn again:Bool} {W:World} {base:Nat} {args:Array Value} {ds gs:List (DataW H)} {before:List MemPlace} {n tb:Nat}
  (ajk:∀ x,(pw ps).wf x→bY E f ((pw ps).enc x) (fun r=>r=.bool true)) (afl:JJ E.P n fn.params.toList=some ps)
  (VN:∀ (j:Nat) t v,fn.params[j]?=some t→args[j]?=some v→abx E.P W .any base t v)
  (hW:DataW.Whole enc E.P fn.params.toList s.vars apart W args.toList ds gs before) (afm:∀ g cs,E.ft g=some cs→ik (xq W) W g 0 cs)
  (JL:s.vars=[]) (Fa:∀ ds:List (DataW H),ds.length=fn.params.toList.length→s.fn H ds={ results:=[.lit (.bool true)],args:=ds })
  (L7:fn.resultTypes=#[tb]) (hub:E.P.underlying tb=some .bool) (hl:laidOutB E.P=true) (hr:∀ t∈fn.params.toList,E.P.readableRec t=true∧t < E.P.types.size) (BK:E.lo=0:=by rfl) (hgx:∀ g cs,E.ft g=some cs→E.gx g=true→g < W.heap.size∧W.cell? ⟨g,cs.length,none⟩=none:=by intro _ _ _ h; exact Bool.noConfusion (show false=true from h)) :
  Calls E.P f args W fun e W'=>∃ v,e=.returned v∧s.post enc E.P fn apart fresh handsOn again W args v W':=by
 have hW0:=hW;obtain ⟨p,q,hA,hV,rfl,hfz,hnd⟩:=hW;obtain ⟨rfl,rfl⟩:gs=[]∧q=[]:=by
  rw [JL] at hV;cases gs with
  |nil=>exact ⟨rfl,hV⟩
  |cons g r=>exact absurd hV (by intro h; cases h)
 obtain ⟨x,hx,hwf⟩:=JK (fun _=>rfl) (n:=n) afl hA (r:=.any) (base':=base) (fun j t v hj hv=>VN j t v (by simpa using hj) (by simpa using hv));have hlen:ds.length=fn.params.toList.length:=by
  clear VN hfz hnd hW0 hx hwf Fa afl hr;revert hA;generalize fn.params.toList=ts;generalize args.toList=vs;generalize p=pl;clear p;intro hA
  induction ts generalizing vs ds pl with
  |nil=>cases vs <;> cases ds <;> first | rfl | exact hA.elim
  |cons t ts ih=>
   cases vs with
   |nil=>cases ds <;> exact hA.elim
   |cons v vs=>
    cases ds with
    |nil=>exact hA.elim
    |cons d ds=>
     obtain ⟨p,q,_,h2,_⟩:=hA;simp [ih vs q h2]
 have hG:il E (xq W) W []:=⟨rfl,fun id go ro h=>by simp [nth] at h,fun i j ri rj b h=>by simp [xq,nth] at h,fun b o h=>h,fun g cs hg=>⟨afm g cs hg,fun hx=>hgx g cs hg hx⟩,by rw [BK]; exact aar _⟩;have hc:=(ajk x hwf []);refine (callsIn_wide.1 (hc.2 (xq W) W args.toList hG hx)).mono fun e W' he=>?_
 cases e with
 |panicked c=>exact he.elim
 |outgrown=>exact he.elim
 |returned c=>
  obtain ⟨r,G',R',⟨_,rfl⟩,gO,_,st⟩:=he;cases gO;have hb:Below W.heap.size W W':=⟨st.os,st.tape,st.output,st.size,fun k hk=>st.bD k hk fun ho=>by
   obtain ⟨id,ro,h1,_⟩:=jk ho;simp [xq,nth] at h1⟩
  have cE:∀ y∈p,y.block < W.heap.size:=fun y hy=>by simpa using hW0.lt y (by simpa using hy)
  have e1:s.fn H (ds++[])={ results:=[.lit (.bool true)],args:=ds }:=by rw [List.append_nil]; exact Fa ds hlen
  refine ⟨_,rfl,MN (pa:=p) (pv:=[]) hW0 ?_ ?_ ?_ rfl hb ?_⟩
  ·intro b sp hd;rw [e1,L7];exact trodAll_mk1 (shut_bool hub true)
  ·intro sp ajm;rw [e1];exact wK hl hb hr hA cE (fun y hy=>ajm y (by simpa using hy))
  ·intro sp _;rw [e1,JL];rfl
  ·intro j t r hj mW;rw [L7] at hj mW;cases j with
   |succ j=>simp at hj
   |zero=>
    simp at hj;subst hj;have:r=.bool true:=by simpa [Value.resultList] using mW.symm
    subst this;simp [abx,Cell.okWide,Cell.ok,hub]
end
end Go.Am
namespace Go.Am
open Go
section
variable {P:Program} {W:World}
end
end Go.Am
namespace Go.Am
open Go
theorem bN {p:aM} (hp:p.plain=true) (l:List p.T):allFit p.fits (aag p.enc l)=true:=by
 induction l with
 |nil=>rfl
 |cons x l ih=>simp [allFit,ih,(p.bq x hp).1]
theorem dZ {p:aM} (hp:p.plain=true) (l:List p.T):aag p.bC (aag p.enc l)=l:=by
 induction l with
 |nil=>rfl
 |cons x l ih=>simp [ih,(p.bq x hp).2]
end Go.Am
namespace Go.Am
open Go Go.RowKit
section
variable {E:Env} {R:aj} {w w':World}
theorem Plain.of {P : Program} {g : FuncId} {fn : Func} (h : P.funcs[g]? = some fn) (h1 : fn.body.isNone = false) (h2 : (fn.name == "runtime.NumGoroutine") = false) : Plain P g := ⟨fn, h, h1, h2⟩
end
def p2 (a b:aM):aR:=.cons a (.cons b .nil)
def p1 (a:aM):aR:=.cons a .nil
def D4:List UInt8 × List UInt8→Option Int
 |(s,[c])=>some (s.count c:Nat)
 |_=>none
def MO:bH:=⟨p2 .str .str,.int .i64,D4⟩
section
variable {E:Env}
end
end Go.Am
namespace Go.Am
open Go
theorem KZ {x:Int} (h:-9223372036854775808≤x∧x≤9223372036854775807):IntKind.wrap .i64 x=x:=IntWalk.i64_in x (by omega)
def eQ (N:Nat):Prop:=18446744073709551616≤N
theorem tk {V X:Type} (rd:V→Option (V ⊕ X)) (n:Nat) (v:V):aA rd (n+1) v=(rd v).bind fun o=>Sum.elim (fun v'=>aA rd n v') (fun x=>some x) o:=rfl
theorem gb {α:Type} (g:α→AV) (xs:List α) (k:Nat) (h:k < xs.length):af (xs.map g) k=g xs[k]:=by
 unfold af;rw [aV,abr,aak h];rfl
def low (a b:Int):Int × Int:=(a / (Int.gcd a b:Int),b / (Int.gcd a b:Int))
def foldI {S α Y:Type} (st:S→α→S ⊕ Y):S→List α→S ⊕ Y
 |s,[]=>.inl s
 |s,a :: l=>Sum.elim (fun s'=>foldI st s' l) (fun y=>.inr y) (st s a)
theorem kM {V X S α Y:Type} {rd:V→Option (V ⊕ X)} (l:List α) (E:S→Nat→V) (st:S→α→S ⊕ Y) (fin:S→X) (ex:Y→X) (P:S→Nat→Prop)
  (h:∀ s k (hk:k < l.length),P s k→rd (E s k)=some (Sum.map (fun s'=>E s' (k+1)) ex (st s l[k]))∧∀ s',st s l[k]=.inl s'→P s' (k+1))
  (h0:∀ s,P s l.length→rd (E s l.length)=some (.inr (fin s))) :
  ∀ n s k,k≤l.length→l.length < n+k→P s k→aA rd n (E s k)=some (Sum.elim fin ex (foldI st s (l.drop k)))
 |0,s,k,hk,hn,_=>by omega
 |n+1,s,k,hk,hn,hP=>by
  rw [tk];by_cases cE:k < l.length
  ·obtain ⟨h1,h2⟩:=h s k cE hP;rw [h1,abt cE];simp only [abu,foldI];cases hs:st s l[k] with
   |inl s'=>
    simp only [Sum.map_inl,aaN];exact kM l E st fin ex P h h0 n s' (k+1) (by omega) (by omega) (h2 s' hs)
   |inr y=>simp only [Sum.map_inr,Sum.elim_inr]
  ·have:k=l.length:=by omega
   subst this;rw [h0 s hP,abw (aaq _)];rfl
theorem dT {V X S α:Type} {rd:V→Option (V ⊕ X)} (l:List α) (E:S→Nat→V) (f:S→α→S) (fin:S→X) (P:S→Nat→Prop)
  (h:∀ s k (hk:k < l.length),P s k→rd (E s k)=some (.inl (E (f s l[k]) (k+1)))∧P (f s l[k]) (k+1))
  (h0:∀ s,P s l.length→rd (E s l.length)=some (.inr (fin s))) :
  ∀ n s k,k≤l.length→l.length < n+k→P s k→aA rd n (E s k)=some (fin ((l.drop k).foldl f s))
 |0,s,k,hk,hn,_=>by omega
 |n+1,s,k,hk,hn,hP=>by
  rw [tk];by_cases cE:k < l.length
  ·obtain ⟨h1,h2⟩:=h s k cE hP;rw [h1,abt cE];simp only [abu,aaN,List.foldl_cons];exact dT l E f fin P h h0 n _ (k+1) (by omega) (by omega) h2
  ·have:k=l.length:=by omega
   subst this;rw [h0 s hP,abw (aaq _)];rfl
theorem aF {V X:Type} {rd:V→Option (V ⊕ X)} (m:Nat) (E:Nat→V) (x:X) (h:∀ k,k < m→rd (E k)=some (.inl (E (k+1)))) (h0:rd (E m)=some (.inr x)) :
  ∀ n k,k≤m→m < n+k→aA rd n (E k)=some x
 |0,k,hk,hn=>by omega
 |n+1,k,hk,hn=>by
  rw [tk];by_cases cE:k < m
  ·rw [h k cE];simp only [abu,aaN];exact aF m E x h h0 n (k+1) (by omega) (by omega)
  ·have:k=m:=by omega
   subst this;rw [h0];rfl
theorem ah {k n:Nat} (h:k < n):decide (0≤(k:Int)∧(k:Int) < (n:Int))=true:=by simp; omega
theorem ar {k n:Nat} (h:k < n):decide ((k:Int) < (n:Int))=true:=by simpa using h
theorem aI (n:Nat):decide ((n:Int) < (n:Int))=false:=by simp
theorem aS {k:Nat} (h:k < 9223372036854775807):IntKind.wrap .i64 ((k:Int)+1)=((k+1:Nat):Int):=by rw [KZ (by omega)]; simp
def QZ (n lo hi:Int):Int:=if n < lo∨n > hi then 3 else 0
def b9:List Int→Int
 |[]=>0
 |x :: l=>if x=0 then b9 l else x
theorem oA {l:List Int}:b9 l=0↔∀ x∈l,x=0:=by
 induction l with
 |nil=>simp [b9]
 |cons x l ih=>
  simp only [b9,aas,forall_eq_or_imp];by_cases h:x=0
  ·simp [h,ih]
  ·simp [h]
theorem D5 {rd:Int→Option (Int ⊕ (Int ⊕ Unit))} (l:List Int)
  (h:∀ k (hk:k < l.length),rd (k:Int)=some (if l[k]=0 then .inl ((k+1:Nat):Int) else .inr (.inl l[k]))) (h0:rd (l.length:Int)=some (.inr (.inr ()))) (n:Nat) (hn:l.length < n) :
  ∃ o,aA rd n 0=some o∧Sum.elim (fun x=>x) (fun _=>0) o=b9 l:=by
 have key:=kM (rd:=rd) (S:=Unit) (Y:=Int) l (fun _ k=>(k:Int)) (fun _ x=>if x=0 then .inl () else .inr x) (fun _=>.inr ()) (fun x=>.inl x) (fun _ _=>True)
  (fun s k hk _=>⟨by rw [h k hk]; by_cases e:l[k]=0 <;> simp [e],fun _ _=>trivial⟩) (fun _ _=>h0) n () 0 (aar _) (by omega) trivial
 refine ⟨_,key,?_⟩;rw [List.drop_zero];clear key h h0 hn
 induction l with
 |nil=>rfl
 |cons x l ih=>
  simp only [foldI,b9];by_cases e:x=0
  ·simp only [e,if_true,aaN]; exact ih
  ·simp [e]
theorem iR {rd:Int→Option (Int ⊕ (Int ⊕ Unit))} (l:List Int)
  (h:∀ k (hk:k < l.length),rd (k:Int)=some (if l[k]=0 then .inl ((k+1:Nat):Int) else .inr (.inl l[k]))) (h0:rd (l.length:Int)=some (.inr (.inr ()))) (n:Nat) (hn:l.length < n) :
  aA rd n 0=some (if b9 l=0 then .inr () else .inl (b9 l)):=by
 have key:=kM (rd:=rd) (S:=Unit) (Y:=Int) l (fun _ k=>(k:Int)) (fun _ x=>if x=0 then .inl () else .inr x) (fun _=>.inr ()) (fun x=>.inl x) (fun _ _=>True)
  (fun s k hk _=>⟨by rw [h k hk]; by_cases e:l[k]=0 <;> simp [e],fun _ _=>trivial⟩) (fun _ _=>h0) n () 0 (aar _) (by omega) trivial
 rw [List.drop_zero] at key;refine key.trans (congrArg some ?_);clear key h h0 hn
 induction l with
 |nil=>rfl
 |cons x l ih=>
  simp only [foldI,b9];by_cases e:x=0
  ·simp only [e,if_true,aaN]; exact ih
  ·simp [e]
theorem VO (s:List UInt8) (k:Nat) (hk:k < s.length):((s[k].toNat < 128)→dE s k=(s[k].toNat,1))∧(128≤s[k].toNat→128≤(dE s k).1):=by
 have e1:s.getD k 0=s[k]:=by simp [hk]
 constructor
 ·intro h;have:Nat.blt s[k].toNat 128=true:=aaG h;unfold dE;rw [e1,this];rfl
 ·intro h;have:Nat.blt s[k].toNat 128=false:=by
   cases hb:Nat.blt s[k].toNat 128 with
   |false=>rfl
   |true=>have:=Nat.le_of_ble_eq_true hb; omega
  unfold dE;rw [e1,this];simp only [cond_false];have e2:((⟨⟨s⟩⟩:ByteArray).get! (k+0)).toNat=s[k].toNat:=by
   simp [ByteArray.get!,hk]
  unfold Utf8.decode;simp only [e2,if_neg (by omega:¬ s[k].toNat < 128)];have hr:(128:Nat)≤Utf8.runeError:=by decide
  repeat' split
  all_goals first | exact hr | skip
  all_goals simp_all
  all_goals omega
theorem ajn {x:Int} (h:x≠0):(x == 0)=false:=by simpa using h
theorem P7 {x:Int} (h:x≠0):(x != 0)=true:=by simpa using h
end Go.Am
namespace Go.Am
open Go
section
variable {κ ν:Type} [DecidableEq κ]
def getM (k:κ):List (κ × ν)→Option ν
 |[]=>none
 |(k',v) :: m=>if k=k' then some v else getM k m
def gl (k:κ) (v:ν):List (κ × ν)→List (κ × ν)
 |[]=>[(k,v)]
 |(k',v') :: m=>if k=k' then (k,v) :: m else (k',v') :: gl k v m
theorem JU (k k':κ) (v:ν):∀ m:List (κ × ν),getM k' (gl k v m)=if k'=k then some v else getM k' m
 |[]=>rfl
 |(k1,v1) :: m=>by
  unfold gl;by_cases h:k=k1
  ·subst h;rw [if_pos rfl];by_cases h2:k'=k
   ·simp [getM,h2]
   ·simp [getM,h2]
  ·rw [if_neg h];by_cases h2:k'=k1
   ·subst h2;have h3:¬ k'=k:=fun e=>h e.symm
    simp [getM,h3]
   ·simp only [getM,if_neg h2];exact JU k k' v m
theorem getM_none {k:κ}:∀ {m:List (κ × ν)},getM k m=none↔k∉m.map aaF
 |[]=>by simp [getM]
 |(k1,v1) :: m=>by
  simp only [getM,aaa,aas,not_or];by_cases h:k=k1
  ·simp [h]
  ·simp only [if_neg h,h,not_false_eq_true,true_and]; exact getM_none
theorem Eb {k:κ} {v:ν}:∀ {m:List (κ × ν)},getM k m=none→gl k v m=m++[(k,v)]
 |[],_=>rfl
 |(k1,v1) :: m,h=>by
  unfold getM at h;split at h
  ·cases h
  ·rename_i df;unfold gl;rw [if_neg df,Eb h];rfl
theorem vK {k:κ} {v:ν}:∀ {m:List (κ × ν)},(gl k v m).map aaF=if k∈m.map aaF then m.map aaF else m.map aaF++[k]
 |[]=>by simp [gl]
 |(k1,v1) :: m=>by
  unfold gl;by_cases h:k=k1
  ·simp [h]
  ·rw [if_neg h,aaa,vK (m:=m)];by_cases h2:k∈m.map aaF
   ·have:k∈((k1,v1) :: m).map aaF:=by simp only [aaa,aas]; exact .inr h2
    rw [if_pos h2,if_pos this];rfl
   ·have:¬ k∈((k1,v1) :: m).map aaF:=by
     simp only [aaa,aas,not_or]; exact ⟨h,h2⟩
    rw [if_neg h2,if_neg this];rfl
theorem AB (k:κ) (l:List κ):getM k (l.map fun x=>(x,true))=if k∈l then some true else none:=by
 induction l with
 |nil=>rfl
 |cons a l ih=>
  simp only [aaa,getM,ih,aas];by_cases h:k=a
  ·simp [h]
  ·simp [h]
structure jw (ek:EK) (nk:κ→AV) (nv:ν→AV) (nM:κ × ν→AV):Prop where
 key:∀ a b,KR ek (nk a) (nk b)=some (decide (a=b))
 pair:∀ x,nM x=.agg [nk x.1,nv x.2]
 exact:∀ x,(nM x).exact=true
variable {ek:EK} {nk:κ→AV} {nv:ν→AV} {nM:κ × ν→AV} (h:jw ek nk nv nM)
include h
theorem jw.ent:∀ m:List (κ × ν),az (aag nM m)=m.map fun x=>(nk x.1,nv x.2)
 |[]=>rfl
 |x :: m=>by
  rw [aaa,h.pair,az,jw.ent m];rfl
theorem jw.keys (k:κ):∀ m:List (κ × ν),cW ek (nk k) (az (aag nM m))=true
 |[]=>rfl
 |x :: m=>by
  have:=jw.keys k m;rw [aaa,h.pair,az];show ((KR ek (nk k) (nk x.1)).isSome&&cW ek (nk k) (az (aag nM m)))=true;rw [this,h.key];rfl
theorem jw.get (k:κ):∀ m:List (κ × ν),ij ek (nk k) (az (aag nM m))=(getM k m).map nv
 |[]=>rfl
 |x :: m=>by
  have ih:=jw.get k m;rw [aaa,h.pair,az];show (bif E1 ek (nk k) (nk x.1) then some (nv x.2) else ij ek (nk k) (az (aag nM m)))=(if k=x.1 then some x.2 else getM k m).map nv;unfold E1;rw [h.key,ih];by_cases e:k=x.1
  ·simp [e]
  ·simp [e]
theorem jw.getD (k:κ) (z:ν) (m:List (κ × ν)):bS ek (nk k) (nv z) (az (aag nM m))=nv ((getM k m).getD z):=by
 unfold bS;rw [h.get];cases getM k m <;> rfl
theorem jw.put (k:κ) (v:ν):∀ m:List (κ × ν),eu ek (nk k) (nv v) (az (aag nM m))=az (aag nM (gl k v m))
 |[]=>by
  show [(nk k,nv v)]=az [nM (k,v)];rw [h.pair];rfl
 |x :: m=>by
  have ih:=jw.put k v m;rw [aaa,h.pair,az];show (bif E1 ek (nk k) (nk x.1) then (nk k,nv v) :: az (aag nM m) else (nk x.1,nv x.2) :: eu ek (nk k) (nv v) (az (aag nM m)))=az (aag nM (if k=x.1 then (k,v) :: m else (x.1,x.2) :: gl k v m));unfold E1;rw [h.key,ih];by_cases e:k=x.1
  ·simp only [e,decide_true,cond_true,if_true,aaa];rw [h.pair (x.1,v),az];rfl
  ·simp only [e,decide_false,cond_false,if_false,aaa];rw [h.pair (x.1,x.2),az];rfl
theorem jw.cells:∀ m:List (κ × ν),ae (az (aag nM m))=aag nM m
 |[]=>rfl
 |x :: m=>by
  have ih:=jw.cells m;rw [aaa,h.pair,az];show AV.agg [nk x.1,nv x.2] :: ae (az (aag nM m))=_;rw [ih]
theorem jw.iD (m:List (κ × ν)):Go.Am.iD (az (aag nM m))=true:=by
 unfold Go.Am.iD;rw [h.cells]
 induction m with
 |nil=>rfl
 |cons x m ih=>rw [aaa,gP,ih,h.exact]; rfl
end
theorem Ot (k:IntKind) (a b:Int):KR .int (.int k a) (.int k b)=some (decide (a=b)):=by
 unfold KR;simp only [pY,if_true];by_cases h:a=b
 ·subst h; simp [EK.wide]
 ·have:(a == b)=false:=by simpa using h
  rw [this]; simp [h]
theorem HS (a b:Int × Int):KR (.st (.cons 0 1 false .int (.cons 1 1 false .int .nil))) (.agg [.int .i64 a.1,.int .i64 a.2]) (.agg [.int .i64 b.1,.int .i64 b.2])=some (decide (a=b)):=by
 obtain ⟨a1,a2⟩:=a;obtain ⟨b1,b2⟩:=b;have e:pY (.st (.cons 0 1 false .int (.cons 1 1 false .int .nil))) (.agg [.int .i64 a1,.int .i64 a2]) (.agg [.int .i64 b1,.int .i64 b2])=some ((a1 == b1)&&((a2 == b2)&&true)):=rfl;unfold KR;rw [e];by_cases h1:a1=b1 <;> by_cases h2:a2=b2
 ·subst h1; subst h2;simp [EK.wide,sJ,tZ,xO]
 all_goals simp [h1,h2]
end Go.Am
namespace Go.Am
open Go
theorem pG {V X:Type} (rd:(V→Option X)→V→Option X) (n:Nat) (v:V):gK rd (n+1) v=rd (gK rd n) v:=rfl
def iq (L:List Nat):List Int:=L.map fun n:Nat=>(n:Int)
theorem JV {α:Type} (f:α→AV × AV) (m:List α) {i:Nat} (h:i < m.length):cP (m.map f) i=f m[i]:=by
 unfold cP;rw [aV,abr,aak h];rfl
end Go.Am
namespace Go.Am
open Go Go.RowKit Go.Proofs Go.Shelf Go.Lib
def OJ (sz sE:Nat) (el:TypeId):List AV→List GO→Option (Bool × AV × List GO)
 |[.list .nil _ [],.int .i64 n],G=>some (decide (0≤n∧n * (sE:Int)≤140737488355328∧n≤4611686018427387904),.ey G.length 0 0 sz 0,G++[.da [] sz el])
 |_,_=>none
section
variable {E:Env} {ρ:Ren}
theorem J9 (L:Lays8.n4 E.P ρ) (hp:Plain E.P (ρ.f 4)) (i0:TypeInfo) (z:Value) (hi0:E.P.info? (ρ.t 25)=some i0) (hz0:i0.zero=some z) (hs0:0 < i0.size) (hzs:z.cells.size=i0.size) :
  ∀ (args:List AV) (G:List GO) (r:AV) (G':List GO),OJ i0.size i0.bytes (ρ.t 25) args G=some (true,r,G')→eP E (ρ.f 4) args G (fun r' N7=>r'=r∧N7=G'):=by
 intro args G r G' h;unfold OJ at h;split at h
 ·rename_i G1 sz0 n;injection h with h;injection h with h1 h;injection h with h2 h3;subst h2; subst h3;have h1:=of_decide_eq_true h1;obtain ⟨QO,Vr,aov⟩:=h1;refine ⟨hp,fun R w cs hg hl=>callsIn_wide.2 ?_⟩;cases hl with
  | @cons _ cv _ _ r1 hl=>
  cases hl with
  | @cons _ nv _ _ r2 hl=>
  cases hl;cases r2;have ZR:∃ c0,cv=.slice none 0 c0∧c0=0:=by
   cases r1 with
   |lY=>exact ⟨_,rfl,rfl⟩
   |list _ _ _ hk=>exact hk.elim
  obtain ⟨c0,rfl,rfl⟩:=ZR;obtain ⟨m,rfl⟩:∃ m:Nat,n=(m:Int):=⟨n.toNat,by omega⟩;have b8:bi E R w (fun _=>0) ⟨[],[],G,[],none,0⟩ (⟨#[],[]⟩:Act):=
   ⟨hg,⟨fun k cs h=>by simp [fh] at h,fun k k' cs ig h=>by simp [fh] at h⟩,fun i hi=>absurd rfl hi,rfl,trivial⟩
  by_cases hm:m=0
  ·subst hm;refine (Any8.slices_Grow_room (P:=E.P) (ρ:=ρ) L none 0 0 0 w (aaq _) (by omega) (by omega) (by omega)).mono fun e w' ⟨e1,e2⟩=>?_
   have e2:=e2.symm;subst e1; subst e2;obtain ⟨k1,k2⟩:=b8.FT (i0.size+65536) (ρ.t 25);have hn:nth (jJ R).obj G.length=some .bj:=by rw [← hg.len]; exact eS _ _
   have ev:ghV G.length (i0.size+65536)=.ey G.length 0 0 i0.size 0:=by
    unfold ghV;rw [aaG (Nat.le_add_left _ _),Nat.add_sub_cancel];rfl
   have eo:QV (i0.size+65536) (ρ.t 25)=.da [] i0.size (ρ.t 25):=by
    unfold QV;rw [aaG (Nat.le_add_left _ _),Nat.add_sub_cancel];rfl
   have hv:Rel (jJ R) w (.ey G.length 0 0 i0.size 0) (.slice none 0 0):=by
    rw [← ev]; exact NU hn
   have hk1:=k1.g;have eG:((⟨[],[],G,[],none,0⟩:St).fL (QV (i0.size+65536) (ρ.t 25))).G=G++[.da [] i0.size (ρ.t 25)]:=by
    show G++[QV (i0.size+65536) (ρ.t 25)]=_;rw [eo]
   rw [eG] at hk1;exact ⟨_,_,jJ R,⟨rfl,rfl⟩,hv,hk1,k2⟩
  ·have ab4:(0+m) * i0.bytes≤140737488355328:=by
    rw [abv];have:((m * i0.bytes:Nat):Int)≤140737488355328:=by rw [Int.natCast_mul]; exact Vr
    omega
   have key:=Any8.slices_Grow_grow (P:=E.P) (ρ:=ρ) L i0 z hi0 hz0 hs0 none 0 0 m [] w (aaq _) (by omega) ab4 (by omega) (by simp) (fun _=>rfl) (fun a h=>by cases h);refine key.mono fun e w' ⟨e1,e2⟩=>?_
   have E6:=grownCap_ge w (0+m) 0 (ρ.t 25);have hcm:=grownCap_le_maxLen w (0+m) 0 (ρ.t 25) (by unfold maxLen; omega);generalize grownCap w (0+m) 0 (ρ.t 25)=cap at *;subst e1; subst e2;obtain ⟨d1,d2⟩:=b8.drew;have gJ:(([]:List Value).toArray++aah z.cells (0+m - 0)++aah z.cells (cap - (0+m))).size=cap * i0.size:=by
    simp only [Array.size_append,List.size_toArray,size_zeroCells,hzs,List.length_nil,abv,Nat.sub_zero,← Nat.add_mul];congr 1;omega
   have r1:=d1.Lz (cur:=([]:List Value).toArray++aah z.cells (0+m - 0)++aah z.cells (cap - (0+m))) (vs:=[]) (es:=[]) (elem:=ρ.t 25) (sz:=i0.size) (cap:=cap) (aar _) hcm gJ (fun e he=>by cases he) .nil (fun v hv=>by cases hv) (by simp);have st:=d2.trans (eF d1 (.cells (([]:List Value).toArray++aah z.cells (0+m - 0)++aah z.cells (cap - (0+m))) (ρ.t 25)) (.tok 0 w.drew.heap.size cap 0) (by exact fun _ h=>h));have hv:Rel (R.add (.tok 0 w.heap.size cap 0)) (w.drew.alloc (.cells (([]:List Value).toArray++aah z.cells (0+m - 0)++aah z.cells (cap - (0+m))) (ρ.t 25))) (.ey G.length 0 0 i0.size 0) (.slice (some ⟨w.heap.size,0,none⟩) 0 cap):=
    Rel.ey (jy b8 _) ⟨aaq _,fun _=>⟨rfl,abv _,.inl (Nat.zero_mul _).symm⟩⟩ (aar _)
   exact ⟨_,_,_,⟨rfl,rfl⟩,hv,r1.g,st⟩
 ·cases h
end
end Go.Am
namespace Go.Am
open Go Go.RowKit Go.Proofs Go.Shelf Go.Lib
def HZ (el:TypeId):List AV→List GO→Option (Bool × AV × List GO)
 |[.list _ sz es],G=>some ((Nat.beq sz 1 || es.isEmpty)&&(allFit (aM.fits (.int .i64)) es&&decide (es.length * 8≤140737488355328)),.ey G.length es.length 0 1 es.length,G++[.da es 1 el])
 |_,_=>none
theorem ab6 {a b:IntKind} (h:kEq a b=true):b=a:=by cases a <;> cases b <;> first | rfl | cases h
theorem Em:∀ {es:List AV},allFit (aM.fits (.int .i64)) es=true→aE es=es∧es=es.map fun e=>.int .i64 e.BD
 |[],_=>⟨rfl,rfl⟩
 |e :: es,h=>by
  simp only [allFit,Bool.and_eq_true] at h;obtain ⟨h1,h2⟩:=h;obtain ⟨k1,k2⟩:=Em h2;cases e <;> first | (simp [aM.fits] at h1; done) | skip
  rename_i k n;have hk:k=.i64:=ab6 h1;subst hk;exact ⟨by simp only [aE,AV.cells,k1,List.cons_append,List.nil_append],by rw [aaa,← k2]; rfl⟩
theorem Gy {R:aj} {w:World}:∀ {zs:List Int} {vs:List Value},aQ R w (zs.map fun z=>AV.int .i64 z) vs→vs=zs.map (abA .i64)
 |[],_,h=>by cases h; rfl
 |z :: zs,vs,h=>by
  cases h with
  | @cons _ c _ cs h1 h2=>
   cases h1;rw [Gy h2]; rfl
theorem Ka {R:aj} {w:World}:∀ zs:List Int,aQ R w (zs.map fun z=>AV.int .i64 z) (zs.map (abA .i64))
 |[]=>.nil
 |z :: zs=>.cons (.int .i64 z) (Ka zs)
section
variable {E:Env} {R:aj} {w w':World}
theorem Qh {G:List GO} (hg:il E R w G) (hE:E.lo=0) (hb:Below w.heap.size w w') {g cap sz:Nat} {es:List AV} {el:TypeId} {cur:Array Value} {vs:List Value} (UR:w.heap.size≤g) (hc:w'.heap[g]?=some (.cells cur el (0,0)))
  (hn:es.length≤cap) (hm:cap≤maxLen) (hs:cur.size=cap * sz) (mN:ga sz es) (hr:aQ R w (aE es) vs) (h1:∀ v∈vs,v.oneCell'=true) (ht:cur.toList.take (es.length * sz)=vs) :
  il E (R.add (.tok es.length g cap 0)) w' (G++[.da es sz el])∧Step R w (fun _=>0) kg (R.add (.tok es.length g cap 0)) w' (fun _=>0) kg:=by
 have e:Ext R w (R.add (.tok es.length g cap 0)) w':=
  ⟨fun _ _ h=>h,fun b o hi=>cw (hb.block b (hg.wf b o hi)) o,fun _ r h=>⟨r,cF h,cQ.refl r⟩,.old fun b oh=>hb.block b oh⟩
 have cE:∀ {i r b},nth R.obj i=some r→r.has b→b < w.heap.size:=fun h1 h2=>hg.cC ⟨_,_,h1,h2⟩
 refine ⟨⟨by simp [aj.add,hg.len],fun i gg r q1 q2=>?_,fun i j ri rj b q1 q2 b1 b2=>?_,fun b o hi=>Nat.lt_of_lt_of_le (hg.wf b o hi) hb.size,fun g cs hq=>(hg.ft g cs hq).mono e,by rw [hE]; exact aar _⟩,?_⟩
 ·rcases ak q2 with q2|⟨q3,rfl⟩
  ·rcases ak q1 with q1|⟨q4,_⟩
   ·exact (hg.obj i gg r q1 q2).mono e (fun b oh=>hb.block b (cE q2 oh)) (fun _ _ _ hi=>hi)
   ·have:=bl q2;rw [hg.len] at this;omega
  ·rcases ak q1 with q1|⟨q4,rfl⟩
   ·have:=bl q1;rw [q3,hg.len] at this;omega
   ·exact ⟨rfl,rfl,mN,cur,vs,hc,hn,hm,hs,fun o hi=>by have:=hg.wf _ _ hi; omega,hr.mono e,h1,ht⟩
 ·rcases ak q1 with g1|⟨g3,rfl⟩
  ·rcases ak q2 with g2|⟨g4,rfl⟩
   ·exact hg.inj i j ri rj b g1 g2 b1 b2
   ·have:=cE g1 b1;simp [RO.has] at b2;omega
  ·rcases ak q2 with g2|⟨g4,rfl⟩
   ·have:=cE g2 b2;simp [RO.has] at b1;omega
   ·omega
 ·refine ⟨e,hb.os,hb.tape,hb.output,hb.size,fun b oh _=>hb.block b oh,fun b oh ho=>?_,fun _ _ hi _ _=>hi⟩;rcases ho with ⟨i,r,l1,l2⟩|⟨k,cs,hk,_⟩
  ·rcases ak l1 with l1|⟨_,rfl⟩
   ·exact .inl ⟨i,r,l1,l2⟩
   ·simp [RO.has] at l2;omega
  ·simp [kg,fh] at hk
variable {ρ:Ren}
theorem Qi (L:Lays2.n15 E.P ρ) (hp:Plain E.P (ρ.f 15)) (hE:E.lo=0) :
  ∀ (args:List AV) (G:List GO) (r:AV) (G':List GO),HZ (ρ.t 3) args G=some (true,r,G')→eP E (ρ.f 15) args G (fun r' N7=>r'=r∧N7=G'):=by
 intro args G r G' h;unfold HZ at h;split at h
 ·rename_i G1 k sz es;injection h with h;injection h with h1 h;injection h with h2 h3;subst h2; subst h3;simp only [Bool.and_eq_true,decide_eq_true_eq] at h1;obtain ⟨gJ,tS,aj4⟩:=h1;obtain ⟨ic1,ic2⟩:=Em tS;have aj5:ga 1 es:=fun e he=>by
   rw [ic2] at he;obtain ⟨x,_,rfl⟩:=List.mem_map.1 he;exact ⟨rfl,rfl⟩
  refine ⟨hp,fun R w cs hg hl=>callsIn_wide.2 ?_⟩;cases hl with
  | @cons _ cv _ _ r1 hl=>
  cases hl
  -- nil
  have OK:es=[]→cv=.slice none 0 0→Calls E.P (ρ.f 15) ⟨[cv]⟩ w (FV E R w fun r' N7=>r'=.ey G.length es.length 0 1 es.length∧N7=G++[.da es 1 (ρ.t 3)]):=fun he hc=>by
   subst he; subst hc;have b8:bi E R w (fun _=>0) ⟨[],[],G,[],none,0⟩ (⟨#[],[]⟩:Act):=
    ⟨hg,⟨fun k cs h=>by simp [fh] at h,fun k k' cs ig h=>by simp [fh] at h⟩,fun i hi=>absurd rfl hi,rfl,trivial⟩
   refine (Any.slices_Clone_int_nil L 0 0 w).mono fun e w' ⟨e1,e2⟩=>?_
   subst e1; subst e2;obtain ⟨k1,k2⟩:=b8.FT (1+65536) (ρ.t 3);have hn:nth (jJ R).obj G.length=some .bj:=by rw [← hg.len]; exact eS _ _
   exact ⟨_,_,jJ R,⟨rfl,rfl⟩,Rel.mh hn trivial,k1.g,k2⟩
  -- a row of its own
  have Tm:∀ {v':Value} {w':World} {zs:List Int},es=zs.map (fun z=>AV.int .i64 z)→w'.ownsRow w.heap.size (ρ.t 3) 1 v' es.length (zs.map (abA .i64))→v'≠.slice none 0 0→Below w.heap.size w w' →
    FV E R w (fun r' N7=>r'=.ey G.length es.length 0 1 es.length∧N7=G++[.da es 1 (ρ.t 3)]) (.returned v') w':=fun {v' w' zs} E2 wW df hbl=>by
   obtain ⟨_,wW⟩:=wW;rcases wW with ⟨rfl,_⟩|⟨g,cap,cur,rfl,UR,hc,hn,hm,hs,ht⟩
   ·exact absurd rfl df
   ·have gO:aQ R w (aE es) (zs.map (abA .i64)):=by
     rw [ic1,E2];exact Ka zs
    obtain ⟨r1,r2⟩:=Qh hg hE hbl UR hc hn hm hs aj5 gO (fun v hv=>by obtain ⟨x,_,rfl⟩:=List.mem_map.1 hv; rfl) ht;have Hy:nth (R.add (.tok es.length g cap 0)).obj G.length=some (.tok es.length g cap 0):=by rw [← hg.len]; exact eS _ _
    refine ⟨_,_,_,⟨rfl,rfl⟩,Rel.ey Hy ⟨aaq _,fun _=>⟨rfl,abv _,.inl (Nat.zero_mul _).symm⟩⟩ hn,r1,r2⟩
  cases r1 with
  |lY=>exact OK rfl rfl
  |lZ=>exact OK rfl rfl
  |qJ _ _=>exact OK rfl rfl
  |qa _ _=>exact OK rfl rfl
  | @rv _ ad=>
   exact (Any.slices_Clone_int_zero L ad 0 w).mono fun e w' ⟨v',e1,e2,e3,e4⟩=>by subst e1; exact Tm (zs:=[]) rfl e2 e3 e4
  | @list _ _ _ b o len cap hr hlen jZ hk=>
   subst hlen;by_cases df:es=[]
   ·subst df;exact (Any.slices_Clone_int_zero L ⟨b,o,none⟩ cap w).mono fun e w' ⟨v',e1,e2,e3,e4⟩=>by subst e1; exact Tm (zs:=[]) rfl e2 e3 e4
   ·have aj6:sz=1:=by
     simp only [Bool.or_eq_true] at gJ;rcases gJ with q|q
     ·exact Nat.eq_of_beq_eq_true q
     ·simp at q; exact absurd q df
    subst aj6;obtain ⟨x0,xs,x1,x2,x3,x4⟩:=oY (esz:=1) (Rel.list hr rfl jZ hk) (.inr rfl);rcases x4 with ⟨he,_⟩|⟨b',o',aow,oK,aac,xk,wy,_⟩
    ·exact absurd he df
    ·cases oK;rw [ic1] at x1;have E2:es=(es.map AV.BD).map fun z=>AV.int .i64 z:=by rw [List.map_map]; exact ic2
     rw [E2] at x1;have hxs:=Gy x1;have key:=Any.slices_Clone_int L b o es.length cap (es.map AV.BD) w (by rw [List.length_map]; exact aaq _) aj4 (fun j hj=>by
      have:=wy j (.int .i64 ((es.map AV.BD).getD j 0)) (by rw [hxs,abr,aak hj,List.getD_eq_getElem?_getD,aak hj]; rfl);rw [de] at this;exact this)
     refine key.mono fun e w' ⟨v',e1,e2,e3,e4⟩=>?_
     subst e1;rw [List.take_of_length_le (by rw [List.length_map]; exact aaq _)] at e2;exact Tm E2 e2 e3 e4
 ·cases h
end
end Go.Am
