/- The abstract machine: what it does is what the model does: objects that are no rows; ranges over strings. -/
import Derived.Test.YtegoimldbgdeiaaGreatAmKB
import Derived.Laws.RangeAny
import Derived.Maps.RangeRun
import Derived.Laws.BytesString
import Derived.Laws.Cover4
import Derived.RangeFuncCalls
import Derived.RangeFuncRecord
import Derived.RangeFuncIn
set_option linter.all false
open Array renaming length_toList->ab1, toList_modify->ab5, getElem?_toList->acK, getD_eq_getD_getElem?->acM, toList_push->acO, mapM_eq_mapM_toList->acP, toList_filter->adO
open Bool renaming and_eq_true->aad
open ByteArray renaming get!->aeJ
open Go.ByteArray renaming toList_eq->ady
open Go.Deferred renaming ofValue->ad8
open Go.Fence renaming wide->abN
open Go.Instr renaming findKey->aaL, checkKey->aaR, findAsking->aaS, findNow->abC, sameBits->ab3, keyThatStays->aci, sameNow->acN, lookup->adf, takeDeferred->adU
open Go.Op renaming maxDepth->acq, equal->acV
open Go.Oper renaming semAt_eq->ab7
open Go.Region renaming wanted->aaN
open Go.Result renaming andThen_ok->aaJ
open Go.Sem renaming run_bind->aaK, run_pure->aa5, run->ab6
open List renaming getElem?_eq_getElem->abk, getElem?_modify->acd, modify_zero_cons->acu, modify_succ_cons->acJ, mem_of_getElem?->acL, take_length->adh, getElem?_cons_zero->adi, getElem?_cons_succ->adj, replicate->adl, getElem?_eq_none->adm, range->adn, getElem_of_mem->adF
open Nat renaming eq_of_beq_eq_true->aag, le_of_ble_eq_true->aba, le_refl->ab9, zero_add->aca, ble->acf, beq->adk, sub_zero->adP, le_of_eq->adT
open Option renaming isSome_iff_exists->acW
open Option.some renaming inj->acg, injEq->ad3
namespace Go.Am
open Go
open Go.ChangeMaps (setBlock)
variable {E:Env}{R R':ak}{w w':World}{β:Nat->Nat}{s s0 s':St}{a:Act}{t kt:TypeId}{j i:TI}{d:TypeDesc}{x y c:Value}{k z v k':AV}{e:EK}{ez:Option AV}{es es':List (AV×AV)}{aQ:List MapEntry}{left:List Nat}{P:Program}{clock id:Nat}{g:Nat->Bool×St}{l:List UInt8}{m:SV}{r:Bool}{vs:Array Value}
def sX (x:Obj):Prop:=match x with
 |.cells ..=>False
 |_=>True
def yK {b:Nat} {x:Obj} (h:w.heap[b]?=some x) (hn:sX x) (o:Nat):w.cell? ⟨b,o,none⟩=none:=by
 simp only [World.cell?,h];cases x <;> first | rfl | exact hn.elim
def World.put (w:World) (b:Nat) (x:Obj):World:={ w with heap:=w.heap.setIfInBounds b x }
def rQ (w:World) (b k:Nat) (x:Obj) (h:k≠b):(World.put w b x).heap[k]?=w.heap[k]?:=Array.getElem?_setIfInBounds_ne (Ne.symm h)
def kA (w:World) (b:Nat) (x:Obj) (h:b < w.heap.size):(World.put w b x).heap[b]?=some x:=by simp [World.put,h]
@[simp] theorem ajE (w:World) (b:Nat) (x:Obj):(World.put w b x).heap.size=w.heap.size:=by simp [World.put]
section setobj
def sY {b:Nat} {x x':Obj} (hx:w.heap[b]?=some x) (hn:sX x) (hn':sX x') (hl:∀ r,x=.loop r->∃ r',x'=.loop r'/\uv r r'):Ext R w R (World.put w b x'):=
 ⟨λ _ _ h=>h,λ b' o h=>by
  by_cases e:b'=b
  .subst e;rw [yK hx hn,yK (kA w b' x' (cu hx)) hn']
  .exact dv (rQ w b b' x' e) o,λ _ ro h=>⟨ro,h,dy.refl ro⟩,λ b' r hb=>by
  by_cases e:b'=b
  .subst e;rw [hx] at hb;obtain ⟨r',rfl,h2⟩:=hl r (acg hb);exact ⟨r',kA w b' _ (cu hx),h2⟩
  .exact ⟨r,(rQ w b b' x' e).trans hb,rfl,rfl,rfl,rfl,rfl⟩⟩
def bG.setObj (h:bG E R w β s a) {b:Nat} {x x':Obj} {go':GO} (cG:nth R.obj id=some (.cN b)) (hx:w.heap[b]?=some x) (hn:sX x) (hn':sX x') (hl:∀ r,x=.loop r->∃ r',x'=.loop r'/\uv r r') (kx:ku R (World.put w b x') go' (.cN b)) :
  bG E R (World.put w b x') β (s.cM (aC s.G id go')) a/\Step R w β s.boxes R (World.put w b x') β s.boxes:=by
 have hex:=sY (R:=R) hx hn hn' hl;refine ⟨⟨⟨by simp [St.cM,h.g.len],λ nV go ro hg nu=>?_,h.g.inj,λ b' o' wC=>by have:=h.g.wf b' o' wC; simpa using this,λ g iO hg=>(h.g.fU g iO hg).mono hex,by first | exact h.g.lo | exact Nat.le_succ_of_le h.g.lo⟩,?_,h.t.mono hex,h.n,h.d⟩,?_⟩
 .rcases df hg with ⟨rfl,rfl,_⟩|⟨de,Jy⟩
  .rw [cG] at nu;cases nu;exact kx
  .refine (h.g.obj nV go ro Jy nu).mono hex (λ b' nt=>rQ w _ b' _ (λ e=>de ?_)) (λ _ _ _ hi=>hi);subst e;exact h.g.inj id nV _ _ b' cG nu rfl nt
 .exact h.b.keep hex (λ k iO mr=>rQ w _ _ _ (h.MI cG mr)) (λ _ _ _ _ hi=>hi) (λ _ _ _ hl=>hl)
 .have qS:Own R β s.boxes b:=.inl ⟨id,_,cG,rfl⟩;exact ⟨hex,rfl,rfl,rfl,by simp,λ b' _ hn=>rQ w _ b' _ (λ e=>hn (e ▸ qS)),λ _ _ hb=>hb,λ b o hi _ _=>hi⟩
end setobj
section maps
variable {o:Oper}
def Uh (hi:E.ti t=some i):i.ek=Bt E.P t:=by
 have:=E.QT t i hi;unfold QS at this;split at this
 .split at this
  .cases this; rfl
  .cases this
 .cases this
def oB {a b:AV} (h:JL e a b=some r):qo e a b=some r:=by
 unfold JL at h;split at h
 .rename_i he;cases hc:(e.wide&&!sL a b) with
  |true=>rw [hc] at h; cases h
  |false=>rw [hc] at h; cases h; exact he
 .exact h
def Ui {a b:AV} (h:JL e a b=some true) (he:e.wide=true):sL a b=true:=by
 have:=oB h;unfold JL at h;rw [this] at h;simp only [he,Bool.true_and] at h;cases hs:sL a b with
 |true=>rfl
 |false=>rw [hs] at h; cases h
def J5 (e:EK) (d:TypeDesc):Prop:=(e=.bool/\d=.bool)\/(e=.int/\∃ k,d=.int k)\/(e=.str/\d=.string)\/(e.wide=true/\((∃ fs,d=.struct fs)\/∃ n t,d=.array n t))
def BB (h:(Bt P t).plain=true):∃ d,P.underlying t=some d/\J5 (Bt P t) d:=by
 have key:∀ {e:EK},e=wA P 6 t->e.plain=true->∃ d,P.underlying t=some d/\J5 e d:=by
  intro e he h;unfold wA at he;split at he
  .rename_i hu; exact ⟨_,hu,.inl ⟨he,rfl⟩⟩
  .rename_i k hu; exact ⟨_,hu,.inr (.inl ⟨he,k,rfl⟩)⟩
  .rename_i hu; exact ⟨_,hu,.inr (.inr (.inl ⟨he,rfl⟩))⟩
  .rename_i fs hu;split at he
   .subst he; cases h
   .split at he
    .subst he; exact ⟨_,hu,.inr (.inr (.inr ⟨rfl,.inl ⟨_,rfl⟩⟩))⟩
    .subst he; cases h
  .rename_i m e' hu;split at he
   .subst he; exact ⟨_,hu,.inr (.inr (.inr ⟨rfl,.inr ⟨_,_,rfl⟩⟩))⟩
   .subst he; cases h
  .subst he; cases h
 unfold Bt at h ⊢;split
 .rename_i l hl;rw [hl] at h;simp only at h;split at h
  .simp [EK.plain] at h
  .rename_i hg;rw [if_neg hg];exact key hl.symm rfl
 .rename_i k hk;exact key rfl (by
   split at h
   .rename_i l hl; exact absurd hl (hk l)
   .exact h)
def H7 {a b:AV} (h:yq a b=true) (hx:Rel R w a x) (hy:Rel R w b y):x=y:=by
 unfold yq at h;split at h
 .cases hx; cases hy; rw [eq_of_beq h]
 .rw [aad,decide_eq_true_eq] at h;cases hx; cases hy; rw [h.1,eq_of_beq h.2]
 .cases hx; cases hy; rw [eq_of_beq h]
 .cases h
def yM:∀ {xs ys:List AV} {vs us:List Value},uu xs ys=true->bj R w xs vs->bj R w ys us->vs=us
 |[],[],_,_,_,.nil,.nil=>rfl
 |a::xs,b::ys,_,_,h,.cons h1 h2,.cons h3 h4=>by
  unfold uu at h;rw [aad] at h;rw [H7 h.1 h1 h3,yM h.2 h2 h4]
 |[],_::_,_,_,h,_,_=>by cases h
 |_::_,[],_,_,h,_,_=>by cases h
def J6 {a b:AV} (h:sL a b=true) (hx:Rel R w a x) (hy:Rel R w b y):x=y:=by
 unfold sL at h;split at h
 .cases hx with
  |agg hx _=>cases hy with
   |agg hy _=>rw [yM h hx hy]
 .cases h
def BC {ek:TypeId->EK} {d:Nat} {em:Bool} (ih:∀ (t:TypeId) (a:AV) (r:Bool) (x:Value),qo (ek t) a a=some r->Rel R w a x->(aaR em d t x).run E.P w=.ok () w) {xs:List AV} {vs:List Value}
  (hx:bj R w xs vs) (AG:∀ x∈vs,x.oneCell'=true) :
  ∀ (fs:List Field) (l:EKs) (r:Bool),Mz E.P ek fs=some l->Ay l xs xs=some r ->
   (do for f in fs do if f.name ≠ "_" then aaR em d f.type (<- part f.type ⟨vs⟩ f.offset) : Sem Unit).run E.P w = .ok () w
 |[],l,r,hl,hr=>by simp
 |f::fs,l,r,hl,hr=>by
  unfold Mz at hl;split at hl
  .cases hl
  .rename_i hn;split at hl
   .rename_i i u l' h1 h2 h3;cases hl;unfold Ay at hr;split at hr
    .rename_i a b ha hb;rw [ha] at hb;cases hb;split at hr
     .rename_i p q hp hq;obtain ⟨c,k1,k2⟩:=oP h1 h2 hx AG ha;have de : f.name ≠ "_" := by simpa using hn
      have Di:=BC ih hx AG fs l' q h3 hq;simp only [List.forIn_cons,aaK,if_pos de,aaJ,k1,ih f.type a p c hp k2,aa5];simpa only [aaK,aa5] using Di
     .cases hr
    .cases hr
   .cases hl
def yN {ek:EK} {d:Nat} {em:Bool} {e:TypeId} {i:TypeInfo} {u:TypeDesc} (h1:E.P.info? e=some i) (h2:E.P.underlying e=some u) (ih:∀ (a:AV) (r:Bool) (x:Value),qo ek a a=some r->Rel R w a x->(aaR em d e x).run E.P w=.ok () w) {xs:List AV} {vs:List Value}
  (hx:bj R w xs vs) (AG:∀ x∈vs,x.oneCell'=true) :
  ∀ (m k:Nat) (r:Bool),Ay (C7 i.size (nX u) ek m k) xs xs=some r ->
   (do for j in List.range' k m do aaR em d e (<- part e ⟨vs⟩ (j*(<- sizeOf e))):Sem Unit).run E.P w=.ok () w
 |0,k,r,hr=>by simp
 |m+1,k,r,hr=>by
  unfold C7 Ay at hr;split at hr
  .rename_i a b ha hb;rw [ha] at hb;cases hb;split at hr
   .rename_i p q hp hq;obtain ⟨c,k1,k2⟩:=oP h1 h2 hx AG ha;have Di:=yN h1 h2 ih hx AG m (k+1) q hq;simp only [List.range'_succ,List.forIn_cons,aaK,run_sizeOf w h1,aaJ,k1,ih a p c hp k2,aa5];simpa only [aaK,aa5] using Di
   .cases hr
  .cases hr
def sZ (em:Bool):∀ (n d:Nat),n<=d->∀ (t:TypeId) (a:AV) (r:Bool) (x:Value),qo (wA E.P n t) a a=some r->Rel R w a x->(aaR em d t x).run E.P w=.ok () w
 |0,_,_,t,a,r,x,h,_=>by simp [wA,qo] at h
 |n+1,0,hd,_,_,_,_,_,_=>by omega
 |n+1,d+1,hd,t,a,r,x,h,hx=>by
  unfold wA at h;split at h
  .rename_i hu;unfold qo at h;split at h
   all_goals (try contradiction)
   cases hx;simp [aaR,run_underlying hu]
  .rename_i k hu;unfold qo at h;split at h
   all_goals (try contradiction)
   cases hx;simp [aaR,run_underlying hu]
  .rename_i hu;unfold qo at h;split at h
   all_goals (try contradiction)
   cases hx;simp [aaR,run_underlying hu]
  .rename_i fs hu;split at h
   .simp [qo] at h
   .split at h
    .rename_i l hl;unfold qo at h;split at h
     all_goals (try contradiction)
     rename_i fs' xs ys hk hys;cases hk;cases hys;cases hx with
     |agg hx AG=>
     have:=BC (em:=em) (λ t a r x=>sZ em n d (by omega) t a r x) hx AG fs.toList _ r hl h;rw [aaR];simp only [aaK,run_underlying hu,aaJ];rw [<- Array.forIn_toList];simp only [aaK,aa5] at this ⊢;exact this
    .simp [qo] at h
  .rename_i m e hu;split at h
   .rename_i i ud g1 g2;unfold qo at h;split at h
    all_goals (try contradiction)
    rename_i fs' xs ys hk hys;cases hk;cases hys;cases hx with
    |agg hx AG=>
    have:=yN (em:=em) g1 g2 (λ a r x=>sZ em n d (by omega) e a r x) hx AG m 0 r h;rw [aaR];simp only [aaK,run_underlying hu,aaJ];simp only [Std.Legacy.Range.forIn_eq_forIn_range',Std.Legacy.Range.size,adP,Nat.add_one_sub_one,Nat.div_one];simp only [aaK,aa5] at this ⊢;exact this
   .simp [qo] at h
  .simp [qo] at h
def qE (hd:(e=.bool/\d=.bool)\/(e=.int/\∃ k,d=.int k)\/(e=.str/\d=.string)) (h:qo e k k'=some r) (hx:Rel R w k x) (hy:Rel R w k' y):acN d x y=some r/\(r=true->x=y):=by
 rcases hd with ⟨rfl,rfl⟩|⟨rfl,n,rfl⟩|⟨rfl,rfl⟩
 .unfold qo at h;split at h
  all_goals (try contradiction)
  cases hx; cases hy; cases h;exact ⟨rfl,λ e=>by rw [eq_of_beq e]⟩
 .unfold qo at h;split at h
  all_goals (try contradiction)
  split at h
  .rename_i hk;subst hk;cases hx; cases hy; cases h;exact ⟨by simp [acN],λ e=>by rw [eq_of_beq e]⟩
  .cases h
 .unfold qo at h;split at h
  all_goals (try contradiction)
  cases hx; cases hy; cases h;refine ⟨?_,λ e=>by rw [eq_of_beq e]⟩;simp only [acN];rw [beq_toListBytes,ady,ady]
def Dy {e:EK} {d:TypeDesc} (hd:(e=.bool/\d=.bool)\/(e=.int/\∃ k,d=.int k)\/(e=.str/\d=.string)) {k:AV} {x:Value} (hx:Rel R w k x):∀ {es:List (AV×AV)} {aQ:List MapEntry} {r:Option AV},fO R w es aQ->om e k es=some r ->
  ∀ i,match r with
   |none=>abC d x aQ i=some none
   |some v=>∃ j c,abC d x aQ i=some (some (j,c))/\Rel R w v c
 |[],[],r,_,h,i=>by simp [om] at h; subst h; rfl
 |[],_::_,_,h,_,_=>h.elim
 |_::_,[],_,h,_,_=>h.elim
 |(k',v)::es,en::aQ,r,h,hf,i=>by
  unfold om at hf;split at hf
  .rename_i he;cases hf;have h1:=(qE hd (oB he) hx h.1).1;exact ⟨i,en.val,by simp [abC,h1],h.2.1⟩
  .rename_i he;have h1:=(qE hd (oB he) hx h.1).1;have:=Dy hd hx h.2.2 hf (i+1);split at this
   .simp only [abC,h1]; exact this
   .obtain ⟨j,c,q1,q2⟩:=this;exact ⟨j,c,by simp only [abC,h1]; exact q1,q2⟩
  .cases hf
def Pk {e:EK} {d:TypeDesc} (hd:(e=.bool/\d=.bool)\/(e=.int/\∃ k,d=.int k)\/(e=.str/\d=.string)) {k v:AV} {x c:Value} (hx:Rel R w k x) (hv:Rel R w v c):∀ {es es':List (AV×AV)} {aQ:List MapEntry},fO R w es aQ->AA e k v es=some es' ->
  ∀ i,(abC d x aQ i=some none/\jd e k es=aQ.length/\∀ b,fO R w es' (aQ++[{ key:=x,val:=c,born:=b }])) \/
   ∃ j c',abC d x aQ i=some (some (i+j,c'))/\(j=jd e k es/\∃ en,aQ[j]?=some en/\en.key=x/\en.val=c')/\fO R w es' (aQ.modify j λ e=>{ e with key:=x,val:=c })
 |[],es',[],_,h,i=>by simp [AA] at h; subst h; exact .inl ⟨rfl,rfl,λ b=>⟨hx,hv,trivial⟩⟩
 |[],_,_::_,h,_,_=>h.elim
 |_::_,_,[],h,_,_=>h.elim
 |(k',v')::es,es',en::aQ,h,hf,i=>by
  unfold AA at hf;split at hf
  .rename_i he;cases hf;obtain ⟨h1,h2⟩:=qE hd (oB he) hx h.1;have hm:AD e k k'=true:=by unfold AD; rw [he]
   exact .inr ⟨0,en.val,by simp [abC,h1],⟨by simp [jd,hm],en,rfl,(h2 rfl).symm,rfl⟩,by simp only [acu]; exact ⟨hx,hv,h.2.2⟩⟩
  .rename_i he;have h1:=(qE hd (oB he) hx h.1).1;split at hf
   .rename_i r hr;cases hf;have hm:AD e k k'=false:=by unfold AD; rw [he]
    rcases Pk hd hx hv h.2.2 hr (i+1) with ⟨q1,q0,q2⟩|⟨j,c',q1,q2,q3⟩
    .exact .inl ⟨by simp only [abC,h1]; exact q1,by simp [jd,hm,q0],λ b=>⟨h.1,h.2.1,q2 b⟩⟩
    .refine .inr ⟨j+1,c',by simp only [abC,h1]; rw [q1,Nat.add_assoc,Nat.add_comm 1 j],?_,?_⟩
     .obtain ⟨e0,en',e1,e2⟩:=q2;exact ⟨by simp [jd,hm,e0],en',by simpa using e1,e2⟩
     .rw [acJ];exact ⟨h.1,h.2.1,q3⟩
   .cases hf
  .cases hf
def xu {kt:TypeId} {j:TI} (hj:E.ti kt=some j) {k:AV} {x:Value} (hx:Rel R w k x):∀ {es:List (AV×AV)} {aQ:List MapEntry} {r:Option AV},fO R w es aQ->om j.ek k es=some r ->
  ∀ i,match r with
   |none=>(aaS kt x aQ i).run E.P w=.ok none w
   |some v=>∃ n c,(aaS kt x aQ i).run E.P w=.ok (some (n,c)) w/\Rel R w v c
 |[],[],r,_,h,i=>by simp [om] at h; subst h; simp [aaS]
 |[],_::_,_,h,_,_=>h.elim
 |_::_,[],_,h,_,_=>h.elim
 |(k',v)::es,en::aQ,r,h,hf,i=>by
  unfold om at hf;split at hf
  .rename_i he;cases hf;have h1:=(oQ hj (oB he) hx h.1).1;exact ⟨i,en.val,by simp [aaS,acV,acq,h1],h.2.1⟩
  .rename_i he;have h1:=(oQ hj (oB he) hx h.1).1;have:=xu hj hx h.2.2 hf (i+1);split at this
   .simp only [aaS,acV,acq,aaK,h1,aaJ]; exact this
   .obtain ⟨n,c,q1,q2⟩:=this;exact ⟨n,c,by simp only [aaS,acV,acq,aaK,h1,aaJ]; exact q1,q2⟩
  .cases hf
def wK {kt:TypeId} {j:TI} (hj:E.ti kt=some j) (hw:j.ek.wide=true) {k v:AV} {x c:Value} (hx:Rel R w k x) (hv:Rel R w v c):∀ {es es':List (AV×AV)} {aQ:List MapEntry},fO R w es aQ->AA j.ek k v es=some es' ->
  ∀ i,((aaS kt x aQ i).run E.P w=.ok none w/\jd j.ek k es=aQ.length/\∀ b,fO R w es' (aQ++[{ key:=x,val:=c,born:=b }])) \/
   ∃ n c',(aaS kt x aQ i).run E.P w=.ok (some (i+n,c')) w/\(n=jd j.ek k es/\∃ en,aQ[n]?=some en/\en.key=x/\en.val=c')/\fO R w es' (aQ.modify n λ e=>{ e with key:=x,val:=c })
 |[],es',[],_,h,i=>by simp [AA] at h; subst h; exact .inl ⟨by simp [aaS],rfl,λ b=>⟨hx,hv,trivial⟩⟩
 |[],_,_::_,h,_,_=>h.elim
 |_::_,_,[],h,_,_=>h.elim
 |(k',v')::es,es',en::aQ,h,hf,i=>by
  unfold AA at hf;split at hf
  .rename_i he;cases hf;have h1:=(oQ hj (oB he) hx h.1).1;have h2:=J6 (Ui he hw) hx h.1;have hm:AD j.ek k k'=true:=by unfold AD; rw [he]
   exact .inr ⟨0,en.val,by simp [aaS,acV,acq,h1],⟨by simp [jd,hm],en,rfl,h2.symm,rfl⟩,by simp only [acu]; exact ⟨hx,hv,h.2.2⟩⟩
  .rename_i he;have h1:=(oQ hj (oB he) hx h.1).1;split at hf
   .rename_i r hr;cases hf;have hm:AD j.ek k k'=false:=by unfold AD; rw [he]
    rcases wK hj hw hx hv h.2.2 hr (i+1) with ⟨q1,q0,q2⟩|⟨n,c',q1,q2,q3⟩
    .exact .inl ⟨by simp only [aaS,acV,acq,aaK,h1,aaJ]; exact q1,by simp [jd,hm,q0],λ b=>⟨h.1,h.2.1,q2 b⟩⟩
    .refine .inr ⟨n+1,c',?_,?_,?_⟩
     .simp only [aaS,acV,acq,aaK,h1,aaJ];rw [show i+(n+1)=i+1+n by omega];exact q1
     .obtain ⟨e0,en',e1,e2⟩:=q2;exact ⟨by simp [jd,hm,e0],en',by simpa using e1,e2⟩
     .rw [acJ];exact ⟨h.1,h.2.1,q3⟩
   .cases hf
  .cases hf
def oC (hu:E.P.underlying kt=some d) (hd:(∃ fs,d=.struct fs)\/∃ n t,d=.array n t) (x:Value) (es:List MapEntry):(aaL kt x es).run E.P w=(aaS kt x es).run E.P w:=by
 cases es with
 |nil=>simp [aaL,run_underlying hu,abC,aaS]
 |cons e es=>rcases hd with ⟨fs,rfl⟩ | ⟨n,t,rfl⟩ <;> simp [aaL,run_underlying hu,abC,acN]
def yO (hj:E.ti kt=some j) (hu:E.P.underlying kt=some d) (hd:J5 j.ek d) (hx:Rel R w k x) (hM:fO R w es aQ) (hf:om j.ek k es=some none) :
  (aaL kt x aQ).run E.P w=.ok none w:=by
 have Dz:((j.ek=.bool/\d=.bool)\/(j.ek=.int/\∃ k,d=.int k)\/(j.ek=.str/\d=.string))->(aaL kt x aQ).run E.P w=.ok none w:=λ hd=>by
  have:=Dy hd hx hM hf 0;simp [aaL,run_underlying hu,this]
 rcases hd with hd|hd|hd|⟨_,hd⟩
 .exact Dz (.inl hd)
 .exact Dz (.inr (.inl hd))
 .exact Dz (.inr (.inr hd))
 .rw [oC hu hd];exact xu hj hx hM hf 0
def yP (hj:E.ti kt=some j) (hu:E.P.underlying kt=some d) (hd:J5 j.ek d) (hx:Rel R w k x) (hM:fO R w es aQ) (hf:om j.ek k es=some (some v)) :
  ∃ n c,(aaL kt x aQ).run E.P w=.ok (some (n,c)) w/\Rel R w v c:=by
 have Dz:((j.ek=.bool/\d=.bool)\/(j.ek=.int/\∃ k,d=.int k)\/(j.ek=.str/\d=.string))->∃ n c,(aaL kt x aQ).run E.P w=.ok (some (n,c)) w/\Rel R w v c:=λ hd=>by
  obtain ⟨n,c,q1,q2⟩:=Dy hd hx hM hf 0;exact ⟨n,c,by simp [aaL,run_underlying hu,q1],q2⟩
 rcases hd with hd|hd|hd|⟨_,hd⟩
 .exact Dz (.inl hd)
 .exact Dz (.inr (.inl hd))
 .exact Dz (.inr (.inr hd))
 .rw [oC hu hd];exact xu hj hx hM hf 0
def xw (hj:E.ti kt=some j) (hu:E.P.underlying kt=some d) (hd:J5 j.ek d) (hx:Rel R w k x) (hv:Rel R w v c) (hM:fO R w es aQ) (hf:AA j.ek k v es=some es') :
  ((aaL kt x aQ).run E.P w=.ok none w/\jd j.ek k es=aQ.length/\∀ b,fO R w es' (aQ++[{ key:=x,val:=c,born:=b }])) \/
   ∃ n c',(aaL kt x aQ).run E.P w=.ok (some (n,c')) w/\(n=jd j.ek k es/\∃ en,aQ[n]?=some en/\en.key=x/\en.val=c')/\fO R w es' (aQ.modify n λ e=>{ e with key:=x,val:=c }):=by
 have Dz:((j.ek=.bool/\d=.bool)\/(j.ek=.int/\∃ k,d=.int k)\/(j.ek=.str/\d=.string))->((aaL kt x aQ).run E.P w=.ok none w/\jd j.ek k es=aQ.length/\∀ b,fO R w es' (aQ++[{ key:=x,val:=c,born:=b }])) \/
   ∃ n c',(aaL kt x aQ).run E.P w=.ok (some (n,c')) w/\(n=jd j.ek k es/\∃ en,aQ[n]?=some en/\en.key=x/\en.val=c')/\fO R w es' (aQ.modify n λ e=>{ e with key:=x,val:=c }):=λ hd=>by
  rcases Pk hd hx hv hM hf 0 with ⟨q1,q2⟩|⟨n,c',q1,q2,q3⟩
  .exact .inl ⟨by simp [aaL,run_underlying hu,q1],q2⟩
  .rw [aca] at q1;exact .inr ⟨n,c',by simp [aaL,run_underlying hu,q1],q2,q3⟩
 rcases hd with hd|hd|hd|⟨hw,hd⟩
 .exact Dz (.inl hd)
 .exact Dz (.inr (.inl hd))
 .exact Dz (.inr (.inr hd))
 .rcases wK hj hw hx hv hM hf 0 with ⟨q1,q2⟩|⟨n,c',q1,q2,q3⟩
  .exact .inl ⟨by rw [oC hu hd]; exact q1,q2⟩
  .rw [aca] at q1;exact .inr ⟨n,c',by rw [oC hu hd]; exact q1,q2,q3⟩
def qW (hu:E.P.underlying kt=some d) (hd:d=.bool\/(∃ k,d=.int k)\/d=.string) (b:Bool) (x:Value) (n:Nat):(aaR b (n+1) kt x).run E.P w=.ok () w:=by
 rcases hd with rfl|⟨k,rfl⟩|rfl <;> simp [aaR,run_underlying hu]
def run_checkKey (hj:E.ti kt=some j) (hu:E.P.underlying kt=some d) (hd:J5 j.ek d) (hk:mX j.ek k=true) (hx:Rel R w k x) (b:Bool):(aaR b 10000 kt x).run E.P w=.ok () w:=by
 rcases hd with ⟨_,rfl⟩|⟨_,n,rfl⟩|⟨_,rfl⟩|⟨hw,_⟩
 .exact qW hu (.inl rfl) b x 9999
 .exact qW hu (.inr (.inl ⟨n,rfl⟩)) b x 9999
 .exact qW hu (.inr (.inr rfl)) b x 9999
 .have O8:=Uh hj;obtain ⟨fs,hfs⟩:∃ fs,j.ek=.st fs:=by
   cases he:j.ek with
   |st fs=>exact ⟨fs,rfl⟩
   |_=>rw [he] at hw; cases hw
  rw [hfs] at hk;unfold mX at hk;split at hk
  all_goals (try contradiction)
  rename_i fs' cs h1;cases h1;rw [aad] at hk;obtain ⟨r,hr⟩:=acW.1 hk.2;have he:qo (wA E.P 6 kt) (.agg cs) (.agg cs)=some r:=by
   rw [hfs] at O8;have:wA E.P 6 kt=.st fs:=by
    unfold Bt at O8;split at O8
    .rename_i l hl;split at O8
     .cases O8
     .rw [hl,O8]
    .rename_i k mr;exact absurd O8.symm (mr fs)
   rw [this];unfold qo;exact hr
  exact sZ b 6 10000 (by omega) kt (.agg cs) r x he hx
def Rg (h:bG E R w β s a) (hm:mapOf s m=some es) (hx:sR R w β m x) :
  ∃ aQ,fO R w es aQ/\((x=.map none/\aQ=[])\/∃ b es' clock,x=.map (some b)/\w.heap[b]?=some (.map es' clock)/\es'.toList=aQ):=by
 unfold mapOf at hm;split at hm
 .cases hm;have Al:Rel R w .fk x:=hx;cases Al;exact ⟨[],trivial,.inl ⟨rfl,rfl⟩⟩
 .rename_i id;have Al:Rel R w (.map id) x:=hx;cases Al with
  |map hb=>
  split at hm
  .rename_i es' hg;cases hm;obtain ⟨aQ,clock,q1,q2,_⟩:=h.g.obj id _ _ hg hb;exact ⟨aQ.toList,q2,.inr ⟨_,aQ,clock,rfl,q1,rfl⟩⟩
  .cases hm
 .cases hm
def J7 {i:TypeInfo} (h1:E.P.info? t=some i) (h2:jy i=some z):∃ c,(zeroValue t).run E.P w=.ok c w/\Rel R w z c:=by
 obtain ⟨c,hc,hr⟩:=fG h2;exact ⟨c,by simp [zeroValue,typeInfo,run_program,h1,hc],hr R w⟩
def H8 (h:bG E R w β s a) (t:TypeId) (x y:Operand) (ok:Bool) (ho:o.op=.lookup t x y ok) {b:Bool} (hv:rI E s t (cK E s.ae x) (cK E s.ae y)=some (v,b)) :
  c8 E R w β s a o (s.put o.dst (.v (if ok then .cD [v,.bool b] else v))):=by
 have rx:=bi h x;have ry:=bi h y;unfold rI at hv;split at hv
 .rename_i i es k hi hm hk;rw [hk] at ry;have um:Rel R w k (a.eval y):=ry;obtain ⟨aQ,hM,kR⟩:=Rg h hm rx;obtain ⟨lR,u,e1,e2,e3,e4,e5,e6⟩:=fu E hi;split at hv
  .rename_i kt et z hik;split at hv
   .rename_i j hj;split at hv
    .rename_i hc;rw [aad] at hc;rw [hik] at e5;obtain ⟨rfl,ie,g1,g2⟩:=rJ e5;have O8:=Uh hj;have hpl:=hc.1;rw [O8] at hpl;obtain ⟨d,hu,hd⟩:∃ d,E.P.underlying kt=some d/\J5 j.ek d:=by
      rw [O8];exact BB hpl
     have XD:∀ b,(aaR b 10000 kt (a.eval y)).run E.P w=.ok () w:=λ b=>run_checkKey hj hu hd hc.2 um b
     have fin:∀ r,om j.ek k es=some r->r.getD z=v->r.isSome=b->c8 E R w β s a o (s.put o.dst (.v (if ok then .cD [v,.bool b] else v))):=λ r hr q1 q2=>by
      subst q1 q2;have rel:∀ c,Rel R w (r.getD z) c->Rel R w (if ok then .cD [r.getD z,.bool r.isSome] else r.getD z) (if ok then .tuple #[c,.bool r.isSome] else c):=λ c k2=>by
       cases ok
       .exact k2
       .exact Rel.cD (vs:=[c,.bool r.isSome]) (.cons k2 (.cons (.bool _) .nil))
      cases r with
      |none=>
       obtain ⟨c,k1,k2⟩:=J7 (R:=R) (w:=w) g1 g2;have Ml:(aaL kt (a.eval y) aQ).run E.P w=.ok none w:=yO hj hu hd um hM hr;refine aM h (c:=if ok then .tuple #[c,.bool false] else c) ?_ (rel c k2);rcases kR with ⟨hx,rfl⟩|⟨b,es',clock,hx,hb,rfl⟩
       .simp [execOp,ho,adf,hx,run_underlying e2,XD,Ml,k1]
       .simp [execOp,ho,adf,hx,run_underlying e2,getObj,ab6,hb,XD,Ml,k1]
      |some v=>
       obtain ⟨j',c,q1,q2⟩:=yP hj hu hd um hM hr;have Ml:(aaL kt (a.eval y) aQ).run E.P w=.ok (some (j',c)) w:=q1;refine aM h (c:=if ok then .tuple #[c,.bool true] else c) ?_ (rel c q2);rcases kR with ⟨hx,rfl⟩|⟨b,es',clock,hx,hb,rfl⟩
       .simp [execOp,ho,adf,hx,run_underlying e2,XD,Ml]
       .simp [execOp,ho,adf,hx,run_underlying e2,getObj,ab6,hb,XD,Ml]
     split at hv
     .rename_i v' hr; cases hv; exact fin _ hr rfl rfl
     .rename_i hr; cases hv; exact fin _ hr rfl rfl
     .cases hv
    .cases hv
   .cases hv
  .cases hv
 .cases hv
def Rh (p:Option aF) (hc:Rel R' w' v c):Rel R' w' (JM p v) c:=by
 unfold JM;split
 .rename_i sz q k n es;cases hb:(adk sz n || es.isEmpty)
  .exact hc
  .rw [cond_true];rw [Bool.or_eq_true] at hb;cases hc with
   |nq=>exact .kP
   |kP=>exact .kP
   |pd=>exact .pd
   |qq _ _=>exact .kP
   |qQ _ _=>exact .kP
   |list h hl hc hk=>
    rcases hb with hb|hb
    .rw [aag hb];exact .list h hl hc trivial
    .have:es=[]:=List.isEmpty_iff.1 hb;subst this;exact .list .nil hl hc trivial
 .exact hc
def J8 (h:bG E R w β s a) (t:TypeId) (x y:Operand) (ok:Bool) (ho:o.op=.lookup t x y ok) {b:Bool} (hv:qz E s t (cK E s.ae x) (cK E s.ae y)=some (v,b)) :
  c8 E R w β s a o (s.put o.dst (.v (if ok then .cD [v,.bool b] else v))):=by
 unfold qz at hv;split at hv
 .rename_i v0 b0 h0;obtain ⟨rfl,rfl⟩:=cL hv;refine c8.T2 (H8 h t x y ok ho h0) (λ R' w' ex c hc=>?_);have key:∀ d,Rel R' w' v0 d->Rel R' w' (JM (JK E s.G t) v0) d:=λ d hd=>Rh _ hd
  cases ok with
  |false=>exact key _ hc
  |true=>
   have hc:Rel R' w' (.cD [v0,.bool b0]) c:=hc;cases hc with
   |cD h1=>
   cases h1 with
   |cons h1 h2=>exact Rel.cD (.cons (key _ h1) h2)
 .cases hv
def Pl (hj:E.ti kt=some j) (hp:j.ek.plain=true):∃ d,E.P.underlying kt=some d/\J5 j.ek d:=by
 have O8:=Uh hj;rw [O8] at hp ⊢;exact BB hp
def Rj (x:ByteArray):(x == x)=true:=by rw [beq_toListBytes]; simp
def kK (hp:CI k=true) (hx:Rel R w k x) (n:Nat):ab3 n x x=true:=by
 unfold CI at hp;split at hp
 .cases hx; cases n <;> simp [ab3]
 .cases hx; cases n <;> simp [ab3]
 .cases hx; cases n <;> (simp only [ab3]; exact Rj _)
 .cases hp
def yQ (n:Nat):∀ {cs:List AV} {vs:List Value},cs.all CI=true->bj R w cs vs->((vs.zip vs).all λ (x,y)=>ab3 n x y)=true
 |[],_,_,.nil=>rfl
 |a::cs,_,h,.cons h1 h2=>by
  rw [List.all_cons,aad] at h;simp only [List.zip_cons_cons,List.all_cons,kK h.1 h1 n,yQ n h.2 h2,Bool.and_self]
def H9 (n:Nat) (h:((vs.toList.zip vs.toList).all λ (x,y)=>ab3 n x y)=true):ab3 (n+1) (.agg vs) (.agg vs)=true:=by
 simp only [ab3,beq_self_eq_true,Bool.true_and];exact h
def uD (hp:mX e k=true) (hx:Rel R w k x):ab3 10000 x x=true:=by
 unfold mX at hp;split at hp
 .exact kK rfl hx _
 .exact kK rfl hx _
 .exact kK rfl hx _
 .rw [aad] at hp;cases hx with
  |agg hx _=>
  exact H9 9999 (yQ 9999 hp.1 hx)
 .cases hp
def nZ.push {aQ:Array MapEntry} {clock:Nat} (h:nZ aQ clock) (x c:Value):nZ (aQ.push { key:=x,val:=c,born:=clock }) (clock+1):=by
 obtain ⟨rfl,h2⟩:=h;refine ⟨by simp,λ i e he=>?_⟩;rw [acO] at he;rcases Nat.lt_or_ge i aQ.toList.length with du|FR
 .rw [List.getElem?_append_left du] at he;exact h2 i e he
 .rw [List.getElem?_append_right FR] at he;have hl:=(List.getElem?_eq_some_iff.1 he).1;have hl:i - aQ.toList.length < 1:=hl;have h0:i - aQ.toList.length=0:=by omega
  rw [h0] at he;simp only [adi,ad3] at he;subst he;have hs:aQ.toList.length=aQ.size:=ab1;show aQ.size=i;omega
def nZ.modify {aQ:Array MapEntry} {clock:Nat} (h:nZ aQ clock) (n:Nat) (x c:Value):nZ (aQ.modify n λ e=>{ e with key:=x,val:=c }) clock:=by
 obtain ⟨rfl,h2⟩:=h;refine ⟨by simp,λ i e he=>?_⟩;rw [ab5,acd] at he;cases hi:aQ.toList[i]? with
 |none=>rw [hi] at he; cases he
 |some e'=>
  rw [hi] at he;have h3:=h2 i e' hi;have he:(if n=i then { key:=x,val:=c,born:=e'.born } else e':MapEntry)=e:=acg he;by_cases hn:n=i
  .rw [if_pos hn] at he;subst he; exact h3
  .rw [if_neg hn] at he;subst he; exact h3
def tW (h:bG E R w β s a) (t:TypeId) (x y z:Operand) (ho:o.op=.mapUpdate t x y z\/o.op=.insert t x y z) (hd:o.dst=none) {z':SV} (rz:sR R w β z' (a.eval z)) (hv:gN E s t (cK E s.ae x) (cK E s.ae y) z'=some s') :
  c8 E R w β s a o s':=by
 have rx:=bi h x;have ry:=bi h y;unfold gN at hv;split at hv
 .rename_i i id k v hi hm hk;rw [hm] at rx;rw [hk] at ry;have gu:Rel R w (.map id) (a.eval x):=rx;have um:Rel R w k (a.eval y):=ry;have rz':Rel R w v (a.eval z):=rz;split at hv
  .rename_i kt et ez es hik hg;split at hv
   .rename_i j hj;split at hv
    .rename_i hc;rw [aad] at hc;split at hv
     .rename_i es' MK;cases hv;obtain ⟨lR,u,e1,e2,e3,e4,e5,e6⟩:=fu E hi;rw [hik] at e5;obtain ⟨rfl,ie,g1,g2⟩:=rJ e5;obtain ⟨d,hu,hD⟩:=Pl hj hc.1;generalize kR:a.eval x=xv at gu;cases gu with
      | @map _ b hb=>
      obtain ⟨aQ,clock,q1,q2,q3⟩:=h.g.obj id _ _ hg hb;have du:=cu q1;have XD:(aaR false 10000 kt (a.eval y)).run E.P w=.ok () w:=run_checkKey hj hu hD hc.2 um _;have oA:(getObj b).run E.P w=.ok (.map aQ clock) w:=by simp [getObj,ab6,q1]
      have rO:∀ o',(setObj b o').run E.P w=.ok () (World.put w b o'):=λ o'=>by
       simp [setObj,ab6,World.put,q1]
      have fin:∀ pq mC,fO R w es' pq.toList->nZ pq mC->(execOp a.eval o).run E.P w=.ok .skip (World.put w b (.map pq mC)) ->
        c8 E R w β s a o (s.cM (aC s.G id (.map es'))):=λ pq mC k1 k2 k3=>by
       have hex:=sY (R:=R) (x':=.map pq mC) q1 trivial trivial (λ _ e=>by cases e);obtain ⟨p1,p2⟩:=h.setObj (x':=.map pq mC) (go':=.map es') hb q1 trivial trivial (λ _ e=>by cases e) ⟨pq,mC,kA w b _ du,k1.mono hex,k2⟩;refine ⟨.skip,undef,_,R,β,k3,.inr ⟨rfl,rfl⟩,?_,p2⟩;rw [hd];exact p1
      rcases xw hj hu hD um rz' q2 MK with ⟨k1,_,k2⟩|⟨n,c',k1,⟨_,en,k2,k3,_⟩,k4⟩
      .have Ml:(aaL kt (a.eval y) aQ.toList).run E.P w=.ok none w:=k1;refine fin (aQ.push { key:=a.eval y,val:=a.eval z,born:=clock }) (clock+1) (by rw [acO]; exact k2 clock) (q3.push _ _) ?_
       .rcases ho with ho|ho <;> simp [execOp,ho,Instr.mapUpdate,kR,run_underlying e2,oA,XD,Ml,rO]
      .have Ml:(aaL kt (a.eval y) aQ.toList).run E.P w=.ok (some (n,c')) w:=k1;have hen:aQ[n]?=some en:=by rw [<- acK]; exact k2
       have Dp:(aci (a.eval y) (a.eval y)).run E.P w=.ok (a.eval y) w:=by simp [aci,uD hc.2 um]
       refine fin (aQ.modify n λ e=>{ e with key:=a.eval y,val:=a.eval z }) clock (by rw [ab5]; exact k4) (q3.modify n _ _) ?_
       .rcases ho with ho|ho <;> simp [execOp,ho,Instr.mapUpdate,kR,run_underlying e2,oA,XD,Ml,hen,k3,Dp,rO]
     .cases hv
    .cases hv
   .cases hv
  .cases hv
 .cases hv
def DA (h:bG E R w β s a) (t:TypeId) (x y z:Operand) (ho:o.op=.mapUpdate t x y z\/o.op=.insert t x y z) (hd:o.dst=none) (hv:gN E s t (cK E s.ae x) (cK E s.ae y) (cK E s.ae z)=some s') :
  c8 E R w β s a o s':=tW h t x y z ho hd (bi h z) hv
def M3 (h:bG E R w β s a) (t:TypeId) (x:Operand) (ho:o.op=.range t x) (hi:E.ti t=some i) (hk:i.k=.str) (hx:cK E s.ae x=.v (.str l)) :
  c8 E R w β s a o ((s.gj (.ke l 0)).put o.dst (.v (.ptr s.G.length 0))):=by
 have rx:=bi h x;rw [hx] at rx;have gu:Rel R w (.str l) (a.eval x):=rx;obtain ⟨lR,u,e1,e2,e3,e4,e5,e6⟩:=fu E hi;rw [hk] at e5;have hu:=Df e5;subst hu;have kx:ku (R.add (.cN w.heap.size)) (w.alloc (.stringIter ⟨⟨l⟩⟩ 0)) (.ke l 0) (.cN w.heap.size):=heap_alloc_new w _;refine ⟨_,.pointer (some ⟨w.heap.size,0,none⟩),w.alloc (.stringIter ⟨⟨l⟩⟩ 0),R.add (.cN w.heap.size),β,?_,.inl rfl,(h.qT (.stringIter ⟨⟨l⟩⟩ 0) (.ke l 0) (.cN w.heap.size) (by exact λ _ h=>h) kx).put o.dst (x:=.v (.ptr s.G.length 0)) (Rel.ptr (kJ h _)),by rw [bQ]; exact fI h _ _ (by exact λ _ h=>h)⟩;generalize kR:a.eval x=xv at gu;cases gu;simp only [execOp,ho,kR,Instr.range,aaK,run_underlying e2,run_newObj,aaJ,aa5];rfl
def M4 (l:List UInt8) (pos:Nat) (h:pos < l.length):iQ l pos=Utf8.decode ⟨⟨l⟩⟩ pos:=by
 unfold iQ;cases hb:Nat.blt (l.getD pos 0).toNat 128 with
 |false=>rfl
 |true=>
  have du:(l.getD pos 0).toNat < 128:=aba hb;have e:(aeJ ⟨⟨l⟩⟩ (pos+0))=l.getD pos 0:=by
   simp [aeJ,h,List.getD_eq_getElem?_getD]
  simp only [cond_true,Utf8.decode,e];rw [if_pos (show (l.getD pos 0).toNat < 0x80 from du)]
def Rk (h:bG E R w β s a) (x:Operand) (ho:o.op=.next x true) (hv:qA s o.dst (cK E s.ae x)=some s'):c8 E R w β s a o s':=by
 have rx:=bi h x;unfold qA at hv;split at hv
 .rename_i id hx;rw [hx] at rx;have gu:Rel R w (.ptr id 0) (a.eval x):=rx;generalize kR:a.eval x=xv at gu;cases gu with
  | @ptr _ _ b hb=>
  split at hv
  .rename_i l pos hg;have q1:w.heap[b]?=some (.stringIter ⟨⟨l⟩⟩ pos):=h.g.obj id _ _ hg hb;have du:=cu q1;have oA:(getObj b).run E.P w=.ok (.stringIter ⟨⟨l⟩⟩ pos) w:=by simp [getObj,ab6,q1]
   have rO:∀ o',(setObj b o').run E.P w=.ok () (World.put w b o'):=λ o'=>by
    simp [setObj,ab6,World.put,q1]
   cases nt:Nat.blt pos l.length with
   |true=>
    rw [nt] at hv;have hp:pos < l.length:=aba nt;simp only [cond_true] at hv;generalize Rb:iQ l pos=p at hv;obtain ⟨c,n⟩:=p;cases hv;rw [M4 l pos hp] at Rb;obtain ⟨p1,p2⟩:=h.setObj (x':=.stringIter ⟨⟨l⟩⟩ (pos+n)) (go':=.ke l (pos+n)) hb q1 trivial trivial (λ _ e=>by cases e) (kA w b _ du);have iJ:pos < (⟨⟨l⟩⟩:ByteArray).size:=hp;refine ⟨.value (.tuple #[.bool true,.int .i64 pos,.int .i32 c]),_,_,R,β,?_,.inl rfl,p1.put o.dst (x:=.v (.cD [.bool true,.int .i64 pos,.int .i32 c])) (Rel.cD (vs:=[.bool true,.int .i64 pos,.int .i32 c]) (.cons (.bool _) (.cons (.int _ _) (.cons (.int _ _) .nil)))),by rw [bQ]; exact p2⟩;simp [execOp,ho,kR,Instr.next,oA,iJ,Rb,rO,goInt]
   |false=>
    rw [nt] at hv;simp only [cond_false] at hv;cases hv;have hp:¬ pos < l.length:=λ hh=>by
     have:Nat.blt pos l.length=true:=Nat.ble_eq_true_of_le hh;rw [nt] at this; cases this
    have iJ:¬ pos < (⟨⟨l⟩⟩:ByteArray).size:=hp;refine aM h (c:=.tuple #[.bool false]) ?_ (Rel.cD (vs:=[.bool false]) (.cons (.bool _) .nil));simp [execOp,ho,kR,Instr.next,oA,iJ]
  .cases hv
 .cases hv
def fO.get:∀ {es:List (AV×AV)} {aQ:List MapEntry} {i:Nat} {e:MapEntry},fO R w es aQ->aQ[i]?=some e->Rel R w (sM es i).1 e.key/\Rel R w (sM es i).2 e.val
 |[],[],i,e,_,he=>by simp at he
 |(k,v)::_,en::_,0,e,h,he=>by
  simp only [adi,ad3] at he;subst he;exact ⟨h.1,h.2.1⟩
 |(_,_)::es,_::aQ,i+1,e,h,he=>by
  simp only [adj] at he;exact fO.get (es:=es) h.2.2 he
 |[],_::_,_,_,h,_=>h.elim
 |_::_,[],_,_,h,_=>h.elim
def M5 (E:Env) (t:TypeId) (e:AV×AV):yt E t e=(true,e.1,e.2)\/∃ pv pk:aF,yt E t e=(pk.fits e.1&&pv.fits e.2,pk.enc (pk.bW e.1),pv.enc (pv.bW e.2)):=by
 unfold yt;split
 .split
  .split
   .rename_i pv pk _ _;exact .inr ⟨pv,pk,rfl⟩
   .exact .inl rfl
  .exact .inl rfl
 .exact .inl rfl
def J9 {e:AV×AV} (hf:(yt E t e).1=true) (h:Rel R w e.1 x/\Rel R w e.2 y):Rel R w (yt E t e).2.1 x/\Rel R w (yt E t e).2.2 y:=by
 rcases M5 E t e with he|⟨pv,pk,he⟩
 .rw [he]; exact h
 .rw [he] at hf ⊢;simp only [aad] at hf;exact ⟨(pk.fF hf.1).kj _ _ _ h.1,(pv.fF hf.2).kj _ _ _ h.2⟩
def Ka (h:bG E R w β s a) (t:TypeId) (x:Operand) (ho:o.op=.range t x) {kt et:TypeId} (hi:E.ti t=some i) (hk:i.k=.map kt et ez) (hx:cK E s.ae x=.v (.map id)) (hg:nth s.G id=some (.map es)) :
  c8 E R w β s a o ((s.gj (.lM id es.length (adn es.length) none t)).put o.dst (.v (.ptr s.G.length 0))):=by
 have rx:=bi h x;rw [hx] at rx;have gu:Rel R w (.map id) (a.eval x):=rx;obtain ⟨lR,u,e1,e2,e3,e4,e5,e6⟩:=fu E hi;rw [hk] at e5;obtain ⟨rfl,ie,g1,g2⟩:=rJ e5;generalize kR:a.eval x=xv at gu;cases gu with
 | @map _ b hb=>
 obtain ⟨aQ,clock,q1,q2,q3,q4⟩:=h.g.obj id _ _ hg hb;have hlen:=q2.length;have du:=cu q1;subst q3;have kx:ku (R.add (.cN w.heap.size)) (w.alloc (.mapIter (some b) aQ.size #[] aQ.size)) (.lM id es.length (adn es.length) none t) (.cN w.heap.size):=by
  refine ⟨b,#[],aQ.size,dg hb,?_,λ j hj=>?_,λ j hj=>List.mem_range.1 hj,List.nodup_range,?_,λ i hi=>by cases hi⟩
  .rw [hlen,ab1]; exact heap_alloc_new w _
  .simp [List.mem_range,hj]
  .rw [hlen,ab1]; exact ab9 _
 refine ⟨_,.pointer (some ⟨w.heap.size,0,none⟩),w.alloc (.mapIter (some b) aQ.size #[] aQ.size),R.add (.cN w.heap.size),β,?_,.inl rfl,(h.qT _ _ (.cN w.heap.size) (by exact λ _ h=>h) kx).put o.dst (x:=.v (.ptr s.G.length 0)) (Rel.ptr (kJ h _)),by rw [bQ]; exact fI h _ _ (by exact λ _ h=>h)⟩;have oA:(getObj b).run E.P w=.ok (.map aQ aQ.size) w:=by simp [getObj,ab6,q1]
 simp only [execOp,ho,kR,Instr.range,aaK,run_underlying e2,oA,run_newObj,aaJ,aa5];rfl
def mem_erase_iff {l:List Nat} (hn:l.Nodup) (i j:Nat):j∈l.erase i↔j≠i/\j∈l:=hn.mem_erase_iff
def M6 (h:bG E R w β s a) (x:Operand) (ho:o.op=.next x false) (hv:Gw E s o.dst (cK E s.ae x)=some (true,s0,left,g)) :
  (left=[]/\c8 E R w β s a o s0)\/∃ i∈left,(g i).1=true->c8 E R w β s a o (g i).2:=by
 have rx:=bi h x;unfold Gw at hv;split at hv
 .rename_i id hx;rw [hx] at rx;have gu:Rel R w (.ptr id 0) (a.eval x):=rx;generalize kR:a.eval x=xv at gu;cases gu with
  | @ptr _ _ r hr=>
  split at hv
  .rename_i kY n GN ad1 tt hg;split at hv
   .rename_i es hm;injection hv with hv; injection hv with h1 hv; injection hv with h2 hv; injection hv with h3 h4;subst h2; subst h3; subst h4;have hn:=of_decide_eq_true h1;obtain ⟨b,seen,c0,m1,m2,m3,m4,m5,m6,_⟩:=h.g.obj id _ _ hg hr;obtain ⟨aQ,clock,q1,q2,q3,q4⟩:=h.g.obj kY _ _ hm m1;subst q3;have hlen:=q2.length;have Ia:aQ.toList.length=aQ.size:=ab1;have iJ:aQ.size=n:=by omega
    have hold:∀ y∈aQ.toList,y.born < n:=λ y hy=>by
     obtain ⟨i,hi,hiy⟩:=adF hy;have:=q4 i y (by rw [abk hi,hiy]);omega
    rcases run_next_at (P:=E.P) w o.type r b n c0 seen aQ aQ.size m2 q1 hold m6 with ⟨k1,k2⟩|⟨en,k1,w1,k2,k3⟩
    .refine .inl ⟨?_,?_⟩
     .apply List.eq_nil_iff_forall_not_mem.2;intro i hi;have JA:=m4 i hi;have hs:=(m3 i JA).1 hi;have Uj:i < aQ.toList.length:=by omega
      have oA:aQ.toList[i]?=some aQ.toList[i]:=abk Uj;have hb:=q4 i _ oA;have iH:aQ.toList[i]∈(leftOf aQ seen).toList:=by
       unfold leftOf;rw [adO,List.mem_filter];exact ⟨List.getElem_mem _,by rw [hb,hs]; rfl⟩
      have h0:(leftOf aQ seen).toList=[]:=List.eq_nil_of_length_eq_zero (by rw [ab1]; exact k1);rw [h0] at iH;simp at iH
     .refine aM h (c:=.tuple #[.bool false]) ?_ (Rel.cD (vs:=[.bool false]) (.cons (.bool _) .nil));simp [execOp,ho,kR,k2]
    .have iH:en∈aQ.toList/\seen.contains en.born=false:=by
      unfold leftOf at k1;rw [adO,List.mem_filter] at k1;exact ⟨k1.1,by simpa using k1.2⟩
     obtain ⟨i,hi,hie⟩:=adF iH.1;have oA:aQ.toList[i]?=some en:=by rw [abk hi,hie]
     have hb:=q4 i en oA;have JA:i < n:=by omega
     have Uj:i∈GN:=(m3 i JA).2 (by rw [<- hb]; exact iH.2);refine .inr ⟨i,Uj,λ Dv=>?_⟩
     have hw1:bG E R w1 β s a/\Step R w β s.boxes R w1 β s.boxes:=by
      rcases k2 with rfl|rfl
      .exact ⟨h,Step.refl _ _ _ _⟩
      .exact h.drew.2
     obtain ⟨cV,mh⟩:=hw1;have Mm:w1.heap[r]?=some (.mapIter (some b) n seen c0):=by rcases k2 with rfl | rfl <;> exact m2
     have du:=cu Mm;have ajG:(setBlock w1 r (.mapIter (some b) n (seen.push en.born) aQ.size))=World.put w1 r (.mapIter (some b) n (seen.push en.born) aQ.size):=rfl;have hex:=sY (R:=R) (x':=.mapIter (some b) n (seen.push en.born) aQ.size) Mm trivial trivial (λ _ e=>by cases e);obtain ⟨p1,p2⟩:=cV.setObj (x':=.mapIter (some b) n (seen.push en.born) aQ.size) (go':=.lM kY n (GN.erase i) (some i) tt) hr Mm trivial trivial (λ _ e=>by cases e)
      ⟨b,seen.push en.born,aQ.size,m1,kA w1 r _ du,λ j hj=>by
       rw [mem_erase_iff m5,Array.contains_push,m3 j hj,hb];by_cases e:j=i
       .subst e; simp
       .have e':¬ i=j:=λ h=>e h.symm
        simp [e,e'],λ j hj=>m4 j (List.mem_of_mem_erase hj),m5.erase i,by omega,λ j hj=>by
       cases hj;exact ⟨by rw [hb]; simp,iJ⟩⟩
     obtain ⟨z1,z2⟩:=J9 Dv (q2.get oA);have ajH:=mh.ext.trans p2.ext;refine ⟨.value (.tuple #[.bool true,en.key,en.val]),_,_,R,β,?_,.inl rfl,p1.put o.dst (x:=.v (.cD [.bool true,(yt E tt (sM es i)).2.1,(yt E tt (sM es i)).2.2])) (Rel.cD (vs:=[.bool true,en.key,en.val]) (.cons (.bool _) (.cons (z1.mono ajH) (.cons (z2.mono ajH) .nil)))),by rw [bQ]; exact mh.trans p2⟩;simp [execOp,ho,kR,k3,ajG]
   .cases hv
  .cases hv
 .cases hv
def DB:∀ (l:List MapEntry) (off i:Nat),(∀ (k:Nat) (e:MapEntry),l[k]?=some e->e.born=off+k)->i < l.length->l.find? (λ e=>e.born == off+i)=l[i]?
 |[],_,_,_,h=>by simp at h
 |e::l,off,0,hs,_=>by
  have:=hs 0 e rfl;simp [this]
 |e::l,off,i+1,hs,h=>by
  have h0:=hs 0 e rfl;have de:(e.born == off+(i+1))=false:=by simp; omega
  rw [List.find?_cons_of_neg (by simp [de]),adj];have:=DB l (off+1) i (λ k e' hk=>by have:=hs (k+1) e' (by simpa using hk); omega) (by simpa using h);rw [show off+(i+1)=off+1+i by omega];exact this
def wN:∀ (l:List MapEntry) (off i:Nat),(∀ (k:Nat) (e:MapEntry),l[k]?=some e->e.born=off+k)->i < l.length->l.findIdx? (λ e=>(e.born:Int) == ((off+i:Nat):Int))=some i
 |[],_,_,_,h=>by simp at h
 |e::l,off,0,hs,_=>by
  have:=hs 0 e rfl;simp [List.findIdx?_cons,this]
 |e::l,off,i+1,hs,h=>by
  have h0:=hs 0 e rfl;have de:((e.born:Int) == ((off+(i+1):Nat):Int))=false:=by simp; omega
  have:=wN l (off+1) i (λ k e' hk=>by have:=hs (k+1) e' (by simpa using hk); omega) (by simpa using h);rw [show off+1+i=off+(i+1) by omega] at this;rw [List.findIdx?_cons,de,this];rfl
def nZ.keep {aQ:Array MapEntry} (h:nZ aQ clock) (n:Nat) {f:MapEntry->MapEntry} (hf:∀ e,(f e).born=e.born):nZ (aQ.modify n f) clock:=by
 obtain ⟨rfl,h2⟩:=h;refine ⟨by simp,λ i e he=>?_⟩;rw [ab5,acd] at he;cases hi:aQ.toList[i]? with
 |none=>rw [hi] at he; cases he
 |some e'=>
  rw [hi] at he;have h3:=h2 i e' hi;have he:(if n=i then f e' else e')=e:=acg he;by_cases hn:n=i
  .rw [if_pos hn] at he;subst he; rw [hf]; exact h3
  .rw [if_neg hn] at he;subst he; exact h3
def fO.lP {v:AV} {c:Value} (hv:Rel R w v c):∀ {es:List (AV×AV)} {aQ:List MapEntry} (n:Nat),fO R w es aQ->fO R w (lP es n v) (aQ.modify n λ e=>{ e with val:=c })
 |[],[],n,_=>by cases n <;> trivial
 |[],_::_,_,h=>h.elim
 |_::_,[],_,h=>h.elim
 |(_,_)::_,_::_,0,h=>by
  rw [acu];exact ⟨h.1,hv,h.2.2⟩
 |(_,_)::_,_::_,n+1,h=>by
  rw [acJ];exact ⟨h.1,h.2.1,fO.lP hv n h.2.2⟩
def ace (h:(JL e k k').isSome=true):JL e k k'=some (AD e k k'):=by
 obtain ⟨b,hb⟩:=acW.1 h;simp only [AD,hb]
def Kb {e:EK} {k:AV}:∀ {es:List (AV×AV)},bL e k es=true->om e k es=some (gO e k es)
 |[],_=>rfl
 |(k',v)::es,h=>by
  simp only [bL,aad] at h;simp only [om,gO,ace h.1];cases hb:AD e k k' with
  |true=>rfl
  |false=>simp only [cond_false]; exact Kb h.2
def Pm {e:EK} {k v:AV}:∀ {es:List (AV×AV)},bL e k es=true->AA e k v es=some (eL e k v es)
 |[],_=>rfl
 |(k',v')::es,h=>by
  simp only [bL,aad] at h;simp only [AA,eL,ace h.1];cases hb:AD e k k' with
  |true=>rfl
  |false=>simp only [cond_false,Pm h.2]
def M7 (h:bG E R w β s a) (x:Operand) (ho:o.op=.entry x) (hv:AE E s (cK E s.ae x)=some (true,v)):c8 E R w β s a o (s.put o.dst (.v v)):=by
 have rx:=bi h x;unfold AE at hv;split at hv
 .rename_i id hx;rw [hx] at rx;have gu:Rel R w (.ptr id 0) (a.eval x):=rx;generalize kR:a.eval x=xv at gu;cases gu with
  | @ptr _ _ r hr=>
  split at hv
  .rename_i kY n GN i tt hg;split at hv
   .rename_i es hm;obtain ⟨h1,rfl⟩:=cL hv;rw [aad,aad,decide_eq_true_eq,decide_eq_true_eq] at h1;obtain ⟨⟨hn,hi⟩,Dv⟩:=h1;obtain ⟨b,seen,c0,m1,m2,m3,m4,m5,m6,m7⟩:=h.g.obj id _ _ hg hr;obtain ⟨z1,z2⟩:=m7 i rfl;obtain ⟨aQ,clock,q1,q2,q3,q4⟩:=h.g.obj kY _ _ hm m1;subst q3;have hlen:=q2.length;have Ia:aQ.toList.length=aQ.size:=ab1;have Uj:i < aQ.toList.length:=by omega
    have hfd:aQ.find? (λ e=>e.born == i)=some aQ.toList[i]:=by
     have:=DB aQ.toList 0 i (λ k e hk=>by rw [aca]; exact q4 k e hk) Uj;rw [aca,abk Uj] at this;rw [<- this]; simp
    have oA:aQ.toList[i]?=some aQ.toList[i]:=abk Uj;obtain ⟨y1,y2⟩:=J9 Dv (q2.get oA);have hc:aQ.size=c0:=by omega
    refine aM h (c:=.tuple #[(aQ.toList[i]).key,(aQ.toList[i]).val]) ?_ (Rel.cD (vs:=[(aQ.toList[i]).key,(aQ.toList[i]).val]) (.cons y1 (.cons y2 .nil)));simp [execOp,ho,kR,Instr.entry,getObj,ab6,m2,z1,q1,hc,hfd]
   .cases hv
  .cases hv
 .cases hv
def FY (h:bG E R w β s a) (t:TypeId) (x y:Operand) (ho:o.op=.mapEntry t x y) (hv:jW E s t (cK E s.ae x) (cK E s.ae y)=some (true,v,s')) :
  c8 E R w β s a o (s'.put o.dst (.v v)):=by
 have rx:=bi h x;have ry:=bi h y;unfold jW at hv;split at hv
 .rename_i i id k hi hm hk;rw [hm] at rx;rw [hk] at ry;have gu:Rel R w (.map id) (a.eval x):=rx;have um:Rel R w k (a.eval y):=ry;split at hv
  .rename_i kt et z es hik hg;split at hv
   .rename_i j hj;split at hv
    .rename_i hc;rw [aad] at hc;injection hv with hv; injection hv with hmk hv; injection hv with h2 h3;subst h2; subst h3;obtain ⟨lR,u,e1,e2,e3,e4,e5,e6⟩:=fu E hi;rw [hik] at e5;obtain ⟨rfl,ie,g1,g2⟩:=rJ e5;obtain ⟨d,hu,hD⟩:=Pl hj hc.1;generalize kR:a.eval x=xv at gu;cases gu with
     | @map _ b hb=>
     obtain ⟨aQ,clock,q1,q2,q3⟩:=h.g.obj id _ _ hg hb;have du:=cu q1;have XD:(aaR false 10000 kt (a.eval y)).run E.P w=.ok () w:=run_checkKey hj hu hD hc.2 um _;have oA:(getObj b).run E.P w=.ok (.map aQ clock) w:=by simp [getObj,ab6,q1]
     have rO:∀ o',(setObj b o').run E.P w=.ok () (World.put w b o'):=λ o'=>by
      simp [setObj,ab6,World.put,q1]
     have fin:∀ es' pq mC c (n:Nat),fO R w es' pq.toList->nZ pq mC->(execOp a.eval o).run E.P w=.ok (.value (.tuple #[c,.int .i64 n])) (World.put w b (.map pq mC))->Rel R w (bu j.ek k z es) c->n=jd j.ek k es->es'=eL j.ek k (bu j.ek k z es) es ->
       c8 E R w β s a o ((s.cM (aC s.G id (.map (eL j.ek k (bu j.ek k z es) es)))).put o.dst (.v (.cD [bu j.ek k z es,.int .i64 (jd j.ek k es:Nat)]))):=λ es' pq mC c n k1 k2 k3 k4 k5 k6=>by
      subst k5; subst k6;have hex:=sY (R:=R) (x':=.map pq mC) q1 trivial trivial (λ _ e=>by cases e);obtain ⟨p1,p2⟩:=h.setObj (x':=.map pq mC) (go':=.map (eL j.ek k (bu j.ek k z es) es)) hb q1 trivial trivial (λ _ e=>by cases e) ⟨pq,mC,kA w b _ du,k1.mono hex,k2⟩;exact ⟨.value (.tuple #[c,.int .i64 (jd j.ek k es:Nat)]),_,_,R,β,k3,.inl rfl,p1.put o.dst (x:=.v (.cD [bu j.ek k z es,.int .i64 (jd j.ek k es:Nat)])) (Rel.cD (vs:=[c,.int .i64 (jd j.ek k es:Nat)]) (.cons (k4.mono p2.ext) (.cons (.int _ _) .nil))),by rw [bQ]; exact p2⟩
     have hmf:=Kb hmk;have MK:=Pm (v:=bu j.ek k z es) hmk;cases jB:gO j.ek k es with
     |none=>
      rw [jB] at hmf;have hgz:bu j.ek k z es=z:=by unfold bu; rw [jB]; rfl
      obtain ⟨c,k1,k2⟩:=J7 (R:=R) (w:=w) g1 g2;have Ml:(aaL kt (a.eval y) aQ.toList).run E.P w=.ok none w:=yO hj hu hD um q2 hmf;rcases xw hj hu hD um (show Rel R w (bu j.ek k z es) c by rw [hgz]; exact k2) q2 MK with ⟨_,k3,k4⟩|⟨n,c',k3,_⟩
      .have iJ:aQ.toList.length=aQ.size:=ab1;have nW:clock=aQ.size:=q3.1;refine fin _ (aQ.push { key:=a.eval y,val:=c,born:=clock }) (clock+1) c clock (by rw [acO]; exact k4 clock) (q3.push _ _) ?_ (by rw [hgz]; exact k2) (by rw [k3]; omega) rfl;simp [execOp,ho,Instr.mapEntry,kR,run_underlying e2,oA,XD,Ml,rO,k1,goInt]
      .rw [Ml] at k3;cases k3
     |some v0=>
      rw [jB] at hmf;have hgz:bu j.ek k z es=v0:=by unfold bu; rw [jB]; rfl
      obtain ⟨n0,c0,k1,k2⟩:=yP hj hu hD um q2 hmf;have Ml:(aaL kt (a.eval y) aQ.toList).run E.P w=.ok (some (n0,c0)) w:=k1;rcases xw hj hu hD um (show Rel R w (bu j.ek k z es) c0 by rw [hgz]; exact k2) q2 MK with ⟨k3,_⟩|⟨n,c',k3,⟨k4,en,k5,k6,k7⟩,k8⟩
      .rw [Ml] at k3;cases k3
      .rw [Ml] at k3;cases k3;have hen:aQ[n0]?=some en:=by rw [<- acK]; exact k5
       have Dp:(aci (a.eval y) (a.eval y)).run E.P w=.ok (a.eval y) w:=by simp [aci,uD hc.2 um]
       have ajJ:en.born=n0:=q3.2 n0 en k5;have an1:(aQ.modify n0 λ e=>{ e with key:=a.eval y }).toList=aQ.toList.modify n0 λ e=>{ e with key:=a.eval y,val:=c0 }:=by
        rw [ab5];apply List.ext_getElem?;intro m;rw [acd,acd];by_cases Tc:n0=m
        .subst Tc;rw [k5];simp [k7]
        .simp [Tc]
       refine fin _ (aQ.modify n0 λ e=>{ e with key:=a.eval y }) clock c0 n0 (by rw [an1]; exact k8) (q3.keep n0 λ _=>rfl) ?_ (by rw [hgz]; exact k2) k4 rfl;simp [execOp,ho,Instr.mapEntry,kR,run_underlying e2,oA,XD,Ml,rO,hen,k6,Dp,ajJ,goInt]
    .cases hv
   .cases hv
  .cases hv
 .cases hv
def Ck (h:bG E R w β s a) (t:TypeId) (x y z:Operand) (ho:o.op=.entryStore t x y z) (hd:o.dst=none) (hv:gP s (cK E s.ae x) (cK E s.ae y) (cK E s.ae z)=some (true,s')) :
  c8 E R w β s a o s':=by
 have rx:=bi h x;have ry:=bi h y;have rz:=bi h z;unfold gP at hv;split at hv
 .rename_i id n v hm hk hz;rw [hm] at rx;rw [hk] at ry;rw [hz] at rz;have gu:Rel R w (.map id) (a.eval x):=rx;have um:Rel R w (.int .i64 n) (a.eval y):=ry;have rz':Rel R w v (a.eval z):=rz;split at hv
  .rename_i es hg;obtain ⟨hc,rfl⟩:=cL hv;rw [aad,decide_eq_true_eq,decide_eq_true_eq] at hc;obtain ⟨m,rfl⟩:∃ m:Nat,n=m:=⟨n.toNat,by omega⟩;have hml:m < es.length:=by simpa using hc.2
   generalize kR:a.eval x=xv at gu;generalize hyv:a.eval y=yv at um;cases um;cases gu with
   | @map _ b hb=>
   obtain ⟨aQ,clock,q1,q2,q3⟩:=h.g.obj id _ _ hg hb;have du:=cu q1;have hlen:=q2.length;have oA:(getObj b).run E.P w=.ok (.map aQ clock) w:=by simp [getObj,ab6,q1]
   have rO:∀ o',(setObj b o').run E.P w=.ok () (World.put w b o'):=λ o'=>by
    simp [setObj,ab6,World.put,q1]
   have hfi:aQ.findIdx? (λ e=>(e.born:Int) == (m:Int))=some m:=by
    have:=wN aQ.toList 0 m (λ k e hk=>by rw [aca]; exact q3.2 k e hk) (by omega);rw [aca] at this;rw [<- this];obtain ⟨l⟩:=aQ;exact List.findIdx?_toArray ..
   have k1:fO R w (lP es m v) (aQ.modify m λ e=>{ e with val:=a.eval z }).toList:=by rw [ab5]; exact fO.lP rz' m q2
   have hex:=sY (R:=R) (x':=.map (aQ.modify m λ e=>{ e with val:=a.eval z }) clock) q1 trivial trivial (λ _ e=>by cases e);obtain ⟨p1,p2⟩:=h.setObj (x':=.map (aQ.modify m λ e=>{ e with val:=a.eval z }) clock) (go':=.map (lP es m v)) hb q1 trivial trivial (λ _ e=>by cases e) ⟨_,clock,kA w b _ du,k1.mono hex,q3.keep m λ _=>rfl⟩;refine ⟨.skip,undef,_,R,β,?_,.inr ⟨rfl,rfl⟩,?_,p2⟩
   .simp [execOp,ho,Instr.entryStore,kR,hyv,oA,asInt,asIntOf,hfi,rO]
   .rw [hd];exact p1
  .cases hv
 .cases hv
end maps
end Go.Am
namespace Go.Am
open Go
section ops
variable {E:Env} {R:ak} {w:World} {β:Nat->Nat} {s:St} {a:Act} {o:Oper}
def qX (h:bG E R w β s a) (x:Operand) (ho:o.op=.nilCheck x) {y:SV} (hx:cK E s.ae x=y) (hy:(∃ id off,y=.v (.ptr id off))\/(∃ k off,y=.lp k off)\/∃ cs,y=.v (.ep cs)) :
  c8 E R w β s a o (s.put o.dst y):=by
 have rx:=bi h x;rw [hx] at rx;rcases hy with ⟨id,off,rfl⟩|⟨k,off,rfl⟩|⟨cs,rfl⟩
 .have gu:Rel R w (.ptr id off) (a.eval x):=rx;generalize kR:a.eval x=xv at gu;cases gu with
  | @ptr _ _ b hb=>
  refine aM h (c:=.pointer (some ⟨b,off,none⟩)) ?_ (Rel.ptr hb);simp [execOp,ho,kR]
 .refine ⟨_,_,w,R,β,?_,.inl rfl,h.put o.dst rx,by rw [bQ]; exact Step.refl _ _ _ _⟩;have kR:a.eval x=.pointer (some ⟨β k,off,none⟩):=rx;simp [execOp,ho,kR]
 .have gu:Rel R w (.ep cs) (a.eval x):=rx;generalize kR:a.eval x=xv at gu;cases gu with
  | @ep _ b off hb=>
  refine aM h (c:=.pointer (some ⟨b,off,none⟩)) ?_ (Rel.ep hb);simp [execOp,ho,kR]
end ops
end Go.Am

namespace Go.Am
open Go
variable {E:Env}{R R':ak}{w w':World}{β β':Nat->Nat}{s s' s0:St}{a:Act}{o:Oper}{P:Program}{F:Fence}{n sz Mk id j ntmps:Nat}{f g:FuncId}{wk c cut:Bool}{ops:Array Oper}{K:St->Prop}{fo:Operand}{args:Array Operand}{G G':List GO}{t d:Tmp}{es l:List AV}{tys:Array TypeId}{bx QZ:ew}{e e2 el:TypeId}{ro:Option Nat}{tmps:Array Value}{left:List Nat}{xz bd:Code}{p:Prop}{r:AV}{vs:List Value}
section ops
def bG.setRow (h:bG E R w β s a) {id b:Nat} {cs iO:List AV} {vs us:List Value} {el:TypeId} (hk:nth s.G id=some (.row cs el)) (hb:nth R.obj id=some (.cN b)) (hw:w.heap[b]?=some (.cells ⟨vs⟩ el (0,0)))
  (hr:bj R w iO us) (h1:∀ v∈us,v.oneCell'=true):bG E R (w.setRow b ⟨us⟩) β (s.cM (aC s.G id (.row iO el))) a/\Step R w β s.boxes R (w.setRow b ⟨us⟩) β s.boxes:=by
 obtain ⟨vs',b1,b2,b3,b4⟩:=h.g.obj id _ _ hk hb;have hex:=kQ (R:=R) (w:=w) b4 ⟨us⟩;refine ⟨⟨⟨by simp [St.cM,h.g.len],λ nV go ro hg nu=>?_,h.g.inj,λ b' o' wC=>by have:=h.g.wf b' o' wC; simp; omega,λ g iO hg=>(h.g.fU g iO hg).mono hex,by first | exact h.g.lo | exact Nat.le_succ_of_le h.g.lo⟩,?_,h.t.mono hex,h.n,h.d⟩,?_⟩
 .rcases df hg with ⟨rfl,rfl,_⟩|⟨de,Jy⟩
  .rw [hb] at nu;cases nu;exact ⟨_,setRow_heap w _ _ _ _ (0,0) hw,hr.mono hex,h1,b4⟩
  .refine (h.g.obj nV go ro Jy nu).mono hex (λ b' nt=>setRow_other w _ b' _ (λ e=>de ?_)) (λ _ _ _ hi=>hi);subst e;exact h.g.inj id nV _ _ b' hb nu rfl nt
 .exact h.b.keep hex (λ k iO mr=>setRow_other w _ _ _ (h.MI hb mr)) (λ _ _ _ _ hi=>hi) (λ _ _ _ hl=>hl)
 .have qS:Own R β s.boxes b:=.inl ⟨id,_,hb,rfl⟩;exact ⟨hex,rfl,rfl,rfl,by simp,λ b' _ hn=>setRow_other w _ b' _ (λ e=>hn (e ▸ qS)),λ _ _ hb=>hb,λ b o hi _ _=>hi⟩
def ak.all (R:ak) (b:Nat):ak:=⟨λ b' o=>R.I b' o\/b'=b,R.obj⟩
def Ib (R:ak) (w:World) (b:Nat):Ext R w (R.all b) w:=⟨λ _ _ h=>.inl h,λ _ _ _=>rfl,λ _ ro h=>⟨ro,h,dy.refl ro⟩,jN.refl w⟩
def ij.freeze (h:ij E R w G) {b:Nat} {ro:RO} (ck:nth R.obj id=some ro) (hb:ro.has b) (ajK:ku (R.all b) w .dead ro):ij E (R.all b) w (aC G id .dead):=by
 have e:=Ib R w b;have du:=h.dS ⟨id,ro,ck,hb⟩;refine ⟨by show R.obj.length=_; rw [iI]; exact h.len,λ nV go oN q1 q2=>?_,h.inj,λ b' o ho=>?_,λ g cs Dn=>(h.fU g cs Dn).mono e,h.lo⟩
 .rcases df q1 with ⟨rfl,rfl,_⟩|⟨de,q1⟩
  .have:oN=ro:=acg (q2.symm.trans ck);subst this;exact ajK
  .refine (h.obj nV go oN q1 q2).mono e (λ _ _=>rfl) (λ b' o nt ho=>?_);rcases ho with ho|ho
   .exact ho
   .subst ho;exact absurd (h.inj id nV _ _ b' ck q2 hb nt) de
 .rcases ho with ho|ho
  .exact h.wf b' o ho
  .subst ho; exact du
def uE:∀ {l:List AV} {x:AV},aZ l=true->x∈l->x.closed=true
 |[],_,_,h=>by simp at h
 |a::l,x,h,hx=>by
  simp only [aZ,aad] at h;rcases List.mem_cons.1 hx with rfl|hx
  .exact h.1
  .exact uE h.2 hx
def yR:∀ l r:List AV,qy (l++r)=qy l++qy r
 |[],_=>rfl
 |a::l,r=>by simp only [List.cons_append,qy,yR l r]
def yS:∀ l:List AV,(qy l).length=l.length
 |[]=>rfl
 |a::l=>by simp only [qy,List.length_cons,yS l]
def DC (e:AV):e.kj.cells=qy e.cells:=by
 cases e with
 |list k sz es=>cases k <;> simp only [AV.kj,AV.cells,qy]
 |_=>simp only [AV.kj,AV.cells,qy]
def Kc (e:AV):e.kj.bN=e.bN:=by
 cases e with
 |list k sz es=>cases k <;> simp only [AV.kj,AV.bN]
 |_=>simp only [AV.kj,AV.bN]
def BD:∀ es:List AV,aH (es.map AV.kj)=qy (aH es)
 |[]=>rfl
 |e::es=>by simp only [List.map_cons,aH,DC,BD es,yR]
def Ym (h:bj R w (aH es) vs):bj R w (aH (Jx wk es)) vs:=by
 cases wk with
 |false=>exact h
 |true=>
  show bj R w (aH (es.map AV.kj)) vs;rw [BD];exact h.kj
def M8 (wk:Bool) (es:List AV):(Jx wk es).length=es.length:=by
 cases wk
 .rfl
 .exact List.length_map _
def Uk (wk:Bool) (n:Nat) (es:List AV):Jx wk (es.take n)=(Jx wk es).take n:=by
 cases wk
 .rfl
 .exact List.map_take
def Pn (wk:Bool):Jx wk []=[]:=by cases wk <;> rfl
def Ul (h:ig sz es) (hc:aZ (Jx wk es)=true):jX sz (Jx wk es):=by
 cases wk with
 |false=>exact λ x hx=>⟨(h x hx).1,(h x hx).2,uE hc hx⟩
 |true=>
  intro x hx;refine ⟨?_,?_,uE hc hx⟩
  .obtain ⟨y,hy,rfl⟩:=List.mem_map.1 hx;rw [DC,yS];exact (h y hy).1
  .obtain ⟨y,hy,rfl⟩:=List.mem_map.1 hx;rw [Kc];exact (h y hy).2
def pu (h:ij E R w G) {f sz len:Nat} (cG:nth G id=some (.bO es sz el)) (hf:f=es.length) (hl:len<=es.length) (nW:aZ (Jx wk es)=true) {ro:RO} (ck:nth R.obj id=some ro) :
  ∃ R',ij E R' w (aC G id .dead)/\Ext R w R' w/\R'.obj=R.obj/\(∀ b o,R'.I b o->R.I b o\/ro.has b)/\∀ c,Rel R w (.eK id f 0 sz len) c->Rel R' w (.list .bV sz (Jx wk (es.take len))) c:=by
 by_cases hn:ro=.bK
 .subst hn;have he:es=[]:=h.obj id _ _ cG ck;subst he;refine ⟨R,?_,Ext.refl R w,rfl,λ _ _ hi=>.inl hi,λ c hc=>?_⟩
  .refine ⟨by rw [iI]; exact h.len,λ nV go oN q1 q2=>?_,h.inj,h.wf,h.fU,h.lo⟩;rcases df q1 with ⟨rfl,rfl,_⟩|⟨de,q1⟩
   .have:oN=.bK:=acg (q2.symm.trans ck);subst this;trivial
   .exact h.obj nV go oN q1 q2
  .rw [List.take_nil,Pn];cases hc with
   |pf=>exact .kP
   |eK h1 h2 _=>
    rw [ck] at h1;cases h1;exact h2.elim
 .obtain ⟨b,c',cur,vs,rfl,g0,g2,g3,g4,g5,g6,g7,g8,g9⟩:=CN h cG ck hn;have g1:jX sz (Jx wk es):=Ul g0 nW;have e:=Ib R w b;refine ⟨R.all b,h.freeze ck rfl (cu g2),e,rfl,λ b' o hi=>?_,λ c hc=>?_⟩
  .rcases hi with hi|rfl
   .exact .inl hi
   .exact .inr rfl
  .cases hc with
   |pf h1 h2=>
    rw [ck] at h1;cases h1;simp only [sQ] at h2;omega
   | @eK _ _ _ _ _ cap b1 o1 _ h1 h2 h3=>
    rw [ck] at h1;cases h1;obtain ⟨rfl,k2,k3⟩:=h2.2 hf;by_cases CL:len=0
    .subst CL;rw [List.take_zero,Pn];exact Rel.list .nil rfl h3 trivial
    rw [Uk];refine Rel.list (AI len (oR g1 (jG.make ((Ym g7).mono e) g8 (λ j v hj=>?_) (λ j hj=>.inr rfl)))) (by rw [List.length_take,M8,Nat.min_eq_left hl]) h3 trivial;have ho:o1=0:=by
     rcases k3 with k3|k3
     .rw [k3,Nat.zero_mul]
     .omega
    subst ho;rw [aca,cell_of_row w b1 j cur el (0,0) g2];rw [<- g9,List.getElem?_take] at hj;split at hj
    .rw [<- acK]; exact hj
    .cases hj
def M9 (s:St) (p x:SV):xh s p x=(true,x,s.G)\/∃ id1 f1 i1 t1 id f sz len es cr el,p=.v (.gp id1 f1 i1 0 1 t1)/\x=.v (.eK id f 0 sz len)/\nth s.G id=some (.bO es cr el) /\
  xh s p x=(decide (f=es.length)&&decide (len=es.length)&&adk sz cr&&aZ es,.v (.list .bV sz es),aC s.G id .dead):=by
 unfold xh;split
 .rename_i id1 f1 i1 t1 id f sz len;split
  .rename_i es cr el cG;exact .inr ⟨id1,f1,i1,t1,id,f,sz,len,es,cr,el,rfl,rfl,cG,rfl⟩
  .exact .inl rfl
 .exact .inl rfl
def Kd (h:bG E R w β s a) (t:TypeId) (p x:Operand) (ho:o.op=.store t p x) (hd:o.dst=none) (hs:nY E s t (cK E s.ae p) (cK E s.ae x)=some (true,s')) :
  c8 E R w β s a o s':=by
 unfold nY at hs;split at hs
 .rename_i c s1 mh;obtain ⟨hc,rfl⟩:=cL hs;rw [aad] at hc;obtain ⟨JC,rfl⟩:=hc;rcases M9 s (cK E s.ae p) (cK E s.ae x) with e|⟨id1,f1,i1,t1,id,f,sz,len,es,cr,el,hp,hx,cG,e⟩
  .rw [e] at mh;exact JY h t p x ho hd mh
  .rw [e] at mh JC;simp only [aad,decide_eq_true_eq] at JC;obtain ⟨⟨⟨Po,hle⟩,iJ⟩,nW⟩:=JC;have iJ:=aag iJ;subst iJ;have rx:=bi h x;rw [hx] at rx;have k2:Rel R w (.eK id f 0 sz len) (a.eval x):=rx;obtain ⟨ro,ck⟩:∃ ro,nth R.obj id=some ro:=by
    have k3:=k2;generalize a.eval x=c0 at k3;cases k3 with
    |pf q _=>exact ⟨_,q⟩
    |eK q _ _=>exact ⟨_,q⟩
   obtain ⟨R',r1,r2,r3,r4,r5⟩:=pu (wk:=false) h.g cG Po (adT hle) nW ck;have Yn:∀ k cs,fm s.boxes k=some cs->¬ ro.has (β k):=λ k cs hk e=>(h.b.box k cs hk).2.2 ⟨id,ro,ck,e⟩
   have Cd:∀ b,Live R' b->Live R b:=λ b ⟨i,r,l1,l2⟩=>⟨i,r,by rw [<- r3]; exact l1,l2⟩
   have h':bG E R' w β (s.cM (aC s.G id .dead)) a:=⟨r1,h.b.keep r2 (λ _ _ _=>rfl) (λ k cs o hk hi=>(r4 _ o hi).resolve_right (Yn k cs hk)) (λ k cs hk hl=>Cd _ hl),h.t.mono r2,h.n,h.d.mono r2⟩;have aeh:Step R w β s.boxes R' w β s.boxes:=⟨r2,rfl,rfl,rfl,ab9 _,λ _ _ _=>rfl,λ b hb ho=>ho.imp (Cd b) (λ q=>q),λ b o hi hb hn=>(r4 b o hi).resolve_right λ q=>hn (.inl ⟨id,ro,ck,q⟩)⟩;have r6:=r5 _ k2;rw [hle,adh] at r6;exact c8.step (s1:=s.cM (aC s.G id .dead)) rfl aeh (yH h' t p x ho hd hp (x':=.v (.list .bV sz es)) r6 (by rw [hp] at mh; exact mh))
 .cases hs
def Na (s:St) (x:SV):xi s x=(true,x,s.G)\/∃ id f sz len es cr el,x=.v (.eK id f 0 sz len)/\nth s.G id=some (.bO es cr el) /\
  xi s x=(decide (f=es.length)&&decide (len=es.length)&&adk sz cr&&aZ es,.v (.list .bV sz es),aC s.G id .dead):=by
 unfold xi;split
 .rename_i id f sz len;split
  .rename_i es cr el cG;exact .inr ⟨id,f,sz,len,es,cr,el,rfl,cG,rfl⟩
  .exact .inl rfl
 .exact .inl rfl
def Ic (h:bG E R w β s a) (t:TypeId) (x y z:Operand) (ho:o.op=.mapUpdate t x y z) (hd:o.dst=none) (hs:jA E s t (cK E s.ae x) (cK E s.ae y) (cK E s.ae z)=some (true,s')) :
  c8 E R w β s a o s':=by
 unfold jA at hs;split at hs
 .rename_i s1 mh;obtain ⟨JC,rfl⟩:=cL hs;rcases Na s (cK E s.ae z) with e|⟨id,f,sz,len,es,cr,el,hx,cG,e⟩
  .rw [e] at mh;exact DA h t x y z (.inl ho) hd mh
  .rw [e] at mh JC;simp only [aad,decide_eq_true_eq] at JC;obtain ⟨⟨⟨Po,hle⟩,iJ⟩,nW⟩:=JC;have iJ:=aag iJ;subst iJ;have rx:=bi h z;rw [hx] at rx;have k2:Rel R w (.eK id f 0 sz len) (a.eval z):=rx;obtain ⟨ro,ck⟩:∃ ro,nth R.obj id=some ro:=by
    have k3:=k2;generalize a.eval z=c0 at k3;cases k3 with
    |pf q _=>exact ⟨_,q⟩
    |eK q _ _=>exact ⟨_,q⟩
   obtain ⟨R',r1,r2,r3,r4,r5⟩:=pu (wk:=false) h.g cG Po (adT hle) nW ck;have Yn:∀ k cs,fm s.boxes k=some cs->¬ ro.has (β k):=λ k cs hk e=>(h.b.box k cs hk).2.2 ⟨id,ro,ck,e⟩
   have Cd:∀ b,Live R' b->Live R b:=λ b ⟨i,r,l1,l2⟩=>⟨i,r,by rw [<- r3]; exact l1,l2⟩
   have h':bG E R' w β (s.cM (aC s.G id .dead)) a:=⟨r1,h.b.keep r2 (λ _ _ _=>rfl) (λ k cs o hk hi=>(r4 _ o hi).resolve_right (Yn k cs hk)) (λ k cs hk hl=>Cd _ hl),h.t.mono r2,h.n,h.d.mono r2⟩;have aeh:Step R w β s.boxes R' w β s.boxes:=⟨r2,rfl,rfl,rfl,ab9 _,λ _ _ _=>rfl,λ b hb ho=>ho.imp (Cd b) (λ q=>q),λ b o hi hb hn=>(r4 b o hi).resolve_right λ q=>hn (.inl ⟨id,ro,ck,q⟩)⟩;have r6:=r5 _ k2;rw [hle,adh] at r6;exact c8.step (s1:=s.cM (aC s.G id .dead)) rfl aeh (tW h' t x y z (.inl ho) hd (z':=.v (.list .bV sz es)) r6 mh)
 .cases hs
def Ke (h:bG E R w β s a) (hs:aA E f s o=some (true,s')):c8 E R w β s a o s':=by
 unfold aA at hs;split at hs
 .rename_i x ho;split at hs
  .rename_i y hy;cases hs;exact oO h x (.inl ho) hy
  .rename_i k off hy;cases hs;exact oO h x (.inl ho) hy
  .rename_i hy;cases hs;exact oO h x (.inl ho) hy
 .rename_i x ho;split at hs
  .rename_i y hy;cases hs;exact oO h x (.inr ho) hy
  .rename_i k off hy;cases hs;exact oO h x (.inr ho) hy
  .rename_i hy;cases hs;exact oO h x (.inr ho) hy
 .rename_i c x y ho;split at hs
  .rename_i t p q h1 h2 h3;cases hs;exact Q2 h c x y ho h1 h2 h3
  .cases hs
 .rename_i t ho;split at hs
  .rename_i i hi;split at hs
   .rename_i z hz;split at hs
    .rename_i hn;exact ML h t ho hi hz hn hs
    .cases hs
   .cases hs
  .cases hs
 .rename_i t x ho;split at hs
  .rename_i v hv;split at hs
   .rename_i hn;exact TM h t x ho hv hn hs
   .cases hs
  .cases hs
 .rename_i t parts ho;split at hs
  .rename_i v hv;cases hs;exact MR h t parts ho hv
  .cases hs
 .rename_i t len parts ho;split at hs
  .rename_i v hv;cases hs;exact Cf h t len parts ho hv
  .cases hs
 .rename_i t x ho;split at hs
  .rename_i c v hv;obtain ⟨rfl,rfl⟩:=cL hs;exact MY h t x ho hv
  .cases hs
 .rename_i t p x ho;split at hs
  .rename_i c JB hd mh;obtain ⟨rfl,rfl⟩:=cL hs;exact Kd h t p x ho hd mh
  .cases hs
 .rename_i op t x y u ho;split at hs
  .rename_i p q hx hy;split at hs
   .rename_i c v hv;obtain ⟨rfl,rfl⟩:=cL hs;exact MP h op t u x y ho hx hy hv
   .rename_i hb;split at hs
    .rename_i r hr;obtain ⟨h1,rfl⟩:=cL hs;exact TN h op t u x y ho hx hy hb hr
    .split at hs
     .rename_i c r hr;obtain ⟨rfl,rfl⟩:=cL hs;exact GD h op t u x y ho hx hy (Ra hr)
     .split at hs
      .rename_i r hr;obtain ⟨h1,rfl⟩:=cL hs;exact GD h op t u x y ho hx hy hr
      .cases hs
  .cases hs
 .rename_i op t x ho;split at hs
  .rename_i b hx;cases hs;exact TO h t x ho hx
  .rename_i k n hx;cases hs;exact TP h t x ho hx
  .cases hs
 .rename_i x ho;split at hs
  .rename_i id off hx;cases hs;exact qX h x ho hx (.inl ⟨_,_,rfl⟩)
  .rename_i cs hx;cases hs;exact qX h x ho hx (.inr (.inr ⟨_,rfl⟩))
  .rename_i k off hx;cases hs;exact qX h x ho hx (.inr (.inl ⟨_,_,rfl⟩))
  .cases hs
 .rename_i g x y ho;split at hs
  .rename_i p q hp hq;cases hs;exact FU h g x y ho hp hq
  .cases hs
 .rename_i t x j ho;split at hs
  .rename_i q hq;cases hs;exact Dg h t x j ho hq
  .cases hs
 .rename_i t x j ho;split at hs
  .rename_i v hv;cases hs;exact MO h t x j ho hv
  .cases hs
 .rename_i t x ix ho;split at hs
  .rename_i c q hq;obtain ⟨rfl,rfl⟩:=cL hs;exact Dh h t x ix ho hq
  .cases hs
 .rename_i t x ix ho;split at hs
  .rename_i c v hv;obtain ⟨rfl,rfl⟩:=cL hs;exact MN h t x ix ho hv
  .cases hs
 .rename_i t x lo hi mx ho;split at hs
  .rename_i l h' hl hh;split at hs
   .rename_i c v hv;obtain ⟨rfl,rfl⟩:=cL hs;cases mx with
    |none=>exact MT h t x lo hi ho hl hh hv
    |some m=>
     unfold HP at hv;split at hv
     .rename_i hmx;cases hmx
     .cases hv
   .cases hs
  .cases hs
 .rename_i x j ho;split at hs
  .rename_i vs hx;split at hs
   .rename_i v hn;cases hs;exact HU h x j ho hx hn
   .cases hs
  .cases hs
 .rename_i t x y ho;split at hs
  .rename_i i k n k' m hi hx hy;split at hs
   .rename_i elem esz ag eb z hk;split at hs
    .rename_i fP;simp only [aad] at fP;split at hs
     .exact H6 h t x y ho hi hx hy hk (aag fP.1.1) (aba fP.1.2) fP.2 hs
     split at hs
     .split at hs
      .rename_i yg;obtain ⟨h1,rfl⟩:=cL hs;exact Cg h t x y ho hi hx hy hk (aag fP.1.1) (aba fP.1.2) fP.2 yg (of_decide_eq_true h1)
      .cases hs
     .cases hs
    .cases hs
   .cases hs
  .cases hs
 .rename_i t m k ok ho;split at hs
  .rename_i v b hv;cases hs;exact J8 h t m k ok ho hv
  .cases hs
 .rename_i t m k x ho;split at hs
  .rename_i c JB hd hv;obtain ⟨rfl,rfl⟩:=cL hs;exact Ic h t m k x ho hd hv
  .cases hs
 .rename_i x ho;split at hs
  .rename_i c v hv;obtain ⟨rfl,rfl⟩:=cL hs;exact M7 h x ho hv
  .cases hs
 .rename_i t m k ho;split at hs
  .rename_i c v JB hv;obtain ⟨rfl,rfl⟩:=cL hs;exact FY h t m k ho hv
  .cases hs
 .rename_i t m st x ho;split at hs
  .rename_i c JB hd hv;obtain ⟨rfl,rfl⟩:=cL hs;exact Ck h t m st x ho hd hv
  .cases hs
 .rename_i t x ho;split at hs
  .rename_i i l hi hx;split at hs
   .rename_i hk;cases hs;exact M3 h t x ho hi hk hx
   .cases hs
  .rename_i i id hi hx;split at hs
   .rename_i hk hg;cases hs;exact Ka h t x ho hi hk hx hg
   .cases hs
  .cases hs
 .rename_i x ho;split at hs
  .rename_i JB hv;cases hs;exact Rk h x ho hv
  .cases hs
 .rename_i t ho;cases hs;exact HZ h t ho
 .rename_i b args tys ho;split at hs
  .rename_i l hl;have hty:tys=⟨tys.toList⟩:=rfl;cases b with
   |len=>
    exact TU h (tys:=tys.toList) (by rw [ho]) hl hs
   |append=>
    unfold eX at hs;split at hs <;> first | (rename_i hb; cases hb; done) | skip
    .rename_i x k sz ys;split at hs
     .rename_i t u aei;split at hs
      .rename_i i hi;split at hs
       .rename_i elem esz ag eb z hk;split at hs
        .rename_i fP;simp only [aad,Bool.or_eq_true] at fP;obtain ⟨⟨⟨⟨⟨c1,c2⟩,c3⟩,c4⟩,c5⟩,c6⟩:=fP;split at hs
         .rename_i c v G' ha;obtain ⟨rfl,rfl⟩:=cL hs;have htu:=aag c2;subst htu;have aej:tys=#[t,t]:=by rw [hty,aei]
          rw [aej] at ho;refine J1 h ho hl hi hk ?_ (aba c3) (aba c4) (aag c5) c6 ha;rcases c1 with c1|c1
          .exact .inr (aag c1)
          .exact .inl (by simpa using c1)
         .cases hs
        .cases hs
       .cases hs
      .cases hs
     .cases hs
    .rename_i id f off sz len rid cap;split at hs
     .rename_i y1 y2 y3 y4 el t u cG aei;split at hs
      .rename_i i hi;split at hs
       .rename_i elem esz ag eb z hk;split at hs
        .rename_i fP;simp only [aad] at fP;obtain ⟨⟨⟨⟨c1,c2⟩,c3⟩,c4⟩,c5⟩:=fP;split at hs
         .rename_i c v G' ha;obtain ⟨rfl,rfl⟩:=cL hs;have htu:=aag c2;subst htu;have aej:tys=#[t,t]:=by rw [hty,aei]
          rw [aej] at ho;exact Cj h ho hl cG hi hk (aag c1) (aba c3) (aag c4) c5 ha
         .cases hs
        .cases hs
       .cases hs
      .cases hs
     .cases hs
    .cases hs
   |max=>
    unfold eX at hs;split at hs <;> first | (rename_i hb; cases hb; done) | skip
    .rename_i x l';split at hs
     .rename_i v hm;cases hs;exact TV h ho hl hm
     .cases hs
    .cases hs
   |min=>
    unfold eX at hs;split at hs <;> first | (rename_i hb; cases hb; done) | skip
    .rename_i x l';split at hs
     .rename_i v hm;cases hs;exact TW h ho hl hm
     .cases hs
    .cases hs
   |_=>
    unfold eX at hs;split at hs <;> first | (rename_i hb; cases hb; done) | (cases hs; done)
  .cases hs
 .cases hs
def uF {wk:Bool} (h:bG E R w β s a) (hs:sN cut wk s t=some (true,s')):∃ R',bG E R' w β s' a/\Step R w β s.boxes R' w β s'.boxes/\s'.ro=s.ro:=by
 unfold sN at hs;split at hs
 .rename_i id f off sz len ht;split at hs
  .rename_i es cr el cG;split at hs
   .rename_i fP;rw [aad] at fP;have q1:=aag fP.1;have q2:=aag fP.2;subst q1; subst q2;injection hs with hs; injection hs with h1 h2;rw [aad,aad,decide_eq_true_eq] at h1;obtain ⟨⟨Po,TQ⟩,nW⟩:=h1;have hle:len<=es.length:=by
     cases cut with
     |true=>exact of_decide_eq_true TQ
     |false=>exact adT (of_decide_eq_true TQ)
    have FK:Jx wk (bif cut then es.take len else es)=Jx wk (es.take len):=by
     congr 1;cases cut with
     |true=>rfl
     |false=>
      have:len=es.length:=of_decide_eq_true TQ;rw [this,adh];rfl
    rw [FK] at h2;subst h2;obtain ⟨c,k1,k2⟩:=h.t t (by rw [ht]; simp);rw [ht] at k2;obtain ⟨ro,ck⟩:∃ ro,nth R.obj id=some ro:=by
     have k2':Rel R w (.eK id f 0 sz len) c:=k2;cases k2' with
     |pf q _=>exact ⟨_,q⟩
     |eK q _ _=>exact ⟨_,q⟩
    obtain ⟨R',r1,r2,r3,r4,r5⟩:=pu h.g cG Po hle nW ck;have Yn:∀ k cs,fm s.boxes k=some cs->¬ ro.has (β k):=λ k cs hk e=>(h.b.box k cs hk).2.2 ⟨id,ro,ck,e⟩
    refine ⟨R',⟨r1,?_,?_,h.n,h.d.mono r2⟩,⟨r2,rfl,rfl,rfl,ab9 _,λ _ _ _=>rfl,λ b hb ho=>?_,λ b o hi hb hn=>?_⟩,rfl⟩
    .exact h.b.keep r2 (λ _ _ _=>rfl) (λ k cs o hk hi=>(r4 _ o hi).resolve_right (Yn k cs hk)) (λ k cs hk hl=>by
      obtain ⟨i,r,l1,l2⟩:=hl;rw [r3] at l1;exact ⟨i,r,l1,l2⟩)
    .intro i hi;by_cases e:t=i
     .subst e;rw [aS];exact ⟨c,k1,r5 c k2⟩
     .rw [bq e] at hi ⊢;obtain ⟨c',l1,l2⟩:=h.t i hi;exact ⟨c',l1,l2.mono r2⟩
    .rcases ho with ⟨i,r,l1,l2⟩|ho
     .rw [r3] at l1;exact .inl ⟨i,r,l1,l2⟩
     .exact .inr ho
    .rcases r4 b o hi with hi|hi
     .exact hi
     .exact absurd (.inl ⟨id,ro,ck,hi⟩) hn
   .cases hs
  .cases hs
 .cases hs
def k9 {cut wk:Bool}:∀ {l:List Operand} {R:ak} {s s':St},bG E R w β s a->kH cut wk l s=(true,s')->∃ R',bG E R' w β s' a/\Step R w β s.boxes R' w β s'.boxes/\s'.ro=s.ro
 |[],R,s,s',h,hs=>by
  simp only [kH] at hs;cases hs;exact ⟨R,h,Step.refl _ _ _ _,rfl⟩
 |.tmp t::l,R,s,s',h,hs=>by
  unfold kH at hs;split at hs
  .rename_i c s1 h1;cases h2:kH cut wk l s1 with
   |mk c' s2=>
   rw [h2] at hs;simp only [Prod.mk.injEq,aad] at hs;obtain ⟨⟨rfl,rfl⟩,rfl⟩:=hs;obtain ⟨R1,k1,k2,k3⟩:=uF h h1;obtain ⟨R2,l1,l2,l3⟩:=k9 k1 h2;exact ⟨R2,l1,k2.trans l2,l3.trans k3⟩
  .exact k9 h hs
 |.const _::l,R,s,s',h,hs=>k9 (l:=l) h hs
 |.global _::l,R,s,s',h,hs=>k9 (l:=l) h hs
 |.func _::l,R,s,s',h,hs=>k9 (l:=l) h hs
def Um (h:bG E R w β s a) (hs:QY E f s o=some (true,s')):∃ R',bG E R' w β s' a/\Step R w β s.boxes R' w β s'.boxes/\s'.ro=s.ro:=by
 unfold QY at hs;split at hs
 .split at hs
  .injection hs with hs;exact k9 h hs
  .cases hs
 .cases hs
end ops
structure ba (s s':St):Prop where
 sl:∃ pre,s'.ae=pre++s.ae
 bx:∃ pre,s'.boxes=pre++s.boxes
 n:s'.n=s.n
def ba.refl (s:St):ba s s:=⟨⟨[],rfl⟩,⟨[],rfl⟩,rfl⟩
def ba.trans {a b c:St} (h:ba a b) (k:ba b c):ba a c:=by
 obtain ⟨p,hp⟩:=h.sl; obtain ⟨q,hq⟩:=k.sl; obtain ⟨p',Yo⟩:=h.bx; obtain ⟨q',hq'⟩:=k.bx;exact ⟨⟨q++p,by rw [hq,hp,List.append_assoc]⟩,⟨q'++p',by rw [hq',Yo,List.append_assoc]⟩,k.n.trans h.n⟩
section
variable {a':Act}
def il (R:ak):ak:=⟨R.I,R.obj++[.bK]⟩
def oS:Ext R w (il R) w:=⟨λ _ _ h=>h,λ _ _ _=>rfl,λ _ r h=>⟨r,dg h,dy.refl r⟩,jN.refl w⟩
def xx {b:Nat} (h:Live (il R) b):Live R b:=by
 obtain ⟨id,r,h1,h2⟩:=h;rcases aq h1 with h1|⟨_,rfl⟩
 .exact ⟨id,r,h1,h2⟩
 .simp [RO.has] at h2
def ghV (n sz:Nat):AV:=bif acf 65536 sz then .eK n 0 0 (sz - 65536) 0 else .list (.own n) sz []
def Nb (sz:Nat) (e:TypeId):GO:=bif acf 65536 sz then .bO [] (sz - 65536) e else .tok 0 sz e
def Yp (sz:Nat) (e:TypeId):ku R w (Nb sz e) .bK:=by
 unfold Nb;cases acf 65536 sz
 .exact rfl
 .exact rfl
def Pp (hn:nth R.obj n=some .bK):Rel R w (ghV n sz) (.slice none 0 0):=by
 unfold ghV;cases acf 65536 sz
 .exact .qq hn trivial
 .exact .pf hn trivial
def ij.DD (h:ij E R w G) (sz:Nat) (e:TypeId):ij E (il R) w (G++[Nb sz e]):=by
 refine ⟨by simp [il,h.len],λ id g r h1 h2=>?_,λ i j ri rj b h1 h2 b1 b2=>?_,h.wf,λ g cs hg=>(h.fU g cs hg).mono oS,h.lo⟩
 .rcases aq h2 with h2|⟨h3,rfl⟩
  .rcases aq h1 with h1|⟨h4,_⟩
   .exact (h.obj id g r h1 h2).mono oS (λ _ _=>rfl) (λ _ _ _ h=>h)
   .have du:=bX h2;rw [h.len] at du;omega
  .rcases aq h1 with h1|⟨h4,rfl⟩
   .have:=bX h1;rw [h3,h.len] at this;omega
   .exact Yp sz e
 .rcases aq h1 with g1|⟨_,e1⟩
  .rcases aq h2 with g2|⟨_,e2⟩
   .exact h.inj i j ri rj b g1 g2 b1 b2
   .rw [e2] at b2; simp [RO.has] at b2
  .rw [e1] at b1; simp [RO.has] at b1
def bG.DD (h:bG E R w β s a) (sz:Nat) (e:TypeId):bG E (il R) w β (s.gj (Nb sz e)) a/\Step R w β s.boxes (il R) w β s.boxes:=by
 refine ⟨⟨h.g.DD sz e,h.b.keep oS (λ _ _ _=>rfl) (λ _ _ _ _ h=>h) (λ _ _ _ hl=>xx hl),h.t.mono oS,h.n,h.d.mono (oS (w:=w))⟩,?_⟩;refine ⟨oS,rfl,rfl,rfl,ab9 _,λ _ _ _=>rfl,λ b _ ho=>?_,λ _ _ h _ _=>h⟩;rcases ho with ho|ho
 .exact .inl (xx ho)
 .exact .inr ho
inductive Loc
 |slot (t:Tmp)
 |box (k i:Nat)
 |row (id i:Nat)
def yT (s:St) (l:Loc) (sz:Nat) (e:TypeId):Option St:=
 let v:AV:=ghV s.G.length sz
 match acf 196608 sz with
 |true=>some (s.gj (bif acf 1048576 sz then .jv [] (sz - 1048576) e else .bC [] (sz - 196608) e))
 |false=>match l with
 |.slot t=>match lk s.ae t with
  |.v (.list .nil _ [])=>some ⟨.put t (.v v)::s.ae,s.boxes,s.G++[Nb sz e],s.marks,s.ro,s.n⟩
  |_=>none
 |.box k i=>match fm s.boxes k with
  |some cs=>match nth cs i with
   |some (.list .nil _ [])=>some ⟨s.ae,(k,aC cs i v)::s.boxes,s.G++[Nb sz e],s.marks,s.ro,s.n⟩
   |_=>none
  |none=>none
 |.row id i=>match nth s.G id with
  |some (.row cs el)=>match nth cs i with
   |some (.list .nil _ [])=>some ⟨s.ae,s.boxes,aC s.G id (.row (aC cs i v) el)++[Nb sz e],s.marks,s.ro,s.n⟩
   |_=>none
  |_=>none
def AQ (s:St) (l:Loc) (sz:Nat) (e:TypeId):Option St:=match acf 2097152 sz with
 |true=>some (s.gj (Nb (65536+(sz - 2097152)) e))
 |false=>yT s l sz e
def jQ:List (Loc×Nat×TypeId)->St->Option St
 |[],s=>some s
 |(l,sz,e)::r,s=>match AQ s l sz e with
  |some s'=>jQ r s'
  |none=>none
def bj.aC {l:List AV} {cs:List Value} (h:bj R w l cs) {i:Nat} {x y:AV} (hx:nth l i=some x) (hw:∀ c,Rel R w x c->Rel R w y c):bj R w (Am.aC l i y) cs:=by
 induction l generalizing cs i with
 |nil=>simp [nth] at hx
 |cons a l ih=>
  cases h with
  |cons h t=>
   cases i with
   |zero=>simp only [nth] at hx; cases hx; exact .cons (hw _ h) t
   |succ i=>exact .cons h (ih t hx)
def bG.ael (h:bG E R w β s a) (sz:Nat) (e:TypeId):bG E (R.add (.bC [])) w β (s.gj (.bC [] sz e)) a/\Step R w β s.boxes (R.add (.bC [])) w β s.boxes:=by
 have no:∀ b,¬ RO.has (.bC []) b:=λ b ⟨j,f,c,hj⟩=>by simp [nth] at hj
 have ext:Ext R w (R.add (.bC [])) w:=⟨λ _ _ h=>h,λ _ _ _=>rfl,λ _ r h=>⟨r,dg h,dy.refl r⟩,jN.refl w⟩;have live:∀ b,Live (R.add (.bC [])) b->Live R b:=λ b ⟨id,r,h1,h2⟩=>by
  rcases aq h1 with h1|⟨_,rfl⟩
  .exact ⟨id,r,h1,h2⟩
  .exact absurd h2 (no b)
 refine ⟨⟨⟨by simp [St.gj,ak.add,h.g.len],λ id g r h1 h2=>?_,λ i j ri rj b h1 h2 b1 b2=>?_,h.g.wf,λ g cs hg=>(h.g.fU g cs hg).mono ext,h.g.lo⟩,h.b.keep ext (λ _ _ _=>rfl) (λ _ _ _ _ h=>h) (λ _ _ _ hl=>live _ hl),h.t.mono ext,h.n,h.d.mono ext⟩,?_⟩
 .rcases aq h2 with h2|⟨h3,rfl⟩
  .rcases aq h1 with h1|⟨h4,_⟩
   .exact (h.g.obj id g r h1 h2).mono ext (λ _ _=>rfl) (λ _ _ _ h=>h)
   .have du:=bX h2;rw [h.g.len] at du;omega
  .rcases aq h1 with h1|⟨h4,rfl⟩
   .have:=bX h1;rw [h3,h.g.len] at this;omega
   .exact ⟨rfl,λ i j f b c f' c' hi=>by simp [nth] at hi,λ j f t hj=>by simp [nth] at hj⟩
 .rcases aq h1 with g1|⟨_,e1⟩
  .rcases aq h2 with g2|⟨_,e2⟩
   .exact h.g.inj i j ri rj b g1 g2 b1 b2
   .rw [e2] at b2; exact absurd b2 (no b)
  .rw [e1] at b1; exact absurd b1 (no b)
 .refine ⟨ext,rfl,rfl,rfl,ab9 _,λ _ _ _=>rfl,λ b _ ho=>?_,λ _ _ h _ _=>h⟩;rcases ho with ho|ho
  .exact .inl (live b ho)
  .exact .inr ho
def bG.aem (h:bG E R w β s a) (sz:Nat) (e:TypeId):bG E (R.add (.bC [])) w β (s.gj (.jv [] sz e)) a/\Step R w β s.boxes (R.add (.bC [])) w β s.boxes:=by
 have no:∀ b,¬ RO.has (.bC []) b:=λ b ⟨j,f,c,hj⟩=>by simp [nth] at hj
 have ext:Ext R w (R.add (.bC [])) w:=⟨λ _ _ h=>h,λ _ _ _=>rfl,λ _ r h=>⟨r,dg h,dy.refl r⟩,jN.refl w⟩;have live:∀ b,Live (R.add (.bC [])) b->Live R b:=λ b ⟨id,r,h1,h2⟩=>by
  rcases aq h1 with h1|⟨_,rfl⟩
  .exact ⟨id,r,h1,h2⟩
  .exact absurd h2 (no b)
 refine ⟨⟨⟨by simp [St.gj,ak.add,h.g.len],λ id g r h1 h2=>?_,λ i j ri rj b h1 h2 b1 b2=>?_,h.g.wf,λ g cs hg=>(h.g.fU g cs hg).mono ext,h.g.lo⟩,h.b.keep ext (λ _ _ _=>rfl) (λ _ _ _ _ h=>h) (λ _ _ _ hl=>live _ hl),h.t.mono ext,h.n,h.d.mono ext⟩,?_⟩
 .rcases aq h2 with h2|⟨h3,rfl⟩
  .rcases aq h1 with h1|⟨h4,_⟩
   .exact (h.g.obj id g r h1 h2).mono ext (λ _ _=>rfl) (λ _ _ _ h=>h)
   .have du:=bX h2;rw [h.g.len] at du;omega
  .rcases aq h1 with h1|⟨h4,rfl⟩
   .have:=bX h1;rw [h3,h.g.len] at this;omega
   .exact ⟨rfl,λ i j f b c f' c' hi=>by simp [nth] at hi,λ j f t hj=>by simp [nth] at hj⟩
 .rcases aq h1 with g1|⟨_,e1⟩
  .rcases aq h2 with g2|⟨_,e2⟩
   .exact h.g.inj i j ri rj b g1 g2 b1 b2
   .rw [e2] at b2; exact absurd b2 (no b)
  .rw [e1] at b1; exact absurd b1 (no b)
 .refine ⟨ext,rfl,rfl,rfl,ab9 _,λ _ _ _=>rfl,λ b _ ho=>?_,λ _ _ h _ _=>h⟩;rcases ho with ho|ho
  .exact .inl (live b ho)
  .exact .inr ho
def Kf {l:Loc} (h:bG E R w β s a) (Nc:acf 196608 sz=false) (hs:yT s l sz e=some s'):bG E (il R) w β s' a/\Step R w β s.boxes (il R) w β s'.boxes/\s'.ro=s.ro/\ba s s':=by
 obtain ⟨h1,h2⟩:=h.DD sz e;have hn:nth (il R).obj s.G.length=some .bK:=by
  rw [<- h.g.len]; exact dL _ _
 have hw:∀ (cr:Nat) (c:Value),Rel (il R) w (.list .nil cr []) c->Rel (il R) w (ghV s.G.length sz) c:=λ cr c hc=>by
  cases hc with
  |nq=>exact Pp hn
  |list _ _ _ hk=>exact hk.elim
 unfold yT at hs;rw [Nc] at hs;cases l with
 |slot t=>
  simp only at hs;split at hs
  .rename_i cr ht;cases hs;refine ⟨⟨h1.g,h1.b,λ i hi=>?_,h1.n,h1.d⟩,h2,rfl,⟨⟨[_],rfl⟩,⟨[],rfl⟩,rfl⟩⟩;by_cases e:t=i
   .subst e;rw [aS];obtain ⟨c,k1,k2⟩:=h1.t t (by show lk s.ae t≠_; rw [ht]; simp);have k2':sR (il R) w β (lk s.ae t) c:=k2;rw [ht] at k2';exact ⟨c,k1,hw _ _ k2'⟩
   .rw [bq e] at hi ⊢;exact h1.t i hi
  .cases hs
 |box k i=>
  simp only at hs;split at hs
  .rename_i cs hk;split at hs
   .rename_i cr hi;cases hs;have hb:∀ k' iO,fm ((k,aC cs i (ghV s.G.length sz))::s.boxes) k'=some iO->∃ cs0,fm s.boxes k'=some cs0:=λ k' iO mr=>by
     rcases ik mr with ⟨rfl,_⟩|⟨_,mr⟩
     .exact ⟨cs,hk⟩
     .exact ⟨iO,mr⟩
    refine ⟨⟨h1.g,⟨λ k' iO mr=>?_,λ k1 k2 c1 c2 e1 e2 he=>?_⟩,h1.t,h1.n,h1.d⟩,?_,rfl,⟨⟨[],rfl⟩,⟨[_],rfl⟩,rfl⟩⟩
    .rcases ik mr with ⟨rfl,rfl⟩|⟨_,mr⟩
     .obtain ⟨⟨vs,el,q1,q2,q3⟩,q4⟩:=h1.b.box k cs hk;exact ⟨⟨vs,el,q1,q2.aC hi (hw _),q3⟩,q4⟩
     .exact h1.b.box k' iO mr
    .obtain ⟨d1,hd1⟩:=hb k1 c1 e1;obtain ⟨d2,Un⟩:=hb k2 c2 e2;exact h.b.inj k1 k2 d1 d2 hd1 Un he
    .refine ⟨h2.ext,rfl,rfl,rfl,ab9 _,λ _ _ _=>rfl,λ b nt ho=>?_,λ _ _ h _ _=>h⟩;rcases ho with ho|⟨k',iO,mr,rfl⟩
     .exact .inl (xx ho)
     .obtain ⟨d1,hd1⟩:=hb k' iO mr;exact .inr ⟨k',d1,hd1,rfl⟩
   .cases hs
  .cases hs
 |row id i=>
  simp only at hs;split at hs
  .rename_i cs el cG;split at hs
   .rename_i cr hi;cases hs;refine ⟨⟨⟨by have:=h1.g.len; simpa [St.gj] using this,λ nV go ro q1 q2=>?_,h1.g.inj,h1.g.wf,h1.g.fU,h1.g.lo⟩,h1.b,h1.t,h1.n,h1.d⟩,h2,rfl,⟨⟨[],rfl⟩,⟨[],rfl⟩,rfl⟩⟩;rcases aq q1 with q1|⟨q3,rfl⟩
    .rcases df q1 with ⟨rfl,rfl,_⟩|⟨de,q1⟩
     .have cV:=h1.g.obj id (.row cs el) ro (dg cG) q2;cases ro with
      |cN b=>
       obtain ⟨vs,k1,k2,k3,k4⟩:=cV;exact ⟨vs,k1,k2.aC hi (hw _),k3,k4⟩
      |none=>exact cV.elim
      |bK=>exact cV.elim
      |tok _ _ _=>exact cV.elim
      |bC _=>exact cV.elim
     .exact h1.g.obj nV go ro (dg q1) q2
    .refine h1.g.obj nV _ ro ?_ q2;rw [iI] at q3;rw [q3];exact dL _ _
   .cases hs
  .cases hs
def DE {l:Loc} (h:bG E R w β s a) (hs:AQ s l sz e=some s'):∃ R',bG E R' w β s' a/\Step R w β s.boxes R' w β s'.boxes/\s'.ro=s.ro/\ba s s':=by
 unfold AQ at hs;split at hs
 .cases hs;obtain ⟨h1,h2⟩:=h.DD (65536+(sz - 2097152)) e;exact ⟨_,h1,h2,rfl,⟨⟨[],rfl⟩,⟨[],rfl⟩,rfl⟩⟩
 cases Nc:acf 196608 sz with
 |true=>
  unfold yT at hs;rw [Nc] at hs;cases hs;cases acf 1048576 sz with
  |false=>
   obtain ⟨h1,h2⟩:=h.ael (sz - 196608) e;exact ⟨_,h1,h2,rfl,⟨⟨[],rfl⟩,⟨[],rfl⟩,rfl⟩⟩
  |true=>
   obtain ⟨h1,h2⟩:=h.aem (sz - 1048576) e;exact ⟨_,h1,h2,rfl,⟨⟨[],rfl⟩,⟨[],rfl⟩,rfl⟩⟩
 |false=>exact ⟨_,Kf h Nc hs⟩
def mD:∀ {l:List (Loc×Nat×TypeId)} {R:ak} {s s':St},bG E R w β s a->jQ l s=some s'->∃ R',bG E R' w β s' a/\Step R w β s.boxes R' w β s'.boxes/\s'.ro=s.ro/\ba s s'
 |[],R,s,s',h,hs=>by
  simp only [jQ] at hs;cases hs;exact ⟨R,h,Step.refl _ _ _ _,rfl,ba.refl _⟩
 |(l,sz,e)::r,R,s,s',h,hs=>by
  unfold jQ at hs;split at hs
  .rename_i s1 h1;obtain ⟨R0,g1,g2,g3,g4⟩:=DE h h1;obtain ⟨R',k1,k2,k3,k4⟩:=mD g1 hs;exact ⟨R',k1,g2.trans k2,k3.trans g3,g4.trans k4⟩
  .cases hs
def aen (s:St) (d:Tmp):List (Option Nat×Nat×TypeId)->Option (List (Loc×Nat×TypeId))
 |[]=>some []
 |(none,sz,e)::l=>match aen s d l with
  |some r=>some ((.slot d,65536+sz,e)::r)
  |none=>none
 |(some c,sz,e)::l=>match aen s d l,lk s.ae d with
  |some r,.lp k off=>some ((.box k (off+c),65536+sz,e)::r)
  |some r,.v (.ptr id off)=>some ((.row id (off+c),65536+sz,e)::r)
  |some r,.v (.tP id off _ _ _)=>some ((.row id (off+c),65536+sz,e)::r)
  |_,_=>none
def nf:List (Loc×Nat×TypeId)->St->St
 |[],s=>s
 |(l,sz,e)::r,s=>match AQ s l sz e with
  |some s'=>nf r s'
  |none=>nf r s
def uG:∀ {l:List (Loc×Nat×TypeId)} {R:ak} {s:St},bG E R w β s a->∃ R',bG E R' w β (nf l s) a/\Step R w β s.boxes R' w β (nf l s).boxes/\(nf l s).ro=s.ro/\ba s (nf l s)
 |[],R,s,h=>⟨R,h,Step.refl _ _ _ _,rfl,ba.refl _⟩
 |(l,sz,e)::r,R,s,h=>by
  unfold nf;split
  .rename_i s1 h1;obtain ⟨R0,g1,g2,g3,g4⟩:=DE h h1;obtain ⟨R',k1,k2,k3,k4⟩:=uG (l:=r) g1;exact ⟨R',k1,g2.trans k2,k3.trans g3,g4.trans k4⟩
  .exact uG (l:=r) h
def DF (s:St) (t:Tmp):Option (Bool×St):=match lk s.ae t with
 |.v (.eK _ _ _ _ _)=>sN false false s t
 |_=>some (true,s)
def DG (s:St) (t:Tmp):Option (Bool×St):=match lk s.ae t with
 |.v (.eK id f 0 sz len)=>match nth s.G id with
  |some (.bO es cr el)=>match CH s.G sz el 0 with
   |some kY=>match nth s.G kY with
    |some (.jv rows Mk el2)=>if adk cr sz&&adk Mk sz&&adk el2 el then
      some (decide (f=es.length)&&decide (len=es.length)&&aZ es,⟨.put t (.v (.gW kY rows.length sz len))::s.ae,s.boxes,aC (aC s.G id .dead) kY (.jv (rows++[es]) sz el),s.marks,s.ro,s.n⟩) else none
    |_=>none
   |none=>none
  |_=>none
 |_=>none
def yU (Mk:Nat) (e2:TypeId) (s:St) (t:Tmp):Option (Bool×St):=match lk s.ae t with
 |.v (.eK id _ _ _ _)=>match nth s.G id with
  |some (.bO es 1 el)=>match sJ s.G Mk e2 0 with
   |some Yq=>some (xr es,s.cM (aC (aC s.G Yq (.bC (HQ s.G Yq++adl es.length 0) Mk e2)) id (.bO ((adn es.length).map λ j=>.list (.bC Yq ((HQ s.G Yq).length+j)) Mk []) 1 el)))
   |none=>none
  |_=>none
 |_=>none
def yV (k sz:Nat) (s:St) (t:Tmp):Option (Bool×St):=match k with
 |0=>DF s t
 |1=>DG s t
 |_=>yU (sz % 65536) (sz / 65536) s t
def GP (E:Env) (f:FuncId) (o:Oper) (s:St):Option (Bool×St):=match o.dst with
 |none=>some (true,s)
 |some d=>match E.FP f (d+327680) with
  |true=>sN false (E.FP f (d+458752)) s d
  |false=>match E.gho f d with
   |[]=>some (true,s)
   |x::l=>match acf 1048576 x.2.2,x.1 with
    |true,some t=>yV (x.2.2 - 1048576) x.2.1 s t
    |_,_=>match aen s d (x::l) with
     |some r=>some (true,nf r s)
     |none=>none
def ny {wk:Bool} {c:Bool} (h:sN cut wk s t=some (c,s')):ba s s':=by
 unfold sN at h
 repeat' (split at h)
 all_goals (first|(cases h; done) | skip)
 all_goals (injection h with h; injection h with _ h; subst h; exact ⟨⟨[_],rfl⟩,⟨[],rfl⟩,rfl⟩)
def Nd (h:DF s t=some (c,s')):ba s s':=by
 unfold DF at h;split at h
 .exact ny h
 .cases h; exact ba.refl _
def Nf (h:bG E R w β s a) (hs:DF s t=some (true,s')):∃ R',bG E R' w β s' a/\Step R w β s.boxes R' w β s'.boxes/\s'.ro=s.ro/\ba s s':=by
 unfold DF at hs;split at hs
 .obtain ⟨R',r1,r2,r3⟩:=uF h hs;exact ⟨R',r1,r2,r3,ny hs⟩
 .cases hs;exact ⟨R,h,Step.refl _ _ _ _,rfl,ba.refl _⟩
def DH (h:DG s t=some (c,s')):ba s s':=by
 unfold DG at h
 repeat' (split at h)
 all_goals (first|(cases h; done) | skip)
 all_goals (injection h with h; injection h with _ h; subst h; exact ⟨⟨[_],rfl⟩,⟨[],rfl⟩,rfl⟩)
def BE (h:yU Mk e2 s t=some (c,s')):ba s s':=by
 unfold yU at h
 repeat' (split at h)
 all_goals (first|(cases h; done) | skip)
 all_goals (injection h with h; injection h with _ h; subst h; exact ⟨⟨[],rfl⟩,⟨[],rfl⟩,rfl⟩)
def Kg {k sz:Nat} (h:yV k sz s t=some (c,s')):ba s s':=by
 unfold yV at h;split at h
 .exact Nd h
 .exact DH h
 .exact BE h
def Ng (h:bG E R w β s a) (hs:DG s t=some (true,s')):∃ R',bG E R' w β s' a/\Step R w β s.boxes R' w β s'.boxes/\s'.ro=s.ro/\ba s s':=by
 have hx:=DH hs;unfold DG at hs;split at hs
 .rename_i id f sz len ht;split at hs
  .rename_i es cr el hg;split at hs
   .rename_i kY _;split at hs
    .rename_i rows Mk el2 hm;split at hs
     .rename_i hc;simp only [aad] at hc;obtain ⟨⟨c1,c2⟩,c3⟩:=hc;have c1:=aag c1;have c2:=aag c2;have c3:=aag c3;subst c1; subst c2; subst c3;injection hs with hs; injection hs with h1 h2;simp only [aad,decide_eq_true_eq] at h1;obtain ⟨⟨d1,d2⟩,d3⟩:=h1;obtain ⟨R',r1,r2,r3⟩:=h.aef hg hm d3;subst h2;refine ⟨R',⟨r1.g,r1.b,λ i hi=>?_,r1.n,r1.d⟩,r2,rfl,hx⟩;by_cases e:t=i
      .subst e;rw [aS];obtain ⟨c,k1,k2⟩:=h.t t (by rw [ht]; simp);rw [ht] at k2;exact ⟨c,k1,r3 f len c d1 d2 k2⟩
      .rw [bq e] at hi ⊢;exact r1.t i hi
     .cases hs
    .cases hs
   .cases hs
  .cases hs
 .cases hs
def Kh (h:bG E R w β s a) (hs:yU Mk e2 s t=some (true,s')):∃ R',bG E R' w β s' a/\Step R w β s.boxes R' w β s'.boxes/\s'.ro=s.ro/\ba s s':=by
 have hx:=BE hs;have ex:∀ {i:Nat} {g:GO},nth s.G i=some g->∃ ro,nth R.obj i=some ro:=λ {i g} hi=>by
  have:=bX hi;rw [<- h.g.len] at this;exact ⟨R.obj[i],by rw [bk]; exact abk this⟩
 unfold yU at hs;split at hs
 .rename_i id f off sz len ht;split at hs
  .rename_i es el hg;split at hs
   .rename_i Yq an4;obtain ⟨h1,rfl⟩:=cL hs;obtain ⟨fs,hf,_⟩:=Dt an4;rw [adP] at hf;have hfs:HQ s.G Yq=fs:=by unfold HQ; rw [hf]
    rw [hfs] at hx ⊢;obtain ⟨ro,ck⟩:=ex hf;have de:Yq≠id:=λ e=>by
     subst e;rw [hf] at hg;cases hg
    obtain ⟨ts,rfl,h3,r1,r2⟩:=h.T1 hf (nfs:=adl es.length 0) (nts:=adl es.length .bK) (by simp) (λ j f t hj hk=>by
     rw [bk] at hj hk;rw [List.eq_of_mem_replicate (acL hj),List.eq_of_mem_replicate (acL hk)];exact rfl) (λ j f b c hj=>by
     rw [bk] at hj;cases List.eq_of_mem_replicate (acL hj)) ck
    obtain ⟨k1,k2⟩:=r1.aeg (id:=id) (es:=es) (el:=el) (g:=λ j=>.list (.bC Yq (fs.length+j)) Mk []) (by show nth (aC s.G Yq _) id=_; rw [bE de]; exact hg) h1 (λ _=>rfl) (λ _=>rfl) (λ j cr c hc=>by
     cases hc with
     |nq=>exact Rel.qQ (az ck) trivial
     |list _ _ _ hk=>exact hk.elim)
    exact ⟨_,k1,r2.trans k2,rfl,hx⟩
   .cases hs
  .cases hs
 .cases hs
def Ki {k sz:Nat} (h:bG E R w β s a) (hs:yV k sz s t=some (true,s')):∃ R',bG E R' w β s' a/\Step R w β s.boxes R' w β s'.boxes/\s'.ro=s.ro/\ba s s':=by
 unfold yV at hs;split at hs
 .exact Nf h hs
 .exact Ng h hs
 .exact Kh h hs
def Rl (h:bG E R w β s a) (hs:GP E f o s=some (true,s')):∃ R',bG E R' w β s' a/\Step R w β s.boxes R' w β s'.boxes/\s'.ro=s.ro/\ba s s':=by
 unfold GP at hs;split at hs
 .cases hs;exact ⟨R,h,Step.refl _ _ _ _,rfl,ba.refl _⟩
 .split at hs
  .obtain ⟨R',r1,r2,r3⟩:=uF h hs;exact ⟨R',r1,r2,r3,ny hs⟩
  .split at hs
   .cases hs;exact ⟨R,h,Step.refl _ _ _ _,rfl,ba.refl _⟩
   .split at hs
    .exact Ki h hs
    .split at hs
     .cases hs;exact uG h
     .cases hs
end
def cQ (R:ak) (ro:Option Nat) (F:Fence):Prop:=match ro with
 |none=>F=abN
 |some id=>∃ b,nth R.obj id=some (.cN b)/\F=abN.inRound b
def cQ.mono (e:Ext R w R' w') {F:Fence} (h:cQ R ro F):cQ R' ro F:=by
 cases ro with
 |none=>exact h
 |some id=>obtain ⟨b,h1,h2⟩:=h; exact ⟨b,e.cN h1,h2⟩
def cQ.fn {R:ak} {ro:Option Nat} {F:Fence} (h:cQ R ro F) (f:FuncId):F.fn f:=by
 cases ro with
 |none=>rw [show F=abN from h]; trivial
 |some id=>obtain ⟨b,_,h2⟩:=h; rw [h2]; trivial
def cQ.depth {R:ak} {ro:Option Nat} {F:Fence} (h:cQ R ro F):F.depth=none:=by
 cases ro with
 |none=>rw [show F=abN from h]; rfl
 |some id=>obtain ⟨b,_,h2⟩:=h; rw [h2]; rfl
def cQ.calls {R:ak} (h:cQ R ro F) {args:Array Value} {w:World} {Q:Ending->World->Prop} (hc:CallsIn abN n P f args w Q):CallsIn F n P f args w Q:=by
 cases ro with
 |none=>rw [show F=abN from h]; exact hc
 |some id=>obtain ⟨b,_,h2⟩:=h; rw [h2]; exact hc
def Res (E:Env) (R:ak) (w:World) (β:Nat->Nat) (s:St) (Q:Exit->St->Prop):Exit->Act->World->Prop:=
 λ e a' w'=>∃ s' R' β',Q e s'/\bG E R' w' β' s' a'/\Step R w β s.boxes R' w' β' s'.boxes/\s'.ro=s.ro
def iT (E:Env) (c:Code) (Q:Exit->St->Prop) (s:St):Prop:=
 ∀ (R:ak) (w:World) (β:Nat->Nat) (a:Act) (F:Fence),bG E R w β s a->cQ R s.ro F->c.wpIn F 0 E.P (Res E R w β s Q) a w
def iT.mono {c:Code} {Q Q':Exit->St->Prop} {s:St} (h:iT E c Q s) (hq:∀ e s,Q e s->Q' e s):iT E c Q' s:=
 λ R w β a F hr hf=>wpIn_mono (h R w β a F hr hf) λ e _ _ ⟨s',R',β',h1,h2⟩=>⟨s',R',β',hq e s' h1,h2⟩
section rules
variable {Q:Exit->St->Prop}
def iT.skip (h:Q .normal s):iT E .skip Q s:=λ _ _ _ _ _ hr _=>wpIn_skip ⟨s,_,_,h,hr,Step.refl _ _ _ _,rfl⟩
def iT.label {l:Nat} (h:Q .normal s):iT E (.label l) Q s:=λ _ _ _ _ _ hr _=>wpIn_label ⟨s,_,_,h,hr,Step.refl _ _ _ _,rfl⟩
def iT.exit {id:Nat} (h:Q (.exit id) s):iT E (.exit id) Q s:=λ _ _ _ _ _ hr _=>wpIn_exit ⟨s,_,_,h,hr,Step.refl _ _ _ _,rfl⟩
def iT.ret (h:Q .ret s):iT E .ret Q s:=λ _ _ _ _ _ hr _=>wpIn_ret ⟨s,_,_,h,hr,Step.refl _ _ _ _,rfl⟩
def BF (N:St->Prop) (Q:Exit->St->Prop):Exit->St->Prop
 |.normal,s=>N s
 |e,s=>Q e s
def iT.seq {x y:Code} (h:iT E x (BF (iT E y Q) Q) s):iT E (.seq x y) Q s:=λ R w β a F hr hf=>by
 refine wpIn_seq (wpIn_mono (h R w β a F hr hf) ?_);rintro e a' w' ⟨s',R',β',hq,nu,mh,ck⟩;cases e with
 |normal=>
  refine wpIn_mono (hq R' w' β' a' F nu (by rw [ck]; exact hf.mono mh.ext)) ?_;rintro e a'' X3 ⟨JB,TD,β'',Uo,DI,wO,BG⟩;exact ⟨JB,TD,β'',Uo,DI,mh.trans wO,BG.trans ck⟩
 |_=>exact ⟨s',R',β',hq,nu,mh,ck⟩
def iT.cond {c:Operand} {x y:Code} {b:Bool} (hc:cK E s.ae c=.v (.bool b)) (h1:b=true->iT E x Q s) (h2:b=false->iT E y Q s):iT E (.cond c x y) Q s:=λ R w β a F hr hf=>by
 have rc:=bi hr c;rw [hc] at rc;have hb:a.eval c=.bool b:=by
  have rc':Rel R w (.bool b) (a.eval c):=rc;generalize a.eval c=v at rc';cases rc';rfl
 exact wpIn_cond_split hb (λ e=>h1 e R w β a F hr hf) (λ e=>h2 e R w β a F hr hf)
def aeo (id:Nat) (Q:Exit->St->Prop):Exit->St->Prop
 |.exit nV,s=>(nV=id->Q .normal s)/\(nV≠id->Q (.exit nV) s)
 |e,s=>Q e s
def iT.block {id:Nat} {c:Code} (h:iT E c (aeo id Q) s):iT E (.block id c) Q s:=λ R w β a F hr hf=>by
 refine wpIn_block (wpIn_mono (h R w β a F hr hf) ?_);rintro e a' w' ⟨s',R',β',hq,rest⟩;cases e with
 |exit nV=>
  by_cases e:nV=id
  .simp only [Exit.inBlock,e,if_true];exact ⟨s',R',β',hq.1 e,rest⟩
  .simp only [Exit.inBlock,e,if_false];exact ⟨s',R',β',hq.2 e,rest⟩
 |_=>exact ⟨s',R',β',hq,rest⟩
def pw {Q:Exit->Act->World->Prop} {c:Code} (I:Nat->Act->World->Prop)
  (round:∀ m a w,I m a w->c.wpIn F n P (Exit.then (λ a' w'=>∃ m',m' < m/\I m' a' w') Q) a w):∀ {m:Nat} {a:Act} {w:World},I m a w->(Code.loop c).wpIn F n P Q a w:=by
 intro m a w h₀ b k cs ck hb hr;have key:∀ j a w,I j a w ->
   ∃ e a' w',Q e a' w'/\ArrivesIn (Machine.fenced P F) P (lone (b.atR a (.code c :: .inLoop c::k)) cs w) b k cs e a' w':=by
  intro j
  induction j using Nat.strongRecOn with
  |_ j ih=>
   intro a w hI;obtain ⟨e,a₁,w₁,hq,xy⟩:=round j a w hI b (.inLoop c::k) cs ck hb hr;cases e with
   |normal=>
    obtain ⟨m',du,hI₁⟩:=hq;obtain ⟨e₂,a₂,w₂,hq₂,ajN⟩:=ih m' du a₁ w₁ hI₁;exact ⟨e₂,a₂,w₂,hq₂,.of_steps (StepsIn.trans xy (.one (fenced_calm hb hr rfl) stepR_inLoop)) ajN⟩
   |exit id=>exact ⟨_,a₁,w₁,hq,.pass (x:=.inLoop c) rfl (λ _ _=>.inl (by simp)) xy⟩
   |goto l=>exact ⟨_,a₁,w₁,hq,.pass (x:=.inLoop c) rfl (λ _ _=>.inl (by simp)) xy⟩
   |ret=>exact ⟨_,a₁,w₁,hq,.pass (x:=.inLoop c) rfl (λ _ _=>.inl (by simp)) xy⟩
   |panic ch=>exact ⟨_,a₁,w₁,hq,.pass (x:=.inLoop c) rfl (λ _ _=>.inl (by simp)) xy⟩
   |outgrown=>exact ⟨_,a₁,w₁,hq,.pass (x:=.inLoop c) rfl (λ _ _=>.inl (by simp)) xy⟩
 obtain ⟨e,a',w',hq,xy⟩:=key _ a w h₀;exact ⟨e,a',w',hq,.of_steps (.one (fenced_calm hb hr rfl) stepR_loop) xy⟩
def iT.loop {c:Code} (I:Nat->St->Prop) (round:∀ m s,I m s->iT E c (BF (λ s'=>∃ m',m' < m/\I m' s') Q) s) {m:Nat} (h:I m s):iT E (.loop c) Q s:=λ R w β a F hr hf=>by
 refine pw (λ m a' w'=>∃ s' R' β',I m s'/\bG E R' w' β' s' a'/\Step R w β s.boxes R' w' β' s'.boxes/\s'.ro=s.ro) ?_ ⟨s,R,β,h,hr,Step.refl _ _ _ _,rfl⟩;rintro m a' w' ⟨s',R',β',hI,nu,mh,ck⟩;refine wpIn_mono (round m s' hI R' w' β' a' F nu (by rw [ck]; exact hf.mono mh.ext)) ?_;rintro e a'' X3 ⟨JB,TD,β'',hq,DI,wO,BG⟩;cases e with
 |normal=>
  obtain ⟨m',du,hI'⟩:=hq;exact ⟨m',du,JB,TD,β'',hI',DI,mh.trans wO,BG.trans ck⟩
 |_=>exact ⟨JB,TD,β'',hq,DI,mh.trans wO,BG.trans ck⟩
end rules
def noGoto (Q:Exit->Act->World->Prop):Exit->Act->World->Prop
 |.goto _,_,_=>False
 |e,a,w=>Q e a w
section scopes
variable {b:Frame} {k:List Item} {cs:List Frame} {Q:Exit->Act->World->Prop}
def ld {c:Code}:step P (lone (b.atR a (.code (.scope c)::k)) cs w)=.next (lone (b.atR a (.code c :: .inScope c::k)) cs w):=
 step_lone_go (by simp [stepG,stepG.exec,Frame.atR])
def FZ {c:Code}:step P (lone (b.atR a (.inScope c::k)) cs w)=.next (lone (b.atR a k) cs w):=
 step_lone_go (by simp [stepG,stepG.exec,Frame.atR])
def Nh {c:Code} (h:c.wpIn F n P (noGoto Q) a w):(Code.scope c).wpIn F n P Q a w:=by
 intro b k cs ck hb hr;have h0:(lone (b.atR a (.code (.scope c)::k)) cs w).fenced P F:=fenced_calm hb hr rfl;obtain ⟨e,a₁,w₁,hq,xy⟩:=h b (.inScope c::k) cs ck hb hr;cases e with
 |normal=>exact ⟨.normal,a₁,w₁,hq,.head h0 ld (StepsIn.trans xy (.one (fenced_calm hb hr rfl) FZ))⟩
 |exit id=>
  have hx:exitTo id (.inScope c::k)=exitTo id k:=by simp [exitTo]
  exact ⟨.exit id,a₁,w₁,hq,λ k' hk=>.head h0 ld (xy.1 k' (by rw [hx]; exact hk)),
    λ nu hk=>let ⟨k₁,h1,h2⟩:=xy.2 nu (by rw [hx]; exact hk); ⟨k₁,h1,.head h0 ld h2⟩⟩
 |goto l=>exact hq.elim
 |ret=>exact ⟨_,a₁,w₁,hq,.of_steps (.one h0 ld) xy⟩
 |panic ch=>exact ⟨_,a₁,w₁,hq,.of_steps (.one h0 ld) xy⟩
 |outgrown=>exact ⟨_,a₁,w₁,hq,.of_steps (.one h0 ld) xy⟩
end scopes
def aep (Q:Exit->St->Prop):Exit->St->Prop
 |.goto _,_=>False
 |e,s=>Q e s
def iT.scope {E:Env} {c:Code} {Q:Exit->St->Prop} {s:St} (h:iT E c (aep Q) s):iT E (.scope c) Q s:=λ R w β a F hr hf=>by
 refine Nh (wpIn_mono (h R w β a F hr hf) ?_);rintro e a' w' ⟨s',R',β',hq,rest⟩;cases e with
 |goto l=>exact hq.elim
 |_=>exact ⟨s',R',β',hq,rest⟩
def kg:ew:=[]
def yW (E:Env) (R:ak) (w:World) (Q:AV->List GO->Prop):Ending->World->Prop
 |.returned c,w'=>∃ r G' R',Q r G'/\Rel R' w' r c/\ij E R' w' G'/\Step R w (λ _=>0) kg R' w' (λ _=>0) kg
 |_,_=>False
def Ie (E:Env) (R:ak) (w:World) (Q:Bool->List GO->Prop):Ending->World->Prop
 |.returned c,w'=>∃ r G' R',Q r G'/\c=.bool r/\ij E R' w' G'/\Step R w (λ _=>0) kg R' w' (λ _=>0) kg
 |_,_=>False
def px (E:Env) (id:Nat) (args:List AV) (G:List GO) (Q:Bool->List GO->Prop):Prop:=
 ∀ (R:ak) (w:World) (cs:List Value) (b:Nat),ij E R w G->bj R w args cs->nth R.obj id=some (.cN b) ->
  ∃ r:Loop,w.heap[b]?=some (.loop r)/\cs.length=r.params.size /\
   RoundIn abN 0 E.P b r.fn ((r.params.zip ⟨cs⟩).foldl (λ tmps (t,a)=>tmps.setIfInBounds t a) r.tmps) r.assign r.body w (Ie E R w Q)
def px.mono {E:Env} {id:Nat} {args:List AV} {G:List GO} {Q Q':Bool->List GO->Prop} (h:px E id args G Q) (hq:∀ r G',Q r G'->Q' r G'):px E id args G Q':=
 λ R w cs b hg hl hb=>by
  obtain ⟨r,h1,h2,h3⟩:=h R w cs b hg hl hb;refine ⟨r,h1,h2,h3.mono λ e w' he=>?_⟩;cases e with
  |returned c=>obtain ⟨r,G',R',k1,k2⟩:=he; exact ⟨r,G',R',hq _ _ k1,k2⟩
  |_=>exact he
def Plain (P : Program) (g : FuncId) : Prop := ∃ fn, P.funcs[g]? = some fn /\ fn.body.isNone = false /\ (fn.name == "runtime.NumGoroutine") = false
def eI (E:Env) (g:FuncId) (args:List AV) (G:List GO) (Q:AV->List GO->Prop):Prop:=
 Plain E.P g/\∀ (R:ak) (w:World) (cs:List Value),ij E R w G->bj R w args cs->CallsIn abN 0 E.P g ⟨cs⟩ w (yW E R w Q)
def eI.mono {E:Env} {g:FuncId} {args:List AV} {G:List GO} {Q Q':AV->List GO->Prop} (h:eI E g args G Q) (hq:∀ r G',Q r G'->Q' r G'):eI E g args G Q':=
 ⟨h.1,λ R w cs hg hl=>(h.2 R w cs hg hl).mono λ e _ he=>by
  cases e with
  |returned c=>obtain ⟨r,G',R',h1,h2⟩:=he; exact ⟨r,G',R',hq _ _ h1,h2⟩
  |_=>exact he⟩
def jo {R:ak} {β:Nat->Nat} {b:Nat} (h:Own R β kg b):Live R b:=by
 rcases h with h|⟨k,cs,hk,_⟩
 .exact h
 .simp [kg,fm] at hk
section calls
def bG.vF (h:bG E R w β s a) (hg:ij E R' w' G') (st:Step R w (λ _=>0) kg R' w' (λ _=>0) kg) :
  bG E R' w' β (s.cM G') a/\Step R w β s.boxes R' w' β s.boxes:=by
 have Dr:∀ k cs,fm s.boxes k=some cs->β k < w.heap.size/\¬ Live R (β k):=λ k cs hk=>⟨h.gF (.inr ⟨k,cs,hk,rfl⟩),(h.b.box k cs hk).2.2⟩
 have live:∀ b,b < w.heap.size->Live R' b->Live R b:=λ b hb hl=>jo (st.own b hb (.inl hl))
 refine ⟨⟨hg,h.b.keep st.ext (λ k cs hk=>?_) (λ k cs o hk hi=>?_) (λ k cs hk hl=>live _ (Dr k cs hk).1 hl),h.t.mono st.ext,h.n,h.d.mono st.ext⟩,?_⟩
 .obtain ⟨h1,h2⟩:=Dr k cs hk;exact st.keep _ h1 (λ ho=>h2 (jo ho))
 .obtain ⟨h1,h2⟩:=Dr k cs hk;exact st.im _ o hi h1 (λ ho=>h2 (jo ho))
 .refine ⟨st.ext,st.os,st.tape,st.output,st.size,λ b hb hn=>st.keep b hb (λ ho=>hn (.inl (jo ho))),λ b hb ho=>?_,λ b o hi hb hn=>st.im b o hi hb (λ ho=>hn (.inl (jo ho)))⟩;rcases ho with ho|ho
  .exact .inl (live b hb ho)
  .exact .inr ho
def s5 (h:Plain P g) (args:Array Value) (w:World):(callFunc g args).run P w=.ok (.enter g args) w:=by
 obtain ⟨fn,h1,h2,h3⟩:=h;unfold callFunc;simp only [aaK,run_program,aaJ,h1,h2,h3,Bool.false_eq_true,if_false,aa5]
def uH (E:Env) (R:ak) (w:World) (β:Nat->Nat) (s:St) (K:St->Prop) (a':Act) (w':World):Prop:=
 ∃ s' R' β',K s'/\bG E R' w' β' s' a'/\Step R w β s.boxes R' w' β' s'.boxes/\s'.ro=s.ro
@[simp] theorem mE (s:St) (d:Option Tmp) (x:SV):(s.put d x).ro=s.ro:=by
 cases d with
 |none=>rfl
 |some d=>
  simp only [St.put];split <;> rfl
def Rm {t:TypeId} {p x:SV} (h:ic E s t p x=some (c,s')):s'.ro=s.ro:=by
 have store:∀ {t:TypeId} {p x:SV} {s':St},kl E s t p x=some s'->s'.ro=s.ro:=by
  intro t p x s' h;unfold kl at h
  repeat' (split at h)
  all_goals (first|(cases h; done) | skip)
  all_goals (injection h with h; subst h; rfl)
 unfold ic at h
 repeat' (split at h)
 all_goals (first|(cases h; done) | skip)
 all_goals (injection h with h; injection h with _ h; subst h)
 all_goals (first|rfl | exact store (by assumption))
def Rn (h:aA E f s o=some (c,s')):s'.ro=s.ro:=by
 have alloc:∀ {el:TypeId} {cs:List AV} {c:Bool} {s':St},iP E f s o.dst el cs=some (c,s')->s'.ro=s.ro:=by
  intro el cs c s' h;unfold iP at h
  repeat' (split at h)
  all_goals (first|(cases h; done) | skip)
  all_goals (injection h with h; injection h with _ h; subst h; simp [St.gj,St.Bu,St.kill])
 have store:∀ {t:TypeId} {p x:SV} {s':St},kl E s t p x=some s'->s'.ro=s.ro:=by
  intro t p x s' h;unfold kl at h
  repeat' (split at h)
  all_goals (first|(cases h; done) | skip)
  all_goals (injection h with h; subst h; rfl)
 have aeq:∀ {t:TypeId} {p x:SV} {c:Bool} {s':St},ic E s t p x=some (c,s')->s'.ro=s.ro:=by
  intro t p x c s' h;unfold ic at h
  repeat' (split at h)
  all_goals (first|(cases h; done) | skip)
  all_goals (injection h with h; injection h with _ h; subst h)
  all_goals (first|rfl | exact store (by assumption))
 have aer:∀ {t:TypeId} {p x:SV} {c:Bool} {s':St},nY E s t p x=some (c,s')->s'.ro=s.ro:=by
  intro t p x c s' h;unfold nY at h;split at h
  .rename_i hs;obtain ⟨_,rfl⟩:=cL h;exact Rm (s:=s.cM (xh s p x).2.2) hs
  .cases h
 have blt:∀ {b:Builtin} {l:List AV} {tys:List TypeId} {c:Bool} {s':St},eX E s o.dst b l tys=some (c,s')->s'.ro=s.ro:=by
  intro b l tys c s' h;unfold eX at h
  repeat' (split at h)
  all_goals (first|(cases h; done) | skip)
  all_goals (injection h with h; injection h with _ h; subst h; simp [St.cM])
 have update:∀ {t:TypeId} {m k x:SV} {s':St},gN E s t m k x=some s'->s'.ro=s.ro:=by
  intro t m k x s' h;unfold gN at h
  repeat' (split at h)
  all_goals (first|(cases h; done) | skip)
  all_goals (injection h with h; subst h; rfl)
 have Ig:∀ {t:TypeId} {m k x:SV} {c:Bool} {s':St},jA E s t m k x=some (c,s')->s'.ro=s.ro:=by
  intro t m k x c s' h;unfold jA at h;split at h
  .rename_i s1 hs;obtain ⟨_,rfl⟩:=cL h;unfold gN at hs
   repeat' (split at hs)
   all_goals (first|(cases hs; done) | skip)
   all_goals (injection hs with hs; subst hs; rfl)
  .cases h
 have next:∀ {x:SV} {s':St},qA s o.dst x=some s'->s'.ro=s.ro:=by
  intro x s' h;unfold qA at h;split at h
  .split at h
   .rename_i l pos hg;cases hb:Nat.blt pos l.length <;> rw [hb] at h <;> simp only [cond_true,cond_false] at h <;> cases h <;> simp [St.cM]
   .cases h
  .cases h
 have Ni:∀ {t:TypeId} {m k:SV} {c:Bool} {v:AV} {s':St},jW E s t m k=some (c,v,s')->s'.ro=s.ro:=by
  intro t m k c v s' h;unfold jW at h
  repeat' (split at h)
  all_goals (first|(cases h; done) | skip)
  all_goals (injection h with h; injection h with _ h; injection h with _ h; subst h; rfl)
 have Nj:∀ {m st x:SV} {c:Bool} {s':St},gP s m st x=some (c,s')->s'.ro=s.ro:=by
  intro m st x c s' h;unfold gP at h
  repeat' (split at h)
  all_goals (first|(cases h; done) | skip)
  all_goals (injection h with h; injection h with _ h; subst h; rfl)
 unfold aA sP at h
 repeat' (split at h)
 all_goals (first|(cases h; done) | exact alloc h | exact blt h | skip)
 all_goals (injection h with h; injection h with _ h; subst h)
 all_goals (first|(simp; done) | (simp [St.gj]; done) | (simp [St.cM]; done) | skip)
 all_goals (first|exact aer (by assumption) | exact Ig (by assumption) | exact update (by assumption) | exact (mE _ _ _).trans (Ni (by assumption)) | exact Nj (by assumption) | exact next (by assumption))
def Kj {Qc:Exit->Act->World->Prop} (h:bG E R w β s a) (hf:cQ R s.ro F) (hs:aA E f s o=some (true,s')) (hK:K s')
  (nd:∀ c,o.op≠.defer c) (N:Act->World->Prop) (hN:∀ a' w',uH E R w β s K a' w'->N a' w'):o.wpIn F 0 E.P a w N Qc:=by
 obtain ⟨nx,x,w',R',β',h1,h2,h3,h4⟩:=Ke h hs;refine ⟨λ f _=>hf.fn f,?_⟩;rw [ab7 _ _ _ nd,h1];have:N (a.put o.dst x) w':=hN _ _ ⟨s',R',β',hK,h3,h4,Rn hs⟩;rcases h2 with rfl|⟨rfl,rfl⟩
 .exact this
 .exact this
def Ro {Qc:Exit->Act->World->Prop} (h:bG E R w β s a) (hf:cQ R s.ro F) (ho:o.op=.call { callee:=.value fo,args:=args,argTypes:=tys })
  {first cap l:List AV} (hfo:cK E s.ae fo=.v (.fn g first cap)) (hl:uk E s.ae args.toList=some l)
  (hc:eI E g (first++l++cap) s.G (λ r G'=>K ((s.cM G').put o.dst (.v r)))) (N:Act->World->Prop) (hN:∀ a' w',uH E R w β s K a' w'->N a' w'):o.wpIn F 0 E.P a w N Qc:=by
 refine ⟨λ f _=>hf.fn f,?_⟩;have rf:=bi h fo;rw [hfo] at rf;have rf':Rel R w (.fn g first cap) (a.eval fo):=rf;have rl:=mZ h hl;generalize hfv:a.eval fo=fv at rf';cases rf' with
 | @fn _ _ _ vs us h1 h2=>
 have cP:(o.semAt F.round a.eval).run E.P w=.ok (.enter g ⟨vs++args.toList.map a.eval++us⟩) w:=by
  rw [ab7 _ _ _ (λ c e=>by rw [ho] at e; cases e)];simp only [execOp,ho,resolve,hfv,ad8,aaK,aa5,aaJ,invoke,pi];have:=s5 hc.1 (⟨vs⟩++⟨args.toList.map a.eval⟩++⟨us⟩) w;simpa using this
 rw [cP];refine ⟨λ e=>by rw [hf.depth] at e; simp at e,hf.calls ?_⟩;refine (hc.2 R w (vs++args.toList.map a.eval++us) h.g ((h1.append rl).append h2)).mono ?_;intro e X3 he;cases e with
 |returned c=>
  obtain ⟨r,G',R',hK,hr,hg,st⟩:=he;obtain ⟨q1,q2⟩:=h.vF hg st;exact hN _ _ ⟨_,R',β,hK,q1.put o.dst (x:=.v r) hr,by rw [bQ]; exact q2,by rw [mE]; rfl⟩
 |panicked c=>exact he.elim
 |outgrown=>exact he.elim
def cQ.rounds {R:ak} (h:cQ R ro F) {l:Nat} {w:World} {Q:Ending->World->Prop}
  (hc:RoundIn abN n P l f tmps xz bd w Q):RoundIn F n P l f tmps xz bd w Q:=by
 cases ro with
 |none=>rw [show F=abN from h]; exact hc
 |some id=>obtain ⟨b,_,h2⟩:=h; rw [h2]; exact hc
def Nk {Qc:Exit->Act->World->Prop} (h:bG E R w β s a) (hf:cQ R s.ro F) (ho:o.op=.call { callee:=.value fo,args:=args,argTypes:=tys })
  (hfo:cK E s.ae fo=.v (.yield id)) (hl:uk E s.ae args.toList=some l)
  (hc:px E id l s.G (λ b G'=>K ((s.cM G').put o.dst (.v (.bool b))))) (N:Act->World->Prop) (hN:∀ a' w',uH E R w β s K a' w'->N a' w'):o.wpIn F 0 E.P a w N Qc:=by
 refine ⟨λ f _=>hf.fn f,?_⟩;have rf:=bi h fo;rw [hfo] at rf;have rf':Rel R w (.yield id) (a.eval fo):=rf;have rl:=mZ h hl;generalize hfv:a.eval fo=fv at rf';cases rf' with
 | @yield _ b hb=>
 obtain ⟨r,Mm,Kk,hr3⟩:=hc R w (args.toList.map a.eval) b h.g rl hb;have cP:(o.semAt F.round a.eval).run E.P w=.ok (.round b r.fn ((r.params.zip ⟨args.toList.map a.eval⟩).foldl (λ tmps (t,a)=>tmps.setIfInBounds t a) r.tmps) r.assign r.body) w:=by
  rw [ab7 _ _ _ (λ c e=>by rw [ho] at e; cases e)];simp only [execOp,ho,resolve,hfv,ad8,aaK,aa5,aaJ,invoke,pi];have:=run_yield (P:=E.P) Mm (args:=⟨args.toList.map a.eval⟩) Kk;simpa using this
 rw [cP];refine ⟨λ e=>by rw [hf.depth] at e; simp at e,hf.rounds (hr3.mono ?_)⟩;intro e X3 he;cases e with
 |returned c=>
  obtain ⟨r,G',R',hK,rfl,hg,st⟩:=he;obtain ⟨q1,q2⟩:=h.vF hg st;exact hN _ _ ⟨_,R',β,hK,q1.put o.dst (x:=.v (.bool r)) (Rel.bool r),by rw [bQ]; exact q2,by rw [mE]; rfl⟩
 |panicked c=>exact he.elim
 |outgrown=>exact he.elim
end calls
def uI (ops:List Oper) (j:Nat):Option Tmp:=match nth ops j with
 |some o=>o.dst
 |none=>none
def gv:Bool->Prop->Prop
 |true,p=>p
 |false,_=>False
def gv.mk (h:c=true) (hp:p):gv c p:=by subst h; exact hp
def gv.out (h:gv c p):c=true/\p:=by
 cases c
 .exact h.elim
 .exact ⟨rfl,h⟩
def oD (E:Env) (f:FuncId) (o:Oper) (K:St->Prop) (s:St):Prop:=
 match o.op with
 |.call { callee:=.value x,args,.. }=>match cK E s.ae x,uk E s.ae args.toList with
  |.v (.fn g first cap),some l=>eI E g (first++l++cap) s.G (λ r G'=>K ((s.cM G').put o.dst (.v r)))
  |.v (.yield id),some l=>px E id l s.G (λ b G'=>K ((s.cM G').put o.dst (.v (.bool b))))
  |_,_=>False
 |.defer _=>False
 |_=>match aA E f s o with
  |some (c,s')=>gv c (K s')
  |none=>False
def dD (E:Env) (f:FuncId) (ops:List Oper) (o:Oper) (K:St->Prop) (s:St):Prop:=
 match o.guard with
 |none=>oD E f o K s
 |some (j,want)=>match uI ops j with
  |none=>False
  |some d=>match lk s.ae d with
   |.v (.bool b)=>(b=want->oD E f o K (s.put (some d) (.v (.bool want))))/\(b=!want->K ((s.put (some d) (.v (.bool (!want)))).put o.dst (.v jM)))
   |.v (.cD [])=>K (s.put o.dst (.v jM))
   |_=>False
def jR (E:Env) (f:FuncId) (ops:List Oper) (o:Oper) (K:St->Prop) (s:St):Prop:=
 match o.guard,np E f s o with
 |none,some s'=>K s'
 |_,_=>dD E f ops o K s
def jg (E:Env) (f:FuncId) (ops:List Oper) (o:Oper) (K:St->Prop) (s:St):Prop:=
 match o.guard,JN E f s o,AB E s o with
 |none,some (c,s'),_=>gv c (K s')
 |none,none,some (c,s0,left,g)=>gv c ((left=[]->K s0)/\∀ i∈left,gv (g i).1 (K (g i).2))
 |_,_,_=>jR E f ops o K s
def jh (E:Env) (f:FuncId) (ops:List Oper) (o:Oper) (K:St->Prop) (s:St):Prop:=
 match QY E f s o with
 |some (c,s')=>c=true/\jg E f ops o K s'
 |none=>jg E f ops o K s
def GQ (E:Env) (f:FuncId) (o:Oper) (K:St->Prop) (s:St):Prop:=match GP E f o s with
 |some (c,s')=>c=true/\K s'
 |none=>False
def uJ (E:Env) (f:FuncId) (ops:List Oper):List Oper->(St->Prop)->St->Prop
 |[],K,s=>K s
 |o::rest,K,s=>jh E f ops o (GQ E f o (uJ E f ops rest K)) s
section regions
def GR {Qc:Exit->Act->World->Prop} (h:bG E R w β s a) (hf:cQ R s.ro F) (ha:oD E f o K s) (N:Act->World->Prop) (hN:∀ a' w',uH E R w β s K a' w'->N a' w') :
  o.wpIn F 0 E.P a w N Qc:=by
 unfold oD at ha;split at ha
 .rename_i x args tys ho;split at ha
  .rename_i g first cap l h1 h2
   exact Ro h hf ho h1 h2 ha N hN
  .rename_i id l h1 h2;exact Nk h hf ho h1 h2 ha N hN
  .exact ha.elim
 .exact ha.elim
 .rename_i nc nd;split at ha
  .rename_i c s' hs;obtain ⟨rfl,hK⟩:=ha.out;exact Kj h hf hs hK (λ c e=>nd c e) N hN
  .exact ha.elim
def bG.Kl (h:bG E R w β s a) {b t:Bool} (hd:lk s.ae d=.v (.bool b)) (e:b=t):bG E R w β (s.put (some d) (.v (.bool t))) a:=by
 subst e;simp only [St.put];split
 .refine ⟨h.g,h.b,λ i hi=>?_,h.n,h.d⟩;by_cases e:d=i
  .subst e;rw [aS];have:=h.t d (by rw [hd]; simp);rw [hd] at this;exact this
  .rw [bq e] at hi ⊢;exact h.t i hi
 .exact h
def Nl (h:bG E R w β s a) {b:Bool} (hj:uI ops.toList j=some d) (hd:lk s.ae d=.v (.bool b)):yielded ops a.tmps j=some b:=by
 unfold uI at hj;split at hj
 .rename_i o ho;rw [bk] at ho;have An:ops[j]?=some o:=by simpa using ho
  obtain ⟨c,h1,h2⟩:=h.t d (by rw [hd]; simp);rw [hd] at h2;have h2':Rel R w (.bool b) c:=h2;cases h2';simp [yielded,An,hj,h1]
 .cases hj
def F1 (h:bG E R w β s a) (hj:uI ops.toList j=some d) (hd:lk s.ae d=.v (.cD [])):yielded ops a.tmps j=none:=by
 unfold uI at hj;split at hj
 .rename_i o ho;rw [bk] at ho;have An:ops[j]?=some o:=by simpa using ho
  obtain ⟨c,h1,h2⟩:=h.t d (by rw [hd]; simp);rw [hd] at h2;have h2':Rel R w (.cD []) c:=h2;cases h2';simp [yielded,An,hj,h1]
 .cases hj
def yX {Qc:Exit->Act->World->Prop} (h:bG E R w β s a) (hf:cQ R s.ro F) (ha:dD E f ops.toList o K s) (N:Act->World->Prop) (hN:∀ a' w',uH E R w β s K a' w'->N a' w') :
  (if aaN o (yielded ops a.tmps) then o.wpIn F 0 E.P a w N Qc else (∀ f,o.about E.P w a.eval=some f->F.fn f)/\N (a.put o.dst undef) w):=by
 unfold dD at ha;split at ha
 .rename_i hg;have:aaN o (yielded ops a.tmps)=true:=by simp [aaN,hg]
  rw [if_pos this];exact GR h hf ha N hN
 .rename_i j want hg;split at ha
  .exact ha.elim
  .rename_i d hd;split at ha
   .rename_i b hb;have hy:=Nl h hd hb;by_cases hw:b=want
    .have:aaN o (yielded ops a.tmps)=true:=by simp [aaN,hg,hy,hw]
     rw [if_pos this];exact GR (h.Kl hb hw) (by rw [mE]; exact hf) (ha.1 hw) N (λ a' w' hh=>hN a' w' (by
      obtain ⟨s',R',β',q1,q2,q3,q4⟩:=hh;exact ⟨s',R',β',q1,q2,by rw [bQ] at q3; exact q3,by rw [mE] at q4; exact q4⟩))
    .have hbw:b=!want:=by cases b <;> cases want <;> simp_all
     have:¬ aaN o (yielded ops a.tmps)=true:=by simp [aaN,hg,hy,hw]
     rw [if_neg this];refine ⟨λ f _=>hf.fn f,hN _ _ ⟨_,R,β,ha.2 hbw,(h.Kl hb hbw).put o.dst (x:=.v jM) (Rel.cD .nil),by rw [bQ,bQ]; exact Step.refl _ _ _ _,by rw [mE,mE]⟩⟩
   .rename_i hb;have hy:=F1 h hd hb;have:¬ aaN o (yielded ops a.tmps)=true:=by simp [aaN,hg,hy]
    rw [if_neg this];exact ⟨λ f _=>hf.fn f,hN _ _ ⟨_,R,β,ha,h.put o.dst (x:=.v jM) (Rel.cD .nil),by rw [bQ]; exact Step.refl _ _ _ _,by rw [mE]⟩⟩
   .exact ha.elim
def F2 {Qc:Exit->Act->World->Prop} (h:bG E R w β s a) (hf:cQ R s.ro F) (ha:jR E f ops.toList o K s) (N:Act->World->Prop) (hN:∀ a' w',uH E R w β s K a' w'->N a' w') :
  (if aaN o (yielded ops a.tmps) then o.wpIn F 0 E.P a w N Qc else (∀ f,o.about E.P w a.eval=some f->F.fn f)/\N (a.put o.dst undef) w):=by
 unfold jR at ha;split at ha
 .rename_i s' hg hb;have:aaN o (yielded ops a.tmps)=true:=by simp [aaN,hg]
  rw [if_pos this];unfold np at hb;split at hb
  .rename_i t len parts ho;split at hb
   .rename_i d hd;split at hb
    .split at hb
     .rename_i i hi;split at hb
      .rename_i elem cr ag wI z esz es hk hv;cases hb;obtain ⟨nx,x,w',R',β',h1,h2,h3,h4⟩:=AM h t len parts ho hv hi hk;refine ⟨λ f _=>hf.fn f,?_⟩;rw [ab7 _ _ _ (λ c e=>by rw [ho] at e; cases e),h1];rw [hd] at h3 h4;have lU:N (a.put o.dst x) w':=hN _ _ ⟨_,R',β',ha,by rw [hd]; exact h3,h4,by rw [mE]; rfl⟩;rcases h2 with rfl|⟨rfl,rfl⟩
       .exact lU
       .exact lU
      .rename_i elem esz ag wI z hk _;split at hb;rotate_left
       .cases hb
       rename_i cs hv;cases hb;obtain ⟨nx,x,w',R',β',h1,h2,h3,h4⟩:=AL h t len parts ho hv hi hk;refine ⟨λ f _=>hf.fn f,?_⟩;rw [ab7 _ _ _ (λ c e=>by rw [ho] at e; cases e),h1];rw [hd] at h3 h4;have lU:N (a.put o.dst x) w':=hN _ _ ⟨_,R',β',ha,by rw [hd]; exact h3,h4,by rw [mE]; rfl⟩;rcases h2 with rfl|⟨rfl,rfl⟩
       .exact lU
       .exact lU
      .cases hb
     .cases hb
    .split at hb
     .split at hb
      .rename_i i hi;split at hb
       .rename_i elem cr ag wI z esz es hk hv;split at hb
        .rename_i hle;cases hb;obtain ⟨nx,x,w',R',β',h1,h2,h3,h4⟩:=AN h t len parts ho hv hi hk (aba hle);refine ⟨λ f _=>hf.fn f,?_⟩;rw [ab7 _ _ _ (λ c e=>by rw [ho] at e; cases e),h1];rw [hd] at h3 h4;have lU:N (a.put o.dst x) w':=hN _ _ ⟨_,R',β',ha,by rw [hd]; exact h3,h4,by rw [mE]; rfl⟩;rcases h2 with rfl|⟨rfl,rfl⟩
         .exact lU
         .exact lU
        .cases hb
       .cases hb
      .cases hb
     .cases hb
   .cases hb
  .cases hb
 .exact yX h hf ha N hN
def Yr (h:JN E f s o=some (c,s')):s'.ro=s.ro/\∀ d,o.op≠.defer d:=by
 unfold JN at h;split at h
 .rename_i t x lo d ho hd;refine ⟨?_,λ d e=>by rw [ho] at e; cases e⟩
  repeat' (split at h)
  all_goals (first|(cases h; done) | skip)
  all_goals (injection h with h; injection h with _ h; subst h; simp [St.cM])
 .cases h
def Rp {g:Nat->Bool×St} (h:AB E s o=some (c,s0,left,g)):(∃ x,o.op=.next x false/\Gw E s o.dst (cK E s.ae x)=some (c,s0,left,g))/\s0.ro=s.ro/\∀ i,(g i).2.ro=s.ro:=by
 unfold AB at h;split at h
 .rename_i x ho;refine ⟨⟨x,ho,h⟩,?_⟩;unfold Gw at h;split at h
  .split at h
   .split at h
    .cases h;exact ⟨mE _ _ _,λ i=>mE _ _ _⟩
    .cases h
   .cases h
  .cases h
 .cases h
def AS {f:FuncId} {Qc:Exit->Act->World->Prop} (hf:cQ R s.ro F) (hd:c8 E R w β s a o s') (hK:K s') (ck:s'.ro=s.ro)
  (nd:∀ c,o.op≠.defer c) (N:Act->World->Prop) (hN:∀ a' w',uH E R w β s K a' w'->N a' w'):o.wpIn F 0 E.P a w N Qc:=by
 obtain ⟨nx,x,w',R',β',h1,h2,h3,h4⟩:=hd;refine ⟨λ f _=>hf.fn f,?_⟩;rw [ab7 _ _ _ nd,h1];have:N (a.put o.dst x) w':=hN _ _ ⟨s',R',β',hK,h3,h4,ck⟩;rcases h2 with rfl|⟨rfl,rfl⟩
 .exact this
 .exact this
def wP {Qc:Exit->Act->World->Prop} (h:bG E R w β s a) (hf:cQ R s.ro F) (ha:jg E f ops.toList o K s) (N:Act->World->Prop) (hN:∀ a' w',uH E R w β s K a' w'->N a' w') :
  (if aaN o (yielded ops a.tmps) then o.wpIn F 0 E.P a w N Qc else (∀ f,o.about E.P w a.eval=some f->F.fn f)/\N (a.put o.dst undef) w):=by
 unfold jg at ha;split at ha
 .rename_i c s' hg hb;have:aaN o (yielded ops a.tmps)=true:=by simp [aaN,hg]
  rw [if_pos this];obtain ⟨rfl,hK⟩:=ha.out;obtain ⟨k1,k2⟩:=Yr hb;exact AS (f:=f) hf (Ug h hb) hK k1 k2 N hN
 .rename_i c s0 left g hg _ hb;have:aaN o (yielded ops a.tmps)=true:=by simp [aaN,hg]
  rw [if_pos this];obtain ⟨rfl,hK1,hK2⟩:=ha.out;obtain ⟨⟨x,ho,hm⟩,k1,k2⟩:=Rp hb;have nd:∀ c,o.op≠.defer c:=λ c e=>by rw [ho] at e; cases e
  rcases M6 h x ho hm with ⟨hl,hd⟩|⟨i,hi,hd⟩
  .exact AS (f:=f) hf hd (hK1 hl) k1 nd N hN
  .obtain ⟨q1,q2⟩:=(hK2 i hi).out;exact AS (f:=f) hf (hd q1) q2 (k2 i) nd N hN
 .exact F2 h hf ha N hN
def F4 {Qc:Exit->Act->World->Prop} (h:bG E R w β s a) (hf:cQ R s.ro F) (ha:jh E f ops.toList o K s) (N:Act->World->Prop) (hN:∀ a' w',uH E R w β s K a' w'->N a' w') :
  (if aaN o (yielded ops a.tmps) then o.wpIn F 0 E.P a w N Qc else (∀ f,o.about E.P w a.eval=some f->F.fn f)/\N (a.put o.dst undef) w):=by
 unfold jh at ha;split at ha
 .rename_i c s' hz;obtain ⟨rfl,ha⟩:=ha;obtain ⟨R1,k1,k2,k3⟩:=Um h hz;refine wP k1 (by rw [k3]; exact hf.mono k2.ext) ha N ?_;rintro a' w' ⟨s2,R',β',q1,q2,q3,q4⟩;exact hN a' w' ⟨s2,R',β',q1,q2,k2.trans q3,q4.trans k3⟩
 .exact wP h hf ha N hN
def DJ {f:FuncId} {F:Fence} {ops:Array Oper} {K:St->Prop} {Qc:Exit->Act->World->Prop} (hQ:∀ a' w',uH E R w β s K a' w'->Qc .normal a' w') :
  ∀ (l:List Nat) (os:List Oper),l.map (λ i=>ops[i]?)=os.map some->∀ (R1:ak) (w1:World) (β1:Nat->Nat) (s1:St) (a1:Act),bG E R1 w1 β1 s1 a1->Step R w β s.boxes R1 w1 β1 s1.boxes->s1.ro=s.ro->cQ R1 s1.ro F ->
   uJ E f ops.toList os K s1->wpOpsIn F 0 E.P ops Qc l a1 w1
 |[],os,hm,R1,w1,β1,s1,a1,hr,mh,ck,_,ha=>by
  have:os=[]:=by simpa using hm.symm
  subst this;exact hQ _ _ ⟨s1,R1,β1,ha,hr,mh,ck⟩
 |i::l,[],hm,_,_,_,_,_,_,_,_,_,_=>by simp at hm
 |i::l,o::os,hm,R1,w1,β1,s1,a1,hr,mh,ck,hf,ha=>by
  simp only [List.map_cons,List.cons.injEq] at hm;obtain ⟨hi,hm⟩:=hm;simp only [wpOpsIn,hi];refine F4 hr hf (show jh E f ops.toList o (GQ E f o (uJ E f ops.toList os K)) s1 from ha) _ ?_;rintro a' w' ⟨s',R',β',q1,q2,q3,q4⟩;unfold GQ at q1;split at q1
  .rename_i c s2 hp;obtain ⟨rfl,q1⟩:=q1;obtain ⟨R2,p1,p2,p3,_⟩:=Rl q2 hp;exact DJ hQ l os hm R2 w' β' s2 a' p1 ((mh.trans q3).trans p2) (p3.trans (q4.trans ck)) (by rw [p3,q4]; exact hf.mono (q3.ext.trans p2.ext)) q1
  .exact q1.elim
def Rq (ops:Array Oper):(adn ops.size).map (λ i=>ops[i]?)=ops.toList.map some:=by
 apply List.ext_getElem?;intro i;simp only [List.getElem?_map];by_cases hi:i < ops.size
 .rw [List.getElem?_range hi];simp [hi]
 .rw [adm (by simp; omega),adm (by simp; omega)];rfl
def iT.region {f:FuncId} {id:Nat} {ops:Array Oper} {Q:Exit->St->Prop} {s:St} (h:uJ E f ops.toList ops.toList (Q .normal) s):iT E (.region id ops false) Q s:=λ R w β a F hr hf=>by
 refine wpIn_region (DJ (R:=R) (w:=w) (β:=β) (s:=s) (K:=Q .normal) (f:=f) ?_ _ _ (Rq ops) R w β s a hr (Step.refl _ _ _ _) rfl hf h);rintro a' w' ⟨s',R',β',h1,h2⟩;exact ⟨s',R',β',h1,h2⟩
end regions
def vsl:Nat->List AV->bT
 |_,[]=>[]
 |n,a::l=>.put n (.v a)::vsl (n+1) l
def St.init (ntmps:Nat) (args:List AV) (G:List GO):St:=
 ⟨vsl 0 args,[],G,[],none,max ntmps args.length⟩
def uK:List Nat->List GO->Option (List GO)
 |[],G=>some G
 |id::l,G=>match nth G id with
  |some (.defers true)=>uK l (aC G id (.defers false))
  |_=>none
def Nn (E:Env) (s:St):List ResultVar->Option (List AV)
 |[]=>some []
 |.tmp t::l=>match lk s.ae t,Nn E s l with
  |.v a,some r=>some (a::r)
  |_,_=>none
 |.cell p t::l=>match yp E s t (lk s.ae p),Nn E s l with
  |some a,some r=>some (a::r)
  |_,_=>none
def Up (E:Env) (s:St) (fn:Func):Option AV:=match Nn E s fn.results.toList with
 |some [a]=>some a
 |some l=>some (.cD l)
 |none=>none
def ach (E:Env) (fn:Func) (Q:AV->List GO->Prop):Exit->St->Prop
 |.normal,s | .ret,s=>match uK s.marks s.G with
  |some G=>match Up E (s.cM G) fn with
   |some r=>Q r G
   |none=>False
  |none=>False
 |_,_=>False
section fns
def DK (tmps:Array Value):ResultVar->Sem Value
 |.tmp t=>pure (tmps.getD t undef)
 |.cell p t=>do loadVar t (<- asAddr (tmps.getD p undef))
def DL (fn:Func) (tmps:Array Value):results fn tmps=(do
  let vs <- fn.results.mapM (DK tmps)
  pure (if h:vs.size=1 then vs[0] else .tuple vs)):=by
 unfold results;congr 1
def yY (h:bG E R w β s a):∀ {l:List ResultVar} {r:List AV},Nn E s l=some r ->
  ∃ vs,(l.mapM (DK a.tmps)).run E.P w=.ok vs w/\bj R w r vs
 |[],r,hl=>by
  simp [Nn] at hl;subst hl;exact ⟨[],by simp,.nil⟩
 |.tmp t::l,r,hl=>by
  unfold Nn at hl;split at hl
  .rename_i x r' h1 h2;cases hl;obtain ⟨vs,g1,g2⟩:=yY h h2;obtain ⟨c,k1,k2⟩:=h.t t (by rw [h1]; simp);rw [h1] at k2;have hg:a.tmps.getD t undef=c:=by simp [acM,k1]
   refine ⟨c::vs,?_,.cons k2 g2⟩;simp only [List.mapM_cons,aaK,aa5,aaJ,DK,hg,g1]
  .cases hl
 |.cell p t::l,r,hl=>by
  unfold Nn at hl;split at hl
  .rename_i v r' h1 h2
   .cases hl;obtain ⟨vs,g1,g2⟩:=yY h h2;obtain ⟨c,k1,k2⟩:=h.t p (λ e=>by rw [e] at h1; unfold yp at h1; split at h1 <;> simp_all [sH]);have hg:a.tmps.getD p undef=c:=by simp [acM,k1]
    unfold yp at h1;split at h1
    .rename_i i cs off hi hc;split at h1
     .rename_i l' hs;obtain ⟨b,o',us,e,q1,q2,q3⟩:=Bx h k2 hc;obtain ⟨m1,m2,m3,m4⟩:=vC hs q1 q2;obtain ⟨c',yA,iR⟩:=qC (E:=E) hi (b:=b) (off:=o'+off) m1 m2 m3 (λ j y hy=>by rw [Nat.add_assoc]; exact q3 _ _ (m4 j y hy)) h1;refine ⟨c'::vs,?_,.cons iR g2⟩;have ha:(asAddr c).run E.P w=.ok ⟨b,o'+off,none⟩ w:=by rw [e]; rfl
      have an7:(DK a.tmps (.cell p t)).run E.P w=.ok c' w:=by
       simp only [DK,aaK,hg,ha,aaJ,yA]
      simp only [List.mapM_cons,aaK,aa5,aaJ,an7,g1]
     .cases h1
    .cases h1
  .cases hl
def Uq (h:bG E R w β s a) {fn:Func} (hr:Up E s fn=some r):∃ c,(results fn a.tmps).run E.P w=.ok c w/\Rel R w r c:=by
 unfold Up at hr;split at hr
 .rename_i x hl;cases hr;obtain ⟨vs,g1,g2⟩:=yY h hl;cases g2 with
  | @cons _ c _ _ g2 g3=>
  cases g3;refine ⟨c,?_,g2⟩;rw [DL,acP];simp only [aaK,Sem.run_map];rw [g1];simp
 .rename_i l de hl;cases hr;obtain ⟨vs,g1,g2⟩:=yY h hl;refine ⟨.tuple ⟨vs⟩,?_,.cD g2⟩;have hlen:vs.length≠1:=by
   rw [<- g2.length];intro e
   match l,e with
   |[x],_=>exact de x rfl
  rw [DL,acP];simp only [aaK,Sem.run_map];rw [g1];simp [hlen]
 .cases hr
def Rr (fn:Func) (Q:Ending->World->Prop):∀ {marks:List Nat} {G G':List GO} {R:ak} {w:World} {β:Nat->Nat} {s:St} {a:Act},bG E R w β (s.cM G) a->wB R marks a.defers->uK marks G=some G' ->
  (∀ w' ,bG E R w' β (s.cM G') a->Step R w β s.boxes R w' β s.boxes->∃ v,(results fn a.tmps).run E.P w'=.ok v w'/\Q (.returned v) w')->LeavesInM abN 0 E.P fn a.tmps Q a.defers .returning w:=by
 intro marks;have key:∀ (marks:List Nat) (ds:List Deferred) (G G':List GO) (R:ak) (w:World) (β:Nat->Nat) (s:St) (a:Act),bG E R w β (s.cM G) a->wB R marks ds->uK marks G=some G' ->
   (∀ w' ,bG E R w' β (s.cM G') a->Step R w β s.boxes R w' β s.boxes->∃ v,(results fn a.tmps).run E.P w'=.ok v w'/\Q (.returned v) w')->LeavesInM abN 0 E.P fn a.tmps Q ds .returning w:=by
  intro marks
  induction marks with
  |nil=>
   intro ds G G' R w β s a hr hd hl hq;cases ds with
   |cons _ _=>exact hd.elim
   |nil=>
    simp [uK] at hl;subst hl;obtain ⟨v,h1,h2⟩:=hq w hr (Step.refl _ _ _ _);exact ⟨v,h1,h2⟩
  |cons id marks ih=>
   intro ds G G' R w β s a hr hd hl hq;cases ds with
   |nil=>exact hd.elim
   |cons d ds=>
    obtain ⟨⟨b,hb,rfl⟩,hd⟩:=hd;unfold uK at hl;split at hl
    .rename_i hg;have hob:w.heap[b]?=some (.deferred (some [])):=hr.g.obj id _ _ hg hb;have du:=cu hob;have TS:(adU b).run E.P w=.ok [] (World.put w b (.deferred none)):=by
      simp only [adU,getObj,setObj,aaK,ab6,hob,aaJ,aa5];rfl
     obtain ⟨q1,q2⟩:=hr.setObj (s:=s.cM G) (x':=.deferred none) (go':=.defers false) hb hob trivial trivial (λ _ e=>by cases e) (kA w b _ du);refine ⟨by simp,.inl ⟨b,_,rfl,TS,?_⟩⟩;refine ih ds (aC G id (.defers false)) G' R _ β s a q1 hd hl (λ w' nu mh=>?_);exact hq w' nu (q2.trans mh)
    .cases hl
 intro G G' R w β s a hr hd hl hq;exact key marks a.defers G G' R w β s a hr hd hl hq
end fns
section intro
def DM (h:Step R w β bx R' w' β' QZ) (hn:∀ k cs,fm bx k≠some cs):Step R w (λ _=>0) kg R' w' (λ _=>0) kg:=by
 have own:∀ b,Own R β bx b->Live R b:=λ b ho=>by
  rcases ho with ho|⟨k,cs,hk,_⟩
  .exact ho
  .exact absurd hk (hn k cs)
 exact ⟨h.ext,h.os,h.tape,h.output,h.size,λ b hb AO=>h.keep b hb (λ ho=>AO (.inl (own b ho))),λ b hb ho=>.inl (own b (h.own b hb (.inl (jo ho)))),λ b o hi hb AO=>h.im b o hi hb (λ ho=>AO (.inl (own b ho)))⟩
def Ur:∀ {l:List AV} {n i:Nat},(i < n\/n+l.length<=i->lk (vsl n l) i=.none)/\(∀ a,l[i - n]?=some a->n<=i->lk (vsl n l) i=.v a)
 |[],n,i=>⟨λ _=>rfl,λ a h=>by simp at h⟩
 |b::l,n,i=>by
  obtain ⟨h1,h2⟩:=Ur (l:=l) (n:=n+1) (i:=i);refine ⟨λ h=>?_,λ a h hn=>?_⟩
  .simp only [List.length_cons] at h;simp only [vsl];rw [bq (by omega)];exact h1 (by omega)
  .simp only [vsl];by_cases e:n=i
   .subst e;rw [aS];simp at h;rw [h]
   .rw [bq e];refine h2 a ?_ (by omega);have:i - n=(i - (n+1))+1:=by omega
    rw [this] at h;simpa using h
def Us {args:List AV} {cs:List Value} (hg:ij E R w G) (hl:bj R w args cs) :
  bG E R w (λ _=>0) (St.init ntmps args G) { tmps:=⟨cs⟩++Array.replicate (ntmps - (⟨cs⟩:Array Value).size) undef,defers:=[] }:=by
 have hlen:=hl.length;refine ⟨hg,⟨λ k c hk=>?_,λ k k' c c' hk _ _=>?_⟩,λ i hi=>?_,?_,trivial⟩
 .simp [St.init,fm] at hk
 .simp [St.init,fm] at hk
 .simp only [St.init] at hi ⊢;obtain ⟨h1,h2⟩:=Ur (l:=args) (n:=0) (i:=i);by_cases du:i < args.length
  .have hy:args[i]?=some args[i]:=abk du;obtain ⟨c,k1,k2⟩:=hl.get hy;rw [h2 _ (by rw [adP]; exact hy) (Nat.zero_le _)];refine ⟨c,?_,k2⟩;rw [Array.getElem?_append_left (by simp; omega)];simpa using k1
  .exact absurd (h1 (by omega)) hi
 .simp [St.init];omega
def No {args:List AV} (k:Nat) (cs:List AV):fm (St.init ntmps args G).boxes k≠some cs:=by
 simp [St.init,fm]
def eI.intro {g : FuncId} {fn : Func} {c : Code} {args : List AV} {G : List GO} {Q : AV -> List GO -> Prop} (hf : E.P.funcs[g]? = some fn) (hb : fn.body = some c) (hn : (fn.name == "runtime.NumGoroutine") = false)
  (h:iT E c (ach E fn Q) (St.init fn.ntmps args G)):eI E g args G Q:=by
 refine ⟨⟨fn,hf,by simp [hb],hn⟩,λ R w cs hg hl=>?_⟩;refine callsIn_of_wp_marks hf hb trivial (wpIn_mono (h R w (λ _=>0) _ abN (Us hg hl) rfl) ?_);rintro e a' w' ⟨s',R',β',hq,hr,mh,ck⟩;have fin:(match uK s'.marks s'.G with
  |some G=>match Up E (s'.cM G) fn with
   |some r=>Q r G
   |none=>False
  |none=>False)->LeavesInM abN 0 E.P fn a'.tmps (yW E R w Q) a'.defers .returning w':=by
  intro hq;split at hq
  .rename_i G2 hG2;split at hq
   .rename_i r Np;refine Rr fn (yW E R w Q) (s:=s') (G:=s'.G) hr hr.d hG2 (λ X3 DI wO=>?_);obtain ⟨v,h1,h2⟩:=Uq DI Np;exact ⟨v,h1,r,G2,R',hq,h2,DI.g,DM (mh.trans wO) No⟩
   .exact hq.elim
  .exact hq.elim
 cases e with
 |normal=>exact fin hq
 |ret=>exact fin hq
 |exit _=>exact hq.elim
 |goto _=>exact hq.elim
 |panic _=>exact hq.elim
 |outgrown=>exact hq.elim
end intro
end Go.Am
