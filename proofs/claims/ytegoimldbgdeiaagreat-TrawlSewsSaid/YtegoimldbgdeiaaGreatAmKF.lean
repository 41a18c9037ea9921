/- The abstract machine: what it does is what the model does: objects that are no rows; ranges over strings. -/
import Derived.Test.YtegoimldbgdeiaaGreatAmKE
import Derived.Laws.RangeAny
import Derived.Maps.RangeRun
import Derived.Laws.BytesString
import Derived.Laws.Cover4
set_option linter.all false
open Array renaming length_toList→aaL, toList_modify→aaO, toList_push→aa2, getElem?_toList→aa9, toList_filter→abi
open Bool renaming and_eq_true→aal
open ByteArray renaming get!→abG
open Go.ByteArray renaming toList_eq→abg
open Go.Instr renaming findKey→aao, checkKey→aap, findAsking→aaq, findNow→aaK, sameBits→aaM, keyThatStays→aaV, sameNow→aa1, lookup→aa5
open Go.Op renaming maxDepth→aaW, equal→aa4
open Go.Result renaming andThen_ok→aav
open Go.Sem renaming run_bind→aax, run_pure→aaN, run→aaQ
open Go.Utf8 renaming encode→aaY
open Go.Value renaming int→abl
open List renaming getElem?_eq_getElem→aas, getElem?_modify→aaS, modify_zero_cons→aaZ, modify_succ_cons→aa0, getElem?_cons_zero→aa6, getElem?_cons_succ→aa7, singleton_append→aba, length_singleton→abb, mem_cons_of_mem→abc, map_cons→abe, getElem_of_mem→abh
open Nat renaming eq_of_beq_eq_true→aaI, le_of_ble_eq_true→aaR, zero_add→aaT, sub_zero→aa3, add_assoc→abd, add_comm→abj
open Option renaming isSome_iff_exists→aaU
open Option.some renaming inj→aa8, injEq→abr
open UInt8 renaming ofNat→aaX
namespace Go.Am
open Go
open Go.ChangeMaps (setBlock)
def pY (x:Obj):Prop:=match x with
 |.cells ..=>False
 |_=>True
theorem uH {w:World} {b:Nat} {x:Obj} (h:w.heap[b]?=some x) (hn:pY x) (o:Nat):w.cell? ⟨b,o,none⟩=none:=by
 simp only [World.cell?,h];cases x <;> first | rfl | exact hn.elim
def World.put (w:World) (b:Nat) (x:Obj):World:={ w with heap:=w.heap.setIfInBounds b x }
theorem pq (w:World) (b k:Nat) (x:Obj) (h:k≠b):(World.put w b x).heap[k]?=w.heap[k]?:=Array.getElem?_setIfInBounds_ne (Ne.symm h)
theorem ja (w:World) (b:Nat) (x:Obj) (h:b < w.heap.size):(World.put w b x).heap[b]?=some x:=by simp [World.put,h]
@[simp] theorem Yu (w:World) (b:Nat) (x:Obj):(World.put w b x).heap.size=w.heap.size:=by simp [World.put]
section setobj
variable {E:Env} {R:ai} {w:World} {β:Nat→Nat} {s:St} {a:Act}
theorem pZ {b:Nat} {x x':Obj} (hx:w.heap[b]?=some x) (hn:pY x) (Ug:pY x') (hl:∀ r,x=.loop r→∃ r',x'=.loop r'∧qU r r'):Ext R w R (World.put w b x'):=
 ⟨fun _ _ h=>h,fun b' o h=>by
  by_cases e:b'=b
  ·subst e;rw [uH hx hn,uH (ja w b' x' (bz hx)) Ug]
  ·exact bL (pq w b b' x' e) o,fun _ ro h=>⟨ro,h,cj.refl ro⟩,fun b' r hb=>by
  by_cases e:b'=b
  ·subst e;rw [hx] at hb;obtain ⟨r',rfl,h2⟩:=hl r (aa8 hb);exact ⟨r',ja w b' _ (bz hx),h2⟩
  ·exact ⟨r,(pq w b b' x' e).trans hb,rfl,rfl,rfl,rfl,rfl⟩⟩
theorem aY.setObj (h:aY E R w β s a) {id b:Nat} {x x':Obj} {go':GO} (hid:nth R.obj id=some (.bE b)) (hx:w.heap[b]?=some x) (hn:pY x) (Ug:pY x') (hl:∀ r,x=.loop r→∃ r',x'=.loop r'∧qU r r') (ia:iE R (World.put w b x') go' (.bE b)) :
  aY E R (World.put w b x') β (s.bq (ak s.G id go')) a∧Step R w β s.boxes R (World.put w b x') β s.boxes:=by
 have hex:=pZ (R:=R) hx hn Ug hl;refine ⟨⟨⟨by simp [St.bq,h.g.len],fun iU go ro hg ky=>?_,h.g.inj,fun b' o' qP=>by have:=h.g.wf b' o' qP; simpa using this,fun g eZ hg=>(h.g.dF g eZ hg).mono hex,by first | exact h.g.lo | exact Nat.le_succ_of_le h.g.lo⟩,?_,h.t.mono hex,h.n,h.d⟩,?_⟩
 ·rcases b8 hg with ⟨rfl,rfl,_⟩|⟨cq,Ck⟩
  ·rw [hid] at ky;cases ky;exact ia
  ·refine (h.g.obj iU go ro Ck ky).mono hex (fun b' kX=>pq w _ b' _ (fun e=>cq ?_)) (fun _ _ _ hi=>hi);subst e;exact h.g.inj id iU _ _ b' hid ky rfl kX
 ·exact h.b.keep hex (fun k eZ iZ=>pq w _ _ _ (h.G5 hid iZ)) (fun _ _ _ _ hi=>hi) (fun _ _ _ hl=>hl)
 ·have qY:Own R β s.boxes b:=.inl ⟨id,_,hid,rfl⟩;exact ⟨hex,rfl,rfl,rfl,by simp,fun b' _ hn=>pq w _ b' _ (fun e=>hn (e ▸ qY)),fun _ _ hb=>hb,fun b o hi _ _=>hi⟩
end setobj
section maps
variable {E:Env} {R:ai} {w:World} {β:Nat→Nat} {s:St} {a:Act} {o:Oper}
theorem MJ {t:TypeId} {i:TI} (hi:E.ti t=some i):i.ek=xh E.P t:=by
 have:=E.Kf t i hi;unfold Ke at this;split at this
 ·split at this
  ·cases this; rfl
  ·cases this
 ·cases this
theorem mi {e:EK} {a b:AV} {r:Bool} (h:GC e a b=some r):nK e a b=some r:=by
 unfold GC at h;split at h
 ·rename_i he;cases hc:(e.wide&&!pP a b) with
  |true=>rw [hc] at h; cases h
  |false=>rw [hc] at h; cases h; exact he
 ·exact h
theorem MK {e:EK} {a b:AV} (h:GC e a b=some true) (he:e.wide=true):pP a b=true:=by
 have:=mi h;unfold GC at h;rw [this] at h;simp only [he,Bool.true_and] at h;cases hs:pP a b with
 |true=>rfl
 |false=>rw [hs] at h; cases h
def E3 (e:EK) (d:TypeDesc):Prop:=(e=.bool∧d=.bool)∨(e=.int∧∃ k,d=.int k)∨(e=.str∧d=.string)∨(e.wide=true∧((∃ fs,d=.struct fs)∨∃ n t,d=.array n t))
theorem xw {P:Program} {t:TypeId} (h:(xh P t).plain=true):∃ d,P.underlying t=some d∧E3 (xh P t) d:=by
 have key:∀ {e:EK},e=sO P 6 t→e.plain=true→∃ d,P.underlying t=some d∧E3 e d:=by
  intro e he h;unfold sO at he;split at he
  ·rename_i hu; exact ⟨_,hu,.inl ⟨he,rfl⟩⟩
  ·rename_i k hu; exact ⟨_,hu,.inr (.inl ⟨he,k,rfl⟩)⟩
  ·rename_i hu; exact ⟨_,hu,.inr (.inr (.inl ⟨he,rfl⟩))⟩
  ·rename_i fs hu;split at he
   ·subst he; cases h
   ·split at he
    ·subst he; exact ⟨_,hu,.inr (.inr (.inr ⟨rfl,.inl ⟨_,rfl⟩⟩))⟩
    ·subst he; cases h
  ·rename_i m e' hu;split at he
   ·subst he; exact ⟨_,hu,.inr (.inr (.inr ⟨rfl,.inr ⟨_,_,rfl⟩⟩))⟩
   ·subst he; cases h
  ·subst he; cases h
 unfold xh at h ⊢;split
 ·rename_i l hl;rw [hl] at h;simp only at h;split at h
  ·simp [EK.plain] at h
  ·rename_i hg;rw [if_neg hg];exact key hl.symm rfl
 ·rename_i k hk;exact key rfl (by
   split at h
   ·rename_i l hl; exact absurd hl (hk l)
   ·exact h)
theorem DI {a b:AV} (h:uq a b=true) {x y:Value} (hx:Rel R w a x) (hy:Rel R w b y):x=y:=by
 unfold uq at h;split at h
 ·cases hx; cases hy; rw [eq_of_beq h]
 ·rw [aal,decide_eq_true_eq] at h;cases hx; cases hy; rw [h.1,eq_of_beq h.2]
 ·cases hx; cases hy; rw [eq_of_beq h]
 ·cases h
theorem uI:∀ {xs ys:List AV} {vs us:List Value},qS xs ys=true→aL R w xs vs→aL R w ys us→vs=us
 |[],[],_,_,_,.nil,.nil=>rfl
 |a :: xs,b :: ys,_,_,h,.cons h1 h2,.cons h3 h4=>by
  unfold qS at h;rw [aal] at h;rw [DI h.1 h1 h3,uI h.2 h2 h4]
 |[],_ :: _,_,_,h,_,_=>by cases h
 |_ :: _,[],_,_,h,_,_=>by cases h
theorem E4 {a b:AV} (h:pP a b=true) {x y:Value} (hx:Rel R w a x) (hy:Rel R w b y):x=y:=by
 unfold pP at h;split at h
 ·cases hx with
  |agg hx _=>cases hy with
   |agg hy _=>rw [uI h hx hy]
 ·cases h
theorem xx {ek:TypeId→EK} {d:Nat} {em:Bool} (ih:∀ (t:TypeId) (a:AV) (r:Bool) (x:Value),nK (ek t) a a=some r→Rel R w a x→(aap em d t x).run E.P w=.ok () w) {xs:List AV} {vs:List Value}
  (hx:aL R w xs vs) (v7:∀ x∈vs,x.oneCell'=true) :
  ∀ (fs:List Field) (l:Sw) (r:Bool),GQ E.P ek fs=some l→vW l xs xs=some r →
   (do for f in fs do if f.name ≠ "_" then aap em d f.type (← part f.type ⟨vs⟩ f.offset) : Sem Unit).run E.P w = .ok () w
 |[],l,r,hl,hr=>by simp
 |f :: fs,l,r,hl,hr=>by
  unfold GQ at hl;split at hl
  ·cases hl
  ·rename_i hn;split at hl
   ·rename_i i u l' h1 h2 h3;cases hl;unfold vW at hr;split at hr
    ·rename_i a b ha hb;rw [ha] at hb;cases hb;split at hr
     ·rename_i p q hp hq;obtain ⟨c,k1,k2⟩:=mz h1 h2 hx v7 ha;have cq : f.name ≠ "_" := by simpa using hn
      have zt:=xx ih hx v7 fs l' q h3 hq;simp only [List.forIn_cons,aax,if_pos cq,aav,k1,ih f.type a p c hp k2,aaN];simpa only [aax,aaN] using zt
     ·cases hr
    ·cases hr
   ·cases hl
theorem uJ {ek:EK} {d:Nat} {em:Bool} {e:TypeId} {i:TypeInfo} {u:TypeDesc} (h1:E.P.info? e=some i) (h2:E.P.underlying e=some u) (ih:∀ (a:AV) (r:Bool) (x:Value),nK ek a a=some r→Rel R w a x→(aap em d e x).run E.P w=.ok () w) {xs:List AV} {vs:List Value}
  (hx:aL R w xs vs) (v7:∀ x∈vs,x.oneCell'=true) :
  ∀ (m k:Nat) (r:Bool),vW (zf i.size (lC u) ek m k) xs xs=some r →
   (do for j in List.range' k m do aap em d e (← part e ⟨vs⟩ (j * (← sizeOf e))):Sem Unit).run E.P w=.ok () w
 |0,k,r,hr=>by simp
 |m+1,k,r,hr=>by
  unfold zf vW at hr;split at hr
  ·rename_i a b ha hb;rw [ha] at hb;cases hb;split at hr
   ·rename_i p q hp hq;obtain ⟨c,k1,k2⟩:=mz h1 h2 hx v7 ha;have zt:=uJ h1 h2 ih hx v7 m (k+1) q hq;simp only [List.range'_succ,List.forIn_cons,aax,run_sizeOf w h1,aav,k1,ih a p c hp k2,aaN];simpa only [aax,aaN] using zt
   ·cases hr
  ·cases hr
theorem p9 (em:Bool):∀ (n d:Nat),n≤d→∀ (t:TypeId) (a:AV) (r:Bool) (x:Value),nK (sO E.P n t) a a=some r→Rel R w a x→(aap em d t x).run E.P w=.ok () w
 |0,_,_,t,a,r,x,h,_=>by simp [sO,nK] at h
 |n+1,0,hd,_,_,_,_,_,_=>by omega
 |n+1,d+1,hd,t,a,r,x,h,hx=>by
  unfold sO at h;split at h
  ·rename_i hu;unfold nK at h;split at h
   all_goals (try contradiction)
   cases hx;simp [aap,run_underlying hu]
  ·rename_i k hu;unfold nK at h;split at h
   all_goals (try contradiction)
   cases hx;simp [aap,run_underlying hu]
  ·rename_i hu;unfold nK at h;split at h
   all_goals (try contradiction)
   cases hx;simp [aap,run_underlying hu]
  ·rename_i fs hu;split at h
   ·simp [nK] at h
   ·split at h
    ·rename_i l hl;unfold nK at h;split at h
     all_goals (try contradiction)
     rename_i Dr xs ys hk hys;cases hk;cases hys;cases hx with
     |agg hx v7=>
     have:=xx (em:=em) (fun t a r x=>p9 em n d (by omega) t a r x) hx v7 fs.toList _ r hl h;rw [aap];simp only [aax,run_underlying hu,aav];rw [← Array.forIn_toList];simp only [aax,aaN] at this ⊢;exact this
    ·simp [nK] at h
  ·rename_i m e hu;split at h
   ·rename_i i ud g1 g2;unfold nK at h;split at h
    all_goals (try contradiction)
    rename_i Dr xs ys hk hys;cases hk;cases hys;cases hx with
    |agg hx v7=>
    have:=uJ (em:=em) g1 g2 (fun a r x=>p9 em n d (by omega) e a r x) hx v7 m 0 r h;rw [aap];simp only [aax,run_underlying hu,aav];simp only [Std.Legacy.Range.forIn_eq_forIn_range',Std.Legacy.Range.size,aa3,Nat.add_one_sub_one,Nat.div_one];simp only [aax,aaN] at this ⊢;exact this
   ·simp [nK] at h
  ·simp [nK] at h
theorem ob {e:EK} {d:TypeDesc} (hd:(e=.bool∧d=.bool)∨(e=.int∧∃ k,d=.int k)∨(e=.str∧d=.string)) {k k':AV} {r:Bool} {x y:Value} (h:nK e k k'=some r) (hx:Rel R w k x) (hy:Rel R w k' y):aa1 d x y=some r∧(r=true→x=y):=by
 rcases hd with ⟨rfl,rfl⟩|⟨rfl,n,rfl⟩|⟨rfl,rfl⟩
 ·unfold nK at h;split at h
  all_goals (try contradiction)
  cases hx; cases hy; cases h;exact ⟨rfl,fun e=>by rw [eq_of_beq e]⟩
 ·unfold nK at h;split at h
  all_goals (try contradiction)
  split at h
  ·rename_i hk;subst hk;cases hx; cases hy; cases h;exact ⟨by simp [aa1],fun e=>by rw [eq_of_beq e]⟩
  ·cases h
 ·unfold nK at h;split at h
  all_goals (try contradiction)
  cases hx; cases hy; cases h;refine ⟨?_,fun e=>by rw [eq_of_beq e]⟩;simp only [aa1];rw [beq_toListBytes,abg,abg]
theorem zN {e:EK} {d:TypeDesc} (hd:(e=.bool∧d=.bool)∨(e=.int∧∃ k,d=.int k)∨(e=.str∧d=.string)) {k:AV} {x:Value} (hx:Rel R w k x):∀ {es:List (AV × AV)} {aH:List MapEntry} {r:Option AV},eL R w es aH→kp e k es=some r →
  ∀ i,match r with
   |none=>aaK d x aH i=some none
   |some v=>∃ j c,aaK d x aH i=some (some (j,c))∧Rel R w v c
 |[],[],r,_,h,i=>by simp [kp] at h; subst h; rfl
 |[],_ :: _,_,h,_,_=>h.elim
 |_ :: _,[],_,h,_,_=>h.elim
 |(k',v) :: es,en :: aH,r,h,hf,i=>by
  unfold kp at hf;split at hf
  ·rename_i he;cases hf;have h1:=(ob hd (mi he) hx h.1).1;exact ⟨i,en.val,by simp [aaK,h1],h.2.1⟩
  ·rename_i he;have h1:=(ob hd (mi he) hx h.1).1;have:=zN hd hx h.2.2 hf (i+1);split at this
   ·simp only [aaK,h1]; exact this
   ·obtain ⟨j,c,q1,q2⟩:=this;exact ⟨j,c,by simp only [aaK,h1]; exact q1,q2⟩
  ·cases hf
theorem Jd {e:EK} {d:TypeDesc} (hd:(e=.bool∧d=.bool)∨(e=.int∧∃ k,d=.int k)∨(e=.str∧d=.string)) {k v:AV} {x c:Value} (hx:Rel R w k x) (hv:Rel R w v c):∀ {es es':List (AV × AV)} {aH:List MapEntry},eL R w es aH→vX e k v es=some es' →
  ∀ i,(aaK d x aH i=some none∧oE e k es=aH.length∧∀ b,eL R w es' (aH++[{ key:=x,val:=c,born:=b }])) ∨
   ∃ j c',aaK d x aH i=some (some (i+j,c'))∧(j=oE e k es∧∃ en,aH[j]?=some en∧en.key=x∧en.val=c')∧eL R w es' (aH.modify j fun e=>{ e with key:=x,val:=c })
 |[],es',[],_,h,i=>by simp [vX] at h; subst h; exact .inl ⟨rfl,rfl,fun b=>⟨hx,hv,trivial⟩⟩
 |[],_,_ :: _,h,_,_=>h.elim
 |_ :: _,_,[],h,_,_=>h.elim
 |(k',v') :: es,es',en :: aH,h,hf,i=>by
  unfold vX at hf;split at hf
  ·rename_i he;cases hf;obtain ⟨h1,h2⟩:=ob hd (mi he) hx h.1;have hm:BE e k k'=true:=by unfold BE; rw [he]
   exact .inr ⟨0,en.val,by simp [aaK,h1],⟨by simp [oE,hm],en,rfl,(h2 rfl).symm,rfl⟩,by simp only [aaZ]; exact ⟨hx,hv,h.2.2⟩⟩
  ·rename_i he;have h1:=(ob hd (mi he) hx h.1).1;split at hf
   ·rename_i r hr;cases hf;have hm:BE e k k'=false:=by unfold BE; rw [he]
    rcases Jd hd hx hv h.2.2 hr (i+1) with ⟨q1,q0,q2⟩|⟨j,c',q1,q2,q3⟩
    ·exact .inl ⟨by simp only [aaK,h1]; exact q1,by simp [oE,hm,q0],fun b=>⟨h.1,h.2.1,q2 b⟩⟩
    ·refine .inr ⟨j+1,c',by simp only [aaK,h1]; rw [q1,abd,abj 1 j],?_,?_⟩
     ·obtain ⟨e0,en',e1,e2⟩:=q2;exact ⟨by simp [oE,hm,e0],en',by simpa using e1,e2⟩
     ·rw [aa0];exact ⟨h.1,h.2.1,q3⟩
   ·cases hf
  ·cases hf
theorem tM {kt:TypeId} {j:TI} (hj:E.ti kt=some j) {k:AV} {x:Value} (hx:Rel R w k x):∀ {es:List (AV × AV)} {aH:List MapEntry} {r:Option AV},eL R w es aH→kp j.ek k es=some r →
  ∀ i,match r with
   |none=>(aaq kt x aH i).run E.P w=.ok none w
   |some v=>∃ n c,(aaq kt x aH i).run E.P w=.ok (some (n,c)) w∧Rel R w v c
 |[],[],r,_,h,i=>by simp [kp] at h; subst h; simp [aaq]
 |[],_ :: _,_,h,_,_=>h.elim
 |_ :: _,[],_,h,_,_=>h.elim
 |(k',v) :: es,en :: aH,r,h,hf,i=>by
  unfold kp at hf;split at hf
  ·rename_i he;cases hf;have h1:=(mA hj (mi he) hx h.1).1;exact ⟨i,en.val,by simp [aaq,aa4,aaW,h1],h.2.1⟩
  ·rename_i he;have h1:=(mA hj (mi he) hx h.1).1;have:=tM hj hx h.2.2 hf (i+1);split at this
   ·simp only [aaq,aa4,aaW,aax,h1,aav]; exact this
   ·obtain ⟨n,c,q1,q2⟩:=this;exact ⟨n,c,by simp only [aaq,aa4,aaW,aax,h1,aav]; exact q1,q2⟩
  ·cases hf
theorem sX {kt:TypeId} {j:TI} (hj:E.ti kt=some j) (hw:j.ek.wide=true) {k v:AV} {x c:Value} (hx:Rel R w k x) (hv:Rel R w v c):∀ {es es':List (AV × AV)} {aH:List MapEntry},eL R w es aH→vX j.ek k v es=some es' →
  ∀ i,((aaq kt x aH i).run E.P w=.ok none w∧oE j.ek k es=aH.length∧∀ b,eL R w es' (aH++[{ key:=x,val:=c,born:=b }])) ∨
   ∃ n c',(aaq kt x aH i).run E.P w=.ok (some (i+n,c')) w∧(n=oE j.ek k es∧∃ en,aH[n]?=some en∧en.key=x∧en.val=c')∧eL R w es' (aH.modify n fun e=>{ e with key:=x,val:=c })
 |[],es',[],_,h,i=>by simp [vX] at h; subst h; exact .inl ⟨by simp [aaq],rfl,fun b=>⟨hx,hv,trivial⟩⟩
 |[],_,_ :: _,h,_,_=>h.elim
 |_ :: _,_,[],h,_,_=>h.elim
 |(k',v') :: es,es',en :: aH,h,hf,i=>by
  unfold vX at hf;split at hf
  ·rename_i he;cases hf;have h1:=(mA hj (mi he) hx h.1).1;have h2:=E4 (MK he hw) hx h.1;have hm:BE j.ek k k'=true:=by unfold BE; rw [he]
   exact .inr ⟨0,en.val,by simp [aaq,aa4,aaW,h1],⟨by simp [oE,hm],en,rfl,h2.symm,rfl⟩,by simp only [aaZ]; exact ⟨hx,hv,h.2.2⟩⟩
  ·rename_i he;have h1:=(mA hj (mi he) hx h.1).1;split at hf
   ·rename_i r hr;cases hf;have hm:BE j.ek k k'=false:=by unfold BE; rw [he]
    rcases sX hj hw hx hv h.2.2 hr (i+1) with ⟨q1,q0,q2⟩|⟨n,c',q1,q2,q3⟩
    ·exact .inl ⟨by simp only [aaq,aa4,aaW,aax,h1,aav]; exact q1,by simp [oE,hm,q0],fun b=>⟨h.1,h.2.1,q2 b⟩⟩
    ·refine .inr ⟨n+1,c',?_,?_,?_⟩
     ·simp only [aaq,aa4,aaW,aax,h1,aav];rw [show i+(n+1)=i+1+n by omega];exact q1
     ·obtain ⟨e0,en',e1,e2⟩:=q2;exact ⟨by simp [oE,hm,e0],en',by simpa using e1,e2⟩
     ·rw [aa0];exact ⟨h.1,h.2.1,q3⟩
   ·cases hf
  ·cases hf
theorem mj {kt:TypeId} {d:TypeDesc} (hu:E.P.underlying kt=some d) (hd:(∃ fs,d=.struct fs)∨∃ n t,d=.array n t) (x:Value) (es:List MapEntry):(aao kt x es).run E.P w=(aaq kt x es).run E.P w:=by
 cases es with
 |nil=>simp [aao,run_underlying hu,aaK,aaq]
 |cons e es=>rcases hd with ⟨fs,rfl⟩ | ⟨n,t,rfl⟩ <;> simp [aao,run_underlying hu,aaK,aa1]
theorem uK {kt:TypeId} {j:TI} (hj:E.ti kt=some j) {d:TypeDesc} (hu:E.P.underlying kt=some d) (hd:E3 j.ek d) {k:AV} {x:Value} (hx:Rel R w k x) {es:List (AV × AV)} {aH:List MapEntry} (hM:eL R w es aH) (hf:kp j.ek k es=some none) :
  (aao kt x aH).run E.P w=.ok none w:=by
 have zO:((j.ek=.bool∧d=.bool)∨(j.ek=.int∧∃ k,d=.int k)∨(j.ek=.str∧d=.string))→(aao kt x aH).run E.P w=.ok none w:=fun hd=>by
  have:=zN hd hx hM hf 0;simp [aao,run_underlying hu,this]
 rcases hd with hd|hd|hd|⟨_,hd⟩
 ·exact zO (.inl hd)
 ·exact zO (.inr (.inl hd))
 ·exact zO (.inr (.inr hd))
 ·rw [mj hu hd];exact tM hj hx hM hf 0
theorem uL {kt:TypeId} {j:TI} (hj:E.ti kt=some j) {d:TypeDesc} (hu:E.P.underlying kt=some d) (hd:E3 j.ek d) {k:AV} {x:Value} (hx:Rel R w k x) {es:List (AV × AV)} {aH:List MapEntry} {v:AV} (hM:eL R w es aH) (hf:kp j.ek k es=some (some v)) :
  ∃ n c,(aao kt x aH).run E.P w=.ok (some (n,c)) w∧Rel R w v c:=by
 have zO:((j.ek=.bool∧d=.bool)∨(j.ek=.int∧∃ k,d=.int k)∨(j.ek=.str∧d=.string))→∃ n c,(aao kt x aH).run E.P w=.ok (some (n,c)) w∧Rel R w v c:=fun hd=>by
  obtain ⟨n,c,q1,q2⟩:=zN hd hx hM hf 0;exact ⟨n,c,by simp [aao,run_underlying hu,q1],q2⟩
 rcases hd with hd|hd|hd|⟨_,hd⟩
 ·exact zO (.inl hd)
 ·exact zO (.inr (.inl hd))
 ·exact zO (.inr (.inr hd))
 ·rw [mj hu hd];exact tM hj hx hM hf 0
theorem tN {kt:TypeId} {j:TI} (hj:E.ti kt=some j) {d:TypeDesc} (hu:E.P.underlying kt=some d) (hd:E3 j.ek d) {k v:AV} {x c:Value} (hx:Rel R w k x) (hv:Rel R w v c) {es es':List (AV × AV)} {aH:List MapEntry} (hM:eL R w es aH) (hf:vX j.ek k v es=some es') :
  ((aao kt x aH).run E.P w=.ok none w∧oE j.ek k es=aH.length∧∀ b,eL R w es' (aH++[{ key:=x,val:=c,born:=b }])) ∨
   ∃ n c',(aao kt x aH).run E.P w=.ok (some (n,c')) w∧(n=oE j.ek k es∧∃ en,aH[n]?=some en∧en.key=x∧en.val=c')∧eL R w es' (aH.modify n fun e=>{ e with key:=x,val:=c }):=by
 have zO:((j.ek=.bool∧d=.bool)∨(j.ek=.int∧∃ k,d=.int k)∨(j.ek=.str∧d=.string))→((aao kt x aH).run E.P w=.ok none w∧oE j.ek k es=aH.length∧∀ b,eL R w es' (aH++[{ key:=x,val:=c,born:=b }])) ∨
   ∃ n c',(aao kt x aH).run E.P w=.ok (some (n,c')) w∧(n=oE j.ek k es∧∃ en,aH[n]?=some en∧en.key=x∧en.val=c')∧eL R w es' (aH.modify n fun e=>{ e with key:=x,val:=c }):=fun hd=>by
  rcases Jd hd hx hv hM hf 0 with ⟨q1,q2⟩|⟨n,c',q1,q2,q3⟩
  ·exact .inl ⟨by simp [aao,run_underlying hu,q1],q2⟩
  ·rw [aaT] at q1;exact .inr ⟨n,c',by simp [aao,run_underlying hu,q1],q2,q3⟩
 rcases hd with hd|hd|hd|⟨hw,hd⟩
 ·exact zO (.inl hd)
 ·exact zO (.inr (.inl hd))
 ·exact zO (.inr (.inr hd))
 ·rcases sX hj hw hx hv hM hf 0 with ⟨q1,q2⟩|⟨n,c',q1,q2,q3⟩
  ·exact .inl ⟨by rw [mj hu hd]; exact q1,q2⟩
  ·rw [aaT] at q1;exact .inr ⟨n,c',by rw [mj hu hd]; exact q1,q2,q3⟩
theorem oL {kt:TypeId} {d:TypeDesc} (hu:E.P.underlying kt=some d) (hd:d=.bool∨(∃ k,d=.int k)∨d=.string) (b:Bool) (x:Value) (n:Nat):(aap b (n+1) kt x).run E.P w=.ok () w:=by
 rcases hd with rfl|⟨k,rfl⟩|rfl <;> simp [aap,run_underlying hu]
theorem run_checkKey {kt:TypeId} {j:TI} (hj:E.ti kt=some j) {d:TypeDesc} (hu:E.P.underlying kt=some d) (hd:E3 j.ek d) {k:AV} (hk:jX j.ek k=true) {x:Value} (hx:Rel R w k x) (b:Bool):(aap b 10000 kt x).run E.P w=.ok () w:=by
 rcases hd with ⟨_,rfl⟩|⟨_,n,rfl⟩|⟨_,rfl⟩|⟨hw,_⟩
 ·exact oL hu (.inl rfl) b x 9999
 ·exact oL hu (.inr (.inl ⟨n,rfl⟩)) b x 9999
 ·exact oL hu (.inr (.inr rfl)) b x 9999
 ·have Co:=MJ hj;obtain ⟨fs,SG⟩:∃ fs,j.ek=.st fs:=by
   cases he:j.ek with
   |st fs=>exact ⟨fs,rfl⟩
   |_=>rw [he] at hw; cases hw
  rw [SG] at hk;unfold jX at hk;split at hk
  all_goals (try contradiction)
  rename_i Dr cs h1;cases h1;rw [aal] at hk;obtain ⟨r,hr⟩:=aaU.1 hk.2;have he:nK (sO E.P 6 kt) (.agg cs) (.agg cs)=some r:=by
   rw [SG] at Co;have:sO E.P 6 kt=.st fs:=by
    unfold xh at Co;split at Co
    ·rename_i l hl;split at Co
     ·cases Co
     ·rw [hl,Co]
    ·rename_i k iZ;exact absurd Co.symm (iZ fs)
   rw [this];unfold nK;exact hr
  exact p9 b 6 10000 (by omega) kt (.agg cs) r x he hx
theorem KD (h:aY E R w β s a) {m:SV} {es:List (AV × AV)} {x:Value} (hm:mapOf s m=some es) (hx:qJ R w β m x) :
  ∃ aH,eL R w es aH∧((x=.map none∧aH=[])∨∃ b es' clock,x=.map (some b)∧w.heap[b]?=some (.map es' clock)∧es'.toList=aH):=by
 unfold mapOf at hm;split at hm
 ·cases hm;have yg:Rel R w .mb x:=hx;cases yg;exact ⟨[],trivial,.inl ⟨rfl,rfl⟩⟩
 ·rename_i id;have yg:Rel R w (.map id) x:=hx;cases yg with
  |map hb=>
  split at hm
  ·rename_i es' hg;cases hm;obtain ⟨aH,clock,q1,q2,_⟩:=h.g.obj id _ _ hg hb;exact ⟨aH.toList,q2,.inr ⟨_,aH,clock,rfl,q1,rfl⟩⟩
  ·cases hm
 ·cases hm
theorem E5 {t:TypeId} {z:AV} {i:TypeInfo} (h1:E.P.info? t=some i) (h2:gU i=some z):∃ c,(zeroValue t).run E.P w=.ok c w∧Rel R w z c:=by
 obtain ⟨c,hc,hr⟩:=dK h2;exact ⟨c,by simp [zeroValue,typeInfo,run_program,h1,hc],hr R w⟩
theorem qa (h:aY E R w β s a) (t:TypeId) (x y:Operand) (ok:Bool) (ho:o.op=.lookup t x y ok) {v:AV} {b:Bool} (hv:kV E s t (bG E s.ab x) (bG E s.ab y)=some (v,b)) :
  bQ E R w β s a o (s.put o.dst (.v (if ok then .bP [v,.bool b] else v))):=by
 have rx:=aV h x;have ry:=aV h y;unfold kV at hv;split at hv
 ·rename_i i es k hi hm hk;rw [hk] at ry;have qQ:Rel R w k (a.eval y):=ry;obtain ⟨aH,hM,fO⟩:=KD h hm rx;obtain ⟨hU,u,e1,e2,e3,e4,e5,e6⟩:=ck E hi;split at hv
  ·rename_i kt et z ML;split at hv
   ·rename_i j hj;split at hv
    ·rename_i hc;rw [aal] at hc;rw [ML] at e5;obtain ⟨rfl,ie,g1,g2⟩:=o0 e5;have Co:=MJ hj;have Xx:=hc.1;rw [Co] at Xx;obtain ⟨d,hu,hd⟩:∃ d,E.P.underlying kt=some d∧E3 j.ek d:=by
      rw [Co];exact xw Xx
     have O6:∀ b,(aap b 10000 kt (a.eval y)).run E.P w=.ok () w:=fun b=>run_checkKey hj hu hd hc.2 qQ b
     have fin:∀ r,kp j.ek k es=some r→r.getD z=v→r.isSome=b→bQ E R w β s a o (s.put o.dst (.v (if ok then .bP [v,.bool b] else v))):=fun r hr q1 q2=>by
      subst q1 q2;have rel:∀ c,Rel R w (r.getD z) c→Rel R w (if ok then .bP [r.getD z,.bool r.isSome] else r.getD z) (if ok then .tuple #[c,.bool r.isSome] else c):=fun c k2=>by
       cases ok
       ·exact k2
       ·exact Rel.bP (vs:=[c,.bool r.isSome]) (.cons k2 (.cons (.bool _) .nil))
      cases r with
      |none=>
       obtain ⟨c,k1,k2⟩:=E5 (R:=R) (w:=w) g1 g2;have GG:(aao kt (a.eval y) aH).run E.P w=.ok none w:=uK hj hu hd qQ hM hr;refine au h (c:=if ok then .tuple #[c,.bool false] else c) ?_ (rel c k2);rcases fO with ⟨hx,rfl⟩|⟨b,es',clock,hx,hb,rfl⟩
       ·simp [execOp,ho,aa5,hx,run_underlying e2,O6,GG,k1]
       ·simp [execOp,ho,aa5,hx,run_underlying e2,getObj,aaQ,hb,O6,GG,k1]
      |some v=>
       obtain ⟨j',c,q1,q2⟩:=uL hj hu hd qQ hM hr;have GG:(aao kt (a.eval y) aH).run E.P w=.ok (some (j',c)) w:=q1;refine au h (c:=if ok then .tuple #[c,.bool true] else c) ?_ (rel c q2);rcases fO with ⟨hx,rfl⟩|⟨b,es',clock,hx,hb,rfl⟩
       ·simp [execOp,ho,aa5,hx,run_underlying e2,O6,GG]
       ·simp [execOp,ho,aa5,hx,run_underlying e2,getObj,aaQ,hb,O6,GG]
     split at hv
     ·rename_i v' hr; cases hv; exact fin _ hr rfl rfl
     ·rename_i hr; cases hv; exact fin _ hr rfl rfl
     ·cases hv
    ·cases hv
   ·cases hv
  ·cases hv
 ·cases hv
theorem Cx {R':ai} {w':World} (h:aY E R w β s a) (t:TypeId) (z:AV) (e:Ext R w R' w') {c:Value} (hc:Rel R' w' z c):Rel R' w' (EO E s.G t z) c:=by
 unfold EO;split
 ·rename_i e1 sz p bh jS;split
  ·rename_i kq Ho;obtain ⟨fs,yk,_⟩:=mP Ho;rw [aa3] at yk;have bW:=aU yk;rw [← h.g.len] at bW;obtain ⟨ro,ba⟩:∃ ro,nth R.obj kq=some ro:=⟨R.obj[kq],by rw [aN]; exact aas bW⟩;have bl:=h.g.obj kq _ _ yk ba;have hn:tE ro:=by
    cases ro with
    |none=>exact bl.elim
    |a8=>exact bl.elim
    |bE _=>exact bl.elim
    |tok _ _ _=>exact bl.elim
    |aX ts=>trivial
   obtain ⟨jR,q1,q2⟩:=e.obj kq _ ba;cases hc with
   |jZ=>exact .mJ q1 (hn.mono q2)
   |list _ _ _ hk=>exact hk.elim
  ·exact hc
 ·exact hc
theorem E6 (h:aY E R w β s a) (t:TypeId) (x y:Operand) (ok:Bool) (ho:o.op=.lookup t x y ok) {v:AV} {b:Bool} (hv:nX E s t (bG E s.ab x) (bG E s.ab y)=some (v,b)) :
  bQ E R w β s a o (s.put o.dst (.v (if ok then .bP [v,.bool b] else v))):=by
 unfold nX at hv;split at hv
 ·rename_i v0 h0;cases hv;refine bQ.Ja (qa h t x y ok ho h0) (fun R' w' ex c hc=>?_);cases ok with
  |false=>exact Cx h t _ ex hc
  |true=>
   have hc:Rel R' w' (.bP [v0,.bool false]) c:=hc;cases hc with
   |bP h1=>
   cases h1 with
   |cons h1 h2=>exact Rel.bP (.cons (Cx h t _ ex h1) h2)
 ·exact qa h t x y ok ho hv
theorem Je {kt:TypeId} {j:TI} (hj:E.ti kt=some j) (hp:j.ek.plain=true):∃ d,E.P.underlying kt=some d∧E3 j.ek d:=by
 have Co:=MJ hj;rw [Co] at hp ⊢;exact xw hp
theorem KF (x:ByteArray):(x == x)=true:=by rw [beq_toListBytes]; simp
theorem ji {k:AV} {x:Value} (hp:yK k=true) (hx:Rel R w k x) (n:Nat):aaM n x x=true:=by
 unfold yK at hp;split at hp
 ·cases hx; cases n <;> simp [aaM]
 ·cases hx; cases n <;> simp [aaM]
 ·cases hx; cases n <;> (simp only [aaM]; exact KF _)
 ·cases hp
theorem uM (n:Nat):∀ {cs:List AV} {vs:List Value},cs.all yK=true→aL R w cs vs→((vs.zip vs).all fun (x,y)=>aaM n x y)=true
 |[],_,_,.nil=>rfl
 |a :: cs,_,h,.cons h1 h2=>by
  rw [List.all_cons,aal] at h;simp only [List.zip_cons_cons,List.all_cons,ji h.1 h1 n,uM n h.2 h2,Bool.and_self]
theorem DJ (n:Nat) {vs:Array Value} (h:((vs.toList.zip vs.toList).all fun (x,y)=>aaM n x y)=true):aaM (n+1) (.agg vs) (.agg vs)=true:=by
 simp only [aaM,beq_self_eq_true,Bool.true_and];exact h
theorem rr {e:EK} {k:AV} {x:Value} (hp:jX e k=true) (hx:Rel R w k x):aaM 10000 x x=true:=by
 unfold jX at hp;split at hp
 ·exact ji rfl hx _
 ·exact ji rfl hx _
 ·exact ji rfl hx _
 ·rw [aal] at hp;cases hx with
  |agg hx _=>
  exact DJ 9999 (uM 9999 hp.1 hx)
 ·cases hp
theorem lE.push {aH:Array MapEntry} {clock:Nat} (h:lE aH clock) (x c:Value):lE (aH.push { key:=x,val:=c,born:=clock }) (clock+1):=by
 obtain ⟨rfl,h2⟩:=h;refine ⟨by simp,fun i e he=>?_⟩;rw [aa2] at he;rcases Nat.lt_or_ge i aH.toList.length with bW|BM
 ·rw [List.getElem?_append_left bW] at he;exact h2 i e he
 ·rw [List.getElem?_append_right BM] at he;have hl:=(List.getElem?_eq_some_iff.1 he).1;have hl:i - aH.toList.length < 1:=hl;have h0:i - aH.toList.length=0:=by omega
  rw [h0] at he;simp only [aa6,abr] at he;subst he;have hs:aH.toList.length=aH.size:=aaL;show aH.size=i;omega
theorem lE.modify {aH:Array MapEntry} {clock:Nat} (h:lE aH clock) (n:Nat) (x c:Value):lE (aH.modify n fun e=>{ e with key:=x,val:=c }) clock:=by
 obtain ⟨rfl,h2⟩:=h;refine ⟨by simp,fun i e he=>?_⟩;rw [aaO,aaS] at he;cases hi:aH.toList[i]? with
 |none=>rw [hi] at he; cases he
 |some e'=>
  rw [hi] at he;have h3:=h2 i e' hi;have he:(if n=i then { key:=x,val:=c,born:=e'.born } else e':MapEntry)=e:=aa8 he;by_cases hn:n=i
  ·rw [if_pos hn] at he;subst he; exact h3
  ·rw [if_neg hn] at he;subst he; exact h3
theorem ru (h:aY E R w β s a) (t:TypeId) (x y z:Operand) (ho:o.op=.mapUpdate t x y z∨o.op=.insert t x y z) (hd:o.dst=none) {s':St} (hv:gw E s t (bG E s.ab x) (bG E s.ab y) (bG E s.ab z)=some s') :
  bQ E R w β s a o s':=by
 have rx:=aV h x;have ry:=aV h y;have rz:=aV h z;unfold gw at hv;split at hv
 ·rename_i i id k v hi hm hk hz;rw [hm] at rx;rw [hk] at ry;rw [hz] at rz;have dW:Rel R w (.map id) (a.eval x):=rx;have qQ:Rel R w k (a.eval y):=ry;have rz':Rel R w v (a.eval z):=rz;split at hv
  ·rename_i kt et ez es ML hg;split at hv
   ·rename_i j hj;split at hv
    ·rename_i hc;rw [aal] at hc;split at hv
     ·rename_i es' G7;cases hv;obtain ⟨hU,u,e1,e2,e3,e4,e5,e6⟩:=ck E hi;rw [ML] at e5;obtain ⟨rfl,ie,g1,g2⟩:=o0 e5;obtain ⟨d,hu,hD⟩:=Je hj hc.1;generalize fO:a.eval x=xv at dW;cases dW with
      | @map _ b hb=>
      obtain ⟨aH,clock,q1,q2,q3⟩:=h.g.obj id _ _ hg hb;have bW:=bz q1;have O6:(aap false 10000 kt (a.eval y)).run E.P w=.ok () w:=run_checkKey hj hu hD hc.2 qQ _;have mf:(getObj b).run E.P w=.ok (.map aH clock) w:=by simp [getObj,aaQ,q1]
      have zH:∀ o',(setObj b o').run E.P w=.ok () (World.put w b o'):=fun o'=>by
       simp [setObj,aaQ,World.put,q1]
      have fin:∀ mQ kC,eL R w es' mQ.toList→lE mQ kC→(execOp a.eval o).run E.P w=.ok .skip (World.put w b (.map mQ kC)) →
        bQ E R w β s a o (s.bq (ak s.G id (.map es'))):=fun mQ kC k1 k2 k3=>by
       have hex:=pZ (R:=R) (x':=.map mQ kC) q1 trivial trivial (fun _ e=>by cases e);obtain ⟨p1,p2⟩:=h.setObj (x':=.map mQ kC) (go':=.map es') hb q1 trivial trivial (fun _ e=>by cases e) ⟨mQ,kC,ja w b _ bW,k1.mono hex,k2⟩;refine ⟨.skip,undef,_,R,β,k3,.inr ⟨rfl,rfl⟩,?_,p2⟩;rw [hd];exact p1
      rcases tN hj hu hD qQ rz' q2 G7 with ⟨k1,_,k2⟩|⟨n,c',k1,⟨_,en,k2,k3,_⟩,k4⟩
      ·have GG:(aao kt (a.eval y) aH.toList).run E.P w=.ok none w:=k1;refine fin (aH.push { key:=a.eval y,val:=a.eval z,born:=clock }) (clock+1) (by rw [aa2]; exact k2 clock) (q3.push _ _) ?_
       ·rcases ho with ho|ho <;> simp [execOp,ho,Instr.mapUpdate,fO,run_underlying e2,mf,O6,GG,zH]
      ·have GG:(aao kt (a.eval y) aH.toList).run E.P w=.ok (some (n,c')) w:=k1;have hen:aH[n]?=some en:=by rw [← aa9]; exact k2
       have zA:(aaV (a.eval y) (a.eval y)).run E.P w=.ok (a.eval y) w:=by simp [aaV,rr hc.2 qQ]
       refine fin (aH.modify n fun e=>{ e with key:=a.eval y,val:=a.eval z }) clock (by rw [aaO]; exact k4) (q3.modify n _ _) ?_
       ·rcases ho with ho|ho <;> simp [execOp,ho,Instr.mapUpdate,fO,run_underlying e2,mf,O6,GG,hen,k3,zA,zH]
     ·cases hv
    ·cases hv
   ·cases hv
  ·cases hv
 ·cases hv
theorem Hp (h:aY E R w β s a) (t:TypeId) (x:Operand) (ho:o.op=.range t x) {i:TI} {l:List UInt8} (hi:E.ti t=some i) (hk:i.k=.str) (hx:bG E s.ab x=.v (.str l)) :
  bQ E R w β s a o ((s.eF (.iO l 0)).put o.dst (.v (.ptr s.G.length 0))):=by
 have rx:=aV h x;rw [hx] at rx;have dW:Rel R w (.str l) (a.eval x):=rx;obtain ⟨hU,u,e1,e2,e3,e4,e5,e6⟩:=ck E hi;rw [hk] at e5;have hu:=mL e5;subst hu;have ia:iE (R.add (.bE w.heap.size)) (w.alloc (.stringIter ⟨⟨l⟩⟩ 0)) (.iO l 0) (.bE w.heap.size):=heap_alloc_new w _;refine ⟨_,.pointer (some ⟨w.heap.size,0,none⟩),w.alloc (.stringIter ⟨⟨l⟩⟩ 0),R.add (.bE w.heap.size),β,?_,.inl rfl,(h.mK (.stringIter ⟨⟨l⟩⟩ 0) (.iO l 0) (.bE w.heap.size) (by exact fun _ h=>h) ia).put o.dst (x:=.v (.ptr s.G.length 0)) (Rel.ptr (gV h _)),by rw [bf]; exact dy h _ _ (by exact fun _ h=>h)⟩;generalize fO:a.eval x=xv at dW;cases dW;simp only [execOp,ho,fO,Instr.range,aax,run_underlying e2,run_newObj,aav,aaN];rfl
theorem Hq (l:List UInt8) (pos:Nat) (h:pos < l.length):cQ l pos=Utf8.decode ⟨⟨l⟩⟩ pos:=by
 unfold cQ;cases hb:Nat.blt (l.getD pos 0).toNat 128 with
 |false=>rfl
 |true=>
  have bW:(l.getD pos 0).toNat < 128:=aaR hb;have e:(abG ⟨⟨l⟩⟩ (pos+0))=l.getD pos 0:=by
   simp [abG,h,List.getD_eq_getElem?_getD]
  simp only [cond_true,Utf8.decode,e];rw [if_pos (show (l.getD pos 0).toNat < 0x80 from bW)]
theorem KG (h:aY E R w β s a) (x:Operand) (ho:o.op=.next x true) {s':St} (hv:nY s o.dst (bG E s.ab x)=some s'):bQ E R w β s a o s':=by
 have rx:=aV h x;unfold nY at hv;split at hv
 ·rename_i id hx;rw [hx] at rx;have dW:Rel R w (.ptr id 0) (a.eval x):=rx;generalize fO:a.eval x=xv at dW;cases dW with
  | @ptr _ _ b hb=>
  split at hv
  ·rename_i l pos hg;have q1:w.heap[b]?=some (.stringIter ⟨⟨l⟩⟩ pos):=h.g.obj id _ _ hg hb;have bW:=bz q1;have mf:(getObj b).run E.P w=.ok (.stringIter ⟨⟨l⟩⟩ pos) w:=by simp [getObj,aaQ,q1]
   have zH:∀ o',(setObj b o').run E.P w=.ok () (World.put w b o'):=fun o'=>by
    simp [setObj,aaQ,World.put,q1]
   cases kX:Nat.blt pos l.length with
   |true=>
    rw [kX] at hv;have hp:pos < l.length:=aaR kX;simp only [cond_true] at hv;generalize BQ:cQ l pos=p at hv;obtain ⟨c,n⟩:=p;cases hv;rw [Hq l pos hp] at BQ;obtain ⟨p1,p2⟩:=h.setObj (x':=.stringIter ⟨⟨l⟩⟩ (pos+n)) (go':=.iO l (pos+n)) hb q1 trivial trivial (fun _ e=>by cases e) (ja w b _ bW);have eR:pos < (⟨⟨l⟩⟩:ByteArray).size:=hp;refine ⟨.value (.tuple #[.bool true,.int .i64 pos,.int .i32 c]),_,_,R,β,?_,.inl rfl,p1.put o.dst (x:=.v (.bP [.bool true,.int .i64 pos,.int .i32 c])) (Rel.bP (vs:=[.bool true,.int .i64 pos,.int .i32 c]) (.cons (.bool _) (.cons (.int _ _) (.cons (.int _ _) .nil)))),by rw [bf]; exact p2⟩;simp [execOp,ho,fO,Instr.next,mf,eR,BQ,zH,goInt]
   |false=>
    rw [kX] at hv;simp only [cond_false] at hv;cases hv;have hp:¬ pos < l.length:=fun hh=>by
     have:Nat.blt pos l.length=true:=Nat.ble_eq_true_of_le hh;rw [kX] at this; cases this
    have eR:¬ pos < (⟨⟨l⟩⟩:ByteArray).size:=hp;refine au h (c:=.tuple #[.bool false]) ?_ (Rel.bP (vs:=[.bool false]) (.cons (.bool _) .nil));simp [execOp,ho,fO,Instr.next,mf,eR]
  ·cases hv
 ·cases hv
theorem eL.get:∀ {es:List (AV × AV)} {aH:List MapEntry} {i:Nat} {e:MapEntry},eL R w es aH→aH[i]?=some e→Rel R w (cE es i).1 e.key∧Rel R w (cE es i).2 e.val
 |[],[],i,e,_,he=>by simp at he
 |(k,v) :: _,en :: _,0,e,h,he=>by
  simp only [aa6,abr] at he;subst he;exact ⟨h.1,h.2.1⟩
 |(_,_) :: es,_ :: aH,i+1,e,h,he=>by
  simp only [aa7] at he;exact eL.get (es:=es) h.2.2 he
 |[],_ :: _,_,_,h,_=>h.elim
 |_ :: _,[],_,_,h,_=>h.elim
theorem Hr (E:Env) (t:TypeId) (e:AV × AV):ur E t e=(true,e.1,e.2)∨∃ pv pk:aP,ur E t e=(pk.fits e.1&&pv.fits e.2,pk.enc (pk.bw e.1),pv.enc (pv.bw e.2)):=by
 unfold ur;split
 ·split
  ·split
   ·rename_i pv pk _ _;exact .inr ⟨pv,pk,rfl⟩
   ·exact .inl rfl
  ·exact .inl rfl
 ·exact .inl rfl
theorem E7 {t:TypeId} {e:AV × AV} {x y:Value} (hf:(ur E t e).1=true) (h:Rel R w e.1 x∧Rel R w e.2 y):Rel R w (ur E t e).2.1 x∧Rel R w (ur E t e).2.2 y:=by
 rcases Hr E t e with he|⟨pv,pk,he⟩
 ·rw [he]; exact h
 ·rw [he] at hf ⊢;simp only [aal] at hf;exact ⟨(pk.dE hf.1).hJ _ _ _ h.1,(pv.dE hf.2).hJ _ _ _ h.2⟩
theorem E8 (h:aY E R w β s a) (t:TypeId) (x:Operand) (ho:o.op=.range t x) {i:TI} {kt et:TypeId} {ez:Option AV} {id:Nat} {es:List (AV × AV)} (hi:E.ti t=some i) (hk:i.k=.map kt et ez) (hx:bG E s.ab x=.v (.map id)) (hg:nth s.G id=some (.map es)) :
  bQ E R w β s a o ((s.eF (.jQ id es.length (List.range es.length) none t)).put o.dst (.v (.ptr s.G.length 0))):=by
 have rx:=aV h x;rw [hx] at rx;have dW:Rel R w (.map id) (a.eval x):=rx;obtain ⟨hU,u,e1,e2,e3,e4,e5,e6⟩:=ck E hi;rw [hk] at e5;obtain ⟨rfl,ie,g1,g2⟩:=o0 e5;generalize fO:a.eval x=xv at dW;cases dW with
 | @map _ b hb=>
 obtain ⟨aH,clock,q1,q2,q3,q4⟩:=h.g.obj id _ _ hg hb;have hlen:=q2.length;have bW:=bz q1;subst q3;have ia:iE (R.add (.bE w.heap.size)) (w.alloc (.mapIter (some b) aH.size #[] aH.size)) (.jQ id es.length (List.range es.length) none t) (.bE w.heap.size):=by
  refine ⟨b,#[],aH.size,bn hb,?_,fun j hj=>?_,fun j hj=>List.mem_range.1 hj,List.nodup_range,?_,fun i hi=>by cases hi⟩
  ·rw [hlen,aaL]; exact heap_alloc_new w _
  ·simp [List.mem_range,hj]
  ·rw [hlen,aaL]; exact Nat.le_refl _
 refine ⟨_,.pointer (some ⟨w.heap.size,0,none⟩),w.alloc (.mapIter (some b) aH.size #[] aH.size),R.add (.bE w.heap.size),β,?_,.inl rfl,(h.mK _ _ (.bE w.heap.size) (by exact fun _ h=>h) ia).put o.dst (x:=.v (.ptr s.G.length 0)) (Rel.ptr (gV h _)),by rw [bf]; exact dy h _ _ (by exact fun _ h=>h)⟩;have mf:(getObj b).run E.P w=.ok (.map aH aH.size) w:=by simp [getObj,aaQ,q1]
 simp only [execOp,ho,fO,Instr.range,aax,run_underlying e2,mf,run_newObj,aav,aaN];rfl
theorem mem_erase_iff {l:List Nat} (hn:l.Nodup) (i j:Nat):j∈l.erase i↔j≠i∧j∈l:=hn.mem_erase_iff
theorem aY.drew (h:aY E R w β s a):aY E R w.drew β s a∧Step R w β s.boxes R w.drew β s.boxes:=by
 have e:Ext R w R w.drew:=⟨fun _ _ h=>h,fun _ _ _=>rfl,fun _ ro h=>⟨ro,h,cj.refl ro⟩,fb.refl w⟩;exact ⟨h.keep e rfl (fun _ _=>rfl) (fun _ _ _ hi=>hi) h.g.wf (fun hd=>Nat.le_succ_of_le hd),⟨e,rfl,rfl,rfl,Nat.le_refl _,fun _ _ _=>rfl,fun _ _ ho=>ho,fun _ _ hi _ _=>hi⟩⟩
theorem Hs (h:aY E R w β s a) (x:Operand) (ho:o.op=.next x false) {s0:St} {left:List Nat} {g:Nat→Bool × St} (hv:Cf E s o.dst (bG E s.ab x)=some (true,s0,left,g)) :
  (left=[]∧bQ E R w β s a o s0)∨∃ i∈left,(g i).1=true→bQ E R w β s a o (g i).2:=by
 have rx:=aV h x;unfold Cf at hv;split at hv
 ·rename_i id hx;rw [hx] at rx;have dW:Rel R w (.ptr id 0) (a.eval x):=rx;generalize fO:a.eval x=xv at dW;cases dW with
  | @ptr _ _ r hr=>
  split at hv
  ·rename_i mid n Cy Uf tt hg;split at hv
   ·rename_i es hm;injection hv with hv; injection hv with h1 hv; injection hv with h2 hv; injection hv with h3 h4;subst h2; subst h3; subst h4;have hn:=of_decide_eq_true h1;obtain ⟨b,seen,c0,m1,m2,m3,m4,m5,m6,_⟩:=h.g.obj id _ _ hg hr;obtain ⟨aH,clock,q1,q2,q3,q4⟩:=h.g.obj mid _ _ hm m1;subst q3;have hlen:=q2.length;have DK:aH.toList.length=aH.size:=aaL;have eR:aH.size=n:=by omega
    have hold:∀ y∈aH.toList,y.born < n:=fun y hy=>by
     obtain ⟨i,hi,hiy⟩:=abh hy;have:=q4 i y (by rw [aas hi,hiy]);omega
    rcases run_next_at (P:=E.P) w o.type r b n c0 seen aH aH.size m2 q1 hold m6 with ⟨k1,k2⟩|⟨en,k1,w1,k2,k3⟩
    ·refine .inl ⟨?_,?_⟩
     ·apply List.eq_nil_iff_forall_not_mem.2;intro i hi;have Ct:=m4 i hi;have hs:=(m3 i Ct).1 hi;have MM:i < aH.toList.length:=by omega
      have mf:aH.toList[i]?=some aH.toList[i]:=aas MM;have hb:=q4 i _ mf;have gk:aH.toList[i]∈(leftOf aH seen).toList:=by
       unfold leftOf;rw [abi,List.mem_filter];exact ⟨List.getElem_mem _,by rw [hb,hs]; rfl⟩
      have h0:(leftOf aH seen).toList=[]:=List.eq_nil_of_length_eq_zero (by rw [aaL]; exact k1);rw [h0] at gk;simp at gk
     ·refine au h (c:=.tuple #[.bool false]) ?_ (Rel.bP (vs:=[.bool false]) (.cons (.bool _) .nil));simp [execOp,ho,fO,k2]
    ·have gk:en∈aH.toList∧seen.contains en.born=false:=by
      unfold leftOf at k1;rw [abi,List.mem_filter] at k1;exact ⟨k1.1,by simpa using k1.2⟩
     obtain ⟨i,hi,hie⟩:=abh gk.1;have mf:aH.toList[i]?=some en:=by rw [aas hi,hie]
     have hb:=q4 i en mf;have Ct:i < n:=by omega
     have MM:i∈Cy:=(m3 i Ct).2 (by rw [← hb]; exact gk.2);refine .inr ⟨i,MM,fun nO=>?_⟩
     -- the world, perhaps one draw on
     have hw1:aY E R w1 β s a∧Step R w β s.boxes R w1 β s.boxes:=by
      rcases k2 with rfl|rfl
      ·exact ⟨h,Step.refl _ _ _ _⟩
      ·exact h.drew
     obtain ⟨bl,iP⟩:=hw1;have GH:w1.heap[r]?=some (.mapIter (some b) n seen c0):=by rcases k2 with rfl | rfl <;> exact m2
     have bW:=bz GH;have Yv:(setBlock w1 r (.mapIter (some b) n (seen.push en.born) aH.size))=World.put w1 r (.mapIter (some b) n (seen.push en.born) aH.size):=rfl;have hex:=pZ (R:=R) (x':=.mapIter (some b) n (seen.push en.born) aH.size) GH trivial trivial (fun _ e=>by cases e);obtain ⟨p1,p2⟩:=bl.setObj (x':=.mapIter (some b) n (seen.push en.born) aH.size) (go':=.jQ mid n (Cy.erase i) (some i) tt) hr GH trivial trivial (fun _ e=>by cases e)
      ⟨b,seen.push en.born,aH.size,m1,ja w1 r _ bW,fun j hj=>by
       rw [mem_erase_iff m5,Array.contains_push,m3 j hj,hb];by_cases e:j=i
       ·subst e; simp
       ·have e':¬ i=j:=fun h=>e h.symm
        simp [e,e'],fun j hj=>m4 j (List.mem_of_mem_erase hj),m5.erase i,by omega,fun j hj=>by
       cases hj;exact ⟨by rw [hb]; simp,eR⟩⟩
     obtain ⟨z1,z2⟩:=E7 nO (q2.get mf);have Yw:=iP.ext.trans p2.ext;refine ⟨.value (.tuple #[.bool true,en.key,en.val]),_,_,R,β,?_,.inl rfl,p1.put o.dst (x:=.v (.bP [.bool true,(ur E tt (cE es i)).2.1,(ur E tt (cE es i)).2.2])) (Rel.bP (vs:=[.bool true,en.key,en.val]) (.cons (.bool _) (.cons (z1.mono Yw) (.cons (z2.mono Yw) .nil)))),by rw [bf]; exact iP.trans p2⟩;simp [execOp,ho,fO,k3,Yv]
   ·cases hv
  ·cases hv
 ·cases hv
theorem zP:∀ (l:List MapEntry) (off i:Nat),(∀ (k:Nat) (e:MapEntry),l[k]?=some e→e.born=off+k)→i < l.length→l.find? (fun e=>e.born == off+i)=l[i]?
 |[],_,_,_,h=>by simp at h
 |e :: l,off,0,hs,_=>by
  have:=hs 0 e rfl;simp [this]
 |e :: l,off,i+1,hs,h=>by
  have h0:=hs 0 e rfl;have cq:(e.born == off+(i+1))=false:=by simp; omega
  rw [List.find?_cons_of_neg (by simp [cq]),aa7];have:=zP l (off+1) i (fun k e' hk=>by have:=hs (k+1) e' (by simpa using hk); omega) (by simpa using h);rw [show off+(i+1)=off+1+i by omega];exact this
theorem sY:∀ (l:List MapEntry) (off i:Nat),(∀ (k:Nat) (e:MapEntry),l[k]?=some e→e.born=off+k)→i < l.length→l.findIdx? (fun e=>(e.born:Int) == ((off+i:Nat):Int))=some i
 |[],_,_,_,h=>by simp at h
 |e :: l,off,0,hs,_=>by
  have:=hs 0 e rfl;simp [List.findIdx?_cons,this]
 |e :: l,off,i+1,hs,h=>by
  have h0:=hs 0 e rfl;have cq:((e.born:Int) == ((off+(i+1):Nat):Int))=false:=by simp; omega
  have:=sY l (off+1) i (fun k e' hk=>by have:=hs (k+1) e' (by simpa using hk); omega) (by simpa using h);rw [show off+1+i=off+(i+1) by omega] at this;rw [List.findIdx?_cons,cq,this];rfl
theorem lE.keep {aH:Array MapEntry} {clock:Nat} (h:lE aH clock) (n:Nat) {f:MapEntry→MapEntry} (hf:∀ e,(f e).born=e.born):lE (aH.modify n f) clock:=by
 obtain ⟨rfl,h2⟩:=h;refine ⟨by simp,fun i e he=>?_⟩;rw [aaO,aaS] at he;cases hi:aH.toList[i]? with
 |none=>rw [hi] at he; cases he
 |some e'=>
  rw [hi] at he;have h3:=h2 i e' hi;have he:(if n=i then f e' else e')=e:=aa8 he;by_cases hn:n=i
  ·rw [if_pos hn] at he;subst he; rw [hf]; exact h3
  ·rw [if_neg hn] at he;subst he; exact h3
theorem eL.qT {v:AV} {c:Value} (hv:Rel R w v c):∀ {es:List (AV × AV)} {aH:List MapEntry} (n:Nat),eL R w es aH→eL R w (qT es n v) (aH.modify n fun e=>{ e with val:=c })
 |[],[],n,_=>by cases n <;> trivial
 |[],_ :: _,_,h=>h.elim
 |_ :: _,[],_,h=>h.elim
 |(_,_) :: _,_ :: _,0,h=>by
  rw [aaZ];exact ⟨h.1,hv,h.2.2⟩
 |(_,_) :: _,_ :: _,n+1,h=>by
  rw [aa0];exact ⟨h.1,h.2.1,eL.qT hv n h.2.2⟩
theorem SH {e:EK} {k k':AV} (h:(GC e k k').isSome=true):GC e k k'=some (BE e k k'):=by
 obtain ⟨b,hb⟩:=aaU.1 h;simp only [BE,hb]
theorem E9 {e:EK} {k:AV}:∀ {es:List (AV × AV)},du e k es=true→kp e k es=some (fL e k es)
 |[],_=>rfl
 |(k',v) :: es,h=>by
  simp only [du,aal] at h;simp only [kp,fL,SH h.1];cases hb:BE e k k' with
  |true=>rfl
  |false=>simp only [cond_false]; exact E9 h.2
theorem Jf {e:EK} {k v:AV}:∀ {es:List (AV × AV)},du e k es=true→vX e k v es=some (dS e k v es)
 |[],_=>rfl
 |(k',v') :: es,h=>by
  simp only [du,aal] at h;simp only [vX,dS,SH h.1];cases hb:BE e k k' with
  |true=>rfl
  |false=>simp only [cond_false,Jf h.2]
theorem Ht (h:aY E R w β s a) (x:Operand) (ho:o.op=.entry x) {v:AV} (hv:vZ E s (bG E s.ab x)=some (true,v)):bQ E R w β s a o (s.put o.dst (.v v)):=by
 have rx:=aV h x;unfold vZ at hv;split at hv
 ·rename_i id hx;rw [hx] at rx;have dW:Rel R w (.ptr id 0) (a.eval x):=rx;generalize fO:a.eval x=xv at dW;cases dW with
  | @ptr _ _ r hr=>
  split at hv
  ·rename_i mid n Cy i tt hg;split at hv
   ·rename_i es hm;injection hv with hv; injection hv with h1 h2;subst h2;rw [aal,aal,decide_eq_true_eq,decide_eq_true_eq] at h1;obtain ⟨⟨hn,hi⟩,nO⟩:=h1;obtain ⟨b,seen,c0,m1,m2,m3,m4,m5,m6,m7⟩:=h.g.obj id _ _ hg hr;obtain ⟨z1,z2⟩:=m7 i rfl;obtain ⟨aH,clock,q1,q2,q3,q4⟩:=h.g.obj mid _ _ hm m1;subst q3;have hlen:=q2.length;have DK:aH.toList.length=aH.size:=aaL;have MM:i < aH.toList.length:=by omega
    have hfd:aH.find? (fun e=>e.born == i)=some aH.toList[i]:=by
     have:=zP aH.toList 0 i (fun k e hk=>by rw [aaT]; exact q4 k e hk) MM;rw [aaT,aas MM] at this;rw [← this]; simp
    have mf:aH.toList[i]?=some aH.toList[i]:=aas MM;obtain ⟨y1,y2⟩:=E7 nO (q2.get mf);have hc:aH.size=c0:=by omega
    refine au h (c:=.tuple #[(aH.toList[i]).key,(aH.toList[i]).val]) ?_ (Rel.bP (vs:=[(aH.toList[i]).key,(aH.toList[i]).val]) (.cons y1 (.cons y2 .nil)));simp [execOp,ho,fO,Instr.entry,getObj,aaQ,m2,z1,q1,hc,hfd]
   ·cases hv
  ·cases hv
 ·cases hv
theorem BS (h:aY E R w β s a) (t:TypeId) (x y:Operand) (ho:o.op=.mapEntry t x y) {v:AV} {s':St} (hv:iC E s t (bG E s.ab x) (bG E s.ab y)=some (true,v,s')) :
  bQ E R w β s a o (s'.put o.dst (.v v)):=by
 have rx:=aV h x;have ry:=aV h y;unfold iC at hv;split at hv
 ·rename_i i id k hi hm hk;rw [hm] at rx;rw [hk] at ry;have dW:Rel R w (.map id) (a.eval x):=rx;have qQ:Rel R w k (a.eval y):=ry;split at hv
  ·rename_i kt et z es ML hg;split at hv
   ·rename_i j hj;split at hv
    ·rename_i hc;rw [aal] at hc;injection hv with hv; injection hv with Yx hv; injection hv with h2 h3;subst h2; subst h3;obtain ⟨hU,u,e1,e2,e3,e4,e5,e6⟩:=ck E hi;rw [ML] at e5;obtain ⟨rfl,ie,g1,g2⟩:=o0 e5;obtain ⟨d,hu,hD⟩:=Je hj hc.1;generalize fO:a.eval x=xv at dW;cases dW with
     | @map _ b hb=>
     obtain ⟨aH,clock,q1,q2,q3⟩:=h.g.obj id _ _ hg hb;have bW:=bz q1;have O6:(aap false 10000 kt (a.eval y)).run E.P w=.ok () w:=run_checkKey hj hu hD hc.2 qQ _;have mf:(getObj b).run E.P w=.ok (.map aH clock) w:=by simp [getObj,aaQ,q1]
     have zH:∀ o',(setObj b o').run E.P w=.ok () (World.put w b o'):=fun o'=>by
      simp [setObj,aaQ,World.put,q1]
     have fin:∀ es' mQ kC c (n:Nat),eL R w es' mQ.toList→lE mQ kC→(execOp a.eval o).run E.P w=.ok (.value (.tuple #[c,.int .i64 n])) (World.put w b (.map mQ kC))→Rel R w (cF j.ek k z es) c→n=oE j.ek k es→es'=dS j.ek k (cF j.ek k z es) es →
       bQ E R w β s a o ((s.bq (ak s.G id (.map (dS j.ek k (cF j.ek k z es) es)))).put o.dst (.v (.bP [cF j.ek k z es,.int .i64 (oE j.ek k es:Nat)]))):=fun es' mQ kC c n k1 k2 k3 k4 k5 k6=>by
      subst k5; subst k6;have hex:=pZ (R:=R) (x':=.map mQ kC) q1 trivial trivial (fun _ e=>by cases e);obtain ⟨p1,p2⟩:=h.setObj (x':=.map mQ kC) (go':=.map (dS j.ek k (cF j.ek k z es) es)) hb q1 trivial trivial (fun _ e=>by cases e) ⟨mQ,kC,ja w b _ bW,k1.mono hex,k2⟩;exact ⟨.value (.tuple #[c,.int .i64 (oE j.ek k es:Nat)]),_,_,R,β,k3,.inl rfl,p1.put o.dst (x:=.v (.bP [cF j.ek k z es,.int .i64 (oE j.ek k es:Nat)])) (Rel.bP (vs:=[c,.int .i64 (oE j.ek k es:Nat)]) (.cons (k4.mono p2.ext) (.cons (.int _ _) .nil))),by rw [bf]; exact p2⟩
     have hmf:=E9 Yx;have G7:=Jf (v:=cF j.ek k z es) Yx;cases O3:fL j.ek k es with
     |none=>
      rw [O3] at hmf;have Yy:cF j.ek k z es=z:=by unfold cF; rw [O3]; rfl
      obtain ⟨c,k1,k2⟩:=E5 (R:=R) (w:=w) g1 g2;have GG:(aao kt (a.eval y) aH.toList).run E.P w=.ok none w:=uK hj hu hD qQ q2 hmf;rcases tN hj hu hD qQ (show Rel R w (cF j.ek k z es) c by rw [Yy]; exact k2) q2 G7 with ⟨_,k3,k4⟩|⟨n,c',k3,_⟩
      ·have eR:aH.toList.length=aH.size:=aaL;have iz:clock=aH.size:=q3.1;refine fin _ (aH.push { key:=a.eval y,val:=c,born:=clock }) (clock+1) c clock (by rw [aa2]; exact k4 clock) (q3.push _ _) ?_ (by rw [Yy]; exact k2) (by rw [k3]; omega) rfl;simp [execOp,ho,Instr.mapEntry,fO,run_underlying e2,mf,O6,GG,zH,k1,goInt]
      ·rw [GG] at k3;cases k3
     |some v0=>
      rw [O3] at hmf;have Yy:cF j.ek k z es=v0:=by unfold cF; rw [O3]; rfl
      obtain ⟨n0,c0,k1,k2⟩:=uL hj hu hD qQ q2 hmf;have GG:(aao kt (a.eval y) aH.toList).run E.P w=.ok (some (n0,c0)) w:=k1;rcases tN hj hu hD qQ (show Rel R w (cF j.ek k z es) c0 by rw [Yy]; exact k2) q2 G7 with ⟨k3,_⟩|⟨n,c',k3,⟨k4,en,k5,k6,k7⟩,k8⟩
      ·rw [GG] at k3;cases k3
      ·rw [GG] at k3;cases k3;have hen:aH[n0]?=some en:=by rw [← aa9]; exact k5
       have zA:(aaV (a.eval y) (a.eval y)).run E.P w=.ok (a.eval y) w:=by simp [aaV,rr hc.2 qQ]
       have Yz:en.born=n0:=q3.2 n0 en k5;have abY:(aH.modify n0 fun e=>{ e with key:=a.eval y }).toList=aH.toList.modify n0 fun e=>{ e with key:=a.eval y,val:=c0 }:=by
        rw [aaO];apply List.ext_getElem?;intro m;rw [aaS,aaS];by_cases Pv:n0=m
        ·subst Pv;rw [k5];simp [k7]
        ·simp [Pv]
       refine fin _ (aH.modify n0 fun e=>{ e with key:=a.eval y }) clock c0 n0 (by rw [abY]; exact k8) (q3.keep n0 fun _=>rfl) ?_ (by rw [Yy]; exact k2) k4 rfl;simp [execOp,ho,Instr.mapEntry,fO,run_underlying e2,mf,O6,GG,zH,hen,k6,zA,Yz,goInt]
    ·cases hv
   ·cases hv
  ·cases hv
 ·cases hv
theorem yu (h:aY E R w β s a) (t:TypeId) (x y z:Operand) (ho:o.op=.entryStore t x y z) (hd:o.dst=none) {s':St} (hv:fy s (bG E s.ab x) (bG E s.ab y) (bG E s.ab z)=some (true,s')) :
  bQ E R w β s a o s':=by
 have rx:=aV h x;have ry:=aV h y;have rz:=aV h z;unfold fy at hv;split at hv
 ·rename_i id n v hm hk hz;rw [hm] at rx;rw [hk] at ry;rw [hz] at rz;have dW:Rel R w (.map id) (a.eval x):=rx;have qQ:Rel R w (.int .i64 n) (a.eval y):=ry;have rz':Rel R w v (a.eval z):=rz;split at hv
  ·rename_i es hg;injection hv with hv; injection hv with hc h2;subst h2;rw [aal,decide_eq_true_eq,decide_eq_true_eq] at hc;obtain ⟨m,rfl⟩:∃ m:Nat,n=m:=⟨n.toNat,by omega⟩;have SF:m < es.length:=by simpa using hc.2
   generalize fO:a.eval x=xv at dW;generalize Xw:a.eval y=yv at qQ;cases qQ;cases dW with
   | @map _ b hb=>
   obtain ⟨aH,clock,q1,q2,q3⟩:=h.g.obj id _ _ hg hb;have bW:=bz q1;have hlen:=q2.length;have mf:(getObj b).run E.P w=.ok (.map aH clock) w:=by simp [getObj,aaQ,q1]
   have zH:∀ o',(setObj b o').run E.P w=.ok () (World.put w b o'):=fun o'=>by
    simp [setObj,aaQ,World.put,q1]
   have hfi:aH.findIdx? (fun e=>(e.born:Int) == (m:Int))=some m:=by
    have:=sY aH.toList 0 m (fun k e hk=>by rw [aaT]; exact q3.2 k e hk) (by omega);rw [aaT] at this;rw [← this];obtain ⟨l⟩:=aH;exact List.findIdx?_toArray ..
   have k1:eL R w (qT es m v) (aH.modify m fun e=>{ e with val:=a.eval z }).toList:=by rw [aaO]; exact eL.qT rz' m q2
   have hex:=pZ (R:=R) (x':=.map (aH.modify m fun e=>{ e with val:=a.eval z }) clock) q1 trivial trivial (fun _ e=>by cases e);obtain ⟨p1,p2⟩:=h.setObj (x':=.map (aH.modify m fun e=>{ e with val:=a.eval z }) clock) (go':=.map (qT es m v)) hb q1 trivial trivial (fun _ e=>by cases e) ⟨_,clock,ja w b _ bW,k1.mono hex,q3.keep m fun _=>rfl⟩;refine ⟨.skip,undef,_,R,β,?_,.inr ⟨rfl,rfl⟩,?_,p2⟩
   ·simp [execOp,ho,Instr.entryStore,fO,Xw,mf,asInt,asIntOf,hfi,zH]
   ·rw [hd];exact p1
  ·cases hv
 ·cases hv
end maps
end Go.Am
namespace Go.Am
open Go
section ops
variable {E:Env} {R:ai} {w:World} {β:Nat→Nat} {s:St} {a:Act} {o:Oper}
theorem tO {k:IntKind}:∀ {es:List AV},allFit (aP.fits (.int k)) es=true→es=(es.map AV.pM).map (AV.int k)
 |[],_=>rfl
 |e :: es,h=>by
  simp only [allFit,aal] at h;have hr:=tO h.2;have he:e=.int k e.pM:=by
   have h1:=h.1;cases e <;> first | (cases h1; done) | skip
   have:k=_:=of_decide_eq_true (show TM _ _=true from h1);subst this;rfl
  rw [abe,abe,← he,← hr]
theorem wE {k:IntKind}:∀ {ns:List Int} {vs:List Value},aL R w (ns.map (AV.int k)) vs→vs=ns.map (abl k)
 |[],_,.nil=>rfl
 |n :: ns,_,.cons h t=>by
  cases h;rw [abe,← wE t]
theorem xy {k:IntKind}:∀ (ns:List Int),an (ns.map (AV.int k))=ns.map (AV.int k)
 |[]=>rfl
 |n :: ns=>by simp [an,AV.cells,xy ns]
theorem foldl_push (ns:List Int):∀ (l:List UInt8),ns.foldl (fun r n=>r.push (aaX n.toNat)) (⟨⟨l⟩⟩:ByteArray)=⟨⟨l++ns.map fun n=>aaX n.toNat⟩⟩:=by
 induction ns with
 |nil=>intro l; simp
 |cons n ns ih=>
  intro l;rw [List.foldl_cons];have:(⟨⟨l⟩⟩:ByteArray).push (aaX n.toNat)=⟨⟨l++[aaX n.toNat]⟩⟩:=by
   simp [ByteArray.push]
  rw [this,ih];simp
theorem Fa (ns:List Int):∀ (l:List UInt8),ns.foldl (fun r n=>r++aaY n) (⟨⟨l⟩⟩:ByteArray)=⟨⟨l++ns.flatMap fun n=>(aaY n).data.toList⟩⟩:=by
 induction ns with
 |nil=>intro l; simp
 |cons n ns ih=>
  intro l;rw [List.foldl_cons];have:(⟨⟨l⟩⟩:ByteArray)++aaY n=⟨⟨l++(aaY n).data.toList⟩⟩:=by
   apply ByteArray.ext;apply Array.ext';simp
  rw [this,ih];simp
theorem Cz {es:List AV}:tC es=(es.map AV.pM).map fun n=>aaX n.toNat:=by simp [tC,List.map_map,Function.comp_def]
theorem KH {es:List AV}:zk es=(es.map AV.pM).flatMap fun n=>(aaY n).data.toList:=by simp [zk,List.flatMap_map]
theorem CA {a:Addr} {len cap:Nat} {ns:List Int} (h:(loadCells a len).run E.P w=.ok (ns.map (abl .u8)).toArray w) :
  (Conv.bytesToString (.slice (some a) len cap)).run E.P w=.ok (.string ⟨⟨ns.map fun n=>aaX n.toNat⟩⟩) w:=by
 rw [run_bytesToString w a len cap ns h];have:=foldl_push ns [];rw [List.nil_append] at this;exact congrArg (fun x=>Result.ok (Value.string x) w) this
theorem KI {a:Addr} {len cap:Nat} {ns:List Int} (h:(loadCells a len).run E.P w=.ok (ns.map (abl .i32)).toArray w) :
  (Conv.runesToString (.slice (some a) len cap)).run E.P w=.ok (.string ⟨⟨ns.flatMap fun n=>(aaY n).data.toList⟩⟩) w:=by
 rw [run_runesToString w a len cap ns h];have:=Fa ns [];rw [List.nil_append] at this;exact congrArg (fun x=>Result.ok (Value.string x) w) this
theorem CB {k:IntKind} {lk:LK} {sz:Nat} {es:List AV} {c:Value} (h:Rel R w (.list lk sz es) c) (hs:(Nat.beq sz 1 || es.isEmpty)=true) (hf:allFit (aP.fits (.int k)) es=true) :
  (es=[]∧c=.slice none 0 0)∨∃ a cap,c=.slice (some a) es.length cap∧(loadCells a es.length).run E.P w=.ok ((es.map AV.pM).map (abl k)).toArray w:=by
 obtain ⟨_,vs,h1,h2,h3,h4⟩:=fI (esz:=1) h (by
  simp only [Bool.or_eq_true] at hs;rcases hs with hs|hs
  ·exact .inr (aaI hs)
  ·exact .inl (by simpa using hs))
 rw [tO hf,xy] at h1;have hv:=wE h1;rcases h4 with ⟨he,_,ad,hc,_⟩|⟨b,o',cap,hc,_,_,j8,_⟩
 ·cases ad with
  |none=>exact .inl ⟨he,hc⟩
  |some ad=>
   subst he;exact .inr ⟨ad,0,hc,by simp [loadCells,loadCellsFrom]⟩
 ·refine .inr ⟨_,cap,hc,?_⟩;have:=run_loadCells_list (P:=E.P) w ⟨b,o',none⟩ vs j8;rw [h3,Nat.mul_one] at this;rw [this,hv]
theorem DL (h:aY E R w β s a) (t u:TypeId) (x:Operand) (ho:o.op=.convert t u x) {v:AV} (hc:oZ E s t u (bG E s.ab x)=some (true,v)) :
  bQ E R w β s a o (s.put o.dst (.v v)):=by
 have rx:=aV h x;unfold oZ at hc;split at hc
 ·rename_i i j q hi hj hx;rw [hx] at rx;have dW:Rel R w q (a.eval x):=rx;generalize fO:a.eval x=xv at dW;obtain ⟨hU,ud,e1,e2,e3,e4,e5,e6⟩:=ck E hj;obtain ⟨Ys,ud',e1',O7,e3',e4',e5',e6'⟩:=ck E hi;split at hc
  ·rename_i k _ n hk;cases hc;cases dW;rw [hk] at e5;have:=uz e5;subst this;refine au h (c:=.int k (k.wrap n)) ?_ (Rel.int _ _);simp [execOp,ho,convert,run_underlying O7,run_underlying e2,fO,Conv.intToInt]
  ·rename_i lk sz es hk;rw [hk] at e5;have:=mL e5;subst this;split at hc
   ·rename_i elem ag eb z ML;rw [ML] at e5';obtain ⟨ie,ue,rfl,_⟩:=dq e5';split at hc
    ·rename_i e he;obtain ⟨YA,ud2,f1,f2,f3,f4,f5,f6⟩:=ck E he;split at hc
     ·rename_i Co;injection hc with hc; injection hc with c1 c2;subst c2;rw [aal] at c1;rw [Co] at f5;have:=uz f5;subst this;refine au h (c:=.string ⟨⟨tC es⟩⟩) ?_ (Rel.str _);rcases CB (E:=E) dW c1.1 c1.2 with ⟨rfl,rfl⟩|⟨ad,cap,rfl,hl⟩
      ·simp [execOp,ho,convert,run_underlying O7,run_underlying e2,run_underlying f2,fO,Conv.bytesToString,tC];rfl
      ·have hr:=CA (E:=E) (cap:=cap) hl;rw [← Cz] at hr;simp [execOp,ho,convert,run_underlying O7,run_underlying e2,run_underlying f2,fO,hr]
     ·rename_i Co;injection hc with hc; injection hc with c1 c2;subst c2;rw [aal] at c1;rw [Co] at f5;have:=uz f5;subst this;refine au h (c:=.string ⟨⟨zk es⟩⟩) ?_ (Rel.str _);rcases CB (E:=E) dW c1.1 c1.2 with ⟨rfl,rfl⟩|⟨ad,cap,rfl,hl⟩
      ·simp [execOp,ho,convert,run_underlying O7,run_underlying e2,run_underlying f2,fO,Conv.runesToString,zk];rfl
      ·have hr:=KI (E:=E) (cap:=cap) hl;rw [← KH] at hr;simp [execOp,ho,convert,run_underlying O7,run_underlying e2,run_underlying f2,fO,hr]
     ·cases hc
    ·cases hc
   ·cases hc
  ·rename_i id off len cap hk;rw [hk] at e5;have:=mL e5;subst this;split at hc
   ·rename_i elem ag eb z cs el ML hg;rw [ML] at e5';obtain ⟨ie,ue,rfl,_⟩:=dq e5';split at hc
    ·rename_i e he;obtain ⟨YA,ud2,f1,f2,f3,f4,f5,f6⟩:=ck E he;split at hc
     ·rename_i Co;injection hc with hc; injection hc with c1 c2;subst c2;rw [aal] at c1;rw [Co] at f5;have:=uz f5;subst this;cases dW with
      | @jV _ _ _ _ _ b hb fj=>
      obtain ⟨vs,b1,b2,b3,b4⟩:=h.g.obj id _ _ hg hb;have hle:=aaR c1.1;have abZ:kv off (off+len) cs=(cs.drop off).take len:=by
       unfold kv;rw [List.drop_take];congr 1;omega
      have dJ:aL R w (kv off (off+len) cs) ((vs.drop off).take len):=by
       rw [abZ];exact (b2.drop off).take len
      have hlen:((vs.drop off).take len).length=len:=by
       rw [List.length_take,List.length_drop,← b2.length];omega
      have zQ:=dJ;rw [tO c1.2] at zQ;have hv:=wE zQ;have hl:=run_loadCells_list (P:=E.P) w ⟨b,off,none⟩ ((vs.drop off).take len) (fun j v hj=>by
       rw [b9,kY b1];rw [List.getElem?_take] at hj;split at hj
       ·rw [List.getElem?_drop] at hj; exact hj
       ·cases hj)
      rw [hlen,hv] at hl;have hr:=CA (E:=E) (cap:=cap) hl;rw [← Cz] at hr;refine au h (c:=.string ⟨⟨tC (kv off (off+len) cs)⟩⟩) ?_ (Rel.str _);simp [execOp,ho,convert,run_underlying O7,run_underlying e2,run_underlying f2,fO,hr]
     ·cases hc
    ·cases hc
   ·cases hc
  ·cases hc
 ·cases hc
theorem oM (h:aY E R w β s a) (x:Operand) (ho:o.op=.nilCheck x) {y:SV} (hx:bG E s.ab x=y) (hy:(∃ id off,y=.v (.ptr id off))∨(∃ k off,y=.lp k off)∨∃ cs,y=.v (.ep cs)) :
  bQ E R w β s a o (s.put o.dst y):=by
 have rx:=aV h x;rw [hx] at rx;rcases hy with ⟨id,off,rfl⟩|⟨k,off,rfl⟩|⟨cs,rfl⟩
 ·have dW:Rel R w (.ptr id off) (a.eval x):=rx;generalize fO:a.eval x=xv at dW;cases dW with
  | @ptr _ _ b hb=>
  refine au h (c:=.pointer (some ⟨b,off,none⟩)) ?_ (Rel.ptr hb);simp [execOp,ho,fO]
 ·refine ⟨_,_,w,R,β,?_,.inl rfl,h.put o.dst rx,by rw [bf]; exact Step.refl _ _ _ _⟩;have fO:a.eval x=.pointer (some ⟨β k,off,none⟩):=rx;simp [execOp,ho,fO]
 ·have dW:Rel R w (.ep cs) (a.eval x):=rx;generalize fO:a.eval x=xv at dW;cases dW with
  | @ep _ b off hb=>
  refine au h (c:=.pointer (some ⟨b,off,none⟩)) ?_ (Rel.ep hb);simp [execOp,ho,fO]
end ops
end Go.Am
namespace Go.Am
open Go
section
variable {E:Env} {R R':ai} {w w':World} {β β':Nat→Nat} {s s':St} {a a':Act} {o:Oper}
def zS:List AV→List TR
 |[]=>[]
 |.list .full _ es :: l=>.full es.length :: zS l
 |_ :: l=>.a8 :: zS l
theorem DM {id sz:Nat}:∀ {ys Kl:List AV} {fs Dr:List Nat},Kk id sz ys fs=some (Kl,Dr) →
  ∃ nfs,Dr=fs++nfs∧(zS ys).length=nfs.length∧Kl.length=ys.length∧(∀ j f t,nth nfs j=some f→nth (zS ys) j=some t→(t=.a8∧f=0)∨t=.full f) ∧
   (∀ es,dX es ys→dX es Kl) ∧
   (∀ {R R':ai} {w:World} {us:List Value} {ts:List TR},aL R w (an ys) us→Ext R w R' w→nth R'.obj id=some (.aX ts)→(∀ j t,nth (zS ys) j=some t→nth ts (fs.length+j)=some t)→aL R' w (an Kl) us)
 |[],Kl,fs,Dr,h=>by
  simp only [Kk] at h;cases h;exact ⟨[],by simp,rfl,rfl,fun j f t h=>by simp [nth] at h,fun _ h=>h,fun h e _ _=>h.mono e⟩
 |y :: ys,Kl,fs,Dr,h=>by
  unfold Kk at h;split at h
  ·rename_i jS;cases jS
  ·rename_i sz0 l fs0 jS;obtain ⟨rfl,rfl⟩:=List.cons.inj jS;split at h
   ·rename_i r fs2 hr;cases h;obtain ⟨nfs,rfl,h2,h3,h4,h5,h6⟩:=DM hr;refine ⟨0 :: nfs,by simp,by simp [zS,h2],by simp [h3],fun j f t hf ht=>?_,fun es he x hx=>?_,fun hR e hid I9=>?_⟩
    ·cases j with
     |zero=>
      simp only [zS,nth] at hf ht;cases hf; cases ht;exact .inl ⟨rfl,rfl⟩
     |succ j=>exact h4 j f t hf ht
    ·rcases List.mem_cons.1 hx with rfl|hx
     ·have:=he _ List.mem_cons_self;exact ⟨this.1,rfl⟩
     ·exact h5 es (fun z hz=>he z (abc _ hz)) x hx
    ·simp only [an,AV.cells,aba] at hR ⊢;cases hR with
     |cons hc hR=>
     refine .cons ?_ (h6 hR e hid fun j t hj=>?_)
     ·have hn:=I9 0 .a8 rfl;rw [Nat.add_zero] at hn;cases hc with
      |jZ=>exact .mJ hid trivial
      |list _ _ _ hk=>exact hk.elim
     ·have:=I9 (j+1) t hj;rw [List.length_append,abb];rw [abd,abj 1 j];exact this
   ·cases h
  ·rename_i sz0 es l fs0 jS;obtain ⟨rfl,rfl⟩:=List.cons.inj jS;split at h
   ·rename_i eR;have eR:=aaI eR;subst eR;split at h
    ·rename_i r fs2 hr;cases h;obtain ⟨nfs,rfl,h2,h3,h4,h5,h6⟩:=DM hr;refine ⟨_ :: nfs,by rw [List.append_assoc]; rfl,by simp [zS,h2],by simp [h3],fun j f t hf ht=>?_,fun es he x hx=>?_,fun hR e hid I9=>?_⟩
     ·cases j with
      |zero=>
       simp only [zS,nth] at hf ht;cases hf; cases ht;exact .inr rfl
      |succ j=>exact h4 j f t hf ht
     ·rcases List.mem_cons.1 hx with rfl|hx
      ·have:=he _ List.mem_cons_self;exact ⟨this.1,rfl⟩
      ·exact h5 es (fun z hz=>he z (abc _ hz)) x hx
     ·simp only [an,AV.cells,aba] at hR ⊢;cases hR with
      |cons hc hR=>
      refine .cons ?_ (h6 hR e hid fun j t hj=>?_)
      ·have hn:=I9 0 _ rfl;rw [Nat.add_zero] at hn;cases hc with
       |list hE hlen fj hk=>
        have hk:_=_:=hk;exact .list (hE.mono e) hlen fj ⟨_,hid,_,hn,Nat.le_of_eq hlen,fun _=>hk⟩
      ·have:=I9 (j+1) t hj;rw [List.length_append,abb];rw [abd,abj 1 j];exact this
    ·cases h
   ·cases h
  ·cases h
theorem Fb {e:EK} {k:AV}:∀ {es:List (AV × AV)},du e k es=true→kp e k es=some (fL e k es)
 |[],_=>rfl
 |(k',v) :: l,h=>by
  simp only [du,aal] at h;obtain ⟨b,hb⟩:=aaU.1 h.1;simp only [kp,fL,BE,hb];cases b
  ·simp only [cond_false]; exact Fb h.2
  ·rfl
theorem Hu {f:FuncId} (h:aY E R w β s a) (hs:iV E f s o=some (true,s')):bQ E R w β s a o s':=by
 unfold iV at hs;split at hs
 ·split at hs
  ·split at hs
   ·rename_i args tys ho;split at hs
    ·rename_i id g off sz len k szy y ys t u hl Hv;split at hs
     ·rename_i i hi;split at hs
      ·rename_i elem esz ag eb z hk;split at hs
       ·rename_i j hj;split at hs
        ·rename_i e2 gK ag2 eb2 z2 XC;split at hs
         ·rename_i kq Ho;split at hs
          ·rename_i Kl Dr es bh e' hy hid;split at hs
           ·rename_i hc;simp only [aal] at hc;obtain ⟨⟨⟨⟨⟨⟨⟨⟨c1,c2⟩,c3⟩,c4⟩,c5⟩,c6⟩,c7⟩,c8⟩,c9⟩:=hc;have c1:=aaI c1;have c2:=aaI c2;have c3:=aaI c3;have c4:=aaI c4;have c5:=aaI c5;have c8:=aaI c8;subst c1; subst c2; subst c3; subst c4; subst c5;injection hs with hs; injection hs with hc hs;subst hs;simp only [aal,decide_eq_true_eq] at hc;obtain ⟨fs,yk,_⟩:=mP Ho;rw [aa3] at yk;have SG:jY s.G kq=fs:=by simp only [jY,yk]
            rw [SG] at hy;obtain ⟨nfs,rfl,y1,y2,y3,y4,y5⟩:=DM hy;have bW:=aU yk;rw [← h.g.len] at bW;obtain ⟨ro,ba⟩:∃ ro,nth R.obj kq=some ro:=⟨R.obj[kq],by rw [aN]; exact aas bW⟩;obtain ⟨ts,rfl,z1,z2,z3⟩:=h.DH yk (nfs:=nfs) (nts:=zS (y :: ys)) y1 (fun j f t h1 h2=>by
             rcases y3 j f t h1 h2 with ⟨rfl,rfl⟩|rfl
             ·exact rfl
             ·exact rfl) (fun j f b c hj=>by
             obtain ⟨f',YB⟩:∃ f',nth nfs j=some f':=by
              have:=aU hj;rw [y1] at this;exact ⟨nfs[j],by rw [aN]; exact aas this⟩
             rcases y3 j f' _ YB hj with ⟨h1,_⟩|h1 <;> cases h1) ba
            have cq:kq≠id:=fun e=>by subst e; rw [yk] at hid; cases hid
            have Up:nth (s.bq (ak s.G kq (.aX (fs++nfs) gK e2))).G id=some (.cg es sz e'):=by
             simp only [St.bq];rw [aJ cq];exact hid
            have hr:=fP h hl;generalize hv:args.toList.map a.eval=vs at hr;have Uq:o.op=.call { callee:=.builtin .append,args:=args,argTypes:=#[t,t] }:=by
             rw [ho];congr 2;exact Array.toList_inj.1 Hv
            have hx:=dL (E:=E) (w:=w) Uq vs hv;cases hr with
            | @cons _ cx _ _ h0 h1=>
            cases h1 with
            | @cons _ cy _ _ h1 h2=>
            cases h2;obtain ⟨hU,ud,e1,O7,e3,e4,e5,e6⟩:=ck E hi;have Kx:=hk;rw [hk] at e5;obtain ⟨ie,ue,rfl,f1,f2,f3,f4,f5,f6⟩:=dq e5;have oa:(⟨[cx,cy]⟩:Array Value)=#[cx,cy]:=rfl;obtain ⟨w0,us,w1,w2,w3,w4⟩:=fI (esz:=sz) h1 (.inr rfl);have hlen:Kl.length=(y :: ys).length:=y2;cases Kl with
            |nil=>simp at hlen
            |cons y' Kl=>
            rw [← hlen] at hc w3 ⊢;refine bQ.step (R':=R.reset kq (.aX (ts++zS (y :: ys)))) rfl z3 (jh z2 (cx:=cx) (cy:=cy) (us:=us) (t:=t) (u:=t) (fun hh=>?_) (aaR c7) c8 c9 f2 f3 f6 (h0.mono z3.ext) (fun zc lF=>?_) (y4 _ w0.g) (y5 w1 z3.ext (aj ba) fun j t hj=>by rw [← z1]; exact wA hj) w2 w3 Up hc.1.1.1 hc.1.1.2 hc.1.2 hc.2)
            ·rw [hx];simp only [builtin,oa,aax,hh,aav,aaN]
            ·rcases w4 with ⟨h,_⟩|⟨Xz,oy,zI,rfl,Yr,_,j9,yE⟩
             ·cases h
             ·rw [hlen] at w3 ⊢;refine ⟨fun hn=>absurd hn (by simp),fun hh zJ zK=>run_append_nil (P:=E.P) w t o.type _ ie zc O7 f1 lF _ _ zI us (by rw [w3,f2]) j9 hh zJ zK,fun _ b sLen fk tL uG GF hg zJ zK=>run_append_grow (P:=E.P) w t o.type _ ie zc O7 f1 lF b sLen fk tL uG GF _ _ zI us (by rw [w3,f2]) j9 hg zJ zK,fun _ g k sLen fk cur hg dM nO=>fS (P:=E.P) w t o.type _ ie O7 f1 g k sLen fk cur hg _ _ zI us (by rw [w3,f2]) j9 w2 dM nO⟩
           ·cases hs
          ·cases hs
         ·cases hs
        ·cases hs
       ·cases hs
      ·cases hs
     ·cases hs
    ·cases hs
   ·cases hs
  ·cases hs
 ·cases hs
theorem Fc {f:FuncId} (h:aY E R w β s a) (hs:tD E f s o=some (true,s')):bQ E R w β s a o s':=by
 unfold tD at hs;split at hs
 ·split at hs
  ·split at hs
   ·rename_i t m kx ok ho;split at hs
    ·rename_i e sz p i id k he hi hm hk;split at hs
     ·rename_i kt et szz es ML hid;split at hs
      ·rename_i j kq hj Ho;split at hs
       ·rename_i hc;injection hs with hs; injection hs with Cu hs;subst hs;rw [aal] at Cu;obtain ⟨fs,yk,_⟩:=mP Ho;rw [aa3] at yk;have SG:jY s.G kq=fs:=by simp only [jY,yk]
        rw [SG] at Cu ⊢;have bW:=aU yk;rw [← h.g.len] at bW;obtain ⟨ro,ba⟩:∃ ro,nth R.obj kq=some ro:=⟨R.obj[kq],by rw [aN]; exact aas bW⟩;obtain ⟨ts,rfl,z1,z2,z3⟩:=h.DH yk (nfs:=[0]) (nts:=[.a8]) rfl (fun j f t h1 h2=>by
         cases j with
         |zero=>simp only [nth] at h1 h2; cases h1; cases h2; exact rfl
         |succ j=>simp [nth] at h1) (fun j f b c hj=>by
         cases j with
         |zero=>simp only [nth] at hj; cases hj
         |succ j=>simp [nth] at hj) ba
        have cq:kq≠id:=fun e=>by subst e; rw [yk] at hid; cases hid
        have hmo:mapOf (s.bq (ak s.G kq (.aX (fs++[0]) sz e))) (.v (.map id))=some es:=by
         simp only [mapOf,St.bq];rw [aJ cq,hid]
        have xq:kV E (s.bq (ak s.G kq (.aX (fs++[0]) sz e))) t (bG E (s.bq (ak s.G kq (.aX (fs++[0]) sz e))).ab m) (bG E (s.bq (ak s.G kq (.aX (fs++[0]) sz e))).ab kx)=some ((fL j.ek k es).getD (.list .nil szz []),(fL j.ek k es).isSome):=by
         rw [show bG E (s.bq (ak s.G kq (.aX (fs++[0]) sz e))).ab m=.v (.map id) from hm,show bG E (s.bq (ak s.G kq (.aX (fs++[0]) sz e))).ab kx=.v k from hk];unfold kV;simp only [hi,hmo,ML,hj,hc,if_true,Fb Cu.1];cases fL j.ek k es <;> rfl
        refine bQ.step (R':=R.reset kq (.aX (ts++[.a8]))) rfl z3 ?_;refine bQ.Ja (qa z2 t m kx ok ho xq) (fun R' w' ex c sj=>?_);have key:∀ c,Rel R' w' ((fL j.ek k es).getD (.list .nil szz [])) c→Rel R' w' ((aP.aX kq sz p).enc ((aP.aX kq sz p).bw (cF j.ek k (.list (.aX kq fs.length) sz []) es))) c:=fun c hc=>by
         refine ((aP.aX kq sz p).dE Cu.2).hJ _ _ _ ?_;unfold cF;cases hg:fL j.ek k es with
         |some x=>rw [hg] at hc; exact hc
         |none=>
          rw [hg] at hc;obtain ⟨jR,q1,q2⟩:=ex.obj kq _ (aj ba);have hn:tE (.aX (ts++[.a8])):=trivial;have hc:Rel R' w' (.list .nil szz []) c:=hc;cases hc with
          |jZ=>exact .mJ q1 (hn.mono q2)
          |list _ _ _ hk=>exact hk.elim
        cases ok with
        |false=>exact key c sj
        |true=>
         have sj:Rel R' w' (.bP [(fL j.ek k es).getD (.list .nil szz []),.bool (fL j.ek k es).isSome]) c:=sj;cases sj with
         |bP h1=>
         cases h1 with
         |cons h1 h2=>exact Rel.bP (.cons (key _ h1) h2)
       ·cases hs
      ·cases hs
     ·cases hs
    ·cases hs
   ·cases hs
  ·cases hs
 ·cases hs
theorem Hw {f:FuncId} (h:aY E R w β s a) (hs:xm E f s o=some (true,s')):bQ E R w β s a o s':=by
 unfold xm at hs;split at hs
 ·rename_i r hr;cases hs;exact MG h hr
 ·exact Fc h hs
end
end Go.Am
