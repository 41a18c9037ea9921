/- The abstract machine: what it does is what the model does: objects that are no rows; ranges over strings. -/
import Derived.Test.YtegoimldbgdeiaaGreatAmKE
import Derived.Laws.RangeAny
import Derived.Maps.RangeRun
import Derived.Laws.BytesString
import Derived.Laws.Cover4
set_option linter.all false
open Array renaming length_toList→abp, toList_modify→abw, getElem?_toList→acy, toList_push→acJ, toList_filter→adM
open Bool renaming and_eq_true→aag
open ByteArray renaming get!→adY
open Go.Builtin renaming clear_→abL, zeroCells→adR
open Go.ByteArray renaming toList_eq→adK
open Go.Instr renaming findKey→aah, checkKey→aak, findAsking→aaq, findNow→aaN, sameBits→abr, keyThatStays→abK, sameNow→acC, lookup→acR
open Go.Op renaming maxDepth→abN, equal→acP
open Go.Result renaming andThen_ok→aas
open Go.Sem renaming run_bind→aaF, run_pure→abu, run→abx
open List renaming getElem?_eq_getElem→aaG, replicate→abt, getElem?_modify→abz, modify_zero_cons→abS, modify_succ_cons→abY, take_length→acU, getElem?_cons_zero→acX, getElem?_cons_succ→ac0, length_replicate→ac8, getElem_of_mem→adL
open Nat renaming eq_of_beq_eq_true→aaa, le_of_ble_eq_true→aar, zero_add→abv, le_refl→abO, le_succ_of_le→acD, mul_le_mul_right→ade, sub_zero→adN, le_of_eq→adP
open Option renaming isSome_iff_exists→abJ
open Option.some renaming inj→abA, injEq→adQ
open Prod.mk renaming injEq→abR
namespace Go.Am
open Go
open Go.ChangeMaps (setBlock)
def sW (x:Obj):Prop:=match x with
 |.cells ..=>False
 |_=>True
theorem yg {w:World} {b:Nat} {x:Obj} (h:w.heap[b]?=some x) (hn:sW x) (o:Nat):w.cell? ⟨b,o,none⟩=none:=by
 simp only [World.cell?,h];cases x <;> first | rfl | exact hn.elim
def World.put (w:World) (b:Nat) (x:Obj):World:={ w with heap:=w.heap.setIfInBounds b x }
theorem rP (w:World) (b k:Nat) (x:Obj) (h:k≠b):(World.put w b x).heap[k]?=w.heap[k]?:=Array.getElem?_setIfInBounds_ne (Ne.symm h)
theorem ku (w:World) (b:Nat) (x:Obj) (h:b < w.heap.size):(World.put w b x).heap[b]?=some x:=by simp [World.put,h]
@[simp] theorem aeH (w:World) (b:Nat) (x:Obj):(World.put w b x).heap.size=w.heap.size:=by simp [World.put]
section setobj
variable {E:Env} {R:aj} {w:World} {β:Nat→Nat} {s:St} {a:Act}
theorem sX {b:Nat} {x x':Obj} (hx:w.heap[b]?=some x) (hn:sW x) (Z6:sW x') (hl:∀ r,x=.loop r→∃ r',x'=.loop r'∧uc r r'):Ext R w R (World.put w b x'):=
 ⟨fun _ _ h=>h,fun b' o h=>by
  by_cases e:b'=b
  ·subst e;rw [yg hx hn,yg (ku w b' x' (bK hx)) Z6]
  ·exact cw (rP w b b' x' e) o,fun _ ro h=>⟨ro,h,cQ.refl ro⟩,fun b' r hb=>by
  by_cases e:b'=b
  ·subst e;rw [hx] at hb;obtain ⟨r',rfl,h2⟩:=hl r (abA hb);exact ⟨r',ku w b' _ (bK hx),h2⟩
  ·exact ⟨r,(rP w b b' x' e).trans hb,rfl,rfl,rfl,rfl,rfl⟩⟩
theorem bi.setObj (h:bi E R w β s a) {id b:Nat} {x x':Obj} {go':GO} (hid:nth R.obj id=some (.bZ b)) (hx:w.heap[b]?=some x) (hn:sW x) (Z6:sW x') (hl:∀ r,x=.loop r→∃ r',x'=.loop r'∧uc r r') (kp:jW R (World.put w b x') go' (.bZ b)) :
  bi E R (World.put w b x') β (s.bM (aC s.G id go')) a∧Step R w β s.boxes R (World.put w b x') β s.boxes:=by
 have hex:=sX (R:=R) hx hn Z6 hl;refine ⟨⟨⟨by simp [St.bM,h.g.len],fun mc go ro hg mW=>?_,h.g.inj,fun b' o' sQ=>by have:=h.g.wf b' o' sQ; simpa using this,fun g ig hg=>(h.g.ft g ig hg).mono hex,by first | exact h.g.lo | exact acD h.g.lo⟩,?_,h.t.mono hex,h.n,h.d⟩,?_⟩
 ·rcases cJ hg with ⟨rfl,rfl,_⟩|⟨df,Il⟩
  ·rw [hid] at mW;cases mW;exact kp
  ·refine (h.g.obj mc go ro Il mW).mono hex (fun b' oh=>rP w _ b' _ (fun e=>df ?_)) (fun _ _ _ hi=>hi);subst e;exact h.g.inj id mc _ _ b' hid mW rfl oh
 ·exact h.b.bD hex (fun k ig ly=>rP w _ _ _ (h.Lg hid ly)) (fun _ _ _ _ hi=>hi) (fun _ _ _ hl=>hl)
 ·have wW:Own R β s.boxes b:=.inl ⟨id,_,hid,rfl⟩;exact ⟨hex,rfl,rfl,rfl,by simp,fun b' _ hn=>rP w _ b' _ (fun e=>hn (e ▸ wW)),fun _ _ hb=>hb,fun b o hi _ _=>hi⟩
end setobj
section maps
variable {E:Env} {R:aj} {w:World} {β:Nat→Nat} {s:St} {a:Act} {o:Oper}
theorem RN {t:TypeId} {i:TI} (hi:E.ti t=some i):i.ek=AY E.P t:=by
 have:=E.Pa t i hi;unfold O9 at this;split at this
 ·split at this
  ·cases this; rfl
  ·cases this
 ·cases this
theorem oo {e:EK} {a b:AV} {r:Bool} (h:KR e a b=some r):pY e a b=some r:=by
 unfold KR at h;split at h
 ·rename_i he;cases hc:(e.wide&&!sJ a b) with
  |true=>rw [hc] at h; cases h
  |false=>rw [hc] at h; cases h; exact he
 ·exact h
theorem RQ {e:EK} {a b:AV} (h:KR e a b=some true) (he:e.wide=true):sJ a b=true:=by
 have:=oo h;unfold KR at h;rw [this] at h;simp only [he,Bool.true_and] at h;cases hs:sJ a b with
 |true=>rfl
 |false=>rw [hs] at h; cases h
def IQ (e:EK) (d:TypeDesc):Prop:=(e=.bool∧d=.bool)∨(e=.int∧∃ k,d=.int k)∨(e=.str∧d=.string)∨(e.wide=true∧((∃ fs,d=.struct fs)∨∃ n t,d=.array n t))
theorem A9 {P:Program} {t:TypeId} (h:(AY P t).plain=true):∃ d,P.underlying t=some d∧IQ (AY P t) d:=by
 have key:∀ {e:EK},e=vZ P 6 t→e.plain=true→∃ d,P.underlying t=some d∧IQ e d:=by
  intro e he h;unfold vZ at he;split at he
  ·rename_i hu; exact ⟨_,hu,.inl ⟨he,rfl⟩⟩
  ·rename_i k hu; exact ⟨_,hu,.inr (.inl ⟨he,k,rfl⟩)⟩
  ·rename_i hu; exact ⟨_,hu,.inr (.inr (.inl ⟨he,rfl⟩))⟩
  ·rename_i fs hu;split at he
   ·subst he; cases h
   ·split at he
    ·subst he; exact ⟨_,hu,.inr (.inr (.inr ⟨rfl,.inl ⟨_,rfl⟩⟩))⟩
    ·subst he; cases h
  ·rename_i m e' hu;split at he
   ·subst he; exact ⟨_,hu,.inr (.inr (.inr ⟨rfl,.inr ⟨_,_,rfl⟩⟩))⟩
   ·subst he; cases h
  ·subst he; cases h
 unfold AY at h ⊢;split
 ·rename_i l hl;rw [hl] at h;simp only at h;split at h
  ·simp [EK.plain] at h
  ·rename_i hg;rw [if_neg hg];exact key hl.symm rfl
 ·rename_i k hk;exact key rfl (by
   split at h
   ·rename_i l hl; exact absurd hl (hk l)
   ·exact h)
theorem Hg {a b:AV} (h:xO a b=true) {x y:Value} (hx:Rel R w a x) (hy:Rel R w b y):x=y:=by
 unfold xO at h;split at h
 ·cases hx; cases hy; rw [eq_of_beq h]
 ·rw [aag,decide_eq_true_eq] at h;cases hx; cases hy; rw [h.1,eq_of_beq h.2]
 ·cases hx; cases hy; rw [eq_of_beq h]
 ·cases h
theorem yh:∀ {xs ys:List AV} {vs us:List Value},tZ xs ys=true→aQ R w xs vs→aQ R w ys us→vs=us
 |[],[],_,_,_,.nil,.nil=>rfl
 |a :: xs,b :: ys,_,_,h,.cons h1 h2,.cons h3 h4=>by
  unfold tZ at h;rw [aag] at h;rw [Hg h.1 h1 h3,yh h.2 h2 h4]
 |[],_ :: _,_,_,h,_,_=>by cases h
 |_ :: _,[],_,_,h,_,_=>by cases h
theorem IR {a b:AV} (h:sJ a b=true) {x y:Value} (hx:Rel R w a x) (hy:Rel R w b y):x=y:=by
 unfold sJ at h;split at h
 ·cases hx with
  |agg hx _=>cases hy with
   |agg hy _=>rw [yh h hx hy]
 ·cases h
theorem Ba {ek:TypeId→EK} {d:Nat} {em:Bool} (ih:∀ (t:TypeId) (a:AV) (r:Bool) (x:Value),pY (ek t) a a=some r→Rel R w a x→(aak em d t x).run E.P w=.ok () w) {xs:List AV} {vs:List Value}
  (hx:aQ R w xs vs) (zX:∀ x∈vs,x.oneCell'=true) :
  ∀ (fs:List Field) (l:Yk) (r:Bool),K5 E.P ek fs=some l→zQ l xs xs=some r →
   (do for f in fs do if f.name ≠ "_" then aak em d f.type (← part f.type ⟨vs⟩ f.offset) : Sem Unit).run E.P w = .ok () w
 |[],l,r,hl,hr=>by simp
 |f :: fs,l,r,hl,hr=>by
  unfold K5 at hl;split at hl
  ·cases hl
  ·rename_i hn;split at hl
   ·rename_i i u l' h1 h2 h3;cases hl;unfold zQ at hr;split at hr
    ·rename_i a b ha hb;rw [ha] at hb;cases hb;split at hr
     ·rename_i p q hp hq;obtain ⟨c,k1,k2⟩:=oH h1 h2 hx zX ha;have df : f.name ≠ "_" := by simpa using hn
      have CH:=Ba ih hx zX fs l' q h3 hq;simp only [List.forIn_cons,aaF,if_pos df,aas,k1,ih f.type a p c hp k2,abu];simpa only [aaF,abu] using CH
     ·cases hr
    ·cases hr
   ·cases hl
theorem yi {ek:EK} {d:Nat} {em:Bool} {e:TypeId} {i:TypeInfo} {u:TypeDesc} (h1:E.P.info? e=some i) (h2:E.P.underlying e=some u) (ih:∀ (a:AV) (r:Bool) (x:Value),pY ek a a=some r→Rel R w a x→(aak em d e x).run E.P w=.ok () w) {xs:List AV} {vs:List Value}
  (hx:aQ R w xs vs) (zX:∀ x∈vs,x.oneCell'=true) :
  ∀ (m k:Nat) (r:Bool),zQ (Cw i.size (nR u) ek m k) xs xs=some r →
   (do for j in List.range' k m do aak em d e (← part e ⟨vs⟩ (j * (← sizeOf e))):Sem Unit).run E.P w=.ok () w
 |0,k,r,hr=>by simp
 |m+1,k,r,hr=>by
  unfold Cw zQ at hr;split at hr
  ·rename_i a b ha hb;rw [ha] at hb;cases hb;split at hr
   ·rename_i p q hp hq;obtain ⟨c,k1,k2⟩:=oH h1 h2 hx zX ha;have CH:=yi h1 h2 ih hx zX m (k+1) q hq;simp only [List.range'_succ,List.forIn_cons,aaF,run_sizeOf w h1,aas,k1,ih a p c hp k2,abu];simpa only [aaF,abu] using CH
   ·cases hr
  ·cases hr
theorem sY (em:Bool):∀ (n d:Nat),n≤d→∀ (t:TypeId) (a:AV) (r:Bool) (x:Value),pY (vZ E.P n t) a a=some r→Rel R w a x→(aak em d t x).run E.P w=.ok () w
 |0,_,_,t,a,r,x,h,_=>by simp [vZ,pY] at h
 |n+1,0,hd,_,_,_,_,_,_=>by omega
 |n+1,d+1,hd,t,a,r,x,h,hx=>by
  unfold vZ at h;split at h
  ·rename_i hu;unfold pY at h;split at h
   all_goals (try contradiction)
   cases hx;simp [aak,run_underlying hu]
  ·rename_i k hu;unfold pY at h;split at h
   all_goals (try contradiction)
   cases hx;simp [aak,run_underlying hu]
  ·rename_i hu;unfold pY at h;split at h
   all_goals (try contradiction)
   cases hx;simp [aak,run_underlying hu]
  ·rename_i fs hu;split at h
   ·simp [pY] at h
   ·split at h
    ·rename_i l hl;unfold pY at h;split at h
     all_goals (try contradiction)
     rename_i ZV xs ys hk hys;cases hk;cases hys;cases hx with
     |agg hx zX=>
     have:=Ba (em:=em) (fun t a r x=>sY em n d (by omega) t a r x) hx zX fs.toList _ r hl h;rw [aak];simp only [aaF,run_underlying hu,aas];rw [← Array.forIn_toList];simp only [aaF,abu] at this ⊢;exact this
    ·simp [pY] at h
  ·rename_i m e hu;split at h
   ·rename_i i ud g1 g2;unfold pY at h;split at h
    all_goals (try contradiction)
    rename_i ZV xs ys hk hys;cases hk;cases hys;cases hx with
    |agg hx zX=>
    have:=yi (em:=em) g1 g2 (fun a r x=>sY em n d (by omega) e a r x) hx zX m 0 r h;rw [aak];simp only [aaF,run_underlying hu,aas];simp only [Std.Legacy.Range.forIn_eq_forIn_range',Std.Legacy.Range.size,adN,Nat.add_one_sub_one,Nat.div_one];simp only [aaF,abu] at this ⊢;exact this
   ·simp [pY] at h
  ·simp [pY] at h
theorem qk {e:EK} {d:TypeDesc} (hd:(e=.bool∧d=.bool)∨(e=.int∧∃ k,d=.int k)∨(e=.str∧d=.string)) {k k':AV} {r:Bool} {x y:Value} (h:pY e k k'=some r) (hx:Rel R w k x) (hy:Rel R w k' y):acC d x y=some r∧(r=true→x=y):=by
 rcases hd with ⟨rfl,rfl⟩|⟨rfl,n,rfl⟩|⟨rfl,rfl⟩
 ·unfold pY at h;split at h
  all_goals (try contradiction)
  cases hx; cases hy; cases h;exact ⟨rfl,fun e=>by rw [eq_of_beq e]⟩
 ·unfold pY at h;split at h
  all_goals (try contradiction)
  split at h
  ·rename_i hk;subst hk;cases hx; cases hy; cases h;exact ⟨by simp [acC],fun e=>by rw [eq_of_beq e]⟩
  ·cases h
 ·unfold pY at h;split at h
  all_goals (try contradiction)
  cases hx; cases hy; cases h;refine ⟨?_,fun e=>by rw [eq_of_beq e]⟩;simp only [acC];rw [beq_toListBytes,adK,adK]
theorem CV {e:EK} {d:TypeDesc} (hd:(e=.bool∧d=.bool)∨(e=.int∧∃ k,d=.int k)∨(e=.str∧d=.string)) {k:AV} {x:Value} (hx:Rel R w k x):∀ {es:List (AV × AV)} {aL:List MapEntry} {r:Option AV},fS R w es aL→me e k es=some r →
  ∀ i,match r with
   |none=>aaN d x aL i=some none
   |some v=>∃ j c,aaN d x aL i=some (some (j,c))∧Rel R w v c
 |[],[],r,_,h,i=>by simp [me] at h; subst h; rfl
 |[],_ :: _,_,h,_,_=>h.elim
 |_ :: _,[],_,h,_,_=>h.elim
 |(k',v) :: es,en :: aL,r,h,hf,i=>by
  unfold me at hf;split at hf
  ·rename_i he;cases hf;have h1:=(qk hd (oo he) hx h.1).1;exact ⟨i,en.val,by simp [aaN,h1],h.2.1⟩
  ·rename_i he;have h1:=(qk hd (oo he) hx h.1).1;have:=CV hd hx h.2.2 hf (i+1);split at this
   ·simp only [aaN,h1]; exact this
   ·obtain ⟨j,c,q1,q2⟩:=this;exact ⟨j,c,by simp only [aaN,h1]; exact q1,q2⟩
  ·cases hf
theorem NQ {e:EK} {d:TypeDesc} (hd:(e=.bool∧d=.bool)∨(e=.int∧∃ k,d=.int k)∨(e=.str∧d=.string)) {k v:AV} {x c:Value} (hx:Rel R w k x) (hv:Rel R w v c):∀ {es es':List (AV × AV)} {aL:List MapEntry},fS R w es aL→zS e k v es=some es' →
  ∀ i,(aaN d x aL i=some none∧qI e k es=aL.length∧∀ b,fS R w es' (aL++[{ key:=x,val:=c,born:=b }])) ∨
   ∃ j c',aaN d x aL i=some (some (i+j,c'))∧(j=qI e k es∧∃ en,aL[j]?=some en∧en.key=x∧en.val=c')∧fS R w es' (aL.modify j fun e=>{ e with key:=x,val:=c })
 |[],es',[],_,h,i=>by simp [zS] at h; subst h; exact .inl ⟨rfl,rfl,fun b=>⟨hx,hv,trivial⟩⟩
 |[],_,_ :: _,h,_,_=>h.elim
 |_ :: _,_,[],h,_,_=>h.elim
 |(k',v') :: es,es',en :: aL,h,hf,i=>by
  unfold zS at hf;split at hf
  ·rename_i he;cases hf;obtain ⟨h1,h2⟩:=qk hd (oo he) hx h.1;have hm:E1 e k k'=true:=by unfold E1; rw [he]
   exact .inr ⟨0,en.val,by simp [aaN,h1],⟨by simp [qI,hm],en,rfl,(h2 rfl).symm,rfl⟩,by simp only [abS]; exact ⟨hx,hv,h.2.2⟩⟩
  ·rename_i he;have h1:=(qk hd (oo he) hx h.1).1;split at hf
   ·rename_i r hr;cases hf;have hm:E1 e k k'=false:=by unfold E1; rw [he]
    rcases NQ hd hx hv h.2.2 hr (i+1) with ⟨q1,q0,q2⟩|⟨j,c',q1,q2,q3⟩
    ·exact .inl ⟨by simp only [aaN,h1]; exact q1,by simp [qI,hm,q0],fun b=>⟨h.1,h.2.1,q2 b⟩⟩
    ·refine .inr ⟨j+1,c',by simp only [aaN,h1]; rw [q1,Nat.add_assoc,Nat.add_comm 1 j],?_,?_⟩
     ·obtain ⟨e0,en',e1,e2⟩:=q2;exact ⟨by simp [qI,hm,e0],en',by simpa using e1,e2⟩
     ·rw [abY];exact ⟨h.1,h.2.1,q3⟩
   ·cases hf
  ·cases hf
theorem xh {kt:TypeId} {j:TI} (hj:E.ti kt=some j) {k:AV} {x:Value} (hx:Rel R w k x):∀ {es:List (AV × AV)} {aL:List MapEntry} {r:Option AV},fS R w es aL→me j.ek k es=some r →
  ∀ i,match r with
   |none=>(aaq kt x aL i).run E.P w=.ok none w
   |some v=>∃ n c,(aaq kt x aL i).run E.P w=.ok (some (n,c)) w∧Rel R w v c
 |[],[],r,_,h,i=>by simp [me] at h; subst h; simp [aaq]
 |[],_ :: _,_,h,_,_=>h.elim
 |_ :: _,[],_,h,_,_=>h.elim
 |(k',v) :: es,en :: aL,r,h,hf,i=>by
  unfold me at hf;split at hf
  ·rename_i he;cases hf;have h1:=(oI hj (oo he) hx h.1).1;exact ⟨i,en.val,by simp [aaq,acP,abN,h1],h.2.1⟩
  ·rename_i he;have h1:=(oI hj (oo he) hx h.1).1;have:=xh hj hx h.2.2 hf (i+1);split at this
   ·simp only [aaq,acP,abN,aaF,h1,aas]; exact this
   ·obtain ⟨n,c,q1,q2⟩:=this;exact ⟨n,c,by simp only [aaq,acP,abN,aaF,h1,aas]; exact q1,q2⟩
  ·cases hf
theorem wA {kt:TypeId} {j:TI} (hj:E.ti kt=some j) (hw:j.ek.wide=true) {k v:AV} {x c:Value} (hx:Rel R w k x) (hv:Rel R w v c):∀ {es es':List (AV × AV)} {aL:List MapEntry},fS R w es aL→zS j.ek k v es=some es' →
  ∀ i,((aaq kt x aL i).run E.P w=.ok none w∧qI j.ek k es=aL.length∧∀ b,fS R w es' (aL++[{ key:=x,val:=c,born:=b }])) ∨
   ∃ n c',(aaq kt x aL i).run E.P w=.ok (some (i+n,c')) w∧(n=qI j.ek k es∧∃ en,aL[n]?=some en∧en.key=x∧en.val=c')∧fS R w es' (aL.modify n fun e=>{ e with key:=x,val:=c })
 |[],es',[],_,h,i=>by simp [zS] at h; subst h; exact .inl ⟨by simp [aaq],rfl,fun b=>⟨hx,hv,trivial⟩⟩
 |[],_,_ :: _,h,_,_=>h.elim
 |_ :: _,_,[],h,_,_=>h.elim
 |(k',v') :: es,es',en :: aL,h,hf,i=>by
  unfold zS at hf;split at hf
  ·rename_i he;cases hf;have h1:=(oI hj (oo he) hx h.1).1;have h2:=IR (RQ he hw) hx h.1;have hm:E1 j.ek k k'=true:=by unfold E1; rw [he]
   exact .inr ⟨0,en.val,by simp [aaq,acP,abN,h1],⟨by simp [qI,hm],en,rfl,h2.symm,rfl⟩,by simp only [abS]; exact ⟨hx,hv,h.2.2⟩⟩
  ·rename_i he;have h1:=(oI hj (oo he) hx h.1).1;split at hf
   ·rename_i r hr;cases hf;have hm:E1 j.ek k k'=false:=by unfold E1; rw [he]
    rcases wA hj hw hx hv h.2.2 hr (i+1) with ⟨q1,q0,q2⟩|⟨n,c',q1,q2,q3⟩
    ·exact .inl ⟨by simp only [aaq,acP,abN,aaF,h1,aas]; exact q1,by simp [qI,hm,q0],fun b=>⟨h.1,h.2.1,q2 b⟩⟩
    ·refine .inr ⟨n+1,c',?_,?_,?_⟩
     ·simp only [aaq,acP,abN,aaF,h1,aas];rw [show i+(n+1)=i+1+n by omega];exact q1
     ·obtain ⟨e0,en',e1,e2⟩:=q2;exact ⟨by simp [qI,hm,e0],en',by simpa using e1,e2⟩
     ·rw [abY];exact ⟨h.1,h.2.1,q3⟩
   ·cases hf
  ·cases hf
theorem oq {kt:TypeId} {d:TypeDesc} (hu:E.P.underlying kt=some d) (hd:(∃ fs,d=.struct fs)∨∃ n t,d=.array n t) (x:Value) (es:List MapEntry):(aah kt x es).run E.P w=(aaq kt x es).run E.P w:=by
 cases es with
 |nil=>simp [aah,run_underlying hu,aaN,aaq]
 |cons e es=>rcases hd with ⟨fs,rfl⟩ | ⟨n,t,rfl⟩ <;> simp [aah,run_underlying hu,aaN,acC]
theorem yj {kt:TypeId} {j:TI} (hj:E.ti kt=some j) {d:TypeDesc} (hu:E.P.underlying kt=some d) (hd:IQ j.ek d) {k:AV} {x:Value} (hx:Rel R w k x) {es:List (AV × AV)} {aL:List MapEntry} (hM:fS R w es aL) (hf:me j.ek k es=some none) :
  (aah kt x aL).run E.P w=.ok none w:=by
 have CW:((j.ek=.bool∧d=.bool)∨(j.ek=.int∧∃ k,d=.int k)∨(j.ek=.str∧d=.string))→(aah kt x aL).run E.P w=.ok none w:=fun hd=>by
  have:=CV hd hx hM hf 0;simp [aah,run_underlying hu,this]
 rcases hd with hd|hd|hd|⟨_,hd⟩
 ·exact CW (.inl hd)
 ·exact CW (.inr (.inl hd))
 ·exact CW (.inr (.inr hd))
 ·rw [oq hu hd];exact xh hj hx hM hf 0
theorem yk {kt:TypeId} {j:TI} (hj:E.ti kt=some j) {d:TypeDesc} (hu:E.P.underlying kt=some d) (hd:IQ j.ek d) {k:AV} {x:Value} (hx:Rel R w k x) {es:List (AV × AV)} {aL:List MapEntry} {v:AV} (hM:fS R w es aL) (hf:me j.ek k es=some (some v)) :
  ∃ n c,(aah kt x aL).run E.P w=.ok (some (n,c)) w∧Rel R w v c:=by
 have CW:((j.ek=.bool∧d=.bool)∨(j.ek=.int∧∃ k,d=.int k)∨(j.ek=.str∧d=.string))→∃ n c,(aah kt x aL).run E.P w=.ok (some (n,c)) w∧Rel R w v c:=fun hd=>by
  obtain ⟨n,c,q1,q2⟩:=CV hd hx hM hf 0;exact ⟨n,c,by simp [aah,run_underlying hu,q1],q2⟩
 rcases hd with hd|hd|hd|⟨_,hd⟩
 ·exact CW (.inl hd)
 ·exact CW (.inr (.inl hd))
 ·exact CW (.inr (.inr hd))
 ·rw [oq hu hd];exact xh hj hx hM hf 0
theorem xi {kt:TypeId} {j:TI} (hj:E.ti kt=some j) {d:TypeDesc} (hu:E.P.underlying kt=some d) (hd:IQ j.ek d) {k v:AV} {x c:Value} (hx:Rel R w k x) (hv:Rel R w v c) {es es':List (AV × AV)} {aL:List MapEntry} (hM:fS R w es aL) (hf:zS j.ek k v es=some es') :
  ((aah kt x aL).run E.P w=.ok none w∧qI j.ek k es=aL.length∧∀ b,fS R w es' (aL++[{ key:=x,val:=c,born:=b }])) ∨
   ∃ n c',(aah kt x aL).run E.P w=.ok (some (n,c')) w∧(n=qI j.ek k es∧∃ en,aL[n]?=some en∧en.key=x∧en.val=c')∧fS R w es' (aL.modify n fun e=>{ e with key:=x,val:=c }):=by
 have CW:((j.ek=.bool∧d=.bool)∨(j.ek=.int∧∃ k,d=.int k)∨(j.ek=.str∧d=.string))→((aah kt x aL).run E.P w=.ok none w∧qI j.ek k es=aL.length∧∀ b,fS R w es' (aL++[{ key:=x,val:=c,born:=b }])) ∨
   ∃ n c',(aah kt x aL).run E.P w=.ok (some (n,c')) w∧(n=qI j.ek k es∧∃ en,aL[n]?=some en∧en.key=x∧en.val=c')∧fS R w es' (aL.modify n fun e=>{ e with key:=x,val:=c }):=fun hd=>by
  rcases NQ hd hx hv hM hf 0 with ⟨q1,q2⟩|⟨n,c',q1,q2,q3⟩
  ·exact .inl ⟨by simp [aah,run_underlying hu,q1],q2⟩
  ·rw [abv] at q1;exact .inr ⟨n,c',by simp [aah,run_underlying hu,q1],q2,q3⟩
 rcases hd with hd|hd|hd|⟨hw,hd⟩
 ·exact CW (.inl hd)
 ·exact CW (.inr (.inl hd))
 ·exact CW (.inr (.inr hd))
 ·rcases wA hj hw hx hv hM hf 0 with ⟨q1,q2⟩|⟨n,c',q1,q2,q3⟩
  ·exact .inl ⟨by rw [oq hu hd]; exact q1,q2⟩
  ·rw [abv] at q1;exact .inr ⟨n,c',by rw [oq hu hd]; exact q1,q2,q3⟩
theorem qN {kt:TypeId} {d:TypeDesc} (hu:E.P.underlying kt=some d) (hd:d=.bool∨(∃ k,d=.int k)∨d=.string) (b:Bool) (x:Value) (n:Nat):(aak b (n+1) kt x).run E.P w=.ok () w:=by
 rcases hd with rfl|⟨k,rfl⟩|rfl <;> simp [aak,run_underlying hu]
theorem run_checkKey {kt:TypeId} {j:TI} (hj:E.ti kt=some j) {d:TypeDesc} (hu:E.P.underlying kt=some d) (hd:IQ j.ek d) {k:AV} (hk:lG j.ek k=true) {x:Value} (hx:Rel R w k x) (b:Bool):(aak b 10000 kt x).run E.P w=.ok () w:=by
 rcases hd with ⟨_,rfl⟩|⟨_,n,rfl⟩|⟨_,rfl⟩|⟨hw,_⟩
 ·exact qN hu (.inl rfl) b x 9999
 ·exact qN hu (.inr (.inl ⟨n,rfl⟩)) b x 9999
 ·exact qN hu (.inr (.inr rfl)) b x 9999
 ·have NF:=RN hj;obtain ⟨fs,hfs⟩:∃ fs,j.ek=.st fs:=by
   cases he:j.ek with
   |st fs=>exact ⟨fs,rfl⟩
   |_=>rw [he] at hw; cases hw
  rw [hfs] at hk;unfold lG at hk;split at hk
  all_goals (try contradiction)
  rename_i ZV cs h1;cases h1;rw [aag] at hk;obtain ⟨r,hr⟩:=abJ.1 hk.2;have he:pY (vZ E.P 6 kt) (.agg cs) (.agg cs)=some r:=by
   rw [hfs] at NF;have:vZ E.P 6 kt=.st fs:=by
    unfold AY at NF;split at NF
    ·rename_i l hl;split at NF
     ·cases NF
     ·rw [hl,NF]
    ·rename_i k ly;exact absurd NF.symm (ly fs)
   rw [this];unfold pY;exact hr
  exact sY b 6 10000 (by omega) kt (.agg cs) r x he hx
theorem Pw (h:bi E R w β s a) {m:SV} {es:List (AV × AV)} {x:Value} (hm:mapOf s m=some es) (hx:tR R w β m x) :
  ∃ aL,fS R w es aL∧((x=.map none∧aL=[])∨∃ b es' clock,x=.map (some b)∧w.heap[b]?=some (.map es' clock)∧es'.toList=aL):=by
 unfold mapOf at hm;split at hm
 ·cases hm;have zM:Rel R w .nQ x:=hx;cases zM;exact ⟨[],trivial,.inl ⟨rfl,rfl⟩⟩
 ·rename_i id;have zM:Rel R w (.map id) x:=hx;cases zM with
  |map hb=>
  split at hm
  ·rename_i es' hg;cases hm;obtain ⟨aL,clock,q1,q2,_⟩:=h.g.obj id _ _ hg hb;exact ⟨aL.toList,q2,.inr ⟨_,aL,clock,rfl,q1,rfl⟩⟩
  ·cases hm
 ·cases hm
theorem IS {t:TypeId} {z:AV} {i:TypeInfo} (h1:E.P.info? t=some i) (h2:jx i=some z):∃ c,(zeroValue t).run E.P w=.ok c w∧Rel R w z c:=by
 obtain ⟨c,hc,hr⟩:=eT h2;exact ⟨c,by simp [zeroValue,typeInfo,run_program,h1,hc],hr R w⟩
theorem sZ (h:bi E R w β s a) (t:TypeId) (x y:Operand) (ok:Bool) (ho:o.op=.lookup t x y ok) {v:AV} {b:Bool} (hv:mU E s t (bO E s.ab x) (bO E s.ab y)=some (v,b)) :
  cq E R w β s a o (s.put o.dst (.v (if ok then .bW [v,.bool b] else v))):=by
 have rx:=a6 h x;have ry:=a6 h y;unfold mU at hv;split at hv
 ·rename_i i es k hi hm hk;rw [hk] at ry;have tW:Rel R w k (a.eval y):=ry;obtain ⟨aL,hM,jc⟩:=Pw h hm rx;obtain ⟨kr,u,e1,e2,e3,e4,e5,e6⟩:=dR E hi;split at hv
  ·rename_i kt et z hik;split at hv
   ·rename_i j hj;split at hv
    ·rename_i hc;rw [aag] at hc;rw [hik] at e5;obtain ⟨rfl,ie,g1,g2⟩:=rF e5;have NF:=RN hj;have hpl:=hc.1;rw [NF] at hpl;obtain ⟨d,hu,hd⟩:∃ d,E.P.underlying kt=some d∧IQ j.ek d:=by
      rw [NF];exact A9 hpl
     have UL:∀ b,(aak b 10000 kt (a.eval y)).run E.P w=.ok () w:=fun b=>run_checkKey hj hu hd hc.2 tW b
     have fin:∀ r,me j.ek k es=some r→r.getD z=v→r.isSome=b→cq E R w β s a o (s.put o.dst (.v (if ok then .bW [v,.bool b] else v))):=fun r hr q1 q2=>by
      subst q1 q2;have rel:∀ c,Rel R w (r.getD z) c→Rel R w (if ok then .bW [r.getD z,.bool r.isSome] else r.getD z) (if ok then .tuple #[c,.bool r.isSome] else c):=fun c k2=>by
       cases ok
       ·exact k2
       ·exact Rel.bW (vs:=[c,.bool r.isSome]) (.cons k2 (.cons (.bool _) .nil))
      cases r with
      |none=>
       obtain ⟨c,k1,k2⟩:=IS (R:=R) (w:=w) g1 g2;have KU:(aah kt (a.eval y) aL).run E.P w=.ok none w:=yj hj hu hd tW hM hr;refine ay h (c:=if ok then .tuple #[c,.bool false] else c) ?_ (rel c k2);rcases jc with ⟨hx,rfl⟩|⟨b,es',clock,hx,hb,rfl⟩
       ·simp [execOp,ho,acR,hx,run_underlying e2,UL,KU,k1]
       ·simp [execOp,ho,acR,hx,run_underlying e2,getObj,abx,hb,UL,KU,k1]
      |some v=>
       obtain ⟨j',c,q1,q2⟩:=yk hj hu hd tW hM hr;have KU:(aah kt (a.eval y) aL).run E.P w=.ok (some (j',c)) w:=q1;refine ay h (c:=if ok then .tuple #[c,.bool true] else c) ?_ (rel c q2);rcases jc with ⟨hx,rfl⟩|⟨b,es',clock,hx,hb,rfl⟩
       ·simp [execOp,ho,acR,hx,run_underlying e2,UL,KU]
       ·simp [execOp,ho,acR,hx,run_underlying e2,getObj,abx,hb,UL,KU]
     split at hv
     ·rename_i v' hr; cases hv; exact fin _ hr rfl rfl
     ·rename_i hr; cases hv; exact fin _ hr rfl rfl
     ·cases hv
    ·cases hv
   ·cases hv
  ·cases hv
 ·cases hv
theorem FQ {R':aj} {w':World} (h:bi E R w β s a) (t:TypeId) (z:AV) (e:Ext R w R' w') {c:Value} (hc:Rel R' w' z c):Rel R' w' (IA E s.G t z) c:=by
 unfold IA;split
 ·rename_i e1 sz p bP oK;split
  ·rename_i p9 RR;obtain ⟨fs,G9,_⟩:=sV RR;rw [adN] at G9;have cE:=bl G9;rw [← h.g.len] at cE;obtain ⟨ro,bu⟩:∃ ro,nth R.obj p9=some ro:=⟨R.obj[p9],by rw [aV]; exact aaG cE⟩;have b8:=h.g.obj p9 _ _ G9 bu;have hn:wT ro:=by
    cases ro with
    |none=>exact b8.elim
    |bj=>exact b8.elim
    |bZ _=>exact b8.elim
    |tok _ _ _=>exact b8.elim
    |aY ts=>trivial
   obtain ⟨nT,q1,q2⟩:=e.obj p9 _ bu;cases hc with
   |lY=>exact .qa q1 (hn.mono q2)
   |list _ _ _ hk=>exact hk.elim
  ·exact hc
 ·exact hc
theorem IT (h:bi E R w β s a) (t:TypeId) (x y:Operand) (ok:Bool) (ho:o.op=.lookup t x y ok) {v:AV} {b:Bool} (hv:qh E s t (bO E s.ab x) (bO E s.ab y)=some (v,b)) :
  cq E R w β s a o (s.put o.dst (.v (if ok then .bW [v,.bool b] else v))):=by
 unfold qh at hv;split at hv
 ·rename_i v0 h0;cases hv;refine cq.NM (sZ h t x y ok ho h0) (fun R' w' ex c hc=>?_);cases ok with
  |false=>exact FQ h t _ ex hc
  |true=>
   have hc:Rel R' w' (.bW [v0,.bool false]) c:=hc;cases hc with
   |bW h1=>
   cases h1 with
   |cons h1 h2=>exact Rel.bW (.cons (FQ h t _ ex h1) h2)
 ·exact sZ h t x y ok ho hv
theorem NR {kt:TypeId} {j:TI} (hj:E.ti kt=some j) (hp:j.ek.plain=true):∃ d,E.P.underlying kt=some d∧IQ j.ek d:=by
 have NF:=RN hj;rw [NF] at hp ⊢;exact A9 hp
theorem Px (x:ByteArray):(x == x)=true:=by rw [beq_toListBytes]; simp
theorem kE {k:AV} {x:Value} (hp:B2 k=true) (hx:Rel R w k x) (n:Nat):abr n x x=true:=by
 unfold B2 at hp;split at hp
 ·cases hx; cases n <;> simp [abr]
 ·cases hx; cases n <;> simp [abr]
 ·cases hx; cases n <;> (simp only [abr]; exact Px _)
 ·cases hp
theorem yl (n:Nat):∀ {cs:List AV} {vs:List Value},cs.all B2=true→aQ R w cs vs→((vs.zip vs).all fun (x,y)=>abr n x y)=true
 |[],_,_,.nil=>rfl
 |a :: cs,_,h,.cons h1 h2=>by
  rw [List.all_cons,aag] at h;simp only [List.zip_cons_cons,List.all_cons,kE h.1 h1 n,yl n h.2 h2,Bool.and_self]
theorem Hh (n:Nat) {vs:Array Value} (h:((vs.toList.zip vs.toList).all fun (x,y)=>abr n x y)=true):abr (n+1) (.agg vs) (.agg vs)=true:=by
 simp only [abr,beq_self_eq_true,Bool.true_and];exact h
theorem uu {e:EK} {k:AV} {x:Value} (hp:lG e k=true) (hx:Rel R w k x):abr 10000 x x=true:=by
 unfold lG at hp;split at hp
 ·exact kE rfl hx _
 ·exact kE rfl hx _
 ·exact kE rfl hx _
 ·rw [aag] at hp;cases hx with
  |agg hx _=>
  exact Hh 9999 (yl 9999 hp.1 hx)
 ·cases hp
theorem nU.push {aL:Array MapEntry} {clock:Nat} (h:nU aL clock) (x c:Value):nU (aL.push { key:=x,val:=c,born:=clock }) (clock+1):=by
 obtain ⟨rfl,h2⟩:=h;refine ⟨by simp,fun i e he=>?_⟩;rw [acJ] at he;rcases Nat.lt_or_ge i aL.toList.length with cE|E6
 ·rw [List.getElem?_append_left cE] at he;exact h2 i e he
 ·rw [List.getElem?_append_right E6] at he;have hl:=(List.getElem?_eq_some_iff.1 he).1;have hl:i - aL.toList.length < 1:=hl;have h0:i - aL.toList.length=0:=by omega
  rw [h0] at he;simp only [acX,adQ] at he;subst he;have hs:aL.toList.length=aL.size:=abp;show aL.size=i;omega
theorem nU.modify {aL:Array MapEntry} {clock:Nat} (h:nU aL clock) (n:Nat) (x c:Value):nU (aL.modify n fun e=>{ e with key:=x,val:=c }) clock:=by
 obtain ⟨rfl,h2⟩:=h;refine ⟨by simp,fun i e he=>?_⟩;rw [abw,abz] at he;cases hi:aL.toList[i]? with
 |none=>rw [hi] at he; cases he
 |some e'=>
  rw [hi] at he;have h3:=h2 i e' hi;have he:(if n=i then { key:=x,val:=c,born:=e'.born } else e':MapEntry)=e:=abA he;by_cases hn:n=i
  ·rw [if_pos hn] at he;subst he; exact h3
  ·rw [if_neg hn] at he;subst he; exact h3
theorem uv (h:bi E R w β s a) (t:TypeId) (x y z:Operand) (ho:o.op=.mapUpdate t x y z∨o.op=.insert t x y z) (hd:o.dst=none) {s':St} (hv:iV E s t (bO E s.ab x) (bO E s.ab y) (bO E s.ab z)=some s') :
  cq E R w β s a o s':=by
 have rx:=a6 h x;have ry:=a6 h y;have rz:=a6 h z;unfold iV at hv;split at hv
 ·rename_i i id k v hi hm hk hz;rw [hm] at rx;rw [hk] at ry;rw [hz] at rz;have fK:Rel R w (.map id) (a.eval x):=rx;have tW:Rel R w k (a.eval y):=ry;have rz':Rel R w v (a.eval z):=rz;split at hv
  ·rename_i kt et ez es hik hg;split at hv
   ·rename_i j hj;split at hv
    ·rename_i hc;rw [aag] at hc;split at hv
     ·rename_i es' Li;cases hv;obtain ⟨kr,u,e1,e2,e3,e4,e5,e6⟩:=dR E hi;rw [hik] at e5;obtain ⟨rfl,ie,g1,g2⟩:=rF e5;obtain ⟨d,hu,hD⟩:=NR hj hc.1;generalize jc:a.eval x=xv at fK;cases fK with
      | @map _ b hb=>
      obtain ⟨aL,clock,q1,q2,q3⟩:=h.g.obj id _ _ hg hb;have cE:=bK q1;have UL:(aak false 10000 kt (a.eval y)).run E.P w=.ok () w:=run_checkKey hj hu hD hc.2 tW _;have ol:(getObj b).run E.P w=.ok (.map aL clock) w:=by simp [getObj,abx,q1]
      have rN:∀ o',(setObj b o').run E.P w=.ok () (World.put w b o'):=fun o'=>by
       simp [setObj,abx,World.put,q1]
      have fin:∀ o0 mn,fS R w es' o0.toList→nU o0 mn→(execOp a.eval o).run E.P w=.ok .skip (World.put w b (.map o0 mn)) →
        cq E R w β s a o (s.bM (aC s.G id (.map es'))):=fun o0 mn k1 k2 k3=>by
       have hex:=sX (R:=R) (x':=.map o0 mn) q1 trivial trivial (fun _ e=>by cases e);obtain ⟨p1,p2⟩:=h.setObj (x':=.map o0 mn) (go':=.map es') hb q1 trivial trivial (fun _ e=>by cases e) ⟨o0,mn,ku w b _ cE,k1.mono hex,k2⟩;refine ⟨.skip,undef,_,R,β,k3,.inr ⟨rfl,rfl⟩,?_,p2⟩;rw [hd];exact p1
      rcases xi hj hu hD tW rz' q2 Li with ⟨k1,_,k2⟩|⟨n,c',k1,⟨_,en,k2,k3,_⟩,k4⟩
      ·have KU:(aah kt (a.eval y) aL.toList).run E.P w=.ok none w:=k1;refine fin (aL.push { key:=a.eval y,val:=a.eval z,born:=clock }) (clock+1) (by rw [acJ]; exact k2 clock) (q3.push _ _) ?_
       ·rcases ho with ho|ho <;> simp [execOp,ho,Instr.mapUpdate,jc,run_underlying e2,ol,UL,KU,rN]
      ·have KU:(aah kt (a.eval y) aL.toList).run E.P w=.ok (some (n,c')) w:=k1;have hen:aL[n]?=some en:=by rw [← acy]; exact k2
       have CN:(abK (a.eval y) (a.eval y)).run E.P w=.ok (a.eval y) w:=by simp [abK,uu hc.2 tW]
       refine fin (aL.modify n fun e=>{ e with key:=a.eval y,val:=a.eval z }) clock (by rw [abw]; exact k4) (q3.modify n _ _) ?_
       ·rcases ho with ho|ho <;> simp [execOp,ho,Instr.mapUpdate,jc,run_underlying e2,ol,UL,KU,hen,k3,CN,rN]
     ·cases hv
    ·cases hv
   ·cases hv
  ·cases hv
 ·cases hv
theorem LH (h:bi E R w β s a) (t:TypeId) (x:Operand) (ho:o.op=.range t x) {i:TI} {l:List UInt8} (hi:E.ti t=some i) (hk:i.k=.str) (hx:bO E s.ab x=.v (.str l)) :
  cq E R w β s a o ((s.fL (.ke l 0)).put o.dst (.v (.ptr s.G.length 0))):=by
 have rx:=a6 h x;rw [hx] at rx;have fK:Rel R w (.str l) (a.eval x):=rx;obtain ⟨kr,u,e1,e2,e3,e4,e5,e6⟩:=dR E hi;rw [hk] at e5;have hu:=ui e5;subst hu;have kp:jW (R.add (.bZ w.heap.size)) (w.alloc (.stringIter ⟨⟨l⟩⟩ 0)) (.ke l 0) (.bZ w.heap.size):=heap_alloc_new w _;refine ⟨_,.pointer (some ⟨w.heap.size,0,none⟩),w.alloc (.stringIter ⟨⟨l⟩⟩ 0),R.add (.bZ w.heap.size),β,?_,.inl rfl,(h.oU (.stringIter ⟨⟨l⟩⟩ 0) (.ke l 0) (.bZ w.heap.size) (by exact fun _ h=>h) kp).put o.dst (x:=.v (.ptr s.G.length 0)) (Rel.ptr (jy h _)),by rw [bn]; exact eF h _ _ (by exact fun _ h=>h)⟩;generalize jc:a.eval x=xv at fK;cases fK;simp only [execOp,ho,jc,Instr.range,aaF,run_underlying e2,run_newObj,aas,abu];rfl
theorem LI (l:List UInt8) (pos:Nat) (h:pos < l.length):dE l pos=Utf8.decode ⟨⟨l⟩⟩ pos:=by
 unfold dE;cases hb:Nat.blt (l.getD pos 0).toNat 128 with
 |false=>rfl
 |true=>
  have cE:(l.getD pos 0).toNat < 128:=aar hb;have e:(adY ⟨⟨l⟩⟩ (pos+0))=l.getD pos 0:=by
   simp [adY,h,List.getD_eq_getElem?_getD]
  simp only [cond_true,Utf8.decode,e];rw [if_pos (show (l.getD pos 0).toNat < 0x80 from cE)]
theorem Py (h:bi E R w β s a) (x:Operand) (ho:o.op=.next x true) {s':St} (hv:qi s o.dst (bO E s.ab x)=some s'):cq E R w β s a o s':=by
 have rx:=a6 h x;unfold qi at hv;split at hv
 ·rename_i id hx;rw [hx] at rx;have fK:Rel R w (.ptr id 0) (a.eval x):=rx;generalize jc:a.eval x=xv at fK;cases fK with
  | @ptr _ _ b hb=>
  split at hv
  ·rename_i l pos hg;have q1:w.heap[b]?=some (.stringIter ⟨⟨l⟩⟩ pos):=h.g.obj id _ _ hg hb;have cE:=bK q1;have ol:(getObj b).run E.P w=.ok (.stringIter ⟨⟨l⟩⟩ pos) w:=by simp [getObj,abx,q1]
   have rN:∀ o',(setObj b o').run E.P w=.ok () (World.put w b o'):=fun o'=>by
    simp [setObj,abx,World.put,q1]
   cases oh:Nat.blt pos l.length with
   |true=>
    rw [oh] at hv;have hp:pos < l.length:=aar oh;simp only [cond_true] at hv;generalize E9:dE l pos=p at hv;obtain ⟨c,n⟩:=p;cases hv;rw [LI l pos hp] at E9;obtain ⟨p1,p2⟩:=h.setObj (x':=.stringIter ⟨⟨l⟩⟩ (pos+n)) (go':=.ke l (pos+n)) hb q1 trivial trivial (fun _ e=>by cases e) (ku w b _ cE);have gJ:pos < (⟨⟨l⟩⟩:ByteArray).size:=hp;refine ⟨.value (.tuple #[.bool true,.int .i64 pos,.int .i32 c]),_,_,R,β,?_,.inl rfl,p1.put o.dst (x:=.v (.bW [.bool true,.int .i64 pos,.int .i32 c])) (Rel.bW (vs:=[.bool true,.int .i64 pos,.int .i32 c]) (.cons (.bool _) (.cons (.int _ _) (.cons (.int _ _) .nil)))),by rw [bn]; exact p2⟩;simp [execOp,ho,jc,Instr.next,ol,gJ,E9,rN,goInt]
   |false=>
    rw [oh] at hv;simp only [cond_false] at hv;cases hv;have hp:¬ pos < l.length:=fun hh=>by
     have:Nat.blt pos l.length=true:=Nat.ble_eq_true_of_le hh;rw [oh] at this; cases this
    have gJ:¬ pos < (⟨⟨l⟩⟩:ByteArray).size:=hp;refine ay h (c:=.tuple #[.bool false]) ?_ (Rel.bW (vs:=[.bool false]) (.cons (.bool _) .nil));simp [execOp,ho,jc,Instr.next,ol,gJ]
  ·cases hv
 ·cases hv
theorem fS.get:∀ {es:List (AV × AV)} {aL:List MapEntry} {i:Nat} {e:MapEntry},fS R w es aL→aL[i]?=some e→Rel R w (cP es i).1 e.key∧Rel R w (cP es i).2 e.val
 |[],[],i,e,_,he=>by simp at he
 |(k,v) :: _,en :: _,0,e,h,he=>by
  simp only [acX,adQ] at he;subst he;exact ⟨h.1,h.2.1⟩
 |(_,_) :: es,_ :: aL,i+1,e,h,he=>by
  simp only [ac0] at he;exact fS.get (es:=es) h.2.2 he
 |[],_ :: _,_,_,h,_=>h.elim
 |_ :: _,[],_,_,h,_=>h.elim
theorem LJ (E:Env) (t:TypeId) (e:AV × AV):xP E t e=(true,e.1,e.2)∨∃ pv pk:aM,xP E t e=(pk.fits e.1&&pv.fits e.2,pk.enc (pk.bC e.1),pv.enc (pv.bC e.2)):=by
 unfold xP;split
 ·split
  ·split
   ·rename_i pv pk _ _;exact .inr ⟨pv,pk,rfl⟩
   ·exact .inl rfl
  ·exact .inl rfl
 ·exact .inl rfl
theorem IU {t:TypeId} {e:AV × AV} {x y:Value} (hf:(xP E t e).1=true) (h:Rel R w e.1 x∧Rel R w e.2 y):Rel R w (xP E t e).2.1 x∧Rel R w (xP E t e).2.2 y:=by
 rcases LJ E t e with he|⟨pv,pk,he⟩
 ·rw [he]; exact h
 ·rw [he] at hf ⊢;simp only [aag] at hf;exact ⟨(pk.eM hf.1).jB _ _ _ h.1,(pv.eM hf.2).jB _ _ _ h.2⟩
theorem IV (h:bi E R w β s a) (t:TypeId) (x:Operand) (ho:o.op=.range t x) {i:TI} {kt et:TypeId} {ez:Option AV} {id:Nat} {es:List (AV × AV)} (hi:E.ti t=some i) (hk:i.k=.map kt et ez) (hx:bO E s.ab x=.v (.map id)) (hg:nth s.G id=some (.map es)) :
  cq E R w β s a o ((s.fL (.lD id es.length (List.range es.length) none t)).put o.dst (.v (.ptr s.G.length 0))):=by
 have rx:=a6 h x;rw [hx] at rx;have fK:Rel R w (.map id) (a.eval x):=rx;obtain ⟨kr,u,e1,e2,e3,e4,e5,e6⟩:=dR E hi;rw [hk] at e5;obtain ⟨rfl,ie,g1,g2⟩:=rF e5;generalize jc:a.eval x=xv at fK;cases fK with
 | @map _ b hb=>
 obtain ⟨aL,clock,q1,q2,q3,q4⟩:=h.g.obj id _ _ hg hb;have hlen:=q2.length;have cE:=bK q1;subst q3;have kp:jW (R.add (.bZ w.heap.size)) (w.alloc (.mapIter (some b) aL.size #[] aL.size)) (.lD id es.length (List.range es.length) none t) (.bZ w.heap.size):=by
  refine ⟨b,#[],aL.size,cF hb,?_,fun j hj=>?_,fun j hj=>List.mem_range.1 hj,List.nodup_range,?_,fun i hi=>by cases hi⟩
  ·rw [hlen,abp]; exact heap_alloc_new w _
  ·simp [List.mem_range,hj]
  ·rw [hlen,abp]; exact abO _
 refine ⟨_,.pointer (some ⟨w.heap.size,0,none⟩),w.alloc (.mapIter (some b) aL.size #[] aL.size),R.add (.bZ w.heap.size),β,?_,.inl rfl,(h.oU _ _ (.bZ w.heap.size) (by exact fun _ h=>h) kp).put o.dst (x:=.v (.ptr s.G.length 0)) (Rel.ptr (jy h _)),by rw [bn]; exact eF h _ _ (by exact fun _ h=>h)⟩;have ol:(getObj b).run E.P w=.ok (.map aL aL.size) w:=by simp [getObj,abx,q1]
 simp only [execOp,ho,jc,Instr.range,aaF,run_underlying e2,ol,run_newObj,aas,abu];rfl
theorem mem_erase_iff {l:List Nat} (hn:l.Nodup) (i j:Nat):j∈l.erase i↔j≠i∧j∈l:=hn.mem_erase_iff
theorem bi.drew (h:bi E R w β s a):bi E R w.drew β s a∧Step R w β s.boxes R w.drew β s.boxes:=by
 have e:Ext R w R w.drew:=⟨fun _ _ h=>h,fun _ _ _=>rfl,fun _ ro h=>⟨ro,h,cQ.refl ro⟩,ju.refl w⟩;exact ⟨h.bD e rfl (fun _ _=>rfl) (fun _ _ _ hi=>hi) h.g.wf (fun hd=>acD hd),⟨e,rfl,rfl,rfl,abO _,fun _ _ _=>rfl,fun _ _ ho=>ho,fun _ _ hi _ _=>hi⟩⟩
theorem LL (h:bi E R w β s a) (x:Operand) (ho:o.op=.next x false) {s0:St} {left:List Nat} {g:Nat→Bool × St} (hv:Fz E s o.dst (bO E s.ab x)=some (true,s0,left,g)) :
  (left=[]∧cq E R w β s a o s0)∨∃ i∈left,(g i).1=true→cq E R w β s a o (g i).2:=by
 have rx:=a6 h x;unfold Fz at hv;split at hv
 ·rename_i id hx;rw [hx] at rx;have fK:Rel R w (.ptr id 0) (a.eval x):=rx;generalize jc:a.eval x=xv at fK;cases fK with
  | @ptr _ _ r hr=>
  split at hv
  ·rename_i jR n FR Z5 tt hg;split at hv
   ·rename_i es hm;injection hv with hv; injection hv with h1 hv; injection hv with h2 hv; injection hv with h3 h4;subst h2; subst h3; subst h4;have hn:=of_decide_eq_true h1;obtain ⟨b,seen,c0,m1,m2,m3,m4,m5,m6,_⟩:=h.g.obj id _ _ hg hr;obtain ⟨aL,clock,q1,q2,q3,q4⟩:=h.g.obj jR _ _ hm m1;subst q3;have hlen:=q2.length;have Hi:aL.toList.length=aL.size:=abp;have gJ:aL.size=n:=by omega
    have hold:∀ y∈aL.toList,y.born < n:=fun y hy=>by
     obtain ⟨i,hi,hiy⟩:=adL hy;have:=q4 i y (by rw [aaG hi,hiy]);omega
    rcases run_next_at (P:=E.P) w o.type r b n c0 seen aL aL.size m2 q1 hold m6 with ⟨k1,k2⟩|⟨en,k1,w1,k2,k3⟩
    ·refine .inl ⟨?_,?_⟩
     ·apply List.eq_nil_iff_forall_not_mem.2;intro i hi;have E3:=m4 i hi;have hs:=(m3 i E3).1 hi;have RS:i < aL.toList.length:=by omega
      have ol:aL.toList[i]?=some aL.toList[i]:=aaG RS;have hb:=q4 i _ ol;have gY:aL.toList[i]∈(leftOf aL seen).toList:=by
       unfold leftOf;rw [adM,List.mem_filter];exact ⟨List.getElem_mem _,by rw [hb,hs]; rfl⟩
      have h0:(leftOf aL seen).toList=[]:=List.eq_nil_of_length_eq_zero (by rw [abp]; exact k1);rw [h0] at gY;simp at gY
     ·refine ay h (c:=.tuple #[.bool false]) ?_ (Rel.bW (vs:=[.bool false]) (.cons (.bool _) .nil));simp [execOp,ho,jc,k2]
    ·have gY:en∈aL.toList∧seen.contains en.born=false:=by
      unfold leftOf at k1;rw [adM,List.mem_filter] at k1;exact ⟨k1.1,by simpa using k1.2⟩
     obtain ⟨i,hi,hie⟩:=adL gY.1;have ol:aL.toList[i]?=some en:=by rw [aaG hi,hie]
     have hb:=q4 i en ol;have E3:i < n:=by omega
     have RS:i∈FR:=(m3 i E3).2 (by rw [← hb]; exact gY.2);refine .inr ⟨i,RS,fun tS=>?_⟩
     -- the world, perhaps one draw on
     have hw1:bi E R w1 β s a∧Step R w β s.boxes R w1 β s.boxes:=by
      rcases k2 with rfl|rfl
      ·exact ⟨h,Step.refl _ _ _ _⟩
      ·exact h.drew
     obtain ⟨b8,lI⟩:=hw1;have KV:w1.heap[r]?=some (.mapIter (some b) n seen c0):=by rcases k2 with rfl | rfl <;> exact m2
     have cE:=bK KV;have aeI:(setBlock w1 r (.mapIter (some b) n (seen.push en.born) aL.size))=World.put w1 r (.mapIter (some b) n (seen.push en.born) aL.size):=rfl;have hex:=sX (R:=R) (x':=.mapIter (some b) n (seen.push en.born) aL.size) KV trivial trivial (fun _ e=>by cases e);obtain ⟨p1,p2⟩:=b8.setObj (x':=.mapIter (some b) n (seen.push en.born) aL.size) (go':=.lD jR n (FR.erase i) (some i) tt) hr KV trivial trivial (fun _ e=>by cases e)
      ⟨b,seen.push en.born,aL.size,m1,ku w1 r _ cE,fun j hj=>by
       rw [mem_erase_iff m5,Array.contains_push,m3 j hj,hb];by_cases e:j=i
       ·subst e; simp
       ·have e':¬ i=j:=fun h=>e h.symm
        simp [e,e'],fun j hj=>m4 j (List.mem_of_mem_erase hj),m5.erase i,by omega,fun j hj=>by
       cases hj;exact ⟨by rw [hb]; simp,gJ⟩⟩
     obtain ⟨z1,z2⟩:=IU tS (q2.get ol);have aeJ:=lI.ext.trans p2.ext;refine ⟨.value (.tuple #[.bool true,en.key,en.val]),_,_,R,β,?_,.inl rfl,p1.put o.dst (x:=.v (.bW [.bool true,(xP E tt (cP es i)).2.1,(xP E tt (cP es i)).2.2])) (Rel.bW (vs:=[.bool true,en.key,en.val]) (.cons (.bool _) (.cons (z1.mono aeJ) (.cons (z2.mono aeJ) .nil)))),by rw [bn]; exact lI.trans p2⟩;simp [execOp,ho,jc,k3,aeI]
   ·cases hv
  ·cases hv
 ·cases hv
theorem CX:∀ (l:List MapEntry) (off i:Nat),(∀ (k:Nat) (e:MapEntry),l[k]?=some e→e.born=off+k)→i < l.length→l.find? (fun e=>e.born == off+i)=l[i]?
 |[],_,_,_,h=>by simp at h
 |e :: l,off,0,hs,_=>by
  have:=hs 0 e rfl;simp [this]
 |e :: l,off,i+1,hs,h=>by
  have h0:=hs 0 e rfl;have df:(e.born == off+(i+1))=false:=by simp; omega
  rw [List.find?_cons_of_neg (by simp [df]),ac0];have:=CX l (off+1) i (fun k e' hk=>by have:=hs (k+1) e' (by simpa using hk); omega) (by simpa using h);rw [show off+(i+1)=off+1+i by omega];exact this
theorem wB:∀ (l:List MapEntry) (off i:Nat),(∀ (k:Nat) (e:MapEntry),l[k]?=some e→e.born=off+k)→i < l.length→l.findIdx? (fun e=>(e.born:Int) == ((off+i:Nat):Int))=some i
 |[],_,_,_,h=>by simp at h
 |e :: l,off,0,hs,_=>by
  have:=hs 0 e rfl;simp [List.findIdx?_cons,this]
 |e :: l,off,i+1,hs,h=>by
  have h0:=hs 0 e rfl;have df:((e.born:Int) == ((off+(i+1):Nat):Int))=false:=by simp; omega
  have:=wB l (off+1) i (fun k e' hk=>by have:=hs (k+1) e' (by simpa using hk); omega) (by simpa using h);rw [show off+1+i=off+(i+1) by omega] at this;rw [List.findIdx?_cons,df,this];rfl
theorem nU.bD {aL:Array MapEntry} {clock:Nat} (h:nU aL clock) (n:Nat) {f:MapEntry→MapEntry} (hf:∀ e,(f e).born=e.born):nU (aL.modify n f) clock:=by
 obtain ⟨rfl,h2⟩:=h;refine ⟨by simp,fun i e he=>?_⟩;rw [abw,abz] at he;cases hi:aL.toList[i]? with
 |none=>rw [hi] at he; cases he
 |some e'=>
  rw [hi] at he;have h3:=h2 i e' hi;have he:(if n=i then f e' else e')=e:=abA he;by_cases hn:n=i
  ·rw [if_pos hn] at he;subst he; rw [hf]; exact h3
  ·rw [if_neg hn] at he;subst he; exact h3
theorem fS.ub {v:AV} {c:Value} (hv:Rel R w v c):∀ {es:List (AV × AV)} {aL:List MapEntry} (n:Nat),fS R w es aL→fS R w (ub es n v) (aL.modify n fun e=>{ e with val:=c })
 |[],[],n,_=>by cases n <;> trivial
 |[],_ :: _,_,h=>h.elim
 |_ :: _,[],_,h=>h.elim
 |(_,_) :: _,_ :: _,0,h=>by
  rw [abS];exact ⟨h.1,hv,h.2.2⟩
 |(_,_) :: _,_ :: _,n+1,h=>by
  rw [abY];exact ⟨h.1,h.2.1,fS.ub hv n h.2.2⟩
theorem Yu {e:EK} {k k':AV} (h:(KR e k k').isSome=true):KR e k k'=some (E1 e k k'):=by
 obtain ⟨b,hb⟩:=abJ.1 h;simp only [E1,hb]
theorem IW {e:EK} {k:AV}:∀ {es:List (AV × AV)},cW e k es=true→me e k es=some (ij e k es)
 |[],_=>rfl
 |(k',v) :: es,h=>by
  simp only [cW,aag] at h;simp only [me,ij,Yu h.1];cases hb:E1 e k k' with
  |true=>rfl
  |false=>simp only [cond_false]; exact IW h.2
theorem NS {e:EK} {k v:AV}:∀ {es:List (AV × AV)},cW e k es=true→zS e k v es=some (eu e k v es)
 |[],_=>rfl
 |(k',v') :: es,h=>by
  simp only [cW,aag] at h;simp only [zS,eu,Yu h.1];cases hb:E1 e k k' with
  |true=>rfl
  |false=>simp only [cond_false,NS h.2]
theorem LM (h:bi E R w β s a) (x:Operand) (ho:o.op=.entry x) {v:AV} (hv:zU E s (bO E s.ab x)=some (true,v)):cq E R w β s a o (s.put o.dst (.v v)):=by
 have rx:=a6 h x;unfold zU at hv;split at hv
 ·rename_i id hx;rw [hx] at rx;have fK:Rel R w (.ptr id 0) (a.eval x):=rx;generalize jc:a.eval x=xv at fK;cases fK with
  | @ptr _ _ r hr=>
  split at hv
  ·rename_i jR n FR i tt hg;split at hv
   ·rename_i es hm;injection hv with hv; injection hv with h1 h2;subst h2;rw [aag,aag,decide_eq_true_eq,decide_eq_true_eq] at h1;obtain ⟨⟨hn,hi⟩,tS⟩:=h1;obtain ⟨b,seen,c0,m1,m2,m3,m4,m5,m6,m7⟩:=h.g.obj id _ _ hg hr;obtain ⟨z1,z2⟩:=m7 i rfl;obtain ⟨aL,clock,q1,q2,q3,q4⟩:=h.g.obj jR _ _ hm m1;subst q3;have hlen:=q2.length;have Hi:aL.toList.length=aL.size:=abp;have RS:i < aL.toList.length:=by omega
    have hfd:aL.find? (fun e=>e.born == i)=some aL.toList[i]:=by
     have:=CX aL.toList 0 i (fun k e hk=>by rw [abv]; exact q4 k e hk) RS;rw [abv,aaG RS] at this;rw [← this]; simp
    have ol:aL.toList[i]?=some aL.toList[i]:=aaG RS;obtain ⟨y1,y2⟩:=IU tS (q2.get ol);have hc:aL.size=c0:=by omega
    refine ay h (c:=.tuple #[(aL.toList[i]).key,(aL.toList[i]).val]) ?_ (Rel.bW (vs:=[(aL.toList[i]).key,(aL.toList[i]).val]) (.cons y1 (.cons y2 .nil)));simp [execOp,ho,jc,Instr.entry,getObj,abx,m2,z1,q1,hc,hfd]
   ·cases hv
  ·cases hv
 ·cases hv
theorem Fc (h:bi E R w β s a) (t:TypeId) (x y:Operand) (ho:o.op=.mapEntry t x y) {v:AV} {s':St} (hv:jU E s t (bO E s.ab x) (bO E s.ab y)=some (true,v,s')) :
  cq E R w β s a o (s'.put o.dst (.v v)):=by
 have rx:=a6 h x;have ry:=a6 h y;unfold jU at hv;split at hv
 ·rename_i i id k hi hm hk;rw [hm] at rx;rw [hk] at ry;have fK:Rel R w (.map id) (a.eval x):=rx;have tW:Rel R w k (a.eval y):=ry;split at hv
  ·rename_i kt et z es hik hg;split at hv
   ·rename_i j hj;split at hv
    ·rename_i hc;rw [aag] at hc;injection hv with hv; injection hv with hmk hv; injection hv with h2 h3;subst h2; subst h3;obtain ⟨kr,u,e1,e2,e3,e4,e5,e6⟩:=dR E hi;rw [hik] at e5;obtain ⟨rfl,ie,g1,g2⟩:=rF e5;obtain ⟨d,hu,hD⟩:=NR hj hc.1;generalize jc:a.eval x=xv at fK;cases fK with
     | @map _ b hb=>
     obtain ⟨aL,clock,q1,q2,q3⟩:=h.g.obj id _ _ hg hb;have cE:=bK q1;have UL:(aak false 10000 kt (a.eval y)).run E.P w=.ok () w:=run_checkKey hj hu hD hc.2 tW _;have ol:(getObj b).run E.P w=.ok (.map aL clock) w:=by simp [getObj,abx,q1]
     have rN:∀ o',(setObj b o').run E.P w=.ok () (World.put w b o'):=fun o'=>by
      simp [setObj,abx,World.put,q1]
     have fin:∀ es' o0 mn c (n:Nat),fS R w es' o0.toList→nU o0 mn→(execOp a.eval o).run E.P w=.ok (.value (.tuple #[c,.int .i64 n])) (World.put w b (.map o0 mn))→Rel R w (bS j.ek k z es) c→n=qI j.ek k es→es'=eu j.ek k (bS j.ek k z es) es →
       cq E R w β s a o ((s.bM (aC s.G id (.map (eu j.ek k (bS j.ek k z es) es)))).put o.dst (.v (.bW [bS j.ek k z es,.int .i64 (qI j.ek k es:Nat)]))):=fun es' o0 mn c n k1 k2 k3 k4 k5 k6=>by
      subst k5; subst k6;have hex:=sX (R:=R) (x':=.map o0 mn) q1 trivial trivial (fun _ e=>by cases e);obtain ⟨p1,p2⟩:=h.setObj (x':=.map o0 mn) (go':=.map (eu j.ek k (bS j.ek k z es) es)) hb q1 trivial trivial (fun _ e=>by cases e) ⟨o0,mn,ku w b _ cE,k1.mono hex,k2⟩;exact ⟨.value (.tuple #[c,.int .i64 (qI j.ek k es:Nat)]),_,_,R,β,k3,.inl rfl,p1.put o.dst (x:=.v (.bW [bS j.ek k z es,.int .i64 (qI j.ek k es:Nat)])) (Rel.bW (vs:=[c,.int .i64 (qI j.ek k es:Nat)]) (.cons (k4.mono p2.ext) (.cons (.int _ _) .nil))),by rw [bn]; exact p2⟩
     have hmf:=IW hmk;have Li:=NS (v:=bS j.ek k z es) hmk;cases UI:ij j.ek k es with
     |none=>
      rw [UI] at hmf;have hgz:bS j.ek k z es=z:=by unfold bS; rw [UI]; rfl
      obtain ⟨c,k1,k2⟩:=IS (R:=R) (w:=w) g1 g2;have KU:(aah kt (a.eval y) aL.toList).run E.P w=.ok none w:=yj hj hu hD tW q2 hmf;rcases xi hj hu hD tW (show Rel R w (bS j.ek k z es) c by rw [hgz]; exact k2) q2 Li with ⟨_,k3,k4⟩|⟨n,c',k3,_⟩
      ·have gJ:aL.toList.length=aL.size:=abp;have lE:clock=aL.size:=q3.1;refine fin _ (aL.push { key:=a.eval y,val:=c,born:=clock }) (clock+1) c clock (by rw [acJ]; exact k4 clock) (q3.push _ _) ?_ (by rw [hgz]; exact k2) (by rw [k3]; omega) rfl;simp [execOp,ho,Instr.mapEntry,jc,run_underlying e2,ol,UL,KU,rN,k1,goInt]
      ·rw [KU] at k3;cases k3
     |some v0=>
      rw [UI] at hmf;have hgz:bS j.ek k z es=v0:=by unfold bS; rw [UI]; rfl
      obtain ⟨n0,c0,k1,k2⟩:=yk hj hu hD tW q2 hmf;have KU:(aah kt (a.eval y) aL.toList).run E.P w=.ok (some (n0,c0)) w:=k1;rcases xi hj hu hD tW (show Rel R w (bS j.ek k z es) c0 by rw [hgz]; exact k2) q2 Li with ⟨k3,_⟩|⟨n,c',k3,⟨k4,en,k5,k6,k7⟩,k8⟩
      ·rw [KU] at k3;cases k3
      ·rw [KU] at k3;cases k3;have hen:aL[n0]?=some en:=by rw [← acy]; exact k5
       have CN:(abK (a.eval y) (a.eval y)).run E.P w=.ok (a.eval y) w:=by simp [abK,uu hc.2 tW]
       have aeL:en.born=n0:=q3.2 n0 en k5;have aiv:(aL.modify n0 fun e=>{ e with key:=a.eval y }).toList=aL.toList.modify n0 fun e=>{ e with key:=a.eval y,val:=c0 }:=by
        rw [abw];apply List.ext_getElem?;intro m;rw [abz,abz];by_cases U9:n0=m
        ·subst U9;rw [k5];simp [k7]
        ·simp [U9]
       refine fin _ (aL.modify n0 fun e=>{ e with key:=a.eval y }) clock c0 n0 (by rw [aiv]; exact k8) (q3.bD n0 fun _=>rfl) ?_ (by rw [hgz]; exact k2) k4 rfl;simp [execOp,ho,Instr.mapEntry,jc,run_underlying e2,ol,UL,KU,rN,hen,k6,CN,aeL,goInt]
    ·cases hv
   ·cases hv
  ·cases hv
 ·cases hv
theorem BO (h:bi E R w β s a) (t:TypeId) (x y z:Operand) (ho:o.op=.entryStore t x y z) (hd:o.dst=none) {s':St} (hv:gU s (bO E s.ab x) (bO E s.ab y) (bO E s.ab z)=some (true,s')) :
  cq E R w β s a o s':=by
 have rx:=a6 h x;have ry:=a6 h y;have rz:=a6 h z;unfold gU at hv;split at hv
 ·rename_i id n v hm hk hz;rw [hm] at rx;rw [hk] at ry;rw [hz] at rz;have fK:Rel R w (.map id) (a.eval x):=rx;have tW:Rel R w (.int .i64 n) (a.eval y):=ry;have rz':Rel R w v (a.eval z):=rz;split at hv
  ·rename_i es hg;injection hv with hv; injection hv with hc h2;subst h2;rw [aag,decide_eq_true_eq,decide_eq_true_eq] at hc;obtain ⟨m,rfl⟩:∃ m:Nat,n=m:=⟨n.toNat,by omega⟩;have hml:m < es.length:=by simpa using hc.2
   generalize jc:a.eval x=xv at fK;generalize hyv:a.eval y=yv at tW;cases tW;cases fK with
   | @map _ b hb=>
   obtain ⟨aL,clock,q1,q2,q3⟩:=h.g.obj id _ _ hg hb;have cE:=bK q1;have hlen:=q2.length;have ol:(getObj b).run E.P w=.ok (.map aL clock) w:=by simp [getObj,abx,q1]
   have rN:∀ o',(setObj b o').run E.P w=.ok () (World.put w b o'):=fun o'=>by
    simp [setObj,abx,World.put,q1]
   have hfi:aL.findIdx? (fun e=>(e.born:Int) == (m:Int))=some m:=by
    have:=wB aL.toList 0 m (fun k e hk=>by rw [abv]; exact q3.2 k e hk) (by omega);rw [abv] at this;rw [← this];obtain ⟨l⟩:=aL;exact List.findIdx?_toArray ..
   have k1:fS R w (ub es m v) (aL.modify m fun e=>{ e with val:=a.eval z }).toList:=by rw [abw]; exact fS.ub rz' m q2
   have hex:=sX (R:=R) (x':=.map (aL.modify m fun e=>{ e with val:=a.eval z }) clock) q1 trivial trivial (fun _ e=>by cases e);obtain ⟨p1,p2⟩:=h.setObj (x':=.map (aL.modify m fun e=>{ e with val:=a.eval z }) clock) (go':=.map (ub es m v)) hb q1 trivial trivial (fun _ e=>by cases e) ⟨_,clock,ku w b _ cE,k1.mono hex,q3.bD m fun _=>rfl⟩;refine ⟨.skip,undef,_,R,β,?_,.inr ⟨rfl,rfl⟩,?_,p2⟩
   ·simp [execOp,ho,Instr.entryStore,jc,hyv,ol,asInt,asIntOf,hfi,rN]
   ·rw [hd];exact p1
  ·cases hv
 ·cases hv
end maps
end Go.Am
namespace Go.Am
open Go
section ops
variable {E:Env} {R:aj} {w:World} {β:Nat→Nat} {s:St} {a:Act} {o:Oper}
theorem Hj (h:bi E R w β s a) (t u:TypeId) (x:Operand) (ho:o.op=.convert t u x) {v:AV} (hc:ua E s t u (bO E s.ab x)=some (true,v)) :
  cq E R w β s a o (s.put o.dst (.v v)):=by
 unfold ua at hc;cases hc
theorem qO (h:bi E R w β s a) (x:Operand) (ho:o.op=.nilCheck x) {y:SV} (hx:bO E s.ab x=y) (hy:(∃ id off,y=.v (.ptr id off))∨(∃ k off,y=.lp k off)∨∃ cs,y=.v (.ep cs)) :
  cq E R w β s a o (s.put o.dst y):=by
 have rx:=a6 h x;rw [hx] at rx;rcases hy with ⟨id,off,rfl⟩|⟨k,off,rfl⟩|⟨cs,rfl⟩
 ·have fK:Rel R w (.ptr id off) (a.eval x):=rx;generalize jc:a.eval x=xv at fK;cases fK with
  | @ptr _ _ b hb=>
  refine ay h (c:=.pointer (some ⟨b,off,none⟩)) ?_ (Rel.ptr hb);simp [execOp,ho,jc]
 ·refine ⟨_,_,w,R,β,?_,.inl rfl,h.put o.dst rx,by rw [bn]; exact Step.refl _ _ _ _⟩;have jc:a.eval x=.pointer (some ⟨β k,off,none⟩):=rx;simp [execOp,ho,jc]
 ·have fK:Rel R w (.ep cs) (a.eval x):=rx;generalize jc:a.eval x=xv at fK;cases fK with
  | @ep _ b off hb=>
  refine ay h (c:=.pointer (some ⟨b,off,none⟩)) ?_ (Rel.ep hb);simp [execOp,ho,jc]
end ops
end Go.Am
namespace Go.Am
open Go
section
variable {E:Env} {R R':aj} {w w':World} {β β':Nat→Nat} {s s':St} {a a':Act} {o:Oper}
theorem IX {e:EK} {k:AV}:∀ {es:List (AV × AV)},cW e k es=true→me e k es=some (ij e k es)
 |[],_=>rfl
 |(k',v) :: l,h=>by
  simp only [cW,aag] at h;obtain ⟨b,hb⟩:=abJ.1 h.1;simp only [me,ij,E1,hb];cases b
  ·simp only [cond_false]; exact IX h.2
  ·rfl
theorem LN {f:FuncId} (h:bi E R w β s a) (hs:kR E f s o=some (true,s')):cq E R w β s a o s':=by
 unfold kR at hs;cases hs
theorem IY {f:FuncId} (h:bi E R w β s a) (hs:wS E f s o=some (true,s')):cq E R w β s a o s':=by
 unfold wS at hs;split at hs
 ·split at hs
  ·split at hs
   ·rename_i t m kx ok ho;split at hs
    ·rename_i e sz p i id k he hi hm hk;split at hs
     ·rename_i kt et szz es hik hid;split at hs
      ·rename_i j p9 hj RR;split at hs
       ·rename_i hc;injection hs with hs; injection hs with NN hs;subst hs;rw [aag] at NN;obtain ⟨fs,G9,_⟩:=sV RR;rw [adN] at G9;have hfs:oS s.G p9=fs:=by simp only [oS,G9]
        rw [hfs] at NN ⊢;have cE:=bl G9;rw [← h.g.len] at cE;obtain ⟨ro,bu⟩:∃ ro,nth R.obj p9=some ro:=⟨R.obj[p9],by rw [aV]; exact aaG cE⟩;obtain ⟨ts,rfl,z1,z2,z3⟩:=h.LA G9 (nfs:=[0]) (nts:=[.bj]) rfl (fun j f t h1 h2=>by
         cases j with
         |zero=>simp only [nth] at h1 h2; cases h1; cases h2; exact rfl
         |succ j=>simp [nth] at h1) (fun j f b c hj=>by
         cases j with
         |zero=>simp only [nth] at hj; cases hj
         |succ j=>simp [nth] at hj) bu
        have df:p9≠id:=fun e=>by subst e; rw [G9] at hid; cases hid
        have hmo:mapOf (s.bM (aC s.G p9 (.aY (fs++[0]) sz e))) (.v (.map id))=some es:=by
         simp only [mapOf,St.bM];rw [aX df,hid]
        have A6:mU E (s.bM (aC s.G p9 (.aY (fs++[0]) sz e))) t (bO E (s.bM (aC s.G p9 (.aY (fs++[0]) sz e))).ab m) (bO E (s.bM (aC s.G p9 (.aY (fs++[0]) sz e))).ab kx)=some ((ij j.ek k es).getD (.list .nil szz []),(ij j.ek k es).isSome):=by
         rw [show bO E (s.bM (aC s.G p9 (.aY (fs++[0]) sz e))).ab m=.v (.map id) from hm,show bO E (s.bM (aC s.G p9 (.aY (fs++[0]) sz e))).ab kx=.v k from hk];unfold mU;simp only [hi,hmo,hik,hj,hc,if_true,IX NN.1];cases ij j.ek k es <;> rfl
        refine cq.step (R':=R.reset p9 (.aY (ts++[.bj]))) rfl z3 ?_;refine cq.NM (sZ z2 t m kx ok ho A6) (fun R' w' ex c vu=>?_);have key:∀ c,Rel R' w' ((ij j.ek k es).getD (.list .nil szz [])) c→Rel R' w' ((aM.aY p9 sz p).enc ((aM.aY p9 sz p).bC (bS j.ek k (.list (.aY p9 fs.length) sz []) es))) c:=fun c hc=>by
         refine ((aM.aY p9 sz p).eM NN.2).jB _ _ _ ?_;unfold bS;cases hg:ij j.ek k es with
         |some x=>rw [hg] at hc; exact hc
         |none=>
          rw [hg] at hc;obtain ⟨nT,q1,q2⟩:=ex.obj p9 _ (au bu);have hn:wT (.aY (ts++[.bj])):=trivial;have hc:Rel R' w' (.list .nil szz []) c:=hc;cases hc with
          |lY=>exact .qa q1 (hn.mono q2)
          |list _ _ _ hk=>exact hk.elim
        cases ok with
        |false=>exact key c vu
        |true=>
         have vu:Rel R' w' (.bW [(ij j.ek k es).getD (.list .nil szz []),.bool (ij j.ek k es).isSome]) c:=vu;cases vu with
         |bW h1=>
         cases h1 with
         |cons h1 h2=>exact Rel.bW (.cons (key _ h1) h2)
       ·cases hs
      ·cases hs
     ·cases hs
    ·cases hs
   ·cases hs
  ·cases hs
 ·cases hs
theorem LO {f:FuncId} (h:bi E R w β s a) (hs:A2 E f s o=some (true,s')):cq E R w β s a o s':=by
 unfold A2 at hs;split at hs
 ·rename_i r hr;cases hs;exact RL h hr
 ·exact IY h hs
end
end Go.Am
namespace Go.Am
open Go
section ops
variable {E:Env} {R:aj} {w:World} {β:Nat→Nat} {s:St} {a:Act} {o:Oper}
theorem bi.setRow (h:bi E R w β s a) {id b:Nat} {cs ig:List AV} {vs us:List Value} {el:TypeId} (hk:nth s.G id=some (.row cs el)) (hb:nth R.obj id=some (.bZ b)) (hw:w.heap[b]?=some (.cells ⟨vs⟩ el (0,0)))
  (hr:aQ R w ig us) (h1:∀ v∈us,v.oneCell'=true):bi E R (w.setRow b ⟨us⟩) β (s.bM (aC s.G id (.row ig el))) a∧Step R w β s.boxes R (w.setRow b ⟨us⟩) β s.boxes:=by
 obtain ⟨vs',b1,b2,b3,b4⟩:=h.g.obj id _ _ hk hb;have hex:=kK (R:=R) (w:=w) b4 ⟨us⟩;refine ⟨⟨⟨by simp [St.bM,h.g.len],fun mc go ro hg mW=>?_,h.g.inj,fun b' o' sQ=>by have:=h.g.wf b' o' sQ; simp; omega,fun g ig hg=>(h.g.ft g ig hg).mono hex,by first | exact h.g.lo | exact acD h.g.lo⟩,?_,h.t.mono hex,h.n,h.d⟩,?_⟩
 ·rcases cJ hg with ⟨rfl,rfl,_⟩|⟨df,Il⟩
  ·rw [hb] at mW;cases mW;exact ⟨_,setRow_heap w _ _ _ _ (0,0) hw,hr.mono hex,h1,b4⟩
  ·refine (h.g.obj mc go ro Il mW).mono hex (fun b' oh=>setRow_other w _ b' _ (fun e=>df ?_)) (fun _ _ _ hi=>hi);subst e;exact h.g.inj id mc _ _ b' hb mW rfl oh
 ·exact h.b.bD hex (fun k ig ly=>setRow_other w _ _ _ (h.Lg hb ly)) (fun _ _ _ _ hi=>hi) (fun _ _ _ hl=>hl)
 ·have wW:Own R β s.boxes b:=.inl ⟨id,_,hb,rfl⟩;exact ⟨hex,rfl,rfl,rfl,by simp,fun b' _ hn=>setRow_other w _ b' _ (fun e=>hn (e ▸ wW)),fun _ _ hb=>hb,fun b o hi _ _=>hi⟩
theorem Pz (h:bi E R w β s a) {args:Array Operand} {t:TypeId} {tl:List TypeId} (ho:o.op=.call { callee:=.builtin .copy,args:=args,argTypes:=⟨t :: tl⟩ }) {d x:AV}
  (hl:rk E s.ab args.toList=some [d,x]) {i:TI} (hi:E.ti t=some i) {elem esz eb:Nat} {ag:Bool} {z:Option AV} (hk:i.k=.sl elem esz ag eb z) {n:Nat} {G':List GO} (hc:Iz s esz d x=some (n,G')) :
  cq E R w β s a o ((s.bM G').put o.dst (.v (.int .i64 n))):=by
 unfold Iz at hc;cases hc
theorem LP (h:bi E R w β s a) {args:Array Operand} {t:TypeId} (ho:o.op=.call { callee:=.builtin .clear,args:=args,argTypes:=#[t] }) (hd:o.dst=none) {id f' off sz len:Nat}
  (hl:rk E s.ab args.toList=some [.ey id f' off sz len]) {i:TI} (hi:E.ti t=some i) {elem esz eb:Nat} {ag:Bool} {z:AV} (hk:i.k=.sl elem esz ag eb (some z)) {es:List AV} {el:TypeId} (hg:nth s.G id=some (.da es sz el))
  (gJ:sz=esz) (mN:el=elem) (hz:z.cells.length=esz) (rH:z.ba=true) (sU:z.closed=true) (QS:f'=es.length) (RK:off+len≤es.length) :
  cq E R w β s a o (s.bM (aC s.G id (.da (eC es off (abt len z)) sz el))):=by
 have hr:=j3 h hl;generalize hv:args.toList.map a.eval=vs at hr;have hx:=gX (E:=E) (w:=w) ho vs hv;cases hr with
 | @cons _ cd _ _ h0 h1=>
 cases h1;obtain ⟨kr,ud,e1,e2,e3,e4,e5,e6⟩:=dR E hi;rw [hk] at e5;obtain ⟨ie,ue,rfl,f1,f2,f3,f4,f5,f6⟩:=fT e5;obtain ⟨zc,aiw,Im⟩:=eT f6;have jI:∀ {c:Value} {w':World},(abL #[t] o.type #[cd]).run E.P w=.ok c w'→(execOp a.eval o).run E.P w=.ok (.value c) w':=fun hh=>by
  rw [hx];simp only [builtin,aaF,hh,aas,abu]
 subst gJ; subst mN;by_cases QO:len=0
 ·subst QO;have aeM:∃ base cap,cd=.slice base 0 cap:=by
   cases h0 with
   |mh=>exact ⟨_,_,rfl⟩
   |ey=>exact ⟨_,_,rfl⟩
  obtain ⟨base,cap,rfl⟩:=aeM;have bL:(abL #[t] o.type #[.slice base 0 cap]).run E.P w=.ok (.tuple #[]) w:=by
   cases base <;> simp [abL,run_underlying e2]
  have hG:s.bM (aC s.G id (.da (eC es off (abt 0 z)) sz el))=s:=by
   rw [List.replicate_zero,gQ _ _ _ (by simpa using RK)];simp only [List.append_nil,List.length_nil,Nat.add_zero,List.take_append_drop];rw [xS hg];rfl
  rw [hG];have:=ay (s:=s) (sv:=.v (.bW [])) h (jI bL) (Rel.bW (R:=R) (w:=w) .nil);rw [hd] at this;exact this
 ·cases h0 with
  |mh=>exact absurd rfl QO
  | @ey _ _ _ _ _ cap b o' ro bu fQ jZ=>
  obtain ⟨b',c',cur,vs,rfl,g1,g2,g3,g4,g5,g6,g7,g8,g9⟩:=vw h.g hg bu (fun k=>by subst k; exact fQ);obtain ⟨rfl,NN,Aj⟩:=fQ.2 QS;have wX:o'=off * sz:=by
   rcases Aj with Aj|Aj
   ·exact Aj
   ·omega
  subst wX;obtain ⟨z1,z2⟩:=rI (Im R w) rH len;have hzl:zc.cells.size=sz:=by rw [← hz,(Rel.cells (Im R w) rH).1.length]; simp
  have om:(adR zc.cells len).toList=(abt len zc.cells.toList).flatten:=by
   simpa [adR] using uk zc.cells len
  have NL:((abt len zc.cells.toList).flatten).length=len * sz:=by rw [← z1.length,fG (gu hz rH sU),ac8]
  have Io:es.length * sz≤cur.toList.length:=by
   rw [show cur.toList.length=cur.size from abp,g5];exact ade _ g3
  have hle:off * sz+len * sz≤es.length * sz:=by rw [← Nat.add_mul]; exact ade _ RK
  have lI:=run_storeCells_at (P:=E.P) b (off * sz) el (abt len zc.cells.toList).flatten 0 ⟨cur.toList⟩ w g2 (by rw [NL]; simp only [List.size_toArray]; omega) z2;simp only [Nat.add_zero] at lI;have bL:(abL #[t] o.type #[.slice (some ⟨b,off * sz,none⟩) len cap]).run E.P w=.ok (.tuple #[]) (w.setRow b ⟨cur.toList.take (off * sz)++(abt len zc.cells.toList).flatten++cur.toList.drop (off * sz+((abt len zc.cells.toList).flatten).length)⟩):=by
   obtain ⟨m,rfl⟩:∃ m,len=m+1:=⟨len - 1,by omega⟩;simp only [abL];simp [run_underlying e2,ks w f1 aiw,om,lI]
  obtain ⟨r1,r2⟩:=h.Vl (off:=off) (ns:=abt len z) hg bu g2 g1 g3 g5 g7 g8 g9 (by rw [ac8]; exact RK) (gu hz rH sU).g z1 z2;exact ⟨_,.tuple #[],_,R,β,jI bL,.inl rfl,by rw [hd]; exact r1,r2⟩
def aj.all (R:aj) (b:Nat):aj:=⟨fun b' o=>R.I b' o∨b'=b,R.obj⟩
theorem ym (R:aj) (w:World) (b:Nat):Ext R w (R.all b) w:=⟨fun _ _ h=>.inl h,fun _ _ _=>rfl,fun _ ro h=>⟨ro,h,cQ.refl ro⟩,ju.refl w⟩
theorem il.freeze {G:List GO} (h:il E R w G) {id b:Nat} {ro:RO} (bu:nth R.obj id=some ro) (hb:ro.has b) (aeN:jW (R.all b) w .dead ro):il E (R.all b) w (aC G id .dead):=by
 have e:=ym R w b;have cE:=h.cC ⟨id,ro,bu,hb⟩;refine ⟨by show R.obj.length=_; rw [gV]; exact h.len,fun mc go nT q1 q2=>?_,h.inj,fun b' o ho=>?_,fun g cs BG=>(h.ft g cs BG).mono e,h.lo⟩
 ·rcases cJ q1 with ⟨rfl,rfl,_⟩|⟨df,q1⟩
  ·have:nT=ro:=abA (q2.symm.trans bu);subst this;exact aeN
  ·refine (h.obj mc go nT q1 q2).mono e (fun _ _=>rfl) (fun b' o oh ho=>?_);rcases ho with ho|ho
   ·exact ho
   ·subst ho;exact absurd (h.inj id mc _ _ b' bu q2 hb oh) df
 ·rcases ho with ho|ho
  ·exact h.wf b' o ho
  ·subst ho; exact cE
theorem uw:∀ {l:List AV} {x:AV},aZ l=true→x∈l→x.closed=true
 |[],_,_,h=>by simp at h
 |a :: l,x,h,hx=>by
  simp only [aZ,aag] at h;rcases List.mem_cons.1 hx with rfl|hx
  ·exact h.1
  ·exact uw h.2 hx
theorem yn:∀ l r:List AV,qg (l++r)=qg l++qg r
 |[],_=>rfl
 |a :: l,r=>by simp only [List.cons_append,qg,yn l r]
theorem yo:∀ l:List AV,(qg l).length=l.length
 |[]=>rfl
 |a :: l=>by simp only [qg,List.length_cons,yo l]
theorem CY (e:AV):e.jB.cells=qg e.cells:=by
 cases e with
 |list k sz es=>cases k <;> simp only [AV.jB,AV.cells,qg]
 |_=>simp only [AV.jB,AV.cells,qg]
theorem IZ (e:AV):e.jB.ba=e.ba:=by
 cases e with
 |list k sz es=>cases k <;> simp only [AV.jB,AV.ba]
 |_=>simp only [AV.jB,AV.ba]
theorem Bb:∀ es:List AV,aE (es.map AV.jB)=qg (aE es)
 |[]=>rfl
 |e :: es=>by simp only [List.map_cons,aE,CY,Bb es,yn]
theorem Vp {wk:Bool} {es:List AV} {vs:List Value} (h:aQ R w (aE es) vs):aQ R w (aE (FC wk es)) vs:=by
 cases wk with
 |false=>exact h
 |true=>
  show aQ R w (aE (es.map AV.jB)) vs;rw [Bb];exact h.jB
theorem LQ (wk:Bool) (es:List AV):(FC wk es).length=es.length:=by
 cases wk
 ·rfl
 ·exact List.length_map _
theorem RT (wk:Bool) (n:Nat) (es:List AV):FC wk (es.take n)=(FC wk es).take n:=by
 cases wk
 ·rfl
 ·exact List.map_take
theorem NT (wk:Bool):FC wk []=[]:=by cases wk <;> rfl
theorem RU {wk:Bool} {sz:Nat} {es:List AV} (h:ga sz es) (hc:aZ (FC wk es)=true):jF sz (FC wk es):=by
 cases wk with
 |false=>exact fun x hx=>⟨(h x hx).1,(h x hx).2,uw hc hx⟩
 |true=>
  intro x hx;refine ⟨?_,?_,uw hc hx⟩
  ·obtain ⟨y,hy,rfl⟩:=List.mem_map.1 hx;rw [CY,yo];exact (h y hy).1
  ·obtain ⟨y,hy,rfl⟩:=List.mem_map.1 hx;rw [IZ];exact (h y hy).2
theorem pd {wk:Bool} {G:List GO} (h:il E R w G) {id f sz len:Nat} {es:List AV} {el:TypeId} (hid:nth G id=some (.da es sz el)) (hf:f=es.length) (hl:len≤es.length) (lE:aZ (FC wk es)=true) {ro:RO} (bu:nth R.obj id=some ro) :
  ∃ R',il E R' w (aC G id .dead)∧Ext R w R' w∧R'.obj=R.obj∧(∀ b o,R'.I b o→R.I b o∨ro.has b)∧∀ c,Rel R w (.ey id f 0 sz len) c→Rel R' w (.list .iu sz (FC wk (es.take len))) c:=by
 by_cases hn:ro=.bj
 ·subst hn;have he:es=[]:=h.obj id _ _ hid bu;subst he;refine ⟨R,?_,Ext.refl R w,rfl,fun _ _ hi=>.inl hi,fun c hc=>?_⟩
  ·refine ⟨by rw [gV]; exact h.len,fun mc go nT q1 q2=>?_,h.inj,h.wf,h.ft,h.lo⟩;rcases cJ q1 with ⟨rfl,rfl,_⟩|⟨df,q1⟩
   ·have:nT=.bj:=abA (q2.symm.trans bu);subst this;trivial
   ·exact h.obj mc go nT q1 q2
  ·rw [List.take_nil,NT];cases hc with
   |mh=>exact .lZ
   |ey h1 h2 _=>
    rw [bu] at h1;cases h1;exact h2.elim
 ·obtain ⟨b,c',cur,vs,rfl,g0,g2,g3,g4,g5,g6,g7,g8,g9⟩:=vw h hid bu hn;have g1:jF sz (FC wk es):=RU g0 lE;have e:=ym R w b;refine ⟨R.all b,h.freeze bu rfl (bK g2),e,rfl,fun b' o hi=>?_,fun c hc=>?_⟩
  ·rcases hi with hi|rfl
   ·exact .inl hi
   ·exact .inr rfl
  ·cases hc with
   |mh h1 h2=>
    rw [bu] at h1;cases h1;simp only [sN] at h2;omega
   | @ey _ _ _ _ _ cap b1 o1 _ h1 h2 h3=>
    rw [bu] at h1;cases h1;obtain ⟨rfl,k2,k3⟩:=h2.2 hf;by_cases Ac:len=0
    ·subst Ac;rw [List.take_zero,NT];exact Rel.list .nil rfl h3 trivial
    rw [RT];refine Rel.list (zZ len (oJ g1 (ik.make ((Vp g7).mono e) g8 (fun j v hj=>?_) (fun j hj=>.inr rfl)))) (by rw [List.length_take,LQ,Nat.min_eq_left hl]) h3 trivial;have ho:o1=0:=by
     rcases k3 with k3|k3
     ·rw [k3,Nat.zero_mul]
     ·omega
    subst ho;rw [abv,cell_of_row w b1 j cur el (0,0) g2];rw [← g9,List.getElem?_take] at hj;split at hj
    ·rw [← acy]; exact hj
    ·cases hj
theorem LR (s:St) (p x:SV):wR s p x=(true,x,s.G)∨∃ id1 f1 i1 t1 id f sz len es bP el,p=.v (.gp id1 f1 i1 0 1 t1)∧x=.v (.ey id f 0 sz len)∧nth s.G id=some (.da es bP el) ∧
  wR s p x=(decide (f=es.length)&&decide (len=es.length)&&Nat.beq sz bP&&aZ es,.v (.list .iu sz es),aC s.G id .dead):=by
 unfold wR;split
 ·rename_i id1 f1 i1 t1 id f sz len;split
  ·rename_i es bP el hid;exact .inr ⟨id1,f1,i1,t1,id,f,sz,len,es,bP,el,rfl,rfl,hid,rfl⟩
  ·exact .inl rfl
 ·exact .inl rfl
theorem I0 (h:bi E R w β s a) (t:TypeId) (p x:Operand) (ho:o.op=.store t p x) (hd:o.dst=none) {s':St} (hs:nS E s t (bO E s.ab p) (bO E s.ab x)=some (true,s')) :
  cq E R w β s a o s':=by
 unfold nS at hs;split at hs
 ·rename_i c s1 lI;injection hs with hs; injection hs with hc hs;subst hs;rw [aag] at hc;obtain ⟨Vq,rfl⟩:=hc;rcases LR s (bO E s.ab p) (bO E s.ab x) with e|⟨id1,f1,i1,t1,id,f,sz,len,es,bP,el,hp,hx,hid,e⟩
  ·rw [e] at lI;exact IK h t p x ho hd lI
  ·rw [e] at lI Vq;simp only [aag,decide_eq_true_eq] at Vq;obtain ⟨⟨⟨G9,hle⟩,gJ⟩,lE⟩:=Vq;have gJ:=aaa gJ;subst gJ;have rx:=a6 h x;rw [hx] at rx;have k2:Rel R w (.ey id f 0 sz len) (a.eval x):=rx;obtain ⟨ro,bu⟩:∃ ro,nth R.obj id=some ro:=by
    have k3:=k2;generalize a.eval x=c0 at k3;cases k3 with
    |mh q _=>exact ⟨_,q⟩
    |ey q _ _=>exact ⟨_,q⟩
   obtain ⟨R',r1,r2,r3,r4,r5⟩:=pd (wk:=false) h.g hid G9 (adP hle) lE bu;have Vr:∀ k cs,fh s.boxes k=some cs→¬ ro.has (β k):=fun k cs hk e=>(h.b.box k cs hk).2.2 ⟨id,ro,bu,e⟩
   have zV:∀ b,Live R' b→Live R b:=fun b ⟨i,r,l1,l2⟩=>⟨i,r,by rw [← r3]; exact l1,l2⟩
   have h':bi E R' w β (s.bM (aC s.G id .dead)) a:=⟨r1,h.b.bD r2 (fun _ _ _=>rfl) (fun k cs o hk hi=>(r4 _ o hi).resolve_right (Vr k cs hk)) (fun k cs hk hl=>zV _ hl),h.t.mono r2,h.n,h.d.mono r2⟩;have aix:Step R w β s.boxes R' w β s.boxes:=⟨r2,rfl,rfl,rfl,abO _,fun _ _ _=>rfl,fun b hb ho=>ho.imp (zV b) (fun q=>q),fun b o hi hb hn=>(r4 b o hi).resolve_right fun q=>hn (.inl ⟨id,ro,bu,q⟩)⟩;have r6:=r5 _ k2;rw [hle,acU] at r6;exact cq.step rfl aix (ye h' t p x ho hd hp (x':=.v (.list .iu sz es)) r6 (by rw [hp] at lI; exact lI))
 ·cases hs
theorem I1 {f:FuncId} {s':St} (h:bi E R w β s a) (hs:aq E f s o=some (true,s')):cq E R w β s a o s':=by
 unfold aq at hs;split at hs
 ·rename_i x ho;split at hs
  ·rename_i y hy;cases hs;exact oG h x (.inl ho) hy
  ·rename_i k off hy;cases hs;exact oG h x (.inl ho) hy
  ·rename_i hy;cases hs;exact oG h x (.inl ho) hy
 ·rename_i x ho;split at hs
  ·rename_i y hy;cases hs;exact oG h x (.inr ho) hy
  ·rename_i k off hy;cases hs;exact oG h x (.inr ho) hy
  ·rename_i hy;cases hs;exact oG h x (.inr ho) hy
 ·rename_i c x y ho;split at hs
  ·rename_i t p q h1 h2 h3;cases hs;exact Pg h c x y ho h1 h2 h3
  ·cases hs
 ·rename_i t ho;split at hs
  ·rename_i i hi;split at hs
   ·rename_i z hz;split at hs
    ·rename_i hn;exact Lj h t ho hi hz hn hs
    ·cases hs
   ·cases hs
  ·cases hs
 ·rename_i t x ho;split at hs
  ·rename_i v hv;split at hs
   ·rename_i hn;exact Rn h t x ho hv hn hs
   ·cases hs
  ·cases hs
 ·rename_i t parts ho;split at hs
  ·rename_i v hv;cases hs;exact Lq h t parts ho hv
  ·cases hs
 ·rename_i t len parts ho;split at hs
  ·rename_i v hv;cases hs;exact BF h t len parts ho hv
  ·cases hs
 ·rename_i t x ho;split at hs
  ·rename_i c v hv;injection hs with hs; injection hs with h1 h2;subst h1; subst h2;exact Lw h t x ho hv
  ·cases hs
 ·rename_i t p x ho;split at hs
  ·rename_i c He hd lI;injection hs with hs; injection hs with h1 h2;subst h1; subst h2;exact I0 h t p x ho hd lI
  ·cases hs
 ·rename_i op t x y u ho;split at hs
  ·rename_i p q hx hy;split at hs
   ·rename_i c v hv;injection hs with hs; injection hs with h1 h2;subst h1; subst h2;exact Lo h op t u x y ho hx hy hv
   ·rename_i hb;split at hs
    ·rename_i r hr;injection hs with hs; injection hs with h1 h2;subst h2;exact Rq h op t u x y ho hx hy hb hr
    ·split at hs
     ·rename_i r hr;injection hs with hs; injection hs with h1 h2;subst h2;exact Po h op t u x y ho hx hy hr
     ·cases hs
  ·cases hs
 ·rename_i op t x ho;split at hs
  ·rename_i b hx;cases hs;exact Rr h t x ho hx
  ·rename_i k n hx;cases hs;exact Rs h t x ho hx
  ·cases hs
 ·rename_i t u x ho;split at hs
  ·rename_i c v hc;injection hs with hs; injection hs with h1 h2;subst h1; subst h2;exact Hj h t u x ho hc
  ·cases hs
 ·rename_i x ho;split at hs
  ·rename_i id off hx;cases hs;exact qO h x ho hx (.inl ⟨_,_,rfl⟩)
  ·rename_i cs hx;cases hs;exact qO h x ho hx (.inr (.inr ⟨_,rfl⟩))
  ·rename_i k off hx;cases hs;exact qO h x ho hx (.inr (.inl ⟨_,_,rfl⟩))
  ·cases hs
 ·rename_i g x y ho;split at hs
  ·rename_i p q hp hq;cases hs;exact E7 h g x y ho hp hq
  ·cases hs
 ·rename_i t x j ho;split at hs
  ·rename_i q hq;cases hs;exact CF h t x j ho hq
  ·cases hs
 ·rename_i t x j ho;split at hs
  ·rename_i v hv;cases hs;exact Lm h t x j ho hv
  ·cases hs
 ·rename_i t x ix ho;split at hs
  ·rename_i c q hq;injection hs with hs; injection hs with h1 h2;subst h1; subst h2;exact CG h t x ix ho hq
  ·cases hs
 ·rename_i t x ix ho;split at hs
  ·rename_i c v hv;injection hs with hs; injection hs with h1 h2;subst h1; subst h2;exact Ln h t x ix ho hv
  ·cases hs
 ·rename_i t x lo hi mx ho;split at hs
  ·rename_i l h' hl hh;split at hs
   ·rename_i c v hv;injection hs with hs; injection hs with h1 h2;subst h1; subst h2;cases mx with
    |none=>exact Ls h t x lo hi ho hl hh hv
    |some m=>
     unfold GY at hv;split at hv
     ·rename_i hmx;cases hmx
     ·cases hv
   ·cases hs
  ·cases hs
 ·rename_i x j ho;split at hs
  ·rename_i vs hx;split at hs
   ·rename_i v hn;cases hs;exact G5 h x j ho hx hn
   ·cases hs
  ·cases hs
 ·rename_i t x y ho;split at hs
  ·rename_i i k n k' m hi hx hy;split at hs
   ·rename_i elem esz ag eb z hk;split at hs
    ·rename_i dQ;simp only [aag] at dQ;split at hs
     ·exact Hf h t x y ho hi hx hy hk (aaa dQ.1.1) (aar dQ.1.2) dQ.2 hs
     split at hs
     ·split at hs
      ·rename_i sU;injection hs with hs; injection hs with h1 h2;subst h2;exact BH h t x y ho hi hx hy hk (aaa dQ.1.1) (aar dQ.1.2) dQ.2 sU (of_decide_eq_true h1)
      ·cases hs
     ·injection hs with hs; injection hs with h1 h2;subst h2;exact CM h t x y ho hi hx hy hk (aaa dQ.1.1) (aar dQ.1.2) dQ.2 (of_decide_eq_true h1)
    ·cases hs
   ·cases hs
  ·cases hs
 ·rename_i t m k ok ho;split at hs
  ·rename_i v b hv;cases hs;exact IT h t m k ok ho hv
  ·cases hs
 ·rename_i t m k x ho;split at hs
  ·rename_i He hd hv;cases hs;exact uv h t m k x (.inl ho) hd hv
  ·cases hs
 ·rename_i t m k x ho;split at hs
  ·rename_i He hd hv;cases hs;exact uv h t m k x (.inr ho) hd hv
  ·cases hs
 ·rename_i x ho;split at hs
  ·rename_i c v hv;injection hs with hs; injection hs with h1 h2;subst h1; subst h2;exact LM h x ho hv
  ·cases hs
 ·rename_i t m k ho;split at hs
  ·rename_i c v He hv;injection hs with hs; injection hs with h1 h2;subst h1; subst h2;exact Fc h t m k ho hv
  ·cases hs
 ·rename_i t m st x ho;split at hs
  ·rename_i c He hd hv;injection hs with hs; injection hs with h1 h2;subst h1; subst h2;exact BO h t m st x ho hd hv
  ·cases hs
 ·rename_i t x ho;split at hs
  ·rename_i i l hi hx;split at hs
   ·rename_i hk;cases hs;exact LH h t x ho hi hk hx
   ·cases hs
  ·rename_i i id hi hx;split at hs
   ·rename_i hk hg;cases hs;exact IV h t x ho hi hk hx hg
   ·cases hs
  ·cases hs
 ·rename_i x ho;split at hs
  ·rename_i He hv;cases hs;exact Py h x ho hv
  ·cases hs
 ·rename_i t ho;cases hs;exact Ha h t ho
 ·rename_i b args tys ho;split at hs
  ·rename_i r hf;cases hs;exact LN h hf
  ·split at hs
   ·rename_i l hl;have QU:tys=⟨tys.toList⟩:=rfl;cases b with
    |len=>
     exact Rv h (tys:=tys.toList) (by rw [ho]) hl hs
    |append=>
     unfold dG at hs;split at hs <;> first | (rename_i hb; cases hb; done) | skip
     ·rename_i x k sz ys;split at hs
      ·rename_i t u CZ;split at hs
       ·rename_i i hi;split at hs
        ·rename_i elem esz ag eb z hk;split at hs
         ·rename_i dQ;simp only [aag,Bool.or_eq_true] at dQ;obtain ⟨⟨⟨⟨⟨c1,c2⟩,c3⟩,c4⟩,c5⟩,c6⟩:=dQ;split at hs
          ·rename_i c v G' ha;injection hs with hs; injection hs with h1 h2;subst h1; subst h2;have htu:=aaa c2;subst htu;have C0:tys=#[t,t]:=by rw [QU,CZ]
           rw [C0] at ho;refine IM h ho hl hi hk ?_ (aar c3) (aar c4) (aaa c5) c6 ha;rcases c1 with c1|c1
           ·exact .inr (aaa c1)
           ·exact .inl (by simpa using c1)
          ·cases hs
         ·cases hs
        ·cases hs
       ·cases hs
      ·cases hs
     ·rename_i x bs;split at hs
      ·rename_i t u CZ;split at hs
       ·rename_i i j hi hj;split at hs
        ·rename_i elem esz ag eb z hk hjk;split at hs
         ·rename_i dQ;simp only [aag] at dQ;obtain ⟨⟨⟨c1,c2⟩,c3⟩,c4⟩:=dQ;split at hs
          ·rename_i c v G' ha;injection hs with hs; injection hs with h1 h2;subst h1; subst h2;have c1:=aaa c1;subst c1;have C0:tys=#[t,u]:=by rw [QU,CZ]
           rw [C0] at ho;exact BM h ho hl hi hj hk hjk (aar c2) (aaa c3) c4 ha
          ·cases hs
         ·cases hs
        ·cases hs
       ·cases hs
      ·cases hs
     ·rename_i id f off sz len rid cap;split at hs
      ·rename_i y1 y2 y3 y4 el t u hid CZ;split at hs
       ·rename_i i hi;split at hs
        ·rename_i elem esz ag eb z hk;split at hs
         ·rename_i dQ;simp only [aag] at dQ;obtain ⟨⟨⟨⟨c1,c2⟩,c3⟩,c4⟩,c5⟩:=dQ;split at hs
          ·rename_i c v G' ha;injection hs with hs; injection hs with h1 h2;subst h1; subst h2;have htu:=aaa c2;subst htu;have C0:tys=#[t,t]:=by rw [QU,CZ]
           rw [C0] at ho;exact BN h ho hl hid hi hk (aaa c1) (aar c3) (aaa c4) c5 ha
          ·cases hs
         ·cases hs
        ·cases hs
       ·cases hs
      ·cases hs
     ·rename_i x id f sz len;split at hs
      ·rename_i ys bP el t u hid CZ;split at hs
       ·rename_i i hi;split at hs
        ·rename_i elem esz ag eb z hk;split at hs
         ·rename_i dQ;simp only [aag] at dQ;obtain ⟨⟨⟨⟨⟨⟨⟨⟨⟨c1,c2⟩,c3⟩,c4⟩,c5⟩,c6⟩,c7⟩,c8⟩,c9⟩,c10⟩:=dQ;split at hs
          ·rename_i c v G' ha;injection hs with hs; injection hs with h1 h2;subst h1; subst h2;have htu:=aaa c6;subst htu;have c1:=aaa c1;subst c1;have C0:tys=#[t,t]:=by rw [QU,CZ]
           rw [C0] at ho;exact BL h ho hl hid (aaa c3) (aaa c4) c5 hi hk (aaa c2) (aar c8) (aaa c9) c10 ha
          ·cases hs
         ·cases hs
        ·cases hs
       ·cases hs
      ·cases hs
     ·cases hs
    |copy=>
     unfold dG at hs;split at hs <;> first | (rename_i hb; cases hb; done) | skip
     ·rename_i d x;split at hs
      ·rename_i t tl CZ;split at hs
       ·rename_i i hi;split at hs
        ·rename_i elem esz ag eb z hk;split at hs
         ·rename_i n G' hc;injection hs with hs; injection hs with h1 h2;subst h2;have C0:tys=⟨t :: tl⟩:=by rw [QU,CZ]
          rw [C0] at ho;exact Pz h ho hl hi hk hc
         ·cases hs
        ·cases hs
       ·cases hs
      ·cases hs
     ·cases hs
    |clear=>
     unfold dG at hs;split at hs <;> first | (rename_i hb; cases hb; done) | skip
     ·split at hs
      ·rename_i t id f' off sz len hd CZ;split at hs
       ·rename_i i es bP el hi hg;split at hs
        ·rename_i elem esz ag eb z hk;split at hs
         ·rename_i dQ;simp only [aag] at dQ;obtain ⟨⟨⟨⟨⟨c1,c2⟩,c3⟩,c4⟩,c5⟩,c6⟩:=dQ;have c1:=aaa c1;have c2:=aaa c2;have c3:=aaa c3;have c4:=aaa c4;injection hs with hs; injection hs with h1 h2;subst h2;rw [aag,decide_eq_true_eq,decide_eq_true_eq] at h1;have C0:tys=#[t]:=by rw [QU,CZ]
          rw [C0] at ho;subst c2;exact LP h ho hd hl hi hk hg c1 c3 c4 c5 c6 h1.1 h1.2
         ·cases hs
        ·cases hs
       ·cases hs
      ·cases hs
     ·cases hs
    |max=>
     unfold dG at hs;split at hs <;> first | (rename_i hb; cases hb; done) | skip
     ·rename_i x l';split at hs
      ·rename_i v hm;cases hs;exact Rw h ho hl hm
      ·cases hs
     ·cases hs
    |min=>
     unfold dG at hs;split at hs <;> first | (rename_i hb; cases hb; done) | skip
     ·rename_i x l';split at hs
      ·rename_i v hm;cases hs;exact Rx h ho hl hm
      ·cases hs
     ·cases hs
    |_=>
     unfold dG at hs;split at hs <;> first | (rename_i hb; cases hb; done) | (cases hs; done)
   ·cases hs
 ·cases hs
theorem yp {wk:Bool}:∀ {cs ig:List AV} {G G':List GO} {vs:List Value} {R:aj},il E R w G→aQ R w cs vs→rq wk cs G=(true,ig,G') →
  ∃ R',il E R' w G'∧aQ R' w ig vs∧Ext R w R' w∧R'.obj=R.obj∧∀ b o,R'.I b o→R.I b o∨Live R b
 |[],ig,G,G',vs,R,hg,hr,h=>by
  simp only [rq,abR,true_and] at h;obtain ⟨rfl,rfl⟩:=h;exact ⟨R,hg,hr,Ext.refl R w,rfl,fun _ _ h=>.inl h⟩
 |x :: l,ig,G,G',vs,R,hg,hr,h=>by
  cases hr with
  |cons h0 hr=>
  unfold rq at h;split at h
  ·rename_i oK;cases oK
  ·rename_i id f sz len l1 oK;obtain ⟨rfl,rfl⟩:=List.cons.inj oK;split at h
   ·rename_i es bP el hid;generalize h2:rq wk l _=q0 at h;obtain ⟨c',q⟩:=q0;obtain ⟨rs2,G2⟩:=q;simp only [abR,aag,decide_eq_true_eq] at h;obtain ⟨⟨⟨⟨⟨hf,hlen⟩,gJ⟩,lE⟩,rfl⟩,rfl,rfl⟩:=h;have gJ:=aaa gJ;subst gJ;obtain ⟨ro,bu⟩:∃ ro,nth R.obj id=some ro:=by
     cases h0 with
     |mh q _=>exact ⟨_,q⟩
     |ey q _ _=>exact ⟨_,q⟩
    obtain ⟨R1,r1,r2,r3,r4,r5⟩:=pd (wk:=wk) hg hid hf (adP hlen) lE bu;have r6:=r5 _ h0;rw [hlen,acU] at r6;obtain ⟨R2,b1,b2,b3,b4,b5⟩:=yp r1 (hr.mono r2) h2;refine ⟨R2,b1,.cons (r6.mono b3) b2,r2.trans b3,b4.trans r3,fun b o ho=>?_⟩;rcases b5 b o ho with ho|ho
    ·exact (r4 b o ho).imp_right fun hb=>⟨id,ro,bu,hb⟩
    ·obtain ⟨i,r,q1,q2⟩:=ho;rw [r3] at q1;exact .inr ⟨i,r,q1,q2⟩
   ·generalize h2:rq wk l _=q0 at h;obtain ⟨c',q⟩:=q0;simp only [abR] at h;cases h.1
  ·rename_i a l1 G1 df oK;obtain ⟨rfl,rfl⟩:=List.cons.inj oK;generalize h2:rq wk l _=q0 at h;obtain ⟨c',rs2,G2⟩:=q0;simp only [abR] at h;obtain ⟨rfl,rfl,rfl⟩:=h;obtain ⟨R2,b1,b2,b3,b4,b5⟩:=yp hg hr h2;exact ⟨R2,b1,.cons (h0.mono b3) b2,b3,b4,b5⟩
theorem ux {cut wk:Bool} {t:Tmp} {s':St} (h:bi E R w β s a) (hs:sL cut wk s t=some (true,s')):∃ R',bi E R' w β s' a∧Step R w β s.boxes R' w β s'.boxes∧s'.ro=s.ro:=by
 unfold sL at hs;split at hs
 ·rename_i id f off sz len ht;split at hs
  ·rename_i es bP el hid;split at hs
   ·rename_i dQ;rw [aag] at dQ;have q1:=aaa dQ.1;have q2:=aaa dQ.2;subst q1; subst q2;injection hs with hs; injection hs with h1 h2;rw [aag,aag,decide_eq_true_eq] at h1;obtain ⟨⟨G9,IG⟩,lE⟩:=h1;have hle:len≤es.length:=by
     cases cut with
     |true=>exact of_decide_eq_true IG
     |false=>exact adP (of_decide_eq_true IG)
    have E2:FC wk (bif cut then es.take len else es)=FC wk (es.take len):=by
     congr 1;cases cut with
     |true=>rfl
     |false=>
      have:len=es.length:=of_decide_eq_true IG;rw [this,acU];rfl
    rw [E2] at h2;subst h2;obtain ⟨c,k1,k2⟩:=h.t t (by rw [ht]; simp);rw [ht] at k2;obtain ⟨ro,bu⟩:∃ ro,nth R.obj id=some ro:=by
     have UM:Rel R w (.ey id f 0 sz len) c:=k2;cases UM with
     |mh q _=>exact ⟨_,q⟩
     |ey q _ _=>exact ⟨_,q⟩
    obtain ⟨R',r1,r2,r3,r4,r5⟩:=pd h.g hid G9 hle lE bu;have Vr:∀ k cs,fh s.boxes k=some cs→¬ ro.has (β k):=fun k cs hk e=>(h.b.box k cs hk).2.2 ⟨id,ro,bu,e⟩
    refine ⟨R',⟨r1,?_,?_,h.n,h.d.mono r2⟩,⟨r2,rfl,rfl,rfl,abO _,fun _ _ _=>rfl,fun b hb ho=>?_,fun b o hi hb hn=>?_⟩,rfl⟩
    ·exact h.b.bD r2 (fun _ _ _=>rfl) (fun k cs o hk hi=>(r4 _ o hi).resolve_right (Vr k cs hk)) (fun k cs hk hl=>by
      obtain ⟨i,r,l1,l2⟩:=hl;rw [r3] at l1;exact ⟨i,r,l1,l2⟩)
    ·intro i hi;by_cases e:t=i
     ·subst e;rw [aN];exact ⟨c,k1,r5 c k2⟩
     ·rw [a8 e] at hi ⊢;obtain ⟨c',l1,l2⟩:=h.t i hi;exact ⟨c',l1,l2.mono r2⟩
    ·rcases ho with ⟨i,r,l1,l2⟩|ho
     ·rw [r3] at l1;exact .inl ⟨i,r,l1,l2⟩
     ·exact .inr ho
    ·rcases r4 b o hi with hi|hi
     ·exact hi
     ·exact absurd (.inl ⟨id,ro,bu,hi⟩) hn
   ·cases hs
  ·cases hs
 ·-- an object's cells never change again
  rename_i id ht;split at hs
  ·rename_i cs el hid;injection hs with hs; injection hs with h1 h2;subst h2;obtain ⟨c,k1,k2⟩:=h.t t (by rw [ht]; simp);rw [ht] at k2;have UM:Rel R w (.ptr id 0) c:=k2;cases UM with
   | @ptr _ _ b bu=>
   obtain ⟨vs,b1,b2,b3,b4⟩:=h.g.obj id _ _ hid bu;have r2:=ym R w b;have r1:=h.g.freeze bu rfl (show jW (R.all b) w .dead (.bZ b) from bK b1);have Vr:∀ k cs,fh s.boxes k=some cs→β k≠b:=fun k cs hk e=>(h.b.box k cs hk).2.2 ⟨id,_,bu,by rw [e]; rfl⟩
   refine ⟨R.all b,⟨r1,?_,?_,h.n,h.d.mono r2⟩,⟨r2,rfl,rfl,rfl,abO _,fun _ _ _=>rfl,fun _ _ ho=>ho,fun b' o hi hb hn=>?_⟩,rfl⟩
   ·exact h.b.bD r2 (fun _ _ _=>rfl) (fun k cs o hk hi=>hi.resolve_right (Vr k cs hk)) (fun _ _ _ hl=>hl)
   ·intro i hi;by_cases e:t=i
    ·subst e;rw [aN];refine ⟨_,k1,Rel.ep (ik.make (b2.mono r2) b3 (fun j v hv=>?_) (fun j _=>.inr rfl))⟩;rw [rD b1,abv];exact hv
    ·rw [a8 e] at hi ⊢;obtain ⟨c',l1,l2⟩:=h.t i hi;exact ⟨c',l1,l2.mono r2⟩
   ·rcases hi with hi|rfl
    ·exact hi
    ·exact absurd (.inl ⟨id,_,bu,rfl⟩) hn
  ·cases hs
 ·-- the parts of a value
  rename_i cs ht;cases h2:rq wk cs s.G with
  |mk c' q=>
  obtain ⟨ig,G'⟩:=q;rw [h2] at hs;injection hs with hs; injection hs with h3 hs;subst h3;subst hs;obtain ⟨c,k1,k2⟩:=h.t t (by rw [ht]; simp);rw [ht] at k2;have UM:Rel R w (.agg cs) c:=k2;cases UM with
  | @agg _ vs k3 k4=>
  obtain ⟨R',r1,r2,r3,r4,r5⟩:=yp h.g k3 h2;have live:∀ b,Live R' b→Live R b:=fun b ⟨i,r,q1,q2⟩=>⟨i,r,by rw [← r4]; exact q1,q2⟩
  refine ⟨R',⟨r1,?_,?_,h.n,h.d.mono r3⟩,⟨r3,rfl,rfl,rfl,abO _,fun _ _ _=>rfl,fun b hb ho=>?_,fun b o hi hb hn=>?_⟩,rfl⟩
  ·exact h.b.bD r3 (fun _ _ _=>rfl) (fun k cs o hk hi=>(r5 _ o hi).resolve_right (h.b.box k cs hk).2.2) (fun k cs hk hl=>live _ hl)
  ·intro i hi;by_cases e:t=i
   ·subst e;rw [aN];exact ⟨_,k1,Rel.agg r2 k4⟩
   ·rw [a8 e] at hi ⊢;obtain ⟨c',l1,l2⟩:=h.t i hi;exact ⟨c',l1,l2.mono r3⟩
  ·rcases ho with ho|ho
   ·exact .inl (live b ho)
   ·exact .inr ho
  ·rcases r5 b o hi with hi|hi
   ·exact hi
   ·exact absurd (.inl hi) hn
 ·cases hs
theorem kT {cut wk:Bool}:∀ {l:List Operand} {R:aj} {s s':St},bi E R w β s a→kD cut wk l s=(true,s')→∃ R',bi E R' w β s' a∧Step R w β s.boxes R' w β s'.boxes∧s'.ro=s.ro
 |[],R,s,s',h,hs=>by
  simp only [kD] at hs;cases hs;exact ⟨R,h,Step.refl _ _ _ _,rfl⟩
 |.tmp t :: l,R,s,s',h,hs=>by
  unfold kD at hs;split at hs
  ·rename_i c s1 h1;cases h2:kD cut wk l s1 with
   |mk c' s2=>
   rw [h2] at hs;simp only [abR,aag] at hs;obtain ⟨⟨rfl,rfl⟩,rfl⟩:=hs;obtain ⟨R1,k1,k2,k3⟩:=ux h h1;obtain ⟨R2,l1,l2,l3⟩:=kT k1 h2;exact ⟨R2,l1,k2.trans l2,l3.trans k3⟩
  ·exact kT h hs
 |.const _ :: l,R,s,s',h,hs=>kT (l:=l) h hs
 |.global _ :: l,R,s,s',h,hs=>kT (l:=l) h hs
 |.func _ :: l,R,s,s',h,hs=>kT (l:=l) h hs
theorem RV {f:FuncId} {s':St} (h:bi E R w β s a) (hs:Pc E f s o=some (true,s')):∃ R',bi E R' w β s' a∧Step R w β s.boxes R' w β s'.boxes∧s'.ro=s.ro:=by
 unfold Pc at hs;split at hs
 ·split at hs
  ·injection hs with hs;exact kT h hs
  ·cases hs
 ·cases hs
end ops
end Go.Am
