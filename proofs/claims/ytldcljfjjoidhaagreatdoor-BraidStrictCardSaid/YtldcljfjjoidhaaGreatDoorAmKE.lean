/- The abstract machine: what it does is what the model does: objects that are no rows; ranges over strings. -/
import Derived.Test.YtldcljfjjoidhaaGreatDoorAmKD
import Derived.Laws.RangeAny
import Derived.Maps.RangeRun
import Derived.Laws.BytesString
import Derived.Laws.Cover4
set_option linter.all false
open Array renaming length_toList→aaR, toList_modify→aaZ, toList_push→abO, getElem?_toList→abV, toList_filter→ab0
open Bool renaming and_eq_true→aaa
open ByteArray renaming get!→acg
open Go.ByteArray renaming toList_eq→abY
open Go.Instr renaming findKey→aab, checkKey→aac, findAsking→aax, findNow→aaH, sameBits→aaX, keyThatStays→aa6, sameNow→abN, lookup→abR
open Go.Op renaming maxDepth→aa9, equal→abP
open Go.Result renaming andThen_ok→aaB
open Go.Sem renaming run_bind→aaC, run_pure→aaY, run→aa3
open Go.Utf8 renaming encode→abq
open Go.Value renaming int→ab2
open List renaming getElem?_eq_getElem→aaM, getElem?_modify→aa4, modify_zero_cons→abu, modify_succ_cons→abJ, getElem?_cons_zero→abS, getElem?_cons_succ→abT, map_cons→abW, getElem_of_mem→abZ
open Nat renaming zero_add→aa5, le_of_ble_eq_true→abK
open Option renaming isSome_iff_exists→abQ
open Option.some renaming inj→abU, injEq→ab6
open UInt8 renaming ofNat→aba
namespace Go.Am
open Go
open Go.ChangeMaps (setBlock)
def qm (x:Obj):Prop:=match x with
 |.cells ..=>False
 |_=>True
theorem sP {w:World} {b:Nat} {x:Obj} (h:w.heap[b]?=some x) (hn:qm x) (o:Nat):w.cell? ⟨b,o,none⟩=none:=by
 simp only [World.cell?,h];cases x <;> first | rfl | exact hn.elim
def World.put (w:World) (b:Nat) (x:Obj):World:={ w with heap:=w.heap.setIfInBounds b x }
theorem mR (w:World) (b k:Nat) (x:Obj) (h:k≠b):(World.put w b x).heap[k]?=w.heap[k]?:=Array.getElem?_setIfInBounds_ne (Ne.symm h)
theorem gN (w:World) (b:Nat) (x:Obj) (h:b < w.heap.size):(World.put w b x).heap[b]?=some x:=by simp [World.put,h]
@[simp] theorem Y1 (w:World) (b:Nat) (x:Obj):(World.put w b x).heap.size=w.heap.size:=by simp [World.put]
section setobj
variable {E:Env} {R:ak} {w:World} {β:Nat→Nat} {s:St} {a:Act}
theorem nP {b:Nat} {x x':Obj} (hx:w.heap[b]?=some x) (hn:qm x) (YS:qm x') (hl:∀ r,x=.loop r→∃ r',x'=.loop r'∧sG r r'):Ext R w R (World.put w b x'):=
 ⟨fun _ _ h=>h,fun b' o h=>by
  by_cases e:b'=b
  ·subst e;rw [sP hx hn,sP (gN w b' x' (bi hx)) YS]
  ·exact cb (mR w b b' x' e) o,fun _ ro h=>⟨ro,h,cF.refl ro⟩,fun b' r hb=>by
  by_cases e:b'=b
  ·subst e;rw [hx] at hb;obtain ⟨r',rfl,h2⟩:=hl r (abU hb);exact ⟨r',gN w b' _ (bi hx),h2⟩
  ·exact ⟨r,(mR w b b' x' e).trans hb,rfl,rfl,rfl,rfl,rfl⟩⟩
theorem bl.setObj (h:bl E R w β s a) {id b:Nat} {x x':Obj} {go':GO} (hid:nth R.obj id=some (.ca b)) (hx:w.heap[b]?=some x) (hn:qm x) (YS:qm x') (hl:∀ r,x=.loop r→∃ r',x'=.loop r'∧sG r r') (iE:gK R (World.put w b x') go' (.ca b)) :
  bl E R (World.put w b x') β (s.cD (aF s.G id go')) a∧Step R w β s.boxes R (World.put w b x') β s.boxes:=by
 have hex:=nP (R:=R) hx hn YS hl;refine ⟨⟨⟨by simp [St.cD,h.g.len],fun jL go ro hg mh=>?_,h.g.inj,fun b' o' uf=>by have:=h.g.wf b' o' uf; simpa using this,fun g cs' hg=>(h.g.ck g cs' hg).mono hex,by first | exact h.g.lo | exact Nat.le_succ_of_le h.g.lo⟩,?_,h.t.mono hex,h.n,h.d⟩,?_⟩
 ·rcases dp hg with ⟨rfl,rfl,_⟩|⟨cQ,rI⟩
  ·rw [hid] at mh;cases mh;exact iE
  ·refine (h.g.obj jL go ro rI mh).mono hex (fun b' gL=>mR w _ b' _ (fun e=>cQ ?_)) (fun _ _ _ hi=>hi);subst e;exact h.g.inj id jL _ _ b' hid mh rfl gL
 ·exact h.b.aW hex (fun k cs' iG=>mR w _ _ _ (h.Fs hid iG)) (fun _ _ _ _ hi=>hi) (fun _ _ _ hl=>hl)
 ·have BW:Own R β s.boxes b:=.inl ⟨id,_,hid,rfl⟩;exact ⟨hex,rfl,rfl,rfl,by simp,fun b' _ hn=>mR w _ b' _ (fun e=>hn (e ▸ BW)),fun _ _ hb=>hb,fun b o hi _ _=>hi⟩
end setobj
section maps
variable {E:Env} {R:ak} {w:World} {β:Nat→Nat} {s:St} {a:Act} {o:Oper}
theorem K7 {t:TypeId} {i:TI} (hi:E.ti t=some i):i.ek=vb E.P t:=by
 have:=E.IM t i hi;unfold IL at this;split at this
 ·split at this
  ·cases this; rfl
  ·cases this
 ·cases this
theorem j6 {e:EK} {a b:AV} {r:Bool} (h:E7 e a b=some r):ls e a b=some r:=by
 unfold E7 at h;split at h
 ·rename_i he;cases hc:(e.wide&&!lD a b) with
  |true=>rw [hc] at h; cases h
  |false=>rw [hc] at h; cases h; exact he
 ·exact h
theorem K8 {e:EK} {a b:AV} (h:E7 e a b=some true) (he:e.wide=true):lD a b=true:=by
 have:=j6 h;unfold E7 at h;rw [this] at h;simp only [he,Bool.true_and] at h;cases hs:lD a b with
 |true=>rfl
 |false=>rw [hs] at h; cases h
def Dr (e:EK) (d:TypeDesc):Prop:=(e=.bool∧d=.bool)∨(e=.int∧∃ k,d=.int k)∨(e=.str∧d=.string)∨(e.wide=true∧((∃ fs,d=.struct fs)∨∃ n t,d=.array n t))
theorem vl {P:Program} {t:TypeId} (h:(vb P t).plain=true):∃ d,P.underlying t=some d∧Dr (vb P t) d:=by
 have key:∀ {e:EK},e=qP P 6 t→e.plain=true→∃ d,P.underlying t=some d∧Dr e d:=by
  intro e he h;unfold qP at he;split at he
  ·rename_i hu; exact ⟨_,hu,.inl ⟨he,rfl⟩⟩
  ·rename_i k hu; exact ⟨_,hu,.inr (.inl ⟨he,k,rfl⟩)⟩
  ·rename_i hu; exact ⟨_,hu,.inr (.inr (.inl ⟨he,rfl⟩))⟩
  ·rename_i fs hu;split at he
   ·subst he; cases h
   ·split at he
    ·subst he; exact ⟨_,hu,.inr (.inr (.inr ⟨rfl,.inl ⟨_,rfl⟩⟩))⟩
    ·subst he; cases h
  ·rename_i m e' hu;split at he
   ·subst he; exact ⟨_,hu,.inr (.inr (.inr ⟨rfl,.inr ⟨_,_,rfl⟩⟩))⟩
   ·subst he; cases h
  ·subst he; cases h
 unfold vb at h ⊢;split
 ·rename_i l hl;rw [hl] at h;simp only at h;split at h
  ·simp [EK.plain] at h
  ·rename_i hg;rw [if_neg hg];exact key hl.symm rfl
 ·rename_i k hk;exact key rfl (by
   split at h
   ·rename_i l hl; exact absurd hl (hk l)
   ·exact h)
theorem B7 {a b:AV} (h:oU a b=true) {x y:Value} (hx:Rel R w a x) (hy:Rel R w b y):x=y:=by
 unfold oU at h;split at h
 ·cases hx; cases hy; rw [eq_of_beq h]
 ·rw [aaa,decide_eq_true_eq] at h;cases hx; cases hy; rw [h.1,eq_of_beq h.2]
 ·cases hx; cases hy; rw [eq_of_beq h]
 ·cases h
theorem sQ:∀ {xs ys:List AV} {vs us:List Value},mD xs ys=true→aK R w xs vs→aK R w ys us→vs=us
 |[],[],_,_,_,.nil,.nil=>rfl
 |a :: xs,b :: ys,_,_,h,.cons h1 h2,.cons h3 h4=>by
  unfold mD at h;rw [aaa] at h;rw [B7 h.1 h1 h3,sQ h.2 h2 h4]
 |[],_ :: _,_,_,h,_,_=>by cases h
 |_ :: _,[],_,_,h,_,_=>by cases h
theorem Ds {a b:AV} (h:lD a b=true) {x y:Value} (hx:Rel R w a x) (hy:Rel R w b y):x=y:=by
 unfold lD at h;split at h
 ·cases hx with
  |agg hx _=>cases hy with
   |agg hy _=>rw [sQ h hx hy]
 ·cases h
theorem vm {ek:TypeId→EK} {d:Nat} {em:Bool} (ih:∀ (t:TypeId) (a:AV) (r:Bool) (x:Value),ls (ek t) a a=some r→Rel R w a x→(aac em d t x).run E.P w=.ok () w) {xs:List AV} {vs:List Value}
  (hx:aK R w xs vs) (vW:∀ x∈vs,x.oneCell'=true) :
  ∀ (fs:List Field) (l:Tz) (r:Bool),Fh E.P ek fs=some l→tY l xs xs=some r →
   (do for f in fs do if f.name ≠ "_" then aac em d f.type (← part f.type ⟨vs⟩ f.offset) : Sem Unit).run E.P w = .ok () w
 |[],l,r,hl,hr=>by simp
 |f :: fs,l,r,hl,hr=>by
  unfold Fh at hl;split at hl
  ·cases hl
  ·rename_i hn;split at hl
   ·rename_i i u l' h1 h2 h3;cases hl;unfold tY at hr;split at hr
    ·rename_i a b ha hb;rw [ha] at hb;cases hb;split at hr
     ·rename_i p q hp hq;obtain ⟨c,k1,k2⟩:=km h1 h2 hx vW ha;have cQ : f.name ≠ "_" := by simpa using hn
      have xz:=vm ih hx vW fs l' q h3 hq;simp only [List.forIn_cons,aaC,if_pos cQ,aaB,k1,ih f.type a p c hp k2,aaY];simpa only [aaC,aaY] using xz
     ·cases hr
    ·cases hr
   ·cases hl
theorem sR {ek:EK} {d:Nat} {em:Bool} {e:TypeId} {i:TypeInfo} {u:TypeDesc} (h1:E.P.info? e=some i) (h2:E.P.underlying e=some u) (ih:∀ (a:AV) (r:Bool) (x:Value),ls ek a a=some r→Rel R w a x→(aac em d e x).run E.P w=.ok () w) {xs:List AV} {vs:List Value}
  (hx:aK R w xs vs) (vW:∀ x∈vs,x.oneCell'=true) :
  ∀ (m k:Nat) (r:Bool),tY (xi i.size (jM u) ek m k) xs xs=some r →
   (do for j in List.range' k m do aac em d e (← part e ⟨vs⟩ (j * (← sizeOf e))):Sem Unit).run E.P w=.ok () w
 |0,k,r,hr=>by simp
 |m+1,k,r,hr=>by
  unfold xi tY at hr;split at hr
  ·rename_i a b ha hb;rw [ha] at hb;cases hb;split at hr
   ·rename_i p q hp hq;obtain ⟨c,k1,k2⟩:=km h1 h2 hx vW ha;have xz:=sR h1 h2 ih hx vW m (k+1) q hq;simp only [List.range'_succ,List.forIn_cons,aaC,run_sizeOf w h1,aaB,k1,ih a p c hp k2,aaY];simpa only [aaC,aaY] using xz
   ·cases hr
  ·cases hr
theorem nQ (em:Bool):∀ (n d:Nat),n≤d→∀ (t:TypeId) (a:AV) (r:Bool) (x:Value),ls (qP E.P n t) a a=some r→Rel R w a x→(aac em d t x).run E.P w=.ok () w
 |0,_,_,t,a,r,x,h,_=>by simp [qP,ls] at h
 |n+1,0,hd,_,_,_,_,_,_=>by omega
 |n+1,d+1,hd,t,a,r,x,h,hx=>by
  unfold qP at h;split at h
  ·rename_i hu;unfold ls at h;split at h
   all_goals (try contradiction)
   cases hx;simp [aac,run_underlying hu]
  ·rename_i k hu;unfold ls at h;split at h
   all_goals (try contradiction)
   cases hx;simp [aac,run_underlying hu]
  ·rename_i hu;unfold ls at h;split at h
   all_goals (try contradiction)
   cases hx;simp [aac,run_underlying hu]
  ·rename_i fs hu;split at h
   ·simp [ls] at h
   ·split at h
    ·rename_i l hl;unfold ls at h;split at h
     all_goals (try contradiction)
     rename_i UN xs ys hk Pq;cases hk;cases Pq;cases hx with
     |agg hx vW=>
     have:=vm (em:=em) (fun t a r x=>nQ em n d (by omega) t a r x) hx vW fs.toList _ r hl h;rw [aac];simp only [aaC,run_underlying hu,aaB];rw [← Array.forIn_toList];simp only [aaC,aaY] at this ⊢;exact this
    ·simp [ls] at h
  ·rename_i m e hu;split at h
   ·rename_i i ud g1 g2;unfold ls at h;split at h
    all_goals (try contradiction)
    rename_i UN xs ys hk Pq;cases hk;cases Pq;cases hx with
    |agg hx vW=>
    have:=sR (em:=em) g1 g2 (fun a r x=>nQ em n d (by omega) e a r x) hx vW m 0 r h;rw [aac];simp only [aaC,run_underlying hu,aaB];simp only [Std.Legacy.Range.forIn_eq_forIn_range',Std.Legacy.Range.size,Nat.sub_zero,Nat.add_one_sub_one,Nat.div_one];simp only [aaC,aaY] at this ⊢;exact this
   ·simp [ls] at h
  ·simp [ls] at h
theorem lJ {e:EK} {d:TypeDesc} (hd:(e=.bool∧d=.bool)∨(e=.int∧∃ k,d=.int k)∨(e=.str∧d=.string)) {k k':AV} {r:Bool} {x y:Value} (h:ls e k k'=some r) (hx:Rel R w k x) (hy:Rel R w k' y):abN d x y=some r∧(r=true→x=y):=by
 rcases hd with ⟨rfl,rfl⟩|⟨rfl,n,rfl⟩|⟨rfl,rfl⟩
 ·unfold ls at h;split at h
  all_goals (try contradiction)
  cases hx; cases hy; cases h;exact ⟨rfl,fun e=>by rw [eq_of_beq e]⟩
 ·unfold ls at h;split at h
  all_goals (try contradiction)
  split at h
  ·rename_i hk;subst hk;cases hx; cases hy; cases h;exact ⟨by simp [abN],fun e=>by rw [eq_of_beq e]⟩
  ·cases h
 ·unfold ls at h;split at h
  all_goals (try contradiction)
  cases hx; cases hy; cases h;refine ⟨?_,fun e=>by rw [eq_of_beq e]⟩;simp only [abN];rw [beq_toListBytes,abY,abY]
theorem xO {e:EK} {d:TypeDesc} (hd:(e=.bool∧d=.bool)∨(e=.int∧∃ k,d=.int k)∨(e=.str∧d=.string)) {k:AV} {x:Value} (hx:Rel R w k x):∀ {es:List (AV × AV)} {ax:List MapEntry} {r:Option AV},dA R w es ax→jY e k es=some r →
  ∀ i,match r with
   |none=>aaH d x ax i=some none
   |some v=>∃ j c,aaH d x ax i=some (some (j,c))∧Rel R w v c
 |[],[],r,_,h,i=>by simp [jY] at h; subst h; rfl
 |[],_ :: _,_,h,_,_=>h.elim
 |_ :: _,[],_,h,_,_=>h.elim
 |(k',v) :: es,en :: ax,r,h,hf,i=>by
  unfold jY at hf;split at hf
  ·rename_i he;cases hf;have h1:=(lJ hd (j6 he) hx h.1).1;exact ⟨i,en.val,by simp [aaH,h1],h.2.1⟩
  ·rename_i he;have h1:=(lJ hd (j6 he) hx h.1).1;have:=xO hd hx h.2.2 hf (i+1);split at this
   ·simp only [aaH,h1]; exact this
   ·obtain ⟨j,c,q1,q2⟩:=this;exact ⟨j,c,by simp only [aaH,h1]; exact q1,q2⟩
  ·cases hf
theorem HK {e:EK} {d:TypeDesc} (hd:(e=.bool∧d=.bool)∨(e=.int∧∃ k,d=.int k)∨(e=.str∧d=.string)) {k v:AV} {x c:Value} (hx:Rel R w k x) (hv:Rel R w v c):∀ {es es':List (AV × AV)} {ax:List MapEntry},dA R w es ax→tZ e k v es=some es' →
  ∀ i,(aaH d x ax i=some none∧iC e k es=ax.length∧∀ b,dA R w es' (ax++[{ key:=x,val:=c,born:=b }])) ∨
   ∃ j c',aaH d x ax i=some (some (i+j,c'))∧(j=iC e k es∧∃ en,ax[j]?=some en∧en.key=x∧en.val=c')∧dA R w es' (ax.modify j fun e=>{ e with key:=x,val:=c })
 |[],es',[],_,h,i=>by simp [tZ] at h; subst h; exact .inl ⟨rfl,rfl,fun b=>⟨hx,hv,trivial⟩⟩
 |[],_,_ :: _,h,_,_=>h.elim
 |_ :: _,_,[],h,_,_=>h.elim
 |(k',v') :: es,es',en :: ax,h,hf,i=>by
  unfold tZ at hf;split at hf
  ·rename_i he;cases hf;obtain ⟨h1,h2⟩:=lJ hd (j6 he) hx h.1;have hm:xm e k k'=true:=by unfold xm; rw [he]
   exact .inr ⟨0,en.val,by simp [aaH,h1],⟨by simp [iC,hm],en,rfl,(h2 rfl).symm,rfl⟩,by simp only [abu]; exact ⟨hx,hv,h.2.2⟩⟩
  ·rename_i he;have h1:=(lJ hd (j6 he) hx h.1).1;split at hf
   ·rename_i r hr;cases hf;have hm:xm e k k'=false:=by unfold xm; rw [he]
    rcases HK hd hx hv h.2.2 hr (i+1) with ⟨q1,q0,q2⟩|⟨j,c',q1,q2,q3⟩
    ·exact .inl ⟨by simp only [aaH,h1]; exact q1,by simp [iC,hm,q0],fun b=>⟨h.1,h.2.1,q2 b⟩⟩
    ·refine .inr ⟨j+1,c',by simp only [aaH,h1]; rw [q1,Nat.add_assoc,Nat.add_comm 1 j],?_,?_⟩
     ·obtain ⟨e0,en',e1,e2⟩:=q2;exact ⟨by simp [iC,hm,e0],en',by simpa using e1,e2⟩
     ·rw [abJ];exact ⟨h.1,h.2.1,q3⟩
   ·cases hf
  ·cases hf
theorem rM {kt:TypeId} {j:TI} (hj:E.ti kt=some j) {k:AV} {x:Value} (hx:Rel R w k x):∀ {es:List (AV × AV)} {ax:List MapEntry} {r:Option AV},dA R w es ax→jY j.ek k es=some r →
  ∀ i,match r with
   |none=>(aax kt x ax i).run E.P w=.ok none w
   |some v=>∃ n c,(aax kt x ax i).run E.P w=.ok (some (n,c)) w∧Rel R w v c
 |[],[],r,_,h,i=>by simp [jY] at h; subst h; simp [aax]
 |[],_ :: _,_,h,_,_=>h.elim
 |_ :: _,[],_,h,_,_=>h.elim
 |(k',v) :: es,en :: ax,r,h,hf,i=>by
  unfold jY at hf;split at hf
  ·rename_i he;cases hf;have h1:=(kn hj (j6 he) hx h.1).1;exact ⟨i,en.val,by simp [aax,abP,aa9,h1],h.2.1⟩
  ·rename_i he;have h1:=(kn hj (j6 he) hx h.1).1;have:=rM hj hx h.2.2 hf (i+1);split at this
   ·simp only [aax,abP,aa9,aaC,h1,aaB]; exact this
   ·obtain ⟨n,c,q1,q2⟩:=this;exact ⟨n,c,by simp only [aax,abP,aa9,aaC,h1,aaB]; exact q1,q2⟩
  ·cases hf
theorem q8 {kt:TypeId} {j:TI} (hj:E.ti kt=some j) (hw:j.ek.wide=true) {k v:AV} {x c:Value} (hx:Rel R w k x) (hv:Rel R w v c):∀ {es es':List (AV × AV)} {ax:List MapEntry},dA R w es ax→tZ j.ek k v es=some es' →
  ∀ i,((aax kt x ax i).run E.P w=.ok none w∧iC j.ek k es=ax.length∧∀ b,dA R w es' (ax++[{ key:=x,val:=c,born:=b }])) ∨
   ∃ n c',(aax kt x ax i).run E.P w=.ok (some (i+n,c')) w∧(n=iC j.ek k es∧∃ en,ax[n]?=some en∧en.key=x∧en.val=c')∧dA R w es' (ax.modify n fun e=>{ e with key:=x,val:=c })
 |[],es',[],_,h,i=>by simp [tZ] at h; subst h; exact .inl ⟨by simp [aax],rfl,fun b=>⟨hx,hv,trivial⟩⟩
 |[],_,_ :: _,h,_,_=>h.elim
 |_ :: _,_,[],h,_,_=>h.elim
 |(k',v') :: es,es',en :: ax,h,hf,i=>by
  unfold tZ at hf;split at hf
  ·rename_i he;cases hf;have h1:=(kn hj (j6 he) hx h.1).1;have h2:=Ds (K8 he hw) hx h.1;have hm:xm j.ek k k'=true:=by unfold xm; rw [he]
   exact .inr ⟨0,en.val,by simp [aax,abP,aa9,h1],⟨by simp [iC,hm],en,rfl,h2.symm,rfl⟩,by simp only [abu]; exact ⟨hx,hv,h.2.2⟩⟩
  ·rename_i he;have h1:=(kn hj (j6 he) hx h.1).1;split at hf
   ·rename_i r hr;cases hf;have hm:xm j.ek k k'=false:=by unfold xm; rw [he]
    rcases q8 hj hw hx hv h.2.2 hr (i+1) with ⟨q1,q0,q2⟩|⟨n,c',q1,q2,q3⟩
    ·exact .inl ⟨by simp only [aax,abP,aa9,aaC,h1,aaB]; exact q1,by simp [iC,hm,q0],fun b=>⟨h.1,h.2.1,q2 b⟩⟩
    ·refine .inr ⟨n+1,c',?_,?_,?_⟩
     ·simp only [aax,abP,aa9,aaC,h1,aaB];rw [show i+(n+1)=i+1+n by omega];exact q1
     ·obtain ⟨e0,en',e1,e2⟩:=q2;exact ⟨by simp [iC,hm,e0],en',by simpa using e1,e2⟩
     ·rw [abJ];exact ⟨h.1,h.2.1,q3⟩
   ·cases hf
  ·cases hf
theorem j7 {kt:TypeId} {d:TypeDesc} (hu:E.P.underlying kt=some d) (hd:(∃ fs,d=.struct fs)∨∃ n t,d=.array n t) (x:Value) (es:List MapEntry):(aab kt x es).run E.P w=(aax kt x es).run E.P w:=by
 cases es with
 |nil=>simp [aab,run_underlying hu,aaH,aax]
 |cons e es=>rcases hd with ⟨fs,rfl⟩ | ⟨n,t,rfl⟩ <;> simp [aab,run_underlying hu,aaH,abN]
theorem sS {kt:TypeId} {j:TI} (hj:E.ti kt=some j) {d:TypeDesc} (hu:E.P.underlying kt=some d) (hd:Dr j.ek d) {k:AV} {x:Value} (hx:Rel R w k x) {es:List (AV × AV)} {ax:List MapEntry} (hM:dA R w es ax) (hf:jY j.ek k es=some none) :
  (aab kt x ax).run E.P w=.ok none w:=by
 have xP:((j.ek=.bool∧d=.bool)∨(j.ek=.int∧∃ k,d=.int k)∨(j.ek=.str∧d=.string))→(aab kt x ax).run E.P w=.ok none w:=fun hd=>by
  have:=xO hd hx hM hf 0;simp [aab,run_underlying hu,this]
 rcases hd with hd|hd|hd|⟨_,hd⟩
 ·exact xP (.inl hd)
 ·exact xP (.inr (.inl hd))
 ·exact xP (.inr (.inr hd))
 ·rw [j7 hu hd];exact rM hj hx hM hf 0
theorem sT {kt:TypeId} {j:TI} (hj:E.ti kt=some j) {d:TypeDesc} (hu:E.P.underlying kt=some d) (hd:Dr j.ek d) {k:AV} {x:Value} (hx:Rel R w k x) {es:List (AV × AV)} {ax:List MapEntry} {v:AV} (hM:dA R w es ax) (hf:jY j.ek k es=some (some v)) :
  ∃ n c,(aab kt x ax).run E.P w=.ok (some (n,c)) w∧Rel R w v c:=by
 have xP:((j.ek=.bool∧d=.bool)∨(j.ek=.int∧∃ k,d=.int k)∨(j.ek=.str∧d=.string))→∃ n c,(aab kt x ax).run E.P w=.ok (some (n,c)) w∧Rel R w v c:=fun hd=>by
  obtain ⟨n,c,q1,q2⟩:=xO hd hx hM hf 0;exact ⟨n,c,by simp [aab,run_underlying hu,q1],q2⟩
 rcases hd with hd|hd|hd|⟨_,hd⟩
 ·exact xP (.inl hd)
 ·exact xP (.inr (.inl hd))
 ·exact xP (.inr (.inr hd))
 ·rw [j7 hu hd];exact rM hj hx hM hf 0
theorem rN {kt:TypeId} {j:TI} (hj:E.ti kt=some j) {d:TypeDesc} (hu:E.P.underlying kt=some d) (hd:Dr j.ek d) {k v:AV} {x c:Value} (hx:Rel R w k x) (hv:Rel R w v c) {es es':List (AV × AV)} {ax:List MapEntry} (hM:dA R w es ax) (hf:tZ j.ek k v es=some es') :
  ((aab kt x ax).run E.P w=.ok none w∧iC j.ek k es=ax.length∧∀ b,dA R w es' (ax++[{ key:=x,val:=c,born:=b }])) ∨
   ∃ n c',(aab kt x ax).run E.P w=.ok (some (n,c')) w∧(n=iC j.ek k es∧∃ en,ax[n]?=some en∧en.key=x∧en.val=c')∧dA R w es' (ax.modify n fun e=>{ e with key:=x,val:=c }):=by
 have xP:((j.ek=.bool∧d=.bool)∨(j.ek=.int∧∃ k,d=.int k)∨(j.ek=.str∧d=.string))→((aab kt x ax).run E.P w=.ok none w∧iC j.ek k es=ax.length∧∀ b,dA R w es' (ax++[{ key:=x,val:=c,born:=b }])) ∨
   ∃ n c',(aab kt x ax).run E.P w=.ok (some (n,c')) w∧(n=iC j.ek k es∧∃ en,ax[n]?=some en∧en.key=x∧en.val=c')∧dA R w es' (ax.modify n fun e=>{ e with key:=x,val:=c }):=fun hd=>by
  rcases HK hd hx hv hM hf 0 with ⟨q1,q2⟩|⟨n,c',q1,q2,q3⟩
  ·exact .inl ⟨by simp [aab,run_underlying hu,q1],q2⟩
  ·rw [aa5] at q1;exact .inr ⟨n,c',by simp [aab,run_underlying hu,q1],q2,q3⟩
 rcases hd with hd|hd|hd|⟨hw,hd⟩
 ·exact xP (.inl hd)
 ·exact xP (.inr (.inl hd))
 ·exact xP (.inr (.inr hd))
 ·rcases q8 hj hw hx hv hM hf 0 with ⟨q1,q2⟩|⟨n,c',q1,q2,q3⟩
  ·exact .inl ⟨by rw [j7 hu hd]; exact q1,q2⟩
  ·rw [aa5] at q1;exact .inr ⟨n,c',by rw [j7 hu hd]; exact q1,q2,q3⟩
theorem mj {kt:TypeId} {d:TypeDesc} (hu:E.P.underlying kt=some d) (hd:d=.bool∨(∃ k,d=.int k)∨d=.string) (b:Bool) (x:Value) (n:Nat):(aac b (n+1) kt x).run E.P w=.ok () w:=by
 rcases hd with rfl|⟨k,rfl⟩|rfl <;> simp [aac,run_underlying hu]
theorem run_checkKey {kt:TypeId} {j:TI} (hj:E.ti kt=some j) {d:TypeDesc} (hu:E.P.underlying kt=some d) (hd:Dr j.ek d) {k:AV} (hk:jl j.ek k=true) {x:Value} (hx:Rel R w k x) (b:Bool):(aac b 10000 kt x).run E.P w=.ok () w:=by
 rcases hd with ⟨_,rfl⟩|⟨_,n,rfl⟩|⟨_,rfl⟩|⟨hw,_⟩
 ·exact mj hu (.inl rfl) b x 9999
 ·exact mj hu (.inr (.inl ⟨n,rfl⟩)) b x 9999
 ·exact mj hu (.inr (.inr rfl)) b x 9999
 ·have A0:=K7 hj;obtain ⟨fs,Y2⟩:∃ fs,j.ek=.st fs:=by
   cases he:j.ek with
   |st fs=>exact ⟨fs,rfl⟩
   |_=>rw [he] at hw; cases hw
  rw [Y2] at hk;unfold jl at hk;split at hk
  all_goals (try contradiction)
  rename_i UN cs h1;cases h1;rw [aaa] at hk;obtain ⟨r,hr⟩:=abQ.1 hk.2;have he:ls (qP E.P 6 kt) (.agg cs) (.agg cs)=some r:=by
   rw [Y2] at A0;have:qP E.P 6 kt=.st fs:=by
    unfold vb at A0;split at A0
    ·rename_i l hl;split at A0
     ·cases A0
     ·rw [hl,A0]
    ·rename_i k iG;exact absurd A0.symm (iG fs)
   rw [this];unfold ls;exact hr
  exact nQ b 6 10000 (by omega) kt (.agg cs) r x he hx
theorem I5 (h:bl E R w β s a) {m:SV} {es:List (AV × AV)} {x:Value} (hm:mapOf s m=some es) (hx:qQ R w β m x) :
  ∃ ax,dA R w es ax∧((x=.map none∧ax=[])∨∃ b es' clock,x=.map (some b)∧w.heap[b]?=some (.map es' clock)∧es'.toList=ax):=by
 unfold mapOf at hm;split at hm
 ·cases hm;have oJ:Rel R w .kv x:=hx;cases oJ;exact ⟨[],trivial,.inl ⟨rfl,rfl⟩⟩
 ·rename_i id;have oJ:Rel R w (.map id) x:=hx;cases oJ with
  |map hb=>
  split at hm
  ·rename_i es' hg;cases hm;obtain ⟨ax,clock,q1,q2,_⟩:=h.g.obj id _ _ hg hb;exact ⟨ax.toList,q2,.inr ⟨_,ax,clock,rfl,q1,rfl⟩⟩
  ·cases hm
 ·cases hm
theorem Dt {t:TypeId} {z:AV} {i:TypeInfo} (h1:E.P.info? t=some i) (h2:gf i=some z):∃ c,(zeroValue t).run E.P w=.ok c w∧Rel R w z c:=by
 obtain ⟨c,hc,hr⟩:=dj h2;exact ⟨c,by simp [zeroValue,typeInfo,run_program,h1,hc],hr R w⟩
theorem sU (h:bl E R w β s a) (t:TypeId) (x y:Operand) (ok:Bool) (ho:o.op=.lookup t x y ok) {v:AV} {b:Bool} (hv:mE E s t (bJ E s.ae x) (bJ E s.ae y)=some (v,b)) :
  cm E R w β s a o (s.put o.dst (.v (if ok then .bk [v,.bool b] else v))):=by
 have rx:=aT h x;have ry:=aT h y;unfold mE at hv;split at hv
 ·rename_i i es k hi hm hk;rw [hk] at ry;have qY:Rel R w k (a.eval y):=ry;obtain ⟨ax,hM,fy⟩:=I5 h hm rx;obtain ⟨hJ,u,e1,e2,e3,e4,e5,e6⟩:=cu E hi;split at hv
  ·rename_i kt et z Kr;split at hv
   ·rename_i j hj;split at hv
    ·rename_i hc;rw [aaa] at hc;rw [Kr] at e5;obtain ⟨rfl,ie,g1,g2⟩:=mK e5;have A0:=K7 hj;have XY:=hc.1;rw [A0] at XY;obtain ⟨d,hu,hd⟩:∃ d,E.P.underlying kt=some d∧Dr j.ek d:=by
      rw [A0];exact vl XY
     have OZ:∀ b,(aac b 10000 kt (a.eval y)).run E.P w=.ok () w:=fun b=>run_checkKey hj hu hd hc.2 qY b
     have fin:∀ r,jY j.ek k es=some r→r.getD z=v→r.isSome=b→cm E R w β s a o (s.put o.dst (.v (if ok then .bk [v,.bool b] else v))):=fun r hr q1 q2=>by
      subst q1 q2;have rel:∀ c,Rel R w (r.getD z) c→Rel R w (if ok then .bk [r.getD z,.bool r.isSome] else r.getD z) (if ok then .tuple #[c,.bool r.isSome] else c):=fun c k2=>by
       cases ok
       ·exact k2
       ·exact Rel.bk (vs:=[c,.bool r.isSome]) (.cons k2 (.cons (.bool _) .nil))
      cases r with
      |none=>
       obtain ⟨c,k1,k2⟩:=Dt (R:=R) (w:=w) g1 g2;have Fc:(aab kt (a.eval y) ax).run E.P w=.ok none w:=sS hj hu hd qY hM hr;refine ao h (c:=if ok then .tuple #[c,.bool false] else c) ?_ (rel c k2);rcases fy with ⟨hx,rfl⟩|⟨b,es',clock,hx,hb,rfl⟩
       ·simp [execOp,ho,abR,hx,run_underlying e2,OZ,Fc,k1]
       ·simp [execOp,ho,abR,hx,run_underlying e2,getObj,aa3,hb,OZ,Fc,k1]
      |some v=>
       obtain ⟨j',c,q1,q2⟩:=sT hj hu hd qY hM hr;have Fc:(aab kt (a.eval y) ax).run E.P w=.ok (some (j',c)) w:=q1;refine ao h (c:=if ok then .tuple #[c,.bool true] else c) ?_ (rel c q2);rcases fy with ⟨hx,rfl⟩|⟨b,es',clock,hx,hb,rfl⟩
       ·simp [execOp,ho,abR,hx,run_underlying e2,OZ,Fc]
       ·simp [execOp,ho,abR,hx,run_underlying e2,getObj,aa3,hb,OZ,Fc]
     split at hv
     ·rename_i v' hr; cases hv; exact fin _ hr rfl rfl
     ·rename_i hr; cases hv; exact fin _ hr rfl rfl
     ·cases hv
    ·cases hv
   ·cases hv
  ·cases hv
 ·cases hv
theorem A6 {R':ak} {w':World} (h:bl E R w β s a) (t:TypeId) (z:AV) (e:Ext R w R' w') {c:Value} (hc:Rel R' w' z c):Rel R' w' (Da E s.G t z) c:=by
 unfold Da;split
 ·rename_i e1 sz p bR lG;split
  ·rename_i fid acN;obtain ⟨fs,KT,_⟩:=xL acN;rw [Nat.sub_zero] at KT;have bZ:=b7 KT;rw [← h.g.len] at bZ;obtain ⟨ro,b6⟩:∃ ro,nth R.obj fid=some ro:=⟨R.obj[fid],by rw [bg]; exact aaM bZ⟩;have cR:=h.g.obj fid _ _ KT b6;have hn:xn ro:=by
    cases ro with
    |none=>exact cR.elim
    |bO=>exact cR.elim
    |ca _=>exact cR.elim
    |tok _ _ _=>exact cR.elim
    |bB ts=>trivial
   obtain ⟨mI,q1,q2⟩:=e.obj fid _ b6;cases hc with
   |kz=>exact .nJ q1 (hn.mono q2)
   |list _ _ _ hk=>exact hk.elim
  ·exact hc
 ·exact hc
theorem Du (h:bl E R w β s a) (t:TypeId) (x y:Operand) (ok:Bool) (ho:o.op=.lookup t x y ok) {v:AV} {b:Bool} (hv:lE E s t (bJ E s.ae x) (bJ E s.ae y)=some (v,b)) :
  cm E R w β s a o (s.put o.dst (.v (if ok then .bk [v,.bool b] else v))):=by
 unfold lE at hv;split at hv
 ·rename_i v0 h0;cases hv;refine cm.K0 (sU h t x y ok ho h0) (fun R' w' ex c hc=>?_);cases ok with
  |false=>exact A6 h t _ ex hc
  |true=>
   have hc:Rel R' w' (.bk [v0,.bool false]) c:=hc;cases hc with
   |bk h1=>
   cases h1 with
   |cons h1 h2=>exact Rel.bk (.cons (A6 h t _ ex h1) h2)
 ·exact sU h t x y ok ho hv
theorem HL {kt:TypeId} {j:TI} (hj:E.ti kt=some j) (hp:j.ek.plain=true):∃ d,E.P.underlying kt=some d∧Dr j.ek d:=by
 have A0:=K7 hj;rw [A0] at hp ⊢;exact vl hp
theorem I6 (x:ByteArray):(x == x)=true:=by rw [beq_toListBytes]; simp
theorem gU {k:AV} {x:Value} (hp:gj k=true) (hx:Rel R w k x) (n:Nat):aaX n x x=true:=by
 unfold gj at hp;split at hp
 ·cases hx; cases n <;> simp [aaX]
 ·cases hx; cases n <;> simp [aaX]
 ·cases hx; cases n <;> (simp only [aaX]; exact I6 _)
 ·cases hp
theorem sV (n:Nat):∀ {cs:List AV} {vs:List Value},cs.all gj=true→aK R w cs vs→((vs.zip vs).all fun (x,y)=>aaX n x y)=true
 |[],_,_,.nil=>rfl
 |a :: cs,_,h,.cons h1 h2=>by
  rw [List.all_cons,aaa] at h;simp only [List.zip_cons_cons,List.all_cons,gU h.1 h1 n,sV n h.2 h2,Bool.and_self]
theorem B8 (n:Nat) {vs:Array Value} (h:((vs.toList.zip vs.toList).all fun (x,y)=>aaX n x y)=true):aaX (n+1) (.agg vs) (.agg vs)=true:=by
 simp only [aaX,beq_self_eq_true,Bool.true_and];exact h
theorem po {e:EK} {k:AV} {x:Value} (hp:jl e k=true) (hx:Rel R w k x):aaX 10000 x x=true:=by
 unfold jl at hp;split at hp
 ·exact gU rfl hx _
 ·exact gU rfl hx _
 ·exact gU rfl hx _
 ·rw [aaa] at hp;cases hx with
  |agg hx _=>
  exact B8 9999 (sV 9999 hp.1 hx)
 ·cases hp
theorem jQ.push {ax:Array MapEntry} {clock:Nat} (h:jQ ax clock) (x c:Value):jQ (ax.push { key:=x,val:=c,born:=clock }) (clock+1):=by
 obtain ⟨rfl,h2⟩:=h;refine ⟨by simp,fun i e he=>?_⟩;rw [abO] at he;rcases Nat.lt_or_ge i ax.toList.length with bZ|mz
 ·rw [List.getElem?_append_left bZ] at he;exact h2 i e he
 ·rw [List.getElem?_append_right mz] at he;have hl:=(List.getElem?_eq_some_iff.1 he).1;have hl:i - ax.toList.length < 1:=hl;have h0:i - ax.toList.length=0:=by omega
  rw [h0] at he;simp only [abS,ab6] at he;subst he;have hs:ax.toList.length=ax.size:=aaR;show ax.size=i;omega
theorem jQ.modify {ax:Array MapEntry} {clock:Nat} (h:jQ ax clock) (n:Nat) (x c:Value):jQ (ax.modify n fun e=>{ e with key:=x,val:=c }) clock:=by
 obtain ⟨rfl,h2⟩:=h;refine ⟨by simp,fun i e he=>?_⟩;rw [aaZ,aa4] at he;cases hi:ax.toList[i]? with
 |none=>rw [hi] at he; cases he
 |some e'=>
  rw [hi] at he;have h3:=h2 i e' hi;have he:(if n=i then { key:=x,val:=c,born:=e'.born } else e':MapEntry)=e:=abU he;by_cases hn:n=i
  ·rw [if_pos hn] at he;subst he; exact h3
  ·rw [if_neg hn] at he;subst he; exact h3
theorem pq (h:bl E R w β s a) (t:TypeId) (x y z:Operand) (ho:o.op=.mapUpdate t x y z∨o.op=.insert t x y z) (hd:o.dst=none) {s':St} (hv:fc E s t (bJ E s.ae x) (bJ E s.ae y) (bJ E s.ae z)=some s') :
  cm E R w β s a o s':=by
 have rx:=aT h x;have ry:=aT h y;have rz:=aT h z;unfold fc at hv;split at hv
 ·rename_i i id k v hi hm hk hz;rw [hm] at rx;rw [hk] at ry;rw [hz] at rz;have dN:Rel R w (.map id) (a.eval x):=rx;have qY:Rel R w k (a.eval y):=ry;have rz':Rel R w v (a.eval z):=rz;split at hv
  ·rename_i kt et ez es Kr hg;split at hv
   ·rename_i j hj;split at hv
    ·rename_i hc;rw [aaa] at hc;split at hv
     ·rename_i es' Fu;cases hv;obtain ⟨hJ,u,e1,e2,e3,e4,e5,e6⟩:=cu E hi;rw [Kr] at e5;obtain ⟨rfl,ie,g1,g2⟩:=mK e5;obtain ⟨d,hu,hD⟩:=HL hj hc.1;generalize fy:a.eval x=xv at dN;cases dN with
      | @map _ b hb=>
      obtain ⟨ax,clock,q1,q2,q3⟩:=h.g.obj id _ _ hg hb;have bZ:=bi q1;have OZ:(aac false 10000 kt (a.eval y)).run E.P w=.ok () w:=run_checkKey hj hu hD hc.2 qY _;have j5:(getObj b).run E.P w=.ok (.map ax clock) w:=by simp [getObj,aa3,q1]
      have xM:∀ o',(setObj b o').run E.P w=.ok () (World.put w b o'):=fun o'=>by
       simp [setObj,aa3,World.put,q1]
      have fin:∀ kC je,dA R w es' kC.toList→jQ kC je→(execOp a.eval o).run E.P w=.ok .skip (World.put w b (.map kC je)) →
        cm E R w β s a o (s.cD (aF s.G id (.map es'))):=fun kC je k1 k2 k3=>by
       have hex:=nP (R:=R) (x':=.map kC je) q1 trivial trivial (fun _ e=>by cases e);obtain ⟨p1,p2⟩:=h.setObj (x':=.map kC je) (go':=.map es') hb q1 trivial trivial (fun _ e=>by cases e) ⟨kC,je,gN w b _ bZ,k1.mono hex,k2⟩;refine ⟨.skip,undef,_,R,β,k3,.inr ⟨rfl,rfl⟩,?_,p2⟩;rw [hd];exact p1
      rcases rN hj hu hD qY rz' q2 Fu with ⟨k1,_,k2⟩|⟨n,c',k1,⟨_,en,k2,k3,_⟩,k4⟩
      ·have Fc:(aab kt (a.eval y) ax.toList).run E.P w=.ok none w:=k1;refine fin (ax.push { key:=a.eval y,val:=a.eval z,born:=clock }) (clock+1) (by rw [abO]; exact k2 clock) (q3.push _ _) ?_
       ·rcases ho with ho|ho <;> simp [execOp,ho,Instr.mapUpdate,fy,run_underlying e2,j5,OZ,Fc,xM]
      ·have Fc:(aab kt (a.eval y) ax.toList).run E.P w=.ok (some (n,c')) w:=k1;have hen:ax[n]?=some en:=by rw [← abV]; exact k2
       have xH:(aa6 (a.eval y) (a.eval y)).run E.P w=.ok (a.eval y) w:=by simp [aa6,po hc.2 qY]
       refine fin (ax.modify n fun e=>{ e with key:=a.eval y,val:=a.eval z }) clock (by rw [aaZ]; exact k4) (q3.modify n _ _) ?_
       ·rcases ho with ho|ho <;> simp [execOp,ho,Instr.mapUpdate,fy,run_underlying e2,j5,OZ,Fc,hen,k3,xH,xM]
     ·cases hv
    ·cases hv
   ·cases hv
  ·cases hv
 ·cases hv
theorem FN (h:bl E R w β s a) (t:TypeId) (x:Operand) (ho:o.op=.range t x) {i:TI} {l:List UInt8} (hi:E.ti t=some i) (hk:i.k=.str) (hx:bJ E s.ae x=.v (.str l)) :
  cm E R w β s a o ((s.dQ (.gB l 0)).put o.dst (.v (.ptr s.G.length 0))):=by
 have rx:=aT h x;rw [hx] at rx;have dN:Rel R w (.str l) (a.eval x):=rx;obtain ⟨hJ,u,e1,e2,e3,e4,e5,e6⟩:=cu E hi;rw [hk] at e5;have hu:=kA e5;subst hu;have iE:gK (R.add (.ca w.heap.size)) (w.alloc (.stringIter ⟨⟨l⟩⟩ 0)) (.gB l 0) (.ca w.heap.size):=heap_alloc_new w _;refine ⟨_,.pointer (some ⟨w.heap.size,0,none⟩),w.alloc (.stringIter ⟨⟨l⟩⟩ 0),R.add (.ca w.heap.size),β,?_,.inl rfl,(h.mg (.stringIter ⟨⟨l⟩⟩ 0) (.gB l 0) (.ca w.heap.size) (by exact fun _ h=>h) iE).put o.dst (x:=.v (.ptr s.G.length 0)) (Rel.ptr (gq h _)),by rw [a6]; exact cZ h _ _ (by exact fun _ h=>h)⟩;generalize fy:a.eval x=xv at dN;cases dN;simp only [execOp,ho,fy,Instr.range,aaC,run_underlying e2,run_newObj,aaB,aaY];rfl
theorem FO (l:List UInt8) (pos:Nat) (h:pos < l.length):bp l pos=Utf8.decode ⟨⟨l⟩⟩ pos:=by
 unfold bp;cases hb:Nat.blt (l.getD pos 0).toNat 128 with
 |false=>rfl
 |true=>
  have bZ:(l.getD pos 0).toNat < 128:=abK hb;have e:(acg ⟨⟨l⟩⟩ (pos+0))=l.getD pos 0:=by
   simp [acg,h,List.getD_eq_getElem?_getD]
  simp only [cond_true,Utf8.decode,e];rw [if_pos (show (l.getD pos 0).toNat < 0x80 from bZ)]
theorem I7 (h:bl E R w β s a) (x:Operand) (ho:o.op=.next x true) {s':St} (hv:lF s o.dst (bJ E s.ae x)=some s'):cm E R w β s a o s':=by
 have rx:=aT h x;unfold lF at hv;split at hv
 ·rename_i id hx;rw [hx] at rx;have dN:Rel R w (.ptr id 0) (a.eval x):=rx;generalize fy:a.eval x=xv at dN;cases dN with
  | @ptr _ _ b hb=>
  split at hv
  ·rename_i l pos hg;have q1:w.heap[b]?=some (.stringIter ⟨⟨l⟩⟩ pos):=h.g.obj id _ _ hg hb;have bZ:=bi q1;have j5:(getObj b).run E.P w=.ok (.stringIter ⟨⟨l⟩⟩ pos) w:=by simp [getObj,aa3,q1]
   have xM:∀ o',(setObj b o').run E.P w=.ok () (World.put w b o'):=fun o'=>by
    simp [setObj,aa3,World.put,q1]
   cases gL:Nat.blt pos l.length with
   |true=>
    rw [gL] at hv;have hp:pos < l.length:=abK gL;simp only [cond_true] at hv;generalize vZ:bp l pos=p at hv;obtain ⟨c,n⟩:=p;cases hv;rw [FO l pos hp] at vZ;obtain ⟨p1,p2⟩:=h.setObj (x':=.stringIter ⟨⟨l⟩⟩ (pos+n)) (go':=.gB l (pos+n)) hb q1 trivial trivial (fun _ e=>by cases e) (gN w b _ bZ);have eY:pos < (⟨⟨l⟩⟩:ByteArray).size:=hp;refine ⟨.value (.tuple #[.bool true,.int .i64 pos,.int .i32 c]),_,_,R,β,?_,.inl rfl,p1.put o.dst (x:=.v (.bk [.bool true,.int .i64 pos,.int .i32 c])) (Rel.bk (vs:=[.bool true,.int .i64 pos,.int .i32 c]) (.cons (.bool _) (.cons (.int _ _) (.cons (.int _ _) .nil)))),by rw [a6]; exact p2⟩;simp [execOp,ho,fy,Instr.next,j5,eY,vZ,xM,goInt]
   |false=>
    rw [gL] at hv;simp only [cond_false] at hv;cases hv;have hp:¬ pos < l.length:=fun hh=>by
     have:Nat.blt pos l.length=true:=Nat.ble_eq_true_of_le hh;rw [gL] at this; cases this
    have eY:¬ pos < (⟨⟨l⟩⟩:ByteArray).size:=hp;refine ao h (c:=.tuple #[.bool false]) ?_ (Rel.bk (vs:=[.bool false]) (.cons (.bool _) .nil));simp [execOp,ho,fy,Instr.next,j5,eY]
  ·cases hv
 ·cases hv
theorem dA.get:∀ {es:List (AV × AV)} {ax:List MapEntry} {i:Nat} {e:MapEntry},dA R w es ax→ax[i]?=some e→Rel R w (dX es i).1 e.key∧Rel R w (dX es i).2 e.val
 |[],[],i,e,_,he=>by simp at he
 |(k,v) :: _,en :: _,0,e,h,he=>by
  simp only [abS,ab6] at he;subst he;exact ⟨h.1,h.2.1⟩
 |(_,_) :: es,_ :: ax,i+1,e,h,he=>by
  simp only [abT] at he;exact dA.get (es:=es) h.2.2 he
 |[],_ :: _,_,_,h,_=>h.elim
 |_ :: _,[],_,_,h,_=>h.elim
theorem FP (E:Env) (t:TypeId) (e:AV × AV):sF E t e=(true,e.1,e.2)∨∃ pv pk:aM,sF E t e=(pk.fits e.1&&pv.fits e.2,pk.enc (pk.bA e.1),pv.enc (pv.bA e.2)):=by
 unfold sF;split
 ·split
  ·split
   ·rename_i pv pk _ _;exact .inr ⟨pv,pk,rfl⟩
   ·exact .inl rfl
  ·exact .inl rfl
 ·exact .inl rfl
theorem Dv {t:TypeId} {e:AV × AV} {x y:Value} (hf:(sF E t e).1=true) (h:Rel R w e.1 x∧Rel R w e.2 y):Rel R w (sF E t e).2.1 x∧Rel R w (sF E t e).2.2 y:=by
 rcases FP E t e with he|⟨pv,pk,he⟩
 ·rw [he]; exact h
 ·rw [he] at hf ⊢;simp only [aaa] at hf;exact ⟨(pk.dc hf.1).gY _ _ _ h.1,(pv.dc hf.2).gY _ _ _ h.2⟩
theorem Dw (h:bl E R w β s a) (t:TypeId) (x:Operand) (ho:o.op=.range t x) {i:TI} {kt et:TypeId} {ez:Option AV} {id:Nat} {es:List (AV × AV)} (hi:E.ti t=some i) (hk:i.k=.map kt et ez) (hx:bJ E s.ae x=.v (.map id)) (hg:nth s.G id=some (.map es)) :
  cm E R w β s a o ((s.dQ (.oE id es.length (List.range es.length) none t)).put o.dst (.v (.ptr s.G.length 0))):=by
 have rx:=aT h x;rw [hx] at rx;have dN:Rel R w (.map id) (a.eval x):=rx;obtain ⟨hJ,u,e1,e2,e3,e4,e5,e6⟩:=cu E hi;rw [hk] at e5;obtain ⟨rfl,ie,g1,g2⟩:=mK e5;generalize fy:a.eval x=xv at dN;cases dN with
 | @map _ b hb=>
 obtain ⟨ax,clock,q1,q2,q3,q4⟩:=h.g.obj id _ _ hg hb;have hlen:=q2.length;have bZ:=bi q1;subst q3;have iE:gK (R.add (.ca w.heap.size)) (w.alloc (.mapIter (some b) ax.size #[] ax.size)) (.oE id es.length (List.range es.length) none t) (.ca w.heap.size):=by
  refine ⟨b,#[],ax.size,dq hb,?_,fun j hj=>?_,fun j hj=>List.mem_range.1 hj,List.nodup_range,?_,fun i hi=>by cases hi⟩
  ·rw [hlen,aaR]; exact heap_alloc_new w _
  ·simp [List.mem_range,hj]
  ·rw [hlen,aaR]; exact Nat.le_refl _
 refine ⟨_,.pointer (some ⟨w.heap.size,0,none⟩),w.alloc (.mapIter (some b) ax.size #[] ax.size),R.add (.ca w.heap.size),β,?_,.inl rfl,(h.mg _ _ (.ca w.heap.size) (by exact fun _ h=>h) iE).put o.dst (x:=.v (.ptr s.G.length 0)) (Rel.ptr (gq h _)),by rw [a6]; exact cZ h _ _ (by exact fun _ h=>h)⟩;have j5:(getObj b).run E.P w=.ok (.map ax ax.size) w:=by simp [getObj,aa3,q1]
 simp only [execOp,ho,fy,Instr.range,aaC,run_underlying e2,j5,run_newObj,aaB,aaY];rfl
theorem mem_erase_iff {l:List Nat} (hn:l.Nodup) (i j:Nat):j∈l.erase i↔j≠i∧j∈l:=hn.mem_erase_iff
theorem bl.drew (h:bl E R w β s a):bl E R w.drew β s a∧Step R w β s.boxes R w.drew β s.boxes:=by
 have e:Ext R w R w.drew:=⟨fun _ _ h=>h,fun _ _ _=>rfl,fun _ ro h=>⟨ro,h,cF.refl ro⟩,gE.refl w⟩;exact ⟨h.aW e rfl (fun _ _=>rfl) (fun _ _ _ hi=>hi) h.g.wf (fun hd=>Nat.le_succ_of_le hd),⟨e,rfl,rfl,rfl,Nat.le_refl _,fun _ _ _=>rfl,fun _ _ ho=>ho,fun _ _ hi _ _=>hi⟩⟩
theorem FQ (h:bl E R w β s a) (x:Operand) (ho:o.op=.next x false) {s0:St} {left:List Nat} {g:Nat→Bool × St} (hv:AS E s o.dst (bJ E s.ae x)=some (true,s0,left,g)) :
  (left=[]∧cm E R w β s a o s0)∨∃ i∈left,(g i).1=true→cm E R w β s a o (g i).2:=by
 have rx:=aT h x;unfold AS at hv;split at hv
 ·rename_i id hx;rw [hx] at rx;have dN:Rel R w (.ptr id 0) (a.eval x):=rx;generalize fy:a.eval x=xv at dN;cases dN with
  | @ptr _ _ r hr=>
  split at hv
  ·rename_i rG n A7 YR tt hg;split at hv
   ·rename_i es hm;injection hv with hv; injection hv with h1 hv; injection hv with h2 hv; injection hv with h3 h4;subst h2; subst h3; subst h4;have hn:=of_decide_eq_true h1;obtain ⟨b,seen,c0,m1,m2,m3,m4,m5,m6,_⟩:=h.g.obj id _ _ hg hr;obtain ⟨ax,clock,q1,q2,q3,q4⟩:=h.g.obj rG _ _ hm m1;subst q3;have hlen:=q2.length;have acQ:ax.toList.length=ax.size:=aaR;have eY:ax.size=n:=by omega
    have hold:∀ y∈ax.toList,y.born < n:=fun y hy=>by
     obtain ⟨i,hi,hiy⟩:=abZ hy;have:=q4 i y (by rw [aaM hi,hiy]);omega
    rcases run_next_at (P:=E.P) w o.type r b n c0 seen ax ax.size m2 q1 hold m6 with ⟨k1,k2⟩|⟨en,k1,w1,k2,k3⟩
    ·refine .inl ⟨?_,?_⟩
     ·apply List.eq_nil_iff_forall_not_mem.2;intro i hi;have FG:=m4 i hi;have hs:=(m3 i FG).1 hi;have K9:i < ax.toList.length:=by omega
      have j5:ax.toList[i]?=some ax.toList[i]:=aaM K9;have hb:=q4 i _ j5;have qT:ax.toList[i]∈(leftOf ax seen).toList:=by
       unfold leftOf;rw [ab0,List.mem_filter];exact ⟨List.getElem_mem _,by rw [hb,hs]; rfl⟩
      have h0:(leftOf ax seen).toList=[]:=List.eq_nil_of_length_eq_zero (by rw [aaR]; exact k1);rw [h0] at qT;simp at qT
     ·refine ao h (c:=.tuple #[.bool false]) ?_ (Rel.bk (vs:=[.bool false]) (.cons (.bool _) .nil));simp [execOp,ho,fy,k2]
    ·have qT:en∈ax.toList∧seen.contains en.born=false:=by
      unfold leftOf at k1;rw [ab0,List.mem_filter] at k1;exact ⟨k1.1,by simpa using k1.2⟩
     obtain ⟨i,hi,hie⟩:=abZ qT.1;have j5:ax.toList[i]?=some en:=by rw [aaM hi,hie]
     have hb:=q4 i en j5;have FG:i < n:=by omega
     have K9:i∈A7:=(m3 i FG).2 (by rw [← hb]; exact qT.2);refine .inr ⟨i,K9,fun wh=>?_⟩
     -- the world, perhaps one draw on
     have hw1:bl E R w1 β s a∧Step R w β s.boxes R w1 β s.boxes:=by
      rcases k2 with rfl|rfl
      ·exact ⟨h,Step.refl _ _ _ _⟩
      ·exact h.drew
     obtain ⟨cR,lu⟩:=hw1;have xQ:w1.heap[r]?=some (.mapIter (some b) n seen c0):=by rcases k2 with rfl | rfl <;> exact m2
     have bZ:=bi xQ;have Y3:(setBlock w1 r (.mapIter (some b) n (seen.push en.born) ax.size))=World.put w1 r (.mapIter (some b) n (seen.push en.born) ax.size):=rfl;have hex:=nP (R:=R) (x':=.mapIter (some b) n (seen.push en.born) ax.size) xQ trivial trivial (fun _ e=>by cases e);obtain ⟨p1,p2⟩:=cR.setObj (x':=.mapIter (some b) n (seen.push en.born) ax.size) (go':=.oE rG n (A7.erase i) (some i) tt) hr xQ trivial trivial (fun _ e=>by cases e)
      ⟨b,seen.push en.born,ax.size,m1,gN w1 r _ bZ,fun j hj=>by
       rw [mem_erase_iff m5,Array.contains_push,m3 j hj,hb];by_cases e:j=i
       ·subst e; simp
       ·have e':¬ i=j:=fun h=>e h.symm
        simp [e,e'],fun j hj=>m4 j (List.mem_of_mem_erase hj),m5.erase i,by omega,fun j hj=>by
       cases hj;exact ⟨by rw [hb]; simp,eY⟩⟩
     obtain ⟨z1,z2⟩:=Dv wh (q2.get j5);have Y4:=lu.ext.trans p2.ext;refine ⟨.value (.tuple #[.bool true,en.key,en.val]),_,_,R,β,?_,.inl rfl,p1.put o.dst (x:=.v (.bk [.bool true,(sF E tt (dX es i)).2.1,(sF E tt (dX es i)).2.2])) (Rel.bk (vs:=[.bool true,en.key,en.val]) (.cons (.bool _) (.cons (z1.mono Y4) (.cons (z2.mono Y4) .nil)))),by rw [a6]; exact lu.trans p2⟩;simp [execOp,ho,fy,k3,Y3]
   ·cases hv
  ·cases hv
 ·cases hv
theorem xR:∀ (l:List MapEntry) (off i:Nat),(∀ (k:Nat) (e:MapEntry),l[k]?=some e→e.born=off+k)→i < l.length→l.find? (fun e=>e.born == off+i)=l[i]?
 |[],_,_,_,h=>by simp at h
 |e :: l,off,0,hs,_=>by
  have:=hs 0 e rfl;simp [this]
 |e :: l,off,i+1,hs,h=>by
  have h0:=hs 0 e rfl;have cQ:(e.born == off+(i+1))=false:=by simp; omega
  rw [List.find?_cons_of_neg (by simp [cQ]),abT];have:=xR l (off+1) i (fun k e' hk=>by have:=hs (k+1) e' (by simpa using hk); omega) (by simpa using h);rw [show off+(i+1)=off+1+i by omega];exact this
theorem q9:∀ (l:List MapEntry) (off i:Nat),(∀ (k:Nat) (e:MapEntry),l[k]?=some e→e.born=off+k)→i < l.length→l.findIdx? (fun e=>(e.born:Int) == ((off+i:Nat):Int))=some i
 |[],_,_,_,h=>by simp at h
 |e :: l,off,0,hs,_=>by
  have:=hs 0 e rfl;simp [List.findIdx?_cons,this]
 |e :: l,off,i+1,hs,h=>by
  have h0:=hs 0 e rfl;have cQ:((e.born:Int) == ((off+(i+1):Nat):Int))=false:=by simp; omega
  have:=q9 l (off+1) i (fun k e' hk=>by have:=hs (k+1) e' (by simpa using hk); omega) (by simpa using h);rw [show off+1+i=off+(i+1) by omega] at this;rw [List.findIdx?_cons,cQ,this];rfl
theorem jQ.aW {ax:Array MapEntry} {clock:Nat} (h:jQ ax clock) (n:Nat) {f:MapEntry→MapEntry} (hf:∀ e,(f e).born=e.born):jQ (ax.modify n f) clock:=by
 obtain ⟨rfl,h2⟩:=h;refine ⟨by simp,fun i e he=>?_⟩;rw [aaZ,aa4] at he;cases hi:ax.toList[i]? with
 |none=>rw [hi] at he; cases he
 |some e'=>
  rw [hi] at he;have h3:=h2 i e' hi;have he:(if n=i then f e' else e')=e:=abU he;by_cases hn:n=i
  ·rw [if_pos hn] at he;subst he; rw [hf]; exact h3
  ·rw [if_neg hn] at he;subst he; exact h3
theorem dA.jP {v:AV} {c:Value} (hv:Rel R w v c):∀ {es:List (AV × AV)} {ax:List MapEntry} (n:Nat),dA R w es ax→dA R w (jP es n v) (ax.modify n fun e=>{ e with val:=c })
 |[],[],n,_=>by cases n <;> trivial
 |[],_ :: _,_,h=>h.elim
 |_ :: _,[],_,h=>h.elim
 |(_,_) :: _,_ :: _,0,h=>by
  rw [abu];exact ⟨h.1,hv,h.2.2⟩
 |(_,_) :: _,_ :: _,n+1,h=>by
  rw [abJ];exact ⟨h.1,h.2.1,dA.jP hv n h.2.2⟩
theorem TL {e:EK} {k k':AV} (h:(E7 e k k').isSome=true):E7 e k k'=some (xm e k k'):=by
 obtain ⟨b,hb⟩:=abQ.1 h;simp only [xm,hb]
theorem Dx {e:EK} {k:AV}:∀ {es:List (AV × AV)},gC e k es=true→jY e k es=some (ky e k es)
 |[],_=>rfl
 |(k',v) :: es,h=>by
  simp only [gC,aaa] at h;simp only [jY,ky,TL h.1];cases hb:xm e k k' with
  |true=>rfl
  |false=>simp only [cond_false]; exact Dx h.2
theorem HM {e:EK} {k v:AV}:∀ {es:List (AV × AV)},gC e k es=true→tZ e k v es=some (gJ e k v es)
 |[],_=>rfl
 |(k',v') :: es,h=>by
  simp only [gC,aaa] at h;simp only [tZ,gJ,TL h.1];cases hb:xm e k k' with
  |true=>rfl
  |false=>simp only [cond_false,HM h.2]
theorem FR (h:bl E R w β s a) (x:Operand) (ho:o.op=.entry x) {v:AV} (hv:ub E s (bJ E s.ae x)=some (true,v)):cm E R w β s a o (s.put o.dst (.v v)):=by
 have rx:=aT h x;unfold ub at hv;split at hv
 ·rename_i id hx;rw [hx] at rx;have dN:Rel R w (.ptr id 0) (a.eval x):=rx;generalize fy:a.eval x=xv at dN;cases dN with
  | @ptr _ _ r hr=>
  split at hv
  ·rename_i rG n A7 i tt hg;split at hv
   ·rename_i es hm;injection hv with hv; injection hv with h1 h2;subst h2;rw [aaa,aaa,decide_eq_true_eq,decide_eq_true_eq] at h1;obtain ⟨⟨hn,hi⟩,wh⟩:=h1;obtain ⟨b,seen,c0,m1,m2,m3,m4,m5,m6,m7⟩:=h.g.obj id _ _ hg hr;obtain ⟨z1,z2⟩:=m7 i rfl;obtain ⟨ax,clock,q1,q2,q3,q4⟩:=h.g.obj rG _ _ hm m1;subst q3;have hlen:=q2.length;have acQ:ax.toList.length=ax.size:=aaR;have K9:i < ax.toList.length:=by omega
    have hfd:ax.find? (fun e=>e.born == i)=some ax.toList[i]:=by
     have:=xR ax.toList 0 i (fun k e hk=>by rw [aa5]; exact q4 k e hk) K9;rw [aa5,aaM K9] at this;rw [← this]; simp
    have j5:ax.toList[i]?=some ax.toList[i]:=aaM K9;obtain ⟨y1,y2⟩:=Dv wh (q2.get j5);have hc:ax.size=c0:=by omega
    refine ao h (c:=.tuple #[(ax.toList[i]).key,(ax.toList[i]).val]) ?_ (Rel.bk (vs:=[(ax.toList[i]).key,(ax.toList[i]).val]) (.cons y1 (.cons y2 .nil)));simp [execOp,ho,fy,Instr.entry,getObj,aa3,m2,z1,q1,hc,hfd]
   ·cases hv
  ·cases hv
 ·cases hv
theorem Ap (h:bl E R w β s a) (t:TypeId) (x y:Operand) (ho:o.op=.mapEntry t x y) {v:AV} {s':St} (hv:gk E s t (bJ E s.ae x) (bJ E s.ae y)=some (true,v,s')) :
  cm E R w β s a o (s'.put o.dst (.v v)):=by
 have rx:=aT h x;have ry:=aT h y;unfold gk at hv;split at hv
 ·rename_i i id k hi hm hk;rw [hm] at rx;rw [hk] at ry;have dN:Rel R w (.map id) (a.eval x):=rx;have qY:Rel R w k (a.eval y):=ry;split at hv
  ·rename_i kt et z es Kr hg;split at hv
   ·rename_i j hj;split at hv
    ·rename_i hc;rw [aaa] at hc;injection hv with hv; injection hv with hmk hv; injection hv with h2 h3;subst h2; subst h3;obtain ⟨hJ,u,e1,e2,e3,e4,e5,e6⟩:=cu E hi;rw [Kr] at e5;obtain ⟨rfl,ie,g1,g2⟩:=mK e5;obtain ⟨d,hu,hD⟩:=HL hj hc.1;generalize fy:a.eval x=xv at dN;cases dN with
     | @map _ b hb=>
     obtain ⟨ax,clock,q1,q2,q3⟩:=h.g.obj id _ _ hg hb;have bZ:=bi q1;have OZ:(aac false 10000 kt (a.eval y)).run E.P w=.ok () w:=run_checkKey hj hu hD hc.2 qY _;have j5:(getObj b).run E.P w=.ok (.map ax clock) w:=by simp [getObj,aa3,q1]
     have xM:∀ o',(setObj b o').run E.P w=.ok () (World.put w b o'):=fun o'=>by
      simp [setObj,aa3,World.put,q1]
     have fin:∀ es' kC je c (n:Nat),dA R w es' kC.toList→jQ kC je→(execOp a.eval o).run E.P w=.ok (.value (.tuple #[c,.int .i64 n])) (World.put w b (.map kC je))→Rel R w (eK j.ek k z es) c→n=iC j.ek k es→es'=gJ j.ek k (eK j.ek k z es) es →
       cm E R w β s a o ((s.cD (aF s.G id (.map (gJ j.ek k (eK j.ek k z es) es)))).put o.dst (.v (.bk [eK j.ek k z es,.int .i64 (iC j.ek k es:Nat)]))):=fun es' kC je c n k1 k2 k3 k4 k5 k6=>by
      subst k5; subst k6;have hex:=nP (R:=R) (x':=.map kC je) q1 trivial trivial (fun _ e=>by cases e);obtain ⟨p1,p2⟩:=h.setObj (x':=.map kC je) (go':=.map (gJ j.ek k (eK j.ek k z es) es)) hb q1 trivial trivial (fun _ e=>by cases e) ⟨kC,je,gN w b _ bZ,k1.mono hex,k2⟩;exact ⟨.value (.tuple #[c,.int .i64 (iC j.ek k es:Nat)]),_,_,R,β,k3,.inl rfl,p1.put o.dst (x:=.v (.bk [eK j.ek k z es,.int .i64 (iC j.ek k es:Nat)])) (Rel.bk (vs:=[c,.int .i64 (iC j.ek k es:Nat)]) (.cons (k4.mono p2.ext) (.cons (.int _ _) .nil))),by rw [a6]; exact p2⟩
     have hmf:=Dx hmk;have Fu:=HM (v:=eK j.ek k z es) hmk;cases I0:ky j.ek k es with
     |none=>
      rw [I0] at hmf;have Y5:eK j.ek k z es=z:=by unfold eK; rw [I0]; rfl
      obtain ⟨c,k1,k2⟩:=Dt (R:=R) (w:=w) g1 g2;have Fc:(aab kt (a.eval y) ax.toList).run E.P w=.ok none w:=sS hj hu hD qY q2 hmf;rcases rN hj hu hD qY (show Rel R w (eK j.ek k z es) c by rw [Y5]; exact k2) q2 Fu with ⟨_,k3,k4⟩|⟨n,c',k3,_⟩
      ·have eY:ax.toList.length=ax.size:=aaR;have jm:clock=ax.size:=q3.1;refine fin _ (ax.push { key:=a.eval y,val:=c,born:=clock }) (clock+1) c clock (by rw [abO]; exact k4 clock) (q3.push _ _) ?_ (by rw [Y5]; exact k2) (by rw [k3]; omega) rfl;simp [execOp,ho,Instr.mapEntry,fy,run_underlying e2,j5,OZ,Fc,xM,k1,goInt]
      ·rw [Fc] at k3;cases k3
     |some v0=>
      rw [I0] at hmf;have Y5:eK j.ek k z es=v0:=by unfold eK; rw [I0]; rfl
      obtain ⟨n0,c0,k1,k2⟩:=sT hj hu hD qY q2 hmf;have Fc:(aab kt (a.eval y) ax.toList).run E.P w=.ok (some (n0,c0)) w:=k1;rcases rN hj hu hD qY (show Rel R w (eK j.ek k z es) c0 by rw [Y5]; exact k2) q2 Fu with ⟨k3,_⟩|⟨n,c',k3,⟨k4,en,k5,k6,k7⟩,k8⟩
      ·rw [Fc] at k3;cases k3
      ·rw [Fc] at k3;cases k3;have hen:ax[n0]?=some en:=by rw [← abV]; exact k5
       have xH:(aa6 (a.eval y) (a.eval y)).run E.P w=.ok (a.eval y) w:=by simp [aa6,po hc.2 qY]
       have Y6:en.born=n0:=q3.2 n0 en k5;have acS:(ax.modify n0 fun e=>{ e with key:=a.eval y }).toList=ax.toList.modify n0 fun e=>{ e with key:=a.eval y,val:=c0 }:=by
        rw [aaZ];apply List.ext_getElem?;intro m;rw [aa4,aa4];by_cases UL:n0=m
        ·subst UL;rw [k5];simp [k7]
        ·simp [UL]
       refine fin _ (ax.modify n0 fun e=>{ e with key:=a.eval y }) clock c0 n0 (by rw [acS]; exact k8) (q3.aW n0 fun _=>rfl) ?_ (by rw [Y5]; exact k2) k4 rfl;simp [execOp,ho,Instr.mapEntry,fy,run_underlying e2,j5,OZ,Fc,xM,hen,k6,xH,Y6,goInt]
    ·cases hv
   ·cases hv
  ·cases hv
 ·cases hv
theorem wj (h:bl E R w β s a) (t:TypeId) (x y z:Operand) (ho:o.op=.entryStore t x y z) (hd:o.dst=none) {s':St} (hv:eC s (bJ E s.ae x) (bJ E s.ae y) (bJ E s.ae z)=some (true,s')) :
  cm E R w β s a o s':=by
 have rx:=aT h x;have ry:=aT h y;have rz:=aT h z;unfold eC at hv;split at hv
 ·rename_i id n v hm hk hz;rw [hm] at rx;rw [hk] at ry;rw [hz] at rz;have dN:Rel R w (.map id) (a.eval x):=rx;have qY:Rel R w (.int .i64 n) (a.eval y):=ry;have rz':Rel R w v (a.eval z):=rz;split at hv
  ·rename_i es hg;injection hv with hv; injection hv with hc h2;subst h2;rw [aaa,decide_eq_true_eq,decide_eq_true_eq] at hc;obtain ⟨m,rfl⟩:∃ m:Nat,n=m:=⟨n.toNat,by omega⟩;have OY:m < es.length:=by simpa using hc.2
   generalize fy:a.eval x=xv at dN;generalize YH:a.eval y=yv at qY;cases qY;cases dN with
   | @map _ b hb=>
   obtain ⟨ax,clock,q1,q2,q3⟩:=h.g.obj id _ _ hg hb;have bZ:=bi q1;have hlen:=q2.length;have j5:(getObj b).run E.P w=.ok (.map ax clock) w:=by simp [getObj,aa3,q1]
   have xM:∀ o',(setObj b o').run E.P w=.ok () (World.put w b o'):=fun o'=>by
    simp [setObj,aa3,World.put,q1]
   have hfi:ax.findIdx? (fun e=>(e.born:Int) == (m:Int))=some m:=by
    have:=q9 ax.toList 0 m (fun k e hk=>by rw [aa5]; exact q3.2 k e hk) (by omega);rw [aa5] at this;rw [← this];obtain ⟨l⟩:=ax;exact List.findIdx?_toArray ..
   have k1:dA R w (jP es m v) (ax.modify m fun e=>{ e with val:=a.eval z }).toList:=by rw [aaZ]; exact dA.jP rz' m q2
   have hex:=nP (R:=R) (x':=.map (ax.modify m fun e=>{ e with val:=a.eval z }) clock) q1 trivial trivial (fun _ e=>by cases e);obtain ⟨p1,p2⟩:=h.setObj (x':=.map (ax.modify m fun e=>{ e with val:=a.eval z }) clock) (go':=.map (jP es m v)) hb q1 trivial trivial (fun _ e=>by cases e) ⟨_,clock,gN w b _ bZ,k1.mono hex,q3.aW m fun _=>rfl⟩;refine ⟨.skip,undef,_,R,β,?_,.inr ⟨rfl,rfl⟩,?_,p2⟩
   ·simp [execOp,ho,Instr.entryStore,fy,YH,j5,asInt,asIntOf,hfi,xM]
   ·rw [hd];exact p1
  ·cases hv
 ·cases hv
end maps
end Go.Am
namespace Go.Am
open Go
section ops
variable {E:Env} {R:ak} {w:World} {β:Nat→Nat} {s:St} {a:Act} {o:Oper}
theorem rO {k:IntKind}:∀ {es:List AV},allFit (aM.fits (.int k)) es=true→es=(es.map AV.lr).map (AV.int k)
 |[],_=>rfl
 |e :: es,h=>by
  simp only [allFit,aaa] at h;have hr:=rO h.2;have he:e=.int k e.lr:=by
   have h1:=h.1;cases e <;> first | (cases h1; done) | skip
   have:k=_:=of_decide_eq_true (show UA _ _=true from h1);subst this;rfl
  rw [abW,abW,← he,← hr]
theorem uu {k:IntKind}:∀ {ns:List Int} {vs:List Value},aK R w (ns.map (AV.int k)) vs→vs=ns.map (ab2 k)
 |[],_,.nil=>rfl
 |n :: ns,_,.cons h t=>by
  cases h;rw [abW,← uu t]
theorem vn {k:IntKind}:∀ (ns:List Int),aq (ns.map (AV.int k))=ns.map (AV.int k)
 |[]=>rfl
 |n :: ns=>by simp [aq,AV.cells,vn ns]
theorem foldl_push (ns:List Int):∀ (l:List UInt8),ns.foldl (fun r n=>r.push (aba n.toNat)) (⟨⟨l⟩⟩:ByteArray)=⟨⟨l++ns.map fun n=>aba n.toNat⟩⟩:=by
 induction ns with
 |nil=>intro l; simp
 |cons n ns ih=>
  intro l;rw [List.foldl_cons];have:(⟨⟨l⟩⟩:ByteArray).push (aba n.toNat)=⟨⟨l++[aba n.toNat]⟩⟩:=by
   simp [ByteArray.push]
  rw [this,ih];simp
theorem Dy (ns:List Int):∀ (l:List UInt8),ns.foldl (fun r n=>r++abq n) (⟨⟨l⟩⟩:ByteArray)=⟨⟨l++ns.flatMap fun n=>(abq n).data.toList⟩⟩:=by
 induction ns with
 |nil=>intro l; simp
 |cons n ns ih=>
  intro l;rw [List.foldl_cons];have:(⟨⟨l⟩⟩:ByteArray)++abq n=⟨⟨l++(abq n).data.toList⟩⟩:=by
   apply ByteArray.ext;apply Array.ext';simp
  rw [this,ih];simp
theorem A8 {es:List AV}:fP es=(es.map AV.lr).map fun n=>aba n.toNat:=by simp [fP,List.map_map,Function.comp_def]
theorem I8 {es:List AV}:xl es=(es.map AV.lr).flatMap fun n=>(abq n).data.toList:=by simp [xl,List.flatMap_map]
theorem A9 {a:Addr} {len cap:Nat} {ns:List Int} (h:(loadCells a len).run E.P w=.ok (ns.map (ab2 .u8)).toArray w) :
  (Conv.bytesToString (.slice (some a) len cap)).run E.P w=.ok (.string ⟨⟨ns.map fun n=>aba n.toNat⟩⟩) w:=by
 rw [run_bytesToString w a len cap ns h];have:=foldl_push ns [];rw [List.nil_append] at this;exact congrArg (fun x=>Result.ok (Value.string x) w) this
theorem I9 {a:Addr} {len cap:Nat} {ns:List Int} (h:(loadCells a len).run E.P w=.ok (ns.map (ab2 .i32)).toArray w) :
  (Conv.runesToString (.slice (some a) len cap)).run E.P w=.ok (.string ⟨⟨ns.flatMap fun n=>(abq n).data.toList⟩⟩) w:=by
 rw [run_runesToString w a len cap ns h];have:=Dy ns [];rw [List.nil_append] at this;exact congrArg (fun x=>Result.ok (Value.string x) w) this
theorem Ba {k:IntKind} {lk:LK} {sz:Nat} {es:List AV} {c:Value} (h:Rel R w (.list lk sz es) c) (hs:(Nat.beq sz 1 || es.isEmpty)=true) (hf:allFit (aM.fits (.int k)) es=true) :
  (es=[]∧c=.slice none 0 0)∨∃ a cap,c=.slice (some a) es.length cap∧(loadCells a es.length).run E.P w=.ok ((es.map AV.lr).map (ab2 k)).toArray w:=by
 obtain ⟨_,vs,h1,h2,h3,h4⟩:=hY (esz:=1) h (by
  simp only [Bool.or_eq_true] at hs;rcases hs with hs|hs
  ·exact .inr (Nat.eq_of_beq_eq_true hs)
  ·exact .inl (by simpa using hs))
 rw [rO hf,vn] at h1;have hv:=uu h1;rcases h4 with ⟨he,_,ad,hc,_⟩|⟨b,o',cap,hc,_,_,fT,_⟩
 ·cases ad with
  |none=>exact .inl ⟨he,hc⟩
  |some ad=>
   subst he;exact .inr ⟨ad,0,hc,by simp [loadCells,loadCellsFrom]⟩
 ·refine .inr ⟨_,cap,hc,?_⟩;have:=run_loadCells_list (P:=E.P) w ⟨b,o',none⟩ vs fT;rw [h3,Nat.mul_one] at this;rw [this,hv]
theorem B9 (h:bl E R w β s a) (t u:TypeId) (x:Operand) (ho:o.op=.convert t u x) {v:AV} (hc:mG E s t u (bJ E s.ae x)=some (true,v)) :
  cm E R w β s a o (s.put o.dst (.v v)):=by
 have rx:=aT h x;unfold mG at hc;split at hc
 ·rename_i i j q hi hj hx;rw [hx] at rx;have dN:Rel R w q (a.eval x):=rx;generalize fy:a.eval x=xv at dN;obtain ⟨hJ,ud,e1,e2,e3,e4,e5,e6⟩:=cu E hj;obtain ⟨Y0,ud',e1',X3,e3',e4',e5',e6'⟩:=cu E hi;split at hc
  ·rename_i k _ n hk;cases hc;cases dN;rw [hk] at e5;have:=sL e5;subst this;refine ao h (c:=.int k (k.wrap n)) ?_ (Rel.int _ _);simp [execOp,ho,convert,run_underlying X3,run_underlying e2,fy,Conv.intToInt]
  ·rename_i lk sz es hk;rw [hk] at e5;have:=kA e5;subst this;split at hc
   ·rename_i elem ag eb z Kr;rw [Kr] at e5';obtain ⟨ie,ue,rfl,_⟩:=ee e5';split at hc
    ·rename_i e he;obtain ⟨Y7,ud2,f1,f2,f3,f4,f5,f6⟩:=cu E he;split at hc
     ·rename_i A0;injection hc with hc; injection hc with c1 c2;subst c2;rw [aaa] at c1;rw [A0] at f5;have:=sL f5;subst this;refine ao h (c:=.string ⟨⟨fP es⟩⟩) ?_ (Rel.str _);rcases Ba (E:=E) dN c1.1 c1.2 with ⟨rfl,rfl⟩|⟨ad,cap,rfl,hl⟩
      ·simp [execOp,ho,convert,run_underlying X3,run_underlying e2,run_underlying f2,fy,Conv.bytesToString,fP];rfl
      ·have hr:=A9 (E:=E) (cap:=cap) hl;rw [← A8] at hr;simp [execOp,ho,convert,run_underlying X3,run_underlying e2,run_underlying f2,fy,hr]
     ·rename_i A0;injection hc with hc; injection hc with c1 c2;subst c2;rw [aaa] at c1;rw [A0] at f5;have:=sL f5;subst this;refine ao h (c:=.string ⟨⟨xl es⟩⟩) ?_ (Rel.str _);rcases Ba (E:=E) dN c1.1 c1.2 with ⟨rfl,rfl⟩|⟨ad,cap,rfl,hl⟩
      ·simp [execOp,ho,convert,run_underlying X3,run_underlying e2,run_underlying f2,fy,Conv.runesToString,xl];rfl
      ·have hr:=I9 (E:=E) (cap:=cap) hl;rw [← I8] at hr;simp [execOp,ho,convert,run_underlying X3,run_underlying e2,run_underlying f2,fy,hr]
     ·cases hc
    ·cases hc
   ·cases hc
  ·rename_i id off len cap hk;rw [hk] at e5;have:=kA e5;subst this;split at hc
   ·rename_i elem ag eb z cs el Kr hg;rw [Kr] at e5';obtain ⟨ie,ue,rfl,_⟩:=ee e5';split at hc
    ·rename_i e he;obtain ⟨Y7,ud2,f1,f2,f3,f4,f5,f6⟩:=cu E he;split at hc
     ·rename_i A0;injection hc with hc; injection hc with c1 c2;subst c2;rw [aaa] at c1;rw [A0] at f5;have:=sL f5;subst this;cases dN with
      | @jZ _ _ _ _ _ b hb hU=>
      obtain ⟨vs,b1,b2,b3,b4⟩:=h.g.obj id _ _ hg hb;have hle:=abK c1.1;have acT:di off (off+len) cs=(cs.drop off).take len:=by
       unfold di;rw [List.drop_take];congr 1;omega
      have ej:aK R w (di off (off+len) cs) ((vs.drop off).take len):=by
       rw [acT];exact (b2.drop off).take len
      have hlen:((vs.drop off).take len).length=len:=by
       rw [List.length_take,List.length_drop,← b2.length];omega
      have Dz:=ej;rw [rO c1.2] at Dz;have hv:=uu Dz;have hl:=run_loadCells_list (P:=E.P) w ⟨b,off,none⟩ ((vs.drop off).take len) (fun j v hj=>by
       rw [cH,jw b1];rw [List.getElem?_take] at hj;split at hj
       ·rw [List.getElem?_drop] at hj; exact hj
       ·cases hj)
      rw [hlen,hv] at hl;have hr:=A9 (E:=E) (cap:=cap) hl;rw [← A8] at hr;refine ao h (c:=.string ⟨⟨fP (di off (off+len) cs)⟩⟩) ?_ (Rel.str _);simp [execOp,ho,convert,run_underlying X3,run_underlying e2,run_underlying f2,fy,hr]
     ·cases hc
    ·cases hc
   ·cases hc
  ·cases hc
 ·cases hc
theorem ra (h:bl E R w β s a) (x:Operand) (ho:o.op=.nilCheck x) {y:SV} (hx:bJ E s.ae x=y) (hy:(∃ id off,y=.v (.ptr id off))∨∃ k off,y=.lp k off) :
  cm E R w β s a o (s.put o.dst y):=by
 have rx:=aT h x;rw [hx] at rx;rcases hy with ⟨id,off,rfl⟩|⟨k,off,rfl⟩
 ·have dN:Rel R w (.ptr id off) (a.eval x):=rx;generalize fy:a.eval x=xv at dN;cases dN with
  | @ptr _ _ b hb=>
  refine ao h (c:=.pointer (some ⟨b,off,none⟩)) ?_ (Rel.ptr hb);simp [execOp,ho,fy]
 ·refine ⟨_,_,w,R,β,?_,.inl rfl,h.put o.dst rx,by rw [a6]; exact Step.refl _ _ _ _⟩;have fy:a.eval x=.pointer (some ⟨β k,off,none⟩):=rx;simp [execOp,ho,fy]
end ops
end Go.Am
namespace Go.Am
open Go
section
variable {E:Env} {R R':ak} {w w':World} {β β':Nat→Nat} {s s':St} {a a':Act} {o:Oper}
theorem FT {f:FuncId} (h:bl E R w β s a) (hs:ij E f s o=some (true,s')):cm E R w β s a o s':=by
 unfold ij at hs;cases hs
theorem FU {f:FuncId} (h:bl E R w β s a) (hs:vd E f s o=some (true,s')):cm E R w β s a o s':=by
 unfold vd at hs;cases hs
end
end Go.Am
