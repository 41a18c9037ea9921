/- The abstract machine: what it does is what the model does: objects that are no rows; ranges over strings. -/
import Derived.Test.YtldcljfjjoidhaaGreatDoorAmKD
import Derived.Laws.RangeAny
import Derived.Maps.RangeRun
import Derived.Laws.BytesString
import Derived.Laws.Cover4
set_option linter.all false
open Array renaming length_toList→abn, toList_modify→abq, toList_push→abD, getElem?_toList→abK, toList_filter→abP
open Bool renaming and_eq_true→aad
open ByteArray renaming get!→ab4
open Go.ByteArray renaming toList_eq→abN
open Go.Instr renaming findKey→aao, checkKey→aau, findAsking→aaB, findNow→abi, sameBits→abo, keyThatStays→abv, sameNow→abC, lookup→abG
open Go.Op renaming maxDepth→abw, equal→abE
open Go.Result renaming andThen_ok→aaO
open Go.Sem renaming run_bind→aaY, run_pure→abp, run→abr
open Go.Utf8 renaming encode→aby
open Go.Value renaming int→abR
open List renaming getElem?_eq_getElem→abj, getElem?_modify→abt, modify_zero_cons→abz, modify_succ_cons→abA, getElem?_cons_zero→abH, getElem?_cons_succ→abI, map_cons→abL, getElem_of_mem→abO
open Nat renaming zero_add→abu, le_of_ble_eq_true→abB
open Option renaming isSome_iff_exists→abF
open Option.some renaming inj→abJ, injEq→abV
open UInt8 renaming ofNat→abx
namespace Go.Am
open Go
open Go.ChangeMaps (setBlock)
def rK (x:Obj):Prop:=match x with
 |.cells ..=>False
 |_=>True
theorem tX {w:World} {b:Nat} {x:Obj} (h:w.heap[b]?=some x) (hn:rK x) (o:Nat):w.cell? ⟨b,o,none⟩=none:=by
 simp only [World.cell?,h];cases x <;> first | rfl | exact hn.elim
def World.put (w:World) (b:Nat) (x:Obj):World:={ w with heap:=w.heap.setIfInBounds b x }
theorem ou (w:World) (b k:Nat) (x:Obj) (h:k≠b):(World.put w b x).heap[k]?=w.heap[k]?:=Array.getElem?_setIfInBounds_ne (Ne.symm h)
theorem iR (w:World) (b:Nat) (x:Obj) (h:b < w.heap.size):(World.put w b x).heap[b]?=some x:=by simp [World.put,h]
@[simp] theorem acH (w:World) (b:Nat) (x:Obj):(World.put w b x).heap.size=w.heap.size:=by simp [World.put]
section setobj
variable {E:Env} {R:ak} {w:World} {β:Nat→Nat} {s:St} {a:Act}
theorem pg {b:Nat} {x x':Obj} (hx:w.heap[b]?=some x) (hn:rK x) (hn':rK x') (hl:∀ r,x=.loop r→∃ r',x'=.loop r'∧tP r r'):Ext R w R (World.put w b x'):=
 ⟨fun _ _ h=>h,fun b' o h=>by
  by_cases e:b'=b
  ·subst e;rw [tX hx hn,tX (iR w b' x' (bo hx)) hn']
  ·exact cm (ou w b b' x' e) o,fun _ ro h=>⟨ro,h,cV.refl ro⟩,fun b' r hb=>by
  by_cases e:b'=b
  ·subst e;rw [hx] at hb;obtain ⟨r',rfl,h2⟩:=hl r (abJ hb);exact ⟨r',iR w b' _ (bo hx),h2⟩
  ·exact ⟨r,(ou w b b' x' e).trans hb,rfl,rfl,rfl,rfl,rfl⟩⟩
theorem bq.setObj (h:bq E R w β s a) {id b:Nat} {x x':Obj} {go':GO} (hid:nth R.obj id=some (.ck b)) (hx:w.heap[b]?=some x) (hn:rK x) (hn':rK x') (hl:∀ r,x=.loop r→∃ r',x'=.loop r'∧tP r r') (jH:iP R (World.put w b x') go' (.ck b)) :
  bq E R (World.put w b x') β (s.cP (aG s.G id go')) a∧Step R w β s.boxes R (World.put w b x') β s.boxes:=by
 have hex:=pg (R:=R) hx hn hn' hl;refine ⟨⟨⟨by simp [St.cP,h.g.len],fun kV go ro hg nF=>?_,h.g.inj,fun b' o' sS=>by have:=h.g.wf b' o' sS; simpa using this,fun g cs' hg=>(h.g.cw g cs' hg).mono hex,by first | exact h.g.lo | exact Nat.le_succ_of_le h.g.lo⟩,?_,h.t.mono hex,h.n,h.d⟩,?_⟩
 ·rcases dW hg with ⟨rfl,rfl,_⟩|⟨cK,sk⟩
  ·rw [hid] at nF;cases nF;exact jH
  ·refine (h.g.obj kV go ro sk nF).mono hex (fun b' ka=>ou w _ b' _ (fun e=>cK ?_)) (fun _ _ _ hi=>hi);subst e;exact h.g.inj id kV _ _ b' hid nF rfl ka
 ·exact h.b.bJ hex (fun k cs' jf=>ou w _ _ _ (h.Ht hid jf)) (fun _ _ _ _ hi=>hi) (fun _ _ _ hl=>hl)
 ·have Dz:Own R β s.boxes b:=.inl ⟨id,_,hid,rfl⟩;exact ⟨hex,rfl,rfl,rfl,by simp,fun b' _ hn=>ou w _ b' _ (fun e=>hn (e ▸ Dz)),fun _ _ hb=>hb,fun b o hi _ _=>hi⟩
end setobj
section maps
variable {E:Env} {R:ak} {w:World} {β:Nat→Nat} {s:St} {a:Act} {o:Oper}
theorem M7 {t:TypeId} {i:TI} (hi:E.ti t=some i):i.ek=wH E.P t:=by
 have:=E.KQ t i hi;unfold KP at this;split at this
 ·split at this
  ·cases this; rfl
  ·cases this
 ·cases this
theorem lD {e:EK} {a b:AV} {r:Bool} (h:Ha e a b=some r):mO e a b=some r:=by
 unfold Ha at h;split at h
 ·rename_i he;cases hc:(e.wide&&!na a b) with
  |true=>rw [hc] at h; cases h
  |false=>rw [hc] at h; cases h; exact he
 ·exact h
theorem M8 {e:EK} {a b:AV} (h:Ha e a b=some true) (he:e.wide=true):na a b=true:=by
 have:=lD h;unfold Ha at h;rw [this] at h;simp only [he,Bool.true_and] at h;cases hs:na a b with
 |true=>rfl
 |false=>rw [hs] at h; cases h
def Ff (e:EK) (d:TypeDesc):Prop:=(e=.bool∧d=.bool)∨(e=.int∧∃ k,d=.int k)∨(e=.str∧d=.string)∨(e.wide=true∧((∃ fs,d=.struct fs)∨∃ n t,d=.array n t))
theorem wP {P:Program} {t:TypeId} (h:(wH P t).plain=true):∃ d,P.underlying t=some d∧Ff (wH P t) d:=by
 have key:∀ {e:EK},e=sh P 6 t→e.plain=true→∃ d,P.underlying t=some d∧Ff e d:=by
  intro e he h;unfold sh at he;split at he
  ·rename_i hu; exact ⟨_,hu,.inl ⟨he,rfl⟩⟩
  ·rename_i k hu; exact ⟨_,hu,.inr (.inl ⟨he,k,rfl⟩)⟩
  ·rename_i hu; exact ⟨_,hu,.inr (.inr (.inl ⟨he,rfl⟩))⟩
  ·rename_i fs hu;split at he
   ·subst he; cases h
   ·split at he
    ·subst he; exact ⟨_,hu,.inr (.inr (.inr ⟨rfl,.inl ⟨_,rfl⟩⟩))⟩
    ·subst he; cases h
  ·rename_i m e' hu;split at he
   ·subst he; exact ⟨_,hu,.inr (.inr (.inr ⟨rfl,.inr ⟨_,_,rfl⟩⟩))⟩
   ·subst he; cases h
  ·subst he; cases h
 unfold wH at h ⊢;split
 ·rename_i l hl;rw [hl] at h;simp only at h;split at h
  ·simp [EK.plain] at h
  ·rename_i hg;rw [if_neg hg];exact key hl.symm rfl
 ·rename_i k hk;exact key rfl (by
   split at h
   ·rename_i l hl; exact absurd hl (hk l)
   ·exact h)
theorem DK {a b:AV} (h:qi a b=true) {x y:Value} (hx:Rel R w a x) (hy:Rel R w b y):x=y:=by
 unfold qi at h;split at h
 ·cases hx; cases hy; rw [eq_of_beq h]
 ·rw [aad,decide_eq_true_eq] at h;cases hx; cases hy; rw [h.1,eq_of_beq h.2]
 ·cases hx; cases hy; rw [eq_of_beq h]
 ·cases h
theorem tY:∀ {xs ys:List AV} {vs us:List Value},nZ xs ys=true→aP R w xs vs→aP R w ys us→vs=us
 |[],[],_,_,_,.nil,.nil=>rfl
 |a :: xs,b :: ys,_,_,h,.cons h1 h2,.cons h3 h4=>by
  unfold nZ at h;rw [aad] at h;rw [DK h.1 h1 h3,tY h.2 h2 h4]
 |[],_ :: _,_,_,h,_,_=>by cases h
 |_ :: _,[],_,_,h,_,_=>by cases h
theorem Fg {a b:AV} (h:na a b=true) {x y:Value} (hx:Rel R w a x) (hy:Rel R w b y):x=y:=by
 unfold na at h;split at h
 ·cases hx with
  |agg hx _=>cases hy with
   |agg hy _=>rw [tY h hx hy]
 ·cases h
theorem wQ {ek:TypeId→EK} {d:Nat} {em:Bool} (ih:∀ (t:TypeId) (a:AV) (r:Bool) (x:Value),mO (ek t) a a=some r→Rel R w a x→(aau em d t x).run E.P w=.ok () w) {xs:List AV} {vs:List Value}
  (hx:aP R w xs vs) (xK:∀ x∈vs,x.oneCell'=true) :
  ∀ (fs:List Field) (l:Wy) (r:Bool),Hk E.P ek fs=some l→vl l xs xs=some r →
   (do for f in fs do if f.name ≠ "_" then aau em d f.type (← part f.type ⟨vs⟩ f.offset) : Sem Unit).run E.P w = .ok () w
 |[],l,r,hl,hr=>by simp
 |f :: fs,l,r,hl,hr=>by
  unfold Hk at hl;split at hl
  ·cases hl
  ·rename_i hn;split at hl
   ·rename_i i u l' h1 h2 h3;cases hl;unfold vl at hr;split at hr
    ·rename_i a b ha hb;rw [ha] at hb;cases hb;split at hr
     ·rename_i p q hp hq;obtain ⟨c,k1,k2⟩:=lO h1 h2 hx xK ha;have cK : f.name ≠ "_" := by simpa using hn
      have zg:=wQ ih hx xK fs l' q h3 hq;simp only [List.forIn_cons,aaY,if_pos cK,aaO,k1,ih f.type a p c hp k2,abp];simpa only [aaY,abp] using zg
     ·cases hr
    ·cases hr
   ·cases hl
theorem tZ {ek:EK} {d:Nat} {em:Bool} {e:TypeId} {i:TypeInfo} {u:TypeDesc} (h1:E.P.info? e=some i) (h2:E.P.underlying e=some u) (ih:∀ (a:AV) (r:Bool) (x:Value),mO ek a a=some r→Rel R w a x→(aau em d e x).run E.P w=.ok () w) {xs:List AV} {vs:List Value}
  (hx:aP R w xs vs) (xK:∀ x∈vs,x.oneCell'=true) :
  ∀ (m k:Nat) (r:Bool),vl (yT i.size (kX u) ek m k) xs xs=some r →
   (do for j in List.range' k m do aau em d e (← part e ⟨vs⟩ (j * (← sizeOf e))):Sem Unit).run E.P w=.ok () w
 |0,k,r,hr=>by simp
 |m+1,k,r,hr=>by
  unfold yT vl at hr;split at hr
  ·rename_i a b ha hb;rw [ha] at hb;cases hb;split at hr
   ·rename_i p q hp hq;obtain ⟨c,k1,k2⟩:=lO h1 h2 hx xK ha;have zg:=tZ h1 h2 ih hx xK m (k+1) q hq;simp only [List.range'_succ,List.forIn_cons,aaY,run_sizeOf w h1,aaO,k1,ih a p c hp k2,abp];simpa only [aaY,abp] using zg
   ·cases hr
  ·cases hr
theorem ph (em:Bool):∀ (n d:Nat),n≤d→∀ (t:TypeId) (a:AV) (r:Bool) (x:Value),mO (sh E.P n t) a a=some r→Rel R w a x→(aau em d t x).run E.P w=.ok () w
 |0,_,_,t,a,r,x,h,_=>by simp [sh,mO] at h
 |n+1,0,hd,_,_,_,_,_,_=>by omega
 |n+1,d+1,hd,t,a,r,x,h,hx=>by
  unfold sh at h;split at h
  ·rename_i hu;unfold mO at h;split at h
   all_goals (try contradiction)
   cases hx;simp [aau,run_underlying hu]
  ·rename_i k hu;unfold mO at h;split at h
   all_goals (try contradiction)
   cases hx;simp [aau,run_underlying hu]
  ·rename_i hu;unfold mO at h;split at h
   all_goals (try contradiction)
   cases hx;simp [aau,run_underlying hu]
  ·rename_i fs hu;split at h
   ·simp [mO] at h
   ·split at h
    ·rename_i l hl;unfold mO at h;split at h
     all_goals (try contradiction)
     rename_i XS xs ys hk R7;cases hk;cases R7;cases hx with
     |agg hx xK=>
     have:=wQ (em:=em) (fun t a r x=>ph em n d (by omega) t a r x) hx xK fs.toList _ r hl h;rw [aau];simp only [aaY,run_underlying hu,aaO];rw [← Array.forIn_toList];simp only [aaY,abp] at this ⊢;exact this
    ·simp [mO] at h
  ·rename_i m e hu;split at h
   ·rename_i i ud g1 g2;unfold mO at h;split at h
    all_goals (try contradiction)
    rename_i XS xs ys hk R7;cases hk;cases R7;cases hx with
    |agg hx xK=>
    have:=tZ (em:=em) g1 g2 (fun a r x=>ph em n d (by omega) e a r x) hx xK m 0 r h;rw [aau];simp only [aaY,run_underlying hu,aaO];simp only [Std.Legacy.Range.forIn_eq_forIn_range',Std.Legacy.Range.size,Nat.sub_zero,Nat.add_one_sub_one,Nat.div_one];simp only [aaY,abp] at this ⊢;exact this
   ·simp [mO] at h
  ·simp [mO] at h
theorem ni {e:EK} {d:TypeDesc} (hd:(e=.bool∧d=.bool)∨(e=.int∧∃ k,d=.int k)∨(e=.str∧d=.string)) {k k':AV} {r:Bool} {x y:Value} (h:mO e k k'=some r) (hx:Rel R w k x) (hy:Rel R w k' y):abC d x y=some r∧(r=true→x=y):=by
 rcases hd with ⟨rfl,rfl⟩|⟨rfl,n,rfl⟩|⟨rfl,rfl⟩
 ·unfold mO at h;split at h
  all_goals (try contradiction)
  cases hx; cases hy; cases h;exact ⟨rfl,fun e=>by rw [eq_of_beq e]⟩
 ·unfold mO at h;split at h
  all_goals (try contradiction)
  split at h
  ·rename_i hk;subst hk;cases hx; cases hy; cases h;exact ⟨by simp [abC],fun e=>by rw [eq_of_beq e]⟩
  ·cases h
 ·unfold mO at h;split at h
  all_goals (try contradiction)
  cases hx; cases hy; cases h;refine ⟨?_,fun e=>by rw [eq_of_beq e]⟩;simp only [abC];rw [beq_toListBytes,abN,abN]
theorem zw {e:EK} {d:TypeDesc} (hd:(e=.bool∧d=.bool)∨(e=.int∧∃ k,d=.int k)∨(e=.str∧d=.string)) {k:AV} {x:Value} (hx:Rel R w k x):∀ {es:List (AV × AV)} {ax:List MapEntry} {r:Option AV},eH R w es ax→lx e k es=some r →
  ∀ i,match r with
   |none=>abi d x ax i=some none
   |some v=>∃ j c,abi d x ax i=some (some (j,c))∧Rel R w v c
 |[],[],r,_,h,i=>by simp [lx] at h; subst h; rfl
 |[],_ :: _,_,h,_,_=>h.elim
 |_ :: _,[],_,h,_,_=>h.elim
 |(k',v) :: es,en :: ax,r,h,hf,i=>by
  unfold lx at hf;split at hf
  ·rename_i he;cases hf;have h1:=(ni hd (lD he) hx h.1).1;exact ⟨i,en.val,by simp [abi,h1],h.2.1⟩
  ·rename_i he;have h1:=(ni hd (lD he) hx h.1).1;have:=zw hd hx h.2.2 hf (i+1);split at this
   ·simp only [abi,h1]; exact this
   ·obtain ⟨j,c,q1,q2⟩:=this;exact ⟨j,c,by simp only [abi,h1]; exact q1,q2⟩
  ·cases hf
theorem JA {e:EK} {d:TypeDesc} (hd:(e=.bool∧d=.bool)∨(e=.int∧∃ k,d=.int k)∨(e=.str∧d=.string)) {k v:AV} {x c:Value} (hx:Rel R w k x) (hv:Rel R w v c):∀ {es es':List (AV × AV)} {ax:List MapEntry},eH R w es ax→vm e k v es=some es' →
  ∀ i,(abi d x ax i=some none∧jE e k es=ax.length∧∀ b,eH R w es' (ax++[{ key:=x,val:=c,born:=b }])) ∨
   ∃ j c',abi d x ax i=some (some (i+j,c'))∧(j=jE e k es∧∃ en,ax[j]?=some en∧en.key=x∧en.val=c')∧eH R w es' (ax.modify j fun e=>{ e with key:=x,val:=c })
 |[],es',[],_,h,i=>by simp [vm] at h; subst h; exact .inl ⟨rfl,rfl,fun b=>⟨hx,hv,trivial⟩⟩
 |[],_,_ :: _,h,_,_=>h.elim
 |_ :: _,_,[],h,_,_=>h.elim
 |(k',v') :: es,es',en :: ax,h,hf,i=>by
  unfold vm at hf;split at hf
  ·rename_i he;cases hf;obtain ⟨h1,h2⟩:=ni hd (lD he) hx h.1;have hm:yW e k k'=true:=by unfold yW; rw [he]
   exact .inr ⟨0,en.val,by simp [abi,h1],⟨by simp [jE,hm],en,rfl,(h2 rfl).symm,rfl⟩,by simp only [abz]; exact ⟨hx,hv,h.2.2⟩⟩
  ·rename_i he;have h1:=(ni hd (lD he) hx h.1).1;split at hf
   ·rename_i r hr;cases hf;have hm:yW e k k'=false:=by unfold yW; rw [he]
    rcases JA hd hx hv h.2.2 hr (i+1) with ⟨q1,q0,q2⟩|⟨j,c',q1,q2,q3⟩
    ·exact .inl ⟨by simp only [abi,h1]; exact q1,by simp [jE,hm,q0],fun b=>⟨h.1,h.2.1,q2 b⟩⟩
    ·refine .inr ⟨j+1,c',by simp only [abi,h1]; rw [q1,Nat.add_assoc,Nat.add_comm 1 j],?_,?_⟩
     ·obtain ⟨e0,en',e1,e2⟩:=q2;exact ⟨by simp [jE,hm,e0],en',by simpa using e1,e2⟩
     ·rw [abA];exact ⟨h.1,h.2.1,q3⟩
   ·cases hf
  ·cases hf
theorem sX {kt:TypeId} {j:TI} (hj:E.ti kt=some j) {k:AV} {x:Value} (hx:Rel R w k x):∀ {es:List (AV × AV)} {ax:List MapEntry} {r:Option AV},eH R w es ax→lx j.ek k es=some r →
  ∀ i,match r with
   |none=>(aaB kt x ax i).run E.P w=.ok none w
   |some v=>∃ n c,(aaB kt x ax i).run E.P w=.ok (some (n,c)) w∧Rel R w v c
 |[],[],r,_,h,i=>by simp [lx] at h; subst h; simp [aaB]
 |[],_ :: _,_,h,_,_=>h.elim
 |_ :: _,[],_,h,_,_=>h.elim
 |(k',v) :: es,en :: ax,r,h,hf,i=>by
  unfold lx at hf;split at hf
  ·rename_i he;cases hf;have h1:=(lP hj (lD he) hx h.1).1;exact ⟨i,en.val,by simp [aaB,abE,abw,h1],h.2.1⟩
  ·rename_i he;have h1:=(lP hj (lD he) hx h.1).1;have:=sX hj hx h.2.2 hf (i+1);split at this
   ·simp only [aaB,abE,abw,aaY,h1,aaO]; exact this
   ·obtain ⟨n,c,q1,q2⟩:=this;exact ⟨n,c,by simp only [aaB,abE,abw,aaY,h1,aaO]; exact q1,q2⟩
  ·cases hf
theorem sB {kt:TypeId} {j:TI} (hj:E.ti kt=some j) (hw:j.ek.wide=true) {k v:AV} {x c:Value} (hx:Rel R w k x) (hv:Rel R w v c):∀ {es es':List (AV × AV)} {ax:List MapEntry},eH R w es ax→vm j.ek k v es=some es' →
  ∀ i,((aaB kt x ax i).run E.P w=.ok none w∧jE j.ek k es=ax.length∧∀ b,eH R w es' (ax++[{ key:=x,val:=c,born:=b }])) ∨
   ∃ n c',(aaB kt x ax i).run E.P w=.ok (some (i+n,c')) w∧(n=jE j.ek k es∧∃ en,ax[n]?=some en∧en.key=x∧en.val=c')∧eH R w es' (ax.modify n fun e=>{ e with key:=x,val:=c })
 |[],es',[],_,h,i=>by simp [vm] at h; subst h; exact .inl ⟨by simp [aaB],rfl,fun b=>⟨hx,hv,trivial⟩⟩
 |[],_,_ :: _,h,_,_=>h.elim
 |_ :: _,_,[],h,_,_=>h.elim
 |(k',v') :: es,es',en :: ax,h,hf,i=>by
  unfold vm at hf;split at hf
  ·rename_i he;cases hf;have h1:=(lP hj (lD he) hx h.1).1;have h2:=Fg (M8 he hw) hx h.1;have hm:yW j.ek k k'=true:=by unfold yW; rw [he]
   exact .inr ⟨0,en.val,by simp [aaB,abE,abw,h1],⟨by simp [jE,hm],en,rfl,h2.symm,rfl⟩,by simp only [abz]; exact ⟨hx,hv,h.2.2⟩⟩
  ·rename_i he;have h1:=(lP hj (lD he) hx h.1).1;split at hf
   ·rename_i r hr;cases hf;have hm:yW j.ek k k'=false:=by unfold yW; rw [he]
    rcases sB hj hw hx hv h.2.2 hr (i+1) with ⟨q1,q0,q2⟩|⟨n,c',q1,q2,q3⟩
    ·exact .inl ⟨by simp only [aaB,abE,abw,aaY,h1,aaO]; exact q1,by simp [jE,hm,q0],fun b=>⟨h.1,h.2.1,q2 b⟩⟩
    ·refine .inr ⟨n+1,c',?_,?_,?_⟩
     ·simp only [aaB,abE,abw,aaY,h1,aaO];rw [show i+(n+1)=i+1+n by omega];exact q1
     ·obtain ⟨e0,en',e1,e2⟩:=q2;exact ⟨by simp [jE,hm,e0],en',by simpa using e1,e2⟩
     ·rw [abA];exact ⟨h.1,h.2.1,q3⟩
   ·cases hf
  ·cases hf
theorem lE {kt:TypeId} {d:TypeDesc} (hu:E.P.underlying kt=some d) (hd:(∃ fs,d=.struct fs)∨∃ n t,d=.array n t) (x:Value) (es:List MapEntry):(aao kt x es).run E.P w=(aaB kt x es).run E.P w:=by
 cases es with
 |nil=>simp [aao,run_underlying hu,abi,aaB]
 |cons e es=>rcases hd with ⟨fs,rfl⟩ | ⟨n,t,rfl⟩ <;> simp [aao,run_underlying hu,abi,abC]
theorem ua {kt:TypeId} {j:TI} (hj:E.ti kt=some j) {d:TypeDesc} (hu:E.P.underlying kt=some d) (hd:Ff j.ek d) {k:AV} {x:Value} (hx:Rel R w k x) {es:List (AV × AV)} {ax:List MapEntry} (hM:eH R w es ax) (hf:lx j.ek k es=some none) :
  (aao kt x ax).run E.P w=.ok none w:=by
 have zx:((j.ek=.bool∧d=.bool)∨(j.ek=.int∧∃ k,d=.int k)∨(j.ek=.str∧d=.string))→(aao kt x ax).run E.P w=.ok none w:=fun hd=>by
  have:=zw hd hx hM hf 0;simp [aao,run_underlying hu,this]
 rcases hd with hd|hd|hd|⟨_,hd⟩
 ·exact zx (.inl hd)
 ·exact zx (.inr (.inl hd))
 ·exact zx (.inr (.inr hd))
 ·rw [lE hu hd];exact sX hj hx hM hf 0
theorem ub {kt:TypeId} {j:TI} (hj:E.ti kt=some j) {d:TypeDesc} (hu:E.P.underlying kt=some d) (hd:Ff j.ek d) {k:AV} {x:Value} (hx:Rel R w k x) {es:List (AV × AV)} {ax:List MapEntry} {v:AV} (hM:eH R w es ax) (hf:lx j.ek k es=some (some v)) :
  ∃ n c,(aao kt x ax).run E.P w=.ok (some (n,c)) w∧Rel R w v c:=by
 have zx:((j.ek=.bool∧d=.bool)∨(j.ek=.int∧∃ k,d=.int k)∨(j.ek=.str∧d=.string))→∃ n c,(aao kt x ax).run E.P w=.ok (some (n,c)) w∧Rel R w v c:=fun hd=>by
  obtain ⟨n,c,q1,q2⟩:=zw hd hx hM hf 0;exact ⟨n,c,by simp [aao,run_underlying hu,q1],q2⟩
 rcases hd with hd|hd|hd|⟨_,hd⟩
 ·exact zx (.inl hd)
 ·exact zx (.inr (.inl hd))
 ·exact zx (.inr (.inr hd))
 ·rw [lE hu hd];exact sX hj hx hM hf 0
theorem sY {kt:TypeId} {j:TI} (hj:E.ti kt=some j) {d:TypeDesc} (hu:E.P.underlying kt=some d) (hd:Ff j.ek d) {k v:AV} {x c:Value} (hx:Rel R w k x) (hv:Rel R w v c) {es es':List (AV × AV)} {ax:List MapEntry} (hM:eH R w es ax) (hf:vm j.ek k v es=some es') :
  ((aao kt x ax).run E.P w=.ok none w∧jE j.ek k es=ax.length∧∀ b,eH R w es' (ax++[{ key:=x,val:=c,born:=b }])) ∨
   ∃ n c',(aao kt x ax).run E.P w=.ok (some (n,c')) w∧(n=jE j.ek k es∧∃ en,ax[n]?=some en∧en.key=x∧en.val=c')∧eH R w es' (ax.modify n fun e=>{ e with key:=x,val:=c }):=by
 have zx:((j.ek=.bool∧d=.bool)∨(j.ek=.int∧∃ k,d=.int k)∨(j.ek=.str∧d=.string))→((aao kt x ax).run E.P w=.ok none w∧jE j.ek k es=ax.length∧∀ b,eH R w es' (ax++[{ key:=x,val:=c,born:=b }])) ∨
   ∃ n c',(aao kt x ax).run E.P w=.ok (some (n,c')) w∧(n=jE j.ek k es∧∃ en,ax[n]?=some en∧en.key=x∧en.val=c')∧eH R w es' (ax.modify n fun e=>{ e with key:=x,val:=c }):=fun hd=>by
  rcases JA hd hx hv hM hf 0 with ⟨q1,q2⟩|⟨n,c',q1,q2,q3⟩
  ·exact .inl ⟨by simp [aao,run_underlying hu,q1],q2⟩
  ·rw [abu] at q1;exact .inr ⟨n,c',by simp [aao,run_underlying hu,q1],q2,q3⟩
 rcases hd with hd|hd|hd|⟨hw,hd⟩
 ·exact zx (.inl hd)
 ·exact zx (.inr (.inl hd))
 ·exact zx (.inr (.inr hd))
 ·rcases sB hj hw hx hv hM hf 0 with ⟨q1,q2⟩|⟨n,c',q1,q2,q3⟩
  ·exact .inl ⟨by rw [lE hu hd]; exact q1,q2⟩
  ·rw [abu] at q1;exact .inr ⟨n,c',by rw [lE hu hd]; exact q1,q2,q3⟩
theorem nI {kt:TypeId} {d:TypeDesc} (hu:E.P.underlying kt=some d) (hd:d=.bool∨(∃ k,d=.int k)∨d=.string) (b:Bool) (x:Value) (n:Nat):(aau b (n+1) kt x).run E.P w=.ok () w:=by
 rcases hd with rfl|⟨k,rfl⟩|rfl <;> simp [aau,run_underlying hu]
theorem run_checkKey {kt:TypeId} {j:TI} (hj:E.ti kt=some j) {d:TypeDesc} (hu:E.P.underlying kt=some d) (hd:Ff j.ek d) {k:AV} (hk:kr j.ek k=true) {x:Value} (hx:Rel R w k x) (b:Bool):(aau b 10000 kt x).run E.P w=.ok () w:=by
 rcases hd with ⟨_,rfl⟩|⟨_,n,rfl⟩|⟨_,rfl⟩|⟨hw,_⟩
 ·exact nI hu (.inl rfl) b x 9999
 ·exact nI hu (.inr (.inl ⟨n,rfl⟩)) b x 9999
 ·exact nI hu (.inr (.inr rfl)) b x 9999
 ·have Ck:=M7 hj;obtain ⟨fs,hfs⟩:∃ fs,j.ek=.st fs:=by
   cases he:j.ek with
   |st fs=>exact ⟨fs,rfl⟩
   |_=>rw [he] at hw; cases hw
  rw [hfs] at hk;unfold kr at hk;split at hk
  all_goals (try contradiction)
  rename_i XS cs h1;cases h1;rw [aad] at hk;obtain ⟨r,hr⟩:=abF.1 hk.2;have he:mO (sh E.P 6 kt) (.agg cs) (.agg cs)=some r:=by
   rw [hfs] at Ck;have:sh E.P 6 kt=.st fs:=by
    unfold wH at Ck;split at Ck
    ·rename_i l hl;split at Ck
     ·cases Ck
     ·rw [hl,Ck]
    ·rename_i k jf;exact absurd Ck.symm (jf fs)
   rw [this];unfold mO;exact hr
  exact ph b 6 10000 (by omega) kt (.agg cs) r x he hx
theorem K9 (h:bq E R w β s a) {m:SV} {es:List (AV × AV)} {x:Value} (hm:mapOf s m=some es) (hx:si R w β m x) :
  ∃ ax,eH R w es ax∧((x=.map none∧ax=[])∨∃ b es' clock,x=.map (some b)∧w.heap[b]?=some (.map es' clock)∧es'.toList=ax):=by
 unfold mapOf at hm;split at hm
 ·cases hm;have so:Rel R w .lX x:=hx;cases so;exact ⟨[],trivial,.inl ⟨rfl,rfl⟩⟩
 ·rename_i id;have so:Rel R w (.map id) x:=hx;cases so with
  |map hb=>
  split at hm
  ·rename_i es' hg;cases hm;obtain ⟨ax,clock,q1,q2,_⟩:=h.g.obj id _ _ hg hb;exact ⟨ax.toList,q2,.inr ⟨_,ax,clock,rfl,q1,rfl⟩⟩
  ·cases hm
 ·cases hm
theorem Fh {t:TypeId} {z:AV} {i:TypeInfo} (h1:E.P.info? t=some i) (h2:ij i=some z):∃ c,(zeroValue t).run E.P w=.ok c w∧Rel R w z c:=by
 obtain ⟨c,hc,hr⟩:=dR h2;exact ⟨c,by simp [zeroValue,typeInfo,run_program,h1,hc],hr R w⟩
theorem uc (h:bq E R w β s a) (t:TypeId) (x y:Operand) (ok:Bool) (ho:o.op=.lookup t x y ok) {v:AV} {b:Bool} (hv:n3 E s t (bQ E s.ab x) (bQ E s.ab y)=some (v,b)) :
  cz E R w β s a o (s.put o.dst (.v (if ok then .bu [v,.bool b] else v))):=by
 have rx:=aY h x;have ry:=aY h y;unfold n3 at hv;split at hv
 ·rename_i i es k hi hm hk;rw [hk] at ry;have sx:Rel R w k (a.eval y):=ry;obtain ⟨ax,hM,gE⟩:=K9 h hm rx;obtain ⟨je,u,e1,e2,e3,e4,e5,e6⟩:=cJ E hi;split at hv
  ·rename_i kt et z HM;split at hv
   ·rename_i j hj;split at hv
    ·rename_i hc;rw [aad] at hc;rw [HM] at e5;obtain ⟨rfl,ie,g1,g2⟩:=og e5;have Ck:=M7 hj;have hpl:=hc.1;rw [Ck] at hpl;obtain ⟨d,hu,hd⟩:∃ d,E.P.underlying kt=some d∧Ff j.ek d:=by
      rw [Ck];exact wP hpl
     have Rr:∀ b,(aau b 10000 kt (a.eval y)).run E.P w=.ok () w:=fun b=>run_checkKey hj hu hd hc.2 sx b
     have fin:∀ r,lx j.ek k es=some r→r.getD z=v→r.isSome=b→cz E R w β s a o (s.put o.dst (.v (if ok then .bu [v,.bool b] else v))):=fun r hr q1 q2=>by
      subst q1 q2;have rel:∀ c,Rel R w (r.getD z) c→Rel R w (if ok then .bu [r.getD z,.bool r.isSome] else r.getD z) (if ok then .tuple #[c,.bool r.isSome] else c):=fun c k2=>by
       cases ok
       ·exact k2
       ·exact Rel.bu (vs:=[c,.bool r.isSome]) (.cons k2 (.cons (.bool _) .nil))
      cases r with
      |none=>
       obtain ⟨c,k1,k2⟩:=Fh (R:=R) (w:=w) g1 g2;have He:(aao kt (a.eval y) ax).run E.P w=.ok none w:=ua hj hu hd sx hM hr;refine ap h (c:=if ok then .tuple #[c,.bool false] else c) ?_ (rel c k2);rcases gE with ⟨hx,rfl⟩|⟨b,es',clock,hx,hb,rfl⟩
       ·simp [execOp,ho,abG,hx,run_underlying e2,Rr,He,k1]
       ·simp [execOp,ho,abG,hx,run_underlying e2,getObj,abr,hb,Rr,He,k1]
      |some v=>
       obtain ⟨j',c,q1,q2⟩:=ub hj hu hd sx hM hr;have He:(aao kt (a.eval y) ax).run E.P w=.ok (some (j',c)) w:=q1;refine ap h (c:=if ok then .tuple #[c,.bool true] else c) ?_ (rel c q2);rcases gE with ⟨hx,rfl⟩|⟨b,es',clock,hx,hb,rfl⟩
       ·simp [execOp,ho,abG,hx,run_underlying e2,Rr,He]
       ·simp [execOp,ho,abG,hx,run_underlying e2,getObj,abr,hb,Rr,He]
     split at hv
     ·rename_i v' hr; cases hv; exact fin _ hr rfl rfl
     ·rename_i hr; cases hv; exact fin _ hr rfl rfl
     ·cases hv
    ·cases hv
   ·cases hv
  ·cases hv
 ·cases hv
theorem Cu {R':ak} {w':World} (h:bq E R w β s a) (t:TypeId) (z:AV) (e:Ext R w R' w') {c:Value} (hc:Rel R' w' z c):Rel R' w' (E0 E s.G t z) c:=by
 unfold E0;split
 ·rename_i e1 sz p bT nX;split
  ·rename_i fid agr;obtain ⟨fs,MV,_⟩:=zt agr;rw [Nat.sub_zero] at MV;have bY:=cg MV;rw [← h.g.len] at bY;obtain ⟨ro,ca⟩:∃ ro,nth R.obj fid=some ro:=⟨R.obj[fid],by rw [bj]; exact abj bY⟩;have df:=h.g.obj fid _ _ MV ca;have hn:yX ro:=by
    cases ro with
    |none=>exact df.elim
    |bS=>exact df.elim
    |ck _=>exact df.elim
    |tok _ _ _=>exact df.elim
    |bF ts=>trivial
   obtain ⟨od,q1,q2⟩:=e.obj fid _ ca;cases hc with
   |mb=>exact .oX q1 (hn.mono q2)
   |list _ _ _ hk=>exact hk.elim
  ·exact hc
 ·exact hc
theorem Fi (h:bq E R w β s a) (t:TypeId) (x y:Operand) (ok:Bool) (ho:o.op=.lookup t x y ok) {v:AV} {b:Bool} (hv:nb E s t (bQ E s.ab x) (bQ E s.ab y)=some (v,b)) :
  cz E R w β s a o (s.put o.dst (.v (if ok then .bu [v,.bool b] else v))):=by
 unfold nb at hv;split at hv
 ·rename_i v0 h0;cases hv;refine cz.M2 (uc h t x y ok ho h0) (fun R' w' ex c hc=>?_);cases ok with
  |false=>exact Cu h t _ ex hc
  |true=>
   have hc:Rel R' w' (.bu [v0,.bool false]) c:=hc;cases hc with
   |bu h1=>
   cases h1 with
   |cons h1 h2=>exact Rel.bu (.cons (Cu h t _ ex h1) h2)
 ·exact uc h t x y ok ho hv
theorem JB {kt:TypeId} {j:TI} (hj:E.ti kt=some j) (hp:j.ek.plain=true):∃ d,E.P.underlying kt=some d∧Ff j.ek d:=by
 have Ck:=M7 hj;rw [Ck] at hp ⊢;exact wP hp
theorem La (x:ByteArray):(x == x)=true:=by rw [beq_toListBytes]; simp
theorem iX {k:AV} {x:Value} (hp:il k=true) (hx:Rel R w k x) (n:Nat):abo n x x=true:=by
 unfold il at hp;split at hp
 ·cases hx; cases n <;> simp [abo]
 ·cases hx; cases n <;> simp [abo]
 ·cases hx; cases n <;> (simp only [abo]; exact La _)
 ·cases hp
theorem uf (n:Nat):∀ {cs:List AV} {vs:List Value},cs.all il=true→aP R w cs vs→((vs.zip vs).all fun (x,y)=>abo n x y)=true
 |[],_,_,.nil=>rfl
 |a :: cs,_,h,.cons h1 h2=>by
  rw [List.all_cons,aad] at h;simp only [List.zip_cons_cons,List.all_cons,iX h.1 h1 n,uf n h.2 h2,Bool.and_self]
theorem DL (n:Nat) {vs:Array Value} (h:((vs.toList.zip vs.toList).all fun (x,y)=>abo n x y)=true):abo (n+1) (.agg vs) (.agg vs)=true:=by
 simp only [abo,beq_self_eq_true,Bool.true_and];exact h
theorem qz {e:EK} {k:AV} {x:Value} (hp:kr e k=true) (hx:Rel R w k x):abo 10000 x x=true:=by
 unfold kr at hp;split at hp
 ·exact iX rfl hx _
 ·exact iX rfl hx _
 ·exact iX rfl hx _
 ·rw [aad] at hp;cases hx with
  |agg hx _=>
  exact DL 9999 (uf 9999 hp.1 hx)
 ·cases hp
theorem lf.push {ax:Array MapEntry} {clock:Nat} (h:lf ax clock) (x c:Value):lf (ax.push { key:=x,val:=c,born:=clock }) (clock+1):=by
 obtain ⟨rfl,h2⟩:=h;refine ⟨by simp,fun i e he=>?_⟩;rw [abD] at he;rcases Nat.lt_or_ge i ax.toList.length with bY|oP
 ·rw [List.getElem?_append_left bY] at he;exact h2 i e he
 ·rw [List.getElem?_append_right oP] at he;have hl:=(List.getElem?_eq_some_iff.1 he).1;have hl:i - ax.toList.length < 1:=hl;have h0:i - ax.toList.length=0:=by omega
  rw [h0] at he;simp only [abH,abV] at he;subst he;have hs:ax.toList.length=ax.size:=abn;show ax.size=i;omega
theorem lf.modify {ax:Array MapEntry} {clock:Nat} (h:lf ax clock) (n:Nat) (x c:Value):lf (ax.modify n fun e=>{ e with key:=x,val:=c }) clock:=by
 obtain ⟨rfl,h2⟩:=h;refine ⟨by simp,fun i e he=>?_⟩;rw [abq,abt] at he;cases hi:ax.toList[i]? with
 |none=>rw [hi] at he; cases he
 |some e'=>
  rw [hi] at he;have h3:=h2 i e' hi;have he:(if n=i then { key:=x,val:=c,born:=e'.born } else e':MapEntry)=e:=abJ he;by_cases hn:n=i
  ·rw [if_pos hn] at he;subst he; exact h3
  ·rw [if_neg hn] at he;subst he; exact h3
theorem qA (h:bq E R w β s a) (t:TypeId) (x y z:Operand) (ho:o.op=.mapUpdate t x y z∨o.op=.insert t x y z) (hd:o.dst=none) {s':St} (hv:gr E s t (bQ E s.ab x) (bQ E s.ab y) (bQ E s.ab z)=some s') :
  cz E R w β s a o s':=by
 have rx:=aY h x;have ry:=aY h y;have rz:=aY h z;unfold gr at hv;split at hv
 ·rename_i i id k v hi hm hk hz;rw [hm] at rx;rw [hk] at ry;rw [hz] at rz;have fe:Rel R w (.map id) (a.eval x):=rx;have sx:Rel R w k (a.eval y):=ry;have rz':Rel R w v (a.eval z):=rz;split at hv
  ·rename_i kt et ez es HM hg;split at hv
   ·rename_i j hj;split at hv
    ·rename_i hc;rw [aad] at hc;split at hv
     ·rename_i es' Hv;cases hv;obtain ⟨je,u,e1,e2,e3,e4,e5,e6⟩:=cJ E hi;rw [HM] at e5;obtain ⟨rfl,ie,g1,g2⟩:=og e5;obtain ⟨d,hu,hD⟩:=JB hj hc.1;generalize gE:a.eval x=xv at fe;cases fe with
      | @map _ b hb=>
      obtain ⟨ax,clock,q1,q2,q3⟩:=h.g.obj id _ _ hg hb;have bY:=bo q1;have Rr:(aau false 10000 kt (a.eval y)).run E.P w=.ok () w:=run_checkKey hj hu hD hc.2 sx _;have lC:(getObj b).run E.P w=.ok (.map ax clock) w:=by simp [getObj,abr,q1]
      have zu:∀ o',(setObj b o').run E.P w=.ok () (World.put w b o'):=fun o'=>by
       simp [setObj,abr,World.put,q1]
      have fin:∀ mf kf,eH R w es' mf.toList→lf mf kf→(execOp a.eval o).run E.P w=.ok .skip (World.put w b (.map mf kf)) →
        cz E R w β s a o (s.cP (aG s.G id (.map es'))):=fun mf kf k1 k2 k3=>by
       have hex:=pg (R:=R) (x':=.map mf kf) q1 trivial trivial (fun _ e=>by cases e);obtain ⟨p1,p2⟩:=h.setObj (x':=.map mf kf) (go':=.map es') hb q1 trivial trivial (fun _ e=>by cases e) ⟨mf,kf,iR w b _ bY,k1.mono hex,k2⟩;refine ⟨.skip,undef,_,R,β,k3,.inr ⟨rfl,rfl⟩,?_,p2⟩;rw [hd];exact p1
      rcases sY hj hu hD sx rz' q2 Hv with ⟨k1,_,k2⟩|⟨n,c',k1,⟨_,en,k2,k3,_⟩,k4⟩
      ·have He:(aao kt (a.eval y) ax.toList).run E.P w=.ok none w:=k1;refine fin (ax.push { key:=a.eval y,val:=a.eval z,born:=clock }) (clock+1) (by rw [abD]; exact k2 clock) (q3.push _ _) ?_
       ·rcases ho with ho|ho <;> simp [execOp,ho,Instr.mapUpdate,gE,run_underlying e2,lC,Rr,He,zu]
      ·have He:(aao kt (a.eval y) ax.toList).run E.P w=.ok (some (n,c')) w:=k1;have hen:ax[n]?=some en:=by rw [← abK]; exact k2
       have zo:(abv (a.eval y) (a.eval y)).run E.P w=.ok (a.eval y) w:=by simp [abv,qz hc.2 sx]
       refine fin (ax.modify n fun e=>{ e with key:=a.eval y,val:=a.eval z }) clock (by rw [abq]; exact k4) (q3.modify n _ _) ?_
       ·rcases ho with ho|ho <;> simp [execOp,ho,Instr.mapUpdate,gE,run_underlying e2,lC,Rr,He,hen,k3,zo,zu]
     ·cases hv
    ·cases hv
   ·cases hv
  ·cases hv
 ·cases hv
theorem HN (h:bq E R w β s a) (t:TypeId) (x:Operand) (ho:o.op=.range t x) {i:TI} {l:List UInt8} (hi:E.ti t=some i) (hk:i.k=.str) (hx:bQ E s.ab x=.v (.str l)) :
  cz E R w β s a o ((s.fj (.iI l 0)).put o.dst (.v (.ptr s.G.length 0))):=by
 have rx:=aY h x;rw [hx] at rx;have fe:Rel R w (.str l) (a.eval x):=rx;obtain ⟨je,u,e1,e2,e3,e4,e5,e6⟩:=cJ E hi;rw [hk] at e5;have hu:=mc e5;subst hu;have jH:iP (R.add (.ck w.heap.size)) (w.alloc (.stringIter ⟨⟨l⟩⟩ 0)) (.iI l 0) (.ck w.heap.size):=heap_alloc_new w _;refine ⟨_,.pointer (some ⟨w.heap.size,0,none⟩),w.alloc (.stringIter ⟨⟨l⟩⟩ 0),R.add (.ck w.heap.size),β,?_,.inl rfl,(h.nE (.stringIter ⟨⟨l⟩⟩ 0) (.iI l 0) (.ck w.heap.size) (by exact fun _ h=>h) jH).put o.dst (x:=.v (.ptr s.G.length 0)) (Rel.ptr (iy h _)),by rw [bf]; exact dD h _ _ (by exact fun _ h=>h)⟩;generalize gE:a.eval x=xv at fe;cases fe;simp only [execOp,ho,gE,Instr.range,aaY,run_underlying e2,run_newObj,aaO,abp];rfl
theorem HO (l:List UInt8) (pos:Nat) (h:pos < l.length):rF l pos=Utf8.decode ⟨⟨l⟩⟩ pos:=by
 unfold rF;cases hb:Nat.blt (l.getD pos 0).toNat 128 with
 |false=>rfl
 |true=>
  have bY:(l.getD pos 0).toNat < 128:=abB hb;have e:(ab4 ⟨⟨l⟩⟩ (pos+0))=l.getD pos 0:=by
   simp [ab4,h,List.getD_eq_getElem?_getD]
  simp only [cond_true,Utf8.decode,e];rw [if_pos (show (l.getD pos 0).toNat < 0x80 from bY)]
theorem Lb (h:bq E R w β s a) (x:Operand) (ho:o.op=.next x true) {s':St} (hv:nf s o.dst (bQ E s.ab x)=some s'):cz E R w β s a o s':=by
 have rx:=aY h x;unfold nf at hv;split at hv
 ·rename_i id hx;rw [hx] at rx;have fe:Rel R w (.ptr id 0) (a.eval x):=rx;generalize gE:a.eval x=xv at fe;cases fe with
  | @ptr _ _ b hb=>
  split at hv
  ·rename_i l pos hg;have q1:w.heap[b]?=some (.stringIter ⟨⟨l⟩⟩ pos):=h.g.obj id _ _ hg hb;have bY:=bo q1;have lC:(getObj b).run E.P w=.ok (.stringIter ⟨⟨l⟩⟩ pos) w:=by simp [getObj,abr,q1]
   have zu:∀ o',(setObj b o').run E.P w=.ok () (World.put w b o'):=fun o'=>by
    simp [setObj,abr,World.put,q1]
   cases ka:Nat.blt pos l.length with
   |true=>
    rw [ka] at hv;have hp:pos < l.length:=abB ka;simp only [cond_true] at hv;generalize xN:rF l pos=p at hv;obtain ⟨c,n⟩:=p;cases hv;rw [HO l pos hp] at xN;obtain ⟨p1,p2⟩:=h.setObj (x':=.stringIter ⟨⟨l⟩⟩ (pos+n)) (go':=.iI l (pos+n)) hb q1 trivial trivial (fun _ e=>by cases e) (iR w b _ bY);have gi:pos < (⟨⟨l⟩⟩:ByteArray).size:=hp;refine ⟨.value (.tuple #[.bool true,.int .i64 pos,.int .i32 c]),_,_,R,β,?_,.inl rfl,p1.put o.dst (x:=.v (.bu [.bool true,.int .i64 pos,.int .i32 c])) (Rel.bu (vs:=[.bool true,.int .i64 pos,.int .i32 c]) (.cons (.bool _) (.cons (.int _ _) (.cons (.int _ _) .nil)))),by rw [bf]; exact p2⟩;simp [execOp,ho,gE,Instr.next,lC,gi,xN,zu,goInt]
   |false=>
    rw [ka] at hv;simp only [cond_false] at hv;cases hv;have hp:¬ pos < l.length:=fun hh=>by
     have:Nat.blt pos l.length=true:=Nat.ble_eq_true_of_le hh;rw [ka] at this; cases this
    have gi:¬ pos < (⟨⟨l⟩⟩:ByteArray).size:=hp;refine ap h (c:=.tuple #[.bool false]) ?_ (Rel.bu (vs:=[.bool false]) (.cons (.bool _) .nil));simp [execOp,ho,gE,Instr.next,lC,gi]
  ·cases hv
 ·cases hv
theorem eH.get:∀ {es:List (AV × AV)} {ax:List MapEntry} {i:Nat} {e:MapEntry},eH R w es ax→ax[i]?=some e→Rel R w (fu es i).1 e.key∧Rel R w (fu es i).2 e.val
 |[],[],i,e,_,he=>by simp at he
 |(k,v) :: _,en :: _,0,e,h,he=>by
  simp only [abH,abV] at he;subst he;exact ⟨h.1,h.2.1⟩
 |(_,_) :: es,_ :: ax,i+1,e,h,he=>by
  simp only [abI] at he;exact eH.get (es:=es) h.2.2 he
 |[],_ :: _,_,_,h,_=>h.elim
 |_ :: _,[],_,_,h,_=>h.elim
theorem HP (E:Env) (t:TypeId) (e:AV × AV):tO E t e=(true,e.1,e.2)∨∃ pv pk:aO,tO E t e=(pk.fits e.1&&pv.fits e.2,pk.enc (pk.bC e.1),pv.enc (pv.bC e.2)):=by
 unfold tO;split
 ·split
  ·split
   ·rename_i pv pk _ _;exact .inr ⟨pv,pk,rfl⟩
   ·exact .inl rfl
  ·exact .inl rfl
 ·exact .inl rfl
theorem Fj {t:TypeId} {e:AV × AV} {x y:Value} (hf:(tO E t e).1=true) (h:Rel R w e.1 x∧Rel R w e.2 y):Rel R w (tO E t e).2.1 x∧Rel R w (tO E t e).2.2 y:=by
 rcases HP E t e with he|⟨pv,pk,he⟩
 ·rw [he]; exact h
 ·rw [he] at hf ⊢;simp only [aad] at hf;exact ⟨(pk.dL hf.1).jc _ _ _ h.1,(pv.dL hf.2).jc _ _ _ h.2⟩
theorem Fk (h:bq E R w β s a) (t:TypeId) (x:Operand) (ho:o.op=.range t x) {i:TI} {kt et:TypeId} {ez:Option AV} {id:Nat} {es:List (AV × AV)} (hi:E.ti t=some i) (hk:i.k=.map kt et ez) (hx:bQ E s.ab x=.v (.map id)) (hg:nth s.G id=some (.map es)) :
  cz E R w β s a o ((s.fj (.pY id es.length (List.range es.length) none t)).put o.dst (.v (.ptr s.G.length 0))):=by
 have rx:=aY h x;rw [hx] at rx;have fe:Rel R w (.map id) (a.eval x):=rx;obtain ⟨je,u,e1,e2,e3,e4,e5,e6⟩:=cJ E hi;rw [hk] at e5;obtain ⟨rfl,ie,g1,g2⟩:=og e5;generalize gE:a.eval x=xv at fe;cases fe with
 | @map _ b hb=>
 obtain ⟨ax,clock,q1,q2,q3,q4⟩:=h.g.obj id _ _ hg hb;have hlen:=q2.length;have bY:=bo q1;subst q3;have jH:iP (R.add (.ck w.heap.size)) (w.alloc (.mapIter (some b) ax.size #[] ax.size)) (.pY id es.length (List.range es.length) none t) (.ck w.heap.size):=by
  refine ⟨b,#[],ax.size,dX hb,?_,fun j hj=>?_,fun j hj=>List.mem_range.1 hj,List.nodup_range,?_,fun i hi=>by cases hi⟩
  ·rw [hlen,abn]; exact heap_alloc_new w _
  ·simp [List.mem_range,hj]
  ·rw [hlen,abn]; exact Nat.le_refl _
 refine ⟨_,.pointer (some ⟨w.heap.size,0,none⟩),w.alloc (.mapIter (some b) ax.size #[] ax.size),R.add (.ck w.heap.size),β,?_,.inl rfl,(h.nE _ _ (.ck w.heap.size) (by exact fun _ h=>h) jH).put o.dst (x:=.v (.ptr s.G.length 0)) (Rel.ptr (iy h _)),by rw [bf]; exact dD h _ _ (by exact fun _ h=>h)⟩;have lC:(getObj b).run E.P w=.ok (.map ax ax.size) w:=by simp [getObj,abr,q1]
 simp only [execOp,ho,gE,Instr.range,aaY,run_underlying e2,lC,run_newObj,aaO,abp];rfl
theorem mem_erase_iff {l:List Nat} (hn:l.Nodup) (i j:Nat):j∈l.erase i↔j≠i∧j∈l:=hn.mem_erase_iff
theorem bq.drew (h:bq E R w β s a):bq E R w.drew β s a∧Step R w β s.boxes R w.drew β s.boxes:=by
 have e:Ext R w R w.drew:=⟨fun _ _ h=>h,fun _ _ _=>rfl,fun _ ro h=>⟨ro,h,cV.refl ro⟩,iJ.refl w⟩;exact ⟨h.bJ e rfl (fun _ _=>rfl) (fun _ _ _ hi=>hi) h.g.wf (fun hd=>Nat.le_succ_of_le hd),⟨e,rfl,rfl,rfl,Nat.le_refl _,fun _ _ _=>rfl,fun _ _ ho=>ho,fun _ _ hi _ _=>hi⟩⟩
theorem HQ (h:bq E R w β s a) (x:Operand) (ho:o.op=.next x false) {s0:St} {left:List Nat} {g:Nat→Bool × St} (hv:Ce E s o.dst (bQ E s.ab x)=some (true,s0,left,g)) :
  (left=[]∧cz E R w β s a o s0)∨∃ i∈left,(g i).1=true→cz E R w β s a o (g i).2:=by
 have rx:=aY h x;unfold Ce at hv;split at hv
 ·rename_i id hx;rw [hx] at rx;have fe:Rel R w (.ptr id 0) (a.eval x):=rx;generalize gE:a.eval x=xv at fe;cases fe with
  | @ptr _ _ r hr=>
  split at hv
  ·rename_i sR n Cv acx tt hg;split at hv
   ·rename_i es hm;injection hv with hv; injection hv with h1 hv; injection hv with h2 hv; injection hv with h3 h4;subst h2; subst h3; subst h4;have hn:=of_decide_eq_true h1;obtain ⟨b,seen,c0,m1,m2,m3,m4,m5,m6,_⟩:=h.g.obj id _ _ hg hr;obtain ⟨ax,clock,q1,q2,q3,q4⟩:=h.g.obj sR _ _ hm m1;subst q3;have hlen:=q2.length;have agv:ax.toList.length=ax.size:=abn;have gi:ax.size=n:=by omega
    have hold:∀ y∈ax.toList,y.born < n:=fun y hy=>by
     obtain ⟨i,hi,hiy⟩:=abO hy;have:=q4 i y (by rw [abj hi,hiy]);omega
    rcases run_next_at (P:=E.P) w o.type r b n c0 seen ax ax.size m2 q1 hold m6 with ⟨k1,k2⟩|⟨en,k1,w1,k2,k3⟩
    ·refine .inl ⟨?_,?_⟩
     ·apply List.eq_nil_iff_forall_not_mem.2;intro i hi;have Cr:=m4 i hi;have hs:=(m3 i Cr).1 hi;have M9:i < ax.toList.length:=by omega
      have lC:ax.toList[i]?=some ax.toList[i]:=abj M9;have hb:=q4 i _ lC;have sr:ax.toList[i]∈(leftOf ax seen).toList:=by
       unfold leftOf;rw [abP,List.mem_filter];exact ⟨List.getElem_mem _,by rw [hb,hs]; rfl⟩
      have h0:(leftOf ax seen).toList=[]:=List.eq_nil_of_length_eq_zero (by rw [abn]; exact k1);rw [h0] at sr;simp at sr
     ·refine ap h (c:=.tuple #[.bool false]) ?_ (Rel.bu (vs:=[.bool false]) (.cons (.bool _) .nil));simp [execOp,ho,gE,k2]
    ·have sr:en∈ax.toList∧seen.contains en.born=false:=by
      unfold leftOf at k1;rw [abP,List.mem_filter] at k1;exact ⟨k1.1,by simpa using k1.2⟩
     obtain ⟨i,hi,hie⟩:=abO sr.1;have lC:ax.toList[i]?=some en:=by rw [abj hi,hie]
     have hb:=q4 i en lC;have Cr:i < n:=by omega
     have M9:i∈Cv:=(m3 i Cr).2 (by rw [← hb]; exact sr.2);refine .inr ⟨i,M9,fun xS=>?_⟩
     -- the world, perhaps one draw on
     have hw1:bq E R w1 β s a∧Step R w β s.boxes R w1 β s.boxes:=by
      rcases k2 with rfl|rfl
      ·exact ⟨h,Step.refl _ _ _ _⟩
      ·exact h.drew
     obtain ⟨df,mP⟩:=hw1;have Cw:w1.heap[r]?=some (.mapIter (some b) n seen c0):=by rcases k2 with rfl | rfl <;> exact m2
     have bY:=bo Cw;have acJ:(setBlock w1 r (.mapIter (some b) n (seen.push en.born) ax.size))=World.put w1 r (.mapIter (some b) n (seen.push en.born) ax.size):=rfl;have hex:=pg (R:=R) (x':=.mapIter (some b) n (seen.push en.born) ax.size) Cw trivial trivial (fun _ e=>by cases e);obtain ⟨p1,p2⟩:=df.setObj (x':=.mapIter (some b) n (seen.push en.born) ax.size) (go':=.pY sR n (Cv.erase i) (some i) tt) hr Cw trivial trivial (fun _ e=>by cases e)
      ⟨b,seen.push en.born,ax.size,m1,iR w1 r _ bY,fun j hj=>by
       rw [mem_erase_iff m5,Array.contains_push,m3 j hj,hb];by_cases e:j=i
       ·subst e; simp
       ·have e':¬ i=j:=fun h=>e h.symm
        simp [e,e'],fun j hj=>m4 j (List.mem_of_mem_erase hj),m5.erase i,by omega,fun j hj=>by
       cases hj;exact ⟨by rw [hb]; simp,gi⟩⟩
     obtain ⟨z1,z2⟩:=Fj xS (q2.get lC);have acK:=mP.ext.trans p2.ext;refine ⟨.value (.tuple #[.bool true,en.key,en.val]),_,_,R,β,?_,.inl rfl,p1.put o.dst (x:=.v (.bu [.bool true,(tO E tt (fu es i)).2.1,(tO E tt (fu es i)).2.2])) (Rel.bu (vs:=[.bool true,en.key,en.val]) (.cons (.bool _) (.cons (z1.mono acK) (.cons (z2.mono acK) .nil)))),by rw [bf]; exact mP.trans p2⟩;simp [execOp,ho,gE,k3,acJ]
   ·cases hv
  ·cases hv
 ·cases hv
theorem zy:∀ (l:List MapEntry) (off i:Nat),(∀ (k:Nat) (e:MapEntry),l[k]?=some e→e.born=off+k)→i < l.length→l.find? (fun e=>e.born == off+i)=l[i]?
 |[],_,_,_,h=>by simp at h
 |e :: l,off,0,hs,_=>by
  have:=hs 0 e rfl;simp [this]
 |e :: l,off,i+1,hs,h=>by
  have h0:=hs 0 e rfl;have cK:(e.born == off+(i+1))=false:=by simp; omega
  rw [List.find?_cons_of_neg (by simp [cK]),abI];have:=zy l (off+1) i (fun k e' hk=>by have:=hs (k+1) e' (by simpa using hk); omega) (by simpa using h);rw [show off+(i+1)=off+1+i by omega];exact this
theorem sC:∀ (l:List MapEntry) (off i:Nat),(∀ (k:Nat) (e:MapEntry),l[k]?=some e→e.born=off+k)→i < l.length→l.findIdx? (fun e=>(e.born:Int) == ((off+i:Nat):Int))=some i
 |[],_,_,_,h=>by simp at h
 |e :: l,off,0,hs,_=>by
  have:=hs 0 e rfl;simp [List.findIdx?_cons,this]
 |e :: l,off,i+1,hs,h=>by
  have h0:=hs 0 e rfl;have cK:((e.born:Int) == ((off+(i+1):Nat):Int))=false:=by simp; omega
  have:=sC l (off+1) i (fun k e' hk=>by have:=hs (k+1) e' (by simpa using hk); omega) (by simpa using h);rw [show off+1+i=off+(i+1) by omega] at this;rw [List.findIdx?_cons,cK,this];rfl
theorem lf.bJ {ax:Array MapEntry} {clock:Nat} (h:lf ax clock) (n:Nat) {f:MapEntry→MapEntry} (hf:∀ e,(f e).born=e.born):lf (ax.modify n f) clock:=by
 obtain ⟨rfl,h2⟩:=h;refine ⟨by simp,fun i e he=>?_⟩;rw [abq,abt] at he;cases hi:ax.toList[i]? with
 |none=>rw [hi] at he; cases he
 |some e'=>
  rw [hi] at he;have h3:=h2 i e' hi;have he:(if n=i then f e' else e')=e:=abJ he;by_cases hn:n=i
  ·rw [if_pos hn] at he;subst he; rw [hf]; exact h3
  ·rw [if_neg hn] at he;subst he; exact h3
theorem eH.k9 {v:AV} {c:Value} (hv:Rel R w v c):∀ {es:List (AV × AV)} {ax:List MapEntry} (n:Nat),eH R w es ax→eH R w (k9 es n v) (ax.modify n fun e=>{ e with val:=c })
 |[],[],n,_=>by cases n <;> trivial
 |[],_ :: _,_,h=>h.elim
 |_ :: _,[],_,h=>h.elim
 |(_,_) :: _,_ :: _,0,h=>by
  rw [abz];exact ⟨h.1,hv,h.2.2⟩
 |(_,_) :: _,_ :: _,n+1,h=>by
  rw [abA];exact ⟨h.1,h.2.1,eH.k9 hv n h.2.2⟩
theorem WL {e:EK} {k k':AV} (h:(Ha e k k').isSome=true):Ha e k k'=some (yW e k k'):=by
 obtain ⟨b,hb⟩:=abF.1 h;simp only [yW,hb]
theorem Fl {e:EK} {k:AV}:∀ {es:List (AV × AV)},fI e k es=true→lx e k es=some (ma e k es)
 |[],_=>rfl
 |(k',v) :: es,h=>by
  simp only [fI,aad] at h;simp only [lx,ma,WL h.1];cases hb:yW e k k' with
  |true=>rfl
  |false=>simp only [cond_false]; exact Fl h.2
theorem JC {e:EK} {k v:AV}:∀ {es:List (AV × AV)},fI e k es=true→vm e k v es=some (fJ e k v es)
 |[],_=>rfl
 |(k',v') :: es,h=>by
  simp only [fI,aad] at h;simp only [vm,fJ,WL h.1];cases hb:yW e k k' with
  |true=>rfl
  |false=>simp only [cond_false,JC h.2]
theorem HR (h:bq E R w β s a) (x:Operand) (ho:o.op=.entry x) {v:AV} (hv:vo E s (bQ E s.ab x)=some (true,v)):cz E R w β s a o (s.put o.dst (.v v)):=by
 have rx:=aY h x;unfold vo at hv;split at hv
 ·rename_i id hx;rw [hx] at rx;have fe:Rel R w (.ptr id 0) (a.eval x):=rx;generalize gE:a.eval x=xv at fe;cases fe with
  | @ptr _ _ r hr=>
  split at hv
  ·rename_i sR n Cv i tt hg;split at hv
   ·rename_i es hm;injection hv with hv; injection hv with h1 h2;subst h2;rw [aad,aad,decide_eq_true_eq,decide_eq_true_eq] at h1;obtain ⟨⟨hn,hi⟩,xS⟩:=h1;obtain ⟨b,seen,c0,m1,m2,m3,m4,m5,m6,m7⟩:=h.g.obj id _ _ hg hr;obtain ⟨z1,z2⟩:=m7 i rfl;obtain ⟨ax,clock,q1,q2,q3,q4⟩:=h.g.obj sR _ _ hm m1;subst q3;have hlen:=q2.length;have agv:ax.toList.length=ax.size:=abn;have M9:i < ax.toList.length:=by omega
    have hfd:ax.find? (fun e=>e.born == i)=some ax.toList[i]:=by
     have:=zy ax.toList 0 i (fun k e hk=>by rw [abu]; exact q4 k e hk) M9;rw [abu,abj M9] at this;rw [← this]; simp
    have lC:ax.toList[i]?=some ax.toList[i]:=abj M9;obtain ⟨y1,y2⟩:=Fj xS (q2.get lC);have hc:ax.size=c0:=by omega
    refine ap h (c:=.tuple #[(ax.toList[i]).key,(ax.toList[i]).val]) ?_ (Rel.bu (vs:=[(ax.toList[i]).key,(ax.toList[i]).val]) (.cons y1 (.cons y2 .nil)));simp [execOp,ho,gE,Instr.entry,getObj,abr,m2,z1,q1,hc,hfd]
   ·cases hv
  ·cases hv
 ·cases hv
theorem BI (h:bq E R w β s a) (t:TypeId) (x y:Operand) (ho:o.op=.mapEntry t x y) {v:AV} {s':St} (hv:iq E s t (bQ E s.ab x) (bQ E s.ab y)=some (true,v,s')) :
  cz E R w β s a o (s'.put o.dst (.v v)):=by
 have rx:=aY h x;have ry:=aY h y;unfold iq at hv;split at hv
 ·rename_i i id k hi hm hk;rw [hm] at rx;rw [hk] at ry;have fe:Rel R w (.map id) (a.eval x):=rx;have sx:Rel R w k (a.eval y):=ry;split at hv
  ·rename_i kt et z es HM hg;split at hv
   ·rename_i j hj;split at hv
    ·rename_i hc;rw [aad] at hc;injection hv with hv; injection hv with hmk hv; injection hv with h2 h3;subst h2; subst h3;obtain ⟨je,u,e1,e2,e3,e4,e5,e6⟩:=cJ E hi;rw [HM] at e5;obtain ⟨rfl,ie,g1,g2⟩:=og e5;obtain ⟨d,hu,hD⟩:=JB hj hc.1;generalize gE:a.eval x=xv at fe;cases fe with
     | @map _ b hb=>
     obtain ⟨ax,clock,q1,q2,q3⟩:=h.g.obj id _ _ hg hb;have bY:=bo q1;have Rr:(aau false 10000 kt (a.eval y)).run E.P w=.ok () w:=run_checkKey hj hu hD hc.2 sx _;have lC:(getObj b).run E.P w=.ok (.map ax clock) w:=by simp [getObj,abr,q1]
     have zu:∀ o',(setObj b o').run E.P w=.ok () (World.put w b o'):=fun o'=>by
      simp [setObj,abr,World.put,q1]
     have fin:∀ es' mf kf c (n:Nat),eH R w es' mf.toList→lf mf kf→(execOp a.eval o).run E.P w=.ok (.value (.tuple #[c,.int .i64 n])) (World.put w b (.map mf kf))→Rel R w (dV j.ek k z es) c→n=jE j.ek k es→es'=fJ j.ek k (dV j.ek k z es) es →
       cz E R w β s a o ((s.cP (aG s.G id (.map (fJ j.ek k (dV j.ek k z es) es)))).put o.dst (.v (.bu [dV j.ek k z es,.int .i64 (jE j.ek k es:Nat)]))):=fun es' mf kf c n k1 k2 k3 k4 k5 k6=>by
      subst k5; subst k6;have hex:=pg (R:=R) (x':=.map mf kf) q1 trivial trivial (fun _ e=>by cases e);obtain ⟨p1,p2⟩:=h.setObj (x':=.map mf kf) (go':=.map (fJ j.ek k (dV j.ek k z es) es)) hb q1 trivial trivial (fun _ e=>by cases e) ⟨mf,kf,iR w b _ bY,k1.mono hex,k2⟩;exact ⟨.value (.tuple #[c,.int .i64 (jE j.ek k es:Nat)]),_,_,R,β,k3,.inl rfl,p1.put o.dst (x:=.v (.bu [dV j.ek k z es,.int .i64 (jE j.ek k es:Nat)])) (Rel.bu (vs:=[c,.int .i64 (jE j.ek k es:Nat)]) (.cons (k4.mono p2.ext) (.cons (.int _ _) .nil))),by rw [bf]; exact p2⟩
     have hmf:=Fl hmk;have Hv:=JC (v:=dV j.ek k z es) hmk;cases K4:ma j.ek k es with
     |none=>
      rw [K4] at hmf;have hgz:dV j.ek k z es=z:=by unfold dV; rw [K4]; rfl
      obtain ⟨c,k1,k2⟩:=Fh (R:=R) (w:=w) g1 g2;have He:(aao kt (a.eval y) ax.toList).run E.P w=.ok none w:=ua hj hu hD sx q2 hmf;rcases sY hj hu hD sx (show Rel R w (dV j.ek k z es) c by rw [hgz]; exact k2) q2 Hv with ⟨_,k3,k4⟩|⟨n,c',k3,_⟩
      ·have gi:ax.toList.length=ax.size:=abn;have jN:clock=ax.size:=q3.1;refine fin _ (ax.push { key:=a.eval y,val:=c,born:=clock }) (clock+1) c clock (by rw [abD]; exact k4 clock) (q3.push _ _) ?_ (by rw [hgz]; exact k2) (by rw [k3]; omega) rfl;simp [execOp,ho,Instr.mapEntry,gE,run_underlying e2,lC,Rr,He,zu,k1,goInt]
      ·rw [He] at k3;cases k3
     |some v0=>
      rw [K4] at hmf;have hgz:dV j.ek k z es=v0:=by unfold dV; rw [K4]; rfl
      obtain ⟨n0,c0,k1,k2⟩:=ub hj hu hD sx q2 hmf;have He:(aao kt (a.eval y) ax.toList).run E.P w=.ok (some (n0,c0)) w:=k1;rcases sY hj hu hD sx (show Rel R w (dV j.ek k z es) c0 by rw [hgz]; exact k2) q2 Hv with ⟨k3,_⟩|⟨n,c',k3,⟨k4,en,k5,k6,k7⟩,k8⟩
      ·rw [He] at k3;cases k3
      ·rw [He] at k3;cases k3;have hen:ax[n0]?=some en:=by rw [← abK]; exact k5
       have zo:(abv (a.eval y) (a.eval y)).run E.P w=.ok (a.eval y) w:=by simp [abv,qz hc.2 sx]
       have acM:en.born=n0:=q3.2 n0 en k5;have agx:(ax.modify n0 fun e=>{ e with key:=a.eval y }).toList=ax.toList.modify n0 fun e=>{ e with key:=a.eval y,val:=c0 }:=by
        rw [abq];apply List.ext_getElem?;intro m;rw [abt,abt];by_cases XQ:n0=m
        ·subst XQ;rw [k5];simp [k7]
        ·simp [XQ]
       refine fin _ (ax.modify n0 fun e=>{ e with key:=a.eval y }) clock c0 n0 (by rw [agx]; exact k8) (q3.bJ n0 fun _=>rfl) ?_ (by rw [hgz]; exact k2) k4 rfl;simp [execOp,ho,Instr.mapEntry,gE,run_underlying e2,lC,Rr,He,zu,hen,k6,zo,acM,goInt]
    ·cases hv
   ·cases hv
  ·cases hv
 ·cases hv
theorem xU (h:bq E R w β s a) (t:TypeId) (x y z:Operand) (ho:o.op=.entryStore t x y z) (hd:o.dst=none) {s':St} (hv:fK s (bQ E s.ab x) (bQ E s.ab y) (bQ E s.ab z)=some (true,s')) :
  cz E R w β s a o s':=by
 have rx:=aY h x;have ry:=aY h y;have rz:=aY h z;unfold fK at hv;split at hv
 ·rename_i id n v hm hk hz;rw [hm] at rx;rw [hk] at ry;rw [hz] at rz;have fe:Rel R w (.map id) (a.eval x):=rx;have sx:Rel R w (.int .i64 n) (a.eval y):=ry;have rz':Rel R w v (a.eval z):=rz;split at hv
  ·rename_i es hg;injection hv with hv; injection hv with hc h2;subst h2;rw [aad,decide_eq_true_eq,decide_eq_true_eq] at hc;obtain ⟨m,rfl⟩:∃ m:Nat,n=m:=⟨n.toNat,by omega⟩;have R6:m < es.length:=by simpa using hc.2
   generalize gE:a.eval x=xv at fe;generalize hyv:a.eval y=yv at sx;cases sx;cases fe with
   | @map _ b hb=>
   obtain ⟨ax,clock,q1,q2,q3⟩:=h.g.obj id _ _ hg hb;have bY:=bo q1;have hlen:=q2.length;have lC:(getObj b).run E.P w=.ok (.map ax clock) w:=by simp [getObj,abr,q1]
   have zu:∀ o',(setObj b o').run E.P w=.ok () (World.put w b o'):=fun o'=>by
    simp [setObj,abr,World.put,q1]
   have hfi:ax.findIdx? (fun e=>(e.born:Int) == (m:Int))=some m:=by
    have:=sC ax.toList 0 m (fun k e hk=>by rw [abu]; exact q3.2 k e hk) (by omega);rw [abu] at this;rw [← this];obtain ⟨l⟩:=ax;exact List.findIdx?_toArray ..
   have k1:eH R w (k9 es m v) (ax.modify m fun e=>{ e with val:=a.eval z }).toList:=by rw [abq]; exact eH.k9 rz' m q2
   have hex:=pg (R:=R) (x':=.map (ax.modify m fun e=>{ e with val:=a.eval z }) clock) q1 trivial trivial (fun _ e=>by cases e);obtain ⟨p1,p2⟩:=h.setObj (x':=.map (ax.modify m fun e=>{ e with val:=a.eval z }) clock) (go':=.map (k9 es m v)) hb q1 trivial trivial (fun _ e=>by cases e) ⟨_,clock,iR w b _ bY,k1.mono hex,q3.bJ m fun _=>rfl⟩;refine ⟨.skip,undef,_,R,β,?_,.inr ⟨rfl,rfl⟩,?_,p2⟩
   ·simp [execOp,ho,Instr.entryStore,gE,hyv,lC,asInt,asIntOf,hfi,zu]
   ·rw [hd];exact p1
  ·cases hv
 ·cases hv
end maps
end Go.Am
namespace Go.Am
open Go
section ops
variable {E:Env} {R:ak} {w:World} {β:Nat→Nat} {s:St} {a:Act} {o:Oper}
theorem sZ {k:IntKind}:∀ {es:List AV},allFit (aO.fits (.int k)) es=true→es=(es.map AV.mN).map (AV.int k)
 |[],_=>rfl
 |e :: es,h=>by
  simp only [allFit,aad] at h;have hr:=sZ h.2;have he:e=.int k e.mN:=by
   have h1:=h.1;cases e <;> first | (cases h1; done) | skip
   have:k=_:=of_decide_eq_true (show XF _ _=true from h1);subst this;rfl
  rw [abL,abL,← he,← hr]
theorem vA {k:IntKind}:∀ {ns:List Int} {vs:List Value},aP R w (ns.map (AV.int k)) vs→vs=ns.map (abR k)
 |[],_,.nil=>rfl
 |n :: ns,_,.cons h t=>by
  cases h;rw [abL,← vA t]
theorem wR {k:IntKind}:∀ (ns:List Int),aq (ns.map (AV.int k))=ns.map (AV.int k)
 |[]=>rfl
 |n :: ns=>by simp [aq,AV.cells,wR ns]
theorem foldl_push (ns:List Int):∀ (l:List UInt8),ns.foldl (fun r n=>r.push (abx n.toNat)) (⟨⟨l⟩⟩:ByteArray)=⟨⟨l++ns.map fun n=>abx n.toNat⟩⟩:=by
 induction ns with
 |nil=>intro l; simp
 |cons n ns ih=>
  intro l;rw [List.foldl_cons];have:(⟨⟨l⟩⟩:ByteArray).push (abx n.toNat)=⟨⟨l++[abx n.toNat]⟩⟩:=by
   simp [ByteArray.push]
  rw [this,ih];simp
theorem Fm (ns:List Int):∀ (l:List UInt8),ns.foldl (fun r n=>r++aby n) (⟨⟨l⟩⟩:ByteArray)=⟨⟨l++ns.flatMap fun n=>(aby n).data.toList⟩⟩:=by
 induction ns with
 |nil=>intro l; simp
 |cons n ns ih=>
  intro l;rw [List.foldl_cons];have:(⟨⟨l⟩⟩:ByteArray)++aby n=⟨⟨l++(aby n).data.toList⟩⟩:=by
   apply ByteArray.ext;apply Array.ext';simp
  rw [this,ih];simp
theorem Cx {es:List AV}:jJ es=(es.map AV.mN).map fun n=>abx n.toNat:=by simp [jJ,List.map_map,Function.comp_def]
theorem Lc {es:List AV}:yV es=(es.map AV.mN).flatMap fun n=>(aby n).data.toList:=by simp [yV,List.flatMap_map]
theorem Cy {a:Addr} {len cap:Nat} {ns:List Int} (h:(loadCells a len).run E.P w=.ok (ns.map (abR .u8)).toArray w) :
  (Conv.bytesToString (.slice (some a) len cap)).run E.P w=.ok (.string ⟨⟨ns.map fun n=>abx n.toNat⟩⟩) w:=by
 rw [run_bytesToString w a len cap ns h];have:=foldl_push ns [];rw [List.nil_append] at this;exact congrArg (fun x=>Result.ok (Value.string x) w) this
theorem Ld {a:Addr} {len cap:Nat} {ns:List Int} (h:(loadCells a len).run E.P w=.ok (ns.map (abR .i32)).toArray w) :
  (Conv.runesToString (.slice (some a) len cap)).run E.P w=.ok (.string ⟨⟨ns.flatMap fun n=>(aby n).data.toList⟩⟩) w:=by
 rw [run_runesToString w a len cap ns h];have:=Fm ns [];rw [List.nil_append] at this;exact congrArg (fun x=>Result.ok (Value.string x) w) this
theorem Cz {k:IntKind} {lk:LK} {sz:Nat} {es:List AV} {c:Value} (h:Rel R w (.list lk sz es) c) (hs:(Nat.beq sz 1 || es.isEmpty)=true) (hf:allFit (aO.fits (.int k)) es=true) :
  (es=[]∧c=.slice none 0 0)∨∃ a cap,c=.slice (some a) es.length cap∧(loadCells a es.length).run E.P w=.ok ((es.map AV.mN).map (abR k)).toArray w:=by
 obtain ⟨_,vs,h1,h2,h3,h4⟩:=jg (esz:=1) h (by
  simp only [Bool.or_eq_true] at hs;rcases hs with hs|hs
  ·exact .inr (Nat.eq_of_beq_eq_true hs)
  ·exact .inl (by simpa using hs))
 rw [sZ hf,wR] at h1;have hv:=vA h1;rcases h4 with ⟨he,_,ad,hc,_⟩|⟨b,o',cap,hc,_,_,hJ,_⟩
 ·cases ad with
  |none=>exact .inl ⟨he,hc⟩
  |some ad=>
   subst he;exact .inr ⟨ad,0,hc,by simp [loadCells,loadCellsFrom]⟩
 ·refine .inr ⟨_,cap,hc,?_⟩;have:=run_loadCells_list (P:=E.P) w ⟨b,o',none⟩ vs hJ;rw [h3,Nat.mul_one] at this;rw [this,hv]
theorem DM (h:bq E R w β s a) (t u:TypeId) (x:Operand) (ho:o.op=.convert t u x) {v:AV} (hc:n9 E s t u (bQ E s.ab x)=some (true,v)) :
  cz E R w β s a o (s.put o.dst (.v v)):=by
 have rx:=aY h x;unfold n9 at hc;split at hc
 ·rename_i i j q hi hj hx;rw [hx] at rx;have fe:Rel R w q (a.eval x):=rx;generalize gE:a.eval x=xv at fe;obtain ⟨je,ud,e1,e2,e3,e4,e5,e6⟩:=cJ E hj;obtain ⟨acG,ud',e1',e2',e3',e4',e5',e6'⟩:=cJ E hi;split at hc
  ·rename_i k _ n hk;cases hc;cases fe;rw [hk] at e5;have:=tT e5;subst this;refine ap h (c:=.int k (k.wrap n)) ?_ (Rel.int _ _);simp [execOp,ho,convert,run_underlying e2',run_underlying e2,gE,Conv.intToInt]
  ·rename_i lk sz es hk;rw [hk] at e5;have:=mc e5;subst this;split at hc
   ·rename_i elem ag eb z HM;rw [HM] at e5';obtain ⟨ie,ue,rfl,_⟩:=fB e5';split at hc
    ·rename_i e he;obtain ⟨acN,ud2,f1,f2,f3,f4,f5,f6⟩:=cJ E he;split at hc
     ·rename_i Ck;injection hc with hc; injection hc with c1 c2;subst c2;rw [aad] at c1;rw [Ck] at f5;have:=tT f5;subst this;refine ap h (c:=.string ⟨⟨jJ es⟩⟩) ?_ (Rel.str _);rcases Cz (E:=E) fe c1.1 c1.2 with ⟨rfl,rfl⟩|⟨ad,cap,rfl,hl⟩
      ·simp [execOp,ho,convert,run_underlying e2',run_underlying e2,run_underlying f2,gE,Conv.bytesToString,jJ];rfl
      ·have hr:=Cy (E:=E) (cap:=cap) hl;rw [← Cx] at hr;simp [execOp,ho,convert,run_underlying e2',run_underlying e2,run_underlying f2,gE,hr]
     ·rename_i Ck;injection hc with hc; injection hc with c1 c2;subst c2;rw [aad] at c1;rw [Ck] at f5;have:=tT f5;subst this;refine ap h (c:=.string ⟨⟨yV es⟩⟩) ?_ (Rel.str _);rcases Cz (E:=E) fe c1.1 c1.2 with ⟨rfl,rfl⟩|⟨ad,cap,rfl,hl⟩
      ·simp [execOp,ho,convert,run_underlying e2',run_underlying e2,run_underlying f2,gE,Conv.runesToString,yV];rfl
      ·have hr:=Ld (E:=E) (cap:=cap) hl;rw [← Lc] at hr;simp [execOp,ho,convert,run_underlying e2',run_underlying e2,run_underlying f2,gE,hr]
     ·cases hc
    ·cases hc
   ·cases hc
  ·rename_i id off len cap hk;rw [hk] at e5;have:=mc e5;subst this;split at hc
   ·rename_i elem ag eb z cs el HM hg;rw [HM] at e5';obtain ⟨ie,ue,rfl,_⟩:=fB e5';split at hc
    ·rename_i e he;obtain ⟨acN,ud2,f1,f2,f3,f4,f5,f6⟩:=cJ E he;split at hc
     ·rename_i Ck;injection hc with hc; injection hc with c1 c2;subst c2;rw [aad] at c1;rw [Ck] at f5;have:=tT f5;subst this;cases fe with
      | @lz _ _ _ _ _ b hb jK=>
      obtain ⟨vs,b1,b2,b3,b4⟩:=h.g.obj id _ _ hg hb;have hle:=abB c1.1;have agy:gJ off (off+len) cs=(cs.drop off).take len:=by
       unfold gJ;rw [List.drop_take];congr 1;omega
      have fF:aP R w (gJ off (off+len) cs) ((vs.drop off).take len):=by
       rw [agy];exact (b2.drop off).take len
      have hlen:((vs.drop off).take len).length=len:=by
       rw [List.length_take,List.length_drop,← b2.length];omega
      have Fo:=fF;rw [sZ c1.2] at Fo;have hv:=vA Fo;have hl:=run_loadCells_list (P:=E.P) w ⟨b,off,none⟩ ((vs.drop off).take len) (fun j v hj=>by
       rw [cZ,kC b1];rw [List.getElem?_take] at hj;split at hj
       ·rw [List.getElem?_drop] at hj; exact hj
       ·cases hj)
      rw [hlen,hv] at hl;have hr:=Cy (E:=E) (cap:=cap) hl;rw [← Cx] at hr;refine ap h (c:=.string ⟨⟨jJ (gJ off (off+len) cs)⟩⟩) ?_ (Rel.str _);simp [execOp,ho,convert,run_underlying e2',run_underlying e2,run_underlying f2,gE,hr]
     ·cases hc
    ·cases hc
   ·cases hc
  ·cases hc
 ·cases hc
theorem sD (h:bq E R w β s a) (x:Operand) (ho:o.op=.nilCheck x) {y:SV} (hx:bQ E s.ab x=y) (hy:(∃ id off,y=.v (.ptr id off))∨∃ k off,y=.lp k off) :
  cz E R w β s a o (s.put o.dst y):=by
 have rx:=aY h x;rw [hx] at rx;rcases hy with ⟨id,off,rfl⟩|⟨k,off,rfl⟩
 ·have fe:Rel R w (.ptr id off) (a.eval x):=rx;generalize gE:a.eval x=xv at fe;cases fe with
  | @ptr _ _ b hb=>
  refine ap h (c:=.pointer (some ⟨b,off,none⟩)) ?_ (Rel.ptr hb);simp [execOp,ho,gE]
 ·refine ⟨_,_,w,R,β,?_,.inl rfl,h.put o.dst rx,by rw [bf]; exact Step.refl _ _ _ _⟩;have gE:a.eval x=.pointer (some ⟨β k,off,none⟩):=rx;simp [execOp,ho,gE]
end ops
end Go.Am
namespace Go.Am
open Go
section
variable {E:Env} {R R':ak} {w w':World} {β β':Nat→Nat} {s s':St} {a a':Act} {o:Oper}
theorem HS {f:FuncId} (h:bq E R w β s a) (hs:jq E f s o=some (true,s')):cz E R w β s a o s':=by
 unfold jq at hs;cases hs
theorem HT {f:FuncId} (h:bq E R w β s a) (hs:wJ E f s o=some (true,s')):cz E R w β s a o s':=by
 unfold wJ at hs;cases hs
end
end Go.Am
