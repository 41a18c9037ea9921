/- The abstract machine: what it does is what the model does: objects that are no rows; ranges over strings. -/
import Derived.Test.YtegoimldbgdeiaaAmKE
import Derived.Laws.RangeAny
import Derived.Maps.RangeRun
import Derived.Laws.BytesString
import Derived.Laws.Cover4
set_option linter.all false
open Array renaming length_toList→aaK, toList_modify→aaT, toList_push→acG, getElem?_toList→acN, toList_filter→acV
open Bool renaming and_eq_true→aae
open ByteArray renaming get!→ac8
open Go.ByteArray renaming toList_eq→acT
open Go.Instr renaming findKey→aal, checkKey→aas, findAsking→aat, findNow→aay, sameBits→aaM, keyThatStays→abQ, sameNow→acC, lookup→acJ
open Go.Op renaming maxDepth→ab9, equal→acI
open Go.Result renaming andThen_ok→aav
open Go.Sem renaming run_bind→aax, run_pure→aaP, run→aa0
open List renaming getElem?_eq_getElem→aau, getElem?_modify→aa3, modify_zero_cons→acg, modify_succ_cons→acv, getElem?_cons_zero→acK, getElem?_cons_succ→acL, singleton_append→acO, length_singleton→acP, mem_cons_of_mem→acQ, getElem_of_mem→acU
open Nat renaming eq_of_beq_eq_true→aaA, zero_add→aa6, le_of_ble_eq_true→acz, sub_zero→acH, add_assoc→acR, add_comm→acW
open Option renaming isSome_iff_exists→abd
open Option.some renaming inj→acM, injEq→ac1
namespace Go.Am
open Go
open Go.ChangeMaps (setBlock)
def sh (x:Obj):Prop:=match x with
 |.cells ..=>False
 |_=>True
theorem xC {w:World} {b:Nat} {x:Obj} (h:w.heap[b]?=some x) (hn:sh x) (o:Nat):w.cell? ⟨b,o,none⟩=none:=by
 simp only [World.cell?,h];cases x <;> first | rfl | exact hn.elim
def World.put (w:World) (b:Nat) (x:Obj):World:={ w with heap:=w.heap.setIfInBounds b x }
theorem qY (w:World) (b k:Nat) (x:Obj) (h:k≠b):(World.put w b x).heap[k]?=w.heap[k]?:=Array.getElem?_setIfInBounds_ne (Ne.symm h)
theorem jT (w:World) (b:Nat) (x:Obj) (h:b < w.heap.size):(World.put w b x).heap[b]?=some x:=by simp [World.put,h]
@[simp] theorem adQ (w:World) (b:Nat) (x:Obj):(World.put w b x).heap.size=w.heap.size:=by simp [World.put]
section setobj
variable {E:Env} {R:aj} {w:World} {β:Nat→Nat} {s:St} {a:Act}
theorem si {b:Nat} {x x':Obj} (hx:w.heap[b]?=some x) (hn:sh x) (hn':sh x') (hl:∀ r,x=.loop r→∃ r',x'=.loop r'∧tC r r'):Ext R w R (World.put w b x'):=
 ⟨fun _ _ h=>h,fun b' o h=>by
  by_cases e:b'=b
  ·subst e;rw [xC hx hn,xC (jT w b' x' (bE hx)) hn']
  ·exact cH (qY w b b' x' e) o,fun _ ro h=>⟨ro,h,di.refl ro⟩,fun b' r hb=>by
  by_cases e:b'=b
  ·subst e;rw [hx] at hb;obtain ⟨r',rfl,h2⟩:=hl r (acM hb);exact ⟨r',jT w b' _ (bE hx),h2⟩
  ·exact ⟨r,(qY w b b' x' e).trans hb,rfl,rfl,rfl,rfl,rfl⟩⟩
theorem bk.setObj (h:bk E R w β s a) {id b:Nat} {x x':Obj} {go':GO} (bV:nth R.obj id=some (.cu b)) (hx:w.heap[b]?=some x) (hn:sh x) (hn':sh x') (hl:∀ r,x=.loop r→∃ r',x'=.loop r'∧tC r r') (jQ:jw R (World.put w b x') go' (.cu b)) :
  bk E R (World.put w b x') β (s.cj (aE s.G id go')) a∧Step R w β s.boxes R (World.put w b x') β s.boxes:=by
 have hex:=si (R:=R) hx hn hn' hl;refine ⟨⟨⟨by simp [St.cj,h.g.len],fun nN go ro hg nD=>?_,h.g.inj,fun b' o' tj=>by have:=h.g.wf b' o' tj; simpa using this,fun g gr hg=>(h.g.fm g gr hg).mono hex,by first | exact h.g.lo | exact Nat.le_succ_of_le h.g.lo⟩,?_,h.t.mono hex,h.n,h.d⟩,?_⟩
 ·rcases fA hg with ⟨rfl,rfl,_⟩|⟨du,Kh⟩
  ·rw [bV] at nD;cases nD;exact jQ
  ·refine (h.g.obj nN go ro Kh nD).mono hex (fun b' mX=>qY w _ b' _ (fun e=>du ?_)) (fun _ _ _ hi=>hi);subst e;exact h.g.inj id nN _ _ b' bV nD rfl mX
 ·exact h.b.bh hex (fun k gr kT=>qY w _ _ _ (h.KD bV kT)) (fun _ _ _ _ hi=>hi) (fun _ _ _ hl=>hl)
 ·have zn:Own R β s.boxes b:=.inl ⟨id,_,bV,rfl⟩;exact ⟨hex,rfl,rfl,rfl,by simp,fun b' _ hn=>qY w _ b' _ (fun e=>hn (e ▸ zn)),fun _ _ hb=>hb,fun b o hi _ _=>hi⟩
end setobj
section maps
variable {E:Env} {R:aj} {w:World} {β:Nat→Nat} {s:St} {a:Act} {o:Oper}
theorem Q2 {t:TypeId} {i:TI} (hi:E.ti t=some i):i.ek=Ae E.P t:=by
 have:=E.Ou t i hi;unfold Ot at this;split at this
 ·split at this
  ·cases this; rfl
  ·cases this
 ·cases this
theorem nT {e:EK} {a b:AV} {r:Bool} (h:Kg e a b=some r):pN e a b=some r:=by
 unfold Kg at h;split at h
 ·rename_i he;cases hc:(e.wide&&!rT a b) with
  |true=>rw [hc] at h; cases h
  |false=>rw [hc] at h; cases h; exact he
 ·exact h
theorem Q3 {e:EK} {a b:AV} (h:Kg e a b=some true) (he:e.wide=true):rT a b=true:=by
 have:=nT h;unfold Kg at h;rw [this] at h;simp only [he,Bool.true_and] at h;cases hs:rT a b with
 |true=>rfl
 |false=>rw [hs] at h; cases h
def Ip (e:EK) (d:TypeDesc):Prop:=(e=.bool∧d=.bool)∨(e=.int∧∃ k,d=.int k)∨(e=.str∧d=.string)∨(e.wide=true∧((∃ fs,d=.struct fs)∨∃ n t,d=.array n t))
theorem Ao {P:Program} {t:TypeId} (h:(Ae P t).plain=true):∃ d,P.underlying t=some d∧Ip (Ae P t) d:=by
 have key:∀ {e:EK},e=vA P 6 t→e.plain=true→∃ d,P.underlying t=some d∧Ip e d:=by
  intro e he h;unfold vA at he;split at he
  ·rename_i hu; exact ⟨_,hu,.inl ⟨he,rfl⟩⟩
  ·rename_i k hu; exact ⟨_,hu,.inr (.inl ⟨he,k,rfl⟩)⟩
  ·rename_i hu; exact ⟨_,hu,.inr (.inr (.inl ⟨he,rfl⟩))⟩
  ·rename_i fs hu;split at he
   ·subst he; cases h
   ·split at he
    ·subst he; exact ⟨_,hu,.inr (.inr (.inr ⟨rfl,.inl ⟨_,rfl⟩⟩))⟩
    ·subst he; cases h
  ·rename_i m e' hu;split at he
   ·subst he; exact ⟨_,hu,.inr (.inr (.inr ⟨rfl,.inr ⟨_,_,rfl⟩⟩))⟩
   ·subst he; cases h
  ·subst he; cases h
 unfold Ae at h ⊢;split
 ·rename_i l hl;rw [hl] at h;simp only at h;split at h
  ·simp [EK.plain] at h
  ·rename_i hg;rw [if_neg hg];exact key hl.symm rfl
 ·rename_i k hk;exact key rfl (by
   split at h
   ·rename_i l hl; exact absurd hl (hk l)
   ·exact h)
theorem GM {a b:AV} (h:xi a b=true) {x y:Value} (hx:Rel R w a x) (hy:Rel R w b y):x=y:=by
 unfold xi at h;split at h
 ·cases hx; cases hy; rw [eq_of_beq h]
 ·rw [aae,decide_eq_true_eq] at h;cases hx; cases hy; rw [h.1,eq_of_beq h.2]
 ·cases hx; cases hy; rw [eq_of_beq h]
 ·cases h
theorem xD:∀ {xs ys:List AV} {vs us:List Value},tx xs ys=true→aW R w xs vs→aW R w ys us→vs=us
 |[],[],_,_,_,.nil,.nil=>rfl
 |a :: xs,b :: ys,_,_,h,.cons h1 h2,.cons h3 h4=>by
  unfold tx at h;rw [aae] at h;rw [GM h.1 h1 h3,xD h.2 h2 h4]
 |[],_ :: _,_,_,h,_,_=>by cases h
 |_ :: _,[],_,_,h,_,_=>by cases h
theorem Iq {a b:AV} (h:rT a b=true) {x y:Value} (hx:Rel R w a x) (hy:Rel R w b y):x=y:=by
 unfold rT at h;split at h
 ·cases hx with
  |agg hx _=>cases hy with
   |agg hy _=>rw [xD h hx hy]
 ·cases h
theorem Ap {ek:TypeId→EK} {d:Nat} {em:Bool} (ih:∀ (t:TypeId) (a:AV) (r:Bool) (x:Value),pN (ek t) a a=some r→Rel R w a x→(aas em d t x).run E.P w=.ok () w) {xs:List AV} {vs:List Value}
  (hx:aW R w xs vs) (A2:∀ x∈vs,x.oneCell'=true) :
  ∀ (fs:List Field) (l:Xf) (r:Bool),Ku E.P ek fs=some l→zg l xs xs=some r →
   (do for f in fs do if f.name ≠ "_" then aas em d f.type (← part f.type ⟨vs⟩ f.offset) : Sem Unit).run E.P w = .ok () w
 |[],l,r,hl,hr=>by simp
 |f :: fs,l,r,hl,hr=>by
  unfold Ku at hl;split at hl
  ·cases hl
  ·rename_i hn;split at hl
   ·rename_i i u l' h1 h2 h3;cases hl;unfold zg at hr;split at hr
    ·rename_i a b ha hb;rw [ha] at hb;cases hb;split at hr
     ·rename_i p q hp hq;obtain ⟨c,k1,k2⟩:=ob h1 h2 hx A2 ha;have du : f.name ≠ "_" := by simpa using hn
      have Cg:=Ap ih hx A2 fs l' q h3 hq;simp only [List.forIn_cons,aax,if_pos du,aav,k1,ih f.type a p c hp k2,aaP];simpa only [aax,aaP] using Cg
     ·cases hr
    ·cases hr
   ·cases hl
theorem xG {ek:EK} {d:Nat} {em:Bool} {e:TypeId} {i:TypeInfo} {u:TypeDesc} (h1:E.P.info? e=some i) (h2:E.P.underlying e=some u) (ih:∀ (a:AV) (r:Bool) (x:Value),pN ek a a=some r→Rel R w a x→(aas em d e x).run E.P w=.ok () w) {xs:List AV} {vs:List Value}
  (hx:aW R w xs vs) (A2:∀ x∈vs,x.oneCell'=true) :
  ∀ (m k:Nat) (r:Bool),zg (B6 i.size (mZ u) ek m k) xs xs=some r →
   (do for j in List.range' k m do aas em d e (← part e ⟨vs⟩ (j * (← sizeOf e))):Sem Unit).run E.P w=.ok () w
 |0,k,r,hr=>by simp
 |m+1,k,r,hr=>by
  unfold B6 zg at hr;split at hr
  ·rename_i a b ha hb;rw [ha] at hb;cases hb;split at hr
   ·rename_i p q hp hq;obtain ⟨c,k1,k2⟩:=ob h1 h2 hx A2 ha;have Cg:=xG h1 h2 ih hx A2 m (k+1) q hq;simp only [List.range'_succ,List.forIn_cons,aax,run_sizeOf w h1,aav,k1,ih a p c hp k2,aaP];simpa only [aax,aaP] using Cg
   ·cases hr
  ·cases hr
theorem sj (em:Bool):∀ (n d:Nat),n≤d→∀ (t:TypeId) (a:AV) (r:Bool) (x:Value),pN (vA E.P n t) a a=some r→Rel R w a x→(aas em d t x).run E.P w=.ok () w
 |0,_,_,t,a,r,x,h,_=>by simp [vA,pN] at h
 |n+1,0,hd,_,_,_,_,_,_=>by omega
 |n+1,d+1,hd,t,a,r,x,h,hx=>by
  unfold vA at h;split at h
  ·rename_i hu;unfold pN at h;split at h
   all_goals (try contradiction)
   cases hx;simp [aas,run_underlying hu]
  ·rename_i k hu;unfold pN at h;split at h
   all_goals (try contradiction)
   cases hx;simp [aas,run_underlying hu]
  ·rename_i hu;unfold pN at h;split at h
   all_goals (try contradiction)
   cases hx;simp [aas,run_underlying hu]
  ·rename_i fs hu;split at h
   ·simp [pN] at h
   ·split at h
    ·rename_i l hl;unfold pN at h;split at h
     all_goals (try contradiction)
     rename_i Gx xs ys hk hys;cases hk;cases hys;cases hx with
     |agg hx A2=>
     have:=Ap (em:=em) (fun t a r x=>sj em n d (by omega) t a r x) hx A2 fs.toList _ r hl h;rw [aas];simp only [aax,run_underlying hu,aav];rw [← Array.forIn_toList];simp only [aax,aaP] at this ⊢;exact this
    ·simp [pN] at h
  ·rename_i m e hu;split at h
   ·rename_i i ud g1 g2;unfold pN at h;split at h
    all_goals (try contradiction)
    rename_i Gx xs ys hk hys;cases hk;cases hys;cases hx with
    |agg hx A2=>
    have:=xG (em:=em) g1 g2 (fun a r x=>sj em n d (by omega) e a r x) hx A2 m 0 r h;rw [aas];simp only [aax,run_underlying hu,aav];simp only [Std.Legacy.Range.forIn_eq_forIn_range',Std.Legacy.Range.size,acH,Nat.add_one_sub_one,Nat.div_one];simp only [aax,aaP] at this ⊢;exact this
   ·simp [pN] at h
  ·simp [pN] at h
theorem pW {e:EK} {d:TypeDesc} (hd:(e=.bool∧d=.bool)∨(e=.int∧∃ k,d=.int k)∨(e=.str∧d=.string)) {k k':AV} {r:Bool} {x y:Value} (h:pN e k k'=some r) (hx:Rel R w k x) (hy:Rel R w k' y):acC d x y=some r∧(r=true→x=y):=by
 rcases hd with ⟨rfl,rfl⟩|⟨rfl,n,rfl⟩|⟨rfl,rfl⟩
 ·unfold pN at h;split at h
  all_goals (try contradiction)
  cases hx; cases hy; cases h;exact ⟨rfl,fun e=>by rw [eq_of_beq e]⟩
 ·unfold pN at h;split at h
  all_goals (try contradiction)
  split at h
  ·rename_i hk;subst hk;cases hx; cases hy; cases h;exact ⟨by simp [acC],fun e=>by rw [eq_of_beq e]⟩
  ·cases h
 ·unfold pN at h;split at h
  all_goals (try contradiction)
  cases hx; cases hy; cases h;refine ⟨?_,fun e=>by rw [eq_of_beq e]⟩;simp only [acC];rw [beq_toListBytes,acT,acT]
theorem Cx {e:EK} {d:TypeDesc} (hd:(e=.bool∧d=.bool)∨(e=.int∧∃ k,d=.int k)∨(e=.str∧d=.string)) {k:AV} {x:Value} (hx:Rel R w k x):∀ {es:List (AV × AV)} {aI:List MapEntry} {r:Option AV},fc R w es aI→lB e k es=some r →
  ∀ i,match r with
   |none=>aay d x aI i=some none
   |some v=>∃ j c,aay d x aI i=some (some (j,c))∧Rel R w v c
 |[],[],r,_,h,i=>by simp [lB] at h; subst h; rfl
 |[],_ :: _,_,h,_,_=>h.elim
 |_ :: _,[],_,h,_,_=>h.elim
 |(k',v) :: es,en :: aI,r,h,hf,i=>by
  unfold lB at hf;split at hf
  ·rename_i he;cases hf;have h1:=(pW hd (nT he) hx h.1).1;exact ⟨i,en.val,by simp [aay,h1],h.2.1⟩
  ·rename_i he;have h1:=(pW hd (nT he) hx h.1).1;have:=Cx hd hx h.2.2 hf (i+1);split at this
   ·simp only [aay,h1]; exact this
   ·obtain ⟨j,c,q1,q2⟩:=this;exact ⟨j,c,by simp only [aay,h1]; exact q1,q2⟩
  ·cases hf
theorem MV {e:EK} {d:TypeDesc} (hd:(e=.bool∧d=.bool)∨(e=.int∧∃ k,d=.int k)∨(e=.str∧d=.string)) {k v:AV} {x c:Value} (hx:Rel R w k x) (hv:Rel R w v c):∀ {es es':List (AV × AV)} {aI:List MapEntry},fc R w es aI→zh e k v es=some es' →
  ∀ i,(aay d x aI i=some none∧kI e k es=aI.length∧∀ b,fc R w es' (aI++[{ key:=x,val:=c,born:=b }])) ∨
   ∃ j c',aay d x aI i=some (some (i+j,c'))∧(j=kI e k es∧∃ en,aI[j]?=some en∧en.key=x∧en.val=c')∧fc R w es' (aI.modify j fun e=>{ e with key:=x,val:=c })
 |[],es',[],_,h,i=>by simp [zh] at h; subst h; exact .inl ⟨rfl,rfl,fun b=>⟨hx,hv,trivial⟩⟩
 |[],_,_ :: _,h,_,_=>h.elim
 |_ :: _,_,[],h,_,_=>h.elim
 |(k',v') :: es,es',en :: aI,h,hf,i=>by
  unfold zh at hf;split at hf
  ·rename_i he;cases hf;obtain ⟨h1,h2⟩:=pW hd (nT he) hx h.1;have hm:Bz e k k'=true:=by unfold Bz; rw [he]
   exact .inr ⟨0,en.val,by simp [aay,h1],⟨by simp [kI,hm],en,rfl,(h2 rfl).symm,rfl⟩,by simp only [acg]; exact ⟨hx,hv,h.2.2⟩⟩
  ·rename_i he;have h1:=(pW hd (nT he) hx h.1).1;split at hf
   ·rename_i r hr;cases hf;have hm:Bz e k k'=false:=by unfold Bz; rw [he]
    rcases MV hd hx hv h.2.2 hr (i+1) with ⟨q1,q0,q2⟩|⟨j,c',q1,q2,q3⟩
    ·exact .inl ⟨by simp only [aay,h1]; exact q1,by simp [kI,hm,q0],fun b=>⟨h.1,h.2.1,q2 b⟩⟩
    ·refine .inr ⟨j+1,c',by simp only [aay,h1]; rw [q1,acR,acW 1 j],?_,?_⟩
     ·obtain ⟨e0,en',e1,e2⟩:=q2;exact ⟨by simp [kI,hm,e0],en',by simpa using e1,e2⟩
     ·rw [acv];exact ⟨h.1,h.2.1,q3⟩
   ·cases hf
  ·cases hf
theorem wC {kt:TypeId} {j:TI} (hj:E.ti kt=some j) {k:AV} {x:Value} (hx:Rel R w k x):∀ {es:List (AV × AV)} {aI:List MapEntry} {r:Option AV},fc R w es aI→lB j.ek k es=some r →
  ∀ i,match r with
   |none=>(aat kt x aI i).run E.P w=.ok none w
   |some v=>∃ n c,(aat kt x aI i).run E.P w=.ok (some (n,c)) w∧Rel R w v c
 |[],[],r,_,h,i=>by simp [lB] at h; subst h; simp [aat]
 |[],_ :: _,_,h,_,_=>h.elim
 |_ :: _,[],_,h,_,_=>h.elim
 |(k',v) :: es,en :: aI,r,h,hf,i=>by
  unfold lB at hf;split at hf
  ·rename_i he;cases hf;have h1:=(oe hj (nT he) hx h.1).1;exact ⟨i,en.val,by simp [aat,acI,ab9,h1],h.2.1⟩
  ·rename_i he;have h1:=(oe hj (nT he) hx h.1).1;have:=wC hj hx h.2.2 hf (i+1);split at this
   ·simp only [aat,acI,ab9,aax,h1,aav]; exact this
   ·obtain ⟨n,c,q1,q2⟩:=this;exact ⟨n,c,by simp only [aat,acI,ab9,aax,h1,aav]; exact q1,q2⟩
  ·cases hf
theorem vL {kt:TypeId} {j:TI} (hj:E.ti kt=some j) (hw:j.ek.wide=true) {k v:AV} {x c:Value} (hx:Rel R w k x) (hv:Rel R w v c):∀ {es es':List (AV × AV)} {aI:List MapEntry},fc R w es aI→zh j.ek k v es=some es' →
  ∀ i,((aat kt x aI i).run E.P w=.ok none w∧kI j.ek k es=aI.length∧∀ b,fc R w es' (aI++[{ key:=x,val:=c,born:=b }])) ∨
   ∃ n c',(aat kt x aI i).run E.P w=.ok (some (i+n,c')) w∧(n=kI j.ek k es∧∃ en,aI[n]?=some en∧en.key=x∧en.val=c')∧fc R w es' (aI.modify n fun e=>{ e with key:=x,val:=c })
 |[],es',[],_,h,i=>by simp [zh] at h; subst h; exact .inl ⟨by simp [aat],rfl,fun b=>⟨hx,hv,trivial⟩⟩
 |[],_,_ :: _,h,_,_=>h.elim
 |_ :: _,_,[],h,_,_=>h.elim
 |(k',v') :: es,es',en :: aI,h,hf,i=>by
  unfold zh at hf;split at hf
  ·rename_i he;cases hf;have h1:=(oe hj (nT he) hx h.1).1;have h2:=Iq (Q3 he hw) hx h.1;have hm:Bz j.ek k k'=true:=by unfold Bz; rw [he]
   exact .inr ⟨0,en.val,by simp [aat,acI,ab9,h1],⟨by simp [kI,hm],en,rfl,h2.symm,rfl⟩,by simp only [acg]; exact ⟨hx,hv,h.2.2⟩⟩
  ·rename_i he;have h1:=(oe hj (nT he) hx h.1).1;split at hf
   ·rename_i r hr;cases hf;have hm:Bz j.ek k k'=false:=by unfold Bz; rw [he]
    rcases vL hj hw hx hv h.2.2 hr (i+1) with ⟨q1,q0,q2⟩|⟨n,c',q1,q2,q3⟩
    ·exact .inl ⟨by simp only [aat,acI,ab9,aax,h1,aav]; exact q1,by simp [kI,hm,q0],fun b=>⟨h.1,h.2.1,q2 b⟩⟩
    ·refine .inr ⟨n+1,c',?_,?_,?_⟩
     ·simp only [aat,acI,ab9,aax,h1,aav];rw [show i+(n+1)=i+1+n by omega];exact q1
     ·obtain ⟨e0,en',e1,e2⟩:=q2;exact ⟨by simp [kI,hm,e0],en',by simpa using e1,e2⟩
     ·rw [acv];exact ⟨h.1,h.2.1,q3⟩
   ·cases hf
  ·cases hf
theorem nU {kt:TypeId} {d:TypeDesc} (hu:E.P.underlying kt=some d) (hd:(∃ fs,d=.struct fs)∨∃ n t,d=.array n t) (x:Value) (es:List MapEntry):(aal kt x es).run E.P w=(aat kt x es).run E.P w:=by
 cases es with
 |nil=>simp [aal,run_underlying hu,aay,aat]
 |cons e es=>rcases hd with ⟨fs,rfl⟩ | ⟨n,t,rfl⟩ <;> simp [aal,run_underlying hu,aay,acC]
theorem xH {kt:TypeId} {j:TI} (hj:E.ti kt=some j) {d:TypeDesc} (hu:E.P.underlying kt=some d) (hd:Ip j.ek d) {k:AV} {x:Value} (hx:Rel R w k x) {es:List (AV × AV)} {aI:List MapEntry} (hM:fc R w es aI) (hf:lB j.ek k es=some none) :
  (aal kt x aI).run E.P w=.ok none w:=by
 have Cy:((j.ek=.bool∧d=.bool)∨(j.ek=.int∧∃ k,d=.int k)∨(j.ek=.str∧d=.string))→(aal kt x aI).run E.P w=.ok none w:=fun hd=>by
  have:=Cx hd hx hM hf 0;simp [aal,run_underlying hu,this]
 rcases hd with hd|hd|hd|⟨_,hd⟩
 ·exact Cy (.inl hd)
 ·exact Cy (.inr (.inl hd))
 ·exact Cy (.inr (.inr hd))
 ·rw [nU hu hd];exact wC hj hx hM hf 0
theorem xI {kt:TypeId} {j:TI} (hj:E.ti kt=some j) {d:TypeDesc} (hu:E.P.underlying kt=some d) (hd:Ip j.ek d) {k:AV} {x:Value} (hx:Rel R w k x) {es:List (AV × AV)} {aI:List MapEntry} {v:AV} (hM:fc R w es aI) (hf:lB j.ek k es=some (some v)) :
  ∃ n c,(aal kt x aI).run E.P w=.ok (some (n,c)) w∧Rel R w v c:=by
 have Cy:((j.ek=.bool∧d=.bool)∨(j.ek=.int∧∃ k,d=.int k)∨(j.ek=.str∧d=.string))→∃ n c,(aal kt x aI).run E.P w=.ok (some (n,c)) w∧Rel R w v c:=fun hd=>by
  obtain ⟨n,c,q1,q2⟩:=Cx hd hx hM hf 0;exact ⟨n,c,by simp [aal,run_underlying hu,q1],q2⟩
 rcases hd with hd|hd|hd|⟨_,hd⟩
 ·exact Cy (.inl hd)
 ·exact Cy (.inr (.inl hd))
 ·exact Cy (.inr (.inr hd))
 ·rw [nU hu hd];exact wC hj hx hM hf 0
theorem wD {kt:TypeId} {j:TI} (hj:E.ti kt=some j) {d:TypeDesc} (hu:E.P.underlying kt=some d) (hd:Ip j.ek d) {k v:AV} {x c:Value} (hx:Rel R w k x) (hv:Rel R w v c) {es es':List (AV × AV)} {aI:List MapEntry} (hM:fc R w es aI) (hf:zh j.ek k v es=some es') :
  ((aal kt x aI).run E.P w=.ok none w∧kI j.ek k es=aI.length∧∀ b,fc R w es' (aI++[{ key:=x,val:=c,born:=b }])) ∨
   ∃ n c',(aal kt x aI).run E.P w=.ok (some (n,c')) w∧(n=kI j.ek k es∧∃ en,aI[n]?=some en∧en.key=x∧en.val=c')∧fc R w es' (aI.modify n fun e=>{ e with key:=x,val:=c }):=by
 have Cy:((j.ek=.bool∧d=.bool)∨(j.ek=.int∧∃ k,d=.int k)∨(j.ek=.str∧d=.string))→((aal kt x aI).run E.P w=.ok none w∧kI j.ek k es=aI.length∧∀ b,fc R w es' (aI++[{ key:=x,val:=c,born:=b }])) ∨
   ∃ n c',(aal kt x aI).run E.P w=.ok (some (n,c')) w∧(n=kI j.ek k es∧∃ en,aI[n]?=some en∧en.key=x∧en.val=c')∧fc R w es' (aI.modify n fun e=>{ e with key:=x,val:=c }):=fun hd=>by
  rcases MV hd hx hv hM hf 0 with ⟨q1,q2⟩|⟨n,c',q1,q2,q3⟩
  ·exact .inl ⟨by simp [aal,run_underlying hu,q1],q2⟩
  ·rw [aa6] at q1;exact .inr ⟨n,c',by simp [aal,run_underlying hu,q1],q2,q3⟩
 rcases hd with hd|hd|hd|⟨hw,hd⟩
 ·exact Cy (.inl hd)
 ·exact Cy (.inr (.inl hd))
 ·exact Cy (.inr (.inr hd))
 ·rcases vL hj hw hx hv hM hf 0 with ⟨q1,q2⟩|⟨n,c',q1,q2,q3⟩
  ·exact .inl ⟨by rw [nU hu hd]; exact q1,q2⟩
  ·rw [aa6] at q1;exact .inr ⟨n,c',by rw [nU hu hd]; exact q1,q2,q3⟩
theorem qz {kt:TypeId} {d:TypeDesc} (hu:E.P.underlying kt=some d) (hd:d=.bool∨(∃ k,d=.int k)∨d=.string) (b:Bool) (x:Value) (n:Nat):(aas b (n+1) kt x).run E.P w=.ok () w:=by
 rcases hd with rfl|⟨k,rfl⟩|rfl <;> simp [aas,run_underlying hu]
theorem run_checkKey {kt:TypeId} {j:TI} (hj:E.ti kt=some j) {d:TypeDesc} (hu:E.P.underlying kt=some d) (hd:Ip j.ek d) {k:AV} (hk:kR j.ek k=true) {x:Value} (hx:Rel R w k x) (b:Bool):(aas b 10000 kt x).run E.P w=.ok () w:=by
 rcases hd with ⟨_,rfl⟩|⟨_,n,rfl⟩|⟨_,rfl⟩|⟨hw,_⟩
 ·exact qz hu (.inl rfl) b x 9999
 ·exact qz hu (.inr (.inl ⟨n,rfl⟩)) b x 9999
 ·exact qz hu (.inr (.inr rfl)) b x 9999
 ·have MM:=Q2 hj;obtain ⟨fs,Xo⟩:∃ fs,j.ek=.st fs:=by
   cases he:j.ek with
   |st fs=>exact ⟨fs,rfl⟩
   |_=>rw [he] at hw; cases hw
  rw [Xo] at hk;unfold kR at hk;split at hk
  all_goals (try contradiction)
  rename_i Gx cs h1;cases h1;rw [aae] at hk;obtain ⟨r,hr⟩:=abd.1 hk.2;have he:pN (vA E.P 6 kt) (.agg cs) (.agg cs)=some r:=by
   rw [Xo] at MM;have:vA E.P 6 kt=.st fs:=by
    unfold Ae at MM;split at MM
    ·rename_i l hl;split at MM
     ·cases MM
     ·rw [hl,MM]
    ·rename_i k kT;exact absurd MM.symm (kT fs)
   rw [this];unfold pN;exact hr
  exact sj b 6 10000 (by omega) kt (.agg cs) r x he hx
theorem OR (h:bk E R w β s a) {m:SV} {es:List (AV × AV)} {x:Value} (hm:mapOf s m=some es) (hx:tD R w β m x) :
  ∃ aI,fc R w es aI∧((x=.map none∧aI=[])∨∃ b es' clock,x=.map (some b)∧w.heap[b]?=some (.map es' clock)∧es'.toList=aI):=by
 unfold mapOf at hm;split at hm
 ·cases hm;have vH:Rel R w .nL x:=hx;cases vH;exact ⟨[],trivial,.inl ⟨rfl,rfl⟩⟩
 ·rename_i id;have vH:Rel R w (.map id) x:=hx;cases vH with
  |map hb=>
  split at hm
  ·rename_i es' hg;cases hm;obtain ⟨aI,clock,q1,q2,_⟩:=h.g.obj id _ _ hg hb;exact ⟨aI.toList,q2,.inr ⟨_,aI,clock,rfl,q1,rfl⟩⟩
  ·cases hm
 ·cases hm
theorem Ir {t:TypeId} {z:AV} {i:TypeInfo} (h1:E.P.info? t=some i) (h2:ju i=some z):∃ c,(zeroValue t).run E.P w=.ok c w∧Rel R w z c:=by
 obtain ⟨c,hc,hr⟩:=eP h2;exact ⟨c,by simp [zeroValue,typeInfo,run_program,h1,hc],hr R w⟩
theorem sq (h:bk E R w β s a) (t:TypeId) (x y:Operand) (ok:Bool) (ho:o.op=.lookup t x y ok) {v:AV} {b:Bool} (hv:my E s t (bJ E s.af x) (bJ E s.af y)=some (v,b)) :
  cn E R w β s a o (s.put o.dst (.v (if ok then .bG [v,.bool b] else v))):=by
 have rx:=aY h x;have ry:=aY h y;unfold my at hv;split at hv
 ·rename_i i es k hi hm hk;rw [hk] at ry;have tp:Rel R w k (a.eval y):=ry;obtain ⟨aI,hM,iX⟩:=OR h hm rx;obtain ⟨jR,u,e1,e2,e3,e4,e5,e6⟩:=dC E hi;split at hv
  ·rename_i kt et z OS;split at hv
   ·rename_i j hj;split at hv
    ·rename_i hc;rw [aae] at hc;rw [OS] at e5;obtain ⟨rfl,ie,g1,g2⟩:=qS e5;have MM:=Q2 hj;have hpl:=hc.1;rw [MM] at hpl;obtain ⟨d,hu,hd⟩:∃ d,E.P.underlying kt=some d∧Ip j.ek d:=by
      rw [MM];exact Ao hpl
     have T7:∀ b,(aas b 10000 kt (a.eval y)).run E.P w=.ok () w:=fun b=>run_checkKey hj hu hd hc.2 tp b
     have fin:∀ r,lB j.ek k es=some r→r.getD z=v→r.isSome=b→cn E R w β s a o (s.put o.dst (.v (if ok then .bG [v,.bool b] else v))):=fun r hr q1 q2=>by
      subst q1 q2;have rel:∀ c,Rel R w (r.getD z) c→Rel R w (if ok then .bG [r.getD z,.bool r.isSome] else r.getD z) (if ok then .tuple #[c,.bool r.isSome] else c):=fun c k2=>by
       cases ok
       ·exact k2
       ·exact Rel.bG (vs:=[c,.bool r.isSome]) (.cons k2 (.cons (.bool _) .nil))
      cases r with
      |none=>
       obtain ⟨c,k1,k2⟩:=Ir (R:=R) (w:=w) g1 g2;have Kk:(aal kt (a.eval y) aI).run E.P w=.ok none w:=xH hj hu hd tp hM hr;refine ax h (c:=if ok then .tuple #[c,.bool false] else c) ?_ (rel c k2);rcases iX with ⟨hx,rfl⟩|⟨b,es',clock,hx,hb,rfl⟩
       ·simp [execOp,ho,acJ,hx,run_underlying e2,T7,Kk,k1]
       ·simp [execOp,ho,acJ,hx,run_underlying e2,getObj,aa0,hb,T7,Kk,k1]
      |some v=>
       obtain ⟨j',c,q1,q2⟩:=xI hj hu hd tp hM hr;have Kk:(aal kt (a.eval y) aI).run E.P w=.ok (some (j',c)) w:=q1;refine ax h (c:=if ok then .tuple #[c,.bool true] else c) ?_ (rel c q2);rcases iX with ⟨hx,rfl⟩|⟨b,es',clock,hx,hb,rfl⟩
       ·simp [execOp,ho,acJ,hx,run_underlying e2,T7,Kk]
       ·simp [execOp,ho,acJ,hx,run_underlying e2,getObj,aa0,hb,T7,Kk]
     split at hv
     ·rename_i v' hr; cases hv; exact fin _ hr rfl rfl
     ·rename_i hr; cases hv; exact fin _ hr rfl rfl
     ·cases hv
    ·cases hv
   ·cases hv
  ·cases hv
 ·cases hv
theorem Fo {R':aj} {w':World} (h:bk E R w β s a) (t:TypeId) (z:AV) (e:Ext R w R' w') {c:Value} (hc:Rel R' w' z c):Rel R' w' (H5 E s.G t z) c:=by
 unfold H5;split
 ·rename_i e1 sz p cL mm;split
  ·rename_i pI Q4;obtain ⟨fs,A6,_⟩:=sb Q4;rw [acH] at A6;have cI:=bA A6;rw [← h.g.len] at cI;obtain ⟨ro,bD⟩:∃ ro,nth R.obj pI=some ro:=⟨R.obj[pI],by rw [bg]; exact aau cI⟩;have cY:=h.g.obj pI _ _ A6 bD;have hn:zk ro:=by
    cases ro with
    |none=>exact cY.elim
    |bL=>exact cY.elim
    |cu _=>exact cY.elim
    |tok _ _ _=>exact cY.elim
    |bt ts=>trivial
   obtain ⟨qM,q1,q2⟩:=e.obj pI _ bD;cases hc with
   |lF=>exact .pP q1 (hn.mono q2)
   |list _ _ _ hk=>exact hk.elim
  ·exact hc
 ·exact hc
theorem Is (h:bk E R w β s a) (t:TypeId) (x y:Operand) (ok:Bool) (ho:o.op=.lookup t x y ok) {v:AV} {b:Bool} (hv:pT E s t (bJ E s.af x) (bJ E s.af y)=some (v,b)) :
  cn E R w β s a o (s.put o.dst (.v (if ok then .bG [v,.bool b] else v))):=by
 unfold pT at hv;split at hv
 ·rename_i v0 h0;cases hv;refine cn.MT (sq h t x y ok ho h0) (fun R' w' ex c hc=>?_);cases ok with
  |false=>exact Fo h t _ ex hc
  |true=>
   have hc:Rel R' w' (.bG [v0,.bool false]) c:=hc;cases hc with
   |bG h1=>
   cases h1 with
   |cons h1 h2=>exact Rel.bG (.cons (Fo h t _ ex h1) h2)
 ·exact sq h t x y ok ho hv
theorem MW {kt:TypeId} {j:TI} (hj:E.ti kt=some j) (hp:j.ek.plain=true):∃ d,E.P.underlying kt=some d∧Ip j.ek d:=by
 have MM:=Q2 hj;rw [MM] at hp ⊢;exact Ao hp
theorem OT (x:ByteArray):(x == x)=true:=by rw [beq_toListBytes]; simp
theorem j9 {k:AV} {x:Value} (hp:By k=true) (hx:Rel R w k x) (n:Nat):aaM n x x=true:=by
 unfold By at hp;split at hp
 ·cases hx; cases n <;> simp [aaM]
 ·cases hx; cases n <;> simp [aaM]
 ·cases hx; cases n <;> (simp only [aaM]; exact OT _)
 ·cases hp
theorem xJ (n:Nat):∀ {cs:List AV} {vs:List Value},cs.all By=true→aW R w cs vs→((vs.zip vs).all fun (x,y)=>aaM n x y)=true
 |[],_,_,.nil=>rfl
 |a :: cs,_,h,.cons h1 h2=>by
  rw [List.all_cons,aae] at h;simp only [List.zip_cons_cons,List.all_cons,j9 h.1 h1 n,xJ n h.2 h2,Bool.and_self]
theorem GN (n:Nat) {vs:Array Value} (h:((vs.toList.zip vs.toList).all fun (x,y)=>aaM n x y)=true):aaM (n+1) (.agg vs) (.agg vs)=true:=by
 simp only [aaM,beq_self_eq_true,Bool.true_and];exact h
theorem tQ {e:EK} {k:AV} {x:Value} (hp:kR e k=true) (hx:Rel R w k x):aaM 10000 x x=true:=by
 unfold kR at hp;split at hp
 ·exact j9 rfl hx _
 ·exact j9 rfl hx _
 ·exact j9 rfl hx _
 ·rw [aae] at hp;cases hx with
  |agg hx _=>
  exact GN 9999 (xJ 9999 hp.1 hx)
 ·cases hp
theorem ni.push {aI:Array MapEntry} {clock:Nat} (h:ni aI clock) (x c:Value):ni (aI.push { key:=x,val:=c,born:=clock }) (clock+1):=by
 obtain ⟨rfl,h2⟩:=h;refine ⟨by simp,fun i e he=>?_⟩;rw [acG] at he;rcases Nat.lt_or_ge i aI.toList.length with cI|Fc
 ·rw [List.getElem?_append_left cI] at he;exact h2 i e he
 ·rw [List.getElem?_append_right Fc] at he;have hl:=(List.getElem?_eq_some_iff.1 he).1;have hl:i - aI.toList.length < 1:=hl;have h0:i - aI.toList.length=0:=by omega
  rw [h0] at he;simp only [acK,ac1] at he;subst he;have hs:aI.toList.length=aI.size:=aaK;show aI.size=i;omega
theorem ni.modify {aI:Array MapEntry} {clock:Nat} (h:ni aI clock) (n:Nat) (x c:Value):ni (aI.modify n fun e=>{ e with key:=x,val:=c }) clock:=by
 obtain ⟨rfl,h2⟩:=h;refine ⟨by simp,fun i e he=>?_⟩;rw [aaT,aa3] at he;cases hi:aI.toList[i]? with
 |none=>rw [hi] at he; cases he
 |some e'=>
  rw [hi] at he;have h3:=h2 i e' hi;have he:(if n=i then { key:=x,val:=c,born:=e'.born } else e':MapEntry)=e:=acM he;by_cases hn:n=i
  ·rw [if_pos hn] at he;subst he; exact h3
  ·rw [if_neg hn] at he;subst he; exact h3
theorem tR (h:bk E R w β s a) (t:TypeId) (x y z:Operand) (ho:o.op=.mapUpdate t x y z∨o.op=.insert t x y z) (hd:o.dst=none) {s':St} (hv:ia E s t (bJ E s.af x) (bJ E s.af y) (bJ E s.af z)=some s') :
  cn E R w β s a o s':=by
 have rx:=aY h x;have ry:=aY h y;have rz:=aY h z;unfold ia at hv;split at hv
 ·rename_i i id k v hi hm hk hz;rw [hm] at rx;rw [hk] at ry;rw [hz] at rz;have fy:Rel R w (.map id) (a.eval x):=rx;have tp:Rel R w k (a.eval y):=ry;have rz':Rel R w v (a.eval z):=rz;split at hv
  ·rename_i kt et ez es OS hg;split at hv
   ·rename_i j hj;split at hv
    ·rename_i hc;rw [aae] at hc;split at hv
     ·rename_i es' KG;cases hv;obtain ⟨jR,u,e1,e2,e3,e4,e5,e6⟩:=dC E hi;rw [OS] at e5;obtain ⟨rfl,ie,g1,g2⟩:=qS e5;obtain ⟨d,hu,hD⟩:=MW hj hc.1;generalize iX:a.eval x=xv at fy;cases fy with
      | @map _ b hb=>
      obtain ⟨aI,clock,q1,q2,q3⟩:=h.g.obj id _ _ hg hb;have cI:=bE q1;have T7:(aas false 10000 kt (a.eval y)).run E.P w=.ok () w:=run_checkKey hj hu hD hc.2 tp _;have nS:(getObj b).run E.P w=.ok (.map aI clock) w:=by simp [getObj,aa0,q1]
      have wB:∀ o',(setObj b o').run E.P w=.ok () (World.put w b o'):=fun o'=>by
       simp [setObj,aa0,World.put,q1]
      have fin:∀ oH lL,fc R w es' oH.toList→ni oH lL→(execOp a.eval o).run E.P w=.ok .skip (World.put w b (.map oH lL)) →
        cn E R w β s a o (s.cj (aE s.G id (.map es'))):=fun oH lL k1 k2 k3=>by
       have hex:=si (R:=R) (x':=.map oH lL) q1 trivial trivial (fun _ e=>by cases e);obtain ⟨p1,p2⟩:=h.setObj (x':=.map oH lL) (go':=.map es') hb q1 trivial trivial (fun _ e=>by cases e) ⟨oH,lL,jT w b _ cI,k1.mono hex,k2⟩;refine ⟨.skip,undef,_,R,β,k3,.inr ⟨rfl,rfl⟩,?_,p2⟩;rw [hd];exact p1
      rcases wD hj hu hD tp rz' q2 KG with ⟨k1,_,k2⟩|⟨n,c',k1,⟨_,en,k2,k3,_⟩,k4⟩
      ·have Kk:(aal kt (a.eval y) aI.toList).run E.P w=.ok none w:=k1;refine fin (aI.push { key:=a.eval y,val:=a.eval z,born:=clock }) (clock+1) (by rw [acG]; exact k2 clock) (q3.push _ _) ?_
       ·rcases ho with ho|ho <;> simp [execOp,ho,Instr.mapUpdate,iX,run_underlying e2,nS,T7,Kk,wB]
      ·have Kk:(aal kt (a.eval y) aI.toList).run E.P w=.ok (some (n,c')) w:=k1;have hen:aI[n]?=some en:=by rw [← acN]; exact k2
       have Cp:(abQ (a.eval y) (a.eval y)).run E.P w=.ok (a.eval y) w:=by simp [abQ,tQ hc.2 tp]
       refine fin (aI.modify n fun e=>{ e with key:=a.eval y,val:=a.eval z }) clock (by rw [aaT]; exact k4) (q3.modify n _ _) ?_
       ·rcases ho with ho|ho <;> simp [execOp,ho,Instr.mapUpdate,iX,run_underlying e2,nS,T7,Kk,hen,k3,Cp,wB]
     ·cases hv
    ·cases hv
   ·cases hv
  ·cases hv
 ·cases hv
theorem K1 (h:bk E R w β s a) (t:TypeId) (x:Operand) (ho:o.op=.range t x) {i:TI} {l:List UInt8} (hi:E.ti t=some i) (hk:i.k=.str) (hx:bJ E s.af x=.v (.str l)) :
  cn E R w β s a o ((s.fq (.jF l 0)).put o.dst (.v (.ptr s.G.length 0))):=by
 have rx:=aY h x;rw [hx] at rx;have fy:Rel R w (.str l) (a.eval x):=rx;obtain ⟨jR,u,e1,e2,e3,e4,e5,e6⟩:=dC E hi;rw [hk] at e5;have hu:=tJ e5;subst hu;have jQ:jw (R.add (.cu w.heap.size)) (w.alloc (.stringIter ⟨⟨l⟩⟩ 0)) (.jF l 0) (.cu w.heap.size):=heap_alloc_new w _;refine ⟨_,.pointer (some ⟨w.heap.size,0,none⟩),w.alloc (.stringIter ⟨⟨l⟩⟩ 0),R.add (.cu w.heap.size),β,?_,.inl rfl,(h.oE (.stringIter ⟨⟨l⟩⟩ 0) (.jF l 0) (.cu w.heap.size) (by exact fun _ h=>h) jQ).put o.dst (x:=.v (.ptr s.G.length 0)) (Rel.ptr (iW h _)),by rw [bo]; exact dP h _ _ (by exact fun _ h=>h)⟩;generalize iX:a.eval x=xv at fy;cases fy;simp only [execOp,ho,iX,Instr.range,aax,run_underlying e2,run_newObj,aav,aaP];rfl
theorem K2 (l:List UInt8) (pos:Nat) (h:pos < l.length):dj l pos=Utf8.decode ⟨⟨l⟩⟩ pos:=by
 unfold dj;cases hb:Nat.blt (l.getD pos 0).toNat 128 with
 |false=>rfl
 |true=>
  have cI:(l.getD pos 0).toNat < 128:=acz hb;have e:(ac8 ⟨⟨l⟩⟩ (pos+0))=l.getD pos 0:=by
   simp [ac8,h,List.getD_eq_getElem?_getD]
  simp only [cond_true,Utf8.decode,e];rw [if_pos (show (l.getD pos 0).toNat < 0x80 from cI)]
theorem OU (h:bk E R w β s a) (x:Operand) (ho:o.op=.next x true) {s':St} (hv:pU s o.dst (bJ E s.af x)=some s'):cn E R w β s a o s':=by
 have rx:=aY h x;unfold pU at hv;split at hv
 ·rename_i id hx;rw [hx] at rx;have fy:Rel R w (.ptr id 0) (a.eval x):=rx;generalize iX:a.eval x=xv at fy;cases fy with
  | @ptr _ _ b hb=>
  split at hv
  ·rename_i l pos hg;have q1:w.heap[b]?=some (.stringIter ⟨⟨l⟩⟩ pos):=h.g.obj id _ _ hg hb;have cI:=bE q1;have nS:(getObj b).run E.P w=.ok (.stringIter ⟨⟨l⟩⟩ pos) w:=by simp [getObj,aa0,q1]
   have wB:∀ o',(setObj b o').run E.P w=.ok () (World.put w b o'):=fun o'=>by
    simp [setObj,aa0,World.put,q1]
   cases mX:Nat.blt pos l.length with
   |true=>
    rw [mX] at hv;have hp:pos < l.length:=acz mX;simp only [cond_true] at hv;generalize ON:dj l pos=p at hv;obtain ⟨c,n⟩:=p;cases hv;rw [K2 l pos hp] at ON;obtain ⟨p1,p2⟩:=h.setObj (x':=.stringIter ⟨⟨l⟩⟩ (pos+n)) (go':=.jF l (pos+n)) hb q1 trivial trivial (fun _ e=>by cases e) (jT w b _ cI);have gX:pos < (⟨⟨l⟩⟩:ByteArray).size:=hp;refine ⟨.value (.tuple #[.bool true,.int .i64 pos,.int .i32 c]),_,_,R,β,?_,.inl rfl,p1.put o.dst (x:=.v (.bG [.bool true,.int .i64 pos,.int .i32 c])) (Rel.bG (vs:=[.bool true,.int .i64 pos,.int .i32 c]) (.cons (.bool _) (.cons (.int _ _) (.cons (.int _ _) .nil)))),by rw [bo]; exact p2⟩;simp [execOp,ho,iX,Instr.next,nS,gX,ON,wB,goInt]
   |false=>
    rw [mX] at hv;simp only [cond_false] at hv;cases hv;have hp:¬ pos < l.length:=fun hh=>by
     have:Nat.blt pos l.length=true:=Nat.ble_eq_true_of_le hh;rw [mX] at this; cases this
    have gX:¬ pos < (⟨⟨l⟩⟩:ByteArray).size:=hp;refine ax h (c:=.tuple #[.bool false]) ?_ (Rel.bG (vs:=[.bool false]) (.cons (.bool _) .nil));simp [execOp,ho,iX,Instr.next,nS,gX]
  ·cases hv
 ·cases hv
theorem fc.get:∀ {es:List (AV × AV)} {aI:List MapEntry} {i:Nat} {e:MapEntry},fc R w es aI→aI[i]?=some e→Rel R w (cR es i).1 e.key∧Rel R w (cR es i).2 e.val
 |[],[],i,e,_,he=>by simp at he
 |(k,v) :: _,en :: _,0,e,h,he=>by
  simp only [acK,ac1] at he;subst he;exact ⟨h.1,h.2.1⟩
 |(_,_) :: es,_ :: aI,i+1,e,h,he=>by
  simp only [acL] at he;exact fc.get (es:=es) h.2.2 he
 |[],_ :: _,_,_,h,_=>h.elim
 |_ :: _,[],_,_,h,_=>h.elim
theorem K4 (E:Env) (t:TypeId) (e:AV × AV):xj E t e=(true,e.1,e.2)∨∃ pv pk:aL,xj E t e=(pk.fits e.1&&pv.fits e.2,pk.enc (pk.bB e.1),pv.enc (pv.bB e.2)):=by
 unfold xj;split
 ·split
  ·split
   ·rename_i pv pk _ _;exact .inr ⟨pv,pk,rfl⟩
   ·exact .inl rfl
  ·exact .inl rfl
 ·exact .inl rfl
theorem It {t:TypeId} {e:AV × AV} {x y:Value} (hf:(xj E t e).1=true) (h:Rel R w e.1 x∧Rel R w e.2 y):Rel R w (xj E t e).2.1 x∧Rel R w (xj E t e).2.2 y:=by
 rcases K4 E t e with he|⟨pv,pk,he⟩
 ·rw [he]; exact h
 ·rw [he] at hf ⊢;simp only [aae] at hf;exact ⟨(pk.eg hf.1).jM _ _ _ h.1,(pv.eg hf.2).jM _ _ _ h.2⟩
theorem Iu (h:bk E R w β s a) (t:TypeId) (x:Operand) (ho:o.op=.range t x) {i:TI} {kt et:TypeId} {ez:Option AV} {id:Nat} {es:List (AV × AV)} (hi:E.ti t=some i) (hk:i.k=.map kt et ez) (hx:bJ E s.af x=.v (.map id)) (hg:nth s.G id=some (.map es)) :
  cn E R w β s a o ((s.fq (.kP id es.length (List.range es.length) none t)).put o.dst (.v (.ptr s.G.length 0))):=by
 have rx:=aY h x;rw [hx] at rx;have fy:Rel R w (.map id) (a.eval x):=rx;obtain ⟨jR,u,e1,e2,e3,e4,e5,e6⟩:=dC E hi;rw [hk] at e5;obtain ⟨rfl,ie,g1,g2⟩:=qS e5;generalize iX:a.eval x=xv at fy;cases fy with
 | @map _ b hb=>
 obtain ⟨aI,clock,q1,q2,q3,q4⟩:=h.g.obj id _ _ hg hb;have hlen:=q2.length;have cI:=bE q1;subst q3;have jQ:jw (R.add (.cu w.heap.size)) (w.alloc (.mapIter (some b) aI.size #[] aI.size)) (.kP id es.length (List.range es.length) none t) (.cu w.heap.size):=by
  refine ⟨b,#[],aI.size,bM hb,?_,fun j hj=>?_,fun j hj=>List.mem_range.1 hj,List.nodup_range,?_,fun i hi=>by cases hi⟩
  ·rw [hlen,aaK]; exact heap_alloc_new w _
  ·simp [List.mem_range,hj]
  ·rw [hlen,aaK]; exact Nat.le_refl _
 refine ⟨_,.pointer (some ⟨w.heap.size,0,none⟩),w.alloc (.mapIter (some b) aI.size #[] aI.size),R.add (.cu w.heap.size),β,?_,.inl rfl,(h.oE _ _ (.cu w.heap.size) (by exact fun _ h=>h) jQ).put o.dst (x:=.v (.ptr s.G.length 0)) (Rel.ptr (iW h _)),by rw [bo]; exact dP h _ _ (by exact fun _ h=>h)⟩;have nS:(getObj b).run E.P w=.ok (.map aI aI.size) w:=by simp [getObj,aa0,q1]
 simp only [execOp,ho,iX,Instr.range,aax,run_underlying e2,nS,run_newObj,aav,aaP];rfl
theorem mem_erase_iff {l:List Nat} (hn:l.Nodup) (i j:Nat):j∈l.erase i↔j≠i∧j∈l:=hn.mem_erase_iff
theorem bk.drew (h:bk E R w β s a):bk E R w.drew β s a∧Step R w β s.boxes R w.drew β s.boxes:=by
 have e:Ext R w R w.drew:=⟨fun _ _ h=>h,fun _ _ _=>rfl,fun _ ro h=>⟨ro,h,di.refl ro⟩,gF.refl w⟩;exact ⟨h.bh e rfl (fun _ _=>rfl) (fun _ _ _ hi=>hi) h.g.wf (fun hd=>Nat.le_succ_of_le hd),⟨e,rfl,rfl,rfl,Nat.le_refl _,fun _ _ _=>rfl,fun _ _ ho=>ho,fun _ _ hi _ _=>hi⟩⟩
theorem K5 (h:bk E R w β s a) (x:Operand) (ho:o.op=.next x false) {s0:St} {left:List Nat} {g:Nat→Bool × St} (hv:Fa E s o.dst (bJ E s.af x)=some (true,s0,left,g)) :
  (left=[]∧cn E R w β s a o s0)∨∃ i∈left,(g i).1=true→cn E R w β s a o (g i).2:=by
 have rx:=aY h x;unfold Fa at hv;split at hv
 ·rename_i id hx;rw [hx] at rx;have fy:Rel R w (.ptr id 0) (a.eval x):=rx;generalize iX:a.eval x=xv at fy;cases fy with
  | @ptr _ _ r hr=>
  split at hv
  ·rename_i wj n Fp adG tt hg;split at hv
   ·rename_i es hm;injection hv with hv; injection hv with h1 hv; injection hv with h2 hv; injection hv with h3 h4;subst h2; subst h3; subst h4;have hn:=of_decide_eq_true h1;obtain ⟨b,seen,c0,m1,m2,m3,m4,m5,m6,_⟩:=h.g.obj id _ _ hg hr;obtain ⟨aI,clock,q1,q2,q3,q4⟩:=h.g.obj wj _ _ hm m1;subst q3;have hlen:=q2.length;have GP:aI.toList.length=aI.size:=aaK;have gX:aI.size=n:=by omega
    have hold:∀ y∈aI.toList,y.born < n:=fun y hy=>by
     obtain ⟨i,hi,hiy⟩:=acU hy;have:=q4 i y (by rw [aau hi,hiy]);omega
    rcases run_next_at (P:=E.P) w o.type r b n c0 seen aI aI.size m2 q1 hold m6 with ⟨k1,k2⟩|⟨en,k1,w1,k2,k3⟩
    ·refine .inl ⟨?_,?_⟩
     ·apply List.eq_nil_iff_forall_not_mem.2;intro i hi;have KS:=m4 i hi;have hs:=(m3 i KS).1 hi;have Q5:i < aI.toList.length:=by omega
      have nS:aI.toList[i]?=some aI.toList[i]:=aau Q5;have hb:=q4 i _ nS;have gK:aI.toList[i]∈(leftOf aI seen).toList:=by
       unfold leftOf;rw [acV,List.mem_filter];exact ⟨List.getElem_mem _,by rw [hb,hs]; rfl⟩
      have h0:(leftOf aI seen).toList=[]:=List.eq_nil_of_length_eq_zero (by rw [aaK]; exact k1);rw [h0] at gK;simp at gK
     ·refine ax h (c:=.tuple #[.bool false]) ?_ (Rel.bG (vs:=[.bool false]) (.cons (.bool _) .nil));simp [execOp,ho,iX,k2]
    ·have gK:en∈aI.toList∧seen.contains en.born=false:=by
      unfold leftOf at k1;rw [acV,List.mem_filter] at k1;exact ⟨k1.1,by simpa using k1.2⟩
     obtain ⟨i,hi,hie⟩:=acU gK.1;have nS:aI.toList[i]?=some en:=by rw [aau hi,hie]
     have hb:=q4 i en nS;have KS:i < n:=by omega
     have Q5:i∈Fp:=(m3 i KS).2 (by rw [← hb]; exact gK.2);refine .inr ⟨i,Q5,fun tn=>?_⟩
     -- the world, perhaps one draw on
     have hw1:bk E R w1 β s a∧Step R w β s.boxes R w1 β s.boxes:=by
      rcases k2 with rfl|rfl
      ·exact ⟨h,Step.refl _ _ _ _⟩
      ·exact h.drew
     obtain ⟨cY,ks⟩:=hw1;have Kl:w1.heap[r]?=some (.mapIter (some b) n seen c0):=by rcases k2 with rfl | rfl <;> exact m2
     have cI:=bE Kl;have adR:(setBlock w1 r (.mapIter (some b) n (seen.push en.born) aI.size))=World.put w1 r (.mapIter (some b) n (seen.push en.born) aI.size):=rfl;have hex:=si (R:=R) (x':=.mapIter (some b) n (seen.push en.born) aI.size) Kl trivial trivial (fun _ e=>by cases e);obtain ⟨p1,p2⟩:=cY.setObj (x':=.mapIter (some b) n (seen.push en.born) aI.size) (go':=.kP wj n (Fp.erase i) (some i) tt) hr Kl trivial trivial (fun _ e=>by cases e)
      ⟨b,seen.push en.born,aI.size,m1,jT w1 r _ cI,fun j hj=>by
       rw [mem_erase_iff m5,Array.contains_push,m3 j hj,hb];by_cases e:j=i
       ·subst e; simp
       ·have e':¬ i=j:=fun h=>e h.symm
        simp [e,e'],fun j hj=>m4 j (List.mem_of_mem_erase hj),m5.erase i,by omega,fun j hj=>by
       cases hj;exact ⟨by rw [hb]; simp,gX⟩⟩
     obtain ⟨z1,z2⟩:=It tn (q2.get nS);have adS:=ks.ext.trans p2.ext;refine ⟨.value (.tuple #[.bool true,en.key,en.val]),_,_,R,β,?_,.inl rfl,p1.put o.dst (x:=.v (.bG [.bool true,(xj E tt (cR es i)).2.1,(xj E tt (cR es i)).2.2])) (Rel.bG (vs:=[.bool true,en.key,en.val]) (.cons (.bool _) (.cons (z1.mono adS) (.cons (z2.mono adS) .nil)))),by rw [bo]; exact ks.trans p2⟩;simp [execOp,ho,iX,k3,adR]
   ·cases hv
  ·cases hv
 ·cases hv
theorem Cz:∀ (l:List MapEntry) (off i:Nat),(∀ (k:Nat) (e:MapEntry),l[k]?=some e→e.born=off+k)→i < l.length→l.find? (fun e=>e.born == off+i)=l[i]?
 |[],_,_,_,h=>by simp at h
 |e :: l,off,0,hs,_=>by
  have:=hs 0 e rfl;simp [this]
 |e :: l,off,i+1,hs,h=>by
  have h0:=hs 0 e rfl;have du:(e.born == off+(i+1))=false:=by simp; omega
  rw [List.find?_cons_of_neg (by simp [du]),acL];have:=Cz l (off+1) i (fun k e' hk=>by have:=hs (k+1) e' (by simpa using hk); omega) (by simpa using h);rw [show off+(i+1)=off+1+i by omega];exact this
theorem vM:∀ (l:List MapEntry) (off i:Nat),(∀ (k:Nat) (e:MapEntry),l[k]?=some e→e.born=off+k)→i < l.length→l.findIdx? (fun e=>(e.born:Int) == ((off+i:Nat):Int))=some i
 |[],_,_,_,h=>by simp at h
 |e :: l,off,0,hs,_=>by
  have:=hs 0 e rfl;simp [List.findIdx?_cons,this]
 |e :: l,off,i+1,hs,h=>by
  have h0:=hs 0 e rfl;have du:((e.born:Int) == ((off+(i+1):Nat):Int))=false:=by simp; omega
  have:=vM l (off+1) i (fun k e' hk=>by have:=hs (k+1) e' (by simpa using hk); omega) (by simpa using h);rw [show off+1+i=off+(i+1) by omega] at this;rw [List.findIdx?_cons,du,this];rfl
theorem ni.bh {aI:Array MapEntry} {clock:Nat} (h:ni aI clock) (n:Nat) {f:MapEntry→MapEntry} (hf:∀ e,(f e).born=e.born):ni (aI.modify n f) clock:=by
 obtain ⟨rfl,h2⟩:=h;refine ⟨by simp,fun i e he=>?_⟩;rw [aaT,aa3] at he;cases hi:aI.toList[i]? with
 |none=>rw [hi] at he; cases he
 |some e'=>
  rw [hi] at he;have h3:=h2 i e' hi;have he:(if n=i then f e' else e')=e:=acM he;by_cases hn:n=i
  ·rw [if_pos hn] at he;subst he; rw [hf]; exact h3
  ·rw [if_neg hn] at he;subst he; exact h3
theorem fc.ng {v:AV} {c:Value} (hv:Rel R w v c):∀ {es:List (AV × AV)} {aI:List MapEntry} (n:Nat),fc R w es aI→fc R w (ng es n v) (aI.modify n fun e=>{ e with val:=c })
 |[],[],n,_=>by cases n <;> trivial
 |[],_ :: _,_,h=>h.elim
 |_ :: _,[],_,h=>h.elim
 |(_,_) :: _,_ :: _,0,h=>by
  rw [acg];exact ⟨h.1,hv,h.2.2⟩
 |(_,_) :: _,_ :: _,n+1,h=>by
  rw [acv];exact ⟨h.1,h.2.1,fc.ng hv n h.2.2⟩
theorem Xp {e:EK} {k k':AV} (h:(Kg e k k').isSome=true):Kg e k k'=some (Bz e k k'):=by
 obtain ⟨b,hb⟩:=abd.1 h;simp only [Bz,hb]
theorem Iv {e:EK} {k:AV}:∀ {es:List (AV × AV)},cX e k es=true→lB e k es=some (gu e k es)
 |[],_=>rfl
 |(k',v) :: es,h=>by
  simp only [cX,aae] at h;simp only [lB,gu,Xp h.1];cases hb:Bz e k k' with
  |true=>rfl
  |false=>simp only [cond_false]; exact Iv h.2
theorem MX {e:EK} {k v:AV}:∀ {es:List (AV × AV)},cX e k es=true→zh e k v es=some (dq e k v es)
 |[],_=>rfl
 |(k',v') :: es,h=>by
  simp only [cX,aae] at h;simp only [zh,dq,Xp h.1];cases hb:Bz e k k' with
  |true=>rfl
  |false=>simp only [cond_false,MX h.2]
theorem K6 (h:bk E R w β s a) (x:Operand) (ho:o.op=.entry x) {v:AV} (hv:zj E s (bJ E s.af x)=some (true,v)):cn E R w β s a o (s.put o.dst (.v v)):=by
 have rx:=aY h x;unfold zj at hv;split at hv
 ·rename_i id hx;rw [hx] at rx;have fy:Rel R w (.ptr id 0) (a.eval x):=rx;generalize iX:a.eval x=xv at fy;cases fy with
  | @ptr _ _ r hr=>
  split at hv
  ·rename_i wj n Fp i tt hg;split at hv
   ·rename_i es hm;injection hv with hv; injection hv with h1 h2;subst h2;rw [aae,aae,decide_eq_true_eq,decide_eq_true_eq] at h1;obtain ⟨⟨hn,hi⟩,tn⟩:=h1;obtain ⟨b,seen,c0,m1,m2,m3,m4,m5,m6,m7⟩:=h.g.obj id _ _ hg hr;obtain ⟨z1,z2⟩:=m7 i rfl;obtain ⟨aI,clock,q1,q2,q3,q4⟩:=h.g.obj wj _ _ hm m1;subst q3;have hlen:=q2.length;have GP:aI.toList.length=aI.size:=aaK;have Q5:i < aI.toList.length:=by omega
    have hfd:aI.find? (fun e=>e.born == i)=some aI.toList[i]:=by
     have:=Cz aI.toList 0 i (fun k e hk=>by rw [aa6]; exact q4 k e hk) Q5;rw [aa6,aau Q5] at this;rw [← this]; simp
    have nS:aI.toList[i]?=some aI.toList[i]:=aau Q5;obtain ⟨y1,y2⟩:=It tn (q2.get nS);have hc:aI.size=c0:=by omega
    refine ax h (c:=.tuple #[(aI.toList[i]).key,(aI.toList[i]).val]) ?_ (Rel.bG (vs:=[(aI.toList[i]).key,(aI.toList[i]).val]) (.cons y1 (.cons y2 .nil)));simp [execOp,ho,iX,Instr.entry,getObj,aa0,m2,z1,q1,hc,hfd]
   ·cases hv
  ·cases hv
 ·cases hv
theorem EH (h:bk E R w β s a) (t:TypeId) (x y:Operand) (ho:o.op=.mapEntry t x y) {v:AV} {s':St} (hv:jv E s t (bJ E s.af x) (bJ E s.af y)=some (true,v,s')) :
  cn E R w β s a o (s'.put o.dst (.v v)):=by
 have rx:=aY h x;have ry:=aY h y;unfold jv at hv;split at hv
 ·rename_i i id k hi hm hk;rw [hm] at rx;rw [hk] at ry;have fy:Rel R w (.map id) (a.eval x):=rx;have tp:Rel R w k (a.eval y):=ry;split at hv
  ·rename_i kt et z es OS hg;split at hv
   ·rename_i j hj;split at hv
    ·rename_i hc;rw [aae] at hc;injection hv with hv; injection hv with hmk hv; injection hv with h2 h3;subst h2; subst h3;obtain ⟨jR,u,e1,e2,e3,e4,e5,e6⟩:=dC E hi;rw [OS] at e5;obtain ⟨rfl,ie,g1,g2⟩:=qS e5;obtain ⟨d,hu,hD⟩:=MW hj hc.1;generalize iX:a.eval x=xv at fy;cases fy with
     | @map _ b hb=>
     obtain ⟨aI,clock,q1,q2,q3⟩:=h.g.obj id _ _ hg hb;have cI:=bE q1;have T7:(aas false 10000 kt (a.eval y)).run E.P w=.ok () w:=run_checkKey hj hu hD hc.2 tp _;have nS:(getObj b).run E.P w=.ok (.map aI clock) w:=by simp [getObj,aa0,q1]
     have wB:∀ o',(setObj b o').run E.P w=.ok () (World.put w b o'):=fun o'=>by
      simp [setObj,aa0,World.put,q1]
     have fin:∀ es' oH lL c (n:Nat),fc R w es' oH.toList→ni oH lL→(execOp a.eval o).run E.P w=.ok (.value (.tuple #[c,.int .i64 n])) (World.put w b (.map oH lL))→Rel R w (bK j.ek k z es) c→n=kI j.ek k es→es'=dq j.ek k (bK j.ek k z es) es →
       cn E R w β s a o ((s.cj (aE s.G id (.map (dq j.ek k (bK j.ek k z es) es)))).put o.dst (.v (.bG [bK j.ek k z es,.int .i64 (kI j.ek k es:Nat)]))):=fun es' oH lL c n k1 k2 k3 k4 k5 k6=>by
      subst k5; subst k6;have hex:=si (R:=R) (x':=.map oH lL) q1 trivial trivial (fun _ e=>by cases e);obtain ⟨p1,p2⟩:=h.setObj (x':=.map oH lL) (go':=.map (dq j.ek k (bK j.ek k z es) es)) hb q1 trivial trivial (fun _ e=>by cases e) ⟨oH,lL,jT w b _ cI,k1.mono hex,k2⟩;exact ⟨.value (.tuple #[c,.int .i64 (kI j.ek k es:Nat)]),_,_,R,β,k3,.inl rfl,p1.put o.dst (x:=.v (.bG [bK j.ek k z es,.int .i64 (kI j.ek k es:Nat)])) (Rel.bG (vs:=[c,.int .i64 (kI j.ek k es:Nat)]) (.cons (k4.mono p2.ext) (.cons (.int _ _) .nil))),by rw [bo]; exact p2⟩
     have hmf:=Iv hmk;have KG:=MX (v:=bK j.ek k z es) hmk;cases TY:gu j.ek k es with
     |none=>
      rw [TY] at hmf;have hgz:bK j.ek k z es=z:=by unfold bK; rw [TY]; rfl
      obtain ⟨c,k1,k2⟩:=Ir (R:=R) (w:=w) g1 g2;have Kk:(aal kt (a.eval y) aI.toList).run E.P w=.ok none w:=xH hj hu hD tp q2 hmf;rcases wD hj hu hD tp (show Rel R w (bK j.ek k z es) c by rw [hgz]; exact k2) q2 KG with ⟨_,k3,k4⟩|⟨n,c',k3,_⟩
      ·have gX:aI.toList.length=aI.size:=aaK;have mn:clock=aI.size:=q3.1;refine fin _ (aI.push { key:=a.eval y,val:=c,born:=clock }) (clock+1) c clock (by rw [acG]; exact k4 clock) (q3.push _ _) ?_ (by rw [hgz]; exact k2) (by rw [k3]; omega) rfl;simp [execOp,ho,Instr.mapEntry,iX,run_underlying e2,nS,T7,Kk,wB,k1,goInt]
      ·rw [Kk] at k3;cases k3
     |some v0=>
      rw [TY] at hmf;have hgz:bK j.ek k z es=v0:=by unfold bK; rw [TY]; rfl
      obtain ⟨n0,c0,k1,k2⟩:=xI hj hu hD tp q2 hmf;have Kk:(aal kt (a.eval y) aI.toList).run E.P w=.ok (some (n0,c0)) w:=k1;rcases wD hj hu hD tp (show Rel R w (bK j.ek k z es) c0 by rw [hgz]; exact k2) q2 KG with ⟨k3,_⟩|⟨n,c',k3,⟨k4,en,k5,k6,k7⟩,k8⟩
      ·rw [Kk] at k3;cases k3
      ·rw [Kk] at k3;cases k3;have hen:aI[n0]?=some en:=by rw [← acN]; exact k5
       have Cp:(abQ (a.eval y) (a.eval y)).run E.P w=.ok (a.eval y) w:=by simp [abQ,tQ hc.2 tp]
       have adU:en.born=n0:=q3.2 n0 en k5;have ahv:(aI.modify n0 fun e=>{ e with key:=a.eval y }).toList=aI.toList.modify n0 fun e=>{ e with key:=a.eval y,val:=c0 }:=by
        rw [aaT];apply List.ext_getElem?;intro m;rw [aa3,aa3];by_cases YN:n0=m
        ·subst YN;rw [k5];simp [k7]
        ·simp [YN]
       refine fin _ (aI.modify n0 fun e=>{ e with key:=a.eval y }) clock c0 n0 (by rw [ahv]; exact k8) (q3.bh n0 fun _=>rfl) ?_ (by rw [hgz]; exact k2) k4 rfl;simp [execOp,ho,Instr.mapEntry,iX,run_underlying e2,nS,T7,Kk,wB,hen,k6,Cp,adU,goInt]
    ·cases hv
   ·cases hv
  ·cases hv
 ·cases hv
theorem Be (h:bk E R w β s a) (t:TypeId) (x y z:Operand) (ho:o.op=.entryStore t x y z) (hd:o.dst=none) {s':St} (hv:fV s (bJ E s.af x) (bJ E s.af y) (bJ E s.af z)=some (true,s')) :
  cn E R w β s a o s':=by
 have rx:=aY h x;have ry:=aY h y;have rz:=aY h z;unfold fV at hv;split at hv
 ·rename_i id n v hm hk hz;rw [hm] at rx;rw [hk] at ry;rw [hz] at rz;have fy:Rel R w (.map id) (a.eval x):=rx;have tp:Rel R w (.int .i64 n) (a.eval y):=ry;have rz':Rel R w v (a.eval z):=rz;split at hv
  ·rename_i es hg;injection hv with hv; injection hv with hc h2;subst h2;rw [aae,decide_eq_true_eq,decide_eq_true_eq] at hc;obtain ⟨m,rfl⟩:∃ m:Nat,n=m:=⟨n.toNat,by omega⟩;have hml:m < es.length:=by simpa using hc.2
   generalize iX:a.eval x=xv at fy;generalize hyv:a.eval y=yv at tp;cases tp;cases fy with
   | @map _ b hb=>
   obtain ⟨aI,clock,q1,q2,q3⟩:=h.g.obj id _ _ hg hb;have cI:=bE q1;have hlen:=q2.length;have nS:(getObj b).run E.P w=.ok (.map aI clock) w:=by simp [getObj,aa0,q1]
   have wB:∀ o',(setObj b o').run E.P w=.ok () (World.put w b o'):=fun o'=>by
    simp [setObj,aa0,World.put,q1]
   have hfi:aI.findIdx? (fun e=>(e.born:Int) == (m:Int))=some m:=by
    have:=vM aI.toList 0 m (fun k e hk=>by rw [aa6]; exact q3.2 k e hk) (by omega);rw [aa6] at this;rw [← this];obtain ⟨l⟩:=aI;exact List.findIdx?_toArray ..
   have k1:fc R w (ng es m v) (aI.modify m fun e=>{ e with val:=a.eval z }).toList:=by rw [aaT]; exact fc.ng rz' m q2
   have hex:=si (R:=R) (x':=.map (aI.modify m fun e=>{ e with val:=a.eval z }) clock) q1 trivial trivial (fun _ e=>by cases e);obtain ⟨p1,p2⟩:=h.setObj (x':=.map (aI.modify m fun e=>{ e with val:=a.eval z }) clock) (go':=.map (ng es m v)) hb q1 trivial trivial (fun _ e=>by cases e) ⟨_,clock,jT w b _ cI,k1.mono hex,q3.bh m fun _=>rfl⟩;refine ⟨.skip,undef,_,R,β,?_,.inr ⟨rfl,rfl⟩,?_,p2⟩
   ·simp [execOp,ho,Instr.entryStore,iX,hyv,nS,asInt,asIntOf,hfi,wB]
   ·rw [hd];exact p1
  ·cases hv
 ·cases hv
end maps
end Go.Am
namespace Go.Am
open Go
section ops
variable {E:Env} {R:aj} {w:World} {β:Nat→Nat} {s:St} {a:Act} {o:Oper}
theorem GQ (h:bk E R w β s a) (t u:TypeId) (x:Operand) (ho:o.op=.convert t u x) {v:AV} (hc:tA E s t u (bJ E s.af x)=some (true,v)) :
  cn E R w β s a o (s.put o.dst (.v v)):=by
 unfold tA at hc;cases hc
theorem qA (h:bk E R w β s a) (x:Operand) (ho:o.op=.nilCheck x) {y:SV} (hx:bJ E s.af x=y) (hy:(∃ id off,y=.v (.ptr id off))∨(∃ k off,y=.lp k off)∨∃ cs,y=.v (.ep cs)) :
  cn E R w β s a o (s.put o.dst y):=by
 have rx:=aY h x;rw [hx] at rx;rcases hy with ⟨id,off,rfl⟩|⟨k,off,rfl⟩|⟨cs,rfl⟩
 ·have fy:Rel R w (.ptr id off) (a.eval x):=rx;generalize iX:a.eval x=xv at fy;cases fy with
  | @ptr _ _ b hb=>
  refine ax h (c:=.pointer (some ⟨b,off,none⟩)) ?_ (Rel.ptr hb);simp [execOp,ho,iX]
 ·refine ⟨_,_,w,R,β,?_,.inl rfl,h.put o.dst rx,by rw [bo]; exact Step.refl _ _ _ _⟩;have iX:a.eval x=.pointer (some ⟨β k,off,none⟩):=rx;simp [execOp,ho,iX]
 ·have fy:Rel R w (.ep cs) (a.eval x):=rx;generalize iX:a.eval x=xv at fy;cases fy with
  | @ep _ b off hb=>
  refine ax h (c:=.pointer (some ⟨b,off,none⟩)) ?_ (Rel.ep hb);simp [execOp,ho,iX]
end ops
end Go.Am
namespace Go.Am
open Go
section
variable {E:Env} {R R':aj} {w w':World} {β β':Nat→Nat} {s s':St} {a a':Act} {o:Oper}
def CA:List AV→List TR
 |[]=>[]
 |.list .full _ es :: l=>.full es.length :: CA l
 |_ :: l=>.bL :: CA l
theorem GR {id sz:Nat}:∀ {ys Oz:List AV} {fs Gx:List Nat},Oy id sz ys fs=some (Oz,Gx) →
  ∃ nfs,Gx=fs++nfs∧(CA ys).length=nfs.length∧Oz.length=ys.length∧(∀ j f t,nth nfs j=some f→nth (CA ys) j=some t→(t=.bL∧f=0)∨t=.full f) ∧
   (∀ es,eW es ys→eW es Oz) ∧
   (∀ {R R':aj} {w:World} {us:List Value} {ts:List TR},aW R w (aC ys) us→Ext R w R' w→nth R'.obj id=some (.bt ts)→(∀ j t,nth (CA ys) j=some t→nth ts (fs.length+j)=some t)→aW R' w (aC Oz) us)
 |[],Oz,fs,Gx,h=>by
  simp only [Oy] at h;cases h;exact ⟨[],by simp,rfl,rfl,fun j f t h=>by simp [nth] at h,fun _ h=>h,fun h e _ _=>h.mono e⟩
 |y :: ys,Oz,fs,Gx,h=>by
  unfold Oy at h;split at h
  ·rename_i mm;cases mm
  ·rename_i sz0 l fs0 mm;obtain ⟨rfl,rfl⟩:=List.cons.inj mm;split at h
   ·rename_i r fs2 hr;cases h;obtain ⟨nfs,rfl,h2,h3,h4,h5,h6⟩:=GR hr;refine ⟨0 :: nfs,by simp,by simp [CA,h2],by simp [h3],fun j f t hf ht=>?_,fun es he x hx=>?_,fun hR e bV hts=>?_⟩
    ·cases j with
     |zero=>
      simp only [CA,nth] at hf ht;cases hf; cases ht;exact .inl ⟨rfl,rfl⟩
     |succ j=>exact h4 j f t hf ht
    ·rcases List.mem_cons.1 hx with rfl|hx
     ·have:=he _ List.mem_cons_self;exact ⟨this.1,rfl⟩
     ·exact h5 es (fun z hz=>he z (acQ _ hz)) x hx
    ·simp only [aC,AV.cells,acO] at hR ⊢;cases hR with
     |cons hc hR=>
     refine .cons ?_ (h6 hR e bV fun j t hj=>?_)
     ·have hn:=hts 0 .bL rfl;rw [Nat.add_zero] at hn;cases hc with
      |lF=>exact .pP bV trivial
      |list _ _ _ hk=>exact hk.elim
     ·have:=hts (j+1) t hj;rw [List.length_append,acP];rw [acR,acW 1 j];exact this
   ·cases h
  ·rename_i sz0 es l fs0 mm;obtain ⟨rfl,rfl⟩:=List.cons.inj mm;split at h
   ·rename_i gX;have gX:=aaA gX;subst gX;split at h
    ·rename_i r fs2 hr;cases h;obtain ⟨nfs,rfl,h2,h3,h4,h5,h6⟩:=GR hr;refine ⟨_ :: nfs,by rw [List.append_assoc]; rfl,by simp [CA,h2],by simp [h3],fun j f t hf ht=>?_,fun es he x hx=>?_,fun hR e bV hts=>?_⟩
     ·cases j with
      |zero=>
       simp only [CA,nth] at hf ht;cases hf; cases ht;exact .inr rfl
      |succ j=>exact h4 j f t hf ht
     ·rcases List.mem_cons.1 hx with rfl|hx
      ·have:=he _ List.mem_cons_self;exact ⟨this.1,rfl⟩
      ·exact h5 es (fun z hz=>he z (acQ _ hz)) x hx
     ·simp only [aC,AV.cells,acO] at hR ⊢;cases hR with
      |cons hc hR=>
      refine .cons ?_ (h6 hR e bV fun j t hj=>?_)
      ·have hn:=hts 0 _ rfl;rw [Nat.add_zero] at hn;cases hc with
       |list hE hlen jy hk=>
        have hk:_=_:=hk;exact .list (hE.mono e) hlen jy ⟨_,bV,_,hn,Nat.le_of_eq hlen,fun _=>hk⟩
      ·have:=hts (j+1) t hj;rw [List.length_append,acP];rw [acR,acW 1 j];exact this
    ·cases h
   ·cases h
  ·cases h
theorem Iw {e:EK} {k:AV}:∀ {es:List (AV × AV)},cX e k es=true→lB e k es=some (gu e k es)
 |[],_=>rfl
 |(k',v) :: l,h=>by
  simp only [cX,aae] at h;obtain ⟨b,hb⟩:=abd.1 h.1;simp only [lB,gu,Bz,hb];cases b
  ·simp only [cond_false]; exact Iw h.2
  ·rfl
theorem K7 {f:FuncId} (h:bk E R w β s a) (hs:jN E f s o=some (true,s')):cn E R w β s a o s':=by
 unfold jN at hs;split at hs
 ·split at hs
  ·split at hs
   ·rename_i args tys ho;split at hs
    ·rename_i id g off sz len k szy y ys t u hl OV;split at hs
     ·rename_i i hi;split at hs
      ·rename_i elem esz ag eb z hk;split at hs
       ·rename_i j hj;split at hs
        ·rename_i e2 MF ag2 eb2 z2 hjk;split at hs
         ·rename_i pI Q4;split at hs
          ·rename_i Oz Gx es cL e' hy bV;split at hs
           ·rename_i hc;simp only [aae] at hc;obtain ⟨⟨⟨⟨⟨⟨⟨⟨c1,c2⟩,c3⟩,c4⟩,c5⟩,c6⟩,c7⟩,c8⟩,c9⟩:=hc;have c1:=aaA c1;have c2:=aaA c2;have c3:=aaA c3;have c4:=aaA c4;have c5:=aaA c5;have c8:=aaA c8;subst c1; subst c2; subst c3; subst c4; subst c5;injection hs with hs; injection hs with hc hs;subst hs;simp only [aae,decide_eq_true_eq] at hc;obtain ⟨fs,A6,_⟩:=sb Q4;rw [acH] at A6;have Xo:qo s.G pI=fs:=by simp only [qo,A6]
            rw [Xo] at hy;obtain ⟨nfs,rfl,y1,y2,y3,y4,y5⟩:=GR hy;have cI:=bA A6;rw [← h.g.len] at cI;obtain ⟨ro,bD⟩:∃ ro,nth R.obj pI=some ro:=⟨R.obj[pI],by rw [bg]; exact aau cI⟩;obtain ⟨ts,rfl,z1,z2,z3⟩:=h.KX A6 (nfs:=nfs) (nts:=CA (y :: ys)) y1 (fun j f t h1 h2=>by
             rcases y3 j f t h1 h2 with ⟨rfl,rfl⟩|rfl
             ·exact rfl
             ·exact rfl) (fun j f b c hj=>by
             obtain ⟨f',hf'⟩:∃ f',nth nfs j=some f':=by
              have:=bA hj;rw [y1] at this;exact ⟨nfs[j],by rw [bg]; exact aau this⟩
             rcases y3 j f' _ hf' hj with ⟨h1,_⟩|h1 <;> cases h1) bD
            have du:pI≠id:=fun e=>by subst e; rw [A6] at bV; cases bV
            have ahw:nth (s.cj (aE s.G pI (.bt (fs++nfs) MF e2))).G id=some (.bF es sz e'):=by
             simp only [St.cj];rw [bn du];exact bV
            have hr:=jz h hl;generalize hv:args.toList.map a.eval=vs at hr;have Y4:o.op=.call { callee:=.builtin .append,args:=args,argTypes:=#[t,t] }:=by
             rw [ho];congr 2;exact Array.toList_inj.1 OV
            have hx:=fW (E:=E) (w:=w) Y4 vs hv;cases hr with
            | @cons _ cx _ _ h0 h1=>
            cases h1 with
            | @cons _ cy _ _ h1 h2=>
            cases h2;obtain ⟨jR,ud,e1,e2',e3,e4,e5,e6⟩:=dC E hi;have TZ:=hk;rw [hk] at e5;obtain ⟨ie,ue,rfl,f1,f2,f3,f4,f5,f6⟩:=fP e5;have vK:(⟨[cx,cy]⟩:Array Value)=#[cx,cy]:=rfl;obtain ⟨w0,us,w1,w2,w3,w4⟩:=lH (esz:=sz) h1 (.inr rfl);have hlen:Oz.length=(y :: ys).length:=y2;cases Oz with
            |nil=>simp at hlen
            |cons y' Oz=>
            rw [← hlen] at hc w3 ⊢;refine cn.step (R':=R.reset pI (.bt (ts++CA (y :: ys)))) rfl z3 (s7 z2 (cx:=cx) (cy:=cy) (us:=us) (t:=t) (u:=t) (fun hh=>?_) (acz c7) c8 c9 f2 f3 f6 (h0.mono z3.ext) (fun zc tk=>?_) (y4 _ w0.g) (y5 w1 z3.ext (aB bD) fun j t hj=>by rw [← z1]; exact zy hj) w2 w3 ahw hc.1.1.1 hc.1.1.2 hc.1.2 hc.2)
            ·rw [hx];simp only [builtin,vK,aax,hh,aav,aaP]
            ·rcases w4 with ⟨h,_⟩|⟨by',oy,Cu,rfl,adO,_,tP,yE⟩
             ·cases h
             ·rw [hlen] at w3 ⊢;refine ⟨fun hn=>absurd hn (by simp),fun hh KY KZ=>run_append_nil (P:=E.P) w t o.type _ ie zc e2' f1 tk _ _ Cu us (by rw [w3,f2]) tP hh KY KZ,fun _ b eI ir Ct Bb Im hg KY KZ=>run_append_grow (P:=E.P) w t o.type _ ie zc e2' f1 tk b eI ir Ct Bb Im _ _ Cu us (by rw [w3,f2]) tP hg KY KZ,fun _ g k eI ir cur hg gv tn=>lJ (P:=E.P) w t o.type _ ie e2' f1 g k eI ir cur hg _ _ Cu us (by rw [w3,f2]) tP w2 gv tn⟩
           ·cases hs
          ·cases hs
         ·cases hs
        ·cases hs
       ·cases hs
      ·cases hs
     ·cases hs
    ·cases hs
   ·cases hs
  ·cases hs
 ·cases hs
theorem Ix {f:FuncId} (h:bk E R w β s a) (hs:wq E f s o=some (true,s')):cn E R w β s a o s':=by
 unfold wq at hs;split at hs
 ·split at hs
  ·split at hs
   ·rename_i t m kx ok ho;split at hs
    ·rename_i e sz p i id k he hi hm hk;split at hs
     ·rename_i kt et szz es OS bV;split at hs
      ·rename_i j pI hj Q4;split at hs
       ·rename_i hc;injection hs with hs; injection hs with MU hs;subst hs;rw [aae] at MU;obtain ⟨fs,A6,_⟩:=sb Q4;rw [acH] at A6;have Xo:qo s.G pI=fs:=by simp only [qo,A6]
        rw [Xo] at MU ⊢;have cI:=bA A6;rw [← h.g.len] at cI;obtain ⟨ro,bD⟩:∃ ro,nth R.obj pI=some ro:=⟨R.obj[pI],by rw [bg]; exact aau cI⟩;obtain ⟨ts,rfl,z1,z2,z3⟩:=h.KX A6 (nfs:=[0]) (nts:=[.bL]) rfl (fun j f t h1 h2=>by
         cases j with
         |zero=>simp only [nth] at h1 h2; cases h1; cases h2; exact rfl
         |succ j=>simp [nth] at h1) (fun j f b c hj=>by
         cases j with
         |zero=>simp only [nth] at hj; cases hj
         |succ j=>simp [nth] at hj) bD
        have du:pI≠id:=fun e=>by subst e; rw [A6] at bV; cases bV
        have hmo:mapOf (s.cj (aE s.G pI (.bt (fs++[0]) sz e))) (.v (.map id))=some es:=by
         simp only [mapOf,St.cj];rw [bn du,bV]
        have An:my E (s.cj (aE s.G pI (.bt (fs++[0]) sz e))) t (bJ E (s.cj (aE s.G pI (.bt (fs++[0]) sz e))).af m) (bJ E (s.cj (aE s.G pI (.bt (fs++[0]) sz e))).af kx)=some ((gu j.ek k es).getD (.list .nil szz []),(gu j.ek k es).isSome):=by
         rw [show bJ E (s.cj (aE s.G pI (.bt (fs++[0]) sz e))).af m=.v (.map id) from hm,show bJ E (s.cj (aE s.G pI (.bt (fs++[0]) sz e))).af kx=.v k from hk];unfold my;simp only [hi,hmo,OS,hj,hc,if_true,Iw MU.1];cases gu j.ek k es <;> rfl
        refine cn.step (R':=R.reset pI (.bt (ts++[.bL]))) rfl z3 ?_;refine cn.MT (sq z2 t m kx ok ho An) (fun R' w' ex c xq=>?_);have key:∀ c,Rel R' w' ((gu j.ek k es).getD (.list .nil szz [])) c→Rel R' w' ((aL.bt pI sz p).enc ((aL.bt pI sz p).bB (bK j.ek k (.list (.bt pI fs.length) sz []) es))) c:=fun c hc=>by
         refine ((aL.bt pI sz p).eg MU.2).jM _ _ _ ?_;unfold bK;cases hg:gu j.ek k es with
         |some x=>rw [hg] at hc; exact hc
         |none=>
          rw [hg] at hc;obtain ⟨qM,q1,q2⟩:=ex.obj pI _ (aB bD);have hn:zk (.bt (ts++[.bL])):=trivial;have hc:Rel R' w' (.list .nil szz []) c:=hc;cases hc with
          |lF=>exact .pP q1 (hn.mono q2)
          |list _ _ _ hk=>exact hk.elim
        cases ok with
        |false=>exact key c xq
        |true=>
         have xq:Rel R' w' (.bG [(gu j.ek k es).getD (.list .nil szz []),.bool (gu j.ek k es).isSome]) c:=xq;cases xq with
         |bG h1=>
         cases h1 with
         |cons h1 h2=>exact Rel.bG (.cons (key _ h1) h2)
       ·cases hs
      ·cases hs
     ·cases hs
    ·cases hs
   ·cases hs
  ·cases hs
 ·cases hs
theorem K8 {f:FuncId} (h:bk E R w β s a) (hs:Ai E f s o=some (true,s')):cn E R w β s a o s':=by
 unfold Ai at hs;split at hs
 ·rename_i r hr;cases hs;exact Q1 h hr
 ·exact Ix h hs
end
end Go.Am
