/- The abstract machine: what it does is what the model does: objects that are no rows; ranges over strings. -/
import Derived.Test.YtldcljfjjoidhaaGreatDoorAmKD
import Derived.Laws.RangeAny
import Derived.Maps.RangeRun
import Derived.Laws.BytesString
import Derived.Laws.Cover4
set_option linter.all false
open Array renaming length_toList→aao, toList_modify→aaZ, toList_push→abD, getElem?_toList→abW, toList_filter→acw
open Bool renaming and_eq_true→aab
open ByteArray renaming get!→ac5
open Go.ByteArray renaming toList_eq→ab2
open Go.Instr renaming findKey→aac, checkKey→aad, findAsking→aae, findNow→aah, sameBits→aap, keyThatStays→aa3, sameNow→aby, lookup→abS
open Go.Op renaming maxDepth→aa4, equal→abI
open Go.Result renaming andThen_ok→aaf
open Go.Sem renaming run_bind→aag, run_pure→aaF, run→aa0
open Go.Utf8 renaming encode→aa6
open Go.Value renaming int→acS
open List renaming getElem?_eq_getElem→aai, getElem?_modify→aa1, modify_zero_cons→aa7, modify_succ_cons→aa8, getElem?_cons_zero→abT, getElem?_cons_succ→abU, map_cons→abX, getElem_of_mem→ace
open Nat renaming zero_add→aa2, le_of_ble_eq_true→abx
open Option renaming isSome_iff_exists→abN
open Option.some renaming inj→abV, injEq→acW
open UInt8 renaming ofNat→aa5
namespace Go.Am
open Go
open Go.ChangeMaps (setBlock)
def qG (x:Obj):Prop:=match x with
 |.cells ..=>False
 |_=>True
theorem s5 {w:World} {b:Nat} {x:Obj} (h:w.heap[b]?=some x) (hn:qG x) (o:Nat):w.cell? ⟨b,o,none⟩=none:=by
 simp only [World.cell?,h];cases x <;> first | rfl | exact hn.elim
def World.put (w:World) (b:Nat) (x:Obj):World:={ w with heap:=w.heap.setIfInBounds b x }
theorem mX (w:World) (b k:Nat) (x:Obj) (h:k≠b):(World.put w b x).heap[k]?=w.heap[k]?:=Array.getElem?_setIfInBounds_ne (Ne.symm h)
theorem gL (w:World) (b:Nat) (x:Obj) (h:b < w.heap.size):(World.put w b x).heap[b]?=some x:=by simp [World.put,h]
@[simp] theorem ZZ (w:World) (b:Nat) (x:Obj):(World.put w b x).heap.size=w.heap.size:=by simp [World.put]
section setobj
variable {E:Env} {R:ak} {w:World} {β:Nat→Nat} {s:St} {a:Act}
theorem nX {b:Nat} {x x':Obj} (hx:w.heap[b]?=some x) (hn:qG x) (ZQ:qG x') (hl:∀ r,x=.loop r→∃ r',x'=.loop r'∧sS r r'):Ext R w R (World.put w b x'):=
 ⟨fun _ _ h=>h,fun b' o h=>by
  by_cases e:b'=b
  ·subst e;rw [s5 hx hn,s5 (gL w b' x' (bl hx)) ZQ]
  ·exact cn (mX w b b' x' e) o,fun _ ro h=>⟨ro,h,cJ.refl ro⟩,fun b' r hb=>by
  by_cases e:b'=b
  ·subst e;rw [hx] at hb;obtain ⟨r',rfl,h2⟩:=hl r (abV hb);exact ⟨r',gL w b' _ (bl hx),h2⟩
  ·exact ⟨r,(mX w b b' x' e).trans hb,rfl,rfl,rfl,rfl,rfl⟩⟩
theorem bt.setObj (h:bt E R w β s a) {id b:Nat} {x x':Obj} {go':GO} (hid:nth R.obj id=some (.ck b)) (hx:w.heap[b]?=some x) (hn:qG x) (ZQ:qG x') (hl:∀ r,x=.loop r→∃ r',x'=.loop r'∧sS r r') (iH:gI R (World.put w b x') go' (.ck b)) :
  bt E R (World.put w b x') β (s.cH (aI s.G id go')) a∧Step R w β s.boxes R (World.put w b x') β s.boxes:=by
 have hex:=nX (R:=R) hx hn ZQ hl;refine ⟨⟨⟨by simp [St.cH,h.g.len],fun jP go ro hg ms=>?_,h.g.inj,fun b' o' um=>by have:=h.g.wf b' o' um; simpa using this,fun g cs' hg=>(h.g.cr g cs' hg).mono hex,by first | exact h.g.lo | exact Nat.le_succ_of_le h.g.lo⟩,?_,h.t.mono hex,h.n,h.d⟩,?_⟩
 ·rcases du hg with ⟨rfl,rfl,_⟩|⟨cS,rV⟩
  ·rw [hid] at ms;cases ms;exact iH
  ·refine (h.g.obj jP go ro rV ms).mono hex (fun b' gJ=>mX w _ b' _ (fun e=>cS ?_)) (fun _ _ _ hi=>hi);subst e;exact h.g.inj id jP _ _ b' hid ms rfl gJ
 ·exact h.b.aY hex (fun k cs' iJ=>mX w _ _ _ (h.FK hid iJ)) (fun _ _ _ _ hi=>hi) (fun _ _ _ hl=>hl)
 ·have B5:Own R β s.boxes b:=.inl ⟨id,_,hid,rfl⟩;exact ⟨hex,rfl,rfl,rfl,by simp,fun b' _ hn=>mX w _ b' _ (fun e=>hn (e ▸ B5)),fun _ _ hb=>hb,fun b o hi _ _=>hi⟩
end setobj
section maps
variable {E:Env} {R:ak} {w:World} {β:Nat→Nat} {s:St} {a:Act} {o:Oper}
theorem Ls {t:TypeId} {i:TI} (hi:E.ti t=some i):i.ek=vp E.P t:=by
 have:=E.I7 t i hi;unfold I6 at this;split at this
 ·split at this
  ·cases this; rfl
  ·cases this
 ·cases this
theorem kb {e:EK} {a b:AV} {r:Bool} (h:Fs e a b=some r):lA e a b=some r:=by
 unfold Fs at h;split at h
 ·rename_i he;cases hc:(e.wide&&!lJ a b) with
  |true=>rw [hc] at h; cases h
  |false=>rw [hc] at h; cases h; exact he
 ·exact h
theorem Lt {e:EK} {a b:AV} (h:Fs e a b=some true) (he:e.wide=true):lJ a b=true:=by
 have:=kb h;unfold Fs at h;rw [this] at h;simp only [he,Bool.true_and] at h;cases hs:lJ a b with
 |true=>rfl
 |false=>rw [hs] at h; cases h
def DF (e:EK) (d:TypeDesc):Prop:=(e=.bool∧d=.bool)∨(e=.int∧∃ k,d=.int k)∨(e=.str∧d=.string)∨(e.wide=true∧((∃ fs,d=.struct fs)∨∃ n t,d=.array n t))
theorem vB {P:Program} {t:TypeId} (h:(vp P t).plain=true):∃ d,P.underlying t=some d∧DF (vp P t) d:=by
 have key:∀ {e:EK},e=rk P 6 t→e.plain=true→∃ d,P.underlying t=some d∧DF e d:=by
  intro e he h;unfold rk at he;split at he
  ·rename_i hu; exact ⟨_,hu,.inl ⟨he,rfl⟩⟩
  ·rename_i k hu; exact ⟨_,hu,.inr (.inl ⟨he,k,rfl⟩)⟩
  ·rename_i hu; exact ⟨_,hu,.inr (.inr (.inl ⟨he,rfl⟩))⟩
  ·rename_i fs hu;split at he
   ·subst he; cases h
   ·split at he
    ·subst he; exact ⟨_,hu,.inr (.inr (.inr ⟨rfl,.inl ⟨_,rfl⟩⟩))⟩
    ·subst he; cases h
  ·rename_i m e' hu;split at he
   ·subst he; exact ⟨_,hu,.inr (.inr (.inr ⟨rfl,.inr ⟨_,_,rfl⟩⟩))⟩
   ·subst he; cases h
  ·subst he; cases h
 unfold vp at h ⊢;split
 ·rename_i l hl;rw [hl] at h;simp only at h;split at h
  ·simp [EK.plain] at h
  ·rename_i hg;rw [if_neg hg];exact key hl.symm rfl
 ·rename_i k hk;exact key rfl (by
   split at h
   ·rename_i l hl; exact absurd hl (hk l)
   ·exact h)
theorem Cg {a b:AV} (h:ph a b=true) {x y:Value} (hx:Rel R w a x) (hy:Rel R w b y):x=y:=by
 unfold ph at h;split at h
 ·cases hx; cases hy; rw [eq_of_beq h]
 ·rw [aab,decide_eq_true_eq] at h;cases hx; cases hy; rw [h.1,eq_of_beq h.2]
 ·cases hx; cases hy; rw [eq_of_beq h]
 ·cases h
theorem s6:∀ {xs ys:List AV} {vs us:List Value},mJ xs ys=true→aN R w xs vs→aN R w ys us→vs=us
 |[],[],_,_,_,.nil,.nil=>rfl
 |a :: xs,b :: ys,_,_,h,.cons h1 h2,.cons h3 h4=>by
  unfold mJ at h;rw [aab] at h;rw [Cg h.1 h1 h3,s6 h.2 h2 h4]
 |[],_ :: _,_,_,h,_,_=>by cases h
 |_ :: _,[],_,_,h,_,_=>by cases h
theorem DG {a b:AV} (h:lJ a b=true) {x y:Value} (hx:Rel R w a x) (hy:Rel R w b y):x=y:=by
 unfold lJ at h;split at h
 ·cases hx with
  |agg hx _=>cases hy with
   |agg hy _=>rw [s6 h hx hy]
 ·cases h
theorem vC {ek:TypeId→EK} {d:Nat} {em:Bool} (ih:∀ (t:TypeId) (a:AV) (r:Bool) (x:Value),lA (ek t) a a=some r→Rel R w a x→(aad em d t x).run E.P w=.ok () w) {xs:List AV} {vs:List Value}
  (hx:aN R w xs vs) (wo:∀ x∈vs,x.oneCell'=true) :
  ∀ (fs:List Field) (l:Uf) (r:Bool),FB E.P ek fs=some l→uh l xs xs=some r →
   (do for f in fs do if f.name ≠ "_" then aad em d f.type (← part f.type ⟨vs⟩ f.offset) : Sem Unit).run E.P w = .ok () w
 |[],l,r,hl,hr=>by simp
 |f :: fs,l,r,hl,hr=>by
  unfold FB at hl;split at hl
  ·cases hl
  ·rename_i hn;split at hl
   ·rename_i i u l' h1 h2 h3;cases hl;unfold uh at hr;split at hr
    ·rename_i a b ha hb;rw [ha] at hb;cases hb;split at hr
     ·rename_i p q hp hq;obtain ⟨c,k1,k2⟩:=kr h1 h2 hx wo ha;have cS : f.name ≠ "_" := by simpa using hn
      have xM:=vC ih hx wo fs l' q h3 hq;simp only [List.forIn_cons,aag,if_pos cS,aaf,k1,ih f.type a p c hp k2,aaF];simpa only [aag,aaF] using xM
     ·cases hr
    ·cases hr
   ·cases hl
theorem s7 {ek:EK} {d:Nat} {em:Bool} {e:TypeId} {i:TypeInfo} {u:TypeDesc} (h1:E.P.info? e=some i) (h2:E.P.underlying e=some u) (ih:∀ (a:AV) (r:Bool) (x:Value),lA ek a a=some r→Rel R w a x→(aad em d e x).run E.P w=.ok () w) {xs:List AV} {vs:List Value}
  (hx:aN R w xs vs) (wo:∀ x∈vs,x.oneCell'=true) :
  ∀ (m k:Nat) (r:Bool),uh (xy i.size (jQ u) ek m k) xs xs=some r →
   (do for j in List.range' k m do aad em d e (← part e ⟨vs⟩ (j * (← sizeOf e))):Sem Unit).run E.P w=.ok () w
 |0,k,r,hr=>by simp
 |m+1,k,r,hr=>by
  unfold xy uh at hr;split at hr
  ·rename_i a b ha hb;rw [ha] at hb;cases hb;split at hr
   ·rename_i p q hp hq;obtain ⟨c,k1,k2⟩:=kr h1 h2 hx wo ha;have xM:=s7 h1 h2 ih hx wo m (k+1) q hq;simp only [List.range'_succ,List.forIn_cons,aag,run_sizeOf w h1,aaf,k1,ih a p c hp k2,aaF];simpa only [aag,aaF] using xM
   ·cases hr
  ·cases hr
theorem nY (em:Bool):∀ (n d:Nat),n≤d→∀ (t:TypeId) (a:AV) (r:Bool) (x:Value),lA (rk E.P n t) a a=some r→Rel R w a x→(aad em d t x).run E.P w=.ok () w
 |0,_,_,t,a,r,x,h,_=>by simp [rk,lA] at h
 |n+1,0,hd,_,_,_,_,_,_=>by omega
 |n+1,d+1,hd,t,a,r,x,h,hx=>by
  unfold rk at h;split at h
  ·rename_i hu;unfold lA at h;split at h
   all_goals (try contradiction)
   cases hx;simp [aad,run_underlying hu]
  ·rename_i k hu;unfold lA at h;split at h
   all_goals (try contradiction)
   cases hx;simp [aad,run_underlying hu]
  ·rename_i hu;unfold lA at h;split at h
   all_goals (try contradiction)
   cases hx;simp [aad,run_underlying hu]
  ·rename_i fs hu;split at h
   ·simp [lA] at h
   ·split at h
    ·rename_i l hl;unfold lA at h;split at h
     all_goals (try contradiction)
     rename_i Vp xs ys hk PI;cases hk;cases PI;cases hx with
     |agg hx wo=>
     have:=vC (em:=em) (fun t a r x=>nY em n d (by omega) t a r x) hx wo fs.toList _ r hl h;rw [aad];simp only [aag,run_underlying hu,aaf];rw [← Array.forIn_toList];simp only [aag,aaF] at this ⊢;exact this
    ·simp [lA] at h
  ·rename_i m e hu;split at h
   ·rename_i i ud g1 g2;unfold lA at h;split at h
    all_goals (try contradiction)
    rename_i Vp xs ys hk PI;cases hk;cases PI;cases hx with
    |agg hx wo=>
    have:=s7 (em:=em) g1 g2 (fun a r x=>nY em n d (by omega) e a r x) hx wo m 0 r h;rw [aad];simp only [aag,run_underlying hu,aaf];simp only [Std.Legacy.Range.forIn_eq_forIn_range',Std.Legacy.Range.size,Nat.sub_zero,Nat.add_one_sub_one,Nat.div_one];simp only [aag,aaF] at this ⊢;exact this
   ·simp [lA] at h
  ·simp [lA] at h
theorem lR {e:EK} {d:TypeDesc} (hd:(e=.bool∧d=.bool)∨(e=.int∧∃ k,d=.int k)∨(e=.str∧d=.string)) {k k':AV} {r:Bool} {x y:Value} (h:lA e k k'=some r) (hx:Rel R w k x) (hy:Rel R w k' y):aby d x y=some r∧(r=true→x=y):=by
 rcases hd with ⟨rfl,rfl⟩|⟨rfl,n,rfl⟩|⟨rfl,rfl⟩
 ·unfold lA at h;split at h
  all_goals (try contradiction)
  cases hx; cases hy; cases h;exact ⟨rfl,fun e=>by rw [eq_of_beq e]⟩
 ·unfold lA at h;split at h
  all_goals (try contradiction)
  split at h
  ·rename_i hk;subst hk;cases hx; cases hy; cases h;exact ⟨by simp [aby],fun e=>by rw [eq_of_beq e]⟩
  ·cases h
 ·unfold lA at h;split at h
  all_goals (try contradiction)
  cases hx; cases hy; cases h;refine ⟨?_,fun e=>by rw [eq_of_beq e]⟩;simp only [aby];rw [beq_toListBytes,ab2,ab2]
theorem yd {e:EK} {d:TypeDesc} (hd:(e=.bool∧d=.bool)∨(e=.int∧∃ k,d=.int k)∨(e=.str∧d=.string)) {k:AV} {x:Value} (hx:Rel R w k x):∀ {es:List (AV × AV)} {ax:List MapEntry} {r:Option AV},dB R w es ax→j6 e k es=some r →
  ∀ i,match r with
   |none=>aah d x ax i=some none
   |some v=>∃ j c,aah d x ax i=some (some (j,c))∧Rel R w v c
 |[],[],r,_,h,i=>by simp [j6] at h; subst h; rfl
 |[],_ :: _,_,h,_,_=>h.elim
 |_ :: _,[],_,h,_,_=>h.elim
 |(k',v) :: es,en :: ax,r,h,hf,i=>by
  unfold j6 at hf;split at hf
  ·rename_i he;cases hf;have h1:=(lR hd (kb he) hx h.1).1;exact ⟨i,en.val,by simp [aah,h1],h.2.1⟩
  ·rename_i he;have h1:=(lR hd (kb he) hx h.1).1;have:=yd hd hx h.2.2 hf (i+1);split at this
   ·simp only [aah,h1]; exact this
   ·obtain ⟨j,c,q1,q2⟩:=this;exact ⟨j,c,by simp only [aah,h1]; exact q1,q2⟩
  ·cases hf
theorem H0 {e:EK} {d:TypeDesc} (hd:(e=.bool∧d=.bool)∨(e=.int∧∃ k,d=.int k)∨(e=.str∧d=.string)) {k v:AV} {x c:Value} (hx:Rel R w k x) (hv:Rel R w v c):∀ {es es':List (AV × AV)} {ax:List MapEntry},dB R w es ax→ui e k v es=some es' →
  ∀ i,(aah d x ax i=some none∧iG e k es=ax.length∧∀ b,dB R w es' (ax++[{ key:=x,val:=c,born:=b }])) ∨
   ∃ j c',aah d x ax i=some (some (i+j,c'))∧(j=iG e k es∧∃ en,ax[j]?=some en∧en.key=x∧en.val=c')∧dB R w es' (ax.modify j fun e=>{ e with key:=x,val:=c })
 |[],es',[],_,h,i=>by simp [ui] at h; subst h; exact .inl ⟨rfl,rfl,fun b=>⟨hx,hv,trivial⟩⟩
 |[],_,_ :: _,h,_,_=>h.elim
 |_ :: _,_,[],h,_,_=>h.elim
 |(k',v') :: es,es',en :: ax,h,hf,i=>by
  unfold ui at hf;split at hf
  ·rename_i he;cases hf;obtain ⟨h1,h2⟩:=lR hd (kb he) hx h.1;have hm:xB e k k'=true:=by unfold xB; rw [he]
   exact .inr ⟨0,en.val,by simp [aah,h1],⟨by simp [iG,hm],en,rfl,(h2 rfl).symm,rfl⟩,by simp only [aa7]; exact ⟨hx,hv,h.2.2⟩⟩
  ·rename_i he;have h1:=(lR hd (kb he) hx h.1).1;split at hf
   ·rename_i r hr;cases hf;have hm:xB e k k'=false:=by unfold xB; rw [he]
    rcases H0 hd hx hv h.2.2 hr (i+1) with ⟨q1,q0,q2⟩|⟨j,c',q1,q2,q3⟩
    ·exact .inl ⟨by simp only [aah,h1]; exact q1,by simp [iG,hm,q0],fun b=>⟨h.1,h.2.1,q2 b⟩⟩
    ·refine .inr ⟨j+1,c',by simp only [aah,h1]; rw [q1,Nat.add_assoc,Nat.add_comm 1 j],?_,?_⟩
     ·obtain ⟨e0,en',e1,e2⟩:=q2;exact ⟨by simp [iG,hm,e0],en',by simpa using e1,e2⟩
     ·rw [aa8];exact ⟨h.1,h.2.1,q3⟩
   ·cases hf
  ·cases hf
theorem rZ {kt:TypeId} {j:TI} (hj:E.ti kt=some j) {k:AV} {x:Value} (hx:Rel R w k x):∀ {es:List (AV × AV)} {ax:List MapEntry} {r:Option AV},dB R w es ax→j6 j.ek k es=some r →
  ∀ i,match r with
   |none=>(aae kt x ax i).run E.P w=.ok none w
   |some v=>∃ n c,(aae kt x ax i).run E.P w=.ok (some (n,c)) w∧Rel R w v c
 |[],[],r,_,h,i=>by simp [j6] at h; subst h; simp [aae]
 |[],_ :: _,_,h,_,_=>h.elim
 |_ :: _,[],_,h,_,_=>h.elim
 |(k',v) :: es,en :: ax,r,h,hf,i=>by
  unfold j6 at hf;split at hf
  ·rename_i he;cases hf;have h1:=(ks hj (kb he) hx h.1).1;exact ⟨i,en.val,by simp [aae,abI,aa4,h1],h.2.1⟩
  ·rename_i he;have h1:=(ks hj (kb he) hx h.1).1;have:=rZ hj hx h.2.2 hf (i+1);split at this
   ·simp only [aae,abI,aa4,aag,h1,aaf]; exact this
   ·obtain ⟨n,c,q1,q2⟩:=this;exact ⟨n,c,by simp only [aae,abI,aa4,aag,h1,aaf]; exact q1,q2⟩
  ·cases hf
theorem rF {kt:TypeId} {j:TI} (hj:E.ti kt=some j) (hw:j.ek.wide=true) {k v:AV} {x c:Value} (hx:Rel R w k x) (hv:Rel R w v c):∀ {es es':List (AV × AV)} {ax:List MapEntry},dB R w es ax→ui j.ek k v es=some es' →
  ∀ i,((aae kt x ax i).run E.P w=.ok none w∧iG j.ek k es=ax.length∧∀ b,dB R w es' (ax++[{ key:=x,val:=c,born:=b }])) ∨
   ∃ n c',(aae kt x ax i).run E.P w=.ok (some (i+n,c')) w∧(n=iG j.ek k es∧∃ en,ax[n]?=some en∧en.key=x∧en.val=c')∧dB R w es' (ax.modify n fun e=>{ e with key:=x,val:=c })
 |[],es',[],_,h,i=>by simp [ui] at h; subst h; exact .inl ⟨by simp [aae],rfl,fun b=>⟨hx,hv,trivial⟩⟩
 |[],_,_ :: _,h,_,_=>h.elim
 |_ :: _,_,[],h,_,_=>h.elim
 |(k',v') :: es,es',en :: ax,h,hf,i=>by
  unfold ui at hf;split at hf
  ·rename_i he;cases hf;have h1:=(ks hj (kb he) hx h.1).1;have h2:=DG (Lt he hw) hx h.1;have hm:xB j.ek k k'=true:=by unfold xB; rw [he]
   exact .inr ⟨0,en.val,by simp [aae,abI,aa4,h1],⟨by simp [iG,hm],en,rfl,h2.symm,rfl⟩,by simp only [aa7]; exact ⟨hx,hv,h.2.2⟩⟩
  ·rename_i he;have h1:=(ks hj (kb he) hx h.1).1;split at hf
   ·rename_i r hr;cases hf;have hm:xB j.ek k k'=false:=by unfold xB; rw [he]
    rcases rF hj hw hx hv h.2.2 hr (i+1) with ⟨q1,q0,q2⟩|⟨n,c',q1,q2,q3⟩
    ·exact .inl ⟨by simp only [aae,abI,aa4,aag,h1,aaf]; exact q1,by simp [iG,hm,q0],fun b=>⟨h.1,h.2.1,q2 b⟩⟩
    ·refine .inr ⟨n+1,c',?_,?_,?_⟩
     ·simp only [aae,abI,aa4,aag,h1,aaf];rw [show i+(n+1)=i+1+n by omega];exact q1
     ·obtain ⟨e0,en',e1,e2⟩:=q2;exact ⟨by simp [iG,hm,e0],en',by simpa using e1,e2⟩
     ·rw [aa8];exact ⟨h.1,h.2.1,q3⟩
   ·cases hf
  ·cases hf
theorem kd {kt:TypeId} {d:TypeDesc} (hu:E.P.underlying kt=some d) (hd:(∃ fs,d=.struct fs)∨∃ n t,d=.array n t) (x:Value) (es:List MapEntry):(aac kt x es).run E.P w=(aae kt x es).run E.P w:=by
 cases es with
 |nil=>simp [aac,run_underlying hu,aah,aae]
 |cons e es=>rcases hd with ⟨fs,rfl⟩ | ⟨n,t,rfl⟩ <;> simp [aac,run_underlying hu,aah,aby]
theorem s8 {kt:TypeId} {j:TI} (hj:E.ti kt=some j) {d:TypeDesc} (hu:E.P.underlying kt=some d) (hd:DF j.ek d) {k:AV} {x:Value} (hx:Rel R w k x) {es:List (AV × AV)} {ax:List MapEntry} (hM:dB R w es ax) (hf:j6 j.ek k es=some none) :
  (aac kt x ax).run E.P w=.ok none w:=by
 have ye:((j.ek=.bool∧d=.bool)∨(j.ek=.int∧∃ k,d=.int k)∨(j.ek=.str∧d=.string))→(aac kt x ax).run E.P w=.ok none w:=fun hd=>by
  have:=yd hd hx hM hf 0;simp [aac,run_underlying hu,this]
 rcases hd with hd|hd|hd|⟨_,hd⟩
 ·exact ye (.inl hd)
 ·exact ye (.inr (.inl hd))
 ·exact ye (.inr (.inr hd))
 ·rw [kd hu hd];exact rZ hj hx hM hf 0
theorem s9 {kt:TypeId} {j:TI} (hj:E.ti kt=some j) {d:TypeDesc} (hu:E.P.underlying kt=some d) (hd:DF j.ek d) {k:AV} {x:Value} (hx:Rel R w k x) {es:List (AV × AV)} {ax:List MapEntry} {v:AV} (hM:dB R w es ax) (hf:j6 j.ek k es=some (some v)) :
  ∃ n c,(aac kt x ax).run E.P w=.ok (some (n,c)) w∧Rel R w v c:=by
 have ye:((j.ek=.bool∧d=.bool)∨(j.ek=.int∧∃ k,d=.int k)∨(j.ek=.str∧d=.string))→∃ n c,(aac kt x ax).run E.P w=.ok (some (n,c)) w∧Rel R w v c:=fun hd=>by
  obtain ⟨n,c,q1,q2⟩:=yd hd hx hM hf 0;exact ⟨n,c,by simp [aac,run_underlying hu,q1],q2⟩
 rcases hd with hd|hd|hd|⟨_,hd⟩
 ·exact ye (.inl hd)
 ·exact ye (.inr (.inl hd))
 ·exact ye (.inr (.inr hd))
 ·rw [kd hu hd];exact rZ hj hx hM hf 0
theorem r7 {kt:TypeId} {j:TI} (hj:E.ti kt=some j) {d:TypeDesc} (hu:E.P.underlying kt=some d) (hd:DF j.ek d) {k v:AV} {x c:Value} (hx:Rel R w k x) (hv:Rel R w v c) {es es':List (AV × AV)} {ax:List MapEntry} (hM:dB R w es ax) (hf:ui j.ek k v es=some es') :
  ((aac kt x ax).run E.P w=.ok none w∧iG j.ek k es=ax.length∧∀ b,dB R w es' (ax++[{ key:=x,val:=c,born:=b }])) ∨
   ∃ n c',(aac kt x ax).run E.P w=.ok (some (n,c')) w∧(n=iG j.ek k es∧∃ en,ax[n]?=some en∧en.key=x∧en.val=c')∧dB R w es' (ax.modify n fun e=>{ e with key:=x,val:=c }):=by
 have ye:((j.ek=.bool∧d=.bool)∨(j.ek=.int∧∃ k,d=.int k)∨(j.ek=.str∧d=.string))→((aac kt x ax).run E.P w=.ok none w∧iG j.ek k es=ax.length∧∀ b,dB R w es' (ax++[{ key:=x,val:=c,born:=b }])) ∨
   ∃ n c',(aac kt x ax).run E.P w=.ok (some (n,c')) w∧(n=iG j.ek k es∧∃ en,ax[n]?=some en∧en.key=x∧en.val=c')∧dB R w es' (ax.modify n fun e=>{ e with key:=x,val:=c }):=fun hd=>by
  rcases H0 hd hx hv hM hf 0 with ⟨q1,q2⟩|⟨n,c',q1,q2,q3⟩
  ·exact .inl ⟨by simp [aac,run_underlying hu,q1],q2⟩
  ·rw [aa2] at q1;exact .inr ⟨n,c',by simp [aac,run_underlying hu,q1],q2,q3⟩
 rcases hd with hd|hd|hd|⟨hw,hd⟩
 ·exact ye (.inl hd)
 ·exact ye (.inr (.inl hd))
 ·exact ye (.inr (.inr hd))
 ·rcases rF hj hw hx hv hM hf 0 with ⟨q1,q2⟩|⟨n,c',q1,q2,q3⟩
  ·exact .inl ⟨by rw [kd hu hd]; exact q1,q2⟩
  ·rw [aa2] at q1;exact .inr ⟨n,c',by rw [kd hu hd]; exact q1,q2,q3⟩
theorem mw {kt:TypeId} {d:TypeDesc} (hu:E.P.underlying kt=some d) (hd:d=.bool∨(∃ k,d=.int k)∨d=.string) (b:Bool) (x:Value) (n:Nat):(aad b (n+1) kt x).run E.P w=.ok () w:=by
 rcases hd with rfl|⟨k,rfl⟩|rfl <;> simp [aad,run_underlying hu]
theorem run_checkKey {kt:TypeId} {j:TI} (hj:E.ti kt=some j) {d:TypeDesc} (hu:E.P.underlying kt=some d) (hd:DF j.ek d) {k:AV} (hk:jn j.ek k=true) {x:Value} (hx:Rel R w k x) (b:Bool):(aad b 10000 kt x).run E.P w=.ok () w:=by
 rcases hd with ⟨_,rfl⟩|⟨_,n,rfl⟩|⟨_,rfl⟩|⟨hw,_⟩
 ·exact mw hu (.inl rfl) b x 9999
 ·exact mw hu (.inr (.inl ⟨n,rfl⟩)) b x 9999
 ·exact mw hu (.inr (.inr rfl)) b x 9999
 ·have A4:=Ls hj;obtain ⟨fs,Z0⟩:∃ fs,j.ek=.st fs:=by
   cases he:j.ek with
   |st fs=>exact ⟨fs,rfl⟩
   |_=>rw [he] at hw; cases hw
  rw [Z0] at hk;unfold jn at hk;split at hk
  all_goals (try contradiction)
  rename_i Vp cs h1;cases h1;rw [aab] at hk;obtain ⟨r,hr⟩:=abN.1 hk.2;have he:lA (rk E.P 6 kt) (.agg cs) (.agg cs)=some r:=by
   rw [Z0] at A4;have:rk E.P 6 kt=.st fs:=by
    unfold vp at A4;split at A4
    ·rename_i l hl;split at A4
     ·cases A4
     ·rw [hl,A4]
    ·rename_i k iJ;exact absurd A4.symm (iJ fs)
   rw [this];unfold lA;exact hr
  exact nY b 6 10000 (by omega) kt (.agg cs) r x he hx
theorem Jp (h:bt E R w β s a) {m:SV} {es:List (AV × AV)} {x:Value} (hm:mapOf s m=some es) (hx:rm R w β m x) :
  ∃ ax,dB R w es ax∧((x=.map none∧ax=[])∨∃ b es' clock,x=.map (some b)∧w.heap[b]?=some (.map es' clock)∧es'.toList=ax):=by
 unfold mapOf at hm;split at hm
 ·cases hm;have oW:Rel R w .ky x:=hx;cases oW;exact ⟨[],trivial,.inl ⟨rfl,rfl⟩⟩
 ·rename_i id;have oW:Rel R w (.map id) x:=hx;cases oW with
  |map hb=>
  split at hm
  ·rename_i es' hg;cases hm;obtain ⟨ax,clock,q1,q2,_⟩:=h.g.obj id _ _ hg hb;exact ⟨ax.toList,q2,.inr ⟨_,ax,clock,rfl,q1,rfl⟩⟩
  ·cases hm
 ·cases hm
theorem DH {t:TypeId} {z:AV} {i:TypeInfo} (h1:E.P.info? t=some i) (h2:gb i=some z):∃ c,(zeroValue t).run E.P w=.ok c w∧Rel R w z c:=by
 obtain ⟨c,hc,hr⟩:=dp h2;exact ⟨c,by simp [zeroValue,typeInfo,run_program,h1,hc],hr R w⟩
theorem tc (h:bt E R w β s a) (t:TypeId) (x y:Operand) (ok:Bool) (ho:o.op=.lookup t x y ok) {v:AV} {b:Bool} (hv:mK E s t (bP E s.ae x) (bP E s.ae y)=some (v,b)) :
  cu E R w β s a o (s.put o.dst (.v (if ok then .bq [v,.bool b] else v))):=by
 have rx:=aW h x;have ry:=aW h y;unfold mK at hv;split at hv
 ·rename_i i es k hi hm hk;rw [hk] at ry;have rC:Rel R w k (a.eval y):=ry;obtain ⟨ax,hM,fu⟩:=Jp h hm rx;obtain ⟨ia,u,e1,e2,e3,e4,e5,e6⟩:=cD E hi;split at hv
  ·rename_i kt et z KL;split at hv
   ·rename_i j hj;split at hv
    ·rename_i hc;rw [aab] at hc;rw [KL] at e5;obtain ⟨rfl,ie,g1,g2⟩:=mQ e5;have A4:=Ls hj;have YS:=hc.1;rw [A4] at YS;obtain ⟨d,hu,hd⟩:∃ d,E.P.underlying kt=some d∧DF j.ek d:=by
      rw [A4];exact vB YS
     have Pk:∀ b,(aad b 10000 kt (a.eval y)).run E.P w=.ok () w:=fun b=>run_checkKey hj hu hd hc.2 rC b
     have fin:∀ r,j6 j.ek k es=some r→r.getD z=v→r.isSome=b→cu E R w β s a o (s.put o.dst (.v (if ok then .bq [v,.bool b] else v))):=fun r hr q1 q2=>by
      subst q1 q2;have rel:∀ c,Rel R w (r.getD z) c→Rel R w (if ok then .bq [r.getD z,.bool r.isSome] else r.getD z) (if ok then .tuple #[c,.bool r.isSome] else c):=fun c k2=>by
       cases ok
       ·exact k2
       ·exact Rel.bq (vs:=[c,.bool r.isSome]) (.cons k2 (.cons (.bool _) .nil))
      cases r with
      |none=>
       obtain ⟨c,k1,k2⟩:=DH (R:=R) (w:=w) g1 g2;have Fy:(aac kt (a.eval y) ax).run E.P w=.ok none w:=s8 hj hu hd rC hM hr;refine ao h (c:=if ok then .tuple #[c,.bool false] else c) ?_ (rel c k2);rcases fu with ⟨hx,rfl⟩|⟨b,es',clock,hx,hb,rfl⟩
       ·simp [execOp,ho,abS,hx,run_underlying e2,Pk,Fy,k1]
       ·simp [execOp,ho,abS,hx,run_underlying e2,getObj,aa0,hb,Pk,Fy,k1]
      |some v=>
       obtain ⟨j',c,q1,q2⟩:=s9 hj hu hd rC hM hr;have Fy:(aac kt (a.eval y) ax).run E.P w=.ok (some (j',c)) w:=q1;refine ao h (c:=if ok then .tuple #[c,.bool true] else c) ?_ (rel c q2);rcases fu with ⟨hx,rfl⟩|⟨b,es',clock,hx,hb,rfl⟩
       ·simp [execOp,ho,abS,hx,run_underlying e2,Pk,Fy]
       ·simp [execOp,ho,abS,hx,run_underlying e2,getObj,aa0,hb,Pk,Fy]
     split at hv
     ·rename_i v' hr; cases hv; exact fin _ hr rfl rfl
     ·rename_i hr; cases hv; exact fin _ hr rfl rfl
     ·cases hv
    ·cases hv
   ·cases hv
  ·cases hv
 ·cases hv
theorem Ba {R':ak} {w':World} (h:bt E R w β s a) (t:TypeId) (z:AV) (e:Ext R w R' w') {c:Value} (hc:Rel R' w' z c):Rel R' w' (Dp E s.G t z) c:=by
 unfold Dp;split
 ·rename_i e1 sz p bV lN;split
  ·rename_i fid ad4;obtain ⟨fs,Lh,_⟩:=xX ad4;rw [Nat.sub_zero] at Lh;have cm:=ca Lh;rw [← h.g.len] at cm;obtain ⟨ro,b9⟩:∃ ro,nth R.obj fid=some ro:=⟨R.obj[fid],by rw [bi]; exact aai cm⟩;have cX:=h.g.obj fid _ _ Lh b9;have hn:xC ro:=by
    cases ro with
    |none=>exact cX.elim
    |bU=>exact cX.elim
    |ck _=>exact cX.elim
    |tok _ _ _=>exact cX.elim
    |bK ts=>trivial
   obtain ⟨mO,q1,q2⟩:=e.obj fid _ b9;cases hc with
   |kC=>exact .nR q1 (hn.mono q2)
   |list _ _ _ hk=>exact hk.elim
  ·exact hc
 ·exact hc
theorem DI (h:bt E R w β s a) (t:TypeId) (x y:Operand) (ok:Bool) (ho:o.op=.lookup t x y ok) {v:AV} {b:Bool} (hv:lK E s t (bP E s.ae x) (bP E s.ae y)=some (v,b)) :
  cu E R w β s a o (s.put o.dst (.v (if ok then .bq [v,.bool b] else v))):=by
 unfold lK at hv;split at hv
 ·rename_i v0 h0;cases hv;refine cu.Lo (tc h t x y ok ho h0) (fun R' w' ex c hc=>?_);cases ok with
  |false=>exact Ba h t _ ex hc
  |true=>
   have hc:Rel R' w' (.bq [v0,.bool false]) c:=hc;cases hc with
   |bq h1=>
   cases h1 with
   |cons h1 h2=>exact Rel.bq (.cons (Ba h t _ ex h1) h2)
 ·exact tc h t x y ok ho hv
theorem H3 {kt:TypeId} {j:TI} (hj:E.ti kt=some j) (hp:j.ek.plain=true):∃ d,E.P.underlying kt=some d∧DF j.ek d:=by
 have A4:=Ls hj;rw [A4] at hp ⊢;exact vB hp
theorem Jq (x:ByteArray):(x == x)=true:=by rw [beq_toListBytes]; simp
theorem gW {k:AV} {x:Value} (hp:gf k=true) (hx:Rel R w k x) (n:Nat):aap n x x=true:=by
 unfold gf at hp;split at hp
 ·cases hx; cases n <;> simp [aap]
 ·cases hx; cases n <;> simp [aap]
 ·cases hx; cases n <;> (simp only [aap]; exact Jq _)
 ·cases hp
theorem td (n:Nat):∀ {cs:List AV} {vs:List Value},cs.all gf=true→aN R w cs vs→((vs.zip vs).all fun (x,y)=>aap n x y)=true
 |[],_,_,.nil=>rfl
 |a :: cs,_,h,.cons h1 h2=>by
  rw [List.all_cons,aab] at h;simp only [List.zip_cons_cons,List.all_cons,gW h.1 h1 n,td n h.2 h2,Bool.and_self]
theorem Ch (n:Nat) {vs:Array Value} (h:((vs.toList.zip vs.toList).all fun (x,y)=>aap n x y)=true):aap (n+1) (.agg vs) (.agg vs)=true:=by
 simp only [aap,beq_self_eq_true,Bool.true_and];exact h
theorem pA {e:EK} {k:AV} {x:Value} (hp:jn e k=true) (hx:Rel R w k x):aap 10000 x x=true:=by
 unfold jn at hp;split at hp
 ·exact gW rfl hx _
 ·exact gW rfl hx _
 ·exact gW rfl hx _
 ·rw [aab] at hp;cases hx with
  |agg hx _=>
  exact Ch 9999 (td 9999 hp.1 hx)
 ·cases hp
theorem jU.push {ax:Array MapEntry} {clock:Nat} (h:jU ax clock) (x c:Value):jU (ax.push { key:=x,val:=c,born:=clock }) (clock+1):=by
 obtain ⟨rfl,h2⟩:=h;refine ⟨by simp,fun i e he=>?_⟩;rw [abD] at he;rcases Nat.lt_or_ge i ax.toList.length with cm|lM
 ·rw [List.getElem?_append_left cm] at he;exact h2 i e he
 ·rw [List.getElem?_append_right lM] at he;have hl:=(List.getElem?_eq_some_iff.1 he).1;have hl:i - ax.toList.length < 1:=hl;have h0:i - ax.toList.length=0:=by omega
  rw [h0] at he;simp only [abT,acW] at he;subst he;have hs:ax.toList.length=ax.size:=aao;show ax.size=i;omega
theorem jU.modify {ax:Array MapEntry} {clock:Nat} (h:jU ax clock) (n:Nat) (x c:Value):jU (ax.modify n fun e=>{ e with key:=x,val:=c }) clock:=by
 obtain ⟨rfl,h2⟩:=h;refine ⟨by simp,fun i e he=>?_⟩;rw [aaZ,aa1] at he;cases hi:ax.toList[i]? with
 |none=>rw [hi] at he; cases he
 |some e'=>
  rw [hi] at he;have h3:=h2 i e' hi;have he:(if n=i then { key:=x,val:=c,born:=e'.born } else e':MapEntry)=e:=abV he;by_cases hn:n=i
  ·rw [if_pos hn] at he;subst he; exact h3
  ·rw [if_neg hn] at he;subst he; exact h3
theorem pC (h:bt E R w β s a) (t:TypeId) (x y z:Operand) (ho:o.op=.mapUpdate t x y z∨o.op=.insert t x y z) (hd:o.dst=none) {s':St} (hv:fc E s t (bP E s.ae x) (bP E s.ae y) (bP E s.ae z)=some s') :
  cu E R w β s a o s':=by
 have rx:=aW h x;have ry:=aW h y;have rz:=aW h z;unfold fc at hv;split at hv
 ·rename_i i id k v hi hm hk hz;rw [hm] at rx;rw [hk] at ry;rw [hz] at rz;have dN:Rel R w (.map id) (a.eval x):=rx;have rC:Rel R w k (a.eval y):=ry;have rz':Rel R w v (a.eval z):=rz;split at hv
  ·rename_i kt et ez es KL hg;split at hv
   ·rename_i j hj;split at hv
    ·rename_i hc;rw [aab] at hc;split at hv
     ·rename_i es' FM;cases hv;obtain ⟨ia,u,e1,e2,e3,e4,e5,e6⟩:=cD E hi;rw [KL] at e5;obtain ⟨rfl,ie,g1,g2⟩:=mQ e5;obtain ⟨d,hu,hD⟩:=H3 hj hc.1;generalize fu:a.eval x=xv at dN;cases dN with
      | @map _ b hb=>
      obtain ⟨ax,clock,q1,q2,q3⟩:=h.g.obj id _ _ hg hb;have cm:=bl q1;have Pk:(aad false 10000 kt (a.eval y)).run E.P w=.ok () w:=run_checkKey hj hu hD hc.2 rC _;have ka:(getObj b).run E.P w=.ok (.map ax clock) w:=by simp [getObj,aa0,q1]
      have xY:∀ o',(setObj b o').run E.P w=.ok () (World.put w b o'):=fun o'=>by
       simp [setObj,aa0,World.put,q1]
      have fin:∀ kF jg,dB R w es' kF.toList→jU kF jg→(execOp a.eval o).run E.P w=.ok .skip (World.put w b (.map kF jg)) →
        cu E R w β s a o (s.cH (aI s.G id (.map es'))):=fun kF jg k1 k2 k3=>by
       have hex:=nX (R:=R) (x':=.map kF jg) q1 trivial trivial (fun _ e=>by cases e);obtain ⟨p1,p2⟩:=h.setObj (x':=.map kF jg) (go':=.map es') hb q1 trivial trivial (fun _ e=>by cases e) ⟨kF,jg,gL w b _ cm,k1.mono hex,k2⟩;refine ⟨.skip,undef,_,R,β,k3,.inr ⟨rfl,rfl⟩,?_,p2⟩;rw [hd];exact p1
      rcases r7 hj hu hD rC rz' q2 FM with ⟨k1,_,k2⟩|⟨n,c',k1,⟨_,en,k2,k3,_⟩,k4⟩
      ·have Fy:(aac kt (a.eval y) ax.toList).run E.P w=.ok none w:=k1;refine fin (ax.push { key:=a.eval y,val:=a.eval z,born:=clock }) (clock+1) (by rw [abD]; exact k2 clock) (q3.push _ _) ?_
       ·rcases ho with ho|ho <;> simp [execOp,ho,Instr.mapUpdate,fu,run_underlying e2,ka,Pk,Fy,xY]
      ·have Fy:(aac kt (a.eval y) ax.toList).run E.P w=.ok (some (n,c')) w:=k1;have hen:ax[n]?=some en:=by rw [← abW]; exact k2
       have xT:(aa3 (a.eval y) (a.eval y)).run E.P w=.ok (a.eval y) w:=by simp [aa3,pA hc.2 rC]
       refine fin (ax.modify n fun e=>{ e with key:=a.eval y,val:=a.eval z }) clock (by rw [aaZ]; exact k4) (q3.modify n _ _) ?_
       ·rcases ho with ho|ho <;> simp [execOp,ho,Instr.mapUpdate,fu,run_underlying e2,ka,Pk,Fy,hen,k3,xT,xY]
     ·cases hv
    ·cases hv
   ·cases hv
  ·cases hv
 ·cases hv
theorem F7 (h:bt E R w β s a) (t:TypeId) (x:Operand) (ho:o.op=.range t x) {i:TI} {l:List UInt8} (hi:E.ti t=some i) (hk:i.k=.str) (hx:bP E s.ae x=.v (.str l)) :
  cu E R w β s a o ((s.dU (.gy l 0)).put o.dst (.v (.ptr s.G.length 0))):=by
 have rx:=aW h x;rw [hx] at rx;have dN:Rel R w (.str l) (a.eval x):=rx;obtain ⟨ia,u,e1,e2,e3,e4,e5,e6⟩:=cD E hi;rw [hk] at e5;have hu:=kD e5;subst hu;have iH:gI (R.add (.ck w.heap.size)) (w.alloc (.stringIter ⟨⟨l⟩⟩ 0)) (.gy l 0) (.ck w.heap.size):=heap_alloc_new w _;refine ⟨_,.pointer (some ⟨w.heap.size,0,none⟩),w.alloc (.stringIter ⟨⟨l⟩⟩ 0),R.add (.ck w.heap.size),β,?_,.inl rfl,(h.mr (.stringIter ⟨⟨l⟩⟩ 0) (.gy l 0) (.ck w.heap.size) (by exact fun _ h=>h) iH).put o.dst (x:=.v (.ptr s.G.length 0)) (Rel.ptr (gl h _)),by rw [bc]; exact c9 h _ _ (by exact fun _ h=>h)⟩;generalize fu:a.eval x=xv at dN;cases dN;simp only [execOp,ho,fu,Instr.range,aag,run_underlying e2,run_newObj,aaf,aaF];rfl
theorem F8 (l:List UInt8) (pos:Nat) (h:pos < l.length):bz l pos=Utf8.decode ⟨⟨l⟩⟩ pos:=by
 unfold bz;cases hb:Nat.blt (l.getD pos 0).toNat 128 with
 |false=>rfl
 |true=>
  have cm:(l.getD pos 0).toNat < 128:=abx hb;have e:(ac5 ⟨⟨l⟩⟩ (pos+0))=l.getD pos 0:=by
   simp [ac5,h,List.getD_eq_getElem?_getD]
  simp only [cond_true,Utf8.decode,e];rw [if_pos (show (l.getD pos 0).toNat < 0x80 from cm)]
theorem Jr (h:bt E R w β s a) (x:Operand) (ho:o.op=.next x true) {s':St} (hv:lL s o.dst (bP E s.ae x)=some s'):cu E R w β s a o s':=by
 have rx:=aW h x;unfold lL at hv;split at hv
 ·rename_i id hx;rw [hx] at rx;have dN:Rel R w (.ptr id 0) (a.eval x):=rx;generalize fu:a.eval x=xv at dN;cases dN with
  | @ptr _ _ b hb=>
  split at hv
  ·rename_i l pos hg;have q1:w.heap[b]?=some (.stringIter ⟨⟨l⟩⟩ pos):=h.g.obj id _ _ hg hb;have cm:=bl q1;have ka:(getObj b).run E.P w=.ok (.stringIter ⟨⟨l⟩⟩ pos) w:=by simp [getObj,aa0,q1]
   have xY:∀ o',(setObj b o').run E.P w=.ok () (World.put w b o'):=fun o'=>by
    simp [setObj,aa0,World.put,q1]
   cases gJ:Nat.blt pos l.length with
   |true=>
    rw [gJ] at hv;have hp:pos < l.length:=abx gJ;simp only [cond_true] at hv;generalize wv:bz l pos=p at hv;obtain ⟨c,n⟩:=p;cases hv;rw [F8 l pos hp] at wv;obtain ⟨p1,p2⟩:=h.setObj (x':=.stringIter ⟨⟨l⟩⟩ (pos+n)) (go':=.gy l (pos+n)) hb q1 trivial trivial (fun _ e=>by cases e) (gL w b _ cm);have e7:pos < (⟨⟨l⟩⟩:ByteArray).size:=hp;refine ⟨.value (.tuple #[.bool true,.int .i64 pos,.int .i32 c]),_,_,R,β,?_,.inl rfl,p1.put o.dst (x:=.v (.bq [.bool true,.int .i64 pos,.int .i32 c])) (Rel.bq (vs:=[.bool true,.int .i64 pos,.int .i32 c]) (.cons (.bool _) (.cons (.int _ _) (.cons (.int _ _) .nil)))),by rw [bc]; exact p2⟩;simp [execOp,ho,fu,Instr.next,ka,e7,wv,xY,goInt]
   |false=>
    rw [gJ] at hv;simp only [cond_false] at hv;cases hv;have hp:¬ pos < l.length:=fun hh=>by
     have:Nat.blt pos l.length=true:=Nat.ble_eq_true_of_le hh;rw [gJ] at this; cases this
    have e7:¬ pos < (⟨⟨l⟩⟩:ByteArray).size:=hp;refine ao h (c:=.tuple #[.bool false]) ?_ (Rel.bq (vs:=[.bool false]) (.cons (.bool _) .nil));simp [execOp,ho,fu,Instr.next,ka,e7]
  ·cases hv
 ·cases hv
theorem dB.get:∀ {es:List (AV × AV)} {ax:List MapEntry} {i:Nat} {e:MapEntry},dB R w es ax→ax[i]?=some e→Rel R w (ee es i).1 e.key∧Rel R w (ee es i).2 e.val
 |[],[],i,e,_,he=>by simp at he
 |(k,v) :: _,en :: _,0,e,h,he=>by
  simp only [abT,acW] at he;subst he;exact ⟨h.1,h.2.1⟩
 |(_,_) :: es,_ :: ax,i+1,e,h,he=>by
  simp only [abU] at he;exact dB.get (es:=es) h.2.2 he
 |[],_ :: _,_,_,h,_=>h.elim
 |_ :: _,[],_,_,h,_=>h.elim
theorem Ga (E:Env) (t:TypeId) (e:AV × AV):sR E t e=(true,e.1,e.2)∨∃ pv pk:aP,sR E t e=(pk.fits e.1&&pv.fits e.2,pk.enc (pk.bJ e.1),pv.enc (pv.bJ e.2)):=by
 unfold sR;split
 ·split
  ·split
   ·rename_i pv pk _ _;exact .inr ⟨pv,pk,rfl⟩
   ·exact .inl rfl
  ·exact .inl rfl
 ·exact .inl rfl
theorem DJ {t:TypeId} {e:AV × AV} {x y:Value} (hf:(sR E t e).1=true) (h:Rel R w e.1 x∧Rel R w e.2 y):Rel R w (sR E t e).2.1 x∧Rel R w (sR E t e).2.2 y:=by
 rcases Ga E t e with he|⟨pv,pk,he⟩
 ·rw [he]; exact h
 ·rw [he] at hf ⊢;simp only [aab] at hf;exact ⟨(pk.dh hf.1).hY _ _ _ h.1,(pv.dh hf.2).hY _ _ _ h.2⟩
theorem DK (h:bt E R w β s a) (t:TypeId) (x:Operand) (ho:o.op=.range t x) {i:TI} {kt et:TypeId} {ez:Option AV} {id:Nat} {es:List (AV × AV)} (hi:E.ti t=some i) (hk:i.k=.map kt et ez) (hx:bP E s.ae x=.v (.map id)) (hg:nth s.G id=some (.map es)) :
  cu E R w β s a o ((s.dU (.oQ id es.length (List.range es.length) none t)).put o.dst (.v (.ptr s.G.length 0))):=by
 have rx:=aW h x;rw [hx] at rx;have dN:Rel R w (.map id) (a.eval x):=rx;obtain ⟨ia,u,e1,e2,e3,e4,e5,e6⟩:=cD E hi;rw [hk] at e5;obtain ⟨rfl,ie,g1,g2⟩:=mQ e5;generalize fu:a.eval x=xv at dN;cases dN with
 | @map _ b hb=>
 obtain ⟨ax,clock,q1,q2,q3,q4⟩:=h.g.obj id _ _ hg hb;have hlen:=q2.length;have cm:=bl q1;subst q3;have iH:gI (R.add (.ck w.heap.size)) (w.alloc (.mapIter (some b) ax.size #[] ax.size)) (.oQ id es.length (List.range es.length) none t) (.ck w.heap.size):=by
  refine ⟨b,#[],ax.size,dv hb,?_,fun j hj=>?_,fun j hj=>List.mem_range.1 hj,List.nodup_range,?_,fun i hi=>by cases hi⟩
  ·rw [hlen,aao]; exact heap_alloc_new w _
  ·simp [List.mem_range,hj]
  ·rw [hlen,aao]; exact Nat.le_refl _
 refine ⟨_,.pointer (some ⟨w.heap.size,0,none⟩),w.alloc (.mapIter (some b) ax.size #[] ax.size),R.add (.ck w.heap.size),β,?_,.inl rfl,(h.mr _ _ (.ck w.heap.size) (by exact fun _ h=>h) iH).put o.dst (x:=.v (.ptr s.G.length 0)) (Rel.ptr (gl h _)),by rw [bc]; exact c9 h _ _ (by exact fun _ h=>h)⟩;have ka:(getObj b).run E.P w=.ok (.map ax ax.size) w:=by simp [getObj,aa0,q1]
 simp only [execOp,ho,fu,Instr.range,aag,run_underlying e2,ka,run_newObj,aaf,aaF];rfl
theorem mem_erase_iff {l:List Nat} (hn:l.Nodup) (i j:Nat):j∈l.erase i↔j≠i∧j∈l:=hn.mem_erase_iff
theorem bt.drew (h:bt E R w β s a):bt E R w.drew β s a∧Step R w β s.boxes R w.drew β s.boxes:=by
 have e:Ext R w R w.drew:=⟨fun _ _ h=>h,fun _ _ _=>rfl,fun _ ro h=>⟨ro,h,cJ.refl ro⟩,gC.refl w⟩;exact ⟨h.aY e rfl (fun _ _=>rfl) (fun _ _ _ hi=>hi) h.g.wf (fun hd=>Nat.le_succ_of_le hd),⟨e,rfl,rfl,rfl,Nat.le_refl _,fun _ _ _=>rfl,fun _ _ ho=>ho,fun _ _ hi _ _=>hi⟩⟩
theorem Gb (h:bt E R w β s a) (x:Operand) (ho:o.op=.next x false) {s0:St} {left:List Nat} {g:Nat→Bool × St} (hv:AX E s o.dst (bP E s.ae x)=some (true,s0,left,g)) :
  (left=[]∧cu E R w β s a o s0)∨∃ i∈left,(g i).1=true→cu E R w β s a o (g i).2:=by
 have rx:=aW h x;unfold AX at hv;split at hv
 ·rename_i id hx;rw [hx] at rx;have dN:Rel R w (.ptr id 0) (a.eval x):=rx;generalize fu:a.eval x=xv at dN;cases dN with
  | @ptr _ _ r hr=>
  split at hv
  ·rename_i rT n Bb ZP tt hg;split at hv
   ·rename_i es hm;injection hv with hv; injection hv with h1 hv; injection hv with h2 hv; injection hv with h3 h4;subst h2; subst h3; subst h4;have hn:=of_decide_eq_true h1;obtain ⟨b,seen,c0,m1,m2,m3,m4,m5,m6,_⟩:=h.g.obj id _ _ hg hr;obtain ⟨ax,clock,q1,q2,q3,q4⟩:=h.g.obj rT _ _ hm m1;subst q3;have hlen:=q2.length;have ad7:ax.toList.length=ax.size:=aao;have e7:ax.size=n:=by omega
    have hold:∀ y∈ax.toList,y.born < n:=fun y hy=>by
     obtain ⟨i,hi,hiy⟩:=ace hy;have:=q4 i y (by rw [aai hi,hiy]);omega
    rcases run_next_at (P:=E.P) w o.type r b n c0 seen ax ax.size m2 q1 hold m6 with ⟨k1,k2⟩|⟨en,k1,w1,k2,k3⟩
    ·refine .inl ⟨?_,?_⟩
     ·apply List.eq_nil_iff_forall_not_mem.2;intro i hi;have FY:=m4 i hi;have hs:=(m3 i FY).1 hi;have Lu:i < ax.toList.length:=by omega
      have ka:ax.toList[i]?=some ax.toList[i]:=aai Lu;have hb:=q4 i _ ka;have rr:ax.toList[i]∈(leftOf ax seen).toList:=by
       unfold leftOf;rw [acw,List.mem_filter];exact ⟨List.getElem_mem _,by rw [hb,hs]; rfl⟩
      have h0:(leftOf ax seen).toList=[]:=List.eq_nil_of_length_eq_zero (by rw [aao]; exact k1);rw [h0] at rr;simp at rr
     ·refine ao h (c:=.tuple #[.bool false]) ?_ (Rel.bq (vs:=[.bool false]) (.cons (.bool _) .nil));simp [execOp,ho,fu,k2]
    ·have rr:en∈ax.toList∧seen.contains en.born=false:=by
      unfold leftOf at k1;rw [acw,List.mem_filter] at k1;exact ⟨k1.1,by simpa using k1.2⟩
     obtain ⟨i,hi,hie⟩:=ace rr.1;have ka:ax.toList[i]?=some en:=by rw [aai hi,hie]
     have hb:=q4 i en ka;have FY:i < n:=by omega
     have Lu:i∈Bb:=(m3 i FY).2 (by rw [← hb]; exact rr.2);refine .inr ⟨i,Lu,fun wB=>?_⟩
     -- the world, perhaps one draw on
     have hw1:bt E R w1 β s a∧Step R w β s.boxes R w1 β s.boxes:=by
      rcases k2 with rfl|rfl
      ·exact ⟨h,Step.refl _ _ _ _⟩
      ·exact h.drew
     obtain ⟨cX,jz⟩:=hw1;have yf:w1.heap[r]?=some (.mapIter (some b) n seen c0):=by rcases k2 with rfl | rfl <;> exact m2
     have cm:=bl yf;have Z1:(setBlock w1 r (.mapIter (some b) n (seen.push en.born) ax.size))=World.put w1 r (.mapIter (some b) n (seen.push en.born) ax.size):=rfl;have hex:=nX (R:=R) (x':=.mapIter (some b) n (seen.push en.born) ax.size) yf trivial trivial (fun _ e=>by cases e);obtain ⟨p1,p2⟩:=cX.setObj (x':=.mapIter (some b) n (seen.push en.born) ax.size) (go':=.oQ rT n (Bb.erase i) (some i) tt) hr yf trivial trivial (fun _ e=>by cases e)
      ⟨b,seen.push en.born,ax.size,m1,gL w1 r _ cm,fun j hj=>by
       rw [mem_erase_iff m5,Array.contains_push,m3 j hj,hb];by_cases e:j=i
       ·subst e; simp
       ·have e':¬ i=j:=fun h=>e h.symm
        simp [e,e'],fun j hj=>m4 j (List.mem_of_mem_erase hj),m5.erase i,by omega,fun j hj=>by
       cases hj;exact ⟨by rw [hb]; simp,e7⟩⟩
     obtain ⟨z1,z2⟩:=DJ wB (q2.get ka);have Z2:=jz.ext.trans p2.ext;refine ⟨.value (.tuple #[.bool true,en.key,en.val]),_,_,R,β,?_,.inl rfl,p1.put o.dst (x:=.v (.bq [.bool true,(sR E tt (ee es i)).2.1,(sR E tt (ee es i)).2.2])) (Rel.bq (vs:=[.bool true,en.key,en.val]) (.cons (.bool _) (.cons (z1.mono Z2) (.cons (z2.mono Z2) .nil)))),by rw [bc]; exact jz.trans p2⟩;simp [execOp,ho,fu,k3,Z1]
   ·cases hv
  ·cases hv
 ·cases hv
theorem yg:∀ (l:List MapEntry) (off i:Nat),(∀ (k:Nat) (e:MapEntry),l[k]?=some e→e.born=off+k)→i < l.length→l.find? (fun e=>e.born == off+i)=l[i]?
 |[],_,_,_,h=>by simp at h
 |e :: l,off,0,hs,_=>by
  have:=hs 0 e rfl;simp [this]
 |e :: l,off,i+1,hs,h=>by
  have h0:=hs 0 e rfl;have cS:(e.born == off+(i+1))=false:=by simp; omega
  rw [List.find?_cons_of_neg (by simp [cS]),abU];have:=yg l (off+1) i (fun k e' hk=>by have:=hs (k+1) e' (by simpa using hk); omega) (by simpa using h);rw [show off+(i+1)=off+1+i by omega];exact this
theorem rG:∀ (l:List MapEntry) (off i:Nat),(∀ (k:Nat) (e:MapEntry),l[k]?=some e→e.born=off+k)→i < l.length→l.findIdx? (fun e=>(e.born:Int) == ((off+i:Nat):Int))=some i
 |[],_,_,_,h=>by simp at h
 |e :: l,off,0,hs,_=>by
  have:=hs 0 e rfl;simp [List.findIdx?_cons,this]
 |e :: l,off,i+1,hs,h=>by
  have h0:=hs 0 e rfl;have cS:((e.born:Int) == ((off+(i+1):Nat):Int))=false:=by simp; omega
  have:=rG l (off+1) i (fun k e' hk=>by have:=hs (k+1) e' (by simpa using hk); omega) (by simpa using h);rw [show off+1+i=off+(i+1) by omega] at this;rw [List.findIdx?_cons,cS,this];rfl
theorem jU.aY {ax:Array MapEntry} {clock:Nat} (h:jU ax clock) (n:Nat) {f:MapEntry→MapEntry} (hf:∀ e,(f e).born=e.born):jU (ax.modify n f) clock:=by
 obtain ⟨rfl,h2⟩:=h;refine ⟨by simp,fun i e he=>?_⟩;rw [aaZ,aa1] at he;cases hi:ax.toList[i]? with
 |none=>rw [hi] at he; cases he
 |some e'=>
  rw [hi] at he;have h3:=h2 i e' hi;have he:(if n=i then f e' else e')=e:=abV he;by_cases hn:n=i
  ·rw [if_pos hn] at he;subst he; rw [hf]; exact h3
  ·rw [if_neg hn] at he;subst he; exact h3
theorem dB.jT {v:AV} {c:Value} (hv:Rel R w v c):∀ {es:List (AV × AV)} {ax:List MapEntry} (n:Nat),dB R w es ax→dB R w (jT es n v) (ax.modify n fun e=>{ e with val:=c })
 |[],[],n,_=>by cases n <;> trivial
 |[],_ :: _,_,h=>h.elim
 |_ :: _,[],_,h=>h.elim
 |(_,_) :: _,_ :: _,0,h=>by
  rw [aa7];exact ⟨h.1,hv,h.2.2⟩
 |(_,_) :: _,_ :: _,n+1,h=>by
  rw [aa8];exact ⟨h.1,h.2.1,dB.jT hv n h.2.2⟩
theorem Up {e:EK} {k k':AV} (h:(Fs e k k').isSome=true):Fs e k k'=some (xB e k k'):=by
 obtain ⟨b,hb⟩:=abN.1 h;simp only [xB,hb]
theorem DL {e:EK} {k:AV}:∀ {es:List (AV × AV)},gz e k es=true→j6 e k es=some (kB e k es)
 |[],_=>rfl
 |(k',v) :: es,h=>by
  simp only [gz,aab] at h;simp only [j6,kB,Up h.1];cases hb:xB e k k' with
  |true=>rfl
  |false=>simp only [cond_false]; exact DL h.2
theorem H4 {e:EK} {k v:AV}:∀ {es:List (AV × AV)},gz e k es=true→ui e k v es=some (gH e k v es)
 |[],_=>rfl
 |(k',v') :: es,h=>by
  simp only [gz,aab] at h;simp only [ui,gH,Up h.1];cases hb:xB e k k' with
  |true=>rfl
  |false=>simp only [cond_false,H4 h.2]
theorem Gc (h:bt E R w β s a) (x:Operand) (ho:o.op=.entry x) {v:AV} (hv:uk E s (bP E s.ae x)=some (true,v)):cu E R w β s a o (s.put o.dst (.v v)):=by
 have rx:=aW h x;unfold uk at hv;split at hv
 ·rename_i id hx;rw [hx] at rx;have dN:Rel R w (.ptr id 0) (a.eval x):=rx;generalize fu:a.eval x=xv at dN;cases dN with
  | @ptr _ _ r hr=>
  split at hv
  ·rename_i rT n Bb i tt hg;split at hv
   ·rename_i es hm;injection hv with hv; injection hv with h1 h2;subst h2;rw [aab,aab,decide_eq_true_eq,decide_eq_true_eq] at h1;obtain ⟨⟨hn,hi⟩,wB⟩:=h1;obtain ⟨b,seen,c0,m1,m2,m3,m4,m5,m6,m7⟩:=h.g.obj id _ _ hg hr;obtain ⟨z1,z2⟩:=m7 i rfl;obtain ⟨ax,clock,q1,q2,q3,q4⟩:=h.g.obj rT _ _ hm m1;subst q3;have hlen:=q2.length;have ad7:ax.toList.length=ax.size:=aao;have Lu:i < ax.toList.length:=by omega
    have hfd:ax.find? (fun e=>e.born == i)=some ax.toList[i]:=by
     have:=yg ax.toList 0 i (fun k e hk=>by rw [aa2]; exact q4 k e hk) Lu;rw [aa2,aai Lu] at this;rw [← this]; simp
    have ka:ax.toList[i]?=some ax.toList[i]:=aai Lu;obtain ⟨y1,y2⟩:=DJ wB (q2.get ka);have hc:ax.size=c0:=by omega
    refine ao h (c:=.tuple #[(ax.toList[i]).key,(ax.toList[i]).val]) ?_ (Rel.bq (vs:=[(ax.toList[i]).key,(ax.toList[i]).val]) (.cons y1 (.cons y2 .nil)));simp [execOp,ho,fu,Instr.entry,getObj,aa0,m2,z1,q1,hc,hfd]
   ·cases hv
  ·cases hv
 ·cases hv
theorem An (h:bt E R w β s a) (t:TypeId) (x y:Operand) (ho:o.op=.mapEntry t x y) {v:AV} {s':St} (hv:gi E s t (bP E s.ae x) (bP E s.ae y)=some (true,v,s')) :
  cu E R w β s a o (s'.put o.dst (.v v)):=by
 have rx:=aW h x;have ry:=aW h y;unfold gi at hv;split at hv
 ·rename_i i id k hi hm hk;rw [hm] at rx;rw [hk] at ry;have dN:Rel R w (.map id) (a.eval x):=rx;have rC:Rel R w k (a.eval y):=ry;split at hv
  ·rename_i kt et z es KL hg;split at hv
   ·rename_i j hj;split at hv
    ·rename_i hc;rw [aab] at hc;injection hv with hv; injection hv with hmk hv; injection hv with h2 h3;subst h2; subst h3;obtain ⟨ia,u,e1,e2,e3,e4,e5,e6⟩:=cD E hi;rw [KL] at e5;obtain ⟨rfl,ie,g1,g2⟩:=mQ e5;obtain ⟨d,hu,hD⟩:=H3 hj hc.1;generalize fu:a.eval x=xv at dN;cases dN with
     | @map _ b hb=>
     obtain ⟨ax,clock,q1,q2,q3⟩:=h.g.obj id _ _ hg hb;have cm:=bl q1;have Pk:(aad false 10000 kt (a.eval y)).run E.P w=.ok () w:=run_checkKey hj hu hD hc.2 rC _;have ka:(getObj b).run E.P w=.ok (.map ax clock) w:=by simp [getObj,aa0,q1]
     have xY:∀ o',(setObj b o').run E.P w=.ok () (World.put w b o'):=fun o'=>by
      simp [setObj,aa0,World.put,q1]
     have fin:∀ es' kF jg c (n:Nat),dB R w es' kF.toList→jU kF jg→(execOp a.eval o).run E.P w=.ok (.value (.tuple #[c,.int .i64 n])) (World.put w b (.map kF jg))→Rel R w (eP j.ek k z es) c→n=iG j.ek k es→es'=gH j.ek k (eP j.ek k z es) es →
       cu E R w β s a o ((s.cH (aI s.G id (.map (gH j.ek k (eP j.ek k z es) es)))).put o.dst (.v (.bq [eP j.ek k z es,.int .i64 (iG j.ek k es:Nat)]))):=fun es' kF jg c n k1 k2 k3 k4 k5 k6=>by
      subst k5; subst k6;have hex:=nX (R:=R) (x':=.map kF jg) q1 trivial trivial (fun _ e=>by cases e);obtain ⟨p1,p2⟩:=h.setObj (x':=.map kF jg) (go':=.map (gH j.ek k (eP j.ek k z es) es)) hb q1 trivial trivial (fun _ e=>by cases e) ⟨kF,jg,gL w b _ cm,k1.mono hex,k2⟩;exact ⟨.value (.tuple #[c,.int .i64 (iG j.ek k es:Nat)]),_,_,R,β,k3,.inl rfl,p1.put o.dst (x:=.v (.bq [eP j.ek k z es,.int .i64 (iG j.ek k es:Nat)])) (Rel.bq (vs:=[c,.int .i64 (iG j.ek k es:Nat)]) (.cons (k4.mono p2.ext) (.cons (.int _ _) .nil))),by rw [bc]; exact p2⟩
     have hmf:=DL hmk;have FM:=H4 (v:=eP j.ek k z es) hmk;cases Jk:kB j.ek k es with
     |none=>
      rw [Jk] at hmf;have Z3:eP j.ek k z es=z:=by unfold eP; rw [Jk]; rfl
      obtain ⟨c,k1,k2⟩:=DH (R:=R) (w:=w) g1 g2;have Fy:(aac kt (a.eval y) ax.toList).run E.P w=.ok none w:=s8 hj hu hD rC q2 hmf;rcases r7 hj hu hD rC (show Rel R w (eP j.ek k z es) c by rw [Z3]; exact k2) q2 FM with ⟨_,k3,k4⟩|⟨n,c',k3,_⟩
      ·have e7:ax.toList.length=ax.size:=aao;have jo:clock=ax.size:=q3.1;refine fin _ (ax.push { key:=a.eval y,val:=c,born:=clock }) (clock+1) c clock (by rw [abD]; exact k4 clock) (q3.push _ _) ?_ (by rw [Z3]; exact k2) (by rw [k3]; omega) rfl;simp [execOp,ho,Instr.mapEntry,fu,run_underlying e2,ka,Pk,Fy,xY,k1,goInt]
      ·rw [Fy] at k3;cases k3
     |some v0=>
      rw [Jk] at hmf;have Z3:eP j.ek k z es=v0:=by unfold eP; rw [Jk]; rfl
      obtain ⟨n0,c0,k1,k2⟩:=s9 hj hu hD rC q2 hmf;have Fy:(aac kt (a.eval y) ax.toList).run E.P w=.ok (some (n0,c0)) w:=k1;rcases r7 hj hu hD rC (show Rel R w (eP j.ek k z es) c0 by rw [Z3]; exact k2) q2 FM with ⟨k3,_⟩|⟨n,c',k3,⟨k4,en,k5,k6,k7⟩,k8⟩
      ·rw [Fy] at k3;cases k3
      ·rw [Fy] at k3;cases k3;have hen:ax[n0]?=some en:=by rw [← abW]; exact k5
       have xT:(aa3 (a.eval y) (a.eval y)).run E.P w=.ok (a.eval y) w:=by simp [aa3,pA hc.2 rC]
       have Z4:en.born=n0:=q3.2 n0 en k5;have ad9:(ax.modify n0 fun e=>{ e with key:=a.eval y }).toList=ax.toList.modify n0 fun e=>{ e with key:=a.eval y,val:=c0 }:=by
        rw [aaZ];apply List.ext_getElem?;intro m;rw [aa1,aa1];by_cases Vn:n0=m
        ·subst Vn;rw [k5];simp [k7]
        ·simp [Vn]
       refine fin _ (ax.modify n0 fun e=>{ e with key:=a.eval y }) clock c0 n0 (by rw [ad9]; exact k8) (q3.aY n0 fun _=>rfl) ?_ (by rw [Z3]; exact k2) k4 rfl;simp [execOp,ho,Instr.mapEntry,fu,run_underlying e2,ka,Pk,Fy,xY,hen,k6,xT,Z4,goInt]
    ·cases hv
   ·cases hv
  ·cases hv
 ·cases hv
theorem wD (h:bt E R w β s a) (t:TypeId) (x y z:Operand) (ho:o.op=.entryStore t x y z) (hd:o.dst=none) {s':St} (hv:eI s (bP E s.ae x) (bP E s.ae y) (bP E s.ae z)=some (true,s')) :
  cu E R w β s a o s':=by
 have rx:=aW h x;have ry:=aW h y;have rz:=aW h z;unfold eI at hv;split at hv
 ·rename_i id n v hm hk hz;rw [hm] at rx;rw [hk] at ry;rw [hz] at rz;have dN:Rel R w (.map id) (a.eval x):=rx;have rC:Rel R w (.int .i64 n) (a.eval y):=ry;have rz':Rel R w v (a.eval z):=rz;split at hv
  ·rename_i es hg;injection hv with hv; injection hv with hc h2;subst h2;rw [aab,decide_eq_true_eq,decide_eq_true_eq] at hc;obtain ⟨m,rfl⟩:∃ m:Nat,n=m:=⟨n.toNat,by omega⟩;have Pj:m < es.length:=by simpa using hc.2
   generalize fu:a.eval x=xv at dN;generalize ZF:a.eval y=yv at rC;cases rC;cases dN with
   | @map _ b hb=>
   obtain ⟨ax,clock,q1,q2,q3⟩:=h.g.obj id _ _ hg hb;have cm:=bl q1;have hlen:=q2.length;have ka:(getObj b).run E.P w=.ok (.map ax clock) w:=by simp [getObj,aa0,q1]
   have xY:∀ o',(setObj b o').run E.P w=.ok () (World.put w b o'):=fun o'=>by
    simp [setObj,aa0,World.put,q1]
   have hfi:ax.findIdx? (fun e=>(e.born:Int) == (m:Int))=some m:=by
    have:=rG ax.toList 0 m (fun k e hk=>by rw [aa2]; exact q3.2 k e hk) (by omega);rw [aa2] at this;rw [← this];obtain ⟨l⟩:=ax;exact List.findIdx?_toArray ..
   have k1:dB R w (jT es m v) (ax.modify m fun e=>{ e with val:=a.eval z }).toList:=by rw [aaZ]; exact dB.jT rz' m q2
   have hex:=nX (R:=R) (x':=.map (ax.modify m fun e=>{ e with val:=a.eval z }) clock) q1 trivial trivial (fun _ e=>by cases e);obtain ⟨p1,p2⟩:=h.setObj (x':=.map (ax.modify m fun e=>{ e with val:=a.eval z }) clock) (go':=.map (jT es m v)) hb q1 trivial trivial (fun _ e=>by cases e) ⟨_,clock,gL w b _ cm,k1.mono hex,q3.aY m fun _=>rfl⟩;refine ⟨.skip,undef,_,R,β,?_,.inr ⟨rfl,rfl⟩,?_,p2⟩
   ·simp [execOp,ho,Instr.entryStore,fu,ZF,ka,asInt,asIntOf,hfi,xY]
   ·rw [hd];exact p1
  ·cases hv
 ·cases hv
end maps
end Go.Am
namespace Go.Am
open Go
section ops
variable {E:Env} {R:ak} {w:World} {β:Nat→Nat} {s:St} {a:Act} {o:Oper}
theorem r8 {k:IntKind}:∀ {es:List AV},allFit (aP.fits (.int k)) es=true→es=(es.map AV.lz).map (AV.int k)
 |[],_=>rfl
 |e :: es,h=>by
  simp only [allFit,aab] at h;have hr:=r8 h.2;have he:e=.int k e.lz:=by
   have h1:=h.1;cases e <;> first | (cases h1; done) | skip
   have:k=_:=of_decide_eq_true (show Vc _ _=true from h1);subst this;rfl
  rw [abX,abX,← he,← hr]
theorem uB {k:IntKind}:∀ {ns:List Int} {vs:List Value},aN R w (ns.map (AV.int k)) vs→vs=ns.map (acS k)
 |[],_,.nil=>rfl
 |n :: ns,_,.cons h t=>by
  cases h;rw [abX,← uB t]
theorem vD {k:IntKind}:∀ (ns:List Int),aq (ns.map (AV.int k))=ns.map (AV.int k)
 |[]=>rfl
 |n :: ns=>by simp [aq,AV.cells,vD ns]
theorem foldl_push (ns:List Int):∀ (l:List UInt8),ns.foldl (fun r n=>r.push (aa5 n.toNat)) (⟨⟨l⟩⟩:ByteArray)=⟨⟨l++ns.map fun n=>aa5 n.toNat⟩⟩:=by
 induction ns with
 |nil=>intro l; simp
 |cons n ns ih=>
  intro l;rw [List.foldl_cons];have:(⟨⟨l⟩⟩:ByteArray).push (aa5 n.toNat)=⟨⟨l++[aa5 n.toNat]⟩⟩:=by
   simp [ByteArray.push]
  rw [this,ih];simp
theorem DM (ns:List Int):∀ (l:List UInt8),ns.foldl (fun r n=>r++aa6 n) (⟨⟨l⟩⟩:ByteArray)=⟨⟨l++ns.flatMap fun n=>(aa6 n).data.toList⟩⟩:=by
 induction ns with
 |nil=>intro l; simp
 |cons n ns ih=>
  intro l;rw [List.foldl_cons];have:(⟨⟨l⟩⟩:ByteArray)++aa6 n=⟨⟨l++(aa6 n).data.toList⟩⟩:=by
   apply ByteArray.ext;apply Array.ext';simp
  rw [this,ih];simp
theorem Bc {es:List AV}:fN es=(es.map AV.lz).map fun n=>aa5 n.toNat:=by simp [fN,List.map_map,Function.comp_def]
theorem Js {es:List AV}:xA es=(es.map AV.lz).flatMap fun n=>(aa6 n).data.toList:=by simp [xA,List.flatMap_map]
theorem Bd {a:Addr} {len cap:Nat} {ns:List Int} (h:(loadCells a len).run E.P w=.ok (ns.map (acS .u8)).toArray w) :
  (Conv.bytesToString (.slice (some a) len cap)).run E.P w=.ok (.string ⟨⟨ns.map fun n=>aa5 n.toNat⟩⟩) w:=by
 rw [run_bytesToString w a len cap ns h];have:=foldl_push ns [];rw [List.nil_append] at this;exact congrArg (fun x=>Result.ok (Value.string x) w) this
theorem Jt {a:Addr} {len cap:Nat} {ns:List Int} (h:(loadCells a len).run E.P w=.ok (ns.map (acS .i32)).toArray w) :
  (Conv.runesToString (.slice (some a) len cap)).run E.P w=.ok (.string ⟨⟨ns.flatMap fun n=>(aa6 n).data.toList⟩⟩) w:=by
 rw [run_runesToString w a len cap ns h];have:=DM ns [];rw [List.nil_append] at this;exact congrArg (fun x=>Result.ok (Value.string x) w) this
theorem Be {k:IntKind} {lk:LK} {sz:Nat} {es:List AV} {c:Value} (h:Rel R w (.list lk sz es) c) (hs:(Nat.beq sz 1 || es.isEmpty)=true) (hf:allFit (aP.fits (.int k)) es=true) :
  (es=[]∧c=.slice none 0 0)∨∃ a cap,c=.slice (some a) es.length cap∧(loadCells a es.length).run E.P w=.ok ((es.map AV.lz).map (acS k)).toArray w:=by
 obtain ⟨_,vs,h1,h2,h3,h4⟩:=ic (esz:=1) h (by
  simp only [Bool.or_eq_true] at hs;rcases hs with hs|hs
  ·exact .inr (Nat.eq_of_beq_eq_true hs)
  ·exact .inl (by simpa using hs))
 rw [r8 hf,vD] at h1;have hv:=uB h1;rcases h4 with ⟨he,_,ad,hc,_⟩|⟨b,o',cap,hc,_,_,fR,_⟩
 ·cases ad with
  |none=>exact .inl ⟨he,hc⟩
  |some ad=>
   subst he;exact .inr ⟨ad,0,hc,by simp [loadCells,loadCellsFrom]⟩
 ·refine .inr ⟨_,cap,hc,?_⟩;have:=run_loadCells_list (P:=E.P) w ⟨b,o',none⟩ vs fR;rw [h3,Nat.mul_one] at this;rw [this,hv]
theorem Ci (h:bt E R w β s a) (t u:TypeId) (x:Operand) (ho:o.op=.convert t u x) {v:AV} (hc:mM E s t u (bP E s.ae x)=some (true,v)) :
  cu E R w β s a o (s.put o.dst (.v v)):=by
 have rx:=aW h x;unfold mM at hc;split at hc
 ·rename_i i j q hi hj hx;rw [hx] at rx;have dN:Rel R w q (a.eval x):=rx;generalize fu:a.eval x=xv at dN;obtain ⟨ia,ud,e1,e2,e3,e4,e5,e6⟩:=cD E hj;obtain ⟨ZY,ud',e1',YX,e3',e4',e5',e6'⟩:=cD E hi;split at hc
  ·rename_i k _ n hk;cases hc;cases dN;rw [hk] at e5;have:=sW e5;subst this;refine ao h (c:=.int k (k.wrap n)) ?_ (Rel.int _ _);simp [execOp,ho,convert,run_underlying YX,run_underlying e2,fu,Conv.intToInt]
  ·rename_i lk sz es hk;rw [hk] at e5;have:=kD e5;subst this;split at hc
   ·rename_i elem ag eb z KL;rw [KL] at e5';obtain ⟨ie,ue,rfl,_⟩:=eu e5';split at hc
    ·rename_i e he;obtain ⟨Z5,ud2,f1,f2,f3,f4,f5,f6⟩:=cD E he;split at hc
     ·rename_i A4;injection hc with hc; injection hc with c1 c2;subst c2;rw [aab] at c1;rw [A4] at f5;have:=sW f5;subst this;refine ao h (c:=.string ⟨⟨fN es⟩⟩) ?_ (Rel.str _);rcases Be (E:=E) dN c1.1 c1.2 with ⟨rfl,rfl⟩|⟨ad,cap,rfl,hl⟩
      ·simp [execOp,ho,convert,run_underlying YX,run_underlying e2,run_underlying f2,fu,Conv.bytesToString,fN];rfl
      ·have hr:=Bd (E:=E) (cap:=cap) hl;rw [← Bc] at hr;simp [execOp,ho,convert,run_underlying YX,run_underlying e2,run_underlying f2,fu,hr]
     ·rename_i A4;injection hc with hc; injection hc with c1 c2;subst c2;rw [aab] at c1;rw [A4] at f5;have:=sW f5;subst this;refine ao h (c:=.string ⟨⟨xA es⟩⟩) ?_ (Rel.str _);rcases Be (E:=E) dN c1.1 c1.2 with ⟨rfl,rfl⟩|⟨ad,cap,rfl,hl⟩
      ·simp [execOp,ho,convert,run_underlying YX,run_underlying e2,run_underlying f2,fu,Conv.runesToString,xA];rfl
      ·have hr:=Jt (E:=E) (cap:=cap) hl;rw [← Js] at hr;simp [execOp,ho,convert,run_underlying YX,run_underlying e2,run_underlying f2,fu,hr]
     ·cases hc
    ·cases hc
   ·cases hc
  ·rename_i id off len cap hk;rw [hk] at e5;have:=kD e5;subst this;split at hc
   ·rename_i elem ag eb z cs el KL hg;rw [KL] at e5';obtain ⟨ie,ue,rfl,_⟩:=eu e5';split at hc
    ·rename_i e he;obtain ⟨Z5,ud2,f1,f2,f3,f4,f5,f6⟩:=cD E he;split at hc
     ·rename_i A4;injection hc with hc; injection hc with c1 c2;subst c2;rw [aab] at c1;rw [A4] at f5;have:=sW f5;subst this;cases dN with
      | @j7 _ _ _ _ _ b hb ib=>
      obtain ⟨vs,b1,b2,b3,b4⟩:=h.g.obj id _ _ hg hb;have hle:=abx c1.1;have aea:bC off (off+len) cs=(cs.drop off).take len:=by
       unfold bC;rw [List.drop_take];congr 1;omega
      have eD:aN R w (bC off (off+len) cs) ((vs.drop off).take len):=by
       rw [aea];exact (b2.drop off).take len
      have hlen:((vs.drop off).take len).length=len:=by
       rw [List.length_take,List.length_drop,← b2.length];omega
      have DN:=eD;rw [r8 c1.2] at DN;have hv:=uB DN;have hl:=run_loadCells_list (P:=E.P) w ⟨b,off,none⟩ ((vs.drop off).take len) (fun j v hj=>by
       rw [cM,jy b1];rw [List.getElem?_take] at hj;split at hj
       ·rw [List.getElem?_drop] at hj; exact hj
       ·cases hj)
      rw [hlen,hv] at hl;have hr:=Bd (E:=E) (cap:=cap) hl;rw [← Bc] at hr;refine ao h (c:=.string ⟨⟨fN (bC off (off+len) cs)⟩⟩) ?_ (Rel.str _);simp [execOp,ho,convert,run_underlying YX,run_underlying e2,run_underlying f2,fu,hr]
     ·cases hc
    ·cases hc
   ·cases hc
  ·cases hc
 ·cases hc
theorem rH (h:bt E R w β s a) (x:Operand) (ho:o.op=.nilCheck x) {y:SV} (hx:bP E s.ae x=y) (hy:(∃ id off,y=.v (.ptr id off))∨∃ k off,y=.lp k off) :
  cu E R w β s a o (s.put o.dst y):=by
 have rx:=aW h x;rw [hx] at rx;rcases hy with ⟨id,off,rfl⟩|⟨k,off,rfl⟩
 ·have dN:Rel R w (.ptr id off) (a.eval x):=rx;generalize fu:a.eval x=xv at dN;cases dN with
  | @ptr _ _ b hb=>
  refine ao h (c:=.pointer (some ⟨b,off,none⟩)) ?_ (Rel.ptr hb);simp [execOp,ho,fu]
 ·refine ⟨_,_,w,R,β,?_,.inl rfl,h.put o.dst rx,by rw [bc]; exact Step.refl _ _ _ _⟩;have fu:a.eval x=.pointer (some ⟨β k,off,none⟩):=rx;simp [execOp,ho,fu]
end ops
end Go.Am
namespace Go.Am
open Go
section
variable {E:Env} {R R':ak} {w w':World} {β β':Nat→Nat} {s s':St} {a a':Act} {o:Oper}
theorem Gd {f:FuncId} (h:bt E R w β s a) (hs:iu E f s o=some (true,s')):cu E R w β s a o s':=by
 unfold iu at hs;cases hs
theorem Ge {f:FuncId} (h:bt E R w β s a) (hs:vr E f s o=some (true,s')):cu E R w β s a o s':=by
 unfold vr at hs;cases hs
end
end Go.Am
