/- The abstract machine: a function out of its body; code as a proposition that computes. -/
import Derived.Test.YtfiopgedfcaodaaGreatDoorAmKF
import Derived.OrdersIn
set_option linter.all false
namespace Go.Am
open Go
def vsl:Nat→List AV→Slots
 | _,[]=>[]
 | n,a :: l=>.put n (.v a) :: vsl (n+1) l
def St.init (ntmps:Nat) (args:List AV) (G:List GO):St:=
 ⟨vsl 0 args,[],G,[],none,max ntmps args.length⟩
def leaveA:List Nat→List GO→Option (List GO)
 | [],G=>some G
 | id :: l,G=>match nth G id with
  | some (.defers true)=>leaveA l (setN G id (.defers false))
  | _=>none
def resL (E:Env) (s:St):List ResultVar→Option (List AV)
 | []=>some []
 | .tmp t :: l=>match lk s.slots t,resL E s l with
  | .v a,some r=>some (a :: r)
  | _,_=>none
 | .cell p t :: l=>match loadA E s t (lk s.slots p),resL E s l with
  | some a,some r=>some (a :: r)
  | _,_=>none
def resA (E:Env) (s:St) (fn:Func):Option AV:=match resL E s fn.results.toList with
 | some [a]=>some a
 | some l=>some (.tup l)
 | none=>none
def bodyQ (E:Env) (fn:Func) (Q:AV→List GO→Prop):Exit→St→Prop
 | .normal,s | .ret,s=>match leaveA s.marks s.G with
  | some G=>match resA E (s.inG G) fn with
   | some r=>Q r G
   | none=>False
  | none=>False
 | _,_=>False
section fns
variable {E:Env} {R:Realm} {w:World} {β:Nat→Nat} {s:St} {a:Act}
def resSem (tmps:Array Value):ResultVar→Sem Value
 | .tmp t=>pure (tmps.getD t undef)
 | .cell p t=>do loadVar t (← asAddr (tmps.getD p undef))
theorem results_eq (fn:Func) (tmps:Array Value):results fn tmps=(do
  let vs ← fn.results.mapM (resSem tmps)
  pure (if h:vs.size=1 then vs[0] else .tuple vs)):=by
 unfold results
 congr 1
theorem resL_run (h:Rep E R w β s a):∀ {l:List ResultVar} {r:List AV},resL E s l=some r →
  ∃ vs,(l.mapM (resSem a.tmps)).run E.P w=.ok vs w∧RelL R w r vs
 | [],r,hl=>by
  simp [resL] at hl
  subst hl
  exact ⟨[],by simp,.nil⟩
 | .tmp t :: l,r,hl=>by
  unfold resL at hl
  split at hl
  ·rename_i x r' h1 h2
   cases hl
   obtain ⟨vs,g1,g2⟩:=resL_run h h2
   obtain ⟨c,k1,k2⟩:=h.t t (by rw [h1]; simp)
   rw [h1] at k2
   have hg:a.tmps.getD t undef=c:=by simp [Array.getD_eq_getD_getElem?,k1]
   refine ⟨c :: vs,?_,.cons k2 g2⟩
   simp only [List.mapM_cons,Sem.run_bind,Sem.run_pure,Result.andThen_ok,resSem,hg,g1]
  ·cases hl
 | .cell p t :: l,r,hl=>by
  unfold resL at hl
  split at hl
  ·rename_i v r' h1 h2
   ·cases hl
    obtain ⟨vs,g1,g2⟩:=resL_run h h2
    obtain ⟨c,k1,k2⟩:=h.t p (fun e=>by rw [e] at h1; unfold loadA at h1; split at h1 <;> simp_all [cellsAt])
    have hg:a.tmps.getD p undef=c:=by simp [Array.getD_eq_getD_getElem?,k1]
    unfold loadA at h1
    split at h1
    ·rename_i i cs off hi hc
     split at h1
     ·rename_i l' hs
      obtain ⟨b,o',us,e,q1,q2,q3⟩:=cellsAt_rel h k2 hc
      obtain ⟨m1,m2,m3,m4⟩:=seg_rel hs q1 q2
      obtain ⟨c',hc',hrel⟩:=run_loadVar (E:=E) hi (b:=b) (off:=o'+off) m1 m2 m3 (fun j y hy=>by rw [Nat.add_assoc]; exact q3 _ _ (m4 j y hy)) h1
      refine ⟨c' :: vs,?_,.cons hrel g2⟩
      have ha:(asAddr c).run E.P w=.ok ⟨b,o'+off,none⟩ w:=by rw [e]; rfl
      have hone:(resSem a.tmps (.cell p t)).run E.P w=.ok c' w:=by
       simp only [resSem,Sem.run_bind,hg,ha,Result.andThen_ok,hc']
      simp only [List.mapM_cons,Sem.run_bind,Sem.run_pure,Result.andThen_ok,hone,g1]
     ·cases h1
    ·cases h1
  ·cases hl
theorem resA_run (h:Rep E R w β s a) {fn:Func} {r:AV} (hr:resA E s fn=some r):∃ c,(results fn a.tmps).run E.P w=.ok c w∧Rel R w r c:=by
 unfold resA at hr
 split at hr
 ·rename_i x hl
  cases hr
  obtain ⟨vs,g1,g2⟩:=resL_run h hl
  cases g2 with
  | @cons _ c _ _ g2 g3=>
  cases g3
  refine ⟨c,?_,g2⟩
  rw [results_eq,Array.mapM_eq_mapM_toList]
  simp only [Sem.run_bind,Sem.run_map]
  rw [g1]
  simp
 ·rename_i l hne hl
  cases hr
  obtain ⟨vs,g1,g2⟩:=resL_run h hl
  refine ⟨.tuple ⟨vs⟩,?_,.tup g2⟩
  have hlen:vs.length≠1:=by
   rw [← g2.length]
   intro e
   match l,e with
   | [x],_=>exact hne x rfl
  rw [results_eq,Array.mapM_eq_mapM_toList]
  simp only [Sem.run_bind,Sem.run_map]
  rw [g1]
  simp [hlen]
 ·cases hr
theorem leave_run (fn:Func) (Q:Ending→World→Prop):∀ {marks:List Nat} {G G':List GO} {R:Realm} {w:World} {β:Nat→Nat} {s:St} {a:Act},Rep E R w β (s.inG G) a→RelD R marks a.defers→leaveA marks G=some G' →
  (∀ w' ,Rep E R w' β (s.inG G') a→Step R w β s.boxes R w' β s.boxes→∃ v,(results fn a.tmps).run E.P w'=.ok v w'∧Q (.returned v) w')→LeavesInM Fence.wide 0 E.P fn a.tmps Q a.defers .returning w:=by
 intro marks
 have key:∀ (marks:List Nat) (ds:List Deferred) (G G':List GO) (R:Realm) (w:World) (β:Nat→Nat) (s:St) (a:Act),Rep E R w β (s.inG G) a→RelD R marks ds→leaveA marks G=some G' →
   (∀ w' ,Rep E R w' β (s.inG G') a→Step R w β s.boxes R w' β s.boxes→∃ v,(results fn a.tmps).run E.P w'=.ok v w'∧Q (.returned v) w')→LeavesInM Fence.wide 0 E.P fn a.tmps Q ds .returning w:=by
  intro marks
  induction marks with
  | nil=>
   intro ds G G' R w β s a hr hd hl hq
   cases ds with
   | cons _ _=>exact hd.elim
   | nil=>
    simp [leaveA] at hl
    subst hl
    obtain ⟨v,h1,h2⟩:=hq w hr (Step.refl _ _ _ _)
    exact ⟨v,h1,h2⟩
  | cons id marks ih=>
   intro ds G G' R w β s a hr hd hl hq
   cases ds with
   | nil=>exact hd.elim
   | cons d ds=>
    obtain ⟨⟨b,hb,rfl⟩,hd⟩:=hd
    unfold leaveA at hl
    split at hl
    ·rename_i hg
     have hob:w.heap[b]?=some (.deferred (some [])):=hr.g.obj id _ _ hg hb
     have hlt:=block_lt hob
     have htake:(Instr.takeDeferred b).run E.P w=.ok [] (World.put w b (.deferred none)):=by
      simp only [Instr.takeDeferred,getObj,setObj,Sem.run_bind,Sem.run,hob,Result.andThen_ok,Sem.run_pure]
      rfl
     obtain ⟨q1,q2⟩:=hr.setObj (s:=s.inG G) (x':=.deferred none) (go':=.defers false) hb hob trivial trivial (fun _ e=>by cases e) (put_self w b _ hlt)
     refine ⟨by simp,.inl ⟨b,_,rfl,htake,?_⟩⟩
     refine ih ds (setN G id (.defers false)) G' R _ β s a q1 hd hl (fun w' hr' hst=>?_)
     exact hq w' hr' (q2.trans hst)
    ·cases hl
 intro G G' R w β s a hr hd hl hq
 exact key marks a.defers G G' R w β s a hr hd hl hq
end fns
end Go.Am
namespace Go.Am
open Go
section intro
variable {E:Env} {R R':Realm} {w w':World} {β β':Nat→Nat}
theorem step_noBox {bx bx':Boxes} (h:Step R w β bx R' w' β' bx') (hn:∀ k cs,lkB bx k≠some cs):Step R w (fun _=>0) noBox R' w' (fun _=>0) noBox:=by
 have own:∀ b,Own R β bx b→Live R b:=fun b ho=>by
  rcases ho with ho | ⟨k,cs,hk,_⟩
  ·exact ho
  ·exact absurd hk (hn k cs)
 exact ⟨h.ext,h.os,h.tape,h.output,h.size,fun b hb hno=>h.keep b hb (fun ho=>hno (.inl (own b ho))),fun b hb ho=>.inl (own b (h.own b hb (.inl (own_noBox ho)))),fun b o hi hb hno=>h.im b o hi hb (fun ho=>hno (.inl (own b ho)))⟩
theorem vsl_lk:∀ {l:List AV} {n i:Nat},(i < n∨n+l.length≤i→lk (vsl n l) i=.none)∧(∀ a,l[i - n]?=some a→n≤i→lk (vsl n l) i=.v a)
 | [],n,i=>⟨fun _=>rfl,fun a h=>by simp at h⟩
 | b :: l,n,i=>by
  obtain ⟨h1,h2⟩:=vsl_lk (l:=l) (n:=n+1) (i:=i)
  refine ⟨fun h=>?_,fun a h hn=>?_⟩
  ·simp only [List.length_cons] at h
   simp only [vsl]
   rw [lk_put_ne (by omega)]
   exact h1 (by omega)
  ·simp only [vsl]
   by_cases e:n=i
   ·subst e
    rw [lk_put_self]
    simp at h
    rw [h]
   ·rw [lk_put_ne e]
    refine h2 a ?_ (by omega)
    have:i - n=(i - (n+1))+1:=by omega
    rw [this] at h
    simpa using h
theorem init_rep {ntmps:Nat} {args:List AV} {cs:List Value} {G:List GO} (hg:RepG E R w G) (hl:RelL R w args cs) :
  Rep E R w (fun _=>0) (St.init ntmps args G) { tmps:=⟨cs⟩++Array.replicate (ntmps - (⟨cs⟩:Array Value).size) undef,defers:=[] }:=by
 have hlen:=hl.length
 refine ⟨hg,⟨fun k c hk=>?_,fun k k' c c' hk _ _=>?_⟩,fun i hi=>?_,?_,trivial⟩
 ·simp [St.init,lkB] at hk
 ·simp [St.init,lkB] at hk
 ·simp only [St.init] at hi ⊢
  obtain ⟨h1,h2⟩:=vsl_lk (l:=args) (n:=0) (i:=i)
  by_cases hlt:i < args.length
  ·have hy:args[i]?=some args[i]:=List.getElem?_eq_getElem hlt
   obtain ⟨c,k1,k2⟩:=hl.get hy
   rw [h2 _ (by rw [Nat.sub_zero]; exact hy) (Nat.zero_le _)]
   refine ⟨c,?_,k2⟩
   rw [Array.getElem?_append_left (by simp; omega)]
   simpa using k1
  ·exact absurd (h1 (by omega)) hi
 ·simp [St.init]
  omega
theorem init_noBox {ntmps:Nat} {args:List AV} {G:List GO} (k:Nat) (cs:List AV):lkB (St.init ntmps args G).boxes k≠some cs:=by
 simp [St.init,lkB]
theorem ACalls.intro {g : FuncId} {fn : Func} {c : Code} {args : List AV} {G : List GO} {Q : AV → List GO → Prop} (hf : E.P.funcs[g]? = some fn) (hb : fn.body = some c) (hn : (fn.name == "runtime.NumGoroutine") = false)
  (h:AWp E c (bodyQ E fn Q) (St.init fn.ntmps args G)):ACalls E g args G Q:=by
 refine ⟨⟨fn,hf,by simp [hb],hn⟩,fun R w cs hg hl=>?_⟩
 refine callsIn_of_wp_marks hf hb trivial (wpIn_mono (h R w (fun _=>0) _ Fence.wide (init_rep hg hl) rfl) ?_)
 rintro e a' w' ⟨s',R',β',hq,hr,hst,hro⟩
 have fin:(match leaveA s'.marks s'.G with
  | some G=>match resA E (s'.inG G) fn with
   | some r=>Q r G
   | none=>False
  | none=>False)→LeavesInM Fence.wide 0 E.P fn a'.tmps (RetOk E R w Q) a'.defers .returning w':=by
  intro hq
  split at hq
  ·rename_i G2 hG2
   split at hq
   ·rename_i r hres
    refine leave_run fn (RetOk E R w Q) (s:=s') (G:=s'.G) hr hr.d hG2 (fun w'' hr'' hst''=>?_)
    obtain ⟨v,h1,h2⟩:=resA_run hr'' hres
    exact ⟨v,h1,r,G2,R',hq,h2,hr''.g,step_noBox (hst.trans hst'') init_noBox⟩
   ·exact hq.elim
  ·exact hq.elim
 cases e with
 | normal=>exact fin hq
 | ret=>exact fin hq
 | exit _=>exact hq.elim
 | goto _=>exact hq.elim
 | panic _=>exact hq.elim
 | outgrown=>exact hq.elim
end intro
end Go.Am
namespace Go.Am
open Go
def St.eff (s:St) (pre:Slots) (preB:Boxes) (G:List GO):St:=⟨pre++s.slots,preB++s.boxes,G,s.marks,s.ro,s.n⟩
def Pre (al:Bool) (dst:Option Tmp) (pre:Slots):Prop:=
 pre=[]∨∃ d x,dst=some d∧(pre=[.put d x]∨(al=true∧pre=[.put d x,.kill d]))
def SameEff (al w:Bool) (dst:Option Tmp) (s t s' t':St):Prop:=
 ∃ pre preB G,Pre al dst pre∧(w=false→preB=[]∧G=s.G∧∃ x,s'=s.put dst x∧t'=t.put dst x)∧s'=s.eff pre preB G∧t'=t.eff pre preB G
section
variable {E:Env} {s t:St} {o:Oper}
theorem put_eff (s:St) (d:Tmp) (x:SV):s.put (some d) x=bif Nat.blt d s.n then s.eff [.put d x] [] s.G else s:=by
 cases h:Nat.blt d s.n <;> simp [St.put,h,St.eff]
theorem SameEff.put {al w:Bool} (hn:s.n=t.n) (hG:s.G=t.G) (dst:Option Tmp) (x:SV):SameEff al w dst s t (s.put dst x) (t.put dst x):=by
 cases dst with
 | none=>exact ⟨[],[],s.G,.inl rfl,fun _=>⟨rfl,rfl,x,rfl,rfl⟩,rfl,by rw [hG]; rfl⟩
 | some d=>
  have hx:∃ y,s.put (some d) x=s.put (some d) y∧t.put (some d) x=t.put (some d) y:=⟨x,rfl,rfl⟩
  revert hx
  generalize hs:s.put (some d) x=s'
  generalize ht:t.put (some d) x=t'
  intro hx
  rw [put_eff] at hs ht
  rw [← hn] at ht
  revert hs ht
  cases Nat.blt d s.n with
  | true=>exact fun hs ht=>⟨[.put d x],[],s.G,.inr ⟨d,x,rfl,.inl rfl⟩,fun _=>⟨rfl,rfl,hx⟩,hs.symm,by rw [hG]; exact ht.symm⟩
  | false=>exact fun hs ht=>⟨[],[],s.G,.inl rfl,fun _=>⟨rfl,rfl,hx⟩,hs.symm,by rw [hG]; exact ht.symm⟩
theorem SameEff.putG {al:Bool} (hn:s.n=t.n) (G:List GO) (dst:Option Tmp) (x:SV):SameEff al true dst s t ((s.inG G).put dst x) ((t.inG G).put dst x):=by
 cases dst with
 | none=>exact ⟨[],[],G,.inl rfl,fun h=>(by cases h),rfl,rfl⟩
 | some d=>
  rw [put_eff,put_eff,show (t.inG G).n=(s.inG G).n from hn.symm]
  cases Nat.blt d (s.inG G).n with
  | true=>exact ⟨[.put d x],[],G,.inr ⟨d,x,rfl,.inl rfl⟩,fun h=>(by cases h),rfl,rfl⟩
  | false=>exact ⟨[],[],G,.inl rfl,fun h=>(by cases h),rfl,rfl⟩
theorem SameEff.inG {al:Bool} (G:List GO) (dst:Option Tmp):SameEff al true dst s t (s.inG G) (t.inG G):=⟨[],[],G,.inl rfl,fun h=>(by cases h),rfl,rfl⟩
theorem SameEff.inB {al:Bool} (hG:s.G=t.G) (dst:Option Tmp) (d:Nat) (cs:List AV):SameEff al true dst s t (s.inB d cs) (t.inB d cs):=
 ⟨[],[(d,cs)],s.G,.inl rfl,fun h=>(by cases h),rfl,(by rw [hG]; rfl)⟩
theorem evL_congr {a b:Slots}:∀ {l:List Operand},(∀ y∈l,evO E a y=evO E b y)→evL E a l=evL E b l
 | [],_=>rfl
 | x :: l,h=>by
  simp only [evL]
  rw [h x (by simp),evL_congr (l:=l) (fun y hy=>h y (by simp [hy]))]
theorem evP_congr {a b:Slots}:∀ {l:List (Nat × Operand)},(∀ p∈l,evO E a p.2=evO E b p.2)→evP E a l=evP E b l
 | [],_=>rfl
 | (i,x) :: l,h=>by
  simp only [evP]
  rw [h (i,x) (by simp),evP_congr (l:=l) (fun y hy=>h y (by simp [hy]))]
theorem cellsAt_congr (hG:s.G=t.G) (hB:lkB s.boxes=lkB t.boxes) (p:SV):cellsAt s p=cellsAt t p:=by
 unfold cellsAt
 rw [hG,hB]
theorem loadA_congr (hG:s.G=t.G) (hB:lkB s.boxes=lkB t.boxes) (ty:TypeId) (p:SV):loadA E s ty p=loadA E t ty p:=by
 unfold loadA
 rw [cellsAt_congr hG hB]
theorem groAt_congr (hG:s.G=t.G) (id f i sz:Nat) (ty:TypeId):groAt E s id f i sz ty=groAt E t id f i sz ty:=by
 unfold groAt
 rw [hG]
theorem loadG_congr (hG:s.G=t.G) (hB:lkB s.boxes=lkB t.boxes) (ty:TypeId) (p:SV):loadG E s ty p=loadG E t ty p:=by
 unfold loadG
 split
 ·rw [groAt_congr hG]
 ·rw [loadA_congr hG hB]
theorem copyA_congr (hG:s.G=t.G) (esz:Nat) (d x:AV):copyA s esz d x=copyA t esz d x:=by
 unfold copyA
 rw [hG]
theorem allocA_same {f:FuncId} {dst:Option Tmp} {el:TypeId} {cs:List AV} {c:Bool} {s':St} (hn:s.n=t.n) (hG:s.G=t.G) (h:allocA E f s dst el cs=some (c,s')) :
  ∃ t',allocA E f t dst el cs=some (c,t')∧SameEff true true dst s t s' t':=by
 unfold allocA at *
 cases dst with
 | none=>cases h
 | some d=>
  simp only at *
  split at h
  ·rename_i hg
   injection h with h
   injection h with h1 h2
   subst h1 h2
   rw [if_pos hg]
   refine ⟨_,rfl,?_⟩
   have:=SameEff.putG (al:=true) hn (s.G++[.row cs el]) (some d) (.v (.ptr s.G.length 0))
   rw [hG] at this
   have e:s.addG (.row cs el)=s.inG (t.G++[.row cs el]):=by rw [← hG]; rfl
   rw [e,hG]
   exact this
  ·rename_i hg
   rw [if_neg hg,← hn]
   split at h
   ·rename_i hb
    injection h with h
    injection h with h1 h2
    subst h1 h2
    refine ⟨_,rfl,[.put d (.lp d 0),.kill d],[(d,cs)],s.G,.inr ⟨d,_,rfl,.inr ⟨rfl,rfl⟩⟩,fun h=>(by cases h),?_,?_⟩
    ·simp [St.put,St.inB,St.kill,hb,St.eff]
    ·simp only [St.put,St.inB,St.kill,← hn,hb,St.eff,hG]
     rfl
   ·cases h
theorem storeA_same {ty:TypeId} {p x:SV} {s':St} {al:Bool} {dst:Option Tmp} (hG:s.G=t.G) (hB:lkB s.boxes=lkB t.boxes) (h:storeA E s ty p x=some s') :
  ∃ t',storeA E t ty p x=some t'∧SameEff al true dst s t s' t':=by
 unfold storeA at *
 split at h
 ·split at h
  ·rename_i hc
   rw [if_pos hc]
   split at h
   ·rw [← hB]
    split at h
    ·split at h
     ·rename_i hc2
      cases h
      simp only [hc2,if_true]
      exact ⟨_,rfl,.inB hG _ _ _⟩
     ·cases h
    ·cases h
   ·rw [← hG]
    split at h
    ·split at h
     ·rename_i hc2
      cases h
      simp only [hc2,if_true]
      exact ⟨_,rfl,.inG _ _⟩
     ·cases h
    ·cases h
   ·cases h
  ·cases h
 ·cases h
theorem storeG_same {ty:TypeId} {p x:SV} {c:Bool} {s':St} {al:Bool} {dst:Option Tmp} (hG:s.G=t.G) (hB:lkB s.boxes=lkB t.boxes) (h:storeG E s ty p x=some (c,s')) :
  ∃ t',storeG E t ty p x=some (c,t')∧SameEff al true dst s t s' t':=by
 unfold storeG at *
 split at h
 ·rw [← hG]
  split at h
  ·split at h
   ·rename_i h1 h2 hc
    simp only [hc,if_true]
    split at h
    ·rename_i hc2
     injection h with h; injection h with e1 e2
     subst e1; subst e2
     simp only [hc2,if_true]
     exact ⟨_,rfl,.inG _ _⟩
    ·rename_i hc2
     rw [if_neg hc2,← groAt_congr hG]
     split at h
     ·rename_i hg
      split at h
      ·rename_i hc3
       injection h with h; injection h with e1 e2
       subst e1; subst e2
       simp only [hc3,if_true]
       exact ⟨_,rfl,.inG _ _⟩
      ·cases h
     ·cases h
   ·cases h
  ·cases h
 ·split at h
  ·rename_i s1 hs
   injection h with h; injection h with e1 e2
   subst e1; subst e2
   obtain ⟨t',h3,h4⟩:=storeA_same (al:=al) (dst:=dst) hG hB hs
   simp only [h3]
   exact ⟨_,rfl,h4⟩
  ·cases h
def isAlloc:Op→Bool
 | .alloc _=>true
 | .box _ _=>true
 | _=>false
def isN:Op→Bool
 | .move _ | .assign _ | .pick _ _ _ | .build _ _ | .buildSlice _ _ _ | .load _ _ | .binOp _ _ _ _ _ | .unOp _ _ _ | .convert _ _ _ | .makeFunc _ _ _ | .fieldAddr _ _ _ | .field _ _ _
 | .indexAddr _ _ _ | .index _ _ _ | .slice _ _ _ _ _ | .extract _ _ | .lookup _ _ _ _ | .nilCheck _=>true
 | .call { callee:=.builtin .len,.. }=>true
 | .call { callee:=.builtin .max,.. }=>true
 | .call { callee:=.builtin .min,.. }=>true
 | _=>false
def isR:Op→Bool
 | .load _ _=>true
 | .lookup _ _ _ _=>true
 | .call _=>true
 | .convert _ _ _=>true
 | _=>false
def isWB:Builtin→Bool
 | .append | .copy | .clear=>true
 | _=>false
theorem builtinA_same {dst:Option Tmp} {b:Builtin} {l:List AV} {tys:List TypeId} {c:Bool} {s':St} {al:Bool} (hn:s.n=t.n) (hG:s.G=t.G) (h:builtinA E s dst b l tys=some (c,s')) :
  ∃ t',builtinA E t dst b l tys=some (c,t')∧SameEff al (isWB b) dst s t s' t':=by
 obtain ⟨sl,bx,G,m,ro,n⟩:=s
 obtain ⟨sl',bx',G',m',ro',n'⟩:=t
 have hc:=fun esz d x=>copyA_congr (s:=⟨sl,bx,G,m,ro,n⟩) (t:=⟨sl',bx',G',m',ro',n'⟩) hG esz d x
 simp only at hn hG
 subst hn hG
 unfold builtinA at h ⊢
 simp only [← hc]
 cases b
 all_goals (try (cases h; done))
 all_goals (try simp only at h ⊢)
 all_goals (try (split at h <;> first | (cases h; done) | simp only at h ⊢))
 all_goals (repeat' (split at h))
 all_goals (first | (cases h; done) | skip)
 all_goals (injection h with h; injection h with h1 h2; subst h1 h2)
 all_goals (try simp only [if_true, *])
 all_goals (first | exact ⟨_,rfl,.put (by rfl) (by rfl) _ _⟩ | exact ⟨_,rfl,.putG (by rfl) _ _ _⟩ | exact ⟨_,rfl,.inG _ _⟩)
theorem convertA_congr (hG:s.G=t.G) (a b:TypeId) (x:SV):convertA E s a b x=convertA E t a b x:=by
 unfold convertA
 rw [hG]
theorem lookupA_congr (hG:s.G=t.G) (ty:TypeId) (m k:SV):lookupA E s ty m k=lookupA E t ty m k:=by
 have:mapOf s=mapOf t:=by funext m; unfold mapOf; rw [hG]
 unfold lookupA lookupA0
 rw [this,hG]
theorem updateA_same {ty:TypeId} {m k x:SV} {s':St} {al:Bool} {dst:Option Tmp} (hG:s.G=t.G) (h:updateA E s ty m k x=some s') :
  ∃ t',updateA E t ty m k x=some t'∧SameEff al true dst s t s' t':=by
 unfold updateA at *
 rw [← hG]
 repeat' (split at h)
 all_goals (first | (cases h; done) | skip)
 cases h
 simp only [*]
 exact ⟨_,rfl,.inG _ _⟩
theorem nextA_same {dst:Option Tmp} {x:SV} {s':St} {al:Bool} (hn:s.n=t.n) (hG:s.G=t.G) (h:nextA s dst x=some s') :
  ∃ t',nextA t dst x=some t'∧SameEff al true dst s t s' t':=by
 unfold nextA at *
 rw [← hG]
 split at h
 ·split at h
  ·rename_i l pos hg
   cases hb:Nat.blt pos l.length with
   | true=>
    rw [hb] at h
    simp only [cond_true] at h ⊢
    cases h
    exact ⟨_,rfl,.putG hn _ _ _⟩
   | false=>
    rw [hb] at h
    simp only [cond_false] at h ⊢
    cases h
    obtain ⟨pre,preB,G,p1,p2,p3⟩:=SameEff.put (al:=al) (w:=true) hn hG dst (.v (.tup [.bool false]))
    exact ⟨_,rfl,pre,preB,G,p1,p2,p3⟩
  ·cases h
 ·cases h
theorem famOp_append {f:FuncId} {r:Bool × St} (h:famOp E f s o=some r):∃ args tys,o.op=.call { callee:=.builtin .append,args:=args,argTypes:=tys }:=by
 unfold famOp at h
 split at h
 ·split at h
  ·split at h
   ·rename_i args tys ho
    exact ⟨args,tys,ho⟩
   ·cases h
  ·cases h
 ·cases h
theorem famOp_same {f:FuncId} {c:Bool} {s':St} {al:Bool} (hn:s.n=t.n) (hG:s.G=t.G) (hev:∀ y∈o.op.operands,evO E s.slots y=evO E t.slots y)
  (h:famOp E f s o=some (c,s')):∃ t',famOp E f t o=some (c,t')∧SameEff al true o.dst s t s' t':=by
 obtain ⟨args,tys,ho⟩:=famOp_append h
 have h1:evL E s.slots args.toList=evL E t.slots args.toList:=evL_congr fun y hy=>hev y (by rw [ho]; simp [Op.operands,Call.operands]; simpa using hy)
 unfold famOp at h ⊢
 rw [ho] at h ⊢
 simp only [h1,hG] at h ⊢
 repeat' (split at h)
 all_goals (first | (cases h; done) | skip)
 injection h with h; injection h with h2 h3
 subst h2 h3
 simp only [*,if_true]
 refine ⟨_,rfl,?_⟩
 exact SameEff.putG hn _ _ _
theorem famOp_none_same {f:FuncId} (hn:s.n=t.n) (hG:s.G=t.G) (hev:∀ y∈o.op.operands,evO E s.slots y=evO E t.slots y) (h:famOp E f s o=none):famOp E f t o=none:=by
 cases ht:famOp E f t o with
 | none=>rfl
 | some r=>
  obtain ⟨t',h1,_⟩:=famOp_same (s:=t) (t:=s) (al:=false) hn.symm hG.symm (fun y hy=>(hev y hy).symm) (c:=r.1) (s':=r.2) ht
  rw [h] at h1
  cases h1
theorem stepOp_same {f:FuncId} {c:Bool} {s':St} (hn:s.n=t.n) (hG:s.G=t.G) (hB:lkB s.boxes=lkB t.boxes) (hev:∀ y∈o.op.operands,evO E s.slots y=evO E t.slots y)
  (h:stepOp E f s o=some (c,s')):∃ t',stepOp E f t o=some (c,t')∧SameEff (isAlloc o.op) (!isN o.op) o.dst s t s' t':=by
 obtain ⟨dst,op,ty,pos,after,guard⟩:=o
 cases op
 case move x=>
  simp only [stepOp,hev x (by simp [Op.operands])] at h ⊢
  split at h
  all_goals (injection h with h; injection h with h1 h2; subst h1 h2; (try simp only [*]); exact ⟨_,rfl,.put hn hG _ _⟩)
 case assign x=>
  simp only [stepOp,hev x (by simp [Op.operands])] at h ⊢
  split at h
  all_goals (injection h with h; injection h with h1 h2; subst h1 h2; (try simp only [*]); exact ⟨_,rfl,.put hn hG _ _⟩)
 case pick x y z=>
  simp only [stepOp,hev x (by simp [Op.operands]),hev y (by simp [Op.operands]),hev z (by simp [Op.operands])] at h ⊢
  split at h
  ·injection h with h; injection h with h1 h2; subst h1 h2; (try simp only [*]); exact ⟨_,rfl,.put hn hG _ _⟩
  ·cases h
 case alloc e=>
  simp only [stepOp] at h ⊢
  repeat' (split at h)
  all_goals (first | (cases h; done) | skip)
  simp only [*]
  exact allocA_same hn hG h
 case box e x=>
  simp only [stepOp,hev x (by simp [Op.operands])] at h ⊢
  repeat' (split at h)
  all_goals (first | (cases h; done) | skip)
  simp only [*]
  exact allocA_same hn hG h
 case build ty ps=>
  have he:buildA E s ty ps.toList=buildA E t ty ps.toList:=by
   unfold buildA
   rw [evP_congr (fun p hp=>hev p.2 (by simp only [Op.operands,List.mem_toArray,List.mem_map]; exact ⟨p,hp,rfl⟩))]
  simp only [stepOp,he] at h ⊢
  split at h
  ·injection h with h; injection h with h1 h2; subst h1 h2; (try simp only [*]); exact ⟨_,rfl,.put hn hG _ _⟩
  ·cases h
 case buildSlice ty len ps=>
  have he:buildSliceA E s ty len ps.toList=buildSliceA E t ty len ps.toList:=by
   unfold buildSliceA
   rw [evP_congr (fun p hp=>hev p.2 (by simp only [Op.operands,List.mem_toArray,List.mem_map]; exact ⟨p,hp,rfl⟩))]
  simp only [stepOp,he] at h ⊢
  split at h
  ·injection h with h; injection h with h1 h2; subst h1 h2; (try simp only [*]); exact ⟨_,rfl,.put hn hG _ _⟩
  ·cases h
 case load ty x=>
  simp only [stepOp,hev x (by simp [Op.operands]),loadG_congr hG hB] at h ⊢
  split at h
  ·injection h with h; injection h with h1 h2; subst h1 h2; (try simp only [*]); exact ⟨_,rfl,.put hn hG _ _⟩
  ·cases h
 case store ty x y=>
  simp only [stepOp,hev x (by simp [Op.operands]),hev y (by simp [Op.operands])] at h ⊢
  split at h
  ·rename_i s1 hs
   injection h with h; injection h with h1 h2; subst h1 h2
   obtain ⟨t',h3,h4⟩:=storeG_same (al:=false) (dst:=none) hG hB hs
   rw [h3]
   exact ⟨_,rfl,h4⟩
  ·cases h
 case binOp op a x y b=>
  simp only [stepOp,hev x (by simp [Op.operands]),hev y (by simp [Op.operands])] at h ⊢
  repeat' (split at h)
  all_goals (first | (cases h; done) | skip)
  all_goals (injection h with h; injection h with h1 h2; subst h1 h2; (try simp only [*]); exact ⟨_,rfl,.put hn hG _ _⟩)
 case unOp op a x=>
  simp only [stepOp,hev x (by simp [Op.operands])] at h ⊢
  repeat' (split at h)
  all_goals (first | (cases h; done) | skip)
  all_goals (injection h with h; injection h with h1 h2; subst h1 h2; (try simp only [*]); exact ⟨_,rfl,.put hn hG _ _⟩)
 case nilCheck x=>
  simp only [stepOp,hev x (by simp [Op.operands])] at h ⊢
  repeat' (split at h)
  all_goals (first | (cases h; done) | skip)
  all_goals (injection h with h; injection h with h1 h2; subst h1 h2; (try simp only [*]); exact ⟨_,rfl,.put hn hG _ _⟩)
 case convert a b x=>
  simp only [stepOp,hev x (by simp [Op.operands]),convertA_congr hG] at h ⊢
  repeat' (split at h)
  all_goals (first | (cases h; done) | skip)
  all_goals (injection h with h; injection h with h1 h2; subst h1 h2; (try simp only [*]); exact ⟨_,rfl,.put hn hG _ _⟩)
 case makeFunc fo a b=>
  cases fo with
  | func g=>
   have h1:evL E s.slots a.toList=evL E t.slots a.toList:=evL_congr fun y hy=>hev y (by simp only [Op.operands,Array.mem_append]; exact .inl (by simpa using hy))
   have h2:evL E s.slots b.toList=evL E t.slots b.toList:=evL_congr fun y hy=>hev y (by simp only [Op.operands,Array.mem_append]; exact .inr (by simpa using hy))
   simp only [stepOp,h1,h2] at h ⊢
   repeat' (split at h)
   all_goals (first | (cases h; done) | skip)
   all_goals (injection h with h; injection h with h1 h2; subst h1 h2; (try simp only [*]); exact ⟨_,rfl,.put hn hG _ _⟩)
  | _=>simp [stepOp] at h
 case fieldAddr a x j=>
  simp only [stepOp,hev x (by simp [Op.operands])] at h ⊢
  repeat' (split at h)
  all_goals (first | (cases h; done) | skip)
  all_goals (injection h with h; injection h with h1 h2; subst h1 h2; (try simp only [*]); exact ⟨_,rfl,.put hn hG _ _⟩)
 case field a x j=>
  simp only [stepOp,hev x (by simp [Op.operands])] at h ⊢
  repeat' (split at h)
  all_goals (first | (cases h; done) | skip)
  all_goals (injection h with h; injection h with h1 h2; subst h1 h2; (try simp only [*]); exact ⟨_,rfl,.put hn hG _ _⟩)
 case indexAddr a x y=>
  simp only [stepOp,hev x (by simp [Op.operands]),hev y (by simp [Op.operands])] at h ⊢
  repeat' (split at h)
  all_goals (first | (cases h; done) | skip)
  all_goals (injection h with h; injection h with h1 h2; subst h1 h2; (try simp only [*]); exact ⟨_,rfl,.put hn hG _ _⟩)
 case index a x y=>
  simp only [stepOp,hev x (by simp [Op.operands]),hev y (by simp [Op.operands])] at h ⊢
  repeat' (split at h)
  all_goals (first | (cases h; done) | skip)
  all_goals (injection h with h; injection h with h1 h2; subst h1 h2; (try simp only [*]); exact ⟨_,rfl,.put hn hG _ _⟩)
 case slice a x lo hi mx=>
  have h1:optO E s.slots lo=optO E t.slots lo:=by
   cases lo with
   | none=>rfl
   | some y=>simp only [optO]; rw [hev y (by simp [Op.operands])]
  have h2:optO E s.slots hi=optO E t.slots hi:=by
   cases hi with
   | none=>rfl
   | some y=>simp only [optO]; rw [hev y (by simp [Op.operands])]
  simp only [stepOp,hev x (by simp [Op.operands]),h1,h2] at h ⊢
  repeat' (split at h)
  all_goals (first | (cases h; done) | skip)
  all_goals (injection h with h; injection h with h1 h2; subst h1 h2; (try simp only [*]); exact ⟨_,rfl,.put hn hG _ _⟩)
 case extract x i=>
  simp only [stepOp,hev x (by simp [Op.operands])] at h ⊢
  repeat' (split at h)
  all_goals (first | (cases h; done) | skip)
  all_goals (injection h with h; injection h with h1 h2; subst h1 h2; (try simp only [*]); exact ⟨_,rfl,.put hn hG _ _⟩)
 case makeSlice ty x y=>
  simp only [stepOp,hev x (by simp [Op.operands]),hev y (by simp [Op.operands])] at h ⊢
  repeat' (split at h)
  all_goals (first | (cases h; done) | skip)
  all_goals (injection h with h; injection h with h1 h2; subst h1 h2)
  all_goals (simp only [*])
  all_goals (refine ⟨_,rfl,?_⟩)
  all_goals (have e:∀ o,t.addG o=t.inG (s.G++[o]):=fun o=>by rw [hG]; rfl)
  all_goals (rw [e,← hG])
  all_goals (exact SameEff.putG (al:=false) hn _ dst _)
 case lookup ty x y ok=>
  simp only [stepOp,hev x (by simp [Op.operands]),hev y (by simp [Op.operands]),lookupA_congr hG] at h ⊢
  split at h
  ·injection h with h; injection h with h1 h2; subst h1 h2; (try simp only [*]); exact ⟨_,rfl,.put hn hG _ _⟩
  ·cases h
 case mapUpdate ty x y z=>
  simp only [stepOp,hev x (by simp [Op.operands]),hev y (by simp [Op.operands]),hev z (by simp [Op.operands])] at h ⊢
  split at h
  ·rename_i s1 hs
   injection h with h; injection h with h1 h2; subst h1 h2
   obtain ⟨t',h3,h4⟩:=updateA_same (al:=false) (dst:=none) hG hs
   rw [h3]
   exact ⟨_,rfl,h4⟩
  ·cases h
 case insert ty x y z=>
  simp only [stepOp,hev x (by simp [Op.operands]),hev y (by simp [Op.operands]),hev z (by simp [Op.operands])] at h ⊢
  split at h
  ·rename_i s1 hs
   injection h with h; injection h with h1 h2; subst h1 h2
   obtain ⟨t',h3,h4⟩:=updateA_same (al:=false) (dst:=none) hG hs
   rw [h3]
   exact ⟨_,rfl,h4⟩
  ·cases h
 case entry x=>
  simp only [stepOp,hev x (by simp [Op.operands])] at h ⊢
  have e:entryA E s (evO E t.slots x)=entryA E t (evO E t.slots x):=by unfold entryA; rw [hG]
  rw [e] at h
  split at h
  ·injection h with h; injection h with h1 h2; subst h1 h2; (try simp only [*]); exact ⟨_,rfl,.put hn hG _ _⟩
  ·cases h
 case mapEntry ty x y=>
  simp only [stepOp,hev x (by simp [Op.operands]),hev y (by simp [Op.operands])] at h ⊢
  unfold mapEntryA at h ⊢
  rw [← hG]
  repeat' (split at h)
  all_goals (first | (cases h; done) | skip)
  rename_i heq
  repeat' (split at heq)
  all_goals (first | (cases heq; done) | skip)
  injection heq with heq; injection heq with h3 heq; injection heq with h4 h5
  injection h with h; injection h with h1 h2; subst h1 h2 h3 h4 h5
  simp only [*,if_true]
  exact ⟨_,rfl,SameEff.putG (al:=false) hn _ dst _⟩
 case entryStore ty x y z=>
  simp only [stepOp,hev x (by simp [Op.operands]),hev y (by simp [Op.operands]),hev z (by simp [Op.operands])] at h ⊢
  unfold entryStoreA at h ⊢
  rw [← hG]
  repeat' (split at h)
  all_goals (first | (cases h; done) | skip)
  rename_i heq
  repeat' (split at heq)
  all_goals (first | (cases heq; done) | skip)
  injection heq with heq; injection heq with h3 h5
  injection h with h; injection h with h1 h2; subst h1 h2 h3 h5
  simp only [*]
  exact ⟨_,rfl,.inG _ _⟩
 case range ty x=>
  simp only [stepOp,hev x (by simp [Op.operands])] at h ⊢
  repeat' (split at h)
  all_goals (first | (cases h; done) | skip)
  ·injection h with h; injection h with h1 h2; subst h1 h2
   (try simp only [*])
   refine ⟨_,rfl,?_⟩
   have e:∀ o,t.addG o=t.inG (s.G++[o]):=fun o=>by rw [hG]; rfl
   rw [e,← hG]
   exact SameEff.putG (al:=false) hn _ dst _
  ·rename_i hk hg
   injection h with h; injection h with h1 h2; subst h1 h2
   have hg':=hg
   rw [hG] at hg'
   simp only [hk,hg']
   refine ⟨_,rfl,?_⟩
   have e:∀ o,t.addG o=t.inG (s.G++[o]):=fun o=>by rw [hG]; rfl
   rw [e,← hG]
   exact SameEff.putG (al:=false) hn _ dst _
 case next x b=>
  cases b with
  | false=>simp [stepOp] at h
  | true=>
   simp only [stepOp,hev x (by simp [Op.operands])] at h ⊢
   split at h
   ·rename_i s1 hs
    injection h with h; injection h with h1 h2; subst h1 h2
    obtain ⟨t',h3,h4⟩:=nextA_same (al:=false) hn hG hs
    rw [h3]
    exact ⟨_,rfl,h4⟩
   ·cases h
 case makeMap ty r=>
  cases r with
  | none=>
   simp only [stepOp] at h ⊢
   injection h with h; injection h with h1 h2; subst h1 h2
   refine ⟨_,rfl,?_⟩
   have:=SameEff.putG (al:=false) hn (s.G++[.map []]) dst (.v (.map s.G.length))
   have e:∀ o,t.addG o=t.inG (s.G++[o]):=fun o=>by rw [hG]; rfl
   rw [e,← hG]
   exact this
  | some _=>simp [stepOp] at h
 case call cl=>
  obtain ⟨callee,args,tys⟩:=cl
  cases callee with
  | builtin b=>
   have h1:evL E s.slots args.toList=evL E t.slots args.toList:=evL_congr fun y hy=>hev y (by simp [Op.operands,Call.operands]; simpa using hy)
   cases hf:famOp E f s { dst:=dst,op:=.call { callee:=.builtin b,args:=args,argTypes:=tys },type:=ty,pos:=pos,after:=after,guard:=guard } with
   | some r=>
    simp only [stepOp,hf] at h
    obtain ⟨t',q1,q2⟩:=famOp_same (al:=isAlloc (.call { callee:=.builtin b,args:=args,argTypes:=tys })) hn hG hev (c:=r.1) (s':=r.2) hf
    cases h
    obtain ⟨a2,t2,ho⟩:=famOp_append hf
    cases ho
    refine ⟨t',by simp only [stepOp,q1],?_⟩
    exact q2
   | none=>
   have hf':=famOp_none_same hn hG hev hf
   simp only [stepOp,hf,hf',h1] at h ⊢
   split at h
   ·(try simp only [*])
    obtain ⟨t',h3,h4⟩:=builtinA_same (al:=false) hn hG h
    refine ⟨t',h3,?_⟩
    have:(!isN (.call { callee:=.builtin b,args:=args,argTypes:=tys }))=isWB b∨isWB b=false:=by cases b <;> simp [isN,isWB]
    rcases this with this | this
    ·rw [this]; exact h4
    ·obtain ⟨pre,preB,G,p1,p2,p3⟩:=h4
     exact ⟨pre,preB,G,p1,fun _=>p2 this,p3⟩
   ·cases h
  | _=>simp [stepOp] at h
 all_goals (simp [stepOp] at h)
end
end Go.Am
namespace Go.Am
open Go
structure Eqv (s t:St):Prop where
 l:lk s.slots=lk t.slots
 b:lkB s.boxes=lkB t.boxes
 G:s.G=t.G
 m:s.marks=t.marks
 ro:s.ro=t.ro
 n:s.n=t.n
theorem Eqv.refl (s:St):Eqv s s:=⟨rfl,rfl,rfl,rfl,rfl,rfl⟩
theorem Eqv.symm {s t:St} (h:Eqv s t):Eqv t s:=⟨h.l.symm,h.b.symm,h.G.symm,h.m.symm,h.ro.symm,h.n.symm⟩
theorem Eqv.trans {s t u:St} (h:Eqv s t) (k:Eqv t u):Eqv s u:=⟨h.l.trans k.l,h.b.trans k.b,h.G.trans k.G,h.m.trans k.m,h.ro.trans k.ro,h.n.trans k.n⟩
theorem lk_append {a b:Slots} {e:Nat} (h:lk a e=lk b e):∀ pre:Slots,lk (pre++a) e=lk (pre++b) e
 | []=>h
 | .put d x :: pre=>by
  simp only [List.cons_append,lk]
  rw [lk_append h pre]
 | .kill d :: pre=>by
  simp only [List.cons_append,lk]
  rw [lk_append h pre]
theorem lkB_append {a b:Boxes} {e:Nat} (h:lkB a e=lkB b e):∀ pre:Boxes,lkB (pre++a) e=lkB (pre++b) e
 | []=>h
 | (d,x) :: pre=>by
  simp only [List.cons_append,lkB]
  rw [lkB_append h pre]
theorem Eqv.eff {s t:St} (h:Eqv s t) (pre:Slots) (preB:Boxes) (G:List GO):Eqv (s.eff pre preB G) (t.eff pre preB G):=
 ⟨funext fun e=>lk_append (by rw [h.l]) pre,funext fun e=>lkB_append (by rw [h.b]) preB,rfl,h.m,h.ro,h.n⟩
theorem evO_lk {E:Env} {a b:Slots} {x:Operand} (h:∀ t,x=.tmp t→lk a t=lk b t):evO E a x=evO E b x:=by
 cases x with
 | tmp t=>exact h t rfl
 | _=>rfl
theorem Eqv.evO {E:Env} {s t:St} (h:Eqv s t) (x:Operand):evO E s.slots x=evO E t.slots x:=evO_lk fun e _=>by rw [h.l]
section rep
variable {E:Env} {R:Realm} {w:World} {β:Nat→Nat} {s t:St} {a:Act}
theorem Rep.eqv (h:Rep E R w β s a) (e:Eqv s t):Rep E R w β t a where
 g:=by rw [← e.G]; exact h.g
 b:=⟨fun k cs hk=>h.b.box k cs (by rw [e.b]; exact hk),fun k k' c c' h1 h2=>h.b.inj k k' c c' (by rw [e.b]; exact h1) (by rw [e.b]; exact h2)⟩
 t:=fun i hi=>by
  rw [← e.l] at hi ⊢
  exact h.t i hi
 n:=by rw [← e.n]; exact h.n
 d:=by rw [← e.m]; exact h.d
theorem own_eqv {bx bx':Boxes} (h:lkB bx=lkB bx') {b:Nat} (k:Own R β bx b):Own R β bx' b:=by
 rcases k with k | ⟨j,cs,h1,h2⟩
 ·exact .inl k
 ·exact .inr ⟨j,cs,by rw [← h]; exact h1,h2⟩
theorem Step.eqv {R':Realm} {w':World} {β':Nat→Nat} {bx bx' cx cx':Boxes} (h:Step R w β bx R' w' β' bx') (h1:lkB bx=lkB cx) (h2:lkB bx'=lkB cx'):Step R w β cx R' w' β' cx':=
 ⟨h.ext,h.os,h.tape,h.output,h.size,fun b hb hn=>h.keep b hb (fun ho=>hn (own_eqv h1 ho)),fun b hb ho=>own_eqv h1 (h.own b hb (own_eqv h2.symm ho)),fun b o hi hb hn=>h.im b o hi hb (fun ho=>hn (own_eqv h1 ho))⟩
end rep
section ops
variable {E:Env} {s t:St} {f:FuncId} {o:Oper} {K K':St→Prop}
def Inv (K:St→Prop):Prop:=∀ s t,Eqv s t→K s→K t
theorem isN_noAlloc {op:Op} (h:isN op=true):isAlloc op=false:=by
 cases op <;> simp_all [isN,isAlloc]
theorem awOp_same (hn:s.n=t.n) (hG:s.G=t.G) (hB:lkB s.boxes=lkB t.boxes) (hev:∀ y∈o.op.operands,evO E s.slots y=evO E t.slots y) (h:awOp E f o K s)
  (hK:∀ pre preB G,Pre (isAlloc o.op) o.dst pre→(isN o.op=true→preB=[]∧G=s.G)→K (s.eff pre preB G)→K' (t.eff pre preB G)):awOp E f o K' t:=by
 unfold awOp at h ⊢
 split at h
 ·rename_i x args tys ho
  have h1:evO E s.slots x=evO E t.slots x:=hev x (by rw [ho]; simp [Op.operands,Call.operands])
  have h2:evL E s.slots args.toList=evL E t.slots args.toList:=evL_congr fun y hy=>hev y (by rw [ho]; simp [Op.operands,Call.operands]; exact .inr (by simpa using hy))
  try simp only [ho]
  rw [← h1,← h2,← hG]
  split at h
  ·refine ACalls.mono h fun r G' hk=>?_
   obtain ⟨pre,preB,G,p1,p2,p3,p4⟩:=SameEff.putG (s:=s) (t:=t) (al:=isAlloc o.op) hn G' o.dst (.v r)
   rw [p3] at hk
   rw [p4]
   exact hK pre preB G p1 (fun e=>by rw [ho] at e; simp [isN] at e) hk
  ·refine ARound.mono h fun r G' hk=>?_
   obtain ⟨pre,preB,G,p1,p2,p3,p4⟩:=SameEff.putG (s:=s) (t:=t) (al:=isAlloc o.op) hn G' o.dst (.v (.bool r))
   rw [p3] at hk
   rw [p4]
   exact hK pre preB G p1 (fun e=>by rw [ho] at e; simp [isN] at e) hk
  ·exact h.elim
 ·exact h.elim
 ·split at h
  ·rename_i c s' hs
   obtain ⟨t',h1,pre,preB,G,p1,p2,p3,p4⟩:=stepOp_same hn hG hB hev hs
   rw [h1]
   obtain ⟨rfl,hk⟩:=h.out
   refine condP.mk rfl ?_
   rw [p3] at hk
   rw [p4]
   exact hK pre preB G p1 (fun e=>⟨(p2 (by simp [e])).1,(p2 (by simp [e])).2.1⟩) hk
  ·exact h.elim
theorem awOp_mono (h:awOp E f o K s) (hK:∀ s,K s→K' s):awOp E f o K' s:=
 awOp_same rfl rfl rfl (fun _ _=>rfl) h fun _ _ _ _ _ hk=>hK _ hk
theorem awOp_eqv (h:awOp E f o K s) (e:Eqv s t) (hK:Inv K):awOp E f o K t:=
 awOp_same e.n e.G e.b (fun y _=>e.evO y) h fun _ _ _ _ _ hk=>hK _ _ (e.eff _ _ _) hk
def gst (ops:List Oper) (s:St) (o:Oper):Option Bool:=match o.guard with
 | none=>some true
 | some (j,want)=>match dstOf ops j with
  | some d=>match lk s.slots d with
   | .v (.bool b)=>some (b == want)
   | .v (.tup [])=>some false
   | _=>none
  | none=>none
theorem put_same (s:St) {d:Tmp} {x:SV} (h:lk s.slots d=x):Eqv s (s.put (some d) x):=by
 simp only [St.put]
 split
 ·refine ⟨funext fun e=>?_,rfl,rfl,rfl,rfl,rfl⟩
  by_cases k:d=e
  ·subst k; rw [lk_put_self]; exact h
  ·rw [lk_put_ne k]
 ·exact Eqv.refl s
theorem Eqv.put {s t:St} (h:Eqv s t) (d:Option Tmp) (x:SV):Eqv (s.put d x) (t.put d x):=by
 obtain ⟨pre,preB,G,_,_,p3,p4⟩:=SameEff.put (s:=s) (t:=t) (al:=false) (w:=false) h.n h.G d x
 rw [p3,p4]
 exact h.eff _ _ _
theorem awGuard_iff {ops:List Oper} (hK:Inv K):awGuard E f ops o K s↔(gst ops s o=some true∧awOp E f o K s)∨(gst ops s o=some false∧K (s.put o.dst (.v undefA))):=by
 unfold awGuard gst
 cases hg:o.guard with
 | none=>simp
 | some p=>
  obtain ⟨j,want⟩:=p
  simp only
  cases hd:dstOf ops j with
  | none=>simp
  | some d=>
   simp only
   cases hl:lk s.slots d with
   | none=>simp
   | lp _ _=>simp
   | v a=>
    cases a with
    | bool b=>
     have e1:b=want→Eqv s (s.put (some d) (.v (.bool want))):=fun e=>put_same s (by rw [hl,e])
     have e2:b=(!want)→Eqv s (s.put (some d) (.v (.bool (!want)))):=fun e=>put_same s (by rw [hl,e])
     constructor
     ·intro ⟨h1,h2⟩
      by_cases e:b=want
      ·exact .inl ⟨by simp [e],awOp_eqv (h1 e) (e1 e).symm hK⟩
      ·have e':b=(!want):=by cases b <;> cases want <;> simp_all
       exact .inr ⟨by simp [e],hK _ _ ((e2 e').symm.put _ _) (h2 e')⟩
     ·rintro (⟨h1,h2⟩ | ⟨h1,h2⟩)
      ·have e:b=want:=by simpa using h1
       exact ⟨fun e=>awOp_eqv h2 (e1 e) hK,fun e'=>by subst e; cases b <;> cases e'⟩
      ·have e:¬ b=want:=by simpa using h1
       exact ⟨fun k=>absurd k e,fun e'=>hK _ _ ((e2 e').put _ _) h2⟩
    | tup vs=>cases vs <;> simp
    | _=>simp
theorem awGuard_mono {ops:List Oper} (h:awGuard E f ops o K s) (hK:∀ s,K s→K' s):awGuard E f ops o K' s:=by
 unfold awGuard at h ⊢
 split at h
 ·exact awOp_mono h hK
 ·split at h
  ·exact h.elim
  ·split at h
   ·exact ⟨fun e=>awOp_mono (h.1 e) hK,fun e=>hK _ (h.2 e)⟩
   ·exact hK _ h
   ·exact h.elim
theorem gst_eqv {ops:List Oper} (e:Eqv s t):gst ops s o=gst ops t o:=by
 unfold gst
 rw [e.l]
theorem awGuard_eqv {ops:List Oper} (hK:Inv K):Inv (awGuard E f ops o K):=fun s t e h=>by
 rw [awGuard_iff hK] at h ⊢
 rcases h with ⟨h1,h2⟩ | ⟨h1,h2⟩
 ·exact .inl ⟨by rw [← gst_eqv e]; exact h1,awOp_eqv h2 e hK⟩
 ·exact .inr ⟨by rw [← gst_eqv e]; exact h1,hK _ _ (e.put _ _) h2⟩
end ops
end Go.Am
namespace Go.Am
open Go
def SameS (dst:Option Tmp) (s t s' t':St):Prop:=∃ x,s'=s.put dst x∧t'=t.put dst x
section
variable {E:Env} {s t:St} {o:Oper}
theorem SameS.put (_:s.n=t.n) (dst:Option Tmp) (x:SV):SameS dst s t (s.put dst x) (t.put dst x):=⟨x,rfl,rfl⟩
theorem stepOp_slot {f:FuncId} {c:Bool} {s':St} (hN:isN o.op=true) (hR:isR o.op=false) (hn:s.n=t.n) (hev:∀ y∈o.op.operands,evO E s.slots y=evO E t.slots y)
  (h:stepOp E f s o=some (c,s')):∃ t',stepOp E f t o=some (c,t')∧SameS o.dst s t s' t':=by
 obtain ⟨dst,op,ty,pos,after,guard⟩:=o
 cases op
 case move x=>
  simp only [stepOp,hev x (by simp [Op.operands])] at h ⊢
  split at h
  all_goals (injection h with h; injection h with h1 h2; subst h1 h2; (try simp only [*]); exact ⟨_,rfl,.put hn _ _⟩)
 case assign x=>
  simp only [stepOp,hev x (by simp [Op.operands])] at h ⊢
  split at h
  all_goals (injection h with h; injection h with h1 h2; subst h1 h2; (try simp only [*]); exact ⟨_,rfl,.put hn _ _⟩)
 case pick x y z=>
  simp only [stepOp,hev x (by simp [Op.operands]),hev y (by simp [Op.operands]),hev z (by simp [Op.operands])] at h ⊢
  split at h
  ·injection h with h; injection h with h1 h2; subst h1 h2; (try simp only [*]); exact ⟨_,rfl,.put hn _ _⟩
  ·cases h
 case build ty ps=>
  have he:buildA E s ty ps.toList=buildA E t ty ps.toList:=by
   unfold buildA
   rw [evP_congr (fun p hp=>hev p.2 (by simp only [Op.operands,List.mem_toArray,List.mem_map]; exact ⟨p,hp,rfl⟩))]
  simp only [stepOp,he] at h ⊢
  split at h
  ·injection h with h; injection h with h1 h2; subst h1 h2; (try simp only [*]); exact ⟨_,rfl,.put hn _ _⟩
  ·cases h
 case buildSlice ty len ps=>
  have he:buildSliceA E s ty len ps.toList=buildSliceA E t ty len ps.toList:=by
   unfold buildSliceA
   rw [evP_congr (fun p hp=>hev p.2 (by simp only [Op.operands,List.mem_toArray,List.mem_map]; exact ⟨p,hp,rfl⟩))]
  simp only [stepOp,he] at h ⊢
  split at h
  ·injection h with h; injection h with h1 h2; subst h1 h2; (try simp only [*]); exact ⟨_,rfl,.put hn _ _⟩
  ·cases h
 case binOp op a x y b=>
  simp only [stepOp,hev x (by simp [Op.operands]),hev y (by simp [Op.operands])] at h ⊢
  repeat' (split at h)
  all_goals (first | (cases h; done) | skip)
  all_goals (injection h with h; injection h with h1 h2; subst h1 h2; (try simp only [*]); exact ⟨_,rfl,.put hn _ _⟩)
 case unOp op a x=>
  simp only [stepOp,hev x (by simp [Op.operands])] at h ⊢
  repeat' (split at h)
  all_goals (first | (cases h; done) | skip)
  all_goals (injection h with h; injection h with h1 h2; subst h1 h2; (try simp only [*]); exact ⟨_,rfl,.put hn _ _⟩)
 case convert a b x=>simp [isR] at hR
 case nilCheck x=>
  simp only [stepOp,hev x (by simp [Op.operands])] at h ⊢
  repeat' (split at h)
  all_goals (first | (cases h; done) | skip)
  all_goals (injection h with h; injection h with h1 h2; subst h1 h2; (try simp only [*]); exact ⟨_,rfl,.put hn _ _⟩)
 case makeFunc fo a b=>
  cases fo with
  | func g=>
   have h1:evL E s.slots a.toList=evL E t.slots a.toList:=evL_congr fun y hy=>hev y (by simp only [Op.operands,Array.mem_append]; exact .inl (by simpa using hy))
   have h2:evL E s.slots b.toList=evL E t.slots b.toList:=evL_congr fun y hy=>hev y (by simp only [Op.operands,Array.mem_append]; exact .inr (by simpa using hy))
   simp only [stepOp,h1,h2] at h ⊢
   repeat' (split at h)
   all_goals (first | (cases h; done) | skip)
   all_goals (injection h with h; injection h with h1 h2; subst h1 h2; (try simp only [*]); exact ⟨_,rfl,.put hn _ _⟩)
  | _=>simp [stepOp] at h
 case fieldAddr a x j=>
  simp only [stepOp,hev x (by simp [Op.operands])] at h ⊢
  repeat' (split at h)
  all_goals (first | (cases h; done) | skip)
  all_goals (injection h with h; injection h with h1 h2; subst h1 h2; (try simp only [*]); exact ⟨_,rfl,.put hn _ _⟩)
 case field a x j=>
  simp only [stepOp,hev x (by simp [Op.operands])] at h ⊢
  repeat' (split at h)
  all_goals (first | (cases h; done) | skip)
  all_goals (injection h with h; injection h with h1 h2; subst h1 h2; (try simp only [*]); exact ⟨_,rfl,.put hn _ _⟩)
 case indexAddr a x y=>
  simp only [stepOp,hev x (by simp [Op.operands]),hev y (by simp [Op.operands])] at h ⊢
  repeat' (split at h)
  all_goals (first | (cases h; done) | skip)
  all_goals (injection h with h; injection h with h1 h2; subst h1 h2; (try simp only [*]); exact ⟨_,rfl,.put hn _ _⟩)
 case index a x y=>
  simp only [stepOp,hev x (by simp [Op.operands]),hev y (by simp [Op.operands])] at h ⊢
  repeat' (split at h)
  all_goals (first | (cases h; done) | skip)
  all_goals (injection h with h; injection h with h1 h2; subst h1 h2; (try simp only [*]); exact ⟨_,rfl,.put hn _ _⟩)
 case slice a x lo hi mx=>
  have h1:optO E s.slots lo=optO E t.slots lo:=by
   cases lo with
   | none=>rfl
   | some y=>simp only [optO]; rw [hev y (by simp [Op.operands])]
  have h2:optO E s.slots hi=optO E t.slots hi:=by
   cases hi with
   | none=>rfl
   | some y=>simp only [optO]; rw [hev y (by simp [Op.operands])]
  simp only [stepOp,hev x (by simp [Op.operands]),h1,h2] at h ⊢
  repeat' (split at h)
  all_goals (first | (cases h; done) | skip)
  all_goals (injection h with h; injection h with h1 h2; subst h1 h2; (try simp only [*]); exact ⟨_,rfl,.put hn _ _⟩)
 case extract x i=>
  simp only [stepOp,hev x (by simp [Op.operands])] at h ⊢
  repeat' (split at h)
  all_goals (first | (cases h; done) | skip)
  all_goals (injection h with h; injection h with h1 h2; subst h1 h2; (try simp only [*]); exact ⟨_,rfl,.put hn _ _⟩)
 all_goals (first | (simp [isN] at hN; done) | (simp [isR] at hR; done))
end
end Go.Am
namespace Go.Am
open Go
section
variable {E:Env} {s t:St} {f:FuncId} {ops:Array Oper} {o oj oi:Oper} {d:Tmp} {x:SV} {K:St→Prop}
theorem dstOf_eq (ops:Array Oper) (j:Nat):dstOf ops.toList j=(ops[j]?).bind (·.dst):=by
 unfold dstOf
 rw [nth_eq,Array.getElem?_toList]
 cases ops[j]? <;> rfl
theorem mem_looks_op {e:Tmp} (h:.tmp e∈o.op.operands):e∈o.looksAt ops:=
 List.mem_append_left _ (List.mem_filterMap.2 ⟨.tmp e,by simpa using h,rfl⟩)
theorem mem_looks_guard {j:Nat} {want:Bool} {e:Tmp} (h:o.guard=some (j,want)) (he:dstOf ops.toList j=some e):e∈o.looksAt ops:=by
 rw [dstOf_eq] at he
 refine List.mem_append_right _ ?_
 rw [h]
 simp [he]
theorem ev_looks (h:∀ e∈o.looksAt ops,lk s.slots e=lk t.slots e):∀ y∈o.op.operands,evO E s.slots y=evO E t.slots y:=fun _ hy=>
 evO_lk fun e he=>h e (mem_looks_op (he ▸ hy))
theorem gst_looks (h:∀ e∈o.looksAt ops,lk s.slots e=lk t.slots e):gst ops.toList s o=gst ops.toList t o:=by
 unfold gst
 split
 ·rfl
 ·rename_i j want hg
  split
  ·rename_i e he
   rw [h e (mem_looks_guard hg he)]
  ·rfl
theorem lk_putS (s:St) (d:Tmp) (x:SV) {e:Nat} (h:d≠e):lk (s.put (some d) x).slots e=lk s.slots e:=by
 simp only [St.put]
 split
 ·exact lk_put_ne h
 ·rfl
theorem boxes_putS (s:St) (d:Option Tmp) (x:SV):(s.put d x).boxes=s.boxes∧(s.put d x).G=s.G∧(s.put d x).n=s.n∧(s.put d x).marks=s.marks∧(s.put d x).ro=s.ro:=by
 cases d with
 | none=>exact ⟨rfl,rfl,rfl,rfl,rfl⟩
 | some d=>
  simp only [St.put]
  split <;> exact ⟨rfl,rfl,rfl,rfl,rfl⟩
def NExec (E:Env) (f:FuncId) (ops:Array Oper) (o:Oper) (s:St) (x:SV):Prop:=
 (gst ops.toList s o=some true∧stepOp E f s o=some (true,s.put o.dst x))∨(gst ops.toList s o=some false∧x=.v undefA)
theorem stepOp_N {c:Bool} {s':St} (hN:isN o.op=true) (h:stepOp E f s o=some (c,s')):∃ x,s'=s.put o.dst x:=by
 obtain ⟨t',_,pre,preB,G,_,h2,_,_⟩:=stepOp_same (t:=s) rfl rfl rfl (fun _ _=>rfl) h
 obtain ⟨_,_,x,hx,_⟩:=h2 (by simp [hN])
 exact ⟨x,hx⟩
theorem awOp_N (hN:isN o.op=true):awOp E f o K s↔∃ s',stepOp E f s o=some (true,s')∧K s':=by
 unfold awOp
 split
 ·rename_i h
  rw [h] at hN
  simp [isN] at hN
 ·rename_i h
  rw [h] at hN
  simp [isN] at hN
 ·split
  ·rename_i c s' hs
   constructor
   ·intro h
    obtain ⟨rfl,hk⟩:=h.out
    exact ⟨s',hs,hk⟩
   ·rintro ⟨s'',h1,h2⟩
    rw [hs] at h1
    cases h1
    exact condP.mk rfl h2
  ·rename_i hs
   constructor
   ·exact fun h=>h.elim
   ·rintro ⟨s'',h1,_⟩
    rw [hs] at h1
    cases h1
theorem nexec_of_guard (hN:isN o.op=true) (hK:Inv K) (h:awGuard E f ops.toList o K s):∃ x,NExec E f ops o s x∧K (s.put o.dst x):=by
 rcases (awGuard_iff hK).1 h with ⟨h1,h2⟩ | ⟨h1,h2⟩
 ·obtain ⟨s',h3,h4⟩:=(awOp_N hN).1 h2
  obtain ⟨x,rfl⟩:=stepOp_N hN h3
  exact ⟨x,.inl ⟨h1,h3⟩,h4⟩
 ·exact ⟨_,.inr ⟨h1,rfl⟩,h2⟩
theorem guard_of_nexec (hN:isN o.op=true) (hK:Inv K) (hx:NExec E f ops o s x) (h:K (s.put o.dst x)):awGuard E f ops.toList o K s:=by
 rw [awGuard_iff hK]
 rcases hx with ⟨h1,h2⟩ | ⟨h1,rfl⟩
 ·exact .inl ⟨h1,(awOp_N hN).2 ⟨_,h2,h⟩⟩
 ·exact .inr ⟨h1,h⟩
def reG (E:Env) (f:FuncId) (ops:List Oper) (o:Oper) (s:St):Prop:=match gst ops s o with
 | some true=>match o.dst,stepOp E f s o with
  | some d,some (c,s')=>c=true∧lk s'.slots d=lk s.slots d
  | _,_=>False
 | some false=>True
 | none=>False
theorem reG_off (hN:isN o.op=true) (hd:d∉o.looksAt ops) (hne:o.dst≠some d) (he:∀ e,d≠e→lk s.slots e=lk t.slots e) (hB:lkB s.boxes=lkB t.boxes) (hG:s.G=t.G) (hn:s.n=t.n)
  (h:reG E f ops.toList o s):reG E f ops.toList o t:=by
 have hl:∀ e∈o.looksAt ops,lk s.slots e=lk t.slots e:=fun e hm=>he e fun k=>hd (k ▸ hm)
 unfold reG at h ⊢
 rw [← gst_looks hl]
 split
 ·rename_i hg
  rw [hg] at h
  simp only at h
  split at h
  ·rename_i e c s' hdst hs
   obtain ⟨t',h3,pre,preB,G,_,h4,_,_⟩:=stepOp_same hn hG hB (ev_looks hl) hs
   obtain ⟨_,_,y,h5,h6⟩:=h4 (by simp [hN])
   rw [hdst,h3]
   refine ⟨h.1,?_⟩
   have hde:d≠e:=fun k=>hne (by rw [hdst,k])
   have h7:=h.2
   rw [h5,hdst] at h7
   rw [h6,hdst,← he e hde]
   simp only [St.put,← hn] at h7 ⊢
   split
   ·rename_i hb
    rw [hb] at h7
    simp only [lk_put_self] at h7 ⊢
    exact h7
   ·exact (he e hde).symm
  ·exact h.elim
 ·trivial
 ·rename_i hg
  rw [hg] at h
  exact h
theorem reG_eqv (hN:isN o.op=true) (e:Eqv s t) (h:reG E f ops.toList o s):reG E f ops.toList o t:=by
 unfold reG at h ⊢
 rw [← gst_eqv e]
 split
 ·rename_i hg
  rw [hg] at h
  simp only at h
  split at h
  ·rename_i d c s' hdst hs
   obtain ⟨t',h3,pre,preB,G,_,h4,_,_⟩:=stepOp_same e.n e.G e.b (fun y _=>e.evO y) hs
   obtain ⟨_,_,y,h5,h6⟩:=h4 (by simp [hN])
   rw [hdst,h3]
   refine ⟨h.1,?_⟩
   rw [h6,← (e.put o.dst y).l,← h5,← e.l]
   exact h.2
  ·exact h.elim
 ·trivial
 ·rename_i hg
  rw [hg] at h
  exact h
def disturbs (oj oi:Oper):Bool:=isAlloc oi.op || (isR oj.op&&!isN oi.op)
theorem lk_pre {al:Bool} {dst:Option Tmp} {pre:Slots} (h:Pre al dst pre) {e:Nat} (he:dst≠some e) (l:Slots):lk (pre++l) e=lk l e∨(al=true∧∃ k off,lk l e=.lp k off):=by
 rcases h with rfl | ⟨d,y,rfl,rfl | ⟨rfl,rfl⟩⟩
 ·exact .inl rfl
 ·exact .inl (lk_put_ne fun k=>he (by rw [k]))
 ·simp only [List.cons_append,List.nil_append]
  rw [lk_put_ne (fun k=>he (by rw [k]))]
  simp only [lk]
  cases hl:lk l e with
  | lp k off=>exact .inr ⟨trivial,k,off,rfl⟩
  | _=>exact .inl rfl
theorem put_eff_comm {al:Bool} {pre:Slots} (preB:Boxes) (G:List GO) (h:Pre al oi.dst pre) (hne:oi.dst≠some d) (hx:al=false∨∃ a,x=.v a):Eqv ((s.put (some d) x).eff pre preB G) ((s.eff pre preB G).put (some d) x):=by
 have hb:∀ b,Nat.blt d s.n=b→Eqv ((s.put (some d) x).eff pre preB G) ((s.eff pre preB G).put (some d) x):=fun b hb=>by
  have hb':Nat.blt d (s.eff pre preB G).n=b:=hb
  rw [put_eff,put_eff,hb,hb']
  cases b with
  | false=>exact Eqv.refl _
  | true=>
   refine ⟨funext fun e=>?_,rfl,rfl,rfl,rfl,rfl⟩
   simp only [cond_true,St.eff,List.cons_append,List.nil_append]
   by_cases k:d=e
   ·subst k
    rw [lk_put_self]
    rcases lk_pre h hne (.put d x :: s.slots) with h1 | ⟨h1,k,off,h2⟩
    ·rw [h1,lk_put_self]
    ·rw [lk_put_self] at h2
     rcases hx with hx | ⟨a,hx⟩
     ·rw [hx] at h1; cases h1
     ·rw [hx] at h2; cases h2
   ·rw [lk_put_ne k]
    exact lk_append (lk_put_ne k) pre
 exact hb _ rfl
theorem comm_core (hN:isN oj.op=true) (hdj:oj.dst=some d) (hself:d∉oj.looksAt ops) (hap:oj.apart ops oi=true) (hK:Inv K) (hx:NExec E f ops oj s x) {pre:Slots} {preB:Boxes} {G:List GO}
  (hpre:Pre (isAlloc oi.op) oi.dst pre) (hNi:isN oi.op=true→preB=[]∧G=s.G) (hk:K ((s.put (some d) x).eff pre preB G)) (hre:∀ t',K t'→disturbs oj oi=true→reG E f ops.toList oj t') :
  ∃ x',NExec E f ops oj (s.eff pre preB G) x'∧K ((s.eff pre preB G).put (some d) x'):=by
 obtain ⟨_,hne,hlo⟩:=Oper.apart_spec hap
 have hne':oi.dst≠some d:=hne d hdj
 have hoi:∀ e∈oj.looksAt ops,oi.dst≠some e:=fun e he k=>hlo e k he
 have hlk:∀ e∈oj.looksAt ops,(isAlloc oi.op=false∨∃ b,lk s.slots e=.v b)→lk s.slots e=lk (s.eff pre preB G).slots e:=fun e he ha=>by
  rcases lk_pre hpre (hoi e he) s.slots with h1 | ⟨h1,k,off,h2⟩
  ·exact h1.symm
  ·rcases ha with ha | ⟨b,ha⟩
   ·rw [ha] at h1; cases h1
   ·rw [ha] at h2; cases h2
 have hgst:∀ b,gst ops.toList s oj=some b→gst ops.toList (s.eff pre preB G) oj=some b:=fun b hb=>by
  unfold gst at hb ⊢
  split
  ·rename_i hg; rw [hg] at hb; exact hb
  ·rename_i j want hg
   rw [hg] at hb
   simp only at hb
   split
   ·rename_i e he
    rw [he] at hb
    simp only at hb
    split at hb
    ·rename_i b' hl
     have:=hlk e (mem_looks_guard hg he) (.inr ⟨_,hl⟩)
     rw [← this,hl]
     exact hb
    ·rename_i hl
     have:=hlk e (mem_looks_guard hg he) (.inr ⟨_,hl⟩)
     rw [← this,hl]
     exact hb
    ·cases hb
   ·rename_i he; rw [he] at hb; cases hb
 rcases hx with ⟨h1,h2⟩ | ⟨h1,rfl⟩
 ·rw [hdj] at h2
  by_cases hdis:disturbs oj oi=true
  ·have hr:=hre _ hk hdis
   -- the state with the slot, and the one without it
   have hoff:∀ e,d≠e→lk ((s.put (some d) x).eff pre preB G).slots e=lk (s.eff pre preB G).slots e:=fun e he=>lk_append (lk_putS s d x he) pre
   have hB:lkB ((s.put (some d) x).eff pre preB G).boxes=lkB (s.eff pre preB G).boxes:=by
    simp only [St.eff]; rw [(boxes_putS s _ x).1]
   have hn:((s.put (some d) x).eff pre preB G).n=(s.eff pre preB G).n:=(boxes_putS s _ x).2.2.1
   have hl2:∀ e∈oj.looksAt ops,lk ((s.put (some d) x).eff pre preB G).slots e=lk (s.eff pre preB G).slots e:=fun e he=>hoff e fun k=>hself (k ▸ he)
   have hg2:gst ops.toList ((s.put (some d) x).eff pre preB G) oj=some true:=by rw [gst_looks hl2]; exact hgst _ h1
   unfold reG at hr
   rw [hg2] at hr
   simp only [hdj] at hr
   split at hr
   ·rename_i d' c s' hd' hs
    cases hd'
    obtain ⟨rfl,hr⟩:=hr
    obtain ⟨t',h3,p,pB,G2,_,h4,_,_⟩:=stepOp_same (t:=s.eff pre preB G) hn rfl hB (ev_looks hl2) hs
    obtain ⟨_,_,y,h5,h6⟩:=h4 (by simp [hN])
    rw [h6] at h3
    rw [h5,hdj] at hr
    refine ⟨y,.inl ⟨hgst _ h1,h3⟩,hK _ _ ?_ hk⟩
    have hmr:((s.put (some d) x).eff pre preB G).marks=(s.eff pre preB G).marks∧((s.put (some d) x).eff pre preB G).ro=(s.eff pre preB G).ro:=(boxes_putS s _ x).2.2.2
    obtain ⟨q1,q2,q3,q4,q5⟩:=boxes_putS (s.eff pre preB G) (some d) y
    refine ⟨funext fun e=>?_,by rw [q1]; exact hB,by rw [q2]; rfl,by rw [q4]; exact hmr.1,by rw [q5]; exact hmr.2,by rw [q3]; exact hn⟩
    by_cases k:d=e
    ·subst k
     rw [← hr]
     have hb:∀ b,Nat.blt d s.n=b→lk (((s.put (some d) x).eff pre preB G).put (some d) y).slots d=lk ((s.eff pre preB G).put (some d) y).slots d:=fun b hb=>by
      have hb1:Nat.blt d (s.eff pre preB G).n=b:=hb
      have hb2:Nat.blt d ((s.put (some d) x).eff pre preB G).n=b:=by rw [hn]; exact hb
      rw [put_eff _ d y,put_eff _ d y,hb1,hb2]
      cases b with
      | true=>simp [St.eff,lk_put_self]
      | false=>
       simp only [cond_false]
       rw [put_eff,hb]
       rfl
     exact hb _ rfl
    ·rw [lk_putS _ _ _ k]
     exact hoff e k
   ·exact hr.elim
  ·have hal:isAlloc oi.op=false:=by cases ha:isAlloc oi.op <;> simp_all [disturbs]
   have hl:∀ e∈oj.looksAt ops,lk s.slots e=lk (s.eff pre preB G).slots e:=fun e he=>hlk e he (.inl hal)
   have fin:∀ y,s.put (some d) x=s.put (some d) y→stepOp E f (s.eff pre preB G) oj=some (true,(s.eff pre preB G).put oj.dst y) →
     ∃ x',NExec E f ops oj (s.eff pre preB G) x'∧K ((s.eff pre preB G).put (some d) x'):=fun y hy hs=>by
    refine ⟨y,.inl ⟨hgst _ h1,hs⟩,hK _ _ (put_eff_comm (oi:=oi) preB G hpre hne' (.inl hal)) ?_⟩
    rw [← hy]
    exact hk
   cases hNo:isN oi.op with
   | true=>
    obtain ⟨rfl,rfl⟩:=hNi hNo
    obtain ⟨t',h3,p,pB,G2,_,h4,_,_⟩:=stepOp_same (s:=s) (t:=s.eff pre [] s.G) rfl rfl rfl (ev_looks hl) h2
    obtain ⟨_,_,y,h5,h6⟩:=h4 (by simp [hN])
    rw [hdj] at h5
    exact fin y h5 (by rw [h3,h6])
   | false=>
    have hR:isR oj.op=false:=by cases ha:isR oj.op <;> simp_all [disturbs]
    obtain ⟨t',h3,y,h5,h6⟩:=stepOp_slot (s:=s) (t:=s.eff pre preB G) hN hR rfl (ev_looks hl) h2
    rw [hdj] at h5
    exact fin y h5 (by rw [h3,h6])
 ·exact ⟨_,.inr ⟨hgst _ h1,rfl⟩,hK _ _ (put_eff_comm (oi:=oi) preB G hpre hne' (.inr ⟨_,rfl⟩)) hk⟩
end
end Go.Am
