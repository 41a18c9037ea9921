/- The laws' frame with the library's variables: a table of powers,a bound that may be any. -/
import Derived.Test.YtfiopgedfcaodaaGreatDoorSeamF
import Derived.Test.YtfiopgedfcaodaaGreatDoorSeamMe
import Derived.Shelf.Vars
set_option linter.all false
namespace Go.Am
open Go
variable {H:Type} {enc:TypeId × Value→H}
theorem returnsInHanded_shaped {a:Assume} {C:Checked} {os:Os} {f:FuncId} {fn:Func} {s:ChangeSpec} {conds:List PathCond} {apart fresh handsOn again:Bool} {X:World→Array Value→Prop}
  (hX:∀ (w w':World) (args:Array Value),w.heap=w'.heap→X w args→X w' args)
  (own:ownKnob C.prog.godebug=none) (started:os.Started) (noInit:C.prog.inits.idxOf? f=none) (hfn:C.prog.funcs[f]?=some fn)
  (witness:∃ (w:World) (tape:Tape) (i:Input),w.os=os∧(w.forCall tape i).Shaped C.prog∧i.vars=[]∧Input.okWide C.prog (w.forCall tape i) .any w.heap.size f i ∧
   ((s.pre enc C.prog fn conds apart (w.forCall tape i).memory i.args∧X (w.forCall tape i).memory i.args)∧sizedMet enc C.prog fn (OpenSpec.ofChange s) apart (w.forCall tape i).memory i.args)∧a.holds C.prog (lone (Frame.enter C.prog f i.args .normal) [] (w.forCall tape i)))
  (contract:∀ (W:World) (base:Nat) (args:Array Value) (ds gs:List (DataW H)) (before:List MemPlace),
   (∀ (j:Nat) t v,fn.params[j]?=some t→args[j]?=some v→Value.okWide C.prog W .any base t v) →
   DataW.Whole enc C.prog fn.params.toList s.vars apart W args.toList ds gs before→X W args→W.ShapedOpen C.prog →
   Calls C.prog f args W fun e W'=>∃ v,e=.returned v∧s.post enc C.prog fn apart fresh handsOn again W args v W') :
  ReturnsInHanded a C os f .any (fun w args=>(s.pre enc C.prog fn conds apart w args∧X w args)∧sizedMet enc C.prog fn (OpenSpec.ofChange s) apart w args) (s.post enc C.prog fn apart fresh handsOn again):=by
 refine returnsInHanded_of_calls own started noInit witness ?_
 intro w tape i _ hsh _ hok hpre _
 obtain ⟨_,_,_,fn',hfn',_,_,_,_,hval⟩:=hok
 obtain rfl:fn'=fn:=Option.some.inj (hfn'.symm.trans hfn)
 obtain ⟨⟨⟨ds,gs,before,hw,_⟩,hx⟩,_⟩:=hpre
 refine (contract (w.forCall tape i) w.heap.size i.args ds gs before hval (DataW.Whole.of_heap (w':=w.forCall tape i) (by rfl) hw) (hX _ _ _ (by rfl) hx) hsh).mono fun e W' ⟨v,he,hp⟩=>?_
 subst he
 exact ChangeSpec.post_blind hp
theorem tab_of_laid {P:Program} {W:World} {nm:String} {k:IntKind} {zs:List Int} {g t e n:Nat} (hg:P.globalNamed nm=some g) (hty:(P.globals[g]?).map (·.type)=some t)
  (ht:P.underlying t=some (.array n e)) (he:P.underlying e=some (.int k)) (hce:P.cellsOf e=1) (hct:P.cellsOf t=n) :
  ∀ {l:List (String × DataW Unit)} {ps:List MemPlace},DataW.LaidVars P W l ps→(nm,Lib.tabData k zs)∈l→Lib.TabIs P W nm k zs
 | [],_,_,hm=>by cases hm
 | (n',d) :: r,ps,h,hm=>by
  obtain ⟨g',t',cs,fuel,p,q,h1,h2,h3,h4,h5,_⟩:=h
  rcases List.mem_cons.1 hm with hm | hm
  ·injection hm with e1 e2
   subst e1; subst e2
   obtain rfl:=Option.some.inj (hg.symm.trans h1)
   obtain rfl:=Option.some.inj (hty.symm.trans h2)
   unfold Lib.TabIs
   rw [h3,← Lib.cells_of_tab ht he hce hct h4]
  ·exact tab_of_laid hg hty ht he hce hct h5 hm
theorem relC_of_tab {P:Program} {W:World} {nm:String} {k:IntKind} {zs:List Int} {g:Nat} (hg:P.globalNamed nm=some g) (h:Lib.TabIs P W nm k zs) (h0:0 < zs.length) :
  RelC (allR W) W g 0 (zs.map fun z=>.int k z)∧g < W.heap.size∧W.cell? ⟨g,zs.length,none⟩=none:=by
 have hc:=fun i=>World.var?_cell hg h i
 have hcell:∀ i,i < zs.length→W.cell? ⟨g,i,none⟩=some (.int k (zs[i]?.getD 0)):=fun i hi=>by
  rw [hc]; simp [hi]
 have hgs:g < W.heap.size:=by
  have h0:=hcell 0 h0
  unfold World.cell? at h0
  split at h0
  ·rename_i hh
   exact (Array.getElem?_eq_some_iff.1 hh).1
  ·cases h0
 exact ⟨relC_ints (cs:=#[]) hgs zs 0 fun i hi=>by rw [Nat.zero_add]; exact hcell i hi,hgs,by rw [hc]; simp⟩
theorem relC_one {W:World} {g:Nat} {k:IntKind} {m:Int} (h:W.cell? ⟨g,0,none⟩=some (.int k m)):RelC (allR W) W g 0 [.int k m]:=by
 have hgs:g < W.heap.size:=by
  unfold World.cell? at h
  split at h
  ·rename_i hh
   exact (Array.getElem?_eq_some_iff.1 hh).1
  ·cases h
 exact relC_ints (cs:=#[]) hgs [m] 0 fun i hi=>by
  have:i=0:=by simpa using hi
  subst this
  exact h
end Go.Am
namespace Go.Proofs.YtfiopgedfcaodaaGreatDoor
open Go Go.Am Go.ChangeShapes Go.WideShapes Go.RowKit
set_option maxRecDepth 100000
abbrev laidR:List (String × DataW Unit):=Rows.seamRatesRow.laid
noncomputable def laidHeapR (h:Array Obj):Array Obj:=laidR.foldl (fun h x=>match Tryz.prog.globalNamed x.1 with
 | some g=>h.modify g fun
   | .cells _ t frozen=>.cells (datC 4 x.2).toArray t frozen
   | o=>o
 | none=>h) h
noncomputable def laidWorldR (os:Os):World:=
 let w0:=World.holding Tryz.prog os ⟨#[],#[],[]⟩
 { w0 with heap:=laidHeapR w0.heap }
theorem laidWorldR_met (os:Os) (args:Array Value):laidMetH Tryz.prog laidR ((laidWorldR os).forCall (fun _ _=>0) ⟨#[],args,[]⟩).memory:=
 laidMetH_of_parts (laidMet_of_run3 8 (by kernel_rfl) (by kernel_rfl) (by kernel_rfl)) (by kernel_rfl)
theorem pow_data : (("internal/strconv.uint64pow10", Rows.laid_internal_strconv_uint64pow10) : String × DataW Unit) = ("internal/strconv.uint64pow10", Lib.tabData .u64 Lib.pow10Tab) := by kernel_rfl
theorem pow_mem : (("internal/strconv.uint64pow10", Lib.tabData .u64 Lib.pow10Tab) : String × DataW Unit) ∈ laidR := by
 rw [← pow_data]
 exact .tail _ (.tail _ (.head _))
theorem pow_len:0 < Lib.pow10Tab.length:=by rw [Lib.pow10Tab_length]; decide
theorem powL {W:World} (h:laidMetH Tryz.prog laidR W):RelC (allR W) W 2 0 powA∧2 < W.heap.size∧W.cell? ⟨2,Lib.pow10Tab.length,none⟩=none:=by
 obtain ⟨ps,h1,_⟩:=(show laidMet Tryz.prog laidR W from h)
 exact relC_of_tab (P := Tryz.prog) (nm := "internal/strconv.uint64pow10") (by kernel_rfl) (tab_of_laid (P := Tryz.prog) (t := 297) (e := 269) (n := 20) (g := 2) (by kernel_rfl) (by kernel_rfl) (by kernel_rfl) (by kernel_rfl) (by kernel_rfl) (by kernel_rfl) h1 pow_mem) pow_len
theorem maxlen_int {W:World} (h:W.ShapedOpen Tryz.prog):∃ m,W.cell? ⟨1,0,none⟩=some (.int .i64 m):=
 cell_of_shapedOpen_int (P:=Tryz.prog) (t:=3) (zero:=#[.int .i64 0]) h (of_decide_eq_true (by kernel_rfl)) (by kernel_rfl) rfl (by kernel_rfl) (by kernel_rfl) (by kernel_rfl)
theorem globM_laid {W:World} {m:Int} (h:laidMetH Tryz.prog laidR W) (hm:W.cell? ⟨1,0,none⟩=some (.int .i64 m)) (g:Nat) (cs:List AV) (hg:(envM m).glob g=some cs):RelC (allR W) W g 0 cs:=by
 have hg':globM m g=some cs:=hg
 unfold globM at hg'
 cases h1:Nat.beq g 1 with
 | true=>
  rw [h1] at hg'
  cases hg'
  rw [Nat.eq_of_beq_eq_true h1]
  exact relC_one hm
 | false=>
  rw [h1] at hg'
  cases h2:Nat.beq g 2 with
  | true=>
   rw [h2] at hg'
   cases hg'
   rw [Nat.eq_of_beq_eq_true h2]
   exact (powL h).1
  | false=>
   rw [h2] at hg'
   exact glob_of_laid' (l:=laidR) (.tail _ (.tail _ (.tail _ (.tail _ (.head _))))) (show laidMet Tryz.prog laidR W from h) g cs hg'
theorem globM_gx {W:World} {m:Int} (h:laidMetH Tryz.prog laidR W) (g:Nat) (cs:List AV) (hg:(envM m).glob g=some cs) (hx:(envM m).gx g=true):g < W.heap.size∧W.cell? ⟨g,cs.length,none⟩=none:=by
 have hg':globM m g=some cs:=hg
 have hx':Nat.beq g 2=true:=hx
 obtain rfl:=Nat.eq_of_beq_eq_true hx'
 cases (show powA=cs from Option.some.inj hg')
 obtain ⟨_,h2,h3⟩:=powL h
 refine ⟨h2,?_⟩
 rw [show powA.length=Lib.pow10Tab.length from List.length_map _]
 exact h3
end Go.Proofs.YtfiopgedfcaodaaGreatDoor
