/- The laws' frame: the listed variables,the library's table and bound,the world of the witness. -/
import Derived.Test.YtldcljfjjoidhaaGreatDoorBraMm
import Derived.Test.YtldcljfjjoidhaaGreatDoorAmKK
import Derived.Test.YtldcljfjjoidhaaGreatDoorRows
import Derived.Test.YtldcljfjjoidhaaGreatDoorCards
import Derived.Test.YtldcljfjjoidhaaGreatDoorTie
import Derived.ChangeSame
import Derived.ChangeVars
import Derived.JoinedOf
import Derived.RowKit
import Derived.RowKitTokens
import Derived.LaidLaws
import Derived.LaidHandle
import Derived.Stop.Joined
import Derived.SevenTiedAt
import Derived.Deep.DeepLaidRun
import Derived.Shelf.Vars
set_option linter.all false
open Array renaming getElem?_eq_some_iff→aax
open Go.Lib renaming pow10Tab→aac
open Go.OpenSpec renaming ofChange→aaB
open Nat renaming eq_of_beq_eq_true→aaa
open Option.some renaming inj→aab
namespace Go.Am
open Go
variable {H:Type} {enc:TypeId × Value→H}
theorem ol {a:Assume} {C:Checked} {os:Os} {f:FuncId} {fn:Func} {s:ChangeSpec} {conds:List PathCond} {apart fresh handsOn again:Bool} {X:World→Array Value→Prop}
  (hX:∀ (w w':World) (args:Array Value),w.heap=w'.heap→X w args→X w' args)
  (own:ownKnob C.prog.godebug=none) (started:os.Started) (Wp:C.prog.inits.idxOf? f=none) (Yg:C.prog.funcs[f]?=some fn)
  (witness:∃ (w:World) (tape:Tape) (i:Input),w.os=os∧(w.forCall tape i).Shaped C.prog∧i.vars=[]∧Input.okWide C.prog (w.forCall tape i) .any w.heap.size f i ∧
   ((s.pre enc C.prog fn conds apart (w.forCall tape i).memory i.args∧X (w.forCall tape i).memory i.args)∧sizedMet enc C.prog fn (aaB s) apart (w.forCall tape i).memory i.args)∧a.holds C.prog (lone (Frame.enter C.prog f i.args .normal) [] (w.forCall tape i)))
  (Np:∀ (W:World) (base:Nat) (args:Array Value) (ds gs:List (DataW H)) (before:List MemPlace),
   (∀ (j:Nat) t v,fn.params[j]?=some t→args[j]?=some v→Value.okWide C.prog W .any base t v) →
   DataW.Whole enc C.prog fn.params.toList s.vars apart W args.toList ds gs before→X W args→W.ShapedOpen C.prog →
   Calls C.prog f args W fun e W'=>∃ v,e=.returned v∧s.post enc C.prog fn apart fresh handsOn again W args v W') :
  ReturnsInHanded a C os f .any (fun w args=>(s.pre enc C.prog fn conds apart w args∧X w args)∧sizedMet enc C.prog fn (aaB s) apart w args) (s.post enc C.prog fn apart fresh handsOn again):=by
 refine returnsInHanded_of_calls own started Wp witness ?_;intro w tape i _ hsh _ eJ Ay _;obtain ⟨_,_,_,Zr,ael,_,_,_,_,JH⟩:=eJ;obtain rfl:Zr=fn:=aab (ael.symm.trans Yg);obtain ⟨⟨⟨ds,gs,before,hw,_⟩,hx⟩,_⟩:=Ay;refine (Np (w.forCall tape i) w.heap.size i.args ds gs before JH (DataW.Whole.of_heap (w':=w.forCall tape i) (by rfl) hw) (hX _ _ _ (by rfl) hx) hsh).mono fun e W' ⟨v,he,hp⟩=>?_
 subst he;exact ChangeSpec.post_blind hp
theorem vM {P:Program} {W:World} {nm:String} {k:IntKind} {zs:List Int} {g t e n:Nat} (hg:P.globalNamed nm=some g) (Jc:(P.globals[g]?).map (·.type)=some t)
  (ht:P.underlying t=some (.array n e)) (he:P.underlying e=some (.int k)) (hce:P.cellsOf e=1) (hct:P.cellsOf t=n) :
  ∀ {l:List (String × DataW Unit)} {ps:List MemPlace},DataW.LaidVars P W l ps→(nm,Lib.tabData k zs)∈l→Lib.TabIs P W nm k zs
 |[],_,_,hm=>by cases hm
 |(n',d) :: r,ps,h,hm=>by
  obtain ⟨g',t',cs,r8,p,q,h1,h2,h3,h4,h5,_⟩:=h;rcases List.mem_cons.1 hm with hm|hm
  ·injection hm with e1 e2;subst e1; subst e2;obtain rfl:=aab (hg.symm.trans h1);obtain rfl:=aab (Jc.symm.trans h2);unfold Lib.TabIs;rw [h3,← Lib.cells_of_tab ht he hce hct h4]
  ·exact vM hg Jc ht he hce hct h5 hm
theorem EF {P:Program} {W:World} {nm:String} {k:IntKind} {zs:List Int} {g:Nat} (hg:P.globalNamed nm=some g) (h:Lib.TabIs P W nm k zs) (h0:0 < zs.length) :
  dR (oe W) W g 0 (zs.map fun z=>.int k z)∧g < W.heap.size∧W.cell? ⟨g,zs.length,none⟩=none:=by
 have hc:=fun i=>World.var?_cell hg h i
 have fT:∀ i,i < zs.length→W.cell? ⟨g,i,none⟩=some (.int k (zs[i]?.getD 0)):=fun i hi=>by
  rw [hc]; simp [hi]
 have US:g < W.heap.size:=by
  have h0:=fT 0 h0;unfold World.cell? at h0;split at h0
  ·rename_i hh;exact (aax.1 hh).1
  ·cases h0
 exact ⟨uH (cs:=#[]) US zs 0 fun i hi=>by rw [Nat.zero_add]; exact fT i hi,US,by rw [hc]; simp⟩
theorem Nq {W:World} {g:Nat} {k:IntKind} {m:Int} (h:W.cell? ⟨g,0,none⟩=some (.int k m)):dR (oe W) W g 0 [.int k m]:=by
 have US:g < W.heap.size:=by
  unfold World.cell? at h;split at h
  ·rename_i hh;exact (aax.1 hh).1
  ·cases h
 exact uH (cs:=#[]) US [m] 0 fun i hi=>by
  have:i=0:=by simpa using hi
  subst this;exact h
end Go.Am
namespace Go.Proofs.YtldcljfjjoidhaaGreatDoor
open Go Go.Am Go.ChangeShapes Go.WideShapes Go.RowKit
open List (map)
open Int (toNat)
open Go.IntKind (wrap)
open Go.Am.aM (fits)
set_option maxRecDepth 100000
theorem own:ownKnob Tryz.prog.godebug=none:=by kernel_rfl
theorem laidOut:laidOutB Tryz.prog=true:=by kernel_rfl
theorem Wq:Tryz.prog.underlying 4=some .bool:=by kernel_rfl
def aay:Nat→DataW Unit→List Value
 |0,_=>[]
 |n+1,d=>match d with
  |.lit l=>[l.value]
  |.agg ps=>ps.flatMap (aay n)
  |_=>[]
abbrev rE:List (String × DataW Unit):=Rows.braidCoursesRow.laid
noncomputable def JP (h:Array Obj):Array Obj:=rE.foldl (fun h x=>match Tryz.prog.globalNamed x.1 with
 |some g=>h.modify g fun
   |.cells _ t frozen=>.cells (aay 4 x.2).toArray t frozen
   |o=>o
 |none=>h) h
noncomputable def zo (os:Os):World:=
 let w0:=World.holding Tryz.prog os ⟨#[],#[],[]⟩
 { w0 with heap:=JP w0.heap }
theorem zp (os:Os) (args:Array Value):laidMetH Tryz.prog rE ((zo os).forCall (fun _ _=>0) ⟨#[],args,[]⟩).memory:=
 laidMetH_of_parts (laidMet_of_run3 8 (by kernel_rfl) (by kernel_rfl) (by kernel_rfl)) (by kernel_rfl)
theorem Nr : (("internal/strconv.uint64pow10", Rows.laid_internal_strconv_uint64pow10) : String × DataW Unit) = ("internal/strconv.uint64pow10", Lib.tabData .u64 aac) := by kernel_rfl
theorem R7 : (("internal/strconv.uint64pow10", Lib.tabData .u64 aac) : String × DataW Unit) ∈ rE := by
 rw [← Nr];exact .tail _ (.tail _ (.head _))
theorem R8:0 < aac.length:=by rw [Lib.pow10Tab_length]; decide
theorem aaz {W:World} (h:laidMetH Tryz.prog rE W):dR (oe W) W 1 0 Ro∧1 < W.heap.size∧W.cell? ⟨1,aac.length,none⟩=none:=by
 obtain ⟨ps,h1,_⟩:=(show laidMet Tryz.prog rE W from h);exact EF (P := Tryz.prog) (nm := "internal/strconv.uint64pow10") (by kernel_rfl) (vM (P := Tryz.prog) (t := 282) (e := 232) (n := 20) (g := 1) (by kernel_rfl) (by kernel_rfl) (by kernel_rfl) (by kernel_rfl) (by kernel_rfl) (by kernel_rfl) h1 R7) R8
theorem GR {W:World} (h:W.ShapedOpen Tryz.prog):∃ m,W.cell? ⟨0,0,none⟩=some (.int .i64 m):=
 cell_of_shapedOpen_int (P:=Tryz.prog) (t:=3) (zero:=#[.int .i64 0]) h (of_decide_eq_true (by kernel_rfl)) (by kernel_rfl) rfl (by kernel_rfl) (by kernel_rfl) (by kernel_rfl)
theorem GS {W:World} {m:Int} (h:laidMetH Tryz.prog rE W) (hm:W.cell? ⟨0,0,none⟩=some (.int .i64 m)) (g:Nat) (cs:List AV) (hg:(oM m).ck g=some cs):dR (oe W) W g 0 cs:=by
 have rI:zh m g=some cs:=hg;unfold zh at rI;cases h1:Nat.beq g 0 with
 |true=>
  rw [h1] at rI;cases rI;rw [aaa h1];exact Nq hm
 |false=>
  rw [h1] at rI;cases h2:Nat.beq g 1 with
  |true=>
   rw [h2] at rI;cases rI;rw [aaa h2];exact (aaz h).1
  |false=>
   rw [h2] at rI;cases rI
theorem Ns {W:World} {m:Int} (h:laidMetH Tryz.prog rE W) (g:Nat) (cs:List AV) (hg:(oM m).ck g=some cs) (hx:(oM m).gx g=true):g < W.heap.size∧W.cell? ⟨g,cs.length,none⟩=none:=by
 have rI:zh m g=some cs:=hg;have oJ:Nat.beq g 1=true:=hx;obtain rfl:=aaa oJ;cases (show Ro=cs from aab rI);obtain ⟨_,h2,h3⟩:=aaz h;refine ⟨h2,?_⟩;rw [show Ro.length=aac.length from List.length_map _];exact h3
theorem R9 {fn:Func} (h:(fn.params.toList.all fun t=>!(Tryz.prog.wantsStandIn t))=true) (j:Nat) (t:TypeId) (ht:fn.params[j]?=some t):Tryz.prog.wantsStandIn t=false:=by
 have:=List.all_eq_true.1 h t (Array.mem_toList_iff.2 (Array.mem_of_getElem? ht));simpa using this
theorem readable {fn:Func} (h:(fn.params.toList.all fun t=>Tryz.prog.readableRec t&&Nat.blt t Tryz.prog.types.size)=true):∀ t∈fn.params.toList,Tryz.prog.readableRec t=true∧t < Tryz.prog.types.size:=fun t ht=>by
 have:=List.all_eq_true.1 h t ht;rw [Bool.and_eq_true] at this;exact ⟨this.1,Nat.le_of_ble_eq_true this.2⟩
theorem aaA:mapsRowed Tryz.prog=true:=by kernel_rfl
theorem Wr:(Rows.braidCoursesRow.plainKeys == Tryz.prog.plainKeys)=true:=by kernel_rfl
theorem Ws:Tryz.prog.stopsHeard=true:=by kernel_rfl
theorem Wt:Tryz.prog.mayEnter=true:=by kernel_rfl
theorem Wu:(Rows.braidCoursesRow.lifted == Tryz.prog.liftsFinal)=true:=by kernel_rfl
theorem Wv:(Tryz.prog.stops == [])=true:=by kernel_rfl
theorem Ww:(Tryz.prog.stopKnobs == [])=true:=by kernel_rfl
end Go.Proofs.YtldcljfjjoidhaaGreatDoor
