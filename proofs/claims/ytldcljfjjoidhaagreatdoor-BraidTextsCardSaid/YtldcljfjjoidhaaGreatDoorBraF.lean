/- The laws' frame: the listed variables,the library's table and bound,the world of the witness. -/
import Derived.Test.YtldcljfjjoidhaaGreatDoorBraMm
import Derived.Test.YtldcljfjjoidhaaGreatDoorAmKK
import Derived.Test.YtldcljfjjoidhaaGreatDoorRows
import Derived.Test.YtldcljfjjoidhaaGreatDoorCards
import Derived.Test.YtldcljfjjoidhaaGreatDoorTie
import Derived.ChangeSame
import Derived.ChangeVars
import Derived.JoinedOf
import Derived.RowKit
import Derived.RowKitTokens
import Derived.LaidLaws
import Derived.LaidHandle
import Derived.Stop.Joined
import Derived.SevenTiedAt
import Derived.Deep.DeepLaidRun
import Derived.Shelf.Vars
set_option linter.all false
open Array renaming getElem?_eq_some_iff→aae
open Go.Lib renaming pow10Tab→aad
open Go.OpenSpec renaming ofChange→aaf
open Nat renaming eq_of_beq_eq_true→aab
open Option.some renaming inj→aac
namespace Go.Am
open Go
variable {H:Type} {enc:TypeId × Value→H}
theorem oz {a:Assume} {C:Checked} {os:Os} {f:FuncId} {fn:Func} {s:ChangeSpec} {conds:List PathCond} {apart fresh handsOn again:Bool} {X:World→Array Value→Prop}
  (hX:∀ (w w':World) (args:Array Value),w.heap=w'.heap→X w args→X w' args)
  (own:ownKnob C.prog.godebug=none) (started:os.Started) (W8:C.prog.inits.idxOf? f=none) (Y8:C.prog.funcs[f]?=some fn)
  (witness:∃ (w:World) (tape:Tape) (i:Input),w.os=os∧(w.forCall tape i).Shaped C.prog∧i.vars=[]∧Input.okWide C.prog (w.forCall tape i) .any w.heap.size f i ∧
   ((s.pre enc C.prog fn conds apart (w.forCall tape i).memory i.args∧X (w.forCall tape i).memory i.args)∧sizedMet enc C.prog fn (aaf s) apart (w.forCall tape i).memory i.args)∧a.holds C.prog (lone (Frame.enter C.prog f i.args .normal) [] (w.forCall tape i)))
  (NL:∀ (W:World) (base:Nat) (args:Array Value) (ds gs:List (DataW H)) (before:List MemPlace),
   (∀ (j:Nat) t v,fn.params[j]?=some t→args[j]?=some v→Value.okWide C.prog W .any base t v) →
   DataW.Whole enc C.prog fn.params.toList s.vars apart W args.toList ds gs before→X W args→W.ShapedOpen C.prog →
   Calls C.prog f args W fun e W'=>∃ v,e=.returned v∧s.post enc C.prog fn apart fresh handsOn again W args v W') :
  ReturnsInHanded a C os f .any (fun w args=>(s.pre enc C.prog fn conds apart w args∧X w args)∧sizedMet enc C.prog fn (aaf s) apart w args) (s.post enc C.prog fn apart fresh handsOn again):=by
 refine returnsInHanded_of_calls own started W8 witness ?_;intro w tape i _ hsh _ eN Aw _;obtain ⟨_,_,_,fn',afz,_,_,_,_,J2⟩:=eN;obtain rfl:fn'=fn:=aac (afz.symm.trans Y8);obtain ⟨⟨⟨ds,gs,before,hw,_⟩,hx⟩,_⟩:=Aw;refine (NL (w.forCall tape i) w.heap.size i.args ds gs before J2 (DataW.Whole.of_heap (w':=w.forCall tape i) (by rfl) hw) (hX _ _ _ (by rfl) hx) hsh).mono fun e W' ⟨v,he,hp⟩=>?_
 subst he;exact ChangeSpec.post_blind hp
theorem v8 {P:Program} {W:World} {nm:String} {k:IntKind} {zs:List Int} {g t e n:Nat} (hg:P.globalNamed nm=some g) (Jw:(P.globals[g]?).map (·.type)=some t)
  (ht:P.underlying t=some (.array n e)) (he:P.underlying e=some (.int k)) (hce:P.cellsOf e=1) (hct:P.cellsOf t=n) :
  ∀ {l:List (String × DataW Unit)} {ps:List MemPlace},DataW.LaidVars P W l ps→(nm,Lib.tabData k zs)∈l→Lib.TabIs P W nm k zs
 |[],_,_,hm=>by cases hm
 |(n',d) :: r,ps,h,hm=>by
  obtain ⟨g',t',cs,ss,p,q,h1,h2,h3,h4,h5,_⟩:=h;rcases List.mem_cons.1 hm with hm|hm
  ·injection hm with e1 e2;subst e1; subst e2;obtain rfl:=aac (hg.symm.trans h1);obtain rfl:=aac (Jw.symm.trans h2);unfold Lib.TabIs;rw [h3,← Lib.cells_of_tab ht he hce hct h4]
  ·exact v8 hg Jw ht he hce hct h5 hm
theorem ET {P:Program} {W:World} {nm:String} {k:IntKind} {zs:List Int} {g:Nat} (hg:P.globalNamed nm=some g) (h:Lib.TabIs P W nm k zs) (h0:0 < zs.length) :
  dV (ou W) W g 0 (zs.map fun z=>.int k z)∧g < W.heap.size∧W.cell? ⟨g,zs.length,none⟩=none:=by
 have hc:=fun i=>World.var?_cell hg h i
 have fR:∀ i,i < zs.length→W.cell? ⟨g,i,none⟩=some (.int k (zs[i]?.getD 0)):=fun i hi=>by
  rw [hc]; simp [hi]
 have Vu:g < W.heap.size:=by
  have h0:=fR 0 h0;unfold World.cell? at h0;split at h0
  ·rename_i hh;exact (aae.1 hh).1
  ·cases h0
 exact ⟨uO (cs:=#[]) Vu zs 0 fun i hi=>by rw [Nat.zero_add]; exact fR i hi,Vu,by rw [hc]; simp⟩
theorem NM {W:World} {g:Nat} {k:IntKind} {m:Int} (h:W.cell? ⟨g,0,none⟩=some (.int k m)):dV (ou W) W g 0 [.int k m]:=by
 have Vu:g < W.heap.size:=by
  unfold World.cell? at h;split at h
  ·rename_i hh;exact (aae.1 hh).1
  ·cases h
 exact uO (cs:=#[]) Vu [m] 0 fun i hi=>by
  have:i=0:=by simpa using hi
  subst this;exact h
end Go.Am
namespace Go.Proofs.YtldcljfjjoidhaaGreatDoor
open Go Go.Am Go.ChangeShapes Go.WideShapes Go.RowKit
open List (map)
open Int (toNat)
open Go.IntKind (wrap)
open Go.Am.aP (fits)
set_option maxRecDepth 100000
theorem own:ownKnob Tryz.prog.godebug=none:=by kernel_rfl
theorem laidOut:laidOutB Tryz.prog=true:=by kernel_rfl
theorem W9:Tryz.prog.underlying 4=some .bool:=by kernel_rfl
def abu:Nat→DataW Unit→List Value
 |0,_=>[]
 |n+1,d=>match d with
  |.lit l=>[l.value]
  |.agg ps=>ps.flatMap (abu n)
  |_=>[]
abbrev rR:List (String × DataW Unit):=Rows.braidCoursesRow.laid
noncomputable def Kb (h:Array Obj):Array Obj:=rR.foldl (fun h x=>match Tryz.prog.globalNamed x.1 with
 |some g=>h.modify g fun
   |.cells _ t frozen=>.cells (abu 4 x.2).toArray t frozen
   |o=>o
 |none=>h) h
noncomputable def zA (os:Os):World:=
 let w0:=World.holding Tryz.prog os ⟨#[],#[],[]⟩
 { w0 with heap:=Kb w0.heap }
theorem zB (os:Os) (args:Array Value):laidMetH Tryz.prog rR ((zA os).forCall (fun _ _=>0) ⟨#[],args,[]⟩).memory:=
 laidMetH_of_parts (laidMet_of_run3 8 (by kernel_rfl) (by kernel_rfl) (by kernel_rfl)) (by kernel_rfl)
theorem NN : (("internal/strconv.uint64pow10", Rows.laid_internal_strconv_uint64pow10) : String × DataW Unit) = ("internal/strconv.uint64pow10", Lib.tabData .u64 aad) := by kernel_rfl
theorem Ss : (("internal/strconv.uint64pow10", Lib.tabData .u64 aad) : String × DataW Unit) ∈ rR := by
 rw [← NN];exact .tail _ (.tail _ (.head _))
theorem Su:0 < aad.length:=by rw [Lib.pow10Tab_length]; decide
theorem abv {W:World} (h:laidMetH Tryz.prog rR W):dV (ou W) W 1 0 RJ∧1 < W.heap.size∧W.cell? ⟨1,aad.length,none⟩=none:=by
 obtain ⟨ps,h1,_⟩:=(show laidMet Tryz.prog rR W from h);exact ET (P := Tryz.prog) (nm := "internal/strconv.uint64pow10") (by kernel_rfl) (v8 (P := Tryz.prog) (t := 282) (e := 232) (n := 20) (g := 1) (by kernel_rfl) (by kernel_rfl) (by kernel_rfl) (by kernel_rfl) (by kernel_rfl) (by kernel_rfl) h1 Ss) Su
theorem Hc {W:World} (h:W.ShapedOpen Tryz.prog):∃ m,W.cell? ⟨0,0,none⟩=some (.int .i64 m):=
 cell_of_shapedOpen_int (P:=Tryz.prog) (t:=3) (zero:=#[.int .i64 0]) h (of_decide_eq_true (by kernel_rfl)) (by kernel_rfl) rfl (by kernel_rfl) (by kernel_rfl) (by kernel_rfl)
theorem Hd {W:World} {m:Int} (h:laidMetH Tryz.prog rR W) (hm:W.cell? ⟨0,0,none⟩=some (.int .i64 m)) (g:Nat) (cs:List AV) (hg:(oZ m).cr g=some cs):dV (ou W) W g 0 cs:=by
 have rV:zt m g=some cs:=hg;unfold zt at rV;cases h1:Nat.beq g 0 with
 |true=>
  rw [h1] at rV;cases rV;rw [aab h1];exact NM hm
 |false=>
  rw [h1] at rV;cases h2:Nat.beq g 1 with
  |true=>
   rw [h2] at rV;cases rV;rw [aab h2];exact (abv h).1
  |false=>
   rw [h2] at rV;cases rV
theorem NO {W:World} {m:Int} (h:laidMetH Tryz.prog rR W) (g:Nat) (cs:List AV) (hg:(oZ m).cr g=some cs) (hx:(oZ m).gx g=true):g < W.heap.size∧W.cell? ⟨g,cs.length,none⟩=none:=by
 have rV:zt m g=some cs:=hg;have oW:Nat.beq g 1=true:=hx;obtain rfl:=aab oW;cases (show RJ=cs from aac rV);obtain ⟨_,h2,h3⟩:=abv h;refine ⟨h2,?_⟩;rw [show RJ.length=aad.length from List.length_map _];exact h3
theorem Sv {fn:Func} (h:(fn.params.toList.all fun t=>!(Tryz.prog.wantsStandIn t))=true) (j:Nat) (t:TypeId) (ht:fn.params[j]?=some t):Tryz.prog.wantsStandIn t=false:=by
 have:=List.all_eq_true.1 h t (Array.mem_toList_iff.2 (Array.mem_of_getElem? ht));simpa using this
theorem readable {fn:Func} (h:(fn.params.toList.all fun t=>Tryz.prog.readableRec t&&Nat.blt t Tryz.prog.types.size)=true):∀ t∈fn.params.toList,Tryz.prog.readableRec t=true∧t < Tryz.prog.types.size:=fun t ht=>by
 have:=List.all_eq_true.1 h t ht;rw [Bool.and_eq_true] at this;exact ⟨this.1,Nat.le_of_ble_eq_true this.2⟩
theorem abw:mapsRowed Tryz.prog=true:=by kernel_rfl
theorem Xa:(Rows.braidCoursesRow.plainKeys == Tryz.prog.plainKeys)=true:=by kernel_rfl
theorem Xb:Tryz.prog.stopsHeard=true:=by kernel_rfl
theorem Xc:Tryz.prog.mayEnter=true:=by kernel_rfl
theorem Xd:(Rows.braidCoursesRow.lifted == Tryz.prog.liftsFinal)=true:=by kernel_rfl
theorem Xe:(Tryz.prog.stops == [])=true:=by kernel_rfl
theorem Xf:(Tryz.prog.stopKnobs == [])=true:=by kernel_rfl
end Go.Proofs.YtldcljfjjoidhaaGreatDoor
