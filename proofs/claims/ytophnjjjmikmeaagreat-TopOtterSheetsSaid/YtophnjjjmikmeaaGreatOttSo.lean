/- The comparing functions of the sorts,and the sorts' entries. -/
import Derived.Test.YtophnjjjmikmeaaGreatOttTk
import Derived.Test.YtophnjjjmikmeaaGreatOttSort
import Derived.Test.YtophnjjjmikmeaaGreatAmKM
set_option linter.all false
namespace Go.Proofs.YtophnjjjmikmeaaGreat
open Go Go.Am Go.Sort Go.Shelf Go.Proofs
set_option maxRecDepth 100000
instance:Inhabited Y1.T:=⟨((0,0):Int × Int)⟩
instance:Inhabited b6.T:=⟨((0,0,0):Int × Int × Int)⟩
def Wb (a b:Int):Int:=if a < b then -1 else if a > b then 1 else 0
def lR (x y:Int × Int × Int):Int:=if x.2.1 < y.2.1 then -1 else if x.2.1 > y.2.1 then 1 else if x.1 < y.1 then -1 else if x.1 > y.1 then 1 else Wb x.2.2 y.2.2
theorem Lz {a b:Int}:Wb a b < 0↔a < b:=by
 unfold Wb
 split
 ·constructor <;> intro <;> omega
 ·split <;> (constructor <;> intro <;> omega)
theorem iO (x y:Int × Int × Int):ltOf lR x y=decide (x.2.1 < y.2.1∨x.2.1=y.2.1∧(x.1 < y.1∨x.1=y.1∧x.2.2 < y.2.2)):=by
 unfold ltOf lR
 rw [decide_eq_decide]
 split
 ·constructor <;> intro <;> omega
 ·split
  ·constructor <;> intro <;> omega
  ·split
   ·constructor <;> intro <;> omega
   ·split
    ·constructor <;> intro <;> omega
    ·rw [Lz]
     constructor <;> intro <;> omega
theorem BJ:SWO (ltOf lR):=by
 refine ⟨fun x=>?_,fun x y z h1 h2=>?_,fun x y z h1 h2=>?_⟩
 ·rw [iO]; exact decide_eq_false (by omega)
 ·rw [iO] at *
  have h1:=of_decide_eq_true h1
  have h2:=of_decide_eq_true h2
  exact decide_eq_true (by omega)
 ·rw [iO] at *
  have h1:=of_decide_eq_false h1
  have h2:=of_decide_eq_false h2
  exact decide_eq_false (by omega)
theorem Wc (x y:Int × Int × Int) (h1:ltOf lR x y=false) (h2:ltOf lR y x=false):x=y:=by
 rw [iO] at *
 have h1:=of_decide_eq_false h1
 have h2:=of_decide_eq_false h2
 exact Prod.ext (by omega) (Prod.ext (by omega) (by omega))
end Go.Proofs.YtophnjjjmikmeaaGreat
