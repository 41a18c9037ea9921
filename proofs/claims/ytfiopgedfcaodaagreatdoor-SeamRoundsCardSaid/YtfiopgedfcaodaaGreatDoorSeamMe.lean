/- Surroundings in which the library's variables are known,too: a bound that may be any,a table of powers. -/
import Derived.Test.YtfiopgedfcaodaaGreatDoorSeamSo
import Derived.Test.YtfiopgedfcaodaaGreatDoorSeamShelfC
import Derived.Test.YtfiopgedfcaodaaGreatDoorAmKL
set_option linter.all false
namespace Go.Proofs.YtfiopgedfcaodaaGreatDoor
open Go Go.Am Go.Proofs Go.Shelf
set_option maxRecDepth 100000
def powA:List AV:=Lib.pow10Tab.map fun z=>AV.int .u64 z
def globM (m:Int) (g:Nat):Option (List AV):=bif Nat.beq g 1 then some [.int .i64 m] else bif Nat.beq g 2 then some powA else globF g
theorem globM_ok (m:Int) (g:Nat) (cs:List AV) (h:globM m g=some cs):closedL cs=true:=by
 unfold globM at h
 cases h1:Nat.beq g 1 with
 | true=>rw [h1] at h; cases h; rfl
 | false=>
  rw [h1] at h
  cases h2:Nat.beq g 2 with
  | true=>
   rw [h2] at h
   cases h
   have:∀ l:List Int,closedL (l.map fun z=>AV.int .u64 z)=true:=by
    intro l
    induction l with
    | nil=>rfl
    | cons a l ih=>exact ih
   exact this _
  | false=>rw [h2] at h; exact envS.globOk g cs h
noncomputable def envM (m:Int):Env:={ envS with glob:=globM m,gx:=fun g=>Nat.beq g 2,globOk:=globM_ok m }
noncomputable def envDM (m:Int):EnvD:={ envDS with toEnv:=envM m }
noncomputable def cxM (m:Int) (N:Nat) (tab:List (Nat × Entry)) (cert:List (Nat × List (Nat × Cert))):Ctx:={ D:=envDM m,tab:=tabF tab,cert:=certF cert,fz:=false,N:=N }
theorem EntryOk.toM {m:Int} {g:FuncId} {e:Entry} (h:EntryOk envS g e):EntryOk (envM m) g e:=fun x y hT=>
 PCalls.more (E:=envS) rfl (fun g cs hg=>by
  have hg':globF g=some cs:=hg
  show globM m g=some cs
  unfold globM
  cases h1:Nat.beq g 1 with
  | true=>rw [Nat.eq_of_beq_eq_true h1] at hg'; cases hg'
  | false=>
   cases h2:Nat.beq g 2 with
   | true=>rw [Nat.eq_of_beq_eq_true h2] at hg'; cases hg'
   | false=>exact hg') (h x y hT)
theorem L149m (m : Int) : EntryOk (envM m) 149 itoaGE := itoaG_ok (E := envM m) (gt := 2) (nm := "internal/strconv.uint64pow10") ⟨_, Tryz.func149, rfl, rfl⟩ rfl rfl (by kernel_rfl) rfl
 fun n w h0 h1 ht=>Any.strconv_Itoa Tryz.laysM171 n h0 h1 w ht
theorem L151m (m:Int):EntryOk (envM m) 151 splitE:=split_ok (E:=envM m) (gm:=1) (m:=m) (t:=9) ⟨_,Tryz.func151,rfl,rfl⟩ rfl
 fun s c w hs hm=>Any.strings_Split Tryz.lays146 (by kernel_rfl) s ⟨#[c]⟩ m w hs hm (Nat.le_refl 1)
theorem L152m (m:Int):EntryOk (envM m) 152 cutE:=cut_ok (E:=envM m) (gm:=1) (m:=m) ⟨_,Tryz.func152,rfl,rfl⟩ rfl rfl
 fun s c w hs hm=>Any.strings_Cut Tryz.lays145 s ⟨#[c]⟩ m w hs hm
end Go.Proofs.YtfiopgedfcaodaaGreatDoor
