/- The functions of Go's library that this program calls,by their contracts; the library's variables. -/
import Derived.Test.YtldcljfjjoidhaaGreatDoorBraEnv
import Derived.Test.YtldcljfjjoidhaaGreatDoorBraShelf
import Derived.Test.YtldcljfjjoidhaaGreatDoorAmKK
import Derived.Test.YtldcljfjjoidhaaGreatDoorAmKL
set_option linter.all false
namespace Go.Proofs.YtldcljfjjoidhaaGreatDoor
open Go Go.Am Go.Proofs Go.Shelf
open List (map)
open Int (toNat)
open Go.IntKind (wrap)
open Go.Am.aR (fits)
set_option maxRecDepth 100000
def vN:Go.Shelf.Ren:=⟨fun | 240=>139 | 276=>180 | n=>n,fun | 70=>143 | 9=>9 | 0=>0 | 4=>4 | 20=>20 | 72=>146 | 37=>144 | 164=>240 | n=>n,fun | n=>n⟩
theorem QG:Go.Proofs.Lays.n240 Tryz.prog vN:={
 mixed:=by kernel_rfl
 f240:=Tryz.func139.trans (congrArg some (by kernel_rfl))
 f276:=Tryz.func180.trans (congrArg some (by kernel_rfl))
 t0:=Tryz.underlying0
 a0:=Tryz.isAgg0
 z0:=Tryz.sizeOf0
 v0:=Tryz.zeroValue0
 t4:=Tryz.underlying4
 a4:=Tryz.isAgg4
 z4:=Tryz.sizeOf4
 v4:=Tryz.zeroValue4
 t9:=Tryz.underlying9
 a9:=Tryz.isAgg9
 z9:=Tryz.sizeOf9
 v9:=Tryz.zeroValue9
 t20:=Tryz.underlying20
 a20:=Tryz.isAgg20
 z20:=Tryz.sizeOf20
 v20:=Tryz.zeroValue20
 t70:=Tryz.underlying143
 a70:=Tryz.isAgg143
 z70:=Tryz.sizeOf143
 v70:=Tryz.zeroValue143
 t72:=Tryz.underlying146
 a72:=Tryz.isAgg146
 z72:=Tryz.sizeOf146
 v72:=Tryz.zeroValue146
 t164:=Tryz.underlying240
 a164:=Tryz.isAgg240
 z164:=Tryz.sizeOf240
 v164:=Tryz.zeroValue240 }
theorem adP:Builder.X72 Tryz.prog vN:=⟨by kernel_rfl,by kernel_rfl⟩
def QH:List AV:=Lib.pow10Tab.map fun z=>AV.int .u64 z
def zh (m:Int) (g:Nat):Option (List AV):=bif Nat.beq g 0 then some [.int .i64 m] else bif Nat.beq g 1 then some QH else none
theorem D0 (m:Int) (g:Nat) (cs:List AV) (h:zh m g=some cs):bg cs=true:=by
 unfold zh at h
 cases h1:Nat.beq g 0 with
 | true=>rw [h1] at h; cases h; rfl
 | false=>
  rw [h1] at h
  cases h2:Nat.beq g 1 with
  | true=>
   rw [h2] at h
   cases h
   have:∀ l:List Int,bg (l.map fun z=>AV.int .u64 z)=true:=by
    intro l
    induction l with
    | nil=>rfl
    | cons a l ih=>exact ih
   exact this _
  | false=>rw [h2] at h; cases h
noncomputable def gu (m:Int):Env:={ env with cm:=zh m,gx:=fun g=>Nat.beq g 1,oV:=D0 m }
noncomputable def TE (m:Int):IL:={ ZN with toEnv:=gu m }
theorem L95 (m : Int) : ak (gu m) 95 Gd := L5 (E := gu m) (gt := 1) (nm := "internal/strconv.uint64pow10") ⟨_, Tryz.func95, rfl, rfl⟩ rfl rfl (by kernel_rfl) rfl
 fun n w h0 h1 ht=>Any.strconv_Itoa Tryz.L0 n h0 h1 w ht
theorem zi (i:Nat) (h:i < 100):Lib.decDigits i=Vi i:=by
 unfold Vi
 by_cases h1:i < 10
 ·rw [Lib.decDigits]
  have:decide ((i:Int) < 10)=true:=by simp; omega
  simp [h1,this]
 ·rw [Lib.decDigits,Lib.decDigits]
  have:decide ((i:Int) < 10)=false:=by simp; omega
  have h2:i / 10 < 10:=by omega
  simp [h1,h2,this]
def Gf (n:Int):Option (List UInt8):=bif decide (0≤n)&&decide (n < 100) then some (Vi n) else Cm n
theorem L6 (n:Int):Gf n=Cm n:=by
 unfold Gf
 cases h:decide (0≤n)&&decide (n < 100) with
 | false=>rfl
 | true=>
  rw [Bool.and_eq_true] at h
  have h1:=of_decide_eq_true h.1
  have h2:=of_decide_eq_true h.2
  obtain ⟨u,rfl⟩:∃ u:Nat,n=u:=⟨n.toNat,by omega⟩
  have hi:Lib.itoa (u:Int)=Lib.decDigits u:=by unfold Lib.itoa; rw [if_neg (by omega)]; simp
  unfold Cm
  rw [decide_eq_true (by omega),decide_eq_true (by omega),hi,zi u (by omega)]
  rfl
def L7:aS:=⟨p1 (.int .i64),.str,Gf⟩
theorem adQ (m:Int):ak (gu m) 95 L7:=fun x y h=>L95 m x y ((L6 x).symm.trans h)
theorem adR (m:Int):ak (gu m) 142 Ge:=L4 (E:=gu m) (gm:=0) (m:=m) (t:=9) ⟨_,Tryz.func142,rfl,rfl⟩ rfl
 fun s c w hs hm=>Any.strings_Split Tryz.QF (by kernel_rfl) s ⟨#[c]⟩ m w hs hm (Nat.le_refl 1)
theorem L98 (m:Int):ak (gu m) 98 VG:=VH (E:=gu m) (gm:=0) (m:=m) ⟨_,Tryz.func98,rfl,rfl⟩ rfl rfl
 fun s c w hs hm=>Any.strings_Cut Tryz.QE s ⟨#[c]⟩ m w hs hm
noncomputable def gtE (m:Int):(g:FuncId)→Option (mI (gu m) g)
 | 139=>some (ccE (E:=gu m) QG adP)
 | 97=>some (adI (E:=gu m) Tryz.QD Tryz.tu rfl)
 | _=>none
end Go.Proofs.YtldcljfjjoidhaaGreatDoor
