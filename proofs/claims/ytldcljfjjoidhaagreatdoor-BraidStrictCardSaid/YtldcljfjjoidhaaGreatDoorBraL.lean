/- The functions of Go's library that this program calls,by their contracts; the library's variables. -/
import Derived.Test.YtldcljfjjoidhaaGreatDoorBraEnv
import Derived.Test.YtldcljfjjoidhaaGreatDoorBraShelf
import Derived.Test.YtldcljfjjoidhaaGreatDoorAmKK
import Derived.Test.YtldcljfjjoidhaaGreatDoorAmKL
set_option linter.all false
open Go.Lib renaming decDigits→aaa
namespace Go.Proofs.YtldcljfjjoidhaaGreatDoor
open Go Go.Am Go.Proofs Go.Shelf
open List (map)
open Int (toNat)
open Go.IntKind (wrap)
open Go.Am.aM (fits)
set_option maxRecDepth 100000
def vJ:Go.Shelf.Ren:=⟨fun | 240=>139 | 276=>180 | n=>n,fun | 70=>143 | 9=>9 | 0=>0 | 4=>4 | 20=>20 | 72=>146 | 37=>144 | 164=>240 | n=>n,fun | n=>n⟩
theorem Ii:Go.Proofs.Lays.n240 Tryz.prog vJ:={
 mixed:=by kernel_rfl
 f240:=Tryz.func139.trans (congrArg some (by kernel_rfl))
 f276:=Tryz.func180.trans (congrArg some (by kernel_rfl))
 t0:=Tryz.underlying0
 a0:=Tryz.isAgg0
 z0:=Tryz.sizeOf0
 v0:=Tryz.zeroValue0
 t4:=Tryz.underlying4
 a4:=Tryz.isAgg4
 z4:=Tryz.sizeOf4
 v4:=Tryz.zeroValue4
 t9:=Tryz.underlying9
 a9:=Tryz.isAgg9
 z9:=Tryz.sizeOf9
 v9:=Tryz.zeroValue9
 t20:=Tryz.underlying20
 a20:=Tryz.isAgg20
 z20:=Tryz.sizeOf20
 v20:=Tryz.zeroValue20
 t70:=Tryz.underlying143
 a70:=Tryz.isAgg143
 z70:=Tryz.sizeOf143
 v70:=Tryz.zeroValue143
 t72:=Tryz.underlying146
 a72:=Tryz.isAgg146
 z72:=Tryz.sizeOf146
 v72:=Tryz.zeroValue146
 t164:=Tryz.underlying240
 a164:=Tryz.isAgg240
 z164:=Tryz.sizeOf240
 v164:=Tryz.zeroValue240 }
theorem ZN:Builder.X72 Tryz.prog vJ:=⟨by kernel_rfl,by kernel_rfl⟩
def Ro:List AV:=Lib.pow10Tab.map fun z=>AV.int .u64 z
def zh (m:Int) (g:Nat):Option (List AV):=bif Nat.beq g 0 then some [.int .i64 m] else bif Nat.beq g 1 then some Ro else none
theorem Ev (m:Int) (g:Nat) (cs:List AV) (h:zh m g=some cs):aB cs=true:=by
 unfold zh at h;cases h1:Nat.beq g 0 with
 |true=>rw [h1] at h; cases h; rfl
 |false=>
  rw [h1] at h;cases h2:Nat.beq g 1 with
  |true=>
   rw [h2] at h;cases h;have:∀ l:List Int,aB (l.map fun z=>AV.int .u64 z)=true:=by
    intro l
    induction l with
    |nil=>rfl
    |cons a l ih=>exact ih
   exact this _
  |false=>rw [h2] at h; cases h
noncomputable def eZ (m:Int):Env:={ env with ck:=zh m,gx:=fun g=>Nat.beq g 1,oS:=Ev m }
noncomputable def Ud (m:Int):Jr:={ ZL with toEnv:=eZ m }
theorem L95 (m : Int) : ai (eZ m) 95 GJ := MX (E := eZ m) (gt := 1) (nm := "internal/strconv.uint64pow10") ⟨_, Tryz.func95, rfl, rfl⟩ rfl rfl (by kernel_rfl) rfl
 fun n w h0 h1 ht=>Any.strconv_Itoa Tryz.MT n h0 h1 w ht
theorem zi (i:Nat) (h:i < 100):aaa i=VM i:=by
 unfold VM;by_cases h1:i < 10
 ·rw [aaa];have:decide ((i:Int) < 10)=true:=by simp; omega
  simp [h1,this]
 ·rw [aaa,aaa];have:decide ((i:Int) < 10)=false:=by simp; omega
  have h2:i / 10 < 10:=by omega
  simp [h1,h2,this]
def zj (n:Int):Option (List UInt8):=bif decide (0≤n)&&decide (n < 100) then some (VM n) else zg n
theorem Ew (n:Int):zj n=zg n:=by
 unfold zj;cases h:decide (0≤n)&&decide (n < 100) with
 |false=>rfl
 |true=>
  rw [Bool.and_eq_true] at h;have h1:=of_decide_eq_true h.1;have h2:=of_decide_eq_true h.2;obtain ⟨u,rfl⟩:∃ u:Nat,n=u:=⟨n.toNat,by omega⟩;have hi:Lib.itoa (u:Int)=aaa u:=by unfold Lib.itoa; rw [if_neg (by omega)]; simp
  unfold zg;rw [decide_eq_true (by omega),decide_eq_true (by omega),hi,zi u (by omega)];rfl
def GK:aP:=⟨p1 (.int .i64),.str,zj⟩
theorem ZO (m:Int):ai (eZ m) 95 GK:=fun x y h=>L95 m x y ((Ew x).symm.trans h)
theorem ZP (m:Int):ai (eZ m) 142 CE:=MW (E:=eZ m) (gm:=0) (m:=m) (t:=9) ⟨_,Tryz.func142,rfl,rfl⟩ rfl
 fun s c w hs hm=>Any.strings_Split Tryz.Rm (by kernel_rfl) s ⟨#[c]⟩ m w hs hm (Nat.le_refl 1)
theorem L98 (m:Int):ai (eZ m) 98 Rn:=V4 (E:=eZ m) (gm:=0) (m:=m) ⟨_,Tryz.func98,rfl,rfl⟩ rfl rfl
 fun s c w hs hm=>Any.strings_Cut Tryz.Rl s ⟨#[c]⟩ m w hs hm
noncomputable def gtE (m:Int):(g:FuncId)→Option (kN (eZ m) g)
 |139=>some (ccE (E:=eZ m) Ii ZN)
 |97=>some (ZH (E:=eZ m) Tryz.Ih Tryz.lR rfl)
 |_=>none
end Go.Proofs.YtldcljfjjoidhaaGreatDoor
