/- The functions of Go's library that this program calls,by their contracts; the library's variables. -/
import Derived.Test.YtldcljfjjoidhaaGreatDoorBraEnv
import Derived.Test.YtldcljfjjoidhaaGreatDoorBraShelf
import Derived.Test.YtldcljfjjoidhaaGreatDoorAmKK
import Derived.Test.YtldcljfjjoidhaaGreatDoorAmKL
set_option linter.all false
open Go.Lib renaming decDigits→aab
namespace Go.Proofs.YtldcljfjjoidhaaGreatDoor
open Go Go.Am Go.Proofs Go.Shelf
open List (map)
open Int (toNat)
open Go.IntKind (wrap)
open Go.Am.aP (fits)
set_option maxRecDepth 100000
def vY:Go.Shelf.Ren:=⟨fun | 240=>139 | 276=>180 | n=>n,fun | 70=>143 | 9=>9 | 0=>0 | 4=>4 | 20=>20 | 72=>146 | 37=>144 | 164=>240 | n=>n,fun | n=>n⟩
theorem Iz:Go.Proofs.Lays.n240 Tryz.prog vY:={
 mixed:=by kernel_rfl
 f240:=Tryz.func139.trans (congrArg some (by kernel_rfl))
 f276:=Tryz.func180.trans (congrArg some (by kernel_rfl))
 t0:=Tryz.underlying0
 a0:=Tryz.isAgg0
 z0:=Tryz.sizeOf0
 v0:=Tryz.zeroValue0
 t4:=Tryz.underlying4
 a4:=Tryz.isAgg4
 z4:=Tryz.sizeOf4
 v4:=Tryz.zeroValue4
 t9:=Tryz.underlying9
 a9:=Tryz.isAgg9
 z9:=Tryz.sizeOf9
 v9:=Tryz.zeroValue9
 t20:=Tryz.underlying20
 a20:=Tryz.isAgg20
 z20:=Tryz.sizeOf20
 v20:=Tryz.zeroValue20
 t70:=Tryz.underlying143
 a70:=Tryz.isAgg143
 z70:=Tryz.sizeOf143
 v70:=Tryz.zeroValue143
 t72:=Tryz.underlying146
 a72:=Tryz.isAgg146
 z72:=Tryz.sizeOf146
 v72:=Tryz.zeroValue146
 t164:=Tryz.underlying240
 a164:=Tryz.isAgg240
 z164:=Tryz.sizeOf240
 v164:=Tryz.zeroValue240 }
theorem aaM:Builder.X72 Tryz.prog vY:=⟨by kernel_rfl,by kernel_rfl⟩
def RJ:List AV:=Lib.pow10Tab.map fun z=>AV.int .u64 z
def zt (m:Int) (g:Nat):Option (List AV):=bif Nat.beq g 0 then some [.int .i64 m] else bif Nat.beq g 1 then some RJ else none
theorem EH (m:Int) (g:Nat) (cs:List AV) (h:zt m g=some cs):aF cs=true:=by
 unfold zt at h;cases h1:Nat.beq g 0 with
 |true=>rw [h1] at h; cases h; rfl
 |false=>
  rw [h1] at h;cases h2:Nat.beq g 1 with
  |true=>
   rw [h2] at h;cases h;have:∀ l:List Int,aF (l.map fun z=>AV.int .u64 z)=true:=by
    intro l
    induction l with
    |nil=>rfl
    |cons a l ih=>exact ih
   exact this _
  |false=>rw [h2] at h; cases h
noncomputable def e8 (m:Int):Env:={ env with cr:=zt m,gx:=fun g=>Nat.beq g 1,pg:=EH m }
noncomputable def UP (m:Int):JL:={ aaK with toEnv:=e8 m }
theorem L95 (m : Int) : ai (e8 m) 95 G7 := Nk (E := e8 m) (gt := 1) (nm := "internal/strconv.uint64pow10") ⟨_, Tryz.func95, rfl, rfl⟩ rfl rfl (by kernel_rfl) rfl
 fun n w h0 h1 ht=>Any.strconv_Itoa Tryz.Ng n h0 h1 w ht
theorem zu (i:Nat) (h:i < 100):aab i=Wp i:=by
 unfold Wp;by_cases h1:i < 10
 ·rw [aab];have:decide ((i:Int) < 10)=true:=by simp; omega
  simp [h1,this]
 ·rw [aab,aab];have:decide ((i:Int) < 10)=false:=by simp; omega
  have h2:i / 10 < 10:=by omega
  simp [h1,h2,this]
def zv (n:Int):Option (List UInt8):=bif decide (0≤n)&&decide (n < 100) then some (Wp n) else zr n
theorem EI (n:Int):zv n=zr n:=by
 unfold zv;cases h:decide (0≤n)&&decide (n < 100) with
 |false=>rfl
 |true=>
  rw [Bool.and_eq_true] at h;have h1:=of_decide_eq_true h.1;have h2:=of_decide_eq_true h.2;obtain ⟨u,rfl⟩:∃ u:Nat,n=u:=⟨n.toNat,by omega⟩;have hi:Lib.itoa (u:Int)=aab u:=by unfold Lib.itoa; rw [if_neg (by omega)]; simp
  unfold zr;rw [decide_eq_true (by omega),decide_eq_true (by omega),hi,zu u (by omega)];rfl
def G8:aD:=⟨p1 (.int .i64),.str,zv⟩
theorem aaN (m:Int):ai (e8 m) 95 G8:=fun x y h=>L95 m x y ((EI x).symm.trans h)
theorem aaO (m:Int):ai (e8 m) 142 CO:=Nj (E:=e8 m) (gm:=0) (m:=m) (t:=9) ⟨_,Tryz.func142,rfl,rfl⟩ rfl
 fun s c w hs hm=>Any.strings_Split Tryz.RH (by kernel_rfl) s ⟨#[c]⟩ m w hs hm (Nat.le_refl 1)
theorem L98 (m:Int):ai (e8 m) 98 RI:=WM (E:=e8 m) (gm:=0) (m:=m) ⟨_,Tryz.func98,rfl,rfl⟩ rfl rfl
 fun s c w hs hm=>Any.strings_Cut Tryz.RG s ⟨#[c]⟩ m w hs hm
noncomputable def gtE (m:Int):(g:FuncId)→Option (kQ (e8 m) g)
 |139=>some (ccE (E:=e8 m) Iz aaM)
 |97=>some (aaE (E:=e8 m) Tryz.Iy Tryz.lY rfl)
 |_=>none
end Go.Proofs.YtldcljfjjoidhaaGreatDoor
