/- Plain laws: the courses of a row,and the searches of law 8. -/
import Derived.Test.YtldcljfjjoidhaaGreatDoorSeamKE
import Derived.Test.YtldcljfjjoidhaaGreatDoorBraZ
import Derived.Test.YtldcljfjjoidhaaGreatDoorSeamKF
set_option linter.all false
namespace Go.Proofs.YtldcljfjjoidhaaGreatDoor
open Go Go.Am Go.Sort
open List (map)
open Int (toNat)
open Go.IntKind (wrap)
open Go.Am.aO (fits)
set_option maxRecDepth 100000
def Vb (r:eQ) (w:Bool):Int:=if w then r.2.1 else r.2.2
def Yu (r:eQ) (w:Bool):Uf:=if (Vb r w+r.1) % 2=0 then (Vb r w,r.1,w,true,r.2.2 - r.2.1) else (Vb r w,r.1+1,w,false,r.2.2 - r.2.1)
def Yv (r:eQ):Prop:=-100000≤r.1∧r.1+1≤100000∧-100000≤r.2.1∧r.2.1 < r.2.2∧r.2.2≤100000
theorem abU (l:List XA) {k:Nat} (hk:k < l.length):j8 (aj (map dv l) k)=l[k]∧fits uy (aj (map dv l) k)=true:=by
 rw [gM dv l k hk]; exact ⟨rfl,rfl⟩
section
variable {N:Nat} (hN:e7 N)
include hN
end
theorem QN {l:List aQ} (h:dH l=0) (ho:RT l) {r:eQ} (hr:r∈sw l):Yv r:=by
 unfold sw at hr
 obtain ⟨j,hj,rfl⟩:=List.mem_map.1 hr
 rw [List.mem_range] at hj
 obtain ⟨cm,-⟩:=ho j hj
 obtain ⟨h1,h2,h3⟩:=cX h
 obtain ⟨-,fs⟩:=ss (bK l (cJ l+j))
 obtain ⟨f1,f2,f3,f4⟩:=fs cm
 have MA:∀ x∈bK l (cJ l+j),-100000≤x∧x+1≤100000∧-100000≤cJ l+j∧cJ l+j+1≤100000:=fun x hx=>by
  obtain ⟨b,hb,rfl⟩:=List.mem_map.1 hx
  obtain ⟨SF,vb⟩:=List.mem_filter.1 hb
  obtain ⟨c1,c2,c3⟩:=j7 (h2 b SF)
  have k1:=fX c1
  have k2:=fX c3
  unfold eP at k1
  unfold fD at k2
  simp only at k1 k2
  have w1:wrap .i64 (b.1+b.2.2)=b.1+b.2.2:=ki (by omega)
  have w2:wrap .i64 (b.2.1+1)=b.2.1+1:=ki (by omega)
  rw [w1,w2] at k2
  have:b.2.1=cJ l+j:=by simpa using vb
  unfold iw
  split <;> omega
 have s1:=MA _ f1
 have s3:=MA _ f3
 have s4:=f4 _ f1
 exact ⟨s1.2.2.1,s1.2.2.2,s1.1,by show (kq _).2.1 < (kq _).2.2; omega,by show (kq _).2.2≤100000; omega⟩
end Go.Proofs.YtldcljfjjoidhaaGreatDoor
namespace Go.Proofs.YtldcljfjjoidhaaGreatDoor
open Go Go.Am Go.Sort
open List (map)
open Int (toNat)
open Go.IntKind (wrap)
open Go.Am.aO (fits)
set_option maxRecDepth 100000
def abV (c:Uf):Int × Int:=XQ c c.2.2.2.2.toNat
def stp (c d:Uf):Int:=if abV c=(d.1,d.2.1) then 0 else 1
def mnI (a b:Int):Int:=if b < a then b else a
def bgB (r s:eQ) (p:Int × Int) (w v:Bool):Int:=(if v then p.1 else p.2)+stp (Yu r w) (Yu s v)
section
variable {N:Nat} (hN:e7 N)
include hN
end
def mF:List eQ→Bool→Int
 | [],_=>0
 | r :: t,w=>match t with
  | []=>0
  | s :: _=>mnI (bgB r s (mF t true,mF t false) w true) (bgB r s (mF t true,mF t false) w false)
section
variable {N:Nat} (hN:e7 N)
include hN
end
end Go.Proofs.YtldcljfjjoidhaaGreatDoor
namespace Go.Proofs.YtldcljfjjoidhaaGreatDoor
open Go Go.Am Go.Sort
open List (map)
open Int (toNat)
open Go.IntKind (wrap)
open Go.Am.aO (fits)
set_option maxRecDepth 100000
section
variable {N:Nat} (hN:e7 N)
include hN
end
section
variable {N:Nat} (hN:e7 N)
include hN
end
def ga (l:List aQ):List eQ × Int:=if dH l=0 then yl l else ([],dH l)
theorem Dy (l:List aQ):(∀ r∈(ga l).1,Yv r)∧(ga l).1.length≤1000000∧((ga l).2=0→0 < (ga l).1.length):=by
 unfold ga
 by_cases h:dH l=0
 ·rw [if_pos h]
  unfold yl
  by_cases h0:l=[]
  ·rw [if_pos h0]; exact ⟨fun r hr=>(by cases hr),by simp,fun h=>by simp at h⟩
  ·rw [if_neg h0]
   have hlp:0 < l.length:=List.length_pos_iff.2 h0
   have bd:=Mb h hlp
   by_cases ho:RT l
   ·rw [if_pos ho]
    have e:(sw l).length=jO l:=by simp [sw]
    refine ⟨fun r hr=>QN h ho hr,?_,fun _=>?_⟩
    ·show (sw l).length≤1000000
     rw [e]; unfold jO; omega
    ·show 0 < (sw l).length
     rw [e]; unfold jO; omega
   ·rw [if_neg ho]; exact ⟨fun r hr=>(by cases hr),by simp,fun h=>by simp at h⟩
 ·rw [if_neg h]; exact ⟨fun r hr=>(by cases hr),by simp,fun h2=>absurd h2 h⟩
end Go.Proofs.YtldcljfjjoidhaaGreatDoor
namespace Go.Proofs.YtldcljfjjoidhaaGreatDoor
open Go Go.Am Go.Sort
open List (map)
open Int (toNat)
open Go.IntKind (wrap)
open Go.Am.aO (fits)
set_option maxRecDepth 100000
section
variable {N:Nat} (hN:e7 N)
include hN
theorem Ak (l:List aQ):VK N l=some (ga l):=by rw [Mu hN]; rfl
end
section
variable {N:Nat} (hN:e7 N)
include hN
end
end Go.Proofs.YtldcljfjjoidhaaGreatDoor
