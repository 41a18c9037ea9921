/- Plain laws: the law of rates. -/
import Derived.Test.YtfiopgedfcaodaaGreatDoorSeamUd
set_option linter.all false
namespace Go.Proofs.YtfiopgedfcaodaaGreatDoor
open Go Go.Am
set_option maxRecDepth 100000
theorem mem_le_sum:∀ (l:List Int),(∀ x∈l,1≤x)→0≤l.sum∧∀ x∈l,x≤l.sum
 | [],_=>⟨by simp,fun _ h=>by cases h⟩
 | a :: l,h=>by
  obtain ⟨h1,h2⟩:=mem_le_sum l fun x hx=>h x (List.mem_cons_of_mem _ hx)
  have ha:=h a List.mem_cons_self
  rw [List.sum_cons]
  refine ⟨by omega,fun x hx=>?_⟩
  rcases List.mem_cons.1 hx with rfl | hx
  ·omega
  ·have:=h2 x hx; omega
def runsE (a b:Int):List Int:=evRuns (min a.toNat b.toNat) (max a.toNat b.toNat) 0
theorem runsE_in {a b:Int} (h:chkM a b=0):runsF a b (jns a b)=runsE a b∧(runsE a b).length≤256∧small (runsE a b)∧chkJ a b (jns a b)=0:=by
 obtain ⟨h1,h2,h3,h4⟩:=chkM_ok h
 have ea:a=((a.toNat:Nat):Int):=by omega
 have eb:b=((b.toNat:Nat):Int):=by omega
 have q1:=runs_jns (a:=a.toNat) (b:=b.toNat) (by omega) (by omega) (by omega) (by omega)
 have q2:=chkJ_jns (a:=a.toNat) (b:=b.toNat) (by omega) (by omega) (by omega) (by omega)
 rw [← ea,← eb] at q1 q2
 have hs:1≤min a.toNat b.toNat:=by omega
 have hsL:min a.toNat b.toNat≤max a.toNat b.toNat:=by omega
 have hin:=evRuns_in hs hsL 0
 have hsum:=evRuns_sum hs hsL
 have hle:=(mem_le_sum _ hin).2
 have hlen:(runsE a b).length=min a.toNat b.toNat:=by simp [runsE,evRuns]
 refine ⟨q1,by rw [hlen]; omega,fun x hx=>?_,q2⟩
 have a1:=hin x hx
 have a2:=hle x hx
 rw [hsum] at a2
 omega
def rateT (l:List Int):List UInt8:=joinL (rateW l.length l) [32]
theorem rateT_len {l:List Int} (hl:l.length≤256) (hs:small l):(rateW l.length l).length≤256∧(rateT l).length≤100000:=by
 have h1:=rateW_len l.length l
 have h2:=joinL_len [32] (by simp) (rateW l.length l) 7 fun w hw=>(rateW_word _ l (by omega) hs w hw).2
 unfold rateT
 constructor
 ·omega
 ·have:(rateW l.length l).length * (7+1)≤256 * 8:=Nat.mul_le_mul (by omega) (by omega)
  omega
section
variable (m:Int) {N:Nat} (hN:Big N)
include hN
theorem T82_rate (a b:Int):T82 m N (a,b)=some (if chkM a b=0 then (rateT (runsE a b),0) else ([],chkM a b)):=by
 rw [T82_eq]
 by_cases h0:chkM a b=0
 ·obtain ⟨hm,hm',hn,hn'⟩:=chkM_ok h0
  obtain ⟨r1,r2,r3,r4⟩:=runsE_in h0
  have hl':=lng_in hm hm' hn hn'
  have hlj:(jns a b).length≤1000000:=by simp [jns]; omega
  have hx:=(chkJ_ok r4).2
  have h135:=T135_runs hN a b (jns a b) hlj hm hm' hn hn' hx
  rw [r1] at h135
  obtain ⟨t1,t2⟩:=rateT_len r2 r3
  have hR:=R82_out (m:=m) hN (runsE a b).length (runsE a b) [] N (Nat.le_refl _) (by unfold Big at hN; omega) (by simp; omega) r3
  rw [List.nil_append] at hR
  have hj:T150 N (rateW (runsE a b).length (runsE a b),[32])=some (rateT (runsE a b)):=by
   show joinT _=_
   unfold joinT
   have d1:decide ((rateW (runsE a b).length (runsE a b)).length≤140737488355328)=true:=decide_eq_true (by omega)
   have d2:decide ((joinL (rateW (runsE a b).length (runsE a b)) [32]).length≤140737488355328)=true:=decide_eq_true (by unfold rateT at t2; omega)
   simp only [d1,d2]
   rfl
  have hA:allFit (Pat.fits p9) ([]:List AV)=true:=rfl
  have hB:List.map d9 ([]:List AV)=[]:=rfl
  have hC:(List.map n9 ([]:List (List UInt8))).length=0:=rfl
  rw [T17_jns hm hm' hn hn' hN h0,Option.bind_some,if_pos h0]
  simp only [bne_self_eq_false,cond_false,fa46,md46,Bool.and_true,cond_true,Option.bind_some,h135,fa3,md3,hA,hB,hC,Bool.and_self,decide_true]
  rw [hR,Option.bind_some]
  simp only [fa9,md9,cond_true,Option.bind_some]
  rw [hj]
  rfl
 ·have h17:T17 N (a,b)=some ([],chkM a b):=by
   rw [T17_eq,T86_chk hN,Option.bind_some]
   have hb:(chkM a b != 0)=true:=by simpa using h0
   rw [hb]
   rfl
  have hb:(chkM a b != 0)=true:=by simpa using h0
  rw [h17,Option.bind_some,if_neg h0]
  simp only [hb,cond_true]
end
end Go.Proofs.YtfiopgedfcaodaaGreatDoor
