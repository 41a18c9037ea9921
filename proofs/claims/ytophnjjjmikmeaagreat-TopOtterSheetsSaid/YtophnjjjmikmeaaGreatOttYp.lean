/- Plain laws: meshes of walks,vectors. -/
import Derived.Test.YtophnjjjmikmeaaGreatOttPh
import Derived.Test.YtophnjjjmikmeaaGreatOttX
set_option linter.all false
namespace Go.Proofs.YtophnjjjmikmeaaGreat
open Go Go.Am
set_option maxRecDepth 100000
def nq (a:List (Int × Int)) (s:yA):List (Int × Int):=if s.1=66 then a else a++[((s.2.1+s.2.2.2.1).tdiv 2,(s.2.2.1+s.2.2.2.2).tdiv 2)]
def Ad (l:List yA):List (Int × Int):=l.foldl nq []
theorem F3 (a:List (Int × Int)) (s:yA):(nq a s).length≤a.length+1:=by unfold nq; split <;> simp
theorem I2 (l:List (Int × Int)) (a b:Int):List.map n46 l++[AV.agg [AV.int .i64 a,AV.int .i64 b]]=List.map n46 (l++[(a,b)]):=by simp [n46,aq.enc,aG.enc]
section
variable {N:Nat} (hN:gQ N)
include hN
theorem I3 (out:Bool) (l:List yA) (hl:l.length≤1000) (hg:∀ s∈l,Good out s):a6 (V:=(List (Int × Int)) × Int) (X:=((List (Int × Int)))) (qI N (l,0)) N ([],0)=some (Ad l):=by
 have key:=kb (rd:=qI N (l,0)) l (fun (a:List (Int × Int)) k=>(a,(k:Int))) nq (fun a=>a) (fun a k=>a.length≤k)
  (fun a k hk hP=>by
   refine ⟨?_,by have:=F3 a l[k]; omega⟩
   obtain ⟨g1,g2,g3,g4,g5,g6,g7,g8,g9,g10⟩:=(hg l[k] (List.getElem_mem hk)).SD
   have e1:decide ((a.length+1) * 16≤140737488355328)=true:=by simp only [decide_eq_true_eq]; omega
   unfold nq
   simp only [qI,List.length_map,ck hk,bV hk,Int.toNat_natCast,dv iT l k hk,R9,Sa,Bool.and_self,cond_true,decide_true,Bool.true_and,Bool.and_true,beq_self_eq_true,ea (show k < 9223372036854775807 by omega)]
   by_cases h:(l[k]).1=66
   ·have hb:((l[k]).1 != 66)=false:=by simpa using h
    simp only [h,hb,bne_self_eq_false,cond_false,if_true,Lc,Ld,Option.bind_some,decide_true,cond_true,List.length_map,Bool.and_true]
   ·have hb:((l[k]).1 != 66)=true:=by simpa using h
    obtain ⟨⟨d,hd⟩,⟨e,he⟩⟩:=g10 h
    have m1:QC N ((l[k]).2.1,(l[k]).2.2.2.1)=some (((l[k]).2.1+(l[k]).2.2.2.1).tdiv 2):=by
     rw [IU,hd,show (l[k]).2.1+2 * d - (l[k]).2.1=2 * d by omega,gf (x:=2 * d) (by omega),Int.mul_tdiv_cancel_left _ (by omega),gf (x:=d) (by omega),gf (by omega)]
     rw [show (l[k]).2.1+((l[k]).2.1+2 * d)=2 * ((l[k]).2.1+d) by omega,Int.mul_tdiv_cancel_left _ (by omega)]
    have m2:QC N ((l[k]).2.2.1,(l[k]).2.2.2.2)=some (((l[k]).2.2.1+(l[k]).2.2.2.2).tdiv 2):=by
     rw [IU,he,show (l[k]).2.2.1+2 * e - (l[k]).2.2.1=2 * e by omega,gf (x:=2 * e) (by omega),Int.mul_tdiv_cancel_left _ (by omega),gf (x:=e) (by omega),gf (by omega)]
     rw [show (l[k]).2.2.1+((l[k]).2.2.1+2 * e)=2 * ((l[k]).2.2.1+e) by omega,Int.mul_tdiv_cancel_left _ (by omega)]
    simp only [h,hb,cond_true,if_false,m1,m2,Option.bind_some,e1,I2,Lc,Ld,decide_true,List.length_map,List.length_append,List.length_cons,List.length_nil,Bool.and_true])
  (fun a _=>by simp only [qI,List.length_map,cT,cond_false,Lc,Ld,decide_true,Bool.and_true,cond_true,Option.bind_some]) N [] 0 (Nat.zero_le _) (by unfold gQ at hN; omega) (Nat.le_refl _)
 exact key
end
section
variable {N:Nat} (hN:gQ N) (dT:Int × Int) (w:List UInt8) (times:Int) (out:Bool)
include hN
theorem I4:SK N (dT,w,times,out)=some (if walkErr dT w times out=0 then (Ad (cz out dT (cD w times.toNat)),0) else ([],walkErr dT w times out)):=by
 rw [PM,yD hN]
 simp only [Option.bind_some]
 by_cases h:walkErr dT w times out=0
 ·have ok:wx dT w times:=pc (by unfold walkErr at h; by_cases h2:eL dT w times=0; exact h2; rw [if_neg h2] at h; exact absurd h h2)
  simp only [h,if_true,bne_self_eq_false,cond_false]
  have e0:(((bif (allFit (aq.fits yu) ([]:List AV)&&true) then some ((List.map d46 ([]:List AV)),0) else none:Option ((List (Int × Int)) × Int)).bind fun IV=>bif (decide (0=(List.map n46 IV.1).length)&&true) then some IV else none))=some ([],0):=rfl
  rw [e0,Option.bind_some,I3 hN out _ (by rw [kv,eh,Nat.mul_comm]; have:=ok.hl; omega) (yF hN dT w times out ok)]
  simp only [Option.bind_some,Lc,Ld,Bool.and_self,cond_true]
 ·simp only [h,if_false,HV h,cond_true]
  rfl
end
theorem toNat_eq (b x:UInt8):(((b.toNat:Nat):Int) == ((x.toNat:Nat):Int))=decide (b=x):=by
 by_cases h:b=x
 ·subst h; simp
 ·have h2:(b.toNat:Int)≠(x.toNat:Int):=fun e=>h (UInt8.toNat_inj.1 (by omega))
  simp [h,h2]
theorem I5 (N:Nat) (b:UInt8):TS N (b.toNat:Int)=some (bg b):=by
 rw [PH]
 have h1:(((b.toNat:Nat):Int) == 78)=decide (b=78):=toNat_eq b 78
 have h2:(((b.toNat:Nat):Int) == 66)=decide (b=66):=toNat_eq b 66
 rw [h1,h2]
 unfold bg
 by_cases e1:b=78
 ·simp [e1]
 ·by_cases e2:b=66 <;> simp [e1,e2]
theorem LF {N:Nat} (hN:gQ N) (w:List UInt8) (hw:w.length≤1000000):TT N w=some (vec w):=by
 rw [PJ]
 have key:=kb (rd:=wF N w) w (fun (a:Int × Int) k=>((k:Int),a.1,a.2)) jR (fun a=>(a.1,a.2)) SB
  (fun a k hk hP=>by
   refine ⟨?_,hP.add _⟩
   obtain ⟨h1,h2,h3⟩:=hP
   obtain ⟨s1,s2,s3⟩:=fI w[k]
   simp only [wF,ck hk,bV hk,cond_true,Int.toNat_natCast,getD_at hk,I5,Option.bind_some,ea (show k < 9223372036854775807 by omega)]
   rw [gf (x:=a.1+(bg w[k]).1) (by omega),gf (x:=a.2+(bg w[k]).2) (by omega)]
   rfl)
  (fun a _=>by simp only [wF,cT,cond_false]) N (0,0) 0 (Nat.zero_le _) (by unfold gQ at hN; omega) ⟨by simp,by simp,by simp⟩
 have wq:a6 (V:=Int × Int × Int) (X:=(Int × Int)) (wF N w) N (0,0,0)=some ((vec w).1,(vec w).2):=key
 rw [wq]
 rfl
end Go.Proofs.YtophnjjjmikmeaaGreat
