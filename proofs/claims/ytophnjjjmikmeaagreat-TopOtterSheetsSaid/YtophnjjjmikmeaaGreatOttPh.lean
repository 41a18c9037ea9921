/- Plain laws: knots and bars of walks. -/
import Derived.Test.YtophnjjjmikmeaaGreatOttPf
set_option linter.all false
namespace Go.Proofs.YtophnjjjmikmeaaGreat
open Go Go.Am
set_option maxRecDepth 100000
def wz (a:List (Int × Int × Int)) (s:yA):List (Int × Int × Int):=if s.1=66 then a++[(s.2.1,s.2.2.1,s.2.2.2.1 - s.2.1)] else a
def IJ (l:List yA):List (Int × Int × Int):=l.foldl wz []
theorem IK (a:List (Int × Int × Int)) (s:yA):(wz a s).length≤a.length+1:=by unfold wz; split <;> simp
theorem Good.SD {out:Bool} {s:yA} (h:Good out s):(s.1=66↔s.2.2.2.2 - s.2.2.1=1)∧-120000≤s.2.1∧s.2.1≤120000∧-120000≤s.2.2.1∧s.2.2.1≤120000∧-120000≤s.2.2.2.1∧s.2.2.2.1≤120000∧-120000≤s.2.2.2.2∧s.2.2.2.2≤120000 ∧
  (s.1≠66→(∃ e:Int,s.2.2.2.1=s.2.1+2 * e)∧∃ e:Int,s.2.2.2.2=s.2.2.1+2 * e):=by
 obtain ⟨p,c,rfl,hc,h1,h2,h3,h4⟩:=h
 have t78:(78:UInt8).toNat=78:=rfl
 have t66:(66:UInt8).toNat=66:=rfl
 have t84:(84:UInt8).toNat=84:=rfl
 rcases yz hc with rfl | rfl | rfl
 ·have e:bg 78=(0,2):=rfl
  cases out <;> simp only [yB,mv,e,Bool.false_eq_true,if_false,if_true,t78] <;> refine ⟨by omega,by omega,by omega,by omega,by omega,by omega,by omega,by omega,by omega,fun _=>⟨⟨0,by omega⟩,⟨1,by omega⟩⟩⟩
 ·have e:bg 66=(1,1):=rfl
  cases out <;> simp only [yB,mv,e,Bool.false_eq_true,if_false,if_true,t66] <;> refine ⟨by omega,by omega,by omega,by omega,by omega,by omega,by omega,by omega,by omega,fun h=>absurd rfl h⟩
 ·have e:bg 84=(2,0):=rfl
  cases out
  ·simp only [yB,mv,e,Bool.false_eq_true,if_false,t84]
   refine ⟨by omega,by omega,by omega,by omega,by omega,by omega,by omega,by omega,by omega,fun _=>⟨⟨-1,by omega⟩,⟨0,by omega⟩⟩⟩
  ·simp only [yB,mv,e,if_true,t84]
   refine ⟨by omega,by omega,by omega,by omega,by omega,by omega,by omega,by omega,by omega,fun _=>⟨⟨1,by omega⟩,⟨0,by omega⟩⟩⟩
theorem qE (l:List (Int × Int × Int)) (a b c:Int):List.map n59 l++[AV.agg [AV.int .i64 a,AV.int .i64 b,AV.int .i64 c]]=List.map n59 (l++[(a,b,c)]):=by simp [n59,aq.enc,aG.enc]
section
variable {N:Nat} (hN:gQ N)
include hN
theorem Lp (out:Bool) (l:List yA) (hl:l.length≤1000) (hg:∀ s∈l,Good out s):a6 (V:=(List (Int × Int × Int)) × Int) (X:=((List (Int × Int × Int)))) (wg N (l,0)) N ([],0)=some (IJ l):=by
 have key:=kb (rd:=wg N (l,0)) l (fun (a:List (Int × Int × Int)) k=>(a,(k:Int))) wz (fun a=>a) (fun a k=>a.length≤k)
  (fun a k hk hP=>by
   refine ⟨?_,by have:=IK a l[k]; omega⟩
   obtain ⟨g1,g2,g3,g4,g5,g6,g7,g8,g9,g10⟩:=(hg l[k] (List.getElem_mem hk)).SD
   have e1:decide ((a.length+1) * 24≤140737488355328)=true:=by simp only [decide_eq_true_eq]; omega
   have e3:IntKind.wrap .i64 ((l[k]).2.2.2.1 - (l[k]).2.1)=(l[k]).2.2.2.1 - (l[k]).2.1:=gf (by omega)
   have e2:=qE a (l[k]).2.1 (l[k]).2.2.1 ((l[k]).2.2.2.1 - (l[k]).2.1)
   unfold wz
   simp only [wg,List.length_map,ck hk,bV hk,Int.toNat_natCast,dv iT l k hk,R9,Sa,Bool.and_self,cond_true,decide_true,Bool.true_and,e1,e2,e3,dF,dG,Bool.and_true,Option.bind_some,ea (show k < 9223372036854775807 by omega)]
   by_cases h:(l[k]).1=66
   ·simp only [h,beq_self_eq_true,cond_true,if_true,dF,dG,Option.bind_some,List.length_append,List.length_cons,List.length_nil,decide_true,List.length_map]
   ·have hb:((l[k]).1 == 66)=false:=by simpa using h
    simp only [h,hb,cond_false,if_false,dF,dG,Option.bind_some,decide_true,cond_true,List.length_map])
  (fun a _=>by simp only [wg,List.length_map,cT,cond_false,dF,dG,decide_true,Bool.and_true,cond_true,Option.bind_some]) N [] 0 (Nat.zero_le _) (by unfold gQ at hN; omega) (Nat.le_refl _)
 exact key
variable (dT:Int × Int) (L:List UInt8) (out:Bool)
end
section
variable {N:Nat} (hN:gQ N) (dT:Int × Int) (w:List UInt8) (times:Int) (out:Bool)
include hN
theorem yF (ok:wx dT w times):∀ s∈cz out dT (cD w times.toNat),Good out s:=
 wy ⟨ok.hk.1,ok.hk.2.1,ok.hk.2.2.1,ok.hk.2.2.2.1⟩ out _ dT 0 (xr.zero dT) (by rw [eh,Nat.mul_comm]; have:=ok.hl; omega) (fun c hc=>List.all_eq_true.1 ok.hw.2.2 c (qD hc))
theorem Lq:T8 N (dT,w,times,out)=some (if walkErr dT w times out=0 then (IJ (cz out dT (cD w times.toNat)),0) else ([],walkErr dT w times out)):=by
 rw [Sh,yD hN]
 simp only [Option.bind_some]
 by_cases h:walkErr dT w times out=0
 ·have ok:wx dT w times:=pc (by unfold walkErr at h; by_cases h2:eL dT w times=0; exact h2; rw [if_neg h2] at h; exact absurd h h2)
  simp only [h,if_true,bne_self_eq_false,cond_false]
  have e0:(((bif (allFit (aq.fits b6) ([]:List AV)&&true) then some ((List.map d59 ([]:List AV)),0) else none:Option ((List (Int × Int × Int)) × Int)).bind fun BE=>bif (decide (0=(List.map n59 BE.1).length)&&true) then some BE else none))=some ([],0):=rfl
  rw [e0,Option.bind_some,Lp hN out _ (by rw [kv,eh,Nat.mul_comm]; have:=ok.hl; omega) (yF hN dT w times out ok)]
  simp only [Option.bind_some,dF,dG,Bool.and_self,cond_true]
 ·simp only [h,if_false,HV h,cond_true]
  rfl
end
end Go.Proofs.YtophnjjjmikmeaaGreat
