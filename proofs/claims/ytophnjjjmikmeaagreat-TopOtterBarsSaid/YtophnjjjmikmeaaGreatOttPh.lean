/- Plain laws: knots and bars of walks. -/
import Derived.Test.YtophnjjjmikmeaaGreatOttPf
set_option linter.all false
namespace Go.Proofs.YtophnjjjmikmeaaGreat
open Go Go.Am
set_option maxRecDepth 100000
def xJ (a:List (Int × Int × Int)) (s:DK):List (Int × Int × Int):=if s.1=66 then a++[(s.2.1,s.2.2.1,s.2.2.2.1 - s.2.1)] else a
def Ld (l:List DK):List (Int × Int × Int):=l.foldl xJ []
theorem Le (a:List (Int × Int × Int)) (s:DK):(xJ a s).length≤a.length+1:=by unfold xJ; split <;> simp
theorem Good.Zk {out:Bool} {s:DK} (h:Good out s):(s.1=66↔s.2.2.2.2 - s.2.2.1=1)∧-120000≤s.2.1∧s.2.1≤120000∧-120000≤s.2.2.1∧s.2.2.1≤120000∧-120000≤s.2.2.2.1∧s.2.2.2.1≤120000∧-120000≤s.2.2.2.2∧s.2.2.2.2≤120000 ∧
  (s.1≠66→(∃ e:Int,s.2.2.2.1=s.2.1+2 * e)∧∃ e:Int,s.2.2.2.2=s.2.2.1+2 * e):=by
 obtain ⟨p,c,rfl,hc,h1,h2,h3,h4⟩:=h
 have t78:(78:UInt8).toNat=78:=rfl
 have t66:(66:UInt8).toNat=66:=rfl
 have t84:(84:UInt8).toNat=84:=rfl
 rcases zY hc with rfl | rfl | rfl
 ·have e:cR 78=(0,2):=rfl
  cases out <;> simp only [DL,mv,e,Bool.false_eq_true,if_false,if_true,t78] <;> refine ⟨by omega,by omega,by omega,by omega,by omega,by omega,by omega,by omega,by omega,fun _=>⟨⟨0,by omega⟩,⟨1,by omega⟩⟩⟩
 ·have e:cR 66=(1,1):=rfl
  cases out <;> simp only [DL,mv,e,Bool.false_eq_true,if_false,if_true,t66] <;> refine ⟨by omega,by omega,by omega,by omega,by omega,by omega,by omega,by omega,by omega,fun h=>absurd rfl h⟩
 ·have e:cR 84=(2,0):=rfl
  cases out
  ·simp only [DL,mv,e,Bool.false_eq_true,if_false,t84]
   refine ⟨by omega,by omega,by omega,by omega,by omega,by omega,by omega,by omega,by omega,fun _=>⟨⟨-1,by omega⟩,⟨0,by omega⟩⟩⟩
  ·simp only [DL,mv,e,if_true,t84]
   refine ⟨by omega,by omega,by omega,by omega,by omega,by omega,by omega,by omega,by omega,fun _=>⟨⟨1,by omega⟩,⟨0,by omega⟩⟩⟩
theorem xK (l:List (Int × Int × Int)) (a b c:Int):List.map n59 l++[AV.agg [AV.int .i64 a,AV.int .i64 b,AV.int .i64 c]]=List.map n59 (l++[(a,b,c)]):=by simp [n59,aj.enc,aK.enc]
section
variable {N:Nat} (hN:gU N)
include hN
theorem Oe (out:Bool) (l:List DK) (hl:l.length≤1000) (hg:∀ s∈l,Good out s):aZ (V:=(List (Int × Int × Int)) × Int) (X:=((List (Int × Int × Int)))) (xB N (l,0)) N ([],0)=some (Ld l):=by
 have key:=lf (rd:=xB N (l,0)) l (fun (a:List (Int × Int × Int)) k=>(a,(k:Int))) xJ (fun a=>a) (fun a k=>a.length≤k)
  (fun a k hk hP=>by
   refine ⟨?_,by have:=Le a l[k]; omega⟩
   obtain ⟨g1,g2,g3,g4,g5,g6,g7,g8,g9,g10⟩:=(hg l[k] (List.getElem_mem hk)).Zk
   have e1:decide ((a.length+1) * 24≤140737488355328)=true:=by simp only [decide_eq_true_eq]; omega
   have e3:IntKind.wrap .i64 ((l[k]).2.2.2.1 - (l[k]).2.1)=(l[k]).2.2.2.1 - (l[k]).2.1:=jA (by omega)
   have e2:=xK a (l[k]).2.1 (l[k]).2.2.1 ((l[k]).2.2.2.1 - (l[k]).2.1)
   unfold xJ
   simp only [xB,List.length_map,cu hk,bP hk,Int.toNat_natCast,gB nf l k hk,Y4,Y5,Bool.and_self,cond_true,decide_true,Bool.true_and,e1,e2,e3,fY,ft,Bool.and_true,Option.bind_some,dy (show k < 9223372036854775807 by omega)]
   by_cases h:(l[k]).1=66
   ·simp only [h,beq_self_eq_true,cond_true,if_true,fY,ft,Option.bind_some,List.length_append,List.length_cons,List.length_nil,decide_true,List.length_map]
   ·have hb:((l[k]).1 == 66)=false:=by simpa using h
    simp only [h,hb,cond_false,if_false,fY,ft,Option.bind_some,decide_true,cond_true,List.length_map])
  (fun a _=>by simp only [xB,List.length_map,du,cond_false,fY,ft,decide_true,Bool.and_true,cond_true,Option.bind_some]) N [] 0 (Nat.zero_le _) (by unfold gU at hN; omega) (Nat.le_refl _)
 exact key
variable (fg:Int × Int) (L:List UInt8) (out:Bool)
end
section
variable {N:Nat} (hN:gU N) (fg:Int × Int) (w:List UInt8) (times:Int) (out:Bool)
include hN
theorem Iv (ok:By fg w times):∀ s∈dp out fg (dQ w times.toNat),Good out s:=
 xI ⟨ok.hk.1,ok.hk.2.1,ok.hk.2.2.1,ok.hk.2.2.2.1⟩ out _ fg 0 (rP.zero fg) (by rw [fI,Nat.mul_comm]; have:=ok.hl; omega) (fun c hc=>List.all_eq_true.1 ok.hw.2.2 c (rO hc))
theorem Of:T8 N (fg,w,times,out)=some (if walkErr fg w times out=0 then (Ld (dp out fg (dQ w times.toNat)),0) else ([],walkErr fg w times out)):=by
 rw [Vv,Iu hN]
 simp only [Option.bind_some]
 by_cases h:walkErr fg w times out=0
 ·have ok:By fg w times:=xH (by unfold walkErr at h; by_cases h2:fZ fg w times=0; exact h2; rw [if_neg h2] at h; exact absurd h h2)
  simp only [h,if_true,bne_self_eq_false,cond_false]
  have e0:(((bif (allFit (aj.fits cN) ([]:List AV)&&true) then some ((List.map d59 ([]:List AV)),0) else none:Option ((List (Int × Int × Int)) × Int)).bind fun Mf=>bif (decide (0=(List.map n59 Mf.1).length)&&true) then some Mf else none))=some ([],0):=rfl
  rw [e0,Option.bind_some,Oe hN out _ (by rw [ph,fI,Nat.mul_comm]; have:=ok.hl; omega) (Iv hN fg w times out ok)]
  simp only [Option.bind_some,fY,ft,Bool.and_self,cond_true]
 ·simp only [h,if_false,Nh h,cond_true]
  rfl
end
end Go.Proofs.YtophnjjjmikmeaaGreat
