/- The chapter's examples: the closed call,carried out by the kernel over the calls that were carried out before. -/
import Derived.Test.YtldcljfjjoidhaaGreatDoorBraCb
set_option linter.all false
namespace Go.Proofs.YtldcljfjjoidhaaGreatDoor
open Go Go.Am
open List (map)
open Int (toNat)
open Go.IntKind (wrap)
open Go.Am.aM (fits)
set_option maxRecDepth 1000000
noncomputable def aav:List (Nat × aP):=RQ++[(18,E18),(27,E27),(57,E57),(29,E29),(30,E30),(68,E68),(43,E43),(39,E39),(40,E40)]
theorem R6 (m:Int):∀ a e,(a,e)∈aav→ai (eZ m) a e:=fun a e h=>by
 rcases List.mem_append.1 h with h|h
 ·exact gv m a e h
 ·simp only [List.mem_cons,Prod.mk.injEq,List.not_mem_nil,or_false] at h;rcases h with ⟨rfl,rfl⟩|⟨rfl,rfl⟩|⟨rfl,rfl⟩|⟨rfl,rfl⟩|⟨rfl,rfl⟩|⟨rfl,rfl⟩|⟨rfl,rfl⟩|⟨rfl,rfl⟩|⟨rfl,rfl⟩
  ·exact Wf m
  ·exact Wg m
  ·exact Wh m
  ·exact Wi m
  ·exact Wj m
  ·exact Wk m
  ·exact Wl m
  ·exact Wm m
  ·exact Wn m
noncomputable def cxD (m:Int):fj:={ D:=Ud m,wP:=wv aav,n9:=fun _ _=>none,fz:=true,N:=0,gt:=gtE m }
theorem EE (m:Int):aR (eZ m) 14 [] (fun r=>∃ y:Bool,r=aM.enc .bool y∧y=true):=
 cS (C:=cxD m) (n:=100000) (p:=.bool) (ok:=fun (y:Bool)=>y) (fL (R6 m)) (by kernel_rfl) (by kernel_rfl) (by kernel_rfl)
end Go.Proofs.YtldcljfjjoidhaaGreatDoor
