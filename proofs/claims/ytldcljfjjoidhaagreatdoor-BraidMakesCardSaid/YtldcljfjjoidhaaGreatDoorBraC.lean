/- The chapter's examples: the closed call,carried out by the kernel over the calls that were carried out before. -/
import Derived.Test.YtldcljfjjoidhaaGreatDoorBraCb
set_option linter.all false
namespace Go.Proofs.YtldcljfjjoidhaaGreatDoor
open Go Go.Am
open List (map)
open Int (toNat)
open Go.IntKind (wrap)
open Go.Am.aO (fits)
set_option maxRecDepth 1000000
noncomputable def adW:List (Nat × aR):=UA++[(18,E18),(27,E27),(57,E57),(29,E29),(30,E30),(68,E68),(43,E43),(39,E39),(40,E40)]
theorem UM (m:Int):∀ a e,(a,e)∈adW→aj (gT m) a e:=fun a e h=>by
 rcases List.mem_append.1 h with h|h
 ·exact ja m a e h
 ·simp only [List.mem_cons,Prod.mk.injEq,List.not_mem_nil,or_false] at h;rcases h with ⟨rfl,rfl⟩|⟨rfl,rfl⟩|⟨rfl,rfl⟩|⟨rfl,rfl⟩|⟨rfl,rfl⟩|⟨rfl,rfl⟩|⟨rfl,rfl⟩|⟨rfl,rfl⟩|⟨rfl,rfl⟩
  ·exact Zt m
  ·exact Zu m
  ·exact Zv m
  ·exact Zw m
  ·exact Zx m
  ·exact Zy m
  ·exact Zz m
  ·exact ZA m
  ·exact ZB m
noncomputable def cxD (m:Int):fU:={ D:=Xd m,Bx:=xY adW,qU:=fun _ _=>none,fz:=true,N:=0,gt:=gtE m }
theorem Gq (m:Int):a6 (gT m) 14 [] (fun r=>∃ y:Bool,r=aO.enc .bool y∧y=true):=
 dH (C:=cxD m) (n:=100000) (p:=.bool) (ok:=fun (y:Bool)=>y) (iA (UM m)) (by kernel_rfl) (by kernel_rfl) (by kernel_rfl)
end Go.Proofs.YtldcljfjjoidhaaGreatDoor
