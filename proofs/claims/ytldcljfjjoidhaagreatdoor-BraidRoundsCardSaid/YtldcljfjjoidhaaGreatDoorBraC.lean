/- The chapter's examples: the closed call,carried out by the kernel over the calls that were carried out before. -/
import Derived.Test.YtldcljfjjoidhaaGreatDoorBraCb
set_option linter.all false
namespace Go.Proofs.YtldcljfjjoidhaaGreatDoor
open Go Go.Am
open List (map)
open Int (toNat)
open Go.IntKind (wrap)
open Go.Am.aT (fits)
set_option maxRecDepth 1000000
noncomputable def Y9:List (Nat × aQ):=P2++[(18,E18),(27,E27),(57,E57),(29,E29),(30,E30),(68,E68),(43,E43),(39,E39),(40,E40)]
theorem Qf (m:Int):∀ a e,(a,e)∈Y9→ap (fC m) a e:=fun a e h=>by
 rcases List.mem_append.1 h with h | h
 ·exact gU m a e h
 ·simp only [List.mem_cons,Prod.mk.injEq,List.not_mem_nil,or_false] at h
  rcases h with ⟨rfl,rfl⟩ | ⟨rfl,rfl⟩ | ⟨rfl,rfl⟩ | ⟨rfl,rfl⟩ | ⟨rfl,rfl⟩ | ⟨rfl,rfl⟩ | ⟨rfl,rfl⟩ | ⟨rfl,rfl⟩ | ⟨rfl,rfl⟩
  ·exact UK m
  ·exact UL m
  ·exact UM m
  ·exact UN m
  ·exact UO m
  ·exact UP m
  ·exact UQ m
  ·exact UR m
  ·exact US m
noncomputable def cxD (m:Int):eE:={ D:=Sq m,yx:=CZ Y9,oO:=fun _ _=>none,fz:=true,N:=0,gt:=gtE m }
theorem Dj (m:Int):aY (fC m) 14 [] (fun r=>∃ y:Bool,r=aT.enc .bool y∧y=true):=
 cY (C:=cxD m) (n:=100000) (p:=.bool) (ok:=fun (y:Bool)=>y) (aW (Qf m)) (by kernel_rfl) (by kernel_rfl) (by kernel_rfl)
end Go.Proofs.YtldcljfjjoidhaaGreatDoor
