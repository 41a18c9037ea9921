/- The chapter's examples: the closed call,carried out by the kernel over the calls that were carried out before. -/
import Derived.Test.YtldcljfjjoidhaaGreatDoorBraCb
set_option linter.all false
namespace Go.Proofs.YtldcljfjjoidhaaGreatDoor
open Go Go.Am
open List (map)
open Int (toNat)
open Go.IntKind (wrap)
open Go.Am.aR (fits)
set_option maxRecDepth 1000000
noncomputable def aag:List (Nat × aS):=Q4++[(18,E18),(27,E27),(57,E57),(29,E29),(30,E30),(68,E68),(43,E43),(39,E39),(40,E40)]
theorem Rh (m:Int):∀ a e,(a,e)∈aag→ak (gu m) a e:=fun a e h=>by
 rcases List.mem_append.1 h with h | h
 ·exact iD m a e h
 ·simp only [List.mem_cons,Prod.mk.injEq,List.not_mem_nil,or_false] at h
  rcases h with ⟨rfl,rfl⟩ | ⟨rfl,rfl⟩ | ⟨rfl,rfl⟩ | ⟨rfl,rfl⟩ | ⟨rfl,rfl⟩ | ⟨rfl,rfl⟩ | ⟨rfl,rfl⟩ | ⟨rfl,rfl⟩ | ⟨rfl,rfl⟩
  ·exact VU m
  ·exact VV m
  ·exact VW m
  ·exact VX m
  ·exact VY m
  ·exact VZ m
  ·exact V0 m
  ·exact V1 m
  ·exact V2 m
noncomputable def cxD (m:Int):fw:={ D:=TE m,zS:=DL aag,pP:=fun _ _=>none,fz:=true,N:=0,gt:=gtE m }
theorem D8 (m:Int):a7 (gu m) 14 [] (fun r=>∃ y:Bool,r=aR.enc .bool y∧y=true):=
 dm (C:=cxD m) (n:=100000) (p:=.bool) (ok:=fun (y:Bool)=>y) (aZ (Rh m)) (by kernel_rfl) (by kernel_rfl) (by kernel_rfl)
end Go.Proofs.YtldcljfjjoidhaaGreatDoor
