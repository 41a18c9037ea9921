/- The chapter's examples: the closed call,carried out by the kernel over the calls that were carried out before. -/
import Derived.Test.YtldcljfjjoidhaaGreatDoorBraCb
set_option linter.all false
namespace Go.Proofs.YtldcljfjjoidhaaGreatDoor
open Go Go.Am
set_option maxRecDepth 1000000
noncomputable def WB:List (Nat × aJ):=NX++[(18,E18),(27,E27),(57,E57),(29,E29),(30,E30),(68,E68),(43,E43),(39,E39),(40,E40)]
theorem N9 (m:Int):∀ a e,(a,e)∈WB→an (eP m) a e:=fun a e h=>by
 rcases List.mem_append.1 h with h | h
 ·exact gd m a e h
 ·simp only [List.mem_cons,Prod.mk.injEq,List.not_mem_nil,or_false] at h
  rcases h with ⟨rfl,rfl⟩ | ⟨rfl,rfl⟩ | ⟨rfl,rfl⟩ | ⟨rfl,rfl⟩ | ⟨rfl,rfl⟩ | ⟨rfl,rfl⟩ | ⟨rfl,rfl⟩ | ⟨rfl,rfl⟩ | ⟨rfl,rfl⟩
  ·exact Se m
  ·exact Sf m
  ·exact Sg m
  ·exact Sh m
  ·exact Si m
  ·exact Sj m
  ·exact Sk m
  ·exact Sl m
  ·exact Sm m
noncomputable def cxD (m:Int):ea:={ D:=P3 m,yo:=Bw WB,pH:=fun _ _=>none,fz:=true,N:=0,gt:=gtE m }
theorem BS (m:Int):aS (eP m) 14 [] (fun r=>∃ y:Bool,r=aj.enc .bool y∧y=true):=
 cJ (C:=cxD m) (n:=100000) (p:=.bool) (ok:=fun (y:Bool)=>y) (aQ (N9 m)) (by kernel_rfl) (by kernel_rfl) (by kernel_rfl)
end Go.Proofs.YtldcljfjjoidhaaGreatDoor
