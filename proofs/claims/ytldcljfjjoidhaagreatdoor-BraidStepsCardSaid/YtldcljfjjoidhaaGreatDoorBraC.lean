/- The chapter's examples: the closed call,carried out by the kernel over the calls that were carried out before. -/
import Derived.Test.YtldcljfjjoidhaaGreatDoorBraCb
set_option linter.all false
namespace Go.Proofs.YtldcljfjjoidhaaGreatDoor
open Go Go.Am
set_option maxRecDepth 1000000
noncomputable def WY:List (Nat × aL):=Oe++[(18,E18),(27,E27),(57,E57),(29,E29),(30,E30),(68,E68),(43,E43),(39,E39),(40,E40)]
theorem Ou (m:Int):∀ a e,(a,e)∈WY→an (eT m) a e:=fun a e h=>by
 rcases List.mem_append.1 h with h | h
 ·exact gi m a e h
 ·simp only [List.mem_cons,Prod.mk.injEq,List.not_mem_nil,or_false] at h
  rcases h with ⟨rfl,rfl⟩ | ⟨rfl,rfl⟩ | ⟨rfl,rfl⟩ | ⟨rfl,rfl⟩ | ⟨rfl,rfl⟩ | ⟨rfl,rfl⟩ | ⟨rfl,rfl⟩ | ⟨rfl,rfl⟩ | ⟨rfl,rfl⟩
  ·exact SE m
  ·exact SF m
  ·exact SG m
  ·exact SH m
  ·exact SI m
  ·exact SJ m
  ·exact SK m
  ·exact SL m
  ·exact SM m
noncomputable def cxD (m:Int):ej:={ D:=Qp m,yH:=BP WY,pL:=fun _ _=>none,fz:=true,N:=0,gt:=gtE m }
theorem Cb (m:Int):aR (eT m) 14 [] (fun r=>∃ y:Bool,r=aj.enc .bool y∧y=true):=
 cL (C:=cxD m) (n:=100000) (p:=.bool) (ok:=fun (y:Bool)=>y) (aT (Ou m)) (by kernel_rfl) (by kernel_rfl) (by kernel_rfl)
end Go.Proofs.YtldcljfjjoidhaaGreatDoor
