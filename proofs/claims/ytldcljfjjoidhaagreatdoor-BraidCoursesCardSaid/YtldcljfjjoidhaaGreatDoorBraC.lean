/- The chapter's examples: the closed call,carried out by the kernel over the calls that were carried out before. -/
import Derived.Test.YtldcljfjjoidhaaGreatDoorBraCb
set_option linter.all false
namespace Go.Proofs.YtldcljfjjoidhaaGreatDoor
open Go Go.Am
set_option maxRecDepth 1000000
noncomputable def N8:List (Nat × aV):=HK++[(18,RK),(27,RL),(57,RM),(29,RN),(30,RQ),(68,RR),(43,RS),(39,RT),(40,RU)]
theorem HW (m:Int):∀ a e,(a,e)∈N8→ap (dK m) a e:=fun a e h=>by
 rcases List.mem_append.1 h with h | h
 ·exact eO m a e h
 ·simp only [List.mem_cons,Prod.mk.injEq,List.not_mem_nil,or_false] at h
  rcases h with ⟨rfl,rfl⟩ | ⟨rfl,rfl⟩ | ⟨rfl,rfl⟩ | ⟨rfl,rfl⟩ | ⟨rfl,rfl⟩ | ⟨rfl,rfl⟩ | ⟨rfl,rfl⟩ | ⟨rfl,rfl⟩ | ⟨rfl,rfl⟩
  ·exact KQ m
  ·exact KR m
  ·exact KS m
  ·exact KT m
  ·exact KU m
  ·exact KV m
  ·exact KW m
  ·exact KX m
  ·exact KY m
noncomputable def T8 (m:Int):gD:={ D:=I0 m,zv:=zB N8,tA:=fun _ _=>none,fz:=true,N:=0,gt:=RH m }
theorem xN (m:Int):aN (dK m) 14 [] (fun r=>∃ y:Bool,r=av.enc .bool y∧y=true):=
 bX (C:=T8 m) (n:=100000) (p:=.bool) (ok:=fun (y:Bool)=>y) (bi (HW m)) (by kernel_rfl) (by kernel_rfl) (by kernel_rfl)
end Go.Proofs.YtldcljfjjoidhaaGreatDoor
