/- The chapter's examples: the closed call,carried out by the kernel over the calls that were carried out before. -/
import Derived.Test.YtldcljfjjoidhaaGreatDoorBraCb
set_option linter.all false
namespace Go.Proofs.YtldcljfjjoidhaaGreatDoor
open Go Go.Am
set_option maxRecDepth 1000000
noncomputable def TQ:List (Nat × aK):=LZ++[(18,YC),(27,YD),(57,YE),(29,YF),(30,YG),(68,YH),(43,YI),(39,YJ),(40,YK)]
theorem Md (m:Int):∀ a e,(a,e)∈TQ→ao (eC m) a e:=fun a e h=>by
 rcases List.mem_append.1 h with h | h
 ·exact fL m a e h
 ·simp only [List.mem_cons,Prod.mk.injEq,List.not_mem_nil,or_false] at h
  rcases h with ⟨rfl,rfl⟩ | ⟨rfl,rfl⟩ | ⟨rfl,rfl⟩ | ⟨rfl,rfl⟩ | ⟨rfl,rfl⟩ | ⟨rfl,rfl⟩ | ⟨rfl,rfl⟩ | ⟨rfl,rfl⟩ | ⟨rfl,rfl⟩
  ·exact PM m
  ·exact PN m
  ·exact PO m
  ·exact PP m
  ·exact PQ m
  ·exact PR m
  ·exact PS m
  ·exact PT m
  ·exact PU m
noncomputable def cxD (m:Int):eR:={ D:=NF m,xd:=AG TQ,oJ:=fun _ _=>none,fz:=true,N:=0,gt:=Yz m }
theorem A1 (m:Int):aM (eC m) 14 [] (fun r=>∃ y:Bool,r=an.enc .bool y∧y=true):=
 cu (C:=cxD m) (n:=100000) (p:=.bool) (ok:=fun (y:Bool)=>y) (aW (Md m)) (by kernel_rfl) (by kernel_rfl) (by kernel_rfl)
end Go.Proofs.YtldcljfjjoidhaaGreatDoor
