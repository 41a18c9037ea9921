/- The chapter's examples: the closed call,carried out by the kernel over the calls that were carried out before. -/
import Derived.Test.YtldcljfjjoidhaaGreatDoorBraCb
set_option linter.all false
namespace Go.Proofs.YtldcljfjjoidhaaGreatDoor
open Go Go.Am
open List (map)
open Int (toNat)
open Go.IntKind (wrap)
open Go.Am.aO (fits)
set_option maxRecDepth 1000000
noncomputable def XE:List (Nat × aZ):=PC++[(18,E18),(27,E27),(57,E57),(29,E29),(30,E30),(68,E68),(43,E43),(39,E39),(40,E40)]
theorem PO (m:Int):∀ a e,(a,e)∈XE→ap (fK m) a e:=fun a e h=>by
 rcases List.mem_append.1 h with h | h
 ·exact gV m a e h
 ·simp only [List.mem_cons,Prod.mk.injEq,List.not_mem_nil,or_false] at h
  rcases h with ⟨rfl,rfl⟩ | ⟨rfl,rfl⟩ | ⟨rfl,rfl⟩ | ⟨rfl,rfl⟩ | ⟨rfl,rfl⟩ | ⟨rfl,rfl⟩ | ⟨rfl,rfl⟩ | ⟨rfl,rfl⟩ | ⟨rfl,rfl⟩
  ·exact TN m
  ·exact TO m
  ·exact TP m
  ·exact TQ m
  ·exact TS m
  ·exact TT m
  ·exact TU m
  ·exact TV m
  ·exact TW m
noncomputable def cxD (m:Int):gv:={ D:=Ro m,yy:=CR XE,oD:=fun _ _=>none,fz:=true,N:=0,gt:=gtE m }
theorem Db (m:Int):aW (fK m) 14 [] (fun r=>∃ y:Bool,r=aO.enc .bool y∧y=true):=
 cQ (C:=cxD m) (n:=100000) (p:=.bool) (ok:=fun (y:Bool)=>y) (bn (PO m)) (by kernel_rfl) (by kernel_rfl) (by kernel_rfl)
end Go.Proofs.YtldcljfjjoidhaaGreatDoor
