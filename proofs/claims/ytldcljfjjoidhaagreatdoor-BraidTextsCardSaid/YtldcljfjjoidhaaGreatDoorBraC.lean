/- The chapter's examples: the closed call,carried out by the kernel over the calls that were carried out before. -/
import Derived.Test.YtldcljfjjoidhaaGreatDoorBraCb
set_option linter.all false
namespace Go.Proofs.YtldcljfjjoidhaaGreatDoor
open Go Go.Am
open List (map)
open Int (toNat)
open Go.IntKind (wrap)
open Go.Am.aP (fits)
set_option maxRecDepth 1000000
noncomputable def abr:List (Nat × aD):=Se++[(18,E18),(27,E27),(57,E57),(29,E29),(30,E30),(68,E68),(43,E43),(39,E39),(40,E40)]
theorem Sr (m:Int):∀ a e,(a,e)∈abr→ai (e8 m) a e:=fun a e h=>by
 rcases List.mem_append.1 h with h|h
 ·exact gr m a e h
 ·simp only [List.mem_cons,Prod.mk.injEq,List.not_mem_nil,or_false] at h;rcases h with ⟨rfl,rfl⟩|⟨rfl,rfl⟩|⟨rfl,rfl⟩|⟨rfl,rfl⟩|⟨rfl,rfl⟩|⟨rfl,rfl⟩|⟨rfl,rfl⟩|⟨rfl,rfl⟩|⟨rfl,rfl⟩
  ·exact WY m
  ·exact WZ m
  ·exact W0 m
  ·exact W1 m
  ·exact W2 m
  ·exact W3 m
  ·exact W4 m
  ·exact W5 m
  ·exact W6 m
noncomputable def cxD (m:Int):eB:={ D:=UP m,xe:=wI abr,oo:=fun _ _=>none,fz:=true,N:=0,gt:=gtE m }
theorem ES (m:Int):aU (e8 m) 14 [] (fun r=>∃ y:Bool,r=aP.enc .bool y∧y=true):=
 cY (C:=cxD m) (n:=100000) (p:=.bool) (ok:=fun (y:Bool)=>y) (fJ (Sr m)) (by kernel_rfl) (by kernel_rfl) (by kernel_rfl)
end Go.Proofs.YtldcljfjjoidhaaGreatDoor
