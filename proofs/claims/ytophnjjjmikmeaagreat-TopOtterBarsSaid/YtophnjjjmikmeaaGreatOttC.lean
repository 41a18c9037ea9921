/- The chapter's examples: the closed call,carried out by the kernel. -/
import Derived.Test.YtophnjjjmikmeaaGreatOttCc
set_option linter.all false
namespace Go.Proofs.YtophnjjjmikmeaaGreat
open Go Go.Am
set_option maxRecDepth 1000000
noncomputable def SA:List (Nat × bl):=[(8,E8),(11,E11),(17,E17),(22,E22)]
theorem Om:∀ a e,(a,e)∈SA→av env a e:=fun a e h=>by
 simp only [SA,List.mem_cons,Prod.mk.injEq,List.not_mem_nil,or_false] at h
 rcases h with ⟨rfl,rfl⟩ | ⟨rfl,rfl⟩ | ⟨rfl,rfl⟩ | ⟨rfl,rfl⟩
 ·exact VD
 ·exact Sd
 ·exact Se
 ·exact Sz
noncomputable def cxE:gn:={ D:=NZ,DH:=C4 SA,sO:=fun _ _=>none,fz:=true,N:=0 }
theorem Dd:bz env 7 [] (fun r=>∃ y:Bool,r=aj.enc .bool y∧y=true):=
 jh (C:=cxE) (n:=100000) (p:=.bool) (ok:=fun (y:Bool)=>y) (bN Om) (by kernel_rfl) (by kernel_rfl) (by kernel_rfl)
end Go.Proofs.YtophnjjjmikmeaaGreat
