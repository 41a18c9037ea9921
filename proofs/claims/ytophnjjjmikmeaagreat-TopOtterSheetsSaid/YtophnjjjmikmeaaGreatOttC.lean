/- The chapter's examples: the closed call,carried out by the kernel. -/
import Derived.Test.YtophnjjjmikmeaaGreatOttCc
set_option linter.all false
namespace Go.Proofs.YtophnjjjmikmeaaGreat
open Go Go.Am
set_option maxRecDepth 1000000
noncomputable def Pl:List (Nat × a8):=[(8,E8),(11,Xs),(17,TH),(22,Xx)]
theorem Lv:∀ a e,(a,e)∈Pl→ax env a e:=fun a e h=>by
 simp only [Pl,List.mem_cons,Prod.mk.injEq,List.not_mem_nil,or_false] at h
 rcases h with ⟨rfl,rfl⟩ | ⟨rfl,rfl⟩ | ⟨rfl,rfl⟩ | ⟨rfl,rfl⟩
 ·exact Sq
 ·exact OZ
 ·exact O0
 ·exact Pk
noncomputable def Zs:fP:={ D:=La,HI:=Dv Pl,Bt:=fun _ _=>none,fz:=true,N:=0 }
theorem BI:bP env 7 [] (fun r=>∃ y:Bool,r=aq.enc .bool y∧y=true):=
 il (C:=Zs) (n:=100000) (p:=.bool) (ok:=fun (y:Bool)=>y) (bD Lv) (by kernel_rfl) (by kernel_rfl) (by kernel_rfl)
end Go.Proofs.YtophnjjjmikmeaaGreat
