/- The chapter's examples: the closed call,carried out by the kernel over the calls that were carried out before. -/
import Derived.Test.YtegoimldbgdeiaaGreatTrzCb
set_option linter.all false
namespace Go.Proofs.YtegoimldbgdeiaaGreat
open Go Go.Am
open List (map)
open Int (toNat)
open Go.IntKind (wrap)
open Go.Am.aF (fits)
set_option maxRecDepth 1000000
noncomputable def alm:List (Nat×bJ):=aam++[(21,E21),(23,E23),(10,E10),(12,E12),(13,E13),(30,E30),(33,E33),(38,E38),(34,E34)]
def aaA:∀ a e,(a,e)∈alm->aK cd a e:=λ a e h=>by
 rcases List.mem_append.1 h with h|h
 .exact jD a e h
 .simp only [List.mem_cons,Prod.mk.injEq,List.not_mem_nil,or_false] at h;rcases h with ⟨rfl,rfl⟩|⟨rfl,rfl⟩|⟨rfl,rfl⟩|⟨rfl,rfl⟩|⟨rfl,rfl⟩|⟨rfl,rfl⟩|⟨rfl,rfl⟩|⟨rfl,rfl⟩|⟨rfl,rfl⟩
  .exact agw
  .exact agx
  .exact agy
  .exact agz
  .exact agA
  .exact agB
  .exact agC
  .exact agD
  .exact agE
noncomputable def cxD:jj:={ D:=Vp,NU:=Gg alm,Ex:=λ _ _=>none,fz:=true,N:=0,xt:=xtC,gt:=gtK }
def Lu:cw cd 8 [] (λ r=>∃ y:Bool,r=aF.enc .bool y/\y=true):=
 dX (C:=cxD) (n:=100000) (p:=.bool) (ok:=λ (y:Bool)=>y) (iW aaA) (by kernel_rfl) (by kernel_rfl) (by kernel_rfl)
end Go.Proofs.YtegoimldbgdeiaaGreat
