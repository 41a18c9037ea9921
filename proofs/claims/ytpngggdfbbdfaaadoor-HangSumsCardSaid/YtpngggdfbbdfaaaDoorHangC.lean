/- The chapter's examples: the closed call, carried out by the kernel. -/
import Derived.Test.YtpngggdfbbdfaaaDoorHangEnv
set_option linter.all false
namespace Go.Proofs.YtpngggdfbbdfaaaDoor
open Go Go.Am
set_option maxRecDepth 1000000
noncomputable def cxC : Ctx := { D := envD, tab := fun _ => none, cert := fun _ _ => none, fz := true, N := 0 }
theorem awake_calls : PCalls env 22 [] (fun r => ∃ y : Bool, r = Pat.enc .bool y ∧ y = true) :=
  closed_call (C := cxC) (n := 100000) (p := .bool) (ok := fun (y : Bool) => y) (fun _ _ h => by cases h) (by kernel_rfl) (by kernel_rfl) (by kernel_rfl)
end Go.Proofs.YtpngggdfbbdfaaaDoor
