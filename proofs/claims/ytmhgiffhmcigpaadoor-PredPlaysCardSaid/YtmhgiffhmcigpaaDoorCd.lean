/-
  New's contract.
-/
import Derived.Test.YtmhgiffhmcigpaaDoorCc
namespace Go.Proofs.YtmhgiffhmcigpaaDoor
open Go Go.Vc
set_option maxRecDepth 100000
set_option linter.unusedSimpArgs false
set_option linter.unusedVariables false
def newS : Vc.Spec := fun args hp _ K => match args with
  | [.v (.int .i64 b), .v (.int .u32 s)] => match hp with
    | [] => 1 ≤ b ∧ b ≤ 10 ∧ K (.tup [.ptr 5 0 0 0, .v .nilIface]) (newHp b.toNat (seedC s))
    | _ :: _ => False
  | _ => False
theorem new_ok : SOK Tryd.prog 8 newS := by
  refine TOK.weaken (runF_eq G0_ok mixed at8.1 at8.2 pf8_eq) fun args hp M K h => ?_
  unfold newS at h
  split at h
  · split at h
    · rename_i b s _
      obtain ⟨h1, h2, h3⟩ := h
      have := new_run M K b.toNat s (by omega) (by omega) h3
      rw [Int.toNat_of_nonneg (by omega)] at this
      exact this
    · exact h.elim
  · exact h.elim
end Go.Proofs.YtmhgiffhmcigpaaDoor
