/-
  What is known of plain functions ahead of the machine's texts.
-/
import Derived.Test.YtdhgdeelagmbpaaSh
set_option linter.unusedSimpArgs false
set_option linter.unusedVariables false
namespace Go.Proofs.Ytdhgdeelagmbpaa
open Go Go.Gm

theorem slices_Reverse_Lint_L0_len : ∀ (p : Int × Int × List Int) (r : List Int), slices_Reverse_Lint_L0 p = some r → r.length = p.2.2.length := by
  refine slices_Reverse_Lint_L0.partial_correctness (fun p r => r.length = p.2.2.length) ?_
  intro f ih ⟨i, j, s⟩ r h
  dsimp only at h ⊢
  split at h
  · obtain ⟨x, _, h⟩ := Option.bind_eq_some_iff.1 h
    obtain ⟨y, _, h⟩ := Option.bind_eq_some_iff.1 h
    obtain ⟨z, _, h⟩ := Option.bind_eq_some_iff.1 h
    have := ih _ _ h
    simpa using this
  · cases h
    rfl
theorem slices_Reverse_Lint_len {l r : List Int} (h : slices_Reverse_Lint l = some r) : r.length = l.length := by
  unfold slices_Reverse_Lint at h
  obtain ⟨x, hx, h⟩ := Option.bind_eq_some_iff.1 h
  cases h
  exact slices_Reverse_Lint_L0_len _ _ hx
end Go.Proofs.Ytdhgdeelagmbpaa
