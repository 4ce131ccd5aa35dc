/- A heap of keys of different tasks, the plain law. -/
import Derived.Test.YtomaagmleafjeaaGreatMMdHp
set_option linter.unusedVariables false
set_option linter.unusedSimpArgs false
set_option linter.unusedVariables false
set_option linter.unusedSimpArgs false
set_option maxRecDepth 100000
namespace Go.Proofs.YtomaagmleafjeaaGreat.Md
open Go Go.RowKit
/-- A heap of the keys of the tasks that are alive. -/
structure Hk (len n : Nat) (K : Nat → Int) (al : Nat → Bool) (a : Nat → Int) : Prop where
  heap : heap n a
  uni : ∀ v, v < len → cnt a (K v) n = one (al v = true)
  own : ∀ j, j < n → ∃ v, v < len ∧ a j = K v
section
variable {len n : Nat} {K : Nat → Int} {al : Nat → Bool} {a : Nat → Int}
theorem one_t {p : Prop} [Decidable p] (h : p) : one p = 1 := if_pos h
theorem one_f {p : Prop} [Decidable p] (h : ¬ p) : one p = 0 := if_neg h
theorem Hk.zero {a : Nat → Int} : Hk len 0 K (fun v => decide (v < 0)) a := ⟨fun j _ h => by omega, fun v hv => by rw [one_f (by simp)]; rfl, fun j h => by omega⟩
theorem Hk.push (h : Hk len n K (fun v => decide (v < n)) a) (hn : n < len) (hK : ∀ u v, u < len → v < len → K u = K v → u = v) : Hk len (n + 1) K (fun v => decide (v < n + 1)) (upM n (K n) a) := by
  have hc : ∀ x, cnt (upM n (K n) a) x (n + 1) = cnt a x n + one (K n = x) := fun x => by
    have h1 := up_cnt (x := x) (k := K n) (n := n + 1) (i := n) (g := a) (by omega)
    have h2 : cnt a x (n + 1) = cnt a x n + one (a n = x) := rfl
    omega
  refine ⟨up_heap (by omega) (fun j j0 jn jp jq => h.heap j j0 (by omega)) (fun j j0 jn jq => by omega), fun v hv => ?_, fun j hj => ?_⟩
  · rw [hc, h.uni v hv]
    by_cases c : v = n
    · subst c
      rw [one_t rfl, one_f (by simp), one_t (by simp)]
    · rw [one_f (p := K n = K v) (fun e => c (hK n v hn hv e).symm)]
      by_cases c2 : v < n
      · rw [one_t (by simpa using c2), one_t (by simp; omega)]
      · rw [one_f (by simpa using c2), one_f (by simp; omega)]
  · have h1 := cnt_of hj (rfl : upM n (K n) a j = upM n (K n) a j)
    rw [hc] at h1
    by_cases c : K n = upM n (K n) a j
    · exact ⟨n, hn, c.symm⟩
    · rw [one_f c] at h1
      obtain ⟨i, i1, i2⟩ := cnt_ge (n := n) (by omega)
      obtain ⟨v, v1, v2⟩ := h.own i i1
      exact ⟨v, v1, by rw [← i2, v2]⟩
end
end Go.Proofs.YtomaagmleafjeaaGreat.Md
