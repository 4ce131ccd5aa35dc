/- Heaps in the cells of a memory, the plain law: a key that climbs, a key that sinks. -/
import Derived.Test.YtomaagmleafjeaaGreatMMd
set_option linter.unusedVariables false
set_option linter.unusedSimpArgs false
set_option linter.unusedVariables false
set_option linter.unusedSimpArgs false
set_option maxRecDepth 100000
namespace Go.Proofs.YtomaagmleafjeaaGreat.Md
open Go Go.RowKit
/-- A function with another value at one place. -/
def put (g : Nat → Int) (i : Nat) (v : Int) : Nat → Int := fun e => if e = i then v else g e
theorem put_eq {g : Nat → Int} {i : Nat} {v : Int} : put g i v i = v := if_pos rfl
theorem put_ne {g : Nat → Int} {i j : Nat} {v : Int} (h : j ≠ i) : put g i v j = g j := if_neg h
/-- The key k climbs from place i. -/
def upM : Nat → Int → (Nat → Int) → (Nat → Int)
  | 0, k, g => put g 0 k
  | i + 1, k, g => if k < g (i / 2) then upM (i / 2) k (put g (i + 1) (g (i / 2))) else put g (i + 1) k
termination_by i => i
decreasing_by omega
def one (b : Prop) [Decidable b] : Nat := if b then 1 else 0
def cnt (g : Nat → Int) (x : Int) : Nat → Nat
  | 0 => 0
  | n + 1 => cnt g x n + one (g n = x)
theorem cnt_ge {g : Nat → Int} {x : Int} : ∀ {n : Nat}, 1 ≤ cnt g x n → ∃ j, j < n ∧ g j = x
  | 0, h => by simp [cnt] at h
  | n + 1, h => by
    by_cases c : g n = x
    · exact ⟨n, by omega, c⟩
    · have e : one (g n = x) = 0 := if_neg c
      rw [cnt, e] at h
      obtain ⟨j, h1, h2⟩ := cnt_ge (n := n) (by omega)
      exact ⟨j, by omega, h2⟩
theorem cnt_of {g : Nat → Int} {x : Int} : ∀ {n j : Nat}, j < n → g j = x → 1 ≤ cnt g x n
  | n + 1, j, h, e => by
    rw [cnt]
    by_cases c : j = n
    · subst c
      have : one (g j = x) = 1 := if_pos e
      omega
    · have := cnt_of (n := n) (j := j) (by omega) e
      omega
theorem cnt_off {g : Nat → Int} {x v : Int} {i : Nat} : ∀ {n : Nat}, n ≤ i → cnt (put g i v) x n = cnt g x n
  | 0, _ => rfl
  | n + 1, h => by rw [cnt, cnt, cnt_off (by omega), put_ne (by omega)]
theorem cnt_put {g : Nat → Int} {x v : Int} {i : Nat} : ∀ {n : Nat}, i < n → cnt (put g i v) x n + one (g i = x) = cnt g x n + one (v = x)
  | n + 1, h => by
    rw [cnt, cnt]
    by_cases c : i = n
    · subst c
      rw [cnt_off (Nat.le_refl _), put_eq]
      omega
    · have := cnt_put (g := g) (x := x) (v := v) (i := i) (n := n) (by omega)
      rw [put_ne (by omega : n ≠ i)]
      omega
theorem up_cnt {x k : Int} {n : Nat} : ∀ {i : Nat} {g : Nat → Int}, i < n → cnt (upM i k g) x n + one (g i = x) = cnt g x n + one (k = x)
  | 0, g, h => by rw [upM]; exact cnt_put h
  | i + 1, g, h => by
    rw [upM]
    split
    · have h1 := up_cnt (x := x) (k := k) (n := n) (i := i / 2) (g := put g (i + 1) (g (i / 2))) (by omega)
      have h2 := cnt_put (g := g) (x := x) (v := g (i / 2)) (i := i + 1) (n := n) h
      rw [put_ne (by omega)] at h1
      omega
    · exact cnt_put h
termination_by i => i
decreasing_by omega
def heap (n : Nat) (g : Nat → Int) : Prop := ∀ j, 0 < j → j < n → g ((j - 1) / 2) ≤ g j
theorem up_heap {k : Int} {n : Nat} : ∀ {i : Nat} {g : Nat → Int}, i < n → (∀ j, 0 < j → j < n → j ≠ i → (j - 1) / 2 ≠ i → g ((j - 1) / 2) ≤ g j) → (∀ j, 0 < j → j < n → (j - 1) / 2 = i → (0 < i → g ((i - 1) / 2) ≤ g j) ∧ k ≤ g j) → heap n (upM i k g)
  | 0, g, h, h1, h2 => by
    rw [upM]
    intro j j0 jn
    rw [put_ne (by omega : j ≠ 0)]
    by_cases c : (j - 1) / 2 = 0
    · rw [c, put_eq]
      exact (h2 j j0 jn c).2
    · rw [put_ne c]
      exact h1 j j0 jn (by omega) c
  | i + 1, g, h, h1, h2 => by
    rw [upM]
    split
    · rename_i hk
      refine up_heap (by omega) (fun j j0 jn jp jq => ?_) fun j j0 jn jq => ?_
      · by_cases c : j = i + 1
        · subst c
          exact absurd (by omega : (i + 1 - 1) / 2 = i / 2) jq
        · rw [put_ne c]
          by_cases c2 : (j - 1) / 2 = i + 1
          · rw [c2, put_eq]
            exact (h2 j j0 jn c2).1 (by omega)
          · rw [put_ne c2]
            exact h1 j j0 jn c c2
      · have hp : 0 < i / 2 → g ((i / 2 - 1) / 2) ≤ g (i / 2) := fun hp => h1 (i / 2) hp (by omega) (by omega) (by omega)
        have hq : 0 < i / 2 → put g (i + 1) (g (i / 2)) ((i / 2 - 1) / 2) = g ((i / 2 - 1) / 2) := fun hp => put_ne (by omega)
        by_cases c : j = i + 1
        · subst c
          rw [put_eq]
          exact ⟨fun h => by rw [hq h]; exact hp h, by omega⟩
        · have := h1 j j0 jn c (by omega)
          rw [jq] at this
          rw [put_ne c]
          exact ⟨fun h => by rw [hq h]; have := hp h; omega, by omega⟩
    · rename_i hk
      intro j j0 jn
      by_cases c : j = i + 1
      · subst c
        rw [put_eq, put_ne (by omega)]
        show g (i / 2) ≤ k
        omega
      · rw [put_ne c]
        by_cases c2 : (j - 1) / 2 = i + 1
        · rw [c2, put_eq]
          exact (h2 j j0 jn c2).2
        · rw [put_ne c2]
          exact h1 j j0 jn c c2
termination_by i => i
decreasing_by omega
end Go.Proofs.YtomaagmleafjeaaGreat.Md
