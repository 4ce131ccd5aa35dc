/- Heaps in the cells of a memory, the plain law: a key that climbs, a key that sinks. -/
import Derived.Test.YtomaagmleafjeaaGreatMMd
set_option linter.unusedVariables false
set_option linter.unusedSimpArgs false
set_option linter.unusedVariables false
set_option linter.unusedSimpArgs false
set_option maxRecDepth 100000
namespace Go.Proofs.YtomaagmleafjeaaGreat.Md
open Go Go.RowKit
/-- A function with another value at one place. -/
def put (g : Nat → Int) (i : Nat) (v : Int) : Nat → Int := fun e => if e = i then v else g e
theorem put_eq {g : Nat → Int} {i : Nat} {v : Int} : put g i v i = v := if_pos rfl
theorem put_ne {g : Nat → Int} {i j : Nat} {v : Int} (h : j ≠ i) : put g i v j = g j := if_neg h
/-- The key k climbs from place i. -/
def upM : Nat → Int → (Nat → Int) → (Nat → Int)
  | 0, k, g => put g 0 k
  | i + 1, k, g => if k < g (i / 2) then upM (i / 2) k (put g (i + 1) (g (i / 2))) else put g (i + 1) k
termination_by i => i
decreasing_by omega
def lsr (n : Nat) (g : Nat → Int) (i : Nat) : Nat := if 2 * i + 2 < n ∧ g (2 * i + 2) < g (2 * i + 1) then 2 * i + 2 else 2 * i + 1
theorem lsr_bd {n : Nat} {g : Nat → Int} {i : Nat} (h : 2 * i + 1 < n) : i < lsr n g i ∧ lsr n g i < n ∧ (lsr n g i - 1) / 2 = i := by
  unfold lsr
  split <;> omega
/-- The key y sinks from place i, among the first n. -/
def dnM (n : Nat) (y : Int) : Nat → Nat → (Nat → Int) → (Nat → Int)
  | 0, i, g => put g i y
  | f + 1, i, g => if 2 * i + 1 < n ∧ g (lsr n g i) < y then dnM n y f (lsr n g i) (put g i (g (lsr n g i))) else put g i y
def one (b : Prop) [Decidable b] : Nat := if b then 1 else 0
def cnt (g : Nat → Int) (x : Int) : Nat → Nat
  | 0 => 0
  | n + 1 => cnt g x n + one (g n = x)
theorem cnt_ge {g : Nat → Int} {x : Int} : ∀ {n : Nat}, 1 ≤ cnt g x n → ∃ j, j < n ∧ g j = x
  | 0, h => by simp [cnt] at h
  | n + 1, h => by
    by_cases c : g n = x
    · exact ⟨n, by omega, c⟩
    · have e : one (g n = x) = 0 := if_neg c
      rw [cnt, e] at h
      obtain ⟨j, h1, h2⟩ := cnt_ge (n := n) (by omega)
      exact ⟨j, by omega, h2⟩
theorem cnt_of {g : Nat → Int} {x : Int} : ∀ {n j : Nat}, j < n → g j = x → 1 ≤ cnt g x n
  | n + 1, j, h, e => by
    rw [cnt]
    by_cases c : j = n
    · subst c
      have : one (g j = x) = 1 := if_pos e
      omega
    · have := cnt_of (n := n) (j := j) (by omega) e
      omega
theorem cnt_off {g : Nat → Int} {x v : Int} {i : Nat} : ∀ {n : Nat}, n ≤ i → cnt (put g i v) x n = cnt g x n
  | 0, _ => rfl
  | n + 1, h => by rw [cnt, cnt, cnt_off (by omega), put_ne (by omega)]
theorem cnt_put {g : Nat → Int} {x v : Int} {i : Nat} : ∀ {n : Nat}, i < n → cnt (put g i v) x n + one (g i = x) = cnt g x n + one (v = x)
  | n + 1, h => by
    rw [cnt, cnt]
    by_cases c : i = n
    · subst c
      rw [cnt_off (Nat.le_refl _), put_eq]
      omega
    · have := cnt_put (g := g) (x := x) (v := v) (i := i) (n := n) (by omega)
      rw [put_ne (by omega : n ≠ i)]
      omega
theorem up_cnt {x k : Int} {n : Nat} : ∀ {i : Nat} {g : Nat → Int}, i < n → cnt (upM i k g) x n + one (g i = x) = cnt g x n + one (k = x)
  | 0, g, h => by rw [upM]; exact cnt_put h
  | i + 1, g, h => by
    rw [upM]
    split
    · have h1 := up_cnt (x := x) (k := k) (n := n) (i := i / 2) (g := put g (i + 1) (g (i / 2))) (by omega)
      have h2 := cnt_put (g := g) (x := x) (v := g (i / 2)) (i := i + 1) (n := n) h
      rw [put_ne (by omega)] at h1
      omega
    · exact cnt_put h
termination_by i => i
decreasing_by omega
theorem dn_cnt {x y : Int} {n : Nat} : ∀ {f i : Nat} {g : Nat → Int}, i < n → cnt (dnM n y f i g) x n + one (g i = x) = cnt g x n + one (y = x)
  | 0, i, g, h => by rw [dnM]; exact cnt_put h
  | f + 1, i, g, h => by
    rw [dnM]
    split
    · rename_i hc
      obtain ⟨b1, b2, b3⟩ := lsr_bd (g := g) hc.1
      have h1 := dn_cnt (x := x) (y := y) (n := n) (f := f) (i := lsr n g i) (g := put g i (g (lsr n g i))) b2
      have h2 := cnt_put (g := g) (x := x) (v := g (lsr n g i)) (i := i) (n := n) h
      rw [put_ne (by omega)] at h1
      omega
    · exact cnt_put h
def heap (n : Nat) (g : Nat → Int) : Prop := ∀ j, 0 < j → j < n → g ((j - 1) / 2) ≤ g j
theorem heap_min {n : Nat} {g : Nat → Int} (h : heap n g) : ∀ j, j < n → g 0 ≤ g j
  | 0, _ => Int.le_refl _
  | j + 1, hj => by
    have h1 := h (j + 1) (by omega) hj
    have h2 := heap_min h ((j + 1 - 1) / 2) (by omega)
    omega
termination_by j => j
decreasing_by omega
theorem up_heap {k : Int} {n : Nat} : ∀ {i : Nat} {g : Nat → Int}, i < n → (∀ j, 0 < j → j < n → j ≠ i → (j - 1) / 2 ≠ i → g ((j - 1) / 2) ≤ g j) → (∀ j, 0 < j → j < n → (j - 1) / 2 = i → (0 < i → g ((i - 1) / 2) ≤ g j) ∧ k ≤ g j) → heap n (upM i k g)
  | 0, g, h, h1, h2 => by
    rw [upM]
    intro j j0 jn
    rw [put_ne (by omega : j ≠ 0)]
    by_cases c : (j - 1) / 2 = 0
    · rw [c, put_eq]
      exact (h2 j j0 jn c).2
    · rw [put_ne c]
      exact h1 j j0 jn (by omega) c
  | i + 1, g, h, h1, h2 => by
    rw [upM]
    split
    · rename_i hk
      refine up_heap (by omega) (fun j j0 jn jp jq => ?_) fun j j0 jn jq => ?_
      · by_cases c : j = i + 1
        · subst c
          exact absurd (by omega : (i + 1 - 1) / 2 = i / 2) jq
        · rw [put_ne c]
          by_cases c2 : (j - 1) / 2 = i + 1
          · rw [c2, put_eq]
            exact (h2 j j0 jn c2).1 (by omega)
          · rw [put_ne c2]
            exact h1 j j0 jn c c2
      · have hp : 0 < i / 2 → g ((i / 2 - 1) / 2) ≤ g (i / 2) := fun hp => h1 (i / 2) hp (by omega) (by omega) (by omega)
        have hq : 0 < i / 2 → put g (i + 1) (g (i / 2)) ((i / 2 - 1) / 2) = g ((i / 2 - 1) / 2) := fun hp => put_ne (by omega)
        by_cases c : j = i + 1
        · subst c
          rw [put_eq]
          exact ⟨fun h => by rw [hq h]; exact hp h, by omega⟩
        · have := h1 j j0 jn c (by omega)
          rw [jq] at this
          rw [put_ne c]
          exact ⟨fun h => by rw [hq h]; have := hp h; omega, by omega⟩
    · rename_i hk
      intro j j0 jn
      by_cases c : j = i + 1
      · subst c
        rw [put_eq, put_ne (by omega)]
        show g (i / 2) ≤ k
        omega
      · rw [put_ne c]
        by_cases c2 : (j - 1) / 2 = i + 1
        · rw [c2, put_eq]
          exact (h2 j j0 jn c2).2
        · rw [put_ne c2]
          exact h1 j j0 jn c c2
termination_by i => i
decreasing_by omega
theorem lsr_le {n : Nat} {g : Nat → Int} {i j : Nat} (j0 : 0 < j) (jn : j < n) (h : (j - 1) / 2 = i) : g (lsr n g i) ≤ g j := by
  unfold lsr
  have hj : j = 2 * i + 1 ∨ j = 2 * i + 2 := by omega
  split
  · rcases hj with rfl | rfl <;> omega
  · rcases hj with rfl | rfl <;> omega
theorem dn_heap {y : Int} {n : Nat} : ∀ {f i : Nat} {g : Nat → Int}, i < n → n ≤ i + f → (∀ j, 0 < j → j < n → j ≠ i → (j - 1) / 2 ≠ i → g ((j - 1) / 2) ≤ g j) → (0 < i → g ((i - 1) / 2) ≤ y ∧ ∀ j, 0 < j → j < n → (j - 1) / 2 = i → g ((i - 1) / 2) ≤ g j) → heap n (dnM n y f i g)
  | 0, i, g, h, hf, h1, h2 => by omega
  | f + 1, i, g, h, hf, h1, h2 => by
    rw [dnM]
    split
    · rename_i hc
      obtain ⟨b1, b2, b3⟩ := lsr_bd (g := g) hc.1
      have hl : ∀ j, 0 < j → j < n → (j - 1) / 2 = i → g (lsr n g i) ≤ g j := fun j a b c => lsr_le a b c
      generalize lsr n g i = c at *
      refine dn_heap b2 (by omega) (fun j j0 jn jp jq => ?_) fun _ => ⟨?_, fun j j0 jn jq => ?_⟩
      · by_cases ci : j = i
        · subst ci
          rw [put_eq, put_ne (by omega)]
          exact (h2 j0).2 c (by omega) b2 b3
        · rw [put_ne ci]
          by_cases cj : (j - 1) / 2 = i
          · rw [cj, put_eq]
            exact hl j j0 jn cj
          · rw [put_ne cj]
            exact h1 j j0 jn ci cj
      · rw [b3, put_eq]
        omega
      · rw [b3, put_eq, put_ne (by omega)]
        have := h1 j j0 jn (by omega) (by omega)
        rwa [jq] at this
    · rename_i hc
      intro j j0 jn
      by_cases ci : j = i
      · subst ci
        rw [put_eq, put_ne (by omega)]
        exact (h2 j0).1
      · rw [put_ne ci]
        by_cases cj : (j - 1) / 2 = i
        · rw [cj, put_eq]
          have := lsr_le (g := g) j0 jn cj
          omega
        · rw [put_ne cj]
          exact h1 j j0 jn ci cj
end Go.Proofs.YtomaagmleafjeaaGreat.Md
