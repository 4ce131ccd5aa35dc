/- Choose of the probe, plain: the victim and its level, worker by worker. -/
import Derived.Test.YtimklokgjmdobaaMMdAl
set_option linter.unusedVariables false
set_option linter.unusedSimpArgs false
namespace Go.Proofs.Ytimklokgjmdobaa.Md
open Go Go.RowKit Sx Cn Dc Ck Vc
def chOne (self v w : Int) (r : Int × Int) : Int × Int := if v ≠ self ∧ hiB w > r.2 then (v, hiB w) else r
def chV (n s : Int) (i : Nat) : Int := (s + i) % n
def chRun (B : Nat → Int) (n self s : Int) : Nat → Int × Int
  | 0 => (-1, -1)
  | k + 1 => chOne self (chV n s k) (B (chV n s k).toNat) (chRun B n self s k)
section
variable {A B : Nat → Int} {n self s : Int}
theorem chV_bd (hn : 0 < n) (i : Nat) : 0 ≤ chV n s i ∧ chV n s i < n := ⟨Int.emod_nonneg _ (by omega), Int.emod_lt_of_pos _ hn⟩
theorem chOne_self (w : Int) (r : Int × Int) : chOne self self w r = r := by unfold chOne; rw [if_neg (fun h => h.1 rfl)]
theorem chRun_congr (hn : 0 < n) (h : ∀ j : Nat, (j : Int) < n → (j : Int) ≠ self → A j = B j) : ∀ k, chRun A n self s k = chRun B n self s k
  | 0 => rfl
  | k + 1 => by
    unfold chRun
    rw [chRun_congr hn h k]
    by_cases e : chV n s k = self
    · rw [e, chOne_self, chOne_self]
    · have hv := chV_bd (s := s) hn k
      rw [h (chV n s k).toNat (by omega) (by omega)]
theorem chV_inj (hn : 0 < n) {i j : Nat} (hi : (i : Int) < n) (hj : (j : Int) < n) (h : chV n s i = chV n s j) : i = j := by
  unfold chV at h
  have h1 := Int.emod_emod_of_dvd (s + i) (Int.dvd_refl n)
  have e : (s + i - (s + j)) % n = 0 := by rw [Int.sub_emod, h, Int.sub_self, Int.zero_emod]
  rw [show s + (i : Int) - (s + j) = (i : Int) - j by omega] at e
  have := Int.dvd_of_emod_eq_zero e
  obtain ⟨q, hq⟩ := this
  have hq0 : q = 0 := by
    rcases Int.lt_trichotomy q 0 with g | g | g
    · have : n * q ≤ n * (-1) := Int.mul_le_mul_of_nonneg_left (by omega) (by omega)
      omega
    · exact g
    · have : n * 1 ≤ n * q := Int.mul_le_mul_of_nonneg_left (by omega) (by omega)
      omega
  rw [hq0] at hq
  omega
theorem chV_ex (hn : 0 < n) {v : Int} (h0 : 0 ≤ v) (h1 : v < n) : ∃ i : Nat, (i : Int) < n ∧ chV n s i = v := by
  refine ⟨((v - s) % n).toNat, ?_, ?_⟩
  · have := Int.emod_nonneg (v - s) (show n ≠ 0 by omega)
    have := Int.emod_lt_of_pos (v - s) hn
    omega
  · have h2 := Int.emod_nonneg (v - s) (show n ≠ 0 by omega)
    unfold chV
    rw [show ((((v - s) % n).toNat : Nat) : Int) = (v - s) % n by omega]
    rw [Int.add_emod, Int.emod_emod_of_dvd _ (Int.dvd_refl n), ← Int.add_emod, show s + (v - s) = v by omega]
    exact Int.emod_eq_of_lt h0 h1
end
end Go.Proofs.Ytimklokgjmdobaa.Md
