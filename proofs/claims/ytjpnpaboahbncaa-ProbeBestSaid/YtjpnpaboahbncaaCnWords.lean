/- Remainders and powers: the contracts. -/
import Derived.Test.YtjpnpaboahbncaaCnTrees
set_option linter.unusedVariables false
set_option linter.unusedSimpArgs false
set_option maxRecDepth 100000
namespace Go.Proofs.Ytjpnpaboahbncaa.Cn
open Go Go.RowKit Sx

theorem two_args {l : List Int} (h : l.length = 2) : ∃ a b, l = [a, b] := by
  match l, h with
  | [a, b], _ => exact ⟨a, b, rfl⟩
theorem one_arg {l : List Int} (h : l.length = 1) : ∃ a, l = [a] := by
  match l, h with
  | [a], _ => exact ⟨a, rfl⟩
theorem dr_pos {a b : Int} (h : ¬ b < 1) : dr a b = a % b := if_neg h
theorem dr_neg {a b : Int} (h : b < 1) : dr a b = 0 := if_pos h
theorem tmod_emod {a b : Int} (hb : ¬ b < 1) : (a.tmod b < 0 → a.tmod b + b = a % b) ∧ (¬ a.tmod b < 0 → a.tmod b = a % b) := by
  have h := Int.tmod_eq_emod (a := a) (b := b)
  have h1 := Int.emod_nonneg a (b := b) (by omega)
  have h2 := Int.emod_lt_of_pos a (b := b) (by omega)
  split at h
  · constructor <;> intro _ <;> omega
  · rw [Int.natAbs_of_nonneg (by omega)] at h
    constructor <;> intro _ <;> omega
theorem dr_range {a b : Int} (h : 1 ≤ b) : 0 ≤ dr a b ∧ dr a b < b := by
  rw [dr_pos (by omega)]
  exact ⟨Int.emod_nonneg _ (by omega), Int.emod_lt_of_pos _ (by omega)⟩
theorem dr_bound (a b : Int) : 0 ≤ dr a b ∧ (dr a b = 0 ∨ dr a b < b) := by
  by_cases h : b < 1
  · rw [dr_neg h]; exact ⟨Int.le_refl _, .inl rfl⟩
  · have := dr_range (a := a) (b := b) (by omega); exact ⟨this.1, .inr this.2⟩

/-- A number that fits is as it was. -/
def Fit (n : Int) : Prop := -9223372036854775808 ≤ n ∧ n ≤ 9223372036854775807
theorem pure26 : PureC P 26 [.i64, .i64] (fun | [a, b] => .need (b ≤ 9223372036854775807) (.leaf (iv (dr a b))) | _ => .bad 400) := pureC_of (execF_ok0 (P := P) (con := con0) (u := 3) ConOK.nil 2) fun l hl K hK => by
  obtain ⟨a, b, rfl⟩ := two_args hl
  obtain ⟨hb, hK⟩ := hK
  have hK : K (iv (dr a b)) := hK
  change (drTree a b).holds _
  rw [dr_tree]
  simp only [Out.holds]
  refine ⟨fun h => ?_, fun h => ?_⟩
  · have h := of_decide_eq_true h
    exact ⟨rfl, iv (dr a b), ⟨rfl, (dr_neg h).symm⟩, hK⟩
  · have h := of_decide_eq_false h
    have hm := tmod_emod (a := a) h
    have hr := dr_range (a := a) (b := b) (by simp only [Int.ofNat_eq_natCast] at h; omega)
    have hd := dr_pos (a := a) h
    rw [hd] at hr
    refine ⟨by rintro rfl; exact h (by decide), fun h2 => ?_, fun h2 => ?_⟩
    · have h2 := of_decide_eq_true h2
      refine ⟨by rintro rfl; exact h (by decide), rfl, iv (dr a b), ⟨rfl, ?_⟩, hK⟩
      rw [hm.1 h2, hd]; exact w64 (by omega)
    · have h2 := of_decide_eq_false h2
      exact ⟨by rintro rfl; exact h (by decide), rfl, iv (dr a b), ⟨rfl, (hm.2 h2).trans hd.symm⟩, hK⟩
theorem pure71 : PureC P 71 [.i64, .i64] (fun | [a, b] => .need (b ≤ 9223372036854775807) (.leaf (iv (dr a b))) | _ => .bad 400) := pureC_of (execF_ok0 (P := P) (con := con0) (u := 3) ConOK.nil 2) fun l hl K hK => by
  obtain ⟨a, b, rfl⟩ := two_args hl
  obtain ⟨hb, hK⟩ := hK
  have hK : K (iv (dr a b)) := hK
  change (modTree a b).holds _
  rw [mod_tree]
  simp only [Out.holds]
  refine ⟨fun h => ?_, fun h => ?_⟩
  · have h := of_decide_eq_true h
    exact ⟨rfl, iv (dr a b), ⟨rfl, (dr_neg h).symm⟩, hK⟩
  · have h := of_decide_eq_false h
    have hm := tmod_emod (a := a) h
    have hr := dr_range (a := a) (b := b) (by simp only [Int.ofNat_eq_natCast] at h; omega)
    have hd := dr_pos (a := a) h
    rw [hd] at hr
    refine ⟨by rintro rfl; exact h (by decide), fun h2 => ?_, fun h2 => ?_⟩
    · have h2 := of_decide_eq_true h2
      refine ⟨rfl, iv (dr a b), ⟨rfl, ?_⟩, hK⟩
      rw [hm.1 h2, hd]; exact w64 (by omega)
    · have h2 := of_decide_eq_false h2
      exact ⟨rfl, iv (dr a b), ⟨rfl, (hm.2 h2).trans hd.symm⟩, hK⟩

theorem pw_pos (i : Int) : 0 < pw i := Int.pow_pos (by decide)
theorem pw_le {i : Int} (h : i ≤ 63) : pw i ≤ 9223372036854775808 := by
  unfold pw
  have : i.toNat ≤ 63 := by omega
  calc (2 : Int) ^ i.toNat ≤ 2 ^ 63 := by exact_mod_cast Nat.pow_le_pow_right (by decide) this
    _ = 9223372036854775808 := by decide
theorem pow_small {j : Nat} (h : j ≤ 63) : (2 : Int) ^ j ≤ 9223372036854775808 := by
  calc (2 : Int) ^ j ≤ 2 ^ 63 := by exact_mod_cast Nat.pow_le_pow_right (by decide) h
    _ = 9223372036854775808 := by decide
theorem pw_round_ok (i : Int) (j : Nat) (hx : i ≤ 63 ∧ j ≤ i.toNat) (K : Ex × St → Prop) (hA : (Apw i).holds K) : Holds (pwRound i j) (RoundEnd (Jpw i) (fun j => i ≤ 63 ∧ j ≤ i.toNat) (fun j => i.toNat - j) 0 0 K j) := by
  constructor
  rw [pw_round]
  simp only [Out.holds]
  obtain ⟨h63, hj⟩ := hx
  refine ⟨fun h => ?_, fun h => ?_⟩
  · have h := of_decide_eq_true h
    simp only [Int.ofNat_eq_natCast] at h
    have e1 : IntKind.i64.wrap (i - ↑j - 1) = i - ((j + 1 : Nat) : Int) := by rw [w64 (by omega)]; omega
    have e2 : IntKind.u64.wrap ((2 : Int) ^ j * 2) = 2 ^ (j + 1) := by
      rw [← Int.pow_succ]
      have := pow_small (j := j + 1) (by omega)
      exact wu64 ⟨Int.le_of_lt (Int.pow_pos (by decide)), by omega⟩
    exact ⟨j + 1, [], ⟨h63, by omega⟩, (by show i.toNat - (j + 1) < i.toNat - j; omega), rfl, rfl, ⟨⟨⟨rfl, e1⟩, ⟨rfl, e2⟩, trivial⟩, trivial⟩, rfl⟩
  · have h := of_decide_eq_false h
    simp only [Int.ofNat_eq_natCast] at h
    have : j = i.toNat := by omega
    subst this
    exact ⟨Fpw i, [], ⟨rfl, rfl, ⟨⟨⟨rfl, rfl⟩, trivial⟩, trivial⟩, rfl⟩, rfl, Nat.le_refl _, hA⟩
theorem pure124 : PureC P 124 [.i64] postPw := pureC_by fun l hl => by
  obtain ⟨i, rfl⟩ := one_arg hl
  refine ⟨_, execA_ok (u := 3) ConOK.nil (fits1 (x := pwAnn i) (loopA_ok ConOK.nil (u := 3) (nf := 2) (fun j => i.toNat - j) 0 (Nat.le_refl _) (fun _ => rfl) (fun _ => rfl) (fun _ => rfl) (fun j hj K hA => pw_round_ok i j hj K hA))) 3, fun K hK => ?_⟩
  change (pwTree i).holds _
  rw [pw_tree]
  obtain ⟨h63, hK⟩ := hK
  exact ⟨⟨⟨h63, Nat.zero_le _⟩, fun _ => trivial, fun _ => trivial, ⟨⟨rfl, by omega⟩, ⟨rfl, rfl⟩, trivial⟩, trivial⟩, rfl, uv (pw i), ⟨rfl, rfl⟩, hK⟩
end Go.Proofs.Ytjpnpaboahbncaa.Cn
