/- Bits: the contracts. -/
import Derived.Test.YtjpnpaboahbncaaCnTrees2
set_option linter.unusedVariables false
set_option linter.unusedSimpArgs false
set_option maxRecDepth 100000
namespace Go.Proofs.Ytjpnpaboahbncaa.Cn
open Go Go.RowKit Sx

theorem pure123 : PureC P 123 [.u64] postLen := by
  intro l hl w K hK
  obtain ⟨x, rfl⟩ := one_arg hl
  obtain ⟨⟨h0, h1⟩, hK⟩ := hK
  refine (bits_Len64 x w h0 h1).mono ?_
  rintro e w' ⟨rfl, rfl⟩
  exact ⟨_, iv (Lib.bitLen x.toNat), rfl, hK, fun ρ => rfl, rfl, rfl, rfl, Nat.le_refl _, fun _ _ _ => rfl⟩
theorem con1_ok : ConOK P con1 := .add (conP_ok pure124) (.add (conP_ok pure26) (.add (conP_ok pure71) (.add (conP_ok pure123) .nil)))

theorem bt_eq (x i : Int) : bt x i = true ↔ 0 ≤ i ∧ i < 64 ∧ x / pw i % 2 = 1 := by simp [bt]
theorem pure73 : PureC P 73 [.u64, .i64] postBt := pureC_of (execF_ok0 (P := P) (u := 3) con1_ok 2) fun l hl K hK => by
  obtain ⟨x, i, rfl⟩ := two_args hl
  obtain ⟨⟨h0, h1⟩, hK⟩ := hK
  have hK : K (.c (.bv (bt x i))) := hK
  change (btTree x i).holds _
  rw [bt_tree]
  simp only [Out.holds, Int.ofNat_eq_natCast]
  refine ⟨fun a => ⟨fun b => ?_, fun b => ?_⟩, fun a => ?_⟩
  · have a := of_decide_eq_true a; have b := of_decide_eq_true b
    have hp := pw_pos i
    have hq : IntKind.u64.wrap (x.tdiv (pw i)) = x / pw i := by
      rw [Int.tdiv_eq_ediv_of_nonneg h0]
      have h2 := Int.ediv_nonneg h0 (Int.le_of_lt hp)
      have h3 : x / pw i ≤ x := Int.ediv_le_self _ h0
      exact wu64 ⟨h2, by omega⟩
    have h2 := Int.ediv_nonneg h0 (Int.le_of_lt hp)
    refine ⟨by omega, by omega, by decide, rfl, .c (.bv (bt x i)), ?_, hK⟩
    show (_ : Bool) = _
    rw [hq, Int.tmod_eq_emod_of_nonneg h2, Bool.eq_iff_iff, bt_eq]
    simp only [beq_iff_eq]
    constructor
    · intro h; exact ⟨by omega, by omega, h⟩
    · intro h; exact h.2.2
  · have a := of_decide_eq_true a; have b := of_decide_eq_false b
    refine ⟨rfl, .c (.bv (bt x i)), ?_, hK⟩
    show false = bt x i
    symm; rw [Bool.eq_false_iff, ne_eq, bt_eq]
    omega
  · have a := of_decide_eq_false a
    refine ⟨rfl, .c (.bv (bt x i)), ?_, hK⟩
    show false = bt x i
    symm; rw [Bool.eq_false_iff, ne_eq, bt_eq]
    omega
theorem con2_ok : ConOK P con2 := .add (conP_ok pure73) con1_ok

theorem hi_zero : hi 0 = -1 := rfl
theorem two_pow_lt {n : Nat} (h : n ≤ 64) : (2 : Int) ^ n ≤ 18446744073709551616 := by
  calc (2 : Int) ^ n ≤ 2 ^ 64 := by exact_mod_cast Nat.pow_le_pow_right (by decide) h
    _ = 18446744073709551616 := by decide
/-- The highest bit, by its bounds. -/
theorem hi_of {x : Int} {j : Nat} (hj : j < 64) (h1 : 2 ^ j ≤ x) (h2 : x < 2 ^ (j + 1)) : hi x = j := by
  obtain ⟨n, rfl⟩ : ∃ n : Nat, x = n := ⟨x.toNat, by have : (0 : Int) < 2 ^ j := Int.pow_pos (by decide); omega⟩
  have h1' : 2 ^ j ≤ n := by exact_mod_cast h1
  have h2' : n < 2 ^ (j + 1) := by exact_mod_cast h2
  have hp : 0 < 2 ^ j := Nat.pow_pos (by decide)
  have h64 : n < 2 ^ 64 := Nat.lt_of_lt_of_le h2' (Nat.pow_le_pow_right (by decide) hj)
  obtain ⟨a, b, c⟩ := Lib.bitLenAux_bounds 64 n h64 (by omega)
  have e : Lib.bitLenAux 64 n = j + 1 := by
    rcases Nat.lt_trichotomy (Lib.bitLenAux 64 n) (j + 1) with h | h | h
    · have := Nat.pow_le_pow_right (n := 2) (by decide) (Nat.le_of_lt_succ h)
      omega
    · exact h
    · have := Nat.pow_le_pow_right (n := 2) (by decide) (show j + 1 ≤ Lib.bitLenAux 64 n - 1 by omega)
      omega
  simp only [hi, Lib.bitLen, Int.toNat_natCast, e]
  omega
theorem hi_range {x : Int} (h0 : 0 ≤ x) (h1 : x ≤ 18446744073709551615) : -1 ≤ hi x ∧ hi x ≤ 63 := by
  have := Lib.bitLen_le x.toNat 64 (by decide) (by omega)
  unfold hi
  omega
theorem bt_top {x : Int} {j : Nat} (hj : j < 64) (h0 : 0 ≤ x) (h2 : x < 2 ^ (j + 1)) : (bt x j = true → hi x = j) ∧ (bt x j = false → x < 2 ^ j) := by
  have hp : (0 : Int) < 2 ^ j := Int.pow_pos (by decide)
  have hq : x / 2 ^ j < 2 := by
    rw [Int.ediv_lt_iff_lt_mul hp]
    rw [Int.pow_succ] at h2; omega
  have hq0 : 0 ≤ x / 2 ^ j := Int.ediv_nonneg h0 (Int.le_of_lt hp)
  have hw : pw (j : Int) = 2 ^ j := by simp [pw]
  refine ⟨fun h => hi_of hj ?_ h2, fun h => ?_⟩
  · rw [bt_eq, hw] at h
    have : 1 ≤ x / 2 ^ j := by omega
    rw [Int.le_ediv_iff_mul_le hp] at this
    omega
  · rw [Bool.eq_false_iff, ne_eq, bt_eq, hw] at h
    have : x / 2 ^ j < 1 := by omega
    rw [Int.ediv_lt_iff_lt_mul hp] at this
    omega

theorem hi_round_ok (x : Int) (j : Nat) (hx : Ihi x j) (K : Ex × St → Prop) (hA : (Ahi x).holds K) : Holds (hiRound x j) (RoundEnd (Jhi x) (Ihi x) (fun j => 65 - j) 0 0 K j) := by
  constructor
  rw [hi_round]
  obtain ⟨h0, hj, hlt⟩ := hx
  have hm := two_pow_lt (n := 64 - j) (by omega)
  simp only [Out.holds, Int.ofNat_eq_natCast]
  refine ⟨fun a => ?_, fun a => ?_⟩
  · have a := of_decide_eq_true a
    have e : ((63 : Nat) : Int) - ↑j = ((63 - j : Nat) : Int) := by omega
    have hlt' : x < 2 ^ (63 - j + 1) := by rw [show 63 - j + 1 = 64 - j by omega]; exact hlt
    obtain ⟨t1, t2⟩ := bt_top (x := x) (j := 63 - j) (by omega) h0 hlt'
    rw [← e] at t1 t2
    refine ⟨⟨by omega, by omega⟩, fun b => ?_, fun b => ?_⟩
    · have hb := t1 b
      have hne : x ≠ 0 := by
        rintro rfl
        rw [hi_zero] at hb; omega
      exact ⟨Fhi1 x, [], ⟨rfl, rfl, ⟨⟨⟨rfl, hb.symm⟩, trivial⟩, trivial⟩, rfl⟩, rfl, Nat.le_refl _, hA.2 (decide_eq_false hne)⟩
    · have hb := t2 b
      have e1 : IntKind.i64.wrap (((63 : Nat) : Int) - ↑j - ((1 : Nat) : Int)) = 63 - ((j + 1 : Nat) : Int) := by rw [w64 (by omega)]; omega
      refine ⟨j + 1, [], ⟨h0, by omega, ?_⟩, (by show 65 - (j + 1) < 65 - j; omega), rfl, rfl, ⟨⟨⟨rfl, rfl⟩, ⟨rfl, e1⟩, trivial⟩, trivial⟩, rfl⟩
      rw [show 64 - (j + 1) = 63 - j by omega]; exact hb
  · have a := of_decide_eq_false a
    have : j = 64 := by omega
    subst this
    have hz : x = 0 := by simp at hlt; omega
    exact ⟨Fhi0, [], ⟨rfl, rfl, ⟨trivial, trivial⟩, rfl⟩, rfl, Nat.le_refl _, hA.1 (decide_eq_true hz)⟩
theorem pure25 : PureC P 25 [.u64] postHi := pureC_by fun l hl => by
  obtain ⟨x, rfl⟩ := one_arg hl
  refine ⟨_, execA_ok (u := 3) con2_ok (fits1 (x := hiAnn x) (loopA_ok con2_ok (u := 3) (nf := 2) (fun j => 65 - j) 0 (Nat.le_refl _) (fun _ => rfl) (fun _ => rfl) (fun _ => rfl) (fun j hj K hA => hi_round_ok x j hj K hA))) 3, fun K hK => ?_⟩
  change (highTree x).holds _
  rw [high_tree]
  obtain ⟨⟨h0, h1⟩, hK⟩ := hK
  have hK : K (iv (hi x)) := hK
  refine ⟨⟨⟨h0, by omega, by simp only [Nat.sub_zero]; omega⟩, fun _ => trivial, fun _ => trivial, ⟨⟨rfl, rfl⟩, ⟨rfl, by simp⟩, trivial⟩, trivial⟩, fun a => ?_, fun a => ?_⟩
  · have a : x = 0 := of_decide_eq_true a
    subst a
    exact ⟨rfl, iv (hi 0), ⟨rfl, rfl⟩, hK⟩
  · exact ⟨rfl, iv (hi x), ⟨rfl, rfl⟩, hK⟩
theorem pure72 : PureC P 72 [.u64] postHi := pureC_of (execF_ok0 (P := P) (u := 3) con1_ok 2) fun l hl K hK => by
  obtain ⟨x, rfl⟩ := one_arg hl
  obtain ⟨⟨h0, h1⟩, hK⟩ := hK
  have hK : K (iv (hi x)) := hK
  change (hiTree x).holds _
  rw [words_hi_tree]
  have hr := hi_range h0 h1
  refine ⟨⟨h0, h1⟩, rfl, iv (hi x), ⟨rfl, ?_⟩, hK⟩
  unfold hi at hr ⊢
  exact w64 (by simp only [Int.ofNat_eq_natCast]; omega)
noncomputable def con3 : Con := Con.add 25 (conP [.u64] postHi) (Con.add 72 (conP [.u64] postHi) con2)
theorem con3_ok : ConOK P con3 := .add (conP_ok pure25) (.add (conP_ok pure72) con2_ok)
end Go.Proofs.Ytjpnpaboahbncaa.Cn
