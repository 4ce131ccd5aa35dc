/- Functions of integers that all statements reach: what they compute. -/
import Derived.Test.YtjpnpaboahbncaaMExec
import Derived.Test.YtjpnpaboahbncaaMCnLen
import Derived.Lib.ItoaNum
set_option linter.unusedVariables false
set_option linter.unusedSimpArgs false
set_option linter.unusedVariables false
namespace Go.Proofs.Ytjpnpaboahbncaa.Cn
open Go Go.RowKit Sx
noncomputable section
noncomputable abbrev P : Program := Try.prog
abbrev iv (n : Int) : SV := .c (.iv .i64 n)
abbrev uv (n : Int) : SV := .c (.iv .u64 n)

/-! ### the remainder, from 0 on -/
def dr (a b : Int) : Int := if b < 1 then 0 else a % b
/-! ### powers, bits -/
def pw (i : Int) : Int := 2 ^ i.toNat
def postPw : List Int → Out SV | [i] => .need (i ≤ 63) (.leaf (uv (pw i))) | _ => .bad 400
def bt (x i : Int) : Bool := decide (0 ≤ i ∧ i < 64 ∧ x / pw i % 2 = 1)
def postBt : List Int → Out SV | [x, i] => .need (0 ≤ x ∧ x ≤ 18446744073709551615) (.leaf (.c (.bv (bt x i)))) | _ => .bad 400
/-- The highest bit. -/
def hi (x : Int) : Int := (Lib.bitLen x.toNat : Int) - 1
def postHi : List Int → Out SV | [x] => .need (0 ≤ x ∧ x ≤ 18446744073709551615) (.leaf (iv (hi x))) | _ => .bad 400
def postLen : List Int → Out SV | [x] => .need (0 ≤ x ∧ x ≤ 18446744073709551615) (.leaf (iv (Lib.bitLen x.toNat))) | _ => .bad 400

def con0 : Con := fun _ => none
def noAnn : FuncId → Ann := fun _ => .nil
def emp : Hp := ⟨[], 0, fun _ => True⟩

def drTree (a b : Int) : Out (SV × Hp) := execF P con0 noAnn 3 2 26 [iv a, iv b] emp
def modTree (a b : Int) : Out (SV × Hp) := execF P con0 noAnn 3 2 71 [iv a, iv b] emp

/-! power: after j rounds -/
def Jpw (i : Int) (j : Nat) : St := ⟨tms 11 [(0, iv (i - j)), (3, uv (2 ^ j))], ⟨[], 0, fun _ => True⟩⟩
def Fpw (i : Int) : St := ⟨tms 11 [(3, uv (pw i))], ⟨[], 0, fun _ => True⟩⟩
def Apw (i : Int) : Out (Ex × St) := .leaf (.exit 0, Fpw i)
def pwRound (i : Int) (j : Nat) : Out (Ex × St) := roundT P con0 124 0 3 2 0 (patOf (Jpw i j) 11 [3]) (Jpw i j)
def pwAnn (i : Int) : Ann := loopA (Jpw i) (fun j => i ≤ 63 ∧ j ≤ i.toNat) 0 0 [] (Apw i)
def pwTree (i : Int) : Out (SV × Hp) := execA P con0 124 [pwAnn i] 3 [] 3 124 [iv i] emp
end
end Go.Proofs.Ytjpnpaboahbncaa.Cn


/- Functions of integers: the executor's trees, printed by program. -/
set_option linter.unusedVariables false
set_option maxRecDepth 100000
namespace Go.Proofs.Ytjpnpaboahbncaa.Cn
open Go Go.RowKit Sx

theorem dr_tree (a b : Int) : drTree a b =
  Out.br (decide (b < Int.ofNat 1))
    (Out.leaf (SV.c (SC.ki IntKind.i64 (Int.ofNat 0)), { h := [], nxt := 0, D := fun x => True }))
    (Out.need (b ≠ Int.ofNat 0)
    (Out.br (decide (a.tmod b < Int.ofNat 0))
    (Out.need (b ≠ Int.ofNat 0)
    (Out.leaf (SV.c (SC.iv IntKind.i64 (IntKind.i64.wrap (a.tmod b + b))), { h := [], nxt := 0, D := fun x => True })))
    (Out.need (b ≠ Int.ofNat 0)
    (Out.leaf (SV.c (SC.iv IntKind.i64 (a.tmod b)), { h := [], nxt := 0, D := fun x => True }))))) := by kernel_rfl

theorem mod_tree (a b : Int) : modTree a b =
  Out.br (decide (b < Int.ofNat 1))
    (Out.leaf (SV.c (SC.ki IntKind.i64 (Int.ofNat 0)), { h := [], nxt := 0, D := fun x => True }))
    (Out.need (b ≠ Int.ofNat 0)
    (Out.br (decide (a.tmod b < Int.ofNat 0))
    (Out.leaf (SV.c (SC.iv IntKind.i64 (IntKind.i64.wrap (a.tmod b + b))), { h := [], nxt := 0, D := fun x => True }))
    (Out.leaf (SV.c (SC.iv IntKind.i64 (a.tmod b)), { h := [], nxt := 0, D := fun x => True })))) := by kernel_rfl

theorem pw_round (i : Int) (j : Nat) : pwRound i j =
  Out.br (decide (i - (↑j : Int) > Int.ofNat 0))
    (Out.leaf (Ex.normal, { tmps := [some (SV.c (SC.iv IntKind.i64 (IntKind.i64.wrap (i - (↑j : Int) - Int.ofNat 1)))), none, none, some (SV.c (SC.iv IntKind.u64 (IntKind.u64.wrap (Int.ofNat 2 ^ j * Int.ofNat 2)))), none, none, none, none, none, none, none], H := { h := [], nxt := 0, D := fun x => True } }))
    (Out.leaf (Ex.exit 0, { tmps := [none, none, none, some (SV.c (SC.iv IntKind.u64 (Int.ofNat 2 ^ j))), none, none, none, none, none, none, none], H := { h := [], nxt := 0, D := fun x => True } })) := by kernel_rfl

theorem pw_tree (i : Int) : pwTree i =
  Out.need ((i ≤ Int.ofNat 63 ∧ 0 ≤ i.toNat) ∧ (∀ (k : Nat), True) ∧ (∀ (k : Nat), True) ∧ ((IntKind.i64 = IntKind.i64 ∧ i = i - (↑0 : Int)) ∧ (IntKind.u64 = IntKind.u64 ∧ Int.ofNat 1 = Int.ofNat 2 ^ 0) ∧ True) ∧ True)
    (Out.leaf (SV.c (SC.iv IntKind.u64 (pw i)), { h := [], nxt := 0, D := fun x => True })) := by kernel_rfl


end Go.Proofs.Ytjpnpaboahbncaa.Cn


/- Remainders and powers: the contracts. -/
set_option linter.unusedVariables false
set_option linter.unusedSimpArgs false
set_option maxRecDepth 100000
namespace Go.Proofs.Ytjpnpaboahbncaa.Cn
open Go Go.RowKit Sx

theorem two_args {l : List Int} (h : l.length = 2) : ∃ a b, l = [a, b] := by
  match l, h with
  | [a, b], _ => exact ⟨a, b, rfl⟩
theorem one_arg {l : List Int} (h : l.length = 1) : ∃ a, l = [a] := by
  match l, h with
  | [a], _ => exact ⟨a, rfl⟩
theorem dr_pos {a b : Int} (h : ¬ b < 1) : dr a b = a % b := if_neg h
theorem dr_neg {a b : Int} (h : b < 1) : dr a b = 0 := if_pos h
theorem tmod_emod {a b : Int} (hb : ¬ b < 1) : (a.tmod b < 0 → a.tmod b + b = a % b) ∧ (¬ a.tmod b < 0 → a.tmod b = a % b) := by
  have h := Int.tmod_eq_emod (a := a) (b := b)
  have h1 := Int.emod_nonneg a (b := b) (by omega)
  have h2 := Int.emod_lt_of_pos a (b := b) (by omega)
  split at h
  · constructor <;> intro _ <;> omega
  · rw [Int.natAbs_of_nonneg (by omega)] at h
    constructor <;> intro _ <;> omega
theorem dr_range {a b : Int} (h : 1 ≤ b) : 0 ≤ dr a b ∧ dr a b < b := by
  rw [dr_pos (by omega)]
  exact ⟨Int.emod_nonneg _ (by omega), Int.emod_lt_of_pos _ (by omega)⟩
theorem pure26 : PureC P 26 [.i64, .i64] (fun | [a, b] => .need (b ≤ 9223372036854775807) (.leaf (iv (dr a b))) | _ => .bad 400) := pureC_of (execF_ok0 (P := P) (con := con0) (u := 3) ConOK.nil 2) fun l hl K hK => by
  obtain ⟨a, b, rfl⟩ := two_args hl
  obtain ⟨hb, hK⟩ := hK
  have hK : K (iv (dr a b)) := hK
  change (drTree a b).holds _
  rw [dr_tree]
  simp only [Out.holds]
  refine ⟨fun h => ?_, fun h => ?_⟩
  · have h := of_decide_eq_true h
    exact ⟨rfl, iv (dr a b), ⟨rfl, (dr_neg h).symm⟩, hK⟩
  · have h := of_decide_eq_false h
    have hm := tmod_emod (a := a) h
    have hr := dr_range (a := a) (b := b) (by simp only [Int.ofNat_eq_natCast] at h; omega)
    have hd := dr_pos (a := a) h
    rw [hd] at hr
    refine ⟨by rintro rfl; exact h (by decide), fun h2 => ?_, fun h2 => ?_⟩
    · have h2 := of_decide_eq_true h2
      refine ⟨by rintro rfl; exact h (by decide), rfl, iv (dr a b), ⟨rfl, ?_⟩, hK⟩
      rw [hm.1 h2, hd]; exact w64 (by omega)
    · have h2 := of_decide_eq_false h2
      exact ⟨by rintro rfl; exact h (by decide), rfl, iv (dr a b), ⟨rfl, (hm.2 h2).trans hd.symm⟩, hK⟩
theorem pure71 : PureC P 71 [.i64, .i64] (fun | [a, b] => .need (b ≤ 9223372036854775807) (.leaf (iv (dr a b))) | _ => .bad 400) := pureC_of (execF_ok0 (P := P) (con := con0) (u := 3) ConOK.nil 2) fun l hl K hK => by
  obtain ⟨a, b, rfl⟩ := two_args hl
  obtain ⟨hb, hK⟩ := hK
  have hK : K (iv (dr a b)) := hK
  change (modTree a b).holds _
  rw [mod_tree]
  simp only [Out.holds]
  refine ⟨fun h => ?_, fun h => ?_⟩
  · have h := of_decide_eq_true h
    exact ⟨rfl, iv (dr a b), ⟨rfl, (dr_neg h).symm⟩, hK⟩
  · have h := of_decide_eq_false h
    have hm := tmod_emod (a := a) h
    have hr := dr_range (a := a) (b := b) (by simp only [Int.ofNat_eq_natCast] at h; omega)
    have hd := dr_pos (a := a) h
    rw [hd] at hr
    refine ⟨by rintro rfl; exact h (by decide), fun h2 => ?_, fun h2 => ?_⟩
    · have h2 := of_decide_eq_true h2
      refine ⟨rfl, iv (dr a b), ⟨rfl, ?_⟩, hK⟩
      rw [hm.1 h2, hd]; exact w64 (by omega)
    · have h2 := of_decide_eq_false h2
      exact ⟨rfl, iv (dr a b), ⟨rfl, (hm.2 h2).trans hd.symm⟩, hK⟩

theorem pw_pos (i : Int) : 0 < pw i := Int.pow_pos (by decide)
theorem pow_small {j : Nat} (h : j ≤ 63) : (2 : Int) ^ j ≤ 9223372036854775808 := by
  calc (2 : Int) ^ j ≤ 2 ^ 63 := by exact_mod_cast Nat.pow_le_pow_right (by decide) h
    _ = 9223372036854775808 := by decide
theorem pw_round_ok (i : Int) (j : Nat) (hx : i ≤ 63 ∧ j ≤ i.toNat) (K : Ex × St → Prop) (hA : (Apw i).holds K) : Holds (pwRound i j) (RoundEnd (Jpw i) (fun j => i ≤ 63 ∧ j ≤ i.toNat) (fun j => i.toNat - j) 0 0 K j) := by
  constructor
  rw [pw_round]
  simp only [Out.holds]
  obtain ⟨h63, hj⟩ := hx
  refine ⟨fun h => ?_, fun h => ?_⟩
  · have h := of_decide_eq_true h
    simp only [Int.ofNat_eq_natCast] at h
    have e1 : IntKind.i64.wrap (i - ↑j - 1) = i - ((j + 1 : Nat) : Int) := by rw [w64 (by omega)]; omega
    have e2 : IntKind.u64.wrap ((2 : Int) ^ j * 2) = 2 ^ (j + 1) := by
      rw [← Int.pow_succ]
      have := pow_small (j := j + 1) (by omega)
      exact wu64 ⟨Int.le_of_lt (Int.pow_pos (by decide)), by omega⟩
    exact ⟨j + 1, [], ⟨h63, by omega⟩, (by show i.toNat - (j + 1) < i.toNat - j; omega), rfl, rfl, ⟨⟨⟨rfl, e1⟩, ⟨rfl, e2⟩, trivial⟩, trivial⟩, rfl⟩
  · have h := of_decide_eq_false h
    simp only [Int.ofNat_eq_natCast] at h
    have : j = i.toNat := by omega
    subst this
    exact ⟨Fpw i, [], ⟨rfl, rfl, ⟨⟨⟨rfl, rfl⟩, trivial⟩, trivial⟩, rfl⟩, rfl, Nat.le_refl _, hA⟩
theorem pure124 : PureC P 124 [.i64] postPw := pureC_by fun l hl => by
  obtain ⟨i, rfl⟩ := one_arg hl
  refine ⟨_, execA_ok (u := 3) ConOK.nil (fits1 (x := pwAnn i) (loopA_ok ConOK.nil (u := 3) (nf := 2) (fun j => i.toNat - j) 0 (Nat.le_refl _) (fun _ => rfl) (fun _ => rfl) (fun _ => rfl) (fun j hj K hA => pw_round_ok i j hj K hA))) 3, fun K hK => ?_⟩
  change (pwTree i).holds _
  rw [pw_tree]
  obtain ⟨h63, hK⟩ := hK
  exact ⟨⟨⟨h63, Nat.zero_le _⟩, fun _ => trivial, fun _ => trivial, ⟨⟨rfl, by omega⟩, ⟨rfl, rfl⟩, trivial⟩, trivial⟩, rfl, uv (pw i), ⟨rfl, rfl⟩, hK⟩
end Go.Proofs.Ytjpnpaboahbncaa.Cn


/- Bits: what is said of the functions; the first table of contracts. -/
set_option linter.unusedVariables false
namespace Go.Proofs.Ytjpnpaboahbncaa.Cn
open Go Go.RowKit Sx
noncomputable section
def postDr2 : List Int → Out SV := (fun | [a, b] => .need (b ≤ 9223372036854775807) (.leaf (iv (dr a b))) | _ => .bad 400)
def con1 : Con := Con.add 124 (conP [.i64] postPw) (Con.add 26 (conP [.i64, .i64] postDr2) (Con.add 71 (conP [.i64, .i64] postDr2) (Con.add 123 (conP [.u64] postLen) con0)))
def btTree (x i : Int) : Out (SV × Hp) := execF P con1 noAnn 3 2 73 [uv x, iv i] emp
def hiTree (x : Int) : Out (SV × Hp) := execF P con1 noAnn 3 2 72 [uv x] emp
def con2 : Con := Con.add 73 (conP [.u64, .i64] postBt) con1
/-! ref01.High: j bits have been looked at -/
def Jhi (x : Int) (j : Nat) : St := ⟨tms 12 [(0, uv x), (3, iv (63 - j))], ⟨[], 0, fun _ => True⟩⟩
def Fhi0 : St := ⟨noTm 12, ⟨[], 0, fun _ => True⟩⟩
def Fhi1 (x : Int) : St := ⟨tms 12 [(2, iv (hi x))], ⟨[], 0, fun _ => True⟩⟩
def Ahi (x : Int) : Out (Ex × St) := .br (decide (x = 0)) (.leaf (.exit 0, Fhi0)) (.leaf (.ret, Fhi1 x))
def Ihi (x : Int) (j : Nat) : Prop := 0 ≤ x ∧ j ≤ 64 ∧ x < 2 ^ (64 - j)
def hiRound (x : Int) (j : Nat) : Out (Ex × St) := roundT P con2 25 0 3 2 0 (patOf (Jhi x j) 12 [2]) (Jhi x j)
def hiAnn (x : Int) : Ann := loopA (Jhi x) (Ihi x) 0 0 [] (Ahi x)
def highTree (x : Int) : Out (SV × Hp) := execA P con2 25 [hiAnn x] 3 [] 3 25 [uv x] emp
end
end Go.Proofs.Ytjpnpaboahbncaa.Cn


/- Functions of integers: the executor's trees, printed by program. -/
set_option linter.unusedVariables false
set_option maxRecDepth 100000
namespace Go.Proofs.Ytjpnpaboahbncaa.Cn
open Go Go.RowKit Sx

theorem bt_tree (x i : Int) : btTree x i =
  Out.br (decide (i ≥ Int.ofNat 0))
    (Out.br (decide (i < Int.ofNat 64))
    (Out.need (i ≤ Int.ofNat 63)
    (Out.need (pw i ≠ Int.ofNat 0)
    (Out.need (Int.ofNat 2 ≠ Int.ofNat 0)
    (Out.leaf (SV.c (SC.bv ((IntKind.u64.wrap (x.tdiv (pw i))).tmod (Int.ofNat 2) == Int.ofNat 1)), { h := [], nxt := 0, D := fun x => True })))))
    (Out.leaf (SV.c (SC.kb false), { h := [], nxt := 0, D := fun x => True })))
    (Out.leaf (SV.c (SC.kb false), { h := [], nxt := 0, D := fun x => True })) := by kernel_rfl

theorem words_hi_tree (x : Int) : hiTree x =
  Out.need (Int.ofNat 0 ≤ x ∧ x ≤ Int.ofNat 18446744073709551615)
    (Out.leaf (SV.c (SC.iv IntKind.i64 (IntKind.i64.wrap ((↑(Lib.bitLen x.toNat) : Int) - Int.ofNat 1))), { h := [], nxt := 0, D := fun x => True })) := by kernel_rfl

theorem hi_round (x : Int) (j : Nat) : hiRound x j =
  Out.br (decide (Int.ofNat 63 - (↑j : Int) ≥ Int.ofNat 0))
    (Out.need (Int.ofNat 0 ≤ x ∧ x ≤ Int.ofNat 18446744073709551615)
    (Out.br (bt x (Int.ofNat 63 - (↑j : Int)))
    (Out.leaf (Ex.ret, { tmps := [none, none, some (SV.c (SC.iv IntKind.i64 (Int.ofNat 63 - (↑j : Int)))), none, none, none, none, none, none, none, none, none], H := { h := [], nxt := 0, D := fun x => True } }))
    (Out.leaf (Ex.normal, { tmps := [some (SV.c (SC.iv IntKind.u64 x)), none, none, some (SV.c (SC.iv IntKind.i64 (IntKind.i64.wrap (Int.ofNat 63 - (↑j : Int) - Int.ofNat 1)))), none, none, none, none, none, none, none, none], H := { h := [], nxt := 0, D := fun x => True } }))))
    (Out.leaf (Ex.exit 0, { tmps := [none, none, none, none, none, none, none, none, none, none, none, none], H := { h := [], nxt := 0, D := fun x => True } })) := by kernel_rfl

theorem high_tree (x : Int) : highTree x =
  Out.need (Ihi x 0 ∧ (∀ (k : Nat), True) ∧ (∀ (k : Nat), True) ∧ ((IntKind.u64 = IntKind.u64 ∧ x = x) ∧ (IntKind.i64 = IntKind.i64 ∧ Int.ofNat 63 = Int.ofNat 63 - (↑0 : Int)) ∧ True) ∧ True)
    (Out.br (decide (x = Int.ofNat 0))
    (Out.leaf (SV.c (SC.ki IntKind.i64 (Int.negSucc 0)), { h := [], nxt := 0, D := fun x => True }))
    (Out.leaf (SV.c (SC.iv IntKind.i64 (hi x)), { h := [], nxt := 0, D := fun x => True }))) := by kernel_rfl


end Go.Proofs.Ytjpnpaboahbncaa.Cn


/- Bits: the contracts. -/
set_option linter.unusedVariables false
set_option linter.unusedSimpArgs false
set_option maxRecDepth 100000
namespace Go.Proofs.Ytjpnpaboahbncaa.Cn
open Go Go.RowKit Sx

theorem pure123 : PureC P 123 [.u64] postLen := by
  intro l hl w K hK
  obtain ⟨x, rfl⟩ := one_arg hl
  obtain ⟨⟨h0, h1⟩, hK⟩ := hK
  refine (bits_Len64 x w h0 h1).mono ?_
  rintro e w' ⟨rfl, rfl⟩
  exact ⟨_, iv (Lib.bitLen x.toNat), rfl, hK, fun ρ => rfl, rfl, rfl, rfl, Nat.le_refl _, fun _ _ _ => rfl⟩
theorem con1_ok : ConOK P con1 := .add (conP_ok pure124) (.add (conP_ok pure26) (.add (conP_ok pure71) (.add (conP_ok pure123) .nil)))

theorem bt_eq (x i : Int) : bt x i = true ↔ 0 ≤ i ∧ i < 64 ∧ x / pw i % 2 = 1 := by simp [bt]
theorem pure73 : PureC P 73 [.u64, .i64] postBt := pureC_of (execF_ok0 (P := P) (u := 3) con1_ok 2) fun l hl K hK => by
  obtain ⟨x, i, rfl⟩ := two_args hl
  obtain ⟨⟨h0, h1⟩, hK⟩ := hK
  have hK : K (.c (.bv (bt x i))) := hK
  change (btTree x i).holds _
  rw [bt_tree]
  simp only [Out.holds, Int.ofNat_eq_natCast]
  refine ⟨fun a => ⟨fun b => ?_, fun b => ?_⟩, fun a => ?_⟩
  · have a := of_decide_eq_true a; have b := of_decide_eq_true b
    have hp := pw_pos i
    have hq : IntKind.u64.wrap (x.tdiv (pw i)) = x / pw i := by
      rw [Int.tdiv_eq_ediv_of_nonneg h0]
      have h2 := Int.ediv_nonneg h0 (Int.le_of_lt hp)
      have h3 : x / pw i ≤ x := Int.ediv_le_self _ h0
      exact wu64 ⟨h2, by omega⟩
    have h2 := Int.ediv_nonneg h0 (Int.le_of_lt hp)
    refine ⟨by omega, by omega, by decide, rfl, .c (.bv (bt x i)), ?_, hK⟩
    show (_ : Bool) = _
    rw [hq, Int.tmod_eq_emod_of_nonneg h2, Bool.eq_iff_iff, bt_eq]
    simp only [beq_iff_eq]
    constructor
    · intro h; exact ⟨by omega, by omega, h⟩
    · intro h; exact h.2.2
  · have a := of_decide_eq_true a; have b := of_decide_eq_false b
    refine ⟨rfl, .c (.bv (bt x i)), ?_, hK⟩
    show false = bt x i
    symm; rw [Bool.eq_false_iff, ne_eq, bt_eq]
    omega
  · have a := of_decide_eq_false a
    refine ⟨rfl, .c (.bv (bt x i)), ?_, hK⟩
    show false = bt x i
    symm; rw [Bool.eq_false_iff, ne_eq, bt_eq]
    omega
theorem con2_ok : ConOK P con2 := .add (conP_ok pure73) con1_ok

theorem hi_zero : hi 0 = -1 := rfl
theorem two_pow_lt {n : Nat} (h : n ≤ 64) : (2 : Int) ^ n ≤ 18446744073709551616 := by
  calc (2 : Int) ^ n ≤ 2 ^ 64 := by exact_mod_cast Nat.pow_le_pow_right (by decide) h
    _ = 18446744073709551616 := by decide
/-- The highest bit, by its bounds. -/
theorem hi_of {x : Int} {j : Nat} (hj : j < 64) (h1 : 2 ^ j ≤ x) (h2 : x < 2 ^ (j + 1)) : hi x = j := by
  obtain ⟨n, rfl⟩ : ∃ n : Nat, x = n := ⟨x.toNat, by have : (0 : Int) < 2 ^ j := Int.pow_pos (by decide); omega⟩
  have h1' : 2 ^ j ≤ n := by exact_mod_cast h1
  have h2' : n < 2 ^ (j + 1) := by exact_mod_cast h2
  have hp : 0 < 2 ^ j := Nat.pow_pos (by decide)
  have h64 : n < 2 ^ 64 := Nat.lt_of_lt_of_le h2' (Nat.pow_le_pow_right (by decide) hj)
  obtain ⟨a, b, c⟩ := Lib.bitLenAux_bounds 64 n h64 (by omega)
  have e : Lib.bitLenAux 64 n = j + 1 := by
    rcases Nat.lt_trichotomy (Lib.bitLenAux 64 n) (j + 1) with h | h | h
    · have := Nat.pow_le_pow_right (n := 2) (by decide) (Nat.le_of_lt_succ h)
      omega
    · exact h
    · have := Nat.pow_le_pow_right (n := 2) (by decide) (show j + 1 ≤ Lib.bitLenAux 64 n - 1 by omega)
      omega
  simp only [hi, Lib.bitLen, Int.toNat_natCast, e]
  omega
theorem hi_range {x : Int} (h0 : 0 ≤ x) (h1 : x ≤ 18446744073709551615) : -1 ≤ hi x ∧ hi x ≤ 63 := by
  have := Lib.bitLen_le x.toNat 64 (by decide) (by omega)
  unfold hi
  omega
theorem bt_top {x : Int} {j : Nat} (hj : j < 64) (h0 : 0 ≤ x) (h2 : x < 2 ^ (j + 1)) : (bt x j = true → hi x = j) ∧ (bt x j = false → x < 2 ^ j) := by
  have hp : (0 : Int) < 2 ^ j := Int.pow_pos (by decide)
  have hq : x / 2 ^ j < 2 := by
    rw [Int.ediv_lt_iff_lt_mul hp]
    rw [Int.pow_succ] at h2; omega
  have hq0 : 0 ≤ x / 2 ^ j := Int.ediv_nonneg h0 (Int.le_of_lt hp)
  have hw : pw (j : Int) = 2 ^ j := by simp [pw]
  refine ⟨fun h => hi_of hj ?_ h2, fun h => ?_⟩
  · rw [bt_eq, hw] at h
    have : 1 ≤ x / 2 ^ j := by omega
    rw [Int.le_ediv_iff_mul_le hp] at this
    omega
  · rw [Bool.eq_false_iff, ne_eq, bt_eq, hw] at h
    have : x / 2 ^ j < 1 := by omega
    rw [Int.ediv_lt_iff_lt_mul hp] at this
    omega

theorem hi_round_ok (x : Int) (j : Nat) (hx : Ihi x j) (K : Ex × St → Prop) (hA : (Ahi x).holds K) : Holds (hiRound x j) (RoundEnd (Jhi x) (Ihi x) (fun j => 65 - j) 0 0 K j) := by
  constructor
  rw [hi_round]
  obtain ⟨h0, hj, hlt⟩ := hx
  have hm := two_pow_lt (n := 64 - j) (by omega)
  simp only [Out.holds, Int.ofNat_eq_natCast]
  refine ⟨fun a => ?_, fun a => ?_⟩
  · have a := of_decide_eq_true a
    have e : ((63 : Nat) : Int) - ↑j = ((63 - j : Nat) : Int) := by omega
    have hlt' : x < 2 ^ (63 - j + 1) := by rw [show 63 - j + 1 = 64 - j by omega]; exact hlt
    obtain ⟨t1, t2⟩ := bt_top (x := x) (j := 63 - j) (by omega) h0 hlt'
    rw [← e] at t1 t2
    refine ⟨⟨by omega, by omega⟩, fun b => ?_, fun b => ?_⟩
    · have hb := t1 b
      have hne : x ≠ 0 := by
        rintro rfl
        rw [hi_zero] at hb; omega
      exact ⟨Fhi1 x, [], ⟨rfl, rfl, ⟨⟨⟨rfl, hb.symm⟩, trivial⟩, trivial⟩, rfl⟩, rfl, Nat.le_refl _, hA.2 (decide_eq_false hne)⟩
    · have hb := t2 b
      have e1 : IntKind.i64.wrap (((63 : Nat) : Int) - ↑j - ((1 : Nat) : Int)) = 63 - ((j + 1 : Nat) : Int) := by rw [w64 (by omega)]; omega
      refine ⟨j + 1, [], ⟨h0, by omega, ?_⟩, (by show 65 - (j + 1) < 65 - j; omega), rfl, rfl, ⟨⟨⟨rfl, rfl⟩, ⟨rfl, e1⟩, trivial⟩, trivial⟩, rfl⟩
      rw [show 64 - (j + 1) = 63 - j by omega]; exact hb
  · have a := of_decide_eq_false a
    have : j = 64 := by omega
    subst this
    have hz : x = 0 := by simp at hlt; omega
    exact ⟨Fhi0, [], ⟨rfl, rfl, ⟨trivial, trivial⟩, rfl⟩, rfl, Nat.le_refl _, hA.1 (decide_eq_true hz)⟩
theorem pure25 : PureC P 25 [.u64] postHi := pureC_by fun l hl => by
  obtain ⟨x, rfl⟩ := one_arg hl
  refine ⟨_, execA_ok (u := 3) con2_ok (fits1 (x := hiAnn x) (loopA_ok con2_ok (u := 3) (nf := 2) (fun j => 65 - j) 0 (Nat.le_refl _) (fun _ => rfl) (fun _ => rfl) (fun _ => rfl) (fun j hj K hA => hi_round_ok x j hj K hA))) 3, fun K hK => ?_⟩
  change (highTree x).holds _
  rw [high_tree]
  obtain ⟨⟨h0, h1⟩, hK⟩ := hK
  have hK : K (iv (hi x)) := hK
  refine ⟨⟨⟨h0, by omega, by simp only [Nat.sub_zero]; omega⟩, fun _ => trivial, fun _ => trivial, ⟨⟨rfl, rfl⟩, ⟨rfl, by simp⟩, trivial⟩, trivial⟩, fun a => ?_, fun a => ?_⟩
  · have a : x = 0 := of_decide_eq_true a
    subst a
    exact ⟨rfl, iv (hi 0), ⟨rfl, rfl⟩, hK⟩
  · exact ⟨rfl, iv (hi x), ⟨rfl, rfl⟩, hK⟩
theorem pure72 : PureC P 72 [.u64] postHi := pureC_of (execF_ok0 (P := P) (u := 3) con1_ok 2) fun l hl K hK => by
  obtain ⟨x, rfl⟩ := one_arg hl
  obtain ⟨⟨h0, h1⟩, hK⟩ := hK
  have hK : K (iv (hi x)) := hK
  change (hiTree x).holds _
  rw [words_hi_tree]
  have hr := hi_range h0 h1
  refine ⟨⟨h0, h1⟩, rfl, iv (hi x), ⟨rfl, ?_⟩, hK⟩
  unfold hi at hr ⊢
  exact w64 (by simp only [Int.ofNat_eq_natCast]; omega)
noncomputable def con3 : Con := Con.add 25 (conP [.u64] postHi) (Con.add 72 (conP [.u64] postHi) con2)
theorem con3_ok : ConOK P con3 := .add (conP_ok pure25) (.add (conP_ok pure72) con2_ok)
end Go.Proofs.Ytjpnpaboahbncaa.Cn

