/- Drain's statements, plain: what the memory holds when the injector is filled; Drain with the lock held. -/
import Derived.Test.YtomaagmleafjeaaGreatMMdFl
import Derived.Test.YtomaagmleafjeaaGreatMMdInR
import Derived.Test.YtomaagmleafjeaaGreatMMdHk
set_option linter.unusedVariables false
set_option linter.unusedSimpArgs false
set_option linter.unusedVariables false
set_option linter.unusedSimpArgs false
set_option maxRecDepth 100000
namespace Go.Proofs.YtomaagmleafjeaaGreat.Md
open Go Go.RowKit Sx Cn Dc Ck Vc
theorem dF_bd {g : Nat → Int} {i : Nat} : 0 ≤ dF g i ∧ dF g i ≤ 7 := by
  have h := IntKind.u8.wrap ((g i).tdiv 3)
  have h0 : 0 ≤ IntKind.u8.wrap ((g i).tdiv 3) := by
    have : IntKind.u8.wrap ((g i).tdiv 3) = (g i).tdiv 3 % 256 := by unfold IntKind.wrap; rfl
    omega
  have h1 := Int.tmod_nonneg 8 h0
  have h2 := Int.tmod_lt_of_pos (IntKind.u8.wrap ((g i).tdiv 3)) (show (0 : Int) < 8 by decide)
  unfold dF
  rw [w64 (by omega)]
  omega
def kF (g : Nat → Int) (v : Nat) : Int := pkW (dF g v) v v
theorem kF_e {g : Nat → Int} {v : Nat} (hv : v ≤ 64) : pkB (dF g v) v v = true ∧ kF g v = dF g v * 1099511627776 + v * 65536 + v := by
  have := dF_bd (g := g) (i := v)
  exact pk_t (by omega)
section
variable {D tb : Int} {n : Nat} {g : Nat → Int}
theorem ins_F {m : Mm} {i : Nat} (hn : 12 ≤ n) (hi : i < 8) (h2 : m.g 2 = i) (h3 : m.g 3 = i) : ∀ e, (inR (yF D tb) n (dF g i) i 200 m).m.g e = if e = 2 then (i : Int) + 1 else if e = 3 then (i : Int) + 1 else if 4 ≤ e then upM i (kF g i) (sl m.g) (e - 4) else m.g e := by
  have hH : (yF D tb).H = 8 := rfl
  exact (ins_fine (y := yF D tb) (n := n) (d := dF g i) (t := i) (m := m) (M := 200) (N := i) (a := i) (by omega) (by omega) (by omega) h2 (by omega) h3 (by omega) (kF_e (by omega)).1).2
theorem fil_sz (hn : 12 ≤ n) (ht : 15 ≤ tb) : ∀ {i : Nat}, i ≤ 8 → (filM D tb n g i).g 2 = i ∧ (filM D tb n g i).g 3 = i
  | 0, _ => ⟨rfl, rfl⟩
  | i + 1, h => by
    obtain ⟨h2, h3⟩ := fil_sz hn ht (i := i) (by omega)
    have e := ins_F (D := D) (tb := tb) (g := g) hn (by omega) h2 h3
    constructor
    · show (((inR (yF D tb) n (dF g i) i 200 (filM D tb n g i)).m.acc n 2 (tb + i * 5 + 1) (lF g i)).acc n 2 (tb + i * 5 + 0) 1).g 2 = _
      rw [Mm.acc_ne (by omega), Mm.acc_ne (by omega), e, if_pos rfl]
      omega
    · show (((inR (yF D tb) n (dF g i) i 200 (filM D tb n g i)).m.acc n 2 (tb + i * 5 + 1) (lF g i)).acc n 2 (tb + i * 5 + 0) 1).g 3 = _
      rw [Mm.acc_ne (by omega), Mm.acc_ne (by omega), e, if_neg (by decide), if_pos rfl]
      omega
theorem dr_busy {m : Mm} {l : El} {N : Nat} {B : Int} (hn : 12 ≤ n) (hN : N ≤ 8) (h2 : m.g 2 = N) (h1 : m.g 1 ≠ 0) :
    ∃ R, drR (yF D tb) n 0 B 300 m l = some R ∧ (∀ e, R.m.g e = m.g e) ∧ R.l.n = l.n ∧ (N = 0 → R.c = 2 ∧ R.k = 1) ∧ (N ≠ 0 → R.c = 5 ∧ R.k = 2) := by
  have v2 : m.val n 2 = N := by rw [Mm.val_eq (by omega) (by omega)]; exact h2
  have w2 : IntKind.i64.wrap (m.val n 2) = N := by rw [v2, w64 (by omega)]
  have g1 : ∀ e, (m.acc n 1 2 (m.val n 2)).g e = m.g e := fun e => Mm.acc_ld e
  have v1 : (m.acc n 1 2 (m.val n 2)).val n 1 = m.g 1 := by rw [Mm.val_eq (by omega) (by omega)]; exact g1 1
  have hh : (m.acc n 1 2 (m.val n 2)).hit n 1 0 = false := by
    rw [Mm.hit_val (by omega) (by omega)]
    exact decide_eq_false (by rw [g1]; exact h1)
  by_cases h0 : N = 0
  · subst h0
    refine ⟨⟨2, 0, (1 : Nat), m.acc n 1 2 (m.val n 2), l⟩, ?_, g1, rfl, fun _ => ⟨rfl, rfl⟩, fun h => absurd rfl h⟩
    show drRun (yF D tb) n 0 B (299 + 1) (0, dr0 m l) = _
    unfold drRun
    have : drStep (yF D tb) n 0 B (0, dr0 m l) = some ((0, (dr0 m l).go 0 (m.acc n 1 2 (m.val n 2))), some (2, 0)) := by
      unfold drStep
      exact if_pos (by show IntKind.i64.wrap (m.val n 2) ≤ 0; rw [w2]; exact Int.le_refl 0)
    rw [this]
    rfl
  · have s1 : drStep (yF D tb) n 0 B (0, dr0 m l) = some ((1, (dr0 m l).go 0 (m.acc n 1 2 (m.val n 2))), none) := by
      unfold drStep
      exact if_neg (by show ¬ IntKind.i64.wrap (m.val n 2) ≤ 0; rw [w2]; omega)
    have s2 : drStep (yF D tb) n 0 B (1, (dr0 m l).go 0 (m.acc n 1 2 (m.val n 2))) = some ((1, ((dr0 m l).go 0 (m.acc n 1 2 (m.val n 2))).go 0 ((m.acc n 1 2 (m.val n 2)).acc n 3 1 (casV ((m.acc n 1 2 (m.val n 2)).hit n 1 0) ((m.acc n 1 2 (m.val n 2)).val n 1) (IntKind.u64.wrap (IntKind.i64.wrap (0 + 1)))))), some (5, 0)) := by
      unfold drStep
      exact if_neg (by show ¬ (m.acc n 1 2 (m.val n 2)).hit n 1 0 = true; rw [hh]; decide)
    refine ⟨⟨5, 0, (2 : Nat), (m.acc n 1 2 (m.val n 2)).acc n 3 1 (casV ((m.acc n 1 2 (m.val n 2)).hit n 1 0) ((m.acc n 1 2 (m.val n 2)).val n 1) (IntKind.u64.wrap (IntKind.i64.wrap (0 + 1)))), l⟩, ?_, ?_, rfl, fun h => absurd h h0, fun _ => ⟨rfl, rfl⟩⟩
    · show drRun (yF D tb) n 0 B (298 + 1 + 1) (0, dr0 m l) = _
      unfold drRun
      rw [s1]
      show drRun (yF D tb) n 0 B (298 + 1) _ = _
      unfold drRun
      rw [s2]
      rfl
    · intro e
      rw [hh]
      show ((m.acc n 1 2 (m.val n 2)).acc n 3 1 ((m.acc n 1 2 (m.val n 2)).val n 1)).g e = _
      by_cases he : e = 1
      · subst he
        exact (Mm.acc_eq (a := 1) (by decide) (by omega) rfl).trans v1
      · rw [Mm.acc_ne (by omega), g1]
end
end Go.Proofs.YtomaagmleafjeaaGreat.Md
