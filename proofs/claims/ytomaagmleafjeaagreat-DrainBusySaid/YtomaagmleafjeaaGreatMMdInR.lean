/- Insert and Remove of the injector, alone: what their runs do to the slots: the plain law. -/
import Derived.Test.YtomaagmleafjeaaGreatMMdRmD
import Derived.Test.YtomaagmleafjeaaGreatMMdHp
import Derived.Test.YtomaagmleafjeaaGreatMMd
set_option linter.unusedVariables false
set_option linter.unusedSimpArgs false
set_option linter.unusedVariables false
set_option linter.unusedSimpArgs false
set_option maxRecDepth 100000
namespace Go.Proofs.YtomaagmleafjeaaGreat.Md
open Go Go.RowKit Sx Cn Dc Ck Vc
section
variable {y : Ly} {n : Nat} {d t : Int}
theorem slM_eq {j : Nat} (h : (j : Int) < y.H) : slM y j = 4 + j := by
  unfold slM atM
  rw [if_neg (by omega)]
  omega
theorem par_eq {i : Nat} (h : i ≤ 1000) : par ((i + 1 : Nat) : Int) = ((i / 2 : Nat) : Int) := by
  unfold par
  rw [w64 (n := ((i + 1 : Nat) : Int) - 1) (by omega), Int.tdiv_eq_ediv_of_nonneg (by omega), w64 (by omega)]
  omega
theorem inRun_s (f : Nat) (x : Nat × XIn) : inRun y n d t (f + 1) x = match inStep y n d t x with
    | (x', none) => inRun y n d t f x'
    | (x', some r) => ⟨r.1, r.2, (x'.2.s : Int), x'.2.m⟩ := by
  rcases h : inStep y n d t x with ⟨x', _ | r⟩ <;> simp only [inRun, aRun, h]
theorem in3 {q : Nat} {x : XIn} (h : x.ln = 3) : inStep y n d t (q, x) = ((q, { x with ln := if x.m.val n (slM y (par x.i)) > x.k then 4 else 5, x := x.m.val n (slM y (par x.i)), s := x.s + 1, m := x.m.acc n 1 (slM y (par x.i)) (x.m.val n (slM y (par x.i))) }), none) := by simp [inStep, h]
theorem in4 {q : Nat} {x : XIn} (h : x.ln = 4) : inStep y n d t (q, x) = ((q, { x with ln := plc (par x.i), i := par x.i, s := x.s + 1, m := x.m.acc n 2 (slM y x.i) x.x }), none) := by simp [inStep, h]
theorem in5 {q : Nat} {x : XIn} (h : x.ln = 5) : inStep y n d t (q, x) = ((q, { x with ln := 6, s := x.s + 1, m := x.m.acc n 2 (slM y x.i) x.k }), none) := by simp [inStep, h]
theorem in6 {q : Nat} {x : XIn} (h : x.ln = 6) : inStep y n d t (q, x) = ((q, { x with s := x.s + 1, m := x.m.acc n 2 2 (IntKind.u64.wrap (IntKind.i64.wrap (x.n + 1))) }), some (0, 0)) := by simp [inStep, h]
/-- The slots. -/
def sl (g : Nat → Int) : Nat → Int := fun j => g (4 + j)
theorem sl_ld {m : Mm} {a : Int} : sl (m.acc n 1 a (m.val n a)).g = sl m.g := funext fun j => Mm.acc_ld _
theorem sl_st {m : Mm} {i : Nat} {v : Int} {kd : Int} (hi : (i : Int) < y.H) (hn : 4 + y.H ≤ n) : sl (m.acc n kd (slM y i) v).g = put (sl m.g) i v := funext fun j => by
  rw [slM_eq hi]
  unfold sl put
  by_cases c : j = i
  · rw [if_pos c, Mm.acc_eq (by omega) (by omega) (by omega)]
  · rw [if_neg c, Mm.acc_ne (by omega)]
theorem fin_run (hH : y.H ≤ 64) (hn : 4 + y.H ≤ n) {i f : Nat} {x : XIn} (h : x.ln = 5) (hi : x.i = i) (hl : (i : Int) < y.H) (hx : 0 ≤ x.n ∧ x.n ≤ 64) (hf : 2 ≤ f) :
    (inRun y n d t f (0, x)).c = 0 ∧ ∀ e, (inRun y n d t f (0, x)).m.g e = if e = 2 then x.n + 1 else if 4 ≤ e then put (sl x.m.g) i x.k (e - 4) else x.m.g e := by
  obtain ⟨f, rfl⟩ : ∃ f', f = f' + 2 := ⟨f - 2, by omega⟩
  rw [inRun_s, in5 h]
  simp only
  rw [inRun_s, in6 rfl]
  refine ⟨rfl, fun e => ?_⟩
  simp only [hi, slM_eq hl]
  by_cases c2 : e = 2
  · rw [if_pos c2, Mm.acc_eq (by omega) (by omega) (by omega), w64 (by omega), wu64 (by omega)]
  · rw [if_neg c2, Mm.acc_ne (by omega)]
    unfold sl put
    by_cases c : e = 4 + i
    · rw [Mm.acc_eq (by omega) (by omega) (by omega), if_pos (by omega), if_pos (by omega)]
    · rw [Mm.acc_ne (by omega)]
      by_cases c4 : 4 ≤ e
      · rw [if_pos c4, if_neg (by omega)]
        exact congrArg _ (by omega)
      · rw [if_neg c4]
theorem up_run (hH : y.H ≤ 64) (hn : 4 + y.H ≤ n) : ∀ {i f : Nat} {x : XIn}, x.ln = plc i → x.i = i → (i : Int) < y.H → (0 ≤ x.n ∧ x.n ≤ 64) → 2 * i + 2 ≤ f →
    (inRun y n d t f (0, x)).c = 0 ∧ ∀ e, (inRun y n d t f (0, x)).m.g e = if e = 2 then x.n + 1 else if 4 ≤ e then upM i x.k (sl x.m.g) (e - 4) else x.m.g e
  | 0, f, x, h, hi, hl, hx, hf => by
    have h5 : x.ln = 5 := by rw [h]; rfl
    have := fin_run hH hn (d := d) (t := t) h5 hi hl hx (by omega : 2 ≤ f)
    simp only [upM]
    exact this
  | i + 1, f, x, h, hi, hl, hx, hf => by
    have h3 : x.ln = 3 := by rw [h]; exact if_pos (by show (0 : Int) < _; omega)
    obtain ⟨f, rfl⟩ : ∃ f', f = f' + 2 := ⟨f - 2, by omega⟩
    rw [inRun_s, in3 h3]
    simp only
    have e1 : x.m.val n (slM y (par x.i)) = sl x.m.g (i / 2) := by
      rw [hi, par_eq (by omega), slM_eq (by omega), Mm.val_eq (by omega) (by omega)]
      unfold sl
      congr 1
    have hg : ∀ e, (x.m.acc n 1 (slM y (par x.i)) (x.m.val n (slM y (par x.i)))).g e = x.m.g e := fun e => Mm.acc_ld e
    have hs : sl (x.m.acc n 1 (slM y (par x.i)) (x.m.val n (slM y (par x.i)))).g = sl x.m.g := sl_ld
    generalize x.m.acc n 1 (slM y (par x.i)) (x.m.val n (slM y (par x.i))) = m1 at *
    simp only [upM]
    rw [e1]
    by_cases c : x.k < sl x.m.g (i / 2)
    · rw [if_pos c, if_pos c, inRun_s, in4 rfl]
      simp only [hi, par_eq (show i ≤ 1000 by omega)]
      have := up_run hH hn (i := i / 2) (f := f) (x := { x with ln := plc ((i / 2 : Nat) : Int), i := ((i / 2 : Nat) : Int), x := sl x.m.g (i / 2), s := x.s + 1 + 1, m := m1.acc n 2 (slM y ((i + 1 : Nat) : Int)) (sl x.m.g (i / 2)) }) rfl rfl (by omega) hx (by omega)
      refine ⟨this.1, fun e => ?_⟩
      rw [this.2 e]
      simp only
      rw [sl_st hl hn, hs]
      by_cases c2 : e = 2
      · rw [if_pos c2, if_pos c2]
      · rw [if_neg c2, if_neg c2]
        by_cases c4 : 4 ≤ e
        · rw [if_pos c4, if_pos c4]
        · rw [if_neg c4, if_neg c4, slM_eq hl, Mm.acc_ne (by omega), hg]
    · rw [if_neg c, if_neg c]
      have := fin_run hH hn (d := d) (t := t) (i := i + 1) (f := f + 1) (x := { x with ln := 5, x := sl x.m.g (i / 2), s := x.s + 1, m := m1 }) rfl hi hl hx (by omega)
      refine ⟨this.1, fun e => ?_⟩
      rw [this.2 e]
      simp only [hs, hg]
termination_by i => i
decreasing_by omega
theorem ins_fine {m : Mm} {M N a : Nat} (hH : y.H ≤ 64) (hn : 4 + y.H ≤ n) (hM : 2 * N + 4 ≤ M) (h2 : m.g 2 = N) (hN : (N : Int) < y.H) (h3 : m.g 3 = a) (ha : a ≤ 1000000) (hp : pkB d a t = true) :
    (inR y n d t M m).c = 0 ∧ ∀ e, (inR y n d t M m).m.g e = if e = 2 then (N : Int) + 1 else if e = 3 then (a : Int) + 1 else if 4 ≤ e then upM N (pkW d a t) (sl m.g) (e - 4) else m.g e := by
  obtain ⟨M, rfl⟩ : ∃ f', M = f' + 2 := ⟨M - 2, by omega⟩
  have e2 : m.val n 2 = N := by rw [Mm.val_eq (by omega) (by omega)]; exact h2
  unfold inR
  rw [inRun_s]
  have s1 : inStep y n d t (0, ⟨1, 0, 0, 0, 0, 0, m⟩) = ((0, ⟨2, N, 0, 0, 0, 1, m.acc n 1 2 N⟩), none) := by
    have : ¬ y.H ≤ (N : Int) := by omega
    simp [inStep, e2, w64 (show -9223372036854775808 ≤ (N : Int) ∧ (N : Int) ≤ 9223372036854775807 by omega), this]
  rw [s1]
  simp only
  have hg : ∀ e, (m.acc n 1 2 (N : Int)).g e = m.g e := fun e => by rw [← e2]; exact Mm.acc_ld e
  generalize m.acc n 1 2 (N : Int) = m1 at *
  have e3 : m1.val n 3 = a := by rw [Mm.val_eq (by omega) (by omega), hg]; exact h3
  rw [inRun_s]
  have s2 : inStep y n d t (0, ⟨2, N, 0, 0, 0, 1, m1⟩) = ((0, ⟨plc N, N, N, pkW d a t, 0, 2, m1.acc n 6 3 ((a : Int) + 1)⟩), none) := by
    simp [inStep, e3, w64 (show -9223372036854775808 ≤ (a : Int) ∧ (a : Int) ≤ 9223372036854775807 by omega), hp, wu64 (show 0 ≤ (a : Int) + 1 ∧ (a : Int) + 1 ≤ 18446744073709551615 by omega)]
  rw [s2]
  simp only
  have := up_run hH hn (d := d) (t := t) (i := N) (f := M) (x := ⟨plc N, N, N, pkW d a t, 0, 2, m1.acc n 6 3 ((a : Int) + 1)⟩) rfl rfl hN ⟨by show (0 : Int) ≤ N; omega, by show (N : Int) ≤ 64; omega⟩ (by omega)
  refine ⟨this.1, fun e => ?_⟩
  rw [this.2 e]
  simp only
  have hs : sl (m1.acc n 6 3 ((a : Int) + 1)).g = sl m.g := funext fun j => by unfold sl; rw [Mm.acc_ne (by omega), hg]
  rw [hs]
  by_cases c2 : e = 2
  · rw [if_pos c2, if_pos c2]
  · rw [if_neg c2, if_neg c2]
    by_cases c3 : e = 3
    · rw [if_pos c3, if_neg (by omega), Mm.acc_eq (by omega) (by omega) (by omega)]
    · rw [if_neg c3, Mm.acc_ne (by omega), hg]
end
section
variable {y : Ly} {n : Nat} {w : Int}
end
end Go.Proofs.YtomaagmleafjeaaGreat.Md
