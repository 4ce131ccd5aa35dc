/- Insert and Remove of the injector, alone: what their runs do to the slots: the plain law. -/
import Derived.Test.YtomaagmleafjeaaGreatMMdRmD
import Derived.Test.YtomaagmleafjeaaGreatMMdHp
import Derived.Test.YtomaagmleafjeaaGreatMMd
set_option linter.unusedVariables false
set_option linter.unusedSimpArgs false
set_option linter.unusedVariables false
set_option linter.unusedSimpArgs false
set_option maxRecDepth 100000
namespace Go.Proofs.YtomaagmleafjeaaGreat.Md
open Go Go.RowKit Sx Cn Dc Ck Vc
section
variable {y : Ly} {n : Nat} {d t : Int}
theorem slM_eq {j : Nat} (h : (j : Int) < y.H) : slM y j = 4 + j := by
  unfold slM atM
  rw [if_neg (by omega)]
  omega
theorem par_eq {i : Nat} (h : i ≤ 1000) : par ((i + 1 : Nat) : Int) = ((i / 2 : Nat) : Int) := by
  unfold par
  rw [w64 (n := ((i + 1 : Nat) : Int) - 1) (by omega), Int.tdiv_eq_ediv_of_nonneg (by omega), w64 (by omega)]
  omega
theorem inRun_s (f : Nat) (x : Nat × XIn) : inRun y n d t (f + 1) x = match inStep y n d t x with
    | (x', none) => inRun y n d t f x'
    | (x', some r) => ⟨r.1, r.2, (x'.2.s : Int), x'.2.m⟩ := by
  rcases h : inStep y n d t x with ⟨x', _ | r⟩ <;> simp only [inRun, aRun, h]
theorem in3 {q : Nat} {x : XIn} (h : x.ln = 3) : inStep y n d t (q, x) = ((q, { x with ln := if x.m.val n (slM y (par x.i)) > x.k then 4 else 5, x := x.m.val n (slM y (par x.i)), s := x.s + 1, m := x.m.acc n 1 (slM y (par x.i)) (x.m.val n (slM y (par x.i))) }), none) := by simp [inStep, h]
theorem in4 {q : Nat} {x : XIn} (h : x.ln = 4) : inStep y n d t (q, x) = ((q, { x with ln := plc (par x.i), i := par x.i, s := x.s + 1, m := x.m.acc n 2 (slM y x.i) x.x }), none) := by simp [inStep, h]
theorem in5 {q : Nat} {x : XIn} (h : x.ln = 5) : inStep y n d t (q, x) = ((q, { x with ln := 6, s := x.s + 1, m := x.m.acc n 2 (slM y x.i) x.k }), none) := by simp [inStep, h]
theorem in6 {q : Nat} {x : XIn} (h : x.ln = 6) : inStep y n d t (q, x) = ((q, { x with s := x.s + 1, m := x.m.acc n 2 2 (IntKind.u64.wrap (IntKind.i64.wrap (x.n + 1))) }), some (0, 0)) := by simp [inStep, h]
/-- The slots. -/
def sl (g : Nat → Int) : Nat → Int := fun j => g (4 + j)
theorem sl_ld {m : Mm} {a : Int} : sl (m.acc n 1 a (m.val n a)).g = sl m.g := funext fun j => Mm.acc_ld _
theorem sl_st {m : Mm} {i : Nat} {v : Int} {kd : Int} (hi : (i : Int) < y.H) (hn : 4 + y.H ≤ n) : sl (m.acc n kd (slM y i) v).g = put (sl m.g) i v := funext fun j => by
  rw [slM_eq hi]
  unfold sl put
  by_cases c : j = i
  · rw [if_pos c, Mm.acc_eq (by omega) (by omega) (by omega)]
  · rw [if_neg c, Mm.acc_ne (by omega)]
theorem fin_run (hH : y.H ≤ 64) (hn : 4 + y.H ≤ n) {i f : Nat} {x : XIn} (h : x.ln = 5) (hi : x.i = i) (hl : (i : Int) < y.H) (hx : 0 ≤ x.n ∧ x.n ≤ 64) (hf : 2 ≤ f) :
    (inRun y n d t f (0, x)).c = 0 ∧ ∀ e, (inRun y n d t f (0, x)).m.g e = if e = 2 then x.n + 1 else if 4 ≤ e then put (sl x.m.g) i x.k (e - 4) else x.m.g e := by
  obtain ⟨f, rfl⟩ : ∃ f', f = f' + 2 := ⟨f - 2, by omega⟩
  rw [inRun_s, in5 h]
  simp only
  rw [inRun_s, in6 rfl]
  refine ⟨rfl, fun e => ?_⟩
  simp only [hi, slM_eq hl]
  by_cases c2 : e = 2
  · rw [if_pos c2, Mm.acc_eq (by omega) (by omega) (by omega), w64 (by omega), wu64 (by omega)]
  · rw [if_neg c2, Mm.acc_ne (by omega)]
    unfold sl put
    by_cases c : e = 4 + i
    · rw [Mm.acc_eq (by omega) (by omega) (by omega), if_pos (by omega), if_pos (by omega)]
    · rw [Mm.acc_ne (by omega)]
      by_cases c4 : 4 ≤ e
      · rw [if_pos c4, if_neg (by omega)]
        exact congrArg _ (by omega)
      · rw [if_neg c4]
theorem up_run (hH : y.H ≤ 64) (hn : 4 + y.H ≤ n) : ∀ {i f : Nat} {x : XIn}, x.ln = plc i → x.i = i → (i : Int) < y.H → (0 ≤ x.n ∧ x.n ≤ 64) → 2 * i + 2 ≤ f →
    (inRun y n d t f (0, x)).c = 0 ∧ ∀ e, (inRun y n d t f (0, x)).m.g e = if e = 2 then x.n + 1 else if 4 ≤ e then upM i x.k (sl x.m.g) (e - 4) else x.m.g e
  | 0, f, x, h, hi, hl, hx, hf => by
    have h5 : x.ln = 5 := by rw [h]; rfl
    have := fin_run hH hn (d := d) (t := t) h5 hi hl hx (by omega : 2 ≤ f)
    simp only [upM]
    exact this
  | i + 1, f, x, h, hi, hl, hx, hf => by
    have h3 : x.ln = 3 := by rw [h]; exact if_pos (by show (0 : Int) < _; omega)
    obtain ⟨f, rfl⟩ : ∃ f', f = f' + 2 := ⟨f - 2, by omega⟩
    rw [inRun_s, in3 h3]
    simp only
    have e1 : x.m.val n (slM y (par x.i)) = sl x.m.g (i / 2) := by
      rw [hi, par_eq (by omega), slM_eq (by omega), Mm.val_eq (by omega) (by omega)]
      unfold sl
      congr 1
    have hg : ∀ e, (x.m.acc n 1 (slM y (par x.i)) (x.m.val n (slM y (par x.i)))).g e = x.m.g e := fun e => Mm.acc_ld e
    have hs : sl (x.m.acc n 1 (slM y (par x.i)) (x.m.val n (slM y (par x.i)))).g = sl x.m.g := sl_ld
    generalize x.m.acc n 1 (slM y (par x.i)) (x.m.val n (slM y (par x.i))) = m1 at *
    simp only [upM]
    rw [e1]
    by_cases c : x.k < sl x.m.g (i / 2)
    · rw [if_pos c, if_pos c, inRun_s, in4 rfl]
      simp only [hi, par_eq (show i ≤ 1000 by omega)]
      have := up_run hH hn (i := i / 2) (f := f) (x := { x with ln := plc ((i / 2 : Nat) : Int), i := ((i / 2 : Nat) : Int), x := sl x.m.g (i / 2), s := x.s + 1 + 1, m := m1.acc n 2 (slM y ((i + 1 : Nat) : Int)) (sl x.m.g (i / 2)) }) rfl rfl (by omega) hx (by omega)
      refine ⟨this.1, fun e => ?_⟩
      rw [this.2 e]
      simp only
      rw [sl_st hl hn, hs]
      by_cases c2 : e = 2
      · rw [if_pos c2, if_pos c2]
      · rw [if_neg c2, if_neg c2]
        by_cases c4 : 4 ≤ e
        · rw [if_pos c4, if_pos c4]
        · rw [if_neg c4, if_neg c4, slM_eq hl, Mm.acc_ne (by omega), hg]
    · rw [if_neg c, if_neg c]
      have := fin_run hH hn (d := d) (t := t) (i := i + 1) (f := f + 1) (x := { x with ln := 5, x := sl x.m.g (i / 2), s := x.s + 1, m := m1 }) rfl hi hl hx (by omega)
      refine ⟨this.1, fun e => ?_⟩
      rw [this.2 e]
      simp only [hs, hg]
termination_by i => i
decreasing_by omega
theorem ins_fine {m : Mm} {M N a : Nat} (hH : y.H ≤ 64) (hn : 4 + y.H ≤ n) (hM : 2 * N + 4 ≤ M) (h2 : m.g 2 = N) (hN : (N : Int) < y.H) (h3 : m.g 3 = a) (ha : a ≤ 1000000) (hp : pkB d a t = true) :
    (inR y n d t M m).c = 0 ∧ ∀ e, (inR y n d t M m).m.g e = if e = 2 then (N : Int) + 1 else if e = 3 then (a : Int) + 1 else if 4 ≤ e then upM N (pkW d a t) (sl m.g) (e - 4) else m.g e := by
  obtain ⟨M, rfl⟩ : ∃ f', M = f' + 2 := ⟨M - 2, by omega⟩
  have e2 : m.val n 2 = N := by rw [Mm.val_eq (by omega) (by omega)]; exact h2
  unfold inR
  rw [inRun_s]
  have s1 : inStep y n d t (0, ⟨1, 0, 0, 0, 0, 0, m⟩) = ((0, ⟨2, N, 0, 0, 0, 1, m.acc n 1 2 N⟩), none) := by
    have : ¬ y.H ≤ (N : Int) := by omega
    simp [inStep, e2, w64 (show -9223372036854775808 ≤ (N : Int) ∧ (N : Int) ≤ 9223372036854775807 by omega), this]
  rw [s1]
  simp only
  have hg : ∀ e, (m.acc n 1 2 (N : Int)).g e = m.g e := fun e => by rw [← e2]; exact Mm.acc_ld e
  generalize m.acc n 1 2 (N : Int) = m1 at *
  have e3 : m1.val n 3 = a := by rw [Mm.val_eq (by omega) (by omega), hg]; exact h3
  rw [inRun_s]
  have s2 : inStep y n d t (0, ⟨2, N, 0, 0, 0, 1, m1⟩) = ((0, ⟨plc N, N, N, pkW d a t, 0, 2, m1.acc n 6 3 ((a : Int) + 1)⟩), none) := by
    simp [inStep, e3, w64 (show -9223372036854775808 ≤ (a : Int) ∧ (a : Int) ≤ 9223372036854775807 by omega), hp, wu64 (show 0 ≤ (a : Int) + 1 ∧ (a : Int) + 1 ≤ 18446744073709551615 by omega)]
  rw [s2]
  simp only
  have := up_run hH hn (d := d) (t := t) (i := N) (f := M) (x := ⟨plc N, N, N, pkW d a t, 0, 2, m1.acc n 6 3 ((a : Int) + 1)⟩) rfl rfl hN ⟨by show (0 : Int) ≤ N; omega, by show (N : Int) ≤ 64; omega⟩ (by omega)
  refine ⟨this.1, fun e => ?_⟩
  rw [this.2 e]
  simp only
  have hs : sl (m1.acc n 6 3 ((a : Int) + 1)).g = sl m.g := funext fun j => by unfold sl; rw [Mm.acc_ne (by omega), hg]
  rw [hs]
  by_cases c2 : e = 2
  · rw [if_pos c2, if_pos c2]
  · rw [if_neg c2, if_neg c2]
    by_cases c3 : e = 3
    · rw [if_pos c3, if_neg (by omega), Mm.acc_eq (by omega) (by omega) (by omega)]
    · rw [if_neg c3, Mm.acc_ne (by omega), hg]
end
section
variable {y : Ly} {n : Nat} {w : Int}
theorem rmRun_s (f : Nat) (x : XRm) : rmRun y n w (f + 1) x = match rmStep y n w x with
    | (x', none) => rmRun y n w f x'
    | (x', some r) => ⟨r.1, r.2, (x'.s : Int), x'.m, x'.l⟩ := by
  rcases h : rmStep y n w x with ⟨x', _ | r⟩ <;> simp only [rmRun, eRun, h]
theorem rm1 {x : XRm} (h : x.ln = 1) (h2 : ¬ IntKind.i64.wrap (x.m.val n 2) ≤ 0) : rmStep y n w x = ({ x with ln := 2, n := IntKind.i64.wrap (x.m.val n 2), s := x.s + 1, m := x.m.acc n 1 2 (x.m.val n 2) }, none) := by simp [rmStep, h, h2]
theorem rm1z {x : XRm} (h : x.ln = 1) (h2 : IntKind.i64.wrap (x.m.val n 2) ≤ 0) : rmStep y n w x = ({ x with n := IntKind.i64.wrap (x.m.val n 2), s := x.s + 1, m := x.m.acc n 1 2 (x.m.val n 2) }, some (2, 0)) := by simp [rmStep, h, h2]
theorem rm2 {x : XRm} (h : x.ln = 2) : rmStep y n w x = ({ x with ln := 3, x := x.m.val n (slM y 0), s := x.s + 1, m := x.m.acc n 1 (slM y 0) (x.m.val n (slM y 0)) }, none) := by simp [rmStep, h]
theorem rm3 {x : XRm} (h : x.ln = 3) : rmStep y n w x = ({ x with ln := 4, y := x.m.val n (slM y (les x.n)), s := x.s + 1, m := x.m.acc n 1 (slM y (les x.n)) (x.m.val n (slM y (les x.n))) }, none) := by simp [rmStep, h]
theorem rm5 {x : XRm} (h : x.ln = 5) : rmStep y n w x = ({ x with ln := if IntKind.i64.wrap (kid x.i + 1) < les x.n then 6 else dsc x.y (x.m.val n (slM y (kid x.i))), c := kid x.i, z := x.m.val n (slM y (kid x.i)), s := x.s + 1, m := x.m.acc n 1 (slM y (kid x.i)) (x.m.val n (slM y (kid x.i))) }, none) := by simp [rmStep, h]
theorem rm6l {x : XRm} (h : x.ln = 6) (h2 : x.m.val n (slM y (kid2 x.i)) < x.z) : rmStep y n w x = ({ x with ln := dsc x.y (x.m.val n (slM y (kid2 x.i))), c := kid2 x.i, z := x.m.val n (slM y (kid2 x.i)), s := x.s + 1, m := x.m.acc n 1 (slM y (kid2 x.i)) (x.m.val n (slM y (kid2 x.i))) }, none) := by simp [rmStep, h, h2]
theorem rm6g {x : XRm} (h : x.ln = 6) (h2 : ¬ x.m.val n (slM y (kid2 x.i)) < x.z) : rmStep y n w x = ({ x with ln := dsc x.y x.z, s := x.s + 1, m := x.m.acc n 1 (slM y (kid2 x.i)) (x.m.val n (slM y (kid2 x.i))) }, none) := by simp [rmStep, h, h2]
theorem rm7 {x : XRm} (h : x.ln = 7) : rmStep y n w x = ({ x with ln := chl x.n x.c, i := x.c, s := x.s + 1, m := x.m.acc n 2 (slM y x.i) x.z }, none) := by simp [rmStep, h]
theorem rm8 {x : XRm} (h : x.ln = 8) : rmStep y n w x = ({ x with s := x.s + 1, m := x.m.acc n 2 (slM y x.i) x.y }, some (1, tkW x.x)) := by simp [rmStep, h]
theorem rm4o {x : XRm} (h : x.ln = 4) (h2 : x.n = 1) : rmStep y n w x = ({ x with s := x.s + 1, m := x.m.acc n 2 2 (IntKind.u64.wrap (les x.n)), l := x.l.put 13 w (tkW x.x) }, some (1, tkW x.x)) := by simp [rmStep, h, h2]
theorem rm4 {x : XRm} (h : x.ln = 4) (h2 : ¬ x.n = 1) : rmStep y n w x = ({ x with ln := chl x.n x.i, s := x.s + 1, m := x.m.acc n 2 2 (IntKind.u64.wrap (les x.n)), l := x.l.put 13 w (tkW x.x) }, none) := by simp [rmStep, h, h2]
theorem kid_e {i : Nat} (h : i ≤ 1000) : kid (i : Int) = ((2 * i + 1 : Nat) : Int) := by
  unfold kid
  rw [w64 (n := 2 * (i : Int)) (by omega), w64 (by omega)]
  omega
theorem kid2_e {i : Nat} (h : i ≤ 1000) : kid2 (i : Int) = ((2 * i + 2 : Nat) : Int) := by
  unfold kid2
  rw [w64 (n := 2 * (i : Int)) (by omega), w64 (by omega)]
  omega
theorem les_e {N : Nat} (h : N ≤ 1000) : les ((N + 1 : Nat) : Int) = (N : Int) := by
  unfold les
  rw [w64 (by omega)]
  omega
/-- The last key is put into place i. -/
theorem end_run (hn : 4 + y.H ≤ n) {i f : Nat} {x : XRm} (h : x.ln = 8) (hi : x.i = i) (hl : (i : Int) < y.H) (hf : 1 ≤ f) :
    (rmRun y n w f x).c = 1 ∧ (rmRun y n w f x).v = tkW x.x ∧ (rmRun y n w f x).l = x.l ∧ ∀ e, (rmRun y n w f x).m.g e = if 4 ≤ e then put (sl x.m.g) i x.y (e - 4) else x.m.g e := by
  obtain ⟨f, rfl⟩ : ∃ f', f = f' + 1 := ⟨f - 1, by omega⟩
  rw [rmRun_s, rm8 h]
  refine ⟨rfl, rfl, rfl, fun e => ?_⟩
  simp only [hi, slM_eq hl]
  unfold sl put
  by_cases c : e = 4 + i
  · rw [Mm.acc_eq (by omega) (by omega) (by omega), if_pos (by omega), if_pos (by omega)]
  · rw [Mm.acc_ne (by omega)]
    by_cases c4 : 4 ≤ e
    · rw [if_pos c4, if_neg (by omega)]
      exact congrArg _ (by omega)
    · rw [if_neg c4]
theorem dn_run (hH : y.H ≤ 64) (hn : 4 + y.H ≤ n) {N : Nat} (hN : (N : Int) < y.H) : ∀ {F i f : Nat} {x : XRm}, x.ln = chl x.n i → x.i = i → i < N → N ≤ i + F → x.n = ((N + 1 : Nat) : Int) → 3 * (N - i) ≤ f →
    (rmRun y n w f x).c = 1 ∧ (rmRun y n w f x).v = tkW x.x ∧ (rmRun y n w f x).l = x.l ∧ ∀ e, (rmRun y n w f x).m.g e = if 4 ≤ e then dnM N x.y F i (sl x.m.g) (e - 4) else x.m.g e
  | 0, i, f, x, h, hi, hl, hF, hx, hf => by omega
  | F + 1, i, f, x, h, hi, hl, hF, hx, hf => by
    have ek := kid_e (i := i) (by omega)
    have ek2 := kid2_e (i := i) (by omega)
    have el := les_e (N := N) (by omega)
    unfold chl at h
    rw [ek, hx, el] at h
    simp only [dnM]
    by_cases c1 : 2 * i + 1 < N
    · rw [if_pos (by omega)] at h
      obtain ⟨f, rfl⟩ : ∃ f', f = f' + 3 := ⟨f - 3, by omega⟩
      -- the state in which the lesser child is known
      have key : ∃ (g2 : Nat) (x2 : XRm), rmRun y n w (f + 3) x = rmRun y n w (f + 1 + g2) x2 ∧ x2.ln = dsc x.y (sl x.m.g (lsr N (sl x.m.g) i)) ∧ x2.c = (lsr N (sl x.m.g) i : Nat) ∧ x2.z = sl x.m.g (lsr N (sl x.m.g) i) ∧ x2.i = x.i ∧ x2.n = x.n ∧ x2.x = x.x ∧ x2.y = x.y ∧ x2.l = x.l ∧ ∀ e, x2.m.g e = x.m.g e := by
        rw [rmRun_s, rm5 h]
        simp only [hi, ek, hx, el]
        have e1 : x.m.val n (slM y ((2 * i + 1 : Nat) : Int)) = sl x.m.g (2 * i + 1) := by
          rw [slM_eq (by omega), Mm.val_eq (by omega) (by omega)]
          unfold sl
          congr 1
        have hg : ∀ e, (x.m.acc n 1 (slM y ((2 * i + 1 : Nat) : Int)) (x.m.val n (slM y ((2 * i + 1 : Nat) : Int)))).g e = x.m.g e := fun e => Mm.acc_ld e
        generalize x.m.acc n 1 (slM y ((2 * i + 1 : Nat) : Int)) (x.m.val n (slM y ((2 * i + 1 : Nat) : Int))) = m1 at *
        rw [e1, w64 (show -9223372036854775808 ≤ ((2 * i + 1 : Nat) : Int) + 1 ∧ ((2 * i + 1 : Nat) : Int) + 1 ≤ 9223372036854775807 by omega)]
        by_cases c2 : 2 * i + 2 < N
        · rw [if_pos (by omega)]
          have e2 : m1.val n (slM y ((2 * i + 2 : Nat) : Int)) = sl x.m.g (2 * i + 2) := by
            rw [slM_eq (by omega), Mm.val_eq (by omega) (by omega), hg]
            unfold sl
            congr 1
          have hg2 : ∀ e, (m1.acc n 1 (slM y ((2 * i + 2 : Nat) : Int)) (m1.val n (slM y ((2 * i + 2 : Nat) : Int)))).g e = x.m.g e := fun e => by rw [Mm.acc_ld, hg]
          by_cases c3 : sl x.m.g (2 * i + 2) < sl x.m.g (2 * i + 1)
          · have h6 := rm6l (y := y) (n := n) (w := w) (x := (⟨6, ((N + 1 : Nat) : Int), (i : Int), ((2 * i + 1 : Nat) : Int), x.x, x.y, sl x.m.g (2 * i + 1), x.s + 1, m1, x.l⟩ : XRm)) rfl (by simp only [ek2]; rw [e2]; exact c3)
            refine ⟨0, (rmStep y n w (⟨6, ((N + 1 : Nat) : Int), (i : Int), ((2 * i + 1 : Nat) : Int), x.x, x.y, sl x.m.g (2 * i + 1), x.s + 1, m1, x.l⟩ : XRm)).1, ?_⟩
            rw [rmRun_s, h6]
            refine ⟨rfl, ?_, ?_, ?_, ?_, ?_, ?_, ?_, ?_, ?_⟩
            all_goals simp only [lsr, if_pos (show 2 * i + 2 < N ∧ sl x.m.g (2 * i + 2) < sl x.m.g (2 * i + 1) from ⟨c2, c3⟩), hi, hx, ek2, e2]
            intro e
            have := hg2 e
            rwa [e2] at this
          · have h6 := rm6g (y := y) (n := n) (w := w) (x := (⟨6, ((N + 1 : Nat) : Int), (i : Int), ((2 * i + 1 : Nat) : Int), x.x, x.y, sl x.m.g (2 * i + 1), x.s + 1, m1, x.l⟩ : XRm)) rfl (by simp only [ek2]; rw [e2]; exact c3)
            refine ⟨0, (rmStep y n w (⟨6, ((N + 1 : Nat) : Int), (i : Int), ((2 * i + 1 : Nat) : Int), x.x, x.y, sl x.m.g (2 * i + 1), x.s + 1, m1, x.l⟩ : XRm)).1, ?_⟩
            rw [rmRun_s, h6]
            refine ⟨rfl, ?_, ?_, ?_, ?_, ?_, ?_, ?_, ?_, ?_⟩
            all_goals simp only [lsr, if_neg (show ¬ (2 * i + 2 < N ∧ sl x.m.g (2 * i + 2) < sl x.m.g (2 * i + 1)) from fun h => c3 h.2), hi, hx, ek2, e2]
            intro e
            have := hg2 e
            rwa [e2] at this
        · rw [if_neg (by omega)]
          refine ⟨1, _, rfl, ?_, ?_, ?_, ?_, ?_, ?_, ?_, ?_, ?_⟩
          all_goals simp only [lsr, if_neg (show ¬ (2 * i + 2 < N ∧ sl x.m.g (2 * i + 2) < sl x.m.g (2 * i + 1)) from fun h => c2 h.1), hi, hx]
          exact hg
      obtain ⟨g2, x2, hr, k1, k2, k3, k4, k5, k6, k7, k8, k9⟩ := key
      rw [hr]
      obtain ⟨b1, b2, b3⟩ := lsr_bd (g := sl x.m.g) c1
      have hs2 : sl x2.m.g = sl x.m.g := funext fun j => k9 _
      by_cases c4 : sl x.m.g (lsr N (sl x.m.g) i) < x.y
      · rw [if_pos ⟨c1, c4⟩]
        have k1 : x2.ln = 7 := by rw [k1]; exact if_pos c4
        rw [show f + 1 + g2 = f + g2 + 1 by omega, rmRun_s, rm7 k1]
        simp only [k2, k3, k4, k5, k6, k7, k8, hi]
        have hl2 : (i : Int) < y.H := by omega
        have := dn_run hH hn hN (F := F) (i := lsr N (sl x.m.g) i) (f := f + g2) (x := { x2 with ln := chl x.n ((lsr N (sl x.m.g) i : Nat) : Int), i := ((lsr N (sl x.m.g) i : Nat) : Int), c := ((lsr N (sl x.m.g) i : Nat) : Int), z := sl x.m.g (lsr N (sl x.m.g) i), n := x.n, s := x2.s + 1, m := x2.m.acc n 2 (slM y (i : Int)) (sl x.m.g (lsr N (sl x.m.g) i)) }) rfl rfl b2 (by omega) hx (by omega)
        simp only [k6, k7, k8, sl_st hl2 hn, hs2] at this
        refine ⟨?_, ?_, ?_, fun e => ?_⟩
        · exact this.1
        · exact this.2.1
        · exact this.2.2.1
        · refine (?_ : _ = _).trans ((this.2.2.2 e).trans ?_)
          · rfl
          · by_cases c5 : 4 ≤ e
            · rw [if_pos c5, if_pos c5]
            · rw [if_neg c5, if_neg c5, slM_eq hl2, Mm.acc_ne (by omega), k9]
      · rw [if_neg (fun h => c4 h.2)]
        have k1 : x2.ln = 8 := by rw [k1]; exact if_neg c4
        have := end_run hn (w := w) (i := i) (f := f + 1 + g2) k1 (k4.trans hi) (by omega) (by omega)
        rw [k6, k7, k8, hs2] at this
        refine ⟨this.1, this.2.1, this.2.2.1, fun e => ?_⟩
        rw [this.2.2.2 e, k9]
    · rw [if_neg (fun h => c1 h.1)]
      rw [if_neg (by omega)] at h
      exact end_run hn h hi (by omega) (by omega)
theorem rem_none {m : Mm} {l : El} {M : Nat} (hn : 4 + y.H ≤ n) (hH : 1 ≤ y.H) (hM : 1 ≤ M) (h : m.g 2 = 0) : (rmR y n w M m l).c = 2 ∧ (rmR y n w M m l).l = l ∧ ∀ e, (rmR y n w M m l).m.g e = m.g e := by
  obtain ⟨M, rfl⟩ : ∃ f', M = f' + 1 := ⟨M - 1, by omega⟩
  have e2 : m.val n 2 = 0 := by rw [Mm.val_eq (by omega) (by omega)]; exact h
  unfold rmR
  rw [rmRun_s, rm1z rfl (by simp only; rw [e2, w64 (by omega)]; omega)]
  exact ⟨rfl, rfl, fun e => Mm.acc_ld e⟩
theorem rem_some {m : Mm} {l : El} {M N : Nat} (hH : y.H ≤ 64) (hn : 4 + y.H ≤ n) (hM : 3 * N + 4 ≤ M) (h2 : m.g 2 = (N + 1 : Nat)) (hN : (N : Int) < y.H) :
    (rmR y n w M m l).c = 1 ∧ (rmR y n w M m l).v = tkW (m.g 4) ∧ (rmR y n w M m l).l = l.put 13 w (tkW (m.g 4)) ∧ ∀ e, (rmR y n w M m l).m.g e = if e = 2 then (N : Int) else if 4 ≤ e then (if N = 0 then sl m.g else dnM N (sl m.g N) N 0 (sl m.g)) (e - 4) else m.g e := by
  obtain ⟨M, rfl⟩ : ∃ f', M = f' + 4 := ⟨M - 4, by omega⟩
  have e2 : m.val n 2 = ((N + 1 : Nat) : Int) := by rw [Mm.val_eq (by omega) (by omega)]; exact h2
  have w2 : IntKind.i64.wrap (m.val n 2) = ((N + 1 : Nat) : Int) := by rw [e2, w64 (by omega)]
  unfold rmR
  rw [rmRun_s, rm1 rfl (by simp only; rw [w2]; omega)]
  simp only [w2]
  have hg1 : ∀ e, (m.acc n 1 2 (m.val n 2)).g e = m.g e := fun e => Mm.acc_ld e
  generalize m.acc n 1 2 (m.val n 2) = m1 at *
  have e3 : m1.val n (slM y 0) = m.g 4 := by
    rw [show (0 : Int) = ((0 : Nat) : Int) from rfl, slM_eq (by omega), Mm.val_eq (by omega) (by omega), hg1]
    rfl
  rw [rmRun_s, rm2 rfl]
  simp only [e3]
  have hg2 : ∀ e, (m1.acc n 1 (slM y 0) (m.g 4)).g e = m.g e := fun e => by rw [← e3, Mm.acc_ld, hg1]
  generalize m1.acc n 1 (slM y 0) (m.g 4) = m2 at *
  have e4 : m2.val n (slM y (les ((N + 1 : Nat) : Int))) = sl m.g N := by
    rw [les_e (by omega), slM_eq (by omega), Mm.val_eq (by omega) (by omega), hg2]
    unfold sl
    congr 1
  rw [rmRun_s, rm3 rfl]
  simp only [e4]
  have hg3 : ∀ e, (m2.acc n 1 (slM y (les ((N + 1 : Nat) : Int))) (sl m.g N)).g e = m.g e := fun e => by rw [← e4, Mm.acc_ld, hg2]
  generalize m2.acc n 1 (slM y (les ((N + 1 : Nat) : Int))) (sl m.g N) = m3 at *
  have u4 : IntKind.u64.wrap (les ((N + 1 : Nat) : Int)) = (N : Int) := by rw [les_e (by omega), wu64 (by omega)]
  by_cases c0 : N = 0
  · subst c0
    rw [rmRun_s, rm4o rfl rfl]
    refine ⟨rfl, rfl, rfl, fun e => ?_⟩
    simp only [u4]
    rw [if_pos trivial]
    by_cases c2 : e = 2
    · rw [if_pos c2, Mm.acc_eq (by omega) (by omega) (by omega)]
    · rw [if_neg c2, Mm.acc_ne (by omega), hg3]
      by_cases c4 : 4 ≤ e
      · rw [if_pos c4]
        unfold sl
        rw [show 4 + (e - 4) = e by omega]
      · rw [if_neg c4]
  · rw [rmRun_s, rm4 rfl (by simp only; omega)]
    simp only [u4]
    have := dn_run hH hn hN (w := w) (F := N) (i := 0) (f := M) (x := ⟨chl ((N + 1 : Nat) : Int) 0, ((N + 1 : Nat) : Int), 0, 0, m.g 4, sl m.g N, 0, 0 + 1 + 1 + 1 + 1, m3.acc n 2 2 (N : Int), l.put 13 w (tkW (m.g 4))⟩) rfl rfl (by omega) (by omega) rfl (by omega)
    refine ⟨this.1, this.2.1, this.2.2.1, fun e => ?_⟩
    refine (this.2.2.2 e).trans ?_
    simp only
    have hs : sl (m3.acc n 2 2 (N : Int)).g = sl m.g := funext fun j => by unfold sl; rw [Mm.acc_ne (by omega), hg3]
    rw [hs, if_neg c0]
    by_cases c2 : e = 2
    · rw [if_pos c2, if_neg (by omega), Mm.acc_eq (by omega) (by omega) (by omega)]
    · rw [if_neg c2, Mm.acc_ne (by omega), hg3]
end
end Go.Proofs.YtomaagmleafjeaaGreat.Md
