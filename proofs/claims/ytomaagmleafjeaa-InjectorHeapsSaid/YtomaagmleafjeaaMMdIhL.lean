/- InjectorHeaps, the plain law: one insertion, one removal. -/
import Derived.Test.YtomaagmleafjeaaMMdIhD
import Derived.Test.YtomaagmleafjeaaMMdHc
import Derived.Test.YtomaagmleafjeaaMMdInR
set_option linter.unusedVariables false
set_option linter.unusedSimpArgs false
set_option linter.unusedVariables false
set_option linter.unusedSimpArgs false
set_option maxRecDepth 100000
namespace Go.Proofs.Ytomaagmleafjeaa.Md
open Go Go.RowKit Sx Cn Dc Ck Vc
theorem put_ok {p : Int → Prop} {N i j : Nat} {v : Int} {g : Nat → Int} (h : ∀ j, j < N → j ≠ i → p (g j)) (hv : p v) (hj : j < N) : p (put g i v j) := by
  by_cases c : j = i
  · subst c; rw [put_eq]; exact hv
  · rw [put_ne c]; exact h j hj c
theorem up_ok {p : Int → Prop} {k : Int} {N : Nat} : ∀ {i : Nat} {g : Nat → Int}, i < N → (∀ j, j < N → j ≠ i → p (g j)) → p k → ∀ j, j < N → p (upM i k g j)
  | 0, g, hi, h, hk, j, hj => by
    rw [upM]
    exact put_ok h hk hj
  | i + 1, g, hi, h, hk, j, hj => by
    rw [upM]
    split
    · exact up_ok (by omega) (fun q hq hne => put_ok h (h _ (by omega) (by omega)) hq) hk j hj
    · exact put_ok h hk hj
termination_by i => i
decreasing_by omega
theorem dn_ok {p : Int → Prop} {y : Int} {n : Nat} : ∀ {f i : Nat} {g : Nat → Int}, (∀ j, j < n → j ≠ i → p (g j)) → p y → ∀ j, j < n → p (dnM n y f i g j)
  | 0, i, g, h, hy, j, hj => by
    rw [dnM]
    exact put_ok h hy hj
  | f + 1, i, g, h, hy, j, hj => by
    rw [dnM]
    split
    · rename_i hc
      obtain ⟨b1, b2, b3⟩ := lsr_bd (g := g) hc.1
      exact dn_ok (fun q hq hne => put_ok h (h _ b2 (by omega)) hq) hy j hj
    · exact put_ok h hy hj
def u64p (x : Int) : Prop := 0 ≤ x ∧ x ≤ 18446744073709551615
section
variable {y : Ly} {n : Nat} {m : Mm} {N q i : Nat} {a : Nat → Int} {d : Int}
theorem ihFull (hH : 1 ≤ y.H ∧ y.H ≤ 12) (hn : 4 + y.H ≤ n) (h2 : m.g 2 = N) (hN : (N : Int) = y.H) : (inR y n d i 200 m).c = 3 ∧ ∀ e, (inR y n d i 200 m).m.g e = m.g e :=
  ins_full (by omega) hn (by decide) (by omega)
theorem ihFine (hH : 1 ≤ y.H ∧ y.H ≤ 12) (hn : 4 + y.H ≤ n) (h2 : m.g 2 = N) (hN : (N : Int) < y.H) (h3 : m.g 3 = q) (hq : q ≤ 100) (hd : 0 ≤ d ∧ d ≤ 15) (hi : i ≤ 100) (ha : ∀ j, j < N → a j = m.g (4 + j)) :
    (inR y n d i 200 m).c = 0 ∧ (inR y n d i 200 m).m.g 2 = ((N + 1 : Nat) : Int) ∧ (inR y n d i 200 m).m.g 3 = ((q + 1 : Nat) : Int) ∧ ∀ j, j < N + 1 → upM N (pkW d q i) a j = (inR y n d i 200 m).m.g (4 + j) := by
  obtain ⟨c, e⟩ := ins_fine (y := y) (n := n) (d := d) (t := i) (m := m) (M := 200) (N := N) (a := q) (by omega) hn (by omega) h2 hN h3 (by omega) (pk_t (by omega)).1
  refine ⟨c, ?_, ?_, fun j hj => ?_⟩
  · rw [e, if_pos rfl]; omega
  · rw [e, if_neg (by decide), if_pos rfl]; omega
  · rw [e, if_neg (by omega), if_neg (by omega), if_pos (by omega), show 4 + j - 4 = j by omega]
    exact up_congr (N := N + 1) (by omega) (fun z hz hne => ha z (by omega)) j hj
theorem ihKey (hq : q ≤ 100) (hd : 0 ≤ d ∧ d ≤ 15) (hi : i ≤ 100) : u64p (pkW d q i) := by
  rw [(pk_t (by omega)).2]
  unfold u64p
  omega
theorem ihNone {l : El} {w : Int} (hH : 1 ≤ y.H ∧ y.H ≤ 12) (hn : 4 + y.H ≤ n) (h2 : m.g 2 = (0 : Nat)) : (rmR y n w 200 m l).c = 2 ∧ (rmR y n w 200 m l).l = l ∧ ∀ e, (rmR y n w 200 m l).m.g e = m.g e :=
  rem_none hn (by omega) (by decide) h2
theorem ihSome {l : El} {w : Int} (hH : 1 ≤ y.H ∧ y.H ≤ 12) (hn : 4 + y.H ≤ n) (h2 : m.g 2 = (N + 1 : Nat)) (hN : ((N + 1 : Nat) : Int) ≤ y.H) (ha : ∀ j, j < N + 1 → a j = m.g (4 + j)) :
    (rmR y n w 200 m l).c = 1 ∧ (rmR y n w 200 m l).v = tkW (a 0) ∧ (rmR y n w 200 m l).l.n = l.n + 1 ∧ (rmR y n w 200 m l).m.g 2 = (N : Int) ∧ (rmR y n w 200 m l).m.g 3 = m.g 3 ∧ ∀ j, j < N → dnM N (a N) N 0 a j = (rmR y n w 200 m l).m.g (4 + j) := by
  obtain ⟨c, v, hl, e⟩ := rem_some (y := y) (n := n) (w := w) (m := m) (l := l) (M := 200) (N := N) (by omega) hn (by omega) h2 (by omega)
  have a0 : a 0 = m.g 4 := ha 0 (by omega)
  refine ⟨c, by rw [v, a0], by rw [hl]; rfl, by rw [e, if_pos rfl], by rw [e, if_neg (by decide), if_neg (by decide)], fun j hj => ?_⟩
  rw [e, if_neg (by omega), if_pos (by omega), show 4 + j - 4 = j by omega, if_neg (by omega)]
  have aN : a N = sl m.g N := ha N (by omega)
  rw [aN]
  exact dn_congr (fun z hz hne => ha z (by omega)) j hj
end
end Go.Proofs.Ytomaagmleafjeaa.Md
