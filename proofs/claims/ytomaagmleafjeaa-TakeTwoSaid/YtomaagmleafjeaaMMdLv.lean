/- The deques of a worker alone: what runs of Push and Pop do to the cells. -/
import Derived.Test.YtomaagmleafjeaaMMdPu
set_option linter.unusedVariables false
set_option linter.unusedSimpArgs false
set_option maxRecDepth 100000
namespace Go.Proofs.Ytomaagmleafjeaa.Md
open Go Go.RowKit Sx Cn Dc Ck Vc
theorem wu_eq (x : Int) : IntKind.u64.wrap x = x % 18446744073709551616 := by unfold IntKind.wrap; rfl
theorem wi_eq (x : Int) : IntKind.i64.wrap x = if x % 18446744073709551616 ≥ 9223372036854775808 then x % 18446744073709551616 - 18446744073709551616 else x % 18446744073709551616 := by
  unfold IntKind.wrap
  simp only [IntKind.signed, Bool.true_and, decide_eq_true_eq]
  rfl
theorem sz_eq {b t : Int} (h : -1000000000 ≤ b - t ∧ b - t ≤ 1000000000) : sz b t = b - t := by
  unfold sz
  rw [wu_eq, wi_eq]
  split <;> omega
theorem ringC_eq {r c i : Int} (hr : 0 ≤ r ∧ r ≤ 1000000) (hc : 1 ≤ c ∧ c ≤ 1000) (hi : 0 ≤ i) : ringC r c i = r + i % c := by
  unfold ringC
  have h1 := Int.emod_nonneg i (show c ≠ 0 by omega)
  have h2 := Int.emod_lt_of_pos i (show 0 < c by omega)
  rw [if_neg (by omega), wu64 (by omega), Int.tmod_eq_emod_of_nonneg hi, w64 (n := i % c) (by omega), w64 (by omega)]
/-! Few bits -/
theorem set_fin : ∀ B : Fin 64, ∀ h : Fin 6, bits .or .u64 (B.val : Int) (bitM h.val) = if B.val / 2 ^ h.val % 2 = 1 then (B.val : Int) else (B.val + 2 ^ h.val : Nat) := by decide +kernel
theorem or_fin : ∀ B : Fin 64, ∀ h v : Fin 6, (if B.val / 2 ^ h.val % 2 = 1 then B.val else B.val + 2 ^ h.val) / 2 ^ h.val % 2 = 1 ∧ (B.val / 2 ^ v.val % 2 = 1 → (if B.val / 2 ^ h.val % 2 = 1 then B.val else B.val + 2 ^ h.val) / 2 ^ v.val % 2 = 1) := by decide +kernel
theorem lim_fin : ∀ L : Fin 7, ∀ B : Fin 64, ∀ h : Fin 6, B.val < 2 ^ L.val → h.val < L.val → (if B.val / 2 ^ h.val % 2 = 1 then B.val else B.val + 2 ^ h.val) < 2 ^ L.val := by decide +kernel
/-- Bit v of a word. -/
def bitN (B : Int) (v : Nat) : Prop := B.toNat / 2 ^ v % 2 = 1
section
variable {B : Int} {h v L : Nat}
theorem pow_le (hL : L ≤ 6) : (2 : Int) ^ L ≤ 64 := by
  have : L = 0 ∨ L = 1 ∨ L = 2 ∨ L = 3 ∨ L = 4 ∨ L = 5 ∨ L = 6 := by omega
  rcases this with rfl | rfl | rfl | rfl | rfl | rfl | rfl <;> decide
end
/-! ### The cells -/
/-- The layout of one worker. -/
structure Qp (y : Ly) (n L : Nat) : Prop where
  hW : y.W = 1
  hL : y.L = L
  hLs : L ≤ 6
  hD : 1 ≤ y.D ∧ y.D ≤ 64
  hbm : 0 ≤ y.bm ∧ y.bm < y.qu
  hqu : y.qu ≤ 1000
  hn : y.qu + L * (2 + y.D) ≤ n
def Tq (y : Ly) (v : Nat) : Int := y.qu + v * (2 + y.D)
section
variable {y : Ly} {n L : Nat} {v u : Nat}
theorem Qp.lt (h : Qp y n L) (hv : v < u) : Tq y v + (2 + y.D) ≤ Tq y u := by
  unfold Tq
  have h1 : ((v : Int) + 1) * (2 + y.D) ≤ (u : Int) * (2 + y.D) := Int.mul_le_mul_of_nonneg_right (by omega) (by have := h.hD; omega)
  rw [Int.add_mul] at h1
  omega
theorem Qp.end (h : Qp y n L) (hv : v < L) : Tq y v + (2 + y.D) ≤ n := by
  have h1 := h.lt hv
  have h2 := h.hn
  unfold Tq at h1 ⊢
  omega
theorem Qp.beg (h : Qp y n L) : y.qu ≤ Tq y v := by
  unfold Tq
  have := Int.mul_nonneg (show (0 : Int) ≤ v by omega) (show 0 ≤ 2 + y.D by have := h.hD; omega)
  omega
theorem Qp.big (h : Qp y n L) (hv : v < L) : Tq y v ≤ 2000 := by
  have h1 := mulB (a := (v : Int)) (b := 2 + y.D) (A := 6) (B := 66) (by omega) (by have := h.hLs; omega) (by have := h.hD; omega) (by have := h.hD; omega)
  have := h.hqu
  unfold Tq
  omega
theorem Qp.quM (h : Qp y n L) (hv : v < L) : quM y 0 v = ⟨Tq y v, Tq y v + 1, Tq y v + 2, y.D⟩ := by
  unfold Md.quM Tq
  rw [if_neg (by have := h.hW; have := h.hL; omega), Int.zero_mul, Int.add_zero]
theorem Qp.atM (h : Qp y n L) : atM 0 y.W y.bm 1 = y.bm := by
  unfold Md.atM
  rw [if_neg (by have := h.hW; omega)]
  omega
theorem Qp.small (h : Qp y n L) : y.small := ⟨by have := h.hW; omega, by have := h.hL; have := h.hLs; omega, by have := h.hD; omega, by have := h.hqu; have := h.hbm; omega⟩
theorem Qp.okAt (h : Qp y n L) : okAtT 0 y.W y.bm 1 := ⟨fun _ _ => by omega, by have := h.hbm; have := h.hqu; omega⟩
end
/-- The deques are as they should be: indexes, bits. -/
structure Wf (y : Ly) (n L : Nat) (m : Mm) : Prop where
  ok : ∀ e, 0 ≤ m.g e ∧ m.g e ≤ 18446744073709551615
  t : ∀ v, v < L → 0 ≤ m.g (Tq y v).toNat ∧ m.g (Tq y v).toNat ≤ m.g (Tq y v + 1).toNat ∧ m.g (Tq y v + 1).toNat ≤ m.g (Tq y v).toNat + y.D ∧ m.g (Tq y v + 1).toNat ≤ 1000000
  B : 0 ≤ m.g y.bm.toNat ∧ m.g y.bm.toNat < 2 ^ L
  bit : ∀ v, v < L → m.g (Tq y v).toNat < m.g (Tq y v + 1).toNat → bitN (m.g y.bm.toNat) v
def orB (B : Int) (v : Nat) : Int := if B.toNat / 2 ^ v % 2 = 1 then B else B + (2 ^ v : Nat)
theorem or_eq {B : Int} {v : Nat} (h0 : 0 ≤ B) (h1 : B < 64) (hv : v < 6) : bits .or .u64 B (bitM v) = orB B v := by
  have h := set_fin ⟨B.toNat, by omega⟩ ⟨v, hv⟩
  simp only [show ((B.toNat : Nat) : Int) = B by omega] at h
  rw [h]
  unfold orB
  split
  · rfl
  · omega
section
variable {y : Ly} {n L : Nat} {m : Mm} {v : Nat} {val : Int} {M : Nat}
theorem push_full (h : Qp y n L) (hw : Wf y n L m) (hv : v < L) (hM : 5 ≤ M) (hf : m.g (Tq y v + 1).toNat = m.g (Tq y v).toNat + y.D) :
    (puR y n 0 v val M m).c = 3 ∧ ∀ e, (puR y n 0 v val M m).m.g e = m.g e := by
  obtain ⟨K, rfl⟩ : ∃ K, M = K + 5 := ⟨M - 5, by omega⟩
  have hq := h.quM hv
  have hb := h.beg (v := v)
  have hE := h.end hv
  have hD := h.hD
  have hB := h.hbm
  have v1 : m.val n (Tq y v + 1) = m.g (Tq y v + 1).toNat := Mm.val_eq (by omega) (by omega)
  have v2 : (m.acc n 1 (Tq y v + 1) (m.val n (Tq y v + 1))).val n (Tq y v) = m.g (Tq y v).toNat := by
    rw [Mm.val_eq (by omega) (by omega), Mm.acc_ld]
  rw [v1] at v2
  have hs : y.D ≤ sz (m.g (Tq y v + 1).toNat) (m.g (Tq y v).toNat) := by rw [sz_eq (by omega)]; omega
  have e : puR y n 0 v val (K + 5) m = ⟨3, 0, 2, (m.acc n 1 (Tq y v + 1) (m.g (Tq y v + 1).toNat)).acc n 1 (Tq y v) (m.g (Tq y v).toNat)⟩ := by
    simp [puR, puRun, aRun, puStep, hq, v1, v2, hs]
  rw [e]
  refine ⟨rfl, fun e => ?_⟩
  show ((m.acc n 1 (Tq y v + 1) (m.g (Tq y v + 1).toNat)).acc n 1 (Tq y v) (m.g (Tq y v).toNat)).g e = m.g e
  rw [← v2, Mm.acc_ld, ← v1, Mm.acc_ld]
theorem push_fine (h : Qp y n L) (hw : Wf y n L m) (hv : v < L) (hM : 5 ≤ M) (hval : 0 ≤ val ∧ val ≤ 9223372036854775807) (hf : m.g (Tq y v + 1).toNat < m.g (Tq y v).toNat + y.D) :
    (puR y n 0 v val M m).c = 0 ∧ ∀ e : Nat, (puR y n 0 v val M m).m.g e = if (e : Int) = y.bm then orB (m.g y.bm.toNat) v else if (e : Int) = Tq y v + 1 then m.g (Tq y v + 1).toNat + 1 else
      if (e : Int) = Tq y v + 2 + m.g (Tq y v + 1).toNat % y.D then val else m.g e := by
  obtain ⟨K, rfl⟩ : ∃ K, M = K + 5 := ⟨M - 5, by omega⟩
  have hq := h.quM hv
  have ha := h.atM
  have hb := h.beg (v := v)
  have hE := h.end hv
  have hbig := h.big hv
  have hD := h.hD
  have hB := h.hbm
  have ht := hw.t v hv
  have hB2 := hw.B
  have hp := pow_le h.hLs
  generalize hbb : m.g (Tq y v + 1).toNat = b at *
  generalize htt : m.g (Tq y v).toNat = t at *
  have r1 := Int.emod_nonneg b (show y.D ≠ 0 by omega)
  have r2 := Int.emod_lt_of_pos b (show 0 < y.D by omega)
  have v1 : m.val n (Tq y v + 1) = b := by rw [Mm.val_eq (by omega) (by omega), hbb]
  have v2 : (m.acc n 1 (Tq y v + 1) b).val n (Tq y v) = t := by
    rw [← v1, Mm.val_eq (by omega) (by omega), Mm.acc_ld, htt]
  have hs : ¬ y.D ≤ sz b t := by rw [sz_eq (by omega)]; omega
  have hr : ringC (Tq y v + 2) y.D b = Tq y v + 2 + b % y.D := ringC_eq (by omega) (by omega) (by omega)
  have hw1 : IntKind.u64.wrap val = val := wu64 (by omega)
  have hw2 : IntKind.u64.wrap (b + 1) = b + 1 := wu64 (by omega)
  have l2 : ∀ e, ((m.acc n 1 (Tq y v + 1) b).acc n 1 (Tq y v) t).g e = m.g e := fun e => by
    rw [← v2, Mm.acc_ld, ← v1, Mm.acc_ld]
  have v3 : ((((m.acc n 1 (Tq y v + 1) b).acc n 1 (Tq y v) t).acc n 2 (Tq y v + 2 + b % y.D) val).acc n 2 (Tq y v + 1) (b + 1)).val n y.bm = m.g y.bm.toNat := by
    rw [Mm.val_eq (by omega) (by omega), Mm.acc_ne (by omega), Mm.acc_ne (by omega), l2]
  have hor := or_eq (v := v) hB2.1 (by omega) (by have := h.hLs; omega)
  have e : puR y n 0 v val (K + 5) m = ⟨0, 0, 5, ((((m.acc n 1 (Tq y v + 1) b).acc n 1 (Tq y v) t).acc n 2 (Tq y v + 2 + b % y.D) val).acc n 2 (Tq y v + 1) (b + 1)).acc n 4 y.bm (orB (m.g y.bm.toNat) v)⟩ := by
    simp [puR, puRun, aRun, puStep, hq, ha, v1, v2, v3, hs, hr, hw1, hw2, hor]
  rw [e]
  refine ⟨rfl, fun e => ?_⟩
  show (Mm.acc _ n 4 y.bm _).g e = _
  by_cases c1 : (e : Int) = y.bm
  · rw [if_pos c1, Mm.acc_eq (by omega) (by omega) c1]
  · rw [if_neg c1, Mm.acc_ne c1]
    by_cases c2 : (e : Int) = Tq y v + 1
    · rw [if_pos c2, Mm.acc_eq (by omega) (by omega) c2]
    · rw [if_neg c2, Mm.acc_ne c2]
      by_cases c3 : (e : Int) = Tq y v + 2 + b % y.D
      · rw [if_pos c3, Mm.acc_eq (by omega) (by omega) c3]
      · rw [if_neg c3, Mm.acc_ne c3, l2]
end
section
variable {y : Ly} {n L : Nat} {m : Mm} {v : Nat} {lv : Int} {k f : Nat}
end
section
variable {y : Ly} {n L : Nat} {m m' : Mm}
/-- Other cells than the indexes and the bits do not matter; other bits, if those of the deques that have entries are there. -/
theorem Wf.of (h : Qp y n L) (hw : Wf y n L m) {C : Int} (hok : ∀ e, 0 ≤ m'.g e ∧ m'.g e ≤ 18446744073709551615) (ht : ∀ v, v < L → m'.g (Tq y v).toNat = m.g (Tq y v).toNat ∧ m'.g (Tq y v + 1).toNat = m.g (Tq y v + 1).toNat)
    (hC : m'.g y.bm.toNat = C) (hC2 : 0 ≤ C ∧ C < 2 ^ L) (hb : ∀ v, v < L → m.g (Tq y v).toNat < m.g (Tq y v + 1).toNat → bitN C v) : Wf y n L m' :=
  ⟨hok, fun v hv => by rw [(ht v hv).1, (ht v hv).2]; exact hw.t v hv, by rw [hC]; exact hC2, fun v hv hl => by rw [hC]; rw [(ht v hv).1, (ht v hv).2] at hl; exact hb v hv hl⟩
end
end Go.Proofs.Ytomaagmleafjeaa.Md
