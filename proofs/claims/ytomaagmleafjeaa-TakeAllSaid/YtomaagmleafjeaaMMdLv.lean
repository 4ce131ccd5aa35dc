/- The deques of a worker alone: what runs of Push and Pop do to the cells. -/
import Derived.Test.YtomaagmleafjeaaMMdPu
set_option linter.unusedVariables false
set_option linter.unusedSimpArgs false
set_option linter.unusedVariables false
set_option linter.unusedSimpArgs false
set_option maxRecDepth 100000
namespace Go.Proofs.Ytomaagmleafjeaa.Md
open Go Go.RowKit Sx Cn Dc Ck Vc
theorem wu_eq (x : Int) : IntKind.u64.wrap x = x % 18446744073709551616 := by unfold IntKind.wrap; rfl
theorem wi_eq (x : Int) : IntKind.i64.wrap x = if x % 18446744073709551616 ≥ 9223372036854775808 then x % 18446744073709551616 - 18446744073709551616 else x % 18446744073709551616 := by
  unfold IntKind.wrap
  simp only [IntKind.signed, Bool.true_and, decide_eq_true_eq]
  rfl
theorem sz_eq {b t : Int} (h : -1000000000 ≤ b - t ∧ b - t ≤ 1000000000) : sz b t = b - t := by
  unfold sz
  rw [wu_eq, wi_eq]
  split <;> omega
theorem ringC_eq {r c i : Int} (hr : 0 ≤ r ∧ r ≤ 1000000) (hc : 1 ≤ c ∧ c ≤ 1000) (hi : 0 ≤ i) : ringC r c i = r + i % c := by
  unfold ringC
  have h1 := Int.emod_nonneg i (show c ≠ 0 by omega)
  have h2 := Int.emod_lt_of_pos i (show 0 < c by omega)
  rw [if_neg (by omega), wu64 (by omega), Int.tmod_eq_emod_of_nonneg hi, w64 (n := i % c) (by omega), w64 (by omega)]
/-! Few bits -/
theorem hi_fin : ∀ B : Fin 64, ∀ h : Fin 6, 2 ^ h.val ≤ B.val → B.val < 2 ^ (h.val + 1) → hiB (B.val : Int) = h.val := by decide +kernel
theorem clr_fin : ∀ B : Fin 64, ∀ h : Fin 6, B.val / 2 ^ h.val % 2 = 1 → bits .and .u64 (B.val : Int) (bits .xor .u64 IntKind.u64.max (bitM h.val)) = (B.val - 2 ^ h.val : Nat) := by decide +kernel
theorem set_fin : ∀ B : Fin 64, ∀ h : Fin 6, bits .or .u64 (B.val : Int) (bitM h.val) = if B.val / 2 ^ h.val % 2 = 1 then (B.val : Int) else (B.val + 2 ^ h.val : Nat) := by decide +kernel
theorem top_fin : ∀ B : Fin 64, 0 < B.val → ∃ h : Fin 6, 2 ^ h.val ≤ B.val ∧ B.val < 2 ^ (h.val + 1) := by decide +kernel
theorem sub_fin : ∀ B : Fin 64, ∀ h v : Fin 6, 2 ^ h.val ≤ B.val → B.val < 2 ^ (h.val + 1) → (v ≠ h → (B.val - 2 ^ h.val) / 2 ^ v.val % 2 = B.val / 2 ^ v.val % 2) ∧ (B.val - 2 ^ h.val) / 2 ^ h.val % 2 = 0 ∧ (h < v → B.val / 2 ^ v.val % 2 = 0) ∧ B.val / 2 ^ h.val % 2 = 1 := by decide +kernel
theorem or_fin : ∀ B : Fin 64, ∀ h v : Fin 6, (if B.val / 2 ^ h.val % 2 = 1 then B.val else B.val + 2 ^ h.val) / 2 ^ h.val % 2 = 1 ∧ (B.val / 2 ^ v.val % 2 = 1 → (if B.val / 2 ^ h.val % 2 = 1 then B.val else B.val + 2 ^ h.val) / 2 ^ v.val % 2 = 1) := by decide +kernel
theorem lim_fin : ∀ L : Fin 7, ∀ B : Fin 64, ∀ h : Fin 6, B.val < 2 ^ L.val → h.val < L.val → (if B.val / 2 ^ h.val % 2 = 1 then B.val else B.val + 2 ^ h.val) < 2 ^ L.val := by decide +kernel
/-- Bit v of a word. -/
def bitN (B : Int) (v : Nat) : Prop := B.toNat / 2 ^ v % 2 = 1
section
variable {B : Int} {h v L : Nat}
theorem pow_le (hL : L ≤ 6) : (2 : Int) ^ L ≤ 64 := by
  have : L = 0 ∨ L = 1 ∨ L = 2 ∨ L = 3 ∨ L = 4 ∨ L = 5 ∨ L = 6 := by omega
  rcases this with rfl | rfl | rfl | rfl | rfl | rfl | rfl <;> decide
end
/-! ### The cells -/
/-- The layout of one worker. -/
structure Qp (y : Ly) (n L : Nat) : Prop where
  hW : y.W = 1
  hL : y.L = L
  hLs : L ≤ 6
  hD : 1 ≤ y.D ∧ y.D ≤ 64
  hbm : 0 ≤ y.bm ∧ y.bm < y.qu
  hqu : y.qu ≤ 1000
  hn : y.qu + L * (2 + y.D) ≤ n
def Tq (y : Ly) (v : Nat) : Int := y.qu + v * (2 + y.D)
section
variable {y : Ly} {n L : Nat} {v u : Nat}
theorem Qp.lt (h : Qp y n L) (hv : v < u) : Tq y v + (2 + y.D) ≤ Tq y u := by
  unfold Tq
  have h1 : ((v : Int) + 1) * (2 + y.D) ≤ (u : Int) * (2 + y.D) := Int.mul_le_mul_of_nonneg_right (by omega) (by have := h.hD; omega)
  rw [Int.add_mul] at h1
  omega
theorem Qp.end (h : Qp y n L) (hv : v < L) : Tq y v + (2 + y.D) ≤ n := by
  have h1 := h.lt hv
  have h2 := h.hn
  unfold Tq at h1 ⊢
  omega
theorem Qp.beg (h : Qp y n L) : y.qu ≤ Tq y v := by
  unfold Tq
  have := Int.mul_nonneg (show (0 : Int) ≤ v by omega) (show 0 ≤ 2 + y.D by have := h.hD; omega)
  omega
theorem Qp.big (h : Qp y n L) (hv : v < L) : Tq y v ≤ 2000 := by
  have h1 := mulB (a := (v : Int)) (b := 2 + y.D) (A := 6) (B := 66) (by omega) (by have := h.hLs; omega) (by have := h.hD; omega) (by have := h.hD; omega)
  have := h.hqu
  unfold Tq
  omega
theorem Qp.quM (h : Qp y n L) (hv : v < L) : quM y 0 v = ⟨Tq y v, Tq y v + 1, Tq y v + 2, y.D⟩ := by
  unfold Md.quM Tq
  rw [if_neg (by have := h.hW; have := h.hL; omega), Int.zero_mul, Int.add_zero]
theorem Qp.atM (h : Qp y n L) : atM 0 y.W y.bm 1 = y.bm := by
  unfold Md.atM
  rw [if_neg (by have := h.hW; omega)]
  omega
theorem Qp.small (h : Qp y n L) : y.small := ⟨by have := h.hW; omega, by have := h.hL; have := h.hLs; omega, by have := h.hD; omega, by have := h.hqu; have := h.hbm; omega⟩
theorem Qp.okAt (h : Qp y n L) : okAtT 0 y.W y.bm 1 := ⟨fun _ _ => by omega, by have := h.hbm; have := h.hqu; omega⟩
end
/-- The deques are as they should be: indexes, bits. -/
structure Wf (y : Ly) (n L : Nat) (m : Mm) : Prop where
  ok : ∀ e, 0 ≤ m.g e ∧ m.g e ≤ 18446744073709551615
  t : ∀ v, v < L → 0 ≤ m.g (Tq y v).toNat ∧ m.g (Tq y v).toNat ≤ m.g (Tq y v + 1).toNat ∧ m.g (Tq y v + 1).toNat ≤ m.g (Tq y v).toNat + y.D ∧ m.g (Tq y v + 1).toNat ≤ 1000000
  B : 0 ≤ m.g y.bm.toNat ∧ m.g y.bm.toNat < 2 ^ L
  bit : ∀ v, v < L → m.g (Tq y v).toNat < m.g (Tq y v + 1).toNat → bitN (m.g y.bm.toNat) v
def orB (B : Int) (v : Nat) : Int := if B.toNat / 2 ^ v % 2 = 1 then B else B + (2 ^ v : Nat)
theorem or_eq {B : Int} {v : Nat} (h0 : 0 ≤ B) (h1 : B < 64) (hv : v < 6) : bits .or .u64 B (bitM v) = orB B v := by
  have h := set_fin ⟨B.toNat, by omega⟩ ⟨v, hv⟩
  simp only [show ((B.toNat : Nat) : Int) = B by omega] at h
  rw [h]
  unfold orB
  split
  · rfl
  · omega
section
variable {y : Ly} {n L : Nat} {m : Mm} {v : Nat} {val : Int} {M : Nat}
theorem push_full (h : Qp y n L) (hw : Wf y n L m) (hv : v < L) (hM : 5 ≤ M) (hf : m.g (Tq y v + 1).toNat = m.g (Tq y v).toNat + y.D) :
    (puR y n 0 v val M m).c = 3 ∧ ∀ e, (puR y n 0 v val M m).m.g e = m.g e := by
  obtain ⟨K, rfl⟩ : ∃ K, M = K + 5 := ⟨M - 5, by omega⟩
  have hq := h.quM hv
  have hb := h.beg (v := v)
  have hE := h.end hv
  have hD := h.hD
  have hB := h.hbm
  have v1 : m.val n (Tq y v + 1) = m.g (Tq y v + 1).toNat := Mm.val_eq (by omega) (by omega)
  have v2 : (m.acc n 1 (Tq y v + 1) (m.val n (Tq y v + 1))).val n (Tq y v) = m.g (Tq y v).toNat := by
    rw [Mm.val_eq (by omega) (by omega), Mm.acc_ld]
  rw [v1] at v2
  have hs : y.D ≤ sz (m.g (Tq y v + 1).toNat) (m.g (Tq y v).toNat) := by rw [sz_eq (by omega)]; omega
  have e : puR y n 0 v val (K + 5) m = ⟨3, 0, 2, (m.acc n 1 (Tq y v + 1) (m.g (Tq y v + 1).toNat)).acc n 1 (Tq y v) (m.g (Tq y v).toNat)⟩ := by
    simp [puR, puRun, aRun, puStep, hq, v1, v2, hs]
  rw [e]
  refine ⟨rfl, fun e => ?_⟩
  show ((m.acc n 1 (Tq y v + 1) (m.g (Tq y v + 1).toNat)).acc n 1 (Tq y v) (m.g (Tq y v).toNat)).g e = m.g e
  rw [← v2, Mm.acc_ld, ← v1, Mm.acc_ld]
theorem push_fine (h : Qp y n L) (hw : Wf y n L m) (hv : v < L) (hM : 5 ≤ M) (hval : 0 ≤ val ∧ val ≤ 9223372036854775807) (hf : m.g (Tq y v + 1).toNat < m.g (Tq y v).toNat + y.D) :
    (puR y n 0 v val M m).c = 0 ∧ ∀ e : Nat, (puR y n 0 v val M m).m.g e = if (e : Int) = y.bm then orB (m.g y.bm.toNat) v else if (e : Int) = Tq y v + 1 then m.g (Tq y v + 1).toNat + 1 else
      if (e : Int) = Tq y v + 2 + m.g (Tq y v + 1).toNat % y.D then val else m.g e := by
  obtain ⟨K, rfl⟩ : ∃ K, M = K + 5 := ⟨M - 5, by omega⟩
  have hq := h.quM hv
  have ha := h.atM
  have hb := h.beg (v := v)
  have hE := h.end hv
  have hbig := h.big hv
  have hD := h.hD
  have hB := h.hbm
  have ht := hw.t v hv
  have hB2 := hw.B
  have hp := pow_le h.hLs
  generalize hbb : m.g (Tq y v + 1).toNat = b at *
  generalize htt : m.g (Tq y v).toNat = t at *
  have r1 := Int.emod_nonneg b (show y.D ≠ 0 by omega)
  have r2 := Int.emod_lt_of_pos b (show 0 < y.D by omega)
  have v1 : m.val n (Tq y v + 1) = b := by rw [Mm.val_eq (by omega) (by omega), hbb]
  have v2 : (m.acc n 1 (Tq y v + 1) b).val n (Tq y v) = t := by
    rw [← v1, Mm.val_eq (by omega) (by omega), Mm.acc_ld, htt]
  have hs : ¬ y.D ≤ sz b t := by rw [sz_eq (by omega)]; omega
  have hr : ringC (Tq y v + 2) y.D b = Tq y v + 2 + b % y.D := ringC_eq (by omega) (by omega) (by omega)
  have hw1 : IntKind.u64.wrap val = val := wu64 (by omega)
  have hw2 : IntKind.u64.wrap (b + 1) = b + 1 := wu64 (by omega)
  have l2 : ∀ e, ((m.acc n 1 (Tq y v + 1) b).acc n 1 (Tq y v) t).g e = m.g e := fun e => by
    rw [← v2, Mm.acc_ld, ← v1, Mm.acc_ld]
  have v3 : ((((m.acc n 1 (Tq y v + 1) b).acc n 1 (Tq y v) t).acc n 2 (Tq y v + 2 + b % y.D) val).acc n 2 (Tq y v + 1) (b + 1)).val n y.bm = m.g y.bm.toNat := by
    rw [Mm.val_eq (by omega) (by omega), Mm.acc_ne (by omega), Mm.acc_ne (by omega), l2]
  have hor := or_eq (v := v) hB2.1 (by omega) (by have := h.hLs; omega)
  have e : puR y n 0 v val (K + 5) m = ⟨0, 0, 5, ((((m.acc n 1 (Tq y v + 1) b).acc n 1 (Tq y v) t).acc n 2 (Tq y v + 2 + b % y.D) val).acc n 2 (Tq y v + 1) (b + 1)).acc n 4 y.bm (orB (m.g y.bm.toNat) v)⟩ := by
    simp [puR, puRun, aRun, puStep, hq, ha, v1, v2, v3, hs, hr, hw1, hw2, hor]
  rw [e]
  refine ⟨rfl, fun e => ?_⟩
  show (Mm.acc _ n 4 y.bm _).g e = _
  by_cases c1 : (e : Int) = y.bm
  · rw [if_pos c1, Mm.acc_eq (by omega) (by omega) c1]
  · rw [if_neg c1, Mm.acc_ne c1]
    by_cases c2 : (e : Int) = Tq y v + 1
    · rw [if_pos c2, Mm.acc_eq (by omega) (by omega) c2]
    · rw [if_neg c2, Mm.acc_ne c2]
      by_cases c3 : (e : Int) = Tq y v + 2 + b % y.D
      · rw [if_pos c3, Mm.acc_eq (by omega) (by omega) c3]
      · rw [if_neg c3, Mm.acc_ne c3, l2]
end
/-- The state ahead of line 1. -/
def po0 (lv : Int) (k : Nat) (m : Mm) : Nat × XPo := (0, ⟨lv, 0, 0, 0, 0, 0, 0, 0, k, m⟩)
section
variable {y : Ly} {n L : Nat} {m : Mm} {v : Nat} {lv : Int} {k f : Nat}
theorem pop_none (h : Qp y n L) (h0 : m.g y.bm.toNat = 0) : popRun y n 0 (f + 1) (po0 lv k m) = ⟨2, 0, (k + 1 : Nat), m.acc n 1 y.bm 0⟩ := by
  have ha := h.atM
  have hB := h.hbm
  have hn := h.beg (v := 0)
  have hn2 := h.hn
  have : (0 : Int) ≤ (L : Int) * (2 + y.D) := Int.mul_nonneg (by omega) (by have := h.hD; omega)
  have v1 : m.val n y.bm = 0 := by rw [Mm.val_eq (by omega) (by omega), h0]
  simp [popRun, aRun, popStep, po0, ha, v1]
theorem pop_skip (h : Qp y n L) (hw : Wf y n L m) (hv : v < L) (h1 : 2 ^ v ≤ (m.g y.bm.toNat).toNat) (h2 : (m.g y.bm.toNat).toNat < 2 ^ (v + 1)) (he : m.g (Tq y v + 1).toNat = m.g (Tq y v).toNat) :
    ∃ m', popRun y n 0 (f + 6) (po0 lv k m) = popRun y n 0 f (po0 v (k + 6) m') ∧ ∀ e : Nat, m'.g e = if (e : Int) = y.bm then m.g y.bm.toNat - (2 ^ v : Nat) else m.g e := by
  have hq := h.quM hv
  have ha := h.atM
  have hb := h.beg (v := v)
  have hE := h.end hv
  have hD := h.hD
  have hB := h.hbm
  have ht := hw.t v hv
  have hB2 := hw.B
  have hp := pow_le h.hLs
  have hv6 : v < 6 := by have := h.hLs; omega
  have hF : (m.g y.bm.toNat).toNat < 64 := by omega
  have hpos : 0 < 2 ^ v := Nat.pow_pos (by omega)
  have f1 := hi_fin ⟨(m.g y.bm.toNat).toNat, hF⟩ ⟨v, hv6⟩ h1 h2
  have f2 := clr_fin ⟨(m.g y.bm.toNat).toNat, hF⟩ ⟨v, hv6⟩ (sub_fin ⟨(m.g y.bm.toNat).toNat, hF⟩ ⟨v, hv6⟩ ⟨v, hv6⟩ h1 h2).2.2.2
  generalize hbb : m.g (Tq y v + 1).toNat = b at *
  generalize htt : m.g (Tq y v).toNat = t at *
  generalize hBB : m.g y.bm.toNat = B at *
  simp only [show ((B.toNat : Nat) : Int) = B by omega] at f1 f2
  have v0 : m.val n y.bm = B := by rw [Mm.val_eq (by omega) (by omega), hBB]
  have l0 : ∀ e, (m.acc n 1 y.bm B).g e = m.g e := fun e => by rw [← v0, Mm.acc_ld]
  have v1 : (m.acc n 1 y.bm B).val n (Tq y v + 1) = b := by rw [Mm.val_eq (by omega) (by omega), l0, hbb]
  have l1 : ∀ e, ((m.acc n 1 y.bm B).acc n 1 (Tq y v + 1) b).g e = m.g e := fun e => by rw [← v1, Mm.acc_ld, l0]
  have v2 : ((m.acc n 1 y.bm B).acc n 1 (Tq y v + 1) b).val n (Tq y v) = t := by rw [Mm.val_eq (by omega) (by omega), l1, htt]
  have l2 : ∀ e, (((m.acc n 1 y.bm B).acc n 1 (Tq y v + 1) b).acc n 1 (Tq y v) t).g e = m.g e := fun e => by rw [← v2, Mm.acc_ld, l1]
  have hs : sz b t ≤ 0 := by rw [sz_eq (by omega)]; omega
  generalize hm3 : ((m.acc n 1 y.bm B).acc n 1 (Tq y v + 1) b).acc n 1 (Tq y v) t = m3 at *
  have v3 : m3.val n y.bm = B := by rw [Mm.val_eq (by omega) (by omega), l2, hBB]
  generalize hC : ((B.toNat - 2 ^ v : Nat) : Int) = C at *
  have l3 : ∀ e : Nat, (m3.acc n 5 y.bm C).g e = if (e : Int) = y.bm then C else m.g e := fun e => by
    by_cases c : (e : Int) = y.bm
    · rw [if_pos c, Mm.acc_eq (by omega) (by omega) c]
    · rw [if_neg c, Mm.acc_ne c, l2]
  have v4 : (m3.acc n 5 y.bm C).val n (Tq y v + 1) = b := by rw [Mm.val_eq (by omega) (by omega), l3, if_neg (by omega), hbb]
  have l4 : ∀ e, ((m3.acc n 5 y.bm C).acc n 1 (Tq y v + 1) b).g e = (m3.acc n 5 y.bm C).g e := fun e => by rw [← v4, Mm.acc_ld]
  have v5 : ((m3.acc n 5 y.bm C).acc n 1 (Tq y v + 1) b).val n (Tq y v) = t := by rw [Mm.val_eq (by omega) (by omega), l4, l3, if_neg (by omega), htt]
  have l5 : ∀ e, (((m3.acc n 5 y.bm C).acc n 1 (Tq y v + 1) b).acc n 1 (Tq y v) t).g e = (m3.acc n 5 y.bm C).g e := fun e => by rw [← v5, Mm.acc_ld, l4]
  refine ⟨((m3.acc n 5 y.bm C).acc n 1 (Tq y v + 1) b).acc n 1 (Tq y v) t, ?_, fun e => ?_⟩
  · have hB0 : ¬ B = 0 := by omega
    simp [popRun, aRun, popStep, po0, ha, v0, hB0, f1, hq, v1, v2, hs, hm3, v3, f2, v4, v5]
  · rw [l5, l3]
    split
    · omega
    · rfl
theorem pop_more (h : Qp y n L) (hw : Wf y n L m) (hv : v < L) (h1 : 2 ^ v ≤ (m.g y.bm.toNat).toNat) (h2 : (m.g y.bm.toNat).toNat < 2 ^ (v + 1)) (he : m.g (Tq y v).toNat + 1 < m.g (Tq y v + 1).toNat) :
    ∃ m', popRun y n 0 (f + 6) (po0 lv k m) = ⟨1, IntKind.i64.wrap (m.g (Tq y v + 2 + (m.g (Tq y v + 1).toNat - 1) % y.D).toNat), (k + 6 : Nat), m'⟩ ∧ ∀ e : Nat, m'.g e = if (e : Int) = Tq y v + 1 then m.g (Tq y v + 1).toNat - 1 else m.g e := by
  have hq := h.quM hv
  have ha := h.atM
  have hb := h.beg (v := v)
  have hbig := h.big hv
  have hE := h.end hv
  have hD := h.hD
  have hB := h.hbm
  have ht := hw.t v hv
  have hB2 := hw.B
  have hp := pow_le h.hLs
  have hv6 : v < 6 := by have := h.hLs; omega
  have hF : (m.g y.bm.toNat).toNat < 64 := by omega
  have hpos : 0 < 2 ^ v := Nat.pow_pos (by omega)
  have f1 := hi_fin ⟨(m.g y.bm.toNat).toNat, hF⟩ ⟨v, hv6⟩ h1 h2
  generalize hbb : m.g (Tq y v + 1).toNat = b at *
  generalize htt : m.g (Tq y v).toNat = t at *
  generalize hBB : m.g y.bm.toNat = B at *
  simp only [show ((B.toNat : Nat) : Int) = B by omega] at f1
  have r1 := Int.emod_nonneg (b - 1) (show y.D ≠ 0 by omega)
  have r2 := Int.emod_lt_of_pos (b - 1) (show 0 < y.D by omega)
  have v0 : m.val n y.bm = B := by rw [Mm.val_eq (by omega) (by omega), hBB]
  have l0 : ∀ e, (m.acc n 1 y.bm B).g e = m.g e := fun e => by rw [← v0, Mm.acc_ld]
  have v1 : (m.acc n 1 y.bm B).val n (Tq y v + 1) = b := by rw [Mm.val_eq (by omega) (by omega), l0, hbb]
  have l1 : ∀ e, ((m.acc n 1 y.bm B).acc n 1 (Tq y v + 1) b).g e = m.g e := fun e => by rw [← v1, Mm.acc_ld, l0]
  have v2 : ((m.acc n 1 y.bm B).acc n 1 (Tq y v + 1) b).val n (Tq y v) = t := by rw [Mm.val_eq (by omega) (by omega), l1, htt]
  have l2 : ∀ e, (((m.acc n 1 y.bm B).acc n 1 (Tq y v + 1) b).acc n 1 (Tq y v) t).g e = m.g e := fun e => by rw [← v2, Mm.acc_ld, l1]
  have hs : ¬ sz b t ≤ 0 := by rw [sz_eq (by omega)]; omega
  generalize hm3 : ((m.acc n 1 y.bm B).acc n 1 (Tq y v + 1) b).acc n 1 (Tq y v) t = m3 at *
  have w1 : IntKind.u64.wrap (b - 1) = b - 1 := wu64 (by omega)
  have l3 : ∀ e : Nat, (m3.acc n 2 (Tq y v + 1) (b - 1)).g e = if (e : Int) = Tq y v + 1 then b - 1 else m.g e := fun e => by
    by_cases c : (e : Int) = Tq y v + 1
    · rw [if_pos c, Mm.acc_eq (by omega) (by omega) c]
    · rw [if_neg c, Mm.acc_ne c, l2]
  have v4 : (m3.acc n 2 (Tq y v + 1) (b - 1)).val n (Tq y v) = t := by rw [Mm.val_eq (by omega) (by omega), l3, if_neg (by omega), htt]
  have l4 : ∀ e, ((m3.acc n 2 (Tq y v + 1) (b - 1)).acc n 1 (Tq y v) t).g e = (m3.acc n 2 (Tq y v + 1) (b - 1)).g e := fun e => by rw [← v4, Mm.acc_ld]
  have hs2 : 0 < sz (b - 1) t := by rw [sz_eq (by omega)]; omega
  have hr : ringC (Tq y v + 2) y.D (b - 1) = Tq y v + 2 + (b - 1) % y.D := ringC_eq (by omega) (by omega) (by omega)
  generalize hR : m.g (Tq y v + 2 + (b - 1) % y.D).toNat = R at *
  have v5 : ((m3.acc n 2 (Tq y v + 1) (b - 1)).acc n 1 (Tq y v) t).val n (Tq y v + 2 + (b - 1) % y.D) = R := by rw [Mm.val_eq (by omega) (by omega), l4, l3, if_neg (by omega), hR]
  have l5 : ∀ e, (((m3.acc n 2 (Tq y v + 1) (b - 1)).acc n 1 (Tq y v) t).acc n 1 (Tq y v + 2 + (b - 1) % y.D) R).g e = (m3.acc n 2 (Tq y v + 1) (b - 1)).g e := fun e => by rw [← v5, Mm.acc_ld, l4]
  refine ⟨((m3.acc n 2 (Tq y v + 1) (b - 1)).acc n 1 (Tq y v) t).acc n 1 (Tq y v + 2 + (b - 1) % y.D) R, ?_, fun e => ?_⟩
  · have hB0 : ¬ B = 0 := by omega
    simp [popRun, aRun, popStep, po0, ha, v0, hB0, f1, hq, v1, v2, hs, hm3, w1, v4, hs2, hr, v5]
    omega
  · rw [l5, l3]
theorem pop_last (h : Qp y n L) (hw : Wf y n L m) (hv : v < L) (h1 : 2 ^ v ≤ (m.g y.bm.toNat).toNat) (h2 : (m.g y.bm.toNat).toNat < 2 ^ (v + 1)) (he : m.g (Tq y v + 1).toNat = m.g (Tq y v).toNat + 1) :
    ∃ m', popRun y n 0 (f + 8) (po0 lv k m) = ⟨1, IntKind.i64.wrap (m.g (Tq y v + 2 + (m.g (Tq y v + 1).toNat - 1) % y.D).toNat), (k + 8 : Nat), m'⟩ ∧ ∀ e : Nat, m'.g e = if (e : Int) = Tq y v then m.g (Tq y v).toNat + 1 else m.g e := by
  have hq := h.quM hv
  have ha := h.atM
  have hb := h.beg (v := v)
  have hbig := h.big hv
  have hE := h.end hv
  have hD := h.hD
  have hB := h.hbm
  have ht := hw.t v hv
  have hB2 := hw.B
  have hp := pow_le h.hLs
  have hv6 : v < 6 := by have := h.hLs; omega
  have hF : (m.g y.bm.toNat).toNat < 64 := by omega
  have hpos : 0 < 2 ^ v := Nat.pow_pos (by omega)
  have f1 := hi_fin ⟨(m.g y.bm.toNat).toNat, hF⟩ ⟨v, hv6⟩ h1 h2
  generalize hbb : m.g (Tq y v + 1).toNat = b at *
  generalize htt : m.g (Tq y v).toNat = t at *
  generalize hBB : m.g y.bm.toNat = B at *
  simp only [show ((B.toNat : Nat) : Int) = B by omega] at f1
  have r1 := Int.emod_nonneg (b - 1) (show y.D ≠ 0 by omega)
  have r2 := Int.emod_lt_of_pos (b - 1) (show 0 < y.D by omega)
  have v0 : m.val n y.bm = B := by rw [Mm.val_eq (by omega) (by omega), hBB]
  have l0 : ∀ e, (m.acc n 1 y.bm B).g e = m.g e := fun e => by rw [← v0, Mm.acc_ld]
  have v1 : (m.acc n 1 y.bm B).val n (Tq y v + 1) = b := by rw [Mm.val_eq (by omega) (by omega), l0, hbb]
  have l1 : ∀ e, ((m.acc n 1 y.bm B).acc n 1 (Tq y v + 1) b).g e = m.g e := fun e => by rw [← v1, Mm.acc_ld, l0]
  have v2 : ((m.acc n 1 y.bm B).acc n 1 (Tq y v + 1) b).val n (Tq y v) = t := by rw [Mm.val_eq (by omega) (by omega), l1, htt]
  have l2 : ∀ e, (((m.acc n 1 y.bm B).acc n 1 (Tq y v + 1) b).acc n 1 (Tq y v) t).g e = m.g e := fun e => by rw [← v2, Mm.acc_ld, l1]
  have hs : ¬ sz b t ≤ 0 := by rw [sz_eq (by omega)]; omega
  generalize hm3 : ((m.acc n 1 y.bm B).acc n 1 (Tq y v + 1) b).acc n 1 (Tq y v) t = m3 at *
  have w1 : IntKind.u64.wrap (b - 1) = b - 1 := wu64 (by omega)
  have w2 : IntKind.u64.wrap (t + 1) = t + 1 := wu64 (by omega)
  have l3 : ∀ e : Nat, (m3.acc n 2 (Tq y v + 1) (b - 1)).g e = if (e : Int) = Tq y v + 1 then b - 1 else m.g e := fun e => by
    by_cases c : (e : Int) = Tq y v + 1
    · rw [if_pos c, Mm.acc_eq (by omega) (by omega) c]
    · rw [if_neg c, Mm.acc_ne c, l2]
  have v4 : (m3.acc n 2 (Tq y v + 1) (b - 1)).val n (Tq y v) = t := by rw [Mm.val_eq (by omega) (by omega), l3, if_neg (by omega), htt]
  have l4 : ∀ e, ((m3.acc n 2 (Tq y v + 1) (b - 1)).acc n 1 (Tq y v) t).g e = (m3.acc n 2 (Tq y v + 1) (b - 1)).g e := fun e => by rw [← v4, Mm.acc_ld]
  have hs2 : sz (b - 1) t = 0 := by rw [sz_eq (by omega)]; omega
  have hr : ringC (Tq y v + 2) y.D (b - 1) = Tq y v + 2 + (b - 1) % y.D := ringC_eq (by omega) (by omega) (by omega)
  generalize hm4 : (m3.acc n 2 (Tq y v + 1) (b - 1)).acc n 1 (Tq y v) t = m4 at *
  have v5 : m4.val n (Tq y v) = t := by rw [Mm.val_eq (by omega) (by omega), l4, l3, if_neg (by omega), htt]
  have hh : m4.hit n (Tq y v) t = true := by rw [Mm.hit_val (by omega) (by omega), l4, l3, if_neg (by omega), htt]; exact decide_eq_true rfl
  have l5 : ∀ e : Nat, ((m4.acc n 3 (Tq y v) (t + 1)).acc n 2 (Tq y v + 1) b).g e = if (e : Int) = Tq y v then t + 1 else m.g e := fun e => by
    by_cases c : (e : Int) = Tq y v + 1
    · rw [Mm.acc_eq (by omega) (by omega) c, if_neg (by omega), ← hbb]
      congr 1
      omega
    · rw [Mm.acc_ne c]
      by_cases c2 : (e : Int) = Tq y v
      · rw [if_pos c2, Mm.acc_eq (by omega) (by omega) c2]
      · rw [if_neg c2, Mm.acc_ne c2, l4, l3, if_neg c]
  generalize hR : m.g (Tq y v + 2 + (b - 1) % y.D).toNat = R at *
  have v6 : ((m4.acc n 3 (Tq y v) (t + 1)).acc n 2 (Tq y v + 1) b).val n (Tq y v + 2 + (b - 1) % y.D) = R := by rw [Mm.val_eq (by omega) (by omega), l5, if_neg (by omega), hR]
  refine ⟨((m4.acc n 3 (Tq y v) (t + 1)).acc n 2 (Tq y v + 1) b).acc n 1 (Tq y v + 2 + (b - 1) % y.D) R, ?_, fun e => ?_⟩
  · have hB0 : ¬ B = 0 := by omega
    simp [popRun, aRun, popStep, po0, ha, v0, hB0, f1, hq, v1, v2, hs, hm3, w1, w2, v4, hs2, hm4, v5, hh, casV, hr, v6]
    omega
  · rw [← v6, Mm.acc_ld, l5]
end
theorem bitN_zero {v : Nat} : ¬ bitN 0 v := by unfold bitN; simp
section
variable {y : Ly} {n L : Nat} {m m' : Mm}
/-- Other cells than the indexes and the bits do not matter; other bits, if those of the deques that have entries are there. -/
theorem Wf.of (h : Qp y n L) (hw : Wf y n L m) {C : Int} (hok : ∀ e, 0 ≤ m'.g e ∧ m'.g e ≤ 18446744073709551615) (ht : ∀ v, v < L → m'.g (Tq y v).toNat = m.g (Tq y v).toNat ∧ m'.g (Tq y v + 1).toNat = m.g (Tq y v + 1).toNat)
    (hC : m'.g y.bm.toNat = C) (hC2 : 0 ≤ C ∧ C < 2 ^ L) (hb : ∀ v, v < L → m.g (Tq y v).toNat < m.g (Tq y v + 1).toNat → bitN C v) : Wf y n L m' :=
  ⟨hok, fun v hv => by rw [(ht v hv).1, (ht v hv).2]; exact hw.t v hv, by rw [hC]; exact hC2, fun v hv hl => by rw [hC]; rw [(ht v hv).1, (ht v hv).2] at hl; exact hb v hv hl⟩
/-- What a Pop alone leads to. -/
def PopRes (y : Ly) (L : Nat) (m : Mm) (R : Rs) : Prop :=
  (R.c = 2 ∧ (∀ v, v < L → m.g (Tq y v + 1).toNat = m.g (Tq y v).toNat) ∧ ∀ e : Nat, R.m.g e = if (e : Int) = y.bm then 0 else m.g e) ∨
  (R.c = 1 ∧ ∃ v, v < L ∧ m.g (Tq y v).toNat < m.g (Tq y v + 1).toNat ∧ (∀ u, v < u → u < L → m.g (Tq y u + 1).toNat = m.g (Tq y u).toNat) ∧
    R.v = IntKind.i64.wrap (m.g (Tq y v + 2 + (m.g (Tq y v + 1).toNat - 1) % y.D).toNat) ∧ ∃ B : Int, (0 ≤ B ∧ B < 2 ^ L) ∧ (∀ u, u < L → m.g (Tq y u).toNat < m.g (Tq y u + 1).toNat → bitN B u) ∧
    ∀ e : Nat, R.m.g e = if (e : Int) = y.bm then B else if (e : Int) = (if m.g (Tq y v).toNat + 1 < m.g (Tq y v + 1).toNat then Tq y v + 1 else Tq y v) then (if m.g (Tq y v).toNat + 1 < m.g (Tq y v + 1).toNat then m.g (Tq y v + 1).toNat - 1 else m.g (Tq y v).toNat + 1) else m.g e)
theorem pop_run (h : Qp y n L) : ∀ j, j ≤ L → ∀ (m : Mm) (lv : Int) (k f : Nat), Wf y n L m → (m.g y.bm.toNat).toNat < 2 ^ j → 6 * j + 9 ≤ f → PopRes y L m (popRun y n 0 f (po0 lv k m)) := by
  intro j
  induction j using Nat.strongRecOn with
  | _ j ih =>
  intro hj m lv k f hw hlt hf
  have hB := h.hbm
  have hp := pow_le h.hLs
  have hB2 := hw.B
  by_cases h0 : m.g y.bm.toNat = 0
  · obtain ⟨f', rfl⟩ : ∃ f', f = f' + 1 := ⟨f - 1, by omega⟩
    have hn := h.beg (v := 0)
    have hn2 := h.hn
    have hn3 : (0 : Int) ≤ (L : Int) * (2 + y.D) := Int.mul_nonneg (by omega) (by have := h.hD; omega)
    rw [pop_none h h0]
    refine .inl ⟨rfl, fun v hv => ?_, fun e => ?_⟩
    · have h1 := hw.bit v hv
      have h2 := hw.t v hv
      rw [h0] at h1
      by_cases hc : m.g (Tq y v).toNat < m.g (Tq y v + 1).toNat
      · exact absurd (h1 hc) bitN_zero
      · omega
    · show (m.acc n 1 y.bm 0).g e = _
      by_cases c : (e : Int) = y.bm
      · rw [if_pos c, Mm.acc_eq (by omega) (by omega) c]
      · rw [if_neg c, Mm.acc_ne c]
  · have hF : (m.g y.bm.toNat).toNat < 64 := by omega
    obtain ⟨⟨v, hv6⟩, t1, t2⟩ := top_fin ⟨(m.g y.bm.toNat).toNat, hF⟩ (by show 0 < (m.g y.bm.toNat).toNat; omega)
    simp only at t1 t2
    have hvj : v < j := by
      rcases Nat.lt_or_ge v j with hc | hc
      · exact hc
      · have := Nat.pow_le_pow_right (show 0 < 2 by omega) hc
        omega
    have hv : v < L := by omega
    have hup : ∀ u, v < u → u < L → m.g (Tq y u + 1).toNat = m.g (Tq y u).toNat := fun u h1 h2 => by
      have h3 := hw.t u h2
      by_cases hc : m.g (Tq y u).toNat < m.g (Tq y u + 1).toNat
      · have h4 := hw.bit u h2 hc
        have h5 := (sub_fin ⟨(m.g y.bm.toNat).toNat, hF⟩ ⟨v, hv6⟩ ⟨u, by have := h.hLs; omega⟩ t1 t2).2.2.1 h1
        unfold bitN at h4
        simp only at h5
        omega
      · omega
    have ht := hw.t v hv
    have hb := h.beg (v := v)
    have hE := h.end hv
    have hD := h.hD
    by_cases he : m.g (Tq y v + 1).toNat = m.g (Tq y v).toNat
    · obtain ⟨f', rfl⟩ : ∃ f', f = f' + 6 := ⟨f - 6, by omega⟩
      obtain ⟨m', e1, e2⟩ := pop_skip (lv := lv) (k := k) (f := f') h hw hv t1 t2 he
      have hpos : 0 < 2 ^ v := Nat.pow_pos (by omega)
      have e3 : m'.g y.bm.toNat = m.g y.bm.toNat - (2 ^ v : Nat) := by rw [e2, if_pos (by omega)]
      have e4 : ∀ e : Nat, (e : Int) ≠ y.bm → m'.g e = m.g e := fun e hc => by rw [e2, if_neg hc]
      have e5 : ∀ u, u < L → m'.g (Tq y u).toNat = m.g (Tq y u).toNat ∧ m'.g (Tq y u + 1).toNat = m.g (Tq y u + 1).toNat := fun u hu => by
        have := h.beg (v := u)
        exact ⟨e4 _ (by omega), e4 _ (by omega)⟩
      have hbits : ∀ u, u < L → m.g (Tq y u).toNat < m.g (Tq y u + 1).toNat → bitN (m.g y.bm.toNat - (2 ^ v : Nat)) u := fun u hu hl => by
        have h4 := hw.bit u hu hl
        have hne : u ≠ v := fun e => by subst e; omega
        have h5 := (sub_fin ⟨(m.g y.bm.toNat).toNat, hF⟩ ⟨v, hv6⟩ ⟨u, by have := h.hLs; omega⟩ t1 t2).1 (fun e => hne (by simpa using e))
        simp only at h5
        unfold bitN at h4 ⊢
        rw [show (m.g y.bm.toNat - ((2 ^ v : Nat) : Int)).toNat = (m.g y.bm.toNat).toNat - 2 ^ v by omega, h5]
        exact h4
      have hw' : Wf y n L m' := Wf.of h hw (fun e => by
        rw [e2]
        split
        · have := hw.ok y.bm.toNat; omega
        · exact hw.ok e) e5 e3 (by omega) hbits
      have hlt' : (m'.g y.bm.toNat).toNat < 2 ^ v := by
        rw [e3]
        have : 2 ^ (v + 1) = 2 ^ v * 2 := Nat.pow_succ ..
        omega
      have r := ih v hvj (by omega) m' v (k + 6) f' hw' hlt' (by omega)
      rw [e1]
      rcases r with ⟨r1, r2, r3⟩ | ⟨r1, u, r2, r3, r4, r5, B, r6, r7, r8⟩
      · refine .inl ⟨r1, fun u hu => ?_, fun e => ?_⟩
        · rw [← (e5 u hu).1, ← (e5 u hu).2]; exact r2 u hu
        · rw [r3]
          split
          · rfl
          · rename_i hc; exact e4 e hc
      · have hu := h.beg (v := u)
        have huE := h.end r2
        simp only [(e5 u r2).1, (e5 u r2).2] at r3 r5 r8
        have hm1 := Int.emod_nonneg (m.g (Tq y u + 1).toNat - 1) (show y.D ≠ 0 by omega)
        refine .inr ⟨r1, u, r2, r3, fun w h1 h2 => ?_, ?_, B, r6, fun w h1 h2 => ?_, fun e => ?_⟩
        · rw [← (e5 w h2).1, ← (e5 w h2).2]; exact r4 w h1 h2
        · rw [r5, e4 _ (by omega)]
        · exact r7 w h1 (by rw [(e5 w h1).1, (e5 w h1).2]; exact h2)
        · rw [r8]
          by_cases c : (e : Int) = y.bm
          · rw [if_pos c, if_pos c]
          · rw [if_neg c, if_neg c, e4 e c]
    · by_cases h1 : m.g (Tq y v).toNat + 1 < m.g (Tq y v + 1).toNat
      · obtain ⟨f', rfl⟩ : ∃ f', f = f' + 6 := ⟨f - 6, by omega⟩
        obtain ⟨m', e1, e2⟩ := pop_more (lv := lv) (k := k) (f := f') h hw hv t1 t2 h1
        rw [e1]
        refine .inr ⟨rfl, v, hv, by omega, hup, rfl, m.g y.bm.toNat, hB2, fun u hu hl => hw.bit u hu hl, fun e => ?_⟩
        simp only [if_pos h1]
        show m'.g e = _
        rw [e2]
        by_cases c : (e : Int) = y.bm
        · rw [if_pos c, if_neg (by omega), ← c]; rfl
        · rw [if_neg c]
      · obtain ⟨f', rfl⟩ : ∃ f', f = f' + 8 := ⟨f - 8, by omega⟩
        obtain ⟨m', e1, e2⟩ := pop_last (lv := lv) (k := k) (f := f') h hw hv t1 t2 (by omega)
        rw [e1]
        refine .inr ⟨rfl, v, hv, by omega, hup, rfl, m.g y.bm.toNat, hB2, fun u hu hl => hw.bit u hu hl, fun e => ?_⟩
        simp only [if_neg h1]
        show m'.g e = _
        rw [e2]
        by_cases c : (e : Int) = y.bm
        · rw [if_pos c, if_neg (by omega), ← c]; rfl
        · rw [if_neg c]
theorem pop_res (h : Qp y n L) (hw : Wf y n L m) {M : Nat} (hM : 45 ≤ M) : PopRes y L m (popR y n 0 M m) := by
  have hp := pow_le h.hLs
  have hB2 := hw.B
  exact pop_run h L (Nat.le_refl _) m 0 0 M hw (by have h2 : ((2 ^ L : Nat) : Int) = (2 : Int) ^ L := Int.natCast_pow ..; omega) (by have := h.hLs; omega)
end
end Go.Proofs.Ytomaagmleafjeaa.Md
