/- LayoutOutside: the law, and the walk. -/
import Derived.Test.YtjpnpaboahbncaaLyTrees
set_option linter.unusedVariables false
set_option linter.unusedSimpArgs false
set_option maxRecDepth 100000
set_option maxHeartbeats 8000000
namespace Go.Proofs.Ytjpnpaboahbncaa.Ly
open Go Go.RowKit Sx Cn Dc Ck
theorem atF_out {j n f w : Int} (h : j < 0 ∨ n ≤ j) : atF j n f w = -1 := if_pos h
theorem qT_out {l : Lo} {w v : Int} (h : (w < 0 ∨ l.W ≤ w) ∨ (v < 0 ∨ l.L ≤ v)) : qT l w v = -1 := by
  unfold qT
  rcases h with h | h
  · rw [if_pos]; unfold qF; rw [atF_out h]; decide
  · split
    · rfl
    · exact atF_out h
theorem main8_yes (g : Nat → Int) (len cap : Nat) (i : Int) (hu : U8 len g) (hi : Fit i) : Yes (main8 g len cap i) := by
  constructor
  rw [main8_eq]
  generalize hgg : (fun e => g e) = g2
  obtain rfl : g = g2 := hgg
  have hW := dW_r hu; have hL := dL_r hu; have hC := dC_r hu; have hT := dT_r hu; have hD := dD_r hu; have hH := dH_r hu
  have hn := nP_eq hu; have hN := dN_r hu; have hUn := nU_le hu
  obtain ⟨hi1, hi2⟩ := hi
  have hX := mulb (a := dW g len) (b := dL g len) (A := 4) (B := 4) (by omega) hW.2 (by omega) hL.2
  have hY := mulb (a := dW g len * dL g len) (b := 2 + dD g len) (A := 16) (B := 6) hX.1 (by omega) (by omega) (by omega)
  have hlT : 0 ≤ loT (dH g len) (dC g len) (dW g len) (dL g len) (dD g len) ∧ loT (dH g len) (dC g len) (dW g len) (dL g len) (dD g len) ≤ 1000 := by unfold loT; omega
  have hokL : okL ⟨dW g len, dL g len, dC g len, dT g len, dD g len, dH g len, loS (dH g len), loE (dH g len) (dC g len), loB (dH g len) (dC g len) (dW g len), loQ (dH g len) (dC g len) (dW g len), loT (dH g len) (dC g len) (dW g len) (dL g len) (dD g len)⟩ := by
    refine ⟨?_, ?_, ?_, ?_⟩ <;> simp only [loQ] <;> omega
  have n0 : Int.negSucc 0 = -1 := rfl
  have k0 : ((0 : Nat) : Int) = 0 := rfl
  have k1 : ((1 : Nat) : Int) = 1 := rfl
  have k4 : ((4 : Nat) : Int) = 4 := rfl
  have k5 : ((5 : Nat) : Int) = 5 := rfl
  have k1000 : ((1000 : Nat) : Int) = 1000 := rfl
  simp only [Out.holds, eq_self, true_and, and_true, Nat.le_refl, implies_true, Int.ofNat_eq_natCast, Nat.lt_add_one, gt_iff_lt, ge_iff_le, Nat.zero_lt_one, decide_eq_true_eq, decide_eq_false_iff_not, Bool.not_eq_true', Bool.not_eq_false', n0, k0, k1, k4, k5, k1000, hokL]
  refine ⟨fun _ ρ => rfl, fun hlen => ⟨hu, ⟨fun e => lenP g len e, fun e _ => Nat.le_refl _⟩, fun FC hF => ⟨⟨_, Nat.le_refl _⟩, fun rc hrc => ⟨⟨_, Nat.le_refl _⟩, fun c10 hc => ?_⟩⟩⟩⟩
  have lo1 : loS (dH g len) = 4 + dH g len := rfl
  have lo2 : loE (dH g len) (dC g len) = 4 + dH g len + dC g len := rfl
  have lo3 : loB (dH g len) (dC g len) (dW g len) = 4 + dH g len + dC g len + dW g len := rfl
  have hgd : ∀ A : Nat → Nat, ∀ a, a < nP g len → gd (nP g len) A a = A a := fun A a h => if_pos h
  refine ⟨⟨hrc, hc, fun a ha => ⟨Nat.le_of_eq (hgd _ a ha).symm, by rw [hgd _ a ha]; exact hF a ha⟩⟩, dec_ok hu rc c10 FC, fun h1 => ⟨fun h2 => ?_, fun h2 => ?_⟩, fun h1 => ?_⟩
  · have ej : IntKind.i64.wrap (-1 - i) = -1 - i := w64 (by omega)
    simp (discharger := first | omega | (simp only []; omega)) only [ej, atF_out, qT_out, beq_self_eq_true, Bool.and_self, Bool.true_and, Bool.and_true, if_true, Int.reduceNeg, Int.reduceLT, ↓reduceIte, Int.reduceAdd, Bool.true_eq_false, reduceCtorEq, false_implies, true_implies, forall_const, and_true, true_and]
    (repeat' first | exact True.intro | with_reducible rfl | apply And.intro | intro _)
    all_goals try omega
    all_goals rfl
  · clear hX hY
    simp (discharger := first | omega | (simp only []; omega)) only [atF_out, qT_out, beq_self_eq_true, Bool.and_self, Bool.true_and, Bool.and_true, if_true, Int.reduceNeg, Int.reduceLT, ↓reduceIte, Int.reduceAdd, Bool.true_eq_false, reduceCtorEq, false_implies, true_implies, forall_const, and_true, true_and]
    (repeat' first | exact True.intro | with_reducible rfl | apply And.intro | intro _)
    all_goals try omega
    all_goals rfl
  · clear hX hY
    simp (discharger := first | omega | (simp only []; omega)) only [atF_out, qT_out, beq_self_eq_true, Bool.and_self, Bool.true_and, Bool.and_true, if_true, Int.reduceNeg, Int.reduceLT, ↓reduceIte, Int.reduceAdd, Bool.true_eq_false, reduceCtorEq, false_implies, true_implies, forall_const, and_true, true_and]
    (repeat' first | exact True.intro | with_reducible rfl | apply And.intro | intro _)
    all_goals try omega
    all_goals rfl
theorem call8 (g : Nat → Int) (len cap : Nat) (i : Int) : CallOK P (execF P con10 noAnn 3 6) := execF_ok0 con10_ok 6
theorem walk8 (a : Option Addr) (len cap : Nat) (g : Nat → Int) (i : Int) (w : World) (h : IsInts .u8 w a len cap g) (h1 : (Lit.int .i64 i).wf = true) :
    Calls P 8 #[.slice a len cap, .int .i64 i] w fun e w' => e = .returned (.bool true) ∧ Below w.heap.size w w' :=
  calls_yes (vs := [.slice a len cap, .int .i64 i]) (call8 g len cap i)
    (args := [.c (slK 0 1 len cap), iv i]) (h := [(0, ints .u8 len g)]) (n := 1) (ρ := tabR [addr0 a]) (o := main8 g len cap i) rfl
    (main8_yes g len cap i (fun e he => wf_u8 (h.fits e he)) (wf_i64 h1))
    (views_inv fun k b hk => by
      have : k = 0 ∧ b = ints .u8 len g := by
        rw [find_cons] at hk
        split at hk
        · cases hk; exact ⟨‹_›, rfl⟩
        · exact absurd hk (by simp [find])
      obtain ⟨rfl, rfl⟩ := this
      exact ⟨rfl, by decide, h.sat rfl⟩)
    ⟨h.val, fun _ _ => rfl, trivial⟩
end Go.Proofs.Ytjpnpaboahbncaa.Ly
