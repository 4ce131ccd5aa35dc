/- ProbeBest: the law. -/
import Derived.Test.YtjpnpaboahbncaaPqTrees
set_option linter.unusedVariables false
set_option linter.unusedSimpArgs false
set_option maxRecDepth 100000
namespace Go.Proofs.Ytjpnpaboahbncaa.Pb
open Go Go.RowKit Sx Cn

/-- What has been chosen after k looks. -/
theorem cho_spec (g : Nat → Int) (n : Nat) (self st : Int) : ∀ k,
    (cho g n self st k = (-1, -1) ∧ ∀ i, i < k → vic n st i ≠ self → Cn.hi (g (vic n st i).toNat) ≤ -1) ∨
    (∃ j, j < k ∧ (cho g n self st k).1 = vic n st j ∧ vic n st j ≠ self ∧ (cho g n self st k).2 = Cn.hi (g (vic n st j).toNat) ∧ 0 ≤ (cho g n self st k).2 ∧
      (∀ i, i < k → vic n st i ≠ self → Cn.hi (g (vic n st i).toNat) ≤ (cho g n self st k).2) ∧ ∀ i, i < j → vic n st i ≠ self → Cn.hi (g (vic n st i).toNat) < (cho g n self st k).2)
  | 0 => .inl ⟨rfl, fun i hi => by omega⟩
  | k + 1 => by
    have ih := cho_spec g n self st k
    have low : -1 ≤ (cho g n self st k).2 := by
      rcases ih with ⟨h, _⟩ | ⟨j, _, _, _, _, h, _⟩
      · rw [h]; decide
      · omega
    by_cases hc : vic n st k ≠ self ∧ (cho g n self st k).2 < Cn.hi (g (vic n st k).toNat)
    · rw [cho_yes hc]
      refine .inr ⟨k, by omega, rfl, hc.1, rfl, by simp only; omega, fun i hi hs => ?_, fun i hi hs => ?_⟩
      · simp only
        rcases Nat.lt_or_ge i k with h1 | h1
        · rcases ih with ⟨h, h2⟩ | ⟨j, _, _, _, _, _, h2, _⟩
          · have := h2 i h1 hs; rw [h] at hc; have := hc.2; simp only at this; omega
          · have := h2 i h1 hs; have := hc.2; omega
        · have : i = k := by omega
          subst this; exact Int.le_refl _
      · simp only
        rcases ih with ⟨h, h2⟩ | ⟨j, _, _, _, _, _, h2, _⟩
        · have := h2 i hi hs; rw [h] at hc; have := hc.2; simp only at this; omega
        · have := h2 i hi hs; have := hc.2; omega
    · rw [cho_no hc]
      rcases ih with ⟨h, h2⟩ | ⟨j, h1, h2, h3, h4, h5, h6, h7⟩
      · refine .inl ⟨h, fun i hi hs => ?_⟩
        rcases Nat.lt_or_ge i k with h1 | h1
        · exact h2 i h1 hs
        · have : i = k := by omega
          subst this
          rw [h] at hc
          have : ¬ (-1 < Cn.hi (g (vic n st i).toNat)) := fun h => hc ⟨hs, h⟩
          omega
      · refine .inr ⟨j, by omega, h2, h3, h4, h5, fun i hi hs => ?_, h7⟩
        rcases Nat.lt_or_ge i k with h1' | h1'
        · exact h6 i h1' hs
        · have : i = k := by omega
          subst this
          have : ¬ ((cho g n self st i).2 < Cn.hi (g (vic n st i).toNat)) := fun h => hc ⟨hs, h⟩
          omega
theorem ear_met {n : Nat} {v st : Int} {j : Nat} (h : vic n st j = v) : ∀ {i : Nat}, j < i → ear n v st i = false
  | 0, hi => by omega
  | i + 1, hi => by
    unfold ear
    split
    · rfl
    · rename_i hne
      have : j ≠ i := by rintro rfl; exact hne h
      exact ear_met h (by omega)
theorem vic_add {n i : Nat} {st : Int} (hn : 1 ≤ n) (hn' : n ≤ 64) (h0 : 0 ≤ st ∧ st ≤ 255) (hi : i ≤ n) : (IntKind.i64.wrap (IntKind.i64.wrap st + ↑i)).tmod ↑n = vic n st i := by
  rw [w64 (n := st) (by omega), w64 (by omega), Int.tmod_eq_emod_of_nonneg (by omega)]
  unfold vic
  rw [dr_pos (by omega), Int.emod_add_emod]
theorem sf_range {n : Nat} {s8 : Int} (hn : 1 ≤ n) (h0 : 0 ≤ s8 ∧ s8 ≤ 255) : 0 ≤ sf n s8 ∧ sf n s8 < n := by
  unfold sf
  rw [w64 (by omega), Int.tmod_eq_emod_of_nonneg (by omega)]
  exact ⟨Int.emod_nonneg _ (by omega), Int.emod_lt_of_pos _ (by omega)⟩

theorem round5_ok (n cap : Nat) (g : Nat → Int) (s8 st : Int) (i : Nat) (hx : I5 n g s8 st i) (K : Ex × St → Prop) (hA : A5.holds K) :
    Holds (round5 n cap g s8 st i) (RoundEnd (J5 n cap g s8 st) (I5 n g s8 st) (fun i => n - i) 1 1 K i) := by
  constructor
  rw [round5_eq]
  obtain ⟨⟨hn1, hn⟩, hu, h8, hst, hin⟩ := hx
  simp only [Out.holds, Int.ofNat_eq_natCast, Nat.zero_add]
  refine ⟨fun a => ?_, fun a => ?_⟩
  · have a := of_decide_eq_true a
    have hlt : i < n := by omega
    simp only [vic_add (i := i) hn1 hn hst (by omega)]
    have hv := vic_range (st := st) hlt
    have hg := hu (vic n st i).toNat (by omega)
    have e3 : IntKind.i64.wrap ((i : Int) + ((1 : Nat) : Int)) = ((i + 1 : Nat) : Int) := w64 (by omega)
    have fin : ∀ c : SC, (∀ ρ, c.den ρ = .bool (ear n (best n g s8 st).1 st (i + 1))) → leSC c (.bv (ear n (best n g s8 st).1 st (i + 1))) →
        RoundEnd (J5 n cap g s8 st) (I5 n g s8 st) (fun i => n - i) 1 1 K i (Ex.normal, ⟨tms 121 [(0, slc0 n cap), (1, .c (.iv .u8 s8)), (2, .c (.iv .u8 st)), (7, iv n), (8, iv (best n g s8 st).1), (9, iv (best n g s8 st).2), (10, .c c), (11, iv (IntKind.i64.wrap ((i : Int) + ((1 : Nat) : Int))))], ⟨hp0 n g, 1, fun _ => True⟩⟩) := by
      intro c _ hc
      exact ⟨i + 1, [], ⟨⟨hn1, hn⟩, hu, h8, hst, by omega⟩, (by show n - (i + 1) < n - i; omega), rfl, rfl, ⟨⟨⟨rfl, rfl, rfl, rfl, rfl, rfl⟩, ⟨rfl, rfl⟩, ⟨rfl, rfl⟩, ⟨rfl, rfl⟩, ⟨rfl, rfl⟩, ⟨rfl, rfl⟩, hc, ⟨rfl, e3⟩, trivial⟩, view_le, trivial⟩, rfl⟩
    have spec := cho_spec g n (sf n s8) (IntKind.i64.wrap st) n
    rw [w64 (n := st) (by omega)] at spec
    have hb : cho g n (sf n s8) st n = best n g s8 st := by unfold best; rw [w64 (n := st) (by omega)]
    rw [hb] at spec
    have yes : vic n st i = (best n g s8 st).1 → ear n (best n g s8 st).1 st (i + 1) = false := fun h => if_pos h
    have no : vic n st i ≠ (best n g s8 st).1 → ear n (best n g s8 st).1 st (i + 1) = ear n (best n g s8 st).1 st i := fun h => if_neg h
    refine ⟨by omega, fun b => ?_, fun b => ?_⟩
    · have b : vic n st i = (best n g s8 st).1 := by simpa using b
      have e := yes b
      have f0 := fin (.kb false) (fun ρ => by rw [e]; rfl) (by rw [e]; rfl)
      refine ⟨⟨by omega, by omega⟩, ⟨by omega, by omega⟩, ⟨by omega, by omega⟩, ⟨by omega, by omega⟩, by omega, fun c => ⟨fun d => ?_, fun d => f0⟩, fun c => f0⟩
      simp [b] at d
    · have b : vic n st i ≠ (best n g s8 st).1 := by simpa using b
      have e := no b
      refine ⟨⟨by omega, by omega⟩, ⟨by omega, by omega⟩, ⟨by omega, by omega⟩, ⟨by omega, by omega⟩, by omega, fun c => ⟨fun d => ⟨fun f => ?_, fun f => ⟨fun h => ⟨fun k => ⟨fun m => ?_, fun m => ?_⟩, fun k => ?_⟩, fun h => ?_⟩⟩, fun d => ?_⟩, fun c => ?_⟩
      · exfalso
        have c : vic n st i ≠ sf n s8 := by simpa [sf] using c
        have f := of_decide_eq_true f
        rcases spec with ⟨h1, h2⟩ | ⟨j, _, _, _, _, _, h2, _⟩
        · have := h2 i hlt c; rw [h1] at f; simp only at f; omega
        · have := h2 i hlt c; omega
      · exfalso
        have c : vic n st i ≠ sf n s8 := by simpa [sf] using c
        have h := eq_of_beq h
        have m := of_decide_eq_true m
        rcases spec with ⟨h1, h2⟩ | ⟨j, h1, h2, h3, h4, h5, h6, h7⟩
        · rw [h1] at m; simp only at m; omega
        · rcases Nat.lt_trichotomy i j with q | q | q
          · have := h7 i q c; omega
          · subst q; exact b h2.symm
          · rw [ear_met h2.symm q] at k; cases k
      all_goals exact fin (.bv _) (fun ρ => by rw [e]; rfl) (by rw [e]; rfl)
  · have a := of_decide_eq_false a
    have : i = n := by omega
    subst this
    exact ⟨F5, [], ⟨rfl, rfl, ⟨trivial, trivial⟩, rfl⟩, rfl, Nat.le_refl _, hA⟩

theorem main5_yes (n cap : Nat) (g : Nat → Int) (s8 st : Int) (hu : U64 n g) (h8 : 0 ≤ s8 ∧ s8 ≤ 255) (hst : 0 ≤ st ∧ st ≤ 255) : Yes (main5 n cap g s8 st) := by
  constructor
  rw [main5_eq]
  have hb : cho (fun e => g e) n ((IntKind.i64.wrap s8).tmod ↑n) (IntKind.i64.wrap st) n = best n g s8 st := rfl
  simp only [hb, Out.holds, Int.ofNat_eq_natCast, Nat.zero_add]
  refine ⟨fun _ ρ => rfl, fun a => ⟨fun _ ρ => rfl, fun b => ?_⟩⟩
  have a : n ≠ 0 := by intro h; subst h; simp at a
  have b := of_decide_eq_false b
  have hn : n ≤ 64 := by omega
  have hs := sf_range (n := n) (by omega) h8
  have facts : best n g s8 st = (-1, -1) ∨ ((0 ≤ (best n g s8 st).1 ∧ (best n g s8 st).1 < n) ∧ (best n g s8 st).1 ≠ sf n s8 ∧ (best n g s8 st).2 = Cn.hi (g (best n g s8 st).1.toNat) ∧ 0 ≤ (best n g s8 st).2) := by
    rcases cho_spec g n (sf n s8) (IntKind.i64.wrap st) n with ⟨h, _⟩ | ⟨j, h1, h2, h3, h4, h5, _⟩
    · exact .inl h
    · have hv := vic_range (st := IntKind.i64.wrap st) h1
      have e : best n g s8 st = cho g n (sf n s8) (IntKind.i64.wrap st) n := rfl
      rw [← e] at h2 h4 h5
      exact .inr ⟨by rw [h2]; exact hv, by rw [h2]; exact h3, by rw [h2]; exact h4, h5⟩
  have hsf : (IntKind.i64.wrap s8).tmod ↑n = sf n s8 := rfl
  simp only [hsf]
  have low : -1 ≤ (best n g s8 st).1 ∧ (best n g s8 st).1 < n ∧ (best n g s8 st).1 ≠ sf n s8 := by
    rcases facts with h | ⟨h, h', _⟩
    · rw [h]; simp only; omega
    · exact ⟨by omega, h.2, h'⟩
  have inv0 : I5 n g s8 st 0 := ⟨⟨by omega, hn⟩, hu, h8, hst, Nat.zero_le _⟩
  refine ⟨by omega, by simp [sf], ⟨by omega, hu⟩, by simp, fun c => ?_, fun _ => ⟨fun c => ?_, fun _ => ⟨by exact_mod_cast a, fun c => ?_, fun _ => ⟨fun c => ?_, fun _ => ⟨fun c => ⟨⟨of_decide_eq_true c, low.2.1⟩, ⟨by decide, ?_⟩, ⟨by decide, ?_⟩, ?_, fun d => ?_, fun _ => ?_⟩, fun _ => ?_⟩⟩⟩⟩⟩
  · have c := of_decide_eq_true c; omega
  · have c := of_decide_eq_true c; omega
  · have c := eq_of_beq c; exact absurd c low.2.2
  · exfalso
    rcases facts with h | ⟨h, h1, h2, h3⟩
    · rw [h] at c; simp at c
    · have e1 : ((best n g s8 st).1 == -((1 : Nat) : Int)) = false := by simp; omega
      have e2 : ((best n g s8 st).2 == -((1 : Nat) : Int)) = false := by simp; omega
      rw [e1, e2] at c; simp at c
  · have c := of_decide_eq_true c; omega
  · have c := of_decide_eq_true c; omega
  · have c := of_decide_eq_true c
    have := hu (best n g s8 st).1.toNat (by omega)
    exact ⟨by omega, by omega⟩
  · exfalso
    have c := of_decide_eq_true c
    rcases facts with h | ⟨h, h1, h2, h3⟩
    · rw [h] at c; simp at c
    · simp [← h2] at d
  · refine ⟨⟨inv0, ?_⟩, fun ρ => rfl⟩
    simp [ear]
  · refine ⟨⟨inv0, ?_⟩, fun ρ => rfl⟩
    simp [ear]
theorem call5 (n cap : Nat) (g : Nat → Int) (s8 st : Int) : CallOK P (execA P con5 5 [ann5 n cap g s8 st] 3 4) :=
  execA_ok (u := 3) con5_ok (fits1 (x := ann5 n cap g s8 st) (loopA_ok con5_ok (u := 3) (nf := 3) (J := J5 n cap g s8 st) (I := I5 n g s8 st) (m0 := 1) (A := A5) (pat := fun i => patOf (J5 n cap g s8 st i) 121 []) (fun i => n - i) 1 (Nat.le_refl _) (fun _ => rfl) (fun _ => rfl) (fun _ => rfl) (fun i hi K hA => round5_ok n cap g s8 st i hi K hA))) 4
theorem walk5 (a : Option Addr) (len cap : Nat) (g : Nat → Int) (s8 st : Int) (w : World) (h : IsInts .u64 w a len cap g) (h1 : (Lit.int .u8 s8).wf = true) (h2 : (Lit.int .u8 st).wf = true) :
    Calls P 5 #[.slice a len cap, .int .u8 s8, .int .u8 st] w fun e w' => e = .returned (.bool true) ∧ Below w.heap.size w w' :=
  calls_yes (vs := [.slice a len cap, .int .u8 s8, .int .u8 st]) (call5 len cap g s8 st)
    (args := [slc0 len cap, .c (.iv .u8 s8), .c (.iv .u8 st)]) (h := hp0 len g) (n := 1) (ρ := tabR [addr0 a]) (o := main5 len cap g s8 st) rfl
    (main5_yes len cap g s8 st (fun e he => wf_u64 (h.fits e he)) (wf_u8 h1) (wf_u8 h2))
    (views_inv fun k b hk => by
      have : k = 0 ∧ b = ints .u64 len g := by
        simp only [hp0, find_cons, find] at hk
        split at hk
        · cases hk; exact ⟨‹_›, rfl⟩
        · cases hk
      obtain ⟨rfl, rfl⟩ := this
      exact ⟨rfl, by decide, h.sat rfl⟩)
    ⟨h.val, fun _ _ => rfl, fun _ _ => rfl, trivial⟩
end Go.Proofs.Ytjpnpaboahbncaa.Pb
