/- DrainTakes, the plain law: from the filled injector to Drain's end. -/
import Derived.Test.YtomaagmleafjeaaGreatMMdDtR
set_option linter.unusedVariables false
set_option linter.unusedSimpArgs false
set_option linter.unusedVariables false
set_option linter.unusedSimpArgs false
set_option maxRecDepth 100000
namespace Go.Proofs.YtomaagmleafjeaaGreat.Md
open Go Go.RowKit Sx Cn Dc Ck Vc
/-- What the memory holds behind i insertions. -/
structure FI (tb : Int) (g : Nat → Int) (i : Nat) (m : Mm) : Prop where
  sz : m.g 2 = i
  ar : m.g 3 = i
  lk : m.g 1 = 0
  hk : Hk 8 i (kF g) (fun v => decide (v < i)) (fun j => m.g (4 + j))
  zero : ∀ e : Nat, 12 ≤ e → (e : Int) < tb → m.g e = 0
  lev : ∀ u : Nat, u < i → m.g (tb + u * 5 + 1).toNat = lF g u
  ok : ∀ e, 0 ≤ m.g e ∧ m.g e ≤ 18446744073709551615
section
variable {D tb : Int} {n N : Nat} {g : Nat → Int} {B : Int}
theorem fil_FI (hn : (n : Int) = tb + 40) (ht : 15 ≤ tb ∧ tb ≤ 1000) : ∀ {i : Nat}, i ≤ 8 → (∀ u, u < i → 0 ≤ g u) → FI tb g i (filM D tb n g i)
  | 0, _, _ => ⟨rfl, rfl, rfl, Hk.zero, fun _ _ _ => rfl, fun u hu => by omega, fun _ => by show (0 : Int) ≤ 0 ∧ (0 : Int) ≤ _; omega⟩
  | i + 1, hi, hg => by
    have h := fil_FI hn ht (i := i) (by omega) fun u hu => hg u (by omega)
    have e := ins_F (D := D) (tb := tb) (n := n) (g := g) (by omega) (by omega) h.sz h.ar
    have hl := lF_bd (hg i (by omega))
    show FI tb g (i + 1) (((inR (yF D tb) n (dF g i) i 200 (filM D tb n g i)).m.acc n 2 (tb + i * 5 + 1) (lF g i)).acc n 2 (tb + i * 5 + 0) 1)
    generalize filM D tb n g i = m at *
    generalize (inR (yF D tb) n (dF g i) i 200 m).m = m1 at *
    have lo : ∀ e : Nat, (e : Int) < tb → ((m1.acc n 2 (tb + i * 5 + 1) (lF g i)).acc n 2 (tb + i * 5 + 0) 1).g e = m1.g e := fun e he => by rw [Mm.acc_ne (by omega), Mm.acc_ne (by omega)]
    have hi12 : ∀ e : Nat, 12 ≤ e → m1.g e = m.g e := fun q hq => by
      rw [e, if_neg (by omega), if_neg (by omega), if_pos (by omega), up_ge (by omega)]
      show m.g (4 + (q - 4)) = _
      rw [show 4 + (q - 4) = q by omega]
    refine ⟨?_, ?_, ?_, ?_, fun q h1 h2 => ?_, fun u hu => ?_, ?_⟩
    · rw [lo 2 (by omega), e, if_pos rfl]; omega
    · rw [lo 3 (by omega), e, if_neg (by decide), if_pos rfl]; omega
    · rw [lo 1 (by omega), e, if_neg (by decide), if_neg (by decide), if_neg (by decide)]; exact h.lk
    · refine (h.hk.push (by omega) fun u v hu hv => kF_inj (by omega) (by omega)).cg fun j hj => ?_
      rw [lo _ (by omega), e, if_neg (by omega), if_neg (by omega), if_pos (by omega), show 4 + j - 4 = j by omega]
      rfl
    · rw [lo q h2, hi12 q h1]
      exact h.zero q h1 h2
    · by_cases c : u = i
      · subst c
        rw [Mm.acc_ne (by omega)]
        exact Mm.acc_eq (by omega) (by omega) (by omega)
      · rw [Mm.acc_ne (by omega), Mm.acc_ne (by omega), hi12 _ (by omega)]
        exact h.lev u (by omega)
    · refine Mm.ok_acc (Mm.ok_acc (fun q => ?_) (by omega)) (by omega)
      rw [e]
      have := h.ok q
      split
      · omega
      · split
        · omega
        · split
          · exact up_p (p := fun z => 0 ≤ z ∧ z ≤ 18446744073709551615) (fun q => h.ok _) (kF_ok (by omega)) _
          · exact this
theorem DI.start {tk : Nat → Nat} {S : Nat → Nat → Int} {l : El} {m' : Mm} (hD : 1 ≤ D ∧ D ≤ 64) (hn : (n : Int) = 61 + 3 * D) (ht : tb = 15 + 3 * (2 + D)) (hN : N ≤ 8) {m : Mm} (h : FI tb g N m) (hl : l.n = 0) (hg : ∀ e, e ≠ 1 → m'.g e = m.g e) (ho : ∀ e, 0 ≤ m'.g e ∧ m'.g e ≤ 18446744073709551615) : DI D tb n N g 0 m' l tk S := by
  have hQ := qpF (tb := tb) hD hn
  have z : ∀ e : Nat, 12 ≤ e → (e : Int) < tb → m'.g e = 0 := fun e h1 h2 => by rw [hg e (by omega)]; exact h.zero e h1 h2
  have zT : ∀ v, v < 3 → m'.g (Tq (yF D tb) v).toNat = 0 ∧ m'.g (Tq (yF D tb) v + 1).toNat = 0 := fun v hv => by
    have h1 := hQ.beg (v := v)
    have h1 : (15 : Int) ≤ Tq (yF D tb) v := h1
    have h2 : Tq (yF D tb) v + (2 + D) ≤ tb := by
      show (15 : Int) + v * (2 + D) + (2 + D) ≤ tb
      rcases v with _ | _ | _ | v
      · omega
      · omega
      · omega
      · omega
    exact ⟨z _ (by omega) (by omega), z _ (by omega) (by omega)⟩
  have zb : m'.g (yF D tb).bm.toNat = 0 := z 14 (by decide) (by show ((14 : Nat) : Int) < tb; omega)
  refine ⟨Nat.zero_le _, by rw [hg 2 (by decide)]; exact h.sz, z 12 (by decide) (by omega), ?_, fun i hi => by omega, fun u hu => ?_, ⟨⟨ho, fun v hv => ?_, ?_, fun v hv hl => ?_⟩, fun v hv => ?_, fun v j hv hj => ?_, fun v j hv hj => ?_⟩, fun v hv => (zT v hv).1, fun i hi => by omega, hl, fun i hi => by omega⟩
  · refine (h.hk.al (fun v hv => ?_) rfl).cg fun i hi => hg _ (by omega)
    show decide (v < N) = (decide (v < N) && !false)
    simp
  · rw [hg _ (by omega)]
    exact h.lev u hu
  · obtain ⟨a, b⟩ := zT v hv
    rw [a, b]
    exact ⟨by decide, by decide, by show (0 : Int) ≤ 0 + D; omega, by decide⟩
  · rw [zb]
    exact ⟨by decide, by decide⟩
  · obtain ⟨a, b⟩ := zT v hv
    rw [a, b] at hl
    omega
  · obtain ⟨a, b⟩ := zT v hv
    rw [a, b]
    rfl
  · have : cntL (lvF g) tk 0 v = 0 := rfl
    omega
  · have : cntL (lvF g) tk 0 v = 0 := rfl
    omega
theorem DI.lk {j : Nat} {m m' : Mm} {l : El} {tk : Nat → Nat} {S : Nat → Nat → Int} (hD : 1 ≤ D ∧ D ≤ 64) (hn : (n : Int) = 61 + 3 * D) (ht : tb = 15 + 3 * (2 + D)) (h : DI D tb n N g j m l tk S) (hg : ∀ e, e ≠ 1 → m'.g e = m.g e) (ho : ∀ e, 0 ≤ m'.g e ∧ m'.g e ≤ 18446744073709551615) : DI D tb n N g j m' l tk S := by
  have hQ := qpF (tb := tb) hD hn
  refine ⟨h.jN, by rw [hg 2 (by decide)]; exact h.sz, by rw [hg 12 (by decide)]; exact h.sl, h.hk.cg fun i hi => hg _ (by omega), h.ord, fun u hu => by rw [hg _ (by omega)]; exact h.lev u hu, Ws_congr (b := 12) hQ h.ws (by show (12 : Int) ≤ 14; decide) (fun e he => hg e (by omega)) ho, fun v hv => ?_, h.pos, h.ev⟩
  have h1 : (15 : Int) ≤ Tq (yF D tb) v := hQ.beg (v := v)
  rw [hg _ (by omega)]
  exact h.tp v hv
theorem dr_end {x p ls : Int} {K k F : Nat} {m : Mm} {l : El} (hn : 13 ≤ n) (hK : 0 < K) (h12 : m.g 12 = 0) (hF : 2 ≤ F) :
    ∃ R, drRun (yF D tb) n 0 B F (7, dSt x p ls K 0 k m l) = some R ∧ R.c = 0 ∧ R.v = K ∧ R.l = l ∧ R.m.g 1 = 0 ∧ ∀ e, e ≠ 1 → R.m.g e = m.g e := by
  obtain ⟨F, rfl⟩ : ∃ f, F = f + 1 + 1 := ⟨F - 2, by omega⟩
  have s7 : drStep (yF D tb) n 0 B (7, dSt x p ls K 0 k m l) = some ((8, dSt x p ls K 0 (k + 1) (m.acc n 2 1 0) l), none) := if_pos (show (0 : Int) < (K : Int) by omega)
  have ea : atM 0 1 12 1 = 12 := by decide
  have g1 : ∀ e, e ≠ 1 → (m.acc n 2 1 0).g e = m.g e := fun e he => Mm.acc_ne (by omega)
  have v12 : (m.acc n 2 1 0).val n (atM 0 1 12 1) = 0 := by rw [ea, Mm.val_eq (by decide) (by omega)]; exact (g1 12 (by decide)).trans h12
  have s8 : drStep (yF D tb) n 0 B (8, dSt x p ls K 0 (k + 1) (m.acc n 2 1 0) l) = some ((8, dSt x p ls K 0 (k + 1 + 1) ((m.acc n 2 1 0).acc n 1 (atM 0 1 12 1) ((m.acc n 2 1 0).val n (atM 0 1 12 1))) l), some (0, (K : Int))) := by
    refine (if_pos v12).trans ?_
    show some ((8, dSt x p ls K 0 (k + 1 + 1) ((m.acc n 2 1 0).acc n 1 (atM 0 1 12 1) ((m.acc n 2 1 0).val n (atM 0 1 12 1))) l), some (drEnd (dSt x p ls K 0 (k + 1) (m.acc n 2 1 0) l))) = _
    have : drEnd (dSt x p ls K 0 (k + 1) (m.acc n 2 1 0) l) = (0, (K : Int)) := by
      unfold drEnd
      refine (if_neg Bool.false_ne_true).trans ?_
      exact if_pos (show (0 : Int) < (K : Int) by omega)
    rw [this]
  refine ⟨⟨0, K, ((k + 1 + 1 : Nat) : Int), (m.acc n 2 1 0).acc n 1 (atM 0 1 12 1) ((m.acc n 2 1 0).val n (atM 0 1 12 1)), l⟩, ?_, rfl, rfl, rfl, ?_, fun e he => ?_⟩
  · rw [drRun_s, s7]
    show drRun (yF D tb) n 0 B (F + 1) _ = _
    rw [drRun_s, s8]
    rfl
  · show ((m.acc n 2 1 0).acc n 1 (atM 0 1 12 1) ((m.acc n 2 1 0).val n (atM 0 1 12 1))).g 1 = 0
    rw [Mm.acc_ld]
    exact Mm.acc_eq (a := 1) (by decide) (by omega) rfl
  · show ((m.acc n 2 1 0).acc n 1 (atM 0 1 12 1) ((m.acc n 2 1 0).val n (atM 0 1 12 1))).g e = _
    rw [Mm.acc_ld]
    exact g1 e he
theorem dr_loop (hD : 1 ≤ D ∧ D ≤ 64) (hn : (n : Int) = 61 + 3 * D) (ht : tb = 15 + 3 * (2 + D)) (hN : N ≤ 8) (hg : ∀ u, u < N → 0 ≤ g u) (hB : 1 ≤ B ∧ B ≤ D) :
    ∀ {r j k F : Nat} {x p ls : Int} {m : Mm} {l : El} {tk : Nat → Nat} {S : Nat → Nat → Int}, N - j = r → DI D tb n N g j m l tk S → (j : Int) < B → 40 * r + 40 ≤ F →
    ∃ (K : Nat) (x' p' ls' : Int) (F' k' : Nat) (m' : Mm) (l' : El) (tk' : Nat → Nat) (S' : Nat → Nat → Int), 2 ≤ F' ∧ (K : Int) = min B N ∧ DI D tb n N g K m' l' tk' S' ∧ drRun (yF D tb) n 0 B F (2, dSt x p ls j 1 k m l) = drRun (yF D tb) n 0 B F' (7, dSt x' p' ls' K 0 k' m' l')
  | 0, j, k, F, x, p, ls, m, l, tk, S, hr, h, hj, hF => by
    have hjN := h.jN
    obtain ⟨F', k', m', h1, h2, h3⟩ := dr_none (D := D) (tb := tb) (B := B) (x := x) (p := p) (ls := ls) (j := j) (k := k) (l := l) (n := n) (m := m) (F := F) (by omega) (by rw [h.sz, hr]; rfl) (by omega)
    exact ⟨j, x, p, ls, F', k', m', l, tk, S, by omega, by omega, h.lk hD hn ht (fun e _ => h2 e) (fun e => by rw [h2]; exact h.ws.wf.ok e), h3⟩
  | r + 1, j, k, F, x, p, ls, m, l, tk, S, hr, h, hj, hF => by
    obtain ⟨x', p', F', k', m', l', tk', S', h1, h2, h3⟩ := dr_round (B := B) (x := x) (p := p) (ls := ls) (k := k) (F := F) hD hn ht hN hg h (by omega) (by omega) (by omega)
    rw [h3]
    by_cases c : ((j + 1 : Nat) : Int) < B
    · rw [if_pos c]
      exact dr_loop hD hn ht hN hg hB (r := r) (by omega) h2 c (by omega)
    · rw [if_neg c]
      exact ⟨j + 1, x', p', p', F', k', m', l', tk', S', by omega, by omega, h2, rfl⟩
/-- Drain alone. -/
theorem drain_all {M : Nat} (hD : 1 ≤ D ∧ D ≤ 64) (hn : (n : Int) = 61 + 3 * D) (ht : tb = 15 + 3 * (2 + D)) (hN : N ≤ 8) (hg : ∀ u, u < N → 0 ≤ g u) (hB : 1 ≤ B ∧ B ≤ D) {m : Mm} (h : FI tb g N m) {l : El} (hl : l.n = 0) (hM : 400 ≤ M) :
    ∃ R, drR (yF D tb) n 0 B M m l = some R ∧ R.m.g 1 = 0 ∧ (N = 0 → R.c = 2 ∧ R.l.n = 0 ∧ R.m.g 2 = 0 ∧ ∀ e, 0 ≤ R.m.g e ∧ R.m.g e ≤ 18446744073709551615) ∧
      (N ≠ 0 → ∃ (K : Nat) (tk : Nat → Nat) (S : Nat → Nat → Int), (K : Int) = min B N ∧ R.c = 0 ∧ R.v = K ∧ DI D tb n N g K R.m R.l tk S) := by
  obtain ⟨M, rfl⟩ : ∃ f, M = f + 1 + 1 := ⟨M - 2, by omega⟩
  have v2 : m.val n 2 = N := by rw [Mm.val_eq (by omega) (by omega)]; exact h.sz
  have w2 : IntKind.i64.wrap (m.val n 2) = N := by rw [v2, w64 (by omega)]
  have g1 : ∀ e, (m.acc n 1 2 (m.val n 2)).g e = m.g e := fun e => Mm.acc_ld e
  by_cases h0 : N = 0
  · have s0 : drStep (yF D tb) n 0 B (0, dr0 m l) = some ((0, (dr0 m l).go 0 (m.acc n 1 2 (m.val n 2))), some (2, 0)) := if_pos (show IntKind.i64.wrap (m.val n 2) ≤ 0 by rw [w2]; omega)
    refine ⟨⟨2, 0, (1 : Nat), m.acc n 1 2 (m.val n 2), l⟩, ?_, (g1 1).trans h.lk, fun _ => ⟨rfl, hl, (g1 2).trans (by rw [h.sz, h0]; rfl), fun e => by dsimp only; rw [g1]; exact h.ok e⟩, fun c => absurd h0 c⟩
    show drRun (yF D tb) n 0 B (M + 1 + 1) (0, dr0 m l) = _
    rw [drRun_s, s0]
    rfl
  · have s0 : drStep (yF D tb) n 0 B (0, dr0 m l) = some ((1, dSt 0 0 0 0 0 1 (m.acc n 1 2 (m.val n 2)) l), none) := if_neg (show ¬ IntKind.i64.wrap (m.val n 2) ≤ 0 by rw [w2]; omega)
    have hh : (m.acc n 1 2 (m.val n 2)).hit n 1 0 = true := by
      rw [Mm.hit_val (by omega) (by omega)]
      exact decide_eq_true ((g1 1).trans h.lk)
    have s1 : drStep (yF D tb) n 0 B (1, dSt 0 0 0 0 0 1 (m.acc n 1 2 (m.val n 2)) l) = some ((2, dSt 0 0 0 0 1 2 ((m.acc n 1 2 (m.val n 2)).acc n 3 1 (casV ((m.acc n 1 2 (m.val n 2)).hit n 1 0) ((m.acc n 1 2 (m.val n 2)).val n 1) (IntKind.u64.wrap (IntKind.i64.wrap (0 + 1))))) l), none) := if_pos hh
    have hd : DI D tb n N g 0 ((m.acc n 1 2 (m.val n 2)).acc n 3 1 (casV ((m.acc n 1 2 (m.val n 2)).hit n 1 0) ((m.acc n 1 2 (m.val n 2)).val n 1) (IntKind.u64.wrap (IntKind.i64.wrap (0 + 1))))) l (fun _ => 0) (fun _ _ => 0) := by
      refine DI.start hD hn ht hN h hl (fun e he => by rw [Mm.acc_ne (by omega), g1]) (Mm.ok_acc (fun e => by rw [g1]; exact h.ok e) ?_)
      rw [hh]
      exact wrap_ok _
    obtain ⟨K, x', p', ls', F', k', m', l', tk', S', h1, h2, h3, h4⟩ := dr_loop (x := 0) (p := 0) (ls := 0) (k := 2) (F := M) (B := B) hD hn ht hN hg hB (r := N) (j := 0) (by omega) hd (by omega) (by omega)
    obtain ⟨R, r1, r2, r3, r4, r5, r6⟩ := dr_end (D := D) (tb := tb) (B := B) (x := x') (p := p') (ls := ls') (K := K) (k := k') (F := F') (m := m') (l := l') (n := n) (by omega) (by omega) h3.sl h1
    refine ⟨R, ?_, r5, fun c => absurd c h0, fun _ => ⟨K, tk', S', h2, r2, r3, ?_⟩⟩
    · show drRun (yF D tb) n 0 B (M + 1 + 1) (0, dr0 m l) = _
      rw [drRun_s, s0]
      show drRun (yF D tb) n 0 B (M + 1) _ = _
      rw [drRun_s, s1]
      exact h4.trans r1
    · rw [r4]
      refine h3.lk hD hn ht r6 fun e => ?_
      by_cases c : e = 1
      · subst c; rw [r5]; decide
      · rw [r6 e c]; exact h3.ws.wf.ok e
end
end Go.Proofs.YtomaagmleafjeaaGreat.Md
