/- ConfigRound: what is written of a decoded configuration is read as the same one; the plain law. -/
import Derived.Test.YtjpnpaboahbncaaMVh
import Derived.Test.YtjpnpaboahbncaaMVb
set_option linter.unusedVariables false
set_option linter.unusedSimpArgs false
set_option linter.unusedVariables false
set_option linter.unusedSimpArgs false
set_option maxRecDepth 100000
namespace Go.Proofs.Ytjpnpaboahbncaa.Vc
open Go Go.RowKit Sx Cn Dc Ck
/-! ### Writing appends -/
def Ext (s s' : Bw) : Prop := s.n ≤ s'.n ∧ ∀ q, q < s.n → s'.g q = s.g q
theorem Ext.refl (s : Bw) : Ext s s := ⟨Nat.le_refl _, fun _ _ => rfl⟩
theorem Ext.trans {a b c : Bw} (h : Ext a b) (g : Ext b c) : Ext a c := ⟨Nat.le_trans h.1 g.1, fun q hq => (g.2 q (Nat.lt_of_lt_of_le hq h.1)).trans (h.2 q hq)⟩
theorem ext_put (s : Bw) (v k : Int) : Ext s (s.put v k) := by
  refine ⟨?_, fun q hq => ?_⟩
  · show s.n ≤ putN s.n v k
    unfold putN; split <;> omega
  · show putG s.n s.g v k q = s.g q
    unfold putG
    split
    · rfl
    · rw [if_neg (by omega)]
theorem ext_instr (c : Cf) (s : Bw) (o a b : Int) : Ext s (s.instr c o a b) := by
  unfold Bw.instr
  split
  · exact (ext_put _ _ _).trans (ext_put _ _ _)
  split
  · exact ((ext_put _ _ _).trans (ext_put _ _ _)).trans (ext_put _ _ _)
  · exact (ext_put _ _ _).trans (ext_put _ _ _)
theorem ext_putIs (c : Cf) (i : Nat) : ∀ (m k : Nat) (s : Bw), Ext s (putIs c i k m s)
  | 0, _, s => .refl s
  | m + 1, k, s => (ext_instr c s _ _ _).trans (ext_putIs c i m (k + 1) _)
theorem ext_putPs (c : Cf) : ∀ (m k : Nat) (s : Bw), Ext s (putPs c k m s)
  | 0, _, s => .refl s
  | m + 1, k, s => ((ext_put s _ _).trans (ext_putIs c k _ _ _)).trans (ext_putPs c m (k + 1) _)
theorem ext_putUs (c : Cf) : ∀ (m k : Nat) (s : Bw), Ext s (putUs c k m s)
  | 0, _, s => .refl s
  | m + 1, k, s => (((ext_put s _ _).trans (ext_put _ _ _)).trans (ext_put _ _ _)).trans (ext_putUs c m (k + 1) _)

section
variable {g : Nat → Int} {len : Nat}
/-- So far: as many numbers as the place says, none of them too great, each as it is read. -/
def Wn (g : Nat → Int) (len : Nat) (s : Bw) (p : Nat) : Prop := s.n = p ∧ s.bad = false ∧ ∀ q, q < p → ∃ k, 1 ≤ k ∧ k ≤ 16 ∧ s.g q = rd g len q k
theorem wn_put (hu : U8 len g) {s : Bw} {p : Nat} {v k : Int} (h : Wn g len s p) (hv : v = rd g len p k) (h1 : 1 ≤ k) (h2 : k ≤ 16) : Wn g len (s.put v k) (p + 1) ∧ (s.put v k).g p = rd g len p k := by
  have hr := rd_range (at' := p) hu h1
  obtain ⟨hn, hb, hq⟩ := h
  have ho : outB v k = false := outB_f (by omega)
  have hw : IntKind.u8.wrap v = v := by
    have : IntKind.u8.wrap v = v % 256 := rfl
    omega
  have e1 : (s.put v k).g p = rd g len p k := by
    show putG s.n s.g v k p = _
    unfold putG
    rw [if_neg (by rw [ho]; exact Bool.noConfusion), if_pos hn.symm, hw, hv]
  refine ⟨⟨?_, ?_, fun q hq' => ?_⟩, e1⟩
  · show putN s.n v k = p + 1
    unfold putN
    rw [if_neg (by rw [ho]; exact Bool.noConfusion), hn]
  · show putB s.bad v k = false
    unfold putB
    rw [hb, ho]; rfl
  · by_cases e : q = p
    · subst e; exact ⟨k, h1, h2, e1⟩
    · rw [(ext_put s v k).2 q (by omega)]; exact hq q (by omega)
/-- What is written of an instruction. -/
def IFt (g : Nat → Int) (len : Nat) (s : Bw) (p : Nat) : Prop := s.g p = rd g len p 3 ∧ (iO g len p = 0 → s.g (p + 1) = rd g len (p + 1) 4) ∧ (iO g len p = 1 → s.g (p + 1) = rd g len (p + 1) (dN g len) ∧ s.g (p + 2) = rd g len (p + 2) (dL g len)) ∧
  (¬ iO g len p = 0 → ¬ iO g len p = 1 → s.g (p + 1) = rd g len (p + 1) 4)
theorem iE_gt (p : Nat) : p + 2 ≤ iE g len p := by unfold iE; split <;> omega
theorem IFt.ext {s s' : Bw} {p : Nat} (h : IFt g len s p) (hs : Ext s s') (hp : iE g len p ≤ s.n) : IFt g len s' p := by
  have h2 := iE_gt (g := g) (len := len) p
  refine ⟨by rw [hs.2 p (by omega)]; exact h.1, fun e => by rw [hs.2 (p + 1) (by omega)]; exact h.2.1 e, fun e => ?_, fun e1 e2 => by rw [hs.2 (p + 1) (by omega)]; exact h.2.2.2 e1 e2⟩
  have h3 : iE g len p = p + 3 := by unfold iE; rw [if_pos e]
  rw [hs.2 (p + 1) (by omega), hs.2 (p + 2) (by omega)]; exact h.2.2.1 e
variable {FC : Nat → Nat} {rc cu : Nat}
theorem wn_instr (hu : U8 len g) {i k : Nat} {s : Bw} (h : Wn g len s (pI g len (pS g len i) k)) :
    Wn g len (s.instr (decOf g len FC rc cu) (cO g len i k) (cA g len i k) (cB g len i k)) (pI g len (pS g len i) (k + 1)) ∧ IFt g len (s.instr (decOf g len FC rc cu) (cO g len i k) (cA g len i k) (cB g len i k)) (pI g len (pS g len i) k) := by
  have hN := dN_r hu
  have hL := dL_r hu
  have hn := nP_eq hu
  show Wn g len _ (iE g len (pI g len (pS g len i) k)) ∧ _
  unfold cO cA cB
  generalize pI g len (pS g len i) k = p at *
  obtain ⟨a1, a2⟩ := wn_put hu h (v := iO g len p) (k := 3) rfl (by decide) (by decide)
  unfold Bw.instr
  by_cases e0 : iO g len p = 0
  · rw [if_pos e0]
    have r4 := rd_range (at' := p + 1) (k := 4) hu (by decide)
    obtain ⟨b1, b2⟩ := wn_put hu a1 (v := IntKind.i64.wrap (iA g len p - 1)) (k := 4) (by unfold iA; rw [if_pos e0, w64 (by omega)]; omega) (by decide) (by decide)
    rw [iE2 (by omega)]
    refine ⟨b1, by rw [(ext_put _ _ _).2 p (by rw [a1.1]; omega)]; exact a2, fun _ => b2, fun e => by omega, fun e => absurd e0 e⟩
  · rw [if_neg e0]
    by_cases e1 : iO g len p = 1
    · rw [if_pos e1]
      obtain ⟨b1, b2⟩ := wn_put hu a1 (v := iA g len p) (k := ((decOf g len FC rc cu).nP : Int)) (by show _ = rd g len (p + 1) (nP g len : Int); unfold iA; rw [if_neg e0, if_pos e1, hn]) (by show 1 ≤ (nP g len : Int); omega) (by show (nP g len : Int) ≤ 16; omega)
      obtain ⟨c1, c2⟩ := wn_put hu b1 (v := iB g len p) (k := (decOf g len FC rc cu).L) (by show _ = rd g len (p + 1 + 1) (dL g len); unfold iB; rw [if_pos e1]) (by show 1 ≤ dL g len; omega) (by show dL g len ≤ 16; omega)
      rw [iE1 e1]
      refine ⟨c1, ?_, fun e => absurd e e0, fun _ => ⟨?_, c2⟩, fun _ e => absurd e1 e⟩
      · rw [(ext_put _ _ _).2 p (by rw [b1.1]; omega), (ext_put _ _ _).2 p (by rw [a1.1]; omega)]; exact a2
      · rw [(ext_put _ _ _).2 (p + 1) (by rw [b1.1]; omega), b2]; show rd g len (p + 1) (nP g len : Int) = _; rw [hn]
    · rw [if_neg e1]
      obtain ⟨b1, b2⟩ := wn_put hu a1 (v := iA g len p) (k := 4) (by unfold iA; rw [if_neg e0, if_neg e1]) (by decide) (by decide)
      rw [iE2 e1]
      exact ⟨b1, by rw [(ext_put _ _ _).2 p (by rw [a1.1]; omega)]; exact a2, fun e => absurd e e0, fun e => absurd e e1, fun _ _ => b2⟩
theorem pI_mono (p : Nat) : ∀ {k j : Nat}, k ≤ j → pI g len p k ≤ pI g len p j := by
  intro k j h
  induction j with
  | zero => obtain rfl : k = 0 := by omega
            exact Nat.le_refl _
  | succ j ih =>
    by_cases e : k = j + 1
    · subst e; exact Nat.le_refl _
    · have := ih (by omega)
      have := iE_gt (g := g) (len := len) (pI g len p j)
      show _ ≤ iE g len (pI g len p j); omega
theorem wn_putIs (hu : U8 len g) (i : Nat) : ∀ (m k : Nat) {s : Bw}, Wn g len s (pI g len (pS g len i) k) →
    Wn g len (putIs (decOf g len FC rc cu) i k m s) (pI g len (pS g len i) (k + m)) ∧ ∀ j, k ≤ j → j < k + m → IFt g len (putIs (decOf g len FC rc cu) i k m s) (pI g len (pS g len i) j)
  | 0, k, s, h => ⟨h, fun j h1 h2 => by omega⟩
  | m + 1, k, s, h => by
    obtain ⟨a1, a2⟩ := wn_instr (FC := FC) (rc := rc) (cu := cu) hu h
    obtain ⟨b1, b2⟩ := wn_putIs hu i m (k + 1) a1
    refine ⟨by rw [show k + (m + 1) = k + 1 + m by omega]; exact b1, fun j h1 h2 => ?_⟩
    by_cases e : j = k
    · subst e
      exact a2.ext (ext_putIs _ _ _ _ _) (Nat.le_of_eq a1.1.symm)
    · exact b2 j (by omega) (by omega)
theorem pS_succ (i : Nat) : pI g len (pS g len i) (lenP g len i) = pS g len (i + 1) := rfl
def PFt (g : Nat → Int) (len : Nat) (s : Bw) (j : Nat) : Prop := s.g (pS g len j) = rd g len (pS g len j) 6 ∧ ∀ k, k < lenP g len j → IFt g len s (pI g len (pS g len j) k)
theorem PFt.ext {s s' : Bw} {j : Nat} (h : PFt g len s j) (hs : Ext s s') (hp : pS g len (j + 1) ≤ s.n) : PFt g len s' j := by
  have h0 := pI_mono (g := g) (len := len) (pS g len j) (Nat.zero_le (lenP g len j))
  rw [pS_succ] at h0
  have h0' : pS g len j + 1 ≤ pS g len (j + 1) := h0
  refine ⟨by rw [hs.2 _ (by omega)]; exact h.1, fun k hk => (h.2 k hk).ext hs ?_⟩
  have := pI_mono (g := g) (len := len) (pS g len j) (show k + 1 ≤ lenP g len j by omega)
  rw [pS_succ] at this
  have : iE g len (pI g len (pS g len j) k) ≤ pS g len (j + 1) := this
  omega
theorem wn_putPs (hu : U8 len g) : ∀ (m i : Nat) {s : Bw}, Wn g len s (pS g len i) →
    Wn g len (putPs (decOf g len FC rc cu) i m s) (pS g len (i + m)) ∧ ∀ j, i ≤ j → j < i + m → PFt g len (putPs (decOf g len FC rc cu) i m s) j
  | 0, i, s, h => ⟨h, fun j h1 h2 => by omega⟩
  | m + 1, i, s, h => by
    have hc := cnt_eq hu (pS g len i)
    obtain ⟨a1, a2⟩ := wn_put hu h (v := (lenP g len i : Int)) (k := 6) hc.1 (by decide) (by decide)
    obtain ⟨b1, b2⟩ := wn_putIs (FC := FC) (rc := rc) (cu := cu) hu i (lenP g len i) 0 a1
    rw [Nat.zero_add, pS_succ] at b1
    obtain ⟨c1, c2⟩ := wn_putPs hu m (i + 1) b1
    refine ⟨by rw [show i + (m + 1) = i + 1 + m by omega]; exact c1, fun j h1 h2 => ?_⟩
    by_cases e : j = i
    · subst e
      refine PFt.ext ⟨?_, fun k hk => b2 k (Nat.zero_le _) (by omega)⟩ (ext_putPs _ _ _ _) (Nat.le_of_eq b1.1.symm)
      rw [(ext_putIs _ _ _ _ _).2 _ (by rw [a1.1]; omega)]; exact a2
    · exact c2 j (by omega) (by omega)
def UFt (g : Nat → Int) (len : Nat) (s : Bw) (j : Nat) : Prop := s.g (pos3 g len j) = rd g len (pos3 g len j) (dN g len) ∧ s.g (pos3 g len j + 1) = rd g len (pos3 g len j + 1) (dL g len) ∧ s.g (pos3 g len j + 2) = rd g len (pos3 g len j + 2) 16
theorem wn_putUs (hu : U8 len g) : ∀ (m e : Nat) {s : Bw}, Wn g len s (pos3 g len e) →
    Wn g len (putUs (decOf g len FC rc cu) e m s) (pos3 g len (e + m)) ∧ ∀ j, e ≤ j → j < e + m → UFt g len (putUs (decOf g len FC rc cu) e m s) j
  | 0, e, s, h => ⟨h, fun j h1 h2 => by omega⟩
  | m + 1, e, s, h => by
    have hN := dN_r hu
    have hL := dL_r hu
    have hn := nP_eq hu
    obtain ⟨a1, a2⟩ := wn_put hu h (v := uP g len e) (k := (nP g len : Int)) (by unfold uP; rw [hn]) (by omega) (by omega)
    obtain ⟨b1, b2⟩ := wn_put hu a1 (v := uL g len e) (k := dL g len) rfl (by omega) (by omega)
    obtain ⟨c1, c2⟩ := wn_put hu b1 (v := uD g len e) (k := 16) rfl (by decide) (by decide)
    have e3 : pos3 g len e + 1 + 1 + 1 = pos3 g len (e + 1) := pos_n e
    rw [e3] at c1
    obtain ⟨d1, d2⟩ := wn_putUs hu m (e + 1) c1
    refine ⟨by rw [show e + (m + 1) = e + 1 + m by omega]; exact d1, fun j h1 h2 => ?_⟩
    by_cases q : j = e
    · subst q
      have hx := ext_putUs (decOf g len FC rc cu) m (j + 1) (((s.put (uP g len j) (nP g len)).put (uL g len j) (dL g len)).put (uD g len j) 16)
      refine ⟨(hx.2 _ (by rw [c1.1]; omega)).trans ?_, (hx.2 _ (by rw [c1.1]; omega)).trans ?_, (hx.2 _ (by rw [c1.1]; omega)).trans c2⟩
      · rw [(ext_put _ _ _).2 _ (by rw [b1.1]; omega), (ext_put _ _ _).2 _ (by rw [a1.1]; omega), a2, hn]
      · rw [(ext_put _ _ _).2 _ (by rw [b1.1]; omega), b2]
    · exact d2 j (by omega) (by omega)
end
end Go.Proofs.Ytjpnpaboahbncaa.Vc

/- ConfigRound: the plain law, whole. -/
set_option linter.unusedVariables false
set_option linter.unusedSimpArgs false
set_option maxRecDepth 100000
namespace Go.Proofs.Ytjpnpaboahbncaa.Vc
open Go Go.RowKit Sx Cn Dc Ck
section
variable {g : Nat → Int} {len : Nat} {FC : Nat → Nat} {rc cu : Nat}
structure EFt (g : Nat → Int) (len : Nat) (s : Bw) : Prop where
  w : Wn g len s (pos3 g len (nU g len))
  h0 : s.g 0 = rd g len 0 4
  h1 : s.g 1 = rd g len 1 4
  h2 : s.g 2 = rd g len 2 (min 3 (dL g len))
  h3 : s.g 3 = rd g len 3 12
  h4 : s.g 4 = rd g len 4 4
  h5 : s.g 5 = rd g len 5 4
  h6 : s.g 6 = rd g len 6 (dD g len)
  h7 : s.g 7 = rd g len 7 6
  h8 : s.g 8 = rd g len 8 8
  h9 : s.g 9 = rd g len 9 4
  p : ∀ j, j < nP g len → PFt g len s j
  c : s.g (pU g len) = rd g len (pU g len) 6
  u : ∀ j, j < nU g len → UFt g len s j
theorem wlt {s : Bw} {p q : Nat} (h : Wn g len s p) (hq : q < p) : q < s.n := by rw [h.1]; exact hq
theorem enc_facts (hu : U8 len g) : EFt g len (encB (decOf g len FC rc cu)) := by
  have hN := dN_r hu
  have hL := dL_r hu
  have hD := dD_r hu
  have hn := nP_eq hu
  have hU := cnt_eq hu (pU g len)
  have sub : ∀ p k, 1 ≤ k → k ≤ 16 → IntKind.i64.wrap (1 + rd g len p k - 1) = rd g len p k := fun p k h1 h2 => by
    have := rd_range (at' := p) hu h1
    rw [w64 (by omega)]; omega
  have n0 : Wn g len Bw.nil 0 := ⟨rfl, rfl, fun q hq => absurd hq (Nat.not_lt_zero q)⟩
  obtain ⟨a0, e0⟩ := wn_put hu n0 (v := IntKind.i64.wrap (dW g len - 1)) (k := 4) (sub 0 4 (by decide) (by decide)) (by decide) (by decide)
  obtain ⟨a1, e1⟩ := wn_put hu a0 (v := IntKind.i64.wrap (dL g len - 1)) (k := 4) (sub 1 4 (by decide) (by decide)) (by decide) (by decide)
  obtain ⟨a2, e2⟩ := wn_put hu a1 (v := IntKind.i64.wrap (dC g len - 1)) (k := min 3 (dL g len)) (sub 2 _ (by omega) (by omega)) (by omega) (by omega)
  obtain ⟨a3, e3⟩ := wn_put hu a2 (v := IntKind.i64.wrap (dT g len - 1)) (k := 12) (sub 3 12 (by decide) (by decide)) (by decide) (by decide)
  obtain ⟨a4, e4⟩ := wn_put hu a3 (v := IntKind.i64.wrap (dD g len - 1)) (k := 4) (sub 4 4 (by decide) (by decide)) (by decide) (by decide)
  obtain ⟨a5, e5⟩ := wn_put hu a4 (v := IntKind.i64.wrap (dH g len - 1)) (k := 4) (sub 5 4 (by decide) (by decide)) (by decide) (by decide)
  obtain ⟨a6, e6⟩ := wn_put hu a5 (v := IntKind.i64.wrap (dB g len - 1)) (k := dD g len) (sub 6 _ (by omega) (by omega)) (by omega) (by omega)
  obtain ⟨a7, e7⟩ := wn_put hu a6 (v := dA g len) (k := 6) rfl (by decide) (by decide)
  obtain ⟨a8, e8⟩ := wn_put hu a7 (v := IntKind.i64.wrap (dP g len - 1)) (k := 8) (sub 8 8 (by decide) (by decide)) (by decide) (by decide)
  obtain ⟨a9, e9⟩ := wn_put hu a8 (v := IntKind.i64.wrap ((nP g len : Int) - 1)) (k := 4) (by rw [hn]; exact sub 9 4 (by decide) (by decide)) (by decide) (by decide)
  have x9 : Ext (headB (decOf g len FC rc cu)) (encB (decOf g len FC rc cu)) := ((ext_putPs _ _ _ _).trans (ext_put _ _ _)).trans (ext_putUs _ _ _ _)
  have b9 : Wn g len (headB (decOf g len FC rc cu)) (pS g len 0) := a9
  obtain ⟨c1, c2⟩ := wn_putPs (FC := FC) (rc := rc) (cu := cu) hu (nP g len) 0 b9
  rw [Nat.zero_add] at c1
  obtain ⟨d1, d2⟩ := wn_put hu c1 (v := (nU g len : Int)) (k := 6) hU.1 (by decide) (by decide)
  have d1' : Wn g len ((putPs (decOf g len FC rc cu) 0 (nP g len) (headB (decOf g len FC rc cu))).put (nU g len) 6) (pos3 g len 0) := d1
  obtain ⟨u1, u2⟩ := wn_putUs (FC := FC) (rc := rc) (cu := cu) hu (nU g len) 0 d1'
  rw [Nat.zero_add] at u1
  have xU := ext_putUs (decOf g len FC rc cu) (nU g len) 0 ((putPs (decOf g len FC rc cu) 0 (nP g len) (headB (decOf g len FC rc cu))).put (nU g len) 6)
  have x8 := (ext_put _ (IntKind.i64.wrap ((nP g len : Int) - 1)) 4).trans x9
  have x7 := (ext_put _ (IntKind.i64.wrap (dP g len - 1)) 8).trans x8
  have x6 := (ext_put _ (dA g len) 6).trans x7
  have x5 := (ext_put _ (IntKind.i64.wrap (dB g len - 1)) (dD g len)).trans x6
  have x4 := (ext_put _ (IntKind.i64.wrap (dH g len - 1)) 4).trans x5
  have x3 := (ext_put _ (IntKind.i64.wrap (dD g len - 1)) 4).trans x4
  have x2 := (ext_put _ (IntKind.i64.wrap (dT g len - 1)) 12).trans x3
  have x1 := (ext_put _ (IntKind.i64.wrap (dC g len - 1)) (min 3 (dL g len))).trans x2
  have x0 := (ext_put _ (IntKind.i64.wrap (dL g len - 1)) 4).trans x1
  refine ⟨u1, (x0.2 0 (wlt a0 (by decide))).trans e0, (x1.2 1 (wlt a1 (by decide))).trans e1, (x2.2 2 (wlt a2 (by decide))).trans e2, (x3.2 3 (wlt a3 (by decide))).trans e3, (x4.2 4 (wlt a4 (by decide))).trans e4, (x5.2 5 (wlt a5 (by decide))).trans e5,
    (x6.2 6 (wlt a6 (by decide))).trans e6, (x7.2 7 (wlt a7 (by decide))).trans e7, (x8.2 8 (wlt a8 (by decide))).trans e8, (x9.2 9 (wlt b9 (show 9 < 10 by decide))).trans e9, fun j hj => ?_, ?_, fun j hj => u2 j (Nat.zero_le _) (by omega)⟩
  · refine (c2 j (Nat.zero_le _) (by omega)).ext ((ext_put _ _ _).trans xU) ?_
    rw [c1.1]
    have mono : ∀ d i, pS g len i ≤ pS g len (i + d) := fun d i => by
      induction d with
      | zero => exact Nat.le_refl _
      | succ d ih =>
        have := pI_mono (g := g) (len := len) (pS g len (i + d)) (Nat.zero_le (lenP g len (i + d)))
        rw [pS_succ] at this
        have h2 : pS g len (i + d) + 1 ≤ pS g len (i + d + 1) := this
        show _ ≤ pS g len (i + d + 1); omega
    have := mono (nP g len - (j + 1)) (j + 1)
    rwa [show j + 1 + (nP g len - (j + 1)) = nP g len by omega] at this
  · exact (xU.2 (pU g len) (by rw [d1.1]; exact Nat.lt_succ_self _)).trans d2
theorem pS_mono {i j : Nat} (h : i ≤ j) : pS g len i ≤ pS g len j := by
  have mono : ∀ d i, pS g len i ≤ pS g len (i + d) := fun d i => by
    induction d with
    | zero => exact Nat.le_refl _
    | succ d ih =>
      have := pI_mono (g := g) (len := len) (pS g len (i + d)) (Nat.zero_le (lenP g len (i + d)))
      rw [pS_succ] at this
      have h2 : pS g len (i + d) + 1 ≤ pS g len (i + d + 1) := this
      show _ ≤ pS g len (i + d + 1); omega
  have := mono (j - i) i
  rwa [show i + (j - i) = j by omega] at this
end
/-! ### Trimming -/
theorem trim_le' (g : Nat → Int) : ∀ n, trim g n ≤ n
  | 0 => Nat.le_refl _
  | n + 1 => by
    unfold trim
    split
    · have := trim_le' g n; omega
    · exact Nat.le_refl _
theorem trim_zero' (g : Nat → Int) : ∀ n q, trim g n ≤ q → q < n → g q = 0
  | 0, q, _, h => absurd h (Nat.not_lt_zero q)
  | n + 1, q, h1, h2 => by
    unfold trim at h1
    split at h1
    · by_cases e : q = n
      · subst e; assumption
      · exact trim_zero' g n q h1 (by omega)
    · omega
theorem trim_last' (g : Nat → Int) : ∀ n, 0 < trim g n → ¬ g (trim g n - 1) = 0
  | 0, h => absurd h (Nat.lt_irrefl 0)
  | n + 1, h => by
    unfold trim at h ⊢
    split
    · rename_i e
      rw [if_pos e] at h
      exact trim_last' g n h
    · rename_i e
      exact e
/-! ### Reading what was written -/
section
variable {g : Nat → Int} {len : Nat} {s : Bw} {n : Nat}
theorem rd_same (hu : U8 len g) (hz : ∀ q, n ≤ q → q < s.n → s.g q = 0) {q : Nat} {k : Int} (hk : 1 ≤ k) (hq : q < s.n) (h : s.g q = rd g len q k) : rd s.g n q k = rd g len q k := by
  have hr := rd_range (at' := q) hu hk
  by_cases e : q < n
  · rw [rd, if_pos e, h]
    exact Int.emod_eq_of_lt hr.1 hr.2
  · rw [rd, if_neg e, ← h, hz q (by omega) hq]
theorem read_same (hu : U8 len g) (hf : EFt g len s) (hz : ∀ q, n ≤ q → q < s.n → s.g q = 0) {d c : Cf} (hd : IsDec s.g n d) (hc : IsDec g len c) : eqCfg d c := by
  have hN := dN_r hu
  have hL := dL_r hu
  have hD := dD_r hu
  have hn := nP_eq hu
  have hsn : s.n = pU g len + 1 + 3 * nU g len := hf.w.1
  have h10 : 10 ≤ pU g len := pS_mono (g := g) (len := len) (Nat.zero_le (nP g len))
  have sm : ∀ {q : Nat} {k : Int}, 1 ≤ k → q < s.n → s.g q = rd g len q k → rd s.g n q k = rd g len q k := fun a b c => rd_same hu hz a b c
  have eW : dW s.g n = dW g len := by unfold dW; rw [sm (by decide) (by omega) hf.h0]
  have eL : dL s.g n = dL g len := by unfold dL; rw [sm (by decide) (by omega) hf.h1]
  have eC : dC s.g n = dC g len := by unfold dC; rw [eL, sm (by omega) (by omega) hf.h2]
  have eT : dT s.g n = dT g len := by unfold dT; rw [sm (by decide) (by omega) hf.h3]
  have eD : dD s.g n = dD g len := by unfold dD; rw [sm (by decide) (by omega) hf.h4]
  have eH : dH s.g n = dH g len := by unfold dH; rw [sm (by decide) (by omega) hf.h5]
  have eB : dB s.g n = dB g len := by unfold dB; rw [eD, sm (by omega) (by omega) hf.h6]
  have eA : dA s.g n = dA g len := by unfold dA; rw [sm (by decide) (by omega) hf.h7]
  have eP : dP s.g n = dP g len := by unfold dP; rw [sm (by decide) (by omega) hf.h8]
  have eN : dN s.g n = dN g len := by unfold dN; rw [sm (by decide) (by omega) hf.h9]
  have enP : nP s.g n = nP g len := by unfold nP; rw [eN]
  have ins : ∀ p, iE g len p ≤ pU g len → IFt g len s p → iO s.g n p = iO g len p ∧ iA s.g n p = iA g len p ∧ iB s.g n p = iB g len p ∧ iE s.g n p = iE g len p := by
    intro p hp hi
    have h2 := iE_gt (g := g) (len := len) p
    have eo : iO s.g n p = iO g len p := by unfold iO; exact sm (by decide) (by omega) hi.1
    refine ⟨eo, ?_, ?_, by unfold iE; rw [eo]⟩
    · unfold iA
      rw [eo]
      by_cases a : iO g len p = 0
      · rw [if_pos a, if_pos a, sm (by decide) (by omega) (hi.2.1 a)]
      · rw [if_neg a, if_neg a]
        by_cases b : iO g len p = 1
        · rw [if_pos b, if_pos b, eN, sm (by omega) (by omega) (hi.2.2.1 b).1]
        · rw [if_neg b, if_neg b, sm (by decide) (by omega) (hi.2.2.2 a b)]
    · unfold iB
      rw [eo]
      by_cases b : iO g len p = 1
      · have h3 : iE g len p = p + 3 := by unfold iE; rw [if_pos b]
        rw [if_pos b, if_pos b, eL, sm (by omega) (by omega) (hi.2.2.1 b).2]
      · rw [if_neg b, if_neg b]
  have top : ∀ i, i < nP g len → ∀ k, k ≤ lenP g len i → pI g len (pS g len i) k ≤ pU g len := fun i hi k hk => by
    have a := pI_mono (g := g) (len := len) (pS g len i) hk
    rw [pS_succ] at a
    exact Nat.le_trans a (pS_mono (show i + 1 ≤ nP g len by omega))
  have epI : ∀ i, i < nP g len → ∀ k, k ≤ lenP g len i → pI s.g n (pS g len i) k = pI g len (pS g len i) k := by
    intro i hi k
    induction k with
    | zero => intro _; rfl
    | succ k ih =>
      intro hk
      have h1 := ih (by omega)
      show iE s.g n (pI s.g n (pS g len i) k) = iE g len (pI g len (pS g len i) k)
      rw [h1]
      exact (ins _ (top i hi (k + 1) hk) ((hf.p i hi).2 k (by omega))).2.2.2
  have ecnt : ∀ i, i < nP g len → cnt s.g n (pS g len i) = cnt g len (pS g len i) := fun i hi => by
    have a := top i hi 0 (Nat.zero_le _)
    have a : pS g len i + 1 ≤ pU g len := a
    unfold cnt
    rw [sm (by decide) (by omega) (hf.p i hi).1]
  have epS : ∀ i, i ≤ nP g len → pS s.g n i = pS g len i := by
    intro i
    induction i with
    | zero => intro _; rfl
    | succ i ih =>
      intro hi
      have h1 := ih (by omega)
      show pI s.g n (pS s.g n i) (cnt s.g n (pS s.g n i)) = _
      rw [h1, ecnt i (by omega)]
      exact epI i (by omega) _ (Nat.le_refl _)
  have epU : pU s.g n = pU g len := by unfold pU; rw [enP]; exact epS _ (Nat.le_refl _)
  have enU : nU s.g n = nU g len := by
    unfold nU cnt
    rw [epU, sm (by decide) (by omega) hf.c]
  obtain ⟨FC, rc, cu, _, rfl⟩ := hd
  obtain ⟨FC', rc', cu', _, rfl⟩ := hc
  refine ⟨⟨eW, eL, eC, eT, eD, eH, eB, eA, eP⟩, ⟨enP, fun i hi => ?_⟩, ⟨enU, fun e he => ?_⟩⟩
  · have hi : i < nP g len := by have : i < nP s.g n := hi; omega
    have el : lenP s.g n i = lenP g len i := by unfold lenP; rw [epS i (by omega), ecnt i hi]
    refine ⟨el, fun e he => ?_⟩
    have he : e < lenP g len i := by have : e < lenP s.g n i := he; omega
    have hi' := ins _ (top i hi (e + 1) he) ((hf.p i hi).2 e he)
    have e1 : pI s.g n (pS s.g n i) e = pI g len (pS g len i) e := by rw [epS i (by omega)]; exact epI i hi e (by omega)
    refine ⟨?_, ?_, ?_⟩
    · show iO s.g n (pI s.g n (pS s.g n i) e) = iO g len (pI g len (pS g len i) e)
      rw [e1]; exact hi'.1
    · show iA s.g n (pI s.g n (pS s.g n i) e) = iA g len (pI g len (pS g len i) e)
      rw [e1]; exact hi'.2.1
    · show iB s.g n (pI s.g n (pS s.g n i) e) = iB g len (pI g len (pS g len i) e)
      rw [e1]; exact hi'.2.2.1
  · have he : e < nU g len := by have : e < nU s.g n := he; omega
    have e3 : pos3 s.g n e = pos3 g len e := by unfold pos3; rw [epU]
    have hp : pos3 g len e = pU g len + 1 + 3 * e := rfl
    have hf' := hf.u e he
    refine ⟨?_, ?_, ?_⟩
    · show rd s.g n (pos3 s.g n e) (dN s.g n) = rd g len (pos3 g len e) (dN g len)
      rw [e3, eN]; exact sm (by omega) (by omega) hf'.1
    · show rd s.g n (pos3 s.g n e + 1) (dL s.g n) = rd g len (pos3 g len e + 1) (dL g len)
      rw [e3, eL]; exact sm (by omega) (by omega) hf'.2.1
    · show rd s.g n (pos3 s.g n e + 2) 16 = rd g len (pos3 g len e + 2) 16
      rw [e3]; exact sm (by decide) (by omega) hf'.2.2
end
/-! ### Equal configurations are written as the same -/
section
variable {c d : Cf}
theorem instr_congr (h1 : d.nP = c.nP) (h2 : d.L = c.L) (s : Bw) (o a b : Int) : s.instr d o a b = s.instr c o a b := by unfold Bw.instr; rw [h1, h2]
theorem putIs_congr (h : eqCfg d c) (i : Nat) (hi : i < d.nP) : ∀ (m k : Nat) (s : Bw), k + m ≤ d.lenP i → putIs d i k m s = putIs c i k m s
  | 0, _, _, _ => rfl
  | m + 1, k, s, hk => by
    have hr := (h.2.1.2 i hi).2 k (show k < d.lenP i by omega)
    have h1 : d.iO i k = c.iO i k := hr.1
    have h2 : d.iA i k = c.iA i k := hr.2.1
    have h3 : d.iB i k = c.iB i k := hr.2.2
    unfold putIs
    rw [h1, h2, h3, instr_congr h.2.1.1 h.1.2.1]
    exact putIs_congr h i hi m (k + 1) _ (by omega)
theorem putPs_congr (h : eqCfg d c) : ∀ (m i : Nat) (s : Bw), i + m ≤ d.nP → putPs d i m s = putPs c i m s
  | 0, _, _, _ => rfl
  | m + 1, i, s, hi => by
    have hl : d.lenP i = c.lenP i := (h.2.1.2 i (by omega)).1
    unfold putPs
    rw [putIs_congr h i (by omega) _ _ _ (by omega), hl]
    exact putPs_congr h m (i + 1) _ (by omega)
theorem putUs_congr (h : eqCfg d c) : ∀ (m i : Nat) (s : Bw), i + m ≤ d.nU → putUs d i m s = putUs c i m s
  | 0, _, _, _ => rfl
  | m + 1, i, s, hi => by
    have hr := h.2.2.2 i (show i < d.nU by omega)
    have h1 : d.uP i = c.uP i := hr.1
    have h2 : d.uL i = c.uL i := hr.2.1
    have h3 : d.uD i = c.uD i := hr.2.2
    unfold putUs
    rw [h1, h2, h3, h.2.1.1, h.1.2.1]
    exact putUs_congr h m (i + 1) _ (by omega)
theorem enc_congr (h : eqCfg d c) : encB d = encB c := by
  obtain ⟨n1, n2, n3, n4, n5, n6, n7, n8, n9⟩ := h.1
  have hh : headB d = headB c := by unfold headB; rw [n1, n2, n3, n4, n5, n6, n7, n8, n9, h.2.1.1]
  have hU : d.nU = c.nU := h.2.2.1
  unfold encB
  rw [hh, putPs_congr h _ _ _ (by omega), putUs_congr h _ _ _ (by omega), h.2.1.1, hU]
end
/-! ### The law -/
section
variable {g : Nat → Int} {len : Nat} {c : Cf}
theorem dec_enc (hu : U8 len g) (hc : IsDec g len c) : EFt g len (encB c) := by
  obtain ⟨FC, rc, cu, _, rfl⟩ := hc
  exact enc_facts hu
theorem dec_good (hu : U8 len g) (hc : IsDec g len c) : goodB c = true := by
  unfold goodB
  rw [dec_err hu hc, (dec_enc hu hc).w.2.1]; rfl
theorem round1 (hu : U8 len g) (hc : IsDec g len c) {f : Nat → Int} (hf : ∀ e, f e = (encB c).g e) {d : Cf} (hd : IsDec f (lenE c) d) : eqCB d c = true := by
  have e : f = (encB c).g := funext hf
  subst e
  exact (cq_t (read_same hu (dec_enc hu hc) (fun q h1 h2 => trim_zero' _ _ q h1 h2) hd hc)).symm
theorem round2 (hu : U8 len g) (hc : IsDec g len c) {f : Nat → Int} (hf : ∀ e, f e = (encB c).g e) {n : Nat} (hn : n < lenE c) {d : Cf} (hd : IsDec f n d) : eqCB d c = false := by
  have e : f = (encB c).g := funext hf
  subst e
  refine (cq_f fun h => ?_).symm
  have hu' : U8 n (encB c).g := fun e _ => R8.enc c e
  have hw := (dec_enc hu' hd).w
  rw [enc_congr h] at hw
  have hl : lenE c ≤ (encB c).n := trim_le' _ _
  obtain ⟨k, _, _, hk⟩ := hw.2.2 (lenE c - 1) (by rw [← hw.1]; omega)
  have hz : rd (encB c).g n (lenE c - 1) k = 0 := by rw [rd, if_neg (by omega)]
  exact trim_last' (encB c).g (encB c).n (show 0 < lenE c by omega) (hk.trans hz)
theorem enc_last {f : Nat → Int} (hf : ∀ e, f e = (encB c).g e) (h : 0 < lenE c) : ¬ f (lenE c - 1) = 0 := by
  rw [hf]; exact trim_last' _ _ h
end
end Go.Proofs.Ytjpnpaboahbncaa.Vc

/- ConfigRound: the law. -/
set_option linter.unusedVariables false
set_option maxRecDepth 100000
namespace Go.Proofs.Ytjpnpaboahbncaa.Vc
open Go Go.RowKit Sx Cn Dc Ck
noncomputable section
def conLR : Con := Con.add 67 conEncW conLD
theorem conLR_ok : ConOK P conLR := .add (conEncW_ok fun c => local_of_ps conP'_ok fun _ => vhEncP c) conLD_ok
def verRound (g : Nat → Int) (len cap : Nat) (cut : Int) : V := verF P conLR 3 4 16 [] .nil [.c (slK 0 1 len cap), iv cut] ⟨[(0, ints .u8 len g)], 1, fun _ => True⟩ yesV
end
end Go.Proofs.Ytjpnpaboahbncaa.Vc

/- ConfigRound: the conditions, printed by program. -/
set_option linter.unusedVariables false
set_option maxRecDepth 100000
namespace Go.Proofs.Ytjpnpaboahbncaa.Vc
open Go Go.RowKit Sx Cn Dc Ck

set_option maxHeartbeats 8000000 in
theorem verRound_eq (g : Nat → Int) (len cap : Nat) (cut : Int) : verRound g len cap cut =
  V.br (!decide ((↑len : Int) ≤ Int.ofNat 400)) V.ok
    (V.need (len = len)
    (V.need (cap = cap)
    (V.need (1 ≤ 1)
    (V.need (∀ (i : Nat), i < 1 → len ≤ len)
    (V.need (∀ (i e : Nat), i < 1 ∧ e < len → g e = g e)
    (V.need (U8 len fun (e : Nat) => g e)
    (V.need (∃ (x : Cf), IsDec (fun (e : Nat) => g e) len x)
    (V.any Cf (IsDec (fun (e : Nat) => g e) len) fun (x : Cf) => V.need (x.W = x.W)
    (V.need (x.L = x.L)
    (V.need (x.C = x.C)
    (V.need (x.T = x.T)
    (V.need (x.D = x.D)
    (V.need (x.H = x.H)
    (V.need (x.B = x.B)
    (V.need (x.A = x.A)
    (V.need (x.P = x.P)
    (V.need (x.nP = x.nP)
    (V.need (x.rc = x.rc)
    (V.need (x.nU = x.nU)
    (V.need (x.cu = x.cu)
    (V.need (1 ≤ 1)
    (V.need (x.nP ≤ x.nP ∧ x.nP ≤ x.rc)
    (V.need (∀ (i e : Nat), i = 0 ∧ e < x.nP → e = e)
    (V.need (∀ (i e : Nat), i = 0 ∧ e < x.nP → x.lenP e = x.lenP e)
    (V.need (∀ (i e : Nat), i = 0 ∧ e < x.nP → x.FC e = x.FC e)
    (V.need (1 ≤ 1)
    (V.need (x.nU ≤ x.nU ∧ x.nU ≤ x.cu)
    (V.need (∀ (i e : Nat), i = 0 ∧ e < x.nU → x.uP e = x.uP e)
    (V.need (∀ (i e : Nat), i = 0 ∧ e < x.nU → x.uL e = x.uL e)
    (V.need (∀ (i e : Nat), i = 0 ∧ e < x.nU → x.uD e = x.uD e)
    (V.need (∀ (i : Nat), i < x.nP → x.lenP i ≤ gd x.nP x.lenP i ∧ x.lenP i ≤ gd x.nP x.FC i)
    (V.need (∀ (i e : Nat), i < x.nP ∧ e < x.lenP i → x.iO i e = x.iO i e)
    (V.need (∀ (i e : Nat), i < x.nP ∧ e < x.lenP i → x.iA i e = x.iA i e)
    (V.need (∀ (i e : Nat), i < x.nP ∧ e < x.lenP i → x.iB i e = x.iB i e)
    (V.need True
    (V.need (∃ (x_1 : Nat × Nat × (Nat → Int) × Int), EncOf (Cf.mk x.W x.L x.C x.T x.D x.H x.B x.A x.P x.nP x.rc x.nU x.cu (fun (e : Nat) => x.lenP e) (fun (e : Nat) => x.FC e) (fun (i e : Nat) => x.iO i e) (fun (i e : Nat) => x.iA i e) (fun (i e : Nat) => x.iB i e) (fun (e : Nat) => x.uP e) (fun (e : Nat) => x.uL e) fun (e : Nat) => x.uD e) x_1)
    (V.any (Nat × Nat × (Nat → Int) × Int) (EncOf (Cf.mk x.W x.L x.C x.T x.D x.H x.B x.A x.P x.nP x.rc x.nU x.cu (fun (e : Nat) => x.lenP e) (fun (e : Nat) => x.FC e) (fun (i e : Nat) => x.iO i e) (fun (i e : Nat) => x.iA i e) (fun (i e : Nat) => x.iB i e) (fun (e : Nat) => x.uP e) (fun (e : Nat) => x.uL e) fun (e : Nat) => x.uD e)) fun (x_1 : Nat × Nat × (Nat → Int) × Int) => V.need True
    (V.br (x_1.snd.snd.snd != Int.ofNat 0)
    (V.bad 420)
    (V.need (x_1.fst = x_1.fst)
    (V.need (x_1.snd.fst = x_1.snd.fst)
    (V.need (1 ≤ 1)
    (V.need (∀ (i : Nat), i < 1 → x_1.fst ≤ x_1.fst)
    (V.need (∀ (i e : Nat), i < 1 ∧ e < x_1.fst → x_1.snd.snd.fst e = x_1.snd.snd.fst e)
    (V.need (U8 x_1.fst fun (e : Nat) => x_1.snd.snd.fst e)
    (V.need (∃ (x : Cf), IsDec (fun (e : Nat) => x_1.snd.snd.fst e) x_1.fst x)
    (V.any Cf (IsDec (fun (e : Nat) => x_1.snd.snd.fst e) x_1.fst) fun (x_2 : Cf) => V.need (0 < 1 ∧ 0 < 1)
    (V.need (0 < 1 ∧ 0 < 1)
    (V.need (0 < 1 ∧ 0 < 1)
    (V.need (0 < 1 ∧ 0 < 1)
    (V.need (0 < 1 ∧ 0 < 1)
    (V.need (0 < 1 ∧ 0 < 1)
    (V.need (0 < 1 ∧ 0 < 1)
    (V.need (0 < 1 ∧ 0 < 1)
    (V.need (0 < 1 ∧ 0 < 1)
    (V.need (0 < 1 ∧ 0 < 1)
    (V.need (0 < 1 ∧ 0 < 1)
    (V.need (x_2.W = x_2.W)
    (V.need (x_2.L = x_2.L)
    (V.need (x_2.C = x_2.C)
    (V.need (x_2.T = x_2.T)
    (V.need (x_2.D = x_2.D)
    (V.need (x_2.H = x_2.H)
    (V.need (x_2.B = x_2.B)
    (V.need (x_2.A = x_2.A)
    (V.need (x_2.P = x_2.P)
    (V.need (x_2.nP = x_2.nP)
    (V.need (x_2.rc = x_2.rc)
    (V.need (x_2.nU = x_2.nU)
    (V.need (x_2.cu = x_2.cu)
    (V.need (x.W = x.W)
    (V.need (x.L = x.L)
    (V.need (x.C = x.C)
    (V.need (x.T = x.T)
    (V.need (x.D = x.D)
    (V.need (x.H = x.H)
    (V.need (x.B = x.B)
    (V.need (x.A = x.A)
    (V.need (x.P = x.P)
    (V.need (x.nP = x.nP)
    (V.need (x.rc = x.rc)
    (V.need (x.nU = x.nU)
    (V.need (x.cu = x.cu)
    (V.need (1 ≤ 1)
    (V.need (x_2.nP ≤ x_2.nP ∧ x_2.nP ≤ x_2.rc)
    (V.need (∀ (i e : Nat), i = 0 ∧ e < x_2.nP → e = e)
    (V.need (∀ (i e : Nat), i = 0 ∧ e < x_2.nP → x_2.lenP e = x_2.lenP e)
    (V.need (∀ (i e : Nat), i = 0 ∧ e < x_2.nP → x_2.FC e = x_2.FC e)
    (V.need (1 ≤ 1)
    (V.need (x_2.nU ≤ x_2.nU ∧ x_2.nU ≤ x_2.cu)
    (V.need (∀ (i e : Nat), i = 0 ∧ e < x_2.nU → x_2.uP e = x_2.uP e)
    (V.need (∀ (i e : Nat), i = 0 ∧ e < x_2.nU → x_2.uL e = x_2.uL e)
    (V.need (∀ (i e : Nat), i = 0 ∧ e < x_2.nU → x_2.uD e = x_2.uD e)
    (V.need (∀ (i : Nat), i < x_2.nP → x_2.lenP i ≤ gd x_2.nP x_2.lenP i ∧ x_2.lenP i ≤ gd x_2.nP x_2.FC i)
    (V.need (∀ (i e : Nat), i < x_2.nP ∧ e < x_2.lenP i → x_2.iO i e = x_2.iO i e)
    (V.need (∀ (i e : Nat), i < x_2.nP ∧ e < x_2.lenP i → x_2.iA i e = x_2.iA i e)
    (V.need (∀ (i e : Nat), i < x_2.nP ∧ e < x_2.lenP i → x_2.iB i e = x_2.iB i e)
    (V.need (1 ≤ 1)
    (V.need (x.nP ≤ x.nP ∧ x.nP ≤ x.rc)
    (V.need (∀ (i e : Nat), i = 0 ∧ e < x.nP → e = e)
    (V.need (∀ (i e : Nat), i = 0 ∧ e < x.nP → x.lenP e = x.lenP e)
    (V.need (∀ (i e : Nat), i = 0 ∧ e < x.nP → x.FC e = x.FC e)
    (V.need (1 ≤ 1)
    (V.need (x.nU ≤ x.nU ∧ x.nU ≤ x.cu)
    (V.need (∀ (i e : Nat), i = 0 ∧ e < x.nU → x.uP e = x.uP e)
    (V.need (∀ (i e : Nat), i = 0 ∧ e < x.nU → x.uL e = x.uL e)
    (V.need (∀ (i e : Nat), i = 0 ∧ e < x.nU → x.uD e = x.uD e)
    (V.need (∀ (i : Nat), i < x.nP → x.lenP i ≤ gd x.nP x.lenP i ∧ x.lenP i ≤ gd x.nP x.FC i)
    (V.need (∀ (i e : Nat), i < x.nP ∧ e < x.lenP i → x.iO i e = x.iO i e)
    (V.need (∀ (i e : Nat), i < x.nP ∧ e < x.lenP i → x.iA i e = x.iA i e)
    (V.need (∀ (i e : Nat), i < x.nP ∧ e < x.lenP i → x.iB i e = x.iB i e)
    (V.need (preE (Cf.mk x_2.W x_2.L x_2.C x_2.T x_2.D x_2.H x_2.B x_2.A x_2.P x_2.nP x_2.rc x_2.nU x_2.cu (fun (e : Nat) => x_2.lenP e) (fun (e : Nat) => x_2.FC e) (fun (i e : Nat) => x_2.iO i e) (fun (i e : Nat) => x_2.iA i e) (fun (i e : Nat) => x_2.iB i e) (fun (e : Nat) => x_2.uP e) (fun (e : Nat) => x_2.uL e) fun (e : Nat) => x_2.uD e))
    (V.br (!eqCB (Cf.mk x_2.W x_2.L x_2.C x_2.T x_2.D x_2.H x_2.B x_2.A x_2.P x_2.nP x_2.rc x_2.nU x_2.cu (fun (e : Nat) => x_2.lenP e) (fun (e : Nat) => x_2.FC e) (fun (i e : Nat) => x_2.iO i e) (fun (i e : Nat) => x_2.iA i e) (fun (i e : Nat) => x_2.iB i e) (fun (e : Nat) => x_2.uP e) (fun (e : Nat) => x_2.uL e) fun (e : Nat) => x_2.uD e) (Cf.mk x.W x.L x.C x.T x.D x.H x.B x.A x.P x.nP x.rc x.nU x.cu (fun (e : Nat) => x.lenP e) (fun (e : Nat) => x.FC e) (fun (i e : Nat) => x.iO i e) (fun (i e : Nat) => x.iA i e) (fun (i e : Nat) => x.iB i e) (fun (e : Nat) => x.uP e) (fun (e : Nat) => x.uL e) fun (e : Nat) => x.uD e))
    (V.bad 420)
    (V.br (decide ((↑x_1.fst : Int) > Int.ofNat 0))
    (V.need (Int.ofNat 0 ≤ IntKind.i64.wrap ((↑x_1.fst : Int) - Int.ofNat 1) ∧ IntKind.i64.wrap ((↑x_1.fst : Int) - Int.ofNat 1) < (↑x_1.fst : Int))
    (V.need (0 < 1 ∧ 0 + (IntKind.i64.wrap ((↑x_1.fst : Int) - Int.ofNat 1)).toNat < x_1.fst)
    (V.need (0 < 1 ∧ 0 + (IntKind.i64.wrap ((↑x_1.fst : Int) - Int.ofNat 1)).toNat < x_1.fst)
    (V.br (x_1.snd.snd.fst (0 + (IntKind.i64.wrap ((↑x_1.fst : Int) - Int.ofNat 1)).toNat) == Int.ofNat 0)
    (V.bad 420)
    (V.need (Int.ofNat 1 ≠ Int.ofNat 0)
    (V.need (0 < 1 ∧ 0 < 1)
    (V.need (0 < 1 ∧ 0 < 1)
    (V.need (Int.ofNat 1 ≠ Int.ofNat 0)
    (V.need (Int.ofNat 7 ≠ Int.ofNat 0)
    (V.need (Int.ofNat 1 ≠ Int.ofNat 0)
    (V.br (decide (IntKind.i64.wrap ((↑x_1.fst : Int) + Int.ofNat 1) < Int.ofNat 1))
    (V.br (Int.ofNat 0 == (↑x_1.fst : Int)) V.ok
    (V.need (Int.ofNat 0 ≤ Int.ofNat 0 ∧ Int.ofNat 0 ≤ Int.ofNat 0 ∧ Int.ofNat 0 ≤ (↑x_1.snd.fst : Int))
    (V.need (0 = 0)
    (V.need (x_1.snd.fst = x_1.snd.fst)
    (V.need (1 ≤ 1)
    (V.need (∀ (i : Nat), i < 1 → 0 ≤ x_1.fst)
    (V.need (∀ (i e : Nat), i < 1 ∧ e < 0 → x_1.snd.snd.fst e = x_1.snd.snd.fst e)
    (V.need (U8 0 fun (e : Nat) => x_1.snd.snd.fst e)
    (V.need (∃ (x : Cf), IsDec (fun (e : Nat) => x_1.snd.snd.fst e) 0 x)
    (V.any Cf (IsDec (fun (e : Nat) => x_1.snd.snd.fst e) 0) fun (x_3 : Cf) => V.need (0 < 1 ∧ 0 < 1)
    (V.need (0 < 1 ∧ 0 < 1)
    (V.need (0 < 1 ∧ 0 < 1)
    (V.need (0 < 1 ∧ 0 < 1)
    (V.need (0 < 1 ∧ 0 < 1)
    (V.need (0 < 1 ∧ 0 < 1)
    (V.need (0 < 1 ∧ 0 < 1)
    (V.need (0 < 1 ∧ 0 < 1)
    (V.need (0 < 1 ∧ 0 < 1)
    (V.need (0 < 1 ∧ 0 < 1)
    (V.need (0 < 1 ∧ 0 < 1)
    (V.need (x_3.W = x_3.W)
    (V.need (x_3.L = x_3.L)
    (V.need (x_3.C = x_3.C)
    (V.need (x_3.T = x_3.T)
    (V.need (x_3.D = x_3.D)
    (V.need (x_3.H = x_3.H)
    (V.need (x_3.B = x_3.B)
    (V.need (x_3.A = x_3.A)
    (V.need (x_3.P = x_3.P)
    (V.need (x_3.nP = x_3.nP)
    (V.need (x_3.rc = x_3.rc)
    (V.need (x_3.nU = x_3.nU)
    (V.need (x_3.cu = x_3.cu)
    (V.need (x.W = x.W)
    (V.need (x.L = x.L)
    (V.need (x.C = x.C)
    (V.need (x.T = x.T)
    (V.need (x.D = x.D)
    (V.need (x.H = x.H)
    (V.need (x.B = x.B)
    (V.need (x.A = x.A)
    (V.need (x.P = x.P)
    (V.need (x.nP = x.nP)
    (V.need (x.rc = x.rc)
    (V.need (x.nU = x.nU)
    (V.need (x.cu = x.cu)
    (V.need (1 ≤ 1)
    (V.need (x_3.nP ≤ x_3.nP ∧ x_3.nP ≤ x_3.rc)
    (V.need (∀ (i e : Nat), i = 0 ∧ e < x_3.nP → e = e)
    (V.need (∀ (i e : Nat), i = 0 ∧ e < x_3.nP → x_3.lenP e = x_3.lenP e)
    (V.need (∀ (i e : Nat), i = 0 ∧ e < x_3.nP → x_3.FC e = x_3.FC e)
    (V.need (1 ≤ 1)
    (V.need (x_3.nU ≤ x_3.nU ∧ x_3.nU ≤ x_3.cu)
    (V.need (∀ (i e : Nat), i = 0 ∧ e < x_3.nU → x_3.uP e = x_3.uP e)
    (V.need (∀ (i e : Nat), i = 0 ∧ e < x_3.nU → x_3.uL e = x_3.uL e)
    (V.need (∀ (i e : Nat), i = 0 ∧ e < x_3.nU → x_3.uD e = x_3.uD e)
    (V.need (∀ (i : Nat), i < x_3.nP → x_3.lenP i ≤ gd x_3.nP x_3.lenP i ∧ x_3.lenP i ≤ gd x_3.nP x_3.FC i)
    (V.need (∀ (i e : Nat), i < x_3.nP ∧ e < x_3.lenP i → x_3.iO i e = x_3.iO i e)
    (V.need (∀ (i e : Nat), i < x_3.nP ∧ e < x_3.lenP i → x_3.iA i e = x_3.iA i e)
    (V.need (∀ (i e : Nat), i < x_3.nP ∧ e < x_3.lenP i → x_3.iB i e = x_3.iB i e)
    (V.need (1 ≤ 1)
    (V.need (x.nP ≤ x.nP ∧ x.nP ≤ x.rc)
    (V.need (∀ (i e : Nat), i = 0 ∧ e < x.nP → e = e)
    (V.need (∀ (i e : Nat), i = 0 ∧ e < x.nP → x.lenP e = x.lenP e)
    (V.need (∀ (i e : Nat), i = 0 ∧ e < x.nP → x.FC e = x.FC e)
    (V.need (1 ≤ 1)
    (V.need (x.nU ≤ x.nU ∧ x.nU ≤ x.cu)
    (V.need (∀ (i e : Nat), i = 0 ∧ e < x.nU → x.uP e = x.uP e)
    (V.need (∀ (i e : Nat), i = 0 ∧ e < x.nU → x.uL e = x.uL e)
    (V.need (∀ (i e : Nat), i = 0 ∧ e < x.nU → x.uD e = x.uD e)
    (V.need (∀ (i : Nat), i < x.nP → x.lenP i ≤ gd x.nP x.lenP i ∧ x.lenP i ≤ gd x.nP x.FC i)
    (V.need (∀ (i e : Nat), i < x.nP ∧ e < x.lenP i → x.iO i e = x.iO i e)
    (V.need (∀ (i e : Nat), i < x.nP ∧ e < x.lenP i → x.iA i e = x.iA i e)
    (V.need (∀ (i e : Nat), i < x.nP ∧ e < x.lenP i → x.iB i e = x.iB i e)
    (V.need (preE (Cf.mk x_3.W x_3.L x_3.C x_3.T x_3.D x_3.H x_3.B x_3.A x_3.P x_3.nP x_3.rc x_3.nU x_3.cu (fun (e : Nat) => x_3.lenP e) (fun (e : Nat) => x_3.FC e) (fun (i e : Nat) => x_3.iO i e) (fun (i e : Nat) => x_3.iA i e) (fun (i e : Nat) => x_3.iB i e) (fun (e : Nat) => x_3.uP e) (fun (e : Nat) => x_3.uL e) fun (e : Nat) => x_3.uD e))
    (V.need ((!eqCB (Cf.mk x_3.W x_3.L x_3.C x_3.T x_3.D x_3.H x_3.B x_3.A x_3.P x_3.nP x_3.rc x_3.nU x_3.cu (fun (e : Nat) => x_3.lenP e) (fun (e : Nat) => x_3.FC e) (fun (i e : Nat) => x_3.iO i e) (fun (i e : Nat) => x_3.iA i e) (fun (i e : Nat) => x_3.iB i e) (fun (e : Nat) => x_3.uP e) (fun (e : Nat) => x_3.uL e) fun (e : Nat) => x_3.uD e) (Cf.mk x.W x.L x.C x.T x.D x.H x.B x.A x.P x.nP x.rc x.nU x.cu (fun (e : Nat) => x.lenP e) (fun (e : Nat) => x.FC e) (fun (i e : Nat) => x.iO i e) (fun (i e : Nat) => x.iA i e) (fun (i e : Nat) => x.iB i e) (fun (e : Nat) => x.uP e) (fun (e : Nat) => x.uL e) fun (e : Nat) => x.uD e)) = true) V.ok))))))))))))))))))))))))))))))))))))))))))))))))))))))))))))))))))))))))))))
    (V.need (IntKind.i64.wrap ((↑x_1.fst : Int) + Int.ofNat 1) ≠ Int.ofNat 0)
    (V.br (decide ((IntKind.i64.wrap (cut.tdiv (Int.ofNat 1))).tmod (IntKind.i64.wrap ((↑x_1.fst : Int) + Int.ofNat 1)) < Int.ofNat 0))
    (V.need (IntKind.i64.wrap ((↑x_1.fst : Int) + Int.ofNat 1) ≠ Int.ofNat 0)
    (V.br (IntKind.i64.wrap ((IntKind.i64.wrap (cut.tdiv (Int.ofNat 1))).tmod (IntKind.i64.wrap ((↑x_1.fst : Int) + Int.ofNat 1)) + IntKind.i64.wrap ((↑x_1.fst : Int) + Int.ofNat 1)) == (↑x_1.fst : Int)) V.ok
    (V.need (Int.ofNat 0 ≤ Int.ofNat 0 ∧ Int.ofNat 0 ≤ IntKind.i64.wrap ((IntKind.i64.wrap (cut.tdiv (Int.ofNat 1))).tmod (IntKind.i64.wrap ((↑x_1.fst : Int) + Int.ofNat 1)) + IntKind.i64.wrap ((↑x_1.fst : Int) + Int.ofNat 1)) ∧ IntKind.i64.wrap ((IntKind.i64.wrap (cut.tdiv (Int.ofNat 1))).tmod (IntKind.i64.wrap ((↑x_1.fst : Int) + Int.ofNat 1)) + IntKind.i64.wrap ((↑x_1.fst : Int) + Int.ofNat 1)) ≤ (↑x_1.snd.fst : Int))
    (V.need ((IntKind.i64.wrap ((IntKind.i64.wrap (cut.tdiv (Int.ofNat 1))).tmod (IntKind.i64.wrap ((↑x_1.fst : Int) + Int.ofNat 1)) + IntKind.i64.wrap ((↑x_1.fst : Int) + Int.ofNat 1))).toNat = (IntKind.i64.wrap ((IntKind.i64.wrap (cut.tdiv (Int.ofNat 1))).tmod (IntKind.i64.wrap ((↑x_1.fst : Int) + Int.ofNat 1)) + IntKind.i64.wrap ((↑x_1.fst : Int) + Int.ofNat 1))).toNat)
    (V.need (x_1.snd.fst = x_1.snd.fst)
    (V.need (1 ≤ 1)
    (V.need (∀ (i : Nat), i < 1 → (IntKind.i64.wrap ((IntKind.i64.wrap (cut.tdiv (Int.ofNat 1))).tmod (IntKind.i64.wrap ((↑x_1.fst : Int) + Int.ofNat 1)) + IntKind.i64.wrap ((↑x_1.fst : Int) + Int.ofNat 1))).toNat ≤ x_1.fst)
    (V.need (∀ (i e : Nat), i < 1 ∧ e < (IntKind.i64.wrap ((IntKind.i64.wrap (cut.tdiv (Int.ofNat 1))).tmod (IntKind.i64.wrap ((↑x_1.fst : Int) + Int.ofNat 1)) + IntKind.i64.wrap ((↑x_1.fst : Int) + Int.ofNat 1))).toNat → x_1.snd.snd.fst e = x_1.snd.snd.fst e)
    (V.need (U8 (IntKind.i64.wrap ((IntKind.i64.wrap (cut.tdiv (Int.ofNat 1))).tmod (IntKind.i64.wrap ((↑x_1.fst : Int) + Int.ofNat 1)) + IntKind.i64.wrap ((↑x_1.fst : Int) + Int.ofNat 1))).toNat fun (e : Nat) => x_1.snd.snd.fst e)
    (V.need (∃ (x : Cf), IsDec (fun (e : Nat) => x_1.snd.snd.fst e) (IntKind.i64.wrap ((IntKind.i64.wrap (cut.tdiv (Int.ofNat 1))).tmod (IntKind.i64.wrap ((↑x_1.fst : Int) + Int.ofNat 1)) + IntKind.i64.wrap ((↑x_1.fst : Int) + Int.ofNat 1))).toNat x)
    (V.any Cf (IsDec (fun (e : Nat) => x_1.snd.snd.fst e) (IntKind.i64.wrap ((IntKind.i64.wrap (cut.tdiv (Int.ofNat 1))).tmod (IntKind.i64.wrap ((↑x_1.fst : Int) + Int.ofNat 1)) + IntKind.i64.wrap ((↑x_1.fst : Int) + Int.ofNat 1))).toNat) fun (x_3 : Cf) => V.need (0 < 1 ∧ 0 < 1)
    (V.need (0 < 1 ∧ 0 < 1)
    (V.need (0 < 1 ∧ 0 < 1)
    (V.need (0 < 1 ∧ 0 < 1)
    (V.need (0 < 1 ∧ 0 < 1)
    (V.need (0 < 1 ∧ 0 < 1)
    (V.need (0 < 1 ∧ 0 < 1)
    (V.need (0 < 1 ∧ 0 < 1)
    (V.need (0 < 1 ∧ 0 < 1)
    (V.need (0 < 1 ∧ 0 < 1)
    (V.need (0 < 1 ∧ 0 < 1)
    (V.need (x_3.W = x_3.W)
    (V.need (x_3.L = x_3.L)
    (V.need (x_3.C = x_3.C)
    (V.need (x_3.T = x_3.T)
    (V.need (x_3.D = x_3.D)
    (V.need (x_3.H = x_3.H)
    (V.need (x_3.B = x_3.B)
    (V.need (x_3.A = x_3.A)
    (V.need (x_3.P = x_3.P)
    (V.need (x_3.nP = x_3.nP)
    (V.need (x_3.rc = x_3.rc)
    (V.need (x_3.nU = x_3.nU)
    (V.need (x_3.cu = x_3.cu)
    (V.need (x.W = x.W)
    (V.need (x.L = x.L)
    (V.need (x.C = x.C)
    (V.need (x.T = x.T)
    (V.need (x.D = x.D)
    (V.need (x.H = x.H)
    (V.need (x.B = x.B)
    (V.need (x.A = x.A)
    (V.need (x.P = x.P)
    (V.need (x.nP = x.nP)
    (V.need (x.rc = x.rc)
    (V.need (x.nU = x.nU)
    (V.need (x.cu = x.cu)
    (V.need (1 ≤ 1)
    (V.need (x_3.nP ≤ x_3.nP ∧ x_3.nP ≤ x_3.rc)
    (V.need (∀ (i e : Nat), i = 0 ∧ e < x_3.nP → e = e)
    (V.need (∀ (i e : Nat), i = 0 ∧ e < x_3.nP → x_3.lenP e = x_3.lenP e)
    (V.need (∀ (i e : Nat), i = 0 ∧ e < x_3.nP → x_3.FC e = x_3.FC e)
    (V.need (1 ≤ 1)
    (V.need (x_3.nU ≤ x_3.nU ∧ x_3.nU ≤ x_3.cu)
    (V.need (∀ (i e : Nat), i = 0 ∧ e < x_3.nU → x_3.uP e = x_3.uP e)
    (V.need (∀ (i e : Nat), i = 0 ∧ e < x_3.nU → x_3.uL e = x_3.uL e)
    (V.need (∀ (i e : Nat), i = 0 ∧ e < x_3.nU → x_3.uD e = x_3.uD e)
    (V.need (∀ (i : Nat), i < x_3.nP → x_3.lenP i ≤ gd x_3.nP x_3.lenP i ∧ x_3.lenP i ≤ gd x_3.nP x_3.FC i)
    (V.need (∀ (i e : Nat), i < x_3.nP ∧ e < x_3.lenP i → x_3.iO i e = x_3.iO i e)
    (V.need (∀ (i e : Nat), i < x_3.nP ∧ e < x_3.lenP i → x_3.iA i e = x_3.iA i e)
    (V.need (∀ (i e : Nat), i < x_3.nP ∧ e < x_3.lenP i → x_3.iB i e = x_3.iB i e)
    (V.need (1 ≤ 1)
    (V.need (x.nP ≤ x.nP ∧ x.nP ≤ x.rc)
    (V.need (∀ (i e : Nat), i = 0 ∧ e < x.nP → e = e)
    (V.need (∀ (i e : Nat), i = 0 ∧ e < x.nP → x.lenP e = x.lenP e)
    (V.need (∀ (i e : Nat), i = 0 ∧ e < x.nP → x.FC e = x.FC e)
    (V.need (1 ≤ 1)
    (V.need (x.nU ≤ x.nU ∧ x.nU ≤ x.cu)
    (V.need (∀ (i e : Nat), i = 0 ∧ e < x.nU → x.uP e = x.uP e)
    (V.need (∀ (i e : Nat), i = 0 ∧ e < x.nU → x.uL e = x.uL e)
    (V.need (∀ (i e : Nat), i = 0 ∧ e < x.nU → x.uD e = x.uD e)
    (V.need (∀ (i : Nat), i < x.nP → x.lenP i ≤ gd x.nP x.lenP i ∧ x.lenP i ≤ gd x.nP x.FC i)
    (V.need (∀ (i e : Nat), i < x.nP ∧ e < x.lenP i → x.iO i e = x.iO i e)
    (V.need (∀ (i e : Nat), i < x.nP ∧ e < x.lenP i → x.iA i e = x.iA i e)
    (V.need (∀ (i e : Nat), i < x.nP ∧ e < x.lenP i → x.iB i e = x.iB i e)
    (V.need (preE (Cf.mk x_3.W x_3.L x_3.C x_3.T x_3.D x_3.H x_3.B x_3.A x_3.P x_3.nP x_3.rc x_3.nU x_3.cu (fun (e : Nat) => x_3.lenP e) (fun (e : Nat) => x_3.FC e) (fun (i e : Nat) => x_3.iO i e) (fun (i e : Nat) => x_3.iA i e) (fun (i e : Nat) => x_3.iB i e) (fun (e : Nat) => x_3.uP e) (fun (e : Nat) => x_3.uL e) fun (e : Nat) => x_3.uD e))
    (V.need ((!eqCB (Cf.mk x_3.W x_3.L x_3.C x_3.T x_3.D x_3.H x_3.B x_3.A x_3.P x_3.nP x_3.rc x_3.nU x_3.cu (fun (e : Nat) => x_3.lenP e) (fun (e : Nat) => x_3.FC e) (fun (i e : Nat) => x_3.iO i e) (fun (i e : Nat) => x_3.iA i e) (fun (i e : Nat) => x_3.iB i e) (fun (e : Nat) => x_3.uP e) (fun (e : Nat) => x_3.uL e) fun (e : Nat) => x_3.uD e) (Cf.mk x.W x.L x.C x.T x.D x.H x.B x.A x.P x.nP x.rc x.nU x.cu (fun (e : Nat) => x.lenP e) (fun (e : Nat) => x.FC e) (fun (i e : Nat) => x.iO i e) (fun (i e : Nat) => x.iA i e) (fun (i e : Nat) => x.iB i e) (fun (e : Nat) => x.uP e) (fun (e : Nat) => x.uL e) fun (e : Nat) => x.uD e)) = true) V.ok)))))))))))))))))))))))))))))))))))))))))))))))))))))))))))))))))))))))))))))
    (V.need (IntKind.i64.wrap ((↑x_1.fst : Int) + Int.ofNat 1) ≠ Int.ofNat 0)
    (V.br ((IntKind.i64.wrap (cut.tdiv (Int.ofNat 1))).tmod (IntKind.i64.wrap ((↑x_1.fst : Int) + Int.ofNat 1)) == (↑x_1.fst : Int)) V.ok
    (V.need (Int.ofNat 0 ≤ Int.ofNat 0 ∧ Int.ofNat 0 ≤ (IntKind.i64.wrap (cut.tdiv (Int.ofNat 1))).tmod (IntKind.i64.wrap ((↑x_1.fst : Int) + Int.ofNat 1)) ∧ (IntKind.i64.wrap (cut.tdiv (Int.ofNat 1))).tmod (IntKind.i64.wrap ((↑x_1.fst : Int) + Int.ofNat 1)) ≤ (↑x_1.snd.fst : Int))
    (V.need (((IntKind.i64.wrap (cut.tdiv (Int.ofNat 1))).tmod (IntKind.i64.wrap ((↑x_1.fst : Int) + Int.ofNat 1))).toNat = ((IntKind.i64.wrap (cut.tdiv (Int.ofNat 1))).tmod (IntKind.i64.wrap ((↑x_1.fst : Int) + Int.ofNat 1))).toNat)
    (V.need (x_1.snd.fst = x_1.snd.fst)
    (V.need (1 ≤ 1)
    (V.need (∀ (i : Nat), i < 1 → ((IntKind.i64.wrap (cut.tdiv (Int.ofNat 1))).tmod (IntKind.i64.wrap ((↑x_1.fst : Int) + Int.ofNat 1))).toNat ≤ x_1.fst)
    (V.need (∀ (i e : Nat), i < 1 ∧ e < ((IntKind.i64.wrap (cut.tdiv (Int.ofNat 1))).tmod (IntKind.i64.wrap ((↑x_1.fst : Int) + Int.ofNat 1))).toNat → x_1.snd.snd.fst e = x_1.snd.snd.fst e)
    (V.need (U8 ((IntKind.i64.wrap (cut.tdiv (Int.ofNat 1))).tmod (IntKind.i64.wrap ((↑x_1.fst : Int) + Int.ofNat 1))).toNat fun (e : Nat) => x_1.snd.snd.fst e)
    (V.need (∃ (x : Cf), IsDec (fun (e : Nat) => x_1.snd.snd.fst e) ((IntKind.i64.wrap (cut.tdiv (Int.ofNat 1))).tmod (IntKind.i64.wrap ((↑x_1.fst : Int) + Int.ofNat 1))).toNat x)
    (V.any Cf (IsDec (fun (e : Nat) => x_1.snd.snd.fst e) ((IntKind.i64.wrap (cut.tdiv (Int.ofNat 1))).tmod (IntKind.i64.wrap ((↑x_1.fst : Int) + Int.ofNat 1))).toNat) fun (x_3 : Cf) => V.need (0 < 1 ∧ 0 < 1)
    (V.need (0 < 1 ∧ 0 < 1)
    (V.need (0 < 1 ∧ 0 < 1)
    (V.need (0 < 1 ∧ 0 < 1)
    (V.need (0 < 1 ∧ 0 < 1)
    (V.need (0 < 1 ∧ 0 < 1)
    (V.need (0 < 1 ∧ 0 < 1)
    (V.need (0 < 1 ∧ 0 < 1)
    (V.need (0 < 1 ∧ 0 < 1)
    (V.need (0 < 1 ∧ 0 < 1)
    (V.need (0 < 1 ∧ 0 < 1)
    (V.need (x_3.W = x_3.W)
    (V.need (x_3.L = x_3.L)
    (V.need (x_3.C = x_3.C)
    (V.need (x_3.T = x_3.T)
    (V.need (x_3.D = x_3.D)
    (V.need (x_3.H = x_3.H)
    (V.need (x_3.B = x_3.B)
    (V.need (x_3.A = x_3.A)
    (V.need (x_3.P = x_3.P)
    (V.need (x_3.nP = x_3.nP)
    (V.need (x_3.rc = x_3.rc)
    (V.need (x_3.nU = x_3.nU)
    (V.need (x_3.cu = x_3.cu)
    (V.need (x.W = x.W)
    (V.need (x.L = x.L)
    (V.need (x.C = x.C)
    (V.need (x.T = x.T)
    (V.need (x.D = x.D)
    (V.need (x.H = x.H)
    (V.need (x.B = x.B)
    (V.need (x.A = x.A)
    (V.need (x.P = x.P)
    (V.need (x.nP = x.nP)
    (V.need (x.rc = x.rc)
    (V.need (x.nU = x.nU)
    (V.need (x.cu = x.cu)
    (V.need (1 ≤ 1)
    (V.need (x_3.nP ≤ x_3.nP ∧ x_3.nP ≤ x_3.rc)
    (V.need (∀ (i e : Nat), i = 0 ∧ e < x_3.nP → e = e)
    (V.need (∀ (i e : Nat), i = 0 ∧ e < x_3.nP → x_3.lenP e = x_3.lenP e)
    (V.need (∀ (i e : Nat), i = 0 ∧ e < x_3.nP → x_3.FC e = x_3.FC e)
    (V.need (1 ≤ 1)
    (V.need (x_3.nU ≤ x_3.nU ∧ x_3.nU ≤ x_3.cu)
    (V.need (∀ (i e : Nat), i = 0 ∧ e < x_3.nU → x_3.uP e = x_3.uP e)
    (V.need (∀ (i e : Nat), i = 0 ∧ e < x_3.nU → x_3.uL e = x_3.uL e)
    (V.need (∀ (i e : Nat), i = 0 ∧ e < x_3.nU → x_3.uD e = x_3.uD e)
    (V.need (∀ (i : Nat), i < x_3.nP → x_3.lenP i ≤ gd x_3.nP x_3.lenP i ∧ x_3.lenP i ≤ gd x_3.nP x_3.FC i)
    (V.need (∀ (i e : Nat), i < x_3.nP ∧ e < x_3.lenP i → x_3.iO i e = x_3.iO i e)
    (V.need (∀ (i e : Nat), i < x_3.nP ∧ e < x_3.lenP i → x_3.iA i e = x_3.iA i e)
    (V.need (∀ (i e : Nat), i < x_3.nP ∧ e < x_3.lenP i → x_3.iB i e = x_3.iB i e)
    (V.need (1 ≤ 1)
    (V.need (x.nP ≤ x.nP ∧ x.nP ≤ x.rc)
    (V.need (∀ (i e : Nat), i = 0 ∧ e < x.nP → e = e)
    (V.need (∀ (i e : Nat), i = 0 ∧ e < x.nP → x.lenP e = x.lenP e)
    (V.need (∀ (i e : Nat), i = 0 ∧ e < x.nP → x.FC e = x.FC e)
    (V.need (1 ≤ 1)
    (V.need (x.nU ≤ x.nU ∧ x.nU ≤ x.cu)
    (V.need (∀ (i e : Nat), i = 0 ∧ e < x.nU → x.uP e = x.uP e)
    (V.need (∀ (i e : Nat), i = 0 ∧ e < x.nU → x.uL e = x.uL e)
    (V.need (∀ (i e : Nat), i = 0 ∧ e < x.nU → x.uD e = x.uD e)
    (V.need (∀ (i : Nat), i < x.nP → x.lenP i ≤ gd x.nP x.lenP i ∧ x.lenP i ≤ gd x.nP x.FC i)
    (V.need (∀ (i e : Nat), i < x.nP ∧ e < x.lenP i → x.iO i e = x.iO i e)
    (V.need (∀ (i e : Nat), i < x.nP ∧ e < x.lenP i → x.iA i e = x.iA i e)
    (V.need (∀ (i e : Nat), i < x.nP ∧ e < x.lenP i → x.iB i e = x.iB i e)
    (V.need (preE (Cf.mk x_3.W x_3.L x_3.C x_3.T x_3.D x_3.H x_3.B x_3.A x_3.P x_3.nP x_3.rc x_3.nU x_3.cu (fun (e : Nat) => x_3.lenP e) (fun (e : Nat) => x_3.FC e) (fun (i e : Nat) => x_3.iO i e) (fun (i e : Nat) => x_3.iA i e) (fun (i e : Nat) => x_3.iB i e) (fun (e : Nat) => x_3.uP e) (fun (e : Nat) => x_3.uL e) fun (e : Nat) => x_3.uD e))
    (V.need ((!eqCB (Cf.mk x_3.W x_3.L x_3.C x_3.T x_3.D x_3.H x_3.B x_3.A x_3.P x_3.nP x_3.rc x_3.nU x_3.cu (fun (e : Nat) => x_3.lenP e) (fun (e : Nat) => x_3.FC e) (fun (i e : Nat) => x_3.iO i e) (fun (i e : Nat) => x_3.iA i e) (fun (i e : Nat) => x_3.iB i e) (fun (e : Nat) => x_3.uP e) (fun (e : Nat) => x_3.uL e) fun (e : Nat) => x_3.uD e) (Cf.mk x.W x.L x.C x.T x.D x.H x.B x.A x.P x.nP x.rc x.nU x.cu (fun (e : Nat) => x.lenP e) (fun (e : Nat) => x.FC e) (fun (i e : Nat) => x.iO i e) (fun (i e : Nat) => x.iA i e) (fun (i e : Nat) => x.iB i e) (fun (e : Nat) => x.uP e) (fun (e : Nat) => x.uL e) fun (e : Nat) => x.uD e)) = true) V.ok))))))))))))))))))))))))))))))))))))))))))))))))))))))))))))))))))))))))))))))))))))))))))
    (V.need (Int.ofNat 1 ≠ Int.ofNat 0)
    (V.need (0 < 1 ∧ 0 < 1)
    (V.need (0 < 1 ∧ 0 < 1)
    (V.need (Int.ofNat 1 ≠ Int.ofNat 0)
    (V.need (Int.ofNat 7 ≠ Int.ofNat 0)
    (V.need (Int.ofNat 1 ≠ Int.ofNat 0)
    (V.br (decide (IntKind.i64.wrap ((↑x_1.fst : Int) + Int.ofNat 1) < Int.ofNat 1))
    (V.br (Int.ofNat 0 == (↑x_1.fst : Int)) V.ok
    (V.need (Int.ofNat 0 ≤ Int.ofNat 0 ∧ Int.ofNat 0 ≤ Int.ofNat 0 ∧ Int.ofNat 0 ≤ (↑x_1.snd.fst : Int))
    (V.need (0 = 0)
    (V.need (x_1.snd.fst = x_1.snd.fst)
    (V.need (1 ≤ 1)
    (V.need (∀ (i : Nat), i < 1 → 0 ≤ x_1.fst)
    (V.need (∀ (i e : Nat), i < 1 ∧ e < 0 → x_1.snd.snd.fst e = x_1.snd.snd.fst e)
    (V.need (U8 0 fun (e : Nat) => x_1.snd.snd.fst e)
    (V.need (∃ (x : Cf), IsDec (fun (e : Nat) => x_1.snd.snd.fst e) 0 x)
    (V.any Cf (IsDec (fun (e : Nat) => x_1.snd.snd.fst e) 0) fun (x_3 : Cf) => V.need (0 < 1 ∧ 0 < 1)
    (V.need (0 < 1 ∧ 0 < 1)
    (V.need (0 < 1 ∧ 0 < 1)
    (V.need (0 < 1 ∧ 0 < 1)
    (V.need (0 < 1 ∧ 0 < 1)
    (V.need (0 < 1 ∧ 0 < 1)
    (V.need (0 < 1 ∧ 0 < 1)
    (V.need (0 < 1 ∧ 0 < 1)
    (V.need (0 < 1 ∧ 0 < 1)
    (V.need (0 < 1 ∧ 0 < 1)
    (V.need (0 < 1 ∧ 0 < 1)
    (V.need (x_3.W = x_3.W)
    (V.need (x_3.L = x_3.L)
    (V.need (x_3.C = x_3.C)
    (V.need (x_3.T = x_3.T)
    (V.need (x_3.D = x_3.D)
    (V.need (x_3.H = x_3.H)
    (V.need (x_3.B = x_3.B)
    (V.need (x_3.A = x_3.A)
    (V.need (x_3.P = x_3.P)
    (V.need (x_3.nP = x_3.nP)
    (V.need (x_3.rc = x_3.rc)
    (V.need (x_3.nU = x_3.nU)
    (V.need (x_3.cu = x_3.cu)
    (V.need (x.W = x.W)
    (V.need (x.L = x.L)
    (V.need (x.C = x.C)
    (V.need (x.T = x.T)
    (V.need (x.D = x.D)
    (V.need (x.H = x.H)
    (V.need (x.B = x.B)
    (V.need (x.A = x.A)
    (V.need (x.P = x.P)
    (V.need (x.nP = x.nP)
    (V.need (x.rc = x.rc)
    (V.need (x.nU = x.nU)
    (V.need (x.cu = x.cu)
    (V.need (1 ≤ 1)
    (V.need (x_3.nP ≤ x_3.nP ∧ x_3.nP ≤ x_3.rc)
    (V.need (∀ (i e : Nat), i = 0 ∧ e < x_3.nP → e = e)
    (V.need (∀ (i e : Nat), i = 0 ∧ e < x_3.nP → x_3.lenP e = x_3.lenP e)
    (V.need (∀ (i e : Nat), i = 0 ∧ e < x_3.nP → x_3.FC e = x_3.FC e)
    (V.need (1 ≤ 1)
    (V.need (x_3.nU ≤ x_3.nU ∧ x_3.nU ≤ x_3.cu)
    (V.need (∀ (i e : Nat), i = 0 ∧ e < x_3.nU → x_3.uP e = x_3.uP e)
    (V.need (∀ (i e : Nat), i = 0 ∧ e < x_3.nU → x_3.uL e = x_3.uL e)
    (V.need (∀ (i e : Nat), i = 0 ∧ e < x_3.nU → x_3.uD e = x_3.uD e)
    (V.need (∀ (i : Nat), i < x_3.nP → x_3.lenP i ≤ gd x_3.nP x_3.lenP i ∧ x_3.lenP i ≤ gd x_3.nP x_3.FC i)
    (V.need (∀ (i e : Nat), i < x_3.nP ∧ e < x_3.lenP i → x_3.iO i e = x_3.iO i e)
    (V.need (∀ (i e : Nat), i < x_3.nP ∧ e < x_3.lenP i → x_3.iA i e = x_3.iA i e)
    (V.need (∀ (i e : Nat), i < x_3.nP ∧ e < x_3.lenP i → x_3.iB i e = x_3.iB i e)
    (V.need (1 ≤ 1)
    (V.need (x.nP ≤ x.nP ∧ x.nP ≤ x.rc)
    (V.need (∀ (i e : Nat), i = 0 ∧ e < x.nP → e = e)
    (V.need (∀ (i e : Nat), i = 0 ∧ e < x.nP → x.lenP e = x.lenP e)
    (V.need (∀ (i e : Nat), i = 0 ∧ e < x.nP → x.FC e = x.FC e)
    (V.need (1 ≤ 1)
    (V.need (x.nU ≤ x.nU ∧ x.nU ≤ x.cu)
    (V.need (∀ (i e : Nat), i = 0 ∧ e < x.nU → x.uP e = x.uP e)
    (V.need (∀ (i e : Nat), i = 0 ∧ e < x.nU → x.uL e = x.uL e)
    (V.need (∀ (i e : Nat), i = 0 ∧ e < x.nU → x.uD e = x.uD e)
    (V.need (∀ (i : Nat), i < x.nP → x.lenP i ≤ gd x.nP x.lenP i ∧ x.lenP i ≤ gd x.nP x.FC i)
    (V.need (∀ (i e : Nat), i < x.nP ∧ e < x.lenP i → x.iO i e = x.iO i e)
    (V.need (∀ (i e : Nat), i < x.nP ∧ e < x.lenP i → x.iA i e = x.iA i e)
    (V.need (∀ (i e : Nat), i < x.nP ∧ e < x.lenP i → x.iB i e = x.iB i e)
    (V.need (preE (Cf.mk x_3.W x_3.L x_3.C x_3.T x_3.D x_3.H x_3.B x_3.A x_3.P x_3.nP x_3.rc x_3.nU x_3.cu (fun (e : Nat) => x_3.lenP e) (fun (e : Nat) => x_3.FC e) (fun (i e : Nat) => x_3.iO i e) (fun (i e : Nat) => x_3.iA i e) (fun (i e : Nat) => x_3.iB i e) (fun (e : Nat) => x_3.uP e) (fun (e : Nat) => x_3.uL e) fun (e : Nat) => x_3.uD e))
    (V.need ((!eqCB (Cf.mk x_3.W x_3.L x_3.C x_3.T x_3.D x_3.H x_3.B x_3.A x_3.P x_3.nP x_3.rc x_3.nU x_3.cu (fun (e : Nat) => x_3.lenP e) (fun (e : Nat) => x_3.FC e) (fun (i e : Nat) => x_3.iO i e) (fun (i e : Nat) => x_3.iA i e) (fun (i e : Nat) => x_3.iB i e) (fun (e : Nat) => x_3.uP e) (fun (e : Nat) => x_3.uL e) fun (e : Nat) => x_3.uD e) (Cf.mk x.W x.L x.C x.T x.D x.H x.B x.A x.P x.nP x.rc x.nU x.cu (fun (e : Nat) => x.lenP e) (fun (e : Nat) => x.FC e) (fun (i e : Nat) => x.iO i e) (fun (i e : Nat) => x.iA i e) (fun (i e : Nat) => x.iB i e) (fun (e : Nat) => x.uP e) (fun (e : Nat) => x.uL e) fun (e : Nat) => x.uD e)) = true) V.ok))))))))))))))))))))))))))))))))))))))))))))))))))))))))))))))))))))))))))))
    (V.need (IntKind.i64.wrap ((↑x_1.fst : Int) + Int.ofNat 1) ≠ Int.ofNat 0)
    (V.br (decide ((IntKind.i64.wrap (cut.tdiv (Int.ofNat 1))).tmod (IntKind.i64.wrap ((↑x_1.fst : Int) + Int.ofNat 1)) < Int.ofNat 0))
    (V.need (IntKind.i64.wrap ((↑x_1.fst : Int) + Int.ofNat 1) ≠ Int.ofNat 0)
    (V.br (IntKind.i64.wrap ((IntKind.i64.wrap (cut.tdiv (Int.ofNat 1))).tmod (IntKind.i64.wrap ((↑x_1.fst : Int) + Int.ofNat 1)) + IntKind.i64.wrap ((↑x_1.fst : Int) + Int.ofNat 1)) == (↑x_1.fst : Int)) V.ok
    (V.need (Int.ofNat 0 ≤ Int.ofNat 0 ∧ Int.ofNat 0 ≤ IntKind.i64.wrap ((IntKind.i64.wrap (cut.tdiv (Int.ofNat 1))).tmod (IntKind.i64.wrap ((↑x_1.fst : Int) + Int.ofNat 1)) + IntKind.i64.wrap ((↑x_1.fst : Int) + Int.ofNat 1)) ∧ IntKind.i64.wrap ((IntKind.i64.wrap (cut.tdiv (Int.ofNat 1))).tmod (IntKind.i64.wrap ((↑x_1.fst : Int) + Int.ofNat 1)) + IntKind.i64.wrap ((↑x_1.fst : Int) + Int.ofNat 1)) ≤ (↑x_1.snd.fst : Int))
    (V.need ((IntKind.i64.wrap ((IntKind.i64.wrap (cut.tdiv (Int.ofNat 1))).tmod (IntKind.i64.wrap ((↑x_1.fst : Int) + Int.ofNat 1)) + IntKind.i64.wrap ((↑x_1.fst : Int) + Int.ofNat 1))).toNat = (IntKind.i64.wrap ((IntKind.i64.wrap (cut.tdiv (Int.ofNat 1))).tmod (IntKind.i64.wrap ((↑x_1.fst : Int) + Int.ofNat 1)) + IntKind.i64.wrap ((↑x_1.fst : Int) + Int.ofNat 1))).toNat)
    (V.need (x_1.snd.fst = x_1.snd.fst)
    (V.need (1 ≤ 1)
    (V.need (∀ (i : Nat), i < 1 → (IntKind.i64.wrap ((IntKind.i64.wrap (cut.tdiv (Int.ofNat 1))).tmod (IntKind.i64.wrap ((↑x_1.fst : Int) + Int.ofNat 1)) + IntKind.i64.wrap ((↑x_1.fst : Int) + Int.ofNat 1))).toNat ≤ x_1.fst)
    (V.need (∀ (i e : Nat), i < 1 ∧ e < (IntKind.i64.wrap ((IntKind.i64.wrap (cut.tdiv (Int.ofNat 1))).tmod (IntKind.i64.wrap ((↑x_1.fst : Int) + Int.ofNat 1)) + IntKind.i64.wrap ((↑x_1.fst : Int) + Int.ofNat 1))).toNat → x_1.snd.snd.fst e = x_1.snd.snd.fst e)
    (V.need (U8 (IntKind.i64.wrap ((IntKind.i64.wrap (cut.tdiv (Int.ofNat 1))).tmod (IntKind.i64.wrap ((↑x_1.fst : Int) + Int.ofNat 1)) + IntKind.i64.wrap ((↑x_1.fst : Int) + Int.ofNat 1))).toNat fun (e : Nat) => x_1.snd.snd.fst e)
    (V.need (∃ (x : Cf), IsDec (fun (e : Nat) => x_1.snd.snd.fst e) (IntKind.i64.wrap ((IntKind.i64.wrap (cut.tdiv (Int.ofNat 1))).tmod (IntKind.i64.wrap ((↑x_1.fst : Int) + Int.ofNat 1)) + IntKind.i64.wrap ((↑x_1.fst : Int) + Int.ofNat 1))).toNat x)
    (V.any Cf (IsDec (fun (e : Nat) => x_1.snd.snd.fst e) (IntKind.i64.wrap ((IntKind.i64.wrap (cut.tdiv (Int.ofNat 1))).tmod (IntKind.i64.wrap ((↑x_1.fst : Int) + Int.ofNat 1)) + IntKind.i64.wrap ((↑x_1.fst : Int) + Int.ofNat 1))).toNat) fun (x_3 : Cf) => V.need (0 < 1 ∧ 0 < 1)
    (V.need (0 < 1 ∧ 0 < 1)
    (V.need (0 < 1 ∧ 0 < 1)
    (V.need (0 < 1 ∧ 0 < 1)
    (V.need (0 < 1 ∧ 0 < 1)
    (V.need (0 < 1 ∧ 0 < 1)
    (V.need (0 < 1 ∧ 0 < 1)
    (V.need (0 < 1 ∧ 0 < 1)
    (V.need (0 < 1 ∧ 0 < 1)
    (V.need (0 < 1 ∧ 0 < 1)
    (V.need (0 < 1 ∧ 0 < 1)
    (V.need (x_3.W = x_3.W)
    (V.need (x_3.L = x_3.L)
    (V.need (x_3.C = x_3.C)
    (V.need (x_3.T = x_3.T)
    (V.need (x_3.D = x_3.D)
    (V.need (x_3.H = x_3.H)
    (V.need (x_3.B = x_3.B)
    (V.need (x_3.A = x_3.A)
    (V.need (x_3.P = x_3.P)
    (V.need (x_3.nP = x_3.nP)
    (V.need (x_3.rc = x_3.rc)
    (V.need (x_3.nU = x_3.nU)
    (V.need (x_3.cu = x_3.cu)
    (V.need (x.W = x.W)
    (V.need (x.L = x.L)
    (V.need (x.C = x.C)
    (V.need (x.T = x.T)
    (V.need (x.D = x.D)
    (V.need (x.H = x.H)
    (V.need (x.B = x.B)
    (V.need (x.A = x.A)
    (V.need (x.P = x.P)
    (V.need (x.nP = x.nP)
    (V.need (x.rc = x.rc)
    (V.need (x.nU = x.nU)
    (V.need (x.cu = x.cu)
    (V.need (1 ≤ 1)
    (V.need (x_3.nP ≤ x_3.nP ∧ x_3.nP ≤ x_3.rc)
    (V.need (∀ (i e : Nat), i = 0 ∧ e < x_3.nP → e = e)
    (V.need (∀ (i e : Nat), i = 0 ∧ e < x_3.nP → x_3.lenP e = x_3.lenP e)
    (V.need (∀ (i e : Nat), i = 0 ∧ e < x_3.nP → x_3.FC e = x_3.FC e)
    (V.need (1 ≤ 1)
    (V.need (x_3.nU ≤ x_3.nU ∧ x_3.nU ≤ x_3.cu)
    (V.need (∀ (i e : Nat), i = 0 ∧ e < x_3.nU → x_3.uP e = x_3.uP e)
    (V.need (∀ (i e : Nat), i = 0 ∧ e < x_3.nU → x_3.uL e = x_3.uL e)
    (V.need (∀ (i e : Nat), i = 0 ∧ e < x_3.nU → x_3.uD e = x_3.uD e)
    (V.need (∀ (i : Nat), i < x_3.nP → x_3.lenP i ≤ gd x_3.nP x_3.lenP i ∧ x_3.lenP i ≤ gd x_3.nP x_3.FC i)
    (V.need (∀ (i e : Nat), i < x_3.nP ∧ e < x_3.lenP i → x_3.iO i e = x_3.iO i e)
    (V.need (∀ (i e : Nat), i < x_3.nP ∧ e < x_3.lenP i → x_3.iA i e = x_3.iA i e)
    (V.need (∀ (i e : Nat), i < x_3.nP ∧ e < x_3.lenP i → x_3.iB i e = x_3.iB i e)
    (V.need (1 ≤ 1)
    (V.need (x.nP ≤ x.nP ∧ x.nP ≤ x.rc)
    (V.need (∀ (i e : Nat), i = 0 ∧ e < x.nP → e = e)
    (V.need (∀ (i e : Nat), i = 0 ∧ e < x.nP → x.lenP e = x.lenP e)
    (V.need (∀ (i e : Nat), i = 0 ∧ e < x.nP → x.FC e = x.FC e)
    (V.need (1 ≤ 1)
    (V.need (x.nU ≤ x.nU ∧ x.nU ≤ x.cu)
    (V.need (∀ (i e : Nat), i = 0 ∧ e < x.nU → x.uP e = x.uP e)
    (V.need (∀ (i e : Nat), i = 0 ∧ e < x.nU → x.uL e = x.uL e)
    (V.need (∀ (i e : Nat), i = 0 ∧ e < x.nU → x.uD e = x.uD e)
    (V.need (∀ (i : Nat), i < x.nP → x.lenP i ≤ gd x.nP x.lenP i ∧ x.lenP i ≤ gd x.nP x.FC i)
    (V.need (∀ (i e : Nat), i < x.nP ∧ e < x.lenP i → x.iO i e = x.iO i e)
    (V.need (∀ (i e : Nat), i < x.nP ∧ e < x.lenP i → x.iA i e = x.iA i e)
    (V.need (∀ (i e : Nat), i < x.nP ∧ e < x.lenP i → x.iB i e = x.iB i e)
    (V.need (preE (Cf.mk x_3.W x_3.L x_3.C x_3.T x_3.D x_3.H x_3.B x_3.A x_3.P x_3.nP x_3.rc x_3.nU x_3.cu (fun (e : Nat) => x_3.lenP e) (fun (e : Nat) => x_3.FC e) (fun (i e : Nat) => x_3.iO i e) (fun (i e : Nat) => x_3.iA i e) (fun (i e : Nat) => x_3.iB i e) (fun (e : Nat) => x_3.uP e) (fun (e : Nat) => x_3.uL e) fun (e : Nat) => x_3.uD e))
    (V.need ((!eqCB (Cf.mk x_3.W x_3.L x_3.C x_3.T x_3.D x_3.H x_3.B x_3.A x_3.P x_3.nP x_3.rc x_3.nU x_3.cu (fun (e : Nat) => x_3.lenP e) (fun (e : Nat) => x_3.FC e) (fun (i e : Nat) => x_3.iO i e) (fun (i e : Nat) => x_3.iA i e) (fun (i e : Nat) => x_3.iB i e) (fun (e : Nat) => x_3.uP e) (fun (e : Nat) => x_3.uL e) fun (e : Nat) => x_3.uD e) (Cf.mk x.W x.L x.C x.T x.D x.H x.B x.A x.P x.nP x.rc x.nU x.cu (fun (e : Nat) => x.lenP e) (fun (e : Nat) => x.FC e) (fun (i e : Nat) => x.iO i e) (fun (i e : Nat) => x.iA i e) (fun (i e : Nat) => x.iB i e) (fun (e : Nat) => x.uP e) (fun (e : Nat) => x.uL e) fun (e : Nat) => x.uD e)) = true) V.ok)))))))))))))))))))))))))))))))))))))))))))))))))))))))))))))))))))))))))))))
    (V.need (IntKind.i64.wrap ((↑x_1.fst : Int) + Int.ofNat 1) ≠ Int.ofNat 0)
    (V.br ((IntKind.i64.wrap (cut.tdiv (Int.ofNat 1))).tmod (IntKind.i64.wrap ((↑x_1.fst : Int) + Int.ofNat 1)) == (↑x_1.fst : Int)) V.ok
    (V.need (Int.ofNat 0 ≤ Int.ofNat 0 ∧ Int.ofNat 0 ≤ (IntKind.i64.wrap (cut.tdiv (Int.ofNat 1))).tmod (IntKind.i64.wrap ((↑x_1.fst : Int) + Int.ofNat 1)) ∧ (IntKind.i64.wrap (cut.tdiv (Int.ofNat 1))).tmod (IntKind.i64.wrap ((↑x_1.fst : Int) + Int.ofNat 1)) ≤ (↑x_1.snd.fst : Int))
    (V.need (((IntKind.i64.wrap (cut.tdiv (Int.ofNat 1))).tmod (IntKind.i64.wrap ((↑x_1.fst : Int) + Int.ofNat 1))).toNat = ((IntKind.i64.wrap (cut.tdiv (Int.ofNat 1))).tmod (IntKind.i64.wrap ((↑x_1.fst : Int) + Int.ofNat 1))).toNat)
    (V.need (x_1.snd.fst = x_1.snd.fst)
    (V.need (1 ≤ 1)
    (V.need (∀ (i : Nat), i < 1 → ((IntKind.i64.wrap (cut.tdiv (Int.ofNat 1))).tmod (IntKind.i64.wrap ((↑x_1.fst : Int) + Int.ofNat 1))).toNat ≤ x_1.fst)
    (V.need (∀ (i e : Nat), i < 1 ∧ e < ((IntKind.i64.wrap (cut.tdiv (Int.ofNat 1))).tmod (IntKind.i64.wrap ((↑x_1.fst : Int) + Int.ofNat 1))).toNat → x_1.snd.snd.fst e = x_1.snd.snd.fst e)
    (V.need (U8 ((IntKind.i64.wrap (cut.tdiv (Int.ofNat 1))).tmod (IntKind.i64.wrap ((↑x_1.fst : Int) + Int.ofNat 1))).toNat fun (e : Nat) => x_1.snd.snd.fst e)
    (V.need (∃ (x : Cf), IsDec (fun (e : Nat) => x_1.snd.snd.fst e) ((IntKind.i64.wrap (cut.tdiv (Int.ofNat 1))).tmod (IntKind.i64.wrap ((↑x_1.fst : Int) + Int.ofNat 1))).toNat x)
    (V.any Cf (IsDec (fun (e : Nat) => x_1.snd.snd.fst e) ((IntKind.i64.wrap (cut.tdiv (Int.ofNat 1))).tmod (IntKind.i64.wrap ((↑x_1.fst : Int) + Int.ofNat 1))).toNat) fun (x_3 : Cf) => V.need (0 < 1 ∧ 0 < 1)
    (V.need (0 < 1 ∧ 0 < 1)
    (V.need (0 < 1 ∧ 0 < 1)
    (V.need (0 < 1 ∧ 0 < 1)
    (V.need (0 < 1 ∧ 0 < 1)
    (V.need (0 < 1 ∧ 0 < 1)
    (V.need (0 < 1 ∧ 0 < 1)
    (V.need (0 < 1 ∧ 0 < 1)
    (V.need (0 < 1 ∧ 0 < 1)
    (V.need (0 < 1 ∧ 0 < 1)
    (V.need (0 < 1 ∧ 0 < 1)
    (V.need (x_3.W = x_3.W)
    (V.need (x_3.L = x_3.L)
    (V.need (x_3.C = x_3.C)
    (V.need (x_3.T = x_3.T)
    (V.need (x_3.D = x_3.D)
    (V.need (x_3.H = x_3.H)
    (V.need (x_3.B = x_3.B)
    (V.need (x_3.A = x_3.A)
    (V.need (x_3.P = x_3.P)
    (V.need (x_3.nP = x_3.nP)
    (V.need (x_3.rc = x_3.rc)
    (V.need (x_3.nU = x_3.nU)
    (V.need (x_3.cu = x_3.cu)
    (V.need (x.W = x.W)
    (V.need (x.L = x.L)
    (V.need (x.C = x.C)
    (V.need (x.T = x.T)
    (V.need (x.D = x.D)
    (V.need (x.H = x.H)
    (V.need (x.B = x.B)
    (V.need (x.A = x.A)
    (V.need (x.P = x.P)
    (V.need (x.nP = x.nP)
    (V.need (x.rc = x.rc)
    (V.need (x.nU = x.nU)
    (V.need (x.cu = x.cu)
    (V.need (1 ≤ 1)
    (V.need (x_3.nP ≤ x_3.nP ∧ x_3.nP ≤ x_3.rc)
    (V.need (∀ (i e : Nat), i = 0 ∧ e < x_3.nP → e = e)
    (V.need (∀ (i e : Nat), i = 0 ∧ e < x_3.nP → x_3.lenP e = x_3.lenP e)
    (V.need (∀ (i e : Nat), i = 0 ∧ e < x_3.nP → x_3.FC e = x_3.FC e)
    (V.need (1 ≤ 1)
    (V.need (x_3.nU ≤ x_3.nU ∧ x_3.nU ≤ x_3.cu)
    (V.need (∀ (i e : Nat), i = 0 ∧ e < x_3.nU → x_3.uP e = x_3.uP e)
    (V.need (∀ (i e : Nat), i = 0 ∧ e < x_3.nU → x_3.uL e = x_3.uL e)
    (V.need (∀ (i e : Nat), i = 0 ∧ e < x_3.nU → x_3.uD e = x_3.uD e)
    (V.need (∀ (i : Nat), i < x_3.nP → x_3.lenP i ≤ gd x_3.nP x_3.lenP i ∧ x_3.lenP i ≤ gd x_3.nP x_3.FC i)
    (V.need (∀ (i e : Nat), i < x_3.nP ∧ e < x_3.lenP i → x_3.iO i e = x_3.iO i e)
    (V.need (∀ (i e : Nat), i < x_3.nP ∧ e < x_3.lenP i → x_3.iA i e = x_3.iA i e)
    (V.need (∀ (i e : Nat), i < x_3.nP ∧ e < x_3.lenP i → x_3.iB i e = x_3.iB i e)
    (V.need (1 ≤ 1)
    (V.need (x.nP ≤ x.nP ∧ x.nP ≤ x.rc)
    (V.need (∀ (i e : Nat), i = 0 ∧ e < x.nP → e = e)
    (V.need (∀ (i e : Nat), i = 0 ∧ e < x.nP → x.lenP e = x.lenP e)
    (V.need (∀ (i e : Nat), i = 0 ∧ e < x.nP → x.FC e = x.FC e)
    (V.need (1 ≤ 1)
    (V.need (x.nU ≤ x.nU ∧ x.nU ≤ x.cu)
    (V.need (∀ (i e : Nat), i = 0 ∧ e < x.nU → x.uP e = x.uP e)
    (V.need (∀ (i e : Nat), i = 0 ∧ e < x.nU → x.uL e = x.uL e)
    (V.need (∀ (i e : Nat), i = 0 ∧ e < x.nU → x.uD e = x.uD e)
    (V.need (∀ (i : Nat), i < x.nP → x.lenP i ≤ gd x.nP x.lenP i ∧ x.lenP i ≤ gd x.nP x.FC i)
    (V.need (∀ (i e : Nat), i < x.nP ∧ e < x.lenP i → x.iO i e = x.iO i e)
    (V.need (∀ (i e : Nat), i < x.nP ∧ e < x.lenP i → x.iA i e = x.iA i e)
    (V.need (∀ (i e : Nat), i < x.nP ∧ e < x.lenP i → x.iB i e = x.iB i e)
    (V.need (preE (Cf.mk x_3.W x_3.L x_3.C x_3.T x_3.D x_3.H x_3.B x_3.A x_3.P x_3.nP x_3.rc x_3.nU x_3.cu (fun (e : Nat) => x_3.lenP e) (fun (e : Nat) => x_3.FC e) (fun (i e : Nat) => x_3.iO i e) (fun (i e : Nat) => x_3.iA i e) (fun (i e : Nat) => x_3.iB i e) (fun (e : Nat) => x_3.uP e) (fun (e : Nat) => x_3.uL e) fun (e : Nat) => x_3.uD e))
    (V.need ((!eqCB (Cf.mk x_3.W x_3.L x_3.C x_3.T x_3.D x_3.H x_3.B x_3.A x_3.P x_3.nP x_3.rc x_3.nU x_3.cu (fun (e : Nat) => x_3.lenP e) (fun (e : Nat) => x_3.FC e) (fun (i e : Nat) => x_3.iO i e) (fun (i e : Nat) => x_3.iA i e) (fun (i e : Nat) => x_3.iB i e) (fun (e : Nat) => x_3.uP e) (fun (e : Nat) => x_3.uL e) fun (e : Nat) => x_3.uD e) (Cf.mk x.W x.L x.C x.T x.D x.H x.B x.A x.P x.nP x.rc x.nU x.cu (fun (e : Nat) => x.lenP e) (fun (e : Nat) => x.FC e) (fun (i e : Nat) => x.iO i e) (fun (i e : Nat) => x.iA i e) (fun (i e : Nat) => x.iB i e) (fun (e : Nat) => x.uP e) (fun (e : Nat) => x.uL e) fun (e : Nat) => x.uD e)) = true) V.ok))))))))))))))))))))))))))))))))))))))))))))))))))))))))))))))))))))))))))))))))))))))))))))))))))))))))))))))))))))))))))))))))))))))))))))))))))))))))))))))))))))))))))))))))))))))))))))))))))))))) := by kernel_rfl


end Go.Proofs.Ytjpnpaboahbncaa.Vc

/- ConfigRound: the law's conditions hold; the walk. -/
set_option linter.unusedVariables false
set_option linter.unusedSimpArgs false
set_option maxRecDepth 100000
namespace Go.Proofs.Ytjpnpaboahbncaa.Vc
open Go Go.RowKit Sx Cn Dc Ck
theorem enc_of {g : Nat → Int} {len : Nat} {c : Cf} {x : Nat × Nat × (Nat → Int) × Int} (hu : U8 len g) (hc : IsDec g len c) (h : EncOf c x) : x.1 = lenE c ∧ x.1 ≤ 90 ∧ x.1 ≤ x.2.1 ∧ (∀ e, x.2.2.1 e = (encB c).g e) ∧ x.2.2.2 = 0 := by
  rcases h with ⟨_, h1, h2, h3, h4⟩ | ⟨h0, _⟩
  · refine ⟨h1, ?_, h2, h3, h4⟩
    have hw := (dec_enc hu hc).w.1
    have hU := pU_le hu
    have hn := nU_le hu
    have hl : lenE c ≤ (encB c).n := trim_le' _ _
    rw [hw] at hl
    unfold pos3 at hl
    omega
  · rw [dec_good hu hc] at h0; cases h0
theorem tmod_bd (a : Int) {b : Int} (h : 0 < b) : -b < a.tmod b ∧ a.tmod b < b := by
  refine ⟨?_, Int.tmod_lt_of_pos a h⟩
  have := Int.tmod_lt_of_pos (-a) h
  rw [Int.neg_tmod] at this
  omega
theorem round1' {g : Nat → Int} {len : Nat} {c d : Cf} {x : Nat × Nat × (Nat → Int) × Int} (hu : U8 len g) (hc : IsDec g len c) (h : EncOf c x) (hd : IsDec (fun e => x.2.2.1 e) x.1 d) : eqCB d c = true := by
  obtain ⟨h1, _, _, h3, _⟩ := enc_of hu hc h
  rw [h1] at hd
  exact round1 hu hc h3 hd
theorem round2' {g : Nat → Int} {len : Nat} {c d : Cf} {x : Nat × Nat × (Nat → Int) × Int} {n : Nat} (hu : U8 len g) (hc : IsDec g len c) (h : EncOf c x) (hd : IsDec (fun e => x.2.2.1 e) n d) (hn : n < x.1) : eqCB d c = false := by
  obtain ⟨h1, _, _, h3, _⟩ := enc_of hu hc h
  exact round2 hu hc h3 (by omega) hd
theorem enc_last' {g : Nat → Int} {len : Nat} {c : Cf} {x : Nat × Nat × (Nat → Int) × Int} (hu : U8 len g) (hc : IsDec g len c) (h : EncOf c x) (h0 : (x.1 : Int) > 0) (hz : x.2.2.1 ((x.1 : Int) - 1).toNat = 0) : False := by
  obtain ⟨h1, _, _, h3, _⟩ := enc_of hu hc h
  refine enc_last h3 (by omega) ?_
  rw [← h1, show x.1 - 1 = ((x.1 : Int) - 1).toNat by omega]; exact hz
theorem dec_small3 {c d : Cf} {x : Nat × Nat × (Nat → Int) × Int} {n : Nat} (h : EncOf c x) (hd : IsDec (fun e => x.2.2.1 e) n d) : smallC d := by
  refine dec_small' (fun e _ => ?_) hd
  rcases h with ⟨_, _, _, h, _⟩ | ⟨_, rfl⟩
  · show 0 ≤ x.2.2.1 e ∧ x.2.2.1 e ≤ 255
    rw [h e]; exact R8.enc c e
  · exact ⟨Int.le_refl 0, by show (0 : Int) ≤ 255; decide⟩
theorem enc_u8' {c : Cf} {x : Nat × Nat × (Nat → Int) × Int} (h : EncOf c x) (e : Nat) : 0 ≤ x.2.2.1 e ∧ x.2.2.1 e ≤ 255 := by
  rcases h with ⟨_, _, _, h, _⟩ | ⟨_, rfl⟩
  · rw [h e]; exact R8.enc c e
  · exact ⟨Int.le_refl 0, by show (0 : Int) ≤ 255; decide⟩
set_option maxHeartbeats 8000000 in
theorem vhRound (g : Nat → Int) (len cap : Nat) (cut : Int) (hw : -9223372036854775808 ≤ cut ∧ cut ≤ 9223372036854775807) (hu : U8 len g) : VHolds (verRound g len cap cut) := by
  constructor
  rw [verRound_eq]
  have e2 : IntKind.i64.wrap (cut.tdiv 1) = cut := by rw [Int.tdiv_one]; exact w64 (by omega)
  simp only [V.holds, Int.ofNat_eq_natCast, decide_eq_true_eq, decide_eq_false_iff_not, Bool.not_eq_true', Bool.not_eq_false', bne_iff_ne, bne_eq_false_iff_eq, beq_iff_eq, beq_eq_false_iff_ne, ne_eq, true_and, and_true, forall_const, true_implies, implies_true, Nat.zero_add, Nat.sub_zero, Nat.lt_add_one, Nat.zero_lt_one, Int.natCast_zero, Int.natCast_one, Int.cast_ofNat_Int, gt_iff_lt, and_self, eq_self, Nat.le_refl, cf_eta, not_true_eq_false, false_implies, e2]
  repeat' first
    | exact True.intro
    | with_reducible apply And.intro
    | (refine fun (x1 : Nat × Nat × (Nat → Int) × Int) hE => ?_
       have hx := enc_of hu (by assumption) hE
       obtain ⟨hx1, hx2, hx3, hx4, hx5⟩ := hx
       have e1 : IntKind.i64.wrap ((x1.1 : Int) + 1) = (x1.1 : Int) + 1 := w64 (by omega)
       have e3 : IntKind.i64.wrap ((x1.1 : Int) - 1) = (x1.1 : Int) - 1 := w64 (by omega)
       have ht := tmod_bd cut (b := (x1.1 : Int) + 1) (by omega)
       simp only [e1, e3]
       generalize cut.tmod ((x1.1 : Int) + 1) = t at *
       have e4 : IntKind.i64.wrap (t + ((x1.1 : Int) + 1)) = t + ((x1.1 : Int) + 1) := w64 (by omega)
       simp only [e4])
    | intro _
  all_goals try (have hs := dec_small' hu (by assumption))
  all_goals try (first
    | contradiction
    | omega
    | exact (hu _ (by assumption)).1
    | exact (hu _ (by assumption)).2
    | exact dec_some _ _
    | exact enc_some _
    | exact gd_at (by assumption) (Nat.le_refl _)
    | exact sm_f (by assumption) hs
    | exact sm_r hs
    | exact sm_u hs
    | exact small_preE hs
    | exact (enc_u8' (by assumption) _).1
    | exact (enc_u8' (by assumption) _).2
    | exact sm_f (by assumption) (dec_small3 (by assumption) (by assumption))
    | exact sm_r (dec_small3 (by assumption) (by assumption))
    | exact sm_u (dec_small3 (by assumption) (by assumption))
    | exact small_preE (dec_small3 (by assumption) (by assumption))
    | exact round2' hu (by assumption) (by assumption) (by assumption) (by omega)
    | (exfalso; rename_i h; exact Bool.noConfusion (h.symm.trans (round1' hu (by assumption) (by assumption) (by assumption))))
    | (exfalso; exact enc_last' hu (by assumption) (by assumption) (by assumption) (by assumption))
    | rfl)
theorem walkRound (a : Option Addr) (len cap : Nat) (g : Nat → Int) (cut : Int) (w : World) (h : IsInts .u8 w a len cap g) (h1 : (Lit.int .i64 cut).wf = true) :
    Calls P 16 #[.slice a len cap, .int .i64 cut] w fun e w' => e = .returned (.bool true) ∧ Below w.heap.size w w' := by
  refine calls_yesV (vs := [.slice a len cap, .int .i64 cut]) conLR_ok (ρ := fun k i => if k = 0 ∧ i = 0 then addr0 a else none) (vhRound g len cap cut (wfi h1) fun e he => u8i (h.fits e he)) (views_inv fun k b hk => ?_) ⟨h.val (by simp) ⟨Nat.le_of_ble_eq_true rfl, trivial⟩, fun _ _ => rfl, trivial⟩
  rw [find_cons] at hk
  split at hk
  · rename_i e; subst e
    cases hk
    exact ⟨rfl, by decide, h.sat (by simp)⟩
  · cases hk
end Go.Proofs.Ytjpnpaboahbncaa.Vc
