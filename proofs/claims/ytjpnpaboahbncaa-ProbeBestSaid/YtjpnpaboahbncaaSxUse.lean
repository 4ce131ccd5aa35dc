/- A contract about some blocks alone, used where more lies about. -/
import Derived.Test.YtjpnpaboahbncaaSxLocal
set_option linter.unusedVariables false
set_option linter.unusedSimpArgs false
namespace Go.Proofs.Ytjpnpaboahbncaa.Sx
open Go Go.RowKit

def renK (n : Nat) (l : List Nat) (m : Nat) (k : Nat) : Nat := match Nat.blt k n with | true => (l[k]?).getD 0 | false => m + (k - n)
def renH (r : Nat → Nat) (h : HL) : HL := h.map fun p => (r p.1, p.2.ren r)
def leHLr (r : Nat → Nat) (h : HL) : HL → Prop
  | [] => True
  | (k, b) :: t => (match find (r k) h with | some c => leBlk c (b.ren r) | none => False) ∧ leHLr r h t
theorem leHLr_at {σ : Nat → Nat} {h : HL} : ∀ {r : HL}, leHLr σ h r → ∀ k b, find k r = some b → ∃ c, find (σ k) h = some c ∧ leBlk c (b.ren σ)
  | [], _, k, b, hf => by simp [find] at hf
  | (k', b') :: r, hl, k, b, hf => by
    rw [find_cons] at hf
    split at hf
    · rename_i e; cases hf; subst e
      have := hl.1
      split at this
      · exact ⟨_, ‹_›, this⟩
      · exact this.elim
    · exact leHLr_at hl.2 k b hf
theorem find_renH {r : Nat → Nat} {z : Nat} {b : Blk} : ∀ {h : HL}, find z (renH r h) = some b → ∃ k b0, find k h = some b0 ∧ z = r k ∧ b = b0.ren r
  | [], h => by simp [renH, find] at h
  | (k, c) :: t, h => by
    have h' : find z ((r k, c.ren r) :: renH r t) = some b := h
    rw [find_cons] at h'
    split at h'
    · rename_i e; cases h'
      exact ⟨k, c, by rw [find_cons, if_pos rfl], e, rfl⟩
    · rename_i e
      obtain ⟨k2, b0, h1, h2, h3⟩ := find_renH h'
      refine ⟨k2, b0, ?_, h2, h3⟩
      rw [find_cons, if_neg (by rintro rfl; exact e h2)]; exact h1
def nodupB : List Nat → Bool
  | [] => true
  | x :: l => !(mem x l) && nodupB l
theorem nodupB_h : ∀ {l : List Nat}, nodupB l = true → ∀ (i j : Nat) x, l[i]? = some x → l[j]? = some x → i = j
  | [], _, i, j, x, h, _ => by simp at h
  | y :: l, h, i, j, x, hi, hj => by
    simp only [nodupB, Bool.and_eq_true, Bool.not_eq_true'] at h
    have hy : y ∉ l := fun hm => by rw [mem_iff.2 hm] at h; cases h.1
    cases i with
    | zero =>
      cases j with
      | zero => rfl
      | succ j =>
        simp at hi hj; subst hi
        exact absurd (List.mem_of_getElem? hj) hy
    | succ i =>
      cases j with
      | zero =>
        simp at hi hj; subst hj
        exact absurd (List.mem_of_getElem? hi) hy
      | succ j => rw [nodupB_h h.2 i j x (by simpa using hi) (by simpa using hj)]
def covers (n : Nat) (h0 : HL) : Bool := (List.range n).all (fun k => (find k h0).isSome) && h0.all fun p => Nat.blt p.1 n
def onlyRows : HL → HL
  | [] => []
  | (k, b) :: h => match b.isRow with
    | true => (k, b) :: onlyRows h
    | false => onlyRows h
theorem find_onlyRows {k : Nat} {b : Blk} : ∀ {h : HL}, nodupB (h.map (·.1)) = true → find k (onlyRows h) = some b → find k h = some b ∧ b.isRow = true
  | [], _, h => by simp [onlyRows, find] at h
  | (k', b') :: t, hn, h => by
    simp only [List.map_cons, nodupB, Bool.and_eq_true, Bool.not_eq_true'] at hn
    obtain ⟨hn1, hn2⟩ := hn
    simp only [onlyRows] at h
    rw [find_cons]
    cases hr : b'.isRow with
    | true =>
      rw [hr] at h
      rw [find_cons] at h
      split at h
      · rename_i e; cases h; rw [if_pos e]; exact ⟨rfl, hr⟩
      · rename_i e; rw [if_neg e]; exact find_onlyRows hn2 h
    | false =>
      rw [hr] at h
      obtain ⟨g1, g2⟩ := find_onlyRows hn2 h
      rw [if_neg ?_]
      · exact ⟨g1, g2⟩
      · rintro rfl
        have hm : k ∈ t.map (·.1) := find_mem g1
        rw [mem_iff.2 hm] at hn1; cases hn1
/-- The names of the blocks that may be written. -/
def rowNames (h0 : HL) : List Nat → Nat → List Nat
  | [], _ => []
  | z :: σ, k => match (match find k h0 with | some b => b.isRow | none => true) with
    | true => z :: rowNames h0 σ (k + 1)
    | false => rowNames h0 σ (k + 1)
theorem rowNames_at {h0 : HL} : ∀ {σ : List Nat} {k j z : Nat} {b : Blk}, σ[j]? = some z → find (k + j) h0 = some b → b.isRow = true → z ∈ rowNames h0 σ k
  | [], k, j, z, b, h, _, _ => by simp at h
  | x :: σ, k, 0, z, b, h, hb, hr => by
    simp at h; subst h
    simp only [rowNames]
    rw [Nat.add_zero] at hb
    rw [hb]; simp only [hr]
    exact List.mem_cons_self
  | x :: σ, k, j + 1, z, b, h, hb, hr => by
    have ih : z ∈ rowNames h0 σ (k + 1) := rowNames_at (j := j) (by simpa using h) (by rw [← hb]; congr 1; omega) hr
    simp only [rowNames]
    split <;> first | exact List.mem_cons_of_mem _ ih | exact ih
theorem rowNames_sub {h0 : HL} : ∀ {σ : List Nat} {k z : Nat}, z ∈ rowNames h0 σ k → z ∈ σ
  | [], k, z, h => by simp [rowNames] at h
  | x :: σ, k, z, h => by
    simp only [rowNames] at h
    split at h
    · rcases List.mem_cons.1 h with rfl | h
      · exact List.mem_cons_self
      · exact List.mem_cons_of_mem _ (rowNames_sub h)
    · exact List.mem_cons_of_mem _ (rowNames_sub h)

/-- A contract about the blocks 0 .. n-1 alone. -/
def LocalOK (P : Program) (f : FuncId) (args : List SV) (h0 : HL) (n : Nat) (post : Out (SV × Hp)) : Prop :=
  ∀ (φ : Fr) (ρ : Rho) (w : World) (vs : List Value) (K : SV × Hp → Prop), HInv φ ρ ⟨h0, n, fun _ => True⟩ w → VIs (Hp.sc ⟨h0, n, fun _ => True⟩) ρ args vs → post.holds K →
    Calls P f vs.toArray w fun e w' => ∃ v ρ' sv H', e = .returned v ∧ K (sv, H') ∧ Agree (Hp.sc ⟨h0, n, fun _ => True⟩) ρ ρ' ∧ Hp.le ⟨h0, n, fun _ => True⟩ H' ∧ HInv φ ρ' H' w' ∧ SIs H'.sc ρ' sv v
theorem CallOK.local {P : Program} {callT : CallT} (hc : CallOK P callT) (f : FuncId) (args : List SV) (h0 : HL) (n : Nat) : LocalOK P f args h0 n (callT f args ⟨h0, n, fun _ => True⟩) :=
  fun φ ρ w vs K h hv hh => hc φ ρ _ w f args vs K h hv hh
theorem LocalOK.mono {P : Program} {f : FuncId} {args : List SV} {h0 : HL} {n : Nat} {p q : Out (SV × Hp)} (h : LocalOK P f args h0 n p) (hpq : ∀ K, q.holds K → p.holds K) : LocalOK P f args h0 n q :=
  fun φ ρ w vs K hi hv hh => h φ ρ w vs K hi hv (hpq K hh)

theorem LocalOK.monoV {P : Program} {f : FuncId} {args : List SV} {h0 : HL} {n : Nat} {p q : Out (SV × Hp)} (h : LocalOK P f args h0 n p) (hpq : ∀ K : SV × Hp → Prop, q.holds K → p.holds (fun r => ∃ sv, leSV r.1 sv ∧ K (sv, r.2))) : LocalOK P f args h0 n q :=
  fun φ ρ w vs K hi hv hh => (h φ ρ w vs _ hi hv (hpq K hh)).mono (by
    rintro e w' ⟨v, ρ', sv, H', rfl, ⟨sv', hle, hK⟩, a1, a2, a3, a4⟩
    exact ⟨v, ρ', sv', H', rfl, hK, a1, a2, a3, a4.le hle⟩)

def useT (σ : List Nat) (n : Nat) (args0 : List SV) (h0 : HL) (post : Out (SV × Hp)) (args : List SV) (H : Hp) : Out (SV × Hp) :=
  chk (Nat.beq σ.length n && nodupB σ && covers n h0) (.need (leVs args (args0.map (SV.ren (renK n σ H.nxt))) ∧ leHLr (renK n σ H.nxt) H.h h0) (post.bind fun q =>
    chk (nodupB (q.2.h.map (·.1))) (fSV (q.1.ren (renK n σ H.nxt)) fun sv => fHL (renH (renK n σ H.nxt) (onlyRows q.2.h) ++ dropAll (rowNames h0 σ 0) H.h) fun h => fN (H.nxt + (q.2.nxt - n)) fun nxt => .leaf (sv, ⟨h, nxt, H.D⟩)) 320)) 321

theorem use_ok {P : Program} {f : FuncId} {σ : List Nat} {n : Nat} {args0 : List SV} {h0 : HL} {post : Out (SV × Hp)} (hloc : LocalOK P f args0 h0 n post)
    {φ : Fr} {ρ : Rho} {H : Hp} {w : World} {args : List SV} {vs : List Value} {K : SV × Hp → Prop} (h : HInv φ ρ H w) (hv : VIs H.sc ρ args vs) (hh : (useT σ n args0 h0 post args H).holds K) :
    Calls P f vs.toArray w fun e w' => ∃ v ρ' sv H', e = .returned v ∧ K (sv, H') ∧ Agree H.sc ρ ρ' ∧ H.le H' ∧ HInv φ ρ' H' w' ∧ SIs H'.sc ρ' sv v := by
  unfold useT at hh
  obtain ⟨hb, ⟨hl1, hl2⟩, hh⟩ := chk_holds hh
  simp only [Bool.and_eq_true] at hb
  obtain ⟨⟨hlen, hnd⟩, hcov⟩ := hb
  replace hlen := Nat.eq_of_beq_eq_true hlen
  simp only [covers, Bool.and_eq_true, List.all_eq_true, List.mem_range] at hcov
  obtain ⟨hcov, hlt0⟩ := hcov
  rw [Out.holds_bind] at hh
  generalize hσ : renK n σ H.nxt = s at hl1 hl2 hh
  have s1 : ∀ k, k < n → ∃ z, σ[k]? = some z ∧ s k = z := by
    intro k hk
    have hk' : k < σ.length := by omega
    refine ⟨σ[k], List.getElem?_eq_getElem hk', ?_⟩
    rw [← hσ]; unfold renK
    have : Nat.blt k n = true := by simpa [Nat.blt_eq] using hk
    rw [this]; simp [List.getElem?_eq_getElem hk']
  have s2 : ∀ k, n ≤ k → s k = H.nxt + (k - n) := by
    intro k hk
    rw [← hσ]; unfold renK
    have : Nat.blt k n = false := by
      cases hb : Nat.blt k n with
      | false => rfl
      | true => rw [Nat.blt_eq] at hb; omega
    rw [this]
  have fnd : ∀ k, k < n → ∃ b c, find k h0 = some b ∧ find (s k) H.h = some c ∧ leBlk c (b.ren s) := by
    intro k hk
    obtain ⟨b, hb⟩ := Option.isSome_iff_exists.1 (hcov k hk)
    obtain ⟨c, hc, hle⟩ := leHLr_at hl2 k b hb
    exact ⟨b, c, hb, hc, hle⟩
  have ssc : ∀ k, k < n → H.sc (s k) := by
    intro k hk
    obtain ⟨b, c, _, hc, _⟩ := fnd k hk
    exact h.lt _ c hc
  have sinj : ∀ k k', s k = s k' → k = k' := by
    intro k k' he
    rcases Nat.lt_or_ge k n with h1 | h1 <;> rcases Nat.lt_or_ge k' n with h2 | h2
    · obtain ⟨z, g1, g2⟩ := s1 k h1
      obtain ⟨z', g1', g2'⟩ := s1 k' h2
      have : z = z' := by rw [← g2, ← g2', he]
      subst this
      exact nodupB_h hnd k k' z g1 g1'
    · have := (ssc k h1).1; rw [he, s2 k' h2] at this; omega
    · have := (ssc k' h2).1; rw [← he, s2 k h1] at this; omega
    · rw [s2 k h1, s2 k' h2] at he; omega
  have smem : ∀ z, z ∉ rowNames h0 σ 0 → ∀ k b, k < n → find k h0 = some b → b.isRow = true → z ≠ s k := by
    rintro z hz k b hk hb hr rfl
    obtain ⟨z', g1, g2⟩ := s1 k hk
    rw [g2] at hz
    exact hz (rowNames_at g1 (by rw [Nat.zero_add]; exact hb) hr)
  obtain ⟨ρ0, r1, r2⟩ : ∃ ρ0 : Rho, (∀ k, k < n → ρ0 k = ρ (s k)) ∧ ∀ k, n ≤ k → ∀ i, ρ0 k i = none :=
    ⟨fun k => if k < n then ρ (s k) else fun _ => none, fun k hk => if_pos hk, fun k hk i => by simp only [if_neg (Nat.not_lt.2 hk)]⟩
  have hback : Back (Hp.sc ⟨h0, n, fun _ => True⟩) H.sc ρ0 ρ s := by
    intro r ha
    refine ⟨fun z => if z < H.nxt then ρ z else r (z - H.nxt + n), fun z hz => if_pos hz.1, fun k => ?_⟩
    rcases Nat.lt_or_ge k n with h1 | h1
    · simp only [if_pos (ssc k h1).1]
      rw [← r1 k h1]; exact (ha k ⟨h1, trivial⟩).symm
    · rw [s2 k h1]
      have : ¬ (H.nxt + (k - n) < H.nxt) := by omega
      simp only [if_neg this]
      congr 1; omega
  have hlt0' : ∀ k b, find k h0 = some b → k < n := by
    intro k b hf
    have hm : ∃ p ∈ h0, p.1 = k := by
      have := find_mem hf
      simpa using this
    obtain ⟨p, hp, rfl⟩ := hm
    have := hlt0 p hp
    rwa [Nat.blt_eq] at this
  have hinv0 : HInv ⟨w, fun y => ∃ k b i o, find k h0 = some b ∧ b.isRow = true ∧ b.live i ∧ ρ0 k i = some (y, o)⟩ ρ0 ⟨h0, n, fun _ => True⟩ w := by
    refine ⟨⟨rfl, rfl, rfl, Nat.le_refl _, fun _ _ _ => rfl⟩, fun _ _ => trivial, fun k b hf => ⟨hlt0' k b hf, trivial⟩, ?_, ?_, fun k b hf hr i hi y o hy => .inl ⟨k, b, i, o, hf, hr, hi, hy⟩, ?_⟩
    · intro k b hf
      obtain ⟨c, hc, hle⟩ := leHLr_at hl2 k b hf
      exact Blk.sat_unren (r1 k (hlt0' k b hf)) hback (Blk.sat_le hle (h.sat (s k) c hc))
    · intro k b hf i hi y o hy
      obtain ⟨c, hc, hle⟩ := leHLr_at hl2 k b hf
      rw [r1 k (hlt0' k b hf)] at hy
      exact h.bd (s k) c hc i (leBlk_live hle (by rw [Blk.ren_live]; exact hi)) y o hy
    · intro k b hf hr k' b' hf' hne j i hj hi y o y' o' hy hy'
      obtain ⟨c, hc, hle⟩ := leHLr_at hl2 k b hf
      obtain ⟨c', hc', hle'⟩ := leHLr_at hl2 k' b' hf'
      rw [r1 k (hlt0' k b hf)] at hy
      rw [r1 k' (hlt0' k' b' hf')] at hy'
      exact h.sep (s k) c hc (leBlk_row hle (by rw [Blk.ren_isRow]; exact hr)) (s k') c' hc' (fun e => hne (sinj _ _ e)) j i (leBlk_live hle (by rw [Blk.ren_live]; exact hj)) (leBlk_live hle' (by rw [Blk.ren_live]; exact hi)) y o y' o' hy hy'
  -- what is owned here may be written there
  have own : ∀ y, (∃ k b i o, find k h0 = some b ∧ b.isRow = true ∧ b.live i ∧ ρ0 k i = some (y, o)) → ∃ k b0 c i o, k < n ∧ find k h0 = some b0 ∧ b0.isRow = true ∧ find (s k) H.h = some c ∧ c.isRow = true ∧ c.live i ∧ ρ (s k) i = some (y, o) := by
    rintro y ⟨k, b, i, o, hf, hr, hi, hy⟩
    obtain ⟨c, hc, hle⟩ := leHLr_at hl2 k b hf
    have hk := hlt0' k b hf
    exact ⟨k, b, c, i, o, hk, hf, hr, hc, leBlk_row hle (by rw [Blk.ren_isRow]; exact hr), leBlk_live hle (by rw [Blk.ren_live]; exact hi), by rw [← r1 k hk]; exact hy⟩
  refine (hloc _ ρ0 w vs _ hinv0 (VIs.unren hback (hv.le hl1)) hh).mono ?_
  rintro e w' ⟨v, ρ0', sv, H0', rfl, hK, a1, a2, a3, a4⟩
  obtain ⟨hnr, hK⟩ := chk_holds hK
  simp only [fSV_eq, fHL_eq, fN_eq] at hK
  have hn : n ≤ H0'.nxt := a2.nxt
  have hD0 : ∀ z, H0'.D z := fun z => by rw [a2.D]; trivial
  obtain ⟨ρ', p1, p2⟩ : ∃ ρ' : Rho, (∀ z, z < H.nxt → ρ' z = ρ z) ∧ ∀ k, n ≤ k → ρ' (s k) = ρ0' k :=
    ⟨fun z => if z < H.nxt then ρ z else ρ0' (z - H.nxt + n), fun z hz => if_pos hz, fun k hk => by
      rw [s2 k hk]
      have : ¬ (H.nxt + (k - n) < H.nxt) := by omega
      simp only [if_neg this]
      congr 1; omega⟩
  have pr : ∀ k, ρ' (s k) = ρ0' k := by
    intro k
    rcases Nat.lt_or_ge k n with h1 | h1
    · rw [p1 _ (ssc k h1).1, ← r1 k h1]; exact (a1 k ⟨h1, trivial⟩).symm
    · exact p2 k h1
  have pm : ∀ k, H0'.sc k → Hp.sc ⟨renH s (onlyRows H0'.h) ++ dropAll (rowNames h0 σ 0) H.h, H.nxt + (H0'.nxt - n), H.D⟩ (s k) := by
    intro k hk
    rcases Nat.lt_or_ge k n with h1 | h1
    · exact ⟨Nat.lt_of_lt_of_le (ssc k h1).1 (Nat.le_add_right _ _), (ssc k h1).2⟩
    · have hk1 := hk.1
      rw [s2 k h1]
      exact ⟨by show H.nxt + (k - n) < H.nxt + (H0'.nxt - n); omega, h.up _ (Nat.le_add_right _ _)⟩
  have pag : Agree H.sc ρ ρ' := fun z hz => p1 z hz.1
  have psc : ∀ z, H.sc z → Hp.sc ⟨renH s (onlyRows H0'.h) ++ dropAll (rowNames h0 σ 0) H.h, H.nxt + (H0'.nxt - n), H.D⟩ z := fun z hz => ⟨Nat.lt_of_lt_of_le hz.1 (Nat.le_add_right _ _), hz.2⟩
  have spl : ∀ z b, find z (renH s (onlyRows H0'.h) ++ dropAll (rowNames h0 σ 0) H.h) = some b → (∃ k b0, find k H0'.h = some b0 ∧ b0.isRow = true ∧ z = s k ∧ b = b0.ren s) ∨ (z ∉ rowNames h0 σ 0 ∧ find z H.h = some b) := by
    intro z b hf
    rw [find_append, Option.or_eq_some_iff] at hf
    rcases hf with hf | ⟨_, hf⟩
    · obtain ⟨k, b0, g1, g2, g3⟩ := find_renH hf
      obtain ⟨g4, g5⟩ := find_onlyRows hnr g1
      exact .inl ⟨k, b0, g4, g5, g2, g3⟩
    · rw [find_dropAll] at hf
      split at hf
      · cases hf
      · exact .inr ⟨‹_›, hf⟩
  have ownmay : ∀ y, (∃ k b i o, find k h0 = some b ∧ b.isRow = true ∧ b.live i ∧ ρ0 k i = some (y, o)) → φ.may y := by
    intro y hy
    obtain ⟨k, _, c, i, o, _, _, _, hc, hr, hi, hρ⟩ := own y hy
    exact h.may (s k) c hc hr i hi y o hρ
  have keep : ∀ z b, z ∉ rowNames h0 σ 0 → find z H.h = some b → ∀ i, b.live i → ∀ y o, ρ z i = some (y, o) → ¬ ∃ k b i o, find k h0 = some b ∧ b.isRow = true ∧ b.live i ∧ ρ0 k i = some (y, o) := by
    intro z b hz hf i hi y o hy hown
    obtain ⟨k, b1, c, i', o', hk, hb1, hr1, hc, hr, hi', hρ⟩ := own y hown
    exact h.sep (s k) c hc hr z b hf (smem z hz k b1 hk hb1 hr1) i' i hi' hi y o' y o hρ hy rfl
  refine ⟨v, ρ', _, _, rfl, hK, pag, ⟨Nat.le_add_right _ _, rfl⟩, ⟨?_, ?_, ?_, ?_, ?_, ?_, ?_⟩, SIs.ren pm (fun k _ => pr k) a4⟩
  · refine ⟨a3.fr.os.trans h.fr.os, a3.fr.tape.trans h.fr.tape, a3.fr.output.trans h.fr.output, Nat.le_trans h.fr.size a3.fr.size, fun b hb hno => ?_⟩
    rw [← h.fr.block b hb hno]
    refine a3.fr.block b (Nat.lt_of_lt_of_le hb h.fr.size) fun hown => ?_
    rcases ownmay b hown with g | g
    · exact hno g
    · omega
  · exact fun z hz => h.up z (Nat.le_trans (Nat.le_add_right _ _) hz)
  · intro z b hf
    rcases spl z b hf with ⟨k, b0, g1, gr, rfl, rfl⟩ | ⟨g1, g2⟩
    · exact pm k (a3.lt k b0 g1)
    · exact psc z (h.lt z b g2)
  · intro z b hf
    rcases spl z b hf with ⟨k, b0, g1, gr, rfl, rfl⟩ | ⟨g1, g2⟩
    · exact Blk.sat_ren (pr k).symm pm (fun k _ => pr k) (a3.sat k b0 g1)
    · refine Blk.sat_ext (Blk.sat_world (h.sat z b g2) fun i hi y o hy => ?_) pag psc (h.lt z b g2)
      exact a3.fr.block y (h.bd z b g2 i hi y o hy) (keep z b g1 g2 i hi y o hy)
  · intro z b hf i hi y o hy
    rcases spl z b hf with ⟨k, b0, g1, gr, rfl, rfl⟩ | ⟨g1, g2⟩
    · rw [pr k] at hy; exact a3.bd k b0 g1 i (by rw [Blk.ren_live] at hi; exact hi) y o hy
    · rw [p1 z (h.lt z b g2).1] at hy
      exact Nat.lt_of_lt_of_le (h.bd z b g2 i hi y o hy) a3.fr.size
  · intro z b hf hr i hi y o hy
    rcases spl z b hf with ⟨k, b0, g1, gr, rfl, rfl⟩ | ⟨g1, g2⟩
    · rw [pr k] at hy
      rcases a3.may k b0 g1 (by rw [← Blk.ren_isRow s]; exact hr) i (by rw [Blk.ren_live] at hi; exact hi) y o hy with g | g
      · exact ownmay y g
      · exact .inr (Nat.le_trans h.fr.size g)
    · rw [p1 z (h.lt z b g2).1] at hy
      exact h.may z b g2 hr i hi y o hy
  · intro z b hf hr z' b' hf' hne j i hj hi y o y' o' hy hy'
    rcases spl z b hf with ⟨k, b0, g1, gr, rfl, rfl⟩ | ⟨g1, g2⟩ <;> rcases spl z' b' hf' with ⟨k', b0', g1', gr', rfl, rfl⟩ | ⟨g1', g2'⟩
    · rw [pr k] at hy
      rw [pr k'] at hy'
      exact a3.sep k b0 g1 (by rw [← Blk.ren_isRow s]; exact hr) k' b0' g1' (fun e => hne (by rw [e])) j i (by rw [Blk.ren_live] at hj; exact hj) (by rw [Blk.ren_live] at hi; exact hi) y o y' o' hy hy'
    · rw [pr k] at hy
      rw [p1 z' (h.lt z' b' g2').1] at hy'
      rcases a3.may k b0 g1 (by rw [← Blk.ren_isRow s]; exact hr) j (by rw [Blk.ren_live] at hj; exact hj) y o hy with g | g
      · rintro rfl
        exact keep z' b' g1' g2' i hi y' o' hy' g
      · have := h.bd z' b' g2' i hi y' o' hy'
        have g' : w.heap.size ≤ y := g
        omega
    · rw [p1 z (h.lt z b g2).1] at hy
      rw [pr k'] at hy'
      rcases a3.may k' b0' g1' gr' i (by rw [Blk.ren_live] at hi; exact hi) y' o' hy' with g | g
      · rintro rfl
        exact keep z b g1 g2 j hj y' o hy g
      · have := h.bd z b g2 j hj y o hy
        have g' : w.heap.size ≤ y' := g
        omega
    · rw [p1 z (h.lt z b g2).1] at hy
      rw [p1 z' (h.lt z' b' g2').1] at hy'
      exact h.sep z b g2 hr z' b' g2' hne j i hj hi y o y' o' hy hy'

/-- A contract by a table: each row finds its names, and is a contract about them alone. -/
theorem contract_of_use {P : Program} {f : FuncId} {c : List SV → Hp → Out (SV × Hp)} (hc : ∀ args H, (∃ n, c args H = .bad n) ∨ ∃ σ n args0 h0 post, c args H = useT σ n args0 h0 post args H ∧ LocalOK P f args0 h0 n post) : ContractOK P f c := by
  intro φ ρ H w args vs K h hv hh
  rcases hc args H with ⟨n, e⟩ | ⟨σ, n, args0, h0, post, e, hl⟩
  · rw [e] at hh; exact hh.elim
  · rw [e] at hh
    exact use_ok hl h hv hh
end Go.Proofs.Ytjpnpaboahbncaa.Sx
