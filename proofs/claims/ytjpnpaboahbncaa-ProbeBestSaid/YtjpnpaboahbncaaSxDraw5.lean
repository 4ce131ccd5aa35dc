/- A region that draws its order: any order ends as the order of the text says. -/
import Derived.Test.YtjpnpaboahbncaaSxDraw4
set_option linter.unusedVariables false
set_option linter.unusedSimpArgs false
namespace Go.Proofs.Ytjpnpaboahbncaa.Sx
open Go Go.RowKit

theorem allRows_h : ∀ {h : HL} {key : Nat} {b : Blk}, allRows h = true → find key h = some b → b.isRow = true
  | [], _, _, _, h => by simp [find] at h
  | (k, x) :: r, key, b, ha, h => by
    simp only [allRows, Bool.and_eq_true] at ha
    rw [find_cons] at h
    split at h
    · cases h; exact ha.1
    · exact allRows_h ha.2 h

section
variable {R : Rg}
theorem hD_sc (ha : AncOK R.ops R.anc) (he : edgesOK R.ops 0 = true) {φ : Fr} {ρ : Rho} {L : LM Lf} {a : Act} {w : World} (hs : SatR R φ ρ L a w) {key : Nat} {b : Blk} (h2 : find key (R.hD L) = some b) : R.scO (tag allS L key R.n) key := by
  rcases vh_tag R.n h2 with ⟨j, y, g1, g2, g3, g4, g5⟩ | ⟨g1, g2⟩
  · rw [g1]
    rcases hs.wf.updk j y g4 key b g5 with h | h
    · obtain ⟨b2, hb2⟩ := Option.isSome_iff_exists.1 (hs.wf.ff j y g4 key (hs.wf.wf j y g4 key h))
      rcases origin ha he hs.base hs.wf j key b2 hb2 with h5 | ⟨i, h5, h6, h7⟩
      · refine ⟨?_, .inl h5⟩
        have := h5.1; have := N_base (R := R) j; omega
      · have := N_lt (R := R) (ha.lt he j i h5)
        exact ⟨by omega, .inr (.inl ⟨i, h5, h6, h7⟩)⟩
    · exact ⟨h.2, .inr (.inr h.1)⟩
  · rw [g1]; exact hs.base key b g2

theorem step_ok (hc : CallOK R.P R.callT) (ha : AncOK R.ops R.anc) (he : edgesOK R.ops 0 = true) (hd : dstsOK R.anc R.ops = true) {φ : Fr} {ρ : Rho} {L : LM Lf} {a : Act} {w : World} (hs : SatR R φ ρ L a w)
    {k : Nat} {o : Oper} {Q : Exit → Act → World → Prop} {K : Lf → Prop} (ho : R.ops[k]? = some o) (hk : L k = none) (hanc : ∀ j, R.anc k j = true → (L j).isSome) (hT : (R.T k L).holds K)
    (hcmp : ∀ x, K x → ∀ j y, L j = some y → Free R j k → Apart y x) :
    wpOp R.P R.ops.toArray Q k (fun a' w' => ∃ x, K x ∧ ∃ ρ', Agree R.s0.H.sc ρ ρ' ∧ SatR R φ ρ' (L.set k x) a' w') a w := by
  have hkn : k < R.n := (List.getElem?_eq_some_iff.1 ho).1
  have hdst : R.dst k = o.dst := by simp [Rg.dst, ho]
  unfold Rg.T at hT
  rw [ho] at hT
  obtain ⟨o', ho', hT⟩ := opt_holds hT
  cases ho'
  rw [Out.holds_bind] at hT
  have hg := guardT_ok0 (n := fun x => x < R.N k ∧ R.D k x) (view_tmps ha he hs hk (n := fun x => x < R.N k ∧ R.D k x) (fun x hx => hx)) hT
  unfold wpOp
  simp only [List.getElem?_toArray, ho]
  split
  · rename_i hw
    rw [hw] at hg
    replace hg : ((opT R.P R.callT ⟨(R.view k L).tmps, ⟨restr (foot (R.wr k) (R.view k L) o.op).1 (foot (R.wr k) (R.view k L) o.op).2 (R.hV k L), R.N k, R.D k⟩⟩ o.op).bind fun r => (splitT (isG R.ops o.dst) r).bind fun r =>
        chk (Nat.ble r.2.nxt (R.N k + R.S) && allRows (newOf (R.N k) (((restr (foot (R.wr k) (R.view k L) o.op).1 (foot (R.wr k) (R.view k L) o.op).2 (R.hV k L)).map (·.1)).filter (mem · (foot (R.wr k) (R.view k L) o.op).2)) r.2.h))
          (.leaf ⟨r.1, (restr (foot (R.wr k) (R.view k L) o.op).1 (foot (R.wr k) (R.view k L) o.op).2 (R.hV k L)).map (·.1), ((restr (foot (R.wr k) (R.view k L) o.op).1 (foot (R.wr k) (R.view k L) o.op).2 (R.hV k L)).map (·.1)).filter (mem · (foot (R.wr k) (R.view k L) o.op).2),
            newOf (R.N k) (((restr (foot (R.wr k) (R.view k L) o.op).1 (foot (R.wr k) (R.view k L) o.op).2 (R.hV k L)).map (·.1)).filter (mem · (foot (R.wr k) (R.view k L) o.op).2)) r.2.h⟩) 240).holds K := hg
    generalize (foot (R.wr k) (R.view k L) o.op).1 = F at hg
    generalize (foot (R.wr k) (R.view k L) o.op).2 = W0 at hg
    rw [Out.holds_bind] at hg
    have hc1 : ∀ j y, L j = some y → Free R j k → ∀ key ∈ y.W, key ∉ (restr F W0 (R.hV k L)).map (·.1) := by
      intro j y hj hfr
      refine Out.holds_const _ (Out.holds_mono _ (fun r hr => ?_) hg)
      rw [Out.holds_bind] at hr
      refine Out.holds_const _ (Out.holds_mono _ (fun r hr => ?_) hr)
      obtain ⟨_, hr⟩ := chk_holds hr
      exact (hcmp _ hr j y hj hfr).1
    have hinv := view_inv ha he hs hk F W0 (fun key b hf j y hj hfr hm => hc1 j y hj hfr key hm (find_mem hf))
    refine .inl (Oper.wp_mono ?_ (opT_ok (o := o) (Q := Q) hc hinv hg))
    rintro a' w' ⟨v, ρ', sv0, H', hK, h1, h2, h3, h40, rfl⟩
    rw [Out.holds_bind] at hK
    obtain ⟨sv, hK, hsv⟩ := splitT_ok hK
    have h4 := hsv _ _ _ h40
    clear hsv h40
    obtain ⟨hb, hK⟩ := chk_holds hK
    simp only [Bool.and_eq_true] at hb
    obtain ⟨hb1, hb2⟩ := hb
    replace hb1 : H'.nxt ≤ R.N k + R.S := Nat.le_of_ble_eq_true hb1
    have hwrow : ∀ z c, find z (restr F W0 (R.hV k L)) = some c → c.isRow = true → z ∈ ((restr F W0 (R.hV k L)).map (·.1)).filter (mem · W0) ∧ find z (R.hD L) = some c := by
      intro z c hf hr
      have hm := find_mem hf
      have hf' := hf
      rw [find_restr] at hf'
      split at hf'
      · rename_i hzW
        refine ⟨List.mem_filter.2 ⟨hm, mem_iff.2 hzW⟩, ?_⟩
        exact (seen ha he hs hk hf' (fun j y hj hfr hw' => hc1 j y hj hfr z hw' hm)).1
      · split at hf'
        · obtain ⟨b, _, rfl⟩ := Option.map_eq_some_iff.1 hf'
          rw [Blk.ro_isRow] at hr; cases hr
        · cases hf'
    have hwF : ∀ z ∈ (restr F W0 (R.hV k L)).map (·.1), ∃ c, find z (R.hV k L) = some c := by
      intro z hz
      obtain ⟨c, hf⟩ := find_some_of_mem hz
      rw [find_restr] at hf
      split at hf
      · exact ⟨c, hf⟩
      · split at hf
        · obtain ⟨b, hb, _⟩ := Option.map_eq_some_iff.1 hf
          exact ⟨b, hb⟩
        · cases hf
    generalize hWk : ((restr F W0 (R.hV k L)).map (·.1)).filter (mem · W0) = Wk at hK hb2 hwrow
    have hWF : ∀ z ∈ Wk, z ∈ (restr F W0 (R.hV k L)).map (·.1) := by
      intro z hz; rw [← hWk] at hz; exact (List.mem_filter.1 hz).1
    have hD' : H'.D = R.D k := h2.D
    have hold : ∃ ρ2 : Rho, (∀ z, R.N k ≤ z ∧ z < R.N k + R.S → ρ2 z = ρ' z) ∧ ∀ z, ¬ (R.N k ≤ z ∧ z < R.N k + R.S) → ρ2 z = ρ z :=
      ⟨fun z => if R.N k ≤ z ∧ z < R.N k + R.S then ρ' z else ρ z, fun z hz => if_pos hz, fun z hz => if_neg hz⟩
    obtain ⟨ρ2, hin, hout⟩ := hold
    have hag : Agree H'.sc ρ' ρ2 := by
      intro z hz
      by_cases e : R.N k ≤ z ∧ z < R.N k + R.S
      · exact hin z e
      · rw [hout z e]
        have hz1 := hz.1
        have hzD := hz.2
        rw [hD'] at hzD
        exact (h1 z ⟨by show z < R.N k; omega, hzD⟩).symm
    have hsc : ∀ z, H'.sc z → R.scope k z := fun z hz => ⟨Nat.lt_of_lt_of_le hz.1 hb1, hD' ▸ hz.2⟩
    have hnew : ∀ key b, find key (newOf (R.N k) Wk H'.h) = some b → (key ∈ Wk ∨ R.N k ≤ key) ∧ find key H'.h = some b ∧ b.isRow = true ∧ ρ2 key = ρ' key := by
      intro key b hf
      have hr := allRows_h hb2 hf
      rw [find_newOf] at hf
      split at hf
      · rename_i hh
        exact ⟨hh, hf, hr, hag key (h3.lt key b hf)⟩
      · cases hf
    have hblk : ∀ y, y < w.heap.size → (¬ ∃ z ∈ Wk, ∃ c i' o', find z (R.hD L) = some c ∧ c.isRow = true ∧ c.live i' ∧ ρ z i' = some (y, o')) → w'.heap[y]? = w.heap[y]? := by
      intro y hy hne
      refine h3.fr.block y hy ?_
      rintro ⟨z, c, i, o', hf, hr, hli, hρ⟩
      obtain ⟨g1, g2⟩ := hwrow z c hf hr
      exact hne ⟨z, g1, c, i, o', g2, hr, hli, hρ⟩
    refine ⟨_, hK, ρ2, fun z hz => hout z (by rintro ⟨q1, _⟩; have := hz.1; have := N_base (R := R) k; omega), ?_⟩
    rw [← hdst]
    refine sat_next ha he hd hs hk hkn hanc (fun j y hj hfr => hcmp _ hK j y hj hfr) hWF (fun z hz => ?_) ?_ ?_ hout hblk ?_ h3.fr.size (h4.ext hag hsc)
    · obtain ⟨c, hc'⟩ := hwF z hz; simp [hc']
    · intro key b hf
      obtain ⟨g1, g2, g3, g4⟩ := hnew key b hf
      have hlt := h3.lt key b g2
      refine ⟨?_, g3, Blk.sat_ext (h3.sat key b g2) hag hsc hlt, ?_, ?_⟩
      · exact g1.imp id fun h => ⟨h, Nat.lt_of_lt_of_le hlt.1 hb1⟩
      · intro i hi y o' hy; rw [g4] at hy; exact h3.bd key b g2 i hi y o' hy
      · intro i hi y o' hy
        rw [g4] at hy
        rcases h3.may key b g2 g3 i hi y o' hy with ⟨z, c, i', o2, hf', hr', hli, hρ⟩ | hge
        · obtain ⟨g1', g2'⟩ := hwrow z c hf' hr'
          exact .inl ⟨z, g1', c, i', o2, g2', hr', hli, hρ⟩
        · exact .inr hge
    · intro key b hf key' b' hf' hne j i hj hi y o1 y' o2 hy hy'
      obtain ⟨g1, g2, g3, g4⟩ := hnew key b hf
      obtain ⟨g1', g2', g3', g4'⟩ := hnew key' b' hf'
      rw [g4] at hy
      rw [g4'] at hy'
      exact h3.sep key b g2 g3 key' b' g2' hne j i hj hi y o1 y' o2 hy hy'
    · refine ⟨h3.fr.os.trans hs.fr.os, h3.fr.tape.trans hs.fr.tape, h3.fr.output.trans hs.fr.output, Nat.le_trans hs.fr.size h3.fr.size, fun b hb hn => ?_⟩
      rw [← hs.fr.block b hb hn]
      refine h3.fr.block b (Nat.lt_of_lt_of_le hb hs.fr.size) ?_
      rintro ⟨z, c, i, o', hf, hr, hli, hρ⟩
      obtain ⟨g1, g2⟩ := hwrow z c hf hr
      rcases hs.may z c g2 hr i hli b o' hρ with h | h
      · exact hn h
      · omega
  · rename_i hw
    have hw' : Region.wanted o (yielded R.ops.toArray a.tmps) = false := by simpa using hw
    rw [hw'] at hg
    replace hg : K ⟨.t [], [], [], []⟩ := hg
    refine ⟨_, hg, ρ, .refl _ _, ?_⟩
    rw [← hdst]
    refine sat_next ha he hd hs hk hkn hanc (fun j y hj hfr => hcmp _ hg j y hj hfr) (fun key h => by cases h) (fun key h => by cases h) (fun key b h => by cases h) (fun key b h => by cases h) (fun _ _ => rfl) (fun _ _ _ => rfl) hs.fr (Nat.le_refl _) (fun _ _ => rfl)

theorem vt_loc {anc : Nat → Nat → Bool} {k : Nat} {L L' : LM Lf} (h : ∀ j, anc k j = true → L j = L' j) : ∀ (os : List Oper) (j0 : Nat) (t : List (Option SV)), vt anc k L os j0 t = vt anc k L' os j0 t
  | [], _, _ => rfl
  | o :: os, j0, t => by
    cases hd : o.dst with
    | none => simp only [vt, hd]; exact vt_loc h os _ _
    | some d =>
      cases h1 : anc k j0 with
      | true => simp only [vt, hd, h1, h j0 h1]; exact vt_loc h os _ _
      | false => cases h2 : anc j0 k <;> simp only [vt, hd, h1, h2] <;> exact vt_loc h os _ _
theorem vh_loc {sel : Nat → Bool} {L L' : LM Lf} (hL : ∀ j, sel j = true → L j = L' j) (h : HL) : ∀ m, vh sel L m h = vh sel L' m h
  | 0 => rfl
  | m + 1 => by
    simp only [vh, vh_loc hL h m]
    cases h1 : sel m with
    | true => rw [hL m h1]
    | false => rfl
theorem T_loc (k : Nat) (L L' : LM Lf) (h : ∀ j, R.anc k j = true → L j = L' j) : R.T k L = R.T k L' := by
  have e : R.view k L = R.view k L' := by unfold Rg.view; rw [vt_loc h, vh_loc h]
  unfold Rg.T
  rw [e]

theorem vh_none {sel : Nat → Bool} {h : HL} : ∀ m, vh sel (fun _ => (none : Option Lf)) m h = h
  | 0 => rfl
  | m + 1 => by simp only [vh, vh_none m]; cases sel m <;> rfl
theorem tag_none {sel : Nat → Bool} {key : Nat} : ∀ m, tag sel (fun _ => (none : Option Lf)) key m = none
  | 0 => rfl
  | m + 1 => by simp only [tag, tag_none m]; cases sel m <;> rfl
theorem lastD_none {dst : Nat → Option Tmp} {t : Nat} : ∀ m, lastD dst (fun _ => (none : Option Lf)) t m = none
  | 0 => rfl
  | m + 1 => by simp only [lastD, lastD_none m]; simp

theorem start_ok {φ : Fr} {ρ : Rho} {a : Act} {w : World} (h : Inv φ ρ R.s0 a w) : SatR R φ ρ (fun _ => none) a w := by
  have e : R.hD (fun _ => none) = R.s0.H.h := vh_none _
  refine ⟨h.heap.fr, h.heap.up, h.heap.lt, ⟨?_, ?_, ?_, ?_, ?_, ?_⟩, ?_, ?_, ?_, ?_, h.defers, h.size, ?_⟩
  · intro j x hj; cases hj
  · intro j x hj; cases hj
  · intro j x hj; cases hj
  · intro j x hj; cases hj
  · intro j i hj; simp at hj
  · intro i j x y _ hi; cases hi
  · intro key b hf; rw [e] at hf; rw [tag_none]; exact h.heap.sat key b hf
  · intro key b hf; rw [e] at hf; exact h.heap.bd key b hf
  · intro key b hf; rw [e] at hf; exact h.heap.may key b hf
  · intro key b hf hr key' b' hf'; rw [e] at hf hf'; exact h.heap.sep key b hf hr key' b' hf'
  · intro t ht
    rw [lastD_none]
    exact fun sv hsv => h.tmps t sv hsv

def Rg.fin (R : Rg) (L : LM Lf) : St := ⟨vt (fun _ _ => true) R.ops.length L R.ops 0 R.s0.tmps, ⟨vh (fun _ => true) L R.ops.length R.s0.H.h, R.s0.H.nxt + R.ops.length * R.S, R.s0.H.D⟩⟩
theorem end_ok (ha : AncOK R.ops R.anc) (he : edgesOK R.ops 0 = true) {φ : Fr} {ρ : Rho} {L : LM Lf} {a : Act} {w : World} (hs : SatR R φ ρ L a w) : Inv φ ρ (R.fin L) a w := by
  have sco : ∀ t z, (∀ j, t = some j → j < R.n) → R.scO t z → (R.fin L).H.sc z := by
    intro t z ht hz
    cases t with
    | none => exact ⟨Nat.lt_of_lt_of_le hz.1 (Nat.le_add_right _ _), hz.2⟩
    | some j =>
      have hj := ht j rfl
      have := N_lt (R := R) hj
      refine ⟨?_, ?_⟩
      · have h1 := hz.1
        have h2 : R.N R.n = R.s0.H.nxt + R.ops.length * R.S := rfl
        show z < R.s0.H.nxt + R.ops.length * R.S
        omega
      · rcases hz.2 with h | ⟨i, _, h, _⟩ | h
        · exact h.2
        · exact hs.up z (Nat.le_trans (N_base i) h)
        · exact hs.up z (Nat.le_trans (N_base j) h)
  have htag : ∀ key j, tag allS L key R.n = some j → j < R.n := fun key j h => (tag_lt h).1
  refine ⟨⟨hs.fr, fun z hz => hs.up z (Nat.le_trans (Nat.le_add_right _ _) hz), ?_, ?_, hs.bd, hs.may, hs.sep⟩, hs.defers, ?_, ?_⟩
  · intro key b hf
    exact sco _ _ (htag key) (hD_sc ha he hs hf)
  · intro key b hf
    exact Blk.sat_ext (hs.sat key b hf) (.refl _ _) (fun z hz => sco _ z (htag key) hz) (hD_sc ha he hs hf)
  · simp [Rg.fin, vt_length, hs.size]
  · intro t sv hv
    have hlen : t < R.s0.tmps.length := by
      have := (List.getElem?_eq_some_iff.1 hv).1
      simpa [Rg.fin, vt_length] using this
    have h1 := vt_is (R := R) (A := fun _ _ => true) (k := R.ops.length) (L := L) (t := t) (fun j h _ => by cases h) R.ops 0 R.s0.tmps (fun i => by simp) (fun sv h => h) sv hv
    have h2 := hs.slots t hlen
    simp only [Nat.zero_add] at h1
    change match lastD R.dst L t R.n with | some j => _ | none => _ at h1
    cases hl : lastD R.dst L t R.n with
    | none =>
      rw [hl] at h1 h2
      obtain ⟨v, hv, hi⟩ := h2 sv h1
      exact ⟨v, hv, hi.ext (.refl _ _) (fun x hx => sco none x (fun j h => by cases h) hx)⟩
    | some j =>
      rw [hl] at h1 h2
      obtain ⟨_, x, hx, rfl⟩ := h1
      obtain ⟨v, hv, hi⟩ := h2 x hx
      have hj := (lastD_lt hl).1
      exact ⟨v, hv, hi.ext (.refl _ _) (fun y hy => sco (some j) y (fun i h => by cases h; exact hj) hy)⟩
end

theorem Inv.drew {φ : Fr} {ρ : Rho} {s : St} {a : Act} {w : World} (h : Inv φ ρ s a w) : Inv φ ρ s a w.drew := ⟨h.heap.drew, h.defers, h.size, h.tmps⟩

/-- A region that draws its order. -/
theorem draw_ok {P : Program} {callT : CallT} (hc : CallOK P callT) {φ : Fr} {S : Nat} {ops : List Oper} {Q : Exit → Act → World → Prop} {ρ : Rho} {s : St} {a : Act} {w : World} {K : St → Prop} {id : Nat} (h : Inv φ ρ s a w)
    (hh : (drawT P callT S ops s).holds K) (hQ : Then φ ρ s K (Q .normal)) : (Code.region id ops.toArray true).wp P Q a w := by
  unfold drawT at hh
  rw [fNs_eq] at hh
  obtain ⟨hb, hh⟩ := chk_holds hh
  simp only [Bool.and_eq_true] at hb
  obtain ⟨⟨hm, he⟩, hd⟩ := hb
  have ha : AncOK ops (ancOf (masks ops [])) := anc_ok he
  generalize hR : (⟨P, callT, ops, ancOf (masks ops []), writers (ancOf (masks ops [])) ops, S, s⟩ : Rg) = R at hh
  have e1 : R.P = P := by rw [← hR]
  have e2 : R.callT = callT := by rw [← hR]
  have e3 : R.ops = ops := by rw [← hR]
  have e4 : R.anc = ancOf (masks ops []) := by rw [← hR]
  have e5 : R.s0 = s := by rw [← hR]
  have e6 : R.S = S := by rw [← hR]
  have hh2 : ((resT R.T R.ops.length 0 (fun _ => none)).bind fun L => chk (compat R.anc L R.ops.length) (.leaf (R.fin L)) 243).holds K := by
    rw [Out.holds_bind]
    have h0 : (ofL [] : LM Lf) = fun _ => none := by funext j; simp [ofL]
    rw [← h0]
    refine resTL_eq (R := R) R.ops.length 0 [] rfl (by omega) ?_
    rw [Out.holds_bind] at hh
    rw [e3, e4]
    refine Out.holds_mono _ (fun l hl hlen => ?_) hh
    obtain ⟨q1, q2⟩ := chk_holds hl
    simp only [fTm_eq, fHL_eq, fN_eq] at q2
    have e : R.fin (ofL l) = ⟨vtL (fun _ _ => true) ops.length l ops 0 s.tmps, ⟨vhL (fun _ => true) l 0 s.H.h, s.H.nxt + ops.length * S, s.H.D⟩⟩ := by
      have g1 := vtL_eq (fun _ _ => true) ops.length l ops 0 s.tmps
      rw [List.drop_zero] at g1
      unfold Rg.fin
      rw [e3, e5, e6, g1, vhL_view (fun _ => true) l s.H.h (n := ops.length) (by rw [hlen]; exact Nat.le_refl _)]
    rw [e, q1]
    exact q2
  rw [← e4] at ha hd
  rw [← e3] at ha he hd ⊢
  subst e1 e2 e5
  rw [Out.holds_bind] at hh2
  have hres := resT_res _ _ _ hh2
  refine wp_region_any hm ?_
  refine any_of_res (T := R.T) (anc := R.anc) (Sat := fun L a w => ∃ ρ', Agree R.s0.H.sc ρ ρ' ∧ SatR R φ ρ' L a w) (C := fun j y k x => j < R.n → k < R.n → Free R j k → Apart y x)
    T_loc (fun k j hj => ha.lt he k j hj) ?_ ?_ ?_ ?_ ?_ _ (List.range' 0 R.ops.length) _ _ a _ (by simp) ?_ (by simp) ?_ ?_ ?_ hres ⟨ρ, .refl _ _, start_ok h.drew⟩
  · intro i o j ho hj
    obtain ⟨e, h1, h2, h3⟩ := (ha.dir i o j (by simpa using ho)).1 hj
    exact ⟨e, by simpa using h1, h2, h3⟩
  · intro i o e ho hm' hb
    have := edgesOK_h he i o (by simpa using ho) e (by simpa using hm') hb
    omega
  · rintro k o L a w K' ho hk hanc ⟨ρ', hag, hs⟩ hT hcmp
    have ho' : R.ops[k]? = some o := by simpa using ho
    refine wpOp_mono ?_ (step_ok (Q := Q) hc ha he hd hs ho' hk hanc hT ?_)
    · rintro a' w' ⟨x, hx, ρ2, h1, h2⟩
      exact ⟨x, hx, ρ2, hag.trans h1, h2⟩
    · intro x hx j y hj hfr
      exact hcmp x hx j y hj (hs.wf.lt j y hj) (List.getElem?_eq_some_iff.1 ho').1 hfr
  · intro L hQF j k y x hne hj hk hjn hkn hfr
    obtain ⟨hb, _⟩ := chk_holds hQF
    rcases Nat.lt_or_gt_of_ne hne with hlt | hgt
    · exact compat_h hb hlt hkn hfr.2 hj hk
    · have := compat_h hb hgt hjn hfr.1 hk hj
      exact ⟨this.2, this.1⟩
  · rintro L a' w' hQF hall ⟨ρ', hag, hs⟩
    obtain ⟨_, hK⟩ := chk_holds hQF
    exact hQ _ ρ' a' w' hK hag ⟨Nat.le_add_right _ _, rfl⟩ (end_ok ha he hs)
  · exact List.pairwise_lt_range'
  · intro k
    simp only [List.mem_range', Nat.zero_add, Nat.one_mul]
    constructor
    · rintro ⟨i, hi, rfl⟩
      exact ⟨by simpa using hi, by simp [hi]⟩
    · rintro ⟨hk, _⟩
      exact ⟨k, by simpa using hk, rfl⟩
  · intro k hk
    have hk' : k < R.ops.length := by simpa using hk
    simp [Array.getD_eq_getD_getElem?, Array.getElem?_replicate, hk']
  · intro k j hk; simp at hk
end Go.Proofs.Ytjpnpaboahbncaa.Sx
