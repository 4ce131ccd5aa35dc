/- Regions that draw their order: a walk in the order of the text serves every order, if each operation looks at its own forerunners alone. Abstract: no heap in sight. -/
import Derived.Test.YtjpnpaboahbncaaSxBase
set_option linter.unusedVariables false
set_option linter.unusedSimpArgs false
namespace Go.Proofs.Ytjpnpaboahbncaa.Sx
open Go Go.RowKit

section
variable {Lf : Type}
abbrev LM (Lf : Type) := Nat → Option Lf
def LM.set (L : LM Lf) (i : Nat) (x : Lf) : LM Lf := fun j => if j = i then some x else L j
theorem LM.set_comm (L : LM Lf) {i j : Nat} (x y : Lf) (h : i ≠ j) : (L.set i x).set j y = (L.set j y).set i x := by
  funext k
  simp only [LM.set]
  by_cases h1 : k = j <;> by_cases h2 : k = i <;> simp_all
theorem LM.set_at (L : LM Lf) (i : Nat) (x : Lf) : L.set i x i = some x := by simp [LM.set]
theorem LM.set_ne (L : LM Lf) {i j : Nat} (x : Lf) (h : j ≠ i) : L.set i x j = L j := by simp [LM.set, h]

def res (T : Nat → LM Lf → Out Lf) (QF : LM Lf → Prop) : List Nat → LM Lf → Prop
  | [], L => QF L
  | k :: ks, L => (T k L).holds fun x => res T QF ks (L.set k x)

variable {T : Nat → LM Lf → Out Lf} {QF : LM Lf → Prop} {anc : Nat → Nat → Bool}

/-- One that waits for nobody may come first. -/
theorem res_pull (hloc : ∀ k L L', (∀ j, anc k j = true → L j = L' j) → T k L = T k L') (hlt : ∀ k j, anc k j = true → j < k) (i : Nat) : ∀ (ks : List Nat) (L : LM Lf), ks.Pairwise (· < ·) → i ∈ ks → (∀ j ∈ ks, anc i j = false) →
    res T QF ks L → (T i L).holds fun x => res T QF (ks.erase i) (L.set i x)
  | [], L, _, hi, _, _ => by cases hi
  | k :: ks, L, hs, hi, hn, h => by
    by_cases e : i = k
    · subst e
      simp only [List.erase_cons_head]
      exact h
    · have hi' : i ∈ ks := by
        cases hi with
        | head => exact absurd rfl e
        | tail _ h => exact h
      have hki : k < i := (List.pairwise_cons.1 hs).1 i hi'
      rw [List.erase_cons_tail (by simpa using Ne.symm e)]
      simp only [res] at h ⊢
      have h1 : (T k L).holds fun x => (T i L).holds fun y => res T QF (ks.erase i) ((L.set i y).set k x) := by
        refine Out.holds_mono _ (fun x hx => ?_) h
        have := res_pull hloc hlt i ks (L.set k x) (List.pairwise_cons.1 hs).2 hi' (fun j hj => hn j (List.mem_cons_of_mem _ hj)) hx
        have e1 : T i (L.set k x) = T i L := hloc i _ _ fun j hj => LM.set_ne _ _ (by rintro rfl; rw [hn j List.mem_cons_self] at hj; cases hj)
        rw [e1] at this
        refine Out.holds_mono _ (fun y hy => ?_) this
        rw [LM.set_comm _ _ _ e]; exact hy
      have h2 := Out.holds_swap _ _ h1
      refine Out.holds_mono _ (fun y hy => ?_) h2
      have e2 : T k (L.set i y) = T k L := hloc k _ _ fun j hj => LM.set_ne _ _ (by rintro rfl; have := hlt k j hj; omega)
      rw [e2]; exact hy

theorem res_const {p : Prop} : ∀ (ks : List Nat) (L : LM Lf), res T QF ks L → (∀ L', (∀ j, j ∉ ks → L' j = L j) → QF L' → p) → p
  | [], L, h, hp => hp L (fun _ _ => rfl) h
  | k :: ks, L, h, hp => by
    refine Out.holds_const (T k L) (Out.holds_mono _ (fun x hx => ?_) h)
    refine res_const ks _ hx fun L' h1 h2 => hp L' (fun j hj => ?_) h2
    rw [h1 j (fun h => hj (List.mem_cons_of_mem _ h))]
    exact LM.set_ne _ _ (by rintro rfl; exact hj List.mem_cons_self)

/-- Whatever order is picked. -/
theorem any_of_res {P : Program} {ops : Array Oper} {Q : Exit → Act → World → Prop} {Sat : LM Lf → Act → World → Prop} {C : Nat → Lf → Nat → Lf → Prop}
    (hloc : ∀ k L L', (∀ j, anc k j = true → L j = L' j) → T k L = T k L') (hlt : ∀ k j, anc k j = true → j < k)
    (hdir : ∀ i o j, ops[i]? = some o → anc i j = true → ∃ e ∈ o.after, Region.binds .any e = true ∧ (e.on = j ∨ anc e.on j = true))
    (hbk : ∀ i o e, ops[i]? = some o → e ∈ o.after → Region.binds .any e = true → e.on < i)
    (hstep : ∀ k o L a w K, ops[k]? = some o → L k = none → (∀ j, anc k j = true → (L j).isSome) → Sat L a w → (T k L).holds K →
      (∀ x, K x → ∀ j y, L j = some y → C j y k x) → wpOp P ops Q k (fun a' w' => ∃ x, K x ∧ Sat (L.set k x) a' w') a w)
    (hC : ∀ L, QF L → ∀ j k y x, j ≠ k → L j = some y → L k = some x → C j y k x)
    (hend : ∀ L a w, QF L → (∀ k, k < ops.size → (L k).isSome) → Sat L a w → Q .normal a w) :
    ∀ (fuel : Nat) (ks : List Nat) (listed : Array Bool) (L : LM Lf) (a : Act) (w : World), ks.length = fuel → ks.Pairwise (· < ·) → listed.size = ops.size → (∀ k, k ∈ ks ↔ k < ops.size ∧ listed.getD k true = false) →
      (∀ k, k < ops.size → (listed.getD k false = true ↔ (L k).isSome)) → (∀ k j, (L k).isSome → anc k j = true → (L j).isSome) → res T QF ks L → Sat L a w → wpAny P .any ops Q fuel listed a w := by
  intro fuel
  induction fuel with
  | zero =>
    intro ks listed L a w hl hs hsz hks hL hdown h hsat
    have hk0 : ks = [] := List.eq_nil_of_length_eq_zero hl
    subst hk0
    refine ⟨?_, hend L a w h (fun k hk => ?_) hsat⟩
    · rw [Region.ready]
      rw [List.filter_eq_nil_iff]
      intro k hk
      have hk' : k < ops.size := by simpa using hk
      have : listed.getD k true ≠ false := fun hf => by have := (hks k).2 ⟨hk', hf⟩; cases this
      simp [this]
    · have h1 : listed.getD k true ≠ false := fun hf => by have := (hks k).2 ⟨hk, hf⟩; cases this
      refine (hL k hk).1 ?_
      have hkl : k < listed.size := by omega
      simp only [Array.getD_eq_getD_getElem?, Array.getElem?_eq_getElem hkl, Option.getD_some] at h1 ⊢
      cases hb : listed[k] <;> simp_all
  | succ fuel ih =>
    intro ks listed L a w hl hs hsz hks hL hdown h hsat
    have hready : ∀ i, i ∈ Region.ready .any ops listed → i ∈ ks ∧ (∀ j, anc i j = true → (L j).isSome) ∧ ∃ o, ops[i]? = some o := by
      intro i hi
      simp only [Region.ready, List.mem_filter, List.mem_range, Bool.and_eq_true, Bool.not_eq_true'] at hi
      obtain ⟨hi1, hi2, hi3⟩ := hi
      refine ⟨(hks i).2 ⟨hi1, hi2⟩, ?_, ⟨_, Array.getElem?_eq_getElem hi1⟩⟩
      intro j hj
      rw [Array.getElem?_eq_getElem hi1] at hi3
      simp only [Option.map_some, Option.getD_some, Array.all_eq_true_iff_forall_mem] at hi3
      obtain ⟨e, he, hb, hor⟩ := hdir i ops[i] j (Array.getElem?_eq_getElem hi1) hj
      have h1 := hi3 e he
      simp only [hb, Bool.not_true, Bool.false_or] at h1
      have hon : e.on < listed.size := by
        rcases Nat.lt_or_ge e.on listed.size with h' | h'
        · exact h'
        · simp [Array.getElem?_eq_none h'] at h1
      have h2 := (hL e.on (by omega)).1 h1
      rcases hor with rfl | hor
      · exact h2
      · exact hdown _ _ h2 hor
    refine ⟨fun h0 => ?_, fun i hi => ?_⟩
    · -- somebody is ready: the least of those that are left
      exfalso
      cases ks with
      | nil => simp at hl
      | cons k ks =>
        have hk := (hks k).1 List.mem_cons_self
        have : k ∈ Region.ready .any ops listed := by
          simp only [Region.ready, List.mem_filter, List.mem_range, Bool.and_eq_true, Bool.not_eq_true']
          refine ⟨hk.1, hk.2, ?_⟩
          rw [Array.getElem?_eq_getElem hk.1]
          simp only [Option.map_some, Option.getD_some, Array.all_eq_true_iff_forall_mem]
          intro e he
          by_cases hb : Region.binds .any e = true
          · have h1 := hbk k _ e (Array.getElem?_eq_getElem hk.1) he hb
            have h2 : e.on ∉ k :: ks := by
              intro hm
              cases hm with
              | head => omega
              | tail _ hm => have := (List.pairwise_cons.1 hs).1 _ hm; omega
            have h3 : listed.getD e.on true ≠ false := fun hf => h2 ((hks e.on).2 ⟨by omega, hf⟩)
            have h4 : e.on < listed.size := by omega
            simp only [Array.getD_eq_getD_getElem?, Array.getElem?_eq_getElem h4, Option.getD_some] at h3 ⊢
            cases hx : listed[e.on] <;> simp_all
          · simp [hb]
        rw [h0] at this; cases this
    · obtain ⟨hik, hanc, o, ho⟩ := hready i hi
      have hLi : L i = none := by
        have h1 := (hks i).1 hik
        cases hx : L i with
        | none => rfl
        | some x =>
          have := (hL i h1.1).2 (by simp [hx])
          have hil : i < listed.size := by omega
          simp only [Array.getD_eq_getD_getElem?, Array.getElem?_eq_getElem hil, Option.getD_some] at this h1
          rw [this] at h1; cases h1.2
      have hnot : ∀ j ∈ ks, anc i j = false := by
        intro j hj
        cases hb : anc i j with
        | false => rfl
        | true =>
          have h1 := (hks j).1 hj
          have h2 := hanc j hb
          have h3 := (hL j h1.1).2 h2
          have hjl : j < listed.size := by omega
          simp only [Array.getD_eq_getD_getElem?, Array.getElem?_eq_getElem hjl, Option.getD_some] at h3 h1
          rw [h3] at h1; cases h1.2
      have hp := res_pull hloc hlt i ks L hs hik hnot h
      have hnd : ks.Nodup := hs.imp (fun h => Nat.ne_of_lt h)
      refine wpOp_mono ?_ (hstep i o L a w _ ho hLi hanc hsat hp ?_)
      case refine_2 =>
        intro x hx j y hj
        refine res_const (ks.erase i) (L.set i x) hx fun L' h1 h2 => ?_
        have hji : j ≠ i := by rintro rfl; rw [hLi] at hj; cases hj
        have hjk : j ∉ ks.erase i := by
          intro hm
          have := List.mem_of_mem_erase hm
          have h3 := (hks j).1 this
          have h4 := (hL j h3.1).2 (by simp [hj])
          have hjl : j < listed.size := by omega
          simp only [Array.getD_eq_getD_getElem?, Array.getElem?_eq_getElem hjl, Option.getD_some] at h4 h3
          rw [h4] at h3; cases h3.2
        have hik' : i ∉ ks.erase i := by rw [hnd.mem_erase_iff]; simp
        exact hC L' h2 j i y x hji (by rw [h1 j hjk, LM.set_ne _ _ hji]; exact hj) (by rw [h1 i hik', LM.set_at])
      rintro a' w' ⟨x, hx, hS⟩
      have hi1 := (hks i).1 hik
      have hil : i < listed.size := by omega
      refine ih (ks.erase i) _ (L.set i x) a' w' (by rw [List.length_erase_of_mem hik]; omega) (hs.sublist List.erase_sublist) (by simp [hsz]) ?_ ?_ ?_ hx hS
      · intro k
        rw [hnd.mem_erase_iff, hks k]
        simp only [Array.getD_eq_getD_getElem?, Array.getElem?_setIfInBounds]
        by_cases e : i = k
        · subst e; simp [hil]
        · simp [e, Ne.symm e]
      · intro k hk
        simp only [Array.getD_eq_getD_getElem?, Array.getElem?_setIfInBounds]
        by_cases e : i = k
        · subst e; simp [hil, LM.set_at]
        · rw [if_neg e, LM.set_ne _ _ (Ne.symm e)]
          have := hL k hk
          simpa [Array.getD_eq_getD_getElem?] using this
      · intro k j hk hj
        by_cases e : k = i
        · subst e
          have hji : j ≠ k := by have := hlt k j hj; omega
          rw [LM.set_ne _ _ hji]; exact hanc j hj
        · rw [LM.set_ne _ _ e] at hk
          by_cases e' : j = i
          · subst e'; simp [LM.set_at]
          · rw [LM.set_ne _ _ e']; exact hdown k j hk hj
end
end Go.Proofs.Ytjpnpaboahbncaa.Sx
