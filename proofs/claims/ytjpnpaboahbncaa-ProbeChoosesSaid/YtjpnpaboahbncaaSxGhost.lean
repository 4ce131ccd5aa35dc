/- Steps of the proof's own: nil slices as rows without elements, new families without instances. -/
import Derived.Test.YtjpnpaboahbncaaSxPure
set_option linter.unusedVariables false
set_option linter.unusedSimpArgs false
namespace Go.Proofs.Ytjpnpaboahbncaa.Sx
open Go Go.RowKit

/-- A new name for blocks that are not there yet. -/
theorem Inv.newDead {φ : Fr} {ρ : Rho} {s : St} {a : Act} {w : World} (h : Inv φ ρ s a w) (b : Blk) (hl : ∀ i, ¬ b.live i) (hs : ∀ n ρ', b.sat n ρ' s.H.nxt w) :
    Agree s.H.sc ρ (ρ.put s.H.nxt none) ∧ s.H.le ⟨(s.H.nxt, b) :: s.H.h, s.H.nxt + 1, s.H.D⟩ ∧ Inv φ (ρ.put s.H.nxt none) ⟨s.tmps, ⟨(s.H.nxt, b) :: s.H.h, s.H.nxt + 1, s.H.D⟩⟩ a w := by
  have hag : Agree s.H.sc ρ (ρ.put s.H.nxt none) := ρ.put_agree (fun _ hj => hj.1) none
  have hsc : ∀ k, s.H.sc k → Hp.sc ⟨(s.H.nxt, b) :: s.H.h, s.H.nxt + 1, s.H.D⟩ k := fun k hk => ⟨Nat.lt_succ_of_lt hk.1, hk.2⟩
  refine ⟨hag, ⟨Nat.le_succ _, rfl⟩, ⟨?_, h.defers, h.size, fun k sv hk => let ⟨v, hv, hi⟩ := h.tmps k sv hk; ⟨v, hv, hi.ext hag hsc⟩⟩⟩
  exact h.heap.regrow (row := none) (fun y hy => nomatch hy) ⟨rfl, rfl, rfl, Nat.le_refl _, fun _ _ _ => rfl⟩ (fun k c hk => ⟨c, hk, fun _ h => h, fun h => h, h.heap.sat k c hk, fun _ _ _ _ _ h => nomatch h⟩) none b (fun i hi => absurd hi (hl i)) (fun hi => absurd hi (hl 0)) (fun hi => absurd hi (hl 0)) (hs _ _)

def newFamG (t : TypeId) (cols : List Col) : St → Out St := fun s => .leaf ⟨s.tmps, ⟨(s.H.nxt, .fam true t (fun _ => 0) (fun _ => 0) cols) :: s.H.h, s.H.nxt + 1, s.H.D⟩⟩
theorem newFamG_ok (t : TypeId) (cols : List Col) : GhostOK (newFamG t cols) := by
  intro φ ρ s a w K h hh
  have := h.newDead (.fam true t (fun _ => 0) (fun _ => 0) cols) (fun i hi => absurd hi (Nat.lt_irrefl 0)) (fun n ρ' => ⟨fun _ => ⟨Nat.le_refl _, Nat.zero_le _⟩, fun i j hi => absurd hi (Nat.lt_irrefl 0), fun i hi => absurd hi (Nat.lt_irrefl 0)⟩)
  exact ⟨_, _, hh, this.1, this.2.1, this.2.2⟩

/-- A temporary that holds a nil slice: a row of no elements. -/
def nilTmpG (i : Nat) (el : TypeId) (sz : Nat) (cols : List Col) : St → Out St := fun s => match s.tmps[i]? with
  | some (some (.c .nils)) => .leaf ⟨s.tmps.set i (some (.c (.slc s.H.nxt (.k 0) (.k 0) sz (.s 0) (.s 0)))), ⟨(s.H.nxt, .row el 0 0 cols) :: s.H.h, s.H.nxt + 1, s.H.D⟩⟩
  | _ => .bad 350
theorem nilTmpG_ok (i : Nat) (el : TypeId) (sz : Nat) (cols : List Col) : GhostOK (nilTmpG i el sz cols) := by
  intro φ ρ s a w K h hh
  unfold nilTmpG at hh
  split at hh
  · rename_i hi
    obtain ⟨h1, h2, h3⟩ := h.newDead (.row el 0 0 cols) (fun j hj => absurd hj.2 (Nat.lt_irrefl 0)) (fun n ρ' => .inl ⟨rfl, rfl⟩)
    refine ⟨_, _, hh, h1, h2, ⟨h3.heap, h3.defers, by simpa using h3.size, fun k sv hk => ?_⟩⟩
    simp only [List.getElem?_set] at hk
    split at hk
    · rename_i e; subst e
      split at hk
      · cases hk
        obtain ⟨v, hv, hs⟩ := h.tmps i _ hi
        refine ⟨v, hv, fun ρ' ha => ?_⟩
        have := ha s.H.nxt ⟨Nat.lt_succ_self _, h.heap.up _ (Nat.le_refl _)⟩
        rw [hs.eq]
        simp [SV.den, SC.den, place, this, Rho.put]
      · cases hk
    · exact h3.tmps k sv hk
  · exact hh.elim

/-- A cell that holds a nil slice. -/
def nilCellG (key f : Nat) (el : TypeId) (sz : Nat) (cols : List Col) : St → Out St := fun s => match find key s.H.h with
  | some (.own t size cs) => match cs[f]? with
    | some (some .nils) => .leaf ⟨s.tmps, ⟨(s.H.nxt, .row el 0 0 cols) :: upd key (.own t size (cs.set f (some (.slc s.H.nxt (.k 0) (.k 0) sz (.s 0) (.s 0))))) s.H.h, s.H.nxt + 1, s.H.D⟩⟩
    | _ => .bad 351
  | _ => .bad 352
theorem nilCellG_ok (key f : Nat) (el : TypeId) (sz : Nat) (cols : List Col) : GhostOK (nilCellG key f el sz cols) := by
  intro φ ρ s a w K h hh
  unfold nilCellG at hh
  split at hh
  · rename_i t size cs hf
    split at hh
    · rename_i hc
      obtain ⟨h1, h2, h3⟩ := h.newDead (.row el 0 0 cols) (fun j hj => absurd hj.2 (Nat.lt_irrefl 0)) (fun n ρ' => .inl ⟨rfl, rfl⟩)
      have hkey : key ≠ s.H.nxt := Nat.ne_of_lt (h.heap.lt key _ hf).1
      have hf' : find key ((s.H.nxt, Blk.row el 0 0 cols) :: s.H.h) = some (.own t size cs) := by rw [find_cons, if_neg hkey]; exact hf
      obtain ⟨b, arr, g1, g2, g3, g4, g5⟩ := h3.heap.sat key _ hf'
      have hw := h3.heap.write hf' rfl (b' := .own t size (cs.set f (some (.slc s.H.nxt (.k 0) (.k 0) sz (.s 0) (.s 0))))) (i0 := 0) rfl g1 (w' := w) ?_ h3.heap.fr rfl (fun _ _ => rfl) (fun i hi => hi)
      · refine ⟨_, _, hh, h1, ⟨h2.nxt, h2.D⟩, ⟨?_, h3.defers, h3.size, h3.tmps⟩⟩
        simp only [upd] at hw
        have hb : Nat.beq key s.H.nxt = false := by
          cases hb : Nat.beq key s.H.nxt with
          | false => rfl
          | true => exact absurd (Nat.eq_of_beq_eq_true hb) hkey
        rw [hb] at hw
        exact hw
      · refine ⟨b, arr, g1, g2, g3, by simpa using g4, fun i c hi => ?_⟩
        rw [List.getElem?_set] at hi
        split at hi
        · rename_i e; subst e
          split at hi
          · cases hi
            obtain ⟨v, hv, hs⟩ := g5 f _ hc
            refine ⟨v, hv, fun ρ' ha => ?_⟩
            have := ha s.H.nxt ⟨Nat.lt_succ_self _, h.heap.up _ (Nat.le_refl _)⟩
            rw [hs.eq]
            simp [SC.den, place, this, Rho.put]
          · cases hi
        · exact g5 i c hi
    · exact hh.elim
  · exact hh.elim
end Go.Proofs.Ytjpnpaboahbncaa.Sx
