/- From the executor to the rows: arguments as views, the answer. -/
import Derived.Test.YtjpnpaboahbncaaSxKit
import Derived.ProofKit
import Derived.OpenShut
import Derived.ChangeOld
import Derived.Below
import Derived.ChangeSlices
set_option linter.unusedVariables false
set_option linter.unusedSimpArgs false
namespace Go.Proofs.Ytjpnpaboahbncaa.Sx
open Go Go.RowKit Go.ChangeShapes Go.WideShapes

def yes (r : SV × Hp) : Prop := ∀ ρ, r.1.den ρ = .bool true
structure Yes (o : Out (SV × Hp)) : Prop where
  h : o.holds yes
theorem calls_yes {Q : Program} {callT : CallT} (hc : CallOK Q callT) {f : FuncId} {args : List SV} {vs : List Value} {w : World} {h : HL} {n : Nat} {ρ : Rho} {o : Out (SV × Hp)} (e : callT f args ⟨h, n, fun _ => True⟩ = o) (hy : Yes o)
    (hinv : HInv ⟨w, fun _ => False⟩ ρ ⟨h, n, fun _ => True⟩ w) (hv : VIs (Hp.sc ⟨h, n, fun _ => True⟩) ρ args vs) : Calls Q f vs.toArray w fun e w' => e = .returned (.bool true) ∧ Below w.heap.size w w' := by
  subst e
  refine (hc _ _ _ w f args vs yes hinv hv hy.h).mono ?_
  rintro e w' ⟨v, ρ', sv, H', rfl, hK, _, _, h3, h4⟩
  have hv : v = .bool true := h4.eq.trans (hK ρ')
  subst hv
  exact ⟨rfl, h3.fr.os, h3.fr.tape, h3.fr.output, h3.fr.size, fun k hk => h3.fr.block k hk (fun h => h)⟩

/-- Blocks that are only read, and the table of their places. -/
theorem views_inv {w : World} {h : HL} {n : Nat} {ρ : Rho} (hv : ∀ k b, find k h = some b → b.isRow = false ∧ k < n ∧ b.sat (Hp.sc ⟨h, n, fun _ => True⟩) ρ k w ∧ ∀ i, b.live i → ∀ y o, ρ k i = some (y, o) → y < w.heap.size) :
    HInv ⟨w, fun _ => False⟩ ρ ⟨h, n, fun _ => True⟩ w :=
  ⟨⟨rfl, rfl, rfl, Nat.le_refl _, fun _ _ _ => rfl⟩, fun _ _ => trivial, fun k b hk => ⟨(hv k b hk).2.1, trivial⟩, fun k b hk => (hv k b hk).2.2.1, fun k b hk => (hv k b hk).2.2.2,
    (fun k b hk hr => by rw [(hv k b hk).1] at hr; cases hr), (fun k b hk hr => by rw [(hv k b hk).1] at hr; cases hr)⟩
def tabR (l : List (Option (Nat × Nat))) : Rho := fun k i => if i = 0 then (l[k]?).join else none
def addr0 (a : Option Addr) : Option (Nat × Nat) := a.map fun x => (x.block, x.off)

/-- What is known of a slice of integers that came in. -/
structure IsInts (k : IntKind) (w : World) (a : Option Addr) (len cap : Nat) (g : Nat → Int) : Prop where
  spot : ∀ x, a = some x → x.spot = none
  le : len ≤ cap
  max : cap ≤ maxLen
  cells : ∀ i, i < len → ∃ x, a = some x ∧ w.cell? (x.add i) = some (.int k (g i))
  fits : ∀ i, i < len → (Lit.int k (g i)).wf = true
theorem cell_lt {w : World} {a : Addr} {v : Value} (h : w.cell? a = some v) : a.block < w.heap.size := by
  rcases Nat.lt_or_ge a.block w.heap.size with h1 | h1
  · exact h1
  · simp [World.cell?, Array.getElem?_eq_none h1] at h
theorem IsInts.sat {k : IntKind} {w : World} {a : Option Addr} {len cap : Nat} {g : Nat → Int} (h : IsInts k w a len cap g) {n : Nat → Prop} {ρ : Rho} {key : Nat} (hρ : ρ key 0 = addr0 a) :
    (ints k len g).sat n ρ key w ∧ ∀ i, (ints k len g).live i → ∀ y o, ρ key i = some (y, o) → y < w.heap.size := by
  have at' : ∀ i, i < len → ∃ b o, ρ key 0 = some (b, o) ∧ w.cell? ⟨b, o + i, none⟩ = some (.int k (g i)) := by
    intro i hi
    obtain ⟨x, rfl, hc⟩ := h.cells i hi
    have hs := h.spot x rfl
    refine ⟨x.block, x.off, hρ, ?_⟩
    rw [← hc]
    congr 1
    unfold Addr.add
    split
    · rename_i e; subst e; cases x; simp_all
    · cases x; simp_all
  constructor
  · intro i hi e he
    have : i = 0 := by omega
    subst this
    obtain ⟨b, o, h1, h2⟩ := at' e he
    refine ⟨b, o, h1, fun f col c hf hc => ?_⟩
    cases f with
    | zero =>
      simp at hf; subst hf
      simp only [Col.get, Option.some.injEq] at hc
      subst hc
      exact ⟨_, by simpa using h2, fun _ _ => rfl⟩
    | succ f => simp at hf
  · rintro i ⟨h1, h2⟩ y o hy
    have : i = 0 := by omega
    subst this
    obtain ⟨b, o', h3, h4⟩ := at' 0 h2
    rw [h3] at hy; cases hy
    exact cell_lt h4
theorem IsInts.val {k : IntKind} {w : World} {a : Option Addr} {len cap : Nat} {g : Nat → Int} (h : IsInts k w a len cap g) {n : Nat → Prop} {ρ : Rho} {key sz : Nat} (hρ : ρ key 0 = addr0 a := by rfl) (hk : n key := by exact ⟨Nat.le_of_ble_eq_true rfl, trivial⟩) :
    SIs n ρ (.c (.slc key (.k 0) (.k 0) sz (.s len) (.s cap))) (.slice a len cap) := by
  intro ρ' ha
  simp only [SV.den, SC.den, place, NV.v_k, NV.v_s, ha key hk, hρ, Nat.zero_mul]
  congr 1
  cases a with
  | none => rfl
  | some x =>
    have := h.spot x rfl
    cases x
    simp_all [addr0]
/-- A slice, by the model's own word on arguments. -/
theorem okWide_slice' {P : Program} {w : World} {r : Reach} {base : Nat} {t e : TypeId} {v : Value} (ht : P.underlying t = some (.slice e)) (h : Value.okWide P w r base t v) :
    ∃ a len cap, v = .slice a len cap ∧ ∀ x, a = some x → x.spot = none := by
  simp only [Value.okWide, ht, Cell.okWide] at h
  cases v <;> simp_all [Cell.ok]
  rename_i a len cap
  cases a with
  | none => exact fun x hx => nomatch hx
  | some x =>
    simp only at h
    intro y hy; cases hy
    exact h.2.2.2.1
theorem open_isInts {H : Type} {enc : TypeId × Value → H} {P : Program} {w : World} {t e : TypeId} {k : IntKind} {fuel : Nat} {a : Option Addr} {len cap : Nat} {x : DataW H × List MemPlace} (ht : P.underlying t = some (.slice e)) (he : P.underlying e = some (.int k)) (hc : P.cellsOf e = 1)
    (hs : ∀ x, a = some x → x.spot = none) (h : DataW.trod enc P w 0 (fun _ => true) true fuel t (Value.slice a len cap).cells.toList = some x) : ∃ g, IsInts k w a len cap g := by
  rcases open_ints ht he hc h with ⟨hcs, _⟩ | ⟨x, l, c, zs, hcs, _, hl, hm, hz, _, hcell, hwz⟩
  · simp [Value.cells] at hcs
    obtain ⟨rfl, rfl, rfl⟩ := hcs
    exact ⟨fun _ => 0, hs, Nat.le_refl _, by simp [maxLen], fun i hi => by omega, fun i hi => by omega⟩
  · simp [Value.cells] at hcs
    obtain ⟨rfl, rfl, rfl⟩ := hcs
    simp at hz
    exact ⟨fun i => zs.getD i 0, hs, hl, hm, fun i hi => ⟨x, rfl, hcell i (by omega)⟩, fun i hi => hwz _ (by
      have : zs.getD i 0 = zs[i]'(by omega) := by simp [List.getD, List.getElem?_eq_getElem (show i < zs.length by omega)]
      rw [this]; exact List.getElem_mem _)⟩
theorem wf_u64 {n : Int} (h : (Lit.int .u64 n).wf = true) : 0 ≤ n ∧ n ≤ 18446744073709551615 := by
  simp [Lit.wf, IntKind.min, IntKind.max, IntKind.bits, IntKind.signed] at h; omega
theorem wf_u8 {n : Int} (h : (Lit.int .u8 n).wf = true) : 0 ≤ n ∧ n ≤ 255 := by
  simp [Lit.wf, IntKind.min, IntKind.max, IntKind.bits, IntKind.signed] at h; omega
theorem wf_i64 {n : Int} (h : (Lit.int .i64 n).wf = true) : -9223372036854775808 ≤ n ∧ n ≤ 9223372036854775807 := by
  simp [Lit.wf, IntKind.min, IntKind.max, IntKind.bits, IntKind.signed] at h; omega
end Go.Proofs.Ytjpnpaboahbncaa.Sx
