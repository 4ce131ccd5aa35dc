/- The states of a symbolic executor: values, blocks of memory, what it means that a state describes a world; outcomes as trees. No program in sight. -/
import Derived.WalkKit
import Derived.KernelRfl
set_option linter.unusedVariables false
set_option linter.unusedSimpArgs false
namespace Go.Proofs.Ytjpnpaboahbncaa.Sx
open Go Go.RowKit

/-! ### Outcomes -/
inductive Out (β : Type) : Type 1 where
  | leaf (x : β)
  | br (b : Bool) (t e : Out β)
  | need (p : Prop) (k : Out β)
  | any (α : Type) (φ : α → Prop) (k : α → Out β)
  | ge (lo : Nat) (k : Nat → Out β)
  | bad (why : Nat)

namespace Out
def holds {β : Type} : Out β → (β → Prop) → Prop
  | .leaf x, K => K x
  | .br b t e, K => (b = true → t.holds K) ∧ (b = false → e.holds K)
  | .need p k, K => p ∧ k.holds K
  | .any _ φ k, K => (∃ x, φ x) ∧ ∀ x, φ x → (k x).holds K
  | .ge lo k, K => ∀ x, lo ≤ x → (k x).holds K
  | .bad _, _ => False

def bind {β γ : Type} : Out β → (β → Out γ) → Out γ
  | .leaf x, f => f x
  | .br b t e, f => .br b (t.bind f) (e.bind f)
  | .need p k, f => .need p (k.bind f)
  | .any α φ k, f => .any α φ fun x => (k x).bind f
  | .ge lo k, f => .ge lo fun x => (k x).bind f
  | .bad w, _ => .bad w

def map {β γ : Type} (f : β → γ) (o : Out β) : Out γ := o.bind fun x => .leaf (f x)

theorem holds_bind {β γ : Type} (o : Out β) (f : β → Out γ) (K : γ → Prop) : (o.bind f).holds K ↔ o.holds fun x => (f x).holds K := by
  induction o with
  | leaf x => rfl
  | br b t e iht ihe => simp only [bind, holds, iht, ihe]
  | need p k ih => simp only [bind, holds, ih]
  | any α φ k ih => simp only [bind, holds, ih]
  | ge lo k ih => simp only [bind, holds, ih]
  | bad w => rfl

theorem holds_mono {β : Type} (o : Out β) {K K' : β → Prop} (h : ∀ x, K x → K' x) (hh : o.holds K) : o.holds K' := by
  induction o with
  | leaf x => exact h _ hh
  | br b t e iht ihe => exact ⟨fun hb => iht (hh.1 hb), fun hb => ihe (hh.2 hb)⟩
  | need p k ih => exact ⟨hh.1, ih hh.2⟩
  | any α φ k ih => exact ⟨hh.1, fun x hx => ih x (hh.2 x hx)⟩
  | ge lo k ih => exact fun x hx => ih x (hh x hx)
  | bad w => exact hh

theorem holds_const {β : Type} (o : Out β) {p : Prop} (hh : o.holds fun _ => p) : p := by
  induction o with
  | leaf x => exact hh
  | br b t e iht ihe => cases b with
    | true => exact iht (hh.1 rfl)
    | false => exact ihe (hh.2 rfl)
  | need q k ih => exact ih hh.2
  | any α φ k ih => obtain ⟨⟨x, hx⟩, h⟩ := hh; exact ih x (h x hx)
  | ge lo k ih => exact ih lo (hh lo (Nat.le_refl _))
  | bad w => exact hh.elim

theorem holds_swap {β γ : Type} (o : Out β) (q : Out γ) {K : β → γ → Prop} (hh : o.holds fun x => q.holds fun y => K x y) : q.holds fun y => o.holds fun x => K x y := by
  induction q with
  | leaf y => exact hh
  | br b t e iht ihe => exact ⟨fun hb => iht (o.holds_mono (fun x h => h.1 hb) hh), fun hb => ihe (o.holds_mono (fun x h => h.2 hb) hh)⟩
  | need p k ih => exact ⟨o.holds_const (o.holds_mono (fun x h => h.1) hh), ih (o.holds_mono (fun x h => h.2) hh)⟩
  | any α φ k ih => exact ⟨o.holds_const (o.holds_mono (fun x h => h.1) hh), fun z hz => ih z (o.holds_mono (fun x h => h.2 z hz) hh)⟩
  | ge lo k ih => exact fun z hz => ih z (o.holds_mono (fun x h => h z hz) hh)
  | bad w => exact o.holds_const hh
end Out

/-! ### Values -/
/-- A number that the executor knows ('k'), or one that is a term of the prover's ('s'). -/
inductive NV where
  | k (n : Nat)
  | s (n : Nat)
def NV.v : NV → Nat | .k n => n | .s n => n
def NV.add : NV → NV → NV
  | .k a, .k b => .k (a + b)
  | a, b => .s (a.v + b.v)
@[simp] theorem NV.v_add (a b : NV) : (a.add b).v = a.v + b.v := by cases a <;> cases b <;> rfl
@[simp] theorem NV.v_k (n : Nat) : (NV.k n).v = n := rfl
@[simp] theorem NV.v_s (n : Nat) : (NV.s n).v = n := rfl

abbrev Rho := Nat → Nat → Option (Nat × Nat)

/-- The value of one cell. Pointers name a block by a key, an instance, an element, a cell of the element. -/
inductive SC where
  | kb (b : Bool)
  | bv (b : Bool)
  | ki (k : IntKind) (n : Int)
  | iv (k : IntKind) (n : Int)
  | nilp
  | ptr (key : Nat) (i e : NV) (f sz : Nat)
  | nils
  | slc (key : Nat) (i e : NV) (sz : Nat) (len cap : NV)
  | nilI
  | ifc (t : TypeId) (key : Nat) (i e : NV) (f sz : Nat)
  | fn (f : FuncId) (caps : List Nat)
  | nilF
  | val (v : Value)

def place (ρ : Rho) (key : Nat) (i : NV) (off : Nat) : Option Addr := (ρ key i.v).map fun p => ⟨p.1, p.2 + off, none⟩

def SC.den (ρ : Rho) : SC → Value
  | .kb b => .bool b
  | .bv b => .bool b
  | .ki k n => .int k n
  | .iv k n => .int k n
  | .nilp => .pointer none
  | .ptr key i e f sz => .pointer (place ρ key i (e.v * sz + f))
  | .nils => .slice none 0 0
  | .slc key i e sz len cap => .slice (place ρ key i (e.v * sz)) len.v cap.v
  | .nilI => .nilIface
  | .ifc t key i e f sz => .iface t (.pointer (place ρ key i (e.v * sz + f)))
  | .fn f caps => .func (.func f) #[] (caps.map fun k => Value.pointer (place ρ k (.k 0) 0)).toArray
  | .nilF => .nilFunc
  | .val v => v

def SC.oneCell : SC → Bool
  | .val (.agg _) | .val (.tuple _) => false
  | _ => true

inductive TE where
  | c (x : SC)
  | a (l : List SC)
def TE.den (ρ : Rho) : TE → Value
  | .c x => x.den ρ
  | .a l => .agg (l.map (SC.den ρ)).toArray

inductive SV where
  | c (x : SC)
  | a (l : List SC)
  | t (l : List TE)
def SV.den (ρ : Rho) : SV → Value
  | .c x => x.den ρ
  | .a l => .agg (l.map (SC.den ρ)).toArray
  | .t l => .tuple (l.map (TE.den ρ)).toArray

/-- Two tables agree on some keys. -/
def Agree (n : Nat → Prop) (ρ ρ' : Rho) : Prop := ∀ k, n k → ρ' k = ρ k
theorem Agree.refl (n : Nat → Prop) (ρ : Rho) : Agree n ρ ρ := fun _ _ => rfl
theorem Agree.trans {n : Nat → Prop} {a b c : Rho} (h : Agree n a b) (g : Agree n b c) : Agree n a c := fun k hk => (g k hk).trans (h k hk)
theorem Agree.mono {n m : Nat → Prop} {a b : Rho} (h : Agree n a b) (hm : ∀ k, m k → n k) : Agree m a b := fun k hk => h k (hm k hk)

/-- 'c' stands for 'v', whatever the table says of keys outside 'n'. -/
def CIs (n : Nat → Prop) (ρ : Rho) (c : SC) (v : Value) : Prop := ∀ ρ', Agree n ρ ρ' → c.den ρ' = v
def SIs (n : Nat → Prop) (ρ : Rho) (c : SV) (v : Value) : Prop := ∀ ρ', Agree n ρ ρ' → c.den ρ' = v
theorem CIs.ext {n m : Nat → Prop} {ρ ρ' : Rho} {c : SC} {v : Value} (h : CIs n ρ c v) (ha : Agree n ρ ρ') (hm : ∀ k, n k → m k) : CIs m ρ' c v := fun ρ'' h' => h ρ'' (ha.trans (h'.mono hm))
theorem SIs.ext {n m : Nat → Prop} {ρ ρ' : Rho} {c : SV} {v : Value} (h : SIs n ρ c v) (ha : Agree n ρ ρ') (hm : ∀ k, n k → m k) : SIs m ρ' c v := fun ρ'' h' => h ρ'' (ha.trans (h'.mono hm))
theorem CIs.eq {n : Nat → Prop} {ρ : Rho} {c : SC} {v : Value} (h : CIs n ρ c v) : v = c.den ρ := (h ρ (Agree.refl n ρ)).symm
theorem SIs.eq {n : Nat → Prop} {ρ : Rho} {c : SV} {v : Value} (h : SIs n ρ c v) : v = c.den ρ := (h ρ (Agree.refl n ρ)).symm
theorem SIs.of_c {n : Nat → Prop} {ρ : Rho} {c : SC} {v : Value} (h : CIs n ρ c v) : SIs n ρ (.c c) v := h
theorem CIs.of_s {n : Nat → Prop} {ρ : Rho} {c : SC} {v : Value} (h : SIs n ρ (.c c) v) : CIs n ρ c v := h

/-! ### Blocks -/
/-- A column of a row of elements. -/
inductive Col where
  | ci (k : IntKind) (g : Nat → Nat → Int)
  | cb (g : Nat → Nat → Bool)
  | cs (key sz : Nat) (ix len cap : Nat → Nat → Nat)   -- element e of instance i: the slice that is instance 'ix i e' of a family of blocks
  | cp (key : Nat) (ix : Nat → Nat → Nat) (f sz : Nat)   -- a pointer to instance 'ix i e' of a family
  | cf (t : TypeId) (key : Nat) (ix : Nat → Nat → Nat) (f sz : Nat)   -- the same in an interface
  | ck (l : List SC)   -- the elements one by one
  | cu
  | cc (c : SC)   -- the same in all elements
  | ov (i e : NV) (c : SC) (col : Col)   -- one element is another
def Col.get (i e : Nat) : Col → Option SC
  | .ci k g => some (.iv k (g i e))
  | .cb g => some (.bv (g i e))
  | .cs key sz ix len cap => some (.slc key (.s (ix i e)) (.k 0) sz (.s (len i e)) (.s (cap i e)))
  | .cp key ix f sz => some (.ptr key (.s (ix i e)) (.k 0) f sz)
  | .cf t key ix f sz => some (.ifc t key (.s (ix i e)) (.k 0) f sz)
  | .ck l => l[e]?
  | .cu => none
  | .cc c => some c
  | .ov i0 e0 c col => if i = i0.v ∧ e = e0.v then some c else col.get i e

inductive Blk where
  | own (t : TypeId) (size : Nat) (cs : List (Option SC))
  | row (t : TypeId) (cap : Nat) (n : Nat) (cols : List Col)   -- no capacity: nothing is owned, and the address says nothing
  | view (m : Nat) (n : Nat → Nat) (cols : List Col)
  | fam (rw : Bool) (t : TypeId) (cap n : Nat → Nat) (cols : List Col)   -- a family of rows, each a block of its own: instance i is there where it has a capacity
/-- Which instances there are: of the others the address says nothing. -/
def Blk.live : Blk → Nat → Prop
  | .own .., i => i = 0
  | .row _ cap _ _, i => i = 0 ∧ 0 < cap
  | .view m n _, i => i < m ∧ 0 < n i
  | .fam _ _ cap _ _, i => 0 < cap i

def Blk.isRow : Blk → Bool
  | .own .. | .row .. => true
  | .view .. => false
  | .fam rw .. => rw

def Blk.sat (n : Nat → Prop) (ρ : Rho) (key : Nat) (w : World) : Blk → Prop
  | .own t size cs => ∃ b arr, ρ key 0 = some (b, 0) ∧ w.heap[b]? = some (.cells arr t (0, 0)) ∧ arr.size = size ∧ cs.length ≤ size ∧
      ∀ (i : Nat) (c : SC), cs[i]? = some (some c) → ∃ v, arr[i]? = some v ∧ CIs n ρ c v
  | .row t cap m cols => (m = 0 ∧ cap = 0) ∨ ∃ b arr, ρ key 0 = some (b, 0) ∧ w.heap[b]? = some (.cells arr t (0, 0)) ∧ arr.size = cap * cols.length ∧ m ≤ cap ∧ cap ≤ maxLen ∧
      ∀ e, e < m → ∀ (f : Nat) (col : Col) c, cols[f]? = some col → col.get 0 e = some c → ∃ v, arr[e * cols.length + f]? = some v ∧ CIs n ρ c v
  | .view m len cols => ∀ i, i < m → ∀ e, e < len i → ∃ b o, ρ key i = some (b, o) ∧
      ∀ (f : Nat) (col : Col) c, cols[f]? = some col → col.get i e = some c → ∃ v, w.cell? ⟨b, o + (e * cols.length + f), none⟩ = some v ∧ CIs n ρ c v
  | .fam _ t cap len cols => (∀ i, len i ≤ cap i ∧ cap i ≤ maxLen) ∧ (∀ i j, 0 < cap i → 0 < cap j → i ≠ j → ∀ y o y' o', ρ key i = some (y, o) → ρ key j = some (y', o') → y ≠ y') ∧
      ∀ i, 0 < cap i → ∃ b arr, ρ key i = some (b, 0) ∧ w.heap[b]? = some (.cells arr t (0, 0)) ∧ arr.size = cap i * cols.length ∧
        ∀ e, e < len i → ∀ (f : Nat) (col : Col) c, cols[f]? = some col → col.get i e = some c → ∃ v, arr[e * cols.length + f]? = some v ∧ CIs n ρ c v

abbrev HL := List (Nat × Blk)
def find (k : Nat) : HL → Option Blk
  | [] => none
  | (k', b) :: r => bif Nat.beq k k' then some b else find k r
def upd (k : Nat) (b : Blk) : HL → HL
  | [] => []
  | (k', b') :: r => bif Nat.beq k k' then (k', b) :: r else (k', b') :: upd k b r
def drop (k : Nat) : HL → HL
  | [] => []
  | (k', b') :: r => bif Nat.beq k k' then drop k r else (k', b') :: drop k r

theorem find_cons (k k' : Nat) (b : Blk) (r : HL) : find k ((k', b) :: r) = if k = k' then some b else find k r := by
  simp only [find]
  by_cases h : k = k'
  · subst h; simp
  · have : Nat.beq k k' = false := by
      cases hb : Nat.beq k k' with
      | false => rfl
      | true => exact absurd (Nat.eq_of_beq_eq_true hb) h
    simp [this, h]
theorem find_upd (k j : Nat) (b : Blk) (h : HL) : find j (upd k b h) = if j = k then (find k h).map (fun _ => b) else find j h := by
  induction h with
  | nil => simp [upd, find]
  | cons x r ih =>
    obtain ⟨k', b'⟩ := x
    simp only [upd]
    by_cases hk : k = k'
    · subst hk
      simp only [Nat.beq_refl, cond_true, find_cons, if_true, Option.map_some]
      by_cases hj : j = k <;> simp [hj]
    · have hb : Nat.beq k k' = false := by
        cases hb : Nat.beq k k' with
        | false => rfl
        | true => exact absurd (Nat.eq_of_beq_eq_true hb) hk
      simp only [hb, cond_false, find_cons, ih, hk, if_false]
      by_cases hj : j = k
      · subst hj; simp [hk]
      · simp [hj]
theorem find_drop (k j : Nat) (h : HL) : find j (drop k h) = if j = k then none else find j h := by
  induction h with
  | nil => simp [drop, find]
  | cons x r ih =>
    obtain ⟨k', b'⟩ := x
    simp only [drop]
    by_cases hk : k = k'
    · subst hk
      simp only [Nat.beq_refl, cond_true, find_cons, ih]
      by_cases hj : j = k <;> simp [hj]
    · have hb : Nat.beq k k' = false := by
        cases hb : Nat.beq k k' with
        | false => rfl
        | true => exact absurd (Nat.eq_of_beq_eq_true hb) hk
      simp only [hb, cond_false, find_cons, ih]
      by_cases hj : j = k
      · subst hj; simp [hk]
      · simp [hj]

/-- What a walk may write, and since when: all else is as it was in 'w0'. -/
structure Fr where
  w0 : World
  own : Nat → Prop
def Fr.may (φ : Fr) (b : Nat) : Prop := φ.own b ∨ φ.w0.heap.size ≤ b
structure Fr.ok (φ : Fr) (w : World) : Prop where
  os : w.os = φ.w0.os
  tape : w.tape = φ.w0.tape
  output : w.output = φ.w0.output
  size : φ.w0.heap.size ≤ w.heap.size
  block : ∀ b, b < φ.w0.heap.size → ¬ φ.own b → w.heap[b]? = φ.w0.heap[b]?

/-- Blocks by keys; the next key; the keys that may be named. -/
structure Hp where
  h : HL
  nxt : Nat
  D : Nat → Prop
def Hp.sc (H : Hp) : Nat → Prop := fun k => k < H.nxt ∧ H.D k
/-- Later: more keys, the same rule. -/
structure Hp.le (H H' : Hp) : Prop where
  nxt : H.nxt ≤ H'.nxt
  D : H'.D = H.D
theorem Hp.le.refl (H : Hp) : H.le H := ⟨Nat.le_refl _, rfl⟩
theorem Hp.le.trans {a b c : Hp} (h : a.le b) (g : b.le c) : a.le c := ⟨Nat.le_trans h.nxt g.nxt, g.D.trans h.D⟩
theorem Hp.le.sc {H H' : Hp} (h : H.le H') : ∀ k, H.sc k → H'.sc k := fun k hk => ⟨Nat.lt_of_lt_of_le hk.1 h.nxt, by rw [h.D]; exact hk.2⟩

structure HInv (φ : Fr) (ρ : Rho) (H : Hp) (w : World) : Prop where
  fr : φ.ok w
  up : ∀ k, H.nxt ≤ k → H.D k
  lt : ∀ k b, find k H.h = some b → H.sc k
  sat : ∀ k b, find k H.h = some b → b.sat H.sc ρ k w
  bd : ∀ k b, find k H.h = some b → ∀ i, b.live i → ∀ y o, ρ k i = some (y, o) → y < w.heap.size
  may : ∀ k b, find k H.h = some b → b.isRow = true → ∀ i, b.live i → ∀ y o, ρ k i = some (y, o) → φ.may y
  sep : ∀ k b, find k H.h = some b → b.isRow = true → ∀ k' b', find k' H.h = some b' → k' ≠ k → ∀ j i, b.live j → b'.live i → ∀ y o y' o', ρ k j = some (y, o) → ρ k' i = some (y', o') → y' ≠ y

structure St where
  tmps : List (Option SV)
  H : Hp

structure Inv (φ : Fr) (ρ : Rho) (s : St) (a : Act) (w : World) : Prop where
  heap : HInv φ ρ s.H w
  defers : a.defers = []
  size : a.tmps.size = s.tmps.length
  tmps : ∀ (k : Nat) (sv : SV), s.tmps[k]? = some (some sv) → ∃ v, a.tmps[k]? = some v ∧ SIs s.H.sc ρ sv v

/-! ### Extension of the table -/
theorem Blk.sat_ext {n m : Nat → Prop} {ρ ρ' : Rho} {key : Nat} {w : World} {b : Blk} (h : b.sat n ρ key w) (ha : Agree n ρ ρ') (hm : ∀ k, n k → m k) (hk : n key) : b.sat m ρ' key w := by
  have e : ρ' key = ρ key := ha key hk
  cases b with
  | own t size cs =>
    obtain ⟨b, arr, h1, h2, h3, h4, h5⟩ := h
    exact ⟨b, arr, by rw [e]; exact h1, h2, h3, h4, fun i c hc => let ⟨v, hv, hi⟩ := h5 i c hc; ⟨v, hv, hi.ext ha hm⟩⟩
  | row t size l cols =>
    rcases h with h | ⟨b, arr, h1, h2, h3, h4, h4', h5⟩
    · exact .inl h
    exact .inr ⟨b, arr, by rw [e]; exact h1, h2, h3, h4, h4', fun i hi f col c hf hc => let ⟨v, hv, hs⟩ := h5 i hi f col c hf hc; ⟨v, hv, hs.ext ha hm⟩⟩
  | view l len cols =>
    intro i hi q hq
    obtain ⟨b, o, h1, h2⟩ := h i hi q hq
    exact ⟨b, o, by rw [e]; exact h1, fun f col c hf hc => let ⟨v, hv, hs⟩ := h2 f col c hf hc; ⟨v, hv, hs.ext ha hm⟩⟩
  | fam rw t cap len cols =>
    obtain ⟨h1, h2, h3⟩ := h
    refine ⟨h1, by rw [e]; exact h2, fun i hi => ?_⟩
    obtain ⟨b, arr, g1, g2, g3, g4⟩ := h3 i hi
    exact ⟨b, arr, by rw [e]; exact g1, g2, g3, fun q hq f col c hf hc => let ⟨v, hv, hs⟩ := g4 q hq f col c hf hc; ⟨v, hv, hs.ext ha hm⟩⟩

/-- A block's description holds in another world whose block is the same. -/
theorem Blk.sat_world {n : Nat → Prop} {ρ : Rho} {key : Nat} {w w' : World} {b : Blk} (h : b.sat n ρ key w) (hw : ∀ i, b.live i → ∀ y o, ρ key i = some (y, o) → w'.heap[y]? = w.heap[y]?) : b.sat n ρ key w' := by
  cases b with
  | own t size cs =>
    obtain ⟨b, arr, h1, h2, h3⟩ := h
    exact ⟨b, arr, h1, by rw [hw 0 rfl b 0 h1]; exact h2, h3⟩
  | row t size l cols =>
    rcases h with h | ⟨b, arr, h1, h2, h3, h4, h5⟩
    · exact .inl h
    rcases Nat.eq_zero_or_pos size with h0 | h0
    · exact .inl ⟨by omega, h0⟩
    exact .inr ⟨b, arr, h1, by rw [hw 0 ⟨rfl, h0⟩ b 0 h1]; exact h2, h3, h4, h5⟩
  | view l len cols =>
    intro i hi q hq
    obtain ⟨b, o, h1, h2⟩ := h i hi q hq
    refine ⟨b, o, h1, fun f col c hf hc => ?_⟩
    obtain ⟨v, hv, hs⟩ := h2 f col c hf hc
    exact ⟨v, by rw [World.cell?_of_block (w := w) (w' := w') (hw i ⟨hi, Nat.lt_of_le_of_lt (Nat.zero_le _) hq⟩ b o h1)]; exact hv, hs⟩
  | fam rw t cap len cols =>
    obtain ⟨h1, h2, h3⟩ := h
    refine ⟨h1, h2, fun i hi => ?_⟩
    obtain ⟨b, arr, g1, g2, g3⟩ := h3 i hi
    exact ⟨b, arr, g1, by rw [hw i hi b 0 g1]; exact g2, g3⟩

theorem Fr.ok.alloc {φ : Fr} {w : World} (h : φ.ok w) (o : Obj) : φ.ok (w.alloc o) :=
  ⟨h.os, h.tape, h.output, Nat.le_trans h.size (by simp), fun b hb hn => by
    rw [Below.heap_alloc w o b (Nat.lt_of_lt_of_le hb h.size)]; exact h.block b hb hn⟩
theorem Fr.ok.drew {φ : Fr} {w : World} (h : φ.ok w) : φ.ok w.drew := ⟨h.os, h.tape, h.output, h.size, h.block⟩
theorem Fr.ok.set {φ : Fr} {w : World} (h : φ.ok w) {p : Addr} (hp : φ.may p.block) (v : Value) : φ.ok (w.setCell p v) :=
  ⟨h.os, h.tape, h.output, by simpa using h.size, fun b hb hn => by
    have hne : b ≠ p.block := by
      rintro rfl
      rcases hp with hp | hp
      · exact hn hp
      · omega
    rw [Below.heap_setCell w p v b hne]; exact h.block b hb hn⟩

theorem HInv.drew {φ : Fr} {ρ : Rho} {H : Hp} {w : World} (h : HInv φ ρ H w) : HInv φ ρ H w.drew :=
  ⟨h.fr.drew, h.up, h.lt, fun k b hk => Blk.sat_world (h.sat k b hk) fun _ _ _ _ _ => rfl, h.bd, h.may, h.sep⟩

/-- The table with a new key. -/
def Rho.set (ρ : Rho) (k : Nat) (b : Nat) : Rho := fun k' i => if k' = k then (if i = 0 then some (b, 0) else none) else ρ k' i
theorem Rho.set_agree (ρ : Rho) {k : Nat} {n : Nat → Prop} (hn : ∀ j, n j → j < k) (b : Nat) : Agree n ρ (ρ.set k b) := fun k' hk => by
  have := hn k' hk
  funext i; simp only [Rho.set]; rw [if_neg (by omega)]
theorem Rho.set_at (ρ : Rho) (k b : Nat) : ρ.set k b k 0 = some (b, 0) := by simp [Rho.set]

/-- A new block. -/
theorem HInv.alloc {φ : Fr} {ρ : Rho} {H : Hp} {w : World} (h : HInv φ ρ H w) (t : TypeId) (arr : Array Value) (b : Blk)
    (hs : b.sat (Hp.sc ⟨(H.nxt, b) :: H.h, H.nxt + 1, H.D⟩) (ρ.set H.nxt w.heap.size) H.nxt (w.alloc (.cells arr t))) :
    HInv φ (ρ.set H.nxt w.heap.size) ⟨(H.nxt, b) :: H.h, H.nxt + 1, H.D⟩ (w.alloc (.cells arr t)) := by
  have hag : Agree H.sc ρ (ρ.set H.nxt w.heap.size) := ρ.set_agree (fun _ hj => hj.1) w.heap.size
  have hsc : ∀ k, H.sc k → Hp.sc ⟨(H.nxt, b) :: H.h, H.nxt + 1, H.D⟩ k := fun k hk => ⟨Nat.lt_succ_of_lt hk.1, hk.2⟩
  refine ⟨h.fr.alloc _, fun k hk => h.up k (Nat.le_of_succ_le hk), ?_, ?_, ?_, ?_, ?_⟩
  · intro k b' hk
    rw [find_cons] at hk
    split at hk
    · rename_i e; subst e; exact ⟨Nat.lt_succ_self _, h.up _ (Nat.le_refl _)⟩
    · exact hsc k (h.lt k b' hk)
  · intro k b' hk
    rw [find_cons] at hk
    split at hk
    · rename_i e; cases hk; subst e; exact hs
    · refine Blk.sat_ext (n := H.sc) (ρ := ρ) (Blk.sat_world (h.sat k b' hk) ?_) hag hsc (h.lt k b' hk)
      intro i hl y o hy
      exact Below.heap_alloc _ _ _ (h.bd k b' hk i hl y o hy)
  · intro k b' hk i hl y o hy
    rw [find_cons] at hk
    split at hk
    · rename_i e; subst e
      simp only [Rho.set, if_true] at hy
      split at hy
      · cases hy; simp
      · cases hy
    · rename_i e
      simp only [Rho.set, if_neg e] at hy
      have := h.bd k b' hk i hl y o hy
      simp; omega
  · intro k b' hk hown i hl y o hy
    rw [find_cons] at hk
    split at hk
    · rename_i e; subst e
      simp only [Rho.set, if_true] at hy
      split at hy
      · cases hy
        exact .inr h.fr.size
      · cases hy
    · rename_i e
      simp only [Rho.set, if_neg e] at hy
      exact h.may k b' hk hown i hl y o hy
  · intro k b' hk hown k' b'' hk' hne j i hlj hli y o y' o' hy hy'
    rw [find_cons] at hk hk'
    split at hk
    · rename_i e; subst e
      rw [if_neg hne] at hk'
      simp only [Rho.set, if_true] at hy
      split at hy
      · cases hy
        simp only [Rho.set, if_neg hne] at hy'
        have := h.bd k' b'' hk' i hli y' o' hy'
        omega
      · cases hy
    · rename_i e
      simp only [Rho.set, if_neg e] at hy
      split at hk'
      · rename_i e'; subst e'
        simp only [Rho.set, if_true] at hy'
        split at hy'
        · cases hy'
          have := h.bd k b' hk j hlj y o hy
          omega
        · cases hy'
      · rename_i e'
        simp only [Rho.set, if_neg e'] at hy'
        exact h.sep k b' hk hown k' b'' hk' hne j i hlj hli y o y' o' hy hy'

/-- A change of one own block. -/
theorem HInv.write {φ : Fr} {ρ : Rho} {H : Hp} {w w' : World} (h : HInv φ ρ H w) {k : Nat} {b b' : Blk} (hk : find k H.h = some b) (ho : b.isRow = true)
    {i0 y o0 : Nat} (hl0 : b.live i0) (hy : ρ k i0 = some (y, o0)) (hs : b'.sat H.sc ρ k w') (hfr : φ.ok w') (hsz : w'.heap.size = w.heap.size) (hw : ∀ x, x ≠ y → w'.heap[x]? = w.heap[x]?) (hl' : ∀ i, b'.live i → b.live i) :
    HInv φ ρ ⟨upd k b' H.h, H.nxt, H.D⟩ w' := by
  have key : ∀ j c, find j (upd k b' H.h) = some c → ∃ c', find j H.h = some c' ∧ (j ≠ k → c = c') ∧ (j = k → c = b') ∧ ∀ i, c.live i → c'.live i := by
    intro j c hj
    rw [find_upd] at hj
    split at hj
    · rename_i e; subst e
      rw [hk] at hj
      simp only [Option.map_some, Option.some.injEq] at hj
      exact ⟨b, hk, fun h => absurd rfl h, fun _ => hj.symm, fun i hi => hl' i (hj ▸ hi)⟩
    · rename_i e
      exact ⟨c, hj, fun _ => rfl, fun h => absurd h e, fun i hi => hi⟩
  have owns : ∀ j c c', (j ≠ k → c = c') → (j = k → c = b') → find j H.h = some c' → c.isRow = true → c'.isRow = true := by
    intro j c c' h1 h2 h3 h4
    by_cases e : j = k
    · subst e; rw [hk] at h3; cases h3; exact ho
    · rw [← h1 e]; exact h4
  refine ⟨hfr, h.up, ?_, ?_, ?_, ?_, ?_⟩
  · intro j c hj; obtain ⟨c', h1, _⟩ := key j c hj; exact h.lt j c' h1
  · intro j c hj
    obtain ⟨c', h1, h2, h3, _⟩ := key j c hj
    by_cases e : j = k
    · subst e; rw [h3 rfl]; exact hs
    · rw [h2 e]
      refine Blk.sat_world (h.sat j c' h1) fun i hl x o hx => hw x ?_
      exact h.sep k b hk ho j c' h1 e i0 i hl0 hl y o0 x o hy hx
  · intro j c hj i hl x o hx; obtain ⟨c', h1, _, _, h4⟩ := key j c hj; rw [hsz]; exact h.bd j c' h1 i (h4 i hl) x o hx
  · intro j c hj hown i hl x o hx
    obtain ⟨c', h1, h2, h3, h4⟩ := key j c hj
    exact h.may j c' h1 (owns j c c' h2 h3 h1 hown) i (h4 i hl) x o hx
  · intro j c hj hown j' d hj' hne p q hp hq
    obtain ⟨c', h1, h2, h3, h4⟩ := key j c hj
    obtain ⟨d', g1, _, _, g4⟩ := key j' d hj'
    exact h.sep j c' h1 (owns j c c' h2 h3 h1 hown) j' d' g1 hne p q (h4 p hp) (g4 q hq)

/-- What is known may be forgotten. -/
theorem HInv.forget {φ : Fr} {ρ : Rho} {H : Hp} {w : World} (h : HInv φ ρ H w) {h' : HL} (hsub : ∀ k b, find k h' = some b → find k H.h = some b) : HInv φ ρ ⟨h', H.nxt, H.D⟩ w :=
  ⟨h.fr, h.up, fun k b hk => h.lt k b (hsub k b hk), fun k b hk => h.sat k b (hsub k b hk), fun k b hk => h.bd k b (hsub k b hk), fun k b hk => h.may k b (hsub k b hk),
    fun k b hk ho k' b' hk' => h.sep k b (hsub k b hk) ho k' b' (hsub k' b' hk')⟩

theorem HInv.ext {φ : Fr} {ρ ρ' : Rho} {H : Hp} {w : World} (h : HInv φ ρ H w) (ha : Agree H.sc ρ ρ') {n : Nat} {D : Nat → Prop} (hn : ∀ k, H.sc k → Hp.sc ⟨H.h, n, D⟩ k) (hu : ∀ k, n ≤ k → D k) : HInv φ ρ' ⟨H.h, n, D⟩ w := by
  have e : ∀ k b, find k H.h = some b → ρ' k = ρ k := fun k b hk => ha k (h.lt k b hk)
  refine ⟨h.fr, hu, fun k b hk => hn k (h.lt k b hk), fun k b hk => Blk.sat_ext (h.sat k b hk) ha hn (h.lt k b hk), ?_, ?_, ?_⟩
  · intro k b hk; rw [e k b hk]; exact h.bd k b hk
  · intro k b hk; rw [e k b hk]; exact h.may k b hk
  · intro k b hk ho k' b' hk'; rw [e k b hk, e k' b' hk']; exact h.sep k b hk ho k' b' hk'

end Go.Proofs.Ytjpnpaboahbncaa.Sx
