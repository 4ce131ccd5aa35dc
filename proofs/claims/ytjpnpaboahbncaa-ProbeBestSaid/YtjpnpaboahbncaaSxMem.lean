/- Loads, stores and new blocks of the symbolic executor: what they compute, and that the model does the same. -/
import Derived.Test.YtjpnpaboahbncaaSxBase
set_option linter.unusedVariables false
set_option linter.unusedSimpArgs false
namespace Go.Proofs.Ytjpnpaboahbncaa.Sx
open Go Go.RowKit

def opt {α β : Type} (o : Option α) (k : α → Out β) (why : Nat := 0) : Out β := match o with | some x => k x | none => .bad why
theorem opt_holds {α β : Type} {o : Option α} {k : α → Out β} {n : Nat} {K : β → Prop} (h : (opt o k n).holds K) : ∃ x, o = some x ∧ (k x).holds K := by
  cases o with
  | none => exact h.elim
  | some x => exact ⟨x, rfl, h⟩
def chk {β : Type} (b : Bool) (k : Out β) (why : Nat := 0) : Out β := match b with | true => k | false => .bad why
theorem chk_holds {β : Type} {b : Bool} {k : Out β} {n : Nat} {K : β → Prop} (h : (chk b k n).holds K) : b = true ∧ k.holds K := by
  cases b with
  | false => exact h.elim
  | true => exact ⟨rfl, h⟩

def NV.isZero : NV → Bool
  | .k 0 => true
  | _ => false
theorem NV.isZero_v {i : NV} (h : i.isZero = true) : i.v = 0 := by
  cases i with
  | k n => cases n with
    | zero => rfl
    | succ n => simp [NV.isZero] at h
  | s n => simp [NV.isZero] at h
def NV.lit : NV → Option Nat
  | .k n => some n
  | .s _ => none
theorem NV.lit_v {i : NV} {n : Nat} (h : i.lit = some n) : i.v = n := by
  cases i <;> simp [NV.lit] at h; exact h

/-! ### One cell -/
/-- An element of a list at a place that is a term. -/
def selN (n : Nat) : (j : Nat) → List SC → Out SC
  | _, [] => .bad 10
  | _, [c] => .leaf c
  | j, c :: l => .br (n == j) (.leaf c) (selN n (j + 1) l)
theorem selN_ok {n : Nat} {K : SC → Prop} : ∀ (l : List SC) (j : Nat), j ≤ n → n < j + l.length → (selN n j l).holds K → ∃ c, l[n - j]? = some c ∧ K c
  | [], j, h0, h1, hh => by simp at h1; omega
  | [c], j, h0, h1, hh => by
    have : n - j = 0 := by simp at h1; omega
    exact ⟨c, by simp [this], hh⟩
  | c :: d :: l, j, h0, h1, hh => by
    simp only [selN, Out.holds] at hh
    by_cases e : n = j
    · exact ⟨c, by simp [e], hh.1 (by simp [e])⟩
    · obtain ⟨x, hx, hK⟩ := selN_ok (d :: l) (j + 1) (by omega) (by simp at h1 ⊢; omega) (hh.2 (by simp [e]))
      refine ⟨x, ?_, hK⟩
      rw [← hx, show n - j = (n - (j + 1)) + 1 by omega, List.getElem?_cons_succ]

def eqNV : NV → NV → Bool × Bool
  | .k a, .k b => (true, Nat.beq a b)
  | a, b => (false, Nat.beq a.v b.v)
theorem eqNV_h (a b : NV) : (eqNV a b).2 = Nat.beq a.v b.v := by cases a <;> cases b <;> rfl
def colAt : Col → NV → NV → Out SC
  | .ov i0 e0 c col, i, e => match eqNV i i0, eqNV e e0 with
    | (true, false), _ => colAt col i e
    | _, (true, false) => colAt col i e
    | (true, true), (true, true) => .leaf c
    | (_, x), (_, y) => .br (x && y) (.leaf c) (colAt col i e)
  | .ck l, _, .s n => .need (n < l.length) (selN n 0 l)
  | col, i, e => opt (col.get i.v e.v) (fun c => .leaf c) 24
theorem colAt_ok {i e : NV} {K : SC → Prop} : ∀ {col : Col}, (colAt col i e).holds K → ∃ c, col.get i.v e.v = some c ∧ K c := by
  intro col
  induction col with
  | ov i0 e0 c col ih =>
    intro hh
    have hi := eqNV_h i i0; have he := eqNV_h e e0
    have no : (Nat.beq i.v i0.v && Nat.beq e.v e0.v) = false → (Col.ov i0 e0 c col).get i.v e.v = col.get i.v e.v := by
      intro h
      simp only [Col.get]
      rw [if_neg]
      rintro ⟨h1, h2⟩
      rw [h1, h2, Nat.beq_refl, Nat.beq_refl] at h
      cases h
    have yes : (Nat.beq i.v i0.v && Nat.beq e.v e0.v) = true → (Col.ov i0 e0 c col).get i.v e.v = some c := by
      intro h
      simp only [Bool.and_eq_true] at h
      simp only [Col.get]
      rw [if_pos ⟨Nat.eq_of_beq_eq_true h.1, Nat.eq_of_beq_eq_true h.2⟩]
    have br : (Out.br (Nat.beq i.v i0.v && Nat.beq e.v e0.v) (.leaf c) (colAt col i e)).holds K → ∃ d, (Col.ov i0 e0 c col).get i.v e.v = some d ∧ K d := by
      intro hh
      cases hb : (Nat.beq i.v i0.v && Nat.beq e.v e0.v) with
      | true => exact ⟨c, yes hb, hh.1 hb⟩
      | false => rw [no hb]; exact ih (hh.2 hb)
    simp only [colAt] at hh
    cases hA : eqNV i i0 with
    | mk a x => cases hB : eqNV e e0 with
      | mk b y =>
        rw [hA, hB] at hh
        rw [hA] at hi; rw [hB] at he
        simp only at hi he
        cases a <;> cases x <;> cases b <;> cases y <;> simp only at hh <;> first
          | (rw [no (by rw [← hi]; rfl)]; exact ih hh)
          | (rw [no (by rw [← he, Bool.and_false])]; exact ih hh)
          | exact ⟨c, yes (by rw [← hi, ← he]; rfl), hh⟩
          | (rw [hi, he] at hh; exact br hh)
          | (refine br ?_; rw [← hi, ← he]; exact hh)
  | ck l =>
    intro hh
    cases e with
    | k n => obtain ⟨c, hc, hK⟩ := opt_holds hh; exact ⟨c, hc, hK⟩
    | s n =>
      obtain ⟨hlt, hh⟩ := hh
      obtain ⟨c, hc, hK⟩ := selN_ok l 0 (Nat.zero_le _) (by simpa using hlt) hh
      exact ⟨c, by simpa [Col.get] using hc, hK⟩
  | _ => intro hh; obtain ⟨c, hc, hK⟩ := opt_holds hh; exact ⟨c, hc, hK⟩

def cellAt (H : HL) (key : Nat) (i e : NV) (f sz : Nat) : Out SC :=
  match find key H with
  | some (.own _ _ cs) => chk i.isZero (opt e.lit (fun n => opt (cs[n * sz + f]?) (fun oc => opt oc (fun c => .leaf c) 11) 12) 13) 14
  | some (.row _ _ n cols) => chk i.isZero (chk (Nat.beq sz cols.length) (opt (cols[f]?) (fun col => .need (e.v < n) (colAt col (.k 0) e)) 16) 17) 18
  | some (.view m len cols) => chk (Nat.beq sz cols.length) (opt (cols[f]?) (fun col => .need (i.v < m ∧ e.v < len i.v) (colAt col i e)) 20) 21
  | some (.fam _ t cap len cols) => chk (Nat.beq sz cols.length) (opt (cols[f]?) (fun col => .need (e.v < len i.v) (colAt col i e)) 25) 26
  | none => .bad 22

theorem cellAt_ok {φ : Fr} {ρ : Rho} {H : Hp} {w : World} {key : Nat} {i e : NV} {f sz : Nat} {K : SC → Prop} (h : HInv φ ρ H w) (hh : (cellAt H.h key i e f sz).holds K) :
    ∃ c v p, K c ∧ CIs H.sc ρ c v ∧ place ρ key i (e.v * sz + f) = some p ∧ w.cell? p = some v := by
  unfold cellAt at hh
  split at hh
  · rename_i t size cs hf
    obtain ⟨hi, hh⟩ := chk_holds hh
    obtain ⟨n, hn, hh⟩ := opt_holds hh
    obtain ⟨oc, hoc, hh⟩ := opt_holds hh
    obtain ⟨c, hc, hh⟩ := opt_holds hh
    subst hc
    obtain ⟨b, arr, h1, h2, h3, h4, h5⟩ := h.sat key _ hf
    obtain ⟨v, hv, hs⟩ := h5 _ _ hoc
    refine ⟨c, v, ⟨b, 0 + (e.v * sz + f), none⟩, hh, hs, ?_, ?_⟩
    · simp [place, NV.isZero_v hi, h1]
    · rw [NV.lit_v hn, Nat.zero_add, cell_of_row w b _ arr t _ h2]; exact hv
  · rename_i t size n cols hf
    obtain ⟨hi, hh⟩ := chk_holds hh
    obtain ⟨hz, hh⟩ := chk_holds hh
    obtain ⟨col, hcol, hlt, hh⟩ := opt_holds hh
    obtain ⟨c, hc, hh⟩ := colAt_ok hh
    rcases h.sat key _ hf with ⟨h0, _⟩ | ⟨b, arr, h1, h2, h3, h4, h4', h5⟩
    · omega
    obtain ⟨v, hv, hs⟩ := h5 e.v hlt f col c hcol hc
    have hz := Nat.eq_of_beq_eq_true hz
    refine ⟨c, v, ⟨b, 0 + (e.v * sz + f), none⟩, hh, hs, ?_, ?_⟩
    · simp [place, NV.isZero_v hi, h1]
    · rw [Nat.zero_add, cell_of_row w b _ arr t _ h2, hz]; exact hv
  · rename_i m len cols hf
    obtain ⟨hz, hh⟩ := chk_holds hh
    obtain ⟨col, hcol, ⟨hlt, hlt'⟩, hh⟩ := opt_holds hh
    obtain ⟨c, hc, hh⟩ := colAt_ok hh
    obtain ⟨b, o, h1, h2⟩ := h.sat key _ hf i.v hlt e.v hlt'
    obtain ⟨v, hv, hs⟩ := h2 f col c hcol hc
    have hz := Nat.eq_of_beq_eq_true hz
    refine ⟨c, v, ⟨b, o + (e.v * sz + f), none⟩, hh, hs, ?_, ?_⟩
    · simp [place, h1]
    · rw [hz]; exact hv
  · rename_i rw t cap len cols hf
    obtain ⟨hz, hh⟩ := chk_holds hh
    obtain ⟨col, hcol, hlt, hh⟩ := opt_holds hh
    obtain ⟨c, hc, hh⟩ := colAt_ok hh
    obtain ⟨h1, _, h3⟩ := h.sat key _ hf
    obtain ⟨b, arr, g1, g2, g3, g4⟩ := h3 i.v (by have := (h1 i.v).1; omega)
    obtain ⟨v, hv, hs⟩ := g4 e.v hlt f col c hcol hc
    have hz := Nat.eq_of_beq_eq_true hz
    refine ⟨c, v, ⟨b, 0 + (e.v * sz + f), none⟩, hh, hs, ?_, ?_⟩
    · simp [place, g1]
    · rw [Nat.zero_add, cell_of_row w b _ arr t _ g2, hz]; exact hv
  · exact hh.elim

/-! ### Some cells in a row -/
def cellsAt (H : HL) (key : Nat) (i e : NV) (sz : Nat) : (f n : Nat) → Out (List SC)
  | _, 0 => .leaf []
  | f, n + 1 => (cellAt H key i e f sz).bind fun c => (cellsAt H key i e sz (f + 1) n).bind fun l => .leaf (c :: l)

/-- A list of cells stands for a list of values. -/
def LIs (n : Nat → Prop) (ρ : Rho) (l : List SC) (vs : List Value) : Prop := ∀ ρ', Agree n ρ ρ' → l.map (SC.den ρ') = vs
theorem LIs.nil (n : Nat → Prop) (ρ : Rho) : LIs n ρ [] [] := fun _ _ => rfl
theorem LIs.cons {n : Nat → Prop} {ρ : Rho} {c : SC} {v : Value} {l : List SC} {vs : List Value} (h : CIs n ρ c v) (g : LIs n ρ l vs) : LIs n ρ (c :: l) (v :: vs) := fun ρ' ha => by
  rw [List.map_cons, h ρ' ha, g ρ' ha]
theorem LIs.len {n : Nat → Prop} {ρ : Rho} {l : List SC} {vs : List Value} (h : LIs n ρ l vs) : vs.length = l.length := by rw [← h ρ (Agree.refl n ρ), List.length_map]
theorem LIs.get {n : Nat → Prop} {ρ : Rho} {l : List SC} {vs : List Value} (h : LIs n ρ l vs) {k : Nat} {c : SC} (hk : l[k]? = some c) : ∃ v, vs[k]? = some v ∧ CIs n ρ c v := by
  refine ⟨c.den ρ, by rw [← h ρ (Agree.refl n ρ)]; simp [hk], fun ρ' ha => ?_⟩
  have e := (h ρ' ha).trans (h ρ (Agree.refl n ρ)).symm
  have := congrArg (fun l : List Value => l[k]?) e
  simpa [hk] using this
theorem SIs.agg {n : Nat → Prop} {ρ : Rho} {l : List SC} {vs : List Value} (h : LIs n ρ l vs) : SIs n ρ (.a l) (.agg vs.toArray) := fun ρ' ha => by simp only [SV.den]; rw [h ρ' ha]
theorem LIs.ext {n m : Nat → Prop} {ρ ρ' : Rho} {l : List SC} {vs : List Value} (h : LIs n ρ l vs) (ha : Agree n ρ ρ') (hm : ∀ k, n k → m k) : LIs m ρ' l vs := fun ρ'' h' => h ρ'' (ha.trans (h'.mono hm))

theorem place_add {ρ : Rho} {key : Nat} {i : NV} {a b : Nat} {p : Addr} (h : place ρ key i a = some p) : place ρ key i (a + b) = some (p.add b) ∧ p.spot = none := by
  unfold place at *
  cases hp : ρ key i.v with
  | none => simp [hp] at h
  | some q =>
    simp only [hp, Option.map_some, Option.some.injEq] at h ⊢
    subst h
    refine ⟨?_, rfl⟩
    unfold Addr.add
    split
    · rename_i e; subst e; rfl
    · simp [Nat.add_assoc]

theorem cellsAt_ok {φ : Fr} {ρ : Rho} {H : Hp} {w : World} {key : Nat} {i e : NV} {sz : Nat} (h : HInv φ ρ H w) : ∀ (n f : Nat) {K : List SC → Prop}, (cellsAt H.h key i e sz f n).holds K →
    ∃ l vs, K l ∧ l.length = n ∧ LIs H.sc ρ l vs ∧ ∀ j v, vs[j]? = some v → ∃ p, place ρ key i (e.v * sz + (f + j)) = some p ∧ w.cell? p = some v
  | 0, f, K, hh => ⟨[], [], hh, rfl, .nil _ _, fun j v hv => by simp at hv⟩
  | n + 1, f, K, hh => by
    simp only [cellsAt, Out.holds_bind] at hh
    obtain ⟨c, v, p, hh, hc, hp, hw⟩ := cellAt_ok h hh
    obtain ⟨l, vs, hK, hlen, hl, hcells⟩ := cellsAt_ok h n (f + 1) hh
    refine ⟨c :: l, v :: vs, hK, by simp [hlen], .cons hc hl, ?_⟩
    intro j u hu
    cases j with
    | zero => simp at hu; subst hu; exact ⟨p, by simpa using hp, hw⟩
    | succ j =>
      obtain ⟨q, hq, hqw⟩ := hcells j u (by simpa using hu)
      exact ⟨q, by rw [← hq]; congr 1; omega, hqw⟩

/-! ### A load -/
def isAggT (P : Program) (t : TypeId) : Option Bool :=
  match P.underlying t with
  | some (.struct _) | some (.array _ _) => some true
  | some _ => some false
  | none => none
def sizeT (P : Program) (t : TypeId) : Option Nat := (P.info? t).map (·.size)

theorem run_isAgg_of {P : Program} {t : TypeId} {b : Bool} (h : isAggT P t = some b) (w : World) : (isAgg t).run P w = .ok b w := by
  unfold isAggT at h
  split at h
  · rename_i fs hu; cases h; simp [isAgg, run_underlying hu]
  · rename_i n e hu; cases h; simp [isAgg, run_underlying hu]
  · rename_i d h1 h2 hu
    cases h
    simp only [isAgg, Sem.run_bind, run_underlying hu, Result.andThen_ok]
    rfl
  · cases h
theorem run_sizeOf_of {P : Program} {t : TypeId} {n : Nat} (h : sizeT P t = some n) (w : World) : (sizeOf t).run P w = .ok n w := by
  unfold sizeT at h
  cases hi : P.info? t with
  | none => simp [hi] at h
  | some i => simp [hi] at h; simp [sizeOf, typeInfo, hi, h]

def loadT (P : Program) (H : HL) (t : TypeId) : SV → Out SV
  | .c (.ptr key i e f sz) => opt (isAggT P t) fun
    | true => opt (sizeT P t) fun n => chk (Nat.ble 1 n) ((cellsAt H key i e sz f n).bind fun l => .leaf (.a l))
    | false => (cellAt H key i e f sz).bind fun c => .leaf (.c c)
  | _ => .bad 30

theorem loadVar_ok {P : Program} {φ : Fr} {ρ : Rho} {H : Hp} {w : World} {t : TypeId} {x : SV} {v : Value} {K : SV → Prop} (h : HInv φ ρ H w) (hx : SIs H.sc ρ x v) (hh : (loadT P H.h t x).holds K) :
    ∃ a sv u, v = .pointer (some a) ∧ (loadVar t a).run P w = .ok u w ∧ K sv ∧ SIs H.sc ρ sv u := by
  unfold loadT at hh
  split at hh
  · rename_i key i e f sz
    obtain ⟨b, hb, hh⟩ := opt_holds hh
    have hv : v = .pointer (place ρ key i (e.v * sz + f)) := hx.eq
    cases b with
    | true =>
      obtain ⟨n, hn, hh⟩ := opt_holds hh
      obtain ⟨h1, hh⟩ := chk_holds hh
      rw [Out.holds_bind] at hh
      obtain ⟨l, vs, hK, hlen, hl, hcells⟩ := cellsAt_ok h n f hh
      cases hp : place ρ key i (e.v * sz + f) with
      | none =>
        have hl' := hl.len
        have h1 := Nat.le_of_ble_eq_true h1
        obtain ⟨u, hu⟩ : ∃ u, vs[0]? = some u := ⟨_, List.getElem?_eq_getElem (by omega)⟩
        obtain ⟨p, hp', _⟩ := hcells 0 u hu
        rw [Nat.add_zero, hp] at hp'; cases hp'
      | some a =>
        refine ⟨a, .a l, .agg vs.toArray, by rw [hv, hp], ?_, hK, .agg hl⟩
        have hlc : (loadCells a n).run P w = .ok vs.toArray w := by
          have := run_loadCells_list (P := P) w a vs (fun j u hu => by
            obtain ⟨p, hp', hw⟩ := hcells j u hu
            have := (place_add (b := j) hp).1
            rw [show e.v * sz + (f + j) = e.v * sz + f + j by omega, this] at hp'
            cases hp'; exact hw)
          rwa [hl.len, hlen] at this
        simp [loadVar, run_isAgg_of hb, run_sizeOf_of hn, hlc]
    | false =>
      rw [Out.holds_bind] at hh
      obtain ⟨c, u, p, hK, hc, hp, hw⟩ := cellAt_ok h hh
      refine ⟨p, .c c, u, by rw [hv, hp], ?_, hK, .of_c hc⟩
      simp [loadVar, run_isAgg_of hb, hw]
  · exact hh.elim

/-! ### A store -/
def sameKind : IntKind → IntKind → Bool
  | .i8, .i8 | .i16, .i16 | .i32, .i32 | .i64, .i64 | .u8, .u8 | .u16, .u16 | .u32, .u32 | .u64, .u64 => true
  | _, _ => false
theorem sameKind_eq {a b : IntKind} (h : sameKind a b = true) : a = b := by cases a <;> cases b <;> first | rfl | simp [sameKind] at h

def up2 {α : Type} (i e : NV) (x : α) (g : Nat → Nat → α) : Nat → Nat → α := fun i' j => if i' = i.v ∧ j = e.v then x else g i' j
def Col.ovr (i e : NV) (c : SC) : Col → Col
  | .ov i0 e0 c0 col => match eqNV i i0, eqNV e e0 with
    | (true, true), (true, true) => .ov i e c col
    | _, _ => .ov i e c (.ov i0 e0 c0 col)
  | col => .ov i e c col
/-- 'one': the block is one row, its instance 0. -/
def Col.set (one : Bool) (i e : NV) (c : SC) : Col → Option Col
  | .ci k g => match c with
    | .iv k' x | .ki k' x => bif sameKind k k' then some (.ci k fun i' j => if i' = i.v ∧ j = e.v then x else g i' j) else none
    | _ => none
  | .cb g => match c with
    | .bv x | .kb x => some (.cb fun i' j => if i' = i.v ∧ j = e.v then x else g i' j)
    | _ => none
  | .ck l => match one, e with
    | true, .k n => some (.ck (if n = l.length then l ++ [c] else l.set n c))
    | _, _ => none
  | .cu => some .cu
  | .cs key sz ix len cap => match c with
    | .slc key' i' e' sz' len' cap' => bif Nat.beq key key' && (e'.isZero && Nat.beq sz sz') then some (.cs key sz (up2 i e i'.v ix) (up2 i e len'.v len) (up2 i e cap'.v cap)) else some (Col.ovr i e c (.cs key sz ix len cap))
    | _ => some (Col.ovr i e c (.cs key sz ix len cap))
  | .cp key ix f sz => match c with
    | .ptr key' i' e' f' sz' => bif Nat.beq key key' && (e'.isZero && (Nat.beq f f' && Nat.beq sz sz')) then some (.cp key (up2 i e i'.v ix) f sz) else some (Col.ovr i e c (.cp key ix f sz))
    | _ => some (Col.ovr i e c (.cp key ix f sz))
  | .cf t key ix f sz => some (Col.ovr i e c (.cf t key ix f sz))
  | .cc d => some (Col.ovr i e c (.cc d))
  | .ov i0 e0 c0 col => some (Col.ovr i e c (.ov i0 e0 c0 col))

theorem Col.get_ovr {i e : NV} {c : SC} {col : Col} (i' j : Nat) : (Col.ovr i e c col).get i' j = if i' = i.v ∧ j = e.v then some c else col.get i' j := by
  cases col <;> try rfl
  rename_i i0 e0 c0 col
  simp only [Col.ovr]
  split
  · rename_i h1 h2
    have hi := eqNV_h i i0; have he := eqNV_h e e0
    rw [h1] at hi; rw [h2] at he
    have hi := Nat.eq_of_beq_eq_true hi.symm; have he := Nat.eq_of_beq_eq_true he.symm
    simp only [Col.get]
    rw [hi, he]
    split <;> rfl
  · rfl
theorem Col.get_set {one : Bool} {col col' : Col} {i e : NV} {c : SC} (h : col.set one i e c = some col') (h1 : one = true → i.v = 0) (i' j : Nat) (h2 : one = true → i' = 0) (d : SC) (hd : col'.get i' j = some d) :
    (i' = i.v ∧ j = e.v → ∀ ρ, d.den ρ = c.den ρ) ∧ (¬ (i' = i.v ∧ j = e.v) → col.get i' j = some d) := by
  have ov : ∀ col : Col, (Col.ovr i e c col).get i' j = some d → (i' = i.v ∧ j = e.v → ∀ ρ, d.den ρ = c.den ρ) ∧ (¬ (i' = i.v ∧ j = e.v) → col.get i' j = some d) := by
    intro col hd
    rw [Col.get_ovr] at hd
    exact ⟨fun hc => by rw [if_pos hc] at hd; cases hd; intro _; rfl, fun hc => by rw [if_neg hc] at hd; exact hd⟩
  cases col with
  | ci k g =>
    cases c <;> simp only [Col.set] at h <;> (try cases h)
    all_goals
      rename_i k' x
      by_cases hk : sameKind k k' = true
      · have := sameKind_eq hk; subst this
        simp only [hk, cond_true, Option.some.injEq] at h
        subst h
        simp only [Col.get, Option.some.injEq] at hd
        subst hd
        exact ⟨fun he => by rw [if_pos he]; intro ρ; simp [SC.den], fun he => by simp only [Col.get]; rw [if_neg he]⟩
      · simp [hk] at h
  | cb g =>
    cases c <;> simp only [Col.set, Option.some.injEq] at h <;> (try cases h)
    all_goals
      simp only [Col.get, Option.some.injEq] at hd
      subst hd
      exact ⟨fun he => by rw [if_pos he]; intro ρ; simp [SC.den], fun he => by simp only [Col.get]; rw [if_neg he]⟩
  | ck l =>
    cases one with
    | false => simp [Col.set] at h
    | true =>
      have h1 := h1 rfl; have h2 := h2 rfl
      subst h2
      cases e with
      | s n => simp [Col.set] at h
      | k n =>
        simp only [Col.set, Option.some.injEq] at h
        subst h
        simp only [Col.get, NV.v_k, h1, true_and] at hd ⊢
        by_cases hn : n = l.length
        · subst hn
          simp only [if_true] at hd
          by_cases hj : j < l.length
          · rw [List.getElem?_append_left hj] at hd
            exact ⟨fun he => by omega, fun _ => hd⟩
          · rw [List.getElem?_append_right (by omega)] at hd
            by_cases he : j = l.length
            · subst he; simp at hd; subst hd; exact ⟨fun _ _ => rfl, fun h => absurd rfl h⟩
            · rw [List.getElem?_eq_none (by simp; omega)] at hd; cases hd
        · simp only [hn, if_false, List.getElem?_set] at hd
          by_cases he : j = n
          · subst he
            simp only [if_true] at hd
            split at hd
            · cases hd; exact ⟨fun _ _ => rfl, fun h => absurd rfl h⟩
            · cases hd
          · rw [if_neg (fun h => he h.symm)] at hd
            exact ⟨fun h => absurd h he, fun _ => hd⟩
  | cu => simp [Col.set] at h; subst h; simp [Col.get] at hd
  | cs key sz ix len cap =>
    simp only [Col.set] at h
    split at h
    · rename_i key' i2 e2 sz' len' cap'
      by_cases hb : (Nat.beq key key' && (e2.isZero && Nat.beq sz sz')) = true
      · rw [hb] at h
        simp only [cond_true, Option.some.injEq] at h
        subst h
        simp only [Bool.and_eq_true] at hb
        have hk := Nat.eq_of_beq_eq_true hb.1; have hz := Nat.eq_of_beq_eq_true hb.2.2; have h0 := NV.isZero_v hb.2.1
        subst hk hz
        simp only [Col.get, up2, Option.some.injEq] at hd ⊢
        subst hd
        refine ⟨fun hc ρ => ?_, fun hc => ?_⟩
        · simp only [if_pos hc, SC.den, NV.v_s, NV.v_k, h0, place]
        · simp only [if_neg hc]
      · have : (Nat.beq key key' && (e2.isZero && Nat.beq sz sz')) = false := Bool.eq_false_iff.2 hb
        rw [this] at h
        simp only [cond_false, Option.some.injEq] at h
        subst h
        exact ov _ hd
    · cases h; exact ov _ hd
  | cp key ix f sz =>
    simp only [Col.set] at h
    split at h
    · rename_i key' i2 e2 f' sz'
      by_cases hb : (Nat.beq key key' && (e2.isZero && (Nat.beq f f' && Nat.beq sz sz'))) = true
      · rw [hb] at h
        simp only [cond_true, Option.some.injEq] at h
        subst h
        simp only [Bool.and_eq_true] at hb
        have hk := Nat.eq_of_beq_eq_true hb.1; have hz := Nat.eq_of_beq_eq_true hb.2.2.2; have hf := Nat.eq_of_beq_eq_true hb.2.2.1; have h0 := NV.isZero_v hb.2.1
        subst hk hz hf
        simp only [Col.get, up2, Option.some.injEq] at hd ⊢
        subst hd
        refine ⟨fun hc ρ => ?_, fun hc => ?_⟩
        · simp only [if_pos hc, SC.den, NV.v_s, NV.v_k, h0, place]
        · simp only [if_neg hc]
      · have : (Nat.beq key key' && (e2.isZero && (Nat.beq f f' && Nat.beq sz sz'))) = false := Bool.eq_false_iff.2 hb
        rw [this] at h
        simp only [cond_false, Option.some.injEq] at h
        subst h
        exact ov _ hd
    · cases h; exact ov _ hd
  | cf t key ix f sz => simp only [Col.set, Option.some.injEq] at h; subst h; exact ov _ hd
  | cc c0 => simp only [Col.set, Option.some.injEq] at h; subst h; exact ov _ hd
  | ov i0 e0 c0 col => simp only [Col.set, Option.some.injEq] at h; subst h; exact ov _ hd

def setAt (H : HL) (key : Nat) (i e : NV) (f sz : Nat) (c : SC) : Out HL :=
  chk c.oneCell (match find key H with
  | some (.own t size cs) => chk i.isZero (opt e.lit (fun n => chk (Nat.blt (n * sz + f) cs.length) (.leaf (upd key (.own t size (cs.set (n * sz + f) (some c))) H)) 31) 32) 33
  | some (.row t size n cols) => chk i.isZero (chk (Nat.beq sz cols.length) (opt (cols[f]?) (fun col => opt (col.set true (.k 0) e c) (fun col' =>
      .need (e.v < n) (.leaf (upd key (.row t size n (cols.set f col')) H))) 34) 35) 36) 37
  | some (.fam rw t cap len cols) => chk (rw && Nat.beq sz cols.length) (opt (cols[f]?) (fun col => opt (col.set false i e c) (fun col' =>
      .need (e.v < len i.v) (.leaf (upd key (.fam rw t cap len (cols.set f col')) H))) 34) 35) 36
  | _ => .bad 38) 39

theorem CIs.one {n : Nat → Prop} {ρ : Rho} {c : SC} {v : Value} (h : CIs n ρ c v) (ho : c.oneCell = true) : v.oneCell' = true := by
  rw [h.eq]
  cases c <;> simp only [SC.den, Value.oneCell']
  rename_i u
  cases u <;> simp [SC.oneCell] at ho ⊢

theorem run_store_of {P : Program} {w : World} {b j : Nat} {arr : Array Value} {t : TypeId} {v u : Value} (hb : w.heap[b]? = some (.cells arr t (0, 0))) (hu : arr[j]? = some u) (hv : v.oneCell' = true) :
    (store ⟨b, j, none⟩ v).run P w = .ok () (w.setCell ⟨b, j, none⟩ v) := by
  rw [run_store P w _ v _ hv, cell_of_row w b j arr t _ hb, hu, frozen_of_row w b j arr t hb]
  simp

theorem setAt_ok {P : Program} {φ : Fr} {ρ : Rho} {H : Hp} {w : World} {key : Nat} {i e : NV} {f sz : Nat} {c : SC} {v : Value} {K : HL → Prop} (h : HInv φ ρ H w) (hc : CIs H.sc ρ c v)
    (hh : (setAt H.h key i e f sz c).holds K) :
    ∃ p h' w', place ρ key i (e.v * sz + f) = some p ∧ K h' ∧ (store p v).run P w = .ok () w' ∧ HInv φ ρ ⟨h', H.nxt, H.D⟩ w' := by
  unfold setAt at hh
  obtain ⟨hone, hh⟩ := chk_holds hh
  have hv := hc.one hone
  split at hh
  · rename_i t size cs hf
    obtain ⟨hi, hh⟩ := chk_holds hh
    obtain ⟨n, hn, hh⟩ := opt_holds hh
    obtain ⟨hlt, hh⟩ := chk_holds hh
    have hlt : n * sz + f < cs.length := Nat.lt_of_succ_le (Nat.le_of_ble_eq_true hlt)
    obtain ⟨b, arr, h1, h2, h3, h4, h5⟩ := h.sat key _ hf
    obtain ⟨u, hu⟩ : ∃ u, arr[n * sz + f]? = some u := ⟨_, Array.getElem?_eq_getElem (by omega)⟩
    refine ⟨⟨b, n * sz + f, none⟩, _, _, ?_, hh, run_store_of h2 hu hv, ?_⟩
    · simp [place, NV.isZero_v hi, h1, NV.lit_v hn]
    · refine h.write hf rfl (i0 := 0) rfl h1 ?_ (h.fr.set (h.may key _ hf rfl 0 rfl b 0 h1) _) (by simp) (fun x hx => heap_setCell_other w _ x v hx) (fun i hi => hi)
      refine ⟨b, arr.setIfInBounds (n * sz + f) v, h1, heap_setCell_same w b _ arr t v h2, by simp [h3], by simpa using h4, ?_⟩
      intro j d hd
      rw [List.getElem?_set] at hd
      split at hd
      · rename_i e; subst e
        simp only [hlt, if_true, Option.some.injEq] at hd
        subst hd
        exact ⟨v, by simp [show n * sz + f < arr.size by omega], hc⟩
      · rename_i hne
        obtain ⟨x, hx, hs⟩ := h5 j d hd
        exact ⟨x, by rw [Array.getElem?_setIfInBounds_ne hne]; exact hx, hs⟩
  · rename_i t size n cols hf
    obtain ⟨hi, hh⟩ := chk_holds hh
    obtain ⟨hz, hh⟩ := chk_holds hh
    obtain ⟨col, hcol, hh⟩ := opt_holds hh
    obtain ⟨col', hcol', hlt, hhK⟩ := opt_holds hh
    clear hh
    have hz := Nat.eq_of_beq_eq_true hz
    subst hz
    rcases h.sat key _ hf with ⟨h0, _⟩ | ⟨b, arr, h1, h2, h3, h4, h4', h5⟩
    · omega
    have hfl : f < cols.length := (List.getElem?_eq_some_iff.1 hcol).1
    have hin : e.v * cols.length + f < arr.size := by
      have : (e.v + 1) * cols.length ≤ size * cols.length := Nat.mul_le_mul_right _ (by omega)
      rw [Nat.add_mul, Nat.one_mul] at this
      omega
    obtain ⟨u, hu⟩ : ∃ u, arr[e.v * cols.length + f]? = some u := ⟨_, Array.getElem?_eq_getElem hin⟩
    refine ⟨⟨b, e.v * cols.length + f, none⟩, _, _, ?_, hhK, run_store_of h2 hu hv, ?_⟩
    · simp [place, NV.isZero_v hi, h1]
    · have hl0 : Blk.live (.row t size n cols) 0 := ⟨rfl, by omega⟩
      refine h.write hf rfl (i0 := 0) hl0 h1 ?_ (h.fr.set (h.may key _ hf rfl 0 hl0 b 0 h1) _) (by simp) (fun x hx => heap_setCell_other w _ x v hx) (fun i hi => hi)
      refine .inr ⟨b, arr.setIfInBounds (e.v * cols.length + f) v, h1, heap_setCell_same w b _ arr t v h2, by simp [h3], h4, h4', ?_⟩
      intro j hj g dcol d hd hget
      rw [List.length_set]
      rw [List.getElem?_set] at hd
      by_cases hg : f = g
      · subst hg
        simp only [hfl, if_true, Option.some.injEq] at hd
        subst hd
        obtain ⟨s1, s2⟩ := Col.get_set hcol' (fun _ => rfl) 0 j (fun _ => rfl) d hget
        by_cases hje : j = e.v
        · subst hje
          exact ⟨v, by simp [hin], fun ρ' ha => (s1 ⟨rfl, rfl⟩ ρ').trans (hc ρ' ha)⟩
        · obtain ⟨x, hx, hs⟩ := h5 j hj f col d hcol (s2 fun h => hje h.2)
          refine ⟨x, ?_, hs⟩
          rw [Array.getElem?_setIfInBounds_ne (fun hh => hje ?_)]; exact hx
          have : j * cols.length = e.v * cols.length := by omega
          exact Nat.eq_of_mul_eq_mul_right (by omega) this
      · rw [if_neg hg] at hd
        obtain ⟨x, hx, hs⟩ := h5 j hj g dcol d hd hget
        refine ⟨x, ?_, hs⟩
        rw [Array.getElem?_setIfInBounds_ne (fun hh => hg ?_)]; exact hx
        have hgl : g < cols.length := (List.getElem?_eq_some_iff.1 hd).1
        have := congrArg (· % cols.length) hh
        simpa [Nat.mul_add_mod_of_lt, hfl, hgl, Nat.mul_comm, Nat.mod_eq_of_lt] using this
  · rename_i rw t cap len cols hf
    obtain ⟨hz, hh⟩ := chk_holds hh
    simp only [Bool.and_eq_true] at hz
    obtain ⟨hrw, hz⟩ := hz
    subst hrw
    obtain ⟨col, hcol, hh⟩ := opt_holds hh
    obtain ⟨col', hcol', hlt, hhK⟩ := opt_holds hh
    clear hh
    have hz := Nat.eq_of_beq_eq_true hz
    subst hz
    obtain ⟨h1, h2, h3⟩ := h.sat key _ hf
    have hcap : 0 < cap i.v := by have := (h1 i.v).1; omega
    obtain ⟨b, arr, g1, g2, g3, g4⟩ := h3 i.v hcap
    have hfl : f < cols.length := (List.getElem?_eq_some_iff.1 hcol).1
    have hin : e.v * cols.length + f < arr.size := by
      have h1' := (h1 i.v).1
      have : (e.v + 1) * cols.length ≤ cap i.v * cols.length := Nat.mul_le_mul_right _ (by omega)
      rw [Nat.add_mul, Nat.one_mul] at this
      omega
    obtain ⟨u, hu⟩ : ∃ u, arr[e.v * cols.length + f]? = some u := ⟨_, Array.getElem?_eq_getElem hin⟩
    refine ⟨⟨b, e.v * cols.length + f, none⟩, _, _, ?_, hhK, run_store_of g2 hu hv, ?_⟩
    · simp [place, g1]
    · refine h.write hf rfl (i0 := i.v) hcap g1 ?_ (h.fr.set (h.may key _ hf rfl i.v hcap b 0 g1) _) (by simp) (fun x hx => heap_setCell_other w _ x v hx) (fun i hi => hi)
      refine ⟨h1, h2, fun i' hi' => ?_⟩
      by_cases hii : i' = i.v
      · subst hii
        refine ⟨b, arr.setIfInBounds (e.v * cols.length + f) v, g1, heap_setCell_same w b _ arr t v g2, by simp [g3], ?_⟩
        intro j hj g dcol d hd hget
        rw [List.length_set]
        rw [List.getElem?_set] at hd
        by_cases hg : f = g
        · subst hg
          simp only [hfl, if_true, Option.some.injEq] at hd
          subst hd
          obtain ⟨s1, s2⟩ := Col.get_set hcol' (fun h => by cases h) i.v j (fun h => by cases h) d hget
          by_cases hje : j = e.v
          · subst hje
            exact ⟨v, by simp [hin], fun ρ' ha => (s1 ⟨rfl, rfl⟩ ρ').trans (hc ρ' ha)⟩
          · obtain ⟨x, hx, hs⟩ := g4 j hj f col d hcol (s2 fun h => hje h.2)
            refine ⟨x, ?_, hs⟩
            rw [Array.getElem?_setIfInBounds_ne (fun hh => hje ?_)]; exact hx
            have : j * cols.length = e.v * cols.length := by omega
            exact Nat.eq_of_mul_eq_mul_right (by omega) this
        · rw [if_neg hg] at hd
          obtain ⟨x, hx, hs⟩ := g4 j hj g dcol d hd hget
          refine ⟨x, ?_, hs⟩
          rw [Array.getElem?_setIfInBounds_ne (fun hh => hg ?_)]; exact hx
          have hgl : g < cols.length := (List.getElem?_eq_some_iff.1 hd).1
          have := congrArg (· % cols.length) hh
          simpa [Nat.mul_add_mod_of_lt, hfl, hgl, Nat.mul_comm, Nat.mod_eq_of_lt] using this
      · obtain ⟨b', arr', k1, k2, k3, k4⟩ := h3 i' hi'
        have hbb : b' ≠ b := h2 i' i.v hi' hcap hii b' 0 b 0 k1 g1
        refine ⟨b', arr', k1, by rw [heap_setCell_other w _ b' v hbb]; exact k2, by simpa using k3, ?_⟩
        intro j hj g dcol d hd hget
        rw [List.length_set]
        rw [List.getElem?_set] at hd
        by_cases hg : f = g
        · subst hg
          simp only [hfl, if_true, Option.some.injEq] at hd
          subst hd
          obtain ⟨_, s2⟩ := Col.get_set hcol' (fun h => by cases h) i' j (fun h => by cases h) d hget
          exact k4 j hj f col d hcol (s2 fun h => hii h.1)
        · rw [if_neg hg] at hd
          exact k4 j hj g dcol d hd hget
  · exact hh.elim

def setsAt (key : Nat) (i e : NV) (sz : Nat) : HL → (f : Nat) → List SC → Out HL
  | H, _, [] => .leaf H
  | H, f, c :: l => (setAt H key i e f sz c).bind fun H' => setsAt key i e sz H' (f + 1) l

theorem setsAt_ok {P : Program} {φ : Fr} {ρ : Rho} {key : Nat} {i e : NV} {sz f0 : Nat} {a : Addr} (ha : place ρ key i (e.v * sz + f0) = some a) : ∀ (l : List SC) (vs : List Value) (j : Nat) (H : Hp) (w : World) {K : HL → Prop},
    HInv φ ρ H w → LIs H.sc ρ l vs → (setsAt key i e sz H.h (f0 + j) l).holds K → ∃ h' w', K h' ∧ (storeCells a vs j).run P w = .ok () w' ∧ HInv φ ρ ⟨h', H.nxt, H.D⟩ w'
  | [], vs, j, H, w, K, h, hl, hh => by
    have : vs = [] := by have := hl.len; simpa using List.eq_nil_of_length_eq_zero (by simpa using this)
    subst this
    exact ⟨H.h, w, hh, by simp [storeCells], h⟩
  | c :: l, vs, j, H, w, K, h, hl, hh => by
    cases vs with
    | nil => have := hl.len; simp at this
    | cons v vs =>
      have hcv : CIs H.sc ρ c v := fun ρ' ha => by have := hl ρ' ha; simp at this; exact this.1
      have hlv : LIs H.sc ρ l vs := fun ρ' ha => by have := hl ρ' ha; simp at this; exact this.2
      simp only [setsAt, Out.holds_bind] at hh
      obtain ⟨p, h1, w1, hp, hh, hrun, hinv⟩ := setAt_ok (P := P) h hcv hh
      obtain ⟨h2, w2, hK, hrun2, hinv2⟩ := setsAt_ok (P := P) ha l vs (j + 1) ⟨h1, H.nxt, H.D⟩ w1 hinv hlv hh
      refine ⟨h2, w2, hK, ?_, hinv2⟩
      have hpa : p = a.add j := by
        have := (place_add (b := j) ha).1
        rw [show e.v * sz + (f0 + j) = e.v * sz + f0 + j by omega, this] at hp
        cases hp; rfl
      subst hpa
      simp [storeCells, hrun, hrun2]

def SV.cells : SV → Option (List SC)
  | .c (.val _) => none
  | .c x => some [x]
  | .a l => some l
  | .t _ => none

theorem SV.cells_is {n : Nat → Prop} {ρ : Rho} {x : SV} {l : List SC} {v : Value} (hx : SIs n ρ x v) (hl : x.cells = some l) : ∃ vs, v.cells = vs.toArray ∧ LIs n ρ l vs := by
  cases x with
  | c x =>
    have : (v.cells = [v].toArray) ∧ l = [x] := by
      have hv := hx.eq
      cases x <;> simp [SV.cells] at hl <;> subst hl <;> refine ⟨?_, rfl⟩ <;> rw [hv] <;> rfl
    obtain ⟨h1, rfl⟩ := this
    exact ⟨[v], h1, .cons (.of_s hx) (.nil _ _)⟩
  | a l' =>
    simp [SV.cells] at hl; subst hl
    refine ⟨l'.map (SC.den ρ), by rw [hx.eq]; rfl, fun ρ' ha => ?_⟩
    have := (hx ρ' ha).trans hx.eq
    simpa [SV.den] using this
  | t l' => simp [SV.cells] at hl

def storeT (P : Program) (H : HL) (t : TypeId) : SV → SV → Out HL
  | .c (.ptr key i e f sz), x => opt x.cells (fun l => opt (sizeT P t) (fun n => chk (Nat.beq l.length n) (chk (Nat.ble 1 n) (setsAt key i e sz H f l) 40) 41) 42) 43
  | _, _ => .bad 44

theorem storeVar_ok {P : Program} {φ : Fr} {ρ : Rho} {H : Hp} {w : World} {t : TypeId} {x y : SV} {v u : Value} {K : HL → Prop} (h : HInv φ ρ H w) (hx : SIs H.sc ρ x v) (hy : SIs H.sc ρ y u)
    (hh : (storeT P H.h t x y).holds K) : ∃ a h' w', v = .pointer (some a) ∧ K h' ∧ (storeVar t a u).run P w = .ok () w' ∧ HInv φ ρ ⟨h', H.nxt, H.D⟩ w' := by
  unfold storeT at hh
  split at hh
  · rename_i key i e f sz
    obtain ⟨l, hl, hh⟩ := opt_holds hh
    obtain ⟨n, hn, hh⟩ := opt_holds hh
    obtain ⟨hlen, hh⟩ := chk_holds hh
    obtain ⟨h1, hh⟩ := chk_holds hh
    have hlen := Nat.eq_of_beq_eq_true hlen
    have h1 := Nat.le_of_ble_eq_true h1
    obtain ⟨vs, hvs, hls⟩ := SV.cells_is hy hl
    have hv : v = .pointer (place ρ key i (e.v * sz + f)) := hx.eq
    -- the first cell tells the address
    obtain ⟨a, ha⟩ : ∃ a, place ρ key i (e.v * sz + f) = some a := by
      cases l with
      | nil => simp at hlen; omega
      | cons c l =>
        simp only [setsAt, Out.holds_bind] at hh
        have hcv : ∃ x, CIs H.sc ρ c x := by obtain ⟨x, _, hx⟩ := hls.get (k := 0) (c := c) rfl; exact ⟨x, hx⟩
        obtain ⟨x, hx⟩ := hcv
        obtain ⟨p, _, _, hp, _⟩ := setAt_ok (P := P) h hx hh
        exact ⟨p, hp⟩
    obtain ⟨h', w', hK, hrun, hinv⟩ := setsAt_ok (P := P) ha l vs 0 H w h hls (by simpa using hh)
    refine ⟨a, h', w', by rw [hv, ha], hK, ?_, hinv⟩
    have hsz : u.cells.size = n := by rw [hvs, List.size_toArray, hls.len, hlen]
    simp [storeVar, run_sizeOf_of hn, hsz]
    rw [hvs]; exact hrun
  · exact hh.elim

/-! ### A new block -/
def newT (H : Hp) (t : TypeId) (l : List SC) : Hp := ⟨(H.nxt, .own t l.length (l.map some)) :: H.h, H.nxt + 1, H.D⟩
theorem new_ok {φ : Fr} {ρ : Rho} {H : Hp} {w : World} {t : TypeId} {l : List SC} {vs : List Value} (h : HInv φ ρ H w) (hl : LIs H.sc ρ l vs) :
    HInv φ (ρ.set H.nxt w.heap.size) (newT H t l) (w.alloc (.cells vs.toArray t)) := by
  refine h.alloc t vs.toArray _ ?_
  refine ⟨w.heap.size, vs.toArray, Rho.set_at _ _ _, heap_alloc_new _ _, by simp [hl.len], by simp, ?_⟩
  intro i c hc
  simp only [List.getElem?_map] at hc
  cases hi : l[i]? with
  | none => simp [hi] at hc
  | some d =>
    simp [hi] at hc; subst hc
    obtain ⟨v, hv, hs⟩ := hl.get hi
    exact ⟨v, by simpa using hv, hs.ext (ρ.set_agree (fun _ hj => hj.1) _) (fun k hk => ⟨Nat.lt_succ_of_lt hk.1, hk.2⟩)⟩
end Go.Proofs.Ytjpnpaboahbncaa.Sx
