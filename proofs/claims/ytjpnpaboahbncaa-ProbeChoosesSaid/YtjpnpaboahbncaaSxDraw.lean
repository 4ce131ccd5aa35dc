/- A region that draws its order, by the symbolic executor: each operation runs in a view of its own forerunners. -/
import Derived.Test.YtjpnpaboahbncaaSxCode
import Derived.Test.YtjpnpaboahbncaaSxForce
import Derived.Test.YtjpnpaboahbncaaSxSched
set_option linter.unusedVariables false
set_option linter.unusedSimpArgs false
namespace Go.Proofs.Ytjpnpaboahbncaa.Sx
open Go Go.RowKit

/-! ### Blocks that may only be read -/
def Blk.ro : Blk → Blk
  | .own _ _ cs => .view 1 (fun _ => 1) (cs.map fun | some c => .ck [c] | none => .cu)
  | .row _ _ n cols => .view 1 (fun _ => n) cols
  | .view m n cols => .view m n cols
  | .fam _ t cap n cols => .fam false t cap n cols
theorem Blk.ro_sat {n : Nat → Prop} {ρ : Rho} {key : Nat} {w : World} {b : Blk} (h : b.sat n ρ key w) : b.ro.sat n ρ key w := by
  cases b with
  | own t size cs =>
    obtain ⟨b, arr, h1, h2, h3, h4, h5⟩ := h
    intro i hi e he
    have hi0 : i = 0 := by omega
    have he0 : e = 0 := by simp at he; exact he
    subst hi0 he0
    refine ⟨b, 0, h1, fun f col c hf hc => ?_⟩
    simp only [List.getElem?_map, Option.map_eq_some_iff] at hf
    obtain ⟨oc, hoc, rfl⟩ := hf
    cases oc with
    | none => simp [Col.get] at hc
    | some d =>
      simp [Col.get] at hc
      subst hc
      obtain ⟨v, hv, hs⟩ := h5 f d hoc
      exact ⟨v, by rw [cell_of_row w b _ arr t _ h2]; simpa using hv, hs⟩
  | row t cap m cols =>
    intro i hi e he
    have hi0 : i = 0 := by omega
    subst hi0
    rcases h with ⟨h0, _⟩ | ⟨b, arr, h1, h2, h3, h4, h4', h5⟩
    · simp only at he; omega
    refine ⟨b, 0, h1, fun f col c hf hc => ?_⟩
    obtain ⟨v, hv, hs⟩ := h5 e he f col c hf hc
    exact ⟨v, by rw [cell_of_row w b _ arr t _ h2]; simpa using hv, hs⟩
  | view m len cols => exact h
  | fam rw t cap len cols => exact h
theorem Blk.ro_live {b : Blk} (hs : ∀ t cap n cols, b = .row t cap n cols → n ≤ cap) {i : Nat} (h : b.ro.live i) : b.live i := by
  cases b with
  | own t size cs => obtain ⟨h1, _⟩ := h; show i = 0; omega
  | row t cap n cols => obtain ⟨h1, h2⟩ := h; have := hs _ _ _ _ rfl; have h2 : 0 < n := h2; exact ⟨by omega, by omega⟩
  | view m len cols => exact h
  | fam rw t cap len cols => exact h
theorem Blk.sat_row_le {n : Nat → Prop} {ρ : Rho} {key : Nat} {w : World} {b : Blk} (h : b.sat n ρ key w) : ∀ t cap l cols, b = .row t cap l cols → l ≤ cap := by
  rintro t cap l cols rfl
  rcases h with h | ⟨_, _, _, _, _, h, _⟩
  · omega
  · exact h
theorem Blk.ro_isRow (b : Blk) : b.ro.isRow = false := by cases b <;> rfl

/-! ### Lists of keys -/
def mem (k : Nat) : List Nat → Bool
  | [] => false
  | x :: l => Nat.beq k x || mem k l
theorem mem_iff {k : Nat} : ∀ {l : List Nat}, mem k l = true ↔ k ∈ l
  | [] => by simp [mem]
  | x :: l => by
    simp only [mem, Bool.or_eq_true, List.mem_cons, mem_iff (l := l)]
    constructor
    · rintro (h | h)
      · exact .inl (Nat.eq_of_beq_eq_true h)
      · exact .inr h
    · rintro (rfl | h)
      · exact .inl (Nat.beq_refl _)
      · exact .inr h
def restr (F W : List Nat) : HL → HL
  | [] => []
  | (k, b) :: r => match mem k W, mem k F with
    | true, _ => (k, b) :: restr F W r
    | false, true => (k, b.ro) :: restr F W r
    | false, false => restr F W r
def dropAll (W : List Nat) : HL → HL
  | [] => []
  | (k, b) :: r => match mem k W with
    | true => dropAll W r
    | false => (k, b) :: dropAll W r
def newOf (N : Nat) (W : List Nat) : HL → HL
  | [] => []
  | (k, b) :: r => match mem k W || Nat.ble N k with
    | true => (k, b) :: newOf N W r
    | false => newOf N W r
theorem find_restr (F W : List Nat) (key : Nat) : ∀ h : HL, find key (restr F W h) = if key ∈ W then find key h else if key ∈ F then (find key h).map Blk.ro else none
  | [] => by simp [restr, find]
  | (k, b) :: r => by
    have ih := find_restr F W key r
    simp only [restr]
    split
    · rename_i h1
      rw [mem_iff] at h1
      rw [find_cons, find_cons, ih]
      by_cases e : key = k
      · subst e; simp [h1]
      · simp [e]
    · rename_i h1 h2
      rw [mem_iff] at h2
      have h1 : k ∉ W := fun h => by rw [← mem_iff] at h; rw [h] at h1; cases h1
      rw [find_cons, find_cons, ih]
      by_cases e : key = k
      · subst e; simp [h1, h2]
      · simp [e]
    · rename_i h1 h2
      have h1 : k ∉ W := fun h => by rw [← mem_iff] at h; rw [h] at h1; cases h1
      have h2 : k ∉ F := fun h => by rw [← mem_iff] at h; rw [h] at h2; cases h2
      rw [find_cons, ih]
      by_cases e : key = k
      · subst e; simp [h1, h2]
      · simp [e]
theorem find_dropAll (W : List Nat) (key : Nat) : ∀ h : HL, find key (dropAll W h) = if key ∈ W then none else find key h
  | [] => by simp [dropAll, find]
  | (k, b) :: r => by
    have ih := find_dropAll W key r
    simp only [dropAll]
    split
    · rename_i h1
      rw [mem_iff] at h1
      rw [find_cons, ih]
      by_cases e : key = k
      · subst e; simp [h1]
      · simp [e]
    · rename_i h1
      have h1 : k ∉ W := fun h => by rw [← mem_iff] at h; rw [h] at h1; cases h1
      rw [find_cons, find_cons, ih]
      by_cases e : key = k
      · subst e; simp [h1]
      · simp [e]
theorem find_newOf (N : Nat) (W : List Nat) (key : Nat) : ∀ h : HL, find key (newOf N W h) = if key ∈ W ∨ N ≤ key then find key h else none
  | [] => by simp [newOf, find]
  | (k, b) :: r => by
    have ih := find_newOf N W key r
    simp only [newOf]
    split
    · rename_i h1
      have h1 : k ∈ W ∨ N ≤ k := by
        simp only [Bool.or_eq_true, mem_iff] at h1
        exact h1.imp id Nat.le_of_ble_eq_true
      rw [find_cons, find_cons, ih]
      by_cases e : key = k
      · subst e; simp [h1]
      · simp [e]
    · rename_i h1
      have h1 : ¬ (k ∈ W ∨ N ≤ k) := fun h => by
        have : (mem k W || Nat.ble N k) = true := by
          simp only [Bool.or_eq_true, mem_iff]
          exact h.imp id Nat.ble_eq_true_of_le
        rw [this] at h1; cases h1
      rw [find_cons, ih]
      by_cases e : key = k
      · subst e; simp [h1]
      · simp [e]
theorem find_append (key : Nat) : ∀ a b : HL, find key (a ++ b) = (find key a).or (find key b)
  | [], b => by simp [find]
  | (k, x) :: a, b => by
    rw [List.cons_append, find_cons, find_cons, find_append key a b]
    by_cases e : key = k <;> simp [e]
theorem find_mem {key : Nat} {b : Blk} : ∀ {h : HL}, find key h = some b → key ∈ h.map (·.1)
  | [], h => by simp [find] at h
  | (k, x) :: r, h => by
    rw [find_cons] at h
    by_cases e : key = k
    · subst e; simp
    · rw [if_neg e] at h; exact List.mem_cons_of_mem _ (find_mem h)
theorem find_some_of_mem {key : Nat} : ∀ {h : HL}, key ∈ h.map (·.1) → ∃ b, find key h = some b
  | [], h => by simp at h
  | (k, x) :: r, h => by
    rw [find_cons]
    by_cases e : key = k
    · subst e; exact ⟨x, by simp⟩
    · rw [if_neg e]
      simp only [List.map_cons, List.mem_cons] at h
      exact find_some_of_mem (h.resolve_left e)

/-! ### The region -/
structure Lf where
  sv : SV
  F : List Nat
  W : List Nat
  upd : HL

/-- The forerunners of each operation, as the bits of a number. -/
def maskOf (ms : List Nat) (es : List Edge) : Nat := es.foldl (fun m e => bif Region.binds .any e then m ||| 2 ^ e.on ||| (ms[e.on]?).getD 0 else m) 0
def masks : List Oper → List Nat → List Nat
  | [], ms => ms
  | o :: os, ms => masks os (ms ++ [maskOf ms o.after.toList])
def ancOf (ms : List Nat) (k j : Nat) : Bool := ((ms[k]?).getD 0).testBit j

structure Rg where
  P : Program
  callT : CallT
  ops : List Oper
  anc : Nat → Nat → Bool
  wr : Nat → Bool
  S : Nat
  s0 : St
def Rg.N (R : Rg) (k : Nat) : Nat := R.s0.H.nxt + k * R.S
def Rg.D (R : Rg) (k : Nat) : Nat → Prop := fun x => R.s0.H.sc x ∨ (∃ j, R.anc k j = true ∧ R.N j ≤ x ∧ x < R.N j + R.S) ∨ R.N k ≤ x
def Rg.scope (R : Rg) (k : Nat) : Nat → Prop := fun x => x < R.N k + R.S ∧ R.D k x

/-- The temporaries that operation 'k' sees. -/
def vt (anc : Nat → Nat → Bool) (k : Nat) (L : LM Lf) : List Oper → Nat → List (Option SV) → List (Option SV)
  | [], _, t => t
  | o :: os, j, t => vt anc k L os (j + 1) (match o.dst with
    | none => t
    | some d => match anc k j, anc j k with
      | true, _ => t.set d ((L j).map (·.sv))
      | false, true => t
      | false, false => t.set d none)
/-- The blocks that lie there when just the chosen operations have run. -/
def vh (sel : Nat → Bool) (L : LM Lf) : Nat → HL → HL
  | 0, h => h
  | j + 1, h => match sel j with
    | true => match L j with
      | some x => x.upd ++ dropAll x.W (vh sel L j h)
      | none => vh sel L j h
    | false => vh sel L j h

def SC.keys : SC → List Nat
  | .ptr key .. => [key]
  | .slc key .. => [key]
  | .ifc _ key .. => [key]
  | .fn _ caps => caps
  | _ => []
def SV.keys : SV → List Nat
  | .c x => x.keys
  | _ => []
def keysT (s : St) (x : Operand) : List Nat := ((evalT s x).map SV.keys).getD []
def foot (wr : Bool) (s : St) (o : Op) : List Nat × List Nat :=
  match o with
  | .load _ x | .nilCheck x | .fieldAddr _ x _ | .indexAddr _ x _ => (keysT s x, [])
  | .store _ x _ => ([], keysT s x)
  | .binOp _ _ x y _ => (keysT s x ++ keysT s y, [])
  | .call c => match c.callee with
    | .builtin .append => match c.args.toList with
      | [x, y] => (keysT s y, keysT s x)
      | _ => ([], [])
    | .builtin _ => ([], [])
    | _ => match wr with
      | true => ((s.H.h.filter fun p => !p.2.isRow).map (·.1), (s.H.h.filter fun p => p.2.isRow).map (·.1))
      | false => (s.H.h.map (·.1), [])
  | _ => ([], [])

def allRows : HL → Bool
  | [] => true
  | (_, b) :: r => b.isRow && allRows r

def Rg.view (R : Rg) (k : Nat) (L : LM Lf) : St := ⟨vt R.anc k L R.ops 0 R.s0.tmps, ⟨vh (R.anc k) L R.ops.length R.s0.H.h, R.N k, R.D k⟩⟩
theorem restr_nil : ∀ h : HL, restr [] [] h = []
  | [] => rfl
  | (k, b) :: r => by simp only [restr, mem]; exact restr_nil r
def restr' : List Nat → List Nat → HL → HL
  | [], [], _ => []
  | F, W, h => restr F W h
theorem restr'_eq (F W : List Nat) (h : HL) : restr' F W h = restr F W h := by
  unfold restr'
  split
  · rw [restr_nil]
  · rfl
def fLf {β : Type 1} (x : Lf) (k : Lf → β) : β := match x with | ⟨sv, F, W, upd⟩ => fSV sv fun sv => fNs F fun F => fNs W fun W => fHL upd fun upd => k ⟨sv, F, W, upd⟩
theorem fLf_eq {β : Type 1} (x : Lf) (k : Lf → β) : fLf x k = k x := by cases x; simp [fLf]
def Rg.TV (R : Rg) (k : Nat) (v : St) : Out Lf :=
  opt (R.ops[k]?) (fun o => (guardT R.ops v o).bind fun
    | false => .leaf ⟨.t [], [], [], []⟩
    | true => fNs (foot (R.wr k) v o.op).1 fun F => fNs (foot (R.wr k) v o.op).2 fun W => fHL (restr' F W v.H.h) fun rv => fN (R.N k) fun N => fNs ((rv.map (·.1)).filter (mem · W)) fun W =>
      (opT R.P R.callT ⟨v.tmps, ⟨rv, N, R.D k⟩⟩ o.op).bind fun r => (splitT (isG R.ops o.dst) r).bind fun r =>
        chk (Nat.ble r.2.nxt (N + R.S) && allRows (newOf N W r.2.h)) (.leaf ⟨r.1, rv.map (·.1), W, newOf N W r.2.h⟩) 240) 241
def Rg.T (R : Rg) (k : Nat) (L : LM Lf) : Out Lf :=
  opt (R.ops[k]?) (fun o => (guardT R.ops (R.view k L) o).bind fun
    | false => .leaf ⟨.t [], [], [], []⟩
    | true =>
      let fw := foot (R.wr k) (R.view k L) o.op
      let rv := restr fw.1 fw.2 (R.view k L).H.h
      let W := (rv.map (·.1)).filter (mem · fw.2)
      (opT R.P R.callT ⟨(R.view k L).tmps, ⟨rv, R.N k, R.D k⟩⟩ o.op).bind fun r => (splitT (isG R.ops o.dst) r).bind fun r =>
        chk (Nat.ble r.2.nxt (R.N k + R.S) && allRows (newOf (R.N k) W r.2.h)) (.leaf ⟨r.1, rv.map (·.1), W, newOf (R.N k) W r.2.h⟩) 240) 241
theorem TV_eq (R : Rg) (k : Nat) (L : LM Lf) : R.TV k (R.view k L) = R.T k L := by
  unfold Rg.TV Rg.T
  simp only [fNs_eq, fHL_eq, fN_eq, restr'_eq]

/-! ### The same by lists -/
def ofL (l : List Lf) : LM Lf := fun j => l[j]?
theorem ofL_snoc (l : List Lf) (x : Lf) : (ofL l).set l.length x = ofL (l ++ [x]) := by
  funext j
  unfold ofL LM.set
  by_cases h : j = l.length
  · subst h; simp
  · rw [if_neg h]
    show l[j]? = (l ++ [x])[j]?
    rcases Nat.lt_or_ge j l.length with h1 | h1
    · rw [List.getElem?_append_left h1]
    · rw [List.getElem?_eq_none h1, List.getElem?_eq_none (by simp; omega)]
def vtL (anc : Nat → Nat → Bool) (k : Nat) : List Lf → List Oper → Nat → List (Option SV) → List (Option SV)
  | _, [], _, t => t
  | l, o :: os, j, t => vtL anc k l.tail os (j + 1) (match o.dst with
    | none => t
    | some d => match anc k j, anc j k with
      | true, _ => t.set d (l.head?.map (·.sv))
      | false, true => t
      | false, false => t.set d none)
theorem vtL_eq (anc : Nat → Nat → Bool) (k : Nat) (l0 : List Lf) : ∀ (os : List Oper) (j : Nat) (t : List (Option SV)), vtL anc k (l0.drop j) os j t = vt anc k (ofL l0) os j t
  | [], j, t => by simp [vtL, vt]
  | o :: os, j, t => by
    have h1 : (l0.drop j).tail = l0.drop (j + 1) := by simp
    have h2 : (l0.drop j).head? = ofL l0 j := by simp [ofL, List.head?_drop]
    simp only [vtL, vt, h1, h2]
    exact vtL_eq anc k l0 os (j + 1) _
def vhL (sel : Nat → Bool) : List Lf → Nat → HL → HL
  | [], _, h => h
  | x :: l, j, h => vhL sel l (j + 1) (match sel j with | true => x.upd ++ dropAll x.W h | false => h)
theorem vhL_eq (sel : Nat → Bool) (l0 : List Lf) (h0 : HL) : ∀ (l : List Lf) (j : Nat), l0.drop j = l → j ≤ l0.length → vhL sel l j (vh sel (ofL l0) j h0) = vh sel (ofL l0) l0.length h0
  | [], j, h, hj => by
    have : l0.length ≤ j := List.drop_eq_nil_iff.1 h
    have : j = l0.length := by omega
    subst this; rfl
  | x :: l, j, h, hj => by
    have hx : l0[j]? = some x := by rw [← List.head?_drop, h]; rfl
    have hlt : j < l0.length := (List.getElem?_eq_some_iff.1 hx).1
    have ht : l0.drop (j + 1) = l := by rw [← List.tail_drop, h]; rfl
    have := vhL_eq sel l0 h0 l (j + 1) ht hlt
    rw [← this]
    simp only [vhL, vh]
    have ho : ofL l0 j = some x := hx
    rw [ho]
theorem vh_more (sel : Nat → Bool) (l0 : List Lf) (h0 : HL) : ∀ m, vh sel (ofL l0) (l0.length + m) h0 = vh sel (ofL l0) l0.length h0
  | 0 => rfl
  | m + 1 => by
    have hn : ofL l0 (l0.length + m) = none := List.getElem?_eq_none (Nat.le_add_right _ _)
    show vh sel (ofL l0) ((l0.length + m) + 1) h0 = _
    simp only [vh, hn]
    rw [vh_more sel l0 h0 m]
    cases sel (l0.length + m) <;> rfl
theorem vhL_view (sel : Nat → Bool) (l0 : List Lf) (h0 : HL) {n : Nat} (hn : l0.length ≤ n) : vhL sel l0 0 h0 = vh sel (ofL l0) n h0 := by
  have h1 := vhL_eq sel l0 h0 l0 0 rfl (Nat.zero_le _)
  have h2 := vh_more sel l0 h0 (n - l0.length)
  rw [show l0.length + (n - l0.length) = n by omega] at h2
  rw [h2, ← h1]
  rfl
def Rg.viewL (R : Rg) (k : Nat) (l : List Lf) : St := ⟨vtL R.anc k l R.ops 0 R.s0.tmps, ⟨vhL (R.anc k) l 0 R.s0.H.h, R.N k, R.D k⟩⟩
theorem viewL_eq (R : Rg) (k : Nat) (l : List Lf) (h : l.length ≤ R.ops.length) : R.viewL k l = R.view k (ofL l) := by
  unfold Rg.viewL Rg.view
  rw [vhL_view (R.anc k) l R.s0.H.h h]
  have := vtL_eq R.anc k l R.ops 0 R.s0.tmps
  rw [List.drop_zero] at this
  rw [this]
def fLfs {β : Type 1} : List Lf → (List Lf → β) → β
  | [], k => k []
  | x :: l, k => fLfs l fun l => k (x :: l)
theorem fLfs_eq {β : Type 1} : ∀ (l : List Lf) (k : List Lf → β), fLfs l k = k l
  | [], k => rfl
  | x :: l, k => by simp only [fLfs, fLfs_eq l]

def disj (a b : List Nat) : Bool := a.all fun x => !(mem x b)
def fits (x y : Lf) : Bool := disj x.W y.F && disj y.W x.F
/-- Nobody who is free to come before or after another touches what the other writes. -/
def compat (anc : Nat → Nat → Bool) (L : LM Lf) (n : Nat) : Bool :=
  (List.range n).all fun j => (List.range j).all fun i => anc j i || (match L i, L j with
    | some x, some y => fits x y
    | _, _ => true)

def callOp : Op → Bool
  | .call c => match c.callee with | .builtin _ => false | _ => true
  | _ => false
def touchOp : Op → Bool
  | .load .. | .nilCheck .. | .fieldAddr .. | .indexAddr .. | .store .. => true
  | .call c => match c.callee with | .builtin .append => true | .builtin _ => false | _ => true
  | _ => false
def writers (anc : Nat → Nat → Bool) (ops : List Oper) (k : Nat) : Bool :=
  match ops[k]? with
  | some o => callOp o.op && (List.range ops.length).all fun j => Nat.beq j k || anc k j || anc j k || !(((ops[j]?).map fun o => touchOp o.op).getD false)
  | none => false
/-- The order of the text is one of the orders; two that lay into one temporary are in order. -/
def edgesOK : List Oper → Nat → Bool
  | [], _ => true
  | o :: os, i => (o.after.toList.all fun e => !(Region.binds .any e) || Nat.blt e.on i) && edgesOK os (i + 1)
def dstsL (anc : Nat → Nat → Bool) : List (Nat × Tmp) → List Oper → Nat → Bool
  | _, [], _ => true
  | prev, o :: os, j => match o.dst with
    | none => dstsL anc prev os (j + 1)
    | some d => (prev.all fun q => !(Nat.beq q.2 d) || anc j q.1) && dstsL anc ((j, d) :: prev) os (j + 1)
def dstsOK (anc : Nat → Nat → Bool) (ops : List Oper) : Bool := dstsL anc [] ops 0
theorem dstsL_h {anc : Nat → Nat → Bool} {t : Nat} : ∀ {os : List Oper} {prev : List (Nat × Tmp)} {j0 : Nat}, dstsL anc prev os j0 = true →
    (∀ i j oj, (i, t) ∈ prev → os[j]? = some oj → oj.dst = some t → anc (j0 + j) i = true) ∧
    (∀ i j oi oj, i < j → os[i]? = some oi → os[j]? = some oj → oi.dst = some t → oj.dst = some t → anc (j0 + j) (j0 + i) = true)
  | [], prev, j0, h => ⟨fun i j oj _ hj => by simp at hj, fun i j oi oj _ hi => by simp at hi⟩
  | o :: os, prev, j0, h => by
    have main : ∀ (pr : List (Nat × Tmp)), dstsL anc pr os (j0 + 1) = true → (∀ x, x ∈ prev → x ∈ pr) → (o.dst = some t → (∀ i, (i, t) ∈ prev → anc j0 i = true) ∧ (j0, t) ∈ pr) →
        (∀ i j oj, (i, t) ∈ prev → (o :: os)[j]? = some oj → oj.dst = some t → anc (j0 + j) i = true) ∧
        (∀ i j oi oj, i < j → (o :: os)[i]? = some oi → (o :: os)[j]? = some oj → oi.dst = some t → oj.dst = some t → anc (j0 + j) (j0 + i) = true) := by
      intro pr hpr hsub hd
      obtain ⟨h1, h2⟩ := dstsL_h (t := t) hpr
      constructor
      · intro i j oj hi hj hdj
        cases j with
        | zero => simp at hj; subst hj; exact (hd hdj).1 i hi
        | succ j =>
          have := h1 i j oj (hsub _ hi) (by simpa using hj) hdj
          rw [show j0 + (j + 1) = j0 + 1 + j by omega]; exact this
      · intro i j oi oj hij hi hj hdi hdj
        cases j with
        | zero => omega
        | succ j =>
          rw [show j0 + (j + 1) = j0 + 1 + j by omega]
          cases i with
          | zero => simp at hi; subst hi; exact h1 j0 j oj (hd hdi).2 (by simpa using hj) hdj
          | succ i =>
            rw [show j0 + (i + 1) = j0 + 1 + i by omega]
            exact h2 i j oi oj (by omega) (by simpa using hi) (by simpa using hj) hdi hdj
    simp only [dstsL] at h
    cases hd : o.dst with
    | none =>
      rw [hd] at h
      exact main prev h (fun x hx => hx) (fun hh => by rw [hd] at hh; cases hh)
    | some d =>
      rw [hd] at h
      simp only [Bool.and_eq_true, List.all_eq_true] at h
      refine main _ h.2 (fun x hx => List.mem_cons_of_mem _ hx) (fun hh => ?_)
      rw [hd] at hh; cases hh
      refine ⟨fun i hi => ?_, List.mem_cons_self⟩
      have := h.1 _ hi
      simpa [Nat.beq_refl] using this

def resT (T : Nat → LM Lf → Out Lf) : (todo i : Nat) → LM Lf → Out (LM Lf)
  | 0, _, L => .leaf L
  | m + 1, i, L => (T i L).bind fun x => resT T m (i + 1) (L.set i x)
def resTL (T : Nat → List Lf → Out Lf) : (todo i : Nat) → List Lf → Out (List Lf)
  | 0, _, l => .leaf l
  | m + 1, i, l => (T i l).bind fun x => fLf x fun x => fLfs (l ++ [x]) fun l => fN (Nat.succ i) fun i => resTL T m i l
theorem resTL_eq {R : Rg} {K : LM Lf → Prop} : ∀ (m i : Nat) (l : List Lf), l.length = i → i + m = R.ops.length → (resTL (fun k l => R.TV k (R.viewL k l)) m i l).holds (fun l => l.length = R.ops.length → K (ofL l)) → (resT R.T m i (ofL l)).holds K
  | 0, i, l, hl, hm, h => h (by omega)
  | m + 1, i, l, hl, hm, h => by
    simp only [resTL, fLf_eq, fLfs_eq, fN_eq] at h
    simp only [resT]
    rw [viewL_eq R i l (by omega), TV_eq, Out.holds_bind] at h
    rw [Out.holds_bind]
    refine Out.holds_mono _ (fun x hx => ?_) h
    have := resTL_eq m (i + 1) (l ++ [x]) (by simp [hl]) (by omega) hx
    rw [← ofL_snoc, hl] at this
    exact this

def drawT (P : Program) (callT : CallT) (S : Nat) (ops : List Oper) (s : St) : Out St :=
  fNs (masks ops []) fun ms =>
  let anc := ancOf ms
  let R : Rg := ⟨P, callT, ops, anc, writers anc ops, S, s⟩
  chk (P.follows .mixedOrders && edgesOK ops 0 && dstsOK anc ops) ((resTL (fun k l => R.TV k (R.viewL k l)) ops.length 0 []).bind fun l =>
    chk (compat anc (ofL l) ops.length) (fTm (vtL (fun _ _ => true) ops.length l ops 0 s.tmps) fun t => fHL (vhL (fun _ => true) l 0 s.H.h) fun h => fN (s.H.nxt + ops.length * S) fun nxt => .leaf ⟨t, ⟨h, nxt, s.H.D⟩⟩) 243) 242

theorem resT_res {T : Nat → LM Lf → Out Lf} {QF : LM Lf → Prop} : ∀ (m i : Nat) (L : LM Lf), (resT T m i L).holds QF → res T QF (List.range' i m) L
  | 0, i, L, h => h
  | m + 1, i, L, h => by
    simp only [resT, Out.holds_bind] at h
    rw [List.range'_succ]
    exact Out.holds_mono _ (fun x hx => resT_res m (i + 1) _ hx) h

/-! ### Forerunners -/
theorem maskOf_bit (ms : List Nat) (es : List Edge) (j : Nat) : (maskOf ms es).testBit j = true ↔ ∃ e ∈ es, Region.binds .any e = true ∧ (e.on = j ∨ ((ms[e.on]?).getD 0).testBit j = true) := by
  unfold maskOf
  suffices h : ∀ (es : List Edge) (m : Nat), (es.foldl (fun m e => bif Region.binds .any e then m ||| 2 ^ e.on ||| (ms[e.on]?).getD 0 else m) m).testBit j = true ↔ m.testBit j = true ∨ ∃ e ∈ es, Region.binds .any e = true ∧ (e.on = j ∨ ((ms[e.on]?).getD 0).testBit j = true) by
    simpa using h es 0
  intro es
  induction es with
  | nil => intro m; simp
  | cons e es ih =>
    intro m
    rw [List.foldl_cons, ih]
    cases hb : Region.binds .any e with
    | false => simp [hb]
    | true =>
      simp only [cond_true, Nat.testBit_or, Bool.or_eq_true, Nat.testBit_two_pow, decide_eq_true_eq, List.mem_cons, exists_eq_or_imp, hb, true_and]
      constructor
      · rintro (((h | h) | h) | h)
        · exact .inl h
        · exact .inr (.inl (.inl h))
        · exact .inr (.inl (.inr h))
        · exact .inr (.inr h)
      · rintro (h | (h | h) | h)
        · exact .inl (.inl (.inl h))
        · exact .inl (.inl (.inr h))
        · exact .inl (.inr h)
        · exact .inr h

/-- What the forerunners are: directly, or through another. -/
structure AncOK (ops : List Oper) (anc : Nat → Nat → Bool) : Prop where
  dir : ∀ (i : Nat) o j, ops[i]? = some o → (anc i j = true ↔ ∃ e ∈ o.after.toList, Region.binds .any e = true ∧ (e.on = j ∨ anc e.on j = true))
  out : ∀ i j, ops.length ≤ i → anc i j = false
theorem masks_len : ∀ (os : List Oper) (ms : List Nat), (masks os ms).length = ms.length + os.length
  | [], ms => by simp [masks]
  | o :: os, ms => by simp [masks, masks_len os]; omega
theorem masks_old : ∀ (os : List Oper) (ms : List Nat) (i : Nat), i < ms.length → (masks os ms)[i]? = ms[i]?
  | [], ms, i, hi => rfl
  | o :: os, ms, i, hi => by
    simp only [masks]
    rw [masks_old os _ i (by simp; omega), List.getElem?_append_left hi]
theorem masks_at : ∀ (os : List Oper) (ms : List Nat) (i : Nat) (o : Oper), os[i]? = some o → ∃ pre : List Nat, (∀ k, k < ms.length + i → pre[k]? = (masks os ms)[k]?) ∧ pre.length = ms.length + i ∧ (masks os ms)[ms.length + i]? = some (maskOf pre o.after.toList)
  | [], ms, i, o, h => by simp at h
  | x :: os, ms, i, o, h => by
    cases i with
    | zero =>
      simp at h; subst h
      refine ⟨ms, fun k hk => ?_, by simp, ?_⟩
      · simp only [masks]; rw [masks_old os _ k (by simp; omega), List.getElem?_append_left (by omega)]
      · simp only [masks, Nat.add_zero]; rw [masks_old os _ _ (by simp)]; simp
    | succ i =>
      obtain ⟨pre, h1, h2, h3⟩ := masks_at os (ms ++ [maskOf ms x.after.toList]) i o (by simpa using h)
      simp only [List.length_append, List.length_singleton] at h1 h2 h3
      refine ⟨pre, fun k hk => h1 k (by omega), by omega, ?_⟩
      simp only [masks]
      rw [← h3]; congr 1; omega
theorem edgesOK_h : ∀ {ops : List Oper} {i0 : Nat}, edgesOK ops i0 = true → ∀ (i : Nat) o, ops[i]? = some o → ∀ e ∈ o.after.toList, Region.binds .any e = true → e.on < i0 + i
  | [], i0, _, i, o, h => by simp at h
  | x :: ops, i0, hk, i, o, h => by
    simp only [edgesOK, Bool.and_eq_true, List.all_eq_true] at hk
    intro e he hb
    cases i with
    | zero =>
      simp at h; subst h
      have := hk.1 e he
      simp only [hb, Bool.not_true, Bool.false_or] at this
      exact Nat.lt_of_succ_le (Nat.le_of_ble_eq_true this)
    | succ i =>
      have := edgesOK_h hk.2 i o (by simpa using h) e he hb
      omega
theorem anc_ok {ops : List Oper} (hk : edgesOK ops 0 = true) : AncOK ops (ancOf (masks ops [])) := by
  refine ⟨fun i o j ho => ?_, fun i j hi => ?_⟩
  · obtain ⟨pre, h1, h2, h3⟩ := masks_at ops [] i o ho
    simp only [List.length_nil, Nat.zero_add] at h1 h2 h3
    unfold ancOf
    rw [h3, Option.getD_some, maskOf_bit]
    constructor
    · rintro ⟨e, he, hb, h⟩
      refine ⟨e, he, hb, ?_⟩
      have hlt := edgesOK_h hk i o ho e he hb
      rw [← h1 e.on (by omega)]; exact h
    · rintro ⟨e, he, hb, h⟩
      refine ⟨e, he, hb, ?_⟩
      have hlt := edgesOK_h hk i o ho e he hb
      rw [h1 e.on (by omega)]; exact h
  · unfold ancOf
    rw [List.getElem?_eq_none (by rw [masks_len]; simpa using hi)]
    simp
theorem AncOK.lt {ops : List Oper} {anc : Nat → Nat → Bool} (h : AncOK ops anc) (hk : edgesOK ops 0 = true) : ∀ (k j : Nat), anc k j = true → j < k := by
  intro k
  induction k using Nat.strongRecOn with
  | _ k ih =>
    intro j hj
    rcases Nat.lt_or_ge k ops.length with hkl | hkl
    · obtain ⟨e, he, hb, hor⟩ := (h.dir k ops[k] j (List.getElem?_eq_getElem hkl)).1 hj
      have hlt := edgesOK_h hk k _ (List.getElem?_eq_getElem hkl) e he hb
      rcases hor with rfl | hor
      · omega
      · have := ih e.on (by omega) j hor; omega
    · rw [h.out k j hkl] at hj; cases hj
theorem AncOK.trans {ops : List Oper} {anc : Nat → Nat → Bool} (h : AncOK ops anc) (hk : edgesOK ops 0 = true) : ∀ (k i j : Nat), anc k i = true → anc i j = true → anc k j = true := by
  intro k
  induction k using Nat.strongRecOn with
  | _ k ih =>
    intro i j hi hj
    rcases Nat.lt_or_ge k ops.length with hkl | hkl
    · obtain ⟨e, he, hb, hor⟩ := (h.dir k ops[k] i (List.getElem?_eq_getElem hkl)).1 hi
      have hlt := edgesOK_h hk k _ (List.getElem?_eq_getElem hkl) e he hb
      refine (h.dir k ops[k] j (List.getElem?_eq_getElem hkl)).2 ⟨e, he, hb, .inr ?_⟩
      rcases hor with rfl | hor
      · exact hj
      · exact ih e.on (by omega) i j hor hj
    · rw [h.out k i hkl] at hi; cases hi
end Go.Proofs.Ytjpnpaboahbncaa.Sx
