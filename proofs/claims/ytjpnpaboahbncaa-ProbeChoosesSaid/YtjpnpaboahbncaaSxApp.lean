/- append of the symbolic executor. -/
import Derived.Test.YtjpnpaboahbncaaSxOps4
import Derived.Maps.AppendAt
set_option linter.unusedVariables false
set_option linter.unusedSimpArgs false
namespace Go.Proofs.Ytjpnpaboahbncaa.Sx
open Go Go.RowKit

/-! ### The model's append, all cases in one -/
theorem app_core {P : Program} (w : World) (t ty el : TypeId) (inf : TypeInfo) (z : Value) (hu : P.underlying t = some (.slice el)) (hi : P.info? el = some inf) (hz : inf.zero = some z) (hzs : z.cells.size = inf.size) (hsz : 0 < inf.size)
    (base : Option Addr) (n cap : Nat) (olds : List Value) (row : Option Nat)
    (hold : (row = none ∧ n = 0 ∧ cap = 0 ∧ olds = []) ∨ ∃ g arr, row = some g ∧ base = some ⟨g, 0, none⟩ ∧ w.heap[g]? = some (.cells arr el (0, 0)) ∧ arr.size = cap * inf.size ∧ n ≤ cap ∧ cap ≤ maxLen ∧ olds = arr.toList.take (n * inf.size))
    (xb : Option Addr) (m c : Nat) (news : List Value) (hl : news.length = m * inf.size) (hx : m = 0 ∨ ∃ a, xb = some a ∧ ∀ j u, news[j]? = some u → w.cell? (a.add j) = some u) (h1 : ∀ u ∈ news, u.oneCell' = true)
    (h63 : n + m ≤ maxLen) (hbytes : (n + m) * inf.bytes ≤ 140737488355328) :
    ∃ base' cap' w', (Builtin.append_ #[t, t] ty #[.slice base n cap, .slice xb m c]).run P w = .ok (.slice base' (n + m) cap') w' ∧ w.grownBy w' row ∧ n + m ≤ cap' ∧
      ((cap' = 0 ∧ base' = base) ∨ ∃ g cur, base' = some ⟨g, 0, none⟩ ∧ w'.heap[g]? = some (.cells cur el (0, 0)) ∧ cap' ≤ maxLen ∧ cur.size = cap' * inf.size ∧ cur.toList.take ((n + m) * inf.size) = olds ++ news ∧ (row = some g ∨ g = w.heap.size)) := by
  rcases Nat.eq_zero_or_pos m with h0 | hm
  · subst h0
    have hn : news = [] := List.eq_nil_of_length_eq_zero (by simpa using hl)
    subst hn
    have hnc : n ≤ cap := by rcases hold with ⟨_, h, h', _⟩ | ⟨_, _, _, _, _, _, h, _⟩ <;> omega
    refine ⟨base, cap, w, ?_, ⟨rfl, rfl, rfl, Nat.le_refl _, fun _ _ _ => rfl⟩, by omega, ?_⟩
    · cases base <;> cases xb <;> simp [Builtin.append_, run_underlying hu, sizeOf, typeInfo, hi, Builtin.lenOf, hnc, Builtin.firstCells, loadCells, loadCellsFrom, storeCells]
    · rcases hold with ⟨_, rfl, rfl, _⟩ | ⟨g, arr, h2, h3, h4, h5, h6, h7, h8⟩
      · exact .inl ⟨rfl, rfl⟩
      · exact .inr ⟨g, arr, h3, h4, h7, h5, by rw [h8]; simp, .inl h2⟩
  · rcases hx with hx | ⟨a, rfl, hnews⟩
    · omega
    rcases hold with ⟨rfl, rfl, rfl, rfl⟩ | ⟨g, arr, rfl, rfl, h4, h5, h6, h7, rfl⟩
    · cases base with
      | none =>
        obtain ⟨v', w', hr, ⟨_, ho⟩, hg, _, hat⟩ := run_append_own_at (P := P) w 0 t ty el inf z inf.size inf.bytes hu hi hz rfl rfl hzs hsz (.slice none 0 0) 0 [] (World.ownsRow_nil w 0 el inf.size) a m c news hl hnews h1 h63 hbytes (Nat.zero_le _)
        rcases ho with ⟨_, ho⟩ | ⟨g, cap', cur, rfl, _, k1, k2, k3, k4, k5⟩
        · omega
        · refine ⟨_, cap', w', hr, hg, k2, .inr ⟨g, cur, rfl, k1, k3, k4, k5, ?_⟩⟩
          rcases hat with hat | hat
          · simp [Value.ownBlock] at hat
          · simp [Value.ownBlock] at hat; exact .inr hat
      | some b =>
        have hb : (0 + m) * inf.bytes ≤ 140737488355328 := hbytes
        have hr := run_append_grow (P := P) w t ty el inf z hu hi hz b 0 0 [] (by simp) (by simp) a m c news hl hnews (by omega) (by simp only [maxLen] at h63; omega) (growslice_fits (by omega) hb)
        refine ⟨_, _, _, hr, ⟨rfl, rfl, rfl, by simp, fun k hk _ => heap_alloc_old w.drew _ hk⟩, grownCap_ge _ _ _ _, .inr ⟨w.heap.size, _, rfl, heap_alloc_new w.drew _, grownCap_le_maxLen _ _ _ _ h63, ?_, ?_, .inr rfl⟩⟩
        · have := grownCap_ge w (0 + m) 0 el
          simp only [Nat.zero_add] at this
          simp only [Array.size_append, List.size_toArray, size_zeroCells, hzs, hl, List.length_nil, Nat.zero_add]
          rw [← Nat.add_mul]
          congr 1
          omega
        · simp only [List.nil_append, Array.toList_append]
          rw [show (0 + m) * inf.size = news.length by rw [hl, Nat.zero_add]]
          simp
    · have hown : w.ownsRow 0 el inf.size (.slice (some ⟨g, 0, none⟩) n cap) n (arr.toList.take (n * inf.size)) := by
        refine ⟨?_, .inr ⟨g, cap, arr, rfl, Nat.zero_le _, h4, h6, h7, h5, rfl⟩⟩
        rw [List.length_take, Array.length_toList, h5]
        exact Nat.min_eq_left (Nat.mul_le_mul_right _ h6)
      obtain ⟨v', w', hr, ⟨_, ho⟩, hg, _, hat⟩ := run_append_own_at (P := P) w 0 t ty el inf z inf.size inf.bytes hu hi hz rfl rfl hzs hsz _ n _ hown a m c news hl hnews h1 h63 hbytes (Nat.zero_le _)
      rcases ho with ⟨_, ho⟩ | ⟨g', cap', cur, rfl, _, k1, k2, k3, k4, k5⟩
      · omega
      · refine ⟨_, cap', w', hr, hg, k2, .inr ⟨g', cur, rfl, k1, k3, k4, k5, ?_⟩⟩
        rcases hat with hat | hat
        · simp [Value.ownBlock] at hat; exact .inl (by rw [hat])
        · simp [Value.ownBlock] at hat; exact .inr hat

/-! ### A new name for a row that has grown -/
def Rho.put (ρ : Rho) (k : Nat) (g : Option (Nat × Nat)) : Rho := fun k' i => if k' = k then (if i = 0 then g else none) else ρ k' i
theorem Rho.put_agree (ρ : Rho) {k : Nat} {n : Nat → Prop} (hn : ∀ j, n j → j < k) (g : Option (Nat × Nat)) : Agree n ρ (ρ.put k g) := fun k' hk => by
  have := hn k' hk
  funext i; simp only [Rho.put]; rw [if_neg (by omega)]
theorem Rho.put_at (ρ : Rho) (k : Nat) (g : Option (Nat × Nat)) : ρ.put k g k 0 = g := by simp [Rho.put]

theorem HInv.regrow {φ : Fr} {ρ : Rho} {H : Hp} {w w' : World} (h : HInv φ ρ H w) {row : Option Nat} (hrow : ∀ y, row = some y → φ.may y) (hg : w.grownBy w' row) {h0 : HL}
    (hsub : ∀ k b, find k h0 = some b → ∃ b0, find k H.h = some b0 ∧ (∀ i, b.live i → b0.live i) ∧ (b.isRow = true → b0.isRow = true) ∧ b.sat H.sc ρ k w ∧ ∀ i, b.live i → ∀ y o, ρ k i = some (y, o) → row ≠ some y)
    (g : Option (Nat × Nat)) (b : Blk) (hb0 : ∀ i, b.live i → i = 0) (hgn : b.live 0 → ∀ y o, g = some (y, o) → y < w'.heap.size) (hgb : b.live 0 → ∀ y o, g = some (y, o) → row = some y ∨ w.heap.size ≤ y)
    (hs : b.sat (Hp.sc ⟨(H.nxt, b) :: h0, H.nxt + 1, H.D⟩) (ρ.put H.nxt g) H.nxt w') :
    HInv φ (ρ.put H.nxt g) ⟨(H.nxt, b) :: h0, H.nxt + 1, H.D⟩ w' := by
  have hag : Agree H.sc ρ (ρ.put H.nxt g) := ρ.put_agree (fun _ hj => hj.1) g
  have hsc : ∀ k, H.sc k → Hp.sc ⟨(H.nxt, b) :: h0, H.nxt + 1, H.D⟩ k := fun k hk => ⟨Nat.lt_succ_of_lt hk.1, hk.2⟩
  have hlt : ∀ k c, find k h0 = some c → H.sc k := fun k c hk => let ⟨b0, h1, _⟩ := hsub k c hk; h.lt k b0 h1
  have hbd : ∀ k c, find k h0 = some c → ∀ i, c.live i → ∀ y o, ρ k i = some (y, o) → y < w.heap.size := fun k c hk i hi y o hy =>
    let ⟨b0, h1, h2, _⟩ := hsub k c hk; h.bd k b0 h1 i (h2 i hi) y o hy
  refine ⟨?_, fun k hk => h.up k (Nat.le_of_succ_le hk), ?_, ?_, ?_, ?_, ?_⟩
  · refine ⟨hg.os.trans h.fr.os, hg.tape.trans h.fr.tape, hg.output.trans h.fr.output, Nat.le_trans h.fr.size hg.size, fun x hx hn => ?_⟩
    have hxw : x < w.heap.size := Nat.lt_of_lt_of_le hx h.fr.size
    rw [hg.block x hxw ?_]
    · exact h.fr.block x hx hn
    · intro e
      rcases hrow x e.symm with h1 | h1
      · exact hn h1
      · omega
  · intro k c hk
    rw [find_cons] at hk
    split at hk
    · rename_i e; subst e; exact ⟨Nat.lt_succ_self _, h.up _ (Nat.le_refl _)⟩
    · exact hsc k (hlt k c hk)
  · intro k c hk
    rw [find_cons] at hk
    split at hk
    · rename_i e; cases hk; subst e; exact hs
    · obtain ⟨b0, h1, h2, h3, h4, h5⟩ := hsub k c hk
      refine Blk.sat_ext (n := H.sc) (ρ := ρ) (Blk.sat_world h4 ?_) hag hsc (hlt k c hk)
      intro i hi y o hy
      exact hg.block y (hbd k c hk i hi y o hy) (fun e => h5 i hi y o hy e.symm)
  · intro k c hk i hi y o hy
    rw [find_cons] at hk
    split at hk
    · rename_i e; cases hk; subst e
      have := hb0 i hi; subst this
      rw [Rho.put_at] at hy
      exact hgn hi y o hy
    · rename_i e
      simp only [Rho.put, if_neg e] at hy
      exact Nat.lt_of_lt_of_le (hbd k c hk i hi y o hy) hg.size
  · intro k c hk hr i hi y o hy
    rw [find_cons] at hk
    split at hk
    · rename_i e; cases hk; subst e
      have := hb0 i hi; subst this
      rw [Rho.put_at] at hy
      rcases hgb hi y o hy with h1 | h1
      · exact hrow y h1
      · exact .inr (Nat.le_trans h.fr.size h1)
    · rename_i e
      simp only [Rho.put, if_neg e] at hy
      obtain ⟨b0, h1, h2, h3, _⟩ := hsub k c hk
      exact h.may k b0 h1 (h3 hr) i (h2 i hi) y o hy
  · intro k c hk hr k' c' hk' hne j i hj hi y o y' o' hy hy'
    rw [find_cons] at hk hk'
    split at hk
    · rename_i e; cases hk; subst e
      rw [if_neg hne] at hk'
      have := hb0 j hj; subst this
      rw [Rho.put_at] at hy
      simp only [Rho.put, if_neg hne] at hy'
      rcases hgb hj y o hy with h1 | h1
      · obtain ⟨b0, _, _, _, _, h5⟩ := hsub k' c' hk'
        rintro rfl
        exact h5 i hi y' o' hy' h1
      · have := hbd k' c' hk' i hi y' o' hy'
        omega
    · rename_i e
      simp only [Rho.put, if_neg e] at hy
      split at hk'
      · rename_i e'; cases hk'; subst e'
        have := hb0 i hi; subst this
        rw [Rho.put_at] at hy'
        rcases hgb hi y' o' hy' with h1 | h1
        · obtain ⟨b0, _, _, _, _, h5⟩ := hsub k c hk
          rintro rfl
          exact h5 j hj y' o hy h1
        · have := hbd k c hk j hj y o hy
          omega
      · rename_i e'
        simp only [Rho.put, if_neg e'] at hy'
        obtain ⟨b0, h1, h2, h3, _⟩ := hsub k c hk
        obtain ⟨b0', h1', h2', _⟩ := hsub k' c' hk'
        exact h.sep k b0 h1 (h3 hr) k' b0' h1' hne j i (h2 j hj) (h2' i hi) y o y' o' hy hy'

/-! ### What columns say of a list of values -/
def Desc (m : Nat → Prop) (ρ : Rho) (n : Nat) (cols : List Col) (vs : List Value) : Prop :=
  ∀ e, e < n → ∀ (f : Nat) (col : Col) c, cols[f]? = some col → col.get 0 e = some c → ∃ v, vs[e * cols.length + f]? = some v ∧ CIs m ρ c v

/-- One instance of a family's columns. -/
def Col.inst (i : Nat) : Col → Col
  | .ci k g => .ci k fun _ e => g i e
  | .cb g => .cb fun _ e => g i e
  | .cs key sz ix len cap => .cs key sz (fun _ e => ix i e) (fun _ e => len i e) (fun _ e => cap i e)
  | .cp key ix f sz => .cp key (fun _ e => ix i e) f sz
  | .cf t key ix f sz => .cf t key (fun _ e => ix i e) f sz
  | .ck l => .ck l
  | .cu => .cu
  | .cc c => .cc c
  | .ov _ _ _ _ => .cu
theorem Col.inst_get {i : Nat} {col : Col} {e : Nat} {c : SC} (h : (col.inst i).get 0 e = some c) : col.get i e = some c := by
  cases col <;> first | exact h | (simp [Col.inst, Col.get] at h)
/-- The columns of elements from 'e2' on. -/
def Col.shift (i e2 : Nat) : Col → Option Col
  | .ci k g => some (.ci k fun _ e => g i (e2 + e))
  | .cb g => some (.cb fun _ e => g i (e2 + e))
  | .cs key sz ix len cap => some (.cs key sz (fun _ e => ix i (e2 + e)) (fun _ e => len i (e2 + e)) (fun _ e => cap i (e2 + e)))
  | .cp key ix f sz => some (.cp key (fun _ e => ix i (e2 + e)) f sz)
  | .cf t key ix f sz => some (.cf t key (fun _ e => ix i (e2 + e)) f sz)
  | .cc c => some (.cc c)
  | _ => none
theorem Col.shift_get {i e2 : Nat} {col col' : Col} (h : col.shift i e2 = some col') (e : Nat) : ∃ c, col'.get 0 e = some c ∧ col.get i (e2 + e) = some c := by
  cases col <;> simp only [Col.shift] at h <;> cases h <;> exact ⟨_, rfl, rfl⟩
def shiftCols (i e2 : Nat) : List Col → Option (List Col)
  | [] => some []
  | c :: l => match c.shift i e2, shiftCols i e2 l with
    | some x, some y => some (x :: y)
    | _, _ => none
theorem shiftCols_get {i e2 : Nat} : ∀ {l l' : List Col}, shiftCols i e2 l = some l' → l'.length = l.length ∧ ∀ (f : Nat) col', l'[f]? = some col' → ∃ col, l[f]? = some col ∧ col.shift i e2 = some col'
  | [], l', h => by simp [shiftCols] at h; subst h; exact ⟨rfl, fun f col hf => by simp at hf⟩
  | c :: l, l', h => by
    simp only [shiftCols] at h
    split at h
    · rename_i x y h1 h2
      cases h
      obtain ⟨g1, g2⟩ := shiftCols_get h2
      refine ⟨by simp [g1], fun f col hf => ?_⟩
      cases f with
      | zero => simp at hf; subst hf; exact ⟨c, rfl, h1⟩
      | succ f => simpa using g2 f col (by simpa using hf)
    · cases h

def putL : NV → Col → List SC → Option Col
  | _, col, [] => some col
  | n, col, c :: l => (col.set true (.k 0) n c).bind fun col' => putL (n.add (.k 1)) col' l
theorem putL_get : ∀ {l : List SC} {n : NV} {col col' : Col}, putL n col l = some col' → ∀ (e : Nat) d, col'.get 0 e = some d → (e < n.v → col.get 0 e = some d) ∧ (∀ (j : Nat) x, l[j]? = some x → e = n.v + j → ∀ ρ, d.den ρ = x.den ρ)
  | [], n, col, col', h, e, d, hd => by simp [putL] at h; subst h; exact ⟨fun _ => hd, fun j x hx => by simp at hx⟩
  | c :: l, n, col, col', h, e, d, hd => by
    simp only [putL, Option.bind_eq_some_iff] at h
    obtain ⟨col1, h1, h2⟩ := h
    obtain ⟨g1, g2⟩ := putL_get h2 e d hd
    simp only [NV.v_add, NV.v_k] at g1 g2
    refine ⟨fun he => ?_, fun j x hx hej => ?_⟩
    · exact (Col.get_set h1 (fun _ => rfl) 0 e (fun _ => rfl) d (g1 (by omega))).2 (fun h => by omega)
    · cases j with
      | zero =>
        simp at hx; subst hx
        exact (Col.get_set h1 (fun _ => rfl) 0 e (fun _ => rfl) d (g1 (by omega))).1 ⟨rfl, by omega⟩
      | succ j => exact g2 j x (by simpa using hx) (by omega)

def catLit (n m : NV) (col : Col) (l : List SC) : Option Col := match m with
  | .k j => bif Nat.beq j l.length then putL n col l else none
  | .s _ => none
def catCol (n m : NV) : Col → Col → Option Col
  | .cu, _ => some .cu
  | col, .ck l => catLit n m col l
  | .ci k g, .ci k' g' => bif sameKind k k' then some (.ci k fun _ e => if e < n.v then g 0 e else g' 0 (e - n.v)) else none
  | .cb g, .cb g' => some (.cb fun _ e => if e < n.v then g 0 e else g' 0 (e - n.v))
  | _, .cu => some .cu
  | _, _ => none
theorem catCol_get {n m : NV} {a b c : Col} (h : catCol n m a b = some c) (e : Nat) (d : SC) (hd : c.get 0 e = some d) :
    (e < n.v → a.get 0 e = some d) ∧ (n.v ≤ e → e < n.v + m.v → ∃ x, b.get 0 (e - n.v) = some x ∧ ∀ ρ, d.den ρ = x.den ρ) := by
  have put : ∀ l, b = .ck l → catLit n m a l = some c → (e < n.v → a.get 0 e = some d) ∧ (n.v ≤ e → e < n.v + m.v → ∃ x, b.get 0 (e - n.v) = some x ∧ ∀ ρ, d.den ρ = x.den ρ) := by
    rintro l rfl h
    unfold catLit at h
    cases m with
    | s j => cases h
    | k j =>
      simp only at h
      by_cases hb : Nat.beq j l.length = true
      · rw [hb] at h
        have hb := Nat.eq_of_beq_eq_true hb
        obtain ⟨g1, g2⟩ := putL_get (l := l) h e d hd
        refine ⟨g1, fun h1 h2 => ?_⟩
        simp only [NV.v_k] at h2
        obtain ⟨x, hx⟩ : ∃ x, l[e - n.v]? = some x := ⟨_, List.getElem?_eq_getElem (by omega)⟩
        exact ⟨x, hx, g2 (e - n.v) x hx (by omega)⟩
      · rw [Bool.eq_false_iff.2 hb] at h; cases h
  have fn : ∀ (k : IntKind) (g g' : Nat → Nat → Int), a = .ci k g → b = .ci k g' → c = .ci k (fun _ e => if e < n.v then g 0 e else g' 0 (e - n.v)) → (e < n.v → a.get 0 e = some d) ∧ (n.v ≤ e → e < n.v + m.v → ∃ x, b.get 0 (e - n.v) = some x ∧ ∀ ρ, d.den ρ = x.den ρ) := by
    rintro k g g' rfl rfl rfl
    simp only [Col.get, Option.some.injEq] at hd ⊢
    subst hd
    exact ⟨fun h => by rw [if_pos h], fun h1 _ => ⟨_, rfl, fun ρ => by rw [if_neg (by omega)]⟩⟩
  have fb : ∀ (g g' : Nat → Nat → Bool), a = .cb g → b = .cb g' → c = .cb (fun _ e => if e < n.v then g 0 e else g' 0 (e - n.v)) → (e < n.v → a.get 0 e = some d) ∧ (n.v ≤ e → e < n.v + m.v → ∃ x, b.get 0 (e - n.v) = some x ∧ ∀ ρ, d.den ρ = x.den ρ) := by
    rintro g g' rfl rfl rfl
    simp only [Col.get, Option.some.injEq] at hd ⊢
    subst hd
    exact ⟨fun h => by rw [if_pos h], fun h1 _ => ⟨_, rfl, fun ρ => by rw [if_neg (by omega)]⟩⟩
  cases b with
  | ck l =>
    cases a with
    | cu => cases h; simp [Col.get] at hd
    | _ => exact put _ rfl h
  | cu => cases a <;> (simp only [catCol, Option.some.injEq] at h; subst h; simp [Col.get] at hd)
  | ci k' g' =>
    cases a with
    | cu => cases h; simp [Col.get] at hd
    | ci k g =>
      simp only [catCol] at h
      by_cases hk : sameKind k k' = true
      · have := sameKind_eq hk; subst this
        rw [hk] at h
        cases h
        exact fn _ _ _ rfl rfl rfl
      · rw [Bool.eq_false_iff.2 hk] at h; cases h
    | _ => cases h
  | cb g' =>
    cases a with
    | cu => cases h; simp [Col.get] at hd
    | cb g => cases h; exact fb _ _ rfl rfl rfl
    | _ => cases h
  | _ =>
    cases a with
    | cu => cases h; simp [Col.get] at hd
    | _ => cases h
def catCols (n m : NV) : List Col → List Col → Option (List Col)
  | [], [] => some []
  | a :: l, b :: l' => match catCol n m a b, catCols n m l l' with
    | some x, some y => some (x :: y)
    | _, _ => none
  | _, _ => none
theorem catCols_get {n m : NV} : ∀ {a b c : List Col}, catCols n m a b = some c → c.length = a.length ∧ b.length = a.length ∧ ∀ (f : Nat) z, c[f]? = some z → ∃ x y, a[f]? = some x ∧ b[f]? = some y ∧ catCol n m x y = some z
  | [], [], c, h => by simp [catCols] at h; subst h; exact ⟨rfl, rfl, fun f z hz => by simp at hz⟩
  | [], _ :: _, c, h => by simp [catCols] at h
  | _ :: _, [], c, h => by simp [catCols] at h
  | x :: a, y :: b, c, h => by
    simp only [catCols] at h
    split at h
    · rename_i z t h1 h2
      cases h
      obtain ⟨g1, g2, g3⟩ := catCols_get h2
      refine ⟨by simp [g1], by simp [g2], fun f z' hz => ?_⟩
      cases f with
      | zero => simp at hz; subst hz; exact ⟨x, y, rfl, rfl, h1⟩
      | succ f => simpa using g3 f z' (by simpa using hz)
    · cases h
theorem Desc.cat {p : Nat → Prop} {ρ : Rho} {n m : NV} {a b c : List Col} {olds news : List Value} (h : catCols n m a b = some c) (ha : Desc p ρ n.v a olds) (hb : Desc p ρ m.v b news) (hl : olds.length = n.v * a.length) : Desc p ρ (n.v + m.v) c (olds ++ news) := by
  obtain ⟨g1, g2, g3⟩ := catCols_get h
  intro e he f col d hf hd
  obtain ⟨x, y, hx, hy, hz⟩ := g3 f col hf
  obtain ⟨k1, k2⟩ := catCol_get hz e d hd
  have hfl : f < a.length := (List.getElem?_eq_some_iff.1 hx).1
  rw [g1]
  rcases Nat.lt_or_ge e n.v with h1 | h1
  · obtain ⟨v, hv, hi⟩ := ha e h1 f x d hx (k1 h1)
    have hin := (List.getElem?_eq_some_iff.1 hv).1
    exact ⟨v, by rw [List.getElem?_append_left hin]; exact hv, hi⟩
  · obtain ⟨u, hu, hden⟩ := k2 h1 he
    obtain ⟨v, hv, hi⟩ := hb (e - n.v) (by omega) f y u hy hu
    refine ⟨v, ?_, fun ρ' ha => by rw [hden]; exact hi ρ' ha⟩
    have : n.v * a.length ≤ e * a.length := Nat.mul_le_mul_right _ h1
    rw [List.getElem?_append_right (by omega), ← hv, hl, g2]
    congr 1
    rw [Nat.sub_mul]
    omega

/-! ### The elements that are appended -/
def elemsAt (H : HL) (key : Nat) (i : NV) (sz : Nat) : NV → Nat → Out (List SC)
  | _, 0 => .leaf []
  | e, m + 1 => (cellsAt H key i e sz 0 sz).bind fun l => (elemsAt H key i sz (e.add (.k 1)) m).bind fun l' => .leaf (l ++ l')
theorem LIs.append {n : Nat → Prop} {ρ : Rho} {a b : List SC} {x y : List Value} (h : LIs n ρ a x) (g : LIs n ρ b y) : LIs n ρ (a ++ b) (x ++ y) := fun ρ' ha => by
  rw [List.map_append, h ρ' ha, g ρ' ha]
theorem elemsAt_ok {φ : Fr} {ρ : Rho} {H : Hp} {w : World} {key : Nat} {i : NV} {sz : Nat} (h : HInv φ ρ H w) : ∀ (m : Nat) (e : NV) {K : List SC → Prop}, (elemsAt H.h key i sz e m).holds K →
    ∃ l vs, K l ∧ l.length = m * sz ∧ LIs H.sc ρ l vs ∧ ∀ j v, vs[j]? = some v → ∃ p, place ρ key i (e.v * sz + j) = some p ∧ w.cell? p = some v
  | 0, e, K, hh => ⟨[], [], hh, by simp, .nil _ _, fun j v hv => by simp at hv⟩
  | m + 1, e, K, hh => by
    simp only [elemsAt, Out.holds_bind] at hh
    obtain ⟨l, vs, hh, hlen, hl, hc⟩ := cellsAt_ok h sz 0 hh
    obtain ⟨l', vs', hK, hlen', hl', hc'⟩ := elemsAt_ok h m (e.add (.k 1)) hh
    refine ⟨l ++ l', vs ++ vs', hK, by rw [List.length_append, hlen, hlen', Nat.add_mul]; omega, hl.append hl', fun j v hv => ?_⟩
    have hvl : vs.length = sz := by rw [hl.len, hlen]
    rcases Nat.lt_or_ge j vs.length with h1 | h1
    · rw [List.getElem?_append_left h1] at hv
      obtain ⟨p, hp, hw⟩ := hc j v hv
      exact ⟨p, by rw [← hp, Nat.zero_add], hw⟩
    · rw [List.getElem?_append_right h1] at hv
      obtain ⟨p, hp, hw⟩ := hc' _ v hv
      refine ⟨p, ?_, hw⟩
      rw [← hp]
      congr 1
      simp only [NV.v_add, NV.v_k, Nat.add_mul, Nat.one_mul]
      omega

def oneCol : Col → Bool
  | .cc c => c.oneCell
  | .ck l => l.all SC.oneCell
  | .ov _ _ c col => c.oneCell && oneCol col
  | _ => true
theorem oneCol_get : ∀ {col : Col}, oneCol col = true → ∀ {i e : Nat} {c : SC}, col.get i e = some c → c.oneCell = true := by
  intro col
  induction col with
  | ck l => intro h i e c hc; exact List.all_eq_true.1 h c (List.mem_of_getElem? hc)
  | cc d => intro h i e c hc; simp only [Col.get, Option.some.injEq] at hc; subst hc; exact h
  | cu => intro h i e c hc; simp [Col.get] at hc
  | ov i0 e0 d col ih =>
    intro h i e c hc
    simp only [oneCol, Bool.and_eq_true] at h
    simp only [Col.get] at hc
    split at hc
    · cases hc; exact h.1
    · exact ih h.2 hc
  | _ => intro h i e c hc; simp only [Col.get, Option.some.injEq] at hc; subst hc; rfl

/-- How many elements a block's instance has. -/
def lenAt (H : HL) (key : Nat) (i : NV) : Option (Nat × List Col) :=
  match find key H with
  | some (.row _ _ n cols) => match i.isZero with
    | true => some (n, cols)
    | false => none
  | some (.fam _ _ _ len cols) => some (len i.v, cols)
  | some (.view m len cols) => match i with
    | .k 0 => match m with
      | 1 => some (len 0, cols)
      | _ => none
    | _ => none
  | _ => none
theorem lenAt_ok {φ : Fr} {ρ : Rho} {H : Hp} {w : World} {key : Nat} {i : NV} {n : Nat} {cols : List Col} (h : HInv φ ρ H w) (hn : lenAt H.h key i = some (n, cols)) : ∀ e, e < n → ∀ (f : Nat) col c, cols[f]? = some col → col.get i.v e = some c →
    ∃ v p, CIs H.sc ρ c v ∧ place ρ key i (e * cols.length + f) = some p ∧ w.cell? p = some v := by
  unfold lenAt at hn
  split at hn
  · rename_i t cap n' cols' hf
    split at hn
    · rename_i hz
      cases hn
      intro e he f col c hc hg
      rcases h.sat key _ hf with ⟨h0, _⟩ | ⟨b, arr, h1, h2, h3, h4, h4', h5⟩
      · omega
      rw [NV.isZero_v hz] at hg
      obtain ⟨v, hv, hs⟩ := h5 e he f col c hc hg
      exact ⟨v, ⟨b, 0 + (e * cols.length + f), none⟩, hs, by simp [place, NV.isZero_v hz, h1], by rw [Nat.zero_add, cell_of_row w b _ arr t _ h2]; exact hv⟩
    · cases hn
  · rename_i rw' t cap len cols' hf
    cases hn
    intro e he f col c hc hg
    obtain ⟨h1, _, h3⟩ := h.sat key _ hf
    obtain ⟨b, arr, g1, g2, g3, g4⟩ := h3 i.v (by have := (h1 i.v).1; omega)
    obtain ⟨v, hv, hs⟩ := g4 e he f col c hc hg
    exact ⟨v, ⟨b, 0 + (e * cols.length + f), none⟩, hs, by simp [place, g1], by rw [Nat.zero_add, cell_of_row w b _ arr t _ g2]; exact hv⟩
  · rename_i m len cols' hf
    split at hn
    · split at hn
      · cases hn
        intro e he f col c hc hg
        obtain ⟨b, o, h1, h2⟩ := h.sat key _ hf 0 (by omega) e he
        obtain ⟨v, hv, hs⟩ := h2 f col c hc hg
        exact ⟨v, _, hs, by simp [place, h1], hv⟩
      · cases hn
    · cases hn
  · cases hn

/-- What is appended: its columns, how many there are. -/
def srcT (H : HL) (sz : Nat) : SV → Out (List Col × NV)
  | .c (.slc key i e sz2 (.k m) _) => chk (Nat.beq sz sz2 && Nat.ble 1 sz) ((elemsAt H key i sz e m).bind fun l => .leaf (colsOf sz m l, .k m)) 180
  | .c (.slc key i e sz2 (.s m) _) => opt (lenAt H key i) (fun r => chk (Nat.beq sz sz2 && (Nat.beq r.2.length sz && Nat.ble 1 sz)) (opt (shiftCols i.v e.v r.2) (fun cols => .need (e.v + m ≤ r.1) (.leaf (cols, .s m))) 181) 182) 183
  | _ => .bad 184

theorem exists_list {p : Nat → Value → Prop} : ∀ n, (∀ j, j < n → ∃ v, p j v) → ∃ l : List Value, l.length = n ∧ ∀ j v, l[j]? = some v → p j v
  | 0, _ => ⟨[], rfl, fun j v h => by simp at h⟩
  | n + 1, h => by
    obtain ⟨l, h1, h2⟩ := exists_list n (fun j hj => h j (by omega))
    obtain ⟨x, hx⟩ := h n (by omega)
    refine ⟨l ++ [x], by simp [h1], fun j v hv => ?_⟩
    rcases Nat.lt_or_ge j l.length with h3 | h3
    · rw [List.getElem?_append_left h3] at hv; exact h2 j v hv
    · rw [List.getElem?_append_right h3] at hv
      have : j = l.length := by
        have := (List.getElem?_eq_some_iff.1 hv).1
        simp at this; omega
      subst this
      simp at hv; subst hv
      rw [h1]; exact hx

theorem srcT_ok {φ : Fr} {ρ : Rho} {H : Hp} {w : World} {sz : Nat} {x : SV} {vx : Value} {K : List Col × NV → Prop} (h : HInv φ ρ H w) (hx : SIs H.sc ρ x vx) (hh : (srcT H.h sz x).holds K) :
    ∃ cols m xb c news, K (cols, m) ∧ vx = .slice xb m.v c ∧ cols.length = sz ∧ 0 < sz ∧ news.length = m.v * sz ∧ (m.v = 0 ∨ ∃ a, xb = some a ∧ ∀ j u, news[j]? = some u → w.cell? (a.add j) = some u) ∧ Desc H.sc ρ m.v cols news ∧
      (cols.all oneCol = true → ∀ u ∈ news, u.oneCell' = true) := by
  unfold srcT at hh
  split at hh
  · rename_i key i e sz2 m c
    replace hh := chk_holds hh
    obtain ⟨hb, hh⟩ := hh
    simp only [Bool.and_eq_true] at hb
    have hz := Nat.eq_of_beq_eq_true hb.1; have hs1 := Nat.le_of_ble_eq_true hb.2
    subst hz
    rw [Out.holds_bind] at hh
    obtain ⟨l, vs, hK, hlen, hl, hc⟩ := elemsAt_ok h m e hh
    have hv : vx = .slice (place ρ key i (e.v * sz)) m c.v := hx.eq
    have hvl : vs.length = m * sz := by rw [hl.len, hlen]
    have hcl : (colsOf sz m l).length = sz := by simp [colsOf]
    have hd : Desc H.sc ρ m (colsOf sz m l) vs := fun q hq f col d hf hd => by simpa using colsOf_cells hl hlen q hq f col d hf hd
    refine ⟨_, .k m, _, _, vs, hK, hv, hcl, hs1, hvl, ?_, hd, ?_⟩
    · rcases Nat.eq_zero_or_pos m with h0 | h0
      · exact .inl h0
      · right
        have : 0 < m * sz := Nat.mul_pos h0 hs1
        obtain ⟨u, hu⟩ : ∃ u, vs[0]? = some u := ⟨_, List.getElem?_eq_getElem (by omega)⟩
        obtain ⟨p, hp, _⟩ := hc 0 u hu
        refine ⟨p, by simpa using hp, fun j u hu => ?_⟩
        obtain ⟨q, hq, hqw⟩ := hc j u hu
        have := (place_add (b := j) (by simpa using hp)).1
        rw [this] at hq; cases hq; exact hqw
    · intro ho u hu
      obtain ⟨j, hj⟩ := List.mem_iff_getElem?.1 hu
      have hjl := (List.getElem?_eq_some_iff.1 hj).1
      have hjm : j < m * sz := by omega
      have h1 : j / sz < m := by rw [Nat.div_lt_iff_lt_mul hs1]; exact hjm
      have h2 : j % sz < sz := Nat.mod_lt _ hs1
      have hcol : (colsOf sz m l)[j % sz]? = some (.ck ((List.range m).map fun e => (l[e * sz + j % sz]?).getD .nilp)) := by
        simp [colsOf, List.getElem?_map, List.getElem?_range h2]
      have hget : ∃ d, (Col.ck ((List.range m).map fun e => (l[e * sz + j % sz]?).getD .nilp)).get 0 (j / sz) = some d := ⟨(l[j / sz * sz + j % sz]?).getD .nilp, by simp only [Col.get, List.getElem?_map, List.getElem?_range h1, Option.map_some]⟩
      obtain ⟨d, hd'⟩ := hget
      obtain ⟨v, hv', hi⟩ := hd (j / sz) h1 _ _ d hcol hd'
      rw [hcl, Nat.div_add_mod' j sz, hj] at hv'
      cases hv'
      exact hi.one (oneCol_get (List.all_eq_true.1 ho _ (List.mem_of_getElem? hcol)) hd')
  · rename_i key i e sz2 m c
    replace hh := opt_holds hh
    obtain ⟨⟨n2, cols2⟩, hn, hh⟩ := hh
    replace hh := chk_holds hh
    obtain ⟨hb, hh⟩ := hh
    simp only [Bool.and_eq_true] at hb
    have hz := Nat.eq_of_beq_eq_true hb.1; have hzl := Nat.eq_of_beq_eq_true hb.2.1; have hs1 := Nat.le_of_ble_eq_true hb.2.2
    subst hz
    replace hh := opt_holds hh
    obtain ⟨cols, hcols, hle, hK⟩ := hh
    simp only at hzl hcols hle
    obtain ⟨g1, g2⟩ := shiftCols_get hcols
    have hat := lenAt_ok h hn
    have hv : vx = .slice (place ρ key i (e.v * sz)) m c.v := hx.eq
    have cell : ∀ q, q < m → ∀ (f : Nat), f < sz → ∃ col c v p, cols[f]? = some col ∧ col.get 0 q = some c ∧ CIs H.sc ρ c v ∧ place ρ key i (e.v * sz + (q * sz + f)) = some p ∧ w.cell? p = some v := by
      intro q hq f hf
      obtain ⟨col, hcol⟩ : ∃ col, cols[f]? = some col := ⟨_, List.getElem?_eq_getElem (by omega)⟩
      obtain ⟨col2, hcol2, hsh⟩ := g2 f col hcol
      obtain ⟨d, hd1, hd2⟩ := Col.shift_get hsh q
      obtain ⟨v, p, hi, hp, hw⟩ := hat (e.v + q) (by omega) f col2 d hcol2 hd2
      refine ⟨col, d, v, p, hcol, hd1, hi, ?_, hw⟩
      rw [← hp, hzl, Nat.add_mul, Nat.add_assoc]
    obtain ⟨news, hnl, hnews⟩ := exists_list (p := fun j v => ∃ col c p, cols[j % sz]? = some col ∧ col.get 0 (j / sz) = some c ∧ CIs H.sc ρ c v ∧ place ρ key i (e.v * sz + j) = some p ∧ w.cell? p = some v) (m * sz) (fun j hj => by
      obtain ⟨col, c, v, p, h1, h2, h3, h4, h5⟩ := cell (j / sz) (by rw [Nat.div_lt_iff_lt_mul hs1]; exact hj) (j % sz) (Nat.mod_lt _ hs1)
      exact ⟨v, col, c, p, h1, h2, h3, by rw [← h4, Nat.div_add_mod' j sz], h5⟩)
    refine ⟨cols, .s m, _, _, news, hK, hv, by omega, hs1, hnl, ?_, ?_, ?_⟩
    · rcases Nat.eq_zero_or_pos m with h0 | h0
      · exact .inl h0
      · right
        have : 0 < m * sz := Nat.mul_pos h0 hs1
        obtain ⟨u, hu⟩ : ∃ u, news[0]? = some u := ⟨_, List.getElem?_eq_getElem (by omega)⟩
        obtain ⟨_, _, p, _, _, _, hp, _⟩ := hnews 0 u hu
        refine ⟨p, by simpa using hp, fun j u hu => ?_⟩
        obtain ⟨_, _, q, _, _, _, hq, hqw⟩ := hnews j u hu
        have := (place_add (b := j) (by simpa using hp)).1
        rw [this] at hq; cases hq; exact hqw
    · intro q hq f col d hf hd
      have hfl : f < cols.length := (List.getElem?_eq_some_iff.1 hf).1
      have hlen : cols.length = sz := by omega
      rw [hlen]
      have hin : q * sz + f < m * sz := by
        have : (q + 1) * sz ≤ m * sz := Nat.mul_le_mul_right _ hq
        rw [Nat.add_mul, Nat.one_mul] at this
        omega
      obtain ⟨u, hu⟩ : ∃ u, news[q * sz + f]? = some u := ⟨_, List.getElem?_eq_getElem (by omega)⟩
      obtain ⟨col', c', p, h1, h2, h3, _⟩ := hnews _ u hu
      have e1 : (q * sz + f) % sz = f := by rw [Nat.mul_comm, Nat.mul_add_mod, Nat.mod_eq_of_lt (by omega)]
      have e2 : (q * sz + f) / sz = q := by rw [Nat.mul_comm, Nat.mul_add_div hs1, Nat.div_eq_of_lt (by omega)]; rfl
      rw [e1, hf] at h1; cases h1
      rw [e2, hd] at h2; cases h2
      exact ⟨u, hu, h3⟩
    · intro ho u hu
      obtain ⟨j, hj⟩ := List.mem_iff_getElem?.1 hu
      obtain ⟨col, c, p, h1, h2, h3, _⟩ := hnews j u hj
      exact h3.one (oneCol_get (List.all_eq_true.1 ho _ (List.mem_of_getElem? h1)) h2)
  · exact hh.elim

/-! ### What is appended to -/
structure Tgt where
  n : NV
  cols : Option (List Col)
  h0 : HL
def deadAt (i : Nat) (f : Nat → Nat) : Nat → Nat := fun j => if j = i then 0 else f j
def tgtT (H : HL) (el : TypeId) (sz : Nat) : SV → Out Tgt
  | .c .nils => .leaf ⟨.k 0, none, H⟩
  | .c (.slc key i e sz2 len cap) => chk (Nat.beq sz sz2) (match cap with
    | .k 0 => .need (len.v = 0) (.leaf ⟨.k 0, none, H⟩)
    | cap => match find key H with
      | some (.row t cap' n' cols) => chk (i.isZero && (e.isZero && (Nat.beq t el && Nat.beq cols.length sz))) (.need (len.v ≤ n' ∧ cap.v = cap') (.leaf ⟨len, some cols, drop key H⟩)) 186
      | some (.fam rw t capf lenf cols) => chk (rw && (e.isZero && (Nat.beq t el && Nat.beq cols.length sz))) (.need (len.v ≤ lenf i.v ∧ cap.v = capf i.v) (.leaf ⟨len, some (cols.map (Col.inst i.v)), upd key (.fam rw t (deadAt i.v capf) (deadAt i.v lenf) cols) H⟩)) 187
      | _ => .bad 188) 189
  | _ => .bad 190

theorem tgtT_ok {φ : Fr} {ρ : Rho} {H : Hp} {w : World} {el : TypeId} {sz : Nat} {s : SV} {v : Value} {K : Tgt → Prop} (h : HInv φ ρ H w) (hs : SIs H.sc ρ s v) (hsz : 0 < sz) (hh : (tgtT H.h el sz s).holds K) :
    ∃ T base cap olds row, K T ∧ v = .slice base T.n.v cap ∧ (∃ p : Option (Nat × Nat), base = p.map fun q => ⟨q.1, q.2, none⟩) ∧
      ((row = none ∧ T.n.v = 0 ∧ cap = 0 ∧ olds = []) ∨ ∃ g arr, row = some g ∧ base = some ⟨g, 0, none⟩ ∧ w.heap[g]? = some (.cells arr el (0, 0)) ∧ arr.size = cap * sz ∧ T.n.v ≤ cap ∧ cap ≤ maxLen ∧ olds = arr.toList.take (T.n.v * sz)) ∧
      (∀ y, row = some y → φ.may y) ∧ (T.cols = none → T.n = .k 0 ∧ olds = []) ∧ (∀ cols, T.cols = some cols → cols.length = sz ∧ Desc H.sc ρ T.n.v cols olds ∧ olds.length = T.n.v * sz) ∧
      (∀ k b, find k T.h0 = some b → ∃ b0, find k H.h = some b0 ∧ (∀ i, b.live i → b0.live i) ∧ (b.isRow = true → b0.isRow = true) ∧ b.sat H.sc ρ k w ∧ ∀ i, b.live i → ∀ y o, ρ k i = some (y, o) → row ≠ some y) := by
  have triv : ∀ k b, find k H.h = some b → ∃ b0, find k H.h = some b0 ∧ (∀ i, b.live i → b0.live i) ∧ (b.isRow = true → b0.isRow = true) ∧ b.sat H.sc ρ k w ∧ ∀ i, b.live i → ∀ y o, ρ k i = some (y, o) → (none : Option Nat) ≠ some y :=
    fun k b hk => ⟨b, hk, fun _ h => h, fun h => h, h.sat k b hk, fun _ _ _ _ _ h => by cases h⟩
  have bp : ∀ key (i : NV) off, ∃ p : Option (Nat × Nat), place ρ key i off = p.map fun q => ⟨q.1, q.2, none⟩ := fun key i off => ⟨(ρ key i.v).map fun p => (p.1, p.2 + off), by unfold place; cases ρ key i.v <;> rfl⟩
  have gen : ∀ (key : Nat) (i e len cap : NV), s = .c (.slc key i e sz len cap) → (match find key H.h with
      | some (.row t cap' n' cols) => chk (i.isZero && (e.isZero && (Nat.beq t el && Nat.beq cols.length sz))) (.need (len.v ≤ n' ∧ cap.v = cap') (.leaf ⟨len, some cols, drop key H.h⟩)) 186
      | some (.fam rw t capf lenf cols) => chk (rw && (e.isZero && (Nat.beq t el && Nat.beq cols.length sz))) (.need (len.v ≤ lenf i.v ∧ cap.v = capf i.v) (.leaf ⟨len, some (cols.map (Col.inst i.v)), upd key (.fam rw t (deadAt i.v capf) (deadAt i.v lenf) cols) H.h⟩)) 187
      | _ => .bad 188 : Out Tgt).holds K → ∃ T base cap olds row, K T ∧ v = .slice base T.n.v cap ∧ (∃ p : Option (Nat × Nat), base = p.map fun q => ⟨q.1, q.2, none⟩) ∧
      ((row = none ∧ T.n.v = 0 ∧ cap = 0 ∧ olds = []) ∨ ∃ g arr, row = some g ∧ base = some ⟨g, 0, none⟩ ∧ w.heap[g]? = some (.cells arr el (0, 0)) ∧ arr.size = cap * sz ∧ T.n.v ≤ cap ∧ cap ≤ maxLen ∧ olds = arr.toList.take (T.n.v * sz)) ∧
      (∀ y, row = some y → φ.may y) ∧ (T.cols = none → T.n = .k 0 ∧ olds = []) ∧ (∀ cols, T.cols = some cols → cols.length = sz ∧ Desc H.sc ρ T.n.v cols olds ∧ olds.length = T.n.v * sz) ∧
      (∀ k b, find k T.h0 = some b → ∃ b0, find k H.h = some b0 ∧ (∀ i, b.live i → b0.live i) ∧ (b.isRow = true → b0.isRow = true) ∧ b.sat H.sc ρ k w ∧ ∀ i, b.live i → ∀ y o, ρ k i = some (y, o) → row ≠ some y) := by
    intro key i e len cap hse hh
    have hv : v = .slice (place ρ key i (e.v * sz)) len.v cap.v := by rw [hse] at hs; exact hs.eq
    split at hh
    · rename_i t cap' n' cols hf
      obtain ⟨hb, ⟨hle, hcap⟩, hK⟩ := chk_holds hh
      simp only [Bool.and_eq_true] at hb
      obtain ⟨hi0, he0, ht, hcl⟩ := hb
      have hi0 := NV.isZero_v hi0; have he0 := NV.isZero_v he0; have ht := Nat.eq_of_beq_eq_true ht; have hcl := Nat.eq_of_beq_eq_true hcl
      subst ht
      rcases h.sat key _ hf with ⟨h1, h2⟩ | ⟨b, arr, h1, h2, h3, h4, h4', h5⟩
      · refine ⟨_, _, _, [], none, hK, hv, bp _ _ _, .inl ⟨rfl, by simp only; omega, by omega, rfl⟩, (fun y hy => nomatch hy), (by rintro ⟨⟩), ?_, ?_⟩
        · rintro c ⟨⟩
          exact ⟨hcl, fun q hq => by simp only at hq; omega, by simp only; rw [show len.v = 0 by omega]; simp⟩
        · intro k b hk
          simp only [find_drop] at hk
          split at hk
          · cases hk
          · exact triv k b hk
      · have hbase : place ρ key i (e.v * sz) = some ⟨b, 0, none⟩ := by simp [place, hi0, he0, h1]
        have holen : (arr.toList.take (len.v * sz)).length = len.v * sz := by
          rw [List.length_take, Array.length_toList, h3, hcl]
          exact Nat.min_eq_left (Nat.mul_le_mul_right _ (by omega))
        rcases Nat.eq_zero_or_pos cap' with hc0 | hc0
        · refine ⟨_, _, _, [], none, hK, hv, bp _ _ _, .inl ⟨rfl, by simp only; omega, by omega, rfl⟩, (fun y hy => nomatch hy), (by rintro ⟨⟩), ?_, ?_⟩
          · rintro c ⟨⟩
            exact ⟨hcl, fun q hq => by simp only at hq; omega, by simp only; rw [show len.v = 0 by omega]; simp⟩
          · intro k b hk
            simp only [find_drop] at hk
            split at hk
            · cases hk
            · exact triv k b hk
        have hlive : Blk.live (.row t cap' n' cols) 0 := ⟨rfl, hc0⟩
        refine ⟨_, _, _, _, some b, hK, hv, bp _ _ _, .inr ⟨b, arr, rfl, hbase, h2, by rw [hcap, ← hcl]; exact h3, by simp only; omega, by omega, rfl⟩, (fun y hy => by cases hy; exact h.may key _ hf rfl 0 hlive _ 0 h1), (by rintro ⟨⟩), ?_, ?_⟩
        · rintro c ⟨⟩
          refine ⟨hcl, fun q hq f col d hc hd => ?_, holen⟩
          simp only at hq
          obtain ⟨u, hu, hi⟩ := h5 q (by omega) f col d hc hd
          refine ⟨u, ?_, hi⟩
          have hfl : f < cols.length := (List.getElem?_eq_some_iff.1 hc).1
          have : (q + 1) * cols.length ≤ len.v * cols.length := Nat.mul_le_mul_right _ hq
          rw [Nat.add_mul, Nat.one_mul] at this
          rw [List.getElem?_take, if_pos (by simp only; rw [← hcl]; omega), Array.getElem?_toList]
          exact hu
        · intro k c hk
          simp only [find_drop] at hk
          split at hk
          · cases hk
          · rename_i hne
            refine ⟨c, hk, fun _ h => h, fun h => h, h.sat k c hk, fun j hj y o hy => ?_⟩
            rintro ⟨⟩
            exact h.sep key _ hf rfl k c hk hne 0 j hlive hj _ 0 _ o h1 hy rfl
    · rename_i rw' t capf lenf cols hf
      obtain ⟨hb, ⟨hle, hcap⟩, hK⟩ := chk_holds hh
      simp only [Bool.and_eq_true] at hb
      obtain ⟨hrw, he0, ht, hcl⟩ := hb
      have he0 := NV.isZero_v he0; have ht := Nat.eq_of_beq_eq_true ht; have hcl := Nat.eq_of_beq_eq_true hcl
      subst ht hrw
      obtain ⟨h1, h2, h3⟩ := h.sat key _ hf
      have hsatd : Blk.sat H.sc ρ key w (.fam true t (deadAt i.v capf) (deadAt i.v lenf) cols) := by
        refine ⟨fun j => ?_, fun j k hj hk => ?_, fun j hj => ?_⟩
        · simp only [deadAt]; split <;> first | exact h1 j | exact ⟨Nat.le_refl _, Nat.zero_le _⟩
        · simp only [deadAt] at hj hk
          split at hj <;> split at hk <;> first | omega | exact h2 j k hj hk
        · simp only [deadAt] at hj ⊢
          split at hj
          · omega
          · rename_i hne
            obtain ⟨b, arr, g1, g2, g3, g4⟩ := h3 j hj
            refine ⟨b, arr, g1, g2, by rw [if_neg hne]; exact g3, fun q hq => g4 q (by rw [if_neg hne] at hq; exact hq)⟩
      have hsub : ∀ row, (∀ y, row = some y → ∃ o, 0 < capf i.v ∧ ρ key i.v = some (y, o)) → ∀ k b, find k (upd key (.fam true t (deadAt i.v capf) (deadAt i.v lenf) cols) H.h) = some b → ∃ b0, find k H.h = some b0 ∧ (∀ i, b.live i → b0.live i) ∧ (b.isRow = true → b0.isRow = true) ∧ b.sat H.sc ρ k w ∧ ∀ i, b.live i → ∀ y o, ρ k i = some (y, o) → row ≠ some y := by
        intro row hrow k b hk
        rw [find_upd] at hk
        split at hk
        · rename_i e'; subst e'
          rw [hf] at hk
          simp only [Option.map_some, Option.some.injEq] at hk
          subst hk
          refine ⟨_, hf, fun j hj => ?_, fun _ => rfl, hsatd, fun j hj y o hy he => ?_⟩
          · simp only [Blk.live, deadAt] at hj ⊢
            split at hj
            · omega
            · exact hj
          · obtain ⟨o', hc, hρ⟩ := hrow y he
            simp only [Blk.live, deadAt] at hj
            split at hj
            · omega
            · rename_i hne
              exact h2 j i.v hj hc hne y o y o' hy hρ rfl
        · rename_i hne
          refine ⟨b, hk, fun _ h => h, fun h => h, h.sat k b hk, fun j hj y o hy he => ?_⟩
          obtain ⟨o', hc, hρ⟩ := hrow y he
          exact h.sep key _ hf rfl k b hk hne i.v j hc hj y o' y o hρ hy rfl
      rcases Nat.eq_zero_or_pos (capf i.v) with hc0 | hc0
      · have hl0 := (h1 i.v).1
        refine ⟨_, _, _, [], none, hK, hv, bp _ _ _, .inl ⟨rfl, by simp only; omega, by omega, rfl⟩, (fun y hy => nomatch hy), (by rintro ⟨⟩), ?_, hsub none fun y hy => nomatch hy⟩
        rintro c ⟨⟩
        exact ⟨by simpa using hcl, fun q hq => by simp only at hq; omega, by simp only; rw [show len.v = 0 by omega]; simp⟩
      · obtain ⟨b, arr, g1, g2, g3, g4⟩ := h3 i.v hc0
        have hm := h1 i.v
        have hbase : place ρ key i (e.v * sz) = some ⟨b, 0, none⟩ := by simp [place, he0, g1]
        have holen : (arr.toList.take (len.v * sz)).length = len.v * sz := by
          rw [List.length_take, Array.length_toList, g3, hcl]
          exact Nat.min_eq_left (Nat.mul_le_mul_right _ (by omega))
        refine ⟨_, _, _, _, some b, hK, hv, bp _ _ _, .inr ⟨b, arr, rfl, hbase, g2, by rw [hcap, ← hcl]; exact g3, by simp only; omega, by omega, rfl⟩, (fun y hy => by cases hy; exact h.may key _ hf rfl i.v hc0 _ 0 g1), (by rintro ⟨⟩), ?_, hsub (some b) fun y hy => by cases hy; exact ⟨0, hc0, g1⟩⟩
        rintro c ⟨⟩
        refine ⟨by simpa using hcl, fun q hq f col d hc hd => ?_, holen⟩
        simp only at hq
        simp only [List.getElem?_map, Option.map_eq_some_iff] at hc
        obtain ⟨col0, hc0', rfl⟩ := hc
        obtain ⟨u, hu, hi⟩ := g4 q (by omega) f col0 d hc0' (Col.inst_get hd)
        refine ⟨u, ?_, hi⟩
        have hfl : f < cols.length := (List.getElem?_eq_some_iff.1 hc0').1
        have : (q + 1) * cols.length ≤ len.v * cols.length := Nat.mul_le_mul_right _ hq
        rw [Nat.add_mul, Nat.one_mul] at this
        rw [List.length_map, List.getElem?_take, if_pos (by simp only; rw [← hcl]; omega), Array.getElem?_toList]
        exact hu
    · exact hh.elim
  unfold tgtT at hh
  split at hh
  · have hv : v = .slice none 0 0 := hs.eq
    exact ⟨_, none, 0, [], none, hh, hv, ⟨none, rfl⟩, .inl ⟨rfl, rfl, rfl, rfl⟩, (fun y hy => nomatch hy), fun _ => ⟨rfl, rfl⟩, (by rintro c ⟨⟩), triv⟩
  · rename_i key i e sz2 len cap
    replace hh := chk_holds hh
    obtain ⟨hz, hh⟩ := hh
    have hz := Nat.eq_of_beq_eq_true hz
    subst hz
    split at hh
    · obtain ⟨hl, hK⟩ := hh
      have hv : v = .slice (place ρ key i (e.v * sz)) len.v 0 := hs.eq
      exact ⟨_, _, 0, [], none, hK, by rw [hv, hl]; rfl, bp _ _ _, .inl ⟨rfl, rfl, rfl, rfl⟩, (fun y hy => nomatch hy), fun _ => ⟨rfl, rfl⟩, (by rintro c ⟨⟩), triv⟩
    · exact gen key i e len cap rfl hh
  · exact hh.elim

def appendT (P : Program) (H : Hp) (t u : TypeId) (s x : SV) : Out (SV × Hp) :=
  match P.underlying t with
  | some (.slice el) => opt (P.info? el) (fun inf => opt ((zeroT P el).bind (·.cells)) (fun z => chk (Nat.beq t u && Nat.beq z.length inf.size)
      ((srcT H.h inf.size x).bind fun r => chk (r.1.all oneCol) ((tgtT H.h el inf.size s).bind fun T => opt (match T.cols with | none => some r.1 | some cols => catCols T.n r.2 cols r.1) (fun cols' =>
        .need (T.n.v + r.2.v ≤ maxLen ∧ (T.n.v + r.2.v) * inf.bytes ≤ 140737488355328) (.ge (T.n.v + r.2.v) fun c =>
          .leaf (.c (.slc H.nxt (.k 0) (.k 0) inf.size (T.n.add r.2) (.s c)), ⟨(H.nxt, .row el c (T.n.v + r.2.v) cols') :: T.h0, H.nxt + 1, H.D⟩))) 191) 192) 193) 194) 195
  | _ => .bad 196

theorem appendT_ok {P : Program} {φ : Fr} {ρ : Rho} {H : Hp} {w : World} {t u ty : TypeId} {s x : SV} {v vx : Value} {K : SV × Hp → Prop} (h : HInv φ ρ H w) (hs : SIs H.sc ρ s v) (hx : SIs H.sc ρ x vx)
    (hh : (appendT P H t u s x).holds K) : ValOK φ ρ H K ((Builtin.append_ #[t, u] ty #[v, vx]).run P w) := by
  unfold appendT at hh
  split at hh
  · rename_i el hu
    replace hh := opt_holds hh
    obtain ⟨inf, hinf, hh⟩ := hh
    replace hh := opt_holds hh
    obtain ⟨zc, hz, hh⟩ := hh
    replace hh := chk_holds hh
    obtain ⟨hb, hh⟩ := hh
    simp only [Bool.and_eq_true] at hb
    have ht := Nat.eq_of_beq_eq_true hb.1; have hzl := Nat.eq_of_beq_eq_true hb.2
    subst ht
    rw [Out.holds_bind] at hh
    obtain ⟨cols2, m, xb, c, news, hh, rfl, hcl, hsz, hnl, hnews, hdesc, hone⟩ := srcT_ok h hx hh
    obtain ⟨hall, hh⟩ := chk_holds hh
    rw [Out.holds_bind] at hh
    obtain ⟨T, base, cap, olds, row, hh, rfl, ⟨p, hp⟩, hold, hrow, hcn, hcs, hsub⟩ := tgtT_ok h hs hsz hh
    obtain ⟨cols', hcols', ⟨h63, hbytes⟩, hge⟩ := opt_holds hh
    cases hz0 : zeroT P el with
    | none => simp [hz0] at hz
    | some zs =>
      simp only [hz0, Option.bind_some] at hz
      obtain ⟨i', zv, hi', hzz, hzs⟩ := zeroT_is hz0 (n := H.sc) (ρ := ρ)
      rw [hinf] at hi'; cases hi'
      obtain ⟨us, hus, hls⟩ := SV.cells_is hzs hz
      have hzsz : zv.cells.size = inf.size := by rw [hus, List.size_toArray, hls.len, hzl]
      obtain ⟨base', cap', w', hrun, hgrown, hcap', hres⟩ := app_core (P := P) w t ty el inf zv hu hinf hzz hzsz hsz base T.n.v cap olds row hold xb m.v c news hnl hnews (hone hall) h63 hbytes
      have hd' : cols'.length = inf.size ∧ Desc H.sc ρ (T.n.v + m.v) cols' (olds ++ news) := by
        cases hTc : T.cols with
        | none =>
          obtain ⟨hn0, ho0⟩ := hcn hTc
          rw [hTc] at hcols'
          simp only [Option.some.injEq] at hcols'
          subst hcols'
          refine ⟨hcl, ?_⟩
          rw [hn0, ho0]
          simpa using hdesc
        | some cols =>
          obtain ⟨k1, k2, k3⟩ := hcs cols hTc
          rw [hTc] at hcols'
          simp only at hcols'
          have hc := catCols_get hcols'
          exact ⟨by rw [hc.1, k1], Desc.cat hcols' k2 hdesc (by rw [k3, k1])⟩
      obtain ⟨hcl', hd'⟩ := hd'
      obtain ⟨g, hg⟩ : ∃ g : Option (Nat × Nat), base' = g.map fun q => ⟨q.1, q.2, none⟩ := by
        rcases hres with ⟨_, h2⟩ | ⟨b, _, h2, _⟩
        · exact ⟨p, by rw [h2, hp]⟩
        · exact ⟨some (b, 0), h2⟩
      have hext : ∀ q, H.sc q → Hp.sc ⟨(H.nxt, .row el cap' (T.n.v + m.v) cols') :: T.h0, H.nxt + 1, H.D⟩ q := fun q hq => ⟨Nat.lt_succ_of_lt hq.1, hq.2⟩
      have hlive : Blk.live (.row el cap' (T.n.v + m.v) cols') 0 → ∃ b cur, g = some (b, 0) ∧ w'.heap[b]? = some (.cells cur el (0, 0)) ∧ (row = some b ∨ b = w.heap.size) := by
        rintro ⟨_, hl⟩
        rcases hres with ⟨h1, _⟩ | ⟨b, cur, h2, h3, _, _, _, h4⟩
        · omega
        · refine ⟨b, cur, ?_, h3, h4⟩
          rw [h2] at hg
          cases g with
          | none => cases hg
          | some q =>
            obtain ⟨q1, q2⟩ := q
            simp only [Option.map_some, Option.some.injEq, Addr.mk.injEq] at hg
            rw [hg.1, hg.2.1]
      refine ⟨_, w', ρ.put H.nxt g, _, _, hrun, hge cap' hcap', ρ.put_agree (fun _ hj => hj.1) g, ⟨Nat.le_succ _, rfl⟩, ?_, ?_⟩
      · refine h.regrow hrow hgrown hsub g _ (fun i hi => hi.1) ?_ ?_ ?_
        · intro hl y o hy
          obtain ⟨b, cur, h1, h2, _⟩ := hlive hl
          rw [h1] at hy; cases hy
          exact (Array.getElem?_eq_some_iff.1 h2).1
        · intro hl y o hy
          obtain ⟨b, cur, h1, _, h3⟩ := hlive hl
          rw [h1] at hy; cases hy
          rcases h3 with h3 | h3
          · exact .inl h3
          · exact .inr (Nat.le_of_eq h3.symm)
        · rcases hres with ⟨h1, _⟩ | ⟨b, cur, h2, h3, h4, h5, h6, _⟩
          · exact .inl ⟨Nat.le_zero.1 (h1 ▸ hcap'), h1⟩
          · have hgb : g = some (b, 0) := by
              rw [h2] at hg
              cases g with
              | none => cases hg
              | some q =>
                obtain ⟨q1, q2⟩ := q
                simp only [Option.map_some, Option.some.injEq, Addr.mk.injEq] at hg
                rw [hg.1, hg.2.1]
            refine .inr ⟨b, cur, by rw [Rho.put_at]; exact hgb, h3, by rw [hcl']; exact h5, hcap', h4, fun q hq f col d hf hd => ?_⟩
            obtain ⟨u, hu', hi⟩ := hd' q hq f col d hf hd
            refine ⟨u, ?_, hi.ext (ρ.put_agree (fun _ hj => hj.1) g) hext⟩
            have hin := (List.getElem?_eq_some_iff.1 hu').1
            have hfl : f < cols'.length := (List.getElem?_eq_some_iff.1 hf).1
            have : (q + 1) * cols'.length ≤ (T.n.v + m.v) * cols'.length := Nat.mul_le_mul_right _ hq
            rw [Nat.add_mul, Nat.one_mul] at this
            rw [← h6, List.getElem?_take, if_pos (by rw [← hcl']; omega), Array.getElem?_toList] at hu'
            exact hu'
      · intro ρ' ha
        have := ha H.nxt ⟨Nat.lt_succ_self _, h.up _ (Nat.le_refl _)⟩
        simp only [SV.den, SC.den, place, this, NV.v_k, Rho.put_at, NV.v_add, NV.v_s]
        rw [hg]
        congr 1
        cases g <;> simp
  · exact hh.elim
end Go.Proofs.Ytjpnpaboahbncaa.Sx
