/- Operations of the symbolic executor that make memory; slices. -/
import Derived.Test.YtjpnpaboahbncaaSxOps2
set_option linter.unusedVariables false
set_option linter.unusedSimpArgs false
namespace Go.Proofs.Ytjpnpaboahbncaa.Sx
open Go Go.RowKit

theorem ValOK.new {φ : Fr} {ρ : Rho} {H : Hp} {w : World} {t : TypeId} {l : List SC} {vs : List Value} {K : SV × Hp → Prop} {r : Result Value} {sv : SV} {v : Value} (h : HInv φ ρ H w) (hl : LIs H.sc ρ l vs)
    (hr : r = .ok v (w.alloc (.cells vs.toArray t))) (hv : ∀ ρ', ρ' H.nxt 0 = some (w.heap.size, 0) → sv.den ρ' = v) (hK : K (sv, newT H t l)) : ValOK φ ρ H K r := by
  refine ⟨v, _, _, sv, newT H t l, hr, hK, ρ.set_agree (fun _ hj => hj.1) _, ⟨Nat.le_succ _, rfl⟩, new_ok h hl, fun ρ' ha => hv ρ' ?_⟩
  have := ha H.nxt ⟨Nat.lt_succ_self _, h.up _ (Nat.le_refl _)⟩
  rw [this]; exact ρ.set_at _ _

/-! ### box, alloc -/
def boxT (H : Hp) (t : TypeId) (x : SV) : Out (SV × Hp) := opt x.cells (fun l => .leaf (.c (.ptr H.nxt (.k 0) (.k 0) 0 l.length), newT H t l)) 130
theorem boxT_ok {P : Program} {φ : Fr} {ρ : Rho} {H : Hp} {w : World} {t : TypeId} {x : SV} {v : Value} {K : SV × Hp → Prop} (h : HInv φ ρ H w) (hx : SIs H.sc ρ x v) (hh : (boxT H t x).holds K) :
    ValOK φ ρ H K ((Instr.box t v).run P w) := by
  obtain ⟨l, hl, hK⟩ := opt_holds hh
  obtain ⟨vs, hvs, hls⟩ := SV.cells_is hx hl
  refine .new h hls (v := .pointer (some ⟨w.heap.size, 0, none⟩)) ?_ ?_ hK
  · simp [Instr.box, newVar, newRow, hvs]
  · intro ρ' hr; simp [SV.den, SC.den, place, hr]

def allocT (P : Program) (H : Hp) (t : TypeId) : Out (SV × Hp) := opt (zeroT P t) (fun z => boxT H t z) 131
theorem allocT_ok {P : Program} {φ : Fr} {ρ : Rho} {H : Hp} {w : World} {t : TypeId} {K : SV × Hp → Prop} (h : HInv φ ρ H w) (hh : (allocT P H t).holds K) :
    ValOK φ ρ H K ((Instr.alloc t true (.tuple #[])).run P w) := by
  obtain ⟨z, hz, hh⟩ := opt_holds hh
  obtain ⟨i, zv, hi, hz2, hzs⟩ := zeroT_is hz (n := H.sc) (ρ := ρ)
  have := boxT_ok (P := P) (t := t) h hzs hh
  simpa [Instr.alloc, run_zeroValue_of hi hz2, Instr.box] using this

/-! ### Parts laid into cells -/
def splice {α : Type} : Nat → List α → List α → List α
  | _, [], cs => cs
  | off, c :: l, cs => splice (off + 1) l (cs.set off c)
theorem splice_map {α β : Type} (f : α → β) : ∀ (l : List α) (off : Nat) (cs : List α), (splice off l cs).map f = splice off (l.map f) (cs.map f)
  | [], _, _ => rfl
  | c :: l, off, cs => by simp only [splice, List.map_cons]; rw [splice_map f l, List.map_set]
theorem splice_length {α : Type} : ∀ (l : List α) (off : Nat) (cs : List α), (splice off l cs).length = cs.length
  | [], _, _ => rfl
  | c :: l, off, cs => by simp only [splice]; rw [splice_length l]; simp
theorem foldl_splice : ∀ (vs : List Value) (off k : Nat) (cs : List Value), (vs.zipIdx k).foldl (fun (a : Array Value) (x : Value × Nat) => a.setIfInBounds (off + x.2) x.1) cs.toArray = (splice (off + k) vs cs).toArray
  | [], _, _, _ => rfl
  | v :: vs, off, k, cs => by
    simp only [List.zipIdx_cons, List.foldl_cons, splice, List.setIfInBounds_toArray]
    have := foldl_splice vs off (k + 1) (cs.set (off + k) v)
    rw [show off + k + 1 = off + (k + 1) by omega]
    exact this

def fillT (pl : Nat → Option (Nat × Nat)) : List SC → List (Nat × SV) → Option (List SC)
  | cells, [] => some cells
  | cells, (i, x) :: rest => match pl i, x.cells with
    | some (off, size), some l => bif Nat.beq l.length size && Nat.ble (off + l.length) cells.length then fillT pl (splice off l cells) rest else none
    | _, _ => none

/-- Parts stand for parts. -/
def PIs (n : Nat → Prop) (ρ : Rho) : List (Nat × SV) → List (Nat × Value) → Prop
  | [], [] => True
  | (i, x) :: l, (j, v) :: m => i = j ∧ SIs n ρ x v ∧ PIs n ρ l m
  | _, _ => False

theorem fill_ok {n : Nat → Prop} {ρ : Rho} {pl : Nat → Option (Nat × Nat)} : ∀ {ps : List (Nat × SV)} {qs : List (Nat × Value)} {cells out : List SC} {vs : List Value}, PIs n ρ ps qs → LIs n ρ cells vs → fillT pl cells ps = some out →
    ∃ us, Instr.fill pl vs.toArray qs = some us.toArray ∧ LIs n ρ out us
  | [], [], cells, out, vs, _, hl, h => by simp [fillT] at h; subst h; exact ⟨vs, rfl, hl⟩
  | [], q :: qs, _, _, _, hp, _, _ => hp.elim
  | p :: ps, [], _, _, _, hp, _, _ => by obtain ⟨i, x⟩ := p; exact hp.elim
  | (i, x) :: ps, (j, v) :: qs, cells, out, vs, hp, hl, h => by
    obtain ⟨rfl, hx, hp⟩ := hp
    simp only [fillT] at h
    cases hpl : pl i with
    | none => simp [hpl] at h
    | some os =>
      obtain ⟨off, size⟩ := os
      cases hc : x.cells with
      | none => simp [hpl, hc] at h
      | some l =>
        simp only [hpl, hc] at h
        by_cases hb : (Nat.beq l.length size && Nat.ble (off + l.length) cells.length) = true
        · simp only [hb, cond_true] at h
          simp only [Bool.and_eq_true] at hb
          have h1 := Nat.eq_of_beq_eq_true hb.1
          have h2 := Nat.le_of_ble_eq_true hb.2
          obtain ⟨us, hus, hls⟩ := SV.cells_is hx hc
          have hsp : LIs n ρ (splice off l cells) (splice off us vs) := fun ρ' ha => by rw [splice_map, hls ρ' ha, hl ρ' ha]
          obtain ⟨out', h3, h4⟩ := fill_ok hp hsp h
          refine ⟨out', ?_, h4⟩
          have e1 : us.length = size := by rw [hls.len, h1]
          have e2 : ¬ (off + us.length > vs.length) := by rw [hls.len, hl.len]; omega
          simp only [Instr.fill, hpl, hus, List.size_toArray]
          rw [if_neg (by simp [e1]; omega)]
          rw [← h3]
          congr 1
          have := foldl_splice us off 0 vs
          simpa using this
        · simp [hb] at h

def placesT (P : Program) : List Field → Option (List (Nat × Nat))
  | [] => some []
  | f :: fs => match sizeT P f.type, placesT P fs with
    | some n, some l => some ((f.offset, n) :: l)
    | _, _ => none
theorem run_places {P : Program} (w : World) : ∀ {fs : List Field} {l : List (Nat × Nat)}, placesT P fs = some l → (fs.mapM fun f => do pure (f.offset, ← sizeOf f.type) : Sem (List (Nat × Nat))).run P w = .ok l w
  | [], l, h => by simp [placesT] at h; subst h; simp
  | f :: fs, l, h => by
    simp only [placesT] at h
    split at h
    · rename_i n l' h1 h2
      cases h
      have ih := run_places w h2
      simp only [List.mapM_cons, Sem.run_bind, run_sizeOf_of h1, Result.andThen_ok, Sem.run_pure, ih]
    · cases h

def buildT (P : Program) (t : TypeId) (ps : List (Nat × SV)) : Out SV :=
  opt ((zeroT P t).bind (·.cells)) (fun z => match P.underlying t with
    | some (.struct fs) => opt (placesT P fs.toList) (fun pl => opt (fillT (pl[·]?) z ps) (fun l => .leaf (.a l)) 132) 133
    | some (.array _ el) => opt (sizeT P el) (fun n => opt (fillT (fun i => some (i * n, n)) z ps) (fun l => .leaf (.a l)) 134) 135
    | _ => .bad 136) 137
theorem buildT_ok {P : Program} {ρ : Rho} {H : Hp} {w : World} {t : TypeId} {ps : List (Nat × SV)} {qs : Array (Nat × Value)} {K : SV → Prop} (hp : PIs H.sc ρ ps qs.toList) (hh : (buildT P t ps).holds K) : PureOK ρ H K w ((Instr.build t qs).run P w) := by
  obtain ⟨z, hz, hh⟩ := opt_holds hh
  cases hz0 : zeroT P t with
  | none => simp [hz0] at hz
  | some zs =>
    simp only [hz0, Option.bind_some] at hz
    obtain ⟨i, zv, hi, hzz, hzs⟩ := zeroT_is hz0 (n := H.sc) (ρ := ρ)
    obtain ⟨vs, hvs, hl⟩ := SV.cells_is hzs hz
    split at hh
    · rename_i fs hu
      obtain ⟨pl, hpl, hh⟩ := opt_holds hh
      obtain ⟨out, hout, hK⟩ := opt_holds hh
      obtain ⟨us, h1, h2⟩ := fill_ok hp hl hout
      refine ⟨.agg us.toArray, .a out, ?_, hK, .agg h2⟩
      have hm := run_places (P := P) w hpl
      have hm' : (fs.mapM fun f => do pure (f.offset, ← sizeOf f.type) : Sem (Array (Nat × Nat))).run P w = .ok pl.toArray w := by
        rw [Array.mapM_eq_mapM_toList, Sem.run_map, hm]; rfl
      simp only [Instr.build, Sem.run_bind, run_zeroValue_of hi hzz, Result.andThen_ok, run_underlying hu, hm', hvs]
      have e : (fun (x : Nat) => pl.toArray[x]?) = (fun (x : Nat) => pl[x]?) := by funext x; simp
      rw [e, h1]
      simp
    · rename_i m el hu
      obtain ⟨n, hn, hh⟩ := opt_holds hh
      obtain ⟨out, hout, hK⟩ := opt_holds hh
      obtain ⟨us, h1, h2⟩ := fill_ok hp hl hout
      refine ⟨.agg us.toArray, .a out, ?_, hK, .agg h2⟩
      simp only [Instr.build, Sem.run_bind, run_zeroValue_of hi hzz, Result.andThen_ok, run_underlying hu, run_sizeOf_of hn, hvs, h1]
      simp
    · exact hh.elim

def repl {α : Type} (z : List α) : Nat → List α
  | 0 => []
  | n + 1 => z ++ repl z n
theorem repl_map {α β : Type} (f : α → β) (z : List α) (n : Nat) : (repl z n).map f = repl (z.map f) n := by
  induction n with
  | zero => rfl
  | succ n ih => simp [repl, ih]
theorem repl_get {α : Type} (z : List α) (n j : Nat) (hj : j < n * z.length) : (repl z n)[j]? = z[j % z.length]? := by
  induction n generalizing j with
  | zero => simp at hj
  | succ n ih =>
    simp only [repl]
    rw [Nat.add_mul, Nat.one_mul] at hj
    by_cases hz : j < z.length
    · rw [List.getElem?_append_left hz, Nat.mod_eq_of_lt hz]
    · rw [List.getElem?_append_right (by omega), ih _ (by omega)]
      have := Nat.mod_eq_sub_mod (a := j) (b := z.length) (by omega)
      rw [← this]
theorem repl_length {α : Type} (z : List α) (n : Nat) : (repl z n).length = n * z.length := by
  induction n with
  | zero => simp [repl]
  | succ n ih => simp [repl, ih, Nat.add_mul, Nat.add_comm]
theorem madeCells_repl (z : List Value) (n : Nat) : madeCells z.toArray (n * z.length) = (repl z n).toArray := by
  apply Array.ext_getElem?
  intro j
  by_cases hj : j < n * z.length
  · have hz : 0 < z.length := by rcases Nat.eq_zero_or_pos z.length with h | h <;> simp_all
    have hm : j % z.length < z.length := Nat.mod_lt _ hz
    simp [madeCells, hj, repl_get z n j hj, getElem!_pos, hm]
  · have h1 : (repl z n).toArray[j]? = none := by
      rw [List.getElem?_toArray, List.getElem?_eq_none]; rw [repl_length]; omega
    rw [h1]
    simp [madeCells, hj]

/-- A list of cells, cut into columns. -/
def colsOf (sz len : Nat) (l : List SC) : List Col := (List.range sz).map fun f => .ck ((List.range len).map fun e => (l[e * sz + f]?).getD .nilp)
def rowT (H : Hp) (t : TypeId) (cap n : Nat) (cols : List Col) : Hp := ⟨(H.nxt, .row t cap n cols) :: H.h, H.nxt + 1, H.D⟩
theorem ValOK.newRow {φ : Fr} {ρ : Rho} {H : Hp} {w : World} {t : TypeId} {arr : Array Value} {cap n : Nat} {cols : List Col} {K : SV × Hp → Prop} {r : Result Value} {sv : SV} {v : Value} (h : HInv φ ρ H w)
    (hr : r = .ok v (w.alloc (.cells arr t))) (hv : ∀ ρ', ρ' H.nxt 0 = some (w.heap.size, 0) → sv.den ρ' = v) (hK : K (sv, rowT H t cap n cols))
    (hs : arr.size = cap * cols.length) (hn : n ≤ cap) (hc : cap ≤ maxLen)
    (hcells : ∀ e, e < n → ∀ (f : Nat) (col : Col) c, cols[f]? = some col → col.get 0 e = some c → ∃ u, arr[e * cols.length + f]? = some u ∧ CIs H.sc ρ c u) : ValOK φ ρ H K r := by
  refine ⟨v, _, _, sv, rowT H t cap n cols, hr, hK, ρ.set_agree (fun _ hj => hj.1) _, ⟨Nat.le_succ _, rfl⟩, h.alloc t arr _ (.inr ⟨w.heap.size, arr, Rho.set_at _ _ _, heap_alloc_new _ _, hs, hn, hc, ?_⟩), fun ρ' ha => hv ρ' ?_⟩
  · intro e he f col c hf hg
    obtain ⟨u, hu, hi⟩ := hcells e he f col c hf hg
    exact ⟨u, hu, hi.ext (ρ.set_agree (fun _ hj => hj.1) _) (fun k hk => ⟨Nat.lt_succ_of_lt hk.1, hk.2⟩)⟩
  · have := ha H.nxt ⟨Nat.lt_succ_self _, h.up _ (Nat.le_refl _)⟩
    rw [this]; exact ρ.set_at _ _

theorem colsOf_cells {n : Nat → Prop} {ρ : Rho} {sz len : Nat} {l : List SC} {us : List Value} (hl : LIs n ρ l us) (hlen : l.length = len * sz) (e : Nat) (he : e < len) (f : Nat) (col : Col) (c : SC) (hc : (colsOf sz len l)[f]? = some col) (hg : col.get 0 e = some c) :
    ∃ u, us.toArray[e * (colsOf sz len l).length + f]? = some u ∧ CIs n ρ c u := by
  have hlc : (colsOf sz len l).length = sz := by simp [colsOf]
  rw [hlc]
  simp only [colsOf, List.getElem?_map] at hc
  have hf : f < sz := by
    rcases Nat.lt_or_ge f sz with h | h
    · exact h
    · rw [List.getElem?_eq_none (by simpa using h)] at hc; simp at hc
  simp [List.getElem?_range hf] at hc
  subst hc
  simp only [Col.get, List.getElem?_map, List.getElem?_range he, Option.map_some, Option.some.injEq] at hg
  have hin : e * sz + f < l.length := by
    rw [hlen]
    have : (e + 1) * sz ≤ len * sz := Nat.mul_le_mul_right _ he
    rw [Nat.add_mul, Nat.one_mul] at this
    omega
  obtain ⟨d, hd⟩ : ∃ d, l[e * sz + f]? = some d := ⟨_, List.getElem?_eq_getElem hin⟩
  rw [hd, Option.getD_some] at hg
  subst hg
  obtain ⟨u, hu, hi⟩ := hl.get hd
  exact ⟨u, by simpa using hu, hi⟩

theorem fillT_length {pl : Nat → Option (Nat × Nat)} : ∀ {ps : List (Nat × SV)} {cells out : List SC}, fillT pl cells ps = some out → out.length = cells.length
  | [], cells, out, h => by simp [fillT] at h; subst h; rfl
  | (i, x) :: ps, cells, out, h => by
    simp only [fillT] at h
    split at h
    · rename_i off size l _ _
      by_cases hb : (Nat.beq l.length size && Nat.ble (off + l.length) cells.length) = true
      · simp only [hb, cond_true] at h
        rw [fillT_length h, splice_length]
      · simp [hb] at h
    · cases h

def buildSliceT (P : Program) (H : Hp) (t : TypeId) (len : Nat) (ps : List (Nat × SV)) : Out (SV × Hp) :=
  match P.underlying t with
  | some (.slice el) => opt (sizeT P el) (fun n => chk (Nat.ble (len * n) 16777216 && Nat.ble 1 n) (opt ((zeroT P el).bind (·.cells)) (fun z => chk (Nat.beq z.length n)
      (opt (fillT (fun i => some (i * n, n)) (repl z len) ps) (fun l => .leaf (.c (.slc H.nxt (.k 0) (.k 0) n (.k len) (.k len)), rowT H el len len (colsOf n len l))) 140) 141) 142) 143) 144
  | _ => .bad 145
theorem buildSliceT_ok {P : Program} {φ : Fr} {ρ : Rho} {H : Hp} {w : World} {t : TypeId} {len : Nat} {ps : List (Nat × SV)} {qs : Array (Nat × Value)} {K : SV × Hp → Prop} (h : HInv φ ρ H w) (hp : PIs H.sc ρ ps qs.toList)
    (hh : (buildSliceT P H t len ps).holds K) : ValOK φ ρ H K ((Instr.buildSlice t len qs).run P w) := by
  unfold buildSliceT at hh
  split at hh
  · rename_i el hu
    obtain ⟨n, hn, hh⟩ := opt_holds hh
    obtain ⟨hb, hh⟩ := chk_holds hh
    simp only [Bool.and_eq_true] at hb
    have hb1 := Nat.le_of_ble_eq_true hb.1
    have hb2 := Nat.le_of_ble_eq_true hb.2
    obtain ⟨z, hz, hh⟩ := opt_holds hh
    obtain ⟨hzl, hh⟩ := chk_holds hh
    have hzl := Nat.eq_of_beq_eq_true hzl
    obtain ⟨out, hout, hK⟩ := opt_holds hh
    cases hz0 : zeroT P el with
    | none => simp [hz0] at hz
    | some zs =>
      simp only [hz0, Option.bind_some] at hz
      obtain ⟨i, zv, hi, hzz, hzs⟩ := zeroT_is hz0 (n := H.sc) (ρ := ρ)
      obtain ⟨vs, hvs, hl⟩ := SV.cells_is hzs hz
      have hvl : vs.length = n := by rw [hl.len, hzl]
      have hrl : LIs H.sc ρ (repl z len) (repl vs len) := fun ρ' ha => by rw [repl_map, hl ρ' ha]
      obtain ⟨us, h1, h2⟩ := fill_ok hp hrl hout
      have h1' : Instr.fill (fun i => some (i * n, n)) (madeCells vs.toArray (len * n)) qs.toList = some us.toArray := by
        rw [← h1, ← madeCells_repl, hvl]
      have houtl : out.length = len * n := by rw [fillT_length hout, repl_length, hzl]
      have hlm : len ≤ maxLen := by
        have : len * 1 ≤ len * n := Nat.mul_le_mul_left _ hb2
        unfold maxLen; omega
      refine .newRow (arr := us.toArray) h (v := .slice (some ⟨w.heap.size, 0, none⟩) len len) ?_ ?_ hK (by simp [colsOf, h2.len, houtl]) (Nat.le_refl _) hlm (fun e he f col c hc hg => colsOf_cells h2 houtl e he f col c hc hg)
      · have hn1 : ¬ (2 ^ 24 < len * n) := by omega
        by_cases h0 : len * n = 0
        · have hlen : len = 0 := by
            rcases Nat.mul_eq_zero.1 h0 with h | h <;> omega
          subst hlen
          simp only [Nat.zero_mul] at h1'
          have : madeCells vs.toArray 0 = #[] := by simp [madeCells]
          rw [this] at h1'
          simp [Instr.buildSlice, run_underlying hu, run_sizeOf_of hn, newRow, Array.range_zero', h1']
        · unfold madeCells at h1'
          simp only [Instr.buildSlice, Sem.run_bind, run_underlying hu, Result.andThen_ok, run_sizeOf_of hn, gt_iff_lt, hn1, if_false, h0, run_zeroValue_of hi hzz, Sem.run_pure, hvs, h1']
          simp [newRow]
      · intro ρ' hr; simp [SV.den, SC.den, place, hr]
  · exact hh.elim
end Go.Proofs.Ytjpnpaboahbncaa.Sx
