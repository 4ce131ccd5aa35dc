/- A configuration that comes in as an argument: what is known of it. -/
import Derived.Test.YtjpnpaboahbncaaMV
import Derived.Test.YtjpnpaboahbncaaMCk
import Derived.Deep.Slices
import Derived.Test.YtjpnpaboahbncaaMVe
set_option linter.unusedVariables false
set_option linter.unusedSimpArgs false
set_option linter.unusedVariables false
set_option linter.unusedSimpArgs false
namespace Go.Proofs.Ytjpnpaboahbncaa.Vc
open Go Go.RowKit Go.ChangeShapes Go.WideShapes Go.Deep Sx Cn Dc Ck

section
variable {H : Type} {enc : TypeId × Value → H} {P : Program} {w : World}
theorem mapM_all {α β : Type} {g : α → Option β} : ∀ {l : List α} {ys : List β}, l.mapM g = some ys → ∀ a ∈ l, ∃ y, g a = some y
  | [], ys, _, a, ha => by simp at ha
  | b :: l, ys, h, a, ha => by
    rw [List.mapM_cons] at h
    cases hb : g b with
    | none => simp [hb] at h
    | some y =>
      cases hl : l.mapM g with
      | none => simp [hb, hl] at h
      | some zs =>
        rcases List.mem_cons.1 ha with rfl | ha
        · exact ⟨y, hb⟩
        · exact mapM_all hl a ha
theorem trod_fields {t : TypeId} {fs : Array Field} {fuel : Nat} {cs : List Value} {x : DataW H × List MemPlace} (ht : P.underlying t = some (.struct fs)) (h : DataW.trod enc P w 0 (fun _ => true) true fuel t cs = some x) :
    cs.length = P.cellsOf t ∧ ∃ n, ∀ f ∈ fs.toList, ∃ y, DataW.trod enc P w 0 (fun _ => true) true n f.type ((cs.drop f.offset).take (P.cellsOf f.type)) = some y := by
  cases fuel with
  | zero => simp [DataW.trod] at h
  | succ n =>
    unfold DataW.trod at h
    rw [ht] at h
    simp only at h
    split at h
    · rename_i hl
      refine ⟨hl, n, ?_⟩
      simp only [Option.map_eq_some_iff] at h
      obtain ⟨xs, h1, _⟩ := h
      exact mapM_all h1
    · cases h
/-- A field of one integer. -/
theorem field_int {t : TypeId} {k : IntKind} {n o : Nat} {cs : List Value} {y : DataW H × List MemPlace} (ht : P.underlying t = some (.int k)) (hc : P.cellsOf t = 1) (h : DataW.trod enc P w 0 (fun _ => true) true n t ((cs.drop o).take (P.cellsOf t)) = some y) :
    ∃ z, cs[o]? = some (.int k z) ∧ (Lit.int k z).wf = true := by
  rw [hc] at h
  obtain ⟨z, h1, _, h2⟩ := DataW.trod_int ht h
  refine ⟨z, ?_, h2⟩
  have := congrArg (·[0]?) h1
  simpa using this
/-- A field of one slice. -/
theorem field_slice {t e : TypeId} {n o : Nat} {cs : List Value} {y : DataW H × List MemPlace} (ht : P.underlying t = some (.slice e)) (hc : P.cellsOf t = 1) (h : DataW.trod enc P w 0 (fun _ => true) true n t ((cs.drop o).take (P.cellsOf t)) = some y) :
    ∃ a len cap, cs[o]? = some (.slice a len cap) ∧ len ≤ cap ∧ cap ≤ maxLen ∧ ∃ m, ∀ i, i < len → ∃ x cs', a = some x ∧ w.cells? 0 (x.add (i * P.cellsOf e)) (P.cellsOf e) = some cs' ∧ ∃ y, DataW.trod enc P w 0 (fun _ => true) true m e cs' = some y := by
  rw [hc] at h
  rcases open_slice ht h with ⟨h0, _⟩ | ⟨a, len, cap, m, n, D, Pl, h0, hb, hl, hm, hmm, rfl, hx⟩
  · have := congrArg (·[0]?) h0
    exact ⟨none, 0, 0, by simpa using this, Nat.le_refl _, by simp [maxLen], 0, fun i hi => absurd hi (Nat.not_lt_zero _)⟩
  · have := congrArg (·[0]?) h0
    refine ⟨some a, len, cap, by simpa using this, hl, hm, n, fun i hi => ?_⟩
    obtain ⟨cs', h1, h2⟩ := hx i (by simp at hmm; omega)
    exact ⟨a, cs', rfl, h1, _, h2⟩
theorem at_field {fs : Array Field} {l : List (Nat × TypeId)} (hfs : fs.toList.map (fun f => (f.offset, f.type)) = l) {o : Nat} {t : TypeId} (h : (o, t) ∈ l) : ∃ f ∈ fs.toList, f.offset = o ∧ f.type = t := by
  rw [← hfs] at h
  obtain ⟨f, h1, h2⟩ := List.mem_map.1 h
  cases h2
  exact ⟨f, h1, rfl, rfl⟩
/-- A struct of three integers, in memory. -/
theorem three_ints {t tf : TypeId} {fs : Array Field} {n : Nat} {a : Addr} {cs : List Value} {y : DataW H × List MemPlace} (ht : P.underlying t = some (.struct fs)) (hfs : fs.toList.map (fun f => (f.offset, f.type)) = [(0, tf), (1, tf), (2, tf)])
    (hi : P.underlying tf = some (.int .i64)) (hc1 : P.cellsOf tf = 1) (hc : P.cellsOf t = 3) (hcs : w.cells? 0 a (P.cellsOf t) = some cs) (h : DataW.trod enc P w 0 (fun _ => true) true n t cs = some y) :
    ∃ z : Int × Int × Int, (w.cell? a = some (.int .i64 z.1) ∧ w.cell? (a.add 1) = some (.int .i64 z.2.1) ∧ w.cell? (a.add 2) = some (.int .i64 z.2.2)) ∧ (Lit.int .i64 z.1).wf = true ∧ (Lit.int .i64 z.2.1).wf = true ∧ (Lit.int .i64 z.2.2).wf = true := by
  obtain ⟨hl, m, hf⟩ := trod_fields ht h
  obtain ⟨_, hlen, hcell⟩ := World.cells?_some hcs
  have go : ∀ o, (o, tf) ∈ [(0, tf), (1, tf), (2, tf)] → ∃ z, cs[o]? = some (.int .i64 z) ∧ (Lit.int .i64 z).wf = true := by
    intro o ho
    obtain ⟨f, h1, h2, h3⟩ := at_field hfs ho
    obtain ⟨y0, g0⟩ := hf f h1
    rw [h2, h3] at g0
    exact field_int hi hc1 g0
  obtain ⟨z0, e0, w0⟩ := go 0 (by simp)
  obtain ⟨z1, e1, w1⟩ := go 1 (by simp)
  obtain ⟨z2, e2, w2⟩ := go 2 (by simp)
  rw [hc] at hcell
  refine ⟨(z0, z1, z2), ⟨?_, ?_, ?_⟩, w0, w1, w2⟩
  · have := hcell 0 (by omega); rw [e0] at this; simpa [Addr.add] using this
  · have := hcell 1 (by omega); rw [e1] at this; exact this
  · have := hcell 2 (by omega); rw [e2] at this; exact this
theorem pick_lt {α : Type} [Inhabited α] {n : Nat} {p : Nat → α → Prop} (h : ∀ i, i < n → ∃ v, p i v) : ∃ V : Nat → α, ∀ i, i < n → p i (V i) := by
  classical
  refine ⟨fun i => if hi : i < n then Classical.choose (h i hi) else default, fun i hi => ?_⟩
  simp only [dif_pos hi]
  exact Classical.choose_spec (h i hi)
/-- A slice of structs of three integers. -/
theorem slice_threes {tS t tf : TypeId} {fs : Array Field} {n o : Nat} {cs : List Value} {y : DataW H × List MemPlace} (hS : P.underlying tS = some (.slice t)) (hcS : P.cellsOf tS = 1) (ht : P.underlying t = some (.struct fs)) (hfs : fs.toList.map (fun f => (f.offset, f.type)) = [(0, tf), (1, tf), (2, tf)])
    (hi : P.underlying tf = some (.int .i64)) (hc1 : P.cellsOf tf = 1) (hc : P.cellsOf t = 3) (h : DataW.trod enc P w 0 (fun _ => true) true n tS ((cs.drop o).take (P.cellsOf tS)) = some y) :
    ∃ q : Option Addr × Nat × Nat × (Nat → Int × Int × Int), cs[o]? = some (.slice q.1 q.2.1 q.2.2.1) ∧ (q.2.1 ≤ q.2.2.1 ∧ q.2.2.1 ≤ maxLen) ∧ ∀ e, e < q.2.1 → ∃ x, q.1 = some x ∧ (w.cell? (x.add (e * 3)) = some (.int .i64 (q.2.2.2 e).1) ∧ w.cell? ((x.add (e * 3)).add 1) = some (.int .i64 (q.2.2.2 e).2.1) ∧ w.cell? ((x.add (e * 3)).add 2) = some (.int .i64 (q.2.2.2 e).2.2)) ∧
      (Lit.int .i64 (q.2.2.2 e).1).wf = true ∧ (Lit.int .i64 (q.2.2.2 e).2.1).wf = true ∧ (Lit.int .i64 (q.2.2.2 e).2.2).wf = true := by
  obtain ⟨a, len, cap, h1, h2, h3, m, h4⟩ := field_slice hS hcS h
  obtain ⟨V, hV⟩ := pick_lt (α := Int × Int × Int) (n := len) (p := fun e z => ∃ x, a = some x ∧ (w.cell? (x.add (e * 3)) = some (.int .i64 z.1) ∧ w.cell? ((x.add (e * 3)).add 1) = some (.int .i64 z.2.1) ∧ w.cell? ((x.add (e * 3)).add 2) = some (.int .i64 z.2.2)) ∧
      (Lit.int .i64 z.1).wf = true ∧ (Lit.int .i64 z.2.1).wf = true ∧ (Lit.int .i64 z.2.2).wf = true) (fun e he => by
    obtain ⟨x, cs', hx, hcs, y, hy⟩ := h4 e he
    obtain ⟨z, g1, g2⟩ := three_ints ht hfs hi hc1 hc hcs hy
    rw [hc] at g1
    exact ⟨z, x, hx, g1, g2⟩)
  exact ⟨(a, len, cap, V), h1, ⟨h2, h3⟩, hV⟩
end
theorem wfi {z : Int} (h : (Lit.int .i64 z).wf = true) : -9223372036854775808 ≤ z ∧ z ≤ 9223372036854775807 := wf_i64 h
/-- What is known of a configuration that came in. -/
structure IsCfg (w : World) (c : Cf) (a9 a10 : Option Addr) (aI : Nat → Option Addr) : Prop where
  p : ∀ e, e < c.nP → ∃ x, a9 = some x ∧ w.cell? (x.add e) = some (.slice (aI e) (c.lenP e) (c.FC e))
  i : ∀ i, i < c.nP → ∀ e, e < c.lenP i → ∃ x, aI i = some x ∧ w.cell? (x.add (e * 3)) = some (.int .i64 (c.iO i e)) ∧ w.cell? ((x.add (e * 3)).add 1) = some (.int .i64 (c.iA i e)) ∧ w.cell? ((x.add (e * 3)).add 2) = some (.int .i64 (c.iB i e))
  u : ∀ e, e < c.nU → ∃ x, a10 = some x ∧ w.cell? (x.add (e * 3)) = some (.int .i64 (c.uP e)) ∧ w.cell? ((x.add (e * 3)).add 1) = some (.int .i64 (c.uL e)) ∧ w.cell? ((x.add (e * 3)).add 2) = some (.int .i64 (c.uD e))
  n : ∀ x ∈ [c.W, c.L, c.C, c.T, c.D, c.H, c.B, c.A, c.P], -9223372036854775808 ≤ x ∧ x ≤ 9223372036854775807
  ri : ∀ i, i < c.nP → ∀ e, e < c.lenP i → ∀ x ∈ [c.iO i e, c.iA i e, c.iB i e], -9223372036854775808 ≤ x ∧ x ≤ 9223372036854775807
  ru : ∀ e, e < c.nU → ∀ x ∈ [c.uP e, c.uL e, c.uD e], -9223372036854775808 ≤ x ∧ x ≤ 9223372036854775807
  lp : c.nP ≤ c.rc ∧ c.rc ≤ maxLen
  lu : c.nU ≤ c.cu ∧ c.cu ≤ maxLen
  li : ∀ i, i < c.nP → c.lenP i ≤ c.FC i ∧ c.FC i ≤ maxLen
def cfgVal (c : Cf) (a9 a10 : Option Addr) : Value := .agg #[.int .i64 c.W, .int .i64 c.L, .int .i64 c.C, .int .i64 c.T, .int .i64 c.D, .int .i64 c.H, .int .i64 c.B, .int .i64 c.A, .int .i64 c.P, .slice a9 c.nP c.rc, .slice a10 c.nU c.cu]
/-- Its blocks, from a name on. -/
def hCm (m : Nat) (c : Cf) : HL := [(m, .view 1 (fun _ => c.nP) [.cs (m + 2) 3 (fun _ e => e) (fun _ e => c.lenP e) (fun _ e => c.FC e)]), (m + 1, .view 1 (fun _ => c.nU) [.ci .i64 fun _ e => c.uP e, .ci .i64 fun _ e => c.uL e, .ci .i64 fun _ e => c.uD e]), (m + 2, .view c.nP c.lenP [.ci .i64 fun i e => c.iO i e, .ci .i64 fun i e => c.iA i e, .ci .i64 fun i e => c.iB i e])]
def argCm (m : Nat) (c : Cf) : SV := .a [.iv .i64 c.W, .iv .i64 c.L, .iv .i64 c.C, .iv .i64 c.T, .iv .i64 c.D, .iv .i64 c.H, .iv .i64 c.B, .iv .i64 c.A, .iv .i64 c.P, slK m 1 c.nP c.rc, slK (m + 1) 3 c.nU c.cu]
section
variable {w : World} {c : Cf} {a9 a10 : Option Addr} {aI : Nat → Option Addr}
theorem adr0 (x : Addr) : adr (x.block, ⟨x.off, x.spot⟩) = x := rfl
theorem place0 {ρ : Rho} {key : Nat} {i : NV} {a : Option Addr} (h : ρ key i.v = addr0 a) : place ρ key i 0 = a := by
  unfold place
  rw [h]
  cases a with
  | none => rfl
  | some x => simp [addr0, Addr.add, adr0]
theorem cell_blk {x : Addr} {k : Nat} {v : Value} (h : w.cell? (x.add k) = some v) : x.block < w.heap.size := by
  have := cell_lt h
  have e : (x.add k).block = x.block := by unfold Addr.add; split <;> rfl
  rwa [e] at this
theorem IsCfg.sat {m : Nat} (h : IsCfg w c a9 a10 aI) {n : Nat → Prop} {ρ : Rho} (h0 : ρ m 0 = addr0 a9) (h1 : ρ (m + 1) 0 = addr0 a10) (h2 : ∀ i, ρ (m + 2) i = addr0 (aI i)) (hn : n (m + 2)) :
    ∀ k b, find k (hCm m c) = some b → b.isRow = false ∧ k < m + 3 ∧ m ≤ k ∧ b.sat n ρ k w ∧ ∀ i, b.live i → ∀ y o, ρ k i = some (y, o) → y < w.heap.size := by
  intro k b hf
  unfold hCm at hf
  simp only [find_cons] at hf
  split at hf
  · rename_i e; have e := e.symm; subst e; cases hf
    refine ⟨rfl, by omega, Nat.le_refl _, ?_, ?_⟩
    · intro i hi e he
      have : i = 0 := by omega
      subst this
      obtain ⟨x, hx, hc⟩ := h.p e he
      refine ⟨x.block, ⟨x.off, x.spot⟩, by rw [h0, hx]; rfl, fun f col d hcol hd => ?_⟩
      cases f with
      | zero =>
        simp at hcol; subst hcol
        simp only [Col.get, Option.some.injEq] at hd
        subst hd
        refine ⟨_, by simpa [adr0] using hc, fun ρ' ha => ?_⟩
        have e2 : ρ' (m + 2) e = addr0 (aI e) := by rw [ha _ hn]; exact h2 e
        simp only [SC.den, NV.v_s, NV.v_k, Nat.zero_mul]
        rw [place0 (i := .s e) e2]
      | succ f => simp at hcol
    · rintro i ⟨hi, hl⟩ y o hy
      have : i = 0 := by omega
      subst this
      obtain ⟨x, hx, hc⟩ := h.p 0 hl
      rw [h0, hx] at hy; cases hy
      exact cell_blk hc
  split at hf
  · rename_i e; subst e; cases hf
    refine ⟨rfl, by omega, by omega, ?_, ?_⟩
    · intro i hi e he
      have : i = 0 := by omega
      subst this
      obtain ⟨x, hx, c0, c1, c2⟩ := h.u e he
      refine ⟨x.block, ⟨x.off, x.spot⟩, by rw [h1, hx]; rfl, fun f col d hcol hd => ?_⟩
      rw [adr_add] at c1 c2
      match f, hcol with
      | 0, hcol => simp at hcol; subst hcol; simp only [Col.get, Option.some.injEq] at hd; subst hd; exact ⟨_, by simpa [adr0] using c0, fun _ _ => rfl⟩
      | 1, hcol => simp at hcol; subst hcol; simp only [Col.get, Option.some.injEq] at hd; subst hd; exact ⟨_, by simpa [adr0] using c1, fun _ _ => rfl⟩
      | 2, hcol => simp at hcol; subst hcol; simp only [Col.get, Option.some.injEq] at hd; subst hd; exact ⟨_, by simpa [adr0] using c2, fun _ _ => rfl⟩
      | f + 3, hcol => simp at hcol
    · rintro i ⟨hi, hl⟩ y o hy
      have : i = 0 := by omega
      subst this
      obtain ⟨x, hx, hc, _⟩ := h.u 0 hl
      rw [h1, hx] at hy; cases hy
      exact cell_blk hc
  split at hf
  · rename_i e; subst e; cases hf
    refine ⟨rfl, by omega, by omega, ?_, ?_⟩
    · intro i hi e he
      obtain ⟨x, hx, c0, c1, c2⟩ := h.i i hi e he
      refine ⟨x.block, ⟨x.off, x.spot⟩, by rw [h2, hx]; rfl, fun f col d hcol hd => ?_⟩
      rw [adr_add] at c1 c2
      match f, hcol with
      | 0, hcol => simp at hcol; subst hcol; simp only [Col.get, Option.some.injEq] at hd; subst hd; exact ⟨_, by simpa [adr0] using c0, fun _ _ => rfl⟩
      | 1, hcol => simp at hcol; subst hcol; simp only [Col.get, Option.some.injEq] at hd; subst hd; exact ⟨_, by simpa [adr0] using c1, fun _ _ => rfl⟩
      | 2, hcol => simp at hcol; subst hcol; simp only [Col.get, Option.some.injEq] at hd; subst hd; exact ⟨_, by simpa [adr0] using c2, fun _ _ => rfl⟩
      | f + 3, hcol => simp at hcol
    · rintro i ⟨hi, hl⟩ y o hy
      obtain ⟨x, hx, hc, _⟩ := h.i i hi 0 hl
      rw [h2, hx] at hy; cases hy
      exact cell_blk hc
  · cases hf
theorem IsCfg.val {n : Nat → Prop} {ρ : Rho} {m : Nat} (h0 : ρ m 0 = addr0 a9) (h1 : ρ (m + 1) 0 = addr0 a10) (g0 : n m) (g1 : n (m + 1)) : SIs n ρ (argCm m c) (cfgVal c a9 a10) := fun ρ' ha => by
  have e0 : ρ' m 0 = addr0 a9 := by rw [ha _ g0]; exact h0
  have e1 : ρ' (m + 1) 0 = addr0 a10 := by rw [ha _ g1]; exact h1
  simp [argCm, cfgVal, SV.den, SC.den, slK, place0 (i := .k 0) e0, place0 (i := .k 0) e1]
end
theorem agg_eleven {cs : Array Value} {v0 v1 v2 v3 v4 v5 v6 v7 v8 v9 v10 : Value} (hs : cs.toList.length = 11) (h0 : cs.toList[0]? = some v0) (h1 : cs.toList[1]? = some v1) (h2 : cs.toList[2]? = some v2) (h3 : cs.toList[3]? = some v3) (h4 : cs.toList[4]? = some v4) (h5 : cs.toList[5]? = some v5)
    (h6 : cs.toList[6]? = some v6) (h7 : cs.toList[7]? = some v7) (h8 : cs.toList[8]? = some v8) (h9 : cs.toList[9]? = some v9) (h10 : cs.toList[10]? = some v10) : cs = #[v0, v1, v2, v3, v4, v5, v6, v7, v8, v9, v10] := by
  obtain ⟨l⟩ := cs
  match l, hs with
  | [_, _, _, _, _, _, _, _, _, _, _], _ => simp at *; simp [*]
theorem open_cfg {H : Type} {enc : TypeId × Value → H} {P : Program} {w : World} {r : Reach} {base : Nat} {tC tPP tP tI tS tU tf : TypeId} {fs fI fU : Array Field} {v : Value} {d : DataW H} {ps : List MemPlace} (hC : P.underlying tC = some (.struct fs))
    (hfs : fs.toList.map (fun f => (f.offset, f.type)) = [(0, tf), (1, tf), (2, tf), (3, tf), (4, tf), (5, tf), (6, tf), (7, tf), (8, tf), (9, tPP), (10, tS)]) (hPP : P.underlying tPP = some (.slice tP)) (hP : P.underlying tP = some (.slice tI)) (hI : P.underlying tI = some (.struct fI))
    (hfI : fI.toList.map (fun f => (f.offset, f.type)) = [(0, tf), (1, tf), (2, tf)]) (hS : P.underlying tS = some (.slice tU)) (hU : P.underlying tU = some (.struct fU)) (hfU : fU.toList.map (fun f => (f.offset, f.type)) = [(0, tf), (1, tf), (2, tf)])
    (hi : P.underlying tf = some (.int .i64)) (cC : P.cellsOf tC = 11) (cf : P.cellsOf tf = 1) (cPP : P.cellsOf tPP = 1) (cP : P.cellsOf tP = 1) (cI : P.cellsOf tI = 3) (cS : P.cellsOf tS = 1) (cU : P.cellsOf tU = 3)
    (hval : Value.okWide P w r base tC v) (h : DataW.Trod enc P w 0 (fun _ => true) true tC v d ps) : ∃ c a9 a10 aI, v = cfgVal c a9 a10 ∧ IsCfg w c a9 a10 aI := by
  obtain ⟨cs, rfl, hsz⟩ := okWide_struct hC hval
  obtain ⟨fuel, h⟩ := h
  obtain ⟨hl, n, hf⟩ := trod_fields hC h
  have hcs : (Value.agg cs).cells.toList = cs.toList := rfl
  rw [hcs] at hl hf
  have go : ∀ o, (o, tf) ∈ [(0, tf), (1, tf), (2, tf), (3, tf), (4, tf), (5, tf), (6, tf), (7, tf), (8, tf), (9, tPP), (10, tS)] → ∃ z, cs.toList[o]? = some (.int .i64 z) ∧ (Lit.int .i64 z).wf = true := by
    intro o ho
    obtain ⟨f, h1, h2, h3⟩ := at_field hfs ho
    obtain ⟨y0, g0⟩ := hf f h1
    rw [h2, h3] at g0
    exact field_int hi cf g0
  obtain ⟨z0, e0, w0⟩ := go 0 (by simp)
  obtain ⟨z1, e1, w1⟩ := go 1 (by simp)
  obtain ⟨z2, e2, w2⟩ := go 2 (by simp)
  obtain ⟨z3, e3, w3⟩ := go 3 (by simp)
  obtain ⟨z4, e4, w4⟩ := go 4 (by simp)
  obtain ⟨z5, e5, w5⟩ := go 5 (by simp)
  obtain ⟨z6, e6, w6⟩ := go 6 (by simp)
  obtain ⟨z7, e7, w7⟩ := go 7 (by simp)
  obtain ⟨z8, e8, w8⟩ := go 8 (by simp)
  obtain ⟨f9, k1, k2, k3⟩ := at_field hfs (o := 9) (t := tPP) (by simp)
  obtain ⟨y9, g9⟩ := hf f9 k1
  rw [k2, k3] at g9
  obtain ⟨a9, nP, rc, e9, p1, p2, m, p3⟩ := field_slice hPP cPP g9
  obtain ⟨f10, j1, j2, j3⟩ := at_field hfs (o := 10) (t := tS) (by simp)
  obtain ⟨y10, g10⟩ := hf f10 j1
  rw [j2, j3] at g10
  obtain ⟨⟨a10, nU, cu, U⟩, e10, u1, u2⟩ := slice_threes hS cS hU hfU hi cf cU g10
  simp only at e10 u1 u2
  obtain ⟨Q, hQ⟩ := pick_lt (α := Option Addr × Nat × Nat × (Nat → Int × Int × Int)) (n := nP) (p := fun i q => (∃ x, a9 = some x ∧ w.cell? (x.add i) = some (.slice q.1 q.2.1 q.2.2.1)) ∧ (q.2.1 ≤ q.2.2.1 ∧ q.2.2.1 ≤ maxLen) ∧
      ∀ e, e < q.2.1 → ∃ x, q.1 = some x ∧ (w.cell? (x.add (e * 3)) = some (.int .i64 (q.2.2.2 e).1) ∧ w.cell? ((x.add (e * 3)).add 1) = some (.int .i64 (q.2.2.2 e).2.1) ∧ w.cell? ((x.add (e * 3)).add 2) = some (.int .i64 (q.2.2.2 e).2.2)) ∧
      (Lit.int .i64 (q.2.2.2 e).1).wf = true ∧ (Lit.int .i64 (q.2.2.2 e).2.1).wf = true ∧ (Lit.int .i64 (q.2.2.2 e).2.2).wf = true) (fun i hi' => by
    obtain ⟨x, cs', hx, hcs, y, hy⟩ := p3 i hi'
    rw [cP, Nat.mul_one] at hcs
    obtain ⟨_, hlen, hcell⟩ := World.cells?_some hcs
    have hy' : DataW.trod enc P w 0 (fun _ => true) true m tP ((cs'.drop 0).take (P.cellsOf tP)) = some y := by
      rw [List.drop_zero, cP, List.take_of_length_le (by omega)]; exact hy
    obtain ⟨q, h1, h2, h3⟩ := slice_threes hP cP hI hfI hi cf cI hy'
    refine ⟨q, ⟨x, hx, ?_⟩, h2, h3⟩
    have := hcell 0 (by omega)
    rw [h1] at this
    simpa [Addr.add] using this)
  refine ⟨⟨z0, z1, z2, z3, z4, z5, z6, z7, z8, nP, rc, nU, cu, fun i => (Q i).2.1, fun i => (Q i).2.2.1, fun i e => ((Q i).2.2.2 e).1, fun i e => ((Q i).2.2.2 e).2.1, fun i e => ((Q i).2.2.2 e).2.2, fun e => (U e).1, fun e => (U e).2.1, fun e => (U e).2.2⟩, a9, a10, fun i => (Q i).1, ?_, ?_⟩
  · unfold cfgVal
    congr 1
    exact agg_eleven (by rw [hl, cC]) e0 e1 e2 e3 e4 e5 e6 e7 e8 e9 e10
  · refine ⟨fun e he => (hQ e he).1, fun i hi' e he => ?_, fun e he => ?_, ?_, fun i hi' e he => ?_, fun e he => ?_, ⟨p1, p2⟩, u1, fun i hi' => (hQ i hi').2.1⟩
    · obtain ⟨x, h1, h2, _⟩ := (hQ i hi').2.2 e he
      exact ⟨x, h1, h2⟩
    · obtain ⟨x, h1, h2, _⟩ := u2 e he
      exact ⟨x, h1, h2⟩
    · intro x hx
      simp only [List.mem_cons, List.not_mem_nil, or_false] at hx
      rcases hx with rfl | rfl | rfl | rfl | rfl | rfl | rfl | rfl | rfl
      all_goals (apply wfi; assumption)
    · obtain ⟨x, _, _, h1, h2, h3⟩ := (hQ i hi').2.2 e he
      intro y hy
      simp only [List.mem_cons, List.not_mem_nil, or_false] at hy
      rcases hy with rfl | rfl | rfl
      · exact wfi h1
      · exact wfi h2
      · exact wfi h3
    · obtain ⟨x, _, _, h1, h2, h3⟩ := u2 e he
      intro y hy
      simp only [List.mem_cons, List.not_mem_nil, or_false] at hy
      rcases hy with rfl | rfl | rfl
      · exact wfi h1
      · exact wfi h2
      · exact wfi h3
/-- The table of a configuration's places, from a name on. -/
def tabC (m : Nat) (a9 a10 : Option Addr) (aI : Nat → Option Addr) (ρ : Rho) : Rho := fun k i => if k = m then (if i = 0 then addr0 a9 else none) else if k = m + 1 then (if i = 0 then addr0 a10 else none) else if k = m + 2 then addr0 (aI i) else ρ k i
theorem tabC_h (m : Nat) (a9 a10 : Option Addr) (aI : Nat → Option Addr) (ρ : Rho) : tabC m a9 a10 aI ρ m 0 = addr0 a9 ∧ tabC m a9 a10 aI ρ (m + 1) 0 = addr0 a10 ∧ (∀ i, tabC m a9 a10 aI ρ (m + 2) i = addr0 (aI i)) ∧ ∀ k, k < m → tabC m a9 a10 aI ρ k = ρ k := by
  refine ⟨by simp [tabC], by simp [tabC], fun i => by simp [tabC], fun k hk => ?_⟩
  funext i
  simp only [tabC]
  rw [if_neg (by omega), if_neg (by omega), if_neg (by omega)]
end Go.Proofs.Ytjpnpaboahbncaa.Vc


/- ConfigChecks: light, awake, changed; what is said of them. -/
set_option linter.unusedVariables false
set_option maxRecDepth 100000
namespace Go.Proofs.Ytjpnpaboahbncaa.Vc
open Go Go.RowKit Sx Cn Dc Ck
noncomputable section
/-- What Decode answers, of bytes: a configuration. -/
def decOf (g : Nat → Int) (len : Nat) (FC : Nat → Nat) (rc cu : Nat) : Cf := ⟨dW g len, dL g len, dC g len, dT g len, dD g len, dH g len, dB g len, dA g len, dP g len, nP g len, rc, nU g len, cu, fun e => lenP g len e, fun e => FC e, fun i e => cO g len i e, fun i e => cA g len i e, fun i e => cB g len i e, fun e => uP g len e, fun e => uL g len e, fun e => uD g len e⟩
def IsDec (g : Nat → Int) (len : Nat) (d : Cf) : Prop := ∃ FC rc cu, ((∀ e, e < nP g len → lenP g len e ≤ FC e) ∧ nP g len ≤ rc ∧ nU g len ≤ cu) ∧ d = decOf g len FC rc cu
def hDec (d : Cf) : HL := [(1, .fam true 94 (gd d.nP d.FC) (gd d.nP d.lenP) [.ci .i64 fun i e => d.iO i e, .ci .i64 fun i e => d.iA i e, .ci .i64 fun i e => d.iB i e]),
  (2, .row 92 d.rc d.nP [.cs 1 3 (fun _ e => e) (fun _ e => d.lenP e) (fun _ e => d.FC e)]), (3, .row 96 d.cu d.nU [.ci .i64 fun _ e => d.uP e, .ci .i64 fun _ e => d.uL e, .ci .i64 fun _ e => d.uD e])]
def outD (g : Nat → Int) (len : Nat) : Out (SV × Hp) := .need (U8 len g) (.any Cf (IsDec g len) fun d => .leaf (.a [.iv .i64 d.W, .iv .i64 d.L, .iv .i64 d.C, .iv .i64 d.T, .iv .i64 d.D, .iv .i64 d.H, .iv .i64 d.B, .iv .i64 d.A, .iv .i64 d.P, slK 2 1 d.nP d.rc, slK 3 3 d.nU d.cu], ⟨hDec d, 4, fun _ => True⟩))
theorem outD_h (g : Nat → Int) (len cap : Nat) (K : SV × Hp → Prop) (h : (outD g len).holds K) : (post56 g len cap).holds K := by
  obtain ⟨h0, ⟨d, FC0, rc0, cu0, hd, _⟩, h1⟩ := h
  refine ⟨h0, ⟨FC0, hd.1⟩, fun FC hF => ⟨⟨rc0, hd.2.1⟩, fun rc hr => ⟨⟨cu0, hd.2.2⟩, fun cu hu => ?_⟩⟩⟩
  exact h1 (decOf g len FC rc cu) ⟨FC, rc, cu, ⟨hF, hr, hu⟩, rfl⟩
def conDec : List SV → Hp → Out (SV × Hp) := fun args H => match args with
  | [.c (.slc kb _ _ _ len cap)] => match rowFn H.h kb 0 with
    | some g => useP [kb] 1 [.c (slK 0 1 len.v cap.v)] [(0, ints .u8 len.v g)] (outD g len.v) args H
    | _ => .bad 420
  | _ => .bad 421
theorem conDec_ok : ContractOK P 56 conDec := contract_of_useP fun args H => by
  unfold conDec
  repeat' split
  all_goals first | exact .inl ⟨_, rfl⟩ | exact .inr ⟨_, _, _, _, _, rfl, (local56 _ _ _).mono (outD_h _ _ _)⟩
/-! ### changed -/
structure N9 where
  a0 : Int
  a1 : Int
  a2 : Int
  a3 : Int
  a4 : Int
  a5 : Int
  a6 : Int
  a7 : Int
  a8 : Int
def rd9 : SV → Option N9
  | .a [x0, x1, x2, x3, x4, x5, x6, x7, x8, _, _] => match numC x0, numC x1, numC x2, numC x3, numC x4, numC x5, numC x6, numC x7, numC x8 with
    | some a, some b, some c, some d, some e, some f, some g, some h, some i => some ⟨a, b, c, d, e, f, g, h, i⟩
    | _, _, _, _, _, _, _, _, _ => none
  | _ => none
def slKs : SV → Option (Nat × Nat × Nat × Nat × Nat × Nat)
  | .a [_, _, _, _, _, _, _, _, _, .slc kr _ _ _ nP rc, .slc ku _ _ _ nU cu] => some (kr, nP.v, rc.v, ku, nU.v, cu.v)
  | _ => none
/-- The configuration that a value and a heap say. -/
def rdCf (s : SV) (H : HL) : Option (Cf × List Nat) := match rd9 s, slKs s with
  | some x, some (kr, nP, rc, ku, nU, cu) => match find kr H, find ku H with
    | some br, some bu => match Ck.colsOf br, Ck.colsOf bu with
      | [.cs kF _ _ ln cp], [.ci _ f, .ci _ g, .ci _ h] => match find kF H with
        | some bF => match Ck.colsOf bF with
          | [.ci _ o, .ci _ a, .ci _ b] => some (⟨x.a0, x.a1, x.a2, x.a3, x.a4, x.a5, x.a6, x.a7, x.a8, nP, rc, nU, cu, fun e => ln 0 e, fun e => cp 0 e, o, a, b, fun e => f 0 e, fun e => g 0 e, fun e => h 0 e⟩, [kr, ku, kF])
          | _ => none
        | _ => none
      | _, _ => none
    | _, _ => none
  | _, _ => none
/-- A configuration in blocks of its own, from a name on. -/
def hOwn (m : Nat) (c : Cf) : HL := [(m, .row 92 c.rc c.nP [.cs (m + 2) 3 (fun _ e => e) (fun _ e => c.lenP e) (fun _ e => c.FC e)]), (m + 1, .row 96 c.cu c.nU [.ci .i64 fun _ e => c.uP e, .ci .i64 fun _ e => c.uL e, .ci .i64 fun _ e => c.uD e]),
  (m + 2, .fam true 94 (gd c.nP c.FC) (gd c.nP c.lenP) [.ci .i64 fun i e => c.iO i e, .ci .i64 fun i e => c.iA i e, .ci .i64 fun i e => c.iB i e])]
def smallC (c : Cf) : Prop := (1 ≤ c.nP ∧ c.nP ≤ 4 ∧ c.nU ≤ 5 ∧ c.nP ≤ c.rc ∧ c.nU ≤ c.cu) ∧ (∀ i, i < c.nP → c.lenP i ≤ 5) ∧ ∀ i, i < c.nP → c.lenP i ≤ c.FC i
end
end Go.Proofs.Ytjpnpaboahbncaa.Vc


/- ConfigChecks: light, awake, changed; the contracts. -/
set_option linter.unusedVariables false
set_option linter.unusedSimpArgs false
set_option maxRecDepth 100000
namespace Go.Proofs.Ytjpnpaboahbncaa.Vc
open Go Go.RowKit Sx Cn Dc Ck

/-! ### What Encode writes are bytes; what Decode makes of bytes is small. -/
def R8 (s : Bw) : Prop := ∀ e, 0 ≤ s.g e ∧ s.g e ≤ 255
theorem wrap8 (v : Int) : 0 ≤ IntKind.u8.wrap v ∧ IntKind.u8.wrap v ≤ 255 := by
  have h : IntKind.u8.wrap v = v % 256 := rfl
  omega
theorem R8.put {s : Bw} (h : R8 s) (v k : Int) : R8 (s.put v k) := fun e => by
  show 0 ≤ putG s.n s.g v k e ∧ putG s.n s.g v k e ≤ 255
  unfold putG
  split
  · exact h e
  split
  · exact wrap8 v
  · exact h e
theorem R8.instr {s : Bw} (h : R8 s) (c : Cf) (o a b : Int) : R8 (s.instr c o a b) := by
  unfold Bw.instr
  split
  · exact (h.put _ _).put _ _
  split
  · exact ((h.put _ _).put _ _).put _ _
  · exact (h.put _ _).put _ _
theorem R8.putIs {c : Cf} {i : Nat} : ∀ (m k : Nat) {s : Bw}, R8 s → R8 (putIs c i k m s)
  | 0, _, _, h => h
  | m + 1, k, _, h => R8.putIs m (k + 1) (h.instr c _ _ _)
theorem R8.putPs {c : Cf} : ∀ (m k : Nat) {s : Bw}, R8 s → R8 (putPs c k m s)
  | 0, _, _, h => h
  | m + 1, k, _, h => R8.putPs m (k + 1) (R8.putIs _ _ (h.put _ _))
theorem R8.putUs {c : Cf} : ∀ (m k : Nat) {s : Bw}, R8 s → R8 (putUs c k m s)
  | 0, _, _, h => h
  | m + 1, k, _, h => R8.putUs m (k + 1) (((h.put _ _).put _ _).put _ _)
theorem R8.nil : R8 Bw.nil := fun _ => ⟨Int.le_refl 0, by show (0 : Int) ≤ 255; decide⟩
theorem R8.enc (c : Cf) : R8 (encB c) := by
  unfold encB headB
  apply R8.putUs
  apply R8.put
  apply R8.putPs
  repeat' apply R8.put
  exact R8.nil
theorem dec_some (g : Nat → Int) (n : Nat) : ∃ d, IsDec g n d := ⟨_, lenP g n, nP g n, nU g n, ⟨fun _ _ => Nat.le_refl _, Nat.le_refl _, Nat.le_refl _⟩, rfl⟩
theorem dec_small' {g : Nat → Int} {n : Nat} {d : Cf} (hu : U8 n g) (h : IsDec g n d) : smallC d := by
  obtain ⟨FC, rc, cu, ⟨h1, h2, h3⟩, rfl⟩ := h
  have e := nP_eq hu
  have r := dN_r hu
  have u := nU_le hu
  exact ⟨⟨show 1 ≤ nP g n by omega, show nP g n ≤ 4 by omega, u, h2, h3⟩, fun i _ => (cnt_eq hu _).2, h1⟩
end Go.Proofs.Ytjpnpaboahbncaa.Vc


/- ConfigChecks: the law's conditions hold. -/
set_option linter.unusedVariables false
set_option linter.unusedSimpArgs false
set_option maxRecDepth 100000
namespace Go.Proofs.Ytjpnpaboahbncaa.Vc
open Go Go.RowKit Sx Cn Dc Ck

theorem gd_at {i k : Nat} {F : Nat → Nat} {m : Nat} (h : i < k) (hm : m ≤ F i) : m ≤ gd k F i := by unfold gd; rw [if_pos h]; exact hm
theorem sm_f {d : Cf} {i : Nat} (hi : i < d.nP) (h : smallC d) : d.lenP i ≤ gd d.nP d.FC i := gd_at hi (h.2.2 i hi)
theorem sm_r {d : Cf} (h : smallC d) : d.nP ≤ d.rc := h.1.2.2.2.1
theorem sm_u {d : Cf} (h : smallC d) : d.nU ≤ d.cu := h.1.2.2.2.2
end Go.Proofs.Ytjpnpaboahbncaa.Vc


/- ConfigChecks: the walk. -/
set_option linter.unusedVariables false
set_option maxRecDepth 100000
namespace Go.Proofs.Ytjpnpaboahbncaa.Vc
open Go Go.RowKit Sx Cn Dc Ck

theorem u8i {z : Int} (h : (Lit.int .u8 z).wf = true) : 0 ≤ z ∧ z ≤ 255 := wf_u8 h
end Go.Proofs.Ytjpnpaboahbncaa.Vc

