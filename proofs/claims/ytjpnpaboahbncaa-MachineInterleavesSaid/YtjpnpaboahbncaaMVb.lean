/- A configuration that comes in as an argument: what is known of it. -/
import Derived.Test.YtjpnpaboahbncaaMV
import Derived.Test.YtjpnpaboahbncaaMCk
import Derived.Deep.Slices
import Derived.Test.YtjpnpaboahbncaaMVe
set_option linter.unusedVariables false
set_option linter.unusedSimpArgs false
set_option linter.unusedVariables false
set_option linter.unusedSimpArgs false
namespace Go.Proofs.Ytjpnpaboahbncaa.Vc
open Go Go.RowKit Go.ChangeShapes Go.WideShapes Go.Deep Sx Cn Dc Ck

section
variable {H : Type} {enc : TypeId × Value → H} {P : Program} {w : World}
theorem mapM_all {α β : Type} {g : α → Option β} : ∀ {l : List α} {ys : List β}, l.mapM g = some ys → ∀ a ∈ l, ∃ y, g a = some y
  | [], ys, _, a, ha => by simp at ha
  | b :: l, ys, h, a, ha => by
    rw [List.mapM_cons] at h
    cases hb : g b with
    | none => simp [hb] at h
    | some y =>
      cases hl : l.mapM g with
      | none => simp [hb, hl] at h
      | some zs =>
        rcases List.mem_cons.1 ha with rfl | ha
        · exact ⟨y, hb⟩
        · exact mapM_all hl a ha
theorem trod_fields {t : TypeId} {fs : Array Field} {fuel : Nat} {cs : List Value} {x : DataW H × List MemPlace} (ht : P.underlying t = some (.struct fs)) (h : DataW.trod enc P w 0 (fun _ => true) true fuel t cs = some x) :
    cs.length = P.cellsOf t ∧ ∃ n, ∀ f ∈ fs.toList, ∃ y, DataW.trod enc P w 0 (fun _ => true) true n f.type ((cs.drop f.offset).take (P.cellsOf f.type)) = some y := by
  cases fuel with
  | zero => simp [DataW.trod] at h
  | succ n =>
    unfold DataW.trod at h
    rw [ht] at h
    simp only at h
    split at h
    · rename_i hl
      refine ⟨hl, n, ?_⟩
      simp only [Option.map_eq_some_iff] at h
      obtain ⟨xs, h1, _⟩ := h
      exact mapM_all h1
    · cases h
/-- A field of one integer. -/
theorem field_int {t : TypeId} {k : IntKind} {n o : Nat} {cs : List Value} {y : DataW H × List MemPlace} (ht : P.underlying t = some (.int k)) (hc : P.cellsOf t = 1) (h : DataW.trod enc P w 0 (fun _ => true) true n t ((cs.drop o).take (P.cellsOf t)) = some y) :
    ∃ z, cs[o]? = some (.int k z) ∧ (Lit.int k z).wf = true := by
  rw [hc] at h
  obtain ⟨z, h1, _, h2⟩ := DataW.trod_int ht h
  refine ⟨z, ?_, h2⟩
  have := congrArg (·[0]?) h1
  simpa using this
/-- A field of one slice. -/
theorem field_slice {t e : TypeId} {n o : Nat} {cs : List Value} {y : DataW H × List MemPlace} (ht : P.underlying t = some (.slice e)) (hc : P.cellsOf t = 1) (h : DataW.trod enc P w 0 (fun _ => true) true n t ((cs.drop o).take (P.cellsOf t)) = some y) :
    ∃ a len cap, cs[o]? = some (.slice a len cap) ∧ len ≤ cap ∧ cap ≤ maxLen ∧ ∃ m, ∀ i, i < len → ∃ x cs', a = some x ∧ w.cells? 0 (x.add (i * P.cellsOf e)) (P.cellsOf e) = some cs' ∧ ∃ y, DataW.trod enc P w 0 (fun _ => true) true m e cs' = some y := by
  rw [hc] at h
  rcases open_slice ht h with ⟨h0, _⟩ | ⟨a, len, cap, m, n, D, Pl, h0, hb, hl, hm, hmm, rfl, hx⟩
  · have := congrArg (·[0]?) h0
    exact ⟨none, 0, 0, by simpa using this, Nat.le_refl _, by simp [maxLen], 0, fun i hi => absurd hi (Nat.not_lt_zero _)⟩
  · have := congrArg (·[0]?) h0
    refine ⟨some a, len, cap, by simpa using this, hl, hm, n, fun i hi => ?_⟩
    obtain ⟨cs', h1, h2⟩ := hx i (by simp at hmm; omega)
    exact ⟨a, cs', rfl, h1, _, h2⟩
theorem at_field {fs : Array Field} {l : List (Nat × TypeId)} (hfs : fs.toList.map (fun f => (f.offset, f.type)) = l) {o : Nat} {t : TypeId} (h : (o, t) ∈ l) : ∃ f ∈ fs.toList, f.offset = o ∧ f.type = t := by
  rw [← hfs] at h
  obtain ⟨f, h1, h2⟩ := List.mem_map.1 h
  cases h2
  exact ⟨f, h1, rfl, rfl⟩
/-- A struct of three integers, in memory. -/
theorem three_ints {t tf : TypeId} {fs : Array Field} {n : Nat} {a : Addr} {cs : List Value} {y : DataW H × List MemPlace} (ht : P.underlying t = some (.struct fs)) (hfs : fs.toList.map (fun f => (f.offset, f.type)) = [(0, tf), (1, tf), (2, tf)])
    (hi : P.underlying tf = some (.int .i64)) (hc1 : P.cellsOf tf = 1) (hc : P.cellsOf t = 3) (hcs : w.cells? 0 a (P.cellsOf t) = some cs) (h : DataW.trod enc P w 0 (fun _ => true) true n t cs = some y) :
    ∃ z : Int × Int × Int, (w.cell? a = some (.int .i64 z.1) ∧ w.cell? (a.add 1) = some (.int .i64 z.2.1) ∧ w.cell? (a.add 2) = some (.int .i64 z.2.2)) ∧ (Lit.int .i64 z.1).wf = true ∧ (Lit.int .i64 z.2.1).wf = true ∧ (Lit.int .i64 z.2.2).wf = true := by
  obtain ⟨hl, m, hf⟩ := trod_fields ht h
  obtain ⟨_, hlen, hcell⟩ := World.cells?_some hcs
  have go : ∀ o, (o, tf) ∈ [(0, tf), (1, tf), (2, tf)] → ∃ z, cs[o]? = some (.int .i64 z) ∧ (Lit.int .i64 z).wf = true := by
    intro o ho
    obtain ⟨f, h1, h2, h3⟩ := at_field hfs ho
    obtain ⟨y0, g0⟩ := hf f h1
    rw [h2, h3] at g0
    exact field_int hi hc1 g0
  obtain ⟨z0, e0, w0⟩ := go 0 (by simp)
  obtain ⟨z1, e1, w1⟩ := go 1 (by simp)
  obtain ⟨z2, e2, w2⟩ := go 2 (by simp)
  rw [hc] at hcell
  refine ⟨(z0, z1, z2), ⟨?_, ?_, ?_⟩, w0, w1, w2⟩
  · have := hcell 0 (by omega); rw [e0] at this; simpa [Addr.add] using this
  · have := hcell 1 (by omega); rw [e1] at this; exact this
  · have := hcell 2 (by omega); rw [e2] at this; exact this
theorem pick_lt {α : Type} [Inhabited α] {n : Nat} {p : Nat → α → Prop} (h : ∀ i, i < n → ∃ v, p i v) : ∃ V : Nat → α, ∀ i, i < n → p i (V i) := by
  classical
  refine ⟨fun i => if hi : i < n then Classical.choose (h i hi) else default, fun i hi => ?_⟩
  simp only [dif_pos hi]
  exact Classical.choose_spec (h i hi)
/-- A slice of structs of three integers. -/
theorem slice_threes {tS t tf : TypeId} {fs : Array Field} {n o : Nat} {cs : List Value} {y : DataW H × List MemPlace} (hS : P.underlying tS = some (.slice t)) (hcS : P.cellsOf tS = 1) (ht : P.underlying t = some (.struct fs)) (hfs : fs.toList.map (fun f => (f.offset, f.type)) = [(0, tf), (1, tf), (2, tf)])
    (hi : P.underlying tf = some (.int .i64)) (hc1 : P.cellsOf tf = 1) (hc : P.cellsOf t = 3) (h : DataW.trod enc P w 0 (fun _ => true) true n tS ((cs.drop o).take (P.cellsOf tS)) = some y) :
    ∃ q : Option Addr × Nat × Nat × (Nat → Int × Int × Int), cs[o]? = some (.slice q.1 q.2.1 q.2.2.1) ∧ (q.2.1 ≤ q.2.2.1 ∧ q.2.2.1 ≤ maxLen) ∧ ∀ e, e < q.2.1 → ∃ x, q.1 = some x ∧ (w.cell? (x.add (e * 3)) = some (.int .i64 (q.2.2.2 e).1) ∧ w.cell? ((x.add (e * 3)).add 1) = some (.int .i64 (q.2.2.2 e).2.1) ∧ w.cell? ((x.add (e * 3)).add 2) = some (.int .i64 (q.2.2.2 e).2.2)) ∧
      (Lit.int .i64 (q.2.2.2 e).1).wf = true ∧ (Lit.int .i64 (q.2.2.2 e).2.1).wf = true ∧ (Lit.int .i64 (q.2.2.2 e).2.2).wf = true := by
  obtain ⟨a, len, cap, h1, h2, h3, m, h4⟩ := field_slice hS hcS h
  obtain ⟨V, hV⟩ := pick_lt (α := Int × Int × Int) (n := len) (p := fun e z => ∃ x, a = some x ∧ (w.cell? (x.add (e * 3)) = some (.int .i64 z.1) ∧ w.cell? ((x.add (e * 3)).add 1) = some (.int .i64 z.2.1) ∧ w.cell? ((x.add (e * 3)).add 2) = some (.int .i64 z.2.2)) ∧
      (Lit.int .i64 z.1).wf = true ∧ (Lit.int .i64 z.2.1).wf = true ∧ (Lit.int .i64 z.2.2).wf = true) (fun e he => by
    obtain ⟨x, cs', hx, hcs, y, hy⟩ := h4 e he
    obtain ⟨z, g1, g2⟩ := three_ints ht hfs hi hc1 hc hcs hy
    rw [hc] at g1
    exact ⟨z, x, hx, g1, g2⟩)
  exact ⟨(a, len, cap, V), h1, ⟨h2, h3⟩, hV⟩
end
theorem wfi {z : Int} (h : (Lit.int .i64 z).wf = true) : -9223372036854775808 ≤ z ∧ z ≤ 9223372036854775807 := wf_i64 h
/-- What is known of a configuration that came in. -/
structure IsCfg (w : World) (c : Cf) (a9 a10 : Option Addr) (aI : Nat → Option Addr) : Prop where
  p : ∀ e, e < c.nP → ∃ x, a9 = some x ∧ w.cell? (x.add e) = some (.slice (aI e) (c.lenP e) (c.FC e))
  i : ∀ i, i < c.nP → ∀ e, e < c.lenP i → ∃ x, aI i = some x ∧ w.cell? (x.add (e * 3)) = some (.int .i64 (c.iO i e)) ∧ w.cell? ((x.add (e * 3)).add 1) = some (.int .i64 (c.iA i e)) ∧ w.cell? ((x.add (e * 3)).add 2) = some (.int .i64 (c.iB i e))
  u : ∀ e, e < c.nU → ∃ x, a10 = some x ∧ w.cell? (x.add (e * 3)) = some (.int .i64 (c.uP e)) ∧ w.cell? ((x.add (e * 3)).add 1) = some (.int .i64 (c.uL e)) ∧ w.cell? ((x.add (e * 3)).add 2) = some (.int .i64 (c.uD e))
  n : ∀ x ∈ [c.W, c.L, c.C, c.T, c.D, c.H, c.B, c.A, c.P], -9223372036854775808 ≤ x ∧ x ≤ 9223372036854775807
  ri : ∀ i, i < c.nP → ∀ e, e < c.lenP i → ∀ x ∈ [c.iO i e, c.iA i e, c.iB i e], -9223372036854775808 ≤ x ∧ x ≤ 9223372036854775807
  ru : ∀ e, e < c.nU → ∀ x ∈ [c.uP e, c.uL e, c.uD e], -9223372036854775808 ≤ x ∧ x ≤ 9223372036854775807
  lp : c.nP ≤ c.rc ∧ c.rc ≤ maxLen
  lu : c.nU ≤ c.cu ∧ c.cu ≤ maxLen
  li : ∀ i, i < c.nP → c.lenP i ≤ c.FC i ∧ c.FC i ≤ maxLen
def cfgVal (c : Cf) (a9 a10 : Option Addr) : Value := .agg #[.int .i64 c.W, .int .i64 c.L, .int .i64 c.C, .int .i64 c.T, .int .i64 c.D, .int .i64 c.H, .int .i64 c.B, .int .i64 c.A, .int .i64 c.P, .slice a9 c.nP c.rc, .slice a10 c.nU c.cu]
/-- Its blocks, from a name on. -/
def hCm (m : Nat) (c : Cf) : HL := [(m, .view 1 (fun _ => c.nP) [.cs (m + 2) 3 (fun _ e => e) (fun _ e => c.lenP e) (fun _ e => c.FC e)]), (m + 1, .view 1 (fun _ => c.nU) [.ci .i64 fun _ e => c.uP e, .ci .i64 fun _ e => c.uL e, .ci .i64 fun _ e => c.uD e]), (m + 2, .view c.nP c.lenP [.ci .i64 fun i e => c.iO i e, .ci .i64 fun i e => c.iA i e, .ci .i64 fun i e => c.iB i e])]
def argCm (m : Nat) (c : Cf) : SV := .a [.iv .i64 c.W, .iv .i64 c.L, .iv .i64 c.C, .iv .i64 c.T, .iv .i64 c.D, .iv .i64 c.H, .iv .i64 c.B, .iv .i64 c.A, .iv .i64 c.P, slK m 1 c.nP c.rc, slK (m + 1) 3 c.nU c.cu]
section
variable {w : World} {c : Cf} {a9 a10 : Option Addr} {aI : Nat → Option Addr}
theorem adr0 (x : Addr) : adr (x.block, ⟨x.off, x.spot⟩) = x := rfl
theorem place0 {ρ : Rho} {key : Nat} {i : NV} {a : Option Addr} (h : ρ key i.v = addr0 a) : place ρ key i 0 = a := by
  unfold place
  rw [h]
  cases a with
  | none => rfl
  | some x => simp [addr0, Addr.add, adr0]
theorem cell_blk {x : Addr} {k : Nat} {v : Value} (h : w.cell? (x.add k) = some v) : x.block < w.heap.size := by
  have := cell_lt h
  have e : (x.add k).block = x.block := by unfold Addr.add; split <;> rfl
  rwa [e] at this
theorem IsCfg.sat {m : Nat} (h : IsCfg w c a9 a10 aI) {n : Nat → Prop} {ρ : Rho} (h0 : ρ m 0 = addr0 a9) (h1 : ρ (m + 1) 0 = addr0 a10) (h2 : ∀ i, ρ (m + 2) i = addr0 (aI i)) (hn : n (m + 2)) :
    ∀ k b, find k (hCm m c) = some b → b.isRow = false ∧ k < m + 3 ∧ m ≤ k ∧ b.sat n ρ k w ∧ ∀ i, b.live i → ∀ y o, ρ k i = some (y, o) → y < w.heap.size := by
  intro k b hf
  unfold hCm at hf
  simp only [find_cons] at hf
  split at hf
  · rename_i e; have e := e.symm; subst e; cases hf
    refine ⟨rfl, by omega, Nat.le_refl _, ?_, ?_⟩
    · intro i hi e he
      have : i = 0 := by omega
      subst this
      obtain ⟨x, hx, hc⟩ := h.p e he
      refine ⟨x.block, ⟨x.off, x.spot⟩, by rw [h0, hx]; rfl, fun f col d hcol hd => ?_⟩
      cases f with
      | zero =>
        simp at hcol; subst hcol
        simp only [Col.get, Option.some.injEq] at hd
        subst hd
        refine ⟨_, by simpa [adr0] using hc, fun ρ' ha => ?_⟩
        have e2 : ρ' (m + 2) e = addr0 (aI e) := by rw [ha _ hn]; exact h2 e
        simp only [SC.den, NV.v_s, NV.v_k, Nat.zero_mul]
        rw [place0 (i := .s e) e2]
      | succ f => simp at hcol
    · rintro i ⟨hi, hl⟩ y o hy
      have : i = 0 := by omega
      subst this
      obtain ⟨x, hx, hc⟩ := h.p 0 hl
      rw [h0, hx] at hy; cases hy
      exact cell_blk hc
  split at hf
  · rename_i e; subst e; cases hf
    refine ⟨rfl, by omega, by omega, ?_, ?_⟩
    · intro i hi e he
      have : i = 0 := by omega
      subst this
      obtain ⟨x, hx, c0, c1, c2⟩ := h.u e he
      refine ⟨x.block, ⟨x.off, x.spot⟩, by rw [h1, hx]; rfl, fun f col d hcol hd => ?_⟩
      rw [adr_add] at c1 c2
      match f, hcol with
      | 0, hcol => simp at hcol; subst hcol; simp only [Col.get, Option.some.injEq] at hd; subst hd; exact ⟨_, by simpa [adr0] using c0, fun _ _ => rfl⟩
      | 1, hcol => simp at hcol; subst hcol; simp only [Col.get, Option.some.injEq] at hd; subst hd; exact ⟨_, by simpa [adr0] using c1, fun _ _ => rfl⟩
      | 2, hcol => simp at hcol; subst hcol; simp only [Col.get, Option.some.injEq] at hd; subst hd; exact ⟨_, by simpa [adr0] using c2, fun _ _ => rfl⟩
      | f + 3, hcol => simp at hcol
    · rintro i ⟨hi, hl⟩ y o hy
      have : i = 0 := by omega
      subst this
      obtain ⟨x, hx, hc, _⟩ := h.u 0 hl
      rw [h1, hx] at hy; cases hy
      exact cell_blk hc
  split at hf
  · rename_i e; subst e; cases hf
    refine ⟨rfl, by omega, by omega, ?_, ?_⟩
    · intro i hi e he
      obtain ⟨x, hx, c0, c1, c2⟩ := h.i i hi e he
      refine ⟨x.block, ⟨x.off, x.spot⟩, by rw [h2, hx]; rfl, fun f col d hcol hd => ?_⟩
      rw [adr_add] at c1 c2
      match f, hcol with
      | 0, hcol => simp at hcol; subst hcol; simp only [Col.get, Option.some.injEq] at hd; subst hd; exact ⟨_, by simpa [adr0] using c0, fun _ _ => rfl⟩
      | 1, hcol => simp at hcol; subst hcol; simp only [Col.get, Option.some.injEq] at hd; subst hd; exact ⟨_, by simpa [adr0] using c1, fun _ _ => rfl⟩
      | 2, hcol => simp at hcol; subst hcol; simp only [Col.get, Option.some.injEq] at hd; subst hd; exact ⟨_, by simpa [adr0] using c2, fun _ _ => rfl⟩
      | f + 3, hcol => simp at hcol
    · rintro i ⟨hi, hl⟩ y o hy
      obtain ⟨x, hx, hc, _⟩ := h.i i hi 0 hl
      rw [h2, hx] at hy; cases hy
      exact cell_blk hc
  · cases hf
theorem IsCfg.val {n : Nat → Prop} {ρ : Rho} {m : Nat} (h0 : ρ m 0 = addr0 a9) (h1 : ρ (m + 1) 0 = addr0 a10) (g0 : n m) (g1 : n (m + 1)) : SIs n ρ (argCm m c) (cfgVal c a9 a10) := fun ρ' ha => by
  have e0 : ρ' m 0 = addr0 a9 := by rw [ha _ g0]; exact h0
  have e1 : ρ' (m + 1) 0 = addr0 a10 := by rw [ha _ g1]; exact h1
  simp [argCm, cfgVal, SV.den, SC.den, slK, place0 (i := .k 0) e0, place0 (i := .k 0) e1]
end
theorem agg_eleven {cs : Array Value} {v0 v1 v2 v3 v4 v5 v6 v7 v8 v9 v10 : Value} (hs : cs.toList.length = 11) (h0 : cs.toList[0]? = some v0) (h1 : cs.toList[1]? = some v1) (h2 : cs.toList[2]? = some v2) (h3 : cs.toList[3]? = some v3) (h4 : cs.toList[4]? = some v4) (h5 : cs.toList[5]? = some v5)
    (h6 : cs.toList[6]? = some v6) (h7 : cs.toList[7]? = some v7) (h8 : cs.toList[8]? = some v8) (h9 : cs.toList[9]? = some v9) (h10 : cs.toList[10]? = some v10) : cs = #[v0, v1, v2, v3, v4, v5, v6, v7, v8, v9, v10] := by
  obtain ⟨l⟩ := cs
  match l, hs with
  | [_, _, _, _, _, _, _, _, _, _, _], _ => simp at *; simp [*]
theorem open_cfg {H : Type} {enc : TypeId × Value → H} {P : Program} {w : World} {r : Reach} {base : Nat} {tC tPP tP tI tS tU tf : TypeId} {fs fI fU : Array Field} {v : Value} {d : DataW H} {ps : List MemPlace} (hC : P.underlying tC = some (.struct fs))
    (hfs : fs.toList.map (fun f => (f.offset, f.type)) = [(0, tf), (1, tf), (2, tf), (3, tf), (4, tf), (5, tf), (6, tf), (7, tf), (8, tf), (9, tPP), (10, tS)]) (hPP : P.underlying tPP = some (.slice tP)) (hP : P.underlying tP = some (.slice tI)) (hI : P.underlying tI = some (.struct fI))
    (hfI : fI.toList.map (fun f => (f.offset, f.type)) = [(0, tf), (1, tf), (2, tf)]) (hS : P.underlying tS = some (.slice tU)) (hU : P.underlying tU = some (.struct fU)) (hfU : fU.toList.map (fun f => (f.offset, f.type)) = [(0, tf), (1, tf), (2, tf)])
    (hi : P.underlying tf = some (.int .i64)) (cC : P.cellsOf tC = 11) (cf : P.cellsOf tf = 1) (cPP : P.cellsOf tPP = 1) (cP : P.cellsOf tP = 1) (cI : P.cellsOf tI = 3) (cS : P.cellsOf tS = 1) (cU : P.cellsOf tU = 3)
    (hval : Value.okWide P w r base tC v) (h : DataW.Trod enc P w 0 (fun _ => true) true tC v d ps) : ∃ c a9 a10 aI, v = cfgVal c a9 a10 ∧ IsCfg w c a9 a10 aI := by
  obtain ⟨cs, rfl, hsz⟩ := okWide_struct hC hval
  obtain ⟨fuel, h⟩ := h
  obtain ⟨hl, n, hf⟩ := trod_fields hC h
  have hcs : (Value.agg cs).cells.toList = cs.toList := rfl
  rw [hcs] at hl hf
  have go : ∀ o, (o, tf) ∈ [(0, tf), (1, tf), (2, tf), (3, tf), (4, tf), (5, tf), (6, tf), (7, tf), (8, tf), (9, tPP), (10, tS)] → ∃ z, cs.toList[o]? = some (.int .i64 z) ∧ (Lit.int .i64 z).wf = true := by
    intro o ho
    obtain ⟨f, h1, h2, h3⟩ := at_field hfs ho
    obtain ⟨y0, g0⟩ := hf f h1
    rw [h2, h3] at g0
    exact field_int hi cf g0
  obtain ⟨z0, e0, w0⟩ := go 0 (by simp)
  obtain ⟨z1, e1, w1⟩ := go 1 (by simp)
  obtain ⟨z2, e2, w2⟩ := go 2 (by simp)
  obtain ⟨z3, e3, w3⟩ := go 3 (by simp)
  obtain ⟨z4, e4, w4⟩ := go 4 (by simp)
  obtain ⟨z5, e5, w5⟩ := go 5 (by simp)
  obtain ⟨z6, e6, w6⟩ := go 6 (by simp)
  obtain ⟨z7, e7, w7⟩ := go 7 (by simp)
  obtain ⟨z8, e8, w8⟩ := go 8 (by simp)
  obtain ⟨f9, k1, k2, k3⟩ := at_field hfs (o := 9) (t := tPP) (by simp)
  obtain ⟨y9, g9⟩ := hf f9 k1
  rw [k2, k3] at g9
  obtain ⟨a9, nP, rc, e9, p1, p2, m, p3⟩ := field_slice hPP cPP g9
  obtain ⟨f10, j1, j2, j3⟩ := at_field hfs (o := 10) (t := tS) (by simp)
  obtain ⟨y10, g10⟩ := hf f10 j1
  rw [j2, j3] at g10
  obtain ⟨⟨a10, nU, cu, U⟩, e10, u1, u2⟩ := slice_threes hS cS hU hfU hi cf cU g10
  simp only at e10 u1 u2
  obtain ⟨Q, hQ⟩ := pick_lt (α := Option Addr × Nat × Nat × (Nat → Int × Int × Int)) (n := nP) (p := fun i q => (∃ x, a9 = some x ∧ w.cell? (x.add i) = some (.slice q.1 q.2.1 q.2.2.1)) ∧ (q.2.1 ≤ q.2.2.1 ∧ q.2.2.1 ≤ maxLen) ∧
      ∀ e, e < q.2.1 → ∃ x, q.1 = some x ∧ (w.cell? (x.add (e * 3)) = some (.int .i64 (q.2.2.2 e).1) ∧ w.cell? ((x.add (e * 3)).add 1) = some (.int .i64 (q.2.2.2 e).2.1) ∧ w.cell? ((x.add (e * 3)).add 2) = some (.int .i64 (q.2.2.2 e).2.2)) ∧
      (Lit.int .i64 (q.2.2.2 e).1).wf = true ∧ (Lit.int .i64 (q.2.2.2 e).2.1).wf = true ∧ (Lit.int .i64 (q.2.2.2 e).2.2).wf = true) (fun i hi' => by
    obtain ⟨x, cs', hx, hcs, y, hy⟩ := p3 i hi'
    rw [cP, Nat.mul_one] at hcs
    obtain ⟨_, hlen, hcell⟩ := World.cells?_some hcs
    have hy' : DataW.trod enc P w 0 (fun _ => true) true m tP ((cs'.drop 0).take (P.cellsOf tP)) = some y := by
      rw [List.drop_zero, cP, List.take_of_length_le (by omega)]; exact hy
    obtain ⟨q, h1, h2, h3⟩ := slice_threes hP cP hI hfI hi cf cI hy'
    refine ⟨q, ⟨x, hx, ?_⟩, h2, h3⟩
    have := hcell 0 (by omega)
    rw [h1] at this
    simpa [Addr.add] using this)
  refine ⟨⟨z0, z1, z2, z3, z4, z5, z6, z7, z8, nP, rc, nU, cu, fun i => (Q i).2.1, fun i => (Q i).2.2.1, fun i e => ((Q i).2.2.2 e).1, fun i e => ((Q i).2.2.2 e).2.1, fun i e => ((Q i).2.2.2 e).2.2, fun e => (U e).1, fun e => (U e).2.1, fun e => (U e).2.2⟩, a9, a10, fun i => (Q i).1, ?_, ?_⟩
  · unfold cfgVal
    congr 1
    exact agg_eleven (by rw [hl, cC]) e0 e1 e2 e3 e4 e5 e6 e7 e8 e9 e10
  · refine ⟨fun e he => (hQ e he).1, fun i hi' e he => ?_, fun e he => ?_, ?_, fun i hi' e he => ?_, fun e he => ?_, ⟨p1, p2⟩, u1, fun i hi' => (hQ i hi').2.1⟩
    · obtain ⟨x, h1, h2, _⟩ := (hQ i hi').2.2 e he
      exact ⟨x, h1, h2⟩
    · obtain ⟨x, h1, h2, _⟩ := u2 e he
      exact ⟨x, h1, h2⟩
    · intro x hx
      simp only [List.mem_cons, List.not_mem_nil, or_false] at hx
      rcases hx with rfl | rfl | rfl | rfl | rfl | rfl | rfl | rfl | rfl
      all_goals (apply wfi; assumption)
    · obtain ⟨x, _, _, h1, h2, h3⟩ := (hQ i hi').2.2 e he
      intro y hy
      simp only [List.mem_cons, List.not_mem_nil, or_false] at hy
      rcases hy with rfl | rfl | rfl
      · exact wfi h1
      · exact wfi h2
      · exact wfi h3
    · obtain ⟨x, _, _, h1, h2, h3⟩ := u2 e he
      intro y hy
      simp only [List.mem_cons, List.not_mem_nil, or_false] at hy
      rcases hy with rfl | rfl | rfl
      · exact wfi h1
      · exact wfi h2
      · exact wfi h3
/-- The table of a configuration's places, from a name on. -/
def tabC (m : Nat) (a9 a10 : Option Addr) (aI : Nat → Option Addr) (ρ : Rho) : Rho := fun k i => if k = m then (if i = 0 then addr0 a9 else none) else if k = m + 1 then (if i = 0 then addr0 a10 else none) else if k = m + 2 then addr0 (aI i) else ρ k i
theorem tabC_h (m : Nat) (a9 a10 : Option Addr) (aI : Nat → Option Addr) (ρ : Rho) : tabC m a9 a10 aI ρ m 0 = addr0 a9 ∧ tabC m a9 a10 aI ρ (m + 1) 0 = addr0 a10 ∧ (∀ i, tabC m a9 a10 aI ρ (m + 2) i = addr0 (aI i)) ∧ ∀ k, k < m → tabC m a9 a10 aI ρ k = ρ k := by
  refine ⟨by simp [tabC], by simp [tabC], fun i => by simp [tabC], fun k hk => ?_⟩
  funext i
  simp only [tabC]
  rw [if_neg (by omega), if_neg (by omega), if_neg (by omega)]
end Go.Proofs.Ytjpnpaboahbncaa.Vc

/- ConfigChecks: light, awake, changed; what is said of them. -/
set_option linter.unusedVariables false
set_option maxRecDepth 100000
namespace Go.Proofs.Ytjpnpaboahbncaa.Vc
open Go Go.RowKit Sx Cn Dc Ck
noncomputable section
def lightC (c : Cf) : Prop := c.nP ≤ 50 ∧ c.nU ≤ 100 ∧ ∀ j, j < c.nP → c.lenP j ≤ 60
open Classical in
def lightB (c : Cf) : Bool := decide (lightC c)
def lightI (c : Cf) (i : Int) : Prop := 0 ≤ i ∧ i ≤ c.nP ∧ ∀ j : Nat, (j : Int) < i → c.lenP j ≤ 60
def av54 (c : Cf) : AV := .loop Int [] (fun _ => some (cntL 3 (lightI c) c.nP)) .nil .nil
def psBool (n : Nat) (b : Bool) : PS := .one n (fun _ _ => []) (.c (.bv b)) []
def verLight (c : Cf) : V := verF P con3 3 3 54 [] (av54 c) [argC c] ⟨hC c, 3, fun _ => True⟩ ((psBool 3 (lightB c)).fin 3)
def verAwake : V := verF P con7 6 6 57 [] .nil [] ⟨[], 0, fun _ => True⟩ ((PS.one 0 (fun _ _ => []) (.c (.kb true)) []).fin 0)
/-- What Encode answers: bytes (none of them, where it fails), their count, an error's number. -/
def EncOf (c : Cf) (x : Nat × Nat × (Nat → Int) × Int) : Prop := (goodB c = true ∧ x.1 = lenE c ∧ x.1 ≤ x.2.1 ∧ (∀ e, x.2.2.1 e = (encB c).g e) ∧ x.2.2.2 = 0) ∨ (goodB c = false ∧ x = (0, 0, fun _ => 0, errB c))
def outEc (c : Cf) : Out (SV × Hp) := .need True (.any (Nat × Nat × (Nat → Int) × Int) (EncOf c) fun x => .leaf (.t [.c (slK 3 1 x.1 x.2.1), .c (.iv .i64 x.2.2.2)], ⟨[(3, .row 5 x.2.1 x.1 [.ci .u8 fun _ e => x.2.2.1 e])], 4, fun _ => True⟩))
theorem outEc_ok {f : FuncId} (h : ∀ c, LocalOK P f [argC c] (hC c) 3 (.need True (psEnc c).out)) (c : Cf) : LocalOK P f [argC c] (hC c) 3 (outEc c) := by
  intro φ ρ w vs K hI hv hK
  obtain ⟨_, _, hK⟩ := hK
  refine (h c φ ρ w vs (fun q => (goodB c = true ∧ ∃ cap, lenE c ≤ cap ∧ q = (.t [.c (slK 3 1 (lenE c) cap), .c (.iv .i64 0)], ⟨[(3, .row 5 cap (lenE c) [.ci .u8 fun _ e => (encB c).g e])], 4, fun _ => True⟩)) ∨ (goodB c = false ∧ q = (.t [.c .nils, .c (.iv .i64 (errB c))], ⟨[], 3, fun _ => True⟩))) hI hv ⟨trivial, fun hb => ⟨⟨_, Nat.le_refl _⟩, fun cap hc => .inl ⟨hb, cap, hc, rfl⟩⟩, fun hb => .inr ⟨hb, rfl⟩⟩).mono ?_
  rintro e w' ⟨v, ρ', sv, H', rfl, ⟨hb, cap, hc, hq⟩ | ⟨hb, hq⟩, g1, g2, g3, g4⟩
  · cases hq
    exact ⟨v, ρ', _, _, rfl, hK (lenE c, cap, fun e => (encB c).g e, 0) (.inl ⟨hb, rfl, hc, fun _ => rfl, rfl⟩), g1, g2, g3, g4⟩
  · cases hq
    have hfin : ∀ k (b : Blk), find k [(3, Blk.row 5 0 0 [.ci .u8 fun _ _ => 0])] = some b → k = 3 ∧ b = Blk.row 5 0 0 [.ci .u8 fun _ _ => 0] := by
      intro k b h
      rw [find_cons] at h
      split at h
      · rename_i e; cases h; exact ⟨e, rfl⟩
      · cases h
    refine ⟨v, fun k i => if k = 3 then none else ρ' k i, _, _, rfl, hK (0, 0, fun _ => 0, errB c) (.inr ⟨hb, rfl⟩), fun k hk' => ?_, ⟨Nat.le_succ 3, rfl⟩, ⟨g3.fr, fun _ _ => trivial, fun k b h => ?_, fun k b h => ?_, fun k b h i hi y o hy => ?_, fun k b h hr i hi y o hy => ?_, fun k b h hr k' b' h' hne => ?_⟩, fun ρ2 ha => ?_⟩
    · have : k ≠ 3 := fun e => by subst e; exact absurd hk'.1 (Nat.lt_irrefl 3)
      exact (funext fun i => if_neg this).trans (g1 k hk')
    · obtain ⟨rfl, rfl⟩ := hfin k b h; exact ⟨Nat.lt_succ_self 3, trivial⟩
    · obtain ⟨rfl, rfl⟩ := hfin k b h; exact .inl ⟨rfl, rfl⟩
    · obtain ⟨rfl, rfl⟩ := hfin k b h; simp at hy
    · obtain ⟨rfl, rfl⟩ := hfin k b h; simp at hy
    · obtain ⟨rfl, rfl⟩ := hfin k b h; obtain ⟨rfl, rfl⟩ := hfin k' b' h'; exact absurd rfl hne
    · have e3 : ρ2 3 = fun _ => none := (ha 3 ⟨Nat.lt_succ_self 3, trivial⟩).trans (by funext i; simp)
      have hv' := g4.eq
      rw [hv']
      simp [SV.den, TE.den, SC.den, slK, place, e3]
def conEncW : List SV → Hp → Out (SV × Hp) := conCfP outEc
theorem conEncW_ok {f : FuncId} (h : ∀ c, LocalOK P f [argC c] (hC c) 3 (.need True (psEnc c).out)) : ContractOK P f conEncW := conCfP_ok (outEc_ok h)
/-- What Decode answers, of bytes: a configuration. -/
def decOf (g : Nat → Int) (len : Nat) (FC : Nat → Nat) (rc cu : Nat) : Cf := ⟨dW g len, dL g len, dC g len, dT g len, dD g len, dH g len, dB g len, dA g len, dP g len, nP g len, rc, nU g len, cu, fun e => lenP g len e, fun e => FC e, fun i e => cO g len i e, fun i e => cA g len i e, fun i e => cB g len i e, fun e => uP g len e, fun e => uL g len e, fun e => uD g len e⟩
def IsDec (g : Nat → Int) (len : Nat) (d : Cf) : Prop := ∃ FC rc cu, ((∀ e, e < nP g len → lenP g len e ≤ FC e) ∧ nP g len ≤ rc ∧ nU g len ≤ cu) ∧ d = decOf g len FC rc cu
def hDec (d : Cf) : HL := [(1, .fam true 94 (gd d.nP d.FC) (gd d.nP d.lenP) [.ci .i64 fun i e => d.iO i e, .ci .i64 fun i e => d.iA i e, .ci .i64 fun i e => d.iB i e]),
  (2, .row 92 d.rc d.nP [.cs 1 3 (fun _ e => e) (fun _ e => d.lenP e) (fun _ e => d.FC e)]), (3, .row 96 d.cu d.nU [.ci .i64 fun _ e => d.uP e, .ci .i64 fun _ e => d.uL e, .ci .i64 fun _ e => d.uD e])]
def outD (g : Nat → Int) (len : Nat) : Out (SV × Hp) := .need (U8 len g) (.any Cf (IsDec g len) fun d => .leaf (.a [.iv .i64 d.W, .iv .i64 d.L, .iv .i64 d.C, .iv .i64 d.T, .iv .i64 d.D, .iv .i64 d.H, .iv .i64 d.B, .iv .i64 d.A, .iv .i64 d.P, slK 2 1 d.nP d.rc, slK 3 3 d.nU d.cu], ⟨hDec d, 4, fun _ => True⟩))
theorem outD_h (g : Nat → Int) (len cap : Nat) (K : SV × Hp → Prop) (h : (outD g len).holds K) : (post56 g len cap).holds K := by
  obtain ⟨h0, ⟨d, FC0, rc0, cu0, hd, _⟩, h1⟩ := h
  refine ⟨h0, ⟨FC0, hd.1⟩, fun FC hF => ⟨⟨rc0, hd.2.1⟩, fun rc hr => ⟨⟨cu0, hd.2.2⟩, fun cu hu => ?_⟩⟩⟩
  exact h1 (decOf g len FC rc cu) ⟨FC, rc, cu, ⟨hF, hr, hu⟩, rfl⟩
def conDec : List SV → Hp → Out (SV × Hp) := fun args H => match args with
  | [.c (.slc kb _ _ _ len cap)] => match rowFn H.h kb 0 with
    | some g => useP [kb] 1 [.c (slK 0 1 len.v cap.v)] [(0, ints .u8 len.v g)] (outD g len.v) args H
    | _ => .bad 420
  | _ => .bad 421
theorem conDec_ok : ContractOK P 56 conDec := contract_of_useP fun args H => by
  unfold conDec
  repeat' split
  all_goals first | exact .inl ⟨_, rfl⟩ | exact .inr ⟨_, _, _, _, _, rfl, (local56 _ _ _).mono (outD_h _ _ _)⟩
/-! ### changed -/
structure N9 where
  a0 : Int
  a1 : Int
  a2 : Int
  a3 : Int
  a4 : Int
  a5 : Int
  a6 : Int
  a7 : Int
  a8 : Int
def rd9 : SV → Option N9
  | .a [x0, x1, x2, x3, x4, x5, x6, x7, x8, _, _] => match numC x0, numC x1, numC x2, numC x3, numC x4, numC x5, numC x6, numC x7, numC x8 with
    | some a, some b, some c, some d, some e, some f, some g, some h, some i => some ⟨a, b, c, d, e, f, g, h, i⟩
    | _, _, _, _, _, _, _, _, _ => none
  | _ => none
def sv9 (x : N9) (s t : SC) : SV := .a [.iv .i64 x.a0, .iv .i64 x.a1, .iv .i64 x.a2, .iv .i64 x.a3, .iv .i64 x.a4, .iv .i64 x.a5, .iv .i64 x.a6, .iv .i64 x.a7, .iv .i64 x.a8, s, t]
def slKs : SV → Option (Nat × Nat × Nat × Nat × Nat × Nat)
  | .a [_, _, _, _, _, _, _, _, _, .slc kr _ _ _ nP rc, .slc ku _ _ _ nU cu] => some (kr, nP.v, rc.v, ku, nU.v, cu.v)
  | _ => none
/-- The configuration that a value and a heap say. -/
def rdCf (s : SV) (H : HL) : Option (Cf × List Nat) := match rd9 s, slKs s with
  | some x, some (kr, nP, rc, ku, nU, cu) => match find kr H, find ku H with
    | some br, some bu => match Ck.colsOf br, Ck.colsOf bu with
      | [.cs kF _ _ ln cp], [.ci _ f, .ci _ g, .ci _ h] => match find kF H with
        | some bF => match Ck.colsOf bF with
          | [.ci _ o, .ci _ a, .ci _ b] => some (⟨x.a0, x.a1, x.a2, x.a3, x.a4, x.a5, x.a6, x.a7, x.a8, nP, rc, nU, cu, fun e => ln 0 e, fun e => cp 0 e, o, a, b, fun e => f 0 e, fun e => g 0 e, fun e => h 0 e⟩, [kr, ku, kF])
          | _ => none
        | _ => none
      | _, _ => none
    | _, _ => none
  | _, _ => none
/-- A configuration in blocks of its own, from a name on. -/
def hOwn (m : Nat) (c : Cf) : HL := [(m, .row 92 c.rc c.nP [.cs (m + 2) 3 (fun _ e => e) (fun _ e => c.lenP e) (fun _ e => c.FC e)]), (m + 1, .row 96 c.cu c.nU [.ci .i64 fun _ e => c.uP e, .ci .i64 fun _ e => c.uL e, .ci .i64 fun _ e => c.uD e]),
  (m + 2, .fam true 94 (gd c.nP c.FC) (gd c.nP c.lenP) [.ci .i64 fun i e => c.iO i e, .ci .i64 fun i e => c.iA i e, .ci .i64 fun i e => c.iB i e])]
def smallC (c : Cf) : Prop := (1 ≤ c.nP ∧ c.nP ≤ 4 ∧ c.nU ≤ 5 ∧ c.nP ≤ c.rc ∧ c.nU ≤ c.cu) ∧ (∀ i, i < c.nP → c.lenP i ≤ 5) ∧ ∀ i, i < c.nP → c.lenP i ≤ c.FC i
def psCh (c : Cf) (which : Int) : PS := .br (decide (dr which 15 < 9)) (fun s _ => match slKs s with | some (kr, _) => Nat.blt kr 3 | none => false)
  (.leaf N9 3 (fun s _ => rd9 s) (fun _ _ => []) (fun _ => True) (fun x => sv9 x (slK 0 1 c.nP c.rc) (slK 1 3 c.nU c.cu)) (fun _ => []))
  (.leaf Cf 6 (fun s H => (rdCf s H.h).map (·.1)) (fun s H => match rdCf s H.h with | some x => x.2 | none => []) smallC (fun d => argCm 3 d) (hOwn 3))
def conCh0 : Con := Con.add 68 conEncW (Con.add 56 conDec con3)
theorem conCh0_ok : ConOK P conCh0 := .add (conEncW_ok fun c => local_of_ps conR_ok fun _ => vhEncR c) (.add conDec_ok con3_ok)
def verCh (c : Cf) (which by' : Int) : V := verF P conCh0 3 4 55 [] .nil [argC c, iv which, iv by'] ⟨hC c, 3, fun _ => True⟩ ((psCh c which).fin 3)
end
end Go.Proofs.Ytjpnpaboahbncaa.Vc

/- ConfigChecks: the conditions, printed by program. -/
set_option linter.unusedVariables false
set_option maxRecDepth 100000
namespace Go.Proofs.Ytjpnpaboahbncaa.Vc
open Go Go.RowKit Sx Cn Dc Ck

theorem verLight_eq (c : Cf) : verLight c =
  V.br (decide ((↑c.nP : Int) > Int.ofNat 50))
    (V.need True
    (V.need (false = lightB c) V.ok))
    (V.br (decide ((↑c.nU : Int) > Int.ofNat 100))
    (V.need True
    (V.need (false = lightB c) V.ok))
    (V.need (Int.ofNat 0 ≤ Int.ofNat 0 ∧ Int.ofNat 0 ≤ (↑c.nP : Int) ∧ ∀ (j : Nat), (↑j : Int) < Int.ofNat 0 → c.lenP j ≤ 60)
    (V.need (Int.ofNat 0 = Int.ofNat 0)
    (V.any Int (lightI c) fun (x : Int) => V.need (0 < 1 ∧ 0 < 1)
    (V.need (0 < 1 ∧ 0 < 1)
    (V.br (decide (x < (↑c.nP : Int)))
    (V.need (0 < 1 ∧ 0 < 1)
    (V.need (0 < 1 ∧ 0 < 1)
    (V.need (Int.ofNat 0 ≤ x ∧ x < (↑c.nP : Int))
    (V.need (0 < 1 ∧ 0 + x.toNat < c.nP)
    (V.need (0 < 1 ∧ 0 + x.toNat < c.nP)
    (V.br (decide ((↑(c.lenP (0 + x.toNat)) : Int) > Int.ofNat 60))
    (V.need True
    (V.need (false = lightB c) V.ok))
    (V.need (Int.ofNat 0 ≤ IntKind.i64.wrap (x + Int.ofNat 1) ∧ IntKind.i64.wrap (x + Int.ofNat 1) ≤ (↑c.nP : Int) ∧ ∀ (j : Nat), (↑j : Int) < IntKind.i64.wrap (x + Int.ofNat 1) → c.lenP j ≤ 60)
    (V.need (c.nP - (IntKind.i64.wrap (x + Int.ofNat 1)).toNat < c.nP - x.toNat)
    (V.need (IntKind.i64.wrap (x + Int.ofNat 1) = IntKind.i64.wrap (x + Int.ofNat 1)) V.ok)))))))))
    (V.need True
    (V.need (true = lightB c) V.ok)))))))) := by kernel_rfl

theorem verAwake_eq  : verAwake =
  V.need (0 < 1 ∧ 0 < 1)
    (V.need (0 < 1 ∧ 0 < 1)
    (V.need (0 < 1 ∧ 0 < 1)
    (V.need (0 < 1 ∧ 0 < 1)
    (V.need (0 < 1 ∧ 0 < 1)
    (V.need (0 < 1 ∧ 0 < 1)
    (V.need (Int.ofNat 4 ≠ Int.ofNat 0)
    (V.need (0 < 1 ∧ 0 < 1)
    (V.need (0 < 1 ∧ 0 < 1)
    (V.need (0 < 1 ∧ 0 < 1)
    (V.need (0 < 1 ∧ 0 < 1)
    (V.need (0 < 1 ∧ 0 < 1)
    (V.need (0 < 1 ∧ 0 < 1)
    (V.need (Int.ofNat 4 ≠ Int.ofNat 0)
    (V.need (0 < 1 ∧ 0 < 1)
    (V.need (0 < 1 ∧ 0 < 1)
    (V.need (0 < 1 ∧ 0 < 1)
    (V.need (0 < 1 ∧ 0 < 1)
    (V.need (0 < 1 ∧ 0 < 1)
    (V.need (0 < 1 ∧ 0 < 1)
    (V.need (Int.ofNat 1 ≠ Int.ofNat 0)
    (V.need (0 < 1 ∧ 0 < 1)
    (V.need (0 < 1 ∧ 0 < 1)
    (V.need (0 < 1 ∧ 0 < 1)
    (V.need (0 < 1 ∧ 0 < 1)
    (V.need (0 < 1 ∧ 0 < 1)
    (V.need (0 < 1 ∧ 0 < 1)
    (V.need (Int.ofNat 12 ≠ Int.ofNat 0)
    (V.need (0 < 1 ∧ 0 < 1)
    (V.need (0 < 1 ∧ 0 < 1)
    (V.need (0 < 1 ∧ 0 < 1)
    (V.need (0 < 1 ∧ 0 < 1)
    (V.need (0 < 1 ∧ 0 < 1)
    (V.need (0 < 1 ∧ 0 < 1)
    (V.need (Int.ofNat 4 ≠ Int.ofNat 0)
    (V.need (0 < 1 ∧ 0 < 1)
    (V.need (0 < 1 ∧ 0 < 1)
    (V.need (0 < 1 ∧ 0 < 1)
    (V.need (0 < 1 ∧ 0 < 1)
    (V.need (0 < 1 ∧ 0 < 1)
    (V.need (0 < 1 ∧ 0 < 1)
    (V.need (Int.ofNat 4 ≠ Int.ofNat 0)
    (V.need (0 < 1 ∧ 0 < 1)
    (V.need (0 < 1 ∧ 0 < 1)
    (V.need (0 < 1 ∧ 0 < 1)
    (V.need (0 < 1 ∧ 0 < 1)
    (V.need (0 < 1 ∧ 0 < 1)
    (V.need (0 < 1 ∧ 0 < 1)
    (V.need (Int.ofNat 1 ≠ Int.ofNat 0)
    (V.need (0 < 1 ∧ 0 < 1)
    (V.need (0 < 1 ∧ 0 < 1)
    (V.need (0 < 1 ∧ 0 < 1)
    (V.need (0 < 1 ∧ 0 < 1)
    (V.need (0 < 1 ∧ 0 < 1)
    (V.need (0 < 1 ∧ 0 < 1)
    (V.need (Int.ofNat 6 ≠ Int.ofNat 0)
    (V.need (0 < 1 ∧ 0 < 1)
    (V.need (0 < 1 ∧ 0 < 1)
    (V.need (0 < 1 ∧ 0 < 1)
    (V.need (0 < 1 ∧ 0 < 1)
    (V.need (0 < 1 ∧ 0 < 1)
    (V.need (0 < 1 ∧ 0 < 1)
    (V.need (Int.ofNat 8 ≠ Int.ofNat 0)
    (V.need (0 < 1 ∧ 0 < 1)
    (V.need (0 < 1 ∧ 0 < 1)
    (V.need (0 < 1 ∧ 0 < 1)
    (V.need (0 < 1 ∧ 0 < 1)
    (V.need (0 < 1 ∧ 0 < 1)
    (V.need (0 < 1 ∧ 0 < 1)
    (V.need (Int.ofNat 4 ≠ Int.ofNat 0)
    (V.need (0 < 1 ∧ 0 < 1)
    (V.need (0 < 1 ∧ 0 < 1)
    (V.need (0 < 1 ∧ 0 < 1)
    (V.need (0 < 1 ∧ 0 < 1)
    (V.need (0 < 1 ∧ 0 < 1)
    (V.need (0 < 1 ∧ 0 < 1)
    (V.need (Int.ofNat 6 ≠ Int.ofNat 0)
    (V.need (0 < 1 ∧ 0 < 1)
    (V.need (0 < 1 ∧ 0 < 1)
    (V.need (0 < 1 ∧ 0 < 1)
    (V.need (0 < 1 ∧ 0 < 1)
    (V.need (0 < 1 ∧ 0 < 1)
    (V.need (0 < 1 ∧ 0 < 1)
    (V.need (Int.ofNat 6 ≠ Int.ofNat 0)
    (V.need (0 < 3)
    (V.need (0 < 3)
    (V.need (0 < 3)
    (V.need (0 < 3)
    (V.need (1 < 3)
    (V.need (1 < 3)
    (V.need (1 < 3)
    (V.need (1 < 3)
    (V.need (2 < 3)
    (V.need (2 < 3)
    (V.need (2 < 3)
    (V.need (2 < 3)
    (V.br true
    (V.br true
    (V.br true
    (V.br true
    (V.br true
    (V.br true
    (V.br true
    (V.br true
    (V.br false
    (V.need True
    (V.need (false = true) V.ok))
    (V.br false
    (V.need True
    (V.need (false = true) V.ok))
    (V.need (0 < 1)
    (V.need (0 < 1)
    (V.need True V.ok)))))
    (V.need True
    (V.need (false = true) V.ok)))
    (V.need True
    (V.need (false = true) V.ok)))
    (V.need True
    (V.need (false = true) V.ok)))
    (V.need True
    (V.need (false = true) V.ok)))
    (V.need True
    (V.need (false = true) V.ok)))
    (V.need True
    (V.need (false = true) V.ok)))
    (V.need True
    (V.need (false = true) V.ok)))
    (V.need True
    (V.need (false = true) V.ok)))))))))))))))))))))))))))))))))))))))))))))))))))))))))))))))))))))))))))))))))))))))))))))))))) := by kernel_rfl


end Go.Proofs.Ytjpnpaboahbncaa.Vc

/- ConfigChecks: the conditions, printed by program. -/
set_option linter.unusedVariables false
set_option maxRecDepth 100000
namespace Go.Proofs.Ytjpnpaboahbncaa.Vc
open Go Go.RowKit Sx Cn Dc Ck

theorem verCh_eq (c : Cf) (which by' : Int) : verCh c which by' =
  V.need (Int.ofNat 1 ≠ Int.ofNat 0)
    (V.need (0 < 1 ∧ 0 < 1)
    (V.need (0 < 1 ∧ 0 < 1)
    (V.need (Int.ofNat 1 ≠ Int.ofNat 0)
    (V.need (Int.ofNat 7 ≠ Int.ofNat 0)
    (V.need (Int.ofNat 1 ≠ Int.ofNat 0)
    (V.need (Int.ofNat 15 ≤ Int.ofNat 9223372036854775807)
    (V.br (decide (dr (IntKind.i64.wrap (which.tdiv (Int.ofNat 1))) (Int.ofNat 15) < Int.ofNat 9))
    (V.need (Int.ofNat 0 ≤ dr (IntKind.i64.wrap (which.tdiv (Int.ofNat 1))) (Int.ofNat 15) ∧ dr (IntKind.i64.wrap (which.tdiv (Int.ofNat 1))) (Int.ofNat 15) < (↑9 : Int))
    (V.need (0 + (dr (IntKind.i64.wrap (which.tdiv (Int.ofNat 1))) (Int.ofNat 15)).toNat < 9)
    (V.need (0 + (dr (IntKind.i64.wrap (which.tdiv (Int.ofNat 1))) (Int.ofNat 15)).toNat < 9)
    (V.need (0 + (dr (IntKind.i64.wrap (which.tdiv (Int.ofNat 1))) (Int.ofNat 15)).toNat < 9)
    (V.br (0 + (dr (IntKind.i64.wrap (which.tdiv (Int.ofNat 1))) (Int.ofNat 15)).toNat == 0)
    (V.need (decide (dr which (Int.ofNat 15) < Int.ofNat 9) = true)
    (V.need True
    (V.need (by' = by')
    (V.need (c.L = c.L)
    (V.need (c.C = c.C)
    (V.need (c.T = c.T)
    (V.need (c.D = c.D)
    (V.need (c.H = c.H)
    (V.need (c.B = c.B)
    (V.need (c.A = c.A)
    (V.need (c.P = c.P)
    (V.need (c.nP = c.nP)
    (V.need (c.rc = c.rc)
    (V.need (c.nU = c.nU)
    (V.need (c.cu = c.cu) V.ok)))))))))))))))
    (V.br (0 + (dr (IntKind.i64.wrap (which.tdiv (Int.ofNat 1))) (Int.ofNat 15)).toNat == 1)
    (V.need (decide (dr which (Int.ofNat 15) < Int.ofNat 9) = true)
    (V.need True
    (V.need (c.W = c.W)
    (V.need (by' = by')
    (V.need (c.C = c.C)
    (V.need (c.T = c.T)
    (V.need (c.D = c.D)
    (V.need (c.H = c.H)
    (V.need (c.B = c.B)
    (V.need (c.A = c.A)
    (V.need (c.P = c.P)
    (V.need (c.nP = c.nP)
    (V.need (c.rc = c.rc)
    (V.need (c.nU = c.nU)
    (V.need (c.cu = c.cu) V.ok)))))))))))))))
    (V.br (0 + (dr (IntKind.i64.wrap (which.tdiv (Int.ofNat 1))) (Int.ofNat 15)).toNat == 2)
    (V.need (decide (dr which (Int.ofNat 15) < Int.ofNat 9) = true)
    (V.need True
    (V.need (c.W = c.W)
    (V.need (c.L = c.L)
    (V.need (by' = by')
    (V.need (c.T = c.T)
    (V.need (c.D = c.D)
    (V.need (c.H = c.H)
    (V.need (c.B = c.B)
    (V.need (c.A = c.A)
    (V.need (c.P = c.P)
    (V.need (c.nP = c.nP)
    (V.need (c.rc = c.rc)
    (V.need (c.nU = c.nU)
    (V.need (c.cu = c.cu) V.ok)))))))))))))))
    (V.br (0 + (dr (IntKind.i64.wrap (which.tdiv (Int.ofNat 1))) (Int.ofNat 15)).toNat == 3)
    (V.need (decide (dr which (Int.ofNat 15) < Int.ofNat 9) = true)
    (V.need True
    (V.need (c.W = c.W)
    (V.need (c.L = c.L)
    (V.need (c.C = c.C)
    (V.need (by' = by')
    (V.need (c.D = c.D)
    (V.need (c.H = c.H)
    (V.need (c.B = c.B)
    (V.need (c.A = c.A)
    (V.need (c.P = c.P)
    (V.need (c.nP = c.nP)
    (V.need (c.rc = c.rc)
    (V.need (c.nU = c.nU)
    (V.need (c.cu = c.cu) V.ok)))))))))))))))
    (V.br (0 + (dr (IntKind.i64.wrap (which.tdiv (Int.ofNat 1))) (Int.ofNat 15)).toNat == 4)
    (V.need (decide (dr which (Int.ofNat 15) < Int.ofNat 9) = true)
    (V.need True
    (V.need (c.W = c.W)
    (V.need (c.L = c.L)
    (V.need (c.C = c.C)
    (V.need (c.T = c.T)
    (V.need (by' = by')
    (V.need (c.H = c.H)
    (V.need (c.B = c.B)
    (V.need (c.A = c.A)
    (V.need (c.P = c.P)
    (V.need (c.nP = c.nP)
    (V.need (c.rc = c.rc)
    (V.need (c.nU = c.nU)
    (V.need (c.cu = c.cu) V.ok)))))))))))))))
    (V.br (0 + (dr (IntKind.i64.wrap (which.tdiv (Int.ofNat 1))) (Int.ofNat 15)).toNat == 5)
    (V.need (decide (dr which (Int.ofNat 15) < Int.ofNat 9) = true)
    (V.need True
    (V.need (c.W = c.W)
    (V.need (c.L = c.L)
    (V.need (c.C = c.C)
    (V.need (c.T = c.T)
    (V.need (c.D = c.D)
    (V.need (by' = by')
    (V.need (c.B = c.B)
    (V.need (c.A = c.A)
    (V.need (c.P = c.P)
    (V.need (c.nP = c.nP)
    (V.need (c.rc = c.rc)
    (V.need (c.nU = c.nU)
    (V.need (c.cu = c.cu) V.ok)))))))))))))))
    (V.br (0 + (dr (IntKind.i64.wrap (which.tdiv (Int.ofNat 1))) (Int.ofNat 15)).toNat == 6)
    (V.need (decide (dr which (Int.ofNat 15) < Int.ofNat 9) = true)
    (V.need True
    (V.need (c.W = c.W)
    (V.need (c.L = c.L)
    (V.need (c.C = c.C)
    (V.need (c.T = c.T)
    (V.need (c.D = c.D)
    (V.need (c.H = c.H)
    (V.need (by' = by')
    (V.need (c.A = c.A)
    (V.need (c.P = c.P)
    (V.need (c.nP = c.nP)
    (V.need (c.rc = c.rc)
    (V.need (c.nU = c.nU)
    (V.need (c.cu = c.cu) V.ok)))))))))))))))
    (V.br (0 + (dr (IntKind.i64.wrap (which.tdiv (Int.ofNat 1))) (Int.ofNat 15)).toNat == 7)
    (V.need (decide (dr which (Int.ofNat 15) < Int.ofNat 9) = true)
    (V.need True
    (V.need (c.W = c.W)
    (V.need (c.L = c.L)
    (V.need (c.C = c.C)
    (V.need (c.T = c.T)
    (V.need (c.D = c.D)
    (V.need (c.H = c.H)
    (V.need (c.B = c.B)
    (V.need (by' = by')
    (V.need (c.P = c.P)
    (V.need (c.nP = c.nP)
    (V.need (c.rc = c.rc)
    (V.need (c.nU = c.nU)
    (V.need (c.cu = c.cu) V.ok)))))))))))))))
    (V.need (decide (dr which (Int.ofNat 15) < Int.ofNat 9) = true)
    (V.need True
    (V.need (c.W = c.W)
    (V.need (c.L = c.L)
    (V.need (c.C = c.C)
    (V.need (c.T = c.T)
    (V.need (c.D = c.D)
    (V.need (c.H = c.H)
    (V.need (c.B = c.B)
    (V.need (c.A = c.A)
    (V.need (by' = by')
    (V.need (c.nP = c.nP)
    (V.need (c.rc = c.rc)
    (V.need (c.nU = c.nU)
    (V.need (c.cu = c.cu) V.ok)))))))))))))))))))))))))))
    (V.need (c.W = c.W)
    (V.need (c.L = c.L)
    (V.need (c.C = c.C)
    (V.need (c.T = c.T)
    (V.need (c.D = c.D)
    (V.need (c.H = c.H)
    (V.need (c.B = c.B)
    (V.need (c.A = c.A)
    (V.need (c.P = c.P)
    (V.need (c.nP = c.nP)
    (V.need (c.rc = c.rc)
    (V.need (c.nU = c.nU)
    (V.need (c.cu = c.cu)
    (V.need (1 ≤ 1)
    (V.need (∀ (i : Nat), i < 1 → c.nP ≤ c.nP)
    (V.need (∀ (i e : Nat), i < 1 ∧ e < c.nP → e = e)
    (V.need (∀ (i e : Nat), i < 1 ∧ e < c.nP → c.lenP e = c.lenP e)
    (V.need (∀ (i e : Nat), i < 1 ∧ e < c.nP → c.FC e = c.FC e)
    (V.need (1 ≤ 1)
    (V.need (∀ (i : Nat), i < 1 → c.nU ≤ c.nU)
    (V.need (∀ (i e : Nat), i < 1 ∧ e < c.nU → c.uP e = c.uP e)
    (V.need (∀ (i e : Nat), i < 1 ∧ e < c.nU → c.uL e = c.uL e)
    (V.need (∀ (i e : Nat), i < 1 ∧ e < c.nU → c.uD e = c.uD e)
    (V.need (c.nP ≤ c.nP)
    (V.need (∀ (i : Nat), i < c.nP → c.lenP i ≤ c.lenP i)
    (V.need (∀ (i e : Nat), i < c.nP ∧ e < c.lenP i → c.iO i e = c.iO i e)
    (V.need (∀ (i e : Nat), i < c.nP ∧ e < c.lenP i → c.iA i e = c.iA i e)
    (V.need (∀ (i e : Nat), i < c.nP ∧ e < c.lenP i → c.iB i e = c.iB i e)
    (V.need True
    (V.need (∃ (x : Nat × Nat × (Nat → Int) × Int), EncOf (Cf.mk c.W c.L c.C c.T c.D c.H c.B c.A c.P c.nP c.rc c.nU c.cu (fun (e : Nat) => c.lenP e) (fun (e : Nat) => c.FC e) (fun (i e : Nat) => c.iO i e) (fun (i e : Nat) => c.iA i e) (fun (i e : Nat) => c.iB i e) (fun (e : Nat) => c.uP e) (fun (e : Nat) => c.uL e) fun (e : Nat) => c.uD e) x)
    (V.any (Nat × Nat × (Nat → Int) × Int) (EncOf (Cf.mk c.W c.L c.C c.T c.D c.H c.B c.A c.P c.nP c.rc c.nU c.cu (fun (e : Nat) => c.lenP e) (fun (e : Nat) => c.FC e) (fun (i e : Nat) => c.iO i e) (fun (i e : Nat) => c.iA i e) (fun (i e : Nat) => c.iB i e) (fun (e : Nat) => c.uP e) (fun (e : Nat) => c.uL e) fun (e : Nat) => c.uD e)) fun (x : Nat × Nat × (Nat → Int) × Int) => V.need (x.fst = x.fst)
    (V.need (x.snd.fst = x.snd.fst)
    (V.need (1 ≤ 1)
    (V.need (x.fst ≤ x.fst ∧ x.fst ≤ x.snd.fst)
    (V.need (∀ (i e : Nat), i = 0 ∧ e < x.fst → x.snd.snd.fst e = x.snd.snd.fst e)
    (V.need (U8 x.fst fun (e : Nat) => x.snd.snd.fst e)
    (V.need (∃ (x_1 : Cf), IsDec (fun (e : Nat) => x.snd.snd.fst e) x.fst x_1)
    (V.any Cf (IsDec (fun (e : Nat) => x.snd.snd.fst e) x.fst) fun (x : Cf) => V.need (Int.ofNat 0 ≤ Int.ofNat 0 ∧ Int.ofNat 0 < (↑x.nP : Int))
    (V.need (0 < x.nP)
    (V.need (0 < x.nP)
    (V.br (decide ((↑(x.lenP 0) : Int) > Int.ofNat 0))
    (V.need (0 < 1 ∧ 0 < 1)
    (V.need (0 < 1 ∧ 0 < 1)
    (V.need (Int.ofNat 0 ≤ Int.ofNat 0 ∧ Int.ofNat 0 < (↑x.nP : Int))
    (V.need (0 < 1 ∧ 0 < x.nP)
    (V.need (0 < 1 ∧ 0 < x.nP)
    (V.need (Int.ofNat 15 ≠ Int.ofNat 0)
    (V.need (Int.ofNat 1 ≠ Int.ofNat 0)
    (V.need (0 < 1 ∧ 0 < 1)
    (V.need (0 < 1 ∧ 0 < 1)
    (V.need (Int.ofNat 1 ≠ Int.ofNat 0)
    (V.need (Int.ofNat 7 ≠ Int.ofNat 0)
    (V.need (Int.ofNat 1 ≠ Int.ofNat 0)
    (V.need ((↑(x.lenP 0) : Int) ≤ Int.ofNat 9223372036854775807)
    (V.need (Int.ofNat 0 ≤ dr (IntKind.i64.wrap ((IntKind.i64.wrap (which.tdiv (Int.ofNat 15))).tdiv (Int.ofNat 1))) (↑(x.lenP 0) : Int) ∧ dr (IntKind.i64.wrap ((IntKind.i64.wrap (which.tdiv (Int.ofNat 15))).tdiv (Int.ofNat 1))) (↑(x.lenP 0) : Int) < (↑(x.lenP 0) : Int))
    (V.need (0 + (dr (IntKind.i64.wrap ((IntKind.i64.wrap (which.tdiv (Int.ofNat 15))).tdiv (Int.ofNat 1))) (↑(x.lenP 0) : Int)).toNat < gd x.nP x.lenP 0)
    (V.need (0 + (dr (IntKind.i64.wrap ((IntKind.i64.wrap (which.tdiv (Int.ofNat 15))).tdiv (Int.ofNat 1))) (↑(x.lenP 0) : Int)).toNat < gd x.nP x.lenP 0)
    (V.need (0 + (dr (IntKind.i64.wrap ((IntKind.i64.wrap (which.tdiv (Int.ofNat 15))).tdiv (Int.ofNat 1))) (↑(x.lenP 0) : Int)).toNat < gd x.nP x.lenP 0)
    (V.need (0 + (dr (IntKind.i64.wrap ((IntKind.i64.wrap (which.tdiv (Int.ofNat 15))).tdiv (Int.ofNat 1))) (↑(x.lenP 0) : Int)).toNat < gd x.nP x.lenP 0)
    (V.need (0 + (dr (IntKind.i64.wrap ((IntKind.i64.wrap (which.tdiv (Int.ofNat 15))).tdiv (Int.ofNat 1))) (↑(x.lenP 0) : Int)).toNat < gd x.nP x.lenP 0)
    (V.need (0 + (dr (IntKind.i64.wrap ((IntKind.i64.wrap (which.tdiv (Int.ofNat 15))).tdiv (Int.ofNat 1))) (↑(x.lenP 0) : Int)).toNat < gd x.nP x.lenP 0)
    (V.need (0 + (dr (IntKind.i64.wrap ((IntKind.i64.wrap (which.tdiv (Int.ofNat 15))).tdiv (Int.ofNat 1))) (↑(x.lenP 0) : Int)).toNat < gd x.nP x.lenP 0)
    (V.need (Int.ofNat 3 ≠ Int.ofNat 0)
    (V.need (Int.ofNat 0 ≤ (dr (IntKind.i64.wrap (which.tdiv (Int.ofNat 1))) (Int.ofNat 15)).tmod (Int.ofNat 3) ∧ (dr (IntKind.i64.wrap (which.tdiv (Int.ofNat 1))) (Int.ofNat 15)).tmod (Int.ofNat 3) < (↑3 : Int))
    (V.need (0 + ((dr (IntKind.i64.wrap (which.tdiv (Int.ofNat 1))) (Int.ofNat 15)).tmod (Int.ofNat 3)).toNat < 3)
    (V.need (0 + ((dr (IntKind.i64.wrap (which.tdiv (Int.ofNat 1))) (Int.ofNat 15)).tmod (Int.ofNat 3)).toNat < 3)
    (V.need (0 + ((dr (IntKind.i64.wrap (which.tdiv (Int.ofNat 1))) (Int.ofNat 15)).tmod (Int.ofNat 3)).toNat < [SC.ptr 9345848836105 (NV.s 0) (NV.s (0 + (dr (IntKind.i64.wrap ((IntKind.i64.wrap (which.tdiv (Int.ofNat 15))).tdiv (Int.ofNat 1))) (↑(x.lenP 0) : Int)).toNat)) 0 3, SC.ptr 9345848836105 (NV.s 0) (NV.s (0 + (dr (IntKind.i64.wrap ((IntKind.i64.wrap (which.tdiv (Int.ofNat 15))).tdiv (Int.ofNat 1))) (↑(x.lenP 0) : Int)).toNat)) 1 3, SC.ptr 9345848836105 (NV.s 0) (NV.s (0 + (dr (IntKind.i64.wrap ((IntKind.i64.wrap (which.tdiv (Int.ofNat 15))).tdiv (Int.ofNat 1))) (↑(x.lenP 0) : Int)).toNat)) 2 3].length)
    (V.br (0 + ((dr (IntKind.i64.wrap (which.tdiv (Int.ofNat 1))) (Int.ofNat 15)).tmod (Int.ofNat 3)).toNat == 0)
    (V.need (0 + (dr (IntKind.i64.wrap ((IntKind.i64.wrap (which.tdiv (Int.ofNat 15))).tdiv (Int.ofNat 1))) (↑(x.lenP 0) : Int)).toNat < gd x.nP x.lenP 0)
    (V.need (0 + (dr (IntKind.i64.wrap ((IntKind.i64.wrap (which.tdiv (Int.ofNat 15))).tdiv (Int.ofNat 1))) (↑(x.lenP 0) : Int)).toNat < gd x.nP x.lenP 0)
    (V.br (decide ((↑x.nU : Int) > Int.ofNat 0))
    (V.need (Int.ofNat 2 ≠ Int.ofNat 0)
    (V.br ((dr (IntKind.i64.wrap (which.tdiv (Int.ofNat 1))) (Int.ofNat 15)).tmod (Int.ofNat 2) == Int.ofNat 0)
    (V.need (0 < 1 ∧ 0 < 1)
    (V.need (0 < 1 ∧ 0 < 1)
    (V.need (Int.ofNat 15 ≠ Int.ofNat 0)
    (V.need (Int.ofNat 1 ≠ Int.ofNat 0)
    (V.need (0 < 1 ∧ 0 < 1)
    (V.need (0 < 1 ∧ 0 < 1)
    (V.need (Int.ofNat 1 ≠ Int.ofNat 0)
    (V.need (Int.ofNat 7 ≠ Int.ofNat 0)
    (V.need (Int.ofNat 1 ≠ Int.ofNat 0)
    (V.need ((↑x.nU : Int) ≤ Int.ofNat 9223372036854775807)
    (V.need (Int.ofNat 0 ≤ dr (IntKind.i64.wrap ((IntKind.i64.wrap (which.tdiv (Int.ofNat 15))).tdiv (Int.ofNat 1))) (↑x.nU : Int) ∧ dr (IntKind.i64.wrap ((IntKind.i64.wrap (which.tdiv (Int.ofNat 15))).tdiv (Int.ofNat 1))) (↑x.nU : Int) < (↑x.nU : Int))
    (V.need (0 < 1 ∧ 0 + (dr (IntKind.i64.wrap ((IntKind.i64.wrap (which.tdiv (Int.ofNat 15))).tdiv (Int.ofNat 1))) (↑x.nU : Int)).toNat < x.nU)
    (V.need (0 < 1 ∧ 0 + (dr (IntKind.i64.wrap ((IntKind.i64.wrap (which.tdiv (Int.ofNat 15))).tdiv (Int.ofNat 1))) (↑x.nU : Int)).toNat < x.nU)
    (V.need (0 < 1 ∧ 0 + (dr (IntKind.i64.wrap ((IntKind.i64.wrap (which.tdiv (Int.ofNat 15))).tdiv (Int.ofNat 1))) (↑x.nU : Int)).toNat < x.nU)
    (V.need (0 < 1 ∧ 0 + (dr (IntKind.i64.wrap ((IntKind.i64.wrap (which.tdiv (Int.ofNat 15))).tdiv (Int.ofNat 1))) (↑x.nU : Int)).toNat < x.nU)
    (V.need (0 < 1 ∧ 0 + (dr (IntKind.i64.wrap ((IntKind.i64.wrap (which.tdiv (Int.ofNat 15))).tdiv (Int.ofNat 1))) (↑x.nU : Int)).toNat < x.nU)
    (V.need (0 < 1 ∧ 0 + (dr (IntKind.i64.wrap ((IntKind.i64.wrap (which.tdiv (Int.ofNat 15))).tdiv (Int.ofNat 1))) (↑x.nU : Int)).toNat < x.nU)
    (V.need (0 < 1 ∧ 0 + (dr (IntKind.i64.wrap ((IntKind.i64.wrap (which.tdiv (Int.ofNat 15))).tdiv (Int.ofNat 1))) (↑x.nU : Int)).toNat < x.nU)
    (V.need (Int.ofNat 3 ≠ Int.ofNat 0)
    (V.need (Int.ofNat 0 ≤ (dr (IntKind.i64.wrap (which.tdiv (Int.ofNat 1))) (Int.ofNat 15)).tmod (Int.ofNat 3) ∧ (dr (IntKind.i64.wrap (which.tdiv (Int.ofNat 1))) (Int.ofNat 15)).tmod (Int.ofNat 3) < (↑3 : Int))
    (V.need (0 + ((dr (IntKind.i64.wrap (which.tdiv (Int.ofNat 1))) (Int.ofNat 15)).tmod (Int.ofNat 3)).toNat < 3)
    (V.need (0 + ((dr (IntKind.i64.wrap (which.tdiv (Int.ofNat 1))) (Int.ofNat 15)).tmod (Int.ofNat 3)).toNat < 3)
    (V.need (0 + ((dr (IntKind.i64.wrap (which.tdiv (Int.ofNat 1))) (Int.ofNat 15)).tmod (Int.ofNat 3)).toNat < [SC.ptr 9345848836107 (NV.k 0) (NV.s (0 + (dr (IntKind.i64.wrap ((IntKind.i64.wrap (which.tdiv (Int.ofNat 15))).tdiv (Int.ofNat 1))) (↑x.nU : Int)).toNat)) 0 3, SC.ptr 9345848836107 (NV.k 0) (NV.s (0 + (dr (IntKind.i64.wrap ((IntKind.i64.wrap (which.tdiv (Int.ofNat 15))).tdiv (Int.ofNat 1))) (↑x.nU : Int)).toNat)) 1 3, SC.ptr 9345848836107 (NV.k 0) (NV.s (0 + (dr (IntKind.i64.wrap ((IntKind.i64.wrap (which.tdiv (Int.ofNat 15))).tdiv (Int.ofNat 1))) (↑x.nU : Int)).toNat)) 2 3].length)
    (V.br (0 + ((dr (IntKind.i64.wrap (which.tdiv (Int.ofNat 1))) (Int.ofNat 15)).tmod (Int.ofNat 3)).toNat == 0)
    (V.need (0 + (dr (IntKind.i64.wrap ((IntKind.i64.wrap (which.tdiv (Int.ofNat 15))).tdiv (Int.ofNat 1))) (↑x.nU : Int)).toNat < x.nU)
    (V.need (0 + (dr (IntKind.i64.wrap ((IntKind.i64.wrap (which.tdiv (Int.ofNat 15))).tdiv (Int.ofNat 1))) (↑x.nU : Int)).toNat < x.nU)
    (V.need (decide (dr which (Int.ofNat 15) < Int.ofNat 9) = false)
    (V.need (smallC (Cf.mk x.W x.L x.C x.T x.D x.H x.B x.A x.P x.nP x.rc x.nU x.cu (fun (e : Nat) => x.lenP e) (fun (e : Nat) => x.FC e) (fun (i' j : Nat) => if i' = 0 ∧ j = 0 + (dr (IntKind.i64.wrap ((IntKind.i64.wrap (which.tdiv (Int.ofNat 15))).tdiv (Int.ofNat 1))) (↑(x.lenP 0) : Int)).toNat then by' else x.iO i' j) (fun (i e : Nat) => x.iA i e) (fun (i e : Nat) => x.iB i e) (fun (e : Nat) => if 0 = 0 ∧ e = 0 + (dr (IntKind.i64.wrap ((IntKind.i64.wrap (which.tdiv (Int.ofNat 15))).tdiv (Int.ofNat 1))) (↑x.nU : Int)).toNat then by' else x.uP e) (fun (e : Nat) => x.uL e) fun (e : Nat) => x.uD e))
    (V.need (x.W = x.W)
    (V.need (x.L = x.L)
    (V.need (x.C = x.C)
    (V.need (x.T = x.T)
    (V.need (x.D = x.D)
    (V.need (x.H = x.H)
    (V.need (x.B = x.B)
    (V.need (x.A = x.A)
    (V.need (x.P = x.P)
    (V.need (x.nP = x.nP)
    (V.need (x.rc = x.rc)
    (V.need (x.nU = x.nU)
    (V.need (x.cu = x.cu)
    (V.need (x.rc = x.rc)
    (V.need (x.nP ≤ x.nP)
    (V.need (∀ (e : Nat), e < x.nP → e = e)
    (V.need (∀ (e : Nat), e < x.nP → x.lenP e = x.lenP e)
    (V.need (∀ (e : Nat), e < x.nP → x.FC e = x.FC e)
    (V.need (x.cu = x.cu)
    (V.need (x.nU ≤ x.nU)
    (V.need (∀ (e : Nat), e < x.nU → (if 0 = 0 ∧ e = 0 + (dr (IntKind.i64.wrap ((IntKind.i64.wrap (which.tdiv (Int.ofNat 15))).tdiv (Int.ofNat 1))) (↑x.nU : Int)).toNat then by' else x.uP e) = if 0 = 0 ∧ e = 0 + (dr (IntKind.i64.wrap ((IntKind.i64.wrap (which.tdiv (Int.ofNat 15))).tdiv (Int.ofNat 1))) (↑x.nU : Int)).toNat then by' else x.uP e)
    (V.need (∀ (e : Nat), e < x.nU → x.uL e = x.uL e)
    (V.need (∀ (e : Nat), e < x.nU → x.uD e = x.uD e)
    (V.need (∀ (i : Nat), gd x.nP x.FC i = gd x.nP (fun (e : Nat) => x.FC e) i ∨ gd x.nP (fun (e : Nat) => x.FC e) i = 0)
    (V.need (∀ (i : Nat), gd x.nP (fun (e : Nat) => x.lenP e) i ≤ gd x.nP (fun (e : Nat) => x.FC e) i ∧ gd x.nP (fun (e : Nat) => x.lenP e) i ≤ gd x.nP x.lenP i)
    (V.need (∀ (i e : Nat), e < gd x.nP (fun (e : Nat) => x.lenP e) i → (if i = 0 ∧ e = 0 + (dr (IntKind.i64.wrap ((IntKind.i64.wrap (which.tdiv (Int.ofNat 15))).tdiv (Int.ofNat 1))) (↑(x.lenP 0) : Int)).toNat then by' else x.iO i e) = if i = 0 ∧ e = 0 + (dr (IntKind.i64.wrap ((IntKind.i64.wrap (which.tdiv (Int.ofNat 15))).tdiv (Int.ofNat 1))) (↑(x.lenP 0) : Int)).toNat then by' else x.iO i e)
    (V.need (∀ (i e : Nat), e < gd x.nP (fun (e : Nat) => x.lenP e) i → x.iA i e = x.iA i e)
    (V.need (∀ (i e : Nat), e < gd x.nP (fun (e : Nat) => x.lenP e) i → x.iB i e = x.iB i e) V.ok))))))))))))))))))))))))))))))))
    (V.br (0 + ((dr (IntKind.i64.wrap (which.tdiv (Int.ofNat 1))) (Int.ofNat 15)).tmod (Int.ofNat 3)).toNat == 1)
    (V.need (0 + (dr (IntKind.i64.wrap ((IntKind.i64.wrap (which.tdiv (Int.ofNat 15))).tdiv (Int.ofNat 1))) (↑x.nU : Int)).toNat < x.nU)
    (V.need (0 + (dr (IntKind.i64.wrap ((IntKind.i64.wrap (which.tdiv (Int.ofNat 15))).tdiv (Int.ofNat 1))) (↑x.nU : Int)).toNat < x.nU)
    (V.need (decide (dr which (Int.ofNat 15) < Int.ofNat 9) = false)
    (V.need (smallC (Cf.mk x.W x.L x.C x.T x.D x.H x.B x.A x.P x.nP x.rc x.nU x.cu (fun (e : Nat) => x.lenP e) (fun (e : Nat) => x.FC e) (fun (i' j : Nat) => if i' = 0 ∧ j = 0 + (dr (IntKind.i64.wrap ((IntKind.i64.wrap (which.tdiv (Int.ofNat 15))).tdiv (Int.ofNat 1))) (↑(x.lenP 0) : Int)).toNat then by' else x.iO i' j) (fun (i e : Nat) => x.iA i e) (fun (i e : Nat) => x.iB i e) (fun (e : Nat) => x.uP e) (fun (e : Nat) => if 0 = 0 ∧ e = 0 + (dr (IntKind.i64.wrap ((IntKind.i64.wrap (which.tdiv (Int.ofNat 15))).tdiv (Int.ofNat 1))) (↑x.nU : Int)).toNat then by' else x.uL e) fun (e : Nat) => x.uD e))
    (V.need (x.W = x.W)
    (V.need (x.L = x.L)
    (V.need (x.C = x.C)
    (V.need (x.T = x.T)
    (V.need (x.D = x.D)
    (V.need (x.H = x.H)
    (V.need (x.B = x.B)
    (V.need (x.A = x.A)
    (V.need (x.P = x.P)
    (V.need (x.nP = x.nP)
    (V.need (x.rc = x.rc)
    (V.need (x.nU = x.nU)
    (V.need (x.cu = x.cu)
    (V.need (x.rc = x.rc)
    (V.need (x.nP ≤ x.nP)
    (V.need (∀ (e : Nat), e < x.nP → e = e)
    (V.need (∀ (e : Nat), e < x.nP → x.lenP e = x.lenP e)
    (V.need (∀ (e : Nat), e < x.nP → x.FC e = x.FC e)
    (V.need (x.cu = x.cu)
    (V.need (x.nU ≤ x.nU)
    (V.need (∀ (e : Nat), e < x.nU → x.uP e = x.uP e)
    (V.need (∀ (e : Nat), e < x.nU → (if 0 = 0 ∧ e = 0 + (dr (IntKind.i64.wrap ((IntKind.i64.wrap (which.tdiv (Int.ofNat 15))).tdiv (Int.ofNat 1))) (↑x.nU : Int)).toNat then by' else x.uL e) = if 0 = 0 ∧ e = 0 + (dr (IntKind.i64.wrap ((IntKind.i64.wrap (which.tdiv (Int.ofNat 15))).tdiv (Int.ofNat 1))) (↑x.nU : Int)).toNat then by' else x.uL e)
    (V.need (∀ (e : Nat), e < x.nU → x.uD e = x.uD e)
    (V.need (∀ (i : Nat), gd x.nP x.FC i = gd x.nP (fun (e : Nat) => x.FC e) i ∨ gd x.nP (fun (e : Nat) => x.FC e) i = 0)
    (V.need (∀ (i : Nat), gd x.nP (fun (e : Nat) => x.lenP e) i ≤ gd x.nP (fun (e : Nat) => x.FC e) i ∧ gd x.nP (fun (e : Nat) => x.lenP e) i ≤ gd x.nP x.lenP i)
    (V.need (∀ (i e : Nat), e < gd x.nP (fun (e : Nat) => x.lenP e) i → (if i = 0 ∧ e = 0 + (dr (IntKind.i64.wrap ((IntKind.i64.wrap (which.tdiv (Int.ofNat 15))).tdiv (Int.ofNat 1))) (↑(x.lenP 0) : Int)).toNat then by' else x.iO i e) = if i = 0 ∧ e = 0 + (dr (IntKind.i64.wrap ((IntKind.i64.wrap (which.tdiv (Int.ofNat 15))).tdiv (Int.ofNat 1))) (↑(x.lenP 0) : Int)).toNat then by' else x.iO i e)
    (V.need (∀ (i e : Nat), e < gd x.nP (fun (e : Nat) => x.lenP e) i → x.iA i e = x.iA i e)
    (V.need (∀ (i e : Nat), e < gd x.nP (fun (e : Nat) => x.lenP e) i → x.iB i e = x.iB i e) V.ok))))))))))))))))))))))))))))))))
    (V.need (0 + (dr (IntKind.i64.wrap ((IntKind.i64.wrap (which.tdiv (Int.ofNat 15))).tdiv (Int.ofNat 1))) (↑x.nU : Int)).toNat < x.nU)
    (V.need (0 + (dr (IntKind.i64.wrap ((IntKind.i64.wrap (which.tdiv (Int.ofNat 15))).tdiv (Int.ofNat 1))) (↑x.nU : Int)).toNat < x.nU)
    (V.need (decide (dr which (Int.ofNat 15) < Int.ofNat 9) = false)
    (V.need (smallC (Cf.mk x.W x.L x.C x.T x.D x.H x.B x.A x.P x.nP x.rc x.nU x.cu (fun (e : Nat) => x.lenP e) (fun (e : Nat) => x.FC e) (fun (i' j : Nat) => if i' = 0 ∧ j = 0 + (dr (IntKind.i64.wrap ((IntKind.i64.wrap (which.tdiv (Int.ofNat 15))).tdiv (Int.ofNat 1))) (↑(x.lenP 0) : Int)).toNat then by' else x.iO i' j) (fun (i e : Nat) => x.iA i e) (fun (i e : Nat) => x.iB i e) (fun (e : Nat) => x.uP e) (fun (e : Nat) => x.uL e) fun (e : Nat) => if 0 = 0 ∧ e = 0 + (dr (IntKind.i64.wrap ((IntKind.i64.wrap (which.tdiv (Int.ofNat 15))).tdiv (Int.ofNat 1))) (↑x.nU : Int)).toNat then by' else x.uD e))
    (V.need (x.W = x.W)
    (V.need (x.L = x.L)
    (V.need (x.C = x.C)
    (V.need (x.T = x.T)
    (V.need (x.D = x.D)
    (V.need (x.H = x.H)
    (V.need (x.B = x.B)
    (V.need (x.A = x.A)
    (V.need (x.P = x.P)
    (V.need (x.nP = x.nP)
    (V.need (x.rc = x.rc)
    (V.need (x.nU = x.nU)
    (V.need (x.cu = x.cu)
    (V.need (x.rc = x.rc)
    (V.need (x.nP ≤ x.nP)
    (V.need (∀ (e : Nat), e < x.nP → e = e)
    (V.need (∀ (e : Nat), e < x.nP → x.lenP e = x.lenP e)
    (V.need (∀ (e : Nat), e < x.nP → x.FC e = x.FC e)
    (V.need (x.cu = x.cu)
    (V.need (x.nU ≤ x.nU)
    (V.need (∀ (e : Nat), e < x.nU → x.uP e = x.uP e)
    (V.need (∀ (e : Nat), e < x.nU → x.uL e = x.uL e)
    (V.need (∀ (e : Nat), e < x.nU → (if 0 = 0 ∧ e = 0 + (dr (IntKind.i64.wrap ((IntKind.i64.wrap (which.tdiv (Int.ofNat 15))).tdiv (Int.ofNat 1))) (↑x.nU : Int)).toNat then by' else x.uD e) = if 0 = 0 ∧ e = 0 + (dr (IntKind.i64.wrap ((IntKind.i64.wrap (which.tdiv (Int.ofNat 15))).tdiv (Int.ofNat 1))) (↑x.nU : Int)).toNat then by' else x.uD e)
    (V.need (∀ (i : Nat), gd x.nP x.FC i = gd x.nP (fun (e : Nat) => x.FC e) i ∨ gd x.nP (fun (e : Nat) => x.FC e) i = 0)
    (V.need (∀ (i : Nat), gd x.nP (fun (e : Nat) => x.lenP e) i ≤ gd x.nP (fun (e : Nat) => x.FC e) i ∧ gd x.nP (fun (e : Nat) => x.lenP e) i ≤ gd x.nP x.lenP i)
    (V.need (∀ (i e : Nat), e < gd x.nP (fun (e : Nat) => x.lenP e) i → (if i = 0 ∧ e = 0 + (dr (IntKind.i64.wrap ((IntKind.i64.wrap (which.tdiv (Int.ofNat 15))).tdiv (Int.ofNat 1))) (↑(x.lenP 0) : Int)).toNat then by' else x.iO i e) = if i = 0 ∧ e = 0 + (dr (IntKind.i64.wrap ((IntKind.i64.wrap (which.tdiv (Int.ofNat 15))).tdiv (Int.ofNat 1))) (↑(x.lenP 0) : Int)).toNat then by' else x.iO i e)
    (V.need (∀ (i e : Nat), e < gd x.nP (fun (e : Nat) => x.lenP e) i → x.iA i e = x.iA i e)
    (V.need (∀ (i e : Nat), e < gd x.nP (fun (e : Nat) => x.lenP e) i → x.iB i e = x.iB i e) V.ok)))))))))))))))))))))))))))))))))))))))))))))))))))))))))
    (V.need (decide (dr which (Int.ofNat 15) < Int.ofNat 9) = false)
    (V.need (smallC (Cf.mk x.W x.L x.C x.T x.D x.H x.B x.A x.P x.nP x.rc x.nU x.cu (fun (e : Nat) => x.lenP e) (fun (e : Nat) => x.FC e) (fun (i' j : Nat) => if i' = 0 ∧ j = 0 + (dr (IntKind.i64.wrap ((IntKind.i64.wrap (which.tdiv (Int.ofNat 15))).tdiv (Int.ofNat 1))) (↑(x.lenP 0) : Int)).toNat then by' else x.iO i' j) (fun (i e : Nat) => x.iA i e) (fun (i e : Nat) => x.iB i e) (fun (e : Nat) => x.uP e) (fun (e : Nat) => x.uL e) fun (e : Nat) => x.uD e))
    (V.need (x.W = x.W)
    (V.need (x.L = x.L)
    (V.need (x.C = x.C)
    (V.need (x.T = x.T)
    (V.need (x.D = x.D)
    (V.need (x.H = x.H)
    (V.need (x.B = x.B)
    (V.need (x.A = x.A)
    (V.need (x.P = x.P)
    (V.need (x.nP = x.nP)
    (V.need (x.rc = x.rc)
    (V.need (x.nU = x.nU)
    (V.need (x.cu = x.cu)
    (V.need (x.rc = x.rc)
    (V.need (x.nP ≤ x.nP)
    (V.need (∀ (e : Nat), e < x.nP → e = e)
    (V.need (∀ (e : Nat), e < x.nP → x.lenP e = x.lenP e)
    (V.need (∀ (e : Nat), e < x.nP → x.FC e = x.FC e)
    (V.need (x.cu = x.cu)
    (V.need (x.nU ≤ x.nU)
    (V.need (∀ (e : Nat), e < x.nU → x.uP e = x.uP e)
    (V.need (∀ (e : Nat), e < x.nU → x.uL e = x.uL e)
    (V.need (∀ (e : Nat), e < x.nU → x.uD e = x.uD e)
    (V.need (∀ (i : Nat), gd x.nP x.FC i = gd x.nP (fun (e : Nat) => x.FC e) i ∨ gd x.nP (fun (e : Nat) => x.FC e) i = 0)
    (V.need (∀ (i : Nat), gd x.nP (fun (e : Nat) => x.lenP e) i ≤ gd x.nP (fun (e : Nat) => x.FC e) i ∧ gd x.nP (fun (e : Nat) => x.lenP e) i ≤ gd x.nP x.lenP i)
    (V.need (∀ (i e : Nat), e < gd x.nP (fun (e : Nat) => x.lenP e) i → (if i = 0 ∧ e = 0 + (dr (IntKind.i64.wrap ((IntKind.i64.wrap (which.tdiv (Int.ofNat 15))).tdiv (Int.ofNat 1))) (↑(x.lenP 0) : Int)).toNat then by' else x.iO i e) = if i = 0 ∧ e = 0 + (dr (IntKind.i64.wrap ((IntKind.i64.wrap (which.tdiv (Int.ofNat 15))).tdiv (Int.ofNat 1))) (↑(x.lenP 0) : Int)).toNat then by' else x.iO i e)
    (V.need (∀ (i e : Nat), e < gd x.nP (fun (e : Nat) => x.lenP e) i → x.iA i e = x.iA i e)
    (V.need (∀ (i e : Nat), e < gd x.nP (fun (e : Nat) => x.lenP e) i → x.iB i e = x.iB i e) V.ok))))))))))))))))))))))))))))))))
    (V.need (decide (dr which (Int.ofNat 15) < Int.ofNat 9) = false)
    (V.need (smallC (Cf.mk x.W x.L x.C x.T x.D x.H x.B x.A x.P x.nP x.rc x.nU x.cu (fun (e : Nat) => x.lenP e) (fun (e : Nat) => x.FC e) (fun (i' j : Nat) => if i' = 0 ∧ j = 0 + (dr (IntKind.i64.wrap ((IntKind.i64.wrap (which.tdiv (Int.ofNat 15))).tdiv (Int.ofNat 1))) (↑(x.lenP 0) : Int)).toNat then by' else x.iO i' j) (fun (i e : Nat) => x.iA i e) (fun (i e : Nat) => x.iB i e) (fun (e : Nat) => x.uP e) (fun (e : Nat) => x.uL e) fun (e : Nat) => x.uD e))
    (V.need (x.W = x.W)
    (V.need (x.L = x.L)
    (V.need (x.C = x.C)
    (V.need (x.T = x.T)
    (V.need (x.D = x.D)
    (V.need (x.H = x.H)
    (V.need (x.B = x.B)
    (V.need (x.A = x.A)
    (V.need (x.P = x.P)
    (V.need (x.nP = x.nP)
    (V.need (x.rc = x.rc)
    (V.need (x.nU = x.nU)
    (V.need (x.cu = x.cu)
    (V.need (x.rc = x.rc)
    (V.need (x.nP ≤ x.nP)
    (V.need (∀ (e : Nat), e < x.nP → e = e)
    (V.need (∀ (e : Nat), e < x.nP → x.lenP e = x.lenP e)
    (V.need (∀ (e : Nat), e < x.nP → x.FC e = x.FC e)
    (V.need (x.cu = x.cu)
    (V.need (x.nU ≤ x.nU)
    (V.need (∀ (e : Nat), e < x.nU → x.uP e = x.uP e)
    (V.need (∀ (e : Nat), e < x.nU → x.uL e = x.uL e)
    (V.need (∀ (e : Nat), e < x.nU → x.uD e = x.uD e)
    (V.need (∀ (i : Nat), gd x.nP x.FC i = gd x.nP (fun (e : Nat) => x.FC e) i ∨ gd x.nP (fun (e : Nat) => x.FC e) i = 0)
    (V.need (∀ (i : Nat), gd x.nP (fun (e : Nat) => x.lenP e) i ≤ gd x.nP (fun (e : Nat) => x.FC e) i ∧ gd x.nP (fun (e : Nat) => x.lenP e) i ≤ gd x.nP x.lenP i)
    (V.need (∀ (i e : Nat), e < gd x.nP (fun (e : Nat) => x.lenP e) i → (if i = 0 ∧ e = 0 + (dr (IntKind.i64.wrap ((IntKind.i64.wrap (which.tdiv (Int.ofNat 15))).tdiv (Int.ofNat 1))) (↑(x.lenP 0) : Int)).toNat then by' else x.iO i e) = if i = 0 ∧ e = 0 + (dr (IntKind.i64.wrap ((IntKind.i64.wrap (which.tdiv (Int.ofNat 15))).tdiv (Int.ofNat 1))) (↑(x.lenP 0) : Int)).toNat then by' else x.iO i e)
    (V.need (∀ (i e : Nat), e < gd x.nP (fun (e : Nat) => x.lenP e) i → x.iA i e = x.iA i e)
    (V.need (∀ (i e : Nat), e < gd x.nP (fun (e : Nat) => x.lenP e) i → x.iB i e = x.iB i e) V.ok)))))))))))))))))))))))))))))))))
    (V.br (0 + ((dr (IntKind.i64.wrap (which.tdiv (Int.ofNat 1))) (Int.ofNat 15)).tmod (Int.ofNat 3)).toNat == 1)
    (V.need (0 + (dr (IntKind.i64.wrap ((IntKind.i64.wrap (which.tdiv (Int.ofNat 15))).tdiv (Int.ofNat 1))) (↑(x.lenP 0) : Int)).toNat < gd x.nP x.lenP 0)
    (V.need (0 + (dr (IntKind.i64.wrap ((IntKind.i64.wrap (which.tdiv (Int.ofNat 15))).tdiv (Int.ofNat 1))) (↑(x.lenP 0) : Int)).toNat < gd x.nP x.lenP 0)
    (V.br (decide ((↑x.nU : Int) > Int.ofNat 0))
    (V.need (Int.ofNat 2 ≠ Int.ofNat 0)
    (V.br ((dr (IntKind.i64.wrap (which.tdiv (Int.ofNat 1))) (Int.ofNat 15)).tmod (Int.ofNat 2) == Int.ofNat 0)
    (V.need (0 < 1 ∧ 0 < 1)
    (V.need (0 < 1 ∧ 0 < 1)
    (V.need (Int.ofNat 15 ≠ Int.ofNat 0)
    (V.need (Int.ofNat 1 ≠ Int.ofNat 0)
    (V.need (0 < 1 ∧ 0 < 1)
    (V.need (0 < 1 ∧ 0 < 1)
    (V.need (Int.ofNat 1 ≠ Int.ofNat 0)
    (V.need (Int.ofNat 7 ≠ Int.ofNat 0)
    (V.need (Int.ofNat 1 ≠ Int.ofNat 0)
    (V.need ((↑x.nU : Int) ≤ Int.ofNat 9223372036854775807)
    (V.need (Int.ofNat 0 ≤ dr (IntKind.i64.wrap ((IntKind.i64.wrap (which.tdiv (Int.ofNat 15))).tdiv (Int.ofNat 1))) (↑x.nU : Int) ∧ dr (IntKind.i64.wrap ((IntKind.i64.wrap (which.tdiv (Int.ofNat 15))).tdiv (Int.ofNat 1))) (↑x.nU : Int) < (↑x.nU : Int))
    (V.need (0 < 1 ∧ 0 + (dr (IntKind.i64.wrap ((IntKind.i64.wrap (which.tdiv (Int.ofNat 15))).tdiv (Int.ofNat 1))) (↑x.nU : Int)).toNat < x.nU)
    (V.need (0 < 1 ∧ 0 + (dr (IntKind.i64.wrap ((IntKind.i64.wrap (which.tdiv (Int.ofNat 15))).tdiv (Int.ofNat 1))) (↑x.nU : Int)).toNat < x.nU)
    (V.need (0 < 1 ∧ 0 + (dr (IntKind.i64.wrap ((IntKind.i64.wrap (which.tdiv (Int.ofNat 15))).tdiv (Int.ofNat 1))) (↑x.nU : Int)).toNat < x.nU)
    (V.need (0 < 1 ∧ 0 + (dr (IntKind.i64.wrap ((IntKind.i64.wrap (which.tdiv (Int.ofNat 15))).tdiv (Int.ofNat 1))) (↑x.nU : Int)).toNat < x.nU)
    (V.need (0 < 1 ∧ 0 + (dr (IntKind.i64.wrap ((IntKind.i64.wrap (which.tdiv (Int.ofNat 15))).tdiv (Int.ofNat 1))) (↑x.nU : Int)).toNat < x.nU)
    (V.need (0 < 1 ∧ 0 + (dr (IntKind.i64.wrap ((IntKind.i64.wrap (which.tdiv (Int.ofNat 15))).tdiv (Int.ofNat 1))) (↑x.nU : Int)).toNat < x.nU)
    (V.need (0 < 1 ∧ 0 + (dr (IntKind.i64.wrap ((IntKind.i64.wrap (which.tdiv (Int.ofNat 15))).tdiv (Int.ofNat 1))) (↑x.nU : Int)).toNat < x.nU)
    (V.need (Int.ofNat 3 ≠ Int.ofNat 0)
    (V.need (Int.ofNat 0 ≤ (dr (IntKind.i64.wrap (which.tdiv (Int.ofNat 1))) (Int.ofNat 15)).tmod (Int.ofNat 3) ∧ (dr (IntKind.i64.wrap (which.tdiv (Int.ofNat 1))) (Int.ofNat 15)).tmod (Int.ofNat 3) < (↑3 : Int))
    (V.need (0 + ((dr (IntKind.i64.wrap (which.tdiv (Int.ofNat 1))) (Int.ofNat 15)).tmod (Int.ofNat 3)).toNat < 3)
    (V.need (0 + ((dr (IntKind.i64.wrap (which.tdiv (Int.ofNat 1))) (Int.ofNat 15)).tmod (Int.ofNat 3)).toNat < 3)
    (V.need (0 + ((dr (IntKind.i64.wrap (which.tdiv (Int.ofNat 1))) (Int.ofNat 15)).tmod (Int.ofNat 3)).toNat < [SC.ptr 9345848836107 (NV.k 0) (NV.s (0 + (dr (IntKind.i64.wrap ((IntKind.i64.wrap (which.tdiv (Int.ofNat 15))).tdiv (Int.ofNat 1))) (↑x.nU : Int)).toNat)) 0 3, SC.ptr 9345848836107 (NV.k 0) (NV.s (0 + (dr (IntKind.i64.wrap ((IntKind.i64.wrap (which.tdiv (Int.ofNat 15))).tdiv (Int.ofNat 1))) (↑x.nU : Int)).toNat)) 1 3, SC.ptr 9345848836107 (NV.k 0) (NV.s (0 + (dr (IntKind.i64.wrap ((IntKind.i64.wrap (which.tdiv (Int.ofNat 15))).tdiv (Int.ofNat 1))) (↑x.nU : Int)).toNat)) 2 3].length)
    (V.br (0 + ((dr (IntKind.i64.wrap (which.tdiv (Int.ofNat 1))) (Int.ofNat 15)).tmod (Int.ofNat 3)).toNat == 0)
    (V.need (0 + (dr (IntKind.i64.wrap ((IntKind.i64.wrap (which.tdiv (Int.ofNat 15))).tdiv (Int.ofNat 1))) (↑x.nU : Int)).toNat < x.nU)
    (V.need (0 + (dr (IntKind.i64.wrap ((IntKind.i64.wrap (which.tdiv (Int.ofNat 15))).tdiv (Int.ofNat 1))) (↑x.nU : Int)).toNat < x.nU)
    (V.need (decide (dr which (Int.ofNat 15) < Int.ofNat 9) = false)
    (V.need (smallC (Cf.mk x.W x.L x.C x.T x.D x.H x.B x.A x.P x.nP x.rc x.nU x.cu (fun (e : Nat) => x.lenP e) (fun (e : Nat) => x.FC e) (fun (i e : Nat) => x.iO i e) (fun (i' j : Nat) => if i' = 0 ∧ j = 0 + (dr (IntKind.i64.wrap ((IntKind.i64.wrap (which.tdiv (Int.ofNat 15))).tdiv (Int.ofNat 1))) (↑(x.lenP 0) : Int)).toNat then by' else x.iA i' j) (fun (i e : Nat) => x.iB i e) (fun (e : Nat) => if 0 = 0 ∧ e = 0 + (dr (IntKind.i64.wrap ((IntKind.i64.wrap (which.tdiv (Int.ofNat 15))).tdiv (Int.ofNat 1))) (↑x.nU : Int)).toNat then by' else x.uP e) (fun (e : Nat) => x.uL e) fun (e : Nat) => x.uD e))
    (V.need (x.W = x.W)
    (V.need (x.L = x.L)
    (V.need (x.C = x.C)
    (V.need (x.T = x.T)
    (V.need (x.D = x.D)
    (V.need (x.H = x.H)
    (V.need (x.B = x.B)
    (V.need (x.A = x.A)
    (V.need (x.P = x.P)
    (V.need (x.nP = x.nP)
    (V.need (x.rc = x.rc)
    (V.need (x.nU = x.nU)
    (V.need (x.cu = x.cu)
    (V.need (x.rc = x.rc)
    (V.need (x.nP ≤ x.nP)
    (V.need (∀ (e : Nat), e < x.nP → e = e)
    (V.need (∀ (e : Nat), e < x.nP → x.lenP e = x.lenP e)
    (V.need (∀ (e : Nat), e < x.nP → x.FC e = x.FC e)
    (V.need (x.cu = x.cu)
    (V.need (x.nU ≤ x.nU)
    (V.need (∀ (e : Nat), e < x.nU → (if 0 = 0 ∧ e = 0 + (dr (IntKind.i64.wrap ((IntKind.i64.wrap (which.tdiv (Int.ofNat 15))).tdiv (Int.ofNat 1))) (↑x.nU : Int)).toNat then by' else x.uP e) = if 0 = 0 ∧ e = 0 + (dr (IntKind.i64.wrap ((IntKind.i64.wrap (which.tdiv (Int.ofNat 15))).tdiv (Int.ofNat 1))) (↑x.nU : Int)).toNat then by' else x.uP e)
    (V.need (∀ (e : Nat), e < x.nU → x.uL e = x.uL e)
    (V.need (∀ (e : Nat), e < x.nU → x.uD e = x.uD e)
    (V.need (∀ (i : Nat), gd x.nP x.FC i = gd x.nP (fun (e : Nat) => x.FC e) i ∨ gd x.nP (fun (e : Nat) => x.FC e) i = 0)
    (V.need (∀ (i : Nat), gd x.nP (fun (e : Nat) => x.lenP e) i ≤ gd x.nP (fun (e : Nat) => x.FC e) i ∧ gd x.nP (fun (e : Nat) => x.lenP e) i ≤ gd x.nP x.lenP i)
    (V.need (∀ (i e : Nat), e < gd x.nP (fun (e : Nat) => x.lenP e) i → x.iO i e = x.iO i e)
    (V.need (∀ (i e : Nat), e < gd x.nP (fun (e : Nat) => x.lenP e) i → (if i = 0 ∧ e = 0 + (dr (IntKind.i64.wrap ((IntKind.i64.wrap (which.tdiv (Int.ofNat 15))).tdiv (Int.ofNat 1))) (↑(x.lenP 0) : Int)).toNat then by' else x.iA i e) = if i = 0 ∧ e = 0 + (dr (IntKind.i64.wrap ((IntKind.i64.wrap (which.tdiv (Int.ofNat 15))).tdiv (Int.ofNat 1))) (↑(x.lenP 0) : Int)).toNat then by' else x.iA i e)
    (V.need (∀ (i e : Nat), e < gd x.nP (fun (e : Nat) => x.lenP e) i → x.iB i e = x.iB i e) V.ok))))))))))))))))))))))))))))))))
    (V.br (0 + ((dr (IntKind.i64.wrap (which.tdiv (Int.ofNat 1))) (Int.ofNat 15)).tmod (Int.ofNat 3)).toNat == 1)
    (V.need (0 + (dr (IntKind.i64.wrap ((IntKind.i64.wrap (which.tdiv (Int.ofNat 15))).tdiv (Int.ofNat 1))) (↑x.nU : Int)).toNat < x.nU)
    (V.need (0 + (dr (IntKind.i64.wrap ((IntKind.i64.wrap (which.tdiv (Int.ofNat 15))).tdiv (Int.ofNat 1))) (↑x.nU : Int)).toNat < x.nU)
    (V.need (decide (dr which (Int.ofNat 15) < Int.ofNat 9) = false)
    (V.need (smallC (Cf.mk x.W x.L x.C x.T x.D x.H x.B x.A x.P x.nP x.rc x.nU x.cu (fun (e : Nat) => x.lenP e) (fun (e : Nat) => x.FC e) (fun (i e : Nat) => x.iO i e) (fun (i' j : Nat) => if i' = 0 ∧ j = 0 + (dr (IntKind.i64.wrap ((IntKind.i64.wrap (which.tdiv (Int.ofNat 15))).tdiv (Int.ofNat 1))) (↑(x.lenP 0) : Int)).toNat then by' else x.iA i' j) (fun (i e : Nat) => x.iB i e) (fun (e : Nat) => x.uP e) (fun (e : Nat) => if 0 = 0 ∧ e = 0 + (dr (IntKind.i64.wrap ((IntKind.i64.wrap (which.tdiv (Int.ofNat 15))).tdiv (Int.ofNat 1))) (↑x.nU : Int)).toNat then by' else x.uL e) fun (e : Nat) => x.uD e))
    (V.need (x.W = x.W)
    (V.need (x.L = x.L)
    (V.need (x.C = x.C)
    (V.need (x.T = x.T)
    (V.need (x.D = x.D)
    (V.need (x.H = x.H)
    (V.need (x.B = x.B)
    (V.need (x.A = x.A)
    (V.need (x.P = x.P)
    (V.need (x.nP = x.nP)
    (V.need (x.rc = x.rc)
    (V.need (x.nU = x.nU)
    (V.need (x.cu = x.cu)
    (V.need (x.rc = x.rc)
    (V.need (x.nP ≤ x.nP)
    (V.need (∀ (e : Nat), e < x.nP → e = e)
    (V.need (∀ (e : Nat), e < x.nP → x.lenP e = x.lenP e)
    (V.need (∀ (e : Nat), e < x.nP → x.FC e = x.FC e)
    (V.need (x.cu = x.cu)
    (V.need (x.nU ≤ x.nU)
    (V.need (∀ (e : Nat), e < x.nU → x.uP e = x.uP e)
    (V.need (∀ (e : Nat), e < x.nU → (if 0 = 0 ∧ e = 0 + (dr (IntKind.i64.wrap ((IntKind.i64.wrap (which.tdiv (Int.ofNat 15))).tdiv (Int.ofNat 1))) (↑x.nU : Int)).toNat then by' else x.uL e) = if 0 = 0 ∧ e = 0 + (dr (IntKind.i64.wrap ((IntKind.i64.wrap (which.tdiv (Int.ofNat 15))).tdiv (Int.ofNat 1))) (↑x.nU : Int)).toNat then by' else x.uL e)
    (V.need (∀ (e : Nat), e < x.nU → x.uD e = x.uD e)
    (V.need (∀ (i : Nat), gd x.nP x.FC i = gd x.nP (fun (e : Nat) => x.FC e) i ∨ gd x.nP (fun (e : Nat) => x.FC e) i = 0)
    (V.need (∀ (i : Nat), gd x.nP (fun (e : Nat) => x.lenP e) i ≤ gd x.nP (fun (e : Nat) => x.FC e) i ∧ gd x.nP (fun (e : Nat) => x.lenP e) i ≤ gd x.nP x.lenP i)
    (V.need (∀ (i e : Nat), e < gd x.nP (fun (e : Nat) => x.lenP e) i → x.iO i e = x.iO i e)
    (V.need (∀ (i e : Nat), e < gd x.nP (fun (e : Nat) => x.lenP e) i → (if i = 0 ∧ e = 0 + (dr (IntKind.i64.wrap ((IntKind.i64.wrap (which.tdiv (Int.ofNat 15))).tdiv (Int.ofNat 1))) (↑(x.lenP 0) : Int)).toNat then by' else x.iA i e) = if i = 0 ∧ e = 0 + (dr (IntKind.i64.wrap ((IntKind.i64.wrap (which.tdiv (Int.ofNat 15))).tdiv (Int.ofNat 1))) (↑(x.lenP 0) : Int)).toNat then by' else x.iA i e)
    (V.need (∀ (i e : Nat), e < gd x.nP (fun (e : Nat) => x.lenP e) i → x.iB i e = x.iB i e) V.ok))))))))))))))))))))))))))))))))
    (V.need (0 + (dr (IntKind.i64.wrap ((IntKind.i64.wrap (which.tdiv (Int.ofNat 15))).tdiv (Int.ofNat 1))) (↑x.nU : Int)).toNat < x.nU)
    (V.need (0 + (dr (IntKind.i64.wrap ((IntKind.i64.wrap (which.tdiv (Int.ofNat 15))).tdiv (Int.ofNat 1))) (↑x.nU : Int)).toNat < x.nU)
    (V.need (decide (dr which (Int.ofNat 15) < Int.ofNat 9) = false)
    (V.need (smallC (Cf.mk x.W x.L x.C x.T x.D x.H x.B x.A x.P x.nP x.rc x.nU x.cu (fun (e : Nat) => x.lenP e) (fun (e : Nat) => x.FC e) (fun (i e : Nat) => x.iO i e) (fun (i' j : Nat) => if i' = 0 ∧ j = 0 + (dr (IntKind.i64.wrap ((IntKind.i64.wrap (which.tdiv (Int.ofNat 15))).tdiv (Int.ofNat 1))) (↑(x.lenP 0) : Int)).toNat then by' else x.iA i' j) (fun (i e : Nat) => x.iB i e) (fun (e : Nat) => x.uP e) (fun (e : Nat) => x.uL e) fun (e : Nat) => if 0 = 0 ∧ e = 0 + (dr (IntKind.i64.wrap ((IntKind.i64.wrap (which.tdiv (Int.ofNat 15))).tdiv (Int.ofNat 1))) (↑x.nU : Int)).toNat then by' else x.uD e))
    (V.need (x.W = x.W)
    (V.need (x.L = x.L)
    (V.need (x.C = x.C)
    (V.need (x.T = x.T)
    (V.need (x.D = x.D)
    (V.need (x.H = x.H)
    (V.need (x.B = x.B)
    (V.need (x.A = x.A)
    (V.need (x.P = x.P)
    (V.need (x.nP = x.nP)
    (V.need (x.rc = x.rc)
    (V.need (x.nU = x.nU)
    (V.need (x.cu = x.cu)
    (V.need (x.rc = x.rc)
    (V.need (x.nP ≤ x.nP)
    (V.need (∀ (e : Nat), e < x.nP → e = e)
    (V.need (∀ (e : Nat), e < x.nP → x.lenP e = x.lenP e)
    (V.need (∀ (e : Nat), e < x.nP → x.FC e = x.FC e)
    (V.need (x.cu = x.cu)
    (V.need (x.nU ≤ x.nU)
    (V.need (∀ (e : Nat), e < x.nU → x.uP e = x.uP e)
    (V.need (∀ (e : Nat), e < x.nU → x.uL e = x.uL e)
    (V.need (∀ (e : Nat), e < x.nU → (if 0 = 0 ∧ e = 0 + (dr (IntKind.i64.wrap ((IntKind.i64.wrap (which.tdiv (Int.ofNat 15))).tdiv (Int.ofNat 1))) (↑x.nU : Int)).toNat then by' else x.uD e) = if 0 = 0 ∧ e = 0 + (dr (IntKind.i64.wrap ((IntKind.i64.wrap (which.tdiv (Int.ofNat 15))).tdiv (Int.ofNat 1))) (↑x.nU : Int)).toNat then by' else x.uD e)
    (V.need (∀ (i : Nat), gd x.nP x.FC i = gd x.nP (fun (e : Nat) => x.FC e) i ∨ gd x.nP (fun (e : Nat) => x.FC e) i = 0)
    (V.need (∀ (i : Nat), gd x.nP (fun (e : Nat) => x.lenP e) i ≤ gd x.nP (fun (e : Nat) => x.FC e) i ∧ gd x.nP (fun (e : Nat) => x.lenP e) i ≤ gd x.nP x.lenP i)
    (V.need (∀ (i e : Nat), e < gd x.nP (fun (e : Nat) => x.lenP e) i → x.iO i e = x.iO i e)
    (V.need (∀ (i e : Nat), e < gd x.nP (fun (e : Nat) => x.lenP e) i → (if i = 0 ∧ e = 0 + (dr (IntKind.i64.wrap ((IntKind.i64.wrap (which.tdiv (Int.ofNat 15))).tdiv (Int.ofNat 1))) (↑(x.lenP 0) : Int)).toNat then by' else x.iA i e) = if i = 0 ∧ e = 0 + (dr (IntKind.i64.wrap ((IntKind.i64.wrap (which.tdiv (Int.ofNat 15))).tdiv (Int.ofNat 1))) (↑(x.lenP 0) : Int)).toNat then by' else x.iA i e)
    (V.need (∀ (i e : Nat), e < gd x.nP (fun (e : Nat) => x.lenP e) i → x.iB i e = x.iB i e) V.ok)))))))))))))))))))))))))))))))))))))))))))))))))))))))))
    (V.need (decide (dr which (Int.ofNat 15) < Int.ofNat 9) = false)
    (V.need (smallC (Cf.mk x.W x.L x.C x.T x.D x.H x.B x.A x.P x.nP x.rc x.nU x.cu (fun (e : Nat) => x.lenP e) (fun (e : Nat) => x.FC e) (fun (i e : Nat) => x.iO i e) (fun (i' j : Nat) => if i' = 0 ∧ j = 0 + (dr (IntKind.i64.wrap ((IntKind.i64.wrap (which.tdiv (Int.ofNat 15))).tdiv (Int.ofNat 1))) (↑(x.lenP 0) : Int)).toNat then by' else x.iA i' j) (fun (i e : Nat) => x.iB i e) (fun (e : Nat) => x.uP e) (fun (e : Nat) => x.uL e) fun (e : Nat) => x.uD e))
    (V.need (x.W = x.W)
    (V.need (x.L = x.L)
    (V.need (x.C = x.C)
    (V.need (x.T = x.T)
    (V.need (x.D = x.D)
    (V.need (x.H = x.H)
    (V.need (x.B = x.B)
    (V.need (x.A = x.A)
    (V.need (x.P = x.P)
    (V.need (x.nP = x.nP)
    (V.need (x.rc = x.rc)
    (V.need (x.nU = x.nU)
    (V.need (x.cu = x.cu)
    (V.need (x.rc = x.rc)
    (V.need (x.nP ≤ x.nP)
    (V.need (∀ (e : Nat), e < x.nP → e = e)
    (V.need (∀ (e : Nat), e < x.nP → x.lenP e = x.lenP e)
    (V.need (∀ (e : Nat), e < x.nP → x.FC e = x.FC e)
    (V.need (x.cu = x.cu)
    (V.need (x.nU ≤ x.nU)
    (V.need (∀ (e : Nat), e < x.nU → x.uP e = x.uP e)
    (V.need (∀ (e : Nat), e < x.nU → x.uL e = x.uL e)
    (V.need (∀ (e : Nat), e < x.nU → x.uD e = x.uD e)
    (V.need (∀ (i : Nat), gd x.nP x.FC i = gd x.nP (fun (e : Nat) => x.FC e) i ∨ gd x.nP (fun (e : Nat) => x.FC e) i = 0)
    (V.need (∀ (i : Nat), gd x.nP (fun (e : Nat) => x.lenP e) i ≤ gd x.nP (fun (e : Nat) => x.FC e) i ∧ gd x.nP (fun (e : Nat) => x.lenP e) i ≤ gd x.nP x.lenP i)
    (V.need (∀ (i e : Nat), e < gd x.nP (fun (e : Nat) => x.lenP e) i → x.iO i e = x.iO i e)
    (V.need (∀ (i e : Nat), e < gd x.nP (fun (e : Nat) => x.lenP e) i → (if i = 0 ∧ e = 0 + (dr (IntKind.i64.wrap ((IntKind.i64.wrap (which.tdiv (Int.ofNat 15))).tdiv (Int.ofNat 1))) (↑(x.lenP 0) : Int)).toNat then by' else x.iA i e) = if i = 0 ∧ e = 0 + (dr (IntKind.i64.wrap ((IntKind.i64.wrap (which.tdiv (Int.ofNat 15))).tdiv (Int.ofNat 1))) (↑(x.lenP 0) : Int)).toNat then by' else x.iA i e)
    (V.need (∀ (i e : Nat), e < gd x.nP (fun (e : Nat) => x.lenP e) i → x.iB i e = x.iB i e) V.ok))))))))))))))))))))))))))))))))
    (V.need (decide (dr which (Int.ofNat 15) < Int.ofNat 9) = false)
    (V.need (smallC (Cf.mk x.W x.L x.C x.T x.D x.H x.B x.A x.P x.nP x.rc x.nU x.cu (fun (e : Nat) => x.lenP e) (fun (e : Nat) => x.FC e) (fun (i e : Nat) => x.iO i e) (fun (i' j : Nat) => if i' = 0 ∧ j = 0 + (dr (IntKind.i64.wrap ((IntKind.i64.wrap (which.tdiv (Int.ofNat 15))).tdiv (Int.ofNat 1))) (↑(x.lenP 0) : Int)).toNat then by' else x.iA i' j) (fun (i e : Nat) => x.iB i e) (fun (e : Nat) => x.uP e) (fun (e : Nat) => x.uL e) fun (e : Nat) => x.uD e))
    (V.need (x.W = x.W)
    (V.need (x.L = x.L)
    (V.need (x.C = x.C)
    (V.need (x.T = x.T)
    (V.need (x.D = x.D)
    (V.need (x.H = x.H)
    (V.need (x.B = x.B)
    (V.need (x.A = x.A)
    (V.need (x.P = x.P)
    (V.need (x.nP = x.nP)
    (V.need (x.rc = x.rc)
    (V.need (x.nU = x.nU)
    (V.need (x.cu = x.cu)
    (V.need (x.rc = x.rc)
    (V.need (x.nP ≤ x.nP)
    (V.need (∀ (e : Nat), e < x.nP → e = e)
    (V.need (∀ (e : Nat), e < x.nP → x.lenP e = x.lenP e)
    (V.need (∀ (e : Nat), e < x.nP → x.FC e = x.FC e)
    (V.need (x.cu = x.cu)
    (V.need (x.nU ≤ x.nU)
    (V.need (∀ (e : Nat), e < x.nU → x.uP e = x.uP e)
    (V.need (∀ (e : Nat), e < x.nU → x.uL e = x.uL e)
    (V.need (∀ (e : Nat), e < x.nU → x.uD e = x.uD e)
    (V.need (∀ (i : Nat), gd x.nP x.FC i = gd x.nP (fun (e : Nat) => x.FC e) i ∨ gd x.nP (fun (e : Nat) => x.FC e) i = 0)
    (V.need (∀ (i : Nat), gd x.nP (fun (e : Nat) => x.lenP e) i ≤ gd x.nP (fun (e : Nat) => x.FC e) i ∧ gd x.nP (fun (e : Nat) => x.lenP e) i ≤ gd x.nP x.lenP i)
    (V.need (∀ (i e : Nat), e < gd x.nP (fun (e : Nat) => x.lenP e) i → x.iO i e = x.iO i e)
    (V.need (∀ (i e : Nat), e < gd x.nP (fun (e : Nat) => x.lenP e) i → (if i = 0 ∧ e = 0 + (dr (IntKind.i64.wrap ((IntKind.i64.wrap (which.tdiv (Int.ofNat 15))).tdiv (Int.ofNat 1))) (↑(x.lenP 0) : Int)).toNat then by' else x.iA i e) = if i = 0 ∧ e = 0 + (dr (IntKind.i64.wrap ((IntKind.i64.wrap (which.tdiv (Int.ofNat 15))).tdiv (Int.ofNat 1))) (↑(x.lenP 0) : Int)).toNat then by' else x.iA i e)
    (V.need (∀ (i e : Nat), e < gd x.nP (fun (e : Nat) => x.lenP e) i → x.iB i e = x.iB i e) V.ok)))))))))))))))))))))))))))))))))
    (V.need (0 + (dr (IntKind.i64.wrap ((IntKind.i64.wrap (which.tdiv (Int.ofNat 15))).tdiv (Int.ofNat 1))) (↑(x.lenP 0) : Int)).toNat < gd x.nP x.lenP 0)
    (V.need (0 + (dr (IntKind.i64.wrap ((IntKind.i64.wrap (which.tdiv (Int.ofNat 15))).tdiv (Int.ofNat 1))) (↑(x.lenP 0) : Int)).toNat < gd x.nP x.lenP 0)
    (V.br (decide ((↑x.nU : Int) > Int.ofNat 0))
    (V.need (Int.ofNat 2 ≠ Int.ofNat 0)
    (V.br ((dr (IntKind.i64.wrap (which.tdiv (Int.ofNat 1))) (Int.ofNat 15)).tmod (Int.ofNat 2) == Int.ofNat 0)
    (V.need (0 < 1 ∧ 0 < 1)
    (V.need (0 < 1 ∧ 0 < 1)
    (V.need (Int.ofNat 15 ≠ Int.ofNat 0)
    (V.need (Int.ofNat 1 ≠ Int.ofNat 0)
    (V.need (0 < 1 ∧ 0 < 1)
    (V.need (0 < 1 ∧ 0 < 1)
    (V.need (Int.ofNat 1 ≠ Int.ofNat 0)
    (V.need (Int.ofNat 7 ≠ Int.ofNat 0)
    (V.need (Int.ofNat 1 ≠ Int.ofNat 0)
    (V.need ((↑x.nU : Int) ≤ Int.ofNat 9223372036854775807)
    (V.need (Int.ofNat 0 ≤ dr (IntKind.i64.wrap ((IntKind.i64.wrap (which.tdiv (Int.ofNat 15))).tdiv (Int.ofNat 1))) (↑x.nU : Int) ∧ dr (IntKind.i64.wrap ((IntKind.i64.wrap (which.tdiv (Int.ofNat 15))).tdiv (Int.ofNat 1))) (↑x.nU : Int) < (↑x.nU : Int))
    (V.need (0 < 1 ∧ 0 + (dr (IntKind.i64.wrap ((IntKind.i64.wrap (which.tdiv (Int.ofNat 15))).tdiv (Int.ofNat 1))) (↑x.nU : Int)).toNat < x.nU)
    (V.need (0 < 1 ∧ 0 + (dr (IntKind.i64.wrap ((IntKind.i64.wrap (which.tdiv (Int.ofNat 15))).tdiv (Int.ofNat 1))) (↑x.nU : Int)).toNat < x.nU)
    (V.need (0 < 1 ∧ 0 + (dr (IntKind.i64.wrap ((IntKind.i64.wrap (which.tdiv (Int.ofNat 15))).tdiv (Int.ofNat 1))) (↑x.nU : Int)).toNat < x.nU)
    (V.need (0 < 1 ∧ 0 + (dr (IntKind.i64.wrap ((IntKind.i64.wrap (which.tdiv (Int.ofNat 15))).tdiv (Int.ofNat 1))) (↑x.nU : Int)).toNat < x.nU)
    (V.need (0 < 1 ∧ 0 + (dr (IntKind.i64.wrap ((IntKind.i64.wrap (which.tdiv (Int.ofNat 15))).tdiv (Int.ofNat 1))) (↑x.nU : Int)).toNat < x.nU)
    (V.need (0 < 1 ∧ 0 + (dr (IntKind.i64.wrap ((IntKind.i64.wrap (which.tdiv (Int.ofNat 15))).tdiv (Int.ofNat 1))) (↑x.nU : Int)).toNat < x.nU)
    (V.need (0 < 1 ∧ 0 + (dr (IntKind.i64.wrap ((IntKind.i64.wrap (which.tdiv (Int.ofNat 15))).tdiv (Int.ofNat 1))) (↑x.nU : Int)).toNat < x.nU)
    (V.need (Int.ofNat 3 ≠ Int.ofNat 0)
    (V.need (Int.ofNat 0 ≤ (dr (IntKind.i64.wrap (which.tdiv (Int.ofNat 1))) (Int.ofNat 15)).tmod (Int.ofNat 3) ∧ (dr (IntKind.i64.wrap (which.tdiv (Int.ofNat 1))) (Int.ofNat 15)).tmod (Int.ofNat 3) < (↑3 : Int))
    (V.need (0 + ((dr (IntKind.i64.wrap (which.tdiv (Int.ofNat 1))) (Int.ofNat 15)).tmod (Int.ofNat 3)).toNat < 3)
    (V.need (0 + ((dr (IntKind.i64.wrap (which.tdiv (Int.ofNat 1))) (Int.ofNat 15)).tmod (Int.ofNat 3)).toNat < 3)
    (V.need (0 + ((dr (IntKind.i64.wrap (which.tdiv (Int.ofNat 1))) (Int.ofNat 15)).tmod (Int.ofNat 3)).toNat < [SC.ptr 9345848836107 (NV.k 0) (NV.s (0 + (dr (IntKind.i64.wrap ((IntKind.i64.wrap (which.tdiv (Int.ofNat 15))).tdiv (Int.ofNat 1))) (↑x.nU : Int)).toNat)) 0 3, SC.ptr 9345848836107 (NV.k 0) (NV.s (0 + (dr (IntKind.i64.wrap ((IntKind.i64.wrap (which.tdiv (Int.ofNat 15))).tdiv (Int.ofNat 1))) (↑x.nU : Int)).toNat)) 1 3, SC.ptr 9345848836107 (NV.k 0) (NV.s (0 + (dr (IntKind.i64.wrap ((IntKind.i64.wrap (which.tdiv (Int.ofNat 15))).tdiv (Int.ofNat 1))) (↑x.nU : Int)).toNat)) 2 3].length)
    (V.br (0 + ((dr (IntKind.i64.wrap (which.tdiv (Int.ofNat 1))) (Int.ofNat 15)).tmod (Int.ofNat 3)).toNat == 0)
    (V.need (0 + (dr (IntKind.i64.wrap ((IntKind.i64.wrap (which.tdiv (Int.ofNat 15))).tdiv (Int.ofNat 1))) (↑x.nU : Int)).toNat < x.nU)
    (V.need (0 + (dr (IntKind.i64.wrap ((IntKind.i64.wrap (which.tdiv (Int.ofNat 15))).tdiv (Int.ofNat 1))) (↑x.nU : Int)).toNat < x.nU)
    (V.need (decide (dr which (Int.ofNat 15) < Int.ofNat 9) = false)
    (V.need (smallC (Cf.mk x.W x.L x.C x.T x.D x.H x.B x.A x.P x.nP x.rc x.nU x.cu (fun (e : Nat) => x.lenP e) (fun (e : Nat) => x.FC e) (fun (i e : Nat) => x.iO i e) (fun (i e : Nat) => x.iA i e) (fun (i' j : Nat) => if i' = 0 ∧ j = 0 + (dr (IntKind.i64.wrap ((IntKind.i64.wrap (which.tdiv (Int.ofNat 15))).tdiv (Int.ofNat 1))) (↑(x.lenP 0) : Int)).toNat then by' else x.iB i' j) (fun (e : Nat) => if 0 = 0 ∧ e = 0 + (dr (IntKind.i64.wrap ((IntKind.i64.wrap (which.tdiv (Int.ofNat 15))).tdiv (Int.ofNat 1))) (↑x.nU : Int)).toNat then by' else x.uP e) (fun (e : Nat) => x.uL e) fun (e : Nat) => x.uD e))
    (V.need (x.W = x.W)
    (V.need (x.L = x.L)
    (V.need (x.C = x.C)
    (V.need (x.T = x.T)
    (V.need (x.D = x.D)
    (V.need (x.H = x.H)
    (V.need (x.B = x.B)
    (V.need (x.A = x.A)
    (V.need (x.P = x.P)
    (V.need (x.nP = x.nP)
    (V.need (x.rc = x.rc)
    (V.need (x.nU = x.nU)
    (V.need (x.cu = x.cu)
    (V.need (x.rc = x.rc)
    (V.need (x.nP ≤ x.nP)
    (V.need (∀ (e : Nat), e < x.nP → e = e)
    (V.need (∀ (e : Nat), e < x.nP → x.lenP e = x.lenP e)
    (V.need (∀ (e : Nat), e < x.nP → x.FC e = x.FC e)
    (V.need (x.cu = x.cu)
    (V.need (x.nU ≤ x.nU)
    (V.need (∀ (e : Nat), e < x.nU → (if 0 = 0 ∧ e = 0 + (dr (IntKind.i64.wrap ((IntKind.i64.wrap (which.tdiv (Int.ofNat 15))).tdiv (Int.ofNat 1))) (↑x.nU : Int)).toNat then by' else x.uP e) = if 0 = 0 ∧ e = 0 + (dr (IntKind.i64.wrap ((IntKind.i64.wrap (which.tdiv (Int.ofNat 15))).tdiv (Int.ofNat 1))) (↑x.nU : Int)).toNat then by' else x.uP e)
    (V.need (∀ (e : Nat), e < x.nU → x.uL e = x.uL e)
    (V.need (∀ (e : Nat), e < x.nU → x.uD e = x.uD e)
    (V.need (∀ (i : Nat), gd x.nP x.FC i = gd x.nP (fun (e : Nat) => x.FC e) i ∨ gd x.nP (fun (e : Nat) => x.FC e) i = 0)
    (V.need (∀ (i : Nat), gd x.nP (fun (e : Nat) => x.lenP e) i ≤ gd x.nP (fun (e : Nat) => x.FC e) i ∧ gd x.nP (fun (e : Nat) => x.lenP e) i ≤ gd x.nP x.lenP i)
    (V.need (∀ (i e : Nat), e < gd x.nP (fun (e : Nat) => x.lenP e) i → x.iO i e = x.iO i e)
    (V.need (∀ (i e : Nat), e < gd x.nP (fun (e : Nat) => x.lenP e) i → x.iA i e = x.iA i e)
    (V.need (∀ (i e : Nat), e < gd x.nP (fun (e : Nat) => x.lenP e) i → (if i = 0 ∧ e = 0 + (dr (IntKind.i64.wrap ((IntKind.i64.wrap (which.tdiv (Int.ofNat 15))).tdiv (Int.ofNat 1))) (↑(x.lenP 0) : Int)).toNat then by' else x.iB i e) = if i = 0 ∧ e = 0 + (dr (IntKind.i64.wrap ((IntKind.i64.wrap (which.tdiv (Int.ofNat 15))).tdiv (Int.ofNat 1))) (↑(x.lenP 0) : Int)).toNat then by' else x.iB i e) V.ok))))))))))))))))))))))))))))))))
    (V.br (0 + ((dr (IntKind.i64.wrap (which.tdiv (Int.ofNat 1))) (Int.ofNat 15)).tmod (Int.ofNat 3)).toNat == 1)
    (V.need (0 + (dr (IntKind.i64.wrap ((IntKind.i64.wrap (which.tdiv (Int.ofNat 15))).tdiv (Int.ofNat 1))) (↑x.nU : Int)).toNat < x.nU)
    (V.need (0 + (dr (IntKind.i64.wrap ((IntKind.i64.wrap (which.tdiv (Int.ofNat 15))).tdiv (Int.ofNat 1))) (↑x.nU : Int)).toNat < x.nU)
    (V.need (decide (dr which (Int.ofNat 15) < Int.ofNat 9) = false)
    (V.need (smallC (Cf.mk x.W x.L x.C x.T x.D x.H x.B x.A x.P x.nP x.rc x.nU x.cu (fun (e : Nat) => x.lenP e) (fun (e : Nat) => x.FC e) (fun (i e : Nat) => x.iO i e) (fun (i e : Nat) => x.iA i e) (fun (i' j : Nat) => if i' = 0 ∧ j = 0 + (dr (IntKind.i64.wrap ((IntKind.i64.wrap (which.tdiv (Int.ofNat 15))).tdiv (Int.ofNat 1))) (↑(x.lenP 0) : Int)).toNat then by' else x.iB i' j) (fun (e : Nat) => x.uP e) (fun (e : Nat) => if 0 = 0 ∧ e = 0 + (dr (IntKind.i64.wrap ((IntKind.i64.wrap (which.tdiv (Int.ofNat 15))).tdiv (Int.ofNat 1))) (↑x.nU : Int)).toNat then by' else x.uL e) fun (e : Nat) => x.uD e))
    (V.need (x.W = x.W)
    (V.need (x.L = x.L)
    (V.need (x.C = x.C)
    (V.need (x.T = x.T)
    (V.need (x.D = x.D)
    (V.need (x.H = x.H)
    (V.need (x.B = x.B)
    (V.need (x.A = x.A)
    (V.need (x.P = x.P)
    (V.need (x.nP = x.nP)
    (V.need (x.rc = x.rc)
    (V.need (x.nU = x.nU)
    (V.need (x.cu = x.cu)
    (V.need (x.rc = x.rc)
    (V.need (x.nP ≤ x.nP)
    (V.need (∀ (e : Nat), e < x.nP → e = e)
    (V.need (∀ (e : Nat), e < x.nP → x.lenP e = x.lenP e)
    (V.need (∀ (e : Nat), e < x.nP → x.FC e = x.FC e)
    (V.need (x.cu = x.cu)
    (V.need (x.nU ≤ x.nU)
    (V.need (∀ (e : Nat), e < x.nU → x.uP e = x.uP e)
    (V.need (∀ (e : Nat), e < x.nU → (if 0 = 0 ∧ e = 0 + (dr (IntKind.i64.wrap ((IntKind.i64.wrap (which.tdiv (Int.ofNat 15))).tdiv (Int.ofNat 1))) (↑x.nU : Int)).toNat then by' else x.uL e) = if 0 = 0 ∧ e = 0 + (dr (IntKind.i64.wrap ((IntKind.i64.wrap (which.tdiv (Int.ofNat 15))).tdiv (Int.ofNat 1))) (↑x.nU : Int)).toNat then by' else x.uL e)
    (V.need (∀ (e : Nat), e < x.nU → x.uD e = x.uD e)
    (V.need (∀ (i : Nat), gd x.nP x.FC i = gd x.nP (fun (e : Nat) => x.FC e) i ∨ gd x.nP (fun (e : Nat) => x.FC e) i = 0)
    (V.need (∀ (i : Nat), gd x.nP (fun (e : Nat) => x.lenP e) i ≤ gd x.nP (fun (e : Nat) => x.FC e) i ∧ gd x.nP (fun (e : Nat) => x.lenP e) i ≤ gd x.nP x.lenP i)
    (V.need (∀ (i e : Nat), e < gd x.nP (fun (e : Nat) => x.lenP e) i → x.iO i e = x.iO i e)
    (V.need (∀ (i e : Nat), e < gd x.nP (fun (e : Nat) => x.lenP e) i → x.iA i e = x.iA i e)
    (V.need (∀ (i e : Nat), e < gd x.nP (fun (e : Nat) => x.lenP e) i → (if i = 0 ∧ e = 0 + (dr (IntKind.i64.wrap ((IntKind.i64.wrap (which.tdiv (Int.ofNat 15))).tdiv (Int.ofNat 1))) (↑(x.lenP 0) : Int)).toNat then by' else x.iB i e) = if i = 0 ∧ e = 0 + (dr (IntKind.i64.wrap ((IntKind.i64.wrap (which.tdiv (Int.ofNat 15))).tdiv (Int.ofNat 1))) (↑(x.lenP 0) : Int)).toNat then by' else x.iB i e) V.ok))))))))))))))))))))))))))))))))
    (V.need (0 + (dr (IntKind.i64.wrap ((IntKind.i64.wrap (which.tdiv (Int.ofNat 15))).tdiv (Int.ofNat 1))) (↑x.nU : Int)).toNat < x.nU)
    (V.need (0 + (dr (IntKind.i64.wrap ((IntKind.i64.wrap (which.tdiv (Int.ofNat 15))).tdiv (Int.ofNat 1))) (↑x.nU : Int)).toNat < x.nU)
    (V.need (decide (dr which (Int.ofNat 15) < Int.ofNat 9) = false)
    (V.need (smallC (Cf.mk x.W x.L x.C x.T x.D x.H x.B x.A x.P x.nP x.rc x.nU x.cu (fun (e : Nat) => x.lenP e) (fun (e : Nat) => x.FC e) (fun (i e : Nat) => x.iO i e) (fun (i e : Nat) => x.iA i e) (fun (i' j : Nat) => if i' = 0 ∧ j = 0 + (dr (IntKind.i64.wrap ((IntKind.i64.wrap (which.tdiv (Int.ofNat 15))).tdiv (Int.ofNat 1))) (↑(x.lenP 0) : Int)).toNat then by' else x.iB i' j) (fun (e : Nat) => x.uP e) (fun (e : Nat) => x.uL e) fun (e : Nat) => if 0 = 0 ∧ e = 0 + (dr (IntKind.i64.wrap ((IntKind.i64.wrap (which.tdiv (Int.ofNat 15))).tdiv (Int.ofNat 1))) (↑x.nU : Int)).toNat then by' else x.uD e))
    (V.need (x.W = x.W)
    (V.need (x.L = x.L)
    (V.need (x.C = x.C)
    (V.need (x.T = x.T)
    (V.need (x.D = x.D)
    (V.need (x.H = x.H)
    (V.need (x.B = x.B)
    (V.need (x.A = x.A)
    (V.need (x.P = x.P)
    (V.need (x.nP = x.nP)
    (V.need (x.rc = x.rc)
    (V.need (x.nU = x.nU)
    (V.need (x.cu = x.cu)
    (V.need (x.rc = x.rc)
    (V.need (x.nP ≤ x.nP)
    (V.need (∀ (e : Nat), e < x.nP → e = e)
    (V.need (∀ (e : Nat), e < x.nP → x.lenP e = x.lenP e)
    (V.need (∀ (e : Nat), e < x.nP → x.FC e = x.FC e)
    (V.need (x.cu = x.cu)
    (V.need (x.nU ≤ x.nU)
    (V.need (∀ (e : Nat), e < x.nU → x.uP e = x.uP e)
    (V.need (∀ (e : Nat), e < x.nU → x.uL e = x.uL e)
    (V.need (∀ (e : Nat), e < x.nU → (if 0 = 0 ∧ e = 0 + (dr (IntKind.i64.wrap ((IntKind.i64.wrap (which.tdiv (Int.ofNat 15))).tdiv (Int.ofNat 1))) (↑x.nU : Int)).toNat then by' else x.uD e) = if 0 = 0 ∧ e = 0 + (dr (IntKind.i64.wrap ((IntKind.i64.wrap (which.tdiv (Int.ofNat 15))).tdiv (Int.ofNat 1))) (↑x.nU : Int)).toNat then by' else x.uD e)
    (V.need (∀ (i : Nat), gd x.nP x.FC i = gd x.nP (fun (e : Nat) => x.FC e) i ∨ gd x.nP (fun (e : Nat) => x.FC e) i = 0)
    (V.need (∀ (i : Nat), gd x.nP (fun (e : Nat) => x.lenP e) i ≤ gd x.nP (fun (e : Nat) => x.FC e) i ∧ gd x.nP (fun (e : Nat) => x.lenP e) i ≤ gd x.nP x.lenP i)
    (V.need (∀ (i e : Nat), e < gd x.nP (fun (e : Nat) => x.lenP e) i → x.iO i e = x.iO i e)
    (V.need (∀ (i e : Nat), e < gd x.nP (fun (e : Nat) => x.lenP e) i → x.iA i e = x.iA i e)
    (V.need (∀ (i e : Nat), e < gd x.nP (fun (e : Nat) => x.lenP e) i → (if i = 0 ∧ e = 0 + (dr (IntKind.i64.wrap ((IntKind.i64.wrap (which.tdiv (Int.ofNat 15))).tdiv (Int.ofNat 1))) (↑(x.lenP 0) : Int)).toNat then by' else x.iB i e) = if i = 0 ∧ e = 0 + (dr (IntKind.i64.wrap ((IntKind.i64.wrap (which.tdiv (Int.ofNat 15))).tdiv (Int.ofNat 1))) (↑(x.lenP 0) : Int)).toNat then by' else x.iB i e) V.ok)))))))))))))))))))))))))))))))))))))))))))))))))))))))))
    (V.need (decide (dr which (Int.ofNat 15) < Int.ofNat 9) = false)
    (V.need (smallC (Cf.mk x.W x.L x.C x.T x.D x.H x.B x.A x.P x.nP x.rc x.nU x.cu (fun (e : Nat) => x.lenP e) (fun (e : Nat) => x.FC e) (fun (i e : Nat) => x.iO i e) (fun (i e : Nat) => x.iA i e) (fun (i' j : Nat) => if i' = 0 ∧ j = 0 + (dr (IntKind.i64.wrap ((IntKind.i64.wrap (which.tdiv (Int.ofNat 15))).tdiv (Int.ofNat 1))) (↑(x.lenP 0) : Int)).toNat then by' else x.iB i' j) (fun (e : Nat) => x.uP e) (fun (e : Nat) => x.uL e) fun (e : Nat) => x.uD e))
    (V.need (x.W = x.W)
    (V.need (x.L = x.L)
    (V.need (x.C = x.C)
    (V.need (x.T = x.T)
    (V.need (x.D = x.D)
    (V.need (x.H = x.H)
    (V.need (x.B = x.B)
    (V.need (x.A = x.A)
    (V.need (x.P = x.P)
    (V.need (x.nP = x.nP)
    (V.need (x.rc = x.rc)
    (V.need (x.nU = x.nU)
    (V.need (x.cu = x.cu)
    (V.need (x.rc = x.rc)
    (V.need (x.nP ≤ x.nP)
    (V.need (∀ (e : Nat), e < x.nP → e = e)
    (V.need (∀ (e : Nat), e < x.nP → x.lenP e = x.lenP e)
    (V.need (∀ (e : Nat), e < x.nP → x.FC e = x.FC e)
    (V.need (x.cu = x.cu)
    (V.need (x.nU ≤ x.nU)
    (V.need (∀ (e : Nat), e < x.nU → x.uP e = x.uP e)
    (V.need (∀ (e : Nat), e < x.nU → x.uL e = x.uL e)
    (V.need (∀ (e : Nat), e < x.nU → x.uD e = x.uD e)
    (V.need (∀ (i : Nat), gd x.nP x.FC i = gd x.nP (fun (e : Nat) => x.FC e) i ∨ gd x.nP (fun (e : Nat) => x.FC e) i = 0)
    (V.need (∀ (i : Nat), gd x.nP (fun (e : Nat) => x.lenP e) i ≤ gd x.nP (fun (e : Nat) => x.FC e) i ∧ gd x.nP (fun (e : Nat) => x.lenP e) i ≤ gd x.nP x.lenP i)
    (V.need (∀ (i e : Nat), e < gd x.nP (fun (e : Nat) => x.lenP e) i → x.iO i e = x.iO i e)
    (V.need (∀ (i e : Nat), e < gd x.nP (fun (e : Nat) => x.lenP e) i → x.iA i e = x.iA i e)
    (V.need (∀ (i e : Nat), e < gd x.nP (fun (e : Nat) => x.lenP e) i → (if i = 0 ∧ e = 0 + (dr (IntKind.i64.wrap ((IntKind.i64.wrap (which.tdiv (Int.ofNat 15))).tdiv (Int.ofNat 1))) (↑(x.lenP 0) : Int)).toNat then by' else x.iB i e) = if i = 0 ∧ e = 0 + (dr (IntKind.i64.wrap ((IntKind.i64.wrap (which.tdiv (Int.ofNat 15))).tdiv (Int.ofNat 1))) (↑(x.lenP 0) : Int)).toNat then by' else x.iB i e) V.ok))))))))))))))))))))))))))))))))
    (V.need (decide (dr which (Int.ofNat 15) < Int.ofNat 9) = false)
    (V.need (smallC (Cf.mk x.W x.L x.C x.T x.D x.H x.B x.A x.P x.nP x.rc x.nU x.cu (fun (e : Nat) => x.lenP e) (fun (e : Nat) => x.FC e) (fun (i e : Nat) => x.iO i e) (fun (i e : Nat) => x.iA i e) (fun (i' j : Nat) => if i' = 0 ∧ j = 0 + (dr (IntKind.i64.wrap ((IntKind.i64.wrap (which.tdiv (Int.ofNat 15))).tdiv (Int.ofNat 1))) (↑(x.lenP 0) : Int)).toNat then by' else x.iB i' j) (fun (e : Nat) => x.uP e) (fun (e : Nat) => x.uL e) fun (e : Nat) => x.uD e))
    (V.need (x.W = x.W)
    (V.need (x.L = x.L)
    (V.need (x.C = x.C)
    (V.need (x.T = x.T)
    (V.need (x.D = x.D)
    (V.need (x.H = x.H)
    (V.need (x.B = x.B)
    (V.need (x.A = x.A)
    (V.need (x.P = x.P)
    (V.need (x.nP = x.nP)
    (V.need (x.rc = x.rc)
    (V.need (x.nU = x.nU)
    (V.need (x.cu = x.cu)
    (V.need (x.rc = x.rc)
    (V.need (x.nP ≤ x.nP)
    (V.need (∀ (e : Nat), e < x.nP → e = e)
    (V.need (∀ (e : Nat), e < x.nP → x.lenP e = x.lenP e)
    (V.need (∀ (e : Nat), e < x.nP → x.FC e = x.FC e)
    (V.need (x.cu = x.cu)
    (V.need (x.nU ≤ x.nU)
    (V.need (∀ (e : Nat), e < x.nU → x.uP e = x.uP e)
    (V.need (∀ (e : Nat), e < x.nU → x.uL e = x.uL e)
    (V.need (∀ (e : Nat), e < x.nU → x.uD e = x.uD e)
    (V.need (∀ (i : Nat), gd x.nP x.FC i = gd x.nP (fun (e : Nat) => x.FC e) i ∨ gd x.nP (fun (e : Nat) => x.FC e) i = 0)
    (V.need (∀ (i : Nat), gd x.nP (fun (e : Nat) => x.lenP e) i ≤ gd x.nP (fun (e : Nat) => x.FC e) i ∧ gd x.nP (fun (e : Nat) => x.lenP e) i ≤ gd x.nP x.lenP i)
    (V.need (∀ (i e : Nat), e < gd x.nP (fun (e : Nat) => x.lenP e) i → x.iO i e = x.iO i e)
    (V.need (∀ (i e : Nat), e < gd x.nP (fun (e : Nat) => x.lenP e) i → x.iA i e = x.iA i e)
    (V.need (∀ (i e : Nat), e < gd x.nP (fun (e : Nat) => x.lenP e) i → (if i = 0 ∧ e = 0 + (dr (IntKind.i64.wrap ((IntKind.i64.wrap (which.tdiv (Int.ofNat 15))).tdiv (Int.ofNat 1))) (↑(x.lenP 0) : Int)).toNat then by' else x.iB i e) = if i = 0 ∧ e = 0 + (dr (IntKind.i64.wrap ((IntKind.i64.wrap (which.tdiv (Int.ofNat 15))).tdiv (Int.ofNat 1))) (↑(x.lenP 0) : Int)).toNat then by' else x.iB i e) V.ok)))))))))))))))))))))))))))))))))))))))))))))))))))))))))))))
    (V.br (decide ((↑x.nU : Int) > Int.ofNat 0))
    (V.need (Int.ofNat 2 ≠ Int.ofNat 0)
    (V.br ((dr (IntKind.i64.wrap (which.tdiv (Int.ofNat 1))) (Int.ofNat 15)).tmod (Int.ofNat 2) == Int.ofNat 0)
    (V.need (0 < 1 ∧ 0 < 1)
    (V.need (0 < 1 ∧ 0 < 1)
    (V.need (Int.ofNat 15 ≠ Int.ofNat 0)
    (V.need (Int.ofNat 1 ≠ Int.ofNat 0)
    (V.need (0 < 1 ∧ 0 < 1)
    (V.need (0 < 1 ∧ 0 < 1)
    (V.need (Int.ofNat 1 ≠ Int.ofNat 0)
    (V.need (Int.ofNat 7 ≠ Int.ofNat 0)
    (V.need (Int.ofNat 1 ≠ Int.ofNat 0)
    (V.need ((↑x.nU : Int) ≤ Int.ofNat 9223372036854775807)
    (V.need (Int.ofNat 0 ≤ dr (IntKind.i64.wrap ((IntKind.i64.wrap (which.tdiv (Int.ofNat 15))).tdiv (Int.ofNat 1))) (↑x.nU : Int) ∧ dr (IntKind.i64.wrap ((IntKind.i64.wrap (which.tdiv (Int.ofNat 15))).tdiv (Int.ofNat 1))) (↑x.nU : Int) < (↑x.nU : Int))
    (V.need (0 < 1 ∧ 0 + (dr (IntKind.i64.wrap ((IntKind.i64.wrap (which.tdiv (Int.ofNat 15))).tdiv (Int.ofNat 1))) (↑x.nU : Int)).toNat < x.nU)
    (V.need (0 < 1 ∧ 0 + (dr (IntKind.i64.wrap ((IntKind.i64.wrap (which.tdiv (Int.ofNat 15))).tdiv (Int.ofNat 1))) (↑x.nU : Int)).toNat < x.nU)
    (V.need (0 < 1 ∧ 0 + (dr (IntKind.i64.wrap ((IntKind.i64.wrap (which.tdiv (Int.ofNat 15))).tdiv (Int.ofNat 1))) (↑x.nU : Int)).toNat < x.nU)
    (V.need (0 < 1 ∧ 0 + (dr (IntKind.i64.wrap ((IntKind.i64.wrap (which.tdiv (Int.ofNat 15))).tdiv (Int.ofNat 1))) (↑x.nU : Int)).toNat < x.nU)
    (V.need (0 < 1 ∧ 0 + (dr (IntKind.i64.wrap ((IntKind.i64.wrap (which.tdiv (Int.ofNat 15))).tdiv (Int.ofNat 1))) (↑x.nU : Int)).toNat < x.nU)
    (V.need (0 < 1 ∧ 0 + (dr (IntKind.i64.wrap ((IntKind.i64.wrap (which.tdiv (Int.ofNat 15))).tdiv (Int.ofNat 1))) (↑x.nU : Int)).toNat < x.nU)
    (V.need (0 < 1 ∧ 0 + (dr (IntKind.i64.wrap ((IntKind.i64.wrap (which.tdiv (Int.ofNat 15))).tdiv (Int.ofNat 1))) (↑x.nU : Int)).toNat < x.nU)
    (V.need (Int.ofNat 3 ≠ Int.ofNat 0)
    (V.need (Int.ofNat 0 ≤ (dr (IntKind.i64.wrap (which.tdiv (Int.ofNat 1))) (Int.ofNat 15)).tmod (Int.ofNat 3) ∧ (dr (IntKind.i64.wrap (which.tdiv (Int.ofNat 1))) (Int.ofNat 15)).tmod (Int.ofNat 3) < (↑3 : Int))
    (V.need (0 + ((dr (IntKind.i64.wrap (which.tdiv (Int.ofNat 1))) (Int.ofNat 15)).tmod (Int.ofNat 3)).toNat < 3)
    (V.need (0 + ((dr (IntKind.i64.wrap (which.tdiv (Int.ofNat 1))) (Int.ofNat 15)).tmod (Int.ofNat 3)).toNat < 3)
    (V.need (0 + ((dr (IntKind.i64.wrap (which.tdiv (Int.ofNat 1))) (Int.ofNat 15)).tmod (Int.ofNat 3)).toNat < [SC.ptr 9345848836107 (NV.k 0) (NV.s (0 + (dr (IntKind.i64.wrap ((IntKind.i64.wrap (which.tdiv (Int.ofNat 15))).tdiv (Int.ofNat 1))) (↑x.nU : Int)).toNat)) 0 3, SC.ptr 9345848836107 (NV.k 0) (NV.s (0 + (dr (IntKind.i64.wrap ((IntKind.i64.wrap (which.tdiv (Int.ofNat 15))).tdiv (Int.ofNat 1))) (↑x.nU : Int)).toNat)) 1 3, SC.ptr 9345848836107 (NV.k 0) (NV.s (0 + (dr (IntKind.i64.wrap ((IntKind.i64.wrap (which.tdiv (Int.ofNat 15))).tdiv (Int.ofNat 1))) (↑x.nU : Int)).toNat)) 2 3].length)
    (V.br (0 + ((dr (IntKind.i64.wrap (which.tdiv (Int.ofNat 1))) (Int.ofNat 15)).tmod (Int.ofNat 3)).toNat == 0)
    (V.need (0 + (dr (IntKind.i64.wrap ((IntKind.i64.wrap (which.tdiv (Int.ofNat 15))).tdiv (Int.ofNat 1))) (↑x.nU : Int)).toNat < x.nU)
    (V.need (0 + (dr (IntKind.i64.wrap ((IntKind.i64.wrap (which.tdiv (Int.ofNat 15))).tdiv (Int.ofNat 1))) (↑x.nU : Int)).toNat < x.nU)
    (V.need (decide (dr which (Int.ofNat 15) < Int.ofNat 9) = false)
    (V.need (smallC (Cf.mk x.W x.L x.C x.T x.D x.H x.B x.A x.P x.nP x.rc x.nU x.cu (fun (e : Nat) => x.lenP e) (fun (e : Nat) => x.FC e) (fun (i e : Nat) => x.iO i e) (fun (i e : Nat) => x.iA i e) (fun (i e : Nat) => x.iB i e) (fun (e : Nat) => if 0 = 0 ∧ e = 0 + (dr (IntKind.i64.wrap ((IntKind.i64.wrap (which.tdiv (Int.ofNat 15))).tdiv (Int.ofNat 1))) (↑x.nU : Int)).toNat then by' else x.uP e) (fun (e : Nat) => x.uL e) fun (e : Nat) => x.uD e))
    (V.need (x.W = x.W)
    (V.need (x.L = x.L)
    (V.need (x.C = x.C)
    (V.need (x.T = x.T)
    (V.need (x.D = x.D)
    (V.need (x.H = x.H)
    (V.need (x.B = x.B)
    (V.need (x.A = x.A)
    (V.need (x.P = x.P)
    (V.need (x.nP = x.nP)
    (V.need (x.rc = x.rc)
    (V.need (x.nU = x.nU)
    (V.need (x.cu = x.cu)
    (V.need (x.rc = x.rc)
    (V.need (x.nP ≤ x.nP)
    (V.need (∀ (e : Nat), e < x.nP → e = e)
    (V.need (∀ (e : Nat), e < x.nP → x.lenP e = x.lenP e)
    (V.need (∀ (e : Nat), e < x.nP → x.FC e = x.FC e)
    (V.need (x.cu = x.cu)
    (V.need (x.nU ≤ x.nU)
    (V.need (∀ (e : Nat), e < x.nU → (if 0 = 0 ∧ e = 0 + (dr (IntKind.i64.wrap ((IntKind.i64.wrap (which.tdiv (Int.ofNat 15))).tdiv (Int.ofNat 1))) (↑x.nU : Int)).toNat then by' else x.uP e) = if 0 = 0 ∧ e = 0 + (dr (IntKind.i64.wrap ((IntKind.i64.wrap (which.tdiv (Int.ofNat 15))).tdiv (Int.ofNat 1))) (↑x.nU : Int)).toNat then by' else x.uP e)
    (V.need (∀ (e : Nat), e < x.nU → x.uL e = x.uL e)
    (V.need (∀ (e : Nat), e < x.nU → x.uD e = x.uD e)
    (V.need (∀ (i : Nat), gd x.nP x.FC i = gd x.nP (fun (e : Nat) => x.FC e) i ∨ gd x.nP (fun (e : Nat) => x.FC e) i = 0)
    (V.need (∀ (i : Nat), gd x.nP (fun (e : Nat) => x.lenP e) i ≤ gd x.nP (fun (e : Nat) => x.FC e) i ∧ gd x.nP (fun (e : Nat) => x.lenP e) i ≤ gd x.nP x.lenP i)
    (V.need (∀ (i e : Nat), e < gd x.nP (fun (e : Nat) => x.lenP e) i → x.iO i e = x.iO i e)
    (V.need (∀ (i e : Nat), e < gd x.nP (fun (e : Nat) => x.lenP e) i → x.iA i e = x.iA i e)
    (V.need (∀ (i e : Nat), e < gd x.nP (fun (e : Nat) => x.lenP e) i → x.iB i e = x.iB i e) V.ok))))))))))))))))))))))))))))))))
    (V.br (0 + ((dr (IntKind.i64.wrap (which.tdiv (Int.ofNat 1))) (Int.ofNat 15)).tmod (Int.ofNat 3)).toNat == 1)
    (V.need (0 + (dr (IntKind.i64.wrap ((IntKind.i64.wrap (which.tdiv (Int.ofNat 15))).tdiv (Int.ofNat 1))) (↑x.nU : Int)).toNat < x.nU)
    (V.need (0 + (dr (IntKind.i64.wrap ((IntKind.i64.wrap (which.tdiv (Int.ofNat 15))).tdiv (Int.ofNat 1))) (↑x.nU : Int)).toNat < x.nU)
    (V.need (decide (dr which (Int.ofNat 15) < Int.ofNat 9) = false)
    (V.need (smallC (Cf.mk x.W x.L x.C x.T x.D x.H x.B x.A x.P x.nP x.rc x.nU x.cu (fun (e : Nat) => x.lenP e) (fun (e : Nat) => x.FC e) (fun (i e : Nat) => x.iO i e) (fun (i e : Nat) => x.iA i e) (fun (i e : Nat) => x.iB i e) (fun (e : Nat) => x.uP e) (fun (e : Nat) => if 0 = 0 ∧ e = 0 + (dr (IntKind.i64.wrap ((IntKind.i64.wrap (which.tdiv (Int.ofNat 15))).tdiv (Int.ofNat 1))) (↑x.nU : Int)).toNat then by' else x.uL e) fun (e : Nat) => x.uD e))
    (V.need (x.W = x.W)
    (V.need (x.L = x.L)
    (V.need (x.C = x.C)
    (V.need (x.T = x.T)
    (V.need (x.D = x.D)
    (V.need (x.H = x.H)
    (V.need (x.B = x.B)
    (V.need (x.A = x.A)
    (V.need (x.P = x.P)
    (V.need (x.nP = x.nP)
    (V.need (x.rc = x.rc)
    (V.need (x.nU = x.nU)
    (V.need (x.cu = x.cu)
    (V.need (x.rc = x.rc)
    (V.need (x.nP ≤ x.nP)
    (V.need (∀ (e : Nat), e < x.nP → e = e)
    (V.need (∀ (e : Nat), e < x.nP → x.lenP e = x.lenP e)
    (V.need (∀ (e : Nat), e < x.nP → x.FC e = x.FC e)
    (V.need (x.cu = x.cu)
    (V.need (x.nU ≤ x.nU)
    (V.need (∀ (e : Nat), e < x.nU → x.uP e = x.uP e)
    (V.need (∀ (e : Nat), e < x.nU → (if 0 = 0 ∧ e = 0 + (dr (IntKind.i64.wrap ((IntKind.i64.wrap (which.tdiv (Int.ofNat 15))).tdiv (Int.ofNat 1))) (↑x.nU : Int)).toNat then by' else x.uL e) = if 0 = 0 ∧ e = 0 + (dr (IntKind.i64.wrap ((IntKind.i64.wrap (which.tdiv (Int.ofNat 15))).tdiv (Int.ofNat 1))) (↑x.nU : Int)).toNat then by' else x.uL e)
    (V.need (∀ (e : Nat), e < x.nU → x.uD e = x.uD e)
    (V.need (∀ (i : Nat), gd x.nP x.FC i = gd x.nP (fun (e : Nat) => x.FC e) i ∨ gd x.nP (fun (e : Nat) => x.FC e) i = 0)
    (V.need (∀ (i : Nat), gd x.nP (fun (e : Nat) => x.lenP e) i ≤ gd x.nP (fun (e : Nat) => x.FC e) i ∧ gd x.nP (fun (e : Nat) => x.lenP e) i ≤ gd x.nP x.lenP i)
    (V.need (∀ (i e : Nat), e < gd x.nP (fun (e : Nat) => x.lenP e) i → x.iO i e = x.iO i e)
    (V.need (∀ (i e : Nat), e < gd x.nP (fun (e : Nat) => x.lenP e) i → x.iA i e = x.iA i e)
    (V.need (∀ (i e : Nat), e < gd x.nP (fun (e : Nat) => x.lenP e) i → x.iB i e = x.iB i e) V.ok))))))))))))))))))))))))))))))))
    (V.need (0 + (dr (IntKind.i64.wrap ((IntKind.i64.wrap (which.tdiv (Int.ofNat 15))).tdiv (Int.ofNat 1))) (↑x.nU : Int)).toNat < x.nU)
    (V.need (0 + (dr (IntKind.i64.wrap ((IntKind.i64.wrap (which.tdiv (Int.ofNat 15))).tdiv (Int.ofNat 1))) (↑x.nU : Int)).toNat < x.nU)
    (V.need (decide (dr which (Int.ofNat 15) < Int.ofNat 9) = false)
    (V.need (smallC (Cf.mk x.W x.L x.C x.T x.D x.H x.B x.A x.P x.nP x.rc x.nU x.cu (fun (e : Nat) => x.lenP e) (fun (e : Nat) => x.FC e) (fun (i e : Nat) => x.iO i e) (fun (i e : Nat) => x.iA i e) (fun (i e : Nat) => x.iB i e) (fun (e : Nat) => x.uP e) (fun (e : Nat) => x.uL e) fun (e : Nat) => if 0 = 0 ∧ e = 0 + (dr (IntKind.i64.wrap ((IntKind.i64.wrap (which.tdiv (Int.ofNat 15))).tdiv (Int.ofNat 1))) (↑x.nU : Int)).toNat then by' else x.uD e))
    (V.need (x.W = x.W)
    (V.need (x.L = x.L)
    (V.need (x.C = x.C)
    (V.need (x.T = x.T)
    (V.need (x.D = x.D)
    (V.need (x.H = x.H)
    (V.need (x.B = x.B)
    (V.need (x.A = x.A)
    (V.need (x.P = x.P)
    (V.need (x.nP = x.nP)
    (V.need (x.rc = x.rc)
    (V.need (x.nU = x.nU)
    (V.need (x.cu = x.cu)
    (V.need (x.rc = x.rc)
    (V.need (x.nP ≤ x.nP)
    (V.need (∀ (e : Nat), e < x.nP → e = e)
    (V.need (∀ (e : Nat), e < x.nP → x.lenP e = x.lenP e)
    (V.need (∀ (e : Nat), e < x.nP → x.FC e = x.FC e)
    (V.need (x.cu = x.cu)
    (V.need (x.nU ≤ x.nU)
    (V.need (∀ (e : Nat), e < x.nU → x.uP e = x.uP e)
    (V.need (∀ (e : Nat), e < x.nU → x.uL e = x.uL e)
    (V.need (∀ (e : Nat), e < x.nU → (if 0 = 0 ∧ e = 0 + (dr (IntKind.i64.wrap ((IntKind.i64.wrap (which.tdiv (Int.ofNat 15))).tdiv (Int.ofNat 1))) (↑x.nU : Int)).toNat then by' else x.uD e) = if 0 = 0 ∧ e = 0 + (dr (IntKind.i64.wrap ((IntKind.i64.wrap (which.tdiv (Int.ofNat 15))).tdiv (Int.ofNat 1))) (↑x.nU : Int)).toNat then by' else x.uD e)
    (V.need (∀ (i : Nat), gd x.nP x.FC i = gd x.nP (fun (e : Nat) => x.FC e) i ∨ gd x.nP (fun (e : Nat) => x.FC e) i = 0)
    (V.need (∀ (i : Nat), gd x.nP (fun (e : Nat) => x.lenP e) i ≤ gd x.nP (fun (e : Nat) => x.FC e) i ∧ gd x.nP (fun (e : Nat) => x.lenP e) i ≤ gd x.nP x.lenP i)
    (V.need (∀ (i e : Nat), e < gd x.nP (fun (e : Nat) => x.lenP e) i → x.iO i e = x.iO i e)
    (V.need (∀ (i e : Nat), e < gd x.nP (fun (e : Nat) => x.lenP e) i → x.iA i e = x.iA i e)
    (V.need (∀ (i e : Nat), e < gd x.nP (fun (e : Nat) => x.lenP e) i → x.iB i e = x.iB i e) V.ok)))))))))))))))))))))))))))))))))))))))))))))))))))))))))
    (V.need (decide (dr which (Int.ofNat 15) < Int.ofNat 9) = false)
    (V.need (smallC (Cf.mk x.W x.L x.C x.T x.D x.H x.B x.A x.P x.nP x.rc x.nU x.cu (fun (e : Nat) => x.lenP e) (fun (e : Nat) => x.FC e) (fun (i e : Nat) => x.iO i e) (fun (i e : Nat) => x.iA i e) (fun (i e : Nat) => x.iB i e) (fun (e : Nat) => x.uP e) (fun (e : Nat) => x.uL e) fun (e : Nat) => x.uD e))
    (V.need (x.W = x.W)
    (V.need (x.L = x.L)
    (V.need (x.C = x.C)
    (V.need (x.T = x.T)
    (V.need (x.D = x.D)
    (V.need (x.H = x.H)
    (V.need (x.B = x.B)
    (V.need (x.A = x.A)
    (V.need (x.P = x.P)
    (V.need (x.nP = x.nP)
    (V.need (x.rc = x.rc)
    (V.need (x.nU = x.nU)
    (V.need (x.cu = x.cu)
    (V.need (x.rc = x.rc)
    (V.need (x.nP ≤ x.nP)
    (V.need (∀ (e : Nat), e < x.nP → e = e)
    (V.need (∀ (e : Nat), e < x.nP → x.lenP e = x.lenP e)
    (V.need (∀ (e : Nat), e < x.nP → x.FC e = x.FC e)
    (V.need (x.cu = x.cu)
    (V.need (x.nU ≤ x.nU)
    (V.need (∀ (e : Nat), e < x.nU → x.uP e = x.uP e)
    (V.need (∀ (e : Nat), e < x.nU → x.uL e = x.uL e)
    (V.need (∀ (e : Nat), e < x.nU → x.uD e = x.uD e)
    (V.need (∀ (i : Nat), gd x.nP x.FC i = gd x.nP (fun (e : Nat) => x.FC e) i ∨ gd x.nP (fun (e : Nat) => x.FC e) i = 0)
    (V.need (∀ (i : Nat), gd x.nP (fun (e : Nat) => x.lenP e) i ≤ gd x.nP (fun (e : Nat) => x.FC e) i ∧ gd x.nP (fun (e : Nat) => x.lenP e) i ≤ gd x.nP x.lenP i)
    (V.need (∀ (i e : Nat), e < gd x.nP (fun (e : Nat) => x.lenP e) i → x.iO i e = x.iO i e)
    (V.need (∀ (i e : Nat), e < gd x.nP (fun (e : Nat) => x.lenP e) i → x.iA i e = x.iA i e)
    (V.need (∀ (i e : Nat), e < gd x.nP (fun (e : Nat) => x.lenP e) i → x.iB i e = x.iB i e) V.ok))))))))))))))))))))))))))))))))
    (V.need (decide (dr which (Int.ofNat 15) < Int.ofNat 9) = false)
    (V.need (smallC (Cf.mk x.W x.L x.C x.T x.D x.H x.B x.A x.P x.nP x.rc x.nU x.cu (fun (e : Nat) => x.lenP e) (fun (e : Nat) => x.FC e) (fun (i e : Nat) => x.iO i e) (fun (i e : Nat) => x.iA i e) (fun (i e : Nat) => x.iB i e) (fun (e : Nat) => x.uP e) (fun (e : Nat) => x.uL e) fun (e : Nat) => x.uD e))
    (V.need (x.W = x.W)
    (V.need (x.L = x.L)
    (V.need (x.C = x.C)
    (V.need (x.T = x.T)
    (V.need (x.D = x.D)
    (V.need (x.H = x.H)
    (V.need (x.B = x.B)
    (V.need (x.A = x.A)
    (V.need (x.P = x.P)
    (V.need (x.nP = x.nP)
    (V.need (x.rc = x.rc)
    (V.need (x.nU = x.nU)
    (V.need (x.cu = x.cu)
    (V.need (x.rc = x.rc)
    (V.need (x.nP ≤ x.nP)
    (V.need (∀ (e : Nat), e < x.nP → e = e)
    (V.need (∀ (e : Nat), e < x.nP → x.lenP e = x.lenP e)
    (V.need (∀ (e : Nat), e < x.nP → x.FC e = x.FC e)
    (V.need (x.cu = x.cu)
    (V.need (x.nU ≤ x.nU)
    (V.need (∀ (e : Nat), e < x.nU → x.uP e = x.uP e)
    (V.need (∀ (e : Nat), e < x.nU → x.uL e = x.uL e)
    (V.need (∀ (e : Nat), e < x.nU → x.uD e = x.uD e)
    (V.need (∀ (i : Nat), gd x.nP x.FC i = gd x.nP (fun (e : Nat) => x.FC e) i ∨ gd x.nP (fun (e : Nat) => x.FC e) i = 0)
    (V.need (∀ (i : Nat), gd x.nP (fun (e : Nat) => x.lenP e) i ≤ gd x.nP (fun (e : Nat) => x.FC e) i ∧ gd x.nP (fun (e : Nat) => x.lenP e) i ≤ gd x.nP x.lenP i)
    (V.need (∀ (i e : Nat), e < gd x.nP (fun (e : Nat) => x.lenP e) i → x.iO i e = x.iO i e)
    (V.need (∀ (i e : Nat), e < gd x.nP (fun (e : Nat) => x.lenP e) i → x.iA i e = x.iA i e)
    (V.need (∀ (i e : Nat), e < gd x.nP (fun (e : Nat) => x.lenP e) i → x.iB i e = x.iB i e) V.ok))))))))))))))))))))))))))))))))))))))))))))))))))))))))))))))))))))))))))))))) := by kernel_rfl


end Go.Proofs.Ytjpnpaboahbncaa.Vc

/- ConfigChecks: light, awake, changed; the contracts. -/
set_option linter.unusedVariables false
set_option linter.unusedSimpArgs false
set_option maxRecDepth 100000
namespace Go.Proofs.Ytjpnpaboahbncaa.Vc
open Go Go.RowKit Sx Cn Dc Ck

/-! ### What Encode writes are bytes; what Decode makes of bytes is small. -/
def R8 (s : Bw) : Prop := ∀ e, 0 ≤ s.g e ∧ s.g e ≤ 255
theorem wrap8 (v : Int) : 0 ≤ IntKind.u8.wrap v ∧ IntKind.u8.wrap v ≤ 255 := by
  have h : IntKind.u8.wrap v = v % 256 := rfl
  omega
theorem R8.put {s : Bw} (h : R8 s) (v k : Int) : R8 (s.put v k) := fun e => by
  show 0 ≤ putG s.n s.g v k e ∧ putG s.n s.g v k e ≤ 255
  unfold putG
  split
  · exact h e
  split
  · exact wrap8 v
  · exact h e
theorem R8.instr {s : Bw} (h : R8 s) (c : Cf) (o a b : Int) : R8 (s.instr c o a b) := by
  unfold Bw.instr
  split
  · exact (h.put _ _).put _ _
  split
  · exact ((h.put _ _).put _ _).put _ _
  · exact (h.put _ _).put _ _
theorem R8.putIs {c : Cf} {i : Nat} : ∀ (m k : Nat) {s : Bw}, R8 s → R8 (putIs c i k m s)
  | 0, _, _, h => h
  | m + 1, k, _, h => R8.putIs m (k + 1) (h.instr c _ _ _)
theorem R8.putPs {c : Cf} : ∀ (m k : Nat) {s : Bw}, R8 s → R8 (putPs c k m s)
  | 0, _, _, h => h
  | m + 1, k, _, h => R8.putPs m (k + 1) (R8.putIs _ _ (h.put _ _))
theorem R8.putUs {c : Cf} : ∀ (m k : Nat) {s : Bw}, R8 s → R8 (putUs c k m s)
  | 0, _, _, h => h
  | m + 1, k, _, h => R8.putUs m (k + 1) (((h.put _ _).put _ _).put _ _)
theorem R8.nil : R8 Bw.nil := fun _ => ⟨Int.le_refl 0, by show (0 : Int) ≤ 255; decide⟩
theorem R8.enc (c : Cf) : R8 (encB c) := by
  unfold encB headB
  apply R8.putUs
  apply R8.put
  apply R8.putPs
  repeat' apply R8.put
  exact R8.nil
theorem enc_some (c : Cf) : ∃ x, EncOf c x := by
  cases h : goodB c
  · exact ⟨_, .inr ⟨h, rfl⟩⟩
  · exact ⟨(lenE c, lenE c, fun e => (encB c).g e, 0), .inl ⟨h, rfl, Nat.le_refl _, fun _ => rfl, rfl⟩⟩
theorem enc_u8 {c : Cf} {x : Nat × Nat × (Nat → Int) × Int} (h : EncOf c x) : U8 x.1 fun e => x.2.2.1 e := by
  rcases h with ⟨_, _, _, h, _⟩ | ⟨_, rfl⟩
  · intro e _
    show 0 ≤ x.2.2.1 e ∧ x.2.2.1 e ≤ 255
    rw [h e]; exact R8.enc c e
  · exact fun e he => absurd he (Nat.not_lt_zero e)
theorem enc_cap {c : Cf} {x : Nat × Nat × (Nat → Int) × Int} (h : EncOf c x) : x.1 ≤ x.2.1 := by
  rcases h with ⟨_, _, h, _, _⟩ | ⟨_, rfl⟩
  · exact h
  · exact Nat.le_refl _
theorem dec_some (g : Nat → Int) (n : Nat) : ∃ d, IsDec g n d := ⟨_, lenP g n, nP g n, nU g n, ⟨fun _ _ => Nat.le_refl _, Nat.le_refl _, Nat.le_refl _⟩, rfl⟩
theorem dec_small' {g : Nat → Int} {n : Nat} {d : Cf} (hu : U8 n g) (h : IsDec g n d) : smallC d := by
  obtain ⟨FC, rc, cu, ⟨h1, h2, h3⟩, rfl⟩ := h
  have e := nP_eq hu
  have r := dN_r hu
  have u := nU_le hu
  exact ⟨⟨show 1 ≤ nP g n by omega, show nP g n ≤ 4 by omega, u, h2, h3⟩, fun i _ => (cnt_eq hu _).2, h1⟩
theorem dec_small {c : Cf} {x : Nat × Nat × (Nat → Int) × Int} {d : Cf} (h : EncOf c x) (hd : IsDec (fun e => x.2.2.1 e) x.1 d) : smallC d := dec_small' (enc_u8 h) hd
theorem dr_nat {a : Int} {b : Nat} (h : 0 < b) : (dr a b).toNat < b := by have := dr_range (a := a) (b := b) (by omega); omega
theorem dr_hi {a : Int} {b : Nat} (h : 0 < b) : dr a b < b := (dr_range (a := a) (b := b) (by omega)).2
theorem gd_pos {d : Cf} {k : Nat} (h : smallC d) (hk : k < d.lenP 0) : k < gd d.nP d.lenP 0 := by
  unfold gd
  rw [if_pos (by have := h.1; omega)]; exact hk
theorem gd_sm {d : Cf} (h : smallC d) (i : Nat) : gd d.nP (fun e => d.lenP e) i ≤ gd d.nP (fun e => d.FC e) i := gd_le (fun e he => h.2.2 e he) i

open Classical in
theorem light_no {c : Cf} (h : ¬ lightC c) : false = lightB c := by unfold lightB; exact (decide_eq_false h).symm
open Classical in
theorem light_yes {c : Cf} (h : lightC c) : true = lightB c := by unfold lightB; exact (decide_eq_true h).symm
theorem light_p {c : Cf} (h : (50 : Int) < c.nP) : false = lightB c := light_no fun g => by have := g.1; omega
theorem light_u {c : Cf} (h : (100 : Int) < c.nU) : false = lightB c := light_no fun g => by have := g.2.1; omega
theorem light_l {c : Cf} {x : Int} (hx : lightI c x) (h : x < c.nP) (hl : (60 : Int) < c.lenP x.toNat) : false = lightB c := light_no fun g => by have := g.2.2 x.toNat (by have := hx.1; omega); omega
theorem light_e {c : Cf} {x : Int} (hp : ¬ (50 : Int) < c.nP) (hu : ¬ (100 : Int) < c.nU) (hx : lightI c x) (h : ¬ x < c.nP) : true = lightB c := light_yes ⟨by omega, by omega, fun j hj => hx.2.2 j (by omega)⟩
theorem light_n {c : Cf} {x : Int} (hp : ¬ (50 : Int) < c.nP) (hx : lightI c x) (h : x < c.nP) (hl : ¬ (60 : Int) < c.lenP x.toNat) (j : Nat) (hj : (j : Int) < IntKind.i64.wrap (x + 1)) : c.lenP j ≤ 60 := by
  have h0 := hx.1
  rw [w64 (by omega)] at hj
  by_cases e : j = x.toNat
  · subst e; omega
  · exact hx.2.2 j (by omega)
theorem light_0 {c : Cf} {x : Int} (hx : lightI c x) : 0 ≤ x := hx.1
theorem light_t {c : Cf} {x : Int} (hx : lightI c x) (h : x < c.nP) : x.toNat < c.nP := by have := hx.1; omega
theorem light_1 {c : Cf} {x : Int} (hp : ¬ (50 : Int) < c.nP) (hx : lightI c x) (h : x < c.nP) : 0 ≤ IntKind.i64.wrap (x + 1) := by have := hx.1; rw [w64 (by omega)]; omega
theorem light_2 {c : Cf} {x : Int} (hp : ¬ (50 : Int) < c.nP) (hx : lightI c x) (h : x < c.nP) : IntKind.i64.wrap (x + 1) ≤ c.nP := by have := hx.1; rw [w64 (by omega)]; omega
theorem light_3 {c : Cf} {x : Int} (hp : ¬ (50 : Int) < c.nP) (hx : lightI c x) (h : x < c.nP) : c.nP - (IntKind.i64.wrap (x + 1)).toNat < c.nP - x.toNat := by have := hx.1; rw [w64 (by omega)]; omega
theorem vhLight (c : Cf) (h : True) : VHolds (verLight c) := by
  constructor
  rw [verLight_eq]
  simp only [V.holds, Int.ofNat_eq_natCast, decide_eq_true_eq, decide_eq_false_iff_not, Bool.not_eq_true', Bool.not_eq_false', bne_iff_ne, bne_eq_false_iff_eq, beq_iff_eq, beq_eq_false_iff_ne, ne_eq, true_and, and_true, forall_const, true_implies, implies_true, Nat.zero_add, Nat.sub_zero, Nat.lt_add_one, Nat.zero_lt_one, Int.natCast_zero, Int.natCast_one, Int.cast_ofNat_Int, gt_iff_lt, and_self, eq_self, Nat.le_refl]
  repeat' first | exact True.intro | with_reducible apply And.intro | intro _
  all_goals first
    | omega
    | exact light_p (by assumption)
    | exact light_u (by assumption)
    | exact light_l (by assumption) (by assumption) (by assumption)
    | exact light_e (by assumption) (by assumption) (by assumption) (by assumption)
    | exact light_n (by assumption) (by assumption) (by assumption) (by assumption) _ (by assumption)
    | exact light_0 (by assumption)
    | exact light_t (by assumption) (by assumption)
    | exact light_1 (by assumption) (by assumption) (by assumption)
    | exact light_2 (by assumption) (by assumption) (by assumption)
    | exact light_3 (by assumption) (by assumption) (by assumption)
theorem vhAwake (h : True) : VHolds verAwake := by
  constructor
  rw [verAwake_eq]
  simp only [V.holds, Int.ofNat_eq_natCast, decide_eq_true_eq, decide_eq_false_iff_not, Bool.not_eq_true', Bool.not_eq_false', bne_iff_ne, bne_eq_false_iff_eq, beq_iff_eq, beq_eq_false_iff_ne, ne_eq, true_and, and_true, forall_const, true_implies, implies_true, Nat.zero_add, Nat.sub_zero, Nat.lt_add_one, Nat.zero_lt_one, Int.natCast_zero, Int.natCast_one, Int.cast_ofNat_Int, gt_iff_lt, and_self, eq_self, Nat.le_refl]
  repeat' first | exact True.intro | with_reducible apply And.intro | intro _
  all_goals first
    | contradiction
    | omega
    | decide
theorem vhCh (c : Cf) (which by' : Int) (hw : -9223372036854775808 ≤ which ∧ which ≤ 9223372036854775807) : VHolds (verCh c which by') := by
  constructor
  rw [verCh_eq]
  have e1 : IntKind.i64.wrap (which.tdiv 1) = which := by rw [Int.tdiv_one]; exact w64 (by omega)
  have e15 : dr which 15 = dr which ((15 : Nat) : Int) := rfl
  have r15 : 0 ≤ dr which 15 ∧ dr which 15 < 15 := dr_range (by decide)
  have e3 : (dr which 15).tmod 3 = dr which 15 % 3 := Int.tmod_eq_emod_of_nonneg r15.1
  have e2 : (dr which 15).tmod 2 = dr which 15 % 2 := Int.tmod_eq_emod_of_nonneg r15.1
  simp only [V.holds, Int.ofNat_eq_natCast, decide_eq_true_eq, decide_eq_false_iff_not, Bool.not_eq_true', Bool.not_eq_false', bne_iff_ne, bne_eq_false_iff_eq, beq_iff_eq, beq_eq_false_iff_ne, ne_eq, true_and, and_true, forall_const, true_implies, implies_true, Nat.zero_add, Nat.sub_zero, Nat.lt_add_one, Nat.zero_lt_one, Int.natCast_zero, Int.natCast_one, Int.cast_ofNat_Int, gt_iff_lt, and_self, eq_self, Nat.le_refl, cf_eta, e1, e2, e3, List.length_cons, List.length_nil]
  generalize dr which 15 = z at *
  repeat' first | exact True.intro | with_reducible apply And.intro | intro _
  all_goals try (have hs := dec_small (by assumption) (by assumption))
  all_goals try (have hs1 := hs.1; have hs2 := hs.2.1 0 (by omega))
  all_goals first
    | omega
    | exact enc_some c
    | exact enc_cap (by assumption)
    | exact enc_u8 (by assumption)
    | exact (enc_u8 (by assumption) _ (by assumption)).1
    | exact (enc_u8 (by assumption) _ (by assumption)).2
    | exact dec_some _ _
    | exact hs
    | exact (dr_bound _ _).1
    | exact dr_hi (by omega)
    | exact dr_nat (by omega)
    | exact gd_pos hs (dr_nat (by omega))
    | exact .inl rfl
    | exact .inl trivial
    | exact gd_sm hs _
    | exact Nat.le_refl _
    | rfl
end Go.Proofs.Ytjpnpaboahbncaa.Vc

/- ConfigChecks: the contracts in use, and the law. -/
set_option linter.unusedVariables false
set_option maxRecDepth 100000
namespace Go.Proofs.Ytjpnpaboahbncaa.Vc
open Go Go.RowKit Sx Cn Dc Ck
noncomputable section
def conLight : List SV → Hp → Out (SV × Hp) := conCfP fun c => .need True (psBool 3 (lightB c)).out
theorem conLight_ok : ContractOK P 54 conLight := conCfP_ok fun c => local_of_ps con3_ok (vhLight c)
def conAwake : List SV → Hp → Out (SV × Hp) := fun args H => match args with
  | [] => useP [] 0 [] [] (.need True (PS.one 0 (fun _ _ => []) (.c (.kb true)) []).out) args H
  | _ => .bad 422
theorem conAwake_ok : ContractOK P 57 conAwake := contract_of_useP fun args H => by
  unfold conAwake
  split
  · exact .inr ⟨_, _, _, _, _, rfl, local_of_ps con7_ok vhAwake⟩
  · exact .inl ⟨_, rfl⟩
def conCh : List SV → Hp → Out (SV × Hp) := fun args H => match args with
  | [.a [x0, x1, x2, x3, x4, x5, x6, x7, x8, .slc kr _ _ _ nP rc, .slc ku _ _ _ nU cu], .c u, .c v] => match numC x0, numC x1, numC x2, numC x3, numC x4, numC x5, numC x6, numC x7, numC x8, numC u, numC v with
    | some W, some L, some C, some T, some D, some h, some B, some A, some Q, some wh, some b' => fN kr fun kr => fN ku fun ku => cfBlk H.h kr ku fun kF ln cp o a b f g k => useP [kr, ku, kF] 3
                [argC ⟨W, L, C, T, D, h, B, A, Q, nP.v, rc.v, nU.v, cu.v, fun e => ln 0 e, fun e => cp 0 e, o, a, b, fun e => f 0 e, fun e => g 0 e, fun e => k 0 e⟩, iv wh, iv b']
                (hC ⟨W, L, C, T, D, h, B, A, Q, nP.v, rc.v, nU.v, cu.v, fun e => ln 0 e, fun e => cp 0 e, o, a, b, fun e => f 0 e, fun e => g 0 e, fun e => k 0 e⟩)
                (.need (-9223372036854775808 ≤ wh ∧ wh ≤ 9223372036854775807) (psCh ⟨W, L, C, T, D, h, B, A, Q, nP.v, rc.v, nU.v, cu.v, fun e => ln 0 e, fun e => cp 0 e, o, a, b, fun e => f 0 e, fun e => g 0 e, fun e => k 0 e⟩ wh).out) args H
    | _, _, _, _, _, _, _, _, _, _, _ => .bad 434
  | _ => .bad 435
theorem conCh_ok : ContractOK P 55 conCh := contract_of_useP fun args H => by
  unfold conCh
  simp only [fN_eq]
  repeat' split
  all_goals first | exact .inl ⟨_, rfl⟩ | exact (cfBlk_ok _ _ _ _).elim .inl fun ⟨_, _, _, _, _, _, _, _, _, e⟩ => .inr ⟨_, _, _, _, _, e, local_of_ps conCh0_ok (vhCh _ _ _)⟩
def conL : Con := Con.add 54 conLight (Con.add 57 conAwake (Con.add 55 conCh (Con.add 56 conDec (Con.add 58 conErr (Con.add 44 conErr con7)))))
theorem conL_ok : ConOK P conL := .add conLight_ok (.add conAwake_ok (.add conCh_ok (.add conDec_ok (.add conErr58 (.add conErr44 con7_ok)))))
def verChecks (c : Cf) (g : Nat → Int) (len cap : Nat) (which by' : Int) (near : Bool) : V := verF P conL 3 4 11 [] .nil [argCm 0 c, .c (slK 3 1 len cap), iv which, iv by', .c (.bv near)] ⟨hCm 0 c ++ [(3, ints .u8 len g)], 4, fun _ => True⟩ yesV
end
end Go.Proofs.Ytjpnpaboahbncaa.Vc
