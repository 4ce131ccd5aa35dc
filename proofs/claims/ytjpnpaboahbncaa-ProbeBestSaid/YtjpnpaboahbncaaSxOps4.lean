/- Slices, lengths, make, append of the symbolic executor. -/
import Derived.Test.YtjpnpaboahbncaaSxOps3
set_option linter.unusedVariables false
set_option linter.unusedSimpArgs false
namespace Go.Proofs.Ytjpnpaboahbncaa.Sx
open Go Go.RowKit

/-! ### len, cap -/
def lenT (P : Program) (t : TypeId) : SV → Out SV
  | .c (.slc _ _ _ _ len _) => chk (isSlcT P t) (.leaf (mkI len.kn .i64 (len.v : Int))) 150
  | .c .nils => chk (isSlcT P t) (.leaf (mkI true .i64 0)) 151
  | .c (.val (.string s)) => chk (isStrT P t) (.leaf (mkI false .i64 (s.size : Int))) 152
  | _ => .bad 153
theorem lenT_ok {P : Program} {ρ : Rho} {H : Hp} {w : World} {t ty : TypeId} {x : SV} {v : Value} {K : SV → Prop} (hx : SIs H.sc ρ x v) (hh : (lenT P t x).holds K) : PureOK ρ H K w ((Builtin.len_ #[t] ty #[v]).run P w) := by
  have e := hx.eq
  unfold lenT at hh
  split at hh
  · obtain ⟨ht, hK⟩ := chk_holds hh
    obtain ⟨el, he⟩ := isSlcT_h ht
    refine ⟨_, _, ?_, hK, mkI_is _ _ _ _ _⟩
    rw [e]; simp [SV.den, SC.den, Builtin.len_, run_underlying he, goInt]
  · obtain ⟨ht, hK⟩ := chk_holds hh
    obtain ⟨el, he⟩ := isSlcT_h ht
    refine ⟨_, _, ?_, hK, mkI_is _ _ _ _ _⟩
    rw [e]; simp [SV.den, SC.den, Builtin.len_, run_underlying he, goInt]
  · obtain ⟨ht, hK⟩ := chk_holds hh
    have he := isStrT_h ht
    refine ⟨_, _, ?_, hK, mkI_is _ _ _ _ _⟩
    rw [e]; simp [SV.den, SC.den, Builtin.len_, run_underlying he, goInt]
  · exact hh.elim
def capT (P : Program) (t : TypeId) : SV → Out SV
  | .c (.slc _ _ _ _ _ cap) => chk (isSlcT P t) (.leaf (mkI cap.kn .i64 (cap.v : Int))) 154
  | .c .nils => chk (isSlcT P t) (.leaf (mkI true .i64 0)) 155
  | _ => .bad 156
theorem capT_ok {P : Program} {ρ : Rho} {H : Hp} {w : World} {t ty : TypeId} {x : SV} {v : Value} {K : SV → Prop} (hx : SIs H.sc ρ x v) (hh : (capT P t x).holds K) : PureOK ρ H K w ((Builtin.cap_ #[t] ty #[v]).run P w) := by
  have e := hx.eq
  unfold capT at hh
  split at hh
  · obtain ⟨ht, hK⟩ := chk_holds hh
    obtain ⟨el, he⟩ := isSlcT_h ht
    refine ⟨_, _, ?_, hK, mkI_is _ _ _ _ _⟩
    rw [e]; simp [SV.den, SC.den, Builtin.cap_, run_underlying he, goInt]
  · obtain ⟨ht, hK⟩ := chk_holds hh
    obtain ⟨el, he⟩ := isSlcT_h ht
    refine ⟨_, _, ?_, hK, mkI_is _ _ _ _ _⟩
    rw [e]; simp [SV.den, SC.den, Builtin.cap_, run_underlying he, goInt]
  · exact hh.elim

/-! ### min, max -/
def minT : List SV → Out SV
  | [x, y] => opt (asI x) (fun r => opt (asI y) (fun q => .leaf (mkI (r.1 && q.1) r.2.1 (min r.2.2 q.2.2))) 157) 158
  | _ => .bad 159
def maxT : List SV → Out SV
  | [x, y] => opt (asI x) (fun r => opt (asI y) (fun q => .leaf (mkI (r.1 && q.1) r.2.1 (max r.2.2 q.2.2))) 157) 158
  | _ => .bad 159
/-- A list of states' values stands for a list of values. -/
def VIs (n : Nat → Prop) (ρ : Rho) : List SV → List Value → Prop
  | [], [] => True
  | x :: l, v :: m => SIs n ρ x v ∧ VIs n ρ l m
  | _, _ => False
theorem minT_ok {P : Program} {ρ : Rho} {H : Hp} {w : World} {ts : Array TypeId} {ty : TypeId} {xs : List SV} {vs : List Value} {K : SV → Prop} (hx : VIs H.sc ρ xs vs) (hh : (minT xs).holds K) : PureOK ρ H K w ((Builtin.min_ ts ty vs.toArray).run P w) := by
  unfold minT at hh
  split at hh
  · rename_i x y
    obtain ⟨r, hr, hh⟩ := opt_holds hh
    obtain ⟨q, hq, hK⟩ := opt_holds hh
    match vs, hx with
    | [v, u], hx =>
      have e1 := asI_is hr hx.1; have e2 := asI_is hq hx.2.1
      subst e1 e2
      refine ⟨_, _, ?_, hK, mkI_is _ _ _ _ _⟩
      rw [run_min_int2]
      congr 2
      omega
    | [], hx => exact hx.elim
    | [_], hx => exact hx.2.elim
    | _ :: _ :: _ :: _, hx => exact hx.2.2.elim
  · exact hh.elim
theorem maxT_ok {P : Program} {ρ : Rho} {H : Hp} {w : World} {ts : Array TypeId} {ty : TypeId} {xs : List SV} {vs : List Value} {K : SV → Prop} (hx : VIs H.sc ρ xs vs) (hh : (maxT xs).holds K) : PureOK ρ H K w ((Builtin.max_ ts ty vs.toArray).run P w) := by
  unfold maxT at hh
  split at hh
  · rename_i x y
    obtain ⟨r, hr, hh⟩ := opt_holds hh
    obtain ⟨q, hq, hK⟩ := opt_holds hh
    match vs, hx with
    | [v, u], hx =>
      have e1 := asI_is hr hx.1; have e2 := asI_is hq hx.2.1
      subst e1 e2
      refine ⟨_, _, ?_, hK, mkI_is _ _ _ _ _⟩
      rw [run_max_int2]
      congr 2
      omega
    | [], hx => exact hx.elim
    | [_], hx => exact hx.2.elim
    | _ :: _ :: _ :: _, hx => exact hx.2.2.elim
  · exact hh.elim

/-! ### x[lo:hi] -/
def boundT (d : Bool × Int) : Option SV → Option (Bool × Int)
  | none => some d
  | some x => (asI x).map fun r => (r.1, r.2.2)
def optIs (n : Nat → Prop) (ρ : Rho) : Option SV → Option Value → Prop
  | none, none => True
  | some x, some v => SIs n ρ x v
  | _, _ => False

def sliceT (P : Program) (t : TypeId) (lo hi mx : Option SV) (x : SV) : Out SV :=
  match mx, x, P.underlying t with
  | none, .c (.slc key i e sz len cap), some (.slice el) => opt (sizeT P el) (fun n => chk (Nat.beq n sz) (opt (boundT (true, 0) lo) (fun l => opt (boundT (len.kn, (len.v : Int)) hi) (fun h =>
      needP (l.1 && h.1 && cap.kn) (0 ≤ l.2 ∧ l.2 ≤ h.2 ∧ h.2 ≤ (cap.v : Int)) (match lo with
        | none => .leaf (.c (.slc key i e sz (mkN h.1 h.2.toNat) cap))
        | some _ => needP (l.1 && cap.kn) (l.2 = 0 ∨ l.2 < (cap.v : Int)) (.leaf (.c (.slc key i (e.add (mkN l.1 l.2.toNat)) sz (mkN (l.1 && h.1) (h.2 - l.2).toNat) (mkN (l.1 && cap.kn) (cap.v - l.2.toNat))))))) 160) 161) 162) 163
  | none, .c .nils, some (.slice el) => opt (sizeT P el) (fun _ => opt (boundT (true, 0) lo) (fun l => opt (boundT (true, 0) hi) (fun h => needP (l.1 && h.1) (l.2 = 0 ∧ h.2 = 0) (.leaf (.c .nils))) 160) 161) 164
  | _, _, _ => .bad 165

theorem bound_ok {P : Program} {n : Nat → Prop} {ρ : Rho} {w : World} {d : Bool × Int} {x : Option SV} {v : Option Value} {r : Bool × Int} (hx : optIs n ρ x v) (hr : boundT d x = some r) :
    (x = none ∧ v = none ∧ r = d) ∨ (∃ k, v = some (.int k r.2) ∧ x ≠ none) := by
  cases x with
  | none =>
    cases v with
    | none => simp [boundT] at hr; exact .inl ⟨rfl, rfl, hr.symm⟩
    | some v => exact hx.elim
  | some x =>
    cases v with
    | none => exact hx.elim
    | some v =>
      simp only [boundT, Option.map_eq_some_iff] at hr
      obtain ⟨q, hq, rfl⟩ := hr
      have := asI_is hq hx
      exact .inr ⟨q.2.1, by rw [this], by simp⟩

theorem run_bounds {P : Program} {n : Nat → Prop} {ρ : Rho} {w : World} {len cap : Nat} {dk : Bool} {lo hi : Option SV} {vlo vhi : Option Value} {l h : Bool × Int} (hlo : optIs n ρ lo vlo) (hhi : optIs n ρ hi vhi) (hl : boundT (true, 0) lo = some l)
    (hr : boundT (dk, (len : Int)) hi = some h) (b0 : 0 ≤ l.2) (b1 : l.2 ≤ h.2) (b2 : h.2 ≤ (cap : Int)) : (Instr.sliceBounds true len cap vlo vhi none).run P w = .ok (l.2.toNat, h.2.toNat, cap) w := by
  have b3 : 0 ≤ h.2 := by omega
  have b1' : l.2 ≤ (h.2.toNat : Int) := by omega
  rcases bound_ok (P := P) (w := w) hlo hl with ⟨_, rfl, rfl⟩ | ⟨k1, rfl, _⟩ <;> rcases bound_ok (P := P) (w := w) hhi hr with ⟨_, rfl, rfl⟩ | ⟨k2, rfl, _⟩
  · simp [Instr.sliceBounds]
  · simp [Instr.sliceBounds, run_sliceBound w k2 h.2 cap _ b3 b2]
  · simp only [Int.toNat_natCast] at b1'
    simp [Instr.sliceBounds, run_sliceBound w k1 l.2 len _ b0 b1']
  · simp [Instr.sliceBounds, run_sliceBound w k2 h.2 cap _ b3 b2, run_sliceBound w k1 l.2 h.2.toNat _ b0 b1']

theorem sliceT_ok {P : Program} {ρ : Rho} {H : Hp} {w : World} {t : TypeId} {lo hi mx : Option SV} {x : SV} {vlo vhi vmx : Option Value} {v : Value} {K : SV → Prop} (hx : SIs H.sc ρ x v) (hlo : optIs H.sc ρ lo vlo) (hhi : optIs H.sc ρ hi vhi)
    (hmx : optIs H.sc ρ mx vmx) (hh : (sliceT P t lo hi mx x).holds K) : PureOK ρ H K w ((Instr.sliceAt t v vlo vhi vmx).run P w) := by
  unfold sliceT at hh
  split at hh
  · rename_i key i e sz len cap el hu
    have hvm : vmx = none := by cases vmx with
      | none => rfl
      | some _ => exact hmx.elim
    subst hvm
    obtain ⟨n, hn, hh⟩ := opt_holds hh
    obtain ⟨hz, hh⟩ := chk_holds hh
    have hz := Nat.eq_of_beq_eq_true hz
    obtain ⟨l, hl, hh⟩ := opt_holds hh
    obtain ⟨h, hh', hh⟩ := opt_holds hh
    obtain ⟨⟨b0, b1, b2⟩, hh⟩ := needP_holds hh
    have e0 := hx.eq
    simp only [SV.den, SC.den] at e0
    have hb1 : (Instr.sliceAt t v vlo vhi none).run P w = .ok (.slice (if cap.v = l.2.toNat then place ρ key i (e.v * sz) else (place ρ key i (e.v * sz)).map (·.add (l.2.toNat * n))) (h.2.toNat - l.2.toNat) (cap.v - l.2.toNat)) w := by
      rw [e0]
      simp [Instr.sliceAt, Instr.slice, run_underlying hu, run_bounds (P := P) (w := w) hlo hhi hl hh' b0 b1 b2, run_sizeOf_of hn]
    rcases bound_ok (P := P) (w := w) hlo hl with ⟨rfl, _, rfl⟩ | ⟨k1, _, hne⟩
    · refine ⟨_, _, hb1, hh, fun ρ' ha => ?_⟩
      have e1 := hx ρ' ha
      rw [e0] at e1
      simp only [SV.den, SC.den, Value.slice.injEq] at e1 ⊢
      simp only [Int.toNat_zero, Nat.zero_mul, Nat.sub_zero, mkN_v, and_true]
      rw [e1.1]
      split
      · rfl
      · cases place ρ key i (e.v * sz) with
        | none => rfl
        | some a => simp [Addr.add]
    · cases lo with
      | none => exact absurd rfl hne
      | some x =>
        simp only at hh
        obtain ⟨hd, hK⟩ := needP_holds hh
        refine ⟨_, _, hb1, hK, fun ρ' ha => ?_⟩
        have e1 := hx ρ' ha
        rw [e0] at e1
        simp only [SV.den, SC.den, Value.slice.injEq] at e1 ⊢
        simp only [NV.v_add, mkN_v]
        have e4 : (h.2 - l.2).toNat = h.2.toNat - l.2.toNat := by omega
        rw [e4]
        refine ⟨?_, rfl, trivial⟩
        by_cases h0 : l.2.toNat = 0
        · simp only [h0, Nat.zero_mul, Nat.add_zero]
          rw [e1.1]
          split
          · rfl
          · cases place ρ key i (e.v * sz) with
            | none => rfl
            | some a => simp [Addr.add]
        · rw [if_neg (by omega)]
          rw [Nat.add_mul]
          cases hp : place ρ key i (e.v * sz) with
          | none =>
            have hp' := e1.1
            rw [hp] at hp'
            unfold place at hp' ⊢
            cases hq : ρ' key i.v with
            | none => simp
            | some q => rw [hq] at hp'; cases hp'
          | some a =>
            have hp' := e1.1
            rw [hp] at hp'
            rw [hz]
            exact (place_add (b := l.2.toNat * sz) hp').1
  · rename_i el hu
    have hvm : vmx = none := by cases vmx with
      | none => rfl
      | some _ => exact hmx.elim
    subst hvm
    obtain ⟨n, hn, hh⟩ := opt_holds hh
    obtain ⟨l, hl, hh⟩ := opt_holds hh
    obtain ⟨h, hh', hh⟩ := opt_holds hh
    obtain ⟨⟨b0, b1⟩, hK⟩ := needP_holds hh
    have e0 := hx.eq
    simp only [SV.den, SC.den] at e0
    refine ⟨.slice none 0 0, _, ?_, hK, fun _ _ => rfl⟩
    rw [e0]
    simp [Instr.sliceAt, Instr.slice, run_underlying hu, run_bounds (P := P) (w := w) (len := 0) (cap := 0) hlo hhi hl hh' (by omega) (by omega) (by simp; omega), run_sizeOf_of hn, b0, b1]
  · exact hh.elim

/-! ### make([]T, n) -/
def constCol : SC → Option Col
  | .ki k n => some (.ci k fun _ _ => n)
  | .kb b => some (.cb fun _ _ => b)
  | .nils => some (.cc .nils)
  | .nilp => some (.cc .nilp)
  | .nilI => some (.cc .nilI)
  | _ => none
def constCols : List SC → Option (List Col)
  | [] => some []
  | c :: l => match constCol c, constCols l with
    | some x, some y => some (x :: y)
    | _, _ => none
theorem constCols_get : ∀ {l : List SC} {cols : List Col}, constCols l = some cols → cols.length = l.length ∧ ∀ (f : Nat) (col : Col), cols[f]? = some col → ∃ c, l[f]? = some c ∧ ∀ i e d, col.get i e = some d → ∀ ρ, d.den ρ = c.den ρ
  | [], cols, h => by simp [constCols] at h; subst h; exact ⟨rfl, fun f col hf => by simp at hf⟩
  | c :: l, cols, h => by
    simp only [constCols] at h
    split at h
    · rename_i x y h1 h2
      cases h
      obtain ⟨g1, g2⟩ := constCols_get h2
      refine ⟨by simp [g1], fun f col hf => ?_⟩
      cases f with
      | zero =>
        simp at hf; subst hf
        refine ⟨c, rfl, fun i e d hd ρ => ?_⟩
        cases c <;> simp only [constCol] at h1 <;> (try cases h1) <;> simp only [Col.get, Option.some.injEq] at hd <;> subst hd <;> rfl
      | succ f => simpa using g2 f col (by simpa using hf)
    · cases h

def makeSliceT (P : Program) (H : Hp) (t : TypeId) (ln cp : SV) : Out (SV × Hp) :=
  match P.underlying t with
  | some (.slice el) => opt (P.info? el) (fun i => opt ((zeroT P el).bind (·.cells)) (fun z => chk (Nat.beq z.length i.size && Nat.ble 1 i.size) (opt (asI ln) (fun l => opt (asI cp) (fun c =>
      needP (l.1 && c.1) (0 ≤ l.2.2 ∧ l.2.2 ≤ c.2.2 ∧ (i.bytes : Int) * c.2.2 ≤ 281474976710656 ∧ c.2.2 ≤ 9223372036854775807)
        (match constCols z, c.1 with
          | some cols, _ => .leaf (.c (.slc H.nxt (.k 0) (.k 0) i.size (mkN l.1 l.2.2.toNat) (mkN c.1 c.2.2.toNat)), rowT H el c.2.2.toNat c.2.2.toNat cols)
          | none, true => .leaf (.c (.slc H.nxt (.k 0) (.k 0) i.size (mkN l.1 l.2.2.toNat) (mkN c.1 c.2.2.toNat)), rowT H el c.2.2.toNat c.2.2.toNat (colsOf i.size c.2.2.toNat (repl z c.2.2.toNat)))
          | none, false => .bad 170)) 171) 172) 173) 174) 175
  | _ => .bad 176
theorem makeSliceT_ok {P : Program} {φ : Fr} {ρ : Rho} {H : Hp} {w : World} {t : TypeId} {ln cp : SV} {vl vc : Value} {K : SV × Hp → Prop} (h : HInv φ ρ H w) (hl : SIs H.sc ρ ln vl) (hc : SIs H.sc ρ cp vc)
    (hh : (makeSliceT P H t ln cp).holds K) : ValOK φ ρ H K ((Instr.makeSlice t vl vc).run P w) := by
  unfold makeSliceT at hh
  split at hh
  · rename_i el hu
    obtain ⟨i, hi, hh⟩ := opt_holds hh
    obtain ⟨z, hz, hh⟩ := opt_holds hh
    obtain ⟨hb, hh⟩ := chk_holds hh
    simp only [Bool.and_eq_true] at hb
    have hb1 := Nat.eq_of_beq_eq_true hb.1
    have hb2 := Nat.le_of_ble_eq_true hb.2
    obtain ⟨l, hl', hh⟩ := opt_holds hh
    obtain ⟨c, hc', hh⟩ := opt_holds hh
    obtain ⟨⟨b0, b1, b2, b3⟩, hh⟩ := needP_holds hh
    have e1 := asI_is hl' hl; have e2 := asI_is hc' hc
    subst e1 e2
    cases hz0 : zeroT P el with
    | none => simp [hz0] at hz
    | some zs =>
      simp only [hz0, Option.bind_some] at hz
      obtain ⟨i', zv, hi', hzz, hzs⟩ := zeroT_is hz0 (n := H.sc) (ρ := ρ)
      rw [hi] at hi'; cases hi'
      obtain ⟨vs, hvs, hls⟩ := SV.cells_is hzs hz
      have hvl : vs.length = i.size := by rw [hls.len, hb1]
      have hrun := run_make (P := P) w t el i zv hu hi hzz l.2.1 c.2.1 l.2.2 c.2.2 b0 b1 b2 b3
      rw [hvs, ← hvl, madeCells_repl] at hrun
      have hcm : c.2.2.toNat ≤ maxLen := by unfold maxLen; omega
      have hv : ∀ ρ' : Rho, ρ' H.nxt 0 = some (w.heap.size, 0) → SV.den ρ' (.c (.slc H.nxt (.k 0) (.k 0) i.size (mkN l.1 l.2.2.toNat) (mkN c.1 c.2.2.toNat))) = .slice (some ⟨w.heap.size, 0, none⟩) l.2.2.toNat c.2.2.toNat := by
        intro ρ' hr; simp [SV.den, SC.den, place, hr]
      split at hh
      · rename_i cols hcols
        obtain ⟨g1, g2⟩ := constCols_get hcols
        refine .newRow h hrun hv hh ?_ (Nat.le_refl _) hcm ?_
        · rw [g1, hb1, List.size_toArray, repl_length, hvl]
        · intro e he f col d hf hg
          obtain ⟨x, hx, hd⟩ := g2 f col hf
          obtain ⟨u, hu', hi'⟩ := hls.get hx
          have hfl : f < vs.length := (List.getElem?_eq_some_iff.1 hu').1
          refine ⟨u, ?_, fun ρ' ha => by rw [hd 0 e d hg ρ']; exact hi' ρ' ha⟩
          rw [g1, hb1, ← hvl, List.getElem?_toArray, repl_get]
          · rw [Nat.mul_comm, Nat.mul_add_mod, Nat.mod_eq_of_lt hfl]; exact hu'
          · have : (e + 1) * vs.length ≤ c.2.2.toNat * vs.length := Nat.mul_le_mul_right _ he
            rw [Nat.add_mul, Nat.one_mul] at this
            omega
      · rename_i hc1
        have hrl : LIs H.sc ρ (repl z c.2.2.toNat) (repl vs c.2.2.toNat) := fun ρ' ha => by rw [repl_map, hls ρ' ha]
        have hlen : (repl z c.2.2.toNat).length = c.2.2.toNat * i.size := by rw [repl_length, hb1]
        refine .newRow h hrun hv hh ?_ (Nat.le_refl _) hcm ?_
        · simp [colsOf, repl_length, hvl]
        · exact fun e he f col d hf hg => colsOf_cells hrl hlen e he f col d hf hg
      · exact hh.elim
  · exact hh.elim
end Go.Proofs.Ytjpnpaboahbncaa.Sx
