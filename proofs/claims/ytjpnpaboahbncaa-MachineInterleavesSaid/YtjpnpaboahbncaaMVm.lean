/- Rows of structs of some integers: as arguments; compared, cloned: what is asked. -/
import Derived.Test.YtjpnpaboahbncaaMVi
set_option linter.unusedVariables false
set_option linter.unusedSimpArgs false
set_option linter.unusedVariables false
set_option linter.unusedSimpArgs false
set_option maxRecDepth 100000
namespace Go.Proofs.Ytjpnpaboahbncaa.Vc
open Go Go.RowKit Go.ChangeShapes Go.WideShapes Go.Deep Sx Cn Dc Ck

section
variable {H : Type} {enc : TypeId × Value → H} {P : Program} {w : World}
/-- A struct of integers, in memory. -/
theorem some_ints {m : Nat} {t tf : TypeId} {fs : Array Field} {n : Nat} {a : Addr} {cs : List Value} {y : DataW H × List MemPlace} (ht : P.underlying t = some (.struct fs)) (hfs : fs.toList.map (fun f => (f.offset, f.type)) = (List.range m).map fun o => (o, tf))
    (hi : P.underlying tf = some (.int .i64)) (hc1 : P.cellsOf tf = 1) (hc : P.cellsOf t = m) (hcs : w.cells? 0 a (P.cellsOf t) = some cs) (h : DataW.trod enc P w 0 (fun _ => true) true n t cs = some y) :
    ∃ z : Nat → Int, ∀ o, o < m → w.cell? (a.add o) = some (.int .i64 (z o)) ∧ (Lit.int .i64 (z o)).wf = true := by
  obtain ⟨hl, k, hf⟩ := trod_fields ht h
  obtain ⟨_, hlen, hcell⟩ := World.cells?_some hcs
  rw [hc] at hcell
  refine pick_lt (α := Int) (n := m) (p := fun o z => w.cell? (a.add o) = some (.int .i64 z) ∧ (Lit.int .i64 z).wf = true) fun o ho => ?_
  obtain ⟨f, h1, h2, h3⟩ := at_field hfs (o := o) (t := tf) (List.mem_map.2 ⟨o, by simpa using ho, rfl⟩)
  obtain ⟨y0, g0⟩ := hf f h1
  rw [h2, h3] at g0
  obtain ⟨z, e0, w0⟩ := field_int hi hc1 g0
  refine ⟨z, ?_, w0⟩
  have := hcell o (by omega)
  rw [e0] at this; exact this
/-- What is known of a slice of structs of m integers that came in. -/
structure IsRows (m : Nat) (w : World) (a : Option Addr) (len cap : Nat) (g : Nat → Nat → Int) : Prop where
  spot : ∀ x, a = some x → x.spot = none
  le : len ≤ cap
  max : cap ≤ maxLen
  cells : ∀ e, e < len → ∃ x, a = some x ∧ ∀ f, f < m → w.cell? (x.add (e * m + f)) = some (.int .i64 (g f e))
  fits : ∀ e f, e < len → f < m → (Lit.int .i64 (g f e)).wf = true
theorem open_rows {m : Nat} {tS t tf : TypeId} {fs : Array Field} {fuel : Nat} {a : Option Addr} {len cap : Nat} {x : DataW H × List MemPlace} (hS : P.underlying tS = some (.slice t)) (hcS : P.cellsOf tS = 1) (ht : P.underlying t = some (.struct fs)) (hfs : fs.toList.map (fun f => (f.offset, f.type)) = (List.range m).map fun o => (o, tf))
    (hi : P.underlying tf = some (.int .i64)) (hc1 : P.cellsOf tf = 1) (hc : P.cellsOf t = m) (hs : ∀ x, a = some x → x.spot = none) (h : DataW.trod enc P w 0 (fun _ => true) true fuel tS (Value.slice a len cap).cells.toList = some x) : ∃ g, IsRows m w a len cap g := by
  have e : (Value.slice a len cap).cells.toList = ([Value.slice a len cap].drop 0).take (P.cellsOf tS) := by rw [hcS]; rfl
  rw [e] at h
  obtain ⟨a', len', cap', h1, h2, h3, k, h4⟩ := field_slice hS hcS h
  simp at h1
  obtain ⟨rfl, rfl, rfl⟩ := h1
  obtain ⟨V, hV⟩ := pick_lt (α := Nat → Int) (n := len) (p := fun e z => ∃ x, a = some x ∧ ∀ f, f < m → w.cell? (x.add (e * m + f)) = some (.int .i64 (z f)) ∧ (Lit.int .i64 (z f)).wf = true) (fun e he => by
    obtain ⟨x, cs', hx, hcs, y, hy⟩ := h4 e he
    obtain ⟨z, hz⟩ := some_ints ht hfs hi hc1 hc hcs hy
    refine ⟨z, x, hx, fun f hf => ⟨?_, (hz f hf).2⟩⟩
    have := (hz f hf).1
    rwa [hc, adr_add] at this)
  exact ⟨fun f e => V e f, hs, h2, h3, fun e he => let ⟨x, hx, hf⟩ := hV e he; ⟨x, hx, fun f hf' => (hf f hf').1⟩, fun e f he hf => let ⟨x, hx, h⟩ := hV e he; (h f hf).2⟩
end
def colsM (m : Nat) (g : Nat → Nat → Int) : List Col := (List.range m).map fun f => .ci .i64 fun _ e => g f e
theorem IsRows.sat {m : Nat} {w : World} {a : Option Addr} {len cap : Nat} {g : Nat → Nat → Int} (h : IsRows m w a len cap g) (hm : 0 < m) {n : Nat → Prop} {ρ : Rho} {key : Nat} (hρ : ρ key 0 = addr0 a) :
    (Blk.view 1 (fun _ => len) (colsM m g)).sat n ρ key w ∧ ∀ i, (Blk.view 1 (fun _ => len) (colsM m g)).live i → ∀ y o, ρ key i = some (y, o) → y < w.heap.size := by
  have at' : ∀ e, e < len → ∃ b o, ρ key 0 = some (b, o) ∧ ∀ f, f < m → w.cell? ((adr (b, o)).add (e * m + f)) = some (.int .i64 (g f e)) := by
    intro e he
    obtain ⟨x, rfl, hc⟩ := h.cells e he
    exact ⟨x.block, ⟨x.off, x.spot⟩, hρ, hc⟩
  have hlen : (colsM m g).length = m := by simp [colsM]
  constructor
  · intro i hi e he
    have : i = 0 := by omega
    subst this
    obtain ⟨b, o, h1, h2⟩ := at' e he
    refine ⟨b, o, h1, fun f col c hf hc => ?_⟩
    have hfm : f < m := by have := (List.getElem?_eq_some_iff.1 hf).1; omega
    simp only [colsM, List.getElem?_map, List.getElem?_range hfm, Option.map_some, Option.some.injEq] at hf
    subst hf
    simp only [Col.get, Option.some.injEq] at hc
    subst hc
    exact ⟨_, by rw [hlen]; exact h2 f hfm, fun _ _ => rfl⟩
  · rintro i ⟨h1, h2⟩ y o hy
    have : i = 0 := by omega
    subst this
    obtain ⟨b, o', h3, h4⟩ := at' 0 h2
    rw [h3] at hy; cases hy
    have := cell_lt (h4 0 hm)
    rwa [add_block] at this
theorem IsRows.val {m : Nat} {w : World} {a : Option Addr} {len cap : Nat} {g : Nat → Nat → Int} (h : IsRows m w a len cap g) {n : Nat → Prop} {ρ : Rho} {key sz : Nat} (hρ : ρ key 0 = addr0 a) (hk : n key) :
    SIs n ρ (.c (.slc key (.k 0) (.k 0) sz (.s len) (.s cap))) (.slice a len cap) := by
  intro ρ' ha
  simp only [SV.den, SC.den, place, NV.v_k, NV.v_s, ha key hk, hρ, Nat.zero_mul]
  congr 1
  cases a with
  | none => rfl
  | some x =>
    have := h.spot x rfl
    cases x
    simp_all [addr0, Addr.add, adr]
/-! ### Events -/
structure R5 where
  n : Nat
  cap : Nat
  f : Nat → Nat → Int
def R5.same (r s : R5) (e : Nat) : Prop := r.f 0 e = s.f 0 e ∧ r.f 1 e = s.f 1 e ∧ r.f 2 e = s.f 2 e ∧ r.f 3 e = s.f 3 e ∧ r.f 4 e = s.f 4 e
def R5.eq (r s : R5) : Prop := r.n = s.n ∧ ∀ e, e < r.n → r.same s e
noncomputable section
open Classical in
def R5.eqB (r s : R5) : Bool := decide (r.eq s)
def cols5 (f : Nat → Nat → Int) : List Col := [.ci .i64 fun _ e => f 0 e, .ci .i64 fun _ e => f 1 e, .ci .i64 fun _ e => f 2 e, .ci .i64 fun _ e => f 3 e, .ci .i64 fun _ e => f 4 e]
def R5.arg (r : R5) (k : Nat) : SV := .c (slK k 5 r.n r.cap)
def R5.blk (r : R5) : Blk := .view 1 (fun _ => r.n) (cols5 r.f)
def eq5I (r s : R5) (x : Int) : Prop := 0 ≤ x ∧ x ≤ r.n ∧ ∀ e : Nat, (e : Int) < x → r.same s e
def verEq5 (r s : R5) : V := verF P con0 3 3 31 [] (.loop Int [] (fun _ => some (cntL 5 (eq5I r s) r.n)) .nil .nil) [r.arg 0, s.arg 1] ⟨[(0, r.blk), (1, s.blk)], 2, fun _ => True⟩
  (finV (X := Unit) 2 2 (fun _ _ => some ()) (fun _ _ => []) (fun _ => True) (fun _ => .c (.bv (r.eqB s))) (fun _ => []))
def verCl5 (r : R5) : V := verF P con0 3 3 78 [(1000000, .nilTmpO 2 61 5 (cols5 r.f))] .nil [r.arg 0] ⟨[(0, r.blk)], 1, fun _ => True⟩
  (finV 1 2 (fun s H => capOf (keyC s) H.h) (fun s H => [keyC s]) (fun c => r.n ≤ c) (fun c => .c (slK 1 5 r.n c)) (fun c => [(1, .row 61 c r.n (cols5 r.f))]))
def row5 (H : HL) (k n cap : Nat) : Option R5 := match find k H with
  | some b => match Ck.colsOf b with
    | [.ci _ f0, .ci _ f1, .ci _ f2, .ci _ f3, .ci _ f4] => some ⟨n, cap, fun i e => match i with | 0 => f0 0 e | 1 => f1 0 e | 2 => f2 0 e | 3 => f3 0 e | _ => f4 0 e⟩
    | _ => none
  | none => none
def conEq5 : List SV → Hp → Out (SV × Hp) := fun args H => match args with
  | [.c (.slc k _ _ _ n cap), .c (.slc k' _ _ _ n' cap')] => fN k fun k => fN k' fun k' => match row5 H.h k n.v cap.v, row5 H.h k' n'.v cap'.v with
    | some r, some s => useP [k, k'] 2 [r.arg 0, s.arg 1] [(0, r.blk), (1, s.blk)] (.need (r.n ≤ 1000000) (.leaf (.c (.bv (r.eqB s)), ⟨[], 2, fun _ => True⟩))) args H
    | _, _ => .bad 430
  | _ => .bad 431
def conCl5 : List SV → Hp → Out (SV × Hp) := fun args H => match args with
  | [.c (.slc k _ _ _ n cap)] => fN k fun k => match row5 H.h k n.v cap.v with
    | some r => useP [k] 1 [r.arg 0] [(0, r.blk)] (.need (r.n ≤ 1000000) (.any Nat (fun c => r.n ≤ c) fun c => .leaf (.c (slK 1 5 r.n c), ⟨[(1, .row 61 c r.n (cols5 r.f))], 2, fun _ => True⟩))) args H
    | none => .bad 430
  | _ => .bad 431
end
end Go.Proofs.Ytjpnpaboahbncaa.Vc

/- Events: the conditions, printed by program. -/
set_option linter.unusedVariables false
set_option maxRecDepth 100000
namespace Go.Proofs.Ytjpnpaboahbncaa.Vc
open Go Go.RowKit Sx Cn Dc Ck

theorem verEq5_eq (r s : R5) : verEq5 r s =
  V.br ((↑r.n : Int) != (↑s.n : Int))
    (V.need True
    (V.need (false = r.eqB s) V.ok))
    (V.need (Int.ofNat 0 ≤ Int.ofNat 0 ∧ Int.ofNat 0 ≤ (↑r.n : Int) ∧ ∀ (e : Nat), (↑e : Int) < Int.ofNat 0 → r.same s e)
    (V.need (Int.ofNat 0 = Int.ofNat 0)
    (V.any Int (eq5I r s) fun (x : Int) => V.br (decide (x < (↑r.n : Int)))
    (V.need (Int.ofNat 0 ≤ x ∧ x < (↑r.n : Int))
    (V.need (0 < 1 ∧ 0 + x.toNat < r.n)
    (V.need (0 < 1 ∧ 0 + x.toNat < r.n)
    (V.need (0 < 1 ∧ 0 + x.toNat < r.n)
    (V.need (0 < 1 ∧ 0 + x.toNat < r.n)
    (V.need (0 < 1 ∧ 0 + x.toNat < r.n)
    (V.need (0 < 1 ∧ 0 + x.toNat < r.n)
    (V.need (Int.ofNat 0 ≤ x ∧ x < (↑s.n : Int))
    (V.need (0 < 1 ∧ 0 + x.toNat < s.n)
    (V.need (0 < 1 ∧ 0 + x.toNat < s.n)
    (V.need (0 < 1 ∧ 0 + x.toNat < s.n)
    (V.need (0 < 1 ∧ 0 + x.toNat < s.n)
    (V.need (0 < 1 ∧ 0 + x.toNat < s.n)
    (V.need (0 < 1 ∧ 0 + x.toNat < s.n)
    (V.br (!(r.f 0 (0 + x.toNat) == s.f 0 (0 + x.toNat) && (r.f 1 (0 + x.toNat) == s.f 1 (0 + x.toNat) && (r.f 2 (0 + x.toNat) == s.f 2 (0 + x.toNat) && (r.f 3 (0 + x.toNat) == s.f 3 (0 + x.toNat) && (r.f 4 (0 + x.toNat) == s.f 4 (0 + x.toNat) && true))))))
    (V.need True
    (V.need (false = r.eqB s) V.ok))
    (V.need (Int.ofNat 0 ≤ IntKind.i64.wrap (x + Int.ofNat 1) ∧ IntKind.i64.wrap (x + Int.ofNat 1) ≤ (↑r.n : Int) ∧ ∀ (e : Nat), (↑e : Int) < IntKind.i64.wrap (x + Int.ofNat 1) → r.same s e)
    (V.need (r.n - (IntKind.i64.wrap (x + Int.ofNat 1)).toNat < r.n - x.toNat)
    (V.need (IntKind.i64.wrap (x + Int.ofNat 1) = IntKind.i64.wrap (x + Int.ofNat 1)) V.ok))))))))))))))))))
    (V.need True
    (V.need (true = r.eqB s) V.ok))))) := by kernel_rfl

theorem verCl5_eq (r : R5) : verCl5 r =
  V.need (∃ (x : Bool), x = true → ¬(0 < 1 ∧ 0 < r.n))
    (V.any Bool (fun (b : Bool) => b = true → ¬(0 < 1 ∧ 0 < r.n)) fun (x : Bool) => V.br x
    (V.need (r.n ≤ 0)
    (V.need (0 = r.n)
    (V.need (0 = 0)
    (V.need (0 = 0)
    (V.need (r.n ≤ 0)
    (V.need (∀ (e : Nat), e < r.n → r.f 0 e = r.f 0 e)
    (V.need (∀ (e : Nat), e < r.n → r.f 1 e = r.f 1 e)
    (V.need (∀ (e : Nat), e < r.n → r.f 2 e = r.f 2 e)
    (V.need (∀ (e : Nat), e < r.n → r.f 3 e = r.f 3 e)
    (V.need (∀ (e : Nat), e < r.n → r.f 4 e = r.f 4 e) V.ok))))))))))
    (V.need (0 + r.n ≤ r.n)
    (V.need (0 = 0)
    (V.need (0 + r.n ≤ 9223372036854775807 ∧ (0 + r.n) * 40 ≤ 140737488355328)
    (V.any Nat (fun (x : Nat) => 0 + r.n ≤ x) fun (x : Nat) => V.need (r.n ≤ x)
    (V.need (0 + r.n = r.n)
    (V.need (x = x)
    (V.need (x = x)
    (V.need (r.n ≤ 0 + r.n)
    (V.need (∀ (e : Nat), e < r.n → r.f 0 (0 + e) = r.f 0 e)
    (V.need (∀ (e : Nat), e < r.n → r.f 1 (0 + e) = r.f 1 e)
    (V.need (∀ (e : Nat), e < r.n → r.f 2 (0 + e) = r.f 2 e)
    (V.need (∀ (e : Nat), e < r.n → r.f 3 (0 + e) = r.f 3 e)
    (V.need (∀ (e : Nat), e < r.n → r.f 4 (0 + e) = r.f 4 e) V.ok)))))))))))))) := by kernel_rfl


end Go.Proofs.Ytjpnpaboahbncaa.Vc

/- Events compared and cloned: the contracts; MachineEmits: what is said of its loop, the law. -/
set_option linter.unusedVariables false
set_option linter.unusedSimpArgs false
set_option maxRecDepth 100000
namespace Go.Proofs.Ytjpnpaboahbncaa.Vc
open Go Go.RowKit Sx Cn Dc Ck
section
variable {r s : R5}
open Classical in
theorem e5_f (h : ¬ r.eq s) : false = r.eqB s := by unfold R5.eqB; exact (decide_eq_false h).symm
open Classical in
theorem e5_t (h : r.eq s) : true = r.eqB s := by unfold R5.eqB; exact (decide_eq_true h).symm
theorem e5_len (h : ¬ (r.n : Int) = s.n) : false = r.eqB s := e5_f fun g => h (by rw [g.1])
theorem e5_at {x : Int} (hx : eq5I r s x) (hlt : x < r.n) (h : r.f 0 x.toNat = s.f 0 x.toNat → r.f 1 x.toNat = s.f 1 x.toNat → r.f 2 x.toNat = s.f 2 x.toNat → r.f 3 x.toNat = s.f 3 x.toNat → ¬ r.f 4 x.toNat = s.f 4 x.toNat) : false = r.eqB s :=
  e5_f fun g => by have := g.2 x.toNat (by have := hx.1; omega); exact h this.1 this.2.1 this.2.2.1 this.2.2.2.1 this.2.2.2.2
theorem e5_end {x : Int} (hn : (r.n : Int) = s.n) (hx : eq5I r s x) (h : ¬ x < r.n) : true = r.eqB s := e5_t ⟨by omega, fun e he => hx.2.2 e (by omega)⟩
theorem e5_next {x : Int} (hr : r.n ≤ 1000000) (hx : eq5I r s x) (hlt : x < r.n) (h : r.same s x.toNat) (e : Nat) (he : (e : Int) < IntKind.i64.wrap (x + 1)) : r.same s e := by
  have := hx.1
  rw [w64 (by omega)] at he
  by_cases g : (e : Int) < x
  · exact hx.2.2 e g
  · obtain rfl : e = x.toNat := by omega
    exact h
theorem e5_pos {x : Int} (h : eq5I r s x) : 0 ≤ x := h.1
end
theorem vhEq5 {r s : R5} (hr : r.n ≤ 1000000) : VHolds (verEq5 r s) := by
  constructor
  rw [verEq5_eq]
  simp only [V.holds, Int.ofNat_eq_natCast, decide_eq_true_eq, decide_eq_false_iff_not, Bool.not_eq_true', Bool.not_eq_false', bne_iff_ne, bne_eq_false_iff_eq, beq_iff_eq, beq_eq_false_iff_ne, ne_eq, true_and, and_true, forall_const, true_implies, implies_true, Nat.zero_add, Nat.sub_zero, Nat.lt_add_one, Nat.zero_lt_one, Int.natCast_zero, Int.natCast_one, Int.cast_ofNat_Int, gt_iff_lt, and_self, eq_self, Nat.le_refl, if_true, Bool.and_true, Bool.and_eq_true, Bool.and_eq_false_imp]
  repeat' first | exact True.intro | with_reducible apply And.intro | intro _
  all_goals try (have h0 := e5_pos (by assumption))
  all_goals first
    | omega
    | (rw [w1 hr h0 (by assumption)]; omega)
    | exact e5_len (by assumption)
    | exact e5_at (by assumption) (by assumption) (by assumption)
    | exact e5_end (by assumption) (by assumption) (by assumption)
    | exact e5_next hr (by assumption) (by assumption) (by assumption) _ (by assumption)
theorem vhCl5 {r : R5} (h : r.n ≤ 1000000) : VHolds (verCl5 r) := by
  constructor
  rw [verCl5_eq]
  simp only [V.holds, Int.ofNat_eq_natCast, decide_eq_true_eq, decide_eq_false_iff_not, Bool.not_eq_true', Bool.not_eq_false', bne_iff_ne, bne_eq_false_iff_eq, beq_iff_eq, beq_eq_false_iff_ne, ne_eq, true_and, and_true, forall_const, true_implies, implies_true, Nat.zero_add, Nat.sub_zero, Nat.lt_add_one, Nat.zero_lt_one, Int.natCast_zero, Int.natCast_one, Int.cast_ofNat_Int, gt_iff_lt, and_self, eq_self, Nat.le_refl, if_true]
  repeat' first | exact True.intro | with_reducible apply And.intro | intro _
  all_goals first
    | omega
    | exact ⟨false, by simp⟩
    | (simp_all <;> omega)
theorem conEq5_ok : ContractOK P 31 conEq5 := contract_of_useP fun args H => by
  unfold conEq5
  simp only [fN_eq]
  repeat' split
  all_goals first
    | exact .inl ⟨_, rfl⟩
    | exact .inr ⟨_, _, _, _, _, rfl, local_of_ver0 ConOK.nil fun h => vhEq5 h⟩
theorem conCl5_ok : ContractOK P 78 conCl5 := contract_of_useP fun args H => by
  unfold conCl5
  simp only [fN_eq]
  repeat' split
  all_goals first
    | exact .inl ⟨_, rfl⟩
    | exact .inr ⟨_, _, _, _, _, rfl, local_of_ver ConOK.nil fun h => vhCl5 h⟩
noncomputable section
def verAwake8 : V := verF P con0 6 10 19 [] .nil [] ⟨[], 0, fun _ => True⟩ ((PS.one 0 (fun _ _ => []) (.c (.kb true)) []).fin 0)
end
end Go.Proofs.Ytjpnpaboahbncaa.Vc

/- MachineEmits: the conditions, printed by program. -/
set_option linter.unusedVariables false
set_option maxRecDepth 100000
namespace Go.Proofs.Ytjpnpaboahbncaa.Vc
open Go Go.RowKit Sx Cn Dc Ck

theorem verAwake8_eq  : verAwake8 =
  V.need (0 < 1 ∧ 0 < 1)
    (V.need (0 < 1 ∧ 0 < 1)
    (V.need (0 < 1 ∧ 0 < 1)
    (V.need (0 < 1 ∧ 0 < 1)
    (V.need (0 < 1 ∧ 0 < 1)
    (V.need (0 < 1 ∧ 0 < 1)
    (V.need (0 < 1)
    (V.need (0 < 1)
    (V.need (0 < 1 ∧ 0 < 1)
    (V.need (0 < 1 ∧ 0 < 1)
    (V.need (0 < 1 ∧ 0 < 1)
    (V.need (0 < 1 ∧ 0 < 1)
    (V.need (0 < 1 ∧ 0 < 1)
    (V.need (0 < 1)
    (V.need (0 < 1)
    (V.need (0 < 1)
    (V.need (0 < 1 ∧ 0 < 1)
    (V.need (0 < 1 ∧ 0 < 1)
    (V.need (0 < 1 ∧ 0 < 1)
    (V.need (0 < 1 ∧ 0 < 1)
    (V.need (0 < 1 ∧ 0 < 1)
    (V.need (0 < 1 ∧ 0 < 1)
    (V.need (0 < 1)
    (V.need (0 < 1)
    (V.need (0 < 1 ∧ 0 < 1)
    (V.need (0 < 1 ∧ 0 < 1)
    (V.need (0 < 1 ∧ 0 < 1)
    (V.need (0 < 1 ∧ 0 < 1)
    (V.need (0 < 1 ∧ 0 < 1)
    (V.need (0 < 1)
    (V.need (0 < 1)
    (V.need (0 < 1)
    (V.need (0 < 1 ∧ 0 < 1)
    (V.need (0 < 1 ∧ 0 < 1)
    (V.need (0 < 1 ∧ 0 < 1)
    (V.need (0 < 1 ∧ 0 < 1)
    (V.need (0 < 1 ∧ 0 < 1)
    (V.need (0 < 1 ∧ 0 < 1)
    (V.need (0 < 1)
    (V.need (0 < 1)
    (V.need (0 < 1 ∧ 0 < 1)
    (V.need (0 < 1 ∧ 0 < 1)
    (V.need (0 < 1 ∧ 0 < 1)
    (V.need (0 < 1 ∧ 0 < 1)
    (V.need (0 < 1 ∧ 0 < 1)
    (V.need (0 < 1)
    (V.need (0 < 1)
    (V.need (0 < 1)
    (V.need (0 < 1 ∧ 0 < 1)
    (V.need (0 < 1 ∧ 0 < 1)
    (V.need (0 < 1 ∧ 0 < 1)
    (V.need (0 < 1 ∧ 0 < 1)
    (V.need (0 < 1 ∧ 0 < 1)
    (V.need (0 < 1 ∧ 0 < 1)
    (V.need (0 < 1)
    (V.need (0 < 1)
    (V.need (0 < 1 ∧ 0 < 1)
    (V.need (0 < 1 ∧ 0 < 1)
    (V.need (0 < 1 ∧ 0 < 1)
    (V.need (0 < 1 ∧ 0 < 1)
    (V.need (0 < 1 ∧ 0 < 1)
    (V.need (0 < 1)
    (V.need (0 < 1)
    (V.need (0 < 1)
    (V.need (0 < 1 ∧ 0 < 1)
    (V.need (0 < 1 ∧ 0 < 1)
    (V.need (0 < 1 ∧ 0 < 1)
    (V.need (0 < 1 ∧ 0 < 1)
    (V.need (0 < 1 ∧ 0 < 1)
    (V.need (0 < 1 ∧ 0 < 1)
    (V.need (0 < 1)
    (V.need (0 < 1)
    (V.need (0 < 1 ∧ 0 < 1)
    (V.need (0 < 1 ∧ 0 < 1)
    (V.need (0 < 1 ∧ 0 < 1)
    (V.need (0 < 1 ∧ 0 < 1)
    (V.need (0 < 1 ∧ 0 < 1)
    (V.need (0 < 1)
    (V.need (0 < 1)
    (V.need (0 < 1)
    (V.need (0 < 1)
    (V.need (0 < 1)
    (V.need True
    (V.need ((true : Bool) = true) V.ok))))))))))))))))))))))))))))))))))))))))))))))))))))))))))))))))))))))))))))))))))) := by kernel_rfl


end Go.Proofs.Ytjpnpaboahbncaa.Vc

/- MachineEmits: the law. -/
set_option linter.unusedVariables false
set_option linter.unusedSimpArgs false
set_option maxRecDepth 100000
namespace Go.Proofs.Ytjpnpaboahbncaa.Vc
open Go Go.RowKit Sx Cn Dc Ck
theorem vhAwake8 (h : True) : VHolds verAwake8 := by
  constructor
  rw [verAwake8_eq]
  simp only [V.holds, Int.ofNat_eq_natCast, decide_eq_true_eq, decide_eq_false_iff_not, Bool.not_eq_true', Bool.not_eq_false', bne_iff_ne, bne_eq_false_iff_eq, beq_iff_eq, beq_eq_false_iff_ne, ne_eq, true_and, and_true, forall_const, true_implies, implies_true, Nat.zero_add, Nat.sub_zero, Nat.lt_add_one, Nat.zero_lt_one, Int.natCast_zero, Int.natCast_one, Int.cast_ofNat_Int, gt_iff_lt, and_self, eq_self, Nat.le_refl, if_true]
  repeat' first | exact True.intro | with_reducible apply And.intro | intro _
  all_goals first
    | contradiction
    | omega
    | decide
    | rfl
noncomputable section
def conAwake8 : List SV → Hp → Out (SV × Hp) := fun args H => match args with
  | [] => useP [] 0 [] [] (.need True (PS.one 0 (fun _ _ => []) (.c (.kb true)) []).out) args H
  | _ => .bad 422
theorem conAwake8_ok : ContractOK P 19 conAwake8 := contract_of_useP fun args H => by
  unfold conAwake8
  split
  · exact .inr ⟨_, _, _, _, _, rfl, local_of_ps ConOK.nil vhAwake8⟩
  · exact .inl ⟨_, rfl⟩
def conM1 : Con := Con.add 19 conAwake8 (Con.add 31 conEq5 (Con.add 78 conCl5 con0))
theorem conM1_ok : ConOK P conM1 := .add conAwake8_ok (.add conEq5_ok (.add conCl5_ok ConOK.nil))
/-- The environment's events. -/
def ek (s : St) : Nat := cellK (tkey 3 s) 25 s.H.h
def fE (f : Nat → Nat → Int) (n : Nat) (s : St) : Option (LA (Int × Nat)) := match find (tkey 3 s) s.H.h with
  | some (.own t size cs) => some ⟨[(tkey 3, true), (ek, false)], fun x => [.own t size (cs.set 25 (some (slK (ek s) 5 x.1.toNat x.2))), .row 61 x.2 x.1.toNat (cols5 f)], [4], fun x => [iv x.1],
    fun s => match intT 4 s, capOf (ek s) s.H.h with | some i, some c => some (i, c) | _, _ => none, fun x => 0 ≤ x.1 ∧ x.1 ≤ n ∧ x.1.toNat ≤ x.2, fun x => n - x.1.toNat⟩
  | _ => none
def verEmits (r : R5) : V := verF P conM1 3 6 7 [] (.loop _ [.nilCell (tkey 3) 25 61 5 fun _ => cols5 r.f] (fE r.f r.n) .nil .nil) [r.arg 0] ⟨[(0, r.blk)], 1, fun _ => True⟩ yesV
end
end Go.Proofs.Ytjpnpaboahbncaa.Vc

/- MachineEmits: the conditions, printed by program. -/
set_option linter.unusedVariables false
set_option maxRecDepth 100000
namespace Go.Proofs.Ytjpnpaboahbncaa.Vc
open Go Go.RowKit Sx Cn Dc Ck

theorem verEmits_eq (r : R5) : verEmits r =
  V.br (decide ((↑r.n : Int) > Int.ofNat 400)) V.ok
    (V.need True
    (V.need (Int.ofNat 0 ≤ Int.ofNat 0 ∧ Int.ofNat 0 ≤ (↑r.n : Int) ∧ 0 ≤ 0)
    (V.need (Int.ofNat 0 = Int.ofNat 0)
    (V.need (0 = 0)
    (V.need (0 = 0)
    (V.need (0 = 0)
    (V.need (0 ≤ 0)
    (V.need (∀ (e : Nat), e < 0 → r.f 0 e = r.f 0 e)
    (V.need (∀ (e : Nat), e < 0 → r.f 1 e = r.f 1 e)
    (V.need (∀ (e : Nat), e < 0 → r.f 2 e = r.f 2 e)
    (V.need (∀ (e : Nat), e < 0 → r.f 3 e = r.f 3 e)
    (V.need (∀ (e : Nat), e < 0 → r.f 4 e = r.f 4 e)
    (V.any (Int × Nat) (fun (x : Int × Nat) => Int.ofNat 0 ≤ x.fst ∧ x.fst ≤ (↑r.n : Int) ∧ x.fst.toNat ≤ x.snd) fun (x : Int × Nat) => V.br (decide (x.fst < (↑r.n : Int)))
    (V.need (Int.ofNat 0 ≤ x.fst ∧ x.fst < (↑r.n : Int))
    (V.need (0 < 1 ∧ 0 + x.fst.toNat < r.n)
    (V.need (0 < 1 ∧ 0 + x.fst.toNat < r.n)
    (V.need (0 < 1 ∧ 0 + x.fst.toNat < r.n)
    (V.need (0 < 1 ∧ 0 + x.fst.toNat < r.n)
    (V.need (0 < 1 ∧ 0 + x.fst.toNat < r.n)
    (V.need (0 < 1 ∧ 0 + x.fst.toNat < r.n)
    (V.need (0 < 1 ∧ 0 < 1)
    (V.need (0 < 1 ∧ 0 < 1)
    (V.need (0 < 1 ∧ 0 < 1)
    (V.need (0 < 1 ∧ 0 < 1)
    (V.need (0 < 1 ∧ 0 < 1)
    (V.need (0 < 1 ∧ 0 < 1)
    (V.need (0 < 1 ∧ 0 < 1)
    (V.need (0 < 1 ∧ 0 < 1)
    (V.need (0 < 1 ∧ 0 < 1)
    (V.need (0 < 1 ∧ 0 < 1)
    (V.need (0 < 1 ∧ 0 < 1)
    (V.need (0 < 1 ∧ 0 < 1)
    (V.need (0 < 1 ∧ 0 < 1)
    (V.need (x.fst.toNat ≤ x.fst.toNat ∧ x.snd = x.snd)
    (V.need (x.fst.toNat + 1 ≤ 9223372036854775807 ∧ (x.fst.toNat + 1) * 40 ≤ 140737488355328)
    (V.any Nat (fun (x_1 : Nat) => x.fst.toNat + 1 ≤ x_1) fun (x_1 : Nat) => V.need (0 < 1 ∧ 0 < 1)
    (V.need (0 < 1 ∧ 0 < 1)
    (V.need (Int.ofNat 0 ≤ IntKind.i64.wrap (x.fst + Int.ofNat 1) ∧ IntKind.i64.wrap (x.fst + Int.ofNat 1) ≤ (↑r.n : Int) ∧ (IntKind.i64.wrap (x.fst + Int.ofNat 1)).toNat ≤ x_1)
    (V.need (r.n - (IntKind.i64.wrap (x.fst + Int.ofNat 1)).toNat < r.n - x.fst.toNat)
    (V.need (IntKind.i64.wrap (x.fst + Int.ofNat 1) = IntKind.i64.wrap (x.fst + Int.ofNat 1))
    (V.need (x.fst.toNat + 1 = (IntKind.i64.wrap (x.fst + Int.ofNat 1)).toNat)
    (V.need (x_1 = x_1)
    (V.need (x_1 = x_1)
    (V.need ((IntKind.i64.wrap (x.fst + Int.ofNat 1)).toNat ≤ x.fst.toNat + 1)
    (V.need (∀ (e : Nat), e < (IntKind.i64.wrap (x.fst + Int.ofNat 1)).toNat → (if 0 = 0 ∧ e = x.fst.toNat then r.f 0 (0 + x.fst.toNat) else r.f 0 e) = r.f 0 e)
    (V.need (∀ (e : Nat), e < (IntKind.i64.wrap (x.fst + Int.ofNat 1)).toNat → (if 0 = 0 ∧ e = x.fst.toNat then r.f 1 (0 + x.fst.toNat) else r.f 1 e) = r.f 1 e)
    (V.need (∀ (e : Nat), e < (IntKind.i64.wrap (x.fst + Int.ofNat 1)).toNat → (if 0 = 0 ∧ e = x.fst.toNat then r.f 2 (0 + x.fst.toNat) else r.f 2 e) = r.f 2 e)
    (V.need (∀ (e : Nat), e < (IntKind.i64.wrap (x.fst + Int.ofNat 1)).toNat → (if 0 = 0 ∧ e = x.fst.toNat then r.f 3 (0 + x.fst.toNat) else r.f 3 e) = r.f 3 e)
    (V.need (∀ (e : Nat), e < (IntKind.i64.wrap (x.fst + Int.ofNat 1)).toNat → (if 0 = 0 ∧ e = x.fst.toNat then r.f 4 (0 + x.fst.toNat) else r.f 4 e) = r.f 4 e) V.ok))))))))))))))))))))))))))))))))))))
    (V.need (0 < 1 ∧ 0 < 1)
    (V.need (0 < 1 ∧ 0 < 1)
    (V.need (0 < 1 ∧ 0 < 1)
    (V.need (0 < 1 ∧ 0 < 1)
    (V.need (0 < 1 ∧ 0 < 1)
    (V.need (0 < 1 ∧ 0 < 1)
    (V.need (0 < 1 ∧ 0 < 1)
    (V.need (0 < 1 ∧ 0 < 1)
    (V.need (0 < 1 ∧ 0 < 1)
    (V.need (0 < 1 ∧ 0 < 1)
    (V.need (0 < 1 ∧ 0 < 1)
    (V.need (0 < 1 ∧ 0 < 1)
    (V.need (0 < 1 ∧ 0 < 1)
    (V.need (0 < 1 ∧ 0 < 1)
    (V.need (0 < 1 ∧ 0 < 1)
    (V.need (0 < 1 ∧ 0 < 1)
    (V.need (0 < 1 ∧ 0 < 1)
    (V.need (0 < 1 ∧ 0 < 1)
    (V.need (0 < 1 ∧ 0 < 1)
    (V.need (0 < 1 ∧ 0 < 1)
    (V.need (0 < 1 ∧ 0 < 1)
    (V.need (0 < 1 ∧ 0 < 1)
    (V.need (0 < 1 ∧ 0 < 1)
    (V.need (0 < 1 ∧ 0 < 1)
    (V.need (0 < 1 ∧ 0 < 1)
    (V.need (0 < 1 ∧ 0 < 1)
    (V.need (0 < 1 ∧ 0 < 1)
    (V.need (0 < 1 ∧ 0 < 1)
    (V.need (0 < 1 ∧ 0 < 1)
    (V.need (∃ (x : Bool), x = true → ¬0 < 0)
    (V.any Bool (fun (b : Bool) => b = true → ¬0 < 0) fun (x_1 : Bool) => V.br x_1
    (V.need (0 < 1 ∧ 0 < 1)
    (V.need (0 < 1 ∧ 0 < 1)
    (V.need (0 < 1 ∧ 0 < 1)
    (V.need (0 < 1 ∧ 0 < 1)
    (V.need (0 < 1 ∧ 0 < 1)
    (V.need (0 < 1 ∧ 0 < 1)
    (V.need (0 < 1 ∧ 0 < 1)
    (V.need (0 < 1 ∧ 0 < 1)
    (V.need (0 < 1 ∧ 0 < 1)
    (V.need (x.fst.toNat = x.fst.toNat)
    (V.need (x.snd = x.snd)
    (V.need (1 ≤ 1)
    (V.need (∀ (i : Nat), i < 1 → x.fst.toNat ≤ x.fst.toNat)
    (V.need (∀ (i e : Nat), i < 1 ∧ e < x.fst.toNat → r.f 0 e = r.f 0 e)
    (V.need (∀ (i e : Nat), i < 1 ∧ e < x.fst.toNat → r.f 1 e = r.f 1 e)
    (V.need (∀ (i e : Nat), i < 1 ∧ e < x.fst.toNat → r.f 2 e = r.f 2 e)
    (V.need (∀ (i e : Nat), i < 1 ∧ e < x.fst.toNat → r.f 3 e = r.f 3 e)
    (V.need (∀ (i e : Nat), i < 1 ∧ e < x.fst.toNat → r.f 4 e = r.f 4 e)
    (V.need (x.fst.toNat ≤ 1000000)
    (V.need (∃ (x_2 : Nat), x.fst.toNat ≤ x_2)
    (V.any Nat (fun (c : Nat) => x.fst.toNat ≤ c) fun (x_2 : Nat) => V.need (x.fst.toNat = x.fst.toNat)
    (V.need (x.snd = x.snd)
    (V.need (r.n = r.n)
    (V.need (r.cap = r.cap)
    (V.need (1 ≤ 1)
    (V.need (x.fst.toNat ≤ x.fst.toNat ∧ x.fst.toNat ≤ x.snd)
    (V.need (∀ (i e : Nat), i = 0 ∧ e < x.fst.toNat → r.f 0 e = r.f 0 e)
    (V.need (∀ (i e : Nat), i = 0 ∧ e < x.fst.toNat → r.f 1 e = r.f 1 e)
    (V.need (∀ (i e : Nat), i = 0 ∧ e < x.fst.toNat → r.f 2 e = r.f 2 e)
    (V.need (∀ (i e : Nat), i = 0 ∧ e < x.fst.toNat → r.f 3 e = r.f 3 e)
    (V.need (∀ (i e : Nat), i = 0 ∧ e < x.fst.toNat → r.f 4 e = r.f 4 e)
    (V.need (1 ≤ 1)
    (V.need (∀ (i : Nat), i < 1 → r.n ≤ r.n)
    (V.need (∀ (i e : Nat), i < 1 ∧ e < r.n → r.f 0 e = r.f 0 e)
    (V.need (∀ (i e : Nat), i < 1 ∧ e < r.n → r.f 1 e = r.f 1 e)
    (V.need (∀ (i e : Nat), i < 1 ∧ e < r.n → r.f 2 e = r.f 2 e)
    (V.need (∀ (i e : Nat), i < 1 ∧ e < r.n → r.f 3 e = r.f 3 e)
    (V.need (∀ (i e : Nat), i < 1 ∧ e < r.n → r.f 4 e = r.f 4 e)
    (V.need (x.fst.toNat ≤ 1000000)
    (V.br ((R5.mk x.fst.toNat x.snd fun (i e : Nat) => match i with | 0 => r.f 0 e | 1 => r.f 1 e | 2 => r.f 2 e | 3 => r.f 3 e | x => r.f 4 e).eqB (R5.mk r.n r.cap fun (i e : Nat) => match i with | 0 => r.f 0 e | 1 => r.f 1 e | 2 => r.f 2 e | 3 => r.f 3 e | x => r.f 4 e))
    (V.need (x.fst.toNat = x.fst.toNat)
    (V.need (x_2 = x_2)
    (V.need (r.n = r.n)
    (V.need (r.cap = r.cap)
    (V.need (1 ≤ 1)
    (V.need (x.fst.toNat ≤ x.fst.toNat ∧ x.fst.toNat ≤ x_2)
    (V.need (∀ (i e : Nat), i = 0 ∧ e < x.fst.toNat → r.f 0 e = r.f 0 e)
    (V.need (∀ (i e : Nat), i = 0 ∧ e < x.fst.toNat → r.f 1 e = r.f 1 e)
    (V.need (∀ (i e : Nat), i = 0 ∧ e < x.fst.toNat → r.f 2 e = r.f 2 e)
    (V.need (∀ (i e : Nat), i = 0 ∧ e < x.fst.toNat → r.f 3 e = r.f 3 e)
    (V.need (∀ (i e : Nat), i = 0 ∧ e < x.fst.toNat → r.f 4 e = r.f 4 e)
    (V.need (1 ≤ 1)
    (V.need (∀ (i : Nat), i < 1 → r.n ≤ r.n)
    (V.need (∀ (i e : Nat), i < 1 ∧ e < r.n → r.f 0 e = r.f 0 e)
    (V.need (∀ (i e : Nat), i < 1 ∧ e < r.n → r.f 1 e = r.f 1 e)
    (V.need (∀ (i e : Nat), i < 1 ∧ e < r.n → r.f 2 e = r.f 2 e)
    (V.need (∀ (i e : Nat), i < 1 ∧ e < r.n → r.f 3 e = r.f 3 e)
    (V.need (∀ (i e : Nat), i < 1 ∧ e < r.n → r.f 4 e = r.f 4 e)
    (V.need (x.fst.toNat ≤ 1000000)
    (V.need ((R5.mk x.fst.toNat x_2 fun (i e : Nat) => match i with | 0 => r.f 0 e | 1 => r.f 1 e | 2 => r.f 2 e | 3 => r.f 3 e | x => r.f 4 e).eqB (R5.mk r.n r.cap fun (i e : Nat) => match i with | 0 => r.f 0 e | 1 => r.f 1 e | 2 => r.f 2 e | 3 => r.f 3 e | x => r.f 4 e) = true) V.ok))))))))))))))))))))
    (V.bad 420)))))))))))))))))))))))))))))))))))))))))
    (V.need (0 = 0)
    (V.need (0 + 0 ≤ 9223372036854775807 ∧ (0 + 0) * 8 ≤ 140737488355328)
    (V.any Nat (fun (x : Nat) => 0 + 0 ≤ x) fun (x_2 : Nat) => V.need (0 < 1 ∧ 0 < 1)
    (V.need (0 < 1 ∧ 0 < 1)
    (V.need (0 < 1 ∧ 0 < 1)
    (V.need (0 < 1 ∧ 0 < 1)
    (V.need (0 < 1 ∧ 0 < 1)
    (V.need (0 < 1 ∧ 0 < 1)
    (V.need (0 < 1 ∧ 0 < 1)
    (V.need (0 < 1 ∧ 0 < 1)
    (V.need (0 < 1 ∧ 0 < 1)
    (V.need (x.fst.toNat = x.fst.toNat)
    (V.need (x.snd = x.snd)
    (V.need (1 ≤ 1)
    (V.need (∀ (i : Nat), i < 1 → x.fst.toNat ≤ x.fst.toNat)
    (V.need (∀ (i e : Nat), i < 1 ∧ e < x.fst.toNat → r.f 0 e = r.f 0 e)
    (V.need (∀ (i e : Nat), i < 1 ∧ e < x.fst.toNat → r.f 1 e = r.f 1 e)
    (V.need (∀ (i e : Nat), i < 1 ∧ e < x.fst.toNat → r.f 2 e = r.f 2 e)
    (V.need (∀ (i e : Nat), i < 1 ∧ e < x.fst.toNat → r.f 3 e = r.f 3 e)
    (V.need (∀ (i e : Nat), i < 1 ∧ e < x.fst.toNat → r.f 4 e = r.f 4 e)
    (V.need (x.fst.toNat ≤ 1000000)
    (V.need (∃ (x_3 : Nat), x.fst.toNat ≤ x_3)
    (V.any Nat (fun (c : Nat) => x.fst.toNat ≤ c) fun (x_3 : Nat) => V.need (x.fst.toNat = x.fst.toNat)
    (V.need (x.snd = x.snd)
    (V.need (r.n = r.n)
    (V.need (r.cap = r.cap)
    (V.need (1 ≤ 1)
    (V.need (x.fst.toNat ≤ x.fst.toNat ∧ x.fst.toNat ≤ x.snd)
    (V.need (∀ (i e : Nat), i = 0 ∧ e < x.fst.toNat → r.f 0 e = r.f 0 e)
    (V.need (∀ (i e : Nat), i = 0 ∧ e < x.fst.toNat → r.f 1 e = r.f 1 e)
    (V.need (∀ (i e : Nat), i = 0 ∧ e < x.fst.toNat → r.f 2 e = r.f 2 e)
    (V.need (∀ (i e : Nat), i = 0 ∧ e < x.fst.toNat → r.f 3 e = r.f 3 e)
    (V.need (∀ (i e : Nat), i = 0 ∧ e < x.fst.toNat → r.f 4 e = r.f 4 e)
    (V.need (1 ≤ 1)
    (V.need (∀ (i : Nat), i < 1 → r.n ≤ r.n)
    (V.need (∀ (i e : Nat), i < 1 ∧ e < r.n → r.f 0 e = r.f 0 e)
    (V.need (∀ (i e : Nat), i < 1 ∧ e < r.n → r.f 1 e = r.f 1 e)
    (V.need (∀ (i e : Nat), i < 1 ∧ e < r.n → r.f 2 e = r.f 2 e)
    (V.need (∀ (i e : Nat), i < 1 ∧ e < r.n → r.f 3 e = r.f 3 e)
    (V.need (∀ (i e : Nat), i < 1 ∧ e < r.n → r.f 4 e = r.f 4 e)
    (V.need (x.fst.toNat ≤ 1000000)
    (V.br ((R5.mk x.fst.toNat x.snd fun (i e : Nat) => match i with | 0 => r.f 0 e | 1 => r.f 1 e | 2 => r.f 2 e | 3 => r.f 3 e | x => r.f 4 e).eqB (R5.mk r.n r.cap fun (i e : Nat) => match i with | 0 => r.f 0 e | 1 => r.f 1 e | 2 => r.f 2 e | 3 => r.f 3 e | x => r.f 4 e))
    (V.need (x.fst.toNat = x.fst.toNat)
    (V.need (x_3 = x_3)
    (V.need (r.n = r.n)
    (V.need (r.cap = r.cap)
    (V.need (1 ≤ 1)
    (V.need (x.fst.toNat ≤ x.fst.toNat ∧ x.fst.toNat ≤ x_3)
    (V.need (∀ (i e : Nat), i = 0 ∧ e < x.fst.toNat → r.f 0 e = r.f 0 e)
    (V.need (∀ (i e : Nat), i = 0 ∧ e < x.fst.toNat → r.f 1 e = r.f 1 e)
    (V.need (∀ (i e : Nat), i = 0 ∧ e < x.fst.toNat → r.f 2 e = r.f 2 e)
    (V.need (∀ (i e : Nat), i = 0 ∧ e < x.fst.toNat → r.f 3 e = r.f 3 e)
    (V.need (∀ (i e : Nat), i = 0 ∧ e < x.fst.toNat → r.f 4 e = r.f 4 e)
    (V.need (1 ≤ 1)
    (V.need (∀ (i : Nat), i < 1 → r.n ≤ r.n)
    (V.need (∀ (i e : Nat), i < 1 ∧ e < r.n → r.f 0 e = r.f 0 e)
    (V.need (∀ (i e : Nat), i < 1 ∧ e < r.n → r.f 1 e = r.f 1 e)
    (V.need (∀ (i e : Nat), i < 1 ∧ e < r.n → r.f 2 e = r.f 2 e)
    (V.need (∀ (i e : Nat), i < 1 ∧ e < r.n → r.f 3 e = r.f 3 e)
    (V.need (∀ (i e : Nat), i < 1 ∧ e < r.n → r.f 4 e = r.f 4 e)
    (V.need (x.fst.toNat ≤ 1000000)
    (V.need ((R5.mk x.fst.toNat x_3 fun (i e : Nat) => match i with | 0 => r.f 0 e | 1 => r.f 1 e | 2 => r.f 2 e | 3 => r.f 3 e | x => r.f 4 e).eqB (R5.mk r.n r.cap fun (i e : Nat) => match i with | 0 => r.f 0 e | 1 => r.f 1 e | 2 => r.f 2 e | 3 => r.f 3 e | x => r.f 4 e) = true) V.ok))))))))))))))))))))
    (V.bad 420))))))))))))))))))))))))))))))))))))))))))))))))))))))))))))))))))))))))))))))))))))))) := by kernel_rfl


end Go.Proofs.Ytjpnpaboahbncaa.Vc

/- MachineEmits: the conditions hold; the walk. -/
set_option linter.unusedVariables false
set_option linter.unusedSimpArgs false
set_option maxRecDepth 100000
namespace Go.Proofs.Ytjpnpaboahbncaa.Vc
open Go Go.RowKit Sx Cn Dc Ck
theorem em_eq {n m c d : Nat} {f : Nat → Nat → Int} (h : n = m) : (R5.mk n c f).eqB (R5.mk m d f) = true := (e5_t (r := R5.mk n c f) (s := R5.mk m d f) ⟨h, fun e _ => ⟨rfl, rfl, rfl, rfl, rfl⟩⟩).symm
theorem em_n {x : Int} {n : Nat} (h0 : 0 ≤ x) (h1 : x ≤ n) (h : ¬ x < n) : x.toNat = n := by omega
set_option maxHeartbeats 4000000 in
theorem vhEmits (r : R5) : VHolds (verEmits r) := by
  constructor
  rw [verEmits_eq]
  simp only [V.holds, Int.ofNat_eq_natCast, decide_eq_true_eq, decide_eq_false_iff_not, Bool.not_eq_true', Bool.not_eq_false', bne_iff_ne, bne_eq_false_iff_eq, beq_iff_eq, beq_eq_false_iff_ne, ne_eq, true_and, and_true, forall_const, true_implies, implies_true, Nat.zero_add, Nat.sub_zero, Nat.lt_add_one, Nat.zero_lt_one, Int.natCast_zero, Int.natCast_one, Int.cast_ofNat_Int, gt_iff_lt, and_self, eq_self, Nat.le_refl, not_true_eq_false, false_implies]
  repeat' first | exact True.intro | with_reducible apply And.intro | intro _
  all_goals first
    | contradiction
    | omega
    | exact em_eq (em_n (by omega) (by omega) (by assumption))
    | (exfalso; rename_i h; exact Bool.noConfusion (h.symm.trans (em_eq (em_n (by omega) (by omega) (by assumption)))))
    | (rw [w64 (by omega)] at *; omega)
    | (rw [w64 (by omega)]; omega)
    | (split <;> simp_all)
    | exact ⟨false, by simp⟩
    | exact ⟨_, Nat.le_refl _⟩
theorem walkEmits (a : Option Addr) (len cap : Nat) (g : Nat → Nat → Int) (w : World) (h : IsRows 5 w a len cap g) :
    Calls P 7 #[.slice a len cap] w fun e w' => e = .returned (.bool true) ∧ Below w.heap.size w w' := by
  refine calls_yesV (vs := [.slice a len cap]) conM1_ok (ρ := fun k i => if k = 0 ∧ i = 0 then addr0 a else none) (vhEmits ⟨len, cap, g⟩) (views_inv fun k b hk => ?_) ⟨h.val (by simp) ⟨Nat.le_of_ble_eq_true rfl, trivial⟩, trivial⟩
  rw [find_cons] at hk
  split at hk
  · rename_i e; subst e
    cases hk
    exact ⟨rfl, by decide, h.sat (by decide) (by simp)⟩
  · cases hk
end Go.Proofs.Ytjpnpaboahbncaa.Vc
