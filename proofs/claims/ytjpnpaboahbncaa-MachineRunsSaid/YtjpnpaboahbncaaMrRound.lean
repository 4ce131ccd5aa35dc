/- 'MachineRuns': one round of machine.Run on a counter; the loop; the function. -/
import Derived.Test.YtjpnpaboahbncaaMrTrees
import Derived.Test.YtjpnpaboahbncaaSxAid
set_option linter.unusedVariables false
set_option linter.unusedSimpArgs false
set_option maxRecDepth 100000
namespace Go.Proofs.Ytjpnpaboahbncaa.Mr
open Go Go.RowKit Sx

theorem round_ok {i L n : Int} {len : Nat} {g : Nat → Int} (hp' : pre20 i L len g) (x : X) (hx : I20 L n x) (K : Ex × St → Prop) (hA : (A20 i L n len g).holds K) :
    (round20 i L n len g x).holds (RoundEnd (J20 i L n len g) (I20 L n) (fun x => (max 1 L - x.t).toNat) 4 K x) := by
  rw [round_tree]
  obtain ⟨h0, h1, h2⟩ := hx
  obtain ⟨p1, p2, p3, p4, p5, p6, p7⟩ := hp'
  have w1 : IntKind.i64.wrap (x.t + 1) = x.t + 1 := w64 (by omega)
  have hlen : i.toNat < len := by omega
  have gt : upG i x.t g (0 + i.toNat) = g i.toNat + x.t := by simp [upG]
  have w2 : x.t < L → IntKind.u64.wrap (upG i x.t g (0 + i.toNat) + Int.ofNat 1) = g i.toNat + x.t + 1 := fun hl => by
    rw [gt]; exact wu64 (by simp only [Int.ofNat_eq_natCast]; omega)
  have hA2 := hA.2
  have fin : ∀ (s : St) (c : Int) (e : Ex) (d : Bool), (A20 i L n len g).holds K → (fin20 i L n len g c e d).holds K → goSt s ⟨[some (.c (.ptr 0 (.k 0) (.k 0) 0 26)), some (.c (.ifc 39 3 (.k 0) (.k 0) 0 2)), some (.c (.iv .i64 n)), none, none, none, some (.c (.iv .i64 (steps L n))), match e with | .ret => some (.c (.kb d)) | _ => none, none, none, none, none, none, none, none, none, none, none],
      ⟨hp i (L - min L (steps L n)) c len (upG i (min L (steps L n)) g), 4, T1⟩⟩ → ∃ t, goSt s t ∧ stOK t = true ∧ 4 ≤ t.H.nxt ∧ K (e, t) := by
    intro s c e d _ hK hg
    refine ⟨_, hg, ?_, Nat.le_refl _, hK⟩
    cases e <;> rfl
  have up1 : x.t < L → ∀ e, (if e = i.toNat then IntKind.u64.wrap (upG i x.t g i.toNat + 1) else upG i x.t g e) = upG i (x.t + 1) g e := fun hl e => by
    by_cases h : e = i.toNat
    · rw [if_pos h]
      have := w2 hl
      simp only [Nat.zero_add, Int.ofNat_eq_natCast] at this
      simp only [h, upG, if_true] at this ⊢
      rw [show (1 : Int) = ((1 : Nat) : Int) from rfl, this]; push_cast; omega
    · rw [if_neg h]; simp [upG, h]
  have upL : upG i L g = upG i L g := rfl
  clear w2 gt
  simp only [Out.holds]
  refine ⟨fun a1 => ⟨fun a2 => ?_, fun a2 => ?_⟩, fun a1 => ?_⟩
  · have a1 := of_decide_eq_true a1
    have a2 := of_decide_eq_true a2
    have hl : x.t < L := by omega
    have w3 : IntKind.i64.wrap (L - x.t - 1) = L - (x.t + 1) := (w64 (by omega)).trans (by omega)
    iterate 6 (refine ⟨by omega, ?_⟩)
    refine ⟨fun b => absurd (of_decide_eq_true b) (by omega), fun _ => ⟨fun b => absurd (of_decide_eq_true b) (by omega), fun _ => ?_⟩⟩
    iterate 13 (refine ⟨by omega, ?_⟩)
    refine ⟨fun d => ?_, fun d => ?_⟩
    · have d' : L = x.t + 1 := by rw [w3] at d; have := eq_of_beq d; omega
      have hst : steps L n = x.t + 1 := by unfold steps; omega
      have hmin : min L (steps L n) = x.t + 1 := by rw [hst]; omega
      refine fin _ (IntKind.i64.wrap (x.c + 1)) .ret true hA ((hA2 _ trivial).1 (decide_eq_true (by omega))) ?_
      rw [hmin, hst]
      refine ⟨rfl, rfl, ?_, ?_⟩
      · simp [leTm, leSV, leSC, w1]
      · simp [leHL, hp, find_cons, leBlk, leOL, leCols, leCol, mach, leSC, w3]
        exact fun e _ => up1 hl e
    · have d' : ¬ L = x.t + 1 := by rw [w3] at d; intro h; rw [h] at d; simp at d
      refine ⟨⟨x.t + 1, IntKind.i64.wrap (x.c + 1)⟩, ⟨by show 0 ≤ x.t + 1; omega, .inr (by show x.t + 1 < L; omega), .inr (by show x.t + 1 ≤ n; omega)⟩, by show (max 1 L - (x.t + 1)).toNat < (max 1 L - x.t).toNat; omega, rfl, rfl, ?_, ?_⟩
      · simp [J20, leTm, leSV, leSC, w1]
      · simp [J20, leHL, hp, find_cons, leBlk, leOL, leCols, leCol, mach, leSC, w3]
        exact fun e _ => up1 hl e
  · have a1 := of_decide_eq_true a1
    have a2 := of_decide_eq_false a2
    have hL : L = 0 := by omega
    have hx : x.t = 0 := by omega
    have hst : steps L n = 1 := by unfold steps; omega
    have hmin : min L (steps L n) = 0 := by rw [hst]; omega
    refine ⟨fun d => ?_, fun d => ?_⟩
    · refine fin _ x.c .ret true hA ((hA2 _ trivial).1 (decide_eq_true (by omega))) ?_
      rw [hmin, hst]
      refine ⟨rfl, rfl, ?_, ?_⟩
      · simp [leTm, leSV, leSC, show IntKind.i64.wrap 1 = 1 by simpa [hx] using w1, hx]
      · simp [leHL, hp, find_cons, leBlk, leOL, leCols, leCol, mach, leSC, hx]
    · rw [hL, hx] at d; simp at d
  · have a1 := of_decide_eq_false a1
    have hst : steps L n = x.t := by unfold steps; omega
    have hmin : min L (steps L n) = x.t := by rw [hst]; omega
    refine fin _ x.c (.exit 0) false hA ((hA2 _ trivial).2 (decide_eq_false (by omega))) ?_
    rw [hmin, hst]
    refine ⟨rfl, rfl, ?_, ?_⟩
    · simp [leTm, leSV, leSC]
    · simp [leHL, hp, find_cons, leBlk, leOL, leCols, leCol, mach, leSC]

noncomputable def code20 : Code := codeOf 20
theorem fn20 : ∃ fn, P.funcs[20]? = some fn ∧ fn.body = some code20 := ⟨Try.f20, Try.func20, by kernel_rfl⟩
theorem ann20_ok {i L n c : Int} {len : Nat} {g : Nat → Int} (hp' : pre20 i L len g) (f : FuncId) (fn : Func) (code : Code) (hf : P.funcs[f]? = some fn) (hb : fn.body = some code) :
    AnnOK P code (bif Nat.beq f 20 then ann20 i L n c len g else .nil) := by
  cases hbq : Nat.beq f 20 with
  | false => exact annOK_nil P code
  | true =>
    have := Nat.eq_of_beq_eq_true hbq
    subst this
    obtain ⟨fn', h1, h2⟩ := fn20
    rw [h1] at hf; cases hf
    rw [h2] at hb; cases hb
    have hl : LoopOK P body20 (fun s => .need (I20 L n ⟨0, c⟩ ∧ leSt s (J20 i L n len g ⟨0, c⟩)) (A20 i L n len g)) :=
      loop_ok (execF_ok0 (con := noCon) (fun _ _ h => by cases h) 6) (annOK_nil P body20) (J20 i L n len g) (I20 L n) (fun x => (max 1 L - x.t).toNat) 4 (fun _ => rfl) (fun _ => rfl) (fun _ => rfl) ⟨0, c⟩ (A20 i L n len g) (fun x hx K hA => round_ok hp' x hx K hA)
    have e : AnnOK P code20 (ann20 i L n c len g) = (True ∧ (LoopOK P body20 (fun s => .need (I20 L n ⟨0, c⟩ ∧ leSt s (J20 i L n len g ⟨0, c⟩)) (A20 i L n len g)) ∧ (True ∧ True))) := by kernel_rfl
    simp only [cond_true]
    rw [e]
    exact ⟨trivial, hl, trivial, trivial⟩

theorem local20 (i L n c : Int) (len : Nat) (g : Nat → Int) : LocalOK P 20 (args20 n) (hp i L c len g) 4 (post20 i L n len g) := by
  intro φ ρ w vs K hi hv hh
  obtain ⟨hp', hh⟩ := hh
  have hc : CallOK P (execF P noCon (fun f => bif Nat.beq f 20 then ann20 i L n c len g else .nil) 3 7) := execF_ok (fun _ _ h => by cases h) (fun f fn code hf hb => ann20_ok hp' f fn code hf hb) 7
  refine (CallOK.local hc 20 (args20 n) (hp i L c len g) 4).monoV (q := .any Int (fun _ => True) fun c => .leaf (out20 i L n len g c (decide (max 1 L ≤ n)))) ?_ φ ρ w vs K hi hv hh
  intro K hh
  have e := run_tree i L n c len g
  unfold run20 at e
  change (execF P noCon (fun f => bif Nat.beq f 20 then ann20 i L n c len g else .nil) 3 7 20 (args20 n) ⟨hp i L c len g, 4, T1⟩).holds _
  rw [e]
  have hh2 := hh.2
  simp only [Out.holds] at hh2 ⊢
  refine ⟨⟨⟨Int.le_refl _, .inl rfl, .inl rfl⟩, ?_⟩, ⟨0, trivial⟩, fun c' _ => ⟨fun d => ?_, fun d => ?_⟩⟩
  · simp [upG]
  · have := hh2 c' trivial
    rw [d] at this
    refine ⟨_, ?_, this⟩
    exact ⟨⟨rfl, rfl⟩, rfl, trivial⟩
  · have := hh2 c' trivial
    rw [d] at this
    refine ⟨_, ?_, this⟩
    exact ⟨⟨rfl, rfl⟩, rfl, trivial⟩
end Go.Proofs.Ytjpnpaboahbncaa.Mr
