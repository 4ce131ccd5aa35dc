/- ProbeChooses: the law. -/
import Derived.Test.YtjpnpaboahbncaaPbTrees2
import Derived.Test.YtjpnpaboahbncaaSxFrame
set_option linter.unusedVariables false
set_option linter.unusedSimpArgs false
set_option maxRecDepth 100000
namespace Go.Proofs.Ytjpnpaboahbncaa.Pb
open Go Go.RowKit Sx Cn

theorem lits3 : preC 3 (numAt [.ki .u64 1, .ki .u64 6, .ki .u64 4]) := ⟨by decide, fun e he => by
  match e, he with
  | 0, _ => exact ⟨by decide, by decide⟩
  | 1, _ => exact ⟨by decide, by decide⟩
  | 2, _ => exact ⟨by decide, by decide⟩⟩
theorem lits2 : preC 2 (numAt [.ki .u64 1, .ki .u64 0]) := ⟨by decide, fun e he => by
  match e, he with
  | 0, _ => exact ⟨by decide, by decide⟩
  | 1, _ => exact ⟨by decide, by decide⟩⟩
theorem local24 : LocalOK P 24 [] [] 0 post24 := by
  refine (CallOK.local (execF_ok0 (P := P) (u := 3) con4_ok 3) 24 [] [] 0).monoV fun K hK => ?_
  change awake24.holds _
  rw [awake24_eq]
  have hK : K (.c (.kb true), ⟨[], 3, fun _ => True⟩) := hK
  simp only [Out.holds]
  refine ⟨by simp [numAt, asI], lits3, by simp [numAt, asI], lits3, by simp [numAt, asI], lits2, ?_⟩
  exact ⟨fun _ => ⟨fun _ => ⟨fun _ => ⟨fun _ => ⟨fun _ => ⟨.c (.kb true), rfl, hK⟩, fun h => nomatch h⟩, fun h => nomatch h⟩, fun h => nomatch h⟩, fun h => nomatch h⟩, fun h => nomatch h⟩
theorem con5_ok : ConOK P con5 := .add (contract_of_use fun args H => .inr ⟨_, _, _, _, _, rfl, local24⟩) con4_ok

theorem m8_u64 {n : Nat} {g : Nat → Int} (h : U64 n g) : U64 n (m8 g) := fun e he => by
  have := h e he
  unfold m8; omega
theorem round4_ok (n cap : Nat) (g : Nat → Int) (s1 st : Int) (x : X4) (hx : I4 n g x) (K : Ex × St → Prop) (hA : (A4 n g s1 st).holds K) :
    Holds (round4 n cap g s1 st x) (RoundEnd (J4 n cap g s1 st) (I4 n g) (fun x => n - x.i) 1 2 K x) := by
  constructor
  rw [round4_eq]
  obtain ⟨hn, hu, hin, hic⟩ := hx
  simp only [Out.holds, Int.ofNat_eq_natCast, Nat.zero_add]
  refine ⟨fun a => ?_, fun a => ?_⟩
  · have a := of_decide_eq_true a
    have hlt : x.i < n := by omega
    have e3 : IntKind.i64.wrap ((x.i : Int) + ((1 : Nat) : Int)) = ((x.i + 1 : Nat) : Int) := w64 (by omega)
    refine ⟨⟨by omega, by omega⟩, ⟨by omega, by omega⟩, ⟨by omega, by omega⟩, by decide, by omega, by simp, ⟨by omega, by omega⟩, fun c hc => ?_⟩
    refine ⟨⟨x.i + 1, c⟩, [3], ⟨hn, hu, by show x.i + 1 ≤ n; omega, hc⟩, (by show n - (x.i + 1) < n - x.i; omega), rfl, rfl, ⟨⟨⟨rfl, rfl, rfl, rfl, rfl, rfl⟩, ⟨rfl, rfl⟩, ⟨rfl, rfl⟩, ⟨rfl, rfl, rfl, rfl, rfl, rfl⟩, ⟨rfl, e3⟩, trivial⟩, ?_, ?_, trivial⟩, rfl⟩
    · exact ⟨Nat.le_refl _, fun _ _ => Nat.le_refl _, ⟨rfl, fun _ _ _ => rfl⟩, trivial⟩
    · refine ⟨rfl, rfl, Nat.le_refl _, ⟨rfl, ?_⟩, trivial⟩
      rintro i e ⟨rfl, he⟩
      show (if 0 = 0 ∧ e = x.i then (g (x.i : Int).toNat).tmod 8 else m8 g e) = m8 g e
      split
      · rename_i h
        rw [h.2, Int.toNat_natCast, Int.tmod_eq_emod_of_nonneg (hu x.i hlt).1]; rfl
      · rfl
  · have a := of_decide_eq_false a
    have hi : x.i = n := by omega
    refine ⟨F4 n g s1 st x.c, [], ⟨rfl, rfl, ⟨⟨⟨rfl, rfl⟩, ⟨rfl, rfl⟩, ⟨rfl, rfl, rfl, rfl, hi, rfl⟩, trivial⟩, ?_, trivial⟩, rfl⟩, rfl, Nat.le_refl _, hA.2 x.c (by omega)⟩
    exact ⟨rfl, rfl, by omega, ⟨rfl, fun _ _ _ => rfl⟩, trivial⟩

theorem main4_yes (n cap : Nat) (g : Nat → Int) (self st : Int) (near : Bool) (hu : U64 n g) : Yes (main4 n cap g self st near) := by
  constructor
  rw [main4_eq]
  simp only [Out.holds, Int.ofNat_eq_natCast]
  refine ⟨fun _ ρ => rfl, fun a => ⟨fun _ => ?_, fun _ => ?_⟩⟩
  · have a := of_decide_eq_false a
    have hn : n ≤ 100 := by omega
    have hm := m8_u64 hu
    have hw : IntKind.i64.wrap ((n : Int) + ((2 : Nat) : Int)) = n + 2 := w64 (by omega)
    refine ⟨by decide, by decide, by decide, by decide, by decide, by decide, by rw [hw]; omega, ⟨⟨hn, hu, Nat.zero_le _, Nat.zero_le _⟩, ?_⟩, ⟨n, Nat.le_refl _⟩, fun c hc => ?_⟩
    · simp [s1]
    · refine ⟨by simp [hc], ⟨by omega, hm⟩, by simp [hc], ⟨by omega, hm⟩, by simp, fun _ ρ => ?_, fun h => ?_⟩
      · simp [SV.den, SC.den]
      · simp at h
  · have a := of_decide_eq_false a
    have hn : n ≤ 100 := by omega
    refine ⟨by simp, ⟨by omega, hu⟩, by simp, ⟨by omega, hu⟩, by simp, fun _ ρ => ?_, fun h => ?_⟩
    · simp [SV.den, SC.den]
    · simp at h

theorem call4 (n cap : Nat) (g : Nat → Int) (self st : Int) : CallOK P (execA P con5 4 [ann4 n cap g (s1 n self) st] 3 4) :=
  execA_ok (u := 3) con5_ok (fits1 (x := ann4 n cap g (s1 n self) st) (ghost_annOK (nilTmpG_ok _ _ _ _) (loopA_ok con5_ok (u := 3) (nf := 2) (fun x => n - x.i) 2 (by decide) (fun _ => rfl) (fun _ => rfl) (fun _ => rfl) (fun x hx K hA => round4_ok n cap g _ st x hx K hA)))) 4
theorem walk4 (a : Option Addr) (len cap : Nat) (g : Nat → Int) (self st : Int) (near : Bool) (w : World) (h : IsInts .u64 w a len cap g) (_ : (Lit.int .i64 self).wf = true) (_ : (Lit.int .i64 st).wf = true) :
    Calls P 4 #[.slice a len cap, .int .i64 self, .int .i64 st, .bool near] w fun e w' => e = .returned (.bool true) ∧ Below w.heap.size w w' :=
  calls_yes (vs := [.slice a len cap, .int .i64 self, .int .i64 st, .bool near]) (call4 len cap g self st) (args := [slc0 len cap, iv self, iv st, .c (.bv near)]) (h := hp0 len g) (n := 1) (ρ := tabR [addr0 a]) (o := main4 len cap g self st near) rfl
    (main4_yes len cap g self st near fun e he => wf_u64 (h.fits e he))
    (views_inv fun k b hk => by
      have : k = 0 ∧ b = ints .u64 len g := by
        simp only [hp0, find_cons, find] at hk
        split at hk
        · cases hk; exact ⟨‹_›, rfl⟩
        · cases hk
      obtain ⟨rfl, rfl⟩ := this
      exact ⟨rfl, by decide, h.sat rfl⟩)
    ⟨h.val, fun _ _ => rfl, fun _ _ => rfl, fun _ _ => rfl, trivial⟩
end Go.Proofs.Ytjpnpaboahbncaa.Pb
