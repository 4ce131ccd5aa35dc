/- Choosing a victim: the contracts of the two functions. -/
import Derived.Test.YtjpnpaboahbncaaPbTrees
set_option linter.unusedVariables false
set_option linter.unusedSimpArgs false
set_option maxRecDepth 100000
namespace Go.Proofs.Ytjpnpaboahbncaa.Pb
open Go Go.RowKit Sx Cn

theorem vic_eq {n i : Nat} {st : Int} (hn : n ≤ 1000) (hi : i < n) : (IntKind.i64.wrap (dr st ↑n + ↑i)).tmod ↑n = vic n st i := by
  have h := dr_range (a := st) (b := n) (by omega)
  rw [w64 (by omega), Int.tmod_eq_emod_of_nonneg (by omega)]; rfl
theorem vic_range {n i : Nat} {st : Int} (hi : i < n) : 0 ≤ vic n st i ∧ vic n st i < n := ⟨Int.emod_nonneg _ (by omega), Int.emod_lt_of_pos _ (by omega)⟩
theorem cho_yes {g : Nat → Int} {n : Nat} {self st : Int} {i : Nat} (h : vic n st i ≠ self ∧ (cho g n self st i).2 < Cn.hi (g (vic n st i).toNat)) : cho g n self st (i + 1) = (vic n st i, Cn.hi (g (vic n st i).toNat)) := if_pos h
theorem cho_no {g : Nat → Int} {n : Nat} {self st : Int} {i : Nat} (h : ¬ (vic n st i ≠ self ∧ (cho g n self st i).2 < Cn.hi (g (vic n st i).toNat))) : cho g n self st (i + 1) = cho g n self st i := if_neg h

theorem view_le {n : Nat} {g : Nat → Int} {τ : Nat → Nat} : leBlk (.view 1 (fun _ => n) [.ci .u64 fun _ e => g e]) ((ints .u64 n g).ren τ) := ⟨Nat.le_refl _, fun _ _ => Nat.le_refl _, ⟨rfl, fun _ _ _ => rfl⟩, trivial⟩

theorem round22_ok (n cap : Nat) (g : Nat → Int) (self st : Int) (i : Nat) (hx : I22 n g i) (K : Ex × St → Prop) (hA : (A22 n g self st).holds K) :
    Holds (round22 n cap g self st i) (RoundEnd (J22 n cap g self st) (I22 n g) (fun i => n - i) 1 1 K i) := by
  constructor
  rw [round22_eq]
  obtain ⟨⟨hn, hu⟩, hin⟩ := hx
  simp only [Out.holds, Int.ofNat_eq_natCast, Nat.zero_add]
  refine ⟨fun a => ?_, fun a => ?_⟩
  · have a := of_decide_eq_true a
    have hlt : i < n := by omega
    simp only [vic_eq (st := st) hn hlt]
    have hv := vic_range (st := st) hlt
    have hg := hu (vic n st i).toNat (by omega)
    have e3 : IntKind.i64.wrap ((i : Int) + ((1 : Nat) : Int)) = ((i + 1 : Nat) : Int) := w64 (by omega)
    have fin : ∀ p : Int × Int, cho g n self st (i + 1) = p → RoundEnd (J22 n cap g self st) (I22 n g) (fun i => n - i) 1 1 K i (Ex.normal, ⟨tms 43 [(0, slc0 n cap), (1, iv self), (2, iv st), (6, iv p.1), (7, iv p.2), (8, iv n), (14, iv n), (15, iv (IntKind.i64.wrap ((i : Int) + ((1 : Nat) : Int))))], ⟨hp0 n g, 1, fun _ => True⟩⟩) := by
      rintro p rfl
      refine ⟨i + 1, [], ⟨⟨hn, hu⟩, by omega⟩, (by show n - (i + 1) < n - i; omega), rfl, rfl, ⟨⟨⟨rfl, rfl, rfl, rfl, rfl, rfl⟩, ⟨rfl, rfl⟩, ⟨rfl, rfl⟩, ⟨rfl, rfl⟩, ⟨rfl, rfl⟩, ⟨rfl, rfl⟩, ⟨rfl, rfl⟩, ⟨rfl, e3⟩, trivial⟩, view_le, trivial⟩, rfl⟩
    refine ⟨by omega, by omega, ⟨by omega, by omega⟩, ⟨by decide, by omega⟩, ⟨by decide, by omega⟩, ⟨by omega, by omega⟩, fun b => ⟨fun c => ?_, fun c => ?_⟩, fun b => ?_⟩
    · have b : vic n st i ≠ self := by simpa using b
      have c := of_decide_eq_true c
      exact fin _ (cho_yes ⟨b, c⟩)
    · have c := of_decide_eq_false c
      exact fin _ (cho_no fun h => c h.2)
    · have b : vic n st i = self := by simpa using b
      exact fin _ (cho_no fun h => h.1 b)
  · have a := of_decide_eq_false a
    have : i = n := by omega
    subst this
    exact ⟨F22 i g self st, [], ⟨rfl, rfl, ⟨⟨⟨rfl, rfl⟩, ⟨rfl, rfl⟩, trivial⟩, trivial⟩, rfl⟩, rfl, Nat.le_refl _, hA⟩
theorem round23_ok (n cap : Nat) (g : Nat → Int) (self st : Int) (i : Nat) (hx : I22 n g i) (K : Ex × St → Prop) (hA : (A22 n g self st).holds K) :
    Holds (round23 n cap g self st i) (RoundEnd (J23 n cap g self st) (I22 n g) (fun i => n - i) 1 1 K i) := by
  constructor
  rw [round23_eq]
  obtain ⟨⟨hn, hu⟩, hin⟩ := hx
  simp only [Out.holds, Int.ofNat_eq_natCast, Nat.zero_add]
  refine ⟨fun a => ?_, fun a => ?_⟩
  · have a := of_decide_eq_true a
    have hlt : i < n := by omega
    simp only [vic_eq (st := st) hn hlt]
    have hv := vic_range (st := st) hlt
    have hg := hu (vic n st i).toNat (by omega)
    have e3 : IntKind.i64.wrap ((i : Int) + ((1 : Nat) : Int)) = ((i + 1 : Nat) : Int) := w64 (by omega)
    have fin : ∀ p : Int × Int, cho g n self st (i + 1) = p → RoundEnd (J23 n cap g self st) (I22 n g) (fun i => n - i) 1 1 K i (Ex.normal, ⟨tms 43 [(0, slc0 n cap), (1, iv self), (2, iv st), (6, iv p.1), (7, iv p.2), (8, iv (IntKind.i64.wrap ((i : Int) + ((1 : Nat) : Int))))], ⟨hp0 n g, 1, fun _ => True⟩⟩) := by
      rintro p rfl
      refine ⟨i + 1, [], ⟨⟨hn, hu⟩, by omega⟩, (by show n - (i + 1) < n - i; omega), rfl, rfl, ⟨⟨⟨rfl, rfl, rfl, rfl, rfl, rfl⟩, ⟨rfl, rfl⟩, ⟨rfl, rfl⟩, ⟨rfl, rfl⟩, ⟨rfl, rfl⟩, ⟨rfl, e3⟩, trivial⟩, view_le, trivial⟩, rfl⟩
    refine ⟨by omega, by omega, ⟨by omega, by omega⟩, ⟨by decide, by omega⟩, ⟨by decide, by omega⟩, ⟨by omega, by omega⟩, fun b => ⟨fun c => ?_, fun c => ?_⟩, fun b => ?_⟩
    · have b : vic n st i ≠ self := by simpa using b
      have c := of_decide_eq_true c
      exact fin _ (cho_yes ⟨b, c⟩)
    · have c := of_decide_eq_false c
      exact fin _ (cho_no fun h => c h.2)
    · have b : vic n st i = self := by simpa using b
      exact fin _ (cho_no fun h => h.1 b)
  · have a := of_decide_eq_false a
    have : i = n := by omega
    subst this
    exact ⟨F22 i g self st, [], ⟨rfl, rfl, ⟨⟨⟨rfl, rfl⟩, ⟨rfl, rfl⟩, trivial⟩, trivial⟩, rfl⟩, rfl, Nat.le_refl _, hA⟩

theorem local22 (n cap : Nat) (g : Nat → Int) (self st : Int) : LocalOK P 22 [slc0 n cap, iv self, iv st] (hp0 n g) 1 (post22 n g self st) :=
  (CallOK.local (execA_ok (u := 3) con3_ok (fits1 (x := ann22 n cap g self st) (loopA_ok con3_ok (u := 3) (nf := 2) (fun i => n - i) 1 (Nat.le_refl _) (fun _ => rfl) (fun _ => rfl) (fun _ => rfl) (fun i hi K hA => round22_ok n cap g self st i hi K hA))) 3) 22 _ _ 1).mono fun K hK => by
    change (tree22 n cap g self st).holds K
    rw [tree22_eq]
    obtain ⟨hp, hK⟩ := hK
    refine ⟨⟨⟨hp, Nat.zero_le _⟩, fun _ => trivial, fun _ => trivial, ?_, ⟨Nat.le_refl _, fun _ _ => Nat.le_refl _, ⟨rfl, fun _ _ _ => rfl⟩, trivial⟩, trivial⟩, hK⟩
    exact ⟨⟨rfl, rfl, rfl, rfl, rfl, rfl⟩, ⟨rfl, rfl⟩, ⟨rfl, rfl⟩, ⟨rfl, rfl⟩, ⟨rfl, rfl⟩, ⟨rfl, rfl⟩, ⟨rfl, rfl⟩, ⟨rfl, rfl⟩, trivial⟩
theorem local23 (n cap : Nat) (g : Nat → Int) (self st : Int) : LocalOK P 23 [slc0 n cap, iv self, iv st] (hp0 n g) 1 (post22 n g self st) :=
  (CallOK.local (execA_ok (u := 3) con3_ok (fits1 (x := ann23 n cap g self st) (loopA_ok con3_ok (u := 3) (nf := 2) (fun i => n - i) 1 (Nat.le_refl _) (fun _ => rfl) (fun _ => rfl) (fun _ => rfl) (fun i hi K hA => round23_ok n cap g self st i hi K hA))) 3) 23 _ _ 1).mono fun K hK => by
    change (tree23 n cap g self st).holds K
    rw [tree23_eq]
    obtain ⟨hp, hK⟩ := hK
    refine ⟨⟨⟨hp, Nat.zero_le _⟩, fun _ => trivial, fun _ => trivial, ?_, ⟨Nat.le_refl _, fun _ _ => Nat.le_refl _, ⟨rfl, fun _ _ _ => rfl⟩, trivial⟩, trivial⟩, hK⟩
    exact ⟨⟨rfl, rfl, rfl, rfl, rfl, rfl⟩, ⟨rfl, rfl⟩, ⟨rfl, rfl⟩, ⟨rfl, rfl⟩, ⟨rfl, rfl⟩, ⟨rfl, rfl⟩, trivial⟩
theorem con22_ok : ContractOK P 22 con22 := contract_of_use fun args H => by
  unfold con22
  split
  · unfold opt; repeat' split
    all_goals first | exact .inl ⟨_, rfl⟩ | exact .inr ⟨_, _, _, _, _, rfl, local22 _ _ _ _ _⟩
  · exact .inl ⟨_, rfl⟩
theorem con23_ok : ContractOK P 23 con22 := contract_of_use fun args H => by
  unfold con22
  split
  · unfold opt; repeat' split
    all_goals first | exact .inl ⟨_, rfl⟩ | exact .inr ⟨_, _, _, _, _, rfl, local23 _ _ _ _ _⟩
  · exact .inl ⟨_, rfl⟩
noncomputable def con4 : Con := Con.add 22 con22 (Con.add 23 con22 con3)
theorem con4_ok : ConOK P con4 := .add con22_ok (.add con23_ok con3_ok)
end Go.Proofs.Ytjpnpaboahbncaa.Pb
