/- config.Decode: the reading of numbers; of an instruction; what is said of the loops. -/
import Derived.Test.YtjpnpaboahbncaaMVb
set_option linter.unusedVariables false
set_option linter.unusedSimpArgs false
set_option linter.unusedVariables false
set_option maxRecDepth 100000
namespace Go.Proofs.Ytjpnpaboahbncaa.Vc
open Go Go.RowKit Sx Cn Dc Ck
noncomputable section
section
variable (g : Nat → Int) (len : Nat)
/-- A reader's block. -/
def blkN (kb cap at' : Nat) : Blk := .own 136 2 [some (.slc kb (.k 0) (.k 0) 1 (.s len) (.s cap)), some (.iv .i64 at')]
def hN (cap at' : Nat) : HL := [(0, blkN len 1 cap at'), (1, ints .u8 len g)]
end
section
variable (g : Nat → Int) (len : Nat)
def hI (cap at' n : Nat) : HL := hN g len cap at' ++ [(2, .view 1 (fun _ => n) [.cu])]
end
end
end Go.Proofs.Ytjpnpaboahbncaa.Vc


/- config.reader.instr: the contract; config.Decode: what is said of its loops. -/
set_option linter.unusedVariables false
set_option linter.unusedSimpArgs false
set_option maxRecDepth 100000
namespace Go.Proofs.Ytjpnpaboahbncaa.Vc
open Go Go.RowKit Sx Cn Dc Ck
noncomputable section
/-- Below i as it is, x at i, else 0. -/
def g2 (i : Nat) (F : Nat → Nat) (x : Nat) (e : Nat) : Nat := if e < i then F e else if e = i then x else 0
/-- The name in a cell of a block that may be read-only. -/
def cellK (k f : Nat) (H : HL) : Nat := match find k H with
  | some (.own _ _ cs) => match (cs[f]? : Option (Option SC)) with
    | some (some c) => Sx.keyOf c
    | _ => 0
  | some (.view _ _ cols) => match (cols[f]? : Option Col) with
    | some (.ck [c]) => Sx.keyOf c
    | _ => 0
  | _ => 0
section
variable (g : Nat → Int) (len cap : Nat)
def kb (s : St) : Nat := cellK (tkey 3 s) 0 s.H.h
end
end
end Go.Proofs.Ytjpnpaboahbncaa.Vc


/- config.Decode: the contract. -/
set_option linter.unusedVariables false
set_option linter.unusedSimpArgs false
set_option maxRecDepth 100000
namespace Go.Proofs.Ytjpnpaboahbncaa.Vc
open Go Go.RowKit Sx Cn Dc Ck
section
variable {g : Nat → Int} {len : Nat}
end
theorem wnat {i : Nat} (h : i ≤ 1000000) : IntKind.i64.wrap ((i : Int) + 1) = ((i + 1 : Nat) : Int) := w64 (by omega)
end Go.Proofs.Ytjpnpaboahbncaa.Vc


/- What is decoded is valid; the valid configurations are those without an error. -/
set_option linter.unusedVariables false
set_option linter.unusedSimpArgs false
set_option maxRecDepth 100000
namespace Go.Proofs.Ytjpnpaboahbncaa.Vc
open Go Go.RowKit Sx Cn Dc Ck
theorem lenP_5 {g : Nat → Int} {len : Nat} (hu : U8 len g) (i : Nat) : lenP g len i ≤ 5 := (cnt_eq hu _).2
/-- What is decoded is valid. -/
theorem dec_okC0 {g : Nat → Int} {len : Nat} (hu : U8 len g) (rc c10 : Nat) (FC : Nat → Nat) : okC ⟨dW g len, dL g len, dC g len, dT g len, dD g len, dH g len, dB g len, dA g len, dP g len, nP g len, rc, nU g len, c10, fun e => lenP g len e, fun e => FC e, fun i e => cO g len i e, fun i e => cA g len i e, fun i e => cB g len i e, fun e => uP g len e, fun e => uL g len e, fun e => uD g len e⟩ := by
  have hW := dW_r hu; have hL := dL_r hu; have hC := dC_r hu; have hCL := dC_L hu; have hT := dT_r hu; have hD := dD_r hu; have hH := dH_r hu; have hB := dB_r hu; have hA := dA_r hu; have hP := dP_r hu; have hN := dN_r hu
  have hn := nP_eq hu
  have hU := nU_le hu
  refine ⟨⟨?_, ?_, ?_, ?_, ?_, ?_, ?_, ?_, ?_⟩, ⟨?_, ?_⟩, ?_, ?_⟩
  all_goals try (simp only; omega)
  · intro i hi
    refine ⟨by have := lenP_5 hu i; simp only; omega, fun e he => ?_⟩
    simp only [okI, cO, cA, cB]
    generalize pI g len (pS g len i) e = p
    have h0 := rd_range (at' := p) (k := 3) hu (by decide)
    have h1 := rd_range (at' := p + 1) (k := 4) hu (by decide)
    have h2 := rd_range (at' := p + 1) (k := dN g len) hu (by omega)
    have h3 := rd_range (at' := p + 2) (k := dL g len) hu (by omega)
    unfold iA iB iO
    by_cases a : rd g len p 3 = 0
    · left; rw [if_pos a, if_neg (by omega)]; omega
    · by_cases b : rd g len p 3 = 1
      · right; left; rw [if_neg a, if_pos b, if_pos b]; omega
      · right; right; rw [if_neg a, if_neg b, if_neg b]; omega
  · intro e he
    have h1 := rd_range (at' := pos3 g len e) (k := dN g len) hu (by omega)
    have h2 := rd_range (at' := pos3 g len e + 1) (k := dL g len) hu (by omega)
    have h3 := rd_range (at' := pos3 g len e + 2) (k := 16) hu (by omega)
    simp only [uP, uL, uD]
    omega
theorem dec_okC {g : Nat → Int} {len : Nat} {d : Cf} (hu : U8 len g) (h : IsDec g len d) : okC d := by
  obtain ⟨FC, rc, cu, _, rfl⟩ := h
  exact dec_okC0 hu rc cu FC
open Classical in
theorem pE_zero (c : Cf) : ∀ (k i : Nat), pE c i k = 0 ↔ ∀ j, i ≤ j → j < i + k → c.lenP j ≤ 32 ∧ ∀ e, e < c.lenP j → okI c j e
  | 0, i => ⟨fun _ j h1 h2 => by omega, fun _ => rfl⟩
  | k + 1, i => by
    unfold pE
    constructor
    · intro h
      split at h
      · cases h
      split at h
      · cases h
      rename_i h1 h2
      have ih := (pE_zero c k (i + 1)).1 h
      intro j hj hj'
      by_cases e : j = i
      · subst e
        refine ⟨by omega, fun e he => ?_⟩
        rcases em (okI c j e) with g | g
        · exact g
        · exact absurd ⟨e, he, g⟩ h2
      · exact ih j (by omega) (by omega)
    · intro h
      have h0 := h i (Nat.le_refl _) (by omega)
      rw [if_neg (by omega), if_neg (by rintro ⟨e, he, g⟩; exact g (h0.2 e he))]
      exact (pE_zero c k (i + 1)).2 fun j h1 h2 => h j (by omega) (by omega)
open Classical in
theorem uE_zero (c : Cf) : ∀ (k i : Nat), uE c i k = 0 ↔ ∀ j, i ≤ j → j < i + k → (0 ≤ c.uP j ∧ c.uP j ≤ (c.nP : Int) - 1) ∧ (0 ≤ c.uL j ∧ c.uL j ≤ c.L - 1) ∧ (0 ≤ c.uD j ∧ c.uD j ≤ 16777215)
  | 0, i => ⟨fun _ j h1 h2 => by omega, fun _ => rfl⟩
  | k + 1, i => by
    unfold uE
    constructor
    · intro h
      split at h
      · cases h
      split at h
      · cases h
      rename_i h1 h2
      have h1 := Classical.not_not.1 h1
      have h2 := Classical.not_not.1 h2
      have ih := (uE_zero c k (i + 1)).1 h
      intro j hj hj'
      by_cases e : j = i
      · subst e; exact ⟨h1, h2⟩
      · exact ih j (by omega) (by omega)
    · intro h
      have h0 := h i (Nat.le_refl _) (by omega)
      rw [if_neg (fun g => g h0.1), if_neg (fun g => g h0.2)]
      exact (uE_zero c k (i + 1)).2 fun j h1 h2 => h j (by omega) (by omega)
open Classical in
theorem err_zero (c : Cf) : errE c = 0 ↔ okC c := by
  unfold errE progE subE
  by_cases h1 : okN c
  · rw [if_neg (fun g => g h1)]
    by_cases h2 : 1 ≤ c.nP ∧ c.nP ≤ 32
    · have e2 : (if ¬ (1 ≤ c.nP ∧ c.nP ≤ 32) then (2 : Int) else pE c 0 c.nP) = pE c 0 c.nP := if_neg (fun g => g h2)
      rw [e2]
      by_cases h3 : pE c 0 c.nP = 0
      · have e3 : ∀ z : Int, (if pE c 0 c.nP ≠ 0 then pE c 0 c.nP else z) = z := fun z => if_neg (fun g => g h3)
        rw [e3]
        have h3' := fun i (hi : i < c.nP) => (pE_zero c _ _).1 h3 i (Nat.zero_le _) (by omega)
        by_cases h4 : 64 < c.nU
        · rw [if_pos h4]
          exact ⟨fun h => by omega, fun h => by have := h.2.2.1; omega⟩
        · rw [if_neg h4]
          exact ⟨fun h => ⟨h1, ⟨h2, h3'⟩, by omega, fun e he => (uE_zero c _ _).1 h e (Nat.zero_le _) (by omega)⟩, fun h => (uE_zero c _ _).2 fun j _ hj => h.2.2.2 j (by omega)⟩
      · have e3 : ∀ z : Int, (if pE c 0 c.nP ≠ 0 then pE c 0 c.nP else z) = pE c 0 c.nP := fun z => if_pos h3
        rw [e3]
        exact ⟨fun h => absurd h h3, fun h => absurd ((pE_zero c _ _).2 fun j _ hj => h.2.1.2 j (by omega)) h3⟩
    · have e2 : (if ¬ (1 ≤ c.nP ∧ c.nP ≤ 32) then (2 : Int) else pE c 0 c.nP) = 2 := if_pos h2
      rw [e2]
      exact ⟨fun h => by simp at h, fun h => absurd h.2.1.1 h2⟩
  · rw [if_pos h1]
    exact ⟨fun h => by omega, fun h => absurd h.1 h1⟩
theorem dec_err {g : Nat → Int} {len : Nat} {d : Cf} (hu : U8 len g) (h : IsDec g len d) : errE d = 0 := (err_zero d).2 (dec_okC hu h)
end Go.Proofs.Ytjpnpaboahbncaa.Vc

