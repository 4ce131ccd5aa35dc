/- Take's statements: the deques as the reference reads them. -/
import Derived.Test.YtomaagmleafjeaaMMdTaM
import Derived.Test.YtomaagmleafjeaaMMdEt
import Derived.Test.YtomaagmleafjeaaMMdBr
set_option linter.unusedVariables false
set_option linter.unusedSimpArgs false
set_option linter.unusedVariables false
set_option linter.unusedSimpArgs false
set_option maxRecDepth 100000
namespace Go.Proofs.Ytomaagmleafjeaa.Md
open Go Go.RowKit Sx Cn Dc Ck Vc
/-- The deques of the law's configuration. -/
theorem entT {c : Cf} {m : Mm} {bd : Int} {ls : Nat → Nat} {S : Nat → Nat → Int} {sta : Nat → Int} {v : Nat} (hc : c.W = 1 ∧ c.C = 1 ∧ c.H = 1 ∧ c.D = 8) (h : TI bd m ls S sta) (hv : v < 3) :
    entN c (fun e => m.g e) v = ls v ∧ ls v ≤ 8 ∧ ∀ i, i < ls v → entE c (fun e => m.g e) v i = S v i := by
  obtain ⟨h1, h2, h3, h4⟩ := hc
  have eQ : entQ c v = Tq yT v := by
    unfold entQ lQ Tq
    rw [h1, h2, h3, h4]
    rfl
  have hl := h.ws.len v hv
  have hwt := h.ws.wf.t v hv
  have hD : yT.D = 8 := rfl
  have hT : Tq yT v = 8 + v * 10 := rfl
  refine ⟨?_, by omega, fun i hi => ?_⟩
  · unfold entN
    dsimp only
    rw [eQ, sz_eq (by omega)]
    omega
  · have hval := h.ws.val v i hv hi
    have hrng := h.ws.rng v i hv hi
    unfold entE
    dsimp only
    rw [eQ, h4, wu64 (by omega), ringC_eq (by omega) (by omega) (by omega)]
    rw [hD] at hval
    rw [hval, w64 (by omega)]
def cT (W C H D : Int) : Cf := ⟨W, 0, C, 0, D, H, 0, 0, 0, 0, 0, 0, 0, fun _ => 0, fun _ => 0, fun _ _ => 0, fun _ _ => 0, fun _ _ => 0, fun _ => 0, fun _ => 0, fun _ => 0⟩
section
variable {W L C T D H B A P : Int} {nP rc nU cu : Nat} {lenP FC : Nat → Nat} {iO iA iB : Nat → Nat → Int} {uP uL uD : Nat → Int} {g : Nat → Int} {l : Int} {e : Nat}
theorem entN_t : entN ⟨W, L, C, T, D, H, B, A, P, nP, rc, nU, cu, lenP, FC, iO, iA, iB, uP, uL, uD⟩ g l = entN (cT W C H D) g l := rfl
end
theorem tot_lsE2 {g : Nat → Int} : ∀ {i : Nat}, tot (lsE g i).1 ≤ i
  | 0 => Nat.le_refl _
  | i + 1 => by
    have h := @tot_lsE2 g i
    show tot (if (lsE g i).1 (elv g i) = 8 then lsE g i else _).1 ≤ i + 1
    split
    · omega
    · unfold tot at h ⊢
      dsimp only
      by_cases c0 : 0 = elv g i
      · rw [← c0]; simp; omega
      · by_cases c1 : 1 = elv g i
        · rw [← c1]; simp; omega
        · by_cases c2 : 2 = elv g i
          · rw [← c2]; simp; omega
          · rw [if_neg c0, if_neg c1, if_neg c2]; omega
end Go.Proofs.Ytomaagmleafjeaa.Md
