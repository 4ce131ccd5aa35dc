/- Take's statements, the plain law: what lies in the deques that were laid. -/
import Derived.Test.YtomaagmleafjeaaMMdLa
import Derived.Test.YtomaagmleafjeaaMMdQs
set_option linter.unusedVariables false
set_option linter.unusedSimpArgs false
set_option maxRecDepth 100000
namespace Go.Proofs.Ytomaagmleafjeaa.Md
open Go Go.RowKit Sx Cn Dc Ck Vc
theorem qpT : Qp yT 83 3 := ⟨rfl, rfl, by decide, by show (1 : Int) ≤ 8 ∧ (8 : Int) ≤ 64; decide, by show (0 : Int) ≤ 7 ∧ (7 : Int) < 8; decide, by show (8 : Int) ≤ 1000; decide, by show (8 : Int) + ((3 : Nat) : Int) * (2 + 8) ≤ (83 : Nat); decide⟩
/-- The deques hold stacks of tasks; the states of the tasks. -/
structure TI (bd : Int) (m : Mm) (ls : Nat → Nat) (S : Nat → Nat → Int) (sta : Nat → Int) : Prop where
  ws : Ws yT 83 3 m ls S
  bt : ∀ u, u < 3 → m.g (Tq yT u + 1).toNat ≤ bd
  st : ∀ t, t < 9 → m.g (38 + t * 5) = sta t
  en : ∀ v j, v < 3 → j < ls v → 0 ≤ S v j ∧ S v j < 9
theorem push_TI {bd : Int} {m : Mm} {ls : Nat → Nat} {S : Nat → Nat → Int} {sta : Nat → Int} {v : Nat} {val : Int} (h : TI bd m ls S sta) (htp : ∀ u, u < 3 → m.g (Tq yT u).toNat = 0) (hbd : bd ≤ 900000) (hv : v < 3) (hval : 0 ≤ val ∧ val < 9) :
    (∀ u, u < 3 → (puR yT 83 0 v val 20 m).m.g (Tq yT u).toNat = 0) ∧ ((ls v = 8 ∧ TI (bd + 1) (puR yT 83 0 v val 20 m).m ls S sta) ∨
      (ls v < 8 ∧ TI (bd + 1) (puR yT 83 0 v val 20 m).m (fun u => if u = v then ls v + 1 else ls u) (fun u j => if u = v ∧ j = ls v then val else S u j) sta)) := by
  have hb2 := (push_wf2 (v := v) (M := 20) qpT h.ws.wf hv (by omega) hval.1 (by omega : val ≤ 900000) hbd h.bt).2
  have hl := h.ws.len v hv
  have ht := h.ws.wf.t v hv
  have hD : yT.D = 8 := rfl
  have hbm : yT.bm = 7 := rfl
  rcases push_ws2 (v := v) (M := 20) qpT h.ws hv (by omega) hval.1 (by omega : val ≤ 900000) hbd h.bt with ⟨c1, c2, c3⟩ | ⟨c1, c2, c3⟩
  · obtain ⟨-, e⟩ := push_full (val := val) (M := 20) qpT h.ws.wf hv (by omega) (by omega)
    exact ⟨fun u hu => by rw [e]; exact htp u hu, .inl ⟨by omega, c3, hb2, fun t ht => by rw [e]; exact h.st t ht, h.en⟩⟩
  · obtain ⟨-, e⟩ := push_fine (val := val) (M := 20) qpT h.ws.wf hv (by omega) ⟨by omega, by omega⟩ (by omega)
    have hm1 := Int.emod_nonneg (m.g (Tq yT v + 1).toNat) (show yT.D ≠ 0 by decide)
    have hm2 := Int.emod_lt_of_pos (m.g (Tq yT v + 1).toNat) (show 0 < yT.D by decide)
    have hT : Tq yT v = 8 + v * 10 := rfl
    refine ⟨fun u hu => ?_, .inr ⟨by omega, c3, hb2, fun t ht => ?_, fun u j hu hj => ?_⟩⟩
    · have hU : Tq yT u = 8 + u * 10 := rfl
      rw [e, if_neg (by omega), if_neg (by omega), if_neg (by omega)]
      exact htp u hu
    · rw [e, if_neg (by omega), if_neg (by omega), if_neg (by omega)]
      exact h.st t ht
    · have hj : j < (if u = v then ls v + 1 else ls u) := hj
      show 0 ≤ (if u = v ∧ j = ls v then val else S u j) ∧ (if u = v ∧ j = ls v then val else S u j) < 9
      by_cases c : u = v
      · subst c
        rw [if_pos rfl] at hj
        by_cases c2 : j = ls u
        · rw [if_pos ⟨rfl, c2⟩]
          exact hval
        · rw [if_neg (fun q => c2 q.2)]
          exact h.en u j hu (by omega)
      · rw [if_neg c] at hj
        rw [if_neg (fun q => c q.1)]
        exact h.en u j hu hj
/-- The states that were laid. -/
def sta0 (s : Nat → Int) (k t : Nat) : Int := if t < k then stT s t else 0
theorem stT_ok {s : Nat → Int} {t : Nat} : 0 ≤ stT s t ∧ stT s t ≤ 18446744073709551615 := wrap_ok _
theorem stt_g {s : Nat → Int} : ∀ {k : Nat}, k ≤ 9 → ∀ e : Nat, (sttM s k).g e = if 38 ≤ e ∧ (e - 38) % 5 = 0 ∧ (e - 38) / 5 < k then stT s ((e - 38) / 5) else 0
  | 0, _, e => by
    rw [if_neg (by omega)]
    rfl
  | k + 1, hk, e => by
    show ((sttM s k).acc 83 2 (38 + k * 5 + 0) (stT s k)).g e = _
    by_cases c : e = 38 + k * 5
    · subst c
      rw [if_pos ⟨by omega, by omega, by omega⟩, show (38 + k * 5 - 38) / 5 = k by omega]
      exact Mm.acc_eq (by omega) (by omega) (by omega)
    · rw [Mm.acc_ne (by omega), stt_g (by omega)]
      by_cases c2 : 38 ≤ e ∧ (e - 38) % 5 = 0 ∧ (e - 38) / 5 < k
      · rw [if_pos c2, if_pos ⟨c2.1, c2.2.1, by omega⟩]
      · rw [if_neg c2, if_neg (by omega)]
/-- Entry i: its level, its task. -/
def elv (g : Nat → Int) (i : Nat) : Nat := (lvT g i).toNat
theorem lvT_bd {g : Nat → Int} {i : Nat} (h : 0 ≤ g i) : lvT g i = (elv g i : Nat) ∧ elv g i < 3 := by
  have h1 := Int.tmod_nonneg 3 h
  have h2 := Int.tmod_lt_of_pos (g i) (show (0 : Int) < 3 by decide)
  unfold elv lvT
  rw [w64 (by omega)]
  omega
theorem tkT_bd {g : Nat → Int} {i : Nat} : 0 ≤ tkT g i ∧ tkT g i < 9 := by
  have h0 : 0 ≤ IntKind.u8.wrap ((g i).tdiv 3) := by
    have : IntKind.u8.wrap ((g i).tdiv 3) = (g i).tdiv 3 % 256 := by unfold IntKind.wrap; rfl
    omega
  have h1 := Int.tmod_nonneg 9 h0
  have h2 := Int.tmod_lt_of_pos (IntKind.u8.wrap ((g i).tdiv 3)) (show (0 : Int) < 9 by decide)
  unfold tkT
  rw [w64 (by omega)]
  omega
/-- The deques behind i entries: their lengths, their contents. -/
def lsE (g : Nat → Int) : Nat → (Nat → Nat) × (Nat → Nat → Int)
  | 0 => (fun _ => 0, fun _ _ => 0)
  | i + 1 => if (lsE g i).1 (elv g i) = 8 then lsE g i else (fun u => if u = elv g i then (lsE g i).1 (elv g i) + 1 else (lsE g i).1 u, fun u j => if u = elv g i ∧ j = (lsE g i).1 (elv g i) then tkT g i else (lsE g i).2 u j)
theorem la_TI {g s : Nat → Int} {k lg : Nat} (hg : ∀ i, i < lg → 0 ≤ g i) (hk : k ≤ 9) : ∀ {i : Nat}, i ≤ lg → i ≤ 100000 → TI i (laM g s k i) (lsE g i).1 (lsE g i).2 (sta0 s k) ∧ ∀ u, u < 3 → (laM g s k i).g (Tq yT u).toNat = 0
  | 0, _, _ => by
    have z : ∀ e : Nat, e < 38 → (laM g s k 0).g e = 0 := fun e he => by
      show (sttM s k).g e = 0
      rw [stt_g hk, if_neg (by omega)]
    have hT : ∀ {v : Nat}, v < 3 → (Tq yT v).toNat < 38 ∧ (Tq yT v + 1).toNat < 38 := fun {v} hv => by
      have : Tq yT v = 8 + v * 10 := rfl
      omega
    have hb0 : (laM g s k 0).g yT.bm.toNat = 0 := z 7 (by decide)
    refine ⟨⟨⟨⟨fun e => ?_, fun v hv => ?_, ?_, fun v hv hl => ?_⟩, fun v hv => ?_, fun v j _ hj => absurd hj (Nat.not_lt_zero _), fun v j _ hj => absurd hj (Nat.not_lt_zero _)⟩, fun u hu => ?_, fun t ht => ?_, fun v j _ hj => absurd hj (Nat.not_lt_zero _)⟩, fun u hu => z _ (hT hu).1⟩
    · show 0 ≤ (sttM s k).g e ∧ (sttM s k).g e ≤ _
      rw [stt_g hk]
      split
      · exact stT_ok
      · decide
    · rw [z _ (hT hv).1, z _ (hT hv).2]
      decide
    · rw [hb0]
      decide
    · rw [z _ (hT hv).1, z _ (hT hv).2] at hl
      exact absurd hl (by decide)
    · rw [z _ (hT hv).1, z _ (hT hv).2]
      rfl
    · rw [z _ (hT hu).2]
      decide
    · show (sttM s k).g (38 + t * 5) = sta0 s k t
      rw [stt_g hk]
      unfold sta0
      by_cases c : t < k
      · rw [if_pos c, if_pos ⟨by omega, by omega, by omega⟩, show (38 + t * 5 - 38) / 5 = t by omega]
      · rw [if_neg c, if_neg (by omega)]
  | i + 1, h1, h2 => by
    obtain ⟨h, htp⟩ := la_TI (s := s) hg hk (i := i) (by omega) (by omega)
    obtain ⟨el, e3⟩ := lvT_bd (hg i (by omega))
    have hp := push_TI (val := tkT g i) h htp (by omega) e3 tkT_bd
    rw [← el] at hp
    obtain ⟨p1, p2⟩ := hp
    refine ⟨?_, p1⟩
    show TI ((i + 1 : Nat) : Int) _ (if (lsE g i).1 (elv g i) = 8 then lsE g i else _).1 (if (lsE g i).1 (elv g i) = 8 then lsE g i else _).2 _
    rcases p2 with ⟨q1, q2⟩ | ⟨q1, q2⟩
    · rw [if_pos q1]
      exact q2
    · rw [if_neg (by omega)]
      exact q2
end Go.Proofs.Ytomaagmleafjeaa.Md
