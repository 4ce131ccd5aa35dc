/- Take's statements, the plain law: what a Take alone leads to. -/
import Derived.Test.YtomaagmleafjeaaMMdTaL
set_option linter.unusedVariables false
set_option linter.unusedSimpArgs false
set_option linter.unusedVariables false
set_option linter.unusedSimpArgs false
set_option maxRecDepth 100000
namespace Go.Proofs.Ytomaagmleafjeaa.Md
open Go Go.RowKit Sx Cn Dc Ck Vc
theorem Ws.lo {m m' : Mm} {ls : Nat → Nat} {S : Nat → Nat → Int} (h : Ws yT 83 3 m ls S) (e : ∀ k : Nat, k < 38 → m'.g k = m.g k) (ok : ∀ e, 0 ≤ m'.g e ∧ m'.g e ≤ 18446744073709551615) : Ws yT 83 3 m' ls S := by
  have e0 : ∀ v, v < 3 → m'.g (Tq yT v).toNat = m.g (Tq yT v).toNat := fun v hv => e _ (by have : Tq yT v = 8 + v * 10 := rfl; omega)
  have e1 : ∀ v, v < 3 → m'.g (Tq yT v + 1).toNat = m.g (Tq yT v + 1).toNat := fun v hv => e _ (by have : Tq yT v = 8 + v * 10 := rfl; omega)
  have eb : m'.g yT.bm.toNat = m.g yT.bm.toNat := e 7 (by decide)
  refine ⟨⟨ok, fun v hv => by rw [e0 v hv, e1 v hv]; exact h.wf.t v hv, by rw [eb]; exact h.wf.B, fun v hv hl => by rw [eb]; rw [e0 v hv, e1 v hv] at hl; exact h.wf.bit v hv hl⟩, fun v hv => by rw [e0 v hv, e1 v hv]; exact h.len v hv, fun v j hv hj => ?_, h.rng⟩
  have hm1 := Int.emod_nonneg (m.g (Tq yT v).toNat + j) (show yT.D ≠ 0 by decide)
  have hm2 := Int.emod_lt_of_pos (m.g (Tq yT v).toNat + j) (show 0 < yT.D by decide)
  have hD : yT.D = 8 := rfl
  rw [e0 v hv, e _ (by have : Tq yT v = 8 + v * 10 := rfl; omega)]
  exact h.val v j hv hj
theorem stA_e {v : Int} (h : 0 ≤ v ∧ v < 9) : stA yT v = 38 + v * 5 := by
  show (if v < 0 ∨ (9 : Int) ≤ v then -1 else IntKind.i64.wrap (38 + 0) + v * 5) = _
  rw [if_neg (by omega)]
  rfl
theorem cl_TI {bd : Int} {m : Mm} {ls : Nat → Nat} {S : Nat → Nat → Int} {sta : Nat → Int} {v : Int} (h : TI bd m ls S sta) (hv : 0 ≤ v ∧ v < 9) :
    m.hit 83 (stA yT v) 1 = decide (sta v.toNat = 1) ∧ TI bd (m.acc 83 3 (stA yT v) (casV (m.hit 83 (stA yT v) 1) (m.val 83 (stA yT v)) 2)) ls S (fun t => if t = v.toNat ∧ sta v.toNat = 1 then 2 else sta t) := by
  rw [stA_e hv]
  have hs : m.g (38 + v * 5).toNat = sta v.toNat := by
    rw [show (38 + v * 5).toNat = 38 + v.toNat * 5 by omega]
    exact h.st _ (by omega)
  have hh : m.hit 83 (38 + v * 5) 1 = decide (sta v.toNat = 1) := by rw [Mm.hit_val (by omega) (by omega), hs]
  have hval : m.val 83 (38 + v * 5) = sta v.toNat := by rw [Mm.val_eq (by omega) (by omega), hs]
  refine ⟨hh, ?_⟩
  have hok : ∀ e, 0 ≤ (m.acc 83 3 (38 + v * 5) (casV (m.hit 83 (38 + v * 5) 1) (m.val 83 (38 + v * 5)) 2)).g e ∧ (m.acc 83 3 (38 + v * 5) (casV (m.hit 83 (38 + v * 5) 1) (m.val 83 (38 + v * 5)) 2)).g e ≤ 18446744073709551615 :=
    fun e => Mm.ok_acc h.ws.wf.ok (casV_ok (Mm.ok_val h.ws.wf.ok) ⟨by omega, by omega⟩) e
  have hlo : ∀ e : Nat, e < 38 → (m.acc 83 3 (38 + v * 5) (casV (m.hit 83 (38 + v * 5) 1) (m.val 83 (38 + v * 5)) 2)).g e = m.g e := fun e he => Mm.acc_ne (by omega)
  refine ⟨h.ws.lo hlo hok, fun u hu => ?_, fun t ht => ?_, h.en⟩
  · rw [hlo _ (by have : Tq yT u = 8 + u * 10 := rfl; omega)]
    exact h.bt u hu
  · by_cases c : t = v.toNat
    · subst c
      rw [Mm.acc_eq (by omega) (by omega) (by omega), hh, hval]
      by_cases c2 : sta v.toNat = 1
      · rw [if_pos ⟨rfl, c2⟩, decide_eq_true c2]
        rfl
      · rw [if_neg (fun q => c2 q.2), decide_eq_false c2]
        rfl
    · rw [Mm.acc_ne (by omega), if_neg (fun q => c q.1)]
      exact h.st t ht
def El.ev (l : El) (i : Nat) : Int × Int × Int × Int × Int := (l.v.k i, l.v.w i, l.v.t i, l.v.o i, l.v.l i)
theorem ev_put {l : El} {k w t : Int} : (l.put k w t).ev l.n = (k, w, t, 0, 0) := by simp [El.put, El.ev]
theorem ev_old {l : El} {k w t : Int} {i : Nat} (h : i < l.n) : (l.put k w t).ev i = l.ev i := by
  have : i ≠ l.n := by omega
  simp [El.put, El.ev, this]
theorem pk_rng {bd : Int} {m : Mm} {ls : Nat → Nat} {S : Nat → Nat → Int} {sta : Nat → Int} {i : Nat} (h : TI bd m ls S sta) (hi : i < tot ls) : 0 ≤ pk ls S i ∧ pk ls S i < 9 := by
  unfold tot at hi
  unfold pk
  split
  · exact h.en 2 _ (by decide) (by omega)
  · split
    · exact h.en 1 _ (by decide) (by omega)
    · exact h.en 0 _ (by decide) (by omega)
theorem cut_0 {ls : Nat → Nat} {u : Nat} (hu : u < 3) : ls u = cut ls 0 u := by
  unfold cut
  match u, hu with
  | 0, _ => simp
  | 1, _ => simp
  | 2, _ => simp
/-- What a Take leads to. -/
def TaRes (bd : Int) (ls : Nat → Nat) (S : Nat → Nat → Int) (sta : Nat → Int) (l : El) (R : Rt) : Prop := (∀ i, i < l.n → R.r.l.ev i = l.ev i) ∧
  ((R.r.c = 2 ∧ (∀ i, i < tot ls → sta (pk ls S i).toNat ≠ 1) ∧ R.r.l.n = l.n + tot ls ∧ (∀ i, i < tot ls → R.r.l.ev (l.n + i) = (15, 0, pk ls S i, 0, 0)) ∧ TI bd R.r.m (cut ls (tot ls)) S sta ∧ R.r.m.g yT.bm.toNat = 0) ∨
   (R.r.c = 1 ∧ ∃ j, j < tot ls ∧ (∀ i, i < j → sta (pk ls S i).toNat ≠ 1) ∧ sta (pk ls S j).toNat = 1 ∧ R.r.v = pk ls S j ∧ R.r.l.n = l.n + j + 1 ∧ (∀ i, i < j → R.r.l.ev (l.n + i) = (15, 0, pk ls S i, 0, 0)) ∧ TI bd R.r.m (cut ls (j + 1)) S (fun t => if t = (pk ls S j).toNat then 2 else sta t)))
theorem ta_main {bd : Int} {S : Nat → Nat → Int} {sta : Nat → Int} : ∀ (T : Nat) {ls : Nat → Nat} {m : Mm} {k F : Nat} {l : El} {st : Nat → Bool}, tot ls = T → TI bd m ls S sta → 28 * (T + 1) ≤ F →
    ∃ R, taRun yT 83 0 9 F (0, ⟨noPo k m, l, st, 0⟩) = some R ∧ TaRes bd ls S sta l R := by
  intro T
  induction T with
  | zero =>
    intro ls m k F l st hT h hF
    have hp := pop_TI k h
    rcases hp with ⟨p1, p2, p3, p4⟩ | ⟨p1, p2, -⟩
    · obtain ⟨F', h1, h2⟩ := ta_pop (y := yT) (n := 83) (w := 0) (nr := 9) (l := l) (st := st) (f0 := 27) (F := F) (q := 0) (p := noPo k m) (by decide) (by rw [p1]; decide) (by omega)
      refine ⟨_, by rw [h2]; unfold aftPo; rw [if_pos p1], fun i hi => rfl, .inl ⟨rfl, fun i hi => by omega, by rw [hT]; rfl, fun i hi => by omega, ?_, p4⟩⟩
      rw [hT]
      exact p3.ls fun u hu => cut_0 hu
    · omega
  | succ T ih =>
    intro ls m k F l st hT h hF
    have hp := pop_TI k h
    rcases hp with ⟨p1, p2, -⟩ | ⟨p1, p2, p3, p4⟩
    · omega
    have hv := pk_rng h p2
    obtain ⟨F', h1, h2⟩ := ta_pop (y := yT) (n := 83) (w := 0) (nr := 9) (l := l) (st := st) (f0 := 27) (F := F) (q := 0) (p := noPo k m) (by decide) (by rw [p1]; decide) (by omega)
    unfold aftPo at h2
    rw [if_neg (by rw [p1]; decide), p3] at h2
    generalize popRun yT 83 0 27 (0, noPo k m) = Q at *
    obtain ⟨c1, c2⟩ := cl_TI p4 hv
    obtain ⟨F2, rfl⟩ : ∃ F2, F' = F2 + 1 := ⟨F' - 1, by omega⟩
    rw [taRun_s] at h2
    by_cases cs : sta (pk ls S 0).toNat = 1
    · have hh : Q.m.hit 83 (stA yT (pk ls S 0)) 1 = true := by rw [c1]; exact decide_eq_true cs
      have hTI : TI bd (Q.m.acc 83 3 (stA yT (pk ls S 0)) (casV (Q.m.hit 83 (stA yT (pk ls S 0)) 1) (Q.m.val 83 (stA yT (pk ls S 0))) 2)) (cut ls 1) S (fun t => if t = (pk ls S 0).toNat then 2 else sta t) := by
        have e : (fun t => if t = (pk ls S 0).toNat ∧ sta (pk ls S 0).toNat = 1 then (2 : Int) else sta t) = fun t => if t = (pk ls S 0).toNat then 2 else sta t := by
          funext t
          simp only [cs, and_true]
        rw [← e]
        exact c2
      have ht : ∃ kk st', (kk = 9 ∨ kk = 5) ∧ taRun yT 83 0 9 F (0, ⟨noPo k m, l, st, 0⟩) = some ⟨⟨1, pk ls S 0, ((Q.k.toNat + 1 : Nat) : Int), Q.m.acc 83 3 (stA yT (pk ls S 0)) (casV (Q.m.hit 83 (stA yT (pk ls S 0)) 1) (Q.m.val 83 (stA yT (pk ls S 0))) 2), l.put kk 0 (pk ls S 0)⟩, st'⟩ := by
        rw [h2]
        simp only [taStep, noPo, hh, if_true]
        rw [if_pos (⟨hv.1, by omega⟩ : 0 ≤ pk ls S 0 ∧ pk ls S 0 < ((9 : Nat) : Int))]
        by_cases cst : st (pk ls S 0).toNat = true
        · rw [if_pos cst]
          exact ⟨9, st, .inl rfl, by simp only [clM, hh]⟩
        · rw [if_neg cst]
          exact ⟨5, _, .inr rfl, by simp only [clM, hh]; rfl⟩
      obtain ⟨kk, st', -, ht⟩ := ht
      exact ⟨_, ht, fun i hi => ev_old hi, .inr ⟨rfl, 0, p2, fun i hi => absurd hi (Nat.not_lt_zero _), cs, rfl, rfl, fun i hi => absurd hi (Nat.not_lt_zero _), hTI⟩⟩
    · have hh : Q.m.hit 83 (stA yT (pk ls S 0)) 1 = false := by rw [c1]; exact decide_eq_false cs
      have e : (fun t => if t = (pk ls S 0).toNat ∧ sta (pk ls S 0).toNat = 1 then (2 : Int) else sta t) = sta := by
        funext t
        exact if_neg fun q => cs q.2
      rw [e] at c2
      have ht : taRun yT 83 0 9 F (0, ⟨noPo k m, l, st, 0⟩) = taRun yT 83 0 9 F2 (0, ⟨noPo (Q.k.toNat + 1) (Q.m.acc 83 3 (stA yT (pk ls S 0)) (casV (Q.m.hit 83 (stA yT (pk ls S 0)) 1) (Q.m.val 83 (stA yT (pk ls S 0))) 2)), l.put 15 0 (pk ls S 0), st, 0⟩) := by
        rw [h2]
        simp only [taStep, noPo, hh, if_false, Bool.false_eq_true, clM]
      have hcut := tot_cut p2
      obtain ⟨R, r1, r2, r3⟩ := ih (ls := cut ls 1) (k := Q.k.toNat + 1) (F := F2) (l := l.put 15 0 (pk ls S 0)) (st := st) (by omega) c2 (by omega)
      have hpk : ∀ i, i < tot (cut ls 1) → pk (cut ls 1) S i = pk ls S (i + 1) := fun i hi => pk_cut p2 (by omega)
      have hln : (l.put 15 0 (pk ls S 0)).n = l.n + 1 := rfl
      have h0 : R.r.l.ev l.n = (15, 0, pk ls S 0, 0, 0) := by rw [r2 l.n (by omega)]; exact ev_put
      refine ⟨R, ht.trans r1, fun i hi => (r2 i (by omega)).trans (ev_old hi), ?_⟩
      rcases r3 with ⟨q1, q2, q3, q4, q5, q6⟩ | ⟨q1, j, q2, q3, q4, q5, q6, q7, q8⟩
      · refine .inl ⟨q1, fun i hi => ?_, by omega, fun i hi => ?_, q5.ls fun u hu => ?_, q6⟩
        · rcases i with _ | i
          · exact cs
          · rw [← hpk i (by omega)]
            exact q2 i (by omega)
        · rcases i with _ | i
          · exact h0
          · rw [← hpk i (by omega), ← q4 i (by omega), hln, show l.n + (i + 1) = l.n + 1 + i by omega]
        · rw [cut_cut hu, hcut]
      · refine .inr ⟨q1, j + 1, by omega, fun i hi => ?_, by rw [← hpk j q2]; exact q4, by rw [← hpk j q2]; exact q5, by omega, fun i hi => ?_, ?_⟩
        · rcases i with _ | i
          · exact cs
          · rw [← hpk i (by omega)]
            exact q3 i (by omega)
        · rcases i with _ | i
          · exact h0
          · rw [← hpk i (by omega), ← q7 i (by omega), hln, show l.n + (i + 1) = l.n + 1 + i by omega]
        · rw [← hpk j q2]
          exact q8.ls fun u hu => cut_cut hu
end Go.Proofs.Ytomaagmleafjeaa.Md
