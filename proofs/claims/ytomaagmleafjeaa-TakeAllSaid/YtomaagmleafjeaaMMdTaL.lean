/- Take's statements, the plain law: what Take alone does. -/
import Derived.Test.YtomaagmleafjeaaMMdTpL
set_option linter.unusedVariables false
set_option linter.unusedSimpArgs false
set_option linter.unusedVariables false
set_option linter.unusedSimpArgs false
set_option maxRecDepth 100000
namespace Go.Proofs.Ytomaagmleafjeaa.Md
open Go Go.RowKit Sx Cn Dc Ck Vc
section
variable {y : Ly} {n : Nat} {w : Int} {nr : Nat} {l : El} {st : Nat → Bool}
theorem popRun_s (f : Nat) (s : Nat × XPo) : popRun y n w (f + 1) s = match popStep y n w s with
    | (x', none) => popRun y n w f x'
    | (x', some r) => ⟨r.1, r.2, (x'.2.k : Int), x'.2.m⟩ := by
  rcases h : popStep y n w s with ⟨x', _ | r⟩ <;> simp only [popRun, aRun, h]
theorem taRun_s (f : Nat) (s : Nat × XTa) : taRun y n w nr (f + 1) s = match taStep y n w nr s with
    | none => none
    | some (x', none) => taRun y n w nr f x'
    | some (x', some r) => some ⟨⟨r.1, r.2, x'.2.p.k, x'.2.p.m, x'.2.l⟩, x'.2.st⟩ := rfl
/-- More room for steps does not matter. -/
theorem popRun_more : ∀ {f d : Nat} {s : Nat × XPo}, (popRun y n w f s).c ≠ -1 → popRun y n w (f + d) s = popRun y n w f s
  | 0, d, s, h => absurd rfl h
  | f + 1, d, s, h => by
    rw [show f + 1 + d = (f + d) + 1 by omega, popRun_s, popRun_s]
    rw [popRun_s] at h
    rcases hs : popStep y n w s with ⟨x', _ | r⟩
    · rw [hs] at h
      exact popRun_more h
    · rfl
theorem popStep_q {q : Nat} (hq : q < 3) (x : XPo) : (popStep y n w (q, x)).1.1 < 3 := by
  match q, hq with
  | 0, _ =>
    simp only [popStep]
    split
    · exact (by decide : (0 : Nat) < 3)
    · exact (by decide : (1 : Nat) < 3)
  | 1, _ =>
    simp only [popStep]
    repeat' split
    all_goals first | exact (by decide : (1 : Nat) < 3) | exact (by decide : (2 : Nat) < 3) | exact (by decide : (0 : Nat) < 3)
  | 2, _ =>
    simp only [popStep]
    repeat' split
    all_goals first | exact (by decide : (1 : Nat) < 3) | exact (by decide : (2 : Nat) < 3) | exact (by decide : (0 : Nat) < 3)
theorem taStep_po {q : Nat} (hq : q < 3) (x : XTa) : taStep y n w nr (q, x) = match popStep y n w (q, x.p) with
    | ((q, p), none) => some ((q, ⟨p, x.l, x.st, 0⟩), none)
    | ((_, p), some (c, v)) => if c = 2 then some ((q, ⟨p, x.l, x.st, 0⟩), some (2, 0)) else some ((3, ⟨noPo p.k p.m, x.l, x.st, v⟩), none) := by
  match q, hq with
  | 0, _ => rfl
  | 1, _ => rfl
  | 2, _ => rfl
/-- Take behind its Pop. -/
def aftPo (y : Ly) (n : Nat) (w : Int) (nr : Nat) (R : Rs) (l : El) (st : Nat → Bool) (F : Nat) : Option Rt := if R.c = 2 then some ⟨⟨2, 0, R.k, R.m, l⟩, st⟩ else taRun y n w nr F (3, ⟨noPo R.k.toNat R.m, l, st, R.v⟩)
theorem ta_pop : ∀ {f0 F q : Nat} {p : XPo}, q < 3 → (popRun y n w f0 (q, p)).c ≠ -1 → f0 ≤ F → ∃ F', F ≤ F' + f0 ∧ taRun y n w nr F (q, ⟨p, l, st, 0⟩) = aftPo y n w nr (popRun y n w f0 (q, p)) l st F'
  | 0, F, q, p, _, h, _ => absurd rfl h
  | f0 + 1, 0, q, p, _, h, hF => by omega
  | f0 + 1, F + 1, q, p, hq, h, hF => by
    rw [popRun_s] at h ⊢
    rw [taRun_s, taStep_po hq]
    have hq' := popStep_q (y := y) (n := n) (w := w) hq p
    dsimp only
    rcases hs : popStep y n w (q, p) with ⟨⟨q', u⟩, _ | ⟨c, v⟩⟩
    · rw [hs] at h hq'
      obtain ⟨F', h1, h2⟩ := ta_pop (f0 := f0) (F := F) (q := q') (p := u) hq' h (by omega)
      exact ⟨F', by omega, h2⟩
    · refine ⟨F, by omega, ?_⟩
      unfold aftPo
      dsimp only
      by_cases hc : c = 2
      · rw [if_pos hc, if_pos hc]
      · rw [if_neg hc, if_neg hc, Int.toNat_natCast]
def XPo.sh (x : XPo) (a : Nat) : XPo := { x with k := x.k + a }
def Rs.sh (R : Rs) (a : Nat) : Rs := { R with k := R.k + a }
theorem popStep_sh (a : Nat) {q : Nat} (hq : q < 3) (x : XPo) : popStep y n w (q, x.sh a) = (((popStep y n w (q, x)).1.1, (popStep y n w (q, x)).1.2.sh a), (popStep y n w (q, x)).2) := by
  match q, hq with
  | 0, _ =>
    simp only [popStep, XPo.sh]
    repeat' split
    all_goals (dsimp only; simp only [Nat.add_right_comm])
  | 1, _ =>
    simp only [popStep, XPo.sh]
    repeat' split
    all_goals (dsimp only; simp only [Nat.add_right_comm])
  | 2, _ =>
    simp only [popStep, XPo.sh]
    repeat' split
    all_goals (dsimp only; simp only [Nat.add_right_comm])
theorem popRun_sh (a : Nat) : ∀ (f : Nat) {q : Nat} (hq : q < 3) (x : XPo), popRun y n w f (q, x.sh a) = (popRun y n w f (q, x)).sh a
  | 0, q, _, x => by
    show (⟨-1, 0, ((x.k + a : Nat) : Int), x.m⟩ : Rs) = ⟨-1, 0, (x.k : Int) + a, x.m⟩
    rw [Int.natCast_add]
  | f + 1, q, hq, x => by
    rw [popRun_s, popRun_s, popStep_sh a hq]
    have hq' := popStep_q (y := y) (n := n) (w := w) hq x
    rcases h : popStep y n w (q, x) with ⟨⟨q', x'⟩, _ | r⟩
    · rw [h] at hq'
      exact popRun_sh a f hq' x'
    · show (⟨r.1, r.2, ((x'.k + a : Nat) : Int), x'.m⟩ : Rs) = ⟨r.1, r.2, (x'.k : Int) + a, x'.m⟩
      rw [Int.natCast_add]
end
/-- The entries in the order in which they are popped; the lengths when i of them are gone. -/
def pk (ls : Nat → Nat) (S : Nat → Nat → Int) (i : Nat) : Int := if i < ls 2 then S 2 (ls 2 - 1 - i) else if i < ls 2 + ls 1 then S 1 (ls 1 - 1 - (i - ls 2)) else S 0 (ls 0 - 1 - (i - (ls 2 + ls 1)))
def cut (ls : Nat → Nat) (i u : Nat) : Nat := if u = 2 then ls 2 - i else if u = 1 then ls 1 - (i - ls 2) else ls 0 - (i - (ls 2 + ls 1))
def tot (ls : Nat → Nat) : Nat := ls 2 + ls 1 + ls 0
theorem pk_cut {ls : Nat → Nat} {S : Nat → Nat → Int} {i : Nat} (h : 0 < tot ls) (hi : i + 1 < tot ls) : pk (cut ls 1) S i = pk ls S (i + 1) := by
  unfold tot at h hi
  unfold pk
  have e2 : cut ls 1 2 = ls 2 - 1 := if_pos rfl
  have e1 : cut ls 1 1 = ls 1 - (1 - ls 2) := rfl
  have e0 : cut ls 1 0 = ls 0 - (1 - (ls 2 + ls 1)) := rfl
  rw [e2, e1, e0]
  by_cases c1 : i + 1 < ls 2
  · rw [if_pos (by omega), if_pos c1, show ls 2 - 1 - 1 - i = ls 2 - 1 - (i + 1) by omega]
  · rw [if_neg (by omega), if_neg c1]
    by_cases c2 : i + 1 < ls 2 + ls 1
    · rw [if_pos (by omega), if_pos c2, show ls 1 - (1 - ls 2) - 1 - (i - (ls 2 - 1)) = ls 1 - 1 - (i + 1 - ls 2) by omega]
    · rw [if_neg (by omega), if_neg c2, show ls 0 - (1 - (ls 2 + ls 1)) - 1 - (i - (ls 2 - 1 + (ls 1 - (1 - ls 2)))) = ls 0 - 1 - (i + 1 - (ls 2 + ls 1)) by omega]
theorem cut_cut {ls : Nat → Nat} {i u : Nat} (hu : u < 3) : cut (cut ls 1) i u = cut ls (i + 1) u := by
  have e2 : cut ls 1 2 = ls 2 - 1 := if_pos rfl
  have e1 : cut ls 1 1 = ls 1 - (1 - ls 2) := rfl
  have e0 : cut ls 1 0 = ls 0 - (1 - (ls 2 + ls 1)) := rfl
  unfold cut at e2 e1 e0 ⊢
  match u, hu with
  | 0, _ => simp only [e2, e1, e0]; simp; omega
  | 1, _ => simp only [e2, e1, e0]; simp; omega
  | 2, _ => simp only [e2, e1, e0]; simp; omega
theorem tot_cut {ls : Nat → Nat} (h : 0 < tot ls) : tot (cut ls 1) + 1 = tot ls := by
  have e2 : cut ls 1 2 = ls 2 - 1 := if_pos rfl
  have e1 : cut ls 1 1 = ls 1 - (1 - ls 2) := rfl
  have e0 : cut ls 1 0 = ls 0 - (1 - (ls 2 + ls 1)) := rfl
  unfold tot at *
  rw [e2, e1, e0]
  omega
theorem Ws.ls {m : Mm} {ls ls' : Nat → Nat} {S : Nat → Nat → Int} (h : Ws yT 83 3 m ls S) (e : ∀ v, v < 3 → ls v = ls' v) : Ws yT 83 3 m ls' S :=
  ⟨h.wf, fun v hv => by rw [← e v hv]; exact h.len v hv, fun v j hv hj => h.val v j hv (by rw [e v hv]; exact hj), fun v j hv hj => h.rng v j hv (by rw [e v hv]; exact hj)⟩
theorem TI.ls {bd : Int} {m : Mm} {ls ls' : Nat → Nat} {S : Nat → Nat → Int} {sta : Nat → Int} (h : TI bd m ls S sta) (e : ∀ v, v < 3 → ls v = ls' v) : TI bd m ls' S sta :=
  ⟨h.ws.ls e, h.bt, h.st, fun v j hv hj => h.en v j hv (by rw [e v hv]; exact hj)⟩
theorem pop_TI {bd : Int} {m : Mm} {ls : Nat → Nat} {S : Nat → Nat → Int} {sta : Nat → Int} (k : Nat) (h : TI bd m ls S sta) :
    ((popRun yT 83 0 27 (0, noPo k m)).c = 2 ∧ tot ls = 0 ∧ TI bd (popRun yT 83 0 27 (0, noPo k m)).m ls S sta ∧ (popRun yT 83 0 27 (0, noPo k m)).m.g yT.bm.toNat = 0) ∨
    ((popRun yT 83 0 27 (0, noPo k m)).c = 1 ∧ 0 < tot ls ∧ (popRun yT 83 0 27 (0, noPo k m)).v = pk ls S 0 ∧ TI bd (popRun yT 83 0 27 (0, noPo k m)).m (cut ls 1) S sta) := by
  have e0 : noPo k m = (noPo 0 m).sh k := by unfold noPo XPo.sh; rw [Nat.zero_add]
  have hB := h.ws.wf.B
  have hr0 : PopRes yT 3 m (popRun yT 83 0 27 (po0 0 0 m)) := pop_run qpT 3 (Nat.le_refl _) m 0 0 27 h.ws.wf (by have h8 : ((2 : Int) ^ 3) = 8 := (by decide); show (m.g yT.bm.toNat).toNat < 8; omega) (by decide)
  have hc : (popRun yT 83 0 27 (0, noPo 0 m)).c ≠ -1 := by
    show (popRun yT 83 0 27 (po0 0 0 m)).c ≠ -1
    rcases hr0 with ⟨r1, -⟩ | ⟨r1, -⟩ <;> (rw [r1]; decide)
  have e1 : popR yT 83 0 45 m = popRun yT 83 0 27 (0, noPo 0 m) := popRun_more (f := 27) (d := 18) hc
  rw [e0, popRun_sh k 27 (by decide) (noPo 0 m), ← e1]
  show ((popR yT 83 0 45 m).c = 2 ∧ tot ls = 0 ∧ TI bd (popR yT 83 0 45 m).m ls S sta ∧ (popR yT 83 0 45 m).m.g yT.bm.toNat = 0) ∨ ((popR yT 83 0 45 m).c = 1 ∧ 0 < tot ls ∧ (popR yT 83 0 45 m).v = pk ls S 0 ∧ TI bd (popR yT 83 0 45 m).m (cut ls 1) S sta)
  have hwf := (pop_wf qpT h.ws.wf (Nat.le_refl 45) h.bt).2
  have hr := pop_res qpT h.ws.wf (Nat.le_refl 45)
  have hst : ∀ t, t < 9 → (popR yT 83 0 45 m).m.g (38 + t * 5) = sta t := fun t ht => by
    rw [← h.st t ht]
    have hbm : yT.bm = 7 := rfl
    rcases hr with ⟨-, -, e⟩ | ⟨-, v, hv, -, -, -, B, -, -, e⟩
    · rw [e, if_neg (by omega)]
    · have hT : Tq yT v = 8 + v * 10 := rfl
      rw [e, if_neg (by omega), if_neg (by split <;> omega)]
  rcases pop_ws qpT h.ws (Nat.le_refl 45) h.bt with ⟨p1, p2, p3⟩ | ⟨p1, v, hv, p2, p3, p4, p5⟩
  · refine .inl ⟨p1, ?_, ⟨p3, hwf.1, hst, h.en⟩, hwf.2 p1⟩
    have := p2 0 (by decide); have := p2 1 (by decide); have := p2 2 (by decide)
    unfold tot
    omega
  · have hz : ∀ u, v < u → u < 3 → ls u = 0 := p3
    have he : ∀ u, u < 3 → (if u = v then ls v - 1 else ls u) = cut ls 1 u := fun u hu => by
      have z1 := hz 1; have z2 := hz 2
      unfold cut
      match u, hu, v, hv with
      | 0, _, 0, _ => simp; have := z1 (by decide) (by decide); have := z2 (by decide) (by decide); omega
      | 0, _, 1, _ => simp; omega
      | 0, _, 2, _ => simp; omega
      | 1, _, 0, _ => simp; have := z1 (by decide) (by decide); omega
      | 1, _, 1, _ => simp; have := z2 (by decide) (by decide); omega
      | 1, _, 2, _ => simp; omega
      | 2, _, 0, _ => simp; have := z2 (by decide) (by decide); omega
      | 2, _, 1, _ => simp; have := z2 (by decide) (by decide); omega
      | 2, _, 2, _ => simp
    refine .inr ⟨p1, ?_, ?_, p5.ls he, hwf.1, hst, fun u j hu hj => h.en u j hu ?_⟩
    · unfold tot
      match v, hv with
      | 0, _ => omega
      | 1, _ => omega
      | 2, _ => omega
    · rw [p4]
      unfold pk
      match v, hv with
      | 0, _ => rw [if_neg (by have := hz 2 (by decide) (by decide); omega), if_neg (by have := hz 2 (by decide) (by decide); have := hz 1 (by decide) (by decide); omega)]; simp
      | 1, _ => rw [if_neg (by have := hz 2 (by decide) (by decide); omega), if_pos (by omega)]; simp
      | 2, _ => rw [if_pos p2]; rfl
    · have hj : j < cut ls 1 u := hj
      rw [← he u hu] at hj
      split at hj
      · rename_i c
        rw [c]
        omega
      · exact hj
end Go.Proofs.Ytomaagmleafjeaa.Md
