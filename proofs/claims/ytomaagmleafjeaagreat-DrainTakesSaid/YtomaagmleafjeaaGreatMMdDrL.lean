/- Drain's runs, plain: a Remove inside runs to its end, a Push inside runs to its end. -/
import Derived.Test.YtomaagmleafjeaaGreatMMdFilL
import Derived.Test.YtomaagmleafjeaaGreatMMdQs
set_option linter.unusedVariables false
set_option linter.unusedSimpArgs false
set_option linter.unusedVariables false
set_option linter.unusedSimpArgs false
set_option maxRecDepth 100000
namespace Go.Proofs.YtomaagmleafjeaaGreat.Md
open Go Go.RowKit Sx Cn Dc Ck Vc
def XRm.sh (x : XRm) (a : Nat) : XRm := { x with s := x.s + a }
def XPu.sh (x : XPu) (a : Nat) : XPu := { x with k := x.k + a }
def Re.sh (R : Re) (a : Nat) : Re := { R with k := R.k + a }
def Rs.sh (R : Rs) (a : Nat) : Rs := { R with k := R.k + a }
section
variable {y : Ly} {n : Nat} {w B : Int}
theorem rmStep_sh (a : Nat) (x : XRm) : rmStep y n w (x.sh a) = ((rmStep y n w x).1.sh a, (rmStep y n w x).2) := by
  unfold rmStep XRm.sh
  dsimp only
  repeat' split
  all_goals (dsimp only; simp only [Nat.add_right_comm])
theorem rmRun_sh (a : Nat) : ∀ (f : Nat) (x : XRm), rmRun y n w f (x.sh a) = (rmRun y n w f x).sh a
  | 0, x => by
    show (⟨-1, 0, ((x.s + a : Nat) : Int), x.m, x.l⟩ : Re) = ⟨-1, 0, (x.s : Int) + a, x.m, x.l⟩
    rw [Int.natCast_add]
  | f + 1, x => by
    rw [rmRun_s, rmRun_s, rmStep_sh]
    rcases h : rmStep y n w x with ⟨x', _ | r⟩
    · exact rmRun_sh a f x'
    · show (⟨r.1, r.2, ((x'.s + a : Nat) : Int), x'.m, x'.l⟩ : Re) = ⟨r.1, r.2, (x'.s : Int) + a, x'.m, x'.l⟩
      rw [Int.natCast_add]
theorem puStep_sh (l v : Int) (a : Nat) (q : Nat) (x : XPu) : puStep y n w l v (q, x.sh a) = (((puStep y n w l v (q, x)).1.1, (puStep y n w l v (q, x)).1.2.sh a), (puStep y n w l v (q, x)).2) := by
  rcases q with _ | _ | q
  · simp only [puStep, XPu.sh, Nat.add_right_comm]
  · show puStep y n w l v (1, x.sh a) = (((puStep y n w l v (1, x)).1.1, (puStep y n w l v (1, x)).1.2.sh a), (puStep y n w l v (1, x)).2)
    simp only [puStep, XPu.sh]
    by_cases c1 : x.ln = 1
    · simp only [if_pos c1, Nat.add_right_comm]
    · simp only [if_neg c1]
      by_cases c2 : x.ln = 2
      · simp only [if_pos c2]
        split <;> simp only [Nat.add_right_comm]
      · simp only [if_neg c2]
        split <;> simp only [Nat.add_right_comm]
  · show (((2, _), _) : (Nat × XPu) × Option (Int × Int)) = _
    simp only [puStep, XPu.sh, Nat.add_right_comm]
theorem puRun_s {l v : Int} (f : Nat) (s : Nat × XPu) : puRun y n w l v (f + 1) s = match puStep y n w l v s with
    | (x', none) => puRun y n w l v f x'
    | (x', some r) => ⟨r.1, r.2, (x'.2.k : Int), x'.2.m⟩ := by
  rcases h : puStep y n w l v s with ⟨x', _ | r⟩ <;> simp only [puRun, aRun, h]
theorem puRun_sh (l v : Int) (a : Nat) : ∀ (f q : Nat) (x : XPu), puRun y n w l v f (q, x.sh a) = (puRun y n w l v f (q, x)).sh a
  | 0, q, x => by
    show (⟨-1, 0, ((x.k + a : Nat) : Int), x.m⟩ : Rs) = ⟨-1, 0, (x.k : Int) + a, x.m⟩
    rw [Int.natCast_add]
  | f + 1, q, x => by
    rw [puRun_s, puRun_s, puStep_sh]
    rcases h : puStep y n w l v (q, x) with ⟨⟨q', x'⟩, _ | r⟩
    · exact puRun_sh l v a f q' x'
    · show (⟨r.1, r.2, ((x'.k + a : Nat) : Int), x'.m⟩ : Rs) = ⟨r.1, r.2, (x'.k : Int) + a, x'.m⟩
      rw [Int.natCast_add]
theorem drRun_s (f : Nat) (s : Nat × XDr) : drRun y n w B (f + 1) s = match drStep y n w B s with
    | none => none
    | some (x', none) => drRun y n w B f x'
    | some (x', some r) => some ⟨r.1, r.2, x'.2.r.s, x'.2.r.m, x'.2.r.l⟩ := rfl
def aftRm (R : Re) (d : XDr) : Nat × XDr := if R.c = 2 then (7, ⟨d.x, d.p, d.ls, d.c, d.dir, noRm 0 R.k.toNat R.m R.l, 0, 0, 0, 0, 0, 0⟩) else (3, ⟨R.v, d.p, d.ls, d.c, d.dir, noRm 0 R.k.toNat R.m R.l, 0, 0, 0, 0, 0, 0⟩)
theorem dr_rm : ∀ {f0 F : Nat} {d : XDr}, (rmRun y n w f0 d.r).c ≠ -1 → f0 ≤ F → ∃ F', F ≤ F' + f0 ∧ drRun y n w B F (2, d) = drRun y n w B F' (aftRm (rmRun y n w f0 d.r) d)
  | 0, F, d, h, _ => absurd rfl h
  | f0 + 1, 0, d, h, hF => by omega
  | f0 + 1, F + 1, d, h, hF => by
    rw [rmRun_s] at h ⊢
    rw [drRun_s]
    rcases hs : rmStep y n w d.r with ⟨r', _ | ⟨c, v⟩⟩
    · rw [hs] at h
      have e : drStep y n w B (2, d) = some ((2, ⟨d.x, d.p, d.ls, d.c, d.dir, r', 0, 0, 0, 0, 0, 0⟩), none) := by
        show (match rmStep y n w d.r with | (r, none) => _ | (r, some (c, v)) => _) = _
        rw [hs]
      rw [e]
      obtain ⟨F', h1, h2⟩ := dr_rm (f0 := f0) (F := F) (d := ⟨d.x, d.p, d.ls, d.c, d.dir, r', 0, 0, 0, 0, 0, 0⟩) h (by omega)
      exact ⟨F', by omega, h2⟩
    · rw [hs] at h
      refine ⟨F, by omega, ?_⟩
      by_cases hc : c = 2
      · have e : drStep y n w B (2, d) = some ((7, ⟨d.x, d.p, d.ls, d.c, d.dir, noRm 0 r'.s r'.m r'.l, 0, 0, 0, 0, 0, 0⟩), none) := by
          show (match rmStep y n w d.r with | (r, none) => _ | (r, some (c, v)) => _) = _
          rw [hs]
          exact if_pos hc
        rw [e]
        unfold aftRm
        dsimp only
        rw [if_pos hc, Int.toNat_natCast]
      · have e : drStep y n w B (2, d) = some ((3, ⟨v, d.p, d.ls, d.c, d.dir, noRm 0 r'.s r'.m r'.l, 0, 0, 0, 0, 0, 0⟩), none) := by
          show (match rmStep y n w d.r with | (r, none) => _ | (r, some (c, v)) => _) = _
          rw [hs]
          exact if_neg hc
        rw [e]
        unfold aftRm
        dsimp only
        rw [if_neg hc, Int.toNat_natCast]
def aftPu (B : Int) (R : Rs) (d : XDr) : Nat × XDr := if R.c = 3 then (7, ⟨d.x, d.p, d.ls, d.c, true, noRm 0 R.k.toNat R.m d.r.l, 0, 0, 0, 0, 0, 0⟩)
  else if IntKind.i64.wrap (d.c + 1) < B then (2, ⟨d.x, d.p, d.p, IntKind.i64.wrap (d.c + 1), d.dir, noRm 1 R.k.toNat R.m d.r.l, 0, 0, 0, 0, 0, 0⟩)
  else (7, ⟨d.x, d.p, d.p, IntKind.i64.wrap (d.c + 1), d.dir, noRm 0 R.k.toNat R.m d.r.l, 0, 0, 0, 0, 0, 0⟩)
theorem drStep_pu {q : Nat} (hq : q < 3) (d : XDr) : drStep y n w B (4 + q, d) = match puStep y n w d.p d.x (q, d.pu) with
    | ((q, u), none) => some ((4 + q, ⟨d.x, d.p, d.ls, d.c, d.dir, noRm 0 u.k u.m d.r.l, u.qt, u.qb, u.qr, u.qc, u.ln, u.b⟩), none)
    | ((q, u), some (c, _)) => if c = 3 then some ((7, ⟨d.x, d.p, d.ls, d.c, true, noRm 0 u.k u.m d.r.l, 0, 0, 0, 0, 0, 0⟩), none)
      else if IntKind.i64.wrap (d.c + 1) < B then some ((2, ⟨d.x, d.p, d.p, IntKind.i64.wrap (d.c + 1), d.dir, noRm 1 u.k u.m d.r.l, 0, 0, 0, 0, 0, 0⟩), none)
      else some ((7, ⟨d.x, d.p, d.p, IntKind.i64.wrap (d.c + 1), d.dir, noRm 0 u.k u.m d.r.l, 0, 0, 0, 0, 0, 0⟩), none) := by
  match q, hq with
  | 0, _ => rfl
  | 1, _ => rfl
  | 2, _ => rfl
theorem puStep_q {l v : Int} {q : Nat} (hq : q < 3) (x : XPu) : (puStep y n w l v (q, x)).1.1 < 3 := by
  match q, hq with
  | 0, _ => exact (by decide : (1 : Nat) < 3)
  | 1, _ =>
    show (puStep y n w l v (1, x)).1.1 < 3
    simp only [puStep]
    by_cases c1 : x.ln = 1
    · simp only [if_pos c1]; decide
    · simp only [if_neg c1]
      by_cases c2 : x.ln = 2
      · simp only [if_pos c2]
        split <;> exact (by decide : (1 : Nat) < 3)
      · simp only [if_neg c2]
        split
        · exact (by decide : (1 : Nat) < 3)
        · exact (by decide : (2 : Nat) < 3)
  | 2, _ => exact (by decide : (2 : Nat) < 3)
theorem dr_pu : ∀ {f0 F q : Nat} {d : XDr}, q < 3 → (puRun y n w d.p d.x f0 (q, d.pu)).c ≠ -1 → f0 ≤ F → ∃ F', F ≤ F' + f0 ∧ drRun y n w B F (4 + q, d) = drRun y n w B F' (aftPu B (puRun y n w d.p d.x f0 (q, d.pu)) d)
  | 0, F, q, d, _, h, _ => absurd rfl h
  | f0 + 1, 0, q, d, _, h, hF => by omega
  | f0 + 1, F + 1, q, d, hq, h, hF => by
    rw [puRun_s] at h ⊢
    rw [drRun_s, drStep_pu hq]
    have hq' := puStep_q (y := y) (n := n) (w := w) (l := d.p) (v := d.x) hq d.pu
    rcases hs : puStep y n w d.p d.x (q, d.pu) with ⟨⟨q', u⟩, _ | ⟨c, v⟩⟩
    · rw [hs] at h hq'
      obtain ⟨F', h1, h2⟩ := dr_pu (f0 := f0) (F := F) (q := q') (d := ⟨d.x, d.p, d.ls, d.c, d.dir, noRm 0 u.k u.m d.r.l, u.qt, u.qb, u.qr, u.qc, u.ln, u.b⟩) hq' h (by omega)
      exact ⟨F', by omega, h2⟩
    · rw [hs] at h
      refine ⟨F, by omega, ?_⟩
      unfold aftPu
      dsimp only
      by_cases hc : c = 3
      · rw [if_pos hc, if_pos hc, Int.toNat_natCast]
      · rw [if_neg hc, if_neg hc, Int.toNat_natCast]
        by_cases hb : IntKind.i64.wrap (d.c + 1) < B
        · rw [if_pos hb, if_pos hb]
        · rw [if_neg hb, if_neg hb]
end
end Go.Proofs.YtomaagmleafjeaaGreat.Md
