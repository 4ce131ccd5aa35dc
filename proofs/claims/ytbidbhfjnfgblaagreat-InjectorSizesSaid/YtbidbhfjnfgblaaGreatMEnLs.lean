/- InjectorSizes: the law: what is asked. -/
import Derived.Test.YtbidbhfjnfgblaaGreatMEnI
import Derived.Test.YtbidbhfjnfgblaaGreatMMdAw16
import Derived.Test.YtbidbhfjnfgblaaGreatMW
import Derived.Test.YtbidbhfjnfgblaaGreatMV
import Derived.Test.YtbidbhfjnfgblaaGreatMNw
import Derived.Test.YtbidbhfjnfgblaaGreatMMd
set_option linter.unusedVariables false
set_option linter.unusedSimpArgs false
set_option maxRecDepth 100000
namespace Go.Proofs.YtbidbhfjnfgblaaGreat.En
open Go Go.RowKit Sx Cn Dc Ck Vc Md
noncomputable section
def laLs (n : Nat) (s : St) : Option (LA XIm) := match pmBs 18 s, rmBs 19 s with
  | some p, some r => some ⟨[(envM 18, true), (envC 18, true), (tmK 19, true), (renC 19, true)], fun x => p x.m ++ r x.m, [21], fun x => [iv x.i],
    fun s => match tmI 21 s, rdMm s.H.h (envM 18 s) with | some i, some y => some ⟨i, y.m⟩ | _, _ => none, fun x => 0 ≤ x.i ∧ x.i ≤ n ∧ okMw (1000000 + x.i) x.m, fun x => n - x.i.toNat⟩
  | _, _ => none
def laSz (_ : St) : Option (LA Int) := some ⟨[], fun _ => [], [2], fun x => [iv x], fun s => tmI 2 s, fun _ => True, fun _ => 0⟩
def conLs : Con := Con.add 8 conYes (Con.add 16 conCfg (Con.add fEv cEv (Con.add fMt cMi (Con.add fRA cRA (Con.add fAt xAt (conU con0))))))
def verLs (p : Int) (g1 g2 : Nat → Int) (l1 c1 l2 c2 : Nat) (size d t : Int) (rem near : Bool) : V := verF P conLs 6 8 3 [] (.cut 4006 Int laSz .nil (.loop XIm [] (laLs l1) .nil .nil))
  [.c (.iv .u8 p), .c (slK 0 1 l1 c1), iv size, .c (slK 1 1 l2 c2), iv d, iv t, .c (.bv rem), .c (.bv near)] ⟨[(0, ints .u64 l1 g1), (1, ints .i64 l2 g2)], 2, fun _ => True⟩ yesV
end
end Go.Proofs.YtbidbhfjnfgblaaGreat.En

/- InjectorSizes: the conditions, printed by program. -/
set_option maxRecDepth 100000
namespace Go.Proofs.YtbidbhfjnfgblaaGreat.En
open Go Go.RowKit Sx Cn Dc Ck Vc Md

abbrev qLs0 (a0 : Int) (a1 : Nat × Nat × (Nat → Nat)) (k : V) : V := V.need (lS (Cf.mk (Int.ofNat 1) (Int.ofNat 1) (Int.ofNat 1) (Int.ofNat 256) (Int.ofNat 1) (IntKind.i64.wrap (Int.ofNat 1 + IntKind.i64.wrap (a0.tmod (Int.ofNat 9)))) (Int.ofNat 1) (Int.ofNat 0) (Int.ofNat 1) 1 a1.fst 0 a1.snd.fst (fun (e : Nat) => 0) a1.snd.snd (fun (i e : Nat) => cO (fun (x : Nat) => Int.ofNat 0) 0 i e) (fun (i e : Nat) => cA (fun (x : Nat) => Int.ofNat 0) 0 i e) (fun (i e : Nat) => cB (fun (x : Nat) => Int.ofNat 0) 0 i e) (fun (e : Nat) => uP (fun (x : Nat) => Int.ofNat 0) 0 e) (fun (e : Nat) => uL (fun (x : Nat) => Int.ofNat 0) 0 e) fun (e : Nat) => uD (fun (x : Nat) => Int.ofNat 0) 0 e) = lS (Cf.mk (Int.ofNat 1) (Int.ofNat 1) (Int.ofNat 1) (Int.ofNat 256) (Int.ofNat 1) (IntKind.i64.wrap (Int.ofNat 1 + IntKind.i64.wrap (a0.tmod (Int.ofNat 9)))) (Int.ofNat 1) (Int.ofNat 0) (Int.ofNat 1) 1 a1.fst 0 a1.snd.fst (fun (x : Nat) => 0) (fun (x : Nat) => 0) (fun (x x_7 : Nat) => Int.ofNat 0) (fun (x x_7 : Nat) => Int.ofNat 0) (fun (x x_7 : Nat) => Int.ofNat 0) (fun (x : Nat) => Int.ofNat 0) (fun (x : Nat) => Int.ofNat 0) fun (x : Nat) => Int.ofNat 0)) (V.need (lE (Cf.mk (Int.ofNat 1) (Int.ofNat 1) (Int.ofNat 1) (Int.ofNat 256) (Int.ofNat 1) (IntKind.i64.wrap (Int.ofNat 1 + IntKind.i64.wrap (a0.tmod (Int.ofNat 9)))) (Int.ofNat 1) (Int.ofNat 0) (Int.ofNat 1) 1 a1.fst 0 a1.snd.fst (fun (e : Nat) => 0) a1.snd.snd (fun (i e : Nat) => cO (fun (x : Nat) => Int.ofNat 0) 0 i e) (fun (i e : Nat) => cA (fun (x : Nat) => Int.ofNat 0) 0 i e) (fun (i e : Nat) => cB (fun (x : Nat) => Int.ofNat 0) 0 i e) (fun (e : Nat) => uP (fun (x : Nat) => Int.ofNat 0) 0 e) (fun (e : Nat) => uL (fun (x : Nat) => Int.ofNat 0) 0 e) fun (e : Nat) => uD (fun (x : Nat) => Int.ofNat 0) 0 e) = lE (Cf.mk (Int.ofNat 1) (Int.ofNat 1) (Int.ofNat 1) (Int.ofNat 256) (Int.ofNat 1) (IntKind.i64.wrap (Int.ofNat 1 + IntKind.i64.wrap (a0.tmod (Int.ofNat 9)))) (Int.ofNat 1) (Int.ofNat 0) (Int.ofNat 1) 1 a1.fst 0 a1.snd.fst (fun (x : Nat) => 0) (fun (x : Nat) => 0) (fun (x x_7 : Nat) => Int.ofNat 0) (fun (x x_7 : Nat) => Int.ofNat 0) (fun (x x_7 : Nat) => Int.ofNat 0) (fun (x : Nat) => Int.ofNat 0) (fun (x : Nat) => Int.ofNat 0) fun (x : Nat) => Int.ofNat 0)) k)
abbrev qLs1 (a0 : Nat) (a1 : Nat → Int) (a2 : Int) (a3 : Nat × Nat × (Nat → Nat)) (a4 : Ev) (a5 : Mm) (a6 : Rk) (k : V) : V := nN [(1, .pf (∀ (i e : Nat), i < 1 ∧ e < a0 → a1 e = a1 e) (by intros; rfl))] (V.need (okMi (Cf.mk (Int.ofNat 1) (Int.ofNat 1) (Int.ofNat 1) (Int.ofNat 256) (Int.ofNat 1) (IntKind.i64.wrap (Int.ofNat 1 + IntKind.i64.wrap (a2.tmod (Int.ofNat 9)))) (Int.ofNat 1) (Int.ofNat 0) (Int.ofNat 1) 1 a3.fst 0 a3.snd.fst (fun (x : Nat) => 0) (fun (x : Nat) => 0) (fun (x x_7 : Nat) => Int.ofNat 0) (fun (x x_7 : Nat) => Int.ofNat 0) (fun (x x_7 : Nat) => Int.ofNat 0) (fun (x : Nat) => Int.ofNat 0) (fun (x : Nat) => Int.ofNat 0) fun (x : Nat) => Int.ofNat 0) (Ev.mk (Cf.mk (Int.ofNat 1) (Int.ofNat 1) (Int.ofNat 1) (Int.ofNat 256) (Int.ofNat 1) (IntKind.i64.wrap (Int.ofNat 1 + IntKind.i64.wrap (a2.tmod (Int.ofNat 9)))) (Int.ofNat 1) (Int.ofNat 0) (Int.ofNat 1) 1 a3.fst 0 a3.snd.fst (fun (x : Nat) => 0) (fun (x : Nat) => 0) (fun (x x_7 : Nat) => Int.ofNat 0) (fun (x x_7 : Nat) => Int.ofNat 0) (fun (x x_7 : Nat) => Int.ofNat 0) (fun (x : Nat) => Int.ofNat 0) (fun (x : Nat) => Int.ofNat 0) fun (x : Nat) => Int.ofNat 0) a4.n a5 (Rk.mk a6.n a6.p a6.pa a6.pc a6.lf a6.wt a6.kl a6.kd fun (i : Nat) => a6.st i) a4.now a4.dr (Rm.mk a4.a.c a4.a.r a4.a.k a4.a.e) (Rm.mk a4.b.c a4.b.r a4.b.k a4.b.e))) k)
abbrev qLs2 (a0 : Int) (a1 : Nat × Nat × (Nat → Nat)) (k : V) : V := V.need (lB (Cf.mk (Int.ofNat 1) (Int.ofNat 1) (Int.ofNat 1) (Int.ofNat 256) (Int.ofNat 1) (IntKind.i64.wrap (Int.ofNat 1 + IntKind.i64.wrap (a0.tmod (Int.ofNat 9)))) (Int.ofNat 1) (Int.ofNat 0) (Int.ofNat 1) 1 a1.fst 0 a1.snd.fst (fun (e : Nat) => 0) a1.snd.snd (fun (i e : Nat) => cO (fun (x : Nat) => Int.ofNat 0) 0 i e) (fun (i e : Nat) => cA (fun (x : Nat) => Int.ofNat 0) 0 i e) (fun (i e : Nat) => cB (fun (x : Nat) => Int.ofNat 0) 0 i e) (fun (e : Nat) => uP (fun (x : Nat) => Int.ofNat 0) 0 e) (fun (e : Nat) => uL (fun (x : Nat) => Int.ofNat 0) 0 e) fun (e : Nat) => uD (fun (x : Nat) => Int.ofNat 0) 0 e) = lB (Cf.mk (Int.ofNat 1) (Int.ofNat 1) (Int.ofNat 1) (Int.ofNat 256) (Int.ofNat 1) (IntKind.i64.wrap (Int.ofNat 1 + IntKind.i64.wrap (a0.tmod (Int.ofNat 9)))) (Int.ofNat 1) (Int.ofNat 0) (Int.ofNat 1) 1 a1.fst 0 a1.snd.fst (fun (x : Nat) => 0) (fun (x : Nat) => 0) (fun (x x_7 : Nat) => Int.ofNat 0) (fun (x x_7 : Nat) => Int.ofNat 0) (fun (x x_7 : Nat) => Int.ofNat 0) (fun (x : Nat) => Int.ofNat 0) (fun (x : Nat) => Int.ofNat 0) fun (x : Nat) => Int.ofNat 0)) (V.need (lQ (Cf.mk (Int.ofNat 1) (Int.ofNat 1) (Int.ofNat 1) (Int.ofNat 256) (Int.ofNat 1) (IntKind.i64.wrap (Int.ofNat 1 + IntKind.i64.wrap (a0.tmod (Int.ofNat 9)))) (Int.ofNat 1) (Int.ofNat 0) (Int.ofNat 1) 1 a1.fst 0 a1.snd.fst (fun (e : Nat) => 0) a1.snd.snd (fun (i e : Nat) => cO (fun (x : Nat) => Int.ofNat 0) 0 i e) (fun (i e : Nat) => cA (fun (x : Nat) => Int.ofNat 0) 0 i e) (fun (i e : Nat) => cB (fun (x : Nat) => Int.ofNat 0) 0 i e) (fun (e : Nat) => uP (fun (x : Nat) => Int.ofNat 0) 0 e) (fun (e : Nat) => uL (fun (x : Nat) => Int.ofNat 0) 0 e) fun (e : Nat) => uD (fun (x : Nat) => Int.ofNat 0) 0 e) = lQ (Cf.mk (Int.ofNat 1) (Int.ofNat 1) (Int.ofNat 1) (Int.ofNat 256) (Int.ofNat 1) (IntKind.i64.wrap (Int.ofNat 1 + IntKind.i64.wrap (a0.tmod (Int.ofNat 9)))) (Int.ofNat 1) (Int.ofNat 0) (Int.ofNat 1) 1 a1.fst 0 a1.snd.fst (fun (x : Nat) => 0) (fun (x : Nat) => 0) (fun (x x_7 : Nat) => Int.ofNat 0) (fun (x x_7 : Nat) => Int.ofNat 0) (fun (x x_7 : Nat) => Int.ofNat 0) (fun (x : Nat) => Int.ofNat 0) (fun (x : Nat) => Int.ofNat 0) fun (x : Nat) => Int.ofNat 0)) (V.need (lT (Cf.mk (Int.ofNat 1) (Int.ofNat 1) (Int.ofNat 1) (Int.ofNat 256) (Int.ofNat 1) (IntKind.i64.wrap (Int.ofNat 1 + IntKind.i64.wrap (a0.tmod (Int.ofNat 9)))) (Int.ofNat 1) (Int.ofNat 0) (Int.ofNat 1) 1 a1.fst 0 a1.snd.fst (fun (e : Nat) => 0) a1.snd.snd (fun (i e : Nat) => cO (fun (x : Nat) => Int.ofNat 0) 0 i e) (fun (i e : Nat) => cA (fun (x : Nat) => Int.ofNat 0) 0 i e) (fun (i e : Nat) => cB (fun (x : Nat) => Int.ofNat 0) 0 i e) (fun (e : Nat) => uP (fun (x : Nat) => Int.ofNat 0) 0 e) (fun (e : Nat) => uL (fun (x : Nat) => Int.ofNat 0) 0 e) fun (e : Nat) => uD (fun (x : Nat) => Int.ofNat 0) 0 e) = lT (Cf.mk (Int.ofNat 1) (Int.ofNat 1) (Int.ofNat 1) (Int.ofNat 256) (Int.ofNat 1) (IntKind.i64.wrap (Int.ofNat 1 + IntKind.i64.wrap (a0.tmod (Int.ofNat 9)))) (Int.ofNat 1) (Int.ofNat 0) (Int.ofNat 1) 1 a1.fst 0 a1.snd.fst (fun (x : Nat) => 0) (fun (x : Nat) => 0) (fun (x x_7 : Nat) => Int.ofNat 0) (fun (x x_7 : Nat) => Int.ofNat 0) (fun (x x_7 : Nat) => Int.ofNat 0) (fun (x : Nat) => Int.ofNat 0) (fun (x : Nat) => Int.ofNat 0) fun (x : Nat) => Int.ofNat 0)) k))
abbrev qLs3 (l : List (Nat × P0)) : List (Nat × P0) := (1, .le 0 1) :: (1, .pf (∀ (i : Nat), i < 0 → 0 ≤ 0) (by intros; exact Nat.le_refl _)) :: l
abbrev qLs4 (a0 : Rk) (l : List (Nat × P0)) : List (Nat × P0) := (1, .pf (∀ (i e : Nat), i = 0 ∧ e < a0.n → a0.p e = a0.p e) (by intros; rfl)) :: (1, .pf (∀ (i e : Nat), i = 0 ∧ e < a0.n → a0.pa e = a0.pa e) (by intros; rfl)) :: (1, .pf (∀ (i e : Nat), i = 0 ∧ e < a0.n → a0.pc e = a0.pc e) (by intros; rfl)) :: l
abbrev qLs5 (a0 : Rk) (a1 : Ev) (k : V) : V := V.need (∀ (i : Nat), i < a0.n → a0.kl i ≤ upto a0.n a0.kl i ∧ a0.kl i ≤ a1.a.k i) (nN [(1, .pf (∀ (i e : Nat), i < a0.n ∧ e < a0.kl i → a0.kd i e = a0.kd i e) (by intros; rfl))] k)
abbrev qLs6 (a0 : Rk) (a1 : Ev) (k : V) : V := V.need (∀ (i : Nat), i < a0.n → a0.kl i ≤ upto a0.n a0.kl i ∧ a0.kl i ≤ a1.b.k i) (nN [(1, .pf (∀ (i e : Nat), i < a0.n ∧ e < a0.kl i → a0.kd i e = a0.kd i e) (by intros; rfl))] k)
abbrev qLs7 (l : List (Nat × P0)) : List (Nat × P0) := qF 0 (fun (e : Nat) => Int.ofNat 0) :: qF 0 (fun (e : Nat) => Int.ofNat 0) :: l
abbrev qLs8 (a0 : Rk) (a1 : Ev) (l : List (Nat × P0)) : List (Nat × P0) := (1, .pf (∀ (i e : Nat), i = 0 ∧ e < a0.n → a1.a.k e = a1.a.k e) (by intros; rfl)) :: (1, .pf (∀ (i e : Nat), i = 0 ∧ e < a0.n → a0.st e = a0.st e) (by intros; rfl)) :: l
abbrev qLs9 (a0 : Rk) (a1 : Ev) (l : List (Nat × P0)) : List (Nat × P0) := (1, .pf (∀ (i e : Nat), i = 0 ∧ e < a0.n → a1.b.k e = a1.b.k e) (by intros; rfl)) :: (1, .pf (∀ (i e : Nat), i = 0 ∧ e < a0.n → a0.st e = a0.st e) (by intros; rfl)) :: l
abbrev qLs10 (a0 : Ev) (a1 : Int) (k : V) : V := V.need (a0.d.D = Int.ofNat 1) (V.need (a0.d.H = IntKind.i64.wrap (Int.ofNat 1 + IntKind.i64.wrap (a1.tmod (Int.ofNat 9)))) k)
abbrev qLs11 (a0 : Ev) (a1 a2 : Mm) (k : V) : V := nN [qL a0.n] (V.need (∀ (e : Nat), e < a0.n → a1.g e = a2.g e) k)
abbrev qLs12 (a0 : Nat) (l : List (Nat × P0)) : List (Nat × P0) := (1, .le 1 1) :: (1, .pf (∀ (i : Nat), i < 1 → a0 ≤ a0) (by intros; exact Nat.le_refl _)) :: l
abbrev qLs13 (a0 : XIm) (a1 : Nat) (k : V) : V := V.need (Int.ofNat 0 ≤ a0.i ∧ a0.i < (↑a1 : Int)) (V.need (0 < 1 ∧ 0 + a0.i.toNat < a1) (V.need (0 < 1 ∧ 0 + a0.i.toNat < a1) k))
abbrev qLs14 (a0 : Ev) (k : V) : V := V.need (a0.d.C = Int.ofNat 1) (V.need (a0.d.T = Int.ofNat 256) k)
abbrev qLs15 (a0 : Ev) (k : V) : V := V.need (a0.d.W = Int.ofNat 1) (V.need (a0.d.L = Int.ofNat 1) k)
abbrev qLs16 (a0 : Ev) (l : List (Nat × P0)) : List (Nat × P0) := qE a0.now :: qE a0.dr :: l
abbrev qLs17 (a0 : Int) (l : List (Nat × P0)) : List (Nat × P0) := (3, .eqI 1 1) :: (1, .eqI 256 256) :: (1, .eqI 1 1) :: qE (IntKind.i64.wrap (Int.ofNat 1 + IntKind.i64.wrap (a0.tmod (Int.ofNat 9)))) :: l
abbrev qLs18 (a0 : Ev) (l : List (Nat × P0)) : List (Nat × P0) := qE a0.b.r :: (1, .eq 0 0) :: qE a0.b.e :: qE a0.b.c :: l
abbrev qLs19 (a0 : Rk) (a1 : Ev) (k : V) : V := V.need (a0.n ≤ a0.n ∧ a0.n ≤ a1.a.r) (nN (qLs4 a0 []) k)
abbrev qLs20 (a0 : Rk) (a1 : Ev) (k : V) : V := V.need (a0.n ≤ a0.n ∧ a0.n ≤ a1.b.r) (nN (qLs4 a0 []) k)
abbrev qLs21 (l : List (Nat × P0)) : List (Nat × P0) := qLs7 (qF 0 (fun (e : Nat) => Int.ofNat 0) :: l)
abbrev qLs22 (a0 : XIm) (l : List (Nat × P0)) : List (Nat × P0) := qE a0.m.lk :: qE a0.m.lc :: qE a0.m.lo :: qE a0.m.ln :: qE a0.m.ct :: l
abbrev qLs23 (a0 : Ev) (k : V) : V := V.need (a0.d.B = Int.ofNat 1) (V.need (a0.d.A = Int.ofNat 0) (V.need (a0.d.P = Int.ofNat 1) k))
abbrev qLs24 (a0 : Ev) (l : List (Nat × P0)) : List (Nat × P0) := qE a0.n :: qE a0.a.c :: l
abbrev qLs25 (a0 : Ev) (l : List (Nat × P0)) : List (Nat × P0) := qE a0.a.c :: qL a0.n :: l
abbrev qLs26 (a0 : Rk) (l : List (Nat × P0)) : List (Nat × P0) := (1, .pf (∀ (i e : Nat), i = 0 ∧ e < a0.n → a0.lf e = a0.lf e) (by intros; rfl)) :: (1, .pf (∀ (i e : Nat), i = 0 ∧ e < a0.n → a0.wt e = a0.wt e) (by intros; rfl)) :: (1, .pf (∀ (i e : Nat), i = 0 ∧ e < a0.n → e = e) (by intros; rfl)) :: (1, .pf (∀ (i e : Nat), i = 0 ∧ e < a0.n → a0.kl e = a0.kl e) (by intros; rfl)) :: l
abbrev qLs27 (a0 : Ev) (k : V) : V := V.need (0 ≤ 0 ∧ 0 ≤ a0.a.e) (nN [(5, .pf (∀ (i e : Nat), i = 0 ∧ e < 0 → Int.ofNat 0 = Int.ofNat 0) (by intros; rfl))] k)
abbrev qLs28 (a0 : Ev) (k : V) : V := V.need (0 ≤ 0 ∧ 0 ≤ a0.b.e) (nN [(5, .pf (∀ (i e : Nat), i = 0 ∧ e < 0 → Int.ofNat 0 = Int.ofNat 0) (by intros; rfl))] k)
abbrev qLs29 (a0 : Int) (a1 : Nat × Nat × (Nat → Nat)) (l : List (Nat × P0)) : List (Nat × P0) := qLs17 a0 ((1, .eqI 1 1) :: (1, .eqI 0 0) :: (1, .eqI 1 1) :: (1, .eq 1 1) :: qE a1.fst :: (1, .eq 0 0) :: qE a1.snd.fst :: l)
abbrev qLs30 (a0 a1 : Mm) (k : V) : V := V.need (a0.lk = a1.lk) (V.need (a0.lc = a1.lc) (V.need (a0.lo = a1.lo) (V.need (a0.ln = a1.ln) (V.need (a0.ct = a1.ct) k))))
abbrev qLs31 (a0 : Rk) (k : V) : V := nN [(1, .le 0 1)] (V.need (∀ (i : Nat), i < 0 → 0 ≤ a0.n) k)
abbrev qLs32 (k : V) : V := nN [(1, .le 0 1)] (V.need (∀ (i : Nat), i < 0 → 0 ≤ 1) (nN (qLs3 []) k))
abbrev qLs33 (a0 : Int) (a1 : Nat × Nat × (Nat → Nat)) (a2 : Ev) (l : List (Nat × P0)) : List (Nat × P0) := qLs29 a0 a1 (qE a2.n :: qE a2.b.c :: l)
abbrev qLs34 (a0 : Int) (l : List (Nat × P0)) : List (Nat × P0) := (1, .eqI 2 2) :: qE (IntKind.u64.wrap a0) :: l
abbrev qLs35 (a0 : Mm) (l : List (Nat × P0)) : List (Nat × P0) := qE a0.lk :: qE a0.lc :: qE a0.lo :: qE a0.ln :: qE a0.ct :: l
abbrev qLs36 (a0 : Nat → Int) (a1 : XIm) (l : List (Nat × P0)) : List (Nat × P0) := qE (Int.negSucc 0) :: qE (a0 (0 + a1.i.toNat)) :: l
abbrev qLs37 (a0 : Ev) (a1 : Mm) (l : List (Nat × P0)) : List (Nat × P0) := qLs24 a0 (qLs35 a1 (qLs25 a0 (qF a0.n a1.g :: l)))
abbrev qLs38 (a0 : XIm) (a1 : Nat → Int) (l : List (Nat × P0)) : List (Nat × P0) := qE (IntKind.i64.wrap (Int.ofNat 4 + IntKind.i64.wrap (a0.i * Int.ofNat 1))) :: qE (a1 (0 + a0.i.toNat)) :: l
abbrev qLs39 (a0 : XIm) (a1 : Nat) (a2 : Mm) (k : V) : V := V.need (Int.ofNat 0 ≤ IntKind.i64.wrap (a0.i + Int.ofNat 1) ∧ IntKind.i64.wrap (a0.i + Int.ofNat 1) ≤ (↑a1 : Int) ∧ okMw (Int.ofNat 1000000 + IntKind.i64.wrap (a0.i + Int.ofNat 1)) a2) (V.need (a1 - (IntKind.i64.wrap (a0.i + Int.ofNat 1)).toNat < a1 - a0.i.toNat) (nN [qE (IntKind.i64.wrap (a0.i + Int.ofNat 1))] k))
abbrev qLs40 (l : List (Nat × P0)) : List (Nat × P0) := (2, .eq 1 1) :: (1, .le 1 1) :: l
set_option maxHeartbeats 8000000 in
theorem verLs_eq (p : Int) (g1 g2 : Nat → Int) (l1 c1 l2 c2 : Nat) (size d t : Int) (rem near : Bool) : V.pr (.b .z (.b .z (.b .z (.b (.b (.b (.t .z) (.b (.f (.t .z)) (.f (.f .z)))) .z) .z)))) (verLs p g1 g2 l1 c1 l2 c2 size d t rem near) =
  V.br (decide ((↑l1 : Int) > Int.ofNat 80)) (V.ok) (nN [(2, .lt 0 1)] (V.br (decide ((↑l2 : Int) > Int.ofNat 400)) (V.ok) (nN [(1, .neI 9 0)] (V.need ((U8 0 fun (x : Nat) => Int.ofNat 0) ∧ 0 ≤ 9) (V.need (∃ (x : Nat × Nat × (Nat → Nat)), 1 ≤ x.fst) (V.any (Nat × Nat × (Nat → Nat)) (fun (x : Nat × Nat × (Nat → Nat)) => 1 ≤ x.fst) fun (x : Nat × Nat × (Nat → Nat)) => nN [qE size] (V.any Bool (fun (x : Bool) => True) fun (x_1 : Bool) => V.br x_1
 (V.br near
 (nN [(2, .lt2 0 1 0 1), (1, .neI 1 0), (2, .lt2 0 1 0 1), (1, .neI 1 0), (1, .neI 7 0), (1, .neI 1 0)] (V.br (decide (IntKind.i64.wrap (IntKind.i64.wrap (Int.ofNat 1 + IntKind.i64.wrap (p.tmod (Int.ofNat 9))) + Int.ofNat 2) < Int.ofNat 1)) (V.need True (nN [(1, .eqI 0 0)] V.ok)) (V.need (IntKind.i64.wrap (IntKind.i64.wrap (Int.ofNat 1 + IntKind.i64.wrap (p.tmod (Int.ofNat 9))) + Int.ofNat 2) ≠ Int.ofNat 0) (V.br (decide ((IntKind.i64.wrap (size.tdiv (Int.ofNat 1))).tmod (IntKind.i64.wrap (IntKind.i64.wrap (Int.ofNat 1 + IntKind.i64.wrap (p.tmod (Int.ofNat 9))) + Int.ofNat 2)) < Int.ofNat 0)) (V.need (IntKind.i64.wrap (IntKind.i64.wrap (Int.ofNat 1 + IntKind.i64.wrap (p.tmod (Int.ofNat 9))) + Int.ofNat 2) ≠ Int.ofNat 0) (V.need True (nN [qE (IntKind.i64.wrap ((IntKind.i64.wrap (size.tdiv (Int.ofNat 1))).tmod (IntKind.i64.wrap (IntKind.i64.wrap (Int.ofNat 1 + IntKind.i64.wrap (p.tmod (Int.ofNat 9))) + Int.ofNat 2)) + IntKind.i64.wrap (IntKind.i64.wrap (Int.ofNat 1 + IntKind.i64.wrap (p.tmod (Int.ofNat 9))) + Int.ofNat 2)))] V.ok))) (V.need (IntKind.i64.wrap (IntKind.i64.wrap (Int.ofNat 1 + IntKind.i64.wrap (p.tmod (Int.ofNat 9))) + Int.ofNat 2) ≠ Int.ofNat 0) (V.need True (nN [qE ((IntKind.i64.wrap (size.tdiv (Int.ofNat 1))).tmod (IntKind.i64.wrap (IntKind.i64.wrap (Int.ofNat 1 + IntKind.i64.wrap (p.tmod (Int.ofNat 9))) + Int.ofNat 2)))] V.ok)))))))
 (V.need True (nN [qE size] V.ok)))
 (V.any Int (fun (x : Int) => True) fun (x_2 : Int) => nN ((11, .lt2 0 1 0 1) :: qLs29 p x [(1, .le 1 1), (1, .pf (∀ (i : Nat), i < 1 → 1 ≤ 1) (by intros; exact Nat.le_refl _)), (1, .pf (∀ (i e : Nat), i < 1 ∧ e < 1 → e = e) (by intros; rfl)), (1, .pf (∀ (i e : Nat), i < 1 ∧ e < 1 → 0 = 0) (by intros; rfl)), (1, .pf (∀ (i e : Nat), i < 1 ∧ e < 1 → x.snd.snd e = x.snd.snd e) (by intros; rfl)), (1, .le 1 1), (1, .pf (∀ (i : Nat), i < 1 → 0 ≤ 0) (by intros; exact Nat.le_refl _)), (1, .pf (∀ (i e : Nat), i < 1 ∧ e < 0 → uP (fun (x : Nat) => Int.ofNat 0) 0 e = uP (fun (x : Nat) => Int.ofNat 0) 0 e) (by intros; rfl)), (1, .pf (∀ (i e : Nat), i < 1 ∧ e < 0 → uL (fun (x : Nat) => Int.ofNat 0) 0 e = uL (fun (x : Nat) => Int.ofNat 0) 0 e) (by intros; rfl)), (1, .pf (∀ (i e : Nat), i < 1 ∧ e < 0 → uD (fun (x : Nat) => Int.ofNat 0) 0 e = uD (fun (x : Nat) => Int.ofNat 0) 0 e) (by intros; rfl))]) (V.need (∀ (i : Nat), i < 1 → 0 ≤ gd 1 (fun (x : Nat) => 0) i ∧ 0 ≤ gd 1 x.snd.snd i) (nN [(1, .pf (∀ (i e : Nat), i < 1 ∧ e < 0 → cO (fun (x : Nat) => Int.ofNat 0) 0 i e = cO (fun (x : Nat) => Int.ofNat 0) 0 i e) (by intros; rfl)), (1, .pf (∀ (i e : Nat), i < 1 ∧ e < 0 → cA (fun (x : Nat) => Int.ofNat 0) 0 i e = cA (fun (x : Nat) => Int.ofNat 0) 0 i e) (by intros; rfl)), (1, .pf (∀ (i e : Nat), i < 1 ∧ e < 0 → cB (fun (x : Nat) => Int.ofNat 0) 0 i e = cB (fun (x : Nat) => Int.ofNat 0) 0 i e) (by intros; rfl))] (V.need (errE (Cf.mk (Int.ofNat 1) (Int.ofNat 1) (Int.ofNat 1) (Int.ofNat 256) (Int.ofNat 1) (IntKind.i64.wrap (Int.ofNat 1 + IntKind.i64.wrap (p.tmod (Int.ofNat 9)))) (Int.ofNat 1) (Int.ofNat 0) (Int.ofNat 1) 1 x.fst 0 x.snd.fst (fun (e : Nat) => 0) x.snd.snd (fun (i e : Nat) => cO (fun (x : Nat) => Int.ofNat 0) 0 i e) (fun (i e : Nat) => cA (fun (x : Nat) => Int.ofNat 0) 0 i e) (fun (i e : Nat) => cB (fun (x : Nat) => Int.ofNat 0) 0 i e) (fun (e : Nat) => uP (fun (x : Nat) => Int.ofNat 0) 0 e) (fun (e : Nat) => uL (fun (x : Nat) => Int.ofNat 0) 0 e) fun (e : Nat) => uD (fun (x : Nat) => Int.ofNat 0) 0 e) = Int.ofNat 0) (V.need (∃ (x_3 : Ev), okEv (Cf.mk (Int.ofNat 1) (Int.ofNat 1) (Int.ofNat 1) (Int.ofNat 256) (Int.ofNat 1) (IntKind.i64.wrap (Int.ofNat 1 + IntKind.i64.wrap (p.tmod (Int.ofNat 9)))) (Int.ofNat 1) (Int.ofNat 0) (Int.ofNat 1) 1 x.fst 0 x.snd.fst (fun (e : Nat) => 0) x.snd.snd (fun (i e : Nat) => cO (fun (x : Nat) => Int.ofNat 0) 0 i e) (fun (i e : Nat) => cA (fun (x : Nat) => Int.ofNat 0) 0 i e) (fun (i e : Nat) => cB (fun (x : Nat) => Int.ofNat 0) 0 i e) (fun (e : Nat) => uP (fun (x : Nat) => Int.ofNat 0) 0 e) (fun (e : Nat) => uL (fun (x : Nat) => Int.ofNat 0) 0 e) fun (e : Nat) => uD (fun (x : Nat) => Int.ofNat 0) 0 e) x_3) (V.any Ev (okEv (Cf.mk (Int.ofNat 1) (Int.ofNat 1) (Int.ofNat 1) (Int.ofNat 256) (Int.ofNat 1) (IntKind.i64.wrap (Int.ofNat 1 + IntKind.i64.wrap (p.tmod (Int.ofNat 9)))) (Int.ofNat 1) (Int.ofNat 0) (Int.ofNat 1) 1 x.fst 0 x.snd.fst (fun (e : Nat) => 0) x.snd.snd (fun (i e : Nat) => cO (fun (x : Nat) => Int.ofNat 0) 0 i e) (fun (i e : Nat) => cA (fun (x : Nat) => Int.ofNat 0) 0 i e) (fun (i e : Nat) => cB (fun (x : Nat) => Int.ofNat 0) 0 i e) (fun (e : Nat) => uP (fun (x : Nat) => Int.ofNat 0) 0 e) (fun (e : Nat) => uL (fun (x : Nat) => Int.ofNat 0) 0 e) fun (e : Nat) => uD (fun (x : Nat) => Int.ofNat 0) 0 e)) fun (x_3 : Ev) => V.need True (V.need (Int.ofNat 0 ≤ Int.ofNat 0 ∧ Int.ofNat 0 ≤ (↑l1 : Int) ∧ okMw (Int.ofNat 1000000 + Int.ofNat 0) x_3.m) (nN ((1, .eqI 0 0) :: qLs37 x_3 x_3.m (qLs33 p x x_3 (qLs35 x_3.m (qLs16 x_3 (qE x_3.x.n :: qLs18 x_3 [qL x_3.n, qF x_3.n x_3.m.g]))))) (V.any XIm (fun (x : XIm) => Int.ofNat 0 ≤ x.i ∧ x.i ≤ (↑l1 : Int) ∧ okMw (Int.ofNat 1000000 + x.i) x.m) fun (x_4 : XIm) => V.br (decide (x_4.i < (↑l1 : Int)))
 (nN [(2, .lt2 0 1 0 1)] (V.br (decide (x_4.i < IntKind.i64.wrap (Int.ofNat 1 + IntKind.i64.wrap (p.tmod (Int.ofNat 9)))))
 (nN [(14, .lt2 0 1 0 1)] (V.br (decide (x_4.i < Int.ofNat 0))
 (qLs13 x_4 l1 (nN (qLs36 g1 x_4 (qLs24 x_3 (qLs22 x_4 (qLs25 x_3 [qF x_3.n x_4.m.g, qX (x_4.m.acc x_3.n (Int.ofNat 2) (Int.negSucc 0) (g1 (0 + x_4.i.toNat)))])))) (V.any Mm (fun (m' : Mm) => m' = x_4.m.acc x_3.n (Int.ofNat 2) (Int.negSucc 0) (g1 (0 + x_4.i.toNat))) fun (x_5 : Mm) => nN [(13, .lt2 0 1 0 1)] (V.need (decide (x_4.i < Int.ofNat 0) = true) (qLs13 x_4 l1 (nN (qLs36 g1 x_4 ((1, .eqI 0 0) :: qLs33 p x x_3 (qLs22 x_4 (qLs16 x_3 (qE x_3.x.n :: qLs18 x_3 [qL x_3.n, qF x_3.n x_4.m.g]))))) (qLs32 (qLs31 x_3.x (nN (qLs3 [qX (x_4.m.acc x_3.n (Int.ofNat 2) (Int.negSucc 0) (g1 (0 + x_4.i.toNat)))]) (V.any Mm (fun (m' : Mm) => m' = x_4.m.acc x_3.n (Int.ofNat 2) (Int.negSucc 0) (g1 (0 + x_4.i.toNat))) fun (x_6 : Mm) => qLs39 x_4 l1 x_5 (nN (qLs37 x_3 x_5 (qLs33 p x x_3 [])) (qLs30 x_6 x_5 (nN (qLs16 x_3 (qE x_3.x.n :: qLs18 x_3 [])) (qLs11 x_3 x_6 x_5 V.ok))))))))))))))
 (V.br (decide (x_4.i ≥ IntKind.i64.wrap (Int.ofNat 1 + IntKind.i64.wrap (p.tmod (Int.ofNat 9)))))
 (qLs13 x_4 l1 (nN (qLs36 g1 x_4 (qLs24 x_3 (qLs22 x_4 (qLs25 x_3 [qF x_3.n x_4.m.g, qX (x_4.m.acc x_3.n (Int.ofNat 2) (Int.negSucc 0) (g1 (0 + x_4.i.toNat)))])))) (V.any Mm (fun (m' : Mm) => m' = x_4.m.acc x_3.n (Int.ofNat 2) (Int.negSucc 0) (g1 (0 + x_4.i.toNat))) fun (x_5 : Mm) => nN [(13, .lt2 0 1 0 1)] (V.need (decide (x_4.i < Int.ofNat 0) = false) (V.need (decide (x_4.i ≥ IntKind.i64.wrap (Int.ofNat 1 + IntKind.i64.wrap (p.tmod (Int.ofNat 9)))) = true) (qLs13 x_4 l1 (nN (qLs36 g1 x_4 ((1, .eqI 0 0) :: qLs33 p x x_3 (qLs22 x_4 (qLs16 x_3 (qE x_3.x.n :: qLs18 x_3 [qL x_3.n, qF x_3.n x_4.m.g]))))) (qLs32 (qLs31 x_3.x (nN (qLs3 [qX (x_4.m.acc x_3.n (Int.ofNat 2) (Int.negSucc 0) (g1 (0 + x_4.i.toNat)))]) (V.any Mm (fun (m' : Mm) => m' = x_4.m.acc x_3.n (Int.ofNat 2) (Int.negSucc 0) (g1 (0 + x_4.i.toNat))) fun (x_6 : Mm) => qLs39 x_4 l1 x_5 (nN (qLs37 x_3 x_5 (qLs33 p x x_3 [])) (qLs30 x_6 x_5 (nN (qLs16 x_3 (qE x_3.x.n :: qLs18 x_3 [])) (qLs11 x_3 x_6 x_5 V.ok)))))))))))))))
 (qLs13 x_4 l1 (nN (qLs38 x_4 g1 (qLs24 x_3 (qLs22 x_4 (qLs25 x_3 [qF x_3.n x_4.m.g, qX (x_4.m.acc x_3.n (Int.ofNat 2) (IntKind.i64.wrap (Int.ofNat 4 + IntKind.i64.wrap (x_4.i * Int.ofNat 1))) (g1 (0 + x_4.i.toNat)))])))) (V.any Mm (fun (m' : Mm) => m' = x_4.m.acc x_3.n (Int.ofNat 2) (IntKind.i64.wrap (Int.ofNat 4 + IntKind.i64.wrap (x_4.i * Int.ofNat 1))) (g1 (0 + x_4.i.toNat))) fun (x_5 : Mm) => nN [(13, .lt2 0 1 0 1)] (V.need (decide (x_4.i < Int.ofNat 0) = false) (V.need (decide (x_4.i ≥ IntKind.i64.wrap (Int.ofNat 1 + IntKind.i64.wrap (p.tmod (Int.ofNat 9)))) = false) (qLs13 x_4 l1 (nN (qLs38 x_4 g1 ((1, .eqI 0 0) :: qLs33 p x x_3 (qLs22 x_4 (qLs16 x_3 (qE x_3.x.n :: qLs18 x_3 [qL x_3.n, qF x_3.n x_4.m.g]))))) (qLs32 (qLs31 x_3.x (nN (qLs3 [qX (x_4.m.acc x_3.n (Int.ofNat 2) (IntKind.i64.wrap (Int.ofNat 4 + IntKind.i64.wrap (x_4.i * Int.ofNat 1))) (g1 (0 + x_4.i.toNat)))]) (V.any Mm (fun (m' : Mm) => m' = x_4.m.acc x_3.n (Int.ofNat 2) (IntKind.i64.wrap (Int.ofNat 4 + IntKind.i64.wrap (x_4.i * Int.ofNat 1))) (g1 (0 + x_4.i.toNat))) fun (x_6 : Mm) => qLs39 x_4 l1 x_5 (nN (qLs37 x_3 x_5 (qLs33 p x x_3 [])) (qLs30 x_6 x_5 (nN (qLs16 x_3 (qE x_3.x.n :: qLs18 x_3 [])) (qLs11 x_3 x_6 x_5 V.ok))))))))))))))))))
 (nN (qLs34 x_2 (qLs24 x_3 (qLs22 x_4 (qLs25 x_3 [qF x_3.n x_4.m.g, qX (x_4.m.acc x_3.n (Int.ofNat 2) (Int.ofNat 2) (IntKind.u64.wrap x_2))])))) (V.any Mm (fun (m' : Mm) => m' = x_4.m.acc x_3.n (Int.ofNat 2) (Int.ofNat 2) (IntKind.u64.wrap x_2)) fun (x_5 : Mm) => nN (qLs34 x_2 ((1, .eqI 0 0) :: qLs33 p x x_3 (qLs22 x_4 (qLs16 x_3 (qE x_3.x.n :: qLs18 x_3 [qL x_3.n, qF x_3.n x_4.m.g]))))) (qLs32 (nN [(1, .le 0 1)] (V.need (0 ≤ x_3.x.n ∧ 0 ≤ x_3.b.r) (nN [(1, .le 0 1)] (V.need (0 ≤ 0 ∧ 0 ≤ x_3.b.e) (nN [qX (x_4.m.acc x_3.n (Int.ofNat 2) (Int.ofNat 2) (IntKind.u64.wrap x_2))] (V.any Mm (fun (m' : Mm) => m' = x_4.m.acc x_3.n (Int.ofNat 2) (Int.ofNat 2) (IntKind.u64.wrap x_2)) fun (x_6 : Mm) => V.br rem
 (nN [qE l2, qE c2] (qLs15 x_3 (qLs14 x_3 (qLs10 x_3 p (qLs23 x_3 (nN (qLs17 p []) (qLs0 p x (qLs2 p x (nN (qE x_3.x.n :: qE x_3.a.r :: (1, .eq 0 0) :: qE x_3.a.e :: qLs37 x_3 x_5 (qLs16 x_3 [(1, .le 1 1)])) (qLs19 x_3.x x_3 (nN (qLs26 x_3.x (qLs8 x_3.x x_3 [])) (qLs5 x_3.x x_3 (nN (qE x_3.a.e :: (1, .le 0 0) :: qLs7 (qLs21 (qLs33 p x x_3 []))) (qLs30 x_6 x_5 (nN (qLs16 x_3 (qE x_3.x.n :: qLs18 x_3 [])) (qLs11 x_3 x_6 x_5 (nN [(1, .le 1 1)] (qLs20 x_3.x x_3 (nN (qLs26 x_3.x (qLs9 x_3.x x_3 [])) (qLs6 x_3.x x_3 (nN (qE x_3.b.e :: (1, .le 0 0) :: qLs7 (qLs21 [])) (qLs32 (nN ((1, .eqI 0 0) :: qLs40 ((1, .eqI 0 0) :: qLs12 l2 [])) (qLs1 l2 g2 p x x_3 x_5 x_3.x V.ok))))))))))))))))))))))))
 (nN [qE l2, qE c2] (qLs15 x_3 (qLs14 x_3 (qLs10 x_3 p (qLs23 x_3 (nN (qLs17 p []) (qLs0 p x (qLs2 p x (nN (qE x_3.x.n :: qE x_3.a.r :: (1, .eq 0 0) :: qE x_3.a.e :: qLs37 x_3 x_5 (qLs16 x_3 [(1, .le 1 1)])) (qLs19 x_3.x x_3 (nN (qLs26 x_3.x (qLs8 x_3.x x_3 [])) (qLs5 x_3.x x_3 (nN [(1, .le 1 1)] (qLs27 x_3 (nN (qLs33 p x x_3 []) (qLs30 x_6 x_5 (nN (qLs16 x_3 (qE x_3.x.n :: qLs18 x_3 [])) (qLs11 x_3 x_6 x_5 (nN [(1, .le 1 1)] (qLs20 x_3.x x_3 (nN (qLs26 x_3.x (qLs9 x_3.x x_3 [])) (qLs6 x_3.x x_3 (nN [(1, .le 1 1)] (qLs28 x_3 (qLs32 (nN (qE d :: qE t :: qLs40 (qE d :: qE t :: qLs12 l2 [])) (qLs1 l2 g2 p x x_3 x_5 x_3.x V.ok))))))))))))))))))))))))))))))))))))))
 (nN (qLs34 x_2 (qLs24 x_3 (qLs22 x_4 (qLs25 x_3 [qF x_3.n x_4.m.g, qX (x_4.m.acc x_3.n (Int.ofNat 2) (Int.ofNat 2) (IntKind.u64.wrap x_2))])))) (V.any Mm (fun (m' : Mm) => m' = x_4.m.acc x_3.n (Int.ofNat 2) (Int.ofNat 2) (IntKind.u64.wrap x_2)) fun (x_5 : Mm) => nN (qLs34 x_2 ((1, .eqI 0 0) :: qLs33 p x x_3 (qLs22 x_4 (qLs16 x_3 (qE x_3.x.n :: qLs18 x_3 [qL x_3.n, qF x_3.n x_4.m.g]))))) (qLs32 (nN [(1, .le 0 1)] (V.need (0 ≤ x_3.x.n ∧ 0 ≤ x_3.b.r) (nN [(1, .le 0 1)] (V.need (0 ≤ 0 ∧ 0 ≤ x_3.b.e) (nN [qX (x_4.m.acc x_3.n (Int.ofNat 2) (Int.ofNat 2) (IntKind.u64.wrap x_2))] (V.any Mm (fun (m' : Mm) => m' = x_4.m.acc x_3.n (Int.ofNat 2) (Int.ofNat 2) (IntKind.u64.wrap x_2)) fun (x_6 : Mm) => V.br rem
 (nN [qE l2, qE c2] (qLs15 x_3 (qLs14 x_3 (qLs10 x_3 p (qLs23 x_3 (nN (qLs17 p []) (qLs0 p x (qLs2 p x (nN (qE x_3.x.n :: qE x_3.a.r :: (1, .eq 0 0) :: qE x_3.a.e :: qLs37 x_3 x_5 (qLs16 x_3 [(1, .le 1 1)])) (qLs19 x_3.x x_3 (nN (qLs26 x_3.x (qLs8 x_3.x x_3 [])) (qLs5 x_3.x x_3 (nN (qE x_3.a.e :: (1, .le 0 0) :: qLs7 (qLs21 (qLs33 p x x_3 []))) (qLs30 x_6 x_5 (nN (qLs16 x_3 (qE x_3.x.n :: qLs18 x_3 [])) (qLs11 x_3 x_6 x_5 (nN [(1, .le 1 1)] (qLs20 x_3.x x_3 (nN (qLs26 x_3.x (qLs9 x_3.x x_3 [])) (qLs6 x_3.x x_3 (nN (qE x_3.b.e :: (1, .le 0 0) :: qLs7 (qLs21 [])) (qLs32 (nN ((1, .eqI 0 0) :: qLs40 ((1, .eqI 0 0) :: qLs12 l2 [])) (qLs1 l2 g2 p x x_3 x_5 x_3.x V.ok))))))))))))))))))))))))
 (nN [qE l2, qE c2] (qLs15 x_3 (qLs14 x_3 (qLs10 x_3 p (qLs23 x_3 (nN (qLs17 p []) (qLs0 p x (qLs2 p x (nN (qE x_3.x.n :: qE x_3.a.r :: (1, .eq 0 0) :: qE x_3.a.e :: qLs37 x_3 x_5 (qLs16 x_3 [(1, .le 1 1)])) (qLs19 x_3.x x_3 (nN (qLs26 x_3.x (qLs8 x_3.x x_3 [])) (qLs5 x_3.x x_3 (nN [(1, .le 1 1)] (qLs27 x_3 (nN (qLs33 p x x_3 []) (qLs30 x_6 x_5 (nN (qLs16 x_3 (qE x_3.x.n :: qLs18 x_3 [])) (qLs11 x_3 x_6 x_5 (nN [(1, .le 1 1)] (qLs20 x_3.x x_3 (nN (qLs26 x_3.x (qLs9 x_3.x x_3 [])) (qLs6 x_3.x x_3 (nN [(1, .le 1 1)] (qLs28 x_3 (qLs32 (nN (qE d :: qE t :: qLs40 (qE d :: qE t :: qLs12 l2 [])) (qLs1 l2 g2 p x x_3 x_5 x_3.x V.ok)))))))))))))))))))))))))))))))))))))))))))))))))))) := by kernel_rfl


end Go.Proofs.YtbidbhfjnfgblaaGreat.En

/- InjectorSizes: the conditions hold; the walk. -/
set_option maxRecDepth 100000
namespace Go.Proofs.YtbidbhfjnfgblaaGreat.En
open Go Go.RowKit Sx Cn Dc Ck Vc Md
theorem nc_4 {c : Cf} (h : okY c) : 4 ≤ ncN c ∧ ncN c ≤ 1000000 := by
  have W := (wy h).t
  have hn := nc_bd h
  obtain ⟨h1, h2, h3, h4, h5, h6⟩ := h
  unfold ncN ncI at *
  omega
theorem ev_ex {c : Cf} (h : okY c) : ∃ v, okEv c v := by
  have hT : c.T.toNat ≤ 1000000 := by have := h.2.2.2.1; omega
  exact ⟨⟨clOf c (fun e => c.lenP e) c.nP c.nU, ncN c, ⟨fun _ => 0, 0, 0, 0, 0, 0⟩, ⟨c.T.toNat, fun _ => 0, fun _ => 0, fun _ => 0, fun _ => 0, fun _ => 0, fun _ => 0, fun _ _ => 0, fun _ => false⟩, 0, 0, ⟨ncN c, c.T.toNat, fun _ => 0, 0⟩, ⟨ncN c, c.T.toNat, fun _ => 0, 0⟩⟩,
    is_cl c, rfl, rfl, ⟨hT, fun _ => Nat.zero_le _⟩, fun _ _ => Nat.zero_le _, fun _ _ => Nat.zero_le _, Nat.le_refl _, Nat.le_refl _, Nat.le_refl _, Nat.le_refl _, fun _ => ⟨Int.le_refl 0, (by decide : (0 : Int) ≤ 18446744073709551615)⟩, Int.le_refl 0, (by decide : (0 : Int) ≤ 1000000)⟩
section
variable {c : Cf} {v : Ev}
theorem ev_d (h : okEv c v) : v.d.W = c.W ∧ v.d.L = c.L ∧ v.d.C = c.C ∧ v.d.T = c.T ∧ v.d.D = c.D ∧ v.d.H = c.H ∧ v.d.B = c.B ∧ v.d.A = c.A ∧ v.d.P = c.P := by
  obtain ⟨⟨FD, rd, cd, hcl, e2⟩, _⟩ := h
  rw [e2]
  exact ⟨rfl, rfl, rfl, rfl, rfl, rfl, rfl, rfl, rfl⟩
theorem ev_ka (h : okEv c v) {i : Nat} (hi : i < v.x.n) : v.x.kl i ≤ upto v.x.n v.x.kl i ∧ v.x.kl i ≤ v.a.k i := ⟨by unfold upto; rw [if_pos hi]; exact Nat.le_refl _, h.2.2.2.2.1 i hi⟩
theorem ev_kb (h : okEv c v) {i : Nat} (hi : i < v.x.n) : v.x.kl i ≤ upto v.x.n v.x.kl i ∧ v.x.kl i ≤ v.b.k i := ⟨by unfold upto; rw [if_pos hi]; exact Nat.le_refl _, h.2.2.2.2.2.1 i hi⟩
theorem ev_ra (h : okEv c v) : v.x.n ≤ v.x.n ∧ v.x.n ≤ v.a.r := ⟨Nat.le_refl _, h.2.2.2.2.2.2.2.2.1⟩
theorem ev_rb (h : okEv c v) : v.x.n ≤ v.x.n ∧ v.x.n ≤ v.b.r := ⟨Nat.le_refl _, h.2.2.2.2.2.2.2.2.2.1⟩
theorem ev_i0 (h : okEv c v) {l : Nat} : Int.ofNat 0 ≤ Int.ofNat 0 ∧ Int.ofNat 0 ≤ (l : Int) ∧ okMw (Int.ofNat 1000000 + Int.ofNat 0) v.m := ⟨Int.le_refl _, Int.natCast_nonneg _, h.2.2.2.2.2.2.2.2.2.2⟩
theorem ls_mi {x : XIm} {l : Nat} {m : Mm} {c' d : Cf} {a k y now dr : Int} {p : Rk} (h : okEv c v) (hY : okY c) (hH : c'.H ≤ 1000000) (hx : Int.ofNat 0 ≤ x.i ∧ x.i ≤ (l : Int) ∧ okMw (Int.ofNat 1000000 + x.i) x.m) (hl : decide ((l : Int) > Int.ofNat 80) = false) (e : m = x.m.acc v.n k a y) (hy : 0 ≤ y ∧ y ≤ 18446744073709551615) (hp : p = v.x) : okMi c' ⟨d, v.n, m, p, now, dr, v.a, v.b⟩ := by
  obtain ⟨-, v1, -, v3, -, -, v6, v7, -⟩ := h
  have hn := nc_4 hY
  rw [← v1] at hn
  have hl : ¬ ((l : Int) > 80) := of_decide_eq_false hl
  obtain ⟨h1, h2, h3⟩ := hx
  subst e hp
  exact ⟨hH, hn.1, hn.2, v3, v6, v7, (okMw_acc h3 (by simp only [Int.ofNat_eq_natCast]; omega) hy).le (by simp only [Int.ofNat_eq_natCast]; omega)⟩
end
section
variable {x : XIm} {l : Nat} {c : Int}
theorem ls_nx {m : Mm} {n : Nat} {a k y : Int} (hx : Int.ofNat 0 ≤ x.i ∧ x.i ≤ (l : Int) ∧ okMw (Int.ofNat 1000000 + x.i) x.m) (hl : decide ((l : Int) > Int.ofNat 80) = false) (hi : decide (x.i < (l : Int)) = true) (e : m = x.m.acc n k a y) (hy : 0 ≤ y ∧ y ≤ 18446744073709551615) :
    Int.ofNat 0 ≤ IntKind.i64.wrap (x.i + Int.ofNat 1) ∧ IntKind.i64.wrap (x.i + Int.ofNat 1) ≤ (l : Int) ∧ okMw (Int.ofNat 1000000 + IntKind.i64.wrap (x.i + Int.ofNat 1)) m := by
  have hl : ¬ ((l : Int) > 80) := of_decide_eq_false hl
  have hi : x.i < (l : Int) := of_decide_eq_true hi
  obtain ⟨h1, h2, h3⟩ := hx
  have h1 : 0 ≤ x.i := h1
  have ei : IntKind.i64.wrap (x.i + Int.ofNat 1) = x.i + 1 := w64 (by simp only [Int.ofNat_eq_natCast]; omega)
  rw [ei]
  subst e
  exact ⟨by show 0 ≤ x.i + 1; omega, by omega, (okMw_acc h3 (by simp only [Int.ofNat_eq_natCast]; omega) hy).le (by simp only [Int.ofNat_eq_natCast]; omega)⟩
theorem ls_mu (hx : Int.ofNat 0 ≤ x.i ∧ x.i ≤ (l : Int) ∧ okMw (Int.ofNat 1000000 + x.i) x.m) (hl : decide ((l : Int) > Int.ofNat 80) = false) (hi : decide (x.i < (l : Int)) = true) : l - (IntKind.i64.wrap (x.i + Int.ofNat 1)).toNat < l - x.i.toNat := by
  have hl : ¬ ((l : Int) > 80) := of_decide_eq_false hl
  have hi : x.i < (l : Int) := of_decide_eq_true hi
  have h1 : 0 ≤ x.i := hx.1
  have ei : IntKind.i64.wrap (x.i + Int.ofNat 1) = x.i + 1 := w64 (by simp only [Int.ofNat_eq_natCast]; omega)
  rw [ei]
  omega
theorem ls_r (hx : Int.ofNat 0 ≤ x.i ∧ x.i ≤ (l : Int) ∧ okMw (Int.ofNat 1000000 + x.i) x.m) (hi : decide (x.i < (l : Int)) = true) : Int.ofNat 0 ≤ x.i ∧ x.i < (l : Int) := ⟨hx.1, of_decide_eq_true hi⟩
theorem ls_r2 (hx : Int.ofNat 0 ≤ x.i ∧ x.i ≤ (l : Int) ∧ okMw (Int.ofNat 1000000 + x.i) x.m) (hi : decide (x.i < (l : Int)) = true) : 0 < 1 ∧ 0 + x.i.toNat < l := by
  have h1 : 0 ≤ x.i := hx.1
  have hi : x.i < (l : Int) := of_decide_eq_true hi
  omega
theorem ls_k {g : Nat → Int} (hg : ∀ e, e < l → 0 ≤ g e ∧ g e ≤ 18446744073709551615) (hx : Int.ofNat 0 ≤ x.i ∧ x.i ≤ (l : Int) ∧ okMw (Int.ofNat 1000000 + x.i) x.m) (hi : decide (x.i < (l : Int)) = true) : 0 ≤ g (0 + x.i.toNat) ∧ g (0 + x.i.toNat) ≤ 18446744073709551615 := hg _ (ls_r2 hx hi).2
end
def hLs (p : Int) : Int := IntKind.i64.wrap (Int.ofNat 1 + IntKind.i64.wrap (p.tmod (Int.ofNat 9)))
theorem hLs_bd {p : Int} (h : 0 ≤ p) : 1 ≤ hLs p ∧ hLs p ≤ 9 := by
  unfold hLs
  simp only [Int.ofNat_eq_natCast]
  rw [Int.tmod_eq_emod_of_nonneg h, w64 (n := p % ((9 : Nat) : Int)) (by omega), w64 (by omega)]
  omega
theorem hLs_2 {p : Int} (h : 0 ≤ p) : IntKind.i64.wrap (IntKind.i64.wrap (Int.ofNat 1 + IntKind.i64.wrap (p.tmod (Int.ofNat 9))) + Int.ofNat 2) ≠ Int.ofNat 0 := by
  have := hLs_bd h
  show IntKind.i64.wrap (hLs p + Int.ofNat 2) ≠ Int.ofNat 0
  rw [w64 (by simp only [Int.ofNat_eq_natCast]; omega)]
  simp only [Int.ofNat_eq_natCast]
  omega
theorem hY_ls {c : Cf} {p : Int} (h : 0 ≤ p) (hW : c.W = 1) (hL : c.L = 1) (hC : c.C = 1) (hT : c.T = 256) (hD : c.D = 1) (hH : c.H = hLs p) : okY c := by
  have := hLs_bd h
  unfold okY
  omega
set_option maxHeartbeats 16000000 in
theorem vhLs {p : Int} {g1 g2 : Nat → Int} {l1 c1 l2 c2 : Nat} {size d t : Int} {rem near : Bool} (hp : 0 ≤ p ∧ p ≤ 255) (hg : ∀ e, e < l1 → 0 ≤ g1 e ∧ g1 e ≤ 18446744073709551615) : VHolds (verLs p g1 g2 l1 c1 l2 c2 size d t rem near) := by
  refine VHolds.pr (verLs_eq ..) ?_
  have hH := hLs_bd hp.1
  (repeat' first | with_reducible exact V.okI | with_reducible refine V.brT ?_ | with_reducible refine V.brF ?_ | with_reducible refine V.brI ?_ ?_ | with_reducible refine V.anyI ?_ | with_reducible refine nN_h rfl ?_ | with_reducible refine V.needI ?_ ?_ | with_reducible intro _)
  all_goals first
    | exact True.intro
    | assumption
    | exact ⟨Nat.le_refl _, by assumption⟩
    | exact ⟨Nat.zero_le _, Nat.zero_le _⟩
    | exact ⟨_, rfl⟩
    | (subst_vars; rfl)
    | omega
    | exact ev_ra (by assumption)
    | exact ev_rb (by assumption)
    | exact ev_ka (by assumption) (by assumption)
    | exact ev_kb (by assumption) (by assumption)
    | exact (ev_d (by assumption)).1
    | exact (ev_d (by assumption)).2.1
    | exact (ev_d (by assumption)).2.2.1
    | exact (ev_d (by assumption)).2.2.2.1
    | exact (ev_d (by assumption)).2.2.2.2.1
    | exact (ev_d (by assumption)).2.2.2.2.2.1
    | exact (ev_d (by assumption)).2.2.2.2.2.2.1
    | exact (ev_d (by assumption)).2.2.2.2.2.2.2.1
    | exact (ev_d (by assumption)).2.2.2.2.2.2.2.2
    | exact ev_i0 (by assumption)
    | exact ls_mi (by assumption) (hY_ls hp.1 rfl rfl rfl rfl rfl rfl) (by show hLs p ≤ 1000000; omega) (by assumption) (by assumption) (by assumption) (wrap_ok _) rfl
    | exact ls_nx (by assumption) (by assumption) (by assumption) (by assumption) (ls_k hg (by assumption) (by assumption))
    | exact ls_mu (by assumption) (by assumption) (by assumption)
    | exact ls_r (by assumption) (by assumption)
    | exact ls_r2 (by assumption) (by assumption)
    | exact hLs_2 hp.1
    | exact err9 (by unfold okN; dsimp only; change _ ∧ _; have hH : 1 ≤ IntKind.i64.wrap (Int.ofNat 1 + IntKind.i64.wrap (p.tmod (Int.ofNat 9))) ∧ IntKind.i64.wrap (Int.ofNat 1 + IntKind.i64.wrap (p.tmod (Int.ofNat 9))) ≤ 9 := hH; simp only [Int.ofNat_eq_natCast] at *; omega) rfl rfl rfl
    | exact ev_ex (hY_ls hp.1 rfl rfl rfl rfl rfl rfl)
    | exact ⟨u8_0, by decide⟩
    | exact ⟨(1, 0, fun _ => 0), Nat.le_refl _⟩
    | trace_state
theorem conLs_ok : ConOK P conLs := .add aw16_ok (.add conCfg_ok (.add cEv_ok (.add cMi_ok (.add cRA_ok (.add xAt_ok (conU_ok ConOK.nil))))))
theorem u64i {x : Int} (h : (Lit.int .u64 x).wf = true) : 0 ≤ x ∧ x ≤ 18446744073709551615 := by
  simp [Lit.wf, IntKind.min, IntKind.max, IntKind.bits, IntKind.signed] at h; omega
theorem walkLs (p : Int) (a : Option Addr) (len cap : Nat) (g : Nat → Int) (size : Int) (b : Option Addr) (pn pc : Nat) (q : Nat → Int) (d t : Int) (rem near : Bool) (W : World) (h0 : (Lit.int .u8 p).wf = true) (h : IsInts .u64 W a len cap g) (h1 : (Lit.int .i64 size).wf = true) (h' : IsInts .i64 W b pn pc q) (h2 : (Lit.int .i64 d).wf = true) (h3 : (Lit.int .i64 t).wf = true) :
    Calls P 3 #[.int .u8 p, .slice a len cap, .int .i64 size, .slice b pn pc, .int .i64 d, .int .i64 t, .bool rem, .bool near] W fun e w' => e = .returned (.bool true) ∧ Below W.heap.size W w' := by
  refine calls_yesV (vs := [.int .u8 p, .slice a len cap, .int .i64 size, .slice b pn pc, .int .i64 d, .int .i64 t, .bool rem, .bool near]) conLs_ok (ρ := fun k i => if k = 0 ∧ i = 0 then addr0 a else if k = 1 ∧ i = 0 then addr0 b else none) (vhLs (p := p) (g1 := g) (g2 := q) (l1 := len) (c1 := cap) (l2 := pn) (c2 := pc) (size := size) (d := d) (t := t) (rem := rem) (near := near) (u8i h0) (fun e he => u64i (h.fits e he))) (views_inv fun k b' hk => ?_) ⟨fun _ _ => rfl, h.val (by simp) ⟨Nat.le_of_ble_eq_true rfl, trivial⟩, fun _ _ => rfl, h'.val (by simp) ⟨Nat.le_of_ble_eq_true rfl, trivial⟩, fun _ _ => rfl, fun _ _ => rfl, fun _ _ => rfl, fun _ _ => rfl, trivial⟩
  rw [find_cons] at hk
  split at hk
  · rename_i e; subst e
    cases hk
    exact ⟨rfl, by decide, h.sat (by simp)⟩
  rw [find_cons] at hk
  split at hk
  · rename_i e; subst e
    cases hk
    exact ⟨rfl, by decide, h'.sat (by simp)⟩
  · cases hk
end Go.Proofs.YtbidbhfjnfgblaaGreat.En
