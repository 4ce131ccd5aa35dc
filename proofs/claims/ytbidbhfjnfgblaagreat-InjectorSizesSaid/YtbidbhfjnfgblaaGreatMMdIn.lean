/- Insert of the injector, alone: the conditions, printed by program. -/
import Derived.Test.YtbidbhfjnfgblaaGreatMMdInD
import Derived.Test.YtbidbhfjnfgblaaGreatMW
import Derived.Test.YtbidbhfjnfgblaaGreatMMd
set_option linter.unusedVariables false
set_option linter.unusedSimpArgs false
set_option maxRecDepth 100000
namespace Go.Proofs.YtbidbhfjnfgblaaGreat.Md
open Go Go.RowKit Sx Cn Dc Ck Vc

abbrev qMi0 (a0 : Nat) (a1 : XIn) (k : V) : V := V.need (a0 - (IntKind.i64.wrap ((↑a1.s : Int) + Int.ofNat 1)).toNat < a0 - a1.s) (V.need (IntKind.i64.wrap ((↑a1.s : Int) + Int.ofNat 1) = (↑(IntKind.i64.wrap ((↑a1.s : Int) + Int.ofNat 1)).toNat : Int)) k)
abbrev qMi1 (a0 a1 : Nat) (l : List (Nat × P0)) : List (Nat × P0) := (1, .pf (a0 = a0) rfl) :: (1, .pf (a1 = a1) rfl) :: l
abbrev qMi2 (a0 : Nat) (a1 : XIn) (l : List (Nat × P0)) : List (Nat × P0) := (1, .pf (a0 ≤ a0) (Nat.le_refl _)) :: (1, .pf (∀ (e : Nat), e < a0 → a1.m.g e = a1.m.g e) (by intros; rfl)) :: l
abbrev qMi3 (a0 : XIn) (a1 : Nat) (l : List (Nat × P0)) : List (Nat × P0) := (1, .pf (a0.m.ct = a0.m.ct) rfl) :: (1, .pf (a1 = a1) rfl) :: l
abbrev qMi4 (a0 a1 : Int) (l : List (Nat × P0)) : List (Nat × P0) := (1, .pf (a0 = a0) rfl) :: (1, .pf (a1 = a1) rfl) :: l
abbrev qMi5 (a0 : XIn) (a1 a2 : Nat) (l : List (Nat × P0)) : List (Nat × P0) := (1, .pf (IntKind.i64.wrap ((↑a0.s : Int) + Int.ofNat 1) = IntKind.i64.wrap ((↑a0.s : Int) + Int.ofNat 1)) rfl) :: qMi1 a1 a2 l
abbrev qMi6 (a0 : XIn) (l : List (Nat × P0)) : List (Nat × P0) := (1, .pf (a0.n = a0.n) rfl) :: (1, .pf (IntKind.i64.wrap ((IntKind.i64.wrap (a0.i - Int.ofNat 1)).tdiv (Int.ofNat 2)) = IntKind.i64.wrap ((IntKind.i64.wrap (a0.i - Int.ofNat 1)).tdiv (Int.ofNat 2))) rfl) :: l
abbrev qMi7 (a0 : XIn) (a1 a2 : Nat) (l : List (Nat × P0)) : List (Nat × P0) := (1, .pf (a0.x = a0.x) rfl) :: qMi1 a1 a2 l
abbrev qMi8 (a0 : Mm) (a1 a2 : Nat) (l : List (Nat × P0)) : List (Nat × P0) := (1, .pf (a0.lk = a0.lk) rfl) :: (1, .pf (a0.lc = a0.lc) rfl) :: (1, .pf (a0.lo = a0.lo) rfl) :: (1, .pf (a0.ln = a0.ln) rfl) :: (1, .pf (a0.ct = a0.ct) rfl) :: (1, .pf (a1 = a1) rfl) :: (1, .pf (a2 ≤ a2) (Nat.le_refl _)) :: (1, .pf (∀ (e : Nat), e < a2 → a0.g e = a0.g e) (by intros; rfl)) :: l
abbrev qMi9 (a0 : XIn) (l : List (Nat × P0)) : List (Nat × P0) := (1, .pf (a0.i = a0.i) rfl) :: (1, .pf (a0.k = a0.k) rfl) :: l
abbrev qMi10 (a0 : XIn) (a1 : Ly) (k : V) : V := V.need (okAtT a0.i a1.H (Int.ofNat 4) (Int.ofNat 1)) (nN [(1, .pf (∃ (x_1 : Int), x_1 = atM a0.i a1.H (Int.ofNat 4) (Int.ofNat 1)) ⟨_, rfl⟩)] k)
abbrev qMi11 (a0 : XIn) (l : List (Nat × P0)) : List (Nat × P0) := (1, .pf (a0.m.lk = a0.m.lk) rfl) :: (1, .pf (a0.m.lc = a0.m.lc) rfl) :: (1, .pf (a0.m.lo = a0.m.lo) rfl) :: (1, .pf (a0.m.ln = a0.m.ln) rfl) :: l
set_option maxHeartbeats 8000000 in
theorem verIn_eq (y : Ly) (n cap : Nat) (d t : Int) (M : Nat) (m : Mm) : verIn y n cap d t M m =
  V.need (0 ≤ M ∧ inRun y n d t (M - 0) (0, XIn.mk (Int.ofNat 1) (Int.ofNat 0) (Int.ofNat 0) (Int.ofNat 0) (Int.ofNat 0) 0 (Mm.mk (fun (e : Nat) => m.g e) m.lk m.lc m.lo m.ln m.ct)) = inR y n d t M m) (V.need (Int.ofNat 0 = (↑0 : Int)) (nN (qMi4 d t ((1, .eqI 1 1) :: (4, .eqI 0 0) :: qMi1 n cap (qMi8 m cap n []))) (V.any XIn (okIn y n d t M (inR y n d t M m)) fun (x : XIn) => V.br (decide ((↑x.s : Int) < (↑M : Int)))
 (nN [(16, .lt2 0 1 0 1)] (V.br (x.ln == Int.ofNat 1)
 (nN ((1, .eqI 2 2) :: qMi1 n cap (qMi11 x (qMi3 x cap (qMi2 n x [(1, .pf (∃ (x_1 : Mm), x_1 = (Mm.mk (fun (e : Nat) => x.m.g e) x.m.lk x.m.lc x.m.lo x.m.ln x.m.ct).acc n (Int.ofNat 1) (Int.ofNat 2) ((Mm.mk (fun (e : Nat) => x.m.g e) x.m.lk x.m.lc x.m.lo x.m.ln x.m.ct).val n (Int.ofNat 2))) ⟨_, rfl⟩)])))) (V.any Mm (fun (m' : Mm) => m' = (Mm.mk (fun (e : Nat) => x.m.g e) x.m.lk x.m.lc x.m.lo x.m.ln x.m.ct).acc n (Int.ofNat 1) (Int.ofNat 2) ((Mm.mk (fun (e : Nat) => x.m.g e) x.m.lk x.m.lc x.m.lo x.m.ln x.m.ct).val n (Int.ofNat 2))) fun (x_1 : Mm) => nN [(1, .pf (∃ (x_2 : Int), x_2 = (Mm.mk (fun (e : Nat) => x.m.g e) x.m.lk x.m.lc x.m.lo x.m.ln x.m.ct).val n (Int.ofNat 2)) ⟨_, rfl⟩)] (V.any Int (fun (v : Int) => v = (Mm.mk (fun (e : Nat) => x.m.g e) x.m.lk x.m.lc x.m.lo x.m.ln x.m.ct).val n (Int.ofNat 2)) fun (x_2 : Int) => nN [(7, .lt2 0 1 0 1)] (V.br (decide (IntKind.i64.wrap x_2 ≥ y.H))
 (nN [(6, .lt2 0 1 0 1)] (V.need (Rs.mk (Int.ofNat 3) (Int.ofNat 0) (IntKind.i64.wrap ((↑x.s : Int) + Int.ofNat 1)) (Mm.mk (fun (e : Nat) => x_1.g e) x_1.lk x_1.lc x_1.lo x_1.ln x_1.ct) = inR y n d t M m) (nN ((1, .eqI 3 3) :: (1, .eqI 0 0) :: qMi5 x n cap (qMi8 x_1 cap n [])) V.ok)))
 (V.need ((IntKind.i64.wrap ((↑x.s : Int) + Int.ofNat 1)).toNat ≤ M ∧ inRun y n d t (M - (IntKind.i64.wrap ((↑x.s : Int) + Int.ofNat 1)).toNat) (0, XIn.mk (Int.ofNat 2) (IntKind.i64.wrap x_2) x.i x.k x.x (IntKind.i64.wrap ((↑x.s : Int) + Int.ofNat 1)).toNat (Mm.mk (fun (e : Nat) => x_1.g e) x_1.lk x_1.lc x_1.lo x_1.ln x_1.ct)) = inR y n d t M m) (qMi0 M x (nN (qMi4 d t ((1, .eqI 2 2) :: (1, .pf (IntKind.i64.wrap x_2 = IntKind.i64.wrap x_2) rfl) :: qMi9 x (qMi7 x n cap (qMi8 x_1 cap n [])))) V.ok)))))))
 (V.br (x.ln == Int.ofNat 2)
 (nN ((14, .lt2 0 1 0 1) :: (1, .eqI 3 3) :: (1, .eqI 1 1) :: qMi1 n cap (qMi11 x (qMi3 x cap (qMi2 n x [(1, .pf (∃ (x_1 : Mm), x_1 = (Mm.mk (fun (e : Nat) => x.m.g e) x.m.lk x.m.lc x.m.lo x.m.ln x.m.ct).acc n (Int.ofNat 6) (Int.ofNat 3) (IntKind.u64.wrap ((Mm.mk (fun (e : Nat) => x.m.g e) x.m.lk x.m.lc x.m.lo x.m.ln x.m.ct).val n (Int.ofNat 3) + Int.ofNat 1))) ⟨_, rfl⟩)])))) (V.any Mm (fun (m' : Mm) => m' = (Mm.mk (fun (e : Nat) => x.m.g e) x.m.lk x.m.lc x.m.lo x.m.ln x.m.ct).acc n (Int.ofNat 6) (Int.ofNat 3) (IntKind.u64.wrap ((Mm.mk (fun (e : Nat) => x.m.g e) x.m.lk x.m.lc x.m.lo x.m.ln x.m.ct).val n (Int.ofNat 3) + Int.ofNat 1))) fun (x_1 : Mm) => nN [(1, .pf (∃ (x_2 : Int), x_2 = (Mm.mk (fun (e : Nat) => x.m.g e) x.m.lk x.m.lc x.m.lo x.m.ln x.m.ct).val n (Int.ofNat 3)) ⟨_, rfl⟩)] (V.any Int (fun (v : Int) => v = (Mm.mk (fun (e : Nat) => x.m.g e) x.m.lk x.m.lc x.m.lo x.m.ln x.m.ct).val n (Int.ofNat 3)) fun (x_2 : Int) => nN [(3, .lt2 0 1 0 1), (1, .pf (d = d) rfl), (1, .pf (IntKind.i64.wrap x_2 = IntKind.i64.wrap x_2) rfl), (1, .pf (t = t) rfl)] (V.need True (nN [(1, .pf (∃ (x : Int × Bool), x = (pkW d (IntKind.i64.wrap x_2) t, pkB d (IntKind.i64.wrap x_2) t)) ⟨_, rfl⟩)] (V.any (Int × Bool) (fun (p : Int × Bool) => p = (pkW d (IntKind.i64.wrap x_2) t, pkB d (IntKind.i64.wrap x_2) t)) fun (x_3 : Int × Bool) => V.br (!x_3.snd)
 (nN [(6, .lt2 0 1 0 1)] (V.need (Rs.mk (Int.ofNat 4) (Int.ofNat 0) (IntKind.i64.wrap ((↑x.s : Int) + Int.ofNat 1)) (Mm.mk (fun (e : Nat) => x_1.g e) x_1.lk x_1.lc x_1.lo x_1.ln x_1.ct) = inR y n d t M m) (nN ((1, .eqI 4 4) :: (1, .eqI 0 0) :: qMi5 x n cap (qMi8 x_1 cap n [])) V.ok)))
 (V.br (decide (x.n > Int.ofNat 0))
 (V.need ((IntKind.i64.wrap ((↑x.s : Int) + Int.ofNat 1)).toNat ≤ M ∧ inRun y n d t (M - (IntKind.i64.wrap ((↑x.s : Int) + Int.ofNat 1)).toNat) (0, XIn.mk (Int.ofNat 3) x.n x.n x_3.fst x.x (IntKind.i64.wrap ((↑x.s : Int) + Int.ofNat 1)).toNat (Mm.mk (fun (e : Nat) => x_1.g e) x_1.lk x_1.lc x_1.lo x_1.ln x_1.ct)) = inR y n d t M m) (qMi0 M x (nN (qMi4 d t ((1, .eqI 3 3) :: (2, .pf (x.n = x.n) rfl) :: (1, .pf (x_3.fst = x_3.fst) rfl) :: qMi7 x n cap (qMi8 x_1 cap n []))) V.ok)))
 (V.need ((IntKind.i64.wrap ((↑x.s : Int) + Int.ofNat 1)).toNat ≤ M ∧ inRun y n d t (M - (IntKind.i64.wrap ((↑x.s : Int) + Int.ofNat 1)).toNat) (0, XIn.mk (Int.ofNat 5) x.n x.n x_3.fst x.x (IntKind.i64.wrap ((↑x.s : Int) + Int.ofNat 1)).toNat (Mm.mk (fun (e : Nat) => x_1.g e) x_1.lk x_1.lc x_1.lo x_1.ln x_1.ct)) = inR y n d t M m) (qMi0 M x (nN (qMi4 d t ((1, .eqI 5 5) :: (2, .pf (x.n = x.n) rfl) :: (1, .pf (x_3.fst = x_3.fst) rfl) :: qMi7 x n cap (qMi8 x_1 cap n []))) V.ok))))))))))
 (V.br (x.ln == Int.ofNat 3)
 (nN [(14, .lt2 0 1 0 1), (1, .neI 2 0), (1, .pf (IntKind.i64.wrap ((IntKind.i64.wrap (x.i - Int.ofNat 1)).tdiv (Int.ofNat 2)) = IntKind.i64.wrap ((IntKind.i64.wrap (x.i - Int.ofNat 1)).tdiv (Int.ofNat 2))) rfl), (1, .pf (y.H = y.H) rfl), (1, .eqI 4 4), (1, .eqI 1 1)] (V.need (okAtT (IntKind.i64.wrap ((IntKind.i64.wrap (x.i - Int.ofNat 1)).tdiv (Int.ofNat 2))) y.H (Int.ofNat 4) (Int.ofNat 1)) (nN [(1, .pf (∃ (x_1 : Int), x_1 = atM (IntKind.i64.wrap ((IntKind.i64.wrap (x.i - Int.ofNat 1)).tdiv (Int.ofNat 2))) y.H (Int.ofNat 4) (Int.ofNat 1)) ⟨_, rfl⟩)] (V.any Int (fun (r : Int) => r = atM (IntKind.i64.wrap ((IntKind.i64.wrap (x.i - Int.ofNat 1)).tdiv (Int.ofNat 2))) y.H (Int.ofNat 4) (Int.ofNat 1)) fun (x_1 : Int) => nN ((1, .pf (x_1 = x_1) rfl) :: qMi1 n cap (qMi11 x (qMi3 x cap (qMi2 n x [(1, .pf (∃ (x_2 : Mm), x_2 = (Mm.mk (fun (e : Nat) => x.m.g e) x.m.lk x.m.lc x.m.lo x.m.ln x.m.ct).acc n (Int.ofNat 1) x_1 ((Mm.mk (fun (e : Nat) => x.m.g e) x.m.lk x.m.lc x.m.lo x.m.ln x.m.ct).val n x_1)) ⟨_, rfl⟩)])))) (V.any Mm (fun (m' : Mm) => m' = (Mm.mk (fun (e : Nat) => x.m.g e) x.m.lk x.m.lc x.m.lo x.m.ln x.m.ct).acc n (Int.ofNat 1) x_1 ((Mm.mk (fun (e : Nat) => x.m.g e) x.m.lk x.m.lc x.m.lo x.m.ln x.m.ct).val n x_1)) fun (x_2 : Mm) => nN [(1, .pf (∃ (x_3 : Int), x_3 = (Mm.mk (fun (e : Nat) => x.m.g e) x.m.lk x.m.lc x.m.lo x.m.ln x.m.ct).val n x_1) ⟨_, rfl⟩)] (V.any Int (fun (v : Int) => v = (Mm.mk (fun (e : Nat) => x.m.g e) x.m.lk x.m.lc x.m.lo x.m.ln x.m.ct).val n x_1) fun (x_3 : Int) => nN [(8, .lt2 0 1 0 1)] (V.br (decide (x_3 > x.k))
 (V.need ((IntKind.i64.wrap ((↑x.s : Int) + Int.ofNat 1)).toNat ≤ M ∧ inRun y n d t (M - (IntKind.i64.wrap ((↑x.s : Int) + Int.ofNat 1)).toNat) (0, XIn.mk (Int.ofNat 4) x.n x.i x.k x_3 (IntKind.i64.wrap ((↑x.s : Int) + Int.ofNat 1)).toNat (Mm.mk (fun (e : Nat) => x_2.g e) x_2.lk x_2.lc x_2.lo x_2.ln x_2.ct)) = inR y n d t M m) (qMi0 M x (nN (qMi4 d t ((1, .eqI 4 4) :: (1, .pf (x.n = x.n) rfl) :: qMi9 x ((1, .pf (x_3 = x_3) rfl) :: qMi1 n cap (qMi8 x_2 cap n [])))) V.ok)))
 (V.need ((IntKind.i64.wrap ((↑x.s : Int) + Int.ofNat 1)).toNat ≤ M ∧ inRun y n d t (M - (IntKind.i64.wrap ((↑x.s : Int) + Int.ofNat 1)).toNat) (0, XIn.mk (Int.ofNat 5) x.n x.i x.k x_3 (IntKind.i64.wrap ((↑x.s : Int) + Int.ofNat 1)).toNat (Mm.mk (fun (e : Nat) => x_2.g e) x_2.lk x_2.lc x_2.lo x_2.ln x_2.ct)) = inR y n d t M m) (qMi0 M x (nN (qMi4 d t ((1, .eqI 5 5) :: (1, .pf (x.n = x.n) rfl) :: qMi9 x ((1, .pf (x_3 = x_3) rfl) :: qMi1 n cap (qMi8 x_2 cap n [])))) V.ok))))))))))
 (V.br (x.ln == Int.ofNat 4)
 (nN [(14, .lt2 0 1 0 1), (1, .pf (x.i = x.i) rfl), (1, .pf (y.H = y.H) rfl), (1, .eqI 4 4), (1, .eqI 1 1)] (qMi10 x y (V.any Int (fun (r : Int) => r = atM x.i y.H (Int.ofNat 4) (Int.ofNat 1)) fun (x_1 : Int) => nN ((3, .lt2 0 1 0 1) :: (1, .pf (x_1 = x_1) rfl) :: qMi7 x n cap (qMi11 x (qMi3 x cap (qMi2 n x [(1, .pf (∃ (x_2 : Mm), x_2 = (Mm.mk (fun (e : Nat) => x.m.g e) x.m.lk x.m.lc x.m.lo x.m.ln x.m.ct).acc n (Int.ofNat 2) x_1 x.x) ⟨_, rfl⟩)])))) (V.any Mm (fun (m' : Mm) => m' = (Mm.mk (fun (e : Nat) => x.m.g e) x.m.lk x.m.lc x.m.lo x.m.ln x.m.ct).acc n (Int.ofNat 2) x_1 x.x) fun (x_2 : Mm) => nN [(1, .neI 2 0)] (V.br (decide (IntKind.i64.wrap ((IntKind.i64.wrap (x.i - Int.ofNat 1)).tdiv (Int.ofNat 2)) > Int.ofNat 0))
 (V.need ((IntKind.i64.wrap ((↑x.s : Int) + Int.ofNat 1)).toNat ≤ M ∧ inRun y n d t (M - (IntKind.i64.wrap ((↑x.s : Int) + Int.ofNat 1)).toNat) (0, XIn.mk (Int.ofNat 3) x.n (IntKind.i64.wrap ((IntKind.i64.wrap (x.i - Int.ofNat 1)).tdiv (Int.ofNat 2))) x.k x.x (IntKind.i64.wrap ((↑x.s : Int) + Int.ofNat 1)).toNat (Mm.mk (fun (e : Nat) => x_2.g e) x_2.lk x_2.lc x_2.lo x_2.ln x_2.ct)) = inR y n d t M m) (qMi0 M x (nN (qMi4 d t ((1, .eqI 3 3) :: qMi6 x ((1, .pf (x.k = x.k) rfl) :: qMi7 x n cap (qMi8 x_2 cap n [])))) V.ok)))
 (V.need ((IntKind.i64.wrap ((↑x.s : Int) + Int.ofNat 1)).toNat ≤ M ∧ inRun y n d t (M - (IntKind.i64.wrap ((↑x.s : Int) + Int.ofNat 1)).toNat) (0, XIn.mk (Int.ofNat 5) x.n (IntKind.i64.wrap ((IntKind.i64.wrap (x.i - Int.ofNat 1)).tdiv (Int.ofNat 2))) x.k x.x (IntKind.i64.wrap ((↑x.s : Int) + Int.ofNat 1)).toNat (Mm.mk (fun (e : Nat) => x_2.g e) x_2.lk x_2.lc x_2.lo x_2.ln x_2.ct)) = inR y n d t M m) (qMi0 M x (nN (qMi4 d t ((1, .eqI 5 5) :: qMi6 x ((1, .pf (x.k = x.k) rfl) :: qMi7 x n cap (qMi8 x_2 cap n [])))) V.ok))))))))
 (V.br (x.ln == Int.ofNat 5)
 (nN [(14, .lt2 0 1 0 1), (1, .pf (x.i = x.i) rfl), (1, .pf (y.H = y.H) rfl), (1, .eqI 4 4), (1, .eqI 1 1)] (qMi10 x y (V.any Int (fun (r : Int) => r = atM x.i y.H (Int.ofNat 4) (Int.ofNat 1)) fun (x_1 : Int) => nN ((3, .lt2 0 1 0 1) :: (1, .pf (x_1 = x_1) rfl) :: (1, .pf (x.k = x.k) rfl) :: qMi1 n cap (qMi11 x (qMi3 x cap (qMi2 n x [(1, .pf (∃ (x_2 : Mm), x_2 = (Mm.mk (fun (e : Nat) => x.m.g e) x.m.lk x.m.lc x.m.lo x.m.ln x.m.ct).acc n (Int.ofNat 2) x_1 x.k) ⟨_, rfl⟩)])))) (V.any Mm (fun (m' : Mm) => m' = (Mm.mk (fun (e : Nat) => x.m.g e) x.m.lk x.m.lc x.m.lo x.m.ln x.m.ct).acc n (Int.ofNat 2) x_1 x.k) fun (x_2 : Mm) => V.need ((IntKind.i64.wrap ((↑x.s : Int) + Int.ofNat 1)).toNat ≤ M ∧ inRun y n d t (M - (IntKind.i64.wrap ((↑x.s : Int) + Int.ofNat 1)).toNat) (0, XIn.mk (Int.ofNat 6) x.n x.i x.k x.x (IntKind.i64.wrap ((↑x.s : Int) + Int.ofNat 1)).toNat (Mm.mk (fun (e : Nat) => x_2.g e) x_2.lk x_2.lc x_2.lo x_2.ln x_2.ct)) = inR y n d t M m) (qMi0 M x (nN (qMi4 d t ((1, .eqI 6 6) :: (1, .pf (x.n = x.n) rfl) :: qMi9 x (qMi7 x n cap (qMi8 x_2 cap n [])))) V.ok))))))
 (nN ((14, .lt2 0 1 0 1) :: (1, .eqI 2 2) :: (1, .pf (IntKind.u64.wrap (IntKind.i64.wrap (x.n + Int.ofNat 1)) = IntKind.u64.wrap (IntKind.i64.wrap (x.n + Int.ofNat 1))) rfl) :: qMi1 n cap (qMi11 x (qMi3 x cap (qMi2 n x [(1, .pf (∃ (x_1 : Mm), x_1 = (Mm.mk (fun (e : Nat) => x.m.g e) x.m.lk x.m.lc x.m.lo x.m.ln x.m.ct).acc n (Int.ofNat 2) (Int.ofNat 2) (IntKind.u64.wrap (IntKind.i64.wrap (x.n + Int.ofNat 1)))) ⟨_, rfl⟩)])))) (V.any Mm (fun (m' : Mm) => m' = (Mm.mk (fun (e : Nat) => x.m.g e) x.m.lk x.m.lc x.m.lo x.m.ln x.m.ct).acc n (Int.ofNat 2) (Int.ofNat 2) (IntKind.u64.wrap (IntKind.i64.wrap (x.n + Int.ofNat 1)))) fun (x_1 : Mm) => nN [(6, .lt2 0 1 0 1)] (V.need (Rs.mk (Int.ofNat 0) (Int.ofNat 0) (IntKind.i64.wrap ((↑x.s : Int) + Int.ofNat 1)) (Mm.mk (fun (e : Nat) => x_1.g e) x_1.lk x_1.lc x_1.lo x_1.ln x_1.ct) = inR y n d t M m) (nN ((2, .eqI 0 0) :: qMi5 x n cap (qMi8 x_1 cap n [])) V.ok))))))))))
 (V.need (Rs.mk (Int.negSucc 0) (Int.ofNat 0) (↑x.s : Int) (Mm.mk (fun (e : Nat) => x.m.g e) x.m.lk x.m.lc x.m.lo x.m.ln x.m.ct) = inR y n d t M m) (nN ((1, .pf (Int.negSucc 0 = Int.negSucc 0) rfl) :: (1, .eqI 0 0) :: (1, .pf ((↑x.s : Int) = (↑x.s : Int)) rfl) :: qMi1 n cap (qMi11 x (qMi3 x cap (qMi2 n x [])))) V.ok))))) := by kernel_rfl

theorem vPack_eq (d a t : Int) : vPack d a t =
  V.br (decide (d < Int.ofNat 0)) (V.need ((Int.ofNat 0, false) = (pkW d a t, pkB d a t)) (nN [(1, .eqI 0 0)] (nN [(1, .pf (false = false) rfl)] V.ok))) (V.br (decide (d > Int.ofNat 16777215)) (V.need ((Int.ofNat 0, false) = (pkW d a t, pkB d a t)) (nN [(1, .eqI 0 0)] (nN [(1, .pf (false = false) rfl)] V.ok))) (V.br (decide (a < Int.ofNat 0)) (V.need ((Int.ofNat 0, false) = (pkW d a t, pkB d a t)) (nN [(1, .eqI 0 0)] (nN [(1, .pf (false = false) rfl)] V.ok))) (V.br (decide (a > Int.ofNat 16777215)) (V.need ((Int.ofNat 0, false) = (pkW d a t, pkB d a t)) (nN [(1, .eqI 0 0)] (nN [(1, .pf (false = false) rfl)] V.ok))) (V.br (decide (t < Int.ofNat 0)) (V.need ((Int.ofNat 0, false) = (pkW d a t, pkB d a t)) (nN [(1, .eqI 0 0)] (nN [(1, .pf (false = false) rfl)] V.ok))) (V.br (decide (t > Int.ofNat 65535)) (V.need ((Int.ofNat 0, false) = (pkW d a t, pkB d a t)) (nN [(1, .eqI 0 0)] (nN [(1, .pf (false = false) rfl)] V.ok))) (nN [(1, .leI 0 40), (1, .leI 0 16)] (V.need ((bits BinOp.or IntKind.u64 (bits BinOp.or IntKind.u64 (IntKind.u64.wrap (IntKind.u64.wrap d * Int.ofNat 2 ^ 40)) (IntKind.u64.wrap (IntKind.u64.wrap a * Int.ofNat 2 ^ 16))) (IntKind.u64.wrap t), true) = (pkW d a t, pkB d a t)) (nN [(1, .pf (bits BinOp.or IntKind.u64 (bits BinOp.or IntKind.u64 (IntKind.u64.wrap (IntKind.u64.wrap d * Int.ofNat 2 ^ 40)) (IntKind.u64.wrap (IntKind.u64.wrap a * Int.ofNat 2 ^ 16))) (IntKind.u64.wrap t) = bits BinOp.or IntKind.u64 (bits BinOp.or IntKind.u64 (IntKind.u64.wrap (IntKind.u64.wrap d * Int.ofNat 2 ^ 40)) (IntKind.u64.wrap (IntKind.u64.wrap a * Int.ofNat 2 ^ 16))) (IntKind.u64.wrap t)) rfl), (1, .pf (true = true) rfl)] V.ok)))))))) := by kernel_rfl


end Go.Proofs.YtbidbhfjnfgblaaGreat.Md

/- Insert of the injector, alone: the conditions hold. -/
set_option maxRecDepth 100000
namespace Go.Proofs.YtbidbhfjnfgblaaGreat.Md
open Go Go.RowKit Sx Cn Dc Ck Vc
theorem or3 {a b c : Nat} (hb : b < 2 ^ 24) (hc : c < 2 ^ 16) : (a <<< 40) ||| (b <<< 16) ||| c = a * 1099511627776 + b * 65536 + c := by
  have h1 : a <<< 40 + b <<< 16 = a <<< 40 ||| b <<< 16 := Nat.shiftLeft_add_eq_or_of_lt (by rw [Nat.shiftLeft_eq]; omega) a
  have h2 : (a * 16777216 + b) <<< 16 + c = (a * 16777216 + b) <<< 16 ||| c := Nat.shiftLeft_add_eq_or_of_lt hc _
  have e1 : a <<< 40 + b <<< 16 = (a * 16777216 + b) <<< 16 := by simp only [Nat.shiftLeft_eq]; omega
  rw [← h1, e1, ← h2, Nat.shiftLeft_eq]
  omega
theorem or_nat {x y : Nat} (hx : x < 18446744073709551616) (hy : y < 18446744073709551616) : bits .or .u64 (x : Int) (y : Int) = ((x ||| y : Nat) : Int) := by
  have h : x ||| y < 2 ^ 64 := Nat.or_lt_two_pow (by simpa using hx) (by simpa using hy)
  unfold bits
  show IntKind.u64.wrap (((BitVec.ofInt 64 (x : Int)) ||| (BitVec.ofInt 64 (y : Int))).toNat : Int) = _
  rw [BitVec.toNat_or, BitVec.ofInt_natCast, BitVec.ofInt_natCast, BitVec.toNat_ofNat, BitVec.toNat_ofNat, Nat.mod_eq_of_lt (by simpa using hx), Nat.mod_eq_of_lt (by simpa using hy), wu64]
  omega
theorem pk_f {d a t : Int} (h : ¬ ((0 ≤ d ∧ d ≤ 16777215) ∧ (0 ≤ a ∧ a ≤ 16777215) ∧ 0 ≤ t ∧ t ≤ 65535)) : (Int.ofNat 0, false) = (pkW d a t, pkB d a t) := by
  have e : pkB d a t = false := decide_eq_false h
  unfold pkW
  rw [e]
  rfl
theorem pk_t {d a t : Int} (h : (0 ≤ d ∧ d ≤ 16777215) ∧ (0 ≤ a ∧ a ≤ 16777215) ∧ 0 ≤ t ∧ t ≤ 65535) : pkB d a t = true ∧ pkW d a t = d * 1099511627776 + a * 65536 + t := by
  have e : pkB d a t = true := decide_eq_true h
  unfold pkW
  rw [e]
  exact ⟨rfl, rfl⟩
theorem pk_or {d a t : Int} (h : (0 ≤ d ∧ d ≤ 16777215) ∧ (0 ≤ a ∧ a ≤ 16777215) ∧ 0 ≤ t ∧ t ≤ 65535) : bits BinOp.or IntKind.u64 (bits BinOp.or IntKind.u64 (IntKind.u64.wrap (IntKind.u64.wrap d * Int.ofNat 2 ^ 40)) (IntKind.u64.wrap (IntKind.u64.wrap a * Int.ofNat 2 ^ 16))) (IntKind.u64.wrap t) = d * 1099511627776 + a * 65536 + t := by
  obtain ⟨⟨d0, d1⟩, ⟨a0, a1⟩, t0, t1⟩ := h
  obtain ⟨d, rfl⟩ : ∃ n : Nat, d = n := ⟨d.toNat, by omega⟩
  obtain ⟨a, rfl⟩ : ∃ n : Nat, a = n := ⟨a.toNat, by omega⟩
  obtain ⟨t, rfl⟩ : ∃ n : Nat, t = n := ⟨t.toNat, by omega⟩
  have e40 : (Int.ofNat 2 : Int) ^ 40 = 1099511627776 := by decide
  have e16 : (Int.ofNat 2 : Int) ^ 16 = 65536 := by decide
  rw [e40, e16, wu64 (n := (d : Int)) (by omega), wu64 (n := (a : Int)) (by omega), wu64 (n := (t : Int)) (by omega), wu64 (by omega), wu64 (by omega)]
  have h3 := or3 (a := d) (b := a) (c := t) (by omega) (by omega)
  simp only [Nat.shiftLeft_eq] at h3
  have c1 : (d : Int) * 1099511627776 = ((d * 2 ^ 40 : Nat) : Int) := by omega
  have c2 : (a : Int) * 65536 = ((a * 2 ^ 16 : Nat) : Int) := by omega
  have b1 : d * 2 ^ 40 ||| a * 2 ^ 16 < 2 ^ 64 := Nat.or_lt_two_pow (by omega) (by omega)
  rw [c1, c2, or_nat (by omega) (by omega), or_nat (by omega) (by omega), h3]
  omega
theorem vhPack {d a t : Int} : VHolds (vPack d a t) := by
  constructor
  rw [vPack_eq]
  (repeat' first | with_reducible exact V.okI | with_reducible refine V.brT ?_ | with_reducible refine V.brF ?_ | with_reducible refine V.brI ?_ ?_ | with_reducible refine V.anyI ?_ | with_reducible refine nN_h rfl ?_ | with_reducible refine V.needI ?_ ?_ | with_reducible intro _)
  all_goals simp only [decide_eq_true_eq, decide_eq_false_iff_not, Int.ofNat_eq_natCast, Int.natCast_zero] at *
  all_goals first
    | exact True.intro
    | exact pk_f (by omega)
    | skip
  rw [(pk_t (by omega)).1, (pk_t (by omega)).2]
  exact Prod.ext (pk_or (by omega)) rfl
noncomputable section
theorem cPack_ok : ContractOK P fPack cPack := numF_ok fun l args H => by
  repeat' split
  all_goals first | exact .inl ⟨_, rfl⟩ | exact .inr ⟨_, _, _, _, _, rfl, local_of_ver ConOK.nil fun _ => vhPack⟩
theorem conIJ_ok : ConOK P conIJ := .add cPack_ok (conT_ok ConOK.nil)
end
theorem inRun_lt {y : Ly} {n : Nat} {d t : Int} {k M : Nat} (h : k < M) (s : Nat × XIn) : inRun y n d t (M - k) s = match inStep y n d t s with
    | (x', none) => inRun y n d t (M - (k + 1)) x'
    | (x', some r) => ⟨r.1, r.2, (x'.2.s : Int), x'.2.m⟩ := by
  rw [show M - k = (M - (k + 1)) + 1 by omega]
  rcases h : inStep y n d t s with ⟨x', _ | r⟩ <;> simp only [inRun, aRun, h]
theorem inRun_eq {y : Ly} {n : Nat} {d t : Int} {k M : Nat} (h : ¬ k < M) (s : Nat × XIn) : inRun y n d t (M - k) s = ⟨-1, 0, (s.2.s : Int), s.2.m⟩ := by
  rw [show M - k = 0 by omega]
  rfl
theorem slot_ok {H i : Int} (h : 0 ≤ H ∧ H ≤ 1000) : okAtT i H 4 1 := ⟨fun h1 h2 => by omega, by omega⟩
set_option maxHeartbeats 4000000 in
theorem vhIn {y : Ly} {n cap : Nat} {d t : Int} {M : Nat} {m : Mm} (hH : 0 ≤ y.H ∧ y.H ≤ 1000) (hM : M ≤ 1000) : VHolds (verIn y n cap d t M m) := by
  constructor
  rw [verIn_eq]
  refine V.needI ⟨by omega, rfl⟩ ?_
  generalize inR y n d t M m = R
  refine V.needI rfl (nN_h rfl (V.anyI fun x hx => ?_))
  obtain ⟨hk, hR⟩ := hx
  refine V.brI (fun hlt => ?_) (fun hge => ?_)
  case' refine_1 =>
    have hlt : x.s < M := by simpa using hlt
    rw [inRun_lt hlt] at hR
    have ek : IntKind.i64.wrap ((x.s : Int) + Int.ofNat 1) = ((x.s + 1 : Nat) : Int) := wnat (by omega)
    simp only [ek, Int.toNat_natCast, Mm.eta]
  case' refine_2 =>
    have hge : ¬ x.s < M := by simpa using hge
    rw [inRun_eq hge] at hR
    simp only [Mm.eta]
  all_goals (repeat' first | with_reducible exact V.okI | with_reducible refine V.brT ?_ | with_reducible refine V.brF ?_ | with_reducible refine V.brI ?_ ?_ | with_reducible refine V.anyI ?_ | with_reducible refine nN_h rfl ?_ | with_reducible refine V.needI ?_ ?_ | with_reducible intro _)
  all_goals subst_vars
  all_goals simp only [Int.ofNat_eq_natCast, Int.cast_ofNat_Int, Int.natCast_zero, Int.natCast_one, decide_eq_true_eq, decide_eq_false_iff_not, beq_iff_eq, beq_eq_false_iff_ne, Mm.eta, Bool.not_eq_true', Bool.not_eq_false', gt_iff_lt] at *
  all_goals first
    | rfl
    | omega
    | exact slot_ok hH
    | (simp only [inStep, *, if_true]; done)
    | (simp [inStep, *]; done)
    | (refine ⟨by omega, ?_⟩
       first
         | (simp [inStep, *]; done)
         | (simp [inStep, plc, slM, par, *]; done)
         | skip)
    | skip
end Go.Proofs.YtbidbhfjnfgblaaGreat.Md
