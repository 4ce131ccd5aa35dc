/- TableOnce: the law: what is asked. -/
import Derived.Test.YtomaagmleafjeaaMMdAw18
import Derived.Test.YtomaagmleafjeaaMMd
import Derived.Test.YtomaagmleafjeaaMW
set_option linter.unusedVariables false
set_option linter.unusedSimpArgs false
set_option linter.unusedVariables false
set_option maxRecDepth 100000
namespace Go.Proofs.Ytomaagmleafjeaa.Md
open Go Go.RowKit Sx Cn Dc Ck Vc
/-- Of the loop: the place; whether the task is ready, how often it was claimed; the memory; whether it has started; how many events there are. -/
structure XO where
  i : Nat
  rdy : Bool
  cl : Nat
  m : Mm
  st : Bool
  ne : Nat
  ev : Evs
  c : Nat
noncomputable section
def startedAt (k : Nat) (h : HL) : Option Bool := match ((rowCols k h)[6]? : Option Col) with
  | some (.ck l) => some (boolAt l 0)
  | _ => none
def rdO (s : St) : Option XO := match tmI 7 s, tmB 5 s, tmI 6 s with
  | some i, some r, some cl => match rdMm s.H.h (envM 3 s), startedAt (envR 3 s) s.H.h, bCell (tmK 3 s) 25 s.H.h, rdEv (envE 3 s) s.H.h with
    | some x, some st, some (.slc _ _ _ _ m c), some ev => some ⟨i.toNat, r, cl.toNat, x.m, st, m.v, ev, c.v⟩
    | _, _, _, _ => none
  | _, _, _ => none
/-- State and level of the task, of the configuration of the law: cells S, L of n. -/
def okO (S L : Nat) (x : XO) : Prop := x.i ≤ 100 ∧ x.cl ≤ x.i ∧ x.ne ≤ x.i ∧ x.ne ≤ x.c ∧ x.st = decide (0 < x.cl) ∧ (x.rdy = true → x.m.g S = 1) ∧ (x.rdy = false → x.m.g S ≠ 1) ∧ x.m.g L = 0 ∧ ∀ e, 0 ≤ x.m.g e ∧ x.m.g e ≤ 18446744073709551615
def onceLA (S L : Nat) (s : St) : Option (LA XO) := match find (tmK 3 s) s.H.h, find (envM 3 s) s.H.h, find (envC 3 s) s.H.h, find (envR 3 s) s.H.h with
  | some (.own te se cs), some (.own t sz (some (.slc kc a b z len cap) :: _)), some (.row t2 c2 n _), some (.row t3 c3 n3 l3) => fN (envE 3 s) fun ke => some ⟨[(tmK 3, true), (envM 3, true), (envC 3, true), (envR 3, true), (envE 3, false)],
      fun x => [.own te se (cs.set 25 (some (.slc ke (.k 0) (.k 0) 5 (.s x.ne) (.s x.c)))), .own t sz ([.slc kc a b z len cap, i6 x.m.lk, i6 x.m.lc, uw x.m.lo, uw x.m.ln, i6 x.m.ct].map some), .row t2 c2 n [.ci .u64 fun _ e => x.m.g e],
        .row t3 c3 n3 (l3.set 6 (.ck [.bv x.st])), .row 80 x.c x.ne x.ev.cols],
      [7, 5, 6], fun x => [.c (i6 x.i), .c (.bv x.rdy), .c (i6 x.cl)], rdO, okO S L, fun x => 101 - x.i⟩
  | _, _, _, _ => none
def con18N : Con := Con.add 59 conYes conNL
def verOnce (g : Nat → Int) (len cap : Nat) : V := verF P con18N 10 12 12 [] (.loop XO [.nilCell (tmK 3) 25 80 5 fun _ => noEv] (onceLA 38 39) .nil .nil) [.c (slK 0 1 len cap)] ⟨[(0, ints .u8 len g)], 1, fun _ => True⟩ yesV
end
end Go.Proofs.Ytomaagmleafjeaa.Md

/- TableOnce: the conditions, printed by program. -/
set_option linter.unusedVariables false
set_option maxRecDepth 100000
namespace Go.Proofs.Ytomaagmleafjeaa.Md
open Go Go.RowKit Sx Cn Dc Ck Vc

set_option maxHeartbeats 8000000 in
theorem verOnce_eq (g : Nat → Int) (len cap : Nat) : verOnce g len cap =
  V.br (decide ((↑len : Int) > Int.ofNat 100)) V.ok
    (nN [(2, .eq 2 2), (1, .le 1 1), (1, .le2 2 2 2 2)]
    (V.need (∀ (i e : Nat), i = 0 ∧ e < 2 → e < 2)
    (V.need (∀ (i e : Nat), i = 0 ∧ e < 2 → e = 0 → Int.ofNat 3 = match [SC.ki IntKind.u8 (Int.ofNat 3), SC.ki IntKind.u8 (Int.ofNat 1)][e]? with | some (SC.ki k n) => n | x => Int.ofNat 0)
    (V.need (∀ (i e : Nat), i = 0 ∧ e < 2 → e = 1 → Int.ofNat 1 = match [SC.ki IntKind.u8 (Int.ofNat 3), SC.ki IntKind.u8 (Int.ofNat 1)][e]? with | some (SC.ki k n) => n | x => Int.ofNat 0)
    (V.need ((U8 2 fun (e : Nat) => match [SC.ki IntKind.u8 (Int.ofNat 3), SC.ki IntKind.u8 (Int.ofNat 1)][e]? with | some (SC.ki k n) => n | x => Int.ofNat 0) ∧ 2 ≤ 9)
    (V.need (∃ (x : Nat × Nat × (Nat → Nat)), 1 ≤ x.fst)
    (V.any (Nat × Nat × (Nat → Nat)) (fun (x : Nat × Nat × (Nat → Nat)) => 1 ≤ x.fst) fun (x : Nat × Nat × (Nat → Nat)) => nN [(1, .eqI 4 4), (1, .eqI 2 2), (5, .eqI 1 1), (1, .eqI 0 0), (1, .eqI 1 1), (1, .eq 1 1), (1, .pf (x.fst = x.fst) rfl), (1, .eq 0 0), (1, .pf (x.snd.fst = x.snd.fst) rfl), (1, .le 1 1)]
    (V.need (1 ≤ 1 ∧ 1 ≤ x.fst)
    (nN [(1, .pf (∀ (i e : Nat), i = 0 ∧ e < 1 → e = e) (by intros; rfl)), (1, .pf (∀ (i e : Nat), i = 0 ∧ e < 1 → 0 = 0) (by intros; rfl)), (1, .pf (∀ (i e : Nat), i = 0 ∧ e < 1 → x.snd.snd e = x.snd.snd e) (by intros; rfl)), (1, .le 1 1)]
    (V.need (0 ≤ 0 ∧ 0 ≤ x.snd.fst)
    (nN [(1, .pf (∀ (i e : Nat), i = 0 ∧ e < 0 → uP (fun (e : Nat) => match [SC.ki IntKind.u8 (Int.ofNat 3), SC.ki IntKind.u8 (Int.ofNat 1)][e]? with | some (SC.ki k n) => n | x => Int.ofNat 0) 2 e = uP (fun (e : Nat) => match [SC.ki IntKind.u8 (Int.ofNat 3), SC.ki IntKind.u8 (Int.ofNat 1)][e]? with | some (SC.ki k n) => n | x => Int.ofNat 0) 2 e) (by intros; rfl)), (1, .pf (∀ (i e : Nat), i = 0 ∧ e < 0 → uL (fun (e : Nat) => match [SC.ki IntKind.u8 (Int.ofNat 3), SC.ki IntKind.u8 (Int.ofNat 1)][e]? with | some (SC.ki k n) => n | x => Int.ofNat 0) 2 e = uL (fun (e : Nat) => match [SC.ki IntKind.u8 (Int.ofNat 3), SC.ki IntKind.u8 (Int.ofNat 1)][e]? with | some (SC.ki k n) => n | x => Int.ofNat 0) 2 e) (by intros; rfl)), (1, .pf (∀ (i e : Nat), i = 0 ∧ e < 0 → uD (fun (e : Nat) => match [SC.ki IntKind.u8 (Int.ofNat 3), SC.ki IntKind.u8 (Int.ofNat 1)][e]? with | some (SC.ki k n) => n | x => Int.ofNat 0) 2 e = uD (fun (e : Nat) => match [SC.ki IntKind.u8 (Int.ofNat 3), SC.ki IntKind.u8 (Int.ofNat 1)][e]? with | some (SC.ki k n) => n | x => Int.ofNat 0) 2 e) (by intros; rfl))]
    (V.need (∀ (i : Nat), i < 1 → 0 ≤ gd 1 (fun (x : Nat) => 0) i ∧ 0 ≤ gd 1 (fun (e : Nat) => x.snd.snd e) i)
    (nN [(1, .pf (∀ (i e : Nat), i < 1 ∧ e < 0 → cO (fun (e : Nat) => match [SC.ki IntKind.u8 (Int.ofNat 3), SC.ki IntKind.u8 (Int.ofNat 1)][e]? with | some (SC.ki k n) => n | x => Int.ofNat 0) 2 i e = cO (fun (e : Nat) => match [SC.ki IntKind.u8 (Int.ofNat 3), SC.ki IntKind.u8 (Int.ofNat 1)][e]? with | some (SC.ki k n) => n | x => Int.ofNat 0) 2 i e) (by intros; rfl)), (1, .pf (∀ (i e : Nat), i < 1 ∧ e < 0 → cA (fun (e : Nat) => match [SC.ki IntKind.u8 (Int.ofNat 3), SC.ki IntKind.u8 (Int.ofNat 1)][e]? with | some (SC.ki k n) => n | x => Int.ofNat 0) 2 i e = cA (fun (e : Nat) => match [SC.ki IntKind.u8 (Int.ofNat 3), SC.ki IntKind.u8 (Int.ofNat 1)][e]? with | some (SC.ki k n) => n | x => Int.ofNat 0) 2 i e) (by intros; rfl)), (1, .pf (∀ (i e : Nat), i < 1 ∧ e < 0 → cB (fun (e : Nat) => match [SC.ki IntKind.u8 (Int.ofNat 3), SC.ki IntKind.u8 (Int.ofNat 1)][e]? with | some (SC.ki k n) => n | x => Int.ofNat 0) 2 i e = cB (fun (e : Nat) => match [SC.ki IntKind.u8 (Int.ofNat 3), SC.ki IntKind.u8 (Int.ofNat 1)][e]? with | some (SC.ki k n) => n | x => Int.ofNat 0) 2 i e) (by intros; rfl))]
    (V.need (errE (Cf.mk (Int.ofNat 4) (Int.ofNat 2) (Int.ofNat 1) (Int.ofNat 1) (Int.ofNat 1) (Int.ofNat 1) (Int.ofNat 1) (Int.ofNat 0) (Int.ofNat 1) 1 x.fst 0 x.snd.fst (fun (e : Nat) => 0) (fun (e : Nat) => x.snd.snd e) (fun (i e : Nat) => cO (fun (e : Nat) => match [SC.ki IntKind.u8 (Int.ofNat 3), SC.ki IntKind.u8 (Int.ofNat 1)][e]? with | some (SC.ki k n) => n | x => Int.ofNat 0) 2 i e) (fun (i e : Nat) => cA (fun (e : Nat) => match [SC.ki IntKind.u8 (Int.ofNat 3), SC.ki IntKind.u8 (Int.ofNat 1)][e]? with | some (SC.ki k n) => n | x => Int.ofNat 0) 2 i e) (fun (i e : Nat) => cB (fun (e : Nat) => match [SC.ki IntKind.u8 (Int.ofNat 3), SC.ki IntKind.u8 (Int.ofNat 1)][e]? with | some (SC.ki k n) => n | x => Int.ofNat 0) 2 i e) (fun (e : Nat) => uP (fun (e : Nat) => match [SC.ki IntKind.u8 (Int.ofNat 3), SC.ki IntKind.u8 (Int.ofNat 1)][e]? with | some (SC.ki k n) => n | x => Int.ofNat 0) 2 e) (fun (e : Nat) => uL (fun (e : Nat) => match [SC.ki IntKind.u8 (Int.ofNat 3), SC.ki IntKind.u8 (Int.ofNat 1)][e]? with | some (SC.ki k n) => n | x => Int.ofNat 0) 2 e) fun (e : Nat) => uD (fun (e : Nat) => match [SC.ki IntKind.u8 (Int.ofNat 3), SC.ki IntKind.u8 (Int.ofNat 1)][e]? with | some (SC.ki k n) => n | x => Int.ofNat 0) 2 e) = Int.ofNat 0)
    (V.need (∃ (x_1 : Cf × Nat), IsCl (Cf.mk (Int.ofNat 4) (Int.ofNat 2) (Int.ofNat 1) (Int.ofNat 1) (Int.ofNat 1) (Int.ofNat 1) (Int.ofNat 1) (Int.ofNat 0) (Int.ofNat 1) 1 x.fst 0 x.snd.fst (fun (e : Nat) => 0) (fun (e : Nat) => x.snd.snd e) (fun (i e : Nat) => cO (fun (e : Nat) => match [SC.ki IntKind.u8 (Int.ofNat 3), SC.ki IntKind.u8 (Int.ofNat 1)][e]? with | some (SC.ki k n) => n | x => Int.ofNat 0) 2 i e) (fun (i e : Nat) => cA (fun (e : Nat) => match [SC.ki IntKind.u8 (Int.ofNat 3), SC.ki IntKind.u8 (Int.ofNat 1)][e]? with | some (SC.ki k n) => n | x => Int.ofNat 0) 2 i e) (fun (i e : Nat) => cB (fun (e : Nat) => match [SC.ki IntKind.u8 (Int.ofNat 3), SC.ki IntKind.u8 (Int.ofNat 1)][e]? with | some (SC.ki k n) => n | x => Int.ofNat 0) 2 i e) (fun (e : Nat) => uP (fun (e : Nat) => match [SC.ki IntKind.u8 (Int.ofNat 3), SC.ki IntKind.u8 (Int.ofNat 1)][e]? with | some (SC.ki k n) => n | x => Int.ofNat 0) 2 e) (fun (e : Nat) => uL (fun (e : Nat) => match [SC.ki IntKind.u8 (Int.ofNat 3), SC.ki IntKind.u8 (Int.ofNat 1)][e]? with | some (SC.ki k n) => n | x => Int.ofNat 0) 2 e) fun (e : Nat) => uD (fun (e : Nat) => match [SC.ki IntKind.u8 (Int.ofNat 3), SC.ki IntKind.u8 (Int.ofNat 1)][e]? with | some (SC.ki k n) => n | x => Int.ofNat 0) 2 e) x_1.fst ∧ (Int.ofNat 1).toNat ≤ x_1.snd)
    (V.any (Cf × Nat) (fun (x_1 : Cf × Nat) => IsCl (Cf.mk (Int.ofNat 4) (Int.ofNat 2) (Int.ofNat 1) (Int.ofNat 1) (Int.ofNat 1) (Int.ofNat 1) (Int.ofNat 1) (Int.ofNat 0) (Int.ofNat 1) 1 x.fst 0 x.snd.fst (fun (e : Nat) => 0) (fun (e : Nat) => x.snd.snd e) (fun (i e : Nat) => cO (fun (e : Nat) => match [SC.ki IntKind.u8 (Int.ofNat 3), SC.ki IntKind.u8 (Int.ofNat 1)][e]? with | some (SC.ki k n) => n | x => Int.ofNat 0) 2 i e) (fun (i e : Nat) => cA (fun (e : Nat) => match [SC.ki IntKind.u8 (Int.ofNat 3), SC.ki IntKind.u8 (Int.ofNat 1)][e]? with | some (SC.ki k n) => n | x => Int.ofNat 0) 2 i e) (fun (i e : Nat) => cB (fun (e : Nat) => match [SC.ki IntKind.u8 (Int.ofNat 3), SC.ki IntKind.u8 (Int.ofNat 1)][e]? with | some (SC.ki k n) => n | x => Int.ofNat 0) 2 i e) (fun (e : Nat) => uP (fun (e : Nat) => match [SC.ki IntKind.u8 (Int.ofNat 3), SC.ki IntKind.u8 (Int.ofNat 1)][e]? with | some (SC.ki k n) => n | x => Int.ofNat 0) 2 e) (fun (e : Nat) => uL (fun (e : Nat) => match [SC.ki IntKind.u8 (Int.ofNat 3), SC.ki IntKind.u8 (Int.ofNat 1)][e]? with | some (SC.ki k n) => n | x => Int.ofNat 0) 2 e) fun (e : Nat) => uD (fun (e : Nat) => match [SC.ki IntKind.u8 (Int.ofNat 3), SC.ki IntKind.u8 (Int.ofNat 1)][e]? with | some (SC.ki k n) => n | x => Int.ofNat 0) 2 e) x_1.fst ∧ (Int.ofNat 1).toNat ≤ x_1.snd) fun (x : Cf × Nat) => V.need True
    (V.need (0 ≤ 100 ∧ 0 ≤ 0 ∧ 0 ≤ 0 ∧ 0 ≤ 0 ∧ false = decide (0 < 0) ∧ (false = true → Int.ofNat 0 = Int.ofNat 1) ∧ (false = false → Int.ofNat 0 ≠ Int.ofNat 1) ∧ Int.ofNat 0 = Int.ofNat 0 ∧ ∀ (e : Nat), Int.ofNat 0 ≤ Int.ofNat 0 ∧ Int.ofNat 0 ≤ Int.ofNat 18446744073709551615)
    (V.need (Int.ofNat 0 = (↑0 : Int))
    (nN [(1, .pf (false = false) rfl)]
    (V.need (Int.ofNat 0 = (↑0 : Int))
    (nN [(1, .pf (x.fst.nP = x.fst.nP) rfl), (1, .pf (x.fst.rc = x.fst.rc) rfl), (1, .pf (x.fst.nU = x.fst.nU) rfl), (1, .pf (x.fst.cu = x.fst.cu) rfl), (1, .pf (x.snd = x.snd) rfl), (2, .eq 0 0), (5, .eqI 0 0), (1, .eq 43 43), (1, .le 43 43), (1, .pf (∀ (e : Nat), e < 43 → Int.ofNat 0 = Int.ofNat 0) (by intros; rfl)), (1, .pf (x.snd = x.snd) rfl), (1, .le 1 1), (1, .pf (false = false) rfl), (1, .eq 0 0), (1, .le 0 0), (5, .pf (∀ (e : Nat), e < 0 → Int.ofNat 0 = Int.ofNat 0) (by intros; rfl))]
    (V.any XO (okO 38 39) fun (x_1 : XO) => V.br (decide ((↑x_1.i : Int) < (↑len : Int)))
    (V.need (Int.ofNat 0 ≤ (↑x_1.i : Int) ∧ (↑x_1.i : Int) < (↑len : Int))
    (V.need (0 < 1 ∧ 0 + (↑x_1.i : Int).toNat < len)
    (V.need (0 < 1 ∧ 0 + (↑x_1.i : Int).toNat < len)
    (nN [(1, .pf (IntKind.i64.wrap (g (0 + (↑x_1.i : Int).toNat)) = IntKind.i64.wrap (g (0 + (↑x_1.i : Int).toNat))) rfl), (1, .eqI 3 3), (1, .leI 3 9223372036854775807), (1, .pf (∃ (x : Int), x = dr (IntKind.i64.wrap (g (0 + (↑x_1.i : Int).toNat))) (Int.ofNat 3)) ⟨_, rfl⟩)]
    (V.any Int (fun (r : Int) => r = dr (IntKind.i64.wrap (g (0 + (↑x_1.i : Int).toNat))) (Int.ofNat 3)) fun (x_2 : Int) => V.br (x_2 == Int.ofNat 0)
    (V.need (Int.ofNat 0 ≤ (↑x_1.i : Int) ∧ (↑x_1.i : Int) < (↑len : Int))
    (V.need (0 < 1 ∧ 0 + (↑x_1.i : Int).toNat < len)
    (V.need (0 < 1 ∧ 0 + (↑x_1.i : Int).toNat < len)
    (nN [(1, .neI 3 0), (1, .neI 4 0), (25, .lt2 0 1 0 1), (1, .eqI 42 42), (1, .eqI 0 0), (1, .pf (x_1.m.lk = x_1.m.lk) rfl), (1, .pf (x_1.m.lc = x_1.m.lc) rfl), (1, .pf (x_1.m.lo = x_1.m.lo) rfl), (1, .pf (x_1.m.ln = x_1.m.ln) rfl), (1, .pf (x_1.m.ct = x_1.m.ct) rfl), (1, .eq 43 43), (1, .le 43 43), (1, .pf (∀ (e : Nat), e < 43 → x_1.m.g e = x_1.m.g e) (by intros; rfl)), (1, .pf (∃ (x : Mm), x = (Mm.mk (fun (e : Nat) => x_1.m.g e) x_1.m.lk x_1.m.lc x_1.m.lo x_1.m.ln x_1.m.ct).acc 43 (Int.ofNat 2) (Int.ofNat 42) (Int.ofNat 0)) ⟨_, rfl⟩)]
    (V.any Mm (fun (m' : Mm) => m' = (Mm.mk (fun (e : Nat) => x_1.m.g e) x_1.m.lk x_1.m.lc x_1.m.lo x_1.m.ln x_1.m.ct).acc 43 (Int.ofNat 2) (Int.ofNat 42) (Int.ofNat 0)) fun (x_3 : Mm) => nN [(19, .lt2 0 1 0 1), (1, .eqI 38 38), (1, .eqI 1 1), (1, .pf (x_3.lk = x_3.lk) rfl), (1, .pf (x_3.lc = x_3.lc) rfl), (1, .pf (x_3.lo = x_3.lo) rfl), (1, .pf (x_3.ln = x_3.ln) rfl), (1, .pf (x_3.ct = x_3.ct) rfl), (1, .eq 43 43), (1, .le 43 43), (1, .pf (∀ (e : Nat), e < 43 → x_3.g e = x_3.g e) (by intros; rfl)), (1, .pf (∃ (x : Mm), x = (Mm.mk (fun (e : Nat) => x_3.g e) x_3.lk x_3.lc x_3.lo x_3.ln x_3.ct).acc 43 (Int.ofNat 2) (Int.ofNat 38) (Int.ofNat 1)) ⟨_, rfl⟩)]
    (V.any Mm (fun (m' : Mm) => m' = (Mm.mk (fun (e : Nat) => x_3.g e) x_3.lk x_3.lc x_3.lo x_3.ln x_3.ct).acc 43 (Int.ofNat 2) (Int.ofNat 38) (Int.ofNat 1)) fun (x_4 : Mm) => nN [(19, .lt2 0 1 0 1), (1, .eqI 39 39), (1, .pf (x_4.lk = x_4.lk) rfl), (1, .pf (x_4.lc = x_4.lc) rfl), (1, .pf (x_4.lo = x_4.lo) rfl), (1, .pf (x_4.ln = x_4.ln) rfl), (1, .pf (x_4.ct = x_4.ct) rfl), (1, .eq 43 43), (1, .le 43 43), (1, .pf (∀ (e : Nat), e < 43 → x_4.g e = x_4.g e) (by intros; rfl)), (1, .pf (∃ (x : Mm), x = (Mm.mk (fun (e : Nat) => x_4.g e) x_4.lk x_4.lc x_4.lo x_4.ln x_4.ct).acc 43 (Int.ofNat 1) (Int.ofNat 39) ((Mm.mk (fun (e : Nat) => x_4.g e) x_4.lk x_4.lc x_4.lo x_4.ln x_4.ct).val 43 (Int.ofNat 39))) ⟨_, rfl⟩)]
    (V.any Mm (fun (m' : Mm) => m' = (Mm.mk (fun (e : Nat) => x_4.g e) x_4.lk x_4.lc x_4.lo x_4.ln x_4.ct).acc 43 (Int.ofNat 1) (Int.ofNat 39) ((Mm.mk (fun (e : Nat) => x_4.g e) x_4.lk x_4.lc x_4.lo x_4.ln x_4.ct).val 43 (Int.ofNat 39))) fun (x_5 : Mm) => nN [(1, .pf (∃ (x : Int), x = (Mm.mk (fun (e : Nat) => x_4.g e) x_4.lk x_4.lc x_4.lo x_4.ln x_4.ct).val 43 (Int.ofNat 39)) ⟨_, rfl⟩)]
    (V.any Int (fun (v : Int) => v = (Mm.mk (fun (e : Nat) => x_4.g e) x_4.lk x_4.lc x_4.lo x_4.ln x_4.ct).val 43 (Int.ofNat 39)) fun (x_6 : Int) => nN [(32, .lt2 0 1 0 1), (1, .eqI 4 4), (1, .eqI 2 2), (4, .eqI 1 1), (1, .eqI 5 5), (1, .eqI 6 6), (1, .eqI 10 10), (1, .eqI 14 14), (1, .eqI 38 38), (1, .pf ((IntKind.i64.wrap (IntKind.u8.wrap ((g (0 + (↑x_1.i : Int).toNat)).tdiv (Int.ofNat 3)))).tmod (Int.ofNat 4) = (IntKind.i64.wrap (IntKind.u8.wrap ((g (0 + (↑x_1.i : Int).toNat)).tdiv (Int.ofNat 3)))).tmod (Int.ofNat 4)) rfl), (1, .pf (IntKind.i64.wrap x_6 = IntKind.i64.wrap x_6) rfl)]
    (V.need (okQ (Ly.mk (Int.ofNat 4) (Int.ofNat 2) (Int.ofNat 1) (Int.ofNat 1) (Int.ofNat 1) (Int.ofNat 1) (Int.ofNat 5) (Int.ofNat 6) (Int.ofNat 10) (Int.ofNat 14) (Int.ofNat 38)) ((IntKind.i64.wrap (IntKind.u8.wrap ((g (0 + (↑x_1.i : Int).toNat)).tdiv (Int.ofNat 3)))).tmod (Int.ofNat 4)) (IntKind.i64.wrap x_6))
    (nN [(1, .pf (∃ (x : Int), x = Int.ofNat 14 + (IntKind.i64.wrap (IntKind.u8.wrap ((g (0 + (↑x_1.i : Int).toNat)).tdiv (Int.ofNat 3)))).tmod (Int.ofNat 4) * (Int.ofNat 2 * (Int.ofNat 2 + Int.ofNat 1)) + IntKind.i64.wrap x_6 * (Int.ofNat 2 + Int.ofNat 1)) ⟨_, rfl⟩)]
    (V.any Int (fun (T : Int) => T = Int.ofNat 14 + (IntKind.i64.wrap (IntKind.u8.wrap ((g (0 + (↑x_1.i : Int).toNat)).tdiv (Int.ofNat 3)))).tmod (Int.ofNat 4) * (Int.ofNat 2 * (Int.ofNat 2 + Int.ofNat 1)) + IntKind.i64.wrap x_6 * (Int.ofNat 2 + Int.ofNat 1)) fun (x_7 : Int) => nN [(12, .lt2 0 1 0 1), (1, .pf (x_7 + Int.ofNat 1 = x_7 + Int.ofNat 1) rfl), (1, .pf (x_5.lk = x_5.lk) rfl), (1, .pf (x_5.lc = x_5.lc) rfl), (1, .pf (x_5.lo = x_5.lo) rfl), (1, .pf (x_5.ln = x_5.ln) rfl), (1, .pf (x_5.ct = x_5.ct) rfl), (1, .eq 43 43), (1, .le 43 43), (1, .pf (∀ (e : Nat), e < 43 → x_5.g e = x_5.g e) (by intros; rfl)), (1, .pf (∃ (x : Mm), x = (Mm.mk (fun (e : Nat) => x_5.g e) x_5.lk x_5.lc x_5.lo x_5.ln x_5.ct).acc 43 (Int.ofNat 1) (x_7 + Int.ofNat 1) ((Mm.mk (fun (e : Nat) => x_5.g e) x_5.lk x_5.lc x_5.lo x_5.ln x_5.ct).val 43 (x_7 + Int.ofNat 1))) ⟨_, rfl⟩)]
    (V.any Mm (fun (m' : Mm) => m' = (Mm.mk (fun (e : Nat) => x_5.g e) x_5.lk x_5.lc x_5.lo x_5.ln x_5.ct).acc 43 (Int.ofNat 1) (x_7 + Int.ofNat 1) ((Mm.mk (fun (e : Nat) => x_5.g e) x_5.lk x_5.lc x_5.lo x_5.ln x_5.ct).val 43 (x_7 + Int.ofNat 1))) fun (x_8 : Mm) => nN [(1, .pf (∃ (x : Int), x = (Mm.mk (fun (e : Nat) => x_5.g e) x_5.lk x_5.lc x_5.lo x_5.ln x_5.ct).val 43 (x_7 + Int.ofNat 1)) ⟨_, rfl⟩)]
    (V.any Int (fun (v : Int) => v = (Mm.mk (fun (e : Nat) => x_5.g e) x_5.lk x_5.lc x_5.lo x_5.ln x_5.ct).val 43 (x_7 + Int.ofNat 1)) fun (x_9 : Int) => nN [(9, .lt2 0 1 0 1), (1, .pf (x_7 = x_7) rfl), (1, .pf (x_8.lk = x_8.lk) rfl), (1, .pf (x_8.lc = x_8.lc) rfl), (1, .pf (x_8.lo = x_8.lo) rfl), (1, .pf (x_8.ln = x_8.ln) rfl), (1, .pf (x_8.ct = x_8.ct) rfl), (1, .eq 43 43), (1, .le 43 43), (1, .pf (∀ (e : Nat), e < 43 → x_8.g e = x_8.g e) (by intros; rfl)), (1, .pf (∃ (x : Mm), x = (Mm.mk (fun (e : Nat) => x_8.g e) x_8.lk x_8.lc x_8.lo x_8.ln x_8.ct).acc 43 (Int.ofNat 1) x_7 ((Mm.mk (fun (e : Nat) => x_8.g e) x_8.lk x_8.lc x_8.lo x_8.ln x_8.ct).val 43 x_7)) ⟨_, rfl⟩)]
    (V.any Mm (fun (m' : Mm) => m' = (Mm.mk (fun (e : Nat) => x_8.g e) x_8.lk x_8.lc x_8.lo x_8.ln x_8.ct).acc 43 (Int.ofNat 1) x_7 ((Mm.mk (fun (e : Nat) => x_8.g e) x_8.lk x_8.lc x_8.lo x_8.ln x_8.ct).val 43 x_7)) fun (x_10 : Mm) => nN [(1, .pf (∃ (x : Int), x = (Mm.mk (fun (e : Nat) => x_8.g e) x_8.lk x_8.lc x_8.lo x_8.ln x_8.ct).val 43 x_7) ⟨_, rfl⟩)]
    (V.any Int (fun (v : Int) => v = (Mm.mk (fun (e : Nat) => x_8.g e) x_8.lk x_8.lc x_8.lo x_8.ln x_8.ct).val 43 x_7) fun (x_11 : Int) => nN [(7, .lt2 0 1 0 1)]
    (V.br (decide (IntKind.i64.wrap (IntKind.u64.wrap (x_9 - x_11)) ≥ Int.ofNat 1))
    (nN [(23, .lt2 0 1 0 1)]
    (V.need ((IntKind.i64.wrap ((↑x_1.i : Int) + Int.ofNat 1)).toNat ≤ 100 ∧ (↑x_1.cl : Int).toNat ≤ (IntKind.i64.wrap ((↑x_1.i : Int) + Int.ofNat 1)).toNat ∧ x_1.ne ≤ (IntKind.i64.wrap ((↑x_1.i : Int) + Int.ofNat 1)).toNat ∧ x_1.ne ≤ x_1.c ∧ x_1.st = decide (0 < (↑x_1.cl : Int).toNat) ∧ (true = true → x_10.g 38 = Int.ofNat 1) ∧ (true = false → x_10.g 38 ≠ Int.ofNat 1) ∧ x_10.g 39 = Int.ofNat 0 ∧ ∀ (e : Nat), Int.ofNat 0 ≤ x_10.g e ∧ x_10.g e ≤ Int.ofNat 18446744073709551615)
    (V.need (101 - (IntKind.i64.wrap ((↑x_1.i : Int) + Int.ofNat 1)).toNat < 101 - x_1.i)
    (V.need (IntKind.i64.wrap ((↑x_1.i : Int) + Int.ofNat 1) = (↑(IntKind.i64.wrap ((↑x_1.i : Int) + Int.ofNat 1)).toNat : Int))
    (nN [(1, .pf (true = true) rfl)]
    (V.need ((↑x_1.cl : Int) = (↑(↑x_1.cl : Int).toNat : Int))
    (nN [(1, .pf (x.fst.nP = x.fst.nP) rfl), (1, .pf (x.fst.rc = x.fst.rc) rfl), (1, .pf (x.fst.nU = x.fst.nU) rfl), (1, .pf (x.fst.cu = x.fst.cu) rfl), (1, .pf (x.snd = x.snd) rfl), (1, .pf (x_1.ne = x_1.ne) rfl), (1, .pf (x_1.c = x_1.c) rfl), (1, .pf (x_10.lk = x_10.lk) rfl), (1, .pf (x_10.lc = x_10.lc) rfl), (1, .pf (x_10.lo = x_10.lo) rfl), (1, .pf (x_10.ln = x_10.ln) rfl), (1, .pf (x_10.ct = x_10.ct) rfl), (1, .eq 43 43), (1, .le 43 43), (1, .pf (∀ (e : Nat), e < 43 → x_10.g e = x_10.g e) (by intros; rfl)), (1, .pf (x.snd = x.snd) rfl), (1, .le 1 1), (1, .pf (x_1.st = x_1.st) rfl), (1, .pf (x_1.c = x_1.c) rfl)]
    (V.need (x_1.ne ≤ x_1.ne)
    (nN [(1, .pf (∀ (e : Nat), e < x_1.ne → x_1.ev.k e = x_1.ev.k e) (by intros; rfl)), (1, .pf (∀ (e : Nat), e < x_1.ne → x_1.ev.w e = x_1.ev.w e) (by intros; rfl)), (1, .pf (∀ (e : Nat), e < x_1.ne → x_1.ev.t e = x_1.ev.t e) (by intros; rfl)), (1, .pf (∀ (e : Nat), e < x_1.ne → x_1.ev.o e = x_1.ev.o e) (by intros; rfl)), (1, .pf (∀ (e : Nat), e < x_1.ne → x_1.ev.l e = x_1.ev.l e) (by intros; rfl))] V.ok)))))))))
    (nN [(12, .lt2 0 1 0 1)]
    (V.br false
    (nN [(3, .lt2 0 1 0 1), (1, .pf (Int.negSucc 0 = Int.negSucc 0) rfl), (1, .eqI 0 0), (1, .pf (x_10.lk = x_10.lk) rfl), (1, .pf (x_10.lc = x_10.lc) rfl), (1, .pf (x_10.lo = x_10.lo) rfl), (1, .pf (x_10.ln = x_10.ln) rfl), (1, .pf (x_10.ct = x_10.ct) rfl), (1, .eq 43 43), (1, .le 43 43), (1, .pf (∀ (e : Nat), e < 43 → x_10.g e = x_10.g e) (by intros; rfl)), (1, .pf (∃ (x : Mm), x = (Mm.mk (fun (e : Nat) => x_10.g e) x_10.lk x_10.lc x_10.lo x_10.ln x_10.ct).acc 43 (Int.ofNat 2) (Int.negSucc 0) (Int.ofNat 0)) ⟨_, rfl⟩)]
    (V.any Mm (fun (m' : Mm) => m' = (Mm.mk (fun (e : Nat) => x_10.g e) x_10.lk x_10.lc x_10.lo x_10.ln x_10.ct).acc 43 (Int.ofNat 2) (Int.negSucc 0) (Int.ofNat 0)) fun (x_12 : Mm) => nN [(10, .lt2 0 1 0 1), (1, .pf (x_7 + Int.ofNat 1 = x_7 + Int.ofNat 1) rfl), (1, .pf (IntKind.u64.wrap (x_9 + Int.ofNat 1) = IntKind.u64.wrap (x_9 + Int.ofNat 1)) rfl), (1, .pf (x_12.lk = x_12.lk) rfl), (1, .pf (x_12.lc = x_12.lc) rfl), (1, .pf (x_12.lo = x_12.lo) rfl), (1, .pf (x_12.ln = x_12.ln) rfl), (1, .pf (x_12.ct = x_12.ct) rfl), (1, .eq 43 43), (1, .le 43 43), (1, .pf (∀ (e : Nat), e < 43 → x_12.g e = x_12.g e) (by intros; rfl)), (1, .pf (∃ (x : Mm), x = (Mm.mk (fun (e : Nat) => x_12.g e) x_12.lk x_12.lc x_12.lo x_12.ln x_12.ct).acc 43 (Int.ofNat 2) (x_7 + Int.ofNat 1) (IntKind.u64.wrap (x_9 + Int.ofNat 1))) ⟨_, rfl⟩)]
    (V.any Mm (fun (m' : Mm) => m' = (Mm.mk (fun (e : Nat) => x_12.g e) x_12.lk x_12.lc x_12.lo x_12.ln x_12.ct).acc 43 (Int.ofNat 2) (x_7 + Int.ofNat 1) (IntKind.u64.wrap (x_9 + Int.ofNat 1))) fun (x_13 : Mm) => nN [(22, .lt2 0 1 0 1), (1, .pf ((IntKind.i64.wrap (IntKind.u8.wrap ((g (0 + (↑x_1.i : Int).toNat)).tdiv (Int.ofNat 3)))).tmod (Int.ofNat 4) = (IntKind.i64.wrap (IntKind.u8.wrap ((g (0 + (↑x_1.i : Int).toNat)).tdiv (Int.ofNat 3)))).tmod (Int.ofNat 4)) rfl), (1, .eqI 4 4), (1, .eqI 10 10), (1, .eqI 1 1)]
    (V.need (okAt ((IntKind.i64.wrap (IntKind.u8.wrap ((g (0 + (↑x_1.i : Int).toNat)).tdiv (Int.ofNat 3)))).tmod (Int.ofNat 4)) (Int.ofNat 4) (Int.ofNat 10) (Int.ofNat 1))
    (nN [(1, .pf (∃ (x : Int), x = Int.ofNat 10 + (IntKind.i64.wrap (IntKind.u8.wrap ((g (0 + (↑x_1.i : Int).toNat)).tdiv (Int.ofNat 3)))).tmod (Int.ofNat 4) * Int.ofNat 1) ⟨_, rfl⟩)]
    (V.any Int (fun (r : Int) => r = Int.ofNat 10 + (IntKind.i64.wrap (IntKind.u8.wrap ((g (0 + (↑x_1.i : Int).toNat)).tdiv (Int.ofNat 3)))).tmod (Int.ofNat 4) * Int.ofNat 1) fun (x_14 : Int) => nN [(16, .lt2 0 1 0 1)]
    (V.br (decide (IntKind.i64.wrap x_6 < Int.ofNat 0))
    (nN [(1, .pf (x_14 = x_14) rfl), (1, .eqI 0 0), (1, .pf (x_13.lk = x_13.lk) rfl), (1, .pf (x_13.lc = x_13.lc) rfl), (1, .pf (x_13.lo = x_13.lo) rfl), (1, .pf (x_13.ln = x_13.ln) rfl), (1, .pf (x_13.ct = x_13.ct) rfl), (1, .eq 43 43), (1, .le 43 43), (1, .pf (∀ (e : Nat), e < 43 → x_13.g e = x_13.g e) (by intros; rfl)), (1, .pf (∃ (x : Mm), x = (Mm.mk (fun (e : Nat) => x_13.g e) x_13.lk x_13.lc x_13.lo x_13.ln x_13.ct).acc 43 (Int.ofNat 4) x_14 (bits BinOp.or IntKind.u64 ((Mm.mk (fun (e : Nat) => x_13.g e) x_13.lk x_13.lc x_13.lo x_13.ln x_13.ct).val 43 x_14) (Int.ofNat 0))) ⟨_, rfl⟩)]
    (V.any Mm (fun (m' : Mm) => m' = (Mm.mk (fun (e : Nat) => x_13.g e) x_13.lk x_13.lc x_13.lo x_13.ln x_13.ct).acc 43 (Int.ofNat 4) x_14 (bits BinOp.or IntKind.u64 ((Mm.mk (fun (e : Nat) => x_13.g e) x_13.lk x_13.lc x_13.lo x_13.ln x_13.ct).val 43 x_14) (Int.ofNat 0))) fun (x_15 : Mm) => nN [(1, .pf (∃ (x : Int), x = (Mm.mk (fun (e : Nat) => x_13.g e) x_13.lk x_13.lc x_13.lo x_13.ln x_13.ct).val 43 x_14) ⟨_, rfl⟩)]
    (V.any Int (fun (v : Int) => v = (Mm.mk (fun (e : Nat) => x_13.g e) x_13.lk x_13.lc x_13.lo x_13.ln x_13.ct).val 43 x_14) fun (x_16 : Int) => nN [(23, .lt2 0 1 0 1)]
    (V.need ((IntKind.i64.wrap ((↑x_1.i : Int) + Int.ofNat 1)).toNat ≤ 100 ∧ (↑x_1.cl : Int).toNat ≤ (IntKind.i64.wrap ((↑x_1.i : Int) + Int.ofNat 1)).toNat ∧ x_1.ne ≤ (IntKind.i64.wrap ((↑x_1.i : Int) + Int.ofNat 1)).toNat ∧ x_1.ne ≤ x_1.c ∧ x_1.st = decide (0 < (↑x_1.cl : Int).toNat) ∧ (true = true → x_15.g 38 = Int.ofNat 1) ∧ (true = false → x_15.g 38 ≠ Int.ofNat 1) ∧ x_15.g 39 = Int.ofNat 0 ∧ ∀ (e : Nat), Int.ofNat 0 ≤ x_15.g e ∧ x_15.g e ≤ Int.ofNat 18446744073709551615)
    (V.need (101 - (IntKind.i64.wrap ((↑x_1.i : Int) + Int.ofNat 1)).toNat < 101 - x_1.i)
    (V.need (IntKind.i64.wrap ((↑x_1.i : Int) + Int.ofNat 1) = (↑(IntKind.i64.wrap ((↑x_1.i : Int) + Int.ofNat 1)).toNat : Int))
    (nN [(1, .pf (true = true) rfl)]
    (V.need ((↑x_1.cl : Int) = (↑(↑x_1.cl : Int).toNat : Int))
    (nN [(1, .pf (x.fst.nP = x.fst.nP) rfl), (1, .pf (x.fst.rc = x.fst.rc) rfl), (1, .pf (x.fst.nU = x.fst.nU) rfl), (1, .pf (x.fst.cu = x.fst.cu) rfl), (1, .pf (x.snd = x.snd) rfl), (1, .pf (x_1.ne = x_1.ne) rfl), (1, .pf (x_1.c = x_1.c) rfl), (1, .pf (x_15.lk = x_15.lk) rfl), (1, .pf (x_15.lc = x_15.lc) rfl), (1, .pf (x_15.lo = x_15.lo) rfl), (1, .pf (x_15.ln = x_15.ln) rfl), (1, .pf (x_15.ct = x_15.ct) rfl), (1, .eq 43 43), (1, .le 43 43), (1, .pf (∀ (e : Nat), e < 43 → x_15.g e = x_15.g e) (by intros; rfl)), (1, .pf (x.snd = x.snd) rfl), (1, .le 1 1), (1, .pf (x_1.st = x_1.st) rfl), (1, .pf (x_1.c = x_1.c) rfl)]
    (V.need (x_1.ne ≤ x_1.ne)
    (nN [(1, .pf (∀ (e : Nat), e < x_1.ne → x_1.ev.k e = x_1.ev.k e) (by intros; rfl)), (1, .pf (∀ (e : Nat), e < x_1.ne → x_1.ev.w e = x_1.ev.w e) (by intros; rfl)), (1, .pf (∀ (e : Nat), e < x_1.ne → x_1.ev.t e = x_1.ev.t e) (by intros; rfl)), (1, .pf (∀ (e : Nat), e < x_1.ne → x_1.ev.o e = x_1.ev.o e) (by intros; rfl)), (1, .pf (∀ (e : Nat), e < x_1.ne → x_1.ev.l e = x_1.ev.l e) (by intros; rfl))] V.ok)))))))))))
    (V.br (decide (IntKind.i64.wrap x_6 > Int.ofNat 63))
    (nN [(1, .pf (x_14 = x_14) rfl), (1, .eqI 0 0), (1, .pf (x_13.lk = x_13.lk) rfl), (1, .pf (x_13.lc = x_13.lc) rfl), (1, .pf (x_13.lo = x_13.lo) rfl), (1, .pf (x_13.ln = x_13.ln) rfl), (1, .pf (x_13.ct = x_13.ct) rfl), (1, .eq 43 43), (1, .le 43 43), (1, .pf (∀ (e : Nat), e < 43 → x_13.g e = x_13.g e) (by intros; rfl)), (1, .pf (∃ (x : Mm), x = (Mm.mk (fun (e : Nat) => x_13.g e) x_13.lk x_13.lc x_13.lo x_13.ln x_13.ct).acc 43 (Int.ofNat 4) x_14 (bits BinOp.or IntKind.u64 ((Mm.mk (fun (e : Nat) => x_13.g e) x_13.lk x_13.lc x_13.lo x_13.ln x_13.ct).val 43 x_14) (Int.ofNat 0))) ⟨_, rfl⟩)]
    (V.any Mm (fun (m' : Mm) => m' = (Mm.mk (fun (e : Nat) => x_13.g e) x_13.lk x_13.lc x_13.lo x_13.ln x_13.ct).acc 43 (Int.ofNat 4) x_14 (bits BinOp.or IntKind.u64 ((Mm.mk (fun (e : Nat) => x_13.g e) x_13.lk x_13.lc x_13.lo x_13.ln x_13.ct).val 43 x_14) (Int.ofNat 0))) fun (x_15 : Mm) => nN [(1, .pf (∃ (x : Int), x = (Mm.mk (fun (e : Nat) => x_13.g e) x_13.lk x_13.lc x_13.lo x_13.ln x_13.ct).val 43 x_14) ⟨_, rfl⟩)]
    (V.any Int (fun (v : Int) => v = (Mm.mk (fun (e : Nat) => x_13.g e) x_13.lk x_13.lc x_13.lo x_13.ln x_13.ct).val 43 x_14) fun (x_16 : Int) => nN [(23, .lt2 0 1 0 1)]
    (V.need ((IntKind.i64.wrap ((↑x_1.i : Int) + Int.ofNat 1)).toNat ≤ 100 ∧ (↑x_1.cl : Int).toNat ≤ (IntKind.i64.wrap ((↑x_1.i : Int) + Int.ofNat 1)).toNat ∧ x_1.ne ≤ (IntKind.i64.wrap ((↑x_1.i : Int) + Int.ofNat 1)).toNat ∧ x_1.ne ≤ x_1.c ∧ x_1.st = decide (0 < (↑x_1.cl : Int).toNat) ∧ (true = true → x_15.g 38 = Int.ofNat 1) ∧ (true = false → x_15.g 38 ≠ Int.ofNat 1) ∧ x_15.g 39 = Int.ofNat 0 ∧ ∀ (e : Nat), Int.ofNat 0 ≤ x_15.g e ∧ x_15.g e ≤ Int.ofNat 18446744073709551615)
    (V.need (101 - (IntKind.i64.wrap ((↑x_1.i : Int) + Int.ofNat 1)).toNat < 101 - x_1.i)
    (V.need (IntKind.i64.wrap ((↑x_1.i : Int) + Int.ofNat 1) = (↑(IntKind.i64.wrap ((↑x_1.i : Int) + Int.ofNat 1)).toNat : Int))
    (nN [(1, .pf (true = true) rfl)]
    (V.need ((↑x_1.cl : Int) = (↑(↑x_1.cl : Int).toNat : Int))
    (nN [(1, .pf (x.fst.nP = x.fst.nP) rfl), (1, .pf (x.fst.rc = x.fst.rc) rfl), (1, .pf (x.fst.nU = x.fst.nU) rfl), (1, .pf (x.fst.cu = x.fst.cu) rfl), (1, .pf (x.snd = x.snd) rfl), (1, .pf (x_1.ne = x_1.ne) rfl), (1, .pf (x_1.c = x_1.c) rfl), (1, .pf (x_15.lk = x_15.lk) rfl), (1, .pf (x_15.lc = x_15.lc) rfl), (1, .pf (x_15.lo = x_15.lo) rfl), (1, .pf (x_15.ln = x_15.ln) rfl), (1, .pf (x_15.ct = x_15.ct) rfl), (1, .eq 43 43), (1, .le 43 43), (1, .pf (∀ (e : Nat), e < 43 → x_15.g e = x_15.g e) (by intros; rfl)), (1, .pf (x.snd = x.snd) rfl), (1, .le 1 1), (1, .pf (x_1.st = x_1.st) rfl), (1, .pf (x_1.c = x_1.c) rfl)]
    (V.need (x_1.ne ≤ x_1.ne)
    (nN [(1, .pf (∀ (e : Nat), e < x_1.ne → x_1.ev.k e = x_1.ev.k e) (by intros; rfl)), (1, .pf (∀ (e : Nat), e < x_1.ne → x_1.ev.w e = x_1.ev.w e) (by intros; rfl)), (1, .pf (∀ (e : Nat), e < x_1.ne → x_1.ev.t e = x_1.ev.t e) (by intros; rfl)), (1, .pf (∀ (e : Nat), e < x_1.ne → x_1.ev.o e = x_1.ev.o e) (by intros; rfl)), (1, .pf (∀ (e : Nat), e < x_1.ne → x_1.ev.l e = x_1.ev.l e) (by intros; rfl))] V.ok)))))))))))
    (V.need (Int.ofNat 0 ≤ IntKind.u64.wrap (IntKind.i64.wrap x_6))
    (nN [(1, .pf (x_14 = x_14) rfl), (1, .pf (IntKind.u64.wrap (Int.ofNat 1 * Int.ofNat 2 ^ min (IntKind.u64.wrap (IntKind.i64.wrap x_6)).toNat 64) = IntKind.u64.wrap (Int.ofNat 1 * Int.ofNat 2 ^ min (IntKind.u64.wrap (IntKind.i64.wrap x_6)).toNat 64)) rfl), (1, .pf (x_13.lk = x_13.lk) rfl), (1, .pf (x_13.lc = x_13.lc) rfl), (1, .pf (x_13.lo = x_13.lo) rfl), (1, .pf (x_13.ln = x_13.ln) rfl), (1, .pf (x_13.ct = x_13.ct) rfl), (1, .eq 43 43), (1, .le 43 43), (1, .pf (∀ (e : Nat), e < 43 → x_13.g e = x_13.g e) (by intros; rfl)), (1, .pf (∃ (x : Mm), x = (Mm.mk (fun (e : Nat) => x_13.g e) x_13.lk x_13.lc x_13.lo x_13.ln x_13.ct).acc 43 (Int.ofNat 4) x_14 (bits BinOp.or IntKind.u64 ((Mm.mk (fun (e : Nat) => x_13.g e) x_13.lk x_13.lc x_13.lo x_13.ln x_13.ct).val 43 x_14) (IntKind.u64.wrap (Int.ofNat 1 * Int.ofNat 2 ^ min (IntKind.u64.wrap (IntKind.i64.wrap x_6)).toNat 64)))) ⟨_, rfl⟩)]
    (V.any Mm (fun (m' : Mm) => m' = (Mm.mk (fun (e : Nat) => x_13.g e) x_13.lk x_13.lc x_13.lo x_13.ln x_13.ct).acc 43 (Int.ofNat 4) x_14 (bits BinOp.or IntKind.u64 ((Mm.mk (fun (e : Nat) => x_13.g e) x_13.lk x_13.lc x_13.lo x_13.ln x_13.ct).val 43 x_14) (IntKind.u64.wrap (Int.ofNat 1 * Int.ofNat 2 ^ min (IntKind.u64.wrap (IntKind.i64.wrap x_6)).toNat 64)))) fun (x_15 : Mm) => nN [(1, .pf (∃ (x : Int), x = (Mm.mk (fun (e : Nat) => x_13.g e) x_13.lk x_13.lc x_13.lo x_13.ln x_13.ct).val 43 x_14) ⟨_, rfl⟩)]
    (V.any Int (fun (v : Int) => v = (Mm.mk (fun (e : Nat) => x_13.g e) x_13.lk x_13.lc x_13.lo x_13.ln x_13.ct).val 43 x_14) fun (x_16 : Int) => nN [(23, .lt2 0 1 0 1)]
    (V.need ((IntKind.i64.wrap ((↑x_1.i : Int) + Int.ofNat 1)).toNat ≤ 100 ∧ (↑x_1.cl : Int).toNat ≤ (IntKind.i64.wrap ((↑x_1.i : Int) + Int.ofNat 1)).toNat ∧ x_1.ne ≤ (IntKind.i64.wrap ((↑x_1.i : Int) + Int.ofNat 1)).toNat ∧ x_1.ne ≤ x_1.c ∧ x_1.st = decide (0 < (↑x_1.cl : Int).toNat) ∧ (true = true → x_15.g 38 = Int.ofNat 1) ∧ (true = false → x_15.g 38 ≠ Int.ofNat 1) ∧ x_15.g 39 = Int.ofNat 0 ∧ ∀ (e : Nat), Int.ofNat 0 ≤ x_15.g e ∧ x_15.g e ≤ Int.ofNat 18446744073709551615)
    (V.need (101 - (IntKind.i64.wrap ((↑x_1.i : Int) + Int.ofNat 1)).toNat < 101 - x_1.i)
    (V.need (IntKind.i64.wrap ((↑x_1.i : Int) + Int.ofNat 1) = (↑(IntKind.i64.wrap ((↑x_1.i : Int) + Int.ofNat 1)).toNat : Int))
    (nN [(1, .pf (true = true) rfl)]
    (V.need ((↑x_1.cl : Int) = (↑(↑x_1.cl : Int).toNat : Int))
    (nN [(1, .pf (x.fst.nP = x.fst.nP) rfl), (1, .pf (x.fst.rc = x.fst.rc) rfl), (1, .pf (x.fst.nU = x.fst.nU) rfl), (1, .pf (x.fst.cu = x.fst.cu) rfl), (1, .pf (x.snd = x.snd) rfl), (1, .pf (x_1.ne = x_1.ne) rfl), (1, .pf (x_1.c = x_1.c) rfl), (1, .pf (x_15.lk = x_15.lk) rfl), (1, .pf (x_15.lc = x_15.lc) rfl), (1, .pf (x_15.lo = x_15.lo) rfl), (1, .pf (x_15.ln = x_15.ln) rfl), (1, .pf (x_15.ct = x_15.ct) rfl), (1, .eq 43 43), (1, .le 43 43), (1, .pf (∀ (e : Nat), e < 43 → x_15.g e = x_15.g e) (by intros; rfl)), (1, .pf (x.snd = x.snd) rfl), (1, .le 1 1), (1, .pf (x_1.st = x_1.st) rfl), (1, .pf (x_1.c = x_1.c) rfl)]
    (V.need (x_1.ne ≤ x_1.ne)
    (nN [(1, .pf (∀ (e : Nat), e < x_1.ne → x_1.ev.k e = x_1.ev.k e) (by intros; rfl)), (1, .pf (∀ (e : Nat), e < x_1.ne → x_1.ev.w e = x_1.ev.w e) (by intros; rfl)), (1, .pf (∀ (e : Nat), e < x_1.ne → x_1.ev.t e = x_1.ev.t e) (by intros; rfl)), (1, .pf (∀ (e : Nat), e < x_1.ne → x_1.ev.o e = x_1.ev.o e) (by intros; rfl)), (1, .pf (∀ (e : Nat), e < x_1.ne → x_1.ev.l e = x_1.ev.l e) (by intros; rfl))] V.ok))))))))))))))))))))
    (nN [(4, .lt2 0 1 0 1)]
    (V.need (IntKind.u64.wrap (Int.ofNat 1) ≠ Int.ofNat 0)
    (nN [(3, .lt2 0 1 0 1), (1, .pf (IntKind.i64.wrap (x_7 + Int.ofNat 2 + IntKind.i64.wrap (x_9.tmod (IntKind.u64.wrap (Int.ofNat 1)))) = IntKind.i64.wrap (x_7 + Int.ofNat 2 + IntKind.i64.wrap (x_9.tmod (IntKind.u64.wrap (Int.ofNat 1))))) rfl), (1, .eqI 0 0), (1, .pf (x_10.lk = x_10.lk) rfl), (1, .pf (x_10.lc = x_10.lc) rfl), (1, .pf (x_10.lo = x_10.lo) rfl), (1, .pf (x_10.ln = x_10.ln) rfl), (1, .pf (x_10.ct = x_10.ct) rfl), (1, .eq 43 43), (1, .le 43 43), (1, .pf (∀ (e : Nat), e < 43 → x_10.g e = x_10.g e) (by intros; rfl)), (1, .pf (∃ (x : Mm), x = (Mm.mk (fun (e : Nat) => x_10.g e) x_10.lk x_10.lc x_10.lo x_10.ln x_10.ct).acc 43 (Int.ofNat 2) (IntKind.i64.wrap (x_7 + Int.ofNat 2 + IntKind.i64.wrap (x_9.tmod (IntKind.u64.wrap (Int.ofNat 1))))) (Int.ofNat 0)) ⟨_, rfl⟩)]
    (V.any Mm (fun (m' : Mm) => m' = (Mm.mk (fun (e : Nat) => x_10.g e) x_10.lk x_10.lc x_10.lo x_10.ln x_10.ct).acc 43 (Int.ofNat 2) (IntKind.i64.wrap (x_7 + Int.ofNat 2 + IntKind.i64.wrap (x_9.tmod (IntKind.u64.wrap (Int.ofNat 1))))) (Int.ofNat 0)) fun (x_12 : Mm) => nN [(10, .lt2 0 1 0 1), (1, .pf (x_7 + Int.ofNat 1 = x_7 + Int.ofNat 1) rfl), (1, .pf (IntKind.u64.wrap (x_9 + Int.ofNat 1) = IntKind.u64.wrap (x_9 + Int.ofNat 1)) rfl), (1, .pf (x_12.lk = x_12.lk) rfl), (1, .pf (x_12.lc = x_12.lc) rfl), (1, .pf (x_12.lo = x_12.lo) rfl), (1, .pf (x_12.ln = x_12.ln) rfl), (1, .pf (x_12.ct = x_12.ct) rfl), (1, .eq 43 43), (1, .le 43 43), (1, .pf (∀ (e : Nat), e < 43 → x_12.g e = x_12.g e) (by intros; rfl)), (1, .pf (∃ (x : Mm), x = (Mm.mk (fun (e : Nat) => x_12.g e) x_12.lk x_12.lc x_12.lo x_12.ln x_12.ct).acc 43 (Int.ofNat 2) (x_7 + Int.ofNat 1) (IntKind.u64.wrap (x_9 + Int.ofNat 1))) ⟨_, rfl⟩)]
    (V.any Mm (fun (m' : Mm) => m' = (Mm.mk (fun (e : Nat) => x_12.g e) x_12.lk x_12.lc x_12.lo x_12.ln x_12.ct).acc 43 (Int.ofNat 2) (x_7 + Int.ofNat 1) (IntKind.u64.wrap (x_9 + Int.ofNat 1))) fun (x_13 : Mm) => nN [(22, .lt2 0 1 0 1), (1, .pf ((IntKind.i64.wrap (IntKind.u8.wrap ((g (0 + (↑x_1.i : Int).toNat)).tdiv (Int.ofNat 3)))).tmod (Int.ofNat 4) = (IntKind.i64.wrap (IntKind.u8.wrap ((g (0 + (↑x_1.i : Int).toNat)).tdiv (Int.ofNat 3)))).tmod (Int.ofNat 4)) rfl), (1, .eqI 4 4), (1, .eqI 10 10), (1, .eqI 1 1)]
    (V.need (okAt ((IntKind.i64.wrap (IntKind.u8.wrap ((g (0 + (↑x_1.i : Int).toNat)).tdiv (Int.ofNat 3)))).tmod (Int.ofNat 4)) (Int.ofNat 4) (Int.ofNat 10) (Int.ofNat 1))
    (nN [(1, .pf (∃ (x : Int), x = Int.ofNat 10 + (IntKind.i64.wrap (IntKind.u8.wrap ((g (0 + (↑x_1.i : Int).toNat)).tdiv (Int.ofNat 3)))).tmod (Int.ofNat 4) * Int.ofNat 1) ⟨_, rfl⟩)]
    (V.any Int (fun (r : Int) => r = Int.ofNat 10 + (IntKind.i64.wrap (IntKind.u8.wrap ((g (0 + (↑x_1.i : Int).toNat)).tdiv (Int.ofNat 3)))).tmod (Int.ofNat 4) * Int.ofNat 1) fun (x_14 : Int) => nN [(16, .lt2 0 1 0 1)]
    (V.br (decide (IntKind.i64.wrap x_6 < Int.ofNat 0))
    (nN [(1, .pf (x_14 = x_14) rfl), (1, .eqI 0 0), (1, .pf (x_13.lk = x_13.lk) rfl), (1, .pf (x_13.lc = x_13.lc) rfl), (1, .pf (x_13.lo = x_13.lo) rfl), (1, .pf (x_13.ln = x_13.ln) rfl), (1, .pf (x_13.ct = x_13.ct) rfl), (1, .eq 43 43), (1, .le 43 43), (1, .pf (∀ (e : Nat), e < 43 → x_13.g e = x_13.g e) (by intros; rfl)), (1, .pf (∃ (x : Mm), x = (Mm.mk (fun (e : Nat) => x_13.g e) x_13.lk x_13.lc x_13.lo x_13.ln x_13.ct).acc 43 (Int.ofNat 4) x_14 (bits BinOp.or IntKind.u64 ((Mm.mk (fun (e : Nat) => x_13.g e) x_13.lk x_13.lc x_13.lo x_13.ln x_13.ct).val 43 x_14) (Int.ofNat 0))) ⟨_, rfl⟩)]
    (V.any Mm (fun (m' : Mm) => m' = (Mm.mk (fun (e : Nat) => x_13.g e) x_13.lk x_13.lc x_13.lo x_13.ln x_13.ct).acc 43 (Int.ofNat 4) x_14 (bits BinOp.or IntKind.u64 ((Mm.mk (fun (e : Nat) => x_13.g e) x_13.lk x_13.lc x_13.lo x_13.ln x_13.ct).val 43 x_14) (Int.ofNat 0))) fun (x_15 : Mm) => nN [(1, .pf (∃ (x : Int), x = (Mm.mk (fun (e : Nat) => x_13.g e) x_13.lk x_13.lc x_13.lo x_13.ln x_13.ct).val 43 x_14) ⟨_, rfl⟩)]
    (V.any Int (fun (v : Int) => v = (Mm.mk (fun (e : Nat) => x_13.g e) x_13.lk x_13.lc x_13.lo x_13.ln x_13.ct).val 43 x_14) fun (x_16 : Int) => nN [(23, .lt2 0 1 0 1)]
    (V.need ((IntKind.i64.wrap ((↑x_1.i : Int) + Int.ofNat 1)).toNat ≤ 100 ∧ (↑x_1.cl : Int).toNat ≤ (IntKind.i64.wrap ((↑x_1.i : Int) + Int.ofNat 1)).toNat ∧ x_1.ne ≤ (IntKind.i64.wrap ((↑x_1.i : Int) + Int.ofNat 1)).toNat ∧ x_1.ne ≤ x_1.c ∧ x_1.st = decide (0 < (↑x_1.cl : Int).toNat) ∧ (true = true → x_15.g 38 = Int.ofNat 1) ∧ (true = false → x_15.g 38 ≠ Int.ofNat 1) ∧ x_15.g 39 = Int.ofNat 0 ∧ ∀ (e : Nat), Int.ofNat 0 ≤ x_15.g e ∧ x_15.g e ≤ Int.ofNat 18446744073709551615)
    (V.need (101 - (IntKind.i64.wrap ((↑x_1.i : Int) + Int.ofNat 1)).toNat < 101 - x_1.i)
    (V.need (IntKind.i64.wrap ((↑x_1.i : Int) + Int.ofNat 1) = (↑(IntKind.i64.wrap ((↑x_1.i : Int) + Int.ofNat 1)).toNat : Int))
    (nN [(1, .pf (true = true) rfl)]
    (V.need ((↑x_1.cl : Int) = (↑(↑x_1.cl : Int).toNat : Int))
    (nN [(1, .pf (x.fst.nP = x.fst.nP) rfl), (1, .pf (x.fst.rc = x.fst.rc) rfl), (1, .pf (x.fst.nU = x.fst.nU) rfl), (1, .pf (x.fst.cu = x.fst.cu) rfl), (1, .pf (x.snd = x.snd) rfl), (1, .pf (x_1.ne = x_1.ne) rfl), (1, .pf (x_1.c = x_1.c) rfl), (1, .pf (x_15.lk = x_15.lk) rfl), (1, .pf (x_15.lc = x_15.lc) rfl), (1, .pf (x_15.lo = x_15.lo) rfl), (1, .pf (x_15.ln = x_15.ln) rfl), (1, .pf (x_15.ct = x_15.ct) rfl), (1, .eq 43 43), (1, .le 43 43), (1, .pf (∀ (e : Nat), e < 43 → x_15.g e = x_15.g e) (by intros; rfl)), (1, .pf (x.snd = x.snd) rfl), (1, .le 1 1), (1, .pf (x_1.st = x_1.st) rfl), (1, .pf (x_1.c = x_1.c) rfl)]
    (V.need (x_1.ne ≤ x_1.ne)
    (nN [(1, .pf (∀ (e : Nat), e < x_1.ne → x_1.ev.k e = x_1.ev.k e) (by intros; rfl)), (1, .pf (∀ (e : Nat), e < x_1.ne → x_1.ev.w e = x_1.ev.w e) (by intros; rfl)), (1, .pf (∀ (e : Nat), e < x_1.ne → x_1.ev.t e = x_1.ev.t e) (by intros; rfl)), (1, .pf (∀ (e : Nat), e < x_1.ne → x_1.ev.o e = x_1.ev.o e) (by intros; rfl)), (1, .pf (∀ (e : Nat), e < x_1.ne → x_1.ev.l e = x_1.ev.l e) (by intros; rfl))] V.ok)))))))))))
    (V.br (decide (IntKind.i64.wrap x_6 > Int.ofNat 63))
    (nN [(1, .pf (x_14 = x_14) rfl), (1, .eqI 0 0), (1, .pf (x_13.lk = x_13.lk) rfl), (1, .pf (x_13.lc = x_13.lc) rfl), (1, .pf (x_13.lo = x_13.lo) rfl), (1, .pf (x_13.ln = x_13.ln) rfl), (1, .pf (x_13.ct = x_13.ct) rfl), (1, .eq 43 43), (1, .le 43 43), (1, .pf (∀ (e : Nat), e < 43 → x_13.g e = x_13.g e) (by intros; rfl)), (1, .pf (∃ (x : Mm), x = (Mm.mk (fun (e : Nat) => x_13.g e) x_13.lk x_13.lc x_13.lo x_13.ln x_13.ct).acc 43 (Int.ofNat 4) x_14 (bits BinOp.or IntKind.u64 ((Mm.mk (fun (e : Nat) => x_13.g e) x_13.lk x_13.lc x_13.lo x_13.ln x_13.ct).val 43 x_14) (Int.ofNat 0))) ⟨_, rfl⟩)]
    (V.any Mm (fun (m' : Mm) => m' = (Mm.mk (fun (e : Nat) => x_13.g e) x_13.lk x_13.lc x_13.lo x_13.ln x_13.ct).acc 43 (Int.ofNat 4) x_14 (bits BinOp.or IntKind.u64 ((Mm.mk (fun (e : Nat) => x_13.g e) x_13.lk x_13.lc x_13.lo x_13.ln x_13.ct).val 43 x_14) (Int.ofNat 0))) fun (x_15 : Mm) => nN [(1, .pf (∃ (x : Int), x = (Mm.mk (fun (e : Nat) => x_13.g e) x_13.lk x_13.lc x_13.lo x_13.ln x_13.ct).val 43 x_14) ⟨_, rfl⟩)]
    (V.any Int (fun (v : Int) => v = (Mm.mk (fun (e : Nat) => x_13.g e) x_13.lk x_13.lc x_13.lo x_13.ln x_13.ct).val 43 x_14) fun (x_16 : Int) => nN [(23, .lt2 0 1 0 1)]
    (V.need ((IntKind.i64.wrap ((↑x_1.i : Int) + Int.ofNat 1)).toNat ≤ 100 ∧ (↑x_1.cl : Int).toNat ≤ (IntKind.i64.wrap ((↑x_1.i : Int) + Int.ofNat 1)).toNat ∧ x_1.ne ≤ (IntKind.i64.wrap ((↑x_1.i : Int) + Int.ofNat 1)).toNat ∧ x_1.ne ≤ x_1.c ∧ x_1.st = decide (0 < (↑x_1.cl : Int).toNat) ∧ (true = true → x_15.g 38 = Int.ofNat 1) ∧ (true = false → x_15.g 38 ≠ Int.ofNat 1) ∧ x_15.g 39 = Int.ofNat 0 ∧ ∀ (e : Nat), Int.ofNat 0 ≤ x_15.g e ∧ x_15.g e ≤ Int.ofNat 18446744073709551615)
    (V.need (101 - (IntKind.i64.wrap ((↑x_1.i : Int) + Int.ofNat 1)).toNat < 101 - x_1.i)
    (V.need (IntKind.i64.wrap ((↑x_1.i : Int) + Int.ofNat 1) = (↑(IntKind.i64.wrap ((↑x_1.i : Int) + Int.ofNat 1)).toNat : Int))
    (nN [(1, .pf (true = true) rfl)]
    (V.need ((↑x_1.cl : Int) = (↑(↑x_1.cl : Int).toNat : Int))
    (nN [(1, .pf (x.fst.nP = x.fst.nP) rfl), (1, .pf (x.fst.rc = x.fst.rc) rfl), (1, .pf (x.fst.nU = x.fst.nU) rfl), (1, .pf (x.fst.cu = x.fst.cu) rfl), (1, .pf (x.snd = x.snd) rfl), (1, .pf (x_1.ne = x_1.ne) rfl), (1, .pf (x_1.c = x_1.c) rfl), (1, .pf (x_15.lk = x_15.lk) rfl), (1, .pf (x_15.lc = x_15.lc) rfl), (1, .pf (x_15.lo = x_15.lo) rfl), (1, .pf (x_15.ln = x_15.ln) rfl), (1, .pf (x_15.ct = x_15.ct) rfl), (1, .eq 43 43), (1, .le 43 43), (1, .pf (∀ (e : Nat), e < 43 → x_15.g e = x_15.g e) (by intros; rfl)), (1, .pf (x.snd = x.snd) rfl), (1, .le 1 1), (1, .pf (x_1.st = x_1.st) rfl), (1, .pf (x_1.c = x_1.c) rfl)]
    (V.need (x_1.ne ≤ x_1.ne)
    (nN [(1, .pf (∀ (e : Nat), e < x_1.ne → x_1.ev.k e = x_1.ev.k e) (by intros; rfl)), (1, .pf (∀ (e : Nat), e < x_1.ne → x_1.ev.w e = x_1.ev.w e) (by intros; rfl)), (1, .pf (∀ (e : Nat), e < x_1.ne → x_1.ev.t e = x_1.ev.t e) (by intros; rfl)), (1, .pf (∀ (e : Nat), e < x_1.ne → x_1.ev.o e = x_1.ev.o e) (by intros; rfl)), (1, .pf (∀ (e : Nat), e < x_1.ne → x_1.ev.l e = x_1.ev.l e) (by intros; rfl))] V.ok)))))))))))
    (V.need (Int.ofNat 0 ≤ IntKind.u64.wrap (IntKind.i64.wrap x_6))
    (nN [(1, .pf (x_14 = x_14) rfl), (1, .pf (IntKind.u64.wrap (Int.ofNat 1 * Int.ofNat 2 ^ min (IntKind.u64.wrap (IntKind.i64.wrap x_6)).toNat 64) = IntKind.u64.wrap (Int.ofNat 1 * Int.ofNat 2 ^ min (IntKind.u64.wrap (IntKind.i64.wrap x_6)).toNat 64)) rfl), (1, .pf (x_13.lk = x_13.lk) rfl), (1, .pf (x_13.lc = x_13.lc) rfl), (1, .pf (x_13.lo = x_13.lo) rfl), (1, .pf (x_13.ln = x_13.ln) rfl), (1, .pf (x_13.ct = x_13.ct) rfl), (1, .eq 43 43), (1, .le 43 43), (1, .pf (∀ (e : Nat), e < 43 → x_13.g e = x_13.g e) (by intros; rfl)), (1, .pf (∃ (x : Mm), x = (Mm.mk (fun (e : Nat) => x_13.g e) x_13.lk x_13.lc x_13.lo x_13.ln x_13.ct).acc 43 (Int.ofNat 4) x_14 (bits BinOp.or IntKind.u64 ((Mm.mk (fun (e : Nat) => x_13.g e) x_13.lk x_13.lc x_13.lo x_13.ln x_13.ct).val 43 x_14) (IntKind.u64.wrap (Int.ofNat 1 * Int.ofNat 2 ^ min (IntKind.u64.wrap (IntKind.i64.wrap x_6)).toNat 64)))) ⟨_, rfl⟩)]
    (V.any Mm (fun (m' : Mm) => m' = (Mm.mk (fun (e : Nat) => x_13.g e) x_13.lk x_13.lc x_13.lo x_13.ln x_13.ct).acc 43 (Int.ofNat 4) x_14 (bits BinOp.or IntKind.u64 ((Mm.mk (fun (e : Nat) => x_13.g e) x_13.lk x_13.lc x_13.lo x_13.ln x_13.ct).val 43 x_14) (IntKind.u64.wrap (Int.ofNat 1 * Int.ofNat 2 ^ min (IntKind.u64.wrap (IntKind.i64.wrap x_6)).toNat 64)))) fun (x_15 : Mm) => nN [(1, .pf (∃ (x : Int), x = (Mm.mk (fun (e : Nat) => x_13.g e) x_13.lk x_13.lc x_13.lo x_13.ln x_13.ct).val 43 x_14) ⟨_, rfl⟩)]
    (V.any Int (fun (v : Int) => v = (Mm.mk (fun (e : Nat) => x_13.g e) x_13.lk x_13.lc x_13.lo x_13.ln x_13.ct).val 43 x_14) fun (x_16 : Int) => nN [(23, .lt2 0 1 0 1)]
    (V.need ((IntKind.i64.wrap ((↑x_1.i : Int) + Int.ofNat 1)).toNat ≤ 100 ∧ (↑x_1.cl : Int).toNat ≤ (IntKind.i64.wrap ((↑x_1.i : Int) + Int.ofNat 1)).toNat ∧ x_1.ne ≤ (IntKind.i64.wrap ((↑x_1.i : Int) + Int.ofNat 1)).toNat ∧ x_1.ne ≤ x_1.c ∧ x_1.st = decide (0 < (↑x_1.cl : Int).toNat) ∧ (true = true → x_15.g 38 = Int.ofNat 1) ∧ (true = false → x_15.g 38 ≠ Int.ofNat 1) ∧ x_15.g 39 = Int.ofNat 0 ∧ ∀ (e : Nat), Int.ofNat 0 ≤ x_15.g e ∧ x_15.g e ≤ Int.ofNat 18446744073709551615)
    (V.need (101 - (IntKind.i64.wrap ((↑x_1.i : Int) + Int.ofNat 1)).toNat < 101 - x_1.i)
    (V.need (IntKind.i64.wrap ((↑x_1.i : Int) + Int.ofNat 1) = (↑(IntKind.i64.wrap ((↑x_1.i : Int) + Int.ofNat 1)).toNat : Int))
    (nN [(1, .pf (true = true) rfl)]
    (V.need ((↑x_1.cl : Int) = (↑(↑x_1.cl : Int).toNat : Int))
    (nN [(1, .pf (x.fst.nP = x.fst.nP) rfl), (1, .pf (x.fst.rc = x.fst.rc) rfl), (1, .pf (x.fst.nU = x.fst.nU) rfl), (1, .pf (x.fst.cu = x.fst.cu) rfl), (1, .pf (x.snd = x.snd) rfl), (1, .pf (x_1.ne = x_1.ne) rfl), (1, .pf (x_1.c = x_1.c) rfl), (1, .pf (x_15.lk = x_15.lk) rfl), (1, .pf (x_15.lc = x_15.lc) rfl), (1, .pf (x_15.lo = x_15.lo) rfl), (1, .pf (x_15.ln = x_15.ln) rfl), (1, .pf (x_15.ct = x_15.ct) rfl), (1, .eq 43 43), (1, .le 43 43), (1, .pf (∀ (e : Nat), e < 43 → x_15.g e = x_15.g e) (by intros; rfl)), (1, .pf (x.snd = x.snd) rfl), (1, .le 1 1), (1, .pf (x_1.st = x_1.st) rfl), (1, .pf (x_1.c = x_1.c) rfl)]
    (V.need (x_1.ne ≤ x_1.ne)
    (nN [(1, .pf (∀ (e : Nat), e < x_1.ne → x_1.ev.k e = x_1.ev.k e) (by intros; rfl)), (1, .pf (∀ (e : Nat), e < x_1.ne → x_1.ev.w e = x_1.ev.w e) (by intros; rfl)), (1, .pf (∀ (e : Nat), e < x_1.ne → x_1.ev.t e = x_1.ev.t e) (by intros; rfl)), (1, .pf (∀ (e : Nat), e < x_1.ne → x_1.ev.o e = x_1.ev.o e) (by intros; rfl)), (1, .pf (∀ (e : Nat), e < x_1.ne → x_1.ev.l e = x_1.ev.l e) (by intros; rfl))] V.ok))))))))))))))))))))))))))))))))))))))))
    (V.need (Int.ofNat 0 ≤ (↑x_1.i : Int) ∧ (↑x_1.i : Int) < (↑len : Int))
    (V.need (0 < 1 ∧ 0 + (↑x_1.i : Int).toNat < len)
    (V.need (0 < 1 ∧ 0 + (↑x_1.i : Int).toNat < len)
    (nN [(1, .neI 3 0), (1, .neI 4 0), (25, .lt2 0 1 0 1), (1, .eqI 38 38), (1, .eqI 1 1), (1, .eqI 2 2), (1, .pf (x_1.m.lk = x_1.m.lk) rfl), (1, .pf (x_1.m.lc = x_1.m.lc) rfl), (1, .pf (x_1.m.lo = x_1.m.lo) rfl), (1, .pf (x_1.m.ln = x_1.m.ln) rfl), (1, .pf (x_1.m.ct = x_1.m.ct) rfl), (1, .eq 43 43), (1, .le 43 43), (1, .pf (∀ (e : Nat), e < 43 → x_1.m.g e = x_1.m.g e) (by intros; rfl)), (1, .pf (∃ (x : Mm), x = (Mm.mk (fun (e : Nat) => x_1.m.g e) x_1.m.lk x_1.m.lc x_1.m.lo x_1.m.ln x_1.m.ct).acc 43 (Int.ofNat 3) (Int.ofNat 38) (casV ((Mm.mk (fun (e : Nat) => x_1.m.g e) x_1.m.lk x_1.m.lc x_1.m.lo x_1.m.ln x_1.m.ct).hit 43 (Int.ofNat 38) (Int.ofNat 1)) ((Mm.mk (fun (e : Nat) => x_1.m.g e) x_1.m.lk x_1.m.lc x_1.m.lo x_1.m.ln x_1.m.ct).val 43 (Int.ofNat 38)) (Int.ofNat 2))) ⟨_, rfl⟩)]
    (V.any Mm (fun (m' : Mm) => m' = (Mm.mk (fun (e : Nat) => x_1.m.g e) x_1.m.lk x_1.m.lc x_1.m.lo x_1.m.ln x_1.m.ct).acc 43 (Int.ofNat 3) (Int.ofNat 38) (casV ((Mm.mk (fun (e : Nat) => x_1.m.g e) x_1.m.lk x_1.m.lc x_1.m.lo x_1.m.ln x_1.m.ct).hit 43 (Int.ofNat 38) (Int.ofNat 1)) ((Mm.mk (fun (e : Nat) => x_1.m.g e) x_1.m.lk x_1.m.lc x_1.m.lo x_1.m.ln x_1.m.ct).val 43 (Int.ofNat 38)) (Int.ofNat 2))) fun (x_3 : Mm) => nN [(1, .pf (∃ (x : Bool), x = (Mm.mk (fun (e : Nat) => x_1.m.g e) x_1.m.lk x_1.m.lc x_1.m.lo x_1.m.ln x_1.m.ct).hit 43 (Int.ofNat 38) (Int.ofNat 1)) ⟨_, rfl⟩)]
    (V.any Bool (fun (v : Bool) => v = (Mm.mk (fun (e : Nat) => x_1.m.g e) x_1.m.lk x_1.m.lc x_1.m.lo x_1.m.ln x_1.m.ct).hit 43 (Int.ofNat 38) (Int.ofNat 1)) fun (x_4 : Bool) => V.br (!x_4)
    (nN [(13, .lt2 0 1 0 1)]
    (V.need (x_1.ne ≤ x_1.ne ∧ x_1.c = x_1.c)
    (V.need (x_1.ne + 1 ≤ 9223372036854775807 ∧ (x_1.ne + 1) * 40 ≤ 140737488355328)
    (V.any Nat (fun (x : Nat) => x_1.ne + 1 ≤ x) fun (x_5 : Nat) => nN [(8, .lt2 0 1 0 1)]
    (V.br x_1.rdy
    (V.br (decide ((↑x_1.cl : Int) > Int.ofNat 0))
    (V.br (!false == x_1.rdy)
    (V.bad 420)
    (V.br ((↑(x_1.ne + 1) : Int) != IntKind.i64.wrap ((↑x_1.ne : Int) + Int.ofNat 1))
    (V.bad 420)
    (V.need (Int.ofNat 0 ≤ (↑x_1.ne : Int) ∧ (↑x_1.ne : Int) < (↑(x_1.ne + 1) : Int))
    (V.need (0 + (↑x_1.ne : Int).toNat < x_1.ne + 1)
    (V.need (0 + (↑x_1.ne : Int).toNat < x_1.ne + 1)
    (V.need (0 + (↑x_1.ne : Int).toNat < x_1.ne + 1)
    (V.need (0 + (↑x_1.ne : Int).toNat < x_1.ne + 1)
    (V.need (0 + (↑x_1.ne : Int).toNat < x_1.ne + 1)
    (V.need (0 + (↑x_1.ne : Int).toNat < x_1.ne + 1)
    (V.br (!((if 0 = 0 ∧ 0 + (↑x_1.ne : Int).toNat = x_1.ne then Int.ofNat 15 else x_1.ev.k (0 + (↑x_1.ne : Int).toNat)) == Int.ofNat 9 && ((if 0 = 0 ∧ 0 + (↑x_1.ne : Int).toNat = x_1.ne then (IntKind.i64.wrap (IntKind.u8.wrap ((g (0 + (↑x_1.i : Int).toNat)).tdiv (Int.ofNat 3)))).tmod (Int.ofNat 4) else x_1.ev.w (0 + (↑x_1.ne : Int).toNat)) == (IntKind.i64.wrap (IntKind.u8.wrap ((g (0 + (↑x_1.i : Int).toNat)).tdiv (Int.ofNat 3)))).tmod (Int.ofNat 4) && ((if 0 = 0 ∧ 0 + (↑x_1.ne : Int).toNat = x_1.ne then Int.ofNat 0 else x_1.ev.t (0 + (↑x_1.ne : Int).toNat)) == Int.ofNat 0 && ((if 0 = 0 ∧ 0 + (↑x_1.ne : Int).toNat = x_1.ne then Int.ofNat 0 else x_1.ev.o (0 + (↑x_1.ne : Int).toNat)) == Int.ofNat 0 && ((if 0 = 0 ∧ 0 + (↑x_1.ne : Int).toNat = x_1.ne then Int.ofNat 0 else x_1.ev.l (0 + (↑x_1.ne : Int).toNat)) == Int.ofNat 0 && true))))))
    (V.bad 420)
    (V.need ((IntKind.i64.wrap ((↑x_1.i : Int) + Int.ofNat 1)).toNat ≤ 100 ∧ (IntKind.i64.wrap ((↑x_1.cl : Int) + Int.ofNat 1)).toNat ≤ (IntKind.i64.wrap ((↑x_1.i : Int) + Int.ofNat 1)).toNat ∧ x_1.ne + 1 ≤ (IntKind.i64.wrap ((↑x_1.i : Int) + Int.ofNat 1)).toNat ∧ x_1.ne + 1 ≤ x_5 ∧ x_1.st = decide (0 < (IntKind.i64.wrap ((↑x_1.cl : Int) + Int.ofNat 1)).toNat) ∧ (false = true → x_3.g 38 = Int.ofNat 1) ∧ (false = false → x_3.g 38 ≠ Int.ofNat 1) ∧ x_3.g 39 = Int.ofNat 0 ∧ ∀ (e : Nat), Int.ofNat 0 ≤ x_3.g e ∧ x_3.g e ≤ Int.ofNat 18446744073709551615)
    (V.need (101 - (IntKind.i64.wrap ((↑x_1.i : Int) + Int.ofNat 1)).toNat < 101 - x_1.i)
    (V.need (IntKind.i64.wrap ((↑x_1.i : Int) + Int.ofNat 1) = (↑(IntKind.i64.wrap ((↑x_1.i : Int) + Int.ofNat 1)).toNat : Int))
    (nN [(1, .pf (false = false) rfl)]
    (V.need (IntKind.i64.wrap ((↑x_1.cl : Int) + Int.ofNat 1) = (↑(IntKind.i64.wrap ((↑x_1.cl : Int) + Int.ofNat 1)).toNat : Int))
    (nN [(1, .pf (x.fst.nP = x.fst.nP) rfl), (1, .pf (x.fst.rc = x.fst.rc) rfl), (1, .pf (x.fst.nU = x.fst.nU) rfl), (1, .pf (x.fst.cu = x.fst.cu) rfl), (1, .pf (x.snd = x.snd) rfl), (1, .pf (x_1.ne + 1 = x_1.ne + 1) rfl), (1, .pf (x_5 = x_5) rfl), (1, .pf (x_3.lk = x_3.lk) rfl), (1, .pf (x_3.lc = x_3.lc) rfl), (1, .pf (x_3.lo = x_3.lo) rfl), (1, .pf (x_3.ln = x_3.ln) rfl), (1, .pf (x_3.ct = x_3.ct) rfl), (1, .eq 43 43), (1, .le 43 43), (1, .pf (∀ (e : Nat), e < 43 → x_3.g e = x_3.g e) (by intros; rfl)), (1, .pf (x.snd = x.snd) rfl), (1, .le 1 1), (1, .pf (x_1.st = x_1.st) rfl), (1, .pf (x_5 = x_5) rfl)]
    (V.need (x_1.ne + 1 ≤ x_1.ne + 1)
    (V.need (∀ (e : Nat), e < x_1.ne + 1 → (if 0 = 0 ∧ e = x_1.ne then Int.ofNat 15 else x_1.ev.k e) = if 0 = 0 ∧ e = x_1.ne then Int.ofNat 15 else x_1.ev.k e)
    (V.need (∀ (e : Nat), e < x_1.ne + 1 → (if 0 = 0 ∧ e = x_1.ne then (IntKind.i64.wrap (IntKind.u8.wrap ((g (0 + (↑x_1.i : Int).toNat)).tdiv (Int.ofNat 3)))).tmod (Int.ofNat 4) else x_1.ev.w e) = if 0 = 0 ∧ e = x_1.ne then (IntKind.i64.wrap (IntKind.u8.wrap ((g (0 + (↑x_1.i : Int).toNat)).tdiv (Int.ofNat 3)))).tmod (Int.ofNat 4) else x_1.ev.w e)
    (V.need (∀ (e : Nat), e < x_1.ne + 1 → (if 0 = 0 ∧ e = x_1.ne then Int.ofNat 0 else x_1.ev.t e) = if 0 = 0 ∧ e = x_1.ne then Int.ofNat 0 else x_1.ev.t e)
    (V.need (∀ (e : Nat), e < x_1.ne + 1 → (if 0 = 0 ∧ e = x_1.ne then Int.ofNat 0 else x_1.ev.o e) = if 0 = 0 ∧ e = x_1.ne then Int.ofNat 0 else x_1.ev.o e)
    (V.need (∀ (e : Nat), e < x_1.ne + 1 → (if 0 = 0 ∧ e = x_1.ne then Int.ofNat 0 else x_1.ev.l e) = if 0 = 0 ∧ e = x_1.ne then Int.ofNat 0 else x_1.ev.l e) V.ok))))))))))))))))))))))
    (V.br (!false == x_1.rdy)
    (V.bad 420)
    (V.br ((↑(x_1.ne + 1) : Int) != IntKind.i64.wrap ((↑x_1.ne : Int) + Int.ofNat 1))
    (V.bad 420)
    (V.need (Int.ofNat 0 ≤ (↑x_1.ne : Int) ∧ (↑x_1.ne : Int) < (↑(x_1.ne + 1) : Int))
    (V.need (0 + (↑x_1.ne : Int).toNat < x_1.ne + 1)
    (V.need (0 + (↑x_1.ne : Int).toNat < x_1.ne + 1)
    (V.need (0 + (↑x_1.ne : Int).toNat < x_1.ne + 1)
    (V.need (0 + (↑x_1.ne : Int).toNat < x_1.ne + 1)
    (V.need (0 + (↑x_1.ne : Int).toNat < x_1.ne + 1)
    (V.need (0 + (↑x_1.ne : Int).toNat < x_1.ne + 1)
    (V.br (!((if 0 = 0 ∧ 0 + (↑x_1.ne : Int).toNat = x_1.ne then Int.ofNat 15 else x_1.ev.k (0 + (↑x_1.ne : Int).toNat)) == Int.ofNat 5 && ((if 0 = 0 ∧ 0 + (↑x_1.ne : Int).toNat = x_1.ne then (IntKind.i64.wrap (IntKind.u8.wrap ((g (0 + (↑x_1.i : Int).toNat)).tdiv (Int.ofNat 3)))).tmod (Int.ofNat 4) else x_1.ev.w (0 + (↑x_1.ne : Int).toNat)) == (IntKind.i64.wrap (IntKind.u8.wrap ((g (0 + (↑x_1.i : Int).toNat)).tdiv (Int.ofNat 3)))).tmod (Int.ofNat 4) && ((if 0 = 0 ∧ 0 + (↑x_1.ne : Int).toNat = x_1.ne then Int.ofNat 0 else x_1.ev.t (0 + (↑x_1.ne : Int).toNat)) == Int.ofNat 0 && ((if 0 = 0 ∧ 0 + (↑x_1.ne : Int).toNat = x_1.ne then Int.ofNat 0 else x_1.ev.o (0 + (↑x_1.ne : Int).toNat)) == Int.ofNat 0 && ((if 0 = 0 ∧ 0 + (↑x_1.ne : Int).toNat = x_1.ne then Int.ofNat 0 else x_1.ev.l (0 + (↑x_1.ne : Int).toNat)) == Int.ofNat 0 && true))))))
    (V.bad 420)
    (V.need ((IntKind.i64.wrap ((↑x_1.i : Int) + Int.ofNat 1)).toNat ≤ 100 ∧ (IntKind.i64.wrap ((↑x_1.cl : Int) + Int.ofNat 1)).toNat ≤ (IntKind.i64.wrap ((↑x_1.i : Int) + Int.ofNat 1)).toNat ∧ x_1.ne + 1 ≤ (IntKind.i64.wrap ((↑x_1.i : Int) + Int.ofNat 1)).toNat ∧ x_1.ne + 1 ≤ x_5 ∧ x_1.st = decide (0 < (IntKind.i64.wrap ((↑x_1.cl : Int) + Int.ofNat 1)).toNat) ∧ (false = true → x_3.g 38 = Int.ofNat 1) ∧ (false = false → x_3.g 38 ≠ Int.ofNat 1) ∧ x_3.g 39 = Int.ofNat 0 ∧ ∀ (e : Nat), Int.ofNat 0 ≤ x_3.g e ∧ x_3.g e ≤ Int.ofNat 18446744073709551615)
    (V.need (101 - (IntKind.i64.wrap ((↑x_1.i : Int) + Int.ofNat 1)).toNat < 101 - x_1.i)
    (V.need (IntKind.i64.wrap ((↑x_1.i : Int) + Int.ofNat 1) = (↑(IntKind.i64.wrap ((↑x_1.i : Int) + Int.ofNat 1)).toNat : Int))
    (nN [(1, .pf (false = false) rfl)]
    (V.need (IntKind.i64.wrap ((↑x_1.cl : Int) + Int.ofNat 1) = (↑(IntKind.i64.wrap ((↑x_1.cl : Int) + Int.ofNat 1)).toNat : Int))
    (nN [(1, .pf (x.fst.nP = x.fst.nP) rfl), (1, .pf (x.fst.rc = x.fst.rc) rfl), (1, .pf (x.fst.nU = x.fst.nU) rfl), (1, .pf (x.fst.cu = x.fst.cu) rfl), (1, .pf (x.snd = x.snd) rfl), (1, .pf (x_1.ne + 1 = x_1.ne + 1) rfl), (1, .pf (x_5 = x_5) rfl), (1, .pf (x_3.lk = x_3.lk) rfl), (1, .pf (x_3.lc = x_3.lc) rfl), (1, .pf (x_3.lo = x_3.lo) rfl), (1, .pf (x_3.ln = x_3.ln) rfl), (1, .pf (x_3.ct = x_3.ct) rfl), (1, .eq 43 43), (1, .le 43 43), (1, .pf (∀ (e : Nat), e < 43 → x_3.g e = x_3.g e) (by intros; rfl)), (1, .pf (x.snd = x.snd) rfl), (1, .le 1 1), (1, .pf (x_1.st = x_1.st) rfl), (1, .pf (x_5 = x_5) rfl)]
    (V.need (x_1.ne + 1 ≤ x_1.ne + 1)
    (V.need (∀ (e : Nat), e < x_1.ne + 1 → (if 0 = 0 ∧ e = x_1.ne then Int.ofNat 15 else x_1.ev.k e) = if 0 = 0 ∧ e = x_1.ne then Int.ofNat 15 else x_1.ev.k e)
    (V.need (∀ (e : Nat), e < x_1.ne + 1 → (if 0 = 0 ∧ e = x_1.ne then (IntKind.i64.wrap (IntKind.u8.wrap ((g (0 + (↑x_1.i : Int).toNat)).tdiv (Int.ofNat 3)))).tmod (Int.ofNat 4) else x_1.ev.w e) = if 0 = 0 ∧ e = x_1.ne then (IntKind.i64.wrap (IntKind.u8.wrap ((g (0 + (↑x_1.i : Int).toNat)).tdiv (Int.ofNat 3)))).tmod (Int.ofNat 4) else x_1.ev.w e)
    (V.need (∀ (e : Nat), e < x_1.ne + 1 → (if 0 = 0 ∧ e = x_1.ne then Int.ofNat 0 else x_1.ev.t e) = if 0 = 0 ∧ e = x_1.ne then Int.ofNat 0 else x_1.ev.t e)
    (V.need (∀ (e : Nat), e < x_1.ne + 1 → (if 0 = 0 ∧ e = x_1.ne then Int.ofNat 0 else x_1.ev.o e) = if 0 = 0 ∧ e = x_1.ne then Int.ofNat 0 else x_1.ev.o e)
    (V.need (∀ (e : Nat), e < x_1.ne + 1 → (if 0 = 0 ∧ e = x_1.ne then Int.ofNat 0 else x_1.ev.l e) = if 0 = 0 ∧ e = x_1.ne then Int.ofNat 0 else x_1.ev.l e) V.ok)))))))))))))))))))))))
    (V.br (!false == x_1.rdy)
    (V.bad 420)
    (V.br ((↑(x_1.ne + 1) : Int) != IntKind.i64.wrap ((↑x_1.ne : Int) + Int.ofNat 1))
    (V.bad 420)
    (V.need (Int.ofNat 0 ≤ (↑x_1.ne : Int) ∧ (↑x_1.ne : Int) < (↑(x_1.ne + 1) : Int))
    (V.need (0 + (↑x_1.ne : Int).toNat < x_1.ne + 1)
    (V.need (0 + (↑x_1.ne : Int).toNat < x_1.ne + 1)
    (V.need (0 + (↑x_1.ne : Int).toNat < x_1.ne + 1)
    (V.need (0 + (↑x_1.ne : Int).toNat < x_1.ne + 1)
    (V.need (0 + (↑x_1.ne : Int).toNat < x_1.ne + 1)
    (V.need (0 + (↑x_1.ne : Int).toNat < x_1.ne + 1)
    (V.br (!((if 0 = 0 ∧ 0 + (↑x_1.ne : Int).toNat = x_1.ne then Int.ofNat 15 else x_1.ev.k (0 + (↑x_1.ne : Int).toNat)) == Int.ofNat 15 && ((if 0 = 0 ∧ 0 + (↑x_1.ne : Int).toNat = x_1.ne then (IntKind.i64.wrap (IntKind.u8.wrap ((g (0 + (↑x_1.i : Int).toNat)).tdiv (Int.ofNat 3)))).tmod (Int.ofNat 4) else x_1.ev.w (0 + (↑x_1.ne : Int).toNat)) == (IntKind.i64.wrap (IntKind.u8.wrap ((g (0 + (↑x_1.i : Int).toNat)).tdiv (Int.ofNat 3)))).tmod (Int.ofNat 4) && ((if 0 = 0 ∧ 0 + (↑x_1.ne : Int).toNat = x_1.ne then Int.ofNat 0 else x_1.ev.t (0 + (↑x_1.ne : Int).toNat)) == Int.ofNat 0 && ((if 0 = 0 ∧ 0 + (↑x_1.ne : Int).toNat = x_1.ne then Int.ofNat 0 else x_1.ev.o (0 + (↑x_1.ne : Int).toNat)) == Int.ofNat 0 && ((if 0 = 0 ∧ 0 + (↑x_1.ne : Int).toNat = x_1.ne then Int.ofNat 0 else x_1.ev.l (0 + (↑x_1.ne : Int).toNat)) == Int.ofNat 0 && true))))))
    (V.bad 420)
    (V.need ((IntKind.i64.wrap ((↑x_1.i : Int) + Int.ofNat 1)).toNat ≤ 100 ∧ (↑x_1.cl : Int).toNat ≤ (IntKind.i64.wrap ((↑x_1.i : Int) + Int.ofNat 1)).toNat ∧ x_1.ne + 1 ≤ (IntKind.i64.wrap ((↑x_1.i : Int) + Int.ofNat 1)).toNat ∧ x_1.ne + 1 ≤ x_5 ∧ x_1.st = decide (0 < (↑x_1.cl : Int).toNat) ∧ (false = true → x_3.g 38 = Int.ofNat 1) ∧ (false = false → x_3.g 38 ≠ Int.ofNat 1) ∧ x_3.g 39 = Int.ofNat 0 ∧ ∀ (e : Nat), Int.ofNat 0 ≤ x_3.g e ∧ x_3.g e ≤ Int.ofNat 18446744073709551615)
    (V.need (101 - (IntKind.i64.wrap ((↑x_1.i : Int) + Int.ofNat 1)).toNat < 101 - x_1.i)
    (V.need (IntKind.i64.wrap ((↑x_1.i : Int) + Int.ofNat 1) = (↑(IntKind.i64.wrap ((↑x_1.i : Int) + Int.ofNat 1)).toNat : Int))
    (nN [(1, .pf (false = false) rfl)]
    (V.need ((↑x_1.cl : Int) = (↑(↑x_1.cl : Int).toNat : Int))
    (nN [(1, .pf (x.fst.nP = x.fst.nP) rfl), (1, .pf (x.fst.rc = x.fst.rc) rfl), (1, .pf (x.fst.nU = x.fst.nU) rfl), (1, .pf (x.fst.cu = x.fst.cu) rfl), (1, .pf (x.snd = x.snd) rfl), (1, .pf (x_1.ne + 1 = x_1.ne + 1) rfl), (1, .pf (x_5 = x_5) rfl), (1, .pf (x_3.lk = x_3.lk) rfl), (1, .pf (x_3.lc = x_3.lc) rfl), (1, .pf (x_3.lo = x_3.lo) rfl), (1, .pf (x_3.ln = x_3.ln) rfl), (1, .pf (x_3.ct = x_3.ct) rfl), (1, .eq 43 43), (1, .le 43 43), (1, .pf (∀ (e : Nat), e < 43 → x_3.g e = x_3.g e) (by intros; rfl)), (1, .pf (x.snd = x.snd) rfl), (1, .le 1 1), (1, .pf (x_1.st = x_1.st) rfl), (1, .pf (x_5 = x_5) rfl)]
    (V.need (x_1.ne + 1 ≤ x_1.ne + 1)
    (V.need (∀ (e : Nat), e < x_1.ne + 1 → (if 0 = 0 ∧ e = x_1.ne then Int.ofNat 15 else x_1.ev.k e) = if 0 = 0 ∧ e = x_1.ne then Int.ofNat 15 else x_1.ev.k e)
    (V.need (∀ (e : Nat), e < x_1.ne + 1 → (if 0 = 0 ∧ e = x_1.ne then (IntKind.i64.wrap (IntKind.u8.wrap ((g (0 + (↑x_1.i : Int).toNat)).tdiv (Int.ofNat 3)))).tmod (Int.ofNat 4) else x_1.ev.w e) = if 0 = 0 ∧ e = x_1.ne then (IntKind.i64.wrap (IntKind.u8.wrap ((g (0 + (↑x_1.i : Int).toNat)).tdiv (Int.ofNat 3)))).tmod (Int.ofNat 4) else x_1.ev.w e)
    (V.need (∀ (e : Nat), e < x_1.ne + 1 → (if 0 = 0 ∧ e = x_1.ne then Int.ofNat 0 else x_1.ev.t e) = if 0 = 0 ∧ e = x_1.ne then Int.ofNat 0 else x_1.ev.t e)
    (V.need (∀ (e : Nat), e < x_1.ne + 1 → (if 0 = 0 ∧ e = x_1.ne then Int.ofNat 0 else x_1.ev.o e) = if 0 = 0 ∧ e = x_1.ne then Int.ofNat 0 else x_1.ev.o e)
    (V.need (∀ (e : Nat), e < x_1.ne + 1 → (if 0 = 0 ∧ e = x_1.ne then Int.ofNat 0 else x_1.ev.l e) = if 0 = 0 ∧ e = x_1.ne then Int.ofNat 0 else x_1.ev.l e) V.ok)))))))))))))))))))))))))))
    (nN [(7, .lt2 0 1 0 1), (3, .lt 0 1)]
    (V.br x_1.st
    (nN [(13, .lt2 0 1 0 1)]
    (V.need (x_1.ne ≤ x_1.ne ∧ x_1.c = x_1.c)
    (V.need (x_1.ne + 1 ≤ 9223372036854775807 ∧ (x_1.ne + 1) * 40 ≤ 140737488355328)
    (V.any Nat (fun (x : Nat) => x_1.ne + 1 ≤ x) fun (x_5 : Nat) => nN [(13, .lt2 0 1 0 1)]
    (V.br x_1.rdy
    (V.br (decide ((↑x_1.cl : Int) > Int.ofNat 0))
    (V.br (!true == x_1.rdy)
    (V.bad 420)
    (V.br ((↑(x_1.ne + 1) : Int) != IntKind.i64.wrap ((↑x_1.ne : Int) + Int.ofNat 1))
    (V.bad 420)
    (V.need (Int.ofNat 0 ≤ (↑x_1.ne : Int) ∧ (↑x_1.ne : Int) < (↑(x_1.ne + 1) : Int))
    (V.need (0 + (↑x_1.ne : Int).toNat < x_1.ne + 1)
    (V.need (0 + (↑x_1.ne : Int).toNat < x_1.ne + 1)
    (V.need (0 + (↑x_1.ne : Int).toNat < x_1.ne + 1)
    (V.need (0 + (↑x_1.ne : Int).toNat < x_1.ne + 1)
    (V.need (0 + (↑x_1.ne : Int).toNat < x_1.ne + 1)
    (V.need (0 + (↑x_1.ne : Int).toNat < x_1.ne + 1)
    (V.br (!((if 0 = 0 ∧ 0 + (↑x_1.ne : Int).toNat = x_1.ne then Int.ofNat 9 else x_1.ev.k (0 + (↑x_1.ne : Int).toNat)) == Int.ofNat 9 && ((if 0 = 0 ∧ 0 + (↑x_1.ne : Int).toNat = x_1.ne then (IntKind.i64.wrap (IntKind.u8.wrap ((g (0 + (↑x_1.i : Int).toNat)).tdiv (Int.ofNat 3)))).tmod (Int.ofNat 4) else x_1.ev.w (0 + (↑x_1.ne : Int).toNat)) == (IntKind.i64.wrap (IntKind.u8.wrap ((g (0 + (↑x_1.i : Int).toNat)).tdiv (Int.ofNat 3)))).tmod (Int.ofNat 4) && ((if 0 = 0 ∧ 0 + (↑x_1.ne : Int).toNat = x_1.ne then Int.ofNat 0 else x_1.ev.t (0 + (↑x_1.ne : Int).toNat)) == Int.ofNat 0 && ((if 0 = 0 ∧ 0 + (↑x_1.ne : Int).toNat = x_1.ne then Int.ofNat 0 else x_1.ev.o (0 + (↑x_1.ne : Int).toNat)) == Int.ofNat 0 && ((if 0 = 0 ∧ 0 + (↑x_1.ne : Int).toNat = x_1.ne then Int.ofNat 0 else x_1.ev.l (0 + (↑x_1.ne : Int).toNat)) == Int.ofNat 0 && true))))))
    (V.bad 420)
    (V.need ((IntKind.i64.wrap ((↑x_1.i : Int) + Int.ofNat 1)).toNat ≤ 100 ∧ (IntKind.i64.wrap ((↑x_1.cl : Int) + Int.ofNat 1)).toNat ≤ (IntKind.i64.wrap ((↑x_1.i : Int) + Int.ofNat 1)).toNat ∧ x_1.ne + 1 ≤ (IntKind.i64.wrap ((↑x_1.i : Int) + Int.ofNat 1)).toNat ∧ x_1.ne + 1 ≤ x_5 ∧ x_1.st = decide (0 < (IntKind.i64.wrap ((↑x_1.cl : Int) + Int.ofNat 1)).toNat) ∧ (false = true → x_3.g 38 = Int.ofNat 1) ∧ (false = false → x_3.g 38 ≠ Int.ofNat 1) ∧ x_3.g 39 = Int.ofNat 0 ∧ ∀ (e : Nat), Int.ofNat 0 ≤ x_3.g e ∧ x_3.g e ≤ Int.ofNat 18446744073709551615)
    (V.need (101 - (IntKind.i64.wrap ((↑x_1.i : Int) + Int.ofNat 1)).toNat < 101 - x_1.i)
    (V.need (IntKind.i64.wrap ((↑x_1.i : Int) + Int.ofNat 1) = (↑(IntKind.i64.wrap ((↑x_1.i : Int) + Int.ofNat 1)).toNat : Int))
    (nN [(1, .pf (false = false) rfl)]
    (V.need (IntKind.i64.wrap ((↑x_1.cl : Int) + Int.ofNat 1) = (↑(IntKind.i64.wrap ((↑x_1.cl : Int) + Int.ofNat 1)).toNat : Int))
    (nN [(1, .pf (x.fst.nP = x.fst.nP) rfl), (1, .pf (x.fst.rc = x.fst.rc) rfl), (1, .pf (x.fst.nU = x.fst.nU) rfl), (1, .pf (x.fst.cu = x.fst.cu) rfl), (1, .pf (x.snd = x.snd) rfl), (1, .pf (x_1.ne + 1 = x_1.ne + 1) rfl), (1, .pf (x_5 = x_5) rfl), (1, .pf (x_3.lk = x_3.lk) rfl), (1, .pf (x_3.lc = x_3.lc) rfl), (1, .pf (x_3.lo = x_3.lo) rfl), (1, .pf (x_3.ln = x_3.ln) rfl), (1, .pf (x_3.ct = x_3.ct) rfl), (1, .eq 43 43), (1, .le 43 43), (1, .pf (∀ (e : Nat), e < 43 → x_3.g e = x_3.g e) (by intros; rfl)), (1, .pf (x.snd = x.snd) rfl), (1, .le 1 1), (1, .pf (x_1.st = x_1.st) rfl), (1, .pf (x_5 = x_5) rfl)]
    (V.need (x_1.ne + 1 ≤ x_1.ne + 1)
    (V.need (∀ (e : Nat), e < x_1.ne + 1 → (if 0 = 0 ∧ e = x_1.ne then Int.ofNat 9 else x_1.ev.k e) = if 0 = 0 ∧ e = x_1.ne then Int.ofNat 9 else x_1.ev.k e)
    (V.need (∀ (e : Nat), e < x_1.ne + 1 → (if 0 = 0 ∧ e = x_1.ne then (IntKind.i64.wrap (IntKind.u8.wrap ((g (0 + (↑x_1.i : Int).toNat)).tdiv (Int.ofNat 3)))).tmod (Int.ofNat 4) else x_1.ev.w e) = if 0 = 0 ∧ e = x_1.ne then (IntKind.i64.wrap (IntKind.u8.wrap ((g (0 + (↑x_1.i : Int).toNat)).tdiv (Int.ofNat 3)))).tmod (Int.ofNat 4) else x_1.ev.w e)
    (V.need (∀ (e : Nat), e < x_1.ne + 1 → (if 0 = 0 ∧ e = x_1.ne then Int.ofNat 0 else x_1.ev.t e) = if 0 = 0 ∧ e = x_1.ne then Int.ofNat 0 else x_1.ev.t e)
    (V.need (∀ (e : Nat), e < x_1.ne + 1 → (if 0 = 0 ∧ e = x_1.ne then Int.ofNat 0 else x_1.ev.o e) = if 0 = 0 ∧ e = x_1.ne then Int.ofNat 0 else x_1.ev.o e)
    (V.need (∀ (e : Nat), e < x_1.ne + 1 → (if 0 = 0 ∧ e = x_1.ne then Int.ofNat 0 else x_1.ev.l e) = if 0 = 0 ∧ e = x_1.ne then Int.ofNat 0 else x_1.ev.l e) V.ok))))))))))))))))))))))
    (V.br (!true == x_1.rdy)
    (V.bad 420)
    (V.br ((↑(x_1.ne + 1) : Int) != IntKind.i64.wrap ((↑x_1.ne : Int) + Int.ofNat 1))
    (V.bad 420)
    (V.need (Int.ofNat 0 ≤ (↑x_1.ne : Int) ∧ (↑x_1.ne : Int) < (↑(x_1.ne + 1) : Int))
    (V.need (0 + (↑x_1.ne : Int).toNat < x_1.ne + 1)
    (V.need (0 + (↑x_1.ne : Int).toNat < x_1.ne + 1)
    (V.need (0 + (↑x_1.ne : Int).toNat < x_1.ne + 1)
    (V.need (0 + (↑x_1.ne : Int).toNat < x_1.ne + 1)
    (V.need (0 + (↑x_1.ne : Int).toNat < x_1.ne + 1)
    (V.need (0 + (↑x_1.ne : Int).toNat < x_1.ne + 1)
    (V.br (!((if 0 = 0 ∧ 0 + (↑x_1.ne : Int).toNat = x_1.ne then Int.ofNat 9 else x_1.ev.k (0 + (↑x_1.ne : Int).toNat)) == Int.ofNat 5 && ((if 0 = 0 ∧ 0 + (↑x_1.ne : Int).toNat = x_1.ne then (IntKind.i64.wrap (IntKind.u8.wrap ((g (0 + (↑x_1.i : Int).toNat)).tdiv (Int.ofNat 3)))).tmod (Int.ofNat 4) else x_1.ev.w (0 + (↑x_1.ne : Int).toNat)) == (IntKind.i64.wrap (IntKind.u8.wrap ((g (0 + (↑x_1.i : Int).toNat)).tdiv (Int.ofNat 3)))).tmod (Int.ofNat 4) && ((if 0 = 0 ∧ 0 + (↑x_1.ne : Int).toNat = x_1.ne then Int.ofNat 0 else x_1.ev.t (0 + (↑x_1.ne : Int).toNat)) == Int.ofNat 0 && ((if 0 = 0 ∧ 0 + (↑x_1.ne : Int).toNat = x_1.ne then Int.ofNat 0 else x_1.ev.o (0 + (↑x_1.ne : Int).toNat)) == Int.ofNat 0 && ((if 0 = 0 ∧ 0 + (↑x_1.ne : Int).toNat = x_1.ne then Int.ofNat 0 else x_1.ev.l (0 + (↑x_1.ne : Int).toNat)) == Int.ofNat 0 && true))))))
    (V.bad 420)
    (V.need ((IntKind.i64.wrap ((↑x_1.i : Int) + Int.ofNat 1)).toNat ≤ 100 ∧ (IntKind.i64.wrap ((↑x_1.cl : Int) + Int.ofNat 1)).toNat ≤ (IntKind.i64.wrap ((↑x_1.i : Int) + Int.ofNat 1)).toNat ∧ x_1.ne + 1 ≤ (IntKind.i64.wrap ((↑x_1.i : Int) + Int.ofNat 1)).toNat ∧ x_1.ne + 1 ≤ x_5 ∧ x_1.st = decide (0 < (IntKind.i64.wrap ((↑x_1.cl : Int) + Int.ofNat 1)).toNat) ∧ (false = true → x_3.g 38 = Int.ofNat 1) ∧ (false = false → x_3.g 38 ≠ Int.ofNat 1) ∧ x_3.g 39 = Int.ofNat 0 ∧ ∀ (e : Nat), Int.ofNat 0 ≤ x_3.g e ∧ x_3.g e ≤ Int.ofNat 18446744073709551615)
    (V.need (101 - (IntKind.i64.wrap ((↑x_1.i : Int) + Int.ofNat 1)).toNat < 101 - x_1.i)
    (V.need (IntKind.i64.wrap ((↑x_1.i : Int) + Int.ofNat 1) = (↑(IntKind.i64.wrap ((↑x_1.i : Int) + Int.ofNat 1)).toNat : Int))
    (nN [(1, .pf (false = false) rfl)]
    (V.need (IntKind.i64.wrap ((↑x_1.cl : Int) + Int.ofNat 1) = (↑(IntKind.i64.wrap ((↑x_1.cl : Int) + Int.ofNat 1)).toNat : Int))
    (nN [(1, .pf (x.fst.nP = x.fst.nP) rfl), (1, .pf (x.fst.rc = x.fst.rc) rfl), (1, .pf (x.fst.nU = x.fst.nU) rfl), (1, .pf (x.fst.cu = x.fst.cu) rfl), (1, .pf (x.snd = x.snd) rfl), (1, .pf (x_1.ne + 1 = x_1.ne + 1) rfl), (1, .pf (x_5 = x_5) rfl), (1, .pf (x_3.lk = x_3.lk) rfl), (1, .pf (x_3.lc = x_3.lc) rfl), (1, .pf (x_3.lo = x_3.lo) rfl), (1, .pf (x_3.ln = x_3.ln) rfl), (1, .pf (x_3.ct = x_3.ct) rfl), (1, .eq 43 43), (1, .le 43 43), (1, .pf (∀ (e : Nat), e < 43 → x_3.g e = x_3.g e) (by intros; rfl)), (1, .pf (x.snd = x.snd) rfl), (1, .le 1 1), (1, .pf (x_1.st = x_1.st) rfl), (1, .pf (x_5 = x_5) rfl)]
    (V.need (x_1.ne + 1 ≤ x_1.ne + 1)
    (V.need (∀ (e : Nat), e < x_1.ne + 1 → (if 0 = 0 ∧ e = x_1.ne then Int.ofNat 9 else x_1.ev.k e) = if 0 = 0 ∧ e = x_1.ne then Int.ofNat 9 else x_1.ev.k e)
    (V.need (∀ (e : Nat), e < x_1.ne + 1 → (if 0 = 0 ∧ e = x_1.ne then (IntKind.i64.wrap (IntKind.u8.wrap ((g (0 + (↑x_1.i : Int).toNat)).tdiv (Int.ofNat 3)))).tmod (Int.ofNat 4) else x_1.ev.w e) = if 0 = 0 ∧ e = x_1.ne then (IntKind.i64.wrap (IntKind.u8.wrap ((g (0 + (↑x_1.i : Int).toNat)).tdiv (Int.ofNat 3)))).tmod (Int.ofNat 4) else x_1.ev.w e)
    (V.need (∀ (e : Nat), e < x_1.ne + 1 → (if 0 = 0 ∧ e = x_1.ne then Int.ofNat 0 else x_1.ev.t e) = if 0 = 0 ∧ e = x_1.ne then Int.ofNat 0 else x_1.ev.t e)
    (V.need (∀ (e : Nat), e < x_1.ne + 1 → (if 0 = 0 ∧ e = x_1.ne then Int.ofNat 0 else x_1.ev.o e) = if 0 = 0 ∧ e = x_1.ne then Int.ofNat 0 else x_1.ev.o e)
    (V.need (∀ (e : Nat), e < x_1.ne + 1 → (if 0 = 0 ∧ e = x_1.ne then Int.ofNat 0 else x_1.ev.l e) = if 0 = 0 ∧ e = x_1.ne then Int.ofNat 0 else x_1.ev.l e) V.ok)))))))))))))))))))))))
    (V.br (!true == x_1.rdy)
    (V.bad 420)
    (V.br ((↑(x_1.ne + 1) : Int) != IntKind.i64.wrap ((↑x_1.ne : Int) + Int.ofNat 1))
    (V.bad 420)
    (V.need (Int.ofNat 0 ≤ (↑x_1.ne : Int) ∧ (↑x_1.ne : Int) < (↑(x_1.ne + 1) : Int))
    (V.need (0 + (↑x_1.ne : Int).toNat < x_1.ne + 1)
    (V.need (0 + (↑x_1.ne : Int).toNat < x_1.ne + 1)
    (V.need (0 + (↑x_1.ne : Int).toNat < x_1.ne + 1)
    (V.need (0 + (↑x_1.ne : Int).toNat < x_1.ne + 1)
    (V.need (0 + (↑x_1.ne : Int).toNat < x_1.ne + 1)
    (V.need (0 + (↑x_1.ne : Int).toNat < x_1.ne + 1)
    (V.br (!((if 0 = 0 ∧ 0 + (↑x_1.ne : Int).toNat = x_1.ne then Int.ofNat 9 else x_1.ev.k (0 + (↑x_1.ne : Int).toNat)) == Int.ofNat 15 && ((if 0 = 0 ∧ 0 + (↑x_1.ne : Int).toNat = x_1.ne then (IntKind.i64.wrap (IntKind.u8.wrap ((g (0 + (↑x_1.i : Int).toNat)).tdiv (Int.ofNat 3)))).tmod (Int.ofNat 4) else x_1.ev.w (0 + (↑x_1.ne : Int).toNat)) == (IntKind.i64.wrap (IntKind.u8.wrap ((g (0 + (↑x_1.i : Int).toNat)).tdiv (Int.ofNat 3)))).tmod (Int.ofNat 4) && ((if 0 = 0 ∧ 0 + (↑x_1.ne : Int).toNat = x_1.ne then Int.ofNat 0 else x_1.ev.t (0 + (↑x_1.ne : Int).toNat)) == Int.ofNat 0 && ((if 0 = 0 ∧ 0 + (↑x_1.ne : Int).toNat = x_1.ne then Int.ofNat 0 else x_1.ev.o (0 + (↑x_1.ne : Int).toNat)) == Int.ofNat 0 && ((if 0 = 0 ∧ 0 + (↑x_1.ne : Int).toNat = x_1.ne then Int.ofNat 0 else x_1.ev.l (0 + (↑x_1.ne : Int).toNat)) == Int.ofNat 0 && true))))))
    (V.bad 420)
    (V.need ((IntKind.i64.wrap ((↑x_1.i : Int) + Int.ofNat 1)).toNat ≤ 100 ∧ (↑x_1.cl : Int).toNat ≤ (IntKind.i64.wrap ((↑x_1.i : Int) + Int.ofNat 1)).toNat ∧ x_1.ne + 1 ≤ (IntKind.i64.wrap ((↑x_1.i : Int) + Int.ofNat 1)).toNat ∧ x_1.ne + 1 ≤ x_5 ∧ x_1.st = decide (0 < (↑x_1.cl : Int).toNat) ∧ (false = true → x_3.g 38 = Int.ofNat 1) ∧ (false = false → x_3.g 38 ≠ Int.ofNat 1) ∧ x_3.g 39 = Int.ofNat 0 ∧ ∀ (e : Nat), Int.ofNat 0 ≤ x_3.g e ∧ x_3.g e ≤ Int.ofNat 18446744073709551615)
    (V.need (101 - (IntKind.i64.wrap ((↑x_1.i : Int) + Int.ofNat 1)).toNat < 101 - x_1.i)
    (V.need (IntKind.i64.wrap ((↑x_1.i : Int) + Int.ofNat 1) = (↑(IntKind.i64.wrap ((↑x_1.i : Int) + Int.ofNat 1)).toNat : Int))
    (nN [(1, .pf (false = false) rfl)]
    (V.need ((↑x_1.cl : Int) = (↑(↑x_1.cl : Int).toNat : Int))
    (nN [(1, .pf (x.fst.nP = x.fst.nP) rfl), (1, .pf (x.fst.rc = x.fst.rc) rfl), (1, .pf (x.fst.nU = x.fst.nU) rfl), (1, .pf (x.fst.cu = x.fst.cu) rfl), (1, .pf (x.snd = x.snd) rfl), (1, .pf (x_1.ne + 1 = x_1.ne + 1) rfl), (1, .pf (x_5 = x_5) rfl), (1, .pf (x_3.lk = x_3.lk) rfl), (1, .pf (x_3.lc = x_3.lc) rfl), (1, .pf (x_3.lo = x_3.lo) rfl), (1, .pf (x_3.ln = x_3.ln) rfl), (1, .pf (x_3.ct = x_3.ct) rfl), (1, .eq 43 43), (1, .le 43 43), (1, .pf (∀ (e : Nat), e < 43 → x_3.g e = x_3.g e) (by intros; rfl)), (1, .pf (x.snd = x.snd) rfl), (1, .le 1 1), (1, .pf (x_1.st = x_1.st) rfl), (1, .pf (x_5 = x_5) rfl)]
    (V.need (x_1.ne + 1 ≤ x_1.ne + 1)
    (V.need (∀ (e : Nat), e < x_1.ne + 1 → (if 0 = 0 ∧ e = x_1.ne then Int.ofNat 9 else x_1.ev.k e) = if 0 = 0 ∧ e = x_1.ne then Int.ofNat 9 else x_1.ev.k e)
    (V.need (∀ (e : Nat), e < x_1.ne + 1 → (if 0 = 0 ∧ e = x_1.ne then (IntKind.i64.wrap (IntKind.u8.wrap ((g (0 + (↑x_1.i : Int).toNat)).tdiv (Int.ofNat 3)))).tmod (Int.ofNat 4) else x_1.ev.w e) = if 0 = 0 ∧ e = x_1.ne then (IntKind.i64.wrap (IntKind.u8.wrap ((g (0 + (↑x_1.i : Int).toNat)).tdiv (Int.ofNat 3)))).tmod (Int.ofNat 4) else x_1.ev.w e)
    (V.need (∀ (e : Nat), e < x_1.ne + 1 → (if 0 = 0 ∧ e = x_1.ne then Int.ofNat 0 else x_1.ev.t e) = if 0 = 0 ∧ e = x_1.ne then Int.ofNat 0 else x_1.ev.t e)
    (V.need (∀ (e : Nat), e < x_1.ne + 1 → (if 0 = 0 ∧ e = x_1.ne then Int.ofNat 0 else x_1.ev.o e) = if 0 = 0 ∧ e = x_1.ne then Int.ofNat 0 else x_1.ev.o e)
    (V.need (∀ (e : Nat), e < x_1.ne + 1 → (if 0 = 0 ∧ e = x_1.ne then Int.ofNat 0 else x_1.ev.l e) = if 0 = 0 ∧ e = x_1.ne then Int.ofNat 0 else x_1.ev.l e) V.ok)))))))))))))))))))))))))))
    (nN [(3, .lt 0 1), (13, .lt2 0 1 0 1)]
    (V.need (x_1.ne ≤ x_1.ne ∧ x_1.c = x_1.c)
    (V.need (x_1.ne + 1 ≤ 9223372036854775807 ∧ (x_1.ne + 1) * 40 ≤ 140737488355328)
    (V.any Nat (fun (x : Nat) => x_1.ne + 1 ≤ x) fun (x_5 : Nat) => nN [(13, .lt2 0 1 0 1)]
    (V.br x_1.rdy
    (V.br (decide ((↑x_1.cl : Int) > Int.ofNat 0))
    (V.br (!true == x_1.rdy)
    (V.bad 420)
    (V.br ((↑(x_1.ne + 1) : Int) != IntKind.i64.wrap ((↑x_1.ne : Int) + Int.ofNat 1))
    (V.bad 420)
    (V.need (Int.ofNat 0 ≤ (↑x_1.ne : Int) ∧ (↑x_1.ne : Int) < (↑(x_1.ne + 1) : Int))
    (V.need (0 + (↑x_1.ne : Int).toNat < x_1.ne + 1)
    (V.need (0 + (↑x_1.ne : Int).toNat < x_1.ne + 1)
    (V.need (0 + (↑x_1.ne : Int).toNat < x_1.ne + 1)
    (V.need (0 + (↑x_1.ne : Int).toNat < x_1.ne + 1)
    (V.need (0 + (↑x_1.ne : Int).toNat < x_1.ne + 1)
    (V.need (0 + (↑x_1.ne : Int).toNat < x_1.ne + 1)
    (V.br (!((if 0 = 0 ∧ 0 + (↑x_1.ne : Int).toNat = x_1.ne then Int.ofNat 5 else x_1.ev.k (0 + (↑x_1.ne : Int).toNat)) == Int.ofNat 9 && ((if 0 = 0 ∧ 0 + (↑x_1.ne : Int).toNat = x_1.ne then (IntKind.i64.wrap (IntKind.u8.wrap ((g (0 + (↑x_1.i : Int).toNat)).tdiv (Int.ofNat 3)))).tmod (Int.ofNat 4) else x_1.ev.w (0 + (↑x_1.ne : Int).toNat)) == (IntKind.i64.wrap (IntKind.u8.wrap ((g (0 + (↑x_1.i : Int).toNat)).tdiv (Int.ofNat 3)))).tmod (Int.ofNat 4) && ((if 0 = 0 ∧ 0 + (↑x_1.ne : Int).toNat = x_1.ne then Int.ofNat 0 else x_1.ev.t (0 + (↑x_1.ne : Int).toNat)) == Int.ofNat 0 && ((if 0 = 0 ∧ 0 + (↑x_1.ne : Int).toNat = x_1.ne then Int.ofNat 0 else x_1.ev.o (0 + (↑x_1.ne : Int).toNat)) == Int.ofNat 0 && ((if 0 = 0 ∧ 0 + (↑x_1.ne : Int).toNat = x_1.ne then Int.ofNat 0 else x_1.ev.l (0 + (↑x_1.ne : Int).toNat)) == Int.ofNat 0 && true))))))
    (V.bad 420)
    (V.need ((IntKind.i64.wrap ((↑x_1.i : Int) + Int.ofNat 1)).toNat ≤ 100 ∧ (IntKind.i64.wrap ((↑x_1.cl : Int) + Int.ofNat 1)).toNat ≤ (IntKind.i64.wrap ((↑x_1.i : Int) + Int.ofNat 1)).toNat ∧ x_1.ne + 1 ≤ (IntKind.i64.wrap ((↑x_1.i : Int) + Int.ofNat 1)).toNat ∧ x_1.ne + 1 ≤ x_5 ∧ true = decide (0 < (IntKind.i64.wrap ((↑x_1.cl : Int) + Int.ofNat 1)).toNat) ∧ (false = true → x_3.g 38 = Int.ofNat 1) ∧ (false = false → x_3.g 38 ≠ Int.ofNat 1) ∧ x_3.g 39 = Int.ofNat 0 ∧ ∀ (e : Nat), Int.ofNat 0 ≤ x_3.g e ∧ x_3.g e ≤ Int.ofNat 18446744073709551615)
    (V.need (101 - (IntKind.i64.wrap ((↑x_1.i : Int) + Int.ofNat 1)).toNat < 101 - x_1.i)
    (V.need (IntKind.i64.wrap ((↑x_1.i : Int) + Int.ofNat 1) = (↑(IntKind.i64.wrap ((↑x_1.i : Int) + Int.ofNat 1)).toNat : Int))
    (nN [(1, .pf (false = false) rfl)]
    (V.need (IntKind.i64.wrap ((↑x_1.cl : Int) + Int.ofNat 1) = (↑(IntKind.i64.wrap ((↑x_1.cl : Int) + Int.ofNat 1)).toNat : Int))
    (nN [(1, .pf (x.fst.nP = x.fst.nP) rfl), (1, .pf (x.fst.rc = x.fst.rc) rfl), (1, .pf (x.fst.nU = x.fst.nU) rfl), (1, .pf (x.fst.cu = x.fst.cu) rfl), (1, .pf (x.snd = x.snd) rfl), (1, .pf (x_1.ne + 1 = x_1.ne + 1) rfl), (1, .pf (x_5 = x_5) rfl), (1, .pf (x_3.lk = x_3.lk) rfl), (1, .pf (x_3.lc = x_3.lc) rfl), (1, .pf (x_3.lo = x_3.lo) rfl), (1, .pf (x_3.ln = x_3.ln) rfl), (1, .pf (x_3.ct = x_3.ct) rfl), (1, .eq 43 43), (1, .le 43 43), (1, .pf (∀ (e : Nat), e < 43 → x_3.g e = x_3.g e) (by intros; rfl)), (1, .pf (x.snd = x.snd) rfl), (1, .le 1 1), (1, .pf (true = true) rfl), (1, .pf (x_5 = x_5) rfl)]
    (V.need (x_1.ne + 1 ≤ x_1.ne + 1)
    (V.need (∀ (e : Nat), e < x_1.ne + 1 → (if 0 = 0 ∧ e = x_1.ne then Int.ofNat 5 else x_1.ev.k e) = if 0 = 0 ∧ e = x_1.ne then Int.ofNat 5 else x_1.ev.k e)
    (V.need (∀ (e : Nat), e < x_1.ne + 1 → (if 0 = 0 ∧ e = x_1.ne then (IntKind.i64.wrap (IntKind.u8.wrap ((g (0 + (↑x_1.i : Int).toNat)).tdiv (Int.ofNat 3)))).tmod (Int.ofNat 4) else x_1.ev.w e) = if 0 = 0 ∧ e = x_1.ne then (IntKind.i64.wrap (IntKind.u8.wrap ((g (0 + (↑x_1.i : Int).toNat)).tdiv (Int.ofNat 3)))).tmod (Int.ofNat 4) else x_1.ev.w e)
    (V.need (∀ (e : Nat), e < x_1.ne + 1 → (if 0 = 0 ∧ e = x_1.ne then Int.ofNat 0 else x_1.ev.t e) = if 0 = 0 ∧ e = x_1.ne then Int.ofNat 0 else x_1.ev.t e)
    (V.need (∀ (e : Nat), e < x_1.ne + 1 → (if 0 = 0 ∧ e = x_1.ne then Int.ofNat 0 else x_1.ev.o e) = if 0 = 0 ∧ e = x_1.ne then Int.ofNat 0 else x_1.ev.o e)
    (V.need (∀ (e : Nat), e < x_1.ne + 1 → (if 0 = 0 ∧ e = x_1.ne then Int.ofNat 0 else x_1.ev.l e) = if 0 = 0 ∧ e = x_1.ne then Int.ofNat 0 else x_1.ev.l e) V.ok))))))))))))))))))))))
    (V.br (!true == x_1.rdy)
    (V.bad 420)
    (V.br ((↑(x_1.ne + 1) : Int) != IntKind.i64.wrap ((↑x_1.ne : Int) + Int.ofNat 1))
    (V.bad 420)
    (V.need (Int.ofNat 0 ≤ (↑x_1.ne : Int) ∧ (↑x_1.ne : Int) < (↑(x_1.ne + 1) : Int))
    (V.need (0 + (↑x_1.ne : Int).toNat < x_1.ne + 1)
    (V.need (0 + (↑x_1.ne : Int).toNat < x_1.ne + 1)
    (V.need (0 + (↑x_1.ne : Int).toNat < x_1.ne + 1)
    (V.need (0 + (↑x_1.ne : Int).toNat < x_1.ne + 1)
    (V.need (0 + (↑x_1.ne : Int).toNat < x_1.ne + 1)
    (V.need (0 + (↑x_1.ne : Int).toNat < x_1.ne + 1)
    (V.br (!((if 0 = 0 ∧ 0 + (↑x_1.ne : Int).toNat = x_1.ne then Int.ofNat 5 else x_1.ev.k (0 + (↑x_1.ne : Int).toNat)) == Int.ofNat 5 && ((if 0 = 0 ∧ 0 + (↑x_1.ne : Int).toNat = x_1.ne then (IntKind.i64.wrap (IntKind.u8.wrap ((g (0 + (↑x_1.i : Int).toNat)).tdiv (Int.ofNat 3)))).tmod (Int.ofNat 4) else x_1.ev.w (0 + (↑x_1.ne : Int).toNat)) == (IntKind.i64.wrap (IntKind.u8.wrap ((g (0 + (↑x_1.i : Int).toNat)).tdiv (Int.ofNat 3)))).tmod (Int.ofNat 4) && ((if 0 = 0 ∧ 0 + (↑x_1.ne : Int).toNat = x_1.ne then Int.ofNat 0 else x_1.ev.t (0 + (↑x_1.ne : Int).toNat)) == Int.ofNat 0 && ((if 0 = 0 ∧ 0 + (↑x_1.ne : Int).toNat = x_1.ne then Int.ofNat 0 else x_1.ev.o (0 + (↑x_1.ne : Int).toNat)) == Int.ofNat 0 && ((if 0 = 0 ∧ 0 + (↑x_1.ne : Int).toNat = x_1.ne then Int.ofNat 0 else x_1.ev.l (0 + (↑x_1.ne : Int).toNat)) == Int.ofNat 0 && true))))))
    (V.bad 420)
    (V.need ((IntKind.i64.wrap ((↑x_1.i : Int) + Int.ofNat 1)).toNat ≤ 100 ∧ (IntKind.i64.wrap ((↑x_1.cl : Int) + Int.ofNat 1)).toNat ≤ (IntKind.i64.wrap ((↑x_1.i : Int) + Int.ofNat 1)).toNat ∧ x_1.ne + 1 ≤ (IntKind.i64.wrap ((↑x_1.i : Int) + Int.ofNat 1)).toNat ∧ x_1.ne + 1 ≤ x_5 ∧ true = decide (0 < (IntKind.i64.wrap ((↑x_1.cl : Int) + Int.ofNat 1)).toNat) ∧ (false = true → x_3.g 38 = Int.ofNat 1) ∧ (false = false → x_3.g 38 ≠ Int.ofNat 1) ∧ x_3.g 39 = Int.ofNat 0 ∧ ∀ (e : Nat), Int.ofNat 0 ≤ x_3.g e ∧ x_3.g e ≤ Int.ofNat 18446744073709551615)
    (V.need (101 - (IntKind.i64.wrap ((↑x_1.i : Int) + Int.ofNat 1)).toNat < 101 - x_1.i)
    (V.need (IntKind.i64.wrap ((↑x_1.i : Int) + Int.ofNat 1) = (↑(IntKind.i64.wrap ((↑x_1.i : Int) + Int.ofNat 1)).toNat : Int))
    (nN [(1, .pf (false = false) rfl)]
    (V.need (IntKind.i64.wrap ((↑x_1.cl : Int) + Int.ofNat 1) = (↑(IntKind.i64.wrap ((↑x_1.cl : Int) + Int.ofNat 1)).toNat : Int))
    (nN [(1, .pf (x.fst.nP = x.fst.nP) rfl), (1, .pf (x.fst.rc = x.fst.rc) rfl), (1, .pf (x.fst.nU = x.fst.nU) rfl), (1, .pf (x.fst.cu = x.fst.cu) rfl), (1, .pf (x.snd = x.snd) rfl), (1, .pf (x_1.ne + 1 = x_1.ne + 1) rfl), (1, .pf (x_5 = x_5) rfl), (1, .pf (x_3.lk = x_3.lk) rfl), (1, .pf (x_3.lc = x_3.lc) rfl), (1, .pf (x_3.lo = x_3.lo) rfl), (1, .pf (x_3.ln = x_3.ln) rfl), (1, .pf (x_3.ct = x_3.ct) rfl), (1, .eq 43 43), (1, .le 43 43), (1, .pf (∀ (e : Nat), e < 43 → x_3.g e = x_3.g e) (by intros; rfl)), (1, .pf (x.snd = x.snd) rfl), (1, .le 1 1), (1, .pf (true = true) rfl), (1, .pf (x_5 = x_5) rfl)]
    (V.need (x_1.ne + 1 ≤ x_1.ne + 1)
    (V.need (∀ (e : Nat), e < x_1.ne + 1 → (if 0 = 0 ∧ e = x_1.ne then Int.ofNat 5 else x_1.ev.k e) = if 0 = 0 ∧ e = x_1.ne then Int.ofNat 5 else x_1.ev.k e)
    (V.need (∀ (e : Nat), e < x_1.ne + 1 → (if 0 = 0 ∧ e = x_1.ne then (IntKind.i64.wrap (IntKind.u8.wrap ((g (0 + (↑x_1.i : Int).toNat)).tdiv (Int.ofNat 3)))).tmod (Int.ofNat 4) else x_1.ev.w e) = if 0 = 0 ∧ e = x_1.ne then (IntKind.i64.wrap (IntKind.u8.wrap ((g (0 + (↑x_1.i : Int).toNat)).tdiv (Int.ofNat 3)))).tmod (Int.ofNat 4) else x_1.ev.w e)
    (V.need (∀ (e : Nat), e < x_1.ne + 1 → (if 0 = 0 ∧ e = x_1.ne then Int.ofNat 0 else x_1.ev.t e) = if 0 = 0 ∧ e = x_1.ne then Int.ofNat 0 else x_1.ev.t e)
    (V.need (∀ (e : Nat), e < x_1.ne + 1 → (if 0 = 0 ∧ e = x_1.ne then Int.ofNat 0 else x_1.ev.o e) = if 0 = 0 ∧ e = x_1.ne then Int.ofNat 0 else x_1.ev.o e)
    (V.need (∀ (e : Nat), e < x_1.ne + 1 → (if 0 = 0 ∧ e = x_1.ne then Int.ofNat 0 else x_1.ev.l e) = if 0 = 0 ∧ e = x_1.ne then Int.ofNat 0 else x_1.ev.l e) V.ok)))))))))))))))))))))))
    (V.br (!true == x_1.rdy)
    (V.bad 420)
    (V.br ((↑(x_1.ne + 1) : Int) != IntKind.i64.wrap ((↑x_1.ne : Int) + Int.ofNat 1))
    (V.bad 420)
    (V.need (Int.ofNat 0 ≤ (↑x_1.ne : Int) ∧ (↑x_1.ne : Int) < (↑(x_1.ne + 1) : Int))
    (V.need (0 + (↑x_1.ne : Int).toNat < x_1.ne + 1)
    (V.need (0 + (↑x_1.ne : Int).toNat < x_1.ne + 1)
    (V.need (0 + (↑x_1.ne : Int).toNat < x_1.ne + 1)
    (V.need (0 + (↑x_1.ne : Int).toNat < x_1.ne + 1)
    (V.need (0 + (↑x_1.ne : Int).toNat < x_1.ne + 1)
    (V.need (0 + (↑x_1.ne : Int).toNat < x_1.ne + 1)
    (V.br (!((if 0 = 0 ∧ 0 + (↑x_1.ne : Int).toNat = x_1.ne then Int.ofNat 5 else x_1.ev.k (0 + (↑x_1.ne : Int).toNat)) == Int.ofNat 15 && ((if 0 = 0 ∧ 0 + (↑x_1.ne : Int).toNat = x_1.ne then (IntKind.i64.wrap (IntKind.u8.wrap ((g (0 + (↑x_1.i : Int).toNat)).tdiv (Int.ofNat 3)))).tmod (Int.ofNat 4) else x_1.ev.w (0 + (↑x_1.ne : Int).toNat)) == (IntKind.i64.wrap (IntKind.u8.wrap ((g (0 + (↑x_1.i : Int).toNat)).tdiv (Int.ofNat 3)))).tmod (Int.ofNat 4) && ((if 0 = 0 ∧ 0 + (↑x_1.ne : Int).toNat = x_1.ne then Int.ofNat 0 else x_1.ev.t (0 + (↑x_1.ne : Int).toNat)) == Int.ofNat 0 && ((if 0 = 0 ∧ 0 + (↑x_1.ne : Int).toNat = x_1.ne then Int.ofNat 0 else x_1.ev.o (0 + (↑x_1.ne : Int).toNat)) == Int.ofNat 0 && ((if 0 = 0 ∧ 0 + (↑x_1.ne : Int).toNat = x_1.ne then Int.ofNat 0 else x_1.ev.l (0 + (↑x_1.ne : Int).toNat)) == Int.ofNat 0 && true))))))
    (V.bad 420)
    (V.need ((IntKind.i64.wrap ((↑x_1.i : Int) + Int.ofNat 1)).toNat ≤ 100 ∧ (↑x_1.cl : Int).toNat ≤ (IntKind.i64.wrap ((↑x_1.i : Int) + Int.ofNat 1)).toNat ∧ x_1.ne + 1 ≤ (IntKind.i64.wrap ((↑x_1.i : Int) + Int.ofNat 1)).toNat ∧ x_1.ne + 1 ≤ x_5 ∧ true = decide (0 < (↑x_1.cl : Int).toNat) ∧ (false = true → x_3.g 38 = Int.ofNat 1) ∧ (false = false → x_3.g 38 ≠ Int.ofNat 1) ∧ x_3.g 39 = Int.ofNat 0 ∧ ∀ (e : Nat), Int.ofNat 0 ≤ x_3.g e ∧ x_3.g e ≤ Int.ofNat 18446744073709551615)
    (V.need (101 - (IntKind.i64.wrap ((↑x_1.i : Int) + Int.ofNat 1)).toNat < 101 - x_1.i)
    (V.need (IntKind.i64.wrap ((↑x_1.i : Int) + Int.ofNat 1) = (↑(IntKind.i64.wrap ((↑x_1.i : Int) + Int.ofNat 1)).toNat : Int))
    (nN [(1, .pf (false = false) rfl)]
    (V.need ((↑x_1.cl : Int) = (↑(↑x_1.cl : Int).toNat : Int))
    (nN [(1, .pf (x.fst.nP = x.fst.nP) rfl), (1, .pf (x.fst.rc = x.fst.rc) rfl), (1, .pf (x.fst.nU = x.fst.nU) rfl), (1, .pf (x.fst.cu = x.fst.cu) rfl), (1, .pf (x.snd = x.snd) rfl), (1, .pf (x_1.ne + 1 = x_1.ne + 1) rfl), (1, .pf (x_5 = x_5) rfl), (1, .pf (x_3.lk = x_3.lk) rfl), (1, .pf (x_3.lc = x_3.lc) rfl), (1, .pf (x_3.lo = x_3.lo) rfl), (1, .pf (x_3.ln = x_3.ln) rfl), (1, .pf (x_3.ct = x_3.ct) rfl), (1, .eq 43 43), (1, .le 43 43), (1, .pf (∀ (e : Nat), e < 43 → x_3.g e = x_3.g e) (by intros; rfl)), (1, .pf (x.snd = x.snd) rfl), (1, .le 1 1), (1, .pf (true = true) rfl), (1, .pf (x_5 = x_5) rfl)]
    (V.need (x_1.ne + 1 ≤ x_1.ne + 1)
    (V.need (∀ (e : Nat), e < x_1.ne + 1 → (if 0 = 0 ∧ e = x_1.ne then Int.ofNat 5 else x_1.ev.k e) = if 0 = 0 ∧ e = x_1.ne then Int.ofNat 5 else x_1.ev.k e)
    (V.need (∀ (e : Nat), e < x_1.ne + 1 → (if 0 = 0 ∧ e = x_1.ne then (IntKind.i64.wrap (IntKind.u8.wrap ((g (0 + (↑x_1.i : Int).toNat)).tdiv (Int.ofNat 3)))).tmod (Int.ofNat 4) else x_1.ev.w e) = if 0 = 0 ∧ e = x_1.ne then (IntKind.i64.wrap (IntKind.u8.wrap ((g (0 + (↑x_1.i : Int).toNat)).tdiv (Int.ofNat 3)))).tmod (Int.ofNat 4) else x_1.ev.w e)
    (V.need (∀ (e : Nat), e < x_1.ne + 1 → (if 0 = 0 ∧ e = x_1.ne then Int.ofNat 0 else x_1.ev.t e) = if 0 = 0 ∧ e = x_1.ne then Int.ofNat 0 else x_1.ev.t e)
    (V.need (∀ (e : Nat), e < x_1.ne + 1 → (if 0 = 0 ∧ e = x_1.ne then Int.ofNat 0 else x_1.ev.o e) = if 0 = 0 ∧ e = x_1.ne then Int.ofNat 0 else x_1.ev.o e)
    (V.need (∀ (e : Nat), e < x_1.ne + 1 → (if 0 = 0 ∧ e = x_1.ne then Int.ofNat 0 else x_1.ev.l e) = if 0 = 0 ∧ e = x_1.ne then Int.ofNat 0 else x_1.ev.l e) V.ok))))))))))))))))))))))))))))))))))))))))
    (nN [(3, .lt 0 1)]
    (V.need ((x_1.st == decide ((↑x_1.cl : Int) > Int.ofNat 0)) = true) V.ok)))))))))))))))))))))))) := by kernel_rfl


end Go.Proofs.Ytomaagmleafjeaa.Md

/- TableOnce: the conditions hold; the walk. -/
set_option linter.unusedVariables false
set_option linter.unusedSimpArgs false
set_option maxRecDepth 100000
namespace Go.Proofs.Ytomaagmleafjeaa.Md
open Go Go.RowKit Sx Cn Dc Ck Vc
theorem con18N_ok : ConOK P con18N := .add aw18_ok conNL_ok
theorem wk4 (y : Int) : 0 ≤ (IntKind.i64.wrap (IntKind.u8.wrap y)).tmod ((4 : Nat) : Int) ∧ (IntKind.i64.wrap (IntKind.u8.wrap y)).tmod ((4 : Nat) : Int) < 4 := by
  have h : IntKind.u8.wrap y = y % 256 := by unfold IntKind.wrap; rfl
  rw [w64 (by rw [h]; omega), h, Int.tmod_eq_emod_of_nonneg (by omega)]
  omega
set_option maxHeartbeats 4000000 in
theorem vhOnce {g : Nat → Int} {len cap : Nat} (hg : U8 len g) : VHolds (verOnce g len cap) := by
  constructor
  rw [verOnce_eq]
  refine V.brI (fun _ => V.okI) fun hlen => ?_
  have hl : len ≤ 100 := by simp at hlen; omega
  (repeat' first | with_reducible exact V.okI | with_reducible refine V.anyCfg ?_ | with_reducible refine V.anyCl' ?_ | with_reducible refine nN_h rfl ?_ | with_reducible refine V.needI ?_ ?_ | with_reducible intro _)
  all_goals first
    | (first | rfl | exact True.intro | exact ⟨u8_0, by decide⟩ | exact ⟨(1, 0, fun _ => 0), Nat.le_refl _⟩ | exact ⟨Nat.le_refl _, by assumption⟩ | exact Nat.zero_le _ | exact ⟨Nat.zero_le _, Nat.zero_le _⟩ | exact ⟨(_, _), is_cl _, Nat.le_refl _⟩ | exact err9 (by unfold okN; simp only [Int.ofNat_eq_natCast]; omega) rfl rfl rfl | decide)
    | exact hg
    | (rename_i h; subst h; rfl)
    | omega
    | (refine ⟨fun e he => ?_, by decide⟩
       match e, he with
       | 0, _ | 1, _ => exact ⟨by decide, by decide⟩)
    | (simp [okO]; done)
    | skip
  refine V.anyI fun x hx => ?_
  obtain ⟨o1, o2, o3, o4, o5, o6, o7, o8, o9⟩ := hx
  have hW := wk4 ((g (0 + ((x.i : Nat) : Int).toNat)).tdiv (Int.ofNat 3))
  revert hW
  generalize (IntKind.i64.wrap (IntKind.u8.wrap ((g (0 + ((x.i : Nat) : Int).toNat)).tdiv (Int.ofNat 3)))).tmod (Int.ofNat 4) = W
  intro hW
  have e1 : x.i < len → IntKind.i64.wrap ((x.i : Int) + Int.ofNat 1) = ((x.i + 1 : Nat) : Int) := fun h => wnat (by omega)
  have e2 : IntKind.i64.wrap ((x.cl : Int) + Int.ofNat 1) = ((x.cl + 1 : Nat) : Int) := wnat (by omega)
  have e3 : IntKind.i64.wrap ((x.ne : Int) + Int.ofNat 1) = ((x.ne + 1 : Nat) : Int) := wnat (by omega)
  simp only [e2, e3, Mm.eta, Int.toNat_natCast, Nat.zero_add]
  refine V.brI (fun hi => ?_) (fun hi => ?_)
  · have hi : x.i < len := by simpa using hi
    simp only [e1 hi, Int.toNat_natCast]
    have v0 : ((x.m.acc 43 2 42 0).acc 43 2 38 1).val 43 39 = 0 := by
      rw [Mm.val_eq (by omega) (by omega)]
      show (((x.m.acc 43 2 42 0).acc 43 2 38 1).g 39 : Int) = 0
      rw [Mm.acc_ne (by omega), Mm.acc_ne (by omega)]
      exact o8
    have vh : x.m.hit 43 38 1 = x.rdy := by
      unfold Mm.hit
      rw [inb_t (by omega) (by omega), Mm.val_eq (by omega) (by omega), Bool.true_and]
      show decide (x.m.g 38 = 1) = _
      cases hr : x.rdy with
      | true => exact decide_eq_true (o6 hr)
      | false => exact decide_eq_false (o7 hr)
    have v1 : x.m.val 43 38 = x.m.g 38 := Mm.val_eq (by omega) (by omega)
    have c1 : (x.m.acc 43 3 38 (casV x.rdy (x.m.g 38) 2)).g 38 ≠ 1 := by
      rw [Mm.acc_eq (n := 43) (a := 38) (e := 38) (by omega) (by omega) (by omega)]
      cases hr : x.rdy with
      | true => exact show (2 : Int) ≠ 1 by decide
      | false => exact o7 hr
    have c2 : 0 ≤ casV x.rdy (x.m.g 38) 2 ∧ casV x.rdy (x.m.g 38) 2 ≤ 18446744073709551615 := by
      cases hr : x.rdy with
      | true => exact show (0 : Int) ≤ 2 ∧ (2 : Int) ≤ 18446744073709551615 by omega
      | false => exact o9 38
    have w0 : IntKind.i64.wrap 0 = 0 := w64 (by omega)
    have w1 : IntKind.u64.wrap 1 = 1 := wu64 (by omega)
    have w2 : IntKind.u64.wrap 0 = 0 := wu64 (by omega)
    (repeat' first | with_reducible exact V.okI | with_reducible refine V.brT ?_ | with_reducible refine V.brF ?_ | with_reducible refine V.brI ?_ ?_ | with_reducible refine V.anyI ?_ | with_reducible refine nN_h rfl ?_ | with_reducible refine V.needI ?_ ?_ | with_reducible intro _)
    all_goals subst_vars
    all_goals simp only [Int.ofNat_eq_natCast, Int.cast_ofNat_Int, Int.natCast_zero, Int.natCast_one, decide_eq_true_eq, decide_eq_false_iff_not, v0, vh, v1, w0, w1, w2, Int.tmod_one] at *
    all_goals first
      | omega
      | exact ⟨Nat.le_refl _, trivial⟩
      | (simp only [okQ, okAt]; omega)
      | (exfalso; simp_all; done)
      | (refine ⟨by omega, by omega, by omega, by omega, ?_, ?_, ?_, ?_, ?_⟩
         all_goals first
           | exact o5
           | exact fun _ => c1
           | (simp only [o5]; exact decide_eq_decide.2 (by omega))
           | (rw [o5]; exact decide_eq_decide.2 (by omega))
           | (refine (decide_eq_true ?_).symm; omega)
           | exact fun _ => o6 (by assumption)
           | (intro h; cases h; done)
           | (intro h; exact absurd h (by decide))
           | (simp (disch := omega) only [w64, Mm.acc_ne, Mm.acc_ld, Mm.acc_eq, o8, true_implies, forall_const]; done)
           | (intro e
              repeat' first
                | exact c2
                | exact o9 _
                | exact o9
                | exact wrap_ok _
                | exact bits_ok _
                | with_reducible refine Mm.ok_acc ?_ ?_ _
                | with_reducible refine Mm.ok_acc ?_ ?_
                | with_reducible refine Mm.ok_val ?_
                | omega
                | (intro _)
                | (constructor <;> decide))
           | skip)
      | skip
  · (repeat' first | with_reducible exact V.okI | with_reducible refine V.brT ?_ | with_reducible refine V.brF ?_ | with_reducible refine V.brI ?_ ?_ | with_reducible refine V.anyI ?_ | with_reducible refine nN_h rfl ?_ | with_reducible refine V.needI ?_ ?_ | with_reducible intro _)
    rw [o5]
    exact beq_iff_eq.2 (decide_eq_decide.2 (by simp))
theorem walkOnce (a : Option Addr) (len cap : Nat) (g : Nat → Int) (W : World) (h : IsInts .u8 W a len cap g) :
    Calls P 12 #[.slice a len cap] W fun e w' => e = .returned (.bool true) ∧ Below W.heap.size W w' := by
  refine calls_yesV (vs := [.slice a len cap]) con18N_ok (ρ := fun k i => if k = 0 ∧ i = 0 then addr0 a else none) (vhOnce (fun e he => u8i (h.fits e he))) (views_inv fun k b hk => ?_) ⟨h.val (by simp) ⟨Nat.le_of_ble_eq_true rfl, trivial⟩, trivial⟩
  rw [find_cons] at hk
  split at hk
  · rename_i e; subst e
    cases hk
    exact ⟨rfl, by decide, h.sat (by simp)⟩
  · cases hk
end Go.Proofs.Ytomaagmleafjeaa.Md
