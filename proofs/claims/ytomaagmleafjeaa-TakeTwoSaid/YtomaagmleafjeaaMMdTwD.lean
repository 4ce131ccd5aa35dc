/- TakeTwo: the law: what is asked. -/
import Derived.Test.YtomaagmleafjeaaMMdTsK
import Derived.Test.YtomaagmleafjeaaMMdAw24
import Derived.Test.YtomaagmleafjeaaMMd
import Derived.Test.YtomaagmleafjeaaMW
import Derived.Test.YtomaagmleafjeaaMV
import Derived.Test.YtomaagmleafjeaaMMdBr
set_option linter.unusedVariables false
set_option linter.unusedSimpArgs false
set_option maxRecDepth 100000
namespace Go.Proofs.Ytomaagmleafjeaa.Md
open Go Go.RowKit Sx Cn Dc Ck Vc
/-- A machine's numbers. -/
structure XMn where
  lv : Int
  qt : Int
  qb : Int
  qr : Int
  qc : Int
  ln : Int
  b : Int
  t : Int
  v : Int
/-- How many picks; the memory; events, their room; what is started; what was claimed; the machines. -/
structure XTw where
  i : Int
  m : Mm
  l : El
  nc : Nat
  st : Nat → Bool
  cl : Nat → Int
  a : XMn
  c : XMn
def XTw.ta (x : XTw) (u : XMn) : XTa := ⟨⟨u.lv, u.qt, u.qb, u.qr, u.qc, u.ln, u.b, u.t, 0, x.m⟩, x.l, x.st, u.v⟩
/-- A machine as its step sees it, by its state; fresh. -/
def ta0 (x : XTw) (u : XMn) : XTa := ⟨⟨u.lv, 0, 0, 0, 0, 0, 0, 0, 0, x.m⟩, x.l, x.st, 0⟩
def ta1 (x : XTw) (u : XMn) : XTa := ⟨⟨u.lv, u.qt, u.qb, u.qr, u.qc, u.ln, u.b, u.t, 0, x.m⟩, x.l, x.st, 0⟩
def ta2 (x : XTw) (u : XMn) : XTa := ⟨⟨u.lv, u.qt, u.qb, u.qr, u.qc, u.ln, u.b, 0, 0, x.m⟩, x.l, x.st, 0⟩
def ta3 (x : XTw) (u : XMn) : XTa := ⟨noPo 0 x.m, x.l, x.st, u.v⟩
def taZ (x : XTw) : XTa := ⟨noPo 0 x.m, x.l, x.st, 0⟩
def anyE {α : Type} (φ : α → Prop) (k : α → V) : V := .need (∃ x, φ x) (.any α φ k)
theorem anyE_h {α : Type} {φ : α → Prop} {k : α → V} (h : ∃ x, φ x) (hk : ∀ x, φ x → (k x).holds) : (anyE φ k).holds := ⟨h, hk⟩
/-- Machines' numbers, as they are read behind a step. -/
def mnZ : XMn := ⟨0, 0, 0, 0, 0, 0, 0, 0, 0⟩
def mn0 (l : Int) : XMn := ⟨l, 0, 0, 0, 0, 0, 0, 0, 0⟩
def mn1 (z : XTs) : XMn := ⟨z.x.p.lv, z.x.p.qt, z.x.p.qb, z.x.p.qr, z.x.p.qc, z.x.p.ln, z.x.p.b, z.x.p.t, 0⟩
def mn2 (z : XTs) : XMn := ⟨z.x.p.lv, z.x.p.qt, z.x.p.qb, z.x.p.qr, z.x.p.qc, z.x.p.ln, z.x.p.b, 0, 0⟩
def mn3 (v : Int) : XMn := ⟨0, 0, 0, 0, 0, 0, 0, 0, v⟩
def mu1 (u : XMn) : XMn := ⟨u.lv, u.qt, u.qb, u.qr, u.qc, u.ln, u.b, u.t, 0⟩
def mu2 (u : XMn) : XMn := ⟨u.lv, u.qt, u.qb, u.qr, u.qc, u.ln, u.b, 0, 0⟩
def nMu (lp : Nat) (i : Int) (k : V) : V := .need (((lp : Int) - IntKind.i64.wrap (i + Int.ofNat 1)).toNat < ((lp : Int) - i).toNat) (nN [qE (IntKind.i64.wrap (i + Int.ofNat 1))] k)
theorem nMu_h {lp : Nat} {i : Int} {k : V} (h1 : ((lp : Int) - IntKind.i64.wrap (i + Int.ofNat 1)).toNat < ((lp : Int) - i).toNat) (h : k.holds) : (nMu lp i k).holds := ⟨h1, nN_h rfl h⟩
def nMm (m : Mm) (k : V) : V := nN [(2, .eq 115 115), qE m.lk, qE m.lc, qE m.lo, qE m.ln, qE m.ct, (1, .eq 115 115), (1, .le 115 115), qF 115 m.g] k
def nLy (k : V) : V := nN [(1, .eqI 2 2), (1, .eqI 3 3), (1, .eqI 1 1), (1, .eqI 9 9), (1, .eqI 8 8), (1, .eqI 1 1), (1, .eqI 5 5), (1, .eqI 6 6), (1, .eqI 8 8), (1, .eqI 10 10), (1, .eqI 70 70), (1, .eq 9 9)] k
def nEl (l : El) (nc : Nat) (k : V) : V := nN [qE nc, qL l.n, qF l.n l.v.k, qF l.n l.v.w, qF l.n l.v.t, qF l.n l.v.o, qF l.n l.v.l] k
def nDu (k : V) : V := nN [(1, .le 0 0), (1, .pf (∀ (i : Nat), i < 0 → 0 ≤ 0) (by intros; exact Nat.le_refl _))] k
theorem nMm_h {m : Mm} {k : V} (h : k.holds) : (nMm m k).holds := nN_h rfl h
theorem nLy_h {k : V} (h : k.holds) : (nLy k).holds := nN_h rfl h
theorem nEl_h {l : El} {nc : Nat} {k : V} (h : k.holds) : (nEl l nc k).holds := nN_h rfl h
theorem nDu_h {k : V} (h : k.holds) : (nDu k).holds := nN_h rfl h
noncomputable section
def rdI6 (ti : Nat) (s : St) : Option XI2 := match tmI ti s, rdMm s.H.h (envM 6 s) with
  | some i, some x => some ⟨i.toNat, x.m⟩
  | _, _ => none
def laI6 (ti L : Nat) (I : XI2 → Prop) (s : St) : Option (LA XI2) := match memBs 6 s with
  | some mb => some ⟨[(envM 6, true), (envC 6, true)], fun x => mb x.m, [ti], fun x => [.c (i6 x.i)], rdI6 ti, I, fun x => L - x.i⟩
  | none => none
def rw1 (k : Nat) (h : HL) : Option (Nat → Int) := match find k h with
  | some b => match colsB b with
    | [c] => match colG c with
      | some g => some fun e => g e
      | none => none
    | _ => none
  | none => none
/-- A machine's place in the list; its blocks: those that it has, or others. -/
def xsC (w : Nat) (s : St) : Option SC := match rowCols (tmK 11 s) s.H.h with
  | [.ck l] => l[w]?
  | _ => none
def shTw (w : Nat) (s : St) : Nat := match xsC w s with
  | some (.ifc _ k _ _ _ _) => fN k fun k => match Nat.beq (ifT k 5 s.H.h) tCla with
    | true => 4
    | false => match Nat.beq (ifT (ifK k 5 s.H.h) 6 s.H.h) tPopO with
      | true => 2
      | false => match Nat.beq (ifT (ifK k 5 s.H.h) 6 s.H.h) tClr with
        | true => 3
        | false => 1
  | _ => 0
def pT (w z : Nat) (s : St) : Nat := match xsC w s with
  | some (.ifc _ k _ _ _ _) => k
  | _ => z
def pP (w z : Nat) (s : St) : Nat := match xsC w s with
  | some (.ifc _ k _ _ _ _) => ifK k 5 s.H.h
  | _ => z
def pO (w z : Nat) (s : St) : Nat := match shTw w s with
  | 2 => fN (pP w 0 s) fun k => ifK k 6 s.H.h
  | 3 => fN (pP w 0 s) fun k => ifK k 6 s.H.h
  | _ => z
def rdMn (w : Nat) (s : St) (m : Mm) : Option XMn := fN (shTw w s) fun q => match q with
  | 0 => some ⟨0, 0, 0, 0, 0, 0, 0, 0, 0⟩
  | q + 1 => fN (pP w 0 s) fun k5 => fN (ifK k5 6 s.H.h) fun k6 => match rdXp q k5 k6 s.H.h m with
    | some z => some ⟨z.1.lv, z.1.qt, z.1.qb, z.1.qr, z.1.qc, z.1.ln, z.1.b, z.1.t, z.2⟩
    | none => none
def rdTw (s : St) : Option (Nat × XTw) := match tmI 13 s, rdMm s.H.h (envM 6 s), rdEl 6 s, rdSt (envR 6 s) s.H.h, rw1 (tmK 12 s) s.H.h with
  | some i, some x, some (e, nc), some st, some cl => match rdMn 0 s x.m, rdMn 1 s x.m with
    | some a, some c => fN (shTw 0 s) fun p => fN (shTw 1 s) fun q => some (p * 5 + q, ⟨i, x.m, e, nc, fun i => st i, fun i => cl i, a, c⟩)
    | _, _ => none
  | _, _, _, _, _ => none
def slB (y : Ly) (w : Int) (q : Nat) (x : XTa) (k5 k6 : Nat) : List Blk := match q with
  | 0 => [dumB, dumB, dumB]
  | q + 1 => qB y w q x k5 k6
def ifc0 (q k : Nat) : SC := match q with
  | 0 => .nilI
  | _ => .ifc 192 k (.k 0) (.k 0) 0 6
def laTw (len : Nat) (y : Ly) (I : Nat × XTw → Prop) (s : St) : Option (LA (Nat × XTw)) := match find (envM 6 s) s.H.h, find (envC 6 s) s.H.h, find (tmK 6 s) s.H.h, find (envR 6 s) s.H.h, find (tmK 11 s) s.H.h, find (tmK 12 s) s.H.h with
  | some (.own tm sm (some (.slc kc a b z _ _) :: _)), some (.row t2 c2 n2 _), some (.own te se cs), some (.row _ cr nr _), some (.row t11 _ _ _), some (.row t12 _ _ _) => fN (envE 6 s) fun ke => fN (s.H.nxt - 6) fun z0 => fN (envR 6 s) fun kr => fN (envM 6 s) fun km =>
      some ⟨[(envM 6, true), (envC 6, true), (tmK 6, true), (envE 6, false), (envR 6, true), (tmK 11, true), (tmK 12, true), (pT 0 z0, false), (pP 0 (z0 + 1), false), (pO 0 (z0 + 2), false), (pT 1 (z0 + 3), false), (pP 1 (z0 + 4), false), (pO 1 (z0 + 5), false)],
      fun x => [.own tm sm ([.slc kc a b z (.s 115) (.s 115), i6 x.2.m.lk, i6 x.2.m.lc, uw x.2.m.lo, uw x.2.m.ln, i6 x.2.m.ct].map some), .row t2 115 115 [.ci .u64 fun _ e => x.2.m.g e], envT y km ke kr x.2.l.n x.2.nc 9 cr, .row 80 x.2.nc x.2.l.n x.2.l.v.cols, recB 9 cr x.2.st,
          .row t11 2 2 [.ck [ifc0 (Nat.div x.1 5) z0, ifc0 (Nat.mod x.1 5) (z0 + 3)]], .row t12 9 9 [.ci .i64 fun _ e => x.2.cl e]] ++ slB y 0 (Nat.div x.1 5) (x.2.ta x.2.a) (z0 + 1) (z0 + 2) ++ slB y 1 (Nat.mod x.1 5) (x.2.ta x.2.c) (z0 + 4) (z0 + 5),
      [13], fun x => [.c (i6 x.2.i)], rdTw, I, fun x => (len - x.2.i).toNat⟩
  | _, _, _, _, _, _ => none
def con24w : Con := Con.add 95 conYes (Con.add fTs cTs (Con.add fAl cAlU (Con.add fTk cTk (Con.add fDr cDr (conN conWB)))))
theorem con24w_ok : ConOK P con24w := .add aw24_ok (.add cTs_ok (.add cAlU_ok (.add cTk_ok (.add cDr_ok (conN_ok conWB_ok)))))
/-- The layout: two workers. -/
def yW : Ly := ⟨2, 3, 1, 9, 8, 1, 5, 6, 8, 10, 70⟩
def verTw (y : Ly) (g p : Nat → Int) (lg cg lp cp : Nat) (I1 I2 : XI2 → Prop) (I3 : XI2 → Prop) (I4 : Nat × XTw → Prop) : V := verF P con24w 16 12 22 [(24, .cases 14 [0, 1])]
  (.loop XI2 [] (laI6 8 9 I1) .nil (.loop XI2 [] (laI6 9 (min lg 12) I2) (.loop XI2 [] (laI6 10 2 I3) .nil .nil) (.loopS 25 XTw [gEv 6, .newFam 0 [], .newFam 0 [], .newFam 0 [], .newFam 0 [], .newFam 0 [], .newFam 0 []] (laTw lp y I4) .nil .nil)))
  [.c (slK 0 1 lg cg), .c (slK 1 1 lp cp)] ⟨[(0, ints .u8 lg g), (1, ints .i64 lp p)], 2, fun _ => True⟩ yesV
/-- The same, for five of the shapes. -/
def verTwO (j : Nat) (y : Ly) (g p : Nat → Int) (lg cg lp cp : Nat) (I1 I2 : XI2 → Prop) (I3 : XI2 → Prop) (I4 : Nat × XTw → Prop) : V := verO 5 5 j P con24w 16 12 22 [(24, .cases 14 [0, 1])]
  (.loop XI2 [] (laI6 8 9 I1) .nil (.loop XI2 [] (laI6 9 (min lg 12) I2) (.loop XI2 [] (laI6 10 2 I3) .nil .nil) (.loopS 25 XTw [gEv 6, .newFam 0 [], .newFam 0 [], .newFam 0 [], .newFam 0 [], .newFam 0 [], .newFam 0 []] (laTw lp y I4) .nil .nil)))
  [.c (slK 0 1 lg cg), .c (slK 1 1 lp cp)] ⟨[(0, ints .u8 lg g), (1, ints .i64 lp p)], 2, fun _ => True⟩ yesV
end
end Go.Proofs.Ytomaagmleafjeaa.Md

/- TakeTwo, the plain law: words stay words; the layout; what a step leaves. -/
set_option maxRecDepth 100000
namespace Go.Proofs.Ytomaagmleafjeaa.Md
open Go Go.RowKit Sx Cn Dc Ck Vc
theorem puStep_ok {y : Ly} {n : Nat} {w l v : Int} (x : Nat × XPu) (h : ∀ e, 0 ≤ x.2.m.g e ∧ x.2.m.g e ≤ 18446744073709551615) : ∀ e, 0 ≤ (puStep y n w l v x).1.2.m.g e ∧ (puStep y n w l v x).1.2.m.g e ≤ 18446744073709551615 := by
  obtain ⟨q, x⟩ := x
  have h : ∀ e, 0 ≤ x.m.g e ∧ x.m.g e ≤ 18446744073709551615 := h
  match q with
  | 0 => exact fun e => Mm.ok_acc h (Mm.ok_val h) e
  | 1 =>
    simp only [puStep]
    repeat' split
    all_goals first
      | exact fun e => Mm.ok_acc h (Mm.ok_val h) e
      | exact fun e => Mm.ok_acc h (wrap_ok _) e
  | q + 2 => exact fun e => Mm.ok_acc h (bits_ok _) e
theorem puRun_ok {y : Ly} {n : Nat} {w l v : Int} : ∀ (f : Nat) (x : Nat × XPu), (∀ e, 0 ≤ x.2.m.g e ∧ x.2.m.g e ≤ 18446744073709551615) → ∀ e, 0 ≤ (puRun y n w l v f x).m.g e ∧ (puRun y n w l v f x).m.g e ≤ 18446744073709551615
  | 0, x, h => h
  | f + 1, x, h => by
    have h1 := puStep_ok (y := y) (n := n) (w := w) (l := l) (v := v) x h
    have ih := fun z => @puRun_ok y n w l v f z
    unfold puRun at ih ⊢
    simp only [aRun]
    rcases hs : puStep y n w l v x with ⟨z, _ | r⟩
    · rw [hs] at h1
      exact ih z h1
    · rw [hs] at h1
      exact h1
theorem tsW {w : Int} (hw : w = 0 ∨ w = 1) : TsOK yW 115 w 9 := by
  have hst : ∀ v, stA yW v = if v < 0 ∨ (9 : Int) ≤ v then -1 else 70 + v * 5 := fun v => rfl
  refine ⟨⟨⟨by show (0 : Int) ≤ 2 ∧ (2 : Int) ≤ 16; decide, by show (0 : Int) ≤ 3 ∧ (3 : Int) ≤ 64; decide, by show (0 : Int) ≤ 8 ∧ (8 : Int) ≤ 64; decide, by show (0 : Int) ≤ 10 ∧ (10 : Int) ≤ 1000; decide⟩, ⟨fun _ _ => by rcases hw with rfl | rfl <;> decide, by show (0 : Int) ≤ 8 ∧ (8 : Int) ≤ 1000000; decide⟩, fun t => ?_⟩, fun l => ?_, ?_, fun v h => ?_, fun v h1 h2 => ?_, rfl⟩
  · show okAtT t 9 70 5
    exact ⟨fun h0 h1 => by omega, by decide⟩
  · show (if (w < 0 ∨ (2 : Int) ≤ w) ∨ (l < 0 ∨ (3 : Int) ≤ l) then (⟨-1, -1, -1, 0⟩ : Qu) else _).t < (70 : Int) ∧ (if (w < 0 ∨ (2 : Int) ≤ w) ∨ (l < 0 ∨ (3 : Int) ≤ l) then (⟨-1, -1, -1, 0⟩ : Qu) else _).b < (70 : Int)
    split
    · decide
    · show (10 : Int) + w * 30 + l * 10 < 70 ∧ (10 : Int) + w * 30 + l * 10 + 1 < 70
      omega
  · show (if w < 0 ∨ (2 : Int) ≤ w then -1 else 8 + w * 1) < (70 : Int)
    split <;> omega
  · have h : ¬ (0 ≤ v ∧ v < 9) := h
    rw [hst, if_pos (by omega)]
    decide
  · have h2 : v < 9 := h2
    rw [hst, if_neg (by omega)]
    show (70 : Int) ≤ 70 + v * 5 ∧ 70 + v * 5 < (115 : Nat) ∧ 0 ≤ 70 + v * 5
    omega
/-- A machine's numbers, by its slot: 2 and 3 have a deque's cells. -/
def okM (w : Int) (q : Nat) (u : XMn) : Prop := q = 2 ∨ q = 3 → (0 ≤ u.b ∧ u.b ≤ 18446744073709551615) ∧ (0 ≤ u.t ∧ u.t ≤ 18446744073709551615) ∧ u.qt = (quM yW w u.lv).t ∧ u.qb = (quM yW w u.lv).b ∧ u.qc = (quM yW w u.lv).c
def okC (m : Mm) (cl : Nat → Int) : Prop := ∀ t : Nat, t < 9 → (0 ≤ cl t ∧ cl t ≤ 1) ∧ (0 < cl t → m.g (70 + t * 5) ≠ 1)
def okTw (lp : Nat) (z : Nat × XTw) : Prop := z.1 < 25 ∧ (0 ≤ z.2.i ∧ z.2.i ≤ lp) ∧ (∀ e, 0 ≤ z.2.m.g e ∧ z.2.m.g e ≤ 18446744073709551615) ∧ okM 0 (z.1 / 5) z.2.a ∧ okM 1 (z.1 % 5) z.2.c ∧ (z.2.l.n ≤ z.2.nc ∧ (z.2.l.n : Int) ≤ z.2.i) ∧ okC z.2.m z.2.cl
theorem okM_n {w : Int} {q : Nat} {u : XMn} (h : q ≠ 2 ∧ q ≠ 3) : okM w q u := fun q => by omega
theorem okM_S {w : Int} {q : Nat} {u : XMn} {x : XTa} (h : okS yW w (q - 1) x) (hq : q = 2 ∨ q = 3) (e : u.lv = x.p.lv ∧ u.qt = x.p.qt ∧ u.qb = x.p.qb ∧ u.qc = x.p.qc ∧ u.b = x.p.b) (ht : u.t = x.p.t ∨ u.t = 0) : okM w q u := fun _ => by
  obtain ⟨h1, h2, h3, h4, h5⟩ := h.2 (by omega)
  obtain ⟨e1, e2, e3, e4, e5⟩ := e
  rw [e1, e2, e3, e4, e5]
  exact ⟨h1, by rcases ht with ht | ht <;> rw [ht]; exact h2; decide, h3, h4, h5⟩
/-- What was claimed, behind a step. -/
theorem okC_s {w : Int} {m : Mm} {cl : Nat → Int} {x0 : XTa} {r : Nat} {z : XTs} (h : okC m cl) (hm : x0.p.m = m) (hφ : φTs yW w x0 r z) (hn : r ≠ 4) : okC z.x.p.m cl := fun t ht => by
  obtain ⟨h1, h2⟩ := h t ht
  refine ⟨h1, fun q => ?_⟩
  rcases hφ.2.1 (70 + t * 5) (by show (70 : Int) ≤ _; omega) with e | e
  · rw [e, hm]
    exact h2 q
  · exact absurd e.1 hn
theorem okC_c {w : Int} {m : Mm} {cl : Nat → Int} {x0 : XTa} {z : XTs} (h : okC m cl) (hm : x0.p.m = m) (hφ : φTs yW w x0 4 z) : (0 ≤ z.x.v ∧ z.x.v < 9) ∧ cl z.x.v.toNat = 0 ∧ okC z.x.p.m fun t => if t = z.x.v.toNat then 1 else cl t := by
  obtain ⟨g1, g2, g3⟩ := hφ.2.2.1 rfl
  have g1 : 0 ≤ z.x.v ∧ z.x.v < 9 := g1
  have hst : (stA yW z.x.v).toNat = 70 + z.x.v.toNat * 5 := by
    show (if z.x.v < 0 ∨ (9 : Int) ≤ z.x.v then -1 else 70 + z.x.v * 5 : Int).toNat = _
    rw [if_neg (by omega)]
    omega
  rw [hst] at g2 g3
  rw [hm] at g2
  refine ⟨g1, ?_, fun t ht => ?_⟩
  · obtain ⟨h1, h2⟩ := h z.x.v.toNat (by omega)
    by_cases c : 0 < cl z.x.v.toNat
    · exact absurd g2 (h2 c)
    · omega
  · dsimp only
    by_cases c : t = z.x.v.toNat
    · rw [if_pos c]
      exact ⟨by decide, fun _ => by rw [c, g3]; decide⟩
    · rw [if_neg c]
      obtain ⟨h1, h2⟩ := h t ht
      refine ⟨h1, fun q => ?_⟩
      rcases hφ.2.1 (70 + t * 5) (by show (70 : Int) ≤ _; omega) with e | e
      · rw [e, hm]
        exact h2 q
      · rw [e.2.2.2.2]
        decide
theorem ex_i {w : Int} {x0 : XTa} {r : Nat} (hm : ∀ e, 0 ≤ x0.p.m.g e ∧ x0.p.m.g e ≤ 18446744073709551615) (hr : r ≠ 4) : ∃ z, φTs yW w x0 r z :=
  ⟨⟨⟨⟨0, (quM yW w 0).t, (quM yW w 0).b, 0, (quM yW w 0).c, 1, 0, 0, 1, x0.p.m⟩, x0.l, x0.st, 0⟩, x0.l.n⟩, phi_i hm (fun _ => ⟨show (0 : Int) ≤ 0 ∧ (0 : Int) ≤ 18446744073709551615 by decide, show (0 : Int) ≤ 0 ∧ (0 : Int) ≤ 18446744073709551615 by decide, rfl, rfl, rfl⟩) (fun _ _ => rfl) hr (Nat.le_refl _) (Nat.le_succ _)⟩
theorem ex_c {w : Int} {x0 : XTa} (hw : w = 0 ∨ w = 1) (hm : ∀ e, 0 ≤ x0.p.m.g e ∧ x0.p.m.g e ≤ 18446744073709551615) (hh : bTs yW 115 w 3 x0 4 = true) : ∃ z, φTs yW w x0 4 z :=
  ⟨⟨⟨noPo 1 (x0.p.m.acc 115 3 (stA yW x0.v) (casV (x0.p.m.hit 115 (stA yW x0.v) 1) (x0.p.m.val 115 (stA yW x0.v)) 2)), x0.l, x0.st, x0.v⟩, x0.l.n⟩, phi_c (tsW hw) hm hh rfl rfl (Nat.le_refl _) (Nat.le_succ _)⟩
theorem preT_n {w : Int} {q nc : Nat} {x0 : XTa} (hw : w = 0 ∨ w = 1) (hq : q ≠ 1 ∧ q ≠ 2) (hm : ∀ e, 0 ≤ x0.p.m.g e ∧ x0.p.m.g e ≤ 18446744073709551615) (hl : x0.l.n ≤ nc) (hl2 : x0.l.n ≤ 1000) : preTs yW 115 w q 9 nc x0 := ⟨tsW hw, ⟨hm, fun h => by omega⟩, hl, hl2⟩
theorem preT_1 {w : Int} {nc : Nat} {x : XTw} {u : XMn} (hw : w = 0 ∨ w = 1) (h : okM w 2 u) (hm : ∀ e, 0 ≤ x.m.g e ∧ x.m.g e ≤ 18446744073709551615) (hl : x.l.n ≤ nc) (hl2 : x.l.n ≤ 1000) : preTs yW 115 w 1 9 nc (ta1 x u) := ⟨tsW hw, ⟨hm, fun _ => h (.inl rfl)⟩, hl, hl2⟩
theorem preT_2 {w : Int} {nc : Nat} {x : XTw} {u : XMn} (hw : w = 0 ∨ w = 1) (h : okM w 3 u) (hm : ∀ e, 0 ≤ x.m.g e ∧ x.m.g e ≤ 18446744073709551615) (hl : x.l.n ≤ nc) (hl2 : x.l.n ≤ 1000) : preTs yW 115 w 2 9 nc (ta2 x u) :=
  ⟨tsW hw, ⟨hm, fun _ => by
    obtain ⟨h1, -, h2⟩ := h (.inr rfl)
    exact ⟨h1, ⟨by show (0 : Int) ≤ 0; decide, by show (0 : Int) ≤ _; decide⟩, h2⟩⟩, hl, hl2⟩
/-- The next round. -/
theorem tw_next {lp j : Nat} {x : XTw} {w : Int} {x0 : XTa} {r : Nat} {z : XTs} {cl : Nat → Int} {a c : XMn} (hφ : φTs yW w x0 r z) (hl0 : x0.l = x.l) (hl : (x.l.n : Int) ≤ x.i) (h0 : 0 ≤ x.i) (hi : x.i < lp) (hcl : okC z.x.p.m cl) (hj : j < 25) (ha : okM 0 (j / 5) a) (hc : okM 1 (j % 5) c) :
    okTw lp (j, ⟨x.i + 1, z.x.p.m, z.x.l, z.nc, z.x.st, cl, a, c⟩) := by
  obtain ⟨h1, -, -, h2, h3⟩ := hφ
  rw [hl0] at h3
  exact ⟨hj, ⟨by show 0 ≤ x.i + 1; omega, by show x.i + 1 ≤ lp; omega⟩, h1.1, ha, hc, ⟨h2, by show (z.x.l.n : Int) ≤ x.i + 1; omega⟩, hcl⟩
theorem okC_same {m : Mm} {cl cl' : Nat → Int} (h : okC m cl) (e : ∀ t, cl' t = cl t) : okC m cl' := fun t ht => by
  rw [e t]
  exact h t ht
theorem okC_k {m : Mm} {cl : Nat → Int} {v : Int} (h : okC m fun t => if t = v.toNat then 1 else cl t) (h0 : cl v.toNat = 0) : okC m fun i => if 0 = 0 ∧ i = 0 + v.toNat then IntKind.i64.wrap (cl (0 + v.toNat) + Int.ofNat 1) else cl i :=
  okC_same h fun t => by
    have e1 : IntKind.i64.wrap (cl (0 + v.toNat) + Int.ofNat 1) = 1 := by
      rw [Nat.zero_add, h0]
      exact w64 (by decide)
    show (if 0 = 0 ∧ t = 0 + v.toNat then IntKind.i64.wrap (cl (0 + v.toNat) + Int.ofNat 1) else cl t) = if t = v.toNat then 1 else cl t
    rw [e1, Nat.zero_add]
    by_cases c : t = v.toNat
    · rw [if_pos ⟨rfl, c⟩, if_pos c]
    · rw [if_neg (fun q => c q.2), if_neg c]
theorem okM_0 {w : Int} {q : Nat} {u u' : XMn} (h : okM w q u) (e : u'.lv = u.lv ∧ u'.qt = u.qt ∧ u'.qb = u.qb ∧ u'.qc = u.qc ∧ u'.b = u.b) (ht : u'.t = u.t ∨ u'.t = 0) : okM w q u' := fun hq => by
  obtain ⟨h1, h2, h3, h4, h5⟩ := h hq
  obtain ⟨e1, e2, e3, e4, e5⟩ := e
  rw [e1, e2, e3, e4, e5]
  exact ⟨h1, by rcases ht with ht | ht <;> rw [ht]; exact h2; decide, h3, h4, h5⟩
def okW (L : Nat) (x : XI2) : Prop := x.i ≤ L ∧ ∀ e, 0 ≤ x.m.g e ∧ x.m.g e ≤ 18446744073709551615
end Go.Proofs.Ytomaagmleafjeaa.Md

/- TakeTwo: what the five trees share. -/
set_option maxRecDepth 100000
namespace Go.Proofs.Ytomaagmleafjeaa.Md
open Go Go.RowKit Sx Cn Dc Ck Vc
/-- The next round's numbers; what runs of plain needs are called. -/
abbrev nxT (x : XTw) (z : XTs) (cl : Nat → Int) (a c : XMn) : XTw := XTw.mk (IntKind.i64.wrap (x.i + Int.ofNat 1)) z.x.p.m z.x.l z.nc z.x.st cl a c
def nF2 (lp : Nat) (x : XTw) (z : XTs) (d : Cf × Nat) (k : V) : V := nMu lp x.i (nMm z.x.p.m (nLy (nN [qE d.snd, qE z.x.l.n, qE z.nc] (nEl z.x.l z.nc (nN [qE d.snd, (1, .le 9 9), qF 9 z.x.st, (1, .eq 2 2), (1, .le 2 2), (1, .eq 9 9), (1, .le 9 9)] k)))))
theorem nF2_h {lp : Nat} {x : XTw} {z : XTs} {d : Cf × Nat} {k : V} (h1 : ((lp : Int) - IntKind.i64.wrap (x.i + Int.ofNat 1)).toNat < ((lp : Int) - x.i).toNat) (h : k.holds) : (nF2 lp x z d k).holds := nMu_h h1 (nMm_h (nLy_h (nN_h rfl (nEl_h (nN_h rfl h)))))
def nHd (p : Nat → Int) (lp : Nat) (x : XTw) (k : Int → V) : V := V.need (Int.ofNat 0 ≤ x.i ∧ x.i < (↑lp : Int)) (V.need (0 < 1 ∧ 0 + x.i.toNat < lp) (V.need (0 < 1 ∧ 0 + x.i.toNat < lp) (nN [qE (p (0 + x.i.toNat)), (1, .eqI 2 2), (1, .leI 2 9223372036854775807), qX (dr (p (0 + x.i.toNat)) (Int.ofNat 2))] (V.any Int (fun (r : Int) => r = dr (p (0 + x.i.toNat)) (Int.ofNat 2)) k))))
theorem nHd_h {p : Nat → Int} {lp : Nat} {x : XTw} {k : Int → V} (h0 : 0 ≤ x.i) (h1 : x.i < lp) (h : ∀ r, r = dr (p (0 + x.i.toNat)) (Int.ofNat 2) → (k r).holds) : (nHd p lp x k).holds := V.needI ⟨h0, h1⟩ (V.needI ⟨Nat.zero_lt_one, by omega⟩ (V.needI ⟨Nat.zero_lt_one, by omega⟩ (nN_h rfl (V.anyI h))))
def nB5 (c : Nat → Bool) (k : (Nat → Bool) → V) : V := nN [(1, .pf (∃ x, x = c) ⟨_, rfl⟩)] (V.any (Nat → Bool) (fun b => b = c) k)
theorem nB5_h {c : Nat → Bool} {k : (Nat → Bool) → V} (h : ∀ b, b = c → (k b).holds) : (nB5 c k).holds := nN_h rfl (V.anyI h)
/-- The law up to its picks; L: the picks. -/
noncomputable def preTw (g : Nat → Int) (lg lp : Nat) (I1 I2 : XI2 → Prop) (I3 : XI2 → Prop) (L : Cf × Nat → XI2 → V) : V :=
  V.br (decide ((↑lp : Int) > Int.ofNat 400)) V.ok
    (V.need ((U8 0 fun (x : Nat) => Int.ofNat 0) ∧ 0 ≤ 9)
    (V.need (∃ (x : Nat × Nat × (Nat → Nat)), 1 ≤ x.fst)
    (V.any (Nat × Nat × (Nat → Nat)) (fun (x : Nat × Nat × (Nat → Nat)) => 1 ≤ x.fst) fun (x : Nat × Nat × (Nat → Nat)) => nN [(1, .eqI 2 2), (1, .eqI 3 3), (1, .eqI 1 1), (1, .eqI 9 9), (1, .eqI 8 8), (2, .eqI 1 1), (1, .eqI 0 0), (1, .eqI 1 1), (1, .eq 1 1), qE x.fst, (1, .eq 0 0), qE x.snd.fst, (1, .le 1 1)]
    (V.need (1 ≤ 1 ∧ 1 ≤ x.fst)
    (nN [(1, .pf (∀ (i e : Nat), i = 0 ∧ e < 1 → e = e) (by intros; rfl)), (1, .pf (∀ (i e : Nat), i = 0 ∧ e < 1 → 0 = 0) (by intros; rfl)), (1, .pf (∀ (i e : Nat), i = 0 ∧ e < 1 → x.snd.snd e = x.snd.snd e) (by intros; rfl)), (1, .le 1 1)]
    (V.need (0 ≤ 0 ∧ 0 ≤ x.snd.fst)
    (nN [(1, .pf (∀ (i e : Nat), i = 0 ∧ e < 0 → uP (fun (x : Nat) => Int.ofNat 0) 0 e = uP (fun (x : Nat) => Int.ofNat 0) 0 e) (by intros; rfl)), (1, .pf (∀ (i e : Nat), i = 0 ∧ e < 0 → uL (fun (x : Nat) => Int.ofNat 0) 0 e = uL (fun (x : Nat) => Int.ofNat 0) 0 e) (by intros; rfl)), (1, .pf (∀ (i e : Nat), i = 0 ∧ e < 0 → uD (fun (x : Nat) => Int.ofNat 0) 0 e = uD (fun (x : Nat) => Int.ofNat 0) 0 e) (by intros; rfl))]
    (V.need (∀ (i : Nat), i < 1 → 0 ≤ gd 1 (fun (x : Nat) => 0) i ∧ 0 ≤ gd 1 x.snd.snd i)
    (nN [(1, .pf (∀ (i e : Nat), i < 1 ∧ e < 0 → cO (fun (x : Nat) => Int.ofNat 0) 0 i e = cO (fun (x : Nat) => Int.ofNat 0) 0 i e) (by intros; rfl)), (1, .pf (∀ (i e : Nat), i < 1 ∧ e < 0 → cA (fun (x : Nat) => Int.ofNat 0) 0 i e = cA (fun (x : Nat) => Int.ofNat 0) 0 i e) (by intros; rfl)), (1, .pf (∀ (i e : Nat), i < 1 ∧ e < 0 → cB (fun (x : Nat) => Int.ofNat 0) 0 i e = cB (fun (x : Nat) => Int.ofNat 0) 0 i e) (by intros; rfl))]
    (V.need (errE (Cf.mk (Int.ofNat 2) (Int.ofNat 3) (Int.ofNat 1) (Int.ofNat 9) (Int.ofNat 8) (Int.ofNat 1) (Int.ofNat 1) (Int.ofNat 0) (Int.ofNat 1) 1 x.fst 0 x.snd.fst (fun (e : Nat) => 0) x.snd.snd (fun (i e : Nat) => cO (fun (x : Nat) => Int.ofNat 0) 0 i e) (fun (i e : Nat) => cA (fun (x : Nat) => Int.ofNat 0) 0 i e) (fun (i e : Nat) => cB (fun (x : Nat) => Int.ofNat 0) 0 i e) (fun (e : Nat) => uP (fun (x : Nat) => Int.ofNat 0) 0 e) (fun (e : Nat) => uL (fun (x : Nat) => Int.ofNat 0) 0 e) fun (e : Nat) => uD (fun (x : Nat) => Int.ofNat 0) 0 e) = Int.ofNat 0)
    (V.need (∃ (x_1 : Cf × Nat), IsCl (Cf.mk (Int.ofNat 2) (Int.ofNat 3) (Int.ofNat 1) (Int.ofNat 9) (Int.ofNat 8) (Int.ofNat 1) (Int.ofNat 1) (Int.ofNat 0) (Int.ofNat 1) 1 x.fst 0 x.snd.fst (fun (e : Nat) => 0) x.snd.snd (fun (i e : Nat) => cO (fun (x : Nat) => Int.ofNat 0) 0 i e) (fun (i e : Nat) => cA (fun (x : Nat) => Int.ofNat 0) 0 i e) (fun (i e : Nat) => cB (fun (x : Nat) => Int.ofNat 0) 0 i e) (fun (e : Nat) => uP (fun (x : Nat) => Int.ofNat 0) 0 e) (fun (e : Nat) => uL (fun (x : Nat) => Int.ofNat 0) 0 e) fun (e : Nat) => uD (fun (x : Nat) => Int.ofNat 0) 0 e) x_1.fst ∧ (Int.ofNat 9).toNat ≤ x_1.snd)
    (V.any (Cf × Nat) (fun (x_1 : Cf × Nat) => IsCl (Cf.mk (Int.ofNat 2) (Int.ofNat 3) (Int.ofNat 1) (Int.ofNat 9) (Int.ofNat 8) (Int.ofNat 1) (Int.ofNat 1) (Int.ofNat 0) (Int.ofNat 1) 1 x.fst 0 x.snd.fst (fun (e : Nat) => 0) x.snd.snd (fun (i e : Nat) => cO (fun (x : Nat) => Int.ofNat 0) 0 i e) (fun (i e : Nat) => cA (fun (x : Nat) => Int.ofNat 0) 0 i e) (fun (i e : Nat) => cB (fun (x : Nat) => Int.ofNat 0) 0 i e) (fun (e : Nat) => uP (fun (x : Nat) => Int.ofNat 0) 0 e) (fun (e : Nat) => uL (fun (x : Nat) => Int.ofNat 0) 0 e) fun (e : Nat) => uD (fun (x : Nat) => Int.ofNat 0) 0 e) x_1.fst ∧ (Int.ofNat 9).toNat ≤ x_1.snd) fun (x_1 : Cf × Nat) => nN [(1, .pf (∃ (x_2 : Nat × Int), x_2 = (ncN (Cf.mk (Int.ofNat 2) (Int.ofNat 3) (Int.ofNat 1) (Int.ofNat 9) (Int.ofNat 8) (Int.ofNat 1) (Int.ofNat 1) (Int.ofNat 0) (Int.ofNat 1) 1 x.fst 0 x.snd.fst (fun (e : Nat) => 0) x.snd.snd (fun (i e : Nat) => cO (fun (x : Nat) => Int.ofNat 0) 0 i e) (fun (i e : Nat) => cA (fun (x : Nat) => Int.ofNat 0) 0 i e) (fun (i e : Nat) => cB (fun (x : Nat) => Int.ofNat 0) 0 i e) (fun (e : Nat) => uP (fun (x : Nat) => Int.ofNat 0) 0 e) (fun (e : Nat) => uL (fun (x : Nat) => Int.ofNat 0) 0 e) fun (e : Nat) => uD (fun (x : Nat) => Int.ofNat 0) 0 e), lT (Cf.mk (Int.ofNat 2) (Int.ofNat 3) (Int.ofNat 1) (Int.ofNat 9) (Int.ofNat 8) (Int.ofNat 1) (Int.ofNat 1) (Int.ofNat 0) (Int.ofNat 1) 1 x.fst 0 x.snd.fst (fun (e : Nat) => 0) x.snd.snd (fun (i e : Nat) => cO (fun (x : Nat) => Int.ofNat 0) 0 i e) (fun (i e : Nat) => cA (fun (x : Nat) => Int.ofNat 0) 0 i e) (fun (i e : Nat) => cB (fun (x : Nat) => Int.ofNat 0) 0 i e) (fun (e : Nat) => uP (fun (x : Nat) => Int.ofNat 0) 0 e) (fun (e : Nat) => uL (fun (x : Nat) => Int.ofNat 0) 0 e) fun (e : Nat) => uD (fun (x : Nat) => Int.ofNat 0) 0 e))) ⟨_, rfl⟩)]
    (V.any (Nat × Int) (fun (q : Nat × Int) => q = (ncN (Cf.mk (Int.ofNat 2) (Int.ofNat 3) (Int.ofNat 1) (Int.ofNat 9) (Int.ofNat 8) (Int.ofNat 1) (Int.ofNat 1) (Int.ofNat 0) (Int.ofNat 1) 1 x.fst 0 x.snd.fst (fun (e : Nat) => 0) x.snd.snd (fun (i e : Nat) => cO (fun (x : Nat) => Int.ofNat 0) 0 i e) (fun (i e : Nat) => cA (fun (x : Nat) => Int.ofNat 0) 0 i e) (fun (i e : Nat) => cB (fun (x : Nat) => Int.ofNat 0) 0 i e) (fun (e : Nat) => uP (fun (x : Nat) => Int.ofNat 0) 0 e) (fun (e : Nat) => uL (fun (x : Nat) => Int.ofNat 0) 0 e) fun (e : Nat) => uD (fun (x : Nat) => Int.ofNat 0) 0 e), lT (Cf.mk (Int.ofNat 2) (Int.ofNat 3) (Int.ofNat 1) (Int.ofNat 9) (Int.ofNat 8) (Int.ofNat 1) (Int.ofNat 1) (Int.ofNat 0) (Int.ofNat 1) 1 x.fst 0 x.snd.fst (fun (e : Nat) => 0) x.snd.snd (fun (i e : Nat) => cO (fun (x : Nat) => Int.ofNat 0) 0 i e) (fun (i e : Nat) => cA (fun (x : Nat) => Int.ofNat 0) 0 i e) (fun (i e : Nat) => cB (fun (x : Nat) => Int.ofNat 0) 0 i e) (fun (e : Nat) => uP (fun (x : Nat) => Int.ofNat 0) 0 e) (fun (e : Nat) => uL (fun (x : Nat) => Int.ofNat 0) 0 e) fun (e : Nat) => uD (fun (x : Nat) => Int.ofNat 0) 0 e))) fun (x_2 : Nat × Int) => V.need True
    (V.need (I1 (XI2.mk 0 (Mm.mk (fun (e : Nat) => Int.ofNat 0) (Int.ofNat 0) (Int.ofNat 0) (Int.ofNat 0) (Int.ofNat 0) (Int.ofNat 0))))
    (V.need (Int.ofNat 0 = (↑0 : Int))
    (nN [(5, .eqI 0 0), (1, .eq 115 115), (1, .le 115 115), qF 115 (fun (e : Nat) => Int.ofNat 0)]
    (V.any XI2 I1 fun (x_3 : XI2) => nN [(2, .lt2 0 1 0 1)]
    (V.br (decide ((↑x_3.i : Int) < Int.ofNat 9))
    (nN [(14, .lt2 0 1 0 1), (1, .eqI 2 2), (1, .eqI 3 3), (1, .eqI 1 1), (1, .eqI 9 9), (1, .eqI 8 8), (2, .eqI 1 1), (1, .eqI 0 0), (1, .eqI 1 1), (1, .eq 1 1), qE x.fst, (1, .eq 0 0), qE x.snd.fst, qE ((↑x_3.i : Int)), (1, .eqI 0 0), (1, .le 1 1), (1, .pf (∀ (i : Nat), i < 1 → 1 ≤ 1) (by intros; exact Nat.le_refl _)), (1, .pf (∀ (i e : Nat), i < 1 ∧ e < 1 → e = e) (by intros; rfl)), (1, .pf (∀ (i e : Nat), i < 1 ∧ e < 1 → 0 = 0) (by intros; rfl)), (1, .pf (∀ (i e : Nat), i < 1 ∧ e < 1 → x.snd.snd e = x.snd.snd e) (by intros; rfl)), (1, .le 1 1), (1, .pf (∀ (i : Nat), i < 1 → 0 ≤ 0) (by intros; exact Nat.le_refl _)), (1, .pf (∀ (i e : Nat), i < 1 ∧ e < 0 → uP (fun (x : Nat) => Int.ofNat 0) 0 e = uP (fun (x : Nat) => Int.ofNat 0) 0 e) (by intros; rfl)), (1, .pf (∀ (i e : Nat), i < 1 ∧ e < 0 → uL (fun (x : Nat) => Int.ofNat 0) 0 e = uL (fun (x : Nat) => Int.ofNat 0) 0 e) (by intros; rfl)), (1, .pf (∀ (i e : Nat), i < 1 ∧ e < 0 → uD (fun (x : Nat) => Int.ofNat 0) 0 e = uD (fun (x : Nat) => Int.ofNat 0) 0 e) (by intros; rfl))]
    (V.need (∀ (i : Nat), i < 1 → 0 ≤ gd 1 (fun (x : Nat) => 0) i ∧ 0 ≤ gd 1 x.snd.snd i)
    (nN [(1, .pf (∀ (i e : Nat), i < 1 ∧ e < 0 → cO (fun (x : Nat) => Int.ofNat 0) 0 i e = cO (fun (x : Nat) => Int.ofNat 0) 0 i e) (by intros; rfl)), (1, .pf (∀ (i e : Nat), i < 1 ∧ e < 0 → cA (fun (x : Nat) => Int.ofNat 0) 0 i e = cA (fun (x : Nat) => Int.ofNat 0) 0 i e) (by intros; rfl)), (1, .pf (∀ (i e : Nat), i < 1 ∧ e < 0 → cB (fun (x : Nat) => Int.ofNat 0) 0 i e = cB (fun (x : Nat) => Int.ofNat 0) 0 i e) (by intros; rfl))]
    (V.need (preTk (Cf.mk (Int.ofNat 2) (Int.ofNat 3) (Int.ofNat 1) (Int.ofNat 9) (Int.ofNat 8) (Int.ofNat 1) (Int.ofNat 1) (Int.ofNat 0) (Int.ofNat 1) 1 x.fst 0 x.snd.fst (fun (e : Nat) => 0) x.snd.snd (fun (i e : Nat) => cO (fun (x : Nat) => Int.ofNat 0) 0 i e) (fun (i e : Nat) => cA (fun (x : Nat) => Int.ofNat 0) 0 i e) (fun (i e : Nat) => cB (fun (x : Nat) => Int.ofNat 0) 0 i e) (fun (e : Nat) => uP (fun (x : Nat) => Int.ofNat 0) 0 e) (fun (e : Nat) => uL (fun (x : Nat) => Int.ofNat 0) 0 e) fun (e : Nat) => uD (fun (x : Nat) => Int.ofNat 0) 0 e) (↑x_3.i : Int) (Int.ofNat 0))
    (nN [qX (lT (Cf.mk (Int.ofNat 2) (Int.ofNat 3) (Int.ofNat 1) (Int.ofNat 9) (Int.ofNat 8) (Int.ofNat 1) (Int.ofNat 1) (Int.ofNat 0) (Int.ofNat 1) 1 x.fst 0 x.snd.fst (fun (e : Nat) => 0) x.snd.snd (fun (i e : Nat) => cO (fun (x : Nat) => Int.ofNat 0) 0 i e) (fun (i e : Nat) => cA (fun (x : Nat) => Int.ofNat 0) 0 i e) (fun (i e : Nat) => cB (fun (x : Nat) => Int.ofNat 0) 0 i e) (fun (e : Nat) => uP (fun (x : Nat) => Int.ofNat 0) 0 e) (fun (e : Nat) => uL (fun (x : Nat) => Int.ofNat 0) 0 e) fun (e : Nat) => uD (fun (x : Nat) => Int.ofNat 0) 0 e) + (↑x_3.i : Int) * Int.ofNat 5 + Int.ofNat 0)]
    (V.any Int (fun (r : Int) => r = lT (Cf.mk (Int.ofNat 2) (Int.ofNat 3) (Int.ofNat 1) (Int.ofNat 9) (Int.ofNat 8) (Int.ofNat 1) (Int.ofNat 1) (Int.ofNat 0) (Int.ofNat 1) 1 x.fst 0 x.snd.fst (fun (e : Nat) => 0) x.snd.snd (fun (i e : Nat) => cO (fun (x : Nat) => Int.ofNat 0) 0 i e) (fun (i e : Nat) => cA (fun (x : Nat) => Int.ofNat 0) 0 i e) (fun (i e : Nat) => cB (fun (x : Nat) => Int.ofNat 0) 0 i e) (fun (e : Nat) => uP (fun (x : Nat) => Int.ofNat 0) 0 e) (fun (e : Nat) => uL (fun (x : Nat) => Int.ofNat 0) 0 e) fun (e : Nat) => uD (fun (x : Nat) => Int.ofNat 0) 0 e) + (↑x_3.i : Int) * Int.ofNat 5 + Int.ofNat 0) fun (x : Int) => nN [qE x, (1, .eqI 1 1), qE x_3.m.lk, qE x_3.m.lc, qE x_3.m.lo, qE x_3.m.ln, qE x_3.m.ct, (1, .eq 115 115), (1, .le 115 115), qF 115 x_3.m.g, qX (x_3.m.acc 115 (Int.ofNat 2) x (Int.ofNat 1))]
    (V.any Mm (fun (m' : Mm) => m' = x_3.m.acc 115 (Int.ofNat 2) x (Int.ofNat 1)) fun (x : Mm) => V.need (I1 (XI2.mk (IntKind.i64.wrap ((↑x_3.i : Int) + Int.ofNat 1)).toNat x))
    (V.need (9 - (IntKind.i64.wrap ((↑x_3.i : Int) + Int.ofNat 1)).toNat < 9 - x_3.i)
    (V.need (IntKind.i64.wrap ((↑x_3.i : Int) + Int.ofNat 1) = (↑(IntKind.i64.wrap ((↑x_3.i : Int) + Int.ofNat 1)).toNat : Int))
    (nN [qE x.lk, qE x.lc, qE x.lo, qE x.ln, qE x.ct, (1, .eq 115 115), (1, .le 115 115), qF 115 x.g] V.ok))))))))))
    (V.need (I2 (XI2.mk 0 x_3.m))
    (V.need (Int.ofNat 0 = (↑0 : Int))
    (nN [qE x_3.m.lk, qE x_3.m.lc, qE x_3.m.lo, qE x_3.m.ln, qE x_3.m.ct, (1, .eq 115 115), (1, .le 115 115), qF 115 x_3.m.g]
    (V.any XI2 I2 fun (x : XI2) => V.br (decide ((↑x.i : Int) < (↑lg : Int)))
    (V.br (decide ((↑x.i : Int) < Int.ofNat 12))
    (V.need (I3 (XI2.mk 0 x.m))
    (V.need (Int.ofNat 0 = (↑0 : Int))
    (nN [qE x.m.lk, qE x.m.lc, qE x.m.lo, qE x.m.ln, qE x.m.ct, (1, .eq 115 115), (1, .le 115 115), qF 115 x.m.g]
    (V.any XI2 I3 fun (x_4 : XI2) => V.br (decide ((↑x_4.i : Int) < Int.ofNat 2))
    (V.need (Int.ofNat 0 ≤ (↑x.i : Int) ∧ (↑x.i : Int) < (↑lg : Int))
    (V.need (0 < 1 ∧ 0 + (↑x.i : Int).toNat < lg)
    (V.need (0 < 1 ∧ 0 + (↑x.i : Int).toNat < lg)
    (nN [(1, .neI 3 0)]
    (V.need (Int.ofNat 0 ≤ (↑x.i : Int) ∧ (↑x.i : Int) < (↑lg : Int))
    (V.need (0 < 1 ∧ 0 + (↑x.i : Int).toNat < lg)
    (V.need (0 < 1 ∧ 0 + (↑x.i : Int).toNat < lg)
    (nN [(1, .neI 3 0), (1, .neI 9 0)]
    (V.need (Int.ofNat 20 = (↑20 : Int))
    (nN [(1, .le 1 1), (1, .pf (∀ (i : Nat), i < 1 → 1 ≤ 1) (by intros; exact Nat.le_refl _)), (1, .eqI 2 2), (1, .eqI 3 3), (1, .eqI 1 1), (1, .eqI 9 9), (1, .eqI 8 8), (1, .eqI 1 1), (1, .eqI 5 5), (1, .eqI 6 6), (1, .eqI 8 8), (1, .eqI 10 10), (1, .eqI 70 70), qE x_4.m.lk, qE x_4.m.lc, qE x_4.m.lo, qE x_4.m.ln, qE x_4.m.ct, (1, .eq 115 115), (1, .le 115 115), qF 115 x_4.m.g, qE ((↑x_4.i : Int)), qE (IntKind.i64.wrap ((g (0 + (↑x.i : Int).toNat)).tmod (Int.ofNat 3))), qE (IntKind.i64.wrap ((IntKind.u8.wrap ((g (0 + (↑x.i : Int).toNat)).tdiv (Int.ofNat 3))).tmod (Int.ofNat 9)))]
    (V.need (pPu (AP.mk yW 9 10 (NV.k 115) (NV.k 115) x_4.m) (↑x_4.i : Int) 20)
    (nN [qX (puR yW 115 (↑x_4.i : Int) (IntKind.i64.wrap ((g (0 + (↑x.i : Int).toNat)).tmod (Int.ofNat 3))) (IntKind.i64.wrap ((IntKind.u8.wrap ((g (0 + (↑x.i : Int).toNat)).tdiv (Int.ofNat 3))).tmod (Int.ofNat 9))) 20 x_4.m)]
    (V.any Rs (fun (r : Rs) => r = puR yW 115 (↑x_4.i : Int) (IntKind.i64.wrap ((g (0 + (↑x.i : Int).toNat)).tmod (Int.ofNat 3))) (IntKind.i64.wrap ((IntKind.u8.wrap ((g (0 + (↑x.i : Int).toNat)).tdiv (Int.ofNat 3))).tmod (Int.ofNat 9))) 20 x_4.m) fun (x : Rs) => V.need (I3 (XI2.mk (IntKind.i64.wrap ((↑x_4.i : Int) + Int.ofNat 1)).toNat x.m))
    (V.need (2 - (IntKind.i64.wrap ((↑x_4.i : Int) + Int.ofNat 1)).toNat < 2 - x_4.i)
    (V.need (IntKind.i64.wrap ((↑x_4.i : Int) + Int.ofNat 1) = (↑(IntKind.i64.wrap ((↑x_4.i : Int) + Int.ofNat 1)).toNat : Int))
    (nN [qE x.m.lk, qE x.m.lc, qE x.m.lo, qE x.m.ln, qE x.m.ct, (1, .eq 115 115), (1, .le 115 115), qF 115 x.m.g] V.ok))))))))))))))))
    (V.need (I2 (XI2.mk (IntKind.i64.wrap ((↑x.i : Int) + Int.ofNat 1)).toNat x_4.m))
    (V.need (min lg 12 - (IntKind.i64.wrap ((↑x.i : Int) + Int.ofNat 1)).toNat < min lg 12 - x.i)
    (V.need (IntKind.i64.wrap ((↑x.i : Int) + Int.ofNat 1) = (↑(IntKind.i64.wrap ((↑x.i : Int) + Int.ofNat 1)).toNat : Int))
    (nN [qE x_4.m.lk, qE x_4.m.lc, qE x_4.m.lo, qE x_4.m.ln, qE x_4.m.ct, (1, .eq 115 115), (1, .le 115 115), qF 115 x_4.m.g] V.ok))))))))
    (L x_1 x))
    (L x_1 x)))))))))))))))))))))))
set_option maxHeartbeats 64000000 in
theorem preTw_h {g : Nat → Int} {lg lp : Nat} {L : Cf × Nat → XI2 → V} (hL : ∀ {d z}, ¬ (lp : Int) > 400 → (∀ e, 0 ≤ z.m.g e ∧ z.m.g e ≤ 18446744073709551615) → (L d z).holds) : (preTw g lg lp (okW 9) (okW (min lg 12)) (okW 2) L).holds := by
  unfold preTw
  refine V.brI (fun _ => V.okI) fun h400 => ?_
  have h400 : ¬ (lp : Int) > 400 := of_decide_eq_false h400
  ((repeat' first | with_reducible refine nN_h rfl ?_ | with_reducible refine V.brT ?_ | with_reducible refine V.brF ?_ | with_reducible refine V.needI ?_ ?_) <;> (try first | with_reducible exact V.okI | exact rfl | exact ⟨Nat.le_refl _, rfl⟩ | exact Nat.le_refl _ | assumption | omega | trivial | decide | (intros; rfl) | (intros; trivial)))
  all_goals try exact ⟨u8_0, by decide⟩
  all_goals try exact ⟨(1, 0, fun _ => 0), Nat.le_refl _⟩
  refine V.anyI fun x0 h0 => ?_
  ((repeat' first | with_reducible refine nN_h rfl ?_ | with_reducible refine V.brT ?_ | with_reducible refine V.brF ?_ | with_reducible refine V.needI ?_ ?_) <;> (try first | with_reducible exact V.okI | exact rfl | exact ⟨Nat.le_refl _, rfl⟩ | exact Nat.le_refl _ | assumption | omega | trivial | decide | (intros; rfl) | (intros; trivial)))
  all_goals try exact ⟨Nat.le_refl _, h0⟩
  all_goals try exact ⟨Nat.zero_le _, Nat.zero_le _⟩
  all_goals try exact fun _ _ => ⟨Nat.zero_le _, Nat.zero_le _⟩
  · exact err9 (by unfold okN; dsimp only; simp only [Int.ofNat_eq_natCast]; omega) rfl rfl rfl
  · exact ⟨(_, _), is_cl _, Nat.le_refl _⟩
  refine V.anyI fun d hd => ?_
  ((repeat' first | with_reducible refine nN_h rfl ?_ | with_reducible refine V.brT ?_ | with_reducible refine V.brF ?_ | with_reducible refine V.needI ?_ ?_) <;> (try first | with_reducible exact V.okI | exact rfl | exact ⟨Nat.le_refl _, rfl⟩ | exact Nat.le_refl _ | assumption | omega | trivial | decide | (intros; rfl) | (intros; trivial)))
  refine V.anyI fun q hq => ?_
  ((repeat' first | with_reducible refine nN_h rfl ?_ | with_reducible refine V.brT ?_ | with_reducible refine V.brF ?_ | with_reducible refine V.needI ?_ ?_) <;> (try first | with_reducible exact V.okI | exact rfl | exact ⟨Nat.le_refl _, rfl⟩ | exact Nat.le_refl _ | assumption | omega | trivial | decide | (intros; rfl) | (intros; trivial)))
  · exact ⟨Nat.zero_le _, fun _ => (by decide : (0 : Int) ≤ 0 ∧ (0 : Int) ≤ 18446744073709551615)⟩
  refine V.anyI fun x hx => ?_
  obtain ⟨o1, o2⟩ := hx
  refine nN_h rfl ?_
  refine V.brI (fun hi => ?_) fun hi => ?_
  · have hi : x.i < 9 := by have : (x.i : Int) < (9 : Int) := of_decide_eq_true hi; omega
    have ei : IntKind.i64.wrap ((x.i : Int) + Int.ofNat 1) = ((x.i + 1 : Nat) : Int) := wnat (by omega)
    simp only [ei, Int.toNat_natCast, Nat.zero_add]
    ((repeat' first | with_reducible refine nN_h rfl ?_ | with_reducible refine V.brT ?_ | with_reducible refine V.brF ?_ | with_reducible refine V.needI ?_ ?_) <;> (try first | with_reducible exact V.okI | exact rfl | exact ⟨Nat.le_refl _, rfl⟩ | exact Nat.le_refl _ | assumption | omega | trivial | decide | (intros; rfl) | (intros; trivial)))
    · exact ⟨⟨show (1 : Int) ≤ 2 ∧ (2 : Int) ≤ 16 by decide, show (1 : Int) ≤ 3 ∧ (3 : Int) ≤ 64 by decide, show (1 : Int) ≤ 1 ∧ (1 : Int) ≤ 8 by decide, show (1 : Int) ≤ 9 ∧ (9 : Int) ≤ 256 by decide, show (1 : Int) ≤ 8 ∧ (8 : Int) ≤ 64 by decide, show (1 : Int) ≤ 1 ∧ (1 : Int) ≤ 64 by decide⟩, ⟨Int.natCast_nonneg _, by show (x.i : Int) < (9 : Int); omega⟩, by decide, by decide⟩
    refine V.anyI fun a ha => ?_
    ((repeat' first | with_reducible refine nN_h rfl ?_ | with_reducible refine V.brT ?_ | with_reducible refine V.brF ?_ | with_reducible refine V.needI ?_ ?_) <;> (try first | with_reducible exact V.okI | exact rfl | exact ⟨Nat.le_refl _, rfl⟩ | exact Nat.le_refl _ | assumption | omega | trivial | decide | (intros; rfl) | (intros; trivial)))
    refine V.anyI fun m hm => ?_
    ((repeat' first | with_reducible refine nN_h rfl ?_ | with_reducible refine V.brT ?_ | with_reducible refine V.brF ?_ | with_reducible refine V.needI ?_ ?_) <;> (try first | with_reducible exact V.okI | exact rfl | exact ⟨Nat.le_refl _, rfl⟩ | exact Nat.le_refl _ | assumption | omega | trivial | decide | (intros; rfl) | (intros; trivial)))
    refine ⟨by show x.i + 1 ≤ 9; omega, ?_⟩
    dsimp only
    rw [hm]
    exact fun e => Mm.ok_acc o2 (by decide) e
  ((repeat' first | with_reducible refine nN_h rfl ?_ | with_reducible refine V.brT ?_ | with_reducible refine V.brF ?_ | with_reducible refine V.needI ?_ ?_) <;> (try first | with_reducible exact V.okI | exact rfl | exact ⟨Nat.le_refl _, rfl⟩ | exact Nat.le_refl _ | assumption | omega | trivial | decide | (intros; rfl) | (intros; trivial)))
  · exact ⟨Nat.zero_le _, o2⟩
  clear hi o1
  clear o2
  refine V.anyI fun z hz => ?_
  obtain ⟨u1, u2⟩ := hz
  refine V.brI (fun hi2 => ?_) fun hi2 => ?_
  · have hi2 : z.i < lg := by have := of_decide_eq_true hi2; omega
    refine V.brI (fun h12 => ?_) fun h12 => ?_
    · have h12 : z.i < 12 := by have : (z.i : Int) < (12 : Int) := of_decide_eq_true h12; omega
      ((repeat' first | with_reducible refine nN_h rfl ?_ | with_reducible refine V.brT ?_ | with_reducible refine V.brF ?_ | with_reducible refine V.needI ?_ ?_) <;> (try first | with_reducible exact V.okI | exact rfl | exact ⟨Nat.le_refl _, rfl⟩ | exact Nat.le_refl _ | assumption | omega | trivial | decide | (intros; rfl) | (intros; trivial)))
      · exact ⟨Nat.zero_le _, u2⟩
      refine V.anyI fun v hv => ?_
      obtain ⟨v1, v2⟩ := hv
      refine V.brI (fun hv3 => ?_) fun hv3 => ?_
      · have hv3 : v.i < 2 := by have : (v.i : Int) < (2 : Int) := of_decide_eq_true hv3; omega
        have ev : IntKind.i64.wrap ((v.i : Int) + Int.ofNat 1) = ((v.i + 1 : Nat) : Int) := wnat (by omega)
        simp only [ev, Int.toNat_natCast, Nat.zero_add]
        ((repeat' first | with_reducible refine nN_h rfl ?_ | with_reducible refine V.brT ?_ | with_reducible refine V.brF ?_ | with_reducible refine V.needI ?_ ?_) <;> (try first | with_reducible exact V.okI | exact rfl | exact ⟨Nat.le_refl _, rfl⟩ | exact Nat.le_refl _ | assumption | omega | trivial | decide | (intros; rfl) | (intros; trivial)))
        all_goals try exact ⟨Int.natCast_nonneg _, by omega⟩
        all_goals try exact ⟨Nat.zero_lt_one, hi2⟩
        · exact ⟨⟨(tsW (w := v.i) (by omega)).a.s, (tsW (w := v.i) (by omega)).a.W⟩, by decide⟩
        refine V.anyI fun R hR => ?_
        ((repeat' first | with_reducible refine nN_h rfl ?_ | with_reducible refine V.brT ?_ | with_reducible refine V.brF ?_ | with_reducible refine V.needI ?_ ?_) <;> (try first | with_reducible exact V.okI | exact rfl | exact ⟨Nat.le_refl _, rfl⟩ | exact Nat.le_refl _ | assumption | omega | trivial | decide | (intros; rfl) | (intros; trivial)))
        refine ⟨by show v.i + 1 ≤ 2; omega, ?_⟩
        dsimp only
        rw [hR]
        exact puRun_ok 20 _ v2
      · have ez : IntKind.i64.wrap ((z.i : Int) + Int.ofNat 1) = ((z.i + 1 : Nat) : Int) := wnat (by omega)
        simp only [ez, Int.toNat_natCast]
        ((repeat' first | with_reducible refine nN_h rfl ?_ | with_reducible refine V.brT ?_ | with_reducible refine V.brF ?_ | with_reducible refine V.needI ?_ ?_) <;> (try first | with_reducible exact V.okI | exact rfl | exact ⟨Nat.le_refl _, rfl⟩ | exact Nat.le_refl _ | assumption | omega | trivial | decide | (intros; rfl) | (intros; trivial)))
        exact ⟨by show z.i + 1 ≤ min lg 12; omega, v2⟩
    · exact hL h400 u2
  · exact hL h400 u2
end Go.Proofs.Ytomaagmleafjeaa.Md
