/- Places in the reference's layout, whether they are there or not: what is asked. -/
import Derived.Test.YtbidbhfjnfgblaaGreatMMdLo
import Derived.Test.YtbidbhfjnfgblaaGreatMMdRk
import Derived.Test.YtbidbhfjnfgblaaGreatMW
import Derived.Test.YtbidbhfjnfgblaaGreatMV
import Derived.Test.YtbidbhfjnfgblaaGreatMEn
import Derived.Test.YtbidbhfjnfgblaaGreatMMdRmD
import Derived.Test.YtbidbhfjnfgblaaGreatMMd
set_option linter.unusedVariables false
set_option linter.unusedSimpArgs false
set_option maxRecDepth 100000
namespace Go.Proofs.YtbidbhfjnfgblaaGreat.En
open Go Go.RowKit Sx Cn Dc Ck Vc Md
noncomputable section
def vIxT (f i n w : Int) : V := verF P con0 3 4 fIx [] .nil [iv f, iv i, iv n, iv w] ⟨[], 0, fun _ => True⟩ (finI .i64 fun r => r = atM i n f w)
end
end Go.Proofs.YtbidbhfjnfgblaaGreat.En

/- Places: the conditions, printed by program. -/
set_option maxRecDepth 100000
namespace Go.Proofs.YtbidbhfjnfgblaaGreat.En
open Go Go.RowKit Sx Cn Dc Ck Vc Md

theorem vIxT_eq (f i n w : Int) : V.pr .z (vIxT f i n w) =
  V.br (decide (i < Int.ofNat 0))
    (V.need (Int.negSucc 0 = atM i n f w)
    (nN [qE (Int.negSucc 0)] V.ok))
    (V.br (decide (i ≥ n))
    (V.need (Int.negSucc 0 = atM i n f w)
    (nN [qE (Int.negSucc 0)] V.ok))
    (V.need (IntKind.i64.wrap (f + IntKind.i64.wrap (i * w)) = atM i n f w)
    (nN [qE (IntKind.i64.wrap (f + IntKind.i64.wrap (i * w)))] V.ok))) := by kernel_rfl


end Go.Proofs.YtbidbhfjnfgblaaGreat.En

/- Places, keys: said as they are: the contracts. -/
set_option maxRecDepth 100000
namespace Go.Proofs.YtbidbhfjnfgblaaGreat.En
open Go Go.RowKit Sx Cn Dc Ck Vc Md
theorem vhIxT {i n f w : Int} (h : okAtT i n f w) : VHolds (vIxT f i n w) := by
  refine VHolds.pr (vIxT_eq ..) ?_
  by_cases hi : i < 0 ∨ n ≤ i
  · have e : atM i n f w = -1 := by unfold atM; rw [if_pos hi]
    rw [e]
    (repeat' first | with_reducible exact V.okI | with_reducible refine V.brT ?_ | with_reducible refine V.brF ?_ | with_reducible refine V.brI ?_ ?_ | with_reducible refine V.anyI ?_ | with_reducible refine nN_h rfl ?_ | with_reducible refine V.needI ?_ ?_ | with_reducible intro _)
    all_goals (simp only [decide_eq_true_eq, decide_eq_false_iff_not, Int.ofNat_eq_natCast, Bool.not_eq_true', Bool.not_eq_false', ge_iff_le, gt_iff_lt, Bool.and_eq_true, Bool.or_eq_true, Bool.not_eq_true, Bool.and_eq_false_iff] at *)
    all_goals first | omega | rfl | trace_state
  · have e : atM i n f w = f + i * w := by unfold atM; rw [if_neg hi]
    obtain ⟨h1, h2, h3⟩ := h
    have h1 := h1 (by omega) (by omega)
    rw [e, w64 (show _ by omega : -9223372036854775808 ≤ i * w ∧ i * w ≤ 9223372036854775807), w64 (by omega)]
    (repeat' first | with_reducible exact V.okI | with_reducible refine V.brT ?_ | with_reducible refine V.brF ?_ | with_reducible refine V.brI ?_ ?_ | with_reducible refine V.anyI ?_ | with_reducible refine nN_h rfl ?_ | with_reducible refine V.needI ?_ ?_ | with_reducible intro _)
    all_goals (simp only [decide_eq_true_eq, decide_eq_false_iff_not, Int.ofNat_eq_natCast, Bool.not_eq_true', Bool.not_eq_false', ge_iff_le, gt_iff_lt, Bool.and_eq_true, Bool.or_eq_true, Bool.not_eq_true, Bool.and_eq_false_iff] at *)
    all_goals first | omega | rfl | trace_state
noncomputable section
def outX (k : IntKind) (p : Prop) (x : Int) : Out (SV × Hp) := .need p (.leaf (.c (.iv k x), ⟨[], 0, fun _ => True⟩))
theorem bare {f : FuncId} {args : List SV} {k : IntKind} {p : Prop} {x : Int} (h : LocalOK P f args [] 0 (.need p (.any Int (fun r => r = x) fun r => .leaf (.c (.iv k r), ⟨[], 0, fun _ => True⟩)))) : LocalOK P f args [] 0 (outX k p x) :=
  h.mono fun K hK => ⟨hK.1, ⟨_, rfl⟩, fun r hr => by subst hr; exact hK.2⟩
def xAt : List SV → Hp → Out (SV × Hp) := fun args H => match nums args with
  | some [i, n, f, w] => useP [] 0 [iv i, iv n, iv f, iv w] [] (outX .i64 (okAtT i n f w) (atM i n f w)) args H
  | _ => .bad 484
theorem xAt_ok : ContractOK P fAt xAt := contract_of_useP fun args H => by
  unfold xAt
  repeat' split
  all_goals first | exact .inl ⟨_, rfl⟩ | exact .inr ⟨_, _, _, _, _, rfl, bare (local_of_ver ConOK.nil fun h => vhAtT h)⟩
def xIx : List SV → Hp → Out (SV × Hp) := fun args H => match nums args with
  | some [f, i, n, w] => useP [] 0 [iv f, iv i, iv n, iv w] [] (outX .i64 (okAtT i n f w) (atM i n f w)) args H
  | _ => .bad 484
theorem xIx_ok : ContractOK P fIx xIx := contract_of_useP fun args H => by
  unfold xIx
  repeat' split
  all_goals first | exact .inl ⟨_, rfl⟩ | exact .inr ⟨_, _, _, _, _, rfl, bare (local_of_ver ConOK.nil fun h => vhIxT h)⟩
def outXP (d a t : Int) : Out (SV × Hp) := .leaf (.t [.c (uw (pkW d a t)), .c (.bv (pkB d a t))], ⟨[], 0, fun _ => True⟩)
theorem bareP {f : FuncId} {d a t : Int} (h : LocalOK P f [iv d, iv a, iv t] [] 0 (.need True (.any (Int × Bool) (fun p => p = (pkW d a t, pkB d a t)) fun p => .leaf (.t [.c (uw p.1), .c (.bv p.2)], ⟨[], 0, fun _ => True⟩)))) : LocalOK P f [iv d, iv a, iv t] [] 0 (outXP d a t) :=
  h.mono fun K hK => ⟨trivial, ⟨_, rfl⟩, fun r hr => by subst hr; exact hK⟩
def xPk : List SV → Hp → Out (SV × Hp) := fun args H => match nums args with
  | some [d, a, t] => useP [] 0 [iv d, iv a, iv t] [] (outXP d a t) args H
  | _ => .bad 484
theorem xPk_ok : ContractOK P fPack xPk := contract_of_useP fun args H => by
  unfold xPk
  repeat' split
  all_goals first | exact .inl ⟨_, rfl⟩ | exact .inr ⟨_, _, _, _, _, rfl, bareP (local_of_ver ConOK.nil fun _ => vhPack)⟩
theorem xRP_ok : ContractOK P fRP xPk := contract_of_useP fun args H => by
  unfold xPk
  repeat' split
  all_goals first | exact .inl ⟨_, rfl⟩ | exact .inr ⟨_, _, _, _, _, rfl, bareP (local_of_ver conPk_ok fun _ => vhRP)⟩
def xRU : List SV → Hp → Out (SV × Hp) := fun args H => match nums args with
  | some [k] => useP [] 0 [.c (uw k)] [] (.need (0 ≤ k ∧ k ≤ 18446744073709551615) (.any (Int × Int) (fun _ => True) fun p => .leaf (.t [.c (i6 p.1), .c (i6 p.2), .c (i6 (tkW k))], ⟨[], 0, fun _ => True⟩))) args H
  | _ => .bad 484
theorem xRU_ok : ContractOK P fRU xRU := contract_of_useP fun args H => by
  unfold xRU
  repeat' split
  all_goals first | exact .inl ⟨_, rfl⟩ | exact .inr ⟨_, _, _, _, _, rfl, (local_of_ver conPk_ok fun h => vhRU h).mono fun K hK => ⟨hK.1, ⟨(0, 0, _), rfl⟩, fun p hp => by have := hK.2.2 (p.1, p.2.1) trivial; rw [← hp] at this; exact this⟩⟩
end
end Go.Proofs.YtbidbhfjnfgblaaGreat.En

/- Insert of the injector, step by step with the reference's: what is asked. -/
set_option maxRecDepth 100000
namespace Go.Proofs.YtbidbhfjnfgblaaGreat.En
open Go Go.RowKit Sx Cn Dc Ck Vc Md
noncomputable section
def fMt : FuncId := 12
def tFr : TypeId := 64
def tMa : TypeId := 100
def eVw (c : Cf) (v : Ev) : Blk := .view 1 (fun _ => 1) ([c.W, c.L, c.C, c.T, c.D, c.H, c.B, c.A, c.P].map (fun x => ck1 (i6 x)) ++ [.cu, .cu] ++ (layL c).map ck1 ++ [ck1 (.ptr 1 (.k 0) (.k 0) 0 6), ck1 (.ptr 3 (.k 0) (.k 0) 0 2), ck1 (slK 4 7 v.x.n v.a.r), ck1 (slK 6 5 0 v.a.e)])
def evV : Blk := .view 1 (fun _ => 0) noEv
def z6 : SC := .ki .i64 0
def zU : SC := .ki .u64 0
def frF (kind : Int) (ln a b d i j n t u v w x : SC) : List Col := [ck1 (.ki .i64 kind), ck1 ln, ck1 z6, ck1 z6, ck1 z6, ck1 z6, ck1 a, ck1 b, ck1 d, ck1 i, ck1 j, ck1 n, ck1 t, ck1 u, ck1 v, ck1 w, ck1 x, ck1 .nils]
def maB (k n cap : Nat) : Blk := .own tMa 4 ([.slc k (.k 0) (.k 0) 18 (.k n) (.s cap), .kb false, .ki .i64 0, .ki .i64 0].map some)
def hMt (c : Cf) (v : Ev) (mb : Blk) (fc : List Col) (cf : Nat) (ln : Nat) (g : Nat → Int) : HL := [(0, eVw c v), (1, pmB 2 v.n v.a.c v.m), (2, wRow v.a.c v.n v.m), (3, clkB v.now v.dr), (4, v.x.rowV 5 v.a.k), (5, v.x.famV), (6, evV),
  (7, (eR c v).b 12 13 8 9 11), (8, wRow v.b.c v.n v.m), (9, v.x.rowV 10 v.b.k), (10, v.x.famV), (11, evV), (12, dum 1), (13, dum 3), (14, mb), (15, maB 16 1 cf), (16, .row tFr cf 1 fc), (17, .view 1 (fun _ => ln) [.ci .i64 fun _ e => g e])]
def ekK (t : Nat) (s : St) : Nat := scK (bCell (tmK t s) 23 s.H.h)
def frK (t : Nat) (s : St) : Nat := scK (bCell (tmK t s) 0 s.H.h)
def tmV (t : Nat) (s : St) : Option SV := (s.tmps[t]?).join
structure XIj where
  s : Int
  m : Mm
  now : Int
  ln : Int
  n : Int
  i : Int
  k : Int
  x : Int
def insB (d t : Int) (ln n i k x : SC) : Blk := .own 109 10 ([.kb false, .ki .i64 0, .ki .i64 0, i6 d, i6 t, ln, n, i, k, x].map some)
def insX : SC := .ifc 107 14 (.k 0) (.k 0) 0 10
def insF (d t : Int) (ln n i k x : SC) : List Col := frF 10 ln (i6 d) (i6 t) z6 i z6 n z6 zU zU k x
def laIj (d t : Int) (I : XIj → Prop) (s : St) : Option (LA XIj) := match pmBs 0 s, rmBs 1 s, find (ekK 0 s) s.H.h, find (tmK 3 s) s.H.h, find (frK 3 s) s.H.h, tmV 2 s with
  | some p, some r, some (.own tk sk (_ :: ck)), some bm, some (.row tf cf nf _), some x2 => some ⟨[(envM 0, true), (envC 0, true), (tmK 1, true), (renC 1, true), (ekK 0, true), (tmK 2, false), (tmK 3, true), (frK 3, true)],
      fun x => p x.m ++ (match r x.m with
        | [.own te se cs, b] => [.own te se (cs.set 17 (some (i6 x.now))), b]
        | l => l) ++ [.own tk sk (some (i6 x.now) :: ck), insB d t (i6 x.ln) (i6 x.n) (i6 x.i) (uw x.k) (uw x.x), bm, .row tf cf nf (insF d t (i6 x.ln) (i6 x.n) (i6 x.i) (uw x.k) (uw x.x))], [13, 2], fun x => [iv x.s, x2],
      fun s => fN (tmK 2 s) fun kx => match tmI 13 s, rdMm s.H.h (envM 0 s), ceI (ekK 0 s) 0 s.H.h, ceI kx 5 s.H.h, ceI kx 6 s.H.h, ceI kx 7 s.H.h, ceI kx 8 s.H.h, ceI kx 9 s.H.h with | some q, some y, some w, some l, some n, some i, some k, some x => some ⟨q, y.m, w, l, n, i, k, x⟩ | _, _, _, _, _, _, _, _ => none, I, fun x => (200 - x.s).toNat⟩
  | _, _, _, _, _, _ => none
def laIc (d t : Int) (J : Int → XIj → Prop) (s : St) : Option (LA XIj) := match tmI 13 s, laIj d t (fun _ => True) s with
  | some q, some ⟨pa, bl, _, tv, rd, _, mu⟩ => some ⟨pa, bl, [2], fun x => (match tv x with | [_, b] => [b] | l => l), rd, J q, mu⟩
  | _, _ => none
def conIj : Con := Con.add fRA cRA (Con.add fDi cDi (Con.add fSm cSm (Con.add fAt xAt (Con.add fIx xIx (Con.add fPack xPk (Con.add fRP xPk (conU con0)))))))
theorem conIj_ok : ConOK P conIj := .add cRA_ok (.add cDi_ok (.add cSm_ok (.add xAt_ok (.add xIx_ok (.add xPk_ok (.add xRP_ok (conU_ok ConOK.nil)))))))
def argMt (x : SC) (ln lc : Nat) : List SV := [.c (.ptr 0 (.k 0) (.k 0) 0 26), .c (.ptr 7 (.k 0) (.k 0) 0 21), .c x, .c (.ptr 15 (.k 0) (.k 0) 0 4), .c (slK 17 1 ln lc), .c (.ki .i64 200)]
def vIj (c : Cf) (v : Ev) (d t : Int) (cf ln lc : Nat) (g : Nat → Int) (I : XIj → Prop) (J1 J2 : Int → XIj → Prop) : V := verF P conIj 6 8 fMt [] (.loop XIj [.renT 2] (laIj d t I) (.cut 16 XIj (laIc d t J1) .nil (.cut 18 XIj (laIc d t J2) .nil (.cut 21 XIj (laIc d t J2) .nil .nil))) .nil) (argMt insX ln lc) ⟨hMt c v (insB d t (.ki .i64 1) z6 z6 zU zU) (insF d t (.ki .i64 1) z6 z6 zU zU) cf ln g, 18, fun _ => True⟩ (yesF 18)
end
end Go.Proofs.YtbidbhfjnfgblaaGreat.En

/- Remove of the injector, step by step with the reference's: what is asked. -/
set_option maxRecDepth 100000
namespace Go.Proofs.YtbidbhfjnfgblaaGreat.En
open Go Go.RowKit Sx Cn Dc Ck Vc Md
noncomputable section
def eVo (c : Cf) (v : Ev) : Blk := .own 43 26 ([c.W, c.L, c.C, c.T, c.D, c.H, c.B, c.A, c.P].map (fun x => some (i6 x)) ++ [none, none] ++ (layL c).map some ++ [some (.ptr 1 (.k 0) (.k 0) 0 6), some (.ptr 3 (.k 0) (.k 0) 0 2), some (slK 4 7 v.x.n v.a.r), some (slK 6 5 0 v.a.e)])
def hMo (c : Cf) (v : Ev) (mb : Blk) (fc : List Col) (cf : Nat) (ln : Nat) (g : Nat → Int) : HL := [(0, eVo c v), (1, pmB 2 v.n v.a.c v.m), (2, wRow v.a.c v.n v.m), (3, clkB v.now v.dr), (4, v.x.rowV 5 v.a.k), (5, v.x.famV), (6, evB 0 v.a.e),
  (7, (eR c v).b 12 13 8 9 11), (8, wRow v.b.c v.n v.m), (9, v.x.rowV 10 v.b.k), (10, v.x.famV), (11, evB 0 v.b.e), (12, dum 1), (13, dum 3), (14, mb), (15, maB 16 1 cf), (16, .row tFr cf 1 fc), (17, .view 1 (fun _ => ln) [.ci .i64 fun _ e => g e])]
structure XRj where
  s : Int
  m : Mm
  now : Int
  ln : Int
  n : Int
  i : Int
  c : Int
  x : Int
  y : Int
  z : Int
  l : El
  na : Nat
  nb : Nat
def remB (w : Int) (ln n i c x y z : SC) : Blk := .own 106 11 ([.kb false, .ki .i64 0, .ki .i64 0, i6 w, ln, n, i, c, x, y, z].map some)
def remX : SC := .ifc 102 14 (.k 0) (.k 0) 0 11
def remF (w : Int) (ln n i c x y z : SC) : List Col := frF 11 ln (i6 w) z6 z6 i c n z6 x y z zU
def renE (t : Nat) (s : St) : Nat := scK (bCell (tmK t s) 20 s.H.h)
def evR (cap : Nat) (l : El) : Blk := .row 156 cap l.n l.v.cols
def rdRj (s : St) : Option XRj := fN (tmK 2 s) fun kx => match tmI 13 s, rdMm s.H.h (envM 0 s), ceI (ekK 0 s) 0 s.H.h, ceI kx 4 s.H.h, ceI kx 5 s.H.h, ceI kx 6 s.H.h, ceI kx 7 s.H.h, ceI kx 8 s.H.h, ceI kx 9 s.H.h, ceI kx 10 s.H.h, rdEl 0 s, ceS (tmK 1 s) 20 s.H.h with
  | some q, some y, some now, some l, some n, some i, some c, some a, some b, some z, some (e, na), some (_, _, nb) => some ⟨q, y.m, now, l, n, i, c, a, b, z, e, na, nb⟩
  | _, _, _, _, _, _, _, _, _, _, _, _ => none
def paRj : List ((St → Nat) × Bool) := [(envM 0, true), (envC 0, true), (tmK 1, true), (renC 1, true), (ekK 0, true), (tmK 2, false), (tmK 3, true), (frK 3, true), (tmK 0, true), (envE 0, false), (renE 1, false)]
def blRj (w : Int) (s : St) : Option ((SC → XRj → List Blk) × SV) := match pmBs 0 s, rmBs 1 s, find (ekK 0 s) s.H.h, find (tmK 3 s) s.H.h, find (frK 3 s) s.H.h, tmV 2 s, find (tmK 0 s) s.H.h with
  | some p, some r, some (.own tk sk (_ :: ck)), some bm, some (.row tf cf nf _), some x2, some (.own t0 s0 c0) => fN (envE 0 s) fun ke => fN (renE 1 s) fun kr => some (
      fun ln x => p x.m ++ (match r x.m with
        | [.own te se cs, b] => [.own te se ((cs.set 17 (some (i6 x.now))).set 20 (some (.slc kr (.k 0) (.k 0) 5 (.s x.l.n) (.s x.nb)))), b]
        | l => l) ++ [.own tk sk (some (i6 x.now) :: ck), remB w ln (i6 x.n) (i6 x.i) (i6 x.c) (uw x.x) (uw x.y) (uw x.z), bm, .row tf cf nf (remF w ln (i6 x.n) (i6 x.i) (i6 x.c) (uw x.x) (uw x.y) (uw x.z)),
          .own t0 s0 (c0.set 25 (some (.slc ke (.k 0) (.k 0) 5 (.s x.l.n) (.s x.na)))), evR x.na x.l, evR x.nb x.l], x2)
  | _, _, _, _, _, _, _ => none
def laRj (w : Int) (I : Nat × XRj → Prop) (s : St) : Option (LA (Nat × XRj)) := match blRj w s with
  | some (b, x2) => some ⟨paRj, fun x => b (.ki .i64 (Int.ofNat (x.1 + 1))) x.2, [13, 2], fun x => [iv x.2.s, x2], fun s => match rdRj s with | some x => some ((x.ln - 1).toNat, x) | none => none, I, fun x => (200 - x.2.s).toNat⟩
  | none => none
def laRc (w : Int) (J : Int → XRj → Prop) (s : St) : Option (LA XRj) := match tmI 13 s, blRj w s with
  | some q, some (b, x2) => some ⟨paRj, fun x => b (i6 x.ln) x, [2], fun x => [x2], rdRj, J q, fun x => 0⟩
  | _, _ => none
def conRj : Con := Con.add fRU xRU conIj
theorem conRj_ok : ConOK P conRj := .add xRU_ok conIj_ok
def avRj (w : Int) (I : Nat × XRj → Prop) (J1 J2 : Int → XRj → Prop) : AV := .loopS 8 XRj [.renT 2, .ren (envE 0), .ren (renE 1)] (laRj w I) (.cut 16 XRj (laRc w J1) .nil (.cut 18 XRj (laRc w J2) .nil (.cut 21 XRj (laRc w J2) .nil .nil))) .nil
def vRj (c : Cf) (v : Ev) (w : Int) (cf ln lc : Nat) (g : Nat → Int) (I : Nat × XRj → Prop) (J1 J2 : Int → XRj → Prop) : V := verF P conRj 6 8 fMt [] (avRj w I J1 J2) (argMt remX ln lc) ⟨hMo c v (remB w (.ki .i64 1) z6 z6 z6 zU zU zU) (remF w (.ki .i64 1) z6 z6 z6 zU zU zU) cf ln g, 18, fun _ => True⟩ (yesF 18)
def vRjO (j : Nat) (c : Cf) (v : Ev) (w : Int) (cf ln lc : Nat) (g : Nat → Int) (I : Nat × XRj → Prop) (J1 J2 : Int → XRj → Prop) : V := verO 8 1 j P conRj 6 8 fMt [] (avRj w I J1 J2) (argMt remX ln lc) ⟨hMo c v (remB w (.ki .i64 1) z6 z6 z6 zU zU zU) (remF w (.ki .i64 1) z6 z6 z6 zU zU zU) cf ln g, 18, fun _ => True⟩ (yesF 18)
end
end Go.Proofs.YtbidbhfjnfgblaaGreat.En

/- Match for Insert and Remove of the injector: the contract's answer. -/
set_option maxRecDepth 100000
namespace Go.Proofs.YtbidbhfjnfgblaaGreat.En
open Go Go.RowKit Sx Cn Dc Ck Vc Md
def okMi (c : Cf) (v : Ev) : Prop := c.H ≤ 1000000 ∧ 4 ≤ v.n ∧ v.n ≤ 1000000 ∧ okRk v.x ∧ v.n ≤ v.a.c ∧ v.n ≤ v.b.c ∧ okMw 2000000 v.m
noncomputable section
def rdMt (ke kr : Nat) (h : HL) : Option (Cf × Ev × List Nat × List Nat) := fN (scK (bCell ke 22 h)) fun km => fN (scK (bCell ke 23 h)) fun kk => match ceS ke 24 h, ceS ke 25 h, rdRv kr h with
  | some (e4, xn, xr), some (e5, _, er), some (r, [_, r1, kP, kU, r4, r5]) => match rdMm h km, rdRk e4 xn h, kidK r4 h with
    | some y, some (x, f1, c1), some (f2, c2) => some (r.c, ⟨r.c, y.len.v, y.m, x, r.now, r.dr, ⟨y.cap.v, xr, c1, er⟩, ⟨r.cap, r.rc, c2, r.nc⟩⟩, [ke, km, y.kc, kk, e4, f1, e5, kr, r1, r4, f2, r5], [kP, kU])
    | _, _, _ => none
  | _, _, _ => none
def frAB (k : Nat) (h : HL) : Option (Int × Int × Int × Nat) := match find k h with
  | some (.row _ c _ (.ck [.ki _ n] :: _ :: _ :: _ :: _ :: _ :: .ck [a] :: .ck [b] :: _)) => match numC a, numC b with
    | some x, some y => some (n, x, y, c)
    | _, _ => none
  | _ => none
def cMi : List SV → Hp → Out (SV × Hp) := fun args H => match args with
  | [.c (.ptr ke _ _ _ _), .c (.ptr kr _ _ _ _), .c (.ifc t kx _ _ _ _), .c (.ptr ky _ _ _ _), .c (.slc kn _ _ _ ln lc), _] => fN ke fun ke => fN kr fun kr => fN kx fun kx => fN ky fun ky => fN kn fun kn => fN (scK (bCell ky 0 H.h)) fun kf => match rdMt ke kr H.h, frAB kf H.h, rowW kn H.h with
    | some (c, v, σ, τ), some (n, d, u, cf), some g => match n.toNat with
      | 10 => useP (σ ++ τ ++ [kx, ky, kf, kn]) 18 (argMt insX ln.v lc.v) (hMt c v (insB d u (.ki .i64 1) z6 z6 zU zU) (insF d u (.ki .i64 1) z6 z6 zU zU) cf ln.v g) (yesO 18 (okMi c v)) args H
      | 11 => useP (σ ++ τ ++ [kx, ky, kf, kn]) 18 (argMt remX ln.v lc.v) (hMo c v (remB d (.ki .i64 1) z6 z6 z6 zU zU zU) (remF d (.ki .i64 1) z6 z6 z6 zU zU zU) cf ln.v g) (yesO 18 (okMi c v)) args H
      | _ => .bad 480
    | _, _, _ => .bad 482
  | _ => .bad 483
end
end Go.Proofs.YtbidbhfjnfgblaaGreat.En

/- Insert, step by step: the conditions, printed by program. -/
set_option maxRecDepth 100000
namespace Go.Proofs.YtbidbhfjnfgblaaGreat.En
open Go Go.RowKit Sx Cn Dc Ck Vc Md

abbrev qIj0 (a0 : Rk) (l : List (Nat × P0)) : List (Nat × P0) := (1, .pf (∀ (i e : Nat), i < 1 ∧ e < a0.n → e = e) (by intros; rfl)) :: (1, .pf (∀ (i e : Nat), i < 1 ∧ e < a0.n → a0.kl e = a0.kl e) (by intros; rfl)) :: l
abbrev qIj1 (a0 : Ev) (a1 : Mm) (k : V) : V := V.need (a0.n ≤ a0.n ∧ a0.n ≤ a0.a.c) (nN [(1, .pf (∀ (i e : Nat), i = 0 ∧ e < a0.n → a1.g e = a1.g e) (by intros; rfl))] k)
abbrev qIj2 (a0 : Rk) (l : List (Nat × P0)) : List (Nat × P0) := qL a0.n :: (1, .pf (∀ (i : Nat), i < a0.n → a0.kl i ≤ a0.kl i) (by intros; exact Nat.le_refl _)) :: l
abbrev qIj3 (l : List (Nat × P0)) : List (Nat × P0) := (1, .le 0 0) :: (1, .pf (∀ (i : Nat), i < 0 → 0 ≤ 0) (by intros; exact Nat.le_refl _)) :: l
abbrev qIj4 (l : List (Nat × P0)) : List (Nat × P0) := (1, .le 1 1) :: (1, .pf (∀ (i : Nat), i < 1 → 1 ≤ 1) (by intros; exact Nat.le_refl _)) :: l
abbrev qIj5 (l : List (Nat × P0)) : List (Nat × P0) := (1, .le 0 1) :: (1, .pf (∀ (i : Nat), i < 0 → 0 ≤ 0) (by intros; exact Nat.le_refl _)) :: l
abbrev qIj6 (a0 : XIj) (a1 : Mm) (a2 : Ev) (a3 : Cf) (l : List (Nat × P0)) : List (Nat × P0) := qE a0.k :: qE (a1.val a2.n (atM (IntKind.i64.wrap ((IntKind.i64.wrap (a0.i - Int.ofNat 1)).tdiv (Int.ofNat 2))) a3.H (Int.ofNat 4) (Int.ofNat 1))) :: l
abbrev qIj7 (a0 : Mm) (l : List (Nat × P0)) : List (Nat × P0) := qE a0.lk :: qE a0.lc :: qE a0.lo :: qE a0.ln :: qE a0.ct :: l
abbrev qIj8 (a0 : Ev) (l : List (Nat × P0)) : List (Nat × P0) := qE a0.b.r :: (1, .eq 0 0) :: qE a0.b.e :: l
abbrev qIj9 (a0 : Ev) (l : List (Nat × P0)) : List (Nat × P0) := qE a0.n :: qE a0.a.c :: l
abbrev qIj10 (a0 a1 : Mm) (k : V) : V := V.need (a0.lk = a1.lk) (V.need (a0.lc = a1.lc) (V.need (a0.lo = a1.lo) (V.need (a0.ln = a1.ln) (V.need (a0.ct = a1.ct) k))))
abbrev qIj11 (a0 : Rk) (l : List (Nat × P0)) : List (Nat × P0) := (1, .le 1 1) :: (1, .pf (∀ (i : Nat), i < 1 → a0.n ≤ a0.n) (by intros; exact Nat.le_refl _)) :: (1, .pf (∀ (i e : Nat), i < 1 ∧ e < a0.n → a0.p e = a0.p e) (by intros; rfl)) :: (1, .pf (∀ (i e : Nat), i < 1 ∧ e < a0.n → a0.pa e = a0.pa e) (by intros; rfl)) :: (1, .pf (∀ (i e : Nat), i < 1 ∧ e < a0.n → a0.pc e = a0.pc e) (by intros; rfl)) :: (1, .pf (∀ (i e : Nat), i < 1 ∧ e < a0.n → a0.lf e = a0.lf e) (by intros; rfl)) :: (1, .pf (∀ (i e : Nat), i < 1 ∧ e < a0.n → a0.wt e = a0.wt e) (by intros; rfl)) :: l
abbrev qIj12 (a0 : XIj) (a1 : Cf) (k : V) : V := V.need (okAtT (IntKind.i64.wrap ((IntKind.i64.wrap (a0.i - Int.ofNat 1)).tdiv (Int.ofNat 2))) a1.H (Int.ofNat 4) (Int.ofNat 1)) (nN [qE (atM (IntKind.i64.wrap ((IntKind.i64.wrap (a0.i - Int.ofNat 1)).tdiv (Int.ofNat 2))) a1.H (Int.ofNat 4) (Int.ofNat 1))] k)
abbrev qIj13 (a0 : Ev) (l : List (Nat × P0)) : List (Nat × P0) := qE a0.n :: qE a0.b.c :: l
abbrev qIj14 (a0 : Ev) (a1 : Mm) (l : List (Nat × P0)) : List (Nat × P0) := qL a0.n :: qF a0.n a1.g :: l
abbrev qIj15 (a0 : Ev) (a1 : Mm) (l : List (Nat × P0)) : List (Nat × P0) := qIj9 a0 (qIj7 a1 l)
abbrev qIj16 (a0 : XIj) (a1 : Ev) (l : List (Nat × P0)) : List (Nat × P0) := qE a0.now :: qE a1.dr :: l
abbrev qIj17 (a0 : XIj) (k : V) : V := V.need ((a0.ln == Int.ofNat 1) = false) (V.need ((a0.ln == Int.ofNat 2) = false) k)
abbrev qIj18 (a0 : Ev) (l : List (Nat × P0)) : List (Nat × P0) := qIj8 a0 (qE a0.b.c :: l)
abbrev qIj19 (a0 : Rk) (l : List (Nat × P0)) : List (Nat × P0) := (1, .pf (∀ (i e : Nat), i < 1 ∧ e < a0.n → a0.st e = a0.st e) (by intros; rfl)) :: (1, .le 1 1) :: (1, .pf (∀ (i : Nat), i < 1 → 0 ≤ 0) (by intros; exact Nat.le_refl _)) :: (5, .pf (∀ (i e : Nat), i < 1 ∧ e < 0 → Int.ofNat 0 = Int.ofNat 0) (by intros; rfl)) :: l
abbrev qIj20 (a0 : Ev) (a1 : Mm) (l : List (Nat × P0)) : List (Nat × P0) := qIj15 a0 a1 (qE a0.a.c :: qIj14 a0 a1 l)
abbrev qIj21 (l : List (Nat × P0)) : List (Nat × P0) := (3, .lt 0 1) :: (7, .lt2 0 1 0 1) :: l
abbrev qIj22 (a0 : Cf) (a1 : Ev) (l : List (Nat × P0)) : List (Nat × P0) := qE a0.W :: qE a0.L :: qE a0.C :: qE a0.T :: qE a0.D :: qE a0.H :: qE a0.B :: qE a0.A :: qE a0.P :: qE a0.nP :: qE a0.rc :: qE a0.nU :: qE a0.cu :: qIj13 a1 l
abbrev qIj23 (a0 : XIj) (a1 : Int) (a2 : Mm) (a3 : Ev) (a4 : Int) (l : List (Nat × P0)) : List (Nat × P0) := qE a0.n :: qE (pkW a1 (IntKind.i64.wrap (a2.val a3.n (Int.ofNat 3))) a4) :: l
abbrev qIj24 (a0 : Ev) (a1 : Mm) (k : V) : V := nN [(1, .le 1 1)] (qIj1 a0 a1 k)
abbrev qIj25 (a0 : Ev) (a1 : Mm) (a2 : Cf) (l : List (Nat × P0)) : List (Nat × P0) := qIj20 a0 a1 (qIj22 a2 a0 l)
abbrev qIj26 (a0 : XIj) (l : List (Nat × P0)) : List (Nat × P0) := qE a0.n :: qE (IntKind.i64.wrap ((IntKind.i64.wrap (a0.i - Int.ofNat 1)).tdiv (Int.ofNat 2))) :: l
abbrev qIj27 (a0 : XIj) (l : List (Nat × P0)) : List (Nat × P0) := qE (IntKind.i64.wrap ((IntKind.i64.wrap (a0.i - Int.ofNat 1)).tdiv (Int.ofNat 2))) :: qE a0.n :: l
abbrev qIj28 (a0 : Ev) (a1 : Mm) (l : List (Nat × P0)) : List (Nat × P0) := qIj18 a0 (qIj14 a0 a1 l)
abbrev qIj29 (a0 : XIj) (l : List (Nat × P0)) : List (Nat × P0) := qE a0.k :: qE a0.x :: l
abbrev qIj30 (a0 : Mm) (a1 : Ev) (a2 : XIj) (a3 : Cf) (l : List (Nat × P0)) : List (Nat × P0) := qIj5 (qX (a0.acc a1.n (Int.ofNat 1) (atM (IntKind.i64.wrap ((IntKind.i64.wrap (a2.i - Int.ofNat 1)).tdiv (Int.ofNat 2))) a3.H (Int.ofNat 4) (Int.ofNat 1)) (a0.val a1.n (atM (IntKind.i64.wrap ((IntKind.i64.wrap (a2.i - Int.ofNat 1)).tdiv (Int.ofNat 2))) a3.H (Int.ofNat 4) (Int.ofNat 1)))) :: l)
abbrev qIj31 (a0 : Int → XIj → Prop) (a1 : XIj) (a2 : Mm) (a3 : XIj) (a4 : Ev) (a5 : Cf) (k : V) : V := V.need (a0 a1.s (XIj.mk a1.s a2 a3.now a3.ln a3.n a3.i a3.k a3.x)) (nN (qIj25 a4 a2 a5 []) k)
abbrev qIj32 (a0 : Nat) (k : V) : V := V.need (Int.ofNat 0 ≤ Int.ofNat 0 ∧ Int.ofNat 0 ≤ Int.ofNat 0 ∧ Int.ofNat 0 ≤ (↑a0 : Int)) (nN [(12, .lt2 0 1 0 1)] k)
abbrev qIj33 (l : List (Nat × P0)) : List (Nat × P0) := (3, .lt 0 1) :: qIj4 l
abbrev qIj34 (a0 : Mm) (a1 : Ev) (l : List (Nat × P0)) : List (Nat × P0) := qIj5 (qX (a0.acc a1.n (Int.ofNat 6) (Int.ofNat 3) (IntKind.u64.wrap (a0.val a1.n (Int.ofNat 3) + Int.ofNat 1))) :: l)
abbrev qIj35 (a0 : XIj) (a1 : Ev) (a2 : Rk) (l : List (Nat × P0)) : List (Nat × P0) := qIj16 a0 a1 (qE a2.n :: l)
abbrev qIj36 (a0 : Mm) (a1 : XIj) (a2 : Ev) (a3 : Rk) (l : List (Nat × P0)) : List (Nat × P0) := qIj7 a0 (qIj35 a1 a2 a3 (qIj28 a2 a0 l))
abbrev qIj37 (a0 : Nat) (l : List (Nat × P0)) : List (Nat × P0) := qE a0 :: qE a0 :: (1, .le 1 1) :: l
abbrev qIj38 (a0 : XIj) (a1 : Cf) (k : V) : V := V.need (okAtT a0.i a1.H (Int.ofNat 4) (Int.ofNat 1)) (nN [(3, .lt2 0 1 0 1), qE (atM a0.i a1.H (Int.ofNat 4) (Int.ofNat 1))] k)
abbrev qIj39 (a0 : XIj → Prop) (a1 : XIj) (a2 : Mm) (a3 : XIj) (k : V) : V := V.need (a0 (XIj.mk (IntKind.i64.wrap (a1.s + Int.ofNat 1)) a2 a3.now a3.ln a3.n a3.i a3.k a3.x)) (V.need ((Int.ofNat 200 - IntKind.i64.wrap (a1.s + Int.ofNat 1)).toNat < (Int.ofNat 200 - a1.s).toNat) k)
abbrev qIj40 (l : List (Nat × P0)) : List (Nat × P0) := (7, .lt2 0 1 0 1) :: qIj21 ((9, .lt 0 1) :: l)
abbrev qIj41 (a0 : XIj) (k : V) : V := V.need ((a0.ln == Int.ofNat 1) = false) (V.need ((a0.ln == Int.ofNat 2) = true) k)
abbrev qIj42 (a0 : Ev) (a1 a2 : Mm) (a3 : Rk) (a4 : XIj) (k : V) : V := nN (qIj8 a0 [(1, .le 1 1)]) (V.need (a0.n ≤ a0.n ∧ a0.n ≤ a0.b.c) (V.need (∀ (i e : Nat), i = 0 ∧ e < a0.n → a1.g e = a2.g e) (nN (qIj11 a3 (qIj0 a3 ((1, .pf (∀ (i e : Nat), i < 1 ∧ e < a3.n → a0.b.k e = a0.b.k e) (by intros; rfl)) :: qIj19 a3 (qIj2 a3 ((1, .pf (∀ (i e : Nat), i < a3.n ∧ e < a3.kl i → a3.kd i e = a3.kd i e) (by intros; rfl)) :: qIj2 a3 [(1, .pf (∀ (i e : Nat), i < a3.n ∧ e < a3.kl i → a3.kd i e = a3.kd i e) (by intros; rfl))]))))) (V.need (okCm (Cm.mk a0.n a2 a4.now (Rk.mk a3.n a3.p a3.pa a3.pc a3.lf a3.wt a3.kl a3.kd fun (i : Nat) => a3.st i) 0 (Evs.mk (fun (i : Nat) => Int.ofNat 0) (fun (i : Nat) => Int.ofNat 0) (fun (i : Nat) => Int.ofNat 0) (fun (i : Nat) => Int.ofNat 0) fun (i : Nat) => Int.ofNat 0))) k))))
abbrev qIj43 (a0 : XIj) (a1 : Cf) (l : List (Nat × P0)) : List (Nat × P0) := qE (IntKind.i64.wrap ((IntKind.i64.wrap (a0.i - Int.ofNat 1)).tdiv (Int.ofNat 2))) :: qE a1.H :: l
abbrev qIj44 (a0 : XIj) (k : V) : V := qIj17 a0 (V.need ((a0.ln == Int.ofNat 3) = false) k)
abbrev qIj45 (a0 : Ev) (a1 : Mm) (a2 : Cf) (a3 : Mm) (k : V) : V := nN (qIj25 a0 a1 a2 []) (qIj10 a3 a1 k)
abbrev qIj46 (a0 : Rk) (a1 : Ev) (a2 : Mm) (a3 : XIj) (a4 : Mm) (k : V) : V := nN (qE a0.n :: qE a1.a.r :: (1, .eq 0 0) :: qE a1.a.e :: qIj15 a1 a2 []) (qIj24 a1 a2 (nN (qE a3.now :: qIj11 a0 (qIj0 a0 ((1, .pf (∀ (i e : Nat), i < 1 ∧ e < a0.n → a1.a.k e = a1.a.k e) (by intros; rfl)) :: qIj19 a0 (qIj13 a1 [])))) (qIj10 a4 a2 (nN [qE a3.now, qE a0.n] k))))
abbrev qIj47 (a0 : Rk) (a1 : Ev) (a2 : Mm) (a3 : XIj) (a4 a5 : Mm) (k : V) : V := qIj46 a0 a1 a2 a3 a4 (qIj42 a1 a4 a2 a0 a3 (nN ((3, .lt2 0 1 0 1) :: qIj9 a1 [qE a2.ct, (1, .le 1 1)]) (qIj1 a1 a2 (V.br (decide (a2.ct > IntKind.i64.wrap (a5.ct + Int.ofNat 1))) (V.need True (V.need (false = true) V.ok)) k))))
abbrev qIj48 (a0 : XIj) (a1 : Nat) (l : List (Nat × P0)) : List (Nat × P0) := qIj29 a0 (qIj37 a1 l)
abbrev qIj49 (a0 : XIj) (a1 : Nat) (k : V) : V := V.need (Int.ofNat 0 ≤ a0.s ∧ a0.s < (↑a1 : Int)) (V.need (0 < 1 ∧ 0 + a0.s.toNat < a1) (V.need (0 < 1 ∧ 0 + a0.s.toNat < a1) k))
abbrev qIj50 (a0 : Int → XIj → Prop) (a1 : XIj) (a2 a3 : Mm) (a4 : Ev) (a5 : Cf) (a6 : Mm) (k : V) : V := V.need (a0 a1.s (XIj.mk a1.s a2 a1.now (Int.ofNat 4) a1.n a1.i a1.k (a3.val a4.n (atM (IntKind.i64.wrap ((IntKind.i64.wrap (a1.i - Int.ofNat 1)).tdiv (Int.ofNat 2))) a5.H (Int.ofNat 4) (Int.ofNat 1))))) (qIj45 a4 a2 a5 a6 k)
abbrev qIj51 (a0 : Int → XIj → Prop) (a1 : XIj) (a2 a3 : Mm) (a4 : Ev) (a5 : Cf) (a6 : Mm) (k : V) : V := V.need (a0 a1.s (XIj.mk a1.s a2 a1.now (Int.ofNat 5) a1.n a1.i a1.k (a3.val a4.n (atM (IntKind.i64.wrap ((IntKind.i64.wrap (a1.i - Int.ofNat 1)).tdiv (Int.ofNat 2))) a5.H (Int.ofNat 4) (Int.ofNat 1))))) (qIj45 a4 a2 a5 a6 k)
abbrev qIj52 (a0 : XIj) (l : List (Nat × P0)) : List (Nat × P0) := qE a0.i :: qE a0.n :: qIj29 a0 l
abbrev qIj53 (a0 : XIj) (a1 : Nat) (l : List (Nat × P0)) : List (Nat × P0) := qE a0.i :: qIj48 a0 a1 l
abbrev qIj54 (a0 : XIj) (a1 : Ev) (a2 : Rk) (a3 a4 : Mm) (k : V) : V := nN (qIj35 a0 a1 a2 (qIj18 a1 [qL a1.n])) (V.need (∀ (e : Nat), e < a1.n → a3.g e = a4.g e) (nN (qIj16 a0 a1 []) k))
abbrev qIj55 (a0 : Ev) (a1 : Mm) (a2 : Cf) (a3 : Mm) (a4 : XIj) (a5 : Rk) (k : V) : V := qIj45 a0 a1 a2 a3 (qIj54 a4 a0 a5 a3 a1 k)
abbrev qIj56 (a0 : Mm) (a1 : XIj) (a2 : Ev) (a3 : Rk) (l : List (Nat × P0)) : List (Nat × P0) := qIj36 a0 a1 a2 a3 (qIj16 a1 a2 l)
abbrev qIj57 (a0 : Mm) (a1 : XIj) (a2 : Ev) (a3 : Rk) (k : V) : V := nN (qIj36 a0 a1 a2 a3 (qIj3 (qIj3 [(1, .le 0 1)]))) (V.need (∀ (i : Nat), i < 0 → 0 ≤ a3.n) k)
abbrev qIj58 (a0 : Int) (a1 : Mm) (a2 : Ev) (l : List (Nat × P0)) : List (Nat × P0) := qE a0 :: qE (IntKind.i64.wrap (a1.val a2.n (Int.ofNat 3))) :: l
abbrev qIj59 (a0 : XIj) (a1 : Nat) (l : List (Nat × P0)) : List (Nat × P0) := qE a0.ln :: qE a0.n :: qIj53 a0 a1 (qE a0.ln :: l)
abbrev qIj60 (a0 : Cf) (a1 : Ev) (l : List (Nat × P0)) : List (Nat × P0) := (1, .eqI 0 0) :: qIj22 a0 a1 l
abbrev qIj61 (l : List (Nat × P0)) : List (Nat × P0) := (1, .eqI 3 3) :: (1, .eqI 1 1) :: l
abbrev qIj62 (a0 : Rk) (a1 : Ev) (a2 : Mm) (a3 : XIj) (a4 a5 : Mm) (a6 : Int → XIj → Prop) (k : V) : V := qIj47 a0 a1 a2 a3 a4 a5 (V.need (a6 a3.s (XIj.mk a3.s a2 a3.now (Int.ofNat 3) a3.n (IntKind.i64.wrap ((IntKind.i64.wrap (a3.i - Int.ofNat 1)).tdiv (Int.ofNat 2))) a3.k a3.x)) k)
abbrev qIj63 (a0 : Rk) (a1 : Ev) (a2 : Mm) (a3 : XIj) (a4 a5 : Mm) (a6 : Int → XIj → Prop) (k : V) : V := qIj47 a0 a1 a2 a3 a4 a5 (V.need (a6 a3.s (XIj.mk a3.s a2 a3.now (Int.ofNat 5) a3.n (IntKind.i64.wrap ((IntKind.i64.wrap (a3.i - Int.ofNat 1)).tdiv (Int.ofNat 2))) a3.k a3.x)) k)
set_option maxHeartbeats 8000000 in
theorem vIj_eq (c : Cf) (v : Ev) (d t : Int) (cf ln lc : Nat) (g : Nat → Int) (I : XIj → Prop) (J1 J2 : Int → XIj → Prop) : V.pr (.b (.b (.b (.b (.t (.t .z)) (.t (.f .z))) (.b (.b (.f (.t (.t .z))) (.b (.f (.t (.f .z))) (.f (.t (.f .z))))) (.b (.b (.f (.f (.t .z))) (.f (.f (.t .z)))) (.b (.b (.f (.f (.f (.t .z)))) (.f (.f (.f (.t .z))))) (.b (.f (.f (.f (.f (.t .z))))) (.f (.f (.f (.f (.f .z)))))))))) .z) .z) (vIj c v d t cf ln lc g I J1 J2) =
  nN [(7, .lt2 0 1 0 1)] (V.need (I (XIj.mk (Int.ofNat 0) v.m v.now (Int.ofNat 1) (Int.ofNat 0) (Int.ofNat 0) (Int.ofNat 0) (Int.ofNat 0))) (nN ((1, .eqI 0 0) :: qIj25 v v.m c (qIj7 v.m (qE v.now :: qE v.dr :: qE v.x.n :: qIj28 v v.m (qE v.now :: qE v.dr :: qE d :: qE t :: (1, .eqI 1 1) :: (4, .eqI 0 0) :: qIj37 cf [(1, .eqI 1 1), qE d, qE t, (4, .eqI 0 0)])))) (V.any XIj I fun (x : XIj) => V.br (decide (x.s < Int.ofNat 200))
 (nN (qIj25 v x.m c (qIj56 x.m x v v.x (qE d :: qE t :: qIj59 x cf (qE d :: qE t :: qIj52 x [])))) (V.any Bool (fun (x : Bool) => True) fun (x_1 : Bool) => V.br x_1
 (nN ((9, .lt2 0 1 0 1) :: qIj9 v [qE x.m.ct]) (qIj24 v x.m (nN [(16, .lt2 0 1 0 1)] (V.br (x.ln == Int.ofNat 1)
 (nN ((1, .eqI 2 2) :: qIj20 v x.m [qX (x.m.acc v.n (Int.ofNat 1) (Int.ofNat 2) (x.m.val v.n (Int.ofNat 2)))]) (V.any Mm (fun (m' : Mm) => m' = x.m.acc v.n (Int.ofNat 1) (Int.ofNat 2) (x.m.val v.n (Int.ofNat 2))) fun (x_2 : Mm) => nN [(7, .lt2 0 1 0 1)] (V.br (decide (IntKind.i64.wrap (x.m.val v.n (Int.ofNat 2)) ≥ c.H))
 (nN (qIj40 []) (V.need ((x.ln == Int.ofNat 1) = true) (nN ((1, .eqI 2 2) :: (2, .eqI 0 0) :: qIj22 c v []) (qIj57 x.m x v v.x (nN (qIj5 [qX (x.m.acc v.n (Int.ofNat 1) (Int.ofNat 2) (x.m.val v.n (Int.ofNat 2)))]) (V.any Mm (fun (m' : Mm) => m' = x.m.acc v.n (Int.ofNat 1) (Int.ofNat 2) (x.m.val v.n (Int.ofNat 2))) fun (x_3 : Mm) => nN (qIj21 []) (V.need (decide (IntKind.i64.wrap (x.m.val v.n (Int.ofNat 2)) ≥ c.H) = true) (nN [(6, .lt2 0 1 0 1)] (qIj32 cf (nN (qIj4 []) (qIj47 v.x v x_2 x x_3 x.m (nN ((6, .lt2 0 1 0 1) :: qIj4 []) (qIj46 v.x v x_2 x x_3 (qIj42 v x_3 x_2 v.x x (V.need True V.ok)))))))))))))))
 (nN (qIj40 []) (V.need ((x.ln == Int.ofNat 1) = true) (nN ((1, .eqI 2 2) :: (2, .eqI 0 0) :: qIj22 c v []) (qIj57 x.m x v v.x (nN (qIj5 [qX (x.m.acc v.n (Int.ofNat 1) (Int.ofNat 2) (x.m.val v.n (Int.ofNat 2)))]) (V.any Mm (fun (m' : Mm) => m' = x.m.acc v.n (Int.ofNat 1) (Int.ofNat 2) (x.m.val v.n (Int.ofNat 2))) fun (x_3 : Mm) => nN (qIj21 []) (V.need (decide (IntKind.i64.wrap (x.m.val v.n (Int.ofNat 2)) ≥ c.H) = false) (nN (qIj33 []) (qIj47 v.x v x_2 x x_3 x.m (V.need (J1 x.s (XIj.mk x.s x_2 x.now (Int.ofNat 2) (IntKind.i64.wrap (x.m.val v.n (Int.ofNat 2))) x.i x.k x.x)) (qIj55 v x_2 c x_3 x v.x (nN (qE d :: qE t :: (1, .eqI 2 2) :: qE (IntKind.i64.wrap (x.m.val v.n (Int.ofNat 2))) :: qIj53 x cf []) (V.need (IntKind.i64.wrap (x.ln + Int.ofNat 1) = Int.ofNat 2) (nN (qE d :: qE t :: qE x.i :: qE (IntKind.i64.wrap (x.m.val v.n (Int.ofNat 2))) :: qIj29 x []) V.ok)))))))))))))))))
 (V.br (x.ln == Int.ofNat 2)
 (nN ((14, .lt2 0 1 0 1) :: qIj61 (qIj20 v x.m [qX (x.m.acc v.n (Int.ofNat 6) (Int.ofNat 3) (IntKind.u64.wrap (x.m.val v.n (Int.ofNat 3) + Int.ofNat 1)))])) (V.any Mm (fun (m' : Mm) => m' = x.m.acc v.n (Int.ofNat 6) (Int.ofNat 3) (IntKind.u64.wrap (x.m.val v.n (Int.ofNat 3) + Int.ofNat 1))) fun (x_2 : Mm) => nN ((3, .lt2 0 1 0 1) :: qIj58 d x.m v [qE t]) (V.br (!pkB d (IntKind.i64.wrap (x.m.val v.n (Int.ofNat 3))) t)
 (nN (qIj40 []) (qIj41 x (nN ((3, .lt2 0 1 0 1) :: qIj61 (qIj60 c v [])) (qIj57 x.m x v v.x (nN (qIj34 x.m v []) (V.any Mm (fun (m' : Mm) => m' = x.m.acc v.n (Int.ofNat 6) (Int.ofNat 3) (IntKind.u64.wrap (x.m.val v.n (Int.ofNat 3) + Int.ofNat 1))) fun (x_3 : Mm) => nN ((3, .lt2 0 1 0 1) :: qIj58 d x.m v [qE t]) (V.need ((!pkB d (IntKind.i64.wrap (x.m.val v.n (Int.ofNat 3))) t) = true) (nN [(6, .lt2 0 1 0 1)] (qIj32 cf (nN (qIj4 []) (qIj47 v.x v x_2 x x_3 x.m (nN ((6, .lt2 0 1 0 1) :: qIj4 []) (qIj46 v.x v x_2 x x_3 (qIj42 v x_3 x_2 v.x x (V.need True V.ok)))))))))))))))
 (V.br (decide (x.n > Int.ofNat 0))
 (nN (qIj40 []) (qIj41 x (nN ((3, .lt2 0 1 0 1) :: qIj61 (qIj60 c v [])) (qIj57 x.m x v v.x (nN (qIj34 x.m v []) (V.any Mm (fun (m' : Mm) => m' = x.m.acc v.n (Int.ofNat 6) (Int.ofNat 3) (IntKind.u64.wrap (x.m.val v.n (Int.ofNat 3) + Int.ofNat 1))) fun (x_3 : Mm) => nN ((3, .lt2 0 1 0 1) :: qIj58 d x.m v [qE t]) (V.need ((!pkB d (IntKind.i64.wrap (x.m.val v.n (Int.ofNat 3))) t) = false) (nN [(12, .lt 0 1)] (V.br (decide (x.n ≤ Int.ofNat 0))
 (nN (qIj33 []) (qIj47 v.x v x_2 x x_3 x.m (V.need (J1 x.s (XIj.mk x.s x_2 x.now (Int.ofNat 3) x.n x.n (pkW d (IntKind.i64.wrap (x.m.val v.n (Int.ofNat 3))) t) x.x)) (qIj55 v x_2 c x_3 x v.x (nN (qE d :: qE t :: (1, .eqI 3 3) :: qE x.n :: qIj23 x d x.m v t (qE x.x :: qIj37 cf [])) (V.need (Int.ofNat 5 = Int.ofNat 3) (nN (qE d :: qE t :: qE x.n :: qIj23 x d x.m v t [qE x.x]) V.ok)))))))
 (nN (qIj33 []) (qIj47 v.x v x_2 x x_3 x.m (V.need (J1 x.s (XIj.mk x.s x_2 x.now (Int.ofNat 3) x.n x.n (pkW d (IntKind.i64.wrap (x.m.val v.n (Int.ofNat 3))) t) x.x)) (qIj55 v x_2 c x_3 x v.x (nN (qE d :: qE t :: (1, .eqI 3 3) :: qE x.n :: qIj23 x d x.m v t (qE x.x :: qIj37 cf [])) (V.need (IntKind.i64.wrap (x.ln + Int.ofNat 1) = Int.ofNat 3) (nN (qE d :: qE t :: qE x.n :: qIj23 x d x.m v t [qE x.x]) V.ok))))))))))))))))
 (nN (qIj40 []) (qIj41 x (nN ((3, .lt2 0 1 0 1) :: qIj61 (qIj60 c v [])) (qIj57 x.m x v v.x (nN (qIj34 x.m v []) (V.any Mm (fun (m' : Mm) => m' = x.m.acc v.n (Int.ofNat 6) (Int.ofNat 3) (IntKind.u64.wrap (x.m.val v.n (Int.ofNat 3) + Int.ofNat 1))) fun (x_3 : Mm) => nN ((3, .lt2 0 1 0 1) :: qIj58 d x.m v [qE t]) (V.need ((!pkB d (IntKind.i64.wrap (x.m.val v.n (Int.ofNat 3))) t) = false) (nN [(12, .lt 0 1)] (V.br (decide (x.n ≤ Int.ofNat 0))
 (nN (qIj33 []) (qIj47 v.x v x_2 x x_3 x.m (V.need (J1 x.s (XIj.mk x.s x_2 x.now (Int.ofNat 5) x.n x.n (pkW d (IntKind.i64.wrap (x.m.val v.n (Int.ofNat 3))) t) x.x)) (qIj55 v x_2 c x_3 x v.x (nN (qE d :: qE t :: (1, .eqI 5 5) :: qE x.n :: qIj23 x d x.m v t (qE x.x :: qIj37 cf ((1, .eqI 5 5) :: qE d :: qE t :: qE x.n :: qIj23 x d x.m v t [qE x.x]))) V.ok)))))
 (nN (qIj33 []) (qIj47 v.x v x_2 x x_3 x.m (V.need (J1 x.s (XIj.mk x.s x_2 x.now (Int.ofNat 5) x.n x.n (pkW d (IntKind.i64.wrap (x.m.val v.n (Int.ofNat 3))) t) x.x)) (qIj55 v x_2 c x_3 x v.x (nN (qE d :: qE t :: (1, .eqI 5 5) :: qE x.n :: qIj23 x d x.m v t (qE x.x :: qIj37 cf [])) (V.need (IntKind.i64.wrap (x.ln + Int.ofNat 1) = Int.ofNat 5) (nN (qE d :: qE t :: qE x.n :: qIj23 x d x.m v t [qE x.x]) V.ok))))))))))))))))))))
 (V.br (x.ln == Int.ofNat 3)
 (nN ((14, .lt2 0 1 0 1) :: (1, .neI 2 0) :: qIj43 x c [(1, .eqI 4 4), (1, .eqI 1 1)]) (qIj12 x c (nN (qIj20 v x.m [qX (x.m.acc v.n (Int.ofNat 1) (atM (IntKind.i64.wrap ((IntKind.i64.wrap (x.i - Int.ofNat 1)).tdiv (Int.ofNat 2))) c.H (Int.ofNat 4) (Int.ofNat 1)) (x.m.val v.n (atM (IntKind.i64.wrap ((IntKind.i64.wrap (x.i - Int.ofNat 1)).tdiv (Int.ofNat 2))) c.H (Int.ofNat 4) (Int.ofNat 1))))]) (V.any Mm (fun (m' : Mm) => m' = x.m.acc v.n (Int.ofNat 1) (atM (IntKind.i64.wrap ((IntKind.i64.wrap (x.i - Int.ofNat 1)).tdiv (Int.ofNat 2))) c.H (Int.ofNat 4) (Int.ofNat 1)) (x.m.val v.n (atM (IntKind.i64.wrap ((IntKind.i64.wrap (x.i - Int.ofNat 1)).tdiv (Int.ofNat 2))) c.H (Int.ofNat 4) (Int.ofNat 1)))) fun (x_2 : Mm) => nN [(8, .lt2 0 1 0 1)] (V.br (decide (x.m.val v.n (atM (IntKind.i64.wrap ((IntKind.i64.wrap (x.i - Int.ofNat 1)).tdiv (Int.ofNat 2))) c.H (Int.ofNat 4) (Int.ofNat 1)) > x.k))
 (nN (qIj40 []) (qIj17 x (V.need ((x.ln == Int.ofNat 3) = true) (nN ((16, .lt2 0 1 0 1) :: (1, .neI 2 0) :: (1, .eqI 4 4) :: qIj43 x c [(1, .eqI 1 1)]) (qIj12 x c (nN ((2, .eqI 0 0) :: qIj22 c v []) (qIj57 x.m x v v.x (nN (qIj30 x.m v x c []) (V.any Mm (fun (m' : Mm) => m' = x.m.acc v.n (Int.ofNat 1) (atM (IntKind.i64.wrap ((IntKind.i64.wrap (x.i - Int.ofNat 1)).tdiv (Int.ofNat 2))) c.H (Int.ofNat 4) (Int.ofNat 1)) (x.m.val v.n (atM (IntKind.i64.wrap ((IntKind.i64.wrap (x.i - Int.ofNat 1)).tdiv (Int.ofNat 2))) c.H (Int.ofNat 4) (Int.ofNat 1)))) fun (x_3 : Mm) => nN [(2, .lt2 0 1 0 1), (1, .lt 0 1), (6, .lt2 0 1 0 1)] (V.br (decide (x.m.val v.n (atM (IntKind.i64.wrap ((IntKind.i64.wrap (x.i - Int.ofNat 1)).tdiv (Int.ofNat 2))) c.H (Int.ofNat 4) (Int.ofNat 1)) ≤ x.k))
 (nN (qIj33 []) (qIj47 v.x v x_2 x x_3 x.m (qIj50 J1 x x_2 x.m v c x_3 (qIj54 x v v.x x_3 x_2 (nN (qE d :: qE t :: (1, .eqI 4 4) :: qE x.n :: qE x.i :: qIj6 x x.m v c (qIj37 cf [])) (V.need (Int.ofNat 5 = Int.ofNat 4) (nN (qE d :: qE t :: qE x.i :: qE x.n :: qIj6 x x.m v c []) V.ok)))))))
 (nN (qIj33 []) (qIj47 v.x v x_2 x x_3 x.m (qIj50 J1 x x_2 x.m v c x_3 (qIj54 x v v.x x_3 x_2 (nN (qE d :: qE t :: (1, .eqI 4 4) :: qE x.n :: qE x.i :: qIj6 x x.m v c (qIj37 cf [])) (V.need (IntKind.i64.wrap (x.ln + Int.ofNat 1) = Int.ofNat 4) (nN (qE d :: qE t :: qE x.i :: qE x.n :: qIj6 x x.m v c []) V.ok)))))))))))))))))
 (nN (qIj40 []) (qIj17 x (V.need ((x.ln == Int.ofNat 3) = true) (nN ((16, .lt2 0 1 0 1) :: (1, .neI 2 0) :: (1, .eqI 4 4) :: qIj43 x c [(1, .eqI 1 1)]) (qIj12 x c (nN ((2, .eqI 0 0) :: qIj22 c v []) (qIj57 x.m x v v.x (nN (qIj30 x.m v x c []) (V.any Mm (fun (m' : Mm) => m' = x.m.acc v.n (Int.ofNat 1) (atM (IntKind.i64.wrap ((IntKind.i64.wrap (x.i - Int.ofNat 1)).tdiv (Int.ofNat 2))) c.H (Int.ofNat 4) (Int.ofNat 1)) (x.m.val v.n (atM (IntKind.i64.wrap ((IntKind.i64.wrap (x.i - Int.ofNat 1)).tdiv (Int.ofNat 2))) c.H (Int.ofNat 4) (Int.ofNat 1)))) fun (x_3 : Mm) => nN [(2, .lt2 0 1 0 1), (1, .lt 0 1), (6, .lt2 0 1 0 1)] (V.br (decide (x.m.val v.n (atM (IntKind.i64.wrap ((IntKind.i64.wrap (x.i - Int.ofNat 1)).tdiv (Int.ofNat 2))) c.H (Int.ofNat 4) (Int.ofNat 1)) ≤ x.k))
 (nN (qIj33 []) (qIj47 v.x v x_2 x x_3 x.m (qIj51 J1 x x_2 x.m v c x_3 (qIj54 x v v.x x_3 x_2 (nN (qE d :: qE t :: (1, .eqI 5 5) :: qE x.n :: qE x.i :: qIj6 x x.m v c (qIj37 cf ((1, .eqI 5 5) :: qE d :: qE t :: qE x.i :: qE x.n :: qIj6 x x.m v c []))) V.ok)))))
 (nN (qIj33 []) (qIj47 v.x v x_2 x x_3 x.m (qIj51 J1 x x_2 x.m v c x_3 (qIj54 x v v.x x_3 x_2 (nN (qE d :: qE t :: (1, .eqI 5 5) :: qE x.n :: qE x.i :: qIj6 x x.m v c (qIj37 cf [])) (V.need (IntKind.i64.wrap (x.ln + Int.ofNat 1) = Int.ofNat 5) (nN (qE d :: qE t :: qE x.i :: qE x.n :: qIj6 x x.m v c []) V.ok))))))))))))))))))))))
 (V.br (x.ln == Int.ofNat 4)
 (nN [(14, .lt2 0 1 0 1), qE x.i, qE c.H, (1, .eqI 4 4), (1, .eqI 1 1)] (qIj38 x c (nN (qE x.x :: qIj20 v x.m [qX (x.m.acc v.n (Int.ofNat 2) (atM x.i c.H (Int.ofNat 4) (Int.ofNat 1)) x.x)]) (V.any Mm (fun (m' : Mm) => m' = x.m.acc v.n (Int.ofNat 2) (atM x.i c.H (Int.ofNat 4) (Int.ofNat 1)) x.x) fun (x_2 : Mm) => nN [(1, .neI 2 0)] (V.br (decide (IntKind.i64.wrap ((IntKind.i64.wrap (x.i - Int.ofNat 1)).tdiv (Int.ofNat 2)) > Int.ofNat 0))
 (nN (qIj40 []) (qIj44 x (V.need ((x.ln == Int.ofNat 4) = true) (nN [(16, .lt2 0 1 0 1), (1, .eqI 4 4), qE x.i, qE c.H, (1, .eqI 1 1)] (qIj38 x c (nN (qE x.x :: qIj60 c v []) (qIj57 x.m x v v.x (nN (qIj5 [qX (x.m.acc v.n (Int.ofNat 2) (atM x.i c.H (Int.ofNat 4) (Int.ofNat 1)) x.x)]) (V.any Mm (fun (m' : Mm) => m' = x.m.acc v.n (Int.ofNat 2) (atM x.i c.H (Int.ofNat 4) (Int.ofNat 1)) x.x) fun (x_3 : Mm) => nN [(3, .lt 0 1), (1, .neI 2 0), (6, .lt 0 1)] (V.br (decide (IntKind.i64.wrap ((IntKind.i64.wrap (x.i - Int.ofNat 1)).tdiv (Int.ofNat 2)) ≤ Int.ofNat 0))
 (nN (qIj33 []) (qIj62 v.x v x_2 x x_3 x.m J1 (qIj55 v x_2 c x_3 x v.x (nN (qE d :: qE t :: (1, .eqI 3 3) :: qIj26 x (qIj48 x cf [])) (V.need (Int.ofNat 5 = Int.ofNat 3) (nN (qE d :: qE t :: qIj27 x (qIj29 x [])) V.ok))))))
 (nN (qIj33 []) (qIj62 v.x v x_2 x x_3 x.m J1 (qIj55 v x_2 c x_3 x v.x (nN (qE d :: qE t :: (1, .eqI 3 3) :: qIj26 x (qIj48 x cf ((1, .eqI 3 3) :: qE d :: qE t :: qIj27 x (qIj29 x [])))) V.ok))))))))))))))
 (nN (qIj40 []) (qIj44 x (V.need ((x.ln == Int.ofNat 4) = true) (nN [(16, .lt2 0 1 0 1), (1, .eqI 4 4), qE x.i, qE c.H, (1, .eqI 1 1)] (qIj38 x c (nN (qE x.x :: qIj60 c v []) (qIj57 x.m x v v.x (nN (qIj5 [qX (x.m.acc v.n (Int.ofNat 2) (atM x.i c.H (Int.ofNat 4) (Int.ofNat 1)) x.x)]) (V.any Mm (fun (m' : Mm) => m' = x.m.acc v.n (Int.ofNat 2) (atM x.i c.H (Int.ofNat 4) (Int.ofNat 1)) x.x) fun (x_3 : Mm) => nN [(3, .lt 0 1), (1, .neI 2 0), (6, .lt 0 1)] (V.br (decide (IntKind.i64.wrap ((IntKind.i64.wrap (x.i - Int.ofNat 1)).tdiv (Int.ofNat 2)) ≤ Int.ofNat 0))
 (nN (qIj33 []) (qIj63 v.x v x_2 x x_3 x.m J1 (qIj55 v x_2 c x_3 x v.x (nN (qE d :: qE t :: (1, .eqI 5 5) :: qIj26 x (qIj48 x cf ((1, .eqI 5 5) :: qE d :: qE t :: qIj27 x (qIj29 x [])))) V.ok))))
 (nN (qIj33 []) (qIj63 v.x v x_2 x x_3 x.m J1 (qIj55 v x_2 c x_3 x v.x (nN (qE d :: qE t :: (1, .eqI 5 5) :: qIj26 x (qIj48 x cf [])) (V.need (Int.ofNat 3 = Int.ofNat 5) (nN (qE d :: qE t :: qIj27 x (qIj29 x [])) V.ok)))))))))))))))))))))
 (V.br (x.ln == Int.ofNat 5)
 (nN [(14, .lt2 0 1 0 1), qE x.i, qE c.H, (1, .eqI 4 4), (1, .eqI 1 1)] (qIj38 x c (nN (qE x.k :: qIj20 v x.m [qX (x.m.acc v.n (Int.ofNat 2) (atM x.i c.H (Int.ofNat 4) (Int.ofNat 1)) x.k)]) (V.any Mm (fun (m' : Mm) => m' = x.m.acc v.n (Int.ofNat 2) (atM x.i c.H (Int.ofNat 4) (Int.ofNat 1)) x.k) fun (x_2 : Mm) => nN (qIj40 []) (qIj44 x (V.need ((x.ln == Int.ofNat 4) = false) (V.need ((x.ln == Int.ofNat 5) = true) (nN [(16, .lt2 0 1 0 1), (1, .eqI 4 4), qE x.i, qE c.H, (1, .eqI 1 1)] (qIj38 x c (nN (qE x.k :: qIj60 c v []) (qIj57 x.m x v v.x (nN (qIj5 [qX (x.m.acc v.n (Int.ofNat 2) (atM x.i c.H (Int.ofNat 4) (Int.ofNat 1)) x.k)]) (V.any Mm (fun (m' : Mm) => m' = x.m.acc v.n (Int.ofNat 2) (atM x.i c.H (Int.ofNat 4) (Int.ofNat 1)) x.k) fun (x_3 : Mm) => nN (qIj33 []) (qIj47 v.x v x_2 x x_3 x.m (V.need (J1 x.s (XIj.mk x.s x_2 x.now (Int.ofNat 6) x.n x.i x.k x.x)) (qIj55 v x_2 c x_3 x v.x (nN (qE d :: qE t :: (1, .eqI 6 6) :: qE x.n :: qIj53 x cf []) (V.need (IntKind.i64.wrap (x.ln + Int.ofNat 1) = Int.ofNat 6) (nN (qE d :: qE t :: qIj52 x []) V.ok)))))))))))))))))))
 (nN ((14, .lt2 0 1 0 1) :: (1, .eqI 2 2) :: qE (IntKind.u64.wrap (IntKind.i64.wrap (x.n + Int.ofNat 1))) :: qIj20 v x.m [qX (x.m.acc v.n (Int.ofNat 2) (Int.ofNat 2) (IntKind.u64.wrap (IntKind.i64.wrap (x.n + Int.ofNat 1))))]) (V.any Mm (fun (m' : Mm) => m' = x.m.acc v.n (Int.ofNat 2) (Int.ofNat 2) (IntKind.u64.wrap (IntKind.i64.wrap (x.n + Int.ofNat 1)))) fun (x_2 : Mm) => nN (qIj40 []) (qIj44 x (V.need ((x.ln == Int.ofNat 4) = false) (V.need ((x.ln == Int.ofNat 5) = false) (nN ((3, .lt 0 1) :: (1, .eqI 2 2) :: qE (IntKind.u64.wrap (IntKind.i64.wrap (x.n + Int.ofNat 1))) :: qIj60 c v []) (qIj57 x.m x v v.x (nN (qIj5 [qX (x.m.acc v.n (Int.ofNat 2) (Int.ofNat 2) (IntKind.u64.wrap (IntKind.i64.wrap (x.n + Int.ofNat 1))))]) (V.any Mm (fun (m' : Mm) => m' = x.m.acc v.n (Int.ofNat 2) (Int.ofNat 2) (IntKind.u64.wrap (IntKind.i64.wrap (x.n + Int.ofNat 1)))) fun (x_3 : Mm) => nN [(6, .lt2 0 1 0 1)] (qIj32 cf (nN (qIj4 []) (qIj47 v.x v x_2 x x_3 x.m (nN ((6, .lt2 0 1 0 1) :: qIj4 []) (qIj46 v.x v x_2 x x_3 (qIj42 v x_3 x_2 v.x x (V.need True V.ok))))))))))))))))))))))))
 (V.any XIj (J1 x.s) fun (x_2 : XIj) => nN (qIj25 v x_2.m c (qIj56 x_2.m x_2 v v.x (qE d :: qE t :: qIj59 x_2 cf (qE d :: qE t :: qIj52 x_2 [])))) (V.any Bool (fun (x : Bool) => True) fun (x_3 : Bool) => V.br x_3
 (V.br (decide (x.s < (↑ln : Int)))
 (qIj49 x ln (nN [(1, .neI 3 0)] (V.br ((g (0 + x.s.toNat)).tmod (Int.ofNat 3) == Int.ofNat 1)
 (qIj49 x ln (nN [(1, .neI 3 0)] (qIj49 x ln (nN ((1, .neI 7 0) :: qE (IntKind.i64.wrap ((g (0 + x.s.toNat)).tdiv (Int.ofNat 3))) :: qE (IntKind.i64.wrap ((g (0 + x.s.toNat)).tdiv (Int.ofNat 7))) :: qIj4 (qIj25 v x_2.m c [])) (qIj57 x_2.m x_2 v v.x (nN (qIj5 []) (V.need (v.n ≤ 1000000 ∧ okMw (Int.ofNat 1000000000) x_2.m) (V.need (∃ (x : Mm), okMw (x_2.m.ct + Int.ofNat 1) x) (V.any Mm (okMw (x_2.m.ct + Int.ofNat 1)) fun (x_4 : Mm) => qIj31 J2 x x_4 x_2 v c (nN (qIj56 x_4 x_2 v v.x (qE d :: qE t :: qIj59 x_2 cf (qE d :: qE t :: qIj52 x_2 []))) V.ok))))))))))
 (qIj31 J2 x x_2.m x_2 v c (nN (qIj56 x_2.m x_2 v v.x (qE d :: qE t :: qIj59 x_2 cf (qE d :: qE t :: qIj52 x_2 []))) V.ok)))))
 (qIj31 J2 x x_2.m x_2 v c (nN (qIj56 x_2.m x_2 v v.x (qE d :: qE t :: qIj59 x_2 cf (qE d :: qE t :: qIj52 x_2 []))) V.ok)))
 (V.any XIj (J2 x.s) fun (x_4 : XIj) => nN (qIj25 v x_4.m c (qIj56 x_4.m x_4 v v.x (qE d :: qE t :: qIj59 x_4 cf (qE d :: qE t :: qIj52 x_4 [])))) (V.any Bool (fun (x : Bool) => True) fun (x_5 : Bool) => V.br x_5
 (V.br (decide (x.s < (↑ln : Int)))
 (qIj49 x ln (nN [(1, .neI 13 0)] (V.br ((g (0 + x.s.toNat)).tmod (Int.ofNat 13) == Int.ofNat 5)
 (nN [(3, .lt2 0 1 0 1)] (V.need (J2 x.s (XIj.mk x.s x_4.m (IntKind.i64.wrap (x_4.now + Int.ofNat 1)) x_4.ln x_4.n x_4.i x_4.k x_4.x)) (nN (qIj25 v x_4.m c (qIj7 x_4.m (qE (IntKind.i64.wrap (x_4.now + Int.ofNat 1)) :: qE v.dr :: qE v.x.n :: qIj28 v x_4.m (qE (IntKind.i64.wrap (x_4.now + Int.ofNat 1)) :: qE v.dr :: qE d :: qE t :: qIj59 x_4 cf (qE d :: qE t :: qIj52 x_4 []))))) V.ok)))
 (qIj31 J2 x x_4.m x_4 v c (nN (qIj56 x_4.m x_4 v v.x (qE d :: qE t :: qIj59 x_4 cf (qE d :: qE t :: qIj52 x_4 []))) V.ok)))))
 (qIj31 J2 x x_4.m x_4 v c (nN (qIj56 x_4.m x_4 v v.x (qE d :: qE t :: qIj59 x_4 cf (qE d :: qE t :: qIj52 x_4 []))) V.ok)))
 (V.any XIj (J2 x.s) fun (x_6 : XIj) => V.br (x.s == Int.ofNat 2)
 (qIj39 I x x_6.m x_6 (nN (qE (IntKind.i64.wrap (x.s + Int.ofNat 1)) :: qIj25 v x_6.m c (qIj56 x_6.m x_6 v v.x (qE d :: qE t :: qIj59 x_6 cf (qE d :: qE t :: qIj52 x_6 [])))) V.ok))
 (qIj39 I x x_6.m x_6 (nN (qE (IntKind.i64.wrap (x.s + Int.ofNat 1)) :: qIj25 v x_6.m c (qIj56 x_6.m x_6 v v.x (qE d :: qE t :: qIj59 x_6 cf (qE d :: qE t :: qIj52 x_6 [])))) V.ok)))))))))
 (V.need True V.ok)))) := by kernel_rfl


end Go.Proofs.YtbidbhfjnfgblaaGreat.En

/- Insert, step by step: the conditions hold. -/
set_option maxRecDepth 100000
namespace Go.Proofs.YtbidbhfjnfgblaaGreat.En
open Go Go.RowKit Sx Cn Dc Ck Vc Md
def wW (x : Int) : Prop := 0 ≤ x ∧ x ≤ 18446744073709551615
def rIj (x : XIj) : Prop := wW x.k ∧ wW x.x
def iIj (x : XIj) : Prop := 0 ≤ x.s ∧ okMw (2000000 + 2 * x.s) x.m ∧ rIj x
def jIj (b q : Int) (x : XIj) : Prop := okMw (2000000 + 2 * q + b) x.m ∧ rIj x
theorem ct_no {m x : Mm} {n : Nat} {k a y b : Int} (hm : okMw b m) (hb2 : b ≤ 9000000000) (hb : decide (x.ct > IntKind.i64.wrap (m.ct + Int.ofNat 1)) = true) (h : x = m.acc n k a y) : False := by
  subst h
  have h1 := hm.2.1
  have h2 := hm.2.2
  have h3 : IntKind.i64.wrap (m.ct + 1) = m.ct + 1 := w64 (by omega)
  have hb : (m.acc n k a y).ct > IntKind.i64.wrap (m.ct + 1) := of_decide_eq_true hb
  unfold Mm.acc at hb
  cases hi : inb n a with
  | false =>
    rw [hi] at hb
    have hb : m.ct > IntKind.i64.wrap (m.ct + 1) := hb
    omega
  | true =>
    rw [hi] at hb
    have hb : IntKind.i64.wrap (m.ct + 1) > IntKind.i64.wrap (m.ct + 1) := hb
    omega
theorem val_ok {m : Mm} {b : Int} {n : Nat} {a : Int} (h : okMw b m) : wW (m.val n a) := by
  unfold Mm.val
  cases inb n a with
  | false => exact ⟨Int.le_refl 0, (by decide : (0 : Int) ≤ 18446744073709551615)⟩
  | true => exact h.1 _
theorem pkW_ok (d a t : Int) : wW (pkW d a t) := by
  unfold pkW
  cases h : pkB d a t with
  | false => exact ⟨Int.le_refl 0, (by decide : (0 : Int) ≤ 18446744073709551615)⟩
  | true =>
    have := of_decide_eq_true h
    show 0 ≤ d * 1099511627776 + a * 65536 + t ∧ d * 1099511627776 + a * 65536 + t ≤ 18446744073709551615
    omega
theorem s_lt {x : Int} (h : decide (x < Int.ofNat 200) = true) : x < 200 := of_decide_eq_true h
theorem in_ct {x : XIj} {m : Mm} {n : Nat} {k a y : Int} (hi : iIj x) (hs : decide (x.s < Int.ofNat 200) = true) (hb : decide (m.ct > IntKind.i64.wrap (x.m.ct + Int.ofNat 1)) = true) (h : m = x.m.acc n k a y) : False := by
  have := s_lt hs
  exact ct_no hi.2.1 (by omega) hb h
theorem in_j {x : XIj} {m : Mm} {n : Nat} {k a y now ln nn i kk xx : Int} (hi : iIj x) (hs : decide (x.s < Int.ofNat 200) = true) (h : m = x.m.acc n k a y) (hy : wW y) (hk : wW kk) (hx : wW xx) : jIj 1 x.s ⟨x.s, m, now, ln, nn, i, kk, xx⟩ := by
  have := s_lt hs
  subst h
  exact ⟨okMw_acc hi.2.1 (by omega) hy, hk, hx⟩
theorem in_j2 {q s now ln n i : Int} {x : XIj} (h : jIj 1 q x) : jIj 2 q ⟨s, x.m, now, ln, n, i, x.k, x.x⟩ := ⟨h.1.le (by omega), h.2⟩
theorem in_j2d {q s now ln n i : Int} {x : XIj} {m : Mm} (h : jIj 1 q x) (hm : okMw (x.m.ct + Int.ofNat 1) m) : jIj 2 q ⟨s, m, now, ln, n, i, x.k, x.x⟩ := ⟨hm.le (by have := h.1.2.2; simp only [Int.ofNat_eq_natCast]; omega), h.2⟩
theorem in_j3 {q s now ln n i : Int} {x : XIj} (h : jIj 2 q x) : jIj 2 q ⟨s, x.m, now, ln, n, i, x.k, x.x⟩ := ⟨h.1, h.2⟩
theorem in_i {x y : XIj} {now ln n i : Int} (hi : iIj x) (hs : decide (x.s < Int.ofNat 200) = true) (h : jIj 2 x.s y) : iIj ⟨IntKind.i64.wrap (x.s + Int.ofNat 1), y.m, now, ln, n, i, y.k, y.x⟩ := by
  have h1 := s_lt hs
  have h2 := hi.1
  have h3 : IntKind.i64.wrap (x.s + Int.ofNat 1) = x.s + 1 := w64 (by simp only [Int.ofNat_eq_natCast]; omega)
  rw [h3]
  exact ⟨(by show 0 ≤ x.s + 1; omega), h.1.le (by show _ ≤ 2000000 + 2 * (x.s + 1); omega), h.2⟩
theorem in_mu {x : XIj} (hi : iIj x) (hs : decide (x.s < Int.ofNat 200) = true) : (Int.ofNat 200 - IntKind.i64.wrap (x.s + Int.ofNat 1)).toNat < (Int.ofNat 200 - x.s).toNat := by
  have h1 := s_lt hs
  have h2 := hi.1
  have h3 : IntKind.i64.wrap (x.s + Int.ofNat 1) = x.s + 1 := w64 (by simp only [Int.ofNat_eq_natCast]; omega)
  rw [h3]
  simp only [Int.ofNat_eq_natCast]
  omega
theorem in_di {x y : XIj} {n : Nat} (hn : n ≤ 1000000) (hi : iIj x) (hs : decide (x.s < Int.ofNat 200) = true) (h : jIj 1 x.s y) : n ≤ 1000000 ∧ okMw (Int.ofNat 1000000000) y.m := by
  have h1 := s_lt hs
  exact ⟨hn, h.1.le (by simp only [Int.ofNat_eq_natCast]; omega)⟩
theorem in_ex {q : Int} {y : XIj} (h : jIj 1 q y) : ∃ m, okMw (y.m.ct + Int.ofNat 1) m := ⟨y.m, h.1.now.le (by simp only [Int.ofNat_eq_natCast]; omega)⟩
theorem in_r {x : XIj} {n : Nat} (hi : iIj x) (h : decide (x.s < (n : Int)) = true) : Int.ofNat 0 ≤ x.s ∧ x.s < n := ⟨hi.1, of_decide_eq_true h⟩
theorem in_r2 {x : XIj} {n : Nat} (hi : iIj x) (h : decide (x.s < (n : Int)) = true) : 0 < 1 ∧ 0 + x.s.toNat < n := by
  have h1 := hi.1
  have h2 : x.s < n := of_decide_eq_true h
  omega
theorem at_ok {c i : Int} (h : c ≤ 1000000) : okAtT i c (Int.ofNat 4) (Int.ofNat 1) := by
  refine ⟨fun h1 h2 => ?_, ?_, ?_⟩ <;> simp only [Int.ofNat_eq_natCast] at * <;> omega
theorem ln_eq {l : Int} {n m : Nat} (h : (l == Int.ofNat n) = true) (hm : IntKind.i64.wrap (Int.ofNat n + Int.ofNat 1) = Int.ofNat m) : IntKind.i64.wrap (l + Int.ofNat 1) = Int.ofNat m := by
  rw [eq_of_beq h]; exact hm
theorem gt_le {a b : Int} (g : decide (a ≤ b) = true) (h : decide (a > b) = true) : False := by
  have h1 : a > b := of_decide_eq_true h
  have h2 : a ≤ b := of_decide_eq_true g
  omega
theorem ngt_nle {a b : Int} (g : decide (a ≤ b) = false) (h : decide (a > b) = false) : False := by
  have h1 : ¬ (a > b) := of_decide_eq_false h
  have h2 : ¬ (a ≤ b) := of_decide_eq_false g
  omega
theorem z_ok : wW (Int.ofNat 0) := ⟨Int.le_refl 0, (by decide : (0 : Int) ≤ 18446744073709551615)⟩
theorem i_0 {m : Mm} {now ln n i : Int} (h : okMw 2000000 m) : iIj ⟨Int.ofNat 0, m, now, ln, n, i, Int.ofNat 0, Int.ofNat 0⟩ := ⟨Int.le_refl 0, h.le (by show (2000000 : Int) ≤ 2000000 + 2 * 0; decide), z_ok, z_ok⟩
set_option maxHeartbeats 16000000 in
theorem vhIj {c : Cf} {v : Ev} {d t : Int} {cf ln lc : Nat} {g : Nat → Int} (h : okMi c v) : VHolds (vIj c v d t cf ln lc g iIj (jIj 1) (jIj 2)) := by
  obtain ⟨h0, h1, h2, h3, h4, h5, h6⟩ := h
  refine VHolds.pr (vIj_eq ..) ?_
  (repeat' first | with_reducible exact V.okI | with_reducible refine V.brT ?_ | with_reducible refine V.brF ?_ | with_reducible refine V.brI ?_ ?_ | with_reducible refine V.anyI ?_ | with_reducible refine nN_h rfl ?_ | with_reducible refine V.needI ?_ ?_ | with_reducible intro _)
  all_goals first
    | assumption
    | exact True.intro
    | exact Nat.zero_le _
    | exact ⟨Nat.le_refl _, by assumption⟩
    | exact ⟨h2, h3, Nat.zero_le _⟩
    | (subst_vars; rfl)
    | exact in_j (by assumption) (by assumption) (by assumption) (by first | exact wrap_ok _ | exact val_ok (And.left (And.right (by assumption : iIj _))) | exact (And.right (And.right (by assumption : iIj _))).1 | exact (And.right (And.right (by assumption : iIj _))).2) (by first | exact (And.right (And.right (by assumption : iIj _))).1 | exact pkW_ok _ _ _) (by first | exact (And.right (And.right (by assumption : iIj _))).2 | exact val_ok (And.left (And.right (by assumption : iIj _))))
    | exact in_j2 (by assumption)
    | exact in_j2d (by assumption) (by assumption)
    | exact in_j3 (by assumption)
    | exact in_i (by assumption) (by assumption) (by assumption)
    | exact in_mu (by assumption) (by assumption)
    | exact in_di h2 (by assumption) (by assumption) (by assumption)
    | exact in_ex (by assumption)
    | exact in_r (by assumption) (by assumption)
    | exact in_r2 (by assumption) (by assumption)
    | exact at_ok h0
    | exact ln_eq (by assumption) (by decide)
    | exact i_0 h6
    | (exfalso; exact gt_le (by with_reducible assumption) (by with_reducible assumption))
    | (exfalso; exact ngt_nle (by with_reducible assumption) (by with_reducible assumption))
    | (exfalso; exact in_ct (by assumption) (by assumption) (by assumption) (by assumption))
    | decide
    | exact Nat.zero_lt_one
    | exact Int.le_refl 0
    | exact ⟨v.m, trivial⟩
    | exact ⟨by decide, by decide, Int.natCast_nonneg _⟩
    | trace_state
end Go.Proofs.YtbidbhfjnfgblaaGreat.En

/- Remove, step by step: the conditions, printed by program. -/
set_option maxRecDepth 100000
namespace Go.Proofs.YtbidbhfjnfgblaaGreat.En
open Go Go.RowKit Sx Cn Dc Ck Vc Md

abbrev qRj0 (a0 : Rk) (l : List (Nat × P0)) : List (Nat × P0) := (1, .pf (∀ (i : Nat), i < a0.n → a0.kl i ≤ a0.kl i) (by intros; exact Nat.le_refl _)) :: (1, .pf (∀ (i e : Nat), i < a0.n ∧ e < a0.kl i → a0.kd i e = a0.kd i e) (by intros; rfl)) :: l
abbrev qRj1 (a0 : Rk) (l : List (Nat × P0)) : List (Nat × P0) := (1, .pf (∀ (i e : Nat), i < 1 ∧ e < a0.n → e = e) (by intros; rfl)) :: (1, .pf (∀ (i e : Nat), i < 1 ∧ e < a0.n → a0.kl e = a0.kl e) (by intros; rfl)) :: l
abbrev qRj2 (a0 : El) (a1 : Evs) (l : List (Nat × P0)) : List (Nat × P0) := (1, .pf (∀ (i e : Nat), i = 0 ∧ e < a0.n → a1.k e = a1.k e) (by intros; rfl)) :: (1, .pf (∀ (i e : Nat), i = 0 ∧ e < a0.n → a1.w e = a1.w e) (by intros; rfl)) :: l
abbrev qRj3 (a0 : Ev) (a1 : Mm) (k : V) : V := V.need (a0.n ≤ a0.n ∧ a0.n ≤ a0.a.c) (nN [(1, .pf (∀ (i e : Nat), i = 0 ∧ e < a0.n → a1.g e = a1.g e) (by intros; rfl))] k)
abbrev qRj4 (a0 : Rk) (l : List (Nat × P0)) : List (Nat × P0) := (1, .pf (∀ (i e : Nat), i < 1 ∧ e < a0.n → a0.st e = a0.st e) (by intros; rfl)) :: (1, .le 1 1) :: l
abbrev qRj5 (l : List (Nat × P0)) : List (Nat × P0) := (1, .le 0 0) :: (1, .pf (∀ (i : Nat), i < 0 → 0 ≤ 0) (by intros; exact Nat.le_refl _)) :: l
abbrev qRj6 (a0 : El) (a1 : Evs) (l : List (Nat × P0)) : List (Nat × P0) := (1, .pf (∀ (i e : Nat), i = 0 ∧ e < a0.n → a1.t e = a1.t e) (by intros; rfl)) :: (1, .pf (∀ (i e : Nat), i = 0 ∧ e < a0.n → a1.o e = a1.o e) (by intros; rfl)) :: (1, .pf (∀ (i e : Nat), i = 0 ∧ e < a0.n → a1.l e = a1.l e) (by intros; rfl)) :: l
abbrev qRj7 (a0 : El) (a1 : Evs) (k : V) : V := V.need (∀ (i e : Nat), i = 0 ∧ e < a0.n + 1 → (if i = 0 ∧ e = a0.n then Int.ofNat 0 else a1.o e) = if 0 = 0 ∧ e = a0.n then Int.ofNat 0 else a1.o e) (V.need (∀ (i e : Nat), i = 0 ∧ e < a0.n + 1 → (if i = 0 ∧ e = a0.n then Int.ofNat 0 else a1.l e) = if 0 = 0 ∧ e = a0.n then Int.ofNat 0 else a1.l e) k)
abbrev qRj8 (a0 : Mm) (l : List (Nat × P0)) : List (Nat × P0) := qE a0.lk :: qE a0.lc :: qE a0.lo :: qE a0.ln :: qE a0.ct :: l
abbrev qRj9 (a0 : Rk) (a1 : Ev) (a2 : Mm) (a3 : XRj) (a4 : El) (a5 : Evs) (a6 : Int) (k : V) : V := nN (qRj0 a0 []) (V.need (okCm (Cm.mk a1.n a2 a3.now (Rk.mk a0.n a0.p a0.pa a0.pc a0.lf a0.wt a0.kl a0.kd fun (i : Nat) => a0.st i) (a4.n + 1) (Evs.mk (fun (i : Nat) => if 0 = 0 ∧ i = a4.n then Int.ofNat 13 else a5.k i) (fun (i : Nat) => if 0 = 0 ∧ i = a4.n then a6 else a5.w i) (fun (i : Nat) => if 0 = 0 ∧ i = a4.n then IntKind.i64.wrap (bits BinOp.and IntKind.u64 a3.x (Int.ofNat 65535)) else a5.t i) (fun (i : Nat) => if 0 = 0 ∧ i = a4.n then Int.ofNat 0 else a5.o i) fun (i : Nat) => if 0 = 0 ∧ i = a4.n then Int.ofNat 0 else a5.l i))) k)
abbrev qRj10 (a0 : Nat × XRj → Prop) (a1 : Mm) (a2 : Ev) (k : V) : V := V.need (a0 ((Int.ofNat 1 - Int.ofNat 1).toNat, XRj.mk (Int.ofNat 0) a1 a2.now (Int.ofNat 1) (Int.ofNat 0) (Int.ofNat 0) (Int.ofNat 0) (Int.ofNat 0) (Int.ofNat 0) (Int.ofNat 0) (El.mk 0 (Evs.mk (fun (i : Nat) => Int.ofNat 0) (fun (i : Nat) => Int.ofNat 0) (fun (i : Nat) => Int.ofNat 0) (fun (i : Nat) => Int.ofNat 0) fun (i : Nat) => Int.ofNat 0)) a2.a.e a2.b.e)) (nN [(1, .eqI 0 0)] k)
abbrev qRj11 (a0 : El) (a1 : Evs) (l : List (Nat × P0)) : List (Nat × P0) := qL a0.n :: qF a0.n a1.k :: qF a0.n a1.w :: qF a0.n a1.t :: qF a0.n a1.o :: qF a0.n a1.l :: l
abbrev qRj12 (a0 : Cf) (l : List (Nat × P0)) : List (Nat × P0) := qE a0.W :: qE a0.L :: qE a0.C :: qE a0.T :: qE a0.D :: qE a0.H :: l
abbrev qRj13 (a0 : Cf) (l : List (Nat × P0)) : List (Nat × P0) := qRj12 a0 (qE a0.B :: qE a0.A :: qE a0.P :: l)
abbrev qRj14 (l : List (Nat × P0)) : List (Nat × P0) := qF 0 (fun (e : Nat) => Int.ofNat 0) :: qF 0 (fun (e : Nat) => Int.ofNat 0) :: l
abbrev qRj15 (a0 : Ev) (a1 : Mm) (l : List (Nat × P0)) : List (Nat × P0) := qL a0.n :: qF a0.n a1.g :: l
abbrev qRj16 (a0 : El) (a1 : Evs) (k : V) : V := V.need (∀ (e : Nat), e < a0.n + 1 → (if 0 = 0 ∧ e = a0.n then Int.ofNat 0 else a1.o e) = if 0 = 0 ∧ e = a0.n then Int.ofNat 0 else a1.o e) (V.need (∀ (e : Nat), e < a0.n + 1 → (if 0 = 0 ∧ e = a0.n then Int.ofNat 0 else a1.l e) = if 0 = 0 ∧ e = a0.n then Int.ofNat 0 else a1.l e) k)
abbrev qRj17 (a0 : Ev) (a1 a2 : Mm) (k : V) : V := qRj3 a0 a1 (V.need (decide (a1.ct > IntKind.i64.wrap (a2.ct + Int.ofNat 1)) = false) k)
abbrev qRj18 (a0 : XRj) (a1 : Ev) (l : List (Nat × P0)) : List (Nat × P0) := qE a0.now :: qE a1.dr :: l
abbrev qRj19 (a0 : XRj) (l : List (Nat × P0)) : List (Nat × P0) := qE a0.x :: qE a0.y :: l
abbrev qRj20 (a0 : XRj) (l : List (Nat × P0)) : List (Nat × P0) := qRj19 a0 (qE a0.z :: l)
abbrev qRj21 (a0 : XRj) (l : List (Nat × P0)) : List (Nat × P0) := qE a0.i :: qE a0.c :: l
abbrev qRj22 (a0 : El) (a1 : XRj) (a2 : Evs) (k : V) : V := V.need (∀ (i e : Nat), i = 0 ∧ e < a0.n + 1 → (if i = 0 ∧ e = a0.n then IntKind.i64.wrap (bits BinOp.and IntKind.u64 a1.x (Int.ofNat 65535)) else a2.t e) = if 0 = 0 ∧ e = a0.n then IntKind.i64.wrap (bits BinOp.and IntKind.u64 a1.x (Int.ofNat 65535)) else a2.t e) (qRj7 a0 a2 k)
abbrev qRj23 (a0 : Ev) (l : List (Nat × P0)) : List (Nat × P0) := qE a0.n :: qE a0.b.c :: l
abbrev qRj24 (a0 : Ev) (a1 : Mm) (l : List (Nat × P0)) : List (Nat × P0) := qE a0.a.c :: qRj8 a1 (qE a0.a.c :: qRj15 a0 a1 l)
abbrev qRj25 (a0 : Nat) (l : List (Nat × P0)) : List (Nat × P0) := qE a0 :: (1, .le 1 1) :: l
abbrev qRj26 (a0 : XRj) (a1 : Nat) (k : V) : V := V.need (Int.ofNat 0 ≤ a0.s ∧ a0.s < (↑a1 : Int)) (V.need (0 < 1 ∧ 0 + a0.s.toNat < a1) (V.need (0 < 1 ∧ 0 + a0.s.toNat < a1) k))
abbrev qRj27 (a0 : Ev) (a1 : Mm) (l : List (Nat × P0)) : List (Nat × P0) := qE a0.b.c :: qRj15 a0 a1 l
abbrev qRj28 (a0 : Cf) (a1 : Ev) (l : List (Nat × P0)) : List (Nat × P0) := qRj13 a0 (qE a0.nP :: qE a0.rc :: qE a0.nU :: qE a0.cu :: qRj23 a1 l)
abbrev qRj29 (a0 : Ev) (a1 : Mm) (a2 : Cf) (l : List (Nat × P0)) : List (Nat × P0) := qRj24 a0 a1 (qRj28 a2 a0 l)
abbrev qRj30 (a0 : Ev) (a1 : Mm) (a2 : Cf) (l : List (Nat × P0)) : List (Nat × P0) := qRj29 a0 a1 a2 (qRj8 a1 l)
abbrev qRj31 (a0 : XRj) (l : List (Nat × P0)) : List (Nat × P0) := qRj21 a0 (qRj20 a0 l)
abbrev qRj32 (a0 : XRj) (l : List (Nat × P0)) : List (Nat × P0) := qE a0.i :: qE (IntKind.i64.wrap (IntKind.i64.wrap (Int.ofNat 2 * a0.i) + Int.ofNat 1)) :: l
abbrev qRj33 (a0 : El) (a1 : XRj) (a2 : Evs) (k : V) : V := V.need (∀ (i e : Nat), i = 0 ∧ e < a0.n + 1 → (if i = 0 ∧ e = a0.n then tkW a1.x else a2.t e) = if 0 = 0 ∧ e = a0.n then IntKind.i64.wrap (bits BinOp.and IntKind.u64 a1.x (Int.ofNat 65535)) else a2.t e) (qRj7 a0 a2 k)
abbrev qRj34 (a0 : Rk) (a1 : Ev) (l : List (Nat × P0)) : List (Nat × P0) := qE a0.n :: qE a1.b.r :: l
abbrev qRj35 (a0 : XRj) (a1 : Ev) (a2 : Rk) (l : List (Nat × P0)) : List (Nat × P0) := qRj18 a0 a1 (qRj34 a2 a1 l)
abbrev qRj36 (a0 : XRj) (l : List (Nat × P0)) : List (Nat × P0) := qE a0.n :: qRj20 a0 l
abbrev qRj37 (a0 : XRj) (a1 : Cf) (k : V) : V := V.need (okAtT (IntKind.i64.wrap (IntKind.i64.wrap (Int.ofNat 2 * a0.i) + Int.ofNat 1)) a1.H (Int.ofNat 4) (Int.ofNat 1)) (nN [qE (atM (IntKind.i64.wrap (IntKind.i64.wrap (Int.ofNat 2 * a0.i) + Int.ofNat 1)) a1.H (Int.ofNat 4) (Int.ofNat 1))] k)
abbrev qRj38 (a0 : XRj) (a1 : Cf) (k : V) : V := V.need (okAtT (IntKind.i64.wrap (IntKind.i64.wrap (Int.ofNat 2 * a0.i) + Int.ofNat 2)) a1.H (Int.ofNat 4) (Int.ofNat 1)) (nN [qE (atM (IntKind.i64.wrap (IntKind.i64.wrap (Int.ofNat 2 * a0.i) + Int.ofNat 2)) a1.H (Int.ofNat 4) (Int.ofNat 1))] k)
abbrev qRj39 (a0 : Rk) (a1 : Ev) (l : List (Nat × P0)) : List (Nat × P0) := qE a0.n :: qE a1.a.r :: l
abbrev qRj40 (a0 : Cf) (a1 : Rk) (a2 : Ev) (l : List (Nat × P0)) : List (Nat × P0) := qRj13 a0 (qRj12 a0 (qE (lS a0) :: qE (lE a0) :: qE (lB a0) :: qE (lQ a0) :: qE (lT a0) :: qRj39 a1 a2 l))
abbrev qRj41 (a0 : Ev) (a1 : Mm) (a2 : Cf) (a3 : XRj) (a4 : Rk) (l : List (Nat × P0)) : List (Nat × P0) := qRj30 a0 a1 a2 (qRj35 a3 a0 a4 l)
abbrev qRj42 (a0 : El) (a1 : XRj) (k : V) : V := nN [(1, .le 0 1)] (V.need (0 ≤ a0.n ∧ 0 ≤ a1.nb) k)
abbrev qRj43 (a0 : Nat → Int) (a1 : XRj) (l : List (Nat × P0)) : List (Nat × P0) := qE (IntKind.i64.wrap ((a0 (0 + a1.s.toNat)).tdiv (Int.ofNat 3))) :: qE (IntKind.i64.wrap ((a0 (0 + a1.s.toNat)).tdiv (Int.ofNat 7))) :: l
abbrev qRj44 (a0 : Cf) (a1 : Rk) (a2 : Ev) (a3 : El) (a4 : XRj) (a5 : Evs) (l : List (Nat × P0)) : List (Nat × P0) := qRj40 a0 a1 a2 (qE a3.n :: qE a4.na :: qE a4.na :: qRj11 a3 a5 (qE a4.nb :: qRj11 a3 a5 l))
abbrev qRj45 (a0 : Int → XRj → Prop) (a1 : XRj) (a2 : Mm) (a3 : XRj) (a4 : El) (a5 : Ev) (k : V) : V := V.need (a0 a1.s (XRj.mk a1.s a2 (IntKind.i64.wrap (a3.now + Int.ofNat 1)) a3.ln a3.n a3.i a3.c a3.x a3.y a3.z a4 a3.na a3.nb)) (nN [qE a5.n] k)
abbrev qRj46 (a0 : El) (a1 : XRj) (a2 : Evs) (k : V) : V := V.need (∀ (e : Nat), e < a0.n + 1 → (if 0 = 0 ∧ e = a0.n then IntKind.i64.wrap (bits BinOp.and IntKind.u64 a1.x (Int.ofNat 65535)) else a2.t e) = if 0 = 0 ∧ e = a0.n then IntKind.i64.wrap (bits BinOp.and IntKind.u64 a1.x (Int.ofNat 65535)) else a2.t e) (qRj16 a0 a2 k)
abbrev qRj47 (a0 a1 : Mm) (k : V) : V := V.need (a0.lk = a1.lk) (V.need (a0.lc = a1.lc) (V.need (a0.lo = a1.lo) (V.need (a0.ln = a1.ln) (V.need (a0.ct = a1.ct) k))))
abbrev qRj48 (a0 : XRj) (l : List (Nat × P0)) : List (Nat × P0) := qE a0.n :: qRj31 a0 l
abbrev qRj49 (a0 : Ev) (a1 a2 : Mm) (a3 : Int → XRj → Prop) (a4 : XRj) (a5 : Cf) (a6 : El) (k : V) : V := qRj17 a0 a1 a2 (V.need (a3 a4.s (XRj.mk a4.s a1 a4.now (Int.ofNat 6) a4.n a4.i (IntKind.i64.wrap (IntKind.i64.wrap (Int.ofNat 2 * a4.i) + Int.ofNat 1)) a4.x a4.y (a2.val a0.n (atM (IntKind.i64.wrap (IntKind.i64.wrap (Int.ofNat 2 * a4.i) + Int.ofNat 1)) a5.H (Int.ofNat 4) (Int.ofNat 1))) a6 a4.na a4.nb)) k)
abbrev qRj50 (a0 : El) (a1 : XRj) (a2 : Mm) (a3 : Ev) (a4 : Cf) (k : V) : V := qRj42 a0 a1 (nN [qX (a2.acc a3.n (Int.ofNat 1) (atM (IntKind.i64.wrap (IntKind.i64.wrap (Int.ofNat 2 * a1.i) + Int.ofNat 1)) a4.H (Int.ofNat 4) (Int.ofNat 1)) (a2.val a3.n (atM (IntKind.i64.wrap (IntKind.i64.wrap (Int.ofNat 2 * a1.i) + Int.ofNat 1)) a4.H (Int.ofNat 4) (Int.ofNat 1))))] k)
abbrev qRj51 (a0 : El) (a1 : XRj) (a2 : Mm) (a3 : Ev) (a4 : Cf) (k : V) : V := qRj42 a0 a1 (nN [qX (a2.acc a3.n (Int.ofNat 1) (atM (IntKind.i64.wrap (IntKind.i64.wrap (Int.ofNat 2 * a1.i) + Int.ofNat 2)) a4.H (Int.ofNat 4) (Int.ofNat 1)) (a2.val a3.n (atM (IntKind.i64.wrap (IntKind.i64.wrap (Int.ofNat 2 * a1.i) + Int.ofNat 2)) a4.H (Int.ofNat 4) (Int.ofNat 1))))] k)
abbrev qRj52 (a0 : Ev) (a1 : Mm) (k : V) : V := V.need (a0.n ≤ 1000000 ∧ okMw (Int.ofNat 1000000000) a1) (V.need (∃ (x : Mm), okMw (a1.ct + Int.ofNat 1) x) k)
abbrev qRj53 (a0 : Nat) (l : List (Nat × P0)) : List (Nat × P0) := qE a0 :: qRj25 a0 l
abbrev qRj54 (a0 : Rk) (l : List (Nat × P0)) : List (Nat × P0) := (1, .le 1 1) :: (1, .pf (∀ (i : Nat), i < 1 → a0.n ≤ a0.n) (by intros; exact Nat.le_refl _)) :: (1, .pf (∀ (i e : Nat), i < 1 ∧ e < a0.n → a0.p e = a0.p e) (by intros; rfl)) :: (1, .pf (∀ (i e : Nat), i < 1 ∧ e < a0.n → a0.pa e = a0.pa e) (by intros; rfl)) :: (1, .pf (∀ (i e : Nat), i < 1 ∧ e < a0.n → a0.pc e = a0.pc e) (by intros; rfl)) :: (1, .pf (∀ (i e : Nat), i < 1 ∧ e < a0.n → a0.lf e = a0.lf e) (by intros; rfl)) :: (1, .pf (∀ (i e : Nat), i < 1 ∧ e < a0.n → a0.wt e = a0.wt e) (by intros; rfl)) :: l
abbrev qRj55 (a0 : XRj) (a1 : Ev) (l : List (Nat × P0)) : List (Nat × P0) := qE (IntKind.i64.wrap (a0.now + Int.ofNat 1)) :: qE a1.dr :: l
abbrev qRj56 (a0 : El) (a1 : XRj) (a2 : Evs) (k : V) : V := V.need (∀ (e : Nat), e < a0.n + 1 → (if 0 = 0 ∧ e = a0.n then tkW a1.x else a2.t e) = if 0 = 0 ∧ e = a0.n then IntKind.i64.wrap (bits BinOp.and IntKind.u64 a1.x (Int.ofNat 65535)) else a2.t e) (qRj16 a0 a2 k)
abbrev qRj57 (l : List (Nat × P0)) : List (Nat × P0) := qRj14 (qF 0 (fun (e : Nat) => Int.ofNat 0) :: l)
abbrev qRj58 (a0 : El) (a1 : Nat) (a2 : Evs) (a3 : Int) (k : V) : V := V.need (a0.n + 1 ≤ a0.n + 1 ∧ a0.n + 1 ≤ a1) (V.need (∀ (i e : Nat), i = 0 ∧ e < a0.n + 1 → (if i = 0 ∧ e = a0.n then Int.ofNat 13 else a2.k e) = if 0 = 0 ∧ e = a0.n then Int.ofNat 13 else a2.k e) (V.need (∀ (i e : Nat), i = 0 ∧ e < a0.n + 1 → (if i = 0 ∧ e = a0.n then a3 else a2.w e) = if 0 = 0 ∧ e = a0.n then a3 else a2.w e) k))
abbrev qRj59 (l : List (Nat × P0)) : List (Nat × P0) := qE false :: qE false :: l
abbrev qRj60 (a0 : Ev) (a1 : Mm) (k : V) : V := nN [(1, .le 1 1)] (qRj3 a0 a1 k)
abbrev qRj61 (a0 : Ev) (l : List (Nat × P0)) : List (Nat × P0) := qE a0.n :: qE a0.a.c :: l
abbrev qRj62 (a0 : El) (a1 : XRj) (a2 : Ev) (a3 : Mm) (l : List (Nat × P0)) : List (Nat × P0) := qE a0.n :: qE a1.nb :: qRj27 a2 a3 (qRj18 a1 a2 l)
abbrev qRj63 (a0 : Ev) (a1 : Mm) (a2 : Cf) (a3 : XRj) (a4 : Rk) (a5 : El) (l : List (Nat × P0)) : List (Nat × P0) := qRj41 a0 a1 a2 a3 a4 (qRj62 a5 a3 a0 a1 l)
abbrev qRj64 (l : List (Nat × P0)) : List (Nat × P0) := (3, .lt 0 1) :: (7, .lt2 0 1 0 1) :: l
abbrev qRj65 (a0 : Ev) (a1 a2 : Mm) (a3 : Int → XRj → Prop) (a4 : XRj) (a5 : El) (a6 : Evs) (a7 : Int) (a8 a9 : Nat) (k : V) : V := qRj17 a0 a1 a2 (V.need (a3 a4.s (XRj.mk a4.s a1 a4.now (Int.ofNat 5) a4.n a4.i a4.c a4.x a4.y a4.z (El.mk (a5.n + 1) (Evs.mk (fun (i : Nat) => if 0 = 0 ∧ i = a5.n then Int.ofNat 13 else a6.k i) (fun (i : Nat) => if 0 = 0 ∧ i = a5.n then a7 else a6.w i) (fun (i : Nat) => if 0 = 0 ∧ i = a5.n then IntKind.i64.wrap (bits BinOp.and IntKind.u64 a4.x (Int.ofNat 65535)) else a6.t i) (fun (i : Nat) => if 0 = 0 ∧ i = a5.n then Int.ofNat 0 else a6.o i) fun (i : Nat) => if 0 = 0 ∧ i = a5.n then Int.ofNat 0 else a6.l i)) a8 a9)) k)
abbrev qRj66 (a0 : Ev) (a1 a2 : Mm) (a3 : Int → XRj → Prop) (a4 : XRj) (a5 : El) (a6 : Evs) (a7 : Int) (a8 a9 : Nat) (k : V) : V := qRj17 a0 a1 a2 (V.need (a3 a4.s (XRj.mk a4.s a1 a4.now (Int.ofNat 8) a4.n a4.i a4.c a4.x a4.y a4.z (El.mk (a5.n + 1) (Evs.mk (fun (i : Nat) => if 0 = 0 ∧ i = a5.n then Int.ofNat 13 else a6.k i) (fun (i : Nat) => if 0 = 0 ∧ i = a5.n then a7 else a6.w i) (fun (i : Nat) => if 0 = 0 ∧ i = a5.n then IntKind.i64.wrap (bits BinOp.and IntKind.u64 a4.x (Int.ofNat 65535)) else a6.t i) (fun (i : Nat) => if 0 = 0 ∧ i = a5.n then Int.ofNat 0 else a6.o i) fun (i : Nat) => if 0 = 0 ∧ i = a5.n then Int.ofNat 0 else a6.l i)) a8 a9)) k)
abbrev qRj67 (a0 : El) (a1 : XRj) (a2 : Evs) (k : V) : V := V.need (a0.n ≤ a0.n ∧ a0.n ≤ a1.na) (nN (qRj2 a0 a2 (qRj6 a0 a2 [])) k)
abbrev qRj68 (a0 : El) (a1 : XRj) (l : List (Nat × P0)) : List (Nat × P0) := qE a0.n :: qE a1.nb :: l
abbrev qRj69 (a0 : Nat × XRj → Prop) (k : V) : V := nN (qRj57 []) (V.need (∀ (x : Nat × XRj), a0 x → x.fst < 8) k)
abbrev qRj70 (a0 : XRj) (a1 : Mm) (a2 : Ev) (a3 : Cf) (l : List (Nat × P0)) : List (Nat × P0) := qRj19 a0 (qE (a1.val a2.n (atM (IntKind.i64.wrap (IntKind.i64.wrap (Int.ofNat 2 * a0.i) + Int.ofNat 2)) a3.H (Int.ofNat 4) (Int.ofNat 1))) :: l)
abbrev qRj71 (a0 : XRj) (a1 : Ev) (a2 : Rk) (a3 : El) (l : List (Nat × P0)) : List (Nat × P0) := qRj35 a0 a1 a2 (qRj68 a3 a0 l)
abbrev qRj72 (l : List (Nat × P0)) : List (Nat × P0) := (16, .lt2 0 1 0 1) :: (1, .eqI 4 4) :: l
abbrev qRj73 (a0 : Int) (a1 : XRj) (a2 : Cf) (a3 : Rk) (a4 : Ev) (a5 : El) (a6 : Evs) (l : List (Nat × P0)) : List (Nat × P0) := qE a0 :: qRj21 a1 (qRj36 a1 (qRj44 a2 a3 a4 a5 a1 a6 l))
abbrev qRj74 (a0 : Int) (a1 : XRj) (a2 : Nat) (a3 : Cf) (a4 : Rk) (a5 : Ev) (a6 : El) (a7 : Evs) (l : List (Nat × P0)) : List (Nat × P0) := qE a0 :: qE a1.ln :: qRj48 a1 (qRj53 a2 (qE a1.ln :: qRj73 a0 a1 a3 a4 a5 a6 a7 l))
abbrev qRj75 (a0 : Int → XRj → Prop) (a1 : XRj) (a2 : Mm) (a3 : XRj) (a4 : El) (a5 : Ev) (a6 : Cf) (a7 : Rk) (a8 : Int) (a9 : Nat) (a10 : Evs) (k : V) : V := V.need (a0 a1.s (XRj.mk a1.s a2 a3.now a3.ln a3.n a3.i a3.c a3.x a3.y a3.z a4 a3.na a3.nb)) (nN (qE a5.n :: qRj41 a5 a2 a6 a3 a7 (qRj62 a4 a3 a5 a2 (qRj74 a8 a3 a9 a6 a7 a5 a4 a10 []))) k)
abbrev qRj76 (a0 : Ev) (a1 : Mm) (a2 : Cf) (a3 : XRj) (a4 : Rk) (a5 : El) (a6 : Int) (a7 : Nat) (a8 : Evs) (l : List (Nat × P0)) : List (Nat × P0) := qRj63 a0 a1 a2 a3 a4 a5 (qRj74 a6 a3 a7 a2 a4 a0 a5 a8 l)
abbrev qRj77 (a0 : XRj) (a1 : Cf) (l : List (Nat × P0)) : List (Nat × P0) := qE (IntKind.i64.wrap (IntKind.i64.wrap (Int.ofNat 2 * a0.i) + Int.ofNat 1)) :: qE a1.H :: l
abbrev qRj78 (a0 : XRj) (a1 : Cf) (l : List (Nat × P0)) : List (Nat × P0) := qE (IntKind.i64.wrap (IntKind.i64.wrap (Int.ofNat 2 * a0.i) + Int.ofNat 2)) :: qE a1.H :: l
abbrev qRj79 (a0 : Rk) (l : List (Nat × P0)) : List (Nat × P0) := qL a0.n :: qRj0 a0 (qL a0.n :: l)
abbrev qRj80 (a0 : Rk) (a1 : Ev) (l : List (Nat × P0)) : List (Nat × P0) := (3, .lt 0 1) :: qRj39 a0 a1 l
abbrev qRj81 (a0 : Ev) (a1 a2 : Mm) (a3 : Rk) (k : V) : V := V.need (a0.n ≤ a0.n ∧ a0.n ≤ a0.b.c) (V.need (∀ (i e : Nat), i = 0 ∧ e < a0.n → a1.g e = a2.g e) (nN (qRj54 a3 (qRj1 a3 ((1, .pf (∀ (i e : Nat), i < 1 ∧ e < a3.n → a0.b.k e = a0.b.k e) (by intros; rfl)) :: qRj4 a3 []))) k))
abbrev qRj82 (a0 : El) (a1 : Evs) (a2 : Int) (k : V) : V := V.need (a0.n + 1 ≤ a0.n + 1) (V.need (∀ (e : Nat), e < a0.n + 1 → (if 0 = 0 ∧ e = a0.n then Int.ofNat 13 else a1.k e) = if 0 = 0 ∧ e = a0.n then Int.ofNat 13 else a1.k e) (V.need (∀ (e : Nat), e < a0.n + 1 → (if 0 = 0 ∧ e = a0.n then a2 else a1.w e) = if 0 = 0 ∧ e = a0.n then a2 else a1.w e) k))
abbrev qRj83 (l : List (Nat × P0)) : List (Nat × P0) := (1, .le 0 0) :: qRj14 l
abbrev qRj84 (a0 : Ev) (a1 : Mm) (a2 : Cf) (a3 : Mm) (k : V) : V := nN (qRj29 a0 a1 a2 []) (qRj47 a3 a1 k)
abbrev qRj85 (a0 : XRj) (a1 : Nat) (k : V) : V := qRj26 a0 a1 (nN [(1, .neI 3 0)] k)
abbrev qRj86 (a0 : XRj) (l : List (Nat × P0)) : List (Nat × P0) := qE a0.i :: qE (IntKind.i64.wrap (IntKind.i64.wrap (Int.ofNat 2 * a0.i) + Int.ofNat 2)) :: l
abbrev qRj87 (l : List (Nat × P0)) : List (Nat × P0) := (3, .lt 0 1) :: qRj59 l
abbrev qRj88 (a0 : El) (a1 : XRj) (k : V) : V := V.need (a0.n ≤ a0.n ∧ a1.nb = a1.nb) (V.need (a0.n + 1 ≤ 9223372036854775807 ∧ (a0.n + 1) * 40 ≤ 140737488355328) k)
abbrev qRj89 (a0 : Nat) (k : V) : V := V.need (Int.ofNat 0 ≤ Int.ofNat 0 ∧ Int.ofNat 0 ≤ Int.ofNat 0 ∧ Int.ofNat 0 ≤ (↑a0 : Int)) (nN [(12, .lt2 0 1 0 1)] k)
abbrev qRj90 (a0 : XRj) (l : List (Nat × P0)) : List (Nat × P0) := (1, .eqI 2 2) :: qE (IntKind.u64.wrap (IntKind.i64.wrap (a0.n - Int.ofNat 1))) :: l
abbrev qRj91 (a0 : Rk) (a1 : Ev) (a2 : El) (a3 : XRj) (a4 a5 : Mm) (a6 : Evs) (k : V) : V := nN (qRj34 a0 a1 (qRj68 a2 a3 [(1, .le 1 1)])) (qRj81 a1 a4 a5 a0 (V.need (a2.n ≤ a2.n ∧ a2.n ≤ a3.nb) (nN (qRj2 a2 a6 (qRj6 a2 a6 (qRj79 a0 (qRj0 a0 [])))) (V.need (okCm (Cm.mk a1.n a5 a3.now (Rk.mk a0.n a0.p a0.pa a0.pc a0.lf a0.wt a0.kl a0.kd fun (i : Nat) => a0.st i) a2.n a6)) k))))
abbrev qRj92 (a0 : XRj) (k : V) : V := V.need (a0.ln = Int.ofNat ((a0.ln - Int.ofNat 1).toNat + 1)) (nN (qE a0.n :: qRj31 a0 []) k)
abbrev qRj93 (a0 : Ev) (a1 : Mm) (a2 : Rk) (k : V) : V := nN (qRj27 a0 a1 (qRj5 (qRj5 [(1, .le 0 1)]))) (V.need (∀ (i : Nat), i < 0 → 0 ≤ a2.n) k)
abbrev qRj94 (a0 : Ev) (a1 : Mm) (a2 : XRj) (a3 : Rk) (k : V) : V := nN (qRj61 a0 (qRj8 a1 [])) (qRj60 a0 a1 (nN (qE a2.now :: qRj54 a3 (qRj1 a3 ((1, .pf (∀ (i e : Nat), i < 1 ∧ e < a3.n → a0.a.k e = a0.a.k e) (by intros; rfl)) :: qRj4 a3 []))) k))
abbrev qRj95 (a0 : Ev) (a1 a2 : Mm) (a3 : Int → XRj → Prop) (a4 : XRj) (a5 : Cf) (a6 : El) (k : V) : V := qRj17 a0 a1 a2 (V.need (a3 a4.s (XRj.mk a4.s a1 a4.now (Int.ofNat 7) a4.n a4.i (IntKind.i64.wrap (IntKind.i64.wrap (Int.ofNat 2 * a4.i) + Int.ofNat 1)) a4.x a4.y (a2.val a0.n (atM (IntKind.i64.wrap (IntKind.i64.wrap (Int.ofNat 2 * a4.i) + Int.ofNat 1)) a5.H (Int.ofNat 4) (Int.ofNat 1))) a6 a4.na a4.nb)) k)
abbrev qRj96 (a0 : Ev) (a1 a2 : Mm) (a3 : Int → XRj → Prop) (a4 : XRj) (a5 : Cf) (a6 : El) (k : V) : V := qRj17 a0 a1 a2 (V.need (a3 a4.s (XRj.mk a4.s a1 a4.now (Int.ofNat 8) a4.n a4.i (IntKind.i64.wrap (IntKind.i64.wrap (Int.ofNat 2 * a4.i) + Int.ofNat 1)) a4.x a4.y (a2.val a0.n (atM (IntKind.i64.wrap (IntKind.i64.wrap (Int.ofNat 2 * a4.i) + Int.ofNat 1)) a5.H (Int.ofNat 4) (Int.ofNat 1))) a6 a4.na a4.nb)) k)
abbrev qRj97 (a0 : Ev) (a1 : Mm) (l : List (Nat × P0)) : List (Nat × P0) := qRj61 a0 (qE a1.ct :: (1, .le 1 1) :: l)
abbrev qRj98 (a0 : Ev) (a1 a2 : Mm) (a3 : XRj) (k : V) : V := nN (qRj23 a0 []) (qRj47 a1 a2 (nN [qE a3.now] k))
abbrev qRj99 (a0 : XRj) (a1 : Cf) (k : V) : V := V.need (okAtT a0.i a1.H (Int.ofNat 4) (Int.ofNat 1)) (nN [(3, .lt2 0 1 0 1), qE (atM a0.i a1.H (Int.ofNat 4) (Int.ofNat 1))] k)
abbrev qRj100 (a0 : Mm) (a1 : XRj) (a2 : Ev) (a3 : Rk) (a4 : El) (k : V) : V := nN (qRj8 a0 (qRj71 a1 a2 a3 a4 [])) (qRj93 a2 a0 a3 k)
abbrev qRj101 (a0 : El) (a1 : XRj) (a2 : Mm) (a3 : Ev) (k : V) : V := qRj42 a0 a1 (nN [qX (a2.acc a3.n (Int.ofNat 2) (Int.ofNat 2) (IntKind.u64.wrap (IntKind.i64.wrap (a1.n - Int.ofNat 1))))] k)
abbrev qRj102 (a0 : Int) (l : List (Nat × P0)) : List (Nat × P0) := qE a0 :: (6, .eqI 0 0) :: l
abbrev qRj103 (a0 : Cf) (a1 : Ev) (l : List (Nat × P0)) : List (Nat × P0) := (2, .eqI 0 0) :: qRj28 a0 a1 l
abbrev qRj104 (l : List (Nat × P0)) : List (Nat × P0) := (16, .lt2 0 1 0 1) :: qRj59 l
abbrev qRj105 (a0 : Ev) (a1 a2 : Mm) (a3 : XRj) (k : V) : V := nN [qE a0.b.c, qL a0.n] (V.need (∀ (e : Nat), e < a0.n → a1.g e = a2.g e) (nN (qRj18 a3 a0 []) k))
abbrev qRj106 (a0 : XRj) (a1 : Cf) (k : V) : V := V.need (okAtT (IntKind.i64.wrap (a0.n - Int.ofNat 1)) a1.H (Int.ofNat 4) (Int.ofNat 1)) (nN [qE (atM (IntKind.i64.wrap (a0.n - Int.ofNat 1)) a1.H (Int.ofNat 4) (Int.ofNat 1))] k)
abbrev qRj107 (a0 : Ev) (a1 : Mm) (a2 : Cf) (a3 : Mm) (a4 : XRj) (a5 : Rk) (a6 : El) (k : V) : V := qRj84 a0 a1 a2 a3 (nN (qRj71 a4 a0 a5 a6 []) (qRj105 a0 a3 a1 a4 k))
abbrev qRj108 (a0 : XRj) (k : V) : V := nN [qE a0.x] (V.need (Int.ofNat 0 ≤ a0.x ∧ a0.x ≤ Int.ofNat 18446744073709551615) (V.need (∃ (x : Int × Int), True) k))
abbrev qRj109 (a0 : XRj) (k : V) : V := nN ((7, .lt2 0 1 0 1) :: qRj64 [(9, .lt 0 1)]) (qRj108 a0 k)
abbrev qRj110 (a0 : Ev) (l : List (Nat × P0)) : List (Nat × P0) := qE a0.now :: qE a0.dr :: l
abbrev qRj111 (a0 : Ev) (a1 : Mm) (a2 : Cf) (a3 : XRj) (a4 : Rk) (a5 : El) (l : List (Nat × P0)) : List (Nat × P0) := qE a0.n :: qRj63 a0 a1 a2 a3 a4 a5 l
abbrev qRj112 (a0 : Nat × XRj → Prop) (a1 a2 : XRj) (a3 : Mm) (a4 : El) (a5 : Ev) (a6 : Cf) (a7 : Rk) (k : V) : V := V.need (a0 ((a1.ln - Int.ofNat 1).toNat, XRj.mk (IntKind.i64.wrap (a2.s + Int.ofNat 1)) a3 a1.now a1.ln a1.n a1.i a1.c a1.x a1.y a1.z a4 a1.na a1.nb)) (V.need ((Int.ofNat 200 - IntKind.i64.wrap (a2.s + Int.ofNat 1)).toNat < (Int.ofNat 200 - a2.s).toNat) (nN (qE (IntKind.i64.wrap (a2.s + Int.ofNat 1)) :: qRj111 a5 a3 a6 a1 a7 a4 []) k))
abbrev qRj113 (a0 : Mm) (a1 : Ev) (a2 : XRj) (a3 : Cf) (k : V) : V := nN [(6, .lt2 0 1 0 1)] (V.need (decide (a0.val a1.n (atM (IntKind.i64.wrap (IntKind.i64.wrap (Int.ofNat 2 * a2.i) + Int.ofNat 1)) a3.H (Int.ofNat 4) (Int.ofNat 1)) < a2.y) = false) k)
abbrev qRj114 (a0 : Mm) (a1 : Ev) (a2 : XRj) (a3 : Cf) (k : V) : V := V.need (decide (a0.val a1.n (atM (IntKind.i64.wrap (IntKind.i64.wrap (Int.ofNat 2 * a2.i) + Int.ofNat 2)) a3.H (Int.ofNat 4) (Int.ofNat 1)) < a2.z) = false) (nN [(6, .lt2 0 1 0 1)] k)
abbrev qRj115 (a0 : Mm) (a1 : Ev) (a2 : XRj) (a3 : Cf) (k : V) : V := nN [(6, .lt2 0 1 0 1)] (V.need (decide (a0.val a1.n (atM (IntKind.i64.wrap (IntKind.i64.wrap (Int.ofNat 2 * a2.i) + Int.ofNat 1)) a3.H (Int.ofNat 4) (Int.ofNat 1)) < a2.y) = true) k)
abbrev qRj116 (l : List (Nat × P0)) : List (Nat × P0) := qE false :: qE true :: l
abbrev qRj117 (l : List (Nat × P0)) : List (Nat × P0) := (1, .eqI 4 4) :: (1, .eqI 1 1) :: l
abbrev qRj118 (a0 : Mm) (a1 : Ev) (a2 : XRj) (a3 : Cf) (k : V) : V := nN [(3, .lt 0 1)] (V.need (decide (a0.val a1.n (atM (IntKind.i64.wrap (IntKind.i64.wrap (Int.ofNat 2 * a2.i) + Int.ofNat 2)) a3.H (Int.ofNat 4) (Int.ofNat 1)) < a2.z) = true) k)
abbrev qRj119 (a0 : Cf) (k : V) : V := V.need (okAtT (Int.ofNat 0) a0.H (Int.ofNat 4) (Int.ofNat 1)) (nN [qE (atM (Int.ofNat 0) a0.H (Int.ofNat 4) (Int.ofNat 1))] k)
abbrev qRj120 (a0 : Nat) (a1 : XRj) (a2 : Int) (a3 : Cf) (a4 : Rk) (a5 : Ev) (a6 : El) (a7 : Evs) (k : V) : V := nN (qRj25 a0 []) (V.need (a1.ln = Int.ofNat ((a1.ln - Int.ofNat 1).toNat + 1)) (nN (qRj73 a2 a1 a3 a4 a5 a6 a7 []) k))
abbrev qRj121 (a0 : XRj) (k : V) : V := nN [(6, .lt2 0 1 0 1)] (V.need ((IntKind.i64.wrap (bits BinOp.and IntKind.u64 a0.x (Int.ofNat 65535)) == tkW a0.x) = true) k)
abbrev qRj122 (a0 : XRj) (a1 : Nat) (l : List (Nat × P0)) : List (Nat × P0) := qRj48 a0 (qRj53 a1 l)
abbrev qRj123 (l : List (Nat × P0)) : List (Nat × P0) := qRj87 (qRj59 l)
abbrev qRj124 (a0 : XRj) (a1 : Nat) (k : V) : V := qRj26 a0 a1 (nN [(1, .neI 13 0)] k)
abbrev qRj125 (a0 : El) (a1 : XRj) (a2 : Ev) (a3 : Mm) (a4 : Rk) (a5 : Evs) (a6 : Mm) (k : V) : V := nN [qE a0.n, qE a1.na] (qRj94 a2 a3 a1 a4 (qRj67 a0 a1 a5 (qRj98 a2 a6 a3 a1 (qRj91 a4 a2 a0 a1 a6 a3 a5 (nN (qRj97 a2 a3 []) k)))))
abbrev qRj126 (a0 : Rk) (a1 : Ev) (a2 : El) (a3 : XRj) (a4 : Mm) (a5 : Evs) (a6 : Mm) (k : V) : V := nN (qRj80 a0 a1 []) (qRj125 a2 a3 a1 a4 a0 a5 a6 k)
abbrev qRj127 (a0 : XRj) (a1 : Nat) (k : V) : V := qRj85 a0 a1 (qRj26 a0 a1 (nN [(1, .neI 7 0)] k))
abbrev qRj128 (a0 : XRj) (a1 : Mm) (a2 : Ev) (a3 : Cf) (l : List (Nat × P0)) : List (Nat × P0) := qE a0.x :: qE a0.y :: qE (a1.val a2.n (atM (IntKind.i64.wrap (IntKind.i64.wrap (Int.ofNat 2 * a0.i) + Int.ofNat 1)) a3.H (Int.ofNat 4) (Int.ofNat 1))) :: l
abbrev qRj129 (a0 : El) (a1 : Nat) (l : List (Nat × P0)) : List (Nat × P0) := qE (a0.n + 1) :: qE a1 :: l
abbrev qRj130 (a0 : XRj) (k : V) : V := V.need (Int.ofNat 0 = a0.i) (nN [qE a0.c] k)
abbrev qRj131 (a0 : Nat) (k : V) : V := nN (qRj53 a0 []) (V.need (IntKind.i64.wrap (Int.ofNat 5 + Int.ofNat 1) = Int.ofNat 6) k)
abbrev qRj132 (l : List (Nat × P0)) : List (Nat × P0) := (2, .lt2 0 1 0 1) :: (1, .lt 0 1) :: (6, .lt2 0 1 0 1) :: l
abbrev qRj133 (a0 : Int) (l : List (Nat × P0)) : List (Nat × P0) := qE a0 :: (1, .eqI 8 8) :: l
abbrev qRj134 (a0 : Ev) (a1 : Rk) (l : List (Nat × P0)) : List (Nat × P0) := qRj110 a0 (qRj34 a1 a0 ((1, .eq 0 0) :: qE a0.b.e :: l))
abbrev qRj135 (a0 : Ev) (a1 : Mm) (l : List (Nat × P0)) : List (Nat × P0) := qRj27 a0 a1 (qRj110 a0 l)
abbrev qRj136 (a0 : Ev) (l : List (Nat × P0)) : List (Nat × P0) := (1, .eq 0 0) :: qE a0.a.e :: qE a0.a.e :: qRj83 (qRj57 (qE a0.b.e :: qRj83 l))
abbrev qRj137 (a0 : Ev) (a1 : Mm) (k : V) : V := nN ((6, .lt2 0 1 0 1) :: qRj61 a0 [qE a1.ct]) (qRj60 a0 a1 k)
abbrev qRj138 (a0 : Cf) (a1 : Ev) (l : List (Nat × P0)) : List (Nat × P0) := (1, .eqI 0 0) :: qRj28 a0 a1 l
set_option maxHeartbeats 8000000 in
theorem vRj0_eq (c : Cf) (v : Ev) (w : Int) (cf ln lc : Nat) (g : Nat → Int) (I : Nat × XRj → Prop) (J1 J2 : Int → XRj → Prop) : V.pr (.b (.b (.b (.f (.f (.f (.f (.t (.b (.t (.t (.f .z))) (.t (.f (.f .z))))))))) .z) .z) .z) (vRjO 0 c v w cf ln lc g I J1 J2) =
  qRj10 I v.m v (nN (qE v.n :: qRj30 v v.m c (qRj134 v v.x (qRj135 v v.m (qRj102 w (qRj53 cf (qRj102 w (qRj40 c v.x v (qRj136 v [])))))))) (qRj69 I (V.any Bool (fun (x : Bool) => True) fun (b : Bool) => V.br b
 (V.any XRj (fun (x : XRj) => I (0, x)) fun (x : XRj) => V.br (decide (x.s < Int.ofNat 200))
 (nN (qRj111 v x.m c x v.x x.l (qE w :: (1, .eqI 1 1) :: qRj122 x cf ((1, .eqI 1 1) :: qRj73 w x c v.x v x.l x.l.v []))) (V.any Bool (fun (x : Bool) => True) fun (x_1 : Bool) => V.br x_1
 (qRj137 v x.m (nN (qRj104 (qRj59 ((16, .lt2 0 1 0 1) :: qE true :: (1, .eqI 2 2) :: qE v.n :: qRj24 v x.m [qX (x.m.acc v.n (Int.ofNat 1) (Int.ofNat 2) (x.m.val v.n (Int.ofNat 2)))]))) (V.any Mm (fun (m' : Mm) => m' = x.m.acc v.n (Int.ofNat 1) (Int.ofNat 2) (x.m.val v.n (Int.ofNat 2))) fun (x_2 : Mm) => V.br (decide (IntKind.i64.wrap (x.m.val v.n (Int.ofNat 2)) ≤ Int.ofNat 0))
 (qRj109 x (V.any (Int × Int) (fun (x : Int × Int) => True) fun (x_3 : Int × Int) => nN ((3, .lt 0 1) :: qE true :: (1, .eqI 2 2) :: qRj103 c v []) (qRj100 x.m x v v.x x.l (qRj42 x.l x (nN [qX (x.m.acc v.n (Int.ofNat 1) (Int.ofNat 2) (x.m.val v.n (Int.ofNat 2)))] (V.any Mm (fun (m' : Mm) => m' = x.m.acc v.n (Int.ofNat 1) (Int.ofNat 2) (x.m.val v.n (Int.ofNat 2))) fun (x_4 : Mm) => nN [(6, .lt 0 1)] (V.need (decide (IntKind.i64.wrap (x.m.val v.n (Int.ofNat 2)) ≤ Int.ofNat 0) = true) (nN [(6, .lt2 0 1 0 1)] (qRj89 cf (nN (qRj39 v.x v []) (qRj125 x.l x v x_2 v.x x.l.v x_4 (qRj17 v x_2 x.m (nN ((6, .lt2 0 1 0 1) :: qRj39 v.x v [qE x.l.n, qE x.na]) (qRj94 v x_2 x v.x (qRj67 x.l x x.l.v (qRj98 v x_4 x_2 x (qRj91 v.x v x.l x x_4 x_2 x.l.v (V.need True V.ok))))))))))))))))))
 (qRj109 x (V.any (Int × Int) (fun (x : Int × Int) => True) fun (x_3 : Int × Int) => nN ((3, .lt 0 1) :: qE true :: (1, .eqI 2 2) :: qRj103 c v []) (qRj100 x.m x v v.x x.l (qRj42 x.l x (nN [qX (x.m.acc v.n (Int.ofNat 1) (Int.ofNat 2) (x.m.val v.n (Int.ofNat 2)))] (V.any Mm (fun (m' : Mm) => m' = x.m.acc v.n (Int.ofNat 1) (Int.ofNat 2) (x.m.val v.n (Int.ofNat 2))) fun (x_4 : Mm) => nN [(6, .lt 0 1)] (V.need (decide (IntKind.i64.wrap (x.m.val v.n (Int.ofNat 2)) ≤ Int.ofNat 0) = false) (qRj126 v.x v x.l x x_2 x.l.v x_4 (qRj17 v x_2 x.m (V.need (J1 x.s (XRj.mk x.s x_2 x.now (Int.ofNat 2) (IntKind.i64.wrap (x.m.val v.n (Int.ofNat 2))) x.i x.c x.x x.y x.z x.l x.na x.nb)) (nN [qE v.n] (qRj107 v x_2 c x_4 x v.x x.l (nN (qE w :: (1, .eqI 2 2) :: qE (IntKind.i64.wrap (x.m.val v.n (Int.ofNat 2))) :: qRj31 x (qRj53 cf [])) (V.need (IntKind.i64.wrap (Int.ofNat 1 + Int.ofNat 1) = Int.ofNat 2) (nN (qE w :: qRj21 x (qE (IntKind.i64.wrap (x.m.val v.n (Int.ofNat 2))) :: qRj20 x (qRj44 c v.x v x.l x x.l.v []))) V.ok))))))))))))))))))
 (V.any XRj (J1 x.s) fun (x_2 : XRj) => nN (qE v.n :: qRj76 v x_2.m c x_2 v.x x_2.l w cf x_2.l.v []) (V.any Bool (fun (x : Bool) => True) fun (x_3 : Bool) => V.br x_3
 (V.br (decide (x.s < (↑ln : Int)))
 (qRj85 x ln (V.br ((g (0 + x.s.toNat)).tmod (Int.ofNat 3) == Int.ofNat 1)
 (qRj127 x ln (nN (qRj43 g x (qE v.n :: qRj41 v x_2.m c x_2 v.x (qRj68 x_2.l x_2 []))) (qRj93 v x_2.m v.x (qRj42 x_2.l x_2 (qRj52 v x_2.m (V.any Mm (okMw (x_2.m.ct + Int.ofNat 1)) fun (x_4 : Mm) => qRj75 J2 x x_4 x_2 x_2.l v c v.x w cf x_2.l.v V.ok))))))
 (qRj75 J2 x x_2.m x_2 x_2.l v c v.x w cf x_2.l.v V.ok)))
 (qRj75 J2 x x_2.m x_2 x_2.l v c v.x w cf x_2.l.v V.ok))
 (V.any XRj (J2 x.s) fun (x_4 : XRj) => nN (qE v.n :: qRj76 v x_4.m c x_4 v.x x_4.l w cf x_4.l.v []) (V.any Bool (fun (x : Bool) => True) fun (x_5 : Bool) => V.br x_5
 (V.br (decide (x.s < (↑ln : Int)))
 (qRj124 x ln (V.br ((g (0 + x.s.toNat)).tmod (Int.ofNat 13) == Int.ofNat 5)
 (qRj45 J2 x x_4.m x_4 x_4.l v (nN (qRj30 v x_4.m c (qRj55 x_4 v (qRj34 v.x v (qRj68 x_4.l x_4 (qRj27 v x_4.m (qRj55 x_4 v (qRj74 w x_4 cf c v.x v x_4.l x_4.l.v []))))))) V.ok))
 (qRj75 J2 x x_4.m x_4 x_4.l v c v.x w cf x_4.l.v V.ok)))
 (qRj75 J2 x x_4.m x_4 x_4.l v c v.x w cf x_4.l.v V.ok))
 (V.any XRj (J2 x.s) fun (x_6 : XRj) => V.br (x.s == Int.ofNat 2)
 (qRj112 I x_6 x x_6.m x_6.l v c v.x (nN [qE w] (qRj92 x_6 (nN [qE cf] (qRj120 cf x_6 w c v.x v x_6.l x_6.l.v V.ok)))))
 (qRj112 I x_6 x x_6.m x_6.l v c v.x (nN [qE w] (qRj92 x_6 (nN [qE cf] (qRj120 cf x_6 w c v.x v x_6.l x_6.l.v V.ok))))))))))))
 (V.need True V.ok))
 V.ok))) := by kernel_rfl

set_option maxHeartbeats 8000000 in
theorem vRj1_eq (c : Cf) (v : Ev) (w : Int) (cf ln lc : Nat) (g : Nat → Int) (I : Nat × XRj → Prop) (J1 J2 : Int → XRj → Prop) : V.pr (.b (.b (.b (.f (.f (.f (.f (.f (.t (.f (.t (.f .z))))))))) .z) .z) .z) (vRjO 1 c v w cf ln lc g I J1 J2) =
  qRj10 I v.m v (nN (qE v.n :: qRj30 v v.m c (qRj134 v v.x (qRj135 v v.m (qRj102 w (qRj53 cf (qRj102 w (qRj40 c v.x v (qRj136 v [])))))))) (qRj69 I (V.any Bool (fun (x : Bool) => True) fun (b : Bool) => V.br b
 (V.any XRj (fun (x : XRj) => I (1, x)) fun (x : XRj) => V.br (decide (x.s < Int.ofNat 200))
 (nN (qRj111 v x.m c x v.x x.l (qE w :: (1, .eqI 2 2) :: qRj122 x cf ((1, .eqI 2 2) :: qRj73 w x c v.x v x.l x.l.v []))) (V.any Bool (fun (x : Bool) => True) fun (x_1 : Bool) => V.br x_1
 (qRj137 v x.m (nN (qRj104 (qRj59 ((16, .lt2 0 1 0 1) :: qRj116 ((1, .eqI 0 0) :: qE c.H :: qRj117 [])))) (qRj119 c (nN (qE v.n :: qRj24 v x.m [qX (x.m.acc v.n (Int.ofNat 1) (atM (Int.ofNat 0) c.H (Int.ofNat 4) (Int.ofNat 1)) (x.m.val v.n (atM (Int.ofNat 0) c.H (Int.ofNat 4) (Int.ofNat 1))))]) (V.any Mm (fun (m' : Mm) => m' = x.m.acc v.n (Int.ofNat 1) (atM (Int.ofNat 0) c.H (Int.ofNat 4) (Int.ofNat 1)) (x.m.val v.n (atM (Int.ofNat 0) c.H (Int.ofNat 4) (Int.ofNat 1)))) fun (x_2 : Mm) => qRj109 x (V.any (Int × Int) (fun (x : Int × Int) => True) fun (x_3 : Int × Int) => nN ((3, .lt 0 1) :: qRj116 [(1, .eqI 4 4), (1, .eqI 0 0), qE c.H, (1, .eqI 1 1)]) (qRj119 c (nN (qRj103 c v []) (qRj100 x.m x v v.x x.l (qRj42 x.l x (nN [qX (x.m.acc v.n (Int.ofNat 1) (atM (Int.ofNat 0) c.H (Int.ofNat 4) (Int.ofNat 1)) (x.m.val v.n (atM (Int.ofNat 0) c.H (Int.ofNat 4) (Int.ofNat 1))))] (V.any Mm (fun (m' : Mm) => m' = x.m.acc v.n (Int.ofNat 1) (atM (Int.ofNat 0) c.H (Int.ofNat 4) (Int.ofNat 1)) (x.m.val v.n (atM (Int.ofNat 0) c.H (Int.ofNat 4) (Int.ofNat 1)))) fun (x_4 : Mm) => nN ((6, .lt 0 1) :: qRj39 v.x v []) (qRj125 x.l x v x_2 v.x x.l.v x_4 (qRj17 v x_2 x.m (V.need (J1 x.s (XRj.mk x.s x_2 x.now (Int.ofNat 3) x.n x.i x.c (x.m.val v.n (atM (Int.ofNat 0) c.H (Int.ofNat 4) (Int.ofNat 1))) x.y x.z x.l x.na x.nb)) (nN [qE v.n] (qRj107 v x_2 c x_4 x v.x x.l (nN (qE w :: (1, .eqI 3 3) :: qE x.n :: qRj21 x (qE (x.m.val v.n (atM (Int.ofNat 0) c.H (Int.ofNat 4) (Int.ofNat 1))) :: qE x.y :: qE x.z :: qRj53 cf [])) (V.need (IntKind.i64.wrap (Int.ofNat 2 + Int.ofNat 1) = Int.ofNat 3) (nN (qE w :: qRj21 x (qE x.n :: qE (x.m.val v.n (atM (Int.ofNat 0) c.H (Int.ofNat 4) (Int.ofNat 1))) :: qE x.y :: qE x.z :: qRj44 c v.x v x.l x x.l.v [])) V.ok))))))))))))))))))))
 (V.any XRj (J1 x.s) fun (x_2 : XRj) => nN (qE v.n :: qRj76 v x_2.m c x_2 v.x x_2.l w cf x_2.l.v []) (V.any Bool (fun (x : Bool) => True) fun (x_3 : Bool) => V.br x_3
 (V.br (decide (x.s < (↑ln : Int)))
 (qRj85 x ln (V.br ((g (0 + x.s.toNat)).tmod (Int.ofNat 3) == Int.ofNat 1)
 (qRj127 x ln (nN (qRj43 g x (qE v.n :: qRj41 v x_2.m c x_2 v.x (qRj68 x_2.l x_2 []))) (qRj93 v x_2.m v.x (qRj42 x_2.l x_2 (qRj52 v x_2.m (V.any Mm (okMw (x_2.m.ct + Int.ofNat 1)) fun (x_4 : Mm) => qRj75 J2 x x_4 x_2 x_2.l v c v.x w cf x_2.l.v V.ok))))))
 (qRj75 J2 x x_2.m x_2 x_2.l v c v.x w cf x_2.l.v V.ok)))
 (qRj75 J2 x x_2.m x_2 x_2.l v c v.x w cf x_2.l.v V.ok))
 (V.any XRj (J2 x.s) fun (x_4 : XRj) => nN (qE v.n :: qRj76 v x_4.m c x_4 v.x x_4.l w cf x_4.l.v []) (V.any Bool (fun (x : Bool) => True) fun (x_5 : Bool) => V.br x_5
 (V.br (decide (x.s < (↑ln : Int)))
 (qRj124 x ln (V.br ((g (0 + x.s.toNat)).tmod (Int.ofNat 13) == Int.ofNat 5)
 (qRj45 J2 x x_4.m x_4 x_4.l v (nN (qRj30 v x_4.m c (qRj55 x_4 v (qRj34 v.x v (qRj68 x_4.l x_4 (qRj27 v x_4.m (qRj55 x_4 v (qRj74 w x_4 cf c v.x v x_4.l x_4.l.v []))))))) V.ok))
 (qRj75 J2 x x_4.m x_4 x_4.l v c v.x w cf x_4.l.v V.ok)))
 (qRj75 J2 x x_4.m x_4 x_4.l v c v.x w cf x_4.l.v V.ok))
 (V.any XRj (J2 x.s) fun (x_6 : XRj) => V.br (x.s == Int.ofNat 2)
 (qRj112 I x_6 x x_6.m x_6.l v c v.x (nN [qE w] (qRj92 x_6 (nN [qE cf] (qRj120 cf x_6 w c v.x v x_6.l x_6.l.v V.ok)))))
 (qRj112 I x_6 x x_6.m x_6.l v c v.x (nN [qE w] (qRj92 x_6 (nN [qE cf] (qRj120 cf x_6 w c v.x v x_6.l x_6.l.v V.ok))))))))))))
 (V.need True V.ok))
 V.ok))) := by kernel_rfl

set_option maxHeartbeats 8000000 in
theorem vRj2_eq (c : Cf) (v : Ev) (w : Int) (cf ln lc : Nat) (g : Nat → Int) (I : Nat × XRj → Prop) (J1 J2 : Int → XRj → Prop) : V.pr (.b (.b (.b (.f (.f (.f (.f (.f (.f (.t (.f (.f (.t (.f .z))))))))))) .z) .z) .z) (vRjO 2 c v w cf ln lc g I J1 J2) =
  qRj10 I v.m v (nN (qE v.n :: qRj30 v v.m c (qRj134 v v.x (qRj135 v v.m (qRj102 w (qRj53 cf (qRj102 w (qRj40 c v.x v (qRj136 v [])))))))) (qRj69 I (V.any Bool (fun (x : Bool) => True) fun (b : Bool) => V.br b
 (V.any XRj (fun (x : XRj) => I (2, x)) fun (x : XRj) => V.br (decide (x.s < Int.ofNat 200))
 (nN (qRj111 v x.m c x v.x x.l (qE w :: (1, .eqI 3 3) :: qRj122 x cf ((1, .eqI 3 3) :: qRj73 w x c v.x v x.l x.l.v []))) (V.any Bool (fun (x : Bool) => True) fun (x_1 : Bool) => V.br x_1
 (qRj137 v x.m (nN (qRj104 (qRj59 (qRj104 (qE true :: (14, .lt2 0 1 0 1) :: qE (IntKind.i64.wrap (x.n - Int.ofNat 1)) :: qE c.H :: qRj117 [])))) (qRj106 x c (nN (qE v.n :: qRj24 v x.m [qX (x.m.acc v.n (Int.ofNat 1) (atM (IntKind.i64.wrap (x.n - Int.ofNat 1)) c.H (Int.ofNat 4) (Int.ofNat 1)) (x.m.val v.n (atM (IntKind.i64.wrap (x.n - Int.ofNat 1)) c.H (Int.ofNat 4) (Int.ofNat 1))))]) (V.any Mm (fun (m' : Mm) => m' = x.m.acc v.n (Int.ofNat 1) (atM (IntKind.i64.wrap (x.n - Int.ofNat 1)) c.H (Int.ofNat 4) (Int.ofNat 1)) (x.m.val v.n (atM (IntKind.i64.wrap (x.n - Int.ofNat 1)) c.H (Int.ofNat 4) (Int.ofNat 1)))) fun (x_2 : Mm) => nN ((9, .lt2 0 1 0 1) :: qRj64 [(9, .lt 0 1)]) (qRj108 x (V.any (Int × Int) (fun (x : Int × Int) => True) fun (x_3 : Int × Int) => nN (qRj87 (qE true :: qRj72 [qE (IntKind.i64.wrap (x.n - Int.ofNat 1)), qE c.H, (1, .eqI 1 1)])) (qRj106 x c (nN (qRj103 c v []) (qRj100 x.m x v v.x x.l (qRj42 x.l x (nN [qX (x.m.acc v.n (Int.ofNat 1) (atM (IntKind.i64.wrap (x.n - Int.ofNat 1)) c.H (Int.ofNat 4) (Int.ofNat 1)) (x.m.val v.n (atM (IntKind.i64.wrap (x.n - Int.ofNat 1)) c.H (Int.ofNat 4) (Int.ofNat 1))))] (V.any Mm (fun (m' : Mm) => m' = x.m.acc v.n (Int.ofNat 1) (atM (IntKind.i64.wrap (x.n - Int.ofNat 1)) c.H (Int.ofNat 4) (Int.ofNat 1)) (x.m.val v.n (atM (IntKind.i64.wrap (x.n - Int.ofNat 1)) c.H (Int.ofNat 4) (Int.ofNat 1)))) fun (x_4 : Mm) => nN ((2, .lt2 0 1 0 1) :: (4, .lt 0 1) :: qRj39 v.x v []) (qRj125 x.l x v x_2 v.x x.l.v x_4 (qRj17 v x_2 x.m (V.need (J1 x.s (XRj.mk x.s x_2 x.now (Int.ofNat 4) x.n x.i x.c x.x (x.m.val v.n (atM (IntKind.i64.wrap (x.n - Int.ofNat 1)) c.H (Int.ofNat 4) (Int.ofNat 1))) x.z x.l x.na x.nb)) (nN [qE v.n] (qRj107 v x_2 c x_4 x v.x x.l (nN (qE w :: (1, .eqI 4 4) :: qE x.n :: qRj21 x (qE x.x :: qE (x.m.val v.n (atM (IntKind.i64.wrap (x.n - Int.ofNat 1)) c.H (Int.ofNat 4) (Int.ofNat 1))) :: qE x.z :: qRj53 cf [])) (V.need (IntKind.i64.wrap (Int.ofNat 3 + Int.ofNat 1) = Int.ofNat 4) (nN (qE w :: qRj21 x (qE x.n :: qE x.x :: qE (x.m.val v.n (atM (IntKind.i64.wrap (x.n - Int.ofNat 1)) c.H (Int.ofNat 4) (Int.ofNat 1))) :: qE x.z :: qRj44 c v.x v x.l x x.l.v [])) V.ok)))))))))))))))))))))
 (V.any XRj (J1 x.s) fun (x_2 : XRj) => nN (qE v.n :: qRj76 v x_2.m c x_2 v.x x_2.l w cf x_2.l.v []) (V.any Bool (fun (x : Bool) => True) fun (x_3 : Bool) => V.br x_3
 (V.br (decide (x.s < (↑ln : Int)))
 (qRj85 x ln (V.br ((g (0 + x.s.toNat)).tmod (Int.ofNat 3) == Int.ofNat 1)
 (qRj127 x ln (nN (qRj43 g x (qE v.n :: qRj41 v x_2.m c x_2 v.x (qRj68 x_2.l x_2 []))) (qRj93 v x_2.m v.x (qRj42 x_2.l x_2 (qRj52 v x_2.m (V.any Mm (okMw (x_2.m.ct + Int.ofNat 1)) fun (x_4 : Mm) => qRj75 J2 x x_4 x_2 x_2.l v c v.x w cf x_2.l.v V.ok))))))
 (qRj75 J2 x x_2.m x_2 x_2.l v c v.x w cf x_2.l.v V.ok)))
 (qRj75 J2 x x_2.m x_2 x_2.l v c v.x w cf x_2.l.v V.ok))
 (V.any XRj (J2 x.s) fun (x_4 : XRj) => nN (qE v.n :: qRj76 v x_4.m c x_4 v.x x_4.l w cf x_4.l.v []) (V.any Bool (fun (x : Bool) => True) fun (x_5 : Bool) => V.br x_5
 (V.br (decide (x.s < (↑ln : Int)))
 (qRj124 x ln (V.br ((g (0 + x.s.toNat)).tmod (Int.ofNat 13) == Int.ofNat 5)
 (qRj45 J2 x x_4.m x_4 x_4.l v (nN (qRj30 v x_4.m c (qRj55 x_4 v (qRj34 v.x v (qRj68 x_4.l x_4 (qRj27 v x_4.m (qRj55 x_4 v (qRj74 w x_4 cf c v.x v x_4.l x_4.l.v []))))))) V.ok))
 (qRj75 J2 x x_4.m x_4 x_4.l v c v.x w cf x_4.l.v V.ok)))
 (qRj75 J2 x x_4.m x_4 x_4.l v c v.x w cf x_4.l.v V.ok))
 (V.any XRj (J2 x.s) fun (x_6 : XRj) => V.br (x.s == Int.ofNat 2)
 (qRj112 I x_6 x x_6.m x_6.l v c v.x (nN [qE w] (qRj92 x_6 (nN [qE cf] (qRj120 cf x_6 w c v.x v x_6.l x_6.l.v V.ok)))))
 (qRj112 I x_6 x x_6.m x_6.l v c v.x (nN [qE w] (qRj92 x_6 (nN [qE cf] (qRj120 cf x_6 w c v.x v x_6.l x_6.l.v V.ok))))))))))))
 (V.need True V.ok))
 V.ok))) := by kernel_rfl

set_option maxHeartbeats 8000000 in
theorem vRj3_eq (c : Cf) (v : Ev) (w : Int) (cf ln lc : Nat) (g : Nat → Int) (I : Nat × XRj → Prop) (J1 J2 : Int → XRj → Prop) : V.pr (.b (.b (.b (.f (.f (.f (.f (.f (.f (.f (.b (.f (.f (.f (.t (.t (.f (.t .z))))))) (.b (.f (.f (.f (.t (.f (.b (.f .z) (.f .z))))))) (.f (.f (.f (.t (.f (.b (.f .z) (.f .z)))))))))))))))) .z) .z) .z) (vRjO 3 c v w cf ln lc g I J1 J2) =
  qRj10 I v.m v (nN (qE v.n :: qRj30 v v.m c (qRj134 v v.x (qRj135 v v.m (qRj102 w (qRj53 cf (qRj102 w (qRj40 c v.x v (qRj136 v [])))))))) (qRj69 I (V.any Bool (fun (x : Bool) => True) fun (b : Bool) => V.br b
 (V.any XRj (fun (x : XRj) => I (3, x)) fun (x : XRj) => V.br (decide (x.s < Int.ofNat 200))
 (nN (qRj111 v x.m c x v.x x.l (qE w :: (1, .eqI 4 4) :: qRj122 x cf ((1, .eqI 4 4) :: qRj73 w x c v.x v x.l x.l.v []))) (V.any Bool (fun (x : Bool) => True) fun (x_1 : Bool) => V.br x_1
 (qRj137 v x.m (nN (qRj104 (qRj59 (qRj104 (qE false :: (14, .lt2 0 1 0 1) :: qRj90 x (qE v.n :: qRj24 v x.m [qX (x.m.acc v.n (Int.ofNat 2) (Int.ofNat 2) (IntKind.u64.wrap (IntKind.i64.wrap (x.n - Int.ofNat 1))))]))))) (V.any Mm (fun (m' : Mm) => m' = x.m.acc v.n (Int.ofNat 2) (Int.ofNat 2) (IntKind.u64.wrap (IntKind.i64.wrap (x.n - Int.ofNat 1)))) fun (x_2 : Mm) => nN [(6, .lt2 0 1 0 1), (1, .leI 0 40), (1, .leI 0 16), (13, .lt2 0 1 0 1)] (V.need (x.l.n ≤ x.l.n ∧ x.na = x.na) (V.need (x.l.n + 1 ≤ 9223372036854775807 ∧ (x.l.n + 1) * 40 ≤ 140737488355328) (V.any Nat (fun (x_3 : Nat) => x.l.n + 1 ≤ x_3) fun (x_3 : Nat) => nN [(2, .lt2 0 1 0 1)] (V.br (x.n == Int.ofNat 1)
 (nN [(5, .lt2 0 1 0 1), (1, .leI 0 40), (1, .leI 0 16)] (qRj109 x (V.any (Int × Int) (fun (x : Int × Int) => True) fun (x_4 : Int × Int) => nN (qRj87 (qRj116 ((3, .lt 0 1) :: qRj90 x (qRj138 c v [])))) (qRj100 x.m x v v.x x.l (qRj101 x.l x x.m v (V.any Mm (fun (m' : Mm) => m' = x.m.acc v.n (Int.ofNat 2) (Int.ofNat 2) (IntKind.u64.wrap (IntKind.i64.wrap (x.n - Int.ofNat 1)))) fun (x_5 : Mm) => nN [(8, .lt 0 1)] (qRj88 x.l x (V.any Nat (fun (x_6 : Nat) => x.l.n + 1 ≤ x_6) fun (x_6 : Nat) => nN [(3, .lt 0 1)] (V.need ((x.n == Int.ofNat 1) = true) (nN [(6, .lt2 0 1 0 1)] (qRj89 cf (nN (qRj39 v.x v (qRj129 x.l x_3 [])) (qRj94 v x_2 x v.x (qRj58 x.l x_3 x.l.v w (qRj22 x.l x x.l.v (qRj98 v x_5 x_2 x (nN (qRj34 v.x v (qE (x.l.n + 1) :: qRj25 x_6 [])) (qRj81 v x_5 x_2 v.x (qRj58 x.l x_6 x.l.v w (qRj33 x.l x x.l.v (nN (qRj79 v.x []) (qRj9 v.x v x_2 x x.l x.l.v w (nN (qRj97 v x_2 []) (qRj17 v x_2 x.m (qRj121 x (nN (qRj39 v.x v (qRj129 x.l x_3 [])) (qRj94 v x_2 x v.x (qRj58 x.l x_3 x.l.v w (qRj22 x.l x x.l.v (qRj98 v x_5 x_2 x (nN (qRj34 v.x v (qE (x.l.n + 1) :: qRj25 x_6 [])) (qRj81 v x_5 x_2 v.x (qRj58 x.l x_6 x.l.v w (qRj33 x.l x x.l.v (nN (qRj79 v.x []) (qRj9 v.x v x_2 x x.l x.l.v w (V.need True V.ok)))))))))))))))))))))))))))))))))))))
 (nN [(6, .lt2 0 1 0 1)] (V.br (decide (IntKind.i64.wrap (IntKind.i64.wrap (Int.ofNat 2 * x.i) + Int.ofNat 1) < IntKind.i64.wrap (x.n - Int.ofNat 1)))
 (qRj109 x (V.any (Int × Int) (fun (x : Int × Int) => True) fun (x_4 : Int × Int) => nN (qRj87 (qRj116 ((3, .lt 0 1) :: qRj90 x (qRj138 c v [])))) (qRj100 x.m x v v.x x.l (qRj101 x.l x x.m v (V.any Mm (fun (m' : Mm) => m' = x.m.acc v.n (Int.ofNat 2) (Int.ofNat 2) (IntKind.u64.wrap (IntKind.i64.wrap (x.n - Int.ofNat 1)))) fun (x_5 : Mm) => nN [(8, .lt 0 1)] (qRj88 x.l x (V.any Nat (fun (x_6 : Nat) => x.l.n + 1 ≤ x_6) fun (x_6 : Nat) => nN [(3, .lt 0 1)] (V.need ((x.n == Int.ofNat 1) = false) (nN [(3, .lt 0 1), (6, .lt2 0 1 0 1)] (V.br (decide (Int.ofNat 1 < IntKind.i64.wrap (x.n - Int.ofNat 1)))
 (nN (qRj80 v.x v (qRj129 x.l x_3 [])) (qRj94 v x_2 x v.x (qRj58 x.l x_3 x.l.v w (qRj22 x.l x x.l.v (qRj98 v x_5 x_2 x (nN (qRj34 v.x v (qE (x.l.n + 1) :: qRj25 x_6 [])) (qRj81 v x_5 x_2 v.x (qRj58 x.l x_6 x.l.v w (qRj33 x.l x x.l.v (nN (qRj79 v.x []) (qRj9 v.x v x_2 x x.l x.l.v w (nN (qRj97 v x_2 []) (qRj65 v x_2 x.m J1 x x.l x.l.v w x_3 x_6 (nN [qE v.n] (qRj84 v x_2 c x_5 (nN (qRj35 x v v.x (qRj129 x.l x_6 [])) (qRj105 v x_5 x_2 x (nN (qE w :: (1, .eqI 5 5) :: qRj122 x cf [(1, .eqI 5 5), qE w]) (qRj130 x (nN (qRj36 x (qRj40 c v.x v (qRj129 x.l x_3 [qE x_3]))) (qRj82 x.l x.l.v w (qRj46 x.l x x.l.v (nN [qE x_6] (qRj82 x.l x.l.v w (qRj56 x.l x x.l.v V.ok)))))))))))))))))))))))))
 (nN (qRj80 v.x v (qRj129 x.l x_3 [])) (qRj94 v x_2 x v.x (qRj58 x.l x_3 x.l.v w (qRj22 x.l x x.l.v (qRj98 v x_5 x_2 x (nN (qRj34 v.x v (qE (x.l.n + 1) :: qRj25 x_6 [])) (qRj81 v x_5 x_2 v.x (qRj58 x.l x_6 x.l.v w (qRj33 x.l x x.l.v (nN (qRj79 v.x []) (qRj9 v.x v x_2 x x.l x.l.v w (nN (qRj97 v x_2 []) (qRj65 v x_2 x.m J1 x x.l x.l.v w x_3 x_6 (nN [qE v.n] (qRj84 v x_2 c x_5 (nN (qRj35 x v v.x (qRj129 x.l x_6 [])) (qRj105 v x_5 x_2 x (nN (qE w :: (1, .eqI 5 5) :: qRj122 x cf []) (V.need (Int.ofNat 8 = Int.ofNat 5) (nN [qE w] (qRj130 x (nN (qRj36 x (qRj40 c v.x v (qRj129 x.l x_3 [qE x_3]))) (qRj82 x.l x.l.v w (qRj46 x.l x x.l.v (nN [qE x_6] (qRj82 x.l x.l.v w (qRj56 x.l x x.l.v V.ok)))))))))))))))))))))))))))))))))))))
 (qRj109 x (V.any (Int × Int) (fun (x : Int × Int) => True) fun (x_4 : Int × Int) => nN (qRj87 (qRj116 ((3, .lt 0 1) :: qRj90 x (qRj138 c v [])))) (qRj100 x.m x v v.x x.l (qRj101 x.l x x.m v (V.any Mm (fun (m' : Mm) => m' = x.m.acc v.n (Int.ofNat 2) (Int.ofNat 2) (IntKind.u64.wrap (IntKind.i64.wrap (x.n - Int.ofNat 1)))) fun (x_5 : Mm) => nN [(8, .lt 0 1)] (qRj88 x.l x (V.any Nat (fun (x_6 : Nat) => x.l.n + 1 ≤ x_6) fun (x_6 : Nat) => nN [(3, .lt 0 1)] (V.need ((x.n == Int.ofNat 1) = false) (nN [(3, .lt 0 1), (6, .lt2 0 1 0 1)] (V.br (decide (Int.ofNat 1 < IntKind.i64.wrap (x.n - Int.ofNat 1)))
 (nN (qRj80 v.x v (qRj129 x.l x_3 [])) (qRj94 v x_2 x v.x (qRj58 x.l x_3 x.l.v w (qRj22 x.l x x.l.v (qRj98 v x_5 x_2 x (nN (qRj34 v.x v (qE (x.l.n + 1) :: qRj25 x_6 [])) (qRj81 v x_5 x_2 v.x (qRj58 x.l x_6 x.l.v w (qRj33 x.l x x.l.v (nN (qRj79 v.x []) (qRj9 v.x v x_2 x x.l x.l.v w (nN (qRj97 v x_2 []) (qRj66 v x_2 x.m J1 x x.l x.l.v w x_3 x_6 (nN [qE v.n] (qRj84 v x_2 c x_5 (nN (qRj35 x v v.x (qRj129 x.l x_6 [])) (qRj105 v x_5 x_2 x (nN (qRj133 w (qRj122 x cf [])) (V.need (Int.ofNat 5 = Int.ofNat 8) (nN [qE w] (qRj130 x (nN (qRj36 x (qRj40 c v.x v (qRj129 x.l x_3 [qE x_3]))) (qRj82 x.l x.l.v w (qRj46 x.l x x.l.v (nN [qE x_6] (qRj82 x.l x.l.v w (qRj56 x.l x x.l.v V.ok)))))))))))))))))))))))))))
 (nN (qRj80 v.x v (qRj129 x.l x_3 [])) (qRj94 v x_2 x v.x (qRj58 x.l x_3 x.l.v w (qRj22 x.l x x.l.v (qRj98 v x_5 x_2 x (nN (qRj34 v.x v (qE (x.l.n + 1) :: qRj25 x_6 [])) (qRj81 v x_5 x_2 v.x (qRj58 x.l x_6 x.l.v w (qRj33 x.l x x.l.v (nN (qRj79 v.x []) (qRj9 v.x v x_2 x x.l x.l.v w (nN (qRj97 v x_2 []) (qRj66 v x_2 x.m J1 x x.l x.l.v w x_3 x_6 (nN [qE v.n] (qRj84 v x_2 c x_5 (nN (qRj35 x v v.x (qRj129 x.l x_6 [])) (qRj105 v x_5 x_2 x (nN (qRj133 w (qRj122 x cf [(1, .eqI 8 8), qE w])) (qRj130 x (nN (qRj36 x (qRj40 c v.x v (qRj129 x.l x_3 [qE x_3]))) (qRj82 x.l x.l.v w (qRj46 x.l x x.l.v (nN [qE x_6] (qRj82 x.l x.l.v w (qRj56 x.l x x.l.v V.ok))))))))))))))))))))))))))))))))))))))))))))
 (V.any XRj (J1 x.s) fun (x_2 : XRj) => nN (qE v.n :: qRj76 v x_2.m c x_2 v.x x_2.l w cf x_2.l.v []) (V.any Bool (fun (x : Bool) => True) fun (x_3 : Bool) => V.br x_3
 (V.br (decide (x.s < (↑ln : Int)))
 (qRj85 x ln (V.br ((g (0 + x.s.toNat)).tmod (Int.ofNat 3) == Int.ofNat 1)
 (qRj127 x ln (nN (qRj43 g x (qE v.n :: qRj41 v x_2.m c x_2 v.x (qRj68 x_2.l x_2 []))) (qRj93 v x_2.m v.x (qRj42 x_2.l x_2 (qRj52 v x_2.m (V.any Mm (okMw (x_2.m.ct + Int.ofNat 1)) fun (x_4 : Mm) => qRj75 J2 x x_4 x_2 x_2.l v c v.x w cf x_2.l.v V.ok))))))
 (qRj75 J2 x x_2.m x_2 x_2.l v c v.x w cf x_2.l.v V.ok)))
 (qRj75 J2 x x_2.m x_2 x_2.l v c v.x w cf x_2.l.v V.ok))
 (V.any XRj (J2 x.s) fun (x_4 : XRj) => nN (qE v.n :: qRj76 v x_4.m c x_4 v.x x_4.l w cf x_4.l.v []) (V.any Bool (fun (x : Bool) => True) fun (x_5 : Bool) => V.br x_5
 (V.br (decide (x.s < (↑ln : Int)))
 (qRj124 x ln (V.br ((g (0 + x.s.toNat)).tmod (Int.ofNat 13) == Int.ofNat 5)
 (qRj45 J2 x x_4.m x_4 x_4.l v (nN (qRj30 v x_4.m c (qRj55 x_4 v (qRj34 v.x v (qRj68 x_4.l x_4 (qRj27 v x_4.m (qRj55 x_4 v (qRj74 w x_4 cf c v.x v x_4.l x_4.l.v []))))))) V.ok))
 (qRj75 J2 x x_4.m x_4 x_4.l v c v.x w cf x_4.l.v V.ok)))
 (qRj75 J2 x x_4.m x_4 x_4.l v c v.x w cf x_4.l.v V.ok))
 (V.any XRj (J2 x.s) fun (x_6 : XRj) => V.br (x.s == Int.ofNat 2)
 (qRj112 I x_6 x x_6.m x_6.l v c v.x (nN [qE w] (qRj92 x_6 (nN [qE cf] (qRj120 cf x_6 w c v.x v x_6.l x_6.l.v V.ok)))))
 (qRj112 I x_6 x x_6.m x_6.l v c v.x (nN [qE w] (qRj92 x_6 (nN [qE cf] (qRj120 cf x_6 w c v.x v x_6.l x_6.l.v V.ok))))))))))))
 (V.need True V.ok))
 V.ok))) := by kernel_rfl

set_option maxHeartbeats 8000000 in
theorem vRj4_eq (c : Cf) (v : Ev) (w : Int) (cf ln lc : Nat) (g : Nat → Int) (I : Nat × XRj → Prop) (J1 J2 : Int → XRj → Prop) : V.pr (.b (.b (.b (.t (.b (.b (.f (.f (.f (.f (.t (.b (.t (.f .z)) (.f .z))))))) (.f (.f (.f (.f (.t (.b (.t (.f .z)) (.f .z)))))))) (.b (.f (.f (.f (.f (.t (.b (.f (.f .z)) (.f .z))))))) (.f (.f (.f (.f (.t (.b (.f (.f .z)) (.f .z)))))))))) .z) .z) .z) (vRjO 4 c v w cf ln lc g I J1 J2) =
  qRj10 I v.m v (nN (qE v.n :: qRj30 v v.m c (qRj134 v v.x (qRj135 v v.m (qRj102 w (qRj53 cf (qRj102 w (qRj40 c v.x v (qRj136 v [])))))))) (qRj69 I (V.any Bool (fun (x : Bool) => True) fun (b : Bool) => V.br b
 (V.any XRj (fun (x : XRj) => I (4, x)) fun (x : XRj) => V.br (decide (x.s < Int.ofNat 200))
 (nN (qRj111 v x.m c x v.x x.l (qE w :: (1, .eqI 5 5) :: qRj122 x cf ((1, .eqI 5 5) :: qRj73 w x c v.x v x.l x.l.v []))) (V.any Bool (fun (x : Bool) => True) fun (x_1 : Bool) => V.br x_1
 (qRj137 v x.m (nN ((16, .lt2 0 1 0 1) :: qE true :: (14, .lt2 0 1 0 1) :: qRj77 x c (qRj117 [])) (qRj37 x c (nN (qE v.n :: qRj24 v x.m [qX (x.m.acc v.n (Int.ofNat 1) (atM (IntKind.i64.wrap (IntKind.i64.wrap (Int.ofNat 2 * x.i) + Int.ofNat 1)) c.H (Int.ofNat 4) (Int.ofNat 1)) (x.m.val v.n (atM (IntKind.i64.wrap (IntKind.i64.wrap (Int.ofNat 2 * x.i) + Int.ofNat 1)) c.H (Int.ofNat 4) (Int.ofNat 1))))]) (V.any Mm (fun (m' : Mm) => m' = x.m.acc v.n (Int.ofNat 1) (atM (IntKind.i64.wrap (IntKind.i64.wrap (Int.ofNat 2 * x.i) + Int.ofNat 1)) c.H (Int.ofNat 4) (Int.ofNat 1)) (x.m.val v.n (atM (IntKind.i64.wrap (IntKind.i64.wrap (Int.ofNat 2 * x.i) + Int.ofNat 1)) c.H (Int.ofNat 4) (Int.ofNat 1)))) fun (x_2 : Mm) => nN [(8, .lt2 0 1 0 1)] (V.br (decide (x.m.val v.n (atM (IntKind.i64.wrap (IntKind.i64.wrap (Int.ofNat 2 * x.i) + Int.ofNat 1)) c.H (Int.ofNat 4) (Int.ofNat 1)) < x.y))
 (nN [(6, .lt2 0 1 0 1)] (V.br (decide (IntKind.i64.wrap (IntKind.i64.wrap (IntKind.i64.wrap (Int.ofNat 2 * x.i) + Int.ofNat 1) + Int.ofNat 1) < IntKind.i64.wrap (x.n - Int.ofNat 1)))
 (qRj109 x (V.any (Int × Int) (fun (x : Int × Int) => True) fun (x_3 : Int × Int) => nN (qRj123 (qE true :: (6, .lt 0 1) :: qRj72 (qRj77 x c [(1, .eqI 1 1)]))) (qRj37 x c (nN (qRj103 c v []) (qRj100 x.m x v v.x x.l (qRj50 x.l x x.m v c (V.any Mm (fun (m' : Mm) => m' = x.m.acc v.n (Int.ofNat 1) (atM (IntKind.i64.wrap (IntKind.i64.wrap (Int.ofNat 2 * x.i) + Int.ofNat 1)) c.H (Int.ofNat 4) (Int.ofNat 1)) (x.m.val v.n (atM (IntKind.i64.wrap (IntKind.i64.wrap (Int.ofNat 2 * x.i) + Int.ofNat 1)) c.H (Int.ofNat 4) (Int.ofNat 1)))) fun (x_4 : Mm) => nN (qRj132 []) (V.br (decide (IntKind.i64.wrap (IntKind.i64.wrap (Int.ofNat 2 * x.i) + Int.ofNat 2) ≥ IntKind.i64.wrap (x.n - Int.ofNat 1)))
 (qRj115 x.m v x c (qRj126 v.x v x.l x x_2 x.l.v x_4 (qRj49 v x_2 x.m J1 x c x.l (nN [qE v.n] (qRj107 v x_2 c x_4 x v.x x.l (nN (qE w :: (1, .eqI 6 6) :: qE x.n :: qRj32 x (qRj128 x x.m v c (qRj53 cf []))) (V.need (Int.ofNat 7 = Int.ofNat 6) (nN (qE w :: qRj32 x (qE x.n :: qRj128 x x.m v c (qRj44 c v.x v x.l x x.l.v []))) V.ok))))))))
 (qRj126 v.x v x.l x x_2 x.l.v x_4 (qRj49 v x_2 x.m J1 x c x.l (nN [qE v.n] (qRj107 v x_2 c x_4 x v.x x.l (nN (qE w :: (1, .eqI 6 6) :: qE x.n :: qRj32 x (qRj128 x x.m v c [])) (qRj131 cf (nN (qE w :: qRj32 x (qE x.n :: qRj128 x x.m v c (qRj44 c v.x v x.l x x.l.v []))) V.ok)))))))))))))))
 (qRj109 x (V.any (Int × Int) (fun (x : Int × Int) => True) fun (x_3 : Int × Int) => nN (qRj123 (qE true :: (6, .lt 0 1) :: qRj72 (qRj77 x c [(1, .eqI 1 1)]))) (qRj37 x c (nN (qRj103 c v []) (qRj100 x.m x v v.x x.l (qRj50 x.l x x.m v c (V.any Mm (fun (m' : Mm) => m' = x.m.acc v.n (Int.ofNat 1) (atM (IntKind.i64.wrap (IntKind.i64.wrap (Int.ofNat 2 * x.i) + Int.ofNat 1)) c.H (Int.ofNat 4) (Int.ofNat 1)) (x.m.val v.n (atM (IntKind.i64.wrap (IntKind.i64.wrap (Int.ofNat 2 * x.i) + Int.ofNat 1)) c.H (Int.ofNat 4) (Int.ofNat 1)))) fun (x_4 : Mm) => nN (qRj132 []) (V.br (decide (IntKind.i64.wrap (IntKind.i64.wrap (Int.ofNat 2 * x.i) + Int.ofNat 2) ≥ IntKind.i64.wrap (x.n - Int.ofNat 1)))
 (qRj115 x.m v x c (qRj126 v.x v x.l x x_2 x.l.v x_4 (qRj95 v x_2 x.m J1 x c x.l (nN [qE v.n] (qRj107 v x_2 c x_4 x v.x x.l (nN (qE w :: (1, .eqI 7 7) :: qE x.n :: qRj32 x (qRj128 x x.m v c (qRj53 cf ((1, .eqI 7 7) :: qE w :: qRj32 x (qE x.n :: qRj128 x x.m v c (qRj44 c v.x v x.l x x.l.v [])))))) V.ok))))))
 (qRj126 v.x v x.l x x_2 x.l.v x_4 (qRj95 v x_2 x.m J1 x c x.l (nN [qE v.n] (qRj107 v x_2 c x_4 x v.x x.l (nN (qE w :: (1, .eqI 7 7) :: qE x.n :: qRj32 x (qRj128 x x.m v c (qRj53 cf []))) (V.need (IntKind.i64.wrap (Int.ofNat 5 + Int.ofNat 1) = Int.ofNat 7) (nN (qE w :: qRj32 x (qE x.n :: qRj128 x x.m v c (qRj44 c v.x v x.l x x.l.v []))) V.ok)))))))))))))))))
 (nN [(6, .lt2 0 1 0 1)] (V.br (decide (IntKind.i64.wrap (IntKind.i64.wrap (IntKind.i64.wrap (Int.ofNat 2 * x.i) + Int.ofNat 1) + Int.ofNat 1) < IntKind.i64.wrap (x.n - Int.ofNat 1)))
 (qRj109 x (V.any (Int × Int) (fun (x : Int × Int) => True) fun (x_3 : Int × Int) => nN (qRj123 (qE true :: (6, .lt 0 1) :: qRj72 (qRj77 x c [(1, .eqI 1 1)]))) (qRj37 x c (nN (qRj103 c v []) (qRj100 x.m x v v.x x.l (qRj50 x.l x x.m v c (V.any Mm (fun (m' : Mm) => m' = x.m.acc v.n (Int.ofNat 1) (atM (IntKind.i64.wrap (IntKind.i64.wrap (Int.ofNat 2 * x.i) + Int.ofNat 1)) c.H (Int.ofNat 4) (Int.ofNat 1)) (x.m.val v.n (atM (IntKind.i64.wrap (IntKind.i64.wrap (Int.ofNat 2 * x.i) + Int.ofNat 1)) c.H (Int.ofNat 4) (Int.ofNat 1)))) fun (x_4 : Mm) => nN (qRj132 []) (V.br (decide (IntKind.i64.wrap (IntKind.i64.wrap (Int.ofNat 2 * x.i) + Int.ofNat 2) ≥ IntKind.i64.wrap (x.n - Int.ofNat 1)))
 (qRj113 x.m v x c (qRj126 v.x v x.l x x_2 x.l.v x_4 (qRj49 v x_2 x.m J1 x c x.l (nN [qE v.n] (qRj107 v x_2 c x_4 x v.x x.l (nN (qE w :: (1, .eqI 6 6) :: qE x.n :: qRj32 x (qRj128 x x.m v c (qRj53 cf []))) (V.need (Int.ofNat 8 = Int.ofNat 6) (nN (qE w :: qRj32 x (qE x.n :: qRj128 x x.m v c (qRj44 c v.x v x.l x x.l.v []))) V.ok))))))))
 (qRj126 v.x v x.l x x_2 x.l.v x_4 (qRj49 v x_2 x.m J1 x c x.l (nN [qE v.n] (qRj107 v x_2 c x_4 x v.x x.l (nN (qE w :: (1, .eqI 6 6) :: qE x.n :: qRj32 x (qRj128 x x.m v c [])) (qRj131 cf (nN (qE w :: qRj32 x (qE x.n :: qRj128 x x.m v c (qRj44 c v.x v x.l x x.l.v []))) V.ok)))))))))))))))
 (qRj109 x (V.any (Int × Int) (fun (x : Int × Int) => True) fun (x_3 : Int × Int) => nN (qRj123 (qE true :: (6, .lt 0 1) :: qRj72 (qRj77 x c [(1, .eqI 1 1)]))) (qRj37 x c (nN (qRj103 c v []) (qRj100 x.m x v v.x x.l (qRj50 x.l x x.m v c (V.any Mm (fun (m' : Mm) => m' = x.m.acc v.n (Int.ofNat 1) (atM (IntKind.i64.wrap (IntKind.i64.wrap (Int.ofNat 2 * x.i) + Int.ofNat 1)) c.H (Int.ofNat 4) (Int.ofNat 1)) (x.m.val v.n (atM (IntKind.i64.wrap (IntKind.i64.wrap (Int.ofNat 2 * x.i) + Int.ofNat 1)) c.H (Int.ofNat 4) (Int.ofNat 1)))) fun (x_4 : Mm) => nN (qRj132 []) (V.br (decide (IntKind.i64.wrap (IntKind.i64.wrap (Int.ofNat 2 * x.i) + Int.ofNat 2) ≥ IntKind.i64.wrap (x.n - Int.ofNat 1)))
 (qRj113 x.m v x c (qRj126 v.x v x.l x x_2 x.l.v x_4 (qRj96 v x_2 x.m J1 x c x.l (nN [qE v.n] (qRj107 v x_2 c x_4 x v.x x.l (nN (qRj133 w (qE x.n :: qRj32 x (qRj128 x x.m v c (qRj53 cf ((1, .eqI 8 8) :: qE w :: qRj32 x (qE x.n :: qRj128 x x.m v c (qRj44 c v.x v x.l x x.l.v []))))))) V.ok))))))
 (qRj126 v.x v x.l x x_2 x.l.v x_4 (qRj96 v x_2 x.m J1 x c x.l (nN [qE v.n] (qRj107 v x_2 c x_4 x v.x x.l (nN (qRj133 w (qE x.n :: qRj32 x (qRj128 x x.m v c (qRj53 cf [])))) (V.need (IntKind.i64.wrap (Int.ofNat 5 + Int.ofNat 1) = Int.ofNat 8) (nN (qE w :: qRj32 x (qE x.n :: qRj128 x x.m v c (qRj44 c v.x v x.l x x.l.v []))) V.ok)))))))))))))))))))))))
 (V.any XRj (J1 x.s) fun (x_2 : XRj) => nN (qE v.n :: qRj76 v x_2.m c x_2 v.x x_2.l w cf x_2.l.v []) (V.any Bool (fun (x : Bool) => True) fun (x_3 : Bool) => V.br x_3
 (V.br (decide (x.s < (↑ln : Int)))
 (qRj85 x ln (V.br ((g (0 + x.s.toNat)).tmod (Int.ofNat 3) == Int.ofNat 1)
 (qRj127 x ln (nN (qRj43 g x (qE v.n :: qRj41 v x_2.m c x_2 v.x (qRj68 x_2.l x_2 []))) (qRj93 v x_2.m v.x (qRj42 x_2.l x_2 (qRj52 v x_2.m (V.any Mm (okMw (x_2.m.ct + Int.ofNat 1)) fun (x_4 : Mm) => qRj75 J2 x x_4 x_2 x_2.l v c v.x w cf x_2.l.v V.ok))))))
 (qRj75 J2 x x_2.m x_2 x_2.l v c v.x w cf x_2.l.v V.ok)))
 (qRj75 J2 x x_2.m x_2 x_2.l v c v.x w cf x_2.l.v V.ok))
 (V.any XRj (J2 x.s) fun (x_4 : XRj) => nN (qE v.n :: qRj76 v x_4.m c x_4 v.x x_4.l w cf x_4.l.v []) (V.any Bool (fun (x : Bool) => True) fun (x_5 : Bool) => V.br x_5
 (V.br (decide (x.s < (↑ln : Int)))
 (qRj124 x ln (V.br ((g (0 + x.s.toNat)).tmod (Int.ofNat 13) == Int.ofNat 5)
 (qRj45 J2 x x_4.m x_4 x_4.l v (nN (qRj30 v x_4.m c (qRj55 x_4 v (qRj34 v.x v (qRj68 x_4.l x_4 (qRj27 v x_4.m (qRj55 x_4 v (qRj74 w x_4 cf c v.x v x_4.l x_4.l.v []))))))) V.ok))
 (qRj75 J2 x x_4.m x_4 x_4.l v c v.x w cf x_4.l.v V.ok)))
 (qRj75 J2 x x_4.m x_4 x_4.l v c v.x w cf x_4.l.v V.ok))
 (V.any XRj (J2 x.s) fun (x_6 : XRj) => V.br (x.s == Int.ofNat 2)
 (qRj112 I x_6 x x_6.m x_6.l v c v.x (nN [qE w] (qRj92 x_6 (nN [qE cf] (qRj120 cf x_6 w c v.x v x_6.l x_6.l.v V.ok)))))
 (qRj112 I x_6 x x_6.m x_6.l v c v.x (nN [qE w] (qRj92 x_6 (nN [qE cf] (qRj120 cf x_6 w c v.x v x_6.l x_6.l.v V.ok))))))))))))
 (V.need True V.ok))
 V.ok))) := by kernel_rfl

set_option maxHeartbeats 8000000 in
theorem vRj5_eq (c : Cf) (v : Ev) (w : Int) (cf ln lc : Nat) (g : Nat → Int) (I : Nat × XRj → Prop) (J1 J2 : Int → XRj → Prop) : V.pr (.b (.b (.b (.f (.t (.b (.b (.f (.f (.f (.f (.f (.t (.t (.t (.f .z))))))))) (.f (.f (.f (.f (.f (.t (.t (.f (.f .z)))))))))) (.b (.f (.f (.f (.f (.f (.t (.f (.t (.f .z))))))))) (.f (.f (.f (.f (.f (.t (.f (.f (.f .z))))))))))))) .z) .z) .z) (vRjO 5 c v w cf ln lc g I J1 J2) =
  qRj10 I v.m v (nN (qE v.n :: qRj30 v v.m c (qRj134 v v.x (qRj135 v v.m (qRj102 w (qRj53 cf (qRj102 w (qRj40 c v.x v (qRj136 v [])))))))) (qRj69 I (V.any Bool (fun (x : Bool) => True) fun (b : Bool) => V.br b
 (V.any XRj (fun (x : XRj) => I (5, x)) fun (x : XRj) => V.br (decide (x.s < Int.ofNat 200))
 (nN (qRj111 v x.m c x v.x x.l (qE w :: (1, .eqI 6 6) :: qRj122 x cf ((1, .eqI 6 6) :: qRj73 w x c v.x v x.l x.l.v []))) (V.any Bool (fun (x : Bool) => True) fun (x_1 : Bool) => V.br x_1
 (qRj137 v x.m (nN ((16, .lt2 0 1 0 1) :: qRj116 ((14, .lt2 0 1 0 1) :: qRj78 x c (qRj117 []))) (qRj38 x c (nN (qE v.n :: qRj24 v x.m [qX (x.m.acc v.n (Int.ofNat 1) (atM (IntKind.i64.wrap (IntKind.i64.wrap (Int.ofNat 2 * x.i) + Int.ofNat 2)) c.H (Int.ofNat 4) (Int.ofNat 1)) (x.m.val v.n (atM (IntKind.i64.wrap (IntKind.i64.wrap (Int.ofNat 2 * x.i) + Int.ofNat 2)) c.H (Int.ofNat 4) (Int.ofNat 1))))]) (V.any Mm (fun (m' : Mm) => m' = x.m.acc v.n (Int.ofNat 1) (atM (IntKind.i64.wrap (IntKind.i64.wrap (Int.ofNat 2 * x.i) + Int.ofNat 2)) c.H (Int.ofNat 4) (Int.ofNat 1)) (x.m.val v.n (atM (IntKind.i64.wrap (IntKind.i64.wrap (Int.ofNat 2 * x.i) + Int.ofNat 2)) c.H (Int.ofNat 4) (Int.ofNat 1)))) fun (x_2 : Mm) => V.br (decide (x.m.val v.n (atM (IntKind.i64.wrap (IntKind.i64.wrap (Int.ofNat 2 * x.i) + Int.ofNat 2)) c.H (Int.ofNat 4) (Int.ofNat 1)) < x.z))
 (nN [(6, .lt2 0 1 0 1)] (V.br (decide (x.m.val v.n (atM (IntKind.i64.wrap (IntKind.i64.wrap (Int.ofNat 2 * x.i) + Int.ofNat 2)) c.H (Int.ofNat 4) (Int.ofNat 1)) < x.y))
 (qRj109 x (V.any (Int × Int) (fun (x : Int × Int) => True) fun (x_3 : Int × Int) => nN (qRj123 (qRj116 (qRj72 (qRj78 x c [(1, .eqI 1 1)])))) (qRj38 x c (nN (qRj103 c v []) (qRj100 x.m x v v.x x.l (qRj51 x.l x x.m v c (V.any Mm (fun (m' : Mm) => m' = x.m.acc v.n (Int.ofNat 1) (atM (IntKind.i64.wrap (IntKind.i64.wrap (Int.ofNat 2 * x.i) + Int.ofNat 2)) c.H (Int.ofNat 4) (Int.ofNat 1)) (x.m.val v.n (atM (IntKind.i64.wrap (IntKind.i64.wrap (Int.ofNat 2 * x.i) + Int.ofNat 2)) c.H (Int.ofNat 4) (Int.ofNat 1)))) fun (x_4 : Mm) => qRj118 x.m v x c (nN [(9, .lt 0 1), (6, .lt2 0 1 0 1)] (V.need (decide (x.m.val v.n (atM (IntKind.i64.wrap (IntKind.i64.wrap (Int.ofNat 2 * x.i) + Int.ofNat 2)) c.H (Int.ofNat 4) (Int.ofNat 1)) < x.y) = true) (qRj126 v.x v x.l x x_2 x.l.v x_4 (qRj17 v x_2 x.m (V.need (J1 x.s (XRj.mk x.s x_2 x.now (Int.ofNat 7) x.n x.i (IntKind.i64.wrap (IntKind.i64.wrap (Int.ofNat 2 * x.i) + Int.ofNat 2)) x.x x.y (x.m.val v.n (atM (IntKind.i64.wrap (IntKind.i64.wrap (Int.ofNat 2 * x.i) + Int.ofNat 2)) c.H (Int.ofNat 4) (Int.ofNat 1))) x.l x.na x.nb)) (nN [qE v.n] (qRj107 v x_2 c x_4 x v.x x.l (nN (qE w :: (1, .eqI 7 7) :: qE x.n :: qRj86 x (qRj70 x x.m v c (qRj53 cf ((1, .eqI 7 7) :: qE w :: qRj86 x (qE x.n :: qRj70 x x.m v c (qRj44 c v.x v x.l x x.l.v [])))))) V.ok)))))))))))))))
 (qRj109 x (V.any (Int × Int) (fun (x : Int × Int) => True) fun (x_3 : Int × Int) => nN (qRj123 (qRj116 (qRj72 (qRj78 x c [(1, .eqI 1 1)])))) (qRj38 x c (nN (qRj103 c v []) (qRj100 x.m x v v.x x.l (qRj51 x.l x x.m v c (V.any Mm (fun (m' : Mm) => m' = x.m.acc v.n (Int.ofNat 1) (atM (IntKind.i64.wrap (IntKind.i64.wrap (Int.ofNat 2 * x.i) + Int.ofNat 2)) c.H (Int.ofNat 4) (Int.ofNat 1)) (x.m.val v.n (atM (IntKind.i64.wrap (IntKind.i64.wrap (Int.ofNat 2 * x.i) + Int.ofNat 2)) c.H (Int.ofNat 4) (Int.ofNat 1)))) fun (x_4 : Mm) => qRj118 x.m v x c (nN [(9, .lt 0 1), (6, .lt2 0 1 0 1)] (V.need (decide (x.m.val v.n (atM (IntKind.i64.wrap (IntKind.i64.wrap (Int.ofNat 2 * x.i) + Int.ofNat 2)) c.H (Int.ofNat 4) (Int.ofNat 1)) < x.y) = false) (qRj126 v.x v x.l x x_2 x.l.v x_4 (qRj17 v x_2 x.m (V.need (J1 x.s (XRj.mk x.s x_2 x.now (Int.ofNat 8) x.n x.i (IntKind.i64.wrap (IntKind.i64.wrap (Int.ofNat 2 * x.i) + Int.ofNat 2)) x.x x.y (x.m.val v.n (atM (IntKind.i64.wrap (IntKind.i64.wrap (Int.ofNat 2 * x.i) + Int.ofNat 2)) c.H (Int.ofNat 4) (Int.ofNat 1))) x.l x.na x.nb)) (nN [qE v.n] (qRj107 v x_2 c x_4 x v.x x.l (nN (qRj133 w (qE x.n :: qRj86 x (qRj70 x x.m v c (qRj53 cf ((1, .eqI 8 8) :: qE w :: qRj86 x (qE x.n :: qRj70 x x.m v c (qRj44 c v.x v x.l x x.l.v []))))))) V.ok)))))))))))))))))
 (nN [(6, .lt2 0 1 0 1)] (V.br (decide (x.z < x.y))
 (qRj109 x (V.any (Int × Int) (fun (x : Int × Int) => True) fun (x_3 : Int × Int) => nN (qRj123 (qRj116 (qRj72 (qRj78 x c [(1, .eqI 1 1)])))) (qRj38 x c (nN (qRj103 c v []) (qRj100 x.m x v v.x x.l (qRj51 x.l x x.m v c (V.any Mm (fun (m' : Mm) => m' = x.m.acc v.n (Int.ofNat 1) (atM (IntKind.i64.wrap (IntKind.i64.wrap (Int.ofNat 2 * x.i) + Int.ofNat 2)) c.H (Int.ofNat 4) (Int.ofNat 1)) (x.m.val v.n (atM (IntKind.i64.wrap (IntKind.i64.wrap (Int.ofNat 2 * x.i) + Int.ofNat 2)) c.H (Int.ofNat 4) (Int.ofNat 1)))) fun (x_4 : Mm) => nN [(3, .lt 0 1)] (qRj114 x.m v x c (V.need (decide (x.z < x.y) = true) (qRj126 v.x v x.l x x_2 x.l.v x_4 (qRj17 v x_2 x.m (V.need (J1 x.s (XRj.mk x.s x_2 x.now (Int.ofNat 7) x.n x.i x.c x.x x.y x.z x.l x.na x.nb)) (nN [qE v.n] (qRj107 v x_2 c x_4 x v.x x.l (nN (qE w :: (1, .eqI 7 7) :: qRj122 x cf ((1, .eqI 7 7) :: qRj73 w x c v.x v x.l x.l.v [])) V.ok)))))))))))))))
 (qRj109 x (V.any (Int × Int) (fun (x : Int × Int) => True) fun (x_3 : Int × Int) => nN (qRj123 (qRj116 (qRj72 (qRj78 x c [(1, .eqI 1 1)])))) (qRj38 x c (nN (qRj103 c v []) (qRj100 x.m x v v.x x.l (qRj51 x.l x x.m v c (V.any Mm (fun (m' : Mm) => m' = x.m.acc v.n (Int.ofNat 1) (atM (IntKind.i64.wrap (IntKind.i64.wrap (Int.ofNat 2 * x.i) + Int.ofNat 2)) c.H (Int.ofNat 4) (Int.ofNat 1)) (x.m.val v.n (atM (IntKind.i64.wrap (IntKind.i64.wrap (Int.ofNat 2 * x.i) + Int.ofNat 2)) c.H (Int.ofNat 4) (Int.ofNat 1)))) fun (x_4 : Mm) => nN [(3, .lt 0 1)] (qRj114 x.m v x c (V.need (decide (x.z < x.y) = false) (qRj126 v.x v x.l x x_2 x.l.v x_4 (qRj17 v x_2 x.m (V.need (J1 x.s (XRj.mk x.s x_2 x.now (Int.ofNat 8) x.n x.i x.c x.x x.y x.z x.l x.na x.nb)) (nN [qE v.n] (qRj107 v x_2 c x_4 x v.x x.l (nN (qRj133 w (qRj122 x cf ((1, .eqI 8 8) :: qRj73 w x c v.x v x.l x.l.v []))) V.ok))))))))))))))))))))))
 (V.any XRj (J1 x.s) fun (x_2 : XRj) => nN (qE v.n :: qRj76 v x_2.m c x_2 v.x x_2.l w cf x_2.l.v []) (V.any Bool (fun (x : Bool) => True) fun (x_3 : Bool) => V.br x_3
 (V.br (decide (x.s < (↑ln : Int)))
 (qRj85 x ln (V.br ((g (0 + x.s.toNat)).tmod (Int.ofNat 3) == Int.ofNat 1)
 (qRj127 x ln (nN (qRj43 g x (qE v.n :: qRj41 v x_2.m c x_2 v.x (qRj68 x_2.l x_2 []))) (qRj93 v x_2.m v.x (qRj42 x_2.l x_2 (qRj52 v x_2.m (V.any Mm (okMw (x_2.m.ct + Int.ofNat 1)) fun (x_4 : Mm) => qRj75 J2 x x_4 x_2 x_2.l v c v.x w cf x_2.l.v V.ok))))))
 (qRj75 J2 x x_2.m x_2 x_2.l v c v.x w cf x_2.l.v V.ok)))
 (qRj75 J2 x x_2.m x_2 x_2.l v c v.x w cf x_2.l.v V.ok))
 (V.any XRj (J2 x.s) fun (x_4 : XRj) => nN (qE v.n :: qRj76 v x_4.m c x_4 v.x x_4.l w cf x_4.l.v []) (V.any Bool (fun (x : Bool) => True) fun (x_5 : Bool) => V.br x_5
 (V.br (decide (x.s < (↑ln : Int)))
 (qRj124 x ln (V.br ((g (0 + x.s.toNat)).tmod (Int.ofNat 13) == Int.ofNat 5)
 (qRj45 J2 x x_4.m x_4 x_4.l v (nN (qRj30 v x_4.m c (qRj55 x_4 v (qRj34 v.x v (qRj68 x_4.l x_4 (qRj27 v x_4.m (qRj55 x_4 v (qRj74 w x_4 cf c v.x v x_4.l x_4.l.v []))))))) V.ok))
 (qRj75 J2 x x_4.m x_4 x_4.l v c v.x w cf x_4.l.v V.ok)))
 (qRj75 J2 x x_4.m x_4 x_4.l v c v.x w cf x_4.l.v V.ok))
 (V.any XRj (J2 x.s) fun (x_6 : XRj) => V.br (x.s == Int.ofNat 2)
 (qRj112 I x_6 x x_6.m x_6.l v c v.x (nN [qE w] (qRj92 x_6 (nN [qE cf] (qRj120 cf x_6 w c v.x v x_6.l x_6.l.v V.ok)))))
 (qRj112 I x_6 x x_6.m x_6.l v c v.x (nN [qE w] (qRj92 x_6 (nN [qE cf] (qRj120 cf x_6 w c v.x v x_6.l x_6.l.v V.ok))))))))))))
 (V.need True V.ok))
 V.ok))) := by kernel_rfl

set_option maxHeartbeats 8000000 in
theorem vRj6_eq (c : Cf) (v : Ev) (w : Int) (cf ln lc : Nat) (g : Nat → Int) (I : Nat × XRj → Prop) (J1 J2 : Int → XRj → Prop) : V.pr (.b (.b (.b (.f (.f (.t (.b (.f (.f (.f (.f (.f (.f (.t (.t (.f .z))))))))) (.f (.f (.f (.f (.f (.f (.t (.f (.f .z))))))))))))) .z) .z) .z) (vRjO 6 c v w cf ln lc g I J1 J2) =
  qRj10 I v.m v (nN (qE v.n :: qRj30 v v.m c (qRj134 v v.x (qRj135 v v.m (qRj102 w (qRj53 cf (qRj102 w (qRj40 c v.x v (qRj136 v [])))))))) (qRj69 I (V.any Bool (fun (x : Bool) => True) fun (b : Bool) => V.br b
 (V.any XRj (fun (x : XRj) => I (6, x)) fun (x : XRj) => V.br (decide (x.s < Int.ofNat 200))
 (nN (qRj111 v x.m c x v.x x.l (qE w :: (1, .eqI 7 7) :: qRj122 x cf ((1, .eqI 7 7) :: qRj73 w x c v.x v x.l x.l.v []))) (V.any Bool (fun (x : Bool) => True) fun (x_1 : Bool) => V.br x_1
 (qRj137 v x.m (nN (qRj104 (qE true :: (14, .lt2 0 1 0 1) :: qE x.i :: qE c.H :: qRj117 [])) (qRj99 x c (nN (qE x.z :: qE v.n :: qRj24 v x.m [qX (x.m.acc v.n (Int.ofNat 2) (atM x.i c.H (Int.ofNat 4) (Int.ofNat 1)) x.z)]) (V.any Mm (fun (m' : Mm) => m' = x.m.acc v.n (Int.ofNat 2) (atM x.i c.H (Int.ofNat 4) (Int.ofNat 1)) x.z) fun (x_2 : Mm) => nN [(6, .lt2 0 1 0 1)] (V.br (decide (IntKind.i64.wrap (IntKind.i64.wrap (Int.ofNat 2 * x.c) + Int.ofNat 1) < IntKind.i64.wrap (x.n - Int.ofNat 1)))
 (qRj109 x (V.any (Int × Int) (fun (x : Int × Int) => True) fun (x_3 : Int × Int) => nN (qRj123 (qRj59 (qE true :: qRj72 [qE x.i, qE c.H, (1, .eqI 1 1)]))) (qRj99 x c (nN (qE x.z :: qRj138 c v []) (qRj100 x.m x v v.x x.l (qRj42 x.l x (nN [qX (x.m.acc v.n (Int.ofNat 2) (atM x.i c.H (Int.ofNat 4) (Int.ofNat 1)) x.z)] (V.any Mm (fun (m' : Mm) => m' = x.m.acc v.n (Int.ofNat 2) (atM x.i c.H (Int.ofNat 4) (Int.ofNat 1)) x.z) fun (x_4 : Mm) => nN [(6, .lt 0 1), (6, .lt2 0 1 0 1)] (V.need (decide (IntKind.i64.wrap (IntKind.i64.wrap (Int.ofNat 2 * x.c) + Int.ofNat 1) < IntKind.i64.wrap (x.n - Int.ofNat 1)) = true) (qRj126 v.x v x.l x x_2 x.l.v x_4 (qRj17 v x_2 x.m (V.need (J1 x.s (XRj.mk x.s x_2 x.now (Int.ofNat 5) x.n x.c x.c x.x x.y x.z x.l x.na x.nb)) (nN [qE v.n] (qRj107 v x_2 c x_4 x v.x x.l (nN (qE w :: (1, .eqI 5 5) :: qE x.n :: qE x.c :: qE x.c :: qRj20 x (qRj53 cf ((1, .eqI 5 5) :: qE w :: qE x.c :: qE x.c :: qRj36 x (qRj44 c v.x v x.l x x.l.v [])))) V.ok)))))))))))))))
 (qRj109 x (V.any (Int × Int) (fun (x : Int × Int) => True) fun (x_3 : Int × Int) => nN (qRj123 (qRj59 (qE true :: qRj72 [qE x.i, qE c.H, (1, .eqI 1 1)]))) (qRj99 x c (nN (qE x.z :: qRj138 c v []) (qRj100 x.m x v v.x x.l (qRj42 x.l x (nN [qX (x.m.acc v.n (Int.ofNat 2) (atM x.i c.H (Int.ofNat 4) (Int.ofNat 1)) x.z)] (V.any Mm (fun (m' : Mm) => m' = x.m.acc v.n (Int.ofNat 2) (atM x.i c.H (Int.ofNat 4) (Int.ofNat 1)) x.z) fun (x_4 : Mm) => nN [(6, .lt 0 1), (6, .lt2 0 1 0 1)] (V.need (decide (IntKind.i64.wrap (IntKind.i64.wrap (Int.ofNat 2 * x.c) + Int.ofNat 1) < IntKind.i64.wrap (x.n - Int.ofNat 1)) = false) (qRj126 v.x v x.l x x_2 x.l.v x_4 (qRj17 v x_2 x.m (V.need (J1 x.s (XRj.mk x.s x_2 x.now (Int.ofNat 8) x.n x.c x.c x.x x.y x.z x.l x.na x.nb)) (nN [qE v.n] (qRj107 v x_2 c x_4 x v.x x.l (nN (qRj133 w (qE x.n :: qE x.c :: qE x.c :: qRj20 x (qRj53 cf ((1, .eqI 8 8) :: qE w :: qE x.c :: qE x.c :: qRj36 x (qRj44 c v.x v x.l x x.l.v []))))) V.ok)))))))))))))))))))))
 (V.any XRj (J1 x.s) fun (x_2 : XRj) => nN (qE v.n :: qRj76 v x_2.m c x_2 v.x x_2.l w cf x_2.l.v []) (V.any Bool (fun (x : Bool) => True) fun (x_3 : Bool) => V.br x_3
 (V.br (decide (x.s < (↑ln : Int)))
 (qRj85 x ln (V.br ((g (0 + x.s.toNat)).tmod (Int.ofNat 3) == Int.ofNat 1)
 (qRj127 x ln (nN (qRj43 g x (qE v.n :: qRj41 v x_2.m c x_2 v.x (qRj68 x_2.l x_2 []))) (qRj93 v x_2.m v.x (qRj42 x_2.l x_2 (qRj52 v x_2.m (V.any Mm (okMw (x_2.m.ct + Int.ofNat 1)) fun (x_4 : Mm) => qRj75 J2 x x_4 x_2 x_2.l v c v.x w cf x_2.l.v V.ok))))))
 (qRj75 J2 x x_2.m x_2 x_2.l v c v.x w cf x_2.l.v V.ok)))
 (qRj75 J2 x x_2.m x_2 x_2.l v c v.x w cf x_2.l.v V.ok))
 (V.any XRj (J2 x.s) fun (x_4 : XRj) => nN (qE v.n :: qRj76 v x_4.m c x_4 v.x x_4.l w cf x_4.l.v []) (V.any Bool (fun (x : Bool) => True) fun (x_5 : Bool) => V.br x_5
 (V.br (decide (x.s < (↑ln : Int)))
 (qRj124 x ln (V.br ((g (0 + x.s.toNat)).tmod (Int.ofNat 13) == Int.ofNat 5)
 (qRj45 J2 x x_4.m x_4 x_4.l v (nN (qRj30 v x_4.m c (qRj55 x_4 v (qRj34 v.x v (qRj68 x_4.l x_4 (qRj27 v x_4.m (qRj55 x_4 v (qRj74 w x_4 cf c v.x v x_4.l x_4.l.v []))))))) V.ok))
 (qRj75 J2 x x_4.m x_4 x_4.l v c v.x w cf x_4.l.v V.ok)))
 (qRj75 J2 x x_4.m x_4 x_4.l v c v.x w cf x_4.l.v V.ok))
 (V.any XRj (J2 x.s) fun (x_6 : XRj) => V.br (x.s == Int.ofNat 2)
 (qRj112 I x_6 x x_6.m x_6.l v c v.x (nN [qE w] (qRj92 x_6 (nN [qE cf] (qRj120 cf x_6 w c v.x v x_6.l x_6.l.v V.ok)))))
 (qRj112 I x_6 x x_6.m x_6.l v c v.x (nN [qE w] (qRj92 x_6 (nN [qE cf] (qRj120 cf x_6 w c v.x v x_6.l x_6.l.v V.ok))))))))))))
 (V.need True V.ok))
 V.ok))) := by kernel_rfl

set_option maxHeartbeats 8000000 in
theorem vRj7_eq (c : Cf) (v : Ev) (w : Int) (cf ln lc : Nat) (g : Nat → Int) (I : Nat × XRj → Prop) (J1 J2 : Int → XRj → Prop) : V.pr (.b (.b (.b (.f (.f (.f (.t (.f (.f (.f (.f (.f (.f (.f (.f (.t .z))))))))))))) .z) .z) .z) (vRjO 7 c v w cf ln lc g I J1 J2) =
  qRj10 I v.m v (nN (qE v.n :: qRj30 v v.m c (qRj134 v v.x (qRj135 v v.m (qRj102 w (qRj53 cf (qRj102 w (qRj40 c v.x v (qRj136 v [])))))))) (qRj69 I (V.any Bool (fun (x : Bool) => True) fun (b : Bool) => V.br b
 (V.any XRj (fun (x : XRj) => I (7, x)) fun (x : XRj) => V.br (decide (x.s < Int.ofNat 200))
 (nN (qRj111 v x.m c x v.x x.l (qRj133 w (qRj122 x cf ((1, .eqI 8 8) :: qRj73 w x c v.x v x.l x.l.v [])))) (V.any Bool (fun (x : Bool) => True) fun (x_1 : Bool) => V.br x_1
 (qRj137 v x.m (nN (qRj104 (qRj116 ((14, .lt2 0 1 0 1) :: qE x.i :: qE c.H :: qRj117 []))) (qRj99 x c (nN (qE x.y :: qE v.n :: qRj24 v x.m [qX (x.m.acc v.n (Int.ofNat 2) (atM x.i c.H (Int.ofNat 4) (Int.ofNat 1)) x.y)]) (V.any Mm (fun (m' : Mm) => m' = x.m.acc v.n (Int.ofNat 2) (atM x.i c.H (Int.ofNat 4) (Int.ofNat 1)) x.y) fun (x_2 : Mm) => nN [(5, .lt2 0 1 0 1), (1, .leI 0 40), (1, .leI 0 16)] (qRj109 x (V.any (Int × Int) (fun (x : Int × Int) => True) fun (x_3 : Int × Int) => nN (qRj123 (qRj59 (qE false :: qRj72 [qE x.i, qE c.H, (1, .eqI 1 1)]))) (qRj99 x c (nN (qE x.y :: qRj138 c v []) (qRj100 x.m x v v.x x.l (qRj42 x.l x (nN [qX (x.m.acc v.n (Int.ofNat 2) (atM x.i c.H (Int.ofNat 4) (Int.ofNat 1)) x.y)] (V.any Mm (fun (m' : Mm) => m' = x.m.acc v.n (Int.ofNat 2) (atM x.i c.H (Int.ofNat 4) (Int.ofNat 1)) x.y) fun (x_4 : Mm) => nN [(6, .lt2 0 1 0 1)] (qRj89 cf (nN (qRj39 v.x v []) (qRj125 x.l x v x_2 v.x x.l.v x_4 (qRj17 v x_2 x.m (qRj121 x (nN (qRj39 v.x v [qE x.l.n, qE x.na]) (qRj94 v x_2 x v.x (qRj67 x.l x x.l.v (qRj98 v x_4 x_2 x (qRj91 v.x v x.l x x_4 x_2 x.l.v (V.need True V.ok))))))))))))))))))))))))
 (V.any XRj (J1 x.s) fun (x_2 : XRj) => nN (qE v.n :: qRj76 v x_2.m c x_2 v.x x_2.l w cf x_2.l.v []) (V.any Bool (fun (x : Bool) => True) fun (x_3 : Bool) => V.br x_3
 (V.br (decide (x.s < (↑ln : Int)))
 (qRj85 x ln (V.br ((g (0 + x.s.toNat)).tmod (Int.ofNat 3) == Int.ofNat 1)
 (qRj127 x ln (nN (qRj43 g x (qE v.n :: qRj41 v x_2.m c x_2 v.x (qRj68 x_2.l x_2 []))) (qRj93 v x_2.m v.x (qRj42 x_2.l x_2 (qRj52 v x_2.m (V.any Mm (okMw (x_2.m.ct + Int.ofNat 1)) fun (x_4 : Mm) => qRj75 J2 x x_4 x_2 x_2.l v c v.x w cf x_2.l.v V.ok))))))
 (qRj75 J2 x x_2.m x_2 x_2.l v c v.x w cf x_2.l.v V.ok)))
 (qRj75 J2 x x_2.m x_2 x_2.l v c v.x w cf x_2.l.v V.ok))
 (V.any XRj (J2 x.s) fun (x_4 : XRj) => nN (qE v.n :: qRj76 v x_4.m c x_4 v.x x_4.l w cf x_4.l.v []) (V.any Bool (fun (x : Bool) => True) fun (x_5 : Bool) => V.br x_5
 (V.br (decide (x.s < (↑ln : Int)))
 (qRj124 x ln (V.br ((g (0 + x.s.toNat)).tmod (Int.ofNat 13) == Int.ofNat 5)
 (qRj45 J2 x x_4.m x_4 x_4.l v (nN (qRj30 v x_4.m c (qRj55 x_4 v (qRj34 v.x v (qRj68 x_4.l x_4 (qRj27 v x_4.m (qRj55 x_4 v (qRj74 w x_4 cf c v.x v x_4.l x_4.l.v []))))))) V.ok))
 (qRj75 J2 x x_4.m x_4 x_4.l v c v.x w cf x_4.l.v V.ok)))
 (qRj75 J2 x x_4.m x_4 x_4.l v c v.x w cf x_4.l.v V.ok))
 (V.any XRj (J2 x.s) fun (x_6 : XRj) => V.br (x.s == Int.ofNat 2)
 (qRj112 I x_6 x x_6.m x_6.l v c v.x (nN [qE w] (qRj92 x_6 (nN [qE cf] (qRj120 cf x_6 w c v.x v x_6.l x_6.l.v V.ok)))))
 (qRj112 I x_6 x x_6.m x_6.l v c v.x (nN [qE w] (qRj92 x_6 (nN [qE cf] (qRj120 cf x_6 w c v.x v x_6.l x_6.l.v V.ok))))))))))))
 (V.need True V.ok))
 V.ok))) := by kernel_rfl


end Go.Proofs.YtbidbhfjnfgblaaGreat.En

/- Remove, step by step: the conditions hold. -/
set_option maxRecDepth 100000
namespace Go.Proofs.YtbidbhfjnfgblaaGreat.En
open Go Go.RowKit Sx Cn Dc Ck Vc Md
def rRj (x : XRj) : Prop := wW x.x ∧ wW x.y ∧ wW x.z ∧ (1 ≤ x.ln ∧ x.ln ≤ 8) ∧ (x.ln ≤ 4 → x.i = 0) ∧ x.l.n ≤ x.na ∧ x.l.n ≤ x.nb
def iRj (x : Nat × XRj) : Prop := x.1 < 8 ∧ 0 ≤ x.2.s ∧ okMw (2000000 + 2 * x.2.s) x.2.m ∧ (x.2.l.n : Int) ≤ x.2.s ∧ wW x.2.x ∧ wW x.2.y ∧ wW x.2.z ∧ (x.1 < 4 → x.2.i = 0) ∧ x.2.l.n ≤ x.2.na ∧ x.2.l.n ≤ x.2.nb
def jRj (b q : Int) (x : XRj) : Prop := okMw (2000000 + 2 * q + b) x.m ∧ (x.l.n : Int) ≤ q + 1 ∧ rRj x
section
variable {x y : XRj} {m : Mm} {n : Nat} {k a v : Int} {j : Nat}
theorem rn_x (h : iRj (j, x)) : wW x.x := h.2.2.2.2.1
theorem rn_y (h : iRj (j, x)) : wW x.y := h.2.2.2.2.2.1
theorem rn_z (h : iRj (j, x)) : wW x.z := h.2.2.2.2.2.2.1
theorem rn_v (h : iRj (j, x)) : wW (x.m.val n a) := val_ok h.2.2.1
theorem rn_i0 (h : iRj (j, x)) (hj : j < 4) : x.i = 0 := h.2.2.2.2.2.2.2.1 hj
theorem rn_na (h : iRj (j, x)) : x.l.n ≤ x.na := h.2.2.2.2.2.2.2.2.1
theorem rn_nb (h : iRj (j, x)) : x.l.n ≤ x.nb := h.2.2.2.2.2.2.2.2.2
theorem rn_e (h : iRj (j, x)) : x.l.n ≤ x.na ∧ x.l.n ≤ x.nb ∧ (x.l.n : Int) ≤ x.s + 1 := by
  have h1 : (x.l.n : Int) ≤ x.s := h.2.2.2.1
  exact ⟨rn_na h, rn_nb h, by omega⟩
theorem rn_e1 (h : iRj (j, x)) {a b : Nat} {e : Evs} (ha : x.l.n + 1 ≤ a) (hb : x.l.n + 1 ≤ b) : (El.mk (x.l.n + 1) e).n ≤ a ∧ (El.mk (x.l.n + 1) e).n ≤ b ∧ ((El.mk (x.l.n + 1) e).n : Int) ≤ x.s + 1 := by
  have h1 : (x.l.n : Int) ≤ x.s := h.2.2.2.1
  exact ⟨ha, hb, (by show ((x.l.n + 1 : Nat) : Int) ≤ x.s + 1; omega)⟩
theorem rn_sz (h : iRj (j, x)) (hs : decide (x.s < Int.ofNat 200) = true) : x.l.n + 1 ≤ 9223372036854775807 ∧ (x.l.n + 1) * 40 ≤ 140737488355328 := by
  have h1 : (x.l.n : Int) ≤ x.s := h.2.2.2.1
  have := s_lt hs
  omega
theorem rn_ct (hi : iRj (j, x)) (hs : decide (x.s < Int.ofNat 200) = true) (h : m = x.m.acc n k a v) : decide (m.ct > IntKind.i64.wrap (x.m.ct + Int.ofNat 1)) = false := by
  have := s_lt hs
  cases hb : decide (m.ct > IntKind.i64.wrap (x.m.ct + Int.ofNat 1)) with
  | false => rfl
  | true => exact (ct_no hi.2.2.1 (by show 2000000 + 2 * x.s ≤ 9000000000; omega) hb h).elim
theorem rn_j {now l i n' c xx yy zz : Int} {e : El} {na nb : Nat} (hi : iRj (j, x)) (hs : decide (x.s < Int.ofNat 200) = true) (h : m = x.m.acc n k a v) (hv : wW v) (hx : wW xx) (hy : wW yy) (hz : wW zz) (hl : 1 ≤ l ∧ l ≤ 8) (h0 : l ≤ 4 → i = 0) (he : e.n ≤ na ∧ e.n ≤ nb ∧ (e.n : Int) ≤ x.s + 1) : jRj 1 x.s ⟨x.s, m, now, l, n', i, c, xx, yy, zz, e, na, nb⟩ := by
  have := s_lt hs
  subst h
  exact ⟨okMw_acc hi.2.2.1 (by show 2000000 + 2 * x.s ≤ 9000000000; omega) hv, he.2.2, hx, hy, hz, hl, h0, he.1, he.2.1⟩
theorem rn_i (hi : iRj (j, x)) (hs : decide (x.s < Int.ofNat 200) = true) (h : jRj 2 x.s y) : iRj ((y.ln - Int.ofNat 1).toNat, ⟨IntKind.i64.wrap (x.s + Int.ofNat 1), y.m, y.now, y.ln, y.n, y.i, y.c, y.x, y.y, y.z, y.l, y.na, y.nb⟩) := by
  have h1 := s_lt hs
  have h2 : 0 ≤ x.s := hi.2.1
  have h3 : IntKind.i64.wrap (x.s + Int.ofNat 1) = x.s + 1 := w64 (by simp only [Int.ofNat_eq_natCast]; omega)
  have h4 := h.2.2.2.2.2.1
  rw [h3]
  exact ⟨(by show (y.ln - ((1 : Nat) : Int)).toNat < 8; omega), (by show 0 ≤ x.s + 1; omega), h.1.le (by show _ ≤ 2000000 + 2 * (x.s + 1); omega), h.2.1, h.2.2.1, h.2.2.2.1, h.2.2.2.2.1, fun hq => h.2.2.2.2.2.2.1 (by have hq : (y.ln - ((1 : Nat) : Int)).toNat < 4 := hq; omega), h.2.2.2.2.2.2.2⟩
theorem rn_mu (hi : iRj (j, x)) (hs : decide (x.s < Int.ofNat 200) = true) : (Int.ofNat 200 - IntKind.i64.wrap (x.s + Int.ofNat 1)).toNat < (Int.ofNat 200 - x.s).toNat := by
  have h1 := s_lt hs
  have h2 : 0 ≤ x.s := hi.2.1
  have h3 : IntKind.i64.wrap (x.s + Int.ofNat 1) = x.s + 1 := w64 (by simp only [Int.ofNat_eq_natCast]; omega)
  rw [h3]
  simp only [Int.ofNat_eq_natCast]
  omega
theorem rn_t2 {q s now n' c : Int} (h : jRj 2 q x) : jRj 2 q ⟨s, x.m, now, x.ln, n', x.i, c, x.x, x.y, x.z, x.l, x.na, x.nb⟩ := ⟨h.1, h.2⟩
theorem rn_t1 {q s now n' c : Int} (h : jRj 1 q x) : jRj 2 q ⟨s, x.m, now, x.ln, n', x.i, c, x.x, x.y, x.z, x.l, x.na, x.nb⟩ := ⟨h.1.le (by omega), h.2⟩
theorem rn_td {q s now n' c : Int} (h : jRj 1 q x) (hm : okMw (x.m.ct + Int.ofNat 1) m) : jRj 2 q ⟨s, m, now, x.ln, n', x.i, c, x.x, x.y, x.z, x.l, x.na, x.nb⟩ := ⟨hm.le (by have := h.1.2.2; simp only [Int.ofNat_eq_natCast]; omega), h.2⟩
theorem rn_0 {now ln n c : Int} {e : Evs} {na nb : Nat} (h : okMw 2000000 m) : iRj ((Int.ofNat 1 - Int.ofNat 1).toNat, ⟨Int.ofNat 0, m, now, ln, n, Int.ofNat 0, c, Int.ofNat 0, Int.ofNat 0, Int.ofNat 0, ⟨0, e⟩, na, nb⟩) := ⟨(by show 0 < 8; decide), Int.le_refl 0, h.le (by show (2000000 : Int) ≤ 2000000 + 2 * 0; decide), Int.le_refl 0, z_ok, z_ok, z_ok, fun _ => rfl, Nat.zero_le _, Nat.zero_le _⟩
theorem rn_okcm {c : Cf} {v : Ev} {now : Int} {k : Rk} {e : Evs} (h : okMi c v) (hi : iRj (j, x)) (hs : decide (x.s < Int.ofNat 200) = true) (hk : k = v.x) {ne : Nat} (hn : ne ≤ x.l.n + 1) : okCm ⟨v.n, m, now, k, ne, e⟩ := by
  have h1 := s_lt hs
  have h2 : (x.l.n : Int) ≤ x.s := hi.2.2.2.1
  subst hk
  exact ⟨h.2.2.1, h.2.2.2.1, (by show ne ≤ 1000000; omega)⟩
theorem rn_ln {b q : Int} (h : jRj b q x) : x.ln = Int.ofNat ((x.ln - Int.ofNat 1).toNat + 1) := by
  have := h.2.2.2.2.2.1
  simp only [Int.ofNat_eq_natCast] at *
  omega
theorem rn_di {n : Nat} (hn : n ≤ 1000000) (hi : iRj (j, x)) (hs : decide (x.s < Int.ofNat 200) = true) (h : jRj 1 x.s y) : n ≤ 1000000 ∧ okMw (Int.ofNat 1000000000) y.m := by
  have h1 := s_lt hs
  exact ⟨hn, h.1.le (by simp only [Int.ofNat_eq_natCast]; omega)⟩
theorem rn_ex {q : Int} (h : jRj 1 q y) : ∃ m, okMw (y.m.ct + Int.ofNat 1) m := ⟨y.m, h.1.now.le (by simp only [Int.ofNat_eq_natCast]; omega)⟩
theorem rn_r (hi : iRj (j, x)) (h : decide (x.s < (n : Int)) = true) : Int.ofNat 0 ≤ x.s ∧ x.s < n := ⟨hi.2.1, of_decide_eq_true h⟩
theorem rn_r2 (hi : iRj (j, x)) (h : decide (x.s < (n : Int)) = true) : 0 < 1 ∧ 0 + x.s.toNat < n := by
  have h1 : 0 ≤ x.s := hi.2.1
  have h2 : x.s < n := of_decide_eq_true h
  omega
theorem rn_c1 (hi : iRj (3, x)) (h : decide (IntKind.i64.wrap (IntKind.i64.wrap (Int.ofNat 2 * x.i) + Int.ofNat 1) < a) = true) (h2 : decide (Int.ofNat 1 < a) = false) : False := by
  have e : IntKind.i64.wrap (IntKind.i64.wrap (Int.ofNat 2 * x.i) + Int.ofNat 1) = Int.ofNat 1 := by rw [rn_i0 hi (by decide)]; decide
  rw [e, h2] at h
  cases h
theorem rn_c2 (hi : iRj (3, x)) (h : decide (IntKind.i64.wrap (IntKind.i64.wrap (Int.ofNat 2 * x.i) + Int.ofNat 1) < a) = false) (h2 : decide (Int.ofNat 1 < a) = true) : False := by
  have e : IntKind.i64.wrap (IntKind.i64.wrap (Int.ofNat 2 * x.i) + Int.ofNat 1) = Int.ofNat 1 := by rw [rn_i0 hi (by decide)]; decide
  rw [e, h2] at h
  cases h
end
theorem plus2 (a : Int) : IntKind.i64.wrap (IntKind.i64.wrap (a + Int.ofNat 1) + Int.ofNat 1) = IntKind.i64.wrap (a + Int.ofNat 2) := by
  simp only [IntKind.wrap, IntKind.bits, IntKind.signed, Int.ofNat_eq_natCast]
  simp
  split <;> split <;> omega
theorem rn_p1 {a b : Int} (h : decide (IntKind.i64.wrap (IntKind.i64.wrap (a + Int.ofNat 1) + Int.ofNat 1) < b) = true) (h2 : decide (IntKind.i64.wrap (a + Int.ofNat 2) ≥ b) = true) : False := by
  rw [plus2] at h
  have h := of_decide_eq_true h
  have h2 := of_decide_eq_true h2
  omega
theorem rn_p2 {a b : Int} (h : decide (IntKind.i64.wrap (IntKind.i64.wrap (a + Int.ofNat 1) + Int.ofNat 1) < b) = false) (h2 : decide (IntKind.i64.wrap (a + Int.ofNat 2) ≥ b) = false) : False := by
  rw [plus2] at h
  have h := of_decide_eq_false h
  have h2 := of_decide_eq_false h2
  omega
theorem ev_c {i e n m : Nat} {a a' b : Int} (h : i = 0 ∧ e < m) (ha : a = a') : (if i = 0 ∧ e = n then a else b) = if 0 = 0 ∧ e = n then a' else b := by rw [h.1, ha]
theorem ev_dd {e n : Nat} {a a' b : Int} (ha : a = a') : (if 0 = 0 ∧ e = n then a else b) = if 0 = 0 ∧ e = n then a' else b := by rw [ha]
theorem tk_e (x : Int) : IntKind.i64.wrap (bits .and .u64 x (Int.ofNat 65535)) = tkW x := rfl
theorem tk_b (x : Int) : (IntKind.i64.wrap (bits .and .u64 x (Int.ofNat 65535)) == tkW x) = true := beq_self_eq_true _
set_option maxHeartbeats 16000000 in
theorem vhRj0 {c : Cf} {v : Ev} {w : Int} {cf ln lc : Nat} {g : Nat → Int} (h : okMi c v) : VHolds (vRjO 0 c v w cf ln lc g iRj (jRj 1) (jRj 2)) := by
  have h := h
  obtain ⟨h0, h1, h2, h3, h4, h5, h6⟩ := id h
  refine VHolds.pr (vRj0_eq ..) ?_
  (repeat' first | with_reducible exact V.okI | with_reducible refine V.brT ?_ | with_reducible refine V.brF ?_ | with_reducible refine V.brI ?_ ?_ | with_reducible refine V.anyI ?_ | with_reducible refine nN_h rfl ?_ | with_reducible refine V.needI ?_ ?_ | with_reducible intro _)
  all_goals first
    | assumption
    | exact True.intro
    | exact Nat.zero_le _
    | exact ⟨Nat.le_refl _, by assumption⟩
    | exact ⟨h2, h3, Nat.zero_le _⟩
    | exact Nat.le_refl _
    | exact ⟨Nat.le_refl _, rfl⟩
    | exact rn_x (by assumption)
    | exact rn_y (by assumption)
    | exact rn_z (by assumption)
    | exact rn_ct (by assumption) (by assumption) (by assumption)
    | exact rn_okcm h (by assumption) (by assumption) rfl (by first | exact Nat.le_succ _ | exact Nat.le_refl _)
    | exact rn_j (by assumption) (by assumption) (by assumption) (by first | exact rn_x (by assumption) | exact rn_y (by assumption) | exact rn_z (by assumption) | exact rn_v (by assumption) | exact wrap_ok _) (by first | exact rn_x (by assumption) | exact rn_y (by assumption) | exact rn_z (by assumption) | exact rn_v (by assumption) | exact wrap_ok _) (by first | exact rn_x (by assumption) | exact rn_y (by assumption) | exact rn_z (by assumption) | exact rn_v (by assumption) | exact wrap_ok _) (by first | exact rn_x (by assumption) | exact rn_y (by assumption) | exact rn_z (by assumption) | exact rn_v (by assumption) | exact wrap_ok _) (by decide) (by first | exact fun hq => absurd hq (by decide) | exact fun _ => rn_i0 (by assumption) (by decide)) (by first | exact rn_e (by assumption) | exact rn_e1 (by assumption) (by assumption) (by assumption))
    | exact rn_t2 (by assumption)
    | exact rn_t1 (by assumption)
    | exact rn_td (by assumption) (by assumption)
    | exact rn_i (by assumption) (by assumption) (by assumption)
    | exact rn_mu (by assumption) (by assumption)
    | exact at_ok h0
    | exact rn_ln (by assumption)
    | exact rn_di h2 (by assumption) (by assumption) (by assumption)
    | exact rn_ex (by assumption)
    | exact rn_r (by assumption) (by assumption)
    | exact rn_r2 (by assumption) (by assumption)
    | exact rn_0 h6
    | exact rn_sz (by assumption) (by assumption)
    | exact (And.left (by assumption))
    | exact ⟨(0, 0), trivial⟩
    | exact ⟨v.m, trivial⟩
    | exact ⟨Nat.zero_le _, Nat.zero_le _⟩
    | exact ⟨Nat.le_refl _, rn_na (by assumption)⟩
    | exact ⟨Nat.le_refl _, rn_nb (by assumption)⟩
    | exact ⟨by decide, by decide, Int.natCast_nonneg _⟩
    | exact ev_c (by assumption) (by first | rfl | exact tk_e _ | exact (tk_e _).symm)
    | exact ev_dd (by first | rfl | exact tk_e _ | exact (tk_e _).symm)
    | exact tk_b _
    | exact (rn_i0 (by assumption) (by decide)).symm
    | (subst_vars; rfl)
    | (exfalso; exact gt_le (by with_reducible assumption) (by with_reducible assumption))
    | (exfalso; exact ngt_nle (by with_reducible assumption) (by with_reducible assumption))
    | (exfalso; exact rn_p1 (by with_reducible assumption) (by with_reducible assumption))
    | (exfalso; exact rn_p2 (by with_reducible assumption) (by with_reducible assumption))
    | (exfalso; exact rn_c1 (by with_reducible assumption) (by with_reducible assumption) (by with_reducible assumption))
    | (exfalso; exact rn_c2 (by with_reducible assumption) (by with_reducible assumption) (by with_reducible assumption))
    | decide
    | trace_state
set_option maxHeartbeats 16000000 in
theorem vhRj1 {c : Cf} {v : Ev} {w : Int} {cf ln lc : Nat} {g : Nat → Int} (h : okMi c v) : VHolds (vRjO 1 c v w cf ln lc g iRj (jRj 1) (jRj 2)) := by
  have h := h
  obtain ⟨h0, h1, h2, h3, h4, h5, h6⟩ := id h
  refine VHolds.pr (vRj1_eq ..) ?_
  (repeat' first | with_reducible exact V.okI | with_reducible refine V.brT ?_ | with_reducible refine V.brF ?_ | with_reducible refine V.brI ?_ ?_ | with_reducible refine V.anyI ?_ | with_reducible refine nN_h rfl ?_ | with_reducible refine V.needI ?_ ?_ | with_reducible intro _)
  all_goals first
    | assumption
    | exact True.intro
    | exact Nat.zero_le _
    | exact ⟨Nat.le_refl _, by assumption⟩
    | exact ⟨h2, h3, Nat.zero_le _⟩
    | exact Nat.le_refl _
    | exact ⟨Nat.le_refl _, rfl⟩
    | exact rn_x (by assumption)
    | exact rn_y (by assumption)
    | exact rn_z (by assumption)
    | exact rn_ct (by assumption) (by assumption) (by assumption)
    | exact rn_okcm h (by assumption) (by assumption) rfl (by first | exact Nat.le_succ _ | exact Nat.le_refl _)
    | exact rn_j (by assumption) (by assumption) (by assumption) (by first | exact rn_x (by assumption) | exact rn_y (by assumption) | exact rn_z (by assumption) | exact rn_v (by assumption) | exact wrap_ok _) (by first | exact rn_x (by assumption) | exact rn_y (by assumption) | exact rn_z (by assumption) | exact rn_v (by assumption) | exact wrap_ok _) (by first | exact rn_x (by assumption) | exact rn_y (by assumption) | exact rn_z (by assumption) | exact rn_v (by assumption) | exact wrap_ok _) (by first | exact rn_x (by assumption) | exact rn_y (by assumption) | exact rn_z (by assumption) | exact rn_v (by assumption) | exact wrap_ok _) (by decide) (by first | exact fun hq => absurd hq (by decide) | exact fun _ => rn_i0 (by assumption) (by decide)) (by first | exact rn_e (by assumption) | exact rn_e1 (by assumption) (by assumption) (by assumption))
    | exact rn_t2 (by assumption)
    | exact rn_t1 (by assumption)
    | exact rn_td (by assumption) (by assumption)
    | exact rn_i (by assumption) (by assumption) (by assumption)
    | exact rn_mu (by assumption) (by assumption)
    | exact at_ok h0
    | exact rn_ln (by assumption)
    | exact rn_di h2 (by assumption) (by assumption) (by assumption)
    | exact rn_ex (by assumption)
    | exact rn_r (by assumption) (by assumption)
    | exact rn_r2 (by assumption) (by assumption)
    | exact rn_0 h6
    | exact rn_sz (by assumption) (by assumption)
    | exact (And.left (by assumption))
    | exact ⟨(0, 0), trivial⟩
    | exact ⟨v.m, trivial⟩
    | exact ⟨Nat.zero_le _, Nat.zero_le _⟩
    | exact ⟨Nat.le_refl _, rn_na (by assumption)⟩
    | exact ⟨Nat.le_refl _, rn_nb (by assumption)⟩
    | exact ⟨by decide, by decide, Int.natCast_nonneg _⟩
    | exact ev_c (by assumption) (by first | rfl | exact tk_e _ | exact (tk_e _).symm)
    | exact ev_dd (by first | rfl | exact tk_e _ | exact (tk_e _).symm)
    | exact tk_b _
    | exact (rn_i0 (by assumption) (by decide)).symm
    | (subst_vars; rfl)
    | (exfalso; exact gt_le (by with_reducible assumption) (by with_reducible assumption))
    | (exfalso; exact ngt_nle (by with_reducible assumption) (by with_reducible assumption))
    | (exfalso; exact rn_p1 (by with_reducible assumption) (by with_reducible assumption))
    | (exfalso; exact rn_p2 (by with_reducible assumption) (by with_reducible assumption))
    | (exfalso; exact rn_c1 (by with_reducible assumption) (by with_reducible assumption) (by with_reducible assumption))
    | (exfalso; exact rn_c2 (by with_reducible assumption) (by with_reducible assumption) (by with_reducible assumption))
    | decide
    | trace_state
set_option maxHeartbeats 16000000 in
theorem vhRj2 {c : Cf} {v : Ev} {w : Int} {cf ln lc : Nat} {g : Nat → Int} (h : okMi c v) : VHolds (vRjO 2 c v w cf ln lc g iRj (jRj 1) (jRj 2)) := by
  have h := h
  obtain ⟨h0, h1, h2, h3, h4, h5, h6⟩ := id h
  refine VHolds.pr (vRj2_eq ..) ?_
  (repeat' first | with_reducible exact V.okI | with_reducible refine V.brT ?_ | with_reducible refine V.brF ?_ | with_reducible refine V.brI ?_ ?_ | with_reducible refine V.anyI ?_ | with_reducible refine nN_h rfl ?_ | with_reducible refine V.needI ?_ ?_ | with_reducible intro _)
  all_goals first
    | assumption
    | exact True.intro
    | exact Nat.zero_le _
    | exact ⟨Nat.le_refl _, by assumption⟩
    | exact ⟨h2, h3, Nat.zero_le _⟩
    | exact Nat.le_refl _
    | exact ⟨Nat.le_refl _, rfl⟩
    | exact rn_x (by assumption)
    | exact rn_y (by assumption)
    | exact rn_z (by assumption)
    | exact rn_ct (by assumption) (by assumption) (by assumption)
    | exact rn_okcm h (by assumption) (by assumption) rfl (by first | exact Nat.le_succ _ | exact Nat.le_refl _)
    | exact rn_j (by assumption) (by assumption) (by assumption) (by first | exact rn_x (by assumption) | exact rn_y (by assumption) | exact rn_z (by assumption) | exact rn_v (by assumption) | exact wrap_ok _) (by first | exact rn_x (by assumption) | exact rn_y (by assumption) | exact rn_z (by assumption) | exact rn_v (by assumption) | exact wrap_ok _) (by first | exact rn_x (by assumption) | exact rn_y (by assumption) | exact rn_z (by assumption) | exact rn_v (by assumption) | exact wrap_ok _) (by first | exact rn_x (by assumption) | exact rn_y (by assumption) | exact rn_z (by assumption) | exact rn_v (by assumption) | exact wrap_ok _) (by decide) (by first | exact fun hq => absurd hq (by decide) | exact fun _ => rn_i0 (by assumption) (by decide)) (by first | exact rn_e (by assumption) | exact rn_e1 (by assumption) (by assumption) (by assumption))
    | exact rn_t2 (by assumption)
    | exact rn_t1 (by assumption)
    | exact rn_td (by assumption) (by assumption)
    | exact rn_i (by assumption) (by assumption) (by assumption)
    | exact rn_mu (by assumption) (by assumption)
    | exact at_ok h0
    | exact rn_ln (by assumption)
    | exact rn_di h2 (by assumption) (by assumption) (by assumption)
    | exact rn_ex (by assumption)
    | exact rn_r (by assumption) (by assumption)
    | exact rn_r2 (by assumption) (by assumption)
    | exact rn_0 h6
    | exact rn_sz (by assumption) (by assumption)
    | exact (And.left (by assumption))
    | exact ⟨(0, 0), trivial⟩
    | exact ⟨v.m, trivial⟩
    | exact ⟨Nat.zero_le _, Nat.zero_le _⟩
    | exact ⟨Nat.le_refl _, rn_na (by assumption)⟩
    | exact ⟨Nat.le_refl _, rn_nb (by assumption)⟩
    | exact ⟨by decide, by decide, Int.natCast_nonneg _⟩
    | exact ev_c (by assumption) (by first | rfl | exact tk_e _ | exact (tk_e _).symm)
    | exact ev_dd (by first | rfl | exact tk_e _ | exact (tk_e _).symm)
    | exact tk_b _
    | exact (rn_i0 (by assumption) (by decide)).symm
    | (subst_vars; rfl)
    | (exfalso; exact gt_le (by with_reducible assumption) (by with_reducible assumption))
    | (exfalso; exact ngt_nle (by with_reducible assumption) (by with_reducible assumption))
    | (exfalso; exact rn_p1 (by with_reducible assumption) (by with_reducible assumption))
    | (exfalso; exact rn_p2 (by with_reducible assumption) (by with_reducible assumption))
    | (exfalso; exact rn_c1 (by with_reducible assumption) (by with_reducible assumption) (by with_reducible assumption))
    | (exfalso; exact rn_c2 (by with_reducible assumption) (by with_reducible assumption) (by with_reducible assumption))
    | decide
    | trace_state
set_option maxHeartbeats 16000000 in
theorem vhRj3 {c : Cf} {v : Ev} {w : Int} {cf ln lc : Nat} {g : Nat → Int} (h : okMi c v) : VHolds (vRjO 3 c v w cf ln lc g iRj (jRj 1) (jRj 2)) := by
  have h := h
  obtain ⟨h0, h1, h2, h3, h4, h5, h6⟩ := id h
  refine VHolds.pr (vRj3_eq ..) ?_
  (repeat' first | with_reducible exact V.okI | with_reducible refine V.brT ?_ | with_reducible refine V.brF ?_ | with_reducible refine V.brI ?_ ?_ | with_reducible refine V.anyI ?_ | with_reducible refine nN_h rfl ?_ | with_reducible refine V.needI ?_ ?_ | with_reducible intro _)
  all_goals first
    | assumption
    | exact True.intro
    | exact Nat.zero_le _
    | exact ⟨Nat.le_refl _, by assumption⟩
    | exact ⟨h2, h3, Nat.zero_le _⟩
    | exact Nat.le_refl _
    | exact ⟨Nat.le_refl _, rfl⟩
    | exact rn_x (by assumption)
    | exact rn_y (by assumption)
    | exact rn_z (by assumption)
    | exact rn_ct (by assumption) (by assumption) (by assumption)
    | exact rn_okcm h (by assumption) (by assumption) rfl (by first | exact Nat.le_succ _ | exact Nat.le_refl _)
    | exact rn_j (by assumption) (by assumption) (by assumption) (by first | exact rn_x (by assumption) | exact rn_y (by assumption) | exact rn_z (by assumption) | exact rn_v (by assumption) | exact wrap_ok _) (by first | exact rn_x (by assumption) | exact rn_y (by assumption) | exact rn_z (by assumption) | exact rn_v (by assumption) | exact wrap_ok _) (by first | exact rn_x (by assumption) | exact rn_y (by assumption) | exact rn_z (by assumption) | exact rn_v (by assumption) | exact wrap_ok _) (by first | exact rn_x (by assumption) | exact rn_y (by assumption) | exact rn_z (by assumption) | exact rn_v (by assumption) | exact wrap_ok _) (by decide) (by first | exact fun hq => absurd hq (by decide) | exact fun _ => rn_i0 (by assumption) (by decide)) (by first | exact rn_e (by assumption) | exact rn_e1 (by assumption) (by assumption) (by assumption))
    | exact rn_t2 (by assumption)
    | exact rn_t1 (by assumption)
    | exact rn_td (by assumption) (by assumption)
    | exact rn_i (by assumption) (by assumption) (by assumption)
    | exact rn_mu (by assumption) (by assumption)
    | exact at_ok h0
    | exact rn_ln (by assumption)
    | exact rn_di h2 (by assumption) (by assumption) (by assumption)
    | exact rn_ex (by assumption)
    | exact rn_r (by assumption) (by assumption)
    | exact rn_r2 (by assumption) (by assumption)
    | exact rn_0 h6
    | exact rn_sz (by assumption) (by assumption)
    | exact (And.left (by assumption))
    | exact ⟨(0, 0), trivial⟩
    | exact ⟨v.m, trivial⟩
    | exact ⟨Nat.zero_le _, Nat.zero_le _⟩
    | exact ⟨Nat.le_refl _, rn_na (by assumption)⟩
    | exact ⟨Nat.le_refl _, rn_nb (by assumption)⟩
    | exact ⟨by decide, by decide, Int.natCast_nonneg _⟩
    | exact ev_c (by assumption) (by first | rfl | exact tk_e _ | exact (tk_e _).symm)
    | exact ev_dd (by first | rfl | exact tk_e _ | exact (tk_e _).symm)
    | exact tk_b _
    | exact (rn_i0 (by assumption) (by decide)).symm
    | (subst_vars; rfl)
    | (exfalso; exact gt_le (by with_reducible assumption) (by with_reducible assumption))
    | (exfalso; exact ngt_nle (by with_reducible assumption) (by with_reducible assumption))
    | (exfalso; exact rn_p1 (by with_reducible assumption) (by with_reducible assumption))
    | (exfalso; exact rn_p2 (by with_reducible assumption) (by with_reducible assumption))
    | (exfalso; exact rn_c1 (by with_reducible assumption) (by with_reducible assumption) (by with_reducible assumption))
    | (exfalso; exact rn_c2 (by with_reducible assumption) (by with_reducible assumption) (by with_reducible assumption))
    | decide
    | trace_state
set_option maxHeartbeats 16000000 in
theorem vhRj4 {c : Cf} {v : Ev} {w : Int} {cf ln lc : Nat} {g : Nat → Int} (h : okMi c v) : VHolds (vRjO 4 c v w cf ln lc g iRj (jRj 1) (jRj 2)) := by
  have h := h
  obtain ⟨h0, h1, h2, h3, h4, h5, h6⟩ := id h
  refine VHolds.pr (vRj4_eq ..) ?_
  (repeat' first | with_reducible exact V.okI | with_reducible refine V.brT ?_ | with_reducible refine V.brF ?_ | with_reducible refine V.brI ?_ ?_ | with_reducible refine V.anyI ?_ | with_reducible refine nN_h rfl ?_ | with_reducible refine V.needI ?_ ?_ | with_reducible intro _)
  all_goals first
    | assumption
    | exact True.intro
    | exact Nat.zero_le _
    | exact ⟨Nat.le_refl _, by assumption⟩
    | exact ⟨h2, h3, Nat.zero_le _⟩
    | exact Nat.le_refl _
    | exact ⟨Nat.le_refl _, rfl⟩
    | exact rn_x (by assumption)
    | exact rn_y (by assumption)
    | exact rn_z (by assumption)
    | exact rn_ct (by assumption) (by assumption) (by assumption)
    | exact rn_okcm h (by assumption) (by assumption) rfl (by first | exact Nat.le_succ _ | exact Nat.le_refl _)
    | exact rn_j (by assumption) (by assumption) (by assumption) (by first | exact rn_x (by assumption) | exact rn_y (by assumption) | exact rn_z (by assumption) | exact rn_v (by assumption) | exact wrap_ok _) (by first | exact rn_x (by assumption) | exact rn_y (by assumption) | exact rn_z (by assumption) | exact rn_v (by assumption) | exact wrap_ok _) (by first | exact rn_x (by assumption) | exact rn_y (by assumption) | exact rn_z (by assumption) | exact rn_v (by assumption) | exact wrap_ok _) (by first | exact rn_x (by assumption) | exact rn_y (by assumption) | exact rn_z (by assumption) | exact rn_v (by assumption) | exact wrap_ok _) (by decide) (by first | exact fun hq => absurd hq (by decide) | exact fun _ => rn_i0 (by assumption) (by decide)) (by first | exact rn_e (by assumption) | exact rn_e1 (by assumption) (by assumption) (by assumption))
    | exact rn_t2 (by assumption)
    | exact rn_t1 (by assumption)
    | exact rn_td (by assumption) (by assumption)
    | exact rn_i (by assumption) (by assumption) (by assumption)
    | exact rn_mu (by assumption) (by assumption)
    | exact at_ok h0
    | exact rn_ln (by assumption)
    | exact rn_di h2 (by assumption) (by assumption) (by assumption)
    | exact rn_ex (by assumption)
    | exact rn_r (by assumption) (by assumption)
    | exact rn_r2 (by assumption) (by assumption)
    | exact rn_0 h6
    | exact rn_sz (by assumption) (by assumption)
    | exact (And.left (by assumption))
    | exact ⟨(0, 0), trivial⟩
    | exact ⟨v.m, trivial⟩
    | exact ⟨Nat.zero_le _, Nat.zero_le _⟩
    | exact ⟨Nat.le_refl _, rn_na (by assumption)⟩
    | exact ⟨Nat.le_refl _, rn_nb (by assumption)⟩
    | exact ⟨by decide, by decide, Int.natCast_nonneg _⟩
    | exact ev_c (by assumption) (by first | rfl | exact tk_e _ | exact (tk_e _).symm)
    | exact ev_dd (by first | rfl | exact tk_e _ | exact (tk_e _).symm)
    | exact tk_b _
    | exact (rn_i0 (by assumption) (by decide)).symm
    | (subst_vars; rfl)
    | (exfalso; exact gt_le (by with_reducible assumption) (by with_reducible assumption))
    | (exfalso; exact ngt_nle (by with_reducible assumption) (by with_reducible assumption))
    | (exfalso; exact rn_p1 (by with_reducible assumption) (by with_reducible assumption))
    | (exfalso; exact rn_p2 (by with_reducible assumption) (by with_reducible assumption))
    | (exfalso; exact rn_c1 (by with_reducible assumption) (by with_reducible assumption) (by with_reducible assumption))
    | (exfalso; exact rn_c2 (by with_reducible assumption) (by with_reducible assumption) (by with_reducible assumption))
    | decide
    | trace_state
set_option maxHeartbeats 16000000 in
theorem vhRj5 {c : Cf} {v : Ev} {w : Int} {cf ln lc : Nat} {g : Nat → Int} (h : okMi c v) : VHolds (vRjO 5 c v w cf ln lc g iRj (jRj 1) (jRj 2)) := by
  have h := h
  obtain ⟨h0, h1, h2, h3, h4, h5, h6⟩ := id h
  refine VHolds.pr (vRj5_eq ..) ?_
  (repeat' first | with_reducible exact V.okI | with_reducible refine V.brT ?_ | with_reducible refine V.brF ?_ | with_reducible refine V.brI ?_ ?_ | with_reducible refine V.anyI ?_ | with_reducible refine nN_h rfl ?_ | with_reducible refine V.needI ?_ ?_ | with_reducible intro _)
  all_goals first
    | assumption
    | exact True.intro
    | exact Nat.zero_le _
    | exact ⟨Nat.le_refl _, by assumption⟩
    | exact ⟨h2, h3, Nat.zero_le _⟩
    | exact Nat.le_refl _
    | exact ⟨Nat.le_refl _, rfl⟩
    | exact rn_x (by assumption)
    | exact rn_y (by assumption)
    | exact rn_z (by assumption)
    | exact rn_ct (by assumption) (by assumption) (by assumption)
    | exact rn_okcm h (by assumption) (by assumption) rfl (by first | exact Nat.le_succ _ | exact Nat.le_refl _)
    | exact rn_j (by assumption) (by assumption) (by assumption) (by first | exact rn_x (by assumption) | exact rn_y (by assumption) | exact rn_z (by assumption) | exact rn_v (by assumption) | exact wrap_ok _) (by first | exact rn_x (by assumption) | exact rn_y (by assumption) | exact rn_z (by assumption) | exact rn_v (by assumption) | exact wrap_ok _) (by first | exact rn_x (by assumption) | exact rn_y (by assumption) | exact rn_z (by assumption) | exact rn_v (by assumption) | exact wrap_ok _) (by first | exact rn_x (by assumption) | exact rn_y (by assumption) | exact rn_z (by assumption) | exact rn_v (by assumption) | exact wrap_ok _) (by decide) (by first | exact fun hq => absurd hq (by decide) | exact fun _ => rn_i0 (by assumption) (by decide)) (by first | exact rn_e (by assumption) | exact rn_e1 (by assumption) (by assumption) (by assumption))
    | exact rn_t2 (by assumption)
    | exact rn_t1 (by assumption)
    | exact rn_td (by assumption) (by assumption)
    | exact rn_i (by assumption) (by assumption) (by assumption)
    | exact rn_mu (by assumption) (by assumption)
    | exact at_ok h0
    | exact rn_ln (by assumption)
    | exact rn_di h2 (by assumption) (by assumption) (by assumption)
    | exact rn_ex (by assumption)
    | exact rn_r (by assumption) (by assumption)
    | exact rn_r2 (by assumption) (by assumption)
    | exact rn_0 h6
    | exact rn_sz (by assumption) (by assumption)
    | exact (And.left (by assumption))
    | exact ⟨(0, 0), trivial⟩
    | exact ⟨v.m, trivial⟩
    | exact ⟨Nat.zero_le _, Nat.zero_le _⟩
    | exact ⟨Nat.le_refl _, rn_na (by assumption)⟩
    | exact ⟨Nat.le_refl _, rn_nb (by assumption)⟩
    | exact ⟨by decide, by decide, Int.natCast_nonneg _⟩
    | exact ev_c (by assumption) (by first | rfl | exact tk_e _ | exact (tk_e _).symm)
    | exact ev_dd (by first | rfl | exact tk_e _ | exact (tk_e _).symm)
    | exact tk_b _
    | exact (rn_i0 (by assumption) (by decide)).symm
    | (subst_vars; rfl)
    | (exfalso; exact gt_le (by with_reducible assumption) (by with_reducible assumption))
    | (exfalso; exact ngt_nle (by with_reducible assumption) (by with_reducible assumption))
    | (exfalso; exact rn_p1 (by with_reducible assumption) (by with_reducible assumption))
    | (exfalso; exact rn_p2 (by with_reducible assumption) (by with_reducible assumption))
    | (exfalso; exact rn_c1 (by with_reducible assumption) (by with_reducible assumption) (by with_reducible assumption))
    | (exfalso; exact rn_c2 (by with_reducible assumption) (by with_reducible assumption) (by with_reducible assumption))
    | decide
    | trace_state
set_option maxHeartbeats 16000000 in
theorem vhRj6 {c : Cf} {v : Ev} {w : Int} {cf ln lc : Nat} {g : Nat → Int} (h : okMi c v) : VHolds (vRjO 6 c v w cf ln lc g iRj (jRj 1) (jRj 2)) := by
  have h := h
  obtain ⟨h0, h1, h2, h3, h4, h5, h6⟩ := id h
  refine VHolds.pr (vRj6_eq ..) ?_
  (repeat' first | with_reducible exact V.okI | with_reducible refine V.brT ?_ | with_reducible refine V.brF ?_ | with_reducible refine V.brI ?_ ?_ | with_reducible refine V.anyI ?_ | with_reducible refine nN_h rfl ?_ | with_reducible refine V.needI ?_ ?_ | with_reducible intro _)
  all_goals first
    | assumption
    | exact True.intro
    | exact Nat.zero_le _
    | exact ⟨Nat.le_refl _, by assumption⟩
    | exact ⟨h2, h3, Nat.zero_le _⟩
    | exact Nat.le_refl _
    | exact ⟨Nat.le_refl _, rfl⟩
    | exact rn_x (by assumption)
    | exact rn_y (by assumption)
    | exact rn_z (by assumption)
    | exact rn_ct (by assumption) (by assumption) (by assumption)
    | exact rn_okcm h (by assumption) (by assumption) rfl (by first | exact Nat.le_succ _ | exact Nat.le_refl _)
    | exact rn_j (by assumption) (by assumption) (by assumption) (by first | exact rn_x (by assumption) | exact rn_y (by assumption) | exact rn_z (by assumption) | exact rn_v (by assumption) | exact wrap_ok _) (by first | exact rn_x (by assumption) | exact rn_y (by assumption) | exact rn_z (by assumption) | exact rn_v (by assumption) | exact wrap_ok _) (by first | exact rn_x (by assumption) | exact rn_y (by assumption) | exact rn_z (by assumption) | exact rn_v (by assumption) | exact wrap_ok _) (by first | exact rn_x (by assumption) | exact rn_y (by assumption) | exact rn_z (by assumption) | exact rn_v (by assumption) | exact wrap_ok _) (by decide) (by first | exact fun hq => absurd hq (by decide) | exact fun _ => rn_i0 (by assumption) (by decide)) (by first | exact rn_e (by assumption) | exact rn_e1 (by assumption) (by assumption) (by assumption))
    | exact rn_t2 (by assumption)
    | exact rn_t1 (by assumption)
    | exact rn_td (by assumption) (by assumption)
    | exact rn_i (by assumption) (by assumption) (by assumption)
    | exact rn_mu (by assumption) (by assumption)
    | exact at_ok h0
    | exact rn_ln (by assumption)
    | exact rn_di h2 (by assumption) (by assumption) (by assumption)
    | exact rn_ex (by assumption)
    | exact rn_r (by assumption) (by assumption)
    | exact rn_r2 (by assumption) (by assumption)
    | exact rn_0 h6
    | exact rn_sz (by assumption) (by assumption)
    | exact (And.left (by assumption))
    | exact ⟨(0, 0), trivial⟩
    | exact ⟨v.m, trivial⟩
    | exact ⟨Nat.zero_le _, Nat.zero_le _⟩
    | exact ⟨Nat.le_refl _, rn_na (by assumption)⟩
    | exact ⟨Nat.le_refl _, rn_nb (by assumption)⟩
    | exact ⟨by decide, by decide, Int.natCast_nonneg _⟩
    | exact ev_c (by assumption) (by first | rfl | exact tk_e _ | exact (tk_e _).symm)
    | exact ev_dd (by first | rfl | exact tk_e _ | exact (tk_e _).symm)
    | exact tk_b _
    | exact (rn_i0 (by assumption) (by decide)).symm
    | (subst_vars; rfl)
    | (exfalso; exact gt_le (by with_reducible assumption) (by with_reducible assumption))
    | (exfalso; exact ngt_nle (by with_reducible assumption) (by with_reducible assumption))
    | (exfalso; exact rn_p1 (by with_reducible assumption) (by with_reducible assumption))
    | (exfalso; exact rn_p2 (by with_reducible assumption) (by with_reducible assumption))
    | (exfalso; exact rn_c1 (by with_reducible assumption) (by with_reducible assumption) (by with_reducible assumption))
    | (exfalso; exact rn_c2 (by with_reducible assumption) (by with_reducible assumption) (by with_reducible assumption))
    | decide
    | trace_state
set_option maxHeartbeats 16000000 in
theorem vhRj7 {c : Cf} {v : Ev} {w : Int} {cf ln lc : Nat} {g : Nat → Int} (h : okMi c v) : VHolds (vRjO 7 c v w cf ln lc g iRj (jRj 1) (jRj 2)) := by
  have h := h
  obtain ⟨h0, h1, h2, h3, h4, h5, h6⟩ := id h
  refine VHolds.pr (vRj7_eq ..) ?_
  (repeat' first | with_reducible exact V.okI | with_reducible refine V.brT ?_ | with_reducible refine V.brF ?_ | with_reducible refine V.brI ?_ ?_ | with_reducible refine V.anyI ?_ | with_reducible refine nN_h rfl ?_ | with_reducible refine V.needI ?_ ?_ | with_reducible intro _)
  all_goals first
    | assumption
    | exact True.intro
    | exact Nat.zero_le _
    | exact ⟨Nat.le_refl _, by assumption⟩
    | exact ⟨h2, h3, Nat.zero_le _⟩
    | exact Nat.le_refl _
    | exact ⟨Nat.le_refl _, rfl⟩
    | exact rn_x (by assumption)
    | exact rn_y (by assumption)
    | exact rn_z (by assumption)
    | exact rn_ct (by assumption) (by assumption) (by assumption)
    | exact rn_okcm h (by assumption) (by assumption) rfl (by first | exact Nat.le_succ _ | exact Nat.le_refl _)
    | exact rn_j (by assumption) (by assumption) (by assumption) (by first | exact rn_x (by assumption) | exact rn_y (by assumption) | exact rn_z (by assumption) | exact rn_v (by assumption) | exact wrap_ok _) (by first | exact rn_x (by assumption) | exact rn_y (by assumption) | exact rn_z (by assumption) | exact rn_v (by assumption) | exact wrap_ok _) (by first | exact rn_x (by assumption) | exact rn_y (by assumption) | exact rn_z (by assumption) | exact rn_v (by assumption) | exact wrap_ok _) (by first | exact rn_x (by assumption) | exact rn_y (by assumption) | exact rn_z (by assumption) | exact rn_v (by assumption) | exact wrap_ok _) (by decide) (by first | exact fun hq => absurd hq (by decide) | exact fun _ => rn_i0 (by assumption) (by decide)) (by first | exact rn_e (by assumption) | exact rn_e1 (by assumption) (by assumption) (by assumption))
    | exact rn_t2 (by assumption)
    | exact rn_t1 (by assumption)
    | exact rn_td (by assumption) (by assumption)
    | exact rn_i (by assumption) (by assumption) (by assumption)
    | exact rn_mu (by assumption) (by assumption)
    | exact at_ok h0
    | exact rn_ln (by assumption)
    | exact rn_di h2 (by assumption) (by assumption) (by assumption)
    | exact rn_ex (by assumption)
    | exact rn_r (by assumption) (by assumption)
    | exact rn_r2 (by assumption) (by assumption)
    | exact rn_0 h6
    | exact rn_sz (by assumption) (by assumption)
    | exact (And.left (by assumption))
    | exact ⟨(0, 0), trivial⟩
    | exact ⟨v.m, trivial⟩
    | exact ⟨Nat.zero_le _, Nat.zero_le _⟩
    | exact ⟨Nat.le_refl _, rn_na (by assumption)⟩
    | exact ⟨Nat.le_refl _, rn_nb (by assumption)⟩
    | exact ⟨by decide, by decide, Int.natCast_nonneg _⟩
    | exact ev_c (by assumption) (by first | rfl | exact tk_e _ | exact (tk_e _).symm)
    | exact ev_dd (by first | rfl | exact tk_e _ | exact (tk_e _).symm)
    | exact tk_b _
    | exact (rn_i0 (by assumption) (by decide)).symm
    | (subst_vars; rfl)
    | (exfalso; exact gt_le (by with_reducible assumption) (by with_reducible assumption))
    | (exfalso; exact ngt_nle (by with_reducible assumption) (by with_reducible assumption))
    | (exfalso; exact rn_p1 (by with_reducible assumption) (by with_reducible assumption))
    | (exfalso; exact rn_p2 (by with_reducible assumption) (by with_reducible assumption))
    | (exfalso; exact rn_c1 (by with_reducible assumption) (by with_reducible assumption) (by with_reducible assumption))
    | (exfalso; exact rn_c2 (by with_reducible assumption) (by with_reducible assumption) (by with_reducible assumption))
    | decide
    | trace_state
theorem vhRj {c : Cf} {v : Ev} {w : Int} {cf ln lc : Nat} {g : Nat → Int} (h : okMi c v) : VHolds (vRj c v w cf ln lc g iRj (jRj 1) (jRj 2)) :=
  verO_h (k := 8) (m := 1) (by decide) fun j hj => by
    match j, hj with
    | 0, _ => exact vhRj0 h
    | 1, _ => exact vhRj1 h
    | 2, _ => exact vhRj2 h
    | 3, _ => exact vhRj3 h
    | 4, _ => exact vhRj4 h
    | 5, _ => exact vhRj5 h
    | 6, _ => exact vhRj6 h
    | 7, _ => exact vhRj7 h
end Go.Proofs.YtbidbhfjnfgblaaGreat.En

/- Match for Insert and Remove of the injector: the contract. -/
set_option maxRecDepth 100000
namespace Go.Proofs.YtbidbhfjnfgblaaGreat.En
open Go Go.RowKit Sx Cn Dc Ck Vc Md
theorem nMi {c : Cf} {v : Ev} {d t : Int} {cf ln lc : Nat} {g : Nat → Int} : LocalOK P fMt (argMt insX ln lc) (hMt c v (insB d t (.ki .i64 1) z6 z6 zU zU) (insF d t (.ki .i64 1) z6 z6 zU zU) cf ln g) 18 (yesO 18 (okMi c v)) := local_of_ver0 conIj_ok fun h => vhIj h
theorem nMr {c : Cf} {v : Ev} {d : Int} {cf ln lc : Nat} {g : Nat → Int} : LocalOK P fMt (argMt remX ln lc) (hMo c v (remB d (.ki .i64 1) z6 z6 z6 zU zU zU) (remF d (.ki .i64 1) z6 z6 z6 zU zU zU) cf ln g) 18 (yesO 18 (okMi c v)) := local_of_ver0 conRj_ok fun h => vhRj h
theorem cMi_ok : ContractOK P fMt cMi := contract_of_useP fun args H => by
  unfold cMi
  simp only [fN_eq]
  repeat' split
  all_goals first
    | exact .inl ⟨_, rfl⟩
    | with_reducible exact .inr ⟨_, _, _, _, _, rfl, nMi⟩
    | with_reducible exact .inr ⟨_, _, _, _, _, rfl, nMr⟩
end Go.Proofs.YtbidbhfjnfgblaaGreat.En
