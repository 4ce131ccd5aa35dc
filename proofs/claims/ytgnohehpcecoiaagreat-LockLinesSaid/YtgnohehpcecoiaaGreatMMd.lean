/- The accesses of a memory: a model of it; what is asked. -/
import Derived.Test.YtgnohehpcecoiaaGreatML
import Derived.Test.YtgnohehpcecoiaaGreatMW
import Derived.Test.YtgnohehpcecoiaaGreatMNw
set_option linter.unusedVariables false
set_option linter.unusedSimpArgs false
set_option maxRecDepth 100000
namespace Go.Proofs.YtgnohehpcecoiaaGreat.Md
open Go Go.RowKit Sx Cn Dc Ck Vc
/-- A memory: its cells, the last access, the number of accesses. -/
structure Mm where
  g : Nat → Int
  lk : Int
  lc : Int
  lo : Int
  ln : Int
  ct : Int
/-- The cell is there. -/
def inb (n : Nat) (a : Int) : Bool := decide (0 ≤ a) && decide (a < (n : Int))
def Mm.val (m : Mm) (n : Nat) (a : Int) : Int := bif inb n a then m.g a.toNat else 0
def Mm.acc (m : Mm) (n : Nat) (kd a x : Int) : Mm := bif inb n a then ⟨fun e => if e = a.toNat then x else m.g e, kd, a, m.g a.toNat, x, IntKind.i64.wrap (m.ct + 1)⟩ else m
def Mm.hit (m : Mm) (n : Nat) (a v : Int) : Bool := inb n a && decide (m.val n a = v)
def casV (b : Bool) (x y : Int) : Int := bif b then y else x
@[simp] theorem Mm.eta (m : Mm) : Mm.mk (fun e => m.g e) m.lk m.lc m.lo m.ln m.ct = m := rfl
noncomputable section
abbrev uw (n : Int) : SC := .iv .u64 n
abbrev i6 (n : Int) : SC := .iv .i64 n
def mO (n cap : Nat) (lk lc lo ln ct : SC) : Blk := .own 128 6 ([.slc 1 (.k 0) (.k 0) 1 (.s n) (.s cap), lk, lc, lo, ln, ct].map some)
def hM (n cap : Nat) (m : Mm) : HL := [(0, mO n cap (i6 m.lk) (i6 m.lc) (uw m.lo) (uw m.ln) (i6 m.ct)), (1, .row 23 cap n [.ci .u64 fun _ e => m.g e])]
def hV (n cap : Nat) (m : Mm) : HL := [(0, .view 1 (fun _ => 1) [.ck [.slc 1 (.k 0) (.k 0) 1 (.s n) (.s cap)], .cu, .cu, .cu, .cu, .ck [i6 m.ct]]), (1, .view 1 (fun _ => n) [.ci .u64 fun _ e => m.g e])]
def finMm (ret : SV) (n cap : Nat) (m : Mm) : SV → Hp → V := finV (X := Unit) 2 2 (fun _ _ => some ()) (fun _ _ => []) (fun _ => True) (fun _ => ret) (fun _ => hM n cap m)
def ptM : SV := .c (.ptr 0 (.k 0) (.k 0) 0 6)
def fSt : FuncId := 8
def fCs : FuncId := 171
def fPk : FuncId := 28
def fCt : FuncId := 32
section
variable (n cap : Nat) (m : Mm) (a v y : Int)
def vMSt : V := verF P con0 3 6 fSt [] .nil [ptM, .c (i6 a), .c (uw v)] ⟨hM n cap m, 2, fun _ => True⟩ (finMm (.t []) n cap (m.acc n 2 a v))
def vMCs : V := verF P con0 3 6 fCs [] .nil [ptM, .c (i6 a), .c (uw v), .c (uw y)] ⟨hM n cap m, 2, fun _ => True⟩ (finMm (.c (.bv (m.hit n a v))) n cap (m.acc n 3 a (casV (m.hit n a v) (m.val n a) y)))
def vMPk : V := verF P con0 3 6 fPk [] .nil [ptM, .c (i6 a)] ⟨hV n cap m, 2, fun _ => True⟩ (finV (X := Unit) 2 2 (fun _ _ => some ()) (fun _ _ => []) (fun _ => True) (fun _ => .c (uw (m.val n a))) (fun _ => []))
def vMCt : V := verF P con0 3 6 fCt [] .nil [ptM] ⟨hV n cap m, 2, fun _ => True⟩ (finV (X := Unit) 2 2 (fun _ _ => some ()) (fun _ _ => []) (fun _ => True) (fun _ => .c (i6 m.ct)) (fun _ => []))
end
end
end Go.Proofs.YtgnohehpcecoiaaGreat.Md

/- The accesses of a memory: the conditions, printed by program. -/
set_option maxRecDepth 100000
namespace Go.Proofs.YtgnohehpcecoiaaGreat.Md
open Go Go.RowKit Sx Cn Dc Ck Vc

theorem vMSt_eq (n cap : Nat) (m : Mm) (a v : Int) : vMSt n cap m a v =
  V.br (decide (a < Int.ofNat 0))
    (V.need True
    (nN [(1, .pf (n = n) rfl), (1, .pf (cap = cap) rfl)]
    (V.need (m.lk = (m.acc n (Int.ofNat 2) a v).lk)
    (V.need (m.lc = (m.acc n (Int.ofNat 2) a v).lc)
    (V.need (m.lo = (m.acc n (Int.ofNat 2) a v).lo)
    (V.need (m.ln = (m.acc n (Int.ofNat 2) a v).ln)
    (V.need (m.ct = (m.acc n (Int.ofNat 2) a v).ct)
    (nN [(1, .pf (cap = cap) rfl)]
    (V.need (n ≤ n)
    (V.need (∀ (e : Nat), e < n → m.g e = (m.acc n (Int.ofNat 2) a v).g e) V.ok))))))))))
    (V.br (decide (a ≥ (↑n : Int)))
    (V.need True
    (nN [(1, .pf (n = n) rfl), (1, .pf (cap = cap) rfl)]
    (V.need (m.lk = (m.acc n (Int.ofNat 2) a v).lk)
    (V.need (m.lc = (m.acc n (Int.ofNat 2) a v).lc)
    (V.need (m.lo = (m.acc n (Int.ofNat 2) a v).lo)
    (V.need (m.ln = (m.acc n (Int.ofNat 2) a v).ln)
    (V.need (m.ct = (m.acc n (Int.ofNat 2) a v).ct)
    (nN [(1, .pf (cap = cap) rfl)]
    (V.need (n ≤ n)
    (V.need (∀ (e : Nat), e < n → m.g e = (m.acc n (Int.ofNat 2) a v).g e) V.ok))))))))))
    (V.need (Int.ofNat 0 ≤ a ∧ a < (↑n : Int))
    (V.need (0 + a.toNat < n)
    (V.need (0 + a.toNat < n)
    (nN [(4, .lt2 0 1 0 1)]
    (V.need (Int.ofNat 0 ≤ a ∧ a < (↑n : Int))
    (V.need (0 < 1 ∧ 0 + a.toNat < n)
    (V.need (0 + a.toNat < n)
    (V.need (Int.ofNat 0 ≤ a ∧ a < (↑n : Int))
    (V.need (0 + a.toNat < n)
    (V.need (0 + a.toNat < n)
    (V.need True
    (nN [(1, .pf (n = n) rfl), (1, .pf (cap = cap) rfl)]
    (V.need (Int.ofNat 2 = (m.acc n (Int.ofNat 2) a v).lk)
    (V.need (a = (m.acc n (Int.ofNat 2) a v).lc)
    (V.need (m.g (0 + a.toNat) = (m.acc n (Int.ofNat 2) a v).lo)
    (V.need ((if 0 = 0 ∧ 0 + a.toNat = 0 + a.toNat then v else m.g (0 + a.toNat)) = (m.acc n (Int.ofNat 2) a v).ln)
    (V.need (IntKind.i64.wrap (m.ct + Int.ofNat 1) = (m.acc n (Int.ofNat 2) a v).ct)
    (nN [(1, .pf (cap = cap) rfl)]
    (V.need (n ≤ n)
    (V.need (∀ (e : Nat), e < n → (if 0 = 0 ∧ e = 0 + a.toNat then v else m.g e) = (m.acc n (Int.ofNat 2) a v).g e) V.ok))))))))))))))))))))) := by kernel_rfl

theorem vMCs_eq (n cap : Nat) (m : Mm) (a v y : Int) : vMCs n cap m a v y =
  V.br (decide (a < Int.ofNat 0))
    (V.need True
    (V.need (false = m.hit n a v)
    (nN [(1, .pf (n = n) rfl), (1, .pf (cap = cap) rfl)]
    (V.need (m.lk = (m.acc n (Int.ofNat 3) a (casV (m.hit n a v) (m.val n a) y)).lk)
    (V.need (m.lc = (m.acc n (Int.ofNat 3) a (casV (m.hit n a v) (m.val n a) y)).lc)
    (V.need (m.lo = (m.acc n (Int.ofNat 3) a (casV (m.hit n a v) (m.val n a) y)).lo)
    (V.need (m.ln = (m.acc n (Int.ofNat 3) a (casV (m.hit n a v) (m.val n a) y)).ln)
    (V.need (m.ct = (m.acc n (Int.ofNat 3) a (casV (m.hit n a v) (m.val n a) y)).ct)
    (nN [(1, .pf (cap = cap) rfl)]
    (V.need (n ≤ n)
    (V.need (∀ (e : Nat), e < n → m.g e = (m.acc n (Int.ofNat 3) a (casV (m.hit n a v) (m.val n a) y)).g e) V.ok)))))))))))
    (V.br (decide (a ≥ (↑n : Int)))
    (V.need True
    (V.need (false = m.hit n a v)
    (nN [(1, .pf (n = n) rfl), (1, .pf (cap = cap) rfl)]
    (V.need (m.lk = (m.acc n (Int.ofNat 3) a (casV (m.hit n a v) (m.val n a) y)).lk)
    (V.need (m.lc = (m.acc n (Int.ofNat 3) a (casV (m.hit n a v) (m.val n a) y)).lc)
    (V.need (m.lo = (m.acc n (Int.ofNat 3) a (casV (m.hit n a v) (m.val n a) y)).lo)
    (V.need (m.ln = (m.acc n (Int.ofNat 3) a (casV (m.hit n a v) (m.val n a) y)).ln)
    (V.need (m.ct = (m.acc n (Int.ofNat 3) a (casV (m.hit n a v) (m.val n a) y)).ct)
    (nN [(1, .pf (cap = cap) rfl)]
    (V.need (n ≤ n)
    (V.need (∀ (e : Nat), e < n → m.g e = (m.acc n (Int.ofNat 3) a (casV (m.hit n a v) (m.val n a) y)).g e) V.ok)))))))))))
    (V.need (Int.ofNat 0 ≤ a ∧ a < (↑n : Int))
    (V.need (0 + a.toNat < n)
    (V.need (0 + a.toNat < n)
    (nN [(4, .lt2 0 1 0 1)]
    (V.br (m.g (0 + a.toNat) == v)
    (nN [(1, .lt2 0 1 0 1)]
    (V.need (Int.ofNat 0 ≤ a ∧ a < (↑n : Int))
    (V.need (0 < 1 ∧ 0 + a.toNat < n)
    (V.need (0 + a.toNat < n)
    (V.need (Int.ofNat 0 ≤ a ∧ a < (↑n : Int))
    (V.need (0 + a.toNat < n)
    (V.need (0 + a.toNat < n)
    (V.need True
    (V.need ((m.g (0 + a.toNat) == v) = m.hit n a v)
    (nN [(1, .pf (n = n) rfl), (1, .pf (cap = cap) rfl)]
    (V.need (Int.ofNat 3 = (m.acc n (Int.ofNat 3) a (casV (m.hit n a v) (m.val n a) y)).lk)
    (V.need (a = (m.acc n (Int.ofNat 3) a (casV (m.hit n a v) (m.val n a) y)).lc)
    (V.need (m.g (0 + a.toNat) = (m.acc n (Int.ofNat 3) a (casV (m.hit n a v) (m.val n a) y)).lo)
    (V.need ((if 0 = 0 ∧ 0 + a.toNat = 0 + a.toNat then y else m.g (0 + a.toNat)) = (m.acc n (Int.ofNat 3) a (casV (m.hit n a v) (m.val n a) y)).ln)
    (V.need (IntKind.i64.wrap (m.ct + Int.ofNat 1) = (m.acc n (Int.ofNat 3) a (casV (m.hit n a v) (m.val n a) y)).ct)
    (nN [(1, .pf (cap = cap) rfl)]
    (V.need (n ≤ n)
    (V.need (∀ (e : Nat), e < n → (if 0 = 0 ∧ e = 0 + a.toNat then y else m.g e) = (m.acc n (Int.ofNat 3) a (casV (m.hit n a v) (m.val n a) y)).g e) V.ok))))))))))))))))))
    (V.need (Int.ofNat 0 ≤ a ∧ a < (↑n : Int))
    (V.need (0 < 1 ∧ 0 + a.toNat < n)
    (V.need (0 + a.toNat < n)
    (V.need (Int.ofNat 0 ≤ a ∧ a < (↑n : Int))
    (V.need (0 + a.toNat < n)
    (V.need (0 + a.toNat < n)
    (V.need True
    (V.need ((m.g (0 + a.toNat) == v) = m.hit n a v)
    (nN [(1, .pf (n = n) rfl), (1, .pf (cap = cap) rfl)]
    (V.need (Int.ofNat 3 = (m.acc n (Int.ofNat 3) a (casV (m.hit n a v) (m.val n a) y)).lk)
    (V.need (a = (m.acc n (Int.ofNat 3) a (casV (m.hit n a v) (m.val n a) y)).lc)
    (V.need (m.g (0 + a.toNat) = (m.acc n (Int.ofNat 3) a (casV (m.hit n a v) (m.val n a) y)).lo)
    (V.need ((if 0 = 0 ∧ 0 + a.toNat = 0 + a.toNat then m.g (0 + a.toNat) else m.g (0 + a.toNat)) = (m.acc n (Int.ofNat 3) a (casV (m.hit n a v) (m.val n a) y)).ln)
    (V.need (IntKind.i64.wrap (m.ct + Int.ofNat 1) = (m.acc n (Int.ofNat 3) a (casV (m.hit n a v) (m.val n a) y)).ct)
    (nN [(1, .pf (cap = cap) rfl)]
    (V.need (n ≤ n)
    (V.need (∀ (e : Nat), e < n → (if 0 = 0 ∧ e = 0 + a.toNat then m.g (0 + a.toNat) else m.g e) = (m.acc n (Int.ofNat 3) a (casV (m.hit n a v) (m.val n a) y)).g e) V.ok))))))))))))))))))))))) := by kernel_rfl

theorem vMPk_eq (n cap : Nat) (m : Mm) (a : Int) : vMPk n cap m a =
  V.br (decide (a < Int.ofNat 0))
    (V.need True
    (V.need (Int.ofNat 0 = m.val n a) V.ok))
    (nN [(3, .lt2 0 1 0 1)]
    (V.br (decide (a ≥ (↑n : Int)))
    (V.need True
    (V.need (Int.ofNat 0 = m.val n a) V.ok))
    (nN [(3, .lt2 0 1 0 1)]
    (V.need (Int.ofNat 0 ≤ a ∧ a < (↑n : Int))
    (V.need (0 < 1 ∧ 0 + a.toNat < n)
    (V.need (0 < 1 ∧ 0 + a.toNat < n)
    (V.need True
    (V.need (m.g (0 + a.toNat) = m.val n a) V.ok)))))))) := by kernel_rfl

theorem vMCt_eq (n cap : Nat) (m : Mm) : vMCt n cap m =
  nN [(3, .lt2 0 1 0 1)]
    (V.need True
    (nN [(1, .pf (m.ct = m.ct) rfl)] V.ok)) := by kernel_rfl


end Go.Proofs.YtgnohehpcecoiaaGreat.Md

/- Steps by which trees are shown. -/
namespace Go.Proofs.YtgnohehpcecoiaaGreat.Md
open Go Go.RowKit Sx Cn Dc Ck Vc
end Go.Proofs.YtgnohehpcecoiaaGreat.Md

/- The accesses of a memory, by a model of it: the contracts. -/
set_option maxRecDepth 100000
namespace Go.Proofs.YtgnohehpcecoiaaGreat.Md
open Go Go.RowKit Sx Cn Dc Ck Vc
theorem inb_t {n : Nat} {a : Int} (h0 : 0 ≤ a) (h1 : a < (n : Int)) : inb n a = true := by simp [inb, h0, h1]
theorem inb_f {n : Nat} {a : Int} (h : a < 0 ∨ (n : Int) ≤ a) : inb n a = false := by
  unfold inb
  rcases h with h | h
  · rw [decide_eq_false (by omega)]; rfl
  · rw [decide_eq_false (p := a < (n : Int)) (by omega), Bool.and_false]
section
variable {n cap : Nat} {m : Mm} {a v y : Int}
theorem vhMSt : VHolds (vMSt n cap m a v) := by
  constructor
  rw [vMSt_eq]
  (repeat' first | with_reducible exact V.okI | with_reducible refine V.brT ?_ | with_reducible refine V.brF ?_ | with_reducible refine V.brI ?_ ?_ | with_reducible refine V.anyI ?_ | with_reducible refine nN_h rfl ?_ | with_reducible refine V.needI ?_ ?_ | with_reducible intro _)
  all_goals (simp only [decide_eq_true_eq, decide_eq_false_iff_not, Int.ofNat_eq_natCast, Bool.not_eq_true', Bool.not_eq_false', ge_iff_le, gt_iff_lt, Bool.and_eq_true, Bool.or_eq_true, Bool.not_eq_true, Bool.and_eq_false_iff] at *)
  all_goals first | omega | (have hb : inb n a = false := inb_f (by omega); simp [Mm.val, Mm.acc, hb]; done) | (have hb : inb n a = true := inb_t (by omega) (by omega); simp [Mm.val, Mm.acc, hb]; done) | trace_state
theorem vhMCs : VHolds (vMCs n cap m a v y) := by
  constructor
  rw [vMCs_eq]
  (repeat' first | with_reducible exact V.okI | with_reducible refine V.brT ?_ | with_reducible refine V.brF ?_ | with_reducible refine V.brI ?_ ?_ | with_reducible refine V.anyI ?_ | with_reducible refine nN_h rfl ?_ | with_reducible refine V.needI ?_ ?_ | with_reducible intro _)
  all_goals (simp only [decide_eq_true_eq, decide_eq_false_iff_not, Int.ofNat_eq_natCast, Bool.not_eq_true', Bool.not_eq_false', ge_iff_le, gt_iff_lt, Bool.and_eq_true, Bool.or_eq_true, Bool.not_eq_true, Bool.and_eq_false_iff] at *)
  all_goals first | omega | (have hb : inb n a = false := inb_f (by omega); simp [Mm.val, Mm.acc, Mm.hit, casV, hb]; done) | (have hb : inb n a = true := inb_t (by omega) (by omega); simp_all [Mm.val, Mm.acc, Mm.hit, casV, hb]; done) | trace_state
theorem vhMPk : VHolds (vMPk n cap m a) := by
  constructor
  rw [vMPk_eq]
  (repeat' first | with_reducible exact V.okI | with_reducible refine V.brT ?_ | with_reducible refine V.brF ?_ | with_reducible refine V.brI ?_ ?_ | with_reducible refine V.anyI ?_ | with_reducible refine nN_h rfl ?_ | with_reducible refine V.needI ?_ ?_ | with_reducible intro _)
  all_goals (simp only [decide_eq_true_eq, decide_eq_false_iff_not, Int.ofNat_eq_natCast, Bool.not_eq_true', Bool.not_eq_false', ge_iff_le, gt_iff_lt, Bool.and_eq_true, Bool.or_eq_true, Bool.not_eq_true, Bool.and_eq_false_iff] at *)
  all_goals first | omega | (have hb : inb n a = false := inb_f (by omega); simp [Mm.val, Mm.acc, hb]; done) | (have hb : inb n a = true := inb_t (by omega) (by omega); simp [Mm.val, Mm.acc, hb]; done) | trace_state
theorem vhMCt : VHolds (vMCt n cap m) := by
  constructor
  rw [vMCt_eq]
  (repeat' first | with_reducible exact V.okI | with_reducible refine V.brT ?_ | with_reducible refine V.brF ?_ | with_reducible refine V.brI ?_ ?_ | with_reducible refine V.anyI ?_ | with_reducible refine nN_h rfl ?_ | with_reducible refine V.needI ?_ ?_ | with_reducible intro _)
  all_goals first | exact True.intro | rfl | trace_state
end
end Go.Proofs.YtgnohehpcecoiaaGreat.Md

/- The accesses of a memory, by a model of it: the contracts' table. What is answered has a name. -/
set_option maxRecDepth 100000
namespace Go.Proofs.YtgnohehpcecoiaaGreat.Md
open Go Go.RowKit Sx Cn Dc Ck Vc
/-- A contract for less is one for more. -/
theorem pre_local {P : Program} {f : FuncId} {args : List SV} {h0 h1 : HL} {n : Nat} {post : Out (SV × Hp)} (h : LocalOK P f args h1 n post) (hle : ∀ k b, find k h1 = some b → ∃ c, find k h0 = some c ∧ leBlk c b) : LocalOK P f args h0 n post := by
  intro φ ρ w vs K hi hv hh
  have hinv : HInv φ ρ ⟨h1, n, fun _ => True⟩ w := by
    refine ⟨hi.fr, hi.up, ?_, ?_, ?_, ?_, ?_⟩
    · intro k b hf; obtain ⟨c, hc, _⟩ := hle k b hf; exact hi.lt k c hc
    · intro k b hf; obtain ⟨c, hc, hl⟩ := hle k b hf; exact Blk.sat_le hl (hi.sat k c hc)
    · intro k b hf i hli y o hy; obtain ⟨c, hc, hl⟩ := hle k b hf; exact hi.bd k c hc i (leBlk_live hl hli) y o hy
    · intro k b hf hr i hli y o hy; obtain ⟨c, hc, hl⟩ := hle k b hf; exact hi.may k c hc (leBlk_row hl hr) i (leBlk_live hl hli) y o hy
    · intro k b hf hr k' b' hf' hne j i hj hi' y o y' o' hy hy'
      obtain ⟨c, hc, hl⟩ := hle k b hf
      obtain ⟨c', hc', hl'⟩ := hle k' b' hf'
      exact hi.sep k c hc (leBlk_row hl hr) k' c' hc' hne j i (leBlk_live hl hj) (leBlk_live hl' hi') y o y' o' hy hy'
  refine (h φ ρ w vs K hinv hv hh).mono ?_
  rintro e w' ⟨v, ρ', sv, H', a1, a2, a3, a4, a5, a6⟩
  exact ⟨v, ρ', sv, H', a1, a2, a3, ⟨a4.nxt, a4.D⟩, a5, a6⟩
/-- What is known of a memory. -/
structure MP where
  kc : Nat
  len : NV
  cap : NV
  m : Mm
noncomputable section
/-- A block's cells, also of one that may only be read. -/
def colC : Col → Option SC
  | .ck [c] => some c
  | .cc c => some c
  | _ => none
def cellsB : Blk → List (Option SC)
  | .own _ _ cs => cs
  | .view _ _ cols => cols.map colC
  | _ => []
def colsB : Blk → List Col
  | .row _ _ _ cols => cols
  | .view _ _ cols => cols
  | _ => []
def colG : Col → Option (Nat → Int)
  | .ci _ g => some fun e => g 0 e
  | .cc c => match numC c with
    | some v => some fun _ => v
    | none => none
  | .ck l => some fun e => numAt l e
  | _ => none
def rdMm (H : HL) (km : Nat) : Option MP := match find km H with
  | some b => match cellsB b with
    | [some (.slc kc _ _ _ len cap), some lk, some lc, some lo, some ln, some ct] => match numC lk, numC lc, numC lo, numC ln, numC ct with
      | some xk, some xc, some xo, some xn, some xt => match find kc H with
        | some c => match colsB c with
          | [col] => match colG col with
            | some g => some ⟨kc, len, cap, ⟨fun e => g e, xk, xc, xo, xn, xt⟩⟩
            | none => none
          | _ => none
        | none => none
      | _, _, _, _, _ => none
    | _ => none
  | none => none
def mK (len cap : NV) (lk lc lo ln ct : SC) : Blk := .own 128 6 ([.slc 1 (.k 0) (.k 0) 1 len cap, lk, lc, lo, ln, ct].map some)
def hN (len cap : NV) (m : Mm) : HL := [(0, mK len cap (i6 m.lk) (i6 m.lc) (uw m.lo) (uw m.ln) (i6 m.ct)), (1, .row 23 cap.v len.v [.ci .u64 fun _ e => m.g e])]
def hW (len cap : NV) (m : Mm) : HL := [(0, .view 1 (fun _ => 1) [.ck [.slc 1 (.k 0) (.k 0) 1 len cap], .cu, .cu, .cu, .cu, .ck [i6 m.ct]]), (1, .view 1 (fun _ => len.v) [.ci .u64 fun _ e => m.g e])]
def outU (len cap : NV) (M : Mm) : Out (SV × Hp) := .any Mm (fun m' => m' = M) fun m' => .leaf (.t [], ⟨hN len cap m', 2, fun _ => True⟩)
end
theorem pre_N {len cap : NV} {m : Mm} (k : Nat) (b : Blk) (hf : find k (hM len.v cap.v m) = some b) : ∃ c, find k (hN len cap m) = some c ∧ leBlk c b := by
  unfold hM at hf
  unfold hN
  rw [find_cons] at hf ⊢
  split at hf
  · cases hf
    exact ⟨_, if_pos (by assumption), rfl, rfl, ⟨rfl, rfl, rfl, rfl, rfl, rfl⟩, ⟨rfl, rfl⟩, ⟨rfl, rfl⟩, ⟨rfl, rfl⟩, ⟨rfl, rfl⟩, ⟨rfl, rfl⟩, trivial⟩
  · rename_i h
    rw [if_neg h]
    rw [find_cons] at hf ⊢
    split at hf
    · cases hf
      exact ⟨_, if_pos (by assumption), rfl, rfl, Nat.le_refl _, ⟨rfl, fun _ _ _ => rfl⟩, trivial⟩
    · cases hf
theorem pre_W {len cap : NV} {m : Mm} (k : Nat) (b : Blk) (hf : find k (hV len.v cap.v m) = some b) : ∃ c, find k (hW len cap m) = some c ∧ leBlk c b := by
  unfold hV at hf
  unfold hW
  rw [find_cons] at hf ⊢
  split at hf
  · cases hf
    exact ⟨_, if_pos (by assumption), Nat.le_refl _, fun _ _ => Nat.le_refl _, ⟨⟨rfl, rfl, rfl, rfl, rfl, rfl⟩, trivial⟩, trivial, trivial, trivial, trivial, ⟨⟨rfl, rfl⟩, trivial⟩, trivial⟩
  · rename_i h
    rw [if_neg h]
    rw [find_cons] at hf ⊢
    split at hf
    · cases hf
      exact ⟨_, if_pos (by assumption), Nat.le_refl _, fun _ _ => Nat.le_refl _, ⟨rfl, fun _ _ _ => rfl⟩, trivial⟩
    · cases hf
theorem same_N {len cap : NV} {m : Mm} : HLE (hM len.v cap.v m) (hN len cap m) :=
  ⟨⟨rfl, rfl, rfl, ⟨(fun _ => rfl : SCe _ _), fun _ => rfl, fun _ => rfl, fun _ => rfl, fun _ => rfl, fun _ => rfl, trivial⟩⟩, ⟨rfl, rfl, rfl, rfl, ColE.refl _, trivial⟩, trivial⟩
section
variable {f : FuncId} {args : List SV} {len cap : NV} {m M : Mm}
theorem name_U (h : LocalOK P f args (hM len.v cap.v m) 2 (.need True (.leaf (.t [], ⟨hM len.v cap.v M, 2, fun _ => True⟩)))) : LocalOK P f args (hN len cap m) 2 (outU len cap M) :=
  (pre_local h pre_N).same fun K hK => ⟨trivial, _, _, SVe.refl _, same_N, hK.2 M rfl⟩
end
noncomputable section
def nums : List SV → Option (List Int)
  | [] => some []
  | .c c :: l => match numC c, nums l with
    | some x, some xs => some (x :: xs)
    | _, _ => none
  | _ => none
def nacc (k : MP → List Nat → List Int → List SV → Hp → Out (SV × Hp)) : List SV → Hp → Out (SV × Hp) := fun args H => match args with
  | .c (.ptr km _ _ _ _) :: rest => fN km fun km => match rdMm H.h km, nums rest with
    | some x, some r => k x [km, x.kc] r args H
    | _, _ => .bad 480
  | _ => .bad 481
def nSt : List SV → Hp → Out (SV × Hp) := nacc fun x σ r => match r with
  | [a, v] => useP σ 2 [ptM, .c (i6 a), .c (uw v)] (hN x.len x.cap x.m) (outU x.len x.cap (x.m.acc x.len.v 2 a v))
  | _ => fun _ _ => .bad 482
theorem nacc_ok {f : FuncId} {k : MP → List Nat → List Int → List SV → Hp → Out (SV × Hp)} (hk : ∀ x σ r args H, (∃ n, k x σ r args H = .bad n) ∨ ∃ σ' n args0 h0 post, k x σ r args H = useP σ' n args0 h0 post args H ∧ LocalOK P f args0 h0 n post) : ContractOK P f (nacc k) := contract_of_useP fun args H => by
  unfold nacc
  simp only [fN_eq]
  repeat' split
  all_goals first
    | exact .inl ⟨_, rfl⟩
    | exact hk _ _ _ _ _
theorem nSt_ok : ContractOK P fSt nSt := nacc_ok fun x σ r args H => by
  repeat' split
  all_goals first | exact .inl ⟨_, rfl⟩ | exact .inr ⟨_, _, _, _, _, rfl, name_U (local_of_ver0 ConOK.nil fun _ => vhMSt)⟩
end
end Go.Proofs.YtgnohehpcecoiaaGreat.Md

/- machine.New, with what is known of the configuration; the cells as one value: the contract. -/
set_option maxRecDepth 100000
namespace Go.Proofs.YtgnohehpcecoiaaGreat.Md
open Go Go.RowKit Sx Cn Dc Ck Vc
noncomputable section
end
end Go.Proofs.YtgnohehpcecoiaaGreat.Md

/- What a state says of an environment: readers. -/
set_option maxRecDepth 100000
namespace Go.Proofs.YtgnohehpcecoiaaGreat.Md
open Go Go.RowKit Sx Cn Dc Ck Vc
noncomputable section
/-- A cell of a block, also of one that may be read only. -/
def bCell (k f : Nat) (h : HL) : Option SC := match find k h with
  | some b => ((cellsB b)[f]?).join
  | _ => none
def scK : Option SC → Nat
  | some (.ptr k _ _ _ _) => k
  | some (.slc k _ _ _ _ _) => k
  | some (.ifc _ k _ _ _ _) => k
  | _ => 0
/-- The key in a temporary; the keys of an environment's memory and cells, records, events; the environment is in a temporary. -/
def tmK (t : Nat) (s : St) : Nat := match (s.tmps[t]? : Option (Option SV)) with
  | some (some (.c c)) => scK (some c)
  | _ => 0
def envM (t : Nat) (s : St) : Nat := scK (bCell (tmK t s) 22 s.H.h)
def envC (t : Nat) (s : St) : Nat := scK (bCell (envM t s) 0 s.H.h)
def tmI (t : Nat) (s : St) : Option Int := match (s.tmps[t]? : Option (Option SV)) with
  | some (some (.c c)) => numC c
  | _ => none
def rowCols (k : Nat) (h : HL) : List Col := match find k h with
  | some b => colsB b
  | _ => []
/-- Events, field by field. -/
structure Evs where
  k : Nat → Int
  w : Nat → Int
  t : Nat → Int
  o : Nat → Int
  l : Nat → Int
def Evs.cols (v : Evs) : List Col := [.ci .i64 fun _ e => v.k e, .ci .i64 fun _ e => v.w e, .ci .i64 fun _ e => v.t e, .ci .i64 fun _ e => v.o e, .ci .i64 fun _ e => v.l e]
def rdEv (k : Nat) (h : HL) : Option Evs := match rowCols k h with
  | [a, b, c, d, e] => match colG a, colG b, colG c, colG d, colG e with
    | some a, some b, some c, some d, some e => some ⟨fun i => a i, fun i => b i, fun i => c i, fun i => d i, fun i => e i⟩
    | _, _, _, _, _ => none
  | _ => none
def noEv : List Col := [.ci .i64 fun _ _ => 0, .ci .i64 fun _ _ => 0, .ci .i64 fun _ _ => 0, .ci .i64 fun _ _ => 0, .ci .i64 fun _ _ => 0]
end
end Go.Proofs.YtgnohehpcecoiaaGreat.Md

/- Facts of memories. -/
set_option maxRecDepth 100000
namespace Go.Proofs.YtgnohehpcecoiaaGreat.Md
open Go Go.RowKit Sx Cn Dc Ck Vc
section
variable {m : Mm} {n : Nat} {kd a x : Int}
def Mm.ok (m : Mm) : Prop := ∀ e, 0 ≤ m.g e ∧ m.g e ≤ 18446744073709551615
end
theorem l1 : IntKind.i64.wrap (1 + 1) = 2 := w64 (by omega)
theorem l2 : IntKind.i64.wrap (2 + 1) = 3 := w64 (by omega)
theorem l3 : IntKind.i64.wrap (3 + 1) = 4 := w64 (by omega)
theorem k2 : IntKind.i64.wrap 2 = 2 := w64 (by omega)
theorem k3 : IntKind.i64.wrap 3 = 3 := w64 (by omega)
theorem k4 : IntKind.i64.wrap 4 = 4 := w64 (by omega)
theorem k5 : IntKind.i64.wrap 5 = 5 := w64 (by omega)
theorem k6 : IntKind.i64.wrap 6 = 6 := w64 (by omega)
theorem k7 : IntKind.i64.wrap 7 = 7 := w64 (by omega)
theorem k8 : IntKind.i64.wrap 8 = 8 := w64 (by omega)
theorem us : IntKind.u64.signed = false := rfl
end Go.Proofs.YtgnohehpcecoiaaGreat.Md

/- Places of cells, remainders: what is asked. -/
set_option maxRecDepth 100000
namespace Go.Proofs.YtgnohehpcecoiaaGreat.Md
open Go Go.RowKit Sx Cn Dc Ck Vc
noncomputable section
/-- The number that is answered. -/
def numS : SV → Option Int
  | .c c => numC c
  | _ => none
/-- One number, of which φ is said. -/
def finI (k : IntKind) (φ : Int → Prop) : SV → Hp → V := finV (X := Int) 0 0 (fun s _ => numS s) (fun _ _ => []) φ (fun r => .c (.iv k r)) (fun _ => [])
def fDr : FuncId := 12
def vDr (a n : Int) : V := verF P con0 3 4 fDr [] .nil [iv a, iv n] ⟨[], 0, fun _ => True⟩ (finI .i64 fun r => r = dr a n)
/-- A layout's numbers. -/
structure Ly where
  W : Int
  L : Int
  C : Int
  T : Int
  D : Int
  H : Int
  sl : Int
  ep : Int
  bm : Int
  qu : Int
  tb : Int
def Ly.l (y : Ly) : List SC := [i6 y.W, i6 y.L, i6 y.C, i6 y.T, i6 y.D, i6 y.H, i6 y.sl, i6 y.ep, i6 y.bm, i6 y.qu, i6 y.tb]
end
end Go.Proofs.YtgnohehpcecoiaaGreat.Md

/- Places of cells: the conditions, printed by program. -/
set_option maxRecDepth 100000
namespace Go.Proofs.YtgnohehpcecoiaaGreat.Md
open Go Go.RowKit Sx Cn Dc Ck Vc

theorem vDr_eq (a n : Int) : vDr a n =
  V.br (decide (n < Int.ofNat 1))
    (V.need (Int.ofNat 0 = dr a n)
    (nN [(1, .eqI 0 0)] V.ok))
    (V.need (n ≠ Int.ofNat 0)
    (V.br (decide (a.tmod n < Int.ofNat 0))
    (V.need (n ≠ Int.ofNat 0)
    (V.need (IntKind.i64.wrap (a.tmod n + n) = dr a n)
    (nN [(1, .pf (IntKind.i64.wrap (a.tmod n + n) = IntKind.i64.wrap (a.tmod n + n)) rfl)] V.ok)))
    (V.need (n ≠ Int.ofNat 0)
    (V.need (a.tmod n = dr a n)
    (nN [(1, .pf (a.tmod n = a.tmod n) rfl)] V.ok))))) := by kernel_rfl

end Go.Proofs.YtgnohehpcecoiaaGreat.Md
