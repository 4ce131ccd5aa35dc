/- The accesses of a memory: a model of it; what is asked. -/
import Derived.Test.YtimklokgjmdobaaML
import Derived.Test.YtimklokgjmdobaaMW
import Derived.Test.YtimklokgjmdobaaMNw
import Derived.Test.YtimklokgjmdobaaMNwMem
set_option linter.unusedVariables false
set_option linter.unusedSimpArgs false
set_option maxRecDepth 100000
namespace Go.Proofs.Ytimklokgjmdobaa.Md
open Go Go.RowKit Sx Cn Dc Ck Vc
structure Mm where
  g : Nat → Int
  lk : Int
  lc : Int
  lo : Int
  ln : Int
  ct : Int
def inb (n : Nat) (a : Int) : Bool := decide (0 ≤ a) && decide (a < (n : Int))
def Mm.val (m : Mm) (n : Nat) (a : Int) : Int := bif inb n a then m.g a.toNat else 0
def Mm.acc (m : Mm) (n : Nat) (kd a x : Int) : Mm := bif inb n a then ⟨fun e => if e = a.toNat then x else m.g e, kd, a, m.g a.toNat, x, IntKind.i64.wrap (m.ct + 1)⟩ else m
@[simp] theorem Mm.eta (m : Mm) : Mm.mk (fun e => m.g e) m.lk m.lc m.lo m.ln m.ct = m := rfl
noncomputable section
abbrev uw (n : Int) : SC := .iv .u64 n
abbrev i6 (n : Int) : SC := .iv .i64 n
def mO (n cap : Nat) (lk lc lo ln ct : SC) : Blk := .own 72 6 ([.slc 1 (.k 0) (.k 0) 1 (.s n) (.s cap), lk, lc, lo, ln, ct].map some)
def hM (n cap : Nat) (m : Mm) : HL := [(0, mO n cap (i6 m.lk) (i6 m.lc) (uw m.lo) (uw m.ln) (i6 m.ct)), (1, .row 43 cap n [.ci .u64 fun _ e => m.g e])]
def hV (n cap : Nat) (m : Mm) : HL := [(0, .view 1 (fun _ => 1) [.ck [.slc 1 (.k 0) (.k 0) 1 (.s n) (.s cap)], .cu, .cu, .cu, .cu, .ck [i6 m.ct]]), (1, .view 1 (fun _ => n) [.ci .u64 fun _ e => m.g e])]
def finMm (ret : SV) (n cap : Nat) (m : Mm) : SV → Hp → V := finV (X := Unit) 2 2 (fun _ _ => some ()) (fun _ _ => []) (fun _ => True) (fun _ => ret) (fun _ => hM n cap m)
def ptM : SV := .c (.ptr 0 (.k 0) (.k 0) 0 6)
def fLd : FuncId := 63
def fSt : FuncId := 7
def fCt : FuncId := 10
section
variable (n cap : Nat) (m : Mm) (a v y : Int)
def vMLd : V := verF P con0 3 6 fLd [] .nil [ptM, .c (i6 a)] ⟨hM n cap m, 2, fun _ => True⟩ (finMm (.c (uw (m.val n a))) n cap (m.acc n 1 a (m.val n a)))
def vMSt : V := verF P con0 3 6 fSt [] .nil [ptM, .c (i6 a), .c (uw v)] ⟨hM n cap m, 2, fun _ => True⟩ (finMm (.t []) n cap (m.acc n 2 a v))
def vMCt : V := verF P con0 3 6 fCt [] .nil [ptM] ⟨hV n cap m, 2, fun _ => True⟩ (finV (X := Unit) 2 2 (fun _ _ => some ()) (fun _ _ => []) (fun _ => True) (fun _ => .c (i6 m.ct)) (fun _ => []))
end
end
end Go.Proofs.Ytimklokgjmdobaa.Md

/- The accesses of a memory: the conditions, printed by program. -/
set_option maxRecDepth 100000
namespace Go.Proofs.Ytimklokgjmdobaa.Md
open Go Go.RowKit Sx Cn Dc Ck Vc

theorem vMLd_eq (n cap : Nat) (m : Mm) (a : Int) : vMLd n cap m a =
  V.br (decide (a < Int.ofNat 0))
    (V.need True
    (V.need (Int.ofNat 0 = m.val n a)
    (nN [(1, .pf (n = n) rfl), (1, .pf (cap = cap) rfl)]
    (V.need (m.lk = (m.acc n (Int.ofNat 1) a (m.val n a)).lk)
    (V.need (m.lc = (m.acc n (Int.ofNat 1) a (m.val n a)).lc)
    (V.need (m.lo = (m.acc n (Int.ofNat 1) a (m.val n a)).lo)
    (V.need (m.ln = (m.acc n (Int.ofNat 1) a (m.val n a)).ln)
    (V.need (m.ct = (m.acc n (Int.ofNat 1) a (m.val n a)).ct)
    (nN [(1, .pf (cap = cap) rfl)]
    (V.need (n ≤ n)
    (V.need (∀ (e : Nat), e < n → m.g e = (m.acc n (Int.ofNat 1) a (m.val n a)).g e) V.ok)))))))))))
    (V.br (decide (a ≥ (↑n : Int)))
    (V.need True
    (V.need (Int.ofNat 0 = m.val n a)
    (nN [(1, .pf (n = n) rfl), (1, .pf (cap = cap) rfl)]
    (V.need (m.lk = (m.acc n (Int.ofNat 1) a (m.val n a)).lk)
    (V.need (m.lc = (m.acc n (Int.ofNat 1) a (m.val n a)).lc)
    (V.need (m.lo = (m.acc n (Int.ofNat 1) a (m.val n a)).lo)
    (V.need (m.ln = (m.acc n (Int.ofNat 1) a (m.val n a)).ln)
    (V.need (m.ct = (m.acc n (Int.ofNat 1) a (m.val n a)).ct)
    (nN [(1, .pf (cap = cap) rfl)]
    (V.need (n ≤ n)
    (V.need (∀ (e : Nat), e < n → m.g e = (m.acc n (Int.ofNat 1) a (m.val n a)).g e) V.ok)))))))))))
    (V.need (Int.ofNat 0 ≤ a ∧ a < (↑n : Int))
    (V.need (0 + a.toNat < n)
    (V.need (0 + a.toNat < n)
    (nN [(3, .lt2 0 1 0 1)]
    (V.need (Int.ofNat 0 ≤ a ∧ a < (↑n : Int))
    (V.need (0 < 1 ∧ 0 + a.toNat < n)
    (V.need (0 + a.toNat < n)
    (V.need (Int.ofNat 0 ≤ a ∧ a < (↑n : Int))
    (V.need (0 + a.toNat < n)
    (V.need (0 + a.toNat < n)
    (V.need True
    (V.need (m.g (0 + a.toNat) = m.val n a)
    (nN [(1, .pf (n = n) rfl), (1, .pf (cap = cap) rfl)]
    (V.need (Int.ofNat 1 = (m.acc n (Int.ofNat 1) a (m.val n a)).lk)
    (V.need (a = (m.acc n (Int.ofNat 1) a (m.val n a)).lc)
    (V.need (m.g (0 + a.toNat) = (m.acc n (Int.ofNat 1) a (m.val n a)).lo)
    (V.need ((if 0 = 0 ∧ 0 + a.toNat = 0 + a.toNat then m.g (0 + a.toNat) else m.g (0 + a.toNat)) = (m.acc n (Int.ofNat 1) a (m.val n a)).ln)
    (V.need (IntKind.i64.wrap (m.ct + Int.ofNat 1) = (m.acc n (Int.ofNat 1) a (m.val n a)).ct)
    (nN [(1, .pf (cap = cap) rfl)]
    (V.need (n ≤ n)
    (V.need (∀ (e : Nat), e < n → (if 0 = 0 ∧ e = 0 + a.toNat then m.g (0 + a.toNat) else m.g e) = (m.acc n (Int.ofNat 1) a (m.val n a)).g e) V.ok)))))))))))))))))))))) := by kernel_rfl

theorem vMSt_eq (n cap : Nat) (m : Mm) (a v : Int) : vMSt n cap m a v =
  V.br (decide (a < Int.ofNat 0))
    (V.need True
    (nN [(1, .pf (n = n) rfl), (1, .pf (cap = cap) rfl)]
    (V.need (m.lk = (m.acc n (Int.ofNat 2) a v).lk)
    (V.need (m.lc = (m.acc n (Int.ofNat 2) a v).lc)
    (V.need (m.lo = (m.acc n (Int.ofNat 2) a v).lo)
    (V.need (m.ln = (m.acc n (Int.ofNat 2) a v).ln)
    (V.need (m.ct = (m.acc n (Int.ofNat 2) a v).ct)
    (nN [(1, .pf (cap = cap) rfl)]
    (V.need (n ≤ n)
    (V.need (∀ (e : Nat), e < n → m.g e = (m.acc n (Int.ofNat 2) a v).g e) V.ok))))))))))
    (V.br (decide (a ≥ (↑n : Int)))
    (V.need True
    (nN [(1, .pf (n = n) rfl), (1, .pf (cap = cap) rfl)]
    (V.need (m.lk = (m.acc n (Int.ofNat 2) a v).lk)
    (V.need (m.lc = (m.acc n (Int.ofNat 2) a v).lc)
    (V.need (m.lo = (m.acc n (Int.ofNat 2) a v).lo)
    (V.need (m.ln = (m.acc n (Int.ofNat 2) a v).ln)
    (V.need (m.ct = (m.acc n (Int.ofNat 2) a v).ct)
    (nN [(1, .pf (cap = cap) rfl)]
    (V.need (n ≤ n)
    (V.need (∀ (e : Nat), e < n → m.g e = (m.acc n (Int.ofNat 2) a v).g e) V.ok))))))))))
    (V.need (Int.ofNat 0 ≤ a ∧ a < (↑n : Int))
    (V.need (0 + a.toNat < n)
    (V.need (0 + a.toNat < n)
    (nN [(4, .lt2 0 1 0 1)]
    (V.need (Int.ofNat 0 ≤ a ∧ a < (↑n : Int))
    (V.need (0 < 1 ∧ 0 + a.toNat < n)
    (V.need (0 + a.toNat < n)
    (V.need (Int.ofNat 0 ≤ a ∧ a < (↑n : Int))
    (V.need (0 + a.toNat < n)
    (V.need (0 + a.toNat < n)
    (V.need True
    (nN [(1, .pf (n = n) rfl), (1, .pf (cap = cap) rfl)]
    (V.need (Int.ofNat 2 = (m.acc n (Int.ofNat 2) a v).lk)
    (V.need (a = (m.acc n (Int.ofNat 2) a v).lc)
    (V.need (m.g (0 + a.toNat) = (m.acc n (Int.ofNat 2) a v).lo)
    (V.need ((if 0 = 0 ∧ 0 + a.toNat = 0 + a.toNat then v else m.g (0 + a.toNat)) = (m.acc n (Int.ofNat 2) a v).ln)
    (V.need (IntKind.i64.wrap (m.ct + Int.ofNat 1) = (m.acc n (Int.ofNat 2) a v).ct)
    (nN [(1, .pf (cap = cap) rfl)]
    (V.need (n ≤ n)
    (V.need (∀ (e : Nat), e < n → (if 0 = 0 ∧ e = 0 + a.toNat then v else m.g e) = (m.acc n (Int.ofNat 2) a v).g e) V.ok))))))))))))))))))))) := by kernel_rfl

theorem vMCt_eq (n cap : Nat) (m : Mm) : vMCt n cap m =
  nN [(3, .lt2 0 1 0 1)]
    (V.need True
    (nN [(1, .pf (m.ct = m.ct) rfl)] V.ok)) := by kernel_rfl


end Go.Proofs.Ytimklokgjmdobaa.Md

/- Steps by which trees are shown. -/
namespace Go.Proofs.Ytimklokgjmdobaa.Md
open Go Go.RowKit Sx Cn Dc Ck Vc
end Go.Proofs.Ytimklokgjmdobaa.Md

/- The accesses of a memory, by a model of it: the contracts. -/
set_option maxRecDepth 100000
namespace Go.Proofs.Ytimklokgjmdobaa.Md
open Go Go.RowKit Sx Cn Dc Ck Vc
theorem inb_t {n : Nat} {a : Int} (h0 : 0 ≤ a) (h1 : a < (n : Int)) : inb n a = true := by simp [inb, h0, h1]
theorem inb_f {n : Nat} {a : Int} (h : a < 0 ∨ (n : Int) ≤ a) : inb n a = false := by
  unfold inb
  rcases h with h | h
  · rw [decide_eq_false (by omega)]; rfl
  · rw [decide_eq_false (p := a < (n : Int)) (by omega), Bool.and_false]
section
variable {n cap : Nat} {m : Mm} {a v y : Int}
theorem vhMLd : VHolds (vMLd n cap m a) := by
  constructor
  rw [vMLd_eq]
  (with_reducible repeat' first | exact V.okI | refine V.brT ?_ | refine V.brF ?_ | refine V.brI ?_ ?_ | refine V.anyI ?_ | refine nN_h rfl ?_ | refine V.needI ?_ ?_ | intro _)
  all_goals (simp only [decide_eq_true_eq, decide_eq_false_iff_not, Int.ofNat_eq_natCast, Bool.not_eq_true', Bool.not_eq_false', ge_iff_le, gt_iff_lt, Bool.and_eq_true, Bool.or_eq_true, Bool.not_eq_true, Bool.and_eq_false_iff] at *)
  all_goals first | omega | (have hb : inb n a = false := inb_f (by omega); simp [Mm.val, Mm.acc, hb]; done) | (have hb : inb n a = true := inb_t (by omega) (by omega); simp [Mm.val, Mm.acc, hb]; done) | trace_state
theorem vhMSt : VHolds (vMSt n cap m a v) := by
  constructor
  rw [vMSt_eq]
  (with_reducible repeat' first | exact V.okI | refine V.brT ?_ | refine V.brF ?_ | refine V.brI ?_ ?_ | refine V.anyI ?_ | refine nN_h rfl ?_ | refine V.needI ?_ ?_ | intro _)
  all_goals (simp only [decide_eq_true_eq, decide_eq_false_iff_not, Int.ofNat_eq_natCast, Bool.not_eq_true', Bool.not_eq_false', ge_iff_le, gt_iff_lt, Bool.and_eq_true, Bool.or_eq_true, Bool.not_eq_true, Bool.and_eq_false_iff] at *)
  all_goals first | omega | (have hb : inb n a = false := inb_f (by omega); simp [Mm.val, Mm.acc, hb]; done) | (have hb : inb n a = true := inb_t (by omega) (by omega); simp [Mm.val, Mm.acc, hb]; done) | trace_state
theorem vhMCt : VHolds (vMCt n cap m) := by
  constructor
  rw [vMCt_eq]
  (with_reducible repeat' first | exact V.okI | refine V.brT ?_ | refine V.brF ?_ | refine V.brI ?_ ?_ | refine V.anyI ?_ | refine nN_h rfl ?_ | refine V.needI ?_ ?_ | intro _)
  all_goals first | exact True.intro | rfl | trace_state
end
end Go.Proofs.Ytimklokgjmdobaa.Md

/- The accesses of a memory, by a model of it: the contracts' table. What is answered has a name. -/
set_option maxRecDepth 100000
namespace Go.Proofs.Ytimklokgjmdobaa.Md
open Go Go.RowKit Sx Cn Dc Ck Vc
theorem pre_local {P : Program} {f : FuncId} {args : List SV} {h0 h1 : HL} {n : Nat} {post : Out (SV × Hp)} (h : LocalOK P f args h1 n post) (hle : ∀ k b, find k h1 = some b → ∃ c, find k h0 = some c ∧ leBlk c b) : LocalOK P f args h0 n post := by
  intro φ ρ w vs K hi hv hh
  have hinv : HInv φ ρ ⟨h1, n, fun _ => True⟩ w := by
    refine ⟨hi.fr, hi.up, ?_, ?_, ?_, ?_, ?_⟩
    · intro k b hf; obtain ⟨c, hc, _⟩ := hle k b hf; exact hi.lt k c hc
    · intro k b hf; obtain ⟨c, hc, hl⟩ := hle k b hf; exact Blk.sat_le hl (hi.sat k c hc)
    · intro k b hf i hli y o hy; obtain ⟨c, hc, hl⟩ := hle k b hf; exact hi.bd k c hc i (leBlk_live hl hli) y o hy
    · intro k b hf hr i hli y o hy; obtain ⟨c, hc, hl⟩ := hle k b hf; exact hi.may k c hc (leBlk_row hl hr) i (leBlk_live hl hli) y o hy
    · intro k b hf hr k' b' hf' hne j i hj hi' y o y' o' hy hy'
      obtain ⟨c, hc, hl⟩ := hle k b hf
      obtain ⟨c', hc', hl'⟩ := hle k' b' hf'
      exact hi.sep k c hc (leBlk_row hl hr) k' c' hc' hne j i (leBlk_live hl hj) (leBlk_live hl' hi') y o y' o' hy hy'
  refine (h φ ρ w vs K hinv hv hh).mono ?_
  rintro e w' ⟨v, ρ', sv, H', a1, a2, a3, a4, a5, a6⟩
  exact ⟨v, ρ', sv, H', a1, a2, a3, ⟨a4.nxt, a4.D⟩, a5, a6⟩
structure MP where
  kc : Nat
  len : NV
  cap : NV
  m : Mm
noncomputable section
def colC : Col → Option SC
  | .ck [c] => some c
  | .cc c => some c
  | _ => none
def cellsB : Blk → List (Option SC)
  | .own _ _ cs => cs
  | .view _ _ cols => cols.map colC
  | _ => []
def colsB : Blk → List Col
  | .row _ _ _ cols => cols
  | .view _ _ cols => cols
  | _ => []
def colG : Col → Option (Nat → Int)
  | .ci _ g => some fun e => g 0 e
  | .cc c => match numC c with
    | some v => some fun _ => v
    | none => none
  | .ck l => some fun e => numAt l e
  | _ => none
def rdMm (H : HL) (km : Nat) : Option MP := match find km H with
  | some b => match cellsB b with
    | [some (.slc kc _ _ _ len cap), some lk, some lc, some lo, some ln, some ct] => match numC lk, numC lc, numC lo, numC ln, numC ct with
      | some xk, some xc, some xo, some xn, some xt => match find kc H with
        | some c => match colsB c with
          | [col] => match colG col with
            | some g => some ⟨kc, len, cap, ⟨fun e => g e, xk, xc, xo, xn, xt⟩⟩
            | none => none
          | _ => none
        | none => none
      | _, _, _, _, _ => none
    | _ => none
  | none => none
def mK (len cap : NV) (lk lc lo ln ct : SC) : Blk := .own 72 6 ([.slc 1 (.k 0) (.k 0) 1 len cap, lk, lc, lo, ln, ct].map some)
def hN (len cap : NV) (m : Mm) : HL := [(0, mK len cap (i6 m.lk) (i6 m.lc) (uw m.lo) (uw m.ln) (i6 m.ct)), (1, .row 43 cap.v len.v [.ci .u64 fun _ e => m.g e])]
def hW (len cap : NV) (m : Mm) : HL := [(0, .view 1 (fun _ => 1) [.ck [.slc 1 (.k 0) (.k 0) 1 len cap], .cu, .cu, .cu, .cu, .ck [i6 m.ct]]), (1, .view 1 (fun _ => len.v) [.ci .u64 fun _ e => m.g e])]
def outI (len cap : NV) (M : Mm) (x : Int) : Out (SV × Hp) := .any Mm (fun m' => m' = M) fun m' => .any Int (fun v => v = x) fun v => .leaf (.c (uw v), ⟨hN len cap m', 2, fun _ => True⟩)
def outU (len cap : NV) (M : Mm) : Out (SV × Hp) := .any Mm (fun m' => m' = M) fun m' => .leaf (.t [], ⟨hN len cap m', 2, fun _ => True⟩)
def outV (k : IntKind) (x : Int) : Out (SV × Hp) := .any Int (fun v => v = x) fun v => .leaf (.c (.iv k v), ⟨[], 2, fun _ => True⟩)
end
theorem pre_N {len cap : NV} {m : Mm} (k : Nat) (b : Blk) (hf : find k (hM len.v cap.v m) = some b) : ∃ c, find k (hN len cap m) = some c ∧ leBlk c b := by
  unfold hM at hf
  unfold hN
  rw [find_cons] at hf ⊢
  split at hf
  · cases hf
    exact ⟨_, if_pos (by assumption), rfl, rfl, ⟨rfl, rfl, rfl, rfl, rfl, rfl⟩, ⟨rfl, rfl⟩, ⟨rfl, rfl⟩, ⟨rfl, rfl⟩, ⟨rfl, rfl⟩, ⟨rfl, rfl⟩, trivial⟩
  · rename_i h
    rw [if_neg h]
    rw [find_cons] at hf ⊢
    split at hf
    · cases hf
      exact ⟨_, if_pos (by assumption), rfl, rfl, Nat.le_refl _, ⟨rfl, fun _ _ _ => rfl⟩, trivial⟩
    · cases hf
theorem pre_W {len cap : NV} {m : Mm} (k : Nat) (b : Blk) (hf : find k (hV len.v cap.v m) = some b) : ∃ c, find k (hW len cap m) = some c ∧ leBlk c b := by
  unfold hV at hf
  unfold hW
  rw [find_cons] at hf ⊢
  split at hf
  · cases hf
    exact ⟨_, if_pos (by assumption), Nat.le_refl _, fun _ _ => Nat.le_refl _, ⟨⟨rfl, rfl, rfl, rfl, rfl, rfl⟩, trivial⟩, trivial, trivial, trivial, trivial, ⟨⟨rfl, rfl⟩, trivial⟩, trivial⟩
  · rename_i h
    rw [if_neg h]
    rw [find_cons] at hf ⊢
    split at hf
    · cases hf
      exact ⟨_, if_pos (by assumption), Nat.le_refl _, fun _ _ => Nat.le_refl _, ⟨rfl, fun _ _ _ => rfl⟩, trivial⟩
    · cases hf
theorem same_N {len cap : NV} {m : Mm} : HLE (hM len.v cap.v m) (hN len cap m) :=
  ⟨⟨rfl, rfl, rfl, ⟨(fun _ => rfl : SCe _ _), fun _ => rfl, fun _ => rfl, fun _ => rfl, fun _ => rfl, fun _ => rfl, trivial⟩⟩, ⟨rfl, rfl, rfl, rfl, ColE.refl _, trivial⟩, trivial⟩
section
variable {f : FuncId} {args : List SV} {len cap : NV} {m M : Mm}
theorem name_I {x : Int} (h : LocalOK P f args (hM len.v cap.v m) 2 (.need True (.leaf (.c (uw x), ⟨hM len.v cap.v M, 2, fun _ => True⟩)))) : LocalOK P f args (hN len cap m) 2 (outI len cap M x) :=
  (pre_local h pre_N).same fun K hK => ⟨trivial, _, _, SVe.refl _, same_N, (hK.2 M rfl).2 x rfl⟩
theorem name_U (h : LocalOK P f args (hM len.v cap.v m) 2 (.need True (.leaf (.t [], ⟨hM len.v cap.v M, 2, fun _ => True⟩)))) : LocalOK P f args (hN len cap m) 2 (outU len cap M) :=
  (pre_local h pre_N).same fun K hK => ⟨trivial, _, _, SVe.refl _, same_N, hK.2 M rfl⟩
theorem name_V {k : IntKind} {x : Int} (h : LocalOK P f args (hV len.v cap.v m) 2 (.need True (.leaf (.c (.iv k x), ⟨[], 2, fun _ => True⟩)))) : LocalOK P f args (hW len cap m) 2 (outV k x) :=
  (pre_local h pre_W).mono fun K hK => ⟨trivial, hK.2 x rfl⟩
end
noncomputable section
def nums : List SV → Option (List Int)
  | [] => some []
  | .c c :: l => match numC c, nums l with
    | some x, some xs => some (x :: xs)
    | _, _ => none
  | _ => none
def nacc (k : MP → List Nat → List Int → List SV → Hp → Out (SV × Hp)) : List SV → Hp → Out (SV × Hp) := fun args H => match args with
  | .c (.ptr km _ _ _ _) :: rest => fN km fun km => match rdMm H.h km, nums rest with
    | some x, some r => k x [km, x.kc] r args H
    | _, _ => .bad 480
  | _ => .bad 481
def nLd : List SV → Hp → Out (SV × Hp) := nacc fun x σ r => match r with
  | [a] => useP σ 2 [ptM, .c (i6 a)] (hN x.len x.cap x.m) (outI x.len x.cap (x.m.acc x.len.v 1 a (x.m.val x.len.v a)) (x.m.val x.len.v a))
  | _ => fun _ _ => .bad 482
def nSt : List SV → Hp → Out (SV × Hp) := nacc fun x σ r => match r with
  | [a, v] => useP σ 2 [ptM, .c (i6 a), .c (uw v)] (hN x.len x.cap x.m) (outU x.len x.cap (x.m.acc x.len.v 2 a v))
  | _ => fun _ _ => .bad 482
def nCt : List SV → Hp → Out (SV × Hp) := nacc fun x σ r => match r with
  | [] => useP σ 2 [ptM] (hW x.len x.cap x.m) (outV .i64 x.m.ct)
  | _ => fun _ _ => .bad 482
theorem nacc_ok {f : FuncId} {k : MP → List Nat → List Int → List SV → Hp → Out (SV × Hp)} (hk : ∀ x σ r args H, (∃ n, k x σ r args H = .bad n) ∨ ∃ σ' n args0 h0 post, k x σ r args H = useP σ' n args0 h0 post args H ∧ LocalOK P f args0 h0 n post) : ContractOK P f (nacc k) := contract_of_useP fun args H => by
  unfold nacc
  simp only [fN_eq]
  repeat' split
  all_goals first
    | exact .inl ⟨_, rfl⟩
    | exact hk _ _ _ _ _
theorem nLd_ok : ContractOK P fLd nLd := nacc_ok fun x σ r args H => by
  repeat' split
  all_goals first | exact .inl ⟨_, rfl⟩ | exact .inr ⟨_, _, _, _, _, rfl, name_I (local_of_ver0 ConOK.nil fun _ => vhMLd)⟩
theorem nSt_ok : ContractOK P fSt nSt := nacc_ok fun x σ r args H => by
  repeat' split
  all_goals first | exact .inl ⟨_, rfl⟩ | exact .inr ⟨_, _, _, _, _, rfl, name_U (local_of_ver0 ConOK.nil fun _ => vhMSt)⟩
theorem nCt_ok : ContractOK P fCt nCt := nacc_ok fun x σ r args H => by
  repeat' split
  all_goals first | exact .inl ⟨_, rfl⟩ | exact .inr ⟨_, _, _, _, _, rfl, name_V (local_of_ver0 ConOK.nil fun _ => vhMCt)⟩
def conN (c : Con) : Con := Con.add fLd nLd (Con.add fSt nSt (Con.add fCt nCt (c)))
theorem conN_ok {c : Con} (h : ConOK P c) : ConOK P (conN c) := .add nLd_ok (.add nSt_ok (.add nCt_ok (h)))
end
end Go.Proofs.Ytimklokgjmdobaa.Md

/- machine.New, with what is known of the configuration; the cells as one value: the contract. -/
set_option maxRecDepth 100000
namespace Go.Proofs.Ytimklokgjmdobaa.Md
open Go Go.RowKit Sx Cn Dc Ck Vc
noncomputable section
def hNewC (m : Mk) (c d : Cf) (n rn rc : Nat) : HL := [(3, envK 8 9 4 6 7 m c d rn rc), (4, memK 5 m.n n), (5, zeroK false n), (6, clkK), (7, freshK m.t rn rc)] ++ hOwn 8 d
def outNewC (m : Mk) (c : Cf) (n t : Nat) : Out (SV × Hp) := .need (errE c = 0) (.any (Cf × Nat) (fun x => IsCl c x.1 ∧ c.T.toNat ≤ x.2) fun x => .leaf (.t [.c (.ptr 3 (.k 0) (.k 0) 0 26), .c (.ki .i64 0)], ⟨hNewC m c x.1 n t x.2, 11, fun _ => True⟩))
theorem newC_same (m : Mk) (c : Cf) (K : SV × Hp → Prop) (h : (outNewC m c (ncN c) c.T.toNat).holds K) : (Out.need True (psNewM c).out).holds (fun r => ∃ sv h', SVe r.1 sv ∧ HLE r.2.h h' ∧ K (sv, ⟨h', r.2.nxt, r.2.D⟩)) := by
  obtain ⟨h0, hx, hK⟩ := h
  refine ⟨trivial, fun _ => ⟨hx, fun x hφ => ⟨_, _, ?_, ?_, hK x hφ⟩⟩, fun h => absurd h0 (of_decide_eq_false h)⟩
  · exact fun _ => rfl
  · obtain ⟨d, rx⟩ := x
    obtain ⟨⟨FC, rc', cu', _, hd⟩, _⟩ := hφ
    simp only at hd
    subst hd
    refine ⟨⟨rfl, rfl, rfl, fa_own ?_⟩, ⟨rfl, rfl, rfl, fa_own ?_⟩, ⟨rfl, rfl, rfl, rfl, ?_⟩, ⟨rfl, rfl, rfl, ?_⟩, ⟨rfl, rfl, rfl, rfl, ?_⟩, HLE.refl _⟩
    · repeat' first
        | exact knI_e _ _ _
        | exact slc_e _ _ _ _ _ _ _ _
        | exact fun _ => rfl
        | exact (show True from trivial)
        | (show SCe _ _ ∧ Fa SCe _ _; constructor)
    · repeat' first
        | exact slc_e _ _ _ _ _ _ _ _
        | exact fun _ => rfl
        | exact (show True from trivial)
        | (show SCe _ _ ∧ Fa SCe _ _; constructor)
    · exact ⟨cc_i, trivial⟩
    · exact ⟨fun _ => rfl, fun _ => rfl, trivial⟩
    · exact ⟨repK_e cc_i, repK_e cc_i, repK_e cc_i, repK_e cc_i, repK_e cc_i, repK_e (ColE.refl _), repK_e cc_b, trivial⟩
end
end Go.Proofs.Ytimklokgjmdobaa.Md

/- What a state says of an environment: readers. -/
set_option maxRecDepth 100000
namespace Go.Proofs.Ytimklokgjmdobaa.Md
open Go Go.RowKit Sx Cn Dc Ck Vc
noncomputable section
def bCell (k f : Nat) (h : HL) : Option SC := match find k h with
  | some b => ((cellsB b)[f]?).join
  | _ => none
def scK : Option SC → Nat
  | some (.ptr k _ _ _ _) => k
  | some (.slc k _ _ _ _ _) => k
  | some (.ifc _ k _ _ _ _) => k
  | _ => 0
def tmK (t : Nat) (s : St) : Nat := match (s.tmps[t]? : Option (Option SV)) with
  | some (some (.c c)) => scK (some c)
  | _ => 0
def envM (t : Nat) (s : St) : Nat := scK (bCell (tmK t s) 22 s.H.h)
def envC (t : Nat) (s : St) : Nat := scK (bCell (envM t s) 0 s.H.h)
def tmI (t : Nat) (s : St) : Option Int := match (s.tmps[t]? : Option (Option SV)) with
  | some (some (.c c)) => numC c
  | _ => none
structure Evs where
  k : Nat → Int
  w : Nat → Int
  t : Nat → Int
  o : Nat → Int
  l : Nat → Int
def Evs.cols (v : Evs) : List Col := [.ci .i64 fun _ e => v.k e, .ci .i64 fun _ e => v.w e, .ci .i64 fun _ e => v.t e, .ci .i64 fun _ e => v.o e, .ci .i64 fun _ e => v.l e]
end
end Go.Proofs.Ytimklokgjmdobaa.Md

/- Places of cells, remainders: what is asked. -/
set_option maxRecDepth 100000
namespace Go.Proofs.Ytimklokgjmdobaa.Md
open Go Go.RowKit Sx Cn Dc Ck Vc
noncomputable section
def numS : SV → Option Int
  | .c c => numC c
  | _ => none
def finI (k : IntKind) (φ : Int → Prop) : SV → Hp → V := finV (X := Int) 0 0 (fun s _ => numS s) (fun _ _ => []) φ (fun r => .c (.iv k r)) (fun _ => [])
def fAt : FuncId := 66
def fIx : FuncId := 22
def fDr : FuncId := 14
def vIx (f i n w : Int) : V := verF P con0 3 4 fIx [] .nil [iv f, iv i, iv n, iv w] ⟨[], 0, fun _ => True⟩ (finI .i64 fun r => r = f + i * w)
def vDr (a n : Int) : V := verF P con0 3 4 fDr [] .nil [iv a, iv n] ⟨[], 0, fun _ => True⟩ (finI .i64 fun r => r = dr a n)
structure Ly where
  W : Int
  L : Int
  C : Int
  T : Int
  D : Int
  H : Int
  sl : Int
  ep : Int
  bm : Int
  qu : Int
  tb : Int
def Ly.l (y : Ly) : List SC := [i6 y.W, i6 y.L, i6 y.C, i6 y.T, i6 y.D, i6 y.H, i6 y.sl, i6 y.ep, i6 y.bm, i6 y.qu, i6 y.tb]
end
end Go.Proofs.Ytimklokgjmdobaa.Md

/- Places of cells: the conditions, printed by program. -/
set_option maxRecDepth 100000
namespace Go.Proofs.Ytimklokgjmdobaa.Md
open Go Go.RowKit Sx Cn Dc Ck Vc

theorem vIx_eq (f i n w : Int) : vIx f i n w =
  V.br (decide (i < Int.ofNat 0))
    (V.need (Int.negSucc 0 = f + i * w)
    (nN [(1, .pf (Int.negSucc 0 = Int.negSucc 0) rfl)] V.ok))
    (V.br (decide (i ≥ n))
    (V.need (Int.negSucc 0 = f + i * w)
    (nN [(1, .pf (Int.negSucc 0 = Int.negSucc 0) rfl)] V.ok))
    (V.need (IntKind.i64.wrap (f + IntKind.i64.wrap (i * w)) = f + i * w)
    (nN [(1, .pf (IntKind.i64.wrap (f + IntKind.i64.wrap (i * w)) = IntKind.i64.wrap (f + IntKind.i64.wrap (i * w))) rfl)] V.ok))) := by kernel_rfl

theorem vDr_eq (a n : Int) : vDr a n =
  V.br (decide (n < Int.ofNat 1))
    (V.need (Int.ofNat 0 = dr a n)
    (nN [(1, .eqI 0 0)] V.ok))
    (V.need (n ≠ Int.ofNat 0)
    (V.br (decide (a.tmod n < Int.ofNat 0))
    (V.need (n ≠ Int.ofNat 0)
    (V.need (IntKind.i64.wrap (a.tmod n + n) = dr a n)
    (nN [(1, .pf (IntKind.i64.wrap (a.tmod n + n) = IntKind.i64.wrap (a.tmod n + n)) rfl)] V.ok)))
    (V.need (n ≠ Int.ofNat 0)
    (V.need (a.tmod n = dr a n)
    (nN [(1, .pf (a.tmod n = a.tmod n) rfl)] V.ok))))) := by kernel_rfl

end Go.Proofs.Ytimklokgjmdobaa.Md

/- Places of cells, remainders: the contracts. -/
set_option maxRecDepth 100000
namespace Go.Proofs.Ytimklokgjmdobaa.Md
open Go Go.RowKit Sx Cn Dc Ck Vc
def okAt (i n f w : Int) : Prop := (0 ≤ i ∧ i < n) ∧ (0 ≤ i * w ∧ i * w ≤ 1000000) ∧ 0 ≤ f ∧ f ≤ 1000000
theorem vhIx {i n f w : Int} (h : okAt i n f w) : VHolds (vIx f i n w) := by
  obtain ⟨h1, h2, h3⟩ := h
  constructor
  rw [vIx_eq, w64 (show _ by omega : -9223372036854775808 ≤ i * w ∧ i * w ≤ 9223372036854775807), w64 (by omega)]
  (with_reducible repeat' first | exact V.okI | refine V.brT ?_ | refine V.brF ?_ | refine V.brI ?_ ?_ | refine V.anyI ?_ | refine nN_h rfl ?_ | refine V.needI ?_ ?_ | intro _)
  all_goals (simp only [decide_eq_true_eq, decide_eq_false_iff_not, Int.ofNat_eq_natCast, Bool.not_eq_true', Bool.not_eq_false', ge_iff_le, gt_iff_lt, Bool.and_eq_true, Bool.or_eq_true, Bool.not_eq_true, Bool.and_eq_false_iff] at *)
  all_goals first | omega | rfl | trace_state
theorem vhDr {a n : Int} (h : n ≤ 9223372036854775807) : VHolds (vDr a n) := by
  constructor
  rw [vDr_eq]
  by_cases hn : n < 1
  · have e : dr a n = 0 := by unfold dr; rw [if_pos hn]
    rw [e]
    (with_reducible repeat' first | exact V.okI | refine V.brT ?_ | refine V.brF ?_ | refine V.brI ?_ ?_ | refine V.anyI ?_ | refine nN_h rfl ?_ | refine V.needI ?_ ?_ | intro _)
    all_goals (simp only [decide_eq_true_eq, decide_eq_false_iff_not, Int.ofNat_eq_natCast, Bool.not_eq_true', Bool.not_eq_false', ge_iff_le, gt_iff_lt, Bool.and_eq_true, Bool.or_eq_true, Bool.not_eq_true, Bool.and_eq_false_iff] at *)
    all_goals first | omega | rfl | trace_state
  · have e : dr a n = a % n := by unfold dr; rw [if_neg hn]
    have e2 := Int.emod_def a n
    have e3 := Int.emod_nonneg a (show n ≠ 0 by omega)
    have e4 := Int.emod_lt_of_pos a (show 0 < n by omega)
    have e5 : a.tmod n = a % n ∨ (a.tmod n = a % n - n) := by
      rw [Int.tmod_eq_emod]
      split
      · left; simp
      · right; omega
    have e6 : a.tmod n < 0 → IntKind.i64.wrap (a.tmod n + n) = a % n := fun hlt => by
      rcases e5 with e5 | e5
      · omega
      · rw [w64 (by omega)]; omega
    have e7 : ¬ a.tmod n < 0 → a.tmod n = a % n := fun hlt => by
      rcases e5 with e5 | e5 <;> omega
    rw [e]
    (with_reducible repeat' first | exact V.okI | refine V.brT ?_ | refine V.brF ?_ | refine V.brI ?_ ?_ | refine V.anyI ?_ | refine nN_h rfl ?_ | refine V.needI ?_ ?_ | intro _)
    all_goals (simp only [decide_eq_true_eq, decide_eq_false_iff_not, Int.ofNat_eq_natCast, Bool.not_eq_true', Bool.not_eq_false', ge_iff_le, gt_iff_lt, Bool.and_eq_true, Bool.or_eq_true, Bool.not_eq_true, Bool.and_eq_false_iff] at *)
    all_goals first | omega | (exact e6 (by omega)) | (exact e7 (by omega)) | rfl | trace_state
noncomputable section
def allK : List SV → Bool
  | [] => true
  | .c (.ki _ _) :: l => allK l
  | .a m :: l => m.all kiB && allK l
  | _ :: _ => false
def numsA : List SV → Option (List Int)
  | [] => some []
  | .c c :: l => match numC c, numsA l with
    | some x, some xs => some (x :: xs)
    | _, _ => none
  | .a m :: l => match nums (m.map .c), numsA l with
    | some x, some xs => some (x ++ xs)
    | _, _ => none
  | _ => none
def numF (f : FuncId) (k : List Int → List SV → Hp → Out (SV × Hp)) : List SV → Hp → Out (SV × Hp) := fun args H => match allK args with
  | true => execF P con0 noAnn 3 6 f args H
  | false => match numsA args with
    | some l => k l args H
    | none => .bad 483
theorem numF_ok {f : FuncId} {k : List Int → List SV → Hp → Out (SV × Hp)} (hk : ∀ l args H, (∃ n, k l args H = .bad n) ∨ ∃ σ' n args0 h0 post, k l args H = useP σ' n args0 h0 post args H ∧ LocalOK P f args0 h0 n post) : ContractOK P f (numF f k) := contract_or (u := 3) (m := 6) fun args H => by
  unfold numF
  repeat' split
  all_goals first
    | exact .inr (.inr (.inl rfl))
    | exact .inl ⟨_, rfl⟩
    | (rcases hk _ args H with h | h
       · exact .inl h
       · exact .inr (.inl h))
def outR (k : IntKind) (p : Prop) (x : Int) : Out (SV × Hp) := .need p (.any Int (fun r => r = x) fun r => .leaf (.c (.iv k r), ⟨[], 0, fun _ => True⟩))
def cIx : List SV → Hp → Out (SV × Hp) := numF fIx fun l => match l with
  | [f, i, n, w] => useP [] 0 [iv f, iv i, iv n, iv w] [] (outR .i64 (okAt i n f w) (f + i * w))
  | _ => fun _ _ => .bad 484
def cDr : List SV → Hp → Out (SV × Hp) := numF fDr fun l => match l with
  | [a, n] => useP [] 0 [iv a, iv n] [] (outR .i64 (n ≤ 9223372036854775807) (dr a n))
  | _ => fun _ _ => .bad 484
theorem cIx_ok : ContractOK P fIx cIx := numF_ok fun l args H => by
  repeat' split
  all_goals first | exact .inl ⟨_, rfl⟩ | exact .inr ⟨_, _, _, _, _, rfl, local_of_ver ConOK.nil fun h => vhIx h⟩
theorem cDr_ok : ContractOK P fDr cDr := numF_ok fun l args H => by
  repeat' split
  all_goals first | exact .inl ⟨_, rfl⟩ | exact .inr ⟨_, _, _, _, _, rfl, local_of_ver ConOK.nil fun h => vhDr h⟩
end
end Go.Proofs.Ytimklokgjmdobaa.Md

/- Facts of memories. -/
set_option maxRecDepth 100000
namespace Go.Proofs.Ytimklokgjmdobaa.Md
open Go Go.RowKit Sx Cn Dc Ck Vc
section
variable {m : Mm} {n : Nat} {kd a x : Int}
theorem Mm.acc_ne {e : Nat} (h : (e : Int) ≠ a) : (m.acc n kd a x).g e = m.g e := by
  unfold Mm.acc
  cases hb : inb n a with
  | false => rfl
  | true =>
    simp only [inb, Bool.and_eq_true, decide_eq_true_eq] at hb
    show (if e = a.toNat then x else m.g e) = _
    rw [if_neg (by omega)]
theorem Mm.acc_eq (h0 : 0 ≤ a) (h1 : a < n) {e : Nat} (he : (e : Int) = a) : (m.acc n kd a x).g e = x := by
  unfold Mm.acc
  rw [inb_t h0 h1]
  show (if e = a.toNat then x else m.g e) = _
  rw [if_pos (by omega)]
theorem Mm.val_eq (h0 : 0 ≤ a) (h1 : a < n) : m.val n a = m.g a.toNat := by
  unfold Mm.val
  rw [inb_t h0 h1]
  rfl
theorem Mm.acc_ld (e : Nat) : (m.acc n kd a (m.val n a)).g e = m.g e := by
  unfold Mm.acc Mm.val
  cases hb : inb n a with
  | false => rfl
  | true =>
    show (if e = a.toNat then m.g a.toNat else m.g e) = _
    split
    · rename_i h; rw [h]
    · rfl
def Mm.ok (m : Mm) : Prop := ∀ e, 0 ≤ m.g e ∧ m.g e ≤ 18446744073709551615
theorem Mm.ok_acc (hm : ∀ e, 0 ≤ m.g e ∧ m.g e ≤ 18446744073709551615) (hx : 0 ≤ x ∧ x ≤ 18446744073709551615) : ∀ e, 0 ≤ (m.acc n kd a x).g e ∧ (m.acc n kd a x).g e ≤ 18446744073709551615 := fun e => by
  unfold Mm.acc
  cases hb : inb n a with
  | false => exact hm e
  | true =>
    show 0 ≤ (if e = a.toNat then x else m.g e) ∧ (if e = a.toNat then x else m.g e) ≤ 18446744073709551615
    split
    · exact hx
    · exact hm e
end
theorem l1 : IntKind.i64.wrap (1 + 1) = 2 := w64 (by omega)
theorem l2 : IntKind.i64.wrap (2 + 1) = 3 := w64 (by omega)
theorem k2 : IntKind.i64.wrap 2 = 2 := w64 (by omega)
theorem k3 : IntKind.i64.wrap 3 = 3 := w64 (by omega)
theorem k4 : IntKind.i64.wrap 4 = 4 := w64 (by omega)
theorem k5 : IntKind.i64.wrap 5 = 5 := w64 (by omega)
theorem k6 : IntKind.i64.wrap 6 = 6 := w64 (by omega)
theorem us : IntKind.u64.signed = false := rfl
end Go.Proofs.Ytimklokgjmdobaa.Md
