/- machine.Interleave on counters, lists of numbers compared: what is asked. -/
import Derived.Test.YtjpnpaboahbncaaMVm
set_option linter.unusedVariables false
set_option linter.unusedSimpArgs false
set_option linter.unusedVariables false
set_option linter.unusedSimpArgs false
set_option maxRecDepth 100000
namespace Go.Proofs.Ytjpnpaboahbncaa.Vc
open Go Go.RowKit Sx Cn Dc Ck
/-! ### Numbers compared -/
structure R1 where
  n : Nat
  cap : Nat
  f : Nat → Int
def R1.eq (r s : R1) : Prop := r.n = s.n ∧ ∀ e, e < r.n → r.f e = s.f e
noncomputable section
open Classical in
def R1.eqB (r s : R1) : Bool := decide (r.eq s)
def R1.arg (r : R1) (k : Nat) : SV := .c (slK k 1 r.n r.cap)
def R1.blk (r : R1) : Blk := ints .i64 r.n r.f
def eq1I (r s : R1) (x : Int) : Prop := 0 ≤ x ∧ x ≤ r.n ∧ ∀ e : Nat, (e : Int) < x → r.f e = s.f e
def verEqN (r s : R1) : V := verF P con0 3 3 74 [] (.loop Int [] (fun _ => some (cntL 5 (eq1I r s) r.n)) .nil .nil) [r.arg 0, s.arg 1] ⟨[(0, r.blk), (1, s.blk)], 2, fun _ => True⟩
  (finV (X := Unit) 2 2 (fun _ _ => some ()) (fun _ _ => []) (fun _ => True) (fun _ => .c (.bv (r.eqB s))) (fun _ => []))
def conEqN : List SV → Hp → Out (SV × Hp) := fun args H => match args with
  | [.c (.slc k _ _ _ n cap), .c (.slc k' _ _ _ n' cap')] => fN k fun k => fN k' fun k' => match rowFn H.h k 0, rowFn H.h k' 0 with
    | some f, some f' => useP [k, k'] 2 [R1.arg ⟨n.v, cap.v, f⟩ 0, R1.arg ⟨n'.v, cap'.v, f'⟩ 1] [(0, R1.blk ⟨n.v, cap.v, f⟩), (1, R1.blk ⟨n'.v, cap'.v, f'⟩)] (.need (n.v ≤ 1000000) (.leaf (.c (.bv (R1.eqB ⟨n.v, cap.v, f⟩ ⟨n'.v, cap'.v, f'⟩)), ⟨[], 2, fun _ => True⟩))) args H
    | _, _ => .bad 430
  | _ => .bad 431
/-! ### Steps of several counters -/
/-- How many there are, what is left of each; the picks. -/
structure MI where
  n : Nat
  cx : Nat
  L : Nat → Int
  pn : Nat
  pc : Nat
  p : Nat → Int
def drI (d : Int) (n : Nat) : Int := if d.tmod n < 0 then d.tmod n + n else d.tmod n
/-- The steps that machine m made behind i picks. -/
def MI.W (y : MI) : Nat → Nat → Int
  | 0, _ => 0
  | i + 1, m => if (m : Int) = drI (y.p i) y.n ∧ y.W i m < max 1 (y.L m) then y.W i m + 1 else y.W i m
def MI.live (y : MI) (m : Nat) : Nat := if m < y.n then 1 else 0
def MI.env : Blk := .own 37 26 (List.replicate 22 none ++ [some (.ptr 1 (.k 0) (.k 0) 0 6), none, none, none])
def MI.mem (y : MI) (c : Int) : Blk := .own 110 6 [some (slK 2 1 y.n y.n), none, none, none, none, some (.iv .i64 c)]
def MI.cells (y : MI) (i : Nat) : Blk := .row 44 y.n y.n [.ci .u64 fun _ e => min (y.W i e) (y.L e)]
def MI.xs (y : MI) : Blk := .row 105 y.cx y.n [.cf 39 4 (fun _ e => e) 0 2]
def MI.fam (y : MI) (i : Nat) : Blk := .fam true 41 y.live y.live [.ci .i64 fun m _ => m, .ci .i64 fun m _ => y.L m - min (y.W i m) (y.L m)]
def MI.counts (y : MI) (i : Nat) : Blk := .row 3 y.n y.n [.ci .i64 fun _ e => y.W i e]
def MI.h0 (y : MI) (c : Int) : HL := [(0, MI.env), (1, y.mem c), (2, .row 44 y.n y.n [.ci .u64 fun _ e => 0]), (3, y.xs), (4, .fam true 41 y.live y.live [.ci .i64 fun m _ => m, .ci .i64 fun m _ => y.L m]), (5, ints .i64 y.pn y.p)]
def MI.args (y : MI) : List SV := [.c (.ptr 0 (.k 0) (.k 0) 0 26), .c (slK 3 1 y.n y.cx), .c (slK 5 1 y.pn y.pc)]
def cntM (H : HL) : Option Int := match find 1 H with
  | some (.own _ _ cs) => match (cs[5]? : Option (Option SC)) with
    | some (some x) => (asI (.c x)).map fun x => x.2.2
    | _ => none
  | _ => none
def fInter (y : MI) (s : St) : Option (LA (Int × Int)) := some ⟨[(tkey 7, true), (tkey 8, true), (fun _ => 1, true), (fun _ => 2, true), (fun _ => 4, true)],
  fun x => [y.counts x.1.toNat, .row 4 y.n y.n [.cb fun _ e => decide (max 1 (y.L e) ≤ y.W x.1.toNat e)], y.mem x.2, y.cells x.1.toNat, y.fam x.1.toNat],
  [24], fun x => [iv x.1], fun s => match intT 24 s, cntM s.H.h with | some i, some c => some (i, c) | _, _ => none, fun x => 0 ≤ x.1 ∧ x.1 ≤ y.pn, fun x => y.pn - x.1.toNat⟩
def MI.out (y : MI) (c : Int) : HL := [(0, MI.env), (1, y.mem c), (2, y.cells y.pn), (3, y.xs), (4, y.fam y.pn), (6, y.counts y.pn)]
def verInter (y : MI) (c : Int) : V := verF P con0 3 7 27 [] (.loop _ [] (fInter y) .nil .nil) y.args ⟨y.h0 c, 6, fun _ => True⟩
  (finV (X := Int) 6 7 (fun _ H => cntM H.h) (fun s _ => [keyC s]) (fun _ => True) (fun _ => .c (slK 6 1 y.n y.n)) y.out)
def MI.pre (y : MI) : Prop := y.n ≤ 20 ∧ y.pn ≤ 400 ∧ ∀ e, e < y.n → 0 ≤ y.L e ∧ y.L e ≤ 8
def conInter : List SV → Hp → Out (SV × Hp) := fun args H => match args with
  | [.c (.ptr ke _ _ _ _), .c (.slc kx _ _ _ n cx), .c (.slc kp _ _ _ pn pc)] => fN ke fun ke => fN kx fun kx => fN kp fun kp => match find ke H.h, find kx H.h, rowFn H.h kp 0 with
    | some (.own _ _ ce), some (.row _ _ _ [.cf _ kf _ _ _]), some p => match (ce[22]? : Option (Option SC)) with
      | some (some (.ptr km _ _ _ _)) => match find km H.h, find kf H.h with
        | some (.own _ _ cm), some (.fam _ _ _ _ [_, .ci _ l]) => match (cm[0]? : Option (Option SC)), (cm[5]? : Option (Option SC)) with
          | some (some (.slc kr _ _ _ _ _)), some (some xc) => match asI (.c xc) with
            | some (_, _, c) => fN km fun km => fN kr fun kr => fN kf fun kf => useP [ke, km, kr, kx, kf, kp] 6 (MI.args ⟨n.v, cx.v, fun m => l m 0, pn.v, pc.v, p⟩) (MI.h0 ⟨n.v, cx.v, fun m => l m 0, pn.v, pc.v, p⟩ c)
              (.need (MI.pre ⟨n.v, cx.v, fun m => l m 0, pn.v, pc.v, p⟩) (.any Int (fun _ => True) fun c => .leaf (.c (slK 6 1 n.v n.v), ⟨MI.out ⟨n.v, cx.v, fun m => l m 0, pn.v, pc.v, p⟩ c, 7, fun _ => True⟩))) args H
            | none => .bad 406
          | _, _ => .bad 405
        | _, _ => .bad 404
      | _ => .bad 403
    | _, _, _ => .bad 402
  | _ => .bad 401
end
end Go.Proofs.Ytjpnpaboahbncaa.Vc

/- Numbers compared, counters interleaved: the conditions, printed by program. -/
set_option linter.unusedVariables false
set_option maxRecDepth 100000
namespace Go.Proofs.Ytjpnpaboahbncaa.Vc
open Go Go.RowKit Sx Cn Dc Ck

theorem verEqN_eq (r s : R1) : verEqN r s =
  V.br ((↑r.n : Int) != (↑s.n : Int))
    (V.need True
    (V.need (false = r.eqB s) V.ok))
    (V.need (Int.ofNat 0 ≤ Int.ofNat 0 ∧ Int.ofNat 0 ≤ (↑r.n : Int) ∧ ∀ (e : Nat), (↑e : Int) < Int.ofNat 0 → r.f e = s.f e)
    (V.need (Int.ofNat 0 = Int.ofNat 0)
    (V.any Int (eq1I r s) fun (x : Int) => V.br (decide (x < (↑r.n : Int)))
    (V.need (Int.ofNat 0 ≤ x ∧ x < (↑r.n : Int))
    (V.need (0 < 1 ∧ 0 + x.toNat < r.n)
    (V.need (0 < 1 ∧ 0 + x.toNat < r.n)
    (V.need (Int.ofNat 0 ≤ x ∧ x < (↑s.n : Int))
    (V.need (0 < 1 ∧ 0 + x.toNat < s.n)
    (V.need (0 < 1 ∧ 0 + x.toNat < s.n)
    (V.br (r.f (0 + x.toNat) != s.f (0 + x.toNat))
    (V.need True
    (V.need (false = r.eqB s) V.ok))
    (V.need (Int.ofNat 0 ≤ IntKind.i64.wrap (x + Int.ofNat 1) ∧ IntKind.i64.wrap (x + Int.ofNat 1) ≤ (↑r.n : Int) ∧ ∀ (e : Nat), (↑e : Int) < IntKind.i64.wrap (x + Int.ofNat 1) → r.f e = s.f e)
    (V.need (r.n - (IntKind.i64.wrap (x + Int.ofNat 1)).toNat < r.n - x.toNat)
    (V.need (IntKind.i64.wrap (x + Int.ofNat 1) = IntKind.i64.wrap (x + Int.ofNat 1)) V.ok))))))))))
    (V.need True
    (V.need (true = r.eqB s) V.ok))))) := by kernel_rfl

set_option maxHeartbeats 8000000 in
theorem verInter_eq (y : MI) (c : Int) : verInter y c =
  V.need (Int.ofNat 0 ≤ (↑y.n : Int) ∧ (↑y.n : Int) ≤ (↑y.n : Int) ∧ (↑8 : Int) * (↑y.n : Int) ≤ Int.ofNat 281474976710656 ∧ (↑y.n : Int) ≤ Int.ofNat 9223372036854775807)
    (V.br ((↑y.n : Int) == Int.ofNat 0)
    (V.need True
    (V.need ((↑y.n : Int).toNat = y.n)
    (V.need ((↑y.n : Int).toNat = y.n)
    (V.need (y.n = y.n)
    (V.need (y.n = y.n)
    (V.need (c = c)
    (V.need (y.n = y.n)
    (V.need (y.n ≤ y.n)
    (V.need (∀ (e : Nat), e < y.n → Int.ofNat 0 = min (y.W y.pn e) (y.L e))
    (V.need (y.cx = y.cx)
    (V.need (y.n ≤ y.n)
    (V.need (∀ (e : Nat), e < y.n → e = e)
    (V.need (∀ (i : Nat), y.live i = y.live i ∨ y.live i = 0)
    (V.need (∀ (i : Nat), y.live i ≤ y.live i ∧ y.live i ≤ y.live i)
    (V.need (∀ (i e : Nat), e < y.live i → (↑i : Int) = (↑i : Int))
    (V.need (∀ (i e : Nat), e < y.live i → y.L i = y.L i - min (y.W y.pn i) (y.L i))
    (V.need ((↑y.n : Int).toNat = y.n)
    (V.need (y.n ≤ (↑y.n : Int).toNat)
    (V.need (∀ (e : Nat), e < y.n → Int.ofNat 0 = y.W y.pn e) V.ok)))))))))))))))))))
    (V.need (Int.ofNat 0 ≤ (↑y.n : Int) ∧ (↑y.n : Int) ≤ (↑y.n : Int) ∧ (↑1 : Int) * (↑y.n : Int) ≤ Int.ofNat 281474976710656 ∧ (↑y.n : Int) ≤ Int.ofNat 9223372036854775807)
    (V.need (Int.ofNat 0 ≤ Int.ofNat 0 ∧ Int.ofNat 0 ≤ (↑y.pn : Int))
    (V.need (Int.ofNat 0 = Int.ofNat 0)
    (V.need ((↑y.n : Int).toNat = y.n)
    (V.need (y.n ≤ (↑y.n : Int).toNat)
    (V.need (∀ (e : Nat), e < y.n → Int.ofNat 0 = y.W (Int.ofNat 0).toNat e)
    (V.need ((↑y.n : Int).toNat = y.n)
    (V.need (y.n ≤ (↑y.n : Int).toNat)
    (V.need (∀ (e : Nat), e < y.n → false = decide (max (Int.ofNat 1) (y.L e) ≤ y.W (Int.ofNat 0).toNat e))
    (V.need (y.n = y.n)
    (V.need (y.n = y.n)
    (V.need (c = c)
    (V.need (y.n = y.n)
    (V.need (y.n ≤ y.n)
    (V.need (∀ (e : Nat), e < y.n → Int.ofNat 0 = min (y.W (Int.ofNat 0).toNat e) (y.L e))
    (V.need (∀ (i : Nat), y.live i = y.live i ∨ y.live i = 0)
    (V.need (∀ (i : Nat), y.live i ≤ y.live i ∧ y.live i ≤ y.live i)
    (V.need (∀ (i e : Nat), e < y.live i → (↑i : Int) = (↑i : Int))
    (V.need (∀ (i e : Nat), e < y.live i → y.L i = y.L i - min (y.W (Int.ofNat 0).toNat i) (y.L i))
    (V.any (Int × Int) (fun (x : Int × Int) => Int.ofNat 0 ≤ x.fst ∧ x.fst ≤ (↑y.pn : Int)) fun (x : Int × Int) => V.br (decide (x.fst < (↑y.pn : Int)))
    (V.need (Int.ofNat 0 ≤ x.fst ∧ x.fst < (↑y.pn : Int))
    (V.need (0 < 1 ∧ 0 + x.fst.toNat < y.pn)
    (V.need (0 < 1 ∧ 0 + x.fst.toNat < y.pn)
    (V.need ((↑y.n : Int) ≠ Int.ofNat 0)
    (V.br (decide ((y.p (0 + x.fst.toNat)).tmod (↑y.n : Int) < Int.ofNat 0))
    (V.need (Int.ofNat 0 ≤ IntKind.i64.wrap ((y.p (0 + x.fst.toNat)).tmod (↑y.n : Int) + (↑y.n : Int)) ∧ IntKind.i64.wrap ((y.p (0 + x.fst.toNat)).tmod (↑y.n : Int) + (↑y.n : Int)) < (↑(↑y.n : Int).toNat : Int))
    (V.need (0 + (IntKind.i64.wrap ((y.p (0 + x.fst.toNat)).tmod (↑y.n : Int) + (↑y.n : Int))).toNat < y.n)
    (V.need (0 + (IntKind.i64.wrap ((y.p (0 + x.fst.toNat)).tmod (↑y.n : Int) + (↑y.n : Int))).toNat < y.n)
    (V.br (decide (max (Int.ofNat 1) (y.L (0 + (IntKind.i64.wrap ((y.p (0 + x.fst.toNat)).tmod (↑y.n : Int) + (↑y.n : Int))).toNat)) ≤ y.W x.fst.toNat (0 + (IntKind.i64.wrap ((y.p (0 + x.fst.toNat)).tmod (↑y.n : Int) + (↑y.n : Int))).toNat)))
    (V.need (Int.ofNat 0 ≤ IntKind.i64.wrap (x.fst + Int.ofNat 1) ∧ IntKind.i64.wrap (x.fst + Int.ofNat 1) ≤ (↑y.pn : Int))
    (V.need (y.pn - (IntKind.i64.wrap (x.fst + Int.ofNat 1)).toNat < y.pn - x.fst.toNat)
    (V.need (IntKind.i64.wrap (x.fst + Int.ofNat 1) = IntKind.i64.wrap (x.fst + Int.ofNat 1))
    (V.need (y.n = y.n)
    (V.need (y.n ≤ y.n)
    (V.need (∀ (e : Nat), e < y.n → y.W x.fst.toNat e = y.W (IntKind.i64.wrap (x.fst + Int.ofNat 1)).toNat e)
    (V.need (y.n = y.n)
    (V.need (y.n ≤ y.n)
    (V.need (∀ (e : Nat), e < y.n → decide (max (Int.ofNat 1) (y.L e) ≤ y.W x.fst.toNat e) = decide (max (Int.ofNat 1) (y.L e) ≤ y.W (IntKind.i64.wrap (x.fst + Int.ofNat 1)).toNat e))
    (V.need (y.n = y.n)
    (V.need (y.n = y.n)
    (V.need (x.snd = x.snd)
    (V.need (y.n = y.n)
    (V.need (y.n ≤ y.n)
    (V.need (∀ (e : Nat), e < y.n → min (y.W x.fst.toNat e) (y.L e) = min (y.W (IntKind.i64.wrap (x.fst + Int.ofNat 1)).toNat e) (y.L e))
    (V.need (∀ (i : Nat), y.live i = y.live i ∨ y.live i = 0)
    (V.need (∀ (i : Nat), y.live i ≤ y.live i ∧ y.live i ≤ y.live i)
    (V.need (∀ (i e : Nat), e < y.live i → (↑i : Int) = (↑i : Int))
    (V.need (∀ (i e : Nat), e < y.live i → y.L i - min (y.W x.fst.toNat i) (y.L i) = y.L i - min (y.W (IntKind.i64.wrap (x.fst + Int.ofNat 1)).toNat i) (y.L i)) V.ok)))))))))))))))))))
    (V.need (Int.ofNat 0 ≤ IntKind.i64.wrap ((y.p (0 + x.fst.toNat)).tmod (↑y.n : Int) + (↑y.n : Int)) ∧ IntKind.i64.wrap ((y.p (0 + x.fst.toNat)).tmod (↑y.n : Int) + (↑y.n : Int)) < (↑(↑y.n : Int).toNat : Int))
    (V.need (0 + (IntKind.i64.wrap ((y.p (0 + x.fst.toNat)).tmod (↑y.n : Int) + (↑y.n : Int))).toNat < y.n)
    (V.need (0 + (IntKind.i64.wrap ((y.p (0 + x.fst.toNat)).tmod (↑y.n : Int) + (↑y.n : Int))).toNat < y.n)
    (V.need (Int.ofNat 0 ≤ IntKind.i64.wrap ((y.p (0 + x.fst.toNat)).tmod (↑y.n : Int) + (↑y.n : Int)) ∧ IntKind.i64.wrap ((y.p (0 + x.fst.toNat)).tmod (↑y.n : Int) + (↑y.n : Int)) < (↑(↑y.n : Int).toNat : Int))
    (V.need (0 + (IntKind.i64.wrap ((y.p (0 + x.fst.toNat)).tmod (↑y.n : Int) + (↑y.n : Int))).toNat < y.n)
    (V.need (0 + (IntKind.i64.wrap ((y.p (0 + x.fst.toNat)).tmod (↑y.n : Int) + (↑y.n : Int))).toNat < y.n)
    (V.need (Int.ofNat 0 ≤ IntKind.i64.wrap ((y.p (0 + x.fst.toNat)).tmod (↑y.n : Int) + (↑y.n : Int)) ∧ IntKind.i64.wrap ((y.p (0 + x.fst.toNat)).tmod (↑y.n : Int) + (↑y.n : Int)) < (↑y.n : Int))
    (V.need (0 < 1 ∧ 0 + (IntKind.i64.wrap ((y.p (0 + x.fst.toNat)).tmod (↑y.n : Int) + (↑y.n : Int))).toNat < y.n)
    (V.need (0 < 1 ∧ 0 + (IntKind.i64.wrap ((y.p (0 + x.fst.toNat)).tmod (↑y.n : Int) + (↑y.n : Int))).toNat < y.n)
    (V.need (0 < y.live (0 + (IntKind.i64.wrap ((y.p (0 + x.fst.toNat)).tmod (↑y.n : Int) + (↑y.n : Int))).toNat))
    (V.need (0 < y.live (0 + (IntKind.i64.wrap ((y.p (0 + x.fst.toNat)).tmod (↑y.n : Int) + (↑y.n : Int))).toNat))
    (V.need (0 < y.live (0 + (IntKind.i64.wrap ((y.p (0 + x.fst.toNat)).tmod (↑y.n : Int) + (↑y.n : Int))).toNat))
    (V.br (decide (y.L (0 + (IntKind.i64.wrap ((y.p (0 + x.fst.toNat)).tmod (↑y.n : Int) + (↑y.n : Int))).toNat) - min (y.W x.fst.toNat (0 + (IntKind.i64.wrap ((y.p (0 + x.fst.toNat)).tmod (↑y.n : Int) + (↑y.n : Int))).toNat)) (y.L (0 + (IntKind.i64.wrap ((y.p (0 + x.fst.toNat)).tmod (↑y.n : Int) + (↑y.n : Int))).toNat)) > Int.ofNat 0))
    (V.need (0 < 1 ∧ 0 < 1)
    (V.need (0 < 1 ∧ 0 < 1)
    (V.need (0 < 1 ∧ 0 < 1)
    (V.need (0 < y.live (0 + (IntKind.i64.wrap ((y.p (0 + x.fst.toNat)).tmod (↑y.n : Int) + (↑y.n : Int))).toNat))
    (V.need (0 < y.live (0 + (IntKind.i64.wrap ((y.p (0 + x.fst.toNat)).tmod (↑y.n : Int) + (↑y.n : Int))).toNat))
    (V.need (0 < y.live (0 + (IntKind.i64.wrap ((y.p (0 + x.fst.toNat)).tmod (↑y.n : Int) + (↑y.n : Int))).toNat))
    (V.br false
    (V.need (0 < y.live (0 + (IntKind.i64.wrap ((y.p (0 + x.fst.toNat)).tmod (↑y.n : Int) + (↑y.n : Int))).toNat))
    (V.need (0 < y.live (0 + (IntKind.i64.wrap ((y.p (0 + x.fst.toNat)).tmod (↑y.n : Int) + (↑y.n : Int))).toNat))
    (V.need (0 < y.live (0 + (IntKind.i64.wrap ((y.p (0 + x.fst.toNat)).tmod (↑y.n : Int) + (↑y.n : Int))).toNat))
    (V.need (0 < y.live (0 + (IntKind.i64.wrap ((y.p (0 + x.fst.toNat)).tmod (↑y.n : Int) + (↑y.n : Int))).toNat))
    (V.need (0 < y.live (0 + (IntKind.i64.wrap ((y.p (0 + x.fst.toNat)).tmod (↑y.n : Int) + (↑y.n : Int))).toNat))
    (V.need (0 < y.live (0 + (IntKind.i64.wrap ((y.p (0 + x.fst.toNat)).tmod (↑y.n : Int) + (↑y.n : Int))).toNat))
    (V.need (0 < y.live (0 + (IntKind.i64.wrap ((y.p (0 + x.fst.toNat)).tmod (↑y.n : Int) + (↑y.n : Int))).toNat))
    (V.need (0 < y.live (0 + (IntKind.i64.wrap ((y.p (0 + x.fst.toNat)).tmod (↑y.n : Int) + (↑y.n : Int))).toNat))
    (V.need (0 < y.live (0 + (IntKind.i64.wrap ((y.p (0 + x.fst.toNat)).tmod (↑y.n : Int) + (↑y.n : Int))).toNat))
    (V.need (Int.ofNat 0 ≤ IntKind.i64.wrap ((y.p (0 + x.fst.toNat)).tmod (↑y.n : Int) + (↑y.n : Int)) ∧ IntKind.i64.wrap ((y.p (0 + x.fst.toNat)).tmod (↑y.n : Int) + (↑y.n : Int)) < (↑(↑y.n : Int).toNat : Int))
    (V.need (0 + (IntKind.i64.wrap ((y.p (0 + x.fst.toNat)).tmod (↑y.n : Int) + (↑y.n : Int))).toNat < y.n)
    (V.need (0 + (IntKind.i64.wrap ((y.p (0 + x.fst.toNat)).tmod (↑y.n : Int) + (↑y.n : Int))).toNat < y.n)
    (V.need (Int.ofNat 0 ≤ IntKind.i64.wrap (x.fst + Int.ofNat 1) ∧ IntKind.i64.wrap (x.fst + Int.ofNat 1) ≤ (↑y.pn : Int))
    (V.need (y.pn - (IntKind.i64.wrap (x.fst + Int.ofNat 1)).toNat < y.pn - x.fst.toNat)
    (V.need (IntKind.i64.wrap (x.fst + Int.ofNat 1) = IntKind.i64.wrap (x.fst + Int.ofNat 1))
    (V.need (y.n = y.n)
    (V.need (y.n ≤ y.n)
    (V.need (∀ (e : Nat), e < y.n → (if 0 = 0 ∧ e = 0 + (IntKind.i64.wrap ((y.p (0 + x.fst.toNat)).tmod (↑y.n : Int) + (↑y.n : Int))).toNat then IntKind.i64.wrap (y.W x.fst.toNat (0 + (IntKind.i64.wrap ((y.p (0 + x.fst.toNat)).tmod (↑y.n : Int) + (↑y.n : Int))).toNat) + Int.ofNat 1) else y.W x.fst.toNat e) = y.W (IntKind.i64.wrap (x.fst + Int.ofNat 1)).toNat e)
    (V.need (y.n = y.n)
    (V.need (y.n ≤ y.n)
    (V.need (∀ (e : Nat), e < y.n → (if 0 = 0 ∧ e = 0 + (IntKind.i64.wrap ((y.p (0 + x.fst.toNat)).tmod (↑y.n : Int) + (↑y.n : Int))).toNat then (if 0 + (IntKind.i64.wrap ((y.p (0 + x.fst.toNat)).tmod (↑y.n : Int) + (↑y.n : Int))).toNat = 0 + (IntKind.i64.wrap ((y.p (0 + x.fst.toNat)).tmod (↑y.n : Int) + (↑y.n : Int))).toNat ∧ 0 = 0 then IntKind.i64.wrap (y.L (0 + (IntKind.i64.wrap ((y.p (0 + x.fst.toNat)).tmod (↑y.n : Int) + (↑y.n : Int))).toNat) - min (y.W x.fst.toNat (0 + (IntKind.i64.wrap ((y.p (0 + x.fst.toNat)).tmod (↑y.n : Int) + (↑y.n : Int))).toNat)) (y.L (0 + (IntKind.i64.wrap ((y.p (0 + x.fst.toNat)).tmod (↑y.n : Int) + (↑y.n : Int))).toNat)) - Int.ofNat 1) else y.L (0 + (IntKind.i64.wrap ((y.p (0 + x.fst.toNat)).tmod (↑y.n : Int) + (↑y.n : Int))).toNat) - min (y.W x.fst.toNat (0 + (IntKind.i64.wrap ((y.p (0 + x.fst.toNat)).tmod (↑y.n : Int) + (↑y.n : Int))).toNat)) (y.L (0 + (IntKind.i64.wrap ((y.p (0 + x.fst.toNat)).tmod (↑y.n : Int) + (↑y.n : Int))).toNat))) == Int.ofNat 0 else decide (max (Int.ofNat 1) (y.L e) ≤ y.W x.fst.toNat e)) = decide (max (Int.ofNat 1) (y.L e) ≤ y.W (IntKind.i64.wrap (x.fst + Int.ofNat 1)).toNat e))
    (V.need (y.n = y.n)
    (V.need (y.n = y.n)
    (V.need (x.snd = x.snd)
    (V.need (y.n = y.n)
    (V.need (y.n ≤ y.n)
    (V.need (∀ (e : Nat), e < y.n → min (y.W x.fst.toNat e) (y.L e) = min (y.W (IntKind.i64.wrap (x.fst + Int.ofNat 1)).toNat e) (y.L e))
    (V.need (∀ (i : Nat), y.live i = y.live i ∨ y.live i = 0)
    (V.need (∀ (i : Nat), y.live i ≤ y.live i ∧ y.live i ≤ y.live i)
    (V.need (∀ (i e : Nat), e < y.live i → (↑i : Int) = (↑i : Int))
    (V.need (∀ (i e : Nat), e < y.live i → (if i = 0 + (IntKind.i64.wrap ((y.p (0 + x.fst.toNat)).tmod (↑y.n : Int) + (↑y.n : Int))).toNat ∧ e = 0 then IntKind.i64.wrap (y.L (0 + (IntKind.i64.wrap ((y.p (0 + x.fst.toNat)).tmod (↑y.n : Int) + (↑y.n : Int))).toNat) - min (y.W x.fst.toNat (0 + (IntKind.i64.wrap ((y.p (0 + x.fst.toNat)).tmod (↑y.n : Int) + (↑y.n : Int))).toNat)) (y.L (0 + (IntKind.i64.wrap ((y.p (0 + x.fst.toNat)).tmod (↑y.n : Int) + (↑y.n : Int))).toNat)) - Int.ofNat 1) else y.L i - min (y.W x.fst.toNat i) (y.L i)) = y.L i - min (y.W (IntKind.i64.wrap (x.fst + Int.ofNat 1)).toNat i) (y.L i)) V.ok)))))))))))))))))))))))))))))))
    (V.br (decide ((↑(0 + (IntKind.i64.wrap ((y.p (0 + x.fst.toNat)).tmod (↑y.n : Int) + (↑y.n : Int))).toNat) : Int) ≥ (↑y.n : Int)))
    (V.need (0 < y.live (0 + (IntKind.i64.wrap ((y.p (0 + x.fst.toNat)).tmod (↑y.n : Int) + (↑y.n : Int))).toNat))
    (V.need (0 < y.live (0 + (IntKind.i64.wrap ((y.p (0 + x.fst.toNat)).tmod (↑y.n : Int) + (↑y.n : Int))).toNat))
    (V.need (0 < y.live (0 + (IntKind.i64.wrap ((y.p (0 + x.fst.toNat)).tmod (↑y.n : Int) + (↑y.n : Int))).toNat))
    (V.need (0 < y.live (0 + (IntKind.i64.wrap ((y.p (0 + x.fst.toNat)).tmod (↑y.n : Int) + (↑y.n : Int))).toNat))
    (V.need (0 < y.live (0 + (IntKind.i64.wrap ((y.p (0 + x.fst.toNat)).tmod (↑y.n : Int) + (↑y.n : Int))).toNat))
    (V.need (0 < y.live (0 + (IntKind.i64.wrap ((y.p (0 + x.fst.toNat)).tmod (↑y.n : Int) + (↑y.n : Int))).toNat))
    (V.need (0 < y.live (0 + (IntKind.i64.wrap ((y.p (0 + x.fst.toNat)).tmod (↑y.n : Int) + (↑y.n : Int))).toNat))
    (V.need (0 < y.live (0 + (IntKind.i64.wrap ((y.p (0 + x.fst.toNat)).tmod (↑y.n : Int) + (↑y.n : Int))).toNat))
    (V.need (0 < y.live (0 + (IntKind.i64.wrap ((y.p (0 + x.fst.toNat)).tmod (↑y.n : Int) + (↑y.n : Int))).toNat))
    (V.need (Int.ofNat 0 ≤ IntKind.i64.wrap ((y.p (0 + x.fst.toNat)).tmod (↑y.n : Int) + (↑y.n : Int)) ∧ IntKind.i64.wrap ((y.p (0 + x.fst.toNat)).tmod (↑y.n : Int) + (↑y.n : Int)) < (↑(↑y.n : Int).toNat : Int))
    (V.need (0 + (IntKind.i64.wrap ((y.p (0 + x.fst.toNat)).tmod (↑y.n : Int) + (↑y.n : Int))).toNat < y.n)
    (V.need (0 + (IntKind.i64.wrap ((y.p (0 + x.fst.toNat)).tmod (↑y.n : Int) + (↑y.n : Int))).toNat < y.n)
    (V.need (Int.ofNat 0 ≤ IntKind.i64.wrap (x.fst + Int.ofNat 1) ∧ IntKind.i64.wrap (x.fst + Int.ofNat 1) ≤ (↑y.pn : Int))
    (V.need (y.pn - (IntKind.i64.wrap (x.fst + Int.ofNat 1)).toNat < y.pn - x.fst.toNat)
    (V.need (IntKind.i64.wrap (x.fst + Int.ofNat 1) = IntKind.i64.wrap (x.fst + Int.ofNat 1))
    (V.need (y.n = y.n)
    (V.need (y.n ≤ y.n)
    (V.need (∀ (e : Nat), e < y.n → (if 0 = 0 ∧ e = 0 + (IntKind.i64.wrap ((y.p (0 + x.fst.toNat)).tmod (↑y.n : Int) + (↑y.n : Int))).toNat then IntKind.i64.wrap (y.W x.fst.toNat (0 + (IntKind.i64.wrap ((y.p (0 + x.fst.toNat)).tmod (↑y.n : Int) + (↑y.n : Int))).toNat) + Int.ofNat 1) else y.W x.fst.toNat e) = y.W (IntKind.i64.wrap (x.fst + Int.ofNat 1)).toNat e)
    (V.need (y.n = y.n)
    (V.need (y.n ≤ y.n)
    (V.need (∀ (e : Nat), e < y.n → (if 0 = 0 ∧ e = 0 + (IntKind.i64.wrap ((y.p (0 + x.fst.toNat)).tmod (↑y.n : Int) + (↑y.n : Int))).toNat then (if 0 + (IntKind.i64.wrap ((y.p (0 + x.fst.toNat)).tmod (↑y.n : Int) + (↑y.n : Int))).toNat = 0 + (IntKind.i64.wrap ((y.p (0 + x.fst.toNat)).tmod (↑y.n : Int) + (↑y.n : Int))).toNat ∧ 0 = 0 then IntKind.i64.wrap (y.L (0 + (IntKind.i64.wrap ((y.p (0 + x.fst.toNat)).tmod (↑y.n : Int) + (↑y.n : Int))).toNat) - min (y.W x.fst.toNat (0 + (IntKind.i64.wrap ((y.p (0 + x.fst.toNat)).tmod (↑y.n : Int) + (↑y.n : Int))).toNat)) (y.L (0 + (IntKind.i64.wrap ((y.p (0 + x.fst.toNat)).tmod (↑y.n : Int) + (↑y.n : Int))).toNat)) - Int.ofNat 1) else y.L (0 + (IntKind.i64.wrap ((y.p (0 + x.fst.toNat)).tmod (↑y.n : Int) + (↑y.n : Int))).toNat) - min (y.W x.fst.toNat (0 + (IntKind.i64.wrap ((y.p (0 + x.fst.toNat)).tmod (↑y.n : Int) + (↑y.n : Int))).toNat)) (y.L (0 + (IntKind.i64.wrap ((y.p (0 + x.fst.toNat)).tmod (↑y.n : Int) + (↑y.n : Int))).toNat))) == Int.ofNat 0 else decide (max (Int.ofNat 1) (y.L e) ≤ y.W x.fst.toNat e)) = decide (max (Int.ofNat 1) (y.L e) ≤ y.W (IntKind.i64.wrap (x.fst + Int.ofNat 1)).toNat e))
    (V.need (y.n = y.n)
    (V.need (y.n = y.n)
    (V.need (x.snd = x.snd)
    (V.need (y.n = y.n)
    (V.need (y.n ≤ y.n)
    (V.need (∀ (e : Nat), e < y.n → min (y.W x.fst.toNat e) (y.L e) = min (y.W (IntKind.i64.wrap (x.fst + Int.ofNat 1)).toNat e) (y.L e))
    (V.need (∀ (i : Nat), y.live i = y.live i ∨ y.live i = 0)
    (V.need (∀ (i : Nat), y.live i ≤ y.live i ∧ y.live i ≤ y.live i)
    (V.need (∀ (i e : Nat), e < y.live i → (↑i : Int) = (↑i : Int))
    (V.need (∀ (i e : Nat), e < y.live i → (if i = 0 + (IntKind.i64.wrap ((y.p (0 + x.fst.toNat)).tmod (↑y.n : Int) + (↑y.n : Int))).toNat ∧ e = 0 then IntKind.i64.wrap (y.L (0 + (IntKind.i64.wrap ((y.p (0 + x.fst.toNat)).tmod (↑y.n : Int) + (↑y.n : Int))).toNat) - min (y.W x.fst.toNat (0 + (IntKind.i64.wrap ((y.p (0 + x.fst.toNat)).tmod (↑y.n : Int) + (↑y.n : Int))).toNat)) (y.L (0 + (IntKind.i64.wrap ((y.p (0 + x.fst.toNat)).tmod (↑y.n : Int) + (↑y.n : Int))).toNat)) - Int.ofNat 1) else y.L i - min (y.W x.fst.toNat i) (y.L i)) = y.L i - min (y.W (IntKind.i64.wrap (x.fst + Int.ofNat 1)).toNat i) (y.L i)) V.ok)))))))))))))))))))))))))))))))
    (V.need (Int.ofNat 0 ≤ (↑(0 + (IntKind.i64.wrap ((y.p (0 + x.fst.toNat)).tmod (↑y.n : Int) + (↑y.n : Int))).toNat) : Int) ∧ (↑(0 + (IntKind.i64.wrap ((y.p (0 + x.fst.toNat)).tmod (↑y.n : Int) + (↑y.n : Int))).toNat) : Int) < (↑y.n : Int))
    (V.need (0 + (↑(0 + (IntKind.i64.wrap ((y.p (0 + x.fst.toNat)).tmod (↑y.n : Int) + (↑y.n : Int))).toNat) : Int).toNat < y.n)
    (V.need (0 + (↑(0 + (IntKind.i64.wrap ((y.p (0 + x.fst.toNat)).tmod (↑y.n : Int) + (↑y.n : Int))).toNat) : Int).toNat < y.n)
    (V.need (0 < 1 ∧ 0 < 1)
    (V.need (0 < 1 ∧ 0 < 1)
    (V.need (0 < 1 ∧ 0 < 1)
    (V.need (0 < 1 ∧ 0 < 1)
    (V.need (Int.ofNat 0 ≤ (↑(0 + (IntKind.i64.wrap ((y.p (0 + x.fst.toNat)).tmod (↑y.n : Int) + (↑y.n : Int))).toNat) : Int) ∧ (↑(0 + (IntKind.i64.wrap ((y.p (0 + x.fst.toNat)).tmod (↑y.n : Int) + (↑y.n : Int))).toNat) : Int) < (↑y.n : Int))
    (V.need (0 < 1 ∧ 0 + (↑(0 + (IntKind.i64.wrap ((y.p (0 + x.fst.toNat)).tmod (↑y.n : Int) + (↑y.n : Int))).toNat) : Int).toNat < y.n)
    (V.need (0 + (↑(0 + (IntKind.i64.wrap ((y.p (0 + x.fst.toNat)).tmod (↑y.n : Int) + (↑y.n : Int))).toNat) : Int).toNat < y.n)
    (V.need (Int.ofNat 0 ≤ (↑(0 + (IntKind.i64.wrap ((y.p (0 + x.fst.toNat)).tmod (↑y.n : Int) + (↑y.n : Int))).toNat) : Int) ∧ (↑(0 + (IntKind.i64.wrap ((y.p (0 + x.fst.toNat)).tmod (↑y.n : Int) + (↑y.n : Int))).toNat) : Int) < (↑y.n : Int))
    (V.need (0 + (↑(0 + (IntKind.i64.wrap ((y.p (0 + x.fst.toNat)).tmod (↑y.n : Int) + (↑y.n : Int))).toNat) : Int).toNat < y.n)
    (V.need (0 + (↑(0 + (IntKind.i64.wrap ((y.p (0 + x.fst.toNat)).tmod (↑y.n : Int) + (↑y.n : Int))).toNat) : Int).toNat < y.n)
    (V.need (0 < y.live (0 + (IntKind.i64.wrap ((y.p (0 + x.fst.toNat)).tmod (↑y.n : Int) + (↑y.n : Int))).toNat))
    (V.need (0 < y.live (0 + (IntKind.i64.wrap ((y.p (0 + x.fst.toNat)).tmod (↑y.n : Int) + (↑y.n : Int))).toNat))
    (V.need (0 < y.live (0 + (IntKind.i64.wrap ((y.p (0 + x.fst.toNat)).tmod (↑y.n : Int) + (↑y.n : Int))).toNat))
    (V.need (0 < y.live (0 + (IntKind.i64.wrap ((y.p (0 + x.fst.toNat)).tmod (↑y.n : Int) + (↑y.n : Int))).toNat))
    (V.need (0 < y.live (0 + (IntKind.i64.wrap ((y.p (0 + x.fst.toNat)).tmod (↑y.n : Int) + (↑y.n : Int))).toNat))
    (V.need (0 < y.live (0 + (IntKind.i64.wrap ((y.p (0 + x.fst.toNat)).tmod (↑y.n : Int) + (↑y.n : Int))).toNat))
    (V.need (0 < y.live (0 + (IntKind.i64.wrap ((y.p (0 + x.fst.toNat)).tmod (↑y.n : Int) + (↑y.n : Int))).toNat))
    (V.need (0 < y.live (0 + (IntKind.i64.wrap ((y.p (0 + x.fst.toNat)).tmod (↑y.n : Int) + (↑y.n : Int))).toNat))
    (V.need (0 < y.live (0 + (IntKind.i64.wrap ((y.p (0 + x.fst.toNat)).tmod (↑y.n : Int) + (↑y.n : Int))).toNat))
    (V.need (Int.ofNat 0 ≤ IntKind.i64.wrap ((y.p (0 + x.fst.toNat)).tmod (↑y.n : Int) + (↑y.n : Int)) ∧ IntKind.i64.wrap ((y.p (0 + x.fst.toNat)).tmod (↑y.n : Int) + (↑y.n : Int)) < (↑(↑y.n : Int).toNat : Int))
    (V.need (0 + (IntKind.i64.wrap ((y.p (0 + x.fst.toNat)).tmod (↑y.n : Int) + (↑y.n : Int))).toNat < y.n)
    (V.need (0 + (IntKind.i64.wrap ((y.p (0 + x.fst.toNat)).tmod (↑y.n : Int) + (↑y.n : Int))).toNat < y.n)
    (V.need (Int.ofNat 0 ≤ IntKind.i64.wrap (x.fst + Int.ofNat 1) ∧ IntKind.i64.wrap (x.fst + Int.ofNat 1) ≤ (↑y.pn : Int))
    (V.need (y.pn - (IntKind.i64.wrap (x.fst + Int.ofNat 1)).toNat < y.pn - x.fst.toNat)
    (V.need (IntKind.i64.wrap (x.fst + Int.ofNat 1) = IntKind.i64.wrap (x.fst + Int.ofNat 1))
    (V.need (y.n = y.n)
    (V.need (y.n ≤ y.n)
    (V.need (∀ (e : Nat), e < y.n → (if 0 = 0 ∧ e = 0 + (IntKind.i64.wrap ((y.p (0 + x.fst.toNat)).tmod (↑y.n : Int) + (↑y.n : Int))).toNat then IntKind.i64.wrap (y.W x.fst.toNat (0 + (IntKind.i64.wrap ((y.p (0 + x.fst.toNat)).tmod (↑y.n : Int) + (↑y.n : Int))).toNat) + Int.ofNat 1) else y.W x.fst.toNat e) = y.W (IntKind.i64.wrap (x.fst + Int.ofNat 1)).toNat e)
    (V.need (y.n = y.n)
    (V.need (y.n ≤ y.n)
    (V.need (∀ (e : Nat), e < y.n → (if 0 = 0 ∧ e = 0 + (IntKind.i64.wrap ((y.p (0 + x.fst.toNat)).tmod (↑y.n : Int) + (↑y.n : Int))).toNat then (if 0 + (IntKind.i64.wrap ((y.p (0 + x.fst.toNat)).tmod (↑y.n : Int) + (↑y.n : Int))).toNat = 0 + (IntKind.i64.wrap ((y.p (0 + x.fst.toNat)).tmod (↑y.n : Int) + (↑y.n : Int))).toNat ∧ 0 = 0 then IntKind.i64.wrap (y.L (0 + (IntKind.i64.wrap ((y.p (0 + x.fst.toNat)).tmod (↑y.n : Int) + (↑y.n : Int))).toNat) - min (y.W x.fst.toNat (0 + (IntKind.i64.wrap ((y.p (0 + x.fst.toNat)).tmod (↑y.n : Int) + (↑y.n : Int))).toNat)) (y.L (0 + (IntKind.i64.wrap ((y.p (0 + x.fst.toNat)).tmod (↑y.n : Int) + (↑y.n : Int))).toNat)) - Int.ofNat 1) else y.L (0 + (IntKind.i64.wrap ((y.p (0 + x.fst.toNat)).tmod (↑y.n : Int) + (↑y.n : Int))).toNat) - min (y.W x.fst.toNat (0 + (IntKind.i64.wrap ((y.p (0 + x.fst.toNat)).tmod (↑y.n : Int) + (↑y.n : Int))).toNat)) (y.L (0 + (IntKind.i64.wrap ((y.p (0 + x.fst.toNat)).tmod (↑y.n : Int) + (↑y.n : Int))).toNat))) == Int.ofNat 0 else decide (max (Int.ofNat 1) (y.L e) ≤ y.W x.fst.toNat e)) = decide (max (Int.ofNat 1) (y.L e) ≤ y.W (IntKind.i64.wrap (x.fst + Int.ofNat 1)).toNat e))
    (V.need (y.n = y.n)
    (V.need (y.n = y.n)
    (V.need (IntKind.i64.wrap (x.snd + Int.ofNat 1) = IntKind.i64.wrap (x.snd + Int.ofNat 1))
    (V.need (y.n = y.n)
    (V.need (y.n ≤ y.n)
    (V.need (∀ (e : Nat), e < y.n → (if 0 = 0 ∧ e = 0 + (↑(0 + (IntKind.i64.wrap ((y.p (0 + x.fst.toNat)).tmod (↑y.n : Int) + (↑y.n : Int))).toNat) : Int).toNat then IntKind.u64.wrap (min (y.W x.fst.toNat (0 + (↑(0 + (IntKind.i64.wrap ((y.p (0 + x.fst.toNat)).tmod (↑y.n : Int) + (↑y.n : Int))).toNat) : Int).toNat)) (y.L (0 + (↑(0 + (IntKind.i64.wrap ((y.p (0 + x.fst.toNat)).tmod (↑y.n : Int) + (↑y.n : Int))).toNat) : Int).toNat)) + Int.ofNat 1) else min (y.W x.fst.toNat e) (y.L e)) = min (y.W (IntKind.i64.wrap (x.fst + Int.ofNat 1)).toNat e) (y.L e))
    (V.need (∀ (i : Nat), y.live i = y.live i ∨ y.live i = 0)
    (V.need (∀ (i : Nat), y.live i ≤ y.live i ∧ y.live i ≤ y.live i)
    (V.need (∀ (i e : Nat), e < y.live i → (↑i : Int) = (↑i : Int))
    (V.need (∀ (i e : Nat), e < y.live i → (if i = 0 + (IntKind.i64.wrap ((y.p (0 + x.fst.toNat)).tmod (↑y.n : Int) + (↑y.n : Int))).toNat ∧ e = 0 then IntKind.i64.wrap (y.L (0 + (IntKind.i64.wrap ((y.p (0 + x.fst.toNat)).tmod (↑y.n : Int) + (↑y.n : Int))).toNat) - min (y.W x.fst.toNat (0 + (IntKind.i64.wrap ((y.p (0 + x.fst.toNat)).tmod (↑y.n : Int) + (↑y.n : Int))).toNat)) (y.L (0 + (IntKind.i64.wrap ((y.p (0 + x.fst.toNat)).tmod (↑y.n : Int) + (↑y.n : Int))).toNat)) - Int.ofNat 1) else y.L i - min (y.W x.fst.toNat i) (y.L i)) = y.L i - min (y.W (IntKind.i64.wrap (x.fst + Int.ofNat 1)).toNat i) (y.L i)) V.ok))))))))))))))))))))))))))))))))))))))))))))))))))))
    (V.need (0 < y.live (0 + (IntKind.i64.wrap ((y.p (0 + x.fst.toNat)).tmod (↑y.n : Int) + (↑y.n : Int))).toNat))
    (V.need (0 < y.live (0 + (IntKind.i64.wrap ((y.p (0 + x.fst.toNat)).tmod (↑y.n : Int) + (↑y.n : Int))).toNat))
    (V.need (0 < y.live (0 + (IntKind.i64.wrap ((y.p (0 + x.fst.toNat)).tmod (↑y.n : Int) + (↑y.n : Int))).toNat))
    (V.need (Int.ofNat 0 ≤ IntKind.i64.wrap ((y.p (0 + x.fst.toNat)).tmod (↑y.n : Int) + (↑y.n : Int)) ∧ IntKind.i64.wrap ((y.p (0 + x.fst.toNat)).tmod (↑y.n : Int) + (↑y.n : Int)) < (↑(↑y.n : Int).toNat : Int))
    (V.need (0 + (IntKind.i64.wrap ((y.p (0 + x.fst.toNat)).tmod (↑y.n : Int) + (↑y.n : Int))).toNat < y.n)
    (V.need (0 + (IntKind.i64.wrap ((y.p (0 + x.fst.toNat)).tmod (↑y.n : Int) + (↑y.n : Int))).toNat < y.n)
    (V.need (Int.ofNat 0 ≤ IntKind.i64.wrap (x.fst + Int.ofNat 1) ∧ IntKind.i64.wrap (x.fst + Int.ofNat 1) ≤ (↑y.pn : Int))
    (V.need (y.pn - (IntKind.i64.wrap (x.fst + Int.ofNat 1)).toNat < y.pn - x.fst.toNat)
    (V.need (IntKind.i64.wrap (x.fst + Int.ofNat 1) = IntKind.i64.wrap (x.fst + Int.ofNat 1))
    (V.need (y.n = y.n)
    (V.need (y.n ≤ y.n)
    (V.need (∀ (e : Nat), e < y.n → (if 0 = 0 ∧ e = 0 + (IntKind.i64.wrap ((y.p (0 + x.fst.toNat)).tmod (↑y.n : Int) + (↑y.n : Int))).toNat then IntKind.i64.wrap (y.W x.fst.toNat (0 + (IntKind.i64.wrap ((y.p (0 + x.fst.toNat)).tmod (↑y.n : Int) + (↑y.n : Int))).toNat) + Int.ofNat 1) else y.W x.fst.toNat e) = y.W (IntKind.i64.wrap (x.fst + Int.ofNat 1)).toNat e)
    (V.need (y.n = y.n)
    (V.need (y.n ≤ y.n)
    (V.need (∀ (e : Nat), e < y.n → (if 0 = 0 ∧ e = 0 + (IntKind.i64.wrap ((y.p (0 + x.fst.toNat)).tmod (↑y.n : Int) + (↑y.n : Int))).toNat then y.L (0 + (IntKind.i64.wrap ((y.p (0 + x.fst.toNat)).tmod (↑y.n : Int) + (↑y.n : Int))).toNat) - min (y.W x.fst.toNat (0 + (IntKind.i64.wrap ((y.p (0 + x.fst.toNat)).tmod (↑y.n : Int) + (↑y.n : Int))).toNat)) (y.L (0 + (IntKind.i64.wrap ((y.p (0 + x.fst.toNat)).tmod (↑y.n : Int) + (↑y.n : Int))).toNat)) == Int.ofNat 0 else decide (max (Int.ofNat 1) (y.L e) ≤ y.W x.fst.toNat e)) = decide (max (Int.ofNat 1) (y.L e) ≤ y.W (IntKind.i64.wrap (x.fst + Int.ofNat 1)).toNat e))
    (V.need (y.n = y.n)
    (V.need (y.n = y.n)
    (V.need (x.snd = x.snd)
    (V.need (y.n = y.n)
    (V.need (y.n ≤ y.n)
    (V.need (∀ (e : Nat), e < y.n → min (y.W x.fst.toNat e) (y.L e) = min (y.W (IntKind.i64.wrap (x.fst + Int.ofNat 1)).toNat e) (y.L e))
    (V.need (∀ (i : Nat), y.live i = y.live i ∨ y.live i = 0)
    (V.need (∀ (i : Nat), y.live i ≤ y.live i ∧ y.live i ≤ y.live i)
    (V.need (∀ (i e : Nat), e < y.live i → (↑i : Int) = (↑i : Int))
    (V.need (∀ (i e : Nat), e < y.live i → y.L i - min (y.W x.fst.toNat i) (y.L i) = y.L i - min (y.W (IntKind.i64.wrap (x.fst + Int.ofNat 1)).toNat i) (y.L i)) V.ok))))))))))))))))))))))))))))))))))))))))))
    (V.need (Int.ofNat 0 ≤ (y.p (0 + x.fst.toNat)).tmod (↑y.n : Int) ∧ (y.p (0 + x.fst.toNat)).tmod (↑y.n : Int) < (↑(↑y.n : Int).toNat : Int))
    (V.need (0 + ((y.p (0 + x.fst.toNat)).tmod (↑y.n : Int)).toNat < y.n)
    (V.need (0 + ((y.p (0 + x.fst.toNat)).tmod (↑y.n : Int)).toNat < y.n)
    (V.br (decide (max (Int.ofNat 1) (y.L (0 + ((y.p (0 + x.fst.toNat)).tmod (↑y.n : Int)).toNat)) ≤ y.W x.fst.toNat (0 + ((y.p (0 + x.fst.toNat)).tmod (↑y.n : Int)).toNat)))
    (V.need (Int.ofNat 0 ≤ IntKind.i64.wrap (x.fst + Int.ofNat 1) ∧ IntKind.i64.wrap (x.fst + Int.ofNat 1) ≤ (↑y.pn : Int))
    (V.need (y.pn - (IntKind.i64.wrap (x.fst + Int.ofNat 1)).toNat < y.pn - x.fst.toNat)
    (V.need (IntKind.i64.wrap (x.fst + Int.ofNat 1) = IntKind.i64.wrap (x.fst + Int.ofNat 1))
    (V.need (y.n = y.n)
    (V.need (y.n ≤ y.n)
    (V.need (∀ (e : Nat), e < y.n → y.W x.fst.toNat e = y.W (IntKind.i64.wrap (x.fst + Int.ofNat 1)).toNat e)
    (V.need (y.n = y.n)
    (V.need (y.n ≤ y.n)
    (V.need (∀ (e : Nat), e < y.n → decide (max (Int.ofNat 1) (y.L e) ≤ y.W x.fst.toNat e) = decide (max (Int.ofNat 1) (y.L e) ≤ y.W (IntKind.i64.wrap (x.fst + Int.ofNat 1)).toNat e))
    (V.need (y.n = y.n)
    (V.need (y.n = y.n)
    (V.need (x.snd = x.snd)
    (V.need (y.n = y.n)
    (V.need (y.n ≤ y.n)
    (V.need (∀ (e : Nat), e < y.n → min (y.W x.fst.toNat e) (y.L e) = min (y.W (IntKind.i64.wrap (x.fst + Int.ofNat 1)).toNat e) (y.L e))
    (V.need (∀ (i : Nat), y.live i = y.live i ∨ y.live i = 0)
    (V.need (∀ (i : Nat), y.live i ≤ y.live i ∧ y.live i ≤ y.live i)
    (V.need (∀ (i e : Nat), e < y.live i → (↑i : Int) = (↑i : Int))
    (V.need (∀ (i e : Nat), e < y.live i → y.L i - min (y.W x.fst.toNat i) (y.L i) = y.L i - min (y.W (IntKind.i64.wrap (x.fst + Int.ofNat 1)).toNat i) (y.L i)) V.ok)))))))))))))))))))
    (V.need (Int.ofNat 0 ≤ (y.p (0 + x.fst.toNat)).tmod (↑y.n : Int) ∧ (y.p (0 + x.fst.toNat)).tmod (↑y.n : Int) < (↑(↑y.n : Int).toNat : Int))
    (V.need (0 + ((y.p (0 + x.fst.toNat)).tmod (↑y.n : Int)).toNat < y.n)
    (V.need (0 + ((y.p (0 + x.fst.toNat)).tmod (↑y.n : Int)).toNat < y.n)
    (V.need (Int.ofNat 0 ≤ (y.p (0 + x.fst.toNat)).tmod (↑y.n : Int) ∧ (y.p (0 + x.fst.toNat)).tmod (↑y.n : Int) < (↑(↑y.n : Int).toNat : Int))
    (V.need (0 + ((y.p (0 + x.fst.toNat)).tmod (↑y.n : Int)).toNat < y.n)
    (V.need (0 + ((y.p (0 + x.fst.toNat)).tmod (↑y.n : Int)).toNat < y.n)
    (V.need (Int.ofNat 0 ≤ (y.p (0 + x.fst.toNat)).tmod (↑y.n : Int) ∧ (y.p (0 + x.fst.toNat)).tmod (↑y.n : Int) < (↑y.n : Int))
    (V.need (0 < 1 ∧ 0 + ((y.p (0 + x.fst.toNat)).tmod (↑y.n : Int)).toNat < y.n)
    (V.need (0 < 1 ∧ 0 + ((y.p (0 + x.fst.toNat)).tmod (↑y.n : Int)).toNat < y.n)
    (V.need (0 < y.live (0 + ((y.p (0 + x.fst.toNat)).tmod (↑y.n : Int)).toNat))
    (V.need (0 < y.live (0 + ((y.p (0 + x.fst.toNat)).tmod (↑y.n : Int)).toNat))
    (V.need (0 < y.live (0 + ((y.p (0 + x.fst.toNat)).tmod (↑y.n : Int)).toNat))
    (V.br (decide (y.L (0 + ((y.p (0 + x.fst.toNat)).tmod (↑y.n : Int)).toNat) - min (y.W x.fst.toNat (0 + ((y.p (0 + x.fst.toNat)).tmod (↑y.n : Int)).toNat)) (y.L (0 + ((y.p (0 + x.fst.toNat)).tmod (↑y.n : Int)).toNat)) > Int.ofNat 0))
    (V.need (0 < 1 ∧ 0 < 1)
    (V.need (0 < 1 ∧ 0 < 1)
    (V.need (0 < 1 ∧ 0 < 1)
    (V.need (0 < y.live (0 + ((y.p (0 + x.fst.toNat)).tmod (↑y.n : Int)).toNat))
    (V.need (0 < y.live (0 + ((y.p (0 + x.fst.toNat)).tmod (↑y.n : Int)).toNat))
    (V.need (0 < y.live (0 + ((y.p (0 + x.fst.toNat)).tmod (↑y.n : Int)).toNat))
    (V.br false
    (V.need (0 < y.live (0 + ((y.p (0 + x.fst.toNat)).tmod (↑y.n : Int)).toNat))
    (V.need (0 < y.live (0 + ((y.p (0 + x.fst.toNat)).tmod (↑y.n : Int)).toNat))
    (V.need (0 < y.live (0 + ((y.p (0 + x.fst.toNat)).tmod (↑y.n : Int)).toNat))
    (V.need (0 < y.live (0 + ((y.p (0 + x.fst.toNat)).tmod (↑y.n : Int)).toNat))
    (V.need (0 < y.live (0 + ((y.p (0 + x.fst.toNat)).tmod (↑y.n : Int)).toNat))
    (V.need (0 < y.live (0 + ((y.p (0 + x.fst.toNat)).tmod (↑y.n : Int)).toNat))
    (V.need (0 < y.live (0 + ((y.p (0 + x.fst.toNat)).tmod (↑y.n : Int)).toNat))
    (V.need (0 < y.live (0 + ((y.p (0 + x.fst.toNat)).tmod (↑y.n : Int)).toNat))
    (V.need (0 < y.live (0 + ((y.p (0 + x.fst.toNat)).tmod (↑y.n : Int)).toNat))
    (V.need (Int.ofNat 0 ≤ (y.p (0 + x.fst.toNat)).tmod (↑y.n : Int) ∧ (y.p (0 + x.fst.toNat)).tmod (↑y.n : Int) < (↑(↑y.n : Int).toNat : Int))
    (V.need (0 + ((y.p (0 + x.fst.toNat)).tmod (↑y.n : Int)).toNat < y.n)
    (V.need (0 + ((y.p (0 + x.fst.toNat)).tmod (↑y.n : Int)).toNat < y.n)
    (V.need (Int.ofNat 0 ≤ IntKind.i64.wrap (x.fst + Int.ofNat 1) ∧ IntKind.i64.wrap (x.fst + Int.ofNat 1) ≤ (↑y.pn : Int))
    (V.need (y.pn - (IntKind.i64.wrap (x.fst + Int.ofNat 1)).toNat < y.pn - x.fst.toNat)
    (V.need (IntKind.i64.wrap (x.fst + Int.ofNat 1) = IntKind.i64.wrap (x.fst + Int.ofNat 1))
    (V.need (y.n = y.n)
    (V.need (y.n ≤ y.n)
    (V.need (∀ (e : Nat), e < y.n → (if 0 = 0 ∧ e = 0 + ((y.p (0 + x.fst.toNat)).tmod (↑y.n : Int)).toNat then IntKind.i64.wrap (y.W x.fst.toNat (0 + ((y.p (0 + x.fst.toNat)).tmod (↑y.n : Int)).toNat) + Int.ofNat 1) else y.W x.fst.toNat e) = y.W (IntKind.i64.wrap (x.fst + Int.ofNat 1)).toNat e)
    (V.need (y.n = y.n)
    (V.need (y.n ≤ y.n)
    (V.need (∀ (e : Nat), e < y.n → (if 0 = 0 ∧ e = 0 + ((y.p (0 + x.fst.toNat)).tmod (↑y.n : Int)).toNat then (if 0 + ((y.p (0 + x.fst.toNat)).tmod (↑y.n : Int)).toNat = 0 + ((y.p (0 + x.fst.toNat)).tmod (↑y.n : Int)).toNat ∧ 0 = 0 then IntKind.i64.wrap (y.L (0 + ((y.p (0 + x.fst.toNat)).tmod (↑y.n : Int)).toNat) - min (y.W x.fst.toNat (0 + ((y.p (0 + x.fst.toNat)).tmod (↑y.n : Int)).toNat)) (y.L (0 + ((y.p (0 + x.fst.toNat)).tmod (↑y.n : Int)).toNat)) - Int.ofNat 1) else y.L (0 + ((y.p (0 + x.fst.toNat)).tmod (↑y.n : Int)).toNat) - min (y.W x.fst.toNat (0 + ((y.p (0 + x.fst.toNat)).tmod (↑y.n : Int)).toNat)) (y.L (0 + ((y.p (0 + x.fst.toNat)).tmod (↑y.n : Int)).toNat))) == Int.ofNat 0 else decide (max (Int.ofNat 1) (y.L e) ≤ y.W x.fst.toNat e)) = decide (max (Int.ofNat 1) (y.L e) ≤ y.W (IntKind.i64.wrap (x.fst + Int.ofNat 1)).toNat e))
    (V.need (y.n = y.n)
    (V.need (y.n = y.n)
    (V.need (x.snd = x.snd)
    (V.need (y.n = y.n)
    (V.need (y.n ≤ y.n)
    (V.need (∀ (e : Nat), e < y.n → min (y.W x.fst.toNat e) (y.L e) = min (y.W (IntKind.i64.wrap (x.fst + Int.ofNat 1)).toNat e) (y.L e))
    (V.need (∀ (i : Nat), y.live i = y.live i ∨ y.live i = 0)
    (V.need (∀ (i : Nat), y.live i ≤ y.live i ∧ y.live i ≤ y.live i)
    (V.need (∀ (i e : Nat), e < y.live i → (↑i : Int) = (↑i : Int))
    (V.need (∀ (i e : Nat), e < y.live i → (if i = 0 + ((y.p (0 + x.fst.toNat)).tmod (↑y.n : Int)).toNat ∧ e = 0 then IntKind.i64.wrap (y.L (0 + ((y.p (0 + x.fst.toNat)).tmod (↑y.n : Int)).toNat) - min (y.W x.fst.toNat (0 + ((y.p (0 + x.fst.toNat)).tmod (↑y.n : Int)).toNat)) (y.L (0 + ((y.p (0 + x.fst.toNat)).tmod (↑y.n : Int)).toNat)) - Int.ofNat 1) else y.L i - min (y.W x.fst.toNat i) (y.L i)) = y.L i - min (y.W (IntKind.i64.wrap (x.fst + Int.ofNat 1)).toNat i) (y.L i)) V.ok)))))))))))))))))))))))))))))))
    (V.br (decide ((↑(0 + ((y.p (0 + x.fst.toNat)).tmod (↑y.n : Int)).toNat) : Int) ≥ (↑y.n : Int)))
    (V.need (0 < y.live (0 + ((y.p (0 + x.fst.toNat)).tmod (↑y.n : Int)).toNat))
    (V.need (0 < y.live (0 + ((y.p (0 + x.fst.toNat)).tmod (↑y.n : Int)).toNat))
    (V.need (0 < y.live (0 + ((y.p (0 + x.fst.toNat)).tmod (↑y.n : Int)).toNat))
    (V.need (0 < y.live (0 + ((y.p (0 + x.fst.toNat)).tmod (↑y.n : Int)).toNat))
    (V.need (0 < y.live (0 + ((y.p (0 + x.fst.toNat)).tmod (↑y.n : Int)).toNat))
    (V.need (0 < y.live (0 + ((y.p (0 + x.fst.toNat)).tmod (↑y.n : Int)).toNat))
    (V.need (0 < y.live (0 + ((y.p (0 + x.fst.toNat)).tmod (↑y.n : Int)).toNat))
    (V.need (0 < y.live (0 + ((y.p (0 + x.fst.toNat)).tmod (↑y.n : Int)).toNat))
    (V.need (0 < y.live (0 + ((y.p (0 + x.fst.toNat)).tmod (↑y.n : Int)).toNat))
    (V.need (Int.ofNat 0 ≤ (y.p (0 + x.fst.toNat)).tmod (↑y.n : Int) ∧ (y.p (0 + x.fst.toNat)).tmod (↑y.n : Int) < (↑(↑y.n : Int).toNat : Int))
    (V.need (0 + ((y.p (0 + x.fst.toNat)).tmod (↑y.n : Int)).toNat < y.n)
    (V.need (0 + ((y.p (0 + x.fst.toNat)).tmod (↑y.n : Int)).toNat < y.n)
    (V.need (Int.ofNat 0 ≤ IntKind.i64.wrap (x.fst + Int.ofNat 1) ∧ IntKind.i64.wrap (x.fst + Int.ofNat 1) ≤ (↑y.pn : Int))
    (V.need (y.pn - (IntKind.i64.wrap (x.fst + Int.ofNat 1)).toNat < y.pn - x.fst.toNat)
    (V.need (IntKind.i64.wrap (x.fst + Int.ofNat 1) = IntKind.i64.wrap (x.fst + Int.ofNat 1))
    (V.need (y.n = y.n)
    (V.need (y.n ≤ y.n)
    (V.need (∀ (e : Nat), e < y.n → (if 0 = 0 ∧ e = 0 + ((y.p (0 + x.fst.toNat)).tmod (↑y.n : Int)).toNat then IntKind.i64.wrap (y.W x.fst.toNat (0 + ((y.p (0 + x.fst.toNat)).tmod (↑y.n : Int)).toNat) + Int.ofNat 1) else y.W x.fst.toNat e) = y.W (IntKind.i64.wrap (x.fst + Int.ofNat 1)).toNat e)
    (V.need (y.n = y.n)
    (V.need (y.n ≤ y.n)
    (V.need (∀ (e : Nat), e < y.n → (if 0 = 0 ∧ e = 0 + ((y.p (0 + x.fst.toNat)).tmod (↑y.n : Int)).toNat then (if 0 + ((y.p (0 + x.fst.toNat)).tmod (↑y.n : Int)).toNat = 0 + ((y.p (0 + x.fst.toNat)).tmod (↑y.n : Int)).toNat ∧ 0 = 0 then IntKind.i64.wrap (y.L (0 + ((y.p (0 + x.fst.toNat)).tmod (↑y.n : Int)).toNat) - min (y.W x.fst.toNat (0 + ((y.p (0 + x.fst.toNat)).tmod (↑y.n : Int)).toNat)) (y.L (0 + ((y.p (0 + x.fst.toNat)).tmod (↑y.n : Int)).toNat)) - Int.ofNat 1) else y.L (0 + ((y.p (0 + x.fst.toNat)).tmod (↑y.n : Int)).toNat) - min (y.W x.fst.toNat (0 + ((y.p (0 + x.fst.toNat)).tmod (↑y.n : Int)).toNat)) (y.L (0 + ((y.p (0 + x.fst.toNat)).tmod (↑y.n : Int)).toNat))) == Int.ofNat 0 else decide (max (Int.ofNat 1) (y.L e) ≤ y.W x.fst.toNat e)) = decide (max (Int.ofNat 1) (y.L e) ≤ y.W (IntKind.i64.wrap (x.fst + Int.ofNat 1)).toNat e))
    (V.need (y.n = y.n)
    (V.need (y.n = y.n)
    (V.need (x.snd = x.snd)
    (V.need (y.n = y.n)
    (V.need (y.n ≤ y.n)
    (V.need (∀ (e : Nat), e < y.n → min (y.W x.fst.toNat e) (y.L e) = min (y.W (IntKind.i64.wrap (x.fst + Int.ofNat 1)).toNat e) (y.L e))
    (V.need (∀ (i : Nat), y.live i = y.live i ∨ y.live i = 0)
    (V.need (∀ (i : Nat), y.live i ≤ y.live i ∧ y.live i ≤ y.live i)
    (V.need (∀ (i e : Nat), e < y.live i → (↑i : Int) = (↑i : Int))
    (V.need (∀ (i e : Nat), e < y.live i → (if i = 0 + ((y.p (0 + x.fst.toNat)).tmod (↑y.n : Int)).toNat ∧ e = 0 then IntKind.i64.wrap (y.L (0 + ((y.p (0 + x.fst.toNat)).tmod (↑y.n : Int)).toNat) - min (y.W x.fst.toNat (0 + ((y.p (0 + x.fst.toNat)).tmod (↑y.n : Int)).toNat)) (y.L (0 + ((y.p (0 + x.fst.toNat)).tmod (↑y.n : Int)).toNat)) - Int.ofNat 1) else y.L i - min (y.W x.fst.toNat i) (y.L i)) = y.L i - min (y.W (IntKind.i64.wrap (x.fst + Int.ofNat 1)).toNat i) (y.L i)) V.ok)))))))))))))))))))))))))))))))
    (V.need (Int.ofNat 0 ≤ (↑(0 + ((y.p (0 + x.fst.toNat)).tmod (↑y.n : Int)).toNat) : Int) ∧ (↑(0 + ((y.p (0 + x.fst.toNat)).tmod (↑y.n : Int)).toNat) : Int) < (↑y.n : Int))
    (V.need (0 + (↑(0 + ((y.p (0 + x.fst.toNat)).tmod (↑y.n : Int)).toNat) : Int).toNat < y.n)
    (V.need (0 + (↑(0 + ((y.p (0 + x.fst.toNat)).tmod (↑y.n : Int)).toNat) : Int).toNat < y.n)
    (V.need (0 < 1 ∧ 0 < 1)
    (V.need (0 < 1 ∧ 0 < 1)
    (V.need (0 < 1 ∧ 0 < 1)
    (V.need (0 < 1 ∧ 0 < 1)
    (V.need (Int.ofNat 0 ≤ (↑(0 + ((y.p (0 + x.fst.toNat)).tmod (↑y.n : Int)).toNat) : Int) ∧ (↑(0 + ((y.p (0 + x.fst.toNat)).tmod (↑y.n : Int)).toNat) : Int) < (↑y.n : Int))
    (V.need (0 < 1 ∧ 0 + (↑(0 + ((y.p (0 + x.fst.toNat)).tmod (↑y.n : Int)).toNat) : Int).toNat < y.n)
    (V.need (0 + (↑(0 + ((y.p (0 + x.fst.toNat)).tmod (↑y.n : Int)).toNat) : Int).toNat < y.n)
    (V.need (Int.ofNat 0 ≤ (↑(0 + ((y.p (0 + x.fst.toNat)).tmod (↑y.n : Int)).toNat) : Int) ∧ (↑(0 + ((y.p (0 + x.fst.toNat)).tmod (↑y.n : Int)).toNat) : Int) < (↑y.n : Int))
    (V.need (0 + (↑(0 + ((y.p (0 + x.fst.toNat)).tmod (↑y.n : Int)).toNat) : Int).toNat < y.n)
    (V.need (0 + (↑(0 + ((y.p (0 + x.fst.toNat)).tmod (↑y.n : Int)).toNat) : Int).toNat < y.n)
    (V.need (0 < y.live (0 + ((y.p (0 + x.fst.toNat)).tmod (↑y.n : Int)).toNat))
    (V.need (0 < y.live (0 + ((y.p (0 + x.fst.toNat)).tmod (↑y.n : Int)).toNat))
    (V.need (0 < y.live (0 + ((y.p (0 + x.fst.toNat)).tmod (↑y.n : Int)).toNat))
    (V.need (0 < y.live (0 + ((y.p (0 + x.fst.toNat)).tmod (↑y.n : Int)).toNat))
    (V.need (0 < y.live (0 + ((y.p (0 + x.fst.toNat)).tmod (↑y.n : Int)).toNat))
    (V.need (0 < y.live (0 + ((y.p (0 + x.fst.toNat)).tmod (↑y.n : Int)).toNat))
    (V.need (0 < y.live (0 + ((y.p (0 + x.fst.toNat)).tmod (↑y.n : Int)).toNat))
    (V.need (0 < y.live (0 + ((y.p (0 + x.fst.toNat)).tmod (↑y.n : Int)).toNat))
    (V.need (0 < y.live (0 + ((y.p (0 + x.fst.toNat)).tmod (↑y.n : Int)).toNat))
    (V.need (Int.ofNat 0 ≤ (y.p (0 + x.fst.toNat)).tmod (↑y.n : Int) ∧ (y.p (0 + x.fst.toNat)).tmod (↑y.n : Int) < (↑(↑y.n : Int).toNat : Int))
    (V.need (0 + ((y.p (0 + x.fst.toNat)).tmod (↑y.n : Int)).toNat < y.n)
    (V.need (0 + ((y.p (0 + x.fst.toNat)).tmod (↑y.n : Int)).toNat < y.n)
    (V.need (Int.ofNat 0 ≤ IntKind.i64.wrap (x.fst + Int.ofNat 1) ∧ IntKind.i64.wrap (x.fst + Int.ofNat 1) ≤ (↑y.pn : Int))
    (V.need (y.pn - (IntKind.i64.wrap (x.fst + Int.ofNat 1)).toNat < y.pn - x.fst.toNat)
    (V.need (IntKind.i64.wrap (x.fst + Int.ofNat 1) = IntKind.i64.wrap (x.fst + Int.ofNat 1))
    (V.need (y.n = y.n)
    (V.need (y.n ≤ y.n)
    (V.need (∀ (e : Nat), e < y.n → (if 0 = 0 ∧ e = 0 + ((y.p (0 + x.fst.toNat)).tmod (↑y.n : Int)).toNat then IntKind.i64.wrap (y.W x.fst.toNat (0 + ((y.p (0 + x.fst.toNat)).tmod (↑y.n : Int)).toNat) + Int.ofNat 1) else y.W x.fst.toNat e) = y.W (IntKind.i64.wrap (x.fst + Int.ofNat 1)).toNat e)
    (V.need (y.n = y.n)
    (V.need (y.n ≤ y.n)
    (V.need (∀ (e : Nat), e < y.n → (if 0 = 0 ∧ e = 0 + ((y.p (0 + x.fst.toNat)).tmod (↑y.n : Int)).toNat then (if 0 + ((y.p (0 + x.fst.toNat)).tmod (↑y.n : Int)).toNat = 0 + ((y.p (0 + x.fst.toNat)).tmod (↑y.n : Int)).toNat ∧ 0 = 0 then IntKind.i64.wrap (y.L (0 + ((y.p (0 + x.fst.toNat)).tmod (↑y.n : Int)).toNat) - min (y.W x.fst.toNat (0 + ((y.p (0 + x.fst.toNat)).tmod (↑y.n : Int)).toNat)) (y.L (0 + ((y.p (0 + x.fst.toNat)).tmod (↑y.n : Int)).toNat)) - Int.ofNat 1) else y.L (0 + ((y.p (0 + x.fst.toNat)).tmod (↑y.n : Int)).toNat) - min (y.W x.fst.toNat (0 + ((y.p (0 + x.fst.toNat)).tmod (↑y.n : Int)).toNat)) (y.L (0 + ((y.p (0 + x.fst.toNat)).tmod (↑y.n : Int)).toNat))) == Int.ofNat 0 else decide (max (Int.ofNat 1) (y.L e) ≤ y.W x.fst.toNat e)) = decide (max (Int.ofNat 1) (y.L e) ≤ y.W (IntKind.i64.wrap (x.fst + Int.ofNat 1)).toNat e))
    (V.need (y.n = y.n)
    (V.need (y.n = y.n)
    (V.need (IntKind.i64.wrap (x.snd + Int.ofNat 1) = IntKind.i64.wrap (x.snd + Int.ofNat 1))
    (V.need (y.n = y.n)
    (V.need (y.n ≤ y.n)
    (V.need (∀ (e : Nat), e < y.n → (if 0 = 0 ∧ e = 0 + (↑(0 + ((y.p (0 + x.fst.toNat)).tmod (↑y.n : Int)).toNat) : Int).toNat then IntKind.u64.wrap (min (y.W x.fst.toNat (0 + (↑(0 + ((y.p (0 + x.fst.toNat)).tmod (↑y.n : Int)).toNat) : Int).toNat)) (y.L (0 + (↑(0 + ((y.p (0 + x.fst.toNat)).tmod (↑y.n : Int)).toNat) : Int).toNat)) + Int.ofNat 1) else min (y.W x.fst.toNat e) (y.L e)) = min (y.W (IntKind.i64.wrap (x.fst + Int.ofNat 1)).toNat e) (y.L e))
    (V.need (∀ (i : Nat), y.live i = y.live i ∨ y.live i = 0)
    (V.need (∀ (i : Nat), y.live i ≤ y.live i ∧ y.live i ≤ y.live i)
    (V.need (∀ (i e : Nat), e < y.live i → (↑i : Int) = (↑i : Int))
    (V.need (∀ (i e : Nat), e < y.live i → (if i = 0 + ((y.p (0 + x.fst.toNat)).tmod (↑y.n : Int)).toNat ∧ e = 0 then IntKind.i64.wrap (y.L (0 + ((y.p (0 + x.fst.toNat)).tmod (↑y.n : Int)).toNat) - min (y.W x.fst.toNat (0 + ((y.p (0 + x.fst.toNat)).tmod (↑y.n : Int)).toNat)) (y.L (0 + ((y.p (0 + x.fst.toNat)).tmod (↑y.n : Int)).toNat)) - Int.ofNat 1) else y.L i - min (y.W x.fst.toNat i) (y.L i)) = y.L i - min (y.W (IntKind.i64.wrap (x.fst + Int.ofNat 1)).toNat i) (y.L i)) V.ok))))))))))))))))))))))))))))))))))))))))))))))))))))
    (V.need (0 < y.live (0 + ((y.p (0 + x.fst.toNat)).tmod (↑y.n : Int)).toNat))
    (V.need (0 < y.live (0 + ((y.p (0 + x.fst.toNat)).tmod (↑y.n : Int)).toNat))
    (V.need (0 < y.live (0 + ((y.p (0 + x.fst.toNat)).tmod (↑y.n : Int)).toNat))
    (V.need (Int.ofNat 0 ≤ (y.p (0 + x.fst.toNat)).tmod (↑y.n : Int) ∧ (y.p (0 + x.fst.toNat)).tmod (↑y.n : Int) < (↑(↑y.n : Int).toNat : Int))
    (V.need (0 + ((y.p (0 + x.fst.toNat)).tmod (↑y.n : Int)).toNat < y.n)
    (V.need (0 + ((y.p (0 + x.fst.toNat)).tmod (↑y.n : Int)).toNat < y.n)
    (V.need (Int.ofNat 0 ≤ IntKind.i64.wrap (x.fst + Int.ofNat 1) ∧ IntKind.i64.wrap (x.fst + Int.ofNat 1) ≤ (↑y.pn : Int))
    (V.need (y.pn - (IntKind.i64.wrap (x.fst + Int.ofNat 1)).toNat < y.pn - x.fst.toNat)
    (V.need (IntKind.i64.wrap (x.fst + Int.ofNat 1) = IntKind.i64.wrap (x.fst + Int.ofNat 1))
    (V.need (y.n = y.n)
    (V.need (y.n ≤ y.n)
    (V.need (∀ (e : Nat), e < y.n → (if 0 = 0 ∧ e = 0 + ((y.p (0 + x.fst.toNat)).tmod (↑y.n : Int)).toNat then IntKind.i64.wrap (y.W x.fst.toNat (0 + ((y.p (0 + x.fst.toNat)).tmod (↑y.n : Int)).toNat) + Int.ofNat 1) else y.W x.fst.toNat e) = y.W (IntKind.i64.wrap (x.fst + Int.ofNat 1)).toNat e)
    (V.need (y.n = y.n)
    (V.need (y.n ≤ y.n)
    (V.need (∀ (e : Nat), e < y.n → (if 0 = 0 ∧ e = 0 + ((y.p (0 + x.fst.toNat)).tmod (↑y.n : Int)).toNat then y.L (0 + ((y.p (0 + x.fst.toNat)).tmod (↑y.n : Int)).toNat) - min (y.W x.fst.toNat (0 + ((y.p (0 + x.fst.toNat)).tmod (↑y.n : Int)).toNat)) (y.L (0 + ((y.p (0 + x.fst.toNat)).tmod (↑y.n : Int)).toNat)) == Int.ofNat 0 else decide (max (Int.ofNat 1) (y.L e) ≤ y.W x.fst.toNat e)) = decide (max (Int.ofNat 1) (y.L e) ≤ y.W (IntKind.i64.wrap (x.fst + Int.ofNat 1)).toNat e))
    (V.need (y.n = y.n)
    (V.need (y.n = y.n)
    (V.need (x.snd = x.snd)
    (V.need (y.n = y.n)
    (V.need (y.n ≤ y.n)
    (V.need (∀ (e : Nat), e < y.n → min (y.W x.fst.toNat e) (y.L e) = min (y.W (IntKind.i64.wrap (x.fst + Int.ofNat 1)).toNat e) (y.L e))
    (V.need (∀ (i : Nat), y.live i = y.live i ∨ y.live i = 0)
    (V.need (∀ (i : Nat), y.live i ≤ y.live i ∧ y.live i ≤ y.live i)
    (V.need (∀ (i e : Nat), e < y.live i → (↑i : Int) = (↑i : Int))
    (V.need (∀ (i e : Nat), e < y.live i → y.L i - min (y.W x.fst.toNat i) (y.L i) = y.L i - min (y.W (IntKind.i64.wrap (x.fst + Int.ofNat 1)).toNat i) (y.L i)) V.ok)))))))))))))))))))))))))))))))))))))))))))))))
    (V.need True
    (V.need ((↑y.n : Int).toNat = y.n)
    (V.need ((↑y.n : Int).toNat = y.n)
    (V.need (y.n = y.n)
    (V.need (y.n = y.n)
    (V.need (x.snd = x.snd)
    (V.need (y.n = y.n)
    (V.need (y.n ≤ y.n)
    (V.need (∀ (e : Nat), e < y.n → min (y.W x.fst.toNat e) (y.L e) = min (y.W y.pn e) (y.L e))
    (V.need (y.cx = y.cx)
    (V.need (y.n ≤ y.n)
    (V.need (∀ (e : Nat), e < y.n → e = e)
    (V.need (∀ (i : Nat), y.live i = y.live i ∨ y.live i = 0)
    (V.need (∀ (i : Nat), y.live i ≤ y.live i ∧ y.live i ≤ y.live i)
    (V.need (∀ (i e : Nat), e < y.live i → (↑i : Int) = (↑i : Int))
    (V.need (∀ (i e : Nat), e < y.live i → y.L i - min (y.W x.fst.toNat i) (y.L i) = y.L i - min (y.W y.pn i) (y.L i))
    (V.need (y.n = y.n)
    (V.need (y.n ≤ y.n)
    (V.need (∀ (e : Nat), e < y.n → y.W x.fst.toNat e = y.W y.pn e) V.ok)))))))))))))))))))))))))))))))))))))))) := by kernel_rfl


end Go.Proofs.Ytjpnpaboahbncaa.Vc

/- Numbers compared, counters interleaved: the contracts. -/
set_option linter.unusedVariables false
set_option linter.unusedSimpArgs false
set_option maxRecDepth 100000
namespace Go.Proofs.Ytjpnpaboahbncaa.Vc
open Go Go.RowKit Sx Cn Dc Ck
section
variable {r s : R1}
open Classical in
theorem n1_f (h : ¬ r.eq s) : false = r.eqB s := by unfold R1.eqB; exact (decide_eq_false h).symm
open Classical in
theorem n1_t (h : r.eq s) : true = r.eqB s := by unfold R1.eqB; exact (decide_eq_true h).symm
theorem n1_len (h : ¬ (r.n : Int) = s.n) : false = r.eqB s := n1_f fun g => h (by rw [g.1])
theorem n1_at {x : Int} (hx : eq1I r s x) (hlt : x < r.n) (h : ¬ r.f x.toNat = s.f x.toNat) : false = r.eqB s :=
  n1_f fun g => h (g.2 x.toNat (by have := hx.1; omega))
theorem n1_end {x : Int} (hn : (r.n : Int) = s.n) (hx : eq1I r s x) (h : ¬ x < r.n) : true = r.eqB s := n1_t ⟨by omega, fun e he => hx.2.2 e (by omega)⟩
theorem n1_next {x : Int} (hr : r.n ≤ 1000000) (hx : eq1I r s x) (hlt : x < r.n) (h : r.f x.toNat = s.f x.toNat) (e : Nat) (he : (e : Int) < IntKind.i64.wrap (x + 1)) : r.f e = s.f e := by
  have := hx.1
  rw [w64 (by omega)] at he
  by_cases g : (e : Int) < x
  · exact hx.2.2 e g
  · obtain rfl : e = x.toNat := by omega
    exact h
theorem n1_pos {x : Int} (h : eq1I r s x) : 0 ≤ x := h.1
end
theorem vhEqN {r s : R1} (hr : r.n ≤ 1000000) : VHolds (verEqN r s) := by
  constructor
  rw [verEqN_eq]
  simp only [V.holds, Int.ofNat_eq_natCast, decide_eq_true_eq, decide_eq_false_iff_not, Bool.not_eq_true', Bool.not_eq_false', bne_iff_ne, bne_eq_false_iff_eq, beq_iff_eq, beq_eq_false_iff_ne, ne_eq, true_and, and_true, forall_const, true_implies, implies_true, Nat.zero_add, Nat.sub_zero, Nat.lt_add_one, Nat.zero_lt_one, Int.natCast_zero, Int.natCast_one, Int.cast_ofNat_Int, gt_iff_lt, and_self, eq_self, Nat.le_refl, if_true, Bool.and_true, Bool.and_eq_true, Bool.and_eq_false_imp]
  repeat' first | exact True.intro | with_reducible apply And.intro | intro _
  all_goals try (have h0 := n1_pos (by assumption))
  all_goals first
    | omega
    | (rw [w1 hr h0 (by assumption)]; omega)
    | exact n1_len (by assumption)
    | exact n1_at (by assumption) (by assumption) (by assumption)
    | exact n1_end (by assumption) (by assumption) (by assumption)
    | exact n1_next hr (by assumption) (by assumption) (by assumption) _ (by assumption)
theorem conEqN_ok : ContractOK P 74 conEqN := contract_of_useP fun args H => by
  unfold conEqN
  simp only [fN_eq]
  repeat' split
  all_goals first
    | exact .inl ⟨_, rfl⟩
    | exact .inr ⟨_, _, _, _, _, rfl, local_of_ver0 ConOK.nil fun h => vhEqN h⟩
/-! ### Interleave -/
section
variable (y : MI)
theorem MI.W_pos : ∀ i m, 0 ≤ y.W i m
  | 0, m => Int.le_refl 0
  | i + 1, m => by have := MI.W_pos i m; rw [MI.W]; split <;> omega
theorem MI.W_le : ∀ i m, y.W i m ≤ max 1 (y.L m)
  | 0, m => by simp only [MI.W]; omega
  | i + 1, m => by have := MI.W_le i m; rw [MI.W]; split <;> omega
theorem MI.W_at {i m : Nat} (h : (m : Int) = drI (y.p i) y.n) (h1 : y.W i m < max 1 (y.L m)) : y.W (i + 1) m = y.W i m + 1 := by rw [MI.W, if_pos ⟨h, h1⟩]
theorem MI.W_full {i m : Nat} (h1 : ¬ y.W i m < max 1 (y.L m)) : y.W (i + 1) m = y.W i m := by rw [MI.W, if_neg fun h => h1 h.2]
theorem MI.W_far {i m : Nat} (h : ¬ (m : Int) = drI (y.p i) y.n) : y.W (i + 1) m = y.W i m := by rw [MI.W, if_neg fun g => h g.1]
theorem drI_neg {d : Int} {n : Nat} (h : d.tmod n < 0) : drI d n = d.tmod n + n := if_pos h
theorem drI_pos {d : Int} {n : Nat} (h : ¬ d.tmod n < 0) : drI d n = d.tmod n := if_neg h
theorem MI.stay {i k : Nat} (hk : (k : Int) = drI (y.p i) y.n) (h : max 1 (y.L k) ≤ y.W i k) (e : Nat) : y.W (i + 1) e = y.W i e := by
  by_cases he : e = k
  · subst he; exact y.W_full (by omega)
  · exact y.W_far (by omega)
theorem MI.step {i k : Nat} (hk : (k : Int) = drI (y.p i) y.n) (h : ¬ max 1 (y.L k) ≤ y.W i k) (e : Nat) : y.W (i + 1) e = if e = k then y.W i k + 1 else y.W i e := by
  by_cases he : e = k
  · subst he; rw [if_pos rfl]; exact y.W_at hk (by omega)
  · rw [if_neg he]; exact y.W_far (by omega)
theorem MI.live_lt {i e : Nat} (h : e < y.live i) : i < y.n := by
  unfold MI.live at h
  split at h
  · assumption
  · omega
theorem MI.live_at {i : Nat} (h : i < y.n) : y.live i = 1 := if_pos h
end
theorem tmod_bd' (a : Int) {b : Int} (h : 0 < b) : -b < a.tmod b ∧ a.tmod b < b := by
  refine ⟨?_, Int.tmod_lt_of_pos a h⟩
  have := Int.tmod_lt_of_pos (-a) h
  rw [Int.neg_tmod] at this
  omega
theorem dr_neg {d : Int} {n : Nat} (hn : ¬ (n : Int) = 0) (hm : n ≤ 20) (h : d.tmod n < 0) : ∃ k : Nat, k < n ∧ (k : Int) = drI d n ∧ IntKind.i64.wrap (d.tmod n + n) = k := by
  have := tmod_bd' d (b := n) (by omega)
  have e : IntKind.i64.wrap (d.tmod n + n) = d.tmod n + n := w64 (by omega)
  refine ⟨(d.tmod n + n).toNat, by omega, ?_, by omega⟩
  rw [drI_neg h]; omega
theorem dr_pos {d : Int} {n : Nat} (hn : ¬ (n : Int) = 0) (h : ¬ d.tmod n < 0) : ∃ k : Nat, k < n ∧ (k : Int) = drI d n ∧ d.tmod n = k := by
  have := tmod_bd' d (b := n) (by omega)
  refine ⟨(d.tmod n).toNat, by omega, ?_, by omega⟩
  rw [drI_pos h]; omega
set_option maxHeartbeats 4000000 in
theorem vhInter {y : MI} {c : Int} (h : y.pre) : VHolds (verInter y c) := by
  constructor
  rw [verInter_eq]
  obtain ⟨hn, hp, hL⟩ := h
  have hW0 : ∀ e, y.W 0 e = 0 := fun e => rfl
  simp only [V.holds, Int.ofNat_eq_natCast, decide_eq_true_eq, decide_eq_false_iff_not, Bool.not_eq_true', Bool.not_eq_false', bne_iff_ne, bne_eq_false_iff_eq, beq_iff_eq, beq_eq_false_iff_ne, ne_eq, true_and, and_true, forall_const, true_implies, implies_true, Nat.zero_add, Nat.sub_zero, Nat.lt_add_one, Nat.zero_lt_one, Int.natCast_zero, Int.natCast_one, Int.cast_ofNat_Int, gt_iff_lt, ge_iff_le, and_self, eq_self, Nat.le_refl, not_true_eq_false, false_implies, Int.toNat_natCast, Int.toNat_zero, if_true, true_or, hW0, Bool.false_eq_true]
  repeat' first
    | exact True.intro
    | with_reducible apply And.intro
    | (intro (x : Int × Int); obtain ⟨x1, c1⟩ := x; intro hx; obtain ⟨h1, h2⟩ := hx; obtain ⟨i, rfl⟩ := Int.eq_ofNat_of_zero_le h1; simp only [Int.toNat_natCast])
    | (intro (hi : (i : Int) < (y.pn : Int))
       have e1 : IntKind.i64.wrap ((i : Int) + 1) = (i : Int) + 1 := w64 (by omega)
       have e2 : ((i : Int) + 1).toNat = i + 1 := by omega
       simp only [e1, e2])
    | (intro (hT : (y.p i).tmod _ < 0)
       obtain ⟨k, k1, k2, k3⟩ := dr_neg (by assumption) hn hT
       have kl := y.live_at k1
       simp only [k3, Int.toNat_natCast, kl])
    | (intro (hT : ¬ (y.p i).tmod _ < 0)
       obtain ⟨k, k1, k2, k3⟩ := dr_pos (by assumption) hT
       have kl := y.live_at k1
       simp only [k3, Int.toNat_natCast, kl])
    | (intro (hd : max 1 (y.L k) ≤ y.W i k)
       simp only [y.stay k2 hd])
    | (intro (hd : ¬ max 1 (y.L k) ≤ y.W i k)
       have hs := y.step k2 hd
       have b1 := y.W_pos i k
       have b2 := y.W_le i k
       have b3 := hL k k1
       have e4 : IntKind.i64.wrap (y.W i k + 1) = y.W i k + 1 := w64 (by omega)
       have e5 : IntKind.i64.wrap (y.L k - min (y.W i k) (y.L k) - 1) = y.L k - min (y.W i k) (y.L k) - 1 := w64 (by omega)
       have e6 : IntKind.u64.wrap (min (y.W i k) (y.L k) + 1) = min (y.W i k) (y.L k) + 1 := wu64 (by omega)
       simp only [hs, e4, e5, e6])
    | intro _
  all_goals first
    | contradiction
    | omega
    | rfl
    | exact (decide_eq_false (by omega)).symm
    | (exfalso; have := y.live_lt (by assumption); omega)
    | (have := hL _ (y.live_lt (by assumption)); omega)
    | (have := hL _ (by assumption); omega)
    | (obtain rfl : i = y.pn := by omega
       rfl)
    | (rename_i e he
       by_cases h' : e = k <;> simp only [h', if_true, if_false] <;> first | rfl | omega | exact Bool.eq_iff_iff.2 (by simp only [beq_iff_eq, decide_eq_true_eq]; omega))
    | (rename_i m e he
       have hm := y.live_lt he
       rw [y.live_at hm] at he
       obtain rfl : e = 0 := by omega
       by_cases h' : m = k <;> simp only [h', if_true, if_false, and_self, true_and, false_and] <;> first | rfl | omega)
theorem conInter_ok : ContractOK P 27 conInter := contract_of_useP fun args H => by
  unfold conInter
  simp only [fN_eq]
  repeat' split
  all_goals first
    | exact .inl ⟨_, rfl⟩
    | exact .inr ⟨_, _, _, _, _, rfl, local_of_ver ConOK.nil fun h => vhInter h⟩
end Go.Proofs.Ytjpnpaboahbncaa.Vc

/- MachineInterleaves: what is said of its loops. -/
set_option linter.unusedVariables false
set_option linter.unusedSimpArgs false
set_option maxRecDepth 100000
namespace Go.Proofs.Ytjpnpaboahbncaa.Vc
open Go Go.RowKit Sx Cn Dc Ck
noncomputable section
def conN8 : Con := Con.add 19 conAwake8 (Con.add 74 conEqN (Con.add 27 conInter con0))
theorem conN8_ok : ConOK P conN8 := .add conAwake8_ok (.add conEqN_ok (.add conInter_ok ConOK.nil))
section
variable (g : Nat → Int) (len cap : Nat) (p : Nat → Int) (pn pc : Nat)
def L9 (m : Nat) : Int := (g m).tmod 9
def miOf : MI := ⟨len, len, L9 g, pn, pc, p⟩
def famX (s : St) : Nat := match find (tkey 6 s) s.H.h with
  | some (.row _ _ _ [.cf _ F _ _ _]) => F
  | _ => 0
def colsX : List Col := [.ci .i64 fun m _ => m, .ci .i64 fun m _ => L9 g m]
/-- The machines are made. -/
def fMk (s : St) : Option (LA (Int × Nat)) := some ⟨[(tkey 6, false), (famX, false), (tkey 8, true)],
  fun x => [.row 105 x.2 x.1.toNat [.cf 39 (famX s) (fun _ e => e) 0 2], .fam true 41 (fun m => if m < x.1.toNat then 1 else 0) (fun m => if m < x.1.toNat then 1 else 0) (colsX g), .row 3 len len [.ci .i64 fun _ e => if e < x.1.toNat then max 1 (L9 g e) else 0]],
  [6, 9], fun x => [.c (.slc (tkey 6 s) (.k 0) (.k 0) 1 (.s x.1.toNat) (.s x.2)), iv x.1],
  fun s => match intT 9 s, capOf (tkey 6 s) s.H.h with | some i, some c => some (i, c) | _, _ => none, fun x => 0 ≤ x.1 ∧ x.1 ≤ len ∧ x.1.toNat ≤ x.2, fun x => len - x.1.toNat⟩
/-- What is to be expected. -/
def fWant (s : St) : Option (LA Int) := some ⟨[(tkey 7, true), (tkey 8, true)], fun i => [.row 3 len len [.ci .i64 fun _ e => (miOf g len p pn pc).W i.toNat e], .row 3 len len [.ci .i64 fun _ e => max 1 (L9 g e) - (miOf g len p pn pc).W i.toNat e]],
  [10], fun i => [iv i], intT 10, fun i => 0 ≤ i ∧ i ≤ pn ∧ (len = 0 → i = 0), fun i => pn - i.toNat⟩
def avInter (F : Nat) : AV := .loop _ [.newFam 41 (colsX g), .nilTmp 6 105 1 [.cf 39 F (fun _ e => e) 0 2]] (fMk g len) .nil
  (.loop _ [] (fWant g len p pn pc) .nil (.loop Int [] (fun _ => some (cntL 13 (fun x => 0 ≤ x ∧ x ≤ len) len)) .nil .nil))
def verInters (F : Nat) : V := verF P conN8 3 7 6 [(12, .join (tkey 6) 0)] (avInter g len p pn pc F) [.c (slK 0 1 len cap), .c (slK 1 1 pn pc)] ⟨[(0, ints .u8 len g), (1, ints .i64 pn p)], 2, fun _ => True⟩ yesV
end
end
end Go.Proofs.Ytjpnpaboahbncaa.Vc

/- MachineInterleaves: the conditions, printed by program. -/
set_option linter.unusedVariables false
set_option maxRecDepth 100000
namespace Go.Proofs.Ytjpnpaboahbncaa.Vc
open Go Go.RowKit Sx Cn Dc Ck

set_option maxHeartbeats 8000000 in
theorem verInters_eq (g : Nat → Int) (len cap : Nat) (p : Nat → Int) (pn pc : Nat) : verInters g len cap p pn pc 1237940039285380274899124230 =
  V.br (decide ((↑len : Int) > Int.ofNat 20)) V.ok
    (V.br (decide ((↑pn : Int) > Int.ofNat 400)) V.ok
    (V.need (Int.ofNat 0 ≤ min (max (↑len : Int) (Int.ofNat 0)) (Int.ofNat 131072) ∧ min (max (↑len : Int) (Int.ofNat 0)) (Int.ofNat 131072) ≤ min (max (↑len : Int) (Int.ofNat 0)) (Int.ofNat 131072) ∧ (↑8 : Int) * min (max (↑len : Int) (Int.ofNat 0)) (Int.ofNat 131072) ≤ Int.ofNat 281474976710656 ∧ min (max (↑len : Int) (Int.ofNat 0)) (Int.ofNat 131072) ≤ Int.ofNat 9223372036854775807)
    (V.need True
    (V.need (Int.ofNat 0 ≤ (↑len : Int) ∧ (↑len : Int) ≤ (↑len : Int) ∧ (↑8 : Int) * (↑len : Int) ≤ Int.ofNat 281474976710656 ∧ (↑len : Int) ≤ Int.ofNat 9223372036854775807)
    (V.need (Int.ofNat 0 ≤ (↑len : Int) ∧ (↑len : Int) ≤ (↑len : Int) ∧ (↑8 : Int) * (↑len : Int) ≤ Int.ofNat 281474976710656 ∧ (↑len : Int) ≤ Int.ofNat 9223372036854775807)
    (V.need (Int.ofNat 0 ≤ Int.ofNat 0 ∧ Int.ofNat 0 ≤ (↑len : Int) ∧ 0 ≤ 0)
    (V.need (0 = 0)
    (V.need (0 = 0)
    (V.need (Int.ofNat 0 = Int.ofNat 0)
    (V.need (0 = 0)
    (V.need (0 ≤ 0)
    (V.need (∀ (e : Nat), e < 0 → e = e)
    (V.need (∀ (i : Nat), (0 = if i < 0 then 1 else 0) ∨ (if i < 0 then 1 else 0) = 0)
    (V.need (∀ (i : Nat), ((if i < 0 then 1 else 0) ≤ if i < 0 then 1 else 0) ∧ (if i < 0 then 1 else 0) ≤ 0)
    (V.need (∀ (i e : Nat), (e < if i < 0 then 1 else 0) → (↑i : Int) = (↑i : Int))
    (V.need (∀ (i e : Nat), (e < if i < 0 then 1 else 0) → L9 g i = L9 g i)
    (V.need ((↑len : Int).toNat = len)
    (V.need (len ≤ (↑len : Int).toNat)
    (V.need (∀ (e : Nat), e < len → Int.ofNat 0 = if e < 0 then max (Int.ofNat 1) (L9 g e) else Int.ofNat 0)
    (V.any (Int × Nat) (fun (x : Int × Nat) => Int.ofNat 0 ≤ x.fst ∧ x.fst ≤ (↑len : Int) ∧ x.fst.toNat ≤ x.snd) fun (x : Int × Nat) => V.br (decide (x.fst < (↑len : Int)))
    (V.need (Int.ofNat 0 ≤ x.fst ∧ x.fst < (↑len : Int))
    (V.need (0 < 1 ∧ 0 + x.fst.toNat < len)
    (V.need (0 < 1 ∧ 0 + x.fst.toNat < len)
    (V.need (Int.ofNat 9 ≠ Int.ofNat 0)
    (V.need (0 < 1)
    (V.need (x.fst.toNat ≤ x.fst.toNat ∧ x.snd = x.snd)
    (V.need (x.fst.toNat + 1 ≤ 9223372036854775807 ∧ (x.fst.toNat + 1) * 16 ≤ 140737488355328)
    (V.any Nat (fun (x_1 : Nat) => x.fst.toNat + 1 ≤ x_1) fun (x_1 : Nat) => V.need ((1 ≤ [SC.iv IntKind.i64 x.fst].length ∧ 1 ≤ [SC.iv IntKind.i64 (IntKind.i64.wrap ((g (0 + x.fst.toNat)).tmod (Int.ofNat 9)))].length ∧ True) ∧ ∀ (i e : Nat), i = 0 ∧ e < x.fst.toNat + 1 → ¬(i = 0 ∧ e = x.fst.toNat) → e ≠ x.fst.toNat)
    (V.need (Int.ofNat 0 ≤ x.fst ∧ x.fst < (↑len : Int))
    (V.need (0 < 1 ∧ 0 + x.fst.toNat < len)
    (V.need (0 < 1 ∧ 0 + x.fst.toNat < len)
    (V.need (Int.ofNat 9 ≠ Int.ofNat 0)
    (V.need (Int.ofNat 0 ≤ x.fst ∧ x.fst < (↑(↑len : Int).toNat : Int))
    (V.need (0 + x.fst.toNat < len)
    (V.need (0 + x.fst.toNat < len)
    (V.need (Int.ofNat 0 ≤ IntKind.i64.wrap (x.fst + Int.ofNat 1) ∧ IntKind.i64.wrap (x.fst + Int.ofNat 1) ≤ (↑len : Int) ∧ (IntKind.i64.wrap (x.fst + Int.ofNat 1)).toNat ≤ x_1)
    (V.need (len - (IntKind.i64.wrap (x.fst + Int.ofNat 1)).toNat < len - x.fst.toNat)
    (V.need (x.fst.toNat + 1 = (IntKind.i64.wrap (x.fst + Int.ofNat 1)).toNat)
    (V.need (x_1 = x_1)
    (V.need (IntKind.i64.wrap (x.fst + Int.ofNat 1) = IntKind.i64.wrap (x.fst + Int.ofNat 1))
    (V.need (x_1 = x_1)
    (V.need ((IntKind.i64.wrap (x.fst + Int.ofNat 1)).toNat ≤ x.fst.toNat + 1)
    (V.need (∀ (e : Nat), e < (IntKind.i64.wrap (x.fst + Int.ofNat 1)).toNat → e = e)
    (V.need (∀ (i : Nat), ((if i = x.fst.toNat then 1 else if i < x.fst.toNat then 1 else 0) = if i < (IntKind.i64.wrap (x.fst + Int.ofNat 1)).toNat then 1 else 0) ∨ (if i < (IntKind.i64.wrap (x.fst + Int.ofNat 1)).toNat then 1 else 0) = 0)
    (V.need (∀ (i : Nat), ((if i < (IntKind.i64.wrap (x.fst + Int.ofNat 1)).toNat then 1 else 0) ≤ if i < (IntKind.i64.wrap (x.fst + Int.ofNat 1)).toNat then 1 else 0) ∧ (if i < (IntKind.i64.wrap (x.fst + Int.ofNat 1)).toNat then 1 else 0) ≤ if i = x.fst.toNat then 1 else if i < x.fst.toNat then 1 else 0)
    (V.need (∀ (i e : Nat), (e < if i < (IntKind.i64.wrap (x.fst + Int.ofNat 1)).toNat then 1 else 0) → (if i = x.fst.toNat then numAt [SC.iv IntKind.i64 x.fst] e else (↑i : Int)) = (↑i : Int))
    (V.need (∀ (i e : Nat), (e < if i < (IntKind.i64.wrap (x.fst + Int.ofNat 1)).toNat then 1 else 0) → (if i = x.fst.toNat then numAt [SC.iv IntKind.i64 (IntKind.i64.wrap ((g (0 + x.fst.toNat)).tmod (Int.ofNat 9)))] e else L9 g i) = L9 g i)
    (V.need (len = len)
    (V.need (len ≤ len)
    (V.need (∀ (e : Nat), e < len → (if 0 = 0 ∧ e = 0 + x.fst.toNat then max (Int.ofNat 1) (IntKind.i64.wrap ((g (0 + x.fst.toNat)).tmod (Int.ofNat 9))) else if e < x.fst.toNat then max (Int.ofNat 1) (L9 g e) else Int.ofNat 0) = if e < (IntKind.i64.wrap (x.fst + Int.ofNat 1)).toNat then max (Int.ofNat 1) (L9 g e) else Int.ofNat 0) V.ok))))))))))))))))))))))))))))))
    (V.need (Int.ofNat 0 ≤ Int.ofNat 0 ∧ Int.ofNat 0 ≤ (↑pn : Int) ∧ (len = 0 → Int.ofNat 0 = Int.ofNat 0))
    (V.need (Int.ofNat 0 = Int.ofNat 0)
    (V.need ((↑len : Int).toNat = len)
    (V.need (len ≤ (↑len : Int).toNat)
    (V.need (∀ (e : Nat), e < len → Int.ofNat 0 = (miOf g len p pn pc).W 0 e)
    (V.need (len = len)
    (V.need (len ≤ len)
    (V.need (∀ (e : Nat), e < len → (if e < x.fst.toNat then max (Int.ofNat 1) (L9 g e) else Int.ofNat 0) = max (Int.ofNat 1) (L9 g e) - (miOf g len p pn pc).W 0 e)
    (V.any Int (fun (i : Int) => Int.ofNat 0 ≤ i ∧ i ≤ (↑pn : Int) ∧ (len = 0 → i = Int.ofNat 0)) fun (x_1 : Int) => V.br (decide (x_1 < (↑pn : Int)))
    (V.br (decide ((↑x.fst.toNat : Int) > Int.ofNat 0))
    (V.need (Int.ofNat 0 ≤ x_1 ∧ x_1 < (↑pn : Int))
    (V.need (0 < 1 ∧ 0 + x_1.toNat < pn)
    (V.need (0 < 1 ∧ 0 + x_1.toNat < pn)
    (V.br (decide ((↑x.fst.toNat : Int) < Int.ofNat 1))
    (V.need (Int.ofNat 0 ≤ Int.ofNat 0 ∧ Int.ofNat 0 < (↑(↑len : Int).toNat : Int))
    (V.need (0 < len)
    (V.need (0 < len)
    (V.br (decide (max (Int.ofNat 1) (L9 g 0) - (miOf g len p pn pc).W x_1.toNat 0 > Int.ofNat 0))
    (V.need (Int.ofNat 0 ≤ Int.ofNat 0 ∧ Int.ofNat 0 < (↑(↑len : Int).toNat : Int))
    (V.need (0 < len)
    (V.need (0 < len)
    (V.need (Int.ofNat 0 ≤ Int.ofNat 0 ∧ Int.ofNat 0 < (↑(↑len : Int).toNat : Int))
    (V.need (0 < len)
    (V.need (0 < len)
    (V.need (Int.ofNat 0 ≤ Int.ofNat 0 ∧ Int.ofNat 0 < (↑(↑len : Int).toNat : Int))
    (V.need (0 < len)
    (V.need (0 < len)
    (V.need (Int.ofNat 0 ≤ Int.ofNat 0 ∧ Int.ofNat 0 < (↑(↑len : Int).toNat : Int))
    (V.need (0 < len)
    (V.need (0 < len)
    (V.need (Int.ofNat 0 ≤ IntKind.i64.wrap (x_1 + Int.ofNat 1) ∧ IntKind.i64.wrap (x_1 + Int.ofNat 1) ≤ (↑pn : Int) ∧ (len = 0 → IntKind.i64.wrap (x_1 + Int.ofNat 1) = Int.ofNat 0))
    (V.need (pn - (IntKind.i64.wrap (x_1 + Int.ofNat 1)).toNat < pn - x_1.toNat)
    (V.need (IntKind.i64.wrap (x_1 + Int.ofNat 1) = IntKind.i64.wrap (x_1 + Int.ofNat 1))
    (V.need (len = len)
    (V.need (len ≤ len)
    (V.need (∀ (e : Nat), e < len → (if 0 = 0 ∧ e = 0 then IntKind.i64.wrap ((miOf g len p pn pc).W x_1.toNat 0 + Int.ofNat 1) else (miOf g len p pn pc).W x_1.toNat e) = (miOf g len p pn pc).W (IntKind.i64.wrap (x_1 + Int.ofNat 1)).toNat e)
    (V.need (len = len)
    (V.need (len ≤ len)
    (V.need (∀ (e : Nat), e < len → (if 0 = 0 ∧ e = 0 then IntKind.i64.wrap (max (Int.ofNat 1) (L9 g 0) - (miOf g len p pn pc).W x_1.toNat 0 - Int.ofNat 1) else max (Int.ofNat 1) (L9 g e) - (miOf g len p pn pc).W x_1.toNat e) = max (Int.ofNat 1) (L9 g e) - (miOf g len p pn pc).W (IntKind.i64.wrap (x_1 + Int.ofNat 1)).toNat e) V.ok)))))))))))))))))))))
    (V.need (Int.ofNat 0 ≤ IntKind.i64.wrap (x_1 + Int.ofNat 1) ∧ IntKind.i64.wrap (x_1 + Int.ofNat 1) ≤ (↑pn : Int) ∧ (len = 0 → IntKind.i64.wrap (x_1 + Int.ofNat 1) = Int.ofNat 0))
    (V.need (pn - (IntKind.i64.wrap (x_1 + Int.ofNat 1)).toNat < pn - x_1.toNat)
    (V.need (IntKind.i64.wrap (x_1 + Int.ofNat 1) = IntKind.i64.wrap (x_1 + Int.ofNat 1))
    (V.need (len = len)
    (V.need (len ≤ len)
    (V.need (∀ (e : Nat), e < len → (miOf g len p pn pc).W x_1.toNat e = (miOf g len p pn pc).W (IntKind.i64.wrap (x_1 + Int.ofNat 1)).toNat e)
    (V.need (len = len)
    (V.need (len ≤ len)
    (V.need (∀ (e : Nat), e < len → max (Int.ofNat 1) (L9 g e) - (miOf g len p pn pc).W x_1.toNat e = max (Int.ofNat 1) (L9 g e) - (miOf g len p pn pc).W (IntKind.i64.wrap (x_1 + Int.ofNat 1)).toNat e) V.ok)))))))))))))
    (V.need ((↑x.fst.toNat : Int) ≠ Int.ofNat 0)
    (V.br (decide ((p (0 + x_1.toNat)).tmod (↑x.fst.toNat : Int) < Int.ofNat 0))
    (V.need ((↑x.fst.toNat : Int) ≠ Int.ofNat 0)
    (V.need (Int.ofNat 0 ≤ IntKind.i64.wrap ((p (0 + x_1.toNat)).tmod (↑x.fst.toNat : Int) + (↑x.fst.toNat : Int)) ∧ IntKind.i64.wrap ((p (0 + x_1.toNat)).tmod (↑x.fst.toNat : Int) + (↑x.fst.toNat : Int)) < (↑(↑len : Int).toNat : Int))
    (V.need (0 + (IntKind.i64.wrap ((p (0 + x_1.toNat)).tmod (↑x.fst.toNat : Int) + (↑x.fst.toNat : Int))).toNat < len)
    (V.need (0 + (IntKind.i64.wrap ((p (0 + x_1.toNat)).tmod (↑x.fst.toNat : Int) + (↑x.fst.toNat : Int))).toNat < len)
    (V.br (decide (max (Int.ofNat 1) (L9 g (0 + (IntKind.i64.wrap ((p (0 + x_1.toNat)).tmod (↑x.fst.toNat : Int) + (↑x.fst.toNat : Int))).toNat)) - (miOf g len p pn pc).W x_1.toNat (0 + (IntKind.i64.wrap ((p (0 + x_1.toNat)).tmod (↑x.fst.toNat : Int) + (↑x.fst.toNat : Int))).toNat) > Int.ofNat 0))
    (V.need (Int.ofNat 0 ≤ IntKind.i64.wrap ((p (0 + x_1.toNat)).tmod (↑x.fst.toNat : Int) + (↑x.fst.toNat : Int)) ∧ IntKind.i64.wrap ((p (0 + x_1.toNat)).tmod (↑x.fst.toNat : Int) + (↑x.fst.toNat : Int)) < (↑(↑len : Int).toNat : Int))
    (V.need (0 + (IntKind.i64.wrap ((p (0 + x_1.toNat)).tmod (↑x.fst.toNat : Int) + (↑x.fst.toNat : Int))).toNat < len)
    (V.need (0 + (IntKind.i64.wrap ((p (0 + x_1.toNat)).tmod (↑x.fst.toNat : Int) + (↑x.fst.toNat : Int))).toNat < len)
    (V.need (Int.ofNat 0 ≤ IntKind.i64.wrap ((p (0 + x_1.toNat)).tmod (↑x.fst.toNat : Int) + (↑x.fst.toNat : Int)) ∧ IntKind.i64.wrap ((p (0 + x_1.toNat)).tmod (↑x.fst.toNat : Int) + (↑x.fst.toNat : Int)) < (↑(↑len : Int).toNat : Int))
    (V.need (0 + (IntKind.i64.wrap ((p (0 + x_1.toNat)).tmod (↑x.fst.toNat : Int) + (↑x.fst.toNat : Int))).toNat < len)
    (V.need (0 + (IntKind.i64.wrap ((p (0 + x_1.toNat)).tmod (↑x.fst.toNat : Int) + (↑x.fst.toNat : Int))).toNat < len)
    (V.need (Int.ofNat 0 ≤ IntKind.i64.wrap ((p (0 + x_1.toNat)).tmod (↑x.fst.toNat : Int) + (↑x.fst.toNat : Int)) ∧ IntKind.i64.wrap ((p (0 + x_1.toNat)).tmod (↑x.fst.toNat : Int) + (↑x.fst.toNat : Int)) < (↑(↑len : Int).toNat : Int))
    (V.need (0 + (IntKind.i64.wrap ((p (0 + x_1.toNat)).tmod (↑x.fst.toNat : Int) + (↑x.fst.toNat : Int))).toNat < len)
    (V.need (0 + (IntKind.i64.wrap ((p (0 + x_1.toNat)).tmod (↑x.fst.toNat : Int) + (↑x.fst.toNat : Int))).toNat < len)
    (V.need (Int.ofNat 0 ≤ IntKind.i64.wrap ((p (0 + x_1.toNat)).tmod (↑x.fst.toNat : Int) + (↑x.fst.toNat : Int)) ∧ IntKind.i64.wrap ((p (0 + x_1.toNat)).tmod (↑x.fst.toNat : Int) + (↑x.fst.toNat : Int)) < (↑(↑len : Int).toNat : Int))
    (V.need (0 + (IntKind.i64.wrap ((p (0 + x_1.toNat)).tmod (↑x.fst.toNat : Int) + (↑x.fst.toNat : Int))).toNat < len)
    (V.need (0 + (IntKind.i64.wrap ((p (0 + x_1.toNat)).tmod (↑x.fst.toNat : Int) + (↑x.fst.toNat : Int))).toNat < len)
    (V.need (Int.ofNat 0 ≤ IntKind.i64.wrap (x_1 + Int.ofNat 1) ∧ IntKind.i64.wrap (x_1 + Int.ofNat 1) ≤ (↑pn : Int) ∧ (len = 0 → IntKind.i64.wrap (x_1 + Int.ofNat 1) = Int.ofNat 0))
    (V.need (pn - (IntKind.i64.wrap (x_1 + Int.ofNat 1)).toNat < pn - x_1.toNat)
    (V.need (IntKind.i64.wrap (x_1 + Int.ofNat 1) = IntKind.i64.wrap (x_1 + Int.ofNat 1))
    (V.need (len = len)
    (V.need (len ≤ len)
    (V.need (∀ (e : Nat), e < len → (if 0 = 0 ∧ e = 0 + (IntKind.i64.wrap ((p (0 + x_1.toNat)).tmod (↑x.fst.toNat : Int) + (↑x.fst.toNat : Int))).toNat then IntKind.i64.wrap ((miOf g len p pn pc).W x_1.toNat (0 + (IntKind.i64.wrap ((p (0 + x_1.toNat)).tmod (↑x.fst.toNat : Int) + (↑x.fst.toNat : Int))).toNat) + Int.ofNat 1) else (miOf g len p pn pc).W x_1.toNat e) = (miOf g len p pn pc).W (IntKind.i64.wrap (x_1 + Int.ofNat 1)).toNat e)
    (V.need (len = len)
    (V.need (len ≤ len)
    (V.need (∀ (e : Nat), e < len → (if 0 = 0 ∧ e = 0 + (IntKind.i64.wrap ((p (0 + x_1.toNat)).tmod (↑x.fst.toNat : Int) + (↑x.fst.toNat : Int))).toNat then IntKind.i64.wrap (max (Int.ofNat 1) (L9 g (0 + (IntKind.i64.wrap ((p (0 + x_1.toNat)).tmod (↑x.fst.toNat : Int) + (↑x.fst.toNat : Int))).toNat)) - (miOf g len p pn pc).W x_1.toNat (0 + (IntKind.i64.wrap ((p (0 + x_1.toNat)).tmod (↑x.fst.toNat : Int) + (↑x.fst.toNat : Int))).toNat) - Int.ofNat 1) else max (Int.ofNat 1) (L9 g e) - (miOf g len p pn pc).W x_1.toNat e) = max (Int.ofNat 1) (L9 g e) - (miOf g len p pn pc).W (IntKind.i64.wrap (x_1 + Int.ofNat 1)).toNat e) V.ok)))))))))))))))))))))
    (V.need (Int.ofNat 0 ≤ IntKind.i64.wrap (x_1 + Int.ofNat 1) ∧ IntKind.i64.wrap (x_1 + Int.ofNat 1) ≤ (↑pn : Int) ∧ (len = 0 → IntKind.i64.wrap (x_1 + Int.ofNat 1) = Int.ofNat 0))
    (V.need (pn - (IntKind.i64.wrap (x_1 + Int.ofNat 1)).toNat < pn - x_1.toNat)
    (V.need (IntKind.i64.wrap (x_1 + Int.ofNat 1) = IntKind.i64.wrap (x_1 + Int.ofNat 1))
    (V.need (len = len)
    (V.need (len ≤ len)
    (V.need (∀ (e : Nat), e < len → (miOf g len p pn pc).W x_1.toNat e = (miOf g len p pn pc).W (IntKind.i64.wrap (x_1 + Int.ofNat 1)).toNat e)
    (V.need (len = len)
    (V.need (len ≤ len)
    (V.need (∀ (e : Nat), e < len → max (Int.ofNat 1) (L9 g e) - (miOf g len p pn pc).W x_1.toNat e = max (Int.ofNat 1) (L9 g e) - (miOf g len p pn pc).W (IntKind.i64.wrap (x_1 + Int.ofNat 1)).toNat e) V.ok))))))))))))))
    (V.need ((↑x.fst.toNat : Int) ≠ Int.ofNat 0)
    (V.need (Int.ofNat 0 ≤ (p (0 + x_1.toNat)).tmod (↑x.fst.toNat : Int) ∧ (p (0 + x_1.toNat)).tmod (↑x.fst.toNat : Int) < (↑(↑len : Int).toNat : Int))
    (V.need (0 + ((p (0 + x_1.toNat)).tmod (↑x.fst.toNat : Int)).toNat < len)
    (V.need (0 + ((p (0 + x_1.toNat)).tmod (↑x.fst.toNat : Int)).toNat < len)
    (V.br (decide (max (Int.ofNat 1) (L9 g (0 + ((p (0 + x_1.toNat)).tmod (↑x.fst.toNat : Int)).toNat)) - (miOf g len p pn pc).W x_1.toNat (0 + ((p (0 + x_1.toNat)).tmod (↑x.fst.toNat : Int)).toNat) > Int.ofNat 0))
    (V.need (Int.ofNat 0 ≤ (p (0 + x_1.toNat)).tmod (↑x.fst.toNat : Int) ∧ (p (0 + x_1.toNat)).tmod (↑x.fst.toNat : Int) < (↑(↑len : Int).toNat : Int))
    (V.need (0 + ((p (0 + x_1.toNat)).tmod (↑x.fst.toNat : Int)).toNat < len)
    (V.need (0 + ((p (0 + x_1.toNat)).tmod (↑x.fst.toNat : Int)).toNat < len)
    (V.need (Int.ofNat 0 ≤ (p (0 + x_1.toNat)).tmod (↑x.fst.toNat : Int) ∧ (p (0 + x_1.toNat)).tmod (↑x.fst.toNat : Int) < (↑(↑len : Int).toNat : Int))
    (V.need (0 + ((p (0 + x_1.toNat)).tmod (↑x.fst.toNat : Int)).toNat < len)
    (V.need (0 + ((p (0 + x_1.toNat)).tmod (↑x.fst.toNat : Int)).toNat < len)
    (V.need (Int.ofNat 0 ≤ (p (0 + x_1.toNat)).tmod (↑x.fst.toNat : Int) ∧ (p (0 + x_1.toNat)).tmod (↑x.fst.toNat : Int) < (↑(↑len : Int).toNat : Int))
    (V.need (0 + ((p (0 + x_1.toNat)).tmod (↑x.fst.toNat : Int)).toNat < len)
    (V.need (0 + ((p (0 + x_1.toNat)).tmod (↑x.fst.toNat : Int)).toNat < len)
    (V.need (Int.ofNat 0 ≤ (p (0 + x_1.toNat)).tmod (↑x.fst.toNat : Int) ∧ (p (0 + x_1.toNat)).tmod (↑x.fst.toNat : Int) < (↑(↑len : Int).toNat : Int))
    (V.need (0 + ((p (0 + x_1.toNat)).tmod (↑x.fst.toNat : Int)).toNat < len)
    (V.need (0 + ((p (0 + x_1.toNat)).tmod (↑x.fst.toNat : Int)).toNat < len)
    (V.need (Int.ofNat 0 ≤ IntKind.i64.wrap (x_1 + Int.ofNat 1) ∧ IntKind.i64.wrap (x_1 + Int.ofNat 1) ≤ (↑pn : Int) ∧ (len = 0 → IntKind.i64.wrap (x_1 + Int.ofNat 1) = Int.ofNat 0))
    (V.need (pn - (IntKind.i64.wrap (x_1 + Int.ofNat 1)).toNat < pn - x_1.toNat)
    (V.need (IntKind.i64.wrap (x_1 + Int.ofNat 1) = IntKind.i64.wrap (x_1 + Int.ofNat 1))
    (V.need (len = len)
    (V.need (len ≤ len)
    (V.need (∀ (e : Nat), e < len → (if 0 = 0 ∧ e = 0 + ((p (0 + x_1.toNat)).tmod (↑x.fst.toNat : Int)).toNat then IntKind.i64.wrap ((miOf g len p pn pc).W x_1.toNat (0 + ((p (0 + x_1.toNat)).tmod (↑x.fst.toNat : Int)).toNat) + Int.ofNat 1) else (miOf g len p pn pc).W x_1.toNat e) = (miOf g len p pn pc).W (IntKind.i64.wrap (x_1 + Int.ofNat 1)).toNat e)
    (V.need (len = len)
    (V.need (len ≤ len)
    (V.need (∀ (e : Nat), e < len → (if 0 = 0 ∧ e = 0 + ((p (0 + x_1.toNat)).tmod (↑x.fst.toNat : Int)).toNat then IntKind.i64.wrap (max (Int.ofNat 1) (L9 g (0 + ((p (0 + x_1.toNat)).tmod (↑x.fst.toNat : Int)).toNat)) - (miOf g len p pn pc).W x_1.toNat (0 + ((p (0 + x_1.toNat)).tmod (↑x.fst.toNat : Int)).toNat) - Int.ofNat 1) else max (Int.ofNat 1) (L9 g e) - (miOf g len p pn pc).W x_1.toNat e) = max (Int.ofNat 1) (L9 g e) - (miOf g len p pn pc).W (IntKind.i64.wrap (x_1 + Int.ofNat 1)).toNat e) V.ok)))))))))))))))))))))
    (V.need (Int.ofNat 0 ≤ IntKind.i64.wrap (x_1 + Int.ofNat 1) ∧ IntKind.i64.wrap (x_1 + Int.ofNat 1) ≤ (↑pn : Int) ∧ (len = 0 → IntKind.i64.wrap (x_1 + Int.ofNat 1) = Int.ofNat 0))
    (V.need (pn - (IntKind.i64.wrap (x_1 + Int.ofNat 1)).toNat < pn - x_1.toNat)
    (V.need (IntKind.i64.wrap (x_1 + Int.ofNat 1) = IntKind.i64.wrap (x_1 + Int.ofNat 1))
    (V.need (len = len)
    (V.need (len ≤ len)
    (V.need (∀ (e : Nat), e < len → (miOf g len p pn pc).W x_1.toNat e = (miOf g len p pn pc).W (IntKind.i64.wrap (x_1 + Int.ofNat 1)).toNat e)
    (V.need (len = len)
    (V.need (len ≤ len)
    (V.need (∀ (e : Nat), e < len → max (Int.ofNat 1) (L9 g e) - (miOf g len p pn pc).W x_1.toNat e = max (Int.ofNat 1) (L9 g e) - (miOf g len p pn pc).W (IntKind.i64.wrap (x_1 + Int.ofNat 1)).toNat e) V.ok))))))))))))))))))))
    (V.need (x.fst.toNat = x.fst.toNat)
    (V.need (x.snd = x.snd)
    (V.need (pn = pn)
    (V.need (pc = pc)
    (V.need ((min (max (↑len : Int) (Int.ofNat 0)) (Int.ofNat 131072)).toNat = x.fst.toNat)
    (V.need ((min (max (↑len : Int) (Int.ofNat 0)) (Int.ofNat 131072)).toNat = x.fst.toNat)
    (V.need (Int.ofNat 0 = Int.ofNat 0)
    (V.need ((min (max (↑len : Int) (Int.ofNat 0)) (Int.ofNat 131072)).toNat = x.fst.toNat)
    (V.need (x.fst.toNat ≤ (min (max (↑len : Int) (Int.ofNat 0)) (Int.ofNat 131072)).toNat)
    (V.need (∀ (e : Nat), e < x.fst.toNat → Int.ofNat 0 = Int.ofNat 0)
    (V.need (x.snd = x.snd)
    (V.need (x.fst.toNat ≤ x.fst.toNat)
    (V.need (∀ (e : Nat), e < x.fst.toNat → e = e)
    (V.need (∀ (i : Nat), (if i < x.fst.toNat then 1 else 0) = (MI.mk x.fst.toNat x.snd (fun (m : Nat) => L9 g m) pn pc fun (e : Nat) => p e).live i ∨ (MI.mk x.fst.toNat x.snd (fun (m : Nat) => L9 g m) pn pc fun (e : Nat) => p e).live i = 0)
    (V.need (∀ (i : Nat), (MI.mk x.fst.toNat x.snd (fun (m : Nat) => L9 g m) pn pc fun (e : Nat) => p e).live i ≤ (MI.mk x.fst.toNat x.snd (fun (m : Nat) => L9 g m) pn pc fun (e : Nat) => p e).live i ∧ (MI.mk x.fst.toNat x.snd (fun (m : Nat) => L9 g m) pn pc fun (e : Nat) => p e).live i ≤ if i < x.fst.toNat then 1 else 0)
    (V.need (∀ (i e : Nat), e < (MI.mk x.fst.toNat x.snd (fun (m : Nat) => L9 g m) pn pc fun (e : Nat) => p e).live i → (↑i : Int) = (↑i : Int))
    (V.need (∀ (i e : Nat), e < (MI.mk x.fst.toNat x.snd (fun (m : Nat) => L9 g m) pn pc fun (e : Nat) => p e).live i → L9 g i = L9 g i)
    (V.need (1 ≤ 1)
    (V.need (∀ (i : Nat), i < 1 → pn ≤ pn)
    (V.need (∀ (i e : Nat), i < 1 ∧ e < pn → p e = p e)
    (V.need (MI.mk x.fst.toNat x.snd (fun (m : Nat) => L9 g m) pn pc fun (e : Nat) => p e).pre
    (V.need (∃ (x : Int), True)
    (V.any Int (fun (x : Int) => True) fun (x_2 : Int) => V.need (x.fst.toNat = x.fst.toNat)
    (V.need (x.fst.toNat = x.fst.toNat)
    (V.need ((↑len : Int).toNat = (↑len : Int).toNat)
    (V.need ((↑len : Int).toNat = (↑len : Int).toNat)
    (V.need (1 ≤ 1)
    (V.need (x.fst.toNat ≤ x.fst.toNat ∧ x.fst.toNat ≤ x.fst.toNat)
    (V.need (∀ (i e : Nat), i = 0 ∧ e < x.fst.toNat → (MI.mk x.fst.toNat x.snd (fun (m : Nat) => L9 g m) pn pc fun (e : Nat) => p e).W pn e = (MI.mk x.fst.toNat x.snd (fun (m : Nat) => L9 g m) pn pc fun (e : Nat) => p e).W pn e)
    (V.need (1 ≤ 1)
    (V.need ((↑len : Int).toNat ≤ len ∧ (↑len : Int).toNat ≤ len)
    (V.need (∀ (i e : Nat), i = 0 ∧ e < (↑len : Int).toNat → (miOf g len p pn pc).W x_1.toNat e = (miOf g len p pn pc).W x_1.toNat e)
    (V.need (x.fst.toNat ≤ 1000000)
    (V.br (!(R1.mk x.fst.toNat x.fst.toNat fun (e : Nat) => (MI.mk x.fst.toNat x.snd (fun (m : Nat) => L9 g m) pn pc fun (e : Nat) => p e).W pn e).eqB (R1.mk (↑len : Int).toNat (↑len : Int).toNat fun (e : Nat) => (miOf g len p pn pc).W x_1.toNat e))
    (V.bad 420)
    (V.need (Int.ofNat 0 ≤ Int.ofNat 0 ∧ Int.ofNat 0 ≤ (↑len : Int))
    (V.need (Int.ofNat 0 = Int.ofNat 0)
    (V.any Int (fun (x : Int) => Int.ofNat 0 ≤ x ∧ x ≤ (↑len : Int)) fun (x_3 : Int) => V.br (decide (x_3 < (↑(↑len : Int).toNat : Int)))
    (V.need (0 < 1 ∧ 0 < 1)
    (V.need (0 < 1 ∧ 0 < 1)
    (V.need (0 < 1 ∧ 0 < 1)
    (V.br (decide (x_3 < Int.ofNat 0))
    (V.need (Int.ofNat 0 ≤ x_3 ∧ x_3 < (↑(↑len : Int).toNat : Int))
    (V.need (0 < 1 ∧ 0 + x_3.toNat < len)
    (V.need (0 < 1 ∧ 0 + x_3.toNat < len)
    (V.need (Int.ofNat 0 ≤ x_3 ∧ x_3 < (↑len : Int))
    (V.need (0 < 1 ∧ 0 + x_3.toNat < len)
    (V.need (0 < 1 ∧ 0 + x_3.toNat < len)
    (V.need (Int.ofNat 9 ≠ Int.ofNat 0)
    (V.br (Int.ofNat 0 != IntKind.u64.wrap (min ((miOf g len p pn pc).W x_1.toNat (0 + x_3.toNat)) (IntKind.i64.wrap ((g (0 + x_3.toNat)).tmod (Int.ofNat 9)))))
    (V.bad 420)
    (V.need (Int.ofNat 0 ≤ IntKind.i64.wrap (x_3 + Int.ofNat 1) ∧ IntKind.i64.wrap (x_3 + Int.ofNat 1) ≤ (↑len : Int))
    (V.need (len - (IntKind.i64.wrap (x_3 + Int.ofNat 1)).toNat < len - x_3.toNat)
    (V.need (IntKind.i64.wrap (x_3 + Int.ofNat 1) = IntKind.i64.wrap (x_3 + Int.ofNat 1)) V.ok)))))))))))
    (V.need (0 < 1 ∧ 0 < 1)
    (V.need (0 < 1 ∧ 0 < 1)
    (V.need (0 < 1 ∧ 0 < 1)
    (V.br (decide (x_3 ≥ (↑x.fst.toNat : Int)))
    (V.need (Int.ofNat 0 ≤ x_3 ∧ x_3 < (↑(↑len : Int).toNat : Int))
    (V.need (0 < 1 ∧ 0 + x_3.toNat < len)
    (V.need (0 < 1 ∧ 0 + x_3.toNat < len)
    (V.need (Int.ofNat 0 ≤ x_3 ∧ x_3 < (↑len : Int))
    (V.need (0 < 1 ∧ 0 + x_3.toNat < len)
    (V.need (0 < 1 ∧ 0 + x_3.toNat < len)
    (V.need (Int.ofNat 9 ≠ Int.ofNat 0)
    (V.br (Int.ofNat 0 != IntKind.u64.wrap (min ((miOf g len p pn pc).W x_1.toNat (0 + x_3.toNat)) (IntKind.i64.wrap ((g (0 + x_3.toNat)).tmod (Int.ofNat 9)))))
    (V.bad 420)
    (V.need (Int.ofNat 0 ≤ IntKind.i64.wrap (x_3 + Int.ofNat 1) ∧ IntKind.i64.wrap (x_3 + Int.ofNat 1) ≤ (↑len : Int))
    (V.need (len - (IntKind.i64.wrap (x_3 + Int.ofNat 1)).toNat < len - x_3.toNat)
    (V.need (IntKind.i64.wrap (x_3 + Int.ofNat 1) = IntKind.i64.wrap (x_3 + Int.ofNat 1)) V.ok)))))))))))
    (V.need (0 < 1 ∧ 0 < 1)
    (V.need (0 < 1 ∧ 0 < 1)
    (V.need (0 < 1 ∧ 0 < 1)
    (V.need (Int.ofNat 0 ≤ x_3 ∧ x_3 < (↑x.fst.toNat : Int))
    (V.need (0 < 1 ∧ 0 + x_3.toNat < x.fst.toNat)
    (V.need (0 < 1 ∧ 0 + x_3.toNat < x.fst.toNat)
    (V.need (Int.ofNat 0 ≤ x_3 ∧ x_3 < (↑(↑len : Int).toNat : Int))
    (V.need (0 < 1 ∧ 0 + x_3.toNat < len)
    (V.need (0 < 1 ∧ 0 + x_3.toNat < len)
    (V.need (Int.ofNat 0 ≤ x_3 ∧ x_3 < (↑len : Int))
    (V.need (0 < 1 ∧ 0 + x_3.toNat < len)
    (V.need (0 < 1 ∧ 0 + x_3.toNat < len)
    (V.need (Int.ofNat 9 ≠ Int.ofNat 0)
    (V.br (min ((MI.mk x.fst.toNat x.snd (fun (m : Nat) => L9 g m) pn pc fun (e : Nat) => p e).W pn (0 + x_3.toNat)) (L9 g (0 + x_3.toNat)) != IntKind.u64.wrap (min ((miOf g len p pn pc).W x_1.toNat (0 + x_3.toNat)) (IntKind.i64.wrap ((g (0 + x_3.toNat)).tmod (Int.ofNat 9)))))
    (V.bad 420)
    (V.need (Int.ofNat 0 ≤ IntKind.i64.wrap (x_3 + Int.ofNat 1) ∧ IntKind.i64.wrap (x_3 + Int.ofNat 1) ≤ (↑len : Int))
    (V.need (len - (IntKind.i64.wrap (x_3 + Int.ofNat 1)).toNat < len - x_3.toNat)
    (V.need (IntKind.i64.wrap (x_3 + Int.ofNat 1) = IntKind.i64.wrap (x_3 + Int.ofNat 1)) V.ok))))))))))))))))))))))))) V.ok))))))))))))))))))))))))))))))))))))))
    (V.need (x.fst.toNat = x.fst.toNat)
    (V.need (x.snd = x.snd)
    (V.need (pn = pn)
    (V.need (pc = pc)
    (V.need ((min (max (↑len : Int) (Int.ofNat 0)) (Int.ofNat 131072)).toNat = x.fst.toNat)
    (V.need ((min (max (↑len : Int) (Int.ofNat 0)) (Int.ofNat 131072)).toNat = x.fst.toNat)
    (V.need (Int.ofNat 0 = Int.ofNat 0)
    (V.need ((min (max (↑len : Int) (Int.ofNat 0)) (Int.ofNat 131072)).toNat = x.fst.toNat)
    (V.need (x.fst.toNat ≤ (min (max (↑len : Int) (Int.ofNat 0)) (Int.ofNat 131072)).toNat)
    (V.need (∀ (e : Nat), e < x.fst.toNat → Int.ofNat 0 = Int.ofNat 0)
    (V.need (x.snd = x.snd)
    (V.need (x.fst.toNat ≤ x.fst.toNat)
    (V.need (∀ (e : Nat), e < x.fst.toNat → e = e)
    (V.need (∀ (i : Nat), (if i < x.fst.toNat then 1 else 0) = (MI.mk x.fst.toNat x.snd (fun (m : Nat) => L9 g m) pn pc fun (e : Nat) => p e).live i ∨ (MI.mk x.fst.toNat x.snd (fun (m : Nat) => L9 g m) pn pc fun (e : Nat) => p e).live i = 0)
    (V.need (∀ (i : Nat), (MI.mk x.fst.toNat x.snd (fun (m : Nat) => L9 g m) pn pc fun (e : Nat) => p e).live i ≤ (MI.mk x.fst.toNat x.snd (fun (m : Nat) => L9 g m) pn pc fun (e : Nat) => p e).live i ∧ (MI.mk x.fst.toNat x.snd (fun (m : Nat) => L9 g m) pn pc fun (e : Nat) => p e).live i ≤ if i < x.fst.toNat then 1 else 0)
    (V.need (∀ (i e : Nat), e < (MI.mk x.fst.toNat x.snd (fun (m : Nat) => L9 g m) pn pc fun (e : Nat) => p e).live i → (↑i : Int) = (↑i : Int))
    (V.need (∀ (i e : Nat), e < (MI.mk x.fst.toNat x.snd (fun (m : Nat) => L9 g m) pn pc fun (e : Nat) => p e).live i → L9 g i = L9 g i)
    (V.need (1 ≤ 1)
    (V.need (∀ (i : Nat), i < 1 → pn ≤ pn)
    (V.need (∀ (i e : Nat), i < 1 ∧ e < pn → p e = p e)
    (V.need (MI.mk x.fst.toNat x.snd (fun (m : Nat) => L9 g m) pn pc fun (e : Nat) => p e).pre
    (V.need (∃ (x : Int), True)
    (V.any Int (fun (x : Int) => True) fun (x_2 : Int) => V.need (x.fst.toNat = x.fst.toNat)
    (V.need (x.fst.toNat = x.fst.toNat)
    (V.need ((↑len : Int).toNat = (↑len : Int).toNat)
    (V.need ((↑len : Int).toNat = (↑len : Int).toNat)
    (V.need (1 ≤ 1)
    (V.need (x.fst.toNat ≤ x.fst.toNat ∧ x.fst.toNat ≤ x.fst.toNat)
    (V.need (∀ (i e : Nat), i = 0 ∧ e < x.fst.toNat → (MI.mk x.fst.toNat x.snd (fun (m : Nat) => L9 g m) pn pc fun (e : Nat) => p e).W pn e = (MI.mk x.fst.toNat x.snd (fun (m : Nat) => L9 g m) pn pc fun (e : Nat) => p e).W pn e)
    (V.need (1 ≤ 1)
    (V.need ((↑len : Int).toNat ≤ len ∧ (↑len : Int).toNat ≤ len)
    (V.need (∀ (i e : Nat), i = 0 ∧ e < (↑len : Int).toNat → (miOf g len p pn pc).W x_1.toNat e = (miOf g len p pn pc).W x_1.toNat e)
    (V.need (x.fst.toNat ≤ 1000000)
    (V.br (!(R1.mk x.fst.toNat x.fst.toNat fun (e : Nat) => (MI.mk x.fst.toNat x.snd (fun (m : Nat) => L9 g m) pn pc fun (e : Nat) => p e).W pn e).eqB (R1.mk (↑len : Int).toNat (↑len : Int).toNat fun (e : Nat) => (miOf g len p pn pc).W x_1.toNat e))
    (V.bad 420)
    (V.need (Int.ofNat 0 ≤ Int.ofNat 0 ∧ Int.ofNat 0 ≤ (↑len : Int))
    (V.need (Int.ofNat 0 = Int.ofNat 0)
    (V.any Int (fun (x : Int) => Int.ofNat 0 ≤ x ∧ x ≤ (↑len : Int)) fun (x_3 : Int) => V.br (decide (x_3 < (↑(↑len : Int).toNat : Int)))
    (V.need (0 < 1 ∧ 0 < 1)
    (V.need (0 < 1 ∧ 0 < 1)
    (V.need (0 < 1 ∧ 0 < 1)
    (V.br (decide (x_3 < Int.ofNat 0))
    (V.need (Int.ofNat 0 ≤ x_3 ∧ x_3 < (↑(↑len : Int).toNat : Int))
    (V.need (0 < 1 ∧ 0 + x_3.toNat < len)
    (V.need (0 < 1 ∧ 0 + x_3.toNat < len)
    (V.need (Int.ofNat 0 ≤ x_3 ∧ x_3 < (↑len : Int))
    (V.need (0 < 1 ∧ 0 + x_3.toNat < len)
    (V.need (0 < 1 ∧ 0 + x_3.toNat < len)
    (V.need (Int.ofNat 9 ≠ Int.ofNat 0)
    (V.br (Int.ofNat 0 != IntKind.u64.wrap (min ((miOf g len p pn pc).W x_1.toNat (0 + x_3.toNat)) (IntKind.i64.wrap ((g (0 + x_3.toNat)).tmod (Int.ofNat 9)))))
    (V.bad 420)
    (V.need (Int.ofNat 0 ≤ IntKind.i64.wrap (x_3 + Int.ofNat 1) ∧ IntKind.i64.wrap (x_3 + Int.ofNat 1) ≤ (↑len : Int))
    (V.need (len - (IntKind.i64.wrap (x_3 + Int.ofNat 1)).toNat < len - x_3.toNat)
    (V.need (IntKind.i64.wrap (x_3 + Int.ofNat 1) = IntKind.i64.wrap (x_3 + Int.ofNat 1)) V.ok)))))))))))
    (V.need (0 < 1 ∧ 0 < 1)
    (V.need (0 < 1 ∧ 0 < 1)
    (V.need (0 < 1 ∧ 0 < 1)
    (V.br (decide (x_3 ≥ (↑x.fst.toNat : Int)))
    (V.need (Int.ofNat 0 ≤ x_3 ∧ x_3 < (↑(↑len : Int).toNat : Int))
    (V.need (0 < 1 ∧ 0 + x_3.toNat < len)
    (V.need (0 < 1 ∧ 0 + x_3.toNat < len)
    (V.need (Int.ofNat 0 ≤ x_3 ∧ x_3 < (↑len : Int))
    (V.need (0 < 1 ∧ 0 + x_3.toNat < len)
    (V.need (0 < 1 ∧ 0 + x_3.toNat < len)
    (V.need (Int.ofNat 9 ≠ Int.ofNat 0)
    (V.br (Int.ofNat 0 != IntKind.u64.wrap (min ((miOf g len p pn pc).W x_1.toNat (0 + x_3.toNat)) (IntKind.i64.wrap ((g (0 + x_3.toNat)).tmod (Int.ofNat 9)))))
    (V.bad 420)
    (V.need (Int.ofNat 0 ≤ IntKind.i64.wrap (x_3 + Int.ofNat 1) ∧ IntKind.i64.wrap (x_3 + Int.ofNat 1) ≤ (↑len : Int))
    (V.need (len - (IntKind.i64.wrap (x_3 + Int.ofNat 1)).toNat < len - x_3.toNat)
    (V.need (IntKind.i64.wrap (x_3 + Int.ofNat 1) = IntKind.i64.wrap (x_3 + Int.ofNat 1)) V.ok)))))))))))
    (V.need (0 < 1 ∧ 0 < 1)
    (V.need (0 < 1 ∧ 0 < 1)
    (V.need (0 < 1 ∧ 0 < 1)
    (V.need (Int.ofNat 0 ≤ x_3 ∧ x_3 < (↑x.fst.toNat : Int))
    (V.need (0 < 1 ∧ 0 + x_3.toNat < x.fst.toNat)
    (V.need (0 < 1 ∧ 0 + x_3.toNat < x.fst.toNat)
    (V.need (Int.ofNat 0 ≤ x_3 ∧ x_3 < (↑(↑len : Int).toNat : Int))
    (V.need (0 < 1 ∧ 0 + x_3.toNat < len)
    (V.need (0 < 1 ∧ 0 + x_3.toNat < len)
    (V.need (Int.ofNat 0 ≤ x_3 ∧ x_3 < (↑len : Int))
    (V.need (0 < 1 ∧ 0 + x_3.toNat < len)
    (V.need (0 < 1 ∧ 0 + x_3.toNat < len)
    (V.need (Int.ofNat 9 ≠ Int.ofNat 0)
    (V.br (min ((MI.mk x.fst.toNat x.snd (fun (m : Nat) => L9 g m) pn pc fun (e : Nat) => p e).W pn (0 + x_3.toNat)) (L9 g (0 + x_3.toNat)) != IntKind.u64.wrap (min ((miOf g len p pn pc).W x_1.toNat (0 + x_3.toNat)) (IntKind.i64.wrap ((g (0 + x_3.toNat)).tmod (Int.ofNat 9)))))
    (V.bad 420)
    (V.need (Int.ofNat 0 ≤ IntKind.i64.wrap (x_3 + Int.ofNat 1) ∧ IntKind.i64.wrap (x_3 + Int.ofNat 1) ≤ (↑len : Int))
    (V.need (len - (IntKind.i64.wrap (x_3 + Int.ofNat 1)).toNat < len - x_3.toNat)
    (V.need (IntKind.i64.wrap (x_3 + Int.ofNat 1) = IntKind.i64.wrap (x_3 + Int.ofNat 1)) V.ok))))))))))))))))))))))))) V.ok)))))))))))))))))))))))))))))))))))))))))))))))))))))))))))))))))) := by kernel_rfl


end Go.Proofs.Ytjpnpaboahbncaa.Vc

/- MachineInterleaves: the conditions hold; the walk. -/
set_option linter.unusedVariables false
set_option linter.unusedSimpArgs false
set_option maxRecDepth 100000
namespace Go.Proofs.Ytjpnpaboahbncaa.Vc
open Go Go.RowKit Sx Cn Dc Ck
section
variable {g : Nat → Int} {len : Nat} {p : Nat → Int} {pn pc : Nat}
theorem wL (m : Nat) : IntKind.i64.wrap ((g m).tmod 9) = L9 g m := by
  have := tmod_bd' (g m) (b := 9) (by decide)
  exact w64 (by omega)
theorem L9_bd (hu : ∀ e, e < len → 0 ≤ g e ∧ g e ≤ 255) (m : Nat) (h : m < len) : 0 ≤ L9 g m ∧ L9 g m ≤ 8 := by
  have := tmod_bd' (g m) (b := 9) (by decide)
  have h2 := Int.tmod_nonneg 9 (hu m h).1
  unfold L9
  omega
theorem W_cx (c c' : Nat) (L : Nat → Int) : ∀ i m, (MI.mk len c L pn pc p).W i m = (MI.mk len c' L pn pc p).W i m
  | 0, m => rfl
  | i + 1, m => by rw [MI.W, MI.W, W_cx c c' L i m]
theorem W_to {c t : Nat} (h : ¬ (t : Int) < pn) (h2 : (t : Int) ≤ pn) (e : Nat) : (MI.mk len c (fun m => L9 g m) pn pc fun e => p e).W pn e = (miOf g len p pn pc).W t e := by
  obtain rfl : t = pn := by omega
  exact W_cx c len (L9 g) t e
theorem eq_to {c t : Nat} (h : len = 0 ∨ ¬ (t : Int) < pn ∧ (t : Int) ≤ pn) : (R1.mk len len fun e => (MI.mk len c (fun m => L9 g m) pn pc fun e => p e).W pn e).eqB (R1.mk len len fun e => (miOf g len p pn pc).W t e) = true :=
  (n1_t (r := R1.mk len len fun e => (MI.mk len c (fun m => L9 g m) pn pc fun e => p e).W pn e) (s := R1.mk len len fun e => (miOf g len p pn pc).W t e) ⟨rfl, fun e he => by
    rcases h with h | ⟨h, h2⟩
    · exact absurd he (by simp only; omega)
    · exact W_to h h2 e⟩).symm
theorem fin_to (hu : ∀ e, e < len → 0 ≤ g e ∧ g e ≤ 255) {c t q : Nat} (hq : q < len) (h : len = 0 ∨ ¬ (t : Int) < pn ∧ (t : Int) ≤ pn) : min ((MI.mk len c (fun m => L9 g m) pn pc fun e => p e).W pn q) (L9 g q) = IntKind.u64.wrap (min ((miOf g len p pn pc).W t q) (L9 g q)) := by
  have h1 := L9_bd hu q hq
  have h2 := (miOf g len p pn pc).W_pos t q
  rw [wu64 (by omega), W_to (t := t) (by omega) (by omega) q]
theorem pre_to (hu : ∀ e, e < len → 0 ≤ g e ∧ g e ≤ 255) {c : Nat} (hn : len ≤ 20) (hp : pn ≤ 400) : (MI.mk len c (fun m => L9 g m) pn pc fun e => p e).pre := ⟨hn, hp, fun e he => L9_bd hu e he⟩
end
set_option maxHeartbeats 8000000 in
theorem vhInters (g : Nat → Int) (len cap : Nat) (p : Nat → Int) (pn pc : Nat) (hu : ∀ e, e < len → 0 ≤ g e ∧ g e ≤ 255) : VHolds (verInters g len cap p pn pc 1237940039285380274899124230) := by
  constructor
  rw [verInters_eq]
  have hW0 : ∀ e, (miOf g len p pn pc).W 0 e = 0 := fun e => rfl
  simp only [V.holds, Int.ofNat_eq_natCast, decide_eq_true_eq, decide_eq_false_iff_not, Bool.not_eq_true', Bool.not_eq_false', bne_iff_ne, bne_eq_false_iff_eq, beq_iff_eq, beq_eq_false_iff_ne, ne_eq, true_and, and_true, forall_const, true_implies, implies_true, Nat.zero_add, Nat.sub_zero, Nat.lt_add_one, Nat.zero_lt_one, Int.natCast_zero, Int.natCast_one, Int.cast_ofNat_Int, gt_iff_lt, ge_iff_le, and_self, eq_self, Nat.le_refl, not_true_eq_false, false_implies, Int.toNat_natCast, Int.toNat_zero, if_true, true_or, hW0, Bool.false_eq_true, wL, MI.live, Nat.not_lt_zero, if_false, List.length_singleton]
  repeat' first
    | exact True.intro
    | with_reducible apply And.intro
    | (intro (x : Int × Nat); obtain ⟨x1, c1⟩ := x; intro hx; obtain ⟨h1, h2, h2'⟩ := hx; obtain ⟨i, rfl⟩ := Int.eq_ofNat_of_zero_le h1; simp only [Int.toNat_natCast])
    | (intro (hi : (i : Int) < (len : Int))
       have e1 : IntKind.i64.wrap ((i : Int) + 1) = (i : Int) + 1 := w64 (by omega)
       have e2 : ((i : Int) + 1).toNat = i + 1 := by omega
       simp only [e1, e2])
    | (intro (hi : ¬ (i : Int) < (len : Int))
       have hil : i = len := by omega
       simp only [hil])
    | (intro (x : Int) (hx : 0 ≤ x ∧ x ≤ (pn : Int) ∧ (len = 0 → x = 0)); obtain ⟨h3, h4, h5⟩ := hx; obtain ⟨t, rfl⟩ := Int.eq_ofNat_of_zero_le h3; simp only [Int.toNat_natCast])
    | (intro (x : Int) (hx : 0 ≤ x ∧ x ≤ (len : Int)); obtain ⟨h6, h7⟩ := hx; obtain ⟨q, rfl⟩ := Int.eq_ofNat_of_zero_le h6; simp only [Int.toNat_natCast])
    | (intro (ht : (t : Int) < (pn : Int))
       have e1 : IntKind.i64.wrap ((t : Int) + 1) = (t : Int) + 1 := w64 (by omega)
       have e2 : ((t : Int) + 1).toNat = t + 1 := by omega
       simp only [e1, e2])
    | (intro (hq : (q : Int) < (len : Int))
       have e1 : IntKind.i64.wrap ((q : Int) + 1) = (q : Int) + 1 := w64 (by omega)
       simp only [e1])
    | (intro (hT : (p t).tmod _ < 0)
       obtain ⟨k, k1, k2, k3⟩ := dr_neg (n := len) (by omega) (by omega) hT
       have kb := L9_bd hu k k1
       have w1 := (miOf g len p pn pc).W_pos t k
       simp only [k3, Int.toNat_natCast])
    | (intro (hT : ¬ (p t).tmod _ < 0)
       obtain ⟨k, k1, k2, k3⟩ := dr_pos (n := len) (by omega) hT
       have kb := L9_bd hu k k1
       have w1 := (miOf g len p pn pc).W_pos t k
       simp only [k3, Int.toNat_natCast])
    | (intro (hd : 0 < max 1 (L9 g k) - (miOf g len p pn pc).W t k)
       have hs := (miOf g len p pn pc).step (i := t) (k := k) k2 (show ¬ max 1 (L9 g k) ≤ (miOf g len p pn pc).W t k by omega)
       have e4 : IntKind.i64.wrap ((miOf g len p pn pc).W t k + 1) = (miOf g len p pn pc).W t k + 1 := w64 (by omega)
       have e5 : IntKind.i64.wrap (max 1 (L9 g k) - (miOf g len p pn pc).W t k - 1) = max 1 (L9 g k) - (miOf g len p pn pc).W t k - 1 := w64 (by omega)
       simp only [hs, e4, e5])
    | (intro (hd : ¬ 0 < max 1 (L9 g k) - (miOf g len p pn pc).W t k)
       have hs := (miOf g len p pn pc).stay (i := t) (k := k) k2 (show max 1 (L9 g k) ≤ (miOf g len p pn pc).W t k by omega)
       simp only [hs])
    | intro _
  all_goals first
    | contradiction
    | omega
    | rfl
    | exact ⟨0, trivial⟩
    | exact pre_to hu (by omega) (by omega)
    | (exfalso; rename_i h; exact Bool.noConfusion (h.symm.trans (eq_to (by omega))))
    | (exfalso; rename_i h; exact h (fin_to hu (by omega) (by omega)))
    | (rename_i e he
       by_cases h' : e = k <;> simp only [h', if_true, if_false] <;> first | rfl | omega)
    | (rename_i e he
       by_cases h' : e = i
       · subst h'; simp only [if_true, Nat.lt_add_one]
       · simp only [h', if_false]; by_cases h'' : e < i
         · simp only [h'', if_true, show e < i + 1 by omega]
         · simp only [h'', if_false, show ¬ e < i + 1 by omega])
    | (rename_i m e he
       split at he
       · obtain rfl : e = 0 := by omega
         by_cases h' : m = i
         · subst h'; simp only [if_true]; rfl
         · simp only [h', if_false]
       · omega)
    | (rename_i m; left; by_cases h' : m = i
       · subst h'; simp only [if_true, Nat.lt_add_one]
       · by_cases h'' : m < i
         · simp only [h', h'', if_true, if_false, show m < i + 1 by omega]
         · simp only [h', h'', if_false, show ¬ m < i + 1 by omega])
    | (split <;> (try split) <;> (try split) <;> omega)
theorem walkInters (a : Option Addr) (len cap : Nat) (g : Nat → Int) (b : Option Addr) (pn pc : Nat) (p : Nat → Int) (w : World) (h : IsInts .u8 w a len cap g) (h' : IsInts .i64 w b pn pc p) :
    Calls P 6 #[.slice a len cap, .slice b pn pc] w fun e w' => e = .returned (.bool true) ∧ Below w.heap.size w w' := by
  have le : ∀ k, k ≤ 1 → Hp.sc ⟨[(0, ints .u8 len g), (1, ints .i64 pn p)], 2, fun _ => True⟩ k := fun k hk => ⟨Nat.lt_succ_of_le hk, trivial⟩
  refine calls_yesV (vs := [.slice a len cap, .slice b pn pc]) conN8_ok (ρ := fun k i => if k = 0 ∧ i = 0 then addr0 a else if k = 1 ∧ i = 0 then addr0 b else none) (vhInters g len cap p pn pc fun e he => wf_u8 (h.fits e he)) (views_inv fun k b' hk => ?_) ⟨h.val (by simp) (le 0 (by decide)), h'.val (by simp) (le 1 (by decide)), trivial⟩
  rw [find_cons] at hk
  split at hk
  · rename_i e; subst e
    cases hk
    exact ⟨rfl, by decide, h.sat (by simp)⟩
  · rw [find_cons] at hk
    split at hk
    · rename_i e; subst e
      cases hk
      exact ⟨rfl, by decide, h'.sat (by simp)⟩
    · cases hk
end Go.Proofs.Ytjpnpaboahbncaa.Vc
