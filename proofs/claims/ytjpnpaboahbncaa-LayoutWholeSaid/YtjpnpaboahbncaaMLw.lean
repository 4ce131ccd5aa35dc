/- LayoutWhole: what is said of its loops. -/
import Derived.Test.YtjpnpaboahbncaaMLy
set_option linter.unusedVariables false
namespace Go.Proofs.Ytjpnpaboahbncaa.Lw
open Go Go.RowKit Sx Cn Dc Ck Ly
noncomputable section
/-- The six numbers of a configuration that a layout depends on. -/
structure Lq where
  W : Nat
  L : Nat
  C : Nat
  T : Nat
  D : Nat
  H : Nat
variable (q : Lq)
def Lq.X : Nat := 2 + q.D
def Lq.M : Nat := q.L * q.X
def Lq.base : Nat := 4 + q.H + q.C
def Lq.tab : Nat := q.base + q.W * (2 + q.M)
def Lq.n : Nat := q.tab + 5 * q.T
/-- Entry e of the list of all cells. -/
def cellA (e : Nat) : Nat := if e < q.base then e else if e < q.tab then
    (if (e - q.base) % (2 + q.M) = 0 then q.base + (e - q.base) / (2 + q.M) else if (e - q.base) % (2 + q.M) = 1 then q.base + q.W + (e - q.base) / (2 + q.M) else q.base + q.W + q.W + (e - q.base) / (2 + q.M) * q.M + ((e - q.base) % (2 + q.M) - 2))
  else e
def cfgQ : Blk := .own 29 11 [ivc q.W, ivc q.L, ivc q.C, ivc q.T, ivc q.D, ivc q.H, none, none, none, none, none]
def layQ : Blk := .own 31 11 [ivc q.W, ivc q.L, ivc q.C, ivc q.T, ivc q.D, ivc q.H, ivc (loS q.H), ivc (loE q.H q.C), ivc (loB q.H q.C q.W), ivc (loQ q.H q.C q.W), ivc (loT q.H q.C q.W q.L q.D)]
def hW (seen : Nat → Int) (cnt cap : Nat) : HL := [(1, cfgQ q), (2, layQ q), (3, .row 3 q.n q.n [.ci .i64 fun _ e => seen e]), (4, .row 3 cap cnt [.ci .i64 fun _ e => (cellA q e : Int)])]
def tW (cnt cap : Nat) : List (Nat × SV) := [(3, pK 1 11), (4, pK 2 11), (6, iv (q.n : Int)), (7, .c (slK 3 1 q.n q.n)), (8, .c (slK 4 1 cnt cap))]
def zero (_ : Nat) : Int := 0
def Jw (vars : List (Nat × SV)) (seen : Nat → Int) (cnt cap : Nat) : St := ⟨tms 193 (vars ++ tW q cnt cap), ⟨hW q seen cnt cap, 5, fun _ => True⟩⟩
def Jw6 (vars : List (Nat × SV)) (seen : Nat → Int) (cnt cap : Nat) : St := ⟨tms 193 (vars ++ tW q cnt cap), ⟨hW q seen cnt cap, 6, fun _ => True⟩⟩
def con11 : Con := Con.add 40 con40 conAt
theorem con11_ok : ConOK P con11 := .add con40_ok conAt_ok
def loopIn3 (P : Program) (f : FuncId) (k j i : Nat) : Code := ((loopsOf (loopIn2 P f k j))[i]?).getD .skip
def patW (vars : List (Nat × SV)) (seen : Nat → Int) (cnt cap : Nat) (l : List Nat) := patOf (Jw q vars seen cnt cap) 193 l
/-- The loops, in the order of the text: slots, classes, workers, levels, rings, tasks, marks. -/
def roundH (i cap : Nat) : Out (Ex × St) := roundC P con11 (loopIn P 10 0) 3 3 1 (patW q [(9, iv i)] zero (4 + i) cap [3, 4, 6, 7, 8]) (Jw q [(9, iv i)] zero (4 + i) cap)
def roundK (i cap : Nat) : Out (Ex × St) := roundC P con11 (loopIn P 10 1) 3 3 1 (patW q [(10, iv i)] zero (4 + q.H + i) cap [3, 4, 6, 7, 8]) (Jw q [(10, iv i)] zero (4 + q.H + i) cap)
def cntW (w : Nat) : Nat := q.base + w * (2 + q.M)
def cntV (w v : Nat) : Nat := q.base + w * (2 + q.M) + 2 + v * q.X
def hR (top : Nat) : Nat × Blk := (5, .own 71 4 [ivc (top : Int), ivc ((top + 1 : Nat) : Int), ivc ((top + 2 : Nat) : Int), ivc (q.D : Int)])
def topQ (w v : Nat) : Nat := q.base + q.W + q.W + (w * q.L + v) * q.X
def Jr (w v i cap : Nat) : St := ⟨tms 193 ((11, iv w) :: (12, iv v) :: (13, pK 5 4) :: (14, iv i) :: tW q (cntV q w v + 2 + i) cap), ⟨hR q (topQ q w v) :: hW q zero (cntV q w v + 2 + i) cap, 6, fun _ => True⟩⟩
def Ir (w v i cap : Nat) : Prop := w < q.W ∧ v < q.L ∧ i ≤ q.D ∧ cntV q w v + 2 + i ≤ cap
def Ar (w v : Nat) : Out (Ex × St) := .any Nat (fun cap => cntV q w v + q.X ≤ cap) fun cap => .leaf (.exit 8, Jw6 q [(11, iv w), (12, iv v)] zero (cntV q w (v + 1)) cap)
def capS (s : St) : Option Nat := match find (tkey 8 s) s.H.h with
  | some (.row _ cap _ _) => some cap
  | _ => none
def L4 : List (St → Nat) := [tkey 3, tkey 4, tkey 7, tkey 8]
def annR (w v : Nat) : Ann := pickA capS fun cap => loopA (fun x : Nat × Nat => Jr q w v x.1 x.2) (fun x => Ir q w v x.1 x.2) 1 (0, cap) [tkey 3, tkey 4, tkey 7, tkey 8, tkey 13] (Ar q w v)
def roundR (w v i cap : Nat) : Out (Ex × St) := roundC P con11 (loopIn3 P 10 2 0 0) 3 3 1 (patOf (Jr q w v i cap) 193 [3, 4, 6, 7, 8, 11, 12]) (Jr q w v i cap)
def roundT5 (t cap : Nat) : Out (Ex × St) := roundC P con11 (loopIn P 10 3) 3 3 1 (patW q [(15, iv t)] zero (q.tab + 5 * t) cap [3, 4, 6, 7, 8]) (Jw q [(15, iv t)] zero (q.tab + 5 * t) cap)
def mark (i x : Nat) : Int := by classical exact if ∃ e, e < i ∧ cellA q e = x then 1 else 0
def roundM (i cap : Nat) : Out (Ex × St) := roundC P con11 (loopIn P 10 4) 3 3 1 (patW q [(16, iv i)] (mark q i) q.n cap [6, 8]) (Jw q [(16, iv i)] (mark q i) q.n cap)
def Jv (w v cap : Nat) : St := Jw q [(11, iv w), (12, iv v)] zero (cntV q w v) cap
def Iv (w v cap : Nat) : Prop := w < q.W ∧ v ≤ q.L ∧ cntV q w v ≤ cap
def Av (w : Nat) : Out (Ex × St) := .any Nat (fun cap => cntW q (w + 1) ≤ cap) fun cap => .leaf (.exit 6, Jw q [(11, iv w)] zero (cntW q (w + 1)) cap)
def annV (w : Nat) : Ann := pickA capS fun cap => loopA (fun x : Nat × Nat => Jv q w x.1 x.2) (fun x => Iv q w x.1 x.2) 1 (0, cap) L4 (Av q w)
def roundV (w v cap : Nat) : Out (Ex × St) := roundC P con11 (loopIn2 P 10 2 0) 3 3 1 (patOf (Jv q w v cap) 193 [3, 4, 6, 7, 8, 11]) (Jv q w v cap) [] [annR q w v]
def roundW (w cap : Nat) : Out (Ex × St) := roundC P con11 (loopIn P 10 2) 3 3 1 (patW q [(11, iv w)] zero (cntW q w) cap [3, 4, 6, 7, 8]) (Jw q [(11, iv w)] zero (cntW q w) cap) [] [annV q w]
end
end Go.Proofs.Ytjpnpaboahbncaa.Lw

/- LayoutWhole: the rounds' trees, printed by program. -/
set_option linter.unusedVariables false
set_option maxRecDepth 100000
set_option maxHeartbeats 4000000
namespace Go.Proofs.Ytjpnpaboahbncaa.Lw
open Go Go.RowKit Sx Cn Dc Ck Ly

theorem roundH_eq (q : Lq) (i cap : Nat) : roundH q i cap =
  Out.br (decide ((↑i : Int) < (↑q.H : Int)))
    (Out.need (¬((↑i : Int) < Int.ofNat 0 ∨ (↑q.H : Int) ≤ (↑i : Int)) → Fit ((↑i : Int) * Int.ofNat 1) ∧ Fit (Int.ofNat 4 + (↑i : Int) * Int.ofNat 1))
    (Out.need (0 < 1)
    (Out.need (4 + i ≤ 4 + i ∧ cap = cap)
    (Out.need (4 + i + 1 ≤ 9223372036854775807 ∧ (4 + i + 1) * 8 ≤ 140737488355328)
    (Out.ge (4 + i + 1) fun x => Out.leaf (Ex.normal, { tmps := tms 193 [(3, (SV.c (SC.ptr 1 (NV.k 0) (NV.k 0) 0 11))), (4, (SV.c (SC.ptr 2 (NV.k 0) (NV.k 0) 0 11))), (6, (SV.c (SC.iv IntKind.i64 (↑q.n : Int)))), (7, (SV.c (SC.slc 3 (NV.k 0) (NV.k 0) 1 (NV.s q.n) (NV.s q.n)))), (8, (SV.c (SC.slc 7 (NV.k 0) (NV.k 0) 1 (NV.s (4 + i + 1)) (NV.s x)))), (9, (SV.c (SC.iv IntKind.i64 (IntKind.i64.wrap ((↑i : Int) + Int.ofNat 1)))))], H := { h := [(7, Blk.row 3 x (4 + i + 1) [Col.ci IntKind.i64 fun i' j => if i' = 0 ∧ j = 4 + i then atF (↑i : Int) (↑q.H : Int) (Int.ofNat 4) (Int.ofNat 1) else (↑(cellA q j) : Int)]), (1, Blk.own 29 11 [some (SC.iv IntKind.i64 (↑q.W : Int)), some (SC.iv IntKind.i64 (↑q.L : Int)), some (SC.iv IntKind.i64 (↑q.C : Int)), some (SC.iv IntKind.i64 (↑q.T : Int)), some (SC.iv IntKind.i64 (↑q.D : Int)), some (SC.iv IntKind.i64 (↑q.H : Int)), none, none, none, none, none]), (2, Blk.own 31 11 [some (SC.iv IntKind.i64 (↑q.W : Int)), some (SC.iv IntKind.i64 (↑q.L : Int)), some (SC.iv IntKind.i64 (↑q.C : Int)), some (SC.iv IntKind.i64 (↑q.T : Int)), some (SC.iv IntKind.i64 (↑q.D : Int)), some (SC.iv IntKind.i64 (↑q.H : Int)), some (SC.iv IntKind.i64 (loS (↑q.H : Int))), some (SC.iv IntKind.i64 (loE (↑q.H : Int) (↑q.C : Int))), some (SC.iv IntKind.i64 (loB (↑q.H : Int) (↑q.C : Int) (↑q.W : Int))), some (SC.iv IntKind.i64 (loQ (↑q.H : Int) (↑q.C : Int) (↑q.W : Int))), some (SC.iv IntKind.i64 (loT (↑q.H : Int) (↑q.C : Int) (↑q.W : Int) (↑q.L : Int) (↑q.D : Int)))]), (3, Blk.row 3 q.n q.n [Col.ci IntKind.i64 fun x e => 0])], nxt := 8, D := fun x => True } }))))))
    (Out.leaf (Ex.exit 0, { tmps := tms 193 [(3, (SV.c (SC.ptr 1 (NV.k 0) (NV.k 0) 0 11))), (4, (SV.c (SC.ptr 2 (NV.k 0) (NV.k 0) 0 11))), (6, (SV.c (SC.iv IntKind.i64 (↑q.n : Int)))), (7, (SV.c (SC.slc 3 (NV.k 0) (NV.k 0) 1 (NV.s q.n) (NV.s q.n)))), (8, (SV.c (SC.slc 4 (NV.k 0) (NV.k 0) 1 (NV.s (4 + i)) (NV.s cap))))], H := { h := [(1, Blk.own 29 11 [some (SC.iv IntKind.i64 (↑q.W : Int)), some (SC.iv IntKind.i64 (↑q.L : Int)), some (SC.iv IntKind.i64 (↑q.C : Int)), some (SC.iv IntKind.i64 (↑q.T : Int)), some (SC.iv IntKind.i64 (↑q.D : Int)), some (SC.iv IntKind.i64 (↑q.H : Int)), none, none, none, none, none]), (2, Blk.own 31 11 [some (SC.iv IntKind.i64 (↑q.W : Int)), some (SC.iv IntKind.i64 (↑q.L : Int)), some (SC.iv IntKind.i64 (↑q.C : Int)), some (SC.iv IntKind.i64 (↑q.T : Int)), some (SC.iv IntKind.i64 (↑q.D : Int)), some (SC.iv IntKind.i64 (↑q.H : Int)), some (SC.iv IntKind.i64 (loS (↑q.H : Int))), some (SC.iv IntKind.i64 (loE (↑q.H : Int) (↑q.C : Int))), some (SC.iv IntKind.i64 (loB (↑q.H : Int) (↑q.C : Int) (↑q.W : Int))), some (SC.iv IntKind.i64 (loQ (↑q.H : Int) (↑q.C : Int) (↑q.W : Int))), some (SC.iv IntKind.i64 (loT (↑q.H : Int) (↑q.C : Int) (↑q.W : Int) (↑q.L : Int) (↑q.D : Int)))]), (3, Blk.row 3 q.n q.n [Col.ci IntKind.i64 fun x e => 0]), (4, Blk.row 3 cap (4 + i) [Col.ci IntKind.i64 fun x e => (↑(cellA q e) : Int)])], nxt := 5, D := fun x => True } })) := by kernel_rfl

theorem roundK_eq (q : Lq) (i cap : Nat) : roundK q i cap =
  Out.br (decide ((↑i : Int) < (↑q.C : Int)))
    (Out.need (¬((↑i : Int) < Int.ofNat 0 ∨ (↑q.C : Int) ≤ (↑i : Int)) → Fit ((↑i : Int) * Int.ofNat 1) ∧ Fit (loS (↑q.H : Int) + (↑i : Int) * Int.ofNat 1))
    (Out.need (0 < 1)
    (Out.need (4 + q.H + i ≤ 4 + q.H + i ∧ cap = cap)
    (Out.need (4 + q.H + i + 1 ≤ 9223372036854775807 ∧ (4 + q.H + i + 1) * 8 ≤ 140737488355328)
    (Out.ge (4 + q.H + i + 1) fun x => Out.leaf (Ex.normal, { tmps := tms 193 [(3, (SV.c (SC.ptr 1 (NV.k 0) (NV.k 0) 0 11))), (4, (SV.c (SC.ptr 2 (NV.k 0) (NV.k 0) 0 11))), (6, (SV.c (SC.iv IntKind.i64 (↑q.n : Int)))), (7, (SV.c (SC.slc 3 (NV.k 0) (NV.k 0) 1 (NV.s q.n) (NV.s q.n)))), (8, (SV.c (SC.slc 7 (NV.k 0) (NV.k 0) 1 (NV.s (4 + q.H + i + 1)) (NV.s x)))), (10, (SV.c (SC.iv IntKind.i64 (IntKind.i64.wrap ((↑i : Int) + Int.ofNat 1)))))], H := { h := [(7, Blk.row 3 x (4 + q.H + i + 1) [Col.ci IntKind.i64 fun i' j => if i' = 0 ∧ j = 4 + q.H + i then atF (↑i : Int) (↑q.C : Int) (loS (↑q.H : Int)) (Int.ofNat 1) else (↑(cellA q j) : Int)]), (1, Blk.own 29 11 [some (SC.iv IntKind.i64 (↑q.W : Int)), some (SC.iv IntKind.i64 (↑q.L : Int)), some (SC.iv IntKind.i64 (↑q.C : Int)), some (SC.iv IntKind.i64 (↑q.T : Int)), some (SC.iv IntKind.i64 (↑q.D : Int)), some (SC.iv IntKind.i64 (↑q.H : Int)), none, none, none, none, none]), (2, Blk.own 31 11 [some (SC.iv IntKind.i64 (↑q.W : Int)), some (SC.iv IntKind.i64 (↑q.L : Int)), some (SC.iv IntKind.i64 (↑q.C : Int)), some (SC.iv IntKind.i64 (↑q.T : Int)), some (SC.iv IntKind.i64 (↑q.D : Int)), some (SC.iv IntKind.i64 (↑q.H : Int)), some (SC.iv IntKind.i64 (loS (↑q.H : Int))), some (SC.iv IntKind.i64 (loE (↑q.H : Int) (↑q.C : Int))), some (SC.iv IntKind.i64 (loB (↑q.H : Int) (↑q.C : Int) (↑q.W : Int))), some (SC.iv IntKind.i64 (loQ (↑q.H : Int) (↑q.C : Int) (↑q.W : Int))), some (SC.iv IntKind.i64 (loT (↑q.H : Int) (↑q.C : Int) (↑q.W : Int) (↑q.L : Int) (↑q.D : Int)))]), (3, Blk.row 3 q.n q.n [Col.ci IntKind.i64 fun x e => 0])], nxt := 8, D := fun x => True } }))))))
    (Out.leaf (Ex.exit 2, { tmps := tms 193 [(3, (SV.c (SC.ptr 1 (NV.k 0) (NV.k 0) 0 11))), (4, (SV.c (SC.ptr 2 (NV.k 0) (NV.k 0) 0 11))), (6, (SV.c (SC.iv IntKind.i64 (↑q.n : Int)))), (7, (SV.c (SC.slc 3 (NV.k 0) (NV.k 0) 1 (NV.s q.n) (NV.s q.n)))), (8, (SV.c (SC.slc 4 (NV.k 0) (NV.k 0) 1 (NV.s (4 + q.H + i)) (NV.s cap))))], H := { h := [(1, Blk.own 29 11 [some (SC.iv IntKind.i64 (↑q.W : Int)), some (SC.iv IntKind.i64 (↑q.L : Int)), some (SC.iv IntKind.i64 (↑q.C : Int)), some (SC.iv IntKind.i64 (↑q.T : Int)), some (SC.iv IntKind.i64 (↑q.D : Int)), some (SC.iv IntKind.i64 (↑q.H : Int)), none, none, none, none, none]), (2, Blk.own 31 11 [some (SC.iv IntKind.i64 (↑q.W : Int)), some (SC.iv IntKind.i64 (↑q.L : Int)), some (SC.iv IntKind.i64 (↑q.C : Int)), some (SC.iv IntKind.i64 (↑q.T : Int)), some (SC.iv IntKind.i64 (↑q.D : Int)), some (SC.iv IntKind.i64 (↑q.H : Int)), some (SC.iv IntKind.i64 (loS (↑q.H : Int))), some (SC.iv IntKind.i64 (loE (↑q.H : Int) (↑q.C : Int))), some (SC.iv IntKind.i64 (loB (↑q.H : Int) (↑q.C : Int) (↑q.W : Int))), some (SC.iv IntKind.i64 (loQ (↑q.H : Int) (↑q.C : Int) (↑q.W : Int))), some (SC.iv IntKind.i64 (loT (↑q.H : Int) (↑q.C : Int) (↑q.W : Int) (↑q.L : Int) (↑q.D : Int)))]), (3, Blk.row 3 q.n q.n [Col.ci IntKind.i64 fun x e => 0]), (4, Blk.row 3 cap (4 + q.H + i) [Col.ci IntKind.i64 fun x e => (↑(cellA q e) : Int)])], nxt := 5, D := fun x => True } })) := by kernel_rfl

theorem roundR_eq (q : Lq) (w v i cap : Nat) : roundR q w v i cap =
  Out.br (decide ((↑i : Int) < (↑q.D : Int)))
    (Out.br (decide ((↑i : Int) < (↑q.D : Int)))
    (Out.need (0 < 1)
    (Out.need (cntV q w v + 2 + i ≤ cntV q w v + 2 + i ∧ cap = cap)
    (Out.need (cntV q w v + 2 + i + 1 ≤ 9223372036854775807 ∧ (cntV q w v + 2 + i + 1) * 8 ≤ 140737488355328)
    (Out.ge (cntV q w v + 2 + i + 1) fun x => Out.leaf (Ex.normal, { tmps := tms 193 [(3, (SV.c (SC.ptr 1 (NV.k 0) (NV.k 0) 0 11))), (4, (SV.c (SC.ptr 2 (NV.k 0) (NV.k 0) 0 11))), (6, (SV.c (SC.iv IntKind.i64 (↑q.n : Int)))), (7, (SV.c (SC.slc 3 (NV.k 0) (NV.k 0) 1 (NV.s q.n) (NV.s q.n)))), (8, (SV.c (SC.slc 7 (NV.k 0) (NV.k 0) 1 (NV.s (cntV q w v + 2 + i + 1)) (NV.s x)))), (11, (SV.c (SC.iv IntKind.i64 (↑w : Int)))), (12, (SV.c (SC.iv IntKind.i64 (↑v : Int)))), (13, (SV.c (SC.ptr 5 (NV.k 0) (NV.k 0) 0 4))), (14, (SV.c (SC.iv IntKind.i64 (IntKind.i64.wrap ((↑i : Int) + Int.ofNat 1)))))], H := { h := [(7, Blk.row 3 x (cntV q w v + 2 + i + 1) [Col.ci IntKind.i64 fun i' j => if i' = 0 ∧ j = cntV q w v + 2 + i then IntKind.i64.wrap ((↑(topQ q w v + 2) : Int) + (↑i : Int)) else (↑(cellA q j) : Int)]), (5, Blk.own 71 4 [some (SC.iv IntKind.i64 (↑(topQ q w v) : Int)), some (SC.iv IntKind.i64 (↑(topQ q w v + 1) : Int)), some (SC.iv IntKind.i64 (↑(topQ q w v + 2) : Int)), some (SC.iv IntKind.i64 (↑q.D : Int))]), (1, Blk.own 29 11 [some (SC.iv IntKind.i64 (↑q.W : Int)), some (SC.iv IntKind.i64 (↑q.L : Int)), some (SC.iv IntKind.i64 (↑q.C : Int)), some (SC.iv IntKind.i64 (↑q.T : Int)), some (SC.iv IntKind.i64 (↑q.D : Int)), some (SC.iv IntKind.i64 (↑q.H : Int)), none, none, none, none, none]), (2, Blk.own 31 11 [some (SC.iv IntKind.i64 (↑q.W : Int)), some (SC.iv IntKind.i64 (↑q.L : Int)), some (SC.iv IntKind.i64 (↑q.C : Int)), some (SC.iv IntKind.i64 (↑q.T : Int)), some (SC.iv IntKind.i64 (↑q.D : Int)), some (SC.iv IntKind.i64 (↑q.H : Int)), some (SC.iv IntKind.i64 (loS (↑q.H : Int))), some (SC.iv IntKind.i64 (loE (↑q.H : Int) (↑q.C : Int))), some (SC.iv IntKind.i64 (loB (↑q.H : Int) (↑q.C : Int) (↑q.W : Int))), some (SC.iv IntKind.i64 (loQ (↑q.H : Int) (↑q.C : Int) (↑q.W : Int))), some (SC.iv IntKind.i64 (loT (↑q.H : Int) (↑q.C : Int) (↑q.W : Int) (↑q.L : Int) (↑q.D : Int)))]), (3, Blk.row 3 q.n q.n [Col.ci IntKind.i64 fun x e => 0])], nxt := 8, D := fun x => True } })))))
    (Out.leaf (Ex.exit 8, { tmps := tms 193 [(3, (SV.c (SC.ptr 1 (NV.k 0) (NV.k 0) 0 11))), (4, (SV.c (SC.ptr 2 (NV.k 0) (NV.k 0) 0 11))), (6, (SV.c (SC.iv IntKind.i64 (↑q.n : Int)))), (7, (SV.c (SC.slc 3 (NV.k 0) (NV.k 0) 1 (NV.s q.n) (NV.s q.n)))), (8, (SV.c (SC.slc 4 (NV.k 0) (NV.k 0) 1 (NV.s (cntV q w v + 2 + i)) (NV.s cap)))), (11, (SV.c (SC.iv IntKind.i64 (↑w : Int)))), (12, (SV.c (SC.iv IntKind.i64 (↑v : Int))))], H := { h := [(1, Blk.own 29 11 [some (SC.iv IntKind.i64 (↑q.W : Int)), some (SC.iv IntKind.i64 (↑q.L : Int)), some (SC.iv IntKind.i64 (↑q.C : Int)), some (SC.iv IntKind.i64 (↑q.T : Int)), some (SC.iv IntKind.i64 (↑q.D : Int)), some (SC.iv IntKind.i64 (↑q.H : Int)), none, none, none, none, none]), (2, Blk.own 31 11 [some (SC.iv IntKind.i64 (↑q.W : Int)), some (SC.iv IntKind.i64 (↑q.L : Int)), some (SC.iv IntKind.i64 (↑q.C : Int)), some (SC.iv IntKind.i64 (↑q.T : Int)), some (SC.iv IntKind.i64 (↑q.D : Int)), some (SC.iv IntKind.i64 (↑q.H : Int)), some (SC.iv IntKind.i64 (loS (↑q.H : Int))), some (SC.iv IntKind.i64 (loE (↑q.H : Int) (↑q.C : Int))), some (SC.iv IntKind.i64 (loB (↑q.H : Int) (↑q.C : Int) (↑q.W : Int))), some (SC.iv IntKind.i64 (loQ (↑q.H : Int) (↑q.C : Int) (↑q.W : Int))), some (SC.iv IntKind.i64 (loT (↑q.H : Int) (↑q.C : Int) (↑q.W : Int) (↑q.L : Int) (↑q.D : Int)))]), (3, Blk.row 3 q.n q.n [Col.ci IntKind.i64 fun x e => 0]), (4, Blk.row 3 cap (cntV q w v + 2 + i) [Col.ci IntKind.i64 fun x e => (↑(cellA q e) : Int)])], nxt := 6, D := fun x => True } })))
    (Out.leaf (Ex.exit 8, { tmps := tms 193 [(3, (SV.c (SC.ptr 1 (NV.k 0) (NV.k 0) 0 11))), (4, (SV.c (SC.ptr 2 (NV.k 0) (NV.k 0) 0 11))), (6, (SV.c (SC.iv IntKind.i64 (↑q.n : Int)))), (7, (SV.c (SC.slc 3 (NV.k 0) (NV.k 0) 1 (NV.s q.n) (NV.s q.n)))), (8, (SV.c (SC.slc 4 (NV.k 0) (NV.k 0) 1 (NV.s (cntV q w v + 2 + i)) (NV.s cap)))), (11, (SV.c (SC.iv IntKind.i64 (↑w : Int)))), (12, (SV.c (SC.iv IntKind.i64 (↑v : Int))))], H := { h := [(1, Blk.own 29 11 [some (SC.iv IntKind.i64 (↑q.W : Int)), some (SC.iv IntKind.i64 (↑q.L : Int)), some (SC.iv IntKind.i64 (↑q.C : Int)), some (SC.iv IntKind.i64 (↑q.T : Int)), some (SC.iv IntKind.i64 (↑q.D : Int)), some (SC.iv IntKind.i64 (↑q.H : Int)), none, none, none, none, none]), (2, Blk.own 31 11 [some (SC.iv IntKind.i64 (↑q.W : Int)), some (SC.iv IntKind.i64 (↑q.L : Int)), some (SC.iv IntKind.i64 (↑q.C : Int)), some (SC.iv IntKind.i64 (↑q.T : Int)), some (SC.iv IntKind.i64 (↑q.D : Int)), some (SC.iv IntKind.i64 (↑q.H : Int)), some (SC.iv IntKind.i64 (loS (↑q.H : Int))), some (SC.iv IntKind.i64 (loE (↑q.H : Int) (↑q.C : Int))), some (SC.iv IntKind.i64 (loB (↑q.H : Int) (↑q.C : Int) (↑q.W : Int))), some (SC.iv IntKind.i64 (loQ (↑q.H : Int) (↑q.C : Int) (↑q.W : Int))), some (SC.iv IntKind.i64 (loT (↑q.H : Int) (↑q.C : Int) (↑q.W : Int) (↑q.L : Int) (↑q.D : Int)))]), (3, Blk.row 3 q.n q.n [Col.ci IntKind.i64 fun x e => 0]), (4, Blk.row 3 cap (cntV q w v + 2 + i) [Col.ci IntKind.i64 fun x e => (↑(cellA q e) : Int)])], nxt := 6, D := fun x => True } })) := by kernel_rfl

theorem roundT_eq (q : Lq) (t cap : Nat) : roundT5 q t cap =
  Out.br (decide ((↑t : Int) < (↑q.T : Int)))
    (Out.need (0 < 1 ∧ 0 < 1)
    (Out.need (0 < 1 ∧ 0 < 1)
    (Out.need (0 < 1 ∧ 0 < 1)
    (Out.need (0 < 1 ∧ 0 < 1)
    (Out.need (0 < 1 ∧ 0 < 1)
    (Out.need (0 < 1 ∧ 0 < 1)
    (Out.need (0 < 1 ∧ 0 < 1)
    (Out.need (0 < 1 ∧ 0 < 1)
    (Out.need (0 < 1 ∧ 0 < 1)
    (Out.need (0 < 1 ∧ 0 < 1)
    (Out.need (0 < 1 ∧ 0 < 1)
    (Out.need (¬((↑t : Int) < Int.ofNat 0 ∨ (↑q.T : Int) ≤ (↑t : Int)) → Fit ((↑t : Int) * Int.ofNat 5) ∧ Fit (IntKind.i64.wrap (loT (↑q.H : Int) (↑q.C : Int) (↑q.W : Int) (↑q.L : Int) (↑q.D : Int) + Int.ofNat 0) + (↑t : Int) * Int.ofNat 5))
    (Out.need (0 < 1 ∧ 0 < 1)
    (Out.need (0 < 1 ∧ 0 < 1)
    (Out.need (0 < 1 ∧ 0 < 1)
    (Out.need (0 < 1 ∧ 0 < 1)
    (Out.need (0 < 1 ∧ 0 < 1)
    (Out.need (0 < 1 ∧ 0 < 1)
    (Out.need (0 < 1 ∧ 0 < 1)
    (Out.need (0 < 1 ∧ 0 < 1)
    (Out.need (0 < 1 ∧ 0 < 1)
    (Out.need (0 < 1 ∧ 0 < 1)
    (Out.need (0 < 1 ∧ 0 < 1)
    (Out.need (¬((↑t : Int) < Int.ofNat 0 ∨ (↑q.T : Int) ≤ (↑t : Int)) → Fit ((↑t : Int) * Int.ofNat 5) ∧ Fit (IntKind.i64.wrap (loT (↑q.H : Int) (↑q.C : Int) (↑q.W : Int) (↑q.L : Int) (↑q.D : Int) + Int.ofNat 1) + (↑t : Int) * Int.ofNat 5))
    (Out.need (0 < 1 ∧ 0 < 1)
    (Out.need (0 < 1 ∧ 0 < 1)
    (Out.need (0 < 1 ∧ 0 < 1)
    (Out.need (0 < 1 ∧ 0 < 1)
    (Out.need (0 < 1 ∧ 0 < 1)
    (Out.need (0 < 1 ∧ 0 < 1)
    (Out.need (0 < 1 ∧ 0 < 1)
    (Out.need (0 < 1 ∧ 0 < 1)
    (Out.need (0 < 1 ∧ 0 < 1)
    (Out.need (0 < 1 ∧ 0 < 1)
    (Out.need (0 < 1 ∧ 0 < 1)
    (Out.need (¬((↑t : Int) < Int.ofNat 0 ∨ (↑q.T : Int) ≤ (↑t : Int)) → Fit ((↑t : Int) * Int.ofNat 5) ∧ Fit (IntKind.i64.wrap (loT (↑q.H : Int) (↑q.C : Int) (↑q.W : Int) (↑q.L : Int) (↑q.D : Int) + Int.ofNat 2) + (↑t : Int) * Int.ofNat 5))
    (Out.need (0 < 1 ∧ 0 < 1)
    (Out.need (0 < 1 ∧ 0 < 1)
    (Out.need (0 < 1 ∧ 0 < 1)
    (Out.need (0 < 1 ∧ 0 < 1)
    (Out.need (0 < 1 ∧ 0 < 1)
    (Out.need (0 < 1 ∧ 0 < 1)
    (Out.need (0 < 1 ∧ 0 < 1)
    (Out.need (0 < 1 ∧ 0 < 1)
    (Out.need (0 < 1 ∧ 0 < 1)
    (Out.need (0 < 1 ∧ 0 < 1)
    (Out.need (0 < 1 ∧ 0 < 1)
    (Out.need (¬((↑t : Int) < Int.ofNat 0 ∨ (↑q.T : Int) ≤ (↑t : Int)) → Fit ((↑t : Int) * Int.ofNat 5) ∧ Fit (IntKind.i64.wrap (loT (↑q.H : Int) (↑q.C : Int) (↑q.W : Int) (↑q.L : Int) (↑q.D : Int) + Int.ofNat 3) + (↑t : Int) * Int.ofNat 5))
    (Out.need (0 < 1 ∧ 0 < 1)
    (Out.need (0 < 1 ∧ 0 < 1)
    (Out.need (0 < 1 ∧ 0 < 1)
    (Out.need (0 < 1 ∧ 0 < 1)
    (Out.need (0 < 1 ∧ 0 < 1)
    (Out.need (0 < 1 ∧ 0 < 1)
    (Out.need (0 < 1 ∧ 0 < 1)
    (Out.need (0 < 1 ∧ 0 < 1)
    (Out.need (0 < 1 ∧ 0 < 1)
    (Out.need (0 < 1 ∧ 0 < 1)
    (Out.need (0 < 1 ∧ 0 < 1)
    (Out.need (¬((↑t : Int) < Int.ofNat 0 ∨ (↑q.T : Int) ≤ (↑t : Int)) → Fit ((↑t : Int) * Int.ofNat 5) ∧ Fit (IntKind.i64.wrap (loT (↑q.H : Int) (↑q.C : Int) (↑q.W : Int) (↑q.L : Int) (↑q.D : Int) + Int.ofNat 4) + (↑t : Int) * Int.ofNat 5))
    (Out.need (0 < 1 ∧ 0 < 5)
    (Out.need (0 < 1 ∧ 1 < 5)
    (Out.need (0 < 1 ∧ 2 < 5)
    (Out.need (0 < 1 ∧ 3 < 5)
    (Out.need (0 < 1 ∧ 4 < 5)
    (Out.need (q.tab + 5 * t ≤ q.tab + 5 * t ∧ cap = cap)
    (Out.need (q.tab + 5 * t + 5 ≤ 9223372036854775807 ∧ (q.tab + 5 * t + 5) * 8 ≤ 140737488355328)
    (Out.ge (q.tab + 5 * t + 5) fun x => Out.leaf (Ex.normal, { tmps := tms 193 [(3, (SV.c (SC.ptr 1 (NV.k 0) (NV.k 0) 0 11))), (4, (SV.c (SC.ptr 2 (NV.k 0) (NV.k 0) 0 11))), (6, (SV.c (SC.iv IntKind.i64 (↑q.n : Int)))), (7, (SV.c (SC.slc 3 (NV.k 0) (NV.k 0) 1 (NV.s q.n) (NV.s q.n)))), (8, (SV.c (SC.slc 9345848836101 (NV.k 0) (NV.k 0) 1 (NV.s (q.tab + 5 * t + 5)) (NV.s x)))), (15, (SV.c (SC.iv IntKind.i64 (IntKind.i64.wrap ((↑t : Int) + Int.ofNat 1)))))], H := { h := [(9345848836101, Blk.row 3 x (q.tab + 5 * t + 5) [Col.ci IntKind.i64 fun i' j => if i' = 0 ∧ j = q.tab + 5 * t + 1 + 1 + 1 + 1 then atF (↑t : Int) (↑q.T : Int) (IntKind.i64.wrap (loT (↑q.H : Int) (↑q.C : Int) (↑q.W : Int) (↑q.L : Int) (↑q.D : Int) + Int.ofNat 4)) (Int.ofNat 5) else if i' = 0 ∧ j = q.tab + 5 * t + 1 + 1 + 1 then atF (↑t : Int) (↑q.T : Int) (IntKind.i64.wrap (loT (↑q.H : Int) (↑q.C : Int) (↑q.W : Int) (↑q.L : Int) (↑q.D : Int) + Int.ofNat 3)) (Int.ofNat 5) else if i' = 0 ∧ j = q.tab + 5 * t + 1 + 1 then atF (↑t : Int) (↑q.T : Int) (IntKind.i64.wrap (loT (↑q.H : Int) (↑q.C : Int) (↑q.W : Int) (↑q.L : Int) (↑q.D : Int) + Int.ofNat 2)) (Int.ofNat 5) else if i' = 0 ∧ j = q.tab + 5 * t + 1 then atF (↑t : Int) (↑q.T : Int) (IntKind.i64.wrap (loT (↑q.H : Int) (↑q.C : Int) (↑q.W : Int) (↑q.L : Int) (↑q.D : Int) + Int.ofNat 1)) (Int.ofNat 5) else if i' = 0 ∧ j = q.tab + 5 * t then atF (↑t : Int) (↑q.T : Int) (IntKind.i64.wrap (loT (↑q.H : Int) (↑q.C : Int) (↑q.W : Int) (↑q.L : Int) (↑q.D : Int) + Int.ofNat 0)) (Int.ofNat 5) else (↑(cellA q j) : Int)]), (1, Blk.own 29 11 [some (SC.iv IntKind.i64 (↑q.W : Int)), some (SC.iv IntKind.i64 (↑q.L : Int)), some (SC.iv IntKind.i64 (↑q.C : Int)), some (SC.iv IntKind.i64 (↑q.T : Int)), some (SC.iv IntKind.i64 (↑q.D : Int)), some (SC.iv IntKind.i64 (↑q.H : Int)), none, none, none, none, none]), (2, Blk.own 31 11 [some (SC.iv IntKind.i64 (↑q.W : Int)), some (SC.iv IntKind.i64 (↑q.L : Int)), some (SC.iv IntKind.i64 (↑q.C : Int)), some (SC.iv IntKind.i64 (↑q.T : Int)), some (SC.iv IntKind.i64 (↑q.D : Int)), some (SC.iv IntKind.i64 (↑q.H : Int)), some (SC.iv IntKind.i64 (loS (↑q.H : Int))), some (SC.iv IntKind.i64 (loE (↑q.H : Int) (↑q.C : Int))), some (SC.iv IntKind.i64 (loB (↑q.H : Int) (↑q.C : Int) (↑q.W : Int))), some (SC.iv IntKind.i64 (loQ (↑q.H : Int) (↑q.C : Int) (↑q.W : Int))), some (SC.iv IntKind.i64 (loT (↑q.H : Int) (↑q.C : Int) (↑q.W : Int) (↑q.L : Int) (↑q.D : Int)))]), (3, Blk.row 3 q.n q.n [Col.ci IntKind.i64 fun x e => 0])], nxt := 10445360463877, D := fun x => True } })))))))))))))))))))))))))))))))))))))))))))))))))))))))))))))))))))))
    (Out.leaf (Ex.exit 10, { tmps := tms 193 [(3, (SV.c (SC.ptr 1 (NV.k 0) (NV.k 0) 0 11))), (4, (SV.c (SC.ptr 2 (NV.k 0) (NV.k 0) 0 11))), (6, (SV.c (SC.iv IntKind.i64 (↑q.n : Int)))), (7, (SV.c (SC.slc 3 (NV.k 0) (NV.k 0) 1 (NV.s q.n) (NV.s q.n)))), (8, (SV.c (SC.slc 4 (NV.k 0) (NV.k 0) 1 (NV.s (q.tab + 5 * t)) (NV.s cap))))], H := { h := [(1, Blk.own 29 11 [some (SC.iv IntKind.i64 (↑q.W : Int)), some (SC.iv IntKind.i64 (↑q.L : Int)), some (SC.iv IntKind.i64 (↑q.C : Int)), some (SC.iv IntKind.i64 (↑q.T : Int)), some (SC.iv IntKind.i64 (↑q.D : Int)), some (SC.iv IntKind.i64 (↑q.H : Int)), none, none, none, none, none]), (2, Blk.own 31 11 [some (SC.iv IntKind.i64 (↑q.W : Int)), some (SC.iv IntKind.i64 (↑q.L : Int)), some (SC.iv IntKind.i64 (↑q.C : Int)), some (SC.iv IntKind.i64 (↑q.T : Int)), some (SC.iv IntKind.i64 (↑q.D : Int)), some (SC.iv IntKind.i64 (↑q.H : Int)), some (SC.iv IntKind.i64 (loS (↑q.H : Int))), some (SC.iv IntKind.i64 (loE (↑q.H : Int) (↑q.C : Int))), some (SC.iv IntKind.i64 (loB (↑q.H : Int) (↑q.C : Int) (↑q.W : Int))), some (SC.iv IntKind.i64 (loQ (↑q.H : Int) (↑q.C : Int) (↑q.W : Int))), some (SC.iv IntKind.i64 (loT (↑q.H : Int) (↑q.C : Int) (↑q.W : Int) (↑q.L : Int) (↑q.D : Int)))]), (3, Blk.row 3 q.n q.n [Col.ci IntKind.i64 fun x e => 0]), (4, Blk.row 3 cap (q.tab + 5 * t) [Col.ci IntKind.i64 fun x e => (↑(cellA q e) : Int)])], nxt := 5, D := fun x => True } })) := by kernel_rfl

theorem roundM_eq (q : Lq) (i cap : Nat) : roundM q i cap =
  Out.br (decide ((↑i : Int) < (↑q.n : Int)))
    (Out.need (Int.ofNat 0 ≤ (↑i : Int) ∧ (↑i : Int) < (↑q.n : Int))
    (Out.need (0 + (↑i : Int).toNat < q.n)
    (Out.need (0 + (↑i : Int).toNat < q.n)
    (Out.br false
    (Out.leaf (Ex.ret, { tmps := tms 193 [(6, (SV.c (SC.iv IntKind.i64 (↑q.n : Int)))), (8, (SV.c (SC.slc 4 (NV.k 0) (NV.k 0) 1 (NV.s q.n) (NV.s cap))))], H := { h := [(4, Blk.row 3 cap q.n [Col.ci IntKind.i64 fun x e => (↑(cellA q e) : Int)])], nxt := 5, D := fun x => True } }))
    (Out.need (Int.ofNat 0 ≤ (↑i : Int) ∧ (↑i : Int) < (↑q.n : Int))
    (Out.need (0 + (↑i : Int).toNat < q.n)
    (Out.need (0 + (↑i : Int).toNat < q.n)
    (Out.br (decide ((↑(cellA q (0 + (↑i : Int).toNat)) : Int) ≥ (↑q.n : Int)))
    (Out.leaf (Ex.ret, { tmps := tms 193 [(6, (SV.c (SC.iv IntKind.i64 (↑q.n : Int)))), (8, (SV.c (SC.slc 4 (NV.k 0) (NV.k 0) 1 (NV.s q.n) (NV.s cap))))], H := { h := [(4, Blk.row 3 cap q.n [Col.ci IntKind.i64 fun x e => (↑(cellA q e) : Int)])], nxt := 5, D := fun x => True } }))
    (Out.need (Int.ofNat 0 ≤ (↑i : Int) ∧ (↑i : Int) < (↑q.n : Int))
    (Out.need (0 + (↑i : Int).toNat < q.n)
    (Out.need (0 + (↑i : Int).toNat < q.n)
    (Out.need (Int.ofNat 0 ≤ (↑(cellA q (0 + (↑i : Int).toNat)) : Int) ∧ (↑(cellA q (0 + (↑i : Int).toNat)) : Int) < (↑q.n : Int))
    (Out.need (0 + (↑(cellA q (0 + (↑i : Int).toNat)) : Int).toNat < q.n)
    (Out.need (0 + (↑(cellA q (0 + (↑i : Int).toNat)) : Int).toNat < q.n)
    (Out.br (decide (Proofs.Ytjpnpaboahbncaa.Lw.mark q i (0 + (↑(cellA q (0 + (↑i : Int).toNat)) : Int).toNat) > Int.ofNat 0))
    (Out.leaf (Ex.ret, { tmps := tms 193 [(6, (SV.c (SC.iv IntKind.i64 (↑q.n : Int)))), (8, (SV.c (SC.slc 4 (NV.k 0) (NV.k 0) 1 (NV.s q.n) (NV.s cap))))], H := { h := [(4, Blk.row 3 cap q.n [Col.ci IntKind.i64 fun x e => (↑(cellA q e) : Int)])], nxt := 5, D := fun x => True } }))
    (Out.need (Int.ofNat 0 ≤ (↑i : Int) ∧ (↑i : Int) < (↑q.n : Int))
    (Out.need (0 + (↑i : Int).toNat < q.n)
    (Out.need (0 + (↑i : Int).toNat < q.n)
    (Out.need (Int.ofNat 0 ≤ (↑(cellA q (0 + (↑i : Int).toNat)) : Int) ∧ (↑(cellA q (0 + (↑i : Int).toNat)) : Int) < (↑q.n : Int))
    (Out.need (0 + (↑(cellA q (0 + (↑i : Int).toNat)) : Int).toNat < q.n)
    (Out.need (0 + (↑(cellA q (0 + (↑i : Int).toNat)) : Int).toNat < q.n)
    (Out.need (Int.ofNat 0 ≤ (↑(cellA q (0 + (↑i : Int).toNat)) : Int) ∧ (↑(cellA q (0 + (↑i : Int).toNat)) : Int) < (↑q.n : Int))
    (Out.need (0 + (↑(cellA q (0 + (↑i : Int).toNat)) : Int).toNat < q.n)
    (Out.need (0 + (↑(cellA q (0 + (↑i : Int).toNat)) : Int).toNat < q.n)
    (Out.leaf (Ex.normal, { tmps := tms 193 [(3, (SV.c (SC.ptr 1 (NV.k 0) (NV.k 0) 0 11))), (4, (SV.c (SC.ptr 2 (NV.k 0) (NV.k 0) 0 11))), (6, (SV.c (SC.iv IntKind.i64 (↑q.n : Int)))), (7, (SV.c (SC.slc 3 (NV.k 0) (NV.k 0) 1 (NV.s q.n) (NV.s q.n)))), (8, (SV.c (SC.slc 4 (NV.k 0) (NV.k 0) 1 (NV.s q.n) (NV.s cap)))), (16, (SV.c (SC.iv IntKind.i64 (IntKind.i64.wrap ((↑i : Int) + Int.ofNat 1)))))], H := { h := [(1, Blk.own 29 11 [some (SC.iv IntKind.i64 (↑q.W : Int)), some (SC.iv IntKind.i64 (↑q.L : Int)), some (SC.iv IntKind.i64 (↑q.C : Int)), some (SC.iv IntKind.i64 (↑q.T : Int)), some (SC.iv IntKind.i64 (↑q.D : Int)), some (SC.iv IntKind.i64 (↑q.H : Int)), none, none, none, none, none]), (2, Blk.own 31 11 [some (SC.iv IntKind.i64 (↑q.W : Int)), some (SC.iv IntKind.i64 (↑q.L : Int)), some (SC.iv IntKind.i64 (↑q.C : Int)), some (SC.iv IntKind.i64 (↑q.T : Int)), some (SC.iv IntKind.i64 (↑q.D : Int)), some (SC.iv IntKind.i64 (↑q.H : Int)), some (SC.iv IntKind.i64 (loS (↑q.H : Int))), some (SC.iv IntKind.i64 (loE (↑q.H : Int) (↑q.C : Int))), some (SC.iv IntKind.i64 (loB (↑q.H : Int) (↑q.C : Int) (↑q.W : Int))), some (SC.iv IntKind.i64 (loQ (↑q.H : Int) (↑q.C : Int) (↑q.W : Int))), some (SC.iv IntKind.i64 (loT (↑q.H : Int) (↑q.C : Int) (↑q.W : Int) (↑q.L : Int) (↑q.D : Int)))]), (3, Blk.row 3 q.n q.n [Col.ci IntKind.i64 fun i' j => if i' = 0 ∧ j = 0 + (↑(cellA q (0 + (↑i : Int).toNat)) : Int).toNat then IntKind.i64.wrap (Proofs.Ytjpnpaboahbncaa.Lw.mark q i (0 + (↑(cellA q (0 + (↑i : Int).toNat)) : Int).toNat) + Int.ofNat 1) else Proofs.Ytjpnpaboahbncaa.Lw.mark q i j]), (4, Blk.row 3 cap q.n [Col.ci IntKind.i64 fun x e => (↑(cellA q e) : Int)])], nxt := 5, D := fun x => True } }))))))))))))))))))))))))))
    (Out.leaf (Ex.exit 12, { tmps := tms 193 [(6, (SV.c (SC.iv IntKind.i64 (↑q.n : Int)))), (8, (SV.c (SC.slc 4 (NV.k 0) (NV.k 0) 1 (NV.s q.n) (NV.s cap))))], H := { h := [(4, Blk.row 3 cap q.n [Col.ci IntKind.i64 fun x e => (↑(cellA q e) : Int)])], nxt := 5, D := fun x => True } })) := by kernel_rfl

theorem roundV_eq (q : Lq) (w v cap : Nat) : roundV q w v cap =
  Out.br (decide ((↑v : Int) < (↑q.L : Int)))
    (Out.need ((((IntKind.i64 = IntKind.i64 ∧ (↑q.W : Int) = (↑q.W : Int)) ∧ (IntKind.i64 = IntKind.i64 ∧ (↑q.L : Int) = (↑q.L : Int)) ∧ (IntKind.i64 = IntKind.i64 ∧ (↑q.C : Int) = (↑q.C : Int)) ∧ (IntKind.i64 = IntKind.i64 ∧ (↑q.T : Int) = (↑q.T : Int)) ∧ (IntKind.i64 = IntKind.i64 ∧ (↑q.D : Int) = (↑q.D : Int)) ∧ (IntKind.i64 = IntKind.i64 ∧ (↑q.H : Int) = (↑q.H : Int)) ∧ (IntKind.i64 = IntKind.i64 ∧ loS (↑q.H : Int) = loS (↑q.H : Int)) ∧ (IntKind.i64 = IntKind.i64 ∧ loE (↑q.H : Int) (↑q.C : Int) = loE (↑q.H : Int) (↑q.C : Int)) ∧ (IntKind.i64 = IntKind.i64 ∧ loB (↑q.H : Int) (↑q.C : Int) (↑q.W : Int) = loB (↑q.H : Int) (↑q.C : Int) (↑q.W : Int)) ∧ (IntKind.i64 = IntKind.i64 ∧ loQ (↑q.H : Int) (↑q.C : Int) (↑q.W : Int) = loQ (↑q.H : Int) (↑q.C : Int) (↑q.W : Int)) ∧ (IntKind.i64 = IntKind.i64 ∧ loT (↑q.H : Int) (↑q.C : Int) (↑q.W : Int) (↑q.L : Int) (↑q.D : Int) = loT (↑q.H : Int) (↑q.C : Int) (↑q.W : Int) (↑q.L : Int) (↑q.D : Int)) ∧ True) ∧ (IntKind.i64 = IntKind.i64 ∧ (↑w : Int) = (↑w : Int)) ∧ (IntKind.i64 = IntKind.i64 ∧ (↑v : Int) = (↑v : Int)) ∧ True) ∧ True)
    (Out.need (okL { W := (↑q.W : Int), L := (↑q.L : Int), C := (↑q.C : Int), T := (↑q.T : Int), D := (↑q.D : Int), H := (↑q.H : Int), s := loS (↑q.H : Int), e := loE (↑q.H : Int) (↑q.C : Int), b := loB (↑q.H : Int) (↑q.C : Int) (↑q.W : Int), q := loQ (↑q.H : Int) (↑q.C : Int) (↑q.W : Int), t := loT (↑q.H : Int) (↑q.C : Int) (↑q.W : Int) (↑q.L : Int) (↑q.D : Int) })
    (Out.need (0 < 2)
    (Out.need (1 < 2)
    (Out.need (cntV q w v ≤ cntV q w v ∧ cap = cap)
    (Out.need (cntV q w v + 2 ≤ 9223372036854775807 ∧ (cntV q w v + 2) * 8 ≤ 140737488355328)
    (Out.ge (cntV q w v + 2) fun x => Out.need (Ir q w v 0 x ∧ (∀ (k : Nat), True) ∧ (∀ (k : Nat), True) ∧ ((1 = 1 ∧ 0 = 0 ∧ 0 = 0 ∧ 0 = 0 ∧ 11 = 11) ∧ (2 = 2 ∧ 0 = 0 ∧ 0 = 0 ∧ 0 = 0 ∧ 11 = 11) ∧ (IntKind.i64 = IntKind.i64 ∧ (↑q.n : Int) = (↑q.n : Int)) ∧ (3 = 3 ∧ 0 = 0 ∧ 0 = 0 ∧ 1 = 1 ∧ q.n = q.n ∧ q.n = q.n) ∧ (7 = 7 ∧ 0 = 0 ∧ 0 = 0 ∧ 1 = 1 ∧ cntV q w v + 2 = cntV q w v + 2 + 0 ∧ x = x) ∧ (IntKind.i64 = IntKind.i64 ∧ (↑w : Int) = (↑w : Int)) ∧ (IntKind.i64 = IntKind.i64 ∧ (↑v : Int) = (↑v : Int)) ∧ (5 = 5 ∧ 0 = 0 ∧ 0 = 0 ∧ 0 = 0 ∧ 4 = 4) ∧ (IntKind.i64 = IntKind.i64 ∧ Int.ofNat 0 = (↑0 : Int)) ∧ True) ∧ (71 = 71 ∧ 4 = 4 ∧ (IntKind.i64 = IntKind.i64 ∧ (if qT { W := (↑q.W : Int), L := (↑q.L : Int), C := (↑q.C : Int), T := (↑q.T : Int), D := (↑q.D : Int), H := (↑q.H : Int), s := loS (↑q.H : Int), e := loE (↑q.H : Int) (↑q.C : Int), b := loB (↑q.H : Int) (↑q.C : Int) (↑q.W : Int), q := loQ (↑q.H : Int) (↑q.C : Int) (↑q.W : Int), t := loT (↑q.H : Int) (↑q.C : Int) (↑q.W : Int) (↑q.L : Int) (↑q.D : Int) } (↑w : Int) (↑v : Int) < Int.ofNat 0 then -Int.ofNat 1 else qT { W := (↑q.W : Int), L := (↑q.L : Int), C := (↑q.C : Int), T := (↑q.T : Int), D := (↑q.D : Int), H := (↑q.H : Int), s := loS (↑q.H : Int), e := loE (↑q.H : Int) (↑q.C : Int), b := loB (↑q.H : Int) (↑q.C : Int) (↑q.W : Int), q := loQ (↑q.H : Int) (↑q.C : Int) (↑q.W : Int), t := loT (↑q.H : Int) (↑q.C : Int) (↑q.W : Int) (↑q.L : Int) (↑q.D : Int) } (↑w : Int) (↑v : Int)) = (↑(topQ q w v) : Int)) ∧ (IntKind.i64 = IntKind.i64 ∧ (if qT { W := (↑q.W : Int), L := (↑q.L : Int), C := (↑q.C : Int), T := (↑q.T : Int), D := (↑q.D : Int), H := (↑q.H : Int), s := loS (↑q.H : Int), e := loE (↑q.H : Int) (↑q.C : Int), b := loB (↑q.H : Int) (↑q.C : Int) (↑q.W : Int), q := loQ (↑q.H : Int) (↑q.C : Int) (↑q.W : Int), t := loT (↑q.H : Int) (↑q.C : Int) (↑q.W : Int) (↑q.L : Int) (↑q.D : Int) } (↑w : Int) (↑v : Int) < Int.ofNat 0 then -Int.ofNat 1 else qT { W := (↑q.W : Int), L := (↑q.L : Int), C := (↑q.C : Int), T := (↑q.T : Int), D := (↑q.D : Int), H := (↑q.H : Int), s := loS (↑q.H : Int), e := loE (↑q.H : Int) (↑q.C : Int), b := loB (↑q.H : Int) (↑q.C : Int) (↑q.W : Int), q := loQ (↑q.H : Int) (↑q.C : Int) (↑q.W : Int), t := loT (↑q.H : Int) (↑q.C : Int) (↑q.W : Int) (↑q.L : Int) (↑q.D : Int) } (↑w : Int) (↑v : Int) + Int.ofNat 1) = (↑(topQ q w v + 1) : Int)) ∧ (IntKind.i64 = IntKind.i64 ∧ (if qT { W := (↑q.W : Int), L := (↑q.L : Int), C := (↑q.C : Int), T := (↑q.T : Int), D := (↑q.D : Int), H := (↑q.H : Int), s := loS (↑q.H : Int), e := loE (↑q.H : Int) (↑q.C : Int), b := loB (↑q.H : Int) (↑q.C : Int) (↑q.W : Int), q := loQ (↑q.H : Int) (↑q.C : Int) (↑q.W : Int), t := loT (↑q.H : Int) (↑q.C : Int) (↑q.W : Int) (↑q.L : Int) (↑q.D : Int) } (↑w : Int) (↑v : Int) < Int.ofNat 0 then -Int.ofNat 1 else qT { W := (↑q.W : Int), L := (↑q.L : Int), C := (↑q.C : Int), T := (↑q.T : Int), D := (↑q.D : Int), H := (↑q.H : Int), s := loS (↑q.H : Int), e := loE (↑q.H : Int) (↑q.C : Int), b := loB (↑q.H : Int) (↑q.C : Int) (↑q.W : Int), q := loQ (↑q.H : Int) (↑q.C : Int) (↑q.W : Int), t := loT (↑q.H : Int) (↑q.C : Int) (↑q.W : Int) (↑q.L : Int) (↑q.D : Int) } (↑w : Int) (↑v : Int) + Int.ofNat 2) = (↑(topQ q w v + 2) : Int)) ∧ (IntKind.i64 = IntKind.i64 ∧ (if qT { W := (↑q.W : Int), L := (↑q.L : Int), C := (↑q.C : Int), T := (↑q.T : Int), D := (↑q.D : Int), H := (↑q.H : Int), s := loS (↑q.H : Int), e := loE (↑q.H : Int) (↑q.C : Int), b := loB (↑q.H : Int) (↑q.C : Int) (↑q.W : Int), q := loQ (↑q.H : Int) (↑q.C : Int) (↑q.W : Int), t := loT (↑q.H : Int) (↑q.C : Int) (↑q.W : Int) (↑q.L : Int) (↑q.D : Int) } (↑w : Int) (↑v : Int) < Int.ofNat 0 then Int.ofNat 0 else (↑q.D : Int)) = (↑q.D : Int)) ∧ True) ∧ (29 = 29 ∧ 11 = 11 ∧ (IntKind.i64 = IntKind.i64 ∧ (↑q.W : Int) = (↑q.W : Int)) ∧ (IntKind.i64 = IntKind.i64 ∧ (↑q.L : Int) = (↑q.L : Int)) ∧ (IntKind.i64 = IntKind.i64 ∧ (↑q.C : Int) = (↑q.C : Int)) ∧ (IntKind.i64 = IntKind.i64 ∧ (↑q.T : Int) = (↑q.T : Int)) ∧ (IntKind.i64 = IntKind.i64 ∧ (↑q.D : Int) = (↑q.D : Int)) ∧ (IntKind.i64 = IntKind.i64 ∧ (↑q.H : Int) = (↑q.H : Int)) ∧ True) ∧ (31 = 31 ∧ 11 = 11 ∧ (IntKind.i64 = IntKind.i64 ∧ (↑q.W : Int) = (↑q.W : Int)) ∧ (IntKind.i64 = IntKind.i64 ∧ (↑q.L : Int) = (↑q.L : Int)) ∧ (IntKind.i64 = IntKind.i64 ∧ (↑q.C : Int) = (↑q.C : Int)) ∧ (IntKind.i64 = IntKind.i64 ∧ (↑q.T : Int) = (↑q.T : Int)) ∧ (IntKind.i64 = IntKind.i64 ∧ (↑q.D : Int) = (↑q.D : Int)) ∧ (IntKind.i64 = IntKind.i64 ∧ (↑q.H : Int) = (↑q.H : Int)) ∧ (IntKind.i64 = IntKind.i64 ∧ loS (↑q.H : Int) = loS (↑q.H : Int)) ∧ (IntKind.i64 = IntKind.i64 ∧ loE (↑q.H : Int) (↑q.C : Int) = loE (↑q.H : Int) (↑q.C : Int)) ∧ (IntKind.i64 = IntKind.i64 ∧ loB (↑q.H : Int) (↑q.C : Int) (↑q.W : Int) = loB (↑q.H : Int) (↑q.C : Int) (↑q.W : Int)) ∧ (IntKind.i64 = IntKind.i64 ∧ loQ (↑q.H : Int) (↑q.C : Int) (↑q.W : Int) = loQ (↑q.H : Int) (↑q.C : Int) (↑q.W : Int)) ∧ (IntKind.i64 = IntKind.i64 ∧ loT (↑q.H : Int) (↑q.C : Int) (↑q.W : Int) (↑q.L : Int) (↑q.D : Int) = loT (↑q.H : Int) (↑q.C : Int) (↑q.W : Int) (↑q.L : Int) (↑q.D : Int)) ∧ True) ∧ (3 = 3 ∧ q.n = q.n ∧ q.n ≤ q.n ∧ (IntKind.i64 = IntKind.i64 ∧ ∀ (i e : Nat), i = 0 ∧ e < q.n → zero e = zero e) ∧ True) ∧ (3 = 3 ∧ x = x ∧ cntV q w v + 2 + 0 ≤ cntV q w v + 2 ∧ (IntKind.i64 = IntKind.i64 ∧ ∀ (i e : Nat), i = 0 ∧ e < cntV q w v + 2 + 0 → (if i = 0 ∧ e = cntV q w v + 1 then if qT { W := (↑q.W : Int), L := (↑q.L : Int), C := (↑q.C : Int), T := (↑q.T : Int), D := (↑q.D : Int), H := (↑q.H : Int), s := loS (↑q.H : Int), e := loE (↑q.H : Int) (↑q.C : Int), b := loB (↑q.H : Int) (↑q.C : Int) (↑q.W : Int), q := loQ (↑q.H : Int) (↑q.C : Int) (↑q.W : Int), t := loT (↑q.H : Int) (↑q.C : Int) (↑q.W : Int) (↑q.L : Int) (↑q.D : Int) } (↑w : Int) (↑v : Int) < Int.ofNat 0 then -Int.ofNat 1 else qT { W := (↑q.W : Int), L := (↑q.L : Int), C := (↑q.C : Int), T := (↑q.T : Int), D := (↑q.D : Int), H := (↑q.H : Int), s := loS (↑q.H : Int), e := loE (↑q.H : Int) (↑q.C : Int), b := loB (↑q.H : Int) (↑q.C : Int) (↑q.W : Int), q := loQ (↑q.H : Int) (↑q.C : Int) (↑q.W : Int), t := loT (↑q.H : Int) (↑q.C : Int) (↑q.W : Int) (↑q.L : Int) (↑q.D : Int) } (↑w : Int) (↑v : Int) + Int.ofNat 1 else if i = 0 ∧ e = cntV q w v then if qT { W := (↑q.W : Int), L := (↑q.L : Int), C := (↑q.C : Int), T := (↑q.T : Int), D := (↑q.D : Int), H := (↑q.H : Int), s := loS (↑q.H : Int), e := loE (↑q.H : Int) (↑q.C : Int), b := loB (↑q.H : Int) (↑q.C : Int) (↑q.W : Int), q := loQ (↑q.H : Int) (↑q.C : Int) (↑q.W : Int), t := loT (↑q.H : Int) (↑q.C : Int) (↑q.W : Int) (↑q.L : Int) (↑q.D : Int) } (↑w : Int) (↑v : Int) < Int.ofNat 0 then -Int.ofNat 1 else qT { W := (↑q.W : Int), L := (↑q.L : Int), C := (↑q.C : Int), T := (↑q.T : Int), D := (↑q.D : Int), H := (↑q.H : Int), s := loS (↑q.H : Int), e := loE (↑q.H : Int) (↑q.C : Int), b := loB (↑q.H : Int) (↑q.C : Int) (↑q.W : Int), q := loQ (↑q.H : Int) (↑q.C : Int) (↑q.W : Int), t := loT (↑q.H : Int) (↑q.C : Int) (↑q.W : Int) (↑q.L : Int) (↑q.D : Int) } (↑w : Int) (↑v : Int) else (↑(cellA q e) : Int)) = (↑(cellA q e) : Int)) ∧ True) ∧ True)
    (Out.any Nat (fun cap => cntV q w v + q.X ≤ cap) fun x => Out.leaf (Ex.normal, { tmps := tms 193 [(3, (SV.c (SC.ptr 1 (NV.k 0) (NV.k 0) 0 11))), (4, (SV.c (SC.ptr 2 (NV.k 0) (NV.k 0) 0 11))), (6, (SV.c (SC.iv IntKind.i64 (↑q.n : Int)))), (7, (SV.c (SC.slc 3 (NV.k 0) (NV.k 0) 1 (NV.s q.n) (NV.s q.n)))), (8, (SV.c (SC.slc 4 (NV.k 0) (NV.k 0) 1 (NV.s (cntV q w (v + 1))) (NV.s x)))), (11, (SV.c (SC.iv IntKind.i64 (↑w : Int)))), (12, (SV.c (SC.iv IntKind.i64 (IntKind.i64.wrap ((↑v : Int) + Int.ofNat 1)))))], H := { h := [(1, Blk.own 29 11 [some (SC.iv IntKind.i64 (↑q.W : Int)), some (SC.iv IntKind.i64 (↑q.L : Int)), some (SC.iv IntKind.i64 (↑q.C : Int)), some (SC.iv IntKind.i64 (↑q.T : Int)), some (SC.iv IntKind.i64 (↑q.D : Int)), some (SC.iv IntKind.i64 (↑q.H : Int)), none, none, none, none, none]), (2, Blk.own 31 11 [some (SC.iv IntKind.i64 (↑q.W : Int)), some (SC.iv IntKind.i64 (↑q.L : Int)), some (SC.iv IntKind.i64 (↑q.C : Int)), some (SC.iv IntKind.i64 (↑q.T : Int)), some (SC.iv IntKind.i64 (↑q.D : Int)), some (SC.iv IntKind.i64 (↑q.H : Int)), some (SC.iv IntKind.i64 (loS (↑q.H : Int))), some (SC.iv IntKind.i64 (loE (↑q.H : Int) (↑q.C : Int))), some (SC.iv IntKind.i64 (loB (↑q.H : Int) (↑q.C : Int) (↑q.W : Int))), some (SC.iv IntKind.i64 (loQ (↑q.H : Int) (↑q.C : Int) (↑q.W : Int))), some (SC.iv IntKind.i64 (loT (↑q.H : Int) (↑q.C : Int) (↑q.W : Int) (↑q.L : Int) (↑q.D : Int)))]), (3, Blk.row 3 q.n q.n [Col.ci IntKind.i64 fun x e => 0]), (4, Blk.row 3 x (cntV q w (v + 1)) [Col.ci IntKind.i64 fun x e => (↑(cellA q e) : Int)])], nxt := 6, D := fun x => True } })))))))))
    (Out.leaf (Ex.exit 6, { tmps := tms 193 [(3, (SV.c (SC.ptr 1 (NV.k 0) (NV.k 0) 0 11))), (4, (SV.c (SC.ptr 2 (NV.k 0) (NV.k 0) 0 11))), (6, (SV.c (SC.iv IntKind.i64 (↑q.n : Int)))), (7, (SV.c (SC.slc 3 (NV.k 0) (NV.k 0) 1 (NV.s q.n) (NV.s q.n)))), (8, (SV.c (SC.slc 4 (NV.k 0) (NV.k 0) 1 (NV.s (cntV q w v)) (NV.s cap)))), (11, (SV.c (SC.iv IntKind.i64 (↑w : Int))))], H := { h := [(1, Blk.own 29 11 [some (SC.iv IntKind.i64 (↑q.W : Int)), some (SC.iv IntKind.i64 (↑q.L : Int)), some (SC.iv IntKind.i64 (↑q.C : Int)), some (SC.iv IntKind.i64 (↑q.T : Int)), some (SC.iv IntKind.i64 (↑q.D : Int)), some (SC.iv IntKind.i64 (↑q.H : Int)), none, none, none, none, none]), (2, Blk.own 31 11 [some (SC.iv IntKind.i64 (↑q.W : Int)), some (SC.iv IntKind.i64 (↑q.L : Int)), some (SC.iv IntKind.i64 (↑q.C : Int)), some (SC.iv IntKind.i64 (↑q.T : Int)), some (SC.iv IntKind.i64 (↑q.D : Int)), some (SC.iv IntKind.i64 (↑q.H : Int)), some (SC.iv IntKind.i64 (loS (↑q.H : Int))), some (SC.iv IntKind.i64 (loE (↑q.H : Int) (↑q.C : Int))), some (SC.iv IntKind.i64 (loB (↑q.H : Int) (↑q.C : Int) (↑q.W : Int))), some (SC.iv IntKind.i64 (loQ (↑q.H : Int) (↑q.C : Int) (↑q.W : Int))), some (SC.iv IntKind.i64 (loT (↑q.H : Int) (↑q.C : Int) (↑q.W : Int) (↑q.L : Int) (↑q.D : Int)))]), (3, Blk.row 3 q.n q.n [Col.ci IntKind.i64 fun x e => 0]), (4, Blk.row 3 cap (cntV q w v) [Col.ci IntKind.i64 fun x e => (↑(cellA q e) : Int)])], nxt := 5, D := fun x => True } })) := by kernel_rfl

theorem roundW_eq (q : Lq) (w cap : Nat) : roundW q w cap =
  Out.br (decide ((↑w : Int) < (↑q.W : Int)))
    (Out.need (0 < 1 ∧ 0 < 1)
    (Out.need (0 < 1 ∧ 0 < 1)
    (Out.need (0 < 1 ∧ 0 < 1)
    (Out.need (0 < 1 ∧ 0 < 1)
    (Out.need (0 < 1 ∧ 0 < 1)
    (Out.need (0 < 1 ∧ 0 < 1)
    (Out.need (0 < 1 ∧ 0 < 1)
    (Out.need (0 < 1 ∧ 0 < 1)
    (Out.need (0 < 1 ∧ 0 < 1)
    (Out.need (0 < 1 ∧ 0 < 1)
    (Out.need (0 < 1 ∧ 0 < 1)
    (Out.need (¬((↑w : Int) < Int.ofNat 0 ∨ (↑q.W : Int) ≤ (↑w : Int)) → Fit ((↑w : Int) * Int.ofNat 1) ∧ Fit (loE (↑q.H : Int) (↑q.C : Int) + (↑w : Int) * Int.ofNat 1))
    (Out.need (0 < 1 ∧ 0 < 1)
    (Out.need (0 < 1 ∧ 0 < 1)
    (Out.need (0 < 1 ∧ 0 < 1)
    (Out.need (0 < 1 ∧ 0 < 1)
    (Out.need (0 < 1 ∧ 0 < 1)
    (Out.need (0 < 1 ∧ 0 < 1)
    (Out.need (0 < 1 ∧ 0 < 1)
    (Out.need (0 < 1 ∧ 0 < 1)
    (Out.need (0 < 1 ∧ 0 < 1)
    (Out.need (0 < 1 ∧ 0 < 1)
    (Out.need (0 < 1 ∧ 0 < 1)
    (Out.need (¬((↑w : Int) < Int.ofNat 0 ∨ (↑q.W : Int) ≤ (↑w : Int)) → Fit ((↑w : Int) * Int.ofNat 1) ∧ Fit (loB (↑q.H : Int) (↑q.C : Int) (↑q.W : Int) + (↑w : Int) * Int.ofNat 1))
    (Out.need (0 < 1 ∧ 0 < 2)
    (Out.need (0 < 1 ∧ 1 < 2)
    (Out.need (cntW q w ≤ cntW q w ∧ cap = cap)
    (Out.need (cntW q w + 2 ≤ 9223372036854775807 ∧ (cntW q w + 2) * 8 ≤ 140737488355328)
    (Out.ge (cntW q w + 2) fun x => Out.need (Iv q w 0 x ∧ (∀ (k : Nat), True) ∧ (∀ (k : Nat), True) ∧ ((1 = 1 ∧ 0 = 0 ∧ 0 = 0 ∧ 0 = 0 ∧ 11 = 11) ∧ (2 = 2 ∧ 0 = 0 ∧ 0 = 0 ∧ 0 = 0 ∧ 11 = 11) ∧ (IntKind.i64 = IntKind.i64 ∧ (↑q.n : Int) = (↑q.n : Int)) ∧ (3 = 3 ∧ 0 = 0 ∧ 0 = 0 ∧ 1 = 1 ∧ q.n = q.n ∧ q.n = q.n) ∧ (4398046511109 = 4398046511109 ∧ 0 = 0 ∧ 0 = 0 ∧ 1 = 1 ∧ cntW q w + 2 = cntV q w 0 ∧ x = x) ∧ (IntKind.i64 = IntKind.i64 ∧ (↑w : Int) = (↑w : Int)) ∧ (IntKind.i64 = IntKind.i64 ∧ Int.ofNat 0 = (↑0 : Int)) ∧ True) ∧ (29 = 29 ∧ 11 = 11 ∧ (IntKind.i64 = IntKind.i64 ∧ (↑q.W : Int) = (↑q.W : Int)) ∧ (IntKind.i64 = IntKind.i64 ∧ (↑q.L : Int) = (↑q.L : Int)) ∧ (IntKind.i64 = IntKind.i64 ∧ (↑q.C : Int) = (↑q.C : Int)) ∧ (IntKind.i64 = IntKind.i64 ∧ (↑q.T : Int) = (↑q.T : Int)) ∧ (IntKind.i64 = IntKind.i64 ∧ (↑q.D : Int) = (↑q.D : Int)) ∧ (IntKind.i64 = IntKind.i64 ∧ (↑q.H : Int) = (↑q.H : Int)) ∧ True) ∧ (31 = 31 ∧ 11 = 11 ∧ (IntKind.i64 = IntKind.i64 ∧ (↑q.W : Int) = (↑q.W : Int)) ∧ (IntKind.i64 = IntKind.i64 ∧ (↑q.L : Int) = (↑q.L : Int)) ∧ (IntKind.i64 = IntKind.i64 ∧ (↑q.C : Int) = (↑q.C : Int)) ∧ (IntKind.i64 = IntKind.i64 ∧ (↑q.T : Int) = (↑q.T : Int)) ∧ (IntKind.i64 = IntKind.i64 ∧ (↑q.D : Int) = (↑q.D : Int)) ∧ (IntKind.i64 = IntKind.i64 ∧ (↑q.H : Int) = (↑q.H : Int)) ∧ (IntKind.i64 = IntKind.i64 ∧ loS (↑q.H : Int) = loS (↑q.H : Int)) ∧ (IntKind.i64 = IntKind.i64 ∧ loE (↑q.H : Int) (↑q.C : Int) = loE (↑q.H : Int) (↑q.C : Int)) ∧ (IntKind.i64 = IntKind.i64 ∧ loB (↑q.H : Int) (↑q.C : Int) (↑q.W : Int) = loB (↑q.H : Int) (↑q.C : Int) (↑q.W : Int)) ∧ (IntKind.i64 = IntKind.i64 ∧ loQ (↑q.H : Int) (↑q.C : Int) (↑q.W : Int) = loQ (↑q.H : Int) (↑q.C : Int) (↑q.W : Int)) ∧ (IntKind.i64 = IntKind.i64 ∧ loT (↑q.H : Int) (↑q.C : Int) (↑q.W : Int) (↑q.L : Int) (↑q.D : Int) = loT (↑q.H : Int) (↑q.C : Int) (↑q.W : Int) (↑q.L : Int) (↑q.D : Int)) ∧ True) ∧ (3 = 3 ∧ q.n = q.n ∧ q.n ≤ q.n ∧ (IntKind.i64 = IntKind.i64 ∧ ∀ (i e : Nat), i = 0 ∧ e < q.n → zero e = zero e) ∧ True) ∧ (3 = 3 ∧ x = x ∧ cntV q w 0 ≤ cntW q w + 2 ∧ (IntKind.i64 = IntKind.i64 ∧ ∀ (i e : Nat), i = 0 ∧ e < cntV q w 0 → (if i = 0 ∧ e = cntW q w + 1 then atF (↑w : Int) (↑q.W : Int) (loB (↑q.H : Int) (↑q.C : Int) (↑q.W : Int)) (Int.ofNat 1) else if i = 0 ∧ e = cntW q w then atF (↑w : Int) (↑q.W : Int) (loE (↑q.H : Int) (↑q.C : Int)) (Int.ofNat 1) else (↑(cellA q e) : Int)) = (↑(cellA q e) : Int)) ∧ True) ∧ True)
    (Out.any Nat (fun cap => cntW q (w + 1) ≤ cap) fun x => Out.leaf (Ex.normal, { tmps := tms 193 [(3, (SV.c (SC.ptr 1 (NV.k 0) (NV.k 0) 0 11))), (4, (SV.c (SC.ptr 2 (NV.k 0) (NV.k 0) 0 11))), (6, (SV.c (SC.iv IntKind.i64 (↑q.n : Int)))), (7, (SV.c (SC.slc 3 (NV.k 0) (NV.k 0) 1 (NV.s q.n) (NV.s q.n)))), (8, (SV.c (SC.slc 4 (NV.k 0) (NV.k 0) 1 (NV.s (cntW q (w + 1))) (NV.s x)))), (11, (SV.c (SC.iv IntKind.i64 (IntKind.i64.wrap ((↑w : Int) + Int.ofNat 1)))))], H := { h := [(1, Blk.own 29 11 [some (SC.iv IntKind.i64 (↑q.W : Int)), some (SC.iv IntKind.i64 (↑q.L : Int)), some (SC.iv IntKind.i64 (↑q.C : Int)), some (SC.iv IntKind.i64 (↑q.T : Int)), some (SC.iv IntKind.i64 (↑q.D : Int)), some (SC.iv IntKind.i64 (↑q.H : Int)), none, none, none, none, none]), (2, Blk.own 31 11 [some (SC.iv IntKind.i64 (↑q.W : Int)), some (SC.iv IntKind.i64 (↑q.L : Int)), some (SC.iv IntKind.i64 (↑q.C : Int)), some (SC.iv IntKind.i64 (↑q.T : Int)), some (SC.iv IntKind.i64 (↑q.D : Int)), some (SC.iv IntKind.i64 (↑q.H : Int)), some (SC.iv IntKind.i64 (loS (↑q.H : Int))), some (SC.iv IntKind.i64 (loE (↑q.H : Int) (↑q.C : Int))), some (SC.iv IntKind.i64 (loB (↑q.H : Int) (↑q.C : Int) (↑q.W : Int))), some (SC.iv IntKind.i64 (loQ (↑q.H : Int) (↑q.C : Int) (↑q.W : Int))), some (SC.iv IntKind.i64 (loT (↑q.H : Int) (↑q.C : Int) (↑q.W : Int) (↑q.L : Int) (↑q.D : Int)))]), (3, Blk.row 3 q.n q.n [Col.ci IntKind.i64 fun x e => 0]), (4, Blk.row 3 x (cntW q (w + 1)) [Col.ci IntKind.i64 fun x e => (↑(cellA q e) : Int)])], nxt := 5, D := fun x => True } })))))))))))))))))))))))))))))))
    (Out.leaf (Ex.exit 4, { tmps := tms 193 [(3, (SV.c (SC.ptr 1 (NV.k 0) (NV.k 0) 0 11))), (4, (SV.c (SC.ptr 2 (NV.k 0) (NV.k 0) 0 11))), (6, (SV.c (SC.iv IntKind.i64 (↑q.n : Int)))), (7, (SV.c (SC.slc 3 (NV.k 0) (NV.k 0) 1 (NV.s q.n) (NV.s q.n)))), (8, (SV.c (SC.slc 4 (NV.k 0) (NV.k 0) 1 (NV.s (cntW q w)) (NV.s cap))))], H := { h := [(1, Blk.own 29 11 [some (SC.iv IntKind.i64 (↑q.W : Int)), some (SC.iv IntKind.i64 (↑q.L : Int)), some (SC.iv IntKind.i64 (↑q.C : Int)), some (SC.iv IntKind.i64 (↑q.T : Int)), some (SC.iv IntKind.i64 (↑q.D : Int)), some (SC.iv IntKind.i64 (↑q.H : Int)), none, none, none, none, none]), (2, Blk.own 31 11 [some (SC.iv IntKind.i64 (↑q.W : Int)), some (SC.iv IntKind.i64 (↑q.L : Int)), some (SC.iv IntKind.i64 (↑q.C : Int)), some (SC.iv IntKind.i64 (↑q.T : Int)), some (SC.iv IntKind.i64 (↑q.D : Int)), some (SC.iv IntKind.i64 (↑q.H : Int)), some (SC.iv IntKind.i64 (loS (↑q.H : Int))), some (SC.iv IntKind.i64 (loE (↑q.H : Int) (↑q.C : Int))), some (SC.iv IntKind.i64 (loB (↑q.H : Int) (↑q.C : Int) (↑q.W : Int))), some (SC.iv IntKind.i64 (loQ (↑q.H : Int) (↑q.C : Int) (↑q.W : Int))), some (SC.iv IntKind.i64 (loT (↑q.H : Int) (↑q.C : Int) (↑q.W : Int) (↑q.L : Int) (↑q.D : Int)))]), (3, Blk.row 3 q.n q.n [Col.ci IntKind.i64 fun x e => 0]), (4, Blk.row 3 cap (cntW q w) [Col.ci IntKind.i64 fun x e => (↑(cellA q e) : Int)])], nxt := 5, D := fun x => True } })) := by kernel_rfl


end Go.Proofs.Ytjpnpaboahbncaa.Lw

/- LayoutWhole: the list of all cells, in plain numbers. -/
set_option linter.unusedVariables false
namespace Go.Proofs.Ytjpnpaboahbncaa.Lw
variable {q : Lq}
theorem tab_eq (q : Lq) : q.tab = q.base + q.W + q.W + q.W * q.M := by
  unfold Lq.tab; rw [Nat.mul_add]; omega
theorem A_low {e : Nat} (h : e < q.base) : cellA q e = e := if_pos h
theorem A_high {e : Nat} (h : q.tab ≤ e) : cellA q e = e := by
  have : q.base ≤ q.tab := Nat.le_add_right _ _
  rw [cellA, if_neg (by omega), if_neg (by omega)]
theorem row_lt {w r : Nat} (hw : w < q.W) (hr : r < 2 + q.M) : q.base + w * (2 + q.M) + r < q.tab := by
  have := Nat.mul_le_mul_right (2 + q.M) (Nat.succ_le_of_lt hw)
  rw [Nat.succ_mul] at this
  unfold Lq.tab; omega
theorem A_mid {w r : Nat} (hw : w < q.W) (hr : r < 2 + q.M) : cellA q (q.base + w * (2 + q.M) + r) = if r = 0 then q.base + w else if r = 1 then q.base + q.W + w else q.base + q.W + q.W + w * q.M + (r - 2) := by
  have h1 := row_lt hw hr
  have e1 : q.base + w * (2 + q.M) + r - q.base = r + w * (2 + q.M) := by omega
  have e2 : (r + w * (2 + q.M)) % (2 + q.M) = r := by rw [Nat.add_mul_mod_self_right, Nat.mod_eq_of_lt hr]
  have e3 : (r + w * (2 + q.M)) / (2 + q.M) = w := by rw [Nat.add_mul_div_right _ _ (by omega), Nat.div_eq_of_lt hr, Nat.zero_add]
  rw [cellA, if_neg (by omega), if_pos h1, e1, e2, e3]
theorem mid_of {e : Nat} (h1 : q.base ≤ e) (h2 : e < q.tab) : ∃ w r, w < q.W ∧ r < 2 + q.M ∧ e = q.base + w * (2 + q.M) + r := by
  have hm : 0 < 2 + q.M := by omega
  refine ⟨(e - q.base) / (2 + q.M), (e - q.base) % (2 + q.M), ?_, Nat.mod_lt _ hm, ?_⟩
  · rw [Nat.div_lt_iff_lt_mul hm]
    unfold Lq.tab at h2; omega
  · have := Nat.div_add_mod (e - q.base) (2 + q.M)
    rw [Nat.mul_comm] at this
    omega
theorem in_row {w s : Nat} (hw : w < q.W) (hs : s < q.M) : w * q.M + s < q.W * q.M := by
  have := Nat.mul_le_mul_right q.M (Nat.succ_le_of_lt hw)
  rw [Nat.succ_mul] at this
  omega
theorem A_lt {e : Nat} (h : e < q.n) : cellA q e < q.n := by
  rcases Nat.lt_or_ge e q.base with h1 | h1
  · rw [A_low h1]; exact h
  rcases Nat.lt_or_ge e q.tab with h2 | h2
  · obtain ⟨w, r, hw, hr, rfl⟩ := mid_of h1 h2
    rw [A_mid hw hr]
    have ht := tab_eq q
    have hn : q.tab ≤ q.n := Nat.le_add_right _ _
    split
    · omega
    · split
      · omega
      · have := in_row (s := r - 2) hw (by omega); omega
  · rw [A_high h2]; exact h
/-- Where a cell stands in the list. -/
def cellB (q : Lq) (x : Nat) : Nat := if x < q.base then x else if x < q.base + q.W then q.base + (x - q.base) * (2 + q.M) else if x < q.base + q.W + q.W then q.base + (x - q.base - q.W) * (2 + q.M) + 1
  else if x < q.tab then q.base + (x - q.base - q.W - q.W) / q.M * (2 + q.M) + 2 + (x - q.base - q.W - q.W) % q.M else x
theorem BA (e : Nat) : cellB q (cellA q e) = e := by
  have ht := tab_eq q
  rcases Nat.lt_or_ge e q.base with h1 | h1
  · rw [A_low h1, cellB, if_pos h1]
  rcases Nat.lt_or_ge e q.tab with h2 | h2
  · obtain ⟨w, r, hw, hr, rfl⟩ := mid_of h1 h2
    rw [A_mid hw hr]
    split
    · rename_i h; subst h
      rw [cellB, if_neg (by omega), if_pos (by omega), show q.base + w - q.base = w by omega]; omega
    · split
      · rename_i h; subst h
        rw [cellB, if_neg (by omega), if_neg (by omega), if_pos (by omega), show q.base + q.W + w - q.base - q.W = w by omega]
      · have hs : r - 2 < q.M := by omega
        have h3 := in_row hw hs
        have e1 : q.base + q.W + q.W + w * q.M + (r - 2) - q.base - q.W - q.W = (r - 2) + w * q.M := by omega
        have e2 : ((r - 2) + w * q.M) % q.M = r - 2 := by rw [Nat.add_mul_mod_self_right, Nat.mod_eq_of_lt hs]
        have e3 : ((r - 2) + w * q.M) / q.M = w := by rw [Nat.add_mul_div_right _ _ (by omega), Nat.div_eq_of_lt hs, Nat.zero_add]
        rw [cellB, if_neg (by omega), if_neg (by omega), if_neg (by omega), if_pos (by omega), e1, e2, e3]
        omega
  · rw [A_high h2, cellB, if_neg (by omega), if_neg (by omega), if_neg (by omega), if_neg (by omega)]
theorem A_inj {e e' : Nat} (h : cellA q e = cellA q e') : e = e' := by
  rw [← BA (q := q) e, h, BA]
/-- The entries of the list, as the loops make them. -/
theorem A_epoch {w : Nat} (hw : w < q.W) : cellA q (cntW q w) = q.base + w := by
  have := A_mid (r := 0) hw (by omega)
  simpa [cntW] using this
theorem A_bits {w : Nat} (hw : w < q.W) : cellA q (cntW q w + 1) = q.base + q.W + w := by
  have := A_mid (r := 1) hw (by omega)
  simpa [cntW] using this
theorem A_queue {w v j : Nat} (hw : w < q.W) (hv : v < q.L) (hj : j < q.X) : cellA q (cntV q w v + j) = topQ q w v + j := by
  have h1 : v * q.X + j < q.M := by
    have := Nat.mul_le_mul_right q.X (Nat.succ_le_of_lt hv)
    rw [Nat.succ_mul] at this
    unfold Lq.M; omega
  have := A_mid (r := 2 + (v * q.X + j)) hw (by omega)
  rw [if_neg (by omega), if_neg (by omega)] at this
  have e1 : cntV q w v + j = q.base + w * (2 + q.M) + (2 + (v * q.X + j)) := by unfold cntV; omega
  have e2 : w * q.M = w * q.L * q.X := by unfold Lq.M; rw [Nat.mul_assoc]
  rw [e1, this]
  unfold topQ
  rw [Nat.add_mul, e2]
  omega
theorem cntV_end (w : Nat) : cntV q w q.L = cntW q (w + 1) := by
  unfold cntV cntW Lq.M
  rw [Nat.succ_mul]; omega
theorem cntW_end : cntW q q.W = q.tab := rfl
theorem cntV_next (w v : Nat) : cntV q w (v + 1) = cntV q w v + q.X := by
  unfold cntV; rw [Nat.succ_mul]; omega
end Go.Proofs.Ytjpnpaboahbncaa.Lw

/- LayoutWhole: the rounds of its loops. -/
set_option linter.unusedVariables false
set_option linter.unusedSimpArgs false
set_option maxRecDepth 100000
namespace Go.Proofs.Ytjpnpaboahbncaa.Lw
open Go Go.RowKit Sx Cn Dc Ck Ly
variable {q : Lq}
def okQ (q : Lq) : Prop := q.W ≤ 16 ∧ q.L ≤ 64 ∧ q.C ≤ 64 ∧ q.T ≤ 256 ∧ q.D ≤ 64 ∧ q.H ≤ 64
theorem okQ.bd (h : okQ q) : q.M ≤ 4224 ∧ q.tab ≤ 70000 ∧ q.n ≤ 80000 := by
  obtain ⟨h1, h2, h3, h4, h5, h6⟩ := h
  have a : q.M ≤ 64 * 66 := Nat.mul_le_mul h2 (by unfold Lq.X; omega)
  have b : q.W * (2 + q.M) ≤ 16 * 4226 := Nat.mul_le_mul h1 (by omega)
  have c : q.tab ≤ 70000 := by unfold Lq.tab Lq.base; omega
  exact ⟨a, c, by unfold Lq.n; omega⟩
theorem loT_eq (q : Lq) : loT (q.H : Int) (q.C : Int) (q.W : Int) (q.L : Int) (q.D : Int) = (q.tab : Int) := by
  have h1 := tab_eq q
  have h2 : q.W * q.M = q.W * q.L * (2 + q.D) := by unfold Lq.M Lq.X; rw [Nat.mul_assoc]
  rw [h2] at h1
  rw [h1]
  unfold loT Lq.base
  push_cast
  rfl
theorem col_add2 {A : Nat → Int} {k : Nat} {a b : Int} (ha : a = A k) (hb : b = A (k + 1)) (i' e : Nat) (_ : i' = 0 ∧ e < k + 2) : (if i' = 0 ∧ e = k + 1 then b else if i' = 0 ∧ e = k then a else A e) = A e := by
  split
  · rename_i h1; rw [h1.2, hb]
  · split
    · rename_i h1; rw [h1.2, ha]
    · rfl
theorem roundH_ok (hq : okQ q) (i cap : Nat) (hx : i ≤ q.H ∧ 4 + i ≤ cap) (K : Ex × St → Prop) (hA : ∀ cap, 4 + q.H ≤ cap → K (.exit 0, Jw q [] zero (4 + q.H) cap)) :
    Holds (roundH q i cap) (RoundEnd (fun x : Nat × Nat => Jw q [(9, iv x.1)] zero (4 + x.1) x.2) (fun x => x.1 ≤ q.H ∧ 4 + x.1 ≤ x.2) (fun x => q.H - x.1) 1 5 K (i, cap)) := by
  constructor
  rw [roundH_eq]
  obtain ⟨hi, hc⟩ := hx
  obtain ⟨h1, h2, h3, h4, h5, h6⟩ := hq
  have e3 : IntKind.i64.wrap ((i : Int) + 1) = ((i + 1 : Nat) : Int) := w64 (by omega)
  simp only [Out.holds, eq_self, true_and, and_true, Nat.le_refl, implies_true, Int.ofNat_eq_natCast, Nat.lt_add_one, Nat.zero_lt_one, Int.natCast_one, Int.natCast_zero, Int.cast_ofNat_Int, decide_eq_true_eq, decide_eq_false_iff_not, e3]
  refine ⟨fun h => ⟨fun _ => ⟨⟨by omega, by omega⟩, ⟨by omega, by omega⟩⟩, by omega, fun x hx => ⟨(i + 1, x), [1, 2, 3, 7], ⟨by show i + 1 ≤ q.H; omega, hx⟩, (by show q.H - (i + 1) < q.H - i; omega), rfl, rfl, ⟨?_, ?_⟩, rfl⟩⟩, fun h => ?_⟩
  · (repeat' first | exact True.intro | with_reducible rfl | apply And.intro | exact Nat.le_refl _ | (intros; with_reducible rfl) | (intros; assumption) | decide | (intros; exact Nat.le_refl _) | (intros; apply Or.inl; with_reducible rfl))
    rfl
  · (repeat' first | exact True.intro | with_reducible rfl | apply And.intro | exact Nat.le_refl _ | (intros; with_reducible rfl) | (intros; assumption) | decide | (intros; exact Nat.le_refl _) | (intros; apply Or.inl; with_reducible rfl))
    · exact fun _ _ _ => rfl
    · refine col_add (A := fun e => (cellA q e : Int)) (k := 4 + i) ?_
      rw [atF, if_neg (by omega), A_low (by unfold Lq.base; omega)]; omega
  · have : i = q.H := by omega
    subst this
    refine ⟨_, [1, 2, 3, 4], ⟨rfl, rfl, ⟨by (repeat' first | exact True.intro | with_reducible rfl | apply And.intro | exact Nat.le_refl _ | (intros; with_reducible rfl) | (intros; assumption) | decide | (intros; exact Nat.le_refl _) | (intros; apply Or.inl; with_reducible rfl)), ?_⟩, rfl⟩, rfl, Nat.le_refl _, hA cap hc⟩
    (repeat' first | exact True.intro | with_reducible rfl | apply And.intro | exact Nat.le_refl _ | (intros; with_reducible rfl) | (intros; assumption) | decide | (intros; exact Nat.le_refl _) | (intros; apply Or.inl; with_reducible rfl))
    exact fun _ _ _ => rfl
theorem roundK_ok (hq : okQ q) (i cap : Nat) (hx : i ≤ q.C ∧ 4 + q.H + i ≤ cap) (K : Ex × St → Prop) (hA : ∀ cap, q.base ≤ cap → K (.exit 2, Jw q [] zero q.base cap)) :
    Holds (roundK q i cap) (RoundEnd (fun x : Nat × Nat => Jw q [(10, iv x.1)] zero (4 + q.H + x.1) x.2) (fun x => x.1 ≤ q.C ∧ 4 + q.H + x.1 ≤ x.2) (fun x => q.C - x.1) 1 5 K (i, cap)) := by
  constructor
  rw [roundK_eq]
  obtain ⟨hi, hc⟩ := hx
  obtain ⟨h1, h2, h3, h4, h5, h6⟩ := hq
  have hS : loS (q.H : Int) = 4 + q.H := rfl
  have e3 : IntKind.i64.wrap ((i : Int) + 1) = ((i + 1 : Nat) : Int) := w64 (by omega)
  simp only [Out.holds, eq_self, true_and, and_true, Nat.le_refl, implies_true, Int.ofNat_eq_natCast, Nat.lt_add_one, Nat.zero_lt_one, Int.natCast_one, Int.natCast_zero, Int.cast_ofNat_Int, decide_eq_true_eq, decide_eq_false_iff_not, e3]
  refine ⟨fun h => ⟨fun _ => ⟨⟨by omega, by omega⟩, ⟨by omega, by omega⟩⟩, by omega, fun x hx => ⟨(i + 1, x), [1, 2, 3, 7], ⟨by show i + 1 ≤ q.C; omega, hx⟩, (by show q.C - (i + 1) < q.C - i; omega), rfl, rfl, ⟨?_, ?_⟩, rfl⟩⟩, fun h => ?_⟩
  · (repeat' first | exact True.intro | with_reducible rfl | apply And.intro | exact Nat.le_refl _ | (intros; with_reducible rfl) | (intros; assumption) | decide | (intros; exact Nat.le_refl _) | (intros; apply Or.inl; with_reducible rfl))
    rfl
  · (repeat' first | exact True.intro | with_reducible rfl | apply And.intro | exact Nat.le_refl _ | (intros; with_reducible rfl) | (intros; assumption) | decide | (intros; exact Nat.le_refl _) | (intros; apply Or.inl; with_reducible rfl))
    · exact fun _ _ _ => rfl
    · refine col_add (A := fun e => (cellA q e : Int)) (k := 4 + q.H + i) ?_
      rw [atF, if_neg (by omega), A_low (by unfold Lq.base; omega)]; omega
  · have : i = q.C := by omega
    subst this
    refine ⟨_, [1, 2, 3, 4], ⟨rfl, rfl, ⟨?_, ?_⟩, rfl⟩, rfl, Nat.le_refl _, hA cap hc⟩
    · (repeat' first | exact True.intro | with_reducible rfl | apply And.intro | exact Nat.le_refl _ | (intros; with_reducible rfl) | (intros; assumption) | decide | (intros; exact Nat.le_refl _) | (intros; apply Or.inl; with_reducible rfl))
      rfl
    (repeat' first | exact True.intro | with_reducible rfl | apply And.intro | exact Nat.le_refl _ | (intros; with_reducible rfl) | (intros; assumption) | decide | (intros; exact Nat.le_refl _) | (intros; apply Or.inl; with_reducible rfl))
    exact fun _ _ _ => rfl
theorem mark_new {i : Nat} : mark q i (cellA q i) = 0 := by
  unfold mark
  rw [if_neg]
  rintro ⟨e, he, h⟩
  have := A_inj h
  omega
theorem mark_step (i : Nat) (j : Nat) : (if j = cellA q i then (1 : Int) else mark q i j) = mark q (i + 1) j := by
  unfold mark
  split
  · rename_i h; rw [if_pos ⟨i, Nat.lt_succ_self i, h.symm⟩]
  · rename_i h
    by_cases h2 : ∃ e, e < i ∧ cellA q e = j
    · obtain ⟨e, he, h3⟩ := h2
      rw [if_pos ⟨e, he, h3⟩, if_pos ⟨e, Nat.lt_succ_of_lt he, h3⟩]
    · rw [if_neg h2, if_neg]
      rintro ⟨e, he, h3⟩
      rcases Nat.lt_succ_iff_lt_or_eq.1 he with h4 | h4
      · exact h2 ⟨e, h4, h3⟩
      · subst h4; exact h h3.symm
theorem roundM_ok (hq : okQ q) (i cap : Nat) (hx : i ≤ q.n ∧ q.n ≤ cap) (K : Ex × St → Prop) (hA : K (.exit 12, ⟨tms 193 [(6, iv (q.n : Int)), (8, .c (slK 4 1 q.n cap))], ⟨[(4, .row 3 cap q.n [.ci .i64 fun _ e => (cellA q e : Int)])], 5, fun _ => True⟩⟩)) :
    Holds (roundM q i cap) (RoundEnd (fun i : Nat => Jw q [(16, iv i)] (mark q i) q.n cap) (fun i => i ≤ q.n ∧ q.n ≤ cap) (fun i => q.n - i) 1 5 K i) := by
  constructor
  rw [roundM_eq]
  obtain ⟨hi, hc⟩ := hx
  have hb := hq.bd.2.2
  have e3 : IntKind.i64.wrap ((i : Int) + 1) = ((i + 1 : Nat) : Int) := w64 (by omega)
  have e4 : IntKind.i64.wrap ((0 : Int) + 1) = 1 := by decide
  simp only [Out.holds, eq_self, true_and, and_true, Nat.le_refl, implies_true, Int.ofNat_eq_natCast, Nat.lt_add_one, Nat.zero_lt_one, Int.natCast_one, Int.natCast_zero, Int.cast_ofNat_Int, decide_eq_true_eq, decide_eq_false_iff_not, e3, Int.toNat_natCast, Nat.zero_add, mark_new, e4, gt_iff_lt, ge_iff_le, Int.lt_irrefl, reduceCtorEq, false_implies]
  refine ⟨fun h => ?_, fun h => ?_⟩
  · have hlt := A_lt (q := q) (e := i) (by omega)
    have fin : ∀ s : St, goR 1 [1, 2, 3, 4] s (Jw q [(16, iv ((i + 1 : Nat) : Int))] (mark q (i + 1)) q.n cap) → RoundEnd (fun i : Nat => Jw q [(16, iv i)] (mark q i) q.n cap) (fun i => i ≤ q.n ∧ q.n ≤ cap) (fun i => q.n - i) 1 5 K i (.normal, s) := fun s hs => ⟨i + 1, [1, 2, 3, 4], ⟨by omega, hc⟩, (by show q.n - (i + 1) < q.n - i; omega), hs⟩
    (repeat' first | exact True.intro | with_reducible rfl | apply And.intro | intro _)
    all_goals try omega
    all_goals (refine fin _ ⟨rfl, rfl, ⟨by (repeat' first | exact True.intro | with_reducible rfl | apply And.intro | exact Nat.le_refl _ | (intros; with_reducible rfl) | (intros; assumption) | decide | (intros; exact Nat.le_refl _) | (intros; apply Or.inl; with_reducible rfl)), ?_⟩, rfl⟩)
    all_goals (repeat' first | exact True.intro | with_reducible rfl | apply And.intro | exact Nat.le_refl _ | (intros; with_reducible rfl) | (intros; assumption) | decide | (intros; exact Nat.le_refl _) | (intros; apply Or.inl; with_reducible rfl))
    all_goals (rintro a j ⟨rfl, hj⟩; show (if 0 = 0 ∧ j = cellA q i then (1 : Int) else mark q i j) = mark q (i + 1) j; simp only [true_and]; exact mark_step i j)
  · have : i = q.n := by omega
    subst this
    refine ⟨_, [1, 2, 3, 4], ⟨rfl, rfl, ⟨by (repeat' first | exact True.intro | with_reducible rfl | apply And.intro | exact Nat.le_refl _ | (intros; with_reducible rfl) | (intros; assumption) | decide | (intros; exact Nat.le_refl _) | (intros; apply Or.inl; with_reducible rfl)), ?_⟩, rfl⟩, rfl, Nat.le_refl _, hA⟩
    (repeat' first | exact True.intro | with_reducible rfl | apply And.intro | exact Nat.le_refl _ | (intros; with_reducible rfl) | (intros; assumption) | decide | (intros; exact Nat.le_refl _) | (intros; apply Or.inl; with_reducible rfl))
theorem queue_at {w v j : Nat} (hw : w < q.W) (hv : v < q.L) (hj : j < q.X) : v * q.X + j < q.M ∧ cntV q w v + j = q.base + w * (2 + q.M) + (2 + (v * q.X + j)) := by
  refine ⟨?_, by unfold cntV; omega⟩
  have := Nat.mul_le_mul_right q.X (Nat.succ_le_of_lt hv)
  rw [Nat.succ_mul] at this
  unfold Lq.M; omega
theorem topQ_lt {w v j : Nat} (hw : w < q.W) (hv : v < q.L) (hj : j < q.X) : cntV q w v + j < q.tab ∧ topQ q w v + j < q.n := by
  have h := queue_at hw hv hj
  have h1 := row_lt (q := q) (r := 2 + (v * q.X + j)) hw (by omega)
  have h2 : cntV q w v + j < q.tab := by omega
  refine ⟨h2, ?_⟩
  rw [← A_queue hw hv hj]
  have : q.tab ≤ q.n := Nat.le_add_right _ _
  exact A_lt (by omega)
theorem roundR_ok (hq : okQ q) (w v i cap : Nat) (hx : Ir q w v i cap) (K : Ex × St → Prop) (hA : ∀ cap, cntV q w v + q.X ≤ cap → K (.exit 8, Jw6 q [(11, iv w), (12, iv v)] zero (cntV q w (v + 1)) cap)) :
    Holds (roundR q w v i cap) (RoundEnd (fun x : Nat × Nat => Jr q w v x.1 x.2) (fun x => Ir q w v x.1 x.2) (fun x => q.D - x.1) 1 6 K (i, cap)) := by
  constructor
  rw [roundR_eq]
  obtain ⟨hw, hv, hi, hc⟩ := hx
  have hb := hq.bd
  have hX : q.X = 2 + q.D := rfl
  have h5 := hq.2.2.2.2.1
  have e3 : IntKind.i64.wrap ((i : Int) + 1) = ((i + 1 : Nat) : Int) := w64 (by omega)
  have hn := cntV_next (q := q) w v
  simp only [Out.holds, eq_self, true_and, and_true, Nat.le_refl, implies_true, Int.ofNat_eq_natCast, Nat.lt_add_one, Nat.zero_lt_one, Int.natCast_one, Int.natCast_zero, Int.cast_ofNat_Int, decide_eq_true_eq, decide_eq_false_iff_not, e3]
  have out : ¬ (i : Int) < q.D → ∀ s : St, goR 1 [1, 2, 3, 4] s (Jw6 q [(11, iv w), (12, iv v)] zero (cntV q w (v + 1)) cap) → RoundEnd (fun x : Nat × Nat => Jr q w v x.1 x.2) (fun x => Ir q w v x.1 x.2) (fun x => q.D - x.1) 1 6 K (i, cap) (.exit 8, s) := fun h s hs => ⟨_, _, hs, rfl, Nat.le_refl _, hA cap (by omega)⟩
  refine ⟨fun h => ⟨fun _ => ⟨by have ht := topQ_lt (q := q) (w := w) (v := v) (j := 2 + i) hw hv (by omega); omega, fun x hx => ?_⟩, fun h2 => absurd h h2⟩, fun h => ?_⟩
  · have ht := topQ_lt (q := q) (w := w) (v := v) (j := 2 + i) hw hv (by omega)
    refine ⟨(i + 1, x), [1, 2, 3, 7, 5], ⟨hw, hv, by show i + 1 ≤ q.D; omega, hx⟩, (by show q.D - (i + 1) < q.D - i; omega), rfl, rfl, ⟨?_, ?_⟩, rfl⟩
    · (repeat' first | exact True.intro | with_reducible rfl | apply And.intro | exact Nat.le_refl _ | (intros; with_reducible rfl) | (intros; assumption) | decide | (intros; exact Nat.le_refl _) | (intros; apply Or.inl; with_reducible rfl))
      rfl
    · (repeat' first | exact True.intro | with_reducible rfl | apply And.intro | exact Nat.le_refl _ | (intros; with_reducible rfl) | (intros; assumption) | decide | (intros; exact Nat.le_refl _) | (intros; apply Or.inl; with_reducible rfl))
      · exact fun _ _ _ => rfl
      · refine col_add (A := fun e => (cellA q e : Int)) (k := cntV q w v + 2 + i) ?_
        rw [w64 (by omega), show cntV q w v + 2 + i = cntV q w v + (2 + i) by omega, A_queue hw hv (by omega)]
        omega
  · have e : cntV q w v + 2 + i = cntV q w (v + 1) := by omega
    refine out h _ ⟨rfl, rfl, ⟨?_, ?_⟩, rfl⟩
    · (repeat' first | exact True.intro | with_reducible rfl | apply And.intro | exact Nat.le_refl _ | (intros; with_reducible rfl) | (intros; assumption) | decide | (intros; exact Nat.le_refl _) | (intros; apply Or.inl; with_reducible rfl))
    · (repeat' first | exact True.intro | with_reducible rfl | apply And.intro | exact Nat.le_refl _ | (intros; with_reducible rfl) | (intros; assumption) | decide | (intros; exact Nat.le_refl _) | (intros; apply Or.inl; with_reducible rfl))
      · exact fun _ _ _ => rfl
      · exact Nat.le_of_eq e.symm
theorem topQ_eq (hq : okQ q) {w v : Nat} (hw : w < q.W) (hv : v < q.L) : qT ⟨q.W, q.L, q.C, q.T, q.D, q.H, loS q.H, loE q.H q.C, loB q.H q.C q.W, loQ q.H q.C q.W, loT q.H q.C q.W q.L q.D⟩ w v = (topQ q w v : Int) := by
  have hX : ((2 : Int) + q.D) = (q.X : Int) := by unfold Lq.X; push_cast; rfl
  have h1 : qF ⟨q.W, q.L, q.C, q.T, q.D, q.H, loS q.H, loE q.H q.C, loB q.H q.C q.W, loQ q.H q.C q.W, loT q.H q.C q.W q.L q.D⟩ w = ((q.base + q.W + q.W + w * (q.L * q.X) : Nat) : Int) := by
    unfold qF atF
    rw [if_neg (by simp only; omega)]
    simp only [loQ, hX]
    unfold Lq.base
    push_cast
    omega
  unfold qT
  rw [h1, if_neg (by omega)]
  unfold atF
  rw [if_neg (by simp only; omega)]
  simp only [hX]
  unfold topQ
  rw [Nat.add_mul, Nat.mul_assoc]
  push_cast
  omega
theorem okL_q (hq : okQ q) : okL ⟨q.W, q.L, q.C, q.T, q.D, q.H, loS q.H, loE q.H q.C, loB q.H q.C q.W, loQ q.H q.C q.W, loT q.H q.C q.W q.L q.D⟩ := by
  obtain ⟨h1, h2, h3, h4, h5, h6⟩ := hq
  refine ⟨?_, ?_, ?_, ?_⟩ <;> simp only [loQ] <;> omega
theorem roundV_ok (hq : okQ q) (w v cap : Nat) (hx : Iv q w v cap) (K : Ex × St → Prop) (hA : ∀ cap, cntW q (w + 1) ≤ cap → K (.exit 6, Jw q [(11, iv w)] zero (cntW q (w + 1)) cap)) :
    Holds (roundV q w v cap) (RoundEnd (fun x : Nat × Nat => Jv q w x.1 x.2) (fun x => Iv q w x.1 x.2) (fun x => q.L - x.1) 1 5 K (v, cap)) := by
  constructor
  rw [roundV_eq]
  obtain ⟨hw, hv, hc⟩ := hx
  have hb := hq.bd
  have h2 := hq.2.1
  have hX : q.X = 2 + q.D := rfl
  have e3 : IntKind.i64.wrap ((v : Int) + 1) = ((v + 1 : Nat) : Int) := w64 (by omega)
  have hn := cntV_next (q := q) w v
  have hok := okL_q hq
  have hneg : ¬ ((topQ q w v : Int) < 0) := by omega
  simp only [Out.holds, eq_self, true_and, and_true, Nat.le_refl, implies_true, Int.ofNat_eq_natCast, Nat.lt_add_one, Nat.zero_lt_one, Int.natCast_one, Int.natCast_zero, Int.cast_ofNat_Int, decide_eq_true_eq, decide_eq_false_iff_not, e3, hok, Nat.lt_irrefl, Nat.zero_lt_succ]
  refine ⟨fun h => ?_, fun h => ?_⟩
  · have hvl : v < q.L := by omega
    have hT := topQ_eq hq hw hvl
    have ht := topQ_lt (q := q) (w := w) (v := v) (j := 0) hw hvl (by omega)
    simp only [hT, hneg, if_false]
    have a0 := A_queue (q := q) (w := w) (v := v) (j := 0) hw hvl (by omega)
    have a1 := A_queue (q := q) (w := w) (v := v) (j := 1) hw hvl (by omega)
    simp only [Nat.add_zero] at a0 ht
    refine ⟨by omega, fun x hx => ⟨⟨⟨hw, hvl, Nat.zero_le _, hx⟩, ⟨trivial, by omega, by omega, trivial⟩, ?_⟩, ⟨_, Nat.le_refl _⟩, fun cap2 hc2 => ⟨(v + 1, cap2), [1, 2, 3, 4], ⟨hw, hvl, by show cntV q w (v + 1) ≤ cap2; omega⟩, (by show q.L - (v + 1) < q.L - v; omega), rfl, rfl, ⟨?_, ?_⟩, rfl⟩⟩⟩
    · exact col_add2 (A := fun e => (cellA q e : Int)) (k := cntV q w v) (by rw [a0]) (by rw [a1]; omega)
    · (repeat' first | exact True.intro | with_reducible rfl | apply And.intro | exact Nat.le_refl _ | (intros; with_reducible rfl) | (intros; assumption) | decide | (intros; exact Nat.le_refl _) | (intros; apply Or.inl; with_reducible rfl))
    · (repeat' first | exact True.intro | with_reducible rfl | apply And.intro | exact Nat.le_refl _ | (intros; with_reducible rfl) | (intros; assumption) | decide | (intros; exact Nat.le_refl _) | (intros; apply Or.inl; with_reducible rfl))
      exact fun _ _ _ => rfl
  · have : v = q.L := by omega
    subst this
    have e := cntV_end (q := q) w
    rw [e] at hc
    refine ⟨_, [1, 2, 3, 4], ⟨rfl, rfl, ⟨?_, ?_⟩, rfl⟩, rfl, Nat.le_refl _, hA cap hc⟩
    · (repeat' first | exact True.intro | with_reducible rfl | apply And.intro | exact Nat.le_refl _ | (intros; with_reducible rfl) | (intros; assumption) | decide | (intros; exact Nat.le_refl _) | (intros; apply Or.inl; with_reducible rfl))
    · (repeat' first | exact True.intro | with_reducible rfl | apply And.intro | exact Nat.le_refl _ | (intros; with_reducible rfl) | (intros; assumption) | decide | (intros; exact Nat.le_refl _) | (intros; apply Or.inl; with_reducible rfl))
      · exact fun _ _ _ => rfl
      · exact Nat.le_of_eq e.symm
theorem roundW_ok (hq : okQ q) (w cap : Nat) (hx : w ≤ q.W ∧ cntW q w ≤ cap) (K : Ex × St → Prop) (hA : ∀ cap, q.tab ≤ cap → K (.exit 4, Jw q [] zero q.tab cap)) :
    Holds (roundW q w cap) (RoundEnd (fun x : Nat × Nat => Jw q [(11, iv x.1)] zero (cntW q x.1) x.2) (fun x => x.1 ≤ q.W ∧ cntW q x.1 ≤ x.2) (fun x => q.W - x.1) 1 5 K (w, cap)) := by
  constructor
  rw [roundW_eq]
  obtain ⟨hw, hc⟩ := hx
  have hb := hq.bd
  obtain ⟨h1, h2, h3, h4, h5, h6⟩ := id hq
  have e3 : IntKind.i64.wrap ((w : Int) + 1) = ((w + 1 : Nat) : Int) := w64 (by omega)
  have e0 : cntV q w 0 = cntW q w + 2 := by unfold cntV cntW; omega
  have hE : loE (q.H : Int) (q.C : Int) = (q.base : Int) := by unfold loE Lq.base; push_cast; rfl
  have hB : loB (q.H : Int) (q.C : Int) (q.W : Int) = ((q.base + q.W : Nat) : Int) := by unfold loB Lq.base; push_cast; rfl
  simp only [Out.holds, eq_self, true_and, and_true, Nat.le_refl, implies_true, Int.ofNat_eq_natCast, Nat.lt_add_one, Nat.zero_lt_one, Int.natCast_one, Int.natCast_zero, Int.cast_ofNat_Int, decide_eq_true_eq, decide_eq_false_iff_not, e3, Nat.lt_irrefl, Nat.zero_lt_succ, e0]
  refine ⟨fun h => ?_, fun h => ?_⟩
  · have hwl : w < q.W := by omega
    have hbase : q.base ≤ 132 := by unfold Lq.base; omega
    have hr := row_lt (q := q) (w := w) (r := 1) hwl (by omega)
    have hcw : cntW q w + 1 < q.tab := hr
    have a0 := A_epoch (q := q) hwl
    have a1 := A_bits (q := q) hwl
    have v0 : atF (w : Int) (q.W : Int) (loE (q.H : Int) (q.C : Int)) 1 = (cellA q (cntW q w) : Int) := by rw [atF, if_neg (by omega), a0, hE]; omega
    have v1 : atF (w : Int) (q.W : Int) (loB (q.H : Int) (q.C : Int) (q.W : Int)) 1 = (cellA q (cntW q w + 1) : Int) := by rw [atF, if_neg (by omega), a1, hB]; omega
    refine ⟨fun _ => ⟨⟨by omega, by omega⟩, ⟨by omega, by omega⟩⟩, fun _ => ⟨⟨by omega, by omega⟩, ⟨by omega, by omega⟩⟩, by omega, fun x hx => ⟨⟨⟨hwl, Nat.zero_le _, by omega⟩, ?_⟩, ⟨_, Nat.le_refl _⟩, fun cap2 hc2 => ⟨(w + 1, cap2), [1, 2, 3, 4], ⟨hwl, hc2⟩, (by show q.W - (w + 1) < q.W - w; omega), rfl, rfl, ⟨?_, ?_⟩, rfl⟩⟩⟩
    · exact col_add2 (A := fun e => (cellA q e : Int)) (k := cntW q w) v0 v1
    · (repeat' first | exact True.intro | with_reducible rfl | apply And.intro | exact Nat.le_refl _ | (intros; with_reducible rfl) | (intros; assumption) | decide | (intros; exact Nat.le_refl _) | (intros; apply Or.inl; with_reducible rfl))
    · (repeat' first | exact True.intro | with_reducible rfl | apply And.intro | exact Nat.le_refl _ | (intros; with_reducible rfl) | (intros; assumption) | decide | (intros; exact Nat.le_refl _) | (intros; apply Or.inl; with_reducible rfl))
      exact fun _ _ _ => rfl
  · have : w = q.W := by omega
    subst this
    refine ⟨_, [1, 2, 3, 4], ⟨rfl, rfl, ⟨?_, ?_⟩, rfl⟩, rfl, Nat.le_refl _, hA cap hc⟩
    · (repeat' first | exact True.intro | with_reducible rfl | apply And.intro | exact Nat.le_refl _ | (intros; with_reducible rfl) | (intros; assumption) | decide | (intros; exact Nat.le_refl _) | (intros; apply Or.inl; with_reducible rfl))
      rfl
    · (repeat' first | exact True.intro | with_reducible rfl | apply And.intro | exact Nat.le_refl _ | (intros; with_reducible rfl) | (intros; assumption) | decide | (intros; exact Nat.le_refl _) | (intros; apply Or.inl; with_reducible rfl))
      exact fun _ _ _ => rfl
theorem col_add5 {A : Nat → Int} {k : Nat} {a b c d f : Int} (ha : a = A k) (hb : b = A (k + 1)) (hc : c = A (k + 1 + 1)) (hd : d = A (k + 1 + 1 + 1)) (hf : f = A (k + 1 + 1 + 1 + 1)) (i' e : Nat) (_ : i' = 0 ∧ e < k + 5) :
    (if i' = 0 ∧ e = k + 1 + 1 + 1 + 1 then f else if i' = 0 ∧ e = k + 1 + 1 + 1 then d else if i' = 0 ∧ e = k + 1 + 1 then c else if i' = 0 ∧ e = k + 1 then b else if i' = 0 ∧ e = k then a else A e) = A e := by
  split
  · rename_i h1; rw [h1.2, hf]
  split
  · rename_i h1; rw [h1.2, hd]
  split
  · rename_i h1; rw [h1.2, hc]
  split
  · rename_i h1; rw [h1.2, hb]
  split
  · rename_i h1; rw [h1.2, ha]
  · rfl
theorem roundT_ok (hq : okQ q) (t cap : Nat) (hx : t ≤ q.T ∧ q.tab + 5 * t ≤ cap) (K : Ex × St → Prop) (hA : ∀ cap, q.n ≤ cap → K (.exit 10, Jw q [] zero q.n cap)) :
    Holds (roundT5 q t cap) (RoundEnd (fun x : Nat × Nat => Jw q [(15, iv x.1)] zero (q.tab + 5 * x.1) x.2) (fun x => x.1 ≤ q.T ∧ q.tab + 5 * x.1 ≤ x.2) (fun x => q.T - x.1) 1 5 K (t, cap)) := by
  constructor
  rw [roundT_eq]
  obtain ⟨ht, hc⟩ := hx
  have hb := hq.bd
  have h4 := hq.2.2.2.1
  have e3 : IntKind.i64.wrap ((t : Int) + 1) = ((t + 1 : Nat) : Int) := w64 (by omega)
  have hl := loT_eq q
  have w0 : IntKind.i64.wrap ((q.tab : Int) + 0) = (q.tab : Int) := by rw [w64 (by omega)]; omega
  have w1 : IntKind.i64.wrap ((q.tab : Int) + 1) = (q.tab : Int) + 1 := w64 (by omega)
  have w2 : IntKind.i64.wrap ((q.tab : Int) + 2) = (q.tab : Int) + 2 := w64 (by omega)
  have w3 : IntKind.i64.wrap ((q.tab : Int) + 3) = (q.tab : Int) + 3 := w64 (by omega)
  have w4 : IntKind.i64.wrap ((q.tab : Int) + 4) = (q.tab : Int) + 4 := w64 (by omega)
  simp only [Out.holds, eq_self, true_and, and_true, Nat.le_refl, implies_true, Int.ofNat_eq_natCast, Nat.lt_add_one, Nat.zero_lt_one, Int.natCast_one, Int.natCast_zero, Int.cast_ofNat_Int, decide_eq_true_eq, decide_eq_false_iff_not, e3, Nat.lt_irrefl, Nat.zero_lt_succ, hl, w0, w1, w2, w3, w4]
  have hi : ∀ j, q.tab ≤ j → cellA q j = j := fun j h => A_high h
  refine ⟨fun h => ?_, fun h => ?_⟩
  · have f : ∀ k : Int, 0 ≤ k → k ≤ 4 → (¬ ((t : Int) < 0 ∨ (q.T : Int) ≤ (t : Int)) → Fit ((t : Int) * 5) ∧ Fit ((q.tab : Int) + k + (t : Int) * 5)) := fun k h0 h1 _ => ⟨⟨by omega, by omega⟩, ⟨by omega, by omega⟩⟩
    have f0 : (¬ ((t : Int) < 0 ∨ (q.T : Int) ≤ (t : Int)) → Fit ((t : Int) * 5) ∧ Fit ((q.tab : Int) + (t : Int) * 5)) := fun _ => ⟨⟨by omega, by omega⟩, ⟨by omega, by omega⟩⟩
    refine ⟨f0, f 1 (by decide) (by decide), f 2 (by decide) (by decide), f 3 (by decide) (by decide), f 4 (by decide) (by decide), by decide, by decide, by decide, by omega, fun x hx => ⟨(t + 1, x), [1, 2, 3, 9345848836101], ⟨by show t + 1 ≤ q.T; omega, by show q.tab + 5 * (t + 1) ≤ x; omega⟩, (by show q.T - (t + 1) < q.T - t; omega), rfl, rfl, ⟨?_, ?_⟩, rfl⟩⟩
    · (repeat' first | exact True.intro | with_reducible rfl | apply And.intro | exact Nat.le_refl _ | (intros; with_reducible rfl) | (intros; assumption) | decide | (intros; exact Nat.le_refl _) | (intros; apply Or.inl; with_reducible rfl))
      rfl
    · (repeat' first | exact True.intro | with_reducible rfl | apply And.intro | exact Nat.le_refl _ | (intros; with_reducible rfl) | (intros; assumption) | decide | (intros; exact Nat.le_refl _) | (intros; apply Or.inl; with_reducible rfl))
      · exact hl.symm
      · exact fun _ _ _ => rfl
      · refine col_add5 (A := fun e => (cellA q e : Int)) (k := q.tab + 5 * t) ?_ ?_ ?_ ?_ ?_
        all_goals (rw [atF, if_neg (by omega), hi _ (by omega)]; omega)
  · have : t = q.T := by omega
    subst this
    refine ⟨_, [1, 2, 3, 4], ⟨rfl, rfl, ⟨?_, ?_⟩, rfl⟩, rfl, Nat.le_refl _, hA cap hc⟩
    · (repeat' first | exact True.intro | with_reducible rfl | apply And.intro | exact Nat.le_refl _ | (intros; with_reducible rfl) | (intros; assumption) | decide | (intros; exact Nat.le_refl _) | (intros; apply Or.inl; with_reducible rfl))
      rfl
    · (repeat' first | exact True.intro | with_reducible rfl | apply And.intro | exact Nat.le_refl _ | (intros; with_reducible rfl) | (intros; assumption) | decide | (intros; exact Nat.le_refl _) | (intros; apply Or.inl; with_reducible rfl))
      · exact hl.symm
      · exact fun _ _ _ => rfl
end Go.Proofs.Ytjpnpaboahbncaa.Lw

/- LayoutWhole: the function. -/
set_option linter.unusedVariables false
namespace Go.Proofs.Ytjpnpaboahbncaa.Lw
open Go Go.RowKit Sx Cn Dc Ck Ly
noncomputable section
variable (q : Lq)
def exitW (i cnt : Nat) (lo : Nat) : Out (Ex × St) := .any Nat (fun cap => lo ≤ cap) fun cap => .leaf (.exit i, Jw q [] zero cnt cap)
def annH : Ann := pickA capS fun cap => loopA (fun x : Nat × Nat => Jw q [(9, iv x.1)] zero (4 + x.1) x.2) (fun x => x.1 ≤ q.H ∧ 4 + x.1 ≤ x.2) 1 (0, cap) L4 (exitW q 0 (4 + q.H) (4 + q.H))
def annK : Ann := pickA capS fun cap => loopA (fun x : Nat × Nat => Jw q [(10, iv x.1)] zero (4 + q.H + x.1) x.2) (fun x => x.1 ≤ q.C ∧ 4 + q.H + x.1 ≤ x.2) 1 (0, cap) L4 (exitW q 2 q.base q.base)
def annW : Ann := pickA capS fun cap => loopA (fun x : Nat × Nat => Jw q [(11, iv x.1)] zero (cntW q x.1) x.2) (fun x => x.1 ≤ q.W ∧ cntW q x.1 ≤ x.2) 1 (0, cap) L4 (exitW q 4 q.tab q.tab)
def annT : Ann := pickA capS fun cap => loopA (fun x : Nat × Nat => Jw q [(15, iv x.1)] zero (q.tab + 5 * x.1) x.2) (fun x => x.1 ≤ q.T ∧ q.tab + 5 * x.1 ≤ x.2) 1 (0, cap) L4 (exitW q 10 q.n q.n)
def annM : Ann := pickA capS fun cap => loopA (fun i : Nat => Jw q [(16, iv i)] (mark q i) q.n cap) (fun i => i ≤ q.n ∧ q.n ≤ cap) 1 0 L4 (.leaf (.exit 12, ⟨tms 193 [(6, iv (q.n : Int)), (8, .c (slK 4 1 q.n cap))], ⟨[(4, .row 3 cap q.n [.ci .i64 fun _ e => (cellA q e : Int)])], 5, fun _ => True⟩⟩))
def qOf (g : Nat → Int) (len : Nat) : Lq := ⟨(dW g len).toNat, (dL g len).toNat, (dC g len).toNat, (dT g len).toNat, (dD g len).toNat, (dH g len).toNat⟩
def main10 (g : Nat → Int) (len cap : Nat) : Out (SV × Hp) := execA P con10 10 [annH (qOf g len), annK (qOf g len), annW (qOf g len), annT (qOf g len), annM (qOf g len)] 3 [] 6 10 [.c (slK 0 1 len cap)] ⟨[(0, ints .u8 len g)], 1, fun _ => True⟩
end
end Go.Proofs.Ytjpnpaboahbncaa.Lw

/- LayoutWhole: the executor's tree, printed by program. -/
set_option linter.unusedVariables false
set_option maxRecDepth 100000
set_option maxHeartbeats 4000000
namespace Go.Proofs.Ytjpnpaboahbncaa.Lw
open Go Go.RowKit Sx Cn Dc Ck Ly

theorem main10_eq (g : Nat → Int) (len cap : Nat) : main10 g len cap =
  Out.br (!decide ((↑len : Int) ≤ Int.ofNat 400))
    (Out.leaf (SV.c (SC.kb true), { h := [(0, Blk.view 1 (fun x => len) [Col.ci IntKind.u8 fun x e => g e])], nxt := 1, D := fun x => True }))
    (Out.need (((0 = 0 ∧ 0 = 0 ∧ 0 = 0 ∧ 1 = 1 ∧ len = len ∧ cap = cap) ∧ True) ∧ (1 ≤ 1 ∧ (∀ (i : Nat), i < 1 → len ≤ len) ∧ (IntKind.u8 = IntKind.u8 ∧ ∀ (i e : Nat), i < 1 ∧ e < len → g e = g e) ∧ True) ∧ True)
    (Out.need (U8 len fun e => g e)
    (Out.any (Nat → Nat) (fun FC => ∀ (e : Nat), e < nP (fun e => g e) len → lenP (fun e => g e) len e ≤ FC e) fun x => Out.any Nat (fun rc => nP (fun e => g e) len ≤ rc) fun x_1 => Out.any Nat (fun c => nU (fun e => g e) len ≤ c) fun x_2 => Out.need ((((IntKind.i64 = IntKind.i64 ∧ dW (fun e => g e) len = dW (fun e => g e) len) ∧ (IntKind.i64 = IntKind.i64 ∧ dL (fun e => g e) len = dL (fun e => g e) len) ∧ (IntKind.i64 = IntKind.i64 ∧ dC (fun e => g e) len = dC (fun e => g e) len) ∧ (IntKind.i64 = IntKind.i64 ∧ dT (fun e => g e) len = dT (fun e => g e) len) ∧ (IntKind.i64 = IntKind.i64 ∧ dD (fun e => g e) len = dD (fun e => g e) len) ∧ (IntKind.i64 = IntKind.i64 ∧ dH (fun e => g e) len = dH (fun e => g e) len) ∧ (IntKind.i64 = IntKind.i64 ∧ dB (fun e => g e) len = dB (fun e => g e) len) ∧ (IntKind.i64 = IntKind.i64 ∧ dA (fun e => g e) len = dA (fun e => g e) len) ∧ (IntKind.i64 = IntKind.i64 ∧ dP (fun e => g e) len = dP (fun e => g e) len) ∧ (3 = 3 ∧ 0 = 0 ∧ 0 = 0 ∧ 1 = 1 ∧ nP (fun e => g e) len = nP (fun e => g e) len ∧ x_1 = x_1) ∧ (4 = 4 ∧ 0 = 0 ∧ 0 = 0 ∧ 3 = 3 ∧ nU (fun e => g e) len = nU (fun e => g e) len ∧ x_2 = x_2) ∧ True) ∧ True) ∧ (1 ≤ 1 ∧ (nP (fun e => g e) len ≤ nP (fun e => g e) len ∧ nP (fun e => g e) len ≤ x_1) ∧ (2 = 2 ∧ 3 = 3 ∧ (∀ (i e : Nat), i = 0 ∧ e < nP (fun e => g e) len → e = e) ∧ (∀ (i e : Nat), i = 0 ∧ e < nP (fun e => g e) len → lenP (fun e => g e) len e = lenP (fun e => g e) len e) ∧ ∀ (i e : Nat), i = 0 ∧ e < nP (fun e => g e) len → x e = x e) ∧ True) ∧ (1 ≤ 1 ∧ (nU (fun e => g e) len ≤ nU (fun e => g e) len ∧ nU (fun e => g e) len ≤ x_2) ∧ (IntKind.i64 = IntKind.i64 ∧ ∀ (i e : Nat), i = 0 ∧ e < nU (fun e => g e) len → uP (fun e => g e) len e = uP (fun e => g e) len e) ∧ (IntKind.i64 = IntKind.i64 ∧ ∀ (i e : Nat), i = 0 ∧ e < nU (fun e => g e) len → uL (fun e => g e) len e = uL (fun e => g e) len e) ∧ (IntKind.i64 = IntKind.i64 ∧ ∀ (i e : Nat), i = 0 ∧ e < nU (fun e => g e) len → uD (fun e => g e) len e = uD (fun e => g e) len e) ∧ True) ∧ ((∀ (i : Nat), i < nP (fun e => g e) len → lenP (fun e => g e) len i ≤ gd (nP (fun e => g e) len) (lenP (fun e => g e) len) i ∧ lenP (fun e => g e) len i ≤ gd (nP (fun e => g e) len) x i) ∧ (IntKind.i64 = IntKind.i64 ∧ ∀ (i e : Nat), i < nP (fun e => g e) len ∧ e < lenP (fun e => g e) len i → cO (fun e => g e) len i e = cO (fun e => g e) len i e) ∧ (IntKind.i64 = IntKind.i64 ∧ ∀ (i e : Nat), i < nP (fun e => g e) len ∧ e < lenP (fun e => g e) len i → cA (fun e => g e) len i e = cA (fun e => g e) len i e) ∧ (IntKind.i64 = IntKind.i64 ∧ ∀ (i e : Nat), i < nP (fun e => g e) len ∧ e < lenP (fun e => g e) len i → cB (fun e => g e) len i e = cB (fun e => g e) len i e) ∧ True) ∧ True)
    (Out.need (okC { W := dW (fun e => g e) len, L := dL (fun e => g e) len, C := dC (fun e => g e) len, T := dT (fun e => g e) len, D := dD (fun e => g e) len, H := dH (fun e => g e) len, B := dB (fun e => g e) len, A := dA (fun e => g e) len, P := dP (fun e => g e) len, nP := nP (fun e => g e) len, rc := x_1, nU := nU (fun e => g e) len, cu := x_2, lenP := fun e => lenP (fun e => g e) len e, FC := fun e => x e, iO := fun i e => cO (fun e => g e) len i e, iA := fun i e => cA (fun e => g e) len i e, iB := fun i e => cB (fun e => g e) len i e, uP := fun e => uP (fun e => g e) len e, uL := fun e => uL (fun e => g e) len e, uD := fun e => uD (fun e => g e) len e })
    (Out.need (True ∧ True)
    (Out.need (0 < 1 ∧ 0 < 1)
    (Out.need (0 < 1 ∧ 0 < 1)
    (Out.need (0 < 1 ∧ 0 < 1)
    (Out.need (0 < 1 ∧ 0 < 1)
    (Out.need (0 < 1 ∧ 0 < 1)
    (Out.need (0 < 1 ∧ 0 < 1)
    (Out.need (0 < 1 ∧ 0 < 1)
    (Out.need (0 < 1 ∧ 0 < 1)
    (Out.need (0 < 1 ∧ 0 < 1)
    (Out.need (0 < 1 ∧ 0 < 1)
    (Out.need (0 < 1 ∧ 0 < 1)
    (Out.need (0 < 1 ∧ 0 < 1)
    (Out.need (0 < 1 ∧ 0 < 1)
    (Out.need (0 < 1 ∧ 0 < 1)
    (Out.need (0 < 1 ∧ 0 < 1)
    (Out.need (0 < 1 ∧ 0 < 1)
    (Out.need (0 < 1 ∧ 0 < 1)
    (Out.need (0 < 1 ∧ 0 < 1)
    (Out.need (0 < 1 ∧ 0 < 1)
    (Out.br (IntKind.i64.wrap (loT (dH (fun e => g e) len) (dC (fun e => g e) len) (dW (fun e => g e) len) (dL (fun e => g e) len) (dD (fun e => g e) len) + IntKind.i64.wrap (Int.ofNat 5 * dT (fun e => g e) len)) != IntKind.i64.wrap (IntKind.i64.wrap (IntKind.i64.wrap (IntKind.i64.wrap (IntKind.i64.wrap (Int.ofNat 4 + dH (fun e => g e) len) + dC (fun e => g e) len) + IntKind.i64.wrap (Int.ofNat 2 * dW (fun e => g e) len)) + IntKind.i64.wrap (IntKind.i64.wrap (dW (fun e => g e) len * dL (fun e => g e) len) * IntKind.i64.wrap (Int.ofNat 2 + dD (fun e => g e) len))) + IntKind.i64.wrap (Int.ofNat 5 * dT (fun e => g e) len)))
    (Out.leaf (SV.c (SC.kb false), { h := [(0, Blk.view 1 (fun x => len) [Col.ci IntKind.u8 fun x e => g e])], nxt := 38280596832649225, D := fun x => True }))
    (Out.need (Int.ofNat 0 ≤ IntKind.i64.wrap (loT (dH (fun e => g e) len) (dC (fun e => g e) len) (dW (fun e => g e) len) (dL (fun e => g e) len) (dD (fun e => g e) len) + IntKind.i64.wrap (Int.ofNat 5 * dT (fun e => g e) len)) ∧ IntKind.i64.wrap (loT (dH (fun e => g e) len) (dC (fun e => g e) len) (dW (fun e => g e) len) (dL (fun e => g e) len) (dD (fun e => g e) len) + IntKind.i64.wrap (Int.ofNat 5 * dT (fun e => g e) len)) ≤ IntKind.i64.wrap (loT (dH (fun e => g e) len) (dC (fun e => g e) len) (dW (fun e => g e) len) (dL (fun e => g e) len) (dD (fun e => g e) len) + IntKind.i64.wrap (Int.ofNat 5 * dT (fun e => g e) len)) ∧ (↑8 : Int) * IntKind.i64.wrap (loT (dH (fun e => g e) len) (dC (fun e => g e) len) (dW (fun e => g e) len) (dL (fun e => g e) len) (dD (fun e => g e) len) + IntKind.i64.wrap (Int.ofNat 5 * dT (fun e => g e) len)) ≤ Int.ofNat 281474976710656 ∧ IntKind.i64.wrap (loT (dH (fun e => g e) len) (dC (fun e => g e) len) (dW (fun e => g e) len) (dL (fun e => g e) len) (dD (fun e => g e) len) + IntKind.i64.wrap (Int.ofNat 5 * dT (fun e => g e) len)) ≤ Int.ofNat 9223372036854775807)
    (Out.need (0 < 1 ∧ 0 < 1)
    (Out.need (0 < 1 ∧ 0 < 1)
    (Out.need (0 < 1 ∧ 0 < 1)
    (Out.need (0 < 1 ∧ 0 < 1)
    (Out.need (0 < 1 ∧ 0 < 1)
    (Out.need (0 < 1 ∧ 0 < 1)
    (Out.need (0 < 1 ∧ 0 < 1)
    (Out.need (0 < 1 ∧ 0 < 1)
    (Out.need (0 < 1 ∧ 0 < 1)
    (Out.need (0 < 1 ∧ 0 < 1)
    (Out.need (0 < 1 ∧ 0 < 1)
    (Out.need (0 < 1 ∧ 0 < 1)
    (Out.need (0 < 1 ∧ 0 < 1)
    (Out.need (0 < 1 ∧ 0 < 1)
    (Out.need (0 < 1 ∧ 0 < 1)
    (Out.need (0 < 1 ∧ 0 < 1)
    (Out.need (0 < 1 ∧ 0 < 1)
    (Out.need (0 < 1 ∧ 0 < 1)
    (Out.need (0 < 1 ∧ 0 < 1)
    (Out.need (0 < 1 ∧ 0 < 1)
    (Out.need (0 < 1 ∧ 0 < 1)
    (Out.need (0 < 1 ∧ 0 < 1)
    (Out.need (0 < 1 ∧ 0 < 1)
    (Out.need (0 < 1 ∧ 0 < 1)
    (Out.need (0 < 1 ∧ 0 < 1)
    (Out.need (0 < 1 ∧ 0 < 1)
    (Out.need (0 < 1 ∧ 0 < 1)
    (Out.need (0 < 1 ∧ 0 < 1)
    (Out.need (0 < 1 ∧ 0 < 1)
    (Out.need (0 < 1 ∧ 0 < 1)
    (Out.need (0 < 1 ∧ 0 < 1)
    (Out.need (0 < 1 ∧ 0 < 1)
    (Out.need (0 < 1 ∧ 0 < 1)
    (Out.need (0 < 1 ∧ 0 < 1)
    (Out.need (0 < 1 ∧ 0 < 1)
    (Out.need (0 < 1 ∧ 0 < 1)
    (Out.need (0 < 1 ∧ 0 < 1)
    (Out.need (0 < 1 ∧ 0 < 1)
    (Out.need (0 < 1 ∧ 0 < 1)
    (Out.need (0 < 1 ∧ 0 < 1)
    (Out.need (0 < 1 ∧ 0 < 1)
    (Out.need (0 < 1 ∧ 0 < 1)
    (Out.need (0 < 1 ∧ 0 < 1)
    (Out.need (0 < 1 ∧ 0 < 1)
    (Out.need ((0 ≤ (dH g len).toNat ∧ 4 ≤ 4) ∧ (∀ (k : Nat), True) ∧ (∀ (k : Nat), True) ∧ ((5 = 5 ∧ 0 = 0 ∧ 0 = 0 ∧ 0 = 0 ∧ 11 = 11) ∧ (6 = 6 ∧ 0 = 0 ∧ 0 = 0 ∧ 0 = 0 ∧ 11 = 11) ∧ (IntKind.i64 = IntKind.i64 ∧ IntKind.i64.wrap (loT (dH (fun e => g e) len) (dC (fun e => g e) len) (dW (fun e => g e) len) (dL (fun e => g e) len) (dD (fun e => g e) len) + IntKind.i64.wrap (Int.ofNat 5 * dT (fun e => g e) len)) = (↑(qOf g len).n : Int)) ∧ (38280596832649225 = 38280596832649225 ∧ 0 = 0 ∧ 0 = 0 ∧ 1 = 1 ∧ (IntKind.i64.wrap (loT (dH (fun e => g e) len) (dC (fun e => g e) len) (dW (fun e => g e) len) (dL (fun e => g e) len) (dD (fun e => g e) len) + IntKind.i64.wrap (Int.ofNat 5 * dT (fun e => g e) len))).toNat = (qOf g len).n ∧ (IntKind.i64.wrap (loT (dH (fun e => g e) len) (dC (fun e => g e) len) (dW (fun e => g e) len) (dL (fun e => g e) len) (dD (fun e => g e) len) + IntKind.i64.wrap (Int.ofNat 5 * dT (fun e => g e) len))).toNat = (qOf g len).n) ∧ (73825256891670855690 = 73825256891670855690 ∧ 0 = 0 ∧ 0 = 0 ∧ 1 = 1 ∧ 4 = 4 ∧ 4 = 4) ∧ (IntKind.i64 = IntKind.i64 ∧ Int.ofNat 0 = (↑0 : Int)) ∧ True) ∧ (29 = 29 ∧ 11 = 11 ∧ (IntKind.i64 = IntKind.i64 ∧ dW (fun e => g e) len = (↑(dW g len).toNat : Int)) ∧ (IntKind.i64 = IntKind.i64 ∧ dL (fun e => g e) len = (↑(dL g len).toNat : Int)) ∧ (IntKind.i64 = IntKind.i64 ∧ dC (fun e => g e) len = (↑(dC g len).toNat : Int)) ∧ (IntKind.i64 = IntKind.i64 ∧ dT (fun e => g e) len = (↑(dT g len).toNat : Int)) ∧ (IntKind.i64 = IntKind.i64 ∧ dD (fun e => g e) len = (↑(dD g len).toNat : Int)) ∧ (IntKind.i64 = IntKind.i64 ∧ dH (fun e => g e) len = (↑(dH g len).toNat : Int)) ∧ True) ∧ (31 = 31 ∧ 11 = 11 ∧ (IntKind.i64 = IntKind.i64 ∧ dW (fun e => g e) len = (↑(dW g len).toNat : Int)) ∧ (IntKind.i64 = IntKind.i64 ∧ dL (fun e => g e) len = (↑(dL g len).toNat : Int)) ∧ (IntKind.i64 = IntKind.i64 ∧ dC (fun e => g e) len = (↑(dC g len).toNat : Int)) ∧ (IntKind.i64 = IntKind.i64 ∧ dT (fun e => g e) len = (↑(dT g len).toNat : Int)) ∧ (IntKind.i64 = IntKind.i64 ∧ dD (fun e => g e) len = (↑(dD g len).toNat : Int)) ∧ (IntKind.i64 = IntKind.i64 ∧ dH (fun e => g e) len = (↑(dH g len).toNat : Int)) ∧ (IntKind.i64 = IntKind.i64 ∧ loS (dH (fun e => g e) len) = loS (↑(dH g len).toNat : Int)) ∧ (IntKind.i64 = IntKind.i64 ∧ loE (dH (fun e => g e) len) (dC (fun e => g e) len) = loE (↑(dH g len).toNat : Int) (↑(dC g len).toNat : Int)) ∧ (IntKind.i64 = IntKind.i64 ∧ loB (dH (fun e => g e) len) (dC (fun e => g e) len) (dW (fun e => g e) len) = loB (↑(dH g len).toNat : Int) (↑(dC g len).toNat : Int) (↑(dW g len).toNat : Int)) ∧ (IntKind.i64 = IntKind.i64 ∧ loQ (dH (fun e => g e) len) (dC (fun e => g e) len) (dW (fun e => g e) len) = loQ (↑(dH g len).toNat : Int) (↑(dC g len).toNat : Int) (↑(dW g len).toNat : Int)) ∧ (IntKind.i64 = IntKind.i64 ∧ loT (dH (fun e => g e) len) (dC (fun e => g e) len) (dW (fun e => g e) len) (dL (fun e => g e) len) (dD (fun e => g e) len) = loT (↑(dH g len).toNat : Int) (↑(dC g len).toNat : Int) (↑(dW g len).toNat : Int) (↑(dL g len).toNat : Int) (↑(dD g len).toNat : Int)) ∧ True) ∧ (3 = 3 ∧ (IntKind.i64.wrap (loT (dH (fun e => g e) len) (dC (fun e => g e) len) (dW (fun e => g e) len) (dL (fun e => g e) len) (dD (fun e => g e) len) + IntKind.i64.wrap (Int.ofNat 5 * dT (fun e => g e) len))).toNat = (qOf g len).n ∧ (qOf g len).n ≤ (IntKind.i64.wrap (loT (dH (fun e => g e) len) (dC (fun e => g e) len) (dW (fun e => g e) len) (dL (fun e => g e) len) (dD (fun e => g e) len) + IntKind.i64.wrap (Int.ofNat 5 * dT (fun e => g e) len))).toNat ∧ (IntKind.i64 = IntKind.i64 ∧ ∀ (i e : Nat), i = 0 ∧ e < (qOf g len).n → Int.ofNat 0 = zero e) ∧ True) ∧ (3 = 3 ∧ 4 = 4 ∧ 4 ≤ 4 ∧ ((∀ (i e : Nat), i = 0 ∧ e < 4 → e < 4) ∧ (∀ (i : Nat), i = 0 ∧ 0 < 4 → IntKind.i64 = IntKind.i64 ∧ Int.ofNat 0 = (↑(cellA (qOf g len) 0) : Int)) ∧ (∀ (i : Nat), i = 0 ∧ 1 < 4 → IntKind.i64 = IntKind.i64 ∧ Int.ofNat 1 = (↑(cellA (qOf g len) 1) : Int)) ∧ (∀ (i : Nat), i = 0 ∧ 2 < 4 → IntKind.i64 = IntKind.i64 ∧ Int.ofNat 2 = (↑(cellA (qOf g len) 2) : Int)) ∧ (∀ (i : Nat), i = 0 ∧ 3 < 4 → IntKind.i64 = IntKind.i64 ∧ Int.ofNat 3 = (↑(cellA (qOf g len) 3) : Int)) ∧ True) ∧ True) ∧ True)
    (Out.any Nat (fun cap => 4 + (dH g len).toNat ≤ cap) fun x => Out.need ((0 ≤ (dC g len).toNat ∧ 4 + (dH g len).toNat + 0 ≤ x) ∧ (∀ (k : Nat), True) ∧ (∀ (k : Nat), True) ∧ ((1 = 1 ∧ 0 = 0 ∧ 0 = 0 ∧ 0 = 0 ∧ 11 = 11) ∧ (2 = 2 ∧ 0 = 0 ∧ 0 = 0 ∧ 0 = 0 ∧ 11 = 11) ∧ (IntKind.i64 = IntKind.i64 ∧ (↑(qOf g len).n : Int) = (↑(qOf g len).n : Int)) ∧ (3 = 3 ∧ 0 = 0 ∧ 0 = 0 ∧ 1 = 1 ∧ (qOf g len).n = (qOf g len).n ∧ (qOf g len).n = (qOf g len).n) ∧ (4 = 4 ∧ 0 = 0 ∧ 0 = 0 ∧ 1 = 1 ∧ 4 + (dH g len).toNat = 4 + (dH g len).toNat + 0 ∧ x = x) ∧ (IntKind.i64 = IntKind.i64 ∧ Int.ofNat 0 = (↑0 : Int)) ∧ True) ∧ (29 = 29 ∧ 11 = 11 ∧ (IntKind.i64 = IntKind.i64 ∧ (↑(dW g len).toNat : Int) = (↑(dW g len).toNat : Int)) ∧ (IntKind.i64 = IntKind.i64 ∧ (↑(dL g len).toNat : Int) = (↑(dL g len).toNat : Int)) ∧ (IntKind.i64 = IntKind.i64 ∧ (↑(dC g len).toNat : Int) = (↑(dC g len).toNat : Int)) ∧ (IntKind.i64 = IntKind.i64 ∧ (↑(dT g len).toNat : Int) = (↑(dT g len).toNat : Int)) ∧ (IntKind.i64 = IntKind.i64 ∧ (↑(dD g len).toNat : Int) = (↑(dD g len).toNat : Int)) ∧ (IntKind.i64 = IntKind.i64 ∧ (↑(dH g len).toNat : Int) = (↑(dH g len).toNat : Int)) ∧ True) ∧ (31 = 31 ∧ 11 = 11 ∧ (IntKind.i64 = IntKind.i64 ∧ (↑(dW g len).toNat : Int) = (↑(dW g len).toNat : Int)) ∧ (IntKind.i64 = IntKind.i64 ∧ (↑(dL g len).toNat : Int) = (↑(dL g len).toNat : Int)) ∧ (IntKind.i64 = IntKind.i64 ∧ (↑(dC g len).toNat : Int) = (↑(dC g len).toNat : Int)) ∧ (IntKind.i64 = IntKind.i64 ∧ (↑(dT g len).toNat : Int) = (↑(dT g len).toNat : Int)) ∧ (IntKind.i64 = IntKind.i64 ∧ (↑(dD g len).toNat : Int) = (↑(dD g len).toNat : Int)) ∧ (IntKind.i64 = IntKind.i64 ∧ (↑(dH g len).toNat : Int) = (↑(dH g len).toNat : Int)) ∧ (IntKind.i64 = IntKind.i64 ∧ loS (↑(dH g len).toNat : Int) = loS (↑(dH g len).toNat : Int)) ∧ (IntKind.i64 = IntKind.i64 ∧ loE (↑(dH g len).toNat : Int) (↑(dC g len).toNat : Int) = loE (↑(dH g len).toNat : Int) (↑(dC g len).toNat : Int)) ∧ (IntKind.i64 = IntKind.i64 ∧ loB (↑(dH g len).toNat : Int) (↑(dC g len).toNat : Int) (↑(dW g len).toNat : Int) = loB (↑(dH g len).toNat : Int) (↑(dC g len).toNat : Int) (↑(dW g len).toNat : Int)) ∧ (IntKind.i64 = IntKind.i64 ∧ loQ (↑(dH g len).toNat : Int) (↑(dC g len).toNat : Int) (↑(dW g len).toNat : Int) = loQ (↑(dH g len).toNat : Int) (↑(dC g len).toNat : Int) (↑(dW g len).toNat : Int)) ∧ (IntKind.i64 = IntKind.i64 ∧ loT (↑(dH g len).toNat : Int) (↑(dC g len).toNat : Int) (↑(dW g len).toNat : Int) (↑(dL g len).toNat : Int) (↑(dD g len).toNat : Int) = loT (↑(dH g len).toNat : Int) (↑(dC g len).toNat : Int) (↑(dW g len).toNat : Int) (↑(dL g len).toNat : Int) (↑(dD g len).toNat : Int)) ∧ True) ∧ (3 = 3 ∧ (qOf g len).n = (qOf g len).n ∧ (qOf g len).n ≤ (qOf g len).n ∧ (IntKind.i64 = IntKind.i64 ∧ ∀ (i e : Nat), i = 0 ∧ e < (qOf g len).n → zero e = zero e) ∧ True) ∧ (3 = 3 ∧ x = x ∧ 4 + (dH g len).toNat + 0 ≤ 4 + (dH g len).toNat ∧ (IntKind.i64 = IntKind.i64 ∧ ∀ (i e : Nat), i = 0 ∧ e < 4 + (dH g len).toNat + 0 → (↑(cellA (qOf g len) e) : Int) = (↑(cellA (qOf g len) e) : Int)) ∧ True) ∧ True)
    (Out.any Nat (fun cap => (qOf g len).base ≤ cap) fun x => Out.need ((0 ≤ (dW g len).toNat ∧ cntW (qOf g len) 0 ≤ x) ∧ (∀ (k : Nat), True) ∧ (∀ (k : Nat), True) ∧ ((1 = 1 ∧ 0 = 0 ∧ 0 = 0 ∧ 0 = 0 ∧ 11 = 11) ∧ (2 = 2 ∧ 0 = 0 ∧ 0 = 0 ∧ 0 = 0 ∧ 11 = 11) ∧ (IntKind.i64 = IntKind.i64 ∧ (↑(qOf g len).n : Int) = (↑(qOf g len).n : Int)) ∧ (3 = 3 ∧ 0 = 0 ∧ 0 = 0 ∧ 1 = 1 ∧ (qOf g len).n = (qOf g len).n ∧ (qOf g len).n = (qOf g len).n) ∧ (4 = 4 ∧ 0 = 0 ∧ 0 = 0 ∧ 1 = 1 ∧ (qOf g len).base = cntW (qOf g len) 0 ∧ x = x) ∧ (IntKind.i64 = IntKind.i64 ∧ Int.ofNat 0 = (↑0 : Int)) ∧ True) ∧ (29 = 29 ∧ 11 = 11 ∧ (IntKind.i64 = IntKind.i64 ∧ (↑(dW g len).toNat : Int) = (↑(dW g len).toNat : Int)) ∧ (IntKind.i64 = IntKind.i64 ∧ (↑(dL g len).toNat : Int) = (↑(dL g len).toNat : Int)) ∧ (IntKind.i64 = IntKind.i64 ∧ (↑(dC g len).toNat : Int) = (↑(dC g len).toNat : Int)) ∧ (IntKind.i64 = IntKind.i64 ∧ (↑(dT g len).toNat : Int) = (↑(dT g len).toNat : Int)) ∧ (IntKind.i64 = IntKind.i64 ∧ (↑(dD g len).toNat : Int) = (↑(dD g len).toNat : Int)) ∧ (IntKind.i64 = IntKind.i64 ∧ (↑(dH g len).toNat : Int) = (↑(dH g len).toNat : Int)) ∧ True) ∧ (31 = 31 ∧ 11 = 11 ∧ (IntKind.i64 = IntKind.i64 ∧ (↑(dW g len).toNat : Int) = (↑(dW g len).toNat : Int)) ∧ (IntKind.i64 = IntKind.i64 ∧ (↑(dL g len).toNat : Int) = (↑(dL g len).toNat : Int)) ∧ (IntKind.i64 = IntKind.i64 ∧ (↑(dC g len).toNat : Int) = (↑(dC g len).toNat : Int)) ∧ (IntKind.i64 = IntKind.i64 ∧ (↑(dT g len).toNat : Int) = (↑(dT g len).toNat : Int)) ∧ (IntKind.i64 = IntKind.i64 ∧ (↑(dD g len).toNat : Int) = (↑(dD g len).toNat : Int)) ∧ (IntKind.i64 = IntKind.i64 ∧ (↑(dH g len).toNat : Int) = (↑(dH g len).toNat : Int)) ∧ (IntKind.i64 = IntKind.i64 ∧ loS (↑(dH g len).toNat : Int) = loS (↑(dH g len).toNat : Int)) ∧ (IntKind.i64 = IntKind.i64 ∧ loE (↑(dH g len).toNat : Int) (↑(dC g len).toNat : Int) = loE (↑(dH g len).toNat : Int) (↑(dC g len).toNat : Int)) ∧ (IntKind.i64 = IntKind.i64 ∧ loB (↑(dH g len).toNat : Int) (↑(dC g len).toNat : Int) (↑(dW g len).toNat : Int) = loB (↑(dH g len).toNat : Int) (↑(dC g len).toNat : Int) (↑(dW g len).toNat : Int)) ∧ (IntKind.i64 = IntKind.i64 ∧ loQ (↑(dH g len).toNat : Int) (↑(dC g len).toNat : Int) (↑(dW g len).toNat : Int) = loQ (↑(dH g len).toNat : Int) (↑(dC g len).toNat : Int) (↑(dW g len).toNat : Int)) ∧ (IntKind.i64 = IntKind.i64 ∧ loT (↑(dH g len).toNat : Int) (↑(dC g len).toNat : Int) (↑(dW g len).toNat : Int) (↑(dL g len).toNat : Int) (↑(dD g len).toNat : Int) = loT (↑(dH g len).toNat : Int) (↑(dC g len).toNat : Int) (↑(dW g len).toNat : Int) (↑(dL g len).toNat : Int) (↑(dD g len).toNat : Int)) ∧ True) ∧ (3 = 3 ∧ (qOf g len).n = (qOf g len).n ∧ (qOf g len).n ≤ (qOf g len).n ∧ (IntKind.i64 = IntKind.i64 ∧ ∀ (i e : Nat), i = 0 ∧ e < (qOf g len).n → zero e = zero e) ∧ True) ∧ (3 = 3 ∧ x = x ∧ cntW (qOf g len) 0 ≤ (qOf g len).base ∧ (IntKind.i64 = IntKind.i64 ∧ ∀ (i e : Nat), i = 0 ∧ e < cntW (qOf g len) 0 → (↑(cellA (qOf g len) e) : Int) = (↑(cellA (qOf g len) e) : Int)) ∧ True) ∧ True)
    (Out.any Nat (fun cap => (qOf g len).tab ≤ cap) fun x => Out.need ((0 ≤ (dT g len).toNat ∧ (qOf g len).tab + 5 * 0 ≤ x) ∧ (∀ (k : Nat), True) ∧ (∀ (k : Nat), True) ∧ ((1 = 1 ∧ 0 = 0 ∧ 0 = 0 ∧ 0 = 0 ∧ 11 = 11) ∧ (2 = 2 ∧ 0 = 0 ∧ 0 = 0 ∧ 0 = 0 ∧ 11 = 11) ∧ (IntKind.i64 = IntKind.i64 ∧ (↑(qOf g len).n : Int) = (↑(qOf g len).n : Int)) ∧ (3 = 3 ∧ 0 = 0 ∧ 0 = 0 ∧ 1 = 1 ∧ (qOf g len).n = (qOf g len).n ∧ (qOf g len).n = (qOf g len).n) ∧ (4 = 4 ∧ 0 = 0 ∧ 0 = 0 ∧ 1 = 1 ∧ (qOf g len).tab = (qOf g len).tab + 5 * 0 ∧ x = x) ∧ (IntKind.i64 = IntKind.i64 ∧ Int.ofNat 0 = (↑0 : Int)) ∧ True) ∧ (29 = 29 ∧ 11 = 11 ∧ (IntKind.i64 = IntKind.i64 ∧ (↑(dW g len).toNat : Int) = (↑(dW g len).toNat : Int)) ∧ (IntKind.i64 = IntKind.i64 ∧ (↑(dL g len).toNat : Int) = (↑(dL g len).toNat : Int)) ∧ (IntKind.i64 = IntKind.i64 ∧ (↑(dC g len).toNat : Int) = (↑(dC g len).toNat : Int)) ∧ (IntKind.i64 = IntKind.i64 ∧ (↑(dT g len).toNat : Int) = (↑(dT g len).toNat : Int)) ∧ (IntKind.i64 = IntKind.i64 ∧ (↑(dD g len).toNat : Int) = (↑(dD g len).toNat : Int)) ∧ (IntKind.i64 = IntKind.i64 ∧ (↑(dH g len).toNat : Int) = (↑(dH g len).toNat : Int)) ∧ True) ∧ (31 = 31 ∧ 11 = 11 ∧ (IntKind.i64 = IntKind.i64 ∧ (↑(dW g len).toNat : Int) = (↑(dW g len).toNat : Int)) ∧ (IntKind.i64 = IntKind.i64 ∧ (↑(dL g len).toNat : Int) = (↑(dL g len).toNat : Int)) ∧ (IntKind.i64 = IntKind.i64 ∧ (↑(dC g len).toNat : Int) = (↑(dC g len).toNat : Int)) ∧ (IntKind.i64 = IntKind.i64 ∧ (↑(dT g len).toNat : Int) = (↑(dT g len).toNat : Int)) ∧ (IntKind.i64 = IntKind.i64 ∧ (↑(dD g len).toNat : Int) = (↑(dD g len).toNat : Int)) ∧ (IntKind.i64 = IntKind.i64 ∧ (↑(dH g len).toNat : Int) = (↑(dH g len).toNat : Int)) ∧ (IntKind.i64 = IntKind.i64 ∧ loS (↑(dH g len).toNat : Int) = loS (↑(dH g len).toNat : Int)) ∧ (IntKind.i64 = IntKind.i64 ∧ loE (↑(dH g len).toNat : Int) (↑(dC g len).toNat : Int) = loE (↑(dH g len).toNat : Int) (↑(dC g len).toNat : Int)) ∧ (IntKind.i64 = IntKind.i64 ∧ loB (↑(dH g len).toNat : Int) (↑(dC g len).toNat : Int) (↑(dW g len).toNat : Int) = loB (↑(dH g len).toNat : Int) (↑(dC g len).toNat : Int) (↑(dW g len).toNat : Int)) ∧ (IntKind.i64 = IntKind.i64 ∧ loQ (↑(dH g len).toNat : Int) (↑(dC g len).toNat : Int) (↑(dW g len).toNat : Int) = loQ (↑(dH g len).toNat : Int) (↑(dC g len).toNat : Int) (↑(dW g len).toNat : Int)) ∧ (IntKind.i64 = IntKind.i64 ∧ loT (↑(dH g len).toNat : Int) (↑(dC g len).toNat : Int) (↑(dW g len).toNat : Int) (↑(dL g len).toNat : Int) (↑(dD g len).toNat : Int) = loT (↑(dH g len).toNat : Int) (↑(dC g len).toNat : Int) (↑(dW g len).toNat : Int) (↑(dL g len).toNat : Int) (↑(dD g len).toNat : Int)) ∧ True) ∧ (3 = 3 ∧ (qOf g len).n = (qOf g len).n ∧ (qOf g len).n ≤ (qOf g len).n ∧ (IntKind.i64 = IntKind.i64 ∧ ∀ (i e : Nat), i = 0 ∧ e < (qOf g len).n → zero e = zero e) ∧ True) ∧ (3 = 3 ∧ x = x ∧ (qOf g len).tab + 5 * 0 ≤ (qOf g len).tab ∧ (IntKind.i64 = IntKind.i64 ∧ ∀ (i e : Nat), i = 0 ∧ e < (qOf g len).tab + 5 * 0 → (↑(cellA (qOf g len) e) : Int) = (↑(cellA (qOf g len) e) : Int)) ∧ True) ∧ True)
    (Out.any Nat (fun cap => (qOf g len).n ≤ cap) fun x => Out.need ((0 ≤ (qOf g len).n ∧ (qOf g len).n ≤ x) ∧ (∀ (k : Nat), True) ∧ (∀ (k : Nat), True) ∧ ((1 = 1 ∧ 0 = 0 ∧ 0 = 0 ∧ 0 = 0 ∧ 11 = 11) ∧ (2 = 2 ∧ 0 = 0 ∧ 0 = 0 ∧ 0 = 0 ∧ 11 = 11) ∧ (IntKind.i64 = IntKind.i64 ∧ (↑(qOf g len).n : Int) = (↑(qOf g len).n : Int)) ∧ (3 = 3 ∧ 0 = 0 ∧ 0 = 0 ∧ 1 = 1 ∧ (qOf g len).n = (qOf g len).n ∧ (qOf g len).n = (qOf g len).n) ∧ (4 = 4 ∧ 0 = 0 ∧ 0 = 0 ∧ 1 = 1 ∧ (qOf g len).n = (qOf g len).n ∧ x = x) ∧ (IntKind.i64 = IntKind.i64 ∧ Int.ofNat 0 = (↑0 : Int)) ∧ True) ∧ (29 = 29 ∧ 11 = 11 ∧ (IntKind.i64 = IntKind.i64 ∧ (↑(dW g len).toNat : Int) = (↑(dW g len).toNat : Int)) ∧ (IntKind.i64 = IntKind.i64 ∧ (↑(dL g len).toNat : Int) = (↑(dL g len).toNat : Int)) ∧ (IntKind.i64 = IntKind.i64 ∧ (↑(dC g len).toNat : Int) = (↑(dC g len).toNat : Int)) ∧ (IntKind.i64 = IntKind.i64 ∧ (↑(dT g len).toNat : Int) = (↑(dT g len).toNat : Int)) ∧ (IntKind.i64 = IntKind.i64 ∧ (↑(dD g len).toNat : Int) = (↑(dD g len).toNat : Int)) ∧ (IntKind.i64 = IntKind.i64 ∧ (↑(dH g len).toNat : Int) = (↑(dH g len).toNat : Int)) ∧ True) ∧ (31 = 31 ∧ 11 = 11 ∧ (IntKind.i64 = IntKind.i64 ∧ (↑(dW g len).toNat : Int) = (↑(dW g len).toNat : Int)) ∧ (IntKind.i64 = IntKind.i64 ∧ (↑(dL g len).toNat : Int) = (↑(dL g len).toNat : Int)) ∧ (IntKind.i64 = IntKind.i64 ∧ (↑(dC g len).toNat : Int) = (↑(dC g len).toNat : Int)) ∧ (IntKind.i64 = IntKind.i64 ∧ (↑(dT g len).toNat : Int) = (↑(dT g len).toNat : Int)) ∧ (IntKind.i64 = IntKind.i64 ∧ (↑(dD g len).toNat : Int) = (↑(dD g len).toNat : Int)) ∧ (IntKind.i64 = IntKind.i64 ∧ (↑(dH g len).toNat : Int) = (↑(dH g len).toNat : Int)) ∧ (IntKind.i64 = IntKind.i64 ∧ loS (↑(dH g len).toNat : Int) = loS (↑(dH g len).toNat : Int)) ∧ (IntKind.i64 = IntKind.i64 ∧ loE (↑(dH g len).toNat : Int) (↑(dC g len).toNat : Int) = loE (↑(dH g len).toNat : Int) (↑(dC g len).toNat : Int)) ∧ (IntKind.i64 = IntKind.i64 ∧ loB (↑(dH g len).toNat : Int) (↑(dC g len).toNat : Int) (↑(dW g len).toNat : Int) = loB (↑(dH g len).toNat : Int) (↑(dC g len).toNat : Int) (↑(dW g len).toNat : Int)) ∧ (IntKind.i64 = IntKind.i64 ∧ loQ (↑(dH g len).toNat : Int) (↑(dC g len).toNat : Int) (↑(dW g len).toNat : Int) = loQ (↑(dH g len).toNat : Int) (↑(dC g len).toNat : Int) (↑(dW g len).toNat : Int)) ∧ (IntKind.i64 = IntKind.i64 ∧ loT (↑(dH g len).toNat : Int) (↑(dC g len).toNat : Int) (↑(dW g len).toNat : Int) (↑(dL g len).toNat : Int) (↑(dD g len).toNat : Int) = loT (↑(dH g len).toNat : Int) (↑(dC g len).toNat : Int) (↑(dW g len).toNat : Int) (↑(dL g len).toNat : Int) (↑(dD g len).toNat : Int)) ∧ True) ∧ (3 = 3 ∧ (qOf g len).n = (qOf g len).n ∧ (qOf g len).n ≤ (qOf g len).n ∧ (IntKind.i64 = IntKind.i64 ∧ ∀ (i e : Nat), i = 0 ∧ e < (qOf g len).n → zero e = Proofs.Ytjpnpaboahbncaa.Lw.mark (qOf g len) 0 e) ∧ True) ∧ (3 = 3 ∧ x = x ∧ (qOf g len).n ≤ (qOf g len).n ∧ (IntKind.i64 = IntKind.i64 ∧ ∀ (i e : Nat), i = 0 ∧ e < (qOf g len).n → (↑(cellA (qOf g len) e) : Int) = (↑(cellA (qOf g len) e) : Int)) ∧ True) ∧ True)
    (Out.leaf (SV.c (SC.bv ((↑(qOf g len).n : Int) == (↑(qOf g len).n : Int))), { h := [], nxt := 5, D := fun x => True }))))))))))))))))))))))))))))))))))))))))))))))))))))))))))))))))))))))))))))) := by kernel_rfl


end Go.Proofs.Ytjpnpaboahbncaa.Lw

/- LayoutWhole: the law, and the walk. -/
set_option linter.unusedVariables false
set_option linter.unusedSimpArgs false
set_option maxRecDepth 100000
set_option maxHeartbeats 4000000
namespace Go.Proofs.Ytjpnpaboahbncaa.Lw
open Go Go.RowKit Sx Cn Dc Ck Ly
variable {q : Lq}
theorem fitsIn3 {f : FuncId} {k j : Nat} {x : Ann} (h : AnnOK P (.loop (loopIn3 P f k j 0)) x) : Fits P (loopsOf (loopIn2 P f k j)) [x] := fits_all fun i y hy => by
  cases i with
  | zero => simp at hy; subst hy; exact h
  | succ i => simp at hy
theorem annR_ok (hq : okQ q) (w v : Nat) : AnnOK P (.loop (loopIn3 P 10 2 0 0)) (annR q w v) := pickA_ok fun cap => loopC_ok (u := 3) (nf := 3) con11_ok (fun x => q.D - x.1) 6 (by decide) (fun _ => rfl) (fun _ => rfl) (fun _ => rfl) (gs := fun _ => []) (ls := fun _ => []) (fun x hx K hA => roundR_ok hq w v x.1 x.2 hx K (fun cap h => hA.2 cap h)) (fun _ _ => trivial) (fun _ _ => fits_nil _)
theorem annV_ok (hq : okQ q) (w : Nat) : AnnOK P (.loop (loopIn2 P 10 2 0)) (annV q w) := pickA_ok fun cap => loopC_ok (u := 3) (nf := 3) con11_ok (fun x => q.L - x.1) 5 (by decide) (fun _ => rfl) (fun _ => rfl) (fun _ => rfl) (gs := fun _ => []) (ls := fun x => [annR q w x.1]) (fun x hx K hA => roundV_ok hq w x.1 x.2 hx K (fun cap h => hA.2 cap h)) (fun _ _ => trivial) (fun x _ => fitsIn3 (annR_ok hq w x.1))
theorem annW_ok (hq : okQ q) : AnnOK P (.loop (loopIn P 10 2)) (annW q) := pickA_ok fun cap => loopC_ok (u := 3) (nf := 3) con11_ok (fun x => q.W - x.1) 5 (by decide) (fun _ => rfl) (fun _ => rfl) (fun _ => rfl) (gs := fun _ => []) (ls := fun x => [annV q x.1]) (fun x hx K hA => roundW_ok hq x.1 x.2 hx K (fun cap h => hA.2 cap h)) (fun _ _ => trivial) (fun x _ => fitsIn1 (annV_ok hq x.1))
theorem annH_ok (hq : okQ q) : AnnOK P (.loop (loopIn P 10 0)) (annH q) := pickA_ok fun cap => loopC_ok (u := 3) (nf := 3) con11_ok (fun x => q.H - x.1) 5 (by decide) (fun _ => rfl) (fun _ => rfl) (fun _ => rfl) (gs := fun _ => []) (ls := fun _ => []) (fun x hx K hA => roundH_ok hq x.1 x.2 hx K (fun cap h => hA.2 cap h)) (fun _ _ => trivial) (fun _ _ => fits_nil _)
theorem annK_ok (hq : okQ q) : AnnOK P (.loop (loopIn P 10 1)) (annK q) := pickA_ok fun cap => loopC_ok (u := 3) (nf := 3) con11_ok (fun x => q.C - x.1) 5 (by decide) (fun _ => rfl) (fun _ => rfl) (fun _ => rfl) (gs := fun _ => []) (ls := fun _ => []) (fun x hx K hA => roundK_ok hq x.1 x.2 hx K (fun cap h => hA.2 cap h)) (fun _ _ => trivial) (fun _ _ => fits_nil _)
theorem annT_ok (hq : okQ q) : AnnOK P (.loop (loopIn P 10 3)) (annT q) := pickA_ok fun cap => loopC_ok (u := 3) (nf := 3) con11_ok (fun x => q.T - x.1) 5 (by decide) (fun _ => rfl) (fun _ => rfl) (fun _ => rfl) (gs := fun _ => []) (ls := fun _ => []) (fun x hx K hA => roundT_ok hq x.1 x.2 hx K (fun cap h => hA.2 cap h)) (fun _ _ => trivial) (fun _ _ => fits_nil _)
theorem annM_ok (hq : okQ q) : AnnOK P (.loop (loopIn P 10 4)) (annM q) := pickA_ok fun cap => loopC_ok (u := 3) (nf := 3) con11_ok (fun i => q.n - i) 5 (by decide) (fun _ => rfl) (fun _ => rfl) (fun _ => rfl) (gs := fun _ => []) (ls := fun _ => []) (fun x hx K hA => roundM_ok hq x cap hx K hA) (fun _ _ => trivial) (fun _ _ => fits_nil _)
theorem call10 (hq : okQ q) : CallOK P (execA P con10 10 [annH q, annK q, annW q, annT q, annM q] 3 [] 6) := execA_ok (u := 3) con10_ok (fits_loops fun k x hx => by
  match k, hx with
  | 0, hx => simp at hx; subst hx; exact annH_ok hq
  | 1, hx => simp at hx; subst hx; exact annK_ok hq
  | 2, hx => simp at hx; subst hx; exact annW_ok hq
  | 3, hx => simp at hx; subst hx; exact annT_ok hq
  | 4, hx => simp at hx; subst hx; exact annM_ok hq
  | k + 5, hx => simp at hx) 6
theorem okQ_of {g : Nat → Int} {len : Nat} (hu : U8 len g) : okQ (qOf g len) := by
  have hW := dW_r hu; have hL := dL_r hu; have hC := dC_r hu; have hT := dT_r hu; have hD := dD_r hu; have hH := dH_r hu
  unfold okQ qOf
  simp only
  omega
end Go.Proofs.Ytjpnpaboahbncaa.Lw

/- LayoutWhole: the law, and the walk. -/
set_option linter.unusedVariables false
set_option linter.unusedSimpArgs false
set_option maxRecDepth 100000
set_option maxHeartbeats 4000000
namespace Go.Proofs.Ytjpnpaboahbncaa.Lw
open Go Go.RowKit Sx Cn Dc Ck Ly
theorem main10_yes (g : Nat → Int) (len cap : Nat) (hu : U8 len g) : Yes (main10 g len cap) := by
  constructor
  rw [main10_eq]
  generalize hgg : (fun e => g e) = g2
  obtain rfl : g = g2 := hgg
  have hW := dW_r hu; have hL := dL_r hu; have hC := dC_r hu; have hT := dT_r hu; have hD := dD_r hu; have hH := dH_r hu
  have hq := okQ_of hu
  have hb := hq.bd
  have tW : ((dW g len).toNat : Int) = dW g len := by omega
  have tL : ((dL g len).toNat : Int) = dL g len := by omega
  have tC : ((dC g len).toNat : Int) = dC g len := by omega
  have tT : ((dT g len).toNat : Int) = dT g len := by omega
  have tD : ((dD g len).toNat : Int) = dD g len := by omega
  have tH : ((dH g len).toNat : Int) = dH g len := by omega
  have hl : loT (dH g len) (dC g len) (dW g len) (dL g len) (dD g len) = ((qOf g len).tab : Int) := by
    have := loT_eq (qOf g len)
    simp only [qOf, tW, tL, tC, tD, tH] at this
    exact this
  have w0 : IntKind.i64.wrap (5 * dT g len) = 5 * dT g len := w64 (by omega)
  have hn : ((qOf g len).tab : Int) + 5 * dT g len = ((qOf g len).n : Int) := by unfold Lq.n; rw [← tT]; simp [qOf]
  have w1 : IntKind.i64.wrap ((qOf g len).n : Int) = ((qOf g len).n : Int) := w64 (by omega)
  have hlt : dW g len * dL g len * (2 + dD g len) + (4 + dH g len + dC g len + dW g len + dW g len) = ((qOf g len).tab : Int) := by rw [← hl]; unfold loT; omega
  have v1 : IntKind.i64.wrap (4 + dH g len) = 4 + dH g len := w64 (by omega)
  have v2 : IntKind.i64.wrap (4 + dH g len + dC g len) = 4 + dH g len + dC g len := w64 (by omega)
  have v3 : IntKind.i64.wrap (2 * dW g len) = 2 * dW g len := w64 (by omega)
  have v4 : IntKind.i64.wrap (4 + dH g len + dC g len + 2 * dW g len) = 4 + dH g len + dC g len + 2 * dW g len := w64 (by omega)
  have hX := mulb (a := dW g len) (b := dL g len) (A := 4) (B := 4) (by omega) hW.2 (by omega) hL.2
  have hY := mulb (a := dW g len * dL g len) (b := 2 + dD g len) (A := 16) (B := 6) hX.1 (by omega) (by omega) (by omega)
  have v5 : IntKind.i64.wrap (dW g len * dL g len) = dW g len * dL g len := w64 (by omega)
  have v6 : IntKind.i64.wrap (2 + dD g len) = 2 + dD g len := w64 (by omega)
  have v7 : IntKind.i64.wrap (dW g len * dL g len * (2 + dD g len)) = dW g len * dL g len * (2 + dD g len) := w64 (by omega)
  have v8 : 4 + dH g len + dC g len + 2 * dW g len + dW g len * dL g len * (2 + dD g len) = ((qOf g len).tab : Int) := by omega
  have v9 : IntKind.i64.wrap ((qOf g len).tab : Int) = ((qOf g len).tab : Int) := w64 (by omega)
  simp only [Out.holds, eq_self, true_and, and_true, Nat.le_refl, implies_true, Int.ofNat_eq_natCast, Int.natCast_one, Int.natCast_zero, Int.cast_ofNat_Int, Nat.lt_add_one, gt_iff_lt, ge_iff_le, Nat.zero_lt_one, decide_eq_true_eq, decide_eq_false_iff_not, Bool.not_eq_true', Bool.not_eq_false', tW, tL, tC, tT, tD, tH, hl, w0, hn, w1, v1, v2, v3, v4, v5, v6, v7, v8, v9, bne_self_eq_false, Bool.false_eq_true, reduceCtorEq, false_implies, true_implies, forall_const]
  refine ⟨fun _ ρ => rfl, fun hlen => ⟨hu, ⟨fun e => lenP g len e, fun e _ => Nat.le_refl _⟩, fun FC hF => ⟨⟨_, Nat.le_refl _⟩, fun rc hrc => ⟨⟨_, Nat.le_refl _⟩, fun c10 hc => ?_⟩⟩⟩⟩
  have hgd : ∀ A : Nat → Nat, ∀ a, a < nP g len → gd (nP g len) A a = A a := fun A a h => if_pos h
  have hb0 : cntW (qOf g len) 0 = (qOf g len).base := by unfold cntW; omega
  have hlow : ∀ e, e < 4 → cellA (qOf g len) e = e := fun e he => A_low (by unfold Lq.base; omega)
  have htn : (((qOf g len).n : Int)).toNat = (qOf g len).n := Int.toNat_natCast _
  refine ⟨⟨hrc, hc, fun a ha => ⟨Nat.le_of_eq (hgd _ a ha).symm, by rw [hgd _ a ha]; exact hF a ha⟩⟩, dec_ok hu rc c10 FC, ⟨by omega, Int.le_refl _, by omega, by omega⟩, ⟨Nat.zero_le _, ⟨htn, htn⟩, ⟨htn, Nat.le_of_eq htn.symm, fun _ _ _ => rfl⟩, fun _ _ h => h.2, fun _ _ => by rw [hlow 0 (by decide)]; rfl, fun _ _ => by rw [hlow 1 (by decide)]; rfl, fun _ _ => by rw [hlow 2 (by decide)]; rfl, fun _ _ => by rw [hlow 3 (by decide)]; rfl⟩, ⟨_, Nat.le_refl _⟩, fun x1 hx1 => ⟨⟨⟨Nat.zero_le _, by omega⟩, by omega, by omega⟩, ⟨_, Nat.le_refl _⟩, fun x2 hx2 => ⟨⟨⟨Nat.zero_le _, by omega⟩, by omega, by omega⟩, ⟨_, Nat.le_refl _⟩, fun x3 hx3 => ⟨⟨⟨Nat.zero_le _, by omega⟩, by omega, by omega⟩, ⟨_, Nat.le_refl _⟩, fun x4 hx4 => ⟨⟨⟨Nat.zero_le _, hx4⟩, fun _ e _ => ?_⟩, fun ρ => ?_⟩⟩⟩⟩⟩
  · show (0 : Int) = mark (qOf g len) 0 e
    unfold mark
    rw [if_neg]
    rintro ⟨j, hj, _⟩
    omega
  · simp [SV.den, SC.den]
theorem walk10 (a : Option Addr) (len cap : Nat) (g : Nat → Int) (w : World) (h : IsInts .u8 w a len cap g) :
    Calls P 10 #[.slice a len cap] w fun e w' => e = .returned (.bool true) ∧ Below w.heap.size w w' :=
  calls_yes (vs := [.slice a len cap]) (call10 (okQ_of (g := g) (len := len) (fun e he => wf_u8 (h.fits e he))))
    (args := [.c (slK 0 1 len cap)]) (h := [(0, ints .u8 len g)]) (n := 1) (ρ := tabR [addr0 a]) (o := main10 g len cap) rfl
    (main10_yes g len cap (fun e he => wf_u8 (h.fits e he)))
    (views_inv fun k b hk => by
      have : k = 0 ∧ b = ints .u8 len g := by
        rw [find_cons] at hk
        split at hk
        · cases hk; exact ⟨‹_›, rfl⟩
        · exact absurd hk (by simp [find])
      obtain ⟨rfl, rfl⟩ := this
      exact ⟨rfl, by decide, h.sat rfl⟩)
    ⟨h.val, trivial⟩
end Go.Proofs.Ytjpnpaboahbncaa.Lw
