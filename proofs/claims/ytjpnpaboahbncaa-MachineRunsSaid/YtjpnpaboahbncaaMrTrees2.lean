/- 'MachineRuns': the trees of awake and of the law itself, printed by program. -/
import Derived.Test.YtjpnpaboahbncaaMrMain
set_option linter.unusedVariables false
set_option maxRecDepth 100000
namespace Go.Proofs.Ytjpnpaboahbncaa.Mr
open Go Go.RowKit Sx

theorem awake_tree  : awake19 =
  Out.need
    (((3 = 3 ∧ 0 = 0 ∧ 0 = 0 ∧ 0 = 0 ∧ 26 = 26) ∧
        (39 = 39 ∧ 4 = 4 ∧ 0 = 0 ∧ 0 = 0 ∧ 0 = 0 ∧ 2 = 2) ∧
          (IntKind.i64 = IntKind.i64 ∧ Int.ofNat 10 = Int.ofNat 10) ∧ True) ∧
      (37 = 37 ∧ 26 = 26 ∧ (1 = 1 ∧ 0 = 0 ∧ 0 = 0 ∧ 0 = 0 ∧ 6 = 6) ∧ True) ∧
        (110 = 110 ∧
            6 = 6 ∧
              (0 = 0 ∧ 0 = 0 ∧ 0 = 0 ∧ 1 = 1 ∧ 1 = 1 ∧ 1 = 1) ∧
              (IntKind.i64 = IntKind.i64 ∧ Int.ofNat 0 = Int.ofNat 0) ∧ True) ∧
          (44 = 44 ∧
              1 = 1 ∧ 1 = 1 ∧ (IntKind.u64 = IntKind.u64 ∧ ∀ (e : Nat), e < 1 → Int.ofNat 0 = Int.ofNat 0) ∧ True) ∧
            (41 = 41 ∧
              2 = 2 ∧
              (IntKind.i64 = IntKind.i64 ∧ Int.ofNat 0 = Int.ofNat 0) ∧
              (IntKind.i64 = IntKind.i64 ∧ Int.ofNat 3 = Int.ofNat 3) ∧ True) ∧
              True)
    (Out.need (pre20 (Int.ofNat 0) (Int.ofNat 3) 1 fun x => Int.ofNat 0)
      (Out.any Int (fun x => True) fun x =>
        Out.need
          (((3 = 3 ∧ 0 = 0 ∧ 0 = 0 ∧ 0 = 0 ∧ 26 = 26) ∧
              (39 = 39 ∧ 5 = 5 ∧ 0 = 0 ∧ 0 = 0 ∧ 0 = 0 ∧ 2 = 2) ∧
              (IntKind.i64 = IntKind.i64 ∧ Int.ofNat 2 = Int.ofNat 2) ∧ True) ∧
            (37 = 37 ∧ 26 = 26 ∧ (1 = 1 ∧ 0 = 0 ∧ 0 = 0 ∧ 0 = 0 ∧ 6 = 6) ∧ True) ∧
              (110 = 110 ∧
              6 = 6 ∧ (0 = 0 ∧ 0 = 0 ∧ 0 = 0 ∧ 1 = 1 ∧ 1 = 1 ∧ 1 = 1) ∧ (IntKind.i64 = IntKind.i64 ∧ x = x) ∧ True) ∧
              (44 = 44 ∧
              1 = 1 ∧
              1 = 1 ∧
              (IntKind.u64 = IntKind.u64 ∧
              ∀ (e : Nat),
              e < 1 →
              upG (Int.ofNat 0) (min (Int.ofNat 3) (steps (Int.ofNat 3) (Int.ofNat 10)))
              (fun x => Int.ofNat 0) e =
              upG (Int.ofNat 0) (min (Int.ofNat 3) (steps (Int.ofNat 3) (Int.ofNat 10)))
              (fun x => Int.ofNat 0) e) ∧
              True) ∧
              (41 = 41 ∧
              2 = 2 ∧
              (IntKind.i64 = IntKind.i64 ∧ Int.ofNat 0 = Int.ofNat 0) ∧
              (IntKind.i64 = IntKind.i64 ∧ Int.ofNat 3 = Int.ofNat 3) ∧ True) ∧
              True)
          (Out.need
            (pre20 (Int.ofNat 0) (Int.ofNat 3) 1 fun e =>
              upG (Int.ofNat 0) (min (Int.ofNat 3) (steps (Int.ofNat 3) (Int.ofNat 10))) (fun x => Int.ofNat 0) e)
            (Out.any Int (fun x => True) fun x =>
              Out.br true
              (Out.br true
              (Out.br true
              (Out.br true
              (Out.br false (Out.leaf (SV.c (SC.kb false), { h := [], nxt := 6, D := T1 }))
              (Out.need (Int.ofNat 0 ≤ Int.ofNat 0 ∧ Int.ofNat 0 < ↑1)
              (Out.need (0 < 1)
              (Out.need (0 < 1) (Out.leaf (SV.c (SC.bv true), { h := [], nxt := 6, D := T1 }))))))
              (Out.leaf (SV.c (SC.kb false), { h := [], nxt := 6, D := T1 })))
              (Out.leaf (SV.c (SC.kb false), { h := [], nxt := 6, D := T1 })))
              (Out.leaf (SV.c (SC.kb false), { h := [], nxt := 6, D := T1 })))
              (Out.leaf (SV.c (SC.kb false), { h := [], nxt := 6, D := T1 })))))) := by kernel_rfl

theorem main_tree (a b c : Int) : main3 a b c =
  Out.need (Int.ofNat 1 ≠ Int.ofNat 0)
    (Out.need (0 < 1 ∧ 0 < 1)
      (Out.need (0 < 1 ∧ 0 < 1)
        (Out.need (Int.ofNat 1 ≠ Int.ofNat 0)
          (Out.need (Int.ofNat 7 ≠ Int.ofNat 0)
            (Out.need (Int.ofNat 1 ≠ Int.ofNat 0)
              (Out.need
              (((IntKind.i64 = IntKind.i64 ∧
              IntKind.i64.wrap (a.tdiv (Int.ofNat 1)) = IntKind.i64.wrap (a.tdiv (Int.ofNat 1))) ∧
              (IntKind.i64 = IntKind.i64 ∧ Int.ofNat 50 = Int.ofNat 50) ∧ True) ∧
              True)
              (Out.any Int
              (fun r =>
              (Int.ofNat 50 < Int.ofNat 1 → r = Int.ofNat 0) ∧
              (Int.ofNat 1 ≤ Int.ofNat 50 → Int.ofNat 0 ≤ r ∧ r < Int.ofNat 50))
              fun x =>
              Out.br (decide (b > Int.ofNat 1000))
              (Out.need (Int.ofNat 1000 ≠ Int.ofNat 0)
              (Out.need (True ∧ True)
              (Out.need
              (((38280596832649220 = 38280596832649220 ∧ 0 = 0 ∧ 0 = 0 ∧ 0 = 0 ∧ 26 = 26) ∧
              (39 = 39 ∧ 38280596832649227 = 38280596832649227 ∧ 0 = 0 ∧ 0 = 0 ∧ 0 = 0 ∧ 2 = 2) ∧
              (IntKind.i64 = IntKind.i64 ∧ b.tmod (Int.ofNat 1000) = b.tmod (Int.ofNat 1000)) ∧ True) ∧
              (37 = 37 ∧
              26 = 26 ∧
              (38280596832649218 = 38280596832649218 ∧ 0 = 0 ∧ 0 = 0 ∧ 0 = 0 ∧ 6 = 6) ∧ True) ∧
              (110 = 110 ∧
              6 = 6 ∧
              (38280596832649217 = 38280596832649217 ∧ 0 = 0 ∧ 0 = 0 ∧ 1 = 1 ∧ 2 = 2 ∧ 2 = 2) ∧
              (IntKind.i64 = IntKind.i64 ∧ Int.ofNat 0 = Int.ofNat 0) ∧ True) ∧
              (44 = 44 ∧
              2 = 2 ∧
              2 = 2 ∧
              (IntKind.u64 = IntKind.u64 ∧ ∀ (e : Nat), e < 2 → Int.ofNat 0 = Int.ofNat 0) ∧
              True) ∧
              (41 = 41 ∧
              2 = 2 ∧
              (IntKind.i64 = IntKind.i64 ∧ Int.ofNat 1 = Int.ofNat 1) ∧
              (IntKind.i64 = IntKind.i64 ∧ x = x) ∧ True) ∧
              True)
              (Out.need (pre20 (Int.ofNat 1) x 2 fun x => Int.ofNat 0)
              (Out.any Int (fun x => True) fun x_1 =>
              Out.br
              (steps x (b.tmod (Int.ofNat 1000)) !=
              min (max (Int.ofNat 1) x) (max (Int.ofNat 0) (b.tmod (Int.ofNat 1000))))
              (Out.leaf (SV.c (SC.kb false), { h := [], nxt := 38280596832649228, D := T1 }))
              (Out.br
              (!decide (max (Int.ofNat 1) x ≤ b.tmod (Int.ofNat 1000)) ==
              decide (b.tmod (Int.ofNat 1000) ≥ max (Int.ofNat 1) x))
              (Out.leaf (SV.c (SC.kb false), { h := [], nxt := 38280596832649228, D := T1 }))
              (Out.br false
              (Out.br
              (Int.ofNat 0 !=
              IntKind.u64.wrap (min x (max (Int.ofNat 0) (b.tmod (Int.ofNat 1000)))))
              (Out.leaf (SV.c (SC.kb false), { h := [], nxt := 38280596832649228, D := T1 }))
              (Out.need
              (((38280596832649220 = 38280596832649220 ∧ 0 = 0 ∧ 0 = 0 ∧ 0 = 0 ∧ 26 = 26) ∧
              (39 = 39 ∧
              38280596832649227 = 38280596832649227 ∧ 0 = 0 ∧ 0 = 0 ∧ 0 = 0 ∧ 2 = 2) ∧
              (IntKind.i64 = IntKind.i64 ∧ IntKind.i64.wrap c = IntKind.i64.wrap c) ∧
              True) ∧
              (37 = 37 ∧
              26 = 26 ∧
              (38280596832649218 = 38280596832649218 ∧ 0 = 0 ∧ 0 = 0 ∧ 0 = 0 ∧ 6 = 6) ∧
              True) ∧
              (110 = 110 ∧
              6 = 6 ∧
              (38280596832649217 = 38280596832649217 ∧
              0 = 0 ∧ 0 = 0 ∧ 1 = 1 ∧ 2 = 2 ∧ 2 = 2) ∧
              (IntKind.i64 = IntKind.i64 ∧ x_1 = x_1) ∧ True) ∧
              (44 = 44 ∧
              2 = 2 ∧
              2 = 2 ∧
              (IntKind.u64 = IntKind.u64 ∧
              ∀ (e : Nat),
              e < 2 →
              upG (Int.ofNat 1)
              (min x (steps x (b.tmod (Int.ofNat 1000))))
              (fun x => Int.ofNat 0) e =
              upG (Int.ofNat 1)
              (min x (steps x (b.tmod (Int.ofNat 1000))))
              (fun x => Int.ofNat 0) e) ∧
              True) ∧
              (41 = 41 ∧
              2 = 2 ∧
              (IntKind.i64 = IntKind.i64 ∧ Int.ofNat 1 = Int.ofNat 1) ∧
              (IntKind.i64 = IntKind.i64 ∧
              x - min x (steps x (b.tmod (Int.ofNat 1000))) =
              x - min x (steps x (b.tmod (Int.ofNat 1000)))) ∧
              True) ∧
              True)
              (Out.need
              (pre20 (Int.ofNat 1) (x - min x (steps x (b.tmod (Int.ofNat 1000)))) 2 fun e =>
              upG (Int.ofNat 1) (min x (steps x (b.tmod (Int.ofNat 1000))))
              (fun x => Int.ofNat 0) e)
              (Out.any Int (fun x => True) fun x_2 =>
              Out.br
              (steps (x - min x (steps x (b.tmod (Int.ofNat 1000))))
              (IntKind.i64.wrap c) ==
              min
              (max (Int.ofNat 1)
              (IntKind.i64.wrap
              (x - min x (max (Int.ofNat 0) (b.tmod (Int.ofNat 1000))))))
              (IntKind.i64.wrap c))
              (Out.leaf
              (SV.c
              (SC.bv
              (decide
              (max (Int.ofNat 1)
              (x - min x (steps x (b.tmod (Int.ofNat 1000)))) ≤
              IntKind.i64.wrap c) ==
              decide
              (IntKind.i64.wrap c ≥
              max (Int.ofNat 1)
              (IntKind.i64.wrap
              (x -
              min x
              (max (Int.ofNat 0) (b.tmod (Int.ofNat 1000)))))))),
              { h := [], nxt := 38280596832649228, D := T1 }))
              (Out.leaf
              (SV.c (SC.kb false), { h := [], nxt := 38280596832649228, D := T1 }))))))
              (Out.need (Int.ofNat 0 ≤ Int.ofNat 1 ∧ Int.ofNat 1 < ↑2)
              (Out.need (1 < 2)
              (Out.need (1 < 2)
              (Out.br
              (upG (Int.ofNat 1) (min x (steps x (b.tmod (Int.ofNat 1000))))
              (fun x => Int.ofNat 0) 1 !=
              IntKind.u64.wrap (min x (max (Int.ofNat 0) (b.tmod (Int.ofNat 1000)))))
              (Out.leaf
              (SV.c (SC.kb false), { h := [], nxt := 38280596832649228, D := T1 }))
              (Out.need
              (((38280596832649220 = 38280596832649220 ∧
              0 = 0 ∧ 0 = 0 ∧ 0 = 0 ∧ 26 = 26) ∧
              (39 = 39 ∧
              38280596832649227 = 38280596832649227 ∧
              0 = 0 ∧ 0 = 0 ∧ 0 = 0 ∧ 2 = 2) ∧
              (IntKind.i64 = IntKind.i64 ∧
              IntKind.i64.wrap c = IntKind.i64.wrap c) ∧
              True) ∧
              (37 = 37 ∧
              26 = 26 ∧
              (38280596832649218 = 38280596832649218 ∧
              0 = 0 ∧ 0 = 0 ∧ 0 = 0 ∧ 6 = 6) ∧
              True) ∧
              (110 = 110 ∧
              6 = 6 ∧
              (38280596832649217 = 38280596832649217 ∧
              0 = 0 ∧ 0 = 0 ∧ 1 = 1 ∧ 2 = 2 ∧ 2 = 2) ∧
              (IntKind.i64 = IntKind.i64 ∧ x_1 = x_1) ∧ True) ∧
              (44 = 44 ∧
              2 = 2 ∧
              2 = 2 ∧
              (IntKind.u64 = IntKind.u64 ∧
              ∀ (e : Nat),
              e < 2 →
              upG (Int.ofNat 1)
              (min x (steps x (b.tmod (Int.ofNat 1000))))
              (fun x => Int.ofNat 0) e =
              upG (Int.ofNat 1)
              (min x (steps x (b.tmod (Int.ofNat 1000))))
              (fun x => Int.ofNat 0) e) ∧
              True) ∧
              (41 = 41 ∧
              2 = 2 ∧
              (IntKind.i64 = IntKind.i64 ∧ Int.ofNat 1 = Int.ofNat 1) ∧
              (IntKind.i64 = IntKind.i64 ∧
              x - min x (steps x (b.tmod (Int.ofNat 1000))) =
              x - min x (steps x (b.tmod (Int.ofNat 1000)))) ∧
              True) ∧
              True)
              (Out.need
              (pre20 (Int.ofNat 1) (x - min x (steps x (b.tmod (Int.ofNat 1000)))) 2
              fun e =>
              upG (Int.ofNat 1) (min x (steps x (b.tmod (Int.ofNat 1000))))
              (fun x => Int.ofNat 0) e)
              (Out.any Int (fun x => True) fun x_2 =>
              Out.br
              (steps (x - min x (steps x (b.tmod (Int.ofNat 1000))))
              (IntKind.i64.wrap c) ==
              min
              (max (Int.ofNat 1)
              (IntKind.i64.wrap
              (x - min x (max (Int.ofNat 0) (b.tmod (Int.ofNat 1000))))))
              (IntKind.i64.wrap c))
              (Out.leaf
              (SV.c
              (SC.bv
              (decide
              (max (Int.ofNat 1)
              (x - min x (steps x (b.tmod (Int.ofNat 1000)))) ≤
              IntKind.i64.wrap c) ==
              decide
              (IntKind.i64.wrap c ≥
              max (Int.ofNat 1)
              (IntKind.i64.wrap
              (x -
              min x
              (max (Int.ofNat 0)
              (b.tmod (Int.ofNat 1000)))))))),
              { h := [], nxt := 38280596832649228, D := T1 }))
              (Out.leaf
              (SV.c (SC.kb false),
              { h := [], nxt := 38280596832649228, D := T1 }))))))))))))))))
              (Out.need (True ∧ True)
              (Out.need
              (((38280596832649220 = 38280596832649220 ∧ 0 = 0 ∧ 0 = 0 ∧ 0 = 0 ∧ 26 = 26) ∧
              (39 = 39 ∧ 38280596832649227 = 38280596832649227 ∧ 0 = 0 ∧ 0 = 0 ∧ 0 = 0 ∧ 2 = 2) ∧
              (IntKind.i64 = IntKind.i64 ∧ b = b) ∧ True) ∧
              (37 = 37 ∧
              26 = 26 ∧ (38280596832649218 = 38280596832649218 ∧ 0 = 0 ∧ 0 = 0 ∧ 0 = 0 ∧ 6 = 6) ∧ True) ∧
              (110 = 110 ∧
              6 = 6 ∧
              (38280596832649217 = 38280596832649217 ∧ 0 = 0 ∧ 0 = 0 ∧ 1 = 1 ∧ 2 = 2 ∧ 2 = 2) ∧
              (IntKind.i64 = IntKind.i64 ∧ Int.ofNat 0 = Int.ofNat 0) ∧ True) ∧
              (44 = 44 ∧
              2 = 2 ∧
              2 = 2 ∧
              (IntKind.u64 = IntKind.u64 ∧ ∀ (e : Nat), e < 2 → Int.ofNat 0 = Int.ofNat 0) ∧
              True) ∧
              (41 = 41 ∧
              2 = 2 ∧
              (IntKind.i64 = IntKind.i64 ∧ Int.ofNat 1 = Int.ofNat 1) ∧
              (IntKind.i64 = IntKind.i64 ∧ x = x) ∧ True) ∧
              True)
              (Out.need (pre20 (Int.ofNat 1) x 2 fun x => Int.ofNat 0)
              (Out.any Int (fun x => True) fun x_1 =>
              Out.br (steps x b != min (max (Int.ofNat 1) x) (max (Int.ofNat 0) b))
              (Out.leaf (SV.c (SC.kb false), { h := [], nxt := 38280596832649228, D := T1 }))
              (Out.br (!decide (max (Int.ofNat 1) x ≤ b) == decide (b ≥ max (Int.ofNat 1) x))
              (Out.leaf (SV.c (SC.kb false), { h := [], nxt := 38280596832649228, D := T1 }))
              (Out.br false
              (Out.br (Int.ofNat 0 != IntKind.u64.wrap (min x (max (Int.ofNat 0) b)))
              (Out.leaf (SV.c (SC.kb false), { h := [], nxt := 38280596832649228, D := T1 }))
              (Out.need
              (((38280596832649220 = 38280596832649220 ∧ 0 = 0 ∧ 0 = 0 ∧ 0 = 0 ∧ 26 = 26) ∧
              (39 = 39 ∧
              38280596832649227 = 38280596832649227 ∧ 0 = 0 ∧ 0 = 0 ∧ 0 = 0 ∧ 2 = 2) ∧
              (IntKind.i64 = IntKind.i64 ∧ IntKind.i64.wrap c = IntKind.i64.wrap c) ∧
              True) ∧
              (37 = 37 ∧
              26 = 26 ∧
              (38280596832649218 = 38280596832649218 ∧ 0 = 0 ∧ 0 = 0 ∧ 0 = 0 ∧ 6 = 6) ∧
              True) ∧
              (110 = 110 ∧
              6 = 6 ∧
              (38280596832649217 = 38280596832649217 ∧
              0 = 0 ∧ 0 = 0 ∧ 1 = 1 ∧ 2 = 2 ∧ 2 = 2) ∧
              (IntKind.i64 = IntKind.i64 ∧ x_1 = x_1) ∧ True) ∧
              (44 = 44 ∧
              2 = 2 ∧
              2 = 2 ∧
              (IntKind.u64 = IntKind.u64 ∧
              ∀ (e : Nat),
              e < 2 →
              upG (Int.ofNat 1) (min x (steps x b)) (fun x => Int.ofNat 0)
              e =
              upG (Int.ofNat 1) (min x (steps x b)) (fun x => Int.ofNat 0)
              e) ∧
              True) ∧
              (41 = 41 ∧
              2 = 2 ∧
              (IntKind.i64 = IntKind.i64 ∧ Int.ofNat 1 = Int.ofNat 1) ∧
              (IntKind.i64 = IntKind.i64 ∧
              x - min x (steps x b) = x - min x (steps x b)) ∧
              True) ∧
              True)
              (Out.need
              (pre20 (Int.ofNat 1) (x - min x (steps x b)) 2 fun e =>
              upG (Int.ofNat 1) (min x (steps x b)) (fun x => Int.ofNat 0) e)
              (Out.any Int (fun x => True) fun x_2 =>
              Out.br
              (steps (x - min x (steps x b)) (IntKind.i64.wrap c) ==
              min (max (Int.ofNat 1) (IntKind.i64.wrap (x - min x (max (Int.ofNat 0) b))))
              (IntKind.i64.wrap c))
              (Out.leaf
              (SV.c
              (SC.bv
              (decide
              (max (Int.ofNat 1) (x - min x (steps x b)) ≤
              IntKind.i64.wrap c) ==
              decide
              (IntKind.i64.wrap c ≥
              max (Int.ofNat 1)
              (IntKind.i64.wrap (x - min x (max (Int.ofNat 0) b)))))),
              { h := [], nxt := 38280596832649228, D := T1 }))
              (Out.leaf
              (SV.c (SC.kb false), { h := [], nxt := 38280596832649228, D := T1 }))))))
              (Out.need (Int.ofNat 0 ≤ Int.ofNat 1 ∧ Int.ofNat 1 < ↑2)
              (Out.need (1 < 2)
              (Out.need (1 < 2)
              (Out.br
              (upG (Int.ofNat 1) (min x (steps x b)) (fun x => Int.ofNat 0) 1 !=
              IntKind.u64.wrap (min x (max (Int.ofNat 0) b)))
              (Out.leaf (SV.c (SC.kb false), { h := [], nxt := 38280596832649228, D := T1 }))
              (Out.need
              (((38280596832649220 = 38280596832649220 ∧ 0 = 0 ∧ 0 = 0 ∧ 0 = 0 ∧ 26 = 26) ∧
              (39 = 39 ∧
              38280596832649227 = 38280596832649227 ∧
              0 = 0 ∧ 0 = 0 ∧ 0 = 0 ∧ 2 = 2) ∧
              (IntKind.i64 = IntKind.i64 ∧ IntKind.i64.wrap c = IntKind.i64.wrap c) ∧
              True) ∧
              (37 = 37 ∧
              26 = 26 ∧
              (38280596832649218 = 38280596832649218 ∧
              0 = 0 ∧ 0 = 0 ∧ 0 = 0 ∧ 6 = 6) ∧
              True) ∧
              (110 = 110 ∧
              6 = 6 ∧
              (38280596832649217 = 38280596832649217 ∧
              0 = 0 ∧ 0 = 0 ∧ 1 = 1 ∧ 2 = 2 ∧ 2 = 2) ∧
              (IntKind.i64 = IntKind.i64 ∧ x_1 = x_1) ∧ True) ∧
              (44 = 44 ∧
              2 = 2 ∧
              2 = 2 ∧
              (IntKind.u64 = IntKind.u64 ∧
              ∀ (e : Nat),
              e < 2 →
              upG (Int.ofNat 1) (min x (steps x b))
              (fun x => Int.ofNat 0) e =
              upG (Int.ofNat 1) (min x (steps x b))
              (fun x => Int.ofNat 0) e) ∧
              True) ∧
              (41 = 41 ∧
              2 = 2 ∧
              (IntKind.i64 = IntKind.i64 ∧ Int.ofNat 1 = Int.ofNat 1) ∧
              (IntKind.i64 = IntKind.i64 ∧
              x - min x (steps x b) = x - min x (steps x b)) ∧
              True) ∧
              True)
              (Out.need
              (pre20 (Int.ofNat 1) (x - min x (steps x b)) 2 fun e =>
              upG (Int.ofNat 1) (min x (steps x b)) (fun x => Int.ofNat 0) e)
              (Out.any Int (fun x => True) fun x_2 =>
              Out.br
              (steps (x - min x (steps x b)) (IntKind.i64.wrap c) ==
              min
              (max (Int.ofNat 1)
              (IntKind.i64.wrap (x - min x (max (Int.ofNat 0) b))))
              (IntKind.i64.wrap c))
              (Out.leaf
              (SV.c
              (SC.bv
              (decide
              (max (Int.ofNat 1) (x - min x (steps x b)) ≤
              IntKind.i64.wrap c) ==
              decide
              (IntKind.i64.wrap c ≥
              max (Int.ofNat 1)
              (IntKind.i64.wrap (x - min x (max (Int.ofNat 0) b)))))),
              { h := [], nxt := 38280596832649228, D := T1 }))
              (Out.leaf
              (SV.c (SC.kb false),
              { h := [], nxt := 38280596832649228, D := T1 })))))))))))))))))))))) := by kernel_rfl


end Go.Proofs.Ytjpnpaboahbncaa.Mr
