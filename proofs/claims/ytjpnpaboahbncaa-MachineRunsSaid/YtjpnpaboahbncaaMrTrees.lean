/- 'MachineRuns': the trees, printed by program. -/
import Derived.Test.YtjpnpaboahbncaaMrDefs
set_option linter.unusedVariables false
set_option maxRecDepth 100000
namespace Go.Proofs.Ytjpnpaboahbncaa.Mr
open Go Go.RowKit Sx

theorem draw_tree (a b : Int) : execF P noCon noAnn 3 2 26 [.c (.iv .i64 a), .c (.iv .i64 b)] ⟨[], 0, T1⟩ =
  Out.br (decide (b < 1)) (Out.leaf (SV.c (SC.ki IntKind.i64 (Int.ofNat 0)), { h := [], nxt := 0, D := T1 }))
    (Out.need (b ≠ 0)
      (Out.br (decide (a.tmod b < 0))
        (Out.need (b ≠ 0)
          (Out.leaf (SV.c (SC.iv IntKind.i64 (IntKind.i64.wrap (a.tmod b + b))), { h := [], nxt := 0, D := T1 })))
        (Out.need (b ≠ 0) (Out.leaf (SV.c (SC.iv IntKind.i64 (a.tmod b)), { h := [], nxt := 0, D := T1 }))))) := by kernel_rfl

theorem round_tree (i L n : Int) (len : Nat) (g : Nat → Int) (x : X) : round20 i L n len g x =
  Out.br (decide (x.t < n))
    (Out.br (decide (L - x.t > 0))
      (Out.need (0 < 1 ∧ 0 < 1)
        (Out.need (0 < 1 ∧ 0 < 1)
          (Out.need (0 < 1 ∧ 0 < 1)
            (Out.need (0 < 1 ∧ 0 < 1)
              (Out.need (0 < 1 ∧ 0 < 1)
              (Out.need (0 < 1 ∧ 0 < 1)
              (Out.br (decide (i < 0))
              (Out.br (IntKind.i64.wrap (L - x.t - 1) == 0)
              (Out.leaf
              (Ex.ret,
              {
              tmps :=
              [some (SV.c (SC.ptr 0 (NV.k 0) (NV.k 0) 0 26)),
              some (SV.c (SC.ifc 39 3 (NV.k 0) (NV.k 0) 0 2)), some (SV.c (SC.iv IntKind.i64 n)), none,
              none, none, some (SV.c (SC.iv IntKind.i64 (IntKind.i64.wrap (x.t + 1)))),
              some (SV.c (SC.kb true)), some (SV.c (SC.iv IntKind.i64 x.t)),
              some (SV.c (SC.iv IntKind.i64 n)), some (SV.c (SC.bv (decide (x.t < n)))),
              some (SV.c (SC.iv IntKind.i64 x.t)),
              some (SV.c (SC.iv IntKind.i64 (IntKind.i64.wrap (x.t + 1)))),
              some (SV.c (SC.ifc 39 3 (NV.k 0) (NV.k 0) 0 2)),
              some (SV.c (SC.ptr 0 (NV.k 0) (NV.k 0) 0 26)),
              some (SV.c (SC.bv (IntKind.i64.wrap (L - x.t - 1) == 0))),
              some (SV.c (SC.iv IntKind.i64 (IntKind.i64.wrap (x.t + 1)))), none],
              H :=
              {
              h :=
              [(0,
              Blk.own 37 26
              [none, none, none, none, none, none, none, none, none, none, none, none, none,
              none, none, none, none, none, none, none, none, none,
              some (SC.ptr 1 (NV.k 0) (NV.k 0) 0 6), none, none, none]),
              (1,
              Blk.own 110 6
              [some (SC.slc 2 (NV.k 0) (NV.k 0) 1 (NV.s len) (NV.s len)), none, none, none,
              none, some (SC.iv IntKind.i64 x.c)]),
              (2, Blk.row 44 len len [Col.ci IntKind.u64 fun x_1 e => upG i x.t g e]),
              (3,
              Blk.own 41 2
              [some (SC.iv IntKind.i64 i),
              some (SC.iv IntKind.i64 (IntKind.i64.wrap (L - x.t - 1)))])],
              nxt := 83010348331692982276, D := T1 } }))
              (Out.leaf
              (Ex.normal,
              {
              tmps :=
              [some (SV.c (SC.ptr 0 (NV.k 0) (NV.k 0) 0 26)),
              some (SV.c (SC.ifc 39 3 (NV.k 0) (NV.k 0) 0 2)), some (SV.c (SC.iv IntKind.i64 n)), none,
              none, none, some (SV.c (SC.iv IntKind.i64 (IntKind.i64.wrap (x.t + 1)))), none,
              some (SV.c (SC.iv IntKind.i64 x.t)), some (SV.c (SC.iv IntKind.i64 n)),
              some (SV.c (SC.bv (decide (x.t < n)))), some (SV.c (SC.iv IntKind.i64 x.t)),
              some (SV.c (SC.iv IntKind.i64 (IntKind.i64.wrap (x.t + 1)))),
              some (SV.c (SC.ifc 39 3 (NV.k 0) (NV.k 0) 0 2)),
              some (SV.c (SC.ptr 0 (NV.k 0) (NV.k 0) 0 26)),
              some (SV.c (SC.bv (IntKind.i64.wrap (L - x.t - 1) == 0))), none, none],
              H :=
              {
              h :=
              [(0,
              Blk.own 37 26
              [none, none, none, none, none, none, none, none, none, none, none, none, none,
              none, none, none, none, none, none, none, none, none,
              some (SC.ptr 1 (NV.k 0) (NV.k 0) 0 6), none, none, none]),
              (1,
              Blk.own 110 6
              [some (SC.slc 2 (NV.k 0) (NV.k 0) 1 (NV.s len) (NV.s len)), none, none, none,
              none, some (SC.iv IntKind.i64 x.c)]),
              (2, Blk.row 44 len len [Col.ci IntKind.u64 fun x_1 e => upG i x.t g e]),
              (3,
              Blk.own 41 2
              [some (SC.iv IntKind.i64 i),
              some (SC.iv IntKind.i64 (IntKind.i64.wrap (L - x.t - 1)))])],
              nxt := 83010348331692982276, D := T1 } })))
              (Out.br (decide (i ≥ ↑len))
              (Out.br (IntKind.i64.wrap (L - x.t - 1) == 0)
              (Out.leaf
              (Ex.ret,
              {
              tmps :=
              [some (SV.c (SC.ptr 0 (NV.k 0) (NV.k 0) 0 26)),
              some (SV.c (SC.ifc 39 3 (NV.k 0) (NV.k 0) 0 2)), some (SV.c (SC.iv IntKind.i64 n)),
              none, none, none, some (SV.c (SC.iv IntKind.i64 (IntKind.i64.wrap (x.t + 1)))),
              some (SV.c (SC.kb true)), some (SV.c (SC.iv IntKind.i64 x.t)),
              some (SV.c (SC.iv IntKind.i64 n)), some (SV.c (SC.bv (decide (x.t < n)))),
              some (SV.c (SC.iv IntKind.i64 x.t)),
              some (SV.c (SC.iv IntKind.i64 (IntKind.i64.wrap (x.t + 1)))),
              some (SV.c (SC.ifc 39 3 (NV.k 0) (NV.k 0) 0 2)),
              some (SV.c (SC.ptr 0 (NV.k 0) (NV.k 0) 0 26)),
              some (SV.c (SC.bv (IntKind.i64.wrap (L - x.t - 1) == 0))),
              some (SV.c (SC.iv IntKind.i64 (IntKind.i64.wrap (x.t + 1)))), none],
              H :=
              {
              h :=
              [(0,
              Blk.own 37 26
              [none, none, none, none, none, none, none, none, none, none, none, none, none,
              none, none, none, none, none, none, none, none, none,
              some (SC.ptr 1 (NV.k 0) (NV.k 0) 0 6), none, none, none]),
              (1,
              Blk.own 110 6
              [some (SC.slc 2 (NV.k 0) (NV.k 0) 1 (NV.s len) (NV.s len)), none, none, none,
              none, some (SC.iv IntKind.i64 x.c)]),
              (2, Blk.row 44 len len [Col.ci IntKind.u64 fun x_1 e => upG i x.t g e]),
              (3,
              Blk.own 41 2
              [some (SC.iv IntKind.i64 i),
              some (SC.iv IntKind.i64 (IntKind.i64.wrap (L - x.t - 1)))])],
              nxt := 83010348331692982276, D := T1 } }))
              (Out.leaf
              (Ex.normal,
              {
              tmps :=
              [some (SV.c (SC.ptr 0 (NV.k 0) (NV.k 0) 0 26)),
              some (SV.c (SC.ifc 39 3 (NV.k 0) (NV.k 0) 0 2)), some (SV.c (SC.iv IntKind.i64 n)),
              none, none, none, some (SV.c (SC.iv IntKind.i64 (IntKind.i64.wrap (x.t + 1)))), none,
              some (SV.c (SC.iv IntKind.i64 x.t)), some (SV.c (SC.iv IntKind.i64 n)),
              some (SV.c (SC.bv (decide (x.t < n)))), some (SV.c (SC.iv IntKind.i64 x.t)),
              some (SV.c (SC.iv IntKind.i64 (IntKind.i64.wrap (x.t + 1)))),
              some (SV.c (SC.ifc 39 3 (NV.k 0) (NV.k 0) 0 2)),
              some (SV.c (SC.ptr 0 (NV.k 0) (NV.k 0) 0 26)),
              some (SV.c (SC.bv (IntKind.i64.wrap (L - x.t - 1) == 0))), none, none],
              H :=
              {
              h :=
              [(0,
              Blk.own 37 26
              [none, none, none, none, none, none, none, none, none, none, none, none, none,
              none, none, none, none, none, none, none, none, none,
              some (SC.ptr 1 (NV.k 0) (NV.k 0) 0 6), none, none, none]),
              (1,
              Blk.own 110 6
              [some (SC.slc 2 (NV.k 0) (NV.k 0) 1 (NV.s len) (NV.s len)), none, none, none,
              none, some (SC.iv IntKind.i64 x.c)]),
              (2, Blk.row 44 len len [Col.ci IntKind.u64 fun x_1 e => upG i x.t g e]),
              (3,
              Blk.own 41 2
              [some (SC.iv IntKind.i64 i),
              some (SC.iv IntKind.i64 (IntKind.i64.wrap (L - x.t - 1)))])],
              nxt := 83010348331692982276, D := T1 } })))
              (Out.need (0 ≤ i ∧ i < ↑len)
              (Out.need (0 + i.toNat < len)
              (Out.need (0 + i.toNat < len)
              (Out.need (0 < 1 ∧ 0 < 1)
              (Out.need (0 < 1 ∧ 0 < 1)
              (Out.need (0 < 1 ∧ 0 < 1)
              (Out.need (0 < 1 ∧ 0 < 1)
              (Out.need (0 ≤ i ∧ i < ↑len)
              (Out.need (0 < 1 ∧ 0 + i.toNat < len)
              (Out.need (0 + i.toNat < len)
              (Out.need (0 ≤ i ∧ i < ↑len)
              (Out.need (0 + i.toNat < len)
              (Out.need (0 + i.toNat < len)
              (Out.br (IntKind.i64.wrap (L - x.t - 1) == 0)
              (Out.leaf
              (Ex.ret,
              {
              tmps :=
              [some (SV.c (SC.ptr 0 (NV.k 0) (NV.k 0) 0 26)),
              some (SV.c (SC.ifc 39 3 (NV.k 0) (NV.k 0) 0 2)),
              some (SV.c (SC.iv IntKind.i64 n)), none, none, none,
              some (SV.c (SC.iv IntKind.i64 (IntKind.i64.wrap (x.t + 1)))),
              some (SV.c (SC.kb true)), some (SV.c (SC.iv IntKind.i64 x.t)),
              some (SV.c (SC.iv IntKind.i64 n)),
              some (SV.c (SC.bv (decide (x.t < n)))),
              some (SV.c (SC.iv IntKind.i64 x.t)),
              some (SV.c (SC.iv IntKind.i64 (IntKind.i64.wrap (x.t + 1)))),
              some (SV.c (SC.ifc 39 3 (NV.k 0) (NV.k 0) 0 2)),
              some (SV.c (SC.ptr 0 (NV.k 0) (NV.k 0) 0 26)),
              some (SV.c (SC.bv (IntKind.i64.wrap (L - x.t - 1) == 0))),
              some (SV.c (SC.iv IntKind.i64 (IntKind.i64.wrap (x.t + 1)))),
              none],
              H :=
              {
              h :=
              [(2,
              Blk.row 44 len len
              [Col.ci IntKind.u64 fun i_1 j =>
              if i_1 = 0 ∧ j = 0 + i.toNat then
              IntKind.u64.wrap
              (upG i x.t g (0 + i.toNat) + Int.ofNat 1)
              else upG i x.t g j]),
              (0,
              Blk.own 37 26
              [none, none, none, none, none, none, none, none, none,
              none, none, none, none, none, none, none, none,
              none, none, none, none, none,
              some (SC.ptr 1 (NV.k 0) (NV.k 0) 0 6), none, none,
              none]),
              (1,
              Blk.own 110 6
              [some
              (SC.slc 2 (NV.k 0) (NV.k 0) 1 (NV.s len)
              (NV.s len)),
              some (SC.ki IntKind.i64 6),
              some (SC.iv IntKind.i64 i),
              some
              (SC.iv IntKind.u64 (upG i x.t g (0 + i.toNat))),
              some
              (SC.iv IntKind.u64
              (if 0 = 0 ∧ 0 + i.toNat = 0 + i.toNat then
              IntKind.u64.wrap
              (upG i x.t g (0 + i.toNat) + Int.ofNat 1)
              else upG i x.t g (0 + i.toNat))),
              some
              (SC.iv IntKind.i64
              (IntKind.i64.wrap (x.c + 1)))]),
              (3,
              Blk.own 41 2
              [some (SC.iv IntKind.i64 i),
              some
              (SC.iv IntKind.i64
              (IntKind.i64.wrap (L - x.t - 1)))])],
              nxt := 83010348331692982276, D := T1 } }))
              (Out.leaf
              (Ex.normal,
              {
              tmps :=
              [some (SV.c (SC.ptr 0 (NV.k 0) (NV.k 0) 0 26)),
              some (SV.c (SC.ifc 39 3 (NV.k 0) (NV.k 0) 0 2)),
              some (SV.c (SC.iv IntKind.i64 n)), none, none, none,
              some (SV.c (SC.iv IntKind.i64 (IntKind.i64.wrap (x.t + 1)))),
              none, some (SV.c (SC.iv IntKind.i64 x.t)),
              some (SV.c (SC.iv IntKind.i64 n)),
              some (SV.c (SC.bv (decide (x.t < n)))),
              some (SV.c (SC.iv IntKind.i64 x.t)),
              some (SV.c (SC.iv IntKind.i64 (IntKind.i64.wrap (x.t + 1)))),
              some (SV.c (SC.ifc 39 3 (NV.k 0) (NV.k 0) 0 2)),
              some (SV.c (SC.ptr 0 (NV.k 0) (NV.k 0) 0 26)),
              some (SV.c (SC.bv (IntKind.i64.wrap (L - x.t - 1) == 0))),
              none, none],
              H :=
              {
              h :=
              [(2,
              Blk.row 44 len len
              [Col.ci IntKind.u64 fun i_1 j =>
              if i_1 = 0 ∧ j = 0 + i.toNat then
              IntKind.u64.wrap
              (upG i x.t g (0 + i.toNat) + Int.ofNat 1)
              else upG i x.t g j]),
              (0,
              Blk.own 37 26
              [none, none, none, none, none, none, none, none, none,
              none, none, none, none, none, none, none, none,
              none, none, none, none, none,
              some (SC.ptr 1 (NV.k 0) (NV.k 0) 0 6), none, none,
              none]),
              (1,
              Blk.own 110 6
              [some
              (SC.slc 2 (NV.k 0) (NV.k 0) 1 (NV.s len)
              (NV.s len)),
              some (SC.ki IntKind.i64 6),
              some (SC.iv IntKind.i64 i),
              some
              (SC.iv IntKind.u64 (upG i x.t g (0 + i.toNat))),
              some
              (SC.iv IntKind.u64
              (if 0 = 0 ∧ 0 + i.toNat = 0 + i.toNat then
              IntKind.u64.wrap
              (upG i x.t g (0 + i.toNat) + Int.ofNat 1)
              else upG i x.t g (0 + i.toNat))),
              some
              (SC.iv IntKind.i64
              (IntKind.i64.wrap (x.c + 1)))]),
              (3,
              Blk.own 41 2
              [some (SC.iv IntKind.i64 i),
              some
              (SC.iv IntKind.i64
              (IntKind.i64.wrap (L - x.t - 1)))])],
              nxt := 83010348331692982276,
              D := T1 } }))))))))))))))))))))))))
      (Out.br (L - x.t == 0)
        (Out.leaf
          (Ex.ret,
            {
              tmps :=
              [some (SV.c (SC.ptr 0 (NV.k 0) (NV.k 0) 0 26)), some (SV.c (SC.ifc 39 3 (NV.k 0) (NV.k 0) 0 2)),
              some (SV.c (SC.iv IntKind.i64 n)), none, none, none,
              some (SV.c (SC.iv IntKind.i64 (IntKind.i64.wrap (x.t + 1)))), some (SV.c (SC.kb true)),
              some (SV.c (SC.iv IntKind.i64 x.t)), some (SV.c (SC.iv IntKind.i64 n)),
              some (SV.c (SC.bv (decide (x.t < n)))), some (SV.c (SC.iv IntKind.i64 x.t)),
              some (SV.c (SC.iv IntKind.i64 (IntKind.i64.wrap (x.t + 1)))),
              some (SV.c (SC.ifc 39 3 (NV.k 0) (NV.k 0) 0 2)), some (SV.c (SC.ptr 0 (NV.k 0) (NV.k 0) 0 26)),
              some (SV.c (SC.bv (L - x.t == 0))), some (SV.c (SC.iv IntKind.i64 (IntKind.i64.wrap (x.t + 1)))), none],
              H :=
              {
              h :=
              [(0,
              Blk.own 37 26
              [none, none, none, none, none, none, none, none, none, none, none, none, none, none, none, none,
              none, none, none, none, none, none, some (SC.ptr 1 (NV.k 0) (NV.k 0) 0 6), none, none, none]),
              (1,
              Blk.own 110 6
              [some (SC.slc 2 (NV.k 0) (NV.k 0) 1 (NV.s len) (NV.s len)), none, none, none, none,
              some (SC.iv IntKind.i64 x.c)]),
              (2, Blk.row 44 len len [Col.ci IntKind.u64 fun x_1 e => upG i x.t g e]),
              (3, Blk.own 41 2 [some (SC.iv IntKind.i64 i), some (SC.iv IntKind.i64 (L - x.t))])],
              nxt := 4, D := T1 } }))
        (Out.leaf
          (Ex.normal,
            {
              tmps :=
              [some (SV.c (SC.ptr 0 (NV.k 0) (NV.k 0) 0 26)), some (SV.c (SC.ifc 39 3 (NV.k 0) (NV.k 0) 0 2)),
              some (SV.c (SC.iv IntKind.i64 n)), none, none, none,
              some (SV.c (SC.iv IntKind.i64 (IntKind.i64.wrap (x.t + 1)))), none, some (SV.c (SC.iv IntKind.i64 x.t)),
              some (SV.c (SC.iv IntKind.i64 n)), some (SV.c (SC.bv (decide (x.t < n)))),
              some (SV.c (SC.iv IntKind.i64 x.t)), some (SV.c (SC.iv IntKind.i64 (IntKind.i64.wrap (x.t + 1)))),
              some (SV.c (SC.ifc 39 3 (NV.k 0) (NV.k 0) 0 2)), some (SV.c (SC.ptr 0 (NV.k 0) (NV.k 0) 0 26)),
              some (SV.c (SC.bv (L - x.t == 0))), none, none],
              H :=
              {
              h :=
              [(0,
              Blk.own 37 26
              [none, none, none, none, none, none, none, none, none, none, none, none, none, none, none, none,
              none, none, none, none, none, none, some (SC.ptr 1 (NV.k 0) (NV.k 0) 0 6), none, none, none]),
              (1,
              Blk.own 110 6
              [some (SC.slc 2 (NV.k 0) (NV.k 0) 1 (NV.s len) (NV.s len)), none, none, none, none,
              some (SC.iv IntKind.i64 x.c)]),
              (2, Blk.row 44 len len [Col.ci IntKind.u64 fun x_1 e => upG i x.t g e]),
              (3, Blk.own 41 2 [some (SC.iv IntKind.i64 i), some (SC.iv IntKind.i64 (L - x.t))])],
              nxt := 4, D := T1 } }))))
    (Out.leaf
      (Ex.exit 0,
        {
          tmps :=
            [some (SV.c (SC.ptr 0 (NV.k 0) (NV.k 0) 0 26)), some (SV.c (SC.ifc 39 3 (NV.k 0) (NV.k 0) 0 2)),
              some (SV.c (SC.iv IntKind.i64 n)), none, none, none, some (SV.c (SC.iv IntKind.i64 x.t)), none,
              some (SV.c (SC.iv IntKind.i64 x.t)), some (SV.c (SC.iv IntKind.i64 n)),
              some (SV.c (SC.bv (decide (x.t < n)))), none, none, none, none, none, none, none],
          H :=
            {
              h :=
              [(0,
              Blk.own 37 26
              [none, none, none, none, none, none, none, none, none, none, none, none, none, none, none, none,
              none, none, none, none, none, none, some (SC.ptr 1 (NV.k 0) (NV.k 0) 0 6), none, none, none]),
              (1,
              Blk.own 110 6
              [some (SC.slc 2 (NV.k 0) (NV.k 0) 1 (NV.s len) (NV.s len)), none, none, none, none,
              some (SC.iv IntKind.i64 x.c)]),
              (2, Blk.row 44 len len [Col.ci IntKind.u64 fun x_1 e => upG i x.t g e]),
              (3, Blk.own 41 2 [some (SC.iv IntKind.i64 i), some (SC.iv IntKind.i64 (L - x.t))])],
              nxt := 4, D := T1 } })) := by kernel_rfl

theorem run_tree (i L n c : Int) (len : Nat) (g : Nat → Int) : run20 i L n c len g =
  Out.need
    (I20 L n { t := 0, c := c } ∧
      T1 = T1 ∧
        4 ≤ 4 ∧
          ((0 = 0 ∧ 0 = 0 ∧ 0 = 0 ∧ 0 = 0 ∧ 26 = 26) ∧
              (39 = 39 ∧ 3 = 3 ∧ 0 = 0 ∧ 0 = 0 ∧ 0 = 0 ∧ 2 = 2) ∧
              (IntKind.i64 = IntKind.i64 ∧ n = n) ∧ (IntKind.i64 = IntKind.i64 ∧ Int.ofNat 0 = 0) ∧ True) ∧
            (37 = 37 ∧ 26 = 26 ∧ (1 = 1 ∧ 0 = 0 ∧ 0 = 0 ∧ 0 = 0 ∧ 6 = 6) ∧ True) ∧
              (110 = 110 ∧
              6 = 6 ∧
              (2 = 2 ∧ 0 = 0 ∧ 0 = 0 ∧ 1 = 1 ∧ len = len ∧ len = len) ∧
              (IntKind.i64 = IntKind.i64 ∧ c = c) ∧ True) ∧
              (44 = 44 ∧
              len = len ∧
              len = len ∧ (IntKind.u64 = IntKind.u64 ∧ ∀ (e : Nat), e < len → g e = upG i 0 g e) ∧ True) ∧
              (41 = 41 ∧
              2 = 2 ∧ (IntKind.i64 = IntKind.i64 ∧ i = i) ∧ (IntKind.i64 = IntKind.i64 ∧ L = L - 0) ∧ True) ∧
              True)
    (Out.any Int (fun x => True) fun x =>
      Out.br (decide (max 1 L ≤ n))
        (Out.leaf
          (SV.t [TE.c (SC.iv IntKind.i64 (steps L n)), TE.c (SC.kb true)],
            {
              h :=
              [(0,
              Blk.own 37 26
              [none, none, none, none, none, none, none, none, none, none, none, none, none, none, none, none,
              none, none, none, none, none, none, some (SC.ptr 1 (NV.k 0) (NV.k 0) 0 6), none, none, none]),
              (1,
              Blk.own 110 6
              [some (SC.slc 2 (NV.k 0) (NV.k 0) 1 (NV.s len) (NV.s len)), none, none, none, none,
              some (SC.iv IntKind.i64 x)]),
              (2, Blk.row 44 len len [Col.ci IntKind.u64 fun x e => upG i (min L (steps L n)) g e]),
              (3, Blk.own 41 2 [some (SC.iv IntKind.i64 i), some (SC.iv IntKind.i64 (L - min L (steps L n)))])],
              nxt := 4, D := T1 }))
        (Out.leaf
          (SV.t [TE.c (SC.iv IntKind.i64 (steps L n)), TE.c (SC.kb false)],
            {
              h :=
              [(0,
              Blk.own 37 26
              [none, none, none, none, none, none, none, none, none, none, none, none, none, none, none, none,
              none, none, none, none, none, none, some (SC.ptr 1 (NV.k 0) (NV.k 0) 0 6), none, none, none]),
              (1,
              Blk.own 110 6
              [some (SC.slc 2 (NV.k 0) (NV.k 0) 1 (NV.s len) (NV.s len)), none, none, none, none,
              some (SC.iv IntKind.i64 x)]),
              (2, Blk.row 44 len len [Col.ci IntKind.u64 fun x e => upG i (min L (steps L n)) g e]),
              (3, Blk.own 41 2 [some (SC.iv IntKind.i64 i), some (SC.iv IntKind.i64 (L - min L (steps L n)))])],
              nxt := 4, D := T1 }))) := by kernel_rfl


end Go.Proofs.Ytjpnpaboahbncaa.Mr
