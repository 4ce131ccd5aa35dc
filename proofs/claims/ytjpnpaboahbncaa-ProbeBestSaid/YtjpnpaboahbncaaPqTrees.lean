/- Functions of integers: the executor's trees, printed by program. -/
import Derived.Test.YtjpnpaboahbncaaPqMain
set_option linter.unusedVariables false
set_option maxRecDepth 100000
namespace Go.Proofs.Ytjpnpaboahbncaa.Pb
open Go Go.RowKit Sx Cn

theorem round5_eq (n cap : Nat) (g : Nat → Int) (s8 st : Int) (i : Nat) : round5 n cap g s8 st i =
  Out.br (decide ((↑i : Int) < (↑n : Int)))
    (Out.need ((↑n : Int) ≠ Int.ofNat 0)
    (Out.br ((IntKind.i64.wrap (IntKind.i64.wrap st + (↑i : Int))).tmod (↑n : Int) == (best n g s8 st).fst)
    (Out.need (Int.ofNat 0 ≤ (IntKind.i64.wrap (IntKind.i64.wrap st + (↑i : Int))).tmod (↑n : Int) ∧ (IntKind.i64.wrap (IntKind.i64.wrap st + (↑i : Int))).tmod (↑n : Int) < (↑n : Int))
    (Out.need (0 < 1 ∧ 0 + ((IntKind.i64.wrap (IntKind.i64.wrap st + (↑i : Int))).tmod (↑n : Int)).toNat < n)
    (Out.need (0 < 1 ∧ 0 + ((IntKind.i64.wrap (IntKind.i64.wrap st + (↑i : Int))).tmod (↑n : Int)).toNat < n)
    (Out.need (Int.ofNat 0 ≤ g (0 + ((IntKind.i64.wrap (IntKind.i64.wrap st + (↑i : Int))).tmod (↑n : Int)).toNat) ∧ g (0 + ((IntKind.i64.wrap (IntKind.i64.wrap st + (↑i : Int))).tmod (↑n : Int)).toNat) ≤ Int.ofNat 18446744073709551615)
    (Out.need ((↑n : Int) ≠ Int.ofNat 0)
    (Out.br ((IntKind.i64.wrap (IntKind.i64.wrap st + (↑i : Int))).tmod (↑n : Int) != (IntKind.i64.wrap s8).tmod (↑n : Int))
    (Out.br ((IntKind.i64.wrap (IntKind.i64.wrap st + (↑i : Int))).tmod (↑n : Int) != (best n g s8 st).fst)
    (Out.br (decide (hi (g (0 + ((IntKind.i64.wrap (IntKind.i64.wrap st + (↑i : Int))).tmod (↑n : Int)).toNat)) > (best n g s8 st).snd))
    (Out.leaf (Ex.ret, { tmps := tms 121 [], H := { h := [(0, Blk.view 1 (fun x => n) [Col.ci IntKind.u64 fun x e => g e])], nxt := 1, D := fun x => True } }))
    (Out.br (hi (g (0 + ((IntKind.i64.wrap (IntKind.i64.wrap st + (↑i : Int))).tmod (↑n : Int)).toNat)) == (best n g s8 st).snd)
    (Out.leaf (Ex.normal, { tmps := tms 121 [(0, (SV.c (SC.slc 0 (NV.k 0) (NV.k 0) 1 (NV.s n) (NV.s cap)))), (1, (SV.c (SC.iv IntKind.u8 s8))), (2, (SV.c (SC.iv IntKind.u8 st))), (7, (SV.c (SC.iv IntKind.i64 (↑n : Int)))), (8, (SV.c (SC.iv IntKind.i64 (best n g s8 st).fst))), (9, (SV.c (SC.iv IntKind.i64 (best n g s8 st).snd))), (10, (SV.c (SC.kb false))), (11, (SV.c (SC.iv IntKind.i64 (IntKind.i64.wrap ((↑i : Int) + Int.ofNat 1)))))], H := { h := [(0, Blk.view 1 (fun x => n) [Col.ci IntKind.u64 fun x e => g e])], nxt := 1, D := fun x => True } }))
    (Out.leaf (Ex.normal, { tmps := tms 121 [(0, (SV.c (SC.slc 0 (NV.k 0) (NV.k 0) 1 (NV.s n) (NV.s cap)))), (1, (SV.c (SC.iv IntKind.u8 s8))), (2, (SV.c (SC.iv IntKind.u8 st))), (7, (SV.c (SC.iv IntKind.i64 (↑n : Int)))), (8, (SV.c (SC.iv IntKind.i64 (best n g s8 st).fst))), (9, (SV.c (SC.iv IntKind.i64 (best n g s8 st).snd))), (10, (SV.c (SC.kb false))), (11, (SV.c (SC.iv IntKind.i64 (IntKind.i64.wrap ((↑i : Int) + Int.ofNat 1)))))], H := { h := [(0, Blk.view 1 (fun x => n) [Col.ci IntKind.u64 fun x e => g e])], nxt := 1, D := fun x => True } }))))
    (Out.leaf (Ex.normal, { tmps := tms 121 [(0, (SV.c (SC.slc 0 (NV.k 0) (NV.k 0) 1 (NV.s n) (NV.s cap)))), (1, (SV.c (SC.iv IntKind.u8 s8))), (2, (SV.c (SC.iv IntKind.u8 st))), (7, (SV.c (SC.iv IntKind.i64 (↑n : Int)))), (8, (SV.c (SC.iv IntKind.i64 (best n g s8 st).fst))), (9, (SV.c (SC.iv IntKind.i64 (best n g s8 st).snd))), (10, (SV.c (SC.kb false))), (11, (SV.c (SC.iv IntKind.i64 (IntKind.i64.wrap ((↑i : Int) + Int.ofNat 1)))))], H := { h := [(0, Blk.view 1 (fun x => n) [Col.ci IntKind.u64 fun x e => g e])], nxt := 1, D := fun x => True } })))
    (Out.leaf (Ex.normal, { tmps := tms 121 [(0, (SV.c (SC.slc 0 (NV.k 0) (NV.k 0) 1 (NV.s n) (NV.s cap)))), (1, (SV.c (SC.iv IntKind.u8 s8))), (2, (SV.c (SC.iv IntKind.u8 st))), (7, (SV.c (SC.iv IntKind.i64 (↑n : Int)))), (8, (SV.c (SC.iv IntKind.i64 (best n g s8 st).fst))), (9, (SV.c (SC.iv IntKind.i64 (best n g s8 st).snd))), (10, (SV.c (SC.kb false))), (11, (SV.c (SC.iv IntKind.i64 (IntKind.i64.wrap ((↑i : Int) + Int.ofNat 1)))))], H := { h := [(0, Blk.view 1 (fun x => n) [Col.ci IntKind.u64 fun x e => g e])], nxt := 1, D := fun x => True } }))))))))
    (Out.need (Int.ofNat 0 ≤ (IntKind.i64.wrap (IntKind.i64.wrap st + (↑i : Int))).tmod (↑n : Int) ∧ (IntKind.i64.wrap (IntKind.i64.wrap st + (↑i : Int))).tmod (↑n : Int) < (↑n : Int))
    (Out.need (0 < 1 ∧ 0 + ((IntKind.i64.wrap (IntKind.i64.wrap st + (↑i : Int))).tmod (↑n : Int)).toNat < n)
    (Out.need (0 < 1 ∧ 0 + ((IntKind.i64.wrap (IntKind.i64.wrap st + (↑i : Int))).tmod (↑n : Int)).toNat < n)
    (Out.need (Int.ofNat 0 ≤ g (0 + ((IntKind.i64.wrap (IntKind.i64.wrap st + (↑i : Int))).tmod (↑n : Int)).toNat) ∧ g (0 + ((IntKind.i64.wrap (IntKind.i64.wrap st + (↑i : Int))).tmod (↑n : Int)).toNat) ≤ Int.ofNat 18446744073709551615)
    (Out.need ((↑n : Int) ≠ Int.ofNat 0)
    (Out.br ((IntKind.i64.wrap (IntKind.i64.wrap st + (↑i : Int))).tmod (↑n : Int) != (IntKind.i64.wrap s8).tmod (↑n : Int))
    (Out.br ((IntKind.i64.wrap (IntKind.i64.wrap st + (↑i : Int))).tmod (↑n : Int) != (best n g s8 st).fst)
    (Out.br (decide (hi (g (0 + ((IntKind.i64.wrap (IntKind.i64.wrap st + (↑i : Int))).tmod (↑n : Int)).toNat)) > (best n g s8 st).snd))
    (Out.leaf (Ex.ret, { tmps := tms 121 [], H := { h := [(0, Blk.view 1 (fun x => n) [Col.ci IntKind.u64 fun x e => g e])], nxt := 1, D := fun x => True } }))
    (Out.br (hi (g (0 + ((IntKind.i64.wrap (IntKind.i64.wrap st + (↑i : Int))).tmod (↑n : Int)).toNat)) == (best n g s8 st).snd)
    (Out.br (ear n (best n g s8 st).fst st i)
    (Out.br (decide ((best n g s8 st).fst ≥ Int.ofNat 0))
    (Out.leaf (Ex.ret, { tmps := tms 121 [], H := { h := [(0, Blk.view 1 (fun x => n) [Col.ci IntKind.u64 fun x e => g e])], nxt := 1, D := fun x => True } }))
    (Out.leaf (Ex.normal, { tmps := tms 121 [(0, (SV.c (SC.slc 0 (NV.k 0) (NV.k 0) 1 (NV.s n) (NV.s cap)))), (1, (SV.c (SC.iv IntKind.u8 s8))), (2, (SV.c (SC.iv IntKind.u8 st))), (7, (SV.c (SC.iv IntKind.i64 (↑n : Int)))), (8, (SV.c (SC.iv IntKind.i64 (best n g s8 st).fst))), (9, (SV.c (SC.iv IntKind.i64 (best n g s8 st).snd))), (10, (SV.c (SC.bv (ear n (best n g s8 st).fst st i)))), (11, (SV.c (SC.iv IntKind.i64 (IntKind.i64.wrap ((↑i : Int) + Int.ofNat 1)))))], H := { h := [(0, Blk.view 1 (fun x => n) [Col.ci IntKind.u64 fun x e => g e])], nxt := 1, D := fun x => True } })))
    (Out.leaf (Ex.normal, { tmps := tms 121 [(0, (SV.c (SC.slc 0 (NV.k 0) (NV.k 0) 1 (NV.s n) (NV.s cap)))), (1, (SV.c (SC.iv IntKind.u8 s8))), (2, (SV.c (SC.iv IntKind.u8 st))), (7, (SV.c (SC.iv IntKind.i64 (↑n : Int)))), (8, (SV.c (SC.iv IntKind.i64 (best n g s8 st).fst))), (9, (SV.c (SC.iv IntKind.i64 (best n g s8 st).snd))), (10, (SV.c (SC.bv (ear n (best n g s8 st).fst st i)))), (11, (SV.c (SC.iv IntKind.i64 (IntKind.i64.wrap ((↑i : Int) + Int.ofNat 1)))))], H := { h := [(0, Blk.view 1 (fun x => n) [Col.ci IntKind.u64 fun x e => g e])], nxt := 1, D := fun x => True } })))
    (Out.leaf (Ex.normal, { tmps := tms 121 [(0, (SV.c (SC.slc 0 (NV.k 0) (NV.k 0) 1 (NV.s n) (NV.s cap)))), (1, (SV.c (SC.iv IntKind.u8 s8))), (2, (SV.c (SC.iv IntKind.u8 st))), (7, (SV.c (SC.iv IntKind.i64 (↑n : Int)))), (8, (SV.c (SC.iv IntKind.i64 (best n g s8 st).fst))), (9, (SV.c (SC.iv IntKind.i64 (best n g s8 st).snd))), (10, (SV.c (SC.bv (ear n (best n g s8 st).fst st i)))), (11, (SV.c (SC.iv IntKind.i64 (IntKind.i64.wrap ((↑i : Int) + Int.ofNat 1)))))], H := { h := [(0, Blk.view 1 (fun x => n) [Col.ci IntKind.u64 fun x e => g e])], nxt := 1, D := fun x => True } }))))
    (Out.leaf (Ex.normal, { tmps := tms 121 [(0, (SV.c (SC.slc 0 (NV.k 0) (NV.k 0) 1 (NV.s n) (NV.s cap)))), (1, (SV.c (SC.iv IntKind.u8 s8))), (2, (SV.c (SC.iv IntKind.u8 st))), (7, (SV.c (SC.iv IntKind.i64 (↑n : Int)))), (8, (SV.c (SC.iv IntKind.i64 (best n g s8 st).fst))), (9, (SV.c (SC.iv IntKind.i64 (best n g s8 st).snd))), (10, (SV.c (SC.bv (ear n (best n g s8 st).fst st i)))), (11, (SV.c (SC.iv IntKind.i64 (IntKind.i64.wrap ((↑i : Int) + Int.ofNat 1)))))], H := { h := [(0, Blk.view 1 (fun x => n) [Col.ci IntKind.u64 fun x e => g e])], nxt := 1, D := fun x => True } })))
    (Out.leaf (Ex.normal, { tmps := tms 121 [(0, (SV.c (SC.slc 0 (NV.k 0) (NV.k 0) 1 (NV.s n) (NV.s cap)))), (1, (SV.c (SC.iv IntKind.u8 s8))), (2, (SV.c (SC.iv IntKind.u8 st))), (7, (SV.c (SC.iv IntKind.i64 (↑n : Int)))), (8, (SV.c (SC.iv IntKind.i64 (best n g s8 st).fst))), (9, (SV.c (SC.iv IntKind.i64 (best n g s8 st).snd))), (10, (SV.c (SC.bv (ear n (best n g s8 st).fst st i)))), (11, (SV.c (SC.iv IntKind.i64 (IntKind.i64.wrap ((↑i : Int) + Int.ofNat 1)))))], H := { h := [(0, Blk.view 1 (fun x => n) [Col.ci IntKind.u64 fun x e => g e])], nxt := 1, D := fun x => True } }))))))))))
    (Out.leaf (Ex.exit 0, { tmps := tms 121 [], H := { h := [(0, Blk.view 1 (fun x => n) [Col.ci IntKind.u64 fun x e => g e])], nxt := 1, D := fun x => True } })) := by kernel_rfl

theorem main5_eq (n cap : Nat) (g : Nat → Int) (s8 st : Int) : main5 n cap g s8 st =
  Out.br ((↑n : Int) == Int.ofNat 0)
    (Out.leaf (SV.c (SC.kb true), { h := [(0, Blk.view 1 (fun x => n) [Col.ci IntKind.u64 fun x e => g e])], nxt := 1, D := fun x => True }))
    (Out.br (decide ((↑n : Int) > Int.ofNat 64))
    (Out.leaf (SV.c (SC.kb true), { h := [(0, Blk.view 1 (fun x => n) [Col.ci IntKind.u64 fun x e => g e])], nxt := 1, D := fun x => True }))
    (Out.need ((↑n : Int) ≠ Int.ofNat 0)
    (Out.need (((0 = 0 ∧ 0 = 0 ∧ 0 = 0 ∧ 1 = 1 ∧ n = n ∧ cap = cap) ∧ (IntKind.i64 = IntKind.i64 ∧ (IntKind.i64.wrap s8).tmod (↑n : Int) = (IntKind.i64.wrap s8).tmod (↑n : Int)) ∧ (IntKind.i64 = IntKind.i64 ∧ IntKind.i64.wrap st = IntKind.i64.wrap st) ∧ True) ∧ (1 ≤ 1 ∧ (∀ (i : Nat), i < 1 → n ≤ n) ∧ (IntKind.u64 = IntKind.u64 ∧ ∀ (i e : Nat), i < 1 ∧ e < n → g e = g e) ∧ True) ∧ True)
    (Out.need (preC n fun e => g e)
    (Out.need (True ∧ True)
    (Out.br (decide ((cho (fun e => g e) n ((IntKind.i64.wrap s8).tmod (↑n : Int)) (IntKind.i64.wrap st) n).fst < -Int.ofNat 1))
    (Out.leaf (SV.c (SC.kb false), { h := [(0, Blk.view 1 (fun x => n) [Col.ci IntKind.u64 fun x e => g e])], nxt := 4, D := fun x => True }))
    (Out.br (decide ((cho (fun e => g e) n ((IntKind.i64.wrap s8).tmod (↑n : Int)) (IntKind.i64.wrap st) n).fst ≥ (↑n : Int)))
    (Out.leaf (SV.c (SC.kb false), { h := [(0, Blk.view 1 (fun x => n) [Col.ci IntKind.u64 fun x e => g e])], nxt := 4, D := fun x => True }))
    (Out.need ((↑n : Int) ≠ Int.ofNat 0)
    (Out.br ((cho (fun e => g e) n ((IntKind.i64.wrap s8).tmod (↑n : Int)) (IntKind.i64.wrap st) n).fst == (IntKind.i64.wrap s8).tmod (↑n : Int))
    (Out.leaf (SV.c (SC.kb false), { h := [(0, Blk.view 1 (fun x => n) [Col.ci IntKind.u64 fun x e => g e])], nxt := 4, D := fun x => True }))
    (Out.br (!((cho (fun e => g e) n ((IntKind.i64.wrap s8).tmod (↑n : Int)) (IntKind.i64.wrap st) n).fst == -Int.ofNat 1) == ((cho (fun e => g e) n ((IntKind.i64.wrap s8).tmod (↑n : Int)) (IntKind.i64.wrap st) n).snd == -Int.ofNat 1))
    (Out.leaf (SV.c (SC.kb false), { h := [(0, Blk.view 1 (fun x => n) [Col.ci IntKind.u64 fun x e => g e])], nxt := 4, D := fun x => True }))
    (Out.br (decide ((cho (fun e => g e) n ((IntKind.i64.wrap s8).tmod (↑n : Int)) (IntKind.i64.wrap st) n).fst ≥ Int.ofNat 0))
    (Out.need (Int.ofNat 0 ≤ (cho (fun e => g e) n ((IntKind.i64.wrap s8).tmod (↑n : Int)) (IntKind.i64.wrap st) n).fst ∧ (cho (fun e => g e) n ((IntKind.i64.wrap s8).tmod (↑n : Int)) (IntKind.i64.wrap st) n).fst < (↑n : Int))
    (Out.need (0 < 1 ∧ 0 + (cho (fun e => g e) n ((IntKind.i64.wrap s8).tmod (↑n : Int)) (IntKind.i64.wrap st) n).fst.toNat < n)
    (Out.need (0 < 1 ∧ 0 + (cho (fun e => g e) n ((IntKind.i64.wrap s8).tmod (↑n : Int)) (IntKind.i64.wrap st) n).fst.toNat < n)
    (Out.need (Int.ofNat 0 ≤ g (0 + (cho (fun e => g e) n ((IntKind.i64.wrap s8).tmod (↑n : Int)) (IntKind.i64.wrap st) n).fst.toNat) ∧ g (0 + (cho (fun e => g e) n ((IntKind.i64.wrap s8).tmod (↑n : Int)) (IntKind.i64.wrap st) n).fst.toNat) ≤ Int.ofNat 18446744073709551615)
    (Out.br ((cho (fun e => g e) n ((IntKind.i64.wrap s8).tmod (↑n : Int)) (IntKind.i64.wrap st) n).snd != hi (g (0 + (cho (fun e => g e) n ((IntKind.i64.wrap s8).tmod (↑n : Int)) (IntKind.i64.wrap st) n).fst.toNat)))
    (Out.leaf (SV.c (SC.kb false), { h := [(0, Blk.view 1 (fun x => n) [Col.ci IntKind.u64 fun x e => g e])], nxt := 4, D := fun x => True }))
    (Out.need (I5 n g s8 st 0 ∧ (∀ (k : Nat), True) ∧ (∀ (k : Nat), True) ∧ ((0 = 0 ∧ 0 = 0 ∧ 0 = 0 ∧ 1 = 1 ∧ n = n ∧ cap = cap) ∧ (IntKind.u8 = IntKind.u8 ∧ s8 = s8) ∧ (IntKind.u8 = IntKind.u8 ∧ st = st) ∧ (IntKind.i64 = IntKind.i64 ∧ (↑n : Int) = (↑n : Int)) ∧ (IntKind.i64 = IntKind.i64 ∧ (cho (fun e => g e) n ((IntKind.i64.wrap s8).tmod (↑n : Int)) (IntKind.i64.wrap st) n).fst = (best n g s8 st).fst) ∧ (IntKind.i64 = IntKind.i64 ∧ (cho (fun e => g e) n ((IntKind.i64.wrap s8).tmod (↑n : Int)) (IntKind.i64.wrap st) n).snd = (best n g s8 st).snd) ∧ true = ear n (best n g s8 st).fst st 0 ∧ (IntKind.i64 = IntKind.i64 ∧ Int.ofNat 0 = (↑0 : Int)) ∧ True) ∧ (1 ≤ 1 ∧ (∀ (i : Nat), i < 1 → n ≤ n) ∧ (IntKind.u64 = IntKind.u64 ∧ ∀ (i e : Nat), i < 1 ∧ e < n → g e = g e) ∧ True) ∧ True)
    (Out.leaf (SV.c (SC.kb true), { h := [], nxt := 1, D := fun x => True }))))))))
    (Out.need (I5 n g s8 st 0 ∧ (∀ (k : Nat), True) ∧ (∀ (k : Nat), True) ∧ ((0 = 0 ∧ 0 = 0 ∧ 0 = 0 ∧ 1 = 1 ∧ n = n ∧ cap = cap) ∧ (IntKind.u8 = IntKind.u8 ∧ s8 = s8) ∧ (IntKind.u8 = IntKind.u8 ∧ st = st) ∧ (IntKind.i64 = IntKind.i64 ∧ (↑n : Int) = (↑n : Int)) ∧ (IntKind.i64 = IntKind.i64 ∧ (cho (fun e => g e) n ((IntKind.i64.wrap s8).tmod (↑n : Int)) (IntKind.i64.wrap st) n).fst = (best n g s8 st).fst) ∧ (IntKind.i64 = IntKind.i64 ∧ (cho (fun e => g e) n ((IntKind.i64.wrap s8).tmod (↑n : Int)) (IntKind.i64.wrap st) n).snd = (best n g s8 st).snd) ∧ true = ear n (best n g s8 st).fst st 0 ∧ (IntKind.i64 = IntKind.i64 ∧ Int.ofNat 0 = (↑0 : Int)) ∧ True) ∧ (1 ≤ 1 ∧ (∀ (i : Nat), i < 1 → n ≤ n) ∧ (IntKind.u64 = IntKind.u64 ∧ ∀ (i e : Nat), i < 1 ∧ e < n → g e = g e) ∧ True) ∧ True)
    (Out.leaf (SV.c (SC.kb true), { h := [], nxt := 1, D := fun x => True })))))))))))))) := by kernel_rfl


end Go.Proofs.Ytjpnpaboahbncaa.Pb
