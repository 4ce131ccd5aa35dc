/- Functions of integers: the executor's trees, printed by program. -/
import Derived.Test.YtjpnpaboahbncaaPbMain
set_option linter.unusedVariables false
set_option maxRecDepth 100000
namespace Go.Proofs.Ytjpnpaboahbncaa.Pb
open Go Go.RowKit Sx Cn

theorem awake24_eq  : awake24 =
  Out.need (((0 = 0 ∧ 0 = 0 ∧ 0 = 0 ∧ 1 = 1 ∧ 3 = 3 ∧ 3 = 3) ∧ (IntKind.i64 = IntKind.i64 ∧ Int.ofNat 0 = Int.ofNat 0) ∧ (IntKind.i64 = IntKind.i64 ∧ Int.ofNat 2 = Int.ofNat 2) ∧ True) ∧ (1 ≤ 1 ∧ (3 ≤ 3 ∧ 3 ≤ 3) ∧ ((∀ (i e : Nat), i = 0 ∧ e < 3 → e < 3) ∧ (∀ (i : Nat), i = 0 ∧ 0 < 3 → IntKind.u64 = IntKind.u64 ∧ Int.ofNat 1 = numAt [SC.ki IntKind.u64 (Int.ofNat 1), SC.ki IntKind.u64 (Int.ofNat 6), SC.ki IntKind.u64 (Int.ofNat 4)] 0) ∧ (∀ (i : Nat), i = 0 ∧ 1 < 3 → IntKind.u64 = IntKind.u64 ∧ Int.ofNat 6 = numAt [SC.ki IntKind.u64 (Int.ofNat 1), SC.ki IntKind.u64 (Int.ofNat 6), SC.ki IntKind.u64 (Int.ofNat 4)] 1) ∧ (∀ (i : Nat), i = 0 ∧ 2 < 3 → IntKind.u64 = IntKind.u64 ∧ Int.ofNat 4 = numAt [SC.ki IntKind.u64 (Int.ofNat 1), SC.ki IntKind.u64 (Int.ofNat 6), SC.ki IntKind.u64 (Int.ofNat 4)] 2) ∧ True) ∧ True) ∧ True)
    (Out.need (preC 3 (numAt [SC.ki IntKind.u64 (Int.ofNat 1), SC.ki IntKind.u64 (Int.ofNat 6), SC.ki IntKind.u64 (Int.ofNat 4)]))
    (Out.need (((1 = 1 ∧ 0 = 0 ∧ 0 = 0 ∧ 1 = 1 ∧ 3 = 3 ∧ 3 = 3) ∧ (IntKind.i64 = IntKind.i64 ∧ Int.ofNat 0 = Int.ofNat 0) ∧ (IntKind.i64 = IntKind.i64 ∧ Int.ofNat 1 = Int.ofNat 1) ∧ True) ∧ (1 ≤ 1 ∧ (3 ≤ 3 ∧ 3 ≤ 3) ∧ ((∀ (i e : Nat), i = 0 ∧ e < 3 → e < 3) ∧ (∀ (i : Nat), i = 0 ∧ 0 < 3 → IntKind.u64 = IntKind.u64 ∧ Int.ofNat 1 = numAt [SC.ki IntKind.u64 (Int.ofNat 1), SC.ki IntKind.u64 (Int.ofNat 6), SC.ki IntKind.u64 (Int.ofNat 4)] 0) ∧ (∀ (i : Nat), i = 0 ∧ 1 < 3 → IntKind.u64 = IntKind.u64 ∧ Int.ofNat 6 = numAt [SC.ki IntKind.u64 (Int.ofNat 1), SC.ki IntKind.u64 (Int.ofNat 6), SC.ki IntKind.u64 (Int.ofNat 4)] 1) ∧ (∀ (i : Nat), i = 0 ∧ 2 < 3 → IntKind.u64 = IntKind.u64 ∧ Int.ofNat 4 = numAt [SC.ki IntKind.u64 (Int.ofNat 1), SC.ki IntKind.u64 (Int.ofNat 6), SC.ki IntKind.u64 (Int.ofNat 4)] 2) ∧ True) ∧ True) ∧ True)
    (Out.need (preC 3 (numAt [SC.ki IntKind.u64 (Int.ofNat 1), SC.ki IntKind.u64 (Int.ofNat 6), SC.ki IntKind.u64 (Int.ofNat 4)]))
    (Out.need (((2 = 2 ∧ 0 = 0 ∧ 0 = 0 ∧ 1 = 1 ∧ 2 = 2 ∧ 2 = 2) ∧ (IntKind.i64 = IntKind.i64 ∧ Int.ofNat 0 = Int.ofNat 0) ∧ (IntKind.i64 = IntKind.i64 ∧ Int.ofNat 0 = Int.ofNat 0) ∧ True) ∧ (1 ≤ 1 ∧ (2 ≤ 2 ∧ 2 ≤ 2) ∧ ((∀ (i e : Nat), i = 0 ∧ e < 2 → e < 2) ∧ (∀ (i : Nat), i = 0 ∧ 0 < 2 → IntKind.u64 = IntKind.u64 ∧ Int.ofNat 1 = numAt [SC.ki IntKind.u64 (Int.ofNat 1), SC.ki IntKind.u64 (Int.ofNat 0)] 0) ∧ (∀ (i : Nat), i = 0 ∧ 1 < 2 → IntKind.u64 = IntKind.u64 ∧ Int.ofNat 0 = numAt [SC.ki IntKind.u64 (Int.ofNat 1), SC.ki IntKind.u64 (Int.ofNat 0)] 1) ∧ True) ∧ True) ∧ True)
    (Out.need (preC 2 (numAt [SC.ki IntKind.u64 (Int.ofNat 1), SC.ki IntKind.u64 (Int.ofNat 0)]))
    (Out.br true
    (Out.br true
    (Out.br true
    (Out.br true
    (Out.br true
    (Out.leaf (SV.c (SC.bv true), { h := [], nxt := 3, D := fun x => True }))
    (Out.leaf (SV.c (SC.kb false), { h := [], nxt := 3, D := fun x => True })))
    (Out.leaf (SV.c (SC.kb false), { h := [], nxt := 3, D := fun x => True })))
    (Out.leaf (SV.c (SC.kb false), { h := [], nxt := 3, D := fun x => True })))
    (Out.leaf (SV.c (SC.kb false), { h := [], nxt := 3, D := fun x => True })))
    (Out.leaf (SV.c (SC.kb false), { h := [], nxt := 3, D := fun x => True })))))))) := by kernel_rfl

theorem round4_eq (n cap : Nat) (g : Nat → Int) (s1 st : Int) (x : X4) : round4 n cap g s1 st x =
  Out.br (decide ((↑x.i : Int) < (↑n : Int)))
    (Out.need (Int.ofNat 0 ≤ (↑x.i : Int) ∧ (↑x.i : Int) < (↑n : Int))
    (Out.need (0 < 1 ∧ 0 + (↑x.i : Int).toNat < n)
    (Out.need (0 < 1 ∧ 0 + (↑x.i : Int).toNat < n)
    (Out.need (Int.ofNat 8 ≠ Int.ofNat 0)
    (Out.need (0 < 1)
    (Out.need (x.i ≤ x.i ∧ x.c = x.c)
    (Out.need (x.i + 1 ≤ 9223372036854775807 ∧ (x.i + 1) * 8 ≤ 140737488355328)
    (Out.ge (x.i + 1) fun x_1 => Out.leaf (Ex.normal, { tmps := [some (SV.c (SC.slc 0 (NV.k 0) (NV.k 0) 1 (NV.s n) (NV.s cap))), some (SV.c (SC.iv IntKind.i64 s1)), some (SV.c (SC.iv IntKind.i64 st)), none, none, none, none, none, none, some (SV.c (SC.slc 3 (NV.k 0) (NV.k 0) 1 (NV.s (x.i + 1)) (NV.s x_1))), some (SV.c (SC.iv IntKind.i64 (IntKind.i64.wrap ((↑x.i : Int) + Int.ofNat 1)))), none, none, none, none, none, none, none, none, none, none, none, none, none, none, none, none, none, none, none, none, none, none, none, none, none, none, none, none, none, none, none, none, none, none, none, none, none, none, none, none, none, none, none, none, none, none, none, none, none, none, none, none, none, none, none], H := { h := [(3, Blk.row 44 x_1 (x.i + 1) [Col.ci IntKind.u64 fun i' j => if i' = 0 ∧ j = x.i then (g (0 + (↑x.i : Int).toNat)).tmod (Int.ofNat 8) else m8 g j]), (0, Blk.view 1 (fun x => n) [Col.ci IntKind.u64 fun x e => g e])], nxt := 4, D := fun x => True } })))))))))
    (Out.leaf (Ex.exit 0, { tmps := [none, some (SV.c (SC.iv IntKind.i64 s1)), some (SV.c (SC.iv IntKind.i64 st)), none, none, none, none, none, none, some (SV.c (SC.slc 1 (NV.k 0) (NV.k 0) 1 (NV.s x.i) (NV.s x.c))), none, none, none, none, none, none, none, none, none, none, none, none, none, none, none, none, none, none, none, none, none, none, none, none, none, none, none, none, none, none, none, none, none, none, none, none, none, none, none, none, none, none, none, none, none, none, none, none, none, none, none, none, none, none, none, none], H := { h := [(0, Blk.view 1 (fun x => n) [Col.ci IntKind.u64 fun x e => g e]), (1, Blk.row 44 x.c x.i [Col.ci IntKind.u64 fun x e => m8 g e])], nxt := 2, D := fun x => True } })) := by kernel_rfl

theorem main4_eq (n cap : Nat) (g : Nat → Int) (self st : Int) (near : Bool) : main4 n cap g self st near =
  Out.br (decide ((↑n : Int) > Int.ofNat 100))
    (Out.leaf (SV.c (SC.kb true), { h := [(0, Blk.view 1 (fun x => n) [Col.ci IntKind.u64 fun x e => g e])], nxt := 1, D := fun x => True }))
    (Out.br near
    (Out.need (Int.ofNat 1 ≠ Int.ofNat 0)
    (Out.need (0 < 1 ∧ 0 < 1)
    (Out.need (0 < 1 ∧ 0 < 1)
    (Out.need (Int.ofNat 1 ≠ Int.ofNat 0)
    (Out.need (Int.ofNat 7 ≠ Int.ofNat 0)
    (Out.need (Int.ofNat 1 ≠ Int.ofNat 0)
    (Out.need (IntKind.i64.wrap ((↑n : Int) + Int.ofNat 2) ≤ Int.ofNat 9223372036854775807)
    (Out.need (I4 n g { i := 0, c := 0 } ∧ (∀ (k : Nat), True) ∧ (∀ (k : Nat), True) ∧ ((0 = 0 ∧ 0 = 0 ∧ 0 = 0 ∧ 1 = 1 ∧ n = n ∧ cap = cap) ∧ (IntKind.i64 = IntKind.i64 ∧ IntKind.i64.wrap (dr (IntKind.i64.wrap (self.tdiv (Int.ofNat 1))) (IntKind.i64.wrap ((↑n : Int) + Int.ofNat 2)) - Int.ofNat 1) = s1 n self) ∧ (IntKind.i64 = IntKind.i64 ∧ st = st) ∧ (2281701378 = 2281701378 ∧ 0 = 0 ∧ 0 = 0 ∧ 1 = 1 ∧ 0 = 0 ∧ 0 = 0) ∧ (IntKind.i64 = IntKind.i64 ∧ Int.ofNat 0 = (↑0 : Int)) ∧ True) ∧ (1 ≤ 1 ∧ (∀ (i : Nat), i < 1 → n ≤ n) ∧ (IntKind.u64 = IntKind.u64 ∧ ∀ (i e : Nat), i < 1 ∧ e < n → g e = g e) ∧ True) ∧ (44 = 44 ∧ 0 = 0 ∧ 0 ≤ 0 ∧ (IntKind.u64 = IntKind.u64 ∧ ∀ (i e : Nat), i = 0 ∧ e < 0 → Int.ofNat 0 = m8 g e) ∧ True) ∧ True)
    (Out.any Nat (fun c => n ≤ c) fun x => Out.need (((1 = 1 ∧ 0 = 0 ∧ 0 = 0 ∧ 1 = 1 ∧ n = n ∧ x = x) ∧ (IntKind.i64 = IntKind.i64 ∧ s1 n self = s1 n self) ∧ (IntKind.i64 = IntKind.i64 ∧ st = st) ∧ True) ∧ (1 ≤ 1 ∧ (n ≤ n ∧ n ≤ x) ∧ (IntKind.u64 = IntKind.u64 ∧ ∀ (i e : Nat), i = 0 ∧ e < n → m8 g e = m8 g e) ∧ True) ∧ True)
    (Out.need (preC n fun e => m8 g e)
    (Out.need (((1 = 1 ∧ 0 = 0 ∧ 0 = 0 ∧ 1 = 1 ∧ n = n ∧ x = x) ∧ (IntKind.i64 = IntKind.i64 ∧ s1 n self = s1 n self) ∧ (IntKind.i64 = IntKind.i64 ∧ st = st) ∧ True) ∧ (1 ≤ 1 ∧ (n ≤ n ∧ n ≤ x) ∧ (IntKind.u64 = IntKind.u64 ∧ ∀ (i e : Nat), i = 0 ∧ e < n → m8 g e = m8 g e) ∧ True) ∧ True)
    (Out.need (preC n fun e => m8 g e)
    (Out.need (True ∧ True)
    (Out.br ((cho (fun e => m8 g e) n (s1 n self) st n).fst == (cho (fun e => m8 g e) n (s1 n self) st n).fst)
    (Out.leaf (SV.c (SC.bv ((cho (fun e => m8 g e) n (s1 n self) st n).snd == (cho (fun e => m8 g e) n (s1 n self) st n).snd)), { h := [], nxt := 5, D := fun x => True }))
    (Out.leaf (SV.c (SC.kb false), { h := [], nxt := 5, D := fun x => True }))))))))))))))))
    (Out.need (((0 = 0 ∧ 0 = 0 ∧ 0 = 0 ∧ 1 = 1 ∧ n = n ∧ cap = cap) ∧ (IntKind.i64 = IntKind.i64 ∧ self = self) ∧ (IntKind.i64 = IntKind.i64 ∧ st = st) ∧ True) ∧ (1 ≤ 1 ∧ (∀ (i : Nat), i < 1 → n ≤ n) ∧ (IntKind.u64 = IntKind.u64 ∧ ∀ (i e : Nat), i < 1 ∧ e < n → g e = g e) ∧ True) ∧ True)
    (Out.need (preC n fun e => g e)
    (Out.need (((0 = 0 ∧ 0 = 0 ∧ 0 = 0 ∧ 1 = 1 ∧ n = n ∧ cap = cap) ∧ (IntKind.i64 = IntKind.i64 ∧ self = self) ∧ (IntKind.i64 = IntKind.i64 ∧ st = st) ∧ True) ∧ (1 ≤ 1 ∧ (∀ (i : Nat), i < 1 → n ≤ n) ∧ (IntKind.u64 = IntKind.u64 ∧ ∀ (i e : Nat), i < 1 ∧ e < n → g e = g e) ∧ True) ∧ True)
    (Out.need (preC n fun e => g e)
    (Out.need (True ∧ True)
    (Out.br ((cho (fun e => g e) n self st n).fst == (cho (fun e => g e) n self st n).fst)
    (Out.leaf (SV.c (SC.bv ((cho (fun e => g e) n self st n).snd == (cho (fun e => g e) n self st n).snd)), { h := [(0, Blk.view 1 (fun x => n) [Col.ci IntKind.u64 fun x e => g e])], nxt := 4, D := fun x => True }))
    (Out.leaf (SV.c (SC.kb false), { h := [(0, Blk.view 1 (fun x => n) [Col.ci IntKind.u64 fun x e => g e])], nxt := 4, D := fun x => True }))))))))) := by kernel_rfl


end Go.Proofs.Ytjpnpaboahbncaa.Pb
