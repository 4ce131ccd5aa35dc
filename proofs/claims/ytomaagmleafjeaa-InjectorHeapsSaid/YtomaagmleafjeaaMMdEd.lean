/- Heaps as lists: the conditions, printed by program. -/
import Derived.Test.YtomaagmleafjeaaMMdEdD
import Derived.Test.YtomaagmleafjeaaMW
import Derived.Test.YtomaagmleafjeaaMMdHc
import Derived.Test.YtomaagmleafjeaaMMdBr
import Derived.Test.YtomaagmleafjeaaMMdInR
set_option linter.unusedVariables false
set_option linter.unusedSimpArgs false
set_option linter.unusedVariables false
set_option maxRecDepth 100000
namespace Go.Proofs.Ytomaagmleafjeaa.Md
open Go Go.RowKit Sx Cn Dc Ck Vc

theorem vEP_eq (n cap : Nat) (g : Nat → Int) (k : Int) : vEP n cap g k =
  nN [(1, .pf (n = n) rfl), (1, .pf (cap = cap) rfl), (1, .le 1 1), (1, .pf (∀ (i : Nat), i < 1 → n ≤ n) (by intros; exact Nat.le_refl _)), (1, .pf (∀ (i e : Nat), i < 1 ∧ e < n → g e = g e) (by intros; rfl))]
    (V.need (n ≤ 1000000)
    (V.need (∃ (x : Nat), n ≤ x)
    (V.any Nat (fun (c : Nat) => n ≤ c) fun (x : Nat) => nN [(1, .lt 0 1)]
    (V.need (n ≤ n ∧ x = x)
    (V.need (n + 1 ≤ 9223372036854775807 ∧ (n + 1) * 8 ≤ 140737488355328)
    (V.any Nat (fun (x : Nat) => n + 1 ≤ x) fun (x : Nat) => V.need ((IntKind.i64.wrap ((↑(n + 1) : Int) - Int.ofNat 1)).toNat ≤ n ∧ ∀ (j : Nat), j ≤ n → upM (IntKind.i64.wrap ((↑(n + 1) : Int) - Int.ofNat 1)).toNat k (fun (e : Nat) => if 0 = 0 ∧ e = n then k else g e) j = upM n k g j)
    (V.need (IntKind.i64.wrap ((↑(n + 1) : Int) - Int.ofNat 1) = (↑(IntKind.i64.wrap ((↑(n + 1) : Int) - Int.ofNat 1)).toNat : Int))
    (nN [(1, .pf (x = x) rfl)]
    (V.need (n + 1 ≤ n + 1)
    (V.need (∀ (e : Nat), e < n + 1 → (if 0 = 0 ∧ e = n then k else g e) = if 0 = 0 ∧ e = n then k else g e)
    (V.any XEd (IEP n k g) fun (x_1 : XEd) => V.br (decide ((↑x_1.fst : Int) > Int.ofNat 0))
    (nN [(1, .neI 2 0)]
    (V.need (Int.ofNat 0 ≤ IntKind.i64.wrap ((IntKind.i64.wrap ((↑x_1.fst : Int) - Int.ofNat 1)).tdiv (Int.ofNat 2)) ∧ IntKind.i64.wrap ((IntKind.i64.wrap ((↑x_1.fst : Int) - Int.ofNat 1)).tdiv (Int.ofNat 2)) < (↑(n + 1) : Int))
    (V.need (0 + (IntKind.i64.wrap ((IntKind.i64.wrap ((↑x_1.fst : Int) - Int.ofNat 1)).tdiv (Int.ofNat 2))).toNat < n + 1)
    (V.need (0 + (IntKind.i64.wrap ((IntKind.i64.wrap ((↑x_1.fst : Int) - Int.ofNat 1)).tdiv (Int.ofNat 2))).toNat < n + 1)
    (V.br (decide (x_1.snd (0 + (IntKind.i64.wrap ((IntKind.i64.wrap ((↑x_1.fst : Int) - Int.ofNat 1)).tdiv (Int.ofNat 2))).toNat) > k))
    (nN [(1, .neI 2 0)]
    (V.need (Int.ofNat 0 ≤ IntKind.i64.wrap ((IntKind.i64.wrap ((↑x_1.fst : Int) - Int.ofNat 1)).tdiv (Int.ofNat 2)) ∧ IntKind.i64.wrap ((IntKind.i64.wrap ((↑x_1.fst : Int) - Int.ofNat 1)).tdiv (Int.ofNat 2)) < (↑(n + 1) : Int))
    (V.need (0 + (IntKind.i64.wrap ((IntKind.i64.wrap ((↑x_1.fst : Int) - Int.ofNat 1)).tdiv (Int.ofNat 2))).toNat < n + 1)
    (V.need (0 + (IntKind.i64.wrap ((IntKind.i64.wrap ((↑x_1.fst : Int) - Int.ofNat 1)).tdiv (Int.ofNat 2))).toNat < n + 1)
    (V.need (Int.ofNat 0 ≤ (↑x_1.fst : Int) ∧ (↑x_1.fst : Int) < (↑(n + 1) : Int))
    (V.need (0 + (↑x_1.fst : Int).toNat < n + 1)
    (V.need (0 + (↑x_1.fst : Int).toNat < n + 1)
    (nN [(1, .neI 2 0)]
    (V.need ((IntKind.i64.wrap ((IntKind.i64.wrap ((↑x_1.fst : Int) - Int.ofNat 1)).tdiv (Int.ofNat 2))).toNat ≤ n ∧ ∀ (j : Nat), j ≤ n → upM (IntKind.i64.wrap ((IntKind.i64.wrap ((↑x_1.fst : Int) - Int.ofNat 1)).tdiv (Int.ofNat 2))).toNat k (fun (e : Nat) => if 0 = 0 ∧ e = 0 + (↑x_1.fst : Int).toNat then x_1.snd (0 + (IntKind.i64.wrap ((IntKind.i64.wrap ((↑x_1.fst : Int) - Int.ofNat 1)).tdiv (Int.ofNat 2))).toNat) else x_1.snd e) j = upM n k g j)
    (V.need ((IntKind.i64.wrap ((IntKind.i64.wrap ((↑x_1.fst : Int) - Int.ofNat 1)).tdiv (Int.ofNat 2))).toNat < x_1.fst)
    (V.need (IntKind.i64.wrap ((IntKind.i64.wrap ((↑x_1.fst : Int) - Int.ofNat 1)).tdiv (Int.ofNat 2)) = (↑(IntKind.i64.wrap ((IntKind.i64.wrap ((↑x_1.fst : Int) - Int.ofNat 1)).tdiv (Int.ofNat 2))).toNat : Int))
    (nN [(1, .pf (x = x) rfl)]
    (V.need (n + 1 ≤ n + 1)
    (V.need (∀ (e : Nat), e < n + 1 → (if 0 = 0 ∧ e = 0 + (↑x_1.fst : Int).toNat then x_1.snd (0 + (IntKind.i64.wrap ((IntKind.i64.wrap ((↑x_1.fst : Int) - Int.ofNat 1)).tdiv (Int.ofNat 2))).toNat) else x_1.snd e) = if 0 = 0 ∧ e = 0 + (↑x_1.fst : Int).toNat then x_1.snd (0 + (IntKind.i64.wrap ((IntKind.i64.wrap ((↑x_1.fst : Int) - Int.ofNat 1)).tdiv (Int.ofNat 2))).toNat) else x_1.snd e) V.ok))))))))))))))
    (V.need (Int.ofNat 0 ≤ (↑x_1.fst : Int) ∧ (↑x_1.fst : Int) < (↑(n + 1) : Int))
    (V.need (0 + (↑x_1.fst : Int).toNat < n + 1)
    (V.need (0 + (↑x_1.fst : Int).toNat < n + 1)
    (V.need (n + 1 ≤ x)
    (nN [(1, .pf (n + 1 = n + 1) rfl), (2, .pf (x = x) rfl)]
    (V.need (n + 1 ≤ n + 1)
    (V.need (∀ (e : Nat), e < n + 1 → (if 0 = 0 ∧ e = 0 + (↑x_1.fst : Int).toNat then k else x_1.snd e) = upM n k g e) V.ok))))))))))))
    (V.need (Int.ofNat 0 ≤ (↑x_1.fst : Int) ∧ (↑x_1.fst : Int) < (↑(n + 1) : Int))
    (V.need (0 + (↑x_1.fst : Int).toNat < n + 1)
    (V.need (0 + (↑x_1.fst : Int).toNat < n + 1)
    (V.need (n + 1 ≤ x)
    (nN [(1, .pf (n + 1 = n + 1) rfl), (2, .pf (x = x) rfl)]
    (V.need (n + 1 ≤ n + 1)
    (V.need (∀ (e : Nat), e < n + 1 → (if 0 = 0 ∧ e = 0 + (↑x_1.fst : Int).toNat then k else x_1.snd e) = upM n k g e) V.ok)))))))))))))))))) := by kernel_rfl

set_option maxHeartbeats 8000000 in
theorem vEO_eq (n cap : Nat) (g : Nat → Int) : vEO n cap g =
  V.br ((↑n : Int) == Int.ofNat 0)
    (V.need (decide ((↑n : Int) = Int.ofNat 0) = true)
    (V.need True V.ok))
    (V.need (Int.ofNat 0 ≤ Int.ofNat 0 ∧ Int.ofNat 0 < (↑n : Int))
    (V.need (0 < 1 ∧ 0 < n)
    (V.need (0 < 1 ∧ 0 < n)
    (V.need (Int.ofNat 0 ≤ IntKind.i64.wrap ((↑n : Int) - Int.ofNat 1) ∧ IntKind.i64.wrap ((↑n : Int) - Int.ofNat 1) < (↑n : Int))
    (V.need (0 < 1 ∧ 0 + (IntKind.i64.wrap ((↑n : Int) - Int.ofNat 1)).toNat < n)
    (V.need (0 < 1 ∧ 0 + (IntKind.i64.wrap ((↑n : Int) - Int.ofNat 1)).toNat < n)
    (V.need (Int.ofNat 0 ≤ Int.ofNat 0 ∧ Int.ofNat 0 ≤ IntKind.i64.wrap ((↑n : Int) - Int.ofNat 1) ∧ IntKind.i64.wrap ((↑n : Int) - Int.ofNat 1) ≤ (↑cap : Int))
    (nN [(1, .pf ((IntKind.i64.wrap ((↑n : Int) - Int.ofNat 1)).toNat = (IntKind.i64.wrap ((↑n : Int) - Int.ofNat 1)).toNat) rfl), (1, .pf (cap = cap) rfl), (1, .le 1 1)]
    (V.need (∀ (i : Nat), i < 1 → (IntKind.i64.wrap ((↑n : Int) - Int.ofNat 1)).toNat ≤ n)
    (nN [(1, .pf (∀ (i e : Nat), i < 1 ∧ e < (IntKind.i64.wrap ((↑n : Int) - Int.ofNat 1)).toNat → g e = g e) (by intros; rfl))]
    (V.need ((IntKind.i64.wrap ((↑n : Int) - Int.ofNat 1)).toNat ≤ 1000000)
    (V.need (∃ (x : Nat), (IntKind.i64.wrap ((↑n : Int) - Int.ofNat 1)).toNat ≤ x)
    (V.any Nat (fun (c : Nat) => (IntKind.i64.wrap ((↑n : Int) - Int.ofNat 1)).toNat ≤ c) fun (x : Nat) => V.br ((↑(IntKind.i64.wrap ((↑n : Int) - Int.ofNat 1)).toNat : Int) == Int.ofNat 0)
    (V.need (decide ((↑n : Int) = Int.ofNat 0) = false)
    (V.need (decide ((↑n : Int) = Int.ofNat 1) = true)
    (V.need True
    (nN [(1, .pf (g 0 = g 0) rfl)] V.ok))))
    (V.need (0 < n - 1 ∧ ∀ (j : Nat), j < n - 1 → dnM (n - 1) (g (n - 1)) (n - 1 - 0) 0 (fun (e : Nat) => g e) j = dnM (n - 1) (g (n - 1)) (n - 1) 0 g j)
    (V.need (Int.ofNat 0 = (↑0 : Int))
    (nN [(1, .pf (x = x) rfl)]
    (V.need ((IntKind.i64.wrap ((↑n : Int) - Int.ofNat 1)).toNat ≤ (IntKind.i64.wrap ((↑n : Int) - Int.ofNat 1)).toNat)
    (nN [(1, .pf (∀ (e : Nat), e < (IntKind.i64.wrap ((↑n : Int) - Int.ofNat 1)).toNat → g e = g e) (by intros; rfl))]
    (V.any XEd (IEO (n - 1) (g (n - 1)) g) fun (x_1 : XEd) => V.br (decide (IntKind.i64.wrap (IntKind.i64.wrap (Int.ofNat 2 * (↑x_1.fst : Int)) + Int.ofNat 1) ≥ (↑(IntKind.i64.wrap ((↑n : Int) - Int.ofNat 1)).toNat : Int)))
    (V.need (Int.ofNat 0 ≤ (↑x_1.fst : Int) ∧ (↑x_1.fst : Int) < (↑(IntKind.i64.wrap ((↑n : Int) - Int.ofNat 1)).toNat : Int))
    (V.need (0 + (↑x_1.fst : Int).toNat < (IntKind.i64.wrap ((↑n : Int) - Int.ofNat 1)).toNat)
    (V.need (0 + (↑x_1.fst : Int).toNat < (IntKind.i64.wrap ((↑n : Int) - Int.ofNat 1)).toNat)
    (V.need (decide ((↑n : Int) = Int.ofNat 0) = false)
    (V.need (decide ((↑n : Int) = Int.ofNat 1) = false)
    (V.need (n - 1 ≤ x)
    (nN [(1, .pf (g 0 = g 0) rfl)]
    (V.need ((IntKind.i64.wrap ((↑n : Int) - Int.ofNat 1)).toNat = n - 1)
    (nN [(2, .pf (x = x) rfl)]
    (V.need (n - 1 ≤ (IntKind.i64.wrap ((↑n : Int) - Int.ofNat 1)).toNat)
    (V.need (∀ (e : Nat), e < n - 1 → (if 0 = 0 ∧ e = 0 + (↑x_1.fst : Int).toNat then g (0 + (IntKind.i64.wrap ((↑n : Int) - Int.ofNat 1)).toNat) else x_1.snd e) = dnM (n - 1) (g (n - 1)) (n - 1) 0 g e) V.ok)))))))))))
    (V.br (decide (IntKind.i64.wrap (IntKind.i64.wrap (IntKind.i64.wrap (Int.ofNat 2 * (↑x_1.fst : Int)) + Int.ofNat 1) + Int.ofNat 1) < (↑(IntKind.i64.wrap ((↑n : Int) - Int.ofNat 1)).toNat : Int)))
    (V.need (Int.ofNat 0 ≤ IntKind.i64.wrap (IntKind.i64.wrap (IntKind.i64.wrap (Int.ofNat 2 * (↑x_1.fst : Int)) + Int.ofNat 1) + Int.ofNat 1) ∧ IntKind.i64.wrap (IntKind.i64.wrap (IntKind.i64.wrap (Int.ofNat 2 * (↑x_1.fst : Int)) + Int.ofNat 1) + Int.ofNat 1) < (↑(IntKind.i64.wrap ((↑n : Int) - Int.ofNat 1)).toNat : Int))
    (V.need (0 < 1 ∧ 0 + (IntKind.i64.wrap (IntKind.i64.wrap (IntKind.i64.wrap (Int.ofNat 2 * (↑x_1.fst : Int)) + Int.ofNat 1) + Int.ofNat 1)).toNat < (IntKind.i64.wrap ((↑n : Int) - Int.ofNat 1)).toNat)
    (V.need (0 < 1 ∧ 0 + (IntKind.i64.wrap (IntKind.i64.wrap (IntKind.i64.wrap (Int.ofNat 2 * (↑x_1.fst : Int)) + Int.ofNat 1) + Int.ofNat 1)).toNat < (IntKind.i64.wrap ((↑n : Int) - Int.ofNat 1)).toNat)
    (V.need (Int.ofNat 0 ≤ IntKind.i64.wrap (IntKind.i64.wrap (Int.ofNat 2 * (↑x_1.fst : Int)) + Int.ofNat 1) ∧ IntKind.i64.wrap (IntKind.i64.wrap (Int.ofNat 2 * (↑x_1.fst : Int)) + Int.ofNat 1) < (↑(IntKind.i64.wrap ((↑n : Int) - Int.ofNat 1)).toNat : Int))
    (V.need (0 < 1 ∧ 0 + (IntKind.i64.wrap (IntKind.i64.wrap (Int.ofNat 2 * (↑x_1.fst : Int)) + Int.ofNat 1)).toNat < (IntKind.i64.wrap ((↑n : Int) - Int.ofNat 1)).toNat)
    (V.need (0 < 1 ∧ 0 + (IntKind.i64.wrap (IntKind.i64.wrap (Int.ofNat 2 * (↑x_1.fst : Int)) + Int.ofNat 1)).toNat < (IntKind.i64.wrap ((↑n : Int) - Int.ofNat 1)).toNat)
    (V.br (decide (x_1.snd (0 + (IntKind.i64.wrap (IntKind.i64.wrap (IntKind.i64.wrap (Int.ofNat 2 * (↑x_1.fst : Int)) + Int.ofNat 1) + Int.ofNat 1)).toNat) < x_1.snd (0 + (IntKind.i64.wrap (IntKind.i64.wrap (Int.ofNat 2 * (↑x_1.fst : Int)) + Int.ofNat 1)).toNat)))
    (V.br (decide (IntKind.i64.wrap (IntKind.i64.wrap (IntKind.i64.wrap (Int.ofNat 2 * (↑x_1.fst : Int)) + Int.ofNat 1) + Int.ofNat 1) < Int.ofNat 0))
    (V.need (Int.ofNat 0 ≤ (↑x_1.fst : Int) ∧ (↑x_1.fst : Int) < (↑(IntKind.i64.wrap ((↑n : Int) - Int.ofNat 1)).toNat : Int))
    (V.need (0 + (↑x_1.fst : Int).toNat < (IntKind.i64.wrap ((↑n : Int) - Int.ofNat 1)).toNat)
    (V.need (0 + (↑x_1.fst : Int).toNat < (IntKind.i64.wrap ((↑n : Int) - Int.ofNat 1)).toNat)
    (V.need (decide ((↑n : Int) = Int.ofNat 0) = false)
    (V.need (decide ((↑n : Int) = Int.ofNat 1) = false)
    (V.need (n - 1 ≤ x)
    (nN [(1, .pf (g 0 = g 0) rfl)]
    (V.need ((IntKind.i64.wrap ((↑n : Int) - Int.ofNat 1)).toNat = n - 1)
    (nN [(2, .pf (x = x) rfl)]
    (V.need (n - 1 ≤ (IntKind.i64.wrap ((↑n : Int) - Int.ofNat 1)).toNat)
    (V.need (∀ (e : Nat), e < n - 1 → (if 0 = 0 ∧ e = 0 + (↑x_1.fst : Int).toNat then g (0 + (IntKind.i64.wrap ((↑n : Int) - Int.ofNat 1)).toNat) else x_1.snd e) = dnM (n - 1) (g (n - 1)) (n - 1) 0 g e) V.ok)))))))))))
    (V.need (Int.ofNat 0 ≤ IntKind.i64.wrap (IntKind.i64.wrap (IntKind.i64.wrap (Int.ofNat 2 * (↑x_1.fst : Int)) + Int.ofNat 1) + Int.ofNat 1) ∧ IntKind.i64.wrap (IntKind.i64.wrap (IntKind.i64.wrap (Int.ofNat 2 * (↑x_1.fst : Int)) + Int.ofNat 1) + Int.ofNat 1) < (↑(IntKind.i64.wrap ((↑n : Int) - Int.ofNat 1)).toNat : Int))
    (V.need (0 + (IntKind.i64.wrap (IntKind.i64.wrap (IntKind.i64.wrap (Int.ofNat 2 * (↑x_1.fst : Int)) + Int.ofNat 1) + Int.ofNat 1)).toNat < (IntKind.i64.wrap ((↑n : Int) - Int.ofNat 1)).toNat)
    (V.need (0 + (IntKind.i64.wrap (IntKind.i64.wrap (IntKind.i64.wrap (Int.ofNat 2 * (↑x_1.fst : Int)) + Int.ofNat 1) + Int.ofNat 1)).toNat < (IntKind.i64.wrap ((↑n : Int) - Int.ofNat 1)).toNat)
    (V.br (decide (x_1.snd (0 + (IntKind.i64.wrap (IntKind.i64.wrap (IntKind.i64.wrap (Int.ofNat 2 * (↑x_1.fst : Int)) + Int.ofNat 1) + Int.ofNat 1)).toNat) ≥ g (0 + (IntKind.i64.wrap ((↑n : Int) - Int.ofNat 1)).toNat)))
    (V.need (Int.ofNat 0 ≤ (↑x_1.fst : Int) ∧ (↑x_1.fst : Int) < (↑(IntKind.i64.wrap ((↑n : Int) - Int.ofNat 1)).toNat : Int))
    (V.need (0 + (↑x_1.fst : Int).toNat < (IntKind.i64.wrap ((↑n : Int) - Int.ofNat 1)).toNat)
    (V.need (0 + (↑x_1.fst : Int).toNat < (IntKind.i64.wrap ((↑n : Int) - Int.ofNat 1)).toNat)
    (V.need (decide ((↑n : Int) = Int.ofNat 0) = false)
    (V.need (decide ((↑n : Int) = Int.ofNat 1) = false)
    (V.need (n - 1 ≤ x)
    (nN [(1, .pf (g 0 = g 0) rfl)]
    (V.need ((IntKind.i64.wrap ((↑n : Int) - Int.ofNat 1)).toNat = n - 1)
    (nN [(2, .pf (x = x) rfl)]
    (V.need (n - 1 ≤ (IntKind.i64.wrap ((↑n : Int) - Int.ofNat 1)).toNat)
    (V.need (∀ (e : Nat), e < n - 1 → (if 0 = 0 ∧ e = 0 + (↑x_1.fst : Int).toNat then g (0 + (IntKind.i64.wrap ((↑n : Int) - Int.ofNat 1)).toNat) else x_1.snd e) = dnM (n - 1) (g (n - 1)) (n - 1) 0 g e) V.ok)))))))))))
    (V.need (Int.ofNat 0 ≤ IntKind.i64.wrap (IntKind.i64.wrap (IntKind.i64.wrap (Int.ofNat 2 * (↑x_1.fst : Int)) + Int.ofNat 1) + Int.ofNat 1) ∧ IntKind.i64.wrap (IntKind.i64.wrap (IntKind.i64.wrap (Int.ofNat 2 * (↑x_1.fst : Int)) + Int.ofNat 1) + Int.ofNat 1) < (↑(IntKind.i64.wrap ((↑n : Int) - Int.ofNat 1)).toNat : Int))
    (V.need (0 + (IntKind.i64.wrap (IntKind.i64.wrap (IntKind.i64.wrap (Int.ofNat 2 * (↑x_1.fst : Int)) + Int.ofNat 1) + Int.ofNat 1)).toNat < (IntKind.i64.wrap ((↑n : Int) - Int.ofNat 1)).toNat)
    (V.need (0 + (IntKind.i64.wrap (IntKind.i64.wrap (IntKind.i64.wrap (Int.ofNat 2 * (↑x_1.fst : Int)) + Int.ofNat 1) + Int.ofNat 1)).toNat < (IntKind.i64.wrap ((↑n : Int) - Int.ofNat 1)).toNat)
    (V.need (Int.ofNat 0 ≤ (↑x_1.fst : Int) ∧ (↑x_1.fst : Int) < (↑(IntKind.i64.wrap ((↑n : Int) - Int.ofNat 1)).toNat : Int))
    (V.need (0 + (↑x_1.fst : Int).toNat < (IntKind.i64.wrap ((↑n : Int) - Int.ofNat 1)).toNat)
    (V.need (0 + (↑x_1.fst : Int).toNat < (IntKind.i64.wrap ((↑n : Int) - Int.ofNat 1)).toNat)
    (V.need ((IntKind.i64.wrap (IntKind.i64.wrap (IntKind.i64.wrap (Int.ofNat 2 * (↑x_1.fst : Int)) + Int.ofNat 1) + Int.ofNat 1)).toNat < n - 1 ∧ ∀ (j : Nat), j < n - 1 → dnM (n - 1) (g (n - 1)) (n - 1 - (IntKind.i64.wrap (IntKind.i64.wrap (IntKind.i64.wrap (Int.ofNat 2 * (↑x_1.fst : Int)) + Int.ofNat 1) + Int.ofNat 1)).toNat) (IntKind.i64.wrap (IntKind.i64.wrap (IntKind.i64.wrap (Int.ofNat 2 * (↑x_1.fst : Int)) + Int.ofNat 1) + Int.ofNat 1)).toNat (fun (e : Nat) => if 0 = 0 ∧ e = 0 + (↑x_1.fst : Int).toNat then x_1.snd (0 + (IntKind.i64.wrap (IntKind.i64.wrap (IntKind.i64.wrap (Int.ofNat 2 * (↑x_1.fst : Int)) + Int.ofNat 1) + Int.ofNat 1)).toNat) else x_1.snd e) j = dnM (n - 1) (g (n - 1)) (n - 1) 0 g j)
    (V.need (n - 1 - (IntKind.i64.wrap (IntKind.i64.wrap (IntKind.i64.wrap (Int.ofNat 2 * (↑x_1.fst : Int)) + Int.ofNat 1) + Int.ofNat 1)).toNat < n - 1 - x_1.fst)
    (V.need (IntKind.i64.wrap (IntKind.i64.wrap (IntKind.i64.wrap (Int.ofNat 2 * (↑x_1.fst : Int)) + Int.ofNat 1) + Int.ofNat 1) = (↑(IntKind.i64.wrap (IntKind.i64.wrap (IntKind.i64.wrap (Int.ofNat 2 * (↑x_1.fst : Int)) + Int.ofNat 1) + Int.ofNat 1)).toNat : Int))
    (nN [(1, .pf (x = x) rfl)]
    (V.need ((IntKind.i64.wrap ((↑n : Int) - Int.ofNat 1)).toNat ≤ (IntKind.i64.wrap ((↑n : Int) - Int.ofNat 1)).toNat)
    (V.need (∀ (e : Nat), e < (IntKind.i64.wrap ((↑n : Int) - Int.ofNat 1)).toNat → (if 0 = 0 ∧ e = 0 + (↑x_1.fst : Int).toNat then x_1.snd (0 + (IntKind.i64.wrap (IntKind.i64.wrap (IntKind.i64.wrap (Int.ofNat 2 * (↑x_1.fst : Int)) + Int.ofNat 1) + Int.ofNat 1)).toNat) else x_1.snd e) = if 0 = 0 ∧ e = 0 + (↑x_1.fst : Int).toNat then x_1.snd (0 + (IntKind.i64.wrap (IntKind.i64.wrap (IntKind.i64.wrap (Int.ofNat 2 * (↑x_1.fst : Int)) + Int.ofNat 1) + Int.ofNat 1)).toNat) else x_1.snd e) V.ok)))))))))))))))))
    (V.br (decide (IntKind.i64.wrap (IntKind.i64.wrap (Int.ofNat 2 * (↑x_1.fst : Int)) + Int.ofNat 1) < Int.ofNat 0))
    (V.need (Int.ofNat 0 ≤ (↑x_1.fst : Int) ∧ (↑x_1.fst : Int) < (↑(IntKind.i64.wrap ((↑n : Int) - Int.ofNat 1)).toNat : Int))
    (V.need (0 + (↑x_1.fst : Int).toNat < (IntKind.i64.wrap ((↑n : Int) - Int.ofNat 1)).toNat)
    (V.need (0 + (↑x_1.fst : Int).toNat < (IntKind.i64.wrap ((↑n : Int) - Int.ofNat 1)).toNat)
    (V.need (decide ((↑n : Int) = Int.ofNat 0) = false)
    (V.need (decide ((↑n : Int) = Int.ofNat 1) = false)
    (V.need (n - 1 ≤ x)
    (nN [(1, .pf (g 0 = g 0) rfl)]
    (V.need ((IntKind.i64.wrap ((↑n : Int) - Int.ofNat 1)).toNat = n - 1)
    (nN [(2, .pf (x = x) rfl)]
    (V.need (n - 1 ≤ (IntKind.i64.wrap ((↑n : Int) - Int.ofNat 1)).toNat)
    (V.need (∀ (e : Nat), e < n - 1 → (if 0 = 0 ∧ e = 0 + (↑x_1.fst : Int).toNat then g (0 + (IntKind.i64.wrap ((↑n : Int) - Int.ofNat 1)).toNat) else x_1.snd e) = dnM (n - 1) (g (n - 1)) (n - 1) 0 g e) V.ok)))))))))))
    (V.need (Int.ofNat 0 ≤ IntKind.i64.wrap (IntKind.i64.wrap (Int.ofNat 2 * (↑x_1.fst : Int)) + Int.ofNat 1) ∧ IntKind.i64.wrap (IntKind.i64.wrap (Int.ofNat 2 * (↑x_1.fst : Int)) + Int.ofNat 1) < (↑(IntKind.i64.wrap ((↑n : Int) - Int.ofNat 1)).toNat : Int))
    (V.need (0 + (IntKind.i64.wrap (IntKind.i64.wrap (Int.ofNat 2 * (↑x_1.fst : Int)) + Int.ofNat 1)).toNat < (IntKind.i64.wrap ((↑n : Int) - Int.ofNat 1)).toNat)
    (V.need (0 + (IntKind.i64.wrap (IntKind.i64.wrap (Int.ofNat 2 * (↑x_1.fst : Int)) + Int.ofNat 1)).toNat < (IntKind.i64.wrap ((↑n : Int) - Int.ofNat 1)).toNat)
    (V.br (decide (x_1.snd (0 + (IntKind.i64.wrap (IntKind.i64.wrap (Int.ofNat 2 * (↑x_1.fst : Int)) + Int.ofNat 1)).toNat) ≥ g (0 + (IntKind.i64.wrap ((↑n : Int) - Int.ofNat 1)).toNat)))
    (V.need (Int.ofNat 0 ≤ (↑x_1.fst : Int) ∧ (↑x_1.fst : Int) < (↑(IntKind.i64.wrap ((↑n : Int) - Int.ofNat 1)).toNat : Int))
    (V.need (0 + (↑x_1.fst : Int).toNat < (IntKind.i64.wrap ((↑n : Int) - Int.ofNat 1)).toNat)
    (V.need (0 + (↑x_1.fst : Int).toNat < (IntKind.i64.wrap ((↑n : Int) - Int.ofNat 1)).toNat)
    (V.need (decide ((↑n : Int) = Int.ofNat 0) = false)
    (V.need (decide ((↑n : Int) = Int.ofNat 1) = false)
    (V.need (n - 1 ≤ x)
    (nN [(1, .pf (g 0 = g 0) rfl)]
    (V.need ((IntKind.i64.wrap ((↑n : Int) - Int.ofNat 1)).toNat = n - 1)
    (nN [(2, .pf (x = x) rfl)]
    (V.need (n - 1 ≤ (IntKind.i64.wrap ((↑n : Int) - Int.ofNat 1)).toNat)
    (V.need (∀ (e : Nat), e < n - 1 → (if 0 = 0 ∧ e = 0 + (↑x_1.fst : Int).toNat then g (0 + (IntKind.i64.wrap ((↑n : Int) - Int.ofNat 1)).toNat) else x_1.snd e) = dnM (n - 1) (g (n - 1)) (n - 1) 0 g e) V.ok)))))))))))
    (V.need (Int.ofNat 0 ≤ IntKind.i64.wrap (IntKind.i64.wrap (Int.ofNat 2 * (↑x_1.fst : Int)) + Int.ofNat 1) ∧ IntKind.i64.wrap (IntKind.i64.wrap (Int.ofNat 2 * (↑x_1.fst : Int)) + Int.ofNat 1) < (↑(IntKind.i64.wrap ((↑n : Int) - Int.ofNat 1)).toNat : Int))
    (V.need (0 + (IntKind.i64.wrap (IntKind.i64.wrap (Int.ofNat 2 * (↑x_1.fst : Int)) + Int.ofNat 1)).toNat < (IntKind.i64.wrap ((↑n : Int) - Int.ofNat 1)).toNat)
    (V.need (0 + (IntKind.i64.wrap (IntKind.i64.wrap (Int.ofNat 2 * (↑x_1.fst : Int)) + Int.ofNat 1)).toNat < (IntKind.i64.wrap ((↑n : Int) - Int.ofNat 1)).toNat)
    (V.need (Int.ofNat 0 ≤ (↑x_1.fst : Int) ∧ (↑x_1.fst : Int) < (↑(IntKind.i64.wrap ((↑n : Int) - Int.ofNat 1)).toNat : Int))
    (V.need (0 + (↑x_1.fst : Int).toNat < (IntKind.i64.wrap ((↑n : Int) - Int.ofNat 1)).toNat)
    (V.need (0 + (↑x_1.fst : Int).toNat < (IntKind.i64.wrap ((↑n : Int) - Int.ofNat 1)).toNat)
    (V.need ((IntKind.i64.wrap (IntKind.i64.wrap (Int.ofNat 2 * (↑x_1.fst : Int)) + Int.ofNat 1)).toNat < n - 1 ∧ ∀ (j : Nat), j < n - 1 → dnM (n - 1) (g (n - 1)) (n - 1 - (IntKind.i64.wrap (IntKind.i64.wrap (Int.ofNat 2 * (↑x_1.fst : Int)) + Int.ofNat 1)).toNat) (IntKind.i64.wrap (IntKind.i64.wrap (Int.ofNat 2 * (↑x_1.fst : Int)) + Int.ofNat 1)).toNat (fun (e : Nat) => if 0 = 0 ∧ e = 0 + (↑x_1.fst : Int).toNat then x_1.snd (0 + (IntKind.i64.wrap (IntKind.i64.wrap (Int.ofNat 2 * (↑x_1.fst : Int)) + Int.ofNat 1)).toNat) else x_1.snd e) j = dnM (n - 1) (g (n - 1)) (n - 1) 0 g j)
    (V.need (n - 1 - (IntKind.i64.wrap (IntKind.i64.wrap (Int.ofNat 2 * (↑x_1.fst : Int)) + Int.ofNat 1)).toNat < n - 1 - x_1.fst)
    (V.need (IntKind.i64.wrap (IntKind.i64.wrap (Int.ofNat 2 * (↑x_1.fst : Int)) + Int.ofNat 1) = (↑(IntKind.i64.wrap (IntKind.i64.wrap (Int.ofNat 2 * (↑x_1.fst : Int)) + Int.ofNat 1)).toNat : Int))
    (nN [(1, .pf (x = x) rfl)]
    (V.need ((IntKind.i64.wrap ((↑n : Int) - Int.ofNat 1)).toNat ≤ (IntKind.i64.wrap ((↑n : Int) - Int.ofNat 1)).toNat)
    (V.need (∀ (e : Nat), e < (IntKind.i64.wrap ((↑n : Int) - Int.ofNat 1)).toNat → (if 0 = 0 ∧ e = 0 + (↑x_1.fst : Int).toNat then x_1.snd (0 + (IntKind.i64.wrap (IntKind.i64.wrap (Int.ofNat 2 * (↑x_1.fst : Int)) + Int.ofNat 1)).toNat) else x_1.snd e) = if 0 = 0 ∧ e = 0 + (↑x_1.fst : Int).toNat then x_1.snd (0 + (IntKind.i64.wrap (IntKind.i64.wrap (Int.ofNat 2 * (↑x_1.fst : Int)) + Int.ofNat 1)).toNat) else x_1.snd e) V.ok))))))))))))))))))))))))
    (V.br (decide (IntKind.i64.wrap (IntKind.i64.wrap (Int.ofNat 2 * (↑x_1.fst : Int)) + Int.ofNat 1) < Int.ofNat 0))
    (V.need (Int.ofNat 0 ≤ (↑x_1.fst : Int) ∧ (↑x_1.fst : Int) < (↑(IntKind.i64.wrap ((↑n : Int) - Int.ofNat 1)).toNat : Int))
    (V.need (0 + (↑x_1.fst : Int).toNat < (IntKind.i64.wrap ((↑n : Int) - Int.ofNat 1)).toNat)
    (V.need (0 + (↑x_1.fst : Int).toNat < (IntKind.i64.wrap ((↑n : Int) - Int.ofNat 1)).toNat)
    (V.need (decide ((↑n : Int) = Int.ofNat 0) = false)
    (V.need (decide ((↑n : Int) = Int.ofNat 1) = false)
    (V.need (n - 1 ≤ x)
    (nN [(1, .pf (g 0 = g 0) rfl)]
    (V.need ((IntKind.i64.wrap ((↑n : Int) - Int.ofNat 1)).toNat = n - 1)
    (nN [(2, .pf (x = x) rfl)]
    (V.need (n - 1 ≤ (IntKind.i64.wrap ((↑n : Int) - Int.ofNat 1)).toNat)
    (V.need (∀ (e : Nat), e < n - 1 → (if 0 = 0 ∧ e = 0 + (↑x_1.fst : Int).toNat then g (0 + (IntKind.i64.wrap ((↑n : Int) - Int.ofNat 1)).toNat) else x_1.snd e) = dnM (n - 1) (g (n - 1)) (n - 1) 0 g e) V.ok)))))))))))
    (V.need (Int.ofNat 0 ≤ IntKind.i64.wrap (IntKind.i64.wrap (Int.ofNat 2 * (↑x_1.fst : Int)) + Int.ofNat 1) ∧ IntKind.i64.wrap (IntKind.i64.wrap (Int.ofNat 2 * (↑x_1.fst : Int)) + Int.ofNat 1) < (↑(IntKind.i64.wrap ((↑n : Int) - Int.ofNat 1)).toNat : Int))
    (V.need (0 + (IntKind.i64.wrap (IntKind.i64.wrap (Int.ofNat 2 * (↑x_1.fst : Int)) + Int.ofNat 1)).toNat < (IntKind.i64.wrap ((↑n : Int) - Int.ofNat 1)).toNat)
    (V.need (0 + (IntKind.i64.wrap (IntKind.i64.wrap (Int.ofNat 2 * (↑x_1.fst : Int)) + Int.ofNat 1)).toNat < (IntKind.i64.wrap ((↑n : Int) - Int.ofNat 1)).toNat)
    (V.br (decide (x_1.snd (0 + (IntKind.i64.wrap (IntKind.i64.wrap (Int.ofNat 2 * (↑x_1.fst : Int)) + Int.ofNat 1)).toNat) ≥ g (0 + (IntKind.i64.wrap ((↑n : Int) - Int.ofNat 1)).toNat)))
    (V.need (Int.ofNat 0 ≤ (↑x_1.fst : Int) ∧ (↑x_1.fst : Int) < (↑(IntKind.i64.wrap ((↑n : Int) - Int.ofNat 1)).toNat : Int))
    (V.need (0 + (↑x_1.fst : Int).toNat < (IntKind.i64.wrap ((↑n : Int) - Int.ofNat 1)).toNat)
    (V.need (0 + (↑x_1.fst : Int).toNat < (IntKind.i64.wrap ((↑n : Int) - Int.ofNat 1)).toNat)
    (V.need (decide ((↑n : Int) = Int.ofNat 0) = false)
    (V.need (decide ((↑n : Int) = Int.ofNat 1) = false)
    (V.need (n - 1 ≤ x)
    (nN [(1, .pf (g 0 = g 0) rfl)]
    (V.need ((IntKind.i64.wrap ((↑n : Int) - Int.ofNat 1)).toNat = n - 1)
    (nN [(2, .pf (x = x) rfl)]
    (V.need (n - 1 ≤ (IntKind.i64.wrap ((↑n : Int) - Int.ofNat 1)).toNat)
    (V.need (∀ (e : Nat), e < n - 1 → (if 0 = 0 ∧ e = 0 + (↑x_1.fst : Int).toNat then g (0 + (IntKind.i64.wrap ((↑n : Int) - Int.ofNat 1)).toNat) else x_1.snd e) = dnM (n - 1) (g (n - 1)) (n - 1) 0 g e) V.ok)))))))))))
    (V.need (Int.ofNat 0 ≤ IntKind.i64.wrap (IntKind.i64.wrap (Int.ofNat 2 * (↑x_1.fst : Int)) + Int.ofNat 1) ∧ IntKind.i64.wrap (IntKind.i64.wrap (Int.ofNat 2 * (↑x_1.fst : Int)) + Int.ofNat 1) < (↑(IntKind.i64.wrap ((↑n : Int) - Int.ofNat 1)).toNat : Int))
    (V.need (0 + (IntKind.i64.wrap (IntKind.i64.wrap (Int.ofNat 2 * (↑x_1.fst : Int)) + Int.ofNat 1)).toNat < (IntKind.i64.wrap ((↑n : Int) - Int.ofNat 1)).toNat)
    (V.need (0 + (IntKind.i64.wrap (IntKind.i64.wrap (Int.ofNat 2 * (↑x_1.fst : Int)) + Int.ofNat 1)).toNat < (IntKind.i64.wrap ((↑n : Int) - Int.ofNat 1)).toNat)
    (V.need (Int.ofNat 0 ≤ (↑x_1.fst : Int) ∧ (↑x_1.fst : Int) < (↑(IntKind.i64.wrap ((↑n : Int) - Int.ofNat 1)).toNat : Int))
    (V.need (0 + (↑x_1.fst : Int).toNat < (IntKind.i64.wrap ((↑n : Int) - Int.ofNat 1)).toNat)
    (V.need (0 + (↑x_1.fst : Int).toNat < (IntKind.i64.wrap ((↑n : Int) - Int.ofNat 1)).toNat)
    (V.need ((IntKind.i64.wrap (IntKind.i64.wrap (Int.ofNat 2 * (↑x_1.fst : Int)) + Int.ofNat 1)).toNat < n - 1 ∧ ∀ (j : Nat), j < n - 1 → dnM (n - 1) (g (n - 1)) (n - 1 - (IntKind.i64.wrap (IntKind.i64.wrap (Int.ofNat 2 * (↑x_1.fst : Int)) + Int.ofNat 1)).toNat) (IntKind.i64.wrap (IntKind.i64.wrap (Int.ofNat 2 * (↑x_1.fst : Int)) + Int.ofNat 1)).toNat (fun (e : Nat) => if 0 = 0 ∧ e = 0 + (↑x_1.fst : Int).toNat then x_1.snd (0 + (IntKind.i64.wrap (IntKind.i64.wrap (Int.ofNat 2 * (↑x_1.fst : Int)) + Int.ofNat 1)).toNat) else x_1.snd e) j = dnM (n - 1) (g (n - 1)) (n - 1) 0 g j)
    (V.need (n - 1 - (IntKind.i64.wrap (IntKind.i64.wrap (Int.ofNat 2 * (↑x_1.fst : Int)) + Int.ofNat 1)).toNat < n - 1 - x_1.fst)
    (V.need (IntKind.i64.wrap (IntKind.i64.wrap (Int.ofNat 2 * (↑x_1.fst : Int)) + Int.ofNat 1) = (↑(IntKind.i64.wrap (IntKind.i64.wrap (Int.ofNat 2 * (↑x_1.fst : Int)) + Int.ofNat 1)).toNat : Int))
    (nN [(1, .pf (x = x) rfl)]
    (V.need ((IntKind.i64.wrap ((↑n : Int) - Int.ofNat 1)).toNat ≤ (IntKind.i64.wrap ((↑n : Int) - Int.ofNat 1)).toNat)
    (V.need (∀ (e : Nat), e < (IntKind.i64.wrap ((↑n : Int) - Int.ofNat 1)).toNat → (if 0 = 0 ∧ e = 0 + (↑x_1.fst : Int).toNat then x_1.snd (0 + (IntKind.i64.wrap (IntKind.i64.wrap (Int.ofNat 2 * (↑x_1.fst : Int)) + Int.ofNat 1)).toNat) else x_1.snd e) = if 0 = 0 ∧ e = 0 + (↑x_1.fst : Int).toNat then x_1.snd (0 + (IntKind.i64.wrap (IntKind.i64.wrap (Int.ofNat 2 * (↑x_1.fst : Int)) + Int.ofNat 1)).toNat) else x_1.snd e) V.ok))))))))))))))))))))))))))))))))))))) := by kernel_rfl


end Go.Proofs.Ytomaagmleafjeaa.Md

/- Heaps as lists (edf.Push, edf.Pop), by the copy: the conditions hold; the contracts. -/
set_option linter.unusedVariables false
set_option linter.unusedSimpArgs false
set_option maxRecDepth 100000
namespace Go.Proofs.Ytomaagmleafjeaa.Md
open Go Go.RowKit Sx Cn Dc Ck Vc
theorem put_if {a : Nat → Int} {i : Nat} {v : Int} : (fun e => if True ∧ e = i then v else a e) = put a i v := funext fun e => by
  unfold put
  by_cases c : e = i
  · rw [if_pos ⟨trivial, c⟩, if_pos c]
  · rw [if_neg (fun h => c h.2), if_neg c]
theorem put_if2 {a : Nat → Int} {i e : Nat} {v : Int} : (if True ∧ e = i then v else a e) = put a i v e := congrFun put_if e
set_option maxHeartbeats 4000000 in
theorem vhEP {n cap : Nat} {g : Nat → Int} {k : Int} (hn : n ≤ 1000) : VHolds (vEP n cap g k) := by
  have e0 : IntKind.i64.wrap (((n + 1 : Nat) : Int) - Int.ofNat 1) = (n : Int) := by rw [show ((n + 1 : Nat) : Int) - Int.ofNat 1 = (n : Int) by simp only [Int.ofNat_eq_natCast]; omega, w64 (by omega)]
  constructor
  rw [vEP_eq]
  simp only [e0, Int.toNat_natCast, Nat.zero_add]
  (repeat' first | with_reducible exact V.okI | with_reducible refine V.anyCfg ?_ | with_reducible refine V.anyMm ?_ | with_reducible refine V.anyInt ?_ | with_reducible refine V.anyNat ?_ | with_reducible refine V.anyCl' ?_ | with_reducible refine nN_h rfl ?_ | with_reducible refine V.needI ?_ ?_ | with_reducible intro _)
  all_goals first
    | omega
    | exact ⟨_, Nat.le_refl _⟩
    | trivial
    | exact ⟨Nat.le_refl _, trivial⟩
    | (refine ⟨Nat.le_refl _, fun j hj => up_congr (N := n + 1) (by omega) (fun q hq hne => ?_) j (by omega)⟩
       exact if_neg fun h => hne h.2)
    | skip
  rename_i cp hcp
  refine V.anyI fun x hx => ?_
  obtain ⟨i, a⟩ := x
  obtain ⟨hi, hx⟩ := hx
  dsimp only at hi hx ⊢
  cases i with
  | zero =>
    refine V.brI (fun h => (dgt (by show ¬ (0 : Int) > 0; decide) h).elim) fun _ => ?_
    (repeat' first | with_reducible exact V.okI | with_reducible refine V.brT ?_ | with_reducible refine V.brF ?_ | with_reducible refine V.brI ?_ ?_ | with_reducible refine V.anyI ?_ | with_reducible refine nN_h rfl ?_ | with_reducible refine V.needI ?_ ?_ | with_reducible intro _)
    all_goals first
      | omega
      | (simp only [Int.ofNat_eq_natCast, Int.natCast_zero]; omega)
      | (rename_i e he
         rw [← hx e (by omega), upM, put_if2])
      | skip
  | succ p =>
    have ep : IntKind.i64.wrap ((IntKind.i64.wrap (((p + 1 : Nat) : Int) - Int.ofNat 1)).tdiv (Int.ofNat 2)) = ((p / 2 : Nat) : Int) := par_eq (by omega)
    simp only [ep, Int.toNat_natCast]
    refine V.brI (fun _ => ?_) fun h => absurd (of_decide_eq_false h) (by simp only [Int.ofNat_eq_natCast]; omega)
    (repeat' first | with_reducible exact V.okI | with_reducible refine V.anyCfg ?_ | with_reducible refine V.anyMm ?_ | with_reducible refine V.anyInt ?_ | with_reducible refine V.anyNat ?_ | with_reducible refine V.anyCl' ?_ | with_reducible refine nN_h rfl ?_ | with_reducible refine V.needI ?_ ?_ | with_reducible intro _)
    all_goals try first | omega | (simp only [Int.ofNat_eq_natCast, Int.natCast_zero]; omega)
    refine V.brI (fun hk => ?_) fun hk => ?_
    · have hk : k < a (p / 2) := of_decide_eq_true hk
      (repeat' first | with_reducible exact V.okI | with_reducible refine V.brT ?_ | with_reducible refine V.brF ?_ | with_reducible refine V.brI ?_ ?_ | with_reducible refine V.anyI ?_ | with_reducible refine nN_h rfl ?_ | with_reducible refine V.needI ?_ ?_ | with_reducible intro _)
      all_goals first
        | omega
        | (simp only [Int.ofNat_eq_natCast, Int.natCast_zero]; omega)
        | trivial
        | (refine ⟨by omega, fun j hj => ?_⟩
           rw [put_if, ← hx j hj, upM, if_pos hk])
        | skip
    · have hk : ¬ k < a (p / 2) := of_decide_eq_false hk
      (repeat' first | with_reducible exact V.okI | with_reducible refine V.brT ?_ | with_reducible refine V.brF ?_ | with_reducible refine V.brI ?_ ?_ | with_reducible refine V.anyI ?_ | with_reducible refine nN_h rfl ?_ | with_reducible refine V.needI ?_ ?_ | with_reducible intro _)
      all_goals first
        | omega
        | (simp only [Int.ofNat_eq_natCast, Int.natCast_zero]; omega)
        | (rename_i e he
           rw [← hx e (by omega), upM, if_neg hk, put_if2])
        | skip
section
variable {m i : Nat} {y : Int} {a : Nat → Int}
theorem endD (hi : i < m) (hc : ¬ (2 * i + 1 < m ∧ a (lsr m a i) < y)) : dnM m y (m - i) i a = put a i y := by
  obtain ⟨f, hf⟩ : ∃ f, m - i = f + 1 := ⟨m - i - 1, by omega⟩
  rw [hf, dnM, if_neg hc]
theorem goD (hi : i < m) (hc : 2 * i + 1 < m ∧ a (lsr m a i) < y) : dnM m y (m - i) i a = dnM m y (m - lsr m a i) (lsr m a i) (put a i (a (lsr m a i))) := by
  obtain ⟨f, hf⟩ : ∃ f, m - i = f + 1 := ⟨m - i - 1, by omega⟩
  obtain ⟨b1, b2, b3⟩ := lsr_bd (g := a) hc.1
  rw [hf, dnM, if_pos hc]
  exact dn_fuel b2 (by omega) (by omega)
theorem lsr_2 (h : 2 * i + 2 < m) (h2 : a (2 * i + 2) < a (2 * i + 1)) : lsr m a i = 2 * i + 2 := if_pos ⟨h, h2⟩
theorem lsr_1 (h : ¬ (2 * i + 2 < m ∧ a (2 * i + 2) < a (2 * i + 1))) : lsr m a i = 2 * i + 1 := if_neg h
end
set_option maxHeartbeats 4000000 in
theorem vhEO {n cap : Nat} {g : Nat → Int} (hn : n ≤ 1000 ∧ n ≤ cap) : VHolds (vEO n cap g) := by
  constructor
  rw [vEO_eq]
  cases n with
  | zero =>
    refine V.brI (fun _ => ?_) fun h => absurd h (by decide)
    (repeat' first | with_reducible exact V.okI | with_reducible refine V.brT ?_ | with_reducible refine V.brF ?_ | with_reducible refine V.brI ?_ ?_ | with_reducible refine V.anyI ?_ | with_reducible refine nN_h rfl ?_ | with_reducible refine V.needI ?_ ?_ | with_reducible intro _)
    all_goals first | trivial | decide
  | succ m =>
    have e0 : IntKind.i64.wrap (((m + 1 : Nat) : Int) - Int.ofNat 1) = (m : Int) := by rw [show ((m + 1 : Nat) : Int) - Int.ofNat 1 = (m : Int) by simp only [Int.ofNat_eq_natCast]; omega, w64 (by omega)]
    simp only [e0, Int.toNat_natCast, Nat.zero_add, Nat.add_sub_cancel]
    have z0 : decide (((m + 1 : Nat) : Int) = Int.ofNat 0) = false := decide_eq_false (by simp only [Int.ofNat_eq_natCast]; omega)
    refine V.brI (fun h => absurd (eq_of_beq h) (by simp only [Int.ofNat_eq_natCast]; omega)) fun _ => ?_
    (repeat' first | with_reducible exact V.okI | with_reducible refine V.anyCfg ?_ | with_reducible refine V.anyMm ?_ | with_reducible refine V.anyInt ?_ | with_reducible refine V.anyNat ?_ | with_reducible refine V.anyCl' ?_ | with_reducible refine nN_h rfl ?_ | with_reducible refine V.needI ?_ ?_ | with_reducible intro _)
    all_goals first
      | omega
      | exact z0
      | trivial
      | (simp only [Int.ofNat_eq_natCast, Int.natCast_zero]; omega)
      | exact fun i _ => by omega
      | exact ⟨_, Nat.le_refl _⟩
      | exact ⟨by omega, fun j hj => rfl⟩
      | skip
    rename_i cp hcp
    refine V.brI (fun h => ?_) fun h => ?_
    · have h : (m : Int) = 0 := eq_of_beq h
      obtain rfl : m = 0 := by omega
      (repeat' first | with_reducible exact V.okI | with_reducible refine V.brT ?_ | with_reducible refine V.brF ?_ | with_reducible refine V.brI ?_ ?_ | with_reducible refine V.anyI ?_ | with_reducible refine nN_h rfl ?_ | with_reducible refine V.needI ?_ ?_ | with_reducible intro _)
      all_goals first | exact z0 | trivial | rfl | decide
    have hm : m ≠ 0 := fun e => by rw [e] at h; exact absurd h (by decide)
    have z1 : decide (((m + 1 : Nat) : Int) = Int.ofNat 1) = false := decide_eq_false (by simp only [Int.ofNat_eq_natCast]; omega)
    (repeat' first | with_reducible exact V.okI | with_reducible refine V.anyCfg ?_ | with_reducible refine V.anyMm ?_ | with_reducible refine V.anyInt ?_ | with_reducible refine V.anyNat ?_ | with_reducible refine V.anyCl' ?_ | with_reducible refine nN_h rfl ?_ | with_reducible refine V.needI ?_ ?_ | with_reducible intro _)
    all_goals first
      | omega
      | exact z0
      | exact z1
      | trivial
      | (simp only [Int.ofNat_eq_natCast, Int.natCast_zero]; omega)
      | exact fun i _ => by omega
      | exact ⟨_, Nat.le_refl _⟩
      | exact ⟨by omega, fun j hj => rfl⟩
      | skip
    refine V.anyI fun x hx => ?_
    obtain ⟨i, a⟩ := x
    obtain ⟨hi, hx⟩ := hx
    simp only [Nat.add_sub_cancel] at hi hx
    have w1 : IntKind.i64.wrap (IntKind.i64.wrap (Int.ofNat 2 * (i : Int)) + Int.ofNat 1) = ((2 * i + 1 : Nat) : Int) := kid_e (by omega)
    have w2 : IntKind.i64.wrap (((2 * i + 1 : Nat) : Int) + Int.ofNat 1) = ((2 * i + 2 : Nat) : Int) := wnat (by omega)
    dsimp only
    simp only [w1, w2, Int.toNat_natCast]
    refine V.brI (fun h => ?_) fun h => ?_
    · have c1 : ¬ 2 * i + 1 < m := by have := of_decide_eq_true h; omega
      have hc : ¬ (2 * i + 1 < m ∧ a (lsr m a i) < g m) := fun q => c1 q.1
      (repeat' first | with_reducible exact V.okI | with_reducible refine V.brT ?_ | with_reducible refine V.brF ?_ | with_reducible refine V.brI ?_ ?_ | with_reducible refine V.anyI ?_ | with_reducible refine nN_h rfl ?_ | with_reducible refine V.needI ?_ ?_ | with_reducible intro _)
      all_goals first
        | omega
        | exact z0
        | exact z1
        | trivial
        | (simp only [Int.ofNat_eq_natCast, Int.natCast_zero]; omega)
        | (rename_i e he
           rw [← hx e he, endD hi hc, put_if2])
        | skip
    have c1 : 2 * i + 1 < m := by have := of_decide_eq_false h; omega
    refine V.brI (fun h => ?_) fun h => ?_
    · have c2 : 2 * i + 2 < m := by have := of_decide_eq_true h; omega
      (repeat' first | with_reducible exact V.okI | with_reducible refine V.anyCfg ?_ | with_reducible refine V.anyMm ?_ | with_reducible refine V.anyInt ?_ | with_reducible refine V.anyNat ?_ | with_reducible refine V.anyCl' ?_ | with_reducible refine nN_h rfl ?_ | with_reducible refine V.needI ?_ ?_ | with_reducible intro _)
      all_goals try first | omega | (simp only [Int.ofNat_eq_natCast, Int.natCast_zero]; omega)
      refine V.brI (fun h => ?_) fun h => ?_
      · have c3 : a (2 * i + 2) < a (2 * i + 1) := of_decide_eq_true h
        have hl : lsr m a i = 2 * i + 2 := lsr_2 c2 c3
        refine V.brI (fun h => (dlt (by simp only [Int.ofNat_eq_natCast]; omega) h).elim) fun _ => ?_
        (repeat' first | with_reducible exact V.okI | with_reducible refine V.anyCfg ?_ | with_reducible refine V.anyMm ?_ | with_reducible refine V.anyInt ?_ | with_reducible refine V.anyNat ?_ | with_reducible refine V.anyCl' ?_ | with_reducible refine nN_h rfl ?_ | with_reducible refine V.needI ?_ ?_ | with_reducible intro _)
        all_goals try first | omega | (simp only [Int.ofNat_eq_natCast, Int.natCast_zero]; omega)
        refine V.brI (fun h => ?_) fun h => ?_
        · have h : ¬ a (2 * i + 2) < g m := by have := of_decide_eq_true h; omega
          have hc : ¬ (2 * i + 1 < m ∧ a (lsr m a i) < g m) := by rw [hl]; exact fun q => h q.2
          (repeat' first | with_reducible exact V.okI | with_reducible refine V.brT ?_ | with_reducible refine V.brF ?_ | with_reducible refine V.brI ?_ ?_ | with_reducible refine V.anyI ?_ | with_reducible refine nN_h rfl ?_ | with_reducible refine V.needI ?_ ?_ | with_reducible intro _)
          all_goals first
            | omega
            | exact z0
            | exact z1
            | trivial
            | (simp only [Int.ofNat_eq_natCast, Int.natCast_zero]; omega)
            | (rename_i e he
               rw [← hx e he, endD hi hc, put_if2])
            | skip
        · have h : a (2 * i + 2) < g m := by have := of_decide_eq_false h; omega
          have hc : 2 * i + 1 < m ∧ a (lsr m a i) < g m := by rw [hl]; exact ⟨c1, h⟩
          (repeat' first | with_reducible exact V.okI | with_reducible refine V.brT ?_ | with_reducible refine V.brF ?_ | with_reducible refine V.brI ?_ ?_ | with_reducible refine V.anyI ?_ | with_reducible refine nN_h rfl ?_ | with_reducible refine V.needI ?_ ?_ | with_reducible intro _)
          all_goals first
            | omega
            | exact z0
            | exact z1
            | trivial
            | (simp only [Int.ofNat_eq_natCast, Int.natCast_zero]; omega)
            | (refine ⟨by omega, fun j hj => ?_⟩
               rw [put_if, ← hx j hj, goD hi hc, hl])
            | skip
      · have c3 : ¬ a (2 * i + 2) < a (2 * i + 1) := of_decide_eq_false h
        have hl : lsr m a i = 2 * i + 1 := lsr_1 fun q => c3 q.2
        refine V.brI (fun h => (dlt (by simp only [Int.ofNat_eq_natCast]; omega) h).elim) fun _ => ?_
        (repeat' first | with_reducible exact V.okI | with_reducible refine V.anyCfg ?_ | with_reducible refine V.anyMm ?_ | with_reducible refine V.anyInt ?_ | with_reducible refine V.anyNat ?_ | with_reducible refine V.anyCl' ?_ | with_reducible refine nN_h rfl ?_ | with_reducible refine V.needI ?_ ?_ | with_reducible intro _)
        all_goals try first | omega | (simp only [Int.ofNat_eq_natCast, Int.natCast_zero]; omega)
        refine V.brI (fun h => ?_) fun h => ?_
        · have h : ¬ a (2 * i + 1) < g m := by have := of_decide_eq_true h; omega
          have hc : ¬ (2 * i + 1 < m ∧ a (lsr m a i) < g m) := by rw [hl]; exact fun q => h q.2
          (repeat' first | with_reducible exact V.okI | with_reducible refine V.brT ?_ | with_reducible refine V.brF ?_ | with_reducible refine V.brI ?_ ?_ | with_reducible refine V.anyI ?_ | with_reducible refine nN_h rfl ?_ | with_reducible refine V.needI ?_ ?_ | with_reducible intro _)
          all_goals first
            | omega
            | exact z0
            | exact z1
            | trivial
            | (simp only [Int.ofNat_eq_natCast, Int.natCast_zero]; omega)
            | (rename_i e he
               rw [← hx e he, endD hi hc, put_if2])
            | skip
        · have h : a (2 * i + 1) < g m := by have := of_decide_eq_false h; omega
          have hc : 2 * i + 1 < m ∧ a (lsr m a i) < g m := by rw [hl]; exact ⟨c1, h⟩
          (repeat' first | with_reducible exact V.okI | with_reducible refine V.brT ?_ | with_reducible refine V.brF ?_ | with_reducible refine V.brI ?_ ?_ | with_reducible refine V.anyI ?_ | with_reducible refine nN_h rfl ?_ | with_reducible refine V.needI ?_ ?_ | with_reducible intro _)
          all_goals first
            | omega
            | exact z0
            | exact z1
            | trivial
            | (simp only [Int.ofNat_eq_natCast, Int.natCast_zero]; omega)
            | (refine ⟨by omega, fun j hj => ?_⟩
               rw [put_if, ← hx j hj, goD hi hc, hl])
            | skip
    · have c2 : ¬ 2 * i + 2 < m := by have := of_decide_eq_false h; omega
      have hl : lsr m a i = 2 * i + 1 := lsr_1 fun q => c2 q.1
      refine V.brI (fun h => (dlt (by simp only [Int.ofNat_eq_natCast]; omega) h).elim) fun _ => ?_
      (repeat' first | with_reducible exact V.okI | with_reducible refine V.anyCfg ?_ | with_reducible refine V.anyMm ?_ | with_reducible refine V.anyInt ?_ | with_reducible refine V.anyNat ?_ | with_reducible refine V.anyCl' ?_ | with_reducible refine nN_h rfl ?_ | with_reducible refine V.needI ?_ ?_ | with_reducible intro _)
      all_goals try first | omega | (simp only [Int.ofNat_eq_natCast, Int.natCast_zero]; omega)
      refine V.brI (fun h => ?_) fun h => ?_
      · have h : ¬ a (2 * i + 1) < g m := by have := of_decide_eq_true h; omega
        have hc : ¬ (2 * i + 1 < m ∧ a (lsr m a i) < g m) := by rw [hl]; exact fun q => h q.2
        (repeat' first | with_reducible exact V.okI | with_reducible refine V.brT ?_ | with_reducible refine V.brF ?_ | with_reducible refine V.brI ?_ ?_ | with_reducible refine V.anyI ?_ | with_reducible refine nN_h rfl ?_ | with_reducible refine V.needI ?_ ?_ | with_reducible intro _)
        all_goals first
          | omega
          | exact z0
          | exact z1
          | trivial
          | (simp only [Int.ofNat_eq_natCast, Int.natCast_zero]; omega)
          | (rename_i e he
             rw [← hx e he, endD hi hc, put_if2])
          | skip
      · have h : a (2 * i + 1) < g m := by have := of_decide_eq_false h; omega
        have hc : 2 * i + 1 < m ∧ a (lsr m a i) < g m := by rw [hl]; exact ⟨c1, h⟩
        (repeat' first | with_reducible exact V.okI | with_reducible refine V.brT ?_ | with_reducible refine V.brF ?_ | with_reducible refine V.brI ?_ ?_ | with_reducible refine V.anyI ?_ | with_reducible refine nN_h rfl ?_ | with_reducible refine V.needI ?_ ?_ | with_reducible intro _)
        all_goals first
          | omega
          | exact z0
          | exact z1
          | trivial
          | (simp only [Int.ofNat_eq_natCast, Int.natCast_zero]; omega)
          | (refine ⟨by omega, fun j hj => ?_⟩
             rw [put_if, ← hx j hj, goD hi hc, hl])
          | skip
noncomputable section
def cEP : List SV → Hp → Out (SV × Hp) := fun args H => match args with
  | [.c (.slc k _ _ _ n cap), .c x] => match numC x with
    | some v => fN k fun k => match (find k H.h).map colsB with
      | some [col] => match colG col with
        | some g => useP [k] 1 [.c (slK 0 1 n.v cap.v), .c (uw v)] (hEd n.v fun e => g e) (.need (n.v ≤ 1000) (.any Nat (fun c => n.v + 1 ≤ c) fun c => .leaf (.c (slK 1 1 (n.v + 1) c), ⟨[(1, .row 58 c (n.v + 1) [.ci .u64 fun _ e => upM n.v v (fun e => g e) e])], 2, fun _ => True⟩))) args H
        | none => .bad 432
      | _ => .bad 433
    | none => .bad 434
  | _ => .bad 435
theorem cEP_ok : ContractOK P fEP cEP := contract_of_useP fun args H => by
  unfold cEP
  simp only [fN_eq]
  repeat' split
  all_goals first | exact .inl ⟨_, rfl⟩ | exact .inr ⟨_, _, _, _, _, rfl, local_of_ver conEd_ok fun h => vhEP h⟩
def cEO : List SV → Hp → Out (SV × Hp) := fun args H => match args with
  | [.c (.slc k _ _ _ n cap)] => fN k fun k => match (find k H.h).map colsB with
    | some [col] => match colG col with
      | some g => useP [k] 1 [.c (slK 0 1 n.v cap.v)] (hEd n.v fun e => g e) (.need (n.v ≤ 1000 ∧ n.v ≤ cap.v) (psEO n.v fun e => g e).out) args H
      | none => .bad 432
    | _ => .bad 433
  | _ => .bad 435
theorem cEO_ok : ContractOK P fEO cEO := contract_of_useP fun args H => by
  unfold cEO
  simp only [fN_eq]
  repeat' split
  all_goals first | exact .inl ⟨_, rfl⟩ | exact .inr ⟨_, _, _, _, _, rfl, local_of_ps conEd_ok fun h => vhEO h⟩
end
end Go.Proofs.Ytomaagmleafjeaa.Md
