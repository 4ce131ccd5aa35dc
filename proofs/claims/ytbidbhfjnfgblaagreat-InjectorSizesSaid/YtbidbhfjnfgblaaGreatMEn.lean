/- The reference's New: the contract (as in MachineEnvs). -/
import Derived.Test.YtbidbhfjnfgblaaGreatML
import Derived.Test.YtbidbhfjnfgblaaGreatMMd
import Derived.Test.YtbidbhfjnfgblaaGreatMW
import Derived.Test.YtbidbhfjnfgblaaGreatMV
import Derived.Test.YtbidbhfjnfgblaaGreatMMd
import Derived.Test.YtbidbhfjnfgblaaGreatMMdNewB
set_option linter.unusedVariables false
set_option linter.unusedSimpArgs false
set_option maxRecDepth 100000
namespace Go.Proofs.YtbidbhfjnfgblaaGreat.Vc
open Go Go.RowKit Sx Cn Dc Ck
theorem wnc3 {c : Cf} (h : okY c) : max 0 (min (ncI c) 131072) = ncI c := by have := nc_bd h; omega
noncomputable section
def renvB (k0 k1 km kr : Nat) (c : Cf) (n cap rn rc : Nat) : Blk := .own 53 21 ((cfL k0 k1 c ++ [slK km 1 n cap, .iv .i64 0, .iv .i64 0, .iv .u64 0, .iv .u64 0, .iv .i64 0, .iv .i64 0, .iv .i64 0, slK kr 7 rn rc, .nils]).map some)
def r19 (s : St) : Nat := cellKey (tkey 3 s) 19 s.H.h
def fNewR (n : Int) (s : St) : Option (LA (Int × Nat)) := match find (tkey 3 s) s.H.h with
  | some (.own t size cs) => some ⟨[(tkey 3, true), (r19, false)], fun x => [.own t size (cs.set 19 (some (slK (r19 s) 7 x.1.toNat x.2))), freshB x.1.toNat x.2], [4], fun x => [iv x.1],
    fun s => match intT 4 s, capOf (r19 s) s.H.h with | some i, some c => some (i, c) | _, _ => none, fun x => 0 ≤ x.1 ∧ x.1 ≤ n ∧ x.1.toNat ≤ x.2, fun x => (n - x.1).toNat⟩
  | _ => none
def psNewR (c : Cf) : PS := .leaf Nat 6 (fun s H => capOf (keyF 19 (tupK s) H.h) H.h) (fun s H => [tupK s, keyF 11 (tupK s) H.h, keyF 19 (tupK s) H.h]) (fun x => c.T.toNat ≤ x) (fun _ => .c (.ptr 3 (.k 0) (.k 0) 0 21))
  (fun x => [(3, renvB 0 1 4 5 c (ncN c) (ncN c) c.T.toNat x), (4, zeroB (ncN c)), (5, freshB c.T.toNat x)])
def verNewR (c : Cf) : V := verF P con0 3 6 20 [] (.loop _ [.nilCell (tkey 3) 19 116 7 fun _ => freshC] (fNewR c.T) .nil .nil) [argC c] ⟨hC c, 3, fun _ => True⟩ ((psNewR c).fin 3)
end
theorem verNewR_eq (c : Cf) : verNewR c =
  V.need (0 < 1 ∧ 0 < 1)
    (V.need (0 < 1 ∧ 0 < 1)
    (V.need (0 < 1 ∧ 0 < 1)
    (V.need (0 < 1 ∧ 0 < 1)
    (V.need (0 < 1 ∧ 0 < 1)
    (V.need (0 < 1 ∧ 0 < 1)
    (V.need (0 < 1 ∧ 0 < 1)
    (V.need (0 < 1 ∧ 0 < 1)
    (V.need (0 < 1 ∧ 0 < 1)
    (V.need (0 < 1 ∧ 0 < 1)
    (V.need (0 < 1 ∧ 0 < 1)
    (V.need (0 < 1 ∧ 0 < 1)
    (V.need (0 < 1 ∧ 0 < 1)
    (V.need (0 < 1 ∧ 0 < 1)
    (V.need (0 < 1 ∧ 0 < 1)
    (V.need (0 < 1 ∧ 0 < 1)
    (V.need (0 < 1 ∧ 0 < 1)
    (V.need (0 < 1 ∧ 0 < 1)
    (V.need (0 < 1 ∧ 0 < 1)
    (V.need (0 < 1 ∧ 0 < 1)
    (V.need (0 < 1 ∧ 0 < 1)
    (V.need (0 < 1 ∧ 0 < 1)
    (V.need (0 < 1 ∧ 0 < 1)
    (V.need (0 < 1 ∧ 0 < 1)
    (V.need (0 < 1 ∧ 0 < 1)
    (V.need (0 < 1 ∧ 0 < 1)
    (V.need (0 < 1 ∧ 0 < 1)
    (V.need (0 < 1 ∧ 0 < 1)
    (V.need (0 < 1 ∧ 0 < 1)
    (V.need (0 < 1 ∧ 0 < 1)
    (V.need (0 < 1 ∧ 0 < 1)
    (V.need (0 < 1 ∧ 0 < 1)
    (V.need (0 < 1 ∧ 0 < 1)
    (V.need (0 < 1 ∧ 0 < 1)
    (V.need (0 < 1 ∧ 0 < 1)
    (V.need (0 < 1 ∧ 0 < 1)
    (V.need (0 < 1 ∧ 0 < 1)
    (V.need (0 < 1 ∧ 0 < 1)
    (V.need (0 < 1 ∧ 0 < 1)
    (V.need (0 < 1 ∧ 0 < 1)
    (V.need (0 < 1 ∧ 0 < 1)
    (V.need (Int.ofNat 0 ≤ max (Int.ofNat 0) (min (IntKind.i64.wrap (IntKind.i64.wrap (IntKind.i64.wrap (IntKind.i64.wrap (IntKind.i64.wrap (Int.ofNat 4 + c.H) + c.C) + IntKind.i64.wrap (Int.ofNat 2 * c.W)) + IntKind.i64.wrap (IntKind.i64.wrap (c.W * c.L) * IntKind.i64.wrap (Int.ofNat 2 + c.D))) + IntKind.i64.wrap (Int.ofNat 5 * c.T))) (Int.ofNat 131072)) ∧ max (Int.ofNat 0) (min (IntKind.i64.wrap (IntKind.i64.wrap (IntKind.i64.wrap (IntKind.i64.wrap (IntKind.i64.wrap (Int.ofNat 4 + c.H) + c.C) + IntKind.i64.wrap (Int.ofNat 2 * c.W)) + IntKind.i64.wrap (IntKind.i64.wrap (c.W * c.L) * IntKind.i64.wrap (Int.ofNat 2 + c.D))) + IntKind.i64.wrap (Int.ofNat 5 * c.T))) (Int.ofNat 131072)) ≤ max (Int.ofNat 0) (min (IntKind.i64.wrap (IntKind.i64.wrap (IntKind.i64.wrap (IntKind.i64.wrap (IntKind.i64.wrap (Int.ofNat 4 + c.H) + c.C) + IntKind.i64.wrap (Int.ofNat 2 * c.W)) + IntKind.i64.wrap (IntKind.i64.wrap (c.W * c.L) * IntKind.i64.wrap (Int.ofNat 2 + c.D))) + IntKind.i64.wrap (Int.ofNat 5 * c.T))) (Int.ofNat 131072)) ∧ (↑8 : Int) * max (Int.ofNat 0) (min (IntKind.i64.wrap (IntKind.i64.wrap (IntKind.i64.wrap (IntKind.i64.wrap (IntKind.i64.wrap (Int.ofNat 4 + c.H) + c.C) + IntKind.i64.wrap (Int.ofNat 2 * c.W)) + IntKind.i64.wrap (IntKind.i64.wrap (c.W * c.L) * IntKind.i64.wrap (Int.ofNat 2 + c.D))) + IntKind.i64.wrap (Int.ofNat 5 * c.T))) (Int.ofNat 131072)) ≤ Int.ofNat 281474976710656 ∧ max (Int.ofNat 0) (min (IntKind.i64.wrap (IntKind.i64.wrap (IntKind.i64.wrap (IntKind.i64.wrap (IntKind.i64.wrap (Int.ofNat 4 + c.H) + c.C) + IntKind.i64.wrap (Int.ofNat 2 * c.W)) + IntKind.i64.wrap (IntKind.i64.wrap (c.W * c.L) * IntKind.i64.wrap (Int.ofNat 2 + c.D))) + IntKind.i64.wrap (Int.ofNat 5 * c.T))) (Int.ofNat 131072)) ≤ Int.ofNat 9223372036854775807)
    (V.need (Int.ofNat 0 ≤ Int.ofNat 0 ∧ Int.ofNat 0 ≤ c.T ∧ 0 ≤ 0)
    (V.need (Int.ofNat 0 = Int.ofNat 0)
    (V.need (c.W = c.W)
    (V.need (c.L = c.L)
    (V.need (c.C = c.C)
    (V.need (c.T = c.T)
    (V.need (c.D = c.D)
    (V.need (c.H = c.H)
    (V.need (c.B = c.B)
    (V.need (c.A = c.A)
    (V.need (c.P = c.P)
    (V.need (c.nP = c.nP)
    (V.need (c.rc = c.rc)
    (V.need (c.nU = c.nU)
    (V.need (c.cu = c.cu)
    (V.need ((max (Int.ofNat 0) (min (IntKind.i64.wrap (IntKind.i64.wrap (IntKind.i64.wrap (IntKind.i64.wrap (IntKind.i64.wrap (Int.ofNat 4 + c.H) + c.C) + IntKind.i64.wrap (Int.ofNat 2 * c.W)) + IntKind.i64.wrap (IntKind.i64.wrap (c.W * c.L) * IntKind.i64.wrap (Int.ofNat 2 + c.D))) + IntKind.i64.wrap (Int.ofNat 5 * c.T))) (Int.ofNat 131072))).toNat = (max (Int.ofNat 0) (min (IntKind.i64.wrap (IntKind.i64.wrap (IntKind.i64.wrap (IntKind.i64.wrap (IntKind.i64.wrap (Int.ofNat 4 + c.H) + c.C) + IntKind.i64.wrap (Int.ofNat 2 * c.W)) + IntKind.i64.wrap (IntKind.i64.wrap (c.W * c.L) * IntKind.i64.wrap (Int.ofNat 2 + c.D))) + IntKind.i64.wrap (Int.ofNat 5 * c.T))) (Int.ofNat 131072))).toNat)
    (V.need ((max (Int.ofNat 0) (min (IntKind.i64.wrap (IntKind.i64.wrap (IntKind.i64.wrap (IntKind.i64.wrap (IntKind.i64.wrap (Int.ofNat 4 + c.H) + c.C) + IntKind.i64.wrap (Int.ofNat 2 * c.W)) + IntKind.i64.wrap (IntKind.i64.wrap (c.W * c.L) * IntKind.i64.wrap (Int.ofNat 2 + c.D))) + IntKind.i64.wrap (Int.ofNat 5 * c.T))) (Int.ofNat 131072))).toNat = (max (Int.ofNat 0) (min (IntKind.i64.wrap (IntKind.i64.wrap (IntKind.i64.wrap (IntKind.i64.wrap (IntKind.i64.wrap (Int.ofNat 4 + c.H) + c.C) + IntKind.i64.wrap (Int.ofNat 2 * c.W)) + IntKind.i64.wrap (IntKind.i64.wrap (c.W * c.L) * IntKind.i64.wrap (Int.ofNat 2 + c.D))) + IntKind.i64.wrap (Int.ofNat 5 * c.T))) (Int.ofNat 131072))).toNat)
    (V.need (0 = 0)
    (V.need (0 = 0)
    (V.need (0 = 0)
    (V.need (0 ≤ 0)
    (V.need (∀ (e : Nat), e < 0 → Int.ofNat 0 = Int.ofNat 0)
    (V.need (∀ (e : Nat), e < 0 → -Int.ofNat 1 = -Int.ofNat 1)
    (V.need (∀ (e : Nat), e < 0 → Int.ofNat 0 = Int.ofNat 0)
    (V.need (∀ (e : Nat), e < 0 → Int.ofNat 0 = Int.ofNat 0)
    (V.need (∀ (e : Nat), e < 0 → -Int.ofNat 1 = -Int.ofNat 1)
    (V.need (∀ (e : Nat), e < 0 → false = false)
    (V.any (Int × Nat) (fun (x : Int × Nat) => Int.ofNat 0 ≤ x.fst ∧ x.fst ≤ c.T ∧ x.fst.toNat ≤ x.snd) fun (x : Int × Nat) => V.need (0 < 1 ∧ 0 < 1)
    (V.need (0 < 1 ∧ 0 < 1)
    (V.br (decide (x.fst < c.T))
    (V.need (0 < 1 ∧ 0 < 1)
    (V.need (0 < 1 ∧ 0 < 1)
    (V.need (0 < 1 ∧ 0 < 1)
    (V.need (0 < 1 ∧ 0 < 1)
    (V.need (0 < 1 ∧ 0 < 1)
    (V.need (0 < 1 ∧ 0 < 1)
    (V.need (0 < 1 ∧ 0 < 1)
    (V.need (0 < 1 ∧ 0 < 1)
    (V.need (0 < 1 ∧ 0 < 1)
    (V.need (0 < 1 ∧ 0 < 1)
    (V.need (x.fst.toNat ≤ x.fst.toNat ∧ x.snd = x.snd)
    (V.need (x.fst.toNat + 1 ≤ 9223372036854775807 ∧ (x.fst.toNat + 1) * 72 ≤ 140737488355328)
    (V.any Nat (fun (x_1 : Nat) => x.fst.toNat + 1 ≤ x_1) fun (x_1 : Nat) => V.need (0 < 1 ∧ 0 < 1)
    (V.need (0 < 1 ∧ 0 < 1)
    (V.need (Int.ofNat 0 ≤ IntKind.i64.wrap (x.fst + Int.ofNat 1) ∧ IntKind.i64.wrap (x.fst + Int.ofNat 1) ≤ c.T ∧ (IntKind.i64.wrap (x.fst + Int.ofNat 1)).toNat ≤ x_1)
    (V.need ((c.T - IntKind.i64.wrap (x.fst + Int.ofNat 1)).toNat < (c.T - x.fst).toNat)
    (V.need (IntKind.i64.wrap (x.fst + Int.ofNat 1) = IntKind.i64.wrap (x.fst + Int.ofNat 1))
    (V.need (c.W = c.W)
    (V.need (c.L = c.L)
    (V.need (c.C = c.C)
    (V.need (c.T = c.T)
    (V.need (c.D = c.D)
    (V.need (c.H = c.H)
    (V.need (c.B = c.B)
    (V.need (c.A = c.A)
    (V.need (c.P = c.P)
    (V.need (c.nP = c.nP)
    (V.need (c.rc = c.rc)
    (V.need (c.nU = c.nU)
    (V.need (c.cu = c.cu)
    (V.need ((max (Int.ofNat 0) (min (IntKind.i64.wrap (IntKind.i64.wrap (IntKind.i64.wrap (IntKind.i64.wrap (IntKind.i64.wrap (Int.ofNat 4 + c.H) + c.C) + IntKind.i64.wrap (Int.ofNat 2 * c.W)) + IntKind.i64.wrap (IntKind.i64.wrap (c.W * c.L) * IntKind.i64.wrap (Int.ofNat 2 + c.D))) + IntKind.i64.wrap (Int.ofNat 5 * c.T))) (Int.ofNat 131072))).toNat = (max (Int.ofNat 0) (min (IntKind.i64.wrap (IntKind.i64.wrap (IntKind.i64.wrap (IntKind.i64.wrap (IntKind.i64.wrap (Int.ofNat 4 + c.H) + c.C) + IntKind.i64.wrap (Int.ofNat 2 * c.W)) + IntKind.i64.wrap (IntKind.i64.wrap (c.W * c.L) * IntKind.i64.wrap (Int.ofNat 2 + c.D))) + IntKind.i64.wrap (Int.ofNat 5 * c.T))) (Int.ofNat 131072))).toNat)
    (V.need ((max (Int.ofNat 0) (min (IntKind.i64.wrap (IntKind.i64.wrap (IntKind.i64.wrap (IntKind.i64.wrap (IntKind.i64.wrap (Int.ofNat 4 + c.H) + c.C) + IntKind.i64.wrap (Int.ofNat 2 * c.W)) + IntKind.i64.wrap (IntKind.i64.wrap (c.W * c.L) * IntKind.i64.wrap (Int.ofNat 2 + c.D))) + IntKind.i64.wrap (Int.ofNat 5 * c.T))) (Int.ofNat 131072))).toNat = (max (Int.ofNat 0) (min (IntKind.i64.wrap (IntKind.i64.wrap (IntKind.i64.wrap (IntKind.i64.wrap (IntKind.i64.wrap (Int.ofNat 4 + c.H) + c.C) + IntKind.i64.wrap (Int.ofNat 2 * c.W)) + IntKind.i64.wrap (IntKind.i64.wrap (c.W * c.L) * IntKind.i64.wrap (Int.ofNat 2 + c.D))) + IntKind.i64.wrap (Int.ofNat 5 * c.T))) (Int.ofNat 131072))).toNat)
    (V.need (x.fst.toNat + 1 = (IntKind.i64.wrap (x.fst + Int.ofNat 1)).toNat)
    (V.need (x_1 = x_1)
    (V.need (x_1 = x_1)
    (V.need ((IntKind.i64.wrap (x.fst + Int.ofNat 1)).toNat ≤ x.fst.toNat + 1)
    (V.need (∀ (e : Nat), e < (IntKind.i64.wrap (x.fst + Int.ofNat 1)).toNat → (if 0 = 0 ∧ e = x.fst.toNat then Int.ofNat 0 else Int.ofNat 0) = Int.ofNat 0)
    (V.need (∀ (e : Nat), e < (IntKind.i64.wrap (x.fst + Int.ofNat 1)).toNat → (if 0 = 0 ∧ e = x.fst.toNat then Int.negSucc 0 else -Int.ofNat 1) = -Int.ofNat 1)
    (V.need (∀ (e : Nat), e < (IntKind.i64.wrap (x.fst + Int.ofNat 1)).toNat → (if 0 = 0 ∧ e = x.fst.toNat then Int.ofNat 0 else Int.ofNat 0) = Int.ofNat 0)
    (V.need (∀ (e : Nat), e < (IntKind.i64.wrap (x.fst + Int.ofNat 1)).toNat → (if 0 = 0 ∧ e = x.fst.toNat then Int.ofNat 0 else Int.ofNat 0) = Int.ofNat 0)
    (V.need (∀ (e : Nat), e < (IntKind.i64.wrap (x.fst + Int.ofNat 1)).toNat → (if 0 = 0 ∧ e = x.fst.toNat then Int.negSucc 0 else -Int.ofNat 1) = -Int.ofNat 1)
    (V.need (∀ (e : Nat), e < (IntKind.i64.wrap (x.fst + Int.ofNat 1)).toNat → (if 0 = 0 ∧ e = x.fst.toNat then false else false) = false) V.ok))))))))))))))))))))))))))))))))))))))))))
    (V.need (c.T.toNat ≤ x.snd)
    (V.need (c.W = c.W)
    (V.need (c.L = c.L)
    (V.need (c.C = c.C)
    (V.need (c.T = c.T)
    (V.need (c.D = c.D)
    (V.need (c.H = c.H)
    (V.need (c.B = c.B)
    (V.need (c.A = c.A)
    (V.need (c.P = c.P)
    (V.need (c.nP = c.nP)
    (V.need (c.rc = c.rc)
    (V.need (c.nU = c.nU)
    (V.need (c.cu = c.cu)
    (V.need ((max (Int.ofNat 0) (min (IntKind.i64.wrap (IntKind.i64.wrap (IntKind.i64.wrap (IntKind.i64.wrap (IntKind.i64.wrap (Int.ofNat 4 + c.H) + c.C) + IntKind.i64.wrap (Int.ofNat 2 * c.W)) + IntKind.i64.wrap (IntKind.i64.wrap (c.W * c.L) * IntKind.i64.wrap (Int.ofNat 2 + c.D))) + IntKind.i64.wrap (Int.ofNat 5 * c.T))) (Int.ofNat 131072))).toNat = ncN c)
    (V.need ((max (Int.ofNat 0) (min (IntKind.i64.wrap (IntKind.i64.wrap (IntKind.i64.wrap (IntKind.i64.wrap (IntKind.i64.wrap (Int.ofNat 4 + c.H) + c.C) + IntKind.i64.wrap (Int.ofNat 2 * c.W)) + IntKind.i64.wrap (IntKind.i64.wrap (c.W * c.L) * IntKind.i64.wrap (Int.ofNat 2 + c.D))) + IntKind.i64.wrap (Int.ofNat 5 * c.T))) (Int.ofNat 131072))).toNat = ncN c)
    (V.need (Int.ofNat 0 = Int.ofNat 0)
    (V.need (Int.ofNat 0 = Int.ofNat 0)
    (V.need (Int.ofNat 0 = Int.ofNat 0)
    (V.need (Int.ofNat 0 = Int.ofNat 0)
    (V.need (Int.ofNat 0 = Int.ofNat 0)
    (V.need (Int.ofNat 0 = Int.ofNat 0)
    (V.need (Int.ofNat 0 = Int.ofNat 0)
    (V.need (x.fst.toNat = c.T.toNat)
    (V.need (x.snd = x.snd)
    (V.need ((max (Int.ofNat 0) (min (IntKind.i64.wrap (IntKind.i64.wrap (IntKind.i64.wrap (IntKind.i64.wrap (IntKind.i64.wrap (Int.ofNat 4 + c.H) + c.C) + IntKind.i64.wrap (Int.ofNat 2 * c.W)) + IntKind.i64.wrap (IntKind.i64.wrap (c.W * c.L) * IntKind.i64.wrap (Int.ofNat 2 + c.D))) + IntKind.i64.wrap (Int.ofNat 5 * c.T))) (Int.ofNat 131072))).toNat = ncN c)
    (V.need (ncN c ≤ (max (Int.ofNat 0) (min (IntKind.i64.wrap (IntKind.i64.wrap (IntKind.i64.wrap (IntKind.i64.wrap (IntKind.i64.wrap (Int.ofNat 4 + c.H) + c.C) + IntKind.i64.wrap (Int.ofNat 2 * c.W)) + IntKind.i64.wrap (IntKind.i64.wrap (c.W * c.L) * IntKind.i64.wrap (Int.ofNat 2 + c.D))) + IntKind.i64.wrap (Int.ofNat 5 * c.T))) (Int.ofNat 131072))).toNat)
    (V.need (∀ (e : Nat), e < ncN c → Int.ofNat 0 = Int.ofNat 0)
    (V.need (x.snd = x.snd)
    (V.need (c.T.toNat ≤ x.fst.toNat)
    (V.need (∀ (e : Nat), e < c.T.toNat → Int.ofNat 0 = Int.ofNat 0)
    (V.need (∀ (e : Nat), e < c.T.toNat → -Int.ofNat 1 = -Int.ofNat 1)
    (V.need (∀ (e : Nat), e < c.T.toNat → Int.ofNat 0 = Int.ofNat 0)
    (V.need (∀ (e : Nat), e < c.T.toNat → Int.ofNat 0 = Int.ofNat 0)
    (V.need (∀ (e : Nat), e < c.T.toNat → -Int.ofNat 1 = -Int.ofNat 1)
    (V.need (∀ (e : Nat), e < c.T.toNat → false = false) V.ok))))))))))))))))))))))))))))))))))))))))))))))))))))))))))))))))))))))))))))))))))))))))))))))))))))))))))) := by kernel_rfl


set_option maxHeartbeats 4000000 in
theorem vhNewR {c : Cf} (h : okY c) : VHolds (verNewR c) := by
  constructor
  rw [verNewR_eq]
  have W := wy h
  have hn := nc_bd h
  have e1 := wnc1 h
  have e2 := wnc2 h
  have e3 := wnc3 h
  have hT := h.2.2.2.1
  have e4 : (ncI c).toNat = ncN c := rfl
  simp only [V.holds, Int.ofNat_eq_natCast, decide_eq_true_eq, decide_eq_false_iff_not, Bool.not_eq_true', Bool.not_eq_false', bne_iff_ne, bne_eq_false_iff_eq, beq_iff_eq, beq_eq_false_iff_ne, ne_eq, true_and, and_true, forall_const, true_implies, implies_true, Nat.zero_add, Nat.sub_zero, Nat.lt_add_one, Nat.zero_lt_one, Int.natCast_zero, Int.natCast_one, Int.cast_ofNat_Int, gt_iff_lt, ge_iff_le, and_self, eq_self, Nat.le_refl, if_true, Int.toNat_zero, ite_self, W.w3, W.w4, W.w1, W.w2, W.w5, W.w6, W.w7, W.w8, W.w10, W.w11, e1, e2, e3, e4]
  repeat' first
    | exact True.intro
    | with_reducible apply And.intro
    | (refine Prod.forall.2 fun xi F => ?_
       intro hx
       simp only at hx ⊢
       obtain ⟨i, rfl⟩ := Int.eq_ofNat_of_zero_le hx.1
       simp only [Int.toNat_natCast] at hx ⊢
       obtain ⟨hx0, hx1, hx2⟩ := hx)
    | intro _
  all_goals try simp (disch := omega) only [wnat, Int.toNat_natCast]
  all_goals first
    | omega
    | rfl
    | exact ⟨_, Nat.le_refl _⟩
    | (split <;> rfl)
noncomputable section
def conNewR : List SV → Hp → Out (SV × Hp) := conCfP fun c => .need (okY c) (psNewR c).out
theorem conNewR_ok : ContractOK P 20 conNewR := conCfP_ok fun c => local_of_ps ConOK.nil fun h => vhNewR h
end
end Go.Proofs.YtbidbhfjnfgblaaGreat.Vc

/- The reference's memory, inside its environment: one access; what is asked. -/
set_option maxRecDepth 100000
namespace Go.Proofs.YtbidbhfjnfgblaaGreat.En
open Go Go.RowKit Sx Cn Dc Ck Vc Md
structure Rv where
  c : Cf
  len : Nat
  cap : Nat
  m : Mm
  now : Int
  dr : Int
  rn : Nat
  rc : Nat
  ne : Nat
  nc : Nat
noncomputable section
def tRE : TypeId := 53
def Rv.W (r : Rv) (m : Mm) : Rv := ⟨r.c, r.len, r.cap, m, r.now, r.dr, r.rn, r.rc, r.ne, r.nc⟩
def Rv.cs (r : Rv) (k0 k1 km kr ke : Nat) : List SC := cfL k0 k1 r.c ++ [slK km 1 r.len r.cap, i6 r.m.lk, i6 r.m.lc, uw r.m.lo, uw r.m.ln, i6 r.m.ct, i6 r.now, i6 r.dr, slK kr 7 r.rn r.rc, slK ke 5 r.ne r.nc]
def Rv.b (r : Rv) (k0 k1 km kr ke : Nat) : Blk := .own tRE 21 ((r.cs k0 k1 km kr ke).map some)
def dum (n : Nat) : Blk := .view 0 (fun _ => 0) (List.replicate n .cu)
def wRow (cap len : Nat) (m : Mm) : Blk := .row 46 cap len [.ci .u64 fun _ e => m.g e]
def Rv.h (r : Rv) : HL := [(0, r.b 2 3 1 4 5), (1, wRow r.cap r.len r.m), (2, dum 1), (3, dum 3), (4, dum 7), (5, dum 5)]
def Rv.h2 (r : Rv) : HL := [(0, r.b 2 3 1 4 5), (1, wRow r.cap r.len r.m)]
def fRA : FuncId := 11
def raM (kd : Nat) (m : Mm) (n : Nat) (a v w : Int) : Mm := match kd with
  | 1 => m.acc n 1 a (m.val n a)
  | 2 => m.acc n 2 a v
  | 3 => m.acc n 3 a (casV (m.hit n a v) (m.val n a) w)
  | 4 => m.acc n 4 a (bits .or .u64 (m.val n a) v)
  | 5 => m.acc n 5 a (bits .and .u64 (m.val n a) v)
  | _ => m.acc n 6 a (IntKind.u64.wrap (m.val n a + v))
def raB (kd : Nat) (m : Mm) (n : Nat) (a v : Int) : Bool := match kd with
  | 3 => m.hit n a v
  | _ => inb n a
def argRA (kd : Nat) (a v w : Int) : List SV := [.c (.ptr 0 (.k 0) (.k 0) 11 21), .c (.ki .i64 kd), .c (i6 a), .c (uw v), .c (uw w)]
def vRA (kd : Nat) (r : Rv) (a v w : Int) : V := verF P con0 3 6 fRA [] .nil (argRA kd a v w) ⟨r.h, 6, fun _ => True⟩
  (finV (X := Unit) 6 6 (fun _ _ => some ()) (fun _ _ => []) (fun _ => True) (fun _ => .t [.c (uw (r.m.val r.len a)), .c (.bv (raB kd r.m r.len a v))]) (fun _ => (r.W (raM kd r.m r.len a v w)).h2))
/-! ### Contents compared -/
def fSw : FuncId := 46
def fS5 : FuncId := 49
def yesF (n : Nat) : SV → Hp → V := finV (X := Unit) n n (fun _ _ => some ()) (fun _ _ => []) (fun _ => True) (fun _ => .c (.kb true)) (fun _ => [])
def wV (n : Nat) (g : Nat → Int) : Blk := .view 1 (fun _ => n) [.ci .u64 fun _ e => g e]
def cI (t n : Nat) : LA Int := cntL t (fun x => 0 ≤ x ∧ x ≤ n) n
def vSw (n c d : Nat) (g : Nat → Int) : V := verF P con0 3 3 fSw [] (.loop Int [] (fun _ => some (cI 5 n)) .nil .nil) [.c (slK 0 1 n c), .c (slK 1 1 n d)] ⟨[(0, wV n g), (1, wV n g)], 2, fun _ => True⟩ (yesF 2)
def eV (n : Nat) (v : Evs) : Blk := .view 1 (fun _ => n) v.cols
def vS5 (n c d : Nat) (v : Evs) : V := verF P con0 3 3 fS5 [] (.loop Int [] (fun _ => some (cI 5 n)) .nil .nil) [.c (slK 0 5 n c), .c (slK 1 5 n d)] ⟨[(0, eV n v), (1, eV n v)], 2, fun _ => True⟩ (yesF 2)
def fIn : FuncId := 104
def onI (i n : Nat) (q : Nat) : Nat := if q = i then n else 0
def slI (k i n cap : Nat) : SC := .slc k (.s i) (.k 0) 1 (.s n) (.s cap)
def kV (i n : Nat) (G : Nat → Nat → Int) : Blk := .view (i + 1) (fun q => onI i n q) [.ci .i64 fun q e => G q e]
def vIn (i n c d : Nat) (G : Nat → Nat → Int) : V := verF P con0 3 3 fIn [] (.loop Int [] (fun _ => some (cI 5 n)) .nil .nil) [.c (slI 0 i n c), .c (slI 1 i n d)] ⟨[(0, kV i n G), (1, kV i n G)], 2, fun _ => True⟩ (yesF 2)
end
end Go.Proofs.YtbidbhfjnfgblaaGreat.En

/- The reference's memory; contents compared: the conditions, printed by program. -/
set_option maxRecDepth 100000
namespace Go.Proofs.YtbidbhfjnfgblaaGreat.En
open Go Go.RowKit Sx Cn Dc Ck Vc Md

abbrev qAc0 (a0 : Rv) (a1 : Int) (k : V) : V := V.need True (V.need (Int.ofNat 0 = a0.m.val a0.len a1) k)
abbrev qAc1 (a0 : Int) (a1 : Nat) (k : V) : V := V.need (0 < 1 ∧ 0 + a0.toNat < a1) (V.need (0 < 1 ∧ 0 + a0.toNat < a1) k)
abbrev qAc2 (a0 : Int) (a1 : Rv) (k : V) : V := V.need (Int.ofNat 0 ≤ a0 ∧ a0 < (↑a1.len : Int)) (V.need (0 + a0.toNat < a1.len) (V.need (0 + a0.toNat < a1.len) k))
abbrev qAc3 (a0 : Nat) (k : V) : V := V.need (((↑a0 : Int) != (↑a0 : Int)) = false) (V.need (Int.ofNat 0 ≤ Int.ofNat 0 ∧ Int.ofNat 0 ≤ (↑a0 : Int)) k)
abbrev qAc4 (a0 : Rv) (l : List (Nat × P0)) : List (Nat × P0) := qE a0.c.W :: qE a0.c.L :: qE a0.c.C :: qE a0.c.T :: qE a0.c.D :: qE a0.c.H :: qE a0.c.B :: qE a0.c.A :: qE a0.c.P :: qE a0.c.nP :: qE a0.c.rc :: qE a0.c.nU :: qE a0.c.cu :: qE a0.len :: qE a0.cap :: l
abbrev qAc5 (a0 : Rv) (l : List (Nat × P0)) : List (Nat × P0) := qE a0.now :: qE a0.dr :: qE a0.rn :: qE a0.rc :: qE a0.ne :: qE a0.nc :: qE a0.cap :: qL a0.len :: l
abbrev qAc6 (a0 : Int) (a1 : Nat) (k : V) : V := V.need (Int.ofNat 0 ≤ a0 ∧ a0 < (↑a1 : Int)) (qAc1 a0 a1 k)
abbrev qAc7 (a0 : Int) (a1 : Nat) (k : V) : V := V.need (Int.ofNat 0 ≤ IntKind.i64.wrap (a0 + Int.ofNat 1) ∧ IntKind.i64.wrap (a0 + Int.ofNat 1) ≤ (↑a1 : Int)) (V.need (a1 - (IntKind.i64.wrap (a0 + Int.ofNat 1)).toNat < a1 - a0.toNat) (nN [qE (IntKind.i64.wrap (a0 + Int.ofNat 1))] k))
abbrev qAc8 (a0 : Int) (a1 : Rv) (k : V) : V := qAc2 a0 a1 (V.need True (V.need (a1.m.g (0 + a0.toNat) = a1.m.val a1.len a0) k))
theorem vRA1_eq (r : Rv) (a v w : Int) : V.pr .z (vRA 1 r a v w) =
  V.br (decide (a ≥ Int.ofNat 0))
 (V.br (!decide (a < (↑r.len : Int)))
 (qAc0 r a (V.need (false = raB 1 r.m r.len a v) (nN (qAc4 r []) (V.need (r.m.lk = (raM 1 r.m r.len a v w).lk) (V.need (r.m.lc = (raM 1 r.m r.len a v w).lc) (V.need (r.m.lo = (raM 1 r.m r.len a v w).lo) (V.need (r.m.ln = (raM 1 r.m r.len a v w).ln) (V.need (r.m.ct = (raM 1 r.m r.len a v w).ct) (nN (qAc5 r []) (V.need (∀ (e : Nat), e < r.len → r.m.g e = (raM 1 r.m r.len a v w).g e) V.ok))))))))))
 (qAc2 a r (qAc8 a r (V.need (true = raB 1 r.m r.len a v) (nN (qAc4 r []) (V.need (Int.ofNat 1 = (raM 1 r.m r.len a v w).lk) (V.need (a = (raM 1 r.m r.len a v w).lc) (V.need (r.m.g (0 + a.toNat) = (raM 1 r.m r.len a v w).lo) (V.need (r.m.g (0 + a.toNat) = (raM 1 r.m r.len a v w).ln) (V.need (IntKind.i64.wrap (r.m.ct + Int.ofNat 1) = (raM 1 r.m r.len a v w).ct) (nN (qAc5 r []) (V.need (∀ (e : Nat), e < r.len → (if 0 = 0 ∧ e = 0 + a.toNat then r.m.g (0 + a.toNat) else r.m.g e) = (raM 1 r.m r.len a v w).g e) V.ok))))))))))))
 (qAc0 r a (V.need (false = raB 1 r.m r.len a v) (nN (qAc4 r []) (V.need (r.m.lk = (raM 1 r.m r.len a v w).lk) (V.need (r.m.lc = (raM 1 r.m r.len a v w).lc) (V.need (r.m.lo = (raM 1 r.m r.len a v w).lo) (V.need (r.m.ln = (raM 1 r.m r.len a v w).ln) (V.need (r.m.ct = (raM 1 r.m r.len a v w).ct) (nN (qAc5 r []) (V.need (∀ (e : Nat), e < r.len → r.m.g e = (raM 1 r.m r.len a v w).g e) V.ok)))))))))) := by kernel_rfl

theorem vRA2_eq (r : Rv) (a v w : Int) : V.pr .z (vRA 2 r a v w) =
  V.br (decide (a ≥ Int.ofNat 0))
 (V.br (!decide (a < (↑r.len : Int)))
 (qAc0 r a (V.need (false = raB 2 r.m r.len a v) (nN (qAc4 r []) (V.need (r.m.lk = (raM 2 r.m r.len a v w).lk) (V.need (r.m.lc = (raM 2 r.m r.len a v w).lc) (V.need (r.m.lo = (raM 2 r.m r.len a v w).lo) (V.need (r.m.ln = (raM 2 r.m r.len a v w).ln) (V.need (r.m.ct = (raM 2 r.m r.len a v w).ct) (nN (qAc5 r []) (V.need (∀ (e : Nat), e < r.len → r.m.g e = (raM 2 r.m r.len a v w).g e) V.ok))))))))))
 (qAc2 a r (qAc8 a r (V.need (true = raB 2 r.m r.len a v) (nN (qAc4 r []) (V.need (Int.ofNat 2 = (raM 2 r.m r.len a v w).lk) (V.need (a = (raM 2 r.m r.len a v w).lc) (V.need (r.m.g (0 + a.toNat) = (raM 2 r.m r.len a v w).lo) (V.need (v = (raM 2 r.m r.len a v w).ln) (V.need (IntKind.i64.wrap (r.m.ct + Int.ofNat 1) = (raM 2 r.m r.len a v w).ct) (nN (qAc5 r []) (V.need (∀ (e : Nat), e < r.len → (if 0 = 0 ∧ e = 0 + a.toNat then v else r.m.g e) = (raM 2 r.m r.len a v w).g e) V.ok))))))))))))
 (qAc0 r a (V.need (false = raB 2 r.m r.len a v) (nN (qAc4 r []) (V.need (r.m.lk = (raM 2 r.m r.len a v w).lk) (V.need (r.m.lc = (raM 2 r.m r.len a v w).lc) (V.need (r.m.lo = (raM 2 r.m r.len a v w).lo) (V.need (r.m.ln = (raM 2 r.m r.len a v w).ln) (V.need (r.m.ct = (raM 2 r.m r.len a v w).ct) (nN (qAc5 r []) (V.need (∀ (e : Nat), e < r.len → r.m.g e = (raM 2 r.m r.len a v w).g e) V.ok)))))))))) := by kernel_rfl

theorem vRA3_eq (r : Rv) (a v w : Int) : V.pr .z (vRA 3 r a v w) =
  V.br (decide (a ≥ Int.ofNat 0))
 (V.br (!decide (a < (↑r.len : Int)))
 (qAc0 r a (V.need (false = raB 3 r.m r.len a v) (nN (qAc4 r []) (V.need (r.m.lk = (raM 3 r.m r.len a v w).lk) (V.need (r.m.lc = (raM 3 r.m r.len a v w).lc) (V.need (r.m.lo = (raM 3 r.m r.len a v w).lo) (V.need (r.m.ln = (raM 3 r.m r.len a v w).ln) (V.need (r.m.ct = (raM 3 r.m r.len a v w).ct) (nN (qAc5 r []) (V.need (∀ (e : Nat), e < r.len → r.m.g e = (raM 3 r.m r.len a v w).g e) V.ok))))))))))
 (qAc2 a r (V.br (r.m.g (0 + a.toNat) == v)
 (qAc8 a r (V.need ((r.m.g (0 + a.toNat) == v) = raB 3 r.m r.len a v) (nN (qAc4 r []) (V.need (Int.ofNat 3 = (raM 3 r.m r.len a v w).lk) (V.need (a = (raM 3 r.m r.len a v w).lc) (V.need (r.m.g (0 + a.toNat) = (raM 3 r.m r.len a v w).lo) (V.need (w = (raM 3 r.m r.len a v w).ln) (V.need (IntKind.i64.wrap (r.m.ct + Int.ofNat 1) = (raM 3 r.m r.len a v w).ct) (nN (qAc5 r []) (V.need (∀ (e : Nat), e < r.len → (if 0 = 0 ∧ e = 0 + a.toNat then w else r.m.g e) = (raM 3 r.m r.len a v w).g e) V.ok))))))))))
 (qAc8 a r (V.need ((r.m.g (0 + a.toNat) == v) = raB 3 r.m r.len a v) (nN (qAc4 r []) (V.need (Int.ofNat 3 = (raM 3 r.m r.len a v w).lk) (V.need (a = (raM 3 r.m r.len a v w).lc) (V.need (r.m.g (0 + a.toNat) = (raM 3 r.m r.len a v w).lo) (V.need (r.m.g (0 + a.toNat) = (raM 3 r.m r.len a v w).ln) (V.need (IntKind.i64.wrap (r.m.ct + Int.ofNat 1) = (raM 3 r.m r.len a v w).ct) (nN (qAc5 r []) (V.need (∀ (e : Nat), e < r.len → (if 0 = 0 ∧ e = 0 + a.toNat then r.m.g (0 + a.toNat) else r.m.g e) = (raM 3 r.m r.len a v w).g e) V.ok)))))))))))))
 (qAc0 r a (V.need (false = raB 3 r.m r.len a v) (nN (qAc4 r []) (V.need (r.m.lk = (raM 3 r.m r.len a v w).lk) (V.need (r.m.lc = (raM 3 r.m r.len a v w).lc) (V.need (r.m.lo = (raM 3 r.m r.len a v w).lo) (V.need (r.m.ln = (raM 3 r.m r.len a v w).ln) (V.need (r.m.ct = (raM 3 r.m r.len a v w).ct) (nN (qAc5 r []) (V.need (∀ (e : Nat), e < r.len → r.m.g e = (raM 3 r.m r.len a v w).g e) V.ok)))))))))) := by kernel_rfl

theorem vRA4_eq (r : Rv) (a v w : Int) : V.pr .z (vRA 4 r a v w) =
  V.br (decide (a ≥ Int.ofNat 0))
 (V.br (!decide (a < (↑r.len : Int)))
 (qAc0 r a (V.need (false = raB 4 r.m r.len a v) (nN (qAc4 r []) (V.need (r.m.lk = (raM 4 r.m r.len a v w).lk) (V.need (r.m.lc = (raM 4 r.m r.len a v w).lc) (V.need (r.m.lo = (raM 4 r.m r.len a v w).lo) (V.need (r.m.ln = (raM 4 r.m r.len a v w).ln) (V.need (r.m.ct = (raM 4 r.m r.len a v w).ct) (nN (qAc5 r []) (V.need (∀ (e : Nat), e < r.len → r.m.g e = (raM 4 r.m r.len a v w).g e) V.ok))))))))))
 (qAc2 a r (qAc8 a r (V.need (true = raB 4 r.m r.len a v) (nN (qAc4 r []) (V.need (Int.ofNat 4 = (raM 4 r.m r.len a v w).lk) (V.need (a = (raM 4 r.m r.len a v w).lc) (V.need (r.m.g (0 + a.toNat) = (raM 4 r.m r.len a v w).lo) (V.need (bits BinOp.or IntKind.u64 (r.m.g (0 + a.toNat)) v = (raM 4 r.m r.len a v w).ln) (V.need (IntKind.i64.wrap (r.m.ct + Int.ofNat 1) = (raM 4 r.m r.len a v w).ct) (nN (qAc5 r []) (V.need (∀ (e : Nat), e < r.len → (if 0 = 0 ∧ e = 0 + a.toNat then bits BinOp.or IntKind.u64 (r.m.g (0 + a.toNat)) v else r.m.g e) = (raM 4 r.m r.len a v w).g e) V.ok))))))))))))
 (qAc0 r a (V.need (false = raB 4 r.m r.len a v) (nN (qAc4 r []) (V.need (r.m.lk = (raM 4 r.m r.len a v w).lk) (V.need (r.m.lc = (raM 4 r.m r.len a v w).lc) (V.need (r.m.lo = (raM 4 r.m r.len a v w).lo) (V.need (r.m.ln = (raM 4 r.m r.len a v w).ln) (V.need (r.m.ct = (raM 4 r.m r.len a v w).ct) (nN (qAc5 r []) (V.need (∀ (e : Nat), e < r.len → r.m.g e = (raM 4 r.m r.len a v w).g e) V.ok)))))))))) := by kernel_rfl

theorem vRA5_eq (r : Rv) (a v w : Int) : V.pr .z (vRA 5 r a v w) =
  V.br (decide (a ≥ Int.ofNat 0))
 (V.br (!decide (a < (↑r.len : Int)))
 (qAc0 r a (V.need (false = raB 5 r.m r.len a v) (nN (qAc4 r []) (V.need (r.m.lk = (raM 5 r.m r.len a v w).lk) (V.need (r.m.lc = (raM 5 r.m r.len a v w).lc) (V.need (r.m.lo = (raM 5 r.m r.len a v w).lo) (V.need (r.m.ln = (raM 5 r.m r.len a v w).ln) (V.need (r.m.ct = (raM 5 r.m r.len a v w).ct) (nN (qAc5 r []) (V.need (∀ (e : Nat), e < r.len → r.m.g e = (raM 5 r.m r.len a v w).g e) V.ok))))))))))
 (qAc2 a r (qAc8 a r (V.need (true = raB 5 r.m r.len a v) (nN (qAc4 r []) (V.need (Int.ofNat 5 = (raM 5 r.m r.len a v w).lk) (V.need (a = (raM 5 r.m r.len a v w).lc) (V.need (r.m.g (0 + a.toNat) = (raM 5 r.m r.len a v w).lo) (V.need (bits BinOp.and IntKind.u64 (r.m.g (0 + a.toNat)) v = (raM 5 r.m r.len a v w).ln) (V.need (IntKind.i64.wrap (r.m.ct + Int.ofNat 1) = (raM 5 r.m r.len a v w).ct) (nN (qAc5 r []) (V.need (∀ (e : Nat), e < r.len → (if 0 = 0 ∧ e = 0 + a.toNat then bits BinOp.and IntKind.u64 (r.m.g (0 + a.toNat)) v else r.m.g e) = (raM 5 r.m r.len a v w).g e) V.ok))))))))))))
 (qAc0 r a (V.need (false = raB 5 r.m r.len a v) (nN (qAc4 r []) (V.need (r.m.lk = (raM 5 r.m r.len a v w).lk) (V.need (r.m.lc = (raM 5 r.m r.len a v w).lc) (V.need (r.m.lo = (raM 5 r.m r.len a v w).lo) (V.need (r.m.ln = (raM 5 r.m r.len a v w).ln) (V.need (r.m.ct = (raM 5 r.m r.len a v w).ct) (nN (qAc5 r []) (V.need (∀ (e : Nat), e < r.len → r.m.g e = (raM 5 r.m r.len a v w).g e) V.ok)))))))))) := by kernel_rfl

theorem vRA6_eq (r : Rv) (a v w : Int) : V.pr .z (vRA 6 r a v w) =
  V.br (decide (a ≥ Int.ofNat 0))
 (V.br (!decide (a < (↑r.len : Int)))
 (qAc0 r a (V.need (false = raB 6 r.m r.len a v) (nN (qAc4 r []) (V.need (r.m.lk = (raM 6 r.m r.len a v w).lk) (V.need (r.m.lc = (raM 6 r.m r.len a v w).lc) (V.need (r.m.lo = (raM 6 r.m r.len a v w).lo) (V.need (r.m.ln = (raM 6 r.m r.len a v w).ln) (V.need (r.m.ct = (raM 6 r.m r.len a v w).ct) (nN (qAc5 r []) (V.need (∀ (e : Nat), e < r.len → r.m.g e = (raM 6 r.m r.len a v w).g e) V.ok))))))))))
 (qAc2 a r (qAc8 a r (V.need (true = raB 6 r.m r.len a v) (nN (qAc4 r []) (V.need (Int.ofNat 6 = (raM 6 r.m r.len a v w).lk) (V.need (a = (raM 6 r.m r.len a v w).lc) (V.need (r.m.g (0 + a.toNat) = (raM 6 r.m r.len a v w).lo) (V.need (IntKind.u64.wrap (r.m.g (0 + a.toNat) + v) = (raM 6 r.m r.len a v w).ln) (V.need (IntKind.i64.wrap (r.m.ct + Int.ofNat 1) = (raM 6 r.m r.len a v w).ct) (nN (qAc5 r []) (V.need (∀ (e : Nat), e < r.len → (if 0 = 0 ∧ e = 0 + a.toNat then IntKind.u64.wrap (r.m.g (0 + a.toNat) + v) else r.m.g e) = (raM 6 r.m r.len a v w).g e) V.ok))))))))))))
 (qAc0 r a (V.need (false = raB 6 r.m r.len a v) (nN (qAc4 r []) (V.need (r.m.lk = (raM 6 r.m r.len a v w).lk) (V.need (r.m.lc = (raM 6 r.m r.len a v w).lc) (V.need (r.m.lo = (raM 6 r.m r.len a v w).lo) (V.need (r.m.ln = (raM 6 r.m r.len a v w).ln) (V.need (r.m.ct = (raM 6 r.m r.len a v w).ct) (nN (qAc5 r []) (V.need (∀ (e : Nat), e < r.len → r.m.g e = (raM 6 r.m r.len a v w).g e) V.ok)))))))))) := by kernel_rfl

theorem vSw_eq (n c d : Nat) (g : Nat → Int) : V.pr (.f (.b (.f .z) .z)) (vSw n c d g) =
  qAc3 n (nN [(1, .eqI 0 0)] (V.any Int (fun (x : Int) => Int.ofNat 0 ≤ x ∧ x ≤ (↑n : Int)) fun (x : Int) => V.br (decide (x < (↑n : Int)))
 (qAc6 x n (qAc6 x n (V.need ((g (0 + x.toNat) != g (0 + x.toNat)) = false) (qAc7 x n V.ok))))
 (V.need True V.ok))) := by kernel_rfl

theorem vS5_eq (n c d : Nat) (v : Evs) : V.pr (.f (.b (.f .z) .z)) (vS5 n c d v) =
  qAc3 n (nN [(1, .eqI 0 0)] (V.any Int (fun (x : Int) => Int.ofNat 0 ≤ x ∧ x ≤ (↑n : Int)) fun (x : Int) => V.br (decide (x < (↑n : Int)))
 (qAc6 x n (qAc1 x n (qAc1 x n (qAc6 x n (qAc1 x n (qAc1 x n (V.need ((!(v.k (0 + x.toNat) == v.k (0 + x.toNat) && (v.w (0 + x.toNat) == v.w (0 + x.toNat) && (v.t (0 + x.toNat) == v.t (0 + x.toNat) && (v.o (0 + x.toNat) == v.o (0 + x.toNat) && (v.l (0 + x.toNat) == v.l (0 + x.toNat) && true)))))) = false) (qAc7 x n V.ok))))))))
 (V.need True V.ok))) := by kernel_rfl

theorem vIn_eq (i n c d : Nat) (G : Nat → Nat → Int) : V.pr (.f (.b (.f .z) .z)) (vIn i n c d G) =
  qAc3 n (nN [(1, .eqI 0 0)] (V.any Int (fun (x : Int) => Int.ofNat 0 ≤ x ∧ x ≤ (↑n : Int)) fun (x : Int) => V.br (decide (x < (↑n : Int)))
 (V.need (Int.ofNat 0 ≤ x ∧ x < (↑n : Int)) (V.need (i < i + 1 ∧ 0 + x.toNat < onI i n i) (V.need (i < i + 1 ∧ 0 + x.toNat < onI i n i) (V.need (Int.ofNat 0 ≤ x ∧ x < (↑n : Int)) (V.need (i < i + 1 ∧ 0 + x.toNat < onI i n i) (V.need (i < i + 1 ∧ 0 + x.toNat < onI i n i) (V.need ((G i (0 + x.toNat) != G i (0 + x.toNat)) = false) (qAc7 x n V.ok))))))))
 (V.need True V.ok))) := by kernel_rfl


end Go.Proofs.YtbidbhfjnfgblaaGreat.En

/- The reference's memory; contents compared: the contracts. -/
set_option maxRecDepth 100000
namespace Go.Proofs.YtbidbhfjnfgblaaGreat.En
open Go Go.RowKit Sx Cn Dc Ck Vc Md
section
variable {r : Rv} {a v w : Int}
theorem vhRA1 : VHolds (vRA 1 r a v w) := by
  refine VHolds.pr (vRA1_eq ..) ?_
  (repeat' first | with_reducible exact V.okI | with_reducible refine V.brT ?_ | with_reducible refine V.brF ?_ | with_reducible refine V.brI ?_ ?_ | with_reducible refine V.anyI ?_ | with_reducible refine nN_h rfl ?_ | with_reducible refine V.needI ?_ ?_ | with_reducible intro _)
  all_goals (simp only [decide_eq_true_eq, decide_eq_false_iff_not, Int.ofNat_eq_natCast, Bool.not_eq_true', Bool.not_eq_false', ge_iff_le, gt_iff_lt, Bool.and_eq_true, Bool.or_eq_true, Bool.not_eq_true, Bool.and_eq_false_iff] at *)
  all_goals first | omega | (have hb : inb r.len a = false := inb_f (by omega); simp [Mm.val, Mm.acc, raM, raB, hb]; done) | (have hb : inb r.len a = true := inb_t (by omega) (by omega); simp [Mm.val, Mm.acc, raM, raB, hb]; done) | trace_state
theorem vhRA2 : VHolds (vRA 2 r a v w) := by
  refine VHolds.pr (vRA2_eq ..) ?_
  (repeat' first | with_reducible exact V.okI | with_reducible refine V.brT ?_ | with_reducible refine V.brF ?_ | with_reducible refine V.brI ?_ ?_ | with_reducible refine V.anyI ?_ | with_reducible refine nN_h rfl ?_ | with_reducible refine V.needI ?_ ?_ | with_reducible intro _)
  all_goals (simp only [decide_eq_true_eq, decide_eq_false_iff_not, Int.ofNat_eq_natCast, Bool.not_eq_true', Bool.not_eq_false', ge_iff_le, gt_iff_lt, Bool.and_eq_true, Bool.or_eq_true, Bool.not_eq_true, Bool.and_eq_false_iff] at *)
  all_goals first | omega | (have hb : inb r.len a = false := inb_f (by omega); simp [Mm.val, Mm.acc, raM, raB, hb]; done) | (have hb : inb r.len a = true := inb_t (by omega) (by omega); simp [Mm.val, Mm.acc, raM, raB, hb]; done) | trace_state
theorem vhRA3 : VHolds (vRA 3 r a v w) := by
  refine VHolds.pr (vRA3_eq ..) ?_
  (repeat' first | with_reducible exact V.okI | with_reducible refine V.brT ?_ | with_reducible refine V.brF ?_ | with_reducible refine V.brI ?_ ?_ | with_reducible refine V.anyI ?_ | with_reducible refine nN_h rfl ?_ | with_reducible refine V.needI ?_ ?_ | with_reducible intro _)
  all_goals (simp only [decide_eq_true_eq, decide_eq_false_iff_not, Int.ofNat_eq_natCast, Bool.not_eq_true', Bool.not_eq_false', ge_iff_le, gt_iff_lt, Bool.and_eq_true, Bool.or_eq_true, Bool.not_eq_true, Bool.and_eq_false_iff] at *)
  all_goals first | omega | (have hb : inb r.len a = false := inb_f (by omega); simp [Mm.val, Mm.acc, Mm.hit, casV, raM, raB, hb]; done) | (have hb : inb r.len a = true := inb_t (by omega) (by omega); simp_all [Mm.val, Mm.acc, Mm.hit, casV, raM, raB, hb]; done) | trace_state
theorem vhRA4 : VHolds (vRA 4 r a v w) := by
  refine VHolds.pr (vRA4_eq ..) ?_
  (repeat' first | with_reducible exact V.okI | with_reducible refine V.brT ?_ | with_reducible refine V.brF ?_ | with_reducible refine V.brI ?_ ?_ | with_reducible refine V.anyI ?_ | with_reducible refine nN_h rfl ?_ | with_reducible refine V.needI ?_ ?_ | with_reducible intro _)
  all_goals (simp only [decide_eq_true_eq, decide_eq_false_iff_not, Int.ofNat_eq_natCast, Bool.not_eq_true', Bool.not_eq_false', ge_iff_le, gt_iff_lt, Bool.and_eq_true, Bool.or_eq_true, Bool.not_eq_true, Bool.and_eq_false_iff] at *)
  all_goals first | omega | (have hb : inb r.len a = false := inb_f (by omega); simp [Mm.val, Mm.acc, raM, raB, hb]; done) | (have hb : inb r.len a = true := inb_t (by omega) (by omega); simp [Mm.val, Mm.acc, raM, raB, hb]; done) | trace_state
theorem vhRA5 : VHolds (vRA 5 r a v w) := by
  refine VHolds.pr (vRA5_eq ..) ?_
  (repeat' first | with_reducible exact V.okI | with_reducible refine V.brT ?_ | with_reducible refine V.brF ?_ | with_reducible refine V.brI ?_ ?_ | with_reducible refine V.anyI ?_ | with_reducible refine nN_h rfl ?_ | with_reducible refine V.needI ?_ ?_ | with_reducible intro _)
  all_goals (simp only [decide_eq_true_eq, decide_eq_false_iff_not, Int.ofNat_eq_natCast, Bool.not_eq_true', Bool.not_eq_false', ge_iff_le, gt_iff_lt, Bool.and_eq_true, Bool.or_eq_true, Bool.not_eq_true, Bool.and_eq_false_iff] at *)
  all_goals first | omega | (have hb : inb r.len a = false := inb_f (by omega); simp [Mm.val, Mm.acc, raM, raB, hb]; done) | (have hb : inb r.len a = true := inb_t (by omega) (by omega); simp [Mm.val, Mm.acc, raM, raB, hb]; done) | trace_state
theorem vhRA6 : VHolds (vRA 6 r a v w) := by
  refine VHolds.pr (vRA6_eq ..) ?_
  (repeat' first | with_reducible exact V.okI | with_reducible refine V.brT ?_ | with_reducible refine V.brF ?_ | with_reducible refine V.brI ?_ ?_ | with_reducible refine V.anyI ?_ | with_reducible refine nN_h rfl ?_ | with_reducible refine V.needI ?_ ?_ | with_reducible intro _)
  all_goals (simp only [decide_eq_true_eq, decide_eq_false_iff_not, Int.ofNat_eq_natCast, Bool.not_eq_true', Bool.not_eq_false', ge_iff_le, gt_iff_lt, Bool.and_eq_true, Bool.or_eq_true, Bool.not_eq_true, Bool.and_eq_false_iff] at *)
  all_goals first | omega | (have hb : inb r.len a = false := inb_f (by omega); simp [Mm.val, Mm.acc, raM, raB, hb]; done) | (have hb : inb r.len a = true := inb_t (by omega) (by omega); simp [Mm.val, Mm.acc, raM, raB, hb]; done) | trace_state
end
theorem cI_0 {n : Nat} : (0 : Int) ≤ 0 ∧ (0 : Int) ≤ n := ⟨Int.le_refl _, Int.natCast_nonneg _⟩
theorem cI_s {n : Nat} {x : Int} (hn : n ≤ 1000000) (h : 0 ≤ x ∧ x ≤ n) (hx : x < n) : 0 ≤ IntKind.i64.wrap (x + 1) ∧ IntKind.i64.wrap (x + 1) ≤ n := by rw [w64 (by omega)]; omega
theorem cI_m {n : Nat} {x : Int} (hn : n ≤ 1000000) (h : 0 ≤ x ∧ x ≤ n) (hx : x < n) : n - (IntKind.i64.wrap (x + 1)).toNat < n - x.toNat := by rw [w64 (by omega)]; omega
theorem vhSw {n c d : Nat} {g : Nat → Int} (hn : n ≤ 1000000) : VHolds (vSw n c d g) := by
  refine VHolds.pr (vSw_eq ..) ?_
  (repeat' first | with_reducible exact V.okI | with_reducible refine V.brT ?_ | with_reducible refine V.brF ?_ | with_reducible refine V.brI ?_ ?_ | with_reducible refine V.anyI ?_ | with_reducible refine nN_h rfl ?_ | with_reducible refine V.needI ?_ ?_ | with_reducible intro _)
  all_goals try (simp only [decide_eq_true_eq, decide_eq_false_iff_not, Int.ofNat_eq_natCast, Bool.not_eq_true', Bool.not_eq_false', ge_iff_le, gt_iff_lt, Bool.and_eq_true, Bool.or_eq_true, Bool.not_eq_true, Bool.and_eq_false_iff] at *)
  all_goals first | omega | exact cI_0 | exact cI_s hn (by assumption) (by assumption) | exact cI_m hn (by assumption) (by assumption) | rfl | (simp; done) | trace_state
theorem vhS5 {n c d : Nat} {v : Evs} (hn : n ≤ 1000000) : VHolds (vS5 n c d v) := by
  refine VHolds.pr (vS5_eq ..) ?_
  (repeat' first | with_reducible exact V.okI | with_reducible refine V.brT ?_ | with_reducible refine V.brF ?_ | with_reducible refine V.brI ?_ ?_ | with_reducible refine V.anyI ?_ | with_reducible refine nN_h rfl ?_ | with_reducible refine V.needI ?_ ?_ | with_reducible intro _)
  all_goals try (simp only [decide_eq_true_eq, decide_eq_false_iff_not, Int.ofNat_eq_natCast, Bool.not_eq_true', Bool.not_eq_false', ge_iff_le, gt_iff_lt, Bool.and_eq_true, Bool.or_eq_true, Bool.not_eq_true, Bool.and_eq_false_iff] at *)
  all_goals first | omega | exact cI_0 | exact cI_s hn (by assumption) (by assumption) | exact cI_m hn (by assumption) (by assumption) | rfl | (simp; done) | trace_state
theorem vhIn {i n c d : Nat} {G : Nat → Nat → Int} (hn : n ≤ 1000000) : VHolds (vIn i n c d G) := by
  refine VHolds.pr (vIn_eq ..) ?_
  (repeat' first | with_reducible exact V.okI | with_reducible refine V.brT ?_ | with_reducible refine V.brF ?_ | with_reducible refine V.brI ?_ ?_ | with_reducible refine V.anyI ?_ | with_reducible refine nN_h rfl ?_ | with_reducible refine V.needI ?_ ?_ | with_reducible intro _)
  all_goals try (simp only [decide_eq_true_eq, decide_eq_false_iff_not, Int.ofNat_eq_natCast, Bool.not_eq_true', Bool.not_eq_false', ge_iff_le, gt_iff_lt, Bool.and_eq_true, Bool.or_eq_true, Bool.not_eq_true, Bool.and_eq_false_iff] at *)
  all_goals first | omega | exact cI_0 | exact cI_s hn (by assumption) (by assumption) | exact cI_m hn (by assumption) (by assumption) | rfl | (simp; done) | (refine ⟨by omega, ?_⟩; unfold onI; rw [if_pos rfl]; omega) | trace_state
noncomputable section
def numsC : List SC → Option (List Int)
  | [] => some []
  | c :: l => match numC c, numsC l with
    | some x, some xs => some (x :: xs)
    | _, _ => none
def rdRv (k : Nat) (h : HL) : Option (Rv × List Nat) := match find k h with
  | some b => match cellsB b with
    | [some x0, some x1, some x2, some x3, some x4, some x5, some x6, some x7, some x8, some (.slc kP _ _ _ nP rP), some (.slc kU _ _ _ nU cU), some (.slc kc _ _ _ n cap), some y0, some y1, some y2, some y3, some y4, some y5, some y6, some (.slc kr _ _ _ rn rc), some (.slc ke _ _ _ ne nc)] =>
      match numsC [x0, x1, x2, x3, x4, x5, x6, x7, x8, y0, y1, y2, y3, y4, y5, y6] with
      | some [W, L, C, T, D, H, B, A, Q, lk, lc, lo, ln, ct, now, dr] => match (find kc h).map colsB with
        | some [col] => match colG col with
          | some g => some (⟨⟨W, L, C, T, D, H, B, A, Q, nP.v, rP.v, nU.v, cU.v, fun _ => 0, fun _ => 0, fun _ _ => 0, fun _ _ => 0, fun _ _ => 0, fun _ => 0, fun _ => 0, fun _ => 0⟩, n.v, cap.v, ⟨fun e => g e, lk, lc, lo, ln, ct⟩, now, dr, rn.v, rc.v, ne.v, nc.v⟩, [k, kc, kP, kU, kr, ke])
          | none => none
        | _ => none
      | _ => none
    | _ => none
  | none => none
def outRA (r : Rv) (a : Int) (M : Mm) (b : Bool) : Out (SV × Hp) := .any Mm (fun m' => m' = M) fun m' => .leaf (.t [.c (uw (r.m.val r.len a)), .c (.bv b)], ⟨(r.W m').h2, 6, fun _ => True⟩)
theorem name_RA {kd : Nat} {r : Rv} {a v w : Int} (h : VHolds (vRA kd r a v w)) : LocalOK P fRA (argRA kd a v w) r.h 6 (outRA r a (raM kd r.m r.len a v w) (raB kd r.m r.len a v)) :=
  (local_of_ver0 (pre := True) ConOK.nil fun _ => h).mono fun K hK => ⟨trivial, hK.2 _ rfl⟩
theorem nRA1 {r : Rv} {a v w : Int} : LocalOK P fRA (argRA 1 a v w) r.h 6 (outRA r a (r.m.acc r.len 1 a (r.m.val r.len a)) (inb r.len a)) := name_RA vhRA1
theorem nRA2 {r : Rv} {a v w : Int} : LocalOK P fRA (argRA 2 a v w) r.h 6 (outRA r a (r.m.acc r.len 2 a v) (inb r.len a)) := name_RA vhRA2
theorem nRA3 {r : Rv} {a v w : Int} : LocalOK P fRA (argRA 3 a v w) r.h 6 (outRA r a (r.m.acc r.len 3 a (casV (r.m.hit r.len a v) (r.m.val r.len a) w)) (r.m.hit r.len a v)) := name_RA vhRA3
theorem nRA4 {r : Rv} {a v w : Int} : LocalOK P fRA (argRA 4 a v w) r.h 6 (outRA r a (r.m.acc r.len 4 a (bits .or .u64 (r.m.val r.len a) v)) (inb r.len a)) := name_RA vhRA4
theorem nRA5 {r : Rv} {a v w : Int} : LocalOK P fRA (argRA 5 a v w) r.h 6 (outRA r a (r.m.acc r.len 5 a (bits .and .u64 (r.m.val r.len a) v)) (inb r.len a)) := name_RA vhRA5
theorem nRA6 {r : Rv} {a v w : Int} : LocalOK P fRA (argRA 6 a v w) r.h 6 (outRA r a (r.m.acc r.len 6 a (IntKind.u64.wrap (r.m.val r.len a + v))) (inb r.len a)) := name_RA vhRA6
def cRA : List SV → Hp → Out (SV × Hp) := fun args H => match args with
  | [.c (.ptr k _ _ f _), .c (.ki _ kd), .c ca, .c cv, .c cw] => fN k fun k => match rdRv k H.h, numsC [ca, cv, cw] with
    | some (r, σ), some [a, v, w] => match kd.toNat with
      | 1 => useP σ 6 (argRA 1 a v w) r.h (outRA r a (r.m.acc r.len 1 a (r.m.val r.len a)) (inb r.len a)) args H
      | 2 => useP σ 6 (argRA 2 a v w) r.h (outRA r a (r.m.acc r.len 2 a v) (inb r.len a)) args H
      | 3 => useP σ 6 (argRA 3 a v w) r.h (outRA r a (r.m.acc r.len 3 a (casV (r.m.hit r.len a v) (r.m.val r.len a) w)) (r.m.hit r.len a v)) args H
      | 4 => useP σ 6 (argRA 4 a v w) r.h (outRA r a (r.m.acc r.len 4 a (bits .or .u64 (r.m.val r.len a) v)) (inb r.len a)) args H
      | 5 => useP σ 6 (argRA 5 a v w) r.h (outRA r a (r.m.acc r.len 5 a (bits .and .u64 (r.m.val r.len a) v)) (inb r.len a)) args H
      | 6 => useP σ 6 (argRA 6 a v w) r.h (outRA r a (r.m.acc r.len 6 a (IntKind.u64.wrap (r.m.val r.len a + v))) (inb r.len a)) args H
      | _ => .bad 482
    | _, _ => .bad 480
  | _ => .bad 481
theorem cRA_ok : ContractOK P fRA cRA := contract_of_useP fun args H => by
  unfold cRA
  simp only [fN_eq]
  repeat' split
  all_goals first
    | exact .inl ⟨_, rfl⟩
    | with_reducible exact .inr ⟨_, _, _, _, _, rfl, nRA1⟩
    | with_reducible exact .inr ⟨_, _, _, _, _, rfl, nRA2⟩
    | with_reducible exact .inr ⟨_, _, _, _, _, rfl, nRA3⟩
    | with_reducible exact .inr ⟨_, _, _, _, _, rfl, nRA4⟩
    | with_reducible exact .inr ⟨_, _, _, _, _, rfl, nRA5⟩
    | with_reducible exact .inr ⟨_, _, _, _, _, rfl, nRA6⟩
def yesO (n : Nat) (p : Prop) : Out (SV × Hp) := .need p (.leaf (.c (.kb true), ⟨[], n, fun _ => True⟩))
def rowW (k : Nat) (h : HL) : Option (Nat → Int) := match (find k h).map colsB with
  | some [col] => colG col
  | _ => none
def cSw : List SV → Hp → Out (SV × Hp) := fun args H => match args with
  | [.c (.slc k _ _ _ n cap), .c (.slc k2 _ _ _ n2 cap2)] => fN k fun k => fN k2 fun k2 => match rowW k H.h with
    | some g => useP [k, k2] 2 [.c (slK 0 1 n.v cap.v), .c (slK 1 1 n.v cap2.v)] [(0, wV n.v g), (1, wV n.v g)] (yesO 2 (n.v ≤ 1000000)) args H
    | none => .bad 480
  | _ => .bad 481
theorem cSw_ok : ContractOK P fSw cSw := contract_of_useP fun args H => by
  unfold cSw
  simp only [fN_eq]
  repeat' split
  all_goals first | exact .inl ⟨_, rfl⟩ | exact .inr ⟨_, _, _, _, _, rfl, local_of_ver0 ConOK.nil fun h => vhSw h⟩
def cS5 : List SV → Hp → Out (SV × Hp) := fun args H => match args with
  | [.c (.slc k _ _ _ n cap), .c (.slc k2 _ _ _ n2 cap2)] => fN k fun k => fN k2 fun k2 => match rdEv k H.h with
    | some v => useP [k, k2] 2 [.c (slK 0 5 n.v cap.v), .c (slK 1 5 n.v cap2.v)] [(0, eV n.v v), (1, eV n.v v)] (yesO 2 (n.v ≤ 1000000)) args H
    | none => .bad 480
  | _ => .bad 481
theorem cS5_ok : ContractOK P fS5 cS5 := contract_of_useP fun args H => by
  unfold cS5
  simp only [fN_eq]
  repeat' split
  all_goals first | exact .inl ⟨_, rfl⟩ | exact .inr ⟨_, _, _, _, _, rfl, local_of_ver0 ConOK.nil fun h => vhS5 h⟩
def famK (k : Nat) (h : HL) : Option (Nat → Nat → Int) := match find k h with
  | some (.fam _ _ _ _ [.ci _ G]) => some fun i e => G i e
  | some (.view _ _ [.ci _ G]) => some fun i e => G i e
  | _ => none
def cIn : List SV → Hp → Out (SV × Hp) := fun args H => match args with
  | [.c (.slc k i _ _ n cap), .c (.slc k2 i2 _ _ n2 cap2)] => fN k fun k => fN k2 fun k2 => match famK k H.h with
    | some G => useP [k, k2] 2 [.c (slI 0 i.v n.v cap.v), .c (slI 1 i.v n.v cap2.v)] [(0, kV i.v n.v G), (1, kV i.v n.v G)] (yesO 2 (n.v ≤ 1000000)) args H
    | none => .bad 480
  | _ => .bad 481
theorem cIn_ok : ContractOK P fIn cIn := contract_of_useP fun args H => by
  unfold cIn
  simp only [fN_eq]
  repeat' split
  all_goals first | exact .inl ⟨_, rfl⟩ | exact .inr ⟨_, _, _, _, _, rfl, local_of_ver0 ConOK.nil fun h => vhIn h⟩
end
end Go.Proofs.YtbidbhfjnfgblaaGreat.En

/- Records compared; two environments compared: what is asked. -/
set_option maxRecDepth 100000
namespace Go.Proofs.YtbidbhfjnfgblaaGreat.En
open Go Go.RowKit Sx Cn Dc Ck Vc Md
structure Rk where
  n : Nat
  p : Nat → Int
  pa : Nat → Int
  pc : Nat → Int
  lf : Nat → Int
  wt : Nat → Int
  kl : Nat → Nat
  kd : Nat → Nat → Int
  st : Nat → Bool
def okRk (x : Rk) : Prop := x.n ≤ 1000000 ∧ ∀ e, x.kl e ≤ 1000000
noncomputable section
def Rk.cols (x : Rk) (kf : Nat) (kc : Nat → Nat) : List Col := [.ci .i64 fun _ e => x.p e, .ci .i64 fun _ e => x.pa e, .ci .i64 fun _ e => x.pc e, .ci .i64 fun _ e => x.lf e, .ci .i64 fun _ e => x.wt e, .cs kf 1 (fun _ e => e) (fun _ e => x.kl e) (fun _ e => kc e), .cb fun _ e => x.st e]
def Rk.row (x : Rk) (kf : Nat) (kc : Nat → Nat) (cap : Nat) : Blk := .row 116 cap x.n (x.cols kf kc)
def upto (n : Nat) (f : Nat → Nat) (i : Nat) : Nat := if i < n then f i else 0
def Rk.fam (x : Rk) (n : Nat) (kc : Nat → Nat) : Blk := .fam true 3 (fun i => kc i) (fun i => upto n x.kl i) [.ci .i64 fun i e => x.kd i e]
def Rk.rowN (x : Rk) (n : Nat) (kf : Nat) (kc : Nat → Nat) (cap : Nat) : Blk := .row 116 cap n (x.cols kf kc)
def Rk.rowV (x : Rk) (kf : Nat) (kc : Nat → Nat) : Blk := .view 1 (fun _ => x.n) (x.cols kf kc)
def Rk.famV (x : Rk) : Blk := .view x.n (fun i => x.kl i) [.ci .i64 fun i e => x.kd i e]
def fSr : FuncId := 64
def conSr : Con := Con.add fIn cIn con0
def vSr (x : Rk) (c d : Nat) (kc kd : Nat → Nat) : V := verF P conSr 3 4 fSr [] (.loop Int [] (fun _ => some (cI 5 x.n)) .nil .nil) [.c (slK 0 7 x.n c), .c (slK 1 7 x.n d)] ⟨[(0, x.rowV 2 kc), (1, x.rowV 3 kd), (2, x.famV), (3, x.famV)], 4, fun _ => True⟩ (yesF 4)
def fCl : FuncId := 63
def vCl (n cap : Nat) (g : Nat → Int) : V := verF P con0 3 3 fCl [(1000000, .nilTmpO 2 46 1 [.ci .u64 fun _ e => g e])] .nil [.c (slK 0 1 n cap)] ⟨[(0, .view 1 (fun _ => n) [.ci .u64 fun _ e => g e])], 1, fun _ => True⟩
  (finV (X := Nat) 1 2 (fun s H => match s with | .c (.slc _ _ _ _ _ c) => some c.v | _ => none) (fun s _ => [match s with | .c x => Sx.keyOf x | _ => 0]) (fun c => n ≤ c) (fun c => .c (slK 1 1 n c)) (fun c => [(1, .row 46 c n [.ci .u64 fun _ e => g e])]))
def fCp : FuncId := 26
def kfR (s : St) : Nat := match rowCols (tmK 3 s) s.H.h with
  | [_, _, _, _, _, .cs f _ _ _ _, _] => f
  | _ => 0
def capsK (k : Nat) (h : HL) : Option (Nat → Nat) := match find k h with
  | some (.fam _ _ cp _ _) => some fun i => cp i
  | _ => none
def capK (k : Nat) (h : HL) : Option Nat := match find k h with
  | some (.row _ c _ _) => some c
  | _ => none
def laCp (x : Rk) (s : St) : Option (LA (Int × Nat × (Nat → Nat))) := fN (tmK 3 s) fun k3 => fN (kfR s) fun kf => some ⟨[(tmK 3, false), (kfR, false)],
  fun q => [x.rowN q.1.toNat kf q.2.2 q.2.1, x.fam q.1.toNat q.2.2], [4, 3], fun q => [.c (i6 q.1), .c (slK k3 7 q.1.toNat q.2.1)],
  fun s => match tmI 4 s, capK (tmK 3 s) s.H.h, capsK (kfR s) s.H.h with | some i, some c, some f => some (i, c, f) | _, _, _ => none,
  fun q => 0 ≤ q.1 ∧ q.1 ≤ x.n ∧ q.1.toNat ≤ q.2.1 ∧ ∀ e, e < q.1.toNat → x.kl e ≤ q.2.2 e, fun q => x.n - q.1.toNat⟩
def vCp (x : Rk) (c : Nat) (kc : Nat → Nat) : V := verF P con0 3 4 fCp [(4, .join (tmK 3) 5)] (.loop (Int × Nat × (Nat → Nat)) [.newFam 3 [.ci .i64 fun i e => x.kd i e], .nilTmp 3 116 7 (x.cols 2 fun _ => 0)] (laCp x) .nil .nil) [.c (slK 0 7 x.n c)] ⟨[(0, x.rowV 1 kc), (1, x.famV)], 2, fun _ => True⟩
  (finV (X := Nat × (Nat → Nat)) 2 4 (fun s H => match s with
    | .c (.slc k _ _ _ _ c) => fN k fun k => (capsK (match rowCols k H.h with | [_, _, _, _, _, .cs f _ _ _ _, _] => f | _ => 0) H.h).map fun f => (c.v, f)
    | _ => none) (fun s H => match s with
    | .c (.slc k _ _ _ _ _) => [match rowCols k H.h with | [_, _, _, _, _, .cs f _ _ _ _, _] => f | _ => 0, k]
    | _ => []) (fun q => x.n ≤ q.1 ∧ ∀ e, e < x.n → x.kl e ≤ q.2 e) (fun q => .c (slK 3 7 x.n q.1)) (fun q => [(2, x.fam x.n q.2), (3, x.row 2 q.2 q.1)]))
end
end Go.Proofs.YtbidbhfjnfgblaaGreat.En

/- Records compared, copied: the conditions, printed by program. -/
set_option maxRecDepth 100000
namespace Go.Proofs.YtbidbhfjnfgblaaGreat.En
open Go Go.RowKit Sx Cn Dc Ck Vc Md

theorem vSr_eq (x : Rk) (c d : Nat) (kc kd : Nat → Nat) : V.pr (.f (.b (.f (.f (.f (.f (.f (.f .z)))))) .z)) (vSr x c d kc kd) =
  V.need (((↑x.n : Int) != (↑x.n : Int)) = false)
    (V.need (Int.ofNat 0 ≤ Int.ofNat 0 ∧ Int.ofNat 0 ≤ (↑x.n : Int))
    (nN [(1, .eqI 0 0)]
    (V.any Int (fun (x_1 : Int) => Int.ofNat 0 ≤ x_1 ∧ x_1 ≤ (↑x.n : Int)) fun (x_1 : Int) => V.br (decide (x_1 < (↑x.n : Int)))
    (V.need (Int.ofNat 0 ≤ x_1 ∧ x_1 < (↑x.n : Int))
    (V.need (0 < 1 ∧ 0 + x_1.toNat < x.n)
    (V.need (0 < 1 ∧ 0 + x_1.toNat < x.n)
    (V.need (0 < 1 ∧ 0 + x_1.toNat < x.n)
    (V.need (0 < 1 ∧ 0 + x_1.toNat < x.n)
    (V.need (0 < 1 ∧ 0 + x_1.toNat < x.n)
    (V.need (0 < 1 ∧ 0 + x_1.toNat < x.n)
    (V.need (0 < 1 ∧ 0 + x_1.toNat < x.n)
    (V.need (0 < 1 ∧ 0 + x_1.toNat < x.n)
    (V.need (Int.ofNat 0 ≤ x_1 ∧ x_1 < (↑x.n : Int))
    (V.need (0 < 1 ∧ 0 + x_1.toNat < x.n)
    (V.need (0 < 1 ∧ 0 + x_1.toNat < x.n)
    (V.need (0 < 1 ∧ 0 + x_1.toNat < x.n)
    (V.need (0 < 1 ∧ 0 + x_1.toNat < x.n)
    (V.need (0 < 1 ∧ 0 + x_1.toNat < x.n)
    (V.need (0 < 1 ∧ 0 + x_1.toNat < x.n)
    (V.need (0 < 1 ∧ 0 + x_1.toNat < x.n)
    (V.need (0 < 1 ∧ 0 + x_1.toNat < x.n)
    (V.need ((x.p (0 + x_1.toNat) != x.p (0 + x_1.toNat)) = false)
    (V.need ((x.pa (0 + x_1.toNat) != x.pa (0 + x_1.toNat)) = false)
    (V.need ((x.pc (0 + x_1.toNat) != x.pc (0 + x_1.toNat)) = false)
    (V.need ((x.lf (0 + x_1.toNat) != x.lf (0 + x_1.toNat)) = false)
    (V.need ((x.wt (0 + x_1.toNat) != x.wt (0 + x_1.toNat)) = false)
    (V.need ((!x.st (0 + x_1.toNat) == x.st (0 + x_1.toNat)) = false)
    (nN [qE (0 + x_1.toNat), qE (x.kl (0 + x_1.toNat)), qE (kc (0 + x_1.toNat)), qE (0 + x_1.toNat), qE (x.kl (0 + x_1.toNat)), qE (kd (0 + x_1.toNat))]
    (V.need (0 + x_1.toNat + 1 ≤ x.n)
    (V.need (∀ (i : Nat), i < 0 + x_1.toNat + 1 → onI (0 + x_1.toNat) (x.kl (0 + x_1.toNat)) i ≤ x.kl i)
    (nN [(1, .pf (∀ (i e : Nat), i < 0 + x_1.toNat + 1 ∧ e < onI (0 + x_1.toNat) (x.kl (0 + x_1.toNat)) i → x.kd i e = x.kd i e) (by intros; rfl))]
    (V.need (0 + x_1.toNat + 1 ≤ x.n)
    (V.need (∀ (i : Nat), i < 0 + x_1.toNat + 1 → onI (0 + x_1.toNat) (x.kl (0 + x_1.toNat)) i ≤ x.kl i)
    (nN [(1, .pf (∀ (i e : Nat), i < 0 + x_1.toNat + 1 ∧ e < onI (0 + x_1.toNat) (x.kl (0 + x_1.toNat)) i → x.kd i e = x.kd i e) (by intros; rfl))]
    (V.need (x.kl (0 + x_1.toNat) ≤ 1000000)
    (V.need (Int.ofNat 0 ≤ IntKind.i64.wrap (x_1 + Int.ofNat 1) ∧ IntKind.i64.wrap (x_1 + Int.ofNat 1) ≤ (↑x.n : Int))
    (V.need (x.n - (IntKind.i64.wrap (x_1 + Int.ofNat 1)).toNat < x.n - x_1.toNat)
    (nN [qE (IntKind.i64.wrap (x_1 + Int.ofNat 1))] V.ok)))))))))))))))))))))))))))))))))))
    (V.need True V.ok)))) := by kernel_rfl

theorem vCl_eq (n cap : Nat) (g : Nat → Int) : V.pr .z (vCl n cap g) =
  V.need (∃ (x : Bool), x = true → ¬(0 < 1 ∧ 0 < n))
    (V.any Bool (fun (b : Bool) => b = true → ¬(0 < 1 ∧ 0 < n)) fun (x : Bool) => V.br x
    (V.need (n ≤ 0)
    (V.need (0 = n)
    (nN [(2, .eq 0 0)]
    (V.need (n ≤ 0)
    (nN [qF n g] V.ok)))))
    (V.need (0 + n ≤ n)
    (nN [(1, .eq 0 0)]
    (V.need (0 + n ≤ 9223372036854775807 ∧ (0 + n) * 8 ≤ 140737488355328)
    (V.any Nat (fun (x : Nat) => 0 + n ≤ x) fun (x : Nat) => V.need (n ≤ x)
    (V.need (0 + n = n)
    (nN [qE x, qE x]
    (V.need (n ≤ 0 + n)
    (V.need (∀ (e : Nat), e < n → g (0 + e) = g e) V.ok))))))))) := by kernel_rfl

theorem vCp_eq (x : Rk) (c : Nat) (kc : Nat → Nat) : V.pr .z (vCp x c kc) =
  V.need (Int.ofNat 0 ≤ Int.ofNat 0 ∧ Int.ofNat 0 ≤ (↑x.n : Int) ∧ 0 ≤ 0 ∧ ∀ (e : Nat), e < 0 → x.kl e ≤ 0)
    (nN [(1, .eqI 0 0), (3, .eq 0 0), (1, .le 0 0), qF 0 x.p, qF 0 x.pa, qF 0 x.pc, qF 0 x.lf, qF 0 x.wt, qF 0 (fun (e : Nat) => e), qF 0 x.kl, qF 0 (fun (e : Nat) => 0), qF 0 x.st]
    (V.need (∀ (i : Nat), 0 = 0 ∨ 0 = 0)
    (V.need (∀ (i : Nat), upto 0 x.kl i ≤ 0 ∧ upto 0 x.kl i ≤ 0)
    (nN [(1, .pf (∀ (i e : Nat), e < upto 0 x.kl i → x.kd i e = x.kd i e) (by intros; rfl))]
    (V.any (Int × Nat × (Nat → Nat)) (fun (q : Int × Nat × (Nat → Nat)) => Int.ofNat 0 ≤ q.fst ∧ q.fst ≤ (↑x.n : Int) ∧ q.fst.toNat ≤ q.snd.fst ∧ ∀ (e : Nat), e < q.fst.toNat → x.kl e ≤ q.snd.snd e) fun (x_1 : Int × Nat × (Nat → Nat)) => V.br (decide (x_1.fst < (↑x.n : Int)))
    (V.need (Int.ofNat 0 ≤ x_1.fst ∧ x_1.fst < (↑x.n : Int))
    (V.need (0 < 1 ∧ 0 + x_1.fst.toNat < x.n)
    (V.need (0 < 1 ∧ 0 + x_1.fst.toNat < x.n)
    (V.need (0 < 1 ∧ 0 + x_1.fst.toNat < x.n)
    (V.need (0 < 1 ∧ 0 + x_1.fst.toNat < x.n)
    (V.need (0 < 1 ∧ 0 + x_1.fst.toNat < x.n)
    (V.need (0 < 1 ∧ 0 + x_1.fst.toNat < x.n)
    (V.need (0 < 1 ∧ 0 + x_1.fst.toNat < x.n)
    (V.need (0 < 1 ∧ 0 + x_1.fst.toNat < x.n)
    (V.need (0 + x.kl (0 + x_1.fst.toNat) ≤ if 0 + x_1.fst.toNat < x.n then x.kl (0 + x_1.fst.toNat) else 0)
    (nN [(1, .eq 0 0)]
    (V.need (0 + x.kl (0 + x_1.fst.toNat) ≤ 9223372036854775807 ∧ (0 + x.kl (0 + x_1.fst.toNat)) * 8 ≤ 140737488355328)
    (V.any Nat (fun (x_2 : Nat) => 0 + x.kl (0 + x_1.fst.toNat) ≤ x_2) fun (x_2 : Nat) => nN [(7, .lt 0 1)]
    (V.need (x_1.fst.toNat ≤ x_1.fst.toNat ∧ x_1.snd.fst = x_1.snd.fst)
    (V.need (x_1.fst.toNat + 1 ≤ 9223372036854775807 ∧ (x_1.fst.toNat + 1) * 72 ≤ 140737488355328)
    (V.any Nat (fun (x : Nat) => x_1.fst.toNat + 1 ≤ x) fun (x_3 : Nat) => V.need (True ∧ ∀ (i e : Nat), i = 0 ∧ e < x_1.fst.toNat + 1 → ¬(i = 0 ∧ e = x_1.fst.toNat) → e ≠ x_1.fst.toNat)
    (V.need (Int.ofNat 0 ≤ IntKind.i64.wrap (x_1.fst + Int.ofNat 1) ∧ IntKind.i64.wrap (x_1.fst + Int.ofNat 1) ≤ (↑x.n : Int) ∧ (IntKind.i64.wrap (x_1.fst + Int.ofNat 1)).toNat ≤ x_3 ∧ ∀ (e : Nat), e < (IntKind.i64.wrap (x_1.fst + Int.ofNat 1)).toNat → x.kl e ≤ if e = x_1.fst.toNat then x_2 else x_1.snd.snd e)
    (V.need (x.n - (IntKind.i64.wrap (x_1.fst + Int.ofNat 1)).toNat < x.n - x_1.fst.toNat)
    (nN [qE (IntKind.i64.wrap (x_1.fst + Int.ofNat 1))]
    (V.need (x_1.fst.toNat + 1 = (IntKind.i64.wrap (x_1.fst + Int.ofNat 1)).toNat)
    (nN [qE x_3, qE x_3]
    (V.need ((IntKind.i64.wrap (x_1.fst + Int.ofNat 1)).toNat ≤ x_1.fst.toNat + 1)
    (V.need (∀ (e : Nat), e < (IntKind.i64.wrap (x_1.fst + Int.ofNat 1)).toNat → (if 0 = 0 ∧ e = x_1.fst.toNat then x.p (0 + x_1.fst.toNat) else x.p e) = x.p e)
    (V.need (∀ (e : Nat), e < (IntKind.i64.wrap (x_1.fst + Int.ofNat 1)).toNat → (if 0 = 0 ∧ e = x_1.fst.toNat then x.pa (0 + x_1.fst.toNat) else x.pa e) = x.pa e)
    (V.need (∀ (e : Nat), e < (IntKind.i64.wrap (x_1.fst + Int.ofNat 1)).toNat → (if 0 = 0 ∧ e = x_1.fst.toNat then x.pc (0 + x_1.fst.toNat) else x.pc e) = x.pc e)
    (V.need (∀ (e : Nat), e < (IntKind.i64.wrap (x_1.fst + Int.ofNat 1)).toNat → (if 0 = 0 ∧ e = x_1.fst.toNat then x.lf (0 + x_1.fst.toNat) else x.lf e) = x.lf e)
    (V.need (∀ (e : Nat), e < (IntKind.i64.wrap (x_1.fst + Int.ofNat 1)).toNat → (if 0 = 0 ∧ e = x_1.fst.toNat then x.wt (0 + x_1.fst.toNat) else x.wt e) = x.wt e)
    (nN [(1, .pf (∀ (e : Nat), e < (IntKind.i64.wrap (x_1.fst + Int.ofNat 1)).toNat → e = e) (by intros; rfl))]
    (V.need (∀ (e : Nat), e < (IntKind.i64.wrap (x_1.fst + Int.ofNat 1)).toNat → (if 0 = 0 ∧ e = x_1.fst.toNat then 0 + x.kl (0 + x_1.fst.toNat) else x.kl e) = x.kl e)
    (V.need (∀ (e : Nat), e < (IntKind.i64.wrap (x_1.fst + Int.ofNat 1)).toNat → (if 0 = 0 ∧ e = x_1.fst.toNat then x_2 else x_1.snd.snd e) = if e = x_1.fst.toNat then x_2 else x_1.snd.snd e)
    (V.need (∀ (e : Nat), e < (IntKind.i64.wrap (x_1.fst + Int.ofNat 1)).toNat → (if 0 = 0 ∧ e = x_1.fst.toNat then x.st (0 + x_1.fst.toNat) else x.st e) = x.st e)
    (V.need (∀ (i : Nat), ((if i = x_1.fst.toNat then x_2 else x_1.snd.snd i) = if i = x_1.fst.toNat then x_2 else x_1.snd.snd i) ∨ (if i = x_1.fst.toNat then x_2 else x_1.snd.snd i) = 0)
    (V.need (∀ (i : Nat), (upto (IntKind.i64.wrap (x_1.fst + Int.ofNat 1)).toNat x.kl i ≤ if i = x_1.fst.toNat then x_2 else x_1.snd.snd i) ∧ upto (IntKind.i64.wrap (x_1.fst + Int.ofNat 1)).toNat x.kl i ≤ if i = x_1.fst.toNat then 0 + x.kl (0 + x_1.fst.toNat) else upto x_1.fst.toNat x.kl i)
    (V.need (∀ (i e : Nat), e < upto (IntKind.i64.wrap (x_1.fst + Int.ofNat 1)).toNat x.kl i → (if i = x_1.fst.toNat then x.kd (0 + x_1.fst.toNat) (0 + e) else x.kd i e) = x.kd i e) V.ok))))))))))))))))))))))))))))))))))
    (V.need (x.n ≤ x_1.snd.fst ∧ ∀ (e : Nat), e < x.n → x.kl e ≤ x_1.snd.snd e)
    (V.need (x_1.fst.toNat = x.n)
    (nN [qE x_1.snd.fst]
    (V.need (∀ (i : Nat), x_1.snd.snd i = x_1.snd.snd i ∨ x_1.snd.snd i = 0)
    (V.need (∀ (i : Nat), upto x.n x.kl i ≤ x_1.snd.snd i ∧ upto x.n x.kl i ≤ upto x_1.fst.toNat x.kl i)
    (nN [(1, .pf (∀ (i e : Nat), e < upto x.n x.kl i → x.kd i e = x.kd i e) (by intros; rfl)), qE x_1.snd.fst]
    (V.need (x.n ≤ x_1.fst.toNat)
    (nN [qF x.n x.p, qF x.n x.pa, qF x.n x.pc, qF x.n x.lf, qF x.n x.wt, qF x.n (fun (e : Nat) => e), qF x.n x.kl, qF x.n x_1.snd.snd, qF x.n x.st] V.ok))))))))))))) := by kernel_rfl


end Go.Proofs.YtbidbhfjnfgblaaGreat.En

/- Records compared, copied; words cloned: the contracts. -/
set_option maxRecDepth 100000
namespace Go.Proofs.YtbidbhfjnfgblaaGreat.En
open Go Go.RowKit Sx Cn Dc Ck Vc Md
theorem on_le {i : Nat} {f : Nat → Nat} (j : Nat) : onI i (f i) j ≤ f j := by
  unfold onI
  split
  · rename_i e; rw [e]; exact Nat.le_refl _
  · exact Nat.zero_le _
theorem vhSr {x : Rk} {c d : Nat} {kc kd : Nat → Nat} (h : okRk x) : VHolds (vSr x c d kc kd) := by
  have hn := h.1
  refine VHolds.pr (vSr_eq ..) ?_
  (repeat' first | with_reducible exact V.okI | with_reducible refine V.brT ?_ | with_reducible refine V.brF ?_ | with_reducible refine V.brI ?_ ?_ | with_reducible refine V.anyI ?_ | with_reducible refine nN_h rfl ?_ | with_reducible refine V.needI ?_ ?_ | with_reducible intro _)
  all_goals try (simp only [decide_eq_true_eq, decide_eq_false_iff_not, Int.ofNat_eq_natCast, Bool.not_eq_true', Bool.not_eq_false', ge_iff_le, gt_iff_lt, Bool.and_eq_true, Bool.or_eq_true, Bool.not_eq_true, Bool.and_eq_false_iff] at *)
  all_goals first | omega | exact cI_0 | exact cI_s hn (by assumption) (by assumption) | exact cI_m hn (by assumption) (by assumption) | rfl | (simp; done) | exact h.2 _ | exact on_le _ | trace_state
theorem vhCl {n cap : Nat} {g : Nat → Int} (hn : n ≤ 1000000) : VHolds (vCl n cap g) := by
  refine VHolds.pr (vCl_eq ..) ?_
  refine V.needI ⟨false, fun h => by cases h⟩ (V.anyI fun b hb => V.brI (fun h => ?_) fun h => ?_)
  · have : n = 0 := by have := hb h; omega
    subst this
    (repeat' first | with_reducible exact V.okI | with_reducible refine V.brT ?_ | with_reducible refine V.brF ?_ | with_reducible refine V.brI ?_ ?_ | with_reducible refine V.anyI ?_ | with_reducible refine nN_h rfl ?_ | with_reducible refine V.needI ?_ ?_ | with_reducible intro _)
    all_goals first | omega | rfl
  · (repeat' first | with_reducible exact V.okI | with_reducible refine V.brT ?_ | with_reducible refine V.brF ?_ | with_reducible refine V.brI ?_ ?_ | with_reducible refine V.anyI ?_ | with_reducible refine nN_h rfl ?_ | with_reducible refine V.needI ?_ ?_ | with_reducible intro _)
    all_goals first | omega | (rw [Nat.zero_add]) | (intros; rw [Nat.zero_add])
theorem upto_le {n : Nat} {f g : Nat → Nat} (h : ∀ e, e < n → f e ≤ g e) (i : Nat) : upto n f i ≤ g i := by
  unfold upto
  split
  · exact h i (by assumption)
  · exact Nat.zero_le _
theorem vhCp {x : Rk} {c : Nat} {kc : Nat → Nat} (h : okRk x) : VHolds (vCp x c kc) := by
  have hn := h.1
  refine VHolds.pr (vCp_eq ..) ?_
  have u0 : ∀ i, upto 0 x.kl i ≤ 0 := fun i => by simp [upto]
  ((repeat' first | with_reducible refine nN_h rfl ?_ | with_reducible refine V.brT ?_ | with_reducible refine V.brF ?_ | with_reducible refine V.needI ?_ ?_) <;> (try first | with_reducible exact V.okI | exact rfl | exact ⟨Nat.le_refl _, rfl⟩ | exact Nat.le_refl _ | assumption | omega | trivial | decide | (intros; rfl) | (intros; trivial)))
  · exact ⟨Int.le_refl _, Int.natCast_nonneg _, Nat.le_refl _, fun e he => absurd he (Nat.not_lt_zero _)⟩
  · exact fun i => ⟨u0 i, u0 i⟩
  refine V.anyI fun q hq => ?_
  obtain ⟨i, c1, f⟩ := q
  dsimp only at hq ⊢
  obtain ⟨h0, h1, h2, h3⟩ := hq
  obtain ⟨i, rfl⟩ := Int.eq_ofNat_of_zero_le h0
  simp only [Int.ofNat_eq_natCast, Int.natCast_one, Int.natCast_zero, Int.toNat_natCast, Nat.zero_add, true_and, if_true] at h0 h1 h2 h3 ⊢
  refine V.brI (fun hi => ?_) fun hi => ?_
  · have hi : i < x.n := by have := of_decide_eq_true hi; omega
    have hk := h.2 i
    have ei : IntKind.i64.wrap ((i : Int) + 1) = ((i + 1 : Nat) : Int) := wnat (by omega)
    simp only [ei, Int.toNat_natCast]
    ((repeat' first | with_reducible refine nN_h rfl ?_ | with_reducible refine V.brT ?_ | with_reducible refine V.brF ?_ | with_reducible refine V.needI ?_ ?_) <;> (try first | with_reducible exact V.okI | exact rfl | exact ⟨Nat.le_refl _, rfl⟩ | exact Nat.le_refl _ | assumption | omega | trivial | decide | (intros; rfl) | (intros; trivial)))
    · rw [if_pos hi]; exact Nat.le_refl _
    refine V.anyI fun c2 hc2 => ?_
    ((repeat' first | with_reducible refine nN_h rfl ?_ | with_reducible refine V.brT ?_ | with_reducible refine V.brF ?_ | with_reducible refine V.needI ?_ ?_) <;> (try first | with_reducible exact V.okI | exact rfl | exact ⟨Nat.le_refl _, rfl⟩ | exact Nat.le_refl _ | assumption | omega | trivial | decide | (intros; rfl) | (intros; trivial)))
    · exact ⟨Nat.le_refl _, trivial⟩
    refine V.anyI fun c3 hc3 => ?_
    have hf : ∀ e, e < i + 1 → x.kl e ≤ if e = i then c2 else f e := fun e he => by
      split
      · rename_i e'; rw [e']; exact hc2
      · exact h3 e (by omega)
    ((repeat' first | with_reducible refine nN_h rfl ?_ | with_reducible refine V.brT ?_ | with_reducible refine V.brF ?_ | with_reducible refine V.needI ?_ ?_) <;> (try first | with_reducible exact V.okI | exact rfl | exact ⟨Nat.le_refl _, rfl⟩ | exact Nat.le_refl _ | assumption | omega | trivial | decide | (intros; rfl) | (intros; trivial)))
    all_goals try exact fun e he => (by split; (rename_i e'; rw [e']); rfl)
    · exact ⟨Int.natCast_nonneg _, by omega, hc3, hf⟩
    · exact fun _ => .inl trivial
    · refine fun j => ⟨upto_le hf j, ?_⟩
      unfold upto
      split <;> split <;> first | omega | (rename_i e'; rw [e']; exact Nat.le_refl _) | (split <;> first | omega | exact Nat.le_refl _)
    all_goals exact fun j e he => (by split; (rename_i e'; rw [e']); rfl)
  · have hi : i = x.n := by have := of_decide_eq_false hi; omega
    subst hi
    ((repeat' first | with_reducible refine nN_h rfl ?_ | with_reducible refine V.brT ?_ | with_reducible refine V.brF ?_ | with_reducible refine V.needI ?_ ?_) <;> (try first | with_reducible exact V.okI | exact rfl | exact ⟨Nat.le_refl _, rfl⟩ | exact Nat.le_refl _ | assumption | omega | trivial | decide | (intros; rfl) | (intros; trivial)))
    · exact fun _ => .inl trivial
    · exact fun i => ⟨upto_le h3 i, Nat.le_refl _⟩
noncomputable section
def colBool : Col → Option (Nat → Bool)
  | .cb g => some fun e => g 0 e
  | .cc (.kb b) => some fun _ => b
  | _ => none
def rdRk (kr : Nat) (n : Nat) (h : HL) : Option (Rk × Nat × (Nat → Nat)) := match (find kr h).map colsB with
  | some [a, b, c, d, e, .cs kf _ _ ln cp, f] => match colG a, colG b, colG c, colG d, colG e, colBool f, famK kf h with
    | some a, some b, some c, some d, some e, some f, some G => some (⟨n, fun i => a i, fun i => b i, fun i => c i, fun i => d i, fun i => e i, fun i => ln 0 i, fun i j => G i j, fun i => f i⟩, kf, fun i => cp 0 i)
    | _, _, _, _, _, _, _ => none
  | _ => none
def kidK (kr : Nat) (h : HL) : Option (Nat × (Nat → Nat)) := match (find kr h).map colsB with
  | some [_, _, _, _, _, .cs kf _ _ _ cp, _] => some (kf, fun i => cp 0 i)
  | _ => none
def cSr : List SV → Hp → Out (SV × Hp) := fun args H => match args with
  | [.c (.slc k _ _ _ n cap), .c (.slc k2 _ _ _ n2 cap2)] => fN k fun k => fN k2 fun k2 => match rdRk k n.v H.h, kidK k2 H.h with
    | some (x, f1, c1), some (f2, c2) => useP [k, k2, f1, f2] 4 [.c (slK 0 7 x.n cap.v), .c (slK 1 7 x.n cap2.v)] [(0, x.rowV 2 c1), (1, x.rowV 3 c2), (2, x.famV), (3, x.famV)] (yesO 4 (okRk x)) args H
    | _, _ => .bad 480
  | _ => .bad 481
theorem conSr_ok : ConOK P conSr := .add cIn_ok ConOK.nil
theorem cSr_ok : ContractOK P fSr cSr := contract_of_useP fun args H => by
  unfold cSr
  simp only [fN_eq]
  repeat' split
  all_goals first | exact .inl ⟨_, rfl⟩ | exact .inr ⟨_, _, _, _, _, rfl, local_of_ver0 conSr_ok fun h => vhSr h⟩
def cCl : List SV → Hp → Out (SV × Hp) := fun args H => match args with
  | [.c (.slc k _ _ _ n cap)] => fN k fun k => match rowW k H.h with
    | some g => useP [k] 1 [.c (slK 0 1 n.v cap.v)] [(0, .view 1 (fun _ => n.v) [.ci .u64 fun _ e => g e])] (.need (n.v ≤ 1000000) (.any Nat (fun c => n.v ≤ c) fun c => .leaf (.c (slK 1 1 n.v c), ⟨[(1, .row 46 c n.v [.ci .u64 fun _ e => g e])], 2, fun _ => True⟩))) args H
    | none => .bad 480
  | _ => .bad 481
theorem cCl_ok : ContractOK P fCl cCl := contract_of_useP fun args H => by
  unfold cCl
  simp only [fN_eq]
  repeat' split
  all_goals first | exact .inl ⟨_, rfl⟩ | exact .inr ⟨_, _, _, _, _, rfl, local_of_ver ConOK.nil fun h => vhCl h⟩
def outCp (x : Rk) : Out (SV × Hp) := .need (okRk x) (.any (Nat × (Nat → Nat)) (fun q => x.n ≤ q.1 ∧ ∀ e, e < x.n → x.kl e ≤ q.2 e) fun q => .leaf (.c (slK 3 7 x.n q.1), ⟨[(2, x.fam x.n q.2), (3, x.row 2 q.2 q.1)], 4, fun _ => True⟩))
def cCp : List SV → Hp → Out (SV × Hp) := fun args H => match args with
  | [.c (.slc k _ _ _ n cap)] => fN k fun k => match rdRk k n.v H.h with
    | some (x, f1, c1) => useP [k, f1] 2 [.c (slK 0 7 x.n cap.v)] [(0, x.rowV 1 c1), (1, x.famV)] (outCp x) args H
    | none => .bad 480
  | _ => .bad 481
theorem cCp_ok : ContractOK P fCp cCp := contract_of_useP fun args H => by
  unfold cCp
  simp only [fN_eq]
  repeat' split
  all_goals first | exact .inl ⟨_, rfl⟩ | exact .inr ⟨_, _, _, _, _, rfl, local_of_ver ConOK.nil fun h => vhCp h⟩
end
end Go.Proofs.YtbidbhfjnfgblaaGreat.En

/- The accesses of the program's memory once more: the memory behind has a name, what is answered is said as it is. -/
set_option maxRecDepth 100000
namespace Go.Proofs.YtbidbhfjnfgblaaGreat.En
open Go Go.RowKit Sx Cn Dc Ck Vc Md
noncomputable section
def outI2 (len cap : NV) (M : Mm) (x : Int) : Out (SV × Hp) := .any Mm (fun m' => m' = M) fun m' => .leaf (.c (uw x), ⟨hN len cap m', 2, fun _ => True⟩)
def outV2 (k : IntKind) (x : Int) : Out (SV × Hp) := .leaf (.c (.iv k x), ⟨[], 2, fun _ => True⟩)
end
section
variable {f : FuncId} {args : List SV} {len cap : NV} {m M : Mm}
theorem name_I2 {x : Int} (h : LocalOK P f args (hM len.v cap.v m) 2 (.need True (.leaf (.c (uw x), ⟨hM len.v cap.v M, 2, fun _ => True⟩)))) : LocalOK P f args (hN len cap m) 2 (outI2 len cap M x) :=
  (pre_local h pre_N).same fun K hK => ⟨trivial, _, _, SVe.refl _, same_N, hK.2 M rfl⟩
theorem name_V2 {k : IntKind} {x : Int} (h : LocalOK P f args (hV len.v cap.v m) 2 (.need True (.leaf (.c (.iv k x), ⟨[], 2, fun _ => True⟩)))) : LocalOK P f args (hW len cap m) 2 (outV2 k x) :=
  (pre_local h pre_W).mono fun K hK => ⟨trivial, hK⟩
end
noncomputable section
def uLd : List SV → Hp → Out (SV × Hp) := nacc fun x σ r => match r with
  | [a] => useP σ 2 [ptM, .c (i6 a)] (hN x.len x.cap x.m) (outI2 x.len x.cap (x.m.acc x.len.v 1 a (x.m.val x.len.v a)) (x.m.val x.len.v a))
  | _ => fun _ _ => .bad 482
def uAdd : List SV → Hp → Out (SV × Hp) := nacc fun x σ r => match r with
  | [a, v] => useP σ 2 [ptM, .c (i6 a), .c (uw v)] (hN x.len x.cap x.m) (outI2 x.len x.cap (x.m.acc x.len.v 6 a (IntKind.u64.wrap (x.m.val x.len.v a + v))) (x.m.val x.len.v a))
  | _ => fun _ _ => .bad 482
def uCt : List SV → Hp → Out (SV × Hp) := nacc fun x σ r => match r with
  | [] => useP σ 2 [ptM] (hW x.len x.cap x.m) (outV2 .i64 x.m.ct)
  | _ => fun _ _ => .bad 482
theorem uLd_ok : ContractOK P fLd uLd := nacc_ok fun x σ r args H => by
  repeat' split
  all_goals first | exact .inl ⟨_, rfl⟩ | exact .inr ⟨_, _, _, _, _, rfl, name_I2 (local_of_ver0 ConOK.nil fun _ => vhMLd)⟩
theorem uAdd_ok : ContractOK P fAdd uAdd := nacc_ok fun x σ r args H => by
  repeat' split
  all_goals first | exact .inl ⟨_, rfl⟩ | exact .inr ⟨_, _, _, _, _, rfl, name_I2 (local_of_ver0 ConOK.nil fun _ => vhMAdd)⟩
theorem uCt_ok : ContractOK P fCt uCt := nacc_ok fun x σ r args H => by
  repeat' split
  all_goals first | exact .inl ⟨_, rfl⟩ | exact .inr ⟨_, _, _, _, _, rfl, name_V2 (local_of_ver0 ConOK.nil fun _ => vhMCt)⟩
def conU (c : Con) : Con := Con.add fLd uLd (Con.add fSt nSt (Con.add fAdd uAdd (Con.add fCt uCt (c))))
theorem conU_ok {c : Con} (h : ConOK P c) : ConOK P (conU c) := .add uLd_ok (.add nSt_ok (.add uAdd_ok (.add uCt_ok (h))))
end
end Go.Proofs.YtbidbhfjnfgblaaGreat.En

/- Two environments compared: what is asked. -/
set_option maxRecDepth 100000
namespace Go.Proofs.YtbidbhfjnfgblaaGreat.En
open Go Go.RowKit Sx Cn Dc Ck Vc Md
structure Cm where
  n : Nat
  m : Mm
  now : Int
  x : Rk
  ne : Nat
  ev : Evs
structure Rm where
  c : Nat
  r : Nat
  k : Nat → Nat
  e : Nat
def okCm (q : Cm) : Prop := q.n ≤ 1000000 ∧ okRk q.x ∧ q.ne ≤ 1000000
noncomputable section
def ck1 (c : SC) : Col := .ck [c]
def peV (km kk kr ke : Nat) (q : Cm) (a : Rm) : Blk := .view 1 (fun _ => 1) (List.replicate 22 .cu ++ [ck1 (.ptr km (.k 0) (.k 0) 0 6), ck1 (.ptr kk (.k 0) (.k 0) 0 2), ck1 (slK kr 7 q.x.n a.r), ck1 (slK ke 5 q.ne a.e)])
def pmV (kc : Nat) (q : Cm) (a : Rm) : Blk := .view 1 (fun _ => 1) [ck1 (slK kc 1 q.n a.c), ck1 (i6 q.m.lk), ck1 (i6 q.m.lc), ck1 (uw q.m.lo), ck1 (uw q.m.ln), ck1 (i6 q.m.ct)]
def reV (kc kr ke : Nat) (q : Cm) (a : Rm) : Blk := .view 1 (fun _ => 1) (List.replicate 11 .cu ++ [ck1 (slK kc 1 q.n a.c), ck1 (i6 q.m.lk), ck1 (i6 q.m.lc), ck1 (uw q.m.lo), ck1 (uw q.m.ln), ck1 (i6 q.m.ct), ck1 (i6 q.now), .cu, ck1 (slK kr 7 q.x.n a.r), ck1 (slK ke 5 q.ne a.e)])
def hSm (q : Cm) (a b : Rm) : HL := [(0, peV 1 3 4 5 q a), (1, pmV 2 q a), (2, wV q.n q.m.g), (3, .view 1 (fun _ => 1) [ck1 (i6 q.now), .cu]), (4, q.x.rowV 10 a.k), (5, eV q.ne q.ev), (6, reV 7 8 9 q b), (7, wV q.n q.m.g), (8, q.x.rowV 11 b.k), (9, eV q.ne q.ev), (10, q.x.famV), (11, q.x.famV)]
def fSm : FuncId := 27
def conSm : Con := Con.add fSw cSw (Con.add fS5 cS5 (Con.add fSr cSr (Con.add fCl cCl con0)))
theorem conSm_ok : ConOK P conSm := .add cSw_ok (.add cS5_ok (.add cSr_ok (.add cCl_ok ConOK.nil)))
def argSm : List SV := [.c (.ptr 0 (.k 0) (.k 0) 0 26), .c (.ptr 6 (.k 0) (.k 0) 0 21)]
def vSm (q : Cm) (a b : Rm) : V := verF P conSm 6 8 fSm [] .nil argSm ⟨hSm q a b, 12, fun _ => True⟩ (yesF 12)
end
end Go.Proofs.YtbidbhfjnfgblaaGreat.En

/- Two environments compared: the conditions, printed by program. -/
set_option maxRecDepth 100000
namespace Go.Proofs.YtbidbhfjnfgblaaGreat.En
open Go Go.RowKit Sx Cn Dc Ck Vc Md

theorem vSm_eq (q : Cm) (a b : Rm) : V.pr (.t (.t .z)) (vSm q a b) =
  nN [(6, .lt2 0 1 0 1), qE q.n, qE a.c, (1, .le 1 1), (1, .pf (∀ (i : Nat), i < 1 → q.n ≤ q.n) (by intros; exact Nat.le_refl _)), (1, .pf (∀ (i e : Nat), i < 1 ∧ e < q.n → q.m.g e = q.m.g e) (by intros; rfl))]
    (V.need (q.n ≤ 1000000)
    (V.need (∃ (x : Nat), q.n ≤ x)
    (V.any Nat (fun (c : Nat) => q.n ≤ c) fun (x : Nat) => nN [(4, .lt2 0 1 0 1), qE q.n, qE x, qE q.n, qE b.c, (1, .le 1 1)]
    (V.need (q.n ≤ q.n ∧ q.n ≤ x)
    (nN [(1, .pf (∀ (i e : Nat), i = 0 ∧ e < q.n → q.m.g e = q.m.g e) (by intros; rfl)), (1, .le 1 1), (1, .pf (∀ (i : Nat), i < 1 → q.n ≤ q.n) (by intros; exact Nat.le_refl _)), (1, .pf (∀ (i e : Nat), i < 1 ∧ e < q.n → q.m.g e = q.m.g e) (by intros; rfl))]
    (V.need (q.n ≤ 1000000)
    (nN [(10, .lt2 0 1 0 1)]
    (V.need ((q.m.ct == q.m.ct) = true)
    (nN [(16, .lt2 0 1 0 1)]
    (V.need ((q.m.lk == q.m.lk && (q.m.lc == q.m.lc && (q.m.lo == q.m.lo && (q.m.ln == q.m.ln && true)))) = true)
    (nN [(6, .lt2 0 1 0 1), qE q.ne, qE a.e, qE q.ne, qE b.e, (1, .le 1 1), (1, .pf (∀ (i : Nat), i < 1 → q.ne ≤ q.ne) (by intros; exact Nat.le_refl _)), (1, .pf (∀ (i e : Nat), i < 1 ∧ e < q.ne → q.ev.k e = q.ev.k e) (by intros; rfl)), (1, .pf (∀ (i e : Nat), i < 1 ∧ e < q.ne → q.ev.w e = q.ev.w e) (by intros; rfl)), (1, .pf (∀ (i e : Nat), i < 1 ∧ e < q.ne → q.ev.t e = q.ev.t e) (by intros; rfl)), (1, .pf (∀ (i e : Nat), i < 1 ∧ e < q.ne → q.ev.o e = q.ev.o e) (by intros; rfl)), (1, .pf (∀ (i e : Nat), i < 1 ∧ e < q.ne → q.ev.l e = q.ev.l e) (by intros; rfl)), (1, .le 1 1), (1, .pf (∀ (i : Nat), i < 1 → q.ne ≤ q.ne) (by intros; exact Nat.le_refl _)), (1, .pf (∀ (i e : Nat), i < 1 ∧ e < q.ne → q.ev.k e = q.ev.k e) (by intros; rfl)), (1, .pf (∀ (i e : Nat), i < 1 ∧ e < q.ne → q.ev.w e = q.ev.w e) (by intros; rfl)), (1, .pf (∀ (i e : Nat), i < 1 ∧ e < q.ne → q.ev.t e = q.ev.t e) (by intros; rfl)), (1, .pf (∀ (i e : Nat), i < 1 ∧ e < q.ne → q.ev.o e = q.ev.o e) (by intros; rfl)), (1, .pf (∀ (i e : Nat), i < 1 ∧ e < q.ne → q.ev.l e = q.ev.l e) (by intros; rfl))]
    (V.need (q.ne ≤ 1000000)
    (nN [(6, .lt2 0 1 0 1), qE q.x.n, qE a.r, qE q.x.n, qE b.r, (1, .le 1 1), (1, .pf (∀ (i : Nat), i < 1 → q.x.n ≤ q.x.n) (by intros; exact Nat.le_refl _)), (1, .pf (∀ (i e : Nat), i < 1 ∧ e < q.x.n → q.x.p e = q.x.p e) (by intros; rfl)), (1, .pf (∀ (i e : Nat), i < 1 ∧ e < q.x.n → q.x.pa e = q.x.pa e) (by intros; rfl)), (1, .pf (∀ (i e : Nat), i < 1 ∧ e < q.x.n → q.x.pc e = q.x.pc e) (by intros; rfl)), (1, .pf (∀ (i e : Nat), i < 1 ∧ e < q.x.n → q.x.lf e = q.x.lf e) (by intros; rfl)), (1, .pf (∀ (i e : Nat), i < 1 ∧ e < q.x.n → q.x.wt e = q.x.wt e) (by intros; rfl)), (1, .pf (∀ (i e : Nat), i < 1 ∧ e < q.x.n → e = e) (by intros; rfl)), (1, .pf (∀ (i e : Nat), i < 1 ∧ e < q.x.n → q.x.kl e = q.x.kl e) (by intros; rfl)), (1, .pf (∀ (i e : Nat), i < 1 ∧ e < q.x.n → a.k e = a.k e) (by intros; rfl)), (1, .pf (∀ (i e : Nat), i < 1 ∧ e < q.x.n → q.x.st e = q.x.st e) (by intros; rfl)), (1, .le 1 1), (1, .pf (∀ (i : Nat), i < 1 → q.x.n ≤ q.x.n) (by intros; exact Nat.le_refl _)), (1, .pf (∀ (i e : Nat), i < 1 ∧ e < q.x.n → q.x.p e = q.x.p e) (by intros; rfl)), (1, .pf (∀ (i e : Nat), i < 1 ∧ e < q.x.n → q.x.pa e = q.x.pa e) (by intros; rfl)), (1, .pf (∀ (i e : Nat), i < 1 ∧ e < q.x.n → q.x.pc e = q.x.pc e) (by intros; rfl)), (1, .pf (∀ (i e : Nat), i < 1 ∧ e < q.x.n → q.x.lf e = q.x.lf e) (by intros; rfl)), (1, .pf (∀ (i e : Nat), i < 1 ∧ e < q.x.n → q.x.wt e = q.x.wt e) (by intros; rfl)), (1, .pf (∀ (i e : Nat), i < 1 ∧ e < q.x.n → e = e) (by intros; rfl)), (1, .pf (∀ (i e : Nat), i < 1 ∧ e < q.x.n → q.x.kl e = q.x.kl e) (by intros; rfl)), (1, .pf (∀ (i e : Nat), i < 1 ∧ e < q.x.n → b.k e = b.k e) (by intros; rfl)), (1, .pf (∀ (i e : Nat), i < 1 ∧ e < q.x.n → q.x.st e = q.x.st e) (by intros; rfl)), qL q.x.n, (1, .pf (∀ (i : Nat), i < q.x.n → q.x.kl i ≤ q.x.kl i) (by intros; exact Nat.le_refl _)), (1, .pf (∀ (i e : Nat), i < q.x.n ∧ e < q.x.kl i → q.x.kd i e = q.x.kd i e) (by intros; rfl)), qL q.x.n, (1, .pf (∀ (i : Nat), i < q.x.n → q.x.kl i ≤ q.x.kl i) (by intros; exact Nat.le_refl _)), (1, .pf (∀ (i e : Nat), i < q.x.n ∧ e < q.x.kl i → q.x.kd i e = q.x.kd i e) (by intros; rfl))]
    (V.need (okRk (Rk.mk q.x.n q.x.p q.x.pa q.x.pc q.x.lf q.x.wt q.x.kl q.x.kd fun (i : Nat) => q.x.st i))
    (nN [(9, .lt2 0 1 0 1)]
    (V.need True
    (V.need ((q.now == q.now) = true) V.ok))))))))))))))))) := by kernel_rfl


end Go.Proofs.YtbidbhfjnfgblaaGreat.En

/- Two environments compared: the contract. -/
set_option maxRecDepth 100000
namespace Go.Proofs.YtbidbhfjnfgblaaGreat.En
open Go Go.RowKit Sx Cn Dc Ck Vc Md
theorem vhSm {q : Cm} {a b : Rm} (h : okCm q) : VHolds (vSm q a b) := by
  obtain ⟨h1, h2, h3⟩ := h
  refine VHolds.pr (vSm_eq ..) ?_
  (repeat' first | with_reducible exact V.okI | with_reducible refine V.brT ?_ | with_reducible refine V.brF ?_ | with_reducible refine V.brI ?_ ?_ | with_reducible refine V.anyI ?_ | with_reducible refine nN_h rfl ?_ | with_reducible refine V.needI ?_ ?_ | with_reducible intro _)
  all_goals first | omega | assumption | rfl | (simp; done) | exact ⟨_, Nat.le_refl _⟩ | trace_state
noncomputable section
def ceI (k f : Nat) (h : HL) : Option Int := (bCell k f h).bind numC
def ceS (k f : Nat) (h : HL) : Option (Nat × Nat × Nat) := match bCell k f h with
  | some (.slc k _ _ _ n c) => some (k, n.v, c.v)
  | _ => none
def cSm : List SV → Hp → Out (SV × Hp) := fun args H => match args with
  | [.c (.ptr ke _ _ _ _), .c (.ptr kr _ _ _ _)] => fN ke fun ke => fN kr fun kr => fN (scK (bCell ke 22 H.h)) fun km => fN (scK (bCell ke 23 H.h)) fun kk => match ceS ke 24 H.h, ceS ke 25 H.h, ceS kr 11 H.h, ceS kr 19 H.h, ceS kr 20 H.h with
    | some (e4, xn, xr), some (e5, ne, er), some (r1, _, bc), some (r4, _, br), some (r5, _, be) => match rdMm H.h km, ceI kk 0 H.h, rdRk e4 xn H.h, rdEv e5 H.h, kidK r4 H.h with
      | some y, some now, some (x, f1, c1), some ev, some (f2, c2) => useP [ke, km, y.kc, kk, e4, e5, kr, r1, r4, r5, f1, f2] 12 argSm (hSm ⟨y.len.v, y.m, now, x, ne, ev⟩ ⟨y.cap.v, xr, c1, er⟩ ⟨bc, br, c2, be⟩) (yesO 12 (okCm ⟨y.len.v, y.m, now, x, ne, ev⟩)) args H
      | _, _, _, _, _ => .bad 480
    | _, _, _, _, _ => .bad 481
  | _ => .bad 482
theorem cSm_ok : ContractOK P fSm cSm := contract_of_useP fun args H => by
  unfold cSm
  simp only [fN_eq]
  repeat' split
  all_goals first | exact .inl ⟨_, rfl⟩ | exact .inr ⟨_, _, _, _, _, rfl, local_of_ver0 conSm_ok fun h => vhSm h⟩
end
end Go.Proofs.YtbidbhfjnfgblaaGreat.En

/- Remainders: the contract. -/
set_option maxRecDepth 100000
namespace Go.Proofs.YtbidbhfjnfgblaaGreat.En
open Go Go.RowKit Sx Cn Dc Ck Vc Md
theorem vhDr {a n : Int} (h : n ≤ 9223372036854775807) : VHolds (vDr a n) := by
  constructor
  rw [vDr_eq]
  by_cases hn : n < 1
  · have e : dr a n = 0 := by unfold dr; rw [if_pos hn]
    rw [e]
    (repeat' first | with_reducible exact V.okI | with_reducible refine V.brT ?_ | with_reducible refine V.brF ?_ | with_reducible refine V.brI ?_ ?_ | with_reducible refine V.anyI ?_ | with_reducible refine nN_h rfl ?_ | with_reducible refine V.needI ?_ ?_ | with_reducible intro _)
    all_goals (simp only [decide_eq_true_eq, decide_eq_false_iff_not, Int.ofNat_eq_natCast, Bool.not_eq_true', Bool.not_eq_false', ge_iff_le, gt_iff_lt, Bool.and_eq_true, Bool.or_eq_true, Bool.not_eq_true, Bool.and_eq_false_iff] at *)
    all_goals first | omega | rfl | trace_state
  · have e : dr a n = a % n := by unfold dr; rw [if_neg hn]
    have e2 := Int.emod_def a n
    have e3 := Int.emod_nonneg a (show n ≠ 0 by omega)
    have e4 := Int.emod_lt_of_pos a (show 0 < n by omega)
    have e5 : a.tmod n = a % n ∨ (a.tmod n = a % n - n) := by
      rw [Int.tmod_eq_emod]
      split
      · left; simp
      · right; omega
    have e6 : a.tmod n < 0 → IntKind.i64.wrap (a.tmod n + n) = a % n := fun hlt => by
      rcases e5 with e5 | e5
      · omega
      · rw [w64 (by omega)]; omega
    have e7 : ¬ a.tmod n < 0 → a.tmod n = a % n := fun hlt => by
      rcases e5 with e5 | e5 <;> omega
    rw [e]
    (repeat' first | with_reducible exact V.okI | with_reducible refine V.brT ?_ | with_reducible refine V.brF ?_ | with_reducible refine V.brI ?_ ?_ | with_reducible refine V.anyI ?_ | with_reducible refine nN_h rfl ?_ | with_reducible refine V.needI ?_ ?_ | with_reducible intro _)
    all_goals (simp only [decide_eq_true_eq, decide_eq_false_iff_not, Int.ofNat_eq_natCast, Bool.not_eq_true', Bool.not_eq_false', ge_iff_le, gt_iff_lt, Bool.and_eq_true, Bool.or_eq_true, Bool.not_eq_true, Bool.and_eq_false_iff] at *)
    all_goals first | omega | (exact e6 (by omega)) | (exact e7 (by omega)) | rfl | trace_state
noncomputable section
def cDr : List SV → Hp → Out (SV × Hp) := fun args H => match args with
  | [.c a, .c n] => match numC a, numC n with
    | some a, some n => useP [] 0 [iv a, iv n] [] (.need (n ≤ 9223372036854775807) (.any Int (fun r => r = dr a n) fun r => .leaf (.c (i6 r), ⟨[], 0, fun _ => True⟩))) args H
    | _, _ => .bad 484
  | _ => .bad 485
theorem cDr_ok : ContractOK P fDr cDr := contract_of_useP fun args H => by
  unfold cDr
  repeat' split
  all_goals first | exact .inl ⟨_, rfl⟩ | exact .inr ⟨_, _, _, _, _, rfl, local_of_ver ConOK.nil fun h => vhDr h⟩
end
end Go.Proofs.YtbidbhfjnfgblaaGreat.En

/- A cell changed in both environments: what is asked. -/
set_option maxRecDepth 100000
namespace Go.Proofs.YtbidbhfjnfgblaaGreat.En
open Go Go.RowKit Sx Cn Dc Ck Vc Md
def okW (m : Mm) : Prop := ∀ e, 0 ≤ m.g e ∧ m.g e ≤ 18446744073709551615
def okMw (b : Int) (m : Mm) : Prop := okW m ∧ 0 ≤ m.ct ∧ m.ct ≤ b
noncomputable section
def fDi : FuncId := 23
def peM (km : Nat) : Blk := .view 1 (fun _ => 1) (List.replicate 22 .cu ++ [ck1 (.ptr km (.k 0) (.k 0) 0 6), .cu, .cu, .cu])
def pmB (kc : Nat) (len cap : Nat) (m : Mm) : Blk := .own 123 6 ([slK kc 1 len cap, i6 m.lk, i6 m.lc, uw m.lo, uw m.ln, i6 m.ct].map some)
def hDi (r : Rv) (cap : Nat) : HL := [(0, peM 1), (1, pmB 2 r.len cap r.m), (2, wRow cap r.len r.m), (3, r.b 5 6 4 7 8), (4, wRow r.cap r.len r.m), (5, dum 1), (6, dum 3), (7, dum 7), (8, dum 5)]
def hDi2 (r : Rv) (cap : Nat) : HL := [(1, pmB 2 r.len cap r.m), (2, wRow cap r.len r.m), (3, r.b 5 6 4 7 8), (4, wRow r.cap r.len r.m)]
def conDi : Con := Con.add fRA cRA (Con.add fDr cDr (conU con0))
theorem conDi_ok : ConOK P conDi := .add cRA_ok (.add cDr_ok (conU_ok ConOK.nil))
def argDi (a v : Int) : List SV := [.c (.ptr 0 (.k 0) (.k 0) 0 26), .c (.ptr 3 (.k 0) (.k 0) 0 21), iv a, iv v]
def vDi (r : Rv) (cap : Nat) (a v : Int) : V := verF P conDi 6 8 fDi [] .nil (argDi a v) ⟨hDi r cap, 9, fun _ => True⟩
  (finV (X := Mm) 9 9 (fun _ H => (rdMm H.h 1).map fun y => y.m) (fun _ _ => []) (okMw (r.m.ct + 1)) (fun _ => .t []) (fun m => hDi2 (r.W m) cap))
end
end Go.Proofs.YtbidbhfjnfgblaaGreat.En

/- A cell changed in both environments: the conditions, printed by program. -/
set_option maxRecDepth 100000
namespace Go.Proofs.YtbidbhfjnfgblaaGreat.En
open Go Go.RowKit Sx Cn Dc Ck Vc Md

abbrev qDi0 (l : List (Nat × P0)) : List (Nat × P0) := (1, .le 0 0) :: (1, .pf (∀ (i : Nat), i < 0 → 0 ≤ 0) (by intros; exact Nat.le_refl _)) :: l
abbrev qDi1 (a0 : Rv) (a1 a2 : Mm) (k : V) : V := nN [qL a0.len] (V.need (∀ (e : Nat), e < a0.len → a1.g e = a2.g e) k)
abbrev qDi2 (a0 : Rv) (l : List (Nat × P0)) : List (Nat × P0) := qL a0.len :: qF a0.len a0.m.g :: l
abbrev qDi3 (a0 : Rv) (a1 : Mm) (k : V) : V := V.need (okMw (a0.m.ct + Int.ofNat 1) a1) (nN [qE a0.len] k)
abbrev qDi4 (a0 : Rv) (l : List (Nat × P0)) : List (Nat × P0) := qE a0.m.lk :: qE a0.m.lc :: qE a0.m.lo :: qE a0.m.ln :: qE a0.m.ct :: l
abbrev qDi5 (a0 : Rv) (l : List (Nat × P0)) : List (Nat × P0) := qE a0.c.W :: qE a0.c.L :: qE a0.c.C :: qE a0.c.T :: qE a0.c.D :: qE a0.c.H :: qE a0.c.B :: qE a0.c.A :: qE a0.c.P :: qE a0.c.nP :: qE a0.c.rc :: qE a0.c.nU :: qE a0.c.cu :: qE a0.len :: qE a0.cap :: l
abbrev qDi6 (a0 : Int) (l : List (Nat × P0)) : List (Nat × P0) := qE a0 :: (1, .eqI 18446744073709551615 18446744073709551615) :: l
abbrev qDi7 (l : List (Nat × P0)) : List (Nat × P0) := qDi0 (qDi0 l)
abbrev qDi8 (a0 : Rv) (l : List (Nat × P0)) : List (Nat × P0) := qE a0.now :: qE a0.dr :: qE a0.rn :: qE a0.rc :: qE a0.ne :: qE a0.nc :: qE a0.cap :: l
abbrev qDi9 (a0 a1 : Mm) (k : V) : V := V.need (a0.lk = a1.lk) (V.need (a0.lc = a1.lc) (V.need (a0.lo = a1.lo) (V.need (a0.ln = a1.ln) (V.need (a0.ct = a1.ct) k))))
abbrev qDi10 (a0 : Rv) (l : List (Nat × P0)) : List (Nat × P0) := qDi4 a0 (qDi8 a0 (qDi2 a0 l))
abbrev qDi11 (l : List (Nat × P0)) : List (Nat × P0) := qDi7 (qDi7 l)
abbrev qDi12 (a0 : Rv) (l : List (Nat × P0)) : List (Nat × P0) := (1, .eqI 0 0) :: qDi5 a0 (qDi10 a0 l)
theorem vDi_eq (r : Rv) (cap : Nat) (a v : Int) : V.pr .z (vDi r cap a v) =
  V.br ((↑r.len : Int) == Int.ofNat 0)
 (V.need (okMw (r.m.ct + Int.ofNat 1) r.m) (nN (qE r.len :: qE cap :: qDi4 r (qE cap :: qDi2 r (qDi5 r (qDi10 r [])))) V.ok))
 (nN [qE a, qE ((↑r.len : Int))] (V.need ((↑r.len : Int) ≤ Int.ofNat 9223372036854775807) (nN [qX (dr a (↑r.len : Int))] (V.any Int (fun (r_1 : Int) => r_1 = dr a (↑r.len : Int)) fun (x : Int) => nN [qE v, (1, .eqI 6 6), (1, .leI 6 9223372036854775807), qX (dr v (Int.ofNat 6))] (V.any Int (fun (r : Int) => r = dr v (Int.ofNat 6)) fun (x_1 : Int) => nN [(1, .neI 6 0), qE (IntKind.i64.wrap (v.tdiv (Int.ofNat 6))), (1, .eqI 4 4), (1, .leI 4 9223372036854775807), qX (dr (IntKind.i64.wrap (v.tdiv (Int.ofNat 6))) (Int.ofNat 4))] (V.any Int (fun (r : Int) => r = dr (IntKind.i64.wrap (v.tdiv (Int.ofNat 6))) (Int.ofNat 4)) fun (x_2 : Int) => V.br (x_2 == Int.ofNat 0)
 (V.br (decide (x ≥ Int.ofNat 0))
 (V.br (!decide (x < (↑r.len : Int)))
 (nN (qE x :: (1, .eqI 1 1) :: qDi12 r (qDi11 [qX (r.m.acc r.len (Int.ofNat 2) x (Int.ofNat 1))])) (V.any Mm (fun (m' : Mm) => m' = r.m.acc r.len (Int.ofNat 2) x (Int.ofNat 1)) fun (x_3 : Mm) => nN ((3, .lt2 0 1 0 1) :: qE x :: (1, .eqI 1 1) :: qE r.len :: qE cap :: qDi4 r (qE cap :: qDi2 r [qX (r.m.acc r.len (Int.ofNat 2) x (Int.ofNat 1))])) (V.any Mm (fun (m' : Mm) => m' = r.m.acc r.len (Int.ofNat 2) x (Int.ofNat 1)) fun (x : Mm) => qDi3 r x (nN (qE cap :: qE x.lk :: qE x.lc :: qE x.lo :: qE x.ln :: qE x.ct :: qE cap :: qL r.len :: qF r.len x.g :: qDi5 r []) (qDi9 x_3 x (nN (qDi8 r []) (qDi1 r x_3 x V.ok)))))))
 (V.need (Int.ofNat 0 ≤ x ∧ x < (↑r.len : Int)) (V.need (0 + x.toNat < r.len) (V.need (0 + x.toNat < r.len) (nN (qE x :: qE (IntKind.u64.wrap (r.m.g (0 + x.toNat) + Int.ofNat 1)) :: qDi12 r (qDi11 [qX (r.m.acc r.len (Int.ofNat 2) x (IntKind.u64.wrap (r.m.g (0 + x.toNat) + Int.ofNat 1)))])) (V.any Mm (fun (m' : Mm) => m' = r.m.acc r.len (Int.ofNat 2) x (IntKind.u64.wrap (r.m.g (0 + x.toNat) + Int.ofNat 1))) fun (x_3 : Mm) => nN ((3, .lt2 0 1 0 1) :: qE x :: qE (IntKind.u64.wrap (r.m.g (0 + x.toNat) + Int.ofNat 1)) :: qE r.len :: qE cap :: qDi4 r (qE cap :: qDi2 r [qX (r.m.acc r.len (Int.ofNat 2) x (IntKind.u64.wrap (r.m.g (0 + x.toNat) + Int.ofNat 1)))])) (V.any Mm (fun (m' : Mm) => m' = r.m.acc r.len (Int.ofNat 2) x (IntKind.u64.wrap (r.m.g (0 + x.toNat) + Int.ofNat 1))) fun (x : Mm) => qDi3 r x (nN (qE cap :: qE x.lk :: qE x.lc :: qE x.lo :: qE x.ln :: qE x.ct :: qE cap :: qL r.len :: qF r.len x.g :: qDi5 r []) (qDi9 x_3 x (nN (qDi8 r []) (qDi1 r x_3 x V.ok)))))))))))
 (nN (qE x :: (1, .eqI 1 1) :: qDi12 r (qDi11 [qX (r.m.acc r.len (Int.ofNat 2) x (Int.ofNat 1))])) (V.any Mm (fun (m' : Mm) => m' = r.m.acc r.len (Int.ofNat 2) x (Int.ofNat 1)) fun (x_3 : Mm) => nN ((3, .lt2 0 1 0 1) :: qE x :: (1, .eqI 1 1) :: qE r.len :: qE cap :: qDi4 r (qE cap :: qDi2 r [qX (r.m.acc r.len (Int.ofNat 2) x (Int.ofNat 1))])) (V.any Mm (fun (m' : Mm) => m' = r.m.acc r.len (Int.ofNat 2) x (Int.ofNat 1)) fun (x : Mm) => qDi3 r x (nN (qE cap :: qE x.lk :: qE x.lc :: qE x.lo :: qE x.ln :: qE x.ct :: qE cap :: qL r.len :: qF r.len x.g :: qDi5 r []) (qDi9 x_3 x (nN (qDi8 r []) (qDi1 r x_3 x V.ok))))))))
 (V.br (x_2 == Int.ofNat 1)
 (V.br (decide (x ≥ Int.ofNat 0))
 (V.br (!decide (x < (↑r.len : Int)))
 (nN (qDi6 x (qDi12 r (qDi11 [qX (r.m.acc r.len (Int.ofNat 2) x (Int.ofNat 18446744073709551615))]))) (V.any Mm (fun (m' : Mm) => m' = r.m.acc r.len (Int.ofNat 2) x (Int.ofNat 18446744073709551615)) fun (x_3 : Mm) => nN ((3, .lt2 0 1 0 1) :: qDi6 x (qE r.len :: qE cap :: qDi4 r (qE cap :: qDi2 r [qX (r.m.acc r.len (Int.ofNat 2) x (Int.ofNat 18446744073709551615))]))) (V.any Mm (fun (m' : Mm) => m' = r.m.acc r.len (Int.ofNat 2) x (Int.ofNat 18446744073709551615)) fun (x : Mm) => qDi3 r x (nN (qE cap :: qE x.lk :: qE x.lc :: qE x.lo :: qE x.ln :: qE x.ct :: qE cap :: qL r.len :: qF r.len x.g :: qDi5 r []) (qDi9 x_3 x (nN (qDi8 r []) (qDi1 r x_3 x V.ok)))))))
 (V.need (Int.ofNat 0 ≤ x ∧ x < (↑r.len : Int)) (V.need (0 + x.toNat < r.len) (V.need (0 + x.toNat < r.len) (nN (qE x :: qE (IntKind.u64.wrap (r.m.g (0 + x.toNat) - Int.ofNat 1)) :: qDi12 r (qDi11 [qX (r.m.acc r.len (Int.ofNat 2) x (IntKind.u64.wrap (r.m.g (0 + x.toNat) - Int.ofNat 1)))])) (V.any Mm (fun (m' : Mm) => m' = r.m.acc r.len (Int.ofNat 2) x (IntKind.u64.wrap (r.m.g (0 + x.toNat) - Int.ofNat 1))) fun (x_3 : Mm) => nN ((3, .lt2 0 1 0 1) :: qE x :: qE (IntKind.u64.wrap (r.m.g (0 + x.toNat) - Int.ofNat 1)) :: qE r.len :: qE cap :: qDi4 r (qE cap :: qDi2 r [qX (r.m.acc r.len (Int.ofNat 2) x (IntKind.u64.wrap (r.m.g (0 + x.toNat) - Int.ofNat 1)))])) (V.any Mm (fun (m' : Mm) => m' = r.m.acc r.len (Int.ofNat 2) x (IntKind.u64.wrap (r.m.g (0 + x.toNat) - Int.ofNat 1))) fun (x : Mm) => qDi3 r x (nN (qE cap :: qE x.lk :: qE x.lc :: qE x.lo :: qE x.ln :: qE x.ct :: qE cap :: qL r.len :: qF r.len x.g :: qDi5 r []) (qDi9 x_3 x (nN (qDi8 r []) (qDi1 r x_3 x V.ok)))))))))))
 (nN (qDi6 x (qDi12 r (qDi11 [qX (r.m.acc r.len (Int.ofNat 2) x (Int.ofNat 18446744073709551615))]))) (V.any Mm (fun (m' : Mm) => m' = r.m.acc r.len (Int.ofNat 2) x (Int.ofNat 18446744073709551615)) fun (x_3 : Mm) => nN ((3, .lt2 0 1 0 1) :: qDi6 x (qE r.len :: qE cap :: qDi4 r (qE cap :: qDi2 r [qX (r.m.acc r.len (Int.ofNat 2) x (Int.ofNat 18446744073709551615))]))) (V.any Mm (fun (m' : Mm) => m' = r.m.acc r.len (Int.ofNat 2) x (Int.ofNat 18446744073709551615)) fun (x : Mm) => qDi3 r x (nN (qE cap :: qE x.lk :: qE x.lc :: qE x.lo :: qE x.ln :: qE x.ct :: qE cap :: qL r.len :: qF r.len x.g :: qDi5 r []) (qDi9 x_3 x (nN (qDi8 r []) (qDi1 r x_3 x V.ok))))))))
 (nN (qE x :: qE (IntKind.u64.wrap x_1) :: qDi12 r (qDi11 [qX (r.m.acc r.len (Int.ofNat 2) x (IntKind.u64.wrap x_1))])) (V.any Mm (fun (m' : Mm) => m' = r.m.acc r.len (Int.ofNat 2) x (IntKind.u64.wrap x_1)) fun (x_3 : Mm) => nN ((3, .lt2 0 1 0 1) :: qE x :: qE (IntKind.u64.wrap x_1) :: qE r.len :: qE cap :: qDi4 r (qE cap :: qDi2 r [qX (r.m.acc r.len (Int.ofNat 2) x (IntKind.u64.wrap x_1))])) (V.any Mm (fun (m' : Mm) => m' = r.m.acc r.len (Int.ofNat 2) x (IntKind.u64.wrap x_1)) fun (x : Mm) => qDi3 r x (nN (qE cap :: qE x.lk :: qE x.lc :: qE x.lo :: qE x.ln :: qE x.ct :: qE cap :: qL r.len :: qF r.len x.g :: qDi5 r []) (qDi9 x_3 x (nN (qDi8 r []) (qDi1 r x_3 x V.ok)))))))))))))) := by kernel_rfl


end Go.Proofs.YtbidbhfjnfgblaaGreat.En

/- A cell changed in both environments: the contract. -/
set_option maxRecDepth 100000
namespace Go.Proofs.YtbidbhfjnfgblaaGreat.En
open Go Go.RowKit Sx Cn Dc Ck Vc Md
theorem okMw_acc {m : Mm} {b : Int} {n : Nat} {k a x : Int} (h : okMw b m) (hb : b ≤ 9000000000) (hx : 0 ≤ x ∧ x ≤ 18446744073709551615) : okMw (b + 1) (m.acc n k a x) := by
  obtain ⟨h1, h2, h3⟩ := h
  refine ⟨Mm.ok_acc h1 hx, ?_⟩
  unfold Mm.acc
  cases inb n a with
  | false => exact ⟨h2, by show m.ct ≤ b + 1; omega⟩
  | true =>
    show 0 ≤ IntKind.i64.wrap (m.ct + 1) ∧ IntKind.i64.wrap (m.ct + 1) ≤ b + 1
    rw [w64 (by omega)]
    omega
theorem okMw.le {m : Mm} {a b : Int} (h : okMw a m) (hb : a ≤ b) : okMw b m := ⟨h.1, h.2.1, Int.le_trans h.2.2 hb⟩
theorem okMw.now {m : Mm} {b : Int} (h : okMw b m) : okMw m.ct m := ⟨h.1, h.2.1, Int.le_refl _⟩
theorem vhDi {r : Rv} {cap : Nat} {a v : Int} (h : r.len ≤ 1000000) (hm : okMw 1000000000 r.m) : VHolds (vDi r cap a v) := by
  have hz := hm.2.2
  refine VHolds.pr (vDi_eq ..) ?_
  (repeat' first | with_reducible exact V.okI | with_reducible refine V.brT ?_ | with_reducible refine V.brF ?_ | with_reducible refine V.brI ?_ ?_ | with_reducible refine V.anyI ?_ | with_reducible refine nN_h rfl ?_ | with_reducible refine V.needI ?_ ?_ | with_reducible intro _)
  all_goals first | exact True.intro | omega | ((simp only [decide_eq_true_eq, decide_eq_false_iff_not, Int.ofNat_eq_natCast, Bool.not_eq_true', Bool.not_eq_false', ge_iff_le, gt_iff_lt, Bool.and_eq_true, Bool.or_eq_true, Bool.not_eq_true, Bool.and_eq_false_iff] at *); omega) | (subst_vars; rfl) | (show okMw (r.m.ct + 1) r.m; exact hm.now.le (by omega)) | (subst_vars; show okMw (r.m.ct + 1) _; first | exact okMw_acc hm.now (by omega) (wrap_ok _) | exact okMw_acc hm.now (by omega) (by decide)) | trace_state
noncomputable section
def outDi (r : Rv) (cap : Nat) : Out (SV × Hp) := .need (r.len ≤ 1000000 ∧ okMw 1000000000 r.m) (.any Mm (okMw (r.m.ct + 1)) fun m => .leaf (.t [], ⟨hDi2 (r.W m) cap, 9, fun _ => True⟩))
def cDi : List SV → Hp → Out (SV × Hp) := fun args H => match args with
  | [.c (.ptr ke _ _ _ _), .c (.ptr kr _ _ _ _), .c ca, .c cv] => fN ke fun ke => fN kr fun kr => fN (scK (bCell ke 22 H.h)) fun km => match rdMm H.h km, rdRv kr H.h, numsC [ca, cv] with
    | some y, some (r, [k3, k4, k5, k6, k7, k8]), some [a, v] => useP [ke, km, y.kc, k3, k4, k5, k6, k7, k8] 9 (argDi a v) (hDi (r.W y.m) y.cap.v) (outDi (r.W y.m) y.cap.v) args H
    | _, _, _ => .bad 480
  | _ => .bad 481
theorem cDi_ok : ContractOK P fDi cDi := contract_of_useP fun args H => by
  unfold cDi
  simp only [fN_eq]
  repeat' split
  all_goals first | exact .inl ⟨_, rfl⟩ | exact .inr ⟨_, _, _, _, _, rfl, local_of_ver conDi_ok fun h => vhDi h.1 h.2⟩
end
end Go.Proofs.YtbidbhfjnfgblaaGreat.En

/- The reference's engine, made: what is asked. -/
set_option maxRecDepth 100000
namespace Go.Proofs.YtbidbhfjnfgblaaGreat.En
open Go Go.RowKit Sx Cn Dc Ck Vc Md
noncomputable section
def fN28 : FuncId := 36
def tEn : TypeId := 82
def tPm : TypeId := 59
def mK3 (s : St) : Nat := scK (bCell (tmK 3 s) 1 s.H.h)
def laN28 (W : Int) (s : St) : Option (LA (Int × Nat)) := match find (tmK 3 s) s.H.h with
  | some (.own t sz cs) => fN (mK3 s) fun km => some ⟨[(tmK 3, true), (mK3, false)], fun q => [.own t sz (cs.set 1 (some (slK km 1 q.1.toNat q.2))), .row tPm q.2 q.1.toNat [.cu]], [4], fun q => [iv q.1],
    fun s => match tmI 4 s, capK (mK3 s) s.H.h with | some i, some c => some (i, c) | _, _ => none, fun q => 0 ≤ q.1 ∧ q.1 ≤ W ∧ q.1.toNat ≤ q.2, fun q => (W - q.1).toNat⟩
  | _ => none
def engB (ke km n cap : Nat) : Blk := .own tEn 8 ([.ptr ke (.k 0) (.k 0) 0 21, slK km 1 n cap, .iv .i64 0, .nils, .iv .i64 0, .iv .i64 0, .iv .u64 0, .iv .u64 0].map some)
def hN28 (c : Cf) (q : Nat × Nat) : HL := [(3, engB 4 7 (c.W.toNat + 1) q.1), (4, renvB 0 1 5 6 c (ncN c) (ncN c) c.T.toNat q.2), (5, zeroB (ncN c)), (6, freshB c.T.toNat q.2), (7, .row tPm q.1 (c.W.toNat + 1) [.cu])]
def conNr : Con := Con.add 20 conNewR con0
theorem conNr_ok : ConOK P conNr := .add conNewR_ok ConOK.nil
def vN28 (c : Cf) : V := verF P conNr 6 8 fN28 [] (.loop (Int × Nat) [.nilCell (tmK 3) 1 tPm 1 fun _ => [.cu]] (laN28 c.W) .nil .nil) [argC c] ⟨hC c, 3, fun _ => True⟩
  (finV (X := Nat × Nat) 3 8 (fun s H => match capK (scK (bCell (tupK s) 1 H.h)) H.h, capK (scK (bCell (scK (bCell (tupK s) 0 H.h)) 19 H.h)) H.h with | some a, some b => some (a, b) | _, _ => none)
    (fun s H => fN (scK (bCell (tupK s) 0 H.h)) fun ke => [tupK s, ke, scK (bCell ke 11 H.h), scK (bCell ke 19 H.h), scK (bCell (tupK s) 1 H.h)]) (fun q => c.W.toNat + 1 ≤ q.1 ∧ c.T.toNat ≤ q.2) (fun _ => .c (.ptr 3 (.k 0) (.k 0) 0 8)) (fun q => hN28 c q))
end
end Go.Proofs.YtbidbhfjnfgblaaGreat.En

/- The reference engine, made: the conditions, printed by program. -/
set_option maxRecDepth 100000
namespace Go.Proofs.YtbidbhfjnfgblaaGreat.En
open Go Go.RowKit Sx Cn Dc Ck Vc Md

theorem vN28_eq (c : Cf) : V.pr .z (vN28 c) =
  nN [qE c.W, qE c.L, qE c.C, qE c.T, qE c.D, qE c.H, qE c.B, qE c.A, qE c.P, qE c.nP, qE c.rc, qE c.nU, qE c.cu, (1, .le 1 1), (1, .pf (∀ (i : Nat), i < 1 → c.nP ≤ c.nP) (by intros; exact Nat.le_refl _)), (1, .pf (∀ (i e : Nat), i < 1 ∧ e < c.nP → e = e) (by intros; rfl)), (1, .pf (∀ (i e : Nat), i < 1 ∧ e < c.nP → c.lenP e = c.lenP e) (by intros; rfl)), (1, .pf (∀ (i e : Nat), i < 1 ∧ e < c.nP → c.FC e = c.FC e) (by intros; rfl)), (1, .le 1 1), (1, .pf (∀ (i : Nat), i < 1 → c.nU ≤ c.nU) (by intros; exact Nat.le_refl _)), (1, .pf (∀ (i e : Nat), i < 1 ∧ e < c.nU → c.uP e = c.uP e) (by intros; rfl)), (1, .pf (∀ (i e : Nat), i < 1 ∧ e < c.nU → c.uL e = c.uL e) (by intros; rfl)), (1, .pf (∀ (i e : Nat), i < 1 ∧ e < c.nU → c.uD e = c.uD e) (by intros; rfl)), qL c.nP, (1, .pf (∀ (i : Nat), i < c.nP → c.lenP i ≤ c.lenP i) (by intros; exact Nat.le_refl _)), (1, .pf (∀ (i e : Nat), i < c.nP ∧ e < c.lenP i → c.iO i e = c.iO i e) (by intros; rfl)), (1, .pf (∀ (i e : Nat), i < c.nP ∧ e < c.lenP i → c.iA i e = c.iA i e) (by intros; rfl)), (1, .pf (∀ (i e : Nat), i < c.nP ∧ e < c.lenP i → c.iB i e = c.iB i e) (by intros; rfl))]
    (V.need (okY c)
    (V.need (∃ (x : Nat), c.T.toNat ≤ x)
    (V.any Nat (fun (x : Nat) => c.T.toNat ≤ x) fun (x : Nat) => V.need (Int.ofNat 0 ≤ Int.ofNat 0 ∧ Int.ofNat 0 ≤ c.W ∧ 0 ≤ 0)
    (nN [(1, .eqI 0 0), (3, .eq 0 0), (1, .le 0 0)]
    (V.any (Int × Nat) (fun (q : Int × Nat) => Int.ofNat 0 ≤ q.fst ∧ q.fst ≤ c.W ∧ q.fst.toNat ≤ q.snd) fun (x_1 : Int × Nat) => nN [(2, .lt2 0 1 0 1)]
    (V.br (decide (x_1.fst < c.W))
    (nN [(5, .lt2 0 1 0 1)]
    (V.need (c.T ≠ Int.ofNat 0)
    (nN [(1, .lt2 0 1 0 1)]
    (V.need (x_1.fst.toNat ≤ x_1.fst.toNat ∧ x_1.snd = x_1.snd)
    (V.need (x_1.fst.toNat + 1 ≤ 9223372036854775807 ∧ (x_1.fst.toNat + 1) * 8 ≤ 140737488355328)
    (V.any Nat (fun (x : Nat) => x_1.fst.toNat + 1 ≤ x) fun (x : Nat) => nN [(2, .lt2 0 1 0 1)]
    (V.need (Int.ofNat 0 ≤ IntKind.i64.wrap (x_1.fst + Int.ofNat 1) ∧ IntKind.i64.wrap (x_1.fst + Int.ofNat 1) ≤ c.W ∧ (IntKind.i64.wrap (x_1.fst + Int.ofNat 1)).toNat ≤ x)
    (V.need ((c.W - IntKind.i64.wrap (x_1.fst + Int.ofNat 1)).toNat < (c.W - x_1.fst).toNat)
    (nN [qE (IntKind.i64.wrap (x_1.fst + Int.ofNat 1))]
    (V.need (x_1.fst.toNat + 1 = (IntKind.i64.wrap (x_1.fst + Int.ofNat 1)).toNat)
    (nN [qE x, qE x]
    (V.need ((IntKind.i64.wrap (x_1.fst + Int.ofNat 1)).toNat ≤ x_1.fst.toNat + 1) V.ok))))))))))))
    (nN [(4, .lt2 0 1 0 1)]
    (V.need (x_1.fst.toNat ≤ x_1.fst.toNat ∧ x_1.snd = x_1.snd)
    (V.need (x_1.fst.toNat + 1 ≤ 9223372036854775807 ∧ (x_1.fst.toNat + 1) * 8 ≤ 140737488355328)
    (V.any Nat (fun (x : Nat) => x_1.fst.toNat + 1 ≤ x) fun (x_2 : Nat) => nN [(2, .lt2 0 1 0 1)]
    (V.need (c.W.toNat + 1 ≤ x_2 ∧ c.T.toNat ≤ x)
    (V.need (x_1.fst.toNat + 1 = c.W.toNat + 1)
    (nN [qE x_2, (5, .eqI 0 0), qE c.W, qE c.L, qE c.C, qE c.T, qE c.D, qE c.H, qE c.B, qE c.A, qE c.P, qE c.nP, qE c.rc, qE c.nU, qE c.cu, qE (ncN c), qE (ncN c), (7, .eqI 0 0), qE c.T.toNat, qE x, qE (ncN c)]
    (V.need (ncN c ≤ ncN c)
    (nN [(1, .pf (∀ (e : Nat), e < ncN c → Int.ofNat 0 = Int.ofNat 0) (by intros; rfl)), qE x, qL c.T.toNat, qF c.T.toNat (fun (e : Nat) => Int.ofNat 0), qF c.T.toNat (fun (e : Nat) => -Int.ofNat 1), qF c.T.toNat (fun (e : Nat) => Int.ofNat 0), qF c.T.toNat (fun (e : Nat) => Int.ofNat 0), qF c.T.toNat (fun (e : Nat) => -Int.ofNat 1), qF c.T.toNat (fun (e : Nat) => false), qE x_2]
    (V.need (c.W.toNat + 1 ≤ x_1.fst.toNat + 1) V.ok)))))))))))))))) := by kernel_rfl


end Go.Proofs.YtbidbhfjnfgblaaGreat.En

/- The reference's engine, made: the contract. -/
set_option maxRecDepth 100000
namespace Go.Proofs.YtbidbhfjnfgblaaGreat.En
open Go Go.RowKit Sx Cn Dc Ck Vc Md
theorem vhN28 {c : Cf} (h : okY c) : VHolds (vN28 c) := by
  have hW := h.1
  have hT := h.2.2.2.1
  refine VHolds.pr (vN28_eq ..) ?_
  ((repeat' first | with_reducible refine nN_h rfl ?_ | with_reducible refine V.brT ?_ | with_reducible refine V.brF ?_ | with_reducible refine V.needI ?_ ?_) <;> (try first | with_reducible exact V.okI | exact rfl | exact ⟨Nat.le_refl _, rfl⟩ | exact Nat.le_refl _ | assumption | omega | trivial | decide | (intros; rfl) | (intros; trivial)))
  · exact ⟨_, Nat.le_refl _⟩
  refine V.anyI fun y hy => ?_
  ((repeat' first | with_reducible refine nN_h rfl ?_ | with_reducible refine V.brT ?_ | with_reducible refine V.brF ?_ | with_reducible refine V.needI ?_ ?_) <;> (try first | with_reducible exact V.okI | exact rfl | exact ⟨Nat.le_refl _, rfl⟩ | exact Nat.le_refl _ | assumption | omega | trivial | decide | (intros; rfl) | (intros; trivial)))
  · exact ⟨Int.le_refl _, by show (0 : Int) ≤ c.W; omega, Nat.le_refl _⟩
  refine V.anyI fun q hq => ?_
  obtain ⟨i, c1⟩ := q
  dsimp only at hq ⊢
  obtain ⟨h0, h1, h2⟩ := hq
  obtain ⟨i, rfl⟩ := Int.eq_ofNat_of_zero_le h0
  simp only [Int.ofNat_eq_natCast, Int.natCast_one, Int.natCast_zero, Int.toNat_natCast] at h0 h1 h2 ⊢
  refine nN_h rfl (V.brI (fun hi => ?_) fun hi => ?_)
  · have hi : (i : Int) < c.W := of_decide_eq_true hi
    have ei : IntKind.i64.wrap ((i : Int) + 1) = ((i + 1 : Nat) : Int) := wnat (by omega)
    simp only [ei, Int.toNat_natCast]
    ((repeat' first | with_reducible refine nN_h rfl ?_ | with_reducible refine V.brT ?_ | with_reducible refine V.brF ?_ | with_reducible refine V.needI ?_ ?_) <;> (try first | with_reducible exact V.okI | exact rfl | exact ⟨Nat.le_refl _, rfl⟩ | exact Nat.le_refl _ | assumption | omega | trivial | decide | (intros; rfl) | (intros; trivial)))
    · exact ⟨Nat.le_refl _, trivial⟩
    refine V.anyI fun c2 hc2 => ?_
    ((repeat' first | with_reducible refine nN_h rfl ?_ | with_reducible refine V.brT ?_ | with_reducible refine V.brF ?_ | with_reducible refine V.needI ?_ ?_) <;> (try first | with_reducible exact V.okI | exact rfl | exact ⟨Nat.le_refl _, rfl⟩ | exact Nat.le_refl _ | assumption | omega | trivial | decide | (intros; rfl) | (intros; trivial)))
  · have hi : ¬ (i : Int) < c.W := of_decide_eq_false hi
    ((repeat' first | with_reducible refine nN_h rfl ?_ | with_reducible refine V.brT ?_ | with_reducible refine V.brF ?_ | with_reducible refine V.needI ?_ ?_) <;> (try first | with_reducible exact V.okI | exact rfl | exact ⟨Nat.le_refl _, rfl⟩ | exact Nat.le_refl _ | assumption | omega | trivial | decide | (intros; rfl) | (intros; trivial)))
    · exact ⟨Nat.le_refl _, trivial⟩
    refine V.anyI fun c2 hc2 => ?_
    ((repeat' first | with_reducible refine nN_h rfl ?_ | with_reducible refine V.brT ?_ | with_reducible refine V.brF ?_ | with_reducible refine V.needI ?_ ?_) <;> (try first | with_reducible exact V.okI | exact rfl | exact ⟨Nat.le_refl _, rfl⟩ | exact Nat.le_refl _ | assumption | omega | trivial | decide | (intros; rfl) | (intros; trivial)))
    all_goals trace_state
noncomputable section
def cN28 : List SV → Hp → Out (SV × Hp) := conCfP fun c => .need (okY c) (.any (Nat × Nat) (fun q => c.W.toNat + 1 ≤ q.1 ∧ c.T.toNat ≤ q.2) fun q => .leaf (.c (.ptr 3 (.k 0) (.k 0) 0 8), ⟨hN28 c q, 8, fun _ => True⟩))
theorem cN28_ok : ContractOK P fN28 cN28 := conCfP_ok fun c => local_of_ver conNr_ok fun h => vhN28 h
end
end Go.Proofs.YtbidbhfjnfgblaaGreat.En

/- The two environments of a configuration, with an empty script: what is asked. -/
set_option maxRecDepth 100000
namespace Go.Proofs.YtbidbhfjnfgblaaGreat.En
open Go Go.RowKit Sx Cn Dc Ck Vc Md
structure Ev where
  d : Cf
  n : Nat
  m : Mm
  x : Rk
  now : Int
  dr : Int
  a : Rm
  b : Rm
def okEv (c : Cf) (v : Ev) : Prop := IsCl c v.d ∧ v.n = ncN c ∧ v.x.n = c.T.toNat ∧ okRk v.x ∧ (∀ e, e < v.x.n → v.x.kl e ≤ v.a.k e) ∧ (∀ e, e < v.x.n → v.x.kl e ≤ v.b.k e) ∧ v.n ≤ v.a.c ∧ v.n ≤ v.b.c ∧ v.x.n ≤ v.a.r ∧ v.x.n ≤ v.b.r ∧ okMw 1000000 v.m
noncomputable section
def eR (c : Cf) (v : Ev) : Rv := ⟨c, v.n, v.b.c, v.m, v.now, v.dr, v.x.n, v.b.r, 0, v.b.e⟩
def evB (n cap : Nat) : Blk := .row 156 cap n noEv
def eE (c : Cf) (v : Ev) : Blk := .own 43 26 ((cfL 10 11 v.d ++ layL c ++ [.ptr 4 (.k 0) (.k 0) 0 6, .ptr 6 (.k 0) (.k 0) 0 2, slK 7 7 v.x.n v.a.r, slK 9 5 0 v.a.e]).map some)
def hEv (c : Cf) (v : Ev) : HL := [(3, eE c v), (4, pmB 5 v.n v.a.c v.m), (5, wRow v.a.c v.n v.m), (6, clkB v.now v.dr), (7, v.x.row 8 v.a.k v.a.r), (8, v.x.fam v.x.n v.a.k), (9, evB 0 v.a.e)] ++ hOwn 10 v.d ++
  [(13, (eR c v).b 0 1 14 15 17), (14, wRow v.b.c v.n v.m), (15, v.x.row 16 v.b.k v.b.r), (16, v.x.fam v.x.n v.b.k), (17, evB 0 v.b.e)]
def fEv : FuncId := 7
def svEv : SV := .t [.c (.ptr 3 (.k 0) (.k 0) 0 26), .c (.ptr 13 (.k 0) (.k 0) 0 21), .c (.kb true)]
def setM (cs : List (Option SC)) (m : Mm) : List (Option SC) := ((((cs.set 12 (some (i6 m.lk))).set 13 (some (i6 m.lc))).set 14 (some (uw m.lo))).set 15 (some (uw m.ln))).set 16 (some (i6 m.ct))
def pmBs (t : Nat) (s : St) : Option (Mm → List Blk) := match find (envM t s) s.H.h, find (envC t s) s.H.h with
  | some (.own tm sm (some (.slc kc a b z len cap) :: _)), some (.row t2 c2 n _) => some fun m => [.own tm sm ([.slc kc a b z len cap, i6 m.lk, i6 m.lc, uw m.lo, uw m.ln, i6 m.ct].map some), .row t2 c2 n [.ci .u64 fun _ e => m.g e]]
  | _, _ => none
def renC (t : Nat) (s : St) : Nat := scK (bCell (tmK t s) 11 s.H.h)
def rmBs (t : Nat) (s : St) : Option (Mm → List Blk) := match find (tmK t s) s.H.h, find (renC t s) s.H.h with
  | some (.own te se cs), some (.row t2 c2 n _) => some fun m => [.own te se (setM cs m), .row t2 c2 n [.ci .u64 fun _ e => m.g e]]
  | _, _ => none
structure XIm where
  i : Int
  m : Mm
def laEv (n : Nat) (s : St) : Option (LA XIm) := match pmBs 11 s, rmBs 10 s with
  | some p, some r => some ⟨[(envM 11, true), (envC 11, true), (tmK 10, true), (renC 10, true)], fun x => p x.m ++ r x.m, [13], fun x => [iv x.i],
    fun s => match tmI 13 s, rdMm s.H.h (envM 11 s) with | some i, some y => some ⟨i, y.m⟩ | _, _ => none, fun x => 0 ≤ x.i ∧ x.i ≤ n ∧ okMw x.i x.m, fun x => n - x.i.toNat⟩
  | _, _ => none
def xRec (s : St) : Nat := scK (bCell (scK (bCell (tmK 9 s) 0 s.H.h)) 19 s.H.h)
def rdEvs (s : SV) (H : Hp) : Option Ev := match s with
  | .t [.c (.ptr ke _ _ _ _), .c (.ptr kr _ _ _ _), _] => fN ke fun ke => fN kr fun kr => fN (scK (bCell ke 22 H.h)) fun km => fN (scK (bCell ke 23 H.h)) fun kk => match cfE ke H.h, rdMm H.h km, ceS ke 24 H.h, ceS ke 25 H.h, ceI kk 0 H.h, ceI kk 1 H.h, rdRv kr H.h with
    | some d, some y, some (e4, xn, xr), some (e5, _, er), some now, some dr, some (r, [_, _, _, _, r4, _]) => match rdRk e4 xn H.h, kidK r4 H.h with
      | some (x, _, c1), some (_, c2) => some ⟨d, y.len.v, y.m, x, now, dr, ⟨y.cap.v, xr, c1, er⟩, ⟨r.cap, r.rc, c2, r.nc⟩⟩
      | _, _ => none
    | _, _, _, _, _, _, _ => none
  | _ => none
def LEv (s : SV) (H : Hp) : List Nat := match s with
  | .t [.c (.ptr ke _ _ _ _), .c (.ptr kr _ _ _ _), _] => fN ke fun ke => fN kr fun kr => match ceS ke 24 H.h, ceS ke 25 H.h, ceS kr 11 H.h, ceS kr 19 H.h, ceS kr 20 H.h, ceS ke 9 H.h, ceS ke 10 H.h with
    | some (e4, _, _), some (e5, _, _), some (r1, _, _), some (r4, _, _), some (r5, _, _), some (p, _, _), some (u, _, _) => match kidK e4 H.h, kidK r4 H.h with
      | some (f1, _), some (f2, _) => [ke, scK (bCell ke 22 H.h), scK (bCell (scK (bCell ke 22 H.h)) 0 H.h), scK (bCell ke 23 H.h), e4, f1, e5, p, u, (match find p H.h with | some (.row _ _ _ [.cs kF _ _ _ _]) => kF | _ => 0), kr, r1, r4, f2, r5]
      | _, _ => []
    | _, _, _, _, _, _, _ => []
  | _ => []
def conEv : Con := Con.add fN28 cN28 (Con.add 20 conNewR (Con.add 21 conNewNB (Con.add fRA cRA (Con.add fDi cDi (Con.add fCp cCp (Con.add fSm cSm (conU con0)))))))
theorem conEv_ok : ConOK P conEv := .add cN28_ok (.add conNewR_ok (.add conNewNB_ok (.add cRA_ok (.add cDi_ok (.add cCp_ok (.add cSm_ok (conU_ok ConOK.nil)))))))
def vEv (c : Cf) : V := verF P conEv 6 8 fEv [] (.loop XIm [.nilCell (tmK 10) 20 156 5 (fun _ => noEv), .nilCell (tmK 11) 25 156 5 (fun _ => noEv), .nilCol xRec 5 3 1 [.ci .i64 fun _ _ => 0]] (laEv (ncN c)) .nil (.unroll [] (.unroll [] .nil)))
  [argC c, .c .nils, .c .nils] ⟨hC c, 3, fun _ => True⟩ (finV (X := Ev) 3 18 rdEvs LEv (okEv c) (fun _ => svEv) (hEv c))
end
end Go.Proofs.YtbidbhfjnfgblaaGreat.En

/- Two environments made: the conditions, printed by program. -/
set_option maxRecDepth 100000
namespace Go.Proofs.YtbidbhfjnfgblaaGreat.En
open Go Go.RowKit Sx Cn Dc Ck Vc Md

abbrev qEv0 (a0 : Cf) (k : V) : V := V.need (okRk (Rk.mk a0.T.toNat (fun (i : Nat) => Int.ofNat 0) (fun (i : Nat) => -Int.ofNat 1) (fun (i : Nat) => Int.ofNat 0) (fun (i : Nat) => Int.ofNat 0) (fun (i : Nat) => -Int.ofNat 1) (fun (i : Nat) => 0) (fun (i j : Nat) => Int.ofNat 0) fun (i : Nat) => false)) (V.need (∃ (x : Nat × (Nat → Nat)), a0.T.toNat ≤ x.fst ∧ ∀ (e : Nat), e < a0.T.toNat → 0 ≤ x.snd e) k)
abbrev qEv1 (a0 : Cf) (l : List (Nat × P0)) : List (Nat × P0) := (1, .pf (∀ (i e : Nat), i = 0 ∧ e < a0.T.toNat → Int.ofNat 0 = Int.ofNat 0) (by intros; rfl)) :: (1, .pf (∀ (i e : Nat), i = 0 ∧ e < a0.T.toNat → -Int.ofNat 1 = -Int.ofNat 1) (by intros; rfl)) :: l
abbrev qEv2 (a0 : Cf) (l : List (Nat × P0)) : List (Nat × P0) := (1, .pf (∀ (i : Nat), i < a0.nP → a0.lenP i ≤ a0.lenP i) (by intros; exact Nat.le_refl _)) :: (1, .pf (∀ (i e : Nat), i < a0.nP ∧ e < a0.lenP i → a0.iO i e = a0.iO i e) (by intros; rfl)) :: l
abbrev qEv3 (a0 : Cf) (l : List (Nat × P0)) : List (Nat × P0) := (1, .pf (∀ (i e : Nat), i < a0.nP ∧ e < a0.lenP i → a0.iA i e = a0.iA i e) (by intros; rfl)) :: (1, .pf (∀ (i e : Nat), i < a0.nP ∧ e < a0.lenP i → a0.iB i e = a0.iB i e) (by intros; rfl)) :: l
abbrev qEv4 (a0 : Cf) (l : List (Nat × P0)) : List (Nat × P0) := (1, .pf (∀ (i e : Nat), i < 1 ∧ e < a0.nP → a0.lenP e = a0.lenP e) (by intros; rfl)) :: (1, .pf (∀ (i e : Nat), i < 1 ∧ e < a0.nP → a0.FC e = a0.FC e) (by intros; rfl)) :: l
abbrev qEv5 (a0 : Cf) (l : List (Nat × P0)) : List (Nat × P0) := (1, .pf (∀ (i : Nat), i < 1 → a0.nU ≤ a0.nU) (by intros; exact Nat.le_refl _)) :: (1, .pf (∀ (i e : Nat), i < 1 ∧ e < a0.nU → a0.uP e = a0.uP e) (by intros; rfl)) :: l
abbrev qEv6 (a0 : Cf) (l : List (Nat × P0)) : List (Nat × P0) := (1, .pf (∀ (i e : Nat), i < 1 ∧ e < a0.nU → a0.uL e = a0.uL e) (by intros; rfl)) :: (1, .pf (∀ (i e : Nat), i < 1 ∧ e < a0.nU → a0.uD e = a0.uD e) (by intros; rfl)) :: l
abbrev qEv7 (a0 : Cf) (l : List (Nat × P0)) : List (Nat × P0) := (1, .pf (∀ (i : Nat), i < 1 → a0.nP ≤ a0.nP) (by intros; exact Nat.le_refl _)) :: (1, .pf (∀ (i e : Nat), i < 1 ∧ e < a0.nP → e = e) (by intros; rfl)) :: l
abbrev qEv8 (a0 : Cf) (a1 : Nat × (Nat → Nat)) (k : V) : V := V.need (∀ (i : Nat), upto a0.T.toNat (fun (i : Nat) => 0) i ≤ a1.snd i ∧ upto a0.T.toNat (fun (i : Nat) => 0) i ≤ upto a0.T.toNat (fun (i : Nat) => 0) i) (nN [(1, .pf (∀ (i e : Nat), e < upto a0.T.toNat (fun (i : Nat) => 0) i → Int.ofNat 0 = Int.ofNat 0) (by intros; rfl))] k)
abbrev qEv9 (a0 : Cf) (l : List (Nat × P0)) : List (Nat × P0) := qF a0.T.toNat (fun (e : Nat) => Int.ofNat 0) :: qF a0.T.toNat (fun (e : Nat) => -Int.ofNat 1) :: l
abbrev qEv10 (l : List (Nat × P0)) : List (Nat × P0) := qF 0 (fun (e : Nat) => Int.ofNat 0) :: qF 0 (fun (e : Nat) => Int.ofNat 0) :: l
abbrev qEv11 (a0 : Cf) (a1 : Nat × (Nat → Nat)) (k : V) : V := V.need (∀ (i : Nat), i < a0.T.toNat → 0 ≤ upto a0.T.toNat (fun (i : Nat) => 0) i ∧ 0 ≤ a1.snd i) (nN [(1, .pf (∀ (i e : Nat), i < a0.T.toNat ∧ e < 0 → Int.ofNat 0 = Int.ofNat 0) (by intros; rfl))] k)
abbrev qEv12 (a0 : Cf) (l : List (Nat × P0)) : List (Nat × P0) := (2, .pf (∀ (i e : Nat), i = 0 ∧ e < a0.T.toNat → Int.ofNat 0 = Int.ofNat 0) (by intros; rfl)) :: (1, .pf (∀ (i e : Nat), i = 0 ∧ e < a0.T.toNat → -Int.ofNat 1 = -Int.ofNat 1) (by intros; rfl)) :: (1, .pf (∀ (i e : Nat), i = 0 ∧ e < a0.T.toNat → e = e) (by intros; rfl)) :: l
abbrev qEv13 (a0 : Cf) (k : V) : V := V.need (∀ (i : Nat), i < a0.T.toNat → 0 ≤ 0 ∧ 0 ≤ 0) (nN [(1, .pf (∀ (i e : Nat), i < a0.T.toNat ∧ e < 0 → Int.ofNat 0 = Int.ofNat 0) (by intros; rfl))] k)
abbrev qEv14 (a0 : Cf) (a1 : Nat × (Nat → Nat)) (l : List (Nat × P0)) : List (Nat × P0) := (1, .pf (∀ (i e : Nat), i = 0 ∧ e < a0.T.toNat → a1.snd e = a1.snd e) (by intros; rfl)) :: (1, .pf (∀ (i e : Nat), i = 0 ∧ e < a0.T.toNat → false = false) (by intros; rfl)) :: l
abbrev qEv15 (l : List (Nat × P0)) : List (Nat × P0) := (1, .le2 0 0 0 0) :: (5, .pf (∀ (i e : Nat), i = 0 ∧ e < 0 → Int.ofNat 0 = Int.ofNat 0) (by intros; rfl)) :: l
abbrev qEv16 (a0 : XIm) (a1 : Cf) (k : V) : V := V.need (Int.ofNat 0 ≤ a0.i ∧ a0.i < (↑(ncN a1) : Int)) (V.need (0 < 1 ∧ 0 + a0.i.toNat < ncN a1) k)
abbrev qEv17 (a0 : Cf) (l : List (Nat × P0)) : List (Nat × P0) := qEv12 a0 ((1, .pf (∀ (i e : Nat), i = 0 ∧ e < a0.T.toNat → 0 = 0) (by intros; rfl)) :: l)
abbrev qEv18 (a0 : Cf) (a1 : Nat × (Nat → Nat)) (k : V) : V := nN [qF a0.T.toNat (fun (e : Nat) => false)] (V.need (∀ (i : Nat), a1.snd i = a1.snd i ∨ a1.snd i = 0) k)
abbrev qEv19 (a0 : XIm) (l : List (Nat × P0)) : List (Nat × P0) := qE a0.m.lk :: qE a0.m.lc :: qE a0.m.lo :: qE a0.m.ln :: qE a0.m.ct :: l
set_option maxHeartbeats 8000000 in
theorem vEv_eq (c : Cf) : V.pr (.b .z (.b .z (.b .z (.f .z)))) (vEv c) =
  nN (qE c.W :: qE c.L :: qE c.C :: qE c.T :: qE c.D :: qE c.H :: qE c.B :: qE c.A :: qE c.P :: qE c.nP :: qE c.rc :: qE c.nU :: qE c.cu :: (1, .le 1 1) :: qEv7 c (qEv4 c ((1, .le 1 1) :: qEv5 c (qEv6 c (qL c.nP :: qEv2 c (qEv3 c [])))))) (V.need (okY c) (V.need (∃ (x : Nat × Nat), c.W.toNat + 1 ≤ x.fst ∧ c.T.toNat ≤ x.snd) (V.any (Nat × Nat) (fun (q : Nat × Nat) => c.W.toNat + 1 ≤ q.fst ∧ c.T.toNat ≤ q.snd) fun (x : Nat × Nat) => nN (qE c.W :: qE c.L :: qE c.C :: qE c.T :: qE c.D :: qE c.H :: qE c.B :: qE c.A :: qE c.P :: qE c.nP :: qE c.rc :: qE c.nU :: qE c.cu :: (1, .le 1 1) :: qEv7 c (qEv4 c ((1, .le 1 1) :: qEv5 c (qEv6 c (qL c.nP :: qEv2 c (qEv3 c [])))))) (V.need (okY c) (V.need (∃ (x : Nat), c.T.toNat ≤ x) (V.any Nat (fun (x : Nat) => c.T.toNat ≤ x) fun (x_1 : Nat) => nN (qE c.W :: qE c.L :: qE c.C :: qE c.T :: qE c.D :: qE c.H :: qE c.B :: qE c.A :: qE c.P :: qE c.nP :: qE c.rc :: qE c.nU :: qE c.cu :: (1, .le 1 1) :: qEv7 c (qEv4 c ((1, .le 1 1) :: qEv5 c (qEv6 c (qL c.nP :: qEv2 c (qEv3 c [])))))) (V.need (errE c = Int.ofNat 0) (V.need (∃ (x : Cf × Nat), IsCl c x.fst ∧ c.T.toNat ≤ x.snd) (V.any (Cf × Nat) (fun (x : Cf × Nat) => IsCl c x.fst ∧ c.T.toNat ≤ x.snd) fun (x_2 : Cf × Nat) => nN [(1, .pf (∃ (x : Nat × Int), x = (ncN c, lT c)) ⟨_, rfl⟩)] (V.any (Nat × Int) (fun (q : Nat × Int) => q = (ncN c, lT c)) fun (x_3 : Nat × Int) => nN [(14, .lt2 0 1 0 1)] (V.br ((↑c.T.toNat : Int) != c.T) (V.bad 412) (nN [(10, .lt2 0 1 0 1)] (V.br ((↑x_3.fst : Int) != (↑(ncN c) : Int)) (V.bad 412) (V.need (Int.ofNat 0 ≤ Int.ofNat 0 ∧ Int.ofNat 0 ≤ (↑(ncN c) : Int) ∧ okMw (Int.ofNat 0) (Mm.mk (fun (e : Nat) => Int.ofNat 0) (Int.ofNat 0) (Int.ofNat 0) (Int.ofNat 0) (Int.ofNat 0) (Int.ofNat 0))) (nN [(1, .eqI 0 0), qE x_3.fst, qE x_3.fst, (5, .eqI 0 0), qE x_3.fst, qL x_3.fst, qF x_3.fst (fun (e : Nat) => Int.ofNat 0), qE c.W, qE c.L, qE c.C, qE c.T, qE c.D, qE c.H, qE c.B, qE c.A, qE c.P, qE c.nP, qE c.rc, qE c.nU, qE c.cu, qE (ncN c), qE (ncN c), (7, .eqI 0 0), qE c.T.toNat, qE x_1, (2, .eq 0 0), qE (ncN c)] (V.need (ncN c ≤ ncN c) (nN [(1, .pf (∀ (e : Nat), e < ncN c → Int.ofNat 0 = Int.ofNat 0) (by intros; rfl))] (V.any XIm (fun (x : XIm) => Int.ofNat 0 ≤ x.i ∧ x.i ≤ (↑(ncN c) : Int) ∧ okMw x.i x.m) fun (x_4 : XIm) => V.br (decide (x_4.i < (↑(ncN c) : Int)))
 (nN [(9, .lt2 0 1 0 1)] (qEv16 x_4 c (V.need (0 < 1 ∧ 0 + x_4.i.toNat < ncN c) (nN (qE x_4.i :: (2, .eqI 0 0) :: qE c.W :: qE c.L :: qE c.C :: qE c.T :: qE c.D :: qE c.H :: qE c.B :: qE c.A :: qE c.P :: qE c.nP :: qE c.rc :: qE c.nU :: qE c.cu :: qE (ncN c) :: qE (ncN c) :: qEv19 x_4 [(2, .eqI 0 0), qE c.T.toNat, qE x_1, (2, .eq 0 0), qE (ncN c)]) (V.need (ncN c ≤ ncN c) (nN [(1, .pf (∀ (e : Nat), e < ncN c → x_4.m.g e = x_4.m.g e) (by intros; rfl)), (1, .le 0 1)] (V.need (∀ (i : Nat), i < 0 → 0 ≤ c.nP) (nN [(1, .le 0 1)] (V.need (∀ (i : Nat), i < 0 → 0 ≤ c.nU) (nN [(1, .le 0 1)] (V.need (∀ (i : Nat), i < 0 → 0 ≤ c.T.toNat) (nN [(1, .le 0 1), (1, .pf (∀ (i : Nat), i < 0 → 0 ≤ 0) (by intros; exact Nat.le_refl _)), qX (x_4.m.acc (ncN c) (Int.ofNat 2) x_4.i (Int.ofNat 0))] (V.any Mm (fun (m' : Mm) => m' = x_4.m.acc (ncN c) (Int.ofNat 2) x_4.i (Int.ofNat 0)) fun (x : Mm) => nN [(10, .lt2 0 1 0 1)] (qEv16 x_4 c (V.need (0 < 1 ∧ 0 + x_4.i.toNat < ncN c) (nN (qE x_4.i :: (1, .eqI 0 0) :: qE x_3.fst :: qE x_3.fst :: qEv19 x_4 [qE x_3.fst, qL x_3.fst, qF x_3.fst x_4.m.g, qX (x_4.m.acc x_3.fst (Int.ofNat 2) x_4.i (Int.ofNat 0))]) (V.any Mm (fun (m' : Mm) => m' = x_4.m.acc x_3.fst (Int.ofNat 2) x_4.i (Int.ofNat 0)) fun (x_5 : Mm) => V.need (Int.ofNat 0 ≤ IntKind.i64.wrap (x_4.i + Int.ofNat 1) ∧ IntKind.i64.wrap (x_4.i + Int.ofNat 1) ≤ (↑(ncN c) : Int) ∧ okMw (IntKind.i64.wrap (x_4.i + Int.ofNat 1)) x_5) (V.need (ncN c - (IntKind.i64.wrap (x_4.i + Int.ofNat 1)).toNat < ncN c - x_4.i.toNat) (nN [qE (IntKind.i64.wrap (x_4.i + Int.ofNat 1)), qE x_3.fst, qE x_3.fst, qE x_5.lk, qE x_5.lc, qE x_5.lo, qE x_5.ln, qE x_5.ct, qE x_3.fst, qL x_3.fst, qF x_3.fst x_5.g, qE c.W, qE c.L, qE c.C, qE c.T, qE c.D, qE c.H, qE c.B, qE c.A, qE c.P, qE c.nP, qE c.rc, qE c.nU, qE c.cu, qE (ncN c), qE (ncN c)] (V.need (x.lk = x_5.lk) (V.need (x.lc = x_5.lc) (V.need (x.lo = x_5.lo) (V.need (x.ln = x_5.ln) (V.need (x.ct = x_5.ct) (nN [(2, .eqI 0 0), qE c.T.toNat, qE x_1, (2, .eq 0 0), qE (ncN c)] (V.need (ncN c ≤ ncN c) (V.need (∀ (e : Nat), e < ncN c → x.g e = x_5.g e) V.ok)))))))))))))))))))))))))))
 (nN [(16, .lt2 0 1 0 1), qE false, (12, .lt2 0 1 0 1), qE c.T.toNat, qE x.snd, (1, .le 1 1), (1, .pf (∀ (i : Nat), i < 1 → c.T.toNat ≤ c.T.toNat) (by intros; exact Nat.le_refl _)), (1, .pf (∀ (i e : Nat), i < 1 ∧ e < c.T.toNat → Int.ofNat 0 = Int.ofNat 0) (by intros; rfl)), (1, .pf (∀ (i e : Nat), i < 1 ∧ e < c.T.toNat → -Int.ofNat 1 = -Int.ofNat 1) (by intros; rfl)), (2, .pf (∀ (i e : Nat), i < 1 ∧ e < c.T.toNat → Int.ofNat 0 = Int.ofNat 0) (by intros; rfl)), (1, .pf (∀ (i e : Nat), i < 1 ∧ e < c.T.toNat → -Int.ofNat 1 = -Int.ofNat 1) (by intros; rfl)), (1, .pf (∀ (i e : Nat), i < 1 ∧ e < c.T.toNat → e = e) (by intros; rfl)), (2, .pf (∀ (i e : Nat), i < 1 ∧ e < c.T.toNat → 0 = 0) (by intros; rfl)), (1, .pf (∀ (i e : Nat), i < 1 ∧ e < c.T.toNat → false = false) (by intros; rfl))] (qEv13 c (qEv0 c (V.any (Nat × (Nat → Nat)) (fun (q : Nat × (Nat → Nat)) => c.T.toNat ≤ q.fst ∧ ∀ (e : Nat), e < c.T.toNat → 0 ≤ q.snd e) fun (x_5 : Nat × (Nat → Nat)) => nN [(6, .lt2 0 1 0 1), qE c.T.toNat, qE x.snd, (1, .le 1 1)] (V.need (c.T.toNat ≤ c.T.toNat ∧ c.T.toNat ≤ x.snd) (nN (qEv1 c (qEv12 c [(2, .pf (∀ (i e : Nat), i = 0 ∧ e < c.T.toNat → 0 = 0) (by intros; rfl)), (1, .pf (∀ (i e : Nat), i = 0 ∧ e < c.T.toNat → false = false) (by intros; rfl))])) (qEv13 c (qEv0 c (V.any (Nat × (Nat → Nat)) (fun (q : Nat × (Nat → Nat)) => c.T.toNat ≤ q.fst ∧ ∀ (e : Nat), e < c.T.toNat → 0 ≤ q.snd e) fun (x : Nat × (Nat → Nat)) => nN ((4, .lt2 0 1 0 1) :: qE c.T.toNat :: qE x.fst :: (2, .eq 0 0) :: qE x_3.fst :: qE x_3.fst :: qEv19 x_4 [(1, .le 1 1)]) (V.need (x_3.fst ≤ x_3.fst ∧ x_3.fst ≤ x_3.fst) (nN [(1, .pf (∀ (i e : Nat), i = 0 ∧ e < x_3.fst → x_4.m.g e = x_4.m.g e) (by intros; rfl)), (1, .eqI 0 0), (1, .le 1 1)] (V.need (c.T.toNat ≤ c.T.toNat ∧ c.T.toNat ≤ x.fst) (nN (qEv1 c (qEv17 c (qEv14 c x ((1, .le 1 1) :: qEv15 [])))) (V.need (ncN c = x_3.fst) (nN (qE (ncN c) :: qEv19 x_4 [(1, .eqI 0 0), qE c.T.toNat, qE x_5.fst, (2, .eq 0 0), (1, .le 1 1)]) (V.need (x_3.fst ≤ ncN c ∧ x_3.fst ≤ ncN c) (nN [(1, .pf (∀ (i e : Nat), i = 0 ∧ e < x_3.fst → x_4.m.g e = x_4.m.g e) (by intros; rfl)), (1, .le 1 1)] (V.need (c.T.toNat ≤ c.T.toNat ∧ c.T.toNat ≤ x_5.fst) (nN (qEv1 c (qEv17 c (qEv14 c x_5 ((1, .le 1 1) :: qEv15 [])))) (qEv11 c x (qEv11 c x_5 (V.need (okCm (Cm.mk x_3.fst x_4.m (Int.ofNat 0) (Rk.mk c.T.toNat (fun (i : Nat) => Int.ofNat 0) (fun (i : Nat) => -Int.ofNat 1) (fun (i : Nat) => Int.ofNat 0) (fun (i : Nat) => Int.ofNat 0) (fun (i : Nat) => -Int.ofNat 1) (fun (i : Nat) => 0) (fun (i j : Nat) => Int.ofNat 0) fun (i : Nat) => false) 0 (Evs.mk (fun (i : Nat) => Int.ofNat 0) (fun (i : Nat) => Int.ofNat 0) (fun (i : Nat) => Int.ofNat 0) (fun (i : Nat) => Int.ofNat 0) fun (i : Nat) => Int.ofNat 0))) (V.need (okEv c (Ev.mk (Cf.mk c.W c.L c.C c.T c.D c.H c.B c.A c.P x_2.fst.nP x_2.fst.rc x_2.fst.nU x_2.fst.cu x_2.fst.lenP x_2.fst.FC x_2.fst.iO x_2.fst.iA x_2.fst.iB x_2.fst.uP x_2.fst.uL x_2.fst.uD) x_3.fst x_4.m (Rk.mk c.T.toNat (fun (i : Nat) => Int.ofNat 0) (fun (i : Nat) => -Int.ofNat 1) (fun (i : Nat) => Int.ofNat 0) (fun (i : Nat) => Int.ofNat 0) (fun (i : Nat) => -Int.ofNat 1) (fun (i : Nat) => 0) (fun (i j : Nat) => Int.ofNat 0) fun (i : Nat) => false) (Int.ofNat 0) (Int.ofNat 0) (Rm.mk x_3.fst x.fst x.snd 0) (Rm.mk (ncN c) x_5.fst x_5.snd 0))) (nN [qE c.W, qE c.L, qE c.C, qE c.T, qE c.D, qE c.H, qE c.B, qE c.A, qE c.P, qE x_2.fst.nP, qE x_2.fst.rc, qE x_2.fst.nU, qE x_2.fst.cu, qE c.W, qE c.L, qE c.C, qE c.T, qE c.D, qE c.H, qE (lS c), qE (lE c), qE (lB c), qE (lQ c)] (V.need (x_3.snd = lT c) (nN (qE c.T.toNat :: qE x.fst :: (2, .eq 0 0) :: qE x_3.fst :: qE x_3.fst :: qEv19 x_4 (qE x_3.fst :: qL x_3.fst :: qF x_3.fst x_4.m.g :: (2, .eqI 0 0) :: qE x.fst :: qL c.T.toNat :: qEv9 c (qF c.T.toNat (fun (e : Nat) => Int.ofNat 0) :: qEv9 c [qF c.T.toNat (fun (e : Nat) => e), qF c.T.toNat (fun (e : Nat) => 0), qF c.T.toNat x.snd]))) (qEv18 c x (qEv8 c x (nN ((1, .eq 0 0) :: (1, .le 0 0) :: qEv10 (qEv10 [qF 0 (fun (e : Nat) => Int.ofNat 0), qE x_2.fst.rc, qL x_2.fst.nP, qF x_2.fst.nP (fun (e : Nat) => e), qF x_2.fst.nP x_2.fst.lenP, qF x_2.fst.nP x_2.fst.FC, qE x_2.fst.cu, qL x_2.fst.nU, qF x_2.fst.nU x_2.fst.uP, qF x_2.fst.nU x_2.fst.uL, qF x_2.fst.nU x_2.fst.uD])) (V.need (∀ (i : Nat), gd x_2.fst.nP x_2.fst.FC i = gd x_2.fst.nP x_2.fst.FC i ∨ gd x_2.fst.nP x_2.fst.FC i = 0) (V.need (∀ (i : Nat), gd x_2.fst.nP x_2.fst.lenP i ≤ gd x_2.fst.nP x_2.fst.FC i ∧ gd x_2.fst.nP x_2.fst.lenP i ≤ gd x_2.fst.nP x_2.fst.lenP i) (nN [(1, .pf (∀ (i e : Nat), e < gd x_2.fst.nP x_2.fst.lenP i → x_2.fst.iO i e = x_2.fst.iO i e) (by intros; rfl)), (1, .pf (∀ (i e : Nat), e < gd x_2.fst.nP x_2.fst.lenP i → x_2.fst.iA i e = x_2.fst.iA i e) (by intros; rfl)), (1, .pf (∀ (i e : Nat), e < gd x_2.fst.nP x_2.fst.lenP i → x_2.fst.iB i e = x_2.fst.iB i e) (by intros; rfl)), qE c.W, qE c.L, qE c.C, qE c.T, qE c.D, qE c.H, qE c.B, qE c.A, qE c.P, qE c.nP, qE c.rc, qE c.nU, qE c.cu] (V.need (ncN c = x_3.fst) (nN (qE (ncN c) :: qEv19 x_4 [(2, .eqI 0 0), qE c.T.toNat, qE x_5.fst, (2, .eq 0 0), qE (ncN c)]) (V.need (x_3.fst ≤ ncN c) (nN (qF x_3.fst x_4.m.g :: qE x_5.fst :: qL c.T.toNat :: qEv9 c (qF c.T.toNat (fun (e : Nat) => Int.ofNat 0) :: qEv9 c [qF c.T.toNat (fun (e : Nat) => e), qF c.T.toNat (fun (e : Nat) => 0), qF c.T.toNat x_5.snd])) (qEv18 c x_5 (qEv8 c x_5 (nN ((1, .eq 0 0) :: (1, .le 0 0) :: qEv10 (qEv10 [qF 0 (fun (e : Nat) => Int.ofNat 0)])) V.ok))))))))))))))))))))))))))))))))))))))))))))))))))))))))) := by kernel_rfl


end Go.Proofs.YtbidbhfjnfgblaaGreat.En

/- The two environments of a configuration, with an empty script: the contract. -/
set_option maxRecDepth 100000
namespace Go.Proofs.YtbidbhfjnfgblaaGreat.En
open Go Go.RowKit Sx Cn Dc Ck Vc Md
theorem vhEv {c : Cf} (h : errE c = 0) : VHolds (vEv c) := by
  have hY := okY_of h
  have hT := hY.2.2.2.1
  have hn := nc_bd hY
  have hN : ncN c ≤ 131072 := by unfold ncN; omega
  have hr : okRk (Rk.mk c.T.toNat (fun (i : Nat) => Int.ofNat 0) (fun (i : Nat) => -Int.ofNat 1) (fun (i : Nat) => Int.ofNat 0) (fun (i : Nat) => Int.ofNat 0) (fun (i : Nat) => -Int.ofNat 1) (fun (i : Nat) => 0) (fun (i j : Nat) => Int.ofNat 0) fun (i : Nat) => false) := ⟨show c.T.toNat ≤ 1000000 by omega, fun e => Nat.zero_le _⟩
  refine VHolds.pr (vEv_eq ..) ?_
  ((repeat' first | with_reducible refine nN_h rfl ?_ | with_reducible refine V.brT ?_ | with_reducible refine V.brF ?_ | with_reducible refine V.needI ?_ ?_) <;> (try first | with_reducible exact V.okI | exact rfl | exact ⟨Nat.le_refl _, rfl⟩ | exact Nat.le_refl _ | assumption | omega | trivial | decide | (intros; rfl) | (intros; trivial)))
  · exact ⟨(_, _), Nat.le_refl _, Nat.le_refl _⟩
  refine V.anyI fun y hy => ?_
  ((repeat' first | with_reducible refine nN_h rfl ?_ | with_reducible refine V.brT ?_ | with_reducible refine V.brF ?_ | with_reducible refine V.needI ?_ ?_) <;> (try first | with_reducible exact V.okI | exact rfl | exact ⟨Nat.le_refl _, rfl⟩ | exact Nat.le_refl _ | assumption | omega | trivial | decide | (intros; rfl) | (intros; trivial)))
  · exact ⟨_, Nat.le_refl _⟩
  refine V.anyI fun y2 hy2 => ?_
  ((repeat' first | with_reducible refine nN_h rfl ?_ | with_reducible refine V.brT ?_ | with_reducible refine V.brF ?_ | with_reducible refine V.needI ?_ ?_) <;> (try first | with_reducible exact V.okI | exact rfl | exact ⟨Nat.le_refl _, rfl⟩ | exact Nat.le_refl _ | assumption | omega | trivial | decide | (intros; rfl) | (intros; trivial)))
  · exact ⟨(_, _), is_cl _, Nat.le_refl _⟩
  refine V.anyI fun d hd => ?_
  refine nN_h rfl (V.anyI fun q hq => ?_)
  subst hq
  dsimp only
  refine nN_h rfl (V.brI (fun hb => ?_) fun _ => nN_h rfl (V.brI (fun hb => ?_) fun _ => ?_))
  · have : ¬ (c.T.toNat : Int) = c.T := by simpa using hb
    omega
  · simp at hb
  ((repeat' first | with_reducible refine nN_h rfl ?_ | with_reducible refine V.brT ?_ | with_reducible refine V.brF ?_ | with_reducible refine V.needI ?_ ?_) <;> (try first | with_reducible exact V.okI | exact rfl | exact ⟨Nat.le_refl _, rfl⟩ | exact Nat.le_refl _ | assumption | omega | trivial | decide | (intros; rfl) | (intros; trivial)))
  · exact ⟨Int.le_refl _, Int.natCast_nonneg _, fun e => ⟨Int.le_refl _, show (0 : Int) ≤ 18446744073709551615 by decide⟩, Int.le_refl _, Int.le_refl _⟩
  refine V.anyI fun x hx => ?_
  obtain ⟨h0, h1, hm⟩ := hx
  refine V.brI (fun hi => ?_) fun hi => ?_
  · have hi : x.i < (ncN c : Int) := of_decide_eq_true hi
    have e0 : (0 : Int) ≤ x.i := h0
    have ei : IntKind.i64.wrap (x.i + Int.ofNat 1) = x.i + 1 := w64 (by simp only [Int.ofNat_eq_natCast]; omega)
    simp only [ei]
    ((repeat' first | with_reducible refine nN_h rfl ?_ | with_reducible refine V.brT ?_ | with_reducible refine V.brF ?_ | with_reducible refine V.needI ?_ ?_) <;> (try first | with_reducible exact V.okI | exact rfl | exact ⟨Nat.le_refl _, rfl⟩ | exact Nat.le_refl _ | assumption | omega | trivial | decide | (intros; rfl) | (intros; trivial)))
    refine V.anyI fun m1 hm1 => ?_
    ((repeat' first | with_reducible refine nN_h rfl ?_ | with_reducible refine V.brT ?_ | with_reducible refine V.brF ?_ | with_reducible refine V.needI ?_ ?_) <;> (try first | with_reducible exact V.okI | exact rfl | exact ⟨Nat.le_refl _, rfl⟩ | exact Nat.le_refl _ | assumption | omega | trivial | decide | (intros; rfl) | (intros; trivial)))
    refine V.anyI fun m2 hm2 => ?_
    obtain rfl : m1 = m2 := by rw [hm1, hm2]
    have hm3 : okMw (x.i + 1) m1 := by rw [hm1]; exact okMw_acc hm (by omega) ⟨Int.le_refl _, show (0 : Int) ≤ 18446744073709551615 by decide⟩
    ((repeat' first | with_reducible refine nN_h rfl ?_ | with_reducible refine V.brT ?_ | with_reducible refine V.brF ?_ | with_reducible refine V.needI ?_ ?_) <;> (try first | with_reducible exact V.okI | exact rfl | exact ⟨Nat.le_refl _, rfl⟩ | exact Nat.le_refl _ | assumption | omega | trivial | decide | (intros; rfl) | (intros; trivial)))
    exact ⟨by show (0 : Int) ≤ x.i + 1; omega, by show x.i + 1 ≤ (ncN c : Int); omega, hm3⟩
  · have u0 : ∀ i, upto c.T.toNat (fun _ => 0) i = 0 := fun i => by simp [upto]
    ((repeat' first | with_reducible refine nN_h rfl ?_ | with_reducible refine V.brT ?_ | with_reducible refine V.brF ?_ | with_reducible refine V.needI ?_ ?_) <;> (try first | with_reducible exact V.okI | exact rfl | exact ⟨Nat.le_refl _, rfl⟩ | exact Nat.le_refl _ | assumption | omega | trivial | decide | (intros; rfl) | (intros; trivial)))
    · exact ⟨(_, fun _ => 0), Nat.le_refl _, fun _ _ => Nat.le_refl _⟩
    refine V.anyI fun q1 hq1 => ?_
    ((repeat' first | with_reducible refine nN_h rfl ?_ | with_reducible refine V.brT ?_ | with_reducible refine V.brF ?_ | with_reducible refine V.needI ?_ ?_) <;> (try first | with_reducible exact V.okI | exact rfl | exact ⟨Nat.le_refl _, rfl⟩ | exact Nat.le_refl _ | assumption | omega | trivial | decide | (intros; rfl) | (intros; trivial)))
    · exact ⟨(_, fun _ => 0), Nat.le_refl _, fun _ _ => Nat.le_refl _⟩
    refine V.anyI fun q2 hq2 => ?_
    obtain ⟨⟨FC, rc, cu, hcl, hd'⟩, hrec⟩ := hd
    have hgd : ∀ i, gd d.1.nP d.1.lenP i ≤ gd d.1.nP d.1.FC i := by rw [hd']; exact Vc.gd_le hcl.1
    have hu : ∀ (f : Nat → Nat) i, upto c.T.toNat (fun _ => 0) i ≤ f i := fun f i => by rw [u0]; exact Nat.zero_le _
    ((repeat' first | with_reducible refine nN_h rfl ?_ | with_reducible refine V.brT ?_ | with_reducible refine V.brF ?_ | with_reducible refine V.needI ?_ ?_) <;> (try first | with_reducible exact V.okI | exact rfl | exact ⟨Nat.le_refl _, rfl⟩ | exact Nat.le_refl _ | assumption | omega | trivial | decide | (intros; rfl) | (intros; trivial)))
    all_goals first
      | exact ⟨show ncN c ≤ 1000000 by omega, hr, Nat.zero_le _⟩
      | exact fun i => ⟨hu _ i, Nat.le_refl _⟩
      | exact fun i => ⟨hgd i, Nat.le_refl _⟩
      | exact ⟨⟨FC, rc, cu, hcl, by rw [hd']; rfl⟩, rfl, rfl, hr, fun _ _ => Nat.zero_le _, fun _ _ => Nat.zero_le _, Nat.le_refl _, Nat.le_refl _, hq2.1, hq1.1, hm.le (by omega)⟩
noncomputable section
def conCf3 (post : Cf → Out (SV × Hp)) : List SV → Hp → Out (SV × Hp) := fun args H => match args with
  | [.a [x0, x1, x2, x3, x4, x5, x6, x7, x8, .slc kr _ _ _ nP rc, .slc ku _ _ _ nU cu], .c .nils, .c .nils] => match numC x0, numC x1, numC x2, numC x3, numC x4, numC x5, numC x6, numC x7, numC x8 with
    | some W, some L, some C, some T, some D, some h, some B, some A, some Q => fN kr fun kr => fN ku fun ku => cfBlk H.h kr ku fun kF ln cp o a b f g k => useP [kr, ku, kF] 3
                [argC ⟨W, L, C, T, D, h, B, A, Q, nP.v, rc.v, nU.v, cu.v, fun e => ln 0 e, fun e => cp 0 e, o, a, b, fun e => f 0 e, fun e => g 0 e, fun e => k 0 e⟩, .c .nils, .c .nils]
                (hC ⟨W, L, C, T, D, h, B, A, Q, nP.v, rc.v, nU.v, cu.v, fun e => ln 0 e, fun e => cp 0 e, o, a, b, fun e => f 0 e, fun e => g 0 e, fun e => k 0 e⟩)
                (post ⟨W, L, C, T, D, h, B, A, Q, nP.v, rc.v, nU.v, cu.v, fun e => ln 0 e, fun e => cp 0 e, o, a, b, fun e => f 0 e, fun e => g 0 e, fun e => k 0 e⟩) args H
    | _, _, _, _, _, _, _, _, _ => .bad 434
  | _ => .bad 435
theorem conCf3_ok {f : FuncId} {post : Cf → Out (SV × Hp)} (h : ∀ c, LocalOK P f [argC c, .c .nils, .c .nils] (hC c) 3 (post c)) : ContractOK P f (conCf3 post) := contract_of_useP fun args H => by
  unfold conCf3
  simp only [fN_eq]
  repeat' split
  all_goals first | exact .inl ⟨_, rfl⟩ | exact (cfBlk_ok _ _ _ _).elim .inl fun ⟨_, _, _, _, _, _, _, _, _, e⟩ => .inr ⟨_, _, _, _, _, e, h _⟩
def cEv : List SV → Hp → Out (SV × Hp) := conCf3 fun c => .need (errE c = 0) (.any Ev (okEv c) fun v => .leaf (svEv, ⟨hEv c v, 18, fun _ => True⟩))
theorem cEv_ok : ContractOK P fEv cEv := conCf3_ok fun c => local_of_ver conEv_ok fun h => vhEv h
end
end Go.Proofs.YtbidbhfjnfgblaaGreat.En
