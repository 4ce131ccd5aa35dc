/- The sanity check of chapter 24: the conditions, printed by program. -/
import Derived.Test.YtomaagmleafjeaaMMdAw24D
import Derived.Test.YtomaagmleafjeaaMW
import Derived.Test.YtomaagmleafjeaaMMdTpL
set_option linter.unusedVariables false
set_option linter.unusedSimpArgs false
set_option maxRecDepth 100000
namespace Go.Proofs.Ytomaagmleafjeaa.Md
open Go Go.RowKit Sx Cn Dc Ck Vc

theorem vAw24_eq  : vAw24 =
  nN [(2, .eq 2 2), (2, .eq 3 3), (1, .le 1 1), (1, .le2 2 2 2 2)]
    (V.need (∀ (i e : Nat), i = 0 ∧ e < 2 → e < 2)
    (V.need (∀ (i e : Nat), i = 0 ∧ e < 2 → e = 0 → Int.ofNat 3 = numAt [SC.ki IntKind.u8 (Int.ofNat 3), SC.ki IntKind.u8 (Int.ofNat 6)] e)
    (V.need (∀ (i e : Nat), i = 0 ∧ e < 2 → e = 1 → Int.ofNat 6 = numAt [SC.ki IntKind.u8 (Int.ofNat 3), SC.ki IntKind.u8 (Int.ofNat 6)] e)
    (nN [(1, .le 1 1), (1, .le2 3 3 3 3)]
    (V.need (∀ (i e : Nat), i = 0 ∧ e < 3 → e < 3)
    (V.need (∀ (i e : Nat), i = 0 ∧ e < 3 → e = 0 → Int.ofNat 0 = numAt [SC.ki IntKind.u8 (Int.ofNat 0), SC.ki IntKind.u8 (Int.ofNat 1), SC.ki IntKind.u8 (Int.ofNat 4)] e)
    (V.need (∀ (i e : Nat), i = 0 ∧ e < 3 → e = 1 → Int.ofNat 1 = numAt [SC.ki IntKind.u8 (Int.ofNat 0), SC.ki IntKind.u8 (Int.ofNat 1), SC.ki IntKind.u8 (Int.ofNat 4)] e)
    (V.need (∀ (i e : Nat), i = 0 ∧ e < 3 → e = 2 → Int.ofNat 4 = numAt [SC.ki IntKind.u8 (Int.ofNat 0), SC.ki IntKind.u8 (Int.ofNat 1), SC.ki IntKind.u8 (Int.ofNat 4)] e)
    (V.need True
    (V.need (∃ (x : XLa), φLa (fun (e : Nat) => numAt [SC.ki IntKind.u8 (Int.ofNat 3), SC.ki IntKind.u8 (Int.ofNat 6)] e) (fun (e : Nat) => numAt [SC.ki IntKind.u8 (Int.ofNat 0), SC.ki IntKind.u8 (Int.ofNat 1), SC.ki IntKind.u8 (Int.ofNat 4)] e) 2 3 x)
    (V.any XLa (φLa (fun (e : Nat) => numAt [SC.ki IntKind.u8 (Int.ofNat 3), SC.ki IntKind.u8 (Int.ofNat 6)] e) (fun (e : Nat) => numAt [SC.ki IntKind.u8 (Int.ofNat 0), SC.ki IntKind.u8 (Int.ofNat 1), SC.ki IntKind.u8 (Int.ofNat 4)] e) 2 3) fun (x : XLa) => V.need (Int.ofNat 60 = (↑60 : Int))
    (nN [(1, .eqI 1 1), (1, .eqI 3 3), (1, .eqI 1 1), (1, .eqI 9 9), (1, .eqI 8 8), (1, .eqI 1 1), (1, .eqI 5 5), (1, .eqI 6 6), (1, .eqI 7 7), (1, .eqI 8 8), (1, .eqI 38 38), (1, .eq 9 9), qE x.rc, (2, .eq 0 0), qE x.m.lk, qE x.m.lc, qE x.m.lo, qE x.m.ln, qE x.m.ct, (1, .eq 83 83), (1, .le 83 83), qF 83 x.m.g, (1, .eqI 0 0), (1, .eq 0 0), (1, .le 0 0), qF 0 (fun (e : Nat) => Int.ofNat 0), qF 0 (fun (e : Nat) => Int.ofNat 0), qF 0 (fun (e : Nat) => Int.ofNat 0), qF 0 (fun (e : Nat) => Int.ofNat 0), qF 0 (fun (e : Nat) => Int.ofNat 0), (2, .eqI 0 0), qE x.rc, (1, .le 9 9), qF 9 (fun (e : Nat) => false)]
    (V.need (preTa (Ly.mk (Int.ofNat 1) (Int.ofNat 3) (Int.ofNat 1) (Int.ofNat 9) (Int.ofNat 8) (Int.ofNat 1) (Int.ofNat 5) (Int.ofNat 6) (Int.ofNat 7) (Int.ofNat 8) (Int.ofNat 38)) 83 (Int.ofNat 0) 9 60 x.m (El.mk 0 (Evs.mk (fun (i : Nat) => Int.ofNat 0) (fun (i : Nat) => Int.ofNat 0) (fun (i : Nat) => Int.ofNat 0) (fun (i : Nat) => Int.ofNat 0) fun (i : Nat) => Int.ofNat 0)) 0 fun (e : Nat) => false)
    (V.need (∃ (x_1 : Rt × Nat), φTa (Ly.mk (Int.ofNat 1) (Int.ofNat 3) (Int.ofNat 1) (Int.ofNat 9) (Int.ofNat 8) (Int.ofNat 1) (Int.ofNat 5) (Int.ofNat 6) (Int.ofNat 7) (Int.ofNat 8) (Int.ofNat 38)) 83 (Int.ofNat 0) 9 60 x.m (El.mk 0 (Evs.mk (fun (i : Nat) => Int.ofNat 0) (fun (i : Nat) => Int.ofNat 0) (fun (i : Nat) => Int.ofNat 0) (fun (i : Nat) => Int.ofNat 0) fun (i : Nat) => Int.ofNat 0)) (fun (e : Nat) => false) x_1)
    (V.any (Rt × Nat) (φTa (Ly.mk (Int.ofNat 1) (Int.ofNat 3) (Int.ofNat 1) (Int.ofNat 9) (Int.ofNat 8) (Int.ofNat 1) (Int.ofNat 5) (Int.ofNat 6) (Int.ofNat 7) (Int.ofNat 8) (Int.ofNat 38)) 83 (Int.ofNat 0) 9 60 x.m (El.mk 0 (Evs.mk (fun (i : Nat) => Int.ofNat 0) (fun (i : Nat) => Int.ofNat 0) (fun (i : Nat) => Int.ofNat 0) (fun (i : Nat) => Int.ofNat 0) fun (i : Nat) => Int.ofNat 0)) fun (e : Nat) => false) fun (x : Rt × Nat) => V.br (x.fst.r.c == Int.ofNat 1)
    (V.br (x.fst.r.v == Int.ofNat 1)
    (V.br ((↑x.fst.r.l.n : Int) == Int.ofNat 2)
    (V.need (Int.ofNat 0 ≤ Int.ofNat 0 ∧ Int.ofNat 0 < (↑x.fst.r.l.n : Int))
    (V.need (0 < x.fst.r.l.n)
    (V.need (0 < x.fst.r.l.n)
    (V.need (0 < x.fst.r.l.n)
    (V.need (0 < x.fst.r.l.n)
    (V.need (0 < x.fst.r.l.n)
    (V.need (0 < x.fst.r.l.n)
    (V.br (x.fst.r.l.v.k 0 == Int.ofNat 15 && (x.fst.r.l.v.w 0 == Int.ofNat 0 && (x.fst.r.l.v.t 0 == Int.ofNat 2 && (x.fst.r.l.v.o 0 == Int.ofNat 0 && (x.fst.r.l.v.l 0 == Int.ofNat 0 && true)))))
    (V.need (Int.ofNat 0 ≤ Int.ofNat 1 ∧ Int.ofNat 1 < (↑x.fst.r.l.n : Int))
    (V.need (1 < x.fst.r.l.n)
    (V.need (1 < x.fst.r.l.n)
    (V.need (1 < x.fst.r.l.n)
    (V.need (1 < x.fst.r.l.n)
    (V.need (1 < x.fst.r.l.n)
    (V.need (1 < x.fst.r.l.n)
    (V.need True
    (V.need ((x.fst.r.l.v.k 1 == Int.ofNat 5 && (x.fst.r.l.v.w 1 == Int.ofNat 0 && (x.fst.r.l.v.t 1 == Int.ofNat 1 && (x.fst.r.l.v.o 1 == Int.ofNat 0 && (x.fst.r.l.v.l 1 == Int.ofNat 0 && true))))) = true) V.ok)))))))))
    (V.need True
    (V.need (false = true) V.ok))))))))))
    (V.need True
    (V.need (false = true) V.ok)))
    (V.need True
    (V.need (false = true) V.ok)))
    (V.need True
    (V.need (false = true) V.ok))))))))))))))))) := by kernel_rfl


end Go.Proofs.Ytomaagmleafjeaa.Md

/- The sanity check of chapter 24: the contract. -/
set_option maxRecDepth 100000
namespace Go.Proofs.Ytomaagmleafjeaa.Md
open Go Go.RowKit Sx Cn Dc Ck Vc
abbrev e0 : El := ⟨0, ⟨fun _ => Int.ofNat 0, fun _ => Int.ofNat 0, fun _ => Int.ofNat 0, fun _ => Int.ofNat 0, fun _ => Int.ofNat 0⟩⟩
def gA2 : Nat → Int := fun e => numAt [SC.ki IntKind.u8 (Int.ofNat 3), SC.ki IntKind.u8 (Int.ofNat 6)] e
def gA3 : Nat → Int := fun e => numAt [SC.ki IntKind.u8 (Int.ofNat 0), SC.ki IntKind.u8 (Int.ofNat 1), SC.ki IntKind.u8 (Int.ofNat 4)] e
def aw24 : Option Rt := taR yT 83 0 9 60 (laM gA2 gA3 3 2) e0 fun _ => false
theorem aw24_e : (aw24.map fun r => ([r.r.c, r.r.v, (r.r.l.n : Int), r.r.l.v.k 0, r.r.l.v.w 0, r.r.l.v.t 0, r.r.l.v.o 0, r.r.l.v.l 0, r.r.l.v.k 1, r.r.l.v.w 1, r.r.l.v.t 1, r.r.l.v.o 1, r.r.l.v.l 1] : List Int)) = some [1, 1, 2, 15, 0, 2, 0, 0, 5, 0, 1, 0, 0] := by decide +kernel
theorem map_e {α β : Type} {o : Option α} {f : α → β} {v : β} {r : α} (h : o.map f = some v) (hr : o = some r) : f r = v := by
  subst hr
  exact Option.some.inj h
theorem some_of {α β : Type} {o : Option α} {f : α → β} {v : β} (h : o.map f = some v) : ∃ r, o = some r := by
  cases o with
  | none => cases h
  | some r => exact ⟨r, rfl⟩
theorem vhAw24 : VHolds vAw24 := by
  constructor
  rw [vAw24_eq]
  ((repeat' first | with_reducible refine nN_h rfl ?_ | with_reducible refine V.brT ?_ | with_reducible refine V.brF ?_ | with_reducible refine V.needI ?_ ?_) <;> (try first | with_reducible exact V.okI | exact rfl | exact ⟨Nat.le_refl _, rfl⟩ | exact Nat.le_refl _ | assumption | omega | trivial | decide | (intros; rfl) | (intros; trivial)))
  all_goals try exact fun i e h he => by subst he; rfl
  all_goals try exact fun i e h => h.2
  · exact ⟨⟨9, laM gA2 gA3 3 2⟩, Nat.le_refl _, rfl⟩
  refine V.anyI fun x hx => ?_
  obtain ⟨rc, m⟩ := x
  obtain ⟨h1, h2⟩ := hx
  have h2 : m = laM gA2 gA3 3 2 := h2
  subst h2
  have hok : (laM gA2 gA3 3 2).ok := (la_TI (g := gA2) (s := gA3) (k := 3) (lg := 2) (fun i hi => by
    match i, hi with
    | 0, _ | 1, _ => decide) (by decide) (i := 2) (by decide) (by decide)).1.ws.wf.ok
  obtain ⟨R, hR⟩ := some_of aw24_e
  ((repeat' first | with_reducible refine nN_h rfl ?_ | with_reducible refine V.brT ?_ | with_reducible refine V.brF ?_ | with_reducible refine V.needI ?_ ?_) <;> (try first | with_reducible exact V.okI | exact rfl | exact ⟨Nat.le_refl _, rfl⟩ | exact Nat.le_refl _ | assumption | omega | trivial | decide | (intros; rfl) | (intros; trivial)))
  · exact ⟨yT_ok, by decide, hok, ⟨Nat.zero_le _, Nat.zero_le _⟩, R, hR⟩
  · exact ⟨(R, R.r.l.n), hR, Nat.le_refl _⟩
  refine V.anyI fun r hr => ?_
  obtain ⟨r, nc⟩ := r
  obtain ⟨hr, -⟩ := hr
  obtain rfl : R = r := Option.some.inj (hR.symm.trans hr)
  have he := map_e aw24_e hR
  simp only [List.cons.injEq] at he
  obtain ⟨c1, c2, c3, c4, c5, c6, c7, c8, c9, c10, c11, c12, c13, -⟩ := he
  have c3 : R.r.l.n = 2 := by omega
  dsimp only
  rw [c1, c2, c3, c4, c5, c6, c7, c8, c9, c10, c11, c12, c13]
  refine V.brTo rfl (V.brTo rfl (V.brTo rfl ?_))
  ((repeat' first | with_reducible refine nN_h rfl ?_ | with_reducible refine V.brT ?_ | with_reducible refine V.brF ?_ | with_reducible refine V.needI ?_ ?_) <;> (try first | with_reducible exact V.okI | exact rfl | exact ⟨Nat.le_refl _, rfl⟩ | exact Nat.le_refl _ | assumption | omega | trivial | decide | (intros; rfl) | (intros; trivial)))
  all_goals try exact ⟨by decide, by decide⟩
  refine V.brTo rfl ?_
  ((repeat' first | with_reducible refine nN_h rfl ?_ | with_reducible refine V.brT ?_ | with_reducible refine V.brF ?_ | with_reducible refine V.needI ?_ ?_) <;> (try first | with_reducible exact V.okI | exact rfl | exact ⟨Nat.le_refl _, rfl⟩ | exact Nat.le_refl _ | assumption | omega | trivial | decide | (intros; rfl) | (intros; trivial)))
  all_goals try exact ⟨by decide, by decide⟩
theorem aw24_ok : ContractOK P 95 conYes := conYes_ok (local_of_ps con24a_ok fun _ => vhAw24)
end Go.Proofs.Ytomaagmleafjeaa.Md
