/- config.Decode: the reading of numbers; of an instruction; what is said of the loops. -/
import Derived.Test.YtjpnpaboahbncaaMVb
set_option linter.unusedVariables false
set_option linter.unusedSimpArgs false
set_option linter.unusedVariables false
set_option maxRecDepth 100000
namespace Go.Proofs.Ytjpnpaboahbncaa.Vc
open Go Go.RowKit Sx Cn Dc Ck
noncomputable section
section
variable (g : Nat → Int) (len : Nat)
/-- A reader's block. -/
def blkN (kb cap at' : Nat) : Blk := .own 136 2 [some (.slc kb (.k 0) (.k 0) 1 (.s len) (.s cap)), some (.iv .i64 at')]
def hN (cap at' : Nat) : HL := [(0, blkN len 1 cap at'), (1, ints .u8 len g)]
def nextV (cap at' : Nat) (k : Int) : V := verF P con0 3 3 103 [] .nil [pC 2, iv k] ⟨hN g len cap at', 2, fun _ => True⟩
  (finV (X := Unit) 2 2 (fun _ _ => some ()) (fun _ _ => []) (fun _ => True) (fun _ => iv (rd g len at' k)) (fun _ => [(0, blkN len 1 cap (at' + 1))]))
def postNext (cap at' : Nat) (k : Int) : Out (SV × Hp) := .need (preN g len at' k) (.leaf (iv (rd g len at' k), ⟨[(0, blkN len 1 cap (at' + 1))], 2, fun _ => True⟩))
/-- An instruction that is read where there are n programs and L levels. -/
def rdA (n L : Int) (p : Nat) : Int := if iO g len p = 0 then 1 + rd g len (p + 1) 4 else if iO g len p = 1 then rd g len (p + 1) n else rd g len (p + 1) 4
def rdB (n L : Int) (p : Nat) : Int := if iO g len p = 1 then rd g len (p + 2) L else 0
def insV (n L : Int) (p : Nat) : SV := .a [.iv .i64 (iO g len p), .iv .i64 (rdA g len n L p), .iv .i64 (rdB g len n L p)]
end
/-- The configuration that 'instr' gets. -/
def cfA (x : N9) (kp n c : Nat) : SV := .a [.iv .i64 x.a0, .iv .i64 x.a1, .iv .i64 x.a2, .iv .i64 x.a3, .iv .i64 x.a4, .iv .i64 x.a5, .iv .i64 x.a6, .iv .i64 x.a7, .iv .i64 x.a8, slK kp 1 n c, .nils]
section
variable (g : Nat → Int) (len : Nat)
def hI (cap at' n : Nat) : HL := hN g len cap at' ++ [(2, .view 1 (fun _ => n) [.cu])]
def preI (at' n : Nat) (L : Int) : Prop := U8 len g ∧ at' ≤ 1000000 ∧ (1 ≤ n ∧ n ≤ 1000000) ∧ 1 ≤ L
def postIns (cap at' : Nat) (x : N9) (n c : Nat) : Out (SV × Hp) := .need (preI g len at' n x.a1) (.leaf (insV g len n x.a1 at', ⟨[(0, blkN len 1 cap (iE g len at'))], 3, fun _ => True⟩))
end
def conNext : List SV → Hp → Out (SV × Hp) := fun args H => match args with
  | [.c (.ptr kc _ _ _ _), k] => match find kc H.h with
    | some (.own _ _ cs) => match (cs[0]? : Option (Option SC)), (cs[1]? : Option (Option SC)) with
      | some (some (.slc kb _ _ _ len cap)), some (some c) => match asI (.c c), asI k, rowFn H.h kb 0 with
        | some (_, _, .ofNat at'), some (_, _, k), some g => useP [kc, kb] 2 [pC 2, iv k] (hN g len.v cap.v at') (postNext g len.v cap.v at' k) args H
        | _, _, _ => .bad 410
      | _, _ => .bad 411
    | _ => .bad 412
  | _ => .bad 413
def conIns : List SV → Hp → Out (SV × Hp) := fun args H => match args with
  | [.c (.ptr kc _ _ _ _), .a [x0, x1, x2, x3, x4, x5, x6, x7, x8, .slc kp _ _ _ n c, y]] => match find kc H.h with
    | some (.own _ _ cs) => match (cs[0]? : Option (Option SC)), (cs[1]? : Option (Option SC)), numC x0, numC x1, numC x2, numC x3, numC x4, numC x5, numC x6, numC x7, numC x8 with
      | some (some (.slc kb _ _ _ len cap)), some (some a), some y0, some y1, some y2, some y3, some y4, some y5, some y6, some y7, some y8 => match asI (.c a), rowFn H.h kb 0 with
        | some (_, _, .ofNat at'), some g => useP [kc, kb, kp] 3 [pC 2, cfA ⟨y0, y1, y2, y3, y4, y5, y6, y7, y8⟩ 2 n.v c.v] (hI g len.v cap.v at' n.v) (postIns g len.v cap.v at' ⟨y0, y1, y2, y3, y4, y5, y6, y7, y8⟩ n.v c.v) args H
        | _, _ => .bad 415
      | _, _, _, _, _, _, _, _, _, _, _ => .bad 416
    | _ => .bad 417
  | _ => .bad 418
end
end Go.Proofs.Ytjpnpaboahbncaa.Vc

/- config.reader.next: the conditions, printed by program. -/
set_option linter.unusedVariables false
set_option maxRecDepth 100000
namespace Go.Proofs.Ytjpnpaboahbncaa.Vc
open Go Go.RowKit Sx Cn Dc Ck

theorem nextV_eq (g : Nat → Int) (len cap at' : Nat) (k : Int) : nextV g len cap at' k =
  V.need (0 < 1 ∧ 0 < 1)
    (V.need (0 < 1 ∧ 0 < 1)
    (V.need (0 < 1 ∧ 0 < 1)
    (V.need (0 < 1 ∧ 0 < 1)
    (V.need (0 < 1 ∧ 0 < 1)
    (V.need (0 < 1 ∧ 0 < 1)
    (V.br (decide ((↑at' : Int) < (↑len : Int)))
    (V.need (0 < 1 ∧ 0 < 1)
    (V.need (0 < 1 ∧ 0 < 1)
    (V.need (0 < 1 ∧ 0 < 1)
    (V.need (0 < 1 ∧ 0 < 1)
    (V.need (0 < 1 ∧ 0 < 1)
    (V.need (0 < 1 ∧ 0 < 1)
    (V.need (Int.ofNat 0 ≤ (↑at' : Int) ∧ (↑at' : Int) < (↑len : Int))
    (V.need (0 < 1 ∧ 0 + (↑at' : Int).toNat < len)
    (V.need (0 < 1 ∧ 0 + (↑at' : Int).toNat < len)
    (V.need (k ≠ Int.ofNat 0)
    (V.need True
    (V.need ((IntKind.i64.wrap (g (0 + (↑at' : Int).toNat))).tmod k = rd g len at' k)
    (V.need (len = len)
    (V.need (cap = cap)
    (V.need (IntKind.i64.wrap ((↑at' : Int) + Int.ofNat 1) = (↑(at' + 1) : Int)) V.ok)))))))))))))))
    (V.need (k ≠ Int.ofNat 0)
    (V.need True
    (V.need ((Int.ofNat 0).tmod k = rd g len at' k)
    (V.need (len = len)
    (V.need (cap = cap)
    (V.need (IntKind.i64.wrap ((↑at' : Int) + Int.ofNat 1) = (↑(at' + 1) : Int)) V.ok)))))))))))) := by kernel_rfl


end Go.Proofs.Ytjpnpaboahbncaa.Vc

/- config.reader.next: the contract; instr: what is asked. -/
set_option linter.unusedVariables false
set_option linter.unusedSimpArgs false
set_option maxRecDepth 100000
namespace Go.Proofs.Ytjpnpaboahbncaa.Vc
open Go Go.RowKit Sx Cn Dc Ck
theorem rd_hit {g : Nat → Int} {len at' : Nat} {k : Int} (hu : U8 len g) (hk : 1 ≤ k) (h : (at' : Int) < len) : (IntKind.i64.wrap (g at')).tmod k = rd g len at' k := by
  have hg := hu at' (by omega)
  rw [w64 (by omega), Int.tmod_eq_emod_of_nonneg (by omega), rd, if_pos (by omega)]
theorem rd_out {g : Nat → Int} {len at' : Nat} {k : Int} (h : ¬ (at' : Int) < len) : 0 = rd g len at' k := by
  rw [rd, if_neg (by omega)]
theorem w_at {at' : Nat} (h : at' ≤ 1000000000) : IntKind.i64.wrap ((at' : Int) + 1) = (at' : Int) + 1 := w64 (by omega)
theorem vhNext {g : Nat → Int} {len cap at' : Nat} {k : Int} (h : preN g len at' k) : VHolds (nextV g len cap at' k) := by
  constructor
  rw [nextV_eq]
  obtain ⟨hu, hk, ha⟩ := h
  simp only [V.holds, Int.ofNat_eq_natCast, decide_eq_true_eq, decide_eq_false_iff_not, ge_iff_le, Int.natCast_zero, Int.natCast_one, Int.natCast_add, Int.cast_ofNat_Int, true_and, and_true, eq_self, forall_const, true_implies, implies_true, Nat.le_refl, Nat.zero_lt_one, Nat.zero_add, Int.toNat_natCast, Int.zero_tmod, ne_eq]
  repeat' first | exact True.intro | with_reducible apply And.intro | intro _
  all_goals first
    | omega
    | exact rd_hit hu hk (by assumption)
    | exact rd_out (by assumption)
    | exact w_at ha
theorem conNext_ok : ContractOK P 103 conNext := contract_of_useP fun args H => by
  unfold conNext
  repeat' split
  all_goals first
    | exact .inl ⟨_, rfl⟩
    | exact .inr ⟨_, _, _, _, _, rfl, local_of_ver0 ConOK.nil fun h => vhNext h⟩
noncomputable section
def conN1 : Con := Con.add 103 conNext con3
theorem conN1_ok : ConOK P conN1 := .add conNext_ok con3_ok
def insVer (g : Nat → Int) (len cap at' : Nat) (x : N9) (n c : Nat) : V := verF P conN1 3 3 104 [] .nil [pC 2, cfA x 2 n c] ⟨hI g len cap at' n, 3, fun _ => True⟩
  (finV (X := Unit) 3 3 (fun _ _ => some ()) (fun _ _ => []) (fun _ => True) (fun _ => insV g len n x.a1 at') (fun _ => [(0, blkN len 1 cap (iE g len at'))]))
end
end Go.Proofs.Ytjpnpaboahbncaa.Vc

/- config.reader.instr: the conditions, printed by program. -/
set_option linter.unusedVariables false
set_option maxRecDepth 100000
namespace Go.Proofs.Ytjpnpaboahbncaa.Vc
open Go Go.RowKit Sx Cn Dc Ck

theorem insVer_eq (g : Nat → Int) (len cap at' : Nat) (x : N9) (n c : Nat) : insVer g len cap at' x n c =
  V.need (Int.ofNat 3 = Int.ofNat 3)
    (V.need (len = len)
    (V.need (cap = cap)
    (V.need ((↑at' : Int) = (↑at' : Int))
    (V.need (1 ≤ 1)
    (V.need (∀ (i : Nat), i < 1 → len ≤ len)
    (V.need (∀ (i e : Nat), i < 1 ∧ e < len → g e = g e)
    (V.need (preN (fun (e : Nat) => g e) len at' (Int.ofNat 3))
    (V.br (rd (fun (e : Nat) => g e) len at' (Int.ofNat 3) == Int.ofNat 0)
    (V.need (Int.ofNat 4 = Int.ofNat 4)
    (V.need (len = len)
    (V.need (cap = cap)
    (V.need ((↑(at' + 1) : Int) = (↑(at' + 1) : Int))
    (V.need (1 ≤ 1)
    (V.need (∀ (i : Nat), i < 1 → len ≤ len)
    (V.need (∀ (i e : Nat), i < 1 ∧ e < len → g e = g e)
    (V.need (preN (fun (e : Nat) => g e) len (at' + 1) (Int.ofNat 4))
    (V.need True
    (V.need (rd (fun (e : Nat) => g e) len at' (Int.ofNat 3) = iO g len at')
    (V.need (IntKind.i64.wrap (Int.ofNat 1 + rd (fun (e : Nat) => g e) len (at' + 1) (Int.ofNat 4)) = rdA g len (↑n : Int) x.a1 at')
    (V.need (Int.ofNat 0 = rdB g len (↑n : Int) x.a1 at')
    (V.need (len = len)
    (V.need (cap = cap)
    (V.need ((↑(at' + 1 + 1) : Int) = (↑(iE g len at') : Int)) V.ok)))))))))))))))
    (V.br (rd (fun (e : Nat) => g e) len at' (Int.ofNat 3) == Int.ofNat 1)
    (V.need ((↑n : Int) = (↑n : Int))
    (V.need (len = len)
    (V.need (cap = cap)
    (V.need ((↑(at' + 1) : Int) = (↑(at' + 1) : Int))
    (V.need (1 ≤ 1)
    (V.need (∀ (i : Nat), i < 1 → len ≤ len)
    (V.need (∀ (i e : Nat), i < 1 ∧ e < len → g e = g e)
    (V.need (preN (fun (e : Nat) => g e) len (at' + 1) (↑n : Int))
    (V.need (x.a1 = x.a1)
    (V.need (len = len)
    (V.need (cap = cap)
    (V.need ((↑(at' + 1 + 1) : Int) = (↑(at' + 1 + 1) : Int))
    (V.need (1 ≤ 1)
    (V.need (∀ (i : Nat), i < 1 → len ≤ len)
    (V.need (∀ (i e : Nat), i < 1 ∧ e < len → g e = g e)
    (V.need (preN (fun (e : Nat) => g e) len (at' + 1 + 1) x.a1)
    (V.need True
    (V.need (rd (fun (e : Nat) => g e) len at' (Int.ofNat 3) = iO g len at')
    (V.need (rd (fun (e : Nat) => g e) len (at' + 1) (↑n : Int) = rdA g len (↑n : Int) x.a1 at')
    (V.need (rd (fun (e : Nat) => g e) len (at' + 1 + 1) x.a1 = rdB g len (↑n : Int) x.a1 at')
    (V.need (len = len)
    (V.need (cap = cap)
    (V.need ((↑(at' + 1 + 1 + 1) : Int) = (↑(iE g len at') : Int)) V.ok)))))))))))))))))))))))
    (V.need (Int.ofNat 4 = Int.ofNat 4)
    (V.need (len = len)
    (V.need (cap = cap)
    (V.need ((↑(at' + 1) : Int) = (↑(at' + 1) : Int))
    (V.need (1 ≤ 1)
    (V.need (∀ (i : Nat), i < 1 → len ≤ len)
    (V.need (∀ (i e : Nat), i < 1 ∧ e < len → g e = g e)
    (V.need (preN (fun (e : Nat) => g e) len (at' + 1) (Int.ofNat 4))
    (V.need True
    (V.need (rd (fun (e : Nat) => g e) len at' (Int.ofNat 3) = iO g len at')
    (V.need (rd (fun (e : Nat) => g e) len (at' + 1) (Int.ofNat 4) = rdA g len (↑n : Int) x.a1 at')
    (V.need (Int.ofNat 0 = rdB g len (↑n : Int) x.a1 at')
    (V.need (len = len)
    (V.need (cap = cap)
    (V.need ((↑(at' + 1 + 1) : Int) = (↑(iE g len at') : Int)) V.ok)))))))))))))))))))))))) := by kernel_rfl


end Go.Proofs.Ytjpnpaboahbncaa.Vc

/- config.reader.instr: the contract; config.Decode: what is said of its loops. -/
set_option linter.unusedVariables false
set_option linter.unusedSimpArgs false
set_option maxRecDepth 100000
namespace Go.Proofs.Ytjpnpaboahbncaa.Vc
open Go Go.RowKit Sx Cn Dc Ck
section
variable {g : Nat → Int} {len : Nat}
theorem iE1 {p : Nat} (h : iO g len p = 1) : iE g len p = p + 1 + 1 + 1 := by unfold iE; rw [if_pos h]
theorem iE2 {p : Nat} (h : ¬ iO g len p = 1) : iE g len p = p + 1 + 1 := by unfold iE; rw [if_neg h]
theorem rdA0 {n L : Int} {p : Nat} (hu : U8 len g) (h : iO g len p = 0) : IntKind.i64.wrap (1 + rd g len (p + 1) 4) = rdA g len n L p := by
  have := rd_range (at' := p + 1) (k := 4) hu (by decide)
  unfold rdA; rw [if_pos h, w64 (by omega)]
theorem rdA1 {n L : Int} {p : Nat} (h : iO g len p = 1) : rd g len (p + 1) n = rdA g len n L p := by unfold rdA; rw [if_neg (by omega), if_pos h]
theorem rdA2 {n L : Int} {p : Nat} (h : ¬ iO g len p = 0) (h1 : ¬ iO g len p = 1) : rd g len (p + 1) 4 = rdA g len n L p := by unfold rdA; rw [if_neg h, if_neg h1]
theorem rdB1 {n L : Int} {p : Nat} (h : iO g len p = 1) : rd g len (p + 1 + 1) L = rdB g len n L p := by unfold rdB; rw [if_pos h]
theorem rdB2 {n L : Int} {p : Nat} (h : ¬ iO g len p = 1) : 0 = rdB g len n L p := by unfold rdB; rw [if_neg h]
end
theorem vhIns {g : Nat → Int} {len cap at' : Nat} {x : N9} {n c : Nat} (h : preI g len at' n x.a1) : VHolds (insVer g len cap at' x n c) := by
  constructor
  rw [insVer_eq]
  obtain ⟨hu, ha, hn, hL⟩ := h
  simp only [show rd (fun (e : Nat) => g e) len at' (Int.ofNat 3) = iO g len at' from rfl]
  simp only [V.holds, preN, Int.ofNat_eq_natCast, decide_eq_true_eq, decide_eq_false_iff_not, ge_iff_le, beq_iff_eq, beq_eq_false_iff_ne, Int.natCast_zero, Int.natCast_one, Int.cast_ofNat_Int, true_and, and_true, eq_self, forall_const, true_implies, implies_true, Nat.le_refl, Nat.zero_lt_one, Nat.zero_add, Int.toNat_natCast, ne_eq]
  repeat' first | exact True.intro | with_reducible apply And.intro | intro _
  all_goals first
    | exact (hu _ (by assumption)).1
    | exact (hu _ (by assumption)).2
    | omega
    | exact rdA0 hu (by assumption)
    | exact rdA1 (by assumption)
    | exact rdA2 (by assumption) (by assumption)
    | exact rdB1 (by assumption)
    | exact rdB2 (by omega)
    | (rw [iE1 (by assumption)])
    | (rw [iE2 (by omega)])
theorem conIns_ok : ContractOK P 104 conIns := contract_of_useP fun args H => by
  unfold conIns
  repeat' split
  all_goals first
    | exact .inl ⟨_, rfl⟩
    | exact .inr ⟨_, _, _, _, _, rfl, local_of_ver0 conN1_ok fun h => vhIns h⟩
noncomputable section
def conN2 : Con := Con.add 104 conIns conN1
theorem conN2_ok : ConOK P conN2 := .add conIns_ok conN1_ok
/-- Below i as it is, x at i, else 0. -/
def g2 (i : Nat) (F : Nat → Nat) (x : Nat) (e : Nat) : Nat := if e < i then F e else if e = i then x else 0
/-- The family that a row's slices name; their capacities. -/
def famOf (k : Nat) (H : HL) : Nat := match find k H with
  | some (.row _ _ _ [.cs F _ _ _ _]) => F
  | _ => 0
def capsOf (k : Nat) (H : HL) : Option (Nat → Nat) := match find k H with
  | some (.row _ _ _ [.cs _ _ _ _ c]) => some fun e => c 0 e
  | _ => none
/-- The name in a cell of a block that may be read-only. -/
def cellK (k f : Nat) (H : HL) : Nat := match find k H with
  | some (.own _ _ cs) => match (cs[f]? : Option (Option SC)) with
    | some (some c) => Sx.keyOf c
    | _ => 0
  | some (.view _ _ cols) => match (cols[f]? : Option Col) with
    | some (.ck [c]) => Sx.keyOf c
    | _ => 0
  | _ => 0
section
variable (g : Nat → Int) (len cap : Nat)
def pk (s : St) : Nat := cellK (tkey 4 s) 9 s.H.h
def fk (s : St) : Nat := famOf (pk s) s.H.h
def sk (s : St) : Nat := cellK (tkey 4 s) 10 s.H.h
def kb (s : St) : Nat := cellK (tkey 3 s) 0 s.H.h
def blksP (s : St) (at' : Nat) (ln cp : Nat → Nat) : List Blk := [blkN len (kb s) cap at', .row 92 (nP g len) (nP g len) [.cs (fk s) 3 (fun _ e => e) (fun _ e => ln e) (fun _ e => cp e)], .fam true 94 cp ln (colsF g len)]
def pathsP : List ((St → Nat) × Bool) := [(tkey 3, true), (pk, true), (fk, false)]
def fO (s : St) : Option (LA (Int × (Nat → Nat))) := some ⟨pathsP, fun x => blksP g len cap s (pS g len x.1.toNat) (gd x.1.toNat (lenP g len)) (gd x.1.toNat x.2), [58], fun x => [iv x.1],
  fun s => match intT 58 s, capsOf (pk s) s.H.h with | some i, some F => some (i, F) | _, _ => none,
  fun x => 0 ≤ x.1 ∧ x.1 ≤ nP g len ∧ ∀ e, e < x.1.toNat → lenP g len e ≤ x.2 e, fun x => nP g len - x.1.toNat⟩
def fJ (s : St) : Option (LA (Int × Nat)) := match intT 58 s, capsOf (pk s) s.H.h with
  | some i, some F => some ⟨pathsP, fun x => blksP g len cap s (pI g len (pS g len i.toNat) x.1.toNat) (g2 i.toNat (lenP g len) x.1.toNat) (g2 i.toNat F x.2), [63], fun x => [iv x.1],
    fun s => match intT 63 s, capsOf (pk s) s.H.h with | some j, some F => some (j, F i.toNat) | _, _ => none,
    fun x => 0 ≤ x.1 ∧ x.1 ≤ lenP g len i.toNat ∧ x.1.toNat ≤ x.2, fun x => lenP g len i.toNat - x.1.toNat⟩
  | _, _ => none
def fS (s : St) : Option (LA (Int × Nat)) := some ⟨[(tkey 3, true), (tkey 4, true), (sk, false)],
  fun x => [blkN len (kb s) cap (pos3 g len x.1.toNat), cfg g len (slK (pk s) 1 (nP g len) (nP g len)) (slK (sk s) 3 x.1.toNat x.2), .row 96 x.2 x.1.toNat (colsU g len)], [83], fun x => [iv x.1],
  fun s => match intT 83 s, capOf (sk s) s.H.h with | some k, some c => some (k, c) | _, _ => none,
  fun x => 0 ≤ x.1 ∧ x.1 ≤ nU g len ∧ x.1.toNat ≤ x.2, fun x => nU g len - x.1.toNat⟩
def avD : AV := .loop _ [.nilCol pk 0 94 3 (colsF g len)] (fO g len cap) (.loop _ [] (fJ g len cap) .nil .nil) (.loop _ [.nilCell (tkey 4) 10 96 3 fun _ => colsU g len] (fS g len cap) .nil .nil)
def rdD (s : SV) (H : Hp) : Option Cf := match slKs s with
  | some (kr, _, rc, ku, _, cu) => (capsOf kr H.h).map fun F => decOf g len F rc cu
  | none => none
def LD (s : SV) (H : Hp) : List Nat := match slKs s with
  | some (kr, _, _, ku, _, _) => [famOf kr H.h, kr, ku]
  | none => []
def svD (d : Cf) : SV := .a [.iv .i64 d.W, .iv .i64 d.L, .iv .i64 d.C, .iv .i64 d.T, .iv .i64 d.D, .iv .i64 d.H, .iv .i64 d.B, .iv .i64 d.A, .iv .i64 d.P, slK 2 1 d.nP d.rc, slK 3 3 d.nU d.cu]
def verDec : V := verF P conN2 3 3 59 [(19, .join pk 0)] (avD g len cap) [.c (slK 0 1 len cap)] ⟨[(0, ints .u8 len g)], 1, fun _ => True⟩ (finV 1 4 (rdD g len) LD (IsDec g len) svD hDec)
end
end
end Go.Proofs.Ytjpnpaboahbncaa.Vc

/- config.Decode: the conditions, printed by program. -/
set_option linter.unusedVariables false
set_option maxRecDepth 100000
namespace Go.Proofs.Ytjpnpaboahbncaa.Vc
open Go Go.RowKit Sx Cn Dc Ck

theorem verDec_eq (g : Nat → Int) (len cap : Nat) : verDec g len cap =
  V.need (Int.ofNat 4 = Int.ofNat 4)
    (V.need (len = len)
    (V.need (cap = cap)
    (V.need (Int.ofNat 0 = (↑0 : Int))
    (V.need (1 ≤ 1)
    (V.need (∀ (i : Nat), i < 1 → len ≤ len)
    (V.need (∀ (i e : Nat), i < 1 ∧ e < len → g e = g e)
    (V.need (preN (fun (e : Nat) => g e) len 0 (Int.ofNat 4))
    (V.need (Int.ofNat 4 = Int.ofNat 4)
    (V.need (len = len)
    (V.need (cap = cap)
    (V.need ((↑1 : Int) = (↑1 : Int))
    (V.need (1 ≤ 1)
    (V.need (∀ (i : Nat), i < 1 → len ≤ len)
    (V.need (∀ (i e : Nat), i < 1 ∧ e < len → g e = g e)
    (V.need (preN (fun (e : Nat) => g e) len 1 (Int.ofNat 4))
    (V.need (min (Int.ofNat 3) (IntKind.i64.wrap (Int.ofNat 1 + rd (fun (e : Nat) => g e) len 1 (Int.ofNat 4))) = min (Int.ofNat 3) (IntKind.i64.wrap (Int.ofNat 1 + rd (fun (e : Nat) => g e) len 1 (Int.ofNat 4))))
    (V.need (len = len)
    (V.need (cap = cap)
    (V.need ((↑2 : Int) = (↑2 : Int))
    (V.need (1 ≤ 1)
    (V.need (∀ (i : Nat), i < 1 → len ≤ len)
    (V.need (∀ (i e : Nat), i < 1 ∧ e < len → g e = g e)
    (V.need (preN (fun (e : Nat) => g e) len 2 (min (Int.ofNat 3) (IntKind.i64.wrap (Int.ofNat 1 + rd (fun (e : Nat) => g e) len 1 (Int.ofNat 4)))))
    (V.need (Int.ofNat 12 = Int.ofNat 12)
    (V.need (len = len)
    (V.need (cap = cap)
    (V.need ((↑3 : Int) = (↑3 : Int))
    (V.need (1 ≤ 1)
    (V.need (∀ (i : Nat), i < 1 → len ≤ len)
    (V.need (∀ (i e : Nat), i < 1 ∧ e < len → g e = g e)
    (V.need (preN (fun (e : Nat) => g e) len 3 (Int.ofNat 12))
    (V.need (Int.ofNat 4 = Int.ofNat 4)
    (V.need (len = len)
    (V.need (cap = cap)
    (V.need ((↑4 : Int) = (↑4 : Int))
    (V.need (1 ≤ 1)
    (V.need (∀ (i : Nat), i < 1 → len ≤ len)
    (V.need (∀ (i e : Nat), i < 1 ∧ e < len → g e = g e)
    (V.need (preN (fun (e : Nat) => g e) len 4 (Int.ofNat 4))
    (V.need (Int.ofNat 4 = Int.ofNat 4)
    (V.need (len = len)
    (V.need (cap = cap)
    (V.need ((↑5 : Int) = (↑5 : Int))
    (V.need (1 ≤ 1)
    (V.need (∀ (i : Nat), i < 1 → len ≤ len)
    (V.need (∀ (i e : Nat), i < 1 ∧ e < len → g e = g e)
    (V.need (preN (fun (e : Nat) => g e) len 5 (Int.ofNat 4))
    (V.need (IntKind.i64.wrap (Int.ofNat 1 + rd (fun (e : Nat) => g e) len 4 (Int.ofNat 4)) = IntKind.i64.wrap (Int.ofNat 1 + rd (fun (e : Nat) => g e) len 4 (Int.ofNat 4)))
    (V.need (len = len)
    (V.need (cap = cap)
    (V.need ((↑6 : Int) = (↑6 : Int))
    (V.need (1 ≤ 1)
    (V.need (∀ (i : Nat), i < 1 → len ≤ len)
    (V.need (∀ (i e : Nat), i < 1 ∧ e < len → g e = g e)
    (V.need (preN (fun (e : Nat) => g e) len 6 (IntKind.i64.wrap (Int.ofNat 1 + rd (fun (e : Nat) => g e) len 4 (Int.ofNat 4))))
    (V.need (Int.ofNat 6 = Int.ofNat 6)
    (V.need (len = len)
    (V.need (cap = cap)
    (V.need ((↑7 : Int) = (↑7 : Int))
    (V.need (1 ≤ 1)
    (V.need (∀ (i : Nat), i < 1 → len ≤ len)
    (V.need (∀ (i e : Nat), i < 1 ∧ e < len → g e = g e)
    (V.need (preN (fun (e : Nat) => g e) len 7 (Int.ofNat 6))
    (V.need (Int.ofNat 8 = Int.ofNat 8)
    (V.need (len = len)
    (V.need (cap = cap)
    (V.need ((↑8 : Int) = (↑8 : Int))
    (V.need (1 ≤ 1)
    (V.need (∀ (i : Nat), i < 1 → len ≤ len)
    (V.need (∀ (i e : Nat), i < 1 ∧ e < len → g e = g e)
    (V.need (preN (fun (e : Nat) => g e) len 8 (Int.ofNat 8))
    (V.need (Int.ofNat 4 = Int.ofNat 4)
    (V.need (len = len)
    (V.need (cap = cap)
    (V.need ((↑9 : Int) = (↑9 : Int))
    (V.need (1 ≤ 1)
    (V.need (∀ (i : Nat), i < 1 → len ≤ len)
    (V.need (∀ (i e : Nat), i < 1 ∧ e < len → g e = g e)
    (V.need (preN (fun (e : Nat) => g e) len 9 (Int.ofNat 4))
    (V.need (Int.ofNat 0 ≤ IntKind.i64.wrap (Int.ofNat 1 + rd (fun (e : Nat) => g e) len 9 (Int.ofNat 4)) ∧ IntKind.i64.wrap (Int.ofNat 1 + rd (fun (e : Nat) => g e) len 9 (Int.ofNat 4)) ≤ IntKind.i64.wrap (Int.ofNat 1 + rd (fun (e : Nat) => g e) len 9 (Int.ofNat 4)) ∧ (↑24 : Int) * IntKind.i64.wrap (Int.ofNat 1 + rd (fun (e : Nat) => g e) len 9 (Int.ofNat 4)) ≤ Int.ofNat 281474976710656 ∧ IntKind.i64.wrap (Int.ofNat 1 + rd (fun (e : Nat) => g e) len 9 (Int.ofNat 4)) ≤ Int.ofNat 9223372036854775807)
    (V.need (Int.ofNat 0 ≤ Int.ofNat 0 ∧ Int.ofNat 0 ≤ (↑(nP g len) : Int) ∧ ∀ (e : Nat), e < 0 → lenP g len e ≤ 0)
    (V.need (Int.ofNat 0 = Int.ofNat 0)
    (V.need (len = len)
    (V.need (cap = cap)
    (V.need ((↑10 : Int) = (↑(pS g len 0) : Int))
    (V.need ((IntKind.i64.wrap (Int.ofNat 1 + rd (fun (e : Nat) => g e) len 9 (Int.ofNat 4))).toNat = nP g len)
    (V.need (nP g len ≤ (IntKind.i64.wrap (Int.ofNat 1 + rd (fun (e : Nat) => g e) len 9 (Int.ofNat 4))).toNat)
    (V.need (∀ (e : Nat), e < nP g len → e = e)
    (V.need (∀ (e : Nat), e < nP g len → 0 = gd 0 (lenP g len) e)
    (V.need (∀ (e : Nat), e < nP g len → 0 = gd 0 (fun (e : Nat) => 0) e)
    (V.need (∀ (i : Nat), 0 = gd 0 (fun (e : Nat) => 0) i ∨ gd 0 (fun (e : Nat) => 0) i = 0)
    (V.need (∀ (i : Nat), gd 0 (lenP g len) i ≤ gd 0 (fun (e : Nat) => 0) i ∧ gd 0 (lenP g len) i ≤ 0)
    (V.need (∀ (i e : Nat), e < gd 0 (lenP g len) i → cO g len i e = cO g len i e)
    (V.need (∀ (i e : Nat), e < gd 0 (lenP g len) i → cA g len i e = cA g len i e)
    (V.need (∀ (i e : Nat), e < gd 0 (lenP g len) i → cB g len i e = cB g len i e)
    (V.any (Int × (Nat → Nat)) (fun (x : Int × (Nat → Nat)) => Int.ofNat 0 ≤ x.fst ∧ x.fst ≤ (↑(nP g len) : Int) ∧ ∀ (e : Nat), e < x.fst.toNat → lenP g len e ≤ x.snd e) fun (x : Int × (Nat → Nat)) => V.br (decide (x.fst < (↑(IntKind.i64.wrap (Int.ofNat 1 + rd (fun (e : Nat) => g e) len 9 (Int.ofNat 4))).toNat : Int)))
    (V.need (Int.ofNat 6 = Int.ofNat 6)
    (V.need (len = len)
    (V.need (cap = cap)
    (V.need ((↑(pS g len x.fst.toNat) : Int) = (↑(pS g len x.fst.toNat) : Int))
    (V.need (1 ≤ 1)
    (V.need (∀ (i : Nat), i < 1 → len ≤ len)
    (V.need (∀ (i e : Nat), i < 1 ∧ e < len → g e = g e)
    (V.need (preN (fun (e : Nat) => g e) len (pS g len x.fst.toNat) (Int.ofNat 6))
    (V.need (Int.ofNat 0 ≤ Int.ofNat 0 ∧ Int.ofNat 0 ≤ (↑(lenP g len x.fst.toNat) : Int) ∧ (Int.ofNat 0).toNat ≤ gd x.fst.toNat x.snd x.fst.toNat)
    (V.need (Int.ofNat 0 = Int.ofNat 0)
    (V.need (len = len)
    (V.need (cap = cap)
    (V.need ((↑(pS g len x.fst.toNat + 1) : Int) = (↑(pI g len (pS g len x.fst.toNat) (Int.ofNat 0).toNat) : Int))
    (V.need (nP g len = nP g len)
    (V.need (nP g len ≤ nP g len)
    (V.need (∀ (e : Nat), e < nP g len → e = e)
    (V.need (∀ (e : Nat), e < nP g len → gd x.fst.toNat (lenP g len) e = g2 x.fst.toNat (lenP g len) (Int.ofNat 0).toNat e)
    (V.need (∀ (e : Nat), e < nP g len → gd x.fst.toNat x.snd e = g2 x.fst.toNat (fun (e : Nat) => gd x.fst.toNat x.snd e) (gd x.fst.toNat x.snd x.fst.toNat) e)
    (V.need (∀ (i : Nat), gd x.fst.toNat x.snd i = g2 x.fst.toNat (fun (e : Nat) => gd x.fst.toNat x.snd e) (gd x.fst.toNat x.snd x.fst.toNat) i ∨ g2 x.fst.toNat (fun (e : Nat) => gd x.fst.toNat x.snd e) (gd x.fst.toNat x.snd x.fst.toNat) i = 0)
    (V.need (∀ (i : Nat), g2 x.fst.toNat (lenP g len) (Int.ofNat 0).toNat i ≤ g2 x.fst.toNat (fun (e : Nat) => gd x.fst.toNat x.snd e) (gd x.fst.toNat x.snd x.fst.toNat) i ∧ g2 x.fst.toNat (lenP g len) (Int.ofNat 0).toNat i ≤ gd x.fst.toNat (lenP g len) i)
    (V.need (∀ (i e : Nat), e < g2 x.fst.toNat (lenP g len) (Int.ofNat 0).toNat i → cO g len i e = cO g len i e)
    (V.need (∀ (i e : Nat), e < g2 x.fst.toNat (lenP g len) (Int.ofNat 0).toNat i → cA g len i e = cA g len i e)
    (V.need (∀ (i e : Nat), e < g2 x.fst.toNat (lenP g len) (Int.ofNat 0).toNat i → cB g len i e = cB g len i e)
    (V.any (Int × Nat) (fun (x_1 : Int × Nat) => Int.ofNat 0 ≤ x_1.fst ∧ x_1.fst ≤ (↑(lenP g len x.fst.toNat) : Int) ∧ x_1.fst.toNat ≤ x_1.snd) fun (x_1 : Int × Nat) => V.br (decide (x_1.fst < rd (fun (e : Nat) => g e) len (pS g len x.fst.toNat) (Int.ofNat 6)))
    (V.need (0 < 1 ∧ 0 < 1)
    (V.need (0 < 1 ∧ 0 < 1)
    (V.need (0 < 1 ∧ 0 < 1)
    (V.need (0 < 1 ∧ 0 < 1)
    (V.need (Int.ofNat 0 ≤ x.fst ∧ x.fst < (↑(IntKind.i64.wrap (Int.ofNat 1 + rd (fun (e : Nat) => g e) len 9 (Int.ofNat 4))).toNat : Int))
    (V.need (0 < 1 ∧ 0 + x.fst.toNat < nP g len)
    (V.need (0 < 1 ∧ 0 + x.fst.toNat < nP g len)
    (V.need (0 < 1 ∧ 0 < 1)
    (V.need (0 < 1 ∧ 0 < 1)
    (V.need (0 < 1 ∧ 0 < 1)
    (V.need (0 < 1 ∧ 0 < 1)
    (V.need (0 < 1 ∧ 0 < 1)
    (V.need (0 < 1 ∧ 0 < 1)
    (V.need (0 < 1 ∧ 0 < 1)
    (V.need (0 < 1 ∧ 0 < 1)
    (V.need (0 < 1 ∧ 0 < 1)
    (V.need (0 < 1 ∧ 0 < 1)
    (V.need (0 < 1 ∧ 0 < 1)
    (V.need (IntKind.i64.wrap (Int.ofNat 1 + rd (fun (e : Nat) => g e) len 0 (Int.ofNat 4)) = IntKind.i64.wrap (Int.ofNat 1 + rd (fun (e : Nat) => g e) len 0 (Int.ofNat 4)))
    (V.need (IntKind.i64.wrap (Int.ofNat 1 + rd (fun (e : Nat) => g e) len 1 (Int.ofNat 4)) = IntKind.i64.wrap (Int.ofNat 1 + rd (fun (e : Nat) => g e) len 1 (Int.ofNat 4)))
    (V.need (IntKind.i64.wrap (Int.ofNat 1 + rd (fun (e : Nat) => g e) len 2 (min (Int.ofNat 3) (IntKind.i64.wrap (Int.ofNat 1 + rd (fun (e : Nat) => g e) len 1 (Int.ofNat 4))))) = IntKind.i64.wrap (Int.ofNat 1 + rd (fun (e : Nat) => g e) len 2 (min (Int.ofNat 3) (IntKind.i64.wrap (Int.ofNat 1 + rd (fun (e : Nat) => g e) len 1 (Int.ofNat 4))))))
    (V.need (IntKind.i64.wrap (Int.ofNat 1 + rd (fun (e : Nat) => g e) len 3 (Int.ofNat 12)) = IntKind.i64.wrap (Int.ofNat 1 + rd (fun (e : Nat) => g e) len 3 (Int.ofNat 12)))
    (V.need (IntKind.i64.wrap (Int.ofNat 1 + rd (fun (e : Nat) => g e) len 4 (Int.ofNat 4)) = IntKind.i64.wrap (Int.ofNat 1 + rd (fun (e : Nat) => g e) len 4 (Int.ofNat 4)))
    (V.need (IntKind.i64.wrap (Int.ofNat 1 + rd (fun (e : Nat) => g e) len 5 (Int.ofNat 4)) = IntKind.i64.wrap (Int.ofNat 1 + rd (fun (e : Nat) => g e) len 5 (Int.ofNat 4)))
    (V.need (IntKind.i64.wrap (Int.ofNat 1 + rd (fun (e : Nat) => g e) len 6 (IntKind.i64.wrap (Int.ofNat 1 + rd (fun (e : Nat) => g e) len 4 (Int.ofNat 4)))) = IntKind.i64.wrap (Int.ofNat 1 + rd (fun (e : Nat) => g e) len 6 (IntKind.i64.wrap (Int.ofNat 1 + rd (fun (e : Nat) => g e) len 4 (Int.ofNat 4)))))
    (V.need (rd (fun (e : Nat) => g e) len 7 (Int.ofNat 6) = rd (fun (e : Nat) => g e) len 7 (Int.ofNat 6))
    (V.need (IntKind.i64.wrap (Int.ofNat 1 + rd (fun (e : Nat) => g e) len 8 (Int.ofNat 8)) = IntKind.i64.wrap (Int.ofNat 1 + rd (fun (e : Nat) => g e) len 8 (Int.ofNat 8)))
    (V.need ((IntKind.i64.wrap (Int.ofNat 1 + rd (fun (e : Nat) => g e) len 9 (Int.ofNat 4))).toNat = (IntKind.i64.wrap (Int.ofNat 1 + rd (fun (e : Nat) => g e) len 9 (Int.ofNat 4))).toNat)
    (V.need ((IntKind.i64.wrap (Int.ofNat 1 + rd (fun (e : Nat) => g e) len 9 (Int.ofNat 4))).toNat = (IntKind.i64.wrap (Int.ofNat 1 + rd (fun (e : Nat) => g e) len 9 (Int.ofNat 4))).toNat)
    (V.need (len = len)
    (V.need (cap = cap)
    (V.need ((↑(pI g len (pS g len x.fst.toNat) x_1.fst.toNat) : Int) = (↑(pI g len (pS g len x.fst.toNat) x_1.fst.toNat) : Int))
    (V.need (1 ≤ 1)
    (V.need (∀ (i : Nat), i < 1 → len ≤ len)
    (V.need (∀ (i e : Nat), i < 1 ∧ e < len → g e = g e)
    (V.need (1 ≤ 1)
    (V.need (∀ (i : Nat), i < 1 → (IntKind.i64.wrap (Int.ofNat 1 + rd (fun (e : Nat) => g e) len 9 (Int.ofNat 4))).toNat ≤ nP g len)
    (V.need (preI (fun (e : Nat) => g e) len (pI g len (pS g len x.fst.toNat) x_1.fst.toNat) (IntKind.i64.wrap (Int.ofNat 1 + rd (fun (e : Nat) => g e) len 9 (Int.ofNat 4))).toNat (IntKind.i64.wrap (Int.ofNat 1 + rd (fun (e : Nat) => g e) len 1 (Int.ofNat 4))))
    (V.need (0 < 1 ∧ 0 < 1)
    (V.need (0 < 1 ∧ 0 < 1)
    (V.need (0 < 1 ∧ 0 < 1)
    (V.need (g2 x.fst.toNat (lenP g len) x_1.fst.toNat (0 + x.fst.toNat) ≤ g2 x.fst.toNat (lenP g len) x_1.fst.toNat (0 + x.fst.toNat) ∧ g2 x.fst.toNat (fun (e : Nat) => gd x.fst.toNat x.snd e) x_1.snd (0 + x.fst.toNat) = g2 x.fst.toNat (fun (e : Nat) => gd x.fst.toNat x.snd e) x_1.snd (0 + x.fst.toNat))
    (V.need (g2 x.fst.toNat (lenP g len) x_1.fst.toNat (0 + x.fst.toNat) + 1 ≤ 9223372036854775807 ∧ (g2 x.fst.toNat (lenP g len) x_1.fst.toNat (0 + x.fst.toNat) + 1) * 24 ≤ 140737488355328)
    (V.any Nat (fun (x_2 : Nat) => g2 x.fst.toNat (lenP g len) x_1.fst.toNat (0 + x.fst.toNat) + 1 ≤ x_2) fun (x_2 : Nat) => V.need (Int.ofNat 0 ≤ x.fst ∧ x.fst < (↑(IntKind.i64.wrap (Int.ofNat 1 + rd (fun (e : Nat) => g e) len 9 (Int.ofNat 4))).toNat : Int))
    (V.need (0 < 1 ∧ 0 + x.fst.toNat < nP g len)
    (V.need (0 + x.fst.toNat < nP g len)
    (V.need (True ∧ ∀ (i e : Nat), i = 0 ∧ e < nP g len → ¬(i = 0 ∧ e = 0 + x.fst.toNat) → e ≠ 0 + x.fst.toNat)
    (V.need (Int.ofNat 0 ≤ IntKind.i64.wrap (x_1.fst + Int.ofNat 1) ∧ IntKind.i64.wrap (x_1.fst + Int.ofNat 1) ≤ (↑(lenP g len x.fst.toNat) : Int) ∧ (IntKind.i64.wrap (x_1.fst + Int.ofNat 1)).toNat ≤ if 0 = 0 ∧ x.fst.toNat = 0 + x.fst.toNat then x_2 else g2 x.fst.toNat (fun (e : Nat) => gd x.fst.toNat x.snd e) x_1.snd x.fst.toNat)
    (V.need (lenP g len x.fst.toNat - (IntKind.i64.wrap (x_1.fst + Int.ofNat 1)).toNat < lenP g len x.fst.toNat - x_1.fst.toNat)
    (V.need (IntKind.i64.wrap (x_1.fst + Int.ofNat 1) = IntKind.i64.wrap (x_1.fst + Int.ofNat 1))
    (V.need (len = len)
    (V.need (cap = cap)
    (V.need ((↑(iE (fun (e : Nat) => g e) len (pI g len (pS g len x.fst.toNat) x_1.fst.toNat)) : Int) = (↑(pI g len (pS g len x.fst.toNat) (IntKind.i64.wrap (x_1.fst + Int.ofNat 1)).toNat) : Int))
    (V.need (nP g len = nP g len)
    (V.need (nP g len ≤ nP g len)
    (V.need (∀ (e : Nat), e < nP g len → e = e)
    (V.need (∀ (e : Nat), e < nP g len → (if 0 = 0 ∧ e = 0 + x.fst.toNat then g2 x.fst.toNat (lenP g len) x_1.fst.toNat (0 + x.fst.toNat) + 1 else g2 x.fst.toNat (lenP g len) x_1.fst.toNat e) = g2 x.fst.toNat (lenP g len) (IntKind.i64.wrap (x_1.fst + Int.ofNat 1)).toNat e)
    (V.need (∀ (e : Nat), e < nP g len → (if 0 = 0 ∧ e = 0 + x.fst.toNat then x_2 else g2 x.fst.toNat (fun (e : Nat) => gd x.fst.toNat x.snd e) x_1.snd e) = g2 x.fst.toNat (fun (e : Nat) => gd x.fst.toNat x.snd e) (if 0 = 0 ∧ x.fst.toNat = 0 + x.fst.toNat then x_2 else g2 x.fst.toNat (fun (e : Nat) => gd x.fst.toNat x.snd e) x_1.snd x.fst.toNat) e)
    (V.need (∀ (i : Nat), (if i = 0 + x.fst.toNat then x_2 else if i = 0 + x.fst.toNat then 0 else g2 x.fst.toNat (fun (e : Nat) => gd x.fst.toNat x.snd e) x_1.snd i) = g2 x.fst.toNat (fun (e : Nat) => gd x.fst.toNat x.snd e) (if 0 = 0 ∧ x.fst.toNat = 0 + x.fst.toNat then x_2 else g2 x.fst.toNat (fun (e : Nat) => gd x.fst.toNat x.snd e) x_1.snd x.fst.toNat) i ∨ g2 x.fst.toNat (fun (e : Nat) => gd x.fst.toNat x.snd e) (if 0 = 0 ∧ x.fst.toNat = 0 + x.fst.toNat then x_2 else g2 x.fst.toNat (fun (e : Nat) => gd x.fst.toNat x.snd e) x_1.snd x.fst.toNat) i = 0)
    (V.need (∀ (i : Nat), g2 x.fst.toNat (lenP g len) (IntKind.i64.wrap (x_1.fst + Int.ofNat 1)).toNat i ≤ g2 x.fst.toNat (fun (e : Nat) => gd x.fst.toNat x.snd e) (if 0 = 0 ∧ x.fst.toNat = 0 + x.fst.toNat then x_2 else g2 x.fst.toNat (fun (e : Nat) => gd x.fst.toNat x.snd e) x_1.snd x.fst.toNat) i ∧ g2 x.fst.toNat (lenP g len) (IntKind.i64.wrap (x_1.fst + Int.ofNat 1)).toNat i ≤ if i = 0 + x.fst.toNat then g2 x.fst.toNat (lenP g len) x_1.fst.toNat (0 + x.fst.toNat) + 1 else if i = 0 + x.fst.toNat then 0 else g2 x.fst.toNat (lenP g len) x_1.fst.toNat i)
    (V.need (∀ (i e : Nat), e < g2 x.fst.toNat (lenP g len) (IntKind.i64.wrap (x_1.fst + Int.ofNat 1)).toNat i → (if i = 0 + x.fst.toNat then if 0 = 0 ∧ e = g2 x.fst.toNat (lenP g len) x_1.fst.toNat (0 + x.fst.toNat) then iO (fun (e : Nat) => g e) len (pI g len (pS g len x.fst.toNat) x_1.fst.toNat) else cO g len (0 + x.fst.toNat) e else cO g len i e) = cO g len i e)
    (V.need (∀ (i e : Nat), e < g2 x.fst.toNat (lenP g len) (IntKind.i64.wrap (x_1.fst + Int.ofNat 1)).toNat i → (if i = 0 + x.fst.toNat then if 0 = 0 ∧ e = g2 x.fst.toNat (lenP g len) x_1.fst.toNat (0 + x.fst.toNat) then rdA (fun (e : Nat) => g e) len (↑(IntKind.i64.wrap (Int.ofNat 1 + rd (fun (e : Nat) => g e) len 9 (Int.ofNat 4))).toNat : Int) (IntKind.i64.wrap (Int.ofNat 1 + rd (fun (e : Nat) => g e) len 1 (Int.ofNat 4))) (pI g len (pS g len x.fst.toNat) x_1.fst.toNat) else cA g len (0 + x.fst.toNat) e else cA g len i e) = cA g len i e)
    (V.need (∀ (i e : Nat), e < g2 x.fst.toNat (lenP g len) (IntKind.i64.wrap (x_1.fst + Int.ofNat 1)).toNat i → (if i = 0 + x.fst.toNat then if 0 = 0 ∧ e = g2 x.fst.toNat (lenP g len) x_1.fst.toNat (0 + x.fst.toNat) then rdB (fun (e : Nat) => g e) len (↑(IntKind.i64.wrap (Int.ofNat 1 + rd (fun (e : Nat) => g e) len 9 (Int.ofNat 4))).toNat : Int) (IntKind.i64.wrap (Int.ofNat 1 + rd (fun (e : Nat) => g e) len 1 (Int.ofNat 4))) (pI g len (pS g len x.fst.toNat) x_1.fst.toNat) else cB g len (0 + x.fst.toNat) e else cB g len i e) = cB g len i e) V.ok)))))))))))))))))))))))))))))))))))))))))))))))))))))))))))))))
    (V.need (Int.ofNat 0 ≤ IntKind.i64.wrap (x.fst + Int.ofNat 1) ∧ IntKind.i64.wrap (x.fst + Int.ofNat 1) ≤ (↑(nP g len) : Int) ∧ ∀ (e : Nat), e < (IntKind.i64.wrap (x.fst + Int.ofNat 1)).toNat → lenP g len e ≤ g2 x.fst.toNat (fun (e : Nat) => gd x.fst.toNat x.snd e) x_1.snd e)
    (V.need (nP g len - (IntKind.i64.wrap (x.fst + Int.ofNat 1)).toNat < nP g len - x.fst.toNat)
    (V.need (IntKind.i64.wrap (x.fst + Int.ofNat 1) = IntKind.i64.wrap (x.fst + Int.ofNat 1))
    (V.need (len = len)
    (V.need (cap = cap)
    (V.need ((↑(pI g len (pS g len x.fst.toNat) x_1.fst.toNat) : Int) = (↑(pS g len (IntKind.i64.wrap (x.fst + Int.ofNat 1)).toNat) : Int))
    (V.need (nP g len = nP g len)
    (V.need (nP g len ≤ nP g len)
    (V.need (∀ (e : Nat), e < nP g len → e = e)
    (V.need (∀ (e : Nat), e < nP g len → g2 x.fst.toNat (lenP g len) x_1.fst.toNat e = gd (IntKind.i64.wrap (x.fst + Int.ofNat 1)).toNat (lenP g len) e)
    (V.need (∀ (e : Nat), e < nP g len → g2 x.fst.toNat (fun (e : Nat) => gd x.fst.toNat x.snd e) x_1.snd e = gd (IntKind.i64.wrap (x.fst + Int.ofNat 1)).toNat (fun (e : Nat) => g2 x.fst.toNat (fun (e : Nat) => gd x.fst.toNat x.snd e) x_1.snd e) e)
    (V.need (∀ (i : Nat), g2 x.fst.toNat (fun (e : Nat) => gd x.fst.toNat x.snd e) x_1.snd i = gd (IntKind.i64.wrap (x.fst + Int.ofNat 1)).toNat (fun (e : Nat) => g2 x.fst.toNat (fun (e : Nat) => gd x.fst.toNat x.snd e) x_1.snd e) i ∨ gd (IntKind.i64.wrap (x.fst + Int.ofNat 1)).toNat (fun (e : Nat) => g2 x.fst.toNat (fun (e : Nat) => gd x.fst.toNat x.snd e) x_1.snd e) i = 0)
    (V.need (∀ (i : Nat), gd (IntKind.i64.wrap (x.fst + Int.ofNat 1)).toNat (lenP g len) i ≤ gd (IntKind.i64.wrap (x.fst + Int.ofNat 1)).toNat (fun (e : Nat) => g2 x.fst.toNat (fun (e : Nat) => gd x.fst.toNat x.snd e) x_1.snd e) i ∧ gd (IntKind.i64.wrap (x.fst + Int.ofNat 1)).toNat (lenP g len) i ≤ g2 x.fst.toNat (lenP g len) x_1.fst.toNat i)
    (V.need (∀ (i e : Nat), e < gd (IntKind.i64.wrap (x.fst + Int.ofNat 1)).toNat (lenP g len) i → cO g len i e = cO g len i e)
    (V.need (∀ (i e : Nat), e < gd (IntKind.i64.wrap (x.fst + Int.ofNat 1)).toNat (lenP g len) i → cA g len i e = cA g len i e)
    (V.need (∀ (i e : Nat), e < gd (IntKind.i64.wrap (x.fst + Int.ofNat 1)).toNat (lenP g len) i → cB g len i e = cB g len i e) V.ok))))))))))))))))))))))))))))))))))))))))
    (V.need (Int.ofNat 6 = Int.ofNat 6)
    (V.need (len = len)
    (V.need (cap = cap)
    (V.need ((↑(pS g len x.fst.toNat) : Int) = (↑(pS g len x.fst.toNat) : Int))
    (V.need (1 ≤ 1)
    (V.need (∀ (i : Nat), i < 1 → len ≤ len)
    (V.need (∀ (i e : Nat), i < 1 ∧ e < len → g e = g e)
    (V.need (preN (fun (e : Nat) => g e) len (pS g len x.fst.toNat) (Int.ofNat 6))
    (V.need (Int.ofNat 0 ≤ Int.ofNat 0 ∧ Int.ofNat 0 ≤ (↑(nU g len) : Int) ∧ 0 ≤ 0)
    (V.need (Int.ofNat 0 = Int.ofNat 0)
    (V.need (len = len)
    (V.need (cap = cap)
    (V.need ((↑(pS g len x.fst.toNat + 1) : Int) = (↑(pos3 g len 0) : Int))
    (V.need (IntKind.i64.wrap (Int.ofNat 1 + rd (fun (e : Nat) => g e) len 0 (Int.ofNat 4)) = dW g len)
    (V.need (IntKind.i64.wrap (Int.ofNat 1 + rd (fun (e : Nat) => g e) len 1 (Int.ofNat 4)) = dL g len)
    (V.need (IntKind.i64.wrap (Int.ofNat 1 + rd (fun (e : Nat) => g e) len 2 (min (Int.ofNat 3) (IntKind.i64.wrap (Int.ofNat 1 + rd (fun (e : Nat) => g e) len 1 (Int.ofNat 4))))) = dC g len)
    (V.need (IntKind.i64.wrap (Int.ofNat 1 + rd (fun (e : Nat) => g e) len 3 (Int.ofNat 12)) = dT g len)
    (V.need (IntKind.i64.wrap (Int.ofNat 1 + rd (fun (e : Nat) => g e) len 4 (Int.ofNat 4)) = dD g len)
    (V.need (IntKind.i64.wrap (Int.ofNat 1 + rd (fun (e : Nat) => g e) len 5 (Int.ofNat 4)) = dH g len)
    (V.need (IntKind.i64.wrap (Int.ofNat 1 + rd (fun (e : Nat) => g e) len 6 (IntKind.i64.wrap (Int.ofNat 1 + rd (fun (e : Nat) => g e) len 4 (Int.ofNat 4)))) = dB g len)
    (V.need (rd (fun (e : Nat) => g e) len 7 (Int.ofNat 6) = dA g len)
    (V.need (IntKind.i64.wrap (Int.ofNat 1 + rd (fun (e : Nat) => g e) len 8 (Int.ofNat 8)) = dP g len)
    (V.need ((IntKind.i64.wrap (Int.ofNat 1 + rd (fun (e : Nat) => g e) len 9 (Int.ofNat 4))).toNat = nP g len)
    (V.need ((IntKind.i64.wrap (Int.ofNat 1 + rd (fun (e : Nat) => g e) len 9 (Int.ofNat 4))).toNat = nP g len)
    (V.need (0 = 0)
    (V.need (0 = 0)
    (V.need (0 = 0)
    (V.need (0 ≤ 0)
    (V.need (∀ (e : Nat), e < 0 → uP g len e = uP g len e)
    (V.need (∀ (e : Nat), e < 0 → uL g len e = uL g len e)
    (V.need (∀ (e : Nat), e < 0 → uD g len e = uD g len e)
    (V.any (Int × Nat) (fun (x : Int × Nat) => Int.ofNat 0 ≤ x.fst ∧ x.fst ≤ (↑(nU g len) : Int) ∧ x.fst.toNat ≤ x.snd) fun (x_1 : Int × Nat) => V.br (decide (x_1.fst < rd (fun (e : Nat) => g e) len (pS g len x.fst.toNat) (Int.ofNat 6)))
    (V.need ((↑(nP g len) : Int) = (↑(nP g len) : Int))
    (V.need (len = len)
    (V.need (cap = cap)
    (V.need ((↑(pos3 g len x_1.fst.toNat) : Int) = (↑(pos3 g len x_1.fst.toNat) : Int))
    (V.need (1 ≤ 1)
    (V.need (∀ (i : Nat), i < 1 → len ≤ len)
    (V.need (∀ (i e : Nat), i < 1 ∧ e < len → g e = g e)
    (V.need (preN (fun (e : Nat) => g e) len (pos3 g len x_1.fst.toNat) (↑(nP g len) : Int))
    (V.need (dL g len = dL g len)
    (V.need (len = len)
    (V.need (cap = cap)
    (V.need ((↑(pos3 g len x_1.fst.toNat + 1) : Int) = (↑(pos3 g len x_1.fst.toNat + 1) : Int))
    (V.need (1 ≤ 1)
    (V.need (∀ (i : Nat), i < 1 → len ≤ len)
    (V.need (∀ (i e : Nat), i < 1 ∧ e < len → g e = g e)
    (V.need (preN (fun (e : Nat) => g e) len (pos3 g len x_1.fst.toNat + 1) (dL g len))
    (V.need (Int.ofNat 16 = Int.ofNat 16)
    (V.need (len = len)
    (V.need (cap = cap)
    (V.need ((↑(pos3 g len x_1.fst.toNat + 1 + 1) : Int) = (↑(pos3 g len x_1.fst.toNat + 1 + 1) : Int))
    (V.need (1 ≤ 1)
    (V.need (∀ (i : Nat), i < 1 → len ≤ len)
    (V.need (∀ (i e : Nat), i < 1 ∧ e < len → g e = g e)
    (V.need (preN (fun (e : Nat) => g e) len (pos3 g len x_1.fst.toNat + 1 + 1) (Int.ofNat 16))
    (V.need (0 < 1)
    (V.need (0 < 1)
    (V.need (0 < 1)
    (V.need (x_1.fst.toNat ≤ x_1.fst.toNat ∧ x_1.snd = x_1.snd)
    (V.need (x_1.fst.toNat + 1 ≤ 9223372036854775807 ∧ (x_1.fst.toNat + 1) * 24 ≤ 140737488355328)
    (V.any Nat (fun (x : Nat) => x_1.fst.toNat + 1 ≤ x) fun (x : Nat) => V.need (Int.ofNat 0 ≤ IntKind.i64.wrap (x_1.fst + Int.ofNat 1) ∧ IntKind.i64.wrap (x_1.fst + Int.ofNat 1) ≤ (↑(nU g len) : Int) ∧ (IntKind.i64.wrap (x_1.fst + Int.ofNat 1)).toNat ≤ x)
    (V.need (nU g len - (IntKind.i64.wrap (x_1.fst + Int.ofNat 1)).toNat < nU g len - x_1.fst.toNat)
    (V.need (IntKind.i64.wrap (x_1.fst + Int.ofNat 1) = IntKind.i64.wrap (x_1.fst + Int.ofNat 1))
    (V.need (len = len)
    (V.need (cap = cap)
    (V.need ((↑(pos3 g len x_1.fst.toNat + 1 + 1 + 1) : Int) = (↑(pos3 g len (IntKind.i64.wrap (x_1.fst + Int.ofNat 1)).toNat) : Int))
    (V.need (dW g len = dW g len)
    (V.need (dL g len = dL g len)
    (V.need (dC g len = dC g len)
    (V.need (dT g len = dT g len)
    (V.need (dD g len = dD g len)
    (V.need (dH g len = dH g len)
    (V.need (dB g len = dB g len)
    (V.need (dA g len = dA g len)
    (V.need (dP g len = dP g len)
    (V.need (nP g len = nP g len)
    (V.need (nP g len = nP g len)
    (V.need (x_1.fst.toNat + 1 = (IntKind.i64.wrap (x_1.fst + Int.ofNat 1)).toNat)
    (V.need (x = x)
    (V.need (x = x)
    (V.need ((IntKind.i64.wrap (x_1.fst + Int.ofNat 1)).toNat ≤ x_1.fst.toNat + 1)
    (V.need (∀ (e : Nat), e < (IntKind.i64.wrap (x_1.fst + Int.ofNat 1)).toNat → (if 0 = 0 ∧ e = x_1.fst.toNat then rd (fun (e : Nat) => g e) len (pos3 g len x_1.fst.toNat) (↑(nP g len) : Int) else uP g len e) = uP g len e)
    (V.need (∀ (e : Nat), e < (IntKind.i64.wrap (x_1.fst + Int.ofNat 1)).toNat → (if 0 = 0 ∧ e = x_1.fst.toNat then rd (fun (e : Nat) => g e) len (pos3 g len x_1.fst.toNat + 1) (dL g len) else uL g len e) = uL g len e)
    (V.need (∀ (e : Nat), e < (IntKind.i64.wrap (x_1.fst + Int.ofNat 1)).toNat → (if 0 = 0 ∧ e = x_1.fst.toNat then rd (fun (e : Nat) => g e) len (pos3 g len x_1.fst.toNat + 1 + 1) (Int.ofNat 16) else uD g len e) = uD g len e) V.ok)))))))))))))))))))))))))))))))))))))))))))))))))))))
    (V.need (IsDec g len (decOf g len (fun (e : Nat) => gd x.fst.toNat x.snd e) (nP g len) x_1.snd))
    (V.need (dW g len = dW g len)
    (V.need (dL g len = dL g len)
    (V.need (dC g len = dC g len)
    (V.need (dT g len = dT g len)
    (V.need (dD g len = dD g len)
    (V.need (dH g len = dH g len)
    (V.need (dB g len = dB g len)
    (V.need (dA g len = dA g len)
    (V.need (dP g len = dP g len)
    (V.need (nP g len = nP g len)
    (V.need (nP g len = nP g len)
    (V.need (x_1.fst.toNat = nU g len)
    (V.need (x_1.snd = x_1.snd)
    (V.need (∀ (i : Nat), gd x.fst.toNat x.snd i = gd (nP g len) (fun (e : Nat) => gd x.fst.toNat x.snd e) i ∨ gd (nP g len) (fun (e : Nat) => gd x.fst.toNat x.snd e) i = 0)
    (V.need (∀ (i : Nat), gd (nP g len) (fun (e : Nat) => lenP g len e) i ≤ gd (nP g len) (fun (e : Nat) => gd x.fst.toNat x.snd e) i ∧ gd (nP g len) (fun (e : Nat) => lenP g len e) i ≤ gd x.fst.toNat (lenP g len) i)
    (V.need (∀ (i e : Nat), e < gd (nP g len) (fun (e : Nat) => lenP g len e) i → cO g len i e = cO g len i e)
    (V.need (∀ (i e : Nat), e < gd (nP g len) (fun (e : Nat) => lenP g len e) i → cA g len i e = cA g len i e)
    (V.need (∀ (i e : Nat), e < gd (nP g len) (fun (e : Nat) => lenP g len e) i → cB g len i e = cB g len i e)
    (V.need (nP g len = nP g len)
    (V.need (nP g len ≤ nP g len)
    (V.need (∀ (e : Nat), e < nP g len → e = e)
    (V.need (∀ (e : Nat), e < nP g len → gd x.fst.toNat (lenP g len) e = lenP g len e)
    (V.need (∀ (e : Nat), e < nP g len → gd x.fst.toNat x.snd e = gd x.fst.toNat x.snd e)
    (V.need (x_1.snd = x_1.snd)
    (V.need (nU g len ≤ x_1.fst.toNat)
    (V.need (∀ (e : Nat), e < nU g len → uP g len e = uP g len e)
    (V.need (∀ (e : Nat), e < nU g len → uL g len e = uL g len e)
    (V.need (∀ (e : Nat), e < nU g len → uD g len e = uD g len e) V.ok))))))))))))))))))))))))))))))))))))))))))))))))))))))))))))))))))))))))))))))))))))))))))))))))))))))))))))))))))))))))))))))))))))))))))))))))))))))))))))) := by kernel_rfl


end Go.Proofs.Ytjpnpaboahbncaa.Vc

/- config.Decode: the contract. -/
set_option linter.unusedVariables false
set_option linter.unusedSimpArgs false
set_option maxRecDepth 100000
namespace Go.Proofs.Ytjpnpaboahbncaa.Vc
open Go Go.RowKit Sx Cn Dc Ck
theorem g2_self (i : Nat) (F : Nat → Nat) (x : Nat) : g2 i F x i = x := by unfold g2; rw [if_neg (by omega), if_pos rfl]
theorem g2_lt {i e : Nat} (F : Nat → Nat) (x : Nat) (h : e < i) : g2 i F x e = F e := by unfold g2; rw [if_pos h]
theorem gd_lt {i e : Nat} (F : Nat → Nat) (h : e < i) : gd i F e = F e := by unfold gd; rw [if_pos h]
section
variable {g : Nat → Int} {len : Nat}
theorem pS_big (hu : U8 len g) {i : Nat} (h : i ≤ 4) : pS g len i ≤ 100 := by have := pS_le hu i; omega
theorem pI_big (hu : U8 len g) {i k : Nat} (h : i ≤ 4) (hk : k ≤ 5) : pI g len (pS g len i) k ≤ 200 := by have := pS_big hu h; have := pI_le (g := g) (len := len) (pS g len i) k; omega
end
section
variable {g : Nat → Int} {len : Nat}
theorem pS_next {i j : Nat} (h : j = lenP g len i) : pI g len (pS g len i) j = pS g len (i + 1) := by subst h; rfl
theorem pos_0 {i : Nat} (h : i = nP g len) : pS g len i + 1 = pos3 g len 0 := by subst h; rfl
theorem pos_n (k : Nat) : pos3 g len k + 1 + 1 + 1 = pos3 g len (k + 1) := by unfold pos3; omega
theorem pos_le (hu : U8 len g) {k : Nat} (h : k ≤ 5) : pos3 g len k ≤ 1000 := by have := pU_le hu; unfold pos3; omega
theorem len_U {i : Nat} (h : i = nP g len) : lenP g len i = nU g len := by subst h; rfl
theorem dec_is {i : Nat} {FC : Nat → Nat} {cu : Nat} (h : i = nP g len) (hF : ∀ e, e < i → lenP g len e ≤ FC e) (hc : nU g len ≤ cu) : IsDec g len (decOf g len (fun e => gd i FC e) (nP g len) cu) :=
  ⟨fun e => gd i FC e, nP g len, cu, ⟨fun e he => by show lenP g len e ≤ gd i FC e; rw [gd_lt _ (by omega)]; exact hF e (by omega), Nat.le_refl _, hc⟩, rfl⟩
theorem gd_fin {i m : Nat} {A FC : Nat → Nat} (h : i = m) (hF : ∀ e, e < i → A e ≤ FC e) (e : Nat) : gd m A e ≤ gd m (fun e => gd i FC e) e := by
  subst h
  show gd i A e ≤ gd i (gd i FC) e
  by_cases he : e < i
  · rw [gd_lt _ he, gd_lt _ he, gd_lt _ he]; exact hF e he
  · unfold gd; simp [he]
theorem g2_le {i : Nat} {A F : Nat → Nat} (h : ∀ e, e < i → A e ≤ F e) {a b : Nat} (hab : a ≤ b) (e : Nat) : g2 i A a e ≤ g2 i (fun e => gd i F e) b e := by
  show g2 i A a e ≤ g2 i (gd i F) b e
  by_cases he : e < i
  · rw [g2_lt _ _ he, g2_lt _ _ he, gd_lt _ he]; exact h e he
  · unfold g2; simp only [if_neg he]; split
    · exact hab
    · exact Nat.le_refl _
theorem len_g2 {i e : Nat} {A F : Nat → Nat} {b : Nat} (h : ∀ e, e < i → A e ≤ F e) (hb : A i ≤ b) (he : e < i + 1) : A e ≤ g2 i (fun e => gd i F e) b e := by
  show A e ≤ g2 i (gd i F) b e
  by_cases h1 : e < i
  · rw [g2_lt _ _ h1, gd_lt _ h1]; exact h e h1
  · obtain rfl : e = i := by omega
    rw [g2_self]; exact hb
theorem g2_gd {i : Nat} {A : Nat → Nat} {j : Nat} (h : j = A i) (e : Nat) : g2 i A j e = gd (i + 1) A e := by
  subst h
  by_cases h1 : e < i
  · rw [g2_lt _ _ h1, gd_lt _ (by omega)]
  · by_cases h2 : e = i
    · subst h2; rw [g2_self, gd_lt _ (by omega)]
    · unfold g2 gd; rw [if_neg h1, if_neg h2, if_neg (by omega)]
theorem gd_g2 {i : Nat} {A F : Nat → Nat} {b : Nat} (h : ∀ e, e < i → A e ≤ F e) (hb : A i ≤ b) (e : Nat) : gd (i + 1) A e ≤ gd (i + 1) (fun e => g2 i (fun e => gd i F e) b e) e := by
  by_cases h1 : e < i + 1
  · rw [gd_lt _ h1, gd_lt _ h1]; exact len_g2 h hb h1
  · unfold gd; simp [h1]
theorem pos_b (hu : U8 len g) {k : Nat} (h : k ≤ 5) : pos3 g len k ≤ 1000000000 ∧ pos3 g len k + 1 ≤ 1000000000 ∧ pos3 g len k + 1 + 1 ≤ 1000000000 := by have := pos_le hu h; omega
end
theorem wnat {i : Nat} (h : i ≤ 1000000) : IntKind.i64.wrap ((i : Int) + 1) = ((i + 1 : Nat) : Int) := w64 (by omega)
set_option maxHeartbeats 4000000 in
theorem vhDec {g : Nat → Int} {len cap : Nat} (hu : U8 len g) : VHolds (verDec g len cap) := by
  constructor
  rw [verDec_eq]
  have hN := dN_r hu
  have hL := dL_r hu
  have hD := dD_r hu
  have hn := nP_eq hu
  have hU := nU_le hu
  have w : ∀ at' k, 1 ≤ k → k ≤ 16 → IntKind.i64.wrap (1 + rd g len at' k) = 1 + rd g len at' k := fun at' k h1 h2 => w64 (by have := rd_range (at' := at') hu h1; omega)
  have eW : IntKind.i64.wrap (1 + rd g len 0 4) = dW g len := w _ _ (by decide) (by decide)
  have eL : IntKind.i64.wrap (1 + rd g len 1 4) = dL g len := w _ _ (by decide) (by decide)
  have eT : IntKind.i64.wrap (1 + rd g len 3 12) = dT g len := w _ _ (by decide) (by decide)
  have eD : IntKind.i64.wrap (1 + rd g len 4 4) = dD g len := w _ _ (by decide) (by decide)
  have eH : IntKind.i64.wrap (1 + rd g len 5 4) = dH g len := w _ _ (by decide) (by decide)
  have eP : IntKind.i64.wrap (1 + rd g len 8 8) = dP g len := w _ _ (by decide) (by decide)
  have eC : IntKind.i64.wrap (1 + rd g len 2 (min 3 (dL g len))) = dC g len := w _ _ (by omega) (by omega)
  have eB : IntKind.i64.wrap (1 + rd g len 6 (dD g len)) = dB g len := w _ _ (by omega) (by omega)
  have eN : IntKind.i64.wrap (1 + rd g len 9 4) = dN g len := w _ _ (by decide) (by decide)
  have eA : rd g len 7 6 = dA g len := rfl
  have eNt : (dN g len).toNat = nP g len := rfl
  have r6 : ∀ i, rd g len (pS g len i) 6 = (lenP g len i : Int) := fun i => (cnt_eq hu _).1.symm
  have hlU : ∀ i : Nat, ¬ (i : Int) < dN g len → (i : Int) ≤ dN g len → lenP g len i = nU g len := fun i h1 h2 => len_U (by omega)
  have hl : ∀ i, lenP g len i ≤ 5 := fun i => (cnt_eq hu _).2
  simp only [V.holds, preN, preI, Int.ofNat_eq_natCast, decide_eq_true_eq, decide_eq_false_iff_not, ge_iff_le, beq_iff_eq, beq_eq_false_iff_ne, Int.natCast_zero, Int.natCast_one, Int.cast_ofNat_Int, true_and, and_true, eq_self, forall_const, true_implies, implies_true, Nat.le_refl, Nat.zero_lt_one, Nat.zero_add, Int.toNat_natCast, Int.toNat_zero, ne_eq, eW, eL, eT, eD, eH, eP, eC, eB, eN, eA, eNt, r6, hn, if_true, and_self, g2_self, Nat.not_lt_zero, false_implies]
  repeat' first
    | exact True.intro
    | with_reducible apply And.intro
    | (refine Prod.forall.2 fun xi F => ?_
       intro hx
       simp only at hx ⊢
       obtain ⟨i, rfl⟩ := Int.eq_ofNat_of_zero_le hx.1
       simp only [Int.toNat_natCast] at hx ⊢
       have hli := hl i
       obtain ⟨hx0, hx1, hx2⟩ := hx)
    | intro _
  all_goals try simp (disch := omega) only [wnat, Int.toNat_natCast]
  all_goals try simp (disch := omega) only [wnat, Int.toNat_natCast] at *
  all_goals try (first
    | (exact (hu _ (by assumption)).1)
    | (exact (hu _ (by assumption)).2)
    | omega
    | (exact Nat.le_trans (pS_big hu (by omega)) (by decide))
    | (exact Nat.le_trans (pI_big hu (by omega) (by omega)) (by decide))
    | exact (pos_b hu (by omega)).1
    | exact (pos_b hu (by omega)).2.1
    | exact (pos_b hu (by omega)).2.2
    | exact g2_le (by assumption) (by omega) _
    | exact len_g2 (by assumption) (by omega) (by omega)
    | exact g2_gd (by omega) _
    | exact Nat.le_of_eq (g2_gd (by omega) _).symm
    | exact gd_g2 (by assumption) (by omega) _
    | exact dec_is (by omega) (by assumption) (by have := hlU _ (by assumption) (by assumption); omega)
    | exact gd_fin (by omega) (by assumption) _
    | (have := hlU _ (by assumption) (by assumption); omega)
    | rfl
    | exact congrArg _ (pS_next (by omega))
    | exact congrArg _ (pos_0 (by omega))
    | exact congrArg _ (pos_n _)
    | ((repeat' split) <;> first | rfl | (subst_vars; rfl))
    | ((simp only [gd, g2]; repeat' split) <;> first | omega | (exact (by assumption : ∀ e, e < _ → _) _ (by omega))))
theorem conDecP_ok : ContractOK P 59 conDec := contract_of_useP fun args H => by
  unfold conDec
  repeat' split
  all_goals first | exact .inl ⟨_, rfl⟩ | exact .inr ⟨_, _, _, _, _, rfl, local_of_ver conN2_ok fun h => vhDec h⟩
end Go.Proofs.Ytjpnpaboahbncaa.Vc

/- What is decoded is valid; the valid configurations are those without an error. -/
set_option linter.unusedVariables false
set_option linter.unusedSimpArgs false
set_option maxRecDepth 100000
namespace Go.Proofs.Ytjpnpaboahbncaa.Vc
open Go Go.RowKit Sx Cn Dc Ck
theorem lenP_5 {g : Nat → Int} {len : Nat} (hu : U8 len g) (i : Nat) : lenP g len i ≤ 5 := (cnt_eq hu _).2
/-- What is decoded is valid. -/
theorem dec_okC0 {g : Nat → Int} {len : Nat} (hu : U8 len g) (rc c10 : Nat) (FC : Nat → Nat) : okC ⟨dW g len, dL g len, dC g len, dT g len, dD g len, dH g len, dB g len, dA g len, dP g len, nP g len, rc, nU g len, c10, fun e => lenP g len e, fun e => FC e, fun i e => cO g len i e, fun i e => cA g len i e, fun i e => cB g len i e, fun e => uP g len e, fun e => uL g len e, fun e => uD g len e⟩ := by
  have hW := dW_r hu; have hL := dL_r hu; have hC := dC_r hu; have hCL := dC_L hu; have hT := dT_r hu; have hD := dD_r hu; have hH := dH_r hu; have hB := dB_r hu; have hA := dA_r hu; have hP := dP_r hu; have hN := dN_r hu
  have hn := nP_eq hu
  have hU := nU_le hu
  refine ⟨⟨?_, ?_, ?_, ?_, ?_, ?_, ?_, ?_, ?_⟩, ⟨?_, ?_⟩, ?_, ?_⟩
  all_goals try (simp only; omega)
  · intro i hi
    refine ⟨by have := lenP_5 hu i; simp only; omega, fun e he => ?_⟩
    simp only [okI, cO, cA, cB]
    generalize pI g len (pS g len i) e = p
    have h0 := rd_range (at' := p) (k := 3) hu (by decide)
    have h1 := rd_range (at' := p + 1) (k := 4) hu (by decide)
    have h2 := rd_range (at' := p + 1) (k := dN g len) hu (by omega)
    have h3 := rd_range (at' := p + 2) (k := dL g len) hu (by omega)
    unfold iA iB iO
    by_cases a : rd g len p 3 = 0
    · left; rw [if_pos a, if_neg (by omega)]; omega
    · by_cases b : rd g len p 3 = 1
      · right; left; rw [if_neg a, if_pos b, if_pos b]; omega
      · right; right; rw [if_neg a, if_neg b, if_neg b]; omega
  · intro e he
    have h1 := rd_range (at' := pos3 g len e) (k := dN g len) hu (by omega)
    have h2 := rd_range (at' := pos3 g len e + 1) (k := dL g len) hu (by omega)
    have h3 := rd_range (at' := pos3 g len e + 2) (k := 16) hu (by omega)
    simp only [uP, uL, uD]
    omega
theorem dec_okC {g : Nat → Int} {len : Nat} {d : Cf} (hu : U8 len g) (h : IsDec g len d) : okC d := by
  obtain ⟨FC, rc, cu, _, rfl⟩ := h
  exact dec_okC0 hu rc cu FC
open Classical in
theorem pE_zero (c : Cf) : ∀ (k i : Nat), pE c i k = 0 ↔ ∀ j, i ≤ j → j < i + k → c.lenP j ≤ 32 ∧ ∀ e, e < c.lenP j → okI c j e
  | 0, i => ⟨fun _ j h1 h2 => by omega, fun _ => rfl⟩
  | k + 1, i => by
    unfold pE
    constructor
    · intro h
      split at h
      · cases h
      split at h
      · cases h
      rename_i h1 h2
      have ih := (pE_zero c k (i + 1)).1 h
      intro j hj hj'
      by_cases e : j = i
      · subst e
        refine ⟨by omega, fun e he => ?_⟩
        rcases em (okI c j e) with g | g
        · exact g
        · exact absurd ⟨e, he, g⟩ h2
      · exact ih j (by omega) (by omega)
    · intro h
      have h0 := h i (Nat.le_refl _) (by omega)
      rw [if_neg (by omega), if_neg (by rintro ⟨e, he, g⟩; exact g (h0.2 e he))]
      exact (pE_zero c k (i + 1)).2 fun j h1 h2 => h j (by omega) (by omega)
open Classical in
theorem uE_zero (c : Cf) : ∀ (k i : Nat), uE c i k = 0 ↔ ∀ j, i ≤ j → j < i + k → (0 ≤ c.uP j ∧ c.uP j ≤ (c.nP : Int) - 1) ∧ (0 ≤ c.uL j ∧ c.uL j ≤ c.L - 1) ∧ (0 ≤ c.uD j ∧ c.uD j ≤ 16777215)
  | 0, i => ⟨fun _ j h1 h2 => by omega, fun _ => rfl⟩
  | k + 1, i => by
    unfold uE
    constructor
    · intro h
      split at h
      · cases h
      split at h
      · cases h
      rename_i h1 h2
      have h1 := Classical.not_not.1 h1
      have h2 := Classical.not_not.1 h2
      have ih := (uE_zero c k (i + 1)).1 h
      intro j hj hj'
      by_cases e : j = i
      · subst e; exact ⟨h1, h2⟩
      · exact ih j (by omega) (by omega)
    · intro h
      have h0 := h i (Nat.le_refl _) (by omega)
      rw [if_neg (fun g => g h0.1), if_neg (fun g => g h0.2)]
      exact (uE_zero c k (i + 1)).2 fun j h1 h2 => h j (by omega) (by omega)
open Classical in
theorem err_zero (c : Cf) : errE c = 0 ↔ okC c := by
  unfold errE progE subE
  by_cases h1 : okN c
  · rw [if_neg (fun g => g h1)]
    by_cases h2 : 1 ≤ c.nP ∧ c.nP ≤ 32
    · have e2 : (if ¬ (1 ≤ c.nP ∧ c.nP ≤ 32) then (2 : Int) else pE c 0 c.nP) = pE c 0 c.nP := if_neg (fun g => g h2)
      rw [e2]
      by_cases h3 : pE c 0 c.nP = 0
      · have e3 : ∀ z : Int, (if pE c 0 c.nP ≠ 0 then pE c 0 c.nP else z) = z := fun z => if_neg (fun g => g h3)
        rw [e3]
        have h3' := fun i (hi : i < c.nP) => (pE_zero c _ _).1 h3 i (Nat.zero_le _) (by omega)
        by_cases h4 : 64 < c.nU
        · rw [if_pos h4]
          exact ⟨fun h => by omega, fun h => by have := h.2.2.1; omega⟩
        · rw [if_neg h4]
          exact ⟨fun h => ⟨h1, ⟨h2, h3'⟩, by omega, fun e he => (uE_zero c _ _).1 h e (Nat.zero_le _) (by omega)⟩, fun h => (uE_zero c _ _).2 fun j _ hj => h.2.2.2 j (by omega)⟩
      · have e3 : ∀ z : Int, (if pE c 0 c.nP ≠ 0 then pE c 0 c.nP else z) = pE c 0 c.nP := fun z => if_pos h3
        rw [e3]
        exact ⟨fun h => absurd h h3, fun h => absurd ((pE_zero c _ _).2 fun j _ hj => h.2.1.2 j (by omega)) h3⟩
    · have e2 : (if ¬ (1 ≤ c.nP ∧ c.nP ≤ 32) then (2 : Int) else pE c 0 c.nP) = 2 := if_pos h2
      rw [e2]
      exact ⟨fun h => by simp at h, fun h => absurd h.2.1.1 h2⟩
  · rw [if_pos h1]
    exact ⟨fun h => by omega, fun h => absurd h.1 h1⟩
theorem dec_err {g : Nat → Int} {len : Nat} {d : Cf} (hu : U8 len g) (h : IsDec g len d) : errE d = 0 := (err_zero d).2 (dec_okC hu h)
end Go.Proofs.Ytjpnpaboahbncaa.Vc
