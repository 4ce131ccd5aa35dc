/- Reading numbers from bytes: what Number and next compute. -/
import Derived.Test.YtjpnpaboahbncaaMCn
import Derived.Test.YtjpnpaboahbncaaMExec
set_option linter.unusedVariables false
set_option linter.unusedSimpArgs false
set_option linter.unusedVariables false
namespace Go.Proofs.Ytjpnpaboahbncaa.Dc
open Go Go.RowKit Sx Cn
noncomputable section
/-- The number that is read at a place, modulo k. -/
def rd (g : Nat → Int) (len at' : Nat) (k : Int) : Int := if at' < len then g at' % k else 0
def U8 (n : Nat) (g : Nat → Int) : Prop := ∀ e, e < n → 0 ≤ g e ∧ g e ≤ 255
def hC (t sz : TypeId) (len cap at' : Nat) (g : Nat → Int) : HL := [(0, .own t sz [some (.slc 1 (.k 0) (.k 0) 1 (.s len) (.s cap)), none, some (.iv .i64 at'), none]), (1, ints .u8 len g)]
def pC (sz : Nat) : SV := .c (.ptr 0 (.k 0) (.k 0) 0 sz)
def preN (g : Nat → Int) (len at' : Nat) (k : Int) : Prop := U8 len g ∧ 1 ≤ k ∧ at' ≤ 1000000000
def blk97 (len cap at' : Nat) : Blk := .own 132 4 [some (.slc 1 (.k 0) (.k 0) 1 (.s len) (.s cap)), none, some (.iv .i64 at'), none]
def post97 (g : Nat → Int) (len cap at' : Nat) (k : Int) : Out (SV × Hp) := .need (preN g len at' k) (.leaf (iv (rd g len at' k), ⟨[(0, blk97 len cap (at' + 1))], 2, fun _ => True⟩))
def con97 : List SV → Hp → Out (SV × Hp) := fun args H => match args with
  | [.c (.ptr kc _ _ _ _), k] => match find kc H.h with
    | some (.own _ _ cs) => match (cs[0]? : Option (Option SC)), (cs[2]? : Option (Option SC)) with
      | some (some (.slc kb _ _ _ len cap)), some (some c) => match asI (.c c), asI k, rowFn H.h kb 0 with
        | some (_, _, .ofNat at'), some (_, _, k), some g => useT [kc, kb] 2 [pC 4, iv k] [(0, blk97 len.v cap.v at'), (1, ints .u8 len.v g)] (post97 g len.v cap.v at' k) args H
        | _, _, _ => .bad 410
      | _, _ => .bad 411
    | _ => .bad 412
  | _ => .bad 413
def tree97 (g : Nat → Int) (len cap at' : Nat) (k : Int) : Out (SV × Hp) := execF P con0 noAnn 3 3 97 [pC 4, iv k] ⟨[(0, blk97 len cap at'), (1, ints .u8 len g)], 2, fun _ => True⟩
end
end Go.Proofs.Ytjpnpaboahbncaa.Dc


/- Functions of integers: the executor's trees, printed by program. -/
set_option linter.unusedVariables false
set_option maxRecDepth 100000
namespace Go.Proofs.Ytjpnpaboahbncaa.Dc
open Go Go.RowKit Sx Cn

theorem tree97_eq (g : Nat → Int) (len cap at' : Nat) (k : Int) : tree97 g len cap at' k =
  Out.need (0 < 1 ∧ 0 < 1)
    (Out.need (0 < 1 ∧ 0 < 1)
    (Out.need (0 < 1 ∧ 0 < 1)
    (Out.need (0 < 1 ∧ 0 < 1)
    (Out.need (0 < 1 ∧ 0 < 1)
    (Out.need (0 < 1 ∧ 0 < 1)
    (Out.br (decide ((↑at' : Int) < (↑len : Int)))
    (Out.need (0 < 1 ∧ 0 < 1)
    (Out.need (0 < 1 ∧ 0 < 1)
    (Out.need (0 < 1 ∧ 0 < 1)
    (Out.need (0 < 1 ∧ 0 < 1)
    (Out.need (0 < 1 ∧ 0 < 1)
    (Out.need (0 < 1 ∧ 0 < 1)
    (Out.need (Int.ofNat 0 ≤ (↑at' : Int) ∧ (↑at' : Int) < (↑len : Int))
    (Out.need (0 < 1 ∧ 0 + (↑at' : Int).toNat < len)
    (Out.need (0 < 1 ∧ 0 + (↑at' : Int).toNat < len)
    (Out.need (k ≠ Int.ofNat 0)
    (Out.leaf (SV.c (SC.iv IntKind.i64 ((IntKind.i64.wrap (g (0 + (↑at' : Int).toNat))).tmod k)), { h := [(0, Blk.own 132 4 [some (SC.slc 1 (NV.k 0) (NV.k 0) 1 (NV.s len) (NV.s cap)), none, some (SC.iv IntKind.i64 (IntKind.i64.wrap ((↑at' : Int) + Int.ofNat 1))), none]), (1, Blk.view 1 (fun x => len) [Col.ci IntKind.u8 fun x e => g e])], nxt := 3221225474, D := fun x => True }))))))))))))
    (Out.leaf (SV.c (SC.ki IntKind.i64 (Int.ofNat 0)), { h := [(0, Blk.own 132 4 [some (SC.slc 1 (NV.k 0) (NV.k 0) 1 (NV.s len) (NV.s cap)), none, some (SC.iv IntKind.i64 (IntKind.i64.wrap ((↑at' : Int) + Int.ofNat 1))), none]), (1, Blk.view 1 (fun x => len) [Col.ci IntKind.u8 fun x e => g e])], nxt := 1342177282, D := fun x => True })))))))) := by kernel_rfl


end Go.Proofs.Ytjpnpaboahbncaa.Dc


/- Number: the contract. The pure reading of a configuration. -/
set_option linter.unusedVariables false
set_option linter.unusedSimpArgs false
set_option maxRecDepth 100000
namespace Go.Proofs.Ytjpnpaboahbncaa.Dc
open Go Go.RowKit Sx Cn

theorem rd_range {g : Nat → Int} {len at' : Nat} {k : Int} (hu : U8 len g) (hk : 1 ≤ k) : 0 ≤ rd g len at' k ∧ rd g len at' k < k := by
  unfold rd
  split
  · exact ⟨Int.emod_nonneg _ (by omega), Int.emod_lt_of_pos _ (by omega)⟩
  · omega
theorem local97 (g : Nat → Int) (len cap at' : Nat) (k : Int) : LocalOK P 97 [pC 4, iv k] [(0, blk97 len cap at'), (1, ints .u8 len g)] 2 (post97 g len cap at' k) :=
  LocalOK.monoR (p := tree97 g len cap at' k) (CallOK.local (execF_ok0 (P := P) (con := con0) (u := 3) ConOK.nil 3) 97 [pC 4, iv k] [(0, blk97 len cap at'), (1, ints .u8 len g)] 2) fun K hK => by
    rw [tree97_eq]
    obtain ⟨⟨hu, hk, hat⟩, hK⟩ := hK
    have hK : K (iv (rd g len at' k), ⟨[(0, blk97 len cap (at' + 1))], 2, fun _ => True⟩) := hK
    have e1 : IntKind.i64.wrap ((at' : Int) + ((1 : Nat) : Int)) = ((at' + 1 : Nat) : Int) := w64 (by omega)
    simp only [Out.holds, Int.ofNat_eq_natCast, Nat.zero_add, Int.toNat_natCast]
    have fin : ∀ (v : SC) (nx : Nat), leSC v (.iv .i64 (rd g len at' k)) → ∃ sv H' L, goR 2 L ⟨[some (.c v)], ⟨[(0, .own 132 4 [some (.slc 1 (.k 0) (.k 0) 1 (.s len) (.s cap)), none, some (.iv .i64 (IntKind.i64.wrap ((at' : Int) + ((1 : Nat) : Int)))), none]), (1, .view 1 (fun _ => len) [.ci .u8 fun _ e => g e])], nx, fun _ => True⟩⟩ ⟨[some sv], H'⟩ ∧ stOK ⟨[some sv], H'⟩ = true ∧ 2 ≤ H'.nxt ∧ K (sv, H') := by
      intro v nx hv
      refine ⟨iv (rd g len at' k), ⟨[(0, blk97 len cap (at' + 1))], 2, fun _ => True⟩, [], ⟨rfl, rfl, ⟨⟨hv, trivial⟩, ⟨rfl, rfl, ⟨⟨rfl, rfl, rfl, rfl, rfl, rfl⟩, ⟨rfl, e1⟩, trivial⟩⟩, trivial⟩, rfl⟩, rfl, Nat.le_refl _, hK⟩
    iterate 6 (refine ⟨by decide, ?_⟩)
    refine ⟨fun a => ?_, fun a => ?_⟩
    · have a := of_decide_eq_true a
      have hlt : at' < len := by omega
      have hg := hu at' hlt
      iterate 6 (refine ⟨by decide, ?_⟩)
      refine ⟨⟨by omega, by omega⟩, ⟨by decide, hlt⟩, ⟨by decide, hlt⟩, by omega, fin _ _ ⟨rfl, ?_⟩⟩
      rw [w64 (by omega), Int.tmod_eq_emod_of_nonneg (by omega), rd, if_pos hlt]
    · have a := of_decide_eq_false a
      refine fin _ _ ⟨rfl, ?_⟩
      rw [rd, if_neg (by omega)]; rfl
theorem con97_ok : ContractOK P 97 con97 := contract_of_use fun args H => by
  unfold con97
  repeat' split
  all_goals first | exact .inl ⟨_, rfl⟩ | exact .inr ⟨_, _, _, _, _, rfl, local97 _ _ _ _ _⟩

/-! ### What a configuration's bytes say -/
section
variable (g : Nat → Int) (len : Nat)
def dW : Int := 1 + rd g len 0 4
def dL : Int := 1 + rd g len 1 4
def dC : Int := 1 + rd g len 2 (min 3 (dL g len))
def dT : Int := 1 + rd g len 3 12
def dD : Int := 1 + rd g len 4 4
def dH : Int := 1 + rd g len 5 4
def dB : Int := 1 + rd g len 6 (dD g len)
def dA : Int := rd g len 7 6
def dP : Int := 1 + rd g len 8 8
def dN : Int := 1 + rd g len 9 4
/-- An instruction at a place: its kind, its numbers, where the next one begins. -/
def iO (p : Nat) : Int := rd g len p 3
def iA (p : Nat) : Int := if iO g len p = 0 then 1 + rd g len (p + 1) 4 else if iO g len p = 1 then rd g len (p + 1) (dN g len) else rd g len (p + 1) 4
def iB (p : Nat) : Int := if iO g len p = 1 then rd g len (p + 2) (dL g len) else 0
def iE (p : Nat) : Nat := if iO g len p = 1 then p + 3 else p + 2
/-- Where instruction k of a program that begins at p lies (p itself is the count). -/
def pI (p : Nat) : Nat → Nat
  | 0 => p + 1
  | k + 1 => iE g len (pI p k)
def cnt (p : Nat) : Nat := (rd g len p 6).toNat
def pS : Nat → Nat
  | 0 => 10
  | i + 1 => pI g len (pS i) (cnt g len (pS i))
def nP : Nat := (dN g len).toNat
def pU : Nat := pS g len (nP g len)
def nU : Nat := cnt g len (pU g len)
def pos3 (e : Nat) : Nat := pU g len + 1 + 3 * e
def cO (i e : Nat) : Int := iO g len (pI g len (pS g len i) e)
def cA (i e : Nat) : Int := iA g len (pI g len (pS g len i) e)
def cB (i e : Nat) : Int := iB g len (pI g len (pS g len i) e)
def uP (e : Nat) : Int := rd g len (pos3 g len e) (dN g len)
def uL (e : Nat) : Int := rd g len (pos3 g len e + 1) (dL g len)
def uD (e : Nat) : Int := rd g len (pos3 g len e + 2) 16
end
noncomputable section
def con6 : Con := Con.add 97 con97 con3
theorem con6_ok : ConOK P con6 := .add con97_ok con3_ok
end
end Go.Proofs.Ytjpnpaboahbncaa.Dc


/- ref05.Decode: what is said of its loops. -/
set_option linter.unusedVariables false
namespace Go.Proofs.Ytjpnpaboahbncaa.Dc
open Go Go.RowKit Sx Cn
noncomputable section
def pK (k sz : Nat) : SV := .c (.ptr k (.k 0) (.k 0) 0 sz)
def slK (k sz len cap : Nat) : SC := .slc k (.k 0) (.k 0) sz (.s len) (.s cap)
/-- Below i as it is, else 0. -/
def gd (i : Nat) (F : Nat → Nat) (e : Nat) : Nat := if e < i then F e else 0
def ivc (x : Int) : Option SC := some (.iv .i64 x)
def noC : Nat → List (Option SC)
  | 0 => []
  | n + 1 => none :: noC n
section
variable (g : Nat → Int) (len : Nat)
def cfg (c9 c10 : SC) : Blk := .own 29 11 [ivc (dW g len), ivc (dL g len), ivc (dC g len), ivc (dT g len), ivc (dD g len), ivc (dH g len), ivc (dB g len), ivc (dA g len), ivc (dP g len), some c9, some c10]
def lenP (e : Nat) : Nat := cnt g len (pS g len e)
def colsI (i : Nat) : List Col := [.ci .i64 fun _ e => cO g len i e, .ci .i64 fun _ e => cA g len i e, .ci .i64 fun _ e => cB g len i e]
def colsF : List Col := [.ci .i64 fun i e => cO g len i e, .ci .i64 fun i e => cA g len i e, .ci .i64 fun i e => cB g len i e]
def colsU : List Col := [.ci .i64 fun _ e => uP g len e, .ci .i64 fun _ e => uL g len e, .ci .i64 fun _ e => uD g len e]
/-- The programs: a family, and the row of its slices. -/
def famP (i : Nat) (FC : Nat → Nat) : Blk := .fam true 94 (gd i FC) (gd i (lenP g len)) (colsF g len)
def rowP (kF i rc : Nat) (FC : Nat → Nat) : Blk := .row 92 rc i [.cs kF 3 (fun _ e => e) (fun _ e => lenP g len e) (fun _ e => FC e)]
def blkD (kb cap at' : Nat) : Blk := .own 132 4 [some (.slc kb (.k 0) (.k 0) 1 (.s len) (.s cap)), none, some (.iv .i64 at'), none]
def hD (cap at' i rc : Nat) (FC : Nat → Nat) (c10 : SC) : HL := [(0, ints .u8 len g), (1, .own 29 11 (noC 11)), (2, blkD len 0 cap at'), (3, cfg g len (slK 5 1 i rc) c10), (4, famP g len i FC), (5, rowP g len 4 i rc FC)]
def tD : List (Nat × SV) := [(2, pK 1 11), (3, pK 2 4), (4, pK 3 11), (5, iv (dN g len))]
def Jo (cap i : Nat) (FC : Nat → Nat) (rc : Nat) : St := ⟨tms 128 ((6, iv i) :: tD g len), ⟨hD g len cap (pS g len i) i rc FC .nils, 6, fun _ => True⟩⟩
def Io (i : Nat) (FC : Nat → Nat) (rc : Nat) : Prop := U8 len g ∧ (i : Int) ≤ dN g len ∧ (∀ e, e < i → lenP g len e ≤ FC e) ∧ i ≤ rc
def Ao (cap : Nat) : Out (Ex × St) := .any (Nat → Nat) (fun FC => ∀ e, e < nP g len → lenP g len e ≤ FC e) fun FC => .any Nat (fun rc => nP g len ≤ rc) fun rc => .leaf (.exit 0, ⟨tms 128 (tD g len), ⟨hD g len cap (pU g len) (nP g len) rc FC .nils, 6, fun _ => True⟩⟩)
def Ji (cap i : Nat) (FC : Nat → Nat) (rc k c7 : Nat) : St := ⟨tms 128 ((8, iv ((lenP g len i : Nat) - (k : Nat) : Int)) :: (7, .c (slK 6 3 k c7)) :: (6, iv i) :: tD g len), ⟨(6, .row 94 c7 k (colsI g len i)) :: hD g len cap (pI g len (pS g len i) k) i rc FC .nils, 7, fun _ => True⟩⟩
def Ii (i k c7 : Nat) : Prop := U8 len g ∧ (i : Int) < dN g len ∧ k ≤ lenP g len i ∧ k ≤ c7
def Ai (cap i : Nat) (FC : Nat → Nat) (rc : Nat) : Out (Ex × St) := .any Nat (fun c7 => lenP g len i ≤ c7) fun c7 => .leaf (.exit 2, ⟨tms 128 ((7, .c (slK 6 3 (lenP g len i) c7)) :: (6, iv i) :: tD g len), ⟨(6, .row 94 c7 (lenP g len i) (colsI g len i)) :: hD g len cap (pS g len (i + 1)) i rc FC .nils, 7, fun _ => True⟩⟩)
def annI (cap i : Nat) (FC : Nat → Nat) (rc : Nat) : Ann := .ghost (nilTmpG 7 94 3 (colsI g len i)) (loopA (fun x : Nat × Nat => Ji g len cap i FC rc x.1 x.2) (fun x => Ii g len i x.1 x.2) 6 (0, 0) [tkey 7] (Ai g len cap i FC rc))
def roundI (cap i : Nat) (FC : Nat → Nat) (rc k c7 : Nat) : Out (Ex × St) := roundC P con6 (loopIn2 P 56 0 0) 3 3 6 (patOf (Ji g len cap i FC rc k c7) 128 [2, 3, 4, 5, 6, 7]) (Ji g len cap i FC rc k c7)
def roundO (cap i : Nat) (FC : Nat → Nat) (rc : Nat) : Out (Ex × St) := roundC P con6 (loopIn P 56 0) 3 3 4 (patOf (Jo g len cap i FC rc) 128 [2, 3, 4, 5]) (Jo g len cap i FC rc) [(13, joinG (ckey (tkey 4) 9) 0)] [annI g len cap i FC rc]
def annO (cap : Nat) : Ann := .ghost (newFamG 94 (colsF g len)) (.ghost (nilCellG 3 9 92 1 [.cs 4 3 (fun _ e => e) (fun _ e => lenP g len e) (fun _ e => 0)]) (loopA (fun x : Nat × (Nat → Nat) × Nat => Jo g len cap x.1 x.2.1 x.2.2) (fun x => Io g len x.1 x.2.1 x.2.2) 4 (0, fun _ => 0, 0) [fun _ => 4, ckey (tkey 4) 9] (Ao g len cap)))
def Js (cap rc : Nat) (FC : Nat → Nat) (k c10 : Nat) : St := ⟨tms 128 ((10, iv ((nU g len : Nat) - (k : Nat) : Int)) :: tD g len), ⟨(6, .row 96 c10 k (colsU g len)) :: hD g len cap (pos3 g len k) (nP g len) rc FC (slK 6 3 k c10), 7, fun _ => True⟩⟩
def Is (rc : Nat) (FC : Nat → Nat) (k c10 : Nat) : Prop := U8 len g ∧ k ≤ nU g len ∧ k ≤ c10 ∧ (∀ e, e < nP g len → lenP g len e ≤ FC e) ∧ nP g len ≤ rc
def As (cap rc : Nat) (FC : Nat → Nat) : Out (Ex × St) := .any Nat (fun c10 => nU g len ≤ c10) fun c10 => .leaf (.exit 5, ⟨tms 128 (tD g len), ⟨(6, .row 96 c10 (nU g len) (colsU g len)) :: hD g len cap (pos3 g len (nU g len)) (nP g len) rc FC (slK 6 3 (nU g len) c10), 7, fun _ => True⟩⟩)
def roundS (cap rc : Nat) (FC : Nat → Nat) (k c10 : Nat) : Out (Ex × St) := roundC P con6 (loopIn P 56 1) 3 3 6 (patOf (Js g len cap rc FC k c10) 128 [2, 3, 4, 5]) (Js g len cap rc FC k c10)
def annS1 (cap rc : Nat) (FC : Nat → Nat) : Ann := loopA (fun x : Nat × Nat => Js g len cap rc FC x.1 x.2) (fun x => Is g len rc FC x.1 x.2) 6 (0, 0) [ckey (tkey 4) 10] (As g len cap rc FC)
/-- The capacities of the programs, as the state says them. -/
def pickS (s : St) : Option (Nat × (Nat → Nat)) := match find 5 s.H.h with
  | some (.row _ rc _ [.cs _ _ _ _ c]) => some (rc, fun e => c 0 e)
  | _ => none
def annS (cap : Nat) : Ann := .ghost (nilCellG 3 10 96 3 (colsU g len)) (pickA pickS fun y => annS1 g len cap y.1 y.2)
def main56 (cap : Nat) : Out (SV × Hp) := execA P con6 56 [annO g len cap, annS g len cap] 3 [] 3 56 [.c (slK 0 1 len cap)] ⟨[(0, ints .u8 len g)], 1, fun _ => True⟩
end
end
end Go.Proofs.Ytjpnpaboahbncaa.Dc


/- ref05.Decode: the executor's trees, printed by program. -/
set_option linter.unusedVariables false
set_option maxRecDepth 100000
namespace Go.Proofs.Ytjpnpaboahbncaa.Dc
open Go Go.RowKit Sx Cn

theorem roundI_eq (g : Nat → Int) (len cap i : Nat) (FC : Nat → Nat) (rc k c7 : Nat) : roundI g len cap i FC rc k c7 =
  Out.br (decide ((↑(lenP g len i) : Int) - (↑k : Int) > Int.ofNat 0))
    (Out.need (((2 = 2 ∧ 0 = 0 ∧ 0 = 0 ∧ 0 = 0 ∧ 4 = 4) ∧ (IntKind.i64 = IntKind.i64 ∧ Int.ofNat 3 = Int.ofNat 3) ∧ True) ∧ (132 = 132 ∧ 4 = 4 ∧ (0 = 0 ∧ 0 = 0 ∧ 0 = 0 ∧ 1 = 1 ∧ len = len ∧ cap = cap) ∧ (IntKind.i64 = IntKind.i64 ∧ (↑(pI g len (pS g len i) k) : Int) = (↑(pI g len (pS g len i) k) : Int)) ∧ True) ∧ (1 ≤ 1 ∧ (∀ (i : Nat), i < 1 → len ≤ len) ∧ (IntKind.u8 = IntKind.u8 ∧ ∀ (i e : Nat), i < 1 ∧ e < len → g e = g e) ∧ True) ∧ True)
    (Out.need (preN (fun e => g e) len (pI g len (pS g len i) k) (Int.ofNat 3))
    (Out.br (rd (fun e => g e) len (pI g len (pS g len i) k) (Int.ofNat 3) == Int.ofNat 0)
    (Out.need (((2 = 2 ∧ 0 = 0 ∧ 0 = 0 ∧ 0 = 0 ∧ 4 = 4) ∧ (IntKind.i64 = IntKind.i64 ∧ Int.ofNat 4 = Int.ofNat 4) ∧ True) ∧ (132 = 132 ∧ 4 = 4 ∧ (0 = 0 ∧ 0 = 0 ∧ 0 = 0 ∧ 1 = 1 ∧ len = len ∧ cap = cap) ∧ (IntKind.i64 = IntKind.i64 ∧ (↑(pI g len (pS g len i) k + 1) : Int) = (↑(pI g len (pS g len i) k + 1) : Int)) ∧ True) ∧ (1 ≤ 1 ∧ (∀ (i : Nat), i < 1 → len ≤ len) ∧ (IntKind.u8 = IntKind.u8 ∧ ∀ (i e : Nat), i < 1 ∧ e < len → g e = g e) ∧ True) ∧ True)
    (Out.need (preN (fun e => g e) len (pI g len (pS g len i) k + 1) (Int.ofNat 4))
    (Out.need (0 < 1)
    (Out.need (0 < 1)
    (Out.need (0 < 1)
    (Out.need (k ≤ k ∧ c7 = c7)
    (Out.need (k + 1 ≤ 9223372036854775807 ∧ (k + 1) * 24 ≤ 140737488355328)
    (Out.ge (k + 1) fun x => Out.leaf (Ex.normal, { tmps := tms 128 [(2, (SV.c (SC.ptr 1 (NV.k 0) (NV.k 0) 0 11))), (3, (SV.c (SC.ptr 2 (NV.k 0) (NV.k 0) 0 4))), (4, (SV.c (SC.ptr 3 (NV.k 0) (NV.k 0) 0 11))), (5, (SV.c (SC.iv IntKind.i64 (dN g len)))), (6, (SV.c (SC.iv IntKind.i64 (↑i : Int)))), (7, (SV.c (SC.slc 9 (NV.k 0) (NV.k 0) 3 (NV.s (k + 1)) (NV.s x)))), (8, (SV.c (SC.iv IntKind.i64 (IntKind.i64.wrap ((↑(lenP g len i) : Int) - (↑k : Int) - Int.ofNat 1)))))], H := { h := [(9, Blk.row 94 x (k + 1) [Col.ci IntKind.i64 fun i' j => if i' = 0 ∧ j = k then rd (fun e => g e) len (pI g len (pS g len i) k) (Int.ofNat 3) else cO g len i j, Col.ci IntKind.i64 fun i' j => if i' = 0 ∧ j = k then IntKind.i64.wrap (Int.ofNat 1 + rd (fun e => g e) len (pI g len (pS g len i) k + 1) (Int.ofNat 4)) else cA g len i j, Col.ci IntKind.i64 fun i' j => if i' = 0 ∧ j = k then Int.ofNat 0 else cB g len i j]), (2, Blk.own 132 4 [some (SC.slc 0 (NV.k 0) (NV.k 0) 1 (NV.s len) (NV.s cap)), none, some (SC.iv IntKind.i64 (↑(pI g len (pS g len i) k + 1 + 1) : Int)), none]), (0, Blk.view 1 (fun x => len) [Col.ci IntKind.u8 fun x e => g e]), (1, Blk.own 29 11 [none, none, none, none, none, none, none, none, none, none, none]), (3, Blk.own 29 11 [some (SC.iv IntKind.i64 (dW g len)), some (SC.iv IntKind.i64 (dL g len)), some (SC.iv IntKind.i64 (dC g len)), some (SC.iv IntKind.i64 (dT g len)), some (SC.iv IntKind.i64 (dD g len)), some (SC.iv IntKind.i64 (dH g len)), some (SC.iv IntKind.i64 (dB g len)), some (SC.iv IntKind.i64 (dA g len)), some (SC.iv IntKind.i64 (dP g len)), some (SC.slc 5 (NV.k 0) (NV.k 0) 1 (NV.s i) (NV.s rc)), some SC.nils]), (4, Blk.fam true 94 (gd i FC) (gd i (lenP g len)) [Col.ci IntKind.i64 fun i e => cO g len i e, Col.ci IntKind.i64 fun i e => cA g len i e, Col.ci IntKind.i64 fun i e => cB g len i e]), (5, Blk.row 92 rc i [Col.cs 4 3 (fun x e => e) (fun x e => lenP g len e) fun x e => FC e])], nxt := 10, D := fun x => True } })))))))))
    (Out.br (rd (fun e => g e) len (pI g len (pS g len i) k) (Int.ofNat 3) == Int.ofNat 1)
    (Out.need (((2 = 2 ∧ 0 = 0 ∧ 0 = 0 ∧ 0 = 0 ∧ 4 = 4) ∧ (IntKind.i64 = IntKind.i64 ∧ dN g len = dN g len) ∧ True) ∧ (132 = 132 ∧ 4 = 4 ∧ (0 = 0 ∧ 0 = 0 ∧ 0 = 0 ∧ 1 = 1 ∧ len = len ∧ cap = cap) ∧ (IntKind.i64 = IntKind.i64 ∧ (↑(pI g len (pS g len i) k + 1) : Int) = (↑(pI g len (pS g len i) k + 1) : Int)) ∧ True) ∧ (1 ≤ 1 ∧ (∀ (i : Nat), i < 1 → len ≤ len) ∧ (IntKind.u8 = IntKind.u8 ∧ ∀ (i e : Nat), i < 1 ∧ e < len → g e = g e) ∧ True) ∧ True)
    (Out.need (preN (fun e => g e) len (pI g len (pS g len i) k + 1) (dN g len))
    (Out.need (((2 = 2 ∧ 0 = 0 ∧ 0 = 0 ∧ 0 = 0 ∧ 4 = 4) ∧ (IntKind.i64 = IntKind.i64 ∧ dL g len = dL g len) ∧ True) ∧ (132 = 132 ∧ 4 = 4 ∧ (0 = 0 ∧ 0 = 0 ∧ 0 = 0 ∧ 1 = 1 ∧ len = len ∧ cap = cap) ∧ (IntKind.i64 = IntKind.i64 ∧ (↑(pI g len (pS g len i) k + 1 + 1) : Int) = (↑(pI g len (pS g len i) k + 1 + 1) : Int)) ∧ True) ∧ (1 ≤ 1 ∧ (∀ (i : Nat), i < 1 → len ≤ len) ∧ (IntKind.u8 = IntKind.u8 ∧ ∀ (i e : Nat), i < 1 ∧ e < len → g e = g e) ∧ True) ∧ True)
    (Out.need (preN (fun e => g e) len (pI g len (pS g len i) k + 1 + 1) (dL g len))
    (Out.need (0 < 1)
    (Out.need (0 < 1)
    (Out.need (0 < 1)
    (Out.need (k ≤ k ∧ c7 = c7)
    (Out.need (k + 1 ≤ 9223372036854775807 ∧ (k + 1) * 24 ≤ 140737488355328)
    (Out.ge (k + 1) fun x => Out.leaf (Ex.normal, { tmps := tms 128 [(2, (SV.c (SC.ptr 1 (NV.k 0) (NV.k 0) 0 11))), (3, (SV.c (SC.ptr 2 (NV.k 0) (NV.k 0) 0 4))), (4, (SV.c (SC.ptr 3 (NV.k 0) (NV.k 0) 0 11))), (5, (SV.c (SC.iv IntKind.i64 (dN g len)))), (6, (SV.c (SC.iv IntKind.i64 (↑i : Int)))), (7, (SV.c (SC.slc 9 (NV.k 0) (NV.k 0) 3 (NV.s (k + 1)) (NV.s x)))), (8, (SV.c (SC.iv IntKind.i64 (IntKind.i64.wrap ((↑(lenP g len i) : Int) - (↑k : Int) - Int.ofNat 1)))))], H := { h := [(9, Blk.row 94 x (k + 1) [Col.ci IntKind.i64 fun i' j => if i' = 0 ∧ j = k then rd (fun e => g e) len (pI g len (pS g len i) k) (Int.ofNat 3) else cO g len i j, Col.ci IntKind.i64 fun i' j => if i' = 0 ∧ j = k then rd (fun e => g e) len (pI g len (pS g len i) k + 1) (dN g len) else cA g len i j, Col.ci IntKind.i64 fun i' j => if i' = 0 ∧ j = k then rd (fun e => g e) len (pI g len (pS g len i) k + 1 + 1) (dL g len) else cB g len i j]), (2, Blk.own 132 4 [some (SC.slc 0 (NV.k 0) (NV.k 0) 1 (NV.s len) (NV.s cap)), none, some (SC.iv IntKind.i64 (↑(pI g len (pS g len i) k + 1 + 1 + 1) : Int)), none]), (0, Blk.view 1 (fun x => len) [Col.ci IntKind.u8 fun x e => g e]), (1, Blk.own 29 11 [none, none, none, none, none, none, none, none, none, none, none]), (3, Blk.own 29 11 [some (SC.iv IntKind.i64 (dW g len)), some (SC.iv IntKind.i64 (dL g len)), some (SC.iv IntKind.i64 (dC g len)), some (SC.iv IntKind.i64 (dT g len)), some (SC.iv IntKind.i64 (dD g len)), some (SC.iv IntKind.i64 (dH g len)), some (SC.iv IntKind.i64 (dB g len)), some (SC.iv IntKind.i64 (dA g len)), some (SC.iv IntKind.i64 (dP g len)), some (SC.slc 5 (NV.k 0) (NV.k 0) 1 (NV.s i) (NV.s rc)), some SC.nils]), (4, Blk.fam true 94 (gd i FC) (gd i (lenP g len)) [Col.ci IntKind.i64 fun i e => cO g len i e, Col.ci IntKind.i64 fun i e => cA g len i e, Col.ci IntKind.i64 fun i e => cB g len i e]), (5, Blk.row 92 rc i [Col.cs 4 3 (fun x e => e) (fun x e => lenP g len e) fun x e => FC e])], nxt := 10, D := fun x => True } })))))))))))
    (Out.need (((2 = 2 ∧ 0 = 0 ∧ 0 = 0 ∧ 0 = 0 ∧ 4 = 4) ∧ (IntKind.i64 = IntKind.i64 ∧ Int.ofNat 4 = Int.ofNat 4) ∧ True) ∧ (132 = 132 ∧ 4 = 4 ∧ (0 = 0 ∧ 0 = 0 ∧ 0 = 0 ∧ 1 = 1 ∧ len = len ∧ cap = cap) ∧ (IntKind.i64 = IntKind.i64 ∧ (↑(pI g len (pS g len i) k + 1) : Int) = (↑(pI g len (pS g len i) k + 1) : Int)) ∧ True) ∧ (1 ≤ 1 ∧ (∀ (i : Nat), i < 1 → len ≤ len) ∧ (IntKind.u8 = IntKind.u8 ∧ ∀ (i e : Nat), i < 1 ∧ e < len → g e = g e) ∧ True) ∧ True)
    (Out.need (preN (fun e => g e) len (pI g len (pS g len i) k + 1) (Int.ofNat 4))
    (Out.need (0 < 1)
    (Out.need (0 < 1)
    (Out.need (0 < 1)
    (Out.need (k ≤ k ∧ c7 = c7)
    (Out.need (k + 1 ≤ 9223372036854775807 ∧ (k + 1) * 24 ≤ 140737488355328)
    (Out.ge (k + 1) fun x => Out.leaf (Ex.normal, { tmps := tms 128 [(2, (SV.c (SC.ptr 1 (NV.k 0) (NV.k 0) 0 11))), (3, (SV.c (SC.ptr 2 (NV.k 0) (NV.k 0) 0 4))), (4, (SV.c (SC.ptr 3 (NV.k 0) (NV.k 0) 0 11))), (5, (SV.c (SC.iv IntKind.i64 (dN g len)))), (6, (SV.c (SC.iv IntKind.i64 (↑i : Int)))), (7, (SV.c (SC.slc 9 (NV.k 0) (NV.k 0) 3 (NV.s (k + 1)) (NV.s x)))), (8, (SV.c (SC.iv IntKind.i64 (IntKind.i64.wrap ((↑(lenP g len i) : Int) - (↑k : Int) - Int.ofNat 1)))))], H := { h := [(9, Blk.row 94 x (k + 1) [Col.ci IntKind.i64 fun i' j => if i' = 0 ∧ j = k then rd (fun e => g e) len (pI g len (pS g len i) k) (Int.ofNat 3) else cO g len i j, Col.ci IntKind.i64 fun i' j => if i' = 0 ∧ j = k then rd (fun e => g e) len (pI g len (pS g len i) k + 1) (Int.ofNat 4) else cA g len i j, Col.ci IntKind.i64 fun i' j => if i' = 0 ∧ j = k then Int.ofNat 0 else cB g len i j]), (2, Blk.own 132 4 [some (SC.slc 0 (NV.k 0) (NV.k 0) 1 (NV.s len) (NV.s cap)), none, some (SC.iv IntKind.i64 (↑(pI g len (pS g len i) k + 1 + 1) : Int)), none]), (0, Blk.view 1 (fun x => len) [Col.ci IntKind.u8 fun x e => g e]), (1, Blk.own 29 11 [none, none, none, none, none, none, none, none, none, none, none]), (3, Blk.own 29 11 [some (SC.iv IntKind.i64 (dW g len)), some (SC.iv IntKind.i64 (dL g len)), some (SC.iv IntKind.i64 (dC g len)), some (SC.iv IntKind.i64 (dT g len)), some (SC.iv IntKind.i64 (dD g len)), some (SC.iv IntKind.i64 (dH g len)), some (SC.iv IntKind.i64 (dB g len)), some (SC.iv IntKind.i64 (dA g len)), some (SC.iv IntKind.i64 (dP g len)), some (SC.slc 5 (NV.k 0) (NV.k 0) 1 (NV.s i) (NV.s rc)), some SC.nils]), (4, Blk.fam true 94 (gd i FC) (gd i (lenP g len)) [Col.ci IntKind.i64 fun i e => cO g len i e, Col.ci IntKind.i64 fun i e => cA g len i e, Col.ci IntKind.i64 fun i e => cB g len i e]), (5, Blk.row 92 rc i [Col.cs 4 3 (fun x e => e) (fun x e => lenP g len e) fun x e => FC e])], nxt := 10, D := fun x => True } })))))))))))))
    (Out.leaf (Ex.exit 2, { tmps := tms 128 [(2, (SV.c (SC.ptr 1 (NV.k 0) (NV.k 0) 0 11))), (3, (SV.c (SC.ptr 2 (NV.k 0) (NV.k 0) 0 4))), (4, (SV.c (SC.ptr 3 (NV.k 0) (NV.k 0) 0 11))), (5, (SV.c (SC.iv IntKind.i64 (dN g len)))), (6, (SV.c (SC.iv IntKind.i64 (↑i : Int)))), (7, (SV.c (SC.slc 6 (NV.k 0) (NV.k 0) 3 (NV.s k) (NV.s c7))))], H := { h := [(6, Blk.row 94 c7 k [Col.ci IntKind.i64 fun x e => cO g len i e, Col.ci IntKind.i64 fun x e => cA g len i e, Col.ci IntKind.i64 fun x e => cB g len i e]), (0, Blk.view 1 (fun x => len) [Col.ci IntKind.u8 fun x e => g e]), (1, Blk.own 29 11 [none, none, none, none, none, none, none, none, none, none, none]), (2, Blk.own 132 4 [some (SC.slc 0 (NV.k 0) (NV.k 0) 1 (NV.s len) (NV.s cap)), none, some (SC.iv IntKind.i64 (↑(pI g len (pS g len i) k) : Int)), none]), (3, Blk.own 29 11 [some (SC.iv IntKind.i64 (dW g len)), some (SC.iv IntKind.i64 (dL g len)), some (SC.iv IntKind.i64 (dC g len)), some (SC.iv IntKind.i64 (dT g len)), some (SC.iv IntKind.i64 (dD g len)), some (SC.iv IntKind.i64 (dH g len)), some (SC.iv IntKind.i64 (dB g len)), some (SC.iv IntKind.i64 (dA g len)), some (SC.iv IntKind.i64 (dP g len)), some (SC.slc 5 (NV.k 0) (NV.k 0) 1 (NV.s i) (NV.s rc)), some SC.nils]), (4, Blk.fam true 94 (gd i FC) (gd i (lenP g len)) [Col.ci IntKind.i64 fun i e => cO g len i e, Col.ci IntKind.i64 fun i e => cA g len i e, Col.ci IntKind.i64 fun i e => cB g len i e]), (5, Blk.row 92 rc i [Col.cs 4 3 (fun x e => e) (fun x e => lenP g len e) fun x e => FC e])], nxt := 7, D := fun x => True } })) := by kernel_rfl

theorem roundO_eq (g : Nat → Int) (len cap i : Nat) (FC : Nat → Nat) (rc : Nat) : roundO g len cap i FC rc =
  Out.br (decide ((↑i : Int) < dN g len))
    (Out.need (((2 = 2 ∧ 0 = 0 ∧ 0 = 0 ∧ 0 = 0 ∧ 4 = 4) ∧ (IntKind.i64 = IntKind.i64 ∧ Int.ofNat 6 = Int.ofNat 6) ∧ True) ∧ (132 = 132 ∧ 4 = 4 ∧ (0 = 0 ∧ 0 = 0 ∧ 0 = 0 ∧ 1 = 1 ∧ len = len ∧ cap = cap) ∧ (IntKind.i64 = IntKind.i64 ∧ (↑(pS g len i) : Int) = (↑(pS g len i) : Int)) ∧ True) ∧ (1 ≤ 1 ∧ (∀ (i : Nat), i < 1 → len ≤ len) ∧ (IntKind.u8 = IntKind.u8 ∧ ∀ (i e : Nat), i < 1 ∧ e < len → g e = g e) ∧ True) ∧ True)
    (Out.need (preN (fun e => g e) len (pS g len i) (Int.ofNat 6))
    (Out.need (Ii g len i 0 0 ∧ (∀ (k : Nat), True) ∧ (∀ (k : Nat), True) ∧ ((1 = 1 ∧ 0 = 0 ∧ 0 = 0 ∧ 0 = 0 ∧ 11 = 11) ∧ (2 = 2 ∧ 0 = 0 ∧ 0 = 0 ∧ 0 = 0 ∧ 4 = 4) ∧ (3 = 3 ∧ 0 = 0 ∧ 0 = 0 ∧ 0 = 0 ∧ 11 = 11) ∧ (IntKind.i64 = IntKind.i64 ∧ dN g len = dN g len) ∧ (IntKind.i64 = IntKind.i64 ∧ (↑i : Int) = (↑i : Int)) ∧ (6 = 6 ∧ 0 = 0 ∧ 0 = 0 ∧ 3 = 3 ∧ 0 = 0 ∧ 0 = 0) ∧ (IntKind.i64 = IntKind.i64 ∧ rd (fun e => g e) len (pS g len i) (Int.ofNat 6) = (↑(lenP g len i) : Int) - (↑0 : Int)) ∧ True) ∧ (94 = 94 ∧ 0 = 0 ∧ 0 ≤ 0 ∧ (IntKind.i64 = IntKind.i64 ∧ ∀ (i_1 e : Nat), i_1 = 0 ∧ e < 0 → cO g len i e = cO g len i e) ∧ (IntKind.i64 = IntKind.i64 ∧ ∀ (i_1 e : Nat), i_1 = 0 ∧ e < 0 → cA g len i e = cA g len i e) ∧ (IntKind.i64 = IntKind.i64 ∧ ∀ (i_1 e : Nat), i_1 = 0 ∧ e < 0 → cB g len i e = cB g len i e) ∧ True) ∧ (1 ≤ 1 ∧ (∀ (i : Nat), i < 1 → len ≤ len) ∧ (IntKind.u8 = IntKind.u8 ∧ ∀ (i e : Nat), i < 1 ∧ e < len → g e = g e) ∧ True) ∧ (29 = 29 ∧ 11 = 11 ∧ True) ∧ (132 = 132 ∧ 4 = 4 ∧ (0 = 0 ∧ 0 = 0 ∧ 0 = 0 ∧ 1 = 1 ∧ len = len ∧ cap = cap) ∧ (IntKind.i64 = IntKind.i64 ∧ (↑(pS g len i + 1) : Int) = (↑(pI g len (pS g len i) 0) : Int)) ∧ True) ∧ (29 = 29 ∧ 11 = 11 ∧ (IntKind.i64 = IntKind.i64 ∧ dW g len = dW g len) ∧ (IntKind.i64 = IntKind.i64 ∧ dL g len = dL g len) ∧ (IntKind.i64 = IntKind.i64 ∧ dC g len = dC g len) ∧ (IntKind.i64 = IntKind.i64 ∧ dT g len = dT g len) ∧ (IntKind.i64 = IntKind.i64 ∧ dD g len = dD g len) ∧ (IntKind.i64 = IntKind.i64 ∧ dH g len = dH g len) ∧ (IntKind.i64 = IntKind.i64 ∧ dB g len = dB g len) ∧ (IntKind.i64 = IntKind.i64 ∧ dA g len = dA g len) ∧ (IntKind.i64 = IntKind.i64 ∧ dP g len = dP g len) ∧ (5 = 5 ∧ 0 = 0 ∧ 0 = 0 ∧ 1 = 1 ∧ i = i ∧ rc = rc) ∧ True ∧ True) ∧ ((true = false → true = false) ∧ 94 = 94 ∧ (∀ (i_1 : Nat), gd i FC i_1 = gd i FC i_1 ∨ gd i FC i_1 = 0) ∧ (∀ (i_1 : Nat), gd i (lenP g len) i_1 ≤ gd i FC i_1 ∧ gd i (lenP g len) i_1 ≤ gd i (lenP g len) i_1) ∧ (IntKind.i64 = IntKind.i64 ∧ ∀ (i_1 e : Nat), e < gd i (lenP g len) i_1 → cO g len i_1 e = cO g len i_1 e) ∧ (IntKind.i64 = IntKind.i64 ∧ ∀ (i_1 e : Nat), e < gd i (lenP g len) i_1 → cA g len i_1 e = cA g len i_1 e) ∧ (IntKind.i64 = IntKind.i64 ∧ ∀ (i_1 e : Nat), e < gd i (lenP g len) i_1 → cB g len i_1 e = cB g len i_1 e) ∧ True) ∧ (92 = 92 ∧ rc = rc ∧ i ≤ i ∧ (4 = 4 ∧ 3 = 3 ∧ (∀ (i_1 e : Nat), i_1 = 0 ∧ e < i → e = e) ∧ (∀ (i_1 e : Nat), i_1 = 0 ∧ e < i → lenP g len e = lenP g len e) ∧ ∀ (i_1 e : Nat), i_1 = 0 ∧ e < i → FC e = FC e) ∧ True) ∧ True)
    (Out.any Nat (fun c7 => lenP g len i ≤ c7) fun x => Out.need (0 < 1)
    (Out.need (i ≤ i ∧ rc = rc)
    (Out.need (i + 1 ≤ 9223372036854775807 ∧ (i + 1) * 24 ≤ 140737488355328)
    (Out.ge (i + 1) fun x_1 => Out.need (True ∧ ∀ (i_1 e : Nat), i_1 = 0 ∧ e < i + 1 → ¬(i_1 = 0 ∧ e = i) → e ≠ i)
    (Out.leaf (Ex.normal, { tmps := tms 128 [(2, (SV.c (SC.ptr 1 (NV.k 0) (NV.k 0) 0 11))), (3, (SV.c (SC.ptr 2 (NV.k 0) (NV.k 0) 0 4))), (4, (SV.c (SC.ptr 3 (NV.k 0) (NV.k 0) 0 11))), (5, (SV.c (SC.iv IntKind.i64 (dN g len)))), (6, (SV.c (SC.iv IntKind.i64 (IntKind.i64.wrap ((↑i : Int) + Int.ofNat 1)))))], H := { h := [(9, Blk.fam true 94 (fun i_1 => if i_1 = i then x else gd i FC i_1) (fun i_1 => if i_1 = i then lenP g len i else gd i (lenP g len) i_1) [Col.ci IntKind.i64 fun i_1 e => if i_1 = i then cO g len i e else cO g len i_1 e, Col.ci IntKind.i64 fun i_1 e => if i_1 = i then cA g len i e else cA g len i_1 e, Col.ci IntKind.i64 fun i_1 e => if i_1 = i then cB g len i e else cB g len i_1 e]), (8, Blk.row 92 x_1 (i + 1) [Col.cs 9 3 (fun x e => e) (fun i' j => if i' = 0 ∧ j = i then lenP g len i else lenP g len j) fun i' j => if i' = 0 ∧ j = i then x else FC j]), (0, Blk.view 1 (fun x => len) [Col.ci IntKind.u8 fun x e => g e]), (1, Blk.own 29 11 [none, none, none, none, none, none, none, none, none, none, none]), (2, Blk.own 132 4 [some (SC.slc 0 (NV.k 0) (NV.k 0) 1 (NV.s len) (NV.s cap)), none, some (SC.iv IntKind.i64 (↑(pS g len (i + 1)) : Int)), none]), (3, Blk.own 29 11 [some (SC.iv IntKind.i64 (dW g len)), some (SC.iv IntKind.i64 (dL g len)), some (SC.iv IntKind.i64 (dC g len)), some (SC.iv IntKind.i64 (dT g len)), some (SC.iv IntKind.i64 (dD g len)), some (SC.iv IntKind.i64 (dH g len)), some (SC.iv IntKind.i64 (dB g len)), some (SC.iv IntKind.i64 (dA g len)), some (SC.iv IntKind.i64 (dP g len)), some (SC.slc 8 (NV.k 0) (NV.k 0) 1 (NV.s (i + 1)) (NV.s x_1)), some SC.nils])], nxt := 10, D := fun x => True } })))))))))
    (Out.leaf (Ex.exit 0, { tmps := tms 128 [(2, (SV.c (SC.ptr 1 (NV.k 0) (NV.k 0) 0 11))), (3, (SV.c (SC.ptr 2 (NV.k 0) (NV.k 0) 0 4))), (4, (SV.c (SC.ptr 3 (NV.k 0) (NV.k 0) 0 11))), (5, (SV.c (SC.iv IntKind.i64 (dN g len))))], H := { h := [(0, Blk.view 1 (fun x => len) [Col.ci IntKind.u8 fun x e => g e]), (1, Blk.own 29 11 [none, none, none, none, none, none, none, none, none, none, none]), (2, Blk.own 132 4 [some (SC.slc 0 (NV.k 0) (NV.k 0) 1 (NV.s len) (NV.s cap)), none, some (SC.iv IntKind.i64 (↑(pS g len i) : Int)), none]), (3, Blk.own 29 11 [some (SC.iv IntKind.i64 (dW g len)), some (SC.iv IntKind.i64 (dL g len)), some (SC.iv IntKind.i64 (dC g len)), some (SC.iv IntKind.i64 (dT g len)), some (SC.iv IntKind.i64 (dD g len)), some (SC.iv IntKind.i64 (dH g len)), some (SC.iv IntKind.i64 (dB g len)), some (SC.iv IntKind.i64 (dA g len)), some (SC.iv IntKind.i64 (dP g len)), some (SC.slc 5 (NV.k 0) (NV.k 0) 1 (NV.s i) (NV.s rc)), some SC.nils]), (4, Blk.fam true 94 (gd i FC) (gd i (lenP g len)) [Col.ci IntKind.i64 fun i e => cO g len i e, Col.ci IntKind.i64 fun i e => cA g len i e, Col.ci IntKind.i64 fun i e => cB g len i e]), (5, Blk.row 92 rc i [Col.cs 4 3 (fun x e => e) (fun x e => lenP g len e) fun x e => FC e])], nxt := 6, D := fun x => True } })) := by kernel_rfl

theorem roundS_eq (g : Nat → Int) (len cap rc : Nat) (FC : Nat → Nat) (k c10 : Nat) : roundS g len cap rc FC k c10 =
  Out.br (decide ((↑(nU g len) : Int) - (↑k : Int) > Int.ofNat 0))
    (Out.need (((2 = 2 ∧ 0 = 0 ∧ 0 = 0 ∧ 0 = 0 ∧ 4 = 4) ∧ (IntKind.i64 = IntKind.i64 ∧ dN g len = dN g len) ∧ True) ∧ (132 = 132 ∧ 4 = 4 ∧ (0 = 0 ∧ 0 = 0 ∧ 0 = 0 ∧ 1 = 1 ∧ len = len ∧ cap = cap) ∧ (IntKind.i64 = IntKind.i64 ∧ (↑(pos3 g len k) : Int) = (↑(pos3 g len k) : Int)) ∧ True) ∧ (1 ≤ 1 ∧ (∀ (i : Nat), i < 1 → len ≤ len) ∧ (IntKind.u8 = IntKind.u8 ∧ ∀ (i e : Nat), i < 1 ∧ e < len → g e = g e) ∧ True) ∧ True)
    (Out.need (preN (fun e => g e) len (pos3 g len k) (dN g len))
    (Out.need (((2 = 2 ∧ 0 = 0 ∧ 0 = 0 ∧ 0 = 0 ∧ 4 = 4) ∧ (IntKind.i64 = IntKind.i64 ∧ dL g len = dL g len) ∧ True) ∧ (132 = 132 ∧ 4 = 4 ∧ (0 = 0 ∧ 0 = 0 ∧ 0 = 0 ∧ 1 = 1 ∧ len = len ∧ cap = cap) ∧ (IntKind.i64 = IntKind.i64 ∧ (↑(pos3 g len k + 1) : Int) = (↑(pos3 g len k + 1) : Int)) ∧ True) ∧ (1 ≤ 1 ∧ (∀ (i : Nat), i < 1 → len ≤ len) ∧ (IntKind.u8 = IntKind.u8 ∧ ∀ (i e : Nat), i < 1 ∧ e < len → g e = g e) ∧ True) ∧ True)
    (Out.need (preN (fun e => g e) len (pos3 g len k + 1) (dL g len))
    (Out.need (((2 = 2 ∧ 0 = 0 ∧ 0 = 0 ∧ 0 = 0 ∧ 4 = 4) ∧ (IntKind.i64 = IntKind.i64 ∧ Int.ofNat 16 = Int.ofNat 16) ∧ True) ∧ (132 = 132 ∧ 4 = 4 ∧ (0 = 0 ∧ 0 = 0 ∧ 0 = 0 ∧ 1 = 1 ∧ len = len ∧ cap = cap) ∧ (IntKind.i64 = IntKind.i64 ∧ (↑(pos3 g len k + 1 + 1) : Int) = (↑(pos3 g len k + 1 + 1) : Int)) ∧ True) ∧ (1 ≤ 1 ∧ (∀ (i : Nat), i < 1 → len ≤ len) ∧ (IntKind.u8 = IntKind.u8 ∧ ∀ (i e : Nat), i < 1 ∧ e < len → g e = g e) ∧ True) ∧ True)
    (Out.need (preN (fun e => g e) len (pos3 g len k + 1 + 1) (Int.ofNat 16))
    (Out.need (0 < 1)
    (Out.need (0 < 1)
    (Out.need (0 < 1)
    (Out.need (k ≤ k ∧ c10 = c10)
    (Out.need (k + 1 ≤ 9223372036854775807 ∧ (k + 1) * 24 ≤ 140737488355328)
    (Out.ge (k + 1) fun x => Out.leaf (Ex.normal, { tmps := tms 128 [(2, (SV.c (SC.ptr 1 (NV.k 0) (NV.k 0) 0 11))), (3, (SV.c (SC.ptr 2 (NV.k 0) (NV.k 0) 0 4))), (4, (SV.c (SC.ptr 3 (NV.k 0) (NV.k 0) 0 11))), (5, (SV.c (SC.iv IntKind.i64 (dN g len)))), (10, (SV.c (SC.iv IntKind.i64 (IntKind.i64.wrap ((↑(nU g len) : Int) - (↑k : Int) - Int.ofNat 1)))))], H := { h := [(9, Blk.row 96 x (k + 1) [Col.ci IntKind.i64 fun i' j => if i' = 0 ∧ j = k then rd (fun e => g e) len (pos3 g len k) (dN g len) else uP g len j, Col.ci IntKind.i64 fun i' j => if i' = 0 ∧ j = k then rd (fun e => g e) len (pos3 g len k + 1) (dL g len) else uL g len j, Col.ci IntKind.i64 fun i' j => if i' = 0 ∧ j = k then rd (fun e => g e) len (pos3 g len k + 1 + 1) (Int.ofNat 16) else uD g len j]), (2, Blk.own 132 4 [some (SC.slc 0 (NV.k 0) (NV.k 0) 1 (NV.s len) (NV.s cap)), none, some (SC.iv IntKind.i64 (↑(pos3 g len k + 1 + 1 + 1) : Int)), none]), (0, Blk.view 1 (fun x => len) [Col.ci IntKind.u8 fun x e => g e]), (1, Blk.own 29 11 [none, none, none, none, none, none, none, none, none, none, none]), (3, Blk.own 29 11 [some (SC.iv IntKind.i64 (dW g len)), some (SC.iv IntKind.i64 (dL g len)), some (SC.iv IntKind.i64 (dC g len)), some (SC.iv IntKind.i64 (dT g len)), some (SC.iv IntKind.i64 (dD g len)), some (SC.iv IntKind.i64 (dH g len)), some (SC.iv IntKind.i64 (dB g len)), some (SC.iv IntKind.i64 (dA g len)), some (SC.iv IntKind.i64 (dP g len)), some (SC.slc 5 (NV.k 0) (NV.k 0) 1 (NV.s (nP g len)) (NV.s rc)), some (SC.slc 9 (NV.k 0) (NV.k 0) 3 (NV.s (k + 1)) (NV.s x))]), (4, Blk.fam true 94 (gd (nP g len) FC) (gd (nP g len) (lenP g len)) [Col.ci IntKind.i64 fun i e => cO g len i e, Col.ci IntKind.i64 fun i e => cA g len i e, Col.ci IntKind.i64 fun i e => cB g len i e]), (5, Blk.row 92 rc (nP g len) [Col.cs 4 3 (fun x e => e) (fun x e => lenP g len e) fun x e => FC e])], nxt := 10, D := fun x => True } })))))))))))))
    (Out.leaf (Ex.exit 5, { tmps := tms 128 [(2, (SV.c (SC.ptr 1 (NV.k 0) (NV.k 0) 0 11))), (3, (SV.c (SC.ptr 2 (NV.k 0) (NV.k 0) 0 4))), (4, (SV.c (SC.ptr 3 (NV.k 0) (NV.k 0) 0 11))), (5, (SV.c (SC.iv IntKind.i64 (dN g len))))], H := { h := [(6, Blk.row 96 c10 k [Col.ci IntKind.i64 fun x e => uP g len e, Col.ci IntKind.i64 fun x e => uL g len e, Col.ci IntKind.i64 fun x e => uD g len e]), (0, Blk.view 1 (fun x => len) [Col.ci IntKind.u8 fun x e => g e]), (1, Blk.own 29 11 [none, none, none, none, none, none, none, none, none, none, none]), (2, Blk.own 132 4 [some (SC.slc 0 (NV.k 0) (NV.k 0) 1 (NV.s len) (NV.s cap)), none, some (SC.iv IntKind.i64 (↑(pos3 g len k) : Int)), none]), (3, Blk.own 29 11 [some (SC.iv IntKind.i64 (dW g len)), some (SC.iv IntKind.i64 (dL g len)), some (SC.iv IntKind.i64 (dC g len)), some (SC.iv IntKind.i64 (dT g len)), some (SC.iv IntKind.i64 (dD g len)), some (SC.iv IntKind.i64 (dH g len)), some (SC.iv IntKind.i64 (dB g len)), some (SC.iv IntKind.i64 (dA g len)), some (SC.iv IntKind.i64 (dP g len)), some (SC.slc 5 (NV.k 0) (NV.k 0) 1 (NV.s (nP g len)) (NV.s rc)), some (SC.slc 6 (NV.k 0) (NV.k 0) 3 (NV.s k) (NV.s c10))]), (4, Blk.fam true 94 (gd (nP g len) FC) (gd (nP g len) (lenP g len)) [Col.ci IntKind.i64 fun i e => cO g len i e, Col.ci IntKind.i64 fun i e => cA g len i e, Col.ci IntKind.i64 fun i e => cB g len i e]), (5, Blk.row 92 rc (nP g len) [Col.cs 4 3 (fun x e => e) (fun x e => lenP g len e) fun x e => FC e])], nxt := 7, D := fun x => True } })) := by kernel_rfl


end Go.Proofs.Ytjpnpaboahbncaa.Dc


/- ref05.Decode: the rounds of its loops. -/
set_option linter.unusedVariables false
set_option linter.unusedSimpArgs false
set_option maxRecDepth 100000
namespace Go.Proofs.Ytjpnpaboahbncaa.Dc
open Go Go.RowKit Sx Cn
section
variable {g : Nat → Int} {len : Nat}
theorem dW_r (hu : U8 len g) : 1 ≤ dW g len ∧ dW g len ≤ 4 := by have := rd_range (at' := 0) (k := 4) hu (by decide); unfold dW; omega
theorem dL_r (hu : U8 len g) : 1 ≤ dL g len ∧ dL g len ≤ 4 := by have := rd_range (at' := 1) (k := 4) hu (by decide); unfold dL; omega
theorem dC_r (hu : U8 len g) : 1 ≤ dC g len ∧ dC g len ≤ 3 := by have h := dL_r hu; have := rd_range (at' := 2) (k := min 3 (dL g len)) hu (by omega); unfold dC; omega
theorem dC_L (hu : U8 len g) : dC g len ≤ dL g len := by have h := dL_r hu; have := rd_range (at' := 2) (k := min 3 (dL g len)) hu (by omega); unfold dC; omega
theorem dT_r (hu : U8 len g) : 1 ≤ dT g len ∧ dT g len ≤ 12 := by have := rd_range (at' := 3) (k := 12) hu (by decide); unfold dT; omega
theorem dD_r (hu : U8 len g) : 1 ≤ dD g len ∧ dD g len ≤ 4 := by have := rd_range (at' := 4) (k := 4) hu (by decide); unfold dD; omega
theorem dH_r (hu : U8 len g) : 1 ≤ dH g len ∧ dH g len ≤ 4 := by have := rd_range (at' := 5) (k := 4) hu (by decide); unfold dH; omega
theorem dB_r (hu : U8 len g) : 1 ≤ dB g len ∧ dB g len ≤ dD g len := by have h := dD_r hu; have := rd_range (at' := 6) (k := dD g len) hu (by omega); unfold dB; omega
theorem dA_r (hu : U8 len g) : 0 ≤ dA g len ∧ dA g len ≤ 5 := by have := rd_range (at' := 7) (k := 6) hu (by decide); unfold dA; omega
theorem dP_r (hu : U8 len g) : 1 ≤ dP g len ∧ dP g len ≤ 8 := by have := rd_range (at' := 8) (k := 8) hu (by decide); unfold dP; omega
theorem dN_r (hu : U8 len g) : 1 ≤ dN g len ∧ dN g len ≤ 4 := by have := rd_range (at' := 9) (k := 4) hu (by decide); unfold dN; omega
theorem nP_eq (hu : U8 len g) : (nP g len : Int) = dN g len := by have := dN_r hu; unfold nP; omega
theorem cnt_eq (hu : U8 len g) (p : Nat) : (cnt g len p : Int) = rd g len p 6 ∧ cnt g len p ≤ 5 := by have := rd_range (at' := p) (k := 6) hu (by decide); unfold cnt; omega
theorem iE_le (p : Nat) : iE g len p ≤ p + 3 := by unfold iE; split <;> omega
theorem pI_le (p k : Nat) : pI g len p k ≤ p + 1 + 3 * k := by
  induction k with
  | zero => exact Nat.le_refl _
  | succ k ih => have := iE_le (g := g) (len := len) (pI g len p k); show iE g len (pI g len p k) ≤ _; omega
theorem pS_le (hu : U8 len g) (i : Nat) : pS g len i ≤ 10 + 16 * i := by
  induction i with
  | zero => exact Nat.le_refl _
  | succ i ih => have := pI_le (g := g) (len := len) (pS g len i) (cnt g len (pS g len i)); have := (cnt_eq hu (pS g len i)).2; show pI g len (pS g len i) (cnt g len (pS g len i)) ≤ _; omega
theorem pU_le (hu : U8 len g) : pU g len ≤ 74 := by have := pS_le hu (nP g len); have := nP_eq hu; have := dN_r hu; unfold pU; omega
theorem nU_le (hu : U8 len g) : nU g len ≤ 5 := (cnt_eq hu _).2
end
theorem gd_le {i : Nat} {A B : Nat → Nat} (h : ∀ e, e < i → A e ≤ B e) (e : Nat) : gd i A e ≤ gd i B e := by
  unfold gd; split
  · exact h e (by assumption)
  · exact Nat.le_refl _
theorem gd_inv {i : Nat} {A B : Nat → Nat} (h : ∀ e, e < i → A e ≤ B e) (e : Nat) : gd i A e ≤ gd i B e ∧ gd i A e ≤ gd i A e := ⟨gd_le h e, Nat.le_refl _⟩
theorem col_add {A : Nat → Int} {k : Nat} {v : Int} (h : v = A k) (i' e : Nat) (_ : i' = 0 ∧ e < k + 1) : (if i' = 0 ∧ e = k then v else A e) = A e := by
  split
  · rename_i h1; rw [h1.2, h]
  · rfl
theorem ne_beq {a b : Int} (h : (a == b) = false) : a ≠ b := fun e => by subst e; simp at h
theorem roundI_ok (g : Nat → Int) (len cap i : Nat) (FC : Nat → Nat) (rc k c7 : Nat) (hF : ∀ e, e < i → lenP g len e ≤ FC e) (hx : Ii g len i k c7) (K : Ex × St → Prop) (hA : (Ai g len cap i FC rc).holds K) :
    Holds (roundI g len cap i FC rc k c7) (RoundEnd (fun x : Nat × Nat => Ji g len cap i FC rc x.1 x.2) (fun x => Ii g len i x.1 x.2) (fun x => lenP g len i - x.1) 6 7 K (k, c7)) := by
  constructor
  rw [roundI_eq]
  obtain ⟨hu, hi, hk, hc⟩ := hx
  have hN := dN_r hu
  have hL := dL_r hu
  have hl : lenP g len i ≤ 5 := (cnt_eq hu _).2
  have hp : pI g len (pS g len i) k ≤ 1000 := by have := pI_le (g := g) (len := len) (pS g len i) k; have := pS_le hu i; omega
  have hcnt : ∀ v, v = IntKind.i64.wrap ((lenP g len i : Int) - (k : Int) - 1) → k < lenP g len i → v = (lenP g len i : Int) - ((k + 1 : Nat) : Int) := fun v e h => by rw [e, w64 (by omega)]; omega
  simp only [Out.holds, eq_self, true_and, and_true, Nat.le_refl, implies_true, Int.ofNat_eq_natCast, Nat.lt_add_one, gt_iff_lt, Nat.zero_lt_one]
  refine ⟨fun h => ?_, fun h => ?_⟩
  · have h := of_decide_eq_true h
    have hlt : k < lenP g len i := by omega
    refine ⟨⟨hu, by decide, by omega⟩, fun h0 => ?_, fun h0 => ?_⟩
    · have h0 : iO g len (pI g len (pS g len i) k) = 0 := eq_of_beq h0
      have hr := rd_range (at' := pI g len (pS g len i) k + 1) (k := 4) hu (by decide)
      refine ⟨⟨hu, by decide, by omega⟩, by omega, fun x hx => ⟨(k + 1, x), [9], ⟨hu, hi, hlt, hx⟩, (by show lenP g len i - (k + 1) < lenP g len i - k; omega), rfl, rfl, ⟨?_, ?_⟩, rfl⟩⟩
      · (repeat' first | exact True.intro | with_reducible rfl | apply And.intro | exact Nat.le_refl _ | (intros; with_reducible rfl) | (intros; assumption) | decide | (intros; exact Nat.le_refl _) | (intros; apply Or.inl; with_reducible rfl))
        exact hcnt _ rfl hlt
      · (repeat' first | exact True.intro | with_reducible rfl | apply And.intro | exact Nat.le_refl _ | (intros; with_reducible rfl) | (intros; assumption) | decide | (intros; exact Nat.le_refl _) | (intros; apply Or.inl; with_reducible rfl))
        · exact col_add rfl
        · refine col_add ?_
          show IntKind.i64.wrap (1 + rd g len (pI g len (pS g len i) k + 1) 4) = iA g len (pI g len (pS g len i) k)
          rw [iA, if_pos h0, w64 (by omega)]
        · refine col_add ?_
          show _ = iB g len (pI g len (pS g len i) k)
          rw [iB, if_neg (by omega)]; rfl
        · show ((pI g len (pS g len i) k + 1 + 1 : Nat) : Int) = (iE g len (pI g len (pS g len i) k) : Nat)
          rw [iE, if_neg (by omega)]
        · exact gd_inv hF
    · have h0 : iO g len (pI g len (pS g len i) k) ≠ 0 := ne_beq h0
      refine ⟨fun h1 => ?_, fun h1 => ?_⟩
      · have h1 : iO g len (pI g len (pS g len i) k) = 1 := eq_of_beq h1
        refine ⟨⟨hu, by omega, by omega⟩, ⟨hu, by omega, by omega⟩, by omega, fun x hx => ⟨(k + 1, x), [9], ⟨hu, hi, hlt, hx⟩, (by show lenP g len i - (k + 1) < lenP g len i - k; omega), rfl, rfl, ⟨?_, ?_⟩, rfl⟩⟩
        · (repeat' first | exact True.intro | with_reducible rfl | apply And.intro | exact Nat.le_refl _ | (intros; with_reducible rfl) | (intros; assumption) | decide | (intros; exact Nat.le_refl _) | (intros; apply Or.inl; with_reducible rfl))
          exact hcnt _ rfl hlt
        · (repeat' first | exact True.intro | with_reducible rfl | apply And.intro | exact Nat.le_refl _ | (intros; with_reducible rfl) | (intros; assumption) | decide | (intros; exact Nat.le_refl _) | (intros; apply Or.inl; with_reducible rfl))
          · exact col_add rfl
          · refine col_add ?_
            show _ = iA g len (pI g len (pS g len i) k)
            rw [iA, if_neg h0, if_pos h1]
          · refine col_add ?_
            show _ = iB g len (pI g len (pS g len i) k)
            rw [iB, if_pos h1]
          · show ((pI g len (pS g len i) k + 1 + 1 + 1 : Nat) : Int) = (iE g len (pI g len (pS g len i) k) : Nat)
            rw [iE, if_pos h1]
          · exact gd_inv hF
      · have h1 : iO g len (pI g len (pS g len i) k) ≠ 1 := ne_beq h1
        refine ⟨⟨hu, by decide, by omega⟩, by omega, fun x hx => ⟨(k + 1, x), [9], ⟨hu, hi, hlt, hx⟩, (by show lenP g len i - (k + 1) < lenP g len i - k; omega), rfl, rfl, ⟨?_, ?_⟩, rfl⟩⟩
        · (repeat' first | exact True.intro | with_reducible rfl | apply And.intro | exact Nat.le_refl _ | (intros; with_reducible rfl) | (intros; assumption) | decide | (intros; exact Nat.le_refl _) | (intros; apply Or.inl; with_reducible rfl))
          exact hcnt _ rfl hlt
        · (repeat' first | exact True.intro | with_reducible rfl | apply And.intro | exact Nat.le_refl _ | (intros; with_reducible rfl) | (intros; assumption) | decide | (intros; exact Nat.le_refl _) | (intros; apply Or.inl; with_reducible rfl))
          · exact col_add rfl
          · refine col_add ?_
            show _ = iA g len (pI g len (pS g len i) k)
            rw [iA, if_neg h0, if_neg h1]; rfl
          · refine col_add ?_
            show _ = iB g len (pI g len (pS g len i) k)
            rw [iB, if_neg h1]; rfl
          · show ((pI g len (pS g len i) k + 1 + 1 : Nat) : Int) = (iE g len (pI g len (pS g len i) k) : Nat)
            rw [iE, if_neg h1]
          · exact gd_inv hF
  · have h := of_decide_eq_false h
    have hk : k = lenP g len i := by omega
    subst hk
    simp only [Ai, Out.holds] at hA
    refine ⟨_, [6], ?_, ?_, ?_, hA.2 c7 hc⟩
    · refine ⟨rfl, rfl, ⟨?_, ?_⟩, rfl⟩
      · (repeat' first | exact True.intro | with_reducible rfl | apply And.intro | exact Nat.le_refl _ | (intros; with_reducible rfl) | (intros; assumption) | decide | (intros; exact Nat.le_refl _) | (intros; apply Or.inl; with_reducible rfl))
      · (repeat' first | exact True.intro | with_reducible rfl | apply And.intro | exact Nat.le_refl _ | (intros; with_reducible rfl) | (intros; assumption) | decide | (intros; exact Nat.le_refl _) | (intros; apply Or.inl; with_reducible rfl))
        · rfl
        · exact gd_inv hF
    · rfl
    · exact Nat.le_refl _
theorem roundS_ok (g : Nat → Int) (len cap rc : Nat) (FC : Nat → Nat) (k c10 : Nat) (hx : Is g len rc FC k c10) (K : Ex × St → Prop) (hA : (As g len cap rc FC).holds K) :
    Holds (roundS g len cap rc FC k c10) (RoundEnd (fun x : Nat × Nat => Js g len cap rc FC x.1 x.2) (fun x => Is g len rc FC x.1 x.2) (fun x => nU g len - x.1) 6 7 K (k, c10)) := by
  constructor
  rw [roundS_eq]
  obtain ⟨hu, hk, hc, hF, hrc⟩ := hx
  have hN := dN_r hu
  have hL := dL_r hu
  have hl := nU_le hu
  have hp : pos3 g len k ≤ 1000 := by have := pU_le hu; unfold pos3; omega
  have hcnt : ∀ v, v = IntKind.i64.wrap ((nU g len : Int) - (k : Int) - 1) → k < nU g len → v = (nU g len : Int) - ((k + 1 : Nat) : Int) := fun v e h => by rw [e, w64 (by omega)]; omega
  simp only [Out.holds, eq_self, true_and, and_true, Nat.le_refl, implies_true, Int.ofNat_eq_natCast, Nat.lt_add_one, gt_iff_lt, Nat.zero_lt_one]
  refine ⟨fun h => ?_, fun h => ?_⟩
  · have h := of_decide_eq_true h
    have hlt : k < nU g len := by omega
    refine ⟨⟨hu, by omega, by omega⟩, ⟨hu, by omega, by omega⟩, ⟨hu, by decide, by omega⟩, by omega, fun x hx => ⟨(k + 1, x), [9], ⟨hu, hlt, hx, hF, hrc⟩, (by show nU g len - (k + 1) < nU g len - k; omega), rfl, rfl, ⟨?_, ?_⟩, rfl⟩⟩
    · (repeat' first | exact True.intro | with_reducible rfl | apply And.intro | exact Nat.le_refl _ | (intros; with_reducible rfl) | (intros; assumption) | decide | (intros; exact Nat.le_refl _) | (intros; apply Or.inl; with_reducible rfl))
      exact hcnt _ rfl hlt
    · (repeat' first | exact True.intro | with_reducible rfl | apply And.intro | exact Nat.le_refl _ | (intros; with_reducible rfl) | (intros; assumption) | decide | (intros; exact Nat.le_refl _) | (intros; apply Or.inl; with_reducible rfl))
      · exact col_add rfl
      · exact col_add rfl
      · exact col_add rfl
      · show ((pos3 g len k + 1 + 1 + 1 : Nat) : Int) = (pos3 g len (k + 1) : Nat)
        unfold pos3; omega
      · exact gd_inv hF
  · have h := of_decide_eq_false h
    have hk : k = nU g len := by omega
    subst hk
    simp only [As, Out.holds] at hA
    refine ⟨_, [6], ?_, ?_, ?_, hA.2 c10 hc⟩
    · refine ⟨rfl, rfl, ⟨?_, ?_⟩, rfl⟩
      · (repeat' first | exact True.intro | with_reducible rfl | apply And.intro | exact Nat.le_refl _ | (intros; with_reducible rfl) | (intros; assumption) | decide | (intros; exact Nat.le_refl _) | (intros; apply Or.inl; with_reducible rfl))
      · (repeat' first | exact True.intro | with_reducible rfl | apply And.intro | exact Nat.le_refl _ | (intros; with_reducible rfl) | (intros; assumption) | decide | (intros; exact Nat.le_refl _) | (intros; apply Or.inl; with_reducible rfl))
        exact gd_inv hF
    · rfl
    · exact Nat.le_refl _
theorem annI_ok (g : Nat → Int) (len cap i : Nat) (FC : Nat → Nat) (rc : Nat) (hF : ∀ e, e < i → lenP g len e ≤ FC e) : AnnOK P (.loop (loopIn2 P 56 0 0)) (annI g len cap i FC rc) :=
  ghost_annOK (nilTmpG_ok _ _ _ _) (loopC_ok (u := 3) (nf := 3) con6_ok (fun x => lenP g len i - x.1) 7 (by decide) (fun _ => rfl) (fun _ => rfl) (fun _ => rfl) (gs := fun _ => []) (ls := fun _ => []) (fun x hx K hA => roundI_ok g len cap i FC rc x.1 x.2 hF hx K hA) (fun _ _ => trivial) (fun _ _ => fits_nil _))
theorem gd_put {i : Nat} {A B : Nat → Nat} {v : Nat} (h : v = B i) (hAB : ∀ e, e < i → A e = B e) (e : Nat) : (if e = i then v else gd i A e) = gd (i + 1) B e := by
  unfold gd
  split
  · rename_i h'; subst h'; rw [if_pos (Nat.lt_succ_self _), h]
  · split
    · rename_i h1 h2; rw [if_pos (by omega), hAB e h2]
    · rw [if_neg (by omega)]
theorem roundO_ok (g : Nat → Int) (len cap i : Nat) (FC : Nat → Nat) (rc : Nat) (hx : Io g len i FC rc) (K : Ex × St → Prop) (hA : (Ao g len cap).holds K) :
    Holds (roundO g len cap i FC rc) (RoundEnd (fun x : Nat × (Nat → Nat) × Nat => Jo g len cap x.1 x.2.1 x.2.2) (fun x => Io g len x.1 x.2.1 x.2.2) (fun x => nP g len - x.1) 4 6 K (i, FC, rc)) := by
  constructor
  rw [roundO_eq]
  obtain ⟨hu, hi, hF, hrc⟩ := hx
  have hN := dN_r hu
  have hn := nP_eq hu
  have hp : pS g len i ≤ 1000 := by have := pS_le hu i; omega
  have hl := cnt_eq hu (pS g len i)
  simp only [Out.holds, eq_self, true_and, and_true, Nat.le_refl, implies_true, Int.ofNat_eq_natCast, Nat.lt_add_one, gt_iff_lt, Nat.zero_lt_one]
  refine ⟨fun h => ?_, fun h => ?_⟩
  · have h := of_decide_eq_true h
    refine ⟨⟨hu, by decide, by omega⟩, ⟨⟨hu, h, Nat.zero_le _, Nat.zero_le _⟩, ?_⟩, ⟨_, Nat.le_refl _⟩, fun c7 h7 => ⟨by omega, fun x hx => ⟨?_, ⟨(i + 1, fun e => if e = i then c7 else FC e, x), [9, 8], ⟨hu, by omega, ?_, hx⟩, (by show nP g len - (i + 1) < nP g len - i; omega), rfl, rfl, ⟨?_, ?_⟩, rfl⟩⟩⟩⟩
    · (repeat' first | exact True.intro | with_reducible rfl | apply And.intro | exact Nat.le_refl _ | (intros; with_reducible rfl) | (intros; assumption) | decide | (intros; exact Nat.le_refl _) | (intros; apply Or.inl; with_reducible rfl))
      · show rd g len (pS g len i) 6 = ((cnt g len (pS g len i) : Nat) : Int) - ((0 : Nat) : Int)
        omega
      · rfl
      · intro _; exact .inl trivial
      · exact gd_le hF
    · rintro a e ⟨_, _⟩ h'; omega
    · intro e he
      show lenP g len e ≤ if e = i then c7 else FC e
      split
      · rename_i h'; rw [h']; exact h7
      · exact hF e (by omega)
    · (repeat' first | exact True.intro | with_reducible rfl | apply And.intro | exact Nat.le_refl _ | (intros; with_reducible rfl) | (intros; assumption) | decide | (intros; exact Nat.le_refl _) | (intros; apply Or.inl; with_reducible rfl))
      show IntKind.i64.wrap ((i : Int) + 1) = ((i + 1 : Nat) : Int)
      rw [w64 (by omega)]; rfl
    · (repeat' first | exact True.intro | with_reducible rfl | apply And.intro | exact Nat.le_refl _ | (intros; with_reducible rfl) | (intros; assumption) | decide | (intros; exact Nat.le_refl _) | (intros; apply Or.inl; with_reducible rfl))
      · exact fun e => .inl (gd_put (B := fun e => if e = i then c7 else FC e) (if_pos rfl).symm (fun e he => (if_neg (by omega)).symm) e)
      · refine fun e => ⟨gd_le (fun e he => ?_) e, Nat.le_of_eq (gd_put (A := lenP g len) (B := lenP g len) rfl (fun _ _ => rfl) e).symm⟩
        show lenP g len e ≤ if e = i then c7 else FC e
        split
        · rename_i h'; rw [h']; exact h7
        · exact hF e (by omega)
      · intro a e _; show (if a = i then _ else _) = _; split
        · rename_i h'; rw [h']
        · rfl
      · intro a e _; show (if a = i then _ else _) = _; split
        · rename_i h'; rw [h']
        · rfl
      · intro a e _; show (if a = i then _ else _) = _; split
        · rename_i h'; rw [h']
        · rfl
      · intro a e _; show (if _ ∧ e = i then _ else _) = _; split
        · rename_i h'; rw [h'.2]
        · rfl
      · rintro a e ⟨rfl, _⟩; show (if 0 = 0 ∧ e = i then c7 else FC e) = if e = i then c7 else FC e
        split
        · rename_i h'; rw [if_pos h'.2]
        · rename_i h'; rw [if_neg (fun he => h' ⟨rfl, he⟩)]
  · have h := of_decide_eq_false h
    have hk : i = nP g len := by omega
    subst hk
    simp only [Ao, Out.holds] at hA
    refine ⟨_, [4, 5], ?_, ?_, ?_, (hA.2 FC hF).2 rc hrc⟩
    · refine ⟨rfl, rfl, ⟨?_, ?_⟩, rfl⟩
      · (repeat' first | exact True.intro | with_reducible rfl | apply And.intro | exact Nat.le_refl _ | (intros; with_reducible rfl) | (intros; assumption) | decide | (intros; exact Nat.le_refl _) | (intros; apply Or.inl; with_reducible rfl))
      · (repeat' first | exact True.intro | with_reducible rfl | apply And.intro | exact Nat.le_refl _ | (intros; with_reducible rfl) | (intros; assumption) | decide | (intros; exact Nat.le_refl _) | (intros; apply Or.inl; with_reducible rfl))
        · rfl
        · exact gd_inv hF
    · rfl
    · exact Nat.le_refl _
end Go.Proofs.Ytjpnpaboahbncaa.Dc


/- ref05.Decode: the executor's tree, printed by program. -/
set_option linter.unusedVariables false
set_option maxRecDepth 100000
namespace Go.Proofs.Ytjpnpaboahbncaa.Dc
open Go Go.RowKit Sx Cn

theorem main56_eq (g : Nat → Int) (len cap : Nat) : main56 g len cap =
  Out.need (((2 = 2 ∧ 0 = 0 ∧ 0 = 0 ∧ 0 = 0 ∧ 4 = 4) ∧ (IntKind.i64 = IntKind.i64 ∧ Int.ofNat 4 = Int.ofNat 4) ∧ True) ∧ (132 = 132 ∧ 4 = 4 ∧ (0 = 0 ∧ 0 = 0 ∧ 0 = 0 ∧ 1 = 1 ∧ len = len ∧ cap = cap) ∧ (IntKind.i64 = IntKind.i64 ∧ Int.ofNat 0 = (↑0 : Int)) ∧ True) ∧ (1 ≤ 1 ∧ (∀ (i : Nat), i < 1 → len ≤ len) ∧ (IntKind.u8 = IntKind.u8 ∧ ∀ (i e : Nat), i < 1 ∧ e < len → g e = g e) ∧ True) ∧ True)
    (Out.need (preN (fun e => g e) len 0 (Int.ofNat 4))
    (Out.need (((2 = 2 ∧ 0 = 0 ∧ 0 = 0 ∧ 0 = 0 ∧ 4 = 4) ∧ (IntKind.i64 = IntKind.i64 ∧ Int.ofNat 4 = Int.ofNat 4) ∧ True) ∧ (132 = 132 ∧ 4 = 4 ∧ (0 = 0 ∧ 0 = 0 ∧ 0 = 0 ∧ 1 = 1 ∧ len = len ∧ cap = cap) ∧ (IntKind.i64 = IntKind.i64 ∧ (↑1 : Int) = (↑1 : Int)) ∧ True) ∧ (1 ≤ 1 ∧ (∀ (i : Nat), i < 1 → len ≤ len) ∧ (IntKind.u8 = IntKind.u8 ∧ ∀ (i e : Nat), i < 1 ∧ e < len → g e = g e) ∧ True) ∧ True)
    (Out.need (preN (fun e => g e) len 1 (Int.ofNat 4))
    (Out.need (((2 = 2 ∧ 0 = 0 ∧ 0 = 0 ∧ 0 = 0 ∧ 4 = 4) ∧ (IntKind.i64 = IntKind.i64 ∧ min (Int.ofNat 3) (IntKind.i64.wrap (Int.ofNat 1 + rd (fun e => g e) len 1 (Int.ofNat 4))) = min (Int.ofNat 3) (IntKind.i64.wrap (Int.ofNat 1 + rd (fun e => g e) len 1 (Int.ofNat 4)))) ∧ True) ∧ (132 = 132 ∧ 4 = 4 ∧ (0 = 0 ∧ 0 = 0 ∧ 0 = 0 ∧ 1 = 1 ∧ len = len ∧ cap = cap) ∧ (IntKind.i64 = IntKind.i64 ∧ (↑2 : Int) = (↑2 : Int)) ∧ True) ∧ (1 ≤ 1 ∧ (∀ (i : Nat), i < 1 → len ≤ len) ∧ (IntKind.u8 = IntKind.u8 ∧ ∀ (i e : Nat), i < 1 ∧ e < len → g e = g e) ∧ True) ∧ True)
    (Out.need (preN (fun e => g e) len 2 (min (Int.ofNat 3) (IntKind.i64.wrap (Int.ofNat 1 + rd (fun e => g e) len 1 (Int.ofNat 4)))))
    (Out.need (((2 = 2 ∧ 0 = 0 ∧ 0 = 0 ∧ 0 = 0 ∧ 4 = 4) ∧ (IntKind.i64 = IntKind.i64 ∧ Int.ofNat 12 = Int.ofNat 12) ∧ True) ∧ (132 = 132 ∧ 4 = 4 ∧ (0 = 0 ∧ 0 = 0 ∧ 0 = 0 ∧ 1 = 1 ∧ len = len ∧ cap = cap) ∧ (IntKind.i64 = IntKind.i64 ∧ (↑3 : Int) = (↑3 : Int)) ∧ True) ∧ (1 ≤ 1 ∧ (∀ (i : Nat), i < 1 → len ≤ len) ∧ (IntKind.u8 = IntKind.u8 ∧ ∀ (i e : Nat), i < 1 ∧ e < len → g e = g e) ∧ True) ∧ True)
    (Out.need (preN (fun e => g e) len 3 (Int.ofNat 12))
    (Out.need (((2 = 2 ∧ 0 = 0 ∧ 0 = 0 ∧ 0 = 0 ∧ 4 = 4) ∧ (IntKind.i64 = IntKind.i64 ∧ Int.ofNat 4 = Int.ofNat 4) ∧ True) ∧ (132 = 132 ∧ 4 = 4 ∧ (0 = 0 ∧ 0 = 0 ∧ 0 = 0 ∧ 1 = 1 ∧ len = len ∧ cap = cap) ∧ (IntKind.i64 = IntKind.i64 ∧ (↑4 : Int) = (↑4 : Int)) ∧ True) ∧ (1 ≤ 1 ∧ (∀ (i : Nat), i < 1 → len ≤ len) ∧ (IntKind.u8 = IntKind.u8 ∧ ∀ (i e : Nat), i < 1 ∧ e < len → g e = g e) ∧ True) ∧ True)
    (Out.need (preN (fun e => g e) len 4 (Int.ofNat 4))
    (Out.need (((2 = 2 ∧ 0 = 0 ∧ 0 = 0 ∧ 0 = 0 ∧ 4 = 4) ∧ (IntKind.i64 = IntKind.i64 ∧ Int.ofNat 4 = Int.ofNat 4) ∧ True) ∧ (132 = 132 ∧ 4 = 4 ∧ (0 = 0 ∧ 0 = 0 ∧ 0 = 0 ∧ 1 = 1 ∧ len = len ∧ cap = cap) ∧ (IntKind.i64 = IntKind.i64 ∧ (↑5 : Int) = (↑5 : Int)) ∧ True) ∧ (1 ≤ 1 ∧ (∀ (i : Nat), i < 1 → len ≤ len) ∧ (IntKind.u8 = IntKind.u8 ∧ ∀ (i e : Nat), i < 1 ∧ e < len → g e = g e) ∧ True) ∧ True)
    (Out.need (preN (fun e => g e) len 5 (Int.ofNat 4))
    (Out.need (((2 = 2 ∧ 0 = 0 ∧ 0 = 0 ∧ 0 = 0 ∧ 4 = 4) ∧ (IntKind.i64 = IntKind.i64 ∧ IntKind.i64.wrap (Int.ofNat 1 + rd (fun e => g e) len 4 (Int.ofNat 4)) = IntKind.i64.wrap (Int.ofNat 1 + rd (fun e => g e) len 4 (Int.ofNat 4))) ∧ True) ∧ (132 = 132 ∧ 4 = 4 ∧ (0 = 0 ∧ 0 = 0 ∧ 0 = 0 ∧ 1 = 1 ∧ len = len ∧ cap = cap) ∧ (IntKind.i64 = IntKind.i64 ∧ (↑6 : Int) = (↑6 : Int)) ∧ True) ∧ (1 ≤ 1 ∧ (∀ (i : Nat), i < 1 → len ≤ len) ∧ (IntKind.u8 = IntKind.u8 ∧ ∀ (i e : Nat), i < 1 ∧ e < len → g e = g e) ∧ True) ∧ True)
    (Out.need (preN (fun e => g e) len 6 (IntKind.i64.wrap (Int.ofNat 1 + rd (fun e => g e) len 4 (Int.ofNat 4))))
    (Out.need (((2 = 2 ∧ 0 = 0 ∧ 0 = 0 ∧ 0 = 0 ∧ 4 = 4) ∧ (IntKind.i64 = IntKind.i64 ∧ Int.ofNat 6 = Int.ofNat 6) ∧ True) ∧ (132 = 132 ∧ 4 = 4 ∧ (0 = 0 ∧ 0 = 0 ∧ 0 = 0 ∧ 1 = 1 ∧ len = len ∧ cap = cap) ∧ (IntKind.i64 = IntKind.i64 ∧ (↑7 : Int) = (↑7 : Int)) ∧ True) ∧ (1 ≤ 1 ∧ (∀ (i : Nat), i < 1 → len ≤ len) ∧ (IntKind.u8 = IntKind.u8 ∧ ∀ (i e : Nat), i < 1 ∧ e < len → g e = g e) ∧ True) ∧ True)
    (Out.need (preN (fun e => g e) len 7 (Int.ofNat 6))
    (Out.need (((2 = 2 ∧ 0 = 0 ∧ 0 = 0 ∧ 0 = 0 ∧ 4 = 4) ∧ (IntKind.i64 = IntKind.i64 ∧ Int.ofNat 8 = Int.ofNat 8) ∧ True) ∧ (132 = 132 ∧ 4 = 4 ∧ (0 = 0 ∧ 0 = 0 ∧ 0 = 0 ∧ 1 = 1 ∧ len = len ∧ cap = cap) ∧ (IntKind.i64 = IntKind.i64 ∧ (↑8 : Int) = (↑8 : Int)) ∧ True) ∧ (1 ≤ 1 ∧ (∀ (i : Nat), i < 1 → len ≤ len) ∧ (IntKind.u8 = IntKind.u8 ∧ ∀ (i e : Nat), i < 1 ∧ e < len → g e = g e) ∧ True) ∧ True)
    (Out.need (preN (fun e => g e) len 8 (Int.ofNat 8))
    (Out.need (((2 = 2 ∧ 0 = 0 ∧ 0 = 0 ∧ 0 = 0 ∧ 4 = 4) ∧ (IntKind.i64 = IntKind.i64 ∧ Int.ofNat 4 = Int.ofNat 4) ∧ True) ∧ (132 = 132 ∧ 4 = 4 ∧ (0 = 0 ∧ 0 = 0 ∧ 0 = 0 ∧ 1 = 1 ∧ len = len ∧ cap = cap) ∧ (IntKind.i64 = IntKind.i64 ∧ (↑9 : Int) = (↑9 : Int)) ∧ True) ∧ (1 ≤ 1 ∧ (∀ (i : Nat), i < 1 → len ≤ len) ∧ (IntKind.u8 = IntKind.u8 ∧ ∀ (i e : Nat), i < 1 ∧ e < len → g e = g e) ∧ True) ∧ True)
    (Out.need (preN (fun e => g e) len 9 (Int.ofNat 4))
    (Out.need (Io g len 0 (fun x => 0) 0 ∧ (∀ (k : Nat), True) ∧ (∀ (k : Nat), True) ∧ ((1 = 1 ∧ 0 = 0 ∧ 0 = 0 ∧ 0 = 0 ∧ 11 = 11) ∧ (2 = 2 ∧ 0 = 0 ∧ 0 = 0 ∧ 0 = 0 ∧ 4 = 4) ∧ (3 = 3 ∧ 0 = 0 ∧ 0 = 0 ∧ 0 = 0 ∧ 11 = 11) ∧ (IntKind.i64 = IntKind.i64 ∧ IntKind.i64.wrap (Int.ofNat 1 + rd (fun e => g e) len 9 (Int.ofNat 4)) = dN g len) ∧ (IntKind.i64 = IntKind.i64 ∧ Int.ofNat 0 = (↑0 : Int)) ∧ True) ∧ (1 ≤ 1 ∧ (∀ (i : Nat), i < 1 → len ≤ len) ∧ (IntKind.u8 = IntKind.u8 ∧ ∀ (i e : Nat), i < 1 ∧ e < len → g e = g e) ∧ True) ∧ (29 = 29 ∧ 11 = 11 ∧ True) ∧ (132 = 132 ∧ 4 = 4 ∧ (0 = 0 ∧ 0 = 0 ∧ 0 = 0 ∧ 1 = 1 ∧ len = len ∧ cap = cap) ∧ (IntKind.i64 = IntKind.i64 ∧ (↑10 : Int) = (↑(pS g len 0) : Int)) ∧ True) ∧ (29 = 29 ∧ 11 = 11 ∧ (IntKind.i64 = IntKind.i64 ∧ IntKind.i64.wrap (Int.ofNat 1 + rd (fun e => g e) len 0 (Int.ofNat 4)) = dW g len) ∧ (IntKind.i64 = IntKind.i64 ∧ IntKind.i64.wrap (Int.ofNat 1 + rd (fun e => g e) len 1 (Int.ofNat 4)) = dL g len) ∧ (IntKind.i64 = IntKind.i64 ∧ IntKind.i64.wrap (Int.ofNat 1 + rd (fun e => g e) len 2 (min (Int.ofNat 3) (IntKind.i64.wrap (Int.ofNat 1 + rd (fun e => g e) len 1 (Int.ofNat 4))))) = dC g len) ∧ (IntKind.i64 = IntKind.i64 ∧ IntKind.i64.wrap (Int.ofNat 1 + rd (fun e => g e) len 3 (Int.ofNat 12)) = dT g len) ∧ (IntKind.i64 = IntKind.i64 ∧ IntKind.i64.wrap (Int.ofNat 1 + rd (fun e => g e) len 4 (Int.ofNat 4)) = dD g len) ∧ (IntKind.i64 = IntKind.i64 ∧ IntKind.i64.wrap (Int.ofNat 1 + rd (fun e => g e) len 5 (Int.ofNat 4)) = dH g len) ∧ (IntKind.i64 = IntKind.i64 ∧ IntKind.i64.wrap (Int.ofNat 1 + rd (fun e => g e) len 6 (IntKind.i64.wrap (Int.ofNat 1 + rd (fun e => g e) len 4 (Int.ofNat 4)))) = dB g len) ∧ (IntKind.i64 = IntKind.i64 ∧ rd (fun e => g e) len 7 (Int.ofNat 6) = dA g len) ∧ (IntKind.i64 = IntKind.i64 ∧ IntKind.i64.wrap (Int.ofNat 1 + rd (fun e => g e) len 8 (Int.ofNat 8)) = dP g len) ∧ (5 = 5 ∧ 0 = 0 ∧ 0 = 0 ∧ 1 = 1 ∧ 0 = 0 ∧ 0 = 0) ∧ True ∧ True) ∧ ((true = false → true = false) ∧ 94 = 94 ∧ (∀ (i : Nat), 0 = gd 0 (fun x => 0) i ∨ gd 0 (fun x => 0) i = 0) ∧ (∀ (i : Nat), gd 0 (lenP g len) i ≤ gd 0 (fun x => 0) i ∧ gd 0 (lenP g len) i ≤ 0) ∧ (IntKind.i64 = IntKind.i64 ∧ ∀ (i e : Nat), e < gd 0 (lenP g len) i → cO g len i e = cO g len i e) ∧ (IntKind.i64 = IntKind.i64 ∧ ∀ (i e : Nat), e < gd 0 (lenP g len) i → cA g len i e = cA g len i e) ∧ (IntKind.i64 = IntKind.i64 ∧ ∀ (i e : Nat), e < gd 0 (lenP g len) i → cB g len i e = cB g len i e) ∧ True) ∧ (92 = 92 ∧ 0 = 0 ∧ 0 ≤ 0 ∧ (4 = 4 ∧ 3 = 3 ∧ (∀ (i e : Nat), i = 0 ∧ e < 0 → e = e) ∧ (∀ (i e : Nat), i = 0 ∧ e < 0 → lenP g len e = lenP g len e) ∧ ∀ (i e : Nat), i = 0 ∧ e < 0 → 0 = 0) ∧ True) ∧ True)
    (Out.any (Nat → Nat) (fun FC => ∀ (e : Nat), e < nP g len → lenP g len e ≤ FC e) fun x => Out.any Nat (fun rc => nP g len ≤ rc) fun x_1 => Out.need (((2 = 2 ∧ 0 = 0 ∧ 0 = 0 ∧ 0 = 0 ∧ 4 = 4) ∧ (IntKind.i64 = IntKind.i64 ∧ Int.ofNat 6 = Int.ofNat 6) ∧ True) ∧ (132 = 132 ∧ 4 = 4 ∧ (0 = 0 ∧ 0 = 0 ∧ 0 = 0 ∧ 1 = 1 ∧ len = len ∧ cap = cap) ∧ (IntKind.i64 = IntKind.i64 ∧ (↑(pU g len) : Int) = (↑(pU g len) : Int)) ∧ True) ∧ (1 ≤ 1 ∧ (∀ (i : Nat), i < 1 → len ≤ len) ∧ (IntKind.u8 = IntKind.u8 ∧ ∀ (i e : Nat), i < 1 ∧ e < len → g e = g e) ∧ True) ∧ True)
    (Out.need (preN (fun e => g e) len (pU g len) (Int.ofNat 6))
    (Out.need (Is g len x_1 (fun e => x e) 0 0 ∧ (∀ (k : Nat), True) ∧ (∀ (k : Nat), True) ∧ ((1 = 1 ∧ 0 = 0 ∧ 0 = 0 ∧ 0 = 0 ∧ 11 = 11) ∧ (2 = 2 ∧ 0 = 0 ∧ 0 = 0 ∧ 0 = 0 ∧ 4 = 4) ∧ (3 = 3 ∧ 0 = 0 ∧ 0 = 0 ∧ 0 = 0 ∧ 11 = 11) ∧ (IntKind.i64 = IntKind.i64 ∧ dN g len = dN g len) ∧ (IntKind.i64 = IntKind.i64 ∧ rd (fun e => g e) len (pU g len) (Int.ofNat 6) = (↑(nU g len) : Int) - (↑0 : Int)) ∧ True) ∧ (96 = 96 ∧ 0 = 0 ∧ 0 ≤ 0 ∧ (IntKind.i64 = IntKind.i64 ∧ ∀ (i e : Nat), i = 0 ∧ e < 0 → uP g len e = uP g len e) ∧ (IntKind.i64 = IntKind.i64 ∧ ∀ (i e : Nat), i = 0 ∧ e < 0 → uL g len e = uL g len e) ∧ (IntKind.i64 = IntKind.i64 ∧ ∀ (i e : Nat), i = 0 ∧ e < 0 → uD g len e = uD g len e) ∧ True) ∧ (1 ≤ 1 ∧ (∀ (i : Nat), i < 1 → len ≤ len) ∧ (IntKind.u8 = IntKind.u8 ∧ ∀ (i e : Nat), i < 1 ∧ e < len → g e = g e) ∧ True) ∧ (29 = 29 ∧ 11 = 11 ∧ True) ∧ (132 = 132 ∧ 4 = 4 ∧ (0 = 0 ∧ 0 = 0 ∧ 0 = 0 ∧ 1 = 1 ∧ len = len ∧ cap = cap) ∧ (IntKind.i64 = IntKind.i64 ∧ (↑(pU g len + 1) : Int) = (↑(pos3 g len 0) : Int)) ∧ True) ∧ (29 = 29 ∧ 11 = 11 ∧ (IntKind.i64 = IntKind.i64 ∧ dW g len = dW g len) ∧ (IntKind.i64 = IntKind.i64 ∧ dL g len = dL g len) ∧ (IntKind.i64 = IntKind.i64 ∧ dC g len = dC g len) ∧ (IntKind.i64 = IntKind.i64 ∧ dT g len = dT g len) ∧ (IntKind.i64 = IntKind.i64 ∧ dD g len = dD g len) ∧ (IntKind.i64 = IntKind.i64 ∧ dH g len = dH g len) ∧ (IntKind.i64 = IntKind.i64 ∧ dB g len = dB g len) ∧ (IntKind.i64 = IntKind.i64 ∧ dA g len = dA g len) ∧ (IntKind.i64 = IntKind.i64 ∧ dP g len = dP g len) ∧ (5 = 5 ∧ 0 = 0 ∧ 0 = 0 ∧ 1 = 1 ∧ nP g len = nP g len ∧ x_1 = x_1) ∧ (6 = 6 ∧ 0 = 0 ∧ 0 = 0 ∧ 3 = 3 ∧ 0 = 0 ∧ 0 = 0) ∧ True) ∧ ((true = false → true = false) ∧ 94 = 94 ∧ (∀ (i : Nat), gd (nP g len) x i = gd (nP g len) (fun e => x e) i ∨ gd (nP g len) (fun e => x e) i = 0) ∧ (∀ (i : Nat), gd (nP g len) (lenP g len) i ≤ gd (nP g len) (fun e => x e) i ∧ gd (nP g len) (lenP g len) i ≤ gd (nP g len) (lenP g len) i) ∧ (IntKind.i64 = IntKind.i64 ∧ ∀ (i e : Nat), e < gd (nP g len) (lenP g len) i → cO g len i e = cO g len i e) ∧ (IntKind.i64 = IntKind.i64 ∧ ∀ (i e : Nat), e < gd (nP g len) (lenP g len) i → cA g len i e = cA g len i e) ∧ (IntKind.i64 = IntKind.i64 ∧ ∀ (i e : Nat), e < gd (nP g len) (lenP g len) i → cB g len i e = cB g len i e) ∧ True) ∧ (92 = 92 ∧ x_1 = x_1 ∧ nP g len ≤ nP g len ∧ (4 = 4 ∧ 3 = 3 ∧ (∀ (i e : Nat), i = 0 ∧ e < nP g len → e = e) ∧ (∀ (i e : Nat), i = 0 ∧ e < nP g len → lenP g len e = lenP g len e) ∧ ∀ (i e : Nat), i = 0 ∧ e < nP g len → x e = x e) ∧ True) ∧ True)
    (Out.any Nat (fun c10 => nU g len ≤ c10) fun x_2 => Out.leaf (SV.a [SC.iv IntKind.i64 (dW g len), SC.iv IntKind.i64 (dL g len), SC.iv IntKind.i64 (dC g len), SC.iv IntKind.i64 (dT g len), SC.iv IntKind.i64 (dD g len), SC.iv IntKind.i64 (dH g len), SC.iv IntKind.i64 (dB g len), SC.iv IntKind.i64 (dA g len), SC.iv IntKind.i64 (dP g len), SC.slc 5 (NV.k 0) (NV.k 0) 1 (NV.s (nP g len)) (NV.s x_1), SC.slc 6 (NV.k 0) (NV.k 0) 3 (NV.s (nU g len)) (NV.s x_2)], { h := [(6, Blk.row 96 x_2 (nU g len) [Col.ci IntKind.i64 fun x e => uP g len e, Col.ci IntKind.i64 fun x e => uL g len e, Col.ci IntKind.i64 fun x e => uD g len e]), (0, Blk.view 1 (fun x => len) [Col.ci IntKind.u8 fun x e => g e]), (4, Blk.fam true 94 (gd (nP g len) fun e => x e) (gd (nP g len) (lenP g len)) [Col.ci IntKind.i64 fun i e => cO g len i e, Col.ci IntKind.i64 fun i e => cA g len i e, Col.ci IntKind.i64 fun i e => cB g len i e]), (5, Blk.row 92 x_1 (nP g len) [Col.cs 4 3 (fun x e => e) (fun x e => lenP g len e) fun x_3 e => x e])], nxt := 7, D := fun x => True }))))))))))))))))))))))))) := by kernel_rfl


end Go.Proofs.Ytjpnpaboahbncaa.Dc


/- ref05.Decode: the contract. -/
set_option linter.unusedVariables false
set_option linter.unusedSimpArgs false
set_option maxRecDepth 100000
namespace Go.Proofs.Ytjpnpaboahbncaa.Dc
open Go Go.RowKit Sx Cn
noncomputable section
/-- A configuration, as a value: its slices are blocks a (the programs' slices), b (the submissions). -/
def cfgV (g : Nat → Int) (len : Nat) (c9 c10 : SC) : SV := .a [.iv .i64 (dW g len), .iv .i64 (dL g len), .iv .i64 (dC g len), .iv .i64 (dT g len), .iv .i64 (dD g len), .iv .i64 (dH g len), .iv .i64 (dB g len), .iv .i64 (dA g len), .iv .i64 (dP g len), c9, c10]
def post56 (g : Nat → Int) (len cap : Nat) : Out (SV × Hp) := .need (U8 len g) (.any (Nat → Nat) (fun FC => ∀ e, e < nP g len → lenP g len e ≤ FC e) fun FC => .any Nat (fun rc => nP g len ≤ rc) fun rc => .any Nat (fun c => nU g len ≤ c) fun c10 =>
  .leaf (cfgV g len (slK 2 1 (nP g len) rc) (slK 3 3 (nU g len) c10), ⟨[(1, famP g len (nP g len) FC), (2, rowP g len 1 (nP g len) rc FC), (3, .row 96 c10 (nU g len) (colsU g len))], 4, fun _ => True⟩))
end
theorem ghosts56 (g : Nat → Int) (len cap : Nat) : AnnOK P (.loop (loopIn P 56 0)) (annO g len cap) :=
  ghost_annOK (newFamG_ok _ _) (ghost_annOK (nilCellG_ok _ _ _ _ _) (loopC_ok (u := 3) (nf := 3) con6_ok (fun x => nP g len - x.1) 6 (by decide) (fun _ => rfl) (fun _ => rfl) (fun _ => rfl)
    (gs := fun _ => [(13, joinG (ckey (tkey 4) 9) 0)]) (ls := fun x => [annI g len cap x.1 x.2.1 x.2.2]) (fun x hx K hA => roundO_ok g len cap x.1 x.2.1 x.2.2 hx K hA) (fun _ _ => ⟨joinG_ok _ _, trivial⟩) (fun x hx => fitsIn1 (annI_ok g len cap x.1 x.2.1 x.2.2 hx.2.2.1))))
theorem annS_ok (g : Nat → Int) (len cap : Nat) : AnnOK P (.loop (loopIn P 56 1)) (annS g len cap) :=
  ghost_annOK (nilCellG_ok _ _ _ _ _) (pickA_ok fun y => loopC_ok (u := 3) (nf := 3) con6_ok (fun x => nU g len - x.1) 7 (by decide) (fun _ => rfl) (fun _ => rfl) (fun _ => rfl)
    (gs := fun _ => []) (ls := fun _ => []) (fun x hx K hA => roundS_ok g len cap y.1 y.2 x.1 x.2 hx K hA) (fun _ _ => trivial) (fun _ _ => fits_nil _))
theorem local56 (g : Nat → Int) (len cap : Nat) : LocalOK P 56 [.c (slK 0 1 len cap)] [(0, ints .u8 len g)] 1 (post56 g len cap) :=
  LocalOK.monoR (p := main56 g len cap) (CallOK.local (execA_ok (u := 3) con6_ok (fits2 (ghosts56 g len cap) (annS_ok g len cap)) 3) 56 [.c (slK 0 1 len cap)] [(0, ints .u8 len g)] 1) fun K hK => by
    rw [main56_eq]
    obtain ⟨hu, hK⟩ := hK
    simp only [Out.holds] at hK
    have hN := dN_r hu
    have hL := dL_r hu
    have hD := dD_r hu
    have hn := nP_eq hu
    have w : ∀ at' k, 1 ≤ k → k ≤ 16 → IntKind.i64.wrap (1 + rd g len at' k) = 1 + rd g len at' k := fun at' k h1 h2 => w64 (by have := rd_range (at' := at') hu h1; omega)
    have eL : IntKind.i64.wrap (1 + rd g len 1 4) = dL g len := w _ _ (by decide) (by decide)
    have eD : IntKind.i64.wrap (1 + rd g len 4 4) = dD g len := w _ _ (by decide) (by decide)
    have eC : IntKind.i64.wrap (1 + rd g len 2 (min 3 (dL g len))) = dC g len := w _ _ (by omega) (by omega)
    have eB : IntKind.i64.wrap (1 + rd g len 6 (dD g len)) = dB g len := w _ _ (by omega) (by omega)
    have hU := cnt_eq hu (pU g len)
    have hpU := pU_le hu
    have k4 : ((4 : Nat) : Int) = 4 := rfl
    have k6 : ((6 : Nat) : Int) = 6 := rfl
    have k1 : ((1 : Nat) : Int) = 1 := rfl
    have k3 : ((3 : Nat) : Int) = 3 := rfl
    simp only [Out.holds, eq_self, true_and, and_true, Nat.le_refl, implies_true, Int.ofNat_eq_natCast, Nat.lt_add_one, gt_iff_lt, Nat.zero_lt_one, k1, k3, k4, eL, eD, eC, eB]
    (repeat' first | exact True.intro | with_reducible rfl | apply And.intro | exact Nat.le_refl _ | (intros; with_reducible rfl) | (intros; assumption) | decide | (intros; exact Nat.le_refl _) | (intros; apply Or.inl; with_reducible rfl))
    all_goals try first | omega | exact hu | exact w _ _ (by decide) (by decide) | (with_reducible exact hK.1) | (intro e he; exact absurd he (Nat.not_lt_zero _)) | (intro e; exact .inr rfl) | (intro e; exact ⟨Nat.le_of_eq rfl, Nat.le_of_eq rfl⟩)
    · rfl
    · rfl
    · intro FC hF
      have hK := hK.2 FC hF
      refine ⟨hK.1, fun rc hrc => ?_⟩
      have hK := hK.2 rc hrc
      (repeat' first | exact True.intro | with_reducible rfl | apply And.intro | exact Nat.le_refl _ | (intros; with_reducible rfl) | (intros; assumption) | decide | (intros; exact Nat.le_refl _) | (intros; apply Or.inl; with_reducible rfl))
      all_goals try first | omega | exact hu | with_reducible exact hK.1 | exact gd_inv hF | exact fun e => .inl trivial | exact gd_le hF
      · show rd g len (pU g len) 6 = ((cnt g len (pU g len) : Nat) : Int) - 0
        omega
      · rfl
      · intro c10 hc
        have hK := hK.2 c10 hc
        refine ⟨_, _, [4, 5, 6], ⟨rfl, rfl, ⟨?_, ?_⟩, rfl⟩, ?_, ?_, hK⟩
        · (repeat' first | exact True.intro | with_reducible rfl | apply And.intro | exact Nat.le_refl _ | (intros; with_reducible rfl) | (intros; assumption) | decide | (intros; exact Nat.le_refl _) | (intros; apply Or.inl; with_reducible rfl))
        · (repeat' first | exact True.intro | with_reducible rfl | apply And.intro | exact Nat.le_refl _ | (intros; with_reducible rfl) | (intros; assumption) | decide | (intros; exact Nat.le_refl _) | (intros; apply Or.inl; with_reducible rfl))
          · exact gd_inv hF
        · rfl
        · show 1 ≤ 4
          decide
end Go.Proofs.Ytjpnpaboahbncaa.Dc

