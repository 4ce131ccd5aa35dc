/- Functions of integers that all statements reach: what they compute. -/
import Derived.Test.YtimklokgjmdobaaMExec
import Derived.Test.YtimklokgjmdobaaChecked
import Derived.Test.YtimklokgjmdobaaMV
import Derived.Deep.Slices
set_option linter.unusedVariables false
set_option linter.unusedSimpArgs false
namespace Go.Proofs.Ytimklokgjmdobaa.Cn
open Go Go.RowKit Sx
noncomputable section
noncomputable abbrev P : Program := Try.prog
abbrev iv (n : Int) : SV := .c (.iv .i64 n)
/-! ### the remainder, from 0 on -/
def dr (a b : Int) : Int := if b < 1 then 0 else a % b
/-! ### powers, bits -/
def con0 : Con := fun _ => none
def noAnn : FuncId → Ann := fun _ => .nil
def emp : Hp := ⟨[], 0, fun _ => True⟩

/-! power: after j rounds -/
end
end Go.Proofs.Ytimklokgjmdobaa.Cn


/- Bits: the contracts. -/
set_option maxRecDepth 100000
namespace Go.Proofs.Ytimklokgjmdobaa.Cn
open Go Go.RowKit Sx

noncomputable def con3 : Con := con0
theorem con3_ok : ConOK P con3 := ConOK.nil
end Go.Proofs.Ytimklokgjmdobaa.Cn


/- Reading numbers from bytes: what Number and next compute. -/
namespace Go.Proofs.Ytimklokgjmdobaa.Dc
open Go Go.RowKit Sx Cn
noncomputable section
def rd (g : Nat → Int) (len at' : Nat) (k : Int) : Int := if at' < len then g at' % k else 0
def U8 (n : Nat) (g : Nat → Int) : Prop := ∀ e, e < n → 0 ≤ g e ∧ g e ≤ 255
def hC (t sz : TypeId) (len cap at' : Nat) (g : Nat → Int) : HL := [(0, .own t sz [some (.slc 1 (.k 0) (.k 0) 1 (.s len) (.s cap)), none, some (.iv .i64 at'), none]), (1, ints .u8 len g)]
def pC (sz : Nat) : SV := .c (.ptr 0 (.k 0) (.k 0) 0 sz)
def preN (g : Nat → Int) (len at' : Nat) (k : Int) : Prop := U8 len g ∧ 1 ≤ k ∧ at' ≤ 1000000000
def blk97 (len cap at' : Nat) : Blk := .own 84 4 [some (.slc 1 (.k 0) (.k 0) 1 (.s len) (.s cap)), none, some (.iv .i64 at'), none]
def post97 (g : Nat → Int) (len cap at' : Nat) (k : Int) : Out (SV × Hp) := .need (preN g len at' k) (.leaf (iv (rd g len at' k), ⟨[(0, blk97 len cap (at' + 1))], 2, fun _ => True⟩))
def con97 : List SV → Hp → Out (SV × Hp) := fun args H => match args with
  | [.c (.ptr kc _ _ _ _), k] => match find kc H.h with
    | some (.own _ _ cs) => match (cs[0]? : Option (Option SC)), (cs[2]? : Option (Option SC)) with
      | some (some (.slc kb _ _ _ len cap)), some (some c) => match asI (.c c), asI k, rowFn H.h kb 0 with
        | some (_, _, .ofNat at'), some (_, _, k), some g => useT [kc, kb] 2 [pC 4, iv k] [(0, blk97 len.v cap.v at'), (1, ints .u8 len.v g)] (post97 g len.v cap.v at' k) args H
        | _, _, _ => .bad 410
      | _, _ => .bad 411
    | _ => .bad 412
  | _ => .bad 413
def tree97 (g : Nat → Int) (len cap at' : Nat) (k : Int) : Out (SV × Hp) := execF P con0 noAnn 3 3 25 [pC 4, iv k] ⟨[(0, blk97 len cap at'), (1, ints .u8 len g)], 2, fun _ => True⟩
end
end Go.Proofs.Ytimklokgjmdobaa.Dc


/- Functions of integers: the executor's trees, printed by program. -/
set_option maxRecDepth 100000
namespace Go.Proofs.Ytimklokgjmdobaa.Dc
open Go Go.RowKit Sx Cn

theorem tree97_eq (g : Nat → Int) (len cap at' : Nat) (k : Int) : tree97 g len cap at' k =
  Out.need (0 < 1 ∧ 0 < 1)
    (Out.need (0 < 1 ∧ 0 < 1)
    (Out.need (0 < 1 ∧ 0 < 1)
    (Out.need (0 < 1 ∧ 0 < 1)
    (Out.need (0 < 1 ∧ 0 < 1)
    (Out.need (0 < 1 ∧ 0 < 1)
    (Out.br (decide ((↑at' : Int) < (↑len : Int)))
    (Out.need (0 < 1 ∧ 0 < 1)
    (Out.need (0 < 1 ∧ 0 < 1)
    (Out.need (0 < 1 ∧ 0 < 1)
    (Out.need (0 < 1 ∧ 0 < 1)
    (Out.need (0 < 1 ∧ 0 < 1)
    (Out.need (0 < 1 ∧ 0 < 1)
    (Out.need (Int.ofNat 0 ≤ (↑at' : Int) ∧ (↑at' : Int) < (↑len : Int))
    (Out.need (0 < 1 ∧ 0 + (↑at' : Int).toNat < len)
    (Out.need (0 < 1 ∧ 0 + (↑at' : Int).toNat < len)
    (Out.need (k ≠ Int.ofNat 0)
    (Out.leaf (SV.c (SC.iv IntKind.i64 ((IntKind.i64.wrap (g (0 + (↑at' : Int).toNat))).tmod k)), { h := [(0, Blk.own 84 4 [some (SC.slc 1 (NV.k 0) (NV.k 0) 1 (NV.s len) (NV.s cap)), none, some (SC.iv IntKind.i64 (IntKind.i64.wrap ((↑at' : Int) + Int.ofNat 1))), none]), (1, Blk.view 1 (fun x => len) [Col.ci IntKind.u8 fun x e => g e])], nxt := 3221225474, D := fun x => True }))))))))))))
    (Out.leaf (SV.c (SC.ki IntKind.i64 (Int.ofNat 0)), { h := [(0, Blk.own 84 4 [some (SC.slc 1 (NV.k 0) (NV.k 0) 1 (NV.s len) (NV.s cap)), none, some (SC.iv IntKind.i64 (IntKind.i64.wrap ((↑at' : Int) + Int.ofNat 1))), none]), (1, Blk.view 1 (fun x => len) [Col.ci IntKind.u8 fun x e => g e])], nxt := 1342177282, D := fun x => True })))))))) := by kernel_rfl


end Go.Proofs.Ytimklokgjmdobaa.Dc


/- Number: the contract. The pure reading of a configuration. -/
set_option maxRecDepth 100000
namespace Go.Proofs.Ytimklokgjmdobaa.Dc
open Go Go.RowKit Sx Cn

theorem rd_range {g : Nat → Int} {len at' : Nat} {k : Int} (hu : U8 len g) (hk : 1 ≤ k) : 0 ≤ rd g len at' k ∧ rd g len at' k < k := by
  unfold rd
  split
  · exact ⟨Int.emod_nonneg _ (by omega), Int.emod_lt_of_pos _ (by omega)⟩
  · omega
theorem local97 (g : Nat → Int) (len cap at' : Nat) (k : Int) : LocalOK P 25 [pC 4, iv k] [(0, blk97 len cap at'), (1, ints .u8 len g)] 2 (post97 g len cap at' k) :=
  LocalOK.monoR (p := tree97 g len cap at' k) (CallOK.local (execF_ok0 (P := P) (con := con0) (u := 3) ConOK.nil 3) 25 [pC 4, iv k] [(0, blk97 len cap at'), (1, ints .u8 len g)] 2) fun K hK => by
    rw [tree97_eq]
    obtain ⟨⟨hu, hk, hat⟩, hK⟩ := hK
    have hK : K (iv (rd g len at' k), ⟨[(0, blk97 len cap (at' + 1))], 2, fun _ => True⟩) := hK
    have e1 : IntKind.i64.wrap ((at' : Int) + ((1 : Nat) : Int)) = ((at' + 1 : Nat) : Int) := w64 (by omega)
    simp only [Out.holds, Int.ofNat_eq_natCast, Nat.zero_add, Int.toNat_natCast]
    have fin : ∀ (v : SC) (nx : Nat), leSC v (.iv .i64 (rd g len at' k)) → ∃ sv H' L, goR 2 L ⟨[some (.c v)], ⟨[(0, .own 84 4 [some (.slc 1 (.k 0) (.k 0) 1 (.s len) (.s cap)), none, some (.iv .i64 (IntKind.i64.wrap ((at' : Int) + ((1 : Nat) : Int)))), none]), (1, .view 1 (fun _ => len) [.ci .u8 fun _ e => g e])], nx, fun _ => True⟩⟩ ⟨[some sv], H'⟩ ∧ stOK ⟨[some sv], H'⟩ = true ∧ 2 ≤ H'.nxt ∧ K (sv, H') := by
      intro v nx hv
      refine ⟨iv (rd g len at' k), ⟨[(0, blk97 len cap (at' + 1))], 2, fun _ => True⟩, [], ⟨rfl, rfl, ⟨⟨hv, trivial⟩, ⟨rfl, rfl, ⟨⟨rfl, rfl, rfl, rfl, rfl, rfl⟩, ⟨rfl, e1⟩, trivial⟩⟩, trivial⟩, rfl⟩, rfl, Nat.le_refl _, hK⟩
    iterate 6 (refine ⟨by decide, ?_⟩)
    refine ⟨fun a => ?_, fun a => ?_⟩
    · have a := of_decide_eq_true a
      have hlt : at' < len := by omega
      have hg := hu at' hlt
      iterate 6 (refine ⟨by decide, ?_⟩)
      refine ⟨⟨by omega, by omega⟩, ⟨by decide, hlt⟩, ⟨by decide, hlt⟩, by omega, fin _ _ ⟨rfl, ?_⟩⟩
      rw [w64 (by omega), Int.tmod_eq_emod_of_nonneg (by omega), rd, if_pos hlt]
    · have a := of_decide_eq_false a
      refine fin _ _ ⟨rfl, ?_⟩
      rw [rd, if_neg (by omega)]; rfl
theorem con97_ok : ContractOK P 25 con97 := contract_of_use fun args H => by
  unfold con97
  repeat' split
  all_goals first | exact .inl ⟨_, rfl⟩ | exact .inr ⟨_, _, _, _, _, rfl, local97 _ _ _ _ _⟩

/-! ### What a configuration's bytes say -/
section
variable (g : Nat → Int) (len : Nat)
def dW : Int := 1 + rd g len 0 4
def dL : Int := 1 + rd g len 1 4
def dC : Int := 1 + rd g len 2 (min 3 (dL g len))
def dT : Int := 1 + rd g len 3 12
def dD : Int := 1 + rd g len 4 4
def dH : Int := 1 + rd g len 5 4
def dB : Int := 1 + rd g len 6 (dD g len)
def dA : Int := rd g len 7 6
def dP : Int := 1 + rd g len 8 8
def dN : Int := 1 + rd g len 9 4
def iO (p : Nat) : Int := rd g len p 3
def iA (p : Nat) : Int := if iO g len p = 0 then 1 + rd g len (p + 1) 4 else if iO g len p = 1 then rd g len (p + 1) (dN g len) else rd g len (p + 1) 4
def iB (p : Nat) : Int := if iO g len p = 1 then rd g len (p + 2) (dL g len) else 0
def iE (p : Nat) : Nat := if iO g len p = 1 then p + 3 else p + 2
def pI (p : Nat) : Nat → Nat
  | 0 => p + 1
  | k + 1 => iE g len (pI p k)
def cnt (p : Nat) : Nat := (rd g len p 6).toNat
def pS : Nat → Nat
  | 0 => 10
  | i + 1 => pI g len (pS i) (cnt g len (pS i))
def nP : Nat := (dN g len).toNat
def pU : Nat := pS g len (nP g len)
def nU : Nat := cnt g len (pU g len)
def pos3 (e : Nat) : Nat := pU g len + 1 + 3 * e
def cO (i e : Nat) : Int := iO g len (pI g len (pS g len i) e)
def cA (i e : Nat) : Int := iA g len (pI g len (pS g len i) e)
def cB (i e : Nat) : Int := iB g len (pI g len (pS g len i) e)
def uP (e : Nat) : Int := rd g len (pos3 g len e) (dN g len)
def uL (e : Nat) : Int := rd g len (pos3 g len e + 1) (dL g len)
def uD (e : Nat) : Int := rd g len (pos3 g len e + 2) 16
end
noncomputable section
def con6 : Con := Con.add 25 con97 con3
theorem con6_ok : ConOK P con6 := .add con97_ok con3_ok
end
end Go.Proofs.Ytimklokgjmdobaa.Dc


/- ref05.Decode: what is said of its loops. -/
namespace Go.Proofs.Ytimklokgjmdobaa.Dc
open Go Go.RowKit Sx Cn
noncomputable section
def pK (k sz : Nat) : SV := .c (.ptr k (.k 0) (.k 0) 0 sz)
def slK (k sz len cap : Nat) : SC := .slc k (.k 0) (.k 0) sz (.s len) (.s cap)
def gd (i : Nat) (F : Nat → Nat) (e : Nat) : Nat := if e < i then F e else 0
def ivc (x : Int) : Option SC := some (.iv .i64 x)
def noC : Nat → List (Option SC)
  | 0 => []
  | n + 1 => none :: noC n
section
variable (g : Nat → Int) (len : Nat)
def cfg (c9 c10 : SC) : Blk := .own 26 11 [ivc (dW g len), ivc (dL g len), ivc (dC g len), ivc (dT g len), ivc (dD g len), ivc (dH g len), ivc (dB g len), ivc (dA g len), ivc (dP g len), some c9, some c10]
def lenP (e : Nat) : Nat := cnt g len (pS g len e)
def colsI (i : Nat) : List Col := [.ci .i64 fun _ e => cO g len i e, .ci .i64 fun _ e => cA g len i e, .ci .i64 fun _ e => cB g len i e]
def colsF : List Col := [.ci .i64 fun i e => cO g len i e, .ci .i64 fun i e => cA g len i e, .ci .i64 fun i e => cB g len i e]
def colsU : List Col := [.ci .i64 fun _ e => uP g len e, .ci .i64 fun _ e => uL g len e, .ci .i64 fun _ e => uD g len e]
def famP (i : Nat) (FC : Nat → Nat) : Blk := .fam true 88 (gd i FC) (gd i (lenP g len)) (colsF g len)
def rowP (kF i rc : Nat) (FC : Nat → Nat) : Blk := .row 86 rc i [.cs kF 3 (fun _ e => e) (fun _ e => lenP g len e) (fun _ e => FC e)]
def blkD (kb cap at' : Nat) : Blk := .own 84 4 [some (.slc kb (.k 0) (.k 0) 1 (.s len) (.s cap)), none, some (.iv .i64 at'), none]
def hD (cap at' i rc : Nat) (FC : Nat → Nat) (c10 : SC) : HL := [(0, ints .u8 len g), (1, .own 26 11 (noC 11)), (2, blkD len 0 cap at'), (3, cfg g len (slK 5 1 i rc) c10), (4, famP g len i FC), (5, rowP g len 4 i rc FC)]
def tD : List (Nat × SV) := [(2, pK 1 11), (3, pK 2 4), (4, pK 3 11), (5, iv (dN g len))]
def Jo (cap i : Nat) (FC : Nat → Nat) (rc : Nat) : St := ⟨tms 128 ((6, iv i) :: tD g len), ⟨hD g len cap (pS g len i) i rc FC .nils, 6, fun _ => True⟩⟩
def Io (i : Nat) (FC : Nat → Nat) (rc : Nat) : Prop := U8 len g ∧ (i : Int) ≤ dN g len ∧ (∀ e, e < i → lenP g len e ≤ FC e) ∧ i ≤ rc
def Ao (cap : Nat) : Out (Ex × St) := .any (Nat → Nat) (fun FC => ∀ e, e < nP g len → lenP g len e ≤ FC e) fun FC => .any Nat (fun rc => nP g len ≤ rc) fun rc => .leaf (.exit 0, ⟨tms 128 (tD g len), ⟨hD g len cap (pU g len) (nP g len) rc FC .nils, 6, fun _ => True⟩⟩)
def Ji (cap i : Nat) (FC : Nat → Nat) (rc k c7 : Nat) : St := ⟨tms 128 ((8, iv ((lenP g len i : Nat) - (k : Nat) : Int)) :: (7, .c (slK 6 3 k c7)) :: (6, iv i) :: tD g len), ⟨(6, .row 88 c7 k (colsI g len i)) :: hD g len cap (pI g len (pS g len i) k) i rc FC .nils, 7, fun _ => True⟩⟩
def Ii (i k c7 : Nat) : Prop := U8 len g ∧ (i : Int) < dN g len ∧ k ≤ lenP g len i ∧ k ≤ c7
def Ai (cap i : Nat) (FC : Nat → Nat) (rc : Nat) : Out (Ex × St) := .any Nat (fun c7 => lenP g len i ≤ c7) fun c7 => .leaf (.exit 2, ⟨tms 128 ((7, .c (slK 6 3 (lenP g len i) c7)) :: (6, iv i) :: tD g len), ⟨(6, .row 88 c7 (lenP g len i) (colsI g len i)) :: hD g len cap (pS g len (i + 1)) i rc FC .nils, 7, fun _ => True⟩⟩)
def annI (cap i : Nat) (FC : Nat → Nat) (rc : Nat) : Ann := .ghost (nilTmpG 7 88 3 (colsI g len i)) (loopA (fun x : Nat × Nat => Ji g len cap i FC rc x.1 x.2) (fun x => Ii g len i x.1 x.2) 6 (0, 0) [tkey 7] (Ai g len cap i FC rc))
def roundI (cap i : Nat) (FC : Nat → Nat) (rc k c7 : Nat) : Out (Ex × St) := roundC P con6 (loopIn2 P 15 0 0) 3 3 6 (patOf (Ji g len cap i FC rc k c7) 128 [2, 3, 4, 5, 6, 7]) (Ji g len cap i FC rc k c7)
def roundO (cap i : Nat) (FC : Nat → Nat) (rc : Nat) : Out (Ex × St) := roundC P con6 (loopIn P 15 0) 3 3 4 (patOf (Jo g len cap i FC rc) 128 [2, 3, 4, 5]) (Jo g len cap i FC rc) [(13, joinG (ckey (tkey 4) 9) 0)] [annI g len cap i FC rc]
def annO (cap : Nat) : Ann := .ghost (newFamG 88 (colsF g len)) (.ghost (nilCellG 3 9 86 1 [.cs 4 3 (fun _ e => e) (fun _ e => lenP g len e) (fun _ e => 0)]) (loopA (fun x : Nat × (Nat → Nat) × Nat => Jo g len cap x.1 x.2.1 x.2.2) (fun x => Io g len x.1 x.2.1 x.2.2) 4 (0, fun _ => 0, 0) [fun _ => 4, ckey (tkey 4) 9] (Ao g len cap)))
def Js (cap rc : Nat) (FC : Nat → Nat) (k c10 : Nat) : St := ⟨tms 128 ((10, iv ((nU g len : Nat) - (k : Nat) : Int)) :: tD g len), ⟨(6, .row 90 c10 k (colsU g len)) :: hD g len cap (pos3 g len k) (nP g len) rc FC (slK 6 3 k c10), 7, fun _ => True⟩⟩
def Is (rc : Nat) (FC : Nat → Nat) (k c10 : Nat) : Prop := U8 len g ∧ k ≤ nU g len ∧ k ≤ c10 ∧ (∀ e, e < nP g len → lenP g len e ≤ FC e) ∧ nP g len ≤ rc
def As (cap rc : Nat) (FC : Nat → Nat) : Out (Ex × St) := .any Nat (fun c10 => nU g len ≤ c10) fun c10 => .leaf (.exit 5, ⟨tms 128 (tD g len), ⟨(6, .row 90 c10 (nU g len) (colsU g len)) :: hD g len cap (pos3 g len (nU g len)) (nP g len) rc FC (slK 6 3 (nU g len) c10), 7, fun _ => True⟩⟩)
def roundS (cap rc : Nat) (FC : Nat → Nat) (k c10 : Nat) : Out (Ex × St) := roundC P con6 (loopIn P 15 1) 3 3 6 (patOf (Js g len cap rc FC k c10) 128 [2, 3, 4, 5]) (Js g len cap rc FC k c10)
def annS1 (cap rc : Nat) (FC : Nat → Nat) : Ann := loopA (fun x : Nat × Nat => Js g len cap rc FC x.1 x.2) (fun x => Is g len rc FC x.1 x.2) 6 (0, 0) [ckey (tkey 4) 10] (As g len cap rc FC)
def pickS (s : St) : Option (Nat × (Nat → Nat)) := match find 5 s.H.h with
  | some (.row _ rc _ [.cs _ _ _ _ c]) => some (rc, fun e => c 0 e)
  | _ => none
def annS (cap : Nat) : Ann := .ghost (nilCellG 3 10 90 3 (colsU g len)) (pickA pickS fun y => annS1 g len cap y.1 y.2)
def main56 (cap : Nat) : Out (SV × Hp) := execA P con6 15 [annO g len cap, annS g len cap] 3 [] 3 15 [.c (slK 0 1 len cap)] ⟨[(0, ints .u8 len g)], 1, fun _ => True⟩
end
end
end Go.Proofs.Ytimklokgjmdobaa.Dc


/- ref05.Decode: the executor's trees, printed by program. -/
set_option maxRecDepth 100000
namespace Go.Proofs.Ytimklokgjmdobaa.Dc
open Go Go.RowKit Sx Cn

theorem roundI_eq (g : Nat → Int) (len cap i : Nat) (FC : Nat → Nat) (rc k c7 : Nat) : roundI g len cap i FC rc k c7 =
  Out.br (decide ((↑(lenP g len i) : Int) - (↑k : Int) > Int.ofNat 0))
    (Out.need (((2 = 2 ∧ 0 = 0 ∧ 0 = 0 ∧ 0 = 0 ∧ 4 = 4) ∧ (IntKind.i64 = IntKind.i64 ∧ Int.ofNat 3 = Int.ofNat 3) ∧ True) ∧ (84 = 84 ∧ 4 = 4 ∧ (0 = 0 ∧ 0 = 0 ∧ 0 = 0 ∧ 1 = 1 ∧ len = len ∧ cap = cap) ∧ (IntKind.i64 = IntKind.i64 ∧ (↑(pI g len (pS g len i) k) : Int) = (↑(pI g len (pS g len i) k) : Int)) ∧ True) ∧ (1 ≤ 1 ∧ (∀ (i : Nat), i < 1 → len ≤ len) ∧ (IntKind.u8 = IntKind.u8 ∧ ∀ (i e : Nat), i < 1 ∧ e < len → g e = g e) ∧ True) ∧ True)
    (Out.need (preN (fun e => g e) len (pI g len (pS g len i) k) (Int.ofNat 3))
    (Out.br (rd (fun e => g e) len (pI g len (pS g len i) k) (Int.ofNat 3) == Int.ofNat 0)
    (Out.need (((2 = 2 ∧ 0 = 0 ∧ 0 = 0 ∧ 0 = 0 ∧ 4 = 4) ∧ (IntKind.i64 = IntKind.i64 ∧ Int.ofNat 4 = Int.ofNat 4) ∧ True) ∧ (84 = 84 ∧ 4 = 4 ∧ (0 = 0 ∧ 0 = 0 ∧ 0 = 0 ∧ 1 = 1 ∧ len = len ∧ cap = cap) ∧ (IntKind.i64 = IntKind.i64 ∧ (↑(pI g len (pS g len i) k + 1) : Int) = (↑(pI g len (pS g len i) k + 1) : Int)) ∧ True) ∧ (1 ≤ 1 ∧ (∀ (i : Nat), i < 1 → len ≤ len) ∧ (IntKind.u8 = IntKind.u8 ∧ ∀ (i e : Nat), i < 1 ∧ e < len → g e = g e) ∧ True) ∧ True)
    (Out.need (preN (fun e => g e) len (pI g len (pS g len i) k + 1) (Int.ofNat 4))
    (Out.need (0 < 1)
    (Out.need (0 < 1)
    (Out.need (0 < 1)
    (Out.need (k ≤ k ∧ c7 = c7)
    (Out.need (k + 1 ≤ 9223372036854775807 ∧ (k + 1) * 24 ≤ 140737488355328)
    (Out.ge (k + 1) fun x => Out.leaf (Ex.normal, { tmps := tms 128 [(2, (SV.c (SC.ptr 1 (NV.k 0) (NV.k 0) 0 11))), (3, (SV.c (SC.ptr 2 (NV.k 0) (NV.k 0) 0 4))), (4, (SV.c (SC.ptr 3 (NV.k 0) (NV.k 0) 0 11))), (5, (SV.c (SC.iv IntKind.i64 (dN g len)))), (6, (SV.c (SC.iv IntKind.i64 (↑i : Int)))), (7, (SV.c (SC.slc 9 (NV.k 0) (NV.k 0) 3 (NV.s (k + 1)) (NV.s x)))), (8, (SV.c (SC.iv IntKind.i64 (IntKind.i64.wrap ((↑(lenP g len i) : Int) - (↑k : Int) - Int.ofNat 1)))))], H := { h := [(9, Blk.row 88 x (k + 1) [Col.ci IntKind.i64 fun i' j => if i' = 0 ∧ j = k then rd (fun e => g e) len (pI g len (pS g len i) k) (Int.ofNat 3) else cO g len i j, Col.ci IntKind.i64 fun i' j => if i' = 0 ∧ j = k then IntKind.i64.wrap (Int.ofNat 1 + rd (fun e => g e) len (pI g len (pS g len i) k + 1) (Int.ofNat 4)) else cA g len i j, Col.ci IntKind.i64 fun i' j => if i' = 0 ∧ j = k then Int.ofNat 0 else cB g len i j]), (2, Blk.own 84 4 [some (SC.slc 0 (NV.k 0) (NV.k 0) 1 (NV.s len) (NV.s cap)), none, some (SC.iv IntKind.i64 (↑(pI g len (pS g len i) k + 1 + 1) : Int)), none]), (0, Blk.view 1 (fun x => len) [Col.ci IntKind.u8 fun x e => g e]), (1, Blk.own 26 11 [none, none, none, none, none, none, none, none, none, none, none]), (3, Blk.own 26 11 [some (SC.iv IntKind.i64 (dW g len)), some (SC.iv IntKind.i64 (dL g len)), some (SC.iv IntKind.i64 (dC g len)), some (SC.iv IntKind.i64 (dT g len)), some (SC.iv IntKind.i64 (dD g len)), some (SC.iv IntKind.i64 (dH g len)), some (SC.iv IntKind.i64 (dB g len)), some (SC.iv IntKind.i64 (dA g len)), some (SC.iv IntKind.i64 (dP g len)), some (SC.slc 5 (NV.k 0) (NV.k 0) 1 (NV.s i) (NV.s rc)), some SC.nils]), (4, Blk.fam true 88 (gd i FC) (gd i (lenP g len)) [Col.ci IntKind.i64 fun i e => cO g len i e, Col.ci IntKind.i64 fun i e => cA g len i e, Col.ci IntKind.i64 fun i e => cB g len i e]), (5, Blk.row 86 rc i [Col.cs 4 3 (fun x e => e) (fun x e => lenP g len e) fun x e => FC e])], nxt := 10, D := fun x => True } })))))))))
    (Out.br (rd (fun e => g e) len (pI g len (pS g len i) k) (Int.ofNat 3) == Int.ofNat 1)
    (Out.need (((2 = 2 ∧ 0 = 0 ∧ 0 = 0 ∧ 0 = 0 ∧ 4 = 4) ∧ (IntKind.i64 = IntKind.i64 ∧ dN g len = dN g len) ∧ True) ∧ (84 = 84 ∧ 4 = 4 ∧ (0 = 0 ∧ 0 = 0 ∧ 0 = 0 ∧ 1 = 1 ∧ len = len ∧ cap = cap) ∧ (IntKind.i64 = IntKind.i64 ∧ (↑(pI g len (pS g len i) k + 1) : Int) = (↑(pI g len (pS g len i) k + 1) : Int)) ∧ True) ∧ (1 ≤ 1 ∧ (∀ (i : Nat), i < 1 → len ≤ len) ∧ (IntKind.u8 = IntKind.u8 ∧ ∀ (i e : Nat), i < 1 ∧ e < len → g e = g e) ∧ True) ∧ True)
    (Out.need (preN (fun e => g e) len (pI g len (pS g len i) k + 1) (dN g len))
    (Out.need (((2 = 2 ∧ 0 = 0 ∧ 0 = 0 ∧ 0 = 0 ∧ 4 = 4) ∧ (IntKind.i64 = IntKind.i64 ∧ dL g len = dL g len) ∧ True) ∧ (84 = 84 ∧ 4 = 4 ∧ (0 = 0 ∧ 0 = 0 ∧ 0 = 0 ∧ 1 = 1 ∧ len = len ∧ cap = cap) ∧ (IntKind.i64 = IntKind.i64 ∧ (↑(pI g len (pS g len i) k + 1 + 1) : Int) = (↑(pI g len (pS g len i) k + 1 + 1) : Int)) ∧ True) ∧ (1 ≤ 1 ∧ (∀ (i : Nat), i < 1 → len ≤ len) ∧ (IntKind.u8 = IntKind.u8 ∧ ∀ (i e : Nat), i < 1 ∧ e < len → g e = g e) ∧ True) ∧ True)
    (Out.need (preN (fun e => g e) len (pI g len (pS g len i) k + 1 + 1) (dL g len))
    (Out.need (0 < 1)
    (Out.need (0 < 1)
    (Out.need (0 < 1)
    (Out.need (k ≤ k ∧ c7 = c7)
    (Out.need (k + 1 ≤ 9223372036854775807 ∧ (k + 1) * 24 ≤ 140737488355328)
    (Out.ge (k + 1) fun x => Out.leaf (Ex.normal, { tmps := tms 128 [(2, (SV.c (SC.ptr 1 (NV.k 0) (NV.k 0) 0 11))), (3, (SV.c (SC.ptr 2 (NV.k 0) (NV.k 0) 0 4))), (4, (SV.c (SC.ptr 3 (NV.k 0) (NV.k 0) 0 11))), (5, (SV.c (SC.iv IntKind.i64 (dN g len)))), (6, (SV.c (SC.iv IntKind.i64 (↑i : Int)))), (7, (SV.c (SC.slc 9 (NV.k 0) (NV.k 0) 3 (NV.s (k + 1)) (NV.s x)))), (8, (SV.c (SC.iv IntKind.i64 (IntKind.i64.wrap ((↑(lenP g len i) : Int) - (↑k : Int) - Int.ofNat 1)))))], H := { h := [(9, Blk.row 88 x (k + 1) [Col.ci IntKind.i64 fun i' j => if i' = 0 ∧ j = k then rd (fun e => g e) len (pI g len (pS g len i) k) (Int.ofNat 3) else cO g len i j, Col.ci IntKind.i64 fun i' j => if i' = 0 ∧ j = k then rd (fun e => g e) len (pI g len (pS g len i) k + 1) (dN g len) else cA g len i j, Col.ci IntKind.i64 fun i' j => if i' = 0 ∧ j = k then rd (fun e => g e) len (pI g len (pS g len i) k + 1 + 1) (dL g len) else cB g len i j]), (2, Blk.own 84 4 [some (SC.slc 0 (NV.k 0) (NV.k 0) 1 (NV.s len) (NV.s cap)), none, some (SC.iv IntKind.i64 (↑(pI g len (pS g len i) k + 1 + 1 + 1) : Int)), none]), (0, Blk.view 1 (fun x => len) [Col.ci IntKind.u8 fun x e => g e]), (1, Blk.own 26 11 [none, none, none, none, none, none, none, none, none, none, none]), (3, Blk.own 26 11 [some (SC.iv IntKind.i64 (dW g len)), some (SC.iv IntKind.i64 (dL g len)), some (SC.iv IntKind.i64 (dC g len)), some (SC.iv IntKind.i64 (dT g len)), some (SC.iv IntKind.i64 (dD g len)), some (SC.iv IntKind.i64 (dH g len)), some (SC.iv IntKind.i64 (dB g len)), some (SC.iv IntKind.i64 (dA g len)), some (SC.iv IntKind.i64 (dP g len)), some (SC.slc 5 (NV.k 0) (NV.k 0) 1 (NV.s i) (NV.s rc)), some SC.nils]), (4, Blk.fam true 88 (gd i FC) (gd i (lenP g len)) [Col.ci IntKind.i64 fun i e => cO g len i e, Col.ci IntKind.i64 fun i e => cA g len i e, Col.ci IntKind.i64 fun i e => cB g len i e]), (5, Blk.row 86 rc i [Col.cs 4 3 (fun x e => e) (fun x e => lenP g len e) fun x e => FC e])], nxt := 10, D := fun x => True } })))))))))))
    (Out.need (((2 = 2 ∧ 0 = 0 ∧ 0 = 0 ∧ 0 = 0 ∧ 4 = 4) ∧ (IntKind.i64 = IntKind.i64 ∧ Int.ofNat 4 = Int.ofNat 4) ∧ True) ∧ (84 = 84 ∧ 4 = 4 ∧ (0 = 0 ∧ 0 = 0 ∧ 0 = 0 ∧ 1 = 1 ∧ len = len ∧ cap = cap) ∧ (IntKind.i64 = IntKind.i64 ∧ (↑(pI g len (pS g len i) k + 1) : Int) = (↑(pI g len (pS g len i) k + 1) : Int)) ∧ True) ∧ (1 ≤ 1 ∧ (∀ (i : Nat), i < 1 → len ≤ len) ∧ (IntKind.u8 = IntKind.u8 ∧ ∀ (i e : Nat), i < 1 ∧ e < len → g e = g e) ∧ True) ∧ True)
    (Out.need (preN (fun e => g e) len (pI g len (pS g len i) k + 1) (Int.ofNat 4))
    (Out.need (0 < 1)
    (Out.need (0 < 1)
    (Out.need (0 < 1)
    (Out.need (k ≤ k ∧ c7 = c7)
    (Out.need (k + 1 ≤ 9223372036854775807 ∧ (k + 1) * 24 ≤ 140737488355328)
    (Out.ge (k + 1) fun x => Out.leaf (Ex.normal, { tmps := tms 128 [(2, (SV.c (SC.ptr 1 (NV.k 0) (NV.k 0) 0 11))), (3, (SV.c (SC.ptr 2 (NV.k 0) (NV.k 0) 0 4))), (4, (SV.c (SC.ptr 3 (NV.k 0) (NV.k 0) 0 11))), (5, (SV.c (SC.iv IntKind.i64 (dN g len)))), (6, (SV.c (SC.iv IntKind.i64 (↑i : Int)))), (7, (SV.c (SC.slc 9 (NV.k 0) (NV.k 0) 3 (NV.s (k + 1)) (NV.s x)))), (8, (SV.c (SC.iv IntKind.i64 (IntKind.i64.wrap ((↑(lenP g len i) : Int) - (↑k : Int) - Int.ofNat 1)))))], H := { h := [(9, Blk.row 88 x (k + 1) [Col.ci IntKind.i64 fun i' j => if i' = 0 ∧ j = k then rd (fun e => g e) len (pI g len (pS g len i) k) (Int.ofNat 3) else cO g len i j, Col.ci IntKind.i64 fun i' j => if i' = 0 ∧ j = k then rd (fun e => g e) len (pI g len (pS g len i) k + 1) (Int.ofNat 4) else cA g len i j, Col.ci IntKind.i64 fun i' j => if i' = 0 ∧ j = k then Int.ofNat 0 else cB g len i j]), (2, Blk.own 84 4 [some (SC.slc 0 (NV.k 0) (NV.k 0) 1 (NV.s len) (NV.s cap)), none, some (SC.iv IntKind.i64 (↑(pI g len (pS g len i) k + 1 + 1) : Int)), none]), (0, Blk.view 1 (fun x => len) [Col.ci IntKind.u8 fun x e => g e]), (1, Blk.own 26 11 [none, none, none, none, none, none, none, none, none, none, none]), (3, Blk.own 26 11 [some (SC.iv IntKind.i64 (dW g len)), some (SC.iv IntKind.i64 (dL g len)), some (SC.iv IntKind.i64 (dC g len)), some (SC.iv IntKind.i64 (dT g len)), some (SC.iv IntKind.i64 (dD g len)), some (SC.iv IntKind.i64 (dH g len)), some (SC.iv IntKind.i64 (dB g len)), some (SC.iv IntKind.i64 (dA g len)), some (SC.iv IntKind.i64 (dP g len)), some (SC.slc 5 (NV.k 0) (NV.k 0) 1 (NV.s i) (NV.s rc)), some SC.nils]), (4, Blk.fam true 88 (gd i FC) (gd i (lenP g len)) [Col.ci IntKind.i64 fun i e => cO g len i e, Col.ci IntKind.i64 fun i e => cA g len i e, Col.ci IntKind.i64 fun i e => cB g len i e]), (5, Blk.row 86 rc i [Col.cs 4 3 (fun x e => e) (fun x e => lenP g len e) fun x e => FC e])], nxt := 10, D := fun x => True } })))))))))))))
    (Out.leaf (Ex.exit 2, { tmps := tms 128 [(2, (SV.c (SC.ptr 1 (NV.k 0) (NV.k 0) 0 11))), (3, (SV.c (SC.ptr 2 (NV.k 0) (NV.k 0) 0 4))), (4, (SV.c (SC.ptr 3 (NV.k 0) (NV.k 0) 0 11))), (5, (SV.c (SC.iv IntKind.i64 (dN g len)))), (6, (SV.c (SC.iv IntKind.i64 (↑i : Int)))), (7, (SV.c (SC.slc 6 (NV.k 0) (NV.k 0) 3 (NV.s k) (NV.s c7))))], H := { h := [(6, Blk.row 88 c7 k [Col.ci IntKind.i64 fun x e => cO g len i e, Col.ci IntKind.i64 fun x e => cA g len i e, Col.ci IntKind.i64 fun x e => cB g len i e]), (0, Blk.view 1 (fun x => len) [Col.ci IntKind.u8 fun x e => g e]), (1, Blk.own 26 11 [none, none, none, none, none, none, none, none, none, none, none]), (2, Blk.own 84 4 [some (SC.slc 0 (NV.k 0) (NV.k 0) 1 (NV.s len) (NV.s cap)), none, some (SC.iv IntKind.i64 (↑(pI g len (pS g len i) k) : Int)), none]), (3, Blk.own 26 11 [some (SC.iv IntKind.i64 (dW g len)), some (SC.iv IntKind.i64 (dL g len)), some (SC.iv IntKind.i64 (dC g len)), some (SC.iv IntKind.i64 (dT g len)), some (SC.iv IntKind.i64 (dD g len)), some (SC.iv IntKind.i64 (dH g len)), some (SC.iv IntKind.i64 (dB g len)), some (SC.iv IntKind.i64 (dA g len)), some (SC.iv IntKind.i64 (dP g len)), some (SC.slc 5 (NV.k 0) (NV.k 0) 1 (NV.s i) (NV.s rc)), some SC.nils]), (4, Blk.fam true 88 (gd i FC) (gd i (lenP g len)) [Col.ci IntKind.i64 fun i e => cO g len i e, Col.ci IntKind.i64 fun i e => cA g len i e, Col.ci IntKind.i64 fun i e => cB g len i e]), (5, Blk.row 86 rc i [Col.cs 4 3 (fun x e => e) (fun x e => lenP g len e) fun x e => FC e])], nxt := 7, D := fun x => True } })) := by kernel_rfl

theorem roundO_eq (g : Nat → Int) (len cap i : Nat) (FC : Nat → Nat) (rc : Nat) : roundO g len cap i FC rc =
  Out.br (decide ((↑i : Int) < dN g len))
    (Out.need (((2 = 2 ∧ 0 = 0 ∧ 0 = 0 ∧ 0 = 0 ∧ 4 = 4) ∧ (IntKind.i64 = IntKind.i64 ∧ Int.ofNat 6 = Int.ofNat 6) ∧ True) ∧ (84 = 84 ∧ 4 = 4 ∧ (0 = 0 ∧ 0 = 0 ∧ 0 = 0 ∧ 1 = 1 ∧ len = len ∧ cap = cap) ∧ (IntKind.i64 = IntKind.i64 ∧ (↑(pS g len i) : Int) = (↑(pS g len i) : Int)) ∧ True) ∧ (1 ≤ 1 ∧ (∀ (i : Nat), i < 1 → len ≤ len) ∧ (IntKind.u8 = IntKind.u8 ∧ ∀ (i e : Nat), i < 1 ∧ e < len → g e = g e) ∧ True) ∧ True)
    (Out.need (preN (fun e => g e) len (pS g len i) (Int.ofNat 6))
    (Out.need (Ii g len i 0 0 ∧ (∀ (k : Nat), True) ∧ (∀ (k : Nat), True) ∧ ((1 = 1 ∧ 0 = 0 ∧ 0 = 0 ∧ 0 = 0 ∧ 11 = 11) ∧ (2 = 2 ∧ 0 = 0 ∧ 0 = 0 ∧ 0 = 0 ∧ 4 = 4) ∧ (3 = 3 ∧ 0 = 0 ∧ 0 = 0 ∧ 0 = 0 ∧ 11 = 11) ∧ (IntKind.i64 = IntKind.i64 ∧ dN g len = dN g len) ∧ (IntKind.i64 = IntKind.i64 ∧ (↑i : Int) = (↑i : Int)) ∧ (6 = 6 ∧ 0 = 0 ∧ 0 = 0 ∧ 3 = 3 ∧ 0 = 0 ∧ 0 = 0) ∧ (IntKind.i64 = IntKind.i64 ∧ rd (fun e => g e) len (pS g len i) (Int.ofNat 6) = (↑(lenP g len i) : Int) - (↑0 : Int)) ∧ True) ∧ (88 = 88 ∧ 0 = 0 ∧ 0 ≤ 0 ∧ (IntKind.i64 = IntKind.i64 ∧ ∀ (i_1 e : Nat), i_1 = 0 ∧ e < 0 → cO g len i e = cO g len i e) ∧ (IntKind.i64 = IntKind.i64 ∧ ∀ (i_1 e : Nat), i_1 = 0 ∧ e < 0 → cA g len i e = cA g len i e) ∧ (IntKind.i64 = IntKind.i64 ∧ ∀ (i_1 e : Nat), i_1 = 0 ∧ e < 0 → cB g len i e = cB g len i e) ∧ True) ∧ (1 ≤ 1 ∧ (∀ (i : Nat), i < 1 → len ≤ len) ∧ (IntKind.u8 = IntKind.u8 ∧ ∀ (i e : Nat), i < 1 ∧ e < len → g e = g e) ∧ True) ∧ (26 = 26 ∧ 11 = 11 ∧ True) ∧ (84 = 84 ∧ 4 = 4 ∧ (0 = 0 ∧ 0 = 0 ∧ 0 = 0 ∧ 1 = 1 ∧ len = len ∧ cap = cap) ∧ (IntKind.i64 = IntKind.i64 ∧ (↑(pS g len i + 1) : Int) = (↑(pI g len (pS g len i) 0) : Int)) ∧ True) ∧ (26 = 26 ∧ 11 = 11 ∧ (IntKind.i64 = IntKind.i64 ∧ dW g len = dW g len) ∧ (IntKind.i64 = IntKind.i64 ∧ dL g len = dL g len) ∧ (IntKind.i64 = IntKind.i64 ∧ dC g len = dC g len) ∧ (IntKind.i64 = IntKind.i64 ∧ dT g len = dT g len) ∧ (IntKind.i64 = IntKind.i64 ∧ dD g len = dD g len) ∧ (IntKind.i64 = IntKind.i64 ∧ dH g len = dH g len) ∧ (IntKind.i64 = IntKind.i64 ∧ dB g len = dB g len) ∧ (IntKind.i64 = IntKind.i64 ∧ dA g len = dA g len) ∧ (IntKind.i64 = IntKind.i64 ∧ dP g len = dP g len) ∧ (5 = 5 ∧ 0 = 0 ∧ 0 = 0 ∧ 1 = 1 ∧ i = i ∧ rc = rc) ∧ True ∧ True) ∧ ((true = false → true = false) ∧ 88 = 88 ∧ (∀ (i_1 : Nat), gd i FC i_1 = gd i FC i_1 ∨ gd i FC i_1 = 0) ∧ (∀ (i_1 : Nat), gd i (lenP g len) i_1 ≤ gd i FC i_1 ∧ gd i (lenP g len) i_1 ≤ gd i (lenP g len) i_1) ∧ (IntKind.i64 = IntKind.i64 ∧ ∀ (i_1 e : Nat), e < gd i (lenP g len) i_1 → cO g len i_1 e = cO g len i_1 e) ∧ (IntKind.i64 = IntKind.i64 ∧ ∀ (i_1 e : Nat), e < gd i (lenP g len) i_1 → cA g len i_1 e = cA g len i_1 e) ∧ (IntKind.i64 = IntKind.i64 ∧ ∀ (i_1 e : Nat), e < gd i (lenP g len) i_1 → cB g len i_1 e = cB g len i_1 e) ∧ True) ∧ (86 = 86 ∧ rc = rc ∧ i ≤ i ∧ (4 = 4 ∧ 3 = 3 ∧ (∀ (i_1 e : Nat), i_1 = 0 ∧ e < i → e = e) ∧ (∀ (i_1 e : Nat), i_1 = 0 ∧ e < i → lenP g len e = lenP g len e) ∧ ∀ (i_1 e : Nat), i_1 = 0 ∧ e < i → FC e = FC e) ∧ True) ∧ True)
    (Out.any Nat (fun c7 => lenP g len i ≤ c7) fun x => Out.need (0 < 1)
    (Out.need (i ≤ i ∧ rc = rc)
    (Out.need (i + 1 ≤ 9223372036854775807 ∧ (i + 1) * 24 ≤ 140737488355328)
    (Out.ge (i + 1) fun x_1 => Out.need (True ∧ ∀ (i_1 e : Nat), i_1 = 0 ∧ e < i + 1 → ¬(i_1 = 0 ∧ e = i) → e ≠ i)
    (Out.leaf (Ex.normal, { tmps := tms 128 [(2, (SV.c (SC.ptr 1 (NV.k 0) (NV.k 0) 0 11))), (3, (SV.c (SC.ptr 2 (NV.k 0) (NV.k 0) 0 4))), (4, (SV.c (SC.ptr 3 (NV.k 0) (NV.k 0) 0 11))), (5, (SV.c (SC.iv IntKind.i64 (dN g len)))), (6, (SV.c (SC.iv IntKind.i64 (IntKind.i64.wrap ((↑i : Int) + Int.ofNat 1)))))], H := { h := [(9, Blk.fam true 88 (fun i_1 => if i_1 = i then x else gd i FC i_1) (fun i_1 => if i_1 = i then lenP g len i else gd i (lenP g len) i_1) [Col.ci IntKind.i64 fun i_1 e => if i_1 = i then cO g len i e else cO g len i_1 e, Col.ci IntKind.i64 fun i_1 e => if i_1 = i then cA g len i e else cA g len i_1 e, Col.ci IntKind.i64 fun i_1 e => if i_1 = i then cB g len i e else cB g len i_1 e]), (8, Blk.row 86 x_1 (i + 1) [Col.cs 9 3 (fun x e => e) (fun i' j => if i' = 0 ∧ j = i then lenP g len i else lenP g len j) fun i' j => if i' = 0 ∧ j = i then x else FC j]), (0, Blk.view 1 (fun x => len) [Col.ci IntKind.u8 fun x e => g e]), (1, Blk.own 26 11 [none, none, none, none, none, none, none, none, none, none, none]), (2, Blk.own 84 4 [some (SC.slc 0 (NV.k 0) (NV.k 0) 1 (NV.s len) (NV.s cap)), none, some (SC.iv IntKind.i64 (↑(pS g len (i + 1)) : Int)), none]), (3, Blk.own 26 11 [some (SC.iv IntKind.i64 (dW g len)), some (SC.iv IntKind.i64 (dL g len)), some (SC.iv IntKind.i64 (dC g len)), some (SC.iv IntKind.i64 (dT g len)), some (SC.iv IntKind.i64 (dD g len)), some (SC.iv IntKind.i64 (dH g len)), some (SC.iv IntKind.i64 (dB g len)), some (SC.iv IntKind.i64 (dA g len)), some (SC.iv IntKind.i64 (dP g len)), some (SC.slc 8 (NV.k 0) (NV.k 0) 1 (NV.s (i + 1)) (NV.s x_1)), some SC.nils])], nxt := 10, D := fun x => True } })))))))))
    (Out.leaf (Ex.exit 0, { tmps := tms 128 [(2, (SV.c (SC.ptr 1 (NV.k 0) (NV.k 0) 0 11))), (3, (SV.c (SC.ptr 2 (NV.k 0) (NV.k 0) 0 4))), (4, (SV.c (SC.ptr 3 (NV.k 0) (NV.k 0) 0 11))), (5, (SV.c (SC.iv IntKind.i64 (dN g len))))], H := { h := [(0, Blk.view 1 (fun x => len) [Col.ci IntKind.u8 fun x e => g e]), (1, Blk.own 26 11 [none, none, none, none, none, none, none, none, none, none, none]), (2, Blk.own 84 4 [some (SC.slc 0 (NV.k 0) (NV.k 0) 1 (NV.s len) (NV.s cap)), none, some (SC.iv IntKind.i64 (↑(pS g len i) : Int)), none]), (3, Blk.own 26 11 [some (SC.iv IntKind.i64 (dW g len)), some (SC.iv IntKind.i64 (dL g len)), some (SC.iv IntKind.i64 (dC g len)), some (SC.iv IntKind.i64 (dT g len)), some (SC.iv IntKind.i64 (dD g len)), some (SC.iv IntKind.i64 (dH g len)), some (SC.iv IntKind.i64 (dB g len)), some (SC.iv IntKind.i64 (dA g len)), some (SC.iv IntKind.i64 (dP g len)), some (SC.slc 5 (NV.k 0) (NV.k 0) 1 (NV.s i) (NV.s rc)), some SC.nils]), (4, Blk.fam true 88 (gd i FC) (gd i (lenP g len)) [Col.ci IntKind.i64 fun i e => cO g len i e, Col.ci IntKind.i64 fun i e => cA g len i e, Col.ci IntKind.i64 fun i e => cB g len i e]), (5, Blk.row 86 rc i [Col.cs 4 3 (fun x e => e) (fun x e => lenP g len e) fun x e => FC e])], nxt := 6, D := fun x => True } })) := by kernel_rfl

theorem roundS_eq (g : Nat → Int) (len cap rc : Nat) (FC : Nat → Nat) (k c10 : Nat) : roundS g len cap rc FC k c10 =
  Out.br (decide ((↑(nU g len) : Int) - (↑k : Int) > Int.ofNat 0))
    (Out.need (((2 = 2 ∧ 0 = 0 ∧ 0 = 0 ∧ 0 = 0 ∧ 4 = 4) ∧ (IntKind.i64 = IntKind.i64 ∧ dN g len = dN g len) ∧ True) ∧ (84 = 84 ∧ 4 = 4 ∧ (0 = 0 ∧ 0 = 0 ∧ 0 = 0 ∧ 1 = 1 ∧ len = len ∧ cap = cap) ∧ (IntKind.i64 = IntKind.i64 ∧ (↑(pos3 g len k) : Int) = (↑(pos3 g len k) : Int)) ∧ True) ∧ (1 ≤ 1 ∧ (∀ (i : Nat), i < 1 → len ≤ len) ∧ (IntKind.u8 = IntKind.u8 ∧ ∀ (i e : Nat), i < 1 ∧ e < len → g e = g e) ∧ True) ∧ True)
    (Out.need (preN (fun e => g e) len (pos3 g len k) (dN g len))
    (Out.need (((2 = 2 ∧ 0 = 0 ∧ 0 = 0 ∧ 0 = 0 ∧ 4 = 4) ∧ (IntKind.i64 = IntKind.i64 ∧ dL g len = dL g len) ∧ True) ∧ (84 = 84 ∧ 4 = 4 ∧ (0 = 0 ∧ 0 = 0 ∧ 0 = 0 ∧ 1 = 1 ∧ len = len ∧ cap = cap) ∧ (IntKind.i64 = IntKind.i64 ∧ (↑(pos3 g len k + 1) : Int) = (↑(pos3 g len k + 1) : Int)) ∧ True) ∧ (1 ≤ 1 ∧ (∀ (i : Nat), i < 1 → len ≤ len) ∧ (IntKind.u8 = IntKind.u8 ∧ ∀ (i e : Nat), i < 1 ∧ e < len → g e = g e) ∧ True) ∧ True)
    (Out.need (preN (fun e => g e) len (pos3 g len k + 1) (dL g len))
    (Out.need (((2 = 2 ∧ 0 = 0 ∧ 0 = 0 ∧ 0 = 0 ∧ 4 = 4) ∧ (IntKind.i64 = IntKind.i64 ∧ Int.ofNat 16 = Int.ofNat 16) ∧ True) ∧ (84 = 84 ∧ 4 = 4 ∧ (0 = 0 ∧ 0 = 0 ∧ 0 = 0 ∧ 1 = 1 ∧ len = len ∧ cap = cap) ∧ (IntKind.i64 = IntKind.i64 ∧ (↑(pos3 g len k + 1 + 1) : Int) = (↑(pos3 g len k + 1 + 1) : Int)) ∧ True) ∧ (1 ≤ 1 ∧ (∀ (i : Nat), i < 1 → len ≤ len) ∧ (IntKind.u8 = IntKind.u8 ∧ ∀ (i e : Nat), i < 1 ∧ e < len → g e = g e) ∧ True) ∧ True)
    (Out.need (preN (fun e => g e) len (pos3 g len k + 1 + 1) (Int.ofNat 16))
    (Out.need (0 < 1)
    (Out.need (0 < 1)
    (Out.need (0 < 1)
    (Out.need (k ≤ k ∧ c10 = c10)
    (Out.need (k + 1 ≤ 9223372036854775807 ∧ (k + 1) * 24 ≤ 140737488355328)
    (Out.ge (k + 1) fun x => Out.leaf (Ex.normal, { tmps := tms 128 [(2, (SV.c (SC.ptr 1 (NV.k 0) (NV.k 0) 0 11))), (3, (SV.c (SC.ptr 2 (NV.k 0) (NV.k 0) 0 4))), (4, (SV.c (SC.ptr 3 (NV.k 0) (NV.k 0) 0 11))), (5, (SV.c (SC.iv IntKind.i64 (dN g len)))), (10, (SV.c (SC.iv IntKind.i64 (IntKind.i64.wrap ((↑(nU g len) : Int) - (↑k : Int) - Int.ofNat 1)))))], H := { h := [(9, Blk.row 90 x (k + 1) [Col.ci IntKind.i64 fun i' j => if i' = 0 ∧ j = k then rd (fun e => g e) len (pos3 g len k) (dN g len) else uP g len j, Col.ci IntKind.i64 fun i' j => if i' = 0 ∧ j = k then rd (fun e => g e) len (pos3 g len k + 1) (dL g len) else uL g len j, Col.ci IntKind.i64 fun i' j => if i' = 0 ∧ j = k then rd (fun e => g e) len (pos3 g len k + 1 + 1) (Int.ofNat 16) else uD g len j]), (2, Blk.own 84 4 [some (SC.slc 0 (NV.k 0) (NV.k 0) 1 (NV.s len) (NV.s cap)), none, some (SC.iv IntKind.i64 (↑(pos3 g len k + 1 + 1 + 1) : Int)), none]), (0, Blk.view 1 (fun x => len) [Col.ci IntKind.u8 fun x e => g e]), (1, Blk.own 26 11 [none, none, none, none, none, none, none, none, none, none, none]), (3, Blk.own 26 11 [some (SC.iv IntKind.i64 (dW g len)), some (SC.iv IntKind.i64 (dL g len)), some (SC.iv IntKind.i64 (dC g len)), some (SC.iv IntKind.i64 (dT g len)), some (SC.iv IntKind.i64 (dD g len)), some (SC.iv IntKind.i64 (dH g len)), some (SC.iv IntKind.i64 (dB g len)), some (SC.iv IntKind.i64 (dA g len)), some (SC.iv IntKind.i64 (dP g len)), some (SC.slc 5 (NV.k 0) (NV.k 0) 1 (NV.s (nP g len)) (NV.s rc)), some (SC.slc 9 (NV.k 0) (NV.k 0) 3 (NV.s (k + 1)) (NV.s x))]), (4, Blk.fam true 88 (gd (nP g len) FC) (gd (nP g len) (lenP g len)) [Col.ci IntKind.i64 fun i e => cO g len i e, Col.ci IntKind.i64 fun i e => cA g len i e, Col.ci IntKind.i64 fun i e => cB g len i e]), (5, Blk.row 86 rc (nP g len) [Col.cs 4 3 (fun x e => e) (fun x e => lenP g len e) fun x e => FC e])], nxt := 10, D := fun x => True } })))))))))))))
    (Out.leaf (Ex.exit 5, { tmps := tms 128 [(2, (SV.c (SC.ptr 1 (NV.k 0) (NV.k 0) 0 11))), (3, (SV.c (SC.ptr 2 (NV.k 0) (NV.k 0) 0 4))), (4, (SV.c (SC.ptr 3 (NV.k 0) (NV.k 0) 0 11))), (5, (SV.c (SC.iv IntKind.i64 (dN g len))))], H := { h := [(6, Blk.row 90 c10 k [Col.ci IntKind.i64 fun x e => uP g len e, Col.ci IntKind.i64 fun x e => uL g len e, Col.ci IntKind.i64 fun x e => uD g len e]), (0, Blk.view 1 (fun x => len) [Col.ci IntKind.u8 fun x e => g e]), (1, Blk.own 26 11 [none, none, none, none, none, none, none, none, none, none, none]), (2, Blk.own 84 4 [some (SC.slc 0 (NV.k 0) (NV.k 0) 1 (NV.s len) (NV.s cap)), none, some (SC.iv IntKind.i64 (↑(pos3 g len k) : Int)), none]), (3, Blk.own 26 11 [some (SC.iv IntKind.i64 (dW g len)), some (SC.iv IntKind.i64 (dL g len)), some (SC.iv IntKind.i64 (dC g len)), some (SC.iv IntKind.i64 (dT g len)), some (SC.iv IntKind.i64 (dD g len)), some (SC.iv IntKind.i64 (dH g len)), some (SC.iv IntKind.i64 (dB g len)), some (SC.iv IntKind.i64 (dA g len)), some (SC.iv IntKind.i64 (dP g len)), some (SC.slc 5 (NV.k 0) (NV.k 0) 1 (NV.s (nP g len)) (NV.s rc)), some (SC.slc 6 (NV.k 0) (NV.k 0) 3 (NV.s k) (NV.s c10))]), (4, Blk.fam true 88 (gd (nP g len) FC) (gd (nP g len) (lenP g len)) [Col.ci IntKind.i64 fun i e => cO g len i e, Col.ci IntKind.i64 fun i e => cA g len i e, Col.ci IntKind.i64 fun i e => cB g len i e]), (5, Blk.row 86 rc (nP g len) [Col.cs 4 3 (fun x e => e) (fun x e => lenP g len e) fun x e => FC e])], nxt := 7, D := fun x => True } })) := by kernel_rfl


end Go.Proofs.Ytimklokgjmdobaa.Dc


/- ref05.Decode: the rounds of its loops. -/
set_option maxRecDepth 100000
namespace Go.Proofs.Ytimklokgjmdobaa.Dc
open Go Go.RowKit Sx Cn
section
variable {g : Nat → Int} {len : Nat}
theorem dL_r (hu : U8 len g) : 1 ≤ dL g len ∧ dL g len ≤ 4 := by have := rd_range (at' := 1) (k := 4) hu (by decide); unfold dL; omega
theorem dD_r (hu : U8 len g) : 1 ≤ dD g len ∧ dD g len ≤ 4 := by have := rd_range (at' := 4) (k := 4) hu (by decide); unfold dD; omega
theorem dN_r (hu : U8 len g) : 1 ≤ dN g len ∧ dN g len ≤ 4 := by have := rd_range (at' := 9) (k := 4) hu (by decide); unfold dN; omega
theorem nP_eq (hu : U8 len g) : (nP g len : Int) = dN g len := by have := dN_r hu; unfold nP; omega
theorem cnt_eq (hu : U8 len g) (p : Nat) : (cnt g len p : Int) = rd g len p 6 ∧ cnt g len p ≤ 5 := by have := rd_range (at' := p) (k := 6) hu (by decide); unfold cnt; omega
theorem iE_le (p : Nat) : iE g len p ≤ p + 3 := by unfold iE; split <;> omega
theorem pI_le (p k : Nat) : pI g len p k ≤ p + 1 + 3 * k := by
  induction k with
  | zero => exact Nat.le_refl _
  | succ k ih => have := iE_le (g := g) (len := len) (pI g len p k); show iE g len (pI g len p k) ≤ _; omega
theorem pS_le (hu : U8 len g) (i : Nat) : pS g len i ≤ 10 + 16 * i := by
  induction i with
  | zero => exact Nat.le_refl _
  | succ i ih => have := pI_le (g := g) (len := len) (pS g len i) (cnt g len (pS g len i)); have := (cnt_eq hu (pS g len i)).2; show pI g len (pS g len i) (cnt g len (pS g len i)) ≤ _; omega
theorem pU_le (hu : U8 len g) : pU g len ≤ 74 := by have := pS_le hu (nP g len); have := nP_eq hu; have := dN_r hu; unfold pU; omega
theorem nU_le (hu : U8 len g) : nU g len ≤ 5 := (cnt_eq hu _).2
end
theorem gd_le {i : Nat} {A B : Nat → Nat} (h : ∀ e, e < i → A e ≤ B e) (e : Nat) : gd i A e ≤ gd i B e := by
  unfold gd; split
  · exact h e (by assumption)
  · exact Nat.le_refl _
theorem gd_inv {i : Nat} {A B : Nat → Nat} (h : ∀ e, e < i → A e ≤ B e) (e : Nat) : gd i A e ≤ gd i B e ∧ gd i A e ≤ gd i A e := ⟨gd_le h e, Nat.le_refl _⟩
theorem col_add {A : Nat → Int} {k : Nat} {v : Int} (h : v = A k) (i' e : Nat) (_ : i' = 0 ∧ e < k + 1) : (if i' = 0 ∧ e = k then v else A e) = A e := by
  split
  · rename_i h1; rw [h1.2, h]
  · rfl
theorem ne_beq {a b : Int} (h : (a == b) = false) : a ≠ b := fun e => by subst e; simp at h
theorem roundI_ok (g : Nat → Int) (len cap i : Nat) (FC : Nat → Nat) (rc k c7 : Nat) (hF : ∀ e, e < i → lenP g len e ≤ FC e) (hx : Ii g len i k c7) (K : Ex × St → Prop) (hA : (Ai g len cap i FC rc).holds K) :
    Holds (roundI g len cap i FC rc k c7) (RoundEnd (fun x : Nat × Nat => Ji g len cap i FC rc x.1 x.2) (fun x => Ii g len i x.1 x.2) (fun x => lenP g len i - x.1) 6 7 K (k, c7)) := by
  constructor
  rw [roundI_eq]
  obtain ⟨hu, hi, hk, hc⟩ := hx
  have hN := dN_r hu
  have hL := dL_r hu
  have hl : lenP g len i ≤ 5 := (cnt_eq hu _).2
  have hp : pI g len (pS g len i) k ≤ 1000 := by have := pI_le (g := g) (len := len) (pS g len i) k; have := pS_le hu i; omega
  have hcnt : ∀ v, v = IntKind.i64.wrap ((lenP g len i : Int) - (k : Int) - 1) → k < lenP g len i → v = (lenP g len i : Int) - ((k + 1 : Nat) : Int) := fun v e h => by rw [e, w64 (by omega)]; omega
  simp only [Out.holds, eq_self, true_and, and_true, Nat.le_refl, implies_true, Int.ofNat_eq_natCast, Nat.lt_add_one, gt_iff_lt, Nat.zero_lt_one]
  refine ⟨fun h => ?_, fun h => ?_⟩
  · have h := of_decide_eq_true h
    have hlt : k < lenP g len i := by omega
    refine ⟨⟨hu, by decide, by omega⟩, fun h0 => ?_, fun h0 => ?_⟩
    · have h0 : iO g len (pI g len (pS g len i) k) = 0 := eq_of_beq h0
      have hr := rd_range (at' := pI g len (pS g len i) k + 1) (k := 4) hu (by decide)
      refine ⟨⟨hu, by decide, by omega⟩, by omega, fun x hx => ⟨(k + 1, x), [9], ⟨hu, hi, hlt, hx⟩, (by show lenP g len i - (k + 1) < lenP g len i - k; omega), rfl, rfl, ⟨?_, ?_⟩, rfl⟩⟩
      · (repeat' first | exact True.intro | with_reducible rfl | apply And.intro | exact Nat.le_refl _ | (intros; with_reducible rfl) | (intros; assumption) | decide | (intros; exact Nat.le_refl _) | (intros; apply Or.inl; with_reducible rfl))
        exact hcnt _ rfl hlt
      · (repeat' first | exact True.intro | with_reducible rfl | apply And.intro | exact Nat.le_refl _ | (intros; with_reducible rfl) | (intros; assumption) | decide | (intros; exact Nat.le_refl _) | (intros; apply Or.inl; with_reducible rfl))
        · exact col_add rfl
        · refine col_add ?_
          show IntKind.i64.wrap (1 + rd g len (pI g len (pS g len i) k + 1) 4) = iA g len (pI g len (pS g len i) k)
          rw [iA, if_pos h0, w64 (by omega)]
        · refine col_add ?_
          show _ = iB g len (pI g len (pS g len i) k)
          rw [iB, if_neg (by omega)]; rfl
        · show ((pI g len (pS g len i) k + 1 + 1 : Nat) : Int) = (iE g len (pI g len (pS g len i) k) : Nat)
          rw [iE, if_neg (by omega)]
        · exact gd_inv hF
    · have h0 : iO g len (pI g len (pS g len i) k) ≠ 0 := ne_beq h0
      refine ⟨fun h1 => ?_, fun h1 => ?_⟩
      · have h1 : iO g len (pI g len (pS g len i) k) = 1 := eq_of_beq h1
        refine ⟨⟨hu, by omega, by omega⟩, ⟨hu, by omega, by omega⟩, by omega, fun x hx => ⟨(k + 1, x), [9], ⟨hu, hi, hlt, hx⟩, (by show lenP g len i - (k + 1) < lenP g len i - k; omega), rfl, rfl, ⟨?_, ?_⟩, rfl⟩⟩
        · (repeat' first | exact True.intro | with_reducible rfl | apply And.intro | exact Nat.le_refl _ | (intros; with_reducible rfl) | (intros; assumption) | decide | (intros; exact Nat.le_refl _) | (intros; apply Or.inl; with_reducible rfl))
          exact hcnt _ rfl hlt
        · (repeat' first | exact True.intro | with_reducible rfl | apply And.intro | exact Nat.le_refl _ | (intros; with_reducible rfl) | (intros; assumption) | decide | (intros; exact Nat.le_refl _) | (intros; apply Or.inl; with_reducible rfl))
          · exact col_add rfl
          · refine col_add ?_
            show _ = iA g len (pI g len (pS g len i) k)
            rw [iA, if_neg h0, if_pos h1]
          · refine col_add ?_
            show _ = iB g len (pI g len (pS g len i) k)
            rw [iB, if_pos h1]
          · show ((pI g len (pS g len i) k + 1 + 1 + 1 : Nat) : Int) = (iE g len (pI g len (pS g len i) k) : Nat)
            rw [iE, if_pos h1]
          · exact gd_inv hF
      · have h1 : iO g len (pI g len (pS g len i) k) ≠ 1 := ne_beq h1
        refine ⟨⟨hu, by decide, by omega⟩, by omega, fun x hx => ⟨(k + 1, x), [9], ⟨hu, hi, hlt, hx⟩, (by show lenP g len i - (k + 1) < lenP g len i - k; omega), rfl, rfl, ⟨?_, ?_⟩, rfl⟩⟩
        · (repeat' first | exact True.intro | with_reducible rfl | apply And.intro | exact Nat.le_refl _ | (intros; with_reducible rfl) | (intros; assumption) | decide | (intros; exact Nat.le_refl _) | (intros; apply Or.inl; with_reducible rfl))
          exact hcnt _ rfl hlt
        · (repeat' first | exact True.intro | with_reducible rfl | apply And.intro | exact Nat.le_refl _ | (intros; with_reducible rfl) | (intros; assumption) | decide | (intros; exact Nat.le_refl _) | (intros; apply Or.inl; with_reducible rfl))
          · exact col_add rfl
          · refine col_add ?_
            show _ = iA g len (pI g len (pS g len i) k)
            rw [iA, if_neg h0, if_neg h1]; rfl
          · refine col_add ?_
            show _ = iB g len (pI g len (pS g len i) k)
            rw [iB, if_neg h1]; rfl
          · show ((pI g len (pS g len i) k + 1 + 1 : Nat) : Int) = (iE g len (pI g len (pS g len i) k) : Nat)
            rw [iE, if_neg h1]
          · exact gd_inv hF
  · have h := of_decide_eq_false h
    have hk : k = lenP g len i := by omega
    subst hk
    simp only [Ai, Out.holds] at hA
    refine ⟨_, [6], ?_, ?_, ?_, hA.2 c7 hc⟩
    · refine ⟨rfl, rfl, ⟨?_, ?_⟩, rfl⟩
      · (repeat' first | exact True.intro | with_reducible rfl | apply And.intro | exact Nat.le_refl _ | (intros; with_reducible rfl) | (intros; assumption) | decide | (intros; exact Nat.le_refl _) | (intros; apply Or.inl; with_reducible rfl))
      · (repeat' first | exact True.intro | with_reducible rfl | apply And.intro | exact Nat.le_refl _ | (intros; with_reducible rfl) | (intros; assumption) | decide | (intros; exact Nat.le_refl _) | (intros; apply Or.inl; with_reducible rfl))
        · rfl
        · exact gd_inv hF
    · rfl
    · exact Nat.le_refl _
theorem roundS_ok (g : Nat → Int) (len cap rc : Nat) (FC : Nat → Nat) (k c10 : Nat) (hx : Is g len rc FC k c10) (K : Ex × St → Prop) (hA : (As g len cap rc FC).holds K) :
    Holds (roundS g len cap rc FC k c10) (RoundEnd (fun x : Nat × Nat => Js g len cap rc FC x.1 x.2) (fun x => Is g len rc FC x.1 x.2) (fun x => nU g len - x.1) 6 7 K (k, c10)) := by
  constructor
  rw [roundS_eq]
  obtain ⟨hu, hk, hc, hF, hrc⟩ := hx
  have hN := dN_r hu
  have hL := dL_r hu
  have hl := nU_le hu
  have hp : pos3 g len k ≤ 1000 := by have := pU_le hu; unfold pos3; omega
  have hcnt : ∀ v, v = IntKind.i64.wrap ((nU g len : Int) - (k : Int) - 1) → k < nU g len → v = (nU g len : Int) - ((k + 1 : Nat) : Int) := fun v e h => by rw [e, w64 (by omega)]; omega
  simp only [Out.holds, eq_self, true_and, and_true, Nat.le_refl, implies_true, Int.ofNat_eq_natCast, Nat.lt_add_one, gt_iff_lt, Nat.zero_lt_one]
  refine ⟨fun h => ?_, fun h => ?_⟩
  · have h := of_decide_eq_true h
    have hlt : k < nU g len := by omega
    refine ⟨⟨hu, by omega, by omega⟩, ⟨hu, by omega, by omega⟩, ⟨hu, by decide, by omega⟩, by omega, fun x hx => ⟨(k + 1, x), [9], ⟨hu, hlt, hx, hF, hrc⟩, (by show nU g len - (k + 1) < nU g len - k; omega), rfl, rfl, ⟨?_, ?_⟩, rfl⟩⟩
    · (repeat' first | exact True.intro | with_reducible rfl | apply And.intro | exact Nat.le_refl _ | (intros; with_reducible rfl) | (intros; assumption) | decide | (intros; exact Nat.le_refl _) | (intros; apply Or.inl; with_reducible rfl))
      exact hcnt _ rfl hlt
    · (repeat' first | exact True.intro | with_reducible rfl | apply And.intro | exact Nat.le_refl _ | (intros; with_reducible rfl) | (intros; assumption) | decide | (intros; exact Nat.le_refl _) | (intros; apply Or.inl; with_reducible rfl))
      · exact col_add rfl
      · exact col_add rfl
      · exact col_add rfl
      · show ((pos3 g len k + 1 + 1 + 1 : Nat) : Int) = (pos3 g len (k + 1) : Nat)
        unfold pos3; omega
      · exact gd_inv hF
  · have h := of_decide_eq_false h
    have hk : k = nU g len := by omega
    subst hk
    simp only [As, Out.holds] at hA
    refine ⟨_, [6], ?_, ?_, ?_, hA.2 c10 hc⟩
    · refine ⟨rfl, rfl, ⟨?_, ?_⟩, rfl⟩
      · (repeat' first | exact True.intro | with_reducible rfl | apply And.intro | exact Nat.le_refl _ | (intros; with_reducible rfl) | (intros; assumption) | decide | (intros; exact Nat.le_refl _) | (intros; apply Or.inl; with_reducible rfl))
      · (repeat' first | exact True.intro | with_reducible rfl | apply And.intro | exact Nat.le_refl _ | (intros; with_reducible rfl) | (intros; assumption) | decide | (intros; exact Nat.le_refl _) | (intros; apply Or.inl; with_reducible rfl))
        exact gd_inv hF
    · rfl
    · exact Nat.le_refl _
theorem annI_ok (g : Nat → Int) (len cap i : Nat) (FC : Nat → Nat) (rc : Nat) (hF : ∀ e, e < i → lenP g len e ≤ FC e) : AnnOK P (.loop (loopIn2 P 15 0 0)) (annI g len cap i FC rc) :=
  ghost_annOK (nilTmpG_ok _ _ _ _) (loopC_ok (u := 3) (nf := 3) con6_ok (fun x => lenP g len i - x.1) 7 (by decide) (fun _ => rfl) (fun _ => rfl) (fun _ => rfl) (gs := fun _ => []) (ls := fun _ => []) (fun x hx K hA => roundI_ok g len cap i FC rc x.1 x.2 hF hx K hA) (fun _ _ => trivial) (fun _ _ => fits_nil _))
theorem gd_put {i : Nat} {A B : Nat → Nat} {v : Nat} (h : v = B i) (hAB : ∀ e, e < i → A e = B e) (e : Nat) : (if e = i then v else gd i A e) = gd (i + 1) B e := by
  unfold gd
  split
  · rename_i h'; subst h'; rw [if_pos (Nat.lt_succ_self _), h]
  · split
    · rename_i h1 h2; rw [if_pos (by omega), hAB e h2]
    · rw [if_neg (by omega)]
theorem roundO_ok (g : Nat → Int) (len cap i : Nat) (FC : Nat → Nat) (rc : Nat) (hx : Io g len i FC rc) (K : Ex × St → Prop) (hA : (Ao g len cap).holds K) :
    Holds (roundO g len cap i FC rc) (RoundEnd (fun x : Nat × (Nat → Nat) × Nat => Jo g len cap x.1 x.2.1 x.2.2) (fun x => Io g len x.1 x.2.1 x.2.2) (fun x => nP g len - x.1) 4 6 K (i, FC, rc)) := by
  constructor
  rw [roundO_eq]
  obtain ⟨hu, hi, hF, hrc⟩ := hx
  have hN := dN_r hu
  have hn := nP_eq hu
  have hp : pS g len i ≤ 1000 := by have := pS_le hu i; omega
  have hl := cnt_eq hu (pS g len i)
  simp only [Out.holds, eq_self, true_and, and_true, Nat.le_refl, implies_true, Int.ofNat_eq_natCast, Nat.lt_add_one, gt_iff_lt, Nat.zero_lt_one]
  refine ⟨fun h => ?_, fun h => ?_⟩
  · have h := of_decide_eq_true h
    refine ⟨⟨hu, by decide, by omega⟩, ⟨⟨hu, h, Nat.zero_le _, Nat.zero_le _⟩, ?_⟩, ⟨_, Nat.le_refl _⟩, fun c7 h7 => ⟨by omega, fun x hx => ⟨?_, ⟨(i + 1, fun e => if e = i then c7 else FC e, x), [9, 8], ⟨hu, by omega, ?_, hx⟩, (by show nP g len - (i + 1) < nP g len - i; omega), rfl, rfl, ⟨?_, ?_⟩, rfl⟩⟩⟩⟩
    · (repeat' first | exact True.intro | with_reducible rfl | apply And.intro | exact Nat.le_refl _ | (intros; with_reducible rfl) | (intros; assumption) | decide | (intros; exact Nat.le_refl _) | (intros; apply Or.inl; with_reducible rfl))
      · show rd g len (pS g len i) 6 = ((cnt g len (pS g len i) : Nat) : Int) - ((0 : Nat) : Int)
        omega
      · rfl
      · intro _; exact .inl trivial
      · exact gd_le hF
    · rintro a e ⟨_, _⟩ h'; omega
    · intro e he
      show lenP g len e ≤ if e = i then c7 else FC e
      split
      · rename_i h'; rw [h']; exact h7
      · exact hF e (by omega)
    · (repeat' first | exact True.intro | with_reducible rfl | apply And.intro | exact Nat.le_refl _ | (intros; with_reducible rfl) | (intros; assumption) | decide | (intros; exact Nat.le_refl _) | (intros; apply Or.inl; with_reducible rfl))
      show IntKind.i64.wrap ((i : Int) + 1) = ((i + 1 : Nat) : Int)
      rw [w64 (by omega)]; rfl
    · (repeat' first | exact True.intro | with_reducible rfl | apply And.intro | exact Nat.le_refl _ | (intros; with_reducible rfl) | (intros; assumption) | decide | (intros; exact Nat.le_refl _) | (intros; apply Or.inl; with_reducible rfl))
      · exact fun e => .inl (gd_put (B := fun e => if e = i then c7 else FC e) (if_pos rfl).symm (fun e he => (if_neg (by omega)).symm) e)
      · refine fun e => ⟨gd_le (fun e he => ?_) e, Nat.le_of_eq (gd_put (A := lenP g len) (B := lenP g len) rfl (fun _ _ => rfl) e).symm⟩
        show lenP g len e ≤ if e = i then c7 else FC e
        split
        · rename_i h'; rw [h']; exact h7
        · exact hF e (by omega)
      · intro a e _; show (if a = i then _ else _) = _; split
        · rename_i h'; rw [h']
        · rfl
      · intro a e _; show (if a = i then _ else _) = _; split
        · rename_i h'; rw [h']
        · rfl
      · intro a e _; show (if a = i then _ else _) = _; split
        · rename_i h'; rw [h']
        · rfl
      · intro a e _; show (if _ ∧ e = i then _ else _) = _; split
        · rename_i h'; rw [h'.2]
        · rfl
      · rintro a e ⟨rfl, _⟩; show (if 0 = 0 ∧ e = i then c7 else FC e) = if e = i then c7 else FC e
        split
        · rename_i h'; rw [if_pos h'.2]
        · rename_i h'; rw [if_neg (fun he => h' ⟨rfl, he⟩)]
  · have h := of_decide_eq_false h
    have hk : i = nP g len := by omega
    subst hk
    simp only [Ao, Out.holds] at hA
    refine ⟨_, [4, 5], ?_, ?_, ?_, (hA.2 FC hF).2 rc hrc⟩
    · refine ⟨rfl, rfl, ⟨?_, ?_⟩, rfl⟩
      · (repeat' first | exact True.intro | with_reducible rfl | apply And.intro | exact Nat.le_refl _ | (intros; with_reducible rfl) | (intros; assumption) | decide | (intros; exact Nat.le_refl _) | (intros; apply Or.inl; with_reducible rfl))
      · (repeat' first | exact True.intro | with_reducible rfl | apply And.intro | exact Nat.le_refl _ | (intros; with_reducible rfl) | (intros; assumption) | decide | (intros; exact Nat.le_refl _) | (intros; apply Or.inl; with_reducible rfl))
        · rfl
        · exact gd_inv hF
    · rfl
    · exact Nat.le_refl _
end Go.Proofs.Ytimklokgjmdobaa.Dc


/- ref05.Decode: the executor's tree, printed by program. -/
set_option maxRecDepth 100000
namespace Go.Proofs.Ytimklokgjmdobaa.Dc
open Go Go.RowKit Sx Cn

theorem main56_eq (g : Nat → Int) (len cap : Nat) : main56 g len cap =
  Out.need (((2 = 2 ∧ 0 = 0 ∧ 0 = 0 ∧ 0 = 0 ∧ 4 = 4) ∧ (IntKind.i64 = IntKind.i64 ∧ Int.ofNat 4 = Int.ofNat 4) ∧ True) ∧ (84 = 84 ∧ 4 = 4 ∧ (0 = 0 ∧ 0 = 0 ∧ 0 = 0 ∧ 1 = 1 ∧ len = len ∧ cap = cap) ∧ (IntKind.i64 = IntKind.i64 ∧ Int.ofNat 0 = (↑0 : Int)) ∧ True) ∧ (1 ≤ 1 ∧ (∀ (i : Nat), i < 1 → len ≤ len) ∧ (IntKind.u8 = IntKind.u8 ∧ ∀ (i e : Nat), i < 1 ∧ e < len → g e = g e) ∧ True) ∧ True)
    (Out.need (preN (fun e => g e) len 0 (Int.ofNat 4))
    (Out.need (((2 = 2 ∧ 0 = 0 ∧ 0 = 0 ∧ 0 = 0 ∧ 4 = 4) ∧ (IntKind.i64 = IntKind.i64 ∧ Int.ofNat 4 = Int.ofNat 4) ∧ True) ∧ (84 = 84 ∧ 4 = 4 ∧ (0 = 0 ∧ 0 = 0 ∧ 0 = 0 ∧ 1 = 1 ∧ len = len ∧ cap = cap) ∧ (IntKind.i64 = IntKind.i64 ∧ (↑1 : Int) = (↑1 : Int)) ∧ True) ∧ (1 ≤ 1 ∧ (∀ (i : Nat), i < 1 → len ≤ len) ∧ (IntKind.u8 = IntKind.u8 ∧ ∀ (i e : Nat), i < 1 ∧ e < len → g e = g e) ∧ True) ∧ True)
    (Out.need (preN (fun e => g e) len 1 (Int.ofNat 4))
    (Out.need (((2 = 2 ∧ 0 = 0 ∧ 0 = 0 ∧ 0 = 0 ∧ 4 = 4) ∧ (IntKind.i64 = IntKind.i64 ∧ min (Int.ofNat 3) (IntKind.i64.wrap (Int.ofNat 1 + rd (fun e => g e) len 1 (Int.ofNat 4))) = min (Int.ofNat 3) (IntKind.i64.wrap (Int.ofNat 1 + rd (fun e => g e) len 1 (Int.ofNat 4)))) ∧ True) ∧ (84 = 84 ∧ 4 = 4 ∧ (0 = 0 ∧ 0 = 0 ∧ 0 = 0 ∧ 1 = 1 ∧ len = len ∧ cap = cap) ∧ (IntKind.i64 = IntKind.i64 ∧ (↑2 : Int) = (↑2 : Int)) ∧ True) ∧ (1 ≤ 1 ∧ (∀ (i : Nat), i < 1 → len ≤ len) ∧ (IntKind.u8 = IntKind.u8 ∧ ∀ (i e : Nat), i < 1 ∧ e < len → g e = g e) ∧ True) ∧ True)
    (Out.need (preN (fun e => g e) len 2 (min (Int.ofNat 3) (IntKind.i64.wrap (Int.ofNat 1 + rd (fun e => g e) len 1 (Int.ofNat 4)))))
    (Out.need (((2 = 2 ∧ 0 = 0 ∧ 0 = 0 ∧ 0 = 0 ∧ 4 = 4) ∧ (IntKind.i64 = IntKind.i64 ∧ Int.ofNat 12 = Int.ofNat 12) ∧ True) ∧ (84 = 84 ∧ 4 = 4 ∧ (0 = 0 ∧ 0 = 0 ∧ 0 = 0 ∧ 1 = 1 ∧ len = len ∧ cap = cap) ∧ (IntKind.i64 = IntKind.i64 ∧ (↑3 : Int) = (↑3 : Int)) ∧ True) ∧ (1 ≤ 1 ∧ (∀ (i : Nat), i < 1 → len ≤ len) ∧ (IntKind.u8 = IntKind.u8 ∧ ∀ (i e : Nat), i < 1 ∧ e < len → g e = g e) ∧ True) ∧ True)
    (Out.need (preN (fun e => g e) len 3 (Int.ofNat 12))
    (Out.need (((2 = 2 ∧ 0 = 0 ∧ 0 = 0 ∧ 0 = 0 ∧ 4 = 4) ∧ (IntKind.i64 = IntKind.i64 ∧ Int.ofNat 4 = Int.ofNat 4) ∧ True) ∧ (84 = 84 ∧ 4 = 4 ∧ (0 = 0 ∧ 0 = 0 ∧ 0 = 0 ∧ 1 = 1 ∧ len = len ∧ cap = cap) ∧ (IntKind.i64 = IntKind.i64 ∧ (↑4 : Int) = (↑4 : Int)) ∧ True) ∧ (1 ≤ 1 ∧ (∀ (i : Nat), i < 1 → len ≤ len) ∧ (IntKind.u8 = IntKind.u8 ∧ ∀ (i e : Nat), i < 1 ∧ e < len → g e = g e) ∧ True) ∧ True)
    (Out.need (preN (fun e => g e) len 4 (Int.ofNat 4))
    (Out.need (((2 = 2 ∧ 0 = 0 ∧ 0 = 0 ∧ 0 = 0 ∧ 4 = 4) ∧ (IntKind.i64 = IntKind.i64 ∧ Int.ofNat 4 = Int.ofNat 4) ∧ True) ∧ (84 = 84 ∧ 4 = 4 ∧ (0 = 0 ∧ 0 = 0 ∧ 0 = 0 ∧ 1 = 1 ∧ len = len ∧ cap = cap) ∧ (IntKind.i64 = IntKind.i64 ∧ (↑5 : Int) = (↑5 : Int)) ∧ True) ∧ (1 ≤ 1 ∧ (∀ (i : Nat), i < 1 → len ≤ len) ∧ (IntKind.u8 = IntKind.u8 ∧ ∀ (i e : Nat), i < 1 ∧ e < len → g e = g e) ∧ True) ∧ True)
    (Out.need (preN (fun e => g e) len 5 (Int.ofNat 4))
    (Out.need (((2 = 2 ∧ 0 = 0 ∧ 0 = 0 ∧ 0 = 0 ∧ 4 = 4) ∧ (IntKind.i64 = IntKind.i64 ∧ IntKind.i64.wrap (Int.ofNat 1 + rd (fun e => g e) len 4 (Int.ofNat 4)) = IntKind.i64.wrap (Int.ofNat 1 + rd (fun e => g e) len 4 (Int.ofNat 4))) ∧ True) ∧ (84 = 84 ∧ 4 = 4 ∧ (0 = 0 ∧ 0 = 0 ∧ 0 = 0 ∧ 1 = 1 ∧ len = len ∧ cap = cap) ∧ (IntKind.i64 = IntKind.i64 ∧ (↑6 : Int) = (↑6 : Int)) ∧ True) ∧ (1 ≤ 1 ∧ (∀ (i : Nat), i < 1 → len ≤ len) ∧ (IntKind.u8 = IntKind.u8 ∧ ∀ (i e : Nat), i < 1 ∧ e < len → g e = g e) ∧ True) ∧ True)
    (Out.need (preN (fun e => g e) len 6 (IntKind.i64.wrap (Int.ofNat 1 + rd (fun e => g e) len 4 (Int.ofNat 4))))
    (Out.need (((2 = 2 ∧ 0 = 0 ∧ 0 = 0 ∧ 0 = 0 ∧ 4 = 4) ∧ (IntKind.i64 = IntKind.i64 ∧ Int.ofNat 6 = Int.ofNat 6) ∧ True) ∧ (84 = 84 ∧ 4 = 4 ∧ (0 = 0 ∧ 0 = 0 ∧ 0 = 0 ∧ 1 = 1 ∧ len = len ∧ cap = cap) ∧ (IntKind.i64 = IntKind.i64 ∧ (↑7 : Int) = (↑7 : Int)) ∧ True) ∧ (1 ≤ 1 ∧ (∀ (i : Nat), i < 1 → len ≤ len) ∧ (IntKind.u8 = IntKind.u8 ∧ ∀ (i e : Nat), i < 1 ∧ e < len → g e = g e) ∧ True) ∧ True)
    (Out.need (preN (fun e => g e) len 7 (Int.ofNat 6))
    (Out.need (((2 = 2 ∧ 0 = 0 ∧ 0 = 0 ∧ 0 = 0 ∧ 4 = 4) ∧ (IntKind.i64 = IntKind.i64 ∧ Int.ofNat 8 = Int.ofNat 8) ∧ True) ∧ (84 = 84 ∧ 4 = 4 ∧ (0 = 0 ∧ 0 = 0 ∧ 0 = 0 ∧ 1 = 1 ∧ len = len ∧ cap = cap) ∧ (IntKind.i64 = IntKind.i64 ∧ (↑8 : Int) = (↑8 : Int)) ∧ True) ∧ (1 ≤ 1 ∧ (∀ (i : Nat), i < 1 → len ≤ len) ∧ (IntKind.u8 = IntKind.u8 ∧ ∀ (i e : Nat), i < 1 ∧ e < len → g e = g e) ∧ True) ∧ True)
    (Out.need (preN (fun e => g e) len 8 (Int.ofNat 8))
    (Out.need (((2 = 2 ∧ 0 = 0 ∧ 0 = 0 ∧ 0 = 0 ∧ 4 = 4) ∧ (IntKind.i64 = IntKind.i64 ∧ Int.ofNat 4 = Int.ofNat 4) ∧ True) ∧ (84 = 84 ∧ 4 = 4 ∧ (0 = 0 ∧ 0 = 0 ∧ 0 = 0 ∧ 1 = 1 ∧ len = len ∧ cap = cap) ∧ (IntKind.i64 = IntKind.i64 ∧ (↑9 : Int) = (↑9 : Int)) ∧ True) ∧ (1 ≤ 1 ∧ (∀ (i : Nat), i < 1 → len ≤ len) ∧ (IntKind.u8 = IntKind.u8 ∧ ∀ (i e : Nat), i < 1 ∧ e < len → g e = g e) ∧ True) ∧ True)
    (Out.need (preN (fun e => g e) len 9 (Int.ofNat 4))
    (Out.need (Io g len 0 (fun x => 0) 0 ∧ (∀ (k : Nat), True) ∧ (∀ (k : Nat), True) ∧ ((1 = 1 ∧ 0 = 0 ∧ 0 = 0 ∧ 0 = 0 ∧ 11 = 11) ∧ (2 = 2 ∧ 0 = 0 ∧ 0 = 0 ∧ 0 = 0 ∧ 4 = 4) ∧ (3 = 3 ∧ 0 = 0 ∧ 0 = 0 ∧ 0 = 0 ∧ 11 = 11) ∧ (IntKind.i64 = IntKind.i64 ∧ IntKind.i64.wrap (Int.ofNat 1 + rd (fun e => g e) len 9 (Int.ofNat 4)) = dN g len) ∧ (IntKind.i64 = IntKind.i64 ∧ Int.ofNat 0 = (↑0 : Int)) ∧ True) ∧ (1 ≤ 1 ∧ (∀ (i : Nat), i < 1 → len ≤ len) ∧ (IntKind.u8 = IntKind.u8 ∧ ∀ (i e : Nat), i < 1 ∧ e < len → g e = g e) ∧ True) ∧ (26 = 26 ∧ 11 = 11 ∧ True) ∧ (84 = 84 ∧ 4 = 4 ∧ (0 = 0 ∧ 0 = 0 ∧ 0 = 0 ∧ 1 = 1 ∧ len = len ∧ cap = cap) ∧ (IntKind.i64 = IntKind.i64 ∧ (↑10 : Int) = (↑(pS g len 0) : Int)) ∧ True) ∧ (26 = 26 ∧ 11 = 11 ∧ (IntKind.i64 = IntKind.i64 ∧ IntKind.i64.wrap (Int.ofNat 1 + rd (fun e => g e) len 0 (Int.ofNat 4)) = dW g len) ∧ (IntKind.i64 = IntKind.i64 ∧ IntKind.i64.wrap (Int.ofNat 1 + rd (fun e => g e) len 1 (Int.ofNat 4)) = dL g len) ∧ (IntKind.i64 = IntKind.i64 ∧ IntKind.i64.wrap (Int.ofNat 1 + rd (fun e => g e) len 2 (min (Int.ofNat 3) (IntKind.i64.wrap (Int.ofNat 1 + rd (fun e => g e) len 1 (Int.ofNat 4))))) = dC g len) ∧ (IntKind.i64 = IntKind.i64 ∧ IntKind.i64.wrap (Int.ofNat 1 + rd (fun e => g e) len 3 (Int.ofNat 12)) = dT g len) ∧ (IntKind.i64 = IntKind.i64 ∧ IntKind.i64.wrap (Int.ofNat 1 + rd (fun e => g e) len 4 (Int.ofNat 4)) = dD g len) ∧ (IntKind.i64 = IntKind.i64 ∧ IntKind.i64.wrap (Int.ofNat 1 + rd (fun e => g e) len 5 (Int.ofNat 4)) = dH g len) ∧ (IntKind.i64 = IntKind.i64 ∧ IntKind.i64.wrap (Int.ofNat 1 + rd (fun e => g e) len 6 (IntKind.i64.wrap (Int.ofNat 1 + rd (fun e => g e) len 4 (Int.ofNat 4)))) = dB g len) ∧ (IntKind.i64 = IntKind.i64 ∧ rd (fun e => g e) len 7 (Int.ofNat 6) = dA g len) ∧ (IntKind.i64 = IntKind.i64 ∧ IntKind.i64.wrap (Int.ofNat 1 + rd (fun e => g e) len 8 (Int.ofNat 8)) = dP g len) ∧ (5 = 5 ∧ 0 = 0 ∧ 0 = 0 ∧ 1 = 1 ∧ 0 = 0 ∧ 0 = 0) ∧ True ∧ True) ∧ ((true = false → true = false) ∧ 88 = 88 ∧ (∀ (i : Nat), 0 = gd 0 (fun x => 0) i ∨ gd 0 (fun x => 0) i = 0) ∧ (∀ (i : Nat), gd 0 (lenP g len) i ≤ gd 0 (fun x => 0) i ∧ gd 0 (lenP g len) i ≤ 0) ∧ (IntKind.i64 = IntKind.i64 ∧ ∀ (i e : Nat), e < gd 0 (lenP g len) i → cO g len i e = cO g len i e) ∧ (IntKind.i64 = IntKind.i64 ∧ ∀ (i e : Nat), e < gd 0 (lenP g len) i → cA g len i e = cA g len i e) ∧ (IntKind.i64 = IntKind.i64 ∧ ∀ (i e : Nat), e < gd 0 (lenP g len) i → cB g len i e = cB g len i e) ∧ True) ∧ (86 = 86 ∧ 0 = 0 ∧ 0 ≤ 0 ∧ (4 = 4 ∧ 3 = 3 ∧ (∀ (i e : Nat), i = 0 ∧ e < 0 → e = e) ∧ (∀ (i e : Nat), i = 0 ∧ e < 0 → lenP g len e = lenP g len e) ∧ ∀ (i e : Nat), i = 0 ∧ e < 0 → 0 = 0) ∧ True) ∧ True)
    (Out.any (Nat → Nat) (fun FC => ∀ (e : Nat), e < nP g len → lenP g len e ≤ FC e) fun x => Out.any Nat (fun rc => nP g len ≤ rc) fun x_1 => Out.need (((2 = 2 ∧ 0 = 0 ∧ 0 = 0 ∧ 0 = 0 ∧ 4 = 4) ∧ (IntKind.i64 = IntKind.i64 ∧ Int.ofNat 6 = Int.ofNat 6) ∧ True) ∧ (84 = 84 ∧ 4 = 4 ∧ (0 = 0 ∧ 0 = 0 ∧ 0 = 0 ∧ 1 = 1 ∧ len = len ∧ cap = cap) ∧ (IntKind.i64 = IntKind.i64 ∧ (↑(pU g len) : Int) = (↑(pU g len) : Int)) ∧ True) ∧ (1 ≤ 1 ∧ (∀ (i : Nat), i < 1 → len ≤ len) ∧ (IntKind.u8 = IntKind.u8 ∧ ∀ (i e : Nat), i < 1 ∧ e < len → g e = g e) ∧ True) ∧ True)
    (Out.need (preN (fun e => g e) len (pU g len) (Int.ofNat 6))
    (Out.need (Is g len x_1 (fun e => x e) 0 0 ∧ (∀ (k : Nat), True) ∧ (∀ (k : Nat), True) ∧ ((1 = 1 ∧ 0 = 0 ∧ 0 = 0 ∧ 0 = 0 ∧ 11 = 11) ∧ (2 = 2 ∧ 0 = 0 ∧ 0 = 0 ∧ 0 = 0 ∧ 4 = 4) ∧ (3 = 3 ∧ 0 = 0 ∧ 0 = 0 ∧ 0 = 0 ∧ 11 = 11) ∧ (IntKind.i64 = IntKind.i64 ∧ dN g len = dN g len) ∧ (IntKind.i64 = IntKind.i64 ∧ rd (fun e => g e) len (pU g len) (Int.ofNat 6) = (↑(nU g len) : Int) - (↑0 : Int)) ∧ True) ∧ (90 = 90 ∧ 0 = 0 ∧ 0 ≤ 0 ∧ (IntKind.i64 = IntKind.i64 ∧ ∀ (i e : Nat), i = 0 ∧ e < 0 → uP g len e = uP g len e) ∧ (IntKind.i64 = IntKind.i64 ∧ ∀ (i e : Nat), i = 0 ∧ e < 0 → uL g len e = uL g len e) ∧ (IntKind.i64 = IntKind.i64 ∧ ∀ (i e : Nat), i = 0 ∧ e < 0 → uD g len e = uD g len e) ∧ True) ∧ (1 ≤ 1 ∧ (∀ (i : Nat), i < 1 → len ≤ len) ∧ (IntKind.u8 = IntKind.u8 ∧ ∀ (i e : Nat), i < 1 ∧ e < len → g e = g e) ∧ True) ∧ (26 = 26 ∧ 11 = 11 ∧ True) ∧ (84 = 84 ∧ 4 = 4 ∧ (0 = 0 ∧ 0 = 0 ∧ 0 = 0 ∧ 1 = 1 ∧ len = len ∧ cap = cap) ∧ (IntKind.i64 = IntKind.i64 ∧ (↑(pU g len + 1) : Int) = (↑(pos3 g len 0) : Int)) ∧ True) ∧ (26 = 26 ∧ 11 = 11 ∧ (IntKind.i64 = IntKind.i64 ∧ dW g len = dW g len) ∧ (IntKind.i64 = IntKind.i64 ∧ dL g len = dL g len) ∧ (IntKind.i64 = IntKind.i64 ∧ dC g len = dC g len) ∧ (IntKind.i64 = IntKind.i64 ∧ dT g len = dT g len) ∧ (IntKind.i64 = IntKind.i64 ∧ dD g len = dD g len) ∧ (IntKind.i64 = IntKind.i64 ∧ dH g len = dH g len) ∧ (IntKind.i64 = IntKind.i64 ∧ dB g len = dB g len) ∧ (IntKind.i64 = IntKind.i64 ∧ dA g len = dA g len) ∧ (IntKind.i64 = IntKind.i64 ∧ dP g len = dP g len) ∧ (5 = 5 ∧ 0 = 0 ∧ 0 = 0 ∧ 1 = 1 ∧ nP g len = nP g len ∧ x_1 = x_1) ∧ (6 = 6 ∧ 0 = 0 ∧ 0 = 0 ∧ 3 = 3 ∧ 0 = 0 ∧ 0 = 0) ∧ True) ∧ ((true = false → true = false) ∧ 88 = 88 ∧ (∀ (i : Nat), gd (nP g len) x i = gd (nP g len) (fun e => x e) i ∨ gd (nP g len) (fun e => x e) i = 0) ∧ (∀ (i : Nat), gd (nP g len) (lenP g len) i ≤ gd (nP g len) (fun e => x e) i ∧ gd (nP g len) (lenP g len) i ≤ gd (nP g len) (lenP g len) i) ∧ (IntKind.i64 = IntKind.i64 ∧ ∀ (i e : Nat), e < gd (nP g len) (lenP g len) i → cO g len i e = cO g len i e) ∧ (IntKind.i64 = IntKind.i64 ∧ ∀ (i e : Nat), e < gd (nP g len) (lenP g len) i → cA g len i e = cA g len i e) ∧ (IntKind.i64 = IntKind.i64 ∧ ∀ (i e : Nat), e < gd (nP g len) (lenP g len) i → cB g len i e = cB g len i e) ∧ True) ∧ (86 = 86 ∧ x_1 = x_1 ∧ nP g len ≤ nP g len ∧ (4 = 4 ∧ 3 = 3 ∧ (∀ (i e : Nat), i = 0 ∧ e < nP g len → e = e) ∧ (∀ (i e : Nat), i = 0 ∧ e < nP g len → lenP g len e = lenP g len e) ∧ ∀ (i e : Nat), i = 0 ∧ e < nP g len → x e = x e) ∧ True) ∧ True)
    (Out.any Nat (fun c10 => nU g len ≤ c10) fun x_2 => Out.leaf (SV.a [SC.iv IntKind.i64 (dW g len), SC.iv IntKind.i64 (dL g len), SC.iv IntKind.i64 (dC g len), SC.iv IntKind.i64 (dT g len), SC.iv IntKind.i64 (dD g len), SC.iv IntKind.i64 (dH g len), SC.iv IntKind.i64 (dB g len), SC.iv IntKind.i64 (dA g len), SC.iv IntKind.i64 (dP g len), SC.slc 5 (NV.k 0) (NV.k 0) 1 (NV.s (nP g len)) (NV.s x_1), SC.slc 6 (NV.k 0) (NV.k 0) 3 (NV.s (nU g len)) (NV.s x_2)], { h := [(6, Blk.row 90 x_2 (nU g len) [Col.ci IntKind.i64 fun x e => uP g len e, Col.ci IntKind.i64 fun x e => uL g len e, Col.ci IntKind.i64 fun x e => uD g len e]), (0, Blk.view 1 (fun x => len) [Col.ci IntKind.u8 fun x e => g e]), (4, Blk.fam true 88 (gd (nP g len) fun e => x e) (gd (nP g len) (lenP g len)) [Col.ci IntKind.i64 fun i e => cO g len i e, Col.ci IntKind.i64 fun i e => cA g len i e, Col.ci IntKind.i64 fun i e => cB g len i e]), (5, Blk.row 86 x_1 (nP g len) [Col.cs 4 3 (fun x e => e) (fun x e => lenP g len e) fun x_3 e => x e])], nxt := 7, D := fun x => True }))))))))))))))))))))))))) := by kernel_rfl


end Go.Proofs.Ytimklokgjmdobaa.Dc


/- ref05.Decode: the contract. -/
set_option maxRecDepth 100000
namespace Go.Proofs.Ytimklokgjmdobaa.Dc
open Go Go.RowKit Sx Cn
noncomputable section
def cfgV (g : Nat → Int) (len : Nat) (c9 c10 : SC) : SV := .a [.iv .i64 (dW g len), .iv .i64 (dL g len), .iv .i64 (dC g len), .iv .i64 (dT g len), .iv .i64 (dD g len), .iv .i64 (dH g len), .iv .i64 (dB g len), .iv .i64 (dA g len), .iv .i64 (dP g len), c9, c10]
def post56 (g : Nat → Int) (len cap : Nat) : Out (SV × Hp) := .need (U8 len g) (.any (Nat → Nat) (fun FC => ∀ e, e < nP g len → lenP g len e ≤ FC e) fun FC => .any Nat (fun rc => nP g len ≤ rc) fun rc => .any Nat (fun c => nU g len ≤ c) fun c10 =>
  .leaf (cfgV g len (slK 2 1 (nP g len) rc) (slK 3 3 (nU g len) c10), ⟨[(1, famP g len (nP g len) FC), (2, rowP g len 1 (nP g len) rc FC), (3, .row 90 c10 (nU g len) (colsU g len))], 4, fun _ => True⟩))
end
theorem ghosts56 (g : Nat → Int) (len cap : Nat) : AnnOK P (.loop (loopIn P 15 0)) (annO g len cap) :=
  ghost_annOK (newFamG_ok _ _) (ghost_annOK (nilCellG_ok _ _ _ _ _) (loopC_ok (u := 3) (nf := 3) con6_ok (fun x => nP g len - x.1) 6 (by decide) (fun _ => rfl) (fun _ => rfl) (fun _ => rfl)
    (gs := fun _ => [(13, joinG (ckey (tkey 4) 9) 0)]) (ls := fun x => [annI g len cap x.1 x.2.1 x.2.2]) (fun x hx K hA => roundO_ok g len cap x.1 x.2.1 x.2.2 hx K hA) (fun _ _ => ⟨joinG_ok _ _, trivial⟩) (fun x hx => fitsIn1 (annI_ok g len cap x.1 x.2.1 x.2.2 hx.2.2.1))))
theorem annS_ok (g : Nat → Int) (len cap : Nat) : AnnOK P (.loop (loopIn P 15 1)) (annS g len cap) :=
  ghost_annOK (nilCellG_ok _ _ _ _ _) (pickA_ok fun y => loopC_ok (u := 3) (nf := 3) con6_ok (fun x => nU g len - x.1) 7 (by decide) (fun _ => rfl) (fun _ => rfl) (fun _ => rfl)
    (gs := fun _ => []) (ls := fun _ => []) (fun x hx K hA => roundS_ok g len cap y.1 y.2 x.1 x.2 hx K hA) (fun _ _ => trivial) (fun _ _ => fits_nil _))
theorem local56 (g : Nat → Int) (len cap : Nat) : LocalOK P 15 [.c (slK 0 1 len cap)] [(0, ints .u8 len g)] 1 (post56 g len cap) :=
  LocalOK.monoR (p := main56 g len cap) (CallOK.local (execA_ok (u := 3) con6_ok (fits2 (ghosts56 g len cap) (annS_ok g len cap)) 3) 15 [.c (slK 0 1 len cap)] [(0, ints .u8 len g)] 1) fun K hK => by
    rw [main56_eq]
    obtain ⟨hu, hK⟩ := hK
    simp only [Out.holds] at hK
    have hN := dN_r hu
    have hL := dL_r hu
    have hD := dD_r hu
    have hn := nP_eq hu
    have w : ∀ at' k, 1 ≤ k → k ≤ 16 → IntKind.i64.wrap (1 + rd g len at' k) = 1 + rd g len at' k := fun at' k h1 h2 => w64 (by have := rd_range (at' := at') hu h1; omega)
    have eL : IntKind.i64.wrap (1 + rd g len 1 4) = dL g len := w _ _ (by decide) (by decide)
    have eD : IntKind.i64.wrap (1 + rd g len 4 4) = dD g len := w _ _ (by decide) (by decide)
    have eC : IntKind.i64.wrap (1 + rd g len 2 (min 3 (dL g len))) = dC g len := w _ _ (by omega) (by omega)
    have eB : IntKind.i64.wrap (1 + rd g len 6 (dD g len)) = dB g len := w _ _ (by omega) (by omega)
    have hU := cnt_eq hu (pU g len)
    have hpU := pU_le hu
    have k4 : ((4 : Nat) : Int) = 4 := rfl
    have k6 : ((6 : Nat) : Int) = 6 := rfl
    have k1 : ((1 : Nat) : Int) = 1 := rfl
    have k3 : ((3 : Nat) : Int) = 3 := rfl
    simp only [Out.holds, eq_self, true_and, and_true, Nat.le_refl, implies_true, Int.ofNat_eq_natCast, Nat.lt_add_one, gt_iff_lt, Nat.zero_lt_one, k1, k3, k4, eL, eD, eC, eB]
    (repeat' first | exact True.intro | with_reducible rfl | apply And.intro | exact Nat.le_refl _ | (intros; with_reducible rfl) | (intros; assumption) | decide | (intros; exact Nat.le_refl _) | (intros; apply Or.inl; with_reducible rfl))
    all_goals try first | omega | exact hu | exact w _ _ (by decide) (by decide) | (with_reducible exact hK.1) | (intro e he; exact absurd he (Nat.not_lt_zero _)) | (intro e; exact .inr rfl) | (intro e; exact ⟨Nat.le_of_eq rfl, Nat.le_of_eq rfl⟩)
    · rfl
    · rfl
    · intro FC hF
      have hK := hK.2 FC hF
      refine ⟨hK.1, fun rc hrc => ?_⟩
      have hK := hK.2 rc hrc
      (repeat' first | exact True.intro | with_reducible rfl | apply And.intro | exact Nat.le_refl _ | (intros; with_reducible rfl) | (intros; assumption) | decide | (intros; exact Nat.le_refl _) | (intros; apply Or.inl; with_reducible rfl))
      all_goals try first | omega | exact hu | with_reducible exact hK.1 | exact gd_inv hF | exact fun e => .inl trivial | exact gd_le hF
      · show rd g len (pU g len) 6 = ((cnt g len (pU g len) : Nat) : Int) - 0
        omega
      · rfl
      · intro c10 hc
        have hK := hK.2 c10 hc
        refine ⟨_, _, [4, 5, 6], ⟨rfl, rfl, ⟨?_, ?_⟩, rfl⟩, ?_, ?_, hK⟩
        · (repeat' first | exact True.intro | with_reducible rfl | apply And.intro | exact Nat.le_refl _ | (intros; with_reducible rfl) | (intros; assumption) | decide | (intros; exact Nat.le_refl _) | (intros; apply Or.inl; with_reducible rfl))
        · (repeat' first | exact True.intro | with_reducible rfl | apply And.intro | exact Nat.le_refl _ | (intros; with_reducible rfl) | (intros; assumption) | decide | (intros; exact Nat.le_refl _) | (intros; apply Or.inl; with_reducible rfl))
          · exact gd_inv hF
        · rfl
        · show 1 ≤ 4
          decide
end Go.Proofs.Ytimklokgjmdobaa.Dc


/- Configurations as arguments; Check of valid ones. -/
namespace Go.Proofs.Ytimklokgjmdobaa.Ck
open Go Go.RowKit Sx Cn Dc
noncomputable section
structure Cf where
  W : Int
  L : Int
  C : Int
  T : Int
  D : Int
  H : Int
  B : Int
  A : Int
  P : Int
  nP : Nat
  rc : Nat
  nU : Nat
  cu : Nat
  lenP : Nat → Nat
  FC : Nat → Nat
  iO : Nat → Nat → Int
  iA : Nat → Nat → Int
  iB : Nat → Nat → Int
  uP : Nat → Int
  uL : Nat → Int
  uD : Nat → Int
section
variable (c : Cf)
def argC : SV := .a [.iv .i64 c.W, .iv .i64 c.L, .iv .i64 c.C, .iv .i64 c.T, .iv .i64 c.D, .iv .i64 c.H, .iv .i64 c.B, .iv .i64 c.A, .iv .i64 c.P, slK 0 1 c.nP c.rc, slK 1 3 c.nU c.cu]
def hC : HL := [(0, .view 1 (fun _ => c.nP) [.cs 2 3 (fun _ e => e) (fun _ e => c.lenP e) (fun _ e => c.FC e)]), (1, .view 1 (fun _ => c.nU) [.ci .i64 fun _ e => c.uP e, .ci .i64 fun _ e => c.uL e, .ci .i64 fun _ e => c.uD e]), (2, .view c.nP c.lenP [.ci .i64 fun i e => c.iO i e, .ci .i64 fun i e => c.iA i e, .ci .i64 fun i e => c.iB i e])]
def okN : Prop := (1 ≤ c.W ∧ c.W ≤ 16) ∧ (1 ≤ c.L ∧ c.L ≤ 64) ∧ (1 ≤ c.C ∧ c.C ≤ min 8 c.L) ∧ (1 ≤ c.T ∧ c.T ≤ 256) ∧ (1 ≤ c.D ∧ c.D ≤ 64) ∧ (1 ≤ c.H ∧ c.H ≤ 64) ∧ (1 ≤ c.B ∧ c.B ≤ c.D) ∧ (0 ≤ c.A ∧ c.A ≤ 65536) ∧ (1 ≤ c.P ∧ c.P ≤ 65536)
def okI (i e : Nat) : Prop := (c.iO i e = 0 ∧ (1 ≤ c.iA i e ∧ c.iA i e ≤ 64) ∧ c.iB i e = 0) ∨ (c.iO i e = 1 ∧ (0 ≤ c.iA i e ∧ c.iA i e ≤ (c.nP : Int) - 1) ∧ (0 ≤ c.iB i e ∧ c.iB i e ≤ c.L - 1)) ∨ (c.iO i e = 2 ∧ (0 ≤ c.iA i e ∧ c.iA i e ≤ 31) ∧ c.iB i e = 0)
def okP : Prop := (1 ≤ c.nP ∧ c.nP ≤ 32) ∧ ∀ i, i < c.nP → c.lenP i ≤ 32 ∧ ∀ e, e < c.lenP i → okI c i e
def okU : Prop := c.nU ≤ 64 ∧ ∀ e, e < c.nU → (0 ≤ c.uP e ∧ c.uP e ≤ (c.nP : Int) - 1) ∧ (0 ≤ c.uL e ∧ c.uL e ≤ c.L - 1) ∧ (0 ≤ c.uD e ∧ c.uD e ≤ 16777215)
def okC : Prop := okN c ∧ okP c ∧ okU c
end
def colsOf : Blk → List Col
  | .row _ _ _ l => l
  | .fam _ _ _ _ l => l
  | .view _ _ l => l
  | _ => []
def numC : SC → Option Int
  | .iv _ x => some x
  | .ki _ x => some x
  | _ => none
def cfBlk (H : HL) (kr ku : Nat) (K : Nat → (Nat → Nat → Nat) → (Nat → Nat → Nat) → (Nat → Nat → Int) → (Nat → Nat → Int) → (Nat → Nat → Int) → (Nat → Nat → Int) → (Nat → Nat → Int) → (Nat → Nat → Int) → Out (SV × Hp)) : Out (SV × Hp) :=
  match find kr H, find ku H with
  | some br, some bu => match colsOf br, colsOf bu with
    | [.cs kF _ _ ln cp], [.ci _ f, .ci _ g, .ci _ h] => match find kF H with
      | some bF => match colsOf bF with
        | [.ci _ o, .ci _ a, .ci _ b] => fN kF fun kF => K kF ln cp o a b f g h
        | _ => .bad 430
      | _ => .bad 431
    | _, _ => .bad 432
  | _, _ => .bad 433
theorem cfBlk_ok (H : HL) (kr ku : Nat) (K : Nat → (Nat → Nat → Nat) → (Nat → Nat → Nat) → (Nat → Nat → Int) → (Nat → Nat → Int) → (Nat → Nat → Int) → (Nat → Nat → Int) → (Nat → Nat → Int) → (Nat → Nat → Int) → Out (SV × Hp)) : (∃ n, cfBlk H kr ku K = .bad n) ∨ ∃ a b c d e f g i j, cfBlk H kr ku K = K a b c d e f g i j := by
  unfold cfBlk
  simp only [fN_eq]
  repeat' split
  all_goals first | exact .inl ⟨_, rfl⟩ | exact .inr ⟨_, _, _, _, _, _, _, _, _, rfl⟩
/-! ### Small functions of numbers -/
def inTree (v lo hi : Int) : Out (SV × Hp) := execF P con0 noAnn 3 2 36 [iv v, iv lo, iv hi] emp
def postIn : List Int → Out SV
  | [v, lo, hi] => .leaf (.c (.bv (decide (lo ≤ v ∧ v ≤ hi))))
  | _ => .bad 400
end
end Go.Proofs.Ytimklokgjmdobaa.Ck


/- Functions of numbers: the executor's trees, printed by program. -/
set_option maxRecDepth 100000
namespace Go.Proofs.Ytimklokgjmdobaa.Ck
open Go Go.RowKit Sx Cn Dc

theorem in_eq (v lo hi : Int) : inTree v lo hi =
  Out.br (decide (v ≥ lo))
    (Out.leaf (SV.c (SC.bv (decide (v ≤ hi))), { h := [], nxt := 0, D := fun x => True }))
    (Out.leaf (SV.c (SC.kb false), { h := [], nxt := 0, D := fun x => True })) := by kernel_rfl

end Go.Proofs.Ytimklokgjmdobaa.Ck


/- config.Check: what is said of its loops. -/
set_option maxRecDepth 100000
namespace Go.Proofs.Ytimklokgjmdobaa.Ck
open Go Go.RowKit Sx Cn Dc
theorem three_args {l : List Int} (h : l.length = 3) : ∃ a b c, l = [a, b, c] := by
  match l, h with
  | [a, b, c], _ => exact ⟨a, b, c, rfl⟩
theorem pure127 : PureC P 36 [.i64, .i64, .i64] postIn := pureC_of (execF_ok0 (P := P) (con := con0) (u := 3) ConOK.nil 2) fun l hl K hK => by
  obtain ⟨v, lo, hi, rfl⟩ := three_args hl
  have hK : K (.c (.bv (decide (lo ≤ v ∧ v ≤ hi)))) := hK
  change (inTree v lo hi).holds _
  rw [in_eq]
  simp only [Out.holds]
  refine ⟨fun h => ?_, fun h => ?_⟩
  · have h := of_decide_eq_true h
    refine ⟨rfl, .c (.bv (decide (lo ≤ v ∧ v ≤ hi))), ?_, hK⟩
    show decide (v ≤ hi) = decide (lo ≤ v ∧ v ≤ hi)
    have h' : lo ≤ v := h
    simp [h']
  · have h := of_decide_eq_false h
    refine ⟨rfl, .c (.bv (decide (lo ≤ v ∧ v ≤ hi))), ?_, hK⟩
    show false = decide (lo ≤ v ∧ v ≤ hi)
    have h' : ¬ lo ≤ v := h
    simp [h']
noncomputable section
def con7 : Con := Con.add 36 (conP [.i64, .i64, .i64] postIn) con0
theorem con7_ok : ConOK P con7 := .add (conP_ok pure127) ConOK.nil
variable (c : Cf)
end
end Go.Proofs.Ytimklokgjmdobaa.Ck


/- Check of any configuration: what it answers; what is said of its loops. -/
namespace Go.Proofs.Ytimklokgjmdobaa.Vc
open Go Go.RowKit Sx Cn Dc Ck
def intT (i : Nat) (s : St) : Option Int := match s.tmps[i]? with
  | some (some (.c c)) => match asI (.c c) with
    | some r => some r.2.2
    | none => none
  | _ => none
noncomputable section
open Classical in
def pE (c : Cf) : Nat → Nat → Int
  | _, 0 => 0
  | i, k + 1 => if 32 < c.lenP i then 2 else if ∃ e, e < c.lenP i ∧ ¬ okI c i e then 1 else pE c (i + 1) k
open Classical in
def uE (c : Cf) : Nat → Nat → Int
  | _, 0 => 0
  | i, k + 1 => if ¬ (0 ≤ c.uP i ∧ c.uP i ≤ (c.nP : Int) - 1) then 3 else if ¬ ((0 ≤ c.uL i ∧ c.uL i ≤ c.L - 1) ∧ (0 ≤ c.uD i ∧ c.uD i ≤ 16777215)) then 1 else uE c (i + 1) k
open Classical in
def progE (c : Cf) : Int := if ¬ (1 ≤ c.nP ∧ c.nP ≤ 32) then 2 else pE c 0 c.nP
open Classical in
def subE (c : Cf) : Int := if 64 < c.nU then 2 else uE c 0 c.nU
open Classical in
def errE (c : Cf) : Int := if ¬ okN c then 1 else if progE c ≠ 0 then progE c else subE c
def retC (x : Int) (c : Cf) (pre : Prop) : Out (SV × Hp) := .need pre (.leaf (iv x, ⟨[], 3, fun _ => True⟩))
section
variable (c : Cf)
def cntL (t : Nat) (I : Int → Prop) (n : Nat) : LA Int := ⟨[], fun _ => [], [t], fun i => [iv i], intT t, I, fun i => n - i.toNat⟩
def progI (i : Int) : Prop := 0 ≤ i ∧ i ≤ c.nP ∧ pE c i.toNat (c.nP - i.toNat) = pE c 0 c.nP
def instrI (i : Int) (k : Int) : Prop := 0 ≤ k ∧ k ≤ c.lenP i.toNat ∧ ∀ e : Nat, (e : Int) < k → okI c i.toNat e
def subI (i : Int) : Prop := 0 ≤ i ∧ i ≤ c.nU ∧ uE c i.toNat (c.nU - i.toNat) = uE c 0 c.nU
def av101 : AV := .loop Int [] (fun _ => some (cntL 15 (progI c) c.nP)) (.loop Int [] (fun s => (intT 15 s).map fun i => cntL 24 (instrI c i) (c.lenP i.toNat)) .nil .nil) .nil
def av102 : AV := .loop Int [] (fun _ => some (cntL 12 (subI c) c.nU)) .nil .nil
def fin0 (x : Int) : SV → Hp → V := finV (X := Unit) 3 3 (fun _ _ => some ()) (fun _ _ => []) (fun _ => True) (fun _ => iv x) (fun _ => [])
def ver101 : V := verF P con7 3 3 34 [] (av101 c) [argC c] ⟨hC c, 3, fun _ => True⟩ (fin0 (progE c))
def ver102 : V := verF P con7 3 3 35 [] (av102 c) [argC c] ⟨hC c, 3, fun _ => True⟩ (fin0 (subE c))
end
end
end Go.Proofs.Ytimklokgjmdobaa.Vc


/- config.Check of any configuration: the conditions, printed by program. -/
set_option maxRecDepth 100000
namespace Go.Proofs.Ytimklokgjmdobaa.Vc
open Go Go.RowKit Sx Cn Dc Ck

theorem ver101_eq (c : Cf) : ver101 c =
  V.br (!decide (Int.ofNat 1 ≤ (↑c.nP : Int) ∧ (↑c.nP : Int) ≤ Int.ofNat 32))
    (V.need True
    (V.need (Int.ofNat 2 = progE c) V.ok))
    (V.need (Int.ofNat 0 ≤ Int.ofNat 0 ∧ Int.ofNat 0 ≤ (↑c.nP : Int) ∧ pE c 0 (c.nP - 0) = pE c 0 c.nP)
    (V.need (Int.ofNat 0 = Int.ofNat 0)
    (V.any Int (progI c) fun x => V.br (decide (x < (↑c.nP : Int)))
    (V.need (Int.ofNat 0 ≤ x ∧ x < (↑c.nP : Int))
    (V.need (0 < 1 ∧ 0 + x.toNat < c.nP)
    (V.need (0 < 1 ∧ 0 + x.toNat < c.nP)
    (V.br (decide ((↑(c.lenP (0 + x.toNat)) : Int) > Int.ofNat 32))
    (V.need True
    (V.need (Int.ofNat 2 = progE c) V.ok))
    (V.need (Int.ofNat 0 ≤ Int.ofNat 0 ∧ Int.ofNat 0 ≤ (↑(c.lenP x.toNat) : Int) ∧ ∀ (e : Nat), (↑e : Int) < Int.ofNat 0 → okI c x.toNat e)
    (V.need (Int.ofNat 0 = Int.ofNat 0)
    (V.any Int (instrI c x) fun x_1 => V.br (decide (x_1 < (↑(c.lenP (0 + x.toNat)) : Int)))
    (V.need (Int.ofNat 0 ≤ x_1 ∧ x_1 < (↑(c.lenP (0 + x.toNat)) : Int))
    (V.need (0 + x.toNat < c.nP ∧ 0 + x_1.toNat < c.lenP (0 + x.toNat))
    (V.need (0 + x.toNat < c.nP ∧ 0 + x_1.toNat < c.lenP (0 + x.toNat))
    (V.need (0 + x.toNat < c.nP ∧ 0 + x_1.toNat < c.lenP (0 + x.toNat))
    (V.need (0 + x.toNat < c.nP ∧ 0 + x_1.toNat < c.lenP (0 + x.toNat))
    (V.need (0 < 1 ∧ 0 < 1)
    (V.need (0 < 1 ∧ 0 < 1)
    (V.need (0 < 1 ∧ 0 < 1)
    (V.need (0 < 1 ∧ 0 < 1)
    (V.need (0 < 1 ∧ 0 < 1)
    (V.need (0 < 1 ∧ 0 < 1)
    (V.need (0 < 1 ∧ 0 < 1)
    (V.need (0 < 1 ∧ 0 < 1)
    (V.need (0 < 1 ∧ 0 < 1)
    (V.need (0 < 1 ∧ 0 < 1)
    (V.need (0 < 1 ∧ 0 < 1)
    (V.br (c.iO (0 + x.toNat) (0 + x_1.toNat) == Int.ofNat 0)
    (V.br (decide (Int.ofNat 1 ≤ c.iA (0 + x.toNat) (0 + x_1.toNat) ∧ c.iA (0 + x.toNat) (0 + x_1.toNat) ≤ Int.ofNat 64))
    (V.br (!c.iB (0 + x.toNat) (0 + x_1.toNat) == Int.ofNat 0)
    (V.need True
    (V.need (Int.ofNat 1 = progE c) V.ok))
    (V.need (Int.ofNat 0 ≤ IntKind.i64.wrap (x_1 + Int.ofNat 1) ∧ IntKind.i64.wrap (x_1 + Int.ofNat 1) ≤ (↑(c.lenP x.toNat) : Int) ∧ ∀ (e : Nat), (↑e : Int) < IntKind.i64.wrap (x_1 + Int.ofNat 1) → okI c x.toNat e)
    (V.need (c.lenP x.toNat - (IntKind.i64.wrap (x_1 + Int.ofNat 1)).toNat < c.lenP x.toNat - x_1.toNat)
    (V.need (IntKind.i64.wrap (x_1 + Int.ofNat 1) = IntKind.i64.wrap (x_1 + Int.ofNat 1)) V.ok))))
    (V.need True
    (V.need (Int.ofNat 1 = progE c) V.ok)))
    (V.br (c.iO (0 + x.toNat) (0 + x_1.toNat) == Int.ofNat 1)
    (V.br (decide (Int.ofNat 0 ≤ c.iA (0 + x.toNat) (0 + x_1.toNat) ∧ c.iA (0 + x.toNat) (0 + x_1.toNat) ≤ IntKind.i64.wrap ((↑c.nP : Int) - Int.ofNat 1)))
    (V.br (!decide (Int.ofNat 0 ≤ c.iB (0 + x.toNat) (0 + x_1.toNat) ∧ c.iB (0 + x.toNat) (0 + x_1.toNat) ≤ IntKind.i64.wrap (c.L - Int.ofNat 1)))
    (V.need True
    (V.need (Int.ofNat 1 = progE c) V.ok))
    (V.need (Int.ofNat 0 ≤ IntKind.i64.wrap (x_1 + Int.ofNat 1) ∧ IntKind.i64.wrap (x_1 + Int.ofNat 1) ≤ (↑(c.lenP x.toNat) : Int) ∧ ∀ (e : Nat), (↑e : Int) < IntKind.i64.wrap (x_1 + Int.ofNat 1) → okI c x.toNat e)
    (V.need (c.lenP x.toNat - (IntKind.i64.wrap (x_1 + Int.ofNat 1)).toNat < c.lenP x.toNat - x_1.toNat)
    (V.need (IntKind.i64.wrap (x_1 + Int.ofNat 1) = IntKind.i64.wrap (x_1 + Int.ofNat 1)) V.ok))))
    (V.need True
    (V.need (Int.ofNat 1 = progE c) V.ok)))
    (V.br (c.iO (0 + x.toNat) (0 + x_1.toNat) == Int.ofNat 2)
    (V.br (decide (Int.ofNat 0 ≤ c.iA (0 + x.toNat) (0 + x_1.toNat) ∧ c.iA (0 + x.toNat) (0 + x_1.toNat) ≤ Int.ofNat 31))
    (V.br (!c.iB (0 + x.toNat) (0 + x_1.toNat) == Int.ofNat 0)
    (V.need True
    (V.need (Int.ofNat 1 = progE c) V.ok))
    (V.need (Int.ofNat 0 ≤ IntKind.i64.wrap (x_1 + Int.ofNat 1) ∧ IntKind.i64.wrap (x_1 + Int.ofNat 1) ≤ (↑(c.lenP x.toNat) : Int) ∧ ∀ (e : Nat), (↑e : Int) < IntKind.i64.wrap (x_1 + Int.ofNat 1) → okI c x.toNat e)
    (V.need (c.lenP x.toNat - (IntKind.i64.wrap (x_1 + Int.ofNat 1)).toNat < c.lenP x.toNat - x_1.toNat)
    (V.need (IntKind.i64.wrap (x_1 + Int.ofNat 1) = IntKind.i64.wrap (x_1 + Int.ofNat 1)) V.ok))))
    (V.need True
    (V.need (Int.ofNat 1 = progE c) V.ok)))
    (V.need True
    (V.need (Int.ofNat 1 = progE c) V.ok)))))))))))))))))))))
    (V.need (Int.ofNat 0 ≤ IntKind.i64.wrap (x + Int.ofNat 1) ∧ IntKind.i64.wrap (x + Int.ofNat 1) ≤ (↑c.nP : Int) ∧ pE c (IntKind.i64.wrap (x + Int.ofNat 1)).toNat (c.nP - (IntKind.i64.wrap (x + Int.ofNat 1)).toNat) = pE c 0 c.nP)
    (V.need (c.nP - (IntKind.i64.wrap (x + Int.ofNat 1)).toNat < c.nP - x.toNat)
    (V.need (IntKind.i64.wrap (x + Int.ofNat 1) = IntKind.i64.wrap (x + Int.ofNat 1)) V.ok))))))))))
    (V.need True
    (V.need (Int.ofNat 0 = progE c) V.ok))))) := by kernel_rfl

theorem ver102_eq (c : Cf) : ver102 c =
  V.br (decide ((↑c.nU : Int) > Int.ofNat 64))
    (V.need True
    (V.need (Int.ofNat 2 = subE c) V.ok))
    (V.need (Int.ofNat 0 ≤ Int.ofNat 0 ∧ Int.ofNat 0 ≤ (↑c.nU : Int) ∧ uE c 0 (c.nU - 0) = uE c 0 c.nU)
    (V.need (Int.ofNat 0 = Int.ofNat 0)
    (V.any Int (subI c) fun x => V.br (decide (x < (↑c.nU : Int)))
    (V.need (Int.ofNat 0 ≤ x ∧ x < (↑c.nU : Int))
    (V.need (0 < 1 ∧ 0 + x.toNat < c.nU)
    (V.need (0 < 1 ∧ 0 + x.toNat < c.nU)
    (V.need (0 < 1 ∧ 0 + x.toNat < c.nU)
    (V.need (0 < 1 ∧ 0 + x.toNat < c.nU)
    (V.need (0 < 1 ∧ 0 < 1)
    (V.need (0 < 1 ∧ 0 < 1)
    (V.br (!decide (Int.ofNat 0 ≤ c.uP (0 + x.toNat) ∧ c.uP (0 + x.toNat) ≤ IntKind.i64.wrap ((↑c.nP : Int) - Int.ofNat 1)))
    (V.need True
    (V.need (Int.ofNat 3 = subE c) V.ok))
    (V.need (0 < 1 ∧ 0 < 1)
    (V.need (0 < 1 ∧ 0 < 1)
    (V.br (!decide (Int.ofNat 0 ≤ c.uL (0 + x.toNat) ∧ c.uL (0 + x.toNat) ≤ IntKind.i64.wrap (c.L - Int.ofNat 1)))
    (V.need True
    (V.need (Int.ofNat 1 = subE c) V.ok))
    (V.br (!decide (Int.ofNat 0 ≤ c.uD (0 + x.toNat) ∧ c.uD (0 + x.toNat) ≤ Int.ofNat 16777215))
    (V.need True
    (V.need (Int.ofNat 1 = subE c) V.ok))
    (V.need (Int.ofNat 0 ≤ IntKind.i64.wrap (x + Int.ofNat 1) ∧ IntKind.i64.wrap (x + Int.ofNat 1) ≤ (↑c.nU : Int) ∧ uE c (IntKind.i64.wrap (x + Int.ofNat 1)).toNat (c.nU - (IntKind.i64.wrap (x + Int.ofNat 1)).toNat) = uE c 0 c.nU)
    (V.need (c.nU - (IntKind.i64.wrap (x + Int.ofNat 1)).toNat < c.nU - x.toNat)
    (V.need (IntKind.i64.wrap (x + Int.ofNat 1) = IntKind.i64.wrap (x + Int.ofNat 1)) V.ok)))))))))))))))
    (V.need True
    (V.need (Int.ofNat 0 = subE c) V.ok))))) := by kernel_rfl


end Go.Proofs.Ytimklokgjmdobaa.Vc


/- config.Check of any configuration: the contracts. -/
set_option maxRecDepth 100000
namespace Go.Proofs.Ytimklokgjmdobaa.Vc
open Go Go.RowKit Sx Cn Dc Ck

theorem pE_step {c : Cf} {i : Nat} (h : i < c.nP) (hl : c.lenP i ≤ 32) (ha : ∀ e, e < c.lenP i → okI c i e) : pE c i (c.nP - i) = pE c (i + 1) (c.nP - (i + 1)) := by
  rw [show c.nP - i = c.nP - (i + 1) + 1 by omega, pE, if_neg (by omega), if_neg (by rintro ⟨e, h1, h2⟩; exact h2 (ha e h1))]
theorem pE_len {c : Cf} {i : Nat} (h : i < c.nP) (hl : 32 < c.lenP i) : pE c i (c.nP - i) = 2 := by
  rw [show c.nP - i = c.nP - (i + 1) + 1 by omega, pE, if_pos hl]
theorem pE_bad {c : Cf} {i e : Nat} (h : i < c.nP) (hl : c.lenP i ≤ 32) (he : e < c.lenP i) (hb : ¬ okI c i e) : pE c i (c.nP - i) = 1 := by
  rw [show c.nP - i = c.nP - (i + 1) + 1 by omega, pE, if_neg (by omega), if_pos ⟨e, he, hb⟩]
theorem pE_end {c : Cf} : pE c c.nP (c.nP - c.nP) = 0 := by rw [Nat.sub_self]; rfl
theorem prog_rest {c : Cf} (h : (1 : Int) ≤ c.nP ∧ (c.nP : Int) ≤ 32) : progE c = pE c 0 c.nP := by
  unfold progE; rw [if_neg (by omega)]
theorem prog_len {c : Cf} {i : Int} (h : (1 : Int) ≤ c.nP ∧ (c.nP : Int) ≤ 32) (hi : 0 ≤ i ∧ i ≤ (c.nP : Int) ∧ pE c i.toNat (c.nP - i.toNat) = pE c 0 c.nP) (hlt : i < c.nP) (hl : (32 : Int) < c.lenP i.toNat) : 2 = progE c := by
  rw [prog_rest h, ← hi.2.2, pE_len (by omega) (by omega)]
theorem prog_bad {c : Cf} {i k : Int} (h : (1 : Int) ≤ c.nP ∧ (c.nP : Int) ≤ 32) (hi : 0 ≤ i ∧ i ≤ (c.nP : Int) ∧ pE c i.toNat (c.nP - i.toNat) = pE c 0 c.nP) (hlt : i < c.nP) (hl : ¬ (32 : Int) < c.lenP i.toNat) (hk : k < c.lenP i.toNat) (h0 : 0 ≤ k) (hb : ¬ okI c i.toNat k.toNat) : 1 = progE c := by
  rw [prog_rest h, ← hi.2.2, pE_bad (by omega) (by omega) (e := k.toNat) (by omega) hb]
theorem instr_next {c : Cf} {i k : Int} (hk : 0 ≤ k ∧ k ≤ (c.lenP i.toNat : Int) ∧ ∀ e : Nat, (e : Int) < k → okI c i.toNat e) (hl : k < c.lenP i.toNat) (hm : ¬ (32 : Int) < c.lenP i.toNat) {e : Nat} (he : (e : Int) < IntKind.i64.wrap (k + 1)) (ho : okI c i.toNat k.toNat) : okI c i.toNat e := by
  rw [w64 (by omega)] at he
  rcases Int.lt_or_eq_of_le (show (e : Int) ≤ k by omega) with h | h
  · exact hk.2.2 e h
  · have : e = k.toNat := by omega
    rw [this]; exact ho
theorem prog_next {c : Cf} {i k : Int} (h : (1 : Int) ≤ c.nP ∧ (c.nP : Int) ≤ 32) (hi : 0 ≤ i ∧ i ≤ (c.nP : Int) ∧ pE c i.toNat (c.nP - i.toNat) = pE c 0 c.nP) (hlt : i < c.nP) (hl : ¬ (32 : Int) < c.lenP i.toNat) (hk : 0 ≤ k ∧ k ≤ (c.lenP i.toNat : Int) ∧ ∀ e : Nat, (e : Int) < k → okI c i.toNat e) (hn : ¬ k < c.lenP i.toNat) :
    pE c (IntKind.i64.wrap (i + 1)).toNat (c.nP - (IntKind.i64.wrap (i + 1)).toNat) = pE c 0 c.nP := by
  rw [w64 (by omega), ← hi.2.2, pE_step (i := i.toNat) (by omega) (by omega) (fun e he => hk.2.2 e (by omega)), show (i + 1).toNat = i.toNat + 1 by omega]
theorem prog_end {c : Cf} {i : Int} (h : (1 : Int) ≤ c.nP ∧ (c.nP : Int) ≤ 32) (hi : 0 ≤ i ∧ i ≤ (c.nP : Int) ∧ pE c i.toNat (c.nP - i.toNat) = pE c 0 c.nP) (hn : ¬ i < c.nP) : 0 = progE c := by
  rw [prog_rest h, ← hi.2.2, show i.toNat = c.nP by omega, pE_end]
theorem vh101 {c : Cf} (hN : okN c) : VHolds (ver101 c) := by
  constructor
  rw [ver101_eq]
  obtain ⟨_, hNL, _⟩ := hN
  simp only [V.holds, progI, instrI, Int.ofNat_eq_natCast, decide_eq_true_eq, decide_eq_false_iff_not, Bool.not_eq_true', Bool.not_eq_false', beq_iff_eq, beq_eq_false_iff_ne, ne_eq, true_and, and_true, forall_const, true_implies, implies_true, Nat.zero_add, Nat.sub_zero, Nat.lt_add_one, Nat.zero_lt_one, Int.natCast_zero, Int.natCast_one, Int.cast_ofNat_Int, gt_iff_lt, and_self, eq_self]
  have w1 : (1 : Int) ≤ c.nP ∧ (c.nP : Int) ≤ 32 → IntKind.i64.wrap ((c.nP : Int) - 1) = (c.nP : Int) - 1 := fun h => w64 (by omega)
  have w2 : IntKind.i64.wrap (c.L - 1) = c.L - 1 := w64 (by omega)
  rw [w2]
  repeat' first | exact True.intro | apply And.intro | intro _
  all_goals try omega
  all_goals try (unfold progE; rw [if_pos (by omega)]; done)
  all_goals try (first | exact prog_len (by assumption) (by assumption) (by assumption) (by assumption))
  all_goals try (rw [w1 (by assumption)] at *)
  all_goals try (exact prog_bad (by assumption) (by assumption) (by assumption) (by assumption) (by assumption) (by omega) (by unfold okI; omega))
  all_goals try (exact instr_next (by assumption) (by assumption) (by assumption) (by assumption) (by unfold okI; omega))
  all_goals try (exact prog_next (by assumption) (by assumption) (by assumption) (by assumption) (by assumption) (by assumption))
  all_goals try (rw [w64 (by omega)]; omega)
  all_goals exact prog_end (by assumption) (by assumption) (by assumption)
theorem uE_step {c : Cf} {i : Nat} (h : i < c.nU) (h1 : 0 ≤ c.uP i ∧ c.uP i ≤ (c.nP : Int) - 1) (h2 : (0 ≤ c.uL i ∧ c.uL i ≤ c.L - 1) ∧ (0 ≤ c.uD i ∧ c.uD i ≤ 16777215)) : uE c i (c.nU - i) = uE c (i + 1) (c.nU - (i + 1)) := by
  rw [show c.nU - i = c.nU - (i + 1) + 1 by omega, uE, if_neg (by omega), if_neg (by omega)]
theorem uE_unk {c : Cf} {i : Nat} (h : i < c.nU) (h1 : ¬ (0 ≤ c.uP i ∧ c.uP i ≤ (c.nP : Int) - 1)) : uE c i (c.nU - i) = 3 := by
  rw [show c.nU - i = c.nU - (i + 1) + 1 by omega, uE, if_pos h1]
theorem uE_range {c : Cf} {i : Nat} (h : i < c.nU) (h1 : 0 ≤ c.uP i ∧ c.uP i ≤ (c.nP : Int) - 1) (h2 : ¬ ((0 ≤ c.uL i ∧ c.uL i ≤ c.L - 1) ∧ (0 ≤ c.uD i ∧ c.uD i ≤ 16777215))) : uE c i (c.nU - i) = 1 := by
  rw [show c.nU - i = c.nU - (i + 1) + 1 by omega, uE, if_neg (by omega), if_pos h2]
theorem sub_rest {c : Cf} (h : ¬ (64 : Int) < c.nU) : subE c = uE c 0 c.nU := by
  unfold subE; rw [if_neg (by omega)]
theorem sub_unk {c : Cf} {i : Int} (h : ¬ (64 : Int) < c.nU) (hi : 0 ≤ i ∧ i ≤ (c.nU : Int) ∧ uE c i.toNat (c.nU - i.toNat) = uE c 0 c.nU) (hlt : i < c.nU) (h1 : ¬ (0 ≤ c.uP i.toNat ∧ c.uP i.toNat ≤ (c.nP : Int) - 1)) : 3 = subE c := by
  rw [sub_rest h, ← hi.2.2, uE_unk (by omega) h1]
theorem sub_range {c : Cf} {i : Int} (h : ¬ (64 : Int) < c.nU) (hi : 0 ≤ i ∧ i ≤ (c.nU : Int) ∧ uE c i.toNat (c.nU - i.toNat) = uE c 0 c.nU) (hlt : i < c.nU) (h1 : 0 ≤ c.uP i.toNat ∧ c.uP i.toNat ≤ (c.nP : Int) - 1) (h2 : ¬ ((0 ≤ c.uL i.toNat ∧ c.uL i.toNat ≤ c.L - 1) ∧ (0 ≤ c.uD i.toNat ∧ c.uD i.toNat ≤ 16777215))) : 1 = subE c := by
  rw [sub_rest h, ← hi.2.2, uE_range (by omega) h1 h2]
theorem sub_next {c : Cf} {i : Int} (h : ¬ (64 : Int) < c.nU) (hi : 0 ≤ i ∧ i ≤ (c.nU : Int) ∧ uE c i.toNat (c.nU - i.toNat) = uE c 0 c.nU) (hlt : i < c.nU) (h1 : 0 ≤ c.uP i.toNat ∧ c.uP i.toNat ≤ (c.nP : Int) - 1) (h2 : (0 ≤ c.uL i.toNat ∧ c.uL i.toNat ≤ c.L - 1) ∧ (0 ≤ c.uD i.toNat ∧ c.uD i.toNat ≤ 16777215)) :
    uE c (IntKind.i64.wrap (i + 1)).toNat (c.nU - (IntKind.i64.wrap (i + 1)).toNat) = uE c 0 c.nU := by
  rw [w64 (by omega), ← hi.2.2, uE_step (i := i.toNat) (by omega) h1 h2, show (i + 1).toNat = i.toNat + 1 by omega]
theorem sub_end {c : Cf} {i : Int} (h : ¬ (64 : Int) < c.nU) (hi : 0 ≤ i ∧ i ≤ (c.nU : Int) ∧ uE c i.toNat (c.nU - i.toNat) = uE c 0 c.nU) (hn : ¬ i < c.nU) : 0 = subE c := by
  rw [sub_rest h, ← hi.2.2, show i.toNat = c.nU by omega, Nat.sub_self]; rfl
theorem vh102 {c : Cf} (hN : okN c) (hP : (1 : Int) ≤ c.nP ∧ (c.nP : Int) ≤ 32) : VHolds (ver102 c) := by
  constructor
  rw [ver102_eq]
  obtain ⟨_, hNL, _⟩ := hN
  simp only [V.holds, subI, Int.ofNat_eq_natCast, decide_eq_true_eq, decide_eq_false_iff_not, Bool.not_eq_true', Bool.not_eq_false', beq_iff_eq, beq_eq_false_iff_ne, ne_eq, true_and, and_true, forall_const, true_implies, implies_true, Nat.zero_add, Nat.sub_zero, Nat.lt_add_one, Nat.zero_lt_one, Int.natCast_zero, Int.natCast_one, Int.cast_ofNat_Int, gt_iff_lt, and_self, eq_self]
  rw [show IntKind.i64.wrap ((c.nP : Int) - 1) = (c.nP : Int) - 1 from w64 (by omega), show IntKind.i64.wrap (c.L - 1) = c.L - 1 from w64 (by omega)]
  repeat' first | exact True.intro | apply And.intro | intro _
  all_goals try omega
  all_goals try (unfold subE; rw [if_pos (by omega)]; done)
  all_goals try (exact sub_unk (by assumption) (by assumption) (by assumption) (by assumption))
  all_goals try (exact sub_range (by assumption) (by assumption) (by assumption) (by assumption) (by omega))
  all_goals try (exact sub_next (by assumption) (by assumption) (by assumption) (by assumption) (by omega))
  all_goals try (exact sub_end (by assumption) (by assumption) (by assumption))
  all_goals try (rw [w64 (by omega)]; omega)
end Go.Proofs.Ytimklokgjmdobaa.Vc


/- Check, of the program and of the reference, for any configuration. -/
set_option maxRecDepth 100000
namespace Go.Proofs.Ytimklokgjmdobaa.Vc
open Go Go.RowKit Sx Cn Dc Ck
noncomputable section
def conCfP (post : Cf → Out (SV × Hp)) : List SV → Hp → Out (SV × Hp) := fun args H => match args with
  | [.a [x0, x1, x2, x3, x4, x5, x6, x7, x8, .slc kr _ _ _ nP rc, .slc ku _ _ _ nU cu]] => match numC x0, numC x1, numC x2, numC x3, numC x4, numC x5, numC x6, numC x7, numC x8 with
    | some W, some L, some C, some T, some D, some h, some B, some A, some Q => fN kr fun kr => fN ku fun ku => cfBlk H.h kr ku fun kF ln cp o a b f g k => useP [kr, ku, kF] 3
                [argC ⟨W, L, C, T, D, h, B, A, Q, nP.v, rc.v, nU.v, cu.v, fun e => ln 0 e, fun e => cp 0 e, o, a, b, fun e => f 0 e, fun e => g 0 e, fun e => k 0 e⟩]
                (hC ⟨W, L, C, T, D, h, B, A, Q, nP.v, rc.v, nU.v, cu.v, fun e => ln 0 e, fun e => cp 0 e, o, a, b, fun e => f 0 e, fun e => g 0 e, fun e => k 0 e⟩)
                (post ⟨W, L, C, T, D, h, B, A, Q, nP.v, rc.v, nU.v, cu.v, fun e => ln 0 e, fun e => cp 0 e, o, a, b, fun e => f 0 e, fun e => g 0 e, fun e => k 0 e⟩) args H
    | _, _, _, _, _, _, _, _, _ => .bad 434
  | _ => .bad 435
theorem conCfP_ok {f : FuncId} {post : Cf → Out (SV × Hp)} (h : ∀ c, LocalOK P f [argC c] (hC c) 3 (post c)) : ContractOK P f (conCfP post) := contract_of_useP fun args H => by
  unfold conCfP
  simp only [fN_eq]
  repeat' split
  all_goals first | exact .inl ⟨_, rfl⟩ | exact (cfBlk_ok _ _ _ _).elim .inl fun ⟨_, _, _, _, _, _, _, _, _, e⟩ => .inr ⟨_, _, _, _, _, e, h _⟩
def conProg : List SV → Hp → Out (SV × Hp) := conCfP fun c => retC (progE c) c (okN c)
def conSub : List SV → Hp → Out (SV × Hp) := conCfP fun c => retC (subE c) c (okN c ∧ (1 : Int) ≤ c.nP ∧ (c.nP : Int) ≤ 32)
theorem conProg_ok : ContractOK P 34 conProg := conCfP_ok fun c => local_of_ver0 con7_ok fun hN => vh101 hN
theorem conSub_ok : ContractOK P 35 conSub := conCfP_ok fun c => local_of_ver0 con7_ok fun h => vh102 h.1 h.2
def conC1 : Con := Con.add 34 conProg (Con.add 35 conSub con7)
theorem conC1_ok : ConOK P conC1 := .add conProg_ok (.add conSub_ok con7_ok)
section
variable (c : Cf)
def ver58 : V := verF P conC1 3 3 26 [] .nil [argC c] ⟨hC c, 3, fun _ => True⟩ (fin0 (errE c))
end
end
end Go.Proofs.Ytimklokgjmdobaa.Vc


/- Check: the conditions, printed by program. -/
set_option maxRecDepth 100000
namespace Go.Proofs.Ytimklokgjmdobaa.Vc
open Go Go.RowKit Sx Cn Dc Ck

theorem ver58_eq (c : Cf) : ver58 c =
  V.br (decide (Int.ofNat 1 ≤ c.W ∧ c.W ≤ Int.ofNat 16))
    (V.br (decide (Int.ofNat 1 ≤ c.L ∧ c.L ≤ Int.ofNat 64))
    (V.br (decide (Int.ofNat 1 ≤ c.C ∧ c.C ≤ min (Int.ofNat 8) c.L))
    (V.br (decide (Int.ofNat 1 ≤ c.T ∧ c.T ≤ Int.ofNat 256))
    (V.br (decide (Int.ofNat 1 ≤ c.D ∧ c.D ≤ Int.ofNat 64))
    (V.br (decide (Int.ofNat 1 ≤ c.H ∧ c.H ≤ Int.ofNat 64))
    (V.br (decide (Int.ofNat 1 ≤ c.B ∧ c.B ≤ c.D))
    (V.br (decide (Int.ofNat 0 ≤ c.A ∧ c.A ≤ Int.ofNat 65536))
    (V.br (!decide (Int.ofNat 1 ≤ c.P ∧ c.P ≤ Int.ofNat 65536))
    (V.need True
    (V.need (Int.ofNat 1 = errE c) V.ok))
    (V.need (c.W = c.W)
    (V.need (c.L = c.L)
    (V.need (c.C = c.C)
    (V.need (c.T = c.T)
    (V.need (c.D = c.D)
    (V.need (c.H = c.H)
    (V.need (c.B = c.B)
    (V.need (c.A = c.A)
    (V.need (c.P = c.P)
    (V.need (c.nP = c.nP)
    (V.need (c.rc = c.rc)
    (V.need (c.nU = c.nU)
    (V.need (c.cu = c.cu)
    (V.need (1 ≤ 1)
    (V.need (∀ (i : Nat), i < 1 → c.nP ≤ c.nP)
    (V.need (∀ (i e : Nat), i < 1 ∧ e < c.nP → e = e)
    (V.need (∀ (i e : Nat), i < 1 ∧ e < c.nP → c.lenP e = c.lenP e)
    (V.need (∀ (i e : Nat), i < 1 ∧ e < c.nP → c.FC e = c.FC e)
    (V.need (1 ≤ 1)
    (V.need (∀ (i : Nat), i < 1 → c.nU ≤ c.nU)
    (V.need (∀ (i e : Nat), i < 1 ∧ e < c.nU → c.uP e = c.uP e)
    (V.need (∀ (i e : Nat), i < 1 ∧ e < c.nU → c.uL e = c.uL e)
    (V.need (∀ (i e : Nat), i < 1 ∧ e < c.nU → c.uD e = c.uD e)
    (V.need (c.nP ≤ c.nP)
    (V.need (∀ (i : Nat), i < c.nP → c.lenP i ≤ c.lenP i)
    (V.need (∀ (i e : Nat), i < c.nP ∧ e < c.lenP i → c.iO i e = c.iO i e)
    (V.need (∀ (i e : Nat), i < c.nP ∧ e < c.lenP i → c.iA i e = c.iA i e)
    (V.need (∀ (i e : Nat), i < c.nP ∧ e < c.lenP i → c.iB i e = c.iB i e)
    (V.need (okN { W := c.W, L := c.L, C := c.C, T := c.T, D := c.D, H := c.H, B := c.B, A := c.A, P := c.P, nP := c.nP, rc := c.rc, nU := c.nU, cu := c.cu, lenP := fun e => c.lenP e, FC := fun e => c.FC e, iO := fun i e => c.iO i e, iA := fun i e => c.iA i e, iB := fun i e => c.iB i e, uP := fun e => c.uP e, uL := fun e => c.uL e, uD := fun e => c.uD e })
    (V.br (progE { W := c.W, L := c.L, C := c.C, T := c.T, D := c.D, H := c.H, B := c.B, A := c.A, P := c.P, nP := c.nP, rc := c.rc, nU := c.nU, cu := c.cu, lenP := fun e => c.lenP e, FC := fun e => c.FC e, iO := fun i e => c.iO i e, iA := fun i e => c.iA i e, iB := fun i e => c.iB i e, uP := fun e => c.uP e, uL := fun e => c.uL e, uD := fun e => c.uD e } != Int.ofNat 0)
    (V.need True
    (V.need (progE { W := c.W, L := c.L, C := c.C, T := c.T, D := c.D, H := c.H, B := c.B, A := c.A, P := c.P, nP := c.nP, rc := c.rc, nU := c.nU, cu := c.cu, lenP := fun e => c.lenP e, FC := fun e => c.FC e, iO := fun i e => c.iO i e, iA := fun i e => c.iA i e, iB := fun i e => c.iB i e, uP := fun e => c.uP e, uL := fun e => c.uL e, uD := fun e => c.uD e } = errE c) V.ok))
    (V.need (c.W = c.W)
    (V.need (c.L = c.L)
    (V.need (c.C = c.C)
    (V.need (c.T = c.T)
    (V.need (c.D = c.D)
    (V.need (c.H = c.H)
    (V.need (c.B = c.B)
    (V.need (c.A = c.A)
    (V.need (c.P = c.P)
    (V.need (c.nP = c.nP)
    (V.need (c.rc = c.rc)
    (V.need (c.nU = c.nU)
    (V.need (c.cu = c.cu)
    (V.need (1 ≤ 1)
    (V.need (∀ (i : Nat), i < 1 → c.nP ≤ c.nP)
    (V.need (∀ (i e : Nat), i < 1 ∧ e < c.nP → e = e)
    (V.need (∀ (i e : Nat), i < 1 ∧ e < c.nP → c.lenP e = c.lenP e)
    (V.need (∀ (i e : Nat), i < 1 ∧ e < c.nP → c.FC e = c.FC e)
    (V.need (1 ≤ 1)
    (V.need (∀ (i : Nat), i < 1 → c.nU ≤ c.nU)
    (V.need (∀ (i e : Nat), i < 1 ∧ e < c.nU → c.uP e = c.uP e)
    (V.need (∀ (i e : Nat), i < 1 ∧ e < c.nU → c.uL e = c.uL e)
    (V.need (∀ (i e : Nat), i < 1 ∧ e < c.nU → c.uD e = c.uD e)
    (V.need (c.nP ≤ c.nP)
    (V.need (∀ (i : Nat), i < c.nP → c.lenP i ≤ c.lenP i)
    (V.need (∀ (i e : Nat), i < c.nP ∧ e < c.lenP i → c.iO i e = c.iO i e)
    (V.need (∀ (i e : Nat), i < c.nP ∧ e < c.lenP i → c.iA i e = c.iA i e)
    (V.need (∀ (i e : Nat), i < c.nP ∧ e < c.lenP i → c.iB i e = c.iB i e)
    (V.need (okN { W := c.W, L := c.L, C := c.C, T := c.T, D := c.D, H := c.H, B := c.B, A := c.A, P := c.P, nP := c.nP, rc := c.rc, nU := c.nU, cu := c.cu, lenP := fun e => c.lenP e, FC := fun e => c.FC e, iO := fun i e => c.iO i e, iA := fun i e => c.iA i e, iB := fun i e => c.iB i e, uP := fun e => c.uP e, uL := fun e => c.uL e, uD := fun e => c.uD e } ∧ Int.ofNat 1 ≤ (↑c.nP : Int) ∧ (↑c.nP : Int) ≤ Int.ofNat 32)
    (V.need True
    (V.need (subE { W := c.W, L := c.L, C := c.C, T := c.T, D := c.D, H := c.H, B := c.B, A := c.A, P := c.P, nP := c.nP, rc := c.rc, nU := c.nU, cu := c.cu, lenP := fun e => c.lenP e, FC := fun e => c.FC e, iO := fun i e => c.iO i e, iA := fun i e => c.iA i e, iB := fun i e => c.iB i e, uP := fun e => c.uP e, uL := fun e => c.uL e, uD := fun e => c.uD e } = errE c) V.ok))))))))))))))))))))))))))))))))))))))))))))))))))))))))))))))
    (V.need True
    (V.need (Int.ofNat 1 = errE c) V.ok)))
    (V.need True
    (V.need (Int.ofNat 1 = errE c) V.ok)))
    (V.need True
    (V.need (Int.ofNat 1 = errE c) V.ok)))
    (V.need True
    (V.need (Int.ofNat 1 = errE c) V.ok)))
    (V.need True
    (V.need (Int.ofNat 1 = errE c) V.ok)))
    (V.need True
    (V.need (Int.ofNat 1 = errE c) V.ok)))
    (V.need True
    (V.need (Int.ofNat 1 = errE c) V.ok)))
    (V.need True
    (V.need (Int.ofNat 1 = errE c) V.ok)) := by kernel_rfl

end Go.Proofs.Ytimklokgjmdobaa.Vc


/- Check, of the program and of the reference: the contracts. -/
set_option maxRecDepth 100000
namespace Go.Proofs.Ytimklokgjmdobaa.Vc
open Go Go.RowKit Sx Cn Dc Ck

theorem err_num {c : Cf} (h : ¬ okN c) : 1 = errE c := by unfold errE; rw [if_pos h]
theorem err_prog {c : Cf} (h : okN c) (hp : ¬ progE c = 0) : progE c = errE c := by unfold errE; rw [if_neg (fun g => g h), if_pos hp]
theorem err_sub {c : Cf} (h : okN c) (hp : progE c = 0) : subE c = errE c := by unfold errE; rw [if_neg (fun g => g h), if_neg (fun g => g hp)]
theorem prog_zero {c : Cf} (h : progE c = 0) : (1 : Int) ≤ c.nP ∧ (c.nP : Int) ≤ 32 := by
  unfold progE at h
  split at h
  · cases h
  · omega
theorem cf_eta (c : Cf) : (⟨c.W, c.L, c.C, c.T, c.D, c.H, c.B, c.A, c.P, c.nP, c.rc, c.nU, c.cu, fun e => c.lenP e, fun e => c.FC e, fun i e => c.iO i e, fun i e => c.iA i e, fun i e => c.iB i e, fun e => c.uP e, fun e => c.uL e, fun e => c.uD e⟩ : Cf) = c := rfl
theorem vh58 (c : Cf) : VHolds (ver58 c) := by
  constructor
  rw [ver58_eq]
  simp only [V.holds, Int.ofNat_eq_natCast, decide_eq_true_eq, decide_eq_false_iff_not, Bool.not_eq_true', Bool.not_eq_false', bne_iff_ne, bne_eq_false_iff_eq, beq_iff_eq, beq_eq_false_iff_ne, ne_eq, true_and, and_true, forall_const, true_implies, implies_true, Nat.zero_add, Nat.sub_zero, Nat.lt_add_one, Nat.zero_lt_one, Int.natCast_zero, Int.natCast_one, Int.cast_ofNat_Int, gt_iff_lt, and_self, eq_self, Nat.le_refl, cf_eta]
  repeat' first | exact True.intro | with_reducible apply And.intro | intro _
  all_goals first
    | (exact err_num (by unfold okN; omega))
    | (unfold okN; omega)
    | (exact err_prog (by unfold okN; omega) (by assumption))
    | (exact err_sub (by unfold okN; omega) (by assumption))
    | (exact (prog_zero (by assumption)).1)
    | (exact (prog_zero (by assumption)).2)
    | exact ⟨by unfold okN; omega, prog_zero (by assumption)⟩
noncomputable section
def retE : Cf → Out (SV × Hp) := fun c => retC (errE c) c True
def conErr : List SV → Hp → Out (SV × Hp) := conCfP retE
theorem conErr58 : ContractOK P 26 conErr := conCfP_ok fun c => local_of_ver0 conC1_ok fun _ => vh58 c
end
end Go.Proofs.Ytimklokgjmdobaa.Vc


/- Encode, of the program and of the reference: what is written; a number's writing. -/
set_option maxRecDepth 100000
namespace Go.Proofs.Ytimklokgjmdobaa.Vc
open Go Go.RowKit Sx Cn Dc Ck
noncomputable section
def capOf (k : Nat) (H : HL) : Option Nat := match find k H with
  | some (.row _ c _ _) => some c
  | _ => none
def cellKey (k f : Nat) (H : HL) : Nat := match find k H with
  | some (.own _ _ cs) => match (cs[f]? : Option (Option SC)) with
    | some (some c) => Sx.keyOf c
    | _ => 0
  | _ => 0
end
end Go.Proofs.Ytimklokgjmdobaa.Vc


/- A configuration that comes in as an argument: what is known of it. -/
namespace Go.Proofs.Ytimklokgjmdobaa.Vc
open Go Go.RowKit Go.ChangeShapes Go.WideShapes Go.Deep Sx Cn Dc Ck

section
variable {H : Type} {enc : TypeId × Value → H} {P : Program} {w : World}
end
structure IsCfg (w : World) (c : Cf) (a9 a10 : Option Addr) (aI : Nat → Option Addr) : Prop where
  p : ∀ e, e < c.nP → ∃ x, a9 = some x ∧ w.cell? (x.add e) = some (.slice (aI e) (c.lenP e) (c.FC e))
  i : ∀ i, i < c.nP → ∀ e, e < c.lenP i → ∃ x, aI i = some x ∧ w.cell? (x.add (e * 3)) = some (.int .i64 (c.iO i e)) ∧ w.cell? ((x.add (e * 3)).add 1) = some (.int .i64 (c.iA i e)) ∧ w.cell? ((x.add (e * 3)).add 2) = some (.int .i64 (c.iB i e))
  u : ∀ e, e < c.nU → ∃ x, a10 = some x ∧ w.cell? (x.add (e * 3)) = some (.int .i64 (c.uP e)) ∧ w.cell? ((x.add (e * 3)).add 1) = some (.int .i64 (c.uL e)) ∧ w.cell? ((x.add (e * 3)).add 2) = some (.int .i64 (c.uD e))
  n : ∀ x ∈ [c.W, c.L, c.C, c.T, c.D, c.H, c.B, c.A, c.P], -9223372036854775808 ≤ x ∧ x ≤ 9223372036854775807
  ri : ∀ i, i < c.nP → ∀ e, e < c.lenP i → ∀ x ∈ [c.iO i e, c.iA i e, c.iB i e], -9223372036854775808 ≤ x ∧ x ≤ 9223372036854775807
  ru : ∀ e, e < c.nU → ∀ x ∈ [c.uP e, c.uL e, c.uD e], -9223372036854775808 ≤ x ∧ x ≤ 9223372036854775807
  lp : c.nP ≤ c.rc ∧ c.rc ≤ maxLen
  lu : c.nU ≤ c.cu ∧ c.cu ≤ maxLen
  li : ∀ i, i < c.nP → c.lenP i ≤ c.FC i ∧ c.FC i ≤ maxLen
def argCm (m : Nat) (c : Cf) : SV := .a [.iv .i64 c.W, .iv .i64 c.L, .iv .i64 c.C, .iv .i64 c.T, .iv .i64 c.D, .iv .i64 c.H, .iv .i64 c.B, .iv .i64 c.A, .iv .i64 c.P, slK m 1 c.nP c.rc, slK (m + 1) 3 c.nU c.cu]
end Go.Proofs.Ytimklokgjmdobaa.Vc


/- ConfigChecks: light, awake, changed; what is said of them. -/
set_option maxRecDepth 100000
namespace Go.Proofs.Ytimklokgjmdobaa.Vc
open Go Go.RowKit Sx Cn Dc Ck
noncomputable section
def decOf (g : Nat → Int) (len : Nat) (FC : Nat → Nat) (rc cu : Nat) : Cf := ⟨dW g len, dL g len, dC g len, dT g len, dD g len, dH g len, dB g len, dA g len, dP g len, nP g len, rc, nU g len, cu, fun e => lenP g len e, fun e => FC e, fun i e => cO g len i e, fun i e => cA g len i e, fun i e => cB g len i e, fun e => uP g len e, fun e => uL g len e, fun e => uD g len e⟩
def IsDec (g : Nat → Int) (len : Nat) (d : Cf) : Prop := ∃ FC rc cu, ((∀ e, e < nP g len → lenP g len e ≤ FC e) ∧ nP g len ≤ rc ∧ nU g len ≤ cu) ∧ d = decOf g len FC rc cu
def hDec (d : Cf) : HL := [(1, .fam true 88 (gd d.nP d.FC) (gd d.nP d.lenP) [.ci .i64 fun i e => d.iO i e, .ci .i64 fun i e => d.iA i e, .ci .i64 fun i e => d.iB i e]),
  (2, .row 86 d.rc d.nP [.cs 1 3 (fun _ e => e) (fun _ e => d.lenP e) (fun _ e => d.FC e)]), (3, .row 90 d.cu d.nU [.ci .i64 fun _ e => d.uP e, .ci .i64 fun _ e => d.uL e, .ci .i64 fun _ e => d.uD e])]
def outD (g : Nat → Int) (len : Nat) : Out (SV × Hp) := .need (U8 len g) (.any Cf (IsDec g len) fun d => .leaf (.a [.iv .i64 d.W, .iv .i64 d.L, .iv .i64 d.C, .iv .i64 d.T, .iv .i64 d.D, .iv .i64 d.H, .iv .i64 d.B, .iv .i64 d.A, .iv .i64 d.P, slK 2 1 d.nP d.rc, slK 3 3 d.nU d.cu], ⟨hDec d, 4, fun _ => True⟩))
theorem outD_h (g : Nat → Int) (len cap : Nat) (K : SV × Hp → Prop) (h : (outD g len).holds K) : (post56 g len cap).holds K := by
  obtain ⟨h0, ⟨d, FC0, rc0, cu0, hd, _⟩, h1⟩ := h
  refine ⟨h0, ⟨FC0, hd.1⟩, fun FC hF => ⟨⟨rc0, hd.2.1⟩, fun rc hr => ⟨⟨cu0, hd.2.2⟩, fun cu hu => ?_⟩⟩⟩
  exact h1 (decOf g len FC rc cu) ⟨FC, rc, cu, ⟨hF, hr, hu⟩, rfl⟩
def conDec : List SV → Hp → Out (SV × Hp) := fun args H => match args with
  | [.c (.slc kb _ _ _ len cap)] => match rowFn H.h kb 0 with
    | some g => useP [kb] 1 [.c (slK 0 1 len.v cap.v)] [(0, ints .u8 len.v g)] (outD g len.v) args H
    | _ => .bad 420
  | _ => .bad 421
theorem conDec_ok : ContractOK P 15 conDec := contract_of_useP fun args H => by
  unfold conDec
  repeat' split
  all_goals first | exact .inl ⟨_, rfl⟩ | exact .inr ⟨_, _, _, _, _, rfl, (local56 _ _ _).mono (outD_h _ _ _)⟩
/-! ### changed -/
structure N9 where
  a0 : Int
  a1 : Int
  a2 : Int
  a3 : Int
  a4 : Int
  a5 : Int
  a6 : Int
  a7 : Int
  a8 : Int
def rd9 : SV → Option N9
  | .a [x0, x1, x2, x3, x4, x5, x6, x7, x8, _, _] => match numC x0, numC x1, numC x2, numC x3, numC x4, numC x5, numC x6, numC x7, numC x8 with
    | some a, some b, some c, some d, some e, some f, some g, some h, some i => some ⟨a, b, c, d, e, f, g, h, i⟩
    | _, _, _, _, _, _, _, _, _ => none
  | _ => none
def slKs : SV → Option (Nat × Nat × Nat × Nat × Nat × Nat)
  | .a [_, _, _, _, _, _, _, _, _, .slc kr _ _ _ nP rc, .slc ku _ _ _ nU cu] => some (kr, nP.v, rc.v, ku, nU.v, cu.v)
  | _ => none
def rdCf (s : SV) (H : HL) : Option (Cf × List Nat) := match rd9 s, slKs s with
  | some x, some (kr, nP, rc, ku, nU, cu) => match find kr H, find ku H with
    | some br, some bu => match Ck.colsOf br, Ck.colsOf bu with
      | [.cs kF _ _ ln cp], [.ci _ f, .ci _ g, .ci _ h] => match find kF H with
        | some bF => match Ck.colsOf bF with
          | [.ci _ o, .ci _ a, .ci _ b] => some (⟨x.a0, x.a1, x.a2, x.a3, x.a4, x.a5, x.a6, x.a7, x.a8, nP, rc, nU, cu, fun e => ln 0 e, fun e => cp 0 e, o, a, b, fun e => f 0 e, fun e => g 0 e, fun e => h 0 e⟩, [kr, ku, kF])
          | _ => none
        | _ => none
      | _, _ => none
    | _, _ => none
  | _, _ => none
def hOwn (m : Nat) (c : Cf) : HL := [(m, .row 86 c.rc c.nP [.cs (m + 2) 3 (fun _ e => e) (fun _ e => c.lenP e) (fun _ e => c.FC e)]), (m + 1, .row 90 c.cu c.nU [.ci .i64 fun _ e => c.uP e, .ci .i64 fun _ e => c.uL e, .ci .i64 fun _ e => c.uD e]),
  (m + 2, .fam true 88 (gd c.nP c.FC) (gd c.nP c.lenP) [.ci .i64 fun i e => c.iO i e, .ci .i64 fun i e => c.iA i e, .ci .i64 fun i e => c.iB i e])]
end
end Go.Proofs.Ytimklokgjmdobaa.Vc


/- config.reader.instr: the contract; config.Decode: what is said of its loops. -/
set_option maxRecDepth 100000
namespace Go.Proofs.Ytimklokgjmdobaa.Vc
open Go Go.RowKit Sx Cn Dc Ck
noncomputable section
def g2 (i : Nat) (F : Nat → Nat) (x : Nat) (e : Nat) : Nat := if e < i then F e else if e = i then x else 0
def cellK (k f : Nat) (H : HL) : Nat := match find k H with
  | some (.own _ _ cs) => match (cs[f]? : Option (Option SC)) with
    | some (some c) => Sx.keyOf c
    | _ => 0
  | some (.view _ _ cols) => match (cols[f]? : Option Col) with
    | some (.ck [c]) => Sx.keyOf c
    | _ => 0
  | _ => 0
end
end Go.Proofs.Ytimklokgjmdobaa.Vc


/- config.Decode: the contract. -/
set_option maxRecDepth 100000
namespace Go.Proofs.Ytimklokgjmdobaa.Vc
open Go Go.RowKit Sx Cn Dc Ck
section
variable {g : Nat → Int} {len : Nat}
end
theorem wnat {i : Nat} (h : i ≤ 1000000) : IntKind.i64.wrap ((i : Int) + 1) = ((i + 1 : Nat) : Int) := w64 (by omega)
end Go.Proofs.Ytimklokgjmdobaa.Vc


/- Equal, of the program and of the reference: rows of three numbers; what is said of the loops. -/
set_option maxRecDepth 100000
namespace Go.Proofs.Ytimklokgjmdobaa.Vc
open Go Go.RowKit Sx Cn Dc Ck
structure R3 where
  i : Nat
  n : Nat
  cap : Nat
  o : Nat → Nat → Int
  a : Nat → Nat → Int
  b : Nat → Nat → Int
noncomputable section
def R3.arg (r : R3) (k : Nat) : SV := .c (.slc k (.s r.i) (.k 0) 3 (.s r.n) (.s r.cap))
def R3.blk (r : R3) : Blk := .view (r.i + 1) (fun q => if q = r.i then r.n else 0) [.ci .i64 fun i e => r.o i e, .ci .i64 fun i e => r.a i e, .ci .i64 fun i e => r.b i e]
def row3 (H : HL) (k : Nat) (i n cap : NV) : Option R3 := match find k H with
  | some b => match Ck.colsOf b with
    | [.ci _ o, .ci _ a, .ci _ b] => some ⟨i.v, n.v, cap.v, o, a, b⟩
    | _ => none
  | none => none
end
end Go.Proofs.Ytimklokgjmdobaa.Vc


/- Equal: rows compared, the contracts; programs compared, what is said of the loop. -/
set_option maxRecDepth 100000
namespace Go.Proofs.Ytimklokgjmdobaa.Vc
open Go Go.RowKit Sx Cn Dc Ck
section
variable {r s : R3}
theorem w1 {x : Int} {n : Nat} (hn : n ≤ 1000000) (h0 : 0 ≤ x) (h : x < n) : IntKind.i64.wrap (x + 1) = x + 1 := w64 (by omega)
end
end Go.Proofs.Ytimklokgjmdobaa.Vc


/- Equal: programs compared by EqualFunc; what is said of its loop. -/
set_option maxRecDepth 100000
namespace Go.Proofs.Ytimklokgjmdobaa.Vc
open Go Go.RowKit Sx Cn Dc Ck
noncomputable section
def hP (k : Nat) (c : Cf) : HL := [(k, .view 1 (fun _ => c.nP) [.cs (k + 1) 3 (fun _ e => e) (fun _ e => c.lenP e) (fun _ e => c.FC e)]), (k + 1, .view c.nP c.lenP [.ci .i64 fun i e => c.iO i e, .ci .i64 fun i e => c.iA i e, .ci .i64 fun i e => c.iB i e])]
def preP (c : Cf) : Prop := c.nP ≤ 1000000 ∧ ∀ i, i < c.nP → c.lenP i ≤ 1000000
def progOf (H : HL) (k : Nat) (nP rc : NV) : Option (Nat × Cf) := match find k H with
  | some b => match Ck.colsOf b with
    | [.cs kF _ _ ln cp] => match find kF H with
      | some bF => match Ck.colsOf bF with
        | [.ci _ o, .ci _ a, .ci _ b] => some (kF, ⟨0, 0, 0, 0, 0, 0, 0, 0, 0, nP.v, rc.v, 0, 0, fun e => ln 0 e, fun e => cp 0 e, o, a, b, fun _ => 0, fun _ => 0, fun _ => 0⟩)
        | _ => none
      | none => none
    | _ => none
  | none => none
end
end Go.Proofs.Ytimklokgjmdobaa.Vc


/- Equal: programs compared, the contract; configurations compared: what is said of the loops. -/
set_option maxRecDepth 100000
namespace Go.Proofs.Ytimklokgjmdobaa.Vc
open Go Go.RowKit Sx Cn Dc Ck
section
variable {c d : Cf}
theorem row_le {i j n : Nat} {F : Nat → Nat} (h : n = F j) : (if i = j then n else 0) ≤ F i := by split <;> simp_all
end
noncomputable section
def preE (c : Cf) : Prop := preP c ∧ c.nU ≤ 1000000
end
end Go.Proofs.Ytimklokgjmdobaa.Vc


/- What is decoded is valid; the valid configurations are those without an error. -/
set_option maxRecDepth 100000
namespace Go.Proofs.Ytimklokgjmdobaa.Vc
open Go Go.RowKit Sx Cn Dc Ck
open Classical in
theorem pE_zero (c : Cf) : ∀ (k i : Nat), pE c i k = 0 ↔ ∀ j, i ≤ j → j < i + k → c.lenP j ≤ 32 ∧ ∀ e, e < c.lenP j → okI c j e
  | 0, i => ⟨fun _ j h1 h2 => by omega, fun _ => rfl⟩
  | k + 1, i => by
    unfold pE
    constructor
    · intro h
      split at h
      · cases h
      split at h
      · cases h
      rename_i h1 h2
      have ih := (pE_zero c k (i + 1)).1 h
      intro j hj hj'
      by_cases e : j = i
      · subst e
        refine ⟨by omega, fun e he => ?_⟩
        rcases em (okI c j e) with g | g
        · exact g
        · exact absurd ⟨e, he, g⟩ h2
      · exact ih j (by omega) (by omega)
    · intro h
      have h0 := h i (Nat.le_refl _) (by omega)
      rw [if_neg (by omega), if_neg (by rintro ⟨e, he, g⟩; exact g (h0.2 e he))]
      exact (pE_zero c k (i + 1)).2 fun j h1 h2 => h j (by omega) (by omega)
open Classical in
theorem uE_zero (c : Cf) : ∀ (k i : Nat), uE c i k = 0 ↔ ∀ j, i ≤ j → j < i + k → (0 ≤ c.uP j ∧ c.uP j ≤ (c.nP : Int) - 1) ∧ (0 ≤ c.uL j ∧ c.uL j ≤ c.L - 1) ∧ (0 ≤ c.uD j ∧ c.uD j ≤ 16777215)
  | 0, i => ⟨fun _ j h1 h2 => by omega, fun _ => rfl⟩
  | k + 1, i => by
    unfold uE
    constructor
    · intro h
      split at h
      · cases h
      split at h
      · cases h
      rename_i h1 h2
      have h1 := Classical.not_not.1 h1
      have h2 := Classical.not_not.1 h2
      have ih := (uE_zero c k (i + 1)).1 h
      intro j hj hj'
      by_cases e : j = i
      · subst e; exact ⟨h1, h2⟩
      · exact ih j (by omega) (by omega)
    · intro h
      have h0 := h i (Nat.le_refl _) (by omega)
      rw [if_neg (fun g => g h0.1), if_neg (fun g => g h0.2)]
      exact (uE_zero c k (i + 1)).2 fun j h1 h2 => h j (by omega) (by omega)
open Classical in
theorem err_zero (c : Cf) : errE c = 0 ↔ okC c := by
  unfold errE progE subE
  by_cases h1 : okN c
  · rw [if_neg (fun g => g h1)]
    by_cases h2 : 1 ≤ c.nP ∧ c.nP ≤ 32
    · have e2 : (if ¬ (1 ≤ c.nP ∧ c.nP ≤ 32) then (2 : Int) else pE c 0 c.nP) = pE c 0 c.nP := if_neg (fun g => g h2)
      rw [e2]
      by_cases h3 : pE c 0 c.nP = 0
      · have e3 : ∀ z : Int, (if pE c 0 c.nP ≠ 0 then pE c 0 c.nP else z) = z := fun z => if_neg (fun g => g h3)
        rw [e3]
        have h3' := fun i (hi : i < c.nP) => (pE_zero c _ _).1 h3 i (Nat.zero_le _) (by omega)
        by_cases h4 : 64 < c.nU
        · rw [if_pos h4]
          exact ⟨fun h => by omega, fun h => by have := h.2.2.1; omega⟩
        · rw [if_neg h4]
          exact ⟨fun h => ⟨h1, ⟨h2, h3'⟩, by omega, fun e he => (uE_zero c _ _).1 h e (Nat.zero_le _) (by omega)⟩, fun h => (uE_zero c _ _).2 fun j _ hj => h.2.2.2 j (by omega)⟩
      · have e3 : ∀ z : Int, (if pE c 0 c.nP ≠ 0 then pE c 0 c.nP else z) = pE c 0 c.nP := fun z => if_pos h3
        rw [e3]
        exact ⟨fun h => absurd h h3, fun h => absurd ((pE_zero c _ _).2 fun j _ hj => h.2.1.2 j (by omega)) h3⟩
    · have e2 : (if ¬ (1 ≤ c.nP ∧ c.nP ≤ 32) then (2 : Int) else pE c 0 c.nP) = 2 := if_pos h2
      rw [e2]
      exact ⟨fun h => by simp at h, fun h => absurd h.2.1.1 h2⟩
  · rw [if_pos h1]
    exact ⟨fun h => by omega, fun h => absurd h.1 h1⟩
end Go.Proofs.Ytimklokgjmdobaa.Vc


/- Equal in use; ConfigDecodes. -/
set_option maxRecDepth 100000
namespace Go.Proofs.Ytimklokgjmdobaa.Vc
open Go Go.RowKit Sx Cn Dc Ck
noncomputable section
end
end Go.Proofs.Ytimklokgjmdobaa.Vc


/- layout: places of cells, of the program and of the reference: what is asked, what is answered. -/
set_option maxRecDepth 100000
namespace Go.Proofs.Ytimklokgjmdobaa.Vc
open Go Go.RowKit Sx Cn Dc Ck
def okY (c : Cf) : Prop := (1 ≤ c.W ∧ c.W ≤ 16) ∧ (1 ≤ c.L ∧ c.L ≤ 64) ∧ (1 ≤ c.C ∧ c.C ≤ 8) ∧ (1 ≤ c.T ∧ c.T ≤ 256) ∧ (1 ≤ c.D ∧ c.D ≤ 64) ∧ (1 ≤ c.H ∧ c.H ≤ 64)
theorem okN_Y {c : Cf} (h : okN c) : okY c := by unfold okN at h; unfold okY; omega
def lS (c : Cf) : Int := 4 + c.H
def lE (c : Cf) : Int := 4 + c.H + c.C
def lB (c : Cf) : Int := 4 + c.H + c.C + c.W
def lQ (c : Cf) : Int := 4 + c.H + c.C + c.W + c.W
def lT (c : Cf) : Int := lQ c + c.W * c.L * (2 + c.D)
noncomputable section
def fin1 (n : Nat) (sv : SV) : SV → Hp → V := finV (X := Unit) n n (fun _ _ => some ()) (fun _ _ => []) (fun _ => True) (fun _ => sv) (fun _ => [])
end
end Go.Proofs.Ytimklokgjmdobaa.Vc


/- Clone of rows: what is asked, what is answered. -/
set_option maxRecDepth 100000
namespace Go.Proofs.Ytimklokgjmdobaa.Vc
open Go Go.RowKit Sx Cn Dc Ck
noncomputable section
def R3.cols (r : R3) : List Col := [.ci .i64 fun _ e => r.o r.i e, .ci .i64 fun _ e => r.a r.i e, .ci .i64 fun _ e => r.b r.i e]
def keyC (s : SV) : Nat := match s with
  | .c x => Sx.keyOf x
  | _ => 0
def verCl3 (f : FuncId) (t : TypeId) (r : R3) : V := verF P con0 3 3 f [(1000000, .nilTmpO 2 t 3 r.cols)] .nil [r.arg 0] ⟨[(0, r.blk)], 1, fun _ => True⟩
  (finV 1 2 (fun s H => capOf (keyC s) H.h) (fun s H => [keyC s]) (fun c => r.n ≤ c) (fun c => .c (slK 1 3 r.n c)) (fun c => [(1, .row t c r.n r.cols)]))
def verClI (r : R3) : V := verCl3 30 88 r
def verClU (r : R3) : V := verCl3 31 90 r
def rowPs (k : Nat) (c : Cf) (cp : Nat) : Blk := .row 86 cp c.nP [.cs k 3 (fun _ e => e) (fun _ e => c.lenP e) (fun _ e => c.FC e)]
def verClP (c : Cf) : V := verF P con0 3 3 29 [(1000000, .nilTmpO 2 86 1 [.cs 1 3 (fun _ e => e) (fun _ e => c.lenP e) (fun _ e => c.FC e)])] .nil [.c (slK 0 1 c.nP c.rc)] ⟨hP 0 c, 2, fun _ => True⟩
  (finV 2 3 (fun s H => capOf (keyC s) H.h) (fun s H => [keyC s]) (fun cp => c.nP ≤ cp) (fun cp => .c (slK 2 1 c.nP cp)) (fun cp => [(2, rowPs 1 c cp)]))
def conCl3 (t : TypeId) : List SV → Hp → Out (SV × Hp) := fun args H => match args with
  | [.c (.slc k i _ _ n cap)] => fN k fun k => match row3 H.h k i n cap with
    | some r => useP [k] 1 [r.arg 0] [(0, r.blk)] (.need (r.n ≤ 1000000) (.any Nat (fun c => r.n ≤ c) fun c => .leaf (.c (slK 1 3 r.n c), ⟨[(1, .row t c r.n r.cols)], 2, fun _ => True⟩))) args H
    | none => .bad 430
  | _ => .bad 431
def conClP : List SV → Hp → Out (SV × Hp) := fun args H => match args with
  | [.c (.slc k _ _ _ n cap)] => fN k fun k => match progOf H.h k n cap with
    | some (kF, c) => fN kF fun kF => useP [k, kF] 2 [.c (slK 0 1 c.nP c.rc)] (hP 0 c) (.need (c.nP ≤ 1000000) (.any Nat (fun cp => c.nP ≤ cp) fun cp => .leaf (.c (slK 2 1 c.nP cp), ⟨[(2, rowPs 1 c cp)], 3, fun _ => True⟩))) args H
    | none => .bad 430
  | _ => .bad 431
end
end Go.Proofs.Ytimklokgjmdobaa.Vc


/- Rows of structs of some integers: as arguments; compared, cloned: what is asked. -/
set_option maxRecDepth 100000
namespace Go.Proofs.Ytimklokgjmdobaa.Vc
open Go Go.RowKit Go.ChangeShapes Go.WideShapes Go.Deep Sx Cn Dc Ck

section
variable {H : Type} {enc : TypeId × Value → H} {P : Program} {w : World}
structure IsRows (m : Nat) (w : World) (a : Option Addr) (len cap : Nat) (g : Nat → Nat → Int) : Prop where
  spot : ∀ x, a = some x → x.spot = none
  le : len ≤ cap
  max : cap ≤ maxLen
  cells : ∀ e, e < len → ∃ x, a = some x ∧ ∀ f, f < m → w.cell? (x.add (e * m + f)) = some (.int .i64 (g f e))
  fits : ∀ e f, e < len → f < m → (Lit.int .i64 (g f e)).wf = true
end
/-! ### Events -/
structure R5 where
  n : Nat
  cap : Nat
  f : Nat → Nat → Int
noncomputable section
def cols5 (f : Nat → Nat → Int) : List Col := [.ci .i64 fun _ e => f 0 e, .ci .i64 fun _ e => f 1 e, .ci .i64 fun _ e => f 2 e, .ci .i64 fun _ e => f 3 e, .ci .i64 fun _ e => f 4 e]
def R5.arg (r : R5) (k : Nat) : SV := .c (slK k 5 r.n r.cap)
def R5.blk (r : R5) : Blk := .view 1 (fun _ => r.n) (cols5 r.f)
end
end Go.Proofs.Ytimklokgjmdobaa.Vc


/- MachineEnvs: words compared, fresh records compared: what is asked. -/
set_option maxRecDepth 100000
namespace Go.Proofs.Ytimklokgjmdobaa.Vc
open Go Go.RowKit Sx Cn Dc Ck
noncomputable section
def freshC : List Col := [.ci .i64 fun _ _ => 0, .ci .i64 fun _ _ => -1, .ci .i64 fun _ _ => 0, .ci .i64 fun _ _ => 0, .ci .i64 fun _ _ => -1, .cc .nils, .cb fun _ _ => false]
def freshB (n c : Nat) : Blk := .row 62 c n freshC
end
end Go.Proofs.Ytimklokgjmdobaa.Vc


/- layout: a task's cell, a deque: the contracts; all cells: what is asked. -/
set_option maxRecDepth 100000
namespace Go.Proofs.Ytimklokgjmdobaa.Vc
open Go Go.RowKit Sx Cn Dc Ck
theorem mulB {a b A B : Int} (h0 : 0 ≤ a) (h1 : a ≤ A) (h2 : 0 ≤ b) (h3 : b ≤ B) : 0 ≤ a * b ∧ a * b ≤ A * B :=
  ⟨Int.mul_nonneg h0 h2, Int.mul_le_mul h1 h3 h2 (by omega)⟩
section
variable {c : Cf} {w v : Int}
structure WY (c : Cf) : Prop where
  w1 : IntKind.i64.wrap (4 + c.H) = 4 + c.H
  w2 : IntKind.i64.wrap (4 + c.H + c.C) = 4 + c.H + c.C
  w3 : IntKind.i64.wrap (2 * c.W) = 2 * c.W
  w4 : IntKind.i64.wrap (4 + c.H + c.C + 2 * c.W) = lQ c
  w5 : IntKind.i64.wrap (c.W * c.L) = c.W * c.L
  w6 : IntKind.i64.wrap (2 + c.D) = 2 + c.D
  w7 : IntKind.i64.wrap (c.W * c.L * (2 + c.D)) = c.W * c.L * (2 + c.D)
  w8 : IntKind.i64.wrap (lQ c + c.W * c.L * (2 + c.D)) = lT c
  w9 : IntKind.i64.wrap (c.L * (2 + c.D)) = c.L * (2 + c.D)
  w10 : IntKind.i64.wrap (4 + c.H + c.C + c.W) = 4 + c.H + c.C + c.W
  w11 : IntKind.i64.wrap (4 + c.H + c.C + c.W + c.W) = lQ c
  q : 0 ≤ lQ c ∧ lQ c ≤ 200
  t : 0 ≤ lT c ∧ lT c ≤ 70000
  y : 0 ≤ c.L * (2 + c.D) ∧ c.L * (2 + c.D) ≤ 4224
theorem wy (h : okY c) : WY c := by
  obtain ⟨h1, h2, h3, h4, h5, h6⟩ := h
  have hX := mulB (a := c.W) (b := c.L) (A := 16) (B := 64) (by omega) h1.2 (by omega) h2.2
  have hY := mulB (a := c.W * c.L) (b := 2 + c.D) (A := 1024) (B := 66) hX.1 (by omega) (by omega) (by omega)
  have hZ := mulB (a := c.L) (b := 2 + c.D) (A := 64) (B := 66) (by omega) (by omega) (by omega) (by omega)
  have q : 0 ≤ lQ c ∧ lQ c ≤ 200 := by unfold lQ; omega
  have e : lQ c = 4 + c.H + c.C + 2 * c.W := by unfold lQ; omega
  refine ⟨w64 (by omega), w64 (by omega), w64 (by omega), ?_, w64 (by omega), w64 (by omega), w64 (by omega), ?_, w64 (by omega), w64 (by omega), w64 (by omega), q, ?_, hZ⟩
  · rw [e]; exact w64 (by omega)
  · unfold lT; exact w64 (by omega)
  · unfold lT; omega
end
noncomputable section
end
end Go.Proofs.Ytimklokgjmdobaa.Vc


/- layout: all cells of a configuration are the reference's: the contract; New: what is asked. -/
set_option maxRecDepth 100000
namespace Go.Proofs.Ytimklokgjmdobaa.Vc
open Go Go.RowKit Sx Cn Dc Ck
noncomputable section
def layN (c : Cf) (x : Int) : Int := if errE c = 0 then x else 0
def layV (c : Cf) : SV := .t [.a [.iv .i64 (layN c c.W), .iv .i64 (layN c c.L), .iv .i64 (layN c c.C), .iv .i64 (layN c c.T), .iv .i64 (layN c c.D), .iv .i64 (layN c c.H), .iv .i64 (layN c (lS c)), .iv .i64 (layN c (lE c)), .iv .i64 (layN c (lB c)), .iv .i64 (layN c (lQ c)), .iv .i64 (layN c (lT c))], .c (.iv .i64 (errE c))]
def conNw : Con := Con.add 26 conErr con3
theorem conNw_ok : ConOK P conNw := .add conErr58 con3_ok
def verNew (c : Cf) : V := verF P conNw 3 3 16 [] .nil [argC c] ⟨hC c, 3, fun _ => True⟩ (finV (X := Unit) 3 3 (fun _ _ => some ()) (fun _ _ => []) (fun _ => True) (fun _ => layV c) (fun _ => []))
end
end Go.Proofs.Ytimklokgjmdobaa.Vc


/- layout: the conditions, printed by program. -/
set_option maxRecDepth 100000
namespace Go.Proofs.Ytimklokgjmdobaa.Vc
open Go Go.RowKit Sx Cn Dc Ck

theorem verNew_eq (c : Cf) : verNew c =
  V.need (c.W = c.W)
    (V.need (c.L = c.L)
    (V.need (c.C = c.C)
    (V.need (c.T = c.T)
    (V.need (c.D = c.D)
    (V.need (c.H = c.H)
    (V.need (c.B = c.B)
    (V.need (c.A = c.A)
    (V.need (c.P = c.P)
    (V.need (c.nP = c.nP)
    (V.need (c.rc = c.rc)
    (V.need (c.nU = c.nU)
    (V.need (c.cu = c.cu)
    (V.need (1 ≤ 1)
    (V.need (∀ (i : Nat), i < 1 → c.nP ≤ c.nP)
    (V.need (∀ (i e : Nat), i < 1 ∧ e < c.nP → e = e)
    (V.need (∀ (i e : Nat), i < 1 ∧ e < c.nP → c.lenP e = c.lenP e)
    (V.need (∀ (i e : Nat), i < 1 ∧ e < c.nP → c.FC e = c.FC e)
    (V.need (1 ≤ 1)
    (V.need (∀ (i : Nat), i < 1 → c.nU ≤ c.nU)
    (V.need (∀ (i e : Nat), i < 1 ∧ e < c.nU → c.uP e = c.uP e)
    (V.need (∀ (i e : Nat), i < 1 ∧ e < c.nU → c.uL e = c.uL e)
    (V.need (∀ (i e : Nat), i < 1 ∧ e < c.nU → c.uD e = c.uD e)
    (V.need (c.nP ≤ c.nP)
    (V.need (∀ (i : Nat), i < c.nP → c.lenP i ≤ c.lenP i)
    (V.need (∀ (i e : Nat), i < c.nP ∧ e < c.lenP i → c.iO i e = c.iO i e)
    (V.need (∀ (i e : Nat), i < c.nP ∧ e < c.lenP i → c.iA i e = c.iA i e)
    (V.need (∀ (i e : Nat), i < c.nP ∧ e < c.lenP i → c.iB i e = c.iB i e)
    (V.need True
    (V.br (errE (Cf.mk c.W c.L c.C c.T c.D c.H c.B c.A c.P c.nP c.rc c.nU c.cu (fun (e : Nat) => c.lenP e) (fun (e : Nat) => c.FC e) (fun (i e : Nat) => c.iO i e) (fun (i e : Nat) => c.iA i e) (fun (i e : Nat) => c.iB i e) (fun (e : Nat) => c.uP e) (fun (e : Nat) => c.uL e) fun (e : Nat) => c.uD e) != Int.ofNat 0)
    (V.need True
    (V.need (Int.ofNat 0 = layN c c.W)
    (V.need (Int.ofNat 0 = layN c c.L)
    (V.need (Int.ofNat 0 = layN c c.C)
    (V.need (Int.ofNat 0 = layN c c.T)
    (V.need (Int.ofNat 0 = layN c c.D)
    (V.need (Int.ofNat 0 = layN c c.H)
    (V.need (Int.ofNat 0 = layN c (lS c))
    (V.need (Int.ofNat 0 = layN c (lE c))
    (V.need (Int.ofNat 0 = layN c (lB c))
    (V.need (Int.ofNat 0 = layN c (lQ c))
    (V.need (Int.ofNat 0 = layN c (lT c))
    (V.need (errE (Cf.mk c.W c.L c.C c.T c.D c.H c.B c.A c.P c.nP c.rc c.nU c.cu (fun (e : Nat) => c.lenP e) (fun (e : Nat) => c.FC e) (fun (i e : Nat) => c.iO i e) (fun (i e : Nat) => c.iA i e) (fun (i e : Nat) => c.iB i e) (fun (e : Nat) => c.uP e) (fun (e : Nat) => c.uL e) fun (e : Nat) => c.uD e) = errE c) V.ok)))))))))))))
    (V.need True
    (V.need (c.W = layN c c.W)
    (V.need (c.L = layN c c.L)
    (V.need (c.C = layN c c.C)
    (V.need (c.T = layN c c.T)
    (V.need (c.D = layN c c.D)
    (V.need (c.H = layN c c.H)
    (V.need (IntKind.i64.wrap (Int.ofNat 4 + c.H) = layN c (lS c))
    (V.need (IntKind.i64.wrap (IntKind.i64.wrap (Int.ofNat 4 + c.H) + c.C) = layN c (lE c))
    (V.need (IntKind.i64.wrap (IntKind.i64.wrap (IntKind.i64.wrap (Int.ofNat 4 + c.H) + c.C) + c.W) = layN c (lB c))
    (V.need (IntKind.i64.wrap (IntKind.i64.wrap (IntKind.i64.wrap (IntKind.i64.wrap (Int.ofNat 4 + c.H) + c.C) + c.W) + c.W) = layN c (lQ c))
    (V.need (IntKind.i64.wrap (IntKind.i64.wrap (IntKind.i64.wrap (IntKind.i64.wrap (IntKind.i64.wrap (Int.ofNat 4 + c.H) + c.C) + c.W) + c.W) + IntKind.i64.wrap (IntKind.i64.wrap (c.W * c.L) * IntKind.i64.wrap (Int.ofNat 2 + c.D))) = layN c (lT c))
    (V.need (Int.ofNat 0 = errE c) V.ok)))))))))))))))))))))))))))))))))))))))))) := by kernel_rfl

end Go.Proofs.Ytimklokgjmdobaa.Vc


/- layout.New, for any configuration: the contract; LayoutCells: the law. -/
set_option maxRecDepth 100000
namespace Go.Proofs.Ytimklokgjmdobaa.Vc
open Go Go.RowKit Sx Cn Dc Ck
theorem layN_0 {c : Cf} {x : Int} (h : ¬ errE c = 0) : 0 = layN c x := by unfold layN; rw [if_neg h]
theorem layN_1 {c : Cf} {x : Int} (h : errE c = 0) : x = layN c x := by unfold layN; rw [if_pos h]
theorem okY_of {c : Cf} (h : errE c = 0) : okY c := okN_Y ((err_zero c).1 h).1
theorem vhNew (c : Cf) (_ : True) : VHolds (verNew c) := by
  constructor
  rw [verNew_eq]
  simp only [V.holds, Int.ofNat_eq_natCast, decide_eq_true_eq, decide_eq_false_iff_not, Bool.not_eq_true', Bool.not_eq_false', bne_iff_ne, bne_eq_false_iff_eq, ge_iff_le, true_and, and_true, eq_self, forall_const, true_implies, implies_true, Nat.le_refl, Int.cast_ofNat_Int, Int.natCast_zero, Nat.zero_lt_one, Nat.zero_add, cf_eta, ne_eq]
  refine ⟨fun h => ?_, fun h => ?_⟩
  · have z : ∀ x, 0 = layN c x := fun x => layN_0 h
    exact ⟨z _, z _, z _, z _, z _, z _, z _, z _, z _, z _, z _⟩
  · have W := wy (okY_of h)
    have z : ∀ x, x = layN c x := fun x => layN_1 h
    simp only [W.w1, W.w2, W.w5, W.w6, W.w7, W.w8, W.w10, W.w11]
    exact ⟨z _, z _, z _, z _, z _, z _, z _, z _, z _, z _, z _, h.symm⟩
noncomputable section
def conNew : List SV → Hp → Out (SV × Hp) := conCfP fun c => .need True (.leaf (layV c, ⟨[], 3, fun _ => True⟩))
theorem conNew_ok : ContractOK P 16 conNew := conCfP_ok fun c => local_of_ver0 conNw_ok (vhNew c)
end
end Go.Proofs.Ytimklokgjmdobaa.Vc


/- Clone: the conditions, printed by program. -/
set_option maxRecDepth 100000
namespace Go.Proofs.Ytimklokgjmdobaa.Vc
open Go Go.RowKit Sx Cn Dc Ck

theorem verClI_eq (r : R3) : verClI r =
  V.need (∃ (x : Bool), x = true → ¬(r.i < r.i + 1 ∧ 0 < if r.i = r.i then r.n else 0))
    (V.any Bool (fun (b : Bool) => b = true → ¬(r.i < r.i + 1 ∧ 0 < if r.i = r.i then r.n else 0)) fun (x : Bool) => V.br x
    (V.need (r.n ≤ 0)
    (V.need (0 = r.n)
    (V.need (0 = 0)
    (V.need (0 = 0)
    (V.need (r.n ≤ 0)
    (V.need (∀ (e : Nat), e < r.n → r.o r.i e = r.o r.i e)
    (V.need (∀ (e : Nat), e < r.n → r.a r.i e = r.a r.i e)
    (V.need (∀ (e : Nat), e < r.n → r.b r.i e = r.b r.i e) V.ok))))))))
    (V.need (0 + r.n ≤ if r.i < r.i + 1 then if r.i = r.i then r.n else 0 else 0)
    (V.need (0 = 0)
    (V.need (0 + r.n ≤ 9223372036854775807 ∧ (0 + r.n) * 24 ≤ 140737488355328)
    (V.any Nat (fun (x : Nat) => 0 + r.n ≤ x) fun (x : Nat) => V.need (r.n ≤ x)
    (V.need (0 + r.n = r.n)
    (V.need (x = x)
    (V.need (x = x)
    (V.need (r.n ≤ 0 + r.n)
    (V.need (∀ (e : Nat), e < r.n → r.o r.i (0 + e) = r.o r.i e)
    (V.need (∀ (e : Nat), e < r.n → r.a r.i (0 + e) = r.a r.i e)
    (V.need (∀ (e : Nat), e < r.n → r.b r.i (0 + e) = r.b r.i e) V.ok)))))))))))) := by kernel_rfl

theorem verClU_eq (r : R3) : verClU r =
  V.need (∃ (x : Bool), x = true → ¬(r.i < r.i + 1 ∧ 0 < if r.i = r.i then r.n else 0))
    (V.any Bool (fun (b : Bool) => b = true → ¬(r.i < r.i + 1 ∧ 0 < if r.i = r.i then r.n else 0)) fun (x : Bool) => V.br x
    (V.need (r.n ≤ 0)
    (V.need (0 = r.n)
    (V.need (0 = 0)
    (V.need (0 = 0)
    (V.need (r.n ≤ 0)
    (V.need (∀ (e : Nat), e < r.n → r.o r.i e = r.o r.i e)
    (V.need (∀ (e : Nat), e < r.n → r.a r.i e = r.a r.i e)
    (V.need (∀ (e : Nat), e < r.n → r.b r.i e = r.b r.i e) V.ok))))))))
    (V.need (0 + r.n ≤ if r.i < r.i + 1 then if r.i = r.i then r.n else 0 else 0)
    (V.need (0 = 0)
    (V.need (0 + r.n ≤ 9223372036854775807 ∧ (0 + r.n) * 24 ≤ 140737488355328)
    (V.any Nat (fun (x : Nat) => 0 + r.n ≤ x) fun (x : Nat) => V.need (r.n ≤ x)
    (V.need (0 + r.n = r.n)
    (V.need (x = x)
    (V.need (x = x)
    (V.need (r.n ≤ 0 + r.n)
    (V.need (∀ (e : Nat), e < r.n → r.o r.i (0 + e) = r.o r.i e)
    (V.need (∀ (e : Nat), e < r.n → r.a r.i (0 + e) = r.a r.i e)
    (V.need (∀ (e : Nat), e < r.n → r.b r.i (0 + e) = r.b r.i e) V.ok)))))))))))) := by kernel_rfl

theorem verClP_eq (c : Cf) : verClP c =
  V.need (∃ (x : Bool), x = true → ¬(0 < 1 ∧ 0 < c.nP))
    (V.any Bool (fun (b : Bool) => b = true → ¬(0 < 1 ∧ 0 < c.nP)) fun (x : Bool) => V.br x
    (V.need (c.nP ≤ 0)
    (V.need (0 = c.nP)
    (V.need (0 = 0)
    (V.need (0 = 0)
    (V.need (c.nP ≤ 0)
    (V.need (∀ (e : Nat), e < c.nP → e = e)
    (V.need (∀ (e : Nat), e < c.nP → c.lenP e = c.lenP e)
    (V.need (∀ (e : Nat), e < c.nP → c.FC e = c.FC e) V.ok))))))))
    (V.need (0 + c.nP ≤ c.nP)
    (V.need (0 = 0)
    (V.need (0 + c.nP ≤ 9223372036854775807 ∧ (0 + c.nP) * 24 ≤ 140737488355328)
    (V.any Nat (fun (x : Nat) => 0 + c.nP ≤ x) fun (x : Nat) => V.need (c.nP ≤ x)
    (V.need (0 + c.nP = c.nP)
    (V.need (x = x)
    (V.need (x = x)
    (V.need (c.nP ≤ 0 + c.nP)
    (V.need (∀ (e : Nat), e < c.nP → 0 + e = e)
    (V.need (∀ (e : Nat), e < c.nP → c.lenP (0 + e) = c.lenP e)
    (V.need (∀ (e : Nat), e < c.nP → c.FC (0 + e) = c.FC e) V.ok)))))))))))) := by kernel_rfl


end Go.Proofs.Ytimklokgjmdobaa.Vc


/- Clone of rows: the contracts; config.Clone: what is said of its loop. -/
set_option maxRecDepth 100000
namespace Go.Proofs.Ytimklokgjmdobaa.Vc
open Go Go.RowKit Sx Cn Dc Ck
theorem vhClI {r : R3} (h : r.n ≤ 1000000) : VHolds (verClI r) ∧ VHolds (verClU r) := by
  constructor
  all_goals
    constructor
    first | rw [verClI_eq] | rw [verClU_eq]
    simp only [V.holds, Int.ofNat_eq_natCast, decide_eq_true_eq, decide_eq_false_iff_not, Bool.not_eq_true', Bool.not_eq_false', bne_iff_ne, bne_eq_false_iff_eq, beq_iff_eq, beq_eq_false_iff_ne, ne_eq, true_and, and_true, forall_const, true_implies, implies_true, Nat.zero_add, Nat.sub_zero, Nat.lt_add_one, Nat.zero_lt_one, Int.natCast_zero, Int.natCast_one, Int.cast_ofNat_Int, gt_iff_lt, and_self, eq_self, Nat.le_refl, if_true]
    repeat' first | exact True.intro | with_reducible apply And.intro | intro _
    all_goals first
      | omega
      | exact ⟨false, by simp⟩
      | (simp_all <;> omega)
theorem vhClP {c : Cf} (h : c.nP ≤ 1000000) : VHolds (verClP c) := by
  constructor
  rw [verClP_eq]
  simp only [V.holds, Int.ofNat_eq_natCast, decide_eq_true_eq, decide_eq_false_iff_not, Bool.not_eq_true', Bool.not_eq_false', bne_iff_ne, bne_eq_false_iff_eq, beq_iff_eq, beq_eq_false_iff_ne, ne_eq, true_and, and_true, forall_const, true_implies, implies_true, Nat.zero_add, Nat.sub_zero, Nat.lt_add_one, Nat.zero_lt_one, Int.natCast_zero, Int.natCast_one, Int.cast_ofNat_Int, gt_iff_lt, and_self, eq_self, Nat.le_refl, if_true]
  repeat' first | exact True.intro | with_reducible apply And.intro | intro _
  all_goals first
    | omega
    | exact ⟨false, by simp⟩
    | (simp_all <;> omega)
theorem conClI_ok : ContractOK P 30 (conCl3 88) := contract_of_useP fun args H => by
  unfold conCl3
  simp only [fN_eq]
  repeat' split
  all_goals first
    | exact .inl ⟨_, rfl⟩
    | exact .inr ⟨_, _, _, _, _, rfl, local_of_ver ConOK.nil fun h => (show VHolds (verCl3 30 88 _) from (vhClI h).1)⟩
theorem conClU_ok : ContractOK P 31 (conCl3 90) := contract_of_useP fun args H => by
  unfold conCl3
  simp only [fN_eq]
  repeat' split
  all_goals first
    | exact .inl ⟨_, rfl⟩
    | exact .inr ⟨_, _, _, _, _, rfl, local_of_ver ConOK.nil fun h => (show VHolds (verCl3 31 90 _) from (vhClI h).2)⟩
theorem conClP_ok : ContractOK P 29 conClP := contract_of_useP fun args H => by
  unfold conClP
  simp only [fN_eq]
  repeat' split
  all_goals first
    | exact .inl ⟨_, rfl⟩
    | exact .inr ⟨_, _, _, _, _, rfl, local_of_ver ConOK.nil vhClP⟩
noncomputable section
def conCl : Con := Con.add 30 (conCl3 88) (Con.add 31 (conCl3 90) (Con.add 29 conClP con3))
theorem conCl_ok : ConOK P conCl := .add conClI_ok (.add conClU_ok (.add conClP_ok con3_ok))
def clOf (c : Cf) (FC : Nat → Nat) (rc cu : Nat) : Cf := ⟨c.W, c.L, c.C, c.T, c.D, c.H, c.B, c.A, c.P, c.nP, rc, c.nU, cu, fun e => c.lenP e, fun e => FC e, fun i e => c.iO i e, fun i e => c.iA i e, fun i e => c.iB i e, fun e => c.uP e, fun e => c.uL e, fun e => c.uD e⟩
def IsCl (c d : Cf) : Prop := ∃ FC rc cu, ((∀ e, e < c.nP → c.lenP e ≤ FC e) ∧ c.nP ≤ rc ∧ c.nU ≤ cu) ∧ d = clOf c FC rc cu
def pkC (s : St) : Nat := cellK (tkey 1 s) 9 s.H.h
def famLt (k : Nat) (H : Hp) : Nat := match find k H.h with
  | some (.row _ _ _ [.lt _ (.cs F _ _ _ _) _]) => F
  | _ => H.nxt - 1
def fkC (s : St) : Nat := famLt (pkC s) s.H
def capsLt (k : Nat) (H : HL) : Option (Nat → Nat) := match find k H with
  | some (.row _ _ _ [.lt _ (.cs _ _ _ _ c) _]) => some fun e => c 0 e
  | some _ => some fun _ => 0
  | none => none
section
variable (c : Cf)
def colsC : List Col := [.ci .i64 fun i e => c.iO i e, .ci .i64 fun i e => c.iA i e, .ci .i64 fun i e => c.iB i e]
def fC (s : St) : Option (LA (Int × (Nat → Nat))) := match capOf (pkC s) s.H.h with
  | some cp => some ⟨[(pkC, true), (fkC, false)], fun x => [.row 86 cp c.nP [.lt x.1.toNat (.cs (fkC s) 3 (fun _ e => e) (fun _ e => c.lenP e) (fun _ e => x.2 e)) (.cs 2 3 (fun _ e => e) (fun _ e => c.lenP e) (fun _ e => c.FC e))], .fam true 88 (gd x.1.toNat x.2) (gd x.1.toNat c.lenP) (colsC c)],
    [11], fun x => [iv x.1], fun s => match intT 11 s, capsLt (pkC s) s.H.h with | some i, some F => some (i, F) | _, _ => none,
    fun x => 0 ≤ x.1 ∧ x.1 ≤ c.nP ∧ ∀ e, e < x.1.toNat → c.lenP e ≤ x.2 e, fun x => c.nP - x.1.toNat⟩
  | none => none
def rdCl (s : SV) (H : Hp) : Option Cf := match slKs s with
  | some (kr, _, rc, ku, _, cu) => (capsLt kr H.h).map fun F => clOf c F rc cu
  | none => none
def LCl (s : SV) (H : Hp) : List Nat := match slKs s with
  | some (kr, _, _, ku, _, _) => [kr, ku, famLt kr H]
  | none => []
def verClone : V := verF P conCl 3 4 19 [(6, .joinLt pkC 0)] (.loop _ [.newFam 88 (colsC c)] (fC c) .nil .nil) [argC c] ⟨hC c, 3, fun _ => True⟩ (finV 3 6 (rdCl c) LCl (IsCl c) (argCm 3) (hOwn 3))
end
end
end Go.Proofs.Ytimklokgjmdobaa.Vc


/- config.Clone: the conditions, printed by program. -/
set_option maxRecDepth 100000
namespace Go.Proofs.Ytimklokgjmdobaa.Vc
open Go Go.RowKit Sx Cn Dc Ck

abbrev qVi0 (a0 : Int × (Nat → Nat)) (a1 : Nat) (a2 : Cf) (k : V) : V := V.need (∀ (i : Nat), (if i = 0 + a0.fst.toNat then a1 else gd a0.fst.toNat a0.snd i) = gd (IntKind.i64.wrap (a0.fst + Int.ofNat 1)).toNat (fun (e : Nat) => if 0 = 0 ∧ e = 0 + a0.fst.toNat then a1 else a0.snd e) i ∨ gd (IntKind.i64.wrap (a0.fst + Int.ofNat 1)).toNat (fun (e : Nat) => if 0 = 0 ∧ e = 0 + a0.fst.toNat then a1 else a0.snd e) i = 0) (V.need (∀ (i : Nat), gd (IntKind.i64.wrap (a0.fst + Int.ofNat 1)).toNat a2.lenP i ≤ gd (IntKind.i64.wrap (a0.fst + Int.ofNat 1)).toNat (fun (e : Nat) => if 0 = 0 ∧ e = 0 + a0.fst.toNat then a1 else a0.snd e) i ∧ gd (IntKind.i64.wrap (a0.fst + Int.ofNat 1)).toNat a2.lenP i ≤ if i = 0 + a0.fst.toNat then a2.lenP (0 + a0.fst.toNat) else gd a0.fst.toNat a2.lenP i) k)
abbrev qVi1 (a0 : Int × (Nat → Nat)) (a1 : Cf) (a2 : Nat) (k : V) : V := V.need (True ∧ a0.fst.toNat = 0 + a0.fst.toNat ∧ (∀ (i e : Nat), i = 0 ∧ e < a1.nP → i = 0) ∧ ∀ (e : Nat), e < 0 + a0.fst.toNat → e ≠ 0 + a0.fst.toNat) (V.need (Int.ofNat 0 ≤ IntKind.i64.wrap (a0.fst + Int.ofNat 1) ∧ IntKind.i64.wrap (a0.fst + Int.ofNat 1) ≤ (↑a1.nP : Int) ∧ ∀ (e : Nat), e < (IntKind.i64.wrap (a0.fst + Int.ofNat 1)).toNat → a1.lenP e ≤ if 0 = 0 ∧ e = 0 + a0.fst.toNat then a2 else a0.snd e) k)
abbrev qVi2 (a0 : Cf) (a1 : Int × (Nat → Nat)) (a2 : Nat) (k : V) : V := V.need (∀ (i e : Nat), (i = 0 ∧ e < a0.nP) ∧ e < 0 + a1.fst.toNat + 1 → (if i = 0 ∧ e = 0 + a1.fst.toNat then a0.lenP (0 + a1.fst.toNat) else a0.lenP e) = a0.lenP e) (V.need (∀ (i e : Nat), (i = 0 ∧ e < a0.nP) ∧ e < 0 + a1.fst.toNat + 1 → (if i = 0 ∧ e = 0 + a1.fst.toNat then a2 else a1.snd e) = if 0 = 0 ∧ e = 0 + a1.fst.toNat then a2 else a1.snd e) k)
abbrev qVi3 (a0 : Int × (Nat → Nat)) (a1 : Cf) (k : V) : V := V.need (∀ (i e : Nat), (i < 0 + a0.fst.toNat + 1 ∧ e < if i = 0 + a0.fst.toNat then a1.lenP (0 + a0.fst.toNat) else 0) → a1.iO i e = a1.iO i e) (V.need (∀ (i e : Nat), (i < 0 + a0.fst.toNat + 1 ∧ e < if i = 0 + a0.fst.toNat then a1.lenP (0 + a0.fst.toNat) else 0) → a1.iA i e = a1.iA i e) k)
abbrev qVi4 (a0 : Int × (Nat → Nat)) (a1 : Cf) (k : V) : V := V.need (Int.ofNat 0 ≤ a0.fst ∧ a0.fst < (↑a1.nP : Int)) (V.need (0 < 1 ∧ 0 + a0.fst.toNat < a1.nP) k)
abbrev qVi5 (a0 : Int × (Nat → Nat)) (a1 : Cf) (k : V) : V := V.need (∀ (i e : Nat), (i < 0 + a0.fst.toNat + 1 ∧ e < if i = 0 + a0.fst.toNat then a1.lenP (0 + a0.fst.toNat) else 0) → a1.iB i e = a1.iB i e) (V.need (a1.lenP (0 + a0.fst.toNat) ≤ 1000000) k)
abbrev qVi6 (a0 : Int × (Nat → Nat)) (a1 : Cf) (k : V) : V := V.need (∀ (i e : Nat), e < gd (IntKind.i64.wrap (a0.fst + Int.ofNat 1)).toNat a1.lenP i → (if i = 0 + a0.fst.toNat then a1.iO (0 + a0.fst.toNat) e else a1.iO i e) = a1.iO i e) (V.need (∀ (i e : Nat), e < gd (IntKind.i64.wrap (a0.fst + Int.ofNat 1)).toNat a1.lenP i → (if i = 0 + a0.fst.toNat then a1.iA (0 + a0.fst.toNat) e else a1.iA i e) = a1.iA i e) (V.need (∀ (i e : Nat), e < gd (IntKind.i64.wrap (a0.fst + Int.ofNat 1)).toNat a1.lenP i → (if i = 0 + a0.fst.toNat then a1.iB (0 + a0.fst.toNat) e else a1.iB i e) = a1.iB i e) k))
abbrev qVi7 (a0 : Cf) (a1 : Int × (Nat → Nat)) (k : V) : V := V.need (a0.nP - (IntKind.i64.wrap (a1.fst + Int.ofNat 1)).toNat < a0.nP - a1.fst.toNat) (V.need (IntKind.i64.wrap (a1.fst + Int.ofNat 1) = IntKind.i64.wrap (a1.fst + Int.ofNat 1)) k)
abbrev qVi8 (a0 : Int × (Nat → Nat)) (a1 : Cf) (k : V) : V := V.need (0 + a0.fst.toNat + 1 = (IntKind.i64.wrap (a0.fst + Int.ofNat 1)).toNat) (V.need (∀ (i e : Nat), (i = 0 ∧ e < a1.nP) ∧ ¬e < 0 + a0.fst.toNat + 1 → e = e) k)
abbrev qVi9 (a0 : Int × (Nat → Nat)) (a1 : Cf) (k : V) : V := V.need (0 + a0.fst.toNat = 0 + a0.fst.toNat) (V.need (a1.lenP (0 + a0.fst.toNat) = a1.lenP (0 + a0.fst.toNat)) k)
abbrev qVi10 (a0 : Cf) (k : V) : V := V.need (∀ (e : Nat), e < a0.nP → e = e) (V.need (∀ (e : Nat), e < a0.nP → a0.lenP e = a0.lenP e) k)
abbrev qVi11 (a0 : Nat) (a1 : Cf) (k : V) : V := V.need (a0 = a0) (V.need (a1.nP ≤ a1.nP) k)
abbrev qVi12 (a0 : Cf) (a1 : Int × (Nat → Nat)) (k : V) : V := V.need (∀ (i e : Nat), (i = 0 ∧ e < a0.nP) ∧ ¬e < 0 + a1.fst.toNat + 1 → a0.lenP e = a0.lenP e) (V.need (∀ (i e : Nat), (i = 0 ∧ e < a0.nP) ∧ ¬e < 0 + a1.fst.toNat + 1 → a0.FC e = a0.FC e) (V.need (∀ (i e : Nat), (i = 0 ∧ e < a0.nP) ∧ e < 0 + a1.fst.toNat + 1 → e = e) k))
abbrev qVi13 (k : V) : V := V.need (0 < 1 ∧ 0 < 1) (V.need (0 < 1 ∧ 0 < 1) k)
theorem verClone_eq (c : Cf) : verClone c =
  V.need (c.nP = c.nP) (V.need (c.rc = c.rc) (V.need (1 ≤ 1) (V.need (∀ (i : Nat), i < 1 → c.nP ≤ c.nP) (V.need (∀ (i e : Nat), i < 1 ∧ e < c.nP → e = e) (V.need (∀ (i e : Nat), i < 1 ∧ e < c.nP → c.lenP e = c.lenP e) (V.need (∀ (i e : Nat), i < 1 ∧ e < c.nP → c.FC e = c.FC e) (V.need (c.nP ≤ c.nP) (V.need (∀ (i : Nat), i < c.nP → c.lenP i ≤ c.lenP i) (V.need (∀ (i e : Nat), i < c.nP ∧ e < c.lenP i → c.iO i e = c.iO i e) (V.need (∀ (i e : Nat), i < c.nP ∧ e < c.lenP i → c.iA i e = c.iA i e) (V.need (∀ (i e : Nat), i < c.nP ∧ e < c.lenP i → c.iB i e = c.iB i e) (V.need (c.nP ≤ 1000000) (V.need (∃ (x : Nat), c.nP ≤ x) (V.any Nat (fun (cp : Nat) => c.nP ≤ cp) fun (x : Nat) => V.need (Int.ofNat 0 ≤ Int.ofNat 0 ∧ Int.ofNat 0 ≤ (↑c.nP : Int) ∧ ∀ (e : Nat), e < 0 → c.lenP e ≤ 0) (V.need (Int.ofNat 0 = Int.ofNat 0) (qVi11 x c (V.need (∀ (e : Nat), e < c.nP → ¬e < 0) (qVi10 c (V.need (∀ (e : Nat), e < c.nP → c.FC e = c.FC e) (V.need (∀ (i : Nat), 0 = gd 0 (fun (x : Nat) => 0) i ∨ gd 0 (fun (x : Nat) => 0) i = 0) (V.need (∀ (i : Nat), gd 0 c.lenP i ≤ gd 0 (fun (x : Nat) => 0) i ∧ gd 0 c.lenP i ≤ 0) (V.need (∀ (i e : Nat), e < gd 0 c.lenP i → c.iO i e = c.iO i e) (V.need (∀ (i e : Nat), e < gd 0 c.lenP i → c.iA i e = c.iA i e) (V.need (∀ (i e : Nat), e < gd 0 c.lenP i → c.iB i e = c.iB i e) (V.any (Int × (Nat → Nat)) (fun (x : Int × (Nat → Nat)) => Int.ofNat 0 ≤ x.fst ∧ x.fst ≤ (↑c.nP : Int) ∧ ∀ (e : Nat), e < x.fst.toNat → c.lenP e ≤ x.snd e) fun (x_1 : Int × (Nat → Nat)) => V.br (decide (x_1.fst < (↑c.nP : Int)))
 (qVi13 (qVi13 (qVi4 x_1 c (V.need (0 < 1 ∧ 0 + x_1.fst.toNat < c.nP) (V.br (decide (0 + x_1.fst.toNat < x_1.fst.toNat))
 (qVi9 x_1 c (V.need (x_1.snd (0 + x_1.fst.toNat) = x_1.snd (0 + x_1.fst.toNat)) (V.need (∀ (i : Nat), i < 0 + x_1.fst.toNat + 1 → (if i = 0 + x_1.fst.toNat then c.lenP (0 + x_1.fst.toNat) else 0) ≤ gd x_1.fst.toNat c.lenP i ∧ (if i = 0 + x_1.fst.toNat then c.lenP (0 + x_1.fst.toNat) else 0) ≤ gd x_1.fst.toNat x_1.snd i) (qVi3 x_1 c (qVi5 x_1 c (V.need (∃ (x : Nat), c.lenP (0 + x_1.fst.toNat) ≤ x) (V.any Nat (fun (c_1 : Nat) => c.lenP (0 + x_1.fst.toNat) ≤ c_1) fun (x_2 : Nat) => qVi4 x_1 c (V.need (0 + x_1.fst.toNat < c.nP) (qVi1 x_1 c x_2 (qVi7 c x_1 (qVi11 x c (qVi8 x_1 c (qVi12 c x_1 (qVi2 c x_1 x_2 (qVi0 x_1 x_2 c (qVi6 x_1 c V.ok))))))))))))))))
 (qVi9 x_1 c (V.need (c.FC (0 + x_1.fst.toNat) = c.FC (0 + x_1.fst.toNat)) (V.need (0 + x_1.fst.toNat + 1 ≤ c.nP) (V.need (∀ (i : Nat), i < 0 + x_1.fst.toNat + 1 → (if i = 0 + x_1.fst.toNat then c.lenP (0 + x_1.fst.toNat) else 0) ≤ c.lenP i) (qVi3 x_1 c (qVi5 x_1 c (V.need (∃ (x : Nat), c.lenP (0 + x_1.fst.toNat) ≤ x) (V.any Nat (fun (c_1 : Nat) => c.lenP (0 + x_1.fst.toNat) ≤ c_1) fun (x_2 : Nat) => qVi4 x_1 c (V.need (0 + x_1.fst.toNat < c.nP) (qVi1 x_1 c x_2 (qVi7 c x_1 (qVi11 x c (qVi8 x_1 c (qVi12 c x_1 (qVi2 c x_1 x_2 (qVi0 x_1 x_2 c (qVi6 x_1 c V.ok))))))))))))))))))))))
 (V.need (0 = 0) (V.need (c.nU = c.nU) (V.need (c.cu = c.cu) (V.need (0 + 1 ≤ 1) (V.need (∀ (i : Nat), i < 0 + 1 → (if i = 0 then c.nU else 0) ≤ c.nU) (V.need (∀ (i e : Nat), (i < 0 + 1 ∧ e < if i = 0 then c.nU else 0) → c.uP e = c.uP e) (V.need (∀ (i e : Nat), (i < 0 + 1 ∧ e < if i = 0 then c.nU else 0) → c.uL e = c.uL e) (V.need (∀ (i e : Nat), (i < 0 + 1 ∧ e < if i = 0 then c.nU else 0) → c.uD e = c.uD e) (V.need (c.nU ≤ 1000000) (V.need (∃ (x : Nat), c.nU ≤ x) (V.any Nat (fun (c_1 : Nat) => c.nU ≤ c_1) fun (x_2 : Nat) => V.need (IsCl c (clOf c (fun (e : Nat) => x_1.snd e) x x_2)) (V.need (c.W = c.W) (V.need (c.L = c.L) (V.need (c.C = c.C) (V.need (c.T = c.T) (V.need (c.D = c.D) (V.need (c.H = c.H) (V.need (c.B = c.B) (V.need (c.A = c.A) (V.need (c.P = c.P) (V.need (c.nP = c.nP) (V.need (x = x) (V.need (c.nU = c.nU) (V.need (x_2 = x_2) (qVi11 x c (V.need (∀ (e : Nat), e < c.nP → e < x_1.fst.toNat) (qVi10 c (V.need (∀ (e : Nat), e < c.nP → x_1.snd e = x_1.snd e) (V.need (x_2 = x_2) (V.need (c.nU ≤ c.nU) (V.need (∀ (e : Nat), e < c.nU → c.uP e = c.uP e) (V.need (∀ (e : Nat), e < c.nU → c.uL e = c.uL e) (V.need (∀ (e : Nat), e < c.nU → c.uD e = c.uD e) (V.need (∀ (i : Nat), gd x_1.fst.toNat x_1.snd i = gd c.nP (fun (e : Nat) => x_1.snd e) i ∨ gd c.nP (fun (e : Nat) => x_1.snd e) i = 0) (V.need (∀ (i : Nat), gd c.nP (fun (e : Nat) => c.lenP e) i ≤ gd c.nP (fun (e : Nat) => x_1.snd e) i ∧ gd c.nP (fun (e : Nat) => c.lenP e) i ≤ gd x_1.fst.toNat c.lenP i) (V.need (∀ (i e : Nat), e < gd c.nP (fun (e : Nat) => c.lenP e) i → c.iO i e = c.iO i e) (V.need (∀ (i e : Nat), e < gd c.nP (fun (e : Nat) => c.lenP e) i → c.iA i e = c.iA i e) (V.need (∀ (i e : Nat), e < gd c.nP (fun (e : Nat) => c.lenP e) i → c.iB i e = c.iB i e) V.ok))))))))))))))))))))))))))))))))))))))))))))))))))))))))))))))) := by kernel_rfl


end Go.Proofs.Ytimklokgjmdobaa.Vc


/- config.Clone: the contract. -/
set_option maxRecDepth 100000
namespace Go.Proofs.Ytimklokgjmdobaa.Vc
open Go Go.RowKit Sx Cn Dc Ck
theorem cl_is {c : Cf} {i x z : Nat} {F : Nat → Nat} (h : i = c.nP) (hF : ∀ e, e < i → c.lenP e ≤ F e) (hx : c.nP ≤ x) (hz : c.nU ≤ z) : IsCl c (clOf c (fun e => F e) x z) :=
  ⟨F, x, z, ⟨fun e he => hF e (by omega), hx, hz⟩, rfl⟩
theorem ite_len {A F : Nat → Nat} {i x e : Nat} (h : ∀ e, e < i → A e ≤ F e) (hx : A i ≤ x) (he : e < i + 1) : A e ≤ if e = i then x else F e := by
  split
  · subst_vars; exact hx
  · exact h e (by omega)
theorem gd_ite {A : Nat → Nat} {i j : Nat} : gd (i + 1) A j ≤ if j = i then A i else gd i A j := by
  by_cases e : j = i
  · subst e; simp [gd]
  · rw [if_neg e]; unfold gd; by_cases g : j < i
    · rw [if_pos g, if_pos (by omega)]; exact Nat.le_refl _
    · rw [if_neg (by omega)]; exact Nat.zero_le _
set_option maxHeartbeats 4000000 in
theorem vhClone {c : Cf} (h : preE c) : VHolds (verClone c) := by
  constructor
  rw [verClone_eq]
  obtain ⟨⟨hp, hl⟩, hu⟩ := h
  simp only [V.holds, Int.ofNat_eq_natCast, decide_eq_true_eq, decide_eq_false_iff_not, ge_iff_le, beq_iff_eq, beq_eq_false_iff_ne, Int.natCast_zero, Int.natCast_one, Int.cast_ofNat_Int, true_and, and_true, eq_self, forall_const, true_implies, implies_true, Nat.le_refl, Nat.zero_lt_one, Nat.zero_add, Int.toNat_natCast, Int.toNat_zero, ne_eq, if_true, and_self, Nat.not_lt_zero, false_implies]
  repeat' first
    | exact True.intro
    | with_reducible apply And.intro
    | (refine Prod.forall.2 fun xi F => ?_
       intro hx
       simp only at hx ⊢
       obtain ⟨i, rfl⟩ := Int.eq_ofNat_of_zero_le hx.1
       simp only [Int.toNat_natCast] at hx ⊢
       obtain ⟨hx0, hx1, hx2⟩ := hx)
    | intro _
  all_goals try simp (disch := omega) only [wnat, Int.toNat_natCast]
  all_goals try simp (disch := omega) only [wnat, Int.toNat_natCast] at *
  all_goals try (first
    | omega
    | exact hl _ (by omega)
    | exact ⟨_, Nat.le_refl _⟩
    | exact row_le rfl
    | exact row_le (F := fun _ => c.nU) rfl
    | (split <;> rfl)
    | ((repeat' split) <;> first | rfl | omega | (subst_vars; rfl) | (subst_vars; assumption) | exact (by assumption : ∀ e, e < _ → _) _ (by omega))
    | exact ite_len (by assumption) (by assumption) (by assumption)
    | exact gd_ite
    | (split <;> first | rfl | (rename_i h; rw [h.2]))
    | exact cl_is (show i = c.nP by omega) hx2 (by assumption) (by assumption)
    | ((simp only [gd]; repeat' split) <;> first | omega | (subst_vars; assumption) | (apply hx2; omega)))
noncomputable section
def outCl (c : Cf) : Out (SV × Hp) := .need (preE c) (.any Cf (IsCl c) fun d => .leaf (argCm 3 d, ⟨hOwn 3 d, 6, fun _ => True⟩))
def conClone : List SV → Hp → Out (SV × Hp) := conCfP outCl
theorem conClone_ok : ContractOK P 19 conClone := conCfP_ok fun c => local_of_ver conCl_ok vhClone
end
end Go.Proofs.Ytimklokgjmdobaa.Vc


/- machine.New and the reference's New: what is asked. -/
set_option maxRecDepth 100000
namespace Go.Proofs.Ytimklokgjmdobaa.Vc
open Go Go.RowKit Sx Cn Dc Ck
def ncI (c : Cf) : Int := lT c + 5 * c.T
def ncN (c : Cf) : Nat := (ncI c).toNat
noncomputable section
def cfL (k0 k1 : Nat) (c : Cf) : List SC := [.iv .i64 c.W, .iv .i64 c.L, .iv .i64 c.C, .iv .i64 c.T, .iv .i64 c.D, .iv .i64 c.H, .iv .i64 c.B, .iv .i64 c.A, .iv .i64 c.P, slK k0 1 c.nP c.rc, slK k1 3 c.nU c.cu]
def layL (c : Cf) : List SC := [.iv .i64 c.W, .iv .i64 c.L, .iv .i64 c.C, .iv .i64 c.T, .iv .i64 c.D, .iv .i64 c.H, .iv .i64 (lS c), .iv .i64 (lE c), .iv .i64 (lB c), .iv .i64 (lQ c), .iv .i64 (lT c)]
def envB (k0 k1 km kc kr : Nat) (c : Cf) (rn rc : Nat) : Blk := .own 40 26 ((cfL k0 k1 c ++ layL c ++ [.ptr km (.k 0) (.k 0) 0 6, .ptr kc (.k 0) (.k 0) 0 2, slK kr 7 rn rc, .nils]).map some)
def memB (k : Nat) (n cap : Nat) (a0 a1 a2 a3 cnt : Int) : Blk := .own 72 6 ([slK k 1 n cap, .iv .i64 a0, .iv .i64 a1, .iv .u64 a2, .iv .u64 a3, .iv .i64 cnt].map some)
def zeroB (n : Nat) : Blk := .row 43 n n [.ci .u64 fun _ _ => 0]
def clkB (now dr : Int) : Blk := .own 68 2 [some (.iv .i64 now), some (.iv .i64 dr)]
def e24 (s : St) : Nat := cellKey (tkey 6 s) 24 s.H.h
def fNew (n : Int) (s : St) : Option (LA (Int × Nat)) := match find (tkey 6 s) s.H.h with
  | some (.own t size cs) => some ⟨[(tkey 6, true), (e24, false)], fun x => [.own t size (cs.set 24 (some (slK (e24 s) 7 x.1.toNat x.2))), freshB x.1.toNat x.2], [29], fun x => [iv x.1],
    fun s => match intT 29 s, capOf (e24 s) s.H.h with | some i, some c => some (i, c) | _, _ => none, fun x => 0 ≤ x.1 ∧ x.1 ≤ n ∧ x.1.toNat ≤ x.2, fun x => (n - x.1).toNat⟩
  | _ => none
def selP : SV → Hp → Bool := fun s _ => match s with
  | .t [.c .nilp, _] => false
  | _ => true
def keyF (f : Nat) (k : Nat) (H : HL) : Nat := cellKey k f H
def keysE (k : Nat) (H : HL) : List Nat := [k, keyF 22 k H, keyF 0 (keyF 22 k H) H, keyF 23 k H, keyF 24 k H] ++ (match find k H with
  | some (.own _ _ cs) => match (cs[9]? : Option (Option SC)), (cs[10]? : Option (Option SC)) with
    | some (some a), some (some b) => [Sx.keyOf a, Sx.keyOf b, match find (Sx.keyOf a) H with | some (.row _ _ _ [.cs kF _ _ _ _]) => kF | _ => 0]
    | _, _ => []
  | _ => [])
def cfE (k : Nat) (H : HL) : Option Cf := match find k H with
  | some (.own _ _ cs) => match cs.take 11 with
    | [some a, some b, some c, some d, some e, some f, some g, some h, some i, some p, some q] => (rdCf (.a [a, b, c, d, e, f, g, h, i, p, q]) H).map (·.1)
    | _ => none
  | _ => none
def tupK (s : SV) : Nat := match s with | .t (.c x :: _) => Sx.keyOf x | .c x => Sx.keyOf x | _ => 0
def hNew (d : Cf) (rn rc : Nat) : HL := [(3, envB 8 9 4 6 7 d rn rc), (4, memB 5 (ncN d) (ncN d) 0 0 0 0 0), (5, zeroB (ncN d)), (6, clkB 0 0), (7, freshB rn rc)] ++ hOwn 8 d
def psNewM (c : Cf) : PS := .br (decide (errE c = 0)) selP
  (.leaf (Cf × Nat) 11 (fun s H => match cfE (tupK s) H.h, capOf (keyF 24 (tupK s) H.h) H.h with | some d, some x => some (d, x) | _, _ => none) (fun s H => keysE (tupK s) H.h) (fun x => IsCl c x.1 ∧ c.T.toNat ≤ x.2)
    (fun _ => .t [.c (.ptr 3 (.k 0) (.k 0) 0 26), .c (.iv .i64 0)]) (fun x => hNew x.1 c.T.toNat x.2))
  (.one 3 (fun _ _ => []) (.t [.c .nilp, .c (.iv .i64 (errE c))]) [])
def conNM : Con := Con.add 16 conNew (Con.add 19 conClone con0)
theorem conNM_ok : ConOK P conNM := .add conNew_ok (.add conClone_ok ConOK.nil)
def verNewM (c : Cf) : V := verF P conNM 3 6 5 [] (.loop _ [.nilCell (tkey 6) 24 62 7 fun _ => freshC] (fNew c.T) .nil .nil) [argC c] ⟨hC c, 3, fun _ => True⟩ ((psNewM c).fin 3)
end
end Go.Proofs.Ytimklokgjmdobaa.Vc


/- MachineEnvs: the environments made: the conditions, printed by program. -/
set_option maxRecDepth 100000
namespace Go.Proofs.Ytimklokgjmdobaa.Vc
open Go Go.RowKit Sx Cn Dc Ck

abbrev qVp0 (a0 : Cf) (k : V) : V := V.need (layN (Cf.mk a0.W a0.L a0.C a0.T a0.D a0.H a0.B a0.A a0.P a0.nP a0.rc a0.nU a0.cu (fun (e : Nat) => a0.lenP e) (fun (e : Nat) => a0.FC e) (fun (i e : Nat) => a0.iO i e) (fun (i e : Nat) => a0.iA i e) (fun (i e : Nat) => a0.iB i e) (fun (e : Nat) => a0.uP e) (fun (e : Nat) => a0.uL e) fun (e : Nat) => a0.uD e) (lS (Cf.mk a0.W a0.L a0.C a0.T a0.D a0.H a0.B a0.A a0.P a0.nP a0.rc a0.nU a0.cu (fun (e : Nat) => a0.lenP e) (fun (e : Nat) => a0.FC e) (fun (i e : Nat) => a0.iO i e) (fun (i e : Nat) => a0.iA i e) (fun (i e : Nat) => a0.iB i e) (fun (e : Nat) => a0.uP e) (fun (e : Nat) => a0.uL e) fun (e : Nat) => a0.uD e)) = layN (Cf.mk a0.W a0.L a0.C a0.T a0.D a0.H a0.B a0.A a0.P a0.nP a0.rc a0.nU a0.cu (fun (e : Nat) => a0.lenP e) (fun (e : Nat) => a0.FC e) (fun (i e : Nat) => a0.iO i e) (fun (i e : Nat) => a0.iA i e) (fun (i e : Nat) => a0.iB i e) (fun (e : Nat) => a0.uP e) (fun (e : Nat) => a0.uL e) fun (e : Nat) => a0.uD e) (lS (Cf.mk a0.W a0.L a0.C a0.T a0.D a0.H a0.B a0.A a0.P a0.nP a0.rc a0.nU a0.cu (fun (e : Nat) => a0.lenP e) (fun (e : Nat) => a0.FC e) (fun (i e : Nat) => a0.iO i e) (fun (i e : Nat) => a0.iA i e) (fun (i e : Nat) => a0.iB i e) (fun (e : Nat) => a0.uP e) (fun (e : Nat) => a0.uL e) fun (e : Nat) => a0.uD e))) (V.need (layN (Cf.mk a0.W a0.L a0.C a0.T a0.D a0.H a0.B a0.A a0.P a0.nP a0.rc a0.nU a0.cu (fun (e : Nat) => a0.lenP e) (fun (e : Nat) => a0.FC e) (fun (i e : Nat) => a0.iO i e) (fun (i e : Nat) => a0.iA i e) (fun (i e : Nat) => a0.iB i e) (fun (e : Nat) => a0.uP e) (fun (e : Nat) => a0.uL e) fun (e : Nat) => a0.uD e) (lE (Cf.mk a0.W a0.L a0.C a0.T a0.D a0.H a0.B a0.A a0.P a0.nP a0.rc a0.nU a0.cu (fun (e : Nat) => a0.lenP e) (fun (e : Nat) => a0.FC e) (fun (i e : Nat) => a0.iO i e) (fun (i e : Nat) => a0.iA i e) (fun (i e : Nat) => a0.iB i e) (fun (e : Nat) => a0.uP e) (fun (e : Nat) => a0.uL e) fun (e : Nat) => a0.uD e)) = layN (Cf.mk a0.W a0.L a0.C a0.T a0.D a0.H a0.B a0.A a0.P a0.nP a0.rc a0.nU a0.cu (fun (e : Nat) => a0.lenP e) (fun (e : Nat) => a0.FC e) (fun (i e : Nat) => a0.iO i e) (fun (i e : Nat) => a0.iA i e) (fun (i e : Nat) => a0.iB i e) (fun (e : Nat) => a0.uP e) (fun (e : Nat) => a0.uL e) fun (e : Nat) => a0.uD e) (lE (Cf.mk a0.W a0.L a0.C a0.T a0.D a0.H a0.B a0.A a0.P a0.nP a0.rc a0.nU a0.cu (fun (e : Nat) => a0.lenP e) (fun (e : Nat) => a0.FC e) (fun (i e : Nat) => a0.iO i e) (fun (i e : Nat) => a0.iA i e) (fun (i e : Nat) => a0.iB i e) (fun (e : Nat) => a0.uP e) (fun (e : Nat) => a0.uL e) fun (e : Nat) => a0.uD e))) k)
abbrev qVp1 (a0 : Cf) (k : V) : V := V.need (layN (Cf.mk a0.W a0.L a0.C a0.T a0.D a0.H a0.B a0.A a0.P a0.nP a0.rc a0.nU a0.cu (fun (e : Nat) => a0.lenP e) (fun (e : Nat) => a0.FC e) (fun (i e : Nat) => a0.iO i e) (fun (i e : Nat) => a0.iA i e) (fun (i e : Nat) => a0.iB i e) (fun (e : Nat) => a0.uP e) (fun (e : Nat) => a0.uL e) fun (e : Nat) => a0.uD e) a0.W = layN (Cf.mk a0.W a0.L a0.C a0.T a0.D a0.H a0.B a0.A a0.P a0.nP a0.rc a0.nU a0.cu (fun (e : Nat) => a0.lenP e) (fun (e : Nat) => a0.FC e) (fun (i e : Nat) => a0.iO i e) (fun (i e : Nat) => a0.iA i e) (fun (i e : Nat) => a0.iB i e) (fun (e : Nat) => a0.uP e) (fun (e : Nat) => a0.uL e) fun (e : Nat) => a0.uD e) a0.W) (V.need (layN (Cf.mk a0.W a0.L a0.C a0.T a0.D a0.H a0.B a0.A a0.P a0.nP a0.rc a0.nU a0.cu (fun (e : Nat) => a0.lenP e) (fun (e : Nat) => a0.FC e) (fun (i e : Nat) => a0.iO i e) (fun (i e : Nat) => a0.iA i e) (fun (i e : Nat) => a0.iB i e) (fun (e : Nat) => a0.uP e) (fun (e : Nat) => a0.uL e) fun (e : Nat) => a0.uD e) a0.L = layN (Cf.mk a0.W a0.L a0.C a0.T a0.D a0.H a0.B a0.A a0.P a0.nP a0.rc a0.nU a0.cu (fun (e : Nat) => a0.lenP e) (fun (e : Nat) => a0.FC e) (fun (i e : Nat) => a0.iO i e) (fun (i e : Nat) => a0.iA i e) (fun (i e : Nat) => a0.iB i e) (fun (e : Nat) => a0.uP e) (fun (e : Nat) => a0.uL e) fun (e : Nat) => a0.uD e) a0.L) k)
abbrev qVp2 (a0 : Cf) (k : V) : V := V.need (layN (Cf.mk a0.W a0.L a0.C a0.T a0.D a0.H a0.B a0.A a0.P a0.nP a0.rc a0.nU a0.cu (fun (e : Nat) => a0.lenP e) (fun (e : Nat) => a0.FC e) (fun (i e : Nat) => a0.iO i e) (fun (i e : Nat) => a0.iA i e) (fun (i e : Nat) => a0.iB i e) (fun (e : Nat) => a0.uP e) (fun (e : Nat) => a0.uL e) fun (e : Nat) => a0.uD e) a0.C = layN (Cf.mk a0.W a0.L a0.C a0.T a0.D a0.H a0.B a0.A a0.P a0.nP a0.rc a0.nU a0.cu (fun (e : Nat) => a0.lenP e) (fun (e : Nat) => a0.FC e) (fun (i e : Nat) => a0.iO i e) (fun (i e : Nat) => a0.iA i e) (fun (i e : Nat) => a0.iB i e) (fun (e : Nat) => a0.uP e) (fun (e : Nat) => a0.uL e) fun (e : Nat) => a0.uD e) a0.C) (V.need (layN (Cf.mk a0.W a0.L a0.C a0.T a0.D a0.H a0.B a0.A a0.P a0.nP a0.rc a0.nU a0.cu (fun (e : Nat) => a0.lenP e) (fun (e : Nat) => a0.FC e) (fun (i e : Nat) => a0.iO i e) (fun (i e : Nat) => a0.iA i e) (fun (i e : Nat) => a0.iB i e) (fun (e : Nat) => a0.uP e) (fun (e : Nat) => a0.uL e) fun (e : Nat) => a0.uD e) a0.T = layN (Cf.mk a0.W a0.L a0.C a0.T a0.D a0.H a0.B a0.A a0.P a0.nP a0.rc a0.nU a0.cu (fun (e : Nat) => a0.lenP e) (fun (e : Nat) => a0.FC e) (fun (i e : Nat) => a0.iO i e) (fun (i e : Nat) => a0.iA i e) (fun (i e : Nat) => a0.iB i e) (fun (e : Nat) => a0.uP e) (fun (e : Nat) => a0.uL e) fun (e : Nat) => a0.uD e) a0.T) k)
abbrev qVp3 (a0 : Cf) (k : V) : V := V.need (layN (Cf.mk a0.W a0.L a0.C a0.T a0.D a0.H a0.B a0.A a0.P a0.nP a0.rc a0.nU a0.cu (fun (e : Nat) => a0.lenP e) (fun (e : Nat) => a0.FC e) (fun (i e : Nat) => a0.iO i e) (fun (i e : Nat) => a0.iA i e) (fun (i e : Nat) => a0.iB i e) (fun (e : Nat) => a0.uP e) (fun (e : Nat) => a0.uL e) fun (e : Nat) => a0.uD e) a0.D = layN (Cf.mk a0.W a0.L a0.C a0.T a0.D a0.H a0.B a0.A a0.P a0.nP a0.rc a0.nU a0.cu (fun (e : Nat) => a0.lenP e) (fun (e : Nat) => a0.FC e) (fun (i e : Nat) => a0.iO i e) (fun (i e : Nat) => a0.iA i e) (fun (i e : Nat) => a0.iB i e) (fun (e : Nat) => a0.uP e) (fun (e : Nat) => a0.uL e) fun (e : Nat) => a0.uD e) a0.D) (V.need (layN (Cf.mk a0.W a0.L a0.C a0.T a0.D a0.H a0.B a0.A a0.P a0.nP a0.rc a0.nU a0.cu (fun (e : Nat) => a0.lenP e) (fun (e : Nat) => a0.FC e) (fun (i e : Nat) => a0.iO i e) (fun (i e : Nat) => a0.iA i e) (fun (i e : Nat) => a0.iB i e) (fun (e : Nat) => a0.uP e) (fun (e : Nat) => a0.uL e) fun (e : Nat) => a0.uD e) a0.H = layN (Cf.mk a0.W a0.L a0.C a0.T a0.D a0.H a0.B a0.A a0.P a0.nP a0.rc a0.nU a0.cu (fun (e : Nat) => a0.lenP e) (fun (e : Nat) => a0.FC e) (fun (i e : Nat) => a0.iO i e) (fun (i e : Nat) => a0.iA i e) (fun (i e : Nat) => a0.iB i e) (fun (e : Nat) => a0.uP e) (fun (e : Nat) => a0.uL e) fun (e : Nat) => a0.uD e) a0.H) k)
abbrev qVp4 (a0 : Cf) (k : V) : V := V.need (layN (Cf.mk a0.W a0.L a0.C a0.T a0.D a0.H a0.B a0.A a0.P a0.nP a0.rc a0.nU a0.cu (fun (e : Nat) => a0.lenP e) (fun (e : Nat) => a0.FC e) (fun (i e : Nat) => a0.iO i e) (fun (i e : Nat) => a0.iA i e) (fun (i e : Nat) => a0.iB i e) (fun (e : Nat) => a0.uP e) (fun (e : Nat) => a0.uL e) fun (e : Nat) => a0.uD e) (lB (Cf.mk a0.W a0.L a0.C a0.T a0.D a0.H a0.B a0.A a0.P a0.nP a0.rc a0.nU a0.cu (fun (e : Nat) => a0.lenP e) (fun (e : Nat) => a0.FC e) (fun (i e : Nat) => a0.iO i e) (fun (i e : Nat) => a0.iA i e) (fun (i e : Nat) => a0.iB i e) (fun (e : Nat) => a0.uP e) (fun (e : Nat) => a0.uL e) fun (e : Nat) => a0.uD e)) = layN (Cf.mk a0.W a0.L a0.C a0.T a0.D a0.H a0.B a0.A a0.P a0.nP a0.rc a0.nU a0.cu (fun (e : Nat) => a0.lenP e) (fun (e : Nat) => a0.FC e) (fun (i e : Nat) => a0.iO i e) (fun (i e : Nat) => a0.iA i e) (fun (i e : Nat) => a0.iB i e) (fun (e : Nat) => a0.uP e) (fun (e : Nat) => a0.uL e) fun (e : Nat) => a0.uD e) (lB (Cf.mk a0.W a0.L a0.C a0.T a0.D a0.H a0.B a0.A a0.P a0.nP a0.rc a0.nU a0.cu (fun (e : Nat) => a0.lenP e) (fun (e : Nat) => a0.FC e) (fun (i e : Nat) => a0.iO i e) (fun (i e : Nat) => a0.iA i e) (fun (i e : Nat) => a0.iB i e) (fun (e : Nat) => a0.uP e) (fun (e : Nat) => a0.uL e) fun (e : Nat) => a0.uD e))) (V.need (layN (Cf.mk a0.W a0.L a0.C a0.T a0.D a0.H a0.B a0.A a0.P a0.nP a0.rc a0.nU a0.cu (fun (e : Nat) => a0.lenP e) (fun (e : Nat) => a0.FC e) (fun (i e : Nat) => a0.iO i e) (fun (i e : Nat) => a0.iA i e) (fun (i e : Nat) => a0.iB i e) (fun (e : Nat) => a0.uP e) (fun (e : Nat) => a0.uL e) fun (e : Nat) => a0.uD e) (lQ (Cf.mk a0.W a0.L a0.C a0.T a0.D a0.H a0.B a0.A a0.P a0.nP a0.rc a0.nU a0.cu (fun (e : Nat) => a0.lenP e) (fun (e : Nat) => a0.FC e) (fun (i e : Nat) => a0.iO i e) (fun (i e : Nat) => a0.iA i e) (fun (i e : Nat) => a0.iB i e) (fun (e : Nat) => a0.uP e) (fun (e : Nat) => a0.uL e) fun (e : Nat) => a0.uD e)) = layN (Cf.mk a0.W a0.L a0.C a0.T a0.D a0.H a0.B a0.A a0.P a0.nP a0.rc a0.nU a0.cu (fun (e : Nat) => a0.lenP e) (fun (e : Nat) => a0.FC e) (fun (i e : Nat) => a0.iO i e) (fun (i e : Nat) => a0.iA i e) (fun (i e : Nat) => a0.iB i e) (fun (e : Nat) => a0.uP e) (fun (e : Nat) => a0.uL e) fun (e : Nat) => a0.uD e) (lQ (Cf.mk a0.W a0.L a0.C a0.T a0.D a0.H a0.B a0.A a0.P a0.nP a0.rc a0.nU a0.cu (fun (e : Nat) => a0.lenP e) (fun (e : Nat) => a0.FC e) (fun (i e : Nat) => a0.iO i e) (fun (i e : Nat) => a0.iA i e) (fun (i e : Nat) => a0.iB i e) (fun (e : Nat) => a0.uP e) (fun (e : Nat) => a0.uL e) fun (e : Nat) => a0.uD e))) (V.need (layN (Cf.mk a0.W a0.L a0.C a0.T a0.D a0.H a0.B a0.A a0.P a0.nP a0.rc a0.nU a0.cu (fun (e : Nat) => a0.lenP e) (fun (e : Nat) => a0.FC e) (fun (i e : Nat) => a0.iO i e) (fun (i e : Nat) => a0.iA i e) (fun (i e : Nat) => a0.iB i e) (fun (e : Nat) => a0.uP e) (fun (e : Nat) => a0.uL e) fun (e : Nat) => a0.uD e) (lT (Cf.mk a0.W a0.L a0.C a0.T a0.D a0.H a0.B a0.A a0.P a0.nP a0.rc a0.nU a0.cu (fun (e : Nat) => a0.lenP e) (fun (e : Nat) => a0.FC e) (fun (i e : Nat) => a0.iO i e) (fun (i e : Nat) => a0.iA i e) (fun (i e : Nat) => a0.iB i e) (fun (e : Nat) => a0.uP e) (fun (e : Nat) => a0.uL e) fun (e : Nat) => a0.uD e)) = layN (Cf.mk a0.W a0.L a0.C a0.T a0.D a0.H a0.B a0.A a0.P a0.nP a0.rc a0.nU a0.cu (fun (e : Nat) => a0.lenP e) (fun (e : Nat) => a0.FC e) (fun (i e : Nat) => a0.iO i e) (fun (i e : Nat) => a0.iA i e) (fun (i e : Nat) => a0.iB i e) (fun (e : Nat) => a0.uP e) (fun (e : Nat) => a0.uL e) fun (e : Nat) => a0.uD e) (lT (Cf.mk a0.W a0.L a0.C a0.T a0.D a0.H a0.B a0.A a0.P a0.nP a0.rc a0.nU a0.cu (fun (e : Nat) => a0.lenP e) (fun (e : Nat) => a0.FC e) (fun (i e : Nat) => a0.iO i e) (fun (i e : Nat) => a0.iA i e) (fun (i e : Nat) => a0.iB i e) (fun (e : Nat) => a0.uP e) (fun (e : Nat) => a0.uL e) fun (e : Nat) => a0.uD e))) k))
abbrev qVp5 (k : V) : V := V.need (0 < 1 ∧ 0 < 1) (V.need (0 < 1 ∧ 0 < 1) k)
abbrev qVp6 (a0 : Int × Nat) (k : V) : V := V.need (∀ (e : Nat), e < (IntKind.i64.wrap (a0.fst + Int.ofNat 1)).toNat → (if 0 = 0 ∧ e = a0.fst.toNat then Int.ofNat 0 else Int.ofNat 0) = Int.ofNat 0) (V.need (∀ (e : Nat), e < (IntKind.i64.wrap (a0.fst + Int.ofNat 1)).toNat → (if 0 = 0 ∧ e = a0.fst.toNat then Int.negSucc 0 else -Int.ofNat 1) = -Int.ofNat 1) k)
abbrev qVp7 (k : V) : V := V.need (Int.ofNat 0 = Int.ofNat 0) (V.need (Int.ofNat 0 = Int.ofNat 0) k)
abbrev qVp8 (a0 : Cf) (k : V) : V := V.need (a0.nP = a0.nP) (V.need (a0.rc = a0.rc) k)
abbrev qVp9 (a0 : Cf) (k : V) : V := V.need (a0.nU = a0.nU) (V.need (a0.cu = a0.cu) k)
abbrev qVp10 (a0 : Cf) (k : V) : V := V.need (a0.W = a0.W) (V.need (a0.L = a0.L) k)
abbrev qVp11 (a0 : Cf) (k : V) : V := V.need (a0.C = a0.C) (V.need (a0.T = a0.T) k)
abbrev qVp12 (a0 : Cf) (k : V) : V := V.need (a0.D = a0.D) (V.need (a0.H = a0.H) k)
abbrev qVp13 (k : V) : V := V.need (∀ (e : Nat), e < 0 → Int.ofNat 0 = Int.ofNat 0) (V.need (∀ (e : Nat), e < 0 → -Int.ofNat 1 = -Int.ofNat 1) k)
abbrev qVp14 (a0 : Cf) (k : V) : V := V.need (∀ (e : Nat), e < a0.T.toNat → Int.ofNat 0 = Int.ofNat 0) (V.need (∀ (e : Nat), e < a0.T.toNat → -Int.ofNat 1 = -Int.ofNat 1) k)
abbrev qVp15 (a0 : Cf) (k : V) : V := V.need (∀ (i e : Nat), i < 1 ∧ e < a0.nP → a0.lenP e = a0.lenP e) (V.need (∀ (i e : Nat), i < 1 ∧ e < a0.nP → a0.FC e = a0.FC e) k)
abbrev qVp16 (a0 : Cf) (k : V) : V := V.need (∀ (i e : Nat), i < 1 ∧ e < a0.nU → a0.uP e = a0.uP e) (V.need (∀ (i e : Nat), i < 1 ∧ e < a0.nU → a0.uL e = a0.uL e) k)
abbrev qVp17 (a0 : Cf) (k : V) : V := V.need (a0.B = a0.B) (V.need (a0.A = a0.A) (V.need (a0.P = a0.P) k))
abbrev qVp18 (a0 : Cf) (k : V) : V := V.need (∀ (i : Nat), i < 1 → a0.nP ≤ a0.nP) (V.need (∀ (i e : Nat), i < 1 ∧ e < a0.nP → e = e) k)
abbrev qVp19 (k : V) : V := V.need (0 < 1) (V.need (0 < 1) k)
abbrev qVp20 (a0 : Cf) (k : V) : V := V.need (∀ (i e : Nat), i < 1 ∧ e < a0.nU → a0.uD e = a0.uD e) (V.need (a0.nP ≤ a0.nP) k)
abbrev qVp21 (a0 : Cf) (k : V) : V := V.need (∀ (i e : Nat), i < a0.nP ∧ e < a0.lenP i → a0.iO i e = a0.iO i e) (V.need (∀ (i e : Nat), i < a0.nP ∧ e < a0.lenP i → a0.iA i e = a0.iA i e) (V.need (∀ (i e : Nat), i < a0.nP ∧ e < a0.lenP i → a0.iB i e = a0.iB i e) k))
set_option maxHeartbeats 8000000 in
theorem verNewM_eq (c : Cf) : verNewM c =
  qVp10 c (qVp11 c (qVp12 c (qVp17 c (qVp8 c (qVp9 c (V.need (1 ≤ 1) (qVp18 c (qVp15 c (V.need (1 ≤ 1) (V.need (∀ (i : Nat), i < 1 → c.nU ≤ c.nU) (qVp16 c (qVp20 c (V.need (∀ (i : Nat), i < c.nP → c.lenP i ≤ c.lenP i) (qVp21 c (V.need True (V.br (errE (Cf.mk c.W c.L c.C c.T c.D c.H c.B c.A c.P c.nP c.rc c.nU c.cu (fun (e : Nat) => c.lenP e) (fun (e : Nat) => c.FC e) (fun (i e : Nat) => c.iO i e) (fun (i e : Nat) => c.iA i e) (fun (i e : Nat) => c.iB i e) (fun (e : Nat) => c.uP e) (fun (e : Nat) => c.uL e) fun (e : Nat) => c.uD e) != Int.ofNat 0) (V.need (decide (errE c = Int.ofNat 0) = false) (V.need True (V.need (errE (Cf.mk c.W c.L c.C c.T c.D c.H c.B c.A c.P c.nP c.rc c.nU c.cu (fun (e : Nat) => c.lenP e) (fun (e : Nat) => c.FC e) (fun (i e : Nat) => c.iO i e) (fun (i e : Nat) => c.iA i e) (fun (i e : Nat) => c.iB i e) (fun (e : Nat) => c.uP e) (fun (e : Nat) => c.uL e) fun (e : Nat) => c.uD e) = errE c) V.ok))) (V.need (Int.ofNat 0 ≤ min (max (IntKind.i64.wrap (layN (Cf.mk c.W c.L c.C c.T c.D c.H c.B c.A c.P c.nP c.rc c.nU c.cu (fun (e : Nat) => c.lenP e) (fun (e : Nat) => c.FC e) (fun (i e : Nat) => c.iO i e) (fun (i e : Nat) => c.iA i e) (fun (i e : Nat) => c.iB i e) (fun (e : Nat) => c.uP e) (fun (e : Nat) => c.uL e) fun (e : Nat) => c.uD e) (lT (Cf.mk c.W c.L c.C c.T c.D c.H c.B c.A c.P c.nP c.rc c.nU c.cu (fun (e : Nat) => c.lenP e) (fun (e : Nat) => c.FC e) (fun (i e : Nat) => c.iO i e) (fun (i e : Nat) => c.iA i e) (fun (i e : Nat) => c.iB i e) (fun (e : Nat) => c.uP e) (fun (e : Nat) => c.uL e) fun (e : Nat) => c.uD e)) + IntKind.i64.wrap (Int.ofNat 5 * layN (Cf.mk c.W c.L c.C c.T c.D c.H c.B c.A c.P c.nP c.rc c.nU c.cu (fun (e : Nat) => c.lenP e) (fun (e : Nat) => c.FC e) (fun (i e : Nat) => c.iO i e) (fun (i e : Nat) => c.iA i e) (fun (i e : Nat) => c.iB i e) (fun (e : Nat) => c.uP e) (fun (e : Nat) => c.uL e) fun (e : Nat) => c.uD e) c.T))) (Int.ofNat 0)) (Int.ofNat 131072) ∧ min (max (IntKind.i64.wrap (layN (Cf.mk c.W c.L c.C c.T c.D c.H c.B c.A c.P c.nP c.rc c.nU c.cu (fun (e : Nat) => c.lenP e) (fun (e : Nat) => c.FC e) (fun (i e : Nat) => c.iO i e) (fun (i e : Nat) => c.iA i e) (fun (i e : Nat) => c.iB i e) (fun (e : Nat) => c.uP e) (fun (e : Nat) => c.uL e) fun (e : Nat) => c.uD e) (lT (Cf.mk c.W c.L c.C c.T c.D c.H c.B c.A c.P c.nP c.rc c.nU c.cu (fun (e : Nat) => c.lenP e) (fun (e : Nat) => c.FC e) (fun (i e : Nat) => c.iO i e) (fun (i e : Nat) => c.iA i e) (fun (i e : Nat) => c.iB i e) (fun (e : Nat) => c.uP e) (fun (e : Nat) => c.uL e) fun (e : Nat) => c.uD e)) + IntKind.i64.wrap (Int.ofNat 5 * layN (Cf.mk c.W c.L c.C c.T c.D c.H c.B c.A c.P c.nP c.rc c.nU c.cu (fun (e : Nat) => c.lenP e) (fun (e : Nat) => c.FC e) (fun (i e : Nat) => c.iO i e) (fun (i e : Nat) => c.iA i e) (fun (i e : Nat) => c.iB i e) (fun (e : Nat) => c.uP e) (fun (e : Nat) => c.uL e) fun (e : Nat) => c.uD e) c.T))) (Int.ofNat 0)) (Int.ofNat 131072) ≤ min (max (IntKind.i64.wrap (layN (Cf.mk c.W c.L c.C c.T c.D c.H c.B c.A c.P c.nP c.rc c.nU c.cu (fun (e : Nat) => c.lenP e) (fun (e : Nat) => c.FC e) (fun (i e : Nat) => c.iO i e) (fun (i e : Nat) => c.iA i e) (fun (i e : Nat) => c.iB i e) (fun (e : Nat) => c.uP e) (fun (e : Nat) => c.uL e) fun (e : Nat) => c.uD e) (lT (Cf.mk c.W c.L c.C c.T c.D c.H c.B c.A c.P c.nP c.rc c.nU c.cu (fun (e : Nat) => c.lenP e) (fun (e : Nat) => c.FC e) (fun (i e : Nat) => c.iO i e) (fun (i e : Nat) => c.iA i e) (fun (i e : Nat) => c.iB i e) (fun (e : Nat) => c.uP e) (fun (e : Nat) => c.uL e) fun (e : Nat) => c.uD e)) + IntKind.i64.wrap (Int.ofNat 5 * layN (Cf.mk c.W c.L c.C c.T c.D c.H c.B c.A c.P c.nP c.rc c.nU c.cu (fun (e : Nat) => c.lenP e) (fun (e : Nat) => c.FC e) (fun (i e : Nat) => c.iO i e) (fun (i e : Nat) => c.iA i e) (fun (i e : Nat) => c.iB i e) (fun (e : Nat) => c.uP e) (fun (e : Nat) => c.uL e) fun (e : Nat) => c.uD e) c.T))) (Int.ofNat 0)) (Int.ofNat 131072) ∧ (↑8 : Int) * min (max (IntKind.i64.wrap (layN (Cf.mk c.W c.L c.C c.T c.D c.H c.B c.A c.P c.nP c.rc c.nU c.cu (fun (e : Nat) => c.lenP e) (fun (e : Nat) => c.FC e) (fun (i e : Nat) => c.iO i e) (fun (i e : Nat) => c.iA i e) (fun (i e : Nat) => c.iB i e) (fun (e : Nat) => c.uP e) (fun (e : Nat) => c.uL e) fun (e : Nat) => c.uD e) (lT (Cf.mk c.W c.L c.C c.T c.D c.H c.B c.A c.P c.nP c.rc c.nU c.cu (fun (e : Nat) => c.lenP e) (fun (e : Nat) => c.FC e) (fun (i e : Nat) => c.iO i e) (fun (i e : Nat) => c.iA i e) (fun (i e : Nat) => c.iB i e) (fun (e : Nat) => c.uP e) (fun (e : Nat) => c.uL e) fun (e : Nat) => c.uD e)) + IntKind.i64.wrap (Int.ofNat 5 * layN (Cf.mk c.W c.L c.C c.T c.D c.H c.B c.A c.P c.nP c.rc c.nU c.cu (fun (e : Nat) => c.lenP e) (fun (e : Nat) => c.FC e) (fun (i e : Nat) => c.iO i e) (fun (i e : Nat) => c.iA i e) (fun (i e : Nat) => c.iB i e) (fun (e : Nat) => c.uP e) (fun (e : Nat) => c.uL e) fun (e : Nat) => c.uD e) c.T))) (Int.ofNat 0)) (Int.ofNat 131072) ≤ Int.ofNat 281474976710656 ∧ min (max (IntKind.i64.wrap (layN (Cf.mk c.W c.L c.C c.T c.D c.H c.B c.A c.P c.nP c.rc c.nU c.cu (fun (e : Nat) => c.lenP e) (fun (e : Nat) => c.FC e) (fun (i e : Nat) => c.iO i e) (fun (i e : Nat) => c.iA i e) (fun (i e : Nat) => c.iB i e) (fun (e : Nat) => c.uP e) (fun (e : Nat) => c.uL e) fun (e : Nat) => c.uD e) (lT (Cf.mk c.W c.L c.C c.T c.D c.H c.B c.A c.P c.nP c.rc c.nU c.cu (fun (e : Nat) => c.lenP e) (fun (e : Nat) => c.FC e) (fun (i e : Nat) => c.iO i e) (fun (i e : Nat) => c.iA i e) (fun (i e : Nat) => c.iB i e) (fun (e : Nat) => c.uP e) (fun (e : Nat) => c.uL e) fun (e : Nat) => c.uD e)) + IntKind.i64.wrap (Int.ofNat 5 * layN (Cf.mk c.W c.L c.C c.T c.D c.H c.B c.A c.P c.nP c.rc c.nU c.cu (fun (e : Nat) => c.lenP e) (fun (e : Nat) => c.FC e) (fun (i e : Nat) => c.iO i e) (fun (i e : Nat) => c.iA i e) (fun (i e : Nat) => c.iB i e) (fun (e : Nat) => c.uP e) (fun (e : Nat) => c.uL e) fun (e : Nat) => c.uD e) c.T))) (Int.ofNat 0)) (Int.ofNat 131072) ≤ Int.ofNat 9223372036854775807) (qVp5 (qVp5 (qVp5 (qVp5 (qVp5 (V.need (0 < 1 ∧ 0 < 1) (qVp10 c (qVp11 c (qVp12 c (qVp17 c (qVp8 c (qVp9 c (V.need (1 ≤ 1) (qVp18 c (qVp15 c (V.need (1 ≤ 1) (V.need (∀ (i : Nat), i < 1 → c.nU ≤ c.nU) (qVp16 c (qVp20 c (V.need (∀ (i : Nat), i < c.nP → c.lenP i ≤ c.lenP i) (qVp21 c (V.need (preE (Cf.mk c.W c.L c.C c.T c.D c.H c.B c.A c.P c.nP c.rc c.nU c.cu (fun (e : Nat) => c.lenP e) (fun (e : Nat) => c.FC e) (fun (i e : Nat) => c.iO i e) (fun (i e : Nat) => c.iA i e) (fun (i e : Nat) => c.iB i e) (fun (e : Nat) => c.uP e) (fun (e : Nat) => c.uL e) fun (e : Nat) => c.uD e)) (V.need (∃ (x : Cf), IsCl (Cf.mk c.W c.L c.C c.T c.D c.H c.B c.A c.P c.nP c.rc c.nU c.cu (fun (e : Nat) => c.lenP e) (fun (e : Nat) => c.FC e) (fun (i e : Nat) => c.iO i e) (fun (i e : Nat) => c.iA i e) (fun (i e : Nat) => c.iB i e) (fun (e : Nat) => c.uP e) (fun (e : Nat) => c.uL e) fun (e : Nat) => c.uD e) x) (V.any Cf (IsCl (Cf.mk c.W c.L c.C c.T c.D c.H c.B c.A c.P c.nP c.rc c.nU c.cu (fun (e : Nat) => c.lenP e) (fun (e : Nat) => c.FC e) (fun (i e : Nat) => c.iO i e) (fun (i e : Nat) => c.iA i e) (fun (i e : Nat) => c.iB i e) (fun (e : Nat) => c.uP e) (fun (e : Nat) => c.uL e) fun (e : Nat) => c.uD e)) fun (x : Cf) => qVp5 (qVp5 (qVp5 (qVp5 (qVp5 (qVp5 (qVp5 (V.need (0 < 1 ∧ 0 < 1) (V.need (Int.ofNat 0 ≤ Int.ofNat 0 ∧ Int.ofNat 0 ≤ c.T ∧ 0 ≤ 0) (V.need (Int.ofNat 0 = Int.ofNat 0) (qVp10 x (qVp11 x (qVp12 x (qVp17 x (qVp8 x (qVp9 x (qVp1 c (qVp2 c (qVp3 c (qVp0 c (qVp4 c (V.need (0 = 0) (V.need (0 = 0) (V.need (0 = 0) (V.need (0 ≤ 0) (qVp13 (V.need (∀ (e : Nat), e < 0 → Int.ofNat 0 = Int.ofNat 0) (qVp13 (V.need (∀ (e : Nat), e < 0 → false = false) (V.any (Int × Nat) (fun (x : Int × Nat) => Int.ofNat 0 ≤ x.fst ∧ x.fst ≤ c.T ∧ x.fst.toNat ≤ x.snd) fun (x_1 : Int × Nat) => V.br (decide (x_1.fst < c.T))
 (qVp19 (qVp19 (qVp19 (V.need (0 < 1) (V.need (x_1.fst.toNat ≤ x_1.fst.toNat ∧ x_1.snd = x_1.snd) (V.need (x_1.fst.toNat + 1 ≤ 9223372036854775807 ∧ (x_1.fst.toNat + 1) * 72 ≤ 140737488355328) (V.any Nat (fun (x : Nat) => x_1.fst.toNat + 1 ≤ x) fun (x_2 : Nat) => V.need (Int.ofNat 0 ≤ IntKind.i64.wrap (x_1.fst + Int.ofNat 1) ∧ IntKind.i64.wrap (x_1.fst + Int.ofNat 1) ≤ c.T ∧ (IntKind.i64.wrap (x_1.fst + Int.ofNat 1)).toNat ≤ x_2) (V.need ((c.T - IntKind.i64.wrap (x_1.fst + Int.ofNat 1)).toNat < (c.T - x_1.fst).toNat) (V.need (IntKind.i64.wrap (x_1.fst + Int.ofNat 1) = IntKind.i64.wrap (x_1.fst + Int.ofNat 1)) (qVp10 x (qVp11 x (qVp12 x (qVp17 x (qVp8 x (qVp9 x (qVp1 c (qVp2 c (qVp3 c (qVp0 c (qVp4 c (V.need (x_1.fst.toNat + 1 = (IntKind.i64.wrap (x_1.fst + Int.ofNat 1)).toNat) (V.need (x_2 = x_2) (V.need (x_2 = x_2) (V.need ((IntKind.i64.wrap (x_1.fst + Int.ofNat 1)).toNat ≤ x_1.fst.toNat + 1) (qVp6 x_1 (V.need (∀ (e : Nat), e < (IntKind.i64.wrap (x_1.fst + Int.ofNat 1)).toNat → (if 0 = 0 ∧ e = x_1.fst.toNat then Int.ofNat 0 else Int.ofNat 0) = Int.ofNat 0) (qVp6 x_1 (V.need (∀ (e : Nat), e < (IntKind.i64.wrap (x_1.fst + Int.ofNat 1)).toNat → (if 0 = 0 ∧ e = x_1.fst.toNat then false else false) = false) V.ok))))))))))))))))))))))))))))
 (V.need (decide (errE c = Int.ofNat 0) = true) (V.need (IsCl c (Cf.mk x.W x.L x.C x.T x.D x.H x.B x.A x.P x.nP x.rc x.nU x.cu (fun (e : Nat) => x.lenP e) (fun (e : Nat) => x.FC e) (fun (i e : Nat) => x.iO i e) (fun (i e : Nat) => x.iA i e) (fun (i e : Nat) => x.iB i e) (fun (e : Nat) => x.uP e) (fun (e : Nat) => x.uL e) fun (e : Nat) => x.uD e) ∧ c.T.toNat ≤ x_1.snd) (V.need (Int.ofNat 0 = Int.ofNat 0) (qVp10 x (qVp11 x (qVp12 x (qVp17 x (qVp8 x (qVp9 x (V.need (layN (Cf.mk c.W c.L c.C c.T c.D c.H c.B c.A c.P c.nP c.rc c.nU c.cu (fun (e : Nat) => c.lenP e) (fun (e : Nat) => c.FC e) (fun (i e : Nat) => c.iO i e) (fun (i e : Nat) => c.iA i e) (fun (i e : Nat) => c.iB i e) (fun (e : Nat) => c.uP e) (fun (e : Nat) => c.uL e) fun (e : Nat) => c.uD e) c.W = x.W) (V.need (layN (Cf.mk c.W c.L c.C c.T c.D c.H c.B c.A c.P c.nP c.rc c.nU c.cu (fun (e : Nat) => c.lenP e) (fun (e : Nat) => c.FC e) (fun (i e : Nat) => c.iO i e) (fun (i e : Nat) => c.iA i e) (fun (i e : Nat) => c.iB i e) (fun (e : Nat) => c.uP e) (fun (e : Nat) => c.uL e) fun (e : Nat) => c.uD e) c.L = x.L) (V.need (layN (Cf.mk c.W c.L c.C c.T c.D c.H c.B c.A c.P c.nP c.rc c.nU c.cu (fun (e : Nat) => c.lenP e) (fun (e : Nat) => c.FC e) (fun (i e : Nat) => c.iO i e) (fun (i e : Nat) => c.iA i e) (fun (i e : Nat) => c.iB i e) (fun (e : Nat) => c.uP e) (fun (e : Nat) => c.uL e) fun (e : Nat) => c.uD e) c.C = x.C) (V.need (layN (Cf.mk c.W c.L c.C c.T c.D c.H c.B c.A c.P c.nP c.rc c.nU c.cu (fun (e : Nat) => c.lenP e) (fun (e : Nat) => c.FC e) (fun (i e : Nat) => c.iO i e) (fun (i e : Nat) => c.iA i e) (fun (i e : Nat) => c.iB i e) (fun (e : Nat) => c.uP e) (fun (e : Nat) => c.uL e) fun (e : Nat) => c.uD e) c.T = x.T) (V.need (layN (Cf.mk c.W c.L c.C c.T c.D c.H c.B c.A c.P c.nP c.rc c.nU c.cu (fun (e : Nat) => c.lenP e) (fun (e : Nat) => c.FC e) (fun (i e : Nat) => c.iO i e) (fun (i e : Nat) => c.iA i e) (fun (i e : Nat) => c.iB i e) (fun (e : Nat) => c.uP e) (fun (e : Nat) => c.uL e) fun (e : Nat) => c.uD e) c.D = x.D) (V.need (layN (Cf.mk c.W c.L c.C c.T c.D c.H c.B c.A c.P c.nP c.rc c.nU c.cu (fun (e : Nat) => c.lenP e) (fun (e : Nat) => c.FC e) (fun (i e : Nat) => c.iO i e) (fun (i e : Nat) => c.iA i e) (fun (i e : Nat) => c.iB i e) (fun (e : Nat) => c.uP e) (fun (e : Nat) => c.uL e) fun (e : Nat) => c.uD e) c.H = x.H) (V.need (layN (Cf.mk c.W c.L c.C c.T c.D c.H c.B c.A c.P c.nP c.rc c.nU c.cu (fun (e : Nat) => c.lenP e) (fun (e : Nat) => c.FC e) (fun (i e : Nat) => c.iO i e) (fun (i e : Nat) => c.iA i e) (fun (i e : Nat) => c.iB i e) (fun (e : Nat) => c.uP e) (fun (e : Nat) => c.uL e) fun (e : Nat) => c.uD e) (lS (Cf.mk c.W c.L c.C c.T c.D c.H c.B c.A c.P c.nP c.rc c.nU c.cu (fun (e : Nat) => c.lenP e) (fun (e : Nat) => c.FC e) (fun (i e : Nat) => c.iO i e) (fun (i e : Nat) => c.iA i e) (fun (i e : Nat) => c.iB i e) (fun (e : Nat) => c.uP e) (fun (e : Nat) => c.uL e) fun (e : Nat) => c.uD e)) = lS (Cf.mk x.W x.L x.C x.T x.D x.H x.B x.A x.P x.nP x.rc x.nU x.cu (fun (e : Nat) => x.lenP e) (fun (e : Nat) => x.FC e) (fun (i e : Nat) => x.iO i e) (fun (i e : Nat) => x.iA i e) (fun (i e : Nat) => x.iB i e) (fun (e : Nat) => x.uP e) (fun (e : Nat) => x.uL e) fun (e : Nat) => x.uD e)) (V.need (layN (Cf.mk c.W c.L c.C c.T c.D c.H c.B c.A c.P c.nP c.rc c.nU c.cu (fun (e : Nat) => c.lenP e) (fun (e : Nat) => c.FC e) (fun (i e : Nat) => c.iO i e) (fun (i e : Nat) => c.iA i e) (fun (i e : Nat) => c.iB i e) (fun (e : Nat) => c.uP e) (fun (e : Nat) => c.uL e) fun (e : Nat) => c.uD e) (lE (Cf.mk c.W c.L c.C c.T c.D c.H c.B c.A c.P c.nP c.rc c.nU c.cu (fun (e : Nat) => c.lenP e) (fun (e : Nat) => c.FC e) (fun (i e : Nat) => c.iO i e) (fun (i e : Nat) => c.iA i e) (fun (i e : Nat) => c.iB i e) (fun (e : Nat) => c.uP e) (fun (e : Nat) => c.uL e) fun (e : Nat) => c.uD e)) = lE (Cf.mk x.W x.L x.C x.T x.D x.H x.B x.A x.P x.nP x.rc x.nU x.cu (fun (e : Nat) => x.lenP e) (fun (e : Nat) => x.FC e) (fun (i e : Nat) => x.iO i e) (fun (i e : Nat) => x.iA i e) (fun (i e : Nat) => x.iB i e) (fun (e : Nat) => x.uP e) (fun (e : Nat) => x.uL e) fun (e : Nat) => x.uD e)) (V.need (layN (Cf.mk c.W c.L c.C c.T c.D c.H c.B c.A c.P c.nP c.rc c.nU c.cu (fun (e : Nat) => c.lenP e) (fun (e : Nat) => c.FC e) (fun (i e : Nat) => c.iO i e) (fun (i e : Nat) => c.iA i e) (fun (i e : Nat) => c.iB i e) (fun (e : Nat) => c.uP e) (fun (e : Nat) => c.uL e) fun (e : Nat) => c.uD e) (lB (Cf.mk c.W c.L c.C c.T c.D c.H c.B c.A c.P c.nP c.rc c.nU c.cu (fun (e : Nat) => c.lenP e) (fun (e : Nat) => c.FC e) (fun (i e : Nat) => c.iO i e) (fun (i e : Nat) => c.iA i e) (fun (i e : Nat) => c.iB i e) (fun (e : Nat) => c.uP e) (fun (e : Nat) => c.uL e) fun (e : Nat) => c.uD e)) = lB (Cf.mk x.W x.L x.C x.T x.D x.H x.B x.A x.P x.nP x.rc x.nU x.cu (fun (e : Nat) => x.lenP e) (fun (e : Nat) => x.FC e) (fun (i e : Nat) => x.iO i e) (fun (i e : Nat) => x.iA i e) (fun (i e : Nat) => x.iB i e) (fun (e : Nat) => x.uP e) (fun (e : Nat) => x.uL e) fun (e : Nat) => x.uD e)) (V.need (layN (Cf.mk c.W c.L c.C c.T c.D c.H c.B c.A c.P c.nP c.rc c.nU c.cu (fun (e : Nat) => c.lenP e) (fun (e : Nat) => c.FC e) (fun (i e : Nat) => c.iO i e) (fun (i e : Nat) => c.iA i e) (fun (i e : Nat) => c.iB i e) (fun (e : Nat) => c.uP e) (fun (e : Nat) => c.uL e) fun (e : Nat) => c.uD e) (lQ (Cf.mk c.W c.L c.C c.T c.D c.H c.B c.A c.P c.nP c.rc c.nU c.cu (fun (e : Nat) => c.lenP e) (fun (e : Nat) => c.FC e) (fun (i e : Nat) => c.iO i e) (fun (i e : Nat) => c.iA i e) (fun (i e : Nat) => c.iB i e) (fun (e : Nat) => c.uP e) (fun (e : Nat) => c.uL e) fun (e : Nat) => c.uD e)) = lQ (Cf.mk x.W x.L x.C x.T x.D x.H x.B x.A x.P x.nP x.rc x.nU x.cu (fun (e : Nat) => x.lenP e) (fun (e : Nat) => x.FC e) (fun (i e : Nat) => x.iO i e) (fun (i e : Nat) => x.iA i e) (fun (i e : Nat) => x.iB i e) (fun (e : Nat) => x.uP e) (fun (e : Nat) => x.uL e) fun (e : Nat) => x.uD e)) (V.need (layN (Cf.mk c.W c.L c.C c.T c.D c.H c.B c.A c.P c.nP c.rc c.nU c.cu (fun (e : Nat) => c.lenP e) (fun (e : Nat) => c.FC e) (fun (i e : Nat) => c.iO i e) (fun (i e : Nat) => c.iA i e) (fun (i e : Nat) => c.iB i e) (fun (e : Nat) => c.uP e) (fun (e : Nat) => c.uL e) fun (e : Nat) => c.uD e) (lT (Cf.mk c.W c.L c.C c.T c.D c.H c.B c.A c.P c.nP c.rc c.nU c.cu (fun (e : Nat) => c.lenP e) (fun (e : Nat) => c.FC e) (fun (i e : Nat) => c.iO i e) (fun (i e : Nat) => c.iA i e) (fun (i e : Nat) => c.iB i e) (fun (e : Nat) => c.uP e) (fun (e : Nat) => c.uL e) fun (e : Nat) => c.uD e)) = lT (Cf.mk x.W x.L x.C x.T x.D x.H x.B x.A x.P x.nP x.rc x.nU x.cu (fun (e : Nat) => x.lenP e) (fun (e : Nat) => x.FC e) (fun (i e : Nat) => x.iO i e) (fun (i e : Nat) => x.iA i e) (fun (i e : Nat) => x.iB i e) (fun (e : Nat) => x.uP e) (fun (e : Nat) => x.uL e) fun (e : Nat) => x.uD e)) (V.need (x_1.fst.toNat = c.T.toNat) (V.need (x_1.snd = x_1.snd) (V.need ((min (max (IntKind.i64.wrap (layN (Cf.mk c.W c.L c.C c.T c.D c.H c.B c.A c.P c.nP c.rc c.nU c.cu (fun (e : Nat) => c.lenP e) (fun (e : Nat) => c.FC e) (fun (i e : Nat) => c.iO i e) (fun (i e : Nat) => c.iA i e) (fun (i e : Nat) => c.iB i e) (fun (e : Nat) => c.uP e) (fun (e : Nat) => c.uL e) fun (e : Nat) => c.uD e) (lT (Cf.mk c.W c.L c.C c.T c.D c.H c.B c.A c.P c.nP c.rc c.nU c.cu (fun (e : Nat) => c.lenP e) (fun (e : Nat) => c.FC e) (fun (i e : Nat) => c.iO i e) (fun (i e : Nat) => c.iA i e) (fun (i e : Nat) => c.iB i e) (fun (e : Nat) => c.uP e) (fun (e : Nat) => c.uL e) fun (e : Nat) => c.uD e)) + IntKind.i64.wrap (Int.ofNat 5 * layN (Cf.mk c.W c.L c.C c.T c.D c.H c.B c.A c.P c.nP c.rc c.nU c.cu (fun (e : Nat) => c.lenP e) (fun (e : Nat) => c.FC e) (fun (i e : Nat) => c.iO i e) (fun (i e : Nat) => c.iA i e) (fun (i e : Nat) => c.iB i e) (fun (e : Nat) => c.uP e) (fun (e : Nat) => c.uL e) fun (e : Nat) => c.uD e) c.T))) (Int.ofNat 0)) (Int.ofNat 131072)).toNat = ncN (Cf.mk x.W x.L x.C x.T x.D x.H x.B x.A x.P x.nP x.rc x.nU x.cu (fun (e : Nat) => x.lenP e) (fun (e : Nat) => x.FC e) (fun (i e : Nat) => x.iO i e) (fun (i e : Nat) => x.iA i e) (fun (i e : Nat) => x.iB i e) (fun (e : Nat) => x.uP e) (fun (e : Nat) => x.uL e) fun (e : Nat) => x.uD e)) (V.need ((min (max (IntKind.i64.wrap (layN (Cf.mk c.W c.L c.C c.T c.D c.H c.B c.A c.P c.nP c.rc c.nU c.cu (fun (e : Nat) => c.lenP e) (fun (e : Nat) => c.FC e) (fun (i e : Nat) => c.iO i e) (fun (i e : Nat) => c.iA i e) (fun (i e : Nat) => c.iB i e) (fun (e : Nat) => c.uP e) (fun (e : Nat) => c.uL e) fun (e : Nat) => c.uD e) (lT (Cf.mk c.W c.L c.C c.T c.D c.H c.B c.A c.P c.nP c.rc c.nU c.cu (fun (e : Nat) => c.lenP e) (fun (e : Nat) => c.FC e) (fun (i e : Nat) => c.iO i e) (fun (i e : Nat) => c.iA i e) (fun (i e : Nat) => c.iB i e) (fun (e : Nat) => c.uP e) (fun (e : Nat) => c.uL e) fun (e : Nat) => c.uD e)) + IntKind.i64.wrap (Int.ofNat 5 * layN (Cf.mk c.W c.L c.C c.T c.D c.H c.B c.A c.P c.nP c.rc c.nU c.cu (fun (e : Nat) => c.lenP e) (fun (e : Nat) => c.FC e) (fun (i e : Nat) => c.iO i e) (fun (i e : Nat) => c.iA i e) (fun (i e : Nat) => c.iB i e) (fun (e : Nat) => c.uP e) (fun (e : Nat) => c.uL e) fun (e : Nat) => c.uD e) c.T))) (Int.ofNat 0)) (Int.ofNat 131072)).toNat = ncN (Cf.mk x.W x.L x.C x.T x.D x.H x.B x.A x.P x.nP x.rc x.nU x.cu (fun (e : Nat) => x.lenP e) (fun (e : Nat) => x.FC e) (fun (i e : Nat) => x.iO i e) (fun (i e : Nat) => x.iA i e) (fun (i e : Nat) => x.iB i e) (fun (e : Nat) => x.uP e) (fun (e : Nat) => x.uL e) fun (e : Nat) => x.uD e)) (qVp7 (qVp7 (V.need (Int.ofNat 0 = Int.ofNat 0) (V.need ((min (max (IntKind.i64.wrap (layN (Cf.mk c.W c.L c.C c.T c.D c.H c.B c.A c.P c.nP c.rc c.nU c.cu (fun (e : Nat) => c.lenP e) (fun (e : Nat) => c.FC e) (fun (i e : Nat) => c.iO i e) (fun (i e : Nat) => c.iA i e) (fun (i e : Nat) => c.iB i e) (fun (e : Nat) => c.uP e) (fun (e : Nat) => c.uL e) fun (e : Nat) => c.uD e) (lT (Cf.mk c.W c.L c.C c.T c.D c.H c.B c.A c.P c.nP c.rc c.nU c.cu (fun (e : Nat) => c.lenP e) (fun (e : Nat) => c.FC e) (fun (i e : Nat) => c.iO i e) (fun (i e : Nat) => c.iA i e) (fun (i e : Nat) => c.iB i e) (fun (e : Nat) => c.uP e) (fun (e : Nat) => c.uL e) fun (e : Nat) => c.uD e)) + IntKind.i64.wrap (Int.ofNat 5 * layN (Cf.mk c.W c.L c.C c.T c.D c.H c.B c.A c.P c.nP c.rc c.nU c.cu (fun (e : Nat) => c.lenP e) (fun (e : Nat) => c.FC e) (fun (i e : Nat) => c.iO i e) (fun (i e : Nat) => c.iA i e) (fun (i e : Nat) => c.iB i e) (fun (e : Nat) => c.uP e) (fun (e : Nat) => c.uL e) fun (e : Nat) => c.uD e) c.T))) (Int.ofNat 0)) (Int.ofNat 131072)).toNat = ncN (Cf.mk x.W x.L x.C x.T x.D x.H x.B x.A x.P x.nP x.rc x.nU x.cu (fun (e : Nat) => x.lenP e) (fun (e : Nat) => x.FC e) (fun (i e : Nat) => x.iO i e) (fun (i e : Nat) => x.iA i e) (fun (i e : Nat) => x.iB i e) (fun (e : Nat) => x.uP e) (fun (e : Nat) => x.uL e) fun (e : Nat) => x.uD e)) (V.need (ncN (Cf.mk x.W x.L x.C x.T x.D x.H x.B x.A x.P x.nP x.rc x.nU x.cu (fun (e : Nat) => x.lenP e) (fun (e : Nat) => x.FC e) (fun (i e : Nat) => x.iO i e) (fun (i e : Nat) => x.iA i e) (fun (i e : Nat) => x.iB i e) (fun (e : Nat) => x.uP e) (fun (e : Nat) => x.uL e) fun (e : Nat) => x.uD e) ≤ (min (max (IntKind.i64.wrap (layN (Cf.mk c.W c.L c.C c.T c.D c.H c.B c.A c.P c.nP c.rc c.nU c.cu (fun (e : Nat) => c.lenP e) (fun (e : Nat) => c.FC e) (fun (i e : Nat) => c.iO i e) (fun (i e : Nat) => c.iA i e) (fun (i e : Nat) => c.iB i e) (fun (e : Nat) => c.uP e) (fun (e : Nat) => c.uL e) fun (e : Nat) => c.uD e) (lT (Cf.mk c.W c.L c.C c.T c.D c.H c.B c.A c.P c.nP c.rc c.nU c.cu (fun (e : Nat) => c.lenP e) (fun (e : Nat) => c.FC e) (fun (i e : Nat) => c.iO i e) (fun (i e : Nat) => c.iA i e) (fun (i e : Nat) => c.iB i e) (fun (e : Nat) => c.uP e) (fun (e : Nat) => c.uL e) fun (e : Nat) => c.uD e)) + IntKind.i64.wrap (Int.ofNat 5 * layN (Cf.mk c.W c.L c.C c.T c.D c.H c.B c.A c.P c.nP c.rc c.nU c.cu (fun (e : Nat) => c.lenP e) (fun (e : Nat) => c.FC e) (fun (i e : Nat) => c.iO i e) (fun (i e : Nat) => c.iA i e) (fun (i e : Nat) => c.iB i e) (fun (e : Nat) => c.uP e) (fun (e : Nat) => c.uL e) fun (e : Nat) => c.uD e) c.T))) (Int.ofNat 0)) (Int.ofNat 131072)).toNat) (V.need (∀ (e : Nat), e < ncN (Cf.mk x.W x.L x.C x.T x.D x.H x.B x.A x.P x.nP x.rc x.nU x.cu (fun (e : Nat) => x.lenP e) (fun (e : Nat) => x.FC e) (fun (i e : Nat) => x.iO i e) (fun (i e : Nat) => x.iA i e) (fun (i e : Nat) => x.iB i e) (fun (e : Nat) => x.uP e) (fun (e : Nat) => x.uL e) fun (e : Nat) => x.uD e) → Int.ofNat 0 = Int.ofNat 0) (qVp7 (V.need (x_1.snd = x_1.snd) (V.need (c.T.toNat ≤ x_1.fst.toNat) (qVp14 c (V.need (∀ (e : Nat), e < c.T.toNat → Int.ofNat 0 = Int.ofNat 0) (qVp14 c (V.need (∀ (e : Nat), e < c.T.toNat → false = false) (V.need (x.rc = x.rc) (V.need (x.nP ≤ x.nP) (V.need (∀ (e : Nat), e < x.nP → e = e) (V.need (∀ (e : Nat), e < x.nP → x.lenP e = x.lenP e) (V.need (∀ (e : Nat), e < x.nP → x.FC e = x.FC e) (V.need (x.cu = x.cu) (V.need (x.nU ≤ x.nU) (V.need (∀ (e : Nat), e < x.nU → x.uP e = x.uP e) (V.need (∀ (e : Nat), e < x.nU → x.uL e = x.uL e) (V.need (∀ (e : Nat), e < x.nU → x.uD e = x.uD e) (V.need (∀ (i : Nat), gd x.nP x.FC i = gd x.nP (fun (e : Nat) => x.FC e) i ∨ gd x.nP (fun (e : Nat) => x.FC e) i = 0) (V.need (∀ (i : Nat), gd x.nP (fun (e : Nat) => x.lenP e) i ≤ gd x.nP (fun (e : Nat) => x.FC e) i ∧ gd x.nP (fun (e : Nat) => x.lenP e) i ≤ gd x.nP x.lenP i) (V.need (∀ (i e : Nat), e < gd x.nP (fun (e : Nat) => x.lenP e) i → x.iO i e = x.iO i e) (V.need (∀ (i e : Nat), e < gd x.nP (fun (e : Nat) => x.lenP e) i → x.iA i e = x.iA i e) (V.need (∀ (i e : Nat), e < gd x.nP (fun (e : Nat) => x.lenP e) i → x.iB i e = x.iB i e) V.ok)))))))))))))))))))))))))))))))))))))))))))))))))))))))))))))))))))))))))))))))))))))))))))))))))))))))))))))))))))))))))) := by kernel_rfl

end Go.Proofs.Ytimklokgjmdobaa.Vc


/- machine.New and the reference's New: the contracts. -/
set_option maxRecDepth 100000
namespace Go.Proofs.Ytimklokgjmdobaa.Vc
open Go Go.RowKit Sx Cn Dc Ck
theorem nc_bd {c : Cf} (h : okY c) : 0 ≤ ncI c ∧ ncI c ≤ 131072 := by
  have W := (wy h).t
  obtain ⟨h1, h2, h3, h4, h5, h6⟩ := h
  unfold ncI
  omega
theorem okC_preE {c : Cf} (h : errE c = 0) : preE c := by
  obtain ⟨g1, g2, g3⟩ := (err_zero c).1 h
  exact ⟨⟨by have := g2.1; omega, fun i hi => by have := (g2.2 i hi).1; omega⟩, by have := g3.1; omega⟩
theorem wnc1 {c : Cf} (h : okY c) : IntKind.i64.wrap (5 * c.T) = 5 * c.T := w64 (by have := h.2.2.2.1; omega)
theorem wnc2 {c : Cf} (h : okY c) : IntKind.i64.wrap (lT c + 5 * c.T) = ncI c := w64 (by have := nc_bd h; unfold ncI at this; omega)
theorem wnc4 {c : Cf} (h : okY c) : min (max (ncI c) 0) 131072 = ncI c := by have := nc_bd h; omega
theorem is_cl (c : Cf) : IsCl c (clOf c (fun e => c.lenP e) c.nP c.nU) := ⟨_, _, _, ⟨fun _ _ => Nat.le_refl _, Nat.le_refl _, Nat.le_refl _⟩, rfl⟩
theorem gd_le {n : Nat} {f g : Nat → Nat} (h : ∀ j, j < n → f j ≤ g j) (i : Nat) : gd n f i ≤ gd n g i := by
  unfold gd
  split
  · exact h i ‹_›
  · exact Nat.le_refl _
set_option maxHeartbeats 4000000 in
theorem vhNewM (c : Cf) (_ : True) : VHolds (verNewM c) := by
  constructor
  rw [verNewM_eq]
  by_cases h0 : errE c = 0
  · have h := okY_of h0
    have hp := okC_preE h0
    have W := wy h
    have hn := nc_bd h
    have e1 := wnc1 h
    have e2 := wnc2 h
    have e3 := wnc4 h
    have hT := h.2.2.2.1
    have e4 : (ncI c).toNat = ncN c := rfl
    simp only [V.holds, cf_eta, h0, layN, Int.ofNat_eq_natCast, decide_eq_true_eq, decide_eq_false_iff_not, Bool.not_eq_true', Bool.not_eq_false', bne_iff_ne, bne_eq_false_iff_eq, beq_iff_eq, beq_eq_false_iff_ne, ne_eq, true_and, and_true, forall_const, true_implies, implies_true, Nat.zero_add, Nat.sub_zero, Nat.lt_add_one, Nat.zero_lt_one, Int.natCast_zero, Int.natCast_one, Int.cast_ofNat_Int, gt_iff_lt, ge_iff_le, and_self, eq_self, Nat.le_refl, if_true, Int.toNat_zero, ite_self, not_true_eq_false, false_implies, W.w3, W.w4, W.w1, W.w2, W.w5, W.w6, W.w7, W.w8, W.w10, W.w11, e1, e2, e3, e4]
    repeat' first
      | exact True.intro
      | with_reducible apply And.intro
      | (refine Prod.forall.2 fun xi F => ?_
         intro hx
         simp only at hx ⊢
         obtain ⟨i, rfl⟩ := Int.eq_ofNat_of_zero_le hx.1
         simp only [Int.toNat_natCast] at hx ⊢
         obtain ⟨hx0, hx1, hx2⟩ := hx)
      | (intro (hd : IsCl c _); obtain ⟨F', x', z', hb, rfl⟩ := hd)
      | intro _
    all_goals try simp (disch := omega) only [wnat, Int.toNat_natCast]
    all_goals first
      | omega
      | rfl
      | exact hp
      | exact ⟨_, is_cl c⟩
      | assumption
      | exact .inl trivial
      | exact gd_le (fun j hj => hb.1 j hj) _
      | exact ⟨_, _, _, hb, rfl⟩
      | exact Nat.le_of_eq rfl
      | (split <;> rfl)
  · simp only [V.holds, cf_eta, h0, layN, Int.ofNat_eq_natCast, decide_eq_true_eq, decide_eq_false_iff_not, Bool.not_eq_true', Bool.not_eq_false', bne_iff_ne, bne_eq_false_iff_eq, beq_iff_eq, beq_eq_false_iff_ne, ne_eq, true_and, and_true, forall_const, true_implies, implies_true, Nat.zero_add, Nat.sub_zero, Nat.lt_add_one, Nat.zero_lt_one, Int.natCast_zero, Int.natCast_one, Int.cast_ofNat_Int, gt_iff_lt, ge_iff_le, and_self, eq_self, Nat.le_refl, if_true, Int.toNat_zero, ite_self, not_true_eq_false, not_false_eq_true, false_implies, if_false]
noncomputable section
end
end Go.Proofs.Ytimklokgjmdobaa.Vc


/- ConfigChecks: the walk. -/
set_option maxRecDepth 100000
namespace Go.Proofs.Ytimklokgjmdobaa.Vc
open Go Go.RowKit Sx Cn Dc Ck

end Go.Proofs.Ytimklokgjmdobaa.Vc

