/- Data worked out before they are handed on (the kernel reckons by name): each of these is 'k x'. -/
import Derived.Test.YtjpnpaboahbncaaSxMem
set_option linter.unusedVariables false
set_option linter.unusedSimpArgs false
namespace Go.Proofs.Ytjpnpaboahbncaa.Sx
open Go Go.RowKit
universe u
section
variable {β : Sort u}
def fB (b : Bool) (k : Bool → β) : β := match b with | true => k true | false => k false
@[simp] theorem fB_eq (b : Bool) (k : Bool → β) : fB b k = k b := by cases b <;> rfl
def fN (n : Nat) (k : Nat → β) : β := match n with | .zero => k .zero | .succ m => k (.succ m)
@[simp] theorem fN_eq (n : Nat) (k : Nat → β) : fN n k = k n := by cases n <;> rfl
def fI (n : Int) (k : Int → β) : β := match n with | .ofNat m => fN m fun m => k (.ofNat m) | .negSucc m => fN m fun m => k (.negSucc m)
@[simp] theorem fI_eq (n : Int) (k : Int → β) : fI n k = k n := by cases n <;> simp [fI]
def fK (t : IntKind) (k : IntKind → β) : β := match t with
  | .i8 => k .i8 | .i16 => k .i16 | .i32 => k .i32 | .i64 => k .i64 | .u8 => k .u8 | .u16 => k .u16 | .u32 => k .u32 | .u64 => k .u64
@[simp] theorem fK_eq (t : IntKind) (k : IntKind → β) : fK t k = k t := by cases t <;> rfl
def fNV (n : NV) (k : NV → β) : β := match n with | .k n => fN n fun n => k (.k n) | .s n => k (.s n)
@[simp] theorem fNV_eq (n : NV) (k : NV → β) : fNV n k = k n := by cases n <;> simp [fNV]
def fNs : List Nat → (List Nat → β) → β
  | [], k => k []
  | n :: l, k => fN n fun n => fNs l fun l => k (n :: l)
@[simp] theorem fNs_eq : ∀ (l : List Nat) (k : List Nat → β), fNs l k = k l
  | [], k => rfl
  | n :: l, k => by simp [fNs, fNs_eq l]
def fSC (c : SC) (k : SC → β) : β := match c with
  | .kb b => fB b fun b => k (.kb b)
  | .bv b => k (.bv b)
  | .ki t n => fK t fun t => fI n fun n => k (.ki t n)
  | .iv t n => fK t fun t => k (.iv t n)
  | .nilp => k .nilp
  | .ptr key i e f sz => fN key fun key => fNV i fun i => fNV e fun e => fN f fun f => fN sz fun sz => k (.ptr key i e f sz)
  | .nils => k .nils
  | .slc key i e sz len cap => fN key fun key => fNV i fun i => fNV e fun e => fN sz fun sz => fNV len fun len => fNV cap fun cap => k (.slc key i e sz len cap)
  | .nilI => k .nilI
  | .ifc t key i e f sz => fN t fun t => fN key fun key => fNV i fun i => fNV e fun e => fN f fun f => fN sz fun sz => k (.ifc t key i e f sz)
  | .fn f caps => fN f fun f => fNs caps fun caps => k (.fn f caps)
  | .nilF => k .nilF
  | .val v => k (.val v)
@[simp] theorem fSC_eq (c : SC) (k : SC → β) : fSC c k = k c := by cases c <;> simp [fSC]
def fL : List SC → (List SC → β) → β
  | [], k => k []
  | n :: l, k => fSC n fun n => fL l fun l => k (n :: l)
@[simp] theorem fL_eq : ∀ (l : List SC) (k : List SC → β), fL l k = k l
  | [], k => rfl
  | n :: l, k => by simp [fL, fL_eq l]
def fOL : List (Option SC) → (List (Option SC) → β) → β
  | [], k => k []
  | none :: l, k => fOL l fun l => k (none :: l)
  | some n :: l, k => fSC n fun n => fOL l fun l => k (some n :: l)
@[simp] theorem fOL_eq : ∀ (l : List (Option SC)) (k : List (Option SC) → β), fOL l k = k l
  | [], k => rfl
  | none :: l, k => by simp [fOL, fOL_eq l]
  | some n :: l, k => by simp [fOL, fOL_eq l]
def fTE (c : TE) (k : TE → β) : β := match c with | .c x => fSC x fun x => k (.c x) | .a l => fL l fun l => k (.a l)
@[simp] theorem fTE_eq (c : TE) (k : TE → β) : fTE c k = k c := by cases c <;> simp [fTE]
def fTs : List TE → (List TE → β) → β
  | [], k => k []
  | n :: l, k => fTE n fun n => fTs l fun l => k (n :: l)
@[simp] theorem fTs_eq : ∀ (l : List TE) (k : List TE → β), fTs l k = k l
  | [], k => rfl
  | n :: l, k => by simp [fTs, fTs_eq l]
def fSV (c : SV) (k : SV → β) : β := match c with | .c x => fSC x fun x => k (.c x) | .a l => fL l fun l => k (.a l) | .t l => fTs l fun l => k (.t l)
@[simp] theorem fSV_eq (c : SV) (k : SV → β) : fSV c k = k c := by cases c <;> simp [fSV]
def fVs : List SV → (List SV → β) → β
  | [], k => k []
  | n :: l, k => fSV n fun n => fVs l fun l => k (n :: l)
@[simp] theorem fVs_eq : ∀ (l : List SV) (k : List SV → β), fVs l k = k l
  | [], k => rfl
  | n :: l, k => by simp [fVs, fVs_eq l]
def fCol : Col → (Col → β) → β
  | .ci t g, k => fK t fun t => k (.ci t g)
  | .cb g, k => k (.cb g)
  | .cs key sz ix len cap, k => fN key fun key => fN sz fun sz => k (.cs key sz ix len cap)
  | .cp key ix f sz, k => fN key fun key => fN f fun f => fN sz fun sz => k (.cp key ix f sz)
  | .cf t key ix f sz, k => fN t fun t => fN key fun key => fN f fun f => fN sz fun sz => k (.cf t key ix f sz)
  | .ck l, k => fL l fun l => k (.ck l)
  | .cu, k => k .cu
  | .cc c, k => fSC c fun c => k (.cc c)
  | .ov i e c col, k => fNV i fun i => fNV e fun e => fSC c fun c => fCol col fun col => k (.ov i e c col)
@[simp] theorem fCol_eq (c : Col) : ∀ (k : Col → β), fCol c k = k c := by
  induction c <;> intro k <;> simp_all [fCol]
def fCols : List Col → (List Col → β) → β
  | [], k => k []
  | n :: l, k => fCol n fun n => fCols l fun l => k (n :: l)
@[simp] theorem fCols_eq : ∀ (l : List Col) (k : List Col → β), fCols l k = k l
  | [], k => rfl
  | n :: l, k => by simp [fCols, fCols_eq l]
def fBlk (b : Blk) (k : Blk → β) : β := match b with
  | .own t size cs => fN t fun t => fN size fun size => fOL cs fun cs => k (.own t size cs)
  | .row t cap n cols => fN t fun t => fCols cols fun cols => k (.row t cap n cols)
  | .view m n cols => fCols cols fun cols => k (.view m n cols)
  | .fam rw t cap n cols => fB rw fun rw => fN t fun t => fCols cols fun cols => k (.fam rw t cap n cols)
@[simp] theorem fBlk_eq (b : Blk) (k : Blk → β) : fBlk b k = k b := by cases b <;> simp [fBlk]
def fHL : HL → (HL → β) → β
  | [], k => k []
  | (key, b) :: r, k => fN key fun key => fBlk b fun b => fHL r fun r => k ((key, b) :: r)
@[simp] theorem fHL_eq : ∀ (l : HL) (k : HL → β), fHL l k = k l
  | [], k => rfl
  | (key, b) :: l, k => by simp [fHL, fHL_eq l]
def fHp (H : Hp) (k : Hp → β) : β := match H with | ⟨h, nxt, D⟩ => fHL h fun h => fN nxt fun nxt => k ⟨h, nxt, D⟩
@[simp] theorem fHp_eq (H : Hp) (k : Hp → β) : fHp H k = k H := by cases H; simp [fHp]
/-- The spine of the list of temporaries. -/
def fTm : List (Option SV) → (List (Option SV) → β) → β
  | [], k => k []
  | none :: l, k => fTm l fun l => k (none :: l)
  | some v :: l, k => fTm l fun l => k (some v :: l)
@[simp] theorem fTm_eq : ∀ (l : List (Option SV)) (k : List (Option SV) → β), fTm l k = k l
  | [], k => rfl
  | none :: l, k => by simp [fTm, fTm_eq l]
  | some v :: l, k => by simp [fTm, fTm_eq l]
end
end Go.Proofs.Ytjpnpaboahbncaa.Sx
