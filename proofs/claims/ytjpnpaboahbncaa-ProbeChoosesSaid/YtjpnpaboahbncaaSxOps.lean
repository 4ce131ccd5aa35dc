/- The operations of the symbolic executor that yield a value: what they compute, and that the model does the same. -/
import Derived.Test.YtjpnpaboahbncaaSxMem
import Derived.WalkSpells
set_option linter.unusedVariables false
set_option linter.unusedSimpArgs false
namespace Go.Proofs.Ytjpnpaboahbncaa.Sx
open Go Go.RowKit

def ValOK (φ : Fr) (ρ : Rho) (H : Hp) (K : SV × Hp → Prop) (r : Result Value) : Prop :=
  ∃ v w' ρ' sv H', r = .ok v w' ∧ K (sv, H') ∧ Agree H.sc ρ ρ' ∧ H.le H' ∧ HInv φ ρ' H' w' ∧ SIs H'.sc ρ' sv v
def PureOK (ρ : Rho) (H : Hp) (K : SV → Prop) (w : World) (r : Result Value) : Prop := ∃ v sv, r = .ok v w ∧ K sv ∧ SIs H.sc ρ sv v
theorem ValOK.pure {φ : Fr} {ρ : Rho} {H : Hp} {K : SV × Hp → Prop} {w : World} {r : Result Value} (h : HInv φ ρ H w) (hp : PureOK ρ H (fun sv => K (sv, H)) w r) : ValOK φ ρ H K r :=
  let ⟨v, sv, h1, h2, h3⟩ := hp
  ⟨v, w, ρ, sv, H, h1, h2, .refl _ _, .refl _, h, h3⟩

/-! ### Constants -/
def ofCell : Value → Option SC
  | .bool b => some (.kb b)
  | .int k n => some (.ki k n)
  | .pointer none => some .nilp
  | .slice none 0 0 => some .nils
  | .nilIface => some .nilI
  | .nilFunc => some .nilF
  | .string s => some (.val (.string s))
  | _ => none
def ofCells : List Value → Option (List SC)
  | [] => some []
  | v :: l => match ofCell v, ofCells l with
    | some c, some cs => some (c :: cs)
    | _, _ => none
def ofVal : Value → Option SV
  | .agg cs => (ofCells cs.toList).map .a
  | v => (ofCell v).map .c

theorem ofCell_is {n : Nat → Prop} {ρ : Rho} {v : Value} {c : SC} (h : ofCell v = some c) : CIs n ρ c v := by
  unfold ofCell at h
  intro ρ' _
  split at h <;> cases h <;> rfl
theorem ofCells_is {n : Nat → Prop} {ρ : Rho} : ∀ {l : List Value} {cs : List SC}, ofCells l = some cs → LIs n ρ cs l
  | [], cs, h => by simp [ofCells] at h; subst h; exact .nil _ _
  | v :: l, cs, h => by
    simp only [ofCells] at h
    split at h
    · rename_i c cs' h1 h2
      cases h
      exact .cons (ofCell_is h1) (ofCells_is h2)
    · cases h
theorem ofVal_is {n : Nat → Prop} {ρ : Rho} {v : Value} {sv : SV} (h : ofVal v = some sv) : SIs n ρ sv v := by
  unfold ofVal at h
  split at h
  · rename_i cs
    cases hc : ofCells cs.toList with
    | none => simp [hc] at h
    | some l =>
      simp [hc] at h; subst h
      have := SIs.agg (n := n) (ρ := ρ) (ofCells_is (n := n) (ρ := ρ) hc)
      simpa using this
  · cases hc : ofCell v with
    | none => rw [hc] at h; cases h
    | some c => rw [hc] at h; cases h; exact .of_c (ofCell_is hc)

def zeroT (P : Program) (t : TypeId) : Option SV := ((P.info? t).bind (·.zero)).bind ofVal
theorem zeroT_is {P : Program} {t : TypeId} {sv : SV} (h : zeroT P t = some sv) {n : Nat → Prop} {ρ : Rho} : ∃ i z, P.info? t = some i ∧ i.zero = some z ∧ SIs n ρ sv z := by
  unfold zeroT at h
  cases hi : P.info? t with
  | none => simp [hi] at h
  | some i =>
    cases hz : i.zero with
    | none => simp [hi, hz] at h
    | some z => simp [hi, hz] at h; exact ⟨i, z, rfl, hz, ofVal_is h⟩
theorem run_zeroValue_of {P : Program} {t : TypeId} {i : TypeInfo} {z : Value} (hi : P.info? t = some i) (hz : i.zero = some z) (w : World) : (zeroValue t).run P w = .ok z w := by
  simp [zeroValue, typeInfo, hi, hz]

/-! ### Numbers and Booleans -/
def mkI (kn : Bool) (k : IntKind) (n : Int) : SV := .c (match kn with | true => .ki k n | false => .iv k n)
def mkB (kn : Bool) (b : Bool) : SV := .c (match kn with | true => .kb b | false => .bv b)
theorem mkI_is (n : Nat → Prop) (ρ : Rho) (kn : Bool) (k : IntKind) (x : Int) : SIs n ρ (mkI kn k x) (.int k x) := fun ρ' _ => by cases kn <;> rfl
theorem mkB_is (n : Nat → Prop) (ρ : Rho) (kn : Bool) (x : Bool) : SIs n ρ (mkB kn x) (.bool x) := fun ρ' _ => by cases kn <;> rfl

def asI : SV → Option (Bool × IntKind × Int)
  | .c (.ki k n) => some (true, k, n)
  | .c (.iv k n) => some (false, k, n)
  | _ => none
def asB : SV → Option (Bool × Bool)
  | .c (.kb b) => some (true, b)
  | .c (.bv b) => some (false, b)
  | _ => none
theorem asI_is {n : Nat → Prop} {ρ : Rho} {sv : SV} {v : Value} {x : Bool × IntKind × Int} (h : asI sv = some x) (hs : SIs n ρ sv v) : v = .int x.2.1 x.2.2 := by
  unfold asI at h
  split at h <;> cases h <;> exact hs.eq
theorem asB_is {n : Nat → Prop} {ρ : Rho} {sv : SV} {v : Value} {x : Bool × Bool} (h : asB sv = some x) (hs : SIs n ρ sv v) : v = .bool x.2 := by
  unfold asB at h
  split at h <;> cases h <;> exact hs.eq

def binI (op : BinOp) (kn : Bool) (k : IntKind) (a : Int) (k' : IntKind) (b : Int) : Out SV :=
  match op with
  | .shl => .need (0 ≤ b) (.leaf (mkI kn k (k.wrap (a * 2 ^ (min b.toNat k.bits)))))
  | .shr => .need (0 ≤ b) (.leaf (mkI kn k (a.fdiv (2 ^ (min b.toNat k.bits)))))
  | .add => chk (sameKind k k') (.leaf (mkI kn k (k.wrap (a + b)))) 50
  | .sub => chk (sameKind k k') (.leaf (mkI kn k (k.wrap (a - b)))) 50
  | .mul => chk (sameKind k k') (.leaf (mkI kn k (k.wrap (a * b)))) 50
  | .quo => chk (sameKind k k') (.need (b ≠ 0) (.leaf (mkI kn k (k.wrap (a.tdiv b))))) 50
  | .rem => chk (sameKind k k') (.need (b ≠ 0) (.leaf (mkI kn k (a.tmod b)))) 50
  | .and => chk (sameKind k k') (.leaf (mkI kn k (bits .and k a b))) 50
  | .or => chk (sameKind k k') (.leaf (mkI kn k (bits .or k a b))) 50
  | .xor => chk (sameKind k k') (.leaf (mkI kn k (bits .xor k a b))) 50
  | .andNot => chk (sameKind k k') (.leaf (mkI kn k (bits .andNot k a b))) 50
  | .eql => chk (sameKind k k') (.leaf (mkB kn (a == b))) 50
  | .neq => chk (sameKind k k') (.leaf (mkB kn (a != b))) 50
  | .lss => chk (sameKind k k') (.leaf (mkB kn (decide (a < b)))) 50
  | .leq => chk (sameKind k k') (.leaf (mkB kn (decide (a ≤ b)))) 50
  | .gtr => chk (sameKind k k') (.leaf (mkB kn (decide (a > b)))) 50
  | .geq => chk (sameKind k k') (.leaf (mkB kn (decide (a ≥ b)))) 50

theorem binI_ok {P : Program} {ρ : Rho} {H : Hp} {w : World} {op : BinOp} {kn : Bool} {k k' : IntKind} {a b : Int} {t : TypeId} {K : SV → Prop} (hh : (binI op kn k a k' b).holds K) :
    PureOK ρ H K w ((binOp op t (.int k a) (.int k' b)).run P w) := by
  cases op <;> simp only [binI] at hh
  case shl =>
    obtain ⟨h0, hh⟩ := hh
    refine ⟨_, _, ?_, hh, mkI_is _ _ _ _ _⟩
    simp [binOp_shl, Op.shift, Int.not_lt.2 h0]
  case shr =>
    obtain ⟨h0, hh⟩ := hh
    refine ⟨_, _, ?_, hh, mkI_is _ _ _ _ _⟩
    simp [binOp_shr, Op.shift, Int.not_lt.2 h0]
  case quo =>
    obtain ⟨hk, hb, hK⟩ := chk_holds hh
    have := sameKind_eq hk; subst this
    refine ⟨_, _, ?_, hK, mkI_is _ _ _ _ _⟩
    simp [binOp_quo, Op.intDiv, hb]
  case rem =>
    obtain ⟨hk, hb, hK⟩ := chk_holds hh
    have := sameKind_eq hk; subst this
    refine ⟨_, _, ?_, hK, mkI_is _ _ _ _ _⟩
    simp [binOp_rem, Op.intDiv, hb]
  all_goals
    obtain ⟨hk, hK⟩ := chk_holds hh
    have := sameKind_eq hk; subst this
    first
    | (refine ⟨_, _, ?_, hK, mkI_is _ _ _ _ _⟩; simp [binOp, Op.intArith, Op.intBits, bits]; done)
    | (refine ⟨_, _, ?_, hK, mkB_is _ _ _ _⟩; simp [binOp, Op.intCmp]; done)

/-! ### Pointers that are not nil -/
def nonNil (H : HL) (key : Nat) (i e : NV) : Out Unit :=
  match find key H with
  | some (.own ..) => chk i.isZero (.leaf ()) 60
  | some (.row _ _ n _) => chk i.isZero (.need (e.v < n) (.leaf ())) 60
  | some (.view m len _) => .need (i.v < m ∧ e.v < len i.v) (.leaf ())
  | some (.fam _ _ _ len _) => .need (e.v < len i.v) (.leaf ())
  | none => .bad 61
theorem nonNil_ok {φ : Fr} {ρ : Rho} {H : Hp} {w : World} {key : Nat} {i e : NV} {K : Prop} (h : HInv φ ρ H w) (hh : (nonNil H.h key i e).holds fun _ => K) : K ∧ ∃ p, ρ key i.v = some p := by
  unfold nonNil at hh
  split at hh
  · rename_i t size cs hf
    obtain ⟨hi, hK⟩ := chk_holds hh
    obtain ⟨b, arr, h1, _⟩ := h.sat key _ hf
    exact ⟨hK, _, by rw [NV.isZero_v hi]; exact h1⟩
  · rename_i t size n cols hf
    obtain ⟨hi, hlt, hK⟩ := chk_holds hh
    rcases h.sat key _ hf with ⟨h0, _⟩ | ⟨b, arr, h1, _⟩
    · omega
    · exact ⟨hK, _, by rw [NV.isZero_v hi]; exact h1⟩
  · rename_i m len cols hf
    obtain ⟨⟨h1, h2⟩, hK⟩ := hh
    obtain ⟨b, o, h3, _⟩ := h.sat key _ hf i.v h1 e.v h2
    exact ⟨hK, _, h3⟩
  · rename_i rw t cap len cols hf
    obtain ⟨h1, hK⟩ := hh
    obtain ⟨g1, _, g3⟩ := h.sat key _ hf
    obtain ⟨b, arr, h3, _⟩ := g3 i.v (by have := (g1 i.v).1; omega)
    exact ⟨hK, _, h3⟩
  · exact hh.elim

theorem place_of {ρ : Rho} {key : Nat} {i : NV} {off : Nat} {p : Nat × Nat} (h : ρ key i.v = some p) : place ρ key i off = some ⟨p.1, p.2 + off, none⟩ := by simp [place, h]

/-! ### Equality -/
/-- Two cells of a struct: the Boolean of their equality. -/
def eqCell : SC → SC → Option (Bool × Bool)
  | .ki k a, .ki k' b => bif sameKind k k' then some (true, a == b) else none
  | .ki k a, .iv k' b => bif sameKind k k' then some (false, a == b) else none
  | .iv k a, .ki k' b => bif sameKind k k' then some (false, a == b) else none
  | .iv k a, .iv k' b => bif sameKind k k' then some (false, a == b) else none
  | .kb a, .kb b => some (true, a == b)
  | .kb a, .bv b => some (false, a == b)
  | .bv a, .kb b => some (false, a == b)
  | .bv a, .bv b => some (false, a == b)
  | _, _ => none
/-- A struct's fields, each of one cell, in a row, of the cells' own types. -/
def fieldFits (P : Program) (t : TypeId) : SC → Bool
  | .ki .. | .iv .. => match P.underlying t with | some (.int _) => true | _ => false
  | .kb _ | .bv _ => match P.underlying t with | some .bool => true | _ => false
  | _ => false
def plainFields (P : Program) : (off : Nat) → List Field → List SC → Bool
  | _, [], [] => true
  | off, f :: fs, c :: cs => Nat.beq f.offset off && (f.name != "_") && fieldFits P f.type c && plainFields P (off + 1) fs cs
  | _, _, _ => false
def eqCells : List SC → List SC → Option (Bool × Bool)
  | [], [] => some (true, true)
  | a :: l, b :: m => match eqCell a b, eqCells l m with
    | some (k, x), some (k', y) => some (k && k', x && y)
    | _, _ => none
  | _, _ => none

theorem eqCell_is {n : Nat → Prop} {ρ : Rho} {a b : SC} {v u : Value} {x : Bool × Bool} (h : eqCell a b = some x) (ha : CIs n ρ a v) (hb : CIs n ρ b u) :
    (∃ k p q, v = .int k p ∧ u = .int k q ∧ x.2 = (p == q)) ∨ (∃ p q, v = .bool p ∧ u = .bool q ∧ x.2 = (p == q)) := by
  have ea := ha.eq; have eb := hb.eq
  cases a <;> cases b <;> simp only [eqCell] at h <;> (try cases h)
  all_goals first
    | (rename_i k p k' q
       by_cases hk : sameKind k k' = true
       · have := sameKind_eq hk; subst this
         simp only [hk, cond_true, Option.some.injEq] at h
         subst h
         exact .inl ⟨k, p, q, ea, eb, rfl⟩
       · simp [hk] at h)
    | exact .inr ⟨_, _, ea, eb, rfl⟩

theorem run_eqFields {P : Program} {n : Nat → Prop} {ρ : Rho} (w : World) (d : Nat) : ∀ (fs : List Field) (off : Nat) (l m : List SC) (vs us pre pre' : List Value) (x : Bool × Bool), plainFields P off fs l = true →
    LIs n ρ l vs → LIs n ρ m us → eqCells l m = some x → pre.length = off → pre'.length = off →
    (Op.eqFields (d + 1) (pre ++ vs).toArray (pre' ++ us).toArray fs).run P w = .ok x.2 w
  | [], off, l, m, vs, us, pre, pre', x, hp, hl, hm, hx, _, _ => by
    cases l with
    | cons c l => simp [plainFields] at hp
    | nil => cases m with
      | cons c m => simp [eqCells] at hx
      | nil => simp [eqCells] at hx; subst hx; simp [Op.eqFields]
  | f :: fs, off, l, m, vs, us, pre, pre', x, hp, hl, hm, hx, h1, h2 => by
    cases l with
    | nil => simp [plainFields] at hp
    | cons c l => cases m with
      | nil => simp [eqCells] at hx
      | cons c' m =>
        have e1 := hl.len; have e2 := hm.len
        cases vs with
        | nil => simp at e1
        | cons v vs => cases us with
          | nil => simp at e2
          | cons u us =>
            have hcv : CIs n ρ c v := fun ρ' ha => by have := hl ρ' ha; simp at this; exact this.1
            have hlv : LIs n ρ l vs := fun ρ' ha => by have := hl ρ' ha; simp at this; exact this.2
            have hcu : CIs n ρ c' u := fun ρ' ha => by have := hm ρ' ha; simp at this; exact this.1
            have hlu : LIs n ρ m us := fun ρ' ha => by have := hm ρ' ha; simp at this; exact this.2
            simp only [plainFields, Bool.and_eq_true] at hp
            obtain ⟨⟨⟨hoff, hname⟩, hty⟩, hp⟩ := hp
            have hoff := Nat.eq_of_beq_eq_true hoff
            have hname : f.name ≠ "_" := by simpa using hname
            simp only [eqCells] at hx
            cases hc : eqCell c c' with
            | none => simp [hc] at hx
            | some y =>
              cases hr : eqCells l m with
              | none => simp [hc, hr] at hx
              | some z =>
                simp [hc, hr] at hx
                subst hx
                have ih := run_eqFields w d fs (off + 1) l m vs us (pre ++ [v]) (pre' ++ [u]) z hp hlv hlu hr (by simp [h1]) (by simp [h2])
                simp only [List.append_assoc, List.cons_append, List.nil_append] at ih
                have g1 : (pre ++ v :: vs).toArray[f.offset]? = some v := by simp [hoff, ← h1]
                have g2 : (pre' ++ u :: us).toArray[f.offset]? = some u := by simp [hoff, ← h2]
                have hty' : (∃ k, P.underlying f.type = some (.int k)) ∨ P.underlying f.type = some .bool := by
                  cases c <;> simp only [fieldFits] at hty <;> (try cases hty) <;> split at hty <;> first | exact .inl ⟨_, ‹_›⟩ | exact .inr ‹_› | cases hty
                have hagg : (isAgg f.type).run P w = .ok false w := by
                  refine run_isAgg_of ?_ w
                  rcases hty' with ⟨k, hu⟩ | hu <;> simp [isAggT, hu]
                have heq : (Op.equalIn (d + 1) f.type v u).run P w = .ok y.2 w := by
                  have ec := hcv.eq
                  rcases eqCell_is hc hcv hcu with ⟨k, p, q, rfl, rfl, he⟩ | ⟨p, q, rfl, rfl, he⟩
                  · cases c <;> simp only [SC.den] at ec <;> (try cases ec) <;> simp only [fieldFits] at hty
                    all_goals first
                      | (cases hty; done)
                      | (split at hty
                         · rename_i k' hu; rw [run_equalIn_int w d f.type k k' p q hu, he]
                         · cases hty)
                  · cases c <;> simp only [SC.den] at ec <;> (try cases ec) <;> simp only [fieldFits] at hty
                    all_goals first
                      | (cases hty; done)
                      | (split at hty
                         · rename_i hu; rw [run_equalIn_bool w d f.type p q hu, he]
                         · cases hty)
                have pa : (part f.type (pre ++ v :: vs).toArray f.offset).run P w = .ok v w := by simp [part, hagg, g1]
                have pb : (part f.type (pre' ++ u :: us).toArray f.offset).run P w = .ok u w := by simp [part, hagg, g2]
                simp only [Op.eqFields, ne_eq, hname, not_false_eq_true, if_true, Sem.run_bind, pa, pb, Result.andThen_ok, heq, Sem.run_ite, ih]
                cases y.2 <;> simp

def isPtrT (P : Program) (t : TypeId) : Bool := match P.underlying t with | some (.pointer _) => true | _ => false
def isIfcT (P : Program) (t : TypeId) : Bool := match P.underlying t with | some (.interface _) => true | _ => false
def isFnT (P : Program) (t : TypeId) : Bool := match P.underlying t with | some (.func ..) => true | _ => false
def isSlcT (P : Program) (t : TypeId) : Bool := match P.underlying t with | some (.slice _) => true | _ => false
def isBoolT (P : Program) (t : TypeId) : Bool := match P.underlying t with | some .bool => true | _ => false
def isStrT (P : Program) (t : TypeId) : Bool := match P.underlying t with | some .string => true | _ => false
theorem isPtrT_h {P : Program} {t : TypeId} (h : isPtrT P t = true) : ∃ e, P.underlying t = some (.pointer e) := by unfold isPtrT at h; split at h <;> first | exact ⟨_, ‹_›⟩ | cases h
theorem isIfcT_h {P : Program} {t : TypeId} (h : isIfcT P t = true) : ∃ e, P.underlying t = some (.interface e) := by unfold isIfcT at h; split at h <;> first | exact ⟨_, ‹_›⟩ | cases h
theorem isFnT_h {P : Program} {t : TypeId} (h : isFnT P t = true) : ∃ a b c, P.underlying t = some (.func a b c) := by unfold isFnT at h; split at h <;> first | exact ⟨_, _, _, ‹_›⟩ | cases h
theorem isSlcT_h {P : Program} {t : TypeId} (h : isSlcT P t = true) : ∃ e, P.underlying t = some (.slice e) := by unfold isSlcT at h; split at h <;> first | exact ⟨_, ‹_›⟩ | cases h
theorem isBoolT_h {P : Program} {t : TypeId} (h : isBoolT P t = true) : P.underlying t = some .bool := by unfold isBoolT at h; split at h <;> first | assumption | cases h
theorem isStrT_h {P : Program} {t : TypeId} (h : isStrT P t = true) : P.underlying t = some .string := by unfold isStrT at h; split at h <;> first | assumption | cases h

/-- x == y: whether the answer is known, and the answer. 'cst': one of the operands is a constant. -/
def eqT (P : Program) (H : HL) (cst : Bool) (t : TypeId) : SV → SV → Out (Bool × Bool)
  | .c (.kb a), .c (.kb b) => chk (isBoolT P t) (.leaf (true, a == b)) 70
  | .c (.kb a), .c (.bv b) => chk (isBoolT P t) (.leaf (false, a == b)) 70
  | .c (.bv a), .c (.kb b) => chk (isBoolT P t) (.leaf (false, a == b)) 70
  | .c (.bv a), .c (.bv b) => chk (isBoolT P t) (.leaf (false, a == b)) 70
  | .c .nilp, .c .nilp => chk (isPtrT P t) (.leaf (true, true)) 71
  | .c .nilp, .c (.ptr key i e _ _) => chk (isPtrT P t) ((nonNil H key i e).bind fun _ => .leaf (true, false)) 71
  | .c (.ptr key i e _ _), .c .nilp => chk (isPtrT P t) ((nonNil H key i e).bind fun _ => .leaf (true, false)) 71
  | .c .nilI, .c .nilI => chk (isIfcT P t && cst) (.leaf (true, true)) 72
  | .c .nilI, .c (.ifc ..) => chk (isIfcT P t) (.leaf (true, false)) 72
  | .c (.ifc ..), .c .nilI => chk (isIfcT P t) (.leaf (true, false)) 72
  | .c .nilF, .c .nilF => chk (isFnT P t) (.leaf (true, true)) 73
  | .c .nilF, .c (.fn ..) => chk (isFnT P t) (.leaf (true, false)) 73
  | .c (.fn ..), .c .nilF => chk (isFnT P t) (.leaf (true, false)) 73
  | .c .nils, .c .nils => chk (isSlcT P t) (.leaf (true, true)) 74
  | .c .nils, .c (.slc key i e _ _ _) => chk (isSlcT P t) ((nonNil H key i e).bind fun _ => .leaf (true, false)) 74
  | .c (.slc key i e _ _ _), .c .nils => chk (isSlcT P t) ((nonNil H key i e).bind fun _ => .leaf (true, false)) 74
  | .a l, .a m => match P.underlying t with
    | some (.struct fs) => chk (!(P.stoodInHeld t) && !(P.eqGuardType P.depth t) && plainFields P 0 fs.toList l) (opt (eqCells l m) (fun x => .leaf x) 75) 76
    | _ => .bad 77
  | _, _ => .bad 78

theorem eql_both {P : Program} {w : World} {t : TypeId} {v u : Value} {b : Bool} (h : ∀ d : Nat, (Op.equalIn (d + 1) t v u).run P w = .ok b w)
    (h1 : binOp .eql t v u = (do pure (.bool (← Op.equal t v u)))) (h2 : binOp .neq t v u = (do pure (.bool (!(← Op.equal t v u))))) :
    (binOp .eql t v u).run P w = .ok (.bool b) w ∧ (binOp .neq t v u).run P w = .ok (.bool (!b)) w := by
  have h' : (Op.equal t v u).run P w = .ok b w := h 9999
  rw [h1, h2]
  constructor <;> simp [h']
theorem eqT_ok {P : Program} {φ : Fr} {ρ : Rho} {H : Hp} {w : World} {cst : Bool} {t : TypeId} {x y : SV} {v u : Value} {K : Bool × Bool → Prop} (h : HInv φ ρ H w) (hx : SIs H.sc ρ x v) (hy : SIs H.sc ρ y u)
    (hh : (eqT P H.h cst t x y).holds K) :
    ∃ kn b, K (kn, b) ∧ (∀ op a c, (cst = true → (∃ z, a = .const z) ∨ ∃ z, c = .const z) → (eqGuard op t a c v u).run P w = .ok () w) ∧
      (binOp .eql t v u).run P w = .ok (.bool b) w ∧ (binOp .neq t v u).run P w = .ok (.bool (!b)) w := by
  have ev := hx.eq; have eu := hy.eq
  unfold eqT at hh
  split at hh
  all_goals try (simp only [SV.den, SC.den] at ev eu)
  case h_1 | h_2 | h_3 | h_4 =>
    obtain ⟨ht, hK⟩ := chk_holds hh
    subst ev eu
    exact ⟨_, _, hK, fun op a c _ => by simp [eqGuard_at_bool], run_eql_bool w t _ _ (isBoolT_h ht), run_neq_bool w t _ _ (isBoolT_h ht)⟩
  case h_5 =>
    obtain ⟨ht, hK⟩ := chk_holds hh
    obtain ⟨e, he⟩ := isPtrT_h ht
    subst ev eu
    refine ⟨_, _, hK, fun op a c _ => by simp [eqGuard_at_pointer], ?_⟩
    exact eql_both (by intro d; simp [Op.equalIn, run_underlying he]) rfl rfl
  case h_6 =>
    obtain ⟨ht, hK⟩ := chk_holds hh
    rw [Out.holds_bind] at hK
    obtain ⟨hK, p, hp⟩ := nonNil_ok h hK
    obtain ⟨e, he⟩ := isPtrT_h ht
    rw [place_of hp] at eu
    subst ev eu
    refine ⟨_, _, hK, fun op a c _ => by simp [eqGuard_at_pointer], ?_⟩
    exact eql_both (by intro d; simp [Op.equalIn, run_underlying he]) rfl rfl
  case h_7 =>
    obtain ⟨ht, hK⟩ := chk_holds hh
    rw [Out.holds_bind] at hK
    obtain ⟨hK, p, hp⟩ := nonNil_ok h hK
    obtain ⟨e, he⟩ := isPtrT_h ht
    rw [place_of hp] at ev
    subst ev eu
    refine ⟨_, _, hK, fun op a c _ => by simp [eqGuard_at_pointer], ?_⟩
    exact eql_both (by intro d; simp [Op.equalIn, run_underlying he]) rfl rfl
  case h_8 =>
    obtain ⟨ht, hK⟩ := chk_holds hh
    simp only [Bool.and_eq_true] at ht
    obtain ⟨e, he⟩ := isIfcT_h ht.1
    subst ev eu
    refine ⟨_, _, hK, fun op a c hc => ?_, ?_⟩
    · rcases hc ht.2 with ⟨z, rfl⟩ | ⟨z, rfl⟩
      · simp [eqGuard_nil_constL]
      · simp [eqGuard_nil_constR]
    · exact eql_both (by intro d; simp [Op.equalIn, run_underlying he]) rfl rfl
  case h_9 | h_10 =>
    obtain ⟨ht, hK⟩ := chk_holds hh
    obtain ⟨e, he⟩ := isIfcT_h ht
    subst ev eu
    refine ⟨_, _, hK, fun op a c _ => by first | simp [eqGuard_nil_iface] | simp [eqGuard_at_iface], ?_⟩
    exact eql_both (by intro d; simp [Op.equalIn, run_underlying he]) rfl rfl
  case h_11 | h_12 | h_13 =>
    obtain ⟨ht, hK⟩ := chk_holds hh
    obtain ⟨e1, e2, e3, he⟩ := isFnT_h ht
    subst ev eu
    refine ⟨_, _, hK, fun op a c _ => by first | simp [eqGuard_at_nilFunc] | simp [eqGuard_at_func], ?_⟩
    exact eql_both (by intro d; simp [Op.equalIn, run_underlying he]) rfl rfl
  case h_14 =>
    obtain ⟨ht, hK⟩ := chk_holds hh
    obtain ⟨e, he⟩ := isSlcT_h ht
    subst ev eu
    refine ⟨_, _, hK, fun op a c _ => by simp [eqGuard_at_slice], ?_⟩
    exact eql_both (by intro d; simp [Op.equalIn, run_underlying he]) rfl rfl
  case h_15 =>
    obtain ⟨ht, hK⟩ := chk_holds hh
    rw [Out.holds_bind] at hK
    obtain ⟨hK, p, hp⟩ := nonNil_ok h hK
    obtain ⟨e, he⟩ := isSlcT_h ht
    rw [place_of hp] at eu
    subst ev eu
    refine ⟨_, _, hK, fun op a c _ => by simp [eqGuard_at_slice], ?_⟩
    exact eql_both (by intro d; simp [Op.equalIn, run_underlying he]) rfl rfl
  case h_16 =>
    obtain ⟨ht, hK⟩ := chk_holds hh
    rw [Out.holds_bind] at hK
    obtain ⟨hK, p, hp⟩ := nonNil_ok h hK
    obtain ⟨e, he⟩ := isSlcT_h ht
    rw [place_of hp] at ev
    subst ev eu
    refine ⟨_, _, hK, fun op a c _ => by simp [eqGuard_at_slice], ?_⟩
    exact eql_both (by intro d; simp [Op.equalIn, run_underlying he]) rfl rfl
  case h_17 =>
    rename_i l m
    split at hh
    · rename_i fs hu
      obtain ⟨ht, hh⟩ := chk_holds hh
      obtain ⟨z, hz, hK⟩ := opt_holds hh
      simp only [Bool.and_eq_true, Bool.not_eq_true'] at ht
      obtain ⟨⟨h1, h2⟩, h3⟩ := ht
      have hfs : P.fieldsOf t = fs := by simp [Program.fieldsOf, hu]
      have hu' : P.underlying t = some (.struct (P.fieldsOf t)) := by rw [hfs]; exact hu
      have hl : LIs H.sc ρ l (l.map (SC.den ρ)) := fun ρ' ha => by
        have := (hx ρ' ha).trans hx.eq; simpa [SV.den] using this
      have hm : LIs H.sc ρ m (m.map (SC.den ρ)) := fun ρ' ha => by
        have := (hy ρ' ha).trans hy.eq; simpa [SV.den] using this
      have hrun : (Op.equalIn 10000 t v u).run P w = .ok z.2 w := by
        rw [ev, eu, run_equalIn_struct w 9999 t _ _ hu' h1, hfs]
        simpa using run_eqFields w 9998 fs.toList 0 l m _ _ [] [] z h3 hl hm hz rfl rfl
      refine ⟨z.1, z.2, hK, fun op a c _ => ?_, ?_, ?_⟩
      · rw [ev, eu]; exact run_eqGuard_agg w op t a c _ _ h2
      · rw [ev, eu] at hrun ⊢; rw [run_eql_struct, hrun]; rfl
      · rw [ev, eu] at hrun ⊢; rw [run_neq_struct, hrun]; rfl
    · exact hh.elim
  case h_18 => exact hh.elim

def isConst : Operand → Bool
  | .const _ => true
  | _ => false

def binT (P : Program) (H : HL) (cst : Bool) (op : BinOp) (t : TypeId) (x y : SV) : Out SV :=
  match asI x, asI y with
  | some (k1, k, a), some (k2, k', b) => binI op (k1 && k2) k a k' b
  | _, _ => match op with
    | .eql => (eqT P H cst t x y).bind fun r => .leaf (mkB r.1 r.2)
    | .neq => (eqT P H cst t x y).bind fun r => .leaf (mkB r.1 (!r.2))
    | _ => .bad 80

theorem binT_ok {P : Program} {φ : Fr} {ρ : Rho} {H : Hp} {w : World} {cst : Bool} {op : BinOp} {t : TypeId} {x y : SV} {v u : Value} {a c : Operand} {K : SV → Prop} (h : HInv φ ρ H w) (hx : SIs H.sc ρ x v) (hy : SIs H.sc ρ y u)
    (hc : cst = true → (∃ z, a = .const z) ∨ ∃ z, c = .const z) (hh : (binT P H.h cst op t x y).holds K) :
    PureOK ρ H K w ((do eqGuard op t a c v u; binOp op t v u : Sem Value).run P w) := by
  unfold binT at hh
  split at hh
  · rename_i k1 k p k2 k' q h1 h2
    have e1 := asI_is h1 hx; have e2 := asI_is h2 hy
    simp only at e1 e2
    subst e1 e2
    have := binI_ok (P := P) (ρ := ρ) (H := H) (w := w) (t := t) hh
    obtain ⟨v, sv, h1, h2, h3⟩ := this
    exact ⟨v, sv, by simp [eqGuard_at_int, h1], h2, h3⟩
  · split at hh
    · rw [Out.holds_bind] at hh
      obtain ⟨kn, b, hK, h1, h2, _⟩ := eqT_ok (P := P) h hx hy hh
      exact ⟨.bool b, mkB kn b, by simp [h1 .eql a c hc, h2], hK, mkB_is _ _ _ _⟩
    · rw [Out.holds_bind] at hh
      obtain ⟨kn, b, hK, h1, _, h2⟩ := eqT_ok (P := P) h hx hy hh
      exact ⟨.bool (!b), mkB kn (!b), by simp [h1 .neq a c hc, h2], hK, mkB_is _ _ _ _⟩
    · exact hh.elim

def unT (op : UnOp) (x : SV) : Out SV :=
  match op with
  | .neg => opt (asI x) fun r => .leaf (mkI r.1 r.2.1 (r.2.1.wrap (0 - r.2.2)))
  | .xor => opt (asI x) fun r => .leaf (mkI r.1 r.2.1 (bits .xor r.2.1 (if r.2.1.signed then -1 else r.2.1.max) r.2.2))
  | .not => opt (asB x) fun r => .leaf (mkB r.1 (!r.2))
  | .plus => .bad 79
theorem unT_ok {P : Program} {ρ : Rho} {H : Hp} {w : World} {op : UnOp} {x : SV} {v : Value} {K : SV → Prop} (hx : SIs H.sc ρ x v) (hh : (unT op x).holds K) : PureOK ρ H K w ((Op.unary op v).run P w) := by
  cases op <;> simp only [unT] at hh
  case plus => exact hh.elim
  all_goals
    obtain ⟨r, hr, hK⟩ := opt_holds hh
    first
    | (have e := asI_is hr hx
       subst e
       refine ⟨_, _, ?_, hK, mkI_is _ _ _ _ _⟩
       simp [Op.unary, Op.intArith, Op.intBits, bits]; done)
    | (have e := asB_is hr hx
       subst e
       refine ⟨_, _, ?_, hK, mkB_is _ _ _ _⟩
       simp [Op.unary]; done)

def convT (P : Program) (src dst : TypeId) (x : SV) : Out SV :=
  opt (asI x) (fun r => match P.underlying src, P.underlying dst with
    | some _, some (.int k) => .leaf (mkI r.1 k (k.wrap r.2.2))
    | _, _ => .bad 81) 82
theorem convT_ok {P : Program} {ρ : Rho} {H : Hp} {w : World} {src dst : TypeId} {x : SV} {v : Value} {K : SV → Prop} (hx : SIs H.sc ρ x v) (hh : (convT P src dst x).holds K) : PureOK ρ H K w ((convert src dst v).run P w) := by
  obtain ⟨r, hr, hK⟩ := opt_holds hh
  have e := asI_is hr hx
  subst e
  clear hh
  split at hK
  · rename_i d k hs hd
    refine ⟨_, _, ?_, hK, mkI_is _ _ _ _ _⟩
    simp [convert, run_underlying hs, run_underlying hd, Conv.intToInt]
  · exact hK.elim
end Go.Proofs.Ytjpnpaboahbncaa.Sx
