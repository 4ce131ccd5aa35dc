/- More operations of the symbolic executor: addresses, structs, new memory, lengths. -/
import Derived.Test.YtjpnpaboahbncaaSxOps
set_option linter.unusedVariables false
set_option linter.unusedSimpArgs false
namespace Go.Proofs.Ytjpnpaboahbncaa.Sx
open Go Go.RowKit

def needP {β : Type} (kn : Bool) (p : Prop) [Decidable p] (k : Out β) : Out β := match kn with
  | true => chk (decide p) k 90
  | false => .need p k
theorem needP_holds {β : Type} {kn : Bool} {p : Prop} [Decidable p] {k : Out β} {K : β → Prop} (h : (needP kn p k).holds K) : p ∧ k.holds K := by
  cases kn with
  | true => obtain ⟨h1, h2⟩ := chk_holds h; exact ⟨of_decide_eq_true h1, h2⟩
  | false => exact h

def NV.kn : NV → Bool
  | .k _ => true
  | .s _ => false
def mkN (kn : Bool) (n : Nat) : NV := match kn with | true => .k n | false => .s n
@[simp] theorem mkN_v (kn : Bool) (n : Nat) : (mkN kn n).v = n := by cases kn <;> rfl

/-! ### Addresses -/
def fieldAddrT (P : Program) (H : HL) (s : TypeId) (f : Nat) : SV → Out SV
  | .c (.ptr key i e g sz) => match P.underlying s with
    | some (.struct fs) => opt (fs[f]?) (fun fd => opt (sizeT P fd.type) (fun n => chk (Nat.ble 1 n) ((nonNil H key i e).bind fun _ => .leaf (.c (.ptr key i e (g + fd.offset) sz))) 91) 92) 93
    | _ => .bad 94
  | _ => .bad 95
theorem fieldAddrT_ok {P : Program} {φ : Fr} {ρ : Rho} {H : Hp} {w : World} {s : TypeId} {f : Nat} {x : SV} {v : Value} {K : SV → Prop} (h : HInv φ ρ H w) (hx : SIs H.sc ρ x v) (hh : (fieldAddrT P H.h s f x).holds K) :
    PureOK ρ H K w ((Instr.fieldAt s v f).run P w) := by
  unfold fieldAddrT at hh
  split at hh
  · rename_i key i e g sz
    split at hh
    · rename_i fs hu
      obtain ⟨fd, hfd, hh⟩ := opt_holds hh
      obtain ⟨n, hn, hh⟩ := opt_holds hh
      obtain ⟨h1, hh⟩ := chk_holds hh
      have h1 := Nat.le_of_ble_eq_true h1
      rw [Out.holds_bind] at hh
      obtain ⟨hK, p, hp⟩ := nonNil_ok h hh
      have e0 := hx.eq
      simp only [SV.den, SC.den, place_of hp] at e0
      refine ⟨.pointer (some ((⟨p.1, p.2 + (e.v * sz + g), none⟩ : Addr).add fd.offset)), _, ?_, hK, ?_⟩
      · rw [e0]
        have : ¬ n = 0 := by omega
        simp [Instr.fieldAt, run_underlying hu, hfd, Instr.sureAddr, fieldPlace, run_sizeOf_of hn, this]
      · intro ρ' ha
        have e1 := hx ρ' ha
        rw [e0] at e1
        simp only [SV.den, SC.den, Value.pointer.injEq] at e1 ⊢
        have := (place_add (b := fd.offset) e1).1
        rw [Nat.add_assoc] at this
        exact this
    · exact hh.elim
  · exact hh.elim

def indexAddrT (P : Program) (H : HL) (t : TypeId) (x ix : SV) : Out SV :=
  match x with
  | .c (.slc key i e sz len cap) => match P.underlying t with
    | some (.slice el) => opt (asI ix) (fun r => opt (sizeT P el) (fun n => chk (Nat.beq n sz) (needP (r.1 && len.kn) (0 ≤ r.2.2 ∧ r.2.2 < (len.v : Int))
        ((nonNil H key i (e.add (mkN r.1 r.2.2.toNat))).bind fun _ => .leaf (.c (.ptr key i (e.add (mkN r.1 r.2.2.toNat)) 0 sz)))) 96) 97) 98
    | _ => .bad 99
  | .c (.ptr key i e f sz) => match P.underlying t with
    | some (.array m el) => opt (asI ix) (fun r => opt (sizeT P el) (fun n => chk (r.1 && Nat.ble 1 n) (needP true (0 ≤ r.2.2 ∧ r.2.2 < (m : Int))
        ((nonNil H key i e).bind fun _ => .leaf (.c (.ptr key i e (f + r.2.2.toNat * n) sz)))) 100) 101) 102
    | _ => .bad 103
  | _ => .bad 104
theorem indexAddrT_ok {P : Program} {φ : Fr} {ρ : Rho} {H : Hp} {w : World} {t : TypeId} {x ix : SV} {v u : Value} {K : SV → Prop} (h : HInv φ ρ H w) (hx : SIs H.sc ρ x v) (hi : SIs H.sc ρ ix u)
    (hh : (indexAddrT P H.h t x ix).holds K) : PureOK ρ H K w ((Instr.indexAt t v u).run P w) := by
  unfold indexAddrT at hh
  split at hh
  · rename_i key i e sz len cap
    split at hh
    · rename_i el hu
      obtain ⟨r, hr, hh⟩ := opt_holds hh
      obtain ⟨n, hn, hh⟩ := opt_holds hh
      obtain ⟨hz, hh⟩ := chk_holds hh
      have hz := Nat.eq_of_beq_eq_true hz
      obtain ⟨⟨h0, h1⟩, hh⟩ := needP_holds hh
      rw [Out.holds_bind] at hh
      obtain ⟨hK, p, hp⟩ := nonNil_ok h hh
      have e1 := asI_is hr hi
      have e0 := hx.eq
      simp only [SV.den, SC.den, place_of hp] at e0
      have hel : P.elem t = el := by simp [Program.elem, hu]
      have hu' : P.underlying t = some (.slice (P.elem t)) := by rw [hel]; exact hu
      refine ⟨.pointer (some ((⟨p.1, p.2 + e.v * sz, none⟩ : Addr).add (r.2.2.toNat * sz))), _, ?_, hK, ?_⟩
      · rw [e0, e1, run_indexAt_slice w t _ _ _ _ _ hu', if_pos ⟨h0, h1⟩, hel]
        simp [run_sizeOf_of hn, hz]
      · intro ρ' ha
        have e2 := hx ρ' ha
        rw [e0] at e2
        simp only [SV.den, SC.den, Value.slice.injEq] at e2
        simp only [SV.den, SC.den, Value.pointer.injEq, NV.v_add, mkN_v]
        have := (place_add (b := r.2.2.toNat * sz) e2.1).1
        rw [Nat.add_mul, Nat.add_zero]
        exact this
    · exact hh.elim
  · rename_i key i e f sz
    split at hh
    · rename_i m el hu
      obtain ⟨r, hr, hh⟩ := opt_holds hh
      obtain ⟨n, hn, hh⟩ := opt_holds hh
      obtain ⟨_, hh⟩ := chk_holds hh
      obtain ⟨⟨h0, h1⟩, hh⟩ := needP_holds hh
      rw [Out.holds_bind] at hh
      obtain ⟨hK, p, hp⟩ := nonNil_ok h hh
      have e1 := asI_is hr hi
      have e0 := hx.eq
      simp only [SV.den, SC.den, place_of hp] at e0
      have hel : P.elem t = el := by simp [Program.elem, hu]
      have hl : P.arrayLen t = m := by simp [Program.arrayLen, hu]
      have hu' : P.underlying t = some (.array (P.arrayLen t) (P.elem t)) := by rw [hel, hl]; exact hu
      refine ⟨.pointer (some ((⟨p.1, p.2 + (e.v * sz + f), none⟩ : Addr).add (r.2.2.toNat * n))), _, ?_, hK, ?_⟩
      · rw [e0, e1, run_indexAt_array w t _ _ _ hu', hl, if_pos ⟨h0, h1⟩, hel]
        simp [run_sizeOf_of hn]
      · intro ρ' ha
        have e2 := hx ρ' ha
        rw [e0] at e2
        simp only [SV.den, SC.den, Value.pointer.injEq] at e2 ⊢
        have := (place_add (b := r.2.2.toNat * n) e2).1
        rw [Nat.add_assoc] at this
        exact this
    · exact hh.elim
  · exact hh.elim

def nilCheckT (H : HL) : SV → Out SV
  | .c (.ptr key i e f sz) => (nonNil H key i e).bind fun _ => .leaf (.c (.ptr key i e f sz))
  | .c (.ifc t key i e f sz) => .leaf (.c (.ifc t key i e f sz))
  | .c (.fn f caps) => .leaf (.c (.fn f caps))
  | _ => .bad 105

/-! ### Parts of structs and arrays -/
def extractT (k : Nat) : SV → Out SV
  | .t l => opt (l[k]?) (fun | .c x => .leaf (.c x) | .a x => .leaf (.a x)) 106
  | _ => .bad 107
theorem extractT_ok {P : Program} {ρ : Rho} {H : Hp} {w : World} {k : Nat} {x : SV} {v : Value} {K : SV → Prop} (hx : SIs H.sc ρ x v) (hh : (extractT k x).holds K) : PureOK ρ H K w ((Instr.extract v k).run P w) := by
  unfold extractT at hh
  split at hh
  · rename_i l
    obtain ⟨te, hte, hh⟩ := opt_holds hh
    have e0 := hx.eq
    simp only [SV.den] at e0
    have hrun : (Instr.extract v k).run P w = .ok (te.den ρ) w := by
      rw [e0]; simp [Instr.extract, hte]
    have his : ∀ ρ', Agree H.sc ρ ρ' → te.den ρ' = te.den ρ := fun ρ' ha => by
      have := hx ρ' ha
      rw [e0] at this
      simp only [SV.den, Value.tuple.injEq] at this
      have := congrArg (fun a : Array Value => a[k]?) this
      simpa [hte] using this
    cases te with
    | c y => exact ⟨_, .c y, hrun, hh, his⟩
    | a y => exact ⟨_, .a y, hrun, hh, his⟩
  · exact hh.elim

theorem LIs.of_a {n : Nat → Prop} {ρ : Rho} {l : List SC} {v : Value} (h : SIs n ρ (.a l) v) : ∃ vs, v = .agg vs.toArray ∧ LIs n ρ l vs :=
  ⟨l.map (SC.den ρ), h.eq, fun ρ' ha => by have := (h ρ' ha).trans h.eq; simpa [SV.den] using this⟩

def partT (P : Program) (t : TypeId) (l : List SC) (off : Nat) : Out SV :=
  opt (isAggT P t) (fun
    | true => opt (sizeT P t) (fun n => .leaf (.a ((l.drop off).take n))) 108
    | false => opt (l[off]?) (fun c => .leaf (.c c)) 109) 110
theorem partT_ok {P : Program} {ρ : Rho} {H : Hp} {w : World} {t : TypeId} {l : List SC} {vs : List Value} {off : Nat} {K : SV → Prop} (hl : LIs H.sc ρ l vs) (hh : (partT P t l off).holds K) : PureOK ρ H K w ((part t vs.toArray off).run P w) := by
  obtain ⟨b, hb, hh⟩ := opt_holds hh
  cases b with
  | true =>
    obtain ⟨n, hn, hK⟩ := opt_holds hh
    refine ⟨.agg ((vs.drop off).take n).toArray, _, ?_, hK, .agg fun ρ' ha => by rw [← hl ρ' ha, List.map_take, List.map_drop]⟩
    simp [part, run_isAgg_of hb, run_sizeOf_of hn]
  | false =>
    obtain ⟨c, hc, hK⟩ := opt_holds hh
    obtain ⟨v, hv, hs⟩ := hl.get hc
    exact ⟨v, .c c, by simp [part, run_isAgg_of hb, hv], hK, .of_c hs⟩

def fieldT (P : Program) (t : TypeId) (f : Nat) : SV → Out SV
  | .a l => match P.underlying t with
    | some (.struct fs) => opt (fs[f]?) (fun fd => partT P fd.type l fd.offset) 111
    | _ => .bad 112
  | _ => .bad 113
theorem fieldT_ok {P : Program} {ρ : Rho} {H : Hp} {w : World} {t : TypeId} {f : Nat} {x : SV} {v : Value} {K : SV → Prop} (hx : SIs H.sc ρ x v) (hh : (fieldT P t f x).holds K) : PureOK ρ H K w ((Instr.field t v f).run P w) := by
  unfold fieldT at hh
  split at hh
  · rename_i l
    split at hh
    · rename_i fs hu
      obtain ⟨fd, hfd, hh⟩ := opt_holds hh
      obtain ⟨vs, rfl, hl⟩ := LIs.of_a hx
      obtain ⟨u, sv, h1, h2, h3⟩ := partT_ok (w := w) hl hh
      exact ⟨u, sv, by simp [Instr.field, run_underlying hu, hfd, asAgg, h1], h2, h3⟩
    · exact hh.elim
  · exact hh.elim

def indexT (P : Program) (t : TypeId) (ix : SV) : SV → Out SV
  | .a l => match P.underlying t with
    | some (.array m el) => opt (asI ix) (fun r => opt (sizeT P el) (fun n => chk r.1 (needP true (0 ≤ r.2.2 ∧ r.2.2 < (m : Int)) (partT P el l (r.2.2.toNat * n))) 114) 115) 116
    | _ => .bad 117
  | _ => .bad 118
theorem indexT_ok {P : Program} {ρ : Rho} {H : Hp} {w : World} {t : TypeId} {ix x : SV} {u v : Value} {K : SV → Prop} (hx : SIs H.sc ρ x v) (hi : SIs H.sc ρ ix u) (hh : (indexT P t ix x).holds K) : PureOK ρ H K w ((Instr.index t v u).run P w) := by
  unfold indexT at hh
  split at hh
  · rename_i l
    split at hh
    · rename_i m el hu
      obtain ⟨r, hr, hh⟩ := opt_holds hh
      obtain ⟨n, hn, hh⟩ := opt_holds hh
      obtain ⟨_, hh⟩ := chk_holds hh
      obtain ⟨⟨h0, h1⟩, hh⟩ := needP_holds hh
      have e1 := asI_is hr hi
      obtain ⟨vs, rfl, hl⟩ := LIs.of_a hx
      obtain ⟨z, sv, g1, g2, g3⟩ := partT_ok (w := w) hl hh
      refine ⟨z, sv, ?_, g2, g3⟩
      rw [e1]
      simp [Instr.index, asIntOf, run_underlying hu, run_sizeOf_of hn, h0, h1, g1]
    · exact hh.elim
  · exact hh.elim

/-! ### pick -/
def pickT (c a b : SV) : Out SV :=
  opt (asB c) (fun r => match r.1 with
    | true => (match r.2 with | true => .leaf a | false => .leaf b)
    | false => match a, b with
      | .c (.kb true), .c (.kb false) => .leaf (mkB false r.2)
      | .c (.kb true), .c (.kb true) => .leaf (mkB true true)
      | .c (.kb false), .c (.kb false) => .leaf (mkB true false)
      | .c (.kb true), .c (.bv y) => .leaf (mkB false (r.2 || y))
      | .c (.bv x), .c (.kb false) => .leaf (mkB false (r.2 && x))
      | a, b => .br r.2 (.leaf a) (.leaf b)) 119
theorem pickT_ok {n : Nat → Prop} {ρ : Rho} {c a b : SV} {vc va vb : Value} {K : SV → Prop} (hc : SIs n ρ c vc) (ha : SIs n ρ a va) (hb : SIs n ρ b vb) (hh : (pickT c a b).holds K) :
    ∃ z sv, vc = .bool z ∧ K sv ∧ SIs n ρ sv (if z then va else vb) := by
  obtain ⟨r, hr, hh⟩ := opt_holds hh
  have e := asB_is hr hc
  obtain ⟨kn, z⟩ := r
  simp only at e hh
  cases kn with
  | true => cases z with
    | true => exact ⟨true, a, e, hh, ha⟩
    | false => exact ⟨false, b, e, hh, hb⟩
  | false =>
    simp only at hh
    split at hh
    · have e1 := ha.eq; have e2 := hb.eq; simp only [SV.den, SC.den] at e1 e2; subst e1 e2
      exact ⟨z, _, e, hh, by cases z <;> exact fun _ _ => rfl⟩
    · have e1 := ha.eq; have e2 := hb.eq; simp only [SV.den, SC.den] at e1 e2; subst e1 e2
      exact ⟨z, _, e, hh, by cases z <;> exact fun _ _ => rfl⟩
    · have e1 := ha.eq; have e2 := hb.eq; simp only [SV.den, SC.den] at e1 e2; subst e1 e2
      exact ⟨z, _, e, hh, by cases z <;> exact fun _ _ => rfl⟩
    · have e1 := ha.eq; have e2 := hb.eq; simp only [SV.den, SC.den] at e1 e2; subst e1 e2
      exact ⟨z, _, e, hh, by cases z <;> exact fun _ _ => by simp [mkB, SV.den, SC.den]⟩
    · have e1 := ha.eq; have e2 := hb.eq; simp only [SV.den, SC.den] at e1 e2; subst e1 e2
      exact ⟨z, _, e, hh, by cases z <;> exact fun _ _ => by simp [mkB, SV.den, SC.den]⟩
    · cases z with
      | true => exact ⟨true, a, e, hh.1 rfl, ha⟩
      | false => exact ⟨false, b, e, hh.2 rfl, hb⟩

/-! ### Interfaces, closures -/
def makeIfcT (P : Program) (t : TypeId) : SV → Out SV
  | .c (.ptr key i e f sz) => match P.underlying t with
    | some (.interface _) => .bad 120
    | some _ => .leaf (.c (.ifc t key i e f sz))
    | none => .bad 121
  | _ => .bad 122
theorem makeIfcT_ok {P : Program} {ρ : Rho} {H : Hp} {w : World} {t : TypeId} {x : SV} {v : Value} {K : SV → Prop} (hx : SIs H.sc ρ x v) (hh : (makeIfcT P t x).holds K) : PureOK ρ H K w ((Instr.makeInterface t v).run P w) := by
  unfold makeIfcT at hh
  split at hh
  · split at hh
    · exact hh.elim
    · rename_i d hne hd
      refine ⟨.iface t v, _, ?_, hh, fun ρ' ha => by have := hx ρ' ha; simp only [SV.den, SC.den] at this ⊢; rw [this]⟩
      simp only [Instr.makeInterface, Sem.run_bind, run_underlying hd, Result.andThen_ok]
      rfl
    · exact hh.elim
  · exact hh.elim

def capKeys : List SV → Option (List Nat)
  | [] => some []
  | .c (.ptr key (.k 0) (.k 0) 0 _) :: l => (capKeys l).map (key :: ·)
  | _ => none
theorem capKeys_is {n : Nat → Prop} {ρ : Rho} : ∀ {l : List SV} {vs : List Value} {ks : List Nat}, capKeys l = some ks → vs.length = l.length → (∀ (k : Nat) sv, l[k]? = some sv → ∃ v, vs[k]? = some v ∧ SIs n ρ sv v) →
    ∀ ρ', Agree n ρ ρ' → ks.map (fun k => Value.pointer (place ρ' k (.k 0) 0)) = vs
  | [], vs, ks, h, hl, _, ρ', _ => by simp [capKeys] at h; subst h; simpa using (List.eq_nil_of_length_eq_zero (by simpa using hl)).symm
  | x :: l, vs, ks, h, hl, hs, ρ', ha => by
    unfold capKeys at h
    split at h
    · simp_all
    · rename_i key sz l' heq
      cases heq
      cases hr : capKeys l with
      | none => simp [hr] at h
      | some ks' =>
        simp [hr] at h; subst h
        cases vs with
        | nil => simp at hl
        | cons v vs =>
          obtain ⟨v', hv, hi⟩ := hs 0 _ rfl
          simp at hv; subst hv
          have ih := capKeys_is (vs := vs) hr (by simpa using hl) (fun k sv hk => by simpa using hs (k + 1) sv (by simpa using hk)) ρ' ha
          have := hi ρ' ha
          simp only [SV.den, SC.den, NV.v_k, Nat.zero_mul, Nat.zero_add] at this
          simp [ih, this]
    · cases h
end Go.Proofs.Ytjpnpaboahbncaa.Sx
