/- The symbolic executor over operations, regions and code, and its soundness. -/
import Derived.Test.YtjpnpaboahbncaaSxApp
import Derived.Test.YtjpnpaboahbncaaSxForce
set_option linter.unusedVariables false
set_option linter.unusedSimpArgs false
namespace Go.Proofs.Ytjpnpaboahbncaa.Sx
open Go Go.RowKit

/-! ### Operands -/
def evalT (s : St) : Operand → Option SV
  | .tmp t => match s.tmps[t]? with
    | some (some v) => some v
    | _ => none
  | .const v => ofVal v
  | .func f => some (.c (.fn f []))
  | .global _ => none
theorem evalT_is {φ : Fr} {ρ : Rho} {s : St} {a : Act} {w : World} (h : Inv φ ρ s a w) {x : Operand} {sv : SV} (hx : evalT s x = some sv) : SIs s.H.sc ρ sv (a.eval x) := by
  cases x with
  | tmp t =>
    simp only [evalT] at hx
    split at hx
    · rename_i v hv
      cases hx
      obtain ⟨u, hu, hi⟩ := h.tmps t sv hv
      simpa [Act.eval, Array.getD_eq_getD_getElem?, hu] using hi
    · cases hx
  | const v => exact ofVal_is hx
  | global g => cases hx
  | func f => cases hx; exact fun _ _ => rfl
def evalsT (s : St) : List Operand → Option (List SV)
  | [] => some []
  | x :: l => match evalT s x, evalsT s l with
    | some v, some vs => some (v :: vs)
    | _, _ => none
theorem evalsT_is {φ : Fr} {ρ : Rho} {s : St} {a : Act} {w : World} (h : Inv φ ρ s a w) : ∀ {l : List Operand} {vs : List SV}, evalsT s l = some vs → VIs s.H.sc ρ vs (l.map a.eval)
  | [], vs, hx => by simp [evalsT] at hx; subst hx; trivial
  | x :: l, vs, hx => by
    simp only [evalsT] at hx
    split at hx
    · rename_i v vs' h1 h2
      cases hx
      exact ⟨evalT_is h h1, evalsT_is h h2⟩
    · cases hx
def partsT (s : St) : List (Nat × Operand) → Option (List (Nat × SV))
  | [] => some []
  | (i, x) :: l => match evalT s x, partsT s l with
    | some v, some vs => some ((i, v) :: vs)
    | _, _ => none
theorem partsT_is {φ : Fr} {ρ : Rho} {s : St} {a : Act} {w : World} (h : Inv φ ρ s a w) : ∀ {l : List (Nat × Operand)} {vs : List (Nat × SV)}, partsT s l = some vs → PIs s.H.sc ρ vs (l.map fun q => (q.1, a.eval q.2))
  | [], vs, hx => by simp [partsT] at hx; subst hx; trivial
  | (i, x) :: l, vs, hx => by
    simp only [partsT] at hx
    split at hx
    · rename_i v vs' h1 h2
      cases hx
      exact ⟨rfl, evalT_is h h1, partsT_is h h2⟩
    · cases hx
def optT (s : St) : Option Operand → Option (Option SV)
  | none => some none
  | some x => (evalT s x).map some
theorem optT_is {φ : Fr} {ρ : Rho} {s : St} {a : Act} {w : World} (h : Inv φ ρ s a w) {x : Option Operand} {v : Option SV} (hx : optT s x = some v) : optIs s.H.sc ρ v (x.map a.eval) := by
  cases x with
  | none => simp [optT] at hx; subst hx; trivial
  | some x =>
    simp only [optT, Option.map_eq_some_iff] at hx
    obtain ⟨u, hu, rfl⟩ := hx
    exact evalT_is h hu

/-! ### Calls -/
abbrev CallT := FuncId → List SV → Hp → Out (SV × Hp)
/-- The table of calls says the truth. -/
def CallOK (P : Program) (callT : CallT) : Prop := ∀ (φ : Fr) (ρ : Rho) (H : Hp) (w : World) (f : FuncId) (args : List SV) (vs : List Value) (K : SV × Hp → Prop), HInv φ ρ H w → VIs H.sc ρ args vs → (callT f args H).holds K →
  Calls P f vs.toArray w fun e w' => ∃ v ρ' sv H', e = .returned v ∧ K (sv, H') ∧ Agree H.sc ρ ρ' ∧ H.le H' ∧ HInv φ ρ' H' w' ∧ SIs H'.sc ρ' sv v

/-- A function with a body of its own. -/
def bodied (P : Program) (f : FuncId) : Bool := match P.funcs[f]? with
  | some fn => fn.body.isSome && !(fn.name == "runtime.NumGoroutine")
  | none => false
theorem run_callFunc {P : Program} {f : FuncId} (h : bodied P f = true) (args : Array Value) (w : World) : (callFunc f args).run P w = .ok (.enter f args) w := by
  unfold bodied at h
  cases hf : P.funcs[f]? with
  | none => simp [hf] at h
  | some fn =>
    simp only [hf, Bool.and_eq_true, Bool.not_eq_true'] at h
    have h1 : fn.body.isNone = false := by cases hb : fn.body <;> simp_all
    have h2 := h.2
    simp only [callFunc, Sem.run_bind, run_program, Result.andThen_ok, hf, h2, h1, Bool.false_eq_true, if_false, Sem.run_pure]

theorem VIs.append {n : Nat → Prop} {ρ : Rho} : ∀ {a b : List SV} {x y : List Value}, VIs n ρ a x → VIs n ρ b y → VIs n ρ (a ++ b) (x ++ y)
  | [], b, [], y, _, h => h
  | [], b, x :: xs, y, h, _ => h.elim
  | v :: a, b, [], y, h, _ => h.elim
  | v :: a, b, x :: xs, y, h, g => ⟨h.1, VIs.append h.2 g⟩

def capPtrs (caps : List Nat) : List SV := caps.map fun k => .c (.ptr k (.k 0) (.k 0) 0 1)
theorem capPtrs_is {n : Nat → Prop} {ρ : Rho} : ∀ {caps : List Nat} {vs : List Value}, (∀ ρ', Agree n ρ ρ' → caps.map (fun k => Value.pointer (place ρ' k (.k 0) 0)) = vs) → VIs n ρ (capPtrs caps) vs
  | [], vs, h => by have := h ρ (.refl _ _); simp at this; subst this; trivial
  | k :: caps, vs, h => by
    cases vs with
    | nil => have := h ρ (.refl _ _); simp at this
    | cons v vs =>
      refine ⟨fun ρ' ha => ?_, capPtrs_is fun ρ' ha => ?_⟩
      · have := h ρ' ha; simp at this; simpa [SV.den, SC.den] using this.1
      · have := h ρ' ha; simp at this; exact this.2

/-- The method's function, where the receiver is a pointer and the method is the type's own. -/
def methodT (P : Program) (t : TypeId) (name : String) : Option FuncId :=
  match (P.info? t).bind (fun i => i.methods.find? (·.name == name)) with
  | some m => bif m.path.isEmpty && isPtrT P t then (match m.func with
    | some (f, true) => some f
    | _ => none) else none
  | none => none
theorem methodT_ok {P : Program} {t : TypeId} {name : String} {f : FuncId} (h : methodT P t name = some f) (v : Value) (w : World) (n : Nat) : (method (n + 1) t v name).run P w = .ok (f, v) w := by
  unfold methodT at h
  split at h
  · rename_i m hm
    by_cases hb : (m.path.isEmpty && isPtrT P t) = true
    · simp only [hb, cond_true] at h
      simp only [Bool.and_eq_true] at hb
      obtain ⟨e, he⟩ := isPtrT_h hb.2
      split at h
      · rename_i g hg
        cases h
        obtain ⟨i, hi, hfind⟩ := Option.bind_eq_some_iff.1 hm
        have hp : m.path.toList = [] := by have := hb.1; simp only [Array.isEmpty_iff] at this; simp [this]
        simp [method, typeInfo, hi, hfind, hp, follow, hg, receiverAt, run_underlying he, Place.get]
      · cases h
    · simp [hb] at h
  · cases h

/-! ### Operations -/
def isC : Operand → Bool
  | .const _ => true
  | _ => false
theorem isC_h {x : Operand} (h : isC x = true) : ∃ z, x = .const z := by cases x <;> simp [isC] at h; exact ⟨_, rfl⟩

def builtinT (P : Program) (b : Builtin) (ts : Array TypeId) (H : Hp) (args : List SV) : Out (SV × Hp) :=
  match b, ts.toList, args with
  | .len, [t], [x] => (lenT P t x).bind fun v => .leaf (v, H)
  | .cap, [t], [x] => (capT P t x).bind fun v => .leaf (v, H)
  | .min, _, xs => (minT xs).bind fun v => .leaf (v, H)
  | .max, _, xs => (maxT xs).bind fun v => .leaf (v, H)
  | .append, [t, u], [x, y] => appendT P H t u x y
  | _, _, _ => .bad 200

def opT (P : Program) (callT : CallT) (s : St) (o : Op) : Out (SV × Hp) :=
  match o with
  | .move x | .assign x => opt (evalT s x) (fun v => .leaf (v, s.H)) 201
  | .pick c a b => opt (evalT s c) (fun vc => opt (evalT s a) (fun va => opt (evalT s b) (fun vb => (pickT vc va vb).bind fun v => .leaf (v, s.H)) 202) 202) 202
  | .alloc t => allocT P s.H t
  | .box t x => opt (evalT s x) (fun v => boxT s.H t v) 203
  | .build t ps => opt (partsT s ps.toList) (fun l => (buildT P t l).bind fun v => .leaf (v, s.H)) 204
  | .buildSlice t len ps => opt (partsT s ps.toList) (fun l => buildSliceT P s.H t len l) 205
  | .load t x => opt (evalT s x) (fun v => (loadT P s.H.h t v).bind fun u => .leaf (u, s.H)) 206
  | .store t x y => opt (evalT s x) (fun v => opt (evalT s y) (fun u => (storeT P s.H.h t v u).bind fun h' => .leaf (.t [], { s.H with h := h' })) 207) 207
  | .nilCheck x => opt (evalT s x) (fun v => (nilCheckT s.H.h v).bind fun u => .leaf (u, s.H)) 208
  | .binOp op t x y _ => opt (evalT s x) (fun v => opt (evalT s y) (fun u => (binT P s.H.h (isC x || isC y) op t v u).bind fun r => .leaf (r, s.H)) 209) 209
  | .unOp op _ x => opt (evalT s x) (fun v => (unT op v).bind fun r => .leaf (r, s.H)) 210
  | .convert a b x => opt (evalT s x) (fun v => (convT P a b v).bind fun r => .leaf (r, s.H)) 211
  | .makeInterface t x => opt (evalT s x) (fun v => (makeIfcT P t v).bind fun r => .leaf (r, s.H)) 212
  | .makeFunc (.func f) first caps => chk first.isEmpty (opt (evalsT s caps.toList) (fun l => opt (capKeys l) (fun ks => .leaf (.c (.fn f ks), s.H)) 213) 213) 213
  | .makeSlice t x y => opt (evalT s x) (fun v => opt (evalT s y) (fun u => makeSliceT P s.H t v u) 214) 214
  | .slice t x lo hi mx => opt (evalT s x) (fun v => opt (optT s lo) (fun a => opt (optT s hi) (fun b => opt (optT s mx) (fun c => (sliceT P t a b c v).bind fun r => .leaf (r, s.H)) 215) 215) 215) 215
  | .fieldAddr t x f => opt (evalT s x) (fun v => (fieldAddrT P s.H.h t f v).bind fun r => .leaf (r, s.H)) 216
  | .field t x f => opt (evalT s x) (fun v => (fieldT P t f v).bind fun r => .leaf (r, s.H)) 217
  | .indexAddr t x y => opt (evalT s x) (fun v => opt (evalT s y) (fun u => (indexAddrT P s.H.h t v u).bind fun r => .leaf (r, s.H)) 218) 218
  | .index t x y => opt (evalT s x) (fun v => opt (evalT s y) (fun u => (indexT P t u v).bind fun r => .leaf (r, s.H)) 219) 219
  | .extract x k => opt (evalT s x) (fun v => (extractT k v).bind fun r => .leaf (r, s.H)) 220
  | .call c => opt (evalsT s c.args.toList) (fun args => match c.callee with
    | .builtin b => builtinT P b c.argTypes s.H args
    | .value x => opt (evalT s x) (fun
      | .c (.fn f caps) => chk (bodied P f) (callT f (args ++ capPtrs caps) s.H) 221
      | _ => .bad 222) 223
    | .invoke x name => opt (evalT s x) (fun
      | .c (.ifc t key i e f sz) => opt (methodT P t name) (fun g => chk (bodied P g) (callT g (.c (.ptr key i e f sz) :: args) s.H) 224) 225
      | _ => .bad 226) 227) 228
  | _ => .bad 229

/-- What an operation leaves. -/
def OpPost (φ : Fr) (ρ : Rho) (H : Hp) (K : SV × Hp → Prop) (a : Act) (d : Option Tmp) (a' : Act) (w' : World) : Prop :=
  ∃ v ρ' sv H', K (sv, H') ∧ Agree H.sc ρ ρ' ∧ H.le H' ∧ HInv φ ρ' H' w' ∧ SIs H'.sc ρ' sv v ∧ a' = a.put d v

theorem wp_of_val {P : Program} {φ : Fr} {ρ : Rho} {H : Hp} {K : SV × Hp → Prop} {o : Oper} {a : Act} {w : World} {Q : Exit → Act → World → Prop} {r : Sem Value} (he : execOp a.eval o = (do pure (.value (← r)))) (h : ValOK φ ρ H K (r.run P w)) :
    o.wp P a w (OpPost φ ρ H K a o.dst) Q := by
  obtain ⟨v, w', ρ', sv, H', hr, hK, h1, h2, h3, h4⟩ := h
  unfold Oper.wp
  rw [he]
  simp only [Sem.run_bind, hr, Result.andThen_ok, Sem.run_pure, Oper.upon]
  exact ⟨v, ρ', sv, H', hK, h1, h2, h3, h4, rfl⟩

theorem VIs.length {n : Nat → Prop} {ρ : Rho} : ∀ {l : List SV} {vs : List Value}, VIs n ρ l vs → vs.length = l.length
  | [], [], _ => rfl
  | [], _ :: _, h => h.elim
  | _ :: _, [], h => h.elim
  | x :: l, v :: vs, h => by simp [VIs.length h.2]
theorem VIs.get {n : Nat → Prop} {ρ : Rho} : ∀ {l : List SV} {vs : List Value}, VIs n ρ l vs → ∀ (k : Nat) sv, l[k]? = some sv → ∃ v, vs[k]? = some v ∧ SIs n ρ sv v
  | [], [], _, k, sv, hk => by simp at hk
  | [], _ :: _, h, _, _, _ => h.elim
  | _ :: _, [], h, _, _, _ => h.elim
  | x :: l, v :: vs, h, k, sv, hk => by
    cases k with
    | zero => simp at hk; subst hk; exact ⟨v, rfl, h.1⟩
    | succ k => simpa using VIs.get h.2 k sv (by simpa using hk)

theorem pure_of_bind {φ : Fr} {ρ : Rho} {H : Hp} {K : SV × Hp → Prop} {w : World} {r : Result Value} {x : Out SV} (h : HInv φ ρ H w) (hh : (x.bind fun v => Out.leaf (v, H)).holds K) (hp : ∀ K' : SV → Prop, x.holds K' → PureOK ρ H K' w r) : ValOK φ ρ H K r := by
  rw [Out.holds_bind] at hh
  exact .pure h (hp _ hh)

theorem nilCheckT_ok {P : Program} {φ : Fr} {ρ : Rho} {H : Hp} {w : World} {x : SV} {v : Value} {K : SV → Prop} (h : HInv φ ρ H w) (hx : SIs H.sc ρ x v) (hh : (nilCheckT H.h x).holds K) :
    K x ∧ ((∃ a, v = .pointer (some a)) ∨ (∃ t u, v = .iface t u) ∨ (∃ f c, v = .func (.func f) #[] c)) := by
  have e := hx.eq
  unfold nilCheckT at hh
  split at hh
  · rw [Out.holds_bind] at hh
    obtain ⟨hK, p, hp⟩ := nonNil_ok h hh
    simp only [SV.den, SC.den, place_of hp] at e
    exact ⟨hK, .inl ⟨_, e⟩⟩
  · exact ⟨hh, .inr (.inl ⟨_, _, by rw [e]; rfl⟩)⟩
  · exact ⟨hh, .inr (.inr ⟨_, _, by rw [e]; rfl⟩)⟩
  · exact hh.elim

theorem builtinT_ok {P : Program} {φ : Fr} {ρ : Rho} {H : Hp} {w : World} {b : Builtin} {ts : Array TypeId} {ty : TypeId} {args : List SV} {vs : List Value} {K : SV × Hp → Prop} (h : HInv φ ρ H w) (hx : VIs H.sc ρ args vs)
    (hh : (builtinT P b ts H args).holds K) : ∃ r : Sem Value, (∀ cs, builtin b ts ty cs vs.toArray = (do pure (.value (← r)))) ∧ ValOK φ ρ H K (r.run P w) := by
  unfold builtinT at hh
  split at hh
  · rename_i t x ht
    have : ts = #[t] := by cases ts; simpa using ht
    subst this
    match vs, hx with
    | [v], hx => exact ⟨_, fun _ => rfl, pure_of_bind h hh fun K' hk => lenT_ok hx.1 hk⟩
    | [], hx => exact hx.elim
    | _ :: _ :: _, hx => exact hx.2.elim
  · rename_i t x ht
    have : ts = #[t] := by cases ts; simpa using ht
    subst this
    match vs, hx with
    | [v], hx => exact ⟨_, fun _ => rfl, pure_of_bind h hh fun K' hk => capT_ok hx.1 hk⟩
    | [], hx => exact hx.elim
    | _ :: _ :: _, hx => exact hx.2.elim
  · exact ⟨_, fun _ => rfl, pure_of_bind h hh fun K' hk => minT_ok hx hk⟩
  · exact ⟨_, fun _ => rfl, pure_of_bind h hh fun K' hk => maxT_ok hx hk⟩
  · rename_i t u x y ht
    have : ts = #[t, u] := by cases ts; simpa using ht
    subst this
    match vs, hx with
    | [v, vx], hx => exact ⟨_, fun _ => rfl, appendT_ok h hx.1 hx.2.1 hh⟩
    | [], hx => exact hx.elim
    | [_], hx => exact hx.2.elim
    | _ :: _ :: _ :: _, hx => exact hx.2.2.elim
  · exact hh.elim

theorem calls_upon {P : Program} {callT : CallT} (hc : CallOK P callT) {φ : Fr} {ρ : Rho} {H : Hp} {w : World} {o : Oper} {a : Act} {Q : Exit → Act → World → Prop} {f : FuncId} {args : List SV} {vs : List Value} {K : SV × Hp → Prop}
    (h : HInv φ ρ H w) (hx : VIs H.sc ρ args vs) (hh : (callT f args H).holds K) : o.upon P a (OpPost φ ρ H K a o.dst) Q (.ok (.enter f vs.toArray) w) := by
  simp only [Oper.upon]
  refine (hc φ ρ H w f args vs K h hx hh).mono ?_
  rintro e w' ⟨v, ρ', sv, H', rfl, hK, h1, h2, h3, h4⟩
  exact ⟨v, ρ', sv, H', hK, h1, h2, h3, h4, rfl⟩

theorem opT_ok {P : Program} {callT : CallT} (hc : CallOK P callT) {φ : Fr} {ρ : Rho} {s : St} {a : Act} {w : World} {o : Oper} {Q : Exit → Act → World → Prop} {K : SV × Hp → Prop} (h : Inv φ ρ s a w) (hh : (opT P callT s o.op).holds K) :
    o.wp P a w (OpPost φ ρ s.H K a o.dst) Q := by
  have hi := h.heap
  unfold opT at hh
  split at hh
  case h_1 x ho =>
    obtain ⟨v, hv, hK⟩ := opt_holds hh
    refine wp_of_val (r := pure (a.eval x)) (by simp only [execOp, ho]; try rfl) (.pure hi ⟨_, v, rfl, hK, evalT_is h hv⟩)
  case h_2 x ho =>
    obtain ⟨v, hv, hK⟩ := opt_holds hh
    refine wp_of_val (r := pure (a.eval x)) (by simp only [execOp, ho]; try rfl) (.pure hi ⟨_, v, rfl, hK, evalT_is h hv⟩)
  case h_3 c x y ho =>
    obtain ⟨vc, hvc, hh⟩ := opt_holds hh
    obtain ⟨va, hva, hh⟩ := opt_holds hh
    obtain ⟨vb, hvb, hh⟩ := opt_holds hh
    rw [Out.holds_bind] at hh
    obtain ⟨z, sv, e, hK, hs⟩ := pickT_ok (evalT_is h hvc) (evalT_is h hva) (evalT_is h hvb) hh
    refine wp_of_val (r := do pure (if ← asBool (a.eval c) then a.eval x else a.eval y)) (by simp only [execOp, ho]; simp) (.pure hi ⟨_, sv, ?_, hK, hs⟩)
    simp [e, asBool]
  case h_4 t ho => exact wp_of_val (by simp only [execOp, ho]; try rfl) (allocT_ok hi hh)
  case h_5 t x ho =>
    obtain ⟨v, hv, hh⟩ := opt_holds hh
    exact wp_of_val (by simp only [execOp, ho]; try rfl) (boxT_ok hi (evalT_is h hv) hh)
  case h_6 t ps ho =>
    obtain ⟨l, hl, hh⟩ := opt_holds hh
    exact wp_of_val (by simp only [execOp, ho]; try rfl) (pure_of_bind hi hh fun K' hk => buildT_ok (by simpa using partsT_is h hl) hk)
  case h_7 t len ps ho =>
    obtain ⟨l, hl, hh⟩ := opt_holds hh
    exact wp_of_val (by simp only [execOp, ho]; try rfl) (buildSliceT_ok hi (by simpa using partsT_is h hl) hh)
  case h_8 t x ho =>
    obtain ⟨v, hv, hh⟩ := opt_holds hh
    refine wp_of_val (by simp only [execOp, ho]; try rfl) (pure_of_bind hi hh fun K' hk => ?_)
    obtain ⟨p, sv, u, e, hr, hK, hs⟩ := loadVar_ok hi (evalT_is h hv) hk
    exact ⟨u, sv, by simp [Instr.loadAt, e, Instr.sureAddr, hr], hK, hs⟩
  case h_9 t x y ho =>
    obtain ⟨v, hv, hh⟩ := opt_holds hh
    obtain ⟨u, hu, hh⟩ := opt_holds hh
    rw [Out.holds_bind] at hh
    obtain ⟨p, h', w', e, hK, hr, hinv⟩ := storeVar_ok (P := P) hi (evalT_is h hv) (evalT_is h hu) hh
    have he : (execOp a.eval o).run P w = .ok .skip w' := by simp [execOp, ho, Instr.storeAt, e, Instr.sureAddr, hr]
    unfold Oper.wp
    rw [he]
    exact ⟨undef, ρ, .t [], ⟨h', s.H.nxt, s.H.D⟩, hK, .refl _ _, ⟨Nat.le_refl _, rfl⟩, hinv, fun _ _ => rfl, rfl⟩
  case h_10 x ho =>
    obtain ⟨v, hv, hh⟩ := opt_holds hh
    rw [Out.holds_bind] at hh
    have hx := evalT_is h hv
    obtain ⟨hK, hcases⟩ := nilCheckT_ok (P := P) hi hx hh
    have he : (execOp a.eval o).run P w = .ok (.value (a.eval x)) w := by
      rcases hcases with ⟨p, e⟩ | ⟨t, u, e⟩ | ⟨f, c, e⟩ <;> simp [execOp, ho, e]
    unfold Oper.wp
    rw [he]
    exact ⟨_, ρ, v, s.H, hK, .refl _ _, .refl _, hi, hx, rfl⟩
  case h_11 op t x y t' ho =>
    obtain ⟨v, hv, hh⟩ := opt_holds hh
    obtain ⟨u, hu, hh⟩ := opt_holds hh
    refine wp_of_val (by simp only [execOp, ho]; try rfl) (pure_of_bind hi hh fun K' hk => binT_ok hi (evalT_is h hv) (evalT_is h hu) ?_ hk)
    intro hb
    simp only [Bool.or_eq_true] at hb
    exact hb.imp isC_h isC_h
  case h_12 op t x ho =>
    obtain ⟨v, hv, hh⟩ := opt_holds hh
    exact wp_of_val (by simp only [execOp, ho]; try rfl) (pure_of_bind hi hh fun K' hk => unT_ok (evalT_is h hv) hk)
  case h_13 t t' x ho =>
    obtain ⟨v, hv, hh⟩ := opt_holds hh
    exact wp_of_val (by simp only [execOp, ho]; try rfl) (pure_of_bind hi hh fun K' hk => convT_ok (evalT_is h hv) hk)
  case h_14 t x ho =>
    obtain ⟨v, hv, hh⟩ := opt_holds hh
    exact wp_of_val (by simp only [execOp, ho]; try rfl) (pure_of_bind hi hh fun K' hk => makeIfcT_ok (evalT_is h hv) hk)
  case h_15 f first caps ho =>
    obtain ⟨hf, hh⟩ := chk_holds hh
    obtain ⟨l, hl, hh⟩ := opt_holds hh
    obtain ⟨ks, hks, hK⟩ := opt_holds hh
    have hfe : first = #[] := by simpa [Array.isEmpty_iff] using hf
    have hv := evalsT_is h hl
    refine wp_of_val (by simp only [execOp, ho]; try rfl) (.pure hi ⟨_, _, rfl, hK, fun ρ' ha => ?_⟩)
    have := capKeys_is (n := s.H.sc) (ρ := ρ) hks hv.length hv.get ρ' ha
    simp only [SV.den, SC.den, this, hfe]
    simp
    rw [← Array.toList_map, Array.toArray_toList]
  case h_16 t x y ho =>
    obtain ⟨v, hv, hh⟩ := opt_holds hh
    obtain ⟨u, hu, hh⟩ := opt_holds hh
    exact wp_of_val (by simp only [execOp, ho]; try rfl) (makeSliceT_ok hi (evalT_is h hv) (evalT_is h hu) hh)
  case h_17 t x lo hi' mx ho =>
    obtain ⟨v, hv, hh⟩ := opt_holds hh
    obtain ⟨a1, h1, hh⟩ := opt_holds hh
    obtain ⟨a2, h2, hh⟩ := opt_holds hh
    obtain ⟨a3, h3, hh⟩ := opt_holds hh
    exact wp_of_val (by simp only [execOp, ho]; try rfl) (pure_of_bind hi hh fun K' hk => sliceT_ok (evalT_is h hv) (optT_is h h1) (optT_is h h2) (optT_is h h3) hk)
  case h_18 t x f ho =>
    obtain ⟨v, hv, hh⟩ := opt_holds hh
    exact wp_of_val (by simp only [execOp, ho]; try rfl) (pure_of_bind hi hh fun K' hk => fieldAddrT_ok hi (evalT_is h hv) hk)
  case h_19 t x f ho =>
    obtain ⟨v, hv, hh⟩ := opt_holds hh
    exact wp_of_val (by simp only [execOp, ho]; try rfl) (pure_of_bind hi hh fun K' hk => fieldT_ok (evalT_is h hv) hk)
  case h_20 t x y ho =>
    obtain ⟨v, hv, hh⟩ := opt_holds hh
    obtain ⟨u, hu, hh⟩ := opt_holds hh
    exact wp_of_val (by simp only [execOp, ho]; try rfl) (pure_of_bind hi hh fun K' hk => indexAddrT_ok hi (evalT_is h hv) (evalT_is h hu) hk)
  case h_21 t x y ho =>
    obtain ⟨v, hv, hh⟩ := opt_holds hh
    obtain ⟨u, hu, hh⟩ := opt_holds hh
    exact wp_of_val (by simp only [execOp, ho]; try rfl) (pure_of_bind hi hh fun K' hk => indexT_ok (evalT_is h hv) (evalT_is h hu) hk)
  case h_22 x k ho =>
    obtain ⟨v, hv, hh⟩ := opt_holds hh
    exact wp_of_val (by simp only [execOp, ho]; try rfl) (pure_of_bind hi hh fun K' hk => extractT_ok (evalT_is h hv) hk)
  case h_23 c ho =>
    obtain ⟨args, hargs, hh⟩ := opt_holds hh
    have hva := evalsT_is h hargs
    have hmap : c.args.map a.eval = (c.args.toList.map a.eval).toArray := by rw [← Array.toList_map, Array.toArray_toList]
    split at hh
    · rename_i b hb
      obtain ⟨r, h1, h2⟩ := builtinT_ok (P := P) (ty := o.type) hi hva hh
      refine wp_of_val (r := r) ?_ h2
      simp only [execOp, ho, resolve, hb, pure_bind, invoke, hmap, h1]
    · rename_i x hx
      obtain ⟨v, hv, hh⟩ := opt_holds hh
      have hxs := evalT_is h hv
      split at hh
      · rename_i f caps
        obtain ⟨hbd, hh⟩ := chk_holds hh
        have e := hxs.eq
        simp only [SV.den, SC.den] at e
        have hcp : VIs s.H.sc ρ (capPtrs caps) (caps.map fun k => Value.pointer (place ρ k (.k 0) 0)) := capPtrs_is fun ρ' ha => by
          have := (hxs ρ' ha).trans e
          simpa [SV.den, SC.den] using this
        have he : (execOp a.eval o).run P w = .ok (.enter f (c.args.toList.map a.eval ++ caps.map fun k => Value.pointer (place ρ k (.k 0) 0)).toArray) w := by
          simp only [execOp, ho, resolve, hx, e, Deferred.ofValue, pure_bind, invoke, run_callFunc hbd]
          simp
        unfold Oper.wp
        rw [he]
        exact calls_upon hc hi (hva.append hcp) hh
      · exact hh.elim
    · rename_i x name hx
      obtain ⟨v, hv, hh⟩ := opt_holds hh
      have hxs := evalT_is h hv
      split at hh
      · rename_i t key i e f sz
        obtain ⟨g, hg, hh⟩ := opt_holds hh
        obtain ⟨hbd, hh⟩ := chk_holds hh
        have ev := hxs.eq
        simp only [SV.den, SC.den] at ev
        have hrec : SIs s.H.sc ρ (.c (.ptr key i e f sz)) (.pointer (place ρ key i (e.v * sz + f))) := fun ρ' ha => by
          have := (hxs ρ' ha).trans ev
          simpa [SV.den, SC.den] using this
        obtain ⟨m, hm⟩ : ∃ m, P.types.size + Made.depth = m + 1 := by
          refine ⟨P.types.size + Made.depth - 1, ?_⟩
          have : 0 < Made.depth := by decide
          omega
        have he : (execOp a.eval o).run P w = .ok (.enter g (.pointer (place ρ key i (e.v * sz + f)) :: c.args.toList.map a.eval).toArray) w := by
          have e1 : (#[Value.iface t (.pointer (place ρ key i (e.v * sz + f)))] ++ c.args.map a.eval) = (Value.iface t (.pointer (place ρ key i (e.v * sz + f))) :: c.args.toList.map a.eval).toArray := by
            rw [hmap]; simp
          simp only [execOp, ho, resolve, hx, ev, pure_bind, invoke]
          rw [e1]
          simp [callMethod, hm, methodT_ok hg, run_callFunc hbd]
          exact List.take_of_length_le (by simp)
        unfold Oper.wp
        rw [he]
        exact calls_upon hc hi (args := .c (.ptr key i e f sz) :: args) ⟨hrec, hva⟩ hh
      · exact hh.elim
  case h_24 => exact hh.elim

/-! ### What an operation leaves, as a state -/
def St.put (s : St) (d : Option Tmp) (v : SV) (H : Hp) : St := ⟨match d with
  | some t => s.tmps.set t (some v)
  | none => s.tmps, H⟩
theorem Inv.put {φ : Fr} {ρ ρ' : Rho} {s : St} {a : Act} {w w' : World} (h : Inv φ ρ s a w) {d : Option Tmp} {v : SV} {u : Value} {H' : Hp} (h1 : Agree s.H.sc ρ ρ') (h2 : s.H.le H') (h3 : HInv φ ρ' H' w') (h4 : SIs H'.sc ρ' v u) :
    Inv φ ρ' (s.put d v H') (a.put d u) w' := by
  refine ⟨h3, ?_, ?_, ?_⟩
  · cases d <;> exact h.defers
  · cases d <;> simp [Act.put, St.put, h.size]
  · intro k sv hk
    cases d with
    | none =>
      obtain ⟨x, hx, hs⟩ := h.tmps k sv hk
      exact ⟨x, hx, hs.ext h1 h2.sc⟩
    | some t =>
      simp only [St.put, List.getElem?_set] at hk
      simp only [Act.put]
      by_cases e : t = k
      · subst e
        simp only [if_true] at hk
        split at hk
        · rename_i hlt
          cases hk
          exact ⟨u, by simp [h.size, hlt], h4⟩
        · cases hk
      · rw [if_neg e] at hk
        obtain ⟨x, hx, hs⟩ := h.tmps k sv hk
        exact ⟨x, by rw [Array.getElem?_setIfInBounds_ne e]; exact hx, hs.ext h1 h2.sc⟩

/-! ### Guards -/
def guardT (ops : List Oper) (s : St) (o : Oper) : Out Bool :=
  match o.guard with
  | none => .leaf true
  | some (j, want) => match (ops[j]?).bind (·.dst) with
    | some d => match s.tmps[d]? with
      | some (some (.t [])) => .leaf false
      | some (some sv) => opt (asB sv) (fun r => match r.1 with
        | true => .leaf (r.2 == want)
        | false => .br r.2 (.leaf want) (.leaf (!want))) 230
      | _ => .bad 231
    | none => .bad 232
theorem guardT_ok0 {n : Nat → Prop} {ρ : Rho} {ops : List Oper} {s : St} {a : Act} {o : Oper} {K : Bool → Prop} (h : ∀ (k : Nat) (sv : SV), s.tmps[k]? = some (some sv) → ∃ v, a.tmps[k]? = some v ∧ SIs n ρ sv v) (hh : (guardT ops s o).holds K) : K (Region.wanted o (yielded ops.toArray a.tmps)) := by
  unfold guardT at hh
  unfold Region.wanted
  split at hh
  · rename_i hg; rw [hg]; exact hh
  · rename_i j want hg
    rw [hg]
    simp only
    split at hh
    · rename_i d hd
      split at hh
      · rename_i hs
        obtain ⟨v, hv, hi⟩ := h d _ hs
        have e := hi.eq
        simp only [SV.den] at e
        have hy : yielded ops.toArray a.tmps j = none := by simp [yielded, hd, hv, e]
        rw [hy]; exact hh
      · rename_i sv hne hs
        obtain ⟨r, hr, hh⟩ := opt_holds hh
        obtain ⟨v, hv, hi⟩ := h d _ hs
        have e := asB_is hr hi
        have hy : yielded ops.toArray a.tmps j = some r.2 := by simp [yielded, hd, hv, e]
        rw [hy]
        obtain ⟨kn, b⟩ := r
        cases kn with
        | true =>
          have : (some b == some want) = (b == want) := by cases b <;> cases want <;> rfl
          rw [this]; exact hh
        | false =>
          simp only at hh ⊢
          cases b with
          | true => have := hh.1 rfl; cases want <;> exact this
          | false => have := hh.2 rfl; cases want <;> exact this
      · exact hh.elim
    · exact hh.elim

theorem guardT_ok {φ : Fr} {ρ : Rho} {ops : List Oper} {s : St} {a : Act} {w : World} {o : Oper} {K : Bool → Prop} (h : Inv φ ρ s a w) (hh : (guardT ops s o).holds K) : K (Region.wanted o (yielded ops.toArray a.tmps)) :=
  guardT_ok0 h.tmps hh

/-! ### A bool that guards is split where it arises -/
def isG (ops : List Oper) (d : Option Tmp) : Bool := match d with
  | none => false
  | some d => ops.any fun o => match o.guard with
    | some (g, _) => match (ops[g]?).bind (·.dst) with
      | some e => Nat.beq d e
      | none => false
    | none => false
def splitT (g : Bool) (r : SV × Hp) : Out (SV × Hp) := match r.1 with
  | .c (.bv b) => match g with
    | true => .br b (.leaf (.c (.kb true), r.2)) (.leaf (.c (.kb false), r.2))
    | false => .leaf r
  | _ => .leaf r
theorem splitT_ok {g : Bool} {sv : SV} {H : Hp} {K : SV × Hp → Prop} (h : (splitT g (sv, H)).holds K) : ∃ sv', K (sv', H) ∧ ∀ (n : Nat → Prop) (ρ : Rho) (v : Value), SIs n ρ sv v → SIs n ρ sv' v := by
  unfold splitT at h
  split at h
  · rename_i b hb
    simp only at hb; subst hb
    split at h
    · cases b with
      | true => exact ⟨_, h.1 rfl, fun _ _ _ hs => hs⟩
      | false => exact ⟨_, h.2 rfl, fun _ _ _ hs => hs⟩
    · exact ⟨_, h, fun _ _ _ hs => hs⟩
  · exact ⟨_, h, fun _ _ _ hs => hs⟩

/-! ### A region in the order of the text -/
def runOps (P : Program) (callT : CallT) (ops : List Oper) : List Oper → St → Out St
  | [], s => .leaf s
  | o :: rest, s => (guardT ops s o).bind fun
    | true => (opT P callT s o.op).bind fun r => (splitT (isG ops o.dst) r).bind fun r => fSV r.1 fun v => fHp r.2 fun H => fTm (s.put o.dst v H).tmps fun t => runOps P callT ops rest ⟨t, H⟩
    | false => fTm (s.put o.dst (.t []) s.H).tmps fun t => runOps P callT ops rest ⟨t, s.H⟩
theorem runOps_cons (P : Program) (callT : CallT) (ops : List Oper) (o : Oper) (rest : List Oper) (s : St) : runOps P callT ops (o :: rest) s = (guardT ops s o).bind fun
    | true => (opT P callT s o.op).bind fun r => (splitT (isG ops o.dst) r).bind fun r => runOps P callT ops rest (s.put o.dst r.1 r.2)
    | false => runOps P callT ops rest (s.put o.dst (.t []) s.H) := by
  simp only [runOps, fSV_eq, fHp_eq, fTm_eq]
  rfl

/-- What follows a state. -/
def Then (φ : Fr) (ρ : Rho) (s : St) (K : St → Prop) (N : Act → World → Prop) : Prop := ∀ s' ρ' a' w', K s' → Agree s.H.sc ρ ρ' → s.H.le s'.H → Inv φ ρ' s' a' w' → N a' w'

theorem runOps_ok {P : Program} {callT : CallT} (hc : CallOK P callT) {φ : Fr} {ops : List Oper} {Q : Exit → Act → World → Prop} : ∀ (l : List Oper) {ρ : Rho} {s : St} {a : Act} {w : World} {K : St → Prop}, Inv φ ρ s a w → (runOps P callT ops l s).holds K →
    Then φ ρ s K (Q .normal) → wpList P ops.toArray Q l a w
  | [], ρ, s, a, w, K, h, hh, hQ => hQ s ρ a w hh (.refl _ _) (.refl _) h
  | o :: rest, ρ, s, a, w, K, h, hh, hQ => by
    rw [runOps_cons, Out.holds_bind] at hh
    have hg := guardT_ok h hh
    unfold wpList
    split
    · rename_i hw
      rw [hw] at hg
      simp only [Out.holds_bind] at hg
      refine .inl (Oper.wp_mono (K := OpPost φ ρ s.H (fun r => (splitT (isG ops o.dst) r).holds fun r => (runOps P callT ops rest (s.put o.dst r.1 r.2)).holds K) a o.dst) ?_ (opT_ok hc h hg))
      rintro a' w' ⟨v, ρ', sv, H', hK, h1, h2, h3, h4, rfl⟩
      obtain ⟨sv', hK, hsv⟩ := splitT_ok hK
      refine runOps_ok hc rest (h.put h1 h2 h3 (hsv _ _ _ h4)) hK fun s2 ρ2 a2 w2 g1 g2 g3 g4 => hQ s2 ρ2 a2 w2 g1 (h1.trans (g2.mono h2.sc)) (h2.trans g3) g4
    · rename_i hw
      have hw' : Region.wanted o (yielded ops.toArray a.tmps) = false := by simpa using hw
      rw [hw'] at hg
      simp only at hg
      refine runOps_ok hc rest (h.put (d := o.dst) (v := .t []) (u := undef) (.refl _ _) (.refl _) h.heap (fun _ _ => rfl)) hg fun s2 ρ2 a2 w2 g1 g2 g3 g4 => hQ s2 ρ2 a2 w2 g1 g2 g3 g4
end Go.Proofs.Ytjpnpaboahbncaa.Sx
