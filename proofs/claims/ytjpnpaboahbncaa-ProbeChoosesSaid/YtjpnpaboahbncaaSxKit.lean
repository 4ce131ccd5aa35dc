/- Annotations by the order of a function's loops; a function with annotated loops. -/
import Derived.Test.YtjpnpaboahbncaaSxGhost
set_option linter.unusedVariables false
set_option linter.unusedSimpArgs false
namespace Go.Proofs.Ytjpnpaboahbncaa.Sx
open Go Go.RowKit

def annOf : Code → List Ann → Ann × List Ann
  | .seq a b, ls => match annOf a ls with
    | (x, l1) => match annOf b l1 with
      | (y, l2) => (.two x y, l2)
  | .cond _ a b, ls => match annOf a ls with
    | (x, l1) => match annOf b l1 with
      | (y, l2) => (.two x y, l2)
  | .block _ c, ls => annOf c ls
  | .loop _, x :: r => (x, r)
  | _, ls => (.nil, ls)
def loopsOf : Code → List Code
  | .seq a b => loopsOf a ++ loopsOf b
  | .cond _ a b => loopsOf a ++ loopsOf b
  | .block _ c => loopsOf c
  | .loop c => [c]
  | _ => []
/-- Each annotation fits its loop. -/
def Fits (P : Program) : List Code → List Ann → Prop
  | c :: cs, x :: l => AnnOK P (.loop c) x ∧ Fits P cs l
  | _, _ => True
theorem Fits.left {P : Program} : ∀ {a b : List Code} {l : List Ann}, Fits P (a ++ b) l → Fits P a l
  | [], b, l, h => by cases l <;> trivial
  | c :: cs, b, [], h => trivial
  | c :: cs, b, x :: l, h => ⟨h.1, Fits.left h.2⟩
theorem Fits.right {P : Program} : ∀ {a b : List Code} {l : List Ann}, Fits P (a ++ b) l → Fits P b (l.drop a.length)
  | [], b, l, h => h
  | c :: cs, b, [], h => by cases b <;> trivial
  | c :: cs, b, x :: l, h => Fits.right (l := l) h.2
theorem annOf_rest : ∀ (c : Code) (ls : List Ann), (annOf c ls).2 = ls.drop (loopsOf c).length := by
  intro c
  induction c with
  | seq a b iha ihb => intro ls; simp only [annOf, loopsOf, ihb, iha, List.length_append, List.drop_drop]
  | cond v a b iha ihb => intro ls; simp only [annOf, loopsOf, ihb, iha, List.length_append, List.drop_drop]
  | block i c ih => intro ls; exact ih ls
  | loop c ih => intro ls; cases ls <;> rfl
  | _ => intro ls; rfl
theorem annOf_ok {P : Program} : ∀ (c : Code) (ls : List Ann), Fits P (loopsOf c) ls → AnnOK P c (annOf c ls).1 := by
  intro c
  induction c with
  | seq a b iha ihb => intro ls h; exact ⟨trivial, iha ls h.left, by have := ihb _ h.right; rw [← annOf_rest] at this; exact this⟩
  | cond v a b iha ihb => intro ls h; exact ⟨trivial, iha ls h.left, by have := ihb _ h.right; rw [← annOf_rest] at this; exact this⟩
  | block i c ih => intro ls h; exact ih ls h
  | loop c ih =>
    intro ls h
    cases ls with
    | nil => exact ⟨trivial, trivial⟩
    | cons x l => exact h.1
  | _ => intro ls h; trivial

noncomputable def codeIn (P : Program) (f : FuncId) : Code := match P.funcs[f]? with | some fn => (fn.body).getD .skip | none => .skip
noncomputable def loopIn (P : Program) (f : FuncId) (k : Nat) : Code := ((loopsOf (codeIn P f))[k]?).getD .skip
noncomputable def execA (P : Program) (con : Con) (f : FuncId) (anns : List Ann) (u : Nat) : Nat → CallT := execF P con (fun g => bif Nat.beq g f then (annOf (codeIn P f) anns).1 else .nil) u
theorem execA_ok {P : Program} {con : Con} (hcon : ConOK P con) {f : FuncId} {anns : List Ann} {u : Nat} (h : Fits P (loopsOf (codeIn P f)) anns) (n : Nat) : CallOK P (execA P con f anns u n) := by
  refine execF_ok hcon ?_ n
  intro g fn code hf hb
  cases hbq : Nat.beq g f with
  | false => exact annOK_nil P code
  | true =>
    have := Nat.eq_of_beq_eq_true hbq
    subst this
    have e : codeIn P g = code := by simp [codeIn, hf, hb]
    simp only [cond_true]
    rw [e] at h ⊢
    exact annOf_ok _ _ h
/-! ### What nobody asks of a state is forgotten -/
def maskTm : List (Option SV) → List (Option SV) → List (Option SV)
  | _, [] => []
  | [], _ :: l => none :: maskTm [] l
  | none :: p, _ :: l => none :: maskTm p l
  | some _ :: p, x :: l => x :: maskTm p l
theorem maskTm_le : ∀ {p l t : List (Option SV)}, leTm (maskTm p l) t → leTm l t
  | _, [], t, h => by simpa [maskTm] using h
  | [], x :: l, [], h => by simp [maskTm, leTm] at h
  | [], x :: l, none :: t, h => by
    have h' : leTm (maskTm [] l) t := h
    have := maskTm_le h'
    cases x <;> exact this
  | [], x :: l, some y :: t, h => h.elim
  | none :: p, x :: l, [], h => by simp [maskTm, leTm] at h
  | none :: p, x :: l, none :: t, h => by
    have h' : leTm (maskTm p l) t := h
    have := maskTm_le h'
    cases x <;> exact this
  | none :: p, x :: l, some y :: t, h => h.elim
  | some z :: p, x :: l, [], h => by cases x <;> simp [maskTm, leTm] at h
  | some z :: p, x :: l, none :: t, h => by
    have h' : leTm (maskTm p l) t := by cases x <;> exact h
    have := maskTm_le h'
    cases x <;> exact this
  | some z :: p, none :: l, some y :: t, h => h.elim
  | some z :: p, some x :: l, some y :: t, h => ⟨h.1, maskTm_le h.2⟩
def tmKeys : List (Option SV) → List Nat
  | [] => []
  | none :: l => tmKeys l
  | some v :: l => v.allKeys ++ tmKeys l
def gcH (m0 : Nat) (ks : List Nat) (h : HL) : HL :=
  let old := keep (fun k => Nat.blt k m0) h
  let seen := mark h 300 (ks ++ old.flatMap fun q => q.2.keys) []
  keep (fun k => Nat.blt k m0 || mem k seen) h
def maskSt (m0 : Nat) (p : List (Option SV)) (s : St) : St := ⟨maskTm p s.tmps, ⟨gcH m0 (tmKeys (maskTm p s.tmps)) s.H.h, s.H.nxt, s.H.D⟩⟩
theorem leHLr_keep {σ : Nat → Nat} {q : Nat → Bool} {h : HL} : ∀ {t : HL}, leHLr σ (keep q h) t → leHLr σ h t
  | [], _ => trivial
  | (k, b) :: t, hl => by
    refine ⟨?_, leHLr_keep hl.2⟩
    have h1 := hl.1
    rw [find_keep] at h1
    by_cases hq : q (σ k) = true
    · rw [if_pos hq] at h1; exact h1
    · rw [if_neg hq] at h1; exact h1.elim
theorem maskSt_goR {m0 m : Nat} {L : List Nat} {p : List (Option SV)} {s t : St} (h : goR m0 L (maskSt m p s) t) : goR m0 L s t := ⟨h.1, h.2.1, ⟨maskTm_le h.2.2.1.1, leHLr_keep h.2.2.1.2⟩, h.2.2.2⟩
/-- One round of a loop (the k-th of the function, counted from 0), from a state on; 'pat': what is asked of the state behind it. -/
noncomputable def roundT (P : Program) (con : Con) (f : FuncId) (k u n m0 : Nat) (pat : Ex → List (Option SV)) (s : St) : Out (Ex × St) :=
  (execC P (execF P con (fun _ => .nil) u n) (stride n) u m0 (loopIn P f k) .nil s).bind fun r => fTm (maskTm (pat r.1) r.2.tmps) fun t => fHL (gcH m0 (tmKeys t) r.2.H.h) fun h => fN r.2.H.nxt fun nxt => .leaf (r.1, ⟨t, ⟨h, nxt, r.2.H.D⟩⟩)
theorem roundT_holds {P : Program} {con : Con} {f : FuncId} {k u n m0 : Nat} {pat : Ex → List (Option SV)} {s : St} {X : Type} {J : X → St} {I : X → Prop} {μ : X → Nat} {m1 n1 : Nat} {K : Ex × St → Prop} {x : X}
    (h : (roundT P con f k u n m0 pat s).holds (RoundEnd J I μ m1 n1 K x)) : (execC P (execF P con (fun _ => .nil) u n) (stride n) u m0 (loopIn P f k) .nil s).holds (RoundEnd J I μ m1 n1 K x) := by
  unfold roundT at h
  rw [Out.holds_bind] at h
  simp only [fTm_eq, fHL_eq, fN_eq] at h
  refine Out.holds_mono _ ?_ h
  rintro ⟨e, s'⟩ h
  have h : RoundEnd J I μ m1 n1 K x (e, maskSt m0 (pat e) s') := h
  cases e with
  | normal =>
    obtain ⟨x', L, h1, h2, h3⟩ := h
    exact ⟨x', L, h1, h2, maskSt_goR h3⟩
  | exit i =>
    obtain ⟨t, L, h1, h2, h3, h4⟩ := h
    exact ⟨t, L, maskSt_goR h1, h2, h3, h4⟩
  | ret =>
    obtain ⟨t, L, h1, h2, h3, h4⟩ := h
    exact ⟨t, L, maskSt_goR h1, h2, h3, h4⟩
theorem fits_loops {P : Program} {f : FuncId} : ∀ {ls : List Ann}, (∀ k x, ls[k]? = some x → AnnOK P (.loop (loopIn P f k)) x) → Fits P (loopsOf (codeIn P f)) ls := by
  intro ls h
  unfold loopIn at h
  generalize loopsOf (codeIn P f) = cs at h
  induction cs generalizing ls with
  | nil => cases ls <;> trivial
  | cons c cs ih =>
    cases ls with
    | nil => trivial
    | cons x l => exact ⟨h 0 x rfl, ih fun k y hy => h (k + 1) y hy⟩
theorem fits1 {P : Program} {f : FuncId} {x : Ann} (h : AnnOK P (.loop (loopIn P f 0)) x) : Fits P (loopsOf (codeIn P f)) [x] := fits_loops fun k y hy => by
  cases k with
  | zero => simp at hy; subst hy; exact h
  | succ k => simp at hy
theorem fits2 {P : Program} {f : FuncId} {x y : Ann} (h : AnnOK P (.loop (loopIn P f 0)) x) (g : AnnOK P (.loop (loopIn P f 1)) y) : Fits P (loopsOf (codeIn P f)) [x, y] := fits_loops fun k z hz => by
  match k, hz with
  | 0, hz => simp at hz; subst hz; exact h
  | 1, hz => simp at hz; subst hz; exact g
  | k + 2, hz => simp at hz
/-- The name in a temporary: of what it points to. -/
def tkey (i : Nat) (s : St) : Nat := match s.tmps[i]? with
  | some (some (.c (.slc k _ _ _ _ _))) => k
  | some (some (.c (.ptr k _ _ _ _))) => k
  | some (some (.c (.ifc _ k _ _ _ _))) => k
  | _ => 0
/-- 'holds', closed to the elaborator (which would reckon). -/
structure Holds {β : Type} (o : Out β) (K : β → Prop) : Prop where
  h : o.holds K
/-- A loop's annotation, by a family of states (no annotated loop inside). -/
def loopA {X : Type} (J : X → St) (I : X → Prop) (m0 : Nat) (x0 : X) (L0 : List Nat) (A : Out (Ex × St)) : Ann := .loop (fun n0 s => fNs (L0.map fun i => tkey i s) fun L0 => chk (Nat.ble n0 m0 && nodupR m0 L0 (J x0)) (.need (I x0 ∧ goE m0 L0 s (J x0)) A))
theorem loopA_ok {P : Program} {con : Con} (hcon : ConOK P con) {f : FuncId} {k u nf : Nat} {X : Type} {J : X → St} {I : X → Prop} {m0 : Nat} {x0 : X} {L0 : List Nat} {A : Out (Ex × St)} (μ : X → Nat) (n : Nat) (hm : m0 ≤ n) (hn : ∀ x, (J x).H.nxt = n) (hD : ∀ x, (J x).H.D = fun _ => True)
    (hJ : ∀ x, stOK (J x) = true) {pat : X → Ex → List (Option SV)} (round : ∀ x, I x → ∀ K, A.holds K → Holds (roundT P con f k u nf m0 (pat x) (J x)) (RoundEnd J I μ m0 n K x)) : AnnOK P (.loop (loopIn P f k)) (loopA J I m0 x0 L0 A) :=
  ⟨trivial, fun φ ρ H0 s a w K Q hi hl hh hQ => by
    simp only [fNs_eq] at hh
    exact loop_ok (ann := fun _ => .nil) (execF_ok hcon (fun _ _ code _ _ => annOK_nil P code) nf) J I (fun _ _ => annOK_nil P _) μ m0 n hm hn hD hJ x0 (L0.map fun i => tkey i s) A (fun x hx K hA => roundT_holds (round x hx K hA).h) φ ρ H0 s a w K Q hi hl hh hQ⟩
theorem ghost_annOK {P : Program} {c : Code} {g : St → Out St} {x : Ann} (hg : GhostOK g) (hx : AnnOK P (.loop c) x) : AnnOK P (.loop c) (.ghost g x) := ⟨⟨hg, hx.1⟩, hx.2⟩

/-- What is asked: behind a round what the family says of 's'; else these temporaries. -/
def patOf (s : St) (n : Nat) (l : List Nat) : Ex → List (Option SV)
  | .normal => s.tmps
  | _ => tms n (l.map fun i => (i, .t []))
/-! ### Rows of one column, for tables of contracts -/
def numAt (l : List SC) (e : Nat) : Int := match l[e]? with
  | some c => match asI (.c c) with | some r => r.2.2 | none => 0
  | none => 0
def colFn (i : Nat) : Col → Option (Nat → Int)
  | .ci _ g => some fun e => g i e
  | .ck l => some (numAt l)
  | _ => none
def rowFn (H : HL) (k : Nat) (i : Nat) : Option (Nat → Int) := match find k H with
  | some (.row _ _ _ [col]) => colFn i col
  | some (.view _ _ [col]) => colFn i col
  | some (.fam _ _ _ _ [col]) => colFn i col
  | _ => none
/-- A list of numbers that is read. -/
def ints (k : IntKind) (n : Nat) (g : Nat → Int) : Blk := .view 1 (fun _ => n) [.ci k fun _ e => g e]
end Go.Proofs.Ytjpnpaboahbncaa.Sx
