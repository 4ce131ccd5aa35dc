/- The symbolic executor over code and functions, and its soundness. -/
import Derived.Test.YtjpnpaboahbncaaSxDraw5
import Derived.LoopN
set_option linter.unusedVariables false
set_option linter.unusedSimpArgs false
namespace Go.Proofs.Ytjpnpaboahbncaa.Sx
open Go Go.RowKit

inductive Ex where
  | normal
  | exit (id : Nat)
  | ret
def Ex.to : Ex → Exit
  | .normal => .normal
  | .exit i => .exit i
  | .ret => .ret

abbrev LoopFn := St → Out (Ex × St)
/-- What is known of a code's loops, and steps of the proof's own ('ghost') ahead of a code. -/
inductive Ann where
  | nil
  | two (a b : Ann)
  | loop (l : Nat → LoopFn)
  | ghost (g : St → Out St) (n : Ann)
def Ann.core : Ann → Ann
  | .ghost _ n => n.core
  | n => n
def Ann.pre : Ann → St → Out St
  | .ghost g n, s => (g s).bind n.pre
  | _, s => .leaf s
def Ann.l : Ann → Ann | .two x _ => x | _ => .nil
def Ann.r : Ann → Ann | .two _ y => y | _ => .nil

def unrollT (body : LoopFn) : Nat → LoopFn
  | 0, _ => .bad 301
  | n + 1, s => (body s).bind fun r => match r.1 with
    | .normal => unrollT body n r.2
    | e => .leaf (e, r.2)

/-- 'n0': the names below it were there before the function. -/
def execC (P : Program) (callT : CallT) (S u n0 : Nat) : Code → Ann → LoopFn
  | .skip, n, s => (n.pre s).bind fun s => .leaf (.normal, s)
  | .label _, n, s => (n.pre s).bind fun s => .leaf (.normal, s)
  | .region _ ops draw, n, s => (n.pre s).bind fun s => (match draw with
    | true => drawT P callT S ops.toList s
    | false => runOps P callT ops.toList ops.toList s).bind fun s' => .leaf (.normal, s')
  | .seq a b, n, s => (n.pre s).bind fun s => (execC P callT S u n0 a n.core.l s).bind fun r => match r.1 with
    | .normal => execC P callT S u n0 b n.core.r r.2
    | e => .leaf (e, r.2)
  | .cond c a b, n, s => (n.pre s).bind fun s => opt (evalT s c) (fun v => opt (asB v) (fun r => match r.1 with
    | true => match r.2 with
      | true => execC P callT S u n0 a n.core.l s
      | false => execC P callT S u n0 b n.core.r s
    | false => .br r.2 (execC P callT S u n0 a n.core.l s) (execC P callT S u n0 b n.core.r s)) 302) 303
  | .block id c, n, s => (execC P callT S u n0 c n s).bind fun r => match r.1 with
    | .exit i => match Nat.beq i id with
      | true => .leaf (.normal, r.2)
      | false => .leaf (.exit i, r.2)
    | e => .leaf (e, r.2)
  | .loop c, n, s => (n.pre s).bind fun s => match n.core with
    | .loop l => l n0 s
    | _ => unrollT (execC P callT S u n0 c .nil) u s
  | .exit i, n, s => (n.pre s).bind fun s => .leaf (.exit i, s)
  | .ret, n, s => (n.pre s).bind fun s => .leaf (.ret, s)
  | _, _, _ => .bad 304

/-- What follows a state, however code is left; 'H0': the heap that the function began with. -/
def Post (φ : Fr) (ρ : Rho) (H0 : Hp) (K : Ex × St → Prop) (Q : Exit → Act → World → Prop) : Prop := ∀ e s' ρ' a' w', K (e, s') → Agree H0.sc ρ ρ' → H0.le s'.H → Inv φ ρ' s' a' w' → Q e.to a' w'
theorem Post.later {φ : Fr} {ρ ρ' : Rho} {H0 : Hp} {K : Ex × St → Prop} {Q : Exit → Act → World → Prop} (h : Post φ ρ H0 K Q) (h1 : Agree H0.sc ρ ρ') : Post φ ρ' H0 K Q :=
  fun e s2 ρ2 a2 w2 hK g1 g2 g3 => h e s2 ρ2 a2 w2 hK (h1.trans g1) g2 g3

def LoopOK (P : Program) (c : Code) (l : Nat → LoopFn) : Prop := ∀ (φ : Fr) (ρ : Rho) (H0 : Hp) (s : St) (a : Act) (w : World) (K : Ex × St → Prop) (Q : Exit → Act → World → Prop), Inv φ ρ s a w → H0.le s.H → (l H0.nxt s).holds K → Post φ ρ H0 K Q →
  (Code.loop c).wp P Q a w
def GhostOK (g : St → Out St) : Prop := ∀ (φ : Fr) (ρ : Rho) (s : St) (a : Act) (w : World) (K : St → Prop), Inv φ ρ s a w → (g s).holds K → ∃ s' ρ', K s' ∧ Agree s.H.sc ρ ρ' ∧ s.H.le s'.H ∧ Inv φ ρ' s' a w
def Ann.preOK : Ann → Prop
  | .ghost g n => GhostOK g ∧ n.preOK
  | _ => True
def AnnOK (P : Program) : Code → Ann → Prop
  | .seq a b, n => n.preOK ∧ AnnOK P a n.core.l ∧ AnnOK P b n.core.r
  | .cond _ a b, n => n.preOK ∧ AnnOK P a n.core.l ∧ AnnOK P b n.core.r
  | .block _ c, n => AnnOK P c n
  | .loop c, n => n.preOK ∧ match n.core with
    | .loop l => LoopOK P c l
    | _ => True
  | _, n => n.preOK
theorem annOK_nil (P : Program) : ∀ c, AnnOK P c .nil := by
  intro c
  induction c with
  | seq a b iha ihb => exact ⟨trivial, iha, ihb⟩
  | cond c a b iha ihb => exact ⟨trivial, iha, ihb⟩
  | block id c ih => exact ih
  | loop c ih => exact ⟨trivial, trivial⟩
  | _ => trivial

theorem Hp.le.scL {H H' : Hp} (h : H.le H') {ρ ρ' : Rho} (ha : Agree H'.sc ρ ρ') : Agree H.sc ρ ρ' := ha.mono h.sc
theorem pre_ok {φ : Fr} {H0 : Hp} {β : Type} {a : Act} {w : World} {K : β → Prop} : ∀ {n : Ann}, n.preOK → ∀ {ρ : Rho} {s : St} {f : St → Out β}, Inv φ ρ s a w → H0.le s.H → ((n.pre s).bind f).holds K →
    ∃ s1 ρ1, (f s1).holds K ∧ Agree H0.sc ρ ρ1 ∧ H0.le s1.H ∧ Inv φ ρ1 s1 a w := by
  intro n
  induction n with
  | ghost g n ih =>
    intro hn ρ s f h hl hh
    rw [Out.holds_bind] at hh
    simp only [Ann.pre] at hh
    rw [Out.holds_bind] at hh
    obtain ⟨s1, ρ1, hK, h1, h2, h3⟩ := hn.1 φ ρ s a w _ h hh
    rw [← Out.holds_bind] at hK
    obtain ⟨s2, ρ2, hK2, g1, g2, g3⟩ := ih hn.2 h3 (hl.trans h2) hK
    exact ⟨s2, ρ2, hK2, (hl.scL h1).trans g1, g2, g3⟩
  | _ => intro _ ρ s f h hl hh; exact ⟨s, ρ, hh, .refl _ _, hl, h⟩

theorem execC_ok {P : Program} {callT : CallT} (hc : CallOK P callT) {S u : Nat} {φ : Fr} {H0 : Hp} : ∀ (c : Code) (n : Ann), AnnOK P c n → ∀ {ρ : Rho} {s : St} {a : Act} {w : World} {K : Ex × St → Prop} {Q : Exit → Act → World → Prop}, Inv φ ρ s a w → H0.le s.H →
    (execC P callT S u H0.nxt c n s).holds K → Post φ ρ H0 K Q → c.wp P Q a w := by
  intro c
  induction c with
  | skip =>
    intro n hn ρ s a w K Q h hl hh hQ
    simp only [execC] at hh
    obtain ⟨s1, ρ1, hh, h1, h2, h3⟩ := pre_ok hn h hl hh
    exact wp_skip (hQ _ s1 ρ1 a w hh h1 h2 h3)
  | label l =>
    intro n hn ρ s a w K Q h hl hh hQ
    simp only [execC] at hh
    obtain ⟨s1, ρ1, hh, h1, h2, h3⟩ := pre_ok hn h hl hh
    exact wp_label (hQ _ s1 ρ1 a w hh h1 h2 h3)
  | exit i =>
    intro n hn ρ s a w K Q h hl hh hQ
    simp only [execC] at hh
    obtain ⟨s1, ρ1, hh, h1, h2, h3⟩ := pre_ok hn h hl hh
    exact wp_exit (hQ _ s1 ρ1 a w hh h1 h2 h3)
  | ret =>
    intro n hn ρ s a w K Q h hl hh hQ
    simp only [execC] at hh
    obtain ⟨s1, ρ1, hh, h1, h2, h3⟩ := pre_ok hn h hl hh
    exact wp_ret (hQ _ s1 ρ1 a w hh h1 h2 h3)
  | region id ops draw =>
    intro n hn ρ s a w K Q h hl hh hQ
    simp only [execC] at hh
    obtain ⟨s1, ρ1, hh, h1, h2, h3⟩ := pre_ok hn h hl hh
    rw [Out.holds_bind] at hh
    cases draw with
    | true =>
      have := draw_ok (Q := Q) (id := id) hc h3 hh fun s' ρ' a' w' hK g1 g2 g3 => hQ _ s' ρ' a' w' hK (h1.trans (h2.scL g1)) (h2.trans g2) g3
      simpa using this
    | false =>
      exact wp_region_list (runOps_ok (ops := ops.toList) hc ops.toList h3 hh fun s' ρ' a' w' hK g1 g2 g3 => hQ _ s' ρ' a' w' hK (h1.trans (h2.scL g1)) (h2.trans g2) g3)
  | seq x y ihx ihy =>
    intro n hn ρ s a w K Q h hl hh hQ
    simp only [execC] at hh
    obtain ⟨s1, ρ1, hh, h1, h2, h3⟩ := pre_ok hn.1 h hl hh
    rw [Out.holds_bind] at hh
    refine wp_seq (ihx n.core.l hn.2.1 h3 h2 hh ?_)
    intro e s' ρ' a' w' hK g1 g2 g3
    cases e with
    | normal => exact ihy n.core.r hn.2.2 g3 g2 hK (hQ.later (h1.trans g1))
    | exit i => exact hQ _ s' ρ' a' w' hK (h1.trans g1) g2 g3
    | ret => exact hQ _ s' ρ' a' w' hK (h1.trans g1) g2 g3
  | cond c x y ihx ihy =>
    intro n hn ρ s a w K Q h hl hh hQ
    simp only [execC] at hh
    obtain ⟨s1, ρ1, hh, h1, h2, h3⟩ := pre_ok hn.1 h hl hh
    obtain ⟨v, hv, hh⟩ := opt_holds hh
    obtain ⟨⟨kn, b⟩, hr, hh⟩ := opt_holds hh
    have e := asB_is hr (evalT_is h3 hv)
    cases kn with
    | true =>
      cases b with
      | true => exact wp_cond_true e (ihx n.core.l hn.2.1 h3 h2 hh (hQ.later h1))
      | false => exact wp_cond_false e (ihy n.core.r hn.2.2 h3 h2 hh (hQ.later h1))
    | false =>
      exact wp_cond_split e (fun hb => ihx n.core.l hn.2.1 h3 h2 (hh.1 hb) (hQ.later h1)) (fun hb => ihy n.core.r hn.2.2 h3 h2 (hh.2 hb) (hQ.later h1))
  | block id c ih =>
    intro n hn ρ s a w K Q h hl hh hQ
    simp only [execC, Out.holds_bind] at hh
    refine wp_block (ih n hn h hl hh ?_)
    intro e s' ρ' a' w' hK h1 h2 h3
    cases e with
    | normal => exact hQ _ s' ρ' a' w' hK h1 h2 h3
    | ret => exact hQ _ s' ρ' a' w' hK h1 h2 h3
    | exit i =>
      simp only at hK
      simp only [Ex.to, Exit.inBlock]
      split at hK
      · rename_i hb
        rw [if_pos (Nat.eq_of_beq_eq_true hb)]
        exact hQ _ s' ρ' a' w' hK h1 h2 h3
      · rename_i hb
        rw [if_neg (by rintro rfl; rw [Nat.beq_refl] at hb; cases hb)]
        exact hQ _ s' ρ' a' w' hK h1 h2 h3
  | loop c ih =>
    intro n hn ρ s a w K Q h hl hh hQ
    simp only [execC] at hh
    obtain ⟨s1, ρ1, hh, k1, k2, k3⟩ := pre_ok hn.1 h hl hh
    have hn2 := hn.2
    have un : (unrollT (execC P callT S u H0.nxt c .nil) u s1).holds K → (Code.loop c).wp P Q a w := by
      intro hh
      refine wp_loop_rounds u ?_
      suffices g : ∀ (m : Nat) (ρ : Rho) (s : St) (a : Act) (w : World), Inv φ ρ s a w → H0.le s.H → (unrollT (execC P callT S u H0.nxt c .nil) m s).holds K → Post φ ρ H0 K Q → Code.rounds P c Q m a w from g u ρ1 s1 a w k3 k2 hh (hQ.later k1)
      intro m
      induction m with
      | zero => intro ρ s a w h hl hh hQ; exact hh.elim
      | succ m ihm =>
        intro ρ s a w h hl hh hQ
        simp only [unrollT, Out.holds_bind] at hh
        refine ih .nil (annOK_nil P c) h hl hh ?_
        intro e s' ρ' a' w' hK h1 h2 h3
        cases e with
        | normal => exact ihm ρ' s' a' w' h3 h2 hK (hQ.later h1)
        | exit i => exact hQ _ s' ρ' a' w' hK h1 h2 h3
        | ret => exact hQ _ s' ρ' a' w' hK h1 h2 h3
    split at hh
    · rename_i l hl'
      rw [hl'] at hn2
      exact hn2 φ ρ1 H0 s1 a w K Q k3 k2 hh (hQ.later k1)
    · exact un hh
  | rangeFunc => intro n _ ρ s a w K Q h hl hh hQ; exact hh.elim
  | scope => intro n _ ρ s a w K Q h hl hh hQ; exact hh.elim
  | goto => intro n _ ρ s a w K Q h hl hh hQ; exact hh.elim
  | refuse => intro n _ ρ s a w K Q h hl hh hQ; exact hh.elim

/-! ### Results -/
def resL (P : Program) (s : St) : List ResultVar → Out (List SV)
  | [] => .leaf []
  | .tmp t :: r => opt (evalT s (.tmp t)) (fun v => (resL P s r).bind fun l => .leaf (v :: l)) 305
  | .cell a t :: r => opt (evalT s (.tmp a)) (fun v => (loadT P s.H.h t v).bind fun x => (resL P s r).bind fun l => .leaf (x :: l)) 306
def toTE : SV → Option TE
  | .c x => some (.c x)
  | .a l => some (.a l)
  | .t _ => none
def toTEs : List SV → Option (List TE)
  | [] => some []
  | v :: l => match toTE v, toTEs l with
    | some x, some xs => some (x :: xs)
    | _, _ => none
theorem toTEs_is {n : Nat → Prop} {ρ : Rho} : ∀ {l : List SV} {vs : List Value} {ts : List TE}, VIs n ρ l vs → toTEs l = some ts → ∀ ρ', Agree n ρ ρ' → ts.map (TE.den ρ') = vs
  | [], [], ts, _, h, _, _ => by simp [toTEs] at h; subst h; rfl
  | [], v :: vs, ts, hv, _, _, _ => hv.elim
  | x :: l, [], ts, hv, _, _, _ => hv.elim
  | x :: l, v :: vs, ts, hv, h, ρ', ha => by
    simp only [toTEs] at h
    split at h
    · rename_i y ys h1 h2
      cases h
      have e1 := hv.1 ρ' ha
      have e2 := toTEs_is hv.2 h2 ρ' ha
      rw [List.map_cons, e2]
      congr 1
      cases x with
      | c c => simp [toTE] at h1; subst h1; exact e1
      | a l => simp [toTE] at h1; subst h1; exact e1
      | t l => simp [toTE] at h1
    · cases h
def packT : List SV → Out SV
  | [v] => .leaf v
  | l => opt (toTEs l) (fun ts => .leaf (.t ts)) 307

def rvOf (tmps : Array Value) : ResultVar → Sem Value
  | .tmp t => pure (tmps.getD t undef)
  | .cell x t => do loadVar t (← asAddr (tmps.getD x undef))
theorem results_eq (fn : Func) (tmps : Array Value) : results fn tmps = (do
    let vs ← fn.results.mapM (rvOf tmps)
    pure (if h : vs.size = 1 then vs[0] else .tuple vs)) := by
  have : (fun r => rvOf tmps r) = rvOf tmps := rfl
  unfold results
  congr 1
theorem resL_ok {P : Program} {φ : Fr} {ρ : Rho} {s : St} {a : Act} {w : World} (h : Inv φ ρ s a w) : ∀ (rs : List ResultVar) {K : List SV → Prop}, (resL P s rs).holds K →
    ∃ l vs, K l ∧ (rs.mapM (rvOf a.tmps)).run P w = .ok vs w ∧ VIs s.H.sc ρ l vs
  | [], K, hh => ⟨[], [], hh, by simp, trivial⟩
  | .tmp t :: r, K, hh => by
    simp only [resL] at hh
    obtain ⟨v, hv, hh⟩ := opt_holds hh
    rw [Out.holds_bind] at hh
    obtain ⟨l, vs, hK, hr, hl⟩ := resL_ok h r hh
    refine ⟨v :: l, a.eval (.tmp t) :: vs, hK, ?_, evalT_is h hv, hl⟩
    rw [List.mapM_cons]
    have e1 : (rvOf a.tmps (.tmp t)).run P w = .ok (a.eval (.tmp t)) w := rfl
    simp only [Sem.run_bind, Sem.run_pure, Result.andThen_ok, e1, hr]
  | .cell x t :: r, K, hh => by
    simp only [resL] at hh
    obtain ⟨v, hv, hh⟩ := opt_holds hh
    rw [Out.holds_bind] at hh
    obtain ⟨p, sv, u, e, hr0, hK, hs⟩ := loadVar_ok h.heap (evalT_is h hv) hh
    rw [Out.holds_bind] at hK
    obtain ⟨l, vs, hK, hr, hl⟩ := resL_ok h r hK
    refine ⟨sv :: l, u :: vs, hK, ?_, hs, hl⟩
    have e' : a.tmps.getD x undef = .pointer (some p) := e
    have e1 : (rvOf a.tmps (.cell x t)).run P w = .ok u w := by simp only [rvOf, e', asAddr, pure_bind, hr0]
    rw [List.mapM_cons]
    simp only [Sem.run_bind, Sem.run_pure, Result.andThen_ok, e1, hr]

theorem results_ok {P : Program} {φ : Fr} {ρ : Rho} {s : St} {a : Act} {w : World} (h : Inv φ ρ s a w) {fn : Func} {K : SV → Prop} (hh : ((resL P s fn.results.toList).bind packT).holds K) :
    ∃ sv v, K sv ∧ (results fn a.tmps).run P w = .ok v w ∧ SIs s.H.sc ρ sv v := by
  rw [Out.holds_bind] at hh
  obtain ⟨l, vs, hK, hr, hl⟩ := resL_ok h fn.results.toList hh
  have hrun : ∀ v, (if h : vs.toArray.size = 1 then vs.toArray[0] else .tuple vs.toArray) = v → (results fn a.tmps).run P w = .ok v w := by
    intro v hv
    rw [results_eq, Array.mapM_eq_mapM_toList]
    simp only [Sem.run_bind, Sem.run_map, hr, Result.andThen_ok, Sem.run_pure]
    rw [hv]
  have pk : ∀ l : List SV, l.length ≠ 1 → packT l = opt (toTEs l) (fun ts => .leaf (.t ts)) 307 := by
    intro l hl
    match l, hl with
    | [], _ => rfl
    | [_], hl => exact absurd rfl hl
    | _ :: _ :: _, _ => rfl
  have hlen : l.length = vs.length := hl.length.symm
  by_cases h1 : l.length = 1
  · match l, vs, h1, hl, hK, hrun, hlen with
    | [x], [v], _, hl, hK, hrun, _ => exact ⟨x, v, hK, hrun _ (by simp), hl.1⟩
  · rw [pk l h1] at hK
    obtain ⟨ts, hts, hK⟩ := opt_holds hK
    refine ⟨_, .tuple vs.toArray, hK, hrun _ (by rw [dif_neg (by simp; omega)]), fun ρ' ha => ?_⟩
    simp only [SV.den, toTEs_is hl hts ρ' ha]

/-! ### Blocks that nobody can reach may be forgotten -/
def Col.keys : Col → List Nat
  | .cs key .. => [key]
  | .cp key .. => [key]
  | .cf _ key .. => [key]
  | .ck l => l.flatMap SC.keys
  | .cc c => c.keys
  | .ov _ _ c col => c.keys ++ col.keys
  | _ => []
def Blk.keys : Blk → List Nat
  | .own _ _ cs => cs.flatMap fun | some c => c.keys | none => []
  | .row _ _ _ cols => cols.flatMap Col.keys
  | .view _ _ cols => cols.flatMap Col.keys
  | .fam _ _ _ _ cols => cols.flatMap Col.keys
def TE.keys : TE → List Nat
  | .c x => x.keys
  | .a l => l.flatMap SC.keys
def SV.allKeys : SV → List Nat
  | .c x => x.keys
  | .a l => l.flatMap SC.keys
  | .t l => l.flatMap TE.keys
def mark (h : HL) : Nat → List Nat → List Nat → List Nat
  | 0, todo, seen => todo ++ seen
  | _ + 1, [], seen => seen
  | n + 1, k :: todo, seen => match mem k seen with
    | true => mark h n todo seen
    | false => mark h n ((match find k h with | some b => b.keys | none => []) ++ todo) (k :: seen)
def keep (p : Nat → Bool) : HL → HL
  | [] => []
  | (k, b) :: r => match p k with
    | true => (k, b) :: keep p r
    | false => keep p r
theorem find_keep (p : Nat → Bool) (key : Nat) : ∀ h : HL, find key (keep p h) = if p key = true then find key h else none
  | [] => by simp [keep, find]
  | (k, b) :: r => by
    have ih := find_keep p key r
    simp only [keep]
    split
    · rename_i h1
      rw [find_cons, find_cons, ih]
      by_cases e : key = k
      · subst e; simp [h1]
      · simp [e]
    · rename_i h1
      rw [find_cons, ih]
      by_cases e : key = k
      · subst e; simp [h1]
      · simp [e]
def gcT (n : Nat) (sv : SV) (h : HL) : HL :=
  let old := keep (fun k => Nat.blt k n) h
  let seen := mark h 300 (sv.allKeys ++ old.flatMap fun q => q.2.keys) []
  keep (fun k => Nat.blt k n || mem k seen) h
theorem gc_ok {φ : Fr} {ρ : Rho} {H : Hp} {w : World} (h : HInv φ ρ H w) (n : Nat) (sv : SV) : HInv φ ρ ⟨gcT n sv H.h, H.nxt, H.D⟩ w :=
  h.forget fun k b hk => by
    unfold gcT at hk
    simp only [find_keep] at hk
    split at hk
    · exact hk
    · cases hk

/-! ### Functions -/
def ContractOK (P : Program) (f : FuncId) (c : List SV → Hp → Out (SV × Hp)) : Prop := ∀ (φ : Fr) (ρ : Rho) (H : Hp) (w : World) (args : List SV) (vs : List Value) (K : SV × Hp → Prop), HInv φ ρ H w → VIs H.sc ρ args vs → (c args H).holds K →
  Calls P f vs.toArray w fun e w' => ∃ v ρ' sv H', e = .returned v ∧ K (sv, H') ∧ Agree H.sc ρ ρ' ∧ H.le H' ∧ HInv φ ρ' H' w' ∧ SIs H'.sc ρ' sv v

def bodyT (P : Program) (callT : CallT) (S u : Nat) (ann : Ann) (fn : Func) (args : List SV) (H : Hp) : Out (SV × Hp) :=
  opt fn.body (fun code => (execC P callT S u H.nxt code ann ⟨args.map some ++ List.replicate (fn.ntmps - args.length) none, H⟩).bind fun r => match r.1 with
    | .exit _ => .bad 308
    | _ => ((resL P r.2 fn.results.toList).bind packT).bind fun sv => fHL (gcT H.nxt sv r.2.H.h) fun h => .leaf (sv, ⟨h, r.2.H.nxt, r.2.H.D⟩)) 309

theorem VIs.at {n : Nat → Prop} {ρ : Rho} : ∀ {l : List SV} {vs : List Value}, VIs n ρ l vs → l.length = vs.length ∧ ∀ (k : Nat) (sv : SV), l[k]? = some sv → ∃ v, vs[k]? = some v ∧ SIs n ρ sv v
  | [], [], _ => ⟨rfl, fun k sv h => by simp at h⟩
  | [], v :: vs, h => h.elim
  | x :: l, [], h => h.elim
  | x :: l, v :: vs, h => by
    obtain ⟨h1, h2⟩ := VIs.at h.2
    refine ⟨by simp [h1], fun k sv hk => ?_⟩
    cases k with
    | zero => simp at hk; subst hk; exact ⟨v, rfl, h.1⟩
    | succ k => exact h2 k sv (by simpa using hk)

theorem body_ok {P : Program} {callT : CallT} (hc : CallOK P callT) {S u : Nat} {ann : Ann} {f : FuncId} {fn : Func} (hf : P.funcs[f]? = some fn) (ha : ∀ code, fn.body = some code → AnnOK P code ann) : ContractOK P f (bodyT P callT S u ann fn) := by
  intro φ ρ H w args vs K h hv hh
  unfold bodyT at hh
  obtain ⟨code, hcode, hh⟩ := opt_holds hh
  rw [Out.holds_bind] at hh
  obtain ⟨hlen, hget⟩ := hv.at
  refine calls_of_wp hf hcode ?_
  refine execC_ok hc code ann (ha code hcode) (ρ := ρ) (φ := φ) (s := ⟨args.map some ++ List.replicate (fn.ntmps - args.length) none, H⟩) ⟨h, rfl, by simp [hlen], ?_⟩ (.refl H) hh ?_
  · intro k sv hk
    rcases Nat.lt_or_ge k args.length with hlt | hge
    · rw [List.getElem?_append_left (by simpa using hlt)] at hk
      simp only [List.getElem?_map, Option.map_eq_some_iff] at hk
      obtain ⟨x, hx, hx2⟩ := hk
      cases hx2
      obtain ⟨v, hv1, hv2⟩ := hget k _ hx
      refine ⟨v, ?_, hv2⟩
      rw [Array.getElem?_append_left (by simp; omega)]
      simpa using hv1
    · rw [List.getElem?_append_right (by simpa using hge)] at hk
      simp only [List.getElem?_replicate] at hk
      split at hk <;> cases hk
  · intro e s' ρ' a' w' hK h1 h2 h3
    have fin : (((resL P s' fn.results.toList).bind packT).bind fun sv => Out.leaf (sv, (⟨gcT H.nxt sv s'.H.h, s'.H.nxt, s'.H.D⟩ : Hp))).holds K → a'.defers = [] ∧ ∃ v, (results fn a'.tmps).run P w' = .ok v w' ∧
        ∃ v_1 ρ' sv H', Ending.returned v = .returned v_1 ∧ K (sv, H') ∧ Agree H.sc ρ ρ' ∧ H.le H' ∧ HInv φ ρ' H' w' ∧ SIs H'.sc ρ' sv v_1 := by
      intro hh
      rw [Out.holds_bind] at hh
      obtain ⟨sv, v, hK, hr, hs⟩ := results_ok h3 hh
      exact ⟨h3.defers, v, hr, v, ρ', sv, _, rfl, hK, h1, ⟨h2.nxt, h2.D⟩, gc_ok h3.heap _ _, hs⟩
    simp only [fHL_eq] at hK
    cases e with
    | normal => exact fin hK
    | exit i => exact hK.elim
    | ret => exact fin hK

def stride : Nat → Nat
  | 0 => 8
  | n + 1 => 4096 * stride n
def execF (P : Program) (con : FuncId → Option (List SV → Hp → Out (SV × Hp))) (ann : FuncId → Ann) (u : Nat) : Nat → CallT
  | 0, _, _, _ => .bad 310
  | n + 1, f, args, H => fVs args fun args => fHp H fun H => match con f with
    | some c => c args H
    | none => opt (P.funcs[f]?) (fun fn => bodyT P (execF P con ann u n) (stride n) u (ann f) fn args H) 311

theorem execF_ok {P : Program} {con : FuncId → Option (List SV → Hp → Out (SV × Hp))} {ann : FuncId → Ann} {u : Nat} (hcon : ∀ f c, con f = some c → ContractOK P f c) (hann : ∀ f fn code, P.funcs[f]? = some fn → fn.body = some code → AnnOK P code (ann f)) :
    ∀ n, CallOK P (execF P con ann u n)
  | 0 => fun _ _ _ _ _ _ _ _ _ _ hh => hh.elim
  | n + 1 => by
    intro φ ρ H w f args vs K h hv hh
    simp only [execF, fVs_eq, fHp_eq] at hh
    split at hh
    · rename_i c hc
      exact hcon f c hc φ ρ H w args vs K h hv hh
    · obtain ⟨fn, hfn, hh⟩ := opt_holds hh
      exact body_ok (execF_ok hcon hann n) hfn (hann f fn · hfn) φ ρ H w args vs K h hv hh

/-- With no loop but those that can be unrolled. -/
theorem execF_ok0 {P : Program} {con : FuncId → Option (List SV → Hp → Out (SV × Hp))} {u : Nat} (hcon : ∀ f c, con f = some c → ContractOK P f c) (n : Nat) : CallOK P (execF P con (fun _ => .nil) u n) :=
  execF_ok hcon (fun _ _ code _ _ => annOK_nil P code) n
end Go.Proofs.Ytjpnpaboahbncaa.Sx
