/- Walk alone over a chain of tasks: the contract. -/
import Derived.Test.YtomaagmleafjeaaMMdBc
import Derived.Test.YtomaagmleafjeaaMMdAlB
set_option linter.unusedVariables false
set_option linter.unusedSimpArgs false
set_option linter.unusedVariables false
set_option linter.unusedSimpArgs false
set_option maxRecDepth 100000
namespace Go.Proofs.Ytomaagmleafjeaa.Md
open Go Go.RowKit Sx Cn Dc Ck Vc
def preBc (n : Nat) (t lv : Int) (bf : Nat → Int) (rd : Bool) (m : Mm) (l : El) (nc : Nat) : Prop := t = 0 ∧ (1 ≤ n ∧ n ≤ 8) ∧ (0 ≤ lv ∧ lv < 3) ∧ (∀ u, 0 ≤ bf u ∧ bf u < 3) ∧ BcM n lv bf rd 0 m l nc ∧ dqE m
noncomputable section
def hBe (r : Re) (nc : Nat) : HL := (0, envB 5 r.l.n nc) :: (memB r.m ++ [(5, .row 80 nc r.l.n r.l.v.cols)])
def outBc (n : Nat) (t lv : Int) (bf : Nat → Int) (rd : Bool) (m : Mm) (l : El) (nc : Nat) : Out (SV × Hp) := .need (preBc n t lv bf rd m l nc) (.any (Re × Nat) (φBc n lv bf rd) fun r => .leaf (svRe r.1, ⟨hBe r.1 r.2, 6, fun _ => True⟩))
def kBc (n : Nat) (bf : Nat → Int) (rd : Bool) (ke kx : Nat) (h : HL) : List SV → Hp → Out (SV × Hp) := match cellI kx 4 h, cellI kx 5 h, bCell ke 25 h with
  | some t, some lv, some (.slc kv _ _ _ ne nc) => fN kv fun kv => fN (scK (bCell ke 22 h)) fun km => match rdEv kv h, rdMm h km with
    | some ev, some x => fN x.kc fun kc => useP [ke, km, kc, kx, kv] 5 (argsAl tWk 8 200) (hBc t lv x.m ⟨ne.v, ev⟩ nc.v) (outBc n t lv bf rd x.m ⟨ne.v, ev⟩ nc.v)
    | _, _ => fun _ _ => .bad 494
  | _, _, _ => fun _ _ => .bad 490
def cAlW (n : Nat) (bf : Nat → Int) (rd : Bool) : List SV → Hp → Out (SV × Hp) := fun args H => match args with
  | [.c (.ptr ke _ _ _ _), .c (.ifc t kx _ _ _ _), .c (.ki .i64 200)] => fN ke fun ke => fN kx fun kx => match Nat.beq t tWk with
    | true => kBc n bf rd ke kx H.h args H
    | false => .bad 491
  | _ => .bad 493
theorem bc_local {n : Nat} {t lv : Int} {bf : Nat → Int} {rd : Bool} {m : Mm} {l : El} {nc : Nat} : LocalOK P fAl (argsAl tWk 8 200) (hBc t lv m l nc) 5 (outBc n t lv bf rd m l nc) :=
  local_of_ver conNL_ok fun h => by
    obtain ⟨rfl, hn, hl, hb, hM, hE⟩ := h
    exact vhBc hn hl hb hM hE
theorem kBc_ok (n : Nat) (bf : Nat → Int) (rd : Bool) (ke kx : Nat) (h : HL) (args : List SV) (H : Hp) : (∃ k, kBc n bf rd ke kx h args H = .bad k) ∨ ∃ σ' k args0 h0 post, kBc n bf rd ke kx h args H = useP σ' k args0 h0 post args H ∧ LocalOK P fAl args0 h0 k post := by
  unfold kBc
  rcases cellI kx 4 h with _ | t
  · exact .inl ⟨_, rfl⟩
  rcases cellI kx 5 h with _ | lv
  · exact .inl ⟨_, rfl⟩
  rcases bCell ke 25 h with _ | c
  · exact .inl ⟨_, rfl⟩
  cases c with
  | slc kv i e sz ne nc =>
    simp only [fN_eq]
    rcases rdEv kv h with _ | ev
    · exact .inl ⟨_, rfl⟩
    rcases rdMm h (scK (bCell ke 22 h)) with _ | x
    · exact .inl ⟨_, rfl⟩
    · exact .inr ⟨_, _, _, _, _, rfl, bc_local⟩
  | _ => exact .inl ⟨_, rfl⟩
theorem cAlW_ok (n : Nat) (bf : Nat → Int) (rd : Bool) : ContractOK P fAl (cAlW n bf rd) := contract_of_useP fun args H => by
  unfold cAlW
  simp only [fN_eq]
  repeat' split
  all_goals first
    | exact .inl ⟨_, rfl⟩
    | exact kBc_ok _ _ _ _ _ _ _ _
end
/-- There is a memory that Walk leaves. -/
theorem ex_bc {n : Nat} {lv : Int} {bf : Nat → Int} {rd : Bool} {m : Mm} {l : El} {nc : Nat} (hn : 1 ≤ n ∧ n ≤ 8) (hl : 0 ≤ lv ∧ lv < 3) (hb : ∀ u, 0 ≤ bf u ∧ bf u < 3) (hM : BcM n lv bf rd 0 m l nc) (hE : dqE m) : ∃ r : Re × Nat, φBc n lv bf rd r := by
  let up : Mm → Mm := fun M => ⟨fun e => if 26 ≤ e ∧ (e - 26) % 5 = 1 ∧ (e - 26) / 5 < n then max lv (bf ((e - 26) / 5)) else M.g e, 0, 0, 0, 0, 0⟩
  have h1 : ∀ M : Mm, ∀ u, u < n → (up M).g (cb u 1) = max lv (bf u) := fun M u hu => by
    dsimp only [up]
    have e : (cb u 1 - 26) / 5 = u := by unfold cb; omega
    rw [if_pos ⟨by unfold cb; omega, by unfold cb; omega, by omega⟩, e]
  have h2 : ∀ M : Mm, ∀ e, (e < 26 ∨ (e - 26) % 5 ≠ 1 ∨ n ≤ (e - 26) / 5) → (up M).g e = M.g e := fun M e he => by
    dsimp only [up]
    rw [if_neg (by omega)]
  have hB : ∀ M : Mm, (∀ e, 26 ≤ e → M.g e = m.g e) → (∀ e, 0 ≤ M.g e ∧ M.g e ≤ 18446744073709551615) → BcM n lv bf rd n (up M) ⟨rais lv bf n, l.v⟩ (rais lv bf n) := fun M hg ho =>
    ⟨Nat.le_refl _, h1 M, fun u hu h8 => by rw [h2 M _ (by unfold cb; omega), hg _ (by unfold cb; omega)]; exact hM.dn u (by omega) h8,
      fun u hu => by rw [h2 M _ (by unfold cb; omega), hg _ (by unfold cb; omega)]; exact hM.st u hu,
      fun u hu => by rw [h2 M _ (by unfold cb; omega), hg _ (by unfold cb; omega)]; exact hM.wt u hu, rfl, Nat.le_refl _, fun e => by
        dsimp only [up]
        split
        · have := hb ((e - 26) / 5); omega
        · exact ho e⟩
  by_cases h : rd = true ∧ bf (n - 1) < lv
  · have hg : ∀ e, 0 ≤ (if e = db lv 1 then 1 else if e = db lv 2 then ((n - 1 : Nat) : Int) else m.g e) ∧ (if e = db lv 1 then 1 else if e = db lv 2 then ((n - 1 : Nat) : Int) else m.g e) ≤ 18446744073709551615 := fun e => by
      have := hM.ok e
      split
      · omega
      · split <;> omega
    refine ⟨(⟨0, 0, 0, up ⟨fun e => if e = db lv 1 then 1 else if e = db lv 2 then ((n - 1 : Nat) : Int) else m.g e, 0, 0, 0, 0, 0⟩, ⟨rais lv bf n, l.v⟩⟩, rais lv bf n), rfl, hB _ (fun e he => ?_) hg, ?_⟩
    · dsimp only
      rw [if_neg (by unfold db; omega), if_neg (by unfold db; omega)]
    · rw [if_pos h]
      refine ⟨?_, ?_, ?_, fun v v0 v3 hv => ⟨?_, ?_⟩⟩
      · dsimp only; rw [h2 _ _ (by unfold db; omega)]; dsimp only; rw [if_neg (by unfold db; omega), if_neg (by unfold db; omega)]; exact hE _ (by unfold db; omega) (by unfold db; omega)
      · dsimp only; rw [h2 _ _ (by unfold db; omega)]; dsimp only; rw [if_pos rfl]
      · dsimp only; rw [h2 _ _ (by unfold db; omega)]; dsimp only; rw [if_neg (by unfold db; omega), if_pos rfl]
      · dsimp only; rw [h2 _ _ (by unfold db; omega)]; dsimp only; rw [if_neg (by unfold db; omega), if_neg (by unfold db; omega)]; exact hE _ (by unfold db; omega) (by unfold db; omega)
      · dsimp only; rw [h2 _ _ (by unfold db; omega)]; dsimp only; rw [if_neg (by unfold db; omega), if_neg (by unfold db; omega)]; exact hE _ (by unfold db; omega) (by unfold db; omega)
  · refine ⟨(⟨0, 0, 0, up m, ⟨rais lv bf n, l.v⟩⟩, rais lv bf n), rfl, hB m (fun e _ => rfl) hM.ok, ?_⟩
    rw [if_neg h]
    intro e h8 h26
    dsimp only
    rw [h2 _ _ (by omega)]
    exact hE e h8 h26
end Go.Proofs.Ytomaagmleafjeaa.Md
