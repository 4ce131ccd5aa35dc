/- Insert and Remove of the injector, alone: the contracts. -/
import Derived.Test.YtomaagmleafjeaaGreatMMdIn
import Derived.Test.YtomaagmleafjeaaGreatMMdRmD
import Derived.Test.YtomaagmleafjeaaGreatMW
import Derived.Test.YtomaagmleafjeaaGreatMMdIn
import Derived.Test.YtomaagmleafjeaaGreatMMdAlB
set_option linter.unusedVariables false
set_option linter.unusedSimpArgs false
set_option linter.unusedVariables false
set_option linter.unusedSimpArgs false
set_option maxRecDepth 100000
namespace Go.Proofs.YtomaagmleafjeaaGreat.Md
open Go Go.RowKit Sx Cn Dc Ck Vc
noncomputable def hI4 (y : Ly) (len cap : NV) (m : Mm) (b : Blk) : HL := [(0, envH y 1), (1, .own 75 6 ([.slc 2 (.k 0) (.k 0) 1 len cap, i6 m.lk, i6 m.lc, uw m.lo, uw m.ln, i6 m.ct].map some)), (2, .row 48 cap.v len.v [.ci .u64 fun _ e => m.g e]), (3, b)]
theorem hI4_e {y : Ly} {len cap : NV} {m : Mm} {b : Blk} : HLE (hI4 y len cap m b) (hI4 y (.s len.v) (.s cap.v) m b) :=
  ⟨⟨rfl, BlkE.refl _⟩, ⟨rfl, rfl, rfl, (fun _ => rfl : SCe _ _), fun _ => rfl, fun _ => rfl, fun _ => rfl, fun _ => rfl, fun _ => rfl, trivial⟩, ⟨rfl, rfl, rfl, rfl, ColE.refl _, trivial⟩, ⟨rfl, BlkE.refl _⟩, trivial⟩
theorem in_nv {f : FuncId} {args : List SV} {y : Ly} {len cap : NV} {m : Mm} {b : Blk} {p : Prop} {R : Rs} (h : LocalOK P f args (hIn y (.s len.v) (.s cap.v) m ++ [(3, b)]) 4 (outAl (.s len.v) (.s cap.v) p R)) : LocalOK P f args (hIn y len cap m ++ [(3, b)]) 4 (outAl len cap p R) :=
  (LocalOK.preE (h0 := hIn y len cap m ++ [(3, b)]) h hI4_e).same fun K hK =>
    ⟨hK.1, ⟨R, rfl⟩, fun r hr => ⟨svRs r, hRs len cap r, SVe.refl _, ⟨⟨rfl, rfl, rfl, (fun _ => rfl : SCe _ _), fun _ => rfl, fun _ => rfl, fun _ => rfl, fun _ => rfl, fun _ => rfl, trivial⟩, ⟨rfl, rfl, rfl, rfl, ColE.refl _, trivial⟩, trivial⟩, hK.2.2 r hr⟩⟩
noncomputable section
def pIJ (x : AP) (M : Nat) : Prop := (0 ≤ x.y.H ∧ x.y.H ≤ 1000) ∧ M ≤ 1000
def kIns (x : AP) (kx M : Nat) (σ : List Nat) (h : HL) : List SV → Hp → Out (SV × Hp) := match cellI kx 3 h, cellI kx 4 h with
  | some d, some t => useP σ 4 (argsAl tIns 10 M) (hIn x.y x.len x.cap x.m ++ [(3, mIn0 d t)]) (outAl x.len x.cap (pIJ x M) (inR x.y x.len.v d t M x.m))
  | _, _ => fun _ _ => .bad 490
theorem kIns_ok (x : AP) (kx M : Nat) (σ : List Nat) (h : HL) (args : List SV) (H : Hp) : (∃ n, kIns x kx M σ h args H = .bad n) ∨ ∃ σ' n args0 h0 post, kIns x kx M σ h args H = useP σ' n args0 h0 post args H ∧ LocalOK P fAl args0 h0 n post := by
  unfold kIns
  rcases cellI kx 3 h with _ | d
  · exact .inl ⟨_, rfl⟩
  rcases cellI kx 4 h with _ | t
  · exact .inl ⟨_, rfl⟩
  · exact .inr ⟨_, _, _, _, _, rfl, in_nv (local_of_ver conIJ_ok fun h => vhIn h.1 h.2)⟩
end
end Go.Proofs.YtomaagmleafjeaaGreat.Md
