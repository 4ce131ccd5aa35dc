/- Machines that run alone: the contract of Alone. -/
import Derived.Test.YtomaagmleafjeaaMMdPu
import Derived.Test.YtomaagmleafjeaaMMdAlB
set_option linter.unusedVariables false
set_option linter.unusedSimpArgs false
set_option maxRecDepth 100000
namespace Go.Proofs.Ytomaagmleafjeaa.Md
open Go Go.RowKit Sx Cn Dc Ck Vc
noncomputable def hA4 (y : Ly) (len cap : NV) (m : Mm) (b : Blk) : HL := [(0, envV y 1), (1, .own 141 6 ([.slc 2 (.k 0) (.k 0) 1 len cap, i6 m.lk, i6 m.lc, uw m.lo, uw m.ln, i6 m.ct].map some)), (2, .row 58 cap.v len.v [.ci .u64 fun _ e => m.g e]), (3, b)]
theorem hA4_e {y : Ly} {len cap : NV} {m : Mm} {b : Blk} : HLE (hA4 y len cap m b) (hA4 y (.s len.v) (.s cap.v) m b) :=
  ⟨⟨rfl, BlkE.refl _⟩, ⟨rfl, rfl, rfl, (fun _ => rfl : SCe _ _), fun _ => rfl, fun _ => rfl, fun _ => rfl, fun _ => rfl, fun _ => rfl, trivial⟩, ⟨rfl, rfl, rfl, rfl, ColE.refl _, trivial⟩, ⟨rfl, BlkE.refl _⟩, trivial⟩
theorem al_nv {f : FuncId} {args : List SV} {y : Ly} {len cap : NV} {m : Mm} {b : Blk} {p : Prop} {R : Rs} (h : LocalOK P f args (hAl y (.s len.v) (.s cap.v) m ++ [(3, b)]) 4 (outAl (.s len.v) (.s cap.v) p R)) : LocalOK P f args (hAl y len cap m ++ [(3, b)]) 4 (outAl len cap p R) :=
  (LocalOK.preE (h0 := hAl y len cap m ++ [(3, b)]) h hA4_e).same fun K hK =>
    ⟨hK.1, ⟨R, rfl⟩, fun r hr => ⟨svRs r, hRs len cap r, SVe.refl _, ⟨⟨rfl, rfl, rfl, (fun _ => rfl : SCe _ _), fun _ => rfl, fun _ => rfl, fun _ => rfl, fun _ => rfl, fun _ => rfl, trivial⟩, ⟨rfl, rfl, rfl, rfl, ColE.refl _, trivial⟩, trivial⟩, hK.2.2 r hr⟩⟩
noncomputable section
def pPu (x : AP) (w : Int) (M : Nat) : Prop := (x.y.small ∧ okAtT w x.y.W x.y.bm 1) ∧ M ≤ 1000
def kPu (x : AP) (kx M : Nat) (σ : List Nat) (h : HL) : List SV → Hp → Out (SV × Hp) := match cellI kx 3 h, cellI kx 4 h, cellI kx 5 h with
  | some w, some l, some v => useP σ 4 (argsAl tPush 8 M) (hAl x.y x.len x.cap x.m ++ [(3, mPu w l v (.ki .i64 1) .nilI)]) (outAl x.len x.cap (pPu x w M) (puR x.y x.len.v w l v M x.m))
  | _, _, _ => fun _ _ => .bad 490
theorem kPu_ok (x : AP) (kx M : Nat) (σ : List Nat) (h : HL) (args : List SV) (H : Hp) : (∃ n, kPu x kx M σ h args H = .bad n) ∨ ∃ σ' n args0 h0 post, kPu x kx M σ h args H = useP σ' n args0 h0 post args H ∧ LocalOK P fAl args0 h0 n post := by
  unfold kPu
  rcases cellI kx 3 h with _ | w
  · exact .inl ⟨_, rfl⟩
  rcases cellI kx 4 h with _ | l
  · exact .inl ⟨_, rfl⟩
  rcases cellI kx 5 h with _ | v
  · exact .inl ⟨_, rfl⟩
  · exact .inr ⟨_, _, _, _, _, rfl, al_nv (local_of_ver conTA_ok fun h => vhPu h.1.1 h.1.2 h.2)⟩
end
end Go.Proofs.Ytomaagmleafjeaa.Md
