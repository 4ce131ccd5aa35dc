/- InjectorHeaps: the law: what is asked. -/
import Derived.Test.YtomaagmleafjeaaMMdAw16
import Derived.Test.YtomaagmleafjeaaMMdEd
import Derived.Test.YtomaagmleafjeaaMMdSl
import Derived.Test.YtomaagmleafjeaaMMdRk
import Derived.Test.YtomaagmleafjeaaMMdWk
set_option linter.unusedVariables false
set_option linter.unusedSimpArgs false
set_option linter.unusedVariables false
set_option maxRecDepth 100000
namespace Go.Proofs.Ytomaagmleafjeaa.Md
open Go Go.RowKit Sx Cn Dc Ck Vc
/-- Round, how many keys were counted; the list: length, room, contents; memory, events. -/
structure XIh where
  i : Nat
  q : Nat
  n : Nat
  cp : Nat
  a : Nat → Int
  m : Mm
  l : El
  nc : Nat
noncomputable section
abbrev hIh (b : Int) : Int := IntKind.i64.wrap (1 + IntKind.i64.wrap (b.tmod (Int.ofNat 12)))
/-- The configuration, as it is printed. -/
abbrev cfgIh (b : Int) (x : Nat × Nat × (Nat → Nat)) : Cf := Cf.mk (Int.ofNat 1) (Int.ofNat 1) (Int.ofNat 1) (Int.ofNat 256) (Int.ofNat 1) (IntKind.i64.wrap (Int.ofNat 1 + IntKind.i64.wrap (b.tmod (Int.ofNat 12)))) (Int.ofNat 1) (Int.ofNat 0) (Int.ofNat 1) 1 x.fst 0 x.snd.fst (fun (e : Nat) => 0) (fun (e : Nat) => x.snd.snd e) (fun (i e : Nat) => cO (fun (x : Nat) => Int.ofNat 0) 0 i e) (fun (i e : Nat) => cA (fun (x : Nat) => Int.ofNat 0) 0 i e) (fun (i e : Nat) => cB (fun (x : Nat) => Int.ofNat 0) 0 i e) (fun (e : Nat) => uP (fun (x : Nat) => Int.ofNat 0) 0 e) (fun (e : Nat) => uL (fun (x : Nat) => Int.ofNat 0) 0 e) fun (e : Nat) => uD (fun (x : Nat) => Int.ofNat 0) 0 e
def okIh (H : Int) (len : Nat) (x : XIh) : Prop := x.i ≤ len ∧ x.q ≤ x.i ∧ (x.n : Int) ≤ H ∧ x.n ≤ x.cp ∧ x.m.g 2 = x.n ∧ x.m.g 3 = x.q ∧ (∀ j, j < x.n → x.a j = x.m.g (4 + j)) ∧ (∀ j, j < x.n → 0 ≤ x.a j ∧ x.a j ≤ 18446744073709551615) ∧ x.l.n ≤ x.i ∧ x.l.n ≤ x.nc
def rdIh (s : St) : Option XIh := match tmI 10 s, tmI 9 s, find (tkey 8 s) s.H.h, rowG (tkey 8 s) s.H.h, rdMm s.H.h (envM 6 s), rdEl 6 s with
  | some i, some q, some (.row _ cp n _), some a, some x, some (e, nc) => some ⟨i.toNat, q.toNat, n, cp, a, x.m, e, nc⟩
  | _, _, _, _, _, _ => none
def laIh (H : Int) (len : Nat) (s : St) : Option (LA XIh) := match memBs 6 s, find (tmK 6 s) s.H.h with
  | some mb, some (.own t sz cs) => fN (envE 6 s) fun ke => some ⟨[(envM 6, true), (envC 6, true), (tmK 6, true), (envE 6, false), (tkey 8, false)],
      fun x => mb x.m ++ [.own t sz (wkE cs ke x.l.n x.nc), .row 80 x.nc x.l.n x.l.v.cols, .row 58 x.cp x.n [.ci .u64 fun _ e => x.a e]],
      [10, 9, 8], fun x => [.c (i6 x.i), .c (i6 x.q), .c (.slc (tkey 8 s) (.k 0) (.k 0) 1 (.s x.n) (.s x.cp))], rdIh, okIh H len, fun x => len - x.i⟩
  | _, _ => none
def conIh : Con := Con.add 50 conYes (Con.add fAl cAlI (Con.add fEP cEP (Con.add fEO cEO (Con.add fSl cSl (Con.add fSm cSm (Con.add fRP cRP (Con.add fRU cRU (conN conWN))))))))
theorem conIh_ok : ConOK P conIh := .add aw16_ok (.add cAlI_ok (.add cEP_ok (.add cEO_ok (.add cSl_ok (.add cSm_ok (.add cRP_ok (.add cRU_ok (conN_ok conWN_ok))))))))
def verIh (b : Int) (g : Nat → Int) (len cap : Nat) : V := verF P conIh 12 12 10 [(26, .nilTmpO 8 58 1 [.ci .u64 fun _ _ => 0])] (.loop XIh [gEv 6, .nilTmp 8 58 1 [.ci .u64 fun _ _ => 0]] (laIh (hIh b) len) .nil .nil) [.c (.iv .u8 b), .c (slK 0 1 len cap)] ⟨[(0, ints .u16 len g)], 1, fun _ => True⟩ yesV
end
end Go.Proofs.Ytomaagmleafjeaa.Md
