/- Insert and Remove of the injector, alone: the contracts. -/
import Derived.Test.YtdcllkdadffnaaaGreatMMdIn
import Derived.Test.YtdcllkdadffnaaaGreatMMdRm
import Derived.Test.YtdcllkdadffnaaaGreatMMdAlB
set_option linter.unusedVariables false
set_option linter.unusedSimpArgs false
set_option maxRecDepth 100000
namespace Go.Proofs.YtdcllkdadffnaaaGreat.Md
open Go Go.RowKit Sx Cn Dc Ck Vc
noncomputable def hI4 (y:Ly) (len cap:NV) (m:Mm) (b:Blk):HL:=[(0,envH y 1),(1,.own 114 6 ([.slc 2 (.k 0) (.k 0) 1 len cap,i6 m.lk,i6 m.lc,uw m.lo,uw m.ln,i6 m.ct].map some)),(2,.row 45 cap.v len.v [.ci .u64 fun _ e=>m.g e]),(3,b)]
theorem hI4_e {y:Ly} {len cap:NV} {m:Mm} {b:Blk}:HLE (hI4 y len cap m b) (hI4 y (.s len.v) (.s cap.v) m b):=
 ⟨⟨rfl,BlkE.refl _⟩,⟨rfl,rfl,rfl,(fun _=>rfl:SCe _ _),fun _=>rfl,fun _=>rfl,fun _=>rfl,fun _=>rfl,fun _=>rfl,trivial⟩,⟨rfl,rfl,rfl,rfl,ColE.refl _,trivial⟩,⟨rfl,BlkE.refl _⟩,trivial⟩
theorem in_nv {f:FuncId} {args:List SV} {y:Ly} {len cap:NV} {m:Mm} {b:Blk} {p:Prop} {R:Rs} (h:zah P f args (hIn y (.s len.v) (.s cap.v) m++[(3,b)]) 4 (outAl (.s len.v) (.s cap.v) p R)):zah P f args (hIn y len cap m++[(3,b)]) 4 (outAl len cap p R):=
 (zah.preE (h0:=hIn y len cap m++[(3,b)]) h hI4_e).same fun K hK=>
  ⟨hK.1,⟨R,rfl⟩,fun r hr=>⟨svRs r,hRs len cap r,SVe.refl _,⟨⟨rfl,rfl,rfl,(fun _=>rfl:SCe _ _),fun _=>rfl,fun _=>rfl,fun _=>rfl,fun _=>rfl,fun _=>rfl,trivial⟩,⟨rfl,rfl,rfl,rfl,ColE.refl _,trivial⟩,trivial⟩,hK.2.2 r hr⟩⟩
noncomputable section
def hR5 (y:Ly) (len cap:NV) (m:Mm) (l:El) (nc:Nat) (b:Blk):HL:=[(0,envO y 1 4 l.n nc),(1,.own 114 6 ([.slc 2 (.k 0) (.k 0) 1 len cap,i6 m.lk,i6 m.lc,uw m.lo,uw m.ln,i6 m.ct].map some)),(2,.row 45 cap.v len.v [.ci .u64 fun _ e=>m.g e]),(4,.row 155 nc l.n l.v.cols),(3,b)]
theorem hR5_e {y:Ly} {len cap:NV} {m:Mm} {l:El} {nc:Nat} {b:Blk}:HLE (hR5 y len cap m l nc b) (hR5 y (.s len.v) (.s cap.v) m l nc b):=
 ⟨⟨rfl,BlkE.refl _⟩,⟨rfl,rfl,rfl,(fun _=>rfl:SCe _ _),fun _=>rfl,fun _=>rfl,fun _=>rfl,fun _=>rfl,fun _=>rfl,trivial⟩,⟨rfl,rfl,rfl,rfl,ColE.refl _,trivial⟩,⟨rfl,BlkE.refl _⟩,⟨rfl,BlkE.refl _⟩,trivial⟩
def outRe (y:Ly) (len cap:NV) (p:Prop) (R:Re):Out (SV×Hp):=.need p (.any (Re×Nat) (fun r=>r.1=R/\R.l.n<=r.2) fun r=>.leaf (svRe r.1,⟨hRe y len cap r.1 r.2,6,fun _=>True⟩))
theorem rm_nv {f:FuncId} {args:List SV} {y:Ly} {len cap:NV} {m:Mm} {l:El} {nc:Nat} {b:Blk} {p:Prop} {R:Re} (h:zah P f args (hRm y (.s len.v) (.s cap.v) m l nc++[(3,b)]) 5 (outRe y (.s len.v) (.s cap.v) p R)):zah P f args (hRm y len cap m l nc++[(3,b)]) 5 (outRe y len cap p R):=
 (zah.preE (h0:=hRm y len cap m l nc++[(3,b)]) h hR5_e).same fun K hK=>
  ⟨hK.1,⟨(R,R.l.n),rfl,Nat.le_refl _⟩,fun r hr=>⟨svRe r.1,hRe y len cap r.1 r.2,SVe.refl _,⟨⟨rfl,BlkE.refl _⟩,⟨rfl,rfl,rfl,(fun _=>rfl:SCe _ _),fun _=>rfl,fun _=>rfl,fun _=>rfl,fun _=>rfl,fun _=>rfl,trivial⟩,⟨rfl,rfl,rfl,rfl,ColE.refl _,trivial⟩,⟨rfl,BlkE.refl _⟩,trivial⟩,hK.2.2 r hr⟩⟩
def pIJ (x:AP) (M:Nat):Prop:=(0<=x.y.H/\x.y.H<=1000)/\M<=1000
def kIns (x:AP) (kx M:Nat) (σ:List Nat) (h:HL):List SV->Hp->Out (SV×Hp):=match zb0 kx 3 h,zb0 kx 4 h with
 | some d,some t=>useP σ 4 (argsAl tIns 10 M) (hIn x.y x.len x.cap x.m++[(3,mIn0 d t)]) (outAl x.len x.cap (pIJ x M) (inR x.y x.len.v d t M x.m))
 | _,_=>fun _ _=>.bad 490
def kRem (x:AP) (ke kx M:Nat) (h:HL):List SV->Hp->Out (SV×Hp):=match zb0 kx 3 h,zay ke 25 h with
 | some w,some (.slc kv _ _ _ ne nc)=>fN kv fun kv=>match rdEv kv h with
  | some ev=>useP [ke,x.km,x.kc,kx,kv] 5 (argsAl tRem 11 M) (hRm x.y x.len x.cap x.m ⟨ne.v,ev⟩ nc.v++[(3,mRm0 w)]) (outRe x.y x.len x.cap (pIJ x M/\ne.v<=nc.v/\ne.v<=1000) (rmR x.y x.len.v w M x.m ⟨ne.v,ev⟩))
  | none=>fun _ _=>.bad 494
 | _,_=>fun _ _=>.bad 490
def cAlI:List SV->Hp->Out (SV×Hp):=fun args H=>match args with
 | [.c (.ptr ke _ _ _ _),.c (.ifc t kx _ _ _ _),.c (.ki .i64 mo)]=>fN ke fun ke=>fN kx fun kx=>fN mo.toNat fun M=>match rdAP ke H.h with
  | some x=>match Nat.beq t tIns with
   | true=>kIns x kx M [ke,x.km,x.kc,kx] H.h args H
   | false=>match Nat.beq t tRem with
    | true=>kRem x ke kx M H.h args H
    | false=>.bad 491
  | none=>.bad 492
 | _=>.bad 493
theorem kIns_ok (x:AP) (kx M:Nat) (σ:List Nat) (h:HL) (args:List SV) (H:Hp):(∃ n,kIns x kx M σ h args H=.bad n)\/∃ σ' n args0 h0 post,kIns x kx M σ h args H=useP σ' n args0 h0 post args H/\zah P fAl args0 h0 n post:=by
 unfold kIns
 rcases zb0 kx 3 h with _ | d
 ·exact .inl ⟨_,rfl⟩
 rcases zb0 kx 4 h with _ | t
 ·exact .inl ⟨_,rfl⟩
 ·exact .inr ⟨_,_,_,_,_,rfl,in_nv (zad conIJ_ok fun h=>vhIn h.1 h.2)⟩
theorem kRem_ok (x:AP) (ke kx M:Nat) (h:HL) (args:List SV) (H:Hp):(∃ n,kRem x ke kx M h args H=.bad n)\/∃ σ' n args0 h0 post,kRem x ke kx M h args H=useP σ' n args0 h0 post args H/\zah P fAl args0 h0 n post:=by
 unfold kRem
 rcases zb0 kx 3 h with _ | w
 ·exact .inl ⟨_,rfl⟩
 rcases zay ke 25 h with _ | c
 ·exact .inl ⟨_,rfl⟩
 cases c with
 | slc kv i e sz ne nc=>
  simp only [fN_eq]
  rcases rdEv kv h with _ | ev
  ·exact .inl ⟨_,rfl⟩
  ·exact .inr ⟨_,_,_,_,_,rfl,rm_nv (zad conIJ_ok fun h=>vhRm h.1.1 h.1.2 h.2)⟩
 | _=>exact .inl ⟨_,rfl⟩
theorem cAlI_ok:zab P fAl cAlI:=zac fun args H=>by
 unfold cAlI
 simp only [fN_eq]
 repeat' split
 all_goals first
  | exact .inl ⟨_,rfl⟩
  | exact kIns_ok _ _ _ _ _ _ _
  | exact kRem_ok _ _ _ _ _ _ _
end
end Go.Proofs.YtdcllkdadffnaaaGreat.Md
