/- A part of the proof. -/
import Derived.Test.YtabiechfpefjhaaGreatMDraw
import Derived.LoopN
import Derived.Deep.LoopGhost
import Derived.IntWalk
import Derived.ProofKit
import Derived.OpenShut
import Derived.ChangeOld
import Derived.Below
import Derived.ChangeSlices
set_option linter.unusedVariables false
set_option linter.unusedSimpArgs false
open Nat renaming le_refl -> Z, eq_of_beq_eq_true -> zq, beq -> zu, lt_irrefl -> zr
open Bool renaming and_eq_true -> zx
open Option.some renaming injEq -> z0
namespace Go.Proofs.YtabiechfpefjhaaGreat.Sx
open Go Go.RowKit
inductive Ex where
 | normal
 | exit (id:Nat)
 | ret
def Ex.to:Ex->Exit
 | .normal=>.normal
 | .exit i=>.exit i
 | .ret=>.ret
abbrev LoopFn:=St->Out (Ex×St)
inductive Ann where
 | nil
 | two (a b:Ann)
 | loop (l:Nat->LoopFn)
 | ghost (g:St->Out St) (n:Ann)
def Ann.core:Ann->Ann
 | .ghost _ n=>n.core
 | n=>n
def Ann.pre:Ann->St->Out St
 | .ghost g n,s=>(g s).bind n.pre
 | _,s=>.leaf s
def Ann.l:Ann->Ann|.two x _=>x|_=>.nil
def Ann.r:Ann->Ann|.two _ y=>y|_=>.nil
def unrollT(body:LoopFn):Nat->LoopFn
 | 0,_=>.bad 301
 | n+1,s=>(body s).bind fun r=>match r.1 with
  | .normal=>unrollT body n r.2
  | e=>.leaf (e,r.2)
def zcp(P:Program)(callT:CallT)(S u n0:Nat):Code->Ann->LoopFn
 | .skip,n,s=>(n.pre s).bind fun s=>.leaf (.normal,s)
 | .label _,n,s=>(n.pre s).bind fun s=>.leaf (.normal,s)
 | .region _ ops draw,n,s=>(n.pre s).bind fun s=>(match draw with
  | true=>drawT P callT S ops.toList s
  | false=>zdl P callT ops.toList ops.toList s).bind fun s'=>.leaf (.normal,s')
 | .seq a b,n,s=>(n.pre s).bind fun s=>(zcp P callT S u n0 a n.core.l s).bind fun r=>match r.1 with
  | .normal=>zcp P callT S u n0 b n.core.r r.2
  | e=>.leaf (e,r.2)
 | .cond c a b,n,s=>(n.pre s).bind fun s=>opt (zbe s c) (fun v=>opt (asB v) (fun r=>match r.1 with
  | true=>match r.2 with
   | true=>zcp P callT S u n0 a n.core.l s
   | false=>zcp P callT S u n0 b n.core.r s
  | false=>.br r.2 (zcp P callT S u n0 a n.core.l s) (zcp P callT S u n0 b n.core.r s)) 302) 303
 | .block id c,n,s=>(zcp P callT S u n0 c n s).bind fun r=>match r.1 with
  | .exit i=>match zu i id with
   | true=>.leaf (.normal,r.2)
   | false=>.leaf (.exit i,r.2)
  | e=>.leaf (e,r.2)
 | .loop c,n,s=>(n.pre s).bind fun s=>match n.core with
  | .loop l=>l n0 s
  | _=>unrollT (zcp P callT S u n0 c .nil) u s
 | .exit i,n,s=>(n.pre s).bind fun s=>.leaf (.exit i,s)
 | .ret,n,s=>(n.pre s).bind fun s=>.leaf (.ret,s)
 | _,_,_=>.bad 304
def Post(φ:Fr)(ρ:Rho)(H0:Hp)(K:Ex×St->Prop)(Q:Exit->Act->World->Prop):Prop:=∀e s' ρ' a' w',K (e,s')->zat H0.sc ρ ρ'->H0.le s'.H->Inv φ ρ' s' a' w'->Q e.to a' w'
theorem Post.later{φ:Fr}{ρ ρ':Rho}{H0:Hp}{K:Ex×St->Prop}{Q:Exit->Act->World->Prop}(h:Post φ ρ H0 K Q)(h1:zat H0.sc ρ ρ'):Post φ ρ' H0 K Q:=
 fun e s2 ρ2 a2 w2 hK g1 g2 g3=>h e s2 ρ2 a2 w2 hK (h1.trans g1) g2 g3
def LoopOK(P:Program)(c:Code)(l:Nat->LoopFn):Prop:=∀(φ:Fr) (ρ:Rho) (H0:Hp) (s:St) (a:Act) (w:World) (K:Ex×St->Prop) (Q:Exit->Act->World->Prop),Inv φ ρ s a w->H0.le s.H->(l H0.nxt s).holds K->Post φ ρ H0 K Q->
 (Code.loop c).wp P Q a w
def zbl(g:St->Out St):Prop:=∀(φ:Fr) (ρ:Rho) (s:St) (a:Act) (w:World) (K:St->Prop),Inv φ ρ s a w->(g s).holds K->∃s' ρ',K s'/\zat s.H.sc ρ ρ'/\s.H.le s'.H/\Inv φ ρ' s' a w
def Ann.preOK:Ann->Prop
 | .ghost g n=>zbl g/\n.preOK
 | _=>True
def zci(P:Program):Code->Ann->Prop
 | .seq a b,n=>n.preOK/\zci P a n.core.l/\zci P b n.core.r
 | .cond _ a b,n=>n.preOK/\zci P a n.core.l/\zci P b n.core.r
 | .block _ c,n=>zci P c n
 | .loop c,n=>n.preOK/\match n.core with
  | .loop l=>LoopOK P c l
  | _=>True
 | _,n=>n.preOK
theorem zfi(P:Program):∀c,zci P c .nil:=by
 intro c
 induction c with
 | seq a b iha ihb=>exact⟨trivial,iha,ihb⟩
 | cond c a b iha ihb=>exact⟨trivial,iha,ihb⟩
 | block id c ih=>exact ih
 | loop c ih=>exact⟨trivial,trivial⟩
 | _=>trivial
theorem Hp.le.scL{H H':Hp}(h:H.le H'){ρ ρ':Rho}(ha:zat H'.sc ρ ρ'):zat H.sc ρ ρ':=ha.mono h.sc
theorem zf3{φ:Fr}{H0:Hp}{β:Type}{a:Act}{w:World}{K:β->Prop}:∀ {n:Ann},n.preOK->∀ {ρ:Rho} {s:St} {f:St->Out β},Inv φ ρ s a w->H0.le s.H->((n.pre s).bind f).holds K->
  ∃s1 ρ1,(f s1).holds K/\zat H0.sc ρ ρ1/\H0.le s1.H/\Inv φ ρ1 s1 a w:=by
 intro n
 induction n with
 | ghost g n ih=>
  intro hn ρ s f h hl hh
  rw[Out.holds_bind]at hh
  simp only[Ann.pre]at hh
  rw[Out.holds_bind]at hh
  obtain⟨s1,ρ1,hK,h1,h2,h3⟩:=hn.1 φ ρ s a w _ h hh
  rw[<-Out.holds_bind]at hK
  obtain⟨s2,ρ2,hK2,g1,g2,g3⟩:=ih hn.2 h3 (hl.trans h2) hK
  exact⟨s2,ρ2,hK2,(hl.scL h1).trans g1,g2,g3⟩
 | _=>intro _ ρ s f h hl hh;exact⟨s,ρ,hh,.refl _ _,hl,h⟩
theorem execC_ok{P:Program}{callT:CallT}(hc:zbz P callT){S u:Nat}{φ:Fr}{H0:Hp}:∀(c:Code) (n:Ann),zci P c n->∀ {ρ:Rho} {s:St} {a:Act} {w:World} {K:Ex×St->Prop} {Q:Exit->Act->World->Prop},Inv φ ρ s a w->H0.le s.H->
  (zcp P callT S u H0.nxt c n s).holds K->Post φ ρ H0 K Q->c.wp P Q a w:=by
 intro c
 induction c with
 | skip=>
  intro n hn ρ s a w K Q h hl hh hQ
  simp only[zcp]at hh
  obtain⟨s1,ρ1,hh,h1,h2,h3⟩:=zf3 hn h hl hh
  exact wp_skip (hQ _ s1 ρ1 a w hh h1 h2 h3)
 | label l=>
  intro n hn ρ s a w K Q h hl hh hQ
  simp only[zcp]at hh
  obtain⟨s1,ρ1,hh,h1,h2,h3⟩:=zf3 hn h hl hh
  exact wp_label (hQ _ s1 ρ1 a w hh h1 h2 h3)
 | exit i=>
  intro n hn ρ s a w K Q h hl hh hQ
  simp only[zcp]at hh
  obtain⟨s1,ρ1,hh,h1,h2,h3⟩:=zf3 hn h hl hh
  exact wp_exit (hQ _ s1 ρ1 a w hh h1 h2 h3)
 | ret=>
  intro n hn ρ s a w K Q h hl hh hQ
  simp only[zcp]at hh
  obtain⟨s1,ρ1,hh,h1,h2,h3⟩:=zf3 hn h hl hh
  exact wp_ret (hQ _ s1 ρ1 a w hh h1 h2 h3)
 | region id ops draw=>
  intro n hn ρ s a w K Q h hl hh hQ
  simp only[zcp]at hh
  obtain⟨s1,ρ1,hh,h1,h2,h3⟩:=zf3 hn h hl hh
  rw[Out.holds_bind]at hh
  cases draw with
  | true=>
   have:=draw_ok (Q:=Q) (id:=id) hc h3 hh fun s' ρ' a' w' hK g1 g2 g3=>hQ _ s' ρ' a' w' hK (h1.trans (h2.scL g1)) (h2.trans g2) g3
   simpa using this
  | false=>
   exact wp_region_list (ze1 (ops:=ops.toList) hc ops.toList h3 hh fun s' ρ' a' w' hK g1 g2 g3=>hQ _ s' ρ' a' w' hK (h1.trans (h2.scL g1)) (h2.trans g2) g3)
 | seq x y ihx ihy=>
  intro n hn ρ s a w K Q h hl hh hQ
  simp only[zcp]at hh
  obtain⟨s1,ρ1,hh,h1,h2,h3⟩:=zf3 hn.1 h hl hh
  rw[Out.holds_bind]at hh
  refine wp_seq (ihx n.core.l hn.2.1 h3 h2 hh ?_)
  intro e s' ρ' a' w' hK g1 g2 g3
  cases e with
  | normal=>exact ihy n.core.r hn.2.2 g3 g2 hK (hQ.later (h1.trans g1))
  | exit i=>exact hQ _ s' ρ' a' w' hK (h1.trans g1) g2 g3
  | ret=>exact hQ _ s' ρ' a' w' hK (h1.trans g1) g2 g3
 | cond c x y ihx ihy=>
  intro n hn ρ s a w K Q h hl hh hQ
  simp only[zcp]at hh
  obtain⟨s1,ρ1,hh,h1,h2,h3⟩:=zf3 hn.1 h hl hh
  obtain⟨v,hv,hh⟩:=zaa hh
  obtain⟨⟨kn,b⟩,hr,hh⟩:=zaa hh
  have e:=asB_is hr (zam h3 hv)
  cases kn with
  | true=>
   cases b with
   | true=>exact wp_cond_true e (ihx n.core.l hn.2.1 h3 h2 hh (hQ.later h1))
   | false=>exact wp_cond_false e (ihy n.core.r hn.2.2 h3 h2 hh (hQ.later h1))
  | false=>
   exact wp_cond_split e (fun hb=>ihx n.core.l hn.2.1 h3 h2 (hh.1 hb) (hQ.later h1)) (fun hb=>ihy n.core.r hn.2.2 h3 h2 (hh.2 hb) (hQ.later h1))
 | block id c ih=>
  intro n hn ρ s a w K Q h hl hh hQ
  simp only[zcp,Out.holds_bind]at hh
  refine wp_block (ih n hn h hl hh ?_)
  intro e s' ρ' a' w' hK h1 h2 h3
  cases e with
  | normal=>exact hQ _ s' ρ' a' w' hK h1 h2 h3
  | ret=>exact hQ _ s' ρ' a' w' hK h1 h2 h3
  | exit i=>
   simp only at hK
   simp only[Ex.to,Exit.inBlock]
   split at hK
   ·rename_i hb
    rw[if_pos (zq hb)]
    exact hQ _ s' ρ' a' w' hK h1 h2 h3
   ·rename_i hb
    rw[if_neg (by rintro rfl;rw[Nat.beq_refl]at hb;cases hb)]
    exact hQ _ s' ρ' a' w' hK h1 h2 h3
 | loop c ih=>
  intro n hn ρ s a w K Q h hl hh hQ
  simp only[zcp]at hh
  obtain⟨s1,ρ1,hh,k1,k2,k3⟩:=zf3 hn.1 h hl hh
  have hn2:=hn.2
  have un:(unrollT (zcp P callT S u H0.nxt c .nil) u s1).holds K->(Code.loop c).wp P Q a w:=by
   intro hh
   refine wp_loop_rounds u ?_
   suffices g:∀(m:Nat) (ρ:Rho) (s:St) (a:Act) (w:World),Inv φ ρ s a w->H0.le s.H->(unrollT (zcp P callT S u H0.nxt c .nil) m s).holds K->Post φ ρ H0 K Q->Code.rounds P c Q m a w from g u ρ1 s1 a w k3 k2 hh (hQ.later k1)
   intro m
   induction m with
   | zero=>intro ρ s a w h hl hh hQ;exact hh.elim
   | succ m ihm=>
    intro ρ s a w h hl hh hQ
    simp only[unrollT,Out.holds_bind]at hh
    refine ih .nil (zfi P c) h hl hh ?_
    intro e s' ρ' a' w' hK h1 h2 h3
    cases e with
    | normal=>exact ihm ρ' s' a' w' h3 h2 hK (hQ.later h1)
    | exit i=>exact hQ _ s' ρ' a' w' hK h1 h2 h3
    | ret=>exact hQ _ s' ρ' a' w' hK h1 h2 h3
  split at hh
  ·rename_i l hl'
   rw[hl']at hn2
   exact hn2 φ ρ1 H0 s1 a w K Q k3 k2 hh (hQ.later k1)
  ·exact un hh
 | rangeFunc=>intro n _ ρ s a w K Q h hl hh hQ;exact hh.elim
 | scope=>intro n _ ρ s a w K Q h hl hh hQ;exact hh.elim
 | goto=>intro n _ ρ s a w K Q h hl hh hQ;exact hh.elim
 | refuse=>intro n _ ρ s a w K Q h hl hh hQ;exact hh.elim
def resL(P:Program)(s:St):List ResultVar->Out (List SV)
 | []=>.leaf []
 | .tmp t::r=>opt (zbe s (.tmp t)) (fun v=>(resL P s r).bind fun l=>.leaf (v::l)) 305
 | .cell a t::r=>opt (zbe s (.tmp a)) (fun v=>(loadT P s.H.h t v).bind fun x=>(resL P s r).bind fun l=>.leaf (x::l)) 306
def toTE:SV->Option TE
 | .c x=>some (.c x)
 | .a l=>some (.a l)
 | .t _=>none
def toTEs:List SV->Option (List TE)
 | []=>some []
 | v::l=>match toTE v,toTEs l with
  | some x,some xs=>some (x::xs)
  | _,_=>none
theorem toTEs_is{n:Nat->Prop}{ρ:Rho}:∀ {l:List SV} {vs:List Value} {ts:List TE},VIs n ρ l vs->toTEs l=some ts->∀ρ',zat n ρ ρ'->ts.map (TE.den ρ')=vs
 | [],[],ts,_,h,_,_=>by simp[toTEs]at h;subst h;rfl
 | [],v::vs,ts,hv,_,_,_=>hv.elim
 | x::l,[],ts,hv,_,_,_=>hv.elim
 | x::l,v::vs,ts,hv,h,ρ',ha=>by
  simp only[toTEs]at h
  split at h
  ·rename_i y ys h1 h2
   cases h
   have e1:=hv.1 ρ' ha
   have e2:=toTEs_is hv.2 h2 ρ' ha
   rw[List.map_cons,e2]
   congr 1
   cases x with
   | c c=>simp[toTE]at h1;subst h1;exact e1
   | a l=>simp[toTE]at h1;subst h1;exact e1
   | t l=>simp[toTE]at h1
  ·cases h
def packT:List SV->Out SV
 | [v]=>.leaf v
 | l=>opt (toTEs l) (fun ts=>.leaf (.t ts)) 307
def rvOf(tmps:Array Value):ResultVar->Sem Value
 | .tmp t=>pure (tmps.getD t undef)
 | .cell x t=>do loadVar t (<- asAddr (tmps.getD x undef))
theorem results_eq(fn:Func)(tmps:Array Value):results fn tmps=(do
  let vs<-fn.results.mapM (rvOf tmps)
  pure (if h:vs.size=1 then vs[0] else .tuple vs)):=by
 have:(fun r=>rvOf tmps r)=rvOf tmps:=rfl
 unfold results
 congr 1
theorem resL_ok{P:Program}{φ:Fr}{ρ:Rho}{s:St}{a:Act}{w:World}(h:Inv φ ρ s a w):∀(rs:List ResultVar) {K:List SV->Prop},(resL P s rs).holds K->
  ∃l vs,K l/\(rs.mapM (rvOf a.tmps)).run P w=.ok vs w/\VIs s.H.sc ρ l vs
 | [],K,hh=>⟨[],[],hh,by simp,trivial⟩
 | .tmp t::r,K,hh=>by
  simp only[resL]at hh
  obtain⟨v,hv,hh⟩:=zaa hh
  rw[Out.holds_bind]at hh
  obtain⟨l,vs,hK,hr,hl⟩:=resL_ok h r hh
  refine⟨v::l,a.eval (.tmp t)::vs,hK,?_,zam h hv,hl⟩
  rw[List.mapM_cons]
  have e1:(rvOf a.tmps (.tmp t)).run P w=.ok (a.eval (.tmp t)) w:=rfl
  simp only[Sem.run_bind,Sem.run_pure,Result.andThen_ok,e1,hr]
 | .cell x t::r,K,hh=>by
  simp only[resL]at hh
  obtain⟨v,hv,hh⟩:=zaa hh
  rw[Out.holds_bind]at hh
  obtain⟨p,sv,u,e,hr0,hK,hs⟩:=loadVar_ok h.heap (zam h hv) hh
  rw[Out.holds_bind]at hK
  obtain⟨l,vs,hK,hr,hl⟩:=resL_ok h r hK
  refine⟨sv::l,u::vs,hK,?_,hs,hl⟩
  have e':a.tmps.getD x undef=.pointer (some p):=e
  have e1:(rvOf a.tmps (.cell x t)).run P w=.ok u w:=by simp only[rvOf,e',asAddr,pure_bind,hr0]
  rw[List.mapM_cons]
  simp only[Sem.run_bind,Sem.run_pure,Result.andThen_ok,e1,hr]
theorem results_ok{P:Program}{φ:Fr}{ρ:Rho}{s:St}{a:Act}{w:World}(h:Inv φ ρ s a w){fn:Func}{K:SV->Prop}(hh:((resL P s fn.results.toList).bind packT).holds K):
  ∃sv v,K sv/\(results fn a.tmps).run P w=.ok v w/\SIs s.H.sc ρ sv v:=by
 rw[Out.holds_bind]at hh
 obtain⟨l,vs,hK,hr,hl⟩:=resL_ok h fn.results.toList hh
 have hrun:∀v,(if h:vs.toArray.size=1 then vs.toArray[0] else .tuple vs.toArray)=v->(results fn a.tmps).run P w=.ok v w:=by
  intro v hv
  rw[results_eq,Array.mapM_eq_mapM_toList]
  simp only[Sem.run_bind,Sem.run_map,hr,Result.andThen_ok,Sem.run_pure]
  rw[hv]
 have pk:∀l:List SV,l.length≠1->packT l=opt (toTEs l) (fun ts=>.leaf (.t ts)) 307:=by
  intro l hl
  match l,hl with
  | [],_=>rfl
  | [_],hl=>exact absurd rfl hl
  | _::_::_,_=>rfl
 have hlen:l.length=vs.length:=hl.length.symm
 by_cases h1:l.length=1
 ·match l,vs,h1,hl,hK,hrun,hlen with
  | [x],[v],_,hl,hK,hrun,_=>exact⟨x,v,hK,hrun _ (by simp),hl.1⟩
 ·rw[pk l h1]at hK
  obtain⟨ts,hts,hK⟩:=zaa hK
  refine⟨_,.tuple vs.toArray,hK,hrun _ (by rw[dif_neg (by simp;omega)]),fun ρ' ha=>?_⟩
  simp only[SV.den,toTEs_is hl hts ρ' ha]
def Col.keys:Col->List Nat
 | .cs key ..=>[key]
 | .cp key ..=>[key]
 | .cf _ key ..=>[key]
 | .ck l=>l.flatMap SC.keys
 | .cc c=>c.keys
 | .ov _ _ c col=>c.keys++col.keys
 | .lt _ a b=>a.keys++b.keys
 | .sel _ a b=>a.keys++b.keys
 | _=>[]
def Blk.keys:Blk->List Nat
 | .own _ _ cs=>cs.flatMap fun|some c=>c.keys|none=>[]
 | .row _ _ _ cols=>cols.flatMap Col.keys
 | .view _ _ cols=>cols.flatMap Col.keys
 | .fam _ _ _ _ cols=>cols.flatMap Col.keys
def TE.keys:TE->List Nat
 | .c x=>x.keys
 | .a l=>l.flatMap SC.keys
def SV.allKeys:SV->List Nat
 | .c x=>x.keys
 | .a l=>l.flatMap SC.keys
 | .t l=>l.flatMap TE.keys
def mark(h:HL):Nat->List Nat->List Nat->List Nat
 | 0,todo,seen=>todo++seen
 | _+1,[],seen=>seen
 | n+1,k::todo,seen=>match mem k seen with
  | true=>mark h n todo seen
  | false=>mark h n ((match find k h with|some b=>b.keys|none=>[])++todo) (k::seen)
def keep(p:Nat->Bool):HL->HL
 | []=>[]
 | (k,b)::r=>match p k with
  | true=>(k,b)::keep p r
  | false=>keep p r
theorem zcs(p:Nat->Bool)(key:Nat):∀h:HL,find key (keep p h)=if p key=true then find key h else none
 | []=>by simp[keep,find]
 | (k,b)::r=>by
  have ih:=zcs p key r
  simp only[keep]
  split
  ·rename_i h1
   rw[zag,zag,ih]
   by_cases e:key=k
   ·subst e;simp[h1]
   ·simp[e]
  ·rename_i h1
   rw[zag,ih]
   by_cases e:key=k
   ·subst e;simp[h1]
   ·simp[e]
def gcT(n:Nat)(sv:SV)(h:HL):HL:=
 let old:=keep (fun k=>Nat.blt k n) h
 let seen:=mark h 300 (sv.allKeys++old.flatMap fun q=>q.2.keys) []
 keep (fun k=>Nat.blt k n || mem k seen) h
def anyNew(n:Nat):HL->Bool
 | []=>false
 | (k,_)::r=>match Nat.blt k n with
  | true=>anyNew n r
  | false=>true
def fGc{β:Type 1}(n:Nat)(sv:SV)(h:HL)(k:HL->β):β:=match anyNew n h with
 | true=>fHL (gcT n sv h) k
 | false=>k h
def gcI(n:Nat)(sv:SV)(h:HL):HL:=match anyNew n h with
 | true=>gcT n sv h
 | false=>h
@[simp] theorem fGc_eq {β:Type 1} (n:Nat) (sv:SV) (h:HL) (k:HL->β):fGc n sv h k=k (gcI n sv h):=by
 unfold fGc gcI
 split<;>simp
theorem gc_ok{φ:Fr}{ρ:Rho}{H:Hp}{w:World}(h:HInv φ ρ H w)(n:Nat)(sv:SV):HInv φ ρ ⟨gcT n sv H.h,H.nxt,H.D⟩ w:=
 h.forget fun k b hk=>by
  unfold gcT at hk
  simp only[zcs]at hk
  split at hk
  ·exact hk
  ·cases hk
theorem gcI_ok{φ:Fr}{ρ:Rho}{H:Hp}{w:World}(h:HInv φ ρ H w)(n:Nat)(sv:SV):HInv φ ρ ⟨gcI n sv H.h,H.nxt,H.D⟩ w:=by
 unfold gcI
 split
 ·exact gc_ok h n sv
 ·exact h
def zab(P:Program)(f:FuncId)(c:List SV->Hp->Out (SV×Hp)):Prop:=∀(φ:Fr) (ρ:Rho) (H:Hp) (w:World) (args:List SV) (vs:List Value) (K:SV×Hp->Prop),HInv φ ρ H w->VIs H.sc ρ args vs->(c args H).holds K->
 Calls P f vs.toArray w fun e w'=>∃v ρ' sv H',e=.returned v/\K (sv,H')/\zat H.sc ρ ρ'/\H.le H'/\HInv φ ρ' H' w'/\SIs H'.sc ρ' sv v
def bodyT(P:Program)(callT:CallT)(S u:Nat)(ann:Ann)(fn:Func)(args:List SV)(H:Hp):Out (SV×Hp):=
 opt fn.body (fun code=>(zcp P callT S u H.nxt code ann ⟨args.map some++List.replicate (fn.ntmps-args.length) none,H⟩).bind fun r=>match r.1 with
  | .exit _=>.bad 308
  | _=>((resL P r.2 fn.results.toList).bind packT).bind fun sv=>fGc H.nxt sv r.2.H.h fun h=>.leaf (sv,⟨h,r.2.H.nxt,r.2.H.D⟩)) 309
theorem VIs.at{n:Nat->Prop}{ρ:Rho}:∀ {l:List SV} {vs:List Value},VIs n ρ l vs->l.length=vs.length/\∀(k:Nat) (sv:SV),l[k]?=some sv->∃v,vs[k]?=some v/\SIs n ρ sv v
 | [],[],_=>⟨rfl,fun k sv h=>by simp at h⟩
 | [],v::vs,h=>h.elim
 | x::l,[],h=>h.elim
 | x::l,v::vs,h=>by
  obtain⟨h1,h2⟩:=VIs.at h.2
  refine⟨by simp[h1],fun k sv hk=>?_⟩
  cases k with
  | zero=>simp at hk;subst hk;exact⟨v,rfl,h.1⟩
  | succ k=>exact h2 k sv (by simpa using hk)
theorem body_ok{P:Program}{callT:CallT}(hc:zbz P callT){S u:Nat}{ann:Ann}{f:FuncId}{fn:Func}(hf:P.funcs[f]?=some fn)(ha:∀code,fn.body=some code->zci P code ann):zab P f (bodyT P callT S u ann fn):=by
 intro φ ρ H w args vs K h hv hh
 unfold bodyT at hh
 obtain⟨code,hcode,hh⟩:=zaa hh
 rw[Out.holds_bind]at hh
 obtain⟨hlen,hget⟩:=hv.at
 refine calls_of_wp hf hcode ?_
 refine execC_ok hc code ann (ha code hcode) (ρ:=ρ) (φ:=φ) (s:=⟨args.map some++List.replicate (fn.ntmps-args.length) none,H⟩) ⟨h,rfl,by simp[hlen],?_⟩ (.refl H) hh ?_
 ·intro k sv hk
  rcases Nat.lt_or_ge k args.length with hlt|hge
  ·rw[List.getElem?_append_left (by simpa using hlt)]at hk
   simp only[List.getElem?_map,Option.map_eq_some_iff]at hk
   obtain⟨x,hx,hx2⟩:=hk
   cases hx2
   obtain⟨v,hv1,hv2⟩:=hget k _ hx
   refine⟨v,?_,hv2⟩
   rw[Array.getElem?_append_left (by simp;omega)]
   simpa using hv1
  ·rw[List.getElem?_append_right (by simpa using hge)]at hk
   simp only[List.getElem?_replicate]at hk
   split at hk<;>cases hk
 ·intro e s' ρ' a' w' hK h1 h2 h3
  have fin:(((resL P s' fn.results.toList).bind packT).bind fun sv=>Out.leaf (sv,(⟨gcI H.nxt sv s'.H.h,s'.H.nxt,s'.H.D⟩:Hp))).holds K->a'.defers=[]/\∃v,(results fn a'.tmps).run P w'=.ok v w'/\
    ∃v_1 ρ' sv H',Ending.returned v=.returned v_1/\K (sv,H')/\zat H.sc ρ ρ'/\H.le H'/\HInv φ ρ' H' w'/\SIs H'.sc ρ' sv v_1:=by
   intro hh
   rw[Out.holds_bind]at hh
   obtain⟨sv,v,hK,hr,hs⟩:=results_ok h3 hh
   exact⟨h3.defers,v,hr,v,ρ',sv,_,rfl,hK,h1,⟨h2.nxt,h2.D⟩,gcI_ok h3.heap _ _,hs⟩
  simp only[fGc_eq]at hK
  cases e with
  | normal=>exact fin hK
  | exit i=>exact hK.elim
  | ret=>exact fin hK
def stride:Nat->Nat
 | 0=>8
 | n+1=>4096*stride n
def ze4(P:Program)(con:FuncId->Option (List SV->Hp->Out (SV×Hp)))(ann:FuncId->Ann)(u:Nat):Nat->CallT
 | 0,_,_,_=>.bad 310
 | n+1,f,args,H=>fVs args fun args=>fHpL 0 H fun H=>match con f with
  | some c=>c args H
  | none=>opt (fnF P f) (fun fn=>bodyT P (ze4 P con ann u n) (stride n) u (ann f) fn args H) 311
theorem zgk{P:Program}{con:FuncId->Option (List SV->Hp->Out (SV×Hp))}{ann:FuncId->Ann}{u:Nat}(hcon:∀f c,con f=some c->zab P f c)(hann:∀f fn code,P.funcs[f]?=some fn->fn.body=some code->zci P code (ann f)):
  ∀n,zbz P (ze4 P con ann u n)
 | 0=>fun _ _ _ _ _ _ _ _ _ _ hh=>hh.elim
 | n+1=>by
  intro φ ρ H w f args vs K h hv hh
  simp only[ze4,fVs_eq,fHpL_eq]at hh
  split at hh
  ·rename_i c hc
   exact hcon f c hc φ ρ H w args vs K h hv hh
  ·rw[zbm]at hh
   obtain⟨fn,hfn,hh⟩:=zaa hh
   exact body_ok (zgk hcon hann n) hfn (hann f fn · hfn) φ ρ H w args vs K h hv hh
theorem zfb{P:Program}{con:FuncId->Option (List SV->Hp->Out (SV×Hp))}{u:Nat}(hcon:∀f c,con f=some c->zab P f c)(n:Nat):zbz P (ze4 P con (fun _=>.nil) u n):=
 zgk hcon (fun _ _ code _ _=>zfi P code) n
def SC.ren(σ:Nat->Nat):SC->SC
 | .ptr key i e f sz=>.ptr (σ key) i e f sz
 | .slc key i e sz len cap=>.slc (σ key) i e sz len cap
 | .ifc t key i e f sz=>.ifc t (σ key) i e f sz
 | .fn f caps=>.fn f (caps.map σ)
 | x=>x
theorem SC.ren_den(σ:Nat->Nat)(ρ:Rho)(c:SC):(c.ren σ).den ρ=c.den (fun k=>ρ (σ k)):=by
 cases c<;>simp[SC.ren,SC.den,zal]
def TE.ren(σ:Nat->Nat):TE->TE
 | .c x=>.c (x.ren σ)
 | .a l=>.a (l.map (SC.ren σ))
theorem TE.ren_den(σ:Nat->Nat)(ρ:Rho)(c:TE):(c.ren σ).den ρ=c.den (fun k=>ρ (σ k)):=by
 cases c with
 | c x=>exact x.ren_den σ ρ
 | a l=>
  simp only[TE.ren,TE.den,List.map_map]
  congr 2
  exact List.map_congr_left fun x _=>x.ren_den σ ρ
def SV.ren(σ:Nat->Nat):SV->SV
 | .c x=>.c (x.ren σ)
 | .a l=>.a (l.map (SC.ren σ))
 | .t l=>.t (l.map (TE.ren σ))
theorem SV.ren_den(σ:Nat->Nat)(ρ:Rho)(c:SV):(c.ren σ).den ρ=c.den (fun k=>ρ (σ k)):=by
 cases c with
 | c x=>exact x.ren_den σ ρ
 | a l=>
  simp only[SV.ren,SV.den,List.map_map]
  congr 2
  exact List.map_congr_left fun x _=>x.ren_den σ ρ
 | t l=>
  simp only[SV.ren,SV.den,List.map_map]
  congr 2
  exact List.map_congr_left fun x _=>x.ren_den σ ρ
def Col.ren(σ:Nat->Nat):Col->Col
 | .cs key sz ix len cap=>.cs (σ key) sz ix len cap
 | .cp key ix f sz=>.cp (σ key) ix f sz
 | .cf t key ix f sz=>.cf t (σ key) ix f sz
 | .ck l=>.ck (l.map (SC.ren σ))
 | .cc c=>.cc (c.ren σ)
 | .ov i e c col=>.ov i e (c.ren σ) (col.ren σ)
 | .lt n a b=>.lt n (a.ren σ) (b.ren σ)
 | .sel p a b=>.sel p (a.ren σ) (b.ren σ)
 | .ci k g=>.ci k g
 | .cb g=>.cb g
 | .cu=>.cu
theorem Col.ren_get(σ:Nat->Nat)(i e:Nat)(c:Col):(c.ren σ).get i e=(c.get i e).map (SC.ren σ):=by
 induction c with
 | ov i0 e0 c col ih=>simp only[Col.ren,Col.get,ih];split<;>rfl
 | lt n a b iha ihb=>simp only[Col.ren,Col.get,iha,ihb];split<;>rfl
 | sel p a b iha ihb=>simp only[Col.ren,Col.get,iha,ihb];split<;>rfl
 | _=>simp[Col.ren,Col.get,SC.ren]
def Blk.ren(σ:Nat->Nat):Blk->Blk
 | .own t size cs=>.own t size (cs.map (Option.map (SC.ren σ)))
 | .row t cap n cols=>.row t cap n (cols.map (Col.ren σ))
 | .view m n cols=>.view m n (cols.map (Col.ren σ))
 | .fam rw t cap n cols=>.fam rw t cap n (cols.map (Col.ren σ))
theorem Blk.ren_isRow(σ:Nat->Nat)(b:Blk):(b.ren σ).isRow=b.isRow:=by cases b<;>rfl
theorem Blk.ren_live(σ:Nat->Nat)(b:Blk)(i:Nat):(b.ren σ).live i=b.live i:=by cases b<;>rfl
section
variable {n m:Nat->Prop} {ρ0 ρ:Rho} {σ:Nat->Nat}
theorem CIs.ren{c:SC}{v:Value}(hm:∀k,n k->m (σ k))(hr:∀k,n k->ρ (σ k)=ρ0 k)(h:CIs n ρ0 c v):CIs m ρ (c.ren σ) v:=fun ρ'' ha=>by
 rw[SC.ren_den]
 exact h _ fun k hk=>by rw[<-hr k hk];exact ha (σ k) (hm k hk)
theorem SIs.ren{c:SV}{v:Value}(hm:∀k,n k->m (σ k))(hr:∀k,n k->ρ (σ k)=ρ0 k)(h:SIs n ρ0 c v):SIs m ρ (c.ren σ) v:=fun ρ'' ha=>by
 rw[SV.ren_den]
 exact h _ fun k hk=>by rw[<-hr k hk];exact ha (σ k) (hm k hk)
def Back(n m:Nat->Prop)(ρ0 ρ:Rho)(σ:Nat->Nat):Prop:=∀r,zat n ρ0 r->∃ρ'',zat m ρ ρ''/\∀k,ρ'' (σ k)=r k
theorem CIs.unren{c:SC}{v:Value}(hb:Back n m ρ0 ρ σ)(h:CIs m ρ (c.ren σ) v):CIs n ρ0 c v:=fun r ha=>by
 obtain⟨ρ'',h1,h2⟩:=hb r ha
 have:=h ρ'' h1
 rw[SC.ren_den]at this
 rw[<-this];congr 1;funext k;exact(h2 k).symm
theorem SIs.unren{c:SV}{v:Value}(hb:Back n m ρ0 ρ σ)(h:SIs m ρ (c.ren σ) v):SIs n ρ0 c v:=fun r ha=>by
 obtain⟨ρ'',h1,h2⟩:=hb r ha
 have:=h ρ'' h1
 rw[SV.ren_den]at this
 rw[<-this];congr 1;funext k;exact(h2 k).symm
theorem VIs.unren(hb:Back n m ρ0 ρ σ):∀ {l:List SV} {vs:List Value},VIs m ρ (l.map (SV.ren σ)) vs->VIs n ρ0 l vs
 | [],[],_=>trivial
 | [],v::vs,h=>h.elim
 | x::l,[],h=>h.elim
 | x::l,v::vs,h=>⟨h.1.unren hb,VIs.unren hb h.2⟩
theorem Blk.sat_map{n m:Nat->Prop}{ρ0 ρ:Rho}{b b':Blk}{k z:Nat}{w:World}(hk:ρ0 k=ρ z)(f:SC->SC)(hown:∀t size cs,b=.own t size cs->b'=.own t size (cs.map (Option.map f)))
  (hrow:∀t cap l cols,b=.row t cap l cols->∃g:Col->Col,(∀c i e,(g c).get i e=(c.get i e).map f)/\b'=.row t cap l (cols.map g))
  (hview:∀l len cols,b=.view l len cols->∃g:Col->Col,(∀c i e,(g c).get i e=(c.get i e).map f)/\b'=.view l len (cols.map g))
  (hfam:∀rw t cap len cols,b=.fam rw t cap len cols->∃g:Col->Col,(∀c i e,(g c).get i e=(c.get i e).map f)/\b'=.fam rw t cap len (cols.map g))
  (hc:∀c v,CIs n ρ0 c v->CIs m ρ (f c) v) (h:b.sat n ρ0 k w):b'.sat m ρ z w:=by
 cases b with
 | own t size cs=>
  rw[hown _ _ _ rfl]
  obtain⟨y,arr,h1,h2,h3,h4,h5⟩:=h
  refine⟨y,arr,by rw[<-hk];exact h1,h2,h3,by simpa using h4,fun i c hi=>?_⟩
  simp only[List.getElem?_map,Option.map_eq_some_iff]at hi
  obtain⟨oc,ho,hc'⟩:=hi
  cases oc with
  | none=>simp at hc'
  | some d=>
   simp at hc';subst hc'
   obtain⟨v,hv,hs⟩:=h5 i d ho
   exact⟨v,hv,hc _ _ hs⟩
 | row t cap l cols=>
  obtain⟨g,hg,e⟩:=hrow _ _ _ _ rfl
  rw[e]
  rcases h with h|⟨y,arr,h1,h2,h3,h4,h4',h5⟩
  ·exact .inl h
  refine .inr ⟨y,arr,by rw[<-hk];exact h1,h2,by simpa using h3,h4,h4',fun q hq f' col c hf hcol=>?_⟩
  simp only[List.getElem?_map,Option.map_eq_some_iff]at hf
  obtain⟨col0,hf0,rfl⟩:=hf
  rw[hg,Option.map_eq_some_iff]at hcol
  obtain⟨c0,hc0,rfl⟩:=hcol
  obtain⟨v,hv,hs⟩:=h5 q hq f' col0 c0 hf0 hc0
  exact⟨v,by simpa using hv,hc _ _ hs⟩
 | view l len cols=>
  obtain⟨g,hg,e⟩:=hview _ _ _ rfl
  rw[e]
  intro i hi q hq
  obtain⟨y,o,h1,h2⟩:=h i hi q hq
  refine⟨y,o,by rw[<-hk];exact h1,fun f' col c hf hcol=>?_⟩
  simp only[List.getElem?_map,Option.map_eq_some_iff]at hf
  obtain⟨col0,hf0,rfl⟩:=hf
  rw[hg,Option.map_eq_some_iff]at hcol
  obtain⟨c0,hc0,rfl⟩:=hcol
  obtain⟨v,hv,hs⟩:=h2 f' col0 c0 hf0 hc0
  exact⟨v,by simpa using hv,hc _ _ hs⟩
 | fam rw t cap len cols=>
  obtain⟨g,hg,e⟩:=hfam _ _ _ _ _ rfl
  rw[e]
  obtain⟨h1,h2,h3⟩:=h
  refine⟨h1,by rw[<-hk];exact h2,fun i hi=>?_⟩
  obtain⟨y,arr,g1,g2,g3,g4⟩:=h3 i hi
  refine⟨y,arr,by rw[<-hk];exact g1,g2,by simpa using g3,fun q hq f' col c hf hcol=>?_⟩
  simp only[List.getElem?_map,Option.map_eq_some_iff]at hf
  obtain⟨col0,hf0,rfl⟩:=hf
  rw[hg,Option.map_eq_some_iff]at hcol
  obtain⟨c0,hc0,rfl⟩:=hcol
  obtain⟨v,hv,hs⟩:=g4 q hq f' col0 c0 hf0 hc0
  exact⟨v,by simpa using hv,hc _ _ hs⟩
theorem Blk.sat_ren{b:Blk}{k:Nat}{w:World}(hk:ρ0 k=ρ (σ k))(hm:∀k,n k->m (σ k))(hr:∀k,n k->ρ (σ k)=ρ0 k)(h:b.sat n ρ0 k w):(b.ren σ).sat m ρ (σ k) w:=
 Blk.sat_map (b':=b.ren σ) hk (SC.ren σ) (fun _ _ _ e=>by subst e;rfl) (fun _ _ _ _ e=>by subst e;exact⟨Col.ren σ,fun c i e=>Col.ren_get σ i e c,rfl⟩) (fun _ _ _ e=>by subst e;exact⟨Col.ren σ,fun c i e=>Col.ren_get σ i e c,rfl⟩) (fun _ _ _ _ _ e=>by subst e;exact⟨Col.ren σ,fun c i e=>Col.ren_get σ i e c,rfl⟩) (fun c v hc=>hc.ren hm hr) h
theorem Blk.sat_unren{b:Blk}{k:Nat}{w:World}(hk:ρ0 k=ρ (σ k))(hb:Back n m ρ0 ρ σ)(h:(b.ren σ).sat m ρ (σ k) w):b.sat n ρ0 k w:=by
 cases b with
 | own t size cs=>
  obtain⟨y,arr,h1,h2,h3,h4,h5⟩:=h
  refine⟨y,arr,by rw[hk];exact h1,h2,h3,by simpa using h4,fun i c hi=>?_⟩
  obtain⟨v,hv,hs⟩:=h5 i (c.ren σ) (by simp[hi])
  exact⟨v,hv,hs.unren hb⟩
 | row t cap l cols=>
  rcases h with h|⟨y,arr,h1,h2,h3,h4,h4',h5⟩
  ·exact .inl h
  refine .inr ⟨y,arr,by rw[hk];exact h1,h2,by simpa using h3,h4,h4',fun q hq f' col c hf hcol=>?_⟩
  obtain⟨v,hv,hs⟩:=h5 q hq f' (col.ren σ) (c.ren σ) (by simp[hf]) (by rw[Col.ren_get,hcol];rfl)
  exact⟨v,by simpa using hv,hs.unren hb⟩
 | view l len cols=>
  intro i hi q hq
  obtain⟨y,o,h1,h2⟩:=h i hi q hq
  refine⟨y,o,by rw[hk];exact h1,fun f' col c hf hcol=>?_⟩
  obtain⟨v,hv,hs⟩:=h2 f' (col.ren σ) (c.ren σ) (by simp[hf]) (by rw[Col.ren_get,hcol];rfl)
  exact⟨v,by simpa using hv,hs.unren hb⟩
 | fam rw t cap len cols=>
  obtain⟨h1,h2,h3⟩:=h
  refine⟨h1,by rw[hk];exact h2,fun i hi=>?_⟩
  obtain⟨y,arr,g1,g2,g3,g4⟩:=h3 i hi
  refine⟨y,arr,by rw[hk];exact g1,g2,by simpa using g3,fun q hq f' col c hf hcol=>?_⟩
  obtain⟨v,hv,hs⟩:=g4 q hq f' (col.ren σ) (c.ren σ) (by simp[hf]) (by rw[Col.ren_get,hcol];rfl)
  exact⟨v,by simpa using hv,hs.unren hb⟩
end
def leSC:SC->SC->Prop
 | .kb b,.kb b'|.kb b,.bv b'|.bv b,.kb b'|.bv b,.bv b'=>b=b'
 | .ki k n,.ki k' n'|.ki k n,.iv k' n'|.iv k n,.ki k' n'|.iv k n,.iv k' n'=>k=k'/\n=n'
 | .nilp,.nilp=>True
 | .ptr key i e f sz,.ptr key' i' e' f' sz'=>key=key'/\i.v=i'.v/\e.v=e'.v/\f=f'/\sz=sz'
 | .nils,.nils=>True
 | .slc key i e sz len cap,.slc key' i' e' sz' len' cap'=>key=key'/\i.v=i'.v/\e.v=e'.v/\sz=sz'/\len.v=len'.v/\cap.v=cap'.v
 | .nilI,.nilI=>True
 | .ifc t key i e f sz,.ifc t' key' i' e' f' sz'=>t=t'/\key=key'/\i.v=i'.v/\e.v=e'.v/\f=f'/\sz=sz'
 | .fn f caps,.fn f' caps'=>f=f'/\caps=caps'
 | .nilF,.nilF=>True
 | .val v,.val v'=>v=v'
 | _,_=>False
theorem zgo{x y:SC}(h:leSC x y)(ρ:Rho):x.den ρ=y.den ρ:=by
 cases x<;>cases y<;>simp_all [leSC,SC.den,zal]
def leL:List SC->List SC->Prop
 | [],[]=>True
 | x::l,y::m=>leSC x y/\leL l m
 | _,_=>False
theorem leL_den{ρ:Rho}:∀ {x y:List SC},leL x y->x.map (SC.den ρ)=y.map (SC.den ρ)
 | [],[],_=>rfl
 | [],y::m,h=>h.elim
 | x::l,[],h=>h.elim
 | x::l,y::m,h=>by rw[List.map_cons,List.map_cons,zgo h.1,leL_den h.2]
def leTE:TE->TE->Prop
 | .c x,.c y=>leSC x y
 | .a l,.a m=>leL l m
 | _,_=>False
theorem leTE_den{x y:TE}(h:leTE x y)(ρ:Rho):x.den ρ=y.den ρ:=by
 cases x<;>cases y<;>try exact h.elim
 ·exact zgo h ρ
 ·simp only[TE.den,leL_den (ρ:=ρ) h]
def leTs:List TE->List TE->Prop
 | [],[]=>True
 | x::l,y::m=>leTE x y/\leTs l m
 | _,_=>False
theorem leTs_den{ρ:Rho}:∀ {x y:List TE},leTs x y->x.map (TE.den ρ)=y.map (TE.den ρ)
 | [],[],_=>rfl
 | [],y::m,h=>h.elim
 | x::l,[],h=>h.elim
 | x::l,y::m,h=>by rw[List.map_cons,List.map_cons,leTE_den h.1,leTs_den h.2]
def leSV:SV->SV->Prop
 | .c x,.c y=>leSC x y
 | .a l,.a m=>leL l m
 | .t l,.t m=>leTs l m
 | _,_=>False
theorem leSV_den{x y:SV}(h:leSV x y)(ρ:Rho):x.den ρ=y.den ρ:=by
 cases x<;>cases y<;>try exact h.elim
 ·exact zgo h ρ
 ·simp only[SV.den,leL_den h]
 ·simp only[SV.den,leTs_den (ρ:=ρ) h]
theorem SIs.le{n:Nat->Prop}{ρ:Rho}{x y:SV}{v:Value}(h:SIs n ρ x v)(hl:leSV x y):SIs n ρ y v:=fun r ha=>by rw[<-leSV_den hl];exact h r ha
theorem CIs.le{n:Nat->Prop}{ρ:Rho}{x y:SC}{v:Value}(h:CIs n ρ x v)(hl:leSC x y):CIs n ρ y v:=fun r ha=>by rw[<-zgo hl];exact h r ha
def leVs:List SV->List SV->Prop
 | [],[]=>True
 | x::l,y::m=>leSV x y/\leVs l m
 | _,_=>False
theorem VIs.le{n:Nat->Prop}{ρ:Rho}:∀ {l m:List SV} {vs:List Value},VIs n ρ l vs->leVs l m->VIs n ρ m vs
 | [],[],_,h,_=>h
 | [],y::m,_,_,h=>h.elim
 | x::l,[],_,_,h=>h.elim
 | x::l,y::m,[],h,_=>h.elim
 | x::l,y::m,v::vs,h,g=>⟨h.1.le g.1,VIs.le h.2 g.2⟩
def leOL:List (Option SC)->List (Option SC)->Prop
 | _,[]=>True
 | _::l,none::m=>leOL l m
 | some x::l,some y::m=>leSC x y/\leOL l m
 | _,_=>False
theorem leOL_at:∀ {l m:List (Option SC)},leOL l m->m.length<=l.length/\∀(i:Nat) y,m[i]?=some (some y)->∃x,l[i]?=some (some x)/\leSC x y
 | l,[],_=>⟨Nat.zero_le _,fun i y h=>by simp at h⟩
 | [],y::m,h=>by cases y<;>exact h.elim
 | x::l,none::m,h=>by
  have h':leOL l m:=by cases x<;>exact h
  obtain⟨h1,h2⟩:=leOL_at h'
  refine⟨by simpa using h1,fun i y hy=>?_⟩
  cases i with
  | zero=>simp at hy
  | succ i=>exact h2 i y (by simpa using hy)
 | none::l,some y::m,h=>h.elim
 | some x::l,some y::m,h=>by
  obtain⟨h1,h2⟩:=leOL_at h.2
  refine⟨by simpa using h1,fun i z hz=>?_⟩
  cases i with
  | zero=>simp at hz;subst hz;exact⟨x,rfl,h.1⟩
  | succ i=>exact h2 i z (by simpa using hz)
def leCk(I:Nat->Nat->Prop)(k:IntKind)(g:Nat->Nat->Int):Nat->List SC->Prop
 | _,[]=>True
 | j,c::l=>(∀i,I i j->leSC c (.iv k (g i j)))/\leCk I k g (j+1) l
theorem leCk_at{I:Nat->Nat->Prop}{k:IntKind}{g:Nat->Nat->Int}:∀ {l:List SC} {j:Nat},leCk I k g j l->∀e,e<l.length->∃c,l[e]?=some c/\∀i,I i (j+e)->leSC c (.iv k (g i (j+e)))
 | [],j,_,e,h=>by simp at h
 | c::l,j,h,0,_=>⟨c,rfl,h.1⟩
 | c::l,j,h,e+1,he=>by
  obtain⟨d,h1,h2⟩:=leCk_at h.2 e (by simpa using he)
  exact⟨d,by simpa using h1,fun i hi=>by have:=h2 i (by rw[show j+1+e=j+(e+1) by omega];exact hi);rwa [show j+1+e=j+(e+1) by omega]at this⟩
def ccAll(c:SC):Col->Prop
 | .cc d=>leSC c d
 | .ov _ _ d col=>leSC c d/\ccAll c col
 | _=>False
theorem ccAll_get{c:SC}:∀ {col:Col},ccAll c col->∀ {i e:Nat} {y:SC},col.get i e=some y->leSC c y:=by
 intro col
 induction col with
 | cc d=>intro h i e y hy;simp only[Col.get,z0]at hy;subst hy;exact h
 | ov i0 e0 d col ih=>
  intro h i e y hy
  simp only[Col.get]at hy
  split at hy
  ·cases hy;exact h.1
  ·exact ih h.2 hy
 | _=>intro h;exact h.elim
def leLp:List SC->List SC->Prop
 | _,[]=>True
 | x::l,y::m=>leSC x y/\leLp l m
 | [],_::_=>False
def zcm(I:Nat->Nat->Prop):Col->Col->Prop
 | _,.cu=>True
 | .ci k g,.ci k' g'=>k=k'/\∀i e,I i e->g i e=g' i e
 | .cb g,.cb g'=>∀i e,I i e->g i e=g' i e
 | .cs key sz ix len cap,.cs key' sz' ix' len' cap'=>key=key'/\sz=sz'/\(∀i e,I i e->ix i e=ix' i e)/\(∀i e,I i e->len i e=len' i e)/\∀i e,I i e->cap i e=cap' i e
 | .cp key ix f sz,.cp key' ix' f' sz'=>key=key'/\f=f'/\sz=sz'/\∀i e,I i e->ix i e=ix' i e
 | .cf t key ix f sz,.cf t' key' ix' f' sz'=>t=t'/\key=key'/\f=f'/\sz=sz'/\∀i e,I i e->ix i e=ix' i e
 | .ck l,.ck m=>leLp l m
 | .ck l,.ci k g=>(∀i e,I i e->e<l.length)/\leCk I k g 0 l
 | .cc c,.cc d=>leSC c d
 | .ov i e c col,.ov i' e' c' col'=>i.v=i'.v/\e.v=e'.v/\leSC c c'/\zcm I col col'
 | .ov _ _ c col,.cc d=>leSC c d/\zcm I col (.cc d)
 | .cc c,.ov _ _ d col=>leSC c d/\ccAll c col
 | .cc c,.ci k g=>∀i e,I i e->leSC c (.iv k (g i e))
 | .cc (.kb b),.cb g=>∀i e,I i e->b=g i e
 | _,_=>False
theorem leLp_at:∀ {x y:List SC},leLp x y->∀(i:Nat) b,y[i]?=some b->∃a,x[i]?=some a/\leSC a b
 | _,[],_,i,b,h=>by simp at h
 | [],y::m,h,_,_,_=>h.elim
 | x::l,y::m,h,i,b,hb=>by
  cases i with
  | zero=>simp at hb;subst hb;exact⟨x,rfl,h.1⟩
  | succ i=>exact leLp_at h.2 i b (by simpa using hb)
theorem zb0{I:Nat->Nat->Prop}:∀ {c d:Col},zcm I c d->∀ {i e:Nat},I i e->∀ {y:SC},d.get i e=some y->∃x,c.get i e=some x/\leSC x y:=by
 intro c d
 induction d generalizing c with
 | cu=>intro h i e he y hy;simp[Col.get]at hy
 | ci k g=>
  intro h i e he y hy
  simp[Col.get]at hy;subst hy
  cases c<;>try exact h.elim
  ·exact⟨_,rfl,h.1,h.2 i e he⟩
  ·obtain⟨c,hc,hle⟩:=leCk_at h.2 e (h.1 i e he)
   rw[Nat.zero_add]at hle
   exact⟨c,hc,hle i he⟩
  ·exact⟨_,rfl,h i e he⟩
 | cb g=>
  intro h i e he y hy
  simp[Col.get]at hy;subst hy
  cases c<;>try exact h.elim
  ·exact⟨_,rfl,h i e he⟩
  ·rename_i c
   cases c<;>try exact h.elim
   exact⟨_,rfl,h i e he⟩
 | cs key sz ix len cap=>
  intro h i e he y hy
  cases c<;>try exact h.elim
  simp[Col.get]at hy;subst hy
  exact⟨_,rfl,h.1,h.2.2.1 i e he,rfl,h.2.1,h.2.2.2.1 i e he,h.2.2.2.2 i e he⟩
 | cp key ix f sz=>
  intro h i e he y hy
  cases c<;>try exact h.elim
  simp[Col.get]at hy;subst hy
  exact⟨_,rfl,h.1,h.2.2.2 i e he,rfl,h.2.1,h.2.2.1⟩
 | cf t key ix f sz=>
  intro h i e he y hy
  cases c<;>try exact h.elim
  simp[Col.get]at hy;subst hy
  exact⟨_,rfl,h.1,h.2.1,h.2.2.2.2 i e he,rfl,h.2.2.1,h.2.2.2.1⟩
 | ck m=>
  intro h i e he y hy
  cases c<;>try exact h.elim
  simp only[Col.get]at hy ⊢
  exact leLp_at h e y hy
 | cc d=>
  intro h i e he y hy
  simp only[Col.get,z0]at hy;subst hy
  induction c with
  | cc c=>exact⟨_,rfl,h⟩
  | ov i0 e0 c0 col ih=>
   obtain⟨h1,h2⟩:=h
   simp only[Col.get]
   split
   ·exact⟨_,rfl,h1⟩
   ·exact ih h2
  | _=>exact h.elim
 | ov i0 e0 d col ih=>
  intro h i e he y hy
  cases c<;>try exact h.elim
  ·exact⟨_,rfl,ccAll_get (col:=.ov i0 e0 d col) h hy⟩
  obtain⟨h1,h2,h3,h4⟩:=h
  simp only[Col.get,h1,h2]at hy ⊢
  split at hy
  ·rename_i hc
   cases hy
   exact⟨_,by rw[if_pos hc],h3⟩
  ·rename_i hc
   rw[if_neg hc]
   exact ih h4 he hy
 | lt n a b _ _=>intro h;cases c<;>exact h.elim
 | sel p a b _ _=>intro h;cases c<;>exact h.elim
def leSel(p:Nat->Nat->Bool)(a b:Col):(I:Nat->Nat->Prop)->Col->Prop
 | I,.ov i e .nilI col=>(I i.v e.v->p i.v e.v=false)/\(match b with|.cc .nilI=>True|_=>False)/\leSel p a b (fun i' e'=>I i' e'/\¬(i'=i.v/\e'=e.v)) col
 | I,.ov i e _ col=>(∀i' e',I i' e'->¬(i'=i.v/\e'=e.v))/\leSel p a b I col
 | I,.sel p0 a0 b0=>(∀i e,I i e->p0 i e=p i e)/\zcm (fun i e=>I i e/\p i e=true) a0 a/\zcm (fun i e=>I i e/\¬p i e=true) b0 b
 | I,c=>(∀i e,I i e->p i e=false)/\zcm I c b
theorem leSel_get{p:Nat->Nat->Bool}{a b:Col}:∀ {c:Col} {I:Nat->Nat->Prop},leSel p a b I c->∀ {i e:Nat},I i e->∀ {y:SC},(Col.sel p a b).get i e=some y->∃x,c.get i e=some x/\leSC x y:=by
 intro c
 have base:∀ {c:Col} {I:Nat->Nat->Prop},((∀i e,I i e->p i e=false)/\zcm I c b)->∀ {i e:Nat},I i e->∀ {y:SC},(Col.sel p a b).get i e=some y->∃x,c.get i e=some x/\leSC x y:=by
  intro c I h i e he y hy
  simp only[Col.get]at hy
  rw[if_neg (by rw[h.1 i e he];decide)]at hy
  exact zb0 h.2 he hy
 induction c with
 | ov i0 e0 d col ih=>
  intro I h i e he y hy
  have skip:((∀i' e',I i' e'->¬(i'=i0.v/\e'=e0.v))/\leSel p a b I col)->∃x,(Col.ov i0 e0 d col).get i e=some x/\leSC x y:=by
   intro h
   obtain⟨x,hx,hl⟩:=ih h.2 he hy
   exact⟨x,(if_neg (h.1 i e he)).trans hx,hl⟩
  cases d with
  | nilI=>
   simp only[leSel]at h
   obtain⟨h1,h2,h3⟩:=h
   by_cases hc:i=i0.v/\e=e0.v
   ·have h1:p i e=false:=by rw[hc.1,hc.2];exact h1 (by rw[<-hc.1,<-hc.2];exact he)
    have hy:b.get i e=some y:=(if_neg (by rw[h1];decide)).symm.trans hy
    split at h2
    ·cases hy
     exact⟨_,if_pos hc,trivial⟩
    ·exact h2.elim
   ·obtain⟨x,hx,hl⟩:=ih h3 ⟨he,hc⟩ hy
    exact⟨x,(if_neg hc).trans hx,hl⟩
  | _=>exact skip h
 | sel p0 a0 b0 _ _=>
  intro I h i e he y hy
  simp only[leSel]at h
  obtain⟨h1,h2,h3⟩:=h
  by_cases hn:p i e=true
  ·obtain⟨x,hx,hl⟩:=zb0 h2 ⟨he,hn⟩ ((if_pos hn).symm.trans hy)
   exact⟨x,(if_pos (by rw[h1 i e he];exact hn)).trans hx,hl⟩
  ·obtain⟨x,hx,hl⟩:=zb0 h3 ⟨he,hn⟩ ((if_neg hn).symm.trans hy)
   exact⟨x,(if_neg (by rw[h1 i e he];exact hn)).trans hx,hl⟩
 | _=>intro I h;exact base h
def leCol(I:Nat->Nat->Prop):Col->Col->Prop
 | _,.cu=>True
 | c,.sel p a b=>leSel p a b I c
 | .lt n a b,.lt n' a' b'=>n=n'/\zcm (fun i e=>I i e/\e<n) a a'/\zcm (fun i e=>I i e/\¬e<n) b b'
 | .lt n a _,d=>(∀i e,I i e->e<n)/\zcm I a d
 | c,.lt n' _ b'=>(∀i e,I i e->¬e<n')/\zcm I c b'
 | c,d=>zcm I c d
theorem zd4{I:Nat->Nat->Prop}:∀ {c d:Col},leCol I c d->∀ {i e:Nat},I i e->∀ {y:SC},d.get i e=some y->∃x,c.get i e=some x/\leSC x y:=by
 intro c d h i e he y hy
 unfold leCol at h
 split at h
 ·simp[Col.get]at hy
 ·exact leSel_get h he hy
 ·rename_i n a b n' a' b'
  obtain⟨rfl,h1,h2⟩:=h
  simp only[Col.get]at hy ⊢
  by_cases hn:e<n
  ·rw[if_pos hn]at hy ⊢;exact zb0 h1 ⟨he,hn⟩ hy
  ·rw[if_neg hn]at hy ⊢;exact zb0 h2 ⟨he,hn⟩ hy
 ·rename_i n a b _ _
  simp only[Col.get]
  rw[if_pos (h.1 i e he)]
  exact zb0 h.2 he hy
 ·rename_i n' a' b' _
  simp only[Col.get]at hy
  rw[if_neg (h.1 i e he)]at hy
  exact zb0 h.2 he hy
 ·exact zb0 h he hy
def zgc(I:Nat->Nat->Prop):List Col->List Col->Prop
 | [],[]=>True
 | x::l,y::m=>leCol I x y/\zgc I l m
 | _,_=>False
theorem zdc{I:Nat->Nat->Prop}:∀ {x y:List Col},zgc I x y->x.length=y.length/\∀(i:Nat) b,y[i]?=some b->∃a,x[i]?=some a/\leCol I a b
 | [],[],_=>⟨rfl,fun i b h=>by simp at h⟩
 | [],y::m,h=>h.elim
 | x::l,[],h=>h.elim
 | x::l,y::m,h=>by
  obtain⟨h1,h2⟩:=zdc h.2
  refine⟨by simp[h1],fun i b hb=>?_⟩
  cases i with
  | zero=>simp at hb;subst hb;exact⟨x,rfl,h.1⟩
  | succ i=>exact h2 i b (by simpa using hb)
def leOV:List (Option SC)->List Col->Prop
 | _,[]=>True
 | _::l,.cu::m=>leOV l m
 | some x::l,.ck [y]::m=>leSC x y/\leOV l m
 | _,_=>False
theorem leOV_at:∀ {l:List (Option SC)} {m:List Col},leOV l m->∀(f:Nat) col c,m[f]?=some col->col.get 0 0=some c->∃x,l[f]?=some (some x)/\leSC x c
 | _,[],_,f,col,c,hf,_=>by simp at hf
 | [],x::m,h,_,_,_,_,_=>by cases x<;>simp[leOV]at h
 | o::l,x::m,h,f,col,c,hf,hc=>by
  have key:leOV l m/\(∀c,x.get 0 0=some c->∃y,o=some y/\leSC y c):=by
   cases x with
   | cu=>exact⟨by simpa [leOV]using h,fun c hc=>by simp[Col.get]at hc⟩
   | ck q=>
    match q,o,h with
    | [y],some x,h=>
     simp only[leOV]at h
     exact⟨h.2,fun c hc=>by simp[Col.get]at hc;subst hc;exact⟨x,rfl,h.1⟩⟩
    | [],some _,h=>simp[leOV]at h
    | [],none,h=>simp[leOV]at h
    | [_],none,h=>simp[leOV]at h
    | _::_::_,some _,h=>simp[leOV]at h
    | _::_::_,none,h=>simp[leOV]at h
   | _=>cases o<;>simp[leOV]at h
  cases f with
  | zero=>simp at hf;subst hf;obtain⟨y,rfl,hy⟩:=key.2 c hc;exact⟨y,by simp,hy⟩
  | succ f=>simp only[List.getElem?_cons_succ]at hf ⊢;exact leOV_at key.1 f col c hf hc
def zdp:Blk->Blk->Prop
 | .own t size cs,.own t' size' cs'=>t=t'/\size=size'/\leOL cs cs'
 | .own _ _ cs,.view m' n' cols'=>m'<=1/\n' 0<=1/\leOV cs cols'
 | .row t cap n cols,.row t' cap' n' cols'=>t=t'/\cap=cap'/\n'<=n/\zgc (fun i e=>i=0/\e<n') cols cols'
 | .view m n cols,.view m' n' cols'=>m'<=m/\(∀i,i<m'->n' i<=n i)/\zgc (fun i e=>i<m'/\e<n' i) cols cols'
 | .fam rw t cap n cols,.fam rw' t' cap' n' cols'=>(rw=false->rw'=false)/\t=t'/\(∀i,cap i=cap' i\/cap' i=0)/\(∀i,n' i<=cap' i/\n' i<=n i)/\zgc (fun i e=>e<n' i) cols cols'
 | .row t cap n cols,.view m' n' cols'=>m'<=1/\(n' 0<=n/\n' 0<=cap)/\zgc (fun i e=>i=0/\e<n' 0) cols cols'
 | .fam rw t cap n cols,.view m' n' cols'=>(∀i,i<m'->n' i<=n i/\n' i<=cap i)/\zgc (fun i e=>i<m'/\e<n' i) cols cols'
 | _,_=>False
theorem zbh{b b':Blk}(h:zdp b b'):b'.isRow=true->b.isRow=true:=by
 cases b<;>cases b'<;>first|exact fun _=>rfl|exact h.elim|(intro h';exact h')|(intro h';cases h';done)|skip
 intro h'
 rename_i rw t cap n cols rw' t' cap' n' cols'
 have h':rw'=true:=h'
 show rw=true
 cases rw with
 | true=>rfl
 | false=>have:=h.1 rfl;rw[this]at h';cases h'
theorem zao{b b':Blk}(h:zdp b b'){i:Nat}(hi:b'.live i):b.live i:=by
 cases b<;>cases b'<;>first|exact h.elim|skip
 ·exact hi
 ·have h1:=h.1;have h2:=hi.1;show i=0;omega
 ·exact⟨hi.1,by have h2:=hi.2;have:=h.2.1;show 0<_;omega⟩
 ·have h1:=h.1;have h2:=h.2.1.2;have h3:=hi.1;have h4:=hi.2
  have:i=0:=by omega
  subst this
  exact⟨rfl,by show 0<_;omega⟩
 ·have h1:=h.1;have h2:=h.2.1 i hi.1;exact⟨Nat.lt_of_lt_of_le hi.1 h1,Nat.lt_of_lt_of_le hi.2 h2⟩
 ·have h1:=(h.1 i hi.1).2;have h2:=hi.2;show 0<_;omega
 ·rename_i rw t cap n cols rw' t' cap' n' cols'
  have hi:0<cap' i:=hi
  show 0<cap i
  rcases h.2.2.1 i with h1|h1<;>omega
theorem Blk.sat_le{n:Nat->Prop}{ρ:Rho}{k:Nat}{w:World}{b b':Blk}(hl:zdp b b')(h:b.sat n ρ k w):b'.sat n ρ k w:=by
 cases b<;>cases b'<;>try exact hl.elim
 ·obtain⟨rfl,rfl,hl⟩:=hl
  obtain⟨y,arr,h1,h2,h3,h4,h5⟩:=h
  obtain⟨g1,g2⟩:=leOL_at hl
  refine⟨y,arr,h1,h2,h3,by omega,fun i c hi=>?_⟩
  obtain⟨x,hx,hle⟩:=g2 i c hi
  obtain⟨v,hv,hs⟩:=h5 i x hx
  exact⟨v,hv,hs.le hle⟩
 ·obtain⟨hm,hn,hl⟩:=hl
  obtain⟨y,arr,h1,h2,h3,h4,h5⟩:=h
  intro i hi e he
  have hi0:i=0:=by omega
  subst hi0
  have he0:e=0:=by omega
  subst he0
  refine⟨y,0,h1,fun f col c hf hc=>?_⟩
  obtain⟨x,hx,hle⟩:=leOV_at hl f col c hf hc
  obtain⟨v,hv,hs⟩:=h5 f x hx
  exact⟨v,by rw[adr_zero,add_none,cell_of_row w y _ arr _ _ h2];simpa using hv,hs.le hle⟩
 ·obtain⟨rfl,rfl,hn,hl⟩:=hl
  obtain⟨g1,g2⟩:=zdc hl
  rcases h with h|⟨y,arr,h1,h2,h3,h4,h4',h5⟩
  ·exact .inl ⟨by omega,h.2⟩
  refine .inr ⟨y,arr,h1,h2,by rw[<-g1];exact h3,by omega,h4',fun e he f col c hf hc=>?_⟩
  obtain⟨x,hx,hle⟩:=g2 f col hf
  obtain⟨d,hd,hle'⟩:=zd4 hle ⟨rfl,he⟩ hc
  obtain⟨v,hv,hs⟩:=h5 e (by omega) f x d hx hd
  exact⟨v,by rw[<-g1];exact hv,hs.le hle'⟩
 ·obtain⟨hm,hn,hl⟩:=hl
  obtain⟨g1,g2⟩:=zdc hl
  intro i hi q hq
  have:i=0:=by omega
  subst this
  rcases h with h|⟨y,arr,h1,h2,h3,h4,h4',h5⟩
  ·omega
  refine⟨y,0,h1,fun f col c hf hc=>?_⟩
  obtain⟨x,hx,hle⟩:=g2 f col hf
  obtain⟨d,hd,hle'⟩:=zd4 hle ⟨rfl,hq⟩ hc
  obtain⟨v,hv,hs⟩:=h5 q (by omega) f x d hx hd
  exact⟨v,by rw[adr_zero,add_none,cell_of_row w y _ arr _ _ h2,Nat.zero_add,<-g1];exact hv,hs.le hle'⟩
 ·obtain⟨hm,hn,hl⟩:=hl
  obtain⟨g1,g2⟩:=zdc hl
  intro i hi q hq
  obtain⟨y,o,h1,h2⟩:=h i (by omega) q (by have:=hn i hi;omega)
  refine⟨y,o,h1,fun f col c hf hc=>?_⟩
  obtain⟨x,hx,hle⟩:=g2 f col hf
  obtain⟨d,hd,hle'⟩:=zd4 hle ⟨hi,hq⟩ hc
  obtain⟨v,hv,hs⟩:=h2 f x d hx hd
  exact⟨v,by rw[<-g1];exact hv,hs.le hle'⟩
 ·obtain⟨hn,hl⟩:=hl
  obtain⟨g1,g2⟩:=zdc hl
  obtain⟨_,_,h3⟩:=h
  intro i hi q hq
  obtain⟨y,arr,k1,k2,k3,k4⟩:=h3 i (by have:=(hn i hi).2;omega)
  refine⟨y,0,k1,fun f col c hf hc=>?_⟩
  obtain⟨x,hx,hle⟩:=g2 f col hf
  obtain⟨d,hd,hle'⟩:=zd4 hle ⟨hi,hq⟩ hc
  obtain⟨v,hv,hs⟩:=k4 q (by have:=(hn i hi).1;omega) f x d hx hd
  exact⟨v,by rw[adr_zero,add_none,cell_of_row w y _ arr _ _ k2,Nat.zero_add,<-g1];exact hv,hs.le hle'⟩
 ·rename_i rw t cap n0 cols rw' t' cap' n0' cols'
  obtain⟨hrw,rfl,hcap,hn,hl⟩:=hl
  obtain⟨g1,g2⟩:=zdc hl
  obtain⟨h1,h2,h3⟩:=h
  have lv:∀i,0<cap' i->0<cap i/\cap i=cap' i:=fun i hi=>by rcases hcap i with h|h<;>omega
  refine⟨fun i=>⟨(hn i).1,by have:=(h1 i).2;rcases hcap i with h|h<;>omega⟩,fun i j hi hj=>h2 i j (lv i hi).1 (lv j hj).1,fun i hi=>?_⟩
  obtain⟨y,arr,k1,k2,k3,k4⟩:=h3 i (lv i hi).1
  refine⟨y,arr,k1,k2,by rw[<-g1,<-(lv i hi).2];exact k3,fun e he f col c hf hc=>?_⟩
  obtain⟨x,hx,hle⟩:=g2 f col hf
  obtain⟨d,hd,hle'⟩:=zd4 hle he hc
  obtain⟨v,hv,hs⟩:=k4 e (by have:=(hn i).2;omega) f x d hx hd
  exact⟨v,by rw[<-g1];exact hv,hs.le hle'⟩
def leHL(h:HL):HL->Prop
 | []=>True
 | (k,b)::r=>(match find k h with|some c=>zdp c b|none=>False)/\leHL h r
theorem zet{h:HL}:∀ {r:HL},leHL h r->∀k b,find k r=some b->∃c,find k h=some c/\zdp c b
 | [],_,k,b,hf=>by simp[find]at hf
 | (k',b')::r,hl,k,b,hf=>by
  rw[zag]at hf
  split at hf
  ·rename_i e;cases hf;subst e
   have:=hl.1
   split at this
   ·exact⟨_,‹_›,this⟩
   ·exact this.elim
  ·exact zet hl.2 k b hf
def leTm:List (Option SV)->List (Option SV)->Prop
 | [],[]=>True
 | _::l,none::m=>leTm l m
 | some x::l,some y::m=>leSV x y/\leTm l m
 | _,_=>False
theorem leTm_at:∀ {l m:List (Option SV)},leTm l m->m.length=l.length/\∀(i:Nat) y,m[i]?=some (some y)->∃x,l[i]?=some (some x)/\leSV x y
 | [],[],_=>⟨rfl,fun i y h=>by simp at h⟩
 | x::l,[],h=>by cases x<;>exact h.elim
 | [],y::m,h=>by cases y<;>exact h.elim
 | x::l,none::m,h=>by
  have h':leTm l m:=by cases x<;>exact h
  obtain⟨h1,h2⟩:=leTm_at h'
  refine⟨by simp[h1],fun i y hy=>?_⟩
  cases i with
  | zero=>simp at hy
  | succ i=>exact h2 i y (by simpa using hy)
 | none::l,some y::m,h=>h.elim
 | some x::l,some y::m,h=>by
  obtain⟨h1,h2⟩:=leTm_at h.2
  refine⟨by simp[h1],fun i z hz=>?_⟩
  cases i with
  | zero=>simp at hz;subst hz;exact⟨x,rfl,h.1⟩
  | succ i=>exact h2 i z (by simpa using hz)
def leSt(s t:St):Prop:=s.H.D=t.H.D/\s.H.nxt<=t.H.nxt/\leTm s.tmps t.tmps/\leHL s.H.h t.H.h
theorem Inv.le{φ:Fr}{ρ:Rho}{s t:St}{a:Act}{w:World}(h:Inv φ ρ s a w)(hl:leSt s t):Inv φ ρ t a w:=by
 obtain⟨hD,hn,ht,hh⟩:=hl
 have hsc:∀k,s.H.sc k->t.H.sc k:=fun k hk=>⟨Nat.lt_of_lt_of_le hk.1 hn,hD ▸ hk.2⟩
 obtain⟨g1,g2⟩:=leTm_at ht
 refine⟨⟨h.heap.fr,fun k hk=>hD ▸ h.heap.up k (Nat.le_trans hn hk),?_,?_,?_,?_,?_⟩,h.defers,by rw[h.size,g1],?_⟩
 ·intro k b hf;obtain⟨c,hc,_⟩:=zet hh k b hf;exact hsc k (h.heap.lt k c hc)
 ·intro k b hf
  obtain⟨c,hc,hle⟩:=zet hh k b hf
  exact Blk.sat_le hle (Blk.sat_ext (h.heap.sat k c hc) (.refl _ _) hsc (h.heap.lt k c hc))
 ·intro k b hf i hi;obtain⟨c,hc,hle⟩:=zet hh k b hf;exact h.heap.bd k c hc i (zao hle hi)
 ·intro k b hf hr i hi;obtain⟨c,hc,hle⟩:=zet hh k b hf;exact h.heap.may k c hc (zbh hle hr) i (zao hle hi)
 ·intro k b hf hr k' b' hf' hne j i hj hi
  obtain⟨c,hc,hle⟩:=zet hh k b hf
  obtain⟨c',hc',hle'⟩:=zet hh k' b' hf'
  exact h.heap.sep k c hc (zbh hle hr) k' c' hc' hne j i (zao hle hj) (zao hle' hi)
 ·intro k y hy
  obtain⟨x,hx,hle⟩:=g2 k y hy
  obtain⟨v,hv,hs⟩:=h.tmps k x hx
  exact⟨v,hv,(hs.ext (.refl _ _) hsc).le hle⟩
def renK(n:Nat)(l:List Nat)(m:Nat)(k:Nat):Nat:=match Nat.blt k n with|true=>(l[k]?).getD 0|false=>m+(k-n)
def renH(r:Nat->Nat)(h:HL):HL:=h.map fun p=>(r p.1,p.2.ren r)
def leHLr(r:Nat->Nat)(h:HL):HL->Prop
 | []=>True
 | (k,b)::t=>(match find (r k) h with|some c=>zdp c (b.ren r)|none=>False)/\leHLr r h t
theorem zc0{σ:Nat->Nat}{h:HL}:∀ {r:HL},leHLr σ h r->∀k b,find k r=some b->∃c,find (σ k) h=some c/\zdp c (b.ren σ)
 | [],_,k,b,hf=>by simp[find]at hf
 | (k',b')::r,hl,k,b,hf=>by
  rw[zag]at hf
  split at hf
  ·rename_i e;cases hf;subst e
   have:=hl.1
   split at this
   ·exact⟨_,‹_›,this⟩
   ·exact this.elim
  ·exact zc0 hl.2 k b hf
theorem za9{r:Nat->Nat}{z:Nat}{b:Blk}:∀ {h:HL},find z (renH r h)=some b->∃k b0,find k h=some b0/\z=r k/\b=b0.ren r
 | [],h=>by simp[renH,find]at h
 | (k,c)::t,h=>by
  have h':find z ((r k,c.ren r)::renH r t)=some b:=h
  rw[zag]at h'
  split at h'
  ·rename_i e;cases h'
   exact⟨k,c,by rw[zag,if_pos rfl],e,rfl⟩
  ·rename_i e
   obtain⟨k2,b0,h1,h2,h3⟩:=za9 h'
   refine⟨k2,b0,?_,h2,h3⟩
   rw[zag,if_neg (by rintro rfl;exact e h2)];exact h1
def za5:List Nat->Bool
 | []=>true
 | x::l=>!(mem x l)&&za5 l
theorem zgl:∀ {l:List Nat},za5 l=true->∀(i j:Nat) x,l[i]?=some x->l[j]?=some x->i=j
 | [],_,i,j,x,h,_=>by simp at h
 | y::l,h,i,j,x,hi,hj=>by
  simp only[za5,zx,Bool.not_eq_true']at h
  have hy:y∉l:=fun hm=>by rw[zau.2 hm]at h;cases h.1
  cases i with
  | zero=>
   cases j with
   | zero=>rfl
   | succ j=>
    simp at hi hj;subst hi
    exact absurd (List.mem_of_getElem? hj) hy
  | succ i=>
   cases j with
   | zero=>
    simp at hi hj;subst hj
    exact absurd (List.mem_of_getElem? hi) hy
   | succ j=>rw[zgl h.2 i j x (by simpa using hi) (by simpa using hj)]
def covers(n:Nat)(h0:HL):Bool:=(List.range n).all (fun k=>(find k h0).isSome)&&h0.all fun p=>Nat.blt p.1 n
def zba:HL->HL
 | []=>[]
 | (k,b)::h=>match b.isRow with
  | true=>(k,b)::zba h
  | false=>zba h
theorem zco{k:Nat}{b:Blk}:∀ {h:HL},za5 (h.map (·.1))=true->find k (zba h)=some b->find k h=some b/\b.isRow=true
 | [],_,h=>by simp[zba,find]at h
 | (k',b')::t,hn,h=>by
  simp only[List.map_cons,za5,zx,Bool.not_eq_true']at hn
  obtain⟨hn1,hn2⟩:=hn
  simp only[zba]at h
  rw[zag]
  cases hr:b'.isRow with
  | true=>
   rw[hr]at h
   rw[zag]at h
   split at h
   ·rename_i e;cases h;rw[if_pos e];exact⟨rfl,hr⟩
   ·rename_i e;rw[if_neg e];exact zco hn2 h
  | false=>
   rw[hr]at h
   obtain⟨g1,g2⟩:=zco hn2 h
   rw[if_neg ?_]
   ·exact⟨g1,g2⟩
   ·rintro rfl
    have hm:k∈t.map (·.1):=ze8 g1
    rw[zau.2 hm]at hn1;cases hn1
def zbn(h0:HL):List Nat->Nat->List Nat
 | [],_=>[]
 | z::σ,k=>match (match find k h0 with|some b=>b.isRow|none=>true) with
  | true=>z::zbn h0 σ (k+1)
  | false=>zbn h0 σ (k+1)
theorem rowNames_at{h0:HL}:∀ {σ:List Nat} {k j z:Nat} {b:Blk},σ[j]?=some z->find (k+j) h0=some b->b.isRow=true->z∈zbn h0 σ k
 | [],k,j,z,b,h,_,_=>by simp at h
 | x::σ,k,0,z,b,h,hb,hr=>by
  simp at h;subst h
  simp only[zbn]
  rw[Nat.add_zero]at hb
  rw[hb];simp only[hr]
  exact List.mem_cons_self
 | x::σ,k,j+1,z,b,h,hb,hr=>by
  have ih:z∈zbn h0 σ (k+1):=rowNames_at (j:=j) (by simpa using h) (by rw[<-hb];congr 1;omega) hr
  simp only[zbn]
  split<;>first|exact List.mem_cons_of_mem _ ih|exact ih
def zah(P:Program)(f:FuncId)(args:List SV)(h0:HL)(n:Nat)(post:Out (SV×Hp)):Prop:=
 ∀(φ:Fr) (ρ:Rho) (w:World) (vs:List Value) (K:SV×Hp->Prop),HInv φ ρ ⟨h0,n,fun _=>True⟩ w->VIs (Hp.sc ⟨h0,n,fun _=>True⟩) ρ args vs->post.holds K->
  Calls P f vs.toArray w fun e w'=>∃v ρ' sv H',e=.returned v/\K (sv,H')/\zat (Hp.sc ⟨h0,n,fun _=>True⟩) ρ ρ'/\Hp.le ⟨h0,n,fun _=>True⟩ H'/\HInv φ ρ' H' w'/\SIs H'.sc ρ' sv v
theorem zbz.local{P:Program}{callT:CallT}(hc:zbz P callT)(f:FuncId)(args:List SV)(h0:HL)(n:Nat):zah P f args h0 n (callT f args ⟨h0,n,fun _=>True⟩):=
 fun φ ρ w vs K h hv hh=>hc φ ρ _ w f args vs K h hv hh
theorem zah.mono{P:Program}{f:FuncId}{args:List SV}{h0:HL}{n:Nat}{p q:Out (SV×Hp)}(h:zah P f args h0 n p)(hpq:∀K,q.holds K->p.holds K):zah P f args h0 n q:=
 fun φ ρ w vs K hi hv hh=>h φ ρ w vs K hi hv (hpq K hh)
def useT(σ:List Nat)(n:Nat)(args0:List SV)(h0:HL)(post:Out (SV×Hp))(args:List SV)(H:Hp):Out (SV×Hp):=
 chk (zu σ.length n&&za5 σ&&covers n h0) (.need (leVs args (args0.map (SV.ren (renK n σ H.nxt)))/\leHLr (renK n σ H.nxt) H.h h0) (post.bind fun q=>
  chk (za5 (q.2.h.map (·.1))) (fSV (q.1.ren (renK n σ H.nxt)) fun sv=>fHL (renH (renK n σ H.nxt) (zba q.2.h)++zaw (zbn h0 σ 0) H.h) fun h=>fN (H.nxt+(q.2.nxt-n)) fun nxt=>.leaf (sv,⟨h,nxt,H.D⟩)) 320)) 321
theorem use_ok{P:Program}{f:FuncId}{σ:List Nat}{n:Nat}{args0:List SV}{h0:HL}{post:Out (SV×Hp)}(hloc:zah P f args0 h0 n post)
  {φ:Fr} {ρ:Rho} {H:Hp} {w:World} {args:List SV} {vs:List Value} {K:SV×Hp->Prop} (h:HInv φ ρ H w) (hv:VIs H.sc ρ args vs) (hh:(useT σ n args0 h0 post args H).holds K):
  Calls P f vs.toArray w fun e w'=>∃v ρ' sv H',e=.returned v/\K (sv,H')/\zat H.sc ρ ρ'/\H.le H'/\HInv φ ρ' H' w'/\SIs H'.sc ρ' sv v:=by
 unfold useT at hh
 obtain⟨hb,⟨hl1,hl2⟩,hh⟩:=zaf hh
 simp only[zx]at hb
 obtain⟨⟨hlen,hnd⟩,hcov⟩:=hb
 replace hlen:=zq hlen
 simp only[covers,zx,List.all_eq_true,List.mem_range]at hcov
 obtain⟨hcov,hlt0⟩:=hcov
 rw[Out.holds_bind]at hh
 generalize hσ:renK n σ H.nxt=s at hl1 hl2 hh
 have s1:∀k,k<n->∃z,σ[k]?=some z/\s k=z:=by
  intro k hk
  have hk':k<σ.length:=by omega
  refine⟨σ[k],List.getElem?_eq_getElem hk',?_⟩
  rw[<-hσ];unfold renK
  have:Nat.blt k n=true:=by simpa [Nat.blt_eq]using hk
  rw[this];simp[List.getElem?_eq_getElem hk']
 have s2:∀k,n<=k->s k=H.nxt+(k-n):=by
  intro k hk
  rw[<-hσ];unfold renK
  have:Nat.blt k n=false:=by
   cases hb:Nat.blt k n with
   | false=>rfl
   | true=>rw[Nat.blt_eq]at hb;omega
  rw[this]
 have fnd:∀k,k<n->∃b c,find k h0=some b/\find (s k) H.h=some c/\zdp c (b.ren s):=by
  intro k hk
  obtain⟨b,hb⟩:=Option.isSome_iff_exists.1 (hcov k hk)
  obtain⟨c,hc,hle⟩:=zc0 hl2 k b hb
  exact⟨b,c,hb,hc,hle⟩
 have ssc:∀k,k<n->H.sc (s k):=by
  intro k hk
  obtain⟨b,c,_,hc,_⟩:=fnd k hk
  exact h.lt _ c hc
 have sinj:∀k k',s k=s k'->k=k':=by
  intro k k' he
  rcases Nat.lt_or_ge k n with h1|h1<;>rcases Nat.lt_or_ge k' n with h2|h2
  ·obtain⟨z,g1,g2⟩:=s1 k h1
   obtain⟨z',g1',g2'⟩:=s1 k' h2
   have:z=z':=by rw[<-g2,<-g2',he]
   subst this
   exact zgl hnd k k' z g1 g1'
  ·have:=(ssc k h1).1;rw[he,s2 k' h2]at this;omega
  ·have:=(ssc k' h2).1;rw[<-he,s2 k h1]at this;omega
  ·rw[s2 k h1,s2 k' h2]at he;omega
 have smem:∀z,z∉zbn h0 σ 0->∀k b,k<n->find k h0=some b->b.isRow=true->z≠s k:=by
  rintro z hz k b hk hb hr rfl
  obtain⟨z',g1,g2⟩:=s1 k hk
  rw[g2]at hz
  exact hz (rowNames_at g1 (by rw[Nat.zero_add];exact hb) hr)
 obtain⟨ρ0,r1,r2⟩:∃ρ0:Rho,(∀k,k<n->ρ0 k=ρ (s k))/\∀k,n<=k->∀i,ρ0 k i=none:=
  ⟨fun k=>if k<n then ρ (s k) else fun _=>none,fun k hk=>if_pos hk,fun k hk i=>by simp only[if_neg (Nat.not_lt.2 hk)]⟩
 have hback:Back (Hp.sc ⟨h0,n,fun _=>True⟩) H.sc ρ0 ρ s:=by
  intro r ha
  refine⟨fun z=>if z<H.nxt then ρ z else r (z-H.nxt+n),fun z hz=>if_pos hz.1,fun k=>?_⟩
  rcases Nat.lt_or_ge k n with h1|h1
  ·simp only[if_pos (ssc k h1).1]
   rw[<-r1 k h1];exact(ha k ⟨h1,trivial⟩).symm
  ·rw[s2 k h1]
   have:¬(H.nxt+(k-n)<H.nxt):=by omega
   simp only[if_neg this]
   congr 1;omega
 have hlt0':∀k b,find k h0=some b->k<n:=by
  intro k b hf
  have hm:∃p∈h0,p.1=k:=by
   have:=ze8 hf
   simpa using this
  obtain⟨p,hp,rfl⟩:=hm
  have:=hlt0 p hp
  rwa [Nat.blt_eq]at this
 have hinv0:HInv ⟨w,fun y=>∃k b i o,find k h0=some b/\b.isRow=true/\b.live i/\ρ0 k i=some (y,o)⟩ ρ0 ⟨h0,n,fun _=>True⟩ w:=by
  refine⟨⟨rfl,rfl,rfl,Z _,fun _ _ _=>rfl⟩,fun _ _=>trivial,fun k b hf=>⟨hlt0' k b hf,trivial⟩,?_,?_,fun k b hf hr i hi y o hy=>.inl ⟨k,b,i,o,hf,hr,hi,hy⟩,?_⟩
  ·intro k b hf
   obtain⟨c,hc,hle⟩:=zc0 hl2 k b hf
   exact Blk.sat_unren (r1 k (hlt0' k b hf)) hback (Blk.sat_le hle (h.sat (s k) c hc))
  ·intro k b hf i hi y o hy
   obtain⟨c,hc,hle⟩:=zc0 hl2 k b hf
   rw[r1 k (hlt0' k b hf)]at hy
   exact h.bd (s k) c hc i (zao hle (by rw[Blk.ren_live];exact hi)) y o hy
  ·intro k b hf hr k' b' hf' hne j i hj hi y o y' o' hy hy'
   obtain⟨c,hc,hle⟩:=zc0 hl2 k b hf
   obtain⟨c',hc',hle'⟩:=zc0 hl2 k' b' hf'
   rw[r1 k (hlt0' k b hf)]at hy
   rw[r1 k' (hlt0' k' b' hf')]at hy'
   exact h.sep (s k) c hc (zbh hle (by rw[Blk.ren_isRow];exact hr)) (s k') c' hc' (fun e=>hne (sinj _ _ e)) j i (zao hle (by rw[Blk.ren_live];exact hj)) (zao hle' (by rw[Blk.ren_live];exact hi)) y o y' o' hy hy'
 -- what is owned here may be written there
 have own:∀y,(∃k b i o,find k h0=some b/\b.isRow=true/\b.live i/\ρ0 k i=some (y,o))->∃k b0 c i o,k<n/\find k h0=some b0/\b0.isRow=true/\find (s k) H.h=some c/\c.isRow=true/\c.live i/\ρ (s k) i=some (y,o):=by
  rintro y ⟨k,b,i,o,hf,hr,hi,hy⟩
  obtain⟨c,hc,hle⟩:=zc0 hl2 k b hf
  have hk:=hlt0' k b hf
  exact⟨k,b,c,i,o,hk,hf,hr,hc,zbh hle (by rw[Blk.ren_isRow];exact hr),zao hle (by rw[Blk.ren_live];exact hi),by rw[<-r1 k hk];exact hy⟩
 refine(hloc _ ρ0 w vs _ hinv0 (VIs.unren hback (hv.le hl1)) hh).mono ?_
 rintro e w' ⟨v,ρ0',sv,H0',rfl,hK,a1,a2,a3,a4⟩
 obtain⟨hnr,hK⟩:=zaf hK
 simp only[fSV_eq,fHL_eq,fN_eq]at hK
 have hn:n<=H0'.nxt:=a2.nxt
 have hD0:∀z,H0'.D z:=fun z=>by rw[a2.D];trivial
 obtain⟨ρ',p1,p2⟩:∃ρ':Rho,(∀z,z<H.nxt->ρ' z=ρ z)/\∀k,n<=k->ρ' (s k)=ρ0' k:=
  ⟨fun z=>if z<H.nxt then ρ z else ρ0' (z-H.nxt+n),fun z hz=>if_pos hz,fun k hk=>by
   rw[s2 k hk]
   have:¬(H.nxt+(k-n)<H.nxt):=by omega
   simp only[if_neg this]
   congr 1;omega⟩
 have pr:∀k,ρ' (s k)=ρ0' k:=by
  intro k
  rcases Nat.lt_or_ge k n with h1|h1
  ·rw[p1 _ (ssc k h1).1,<-r1 k h1];exact(a1 k ⟨h1,trivial⟩).symm
  ·exact p2 k h1
 have pm:∀k,H0'.sc k->Hp.sc ⟨renH s (zba H0'.h)++zaw (zbn h0 σ 0) H.h,H.nxt+(H0'.nxt-n),H.D⟩ (s k):=by
  intro k hk
  rcases Nat.lt_or_ge k n with h1|h1
  ·exact⟨Nat.lt_of_lt_of_le (ssc k h1).1 (Nat.le_add_right _ _),(ssc k h1).2⟩
  ·have hk1:=hk.1
   rw[s2 k h1]
   exact⟨by show H.nxt+(k-n)<H.nxt+(H0'.nxt-n);omega,h.up _ (Nat.le_add_right _ _)⟩
 have pag:zat H.sc ρ ρ':=fun z hz=>p1 z hz.1
 have psc:∀z,H.sc z->Hp.sc ⟨renH s (zba H0'.h)++zaw (zbn h0 σ 0) H.h,H.nxt+(H0'.nxt-n),H.D⟩ z:=fun z hz=>⟨Nat.lt_of_lt_of_le hz.1 (Nat.le_add_right _ _),hz.2⟩
 have spl:∀z b,find z (renH s (zba H0'.h)++zaw (zbn h0 σ 0) H.h)=some b->(∃k b0,find k H0'.h=some b0/\b0.isRow=true/\z=s k/\b=b0.ren s)\/(z∉zbn h0 σ 0/\find z H.h=some b):=by
  intro z b hf
  rw[zct,Option.or_eq_some_iff]at hf
  rcases hf with hf|⟨_,hf⟩
  ·obtain⟨k,b0,g1,g2,g3⟩:=za9 hf
   obtain⟨g4,g5⟩:=zco hnr g1
   exact .inl ⟨k,b0,g4,g5,g2,g3⟩
  ·rw[zcf]at hf
   split at hf
   ·cases hf
   ·exact .inr ⟨‹_›,hf⟩
 have ownmay:∀y,(∃k b i o,find k h0=some b/\b.isRow=true/\b.live i/\ρ0 k i=some (y,o))->φ.may y:=by
  intro y hy
  obtain⟨k,_,c,i,o,_,_,_,hc,hr,hi,hρ⟩:=own y hy
  exact h.may (s k) c hc hr i hi y o hρ
 have keep:∀z b,z∉zbn h0 σ 0->find z H.h=some b->∀i,b.live i->∀y o,ρ z i=some (y,o)->¬ ∃k b i o,find k h0=some b/\b.isRow=true/\b.live i/\ρ0 k i=some (y,o):=by
  intro z b hz hf i hi y o hy hown
  obtain⟨k,b1,c,i',o',hk,hb1,hr1,hc,hr,hi',hρ⟩:=own y hown
  exact h.sep (s k) c hc hr z b hf (smem z hz k b1 hk hb1 hr1) i' i hi' hi y o' y o hρ hy rfl
 refine⟨v,ρ',_,_,rfl,hK,pag,⟨Nat.le_add_right _ _,rfl⟩,⟨?_,?_,?_,?_,?_,?_,?_⟩,SIs.ren pm (fun k _=>pr k) a4⟩
 ·refine⟨a3.fr.os.trans h.fr.os,a3.fr.tape.trans h.fr.tape,a3.fr.output.trans h.fr.output,Nat.le_trans h.fr.size a3.fr.size,fun b hb hno=>?_⟩
  rw[<-h.fr.block b hb hno]
  refine a3.fr.block b (Nat.lt_of_lt_of_le hb h.fr.size) fun hown=>?_
  rcases ownmay b hown with g|g
  ·exact hno g
  ·omega
 ·exact fun z hz=>h.up z (Nat.le_trans (Nat.le_add_right _ _) hz)
 ·intro z b hf
  rcases spl z b hf with⟨k,b0,g1,gr,rfl,rfl⟩|⟨g1,g2⟩
  ·exact pm k (a3.lt k b0 g1)
  ·exact psc z (h.lt z b g2)
 ·intro z b hf
  rcases spl z b hf with⟨k,b0,g1,gr,rfl,rfl⟩|⟨g1,g2⟩
  ·exact Blk.sat_ren (pr k).symm pm (fun k _=>pr k) (a3.sat k b0 g1)
  ·refine Blk.sat_ext (Blk.sat_world (h.sat z b g2) fun i hi y o hy=>?_) pag psc (h.lt z b g2)
   exact a3.fr.block y (h.bd z b g2 i hi y o hy) (keep z b g1 g2 i hi y o hy)
 ·intro z b hf i hi y o hy
  rcases spl z b hf with⟨k,b0,g1,gr,rfl,rfl⟩|⟨g1,g2⟩
  ·rw[pr k]at hy;exact a3.bd k b0 g1 i (by rw[Blk.ren_live]at hi;exact hi) y o hy
  ·rw[p1 z (h.lt z b g2).1]at hy
   exact Nat.lt_of_lt_of_le (h.bd z b g2 i hi y o hy) a3.fr.size
 ·intro z b hf hr i hi y o hy
  rcases spl z b hf with⟨k,b0,g1,gr,rfl,rfl⟩|⟨g1,g2⟩
  ·rw[pr k]at hy
   rcases a3.may k b0 g1 (by rw[<-Blk.ren_isRow s];exact hr) i (by rw[Blk.ren_live]at hi;exact hi) y o hy with g|g
   ·exact ownmay y g
   ·exact .inr (Nat.le_trans h.fr.size g)
  ·rw[p1 z (h.lt z b g2).1]at hy
   exact h.may z b g2 hr i hi y o hy
 ·intro z b hf hr z' b' hf' hne j i hj hi y o y' o' hy hy'
  rcases spl z b hf with⟨k,b0,g1,gr,rfl,rfl⟩|⟨g1,g2⟩<;>rcases spl z' b' hf' with⟨k',b0',g1',gr',rfl,rfl⟩|⟨g1',g2'⟩
  ·rw[pr k]at hy
   rw[pr k']at hy'
   exact a3.sep k b0 g1 (by rw[<-Blk.ren_isRow s];exact hr) k' b0' g1' (fun e=>hne (by rw[e])) j i (by rw[Blk.ren_live]at hj;exact hj) (by rw[Blk.ren_live]at hi;exact hi) y o y' o' hy hy'
  ·rw[pr k]at hy
   rw[p1 z' (h.lt z' b' g2').1]at hy'
   rcases a3.may k b0 g1 (by rw[<-Blk.ren_isRow s];exact hr) j (by rw[Blk.ren_live]at hj;exact hj) y o hy with g|g
   ·rintro rfl
    exact keep z' b' g1' g2' i hi y' o' hy' g
   ·have:=h.bd z' b' g2' i hi y' o' hy'
    have g':w.heap.size<=y:=g
    omega
  ·rw[p1 z (h.lt z b g2).1]at hy
   rw[pr k']at hy'
   rcases a3.may k' b0' g1' gr' i (by rw[Blk.ren_live]at hi;exact hi) y' o' hy' with g|g
   ·rintro rfl
    exact keep z b g1 g2 j hj y' o hy g
   ·have:=h.bd z b g2 j hj y o hy
    have g':w.heap.size<=y':=g
    omega
  ·rw[p1 z (h.lt z b g2).1]at hy
   rw[p1 z' (h.lt z' b' g2').1]at hy'
   exact h.sep z b g2 hr z' b' g2' hne j i hj hi y o y' o' hy hy'
theorem contract_of_use{P:Program}{f:FuncId}{c:List SV->Hp->Out (SV×Hp)}(hc:∀args H,(∃n,c args H=.bad n)\/∃σ n args0 h0 post,c args H=useT σ n args0 h0 post args H/\zah P f args0 h0 n post):zab P f c:=by
 intro φ ρ H w args vs K h hv hh
 rcases hc args H with⟨n,e⟩|⟨σ,n,args0,h0,post,e,hl⟩
 ·rw[e]at hh;exact hh.elim
 ·rw[e]at hh
  exact use_ok hl h hv hh
theorem SC.den_congr{ρ ρ':Rho}{c:SC}(h:∀k∈c.keys,ρ' k=ρ k):c.den ρ'=c.den ρ:=by
 cases c<;>simp_all [SC.keys,SC.den,zal]
theorem SV.den_congr{ρ ρ':Rho}{c:SV}(h:∀k∈c.allKeys,ρ' k=ρ k):c.den ρ'=c.den ρ:=by
 cases c with
 | c x=>exact SC.den_congr h
 | a l=>
  simp only[SV.den]
  congr 2
  exact List.map_congr_left fun x hx=>SC.den_congr fun k hk=>h k (List.mem_flatMap.2 ⟨x,hx,hk⟩)
 | t l=>
  simp only[SV.den]
  congr 2
  refine List.map_congr_left fun x hx=>?_
  have hx':∀k∈x.keys,ρ' k=ρ k:=fun k hk=>h k (List.mem_flatMap.2 ⟨x,hx,hk⟩)
  cases x with
  | c y=>exact SC.den_congr hx'
  | a m=>
   simp only[TE.den]
   congr 2
   exact List.map_congr_left fun y hy=>SC.den_congr fun k hk=>hx' k (List.mem_flatMap.2 ⟨y,hy,hk⟩)
def keysB(n:Nat)(l:List Nat):Bool:=l.all fun k=>Nat.blt k n
theorem keysB_h{n:Nat}{l:List Nat}(h:keysB n l=true):∀k∈l,k<n:=by
 intro k hk
 have:=List.all_eq_true.1 h k hk
 rwa [Nat.blt_eq]at this
def tmOK(n:Nat):List (Option SV)->Bool
 | []=>true
 | none::l=>tmOK n l
 | some v::l=>keysB n v.allKeys&&tmOK n l
theorem tmOK_h{n:Nat}:∀ {l:List (Option SV)},tmOK n l=true->∀(i:Nat) v,l[i]?=some (some v)->∀k∈v.allKeys,k<n
 | [],_,i,v,h=>by simp at h
 | none::l,ho,i,v,h=>by
  cases i with
  | zero=>simp at h
  | succ i=>exact tmOK_h (l:=l) ho i v (by simpa using h)
 | some x::l,ho,i,v,h=>by
  simp only[tmOK,zx]at ho
  cases i with
  | zero=>simp at h;subst h;exact keysB_h ho.1
  | succ i=>exact tmOK_h ho.2 i v (by simpa using h)
def hpOK(n:Nat):HL->Bool
 | []=>true
 | (k,b)::l=>Nat.blt k n&&keysB n b.keys&&hpOK n l
theorem zeg{n:Nat}:∀ {l:HL},hpOK n l=true->∀k b,find k l=some b->k<n/\∀j∈b.keys,j<n
 | [],_,k,b,h=>by simp[find]at h
 | (k',b')::l,ho,k,b,h=>by
  simp only[hpOK,zx,Nat.blt_eq]at ho
  rw[zag]at h
  split at h
  ·rename_i e;cases h;subst e;exact⟨ho.1.1,keysB_h ho.1.2⟩
  ·exact zeg ho.2 k b h
def stOK(s:St):Bool:=tmOK s.H.nxt s.tmps&&hpOK s.H.nxt s.H.h
theorem CIs.shrink{n m:Nat->Prop}{ρ:Rho}{c:SC}{v:Value}(h:CIs n ρ c v)(hk:∀k∈c.keys,m k):CIs m ρ c v:=fun r ha=>by
 rw[SC.den_congr (ρ:=ρ) fun k hk'=>ha k (hk k hk')]
 exact h ρ (.refl _ _)
theorem SIs.shrink{n m:Nat->Prop}{ρ:Rho}{c:SV}{v:Value}(h:SIs n ρ c v)(hk:∀k∈c.allKeys,m k):SIs m ρ c v:=fun r ha=>by
 rw[SV.den_congr (ρ:=ρ) fun k hk'=>ha k (hk k hk')]
 exact h ρ (.refl _ _)
theorem CIs.of_keys{m:Nat->Prop}{ρ:Rho}{c:SC}{v:Value}(h:c.den ρ=v)(hk:∀k∈c.keys,m k):CIs m ρ c v:=fun r ha=>by
 rw[SC.den_congr (ρ:=ρ) fun k hk'=>ha k (hk k hk')];exact h
theorem SIs.of_keys{m:Nat->Prop}{ρ:Rho}{c:SV}{v:Value}(h:c.den ρ=v)(hk:∀k∈c.allKeys,m k):SIs m ρ c v:=fun r ha=>by
 rw[SV.den_congr (ρ:=ρ) fun k hk'=>ha k (hk k hk')];exact h
theorem Col.get_keys:∀ {c:Col} {i e:Nat} {x:SC},c.get i e=some x->∀k∈x.keys,k∈c.keys:=by
 intro c
 induction c with
 | ci k g=>intro i e x h;simp[Col.get]at h;subst h;intro k hk;simp[SC.keys]at hk
 | cb g=>intro i e x h;simp[Col.get]at h;subst h;intro k hk;simp[SC.keys]at hk
 | cs key sz ix len cap=>intro i e x h;simp[Col.get]at h;subst h;intro k hk;simpa [SC.keys,Col.keys]using hk
 | cp key ix f sz=>intro i e x h;simp[Col.get]at h;subst h;intro k hk;simpa [SC.keys,Col.keys]using hk
 | cf t key ix f sz=>intro i e x h;simp[Col.get]at h;subst h;intro k hk;simpa [SC.keys,Col.keys]using hk
 | ck l=>
  intro i e x h
  simp only[Col.get]at h
  exact fun k hk=>List.mem_flatMap.2 ⟨x,List.mem_of_getElem? h,hk⟩
 | cu=>intro i e x h;simp[Col.get]at h
 | cc d=>intro i e x h;simp[Col.get]at h;subst h;intro k hk;exact hk
 | ov i0 e0 d col ih=>
  intro i e x h k hk
  simp only[Col.get]at h
  split at h
  ·cases h;exact List.mem_append.2 (.inl hk)
  ·exact List.mem_append.2 (.inr (ih h k hk))
 | lt n a b iha ihb=>
  intro i e x h k hk
  simp only[Col.get]at h
  split at h
  ·exact List.mem_append.2 (.inl (iha h k hk))
  ·exact List.mem_append.2 (.inr (ihb h k hk))
 | sel p a b iha ihb=>
  intro i e x h k hk
  simp only[Col.get]at h
  split at h
  ·exact List.mem_append.2 (.inl (iha h k hk))
  ·exact List.mem_append.2 (.inr (ihb h k hk))
theorem Blk.sat_shrink{n m:Nat->Prop}{ρ:Rho}{key:Nat}{w:World}{b:Blk}(h:b.sat n ρ key w)(hk:∀k∈b.keys,m k):b.sat m ρ key w:=by
 cases b with
 | own t size cs=>
  obtain⟨y,arr,h1,h2,h3,h4,h5⟩:=h
  exact⟨y,arr,h1,h2,h3,h4,fun i c hc=>let ⟨v,hv,hi⟩:=h5 i c hc;⟨v,hv,hi.shrink fun k hk'=>hk k (List.mem_flatMap.2 ⟨some c,List.mem_of_getElem? hc,hk'⟩)⟩⟩
 | row t cap l cols=>
  rcases h with h|⟨y,arr,h1,h2,h3,h4,h4',h5⟩
  ·exact .inl h
  exact .inr ⟨y,arr,h1,h2,h3,h4,h4',fun e he f col c hf hc=>let ⟨v,hv,hs⟩:=h5 e he f col c hf hc
   ⟨v,hv,hs.shrink fun k hk'=>hk k (List.mem_flatMap.2 ⟨col,List.mem_of_getElem? hf,Col.get_keys hc k hk'⟩)⟩⟩
 | view l len cols=>
  intro i hi q hq
  obtain⟨y,o,h1,h2⟩:=h i hi q hq
  exact⟨y,o,h1,fun f col c hf hc=>let ⟨v,hv,hs⟩:=h2 f col c hf hc
   ⟨v,hv,hs.shrink fun k hk'=>hk k (List.mem_flatMap.2 ⟨col,List.mem_of_getElem? hf,Col.get_keys hc k hk'⟩)⟩⟩
 | fam rw t cap len cols=>
  obtain⟨h1,h2,h3⟩:=h
  refine⟨h1,h2,fun i hi=>?_⟩
  obtain⟨y,arr,g1,g2,g3,g4⟩:=h3 i hi
  exact⟨y,arr,g1,g2,g3,fun e he f col c hf hc=>let ⟨v,hv,hs⟩:=g4 e he f col c hf hc
   ⟨v,hv,hs.shrink fun k hk'=>hk k (List.mem_flatMap.2 ⟨col,List.mem_of_getElem? hf,Col.get_keys hc k hk'⟩)⟩⟩
theorem Inv.reset{φ:Fr}{ρ:Rho}{s:St}{a:Act}{w:World}(h:Inv φ ρ s a w){n:Nat}(hD:s.H.D=fun _=>True)(hk:stOK ⟨s.tmps,⟨s.H.h,n,s.H.D⟩⟩=true):Inv φ ρ ⟨s.tmps,⟨s.H.h,n,s.H.D⟩⟩ a w:=by
 simp only[stOK,zx]at hk
 obtain⟨k1,k2⟩:=hk
 have hsc:∀k,k<n->Hp.sc ⟨s.H.h,n,s.H.D⟩ k:=fun k hk=>⟨hk,by rw[hD];trivial⟩
 refine⟨⟨h.heap.fr,fun k _=>by rw[hD];trivial,fun k b hf=>hsc k (zeg k2 k b hf).1,fun k b hf=>Blk.sat_shrink (h.heap.sat k b hf) fun j hj=>hsc j ((zeg k2 k b hf).2 j hj),h.heap.bd,h.heap.may,h.heap.sep⟩,h.defers,h.size,?_⟩
 intro k sv hk
 obtain⟨v,hv,hs⟩:=h.tmps k sv hk
 exact⟨v,hv,hs.shrink fun j hj=>hsc j (tmOK_h k1 k sv hk j hj)⟩
def goSt(s t:St):Prop:=s.H.D=(fun _=>True)/\t.H.D=(fun _=>True)/\leTm s.tmps t.tmps/\leHL s.H.h t.H.h
theorem Inv.go{φ:Fr}{ρ:Rho}{s t:St}{a:Act}{w:World}(h:Inv φ ρ s a w)(hl:goSt s t)(hk:stOK t=true):Inv φ ρ t a w:=by
 obtain⟨hs,ht,h1,h2⟩:=hl
 have g:Inv φ ρ ⟨t.tmps,⟨t.H.h,max s.H.nxt t.H.nxt,t.H.D⟩⟩ a w:=h.le ⟨by rw[hs,ht],Nat.le_max_left _ _,h1,h2⟩
 exact g.reset (n:=t.H.nxt) ht hk
def tauL(m0:Nat)(L:List Nat)(k:Nat):Nat:=match Nat.blt k m0 with|true=>k|false=>(L[k-m0]?).getD k
theorem Blk.sat_unrenK{n m:Nat->Prop}{ρ:Rho}{τ:Nat->Nat}{b:Blk}{k:Nat}{w:World}(h:(b.ren τ).sat n ρ (τ k) w)(hk:∀j∈b.keys,m j):b.sat m (fun k=>ρ (τ k)) k w:=by
 have ci:∀ {c:SC} {v:Value},CIs n ρ (c.ren τ) v->(∀j∈c.keys,m j)->CIs m (fun k=>ρ (τ k)) c v:=fun hc hk=>.of_keys (by rw[<-SC.ren_den];exact hc.eq.symm) hk
 cases b with
 | own t size cs=>
  obtain⟨y,arr,h1,h2,h3,h4,h5⟩:=h
  refine⟨y,arr,h1,h2,h3,by simpa using h4,fun i c hi=>?_⟩
  obtain⟨v,hv,hs⟩:=h5 i (c.ren τ) (by simp[hi])
  exact⟨v,hv,ci hs fun j hj=>hk j (List.mem_flatMap.2 ⟨some c,List.mem_of_getElem? hi,hj⟩)⟩
 | row t cap l cols=>
  rcases h with h|⟨y,arr,h1,h2,h3,h4,h4',h5⟩
  ·exact .inl h
  refine .inr ⟨y,arr,h1,h2,by simpa using h3,h4,h4',fun q hq f' col c hf hcol=>?_⟩
  obtain⟨v,hv,hs⟩:=h5 q hq f' (col.ren τ) (c.ren τ) (by simp[hf]) (by rw[Col.ren_get,hcol];rfl)
  exact⟨v,by simpa using hv,ci hs fun j hj=>hk j (List.mem_flatMap.2 ⟨col,List.mem_of_getElem? hf,Col.get_keys hcol j hj⟩)⟩
 | view l len cols=>
  intro i hi q hq
  obtain⟨y,o,h1,h2⟩:=h i hi q hq
  refine⟨y,o,h1,fun f' col c hf hcol=>?_⟩
  obtain⟨v,hv,hs⟩:=h2 f' (col.ren τ) (c.ren τ) (by simp[hf]) (by rw[Col.ren_get,hcol];rfl)
  exact⟨v,by simpa using hv,ci hs fun j hj=>hk j (List.mem_flatMap.2 ⟨col,List.mem_of_getElem? hf,Col.get_keys hcol j hj⟩)⟩
 | fam rw t cap len cols=>
  obtain⟨h1,h2,h3⟩:=h
  refine⟨h1,h2,fun i hi=>?_⟩
  obtain⟨y,arr,g1,g2,g3,g4⟩:=h3 i hi
  refine⟨y,arr,g1,g2,by simpa using g3,fun q hq f' col c hf hcol=>?_⟩
  obtain⟨v,hv,hs⟩:=g4 q hq f' (col.ren τ) (c.ren τ) (by simp[hf]) (by rw[Col.ren_get,hcol];rfl)
  exact⟨v,by simpa using hv,ci hs fun j hj=>hk j (List.mem_flatMap.2 ⟨col,List.mem_of_getElem? hf,Col.get_keys hcol j hj⟩)⟩
def goR(m0:Nat)(L:List Nat)(s t:St):Prop:=s.H.D=(fun _=>True)/\t.H.D=(fun _=>True)/\(leTm s.tmps (t.tmps.map (Option.map (SV.ren (tauL m0 L))))/\leHLr (tauL m0 L) s.H.h t.H.h)/\za5 (t.H.h.map fun p=>tauL m0 L p.1)=true
def goE(m0:Nat)(L:List Nat)(s t:St):Prop:=(∀k,s.H.D k)/\(∀k,t.H.D k)/\leTm s.tmps (t.tmps.map (Option.map (SV.ren (tauL m0 L))))/\leHLr (tauL m0 L) s.H.h t.H.h
def nodupR(m0:Nat)(L:List Nat)(t:St):Bool:=za5 (t.H.h.map fun p=>tauL m0 L p.1)
theorem find_idx{k:Nat}{b:Blk}:∀ {h:HL},find k h=some b->∃i:Nat,∃p:Nat×Blk,h[i]?=some p/\p.1=k
 | [],h=>by simp[find]at h
 | (k',b')::t,h=>by
  rw[zag]at h
  split at h
  ·rename_i e;exact⟨0,(k',b'),rfl,e.symm⟩
  ·obtain⟨i,p,h1,h2⟩:=find_idx h
   exact⟨i+1,p,by simpa using h1,h2⟩
theorem Inv.goR{φ:Fr}{ρ:Rho}{s t:St}{a:Act}{w:World}{m0:Nat}{L:List Nat}(h:Inv φ ρ s a w)(hg:goR m0 L s t)(hk:stOK t=true):∃ρ':Rho,(∀k,k<m0->ρ' k=ρ k)/\Inv φ ρ' t a w:=by
 obtain⟨hs,ht,⟨h1,h2⟩,h3⟩:=hg
 simp only[stOK,zx]at hk
 obtain⟨k1,k2⟩:=hk
 have hsc:∀k,k<t.H.nxt->t.H.sc k:=fun k hk=>⟨hk,by rw[ht];trivial⟩
 have at':∀k b,find k t.H.h=some b->∃c,find (tauL m0 L k) s.H.h=some c/\zdp c (b.ren (tauL m0 L)):=fun k b hf=>zc0 h2 k b hf
 refine⟨fun k=>ρ (tauL m0 L k),fun k hk=>?_,⟨⟨h.heap.fr,fun k _=>by rw[ht];trivial,fun k b hf=>hsc k (zeg k2 k b hf).1,?_,?_,?_,?_⟩,h.defers,?_,?_⟩⟩
 ·have:Nat.blt k m0=true:=by rw[Nat.blt_eq];exact hk
  simp only[tauL,this]
 ·intro k b hf
  obtain⟨c,hc,hle⟩:=at' k b hf
  exact Blk.sat_unrenK (Blk.sat_le hle (h.heap.sat _ c hc)) fun j hj=>hsc j ((zeg k2 k b hf).2 j hj)
 ·intro k b hf i hi y o hy
  obtain⟨c,hc,hle⟩:=at' k b hf
  exact h.heap.bd _ c hc i (zao hle (by rw[Blk.ren_live];exact hi)) y o hy
 ·intro k b hf hr i hi y o hy
  obtain⟨c,hc,hle⟩:=at' k b hf
  exact h.heap.may _ c hc (zbh hle (by rw[Blk.ren_isRow];exact hr)) i (zao hle (by rw[Blk.ren_live];exact hi)) y o hy
 ·intro k b hf hr k' b' hf' hne j i hj hi y o y' o' hy hy'
  obtain⟨c,hc,hle⟩:=at' k b hf
  obtain⟨c',hc',hle'⟩:=at' k' b' hf'
  have hne':tauL m0 L k'≠tauL m0 L k:=by
   intro e
   obtain⟨x,p,hx,rfl⟩:=find_idx hf
   obtain⟨x',p',hx',rfl⟩:=find_idx hf'
   have:=zgl h3 x x' (tauL m0 L p.1) (by simp[hx]) (by simp[hx',e])
   subst this
   rw[hx]at hx';cases hx'
   exact hne rfl
  exact h.heap.sep _ c hc (zbh hle (by rw[Blk.ren_isRow];exact hr)) _ c' hc' hne' j i (zao hle (by rw[Blk.ren_live];exact hj)) (zao hle' (by rw[Blk.ren_live];exact hi)) y o y' o' hy hy'
 ·rw[h.size,<-(leTm_at h1).1,List.length_map]
 ·intro k sv hv
  obtain⟨x,hx,hle⟩:=(leTm_at h1).2 k (sv.ren (tauL m0 L)) (by simp[hv])
  obtain⟨v,hv',hi⟩:=h.tmps k x hx
  exact⟨v,hv',.of_keys (by rw[<-SV.ren_den];exact(hi.le hle).eq.symm) fun j hj=>hsc j (tmOK_h k1 k sv hv j hj)⟩
def zcy{X:Type}(J:X->St)(I:X->Prop)(μ:X->Nat)(m0 n:Nat)(K:Ex×St->Prop)(x:X)(r:Ex×St):Prop:=
 match r.1 with
 | .normal=>∃x' L,I x'/\μ x'<μ x/\goR m0 L r.2 (J x')
 | e=>∃t L,goR m0 L r.2 t/\stOK t=true/\n<=t.H.nxt/\K (e,t)
theorem loop_ok{P:Program}{callT:CallT}(hc:zbz P callT){S u:Nat}{c:Code}{X:Type}{ann:X->Ann}(J:X->St)(I:X->Prop)(hann:∀x,I x->zci P c (ann x))(μ:X->Nat)(m0 n:Nat)(hm:m0<=n)(hn:∀x,(J x).H.nxt=n)(hD:∀x,(J x).H.D=fun _=>True)
  (hJ:∀x,stOK (J x)=true) (x0:X) (L0:List Nat) (A:Out (Ex×St)) (round:∀x,I x->∀K,A.holds K->(zcp P callT S u m0 c (ann x) (J x)).holds (zcy J I μ m0 n K x)):
  LoopOK P c (fun n0 s=>chk (Nat.ble n0 m0&&nodupR m0 L0 (J x0)) (.need (I x0/\goE m0 L0 s (J x0)) A)):=by
 intro φ ρ H0 s a w K Q h hl hh hQ
 obtain⟨hb,⟨hx0,e1,e2,e3,e4⟩,hA⟩:=zaf hh
 simp only[zx]at hb
 obtain⟨hb,hnd⟩:=hb
 have hgo:Sx.goR m0 L0 s (J x0):=⟨funext fun k=>propext ⟨fun _=>trivial,fun _=>e1 k⟩,funext fun k=>propext ⟨fun _=>trivial,fun _=>e2 k⟩,⟨e3,e4⟩,hnd⟩
 have hb:=Nat.le_of_ble_eq_true hb
 obtain⟨ρ0,hρ0,h0⟩:=h.goR hgo (hJ x0)
 have hD0:H0.D=fun _=>True:=by rw[<-hl.D];exact hgo.1
 have hle:∀x,H0.le (J x).H:=fun x=>⟨by rw[hn];omega,by rw[hD,hD0]⟩
 have hle':∀x,Hp.le ⟨[],m0,fun _=>True⟩ (J x).H:=fun x=>⟨by rw[hn];exact hm,by rw[hD]⟩
 have base:∀ {ρ1 ρ2:Rho},(∀k,k<m0->ρ2 k=ρ1 k)->zat H0.sc ρ1 ρ2:=fun h k hk=>h k (Nat.lt_of_lt_of_le hk.1 hb)
 have base':∀ {ρ1 ρ2:Rho},zat (Hp.sc ⟨[],m0,fun _=>True⟩) ρ1 ρ2->∀k,k<m0->ρ2 k=ρ1 k:=fun h k hk=>h k ⟨hk,trivial⟩
 refine wp_loop_ghost (fun m a w=>∃x ρ',μ x=m/\I x/\(∀k,k<m0->ρ' k=ρ k)/\Inv φ ρ' (J x) a w) (μ x0) ⟨x0,ρ0,rfl,hx0,hρ0,h0⟩ ?_
 rintro m a w ⟨x,ρ',rfl,hx,hag,hI⟩
 refine execC_ok (H0:=⟨[],m0,fun _=>True⟩) hc c (ann x) (hann x hx) hI (hle' x) (round x hx K hA) ?_
 intro e s' ρ2 a2 w2 hr h1 h2 h3
 have hag2:∀k,k<m0->ρ2 k=ρ k:=fun k hk=>(base' h1 k hk).trans (hag k hk)
 have exits:∀e:Ex,(∃t L,goR m0 L s' t/\stOK t=true/\n<=t.H.nxt/\K (e,t))->Q e.to a2 w2:=by
  rintro e ⟨t,L,g1,g2,g3,g4⟩
  obtain⟨ρ3,k1,k2⟩:=h3.goR g1 g2
  refine hQ e t ρ3 a2 w2 g4 (base fun k hk=>(k1 k hk).trans (hag2 k hk)) ⟨?_,?_⟩ k2
  ·omega
  ·rw[g1.2.1,hD0]
 cases e with
 | normal=>
  obtain⟨x',L,g1,g2,g3⟩:=hr
  obtain⟨ρ3,k1,k2⟩:=h3.goR g3 (hJ x')
  exact⟨μ x',g2,x',ρ3,rfl,g1,fun k hk=>(k1 k hk).trans (hag2 k hk),k2⟩
 | exit i=>exact exits (.exit i) hr
 | ret=>exact exits .ret hr
theorem loop_pick{P:Program}{c:Code}{Y:Type}{l:Y->Nat->LoopFn}(h:∀y,LoopOK P c (l y))(f:St->Option Y):LoopOK P c (fun n0 s=>opt (f s) (fun y=>l y n0 s) 330):=by
 intro φ ρ H0 s a w K Q hi hl hh hQ
 obtain⟨y,_,hh⟩:=zaa hh
 exact h y φ ρ H0 s a w K Q hi hl hh hQ
theorem w64{n:Int}(h:-9223372036854775808<=n/\n<=9223372036854775807):IntKind.i64.wrap n=n:=by
 rw[IntWalk.i64_left];exact IntWalk.wrap64_in n h
theorem wu64{n:Int}(h:0<=n/\n<=18446744073709551615):IntKind.u64.wrap n=n:=by
 simp only[IntKind.wrap,IntKind.bits,IntKind.signed]
 simp
 omega
def asIs:List IntKind->List SV->Option (List Int)
 | [],[]=>some []
 | k::ks,x::xs=>match asI x,asIs ks xs with
  | some r,some l=>bif zak k r.2.1 then some (r.2.2::l) else none
  | _,_=>none
 | _,_=>none
def mkIs:List IntKind->List Int->List SV
 | k::ks,n::ns=>.c (.iv k n)::mkIs ks ns
 | _,_=>[]
def mkVs:List IntKind->List Int->List Value
 | k::ks,n::ns=>.int k n::mkVs ks ns
 | _,_=>[]
theorem asIs_h{n:Nat->Prop}{ρ:Rho}:∀ {ks:List IntKind} {args:List SV} {l:List Int} {vs:List Value},asIs ks args=some l->VIs n ρ args vs->l.length=ks.length/\vs=mkVs ks l
 | [],[],l,vs,h,hv=>by
  simp[asIs]at h;subst h
  cases vs with
  | nil=>exact⟨rfl,rfl⟩
  | cons v vs=>exact hv.elim
 | [],_::_,l,vs,h,_=>by simp[asIs]at h
 | _::_,[],l,vs,h,_=>by simp[asIs]at h
 | k::ks,x::xs,l,vs,h,hv=>by
  simp only[asIs]at h
  split at h
  ·rename_i r l' h1 h2
   by_cases hk:zak k r.2.1=true
   ·rw[hk]at h;cases h
    cases vs with
    | nil=>exact hv.elim
    | cons v vs=>
     obtain⟨g1,g2⟩:=asIs_h h2 hv.2
     refine⟨by simp[g1],?_⟩
     rw[zby h1 hv.1,g2,zap hk];rfl
   ·rw[Bool.eq_false_iff.2 hk]at h;cases h
  ·cases h
theorem mkIs_is{n:Nat->Prop}{ρ:Rho}:∀ {ks:List IntKind} {l:List Int},l.length=ks.length->VIs n ρ (mkIs ks l) (mkVs ks l)
 | [],[],_=>trivial
 | [],_::_,h=>by simp at h
 | _::_,[],h=>by simp at h
 | k::ks,x::l,h=>⟨fun _ _=>rfl,mkIs_is (by simpa using h)⟩
def conP(ks:List IntKind)(post:List Int->Out SV):List SV->Hp->Out (SV×Hp):=fun args H=>opt (asIs ks args) (fun l=>(post l).bind fun sv=>.leaf (sv,H)) 340
def PureC(P:Program)(f:FuncId)(ks:List IntKind)(post:List Int->Out SV):Prop:=∀l,l.length=ks.length->∀(w:World) (K:SV->Prop),(post l).holds K->
 Calls P f (mkVs ks l).toArray w fun e w'=>∃v sv,e=.returned v/\K sv/\(∀ρ,sv.den ρ=v)/\Fr.ok ⟨w,fun _=>False⟩ w'
theorem conP_ok{P:Program}{f:FuncId}{ks:List IntKind}{post:List Int->Out SV}(h:PureC P f ks post):zab P f (conP ks post):=by
 intro φ ρ H w args vs K hi hv hh
 obtain⟨l,hl,hh⟩:=zaa hh
 obtain⟨g1,rfl⟩:=asIs_h hl hv
 rw[Out.holds_bind]at hh
 refine(h l g1 w _ hh).mono ?_
 rintro e w' ⟨v,sv,rfl,hK,hsv,hf⟩
 refine⟨v,ρ,sv,H,rfl,hK,.refl _ _,.refl _,⟨?_,hi.up,hi.lt,fun k b hk=>Blk.sat_world (hi.sat k b hk) fun i hl y o hy=>hf.block y (hi.bd k b hk i hl y o hy) id,fun k b hk i hl y o hy=>Nat.lt_of_lt_of_le (hi.bd k b hk i hl y o hy) hf.size,hi.may,hi.sep⟩,fun ρ' _=>hsv ρ'⟩
 exact⟨hf.os.trans hi.fr.os,hf.tape.trans hi.fr.tape,hf.output.trans hi.fr.output,Nat.le_trans hi.fr.size hf.size,fun b hb hn=>(hf.block b (Nat.lt_of_lt_of_le hb hi.fr.size) id).trans (hi.fr.block b hb hn)⟩
theorem pureC_of{P:Program}{callT:CallT}(hc:zbz P callT){f:FuncId}{ks:List IntKind}{post:List Int->Out SV}
  (h:∀l,l.length=ks.length->∀K:SV->Prop,(post l).holds K->(callT f (mkIs ks l) ⟨[],0,fun _=>True⟩).holds fun r=>r.1.allKeys=[]/\∃sv,leSV r.1 sv/\K sv):PureC P f ks post:=by
 intro l hl w K hK
 have h0:HInv ⟨w,fun _=>False⟩ (fun _ _=>none) ⟨[],0,fun _=>True⟩ w:=
  ⟨⟨rfl,rfl,rfl,Z _,fun _ _ _=>rfl⟩,fun _ _=>trivial,fun k b h=>(by cases h),fun k b h=>(by cases h),fun k b h=>(by cases h),fun k b h=>(by cases h),fun k b h=>(by cases h)⟩
 refine(hc _ _ _ w f _ _ _ h0 (mkIs_is hl) (h l hl K hK)).mono ?_
 rintro e w' ⟨v,ρ',sv,H',rfl,⟨hk,sv',hle,hK⟩,_,_,h3,h4⟩
 refine⟨v,sv',rfl,hK,fun ρ=>?_,h3.fr⟩
 rw[<-leSV_den hle,h4.eq]
 exact SV.den_congr fun k hk'=>by rw[hk]at hk';cases hk'
abbrev Con:=FuncId->Option (List SV->Hp->Out (SV×Hp))
def zaj(P:Program)(con:Con):Prop:=∀f c,con f=some c->zab P f c
def Con.add(f:FuncId)(c:List SV->Hp->Out (SV×Hp))(con:Con):Con:=fun g=>bif zu g f then some c else con g
theorem zaj.nil{P:Program}:zaj P (fun _=>none):=fun _ _ h=>by cases h
theorem zaj.add{P:Program}{f:FuncId}{c:List SV->Hp->Out (SV×Hp)}{con:Con}(h:zab P f c)(g:zaj P con):zaj P (con.add f c):=by
 intro f' c' h'
 simp only[Con.add]at h'
 cases hb:zu f' f with
 | true=>rw[hb]at h';have:=zq hb;subst this;cases h';exact h
 | false=>rw[hb]at h';exact g f' c' h'
def setTm:List (Option SV)->Nat->SV->List (Option SV)
 | [],_,_=>[]
 | _::l,0,v=>some v::l
 | x::l,n+1,v=>x::setTm l n v
def noTm:Nat->List (Option SV)
 | 0=>[]
 | n+1=>none::noTm n
def tms(n:Nat):List (Nat×SV)->List (Option SV)
 | []=>noTm n
 | (i,v)::l=>setTm (tms n l) i v
theorem Inv.newDead{φ:Fr}{ρ:Rho}{s:St}{a:Act}{w:World}(h:Inv φ ρ s a w)(b:Blk)(hl:∀i,¬b.live i)(hs:∀n ρ',b.sat n ρ' s.H.nxt w):
  zat s.H.sc ρ (ρ.put s.H.nxt none)/\s.H.le ⟨(s.H.nxt,b)::s.H.h,s.H.nxt+1,s.H.D⟩/\Inv φ (ρ.put s.H.nxt none) ⟨s.tmps,⟨(s.H.nxt,b)::s.H.h,s.H.nxt+1,s.H.D⟩⟩ a w:=by
 have hag:zat s.H.sc ρ (ρ.put s.H.nxt none):=ρ.put_agree (fun _ hj=>hj.1) none
 have hsc:∀k,s.H.sc k->Hp.sc ⟨(s.H.nxt,b)::s.H.h,s.H.nxt+1,s.H.D⟩ k:=fun k hk=>⟨Nat.lt_succ_of_lt hk.1,hk.2⟩
 refine⟨hag,⟨Nat.le_succ _,rfl⟩,⟨?_,h.defers,h.size,fun k sv hk=>let ⟨v,hv,hi⟩:=h.tmps k sv hk;⟨v,hv,hi.ext hag hsc⟩⟩⟩
 exact h.heap.regrow (row:=none) (fun y hy=>nomatch hy) ⟨rfl,rfl,rfl,Z _,fun _ _ _=>rfl⟩ (fun k c hk=>⟨c,hk,fun _ h=>h,fun h=>h,h.heap.sat k c hk,fun _ _ _ _ _ h=>nomatch h⟩) none b (fun i hi=>absurd hi (hl i)) (fun hi=>absurd hi (hl 0)) (fun hi=>absurd hi (hl 0)) (hs _ _)
def newFamG(t:TypeId)(cols:List Col):St->Out St:=fun s=>.leaf ⟨s.tmps,⟨(s.H.nxt,.fam true t (fun _=>0) (fun _=>0) cols)::s.H.h,s.H.nxt+1,s.H.D⟩⟩
theorem newFamG_ok(t:TypeId)(cols:List Col):zbl (newFamG t cols):=by
 intro φ ρ s a w K h hh
 have:=h.newDead (.fam true t (fun _=>0) (fun _=>0) cols) (fun i hi=>absurd hi (zr 0)) (fun n ρ'=>⟨fun _=>⟨Z _,Nat.zero_le _⟩,fun i j hi=>absurd hi (zr 0),fun i hi=>absurd hi (zr 0)⟩)
 exact⟨_,_,hh,this.1,this.2.1,this.2.2⟩
def zek(i:Nat)(el:TypeId)(sz:Nat)(cols:List Col):St->Out St:=fun s=>match s.tmps[i]? with
 | some (some (.c .nils))=>.leaf ⟨s.tmps.set i (some (.c (.slc s.H.nxt (.k 0) (.k 0) sz (.s 0) (.s 0)))),⟨(s.H.nxt,.row el 0 0 cols)::s.H.h,s.H.nxt+1,s.H.D⟩⟩
 | _=>.bad 350
theorem zfj(i:Nat)(el:TypeId)(sz:Nat)(cols:List Col):zbl (zek i el sz cols):=by
 intro φ ρ s a w K h hh
 unfold zek at hh
 split at hh
 ·rename_i hi
  obtain⟨h1,h2,h3⟩:=h.newDead (.row el 0 0 cols) (fun j hj=>absurd hj.2 (zr 0)) (fun n ρ'=>.inl ⟨rfl,rfl⟩)
  refine⟨_,_,hh,h1,h2,⟨h3.heap,h3.defers,by simpa using h3.size,fun k sv hk=>?_⟩⟩
  simp only[List.getElem?_set]at hk
  split at hk
  ·rename_i e;subst e
   split at hk
   ·cases hk
    obtain⟨v,hv,hs⟩:=h.tmps i _ hi
    refine⟨v,hv,fun ρ' ha=>?_⟩
    have:=ha s.H.nxt ⟨Nat.lt_succ_self _,h.heap.up _ (Z _)⟩
    rw[hs.eq]
    simp[SV.den,SC.den,zal,this,Rho.put]
   ·cases hk
  ·exact h3.tmps k sv hk
 ·exact hh.elim
def casesG(i:Nat):List Int->St->Out St
 | [],_=>.bad 353
 | v::l,s=>match s.tmps[i]? with
  | some (some (.c (.iv k x)))=>.br (decide (x=v)) (.leaf ⟨s.tmps.set i (some (.c (.ki k v))),s.H⟩) (casesG i l s)
  | some (some (.c (.ki _ _)))=>.leaf s
  | _=>.bad 354
theorem casesG_ok(i:Nat):∀l:List Int,zbl (casesG i l)
 | []=>fun φ ρ s a w K h hh=>hh.elim
 | v::l=>by
  intro φ ρ s a w K h hh
  unfold casesG at hh
  split at hh
  ·rename_i k x hi
   by_cases hx:x=v
   ·subst hx
    refine⟨_,ρ,hh.1 (decide_eq_true rfl),.refl _ _,.refl _,⟨h.heap,h.defers,by simpa using h.size,fun j sv hj=>?_⟩⟩
    simp only[List.getElem?_set]at hj
    split at hj
    ·rename_i e;subst e
     split at hj
     ·cases hj
      obtain⟨u,hu,hs⟩:=h.tmps i _ hi
      exact⟨u,hu,fun ρ' ha=>hs ρ' ha⟩
     ·cases hj
    ·exact h.tmps j sv hj
   ·exact casesG_ok i l φ ρ s a w K h (hh.2 (decide_eq_false hx))
  ·exact⟨_,ρ,hh,.refl _ _,.refl _,h⟩
  ·exact hh.elim
def zeb(key f:Nat)(el:TypeId)(sz:Nat)(cols:List Col):St->Out St:=fun s=>match find key s.H.h with
 | some (.own t size cs)=>match cs[f]? with
  | some (some .nils)=>.leaf ⟨s.tmps,⟨(s.H.nxt,.row el 0 0 cols)::upd key (.own t size (cs.set f (some (.slc s.H.nxt (.k 0) (.k 0) sz (.s 0) (.s 0))))) s.H.h,s.H.nxt+1,s.H.D⟩⟩
  | _=>.bad 351
 | _=>.bad 352
theorem zeo(key f:Nat)(el:TypeId)(sz:Nat)(cols:List Col):zbl (zeb key f el sz cols):=by
 intro φ ρ s a w K h hh
 unfold zeb at hh
 split at hh
 ·rename_i t size cs hf
  split at hh
  ·rename_i hc
   obtain⟨h1,h2,h3⟩:=h.newDead (.row el 0 0 cols) (fun j hj=>absurd hj.2 (zr 0)) (fun n ρ'=>.inl ⟨rfl,rfl⟩)
   have hkey:key≠s.H.nxt:=Nat.ne_of_lt (h.heap.lt key _ hf).1
   have hf':find key ((s.H.nxt,Blk.row el 0 0 cols)::s.H.h)=some (.own t size cs):=by rw[zag,if_neg hkey];exact hf
   obtain⟨b,arr,g1,g2,g3,g4,g5⟩:=h3.heap.sat key _ hf'
   have hw:=h3.heap.write hf' rfl (b':=.own t size (cs.set f (some (.slc s.H.nxt (.k 0) (.k 0) sz (.s 0) (.s 0))))) (i0:=0) rfl g1 (w':=w) ?_ h3.heap.fr rfl (fun _ _=>rfl) (fun i hi=>hi)
   ·refine⟨_,_,hh,h1,⟨h2.nxt,h2.D⟩,⟨?_,h3.defers,h3.size,h3.tmps⟩⟩
    simp only[upd]at hw
    have hb:zu key s.H.nxt=false:=by
     cases hb:zu key s.H.nxt with
     | false=>rfl
     | true=>exact absurd (zq hb) hkey
    rw[hb]at hw
    exact hw
   ·refine⟨b,arr,g1,g2,g3,by simpa using g4,fun i c hi=>?_⟩
    rw[List.getElem?_set]at hi
    split at hi
    ·rename_i e;subst e
     split at hi
     ·cases hi
      obtain⟨v,hv,hs⟩:=g5 f _ hc
      refine⟨v,hv,fun ρ' ha=>?_⟩
      have:=ha s.H.nxt ⟨Nat.lt_succ_self _,h.heap.up _ (Z _)⟩
      rw[hs.eq]
      simp[SC.den,zal,this,Rho.put]
     ·cases hi
    ·exact g5 i c hi
  ·exact hh.elim
 ·exact hh.elim
def zbj:Code->List Code
 | .seq a b=>zbj a++zbj b
 | .cond _ a b=>zbj a++zbj b
 | .block _ c=>zbj c
 | .loop c=>[c]
 | _=>[]
def Fits(P:Program):List Code->List Ann->Prop
 | c::cs,x::l=>zci P (.loop c) x/\Fits P cs l
 | _,_=>True
theorem Fits.left{P:Program}:∀ {a b:List Code} {l:List Ann},Fits P (a++b) l->Fits P a l
 | [],b,l,h=>by cases l<;>trivial
 | c::cs,b,[],h=>trivial
 | c::cs,b,x::l,h=>⟨h.1,Fits.left h.2⟩
theorem Fits.right{P:Program}:∀ {a b:List Code} {l:List Ann},Fits P (a++b) l->Fits P b (l.drop a.length)
 | [],b,l,h=>h
 | c::cs,b,[],h=>by cases b<;>trivial
 | c::cs,b,x::l,h=>Fits.right (l:=l) h.2
abbrev Gs:=List (Nat×(St->Out St))
def gsFind(i:Nat):Gs->Ann
 | []=>.nil
 | (j,g)::l=>bif zu i j then .ghost g (gsFind i l) else gsFind i l
def annB(gs:Gs):Code->List Ann->Ann×List Ann
 | .region id _ _,ls=>(gsFind id gs,ls)
 | .seq a b,ls=>match annB gs a ls with
  | (x,l1)=>match annB gs b l1 with
   | (y,l2)=>(.two x y,l2)
 | .cond _ a b,ls=>match annB gs a ls with
  | (x,l1)=>match annB gs b l1 with
   | (y,l2)=>(.two x y,l2)
 | .block _ c,ls=>annB gs c ls
 | .loop _,x::r=>(x,r)
 | _,ls=>(.nil,ls)
def GsOK:Gs->Prop
 | []=>True
 | (_,g)::l=>zbl g/\GsOK l
theorem gsFind_ok{i:Nat}:∀ {gs:Gs},GsOK gs->(gsFind i gs).preOK
 | [],_=>trivial
 | (j,g)::l,h=>by
  simp only[gsFind]
  cases zu i j with
  | true=>exact⟨h.1,gsFind_ok h.2⟩
  | false=>exact gsFind_ok h.2
theorem annB_rest(gs:Gs):∀(c:Code) (ls:List Ann),(annB gs c ls).2=ls.drop (zbj c).length:=by
 intro c
 induction c with
 | seq a b iha ihb=>intro ls;simp only[annB,zbj,ihb,iha,List.length_append,List.drop_drop]
 | cond v a b iha ihb=>intro ls;simp only[annB,zbj,ihb,iha,List.length_append,List.drop_drop]
 | block i c ih=>intro ls;exact ih ls
 | loop c ih=>intro ls;cases ls<;>rfl
 | _=>intro ls;rfl
theorem annB_ok{P:Program}{gs:Gs}(hg:GsOK gs):∀(c:Code) (ls:List Ann),Fits P (zbj c) ls->zci P c (annB gs c ls).1:=by
 intro c
 induction c with
 | seq a b iha ihb=>intro ls h;exact⟨trivial,iha ls h.left,by have:=ihb _ h.right;rw[<-annB_rest gs]at this;exact this⟩
 | cond v a b iha ihb=>intro ls h;exact⟨trivial,iha ls h.left,by have:=ihb _ h.right;rw[<-annB_rest gs]at this;exact this⟩
 | block i c ih=>intro ls h;exact ih ls h
 | loop c ih=>
  intro ls h
  cases ls with
  | nil=>exact⟨trivial,trivial⟩
  | cons x l=>exact h.1
 | region id ops draw=>intro ls h;exact gsFind_ok hg
 | _=>intro ls h;trivial
noncomputable def zff(P:Program)(f:FuncId):Code:=match P.funcs[f]? with|some fn=>(fn.body).getD .skip|none=>.skip
noncomputable def zee(P:Program)(f:FuncId)(k:Nat):Code:=((zbj (zff P f))[k]?).getD .skip
noncomputable def execA(P:Program)(con:Con)(f:FuncId)(anns:List Ann)(u:Nat)(gs:Gs:=[]):Nat->CallT:=ze4 P con (fun g=>bif zu g f then(annB gs (zff P f) anns).1 else .nil) u
theorem execAG_ok{P:Program}{con:Con}(hcon:zaj P con){f:FuncId}{anns:List Ann}{u:Nat}{gs:Gs}(h:Fits P (zbj (zff P f)) anns)(n:Nat)(hg:GsOK gs):zbz P (execA P con f anns u gs n):=by
 refine zgk hcon ?_ n
 intro g fn code hf hb
 cases hbq:zu g f with
 | false=>exact zfi P code
 | true=>
  have:=zq hbq
  subst this
  have e:zff P g=code:=by simp[zff,hf,hb]
  simp only[cond_true]
  rw[e]at h ⊢
  exact annB_ok hg _ _ h
theorem execA_ok{P:Program}{con:Con}(hcon:zaj P con){f:FuncId}{anns:List Ann}{u:Nat}(h:Fits P (zbj (zff P f)) anns)(n:Nat):zbz P (execA P con f anns u [] n):=execAG_ok hcon h n trivial
def zc3:List (Option SV)->List (Option SV)->List (Option SV)
 | _,[]=>[]
 | [],_::l=>none::zc3 [] l
 | none::p,_::l=>none::zc3 p l
 | some _::p,x::l=>x::zc3 p l
theorem zd7:∀ {p l t:List (Option SV)},leTm (zc3 p l) t->leTm l t
 | _,[],t,h=>by simpa [zc3]using h
 | [],x::l,[],h=>by simp[zc3,leTm]at h
 | [],x::l,none::t,h=>by
  have h':leTm (zc3 [] l) t:=h
  have:=zd7 h'
  cases x<;>exact this
 | [],x::l,some y::t,h=>h.elim
 | none::p,x::l,[],h=>by simp[zc3,leTm]at h
 | none::p,x::l,none::t,h=>by
  have h':leTm (zc3 p l) t:=h
  have:=zd7 h'
  cases x<;>exact this
 | none::p,x::l,some y::t,h=>h.elim
 | some z::p,x::l,[],h=>by cases x<;>simp[zc3,leTm]at h
 | some z::p,x::l,none::t,h=>by
  have h':leTm (zc3 p l) t:=by cases x<;>exact h
  have:=zd7 h'
  cases x<;>exact this
 | some z::p,none::l,some y::t,h=>h.elim
 | some z::p,some x::l,some y::t,h=>⟨h.1,zd7 h.2⟩
def tmKeys:List (Option SV)->List Nat
 | []=>[]
 | none::l=>tmKeys l
 | some v::l=>v.allKeys++tmKeys l
def gcH(m0:Nat)(ks:List Nat)(h:HL):HL:=
 let old:=keep (fun k=>Nat.blt k m0) h
 let seen:=mark h 300 (ks++old.flatMap fun q=>q.2.keys) []
 keep (fun k=>Nat.blt k m0 || mem k seen) h
def maskSt(m0:Nat)(p:List (Option SV))(s:St):St:=⟨zc3 p s.tmps,⟨gcH m0 (tmKeys (zc3 p s.tmps)) s.H.h,s.H.nxt,s.H.D⟩⟩
theorem leHLr_keep{σ:Nat->Nat}{q:Nat->Bool}{h:HL}:∀ {t:HL},leHLr σ (keep q h) t->leHLr σ h t
 | [],_=>trivial
 | (k,b)::t,hl=>by
  refine⟨?_,leHLr_keep hl.2⟩
  have h1:=hl.1
  rw[zcs]at h1
  by_cases hq:q (σ k)=true
  ·rw[if_pos hq]at h1;exact h1
  ·rw[if_neg hq]at h1;exact h1.elim
theorem zf0{m0 m:Nat}{L:List Nat}{p:List (Option SV)}{s t:St}(h:goR m0 L (maskSt m p s) t):goR m0 L s t:=⟨h.1,h.2.1,⟨zd7 h.2.2.1.1,leHLr_keep h.2.2.1.2⟩,h.2.2.2⟩
theorem fits_loops{P:Program}{f:FuncId}:∀ {ls:List Ann},(∀k x,ls[k]?=some x->zci P (.loop (zee P f k)) x)->Fits P (zbj (zff P f)) ls:=by
 intro ls h
 unfold zee at h
 generalize zbj (zff P f)=cs at h
 induction cs generalizing ls with
 | nil=>cases ls<;>trivial
 | cons c cs ih=>
  cases ls with
  | nil=>trivial
  | cons x l=>exact⟨h 0 x rfl,ih fun k y hy=>h (k+1) y hy⟩
theorem fits2{P:Program}{f:FuncId}{x y:Ann}(h:zci P (.loop (zee P f 0)) x)(g:zci P (.loop (zee P f 1)) y):Fits P (zbj (zff P f)) [x,y]:=fits_loops fun k z hz=>by
 match k,hz with
 | 0,hz=>simp at hz;subst hz;exact h
 | 1,hz=>simp at hz;subst hz;exact g
 | k+2,hz=>simp at hz
def keyOf:SC->Nat
 | .slc k _ _ _ _ _=>k
 | .ptr k _ _ _ _=>k
 | .ifc _ k _ _ _ _=>k
 | _=>0
def tkey(i:Nat)(s:St):Nat:=match s.tmps[i]? with
 | some (some (.c c))=>keyOf c
 | _=>0
def ckey(k:St->Nat)(f:Nat)(s:St):Nat:=match find (k s) s.H.h with
 | some (.own _ _ cs)=>match (cs[f]?:Option (Option SC)) with
  | some (some c)=>keyOf c
  | _=>0
 | some (.row _ _ _ cols)=>match cols[f]? with
  | some (.cs k ..)=>k
  | some (.cp k ..)=>k
  | some (.cf _ k ..)=>k
  | _=>0
 | some (.fam _ _ _ _ cols)=>match cols[f]? with
  | some (.cs k ..)=>k
  | some (.cp k ..)=>k
  | some (.cf _ k ..)=>k
  | _=>0
 | _=>0
structure Holds {β:Type} (o:Out β) (K:β->Prop):Prop where
 h:o.holds K
def loopA{X:Type}(J:X->St)(I:X->Prop)(m0:Nat)(x0:X)(L0:List (St->Nat))(A:Out (Ex×St)):Ann:=.loop (fun n0 s=>fNs (L0.map fun i=>i s) fun L0=>chk (Nat.ble n0 m0&&nodupR m0 L0 (J x0)) (.need (I x0/\goE m0 L0 s (J x0)) A))
theorem fits_nil{P:Program}(l:List Code):Fits P l []:=by cases l<;>trivial
theorem zdk{P:Program}{c:Code}{g:St->Out St}{x:Ann}(hg:zbl g)(hx:zci P (.loop c) x):zci P (.loop c) (.ghost g x):=⟨⟨hg,hx.1⟩,hx.2⟩
def patOf(s:St)(n:Nat)(l:List Nat):Ex->List (Option SV)
 | .normal=>s.tmps
 | _=>tms n (l.map fun i=>(i,.t []))
theorem zah.monoR{P:Program}{f:FuncId}{args:List SV}{h0:HL}{n:Nat}{p q:Out (SV×Hp)}(h:zah P f args h0 n p)
  (hpq:∀K:SV×Hp->Prop,q.holds K->p.holds (fun r=>∃sv H' L,goR n L ⟨[some r.1],r.2⟩ ⟨[some sv],H'⟩/\stOK ⟨[some sv],H'⟩=true/\n<=H'.nxt/\K (sv,H'))):zah P f args h0 n q:=
 fun φ ρ w vs K hi hv hh=>(h φ ρ w vs _ hi hv (hpq K hh)).mono (by
  rintro e w' ⟨v,ρ',sv,H',rfl,⟨sv',H2,L,g1,g2,g3,hK⟩,a1,a2,a3,a4⟩
  have hI:Inv φ ρ' ⟨[some sv],H'⟩ ⟨#[v],[]⟩ w':=⟨a3,rfl,rfl,fun k x hk=>by
   cases k with
   | zero=>simp at hk;subst hk;exact⟨v,rfl,a4⟩
   | succ k=>simp at hk⟩
  obtain⟨ρ2,k1,k2⟩:=hI.goR g1 g2
  obtain⟨v2,hv2,hs2⟩:=k2.tmps 0 sv' rfl
  simp at hv2;subst hv2
  refine⟨v,ρ2,sv',H2,rfl,hK,fun k hk=>(k1 k hk.1).trans (a1 k hk),⟨g3,g1.2.1⟩,k2.heap,hs2⟩)
noncomputable def loopIn2(P:Program)(f:FuncId)(k j:Nat):Code:=((zbj (zee P f k))[j]?).getD .skip
noncomputable def roundC(P:Program)(con:Con)(c:Code)(u n m0:Nat)(pat:Ex->List (Option SV))(s:St)(gs:Gs:=[])(ls:List Ann:=[]):Out (Ex×St):=
 (zcp P (ze4 P con (fun _=>.nil) u n) (stride n) u m0 c (annB gs c ls).1 s).bind fun r=>fTm (zc3 (pat r.1) r.2.tmps) fun t=>fHL (gcH m0 (tmKeys t) r.2.H.h) fun h=>fN r.2.H.nxt fun nxt=>.leaf (r.1,⟨t,⟨h,nxt,r.2.H.D⟩⟩)
theorem roundC_holds{P:Program}{con:Con}{c:Code}{u n m0:Nat}{pat:Ex->List (Option SV)}{s:St}{X:Type}{J:X->St}{I:X->Prop}{μ:X->Nat}{m1 n1:Nat}{K:Ex×St->Prop}{x:X}{gs:Gs}{ls:List Ann}
  (h:(roundC P con c u n m0 pat s gs ls).holds (zcy J I μ m1 n1 K x)):(zcp P (ze4 P con (fun _=>.nil) u n) (stride n) u m0 c (annB gs c ls).1 s).holds (zcy J I μ m1 n1 K x):=by
 unfold roundC at h
 rw[Out.holds_bind]at h
 simp only[fTm_eq,fHL_eq,fN_eq]at h
 refine Out.holds_mono _ ?_ h
 rintro⟨e,s'⟩ h
 have h:zcy J I μ m1 n1 K x (e,maskSt m0 (pat e) s'):=h
 cases e with
 | normal=>
  obtain⟨x',L,h1,h2,h3⟩:=h
  exact⟨x',L,h1,h2,zf0 h3⟩
 | exit i=>
  obtain⟨t,L,h1,h2,h3,h4⟩:=h
  exact⟨t,L,zf0 h1,h2,h3,h4⟩
 | ret=>
  obtain⟨t,L,h1,h2,h3,h4⟩:=h
  exact⟨t,L,zf0 h1,h2,h3,h4⟩
theorem fits_all{P:Program}:∀ {cs:List Code} {ls:List Ann},(∀(k:Nat) (x:Ann),ls[k]?=some x->zci P (.loop ((cs[k]?).getD .skip)) x)->Fits P cs ls
 | [],ls,h=>by cases ls<;>trivial
 | c::cs,[],h=>trivial
 | c::cs,x::l,h=>⟨h 0 x rfl,fits_all fun k y hy=>h (k+1) y hy⟩
theorem fitsIn1{P:Program}{f:FuncId}{k:Nat}{x:Ann}(h:zci P (.loop (loopIn2 P f k 0)) x):Fits P (zbj (zee P f k)) [x]:=fits_all fun j y hy=>by
 cases j with
 | zero=>simp at hy;subst hy;exact h
 | succ j=>simp at hy
theorem loopC_ok{P:Program}{con:Con}(hcon:zaj P con){c:Code}{u nf:Nat}{X:Type}{J:X->St}{I:X->Prop}{m0:Nat}{x0:X}{L0:List (St->Nat)}{A:Out (Ex×St)}(μ:X->Nat)(n:Nat)(hm:m0<=n)(hn:∀x,(J x).H.nxt=n)(hD:∀x,(J x).H.D=fun _=>True)
  (hJ:∀x,stOK (J x)=true) {pat:X->Ex->List (Option SV)} {gs:X->Gs} {ls:X->List Ann} (round:∀x,I x->∀K,A.holds K->Holds (roundC P con c u nf m0 (pat x) (J x) (gs x) (ls x)) (zcy J I μ m0 n K x))
  (hg:∀x,I x->GsOK (gs x)) (hl:∀x,I x->Fits P (zbj c) (ls x)):zci P (.loop c) (loopA J I m0 x0 L0 A):=
 ⟨trivial,fun φ ρ H0 s a w K Q hi hl' hh hQ=>by
  simp only[fNs_eq]at hh
  exact loop_ok (ann:=fun x=>(annB (gs x) c (ls x)).1) (zgk hcon (fun _ _ code _ _=>zfi P code) nf) J I (fun x hx=>annB_ok (hg x hx) _ _ (hl x hx)) μ m0 n hm hn hD hJ x0 (L0.map fun i=>i s) A (fun x hx K hA=>roundC_holds (round x hx K hA).h) φ ρ H0 s a w K Q hi hl' hh hQ⟩
def loopFn:Ann->Nat->LoopFn
 | .loop l=>l
 | _=>fun _ _=>.bad 331
def pickA{Y:Type}(f:St->Option Y)(x:Y->Ann):Ann:=.loop (fun n0 s=>opt (f s) (fun y=>loopFn (x y) n0 s) 330)
theorem pickA_ok{P:Program}{c:Code}{Y:Type}{f:St->Option Y}{x:Y->Ann}(h:∀y,zci P (.loop c) (x y)):zci P (.loop c) (pickA f x):=
 ⟨trivial,loop_pick (l:=fun y=>loopFn (x y)) (fun y=>by
  have h:=h y
  cases hx:x y with
  | loop l=>rw[hx]at h;exact h.2
  | _=>exact fun φ ρ H0 s a w K Q _ _ hh _=>hh.elim) f⟩
def zbu(l:List SC)(e:Nat):Int:=match l[e]? with
 | some c=>match asI (.c c) with|some r=>r.2.2|none=>0
 | none=>0
def colFn(i:Nat):Col->Option (Nat->Int)
 | .ci _ g=>some fun e=>g i e
 | .ck l=>some (zbu l)
 | _=>none
def rowFn(H:HL)(k:Nat)(i:Nat):Option (Nat->Int):=match find k H with
 | some (.row _ _ _ [col])=>colFn i col
 | some (.view _ _ [col])=>colFn i col
 | some (.fam _ _ _ _ [col])=>colFn i col
 | _=>none
def ints(k:IntKind)(n:Nat)(g:Nat->Int):Blk:=.view 1 (fun _=>n) [.ci k fun _ e=>g e]
theorem HInv.reword{φ:Fr}{ρ:Rho}{H:Hp}{w:World}(h:HInv φ ρ H w){k:Nat}{b b':Blk}(hk:find k H.h=some b)(hr:b'.isRow=true->b.isRow=true)(hl:∀i,b'.live i->b.live i)(hs:b'.sat H.sc ρ k w):
  HInv φ ρ ⟨upd k b' H.h,H.nxt,H.D⟩ w:=by
 have key:∀j c,find j (upd k b' H.h)=some c->∃c',find j H.h=some c'/\(∀i,c.live i->c'.live i)/\(c.isRow=true->c'.isRow=true)/\c.sat H.sc ρ j w:=by
  intro j c hj
  rw[find_upd]at hj
  split at hj
  ·rename_i e;subst e
   rw[hk]at hj
   simp only[Option.map_some,z0]at hj
   subst hj
   exact⟨b,hk,hl,hr,hs⟩
  ·exact⟨c,hj,fun _ h=>h,fun h=>h,h.sat j c hj⟩
 refine⟨h.fr,h.up,fun j c hj=>?_,fun j c hj=>?_,fun j c hj i hi=>?_,fun j c hj hrow i hi=>?_,fun j c hj hrow j' c' hj' hne p q hp hq=>?_⟩
 ·obtain⟨c',h1,_⟩:=key j c hj;exact h.lt j c' h1
 ·obtain⟨c',h1,_,_,h4⟩:=key j c hj;exact h4
 ·obtain⟨c',h1,h2,_⟩:=key j c hj;exact h.bd j c' h1 i (h2 i hi)
 ·obtain⟨c',h1,h2,h3,_⟩:=key j c hj;exact h.may j c' h1 (h3 hrow) i (h2 i hi)
 ·obtain⟨d,h1,h2,h3,_⟩:=key j c hj
  obtain⟨d',g1,g2,_⟩:=key j' c' hj'
  exact h.sep j d h1 (h3 hrow) j' d' g1 hne p q (h2 p hp) (g2 q hq)
def zbt:List (Option SC)->List Col
 | []=>[]
 | none::l=>.cu::zbt l
 | some c::l=>.ck [c]::zbt l
theorem zdy:∀l,(zbt l).length=l.length
 | []=>rfl
 | none::l=>by simp[zbt,zdy l]
 | some c::l=>by simp[zbt,zdy l]
theorem zd2:∀ {l:List (Option SC)} {f:Nat} {col:Col} {c:SC},(zbt l)[f]?=some col->∀ {e},e<1->col.get 0 e=some c->l[f]?=some (some c)
 | [],f,col,c,h,_,_,_=>by simp[zbt]at h
 | none::l,0,col,c,h,e,he,hg=>by simp[zbt]at h;subst h;simp[Col.get]at hg
 | some d::l,0,col,c,h,e,he,hg=>by
  simp[zbt]at h;subst h
  have:e=0:=by omega
  subst this
  simp[Col.get]at hg;subst hg;rfl
 | none::l,f+1,col,c,h,e,he,hg=>by simpa using zd2 (l:=l) (f:=f) (by simpa [zbt]using h) he hg
 | some d::l,f+1,col,c,h,e,he,hg=>by simpa using zd2 (l:=l) (f:=f) (by simpa [zbt]using h) he hg
def asRow:Blk->Option (TypeId×Nat×Nat×List Col)
 | .row t cap n cols=>some (t,cap,n,cols)
 | .own t size cs=>bif zu size cs.length then some (t,1,1,zbt cs) else none
 | _=>none
theorem asRow_h{b:Blk}{t:TypeId}{cap n:Nat}{cols:List Col}(h:asRow b=some (t,cap,n,cols)):b.isRow=true/\(0<cap->b.live 0)/\∀ {m:Nat->Prop} {ρ:Rho} {k:Nat} {w:World},b.sat m ρ k w->(n<=cap/\cap<=maxLen)/\(0<cap->
  ∃y arr,ρ k 0=some (y,0)/\w.heap[y]?=some (.cells arr t (0,0))/\arr.size=cap*cols.length/\
   ∀e,e<n->∀(f:Nat) (col:Col) c,cols[f]?=some col->col.get 0 e=some c->∃v,arr[e*cols.length+f]?=some v/\CIs m ρ c v)\/(n=0/\cap=0):=by
 cases b with
 | row t' cap' n' cols'=>
  simp[asRow]at h
  obtain⟨rfl,rfl,rfl,rfl⟩:=h
  refine⟨rfl,fun h=>⟨rfl,h⟩,fun hs=>?_⟩
  rcases hs with hs|⟨y,arr,h1,h2,h3,h4,h4',h5⟩
  ·exact .inr hs
  ·exact .inl ⟨⟨h4,h4'⟩,fun _=>⟨y,arr,h1,h2,h3,h5⟩⟩
 | own t' size cs=>
  simp only[asRow]at h
  by_cases hb:zu size cs.length=true
  ·rw[hb]at h
   simp only[cond_true,z0,Prod.mk.injEq]at h
   obtain⟨rfl,rfl,rfl,rfl⟩:=h
   have hb:=zq hb
   refine⟨rfl,fun _=>rfl,fun hs=>.inl ⟨⟨Z _,by simp[maxLen]⟩,fun _=>?_⟩⟩
   obtain⟨y,arr,h1,h2,h3,h4,h5⟩:=hs
   refine⟨y,arr,h1,h2,by rw[zdy,Nat.one_mul,h3,hb],fun e he f col c hf hg=>?_⟩
   have hc:=zd2 hf he hg
   have:e=0:=by omega
   subst this
   simpa using h5 f c hc
  ·rw[Bool.eq_false_iff.2 hb]at h;cases h
 | view m n cols=>cases h
 | fam rw t cap n cols=>cases h
def boolAt(l:List SC)(e:Nat):Bool:=match l[e]? with
 | some c=>match asB (.c c) with|some r=>r.2|none=>false
 | none=>false
def allI(k:IntKind):List SC->Bool
 | []=>true
 | c::l=>(match asI (.c c) with|some r=>zak k r.2.1|none=>false)&&allI k l
def allB:List SC->Bool
 | []=>true
 | c::l=>(asB (.c c)).isSome&&allB l
theorem allI_at{k:IntKind}:∀ {l:List SC},allI k l=true->∀e c,l[e]?=some c->∀ρ,(SC.iv k (zbu l e)).den ρ=c.den ρ
 | [],_,e,c,h,_=>by simp at h
 | d::l,h,0,c,hc,ρ=>by
  simp at hc;subst hc
  simp only[allI,zx]at h
  have h1:=h.1
  simp only[zbu,List.getElem?_cons_zero]
  cases ha:asI (.c d) with
  | none=>rw[ha]at h1;cases h1
  | some r=>
   rw[ha]at h1
   have hk:=zap h1
   have:=zby (n:=fun _=>True) (ρ:=ρ) ha (fun r hr=>by have:r=ρ:=funext fun k=>hr k trivial;subst this;rfl)
   simp only[SV.den]at this
   rw[this,hk];rfl
 | d::l,h,e+1,c,hc,ρ=>by
  simp only[allI,zx]at h
  have:=allI_at h.2 e c (by simpa using hc) ρ
  simpa [zbu]using this
theorem allB_at:∀ {l:List SC},allB l=true->∀e c,l[e]?=some c->∀ρ,(SC.bv (boolAt l e)).den ρ=c.den ρ
 | [],_,e,c,h,_=>by simp at h
 | d::l,h,0,c,hc,ρ=>by
  simp at hc;subst hc
  simp only[allB,zx]at h
  have h1:=h.1
  simp only[boolAt,List.getElem?_cons_zero]
  cases ha:asB (.c d) with
  | none=>rw[ha]at h1;cases h1
  | some r=>
   have:=asB_is (n:=fun _=>True) (ρ:=ρ) ha (fun r hr=>by have:r=ρ:=funext fun k=>hr k trivial;subst this;rfl)
   simp only[SV.den]at this
   rw[this];rfl
 | d::l,h,e+1,c,hc,ρ=>by
  simp only[allB,zx]at h
  have:=allB_at h.2 e c (by simpa using hc) ρ
  simpa [boolAt]using this
def at2{α:Type}(j:Nat)(g' g:Nat->Nat->α):Nat->Nat->α:=fun i e=>if i=j then g' 0 e else g i e
def at1{α:Type}(j:Nat)(x:α)(g:Nat->Nat->α):Nat->Nat->α:=fun i e=>if i=j then x else g i e
def zgt(j:Nat):Col->Col->Option Col
 | .cu,_=>some .cu
 | .ci k g,.ci k' g'=>bif zak k k' then some (.ci k (at2 j g' g)) else none
 | .ci k g,.ck l=>bif allI k l then some (.ci k (at2 j (fun _ e=>zbu l e) g)) else none
 | .cb g,.cb g'=>some (.cb (at2 j g' g))
 | .cb g,.ck l=>bif allB l then some (.cb (at2 j (fun _ e=>boolAt l e) g)) else none
 | .cs key sz ix len cap,.cs key' sz' ix' len' cap'=>bif zu key key'&&zu sz sz' then some (.cs key sz (at2 j ix' ix) (at2 j len' len) (at2 j cap' cap)) else none
 | .cs key sz ix len cap,.ck [.slc key' i' e' sz' n' c']=>bif zu key key'&&(e'.isZero&&zu sz sz') then some (.cs key sz (at1 j i'.v ix) (at1 j n'.v len) (at1 j c'.v cap)) else none
 | .cp key ix f sz,.cp key' ix' f' sz'=>bif zu key key'&&(zu f f'&&zu sz sz') then some (.cp key (at2 j ix' ix) f sz) else none
 | .cp key ix f sz,.ck [.ptr key' i' e' f' sz']=>bif zu key key'&&(e'.isZero&&(zu f f'&&zu sz sz')) then some (.cp key (at1 j i'.v ix) f sz) else none
 | _,.cu=>some .cu
 | _,_=>none
def ckLen(n:Nat):List Col->Prop
 | []=>True
 | .ck l::r=>n<=l.length/\ckLen n r
 | _::r=>ckLen n r
theorem ckLen_at{n:Nat}:∀ {l:List Col},ckLen n l->∀(f:Nat) m,l[f]?=some (.ck m)->n<=m.length
 | [],_,f,m,h=>by simp at h
 | c::l,hl,0,m,h=>by simp at h;subst h;exact hl.1
 | c::l,hl,f+1,m,h=>by
  have:ckLen n l:=by cases c<;>first|exact hl|exact hl.2
  exact ckLen_at this f m (by simpa using h)
theorem zga{j n:Nat}{a b c:Col}(h:zgt j a b=some c)(hck:∀m,b=.ck m->n<=m.length){i e:Nat}{d:SC}(hd:c.get i e=some d):
  (i≠j->∃x,a.get i e=some x/\∀ρ,d.den ρ=x.den ρ)/\(i=j->e<n->∃x,b.get 0 e=some x/\∀ρ,d.den ρ=x.den ρ):=by
 unfold zgt at h
 split at h
 ·cases h;simp[Col.get]at hd
 ·rename_i k g k' g'
  by_cases hk:zak k k'=true
  ·rw[hk]at h;cases h
   have:=zap hk;subst this
   simp only[Col.get,z0]at hd;subst hd
   exact⟨fun hne=>⟨_,rfl,fun ρ=>by simp[at2,hne]⟩,fun he _=>⟨_,rfl,fun ρ=>by simp[at2,he]⟩⟩
  ·rw[Bool.eq_false_iff.2 hk]at h;cases h
 ·rename_i k g l
  by_cases hk:allI k l=true
  ·rw[hk]at h;cases h
   simp only[Col.get,z0]at hd;subst hd
   refine⟨fun hne=>⟨_,rfl,fun ρ=>by simp[at2,hne]⟩,fun he hen=>?_⟩
   have:=hck l rfl
   exact⟨l[e]'(by omega),by simp[Col.get,List.getElem?_eq_getElem (show e<l.length by omega)],fun ρ=>by simp only[at2,he,if_true];exact allI_at hk e _ (List.getElem?_eq_getElem _) ρ⟩
  ·rw[Bool.eq_false_iff.2 hk]at h;cases h
 ·rename_i g g'
  cases h
  simp only[Col.get,z0]at hd;subst hd
  exact⟨fun hne=>⟨_,rfl,fun ρ=>by simp[at2,hne]⟩,fun he _=>⟨_,rfl,fun ρ=>by simp[at2,he]⟩⟩
 ·rename_i g l
  by_cases hk:allB l=true
  ·rw[hk]at h;cases h
   simp only[Col.get,z0]at hd;subst hd
   refine⟨fun hne=>⟨_,rfl,fun ρ=>by simp[at2,hne]⟩,fun he hen=>?_⟩
   have:=hck l rfl
   exact⟨l[e]'(by omega),by simp[Col.get,List.getElem?_eq_getElem (show e<l.length by omega)],fun ρ=>by simp only[at2,he,if_true];exact allB_at hk e _ (List.getElem?_eq_getElem _) ρ⟩
  ·rw[Bool.eq_false_iff.2 hk]at h;cases h
 ·rename_i key sz ix len cap key' sz' ix' len' cap'
  by_cases hk:(zu key key'&&zu sz sz')=true
  ·rw[hk]at h;cases h
   simp only[zx]at hk
   have h1:=zq hk.1;have h2:=zq hk.2
   subst h1 h2
   simp only[Col.get,z0]at hd;subst hd
   exact⟨fun hne=>⟨_,rfl,fun ρ=>by simp[at2,hne]⟩,fun he _=>⟨_,rfl,fun ρ=>by simp[at2,he]⟩⟩
  ·rw[Bool.eq_false_iff.2 hk]at h;cases h
 ·rename_i key sz ix len cap key' i' e' sz' n' c'
  by_cases hk:(zu key key'&&(e'.isZero&&zu sz sz'))=true
  ·rw[hk]at h;cases h
   simp only[zx]at hk
   have h1:=zq hk.1;have h2:=zq hk.2.2;have h3:=NV.isZero_v hk.2.1
   subst h1 h2
   simp only[Col.get,z0]at hd;subst hd
   refine⟨fun hne=>⟨_,rfl,fun ρ=>by simp[at1,hne]⟩,fun he hen=>?_⟩
   have:=hck _ rfl
   have he0:e=0:=by simp at this;omega
   subst he0
   exact⟨_,rfl,fun ρ=>by simp[at1,he,SC.den,zal,h3]⟩
  ·rw[Bool.eq_false_iff.2 hk]at h;cases h
 ·rename_i key ix f sz key' ix' f' sz'
  by_cases hk:(zu key key'&&(zu f f'&&zu sz sz'))=true
  ·rw[hk]at h;cases h
   simp only[zx]at hk
   have h1:=zq hk.1;have h2:=zq hk.2.2;have h3:=zq hk.2.1
   subst h1 h2 h3
   simp only[Col.get,z0]at hd;subst hd
   exact⟨fun hne=>⟨_,rfl,fun ρ=>by simp[at2,hne]⟩,fun he _=>⟨_,rfl,fun ρ=>by simp[at2,he]⟩⟩
  ·rw[Bool.eq_false_iff.2 hk]at h;cases h
 ·rename_i key ix f sz key' i' e' f' sz'
  by_cases hk:(zu key key'&&(e'.isZero&&(zu f f'&&zu sz sz')))=true
  ·rw[hk]at h;cases h
   simp only[zx]at hk
   have h1:=zq hk.1;have h2:=zq hk.2.2.2;have h3:=NV.isZero_v hk.2.1;have h4:=zq hk.2.2.1
   subst h1 h2 h4
   simp only[Col.get,z0]at hd;subst hd
   refine⟨fun hne=>⟨_,rfl,fun ρ=>by simp[at1,hne]⟩,fun he hen=>?_⟩
   have:=hck _ rfl
   have he0:e=0:=by simp at this;omega
   subst he0
   exact⟨_,rfl,fun ρ=>by simp[at1,he,SC.den,zal,h3]⟩
  ·rw[Bool.eq_false_iff.2 hk]at h;cases h
 ·cases h;simp[Col.get]at hd
 ·cases h
def zb1(j:Nat):List Col->List Col->Option (List Col)
 | [],[]=>some []
 | a::l,b::l'=>match zgt j a b,zb1 j l l' with
  | some x,some y=>some (x::y)
  | _,_=>none
 | _,_=>none
theorem ze6{j:Nat}:∀ {a b c:List Col},zb1 j a b=some c->c.length=a.length/\b.length=a.length/\∀(f:Nat) z,c[f]?=some z->∃x y,a[f]?=some x/\b[f]?=some y/\zgt j x y=some z
 | [],[],c,h=>by simp[zb1]at h;subst h;exact⟨rfl,rfl,fun f z hz=>by simp at hz⟩
 | [],_::_,c,h=>by simp[zb1]at h
 | _::_,[],c,h=>by simp[zb1]at h
 | x::a,y::b,c,h=>by
  simp only[zb1]at h
  split at h
  ·rename_i z t h1 h2
   cases h
   obtain⟨g1,g2,g3⟩:=ze6 h2
   refine⟨by simp[g1],by simp[g2],fun f z' hz=>?_⟩
   cases f with
   | zero=>simp at hz;subst hz;exact⟨x,y,rfl,rfl,h1⟩
   | succ f=>simpa using g3 f z' (by simpa using hz)
  ·cases h
def put1(j x:Nat)(f:Nat->Nat):Nat->Nat:=fun i=>if i=j then x else f i
def Rho.join(ρ:Rho)(K F k2 j:Nat):Rho:=fun k i=>if k=K then(if i=j then ρ k2 0 else ρ F i) else ρ k i
theorem HInv.merge{φ:Fr}{ρ:Rho}{H:Hp}{w:World}(h:HInv φ ρ H w){F k2 j cap2 n2:Nat}{t:TypeId}{capF lenF:Nat->Nat}{zge cols2 cols:List Col}{b2:Blk}(hF:find F H.h=some (.fam true t capF lenF zge))(h2:find k2 H.h=some b2)(hne:k2≠F)
  (hb2:asRow b2=some (t,cap2,n2,cols2)) (hc:zb1 j zge cols2=some cols) (hck:ckLen n2 cols2):
  HInv φ (ρ.join H.nxt F k2 j) ⟨(H.nxt,.fam true t (put1 j cap2 capF) (put1 j n2 lenF) cols)::drop k2 (drop F H.h),H.nxt+1,H.D⟩ w:=by
 obtain⟨r1,r2,r3⟩:=asRow_h hb2
 obtain⟨g1,g2,g3⟩:=ze6 hc
 have hag:zat H.sc ρ (ρ.join H.nxt F k2 j):=fun k hk=>by
  funext i;simp only[Rho.join];rw[if_neg (by have:=hk.1;omega)]
 have hsc:∀k,H.sc k->Hp.sc ⟨(H.nxt,.fam true t (put1 j cap2 capF) (put1 j n2 lenF) cols)::drop k2 (drop F H.h),H.nxt+1,H.D⟩ k:=fun k hk=>⟨Nat.lt_succ_of_lt hk.1,hk.2⟩
 have hat:∀i,ρ.join H.nxt F k2 j H.nxt i=if i=j then ρ k2 0 else ρ F i:=fun i=>by simp[Rho.join]
 have hold:∀k b,find k (drop k2 (drop F H.h))=some b->find k H.h=some b/\k≠k2/\k≠F:=by
  intro k b hk
  rw[zb7,zb7]at hk
  split at hk
  ·cases hk
  ·split at hk
   ·cases hk
   ·exact⟨hk,by assumption,by assumption⟩
 have hnk:∀k b,find k H.h=some b->k≠H.nxt:=fun k b hk=>Nat.ne_of_lt (h.lt k b hk).1
 have hkeep:∀k b,find k H.h=some b->∀i,ρ.join H.nxt F k2 j k i=ρ k i:=fun k b hk i=>by simp only[Rho.join];rw[if_neg (hnk k b hk)]
 -- where an instance of the new family lies
 have src:∀i,0<put1 j cap2 capF i->∀y o,ρ.join H.nxt F k2 j H.nxt i=some (y,o)->(i=j/\b2.live 0/\ρ k2 0=some (y,o))\/(i≠j/\0<capF i/\ρ F i=some (y,o)):=by
  intro i hi y o hy
  rw[hat]at hy
  simp only[put1]at hi
  by_cases e:i=j
  ·rw[if_pos e]at hi hy;exact .inl ⟨e,r2 hi,hy⟩
  ·rw[if_neg e]at hi hy;exact .inr ⟨e,hi,hy⟩
 have hlF:∀i,0<capF i->Blk.live (.fam true t capF lenF zge) i:=fun i hi=>hi
 refine⟨h.fr,fun k hk=>h.up k (Nat.le_of_succ_le hk),?_,?_,?_,?_,?_⟩
 ·intro k b hk
  rw[zag]at hk
  split at hk
  ·rename_i e;subst e;exact⟨Nat.lt_succ_self _,h.up _ (Z _)⟩
  ·exact hsc k (h.lt k b (hold k b hk).1)
 ·intro k b hk
  rw[zag]at hk
  split at hk
  ·rename_i e;cases hk;subst e
   obtain⟨s1,s2,s3⟩:=h.sat F _ hF
   have hcap2:n2<=cap2/\cap2<=maxLen:=by
    rcases r3 (h.sat k2 b2 h2) with q|q
    ·exact q.1
    ·rw[q.1,q.2];exact⟨Z _,Nat.zero_le _⟩
   refine⟨fun i=>?_,fun i i' hi hi' hii y o y' o' hy hy'=>?_,fun i hi=>?_⟩
   ·simp only[put1]
    split
    ·exact hcap2
    ·exact s1 i
   ·rcases src i hi y o hy with⟨e,l,hρ⟩|⟨e,l,hρ⟩<;>rcases src i' hi' y' o' hy' with⟨e',l',hρ'⟩|⟨e',l',hρ'⟩
    ·exact absurd (e.trans e'.symm) hii
    ·intro q;subst q
     exact h.sep k2 b2 h2 r1 F _ hF (Ne.symm hne) 0 i' l (hlF i' l') y o y o' hρ hρ' rfl
    ·intro q;subst q
     exact h.sep k2 b2 h2 r1 F _ hF (Ne.symm hne) 0 i l' (hlF i l) y o' y o hρ' hρ rfl
    ·exact s2 i i' l l' hii y o y' o' hρ hρ'
   ·simp only[put1]at hi ⊢
    by_cases e:i=j
    ·subst e
     simp only[if_true]at hi ⊢
     rcases r3 (h.sat k2 b2 h2) with⟨_,q⟩|⟨_,q⟩
     ·obtain⟨y,arr,k1,k3,k4,k5⟩:=q hi
      refine⟨y,arr,by rw[hat,if_pos rfl];exact k1,k3,by rw[g1,<-g2];exact k4,fun e' he f col d hf hd=>?_⟩
      obtain⟨x,z,hx,hz,hm⟩:=g3 f col hf
      obtain⟨u,hu,hden⟩:=(zga (n:=n2) hm (fun m hm'=>ckLen_at hck f m (by rw[hz,hm'])) hd).2 rfl he
      obtain⟨v,hv,hi'⟩:=k5 e' he f z u hz hu
      exact⟨v,by rw[g1,<-g2];exact hv,fun ρ' ha=>by rw[hden];exact(hi'.ext hag hsc) ρ' ha⟩
     ·omega
    ·rw[if_neg e]at hi ⊢
     obtain⟨y,arr,k1,k3,k4,k5⟩:=s3 i hi
     refine⟨y,arr,by rw[hat,if_neg e];exact k1,k3,by rw[g1];exact k4,fun e' he f col d hf hd=>?_⟩
     rw[if_neg e]at he
     obtain⟨x,z,hx,hz,hm⟩:=g3 f col hf
     obtain⟨u,hu,hden⟩:=(zga (n:=n2) hm (fun m hm'=>ckLen_at hck f m (by rw[hz,hm'])) hd).1 e
     obtain⟨v,hv,hi'⟩:=k5 e' he f x u hx hu
     exact⟨v,by rw[g1];exact hv,fun ρ' ha=>by rw[hden];exact(hi'.ext hag hsc) ρ' ha⟩
  ·exact Blk.sat_ext (h.sat k b (hold k b hk).1) hag hsc (h.lt k b (hold k b hk).1)
 ·intro k b hk i hi y o hy
  rw[zag]at hk
  split at hk
  ·rename_i e;cases hk;subst e
   rcases src i hi y o hy with⟨e,l,hρ⟩|⟨e,l,hρ⟩
   ·exact h.bd k2 b2 h2 0 l y o hρ
   ·exact h.bd F _ hF i (hlF i l) y o hρ
  ·have hk:=(hold k b hk).1
   rw[hkeep k b hk]at hy
   exact h.bd k b hk i hi y o hy
 ·intro k b hk hr i hi y o hy
  rw[zag]at hk
  split at hk
  ·rename_i e;cases hk;subst e
   rcases src i hi y o hy with⟨e,l,hρ⟩|⟨e,l,hρ⟩
   ·exact h.may k2 b2 h2 r1 0 l y o hρ
   ·exact h.may F _ hF rfl i (hlF i l) y o hρ
  ·have hk:=(hold k b hk).1
   rw[hkeep k b hk]at hy
   exact h.may k b hk hr i hi y o hy
 ·intro k b hk hr k' b' hk' hkk p q hp hq y o y' o' hy hy'
  rw[zag]at hk hk'
  split at hk
  ·rename_i e;cases hk;subst e
   rw[if_neg hkk]at hk'
   obtain⟨hk',n1,n2'⟩:=hold k' b' hk'
   rw[hkeep k' b' hk']at hy'
   rcases src p hp y o hy with⟨e,l,hρ⟩|⟨e,l,hρ⟩
   ·exact h.sep k2 b2 h2 r1 k' b' hk' n1 0 q l hq y o y' o' hρ hy'
   ·exact h.sep F _ hF rfl k' b' hk' n2' p q (hlF p l) hq y o y' o' hρ hy'
  ·rename_i e
   obtain⟨hk,m1,m2⟩:=hold k b hk
   rw[hkeep k b hk]at hy
   split at hk'
   ·rename_i e';cases hk';subst e'
    rcases src q hq y' o' hy' with⟨e,l,hρ⟩|⟨e,l,hρ⟩
    ·exact h.sep k b hk hr k2 b2 h2 (Ne.symm m1) p 0 hp l y o y' o' hy hρ
    ·exact h.sep k b hk hr F _ hF (Ne.symm m2) p q hp (hlF q l) y o y' o' hy hρ
   ·obtain⟨hk',_⟩:=hold k' b' hk'
    rw[hkeep k' b' hk']at hy'
    exact h.sep k b hk hr k' b' hk' hkk p q hp hq y o y' o' hy hy'
def Blk.has:Blk->Nat->Nat->Prop
 | .own ..,i,e=>i=0/\e=0
 | .row _ _ n _,i,e=>i=0/\e<n
 | .view m n _,i,e=>i<m/\e<n i
 | .fam _ _ _ n _,i,e=>e<n i
def Blk.cols:Blk->List Col
 | .row _ _ _ cols=>cols
 | .fam _ _ _ _ cols=>cols
 | _=>[]
def Blk.setCols:Blk->List Col->Blk
 | .row t cap n _,cols=>.row t cap n cols
 | .fam rw t cap n _,cols=>.fam rw t cap n cols
 | b,_=>b
def zfr(K:Nat):Col->Option (Nat×Nat×Nat×Nat×(Nat->Nat->Nat)×Col)
 | .ov i e (.slc k2 i2 e2 sz2 n c) (.cs F sz ix len cap)=>bif i2.isZero&&(e2.isZero&&zu sz sz2) then some (F,k2,i.v,e.v,ix,.cs K sz ix (up2 i e n.v len) (up2 i e c.v cap)) else none
 | .ov i e (.ptr k2 i2 e2 f2 sz2) (.cp F ix f sz)=>bif i2.isZero&&(e2.isZero&&(zu f f2&&zu sz sz2)) then some (F,k2,i.v,e.v,ix,.cp K ix f sz) else none
 | .ov i e (.ifc t2 k2 i2 e2 f2 sz2) (.cf t F ix f sz)=>bif i2.isZero&&(e2.isZero&&(zu f f2&&(zu sz sz2&&zu t t2))) then some (F,k2,i.v,e.v,ix,.cf t K ix f sz) else none
 | .ov i e (.ifc t2 k2 i2 e2 f2 sz2) (.sel p (.cf t F ix f sz) (.cc .nilI))=>bif i2.isZero&&(e2.isZero&&(zu f f2&&(zu sz sz2&&zu t t2))) then some (F,k2,i.v,e.v,ix,.sel (up2 i e true p) (.cf t K ix f sz) (.cc .nilI)) else none
 | _=>none
theorem joinCol_get{K:Nat}{col col':Col}{F k2 i0 e0:Nat}{ix:Nat->Nat->Nat}(h:zfr K col=some (F,k2,i0,e0,ix,col')){ρ:Rho}(hk:K≠F/\K≠k2){i e:Nat}(hne:¬(i=i0/\e=e0)->ix i e≠ix i0 e0){d:SC}(hd:col'.get i e=some d):
  ∃x,col.get i e=some x/\x.den (ρ.join K F k2 (ix i0 e0))=d.den (ρ.join K F k2 (ix i0 e0)):=by
 have a1:ρ.join K F k2 (ix i0 e0) F=ρ F:=by funext q;simp[Rho.join,Ne.symm hk.1]
 have a2:ρ.join K F k2 (ix i0 e0) k2=ρ k2:=by funext q;simp[Rho.join,Ne.symm hk.2]
 have a3:∀q,ρ.join K F k2 (ix i0 e0) K q=if q=ix i0 e0 then ρ k2 0 else ρ F q:=fun q=>by simp[Rho.join]
 unfold zfr at h
 split at h
 ·rename_i i' e' k2' i2 e2 sz2 n c F' sz ix' len cap
  by_cases hb:(i2.isZero&&(e2.isZero&&zu sz sz2))=true
  ·rw[hb]at h
   simp only[cond_true,z0,Prod.mk.injEq]at h
   obtain⟨rfl,rfl,rfl,rfl,rfl,rfl⟩:=h
   simp only[zx]at hb
   have z1:=NV.isZero_v hb.1;have z2:=NV.isZero_v hb.2.1;have z3:=zq hb.2.2
   subst z3
   simp only[Col.get,z0]at hd;subst hd
   by_cases he:i=i'.v/\e=e'.v
   ·refine⟨_,by simp only[Col.get];rw[if_pos he],?_⟩
    obtain⟨rfl,rfl⟩:=he
    simp only[SC.den,zal,NV.v_s,NV.v_k,a2,a3,z1,z2,up2,and_self,if_true]
   ·refine⟨_,by simp only[Col.get];rw[if_neg he],?_⟩
    simp only[SC.den,zal,NV.v_s,NV.v_k,a1,a3,up2,if_neg he,if_neg (hne he)]
  ·rw[Bool.eq_false_iff.2 hb]at h;cases h
 ·rename_i i' e' k2' i2 e2 f2 sz2 F' ix' f sz
  by_cases hb:(i2.isZero&&(e2.isZero&&(zu f f2&&zu sz sz2)))=true
  ·rw[hb]at h
   simp only[cond_true,z0,Prod.mk.injEq]at h
   obtain⟨rfl,rfl,rfl,rfl,rfl,rfl⟩:=h
   simp only[zx]at hb
   have z1:=NV.isZero_v hb.1;have z2:=NV.isZero_v hb.2.1;have z3:=zq hb.2.2.2;have z4:=zq hb.2.2.1
   subst z3 z4
   simp only[Col.get,z0]at hd;subst hd
   by_cases he:i=i'.v/\e=e'.v
   ·refine⟨_,by simp only[Col.get];rw[if_pos he],?_⟩
    simp only[SC.den,zal,NV.v_s,NV.v_k,a2,a3,z1,z2,he.1,he.2,if_true]
   ·refine⟨_,by simp only[Col.get];rw[if_neg he],?_⟩
    simp only[SC.den,zal,NV.v_s,NV.v_k,a1,a3,if_neg (hne he)]
  ·rw[Bool.eq_false_iff.2 hb]at h;cases h
 ·rename_i i' e' t2 k2' i2 e2 f2 sz2 t F' ix' f sz
  by_cases hb:(i2.isZero&&(e2.isZero&&(zu f f2&&(zu sz sz2&&zu t t2))))=true
  ·rw[hb]at h
   simp only[cond_true,z0,Prod.mk.injEq]at h
   obtain⟨rfl,rfl,rfl,rfl,rfl,rfl⟩:=h
   simp only[zx]at hb
   have z1:=NV.isZero_v hb.1;have z2:=NV.isZero_v hb.2.1;have z3:=zq hb.2.2.2.1;have z4:=zq hb.2.2.1;have z5:=zq hb.2.2.2.2
   subst z3 z4 z5
   simp only[Col.get,z0]at hd;subst hd
   by_cases he:i=i'.v/\e=e'.v
   ·refine⟨_,by simp only[Col.get];rw[if_pos he],?_⟩
    simp only[SC.den,zal,NV.v_s,NV.v_k,a2,a3,z1,z2,he.1,he.2,if_true]
   ·refine⟨_,by simp only[Col.get];rw[if_neg he],?_⟩
    simp only[SC.den,zal,NV.v_s,NV.v_k,a1,a3,if_neg (hne he)]
  ·rw[Bool.eq_false_iff.2 hb]at h;cases h
 ·rename_i i' e' t2 k2' i2 e2 f2 sz2 p t F' ix' f sz
  by_cases hb:(i2.isZero&&(e2.isZero&&(zu f f2&&(zu sz sz2&&zu t t2))))=true
  ·rw[hb]at h
   simp only[cond_true,z0,Prod.mk.injEq]at h
   obtain⟨rfl,rfl,rfl,rfl,rfl,rfl⟩:=h
   simp only[zx]at hb
   have z1:=NV.isZero_v hb.1;have z2:=NV.isZero_v hb.2.1;have z3:=zq hb.2.2.2.1;have z4:=zq hb.2.2.1;have z5:=zq hb.2.2.2.2
   subst z3 z4 z5
   simp only[Col.get]at hd
   by_cases he:i=i'.v/\e=e'.v
   ·have e1:up2 i' e' true p i e=true:=if_pos he
    simp only[e1,if_true,z0]at hd;subst hd
    refine⟨_,by simp only[Col.get];rw[if_pos he],?_⟩
    simp only[SC.den,zal,NV.v_s,NV.v_k,a2,a3,z1,z2,he.1,he.2,if_true]
   ·have e1:up2 i' e' true p i e=p i e:=if_neg he
    simp only[e1]at hd
    simp only[Col.get]
    rw[if_neg he]
    split at hd
    ·rename_i hp
     simp only[z0]at hd;subst hd
     refine⟨_,by rw[if_pos hp],?_⟩
     simp only[SC.den,zal,NV.v_s,NV.v_k,a1,a3,if_neg (hne he)]
    ·rename_i hp
     simp only[z0]at hd;subst hd
     exact⟨_,by rw[if_neg hp],rfl⟩
  ·rw[Bool.eq_false_iff.2 hb]at h;cases h
 ·cases h
theorem joinCol_keys{K:Nat}{col col':Col}{F k2 i0 e0:Nat}{ix:Nat->Nat->Nat}(h:zfr K col=some (F,k2,i0,e0,ix,col')):col'.keys=[K]:=by
 have fin:∀(b:Bool) (x:Nat×Nat×Nat×Nat×(Nat->Nat->Nat)×Col),x.2.2.2.2.2.keys=[K]->(bif b then some x else none)=some (F,k2,i0,e0,ix,col')->col'.keys=[K]:=by
  intro b x hx h
  cases b with
  | true=>simp only[cond_true,z0]at h;subst h;exact hx
  | false=>cases h
 unfold zfr at h
 split at h
 ·exact fin _ _ rfl h
 ·exact fin _ _ rfl h
 ·exact fin _ _ rfl h
 ·exact fin _ _ rfl h
 ·cases h
theorem Blk.sat_setCols{n:Nat->Prop}{ρ:Rho}{k:Nat}{w:World}{b:Blk}{cols':List Col}(h:b.sat n ρ k w)(hl:cols'.length=b.cols.length)
  (hc:∀i e,b.has i e->∀(f:Nat) col' d,cols'[f]?=some col'->col'.get i e=some d->∃col x,b.cols[f]?=some col/\col.get i e=some x/\(x=d\/(x.den ρ=d.den ρ/\∀k∈d.keys,n k))):(b.setCols cols').sat n ρ k w:=by
 have ci:∀ {x d:SC} {v:Value},CIs n ρ x v->(x=d\/(x.den ρ=d.den ρ/\∀k∈d.keys,n k))->CIs n ρ d v:=by
  rintro x d v hx (rfl|⟨h1,h2⟩)
  ·exact hx
  ·exact .of_keys (h1 ▸ hx.eq.symm) h2
 cases b with
 | own t size cs=>exact h
 | view m len cols=>exact h
 | row t cap m cols=>
  rcases h with h|⟨y,arr,h1,h2,h3,h4,h4',h5⟩
  ·exact .inl h
  have hl:cols'.length=cols.length:=hl
  refine .inr ⟨y,arr,h1,h2,by rw[hl];exact h3,h4,h4',fun e he f col d hf hd=>?_⟩
  obtain⟨col0,x,hx1,hx2,hx3⟩:=hc 0 e ⟨rfl,he⟩ f col d hf hd
  obtain⟨v,hv,hi⟩:=h5 e he f col0 x hx1 hx2
  exact⟨v,by rw[hl];exact hv,ci hi hx3⟩
 | fam rw t cap len cols=>
  obtain⟨h1,h2,h3⟩:=h
  have hl:cols'.length=cols.length:=hl
  refine⟨h1,h2,fun i hi=>?_⟩
  obtain⟨y,arr,g1,g2,g3,g4⟩:=h3 i hi
  refine⟨y,arr,g1,g2,by rw[hl];exact g3,fun e he f col d hf hd=>?_⟩
  obtain⟨col0,x,hx1,hx2,hx3⟩:=hc i e he f col d hf hd
  obtain⟨v,hv,hi'⟩:=g4 e he f col0 x hx1 hx2
  exact⟨v,by rw[hl];exact hv,ci hi' hx3⟩
theorem Blk.setCols_isRow(b:Blk)(c:List Col):(b.setCols c).isRow=b.isRow:=by cases b<;>rfl
theorem Blk.setCols_live(b:Blk)(c:List Col)(i:Nat):(b.setCols c).live i=b.live i:=by cases b<;>rfl
def joinG(kb:St->Nat)(f:Nat):St->Out St:=fun s=>fN (kb s) fun kb=>opt (find kb s.H.h) (fun b=>opt (b.cols[f]?) (fun col=>opt (zfr s.H.nxt col) (fun q=>match q with
 | (F,k2,i0,e0,ix,col')=>opt (find k2 s.H.h) (fun b2=>match find F s.H.h,asRow b2 with
  | some (.fam true t capF lenF zge),some (t2,cap2,n2,cols2)=>chk (zu t2 t&&(!zu k2 F&&(!zu kb F&&!zu kb k2)))
    (opt (zb1 (ix i0 e0) zge cols2) (fun cols=>.need (ckLen n2 cols2/\∀i e,b.has i e->¬(i=i0/\e=e0)->ix i e≠ix i0 e0)
     (.leaf ⟨s.tmps,⟨(s.H.nxt,.fam true t (put1 (ix i0 e0) cap2 capF) (put1 (ix i0 e0) n2 lenF) cols)::upd kb (b.setCols (b.cols.set f col')) (drop k2 (drop F s.H.h)),s.H.nxt+1,s.H.D⟩⟩)) 360) 361
  | _,_=>.bad 362) 363) 364) 365) 366
theorem joinG_ok(kb:St->Nat)(f:Nat):zbl (joinG kb f):=by
 intro φ ρ s a w K h hh
 unfold joinG at hh
 simp only[fN_eq]at hh
 generalize kb s=kb at hh
 obtain⟨b,hb,hh⟩:=zaa hh
 obtain⟨col,hcol,hh⟩:=zaa hh
 obtain⟨⟨F,k2,i0,e0,ix,col'⟩,hj,hh⟩:=zaa hh
 simp only at hh
 obtain⟨b2,hb2,hh⟩:=zaa hh
 split at hh
 ·rename_i t capF lenF zge t2 cap2 n2 cols2 hF hrow
  replace hh:=zaf hh
  obtain⟨hq,hh⟩:=hh
  simp only[zx,Bool.not_eq_true']at hq
  obtain⟨q1,q2,q3,q4⟩:=hq
  have ne:∀ {x y:Nat},zu x y=false->x≠y:=by rintro x y h rfl;rw[Nat.beq_refl]at h;cases h
  have q1:=zq q1;have q2:=ne q2;have q3:=ne q3;have q4:=ne q4
  subst q1
  replace hh:=zaa hh
  obtain⟨cols,hcols,⟨hck,hinj⟩,hK⟩:=hh
  have hm:=h.heap.merge hF hb2 q2 hrow hcols hck
  have hKne:s.H.nxt≠F/\s.H.nxt≠k2:=⟨Nat.ne_of_gt (h.heap.lt F _ hF).1,Nat.ne_of_gt (h.heap.lt k2 _ hb2).1⟩
  have hkb:kb≠s.H.nxt:=Nat.ne_of_lt (h.heap.lt kb _ hb).1
  have hag:zat s.H.sc ρ (ρ.join s.H.nxt F k2 (ix i0 e0)):=fun k hk=>by
   funext i;simp only[Rho.join];rw[if_neg (by have:=hk.1;omega)]
  have hfind:find kb ((s.H.nxt,Blk.fam true t2 (put1 (ix i0 e0) cap2 capF) (put1 (ix i0 e0) n2 lenF) cols)::drop k2 (drop F s.H.h))=some b:=by
   rw[zag,if_neg hkb,zb7,if_neg q4,zb7,if_neg q3];exact hb
  have hfl:f<b.cols.length:=(List.getElem?_eq_some_iff.1 hcol).1
  have hsat:=Blk.sat_setCols (cols':=b.cols.set f col') (hm.sat kb b hfind) (by simp) (fun i e hie f' c' d hf hd=>by
   rw[List.getElem?_set]at hf
   by_cases hff:f=f'
   ·subst hff
    rw[if_pos rfl,if_pos hfl]at hf
    cases hf
    obtain⟨x,hx1,hx2⟩:=joinCol_get hj hKne (hinj i e hie) hd
    refine⟨col,x,hcol,hx1,.inr ⟨hx2,fun k hk=>?_⟩⟩
    have:=Col.get_keys hd k hk
    rw[joinCol_keys hj]at this
    simp at this;subst this
    exact⟨Nat.lt_succ_self _,h.heap.up _ (Z _)⟩
   ·rw[if_neg hff]at hf
    exact⟨c',d,hf,hd,.inl rfl⟩)
  have hfin:=hm.reword hfind (b':=b.setCols (b.cols.set f col')) (fun hr=>by rw[Blk.setCols_isRow]at hr;exact hr) (fun i hi=>by rw[Blk.setCols_live]at hi;exact hi) hsat
  have hbq:zu kb s.H.nxt=false:=by
   cases hb:zu kb s.H.nxt with
   | false=>rfl
   | true=>exact absurd (zq hb) hkb
  simp only[upd,hbq,cond_false]at hfin
  have hsc:∀k,s.H.sc k->Hp.sc ⟨(s.H.nxt,Blk.fam true t2 (put1 (ix i0 e0) cap2 capF) (put1 (ix i0 e0) n2 lenF) cols)::upd kb (b.setCols (b.cols.set f col')) (drop k2 (drop F s.H.h)),s.H.nxt+1,s.H.D⟩ k:=fun k hk=>⟨Nat.lt_succ_of_lt hk.1,hk.2⟩
  exact⟨_,_,hK,hag,⟨Nat.le_succ _,rfl⟩,⟨hfin,h.defers,h.size,fun k sv hk=>let ⟨v,hv,hi⟩:=h.tmps k sv hk;⟨v,hv,hi.ext hag hsc⟩⟩⟩
 ·exact hh.elim
def nilElC(n:Nat):Col->Bool
 | .cc .nils=>true
 | .ck [.nils]=>zu n 1
 | _=>false
theorem nilElC_get{n:Nat}{c:Col}(h:nilElC n c=true){i e:Nat}(he:e<n):c.get i e=some .nils:=by
 unfold nilElC at h
 split at h
 ·rfl
 ·have:=zq h
  obtain rfl:e=0:=by omega
  rfl
 ·cases h
def nilColG(key f:Nat)(el:TypeId)(sz:Nat)(cols:List Col):St->Out St:=fun s=>match find key s.H.h with
 | some (.row t cap n cs)=>match (cs[f]?).map (nilElC n) with
  | some true=>.leaf ⟨s.tmps,⟨(s.H.nxt,.fam true el (fun _=>0) (fun _=>0) cols)::upd key (.row t cap n (cs.set f (.cs s.H.nxt sz (fun _ e=>e) (fun _ _=>0) (fun _ _=>0)))) s.H.h,s.H.nxt+1,s.H.D⟩⟩
  | _=>.bad 353
 | _=>.bad 354
theorem nilColG_ok(key f:Nat)(el:TypeId)(sz:Nat)(cols:List Col):zbl (nilColG key f el sz cols):=by
 intro φ ρ s a w K h hh
 unfold nilColG at hh
 split at hh
 ·rename_i t cap n cs hf
  split at hh
  ·rename_i hc
   obtain⟨cc,hc,hcc⟩:=Option.map_eq_some_iff.1 hc
   obtain⟨h1,h2,h3⟩:=h.newDead (.fam true el (fun _=>0) (fun _=>0) cols) (fun i hi=>absurd hi (zr 0)) (fun n ρ'=>⟨fun _=>⟨Z _,Nat.zero_le _⟩,fun i j hi=>absurd hi (zr 0),fun i hi=>absurd hi (zr 0)⟩)
   have hkey:key≠s.H.nxt:=Nat.ne_of_lt (h.heap.lt key _ hf).1
   have hf':find key ((s.H.nxt,Blk.fam true el (fun _=>0) (fun _=>0) cols)::s.H.h)=some (.row t cap n cs):=by rw[zag,if_neg hkey];exact hf
   have hsat:=Blk.sat_setCols (cols':=cs.set f (.cs s.H.nxt sz (fun _ e=>e) (fun _ _=>0) (fun _ _=>0))) (h3.heap.sat key _ hf') (by simp[Blk.cols]) (fun i e hie f' c' d hf1 hd=>by
    rw[List.getElem?_set]at hf1
    split at hf1
    ·rename_i e1;subst e1
     split at hf1
     ·cases hf1
      simp only[Col.get,z0]at hd
      subst hd
      refine⟨_,.nils,hc,nilElC_get hcc hie.2,.inr ⟨?_,?_⟩⟩
      ·have e0:(ρ.put s.H.nxt none) s.H.nxt e=none:=by simp only[Rho.put,if_true];by_cases h:e=0<;>simp[h]
       simp[SC.den,zal,e0]
      ·intro k hk
       simp only[SC.keys,List.mem_singleton]at hk
       subst hk
       exact⟨Nat.lt_succ_self _,h.heap.up _ (Z _)⟩
     ·cases hf1
    ·exact⟨c',d,hf1,hd,.inl rfl⟩)
   have hw:=h3.heap.reword hf' (b':=.row t cap n (cs.set f (.cs s.H.nxt sz (fun _ e=>e) (fun _ _=>0) (fun _ _=>0)))) (fun hr=>rfl) (fun i hi=>hi) hsat
   refine⟨_,_,hh,h1,⟨h2.nxt,h2.D⟩,⟨?_,h3.defers,h3.size,h3.tmps⟩⟩
   simp only[upd]at hw
   have hb:zu key s.H.nxt=false:=by
    cases hb:zu key s.H.nxt with
    | false=>rfl
    | true=>exact absurd (zq hb) hkey
   rw[hb]at hw
   exact hw
  ·exact hh.elim
 ·exact hh.elim
def joinColLt(K:Nat):Col->Option (Nat×Nat×Nat×Nat×Nat×(Nat->Nat->Nat)×Col)
 | .ov i e (.slc k2 i2 e2 sz2 n c) (.lt m (.cs F sz ix len cap) b)=>bif i2.isZero&&(e2.isZero&&zu sz sz2) then some (F,k2,i.v,e.v,m,ix,.lt (e.v+1) (.cs K sz ix (up2 i e n.v len) (up2 i e c.v cap)) b) else none
 | _=>none
theorem joinColLt_get{K:Nat}{col col':Col}{F k2 i0 e0 m:Nat}{ix:Nat->Nat->Nat}(h:joinColLt K col=some (F,k2,i0,e0,m,ix,col')){ρ:Rho}(hk:K≠F/\K≠k2){i e:Nat}(hm:m=e0)(hi:i=i0)(hne:e<e0->ix i e≠ix i0 e0){d:SC}(hd:col'.get i e=some d):
  ∃x,col.get i e=some x/\(x=d\/(x.den (ρ.join K F k2 (ix i0 e0))=d.den (ρ.join K F k2 (ix i0 e0))/\d.keys=[K])):=by
 have a1:ρ.join K F k2 (ix i0 e0) F=ρ F:=by funext q;simp[Rho.join,Ne.symm hk.1]
 have a2:ρ.join K F k2 (ix i0 e0) k2=ρ k2:=by funext q;simp[Rho.join,Ne.symm hk.2]
 have a3:∀q,ρ.join K F k2 (ix i0 e0) K q=if q=ix i0 e0 then ρ k2 0 else ρ F q:=fun q=>by simp[Rho.join]
 unfold joinColLt at h
 split at h
 ·rename_i i' e' k2' i2 e2 sz2 n c m' F' sz ix' len cap b
  by_cases hb:(i2.isZero&&(e2.isZero&&zu sz sz2))=true
  ·rw[hb]at h
   simp only[cond_true,z0,Prod.mk.injEq]at h
   obtain⟨rfl,rfl,rfl,rfl,rfl,rfl,rfl⟩:=h
   simp only[zx]at hb
   have z1:=NV.isZero_v hb.1;have z2:=NV.isZero_v hb.2.1;have z3:=zq hb.2.2
   subst z3
   subst hi
   simp only[Col.get]at hd ⊢
   by_cases he:e=e'.v
   ·subst he
    rw[if_pos (Nat.lt_succ_self _)]at hd
    simp only[z0]at hd;subst hd
    refine⟨_,by rw[if_pos (by simp)],.inr ⟨?_,rfl⟩⟩
    simp only[SC.den,zal,NV.v_s,NV.v_k,a2,a3,z1,z2,up2,and_self,if_true]
   ·rw[if_neg (fun h=>he h.2)]
    by_cases hl:e<e'.v
    ·rw[if_pos (by omega)]at hd
     simp only[z0]at hd;subst hd
     refine⟨_,by rw[if_pos (by omega)],.inr ⟨?_,rfl⟩⟩
     have hne':=hne hl
     simp only[SC.den,zal,NV.v_s,NV.v_k,a1,a3,up2,he,and_false,if_false,if_neg hne']
    ·rw[if_neg (by omega)]at hd
     exact⟨d,by rw[if_neg (by omega)];exact hd,.inl rfl⟩
  ·rw[Bool.eq_false_iff.2 hb]at h;cases h
 ·cases h
def joinLtG(kb:St->Nat)(f:Nat):St->Out St:=fun s=>fN (kb s) fun kb=>opt (find kb s.H.h) (fun b=>opt (b.cols[f]?) (fun col=>opt (joinColLt s.H.nxt col) (fun q=>match q with
 | (F,k2,i0,e0,m,ix,col')=>opt (find k2 s.H.h) (fun b2=>match find F s.H.h,asRow b2 with
  | some (.fam true t capF lenF zge),some (t2,cap2,n2,cols2)=>chk (zu t2 t&&(!zu k2 F&&(!zu kb F&&!zu kb k2)))
    (opt (zb1 (ix i0 e0) zge cols2) (fun cols=>.need (ckLen n2 cols2/\m=e0/\(∀i e,b.has i e->i=i0)/\∀e,e<e0->ix i0 e≠ix i0 e0)
     (.leaf ⟨s.tmps,⟨(s.H.nxt,.fam true t (put1 (ix i0 e0) cap2 capF) (put1 (ix i0 e0) n2 lenF) cols)::upd kb (b.setCols (b.cols.set f col')) (drop k2 (drop F s.H.h)),s.H.nxt+1,s.H.D⟩⟩)) 370) 371
  | _,_=>.bad 372) 373) 374) 375) 376
theorem joinLtG_ok(kb:St->Nat)(f:Nat):zbl (joinLtG kb f):=by
 intro φ ρ s a w K h hh
 unfold joinLtG at hh
 simp only[fN_eq]at hh
 generalize kb s=kb at hh
 obtain⟨b,hb,hh⟩:=zaa hh
 obtain⟨col,hcol,hh⟩:=zaa hh
 obtain⟨⟨F,k2,i0,e0,m,ix,col'⟩,hj,hh⟩:=zaa hh
 simp only at hh
 obtain⟨b2,hb2,hh⟩:=zaa hh
 split at hh
 ·rename_i t capF lenF zge t2 cap2 n2 cols2 hF hrow
  replace hh:=zaf hh
  obtain⟨hq,hh⟩:=hh
  simp only[zx,Bool.not_eq_true']at hq
  obtain⟨q1,q2,q3,q4⟩:=hq
  have ne:∀ {x y:Nat},zu x y=false->x≠y:=by rintro x y h rfl;rw[Nat.beq_refl]at h;cases h
  have q1:=zq q1;have q2:=ne q2;have q3:=ne q3;have q4:=ne q4
  subst q1
  replace hh:=zaa hh
  obtain⟨cols,hcols,⟨hck,hme,hone,hinj⟩,hK⟩:=hh
  have hm:=h.heap.merge hF hb2 q2 hrow hcols hck
  have hKne:s.H.nxt≠F/\s.H.nxt≠k2:=⟨Nat.ne_of_gt (h.heap.lt F _ hF).1,Nat.ne_of_gt (h.heap.lt k2 _ hb2).1⟩
  have hkb:kb≠s.H.nxt:=Nat.ne_of_lt (h.heap.lt kb _ hb).1
  have hag:zat s.H.sc ρ (ρ.join s.H.nxt F k2 (ix i0 e0)):=fun k hk=>by
   funext i;simp only[Rho.join];rw[if_neg (by have:=hk.1;omega)]
  have hfind:find kb ((s.H.nxt,Blk.fam true t2 (put1 (ix i0 e0) cap2 capF) (put1 (ix i0 e0) n2 lenF) cols)::drop k2 (drop F s.H.h))=some b:=by
   rw[zag,if_neg hkb,zb7,if_neg q4,zb7,if_neg q3];exact hb
  have hfl:f<b.cols.length:=(List.getElem?_eq_some_iff.1 hcol).1
  have hsat:=Blk.sat_setCols (cols':=b.cols.set f col') (hm.sat kb b hfind) (by simp) (fun i e hie f' c' d hf hd=>by
   rw[List.getElem?_set]at hf
   by_cases hff:f=f'
   ·subst hff
    rw[if_pos rfl,if_pos hfl]at hf
    cases hf
    obtain rfl:=hone i e hie
    obtain⟨x,hx1,hx2⟩:=joinColLt_get hj hKne (i:=i) (e:=e) hme rfl (fun hlt=>hinj e hlt) hd
    refine⟨col,x,hcol,hx1,hx2.imp id fun hx=>⟨hx.1,fun k hk=>?_⟩⟩
    rw[hx.2]at hk
    simp at hk;subst hk
    exact⟨Nat.lt_succ_self _,h.heap.up _ (Z _)⟩
   ·rw[if_neg hff]at hf
    exact⟨c',d,hf,hd,.inl rfl⟩)
  have hfin:=hm.reword hfind (b':=b.setCols (b.cols.set f col')) (fun hr=>by rw[Blk.setCols_isRow]at hr;exact hr) (fun i hi=>by rw[Blk.setCols_live]at hi;exact hi) hsat
  have hbq:zu kb s.H.nxt=false:=by
   cases hb:zu kb s.H.nxt with
   | false=>rfl
   | true=>exact absurd (zq hb) hkb
  simp only[upd,hbq,cond_false]at hfin
  have hsc:∀k,s.H.sc k->Hp.sc ⟨(s.H.nxt,Blk.fam true t2 (put1 (ix i0 e0) cap2 capF) (put1 (ix i0 e0) n2 lenF) cols)::upd kb (b.setCols (b.cols.set f col')) (drop k2 (drop F s.H.h)),s.H.nxt+1,s.H.D⟩ k:=fun k hk=>⟨Nat.lt_succ_of_lt hk.1,hk.2⟩
  exact⟨_,_,hK,hag,⟨Nat.le_succ _,rfl⟩,⟨hfin,h.defers,h.size,fun k sv hk=>let ⟨v,hv,hi⟩:=h.tmps k sv hk;⟨v,hv,hi.ext hag hsc⟩⟩⟩
 ·exact hh.elim
def zgm(i:Nat)(el:TypeId)(sz:Nat)(cols:List Col):St->Out St:=fun s=>match s.tmps[i]? with
 | some (some (.c .nils))=>zek i el sz cols s
 | _=>.leaf s
theorem nilTmpOG_ok(i:Nat)(el:TypeId)(sz:Nat)(cols:List Col):zbl (zgm i el sz cols):=by
 intro φ ρ s a w K h hh
 unfold zgm at hh
 split at hh
 ·exact zfj i el sz cols φ ρ s a w K h hh
 ·exact⟨s,ρ,hh,.refl _ _,.refl _,h⟩
def forgetG(ks:St->List Nat):St->Out St:=fun s=>fNs (ks s) fun ks=>fHL (zaw ks s.H.h) fun h=>.leaf ⟨s.tmps,⟨h,s.H.nxt,s.H.D⟩⟩
theorem forgetG_ok(ks:St->List Nat):zbl (forgetG ks):=by
 intro φ ρ s a w K h hh
 simp only[forgetG,fNs_eq,fHL_eq]at hh
 exact⟨_,ρ,hh,.refl _ _,⟨Z _,rfl⟩,⟨h.heap.forget (fun k b hk=>by
  rw[zcf]at hk
  split at hk
  ·cases hk
  ·exact hk),h.defers,h.size,h.tmps⟩⟩
end Go.Proofs.YtabiechfpefjhaaGreat.Sx
namespace Go.Proofs.YtabiechfpefjhaaGreat.Sx
open Go Go.RowKit Go.ChangeShapes Go.WideShapes
def yes(r:SV×Hp):Prop:=∀ρ,r.1.den ρ=.bool true
structure Yes (o:Out (SV×Hp)):Prop where
 h:o.holds yes
theorem views_inv{w:World}{h:HL}{n:Nat}{ρ:Rho}(hv:∀k b,find k h=some b->b.isRow=false/\k<n/\b.sat (Hp.sc ⟨h,n,fun _=>True⟩) ρ k w/\∀i,b.live i->∀y o,ρ k i=some (y,o)->y<w.heap.size):
  HInv ⟨w,fun _=>False⟩ ρ ⟨h,n,fun _=>True⟩ w:=
 ⟨⟨rfl,rfl,rfl,Z _,fun _ _ _=>rfl⟩,fun _ _=>trivial,fun k b hk=>⟨(hv k b hk).2.1,trivial⟩,fun k b hk=>(hv k b hk).2.2.1,fun k b hk=>(hv k b hk).2.2.2,
  (fun k b hk hr=>by rw[(hv k b hk).1]at hr;cases hr),(fun k b hk hr=>by rw[(hv k b hk).1]at hr;cases hr)⟩
def addr0(a:Option Addr):Option (Nat×Off):=a.map fun x=>(x.block,⟨x.off,x.spot⟩)
structure zez (k:IntKind) (w:World) (a:Option Addr) (len cap:Nat) (g:Nat->Int):Prop where
 spot:∀x,a=some x->x.spot=none
 le:len<=cap
 max:cap<=maxLen
 cells:∀i,i<len->∃x,a=some x/\w.cell? (x.add i)=some (.int k (g i))
 fits:∀i,i<len->(Lit.int k (g i)).wf=true
theorem cell_lt{w:World}{a:Addr}{v:Value}(h:w.cell? a=some v):a.block<w.heap.size:=by
 rcases Nat.lt_or_ge a.block w.heap.size with h1|h1
 ·exact h1
 ·simp[World.cell?,Array.getElem?_eq_none h1]at h
theorem zez.sat{k:IntKind}{w:World}{a:Option Addr}{len cap:Nat}{g:Nat->Int}(h:zez k w a len cap g){n:Nat->Prop}{ρ:Rho}{key:Nat}(hρ:ρ key 0=addr0 a):
  (ints k len g).sat n ρ key w/\∀i,(ints k len g).live i->∀y o,ρ key i=some (y,o)->y<w.heap.size:=by
 have at':∀i,i<len->∃b o,ρ key 0=some (b,o)/\w.cell? ((adr (b,o)).add i)=some (.int k (g i)):=by
  intro i hi
  obtain⟨x,rfl,hc⟩:=h.cells i hi
  exact⟨x.block,⟨x.off,x.spot⟩,hρ,hc⟩
 constructor
 ·intro i hi e he
  have:i=0:=by omega
  subst this
  obtain⟨b,o,h1,h2⟩:=at' e he
  refine⟨b,o,h1,fun f col c hf hc=>?_⟩
  cases f with
  | zero=>
   simp at hf;subst hf
   simp only[Col.get,z0]at hc
   subst hc
   exact⟨_,by simpa using h2,fun _ _=>rfl⟩
  | succ f=>simp at hf
 ·rintro i ⟨h1,h2⟩ y o hy
  have:i=0:=by omega
  subst this
  obtain⟨b,o',h3,h4⟩:=at' 0 h2
  rw[h3]at hy;cases hy
  exact cell_lt h4
theorem zez.val{k:IntKind}{w:World}{a:Option Addr}{len cap:Nat}{g:Nat->Int}(h:zez k w a len cap g){n:Nat->Prop}{ρ:Rho}{key sz:Nat}(hρ:ρ key 0=addr0 a:=by rfl)(hk:n key:=by exact⟨Nat.le_of_ble_eq_true rfl,trivial⟩):
  SIs n ρ (.c (.slc key (.k 0) (.k 0) sz (.s len) (.s cap))) (.slice a len cap):=by
 intro ρ' ha
 simp only[SV.den,SC.den,zal,NV.v_k,NV.v_s,ha key hk,hρ,Nat.zero_mul]
 congr 1
 cases a with
 | none=>rfl
 | some x=>
  have:=h.spot x rfl
  cases x
  simp_all [addr0,Addr.add,adr]
theorem okWide_slice'{P:Program}{w:World}{r:Reach}{base:Nat}{t e:TypeId}{v:Value}(ht:P.underlying t=some (.slice e))(h:Value.okWide P w r base t v):
  ∃a len cap,v=.slice a len cap/\∀x,a=some x->x.spot=none:=by
 simp only[Value.okWide,ht,Cell.okWide]at h
 cases v<;>simp_all [Cell.ok]
 rename_i a len cap
 cases a with
 | none=>exact fun x hx=>nomatch hx
 | some x=>
  simp only at h
  intro y hy;cases hy
  exact h.2.2.2.1
theorem open_isInts{H:Type}{enc:TypeId×Value->H}{P:Program}{w:World}{t e:TypeId}{k:IntKind}{fuel:Nat}{a:Option Addr}{len cap:Nat}{x:DataW H×List MemPlace}(ht:P.underlying t=some (.slice e))(he:P.underlying e=some (.int k))(hc:P.cellsOf e=1)
  (hs:∀x,a=some x->x.spot=none) (h:DataW.trod enc P w 0 (fun _=>true) true fuel t (Value.slice a len cap).cells.toList=some x):∃g,zez k w a len cap g:=by
 rcases open_ints ht he hc h with⟨hcs,_⟩|⟨x,l,c,zs,hcs,_,hl,hm,hz,_,hcell,hwz⟩
 ·simp[Value.cells]at hcs
  obtain⟨rfl,rfl,rfl⟩:=hcs
  exact⟨fun _=>0,hs,Z _,by simp[maxLen],fun i hi=>by omega,fun i hi=>by omega⟩
 ·simp[Value.cells]at hcs
  obtain⟨rfl,rfl,rfl⟩:=hcs
  simp at hz
  exact⟨fun i=>zs.getD i 0,hs,hl,hm,fun i hi=>⟨x,rfl,hcell i (by omega)⟩,fun i hi=>hwz _ (by
   have:zs.getD i 0=zs[i]'(by omega):=by simp[List.getD,List.getElem?_eq_getElem (show i<zs.length by omega)]
   rw[this];exact List.getElem_mem _)⟩
theorem wf_u8{n:Int}(h:(Lit.int .u8 n).wf=true):0<=n/\n<=255:=by
 simp[Lit.wf,IntKind.min,IntKind.max,IntKind.bits,IntKind.signed]at h;omega
end Go.Proofs.YtabiechfpefjhaaGreat.Sx
