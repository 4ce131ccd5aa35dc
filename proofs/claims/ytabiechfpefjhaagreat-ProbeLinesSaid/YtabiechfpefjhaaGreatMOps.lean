/- A part of the proof. -/
import Derived.WalkKit
import Derived.KernelRfl
import Derived.WalkSpells
import Derived.Maps.AppendAt
import Derived.ChangeKeysEq
import Derived.Laws.BytesString
set_option linter.unusedVariables false
set_option linter.unusedSimpArgs false
open Nat renaming le_refl -> Z, eq_of_beq_eq_true -> zq, zero_add -> z8, le_of_ble_eq_true -> zb, beq -> zu
open Bool renaming and_eq_true -> zx, not_eq_true' -> z7
open Option.some renaming injEq -> z0
namespace Go.Proofs.YtabiechfpefjhaaGreat.Sx
open Go Go.RowKit
inductive Out (β:Type):Type 1 where
 | leaf (x:β)
 | br (b:Bool) (t e:Out β)
 | need (p:Prop) (k:Out β)
 | any (α:Type) (φ:α->Prop) (k:α->Out β)
 | ge (lo:Nat) (k:Nat->Out β)
 | bad (why:Nat)
namespace Out
def holds{β:Type}:Out β->(β->Prop)->Prop
 | .leaf x,K=>K x
 | .br b t e,K=>(b=true->t.holds K)/\(b=false->e.holds K)
 | .need p k,K=>p/\k.holds K
 | .any _ φ k,K=>(∃x,φ x)/\∀x,φ x->(k x).holds K
 | .ge lo k,K=>∀x,lo<=x->(k x).holds K
 | .bad _,_=>False
def bind{β γ:Type}:Out β->(β->Out γ)->Out γ
 | .leaf x,f=>f x
 | .br b t e,f=>.br b (t.bind f) (e.bind f)
 | .need p k,f=>.need p (k.bind f)
 | .any α φ k,f=>.any α φ fun x=>(k x).bind f
 | .ge lo k,f=>.ge lo fun x=>(k x).bind f
 | .bad w,_=>.bad w
def map{β γ:Type}(f:β->γ)(o:Out β):Out γ:=o.bind fun x=>.leaf (f x)
theorem holds_bind{β γ:Type}(o:Out β)(f:β->Out γ)(K:γ->Prop):(o.bind f).holds K↔o.holds fun x=>(f x).holds K:=by
 induction o with
 | leaf x=>rfl
 | br b t e iht ihe=>simp only[bind,holds,iht,ihe]
 | need p k ih=>simp only[bind,holds,ih]
 | any α φ k ih=>simp only[bind,holds,ih]
 | ge lo k ih=>simp only[bind,holds,ih]
 | bad w=>rfl
theorem holds_mono{β:Type}(o:Out β){K K':β->Prop}(h:∀x,K x->K' x)(hh:o.holds K):o.holds K':=by
 induction o with
 | leaf x=>exact h _ hh
 | br b t e iht ihe=>exact⟨fun hb=>iht (hh.1 hb),fun hb=>ihe (hh.2 hb)⟩
 | need p k ih=>exact⟨hh.1,ih hh.2⟩
 | any α φ k ih=>exact⟨hh.1,fun x hx=>ih x (hh.2 x hx)⟩
 | ge lo k ih=>exact fun x hx=>ih x (hh x hx)
 | bad w=>exact hh
theorem holds_const{β:Type}(o:Out β){p:Prop}(hh:o.holds fun _=>p):p:=by
 induction o with
 | leaf x=>exact hh
 | br b t e iht ihe=>cases b with
  | true=>exact iht (hh.1 rfl)
  | false=>exact ihe (hh.2 rfl)
 | need q k ih=>exact ih hh.2
 | any α φ k ih=>obtain⟨⟨x,hx⟩,h⟩:=hh;exact ih x (h x hx)
 | ge lo k ih=>exact ih lo (hh lo (Z _))
 | bad w=>exact hh.elim
theorem holds_swap{β γ:Type}(o:Out β)(q:Out γ){K:β->γ->Prop}(hh:o.holds fun x=>q.holds fun y=>K x y):q.holds fun y=>o.holds fun x=>K x y:=by
 induction q with
 | leaf y=>exact hh
 | br b t e iht ihe=>exact⟨fun hb=>iht (o.holds_mono (fun x h=>h.1 hb) hh),fun hb=>ihe (o.holds_mono (fun x h=>h.2 hb) hh)⟩
 | need p k ih=>exact⟨o.holds_const (o.holds_mono (fun x h=>h.1) hh),ih (o.holds_mono (fun x h=>h.2) hh)⟩
 | any α φ k ih=>exact⟨o.holds_const (o.holds_mono (fun x h=>h.1) hh),fun z hz=>ih z (o.holds_mono (fun x h=>h.2 z hz) hh)⟩
 | ge lo k ih=>exact fun z hz=>ih z (o.holds_mono (fun x h=>h z hz) hh)
 | bad w=>exact o.holds_const hh
end Out
inductive NV where
 | k (n:Nat)
 | s (n:Nat)
def NV.v:NV->Nat|.k n=>n|.s n=>n
def NV.add:NV->NV->NV
 | .k a,.k b=>.k (a+b)
 | a,b=>.s (a.v+b.v)
@[simp] theorem NV.v_add (a b:NV):(a.add b).v=a.v+b.v:=by cases a<;>cases b<;>rfl
@[simp] theorem NV.v_k (n:Nat):(NV.k n).v=n:=rfl
@[simp] theorem NV.v_s (n:Nat):(NV.s n).v=n:=rfl
structure Off where
 n:Nat
 sp:Option Nat
instance:OfNat Off 0:=⟨⟨0,none⟩⟩
abbrev Rho:=Nat->Nat->Option (Nat×Off)
def adr(p:Nat×Off):Addr:=⟨p.1,p.2.n,p.2.sp⟩
@[simp] theorem adr_zero (b:Nat):adr (b,0)=⟨b,0,none⟩:=rfl
@[simp] theorem adr_block (p:Nat×Off):(adr p).block=p.1:=rfl
@[simp] theorem add_none (b o k:Nat):(⟨b,o,none⟩:Addr).add k=⟨b,o+k,none⟩:=by
 unfold Addr.add
 split
 ·rename_i h;subst h;rfl
 ·rfl
theorem adr_add(a:Addr)(k j:Nat):(a.add k).add j=a.add (k+j):=by
 unfold Addr.add
 by_cases h1:k=0
 ·subst h1;simp
 ·by_cases h2:j=0
  ·subst h2;simp
  ·simp[h1,h2,Nat.add_assoc]
@[simp] theorem add_block (a:Addr) (k:Nat):(a.add k).block=a.block:=by
 unfold Addr.add
 split<;>rfl
inductive SC where
 | kb (b:Bool)
 | bv (b:Bool)
 | ki (k:IntKind) (n:Int)
 | iv (k:IntKind) (n:Int)
 | nilp
 | ptr (key:Nat) (i e:NV) (f sz:Nat)
 | nils
 | slc (key:Nat) (i e:NV) (sz:Nat) (len cap:NV)
 | nilI
 | ifc (t:TypeId) (key:Nat) (i e:NV) (f sz:Nat)
 | fn (f:FuncId) (caps:List Nat)
 | nilF
 | val (v:Value)
def zal(ρ:Rho)(key:Nat)(i:NV)(off:Nat):Option Addr:=(ρ key i.v).map fun p=>(adr p).add off
def SC.den(ρ:Rho):SC->Value
 | .kb b=>.bool b
 | .bv b=>.bool b
 | .ki k n=>.int k n
 | .iv k n=>.int k n
 | .nilp=>.pointer none
 | .ptr key i e f sz=>.pointer (zal ρ key i (e.v*sz+f))
 | .nils=>.slice none 0 0
 | .slc key i e sz len cap=>.slice (zal ρ key i (e.v*sz)) len.v cap.v
 | .nilI=>.nilIface
 | .ifc t key i e f sz=>.iface t (.pointer (zal ρ key i (e.v*sz+f)))
 | .fn f caps=>.func (.func f) #[] (caps.map fun k=>Value.pointer (zal ρ k (.k 0) 0)).toArray
 | .nilF=>.nilFunc
 | .val v=>v
def SC.oneCell:SC->Bool
 | .val (.agg _)|.val (.tuple _)=>false
 | _=>true
inductive TE where
 | c (x:SC)
 | a (l:List SC)
def TE.den(ρ:Rho):TE->Value
 | .c x=>x.den ρ
 | .a l=>.agg (l.map (SC.den ρ)).toArray
inductive SV where
 | c (x:SC)
 | a (l:List SC)
 | t (l:List TE)
def SV.den(ρ:Rho):SV->Value
 | .c x=>x.den ρ
 | .a l=>.agg (l.map (SC.den ρ)).toArray
 | .t l=>.tuple (l.map (TE.den ρ)).toArray
def zat(n:Nat->Prop)(ρ ρ':Rho):Prop:=∀k,n k->ρ' k=ρ k
theorem zat.refl(n:Nat->Prop)(ρ:Rho):zat n ρ ρ:=fun _ _=>rfl
theorem zat.trans{n:Nat->Prop}{a b c:Rho}(h:zat n a b)(g:zat n b c):zat n a c:=fun k hk=>(g k hk).trans (h k hk)
theorem zat.mono{n m:Nat->Prop}{a b:Rho}(h:zat n a b)(hm:∀k,m k->n k):zat m a b:=fun k hk=>h k (hm k hk)
def CIs(n:Nat->Prop)(ρ:Rho)(c:SC)(v:Value):Prop:=∀ρ',zat n ρ ρ'->c.den ρ'=v
def SIs(n:Nat->Prop)(ρ:Rho)(c:SV)(v:Value):Prop:=∀ρ',zat n ρ ρ'->c.den ρ'=v
theorem CIs.ext{n m:Nat->Prop}{ρ ρ':Rho}{c:SC}{v:Value}(h:CIs n ρ c v)(ha:zat n ρ ρ')(hm:∀k,n k->m k):CIs m ρ' c v:=fun ρ'' h'=>h ρ'' (ha.trans (h'.mono hm))
theorem SIs.ext{n m:Nat->Prop}{ρ ρ':Rho}{c:SV}{v:Value}(h:SIs n ρ c v)(ha:zat n ρ ρ')(hm:∀k,n k->m k):SIs m ρ' c v:=fun ρ'' h'=>h ρ'' (ha.trans (h'.mono hm))
theorem CIs.eq{n:Nat->Prop}{ρ:Rho}{c:SC}{v:Value}(h:CIs n ρ c v):v=c.den ρ:=(h ρ (zat.refl n ρ)).symm
theorem SIs.eq{n:Nat->Prop}{ρ:Rho}{c:SV}{v:Value}(h:SIs n ρ c v):v=c.den ρ:=(h ρ (zat.refl n ρ)).symm
theorem SIs.of_c{n:Nat->Prop}{ρ:Rho}{c:SC}{v:Value}(h:CIs n ρ c v):SIs n ρ (.c c) v:=h
theorem CIs.of_s{n:Nat->Prop}{ρ:Rho}{c:SC}{v:Value}(h:SIs n ρ (.c c) v):CIs n ρ c v:=h
inductive Col where
 | ci (k:IntKind) (g:Nat->Nat->Int)
 | cb (g:Nat->Nat->Bool)
 | cs (key sz:Nat) (ix len cap:Nat->Nat->Nat)   -- element e of instance i: the slice that is instance 'ix i e' of a family of blocks
 | cp (key:Nat) (ix:Nat->Nat->Nat) (f sz:Nat)   -- a pointer to instance 'ix i e' of a family
 | cf (t:TypeId) (key:Nat) (ix:Nat->Nat->Nat) (f sz:Nat)   -- the same in an interface
 | ck (l:List SC)   -- the elements one by one
 | cu
 | cc (c:SC)   -- the same in all elements
 | ov (i e:NV) (c:SC) (col:Col)   -- one element is another
 | lt (n:Nat) (a b:Col)   -- the first n elements,and those behind them
 | sel (p:Nat->Nat->Bool) (a b:Col)   -- the elements of one kind,and the others
def Col.get(i e:Nat):Col->Option SC
 | .ci k g=>some (.iv k (g i e))
 | .cb g=>some (.bv (g i e))
 | .cs key sz ix len cap=>some (.slc key (.s (ix i e)) (.k 0) sz (.s (len i e)) (.s (cap i e)))
 | .cp key ix f sz=>some (.ptr key (.s (ix i e)) (.k 0) f sz)
 | .cf t key ix f sz=>some (.ifc t key (.s (ix i e)) (.k 0) f sz)
 | .ck l=>l[e]?
 | .cu=>none
 | .cc c=>some c
 | .ov i0 e0 c col=>if i=i0.v/\e=e0.v then some c else col.get i e
 | .lt n a b=>if e<n then a.get i e else b.get i e
 | .sel p a b=>if p i e=true then a.get i e else b.get i e
inductive Blk where
 | own (t:TypeId) (size:Nat) (cs:List (Option SC))
 | row (t:TypeId) (cap:Nat) (n:Nat) (cols:List Col)   -- no capacity: nothing is owned,and the address says nothing
 | view (m:Nat) (n:Nat->Nat) (cols:List Col)
 | fam (rw:Bool) (t:TypeId) (cap n:Nat->Nat) (cols:List Col)   -- a family of rows,each a block of its own: instance i is there where it has a capacity
def Blk.live:Blk->Nat->Prop
 | .own ..,i=>i=0
 | .row _ cap _ _,i=>i=0/\0<cap
 | .view m n _,i=>i<m/\0<n i
 | .fam _ _ cap _ _,i=>0<cap i
def Blk.isRow:Blk->Bool
 | .own ..|.row ..=>true
 | .view ..=>false
 | .fam rw ..=>rw
def Blk.sat(n:Nat->Prop)(ρ:Rho)(key:Nat)(w:World):Blk->Prop
 | .own t size cs=>∃b arr,ρ key 0=some (b,0)/\w.heap[b]?=some (.cells arr t (0,0))/\arr.size=size/\cs.length<=size/\
   ∀(i:Nat) (c:SC),cs[i]?=some (some c)->∃v,arr[i]?=some v/\CIs n ρ c v
 | .row t cap m cols=>(m=0/\cap=0)\/∃b arr,ρ key 0=some (b,0)/\w.heap[b]?=some (.cells arr t (0,0))/\arr.size=cap*cols.length/\m<=cap/\cap<=maxLen/\
   ∀e,e<m->∀(f:Nat) (col:Col) c,cols[f]?=some col->col.get 0 e=some c->∃v,arr[e*cols.length+f]?=some v/\CIs n ρ c v
 | .view m len cols=>∀i,i<m->∀e,e<len i->∃b o,ρ key i=some (b,o)/\
   ∀(f:Nat) (col:Col) c,cols[f]?=some col->col.get i e=some c->∃v,w.cell? ((adr (b,o)).add (e*cols.length+f))=some v/\CIs n ρ c v
 | .fam _ t cap len cols=>(∀i,len i<=cap i/\cap i<=maxLen)/\(∀i j,0<cap i->0<cap j->i≠j->∀y o y' o',ρ key i=some (y,o)->ρ key j=some (y',o')->y≠y')/\
   ∀i,0<cap i->∃b arr,ρ key i=some (b,0)/\w.heap[b]?=some (.cells arr t (0,0))/\arr.size=cap i*cols.length/\
    ∀e,e<len i->∀(f:Nat) (col:Col) c,cols[f]?=some col->col.get i e=some c->∃v,arr[e*cols.length+f]?=some v/\CIs n ρ c v
abbrev HL:=List (Nat×Blk)
def find(k:Nat):HL->Option Blk
 | []=>none
 | (k',b)::r=>bif zu k k' then some b else find k r
def upd(k:Nat)(b:Blk):HL->HL
 | []=>[]
 | (k',b')::r=>bif zu k k' then(k',b)::r else(k',b')::upd k b r
def drop(k:Nat):HL->HL
 | []=>[]
 | (k',b')::r=>bif zu k k' then drop k r else(k',b')::drop k r
theorem zag(k k':Nat)(b:Blk)(r:HL):find k ((k',b)::r)=if k=k' then some b else find k r:=by
 simp only[find]
 by_cases h:k=k'
 ·subst h;simp
 ·have:zu k k'=false:=by
   cases hb:zu k k' with
   | false=>rfl
   | true=>exact absurd (zq hb) h
  simp[this,h]
theorem find_upd(k j:Nat)(b:Blk)(h:HL):find j (upd k b h)=if j=k then(find k h).map (fun _=>b) else find j h:=by
 induction h with
 | nil=>simp[upd,find]
 | cons x r ih=>
  obtain⟨k',b'⟩:=x
  simp only[upd]
  by_cases hk:k=k'
  ·subst hk
   simp only[Nat.beq_refl,cond_true,zag,if_true,Option.map_some]
   by_cases hj:j=k<;>simp[hj]
  ·have hb:zu k k'=false:=by
    cases hb:zu k k' with
    | false=>rfl
    | true=>exact absurd (zq hb) hk
   simp only[hb,cond_false,zag,ih,hk,if_false]
   by_cases hj:j=k
   ·subst hj;simp[hk]
   ·simp[hj]
theorem zb7(k j:Nat)(h:HL):find j (drop k h)=if j=k then none else find j h:=by
 induction h with
 | nil=>simp[drop,find]
 | cons x r ih=>
  obtain⟨k',b'⟩:=x
  simp only[drop]
  by_cases hk:k=k'
  ·subst hk
   simp only[Nat.beq_refl,cond_true,zag,ih]
   by_cases hj:j=k<;>simp[hj]
  ·have hb:zu k k'=false:=by
    cases hb:zu k k' with
    | false=>rfl
    | true=>exact absurd (zq hb) hk
   simp only[hb,cond_false,zag,ih]
   by_cases hj:j=k
   ·subst hj;simp[hk]
   ·simp[hj]
structure Fr where
 w0:World
 own:Nat->Prop
def Fr.may(φ:Fr)(b:Nat):Prop:=φ.own b\/φ.w0.heap.size<=b
structure Fr.ok (φ:Fr) (w:World):Prop where
 os:w.os=φ.w0.os
 tape:w.tape=φ.w0.tape
 output:w.output=φ.w0.output
 size:φ.w0.heap.size<=w.heap.size
 block:∀b,b<φ.w0.heap.size->¬φ.own b->w.heap[b]?=φ.w0.heap[b]?
structure Hp where
 h:HL
 nxt:Nat
 D:Nat->Prop
def Hp.sc(H:Hp):Nat->Prop:=fun k=>k<H.nxt/\H.D k
structure Hp.le (H H':Hp):Prop where
 nxt:H.nxt<=H'.nxt
 D:H'.D=H.D
theorem Hp.le.refl(H:Hp):H.le H:=⟨Z _,rfl⟩
theorem Hp.le.trans{a b c:Hp}(h:a.le b)(g:b.le c):a.le c:=⟨Nat.le_trans h.nxt g.nxt,g.D.trans h.D⟩
theorem Hp.le.sc{H H':Hp}(h:H.le H'):∀k,H.sc k->H'.sc k:=fun k hk=>⟨Nat.lt_of_lt_of_le hk.1 h.nxt,by rw[h.D];exact hk.2⟩
structure HInv (φ:Fr) (ρ:Rho) (H:Hp) (w:World):Prop where
 fr:φ.ok w
 up:∀k,H.nxt<=k->H.D k
 lt:∀k b,find k H.h=some b->H.sc k
 sat:∀k b,find k H.h=some b->b.sat H.sc ρ k w
 bd:∀k b,find k H.h=some b->∀i,b.live i->∀y o,ρ k i=some (y,o)->y<w.heap.size
 may:∀k b,find k H.h=some b->b.isRow=true->∀i,b.live i->∀y o,ρ k i=some (y,o)->φ.may y
 sep:∀k b,find k H.h=some b->b.isRow=true->∀k' b',find k' H.h=some b'->k'≠k->∀j i,b.live j->b'.live i->∀y o y' o',ρ k j=some (y,o)->ρ k' i=some (y',o')->y'≠y
structure St where
 tmps:List (Option SV)
 H:Hp
structure Inv (φ:Fr) (ρ:Rho) (s:St) (a:Act) (w:World):Prop where
 heap:HInv φ ρ s.H w
 defers:a.defers=[]
 size:a.tmps.size=s.tmps.length
 tmps:∀(k:Nat) (sv:SV),s.tmps[k]?=some (some sv)->∃v,a.tmps[k]?=some v/\SIs s.H.sc ρ sv v
theorem Blk.sat_ext{n m:Nat->Prop}{ρ ρ':Rho}{key:Nat}{w:World}{b:Blk}(h:b.sat n ρ key w)(ha:zat n ρ ρ')(hm:∀k,n k->m k)(hk:n key):b.sat m ρ' key w:=by
 have e:ρ' key=ρ key:=ha key hk
 cases b with
 | own t size cs=>
  obtain⟨b,arr,h1,h2,h3,h4,h5⟩:=h
  exact⟨b,arr,by rw[e];exact h1,h2,h3,h4,fun i c hc=>let ⟨v,hv,hi⟩:=h5 i c hc;⟨v,hv,hi.ext ha hm⟩⟩
 | row t size l cols=>
  rcases h with h|⟨b,arr,h1,h2,h3,h4,h4',h5⟩
  ·exact .inl h
  exact .inr ⟨b,arr,by rw[e];exact h1,h2,h3,h4,h4',fun i hi f col c hf hc=>let ⟨v,hv,hs⟩:=h5 i hi f col c hf hc;⟨v,hv,hs.ext ha hm⟩⟩
 | view l len cols=>
  intro i hi q hq
  obtain⟨b,o,h1,h2⟩:=h i hi q hq
  exact⟨b,o,by rw[e];exact h1,fun f col c hf hc=>let ⟨v,hv,hs⟩:=h2 f col c hf hc;⟨v,hv,hs.ext ha hm⟩⟩
 | fam rw t cap len cols=>
  obtain⟨h1,h2,h3⟩:=h
  refine⟨h1,by rw[e];exact h2,fun i hi=>?_⟩
  obtain⟨b,arr,g1,g2,g3,g4⟩:=h3 i hi
  exact⟨b,arr,by rw[e];exact g1,g2,g3,fun q hq f col c hf hc=>let ⟨v,hv,hs⟩:=g4 q hq f col c hf hc;⟨v,hv,hs.ext ha hm⟩⟩
theorem Blk.sat_world{n:Nat->Prop}{ρ:Rho}{key:Nat}{w w':World}{b:Blk}(h:b.sat n ρ key w)(hw:∀i,b.live i->∀y o,ρ key i=some (y,o)->w'.heap[y]?=w.heap[y]?):b.sat n ρ key w':=by
 cases b with
 | own t size cs=>
  obtain⟨b,arr,h1,h2,h3⟩:=h
  exact⟨b,arr,h1,by rw[hw 0 rfl b 0 h1];exact h2,h3⟩
 | row t size l cols=>
  rcases h with h|⟨b,arr,h1,h2,h3,h4,h5⟩
  ·exact .inl h
  rcases Nat.eq_zero_or_pos size with h0|h0
  ·exact .inl ⟨by omega,h0⟩
  exact .inr ⟨b,arr,h1,by rw[hw 0 ⟨rfl,h0⟩ b 0 h1];exact h2,h3,h4,h5⟩
 | view l len cols=>
  intro i hi q hq
  obtain⟨b,o,h1,h2⟩:=h i hi q hq
  refine⟨b,o,h1,fun f col c hf hc=>?_⟩
  obtain⟨v,hv,hs⟩:=h2 f col c hf hc
  exact⟨v,by rw[World.cell?_of_block (w:=w) (w':=w') (by simpa using hw i ⟨hi,Nat.lt_of_le_of_lt (Nat.zero_le _) hq⟩ b o h1)];exact hv,hs⟩
 | fam rw t cap len cols=>
  obtain⟨h1,h2,h3⟩:=h
  refine⟨h1,h2,fun i hi=>?_⟩
  obtain⟨b,arr,g1,g2,g3⟩:=h3 i hi
  exact⟨b,arr,g1,by rw[hw i hi b 0 g1];exact g2,g3⟩
theorem Fr.ok.alloc{φ:Fr}{w:World}(h:φ.ok w)(o:Obj):φ.ok (w.alloc o):=
 ⟨h.os,h.tape,h.output,Nat.le_trans h.size (by simp),fun b hb hn=>by
  rw[Below.heap_alloc w o b (Nat.lt_of_lt_of_le hb h.size)];exact h.block b hb hn⟩
theorem Fr.ok.drew{φ:Fr}{w:World}(h:φ.ok w):φ.ok w.drew:=⟨h.os,h.tape,h.output,h.size,h.block⟩
theorem Fr.ok.set{φ:Fr}{w:World}(h:φ.ok w){p:Addr}(hp:φ.may p.block)(v:Value):φ.ok (w.setCell p v):=
 ⟨h.os,h.tape,h.output,by simpa using h.size,fun b hb hn=>by
  have hne:b≠p.block:=by
   rintro rfl
   rcases hp with hp|hp
   ·exact hn hp
   ·omega
  rw[Below.heap_setCell w p v b hne];exact h.block b hb hn⟩
theorem HInv.drew{φ:Fr}{ρ:Rho}{H:Hp}{w:World}(h:HInv φ ρ H w):HInv φ ρ H w.drew:=
 ⟨h.fr.drew,h.up,h.lt,fun k b hk=>Blk.sat_world (h.sat k b hk) fun _ _ _ _ _=>rfl,h.bd,h.may,h.sep⟩
def Rho.set(ρ:Rho)(k:Nat)(b:Nat):Rho:=fun k' i=>if k'=k then(if i=0 then some (b,0) else none) else ρ k' i
theorem Rho.set_agree(ρ:Rho){k:Nat}{n:Nat->Prop}(hn:∀j,n j->j<k)(b:Nat):zat n ρ (ρ.set k b):=fun k' hk=>by
 have:=hn k' hk
 funext i;simp only[Rho.set];rw[if_neg (by omega)]
theorem Rho.set_at(ρ:Rho)(k b:Nat):ρ.set k b k 0=some (b,0):=by simp[Rho.set]
theorem HInv.alloc{φ:Fr}{ρ:Rho}{H:Hp}{w:World}(h:HInv φ ρ H w)(t:TypeId)(arr:Array Value)(b:Blk)
  (hs:b.sat (Hp.sc ⟨(H.nxt,b)::H.h,H.nxt+1,H.D⟩) (ρ.set H.nxt w.heap.size) H.nxt (w.alloc (.cells arr t))):
  HInv φ (ρ.set H.nxt w.heap.size) ⟨(H.nxt,b)::H.h,H.nxt+1,H.D⟩ (w.alloc (.cells arr t)):=by
 have hag:zat H.sc ρ (ρ.set H.nxt w.heap.size):=ρ.set_agree (fun _ hj=>hj.1) w.heap.size
 have hsc:∀k,H.sc k->Hp.sc ⟨(H.nxt,b)::H.h,H.nxt+1,H.D⟩ k:=fun k hk=>⟨Nat.lt_succ_of_lt hk.1,hk.2⟩
 refine⟨h.fr.alloc _,fun k hk=>h.up k (Nat.le_of_succ_le hk),?_,?_,?_,?_,?_⟩
 ·intro k b' hk
  rw[zag]at hk
  split at hk
  ·rename_i e;subst e;exact⟨Nat.lt_succ_self _,h.up _ (Z _)⟩
  ·exact hsc k (h.lt k b' hk)
 ·intro k b' hk
  rw[zag]at hk
  split at hk
  ·rename_i e;cases hk;subst e;exact hs
  ·refine Blk.sat_ext (n:=H.sc) (ρ:=ρ) (Blk.sat_world (h.sat k b' hk) ?_) hag hsc (h.lt k b' hk)
   intro i hl y o hy
   exact Below.heap_alloc _ _ _ (h.bd k b' hk i hl y o hy)
 ·intro k b' hk i hl y o hy
  rw[zag]at hk
  split at hk
  ·rename_i e;subst e
   simp only[Rho.set,if_true]at hy
   split at hy
   ·cases hy;simp
   ·cases hy
  ·rename_i e
   simp only[Rho.set,if_neg e]at hy
   have:=h.bd k b' hk i hl y o hy
   simp;omega
 ·intro k b' hk hown i hl y o hy
  rw[zag]at hk
  split at hk
  ·rename_i e;subst e
   simp only[Rho.set,if_true]at hy
   split at hy
   ·cases hy
    exact .inr h.fr.size
   ·cases hy
  ·rename_i e
   simp only[Rho.set,if_neg e]at hy
   exact h.may k b' hk hown i hl y o hy
 ·intro k b' hk hown k' b'' hk' hne j i hlj hli y o y' o' hy hy'
  rw[zag]at hk hk'
  split at hk
  ·rename_i e;subst e
   rw[if_neg hne]at hk'
   simp only[Rho.set,if_true]at hy
   split at hy
   ·cases hy
    simp only[Rho.set,if_neg hne]at hy'
    have:=h.bd k' b'' hk' i hli y' o' hy'
    omega
   ·cases hy
  ·rename_i e
   simp only[Rho.set,if_neg e]at hy
   split at hk'
   ·rename_i e';subst e'
    simp only[Rho.set,if_true]at hy'
    split at hy'
    ·cases hy'
     have:=h.bd k b' hk j hlj y o hy
     omega
    ·cases hy'
   ·rename_i e'
    simp only[Rho.set,if_neg e']at hy'
    exact h.sep k b' hk hown k' b'' hk' hne j i hlj hli y o y' o' hy hy'
theorem HInv.write{φ:Fr}{ρ:Rho}{H:Hp}{w w':World}(h:HInv φ ρ H w){k:Nat}{b b':Blk}(hk:find k H.h=some b)(ho:b.isRow=true)
  {i0 y:Nat} {o0:Off} (hl0:b.live i0) (hy:ρ k i0=some (y,o0)) (hs:b'.sat H.sc ρ k w') (hfr:φ.ok w') (hsz:w'.heap.size=w.heap.size) (hw:∀x,x≠y->w'.heap[x]?=w.heap[x]?) (hl':∀i,b'.live i->b.live i):
  HInv φ ρ ⟨upd k b' H.h,H.nxt,H.D⟩ w':=by
 have key:∀j c,find j (upd k b' H.h)=some c->∃c',find j H.h=some c'/\(j≠k->c=c')/\(j=k->c=b')/\∀i,c.live i->c'.live i:=by
  intro j c hj
  rw[find_upd]at hj
  split at hj
  ·rename_i e;subst e
   rw[hk]at hj
   simp only[Option.map_some,z0]at hj
   exact⟨b,hk,fun h=>absurd rfl h,fun _=>hj.symm,fun i hi=>hl' i (hj ▸ hi)⟩
  ·rename_i e
   exact⟨c,hj,fun _=>rfl,fun h=>absurd h e,fun i hi=>hi⟩
 have owns:∀j c c',(j≠k->c=c')->(j=k->c=b')->find j H.h=some c'->c.isRow=true->c'.isRow=true:=by
  intro j c c' h1 h2 h3 h4
  by_cases e:j=k
  ·subst e;rw[hk]at h3;cases h3;exact ho
  ·rw[<-h1 e];exact h4
 refine⟨hfr,h.up,?_,?_,?_,?_,?_⟩
 ·intro j c hj;obtain⟨c',h1,_⟩:=key j c hj;exact h.lt j c' h1
 ·intro j c hj
  obtain⟨c',h1,h2,h3,_⟩:=key j c hj
  by_cases e:j=k
  ·subst e;rw[h3 rfl];exact hs
  ·rw[h2 e]
   refine Blk.sat_world (h.sat j c' h1) fun i hl x o hx=>hw x ?_
   exact h.sep k b hk ho j c' h1 e i0 i hl0 hl y o0 x o hy hx
 ·intro j c hj i hl x o hx;obtain⟨c',h1,_,_,h4⟩:=key j c hj;rw[hsz];exact h.bd j c' h1 i (h4 i hl) x o hx
 ·intro j c hj hown i hl x o hx
  obtain⟨c',h1,h2,h3,h4⟩:=key j c hj
  exact h.may j c' h1 (owns j c c' h2 h3 h1 hown) i (h4 i hl) x o hx
 ·intro j c hj hown j' d hj' hne p q hp hq
  obtain⟨c',h1,h2,h3,h4⟩:=key j c hj
  obtain⟨d',g1,_,_,g4⟩:=key j' d hj'
  exact h.sep j c' h1 (owns j c c' h2 h3 h1 hown) j' d' g1 hne p q (h4 p hp) (g4 q hq)
theorem HInv.forget{φ:Fr}{ρ:Rho}{H:Hp}{w:World}(h:HInv φ ρ H w){h':HL}(hsub:∀k b,find k h'=some b->find k H.h=some b):HInv φ ρ ⟨h',H.nxt,H.D⟩ w:=
 ⟨h.fr,h.up,fun k b hk=>h.lt k b (hsub k b hk),fun k b hk=>h.sat k b (hsub k b hk),fun k b hk=>h.bd k b (hsub k b hk),fun k b hk=>h.may k b (hsub k b hk),
  fun k b hk ho k' b' hk'=>h.sep k b (hsub k b hk) ho k' b' (hsub k' b' hk')⟩
theorem HInv.ext{φ:Fr}{ρ ρ':Rho}{H:Hp}{w:World}(h:HInv φ ρ H w)(ha:zat H.sc ρ ρ'){n:Nat}{D:Nat->Prop}(hn:∀k,H.sc k->Hp.sc ⟨H.h,n,D⟩ k)(hu:∀k,n<=k->D k):HInv φ ρ' ⟨H.h,n,D⟩ w:=by
 have e:∀k b,find k H.h=some b->ρ' k=ρ k:=fun k b hk=>ha k (h.lt k b hk)
 refine⟨h.fr,hu,fun k b hk=>hn k (h.lt k b hk),fun k b hk=>Blk.sat_ext (h.sat k b hk) ha hn (h.lt k b hk),?_,?_,?_⟩
 ·intro k b hk;rw[e k b hk];exact h.bd k b hk
 ·intro k b hk;rw[e k b hk];exact h.may k b hk
 ·intro k b hk ho k' b' hk';rw[e k b hk,e k' b' hk'];exact h.sep k b hk ho k' b' hk'
universe u
section
variable {α:Type u}
def dr8:List α->List α
 | _::_::_::_::_::_::_::_::r=>r
 | _=>[]
theorem dr8_eq(l:List α):dr8 l=l.drop 8:=by
 rcases l with _|⟨a0,_|⟨a1,_|⟨a2,_|⟨a3,_|⟨a4,_|⟨a5,_|⟨a6,_|⟨a7,l⟩⟩⟩⟩⟩⟩⟩⟩<;>rfl
def getC:Nat->List α->List α
 | 0,l=>l
 | k+1,l=>getC k (dr8 l)
theorem getC_eq:∀(k:Nat) (l:List α),getC k l=l.drop (8*k)
 | 0,l=>rfl
 | k+1,l=>by rw[getC,getC_eq k,dr8_eq,List.drop_drop];congr 1;omega
def getF(l:List α)(n:Nat):Option α:=(getC (n / 8) l)[n % 8]?
theorem za3(l:List α)(n:Nat):getF l n=l[n]?:=by
 rw[getF,getC_eq,List.getElem?_drop]
 congr 1
 omega
end
def infF(P:Program)(t:TypeId):Option TypeInfo:=match getF P.types.toList t with
 | some i=>some i
 | none=>P.info? t
theorem za2(P:Program)(t:TypeId):infF P t=P.info? t:=by
 unfold infF
 split
 ·rename_i i h
  rw[za3]at h
  have h2:P.types[t]?=some i:=by simpa using h
  have h3:t<P.types.size:=by
   rcases Nat.lt_or_ge t P.types.size with h|h
   ·exact h
   ·rw[Array.getElem?_eq_none h]at h2;cases h2
  show some i=Tables.info? _ t
  unfold Tables.info?
  rw[if_pos h3]
  exact h2.symm
 ·rfl
def undF(P:Program)(t:TypeId):Option TypeDesc:=match infF P t with
 | some i=>match i.desc with
  | .named _ u=>(infF P u).map (·.desc)
  | d=>some d
 | none=>none
theorem zaq(P:Program)(t:TypeId):undF P t=P.underlying t:=by
 unfold undF Program.underlying
 simp only[za2]
 cases P.info? t with
 | none=>rfl
 | some i=>obtain⟨d,_⟩:=i;cases d<;>rfl
def fnF(P:Program)(f:FuncId):Option Func:=getF P.funcs.toList f
theorem zbm(P:Program)(f:FuncId):fnF P f=P.funcs[f]?:=by
 rw[fnF,za3]
 simp
section
variable {β:Sort u}
def fB(b:Bool)(k:Bool->β):β:=match b with|true=>k true|false=>k false
@[simp] theorem fB_eq (b:Bool) (k:Bool->β):fB b k=k b:=by cases b<;>rfl
def fN(n:Nat)(k:Nat->β):β:=match n with|.zero=>k .zero|.succ m=>k (.succ m)
@[simp] theorem fN_eq (n:Nat) (k:Nat->β):fN n k=k n:=by cases n<;>rfl
def fI(n:Int)(k:Int->β):β:=match n with|.ofNat m=>fN m fun m=>k (.ofNat m)|.negSucc m=>fN m fun m=>k (.negSucc m)
@[simp] theorem fI_eq (n:Int) (k:Int->β):fI n k=k n:=by cases n<;>simp[fI]
def fK(t:IntKind)(k:IntKind->β):β:=match t with
 | .i8=>k .i8|.i16=>k .i16|.i32=>k .i32|.i64=>k .i64|.u8=>k .u8|.u16=>k .u16|.u32=>k .u32|.u64=>k .u64
@[simp] theorem fK_eq (t:IntKind) (k:IntKind->β):fK t k=k t:=by cases t<;>rfl
def fNV(n:NV)(k:NV->β):β:=match n with|.k n=>fN n fun n=>k (.k n)|.s n=>k (.s n)
@[simp] theorem fNV_eq (n:NV) (k:NV->β):fNV n k=k n:=by cases n<;>simp[fNV]
def fNs:List Nat->(List Nat->β)->β
 | [],k=>k []
 | n::l,k=>fN n fun n=>fNs l fun l=>k (n::l)
@[simp] theorem fNs_eq:∀(l:List Nat) (k:List Nat->β),fNs l k=k l
 | [],k=>rfl
 | n::l,k=>by simp[fNs,fNs_eq l]
def fSC(c:SC)(k:SC->β):β:=match c with
 | .kb b=>fB b fun b=>k (.kb b)
 | .bv b=>k (.bv b)
 | .ki t n=>fK t fun t=>fI n fun n=>k (.ki t n)
 | .iv t n=>fK t fun t=>k (.iv t n)
 | .nilp=>k .nilp
 | .ptr key i e f sz=>fN key fun key=>fNV i fun i=>fNV e fun e=>fN f fun f=>fN sz fun sz=>k (.ptr key i e f sz)
 | .nils=>k .nils
 | .slc key i e sz len cap=>fN key fun key=>fNV i fun i=>fNV e fun e=>fN sz fun sz=>fNV len fun len=>fNV cap fun cap=>k (.slc key i e sz len cap)
 | .nilI=>k .nilI
 | .ifc t key i e f sz=>fN t fun t=>fN key fun key=>fNV i fun i=>fNV e fun e=>fN f fun f=>fN sz fun sz=>k (.ifc t key i e f sz)
 | .fn f caps=>fN f fun f=>fNs caps fun caps=>k (.fn f caps)
 | .nilF=>k .nilF
 | .val v=>k (.val v)
@[simp] theorem fSC_eq (c:SC) (k:SC->β):fSC c k=k c:=by cases c<;>simp[fSC]
def fL:List SC->(List SC->β)->β
 | [],k=>k []
 | n::l,k=>fSC n fun n=>fL l fun l=>k (n::l)
@[simp] theorem fL_eq:∀(l:List SC) (k:List SC->β),fL l k=k l
 | [],k=>rfl
 | n::l,k=>by simp[fL,fL_eq l]
def fOL:List (Option SC)->(List (Option SC)->β)->β
 | [],k=>k []
 | none::l,k=>fOL l fun l=>k (none::l)
 | some n::l,k=>fSC n fun n=>fOL l fun l=>k (some n::l)
@[simp] theorem fOL_eq:∀(l:List (Option SC)) (k:List (Option SC)->β),fOL l k=k l
 | [],k=>rfl
 | none::l,k=>by simp[fOL,fOL_eq l]
 | some n::l,k=>by simp[fOL,fOL_eq l]
def fTE(c:TE)(k:TE->β):β:=match c with|.c x=>fSC x fun x=>k (.c x)|.a l=>fL l fun l=>k (.a l)
@[simp] theorem fTE_eq (c:TE) (k:TE->β):fTE c k=k c:=by cases c<;>simp[fTE]
def fTs:List TE->(List TE->β)->β
 | [],k=>k []
 | n::l,k=>fTE n fun n=>fTs l fun l=>k (n::l)
@[simp] theorem fTs_eq:∀(l:List TE) (k:List TE->β),fTs l k=k l
 | [],k=>rfl
 | n::l,k=>by simp[fTs,fTs_eq l]
def fSV(c:SV)(k:SV->β):β:=match c with|.c x=>fSC x fun x=>k (.c x)|.a l=>fL l fun l=>k (.a l)|.t l=>fTs l fun l=>k (.t l)
@[simp] theorem fSV_eq (c:SV) (k:SV->β):fSV c k=k c:=by cases c<;>simp[fSV]
def fVs:List SV->(List SV->β)->β
 | [],k=>k []
 | n::l,k=>fSV n fun n=>fVs l fun l=>k (n::l)
@[simp] theorem fVs_eq:∀(l:List SV) (k:List SV->β),fVs l k=k l
 | [],k=>rfl
 | n::l,k=>by simp[fVs,fVs_eq l]
def fCol:Col->(Col->β)->β
 | .ci t g,k=>fK t fun t=>k (.ci t g)
 | .cb g,k=>k (.cb g)
 | .cs key sz ix len cap,k=>fN key fun key=>fN sz fun sz=>k (.cs key sz ix len cap)
 | .cp key ix f sz,k=>fN key fun key=>fN f fun f=>fN sz fun sz=>k (.cp key ix f sz)
 | .cf t key ix f sz,k=>fN t fun t=>fN key fun key=>fN f fun f=>fN sz fun sz=>k (.cf t key ix f sz)
 | .ck l,k=>fL l fun l=>k (.ck l)
 | .cu,k=>k .cu
 | .cc c,k=>fSC c fun c=>k (.cc c)
 | .ov i e c col,k=>fNV i fun i=>fNV e fun e=>fSC c fun c=>fCol col fun col=>k (.ov i e c col)
 | .lt n a b,k=>fCol a fun a=>fCol b fun b=>k (.lt n a b)
 | .sel p a b,k=>fCol a fun a=>fCol b fun b=>k (.sel p a b)
@[simp] theorem fCol_eq (c:Col):∀(k:Col->β),fCol c k=k c:=by
 induction c<;>intro k<;>simp_all [fCol]
def fCols:List Col->(List Col->β)->β
 | [],k=>k []
 | n::l,k=>fCol n fun n=>fCols l fun l=>k (n::l)
@[simp] theorem fCols_eq:∀(l:List Col) (k:List Col->β),fCols l k=k l
 | [],k=>rfl
 | n::l,k=>by simp[fCols,fCols_eq l]
def fBlk(b:Blk)(k:Blk->β):β:=match b with
 | .own t size cs=>fN t fun t=>fN size fun size=>fOL cs fun cs=>k (.own t size cs)
 | .row t cap n cols=>fN t fun t=>fCols cols fun cols=>k (.row t cap n cols)
 | .view m n cols=>fCols cols fun cols=>k (.view m n cols)
 | .fam rw t cap n cols=>fB rw fun rw=>fN t fun t=>fCols cols fun cols=>k (.fam rw t cap n cols)
@[simp] theorem fBlk_eq (b:Blk) (k:Blk->β):fBlk b k=k b:=by cases b<;>simp[fBlk]
def fHL:HL->(HL->β)->β
 | [],k=>k []
 | (key,b)::r,k=>fN key fun key=>fBlk b fun b=>fHL r fun r=>k ((key,b)::r)
@[simp] theorem fHL_eq:∀(l:HL) (k:HL->β),fHL l k=k l
 | [],k=>rfl
 | (key,b)::l,k=>by simp[fHL,fHL_eq l]
def fHp(H:Hp)(k:Hp->β):β:=match H with|⟨h,nxt,D⟩=>fHL h fun h=>fN nxt fun nxt=>k ⟨h,nxt,D⟩
@[simp] theorem fHp_eq (H:Hp) (k:Hp->β):fHp H k=k H:=by cases H;simp[fHp]
def updK(k:Nat)(b:Blk):HL->(HL->β)->β
 | [],c=>c []
 | (k',b')::r,c=>match zu k k' with
  | true=>c ((k',b)::r)
  | false=>updK k b r fun r=>c ((k',b')::r)
@[simp] theorem updK_eq (k:Nat) (b:Blk):∀(h:HL) (c:HL->β),updK k b h c=c (upd k b h)
 | [],c=>rfl
 | (k',b')::r,c=>by
  simp only[updK,upd]
  cases zu k k' with
  | true=>rfl
  | false=>simp[updK_eq k b r]
def fHpL(lvl:Nat)(H:Hp)(k:Hp->β):β:=match lvl,H with
 | 0,⟨h,nxt,D⟩=>fN nxt fun nxt=>k ⟨h,nxt,D⟩
 | 1,⟨(key,b)::r,nxt,D⟩=>fN key fun key=>fBlk b fun b=>fN nxt fun nxt=>k ⟨(key,b)::r,nxt,D⟩
 | _,H=>fHp H k
@[simp] theorem fHpL_eq (lvl:Nat) (H:Hp) (k:Hp->β):fHpL lvl H k=k H:=by
 unfold fHpL
 split<;>simp
def setK:List (Option SV)->Nat->Option SV->(List (Option SV)->β)->β
 | [],_,_,c=>c []
 | _::l,0,v,c=>c (v::l)
 | x::l,n+1,v,c=>setK l n v fun l=>c (x::l)
@[simp] theorem setK_eq:∀(l:List (Option SV)) (n:Nat) (v:Option SV) (c:List (Option SV)->β),setK l n v c=c (l.set n v)
 | [],_,_,_=>rfl
 | _::_,0,_,_=>rfl
 | x::l,n+1,v,c=>by simp[setK,setK_eq l]
def setC:Nat->List (Option SV)->Nat->Option SV->(List (Option SV)->β)->β
 | 0,l,r,v,c=>setK l r v c
 | k+1,l,r,v,c=>match l with
  | a0::a1::a2::a3::a4::a5::a6::a7::t=>setC k t r v fun t=>c (a0::a1::a2::a3::a4::a5::a6::a7::t)
  | l=>c (l.set (8*(k+1)+r) v)
theorem setC_eq:∀(k:Nat) (l:List (Option SV)) (r:Nat) (v:Option SV) (c:List (Option SV)->β),setC k l r v c=c (l.set (8*k+r) v)
 | 0,l,r,v,c=>by simp[setC]
 | k+1,l,r,v,c=>by
  unfold setC
  split
  ·rename_i a0 a1 a2 a3 a4 a5 a6 a7 t
   rw[setC_eq k]
   rw[show 8*(k+1)+r=8*k+r+8 by omega]
   rfl
  ·rfl
def putK(t:List (Option SV))(d:Option Nat)(v:SV)(c:List (Option SV)->β):β:=match d with
 | some i=>setC (i / 8) t (i % 8) (some v) c
 | none=>c t
@[simp] theorem putK_eq (t:List (Option SV)) (d:Option Nat) (v:SV) (c:List (Option SV)->β):putK t d v c=c (match d with|some i=>t.set i (some v)|none=>t):=by
 cases d with
 | none=>simp[putK]
 | some i=>simp only[putK,setC_eq];rw[show 8*(i / 8)+i % 8=i by omega]
def fTm:List (Option SV)->(List (Option SV)->β)->β
 | [],k=>k []
 | none::l,k=>fTm l fun l=>k (none::l)
 | some v::l,k=>fTm l fun l=>k (some v::l)
@[simp] theorem fTm_eq:∀(l:List (Option SV)) (k:List (Option SV)->β),fTm l k=k l
 | [],k=>rfl
 | none::l,k=>by simp[fTm,fTm_eq l]
 | some v::l,k=>by simp[fTm,fTm_eq l]
end
def opt{α β:Type}(o:Option α)(k:α->Out β)(why:Nat:=0):Out β:=match o with|some x=>k x|none=>.bad why
theorem zaa{α β:Type}{o:Option α}{k:α->Out β}{n:Nat}{K:β->Prop}(h:(opt o k n).holds K):∃x,o=some x/\(k x).holds K:=by
 cases o with
 | none=>exact h.elim
 | some x=>exact⟨x,rfl,h⟩
def chk{β:Type}(b:Bool)(k:Out β)(why:Nat:=0):Out β:=match b with|true=>k|false=>.bad why
theorem zaf{β:Type}{b:Bool}{k:Out β}{n:Nat}{K:β->Prop}(h:(chk b k n).holds K):b=true/\k.holds K:=by
 cases b with
 | false=>exact h.elim
 | true=>exact⟨rfl,h⟩
def NV.isZero:NV->Bool
 | .k 0=>true
 | _=>false
theorem NV.isZero_v{i:NV}(h:i.isZero=true):i.v=0:=by
 cases i with
 | k n=>cases n with
  | zero=>rfl
  | succ n=>simp[NV.isZero]at h
 | s n=>simp[NV.isZero]at h
def selN(n:Nat):(j:Nat)->List SC->Out SC
 | _,[]=>.bad 10
 | _,[c]=>.leaf c
 | j,c::l=>.br (n == j) (.leaf c) (selN n (j+1) l)
theorem selN_ok{n:Nat}{K:SC->Prop}:∀(l:List SC) (j:Nat),j<=n->n<j+l.length->(selN n j l).holds K->∃c,l[n-j]?=some c/\K c
 | [],j,h0,h1,hh=>by simp at h1;omega
 | [c],j,h0,h1,hh=>by
  have:n-j=0:=by simp at h1;omega
  exact⟨c,by simp[this],hh⟩
 | c::d::l,j,h0,h1,hh=>by
  simp only[selN,Out.holds]at hh
  by_cases e:n=j
  ·exact⟨c,by simp[e],hh.1 (by simp[e])⟩
  ·obtain⟨x,hx,hK⟩:=selN_ok (d::l) (j+1) (by omega) (by simp at h1 ⊢;omega) (hh.2 (by simp[e]))
   refine⟨x,?_,hK⟩
   rw[<-hx,show n-j=(n-(j+1))+1 by omega,List.getElem?_cons_succ]
def eqNV:NV->NV->Bool×Bool
 | .k a,.k b=>(true,zu a b)
 | a,b=>(false,zu a.v b.v)
theorem eqNV_h(a b:NV):(eqNV a b).2=zu a.v b.v:=by cases a<;>cases b<;>rfl
def zer:Col->NV->NV->Out SC
 | .ov i0 e0 c col,i,e=>match eqNV i i0,eqNV e e0 with
  | (true,false),_=>zer col i e
  | _,(true,false)=>zer col i e
  | (true,true),(true,true)=>.leaf c
  | (_,x),(_,y)=>.br (x&&y) (.leaf c) (zer col i e)
 | .ck l,_,.s n=>.need (n<l.length) (selN n 0 l)
 | .lt n a b,i,e=>.br (decide (e.v<n)) (zer a i e) (zer b i e)
 | .sel p a b,i,e=>.br (p i.v e.v) (zer a i e) (zer b i e)
 | col,i,e=>opt (col.get i.v e.v) (fun c=>.leaf c) 24
theorem colAt_ok{i e:NV}{K:SC->Prop}:∀ {col:Col},(zer col i e).holds K->∃c,col.get i.v e.v=some c/\K c:=by
 intro col
 induction col with
 | ov i0 e0 c col ih=>
  intro hh
  have hi:=eqNV_h i i0;have he:=eqNV_h e e0
  have no:(zu i.v i0.v&&zu e.v e0.v)=false->(Col.ov i0 e0 c col).get i.v e.v=col.get i.v e.v:=by
   intro h
   simp only[Col.get]
   rw[if_neg]
   rintro⟨h1,h2⟩
   rw[h1,h2,Nat.beq_refl,Nat.beq_refl]at h
   cases h
  have yes:(zu i.v i0.v&&zu e.v e0.v)=true->(Col.ov i0 e0 c col).get i.v e.v=some c:=by
   intro h
   simp only[zx]at h
   simp only[Col.get]
   rw[if_pos ⟨zq h.1,zq h.2⟩]
  have br:(Out.br (zu i.v i0.v&&zu e.v e0.v) (.leaf c) (zer col i e)).holds K->∃d,(Col.ov i0 e0 c col).get i.v e.v=some d/\K d:=by
   intro hh
   cases hb:(zu i.v i0.v&&zu e.v e0.v) with
   | true=>exact⟨c,yes hb,hh.1 hb⟩
   | false=>rw[no hb];exact ih (hh.2 hb)
  simp only[zer]at hh
  cases hA:eqNV i i0 with
  | mk a x=>cases hB:eqNV e e0 with
   | mk b y=>
    rw[hA,hB]at hh
    rw[hA]at hi;rw[hB]at he
    simp only at hi he
    cases a<;>cases x<;>cases b<;>cases y<;>simp only at hh<;>first
     | (rw[no (by rw[<-hi];rfl)];exact ih hh)
     | (rw[no (by rw[<-he,Bool.and_false])];exact ih hh)
     | exact⟨c,yes (by rw[<-hi,<-he];rfl),hh⟩
     | (rw[hi,he]at hh;exact br hh)
     | (refine br ?_;rw[<-hi,<-he];exact hh)
 | ck l=>
  intro hh
  cases e with
  | k n=>obtain⟨c,hc,hK⟩:=zaa hh;exact⟨c,hc,hK⟩
  | s n=>
   obtain⟨hlt,hh⟩:=hh
   obtain⟨c,hc,hK⟩:=selN_ok l 0 (Nat.zero_le _) (by simpa using hlt) hh
   exact⟨c,by simpa [Col.get]using hc,hK⟩
 | lt n a b iha ihb=>
  intro hh
  simp only[zer]at hh
  simp only[Col.get]
  by_cases hn:e.v<n
  ·rw[if_pos hn];exact iha (hh.1 (decide_eq_true hn))
  ·rw[if_neg hn];exact ihb (hh.2 (decide_eq_false hn))
 | sel p a b iha ihb=>
  intro hh
  simp only[zer]at hh
  simp only[Col.get]
  by_cases hn:p i.v e.v=true
  ·rw[if_pos hn];exact iha (hh.1 hn)
  ·rw[if_neg hn];exact ihb (hh.2 (Bool.eq_false_iff.2 hn))
 | _=>intro hh;obtain⟨c,hc,hK⟩:=zaa hh;exact⟨c,hc,hK⟩
def zak:IntKind->IntKind->Bool
 | .i8,.i8|.i16,.i16|.i32,.i32|.i64,.i64|.u8,.u8|.u16,.u16|.u32,.u32|.u64,.u64=>true
 | _,_=>false
theorem zap{a b:IntKind}(h:zak a b=true):a=b:=by cases a<;>cases b<;>first|rfl|simp[zak]at h
def intC:SC->Option (IntKind×Int)
 | .ki k n=>some (k,n)
 | .iv k n=>some (k,n)
 | _=>none
theorem intC_is{n:Nat->Prop}{ρ:Rho}{c:SC}{v:Value}{x:IntKind×Int}(h:intC c=some x)(hs:CIs n ρ c v):v=.int x.1 x.2:=by
 unfold intC at h
 split at h<;>cases h<;>exact hs.eq
def numsK:List (Option SC)->Option (IntKind×List Int)
 | []=>none
 | none::_=>none
 | some c::l=>match l with
  | []=>(intC c).map fun r=>(r.1,[r.2])
  | _=>match intC c,numsK l with
   | some r,some (k,ns)=>match zak r.1 k with
    | true=>some (k,r.2::ns)
    | false=>none
   | _,_=>none
theorem numsK_at:∀ {l:List (Option SC)} {k:IntKind} {ns:List Int},numsK l=some (k,ns)->ns.length=l.length/\∀(j:Nat) n,ns[j]?=some n->∃c,l[j]?=some (some c)/\intC c=some (k,n)
 | [],k,ns,h=>by simp[numsK]at h
 | none::_,k,ns,h=>by simp[numsK]at h
 | some c::[],k,ns,h=>by
  simp only[numsK,Option.map_eq_some_iff]at h
  obtain⟨⟨k',n'⟩,hr,he⟩:=h
  cases he
  refine⟨rfl,fun j n hj=>?_⟩
  cases j with
  | zero=>simp at hj;subst hj;exact⟨c,rfl,hr⟩
  | succ j=>simp at hj
 | some c::d::l,k,ns,h=>by
  rw[numsK]at h
  split at h
  ·rename_i r k' ns' hr hn
   split at h
   ·rename_i hk
    cases h
    obtain⟨g1,g2⟩:=numsK_at hn
    have hk:=zap hk
    refine⟨by simp[g1],fun j n hj=>?_⟩
    cases j with
    | zero=>
     simp at hj;subst hj
     exact⟨c,rfl,by rw[hr,<-hk]⟩
    | succ j=>
     simp at hj
     obtain⟨c',h1,h2⟩:=g2 j n hj
     exact⟨c',by simpa using h1,h2⟩
   ·cases h
  ·cases h
  ·simp
def numL(l:List Int)(x:Nat):Int:=(l[x]?).getD 0
theorem numL_at{l:List Int}{x:Nat}(h:x<l.length):l[x]?=some (numL l x):=by
 unfold numL
 rw[List.getElem?_eq_getElem h];rfl
def ownSym(cs:List (Option SC))(f sz x:Nat):Out SC:=chk (zu sz 1) (opt (numsK (cs.drop f)) (fun r=>.need (x<r.2.length) (.leaf (.iv r.1 (numL r.2 x)))) 13) 13
def cellAt(H:HL)(key:Nat)(i e:NV)(f sz:Nat):Out SC:=
 match find key H with
 | some (.own _ _ cs)=>chk i.isZero (match e with
  | .k n=>opt (cs[n*sz+f]?) (fun oc=>opt oc (fun c=>.leaf c) 11) 12
  | .s x=>ownSym cs f sz x) 14
 | some (.row _ _ n cols)=>chk i.isZero (chk (zu sz cols.length) (opt (cols[f]?) (fun col=>.need (e.v<n) (zer col (.k 0) e)) 16) 17) 18
 | some (.view m len cols)=>chk (zu sz cols.length) (opt (cols[f]?) (fun col=>.need (i.v<m/\e.v<len i.v) (zer col i e)) 20) 21
 | some (.fam _ t cap len cols)=>chk (zu sz cols.length) (opt (cols[f]?) (fun col=>.need (e.v<len i.v) (zer col i e)) 25) 26
 | none=>.bad 22
theorem cellAt_ok{φ:Fr}{ρ:Rho}{H:Hp}{w:World}{key:Nat}{i e:NV}{f sz:Nat}{K:SC->Prop}(h:HInv φ ρ H w)(hh:(cellAt H.h key i e f sz).holds K):
  ∃c v p,K c/\CIs H.sc ρ c v/\zal ρ key i (e.v*sz+f)=some p/\w.cell? p=some v:=by
 unfold cellAt at hh
 split at hh
 ·rename_i t size cs hf
  obtain⟨hi,hh⟩:=zaf hh
  obtain⟨b,arr,h1,h2,h3,h4,h5⟩:=h.sat key _ hf
  cases e with
  | k n=>
   obtain⟨oc,hoc,hh⟩:=zaa hh
   obtain⟨c,hc,hh⟩:=zaa hh
   subst hc
   obtain⟨v,hv,hs⟩:=h5 _ _ hoc
   refine⟨c,v,⟨b,0+(n*sz+f),none⟩,hh,hs,?_,?_⟩
   ·simp[zal,NV.isZero_v hi,h1,NV.v_k]
   ·rw[z8,cell_of_row w b _ arr t _ h2];exact hv
  | s x=>
   unfold ownSym at hh
   obtain⟨hz,hh⟩:=zaf hh
   have hz:=zq hz
   subst hz
   obtain⟨r,hr,hh⟩:=zaa hh
   obtain⟨hx,hh⟩:=hh
   obtain⟨g1,g2⟩:=numsK_at hr
   obtain⟨c,hc,ha⟩:=g2 x _ (numL_at hx)
   rw[List.getElem?_drop]at hc
   obtain⟨v,hv,hs⟩:=h5 _ _ hc
   refine⟨_,v,⟨b,0+(x*1+f),none⟩,hh,?_,?_,?_⟩
   ·intro ρ' hag
    rw[intC_is ha hs];rfl
   ·simp[zal,NV.isZero_v hi,h1,NV.v_s]
   ·rw[z8,cell_of_row w b _ arr t _ h2,Nat.mul_one,Nat.add_comm];exact hv
 ·rename_i t size n cols hf
  obtain⟨hi,hh⟩:=zaf hh
  obtain⟨hz,hh⟩:=zaf hh
  obtain⟨col,hcol,hlt,hh⟩:=zaa hh
  obtain⟨c,hc,hh⟩:=colAt_ok hh
  rcases h.sat key _ hf with⟨h0,_⟩|⟨b,arr,h1,h2,h3,h4,h4',h5⟩
  ·omega
  obtain⟨v,hv,hs⟩:=h5 e.v hlt f col c hcol hc
  have hz:=zq hz
  refine⟨c,v,⟨b,0+(e.v*sz+f),none⟩,hh,hs,?_,?_⟩
  ·simp[zal,NV.isZero_v hi,h1]
  ·rw[z8,cell_of_row w b _ arr t _ h2,hz];exact hv
 ·rename_i m len cols hf
  obtain⟨hz,hh⟩:=zaf hh
  obtain⟨col,hcol,⟨hlt,hlt'⟩,hh⟩:=zaa hh
  obtain⟨c,hc,hh⟩:=colAt_ok hh
  obtain⟨b,o,h1,h2⟩:=h.sat key _ hf i.v hlt e.v hlt'
  obtain⟨v,hv,hs⟩:=h2 f col c hcol hc
  have hz:=zq hz
  refine⟨c,v,(adr (b,o)).add (e.v*sz+f),hh,hs,?_,?_⟩
  ·simp[zal,h1]
  ·rw[hz];exact hv
 ·rename_i rw t cap len cols hf
  obtain⟨hz,hh⟩:=zaf hh
  obtain⟨col,hcol,hlt,hh⟩:=zaa hh
  obtain⟨c,hc,hh⟩:=colAt_ok hh
  obtain⟨h1,_,h3⟩:=h.sat key _ hf
  obtain⟨b,arr,g1,g2,g3,g4⟩:=h3 i.v (by have:=(h1 i.v).1;omega)
  obtain⟨v,hv,hs⟩:=g4 e.v hlt f col c hcol hc
  have hz:=zq hz
  refine⟨c,v,⟨b,0+(e.v*sz+f),none⟩,hh,hs,?_,?_⟩
  ·simp[zal,g1]
  ·rw[z8,cell_of_row w b _ arr t _ g2,hz];exact hv
 ·exact hh.elim
def cellsAt(H:HL)(key:Nat)(i e:NV)(sz:Nat):(f n:Nat)->Out (List SC)
 | _,0=>.leaf []
 | f,n+1=>(cellAt H key i e f sz).bind fun c=>(cellsAt H key i e sz (f+1) n).bind fun l=>.leaf (c::l)
def LIs(n:Nat->Prop)(ρ:Rho)(l:List SC)(vs:List Value):Prop:=∀ρ',zat n ρ ρ'->l.map (SC.den ρ')=vs
theorem LIs.nil(n:Nat->Prop)(ρ:Rho):LIs n ρ [] []:=fun _ _=>rfl
theorem LIs.cons{n:Nat->Prop}{ρ:Rho}{c:SC}{v:Value}{l:List SC}{vs:List Value}(h:CIs n ρ c v)(g:LIs n ρ l vs):LIs n ρ (c::l) (v::vs):=fun ρ' ha=>by
 rw[List.map_cons,h ρ' ha,g ρ' ha]
theorem LIs.len{n:Nat->Prop}{ρ:Rho}{l:List SC}{vs:List Value}(h:LIs n ρ l vs):vs.length=l.length:=by rw[<-h ρ (zat.refl n ρ),List.length_map]
theorem LIs.get{n:Nat->Prop}{ρ:Rho}{l:List SC}{vs:List Value}(h:LIs n ρ l vs){k:Nat}{c:SC}(hk:l[k]?=some c):∃v,vs[k]?=some v/\CIs n ρ c v:=by
 refine⟨c.den ρ,by rw[<-h ρ (zat.refl n ρ)];simp[hk],fun ρ' ha=>?_⟩
 have e:=(h ρ' ha).trans (h ρ (zat.refl n ρ)).symm
 have:=congrArg (fun l:List Value=>l[k]?) e
 simpa [hk]using this
theorem SIs.agg{n:Nat->Prop}{ρ:Rho}{l:List SC}{vs:List Value}(h:LIs n ρ l vs):SIs n ρ (.a l) (.agg vs.toArray):=fun ρ' ha=>by simp only[SV.den];rw[h ρ' ha]
theorem LIs.ext{n m:Nat->Prop}{ρ ρ':Rho}{l:List SC}{vs:List Value}(h:LIs n ρ l vs)(ha:zat n ρ ρ')(hm:∀k,n k->m k):LIs m ρ' l vs:=fun ρ'' h'=>h ρ'' (ha.trans (h'.mono hm))
theorem zbp{ρ:Rho}{key:Nat}{i:NV}{a b:Nat}{p:Addr}(h:zal ρ key i a=some p):zal ρ key i (a+b)=some (p.add b)/\True:=by
 unfold zal at *
 cases hp:ρ key i.v with
 | none=>simp[hp]at h
 | some q=>
  simp only[hp,Option.map_some,z0]at h ⊢
  subst h
  exact⟨(adr_add _ _ _).symm,trivial⟩
theorem zfu{φ:Fr}{ρ:Rho}{H:Hp}{w:World}{key:Nat}{i e:NV}{sz:Nat}(h:HInv φ ρ H w):∀(n f:Nat) {K:List SC->Prop},(cellsAt H.h key i e sz f n).holds K->
  ∃l vs,K l/\l.length=n/\LIs H.sc ρ l vs/\∀j v,vs[j]?=some v->∃p,zal ρ key i (e.v*sz+(f+j))=some p/\w.cell? p=some v
 | 0,f,K,hh=>⟨[],[],hh,rfl,.nil _ _,fun j v hv=>by simp at hv⟩
 | n+1,f,K,hh=>by
  simp only[cellsAt,Out.holds_bind]at hh
  obtain⟨c,v,p,hh,hc,hp,hw⟩:=cellAt_ok h hh
  obtain⟨l,vs,hK,hlen,hl,hcells⟩:=zfu h n (f+1) hh
  refine⟨c::l,v::vs,hK,by simp[hlen],.cons hc hl,?_⟩
  intro j u hu
  cases j with
  | zero=>simp at hu;subst hu;exact⟨p,by simpa using hp,hw⟩
  | succ j=>
   obtain⟨q,hq,hqw⟩:=hcells j u (by simpa using hu)
   exact⟨q,by rw[<-hq];congr 1;omega,hqw⟩
def isAggT(P:Program)(t:TypeId):Option Bool:=
 match undF P t with
 | some (.struct _)|some (.array _ _)=>some true
 | some _=>some false
 | none=>none
def zd5(P:Program)(t:TypeId):Option Nat:=(infF P t).map (·.size)
theorem zbx{P:Program}{t:TypeId}{b:Bool}(h:isAggT P t=some b)(w:World):(isAgg t).run P w=.ok b w:=by
 unfold isAggT at h
 try simp only[zaq,za2,zbm,za3]at h
 split at h
 ·rename_i fs hu;cases h;simp[isAgg,run_underlying hu]
 ·rename_i n e hu;cases h;simp[isAgg,run_underlying hu]
 ·rename_i d h1 h2 hu
  cases h
  simp only[isAgg,Sem.run_bind,run_underlying hu,Result.andThen_ok]
  rfl
 ·cases h
theorem zan{P:Program}{t:TypeId}{n:Nat}(h:zd5 P t=some n)(w:World):(sizeOf t).run P w=.ok n w:=by
 unfold zd5 at h
 try simp only[zaq,za2,zbm,za3]at h
 cases hi:P.info? t with
 | none=>simp[hi]at h
 | some i=>simp[hi]at h;simp[sizeOf,typeInfo,hi,h]
def loadT(P:Program)(H:HL)(t:TypeId):SV->Out SV
 | .c (.ptr key i e f sz)=>opt (isAggT P t) fun
  | true=>opt (zd5 P t) fun n=>chk (Nat.ble 1 n) ((cellsAt H key i e sz f n).bind fun l=>.leaf (.a l))
  | false=>(cellAt H key i e f sz).bind fun c=>.leaf (.c c)
 | _=>.bad 30
theorem loadVar_ok{P:Program}{φ:Fr}{ρ:Rho}{H:Hp}{w:World}{t:TypeId}{x:SV}{v:Value}{K:SV->Prop}(h:HInv φ ρ H w)(hx:SIs H.sc ρ x v)(hh:(loadT P H.h t x).holds K):
  ∃a sv u,v=.pointer (some a)/\(loadVar t a).run P w=.ok u w/\K sv/\SIs H.sc ρ sv u:=by
 unfold loadT at hh
 split at hh
 ·rename_i key i e f sz
  obtain⟨b,hb,hh⟩:=zaa hh
  have hv:v=.pointer (zal ρ key i (e.v*sz+f)):=hx.eq
  cases b with
  | true=>
   obtain⟨n,hn,hh⟩:=zaa hh
   obtain⟨h1,hh⟩:=zaf hh
   rw[Out.holds_bind]at hh
   obtain⟨l,vs,hK,hlen,hl,hcells⟩:=zfu h n f hh
   cases hp:zal ρ key i (e.v*sz+f) with
   | none=>
    have hl':=hl.len
    have h1:=zb h1
    obtain⟨u,hu⟩:∃u,vs[0]?=some u:=⟨_,List.getElem?_eq_getElem (by omega)⟩
    obtain⟨p,hp',_⟩:=hcells 0 u hu
    rw[Nat.add_zero,hp]at hp';cases hp'
   | some a=>
    refine⟨a,.a l,.agg vs.toArray,by rw[hv,hp],?_,hK,.agg hl⟩
    have hlc:(loadCells a n).run P w=.ok vs.toArray w:=by
     have:=run_loadCells_list (P:=P) w a vs (fun j u hu=>by
      obtain⟨p,hp',hw⟩:=hcells j u hu
      have:=(zbp (b:=j) hp).1
      rw[show e.v*sz+(f+j)=e.v*sz+f+j by omega,this]at hp'
      cases hp';exact hw)
     rwa [hl.len,hlen]at this
    simp[loadVar,zbx hb,zan hn,hlc]
  | false=>
   rw[Out.holds_bind]at hh
   obtain⟨c,u,p,hK,hc,hp,hw⟩:=cellAt_ok h hh
   refine⟨p,.c c,u,by rw[hv,hp],?_,hK,.of_c hc⟩
   simp[loadVar,zbx hb,hw]
 ·exact hh.elim
def up2{α:Type}(i e:NV)(x:α)(g:Nat->Nat->α):Nat->Nat->α:=fun i' j=>if i'=i.v/\j=e.v then x else g i' j
def Col.ovr(i e:NV)(c:SC):Col->Col
 | .ov i0 e0 c0 col=>match eqNV i i0,eqNV e e0 with
  | (true,true),(true,true)=>.ov i e c col
  | _,_=>.ov i e c (.ov i0 e0 c0 col)
 | col=>.ov i e c col
def Col.set(one:Bool)(i e:NV)(c:SC):Col->Option Col
 | .ci k g=>match c with
  | .iv k' x|.ki k' x=>bif zak k k' then some (.ci k fun i' j=>if i'=i.v/\j=e.v then x else g i' j) else none
  | _=>none
 | .cb g=>match c with
  | .bv x|.kb x=>some (.cb fun i' j=>if i'=i.v/\j=e.v then x else g i' j)
  | _=>none
 | .ck l=>match one,e with
  | true,.k n=>some (.ck (if n=l.length then l++[c] else l.set n c))
  | _,_=>none
 | .cu=>some .cu
 | .cs key sz ix len cap=>match c with
  | .slc key' i' e' sz' len' cap'=>bif zu key key'&&(e'.isZero&&zu sz sz') then some (.cs key sz (up2 i e i'.v ix) (up2 i e len'.v len) (up2 i e cap'.v cap)) else some (Col.ovr i e c (.cs key sz ix len cap))
  | _=>some (Col.ovr i e c (.cs key sz ix len cap))
 | .cp key ix f sz=>match c with
  | .ptr key' i' e' f' sz'=>bif zu key key'&&(e'.isZero&&(zu f f'&&zu sz sz')) then some (.cp key (up2 i e i'.v ix) f sz) else some (Col.ovr i e c (.cp key ix f sz))
  | _=>some (Col.ovr i e c (.cp key ix f sz))
 | .cf t key ix f sz=>some (Col.ovr i e c (.cf t key ix f sz))
 | .cc d=>some (Col.ovr i e c (.cc d))
 | .ov i0 e0 c0 col=>some (Col.ovr i e c (.ov i0 e0 c0 col))
 | .lt n a b=>some (Col.ovr i e c (.lt n a b))
 | .sel p a b=>match c,b with
  | .nilI,.cc .nilI=>some (.sel (up2 i e false p) a (.cc .nilI))
  | _,_=>some (Col.ovr i e c (.sel p a b))
theorem Col.get_ovr{i e:NV}{c:SC}{col:Col}(i' j:Nat):(Col.ovr i e c col).get i' j=if i'=i.v/\j=e.v then some c else col.get i' j:=by
 cases col<;>try rfl
 rename_i i0 e0 c0 col
 simp only[Col.ovr]
 split
 ·rename_i h1 h2
  have hi:=eqNV_h i i0;have he:=eqNV_h e e0
  rw[h1]at hi;rw[h2]at he
  have hi:=zq hi.symm;have he:=zq he.symm
  simp only[Col.get]
  rw[hi,he]
  split<;>rfl
 ·rfl
theorem Col.get_set{one:Bool}{col col':Col}{i e:NV}{c:SC}(h:col.set one i e c=some col')(h1:one=true->i.v=0)(i' j:Nat)(h2:one=true->i'=0)(d:SC)(hd:col'.get i' j=some d):
  (i'=i.v/\j=e.v->∀ρ,d.den ρ=c.den ρ)/\(¬(i'=i.v/\j=e.v)->col.get i' j=some d):=by
 have ov:∀col:Col,(Col.ovr i e c col).get i' j=some d->(i'=i.v/\j=e.v->∀ρ,d.den ρ=c.den ρ)/\(¬(i'=i.v/\j=e.v)->col.get i' j=some d):=by
  intro col hd
  rw[Col.get_ovr]at hd
  exact⟨fun hc=>by rw[if_pos hc]at hd;cases hd;intro _;rfl,fun hc=>by rw[if_neg hc]at hd;exact hd⟩
 cases col with
 | ci k g=>
  cases c<;>simp only[Col.set]at h<;>(try cases h)
  all_goals
   rename_i k' x
   by_cases hk:zak k k'=true
   ·have:=zap hk;subst this
    simp only[hk,cond_true,z0]at h
    subst h
    simp only[Col.get,z0]at hd
    subst hd
    exact⟨fun he=>by rw[if_pos he];intro ρ;simp[SC.den],fun he=>by simp only[Col.get];rw[if_neg he]⟩
   ·simp[hk]at h
 | cb g=>
  cases c<;>simp only[Col.set,z0]at h<;>(try cases h)
  all_goals
   simp only[Col.get,z0]at hd
   subst hd
   exact⟨fun he=>by rw[if_pos he];intro ρ;simp[SC.den],fun he=>by simp only[Col.get];rw[if_neg he]⟩
 | ck l=>
  cases one with
  | false=>simp[Col.set]at h
  | true=>
   have h1:=h1 rfl;have h2:=h2 rfl
   subst h2
   cases e with
   | s n=>simp[Col.set]at h
   | k n=>
    simp only[Col.set,z0]at h
    subst h
    simp only[Col.get,NV.v_k,h1,true_and]at hd ⊢
    by_cases hn:n=l.length
    ·subst hn
     simp only[if_true]at hd
     by_cases hj:j<l.length
     ·rw[List.getElem?_append_left hj]at hd
      exact⟨fun he=>by omega,fun _=>hd⟩
     ·rw[List.getElem?_append_right (by omega)]at hd
      by_cases he:j=l.length
      ·subst he;simp at hd;subst hd;exact⟨fun _ _=>rfl,fun h=>absurd rfl h⟩
      ·rw[List.getElem?_eq_none (by simp;omega)]at hd;cases hd
    ·simp only[hn,if_false,List.getElem?_set]at hd
     by_cases he:j=n
     ·subst he
      simp only[if_true]at hd
      split at hd
      ·cases hd;exact⟨fun _ _=>rfl,fun h=>absurd rfl h⟩
      ·cases hd
     ·rw[if_neg (fun h=>he h.symm)]at hd
      exact⟨fun h=>absurd h he,fun _=>hd⟩
 | cu=>simp[Col.set]at h;subst h;simp[Col.get]at hd
 | cs key sz ix len cap=>
  simp only[Col.set]at h
  split at h
  ·rename_i key' i2 e2 sz' len' cap'
   by_cases hb:(zu key key'&&(e2.isZero&&zu sz sz'))=true
   ·rw[hb]at h
    simp only[cond_true,z0]at h
    subst h
    simp only[zx]at hb
    have hk:=zq hb.1;have hz:=zq hb.2.2;have h0:=NV.isZero_v hb.2.1
    subst hk hz
    simp only[Col.get,up2,z0]at hd ⊢
    subst hd
    refine⟨fun hc ρ=>?_,fun hc=>?_⟩
    ·simp only[if_pos hc,SC.den,NV.v_s,NV.v_k,h0,zal]
    ·simp only[if_neg hc]
   ·have:(zu key key'&&(e2.isZero&&zu sz sz'))=false:=Bool.eq_false_iff.2 hb
    rw[this]at h
    simp only[cond_false,z0]at h
    subst h
    exact ov _ hd
  ·cases h;exact ov _ hd
 | cp key ix f sz=>
  simp only[Col.set]at h
  split at h
  ·rename_i key' i2 e2 f' sz'
   by_cases hb:(zu key key'&&(e2.isZero&&(zu f f'&&zu sz sz')))=true
   ·rw[hb]at h
    simp only[cond_true,z0]at h
    subst h
    simp only[zx]at hb
    have hk:=zq hb.1;have hz:=zq hb.2.2.2;have hf:=zq hb.2.2.1;have h0:=NV.isZero_v hb.2.1
    subst hk hz hf
    simp only[Col.get,up2,z0]at hd ⊢
    subst hd
    refine⟨fun hc ρ=>?_,fun hc=>?_⟩
    ·simp only[if_pos hc,SC.den,NV.v_s,NV.v_k,h0,zal]
    ·simp only[if_neg hc]
   ·have:(zu key key'&&(e2.isZero&&(zu f f'&&zu sz sz')))=false:=Bool.eq_false_iff.2 hb
    rw[this]at h
    simp only[cond_false,z0]at h
    subst h
    exact ov _ hd
  ·cases h;exact ov _ hd
 | cf t key ix f sz=>simp only[Col.set,z0]at h;subst h;exact ov _ hd
 | cc c0=>simp only[Col.set,z0]at h;subst h;exact ov _ hd
 | ov i0 e0 c0 col=>simp only[Col.set,z0]at h;subst h;exact ov _ hd
 | lt n a b=>simp only[Col.set,z0]at h;subst h;exact ov _ hd
 | sel p a b=>
  simp only[Col.set]at h
  split at h
  ·cases h
   simp only[Col.get]at hd ⊢
   refine⟨fun he=>?_,fun he=>?_⟩
   ·have e1:up2 i e false p i' j=false:=if_pos he
    simp only[e1,Bool.false_eq_true,if_false,z0]at hd
    subst hd
    exact fun _=>rfl
   ·have e1:up2 i e false p i' j=p i' j:=if_neg he
    simp only[e1]at hd
    exact hd
  ·simp only[z0]at h;subst h;exact ov _ hd
def putN(k:IntKind)(x:Nat)(v:Int):Nat->List Int->List (Option SC)
 | _,[]=>[]
 | j,o::l=>some (.iv k (if x=j then v else o))::putN k x v (j+1) l
theorem putN_len{k:IntKind}{x:Nat}{v:Int}:∀ {l:List Int} {j:Nat},(putN k x v j l).length=l.length
 | [],_=>rfl
 | o::l,j=>by simp[putN,putN_len]
theorem putN_at{k:IntKind}{x:Nat}{v:Int}:∀ {l:List Int} {j i:Nat} {d:Option SC},(putN k x v j l)[i]?=some d->∃o,l[i]?=some o/\d=some (.iv k (if x=j+i then v else o))
 | [],j,i,d,h=>by simp[putN]at h
 | o::l,j,0,d,h=>by
  simp only[putN,List.getElem?_cons_zero,z0]at h
  exact⟨o,rfl,h.symm⟩
 | o::l,j,i+1,d,h=>by
  simp only[putN,List.getElem?_cons_succ]at h
  obtain⟨q,h1,h2⟩:=putN_at h
  exact⟨q,by simpa using h1,by rw[h2,show j+1+i=j+(i+1) by omega]⟩
def setAt(H:HL)(key:Nat)(i e:NV)(f sz:Nat)(c:SC):Out HL:=
 chk c.oneCell (match find key H with
 | some (.own t size cs)=>chk i.isZero (match e with
  | .k n=>chk (Nat.blt (n*sz+f) cs.length) (fBlk (.own t size (cs.set (n*sz+f) (some c))) fun b=>updK key b H fun h=>.leaf h) 31
  | .s x=>chk (zu sz 1) (opt (numsK (cs.drop f)) (fun r=>opt (intC c) (fun u=>chk (zak u.1 r.1) (.need (x<r.2.length) (fBlk (.own t size (cs.take f++putN r.1 x u.2 0 r.2)) fun b=>updK key b H fun h=>.leaf h)) 32) 32) 32) 32) 33
 | some (.row t size n cols)=>chk i.isZero (chk (zu sz cols.length) (opt (cols[f]?) (fun col=>opt (col.set true (.k 0) e c) (fun col'=>
   .need (e.v<n) (fBlk (.row t size n (cols.set f col')) fun b=>updK key b H fun h=>.leaf h)) 34) 35) 36) 37
 | some (.fam rw t cap len cols)=>chk (rw&&zu sz cols.length) (opt (cols[f]?) (fun col=>opt (col.set false i e c) (fun col'=>
   .need (e.v<len i.v) (fBlk (.fam rw t cap len (cols.set f col')) fun b=>updK key b H fun h=>.leaf h)) 34) 35) 36
 | _=>.bad 38) 39
theorem CIs.one{n:Nat->Prop}{ρ:Rho}{c:SC}{v:Value}(h:CIs n ρ c v)(ho:c.oneCell=true):v.oneCell'=true:=by
 rw[h.eq]
 cases c<;>simp only[SC.den,Value.oneCell']
 rename_i u
 cases u<;>simp[SC.oneCell]at ho ⊢
theorem zc6{P:Program}{w:World}{b j:Nat}{arr:Array Value}{t:TypeId}{v u:Value}(hb:w.heap[b]?=some (.cells arr t (0,0)))(hu:arr[j]?=some u)(hv:v.oneCell'=true):
  (store ⟨b,j,none⟩ v).run P w=.ok () (w.setCell ⟨b,j,none⟩ v):=by
 rw[run_store P w _ v _ hv,cell_of_row w b j arr t _ hb,hu,frozen_of_row w b j arr t hb]
 simp
theorem setAt_ok{P:Program}{φ:Fr}{ρ:Rho}{H:Hp}{w:World}{key:Nat}{i e:NV}{f sz:Nat}{c:SC}{v:Value}{K:HL->Prop}(h:HInv φ ρ H w)(hc:CIs H.sc ρ c v)
  (hh:(setAt H.h key i e f sz c).holds K):
  ∃p h' w',zal ρ key i (e.v*sz+f)=some p/\K h'/\(store p v).run P w=.ok () w'/\HInv φ ρ ⟨h',H.nxt,H.D⟩ w':=by
 unfold setAt at hh
 simp only[fBlk_eq,updK_eq]at hh
 obtain⟨hone,hh⟩:=zaf hh
 have hv:=hc.one hone
 split at hh
 ·rename_i t size cs hf
  obtain⟨hi,hh⟩:=zaf hh
  obtain⟨b,arr,h1,h2,h3,h4,h5⟩:=h.sat key _ hf
  cases e with
  | k n=>
   obtain⟨hlt,hh⟩:=zaf hh
   have hlt:n*sz+f<cs.length:=Nat.lt_of_succ_le (zb hlt)
   obtain⟨u,hu⟩:∃u,arr[n*sz+f]?=some u:=⟨_,Array.getElem?_eq_getElem (by omega)⟩
   refine⟨⟨b,n*sz+f,none⟩,_,_,?_,hh,zc6 h2 hu hv,?_⟩
   ·simp[zal,NV.isZero_v hi,h1,NV.v_k]
   ·refine h.write hf rfl (i0:=0) rfl h1 ?_ (h.fr.set (h.may key _ hf rfl 0 rfl b 0 h1) _) (by simp) (fun x hx=>heap_setCell_other w _ x v hx) (fun i hi=>hi)
    refine⟨b,arr.setIfInBounds (n*sz+f) v,h1,heap_setCell_same w b _ arr t v h2,by simp[h3],by simpa using h4,?_⟩
    intro j d hd
    rw[List.getElem?_set]at hd
    split at hd
    ·rename_i e;subst e
     simp only[hlt,if_true,z0]at hd
     subst hd
     exact⟨v,by simp[show n*sz+f<arr.size by omega],hc⟩
    ·rename_i hne
     obtain⟨x,hx,hs⟩:=h5 j d hd
     exact⟨x,by rw[Array.getElem?_setIfInBounds_ne hne];exact hx,hs⟩
  | s x=>
   obtain⟨hz,hh⟩:=zaf hh
   have hz:=zq hz
   subst hz
   obtain⟨r,hr,hh⟩:=zaa hh
   obtain⟨u,hu,hh⟩:=zaa hh
   obtain⟨hk,hh⟩:=zaf hh
   have hk:=zap hk
   obtain⟨hx,hh⟩:=hh
   obtain⟨g1,g2⟩:=numsK_at hr
   rw[List.length_drop]at g1
   have hlt:x+f<cs.length:=by omega
   have hfl:f<=cs.length:=by omega
   obtain⟨y,hy⟩:∃y,arr[x+f]?=some y:=⟨_,Array.getElem?_eq_getElem (by omega)⟩
   refine⟨⟨b,x+f,none⟩,_,_,?_,hh,zc6 h2 hy hv,?_⟩
   ·simp[zal,NV.isZero_v hi,h1,NV.v_s]
   ·refine h.write hf rfl (i0:=0) rfl h1 ?_ (h.fr.set (h.may key _ hf rfl 0 rfl b 0 h1) _) (by simp) (fun z hz=>heap_setCell_other w _ z v hz) (fun i hi=>hi)
    refine⟨b,arr.setIfInBounds (x+f) v,h1,heap_setCell_same w b _ arr t v h2,by simp[h3],by simp only[List.length_append,List.length_take,putN_len];omega,?_⟩
    intro j d hd
    rcases Nat.lt_or_ge j f with hj|hj
    ·rw[List.getElem?_append_left (by rw[List.length_take];omega),List.getElem?_take,if_pos hj]at hd
     obtain⟨z,hz,hs⟩:=h5 j d hd
     exact⟨z,by rw[Array.getElem?_setIfInBounds_ne (by omega)];exact hz,hs⟩
    ·rw[List.getElem?_append_right (by rw[List.length_take];omega),List.length_take,Nat.min_eq_left hfl]at hd
     obtain⟨o,ho,hd⟩:=putN_at hd
     obtain⟨c',hc',ha⟩:=g2 (j-f) o ho
     rw[List.getElem?_drop,show f+(j-f)=j by omega]at hc'
     obtain⟨z,hz,hs⟩:=h5 j c' hc'
     cases hd
     by_cases e:x=j-f
     ·refine⟨v,by rw[show x+f=j by omega];simp[show j<arr.size by omega],fun ρ' hag=>?_⟩
      rw[if_pos (by omega),intC_is hu hc,hk]
      rfl
     ·refine⟨z,by rw[Array.getElem?_setIfInBounds_ne (by omega)];exact hz,fun ρ' hag=>?_⟩
      rw[if_neg (by omega),intC_is ha hs]
      rfl
 ·rename_i t size n cols hf
  obtain⟨hi,hh⟩:=zaf hh
  obtain⟨hz,hh⟩:=zaf hh
  obtain⟨col,hcol,hh⟩:=zaa hh
  obtain⟨col',hcol',hlt,hhK⟩:=zaa hh
  clear hh
  have hz:=zq hz
  subst hz
  rcases h.sat key _ hf with⟨h0,_⟩|⟨b,arr,h1,h2,h3,h4,h4',h5⟩
  ·omega
  have hfl:f<cols.length:=(List.getElem?_eq_some_iff.1 hcol).1
  have hin:e.v*cols.length+f<arr.size:=by
   have:(e.v+1)*cols.length<=size*cols.length:=Nat.mul_le_mul_right _ (by omega)
   rw[Nat.add_mul,Nat.one_mul]at this
   omega
  obtain⟨u,hu⟩:∃u,arr[e.v*cols.length+f]?=some u:=⟨_,Array.getElem?_eq_getElem hin⟩
  refine⟨⟨b,e.v*cols.length+f,none⟩,_,_,?_,hhK,zc6 h2 hu hv,?_⟩
  ·simp[zal,NV.isZero_v hi,h1]
  ·have hl0:Blk.live (.row t size n cols) 0:=⟨rfl,by omega⟩
   refine h.write hf rfl (i0:=0) hl0 h1 ?_ (h.fr.set (h.may key _ hf rfl 0 hl0 b 0 h1) _) (by simp) (fun x hx=>heap_setCell_other w _ x v hx) (fun i hi=>hi)
   refine .inr ⟨b,arr.setIfInBounds (e.v*cols.length+f) v,h1,heap_setCell_same w b _ arr t v h2,by simp[h3],h4,h4',?_⟩
   intro j hj g dcol d hd hget
   rw[List.length_set]
   rw[List.getElem?_set]at hd
   by_cases hg:f=g
   ·subst hg
    simp only[hfl,if_true,z0]at hd
    subst hd
    obtain⟨s1,s2⟩:=Col.get_set hcol' (fun _=>rfl) 0 j (fun _=>rfl) d hget
    by_cases hje:j=e.v
    ·subst hje
     exact⟨v,by simp[hin],fun ρ' ha=>(s1 ⟨rfl,rfl⟩ ρ').trans (hc ρ' ha)⟩
    ·obtain⟨x,hx,hs⟩:=h5 j hj f col d hcol (s2 fun h=>hje h.2)
     refine⟨x,?_,hs⟩
     rw[Array.getElem?_setIfInBounds_ne (fun hh=>hje ?_)];exact hx
     have:j*cols.length=e.v*cols.length:=by omega
     exact Nat.eq_of_mul_eq_mul_right (by omega) this
   ·rw[if_neg hg]at hd
    obtain⟨x,hx,hs⟩:=h5 j hj g dcol d hd hget
    refine⟨x,?_,hs⟩
    rw[Array.getElem?_setIfInBounds_ne (fun hh=>hg ?_)];exact hx
    have hgl:g<cols.length:=(List.getElem?_eq_some_iff.1 hd).1
    have:=congrArg (· % cols.length) hh
    simpa [Nat.mul_add_mod_of_lt,hfl,hgl,Nat.mul_comm,Nat.mod_eq_of_lt]using this
 ·rename_i rw t cap len cols hf
  obtain⟨hz,hh⟩:=zaf hh
  simp only[zx]at hz
  obtain⟨hrw,hz⟩:=hz
  subst hrw
  obtain⟨col,hcol,hh⟩:=zaa hh
  obtain⟨col',hcol',hlt,hhK⟩:=zaa hh
  clear hh
  have hz:=zq hz
  subst hz
  obtain⟨h1,h2,h3⟩:=h.sat key _ hf
  have hcap:0<cap i.v:=by have:=(h1 i.v).1;omega
  obtain⟨b,arr,g1,g2,g3,g4⟩:=h3 i.v hcap
  have hfl:f<cols.length:=(List.getElem?_eq_some_iff.1 hcol).1
  have hin:e.v*cols.length+f<arr.size:=by
   have h1':=(h1 i.v).1
   have:(e.v+1)*cols.length<=cap i.v*cols.length:=Nat.mul_le_mul_right _ (by omega)
   rw[Nat.add_mul,Nat.one_mul]at this
   omega
  obtain⟨u,hu⟩:∃u,arr[e.v*cols.length+f]?=some u:=⟨_,Array.getElem?_eq_getElem hin⟩
  refine⟨⟨b,e.v*cols.length+f,none⟩,_,_,?_,hhK,zc6 g2 hu hv,?_⟩
  ·simp[zal,g1]
  ·refine h.write hf rfl (i0:=i.v) hcap g1 ?_ (h.fr.set (h.may key _ hf rfl i.v hcap b 0 g1) _) (by simp) (fun x hx=>heap_setCell_other w _ x v hx) (fun i hi=>hi)
   refine⟨h1,h2,fun i' hi'=>?_⟩
   by_cases hii:i'=i.v
   ·subst hii
    refine⟨b,arr.setIfInBounds (e.v*cols.length+f) v,g1,heap_setCell_same w b _ arr t v g2,by simp[g3],?_⟩
    intro j hj g dcol d hd hget
    rw[List.length_set]
    rw[List.getElem?_set]at hd
    by_cases hg:f=g
    ·subst hg
     simp only[hfl,if_true,z0]at hd
     subst hd
     obtain⟨s1,s2⟩:=Col.get_set hcol' (fun h=>by cases h) i.v j (fun h=>by cases h) d hget
     by_cases hje:j=e.v
     ·subst hje
      exact⟨v,by simp[hin],fun ρ' ha=>(s1 ⟨rfl,rfl⟩ ρ').trans (hc ρ' ha)⟩
     ·obtain⟨x,hx,hs⟩:=g4 j hj f col d hcol (s2 fun h=>hje h.2)
      refine⟨x,?_,hs⟩
      rw[Array.getElem?_setIfInBounds_ne (fun hh=>hje ?_)];exact hx
      have:j*cols.length=e.v*cols.length:=by omega
      exact Nat.eq_of_mul_eq_mul_right (by omega) this
    ·rw[if_neg hg]at hd
     obtain⟨x,hx,hs⟩:=g4 j hj g dcol d hd hget
     refine⟨x,?_,hs⟩
     rw[Array.getElem?_setIfInBounds_ne (fun hh=>hg ?_)];exact hx
     have hgl:g<cols.length:=(List.getElem?_eq_some_iff.1 hd).1
     have:=congrArg (· % cols.length) hh
     simpa [Nat.mul_add_mod_of_lt,hfl,hgl,Nat.mul_comm,Nat.mod_eq_of_lt]using this
   ·obtain⟨b',arr',k1,k2,k3,k4⟩:=h3 i' hi'
    have hbb:b'≠b:=h2 i' i.v hi' hcap hii b' 0 b 0 k1 g1
    refine⟨b',arr',k1,by rw[heap_setCell_other w _ b' v hbb];exact k2,by simpa using k3,?_⟩
    intro j hj g dcol d hd hget
    rw[List.length_set]
    rw[List.getElem?_set]at hd
    by_cases hg:f=g
    ·subst hg
     simp only[hfl,if_true,z0]at hd
     subst hd
     obtain⟨_,s2⟩:=Col.get_set hcol' (fun h=>by cases h) i' j (fun h=>by cases h) d hget
     exact k4 j hj f col d hcol (s2 fun h=>hii h.1)
    ·rw[if_neg hg]at hd
     exact k4 j hj g dcol d hd hget
 ·exact hh.elim
def setsAt(key:Nat)(i e:NV)(sz:Nat):HL->(f:Nat)->List SC->Out HL
 | H,_,[]=>.leaf H
 | H,f,c::l=>(setAt H key i e f sz c).bind fun H'=>setsAt key i e sz H' (f+1) l
theorem setsAt_ok{P:Program}{φ:Fr}{ρ:Rho}{key:Nat}{i e:NV}{sz f0:Nat}{a:Addr}(ha:zal ρ key i (e.v*sz+f0)=some a):∀(l:List SC) (vs:List Value) (j:Nat) (H:Hp) (w:World) {K:HL->Prop},
  HInv φ ρ H w->LIs H.sc ρ l vs->(setsAt key i e sz H.h (f0+j) l).holds K->∃h' w',K h'/\(storeCells a vs j).run P w=.ok () w'/\HInv φ ρ ⟨h',H.nxt,H.D⟩ w'
 | [],vs,j,H,w,K,h,hl,hh=>by
  have:vs=[]:=by have:=hl.len;simpa using List.eq_nil_of_length_eq_zero (by simpa using this)
  subst this
  exact⟨H.h,w,hh,by simp[storeCells],h⟩
 | c::l,vs,j,H,w,K,h,hl,hh=>by
  cases vs with
  | nil=>have:=hl.len;simp at this
  | cons v vs=>
   have hcv:CIs H.sc ρ c v:=fun ρ' ha=>by have:=hl ρ' ha;simp at this;exact this.1
   have hlv:LIs H.sc ρ l vs:=fun ρ' ha=>by have:=hl ρ' ha;simp at this;exact this.2
   simp only[setsAt,Out.holds_bind]at hh
   obtain⟨p,h1,w1,hp,hh,hrun,hinv⟩:=setAt_ok (P:=P) h hcv hh
   obtain⟨h2,w2,hK,hrun2,hinv2⟩:=setsAt_ok (P:=P) ha l vs (j+1) ⟨h1,H.nxt,H.D⟩ w1 hinv hlv hh
   refine⟨h2,w2,hK,?_,hinv2⟩
   have hpa:p=a.add j:=by
    have:=(zbp (b:=j) ha).1
    rw[show e.v*sz+(f0+j)=e.v*sz+f0+j by omega,this]at hp
    cases hp;rfl
   subst hpa
   simp[storeCells,hrun,hrun2]
def SV.cells:SV->Option (List SC)
 | .c (.val _)=>none
 | .c x=>some [x]
 | .a l=>some l
 | .t _=>none
theorem SV.cells_is{n:Nat->Prop}{ρ:Rho}{x:SV}{l:List SC}{v:Value}(hx:SIs n ρ x v)(hl:x.cells=some l):∃vs,v.cells=vs.toArray/\LIs n ρ l vs:=by
 cases x with
 | c x=>
  have:(v.cells=[v].toArray)/\l=[x]:=by
   have hv:=hx.eq
   cases x<;>simp[SV.cells]at hl<;>subst hl<;>refine⟨?_,rfl⟩<;>rw[hv]<;>rfl
  obtain⟨h1,rfl⟩:=this
  exact⟨[v],h1,.cons (.of_s hx) (.nil _ _)⟩
 | a l'=>
  simp[SV.cells]at hl;subst hl
  refine⟨l'.map (SC.den ρ),by rw[hx.eq];rfl,fun ρ' ha=>?_⟩
  have:=(hx ρ' ha).trans hx.eq
  simpa [SV.den]using this
 | t l'=>simp[SV.cells]at hl
def storeT(P:Program)(H:HL)(t:TypeId):SV->SV->Out HL
 | .c (.ptr key i e f sz),x=>opt x.cells (fun l=>opt (zd5 P t) (fun n=>chk (zu l.length n) (chk (Nat.ble 1 n) (setsAt key i e sz H f l) 40) 41) 42) 43
 | _,_=>.bad 44
theorem storeVar_ok{P:Program}{φ:Fr}{ρ:Rho}{H:Hp}{w:World}{t:TypeId}{x y:SV}{v u:Value}{K:HL->Prop}(h:HInv φ ρ H w)(hx:SIs H.sc ρ x v)(hy:SIs H.sc ρ y u)
  (hh:(storeT P H.h t x y).holds K):∃a h' w',v=.pointer (some a)/\K h'/\(storeVar t a u).run P w=.ok () w'/\HInv φ ρ ⟨h',H.nxt,H.D⟩ w':=by
 unfold storeT at hh
 split at hh
 ·rename_i key i e f sz
  obtain⟨l,hl,hh⟩:=zaa hh
  obtain⟨n,hn,hh⟩:=zaa hh
  obtain⟨hlen,hh⟩:=zaf hh
  obtain⟨h1,hh⟩:=zaf hh
  have hlen:=zq hlen
  have h1:=zb h1
  obtain⟨vs,hvs,hls⟩:=SV.cells_is hy hl
  have hv:v=.pointer (zal ρ key i (e.v*sz+f)):=hx.eq
  -- the first cell tells the address
  obtain⟨a,ha⟩:∃a,zal ρ key i (e.v*sz+f)=some a:=by
   cases l with
   | nil=>simp at hlen;omega
   | cons c l=>
    simp only[setsAt,Out.holds_bind]at hh
    have hcv:∃x,CIs H.sc ρ c x:=by obtain⟨x,_,hx⟩:=hls.get (k:=0) (c:=c) rfl;exact⟨x,hx⟩
    obtain⟨x,hx⟩:=hcv
    obtain⟨p,_,_,hp,_⟩:=setAt_ok (P:=P) h hx hh
    exact⟨p,hp⟩
  obtain⟨h',w',hK,hrun,hinv⟩:=setsAt_ok (P:=P) ha l vs 0 H w h hls (by simpa using hh)
  refine⟨a,h',w',by rw[hv,ha],hK,?_,hinv⟩
  have hsz:u.cells.size=n:=by rw[hvs,List.size_toArray,hls.len,hlen]
  simp[storeVar,zan hn,hsz]
  rw[hvs];exact hrun
 ·exact hh.elim
def newT(H:Hp)(t:TypeId)(l:List SC):Hp:=⟨(H.nxt,.own t l.length (l.map some))::H.h,H.nxt+1,H.D⟩
theorem new_ok{φ:Fr}{ρ:Rho}{H:Hp}{w:World}{t:TypeId}{l:List SC}{vs:List Value}(h:HInv φ ρ H w)(hl:LIs H.sc ρ l vs):
  HInv φ (ρ.set H.nxt w.heap.size) (newT H t l) (w.alloc (.cells vs.toArray t)):=by
 refine h.alloc t vs.toArray _ ?_
 refine⟨w.heap.size,vs.toArray,Rho.set_at _ _ _,heap_alloc_new _ _,by simp[hl.len],by simp,?_⟩
 intro i c hc
 simp only[List.getElem?_map]at hc
 cases hi:l[i]? with
 | none=>simp[hi]at hc
 | some d=>
  simp[hi]at hc;subst hc
  obtain⟨v,hv,hs⟩:=hl.get hi
  exact⟨v,by simpa using hv,hs.ext (ρ.set_agree (fun _ hj=>hj.1) _) (fun k hk=>⟨Nat.lt_succ_of_lt hk.1,hk.2⟩)⟩
def ze7(φ:Fr)(ρ:Rho)(H:Hp)(K:SV×Hp->Prop)(r:Result Value):Prop:=
 ∃v w' ρ' sv H',r=.ok v w'/\K (sv,H')/\zat H.sc ρ ρ'/\H.le H'/\HInv φ ρ' H' w'/\SIs H'.sc ρ' sv v
def zbo(ρ:Rho)(H:Hp)(K:SV->Prop)(w:World)(r:Result Value):Prop:=∃v sv,r=.ok v w/\K sv/\SIs H.sc ρ sv v
theorem ze7.pure{φ:Fr}{ρ:Rho}{H:Hp}{K:SV×Hp->Prop}{w:World}{r:Result Value}(h:HInv φ ρ H w)(hp:zbo ρ H (fun sv=>K (sv,H)) w r):ze7 φ ρ H K r:=
 let ⟨v,sv,h1,h2,h3⟩:=hp
 ⟨v,w,ρ,sv,H,h1,h2,.refl _ _,.refl _,h,h3⟩
def ofCell:Value->Option SC
 | .bool b=>some (.kb b)
 | .int k n=>some (.ki k n)
 | .pointer none=>some .nilp
 | .slice none 0 0=>some .nils
 | .nilIface=>some .nilI
 | .nilFunc=>some .nilF
 | .string s=>some (.val (.string s))
 | _=>none
def zfy:List Value->Option (List SC)
 | []=>some []
 | v::l=>match ofCell v,zfy l with
  | some c,some cs=>some (c::cs)
  | _,_=>none
def ofVal:Value->Option SV
 | .agg cs=>(zfy cs.toList).map .a
 | v=>(ofCell v).map .c
theorem ofCell_is{n:Nat->Prop}{ρ:Rho}{v:Value}{c:SC}(h:ofCell v=some c):CIs n ρ c v:=by
 unfold ofCell at h
 intro ρ' _
 split at h<;>cases h<;>rfl
theorem ofCells_is{n:Nat->Prop}{ρ:Rho}:∀ {l:List Value} {cs:List SC},zfy l=some cs->LIs n ρ cs l
 | [],cs,h=>by simp[zfy]at h;subst h;exact .nil _ _
 | v::l,cs,h=>by
  simp only[zfy]at h
  split at h
  ·rename_i c cs' h1 h2
   cases h
   exact .cons (ofCell_is h1) (ofCells_is h2)
  ·cases h
theorem ofVal_is{n:Nat->Prop}{ρ:Rho}{v:Value}{sv:SV}(h:ofVal v=some sv):SIs n ρ sv v:=by
 unfold ofVal at h
 split at h
 ·rename_i cs
  cases hc:zfy cs.toList with
  | none=>simp[hc]at h
  | some l=>
   simp[hc]at h;subst h
   have:=SIs.agg (n:=n) (ρ:=ρ) (ofCells_is (n:=n) (ρ:=ρ) hc)
   simpa using this
 ·cases hc:ofCell v with
  | none=>rw[hc]at h;cases h
  | some c=>rw[hc]at h;cases h;exact .of_c (ofCell_is hc)
def zeroT(P:Program)(t:TypeId):Option SV:=((infF P t).bind (·.zero)).bind ofVal
theorem zfh{P:Program}{t:TypeId}{sv:SV}(h:zeroT P t=some sv){n:Nat->Prop}{ρ:Rho}:∃i z,P.info? t=some i/\i.zero=some z/\SIs n ρ sv z:=by
 unfold zeroT at h
 try simp only[zaq,za2,zbm,za3]at h
 cases hi:P.info? t with
 | none=>simp[hi]at h
 | some i=>
  cases hz:i.zero with
  | none=>simp[hi,hz]at h
  | some z=>simp[hi,hz]at h;exact⟨i,z,rfl,hz,ofVal_is h⟩
theorem zbg{P:Program}{t:TypeId}{i:TypeInfo}{z:Value}(hi:P.info? t=some i)(hz:i.zero=some z)(w:World):(zeroValue t).run P w=.ok z w:=by
 simp[zeroValue,typeInfo,hi,hz]
def mkI(kn:Bool)(k:IntKind)(n:Int):SV:=.c (match kn with|true=>.ki k n|false=>.iv k n)
def mkB(kn:Bool)(b:Bool):SV:=.c (match kn with|true=>.kb b|false=>.bv b)
theorem zc5(n:Nat->Prop)(ρ:Rho)(kn:Bool)(k:IntKind)(x:Int):SIs n ρ (mkI kn k x) (.int k x):=fun ρ' _=>by cases kn<;>rfl
theorem zdm(n:Nat->Prop)(ρ:Rho)(kn:Bool)(x:Bool):SIs n ρ (mkB kn x) (.bool x):=fun ρ' _=>by cases kn<;>rfl
def asI:SV->Option (Bool×IntKind×Int)
 | .c (.ki k n)=>some (true,k,n)
 | .c (.iv k n)=>some (false,k,n)
 | _=>none
def asB:SV->Option (Bool×Bool)
 | .c (.kb b)=>some (true,b)
 | .c (.bv b)=>some (false,b)
 | _=>none
theorem zby{n:Nat->Prop}{ρ:Rho}{sv:SV}{v:Value}{x:Bool×IntKind×Int}(h:asI sv=some x)(hs:SIs n ρ sv v):v=.int x.2.1 x.2.2:=by
 unfold asI at h
 split at h<;>cases h<;>exact hs.eq
theorem asB_is{n:Nat->Prop}{ρ:Rho}{sv:SV}{v:Value}{x:Bool×Bool}(h:asB sv=some x)(hs:SIs n ρ sv v):v=.bool x.2:=by
 unfold asB at h
 split at h<;>cases h<;>exact hs.eq
def binI(op:BinOp)(kn:Bool)(k:IntKind)(a:Int)(k':IntKind)(b:Int):Out SV:=
 match op with
 | .shl=>.need (0<=b) (.leaf (mkI kn k (k.wrap (a*2 ^ (min b.toNat k.bits)))))
 | .shr=>.need (0<=b) (.leaf (mkI kn k (a.fdiv (2 ^ (min b.toNat k.bits)))))
 | .add=>chk (zak k k') (.leaf (mkI kn k (k.wrap (a+b)))) 50
 | .sub=>chk (zak k k') (.leaf (mkI kn k (k.wrap (a-b)))) 50
 | .mul=>chk (zak k k') (.leaf (mkI kn k (k.wrap (a*b)))) 50
 | .quo=>chk (zak k k') (.need (b≠0) (.leaf (mkI kn k (k.wrap (a.tdiv b))))) 50
 | .rem=>chk (zak k k') (.need (b≠0) (.leaf (mkI kn k (a.tmod b)))) 50
 | .and=>chk (zak k k') (.leaf (mkI kn k (bits .and k a b))) 50
 | .or=>chk (zak k k') (.leaf (mkI kn k (bits .or k a b))) 50
 | .xor=>chk (zak k k') (.leaf (mkI kn k (bits .xor k a b))) 50
 | .andNot=>chk (zak k k') (.leaf (mkI kn k (bits .andNot k a b))) 50
 | .eql=>chk (zak k k') (.leaf (mkB kn (a == b))) 50
 | .neq=>chk (zak k k') (.leaf (mkB kn (a != b))) 50
 | .lss=>chk (zak k k') (.leaf (mkB kn (decide (a<b)))) 50
 | .leq=>chk (zak k k') (.leaf (mkB kn (decide (a<=b)))) 50
 | .gtr=>chk (zak k k') (.leaf (mkB kn (decide (a>b)))) 50
 | .geq=>chk (zak k k') (.leaf (mkB kn (decide (a >= b)))) 50
theorem binI_ok{P:Program}{ρ:Rho}{H:Hp}{w:World}{op:BinOp}{kn:Bool}{k k':IntKind}{a b:Int}{t:TypeId}{K:SV->Prop}(hh:(binI op kn k a k' b).holds K):
  zbo ρ H K w ((binOp op t (.int k a) (.int k' b)).run P w):=by
 cases op<;>simp only[binI]at hh
 case shl=>
  obtain⟨h0,hh⟩:=hh
  refine⟨_,_,?_,hh,zc5 _ _ _ _ _⟩
  simp[binOp_shl,Op.shift,Int.not_lt.2 h0]
 case shr=>
  obtain⟨h0,hh⟩:=hh
  refine⟨_,_,?_,hh,zc5 _ _ _ _ _⟩
  simp[binOp_shr,Op.shift,Int.not_lt.2 h0]
 case quo=>
  obtain⟨hk,hb,hK⟩:=zaf hh
  have:=zap hk;subst this
  refine⟨_,_,?_,hK,zc5 _ _ _ _ _⟩
  simp[binOp_quo,Op.intDiv,hb]
 case rem=>
  obtain⟨hk,hb,hK⟩:=zaf hh
  have:=zap hk;subst this
  refine⟨_,_,?_,hK,zc5 _ _ _ _ _⟩
  simp[binOp_rem,Op.intDiv,hb]
 all_goals
  obtain⟨hk,hK⟩:=zaf hh
  have:=zap hk;subst this
  first
  | (refine⟨_,_,?_,hK,zc5 _ _ _ _ _⟩;simp[binOp,Op.intArith,Op.intBits,bits];done)
  | (refine⟨_,_,?_,hK,zdm _ _ _ _⟩;simp[binOp,Op.intCmp];done)
def zdr(H:HL)(key:Nat)(i e:NV):Out Unit:=
 match find key H with
 | some (.own ..)=>chk i.isZero (.leaf ()) 60
 | some (.row _ _ n _)=>chk i.isZero (.need (e.v<n) (.leaf ())) 60
 | some (.view m len _)=>.need (i.v<m/\e.v<len i.v) (.leaf ())
 | some (.fam _ _ _ len _)=>.need (e.v<len i.v) (.leaf ())
 | none=>.bad 61
theorem zbs{φ:Fr}{ρ:Rho}{H:Hp}{w:World}{key:Nat}{i e:NV}{K:Prop}(h:HInv φ ρ H w)(hh:(zdr H.h key i e).holds fun _=>K):K/\∃p,ρ key i.v=some p:=by
 unfold zdr at hh
 split at hh
 ·rename_i t size cs hf
  obtain⟨hi,hK⟩:=zaf hh
  obtain⟨b,arr,h1,_⟩:=h.sat key _ hf
  exact⟨hK,_,by rw[NV.isZero_v hi];exact h1⟩
 ·rename_i t size n cols hf
  obtain⟨hi,hlt,hK⟩:=zaf hh
  rcases h.sat key _ hf with⟨h0,_⟩|⟨b,arr,h1,_⟩
  ·omega
  ·exact⟨hK,_,by rw[NV.isZero_v hi];exact h1⟩
 ·rename_i m len cols hf
  obtain⟨⟨h1,h2⟩,hK⟩:=hh
  obtain⟨b,o,h3,_⟩:=h.sat key _ hf i.v h1 e.v h2
  exact⟨hK,_,h3⟩
 ·rename_i rw t cap len cols hf
  obtain⟨h1,hK⟩:=hh
  obtain⟨g1,_,g3⟩:=h.sat key _ hf
  obtain⟨b,arr,h3,_⟩:=g3 i.v (by have:=(g1 i.v).1;omega)
  exact⟨hK,_,h3⟩
 ·exact hh.elim
theorem zb5{ρ:Rho}{key:Nat}{i:NV}{off:Nat}{p:Nat×Off}(h:ρ key i.v=some p):zal ρ key i off=some ((adr p).add off):=by simp[zal,h]
def eqCell:SC->SC->Option (Bool×Bool)
 | .ki k a,.ki k' b=>bif zak k k' then some (true,a == b) else none
 | .ki k a,.iv k' b=>bif zak k k' then some (false,a == b) else none
 | .iv k a,.ki k' b=>bif zak k k' then some (false,a == b) else none
 | .iv k a,.iv k' b=>bif zak k k' then some (false,a == b) else none
 | .kb a,.kb b=>some (true,a == b)
 | .kb a,.bv b=>some (false,a == b)
 | .bv a,.kb b=>some (false,a == b)
 | .bv a,.bv b=>some (false,a == b)
 | _,_=>none
def zb6(P:Program)(t:TypeId):SC->Bool
 | .ki ..|.iv ..=>match undF P t with|some (.int _)=>true|_=>false
 | .kb _|.bv _=>match undF P t with|some .bool=>true|_=>false
 | _=>false
def zcd(P:Program):(off:Nat)->List Field->List SC->Bool
 | _,[],[]=>true
 | off,f::fs,c::cs=>zu f.offset off&&(f.name != "_")&&zb6 P f.type c&&zcd P (off+1) fs cs
 | _,_,_=>false
def zbv:List SC->List SC->Option (Bool×Bool)
 | [],[]=>some (true,true)
 | a::l,b::m=>match eqCell a b,zbv l m with
  | some (k,x),some (k',y)=>some (k&&k',x&&y)
  | _,_=>none
 | _,_=>none
theorem eqCell_is{n:Nat->Prop}{ρ:Rho}{a b:SC}{v u:Value}{x:Bool×Bool}(h:eqCell a b=some x)(ha:CIs n ρ a v)(hb:CIs n ρ b u):
    (∃k p q,v=.int k p/\u=.int k q/\x.2=(p == q))\/(∃p q,v=.bool p/\u=.bool q/\x.2=(p == q)):=by
  have ea:=ha.eq;have eb:=hb.eq
  cases a<;>cases b<;>simp only[eqCell]at h<;>(try cases h)
  all_goals first
    | (rename_i k p k' q
       by_cases hk:zak k k'=true
       . have:=zap hk;subst this
         simp only[hk,cond_true,z0]at h
         subst h
         exact .inl ⟨k,p,q,ea,eb,rfl⟩
       . simp[hk]at h)
    | exact .inr ⟨_,_,ea,eb,rfl⟩
theorem zf6{P:Program}{n:Nat->Prop}{ρ:Rho}(w:World)(d:Nat):∀(fs:List Field) (off:Nat) (l m:List SC) (vs us pre pre':List Value) (x:Bool×Bool),zcd P off fs l=true->
    LIs n ρ l vs->LIs n ρ m us->zbv l m=some x->pre.length=off->pre'.length=off->
    (Op.eqFields (d+1) (pre++vs).toArray (pre'++us).toArray fs).run P w=.ok x.2 w
  | [],off,l,m,vs,us,pre,pre',x,hp,hl,hm,hx,_,_=>by
    cases l with
    | cons c l=>simp[zcd]at hp
    | nil=>cases m with
      | cons c m=>simp[zbv]at hx
      | nil=>simp[zbv]at hx;subst hx;simp[Op.eqFields]
  | f::fs,off,l,m,vs,us,pre,pre',x,hp,hl,hm,hx,h1,h2=>by
    cases l with
    | nil=>simp[zcd]at hp
    | cons c l=>cases m with
      | nil=>simp[zbv]at hx
      | cons c' m=>
        have e1:=hl.len;have e2:=hm.len
        cases vs with
        | nil=>simp at e1
        | cons v vs=>cases us with
          | nil=>simp at e2
          | cons u us=>
            have hcv:CIs n ρ c v:=fun ρ' ha=>by have:=hl ρ' ha;simp at this;exact this.1
            have hlv:LIs n ρ l vs:=fun ρ' ha=>by have:=hl ρ' ha;simp at this;exact this.2
            have hcu:CIs n ρ c' u:=fun ρ' ha=>by have:=hm ρ' ha;simp at this;exact this.1
            have hlu:LIs n ρ m us:=fun ρ' ha=>by have:=hm ρ' ha;simp at this;exact this.2
            simp only[zcd,zx]at hp
            obtain⟨⟨⟨hoff,hname⟩,hty⟩,hp⟩:=hp
            have hoff:=zq hoff
            have hname:f.name≠"_":=by simpa using hname
            simp only[zbv]at hx
            cases hc:eqCell c c' with
            | none=>simp[hc]at hx
            | some y=>
              cases hr:zbv l m with
              | none=>simp[hc,hr]at hx
              | some z=>
                simp[hc,hr]at hx
                subst hx
                have ih:=zf6 w d fs (off+1) l m vs us (pre++[v]) (pre'++[u]) z hp hlv hlu hr (by simp[h1]) (by simp[h2])
                simp only[List.append_assoc,List.cons_append,List.nil_append]at ih
                have g1:(pre++v::vs).toArray[f.offset]?=some v:=by simp[hoff,<-h1]
                have g2:(pre'++u::us).toArray[f.offset]?=some u:=by simp[hoff,<-h2]
                have hty':(∃k,P.underlying f.type=some (.int k))\/P.underlying f.type=some .bool:=by
                  cases c<;>simp only[zb6,zaq]at hty<;>(try cases hty)<;>split at hty<;>first|exact .inl ⟨_,‹_›⟩|exact .inr ‹_›|cases hty
                have hagg:(isAgg f.type).run P w=.ok false w:=by
                  refine zbx ?_ w
                  rcases hty' with⟨k,hu⟩|hu<;>simp[isAggT,zaq,hu]
                have heq:(Op.equalIn (d+1) f.type v u).run P w=.ok y.2 w:=by
                  have ec:=hcv.eq
                  rcases eqCell_is hc hcv hcu with⟨k,p,q,rfl,rfl,he⟩|⟨p,q,rfl,rfl,he⟩
                  . cases c<;>simp only[SC.den]at ec<;>(try cases ec)<;>simp only[zb6,zaq]at hty
                    all_goals first
                      | (cases hty;done)
                      | (split at hty
                         . rename_i k' hu;rw[run_equalIn_int w d f.type k k' p q hu,he]
                         . cases hty)
                  . cases c<;>simp only[SC.den]at ec<;>(try cases ec)<;>simp only[zb6,zaq]at hty
                    all_goals first
                      | (cases hty;done)
                      | (split at hty
                         . rename_i hu;rw[run_equalIn_bool w d f.type p q hu,he]
                         . cases hty)
                have pa:(part f.type (pre++v::vs).toArray f.offset).run P w=.ok v w:=by simp[part,hagg,g1]
                have pb:(part f.type (pre'++u::us).toArray f.offset).run P w=.ok u w:=by simp[part,hagg,g2]
                simp only[Op.eqFields,ne_eq,hname,not_false_eq_true,if_true,Sem.run_bind,pa,pb,Result.andThen_ok,heq,Sem.run_ite,ih]
                cases y.2<;>simp
def zfd(P:Program)(t:TypeId):Bool:=match undF P t with|some (.pointer _)=>true|_=>false
def isIfcT(P:Program)(t:TypeId):Bool:=match undF P t with|some (.interface _)=>true|_=>false
def isFnT(P:Program)(t:TypeId):Bool:=match undF P t with|some (.func ..)=>true|_=>false
def zef(P:Program)(t:TypeId):Bool:=match undF P t with|some (.slice _)=>true|_=>false
def zfn(P:Program)(t:TypeId):Bool:=match undF P t with|some .bool=>true|_=>false
def isStrT(P:Program)(t:TypeId):Bool:=match undF P t with|some .string=>true|_=>false
theorem ze0{P:Program}{t:TypeId}(h:zfd P t=true):∃e,P.underlying t=some (.pointer e):=by unfold zfd at h;simp only[zaq]at h;split at h<;>first|exact⟨_,‹_›⟩|cases h
theorem isIfcT_h{P:Program}{t:TypeId}(h:isIfcT P t=true):∃e,P.underlying t=some (.interface e):=by unfold isIfcT at h;simp only[zaq]at h;split at h<;>first|exact⟨_,‹_›⟩|cases h
theorem isFnT_h{P:Program}{t:TypeId}(h:isFnT P t=true):∃a b c,P.underlying t=some (.func a b c):=by unfold isFnT at h;simp only[zaq]at h;split at h<;>first|exact⟨_,_,_,‹_›⟩|cases h
theorem zc4{P:Program}{t:TypeId}(h:zef P t=true):∃e,P.underlying t=some (.slice e):=by unfold zef at h;simp only[zaq]at h;split at h<;>first|exact⟨_,‹_›⟩|cases h
theorem isBoolT_h{P:Program}{t:TypeId}(h:zfn P t=true):P.underlying t=some .bool:=by unfold zfn at h;simp only[zaq]at h;split at h<;>first|assumption|cases h
theorem zgn{P:Program}{t:TypeId}(h:isStrT P t=true):P.underlying t=some .string:=by unfold isStrT at h;simp only[zaq]at h;split at h<;>first|assumption|cases h
def eqT(P:Program)(H:HL)(cst:Bool)(t:TypeId):SV->SV->Out (Bool×Bool)
 | .c (.kb a),.c (.kb b)=>chk (zfn P t) (.leaf (true,a == b)) 70
 | .c (.kb a),.c (.bv b)=>chk (zfn P t) (.leaf (false,a == b)) 70
 | .c (.bv a),.c (.kb b)=>chk (zfn P t) (.leaf (false,a == b)) 70
 | .c (.bv a),.c (.bv b)=>chk (zfn P t) (.leaf (false,a == b)) 70
 | .c .nilp,.c .nilp=>chk (zfd P t) (.leaf (true,true)) 71
 | .c .nilp,.c (.ptr key i e _ _)=>chk (zfd P t) ((zdr H key i e).bind fun _=>.leaf (true,false)) 71
 | .c (.ptr key i e _ _),.c .nilp=>chk (zfd P t) ((zdr H key i e).bind fun _=>.leaf (true,false)) 71
 | .c .nilI,.c .nilI=>chk (isIfcT P t&&cst) (.leaf (true,true)) 72
 | .c .nilI,.c (.ifc ..)=>chk (isIfcT P t) (.leaf (true,false)) 72
 | .c (.ifc ..),.c .nilI=>chk (isIfcT P t) (.leaf (true,false)) 72
 | .c .nilF,.c .nilF=>chk (isFnT P t) (.leaf (true,true)) 73
 | .c .nilF,.c (.fn ..)=>chk (isFnT P t) (.leaf (true,false)) 73
 | .c (.fn ..),.c .nilF=>chk (isFnT P t) (.leaf (true,false)) 73
 | .c .nils,.c .nils=>chk (zef P t) (.leaf (true,true)) 74
 | .c .nils,.c (.slc key i e _ _ _)=>chk (zef P t) ((zdr H key i e).bind fun _=>.leaf (true,false)) 74
 | .c (.slc key i e _ _ _),.c .nils=>chk (zef P t) ((zdr H key i e).bind fun _=>.leaf (true,false)) 74
 | .a l,.a m=>match undF P t with
  | some (.struct fs)=>chk (!(P.stoodInHeld t)&&!(P.eqGuardType P.depth t)&&zcd P 0 fs.toList l) (opt (zbv l m) (fun x=>.leaf x) 75) 76
  | _=>.bad 77
 | _,_=>.bad 78
theorem zb4{P:Program}{w:World}{t:TypeId}{v u:Value}{b:Bool}(h:∀d:Nat,(Op.equalIn (d+1) t v u).run P w=.ok b w)
  (h1:binOp .eql t v u=(do pure (.bool (<- Op.equal t v u)))) (h2:binOp .neq t v u=(do pure (.bool (!(<- Op.equal t v u))))):
  (binOp .eql t v u).run P w=.ok (.bool b) w/\(binOp .neq t v u).run P w=.ok (.bool (!b)) w:=by
 have h':(Op.equal t v u).run P w=.ok b w:=h 9999
 rw[h1,h2]
 constructor<;>simp[h']
theorem eqT_ok{P:Program}{φ:Fr}{ρ:Rho}{H:Hp}{w:World}{cst:Bool}{t:TypeId}{x y:SV}{v u:Value}{K:Bool×Bool->Prop}(h:HInv φ ρ H w)(hx:SIs H.sc ρ x v)(hy:SIs H.sc ρ y u)
  (hh:(eqT P H.h cst t x y).holds K):
  ∃kn b,K (kn,b)/\(∀op a c,(cst=true->(∃z,a=.const z)\/∃z,c=.const z)->(eqGuard op t a c v u).run P w=.ok () w)/\
   (binOp .eql t v u).run P w=.ok (.bool b) w/\(binOp .neq t v u).run P w=.ok (.bool (!b)) w:=by
 have ev:=hx.eq;have eu:=hy.eq
 unfold eqT at hh
 try simp only[zaq,za2,zbm,za3]at hh
 split at hh
 all_goals try (simp only[SV.den,SC.den]at ev eu)
 case h_1|h_2|h_3|h_4=>
  obtain⟨ht,hK⟩:=zaf hh
  subst ev eu
  exact⟨_,_,hK,fun op a c _=>by simp[eqGuard_at_bool],run_eql_bool w t _ _ (isBoolT_h ht),run_neq_bool w t _ _ (isBoolT_h ht)⟩
 case h_5=>
  obtain⟨ht,hK⟩:=zaf hh
  obtain⟨e,he⟩:=ze0 ht
  subst ev eu
  refine⟨_,_,hK,fun op a c _=>by simp[eqGuard_at_pointer],?_⟩
  exact zb4 (by intro d;simp[Op.equalIn,run_underlying he]) rfl rfl
 case h_6=>
  obtain⟨ht,hK⟩:=zaf hh
  rw[Out.holds_bind]at hK
  obtain⟨hK,p,hp⟩:=zbs h hK
  obtain⟨e,he⟩:=ze0 ht
  rw[zb5 hp]at eu
  subst ev eu
  refine⟨_,_,hK,fun op a c _=>by simp[eqGuard_at_pointer],?_⟩
  exact zb4 (by intro d;simp[Op.equalIn,run_underlying he]) rfl rfl
 case h_7=>
  obtain⟨ht,hK⟩:=zaf hh
  rw[Out.holds_bind]at hK
  obtain⟨hK,p,hp⟩:=zbs h hK
  obtain⟨e,he⟩:=ze0 ht
  rw[zb5 hp]at ev
  subst ev eu
  refine⟨_,_,hK,fun op a c _=>by simp[eqGuard_at_pointer],?_⟩
  exact zb4 (by intro d;simp[Op.equalIn,run_underlying he]) rfl rfl
 case h_8=>
  obtain⟨ht,hK⟩:=zaf hh
  simp only[zx]at ht
  obtain⟨e,he⟩:=isIfcT_h ht.1
  subst ev eu
  refine⟨_,_,hK,fun op a c hc=>?_,?_⟩
  ·rcases hc ht.2 with⟨z,rfl⟩|⟨z,rfl⟩
   ·simp[eqGuard_nil_constL]
   ·simp[eqGuard_nil_constR]
  ·exact zb4 (by intro d;simp[Op.equalIn,run_underlying he]) rfl rfl
 case h_9|h_10=>
  obtain⟨ht,hK⟩:=zaf hh
  obtain⟨e,he⟩:=isIfcT_h ht
  subst ev eu
  refine⟨_,_,hK,fun op a c _=>by first|simp[eqGuard_nil_iface]|simp[eqGuard_at_iface],?_⟩
  exact zb4 (by intro d;simp[Op.equalIn,run_underlying he]) rfl rfl
 case h_11|h_12|h_13=>
  obtain⟨ht,hK⟩:=zaf hh
  obtain⟨e1,e2,e3,he⟩:=isFnT_h ht
  subst ev eu
  refine⟨_,_,hK,fun op a c _=>by first|simp[eqGuard_at_nilFunc]|simp[eqGuard_at_func],?_⟩
  exact zb4 (by intro d;simp[Op.equalIn,run_underlying he]) rfl rfl
 case h_14=>
  obtain⟨ht,hK⟩:=zaf hh
  obtain⟨e,he⟩:=zc4 ht
  subst ev eu
  refine⟨_,_,hK,fun op a c _=>by simp[eqGuard_at_slice],?_⟩
  exact zb4 (by intro d;simp[Op.equalIn,run_underlying he]) rfl rfl
 case h_15=>
  obtain⟨ht,hK⟩:=zaf hh
  rw[Out.holds_bind]at hK
  obtain⟨hK,p,hp⟩:=zbs h hK
  obtain⟨e,he⟩:=zc4 ht
  rw[zb5 hp]at eu
  subst ev eu
  refine⟨_,_,hK,fun op a c _=>by simp[eqGuard_at_slice],?_⟩
  exact zb4 (by intro d;simp[Op.equalIn,run_underlying he]) rfl rfl
 case h_16=>
  obtain⟨ht,hK⟩:=zaf hh
  rw[Out.holds_bind]at hK
  obtain⟨hK,p,hp⟩:=zbs h hK
  obtain⟨e,he⟩:=zc4 ht
  rw[zb5 hp]at ev
  subst ev eu
  refine⟨_,_,hK,fun op a c _=>by simp[eqGuard_at_slice],?_⟩
  exact zb4 (by intro d;simp[Op.equalIn,run_underlying he]) rfl rfl
 case h_17=>
  rename_i l m
  split at hh
  ·rename_i fs hu
   obtain⟨ht,hh⟩:=zaf hh
   obtain⟨z,hz,hK⟩:=zaa hh
   simp only[zx,z7]at ht
   obtain⟨⟨h1,h2⟩,h3⟩:=ht
   have hfs:P.fieldsOf t=fs:=by simp[Program.fieldsOf,hu]
   have hu':P.underlying t=some (.struct (P.fieldsOf t)):=by rw[hfs];exact hu
   have hl:LIs H.sc ρ l (l.map (SC.den ρ)):=fun ρ' ha=>by
    have:=(hx ρ' ha).trans hx.eq;simpa [SV.den]using this
   have hm:LIs H.sc ρ m (m.map (SC.den ρ)):=fun ρ' ha=>by
    have:=(hy ρ' ha).trans hy.eq;simpa [SV.den]using this
   have hrun:(Op.equalIn 10000 t v u).run P w=.ok z.2 w:=by
    rw[ev,eu,run_equalIn_struct w 9999 t _ _ hu' h1,hfs]
    simpa using zf6 w 9998 fs.toList 0 l m _ _ [] [] z h3 hl hm hz rfl rfl
   refine⟨z.1,z.2,hK,fun op a c _=>?_,?_,?_⟩
   ·rw[ev,eu];exact run_eqGuard_agg w op t a c _ _ h2
   ·rw[ev,eu]at hrun ⊢;rw[run_eql_struct,hrun];rfl
   ·rw[ev,eu]at hrun ⊢;rw[run_neq_struct,hrun];rfl
  ·exact hh.elim
 case h_18=>exact hh.elim
def binT(P:Program)(H:HL)(cst:Bool)(op:BinOp)(t:TypeId)(x y:SV):Out SV:=
 match asI x,asI y with
 | some (k1,k,a),some (k2,k',b)=>binI op (k1&&k2) k a k' b
 | _,_=>match op with
  | .eql=>(eqT P H cst t x y).bind fun r=>.leaf (mkB r.1 r.2)
  | .neq=>(eqT P H cst t x y).bind fun r=>.leaf (mkB r.1 (!r.2))
  | _=>.bad 80
theorem binT_ok{P:Program}{φ:Fr}{ρ:Rho}{H:Hp}{w:World}{cst:Bool}{op:BinOp}{t:TypeId}{x y:SV}{v u:Value}{a c:Operand}{K:SV->Prop}(h:HInv φ ρ H w)(hx:SIs H.sc ρ x v)(hy:SIs H.sc ρ y u)
  (hc:cst=true->(∃z,a=.const z)\/∃z,c=.const z) (hh:(binT P H.h cst op t x y).holds K):
  zbo ρ H K w ((do eqGuard op t a c v u;binOp op t v u:Sem Value).run P w):=by
 unfold binT at hh
 split at hh
 ·rename_i k1 k p k2 k' q h1 h2
  have e1:=zby h1 hx;have e2:=zby h2 hy
  simp only at e1 e2
  subst e1 e2
  have:=binI_ok (P:=P) (ρ:=ρ) (H:=H) (w:=w) (t:=t) hh
  obtain⟨v,sv,h1,h2,h3⟩:=this
  exact⟨v,sv,by simp[eqGuard_at_int,h1],h2,h3⟩
 ·split at hh
  ·rw[Out.holds_bind]at hh
   obtain⟨kn,b,hK,h1,h2,_⟩:=eqT_ok (P:=P) h hx hy hh
   exact⟨.bool b,mkB kn b,by simp[h1 .eql a c hc,h2],hK,zdm _ _ _ _⟩
  ·rw[Out.holds_bind]at hh
   obtain⟨kn,b,hK,h1,_,h2⟩:=eqT_ok (P:=P) h hx hy hh
   exact⟨.bool (!b),mkB kn (!b),by simp[h1 .neq a c hc,h2],hK,zdm _ _ _ _⟩
  ·exact hh.elim
def unT(op:UnOp)(x:SV):Out SV:=
 match op with
 | .neg=>opt (asI x) fun r=>.leaf (mkI r.1 r.2.1 (r.2.1.wrap (0-r.2.2)))
 | .xor=>opt (asI x) fun r=>.leaf (mkI r.1 r.2.1 (bits .xor r.2.1 (if r.2.1.signed then -1 else r.2.1.max) r.2.2))
 | .not=>opt (asB x) fun r=>.leaf (mkB r.1 (!r.2))
 | .plus=>.bad 79
theorem unT_ok{P:Program}{ρ:Rho}{H:Hp}{w:World}{op:UnOp}{x:SV}{v:Value}{K:SV->Prop}(hx:SIs H.sc ρ x v)(hh:(unT op x).holds K):zbo ρ H K w ((Op.unary op v).run P w):=by
  cases op<;>simp only[unT]at hh
  case plus=>exact hh.elim
  all_goals
    obtain⟨r,hr,hK⟩:=zaa hh
    first
    | (have e:=zby hr hx
       subst e
       refine⟨_,_,?_,hK,zc5 _ _ _ _ _⟩
       simp[Op.unary,Op.intArith,Op.intBits,bits];done)
    | (have e:=asB_is hr hx
       subst e
       refine⟨_,_,?_,hK,zdm _ _ _ _⟩
       simp[Op.unary];done)
def convT(P:Program)(src dst:TypeId)(x:SV):Out SV:=
 opt (asI x) (fun r=>match undF P src,undF P dst with
  | some _,some (.int k)=>.leaf (mkI r.1 k (k.wrap r.2.2))
  | _,_=>.bad 81) 82
theorem convT_ok{P:Program}{ρ:Rho}{H:Hp}{w:World}{src dst:TypeId}{x:SV}{v:Value}{K:SV->Prop}(hx:SIs H.sc ρ x v)(hh:(convT P src dst x).holds K):zbo ρ H K w ((convert src dst v).run P w):=by
 obtain⟨r,hr,hK⟩:=zaa hh
 have e:=zby hr hx
 subst e
 clear hh
 simp only[zaq]at hK
 split at hK
 ·rename_i d k hs hd
  refine⟨_,_,?_,hK,zc5 _ _ _ _ _⟩
  simp[convert,run_underlying hs,run_underlying hd,Conv.intToInt]
 ·exact hK.elim
def needP{β:Type}(kn:Bool)(p:Prop) [Decidable p] (k:Out β):Out β:=match kn with
 | true=>chk (decide p) k 90
 | false=>.need p k
theorem zbf{β:Type}{kn:Bool}{p:Prop} [Decidable p] {k:Out β} {K:β->Prop} (h:(needP kn p k).holds K):p/\k.holds K:=by
 cases kn with
 | true=>obtain⟨h1,h2⟩:=zaf h;exact⟨of_decide_eq_true h1,h2⟩
 | false=>exact h
def NV.kn:NV->Bool
 | .k _=>true
 | .s _=>false
def mkN(kn:Bool)(n:Nat):NV:=match kn with|true=>.k n|false=>.s n
@[simp] theorem mkN_v (kn:Bool) (n:Nat):(mkN kn n).v=n:=by cases kn<;>rfl
def zcr(P:Program)(H:HL)(s:TypeId)(f:Nat):SV->Out SV
 | .c (.ptr key i e g sz)=>match undF P s with
  | some (.struct fs)=>opt (fs[f]?) (fun fd=>opt (zd5 P fd.type) (fun n=>chk (Nat.ble 1 n) ((zdr H key i e).bind fun _=>.leaf (.c (.ptr key i e (g+fd.offset) sz))) 91) 92) 93
  | _=>.bad 94
 | _=>.bad 95
theorem fieldAddrT_ok{P:Program}{φ:Fr}{ρ:Rho}{H:Hp}{w:World}{s:TypeId}{f:Nat}{x:SV}{v:Value}{K:SV->Prop}(h:HInv φ ρ H w)(hx:SIs H.sc ρ x v)(hh:(zcr P H.h s f x).holds K):
  zbo ρ H K w ((Instr.fieldAt s v f).run P w):=by
 unfold zcr at hh
 try simp only[zaq,za2,zbm,za3]at hh
 split at hh
 ·rename_i key i e g sz
  split at hh
  ·rename_i fs hu
   obtain⟨fd,hfd,hh⟩:=zaa hh
   obtain⟨n,hn,hh⟩:=zaa hh
   obtain⟨h1,hh⟩:=zaf hh
   have h1:=zb h1
   rw[Out.holds_bind]at hh
   obtain⟨hK,p,hp⟩:=zbs h hh
   have e0:=hx.eq
   simp only[SV.den,SC.den,zb5 hp]at e0
   refine⟨.pointer (some (((adr p).add (e.v*sz+g)).add fd.offset)),_,?_,hK,?_⟩
   ·rw[e0]
    have:¬n=0:=by omega
    simp[Instr.fieldAt,run_underlying hu,hfd,Instr.sureAddr,fieldPlace,zan hn,this]
   ·intro ρ' ha
    have e1:=hx ρ' ha
    rw[e0]at e1
    simp only[SV.den,SC.den,Value.pointer.injEq]at e1 ⊢
    have:=(zbp (b:=fd.offset) e1).1
    rw[Nat.add_assoc]at this
    exact this
  ·exact hh.elim
 ·exact hh.elim
def arrPtr(kn:Bool)(key:Nat)(i e:NV)(f sz x n:Nat):Option SC:=match kn with
 | true=>some (.ptr key i e (f+x*n) sz)
 | false=>match e with
  | .k 0=>some (.ptr key i (.s x) f n)
  | _=>none
theorem arrPtr_e{kn:Bool}{key:Nat}{i e:NV}{f sz x n:Nat}{c:SC}(h:arrPtr kn key i e f sz x n=some c):∃e' f' sz',c=.ptr key i e' f' sz'/\e'.v*sz'+f'=e.v*sz+(f+x*n):=by
 unfold arrPtr at h
 split at h
 ·cases h
  exact⟨_,_,_,rfl,rfl⟩
 ·split at h
  ·cases h
   exact⟨_,_,_,rfl,by simp[NV.v,Nat.add_comm]⟩
  ·cases h
def slcPtr(H:HL)(key:Nat)(i e:NV)(kn:Bool)(x sz:Nat):SC:=match kn,e with
 | false,.k (b+1)=>match find key H with
  | some (.own _ _ _)=>.ptr key i (.s x) ((b+1)*sz) sz
  | _=>.ptr key i ((NV.k (b+1)).add (mkN false x)) 0 sz
 | kn,e=>.ptr key i (e.add (mkN kn x)) 0 sz
theorem slcPtr_e{H:HL}{key:Nat}{i e:NV}{kn:Bool}{x sz:Nat}:∃e' f',slcPtr H key i e kn x sz=.ptr key i e' f' sz/\e'.v*sz+f'=(e.add (mkN kn x)).v*sz:=by
 unfold slcPtr
 split
 ·rename_i b
  split
  ·exact⟨_,_,rfl,by rw[NV.v_add,mkN_v,NV.v_k,NV.v_s,Nat.add_comm];exact(Nat.add_mul (b+1) x sz).symm⟩
  ·exact⟨_,_,rfl,Nat.add_zero _⟩
 ·exact⟨_,_,rfl,Nat.add_zero _⟩
def zfq(P:Program)(H:HL)(t:TypeId)(x ix:SV):Out SV:=
 match x with
 | .c (.slc key i e sz len cap)=>match undF P t with
  | some (.slice el)=>opt (asI ix) (fun r=>opt (zd5 P el) (fun n=>chk (zu n sz) (needP (r.1&&len.kn) (0<=r.2.2/\r.2.2<(len.v:Int))
    ((zdr H key i (e.add (mkN r.1 r.2.2.toNat))).bind fun _=>.leaf (.c (slcPtr H key i e r.1 r.2.2.toNat sz)))) 96) 97) 98
  | _=>.bad 99
 | .c (.ptr key i e f sz)=>match undF P t with
  | some (.array m el)=>opt (asI ix) (fun r=>opt (zd5 P el) (fun n=>opt (arrPtr r.1 key i e f sz r.2.2.toNat n) (fun c=>chk (Nat.ble 1 n) (needP r.1 (0<=r.2.2/\r.2.2<(m:Int))
    ((zdr H key i e).bind fun _=>.leaf (.c c))) 100) 100) 101) 102
  | _=>.bad 103
 | _=>.bad 104
theorem indexAddrT_ok{P:Program}{φ:Fr}{ρ:Rho}{H:Hp}{w:World}{t:TypeId}{x ix:SV}{v u:Value}{K:SV->Prop}(h:HInv φ ρ H w)(hx:SIs H.sc ρ x v)(hi:SIs H.sc ρ ix u)
  (hh:(zfq P H.h t x ix).holds K):zbo ρ H K w ((Instr.indexAt t v u).run P w):=by
 unfold zfq at hh
 try simp only[zaq,za2,zbm,za3]at hh
 split at hh
 ·rename_i key i e sz len cap
  split at hh
  ·rename_i el hu
   obtain⟨r,hr,hh⟩:=zaa hh
   obtain⟨n,hn,hh⟩:=zaa hh
   obtain⟨hz,hh⟩:=zaf hh
   have hz:=zq hz
   obtain⟨⟨h0,h1⟩,hh⟩:=zbf hh
   rw[Out.holds_bind]at hh
   obtain⟨hK,p,hp⟩:=zbs h hh
   have e1:=zby hr hi
   have e0:=hx.eq
   simp only[SV.den,SC.den,zb5 hp]at e0
   have hel:P.elem t=el:=by simp[Program.elem,hu]
   have hu':P.underlying t=some (.slice (P.elem t)):=by rw[hel];exact hu
   refine⟨.pointer (some (((adr p).add (e.v*sz)).add (r.2.2.toNat*sz))),_,?_,hK,?_⟩
   ·rw[e0,e1,run_indexAt_slice w t _ _ _ _ _ hu',if_pos ⟨h0,h1⟩,hel]
    simp[zan hn,hz]
   ·intro ρ' ha
    have e2:=hx ρ' ha
    rw[e0]at e2
    simp only[SV.den,SC.den,Value.slice.injEq]at e2
    obtain⟨e',f',he',hce⟩:=slcPtr_e (H:=H.h) (key:=key) (i:=i) (e:=e) (kn:=r.1) (x:=r.2.2.toNat) (sz:=sz)
    simp only[SV.den,SC.den,Value.pointer.injEq,he',hce]
    have:=(zbp (b:=r.2.2.toNat*sz) e2.1).1
    rw[NV.v_add,mkN_v,Nat.add_mul]
    exact this
  ·exact hh.elim
 ·rename_i key i e f sz
  split at hh
  ·rename_i m el hu
   obtain⟨r,hr,hh⟩:=zaa hh
   obtain⟨n,hn,hh⟩:=zaa hh
   obtain⟨c,hc,hh⟩:=zaa hh
   obtain⟨_,hh⟩:=zaf hh
   obtain⟨⟨h0,h1⟩,hh⟩:=zbf hh
   rw[Out.holds_bind]at hh
   obtain⟨hK,p,hp⟩:=zbs h hh
   obtain⟨e',f',sz',rfl,hce⟩:=arrPtr_e hc
   have e1:=zby hr hi
   have e0:=hx.eq
   simp only[SV.den,SC.den,zb5 hp]at e0
   have hel:P.elem t=el:=by simp[Program.elem,hu]
   have hl:P.arrayLen t=m:=by simp[Program.arrayLen,hu]
   have hu':P.underlying t=some (.array (P.arrayLen t) (P.elem t)):=by rw[hel,hl];exact hu
   refine⟨.pointer (some (((adr p).add (e.v*sz+f)).add (r.2.2.toNat*n))),_,?_,hK,?_⟩
   ·rw[e0,e1,run_indexAt_array w t _ _ _ hu',hl,if_pos ⟨h0,h1⟩,hel]
    simp[zan hn]
   ·intro ρ' ha
    have e2:=hx ρ' ha
    rw[e0]at e2
    simp only[SV.den,SC.den,Value.pointer.injEq]at e2 ⊢
    have:=(zbp (b:=r.2.2.toNat*n) e2).1
    rw[Nat.add_assoc]at this
    rw[hce]
    exact this
  ·exact hh.elim
 ·exact hh.elim
def nilCheckT(H:HL):SV->Out SV
 | .c (.ptr key i e f sz)=>(zdr H key i e).bind fun _=>.leaf (.c (.ptr key i e f sz))
 | .c (.ifc t key i e f sz)=>.leaf (.c (.ifc t key i e f sz))
 | .c (.fn f caps)=>.leaf (.c (.fn f caps))
 | _=>.bad 105
def extractT(k:Nat):SV->Out SV
 | .t l=>opt (l[k]?) (fun|.c x=>.leaf (.c x)|.a x=>.leaf (.a x)) 106
 | _=>.bad 107
theorem extractT_ok{P:Program}{ρ:Rho}{H:Hp}{w:World}{k:Nat}{x:SV}{v:Value}{K:SV->Prop}(hx:SIs H.sc ρ x v)(hh:(extractT k x).holds K):zbo ρ H K w ((Instr.extract v k).run P w):=by
 unfold extractT at hh
 split at hh
 ·rename_i l
  obtain⟨te,hte,hh⟩:=zaa hh
  have e0:=hx.eq
  simp only[SV.den]at e0
  have hrun:(Instr.extract v k).run P w=.ok (te.den ρ) w:=by
   rw[e0];simp[Instr.extract,hte]
  have his:∀ρ',zat H.sc ρ ρ'->te.den ρ'=te.den ρ:=fun ρ' ha=>by
   have:=hx ρ' ha
   rw[e0]at this
   simp only[SV.den,Value.tuple.injEq]at this
   have:=congrArg (fun a:Array Value=>a[k]?) this
   simpa [hte]using this
  cases te with
  | c y=>exact⟨_,.c y,hrun,hh,his⟩
  | a y=>exact⟨_,.a y,hrun,hh,his⟩
 ·exact hh.elim
theorem LIs.of_a{n:Nat->Prop}{ρ:Rho}{l:List SC}{v:Value}(h:SIs n ρ (.a l) v):∃vs,v=.agg vs.toArray/\LIs n ρ l vs:=
 ⟨l.map (SC.den ρ),h.eq,fun ρ' ha=>by have:=(h ρ' ha).trans h.eq;simpa [SV.den]using this⟩
def partT(P:Program)(t:TypeId)(l:List SC)(off:Nat):Out SV:=
 opt (isAggT P t) (fun
  | true=>opt (zd5 P t) (fun n=>.leaf (.a ((l.drop off).take n))) 108
  | false=>opt (l[off]?) (fun c=>.leaf (.c c)) 109) 110
theorem partT_ok{P:Program}{ρ:Rho}{H:Hp}{w:World}{t:TypeId}{l:List SC}{vs:List Value}{off:Nat}{K:SV->Prop}(hl:LIs H.sc ρ l vs)(hh:(partT P t l off).holds K):zbo ρ H K w ((part t vs.toArray off).run P w):=by
 obtain⟨b,hb,hh⟩:=zaa hh
 cases b with
 | true=>
  obtain⟨n,hn,hK⟩:=zaa hh
  refine⟨.agg ((vs.drop off).take n).toArray,_,?_,hK,.agg fun ρ' ha=>by rw[<-hl ρ' ha,List.map_take,List.map_drop]⟩
  simp[part,zbx hb,zan hn]
 | false=>
  obtain⟨c,hc,hK⟩:=zaa hh
  obtain⟨v,hv,hs⟩:=hl.get hc
  exact⟨v,.c c,by simp[part,zbx hb,hv],hK,.of_c hs⟩
def fieldT(P:Program)(t:TypeId)(f:Nat):SV->Out SV
 | .a l=>match undF P t with
  | some (.struct fs)=>opt (fs[f]?) (fun fd=>partT P fd.type l fd.offset) 111
  | _=>.bad 112
 | _=>.bad 113
theorem fieldT_ok{P:Program}{ρ:Rho}{H:Hp}{w:World}{t:TypeId}{f:Nat}{x:SV}{v:Value}{K:SV->Prop}(hx:SIs H.sc ρ x v)(hh:(fieldT P t f x).holds K):zbo ρ H K w ((Instr.field t v f).run P w):=by
 unfold fieldT at hh
 try simp only[zaq,za2,zbm,za3]at hh
 split at hh
 ·rename_i l
  split at hh
  ·rename_i fs hu
   obtain⟨fd,hfd,hh⟩:=zaa hh
   obtain⟨vs,rfl,hl⟩:=LIs.of_a hx
   obtain⟨u,sv,h1,h2,h3⟩:=partT_ok (w:=w) hl hh
   exact⟨u,sv,by simp[Instr.field,run_underlying hu,hfd,asAgg,h1],h2,h3⟩
  ·exact hh.elim
 ·exact hh.elim
def indexT(P:Program)(t:TypeId)(ix:SV):SV->Out SV
 | .a l=>match undF P t with
  | some (.array m el)=>opt (asI ix) (fun r=>opt (zd5 P el) (fun n=>chk r.1 (needP true (0<=r.2.2/\r.2.2<(m:Int)) (partT P el l (r.2.2.toNat*n))) 114) 115) 116
  | _=>.bad 117
 | _=>.bad 118
theorem indexT_ok{P:Program}{ρ:Rho}{H:Hp}{w:World}{t:TypeId}{ix x:SV}{u v:Value}{K:SV->Prop}(hx:SIs H.sc ρ x v)(hi:SIs H.sc ρ ix u)(hh:(indexT P t ix x).holds K):zbo ρ H K w ((Instr.index t v u).run P w):=by
 unfold indexT at hh
 try simp only[zaq,za2,zbm,za3]at hh
 split at hh
 ·rename_i l
  split at hh
  ·rename_i m el hu
   obtain⟨r,hr,hh⟩:=zaa hh
   obtain⟨n,hn,hh⟩:=zaa hh
   obtain⟨_,hh⟩:=zaf hh
   obtain⟨⟨h0,h1⟩,hh⟩:=zbf hh
   have e1:=zby hr hi
   obtain⟨vs,rfl,hl⟩:=LIs.of_a hx
   obtain⟨z,sv,g1,g2,g3⟩:=partT_ok (w:=w) hl hh
   refine⟨z,sv,?_,g2,g3⟩
   rw[e1]
   simp[Instr.index,asIntOf,run_underlying hu,zan hn,h0,h1,g1]
  ·exact hh.elim
 ·exact hh.elim
def pickT(c a b:SV):Out SV:=
 opt (asB c) (fun r=>match r.1 with
  | true=>(match r.2 with|true=>.leaf a|false=>.leaf b)
  | false=>match a,b with
   | .c (.kb true),.c (.kb false)=>.leaf (mkB false r.2)
   | .c (.kb true),.c (.kb true)=>.leaf (mkB true true)
   | .c (.kb false),.c (.kb false)=>.leaf (mkB true false)
   | .c (.kb true),.c (.bv y)=>.leaf (mkB false (r.2 || y))
   | .c (.bv x),.c (.kb false)=>.leaf (mkB false (r.2&&x))
   | a,b=>.br r.2 (.leaf a) (.leaf b)) 119
theorem pickT_ok{n:Nat->Prop}{ρ:Rho}{c a b:SV}{vc va vb:Value}{K:SV->Prop}(hc:SIs n ρ c vc)(ha:SIs n ρ a va)(hb:SIs n ρ b vb)(hh:(pickT c a b).holds K):
  ∃z sv,vc=.bool z/\K sv/\SIs n ρ sv (if z then va else vb):=by
 obtain⟨r,hr,hh⟩:=zaa hh
 have e:=asB_is hr hc
 obtain⟨kn,z⟩:=r
 simp only at e hh
 cases kn with
 | true=>cases z with
  | true=>exact⟨true,a,e,hh,ha⟩
  | false=>exact⟨false,b,e,hh,hb⟩
 | false=>
  simp only at hh
  split at hh
  ·have e1:=ha.eq;have e2:=hb.eq;simp only[SV.den,SC.den]at e1 e2;subst e1 e2
   exact⟨z,_,e,hh,by cases z<;>exact fun _ _=>rfl⟩
  ·have e1:=ha.eq;have e2:=hb.eq;simp only[SV.den,SC.den]at e1 e2;subst e1 e2
   exact⟨z,_,e,hh,by cases z<;>exact fun _ _=>rfl⟩
  ·have e1:=ha.eq;have e2:=hb.eq;simp only[SV.den,SC.den]at e1 e2;subst e1 e2
   exact⟨z,_,e,hh,by cases z<;>exact fun _ _=>rfl⟩
  ·have e1:=ha.eq;have e2:=hb.eq;simp only[SV.den,SC.den]at e1 e2;subst e1 e2
   exact⟨z,_,e,hh,by cases z<;>exact fun _ _=>by simp[mkB,SV.den,SC.den]⟩
  ·have e1:=ha.eq;have e2:=hb.eq;simp only[SV.den,SC.den]at e1 e2;subst e1 e2
   exact⟨z,_,e,hh,by cases z<;>exact fun _ _=>by simp[mkB,SV.den,SC.den]⟩
  ·cases z with
   | true=>exact⟨true,a,e,hh.1 rfl,ha⟩
   | false=>exact⟨false,b,e,hh.2 rfl,hb⟩
def makeIfcT(P:Program)(t:TypeId):SV->Out SV
 | .c (.ptr key i e f sz)=>match undF P t with
  | some (.interface _)=>.bad 120
  | some _=>.leaf (.c (.ifc t key i e f sz))
  | none=>.bad 121
 | _=>.bad 122
theorem makeIfcT_ok{P:Program}{ρ:Rho}{H:Hp}{w:World}{t:TypeId}{x:SV}{v:Value}{K:SV->Prop}(hx:SIs H.sc ρ x v)(hh:(makeIfcT P t x).holds K):zbo ρ H K w ((Instr.makeInterface t v).run P w):=by
 unfold makeIfcT at hh
 try simp only[zaq,za2,zbm,za3]at hh
 split at hh
 ·split at hh
  ·exact hh.elim
  ·rename_i d hne hd
   refine⟨.iface t v,_,?_,hh,fun ρ' ha=>by have:=hx ρ' ha;simp only[SV.den,SC.den]at this ⊢;rw[this]⟩
   simp only[Instr.makeInterface,Sem.run_bind,run_underlying hd,Result.andThen_ok]
   rfl
  ·exact hh.elim
 ·exact hh.elim
def zfm:List SV->Option (List Nat)
 | []=>some []
 | .c (.ptr key (.k 0) (.k 0) 0 _)::l=>(zfm l).map (key::·)
 | _=>none
theorem capKeys_is{n:Nat->Prop}{ρ:Rho}:∀ {l:List SV} {vs:List Value} {ks:List Nat},zfm l=some ks->vs.length=l.length->(∀(k:Nat) sv,l[k]?=some sv->∃v,vs[k]?=some v/\SIs n ρ sv v)->
  ∀ρ',zat n ρ ρ'->ks.map (fun k=>Value.pointer (zal ρ' k (.k 0) 0))=vs
 | [],vs,ks,h,hl,_,ρ',_=>by simp[zfm]at h;subst h;simpa using(List.eq_nil_of_length_eq_zero (by simpa using hl)).symm
 | x::l,vs,ks,h,hl,hs,ρ',ha=>by
  unfold zfm at h
  split at h
  ·simp_all
  ·rename_i key sz l' heq
   cases heq
   cases hr:zfm l with
   | none=>simp[hr]at h
   | some ks'=>
    simp[hr]at h;subst h
    cases vs with
    | nil=>simp at hl
    | cons v vs=>
     obtain⟨v',hv,hi⟩:=hs 0 _ rfl
     simp at hv;subst hv
     have ih:=capKeys_is (vs:=vs) hr (by simpa using hl) (fun k sv hk=>by simpa using hs (k+1) sv (by simpa using hk)) ρ' ha
     have:=hi ρ' ha
     simp only[SV.den,SC.den,NV.v_k,Nat.zero_mul,z8]at this
     simp[ih,this]
  ·cases h
theorem ze7.new{φ:Fr}{ρ:Rho}{H:Hp}{w:World}{t:TypeId}{l:List SC}{vs:List Value}{K:SV×Hp->Prop}{r:Result Value}{sv:SV}{v:Value}(h:HInv φ ρ H w)(hl:LIs H.sc ρ l vs)
  (hr:r=.ok v (w.alloc (.cells vs.toArray t))) (hv:∀ρ',ρ' H.nxt 0=some (w.heap.size,0)->sv.den ρ'=v) (hK:K (sv,newT H t l)):ze7 φ ρ H K r:=by
 refine⟨v,_,_,sv,newT H t l,hr,hK,ρ.set_agree (fun _ hj=>hj.1) _,⟨Nat.le_succ _,rfl⟩,new_ok h hl,fun ρ' ha=>hv ρ' ?_⟩
 have:=ha H.nxt ⟨Nat.lt_succ_self _,h.up _ (Z _)⟩
 rw[this];exact ρ.set_at _ _
def boxT(H:Hp)(t:TypeId)(x:SV):Out (SV×Hp):=opt x.cells (fun l=>.leaf (.c (.ptr H.nxt (.k 0) (.k 0) 0 l.length),newT H t l)) 130
theorem boxT_ok{P:Program}{φ:Fr}{ρ:Rho}{H:Hp}{w:World}{t:TypeId}{x:SV}{v:Value}{K:SV×Hp->Prop}(h:HInv φ ρ H w)(hx:SIs H.sc ρ x v)(hh:(boxT H t x).holds K):
  ze7 φ ρ H K ((Instr.box t v).run P w):=by
 obtain⟨l,hl,hK⟩:=zaa hh
 obtain⟨vs,hvs,hls⟩:=SV.cells_is hx hl
 refine .new h hls (v:=.pointer (some ⟨w.heap.size,0,none⟩)) ?_ ?_ hK
 ·simp[Instr.box,newVar,newRow,hvs]
 ·intro ρ' hr;simp[SV.den,SC.den,zal,hr]
def allocT(P:Program)(H:Hp)(t:TypeId):Out (SV×Hp):=opt (zeroT P t) (fun z=>boxT H t z) 131
theorem allocT_ok{P:Program}{φ:Fr}{ρ:Rho}{H:Hp}{w:World}{t:TypeId}{K:SV×Hp->Prop}(h:HInv φ ρ H w)(hh:(allocT P H t).holds K):
  ze7 φ ρ H K ((Instr.alloc t true (.tuple #[])).run P w):=by
 obtain⟨z,hz,hh⟩:=zaa hh
 obtain⟨i,zv,hi,hz2,hzs⟩:=zfh hz (n:=H.sc) (ρ:=ρ)
 have:=boxT_ok (P:=P) (t:=t) h hzs hh
 simpa [Instr.alloc,zbg hi hz2,Instr.box]using this
def zdq{α:Type}:Nat->List α->List α->List α
 | _,[],cs=>cs
 | off,c::l,cs=>zdq (off+1) l (cs.set off c)
theorem splice_map{α β:Type}(f:α->β):∀(l:List α) (off:Nat) (cs:List α),(zdq off l cs).map f=zdq off (l.map f) (cs.map f)
 | [],_,_=>rfl
 | c::l,off,cs=>by simp only[zdq,List.map_cons];rw[splice_map f l,List.map_set]
theorem ze3{α:Type}:∀(l:List α) (off:Nat) (cs:List α),(zdq off l cs).length=cs.length
 | [],_,_=>rfl
 | c::l,off,cs=>by simp only[zdq];rw[ze3 l];simp
theorem zgb:∀(vs:List Value) (off k:Nat) (cs:List Value),(vs.zipIdx k).foldl (fun (a:Array Value) (x:Value×Nat)=>a.setIfInBounds (off+x.2) x.1) cs.toArray=(zdq (off+k) vs cs).toArray
 | [],_,_,_=>rfl
 | v::vs,off,k,cs=>by
  simp only[List.zipIdx_cons,List.foldl_cons,zdq,List.setIfInBounds_toArray]
  have:=zgb vs off (k+1) (cs.set (off+k) v)
  rw[show off+k+1=off+(k+1) by omega]
  exact this
def fillT(pl:Nat->Option (Nat×Nat)):List SC->List (Nat×SV)->Option (List SC)
 | cells,[]=>some cells
 | cells,(i,x)::rest=>match pl i,x.cells with
  | some (off,size),some l=>bif zu l.length size&&Nat.ble (off+l.length) cells.length then fillT pl (zdq off l cells) rest else none
  | _,_=>none
def PIs(n:Nat->Prop)(ρ:Rho):List (Nat×SV)->List (Nat×Value)->Prop
 | [],[]=>True
 | (i,x)::l,(j,v)::m=>i=j/\SIs n ρ x v/\PIs n ρ l m
 | _,_=>False
theorem fill_ok{n:Nat->Prop}{ρ:Rho}{pl:Nat->Option (Nat×Nat)}:∀ {ps:List (Nat×SV)} {qs:List (Nat×Value)} {cells out:List SC} {vs:List Value},PIs n ρ ps qs->LIs n ρ cells vs->fillT pl cells ps=some out->
  ∃us,Instr.fill pl vs.toArray qs=some us.toArray/\LIs n ρ out us
 | [],[],cells,out,vs,_,hl,h=>by simp[fillT]at h;subst h;exact⟨vs,rfl,hl⟩
 | [],q::qs,_,_,_,hp,_,_=>hp.elim
 | p::ps,[],_,_,_,hp,_,_=>by obtain⟨i,x⟩:=p;exact hp.elim
 | (i,x)::ps,(j,v)::qs,cells,out,vs,hp,hl,h=>by
  obtain⟨rfl,hx,hp⟩:=hp
  simp only[fillT]at h
  cases hpl:pl i with
  | none=>simp[hpl]at h
  | some os=>
   obtain⟨off,size⟩:=os
   cases hc:x.cells with
   | none=>simp[hpl,hc]at h
   | some l=>
    simp only[hpl,hc]at h
    by_cases hb:(zu l.length size&&Nat.ble (off+l.length) cells.length)=true
    ·simp only[hb,cond_true]at h
     simp only[zx]at hb
     have h1:=zq hb.1
     have h2:=zb hb.2
     obtain⟨us,hus,hls⟩:=SV.cells_is hx hc
     have hsp:LIs n ρ (zdq off l cells) (zdq off us vs):=fun ρ' ha=>by rw[splice_map,hls ρ' ha,hl ρ' ha]
     obtain⟨out',h3,h4⟩:=fill_ok hp hsp h
     refine⟨out',?_,h4⟩
     have e1:us.length=size:=by rw[hls.len,h1]
     have e2:¬(off+us.length>vs.length):=by rw[hls.len,hl.len];omega
     simp only[Instr.fill,hpl,hus,List.size_toArray]
     rw[if_neg (by simp[e1];omega)]
     rw[<-h3]
     congr 1
     have:=zgb us off 0 vs
     simpa using this
    ·simp[hb]at h
def placesT(P:Program):List Field->Option (List (Nat×Nat))
 | []=>some []
 | f::fs=>match zd5 P f.type,placesT P fs with
  | some n,some l=>some ((f.offset,n)::l)
  | _,_=>none
theorem run_places{P:Program}(w:World):∀ {fs:List Field} {l:List (Nat×Nat)},placesT P fs=some l->(fs.mapM fun f=>do pure (f.offset,<-sizeOf f.type):Sem (List (Nat×Nat))).run P w=.ok l w
 | [],l,h=>by simp[placesT]at h;subst h;simp
 | f::fs,l,h=>by
  simp only[placesT]at h
  split at h
  ·rename_i n l' h1 h2
   cases h
   have ih:=run_places w h2
   simp only[List.mapM_cons,Sem.run_bind,zan h1,Result.andThen_ok,Sem.run_pure,ih]
  ·cases h
def buildT(P:Program)(t:TypeId)(ps:List (Nat×SV)):Out SV:=
 opt ((zeroT P t).bind (·.cells)) (fun z=>match undF P t with
  | some (.struct fs)=>opt (placesT P fs.toList) (fun pl=>opt (fillT (pl[·]?) z ps) (fun l=>.leaf (.a l)) 132) 133
  | some (.array _ el)=>opt (zd5 P el) (fun n=>opt (fillT (fun i=>some (i*n,n)) z ps) (fun l=>.leaf (.a l)) 134) 135
  | _=>.bad 136) 137
theorem buildT_ok{P:Program}{ρ:Rho}{H:Hp}{w:World}{t:TypeId}{ps:List (Nat×SV)}{qs:Array (Nat×Value)}{K:SV->Prop}(hp:PIs H.sc ρ ps qs.toList)(hh:(buildT P t ps).holds K):zbo ρ H K w ((Instr.build t qs).run P w):=by
 obtain⟨z,hz,hh⟩:=zaa hh
 cases hz0:zeroT P t with
 | none=>simp[hz0]at hz
 | some zs=>
  simp only[hz0,Option.bind_some]at hz
  obtain⟨i,zv,hi,hzz,hzs⟩:=zfh hz0 (n:=H.sc) (ρ:=ρ)
  obtain⟨vs,hvs,hl⟩:=SV.cells_is hzs hz
  try simp only[zaq,za2]at hh
  split at hh
  ·rename_i fs hu
   obtain⟨pl,hpl,hh⟩:=zaa hh
   obtain⟨out,hout,hK⟩:=zaa hh
   obtain⟨us,h1,h2⟩:=fill_ok hp hl hout
   refine⟨.agg us.toArray,.a out,?_,hK,.agg h2⟩
   have hm:=run_places (P:=P) w hpl
   have hm':(fs.mapM fun f=>do pure (f.offset,<-sizeOf f.type):Sem (Array (Nat×Nat))).run P w=.ok pl.toArray w:=by
    rw[Array.mapM_eq_mapM_toList,Sem.run_map,hm];rfl
   simp only[Instr.build,Sem.run_bind,zbg hi hzz,Result.andThen_ok,run_underlying hu,hm',hvs]
   have e:(fun (x:Nat)=>pl.toArray[x]?)=(fun (x:Nat)=>pl[x]?):=by funext x;simp
   rw[e,h1]
   simp
  ·rename_i m el hu
   obtain⟨n,hn,hh⟩:=zaa hh
   obtain⟨out,hout,hK⟩:=zaa hh
   obtain⟨us,h1,h2⟩:=fill_ok hp hl hout
   refine⟨.agg us.toArray,.a out,?_,hK,.agg h2⟩
   simp only[Instr.build,Sem.run_bind,zbg hi hzz,Result.andThen_ok,run_underlying hu,zan hn,hvs,h1]
   simp
  ·exact hh.elim
def repl{α:Type}(z:List α):Nat->List α
 | 0=>[]
 | n+1=>z++repl z n
theorem repl_map{α β:Type}(f:α->β)(z:List α)(n:Nat):(repl z n).map f=repl (z.map f) n:=by
 induction n with
 | zero=>rfl
 | succ n ih=>simp[repl,ih]
theorem repl_get{α:Type}(z:List α)(n j:Nat)(hj:j<n*z.length):(repl z n)[j]?=z[j % z.length]?:=by
 induction n generalizing j with
 | zero=>simp at hj
 | succ n ih=>
  simp only[repl]
  rw[Nat.add_mul,Nat.one_mul]at hj
  by_cases hz:j<z.length
  ·rw[List.getElem?_append_left hz,Nat.mod_eq_of_lt hz]
  ·rw[List.getElem?_append_right (by omega),ih _ (by omega)]
   have:=Nat.mod_eq_sub_mod (a:=j) (b:=z.length) (by omega)
   rw[<-this]
theorem zcv{α:Type}(z:List α)(n:Nat):(repl z n).length=n*z.length:=by
 induction n with
 | zero=>simp[repl]
 | succ n ih=>simp[repl,ih,Nat.add_mul,Nat.add_comm]
theorem zei(z:List Value)(n:Nat):madeCells z.toArray (n*z.length)=(repl z n).toArray:=by
 apply Array.ext_getElem?
 intro j
 by_cases hj:j<n*z.length
 ·have hz:0<z.length:=by rcases Nat.eq_zero_or_pos z.length with h|h<;>simp_all
  have hm:j % z.length<z.length:=Nat.mod_lt _ hz
  simp[madeCells,hj,repl_get z n j hj,getElem!_pos,hm]
 ·have h1:(repl z n).toArray[j]?=none:=by
   rw[List.getElem?_toArray,List.getElem?_eq_none];rw[zcv];omega
  rw[h1]
  simp[madeCells,hj]
def colsOf(sz len:Nat)(l:List SC):List Col:=(List.range sz).map fun f=>.ck ((List.range len).map fun e=>(l[e*sz+f]?).getD .nilp)
def rowT(H:Hp)(t:TypeId)(cap n:Nat)(cols:List Col):Hp:=⟨(H.nxt,.row t cap n cols)::H.h,H.nxt+1,H.D⟩
theorem ze7.newRow{φ:Fr}{ρ:Rho}{H:Hp}{w:World}{t:TypeId}{arr:Array Value}{cap n:Nat}{cols:List Col}{K:SV×Hp->Prop}{r:Result Value}{sv:SV}{v:Value}(h:HInv φ ρ H w)
  (hr:r=.ok v (w.alloc (.cells arr t))) (hv:∀ρ',ρ' H.nxt 0=some (w.heap.size,0)->sv.den ρ'=v) (hK:K (sv,rowT H t cap n cols))
  (hs:arr.size=cap*cols.length) (hn:n<=cap) (hc:cap<=maxLen)
  (hcells:∀e,e<n->∀(f:Nat) (col:Col) c,cols[f]?=some col->col.get 0 e=some c->∃u,arr[e*cols.length+f]?=some u/\CIs H.sc ρ c u):ze7 φ ρ H K r:=by
 refine⟨v,_,_,sv,rowT H t cap n cols,hr,hK,ρ.set_agree (fun _ hj=>hj.1) _,⟨Nat.le_succ _,rfl⟩,h.alloc t arr _ (.inr ⟨w.heap.size,arr,Rho.set_at _ _ _,heap_alloc_new _ _,hs,hn,hc,?_⟩),fun ρ' ha=>hv ρ' ?_⟩
 ·intro e he f col c hf hg
  obtain⟨u,hu,hi⟩:=hcells e he f col c hf hg
  exact⟨u,hu,hi.ext (ρ.set_agree (fun _ hj=>hj.1) _) (fun k hk=>⟨Nat.lt_succ_of_lt hk.1,hk.2⟩)⟩
 ·have:=ha H.nxt ⟨Nat.lt_succ_self _,h.up _ (Z _)⟩
  rw[this];exact ρ.set_at _ _
theorem zdt{n:Nat->Prop}{ρ:Rho}{sz len:Nat}{l:List SC}{us:List Value}(hl:LIs n ρ l us)(hlen:l.length=len*sz)(e:Nat)(he:e<len)(f:Nat)(col:Col)(c:SC)(hc:(colsOf sz len l)[f]?=some col)(hg:col.get 0 e=some c):
  ∃u,us.toArray[e*(colsOf sz len l).length+f]?=some u/\CIs n ρ c u:=by
 have hlc:(colsOf sz len l).length=sz:=by simp[colsOf]
 rw[hlc]
 simp only[colsOf,List.getElem?_map]at hc
 have hf:f<sz:=by
  rcases Nat.lt_or_ge f sz with h|h
  ·exact h
  ·rw[List.getElem?_eq_none (by simpa using h)]at hc;simp at hc
 simp[List.getElem?_range hf]at hc
 subst hc
 simp only[Col.get,List.getElem?_map,List.getElem?_range he,Option.map_some,z0]at hg
 have hin:e*sz+f<l.length:=by
  rw[hlen]
  have:(e+1)*sz<=len*sz:=Nat.mul_le_mul_right _ he
  rw[Nat.add_mul,Nat.one_mul]at this
  omega
 obtain⟨d,hd⟩:∃d,l[e*sz+f]?=some d:=⟨_,List.getElem?_eq_getElem hin⟩
 rw[hd,Option.getD_some]at hg
 subst hg
 obtain⟨u,hu,hi⟩:=hl.get hd
 exact⟨u,by simpa using hu,hi⟩
theorem zf8{pl:Nat->Option (Nat×Nat)}:∀ {ps:List (Nat×SV)} {cells out:List SC},fillT pl cells ps=some out->out.length=cells.length
 | [],cells,out,h=>by simp[fillT]at h;subst h;rfl
 | (i,x)::ps,cells,out,h=>by
  simp only[fillT]at h
  split at h
  ·rename_i off size l _ _
   by_cases hb:(zu l.length size&&Nat.ble (off+l.length) cells.length)=true
   ·simp only[hb,cond_true]at h
    rw[zf8 h,ze3]
   ·simp[hb]at h
  ·cases h
def zem(P:Program)(H:Hp)(t:TypeId)(len:Nat)(ps:List (Nat×SV)):Out (SV×Hp):=
 match undF P t with
 | some (.slice el)=>opt (zd5 P el) (fun n=>chk (Nat.ble (len*n) 16777216&&Nat.ble 1 n) (opt ((zeroT P el).bind (·.cells)) (fun z=>chk (zu z.length n)
   (opt (fillT (fun i=>some (i*n,n)) (repl z len) ps) (fun l=>.leaf (.c (.slc H.nxt (.k 0) (.k 0) n (.k len) (.k len)),rowT H el len len (colsOf n len l))) 140) 141) 142) 143) 144
 | _=>.bad 145
theorem buildSliceT_ok{P:Program}{φ:Fr}{ρ:Rho}{H:Hp}{w:World}{t:TypeId}{len:Nat}{ps:List (Nat×SV)}{qs:Array (Nat×Value)}{K:SV×Hp->Prop}(h:HInv φ ρ H w)(hp:PIs H.sc ρ ps qs.toList)
  (hh:(zem P H t len ps).holds K):ze7 φ ρ H K ((Instr.buildSlice t len qs).run P w):=by
 unfold zem at hh
 try simp only[zaq,za2,zbm,za3]at hh
 try simp only[zaq,za2]at hh
 split at hh
 ·rename_i el hu
  obtain⟨n,hn,hh⟩:=zaa hh
  obtain⟨hb,hh⟩:=zaf hh
  simp only[zx]at hb
  have hb1:=zb hb.1
  have hb2:=zb hb.2
  obtain⟨z,hz,hh⟩:=zaa hh
  obtain⟨hzl,hh⟩:=zaf hh
  have hzl:=zq hzl
  obtain⟨out,hout,hK⟩:=zaa hh
  cases hz0:zeroT P el with
  | none=>simp[hz0]at hz
  | some zs=>
   simp only[hz0,Option.bind_some]at hz
   obtain⟨i,zv,hi,hzz,hzs⟩:=zfh hz0 (n:=H.sc) (ρ:=ρ)
   obtain⟨vs,hvs,hl⟩:=SV.cells_is hzs hz
   have hvl:vs.length=n:=by rw[hl.len,hzl]
   have hrl:LIs H.sc ρ (repl z len) (repl vs len):=fun ρ' ha=>by rw[repl_map,hl ρ' ha]
   obtain⟨us,h1,h2⟩:=fill_ok hp hrl hout
   have h1':Instr.fill (fun i=>some (i*n,n)) (madeCells vs.toArray (len*n)) qs.toList=some us.toArray:=by
    rw[<-h1,<-zei,hvl]
   have houtl:out.length=len*n:=by rw[zf8 hout,zcv,hzl]
   have hlm:len<=maxLen:=by
    have:len*1<=len*n:=Nat.mul_le_mul_left _ hb2
    unfold maxLen;omega
   refine .newRow (arr:=us.toArray) h (v:=.slice (some ⟨w.heap.size,0,none⟩) len len) ?_ ?_ hK (by simp[colsOf,h2.len,houtl]) (Z _) hlm (fun e he f col c hc hg=>zdt h2 houtl e he f col c hc hg)
   ·have hn1:¬(2 ^ 24<len*n):=by omega
    by_cases h0:len*n=0
    ·have hlen:len=0:=by
      rcases Nat.mul_eq_zero.1 h0 with h|h<;>omega
     subst hlen
     simp only[Nat.zero_mul]at h1'
     have:madeCells vs.toArray 0=#[]:=by simp[madeCells]
     rw[this]at h1'
     simp[Instr.buildSlice,run_underlying hu,zan hn,newRow,Array.range_zero',h1']
    ·unfold madeCells at h1'
     simp only[Instr.buildSlice,Sem.run_bind,run_underlying hu,Result.andThen_ok,zan hn,gt_iff_lt,hn1,if_false,h0,zbg hi hzz,Sem.run_pure,hvs,h1']
     simp[newRow]
   ·intro ρ' hr;simp[SV.den,SC.den,zal,hr]
 ·exact hh.elim
def lenT(P:Program)(t:TypeId):SV->Out SV
 | .c (.slc _ _ _ _ len _)=>chk (zef P t) (.leaf (mkI len.kn .i64 (len.v:Int))) 150
 | .c .nils=>chk (zef P t) (.leaf (mkI true .i64 0)) 151
 | .c (.val (.string s))=>chk (isStrT P t) (.leaf (mkI false .i64 (s.size:Int))) 152
 | _=>.bad 153
theorem lenT_ok{P:Program}{ρ:Rho}{H:Hp}{w:World}{t ty:TypeId}{x:SV}{v:Value}{K:SV->Prop}(hx:SIs H.sc ρ x v)(hh:(lenT P t x).holds K):zbo ρ H K w ((Builtin.len_ #[t] ty #[v]).run P w):=by
 have e:=hx.eq
 unfold lenT at hh
 split at hh
 ·obtain⟨ht,hK⟩:=zaf hh
  obtain⟨el,he⟩:=zc4 ht
  refine⟨_,_,?_,hK,zc5 _ _ _ _ _⟩
  rw[e];simp[SV.den,SC.den,Builtin.len_,run_underlying he,goInt]
 ·obtain⟨ht,hK⟩:=zaf hh
  obtain⟨el,he⟩:=zc4 ht
  refine⟨_,_,?_,hK,zc5 _ _ _ _ _⟩
  rw[e];simp[SV.den,SC.den,Builtin.len_,run_underlying he,goInt]
 ·obtain⟨ht,hK⟩:=zaf hh
  have he:=zgn ht
  refine⟨_,_,?_,hK,zc5 _ _ _ _ _⟩
  rw[e];simp[SV.den,SC.den,Builtin.len_,run_underlying he,goInt]
 ·exact hh.elim
def capT(P:Program)(t:TypeId):SV->Out SV
 | .c (.slc _ _ _ _ _ cap)=>chk (zef P t) (.leaf (mkI cap.kn .i64 (cap.v:Int))) 154
 | .c .nils=>chk (zef P t) (.leaf (mkI true .i64 0)) 155
 | _=>.bad 156
theorem capT_ok{P:Program}{ρ:Rho}{H:Hp}{w:World}{t ty:TypeId}{x:SV}{v:Value}{K:SV->Prop}(hx:SIs H.sc ρ x v)(hh:(capT P t x).holds K):zbo ρ H K w ((Builtin.cap_ #[t] ty #[v]).run P w):=by
 have e:=hx.eq
 unfold capT at hh
 split at hh
 ·obtain⟨ht,hK⟩:=zaf hh
  obtain⟨el,he⟩:=zc4 ht
  refine⟨_,_,?_,hK,zc5 _ _ _ _ _⟩
  rw[e];simp[SV.den,SC.den,Builtin.cap_,run_underlying he,goInt]
 ·obtain⟨ht,hK⟩:=zaf hh
  obtain⟨el,he⟩:=zc4 ht
  refine⟨_,_,?_,hK,zc5 _ _ _ _ _⟩
  rw[e];simp[SV.den,SC.den,Builtin.cap_,run_underlying he,goInt]
 ·exact hh.elim
def minT:List SV->Out SV
 | [x,y]=>opt (asI x) (fun r=>opt (asI y) (fun q=>.leaf (mkI (r.1&&q.1) r.2.1 (min r.2.2 q.2.2))) 157) 158
 | _=>.bad 159
def maxT:List SV->Out SV
 | [x,y]=>opt (asI x) (fun r=>opt (asI y) (fun q=>.leaf (mkI (r.1&&q.1) r.2.1 (max r.2.2 q.2.2))) 157) 158
 | _=>.bad 159
def VIs(n:Nat->Prop)(ρ:Rho):List SV->List Value->Prop
 | [],[]=>True
 | x::l,v::m=>SIs n ρ x v/\VIs n ρ l m
 | _,_=>False
theorem minT_ok{P:Program}{ρ:Rho}{H:Hp}{w:World}{ts:Array TypeId}{ty:TypeId}{xs:List SV}{vs:List Value}{K:SV->Prop}(hx:VIs H.sc ρ xs vs)(hh:(minT xs).holds K):zbo ρ H K w ((Builtin.min_ ts ty vs.toArray).run P w):=by
 unfold minT at hh
 split at hh
 ·rename_i x y
  obtain⟨r,hr,hh⟩:=zaa hh
  obtain⟨q,hq,hK⟩:=zaa hh
  match vs,hx with
  | [v,u],hx=>
   have e1:=zby hr hx.1;have e2:=zby hq hx.2.1
   subst e1 e2
   refine⟨_,_,?_,hK,zc5 _ _ _ _ _⟩
   rw[run_min_int2]
   congr 2
   omega
  | [],hx=>exact hx.elim
  | [_],hx=>exact hx.2.elim
  | _::_::_::_,hx=>exact hx.2.2.elim
 ·exact hh.elim
theorem maxT_ok{P:Program}{ρ:Rho}{H:Hp}{w:World}{ts:Array TypeId}{ty:TypeId}{xs:List SV}{vs:List Value}{K:SV->Prop}(hx:VIs H.sc ρ xs vs)(hh:(maxT xs).holds K):zbo ρ H K w ((Builtin.max_ ts ty vs.toArray).run P w):=by
 unfold maxT at hh
 split at hh
 ·rename_i x y
  obtain⟨r,hr,hh⟩:=zaa hh
  obtain⟨q,hq,hK⟩:=zaa hh
  match vs,hx with
  | [v,u],hx=>
   have e1:=zby hr hx.1;have e2:=zby hq hx.2.1
   subst e1 e2
   refine⟨_,_,?_,hK,zc5 _ _ _ _ _⟩
   rw[run_max_int2]
   congr 2
   omega
  | [],hx=>exact hx.elim
  | [_],hx=>exact hx.2.elim
  | _::_::_::_,hx=>exact hx.2.2.elim
 ·exact hh.elim
def zdv(d:Bool×Int):Option SV->Option (Bool×Int)
 | none=>some d
 | some x=>(asI x).map fun r=>(r.1,r.2.2)
def optIs(n:Nat->Prop)(ρ:Rho):Option SV->Option Value->Prop
 | none,none=>True
 | some x,some v=>SIs n ρ x v
 | _,_=>False
def sliceT(P:Program)(t:TypeId)(lo hi mx:Option SV)(x:SV):Out SV:=
 match mx,x,undF P t with
 | none,.c (.slc key i e sz len cap),some (.slice el)=>opt (zd5 P el) (fun n=>chk (zu n sz) (opt (zdv (true,0) lo) (fun l=>opt (zdv (len.kn,(len.v:Int)) hi) (fun h=>
   needP (l.1&&h.1&&cap.kn) (0<=l.2/\l.2<=h.2/\h.2<=(cap.v:Int)) (match lo with
    | none=>.leaf (.c (.slc key i e sz (mkN h.1 h.2.toNat) cap))
    | some _=>match l.1&&cap.kn with
     | true=>chk (decide (l.2=0\/l.2<(cap.v:Int))) (.leaf (.c (.slc key i (e.add (mkN true l.2.toNat)) sz (mkN (l.1&&h.1) (h.2-l.2).toNat) (mkN true (cap.v-l.2.toNat))))) 165
     | false=>.leaf (.c (.slc key i (.s (if l.2<(cap.v:Int) then e.v+l.2.toNat else e.v)) sz (mkN (l.1&&h.1) (h.2-l.2).toNat) (.s (cap.v-l.2.toNat)))))) 160) 161) 162) 163
 | some mx,.c (.slc key i e sz len cap),some (.slice el)=>match lo,hi with
  | none,some hi=>opt (zd5 P el) (fun n=>chk (zu n sz) (opt (asI hi) (fun h=>opt (asI mx) (fun m=>needP (h.1&&m.1&&cap.kn) (0<=h.2.2/\h.2.2<=m.2.2/\m.2.2<=(cap.v:Int)) (.leaf (.c (.slc key i e sz (mkN h.1 h.2.2.toNat) (mkN m.1 m.2.2.toNat))))) 160) 161) 162) 163
  | _,_=>.bad 167
 | some mx,.c .nils,some (.slice el)=>match lo,hi with
  | none,some hi=>opt (zd5 P el) (fun n=>opt (asI hi) (fun h=>opt (asI mx) (fun m=>needP (h.1&&m.1) (h.2.2=0/\m.2.2=0) (.leaf (.c .nils))) 160) 161) 164
  | _,_=>.bad 167
 | none,.c .nils,some (.slice el)=>opt (zd5 P el) (fun _=>opt (zdv (true,0) lo) (fun l=>opt (zdv (true,0) hi) (fun h=>needP (l.1&&h.1) (l.2=0/\h.2=0) (.leaf (.c .nils))) 160) 161) 164
 | _,_,_=>.bad 165
theorem zgj{P:Program}{n:Nat->Prop}{ρ:Rho}{w:World}{d:Bool×Int}{x:Option SV}{v:Option Value}{r:Bool×Int}(hx:optIs n ρ x v)(hr:zdv d x=some r):
  (x=none/\v=none/\r=d)\/(∃k,v=some (.int k r.2)/\x≠none):=by
 cases x with
 | none=>
  cases v with
  | none=>simp[zdv]at hr;exact .inl ⟨rfl,rfl,hr.symm⟩
  | some v=>exact hx.elim
 | some x=>
  cases v with
  | none=>exact hx.elim
  | some v=>
   simp only[zdv,Option.map_eq_some_iff]at hr
   obtain⟨q,hq,rfl⟩:=hr
   have:=zby hq hx
   exact .inr ⟨q.2.1,by rw[this],by simp⟩
theorem run_bounds{P:Program}{n:Nat->Prop}{ρ:Rho}{w:World}{len cap:Nat}{dk:Bool}{lo hi:Option SV}{vlo vhi:Option Value}{l h:Bool×Int}(hlo:optIs n ρ lo vlo)(hhi:optIs n ρ hi vhi)(hl:zdv (true,0) lo=some l)
  (hr:zdv (dk,(len:Int)) hi=some h) (b0:0<=l.2) (b1:l.2<=h.2) (b2:h.2<=(cap:Int)):(Instr.sliceBounds true len cap vlo vhi none).run P w=.ok (l.2.toNat,h.2.toNat,cap) w:=by
 have b3:0<=h.2:=by omega
 have b1':l.2<=(h.2.toNat:Int):=by omega
 rcases zgj (P:=P) (w:=w) hlo hl with⟨_,rfl,rfl⟩|⟨k1,rfl,_⟩<;>rcases zgj (P:=P) (w:=w) hhi hr with⟨_,rfl,rfl⟩|⟨k2,rfl,_⟩
 ·simp[Instr.sliceBounds]
 ·simp[Instr.sliceBounds,run_sliceBound w k2 h.2 cap _ b3 b2]
 ·simp only[Int.toNat_natCast]at b1'
  simp[Instr.sliceBounds,run_sliceBound w k1 l.2 len _ b0 b1']
 ·simp[Instr.sliceBounds,run_sliceBound w k2 h.2 cap _ b3 b2,run_sliceBound w k1 l.2 h.2.toNat _ b0 b1']
theorem sliceT_ok{P:Program}{ρ:Rho}{H:Hp}{w:World}{t:TypeId}{lo hi mx:Option SV}{x:SV}{vlo vhi vmx:Option Value}{v:Value}{K:SV->Prop}(hx:SIs H.sc ρ x v)(hlo:optIs H.sc ρ lo vlo)(hhi:optIs H.sc ρ hi vhi)
  (hmx:optIs H.sc ρ mx vmx) (hh:(sliceT P t lo hi mx x).holds K):zbo ρ H K w ((Instr.sliceAt t v vlo vhi vmx).run P w):=by
 unfold sliceT at hh
 try simp only[zaq,za2,zbm,za3]at hh
 split at hh
 ·rename_i key i e sz len cap el hu
  have hvm:vmx=none:=by cases vmx with
   | none=>rfl
   | some _=>exact hmx.elim
  subst hvm
  obtain⟨n,hn,hh⟩:=zaa hh
  obtain⟨hz,hh⟩:=zaf hh
  have hz:=zq hz
  obtain⟨l,hl,hh⟩:=zaa hh
  obtain⟨h,hh',hh⟩:=zaa hh
  obtain⟨⟨b0,b1,b2⟩,hh⟩:=zbf hh
  have e0:=hx.eq
  simp only[SV.den,SC.den]at e0
  have hb1:(Instr.sliceAt t v vlo vhi none).run P w=.ok (.slice (if cap.v=l.2.toNat then zal ρ key i (e.v*sz) else(zal ρ key i (e.v*sz)).map (·.add (l.2.toNat*n))) (h.2.toNat-l.2.toNat) (cap.v-l.2.toNat)) w:=by
   rw[e0]
   simp[Instr.sliceAt,Instr.slice,run_underlying hu,run_bounds (P:=P) (w:=w) hlo hhi hl hh' b0 b1 b2,zan hn]
  rcases zgj (P:=P) (w:=w) hlo hl with⟨rfl,_,rfl⟩|⟨k1,_,hne⟩
  ·refine⟨_,_,hb1,hh,fun ρ' ha=>?_⟩
   have e1:=hx ρ' ha
   rw[e0]at e1
   simp only[SV.den,SC.den,Value.slice.injEq]at e1 ⊢
   simp only[Int.toNat_zero,Nat.zero_mul,Nat.sub_zero,mkN_v,and_true]
   rw[e1.1]
   split
   ·rfl
   ·cases zal ρ key i (e.v*sz) with
    | none=>rfl
    | some a=>simp[Addr.add]
  ·cases lo with
   | none=>exact absurd rfl hne
   | some x=>
    simp only at hh
    split at hh
    case h_2=>
     refine⟨_,_,hb1,hh,fun ρ' ha=>?_⟩
     have e1:=hx ρ' ha
     rw[e0]at e1
     simp only[SV.den,SC.den,Value.slice.injEq,NV.v_s,mkN_v]at e1 ⊢
     have e4:(h.2-l.2).toNat=h.2.toNat-l.2.toNat:=by omega
     rw[e4]
     refine⟨?_,rfl,trivial⟩
     by_cases hd:l.2<(cap.v:Int)
     ·rw[if_pos hd,if_neg (by omega),<-e1.1,Nat.add_mul,hz]
      cases hp:zal ρ' key i (e.v*sz) with
      | none=>
       unfold zal at hp ⊢
       cases hq:ρ' key i.v with
       | none=>rfl
       | some q=>rw[hq]at hp;cases hp
      | some a=>exact(zbp hp).1
     ·rw[if_neg hd,if_pos (by omega)]
      exact e1.1
    obtain⟨hd,hK⟩:=zaf hh
    have hd:=of_decide_eq_true hd
    refine⟨_,_,hb1,hK,fun ρ' ha=>?_⟩
    have e1:=hx ρ' ha
    rw[e0]at e1
    simp only[SV.den,SC.den,Value.slice.injEq]at e1 ⊢
    simp only[NV.v_add,mkN_v]
    have e4:(h.2-l.2).toNat=h.2.toNat-l.2.toNat:=by omega
    rw[e4]
    refine⟨?_,rfl,trivial⟩
    by_cases h0:l.2.toNat=0
    ·simp only[h0,Nat.zero_mul,Nat.add_zero]
     rw[e1.1]
     split
     ·rfl
     ·cases zal ρ key i (e.v*sz) with
      | none=>rfl
      | some a=>simp[Addr.add]
    ·rw[if_neg (by omega)]
     rw[Nat.add_mul]
     cases hp:zal ρ key i (e.v*sz) with
     | none=>
      have hp':=e1.1
      rw[hp]at hp'
      unfold zal at hp' ⊢
      cases hq:ρ' key i.v with
      | none=>simp
      | some q=>rw[hq]at hp';cases hp'
     | some a=>
      have hp':=e1.1
      rw[hp]at hp'
      rw[hz]
      exact(zbp (b:=l.2.toNat*sz) hp').1
 ·rename_i mx key i e sz len cap el hu
  obtain⟨vm,rfl⟩:∃vm,vmx=some vm:=by cases vmx with
   | none=>exact hmx.elim
   | some vm=>exact⟨vm,rfl⟩
  split at hh
  ·rename_i hi
   have hvl:vlo=none:=by cases vlo with
    | none=>rfl
    | some _=>exact hlo.elim
   subst hvl
   obtain⟨vh,rfl⟩:∃vh,vhi=some vh:=by cases vhi with
    | none=>exact hhi.elim
    | some vm=>exact⟨vm,rfl⟩
   obtain⟨n,hn,hh⟩:=zaa hh
   obtain⟨hz,hh⟩:=zaf hh
   obtain⟨h,h1,hh⟩:=zaa hh
   obtain⟨m,m1,hh⟩:=zaa hh
   obtain⟨⟨b0,b1,b2⟩,hh⟩:=zbf hh
   have e1:=zby h1 hhi
   have e2:=zby m1 hmx
   subst e1 e2
   have e0:=hx.eq
   simp only[SV.den,SC.den]at e0
   refine⟨.slice (zal ρ key i (e.v*sz)) h.2.2.toNat m.2.2.toNat,_,?_,hh,fun ρ' ha=>?_⟩
   ·rw[e0]
    simp only[Instr.sliceAt,Instr.slice,Sem.run_bind,run_underlying hu,Result.andThen_ok,Instr.sliceBounds,if_true,Option.isSome_some,run_sliceBound w m.2.1 m.2.2 cap.v _ (by omega) b2,run_sliceBound w h.2.1 h.2.2 m.2.2.toNat _ b0 (by omega),Sem.run_pure,zan hn,Nat.sub_zero,Nat.zero_mul]
    congr 2
    split
    ·rfl
    ·cases zal ρ key i (e.v*sz) with
     | none=>rfl
     | some a=>simp[Addr.add]
   ·have e3:=hx ρ' ha
    rw[e0]at e3
    simp only[SV.den,SC.den,Value.slice.injEq]at e3 ⊢
    simp only[mkN_v,and_true]
    exact e3.1
  ·exact hh.elim
 ·rename_i mx el hu
  obtain⟨vm,rfl⟩:∃vm,vmx=some vm:=by cases vmx with
   | none=>exact hmx.elim
   | some vm=>exact⟨vm,rfl⟩
  split at hh
  ·rename_i hi
   have hvl:vlo=none:=by cases vlo with
    | none=>rfl
    | some _=>exact hlo.elim
   subst hvl
   obtain⟨vh,rfl⟩:∃vh,vhi=some vh:=by cases vhi with
    | none=>exact hhi.elim
    | some vm=>exact⟨vm,rfl⟩
   obtain⟨n,hn,hh⟩:=zaa hh
   obtain⟨h,h1,hh⟩:=zaa hh
   obtain⟨m,m1,hh⟩:=zaa hh
   obtain⟨⟨b0,b1⟩,hK⟩:=zbf hh
   have e1:=zby h1 hhi
   have e2:=zby m1 hmx
   subst e1 e2
   have e0:=hx.eq
   simp only[SV.den,SC.den]at e0
   refine⟨.slice none 0 0,_,?_,hK,fun _ _=>rfl⟩
   rw[e0]
   simp only[Instr.sliceAt,Instr.slice,Sem.run_bind,run_underlying hu,Result.andThen_ok,Instr.sliceBounds,if_true,Option.isSome_some,b0,b1,run_sliceBound w m.2.1 0 0 _ (by omega) (by omega),run_sliceBound w h.2.1 0 (0:Int).toNat _ (by omega) (by omega),Sem.run_pure,zan hn]
   rfl
  ·exact hh.elim
 ·rename_i el hu
  have hvm:vmx=none:=by cases vmx with
   | none=>rfl
   | some _=>exact hmx.elim
  subst hvm
  obtain⟨n,hn,hh⟩:=zaa hh
  obtain⟨l,hl,hh⟩:=zaa hh
  obtain⟨h,hh',hh⟩:=zaa hh
  obtain⟨⟨b0,b1⟩,hK⟩:=zbf hh
  have e0:=hx.eq
  simp only[SV.den,SC.den]at e0
  refine⟨.slice none 0 0,_,?_,hK,fun _ _=>rfl⟩
  rw[e0]
  simp[Instr.sliceAt,Instr.slice,run_underlying hu,run_bounds (P:=P) (w:=w) (len:=0) (cap:=0) hlo hhi hl hh' (by omega) (by omega) (by simp;omega),zan hn,b0,b1]
 ·exact hh.elim
def sliceAT(P:Program)(H:HL)(t:TypeId)(lo hi mx:Option SV)(x:SV):Out SV:=
 match x with
 | .c (.ptr key i e f sz)=>match mx,lo,undF P t with
  | none,none,some (.array m el)=>opt (zd5 P el) (fun n=>opt (zdv (true,(m:Int)) hi) (fun h=>chk (e.isZero&&(Nat.ble 1 n&&zu (f % n) 0)) (needP h.1 (0<=h.2/\h.2<=(m:Int))
    ((zdr H key i e).bind fun _=>.leaf (.c (.slc key i (.k (f / n)) n (mkN h.1 h.2.toNat) (.k m))))) 168) 168) 168
  | _,_,_=>.bad 168
 | x=>sliceT P t lo hi mx x
theorem run_boundsA{P:Program}{n:Nat->Prop}{ρ:Rho}{w:World}{len:Nat}{hi:Option SV}{vhi:Option Value}{h:Bool×Int}(hhi:optIs n ρ hi vhi)
  (hr:zdv (true,(len:Int)) hi=some h) (b0:0<=h.2) (b2:h.2<=(len:Int)):(Instr.sliceBounds false len len none vhi none).run P w=.ok (0,h.2.toNat,len) w:=by
 rcases zgj (P:=P) (w:=w) hhi hr with⟨_,rfl,rfl⟩|⟨k2,rfl,_⟩
 ·simp[Instr.sliceBounds]
 ·simp[Instr.sliceBounds,run_sliceBound w k2 h.2 len _ b0 b2]
theorem sliceAT_ok{P:Program}{φ:Fr}{ρ:Rho}{H:Hp}{w:World}{t:TypeId}{lo hi mx:Option SV}{x:SV}{vlo vhi vmx:Option Value}{v:Value}{K:SV->Prop}(h:HInv φ ρ H w)(hx:SIs H.sc ρ x v)(hlo:optIs H.sc ρ lo vlo)(hhi:optIs H.sc ρ hi vhi)
  (hmx:optIs H.sc ρ mx vmx) (hh:(sliceAT P H.h t lo hi mx x).holds K):zbo ρ H K w ((Instr.sliceAt t v vlo vhi vmx).run P w):=by
 unfold sliceAT at hh
 try simp only[zaq,za2,zbm,za3]at hh
 split at hh
 ·rename_i key i e f sz
  split at hh
  ·rename_i m el hu
   have hvm:vmx=none:=by cases vmx with
    | none=>rfl
    | some _=>exact hmx.elim
   have hvl:vlo=none:=by cases vlo with
    | none=>rfl
    | some _=>exact hlo.elim
   subst hvm hvl
   obtain⟨n,hn,hh⟩:=zaa hh
   obtain⟨b,hb,hh⟩:=zaa hh
   obtain⟨hc,hh⟩:=zaf hh
   simp only[zx]at hc
   obtain⟨hz,h1,hm⟩:=hc
   have h1:=zb h1
   have hm:=zq hm
   obtain⟨⟨b0,b2⟩,hh⟩:=zbf hh
   rw[Out.holds_bind]at hh
   obtain⟨hK,p,hp⟩:=zbs h hh
   have hez:=NV.isZero_v hz
   have hf:f / n*n=f:=Nat.div_mul_cancel (Nat.dvd_of_mod_eq_zero hm)
   have e0:=hx.eq
   simp only[SV.den,SC.den,zb5 hp,hez,Nat.zero_mul,z8]at e0
   refine⟨.slice (some ((adr p).add f)) b.2.toNat m,_,?_,hK,fun ρ' ha=>?_⟩
   ·rw[e0]
    simp[Instr.sliceAt,Instr.sureAddr,run_underlying hu,run_boundsA (P:=P) (w:=w) hhi hb b0 b2,zan hn,Addr.add]
   ·have e2:=hx ρ' ha
    rw[e0]at e2
    simp only[SV.den,SC.den,Value.pointer.injEq,hez,Nat.zero_mul,z8]at e2
    simp only[SV.den,SC.den,Value.slice.injEq,mkN_v,NV.v_k,hf]
    exact⟨e2,trivial,trivial⟩
  ·exact hh.elim
 ·exact sliceT_ok hx hlo hhi hmx hh
def constCol:SC->Option Col
 | .ki k n=>some (.ci k fun _ _=>n)
 | .kb b=>some (.cb fun _ _=>b)
 | .nils=>some (.cc .nils)
 | .nilp=>some (.cc .nilp)
 | .nilI=>some (.cc .nilI)
 | _=>none
def zd8:List SC->Option (List Col)
 | []=>some []
 | c::l=>match constCol c,zd8 l with
  | some x,some y=>some (x::y)
  | _,_=>none
theorem ze5:∀ {l:List SC} {cols:List Col},zd8 l=some cols->cols.length=l.length/\∀(f:Nat) (col:Col),cols[f]?=some col->∃c,l[f]?=some c/\∀i e d,col.get i e=some d->∀ρ,d.den ρ=c.den ρ
 | [],cols,h=>by simp[zd8]at h;subst h;exact⟨rfl,fun f col hf=>by simp at hf⟩
 | c::l,cols,h=>by
  simp only[zd8]at h
  split at h
  ·rename_i x y h1 h2
   cases h
   obtain⟨g1,g2⟩:=ze5 h2
   refine⟨by simp[g1],fun f col hf=>?_⟩
   cases f with
   | zero=>
    simp at hf;subst hf
    refine⟨c,rfl,fun i e d hd ρ=>?_⟩
    cases c<;>simp only[constCol]at h1<;>(try cases h1)<;>simp only[Col.get,z0]at hd<;>subst hd<;>rfl
   | succ f=>simpa using g2 f col (by simpa using hf)
  ·cases h
def zfk(P:Program)(H:Hp)(t:TypeId)(ln cp:SV):Out (SV×Hp):=
 match undF P t with
 | some (.slice el)=>opt (infF P el) (fun i=>opt ((zeroT P el).bind (·.cells)) (fun z=>chk (zu z.length i.size&&Nat.ble 1 i.size) (opt (asI ln) (fun l=>opt (asI cp) (fun c=>
   needP (l.1&&c.1) (0<=l.2.2/\l.2.2<=c.2.2/\(i.bytes:Int)*c.2.2<=281474976710656/\c.2.2<=9223372036854775807)
    (match zd8 z,c.1 with
     | some cols,_=>.leaf (.c (.slc H.nxt (.k 0) (.k 0) i.size (mkN l.1 l.2.2.toNat) (mkN c.1 c.2.2.toNat)),rowT H el c.2.2.toNat c.2.2.toNat cols)
     | none,true=>.leaf (.c (.slc H.nxt (.k 0) (.k 0) i.size (mkN l.1 l.2.2.toNat) (mkN c.1 c.2.2.toNat)),rowT H el c.2.2.toNat c.2.2.toNat (colsOf i.size c.2.2.toNat (repl z c.2.2.toNat)))
     | none,false=>.bad 170)) 171) 172) 173) 174) 175
 | _=>.bad 176
theorem makeSliceT_ok{P:Program}{φ:Fr}{ρ:Rho}{H:Hp}{w:World}{t:TypeId}{ln cp:SV}{vl vc:Value}{K:SV×Hp->Prop}(h:HInv φ ρ H w)(hl:SIs H.sc ρ ln vl)(hc:SIs H.sc ρ cp vc)
  (hh:(zfk P H t ln cp).holds K):ze7 φ ρ H K ((Instr.makeSlice t vl vc).run P w):=by
 unfold zfk at hh
 try simp only[zaq,za2,zbm,za3]at hh
 split at hh
 ·rename_i el hu
  obtain⟨i,hi,hh⟩:=zaa hh
  obtain⟨z,hz,hh⟩:=zaa hh
  obtain⟨hb,hh⟩:=zaf hh
  simp only[zx]at hb
  have hb1:=zq hb.1
  have hb2:=zb hb.2
  obtain⟨l,hl',hh⟩:=zaa hh
  obtain⟨c,hc',hh⟩:=zaa hh
  obtain⟨⟨b0,b1,b2,b3⟩,hh⟩:=zbf hh
  have e1:=zby hl' hl;have e2:=zby hc' hc
  subst e1 e2
  cases hz0:zeroT P el with
  | none=>simp[hz0]at hz
  | some zs=>
   simp only[hz0,Option.bind_some]at hz
   obtain⟨i',zv,hi',hzz,hzs⟩:=zfh hz0 (n:=H.sc) (ρ:=ρ)
   rw[hi]at hi';cases hi'
   obtain⟨vs,hvs,hls⟩:=SV.cells_is hzs hz
   have hvl:vs.length=i.size:=by rw[hls.len,hb1]
   have hrun:=run_make (P:=P) w t el i zv hu hi hzz l.2.1 c.2.1 l.2.2 c.2.2 b0 b1 b2 b3
   rw[hvs,<-hvl,zei]at hrun
   have hcm:c.2.2.toNat<=maxLen:=by unfold maxLen;omega
   have hv:∀ρ':Rho,ρ' H.nxt 0=some (w.heap.size,0)->SV.den ρ' (.c (.slc H.nxt (.k 0) (.k 0) i.size (mkN l.1 l.2.2.toNat) (mkN c.1 c.2.2.toNat)))=.slice (some ⟨w.heap.size,0,none⟩) l.2.2.toNat c.2.2.toNat:=by
    intro ρ' hr;simp[SV.den,SC.den,zal,hr]
   split at hh
   ·rename_i cols hcols
    obtain⟨g1,g2⟩:=ze5 hcols
    refine .newRow h hrun hv hh ?_ (Z _) hcm ?_
    ·rw[g1,hb1,List.size_toArray,zcv,hvl]
    ·intro e he f col d hf hg
     obtain⟨x,hx,hd⟩:=g2 f col hf
     obtain⟨u,hu',hi'⟩:=hls.get hx
     have hfl:f<vs.length:=(List.getElem?_eq_some_iff.1 hu').1
     refine⟨u,?_,fun ρ' ha=>by rw[hd 0 e d hg ρ'];exact hi' ρ' ha⟩
     rw[g1,hb1,<-hvl,List.getElem?_toArray,repl_get]
     ·rw[Nat.mul_comm,Nat.mul_add_mod,Nat.mod_eq_of_lt hfl];exact hu'
     ·have:(e+1)*vs.length<=c.2.2.toNat*vs.length:=Nat.mul_le_mul_right _ he
      rw[Nat.add_mul,Nat.one_mul]at this
      omega
   ·rename_i hc1
    have hrl:LIs H.sc ρ (repl z c.2.2.toNat) (repl vs c.2.2.toNat):=fun ρ' ha=>by rw[repl_map,hls ρ' ha]
    have hlen:(repl z c.2.2.toNat).length=c.2.2.toNat*i.size:=by rw[zcv,hb1]
    refine .newRow h hrun hv hh ?_ (Z _) hcm ?_
    ·simp[colsOf,zcv,hvl]
    ·exact fun e he f col d hf hg=>zdt hrl hlen e he f col d hf hg
   ·exact hh.elim
 ·exact hh.elim
theorem app_core{P:Program}(w:World)(t ty el:TypeId)(inf:TypeInfo)(z:Value)(hu:P.underlying t=some (.slice el))(hi:P.info? el=some inf)(hz:inf.zero=some z)(hzs:z.cells.size=inf.size)(hsz:0<inf.size)
  (base:Option Addr) (n cap:Nat) (olds:List Value) (row:Option Nat)
  (hold:(row=none/\n=0/\cap=0/\olds=[])\/∃g arr,row=some g/\base=some ⟨g,0,none⟩/\w.heap[g]?=some (.cells arr el (0,0))/\arr.size=cap*inf.size/\n<=cap/\cap<=maxLen/\olds=arr.toList.take (n*inf.size))
  (xb:Option Addr) (m c:Nat) (news:List Value) (hl:news.length=m*inf.size) (hx:m=0\/∃a,xb=some a/\∀j u,news[j]?=some u->w.cell? (a.add j)=some u) (h1:∀u∈news,u.oneCell'=true)
  (h63:n+m<=maxLen) (hbytes:(n+m)*inf.bytes<=140737488355328):
  ∃base' cap' w',(Builtin.append_ #[t,t] ty #[.slice base n cap,.slice xb m c]).run P w=.ok (.slice base' (n+m) cap') w'/\w.grownBy w' row/\n+m<=cap'/\
   ((cap'=0/\base'=base)\/∃g cur,base'=some ⟨g,0,none⟩/\w'.heap[g]?=some (.cells cur el (0,0))/\cap'<=maxLen/\cur.size=cap'*inf.size/\cur.toList.take ((n+m)*inf.size)=olds++news/\(row=some g\/g=w.heap.size)):=by
 rcases Nat.eq_zero_or_pos m with h0|hm
 ·subst h0
  have hn:news=[]:=List.eq_nil_of_length_eq_zero (by simpa using hl)
  subst hn
  have hnc:n<=cap:=by rcases hold with⟨_,h,h',_⟩|⟨_,_,_,_,_,_,h,_⟩<;>omega
  refine⟨base,cap,w,?_,⟨rfl,rfl,rfl,Z _,fun _ _ _=>rfl⟩,by omega,?_⟩
  ·cases base<;>cases xb<;>simp[Builtin.append_,run_underlying hu,sizeOf,typeInfo,hi,Builtin.lenOf,hnc,Builtin.firstCells,loadCells,loadCellsFrom,storeCells]
  ·rcases hold with⟨_,rfl,rfl,_⟩|⟨g,arr,h2,h3,h4,h5,h6,h7,h8⟩
   ·exact .inl ⟨rfl,rfl⟩
   ·exact .inr ⟨g,arr,h3,h4,h7,h5,by rw[h8];simp,.inl h2⟩
 ·rcases hx with hx|⟨a,rfl,hnews⟩
  ·omega
  rcases hold with⟨rfl,rfl,rfl,rfl⟩|⟨g,arr,rfl,rfl,h4,h5,h6,h7,rfl⟩
  ·cases base with
   | none=>
    obtain⟨v',w',hr,⟨_,ho⟩,hg,_,hat⟩:=run_append_own_at (P:=P) w 0 t ty el inf z inf.size inf.bytes hu hi hz rfl rfl hzs hsz (.slice none 0 0) 0 [] (World.ownsRow_nil w 0 el inf.size) a m c news hl hnews h1 h63 hbytes (Nat.zero_le _)
    rcases ho with⟨_,ho⟩|⟨g,cap',cur,rfl,_,k1,k2,k3,k4,k5⟩
    ·omega
    ·refine⟨_,cap',w',hr,hg,k2,.inr ⟨g,cur,rfl,k1,k3,k4,k5,?_⟩⟩
     rcases hat with hat|hat
     ·simp[Value.ownBlock]at hat
     ·simp[Value.ownBlock]at hat;exact .inr hat
   | some b=>
    have hb:(0+m)*inf.bytes<=140737488355328:=hbytes
    have hr:=run_append_grow (P:=P) w t ty el inf z hu hi hz b 0 0 [] (by simp) (by simp) a m c news hl hnews (by omega) (by simp only[maxLen]at h63;omega) (growslice_fits (by omega) hb)
    refine⟨_,_,_,hr,⟨rfl,rfl,rfl,by simp,fun k hk _=>heap_alloc_old w.drew _ hk⟩,grownCap_ge _ _ _ _,.inr ⟨w.heap.size,_,rfl,heap_alloc_new w.drew _,grownCap_le_maxLen _ _ _ _ h63,?_,?_,.inr rfl⟩⟩
    ·have:=grownCap_ge w (0+m) 0 el
     simp only[z8]at this
     simp only[Array.size_append,List.size_toArray,size_zeroCells,hzs,hl,List.length_nil,z8]
     rw[<-Nat.add_mul]
     congr 1
     omega
    ·simp only[List.nil_append,Array.toList_append]
     rw[show(0+m)*inf.size=news.length by rw[hl,z8]]
     simp
  ·have hown:w.ownsRow 0 el inf.size (.slice (some ⟨g,0,none⟩) n cap) n (arr.toList.take (n*inf.size)):=by
    refine⟨?_,.inr ⟨g,cap,arr,rfl,Nat.zero_le _,h4,h6,h7,h5,rfl⟩⟩
    rw[List.length_take,Array.length_toList,h5]
    exact Nat.min_eq_left (Nat.mul_le_mul_right _ h6)
   obtain⟨v',w',hr,⟨_,ho⟩,hg,_,hat⟩:=run_append_own_at (P:=P) w 0 t ty el inf z inf.size inf.bytes hu hi hz rfl rfl hzs hsz _ n _ hown a m c news hl hnews h1 h63 hbytes (Nat.zero_le _)
   rcases ho with⟨_,ho⟩|⟨g',cap',cur,rfl,_,k1,k2,k3,k4,k5⟩
   ·omega
   ·refine⟨_,cap',w',hr,hg,k2,.inr ⟨g',cur,rfl,k1,k3,k4,k5,?_⟩⟩
    rcases hat with hat|hat
    ·simp[Value.ownBlock]at hat;exact .inl (by rw[hat])
    ·simp[Value.ownBlock]at hat;exact .inr hat
def Rho.put(ρ:Rho)(k:Nat)(g:Option (Nat×Off)):Rho:=fun k' i=>if k'=k then(if i=0 then g else none) else ρ k' i
theorem Rho.put_agree(ρ:Rho){k:Nat}{n:Nat->Prop}(hn:∀j,n j->j<k)(g:Option (Nat×Off)):zat n ρ (ρ.put k g):=fun k' hk=>by
 have:=hn k' hk
 funext i;simp only[Rho.put];rw[if_neg (by omega)]
theorem Rho.put_at(ρ:Rho)(k:Nat)(g:Option (Nat×Off)):ρ.put k g k 0=g:=by simp[Rho.put]
theorem HInv.regrow{φ:Fr}{ρ:Rho}{H:Hp}{w w':World}(h:HInv φ ρ H w){row:Option Nat}(hrow:∀y,row=some y->φ.may y)(hg:w.grownBy w' row){h0:HL}
  (hsub:∀k b,find k h0=some b->∃b0,find k H.h=some b0/\(∀i,b.live i->b0.live i)/\(b.isRow=true->b0.isRow=true)/\b.sat H.sc ρ k w/\∀i,b.live i->∀y o,ρ k i=some (y,o)->row≠some y)
  (g:Option (Nat×Off)) (b:Blk) (hb0:∀i,b.live i->i=0) (hgn:b.live 0->∀y o,g=some (y,o)->y<w'.heap.size) (hgb:b.live 0->∀y o,g=some (y,o)->row=some y\/w.heap.size<=y)
  (hs:b.sat (Hp.sc ⟨(H.nxt,b)::h0,H.nxt+1,H.D⟩) (ρ.put H.nxt g) H.nxt w'):
  HInv φ (ρ.put H.nxt g) ⟨(H.nxt,b)::h0,H.nxt+1,H.D⟩ w':=by
 have hag:zat H.sc ρ (ρ.put H.nxt g):=ρ.put_agree (fun _ hj=>hj.1) g
 have hsc:∀k,H.sc k->Hp.sc ⟨(H.nxt,b)::h0,H.nxt+1,H.D⟩ k:=fun k hk=>⟨Nat.lt_succ_of_lt hk.1,hk.2⟩
 have hlt:∀k c,find k h0=some c->H.sc k:=fun k c hk=>let ⟨b0,h1,_⟩:=hsub k c hk;h.lt k b0 h1
 have hbd:∀k c,find k h0=some c->∀i,c.live i->∀y o,ρ k i=some (y,o)->y<w.heap.size:=fun k c hk i hi y o hy=>
  let ⟨b0,h1,h2,_⟩:=hsub k c hk;h.bd k b0 h1 i (h2 i hi) y o hy
 refine⟨?_,fun k hk=>h.up k (Nat.le_of_succ_le hk),?_,?_,?_,?_,?_⟩
 ·refine⟨hg.os.trans h.fr.os,hg.tape.trans h.fr.tape,hg.output.trans h.fr.output,Nat.le_trans h.fr.size hg.size,fun x hx hn=>?_⟩
  have hxw:x<w.heap.size:=Nat.lt_of_lt_of_le hx h.fr.size
  rw[hg.block x hxw ?_]
  ·exact h.fr.block x hx hn
  ·intro e
   rcases hrow x e.symm with h1|h1
   ·exact hn h1
   ·omega
 ·intro k c hk
  rw[zag]at hk
  split at hk
  ·rename_i e;subst e;exact⟨Nat.lt_succ_self _,h.up _ (Z _)⟩
  ·exact hsc k (hlt k c hk)
 ·intro k c hk
  rw[zag]at hk
  split at hk
  ·rename_i e;cases hk;subst e;exact hs
  ·obtain⟨b0,h1,h2,h3,h4,h5⟩:=hsub k c hk
   refine Blk.sat_ext (n:=H.sc) (ρ:=ρ) (Blk.sat_world h4 ?_) hag hsc (hlt k c hk)
   intro i hi y o hy
   exact hg.block y (hbd k c hk i hi y o hy) (fun e=>h5 i hi y o hy e.symm)
 ·intro k c hk i hi y o hy
  rw[zag]at hk
  split at hk
  ·rename_i e;cases hk;subst e
   have:=hb0 i hi;subst this
   rw[Rho.put_at]at hy
   exact hgn hi y o hy
  ·rename_i e
   simp only[Rho.put,if_neg e]at hy
   exact Nat.lt_of_lt_of_le (hbd k c hk i hi y o hy) hg.size
 ·intro k c hk hr i hi y o hy
  rw[zag]at hk
  split at hk
  ·rename_i e;cases hk;subst e
   have:=hb0 i hi;subst this
   rw[Rho.put_at]at hy
   rcases hgb hi y o hy with h1|h1
   ·exact hrow y h1
   ·exact .inr (Nat.le_trans h.fr.size h1)
  ·rename_i e
   simp only[Rho.put,if_neg e]at hy
   obtain⟨b0,h1,h2,h3,_⟩:=hsub k c hk
   exact h.may k b0 h1 (h3 hr) i (h2 i hi) y o hy
 ·intro k c hk hr k' c' hk' hne j i hj hi y o y' o' hy hy'
  rw[zag]at hk hk'
  split at hk
  ·rename_i e;cases hk;subst e
   rw[if_neg hne]at hk'
   have:=hb0 j hj;subst this
   rw[Rho.put_at]at hy
   simp only[Rho.put,if_neg hne]at hy'
   rcases hgb hj y o hy with h1|h1
   ·obtain⟨b0,_,_,_,_,h5⟩:=hsub k' c' hk'
    rintro rfl
    exact h5 i hi y' o' hy' h1
   ·have:=hbd k' c' hk' i hi y' o' hy'
    omega
  ·rename_i e
   simp only[Rho.put,if_neg e]at hy
   split at hk'
   ·rename_i e';cases hk';subst e'
    have:=hb0 i hi;subst this
    rw[Rho.put_at]at hy'
    rcases hgb hi y' o' hy' with h1|h1
    ·obtain⟨b0,_,_,_,_,h5⟩:=hsub k c hk
     rintro rfl
     exact h5 j hj y' o hy h1
    ·have:=hbd k c hk j hj y o hy
     omega
   ·rename_i e'
    simp only[Rho.put,if_neg e']at hy'
    obtain⟨b0,h1,h2,h3,_⟩:=hsub k c hk
    obtain⟨b0',h1',h2',_⟩:=hsub k' c' hk'
    exact h.sep k b0 h1 (h3 hr) k' b0' h1' hne j i (h2 j hj) (h2' i hi) y o y' o' hy hy'
def Desc(m:Nat->Prop)(ρ:Rho)(n:Nat)(cols:List Col)(vs:List Value):Prop:=
 ∀e,e<n->∀(f:Nat) (col:Col) c,cols[f]?=some col->col.get 0 e=some c->∃v,vs[e*cols.length+f]?=some v/\CIs m ρ c v
def Col.inst(i:Nat):Col->Col
 | .ci k g=>.ci k fun _ e=>g i e
 | .cb g=>.cb fun _ e=>g i e
 | .cs key sz ix len cap=>.cs key sz (fun _ e=>ix i e) (fun _ e=>len i e) (fun _ e=>cap i e)
 | .cp key ix f sz=>.cp key (fun _ e=>ix i e) f sz
 | .cf t key ix f sz=>.cf t key (fun _ e=>ix i e) f sz
 | .ck l=>.ck l
 | .cu=>.cu
 | .cc c=>.cc c
 | .ov _ _ _ _=>.cu
 | .lt _ _ _=>.cu
 | .sel _ _ _=>.cu
theorem Col.inst_get{i:Nat}{col:Col}{e:Nat}{c:SC}(h:(col.inst i).get 0 e=some c):col.get i e=some c:=by
 cases col<;>first|exact h|(simp[Col.inst,Col.get]at h)
def Col.shift(i e2:Nat):Col->Option Col
 | .ci k g=>some (.ci k fun _ e=>g i (e2+e))
 | .cb g=>some (.cb fun _ e=>g i (e2+e))
 | .cs key sz ix len cap=>some (.cs key sz (fun _ e=>ix i (e2+e)) (fun _ e=>len i (e2+e)) (fun _ e=>cap i (e2+e)))
 | .cp key ix f sz=>some (.cp key (fun _ e=>ix i (e2+e)) f sz)
 | .cf t key ix f sz=>some (.cf t key (fun _ e=>ix i (e2+e)) f sz)
 | .cc c=>some (.cc c)
 | _=>none
theorem Col.shift_get{i e2:Nat}{col col':Col}(h:col.shift i e2=some col')(e:Nat):∃c,col'.get 0 e=some c/\col.get i (e2+e)=some c:=by
 cases col<;>simp only[Col.shift]at h<;>cases h<;>exact⟨_,rfl,rfl⟩
def zd3(i e2:Nat):List Col->Option (List Col)
 | []=>some []
 | c::l=>match c.shift i e2,zd3 i e2 l with
  | some x,some y=>some (x::y)
  | _,_=>none
theorem zey{i e2:Nat}:∀ {l l':List Col},zd3 i e2 l=some l'->l'.length=l.length/\∀(f:Nat) col',l'[f]?=some col'->∃col,l[f]?=some col/\col.shift i e2=some col'
 | [],l',h=>by simp[zd3]at h;subst h;exact⟨rfl,fun f col hf=>by simp at hf⟩
 | c::l,l',h=>by
  simp only[zd3]at h
  split at h
  ·rename_i x y h1 h2
   cases h
   obtain⟨g1,g2⟩:=zey h2
   refine⟨by simp[g1],fun f col hf=>?_⟩
   cases f with
   | zero=>simp at hf;subst hf;exact⟨c,rfl,h1⟩
   | succ f=>simpa using g2 f col (by simpa using hf)
  ·cases h
def putL:NV->Col->List SC->Option Col
 | _,col,[]=>some col
 | n,col,c::l=>(col.set true (.k 0) n c).bind fun col'=>putL (n.add (.k 1)) col' l
theorem putL_get:∀ {l:List SC} {n:NV} {col col':Col},putL n col l=some col'->∀(e:Nat) d,col'.get 0 e=some d->(e<n.v->col.get 0 e=some d)/\(∀(j:Nat) x,l[j]?=some x->e=n.v+j->∀ρ,d.den ρ=x.den ρ)
 | [],n,col,col',h,e,d,hd=>by simp[putL]at h;subst h;exact⟨fun _=>hd,fun j x hx=>by simp at hx⟩
 | c::l,n,col,col',h,e,d,hd=>by
  simp only[putL,Option.bind_eq_some_iff]at h
  obtain⟨col1,h1,h2⟩:=h
  obtain⟨g1,g2⟩:=putL_get h2 e d hd
  simp only[NV.v_add,NV.v_k]at g1 g2
  refine⟨fun he=>?_,fun j x hx hej=>?_⟩
  ·exact(Col.get_set h1 (fun _=>rfl) 0 e (fun _=>rfl) d (g1 (by omega))).2 (fun h=>by omega)
  ·cases j with
   | zero=>
    simp at hx;subst hx
    exact(Col.get_set h1 (fun _=>rfl) 0 e (fun _=>rfl) d (g1 (by omega))).1 ⟨rfl,by omega⟩
   | succ j=>exact g2 j x (by simpa using hx) (by omega)
def catLit(n m:NV)(col:Col)(l:List SC):Option Col:=match m with
 | .k j=>bif zu j l.length then putL n col l else none
 | .s _=>none
def catCol(n m:NV):Col->Col->Option Col
 | .cu,_=>some .cu
 | col,.ck l=>catLit n m col l
 | .ci k g,.ci k' g'=>bif zak k k' then some (.ci k fun _ e=>if e<n.v then g 0 e else g' 0 (e-n.v)) else none
 | .cb g,.cb g'=>some (.cb fun _ e=>if e<n.v then g 0 e else g' 0 (e-n.v))
 | _,.cu=>some .cu
 | _,_=>none
theorem catCol_get{n m:NV}{a b c:Col}(h:catCol n m a b=some c)(e:Nat)(d:SC)(hd:c.get 0 e=some d):
  (e<n.v->a.get 0 e=some d)/\(n.v<=e->e<n.v+m.v->∃x,b.get 0 (e-n.v)=some x/\∀ρ,d.den ρ=x.den ρ):=by
 have put:∀l,b=.ck l->catLit n m a l=some c->(e<n.v->a.get 0 e=some d)/\(n.v<=e->e<n.v+m.v->∃x,b.get 0 (e-n.v)=some x/\∀ρ,d.den ρ=x.den ρ):=by
  rintro l rfl h
  unfold catLit at h
  cases m with
  | s j=>cases h
  | k j=>
   simp only at h
   by_cases hb:zu j l.length=true
   ·rw[hb]at h
    have hb:=zq hb
    obtain⟨g1,g2⟩:=putL_get (l:=l) h e d hd
    refine⟨g1,fun h1 h2=>?_⟩
    simp only[NV.v_k]at h2
    obtain⟨x,hx⟩:∃x,l[e-n.v]?=some x:=⟨_,List.getElem?_eq_getElem (by omega)⟩
    exact⟨x,hx,g2 (e-n.v) x hx (by omega)⟩
   ·rw[Bool.eq_false_iff.2 hb]at h;cases h
 have fn:∀(k:IntKind) (g g':Nat->Nat->Int),a=.ci k g->b=.ci k g'->c=.ci k (fun _ e=>if e<n.v then g 0 e else g' 0 (e-n.v))->(e<n.v->a.get 0 e=some d)/\(n.v<=e->e<n.v+m.v->∃x,b.get 0 (e-n.v)=some x/\∀ρ,d.den ρ=x.den ρ):=by
  rintro k g g' rfl rfl rfl
  simp only[Col.get,z0]at hd ⊢
  subst hd
  exact⟨fun h=>by rw[if_pos h],fun h1 _=>⟨_,rfl,fun ρ=>by rw[if_neg (by omega)]⟩⟩
 have fb:∀(g g':Nat->Nat->Bool),a=.cb g->b=.cb g'->c=.cb (fun _ e=>if e<n.v then g 0 e else g' 0 (e-n.v))->(e<n.v->a.get 0 e=some d)/\(n.v<=e->e<n.v+m.v->∃x,b.get 0 (e-n.v)=some x/\∀ρ,d.den ρ=x.den ρ):=by
  rintro g g' rfl rfl rfl
  simp only[Col.get,z0]at hd ⊢
  subst hd
  exact⟨fun h=>by rw[if_pos h],fun h1 _=>⟨_,rfl,fun ρ=>by rw[if_neg (by omega)]⟩⟩
 cases b with
 | ck l=>
  cases a with
  | cu=>cases h;simp[Col.get]at hd
  | _=>exact put _ rfl h
 | cu=>cases a<;>(simp only[catCol,z0]at h;subst h;simp[Col.get]at hd)
 | ci k' g'=>
  cases a with
  | cu=>cases h;simp[Col.get]at hd
  | ci k g=>
   simp only[catCol]at h
   by_cases hk:zak k k'=true
   ·have:=zap hk;subst this
    rw[hk]at h
    cases h
    exact fn _ _ _ rfl rfl rfl
   ·rw[Bool.eq_false_iff.2 hk]at h;cases h
  | _=>cases h
 | cb g'=>
  cases a with
  | cu=>cases h;simp[Col.get]at hd
  | cb g=>cases h;exact fb _ _ rfl rfl rfl
  | _=>cases h
 | _=>
  cases a with
  | cu=>cases h;simp[Col.get]at hd
  | _=>cases h
def zd6(n m:NV):List Col->List Col->Option (List Col)
 | [],[]=>some []
 | a::l,b::l'=>match catCol n m a b,zd6 n m l l' with
  | some x,some y=>some (x::y)
  | _,_=>none
 | _,_=>none
theorem zej{n m:NV}:∀ {a b c:List Col},zd6 n m a b=some c->c.length=a.length/\b.length=a.length/\∀(f:Nat) z,c[f]?=some z->∃x y,a[f]?=some x/\b[f]?=some y/\catCol n m x y=some z
 | [],[],c,h=>by simp[zd6]at h;subst h;exact⟨rfl,rfl,fun f z hz=>by simp at hz⟩
 | [],_::_,c,h=>by simp[zd6]at h
 | _::_,[],c,h=>by simp[zd6]at h
 | x::a,y::b,c,h=>by
  simp only[zd6]at h
  split at h
  ·rename_i z t h1 h2
   cases h
   obtain⟨g1,g2,g3⟩:=zej h2
   refine⟨by simp[g1],by simp[g2],fun f z' hz=>?_⟩
   cases f with
   | zero=>simp at hz;subst hz;exact⟨x,y,rfl,rfl,h1⟩
   | succ f=>simpa using g3 f z' (by simpa using hz)
  ·cases h
theorem Desc.cat{p:Nat->Prop}{ρ:Rho}{n m:NV}{a b c:List Col}{olds news:List Value}(h:zd6 n m a b=some c)(ha:Desc p ρ n.v a olds)(hb:Desc p ρ m.v b news)(hl:olds.length=n.v*a.length):Desc p ρ (n.v+m.v) c (olds++news):=by
 obtain⟨g1,g2,g3⟩:=zej h
 intro e he f col d hf hd
 obtain⟨x,y,hx,hy,hz⟩:=g3 f col hf
 obtain⟨k1,k2⟩:=catCol_get hz e d hd
 have hfl:f<a.length:=(List.getElem?_eq_some_iff.1 hx).1
 rw[g1]
 rcases Nat.lt_or_ge e n.v with h1|h1
 ·obtain⟨v,hv,hi⟩:=ha e h1 f x d hx (k1 h1)
  have hin:=(List.getElem?_eq_some_iff.1 hv).1
  exact⟨v,by rw[List.getElem?_append_left hin];exact hv,hi⟩
 ·obtain⟨u,hu,hden⟩:=k2 h1 he
  obtain⟨v,hv,hi⟩:=hb (e-n.v) (by omega) f y u hy hu
  refine⟨v,?_,fun ρ' ha=>by rw[hden];exact hi ρ' ha⟩
  have:n.v*a.length<=e*a.length:=Nat.mul_le_mul_right _ h1
  rw[List.getElem?_append_right (by omega),<-hv,hl,g2]
  congr 1
  rw[Nat.sub_mul]
  omega
def elemsAt(H:HL)(key:Nat)(i:NV)(sz:Nat):NV->Nat->Out (List SC)
 | _,0=>.leaf []
 | e,m+1=>(cellsAt H key i e sz 0 sz).bind fun l=>(elemsAt H key i sz (e.add (.k 1)) m).bind fun l'=>.leaf (l++l')
theorem LIs.append{n:Nat->Prop}{ρ:Rho}{a b:List SC}{x y:List Value}(h:LIs n ρ a x)(g:LIs n ρ b y):LIs n ρ (a++b) (x++y):=fun ρ' ha=>by
 rw[List.map_append,h ρ' ha,g ρ' ha]
theorem elemsAt_ok{φ:Fr}{ρ:Rho}{H:Hp}{w:World}{key:Nat}{i:NV}{sz:Nat}(h:HInv φ ρ H w):∀(m:Nat) (e:NV) {K:List SC->Prop},(elemsAt H.h key i sz e m).holds K->
  ∃l vs,K l/\l.length=m*sz/\LIs H.sc ρ l vs/\∀j v,vs[j]?=some v->∃p,zal ρ key i (e.v*sz+j)=some p/\w.cell? p=some v
 | 0,e,K,hh=>⟨[],[],hh,by simp,.nil _ _,fun j v hv=>by simp at hv⟩
 | m+1,e,K,hh=>by
  simp only[elemsAt,Out.holds_bind]at hh
  obtain⟨l,vs,hh,hlen,hl,hc⟩:=zfu h sz 0 hh
  obtain⟨l',vs',hK,hlen',hl',hc'⟩:=elemsAt_ok h m (e.add (.k 1)) hh
  refine⟨l++l',vs++vs',hK,by rw[List.length_append,hlen,hlen',Nat.add_mul];omega,hl.append hl',fun j v hv=>?_⟩
  have hvl:vs.length=sz:=by rw[hl.len,hlen]
  rcases Nat.lt_or_ge j vs.length with h1|h1
  ·rw[List.getElem?_append_left h1]at hv
   obtain⟨p,hp,hw⟩:=hc j v hv
   exact⟨p,by rw[<-hp,z8],hw⟩
  ·rw[List.getElem?_append_right h1]at hv
   obtain⟨p,hp,hw⟩:=hc' _ v hv
   refine⟨p,?_,hw⟩
   rw[<-hp]
   congr 1
   simp only[NV.v_add,NV.v_k,Nat.add_mul,Nat.one_mul]
   omega
def zd1:Col->Bool
 | .cc c=>c.oneCell
 | .ck l=>l.all SC.oneCell
 | .ov _ _ c col=>c.oneCell&&zd1 col
 | .lt _ a b=>zd1 a&&zd1 b
 | .sel _ a b=>zd1 a&&zd1 b
 | _=>true
theorem oneCol_get:∀ {col:Col},zd1 col=true->∀ {i e:Nat} {c:SC},col.get i e=some c->c.oneCell=true:=by
 intro col
 induction col with
 | ck l=>intro h i e c hc;exact List.all_eq_true.1 h c (List.mem_of_getElem? hc)
 | cc d=>intro h i e c hc;simp only[Col.get,z0]at hc;subst hc;exact h
 | cu=>intro h i e c hc;simp[Col.get]at hc
 | ov i0 e0 d col ih=>
  intro h i e c hc
  simp only[zd1,zx]at h
  simp only[Col.get]at hc
  split at hc
  ·cases hc;exact h.1
  ·exact ih h.2 hc
 | lt n a b iha ihb=>
  intro h i e c hc
  simp only[zd1,zx]at h
  simp only[Col.get]at hc
  split at hc
  ·exact iha h.1 hc
  ·exact ihb h.2 hc
 | sel p a b iha ihb=>
  intro h i e c hc
  simp only[zd1,zx]at h
  simp only[Col.get]at hc
  split at hc
  ·exact iha h.1 hc
  ·exact ihb h.2 hc
 | _=>intro h i e c hc;simp only[Col.get,z0]at hc;subst hc;rfl
def lenAt(H:HL)(key:Nat)(i:NV):Option (Nat×List Col):=
 match find key H with
 | some (.row _ _ n cols)=>match i.isZero with
  | true=>some (n,cols)
  | false=>none
 | some (.fam _ _ _ len cols)=>some (len i.v,cols)
 | some (.view m len cols)=>match i with
  | .k 0=>match m with
   | 1=>some (len 0,cols)
   | _=>none
  | .s j=>some (if j<m then len j else 0,cols)
  | _=>none
 | _=>none
theorem lenAt_ok{φ:Fr}{ρ:Rho}{H:Hp}{w:World}{key:Nat}{i:NV}{n:Nat}{cols:List Col}(h:HInv φ ρ H w)(hn:lenAt H.h key i=some (n,cols)):∀e,e<n->∀(f:Nat) col c,cols[f]?=some col->col.get i.v e=some c->
  ∃v p,CIs H.sc ρ c v/\zal ρ key i (e*cols.length+f)=some p/\w.cell? p=some v:=by
 unfold lenAt at hn
 split at hn
 ·rename_i t cap n' cols' hf
  split at hn
  ·rename_i hz
   cases hn
   intro e he f col c hc hg
   rcases h.sat key _ hf with⟨h0,_⟩|⟨b,arr,h1,h2,h3,h4,h4',h5⟩
   ·omega
   rw[NV.isZero_v hz]at hg
   obtain⟨v,hv,hs⟩:=h5 e he f col c hc hg
   exact⟨v,⟨b,0+(e*cols.length+f),none⟩,hs,by simp[zal,NV.isZero_v hz,h1],by rw[z8,cell_of_row w b _ arr t _ h2];exact hv⟩
  ·cases hn
 ·rename_i rw' t cap len cols' hf
  cases hn
  intro e he f col c hc hg
  obtain⟨h1,_,h3⟩:=h.sat key _ hf
  obtain⟨b,arr,g1,g2,g3,g4⟩:=h3 i.v (by have:=(h1 i.v).1;omega)
  obtain⟨v,hv,hs⟩:=g4 e he f col c hc hg
  exact⟨v,⟨b,0+(e*cols.length+f),none⟩,hs,by simp[zal,g1],by rw[z8,cell_of_row w b _ arr t _ g2];exact hv⟩
 ·rename_i m len cols' hf
  split at hn
  ·split at hn
   ·cases hn
    intro e he f col c hc hg
    obtain⟨b,o,h1,h2⟩:=h.sat key _ hf 0 (by omega) e he
    obtain⟨v,hv,hs⟩:=h2 f col c hc hg
    exact⟨v,_,hs,by simp[zal,h1],hv⟩
   ·cases hn
  ·rename_i j
   cases hn
   intro e he f col c hc hg
   by_cases hj:j<m
   ·rw[if_pos hj]at he
    obtain⟨b,o,h1,h2⟩:=h.sat key _ hf j hj e he
    obtain⟨v,hv,hs⟩:=h2 f col c hc hg
    exact⟨v,_,hs,by simp[zal,h1],hv⟩
   ·rw[if_neg hj]at he;omega
  ·cases hn
 ·cases hn
def srcT(H:HL)(sz:Nat):SV->Out (List Col×NV)
 | .c (.slc key i e sz2 (.k m) _)=>chk (zu sz sz2&&Nat.ble 1 sz) ((elemsAt H key i sz e m).bind fun l=>.leaf (colsOf sz m l,.k m)) 180
 | .c (.slc key i e sz2 (.s m) _)=>opt (lenAt H key i) (fun r=>chk (zu sz sz2&&(zu r.2.length sz&&Nat.ble 1 sz)) (opt (zd3 i.v e.v r.2) (fun cols=>.need (e.v+m<=r.1) (.leaf (cols,.s m))) 181) 182) 183
 | _=>.bad 184
theorem exists_list{p:Nat->Value->Prop}:∀n,(∀j,j<n->∃v,p j v)->∃l:List Value,l.length=n/\∀j v,l[j]?=some v->p j v
 | 0,_=>⟨[],rfl,fun j v h=>by simp at h⟩
 | n+1,h=>by
  obtain⟨l,h1,h2⟩:=exists_list n (fun j hj=>h j (by omega))
  obtain⟨x,hx⟩:=h n (by omega)
  refine⟨l++[x],by simp[h1],fun j v hv=>?_⟩
  rcases Nat.lt_or_ge j l.length with h3|h3
  ·rw[List.getElem?_append_left h3]at hv;exact h2 j v hv
  ·rw[List.getElem?_append_right h3]at hv
   have:j=l.length:=by
    have:=(List.getElem?_eq_some_iff.1 hv).1
    simp at this;omega
   subst this
   simp at hv;subst hv
   rw[h1];exact hx
theorem srcT_ok{φ:Fr}{ρ:Rho}{H:Hp}{w:World}{sz:Nat}{x:SV}{vx:Value}{K:List Col×NV->Prop}(h:HInv φ ρ H w)(hx:SIs H.sc ρ x vx)(hh:(srcT H.h sz x).holds K):
  ∃cols m xb c news,K (cols,m)/\vx=.slice xb m.v c/\cols.length=sz/\0<sz/\news.length=m.v*sz/\(m.v=0\/∃a,xb=some a/\∀j u,news[j]?=some u->w.cell? (a.add j)=some u)/\Desc H.sc ρ m.v cols news/\
   (cols.all zd1=true->∀u∈news,u.oneCell'=true):=by
 unfold srcT at hh
 split at hh
 ·rename_i key i e sz2 m c
  replace hh:=zaf hh
  obtain⟨hb,hh⟩:=hh
  simp only[zx]at hb
  have hz:=zq hb.1;have hs1:=zb hb.2
  subst hz
  rw[Out.holds_bind]at hh
  obtain⟨l,vs,hK,hlen,hl,hc⟩:=elemsAt_ok h m e hh
  have hv:vx=.slice (zal ρ key i (e.v*sz)) m c.v:=hx.eq
  have hvl:vs.length=m*sz:=by rw[hl.len,hlen]
  have hcl:(colsOf sz m l).length=sz:=by simp[colsOf]
  have hd:Desc H.sc ρ m (colsOf sz m l) vs:=fun q hq f col d hf hd=>by simpa using zdt hl hlen q hq f col d hf hd
  refine⟨_,.k m,_,_,vs,hK,hv,hcl,hs1,hvl,?_,hd,?_⟩
  ·rcases Nat.eq_zero_or_pos m with h0|h0
   ·exact .inl h0
   ·right
    have:0<m*sz:=Nat.mul_pos h0 hs1
    obtain⟨u,hu⟩:∃u,vs[0]?=some u:=⟨_,List.getElem?_eq_getElem (by omega)⟩
    obtain⟨p,hp,_⟩:=hc 0 u hu
    refine⟨p,by simpa using hp,fun j u hu=>?_⟩
    obtain⟨q,hq,hqw⟩:=hc j u hu
    have:=(zbp (b:=j) (by simpa using hp)).1
    rw[this]at hq;cases hq;exact hqw
  ·intro ho u hu
   obtain⟨j,hj⟩:=List.mem_iff_getElem?.1 hu
   have hjl:=(List.getElem?_eq_some_iff.1 hj).1
   have hjm:j<m*sz:=by omega
   have h1:j / sz<m:=by rw[Nat.div_lt_iff_lt_mul hs1];exact hjm
   have h2:j % sz<sz:=Nat.mod_lt _ hs1
   have hcol:(colsOf sz m l)[j % sz]?=some (.ck ((List.range m).map fun e=>(l[e*sz+j % sz]?).getD .nilp)):=by
    simp[colsOf,List.getElem?_map,List.getElem?_range h2]
   have hget:∃d,(Col.ck ((List.range m).map fun e=>(l[e*sz+j % sz]?).getD .nilp)).get 0 (j / sz)=some d:=⟨(l[j / sz*sz+j % sz]?).getD .nilp,by simp only[Col.get,List.getElem?_map,List.getElem?_range h1,Option.map_some]⟩
   obtain⟨d,hd'⟩:=hget
   obtain⟨v,hv',hi⟩:=hd (j / sz) h1 _ _ d hcol hd'
   rw[hcl,Nat.div_add_mod' j sz,hj]at hv'
   cases hv'
   exact hi.one (oneCol_get (List.all_eq_true.1 ho _ (List.mem_of_getElem? hcol)) hd')
 ·rename_i key i e sz2 m c
  replace hh:=zaa hh
  obtain⟨⟨n2,cols2⟩,hn,hh⟩:=hh
  replace hh:=zaf hh
  obtain⟨hb,hh⟩:=hh
  simp only[zx]at hb
  have hz:=zq hb.1;have hzl:=zq hb.2.1;have hs1:=zb hb.2.2
  subst hz
  replace hh:=zaa hh
  obtain⟨cols,hcols,hle,hK⟩:=hh
  simp only at hzl hcols hle
  obtain⟨g1,g2⟩:=zey hcols
  have hat:=lenAt_ok h hn
  have hv:vx=.slice (zal ρ key i (e.v*sz)) m c.v:=hx.eq
  have cell:∀q,q<m->∀(f:Nat),f<sz->∃col c v p,cols[f]?=some col/\col.get 0 q=some c/\CIs H.sc ρ c v/\zal ρ key i (e.v*sz+(q*sz+f))=some p/\w.cell? p=some v:=by
   intro q hq f hf
   obtain⟨col,hcol⟩:∃col,cols[f]?=some col:=⟨_,List.getElem?_eq_getElem (by omega)⟩
   obtain⟨col2,hcol2,hsh⟩:=g2 f col hcol
   obtain⟨d,hd1,hd2⟩:=Col.shift_get hsh q
   obtain⟨v,p,hi,hp,hw⟩:=hat (e.v+q) (by omega) f col2 d hcol2 hd2
   refine⟨col,d,v,p,hcol,hd1,hi,?_,hw⟩
   rw[<-hp,hzl,Nat.add_mul,Nat.add_assoc]
  obtain⟨news,hnl,hnews⟩:=exists_list (p:=fun j v=>∃col c p,cols[j % sz]?=some col/\col.get 0 (j / sz)=some c/\CIs H.sc ρ c v/\zal ρ key i (e.v*sz+j)=some p/\w.cell? p=some v) (m*sz) (fun j hj=>by
   obtain⟨col,c,v,p,h1,h2,h3,h4,h5⟩:=cell (j / sz) (by rw[Nat.div_lt_iff_lt_mul hs1];exact hj) (j % sz) (Nat.mod_lt _ hs1)
   exact⟨v,col,c,p,h1,h2,h3,by rw[<-h4,Nat.div_add_mod' j sz],h5⟩)
  refine⟨cols,.s m,_,_,news,hK,hv,by omega,hs1,hnl,?_,?_,?_⟩
  ·rcases Nat.eq_zero_or_pos m with h0|h0
   ·exact .inl h0
   ·right
    have:0<m*sz:=Nat.mul_pos h0 hs1
    obtain⟨u,hu⟩:∃u,news[0]?=some u:=⟨_,List.getElem?_eq_getElem (by omega)⟩
    obtain⟨_,_,p,_,_,_,hp,_⟩:=hnews 0 u hu
    refine⟨p,by simpa using hp,fun j u hu=>?_⟩
    obtain⟨_,_,q,_,_,_,hq,hqw⟩:=hnews j u hu
    have:=(zbp (b:=j) (by simpa using hp)).1
    rw[this]at hq;cases hq;exact hqw
  ·intro q hq f col d hf hd
   have hfl:f<cols.length:=(List.getElem?_eq_some_iff.1 hf).1
   have hlen:cols.length=sz:=by omega
   rw[hlen]
   have hin:q*sz+f<m*sz:=by
    have:(q+1)*sz<=m*sz:=Nat.mul_le_mul_right _ hq
    rw[Nat.add_mul,Nat.one_mul]at this
    omega
   obtain⟨u,hu⟩:∃u,news[q*sz+f]?=some u:=⟨_,List.getElem?_eq_getElem (by omega)⟩
   obtain⟨col',c',p,h1,h2,h3,_⟩:=hnews _ u hu
   have e1:(q*sz+f) % sz=f:=by rw[Nat.mul_comm,Nat.mul_add_mod,Nat.mod_eq_of_lt (by omega)]
   have e2:(q*sz+f) / sz=q:=by rw[Nat.mul_comm,Nat.mul_add_div hs1,Nat.div_eq_of_lt (by omega)];rfl
   rw[e1,hf]at h1;cases h1
   rw[e2,hd]at h2;cases h2
   exact⟨u,hu,h3⟩
  ·intro ho u hu
   obtain⟨j,hj⟩:=List.mem_iff_getElem?.1 hu
   obtain⟨col,c,p,h1,h2,h3,_⟩:=hnews j u hj
   exact h3.one (oneCol_get (List.all_eq_true.1 ho _ (List.mem_of_getElem? h1)) h2)
 ·exact hh.elim
structure Tgt where
 n:NV
 cols:Option (List Col)
 h0:HL
def zde(i:Nat)(f:Nat->Nat):Nat->Nat:=fun j=>if j=i then 0 else f j
def tgtT(H:HL)(el:TypeId)(sz:Nat):SV->Out Tgt
 | .c .nils=>.leaf ⟨.k 0,none,H⟩
 | .c (.slc key i e sz2 len cap)=>chk (zu sz sz2) (match cap with
  | .k 0=>.need (len.v=0) (.leaf ⟨.k 0,none,H⟩)
  | cap=>match find key H with
   | some (.row t cap' n' cols)=>chk (i.isZero&&(e.isZero&&(zu t el&&zu cols.length sz))) (.need (len.v<=n'/\cap.v=cap') (.leaf ⟨len,some cols,drop key H⟩)) 186
   | some (.fam rw t capf lenf cols)=>chk (rw&&(e.isZero&&(zu t el&&zu cols.length sz))) (.need (len.v<=lenf i.v/\cap.v=capf i.v) (.leaf ⟨len,some (cols.map (Col.inst i.v)),upd key (.fam rw t (zde i.v capf) (zde i.v lenf) cols) H⟩)) 187
   | _=>.bad 188) 189
 | _=>.bad 190
theorem tgtT_ok{φ:Fr}{ρ:Rho}{H:Hp}{w:World}{el:TypeId}{sz:Nat}{s:SV}{v:Value}{K:Tgt->Prop}(h:HInv φ ρ H w)(hs:SIs H.sc ρ s v)(hsz:0<sz)(hh:(tgtT H.h el sz s).holds K):
  ∃T base cap olds row,K T/\v=.slice base T.n.v cap/\(∃p:Option (Nat×Off),base=p.map adr)/\
   ((row=none/\T.n.v=0/\cap=0/\olds=[])\/∃g arr,row=some g/\base=some ⟨g,0,none⟩/\w.heap[g]?=some (.cells arr el (0,0))/\arr.size=cap*sz/\T.n.v<=cap/\cap<=maxLen/\olds=arr.toList.take (T.n.v*sz))/\
   (∀y,row=some y->φ.may y)/\(T.cols=none->T.n=.k 0/\olds=[])/\(∀cols,T.cols=some cols->cols.length=sz/\Desc H.sc ρ T.n.v cols olds/\olds.length=T.n.v*sz)/\
   (∀k b,find k T.h0=some b->∃b0,find k H.h=some b0/\(∀i,b.live i->b0.live i)/\(b.isRow=true->b0.isRow=true)/\b.sat H.sc ρ k w/\∀i,b.live i->∀y o,ρ k i=some (y,o)->row≠some y):=by
 have triv:∀k b,find k H.h=some b->∃b0,find k H.h=some b0/\(∀i,b.live i->b0.live i)/\(b.isRow=true->b0.isRow=true)/\b.sat H.sc ρ k w/\∀i,b.live i->∀y o,ρ k i=some (y,o)->(none:Option Nat)≠some y:=
  fun k b hk=>⟨b,hk,fun _ h=>h,fun h=>h,h.sat k b hk,fun _ _ _ _ _ h=>by cases h⟩
 have bp:∀key (i:NV) off,∃p:Option (Nat×Off),zal ρ key i off=p.map adr:=fun key i off=>⟨(zal ρ key i off).map fun a=>(a.block,⟨a.off,a.spot⟩),by cases zal ρ key i off<;>rfl⟩
 have gen:∀(key:Nat) (i e len cap:NV),s=.c (.slc key i e sz len cap)->(match find key H.h with
   | some (.row t cap' n' cols)=>chk (i.isZero&&(e.isZero&&(zu t el&&zu cols.length sz))) (.need (len.v<=n'/\cap.v=cap') (.leaf ⟨len,some cols,drop key H.h⟩)) 186
   | some (.fam rw t capf lenf cols)=>chk (rw&&(e.isZero&&(zu t el&&zu cols.length sz))) (.need (len.v<=lenf i.v/\cap.v=capf i.v) (.leaf ⟨len,some (cols.map (Col.inst i.v)),upd key (.fam rw t (zde i.v capf) (zde i.v lenf) cols) H.h⟩)) 187
   | _=>.bad 188:Out Tgt).holds K->∃T base cap olds row,K T/\v=.slice base T.n.v cap/\(∃p:Option (Nat×Off),base=p.map adr)/\
   ((row=none/\T.n.v=0/\cap=0/\olds=[])\/∃g arr,row=some g/\base=some ⟨g,0,none⟩/\w.heap[g]?=some (.cells arr el (0,0))/\arr.size=cap*sz/\T.n.v<=cap/\cap<=maxLen/\olds=arr.toList.take (T.n.v*sz))/\
   (∀y,row=some y->φ.may y)/\(T.cols=none->T.n=.k 0/\olds=[])/\(∀cols,T.cols=some cols->cols.length=sz/\Desc H.sc ρ T.n.v cols olds/\olds.length=T.n.v*sz)/\
   (∀k b,find k T.h0=some b->∃b0,find k H.h=some b0/\(∀i,b.live i->b0.live i)/\(b.isRow=true->b0.isRow=true)/\b.sat H.sc ρ k w/\∀i,b.live i->∀y o,ρ k i=some (y,o)->row≠some y):=by
  intro key i e len cap hse hh
  have hv:v=.slice (zal ρ key i (e.v*sz)) len.v cap.v:=by rw[hse]at hs;exact hs.eq
  split at hh
  ·rename_i t cap' n' cols hf
   obtain⟨hb,⟨hle,hcap⟩,hK⟩:=zaf hh
   simp only[zx]at hb
   obtain⟨hi0,he0,ht,hcl⟩:=hb
   have hi0:=NV.isZero_v hi0;have he0:=NV.isZero_v he0;have ht:=zq ht;have hcl:=zq hcl
   subst ht
   rcases h.sat key _ hf with⟨h1,h2⟩|⟨b,arr,h1,h2,h3,h4,h4',h5⟩
   ·refine⟨_,_,_,[],none,hK,hv,bp _ _ _,.inl ⟨rfl,by simp only;omega,by omega,rfl⟩,(fun y hy=>nomatch hy),(by rintro⟨⟩),?_,?_⟩
    ·rintro c ⟨⟩
     exact⟨hcl,fun q hq=>by simp only at hq;omega,by simp only;rw[show len.v=0 by omega];simp⟩
    ·intro k b hk
     simp only[zb7]at hk
     split at hk
     ·cases hk
     ·exact triv k b hk
   ·have hbase:zal ρ key i (e.v*sz)=some ⟨b,0,none⟩:=by simp[zal,hi0,he0,h1]
    have holen:(arr.toList.take (len.v*sz)).length=len.v*sz:=by
     rw[List.length_take,Array.length_toList,h3,hcl]
     exact Nat.min_eq_left (Nat.mul_le_mul_right _ (by omega))
    rcases Nat.eq_zero_or_pos cap' with hc0|hc0
    ·refine⟨_,_,_,[],none,hK,hv,bp _ _ _,.inl ⟨rfl,by simp only;omega,by omega,rfl⟩,(fun y hy=>nomatch hy),(by rintro⟨⟩),?_,?_⟩
     ·rintro c ⟨⟩
      exact⟨hcl,fun q hq=>by simp only at hq;omega,by simp only;rw[show len.v=0 by omega];simp⟩
     ·intro k b hk
      simp only[zb7]at hk
      split at hk
      ·cases hk
      ·exact triv k b hk
    have hlive:Blk.live (.row t cap' n' cols) 0:=⟨rfl,hc0⟩
    refine⟨_,_,_,_,some b,hK,hv,bp _ _ _,.inr ⟨b,arr,rfl,hbase,h2,by rw[hcap,<-hcl];exact h3,by simp only;omega,by omega,rfl⟩,(fun y hy=>by cases hy;exact h.may key _ hf rfl 0 hlive _ 0 h1),(by rintro⟨⟩),?_,?_⟩
    ·rintro c ⟨⟩
     refine⟨hcl,fun q hq f col d hc hd=>?_,holen⟩
     simp only at hq
     obtain⟨u,hu,hi⟩:=h5 q (by omega) f col d hc hd
     refine⟨u,?_,hi⟩
     have hfl:f<cols.length:=(List.getElem?_eq_some_iff.1 hc).1
     have:(q+1)*cols.length<=len.v*cols.length:=Nat.mul_le_mul_right _ hq
     rw[Nat.add_mul,Nat.one_mul]at this
     rw[List.getElem?_take,if_pos (by simp only;rw[<-hcl];omega),Array.getElem?_toList]
     exact hu
    ·intro k c hk
     simp only[zb7]at hk
     split at hk
     ·cases hk
     ·rename_i hne
      refine⟨c,hk,fun _ h=>h,fun h=>h,h.sat k c hk,fun j hj y o hy=>?_⟩
      rintro⟨⟩
      exact h.sep key _ hf rfl k c hk hne 0 j hlive hj _ 0 _ o h1 hy rfl
  ·rename_i rw' t capf lenf cols hf
   obtain⟨hb,⟨hle,hcap⟩,hK⟩:=zaf hh
   simp only[zx]at hb
   obtain⟨hrw,he0,ht,hcl⟩:=hb
   have he0:=NV.isZero_v he0;have ht:=zq ht;have hcl:=zq hcl
   subst ht hrw
   obtain⟨h1,h2,h3⟩:=h.sat key _ hf
   have hsatd:Blk.sat H.sc ρ key w (.fam true t (zde i.v capf) (zde i.v lenf) cols):=by
    refine⟨fun j=>?_,fun j k hj hk=>?_,fun j hj=>?_⟩
    ·simp only[zde];split<;>first|exact h1 j|exact⟨Z _,Nat.zero_le _⟩
    ·simp only[zde]at hj hk
     split at hj<;>split at hk<;>first|omega|exact h2 j k hj hk
    ·simp only[zde]at hj ⊢
     split at hj
     ·omega
     ·rename_i hne
      obtain⟨b,arr,g1,g2,g3,g4⟩:=h3 j hj
      refine⟨b,arr,g1,g2,by rw[if_neg hne];exact g3,fun q hq=>g4 q (by rw[if_neg hne]at hq;exact hq)⟩
   have hsub:∀row,(∀y,row=some y->∃o,0<capf i.v/\ρ key i.v=some (y,o))->∀k b,find k (upd key (.fam true t (zde i.v capf) (zde i.v lenf) cols) H.h)=some b->∃b0,find k H.h=some b0/\(∀i,b.live i->b0.live i)/\(b.isRow=true->b0.isRow=true)/\b.sat H.sc ρ k w/\∀i,b.live i->∀y o,ρ k i=some (y,o)->row≠some y:=by
    intro row hrow k b hk
    rw[find_upd]at hk
    split at hk
    ·rename_i e';subst e'
     rw[hf]at hk
     simp only[Option.map_some,z0]at hk
     subst hk
     refine⟨_,hf,fun j hj=>?_,fun _=>rfl,hsatd,fun j hj y o hy he=>?_⟩
     ·simp only[Blk.live,zde]at hj ⊢
      split at hj
      ·omega
      ·exact hj
     ·obtain⟨o',hc,hρ⟩:=hrow y he
      simp only[Blk.live,zde]at hj
      split at hj
      ·omega
      ·rename_i hne
       exact h2 j i.v hj hc hne y o y o' hy hρ rfl
    ·rename_i hne
     refine⟨b,hk,fun _ h=>h,fun h=>h,h.sat k b hk,fun j hj y o hy he=>?_⟩
     obtain⟨o',hc,hρ⟩:=hrow y he
     exact h.sep key _ hf rfl k b hk hne i.v j hc hj y o' y o hρ hy rfl
   rcases Nat.eq_zero_or_pos (capf i.v) with hc0|hc0
   ·have hl0:=(h1 i.v).1
    refine⟨_,_,_,[],none,hK,hv,bp _ _ _,.inl ⟨rfl,by simp only;omega,by omega,rfl⟩,(fun y hy=>nomatch hy),(by rintro⟨⟩),?_,hsub none fun y hy=>nomatch hy⟩
    rintro c ⟨⟩
    exact⟨by simpa using hcl,fun q hq=>by simp only at hq;omega,by simp only;rw[show len.v=0 by omega];simp⟩
   ·obtain⟨b,arr,g1,g2,g3,g4⟩:=h3 i.v hc0
    have hm:=h1 i.v
    have hbase:zal ρ key i (e.v*sz)=some ⟨b,0,none⟩:=by simp[zal,he0,g1]
    have holen:(arr.toList.take (len.v*sz)).length=len.v*sz:=by
     rw[List.length_take,Array.length_toList,g3,hcl]
     exact Nat.min_eq_left (Nat.mul_le_mul_right _ (by omega))
    refine⟨_,_,_,_,some b,hK,hv,bp _ _ _,.inr ⟨b,arr,rfl,hbase,g2,by rw[hcap,<-hcl];exact g3,by simp only;omega,by omega,rfl⟩,(fun y hy=>by cases hy;exact h.may key _ hf rfl i.v hc0 _ 0 g1),(by rintro⟨⟩),?_,hsub (some b) fun y hy=>by cases hy;exact⟨0,hc0,g1⟩⟩
    rintro c ⟨⟩
    refine⟨by simpa using hcl,fun q hq f col d hc hd=>?_,holen⟩
    simp only at hq
    simp only[List.getElem?_map,Option.map_eq_some_iff]at hc
    obtain⟨col0,hc0',rfl⟩:=hc
    obtain⟨u,hu,hi⟩:=g4 q (by omega) f col0 d hc0' (Col.inst_get hd)
    refine⟨u,?_,hi⟩
    have hfl:f<cols.length:=(List.getElem?_eq_some_iff.1 hc0').1
    have:(q+1)*cols.length<=len.v*cols.length:=Nat.mul_le_mul_right _ hq
    rw[Nat.add_mul,Nat.one_mul]at this
    rw[List.length_map,List.getElem?_take,if_pos (by simp only;rw[<-hcl];omega),Array.getElem?_toList]
    exact hu
  ·exact hh.elim
 unfold tgtT at hh
 split at hh
 ·have hv:v=.slice none 0 0:=hs.eq
  exact⟨_,none,0,[],none,hh,hv,⟨none,rfl⟩,.inl ⟨rfl,rfl,rfl,rfl⟩,(fun y hy=>nomatch hy),fun _=>⟨rfl,rfl⟩,(by rintro c ⟨⟩),triv⟩
 ·rename_i key i e sz2 len cap
  replace hh:=zaf hh
  obtain⟨hz,hh⟩:=hh
  have hz:=zq hz
  subst hz
  split at hh
  ·obtain⟨hl,hK⟩:=hh
   have hv:v=.slice (zal ρ key i (e.v*sz)) len.v 0:=hs.eq
   exact⟨_,_,0,[],none,hK,by rw[hv,hl];rfl,bp _ _ _,.inl ⟨rfl,rfl,rfl,rfl⟩,(fun y hy=>nomatch hy),fun _=>⟨rfl,rfl⟩,(by rintro c ⟨⟩),triv⟩
  ·exact gen key i e len cap rfl hh
 ·exact hh.elim
def appendT(P:Program)(H:Hp)(t u:TypeId)(s x:SV):Out (SV×Hp):=
 match undF P t with
 | some (.slice el)=>opt (infF P el) (fun inf=>opt ((zeroT P el).bind (·.cells)) (fun z=>chk (zu t u&&zu z.length inf.size)
   ((srcT H.h inf.size x).bind fun r=>chk (r.1.all zd1) ((tgtT H.h el inf.size s).bind fun T=>opt (match T.cols with|none=>some r.1|some cols=>zd6 T.n r.2 cols r.1) (fun cols'=>
    .need (T.n.v+r.2.v<=maxLen/\(T.n.v+r.2.v)*inf.bytes<=140737488355328) (.ge (T.n.v+r.2.v) fun c=>
     .leaf (.c (.slc H.nxt (.k 0) (.k 0) inf.size (T.n.add r.2) (.s c)),⟨(H.nxt,.row el c (T.n.v+r.2.v) cols')::T.h0,H.nxt+1,H.D⟩))) 191) 192) 193) 194) 195
 | _=>.bad 196
theorem appendT_ok{P:Program}{φ:Fr}{ρ:Rho}{H:Hp}{w:World}{t u ty:TypeId}{s x:SV}{v vx:Value}{K:SV×Hp->Prop}(h:HInv φ ρ H w)(hs:SIs H.sc ρ s v)(hx:SIs H.sc ρ x vx)
  (hh:(appendT P H t u s x).holds K):ze7 φ ρ H K ((Builtin.append_ #[t,u] ty #[v,vx]).run P w):=by
 unfold appendT at hh
 try simp only[zaq,za2,zbm,za3]at hh
 split at hh
 ·rename_i el hu
  replace hh:=zaa hh
  obtain⟨inf,hinf,hh⟩:=hh
  replace hh:=zaa hh
  obtain⟨zc,hz,hh⟩:=hh
  replace hh:=zaf hh
  obtain⟨hb,hh⟩:=hh
  simp only[zx]at hb
  have ht:=zq hb.1;have hzl:=zq hb.2
  subst ht
  rw[Out.holds_bind]at hh
  obtain⟨cols2,m,xb,c,news,hh,rfl,hcl,hsz,hnl,hnews,hdesc,hone⟩:=srcT_ok h hx hh
  obtain⟨hall,hh⟩:=zaf hh
  rw[Out.holds_bind]at hh
  obtain⟨T,base,cap,olds,row,hh,rfl,⟨p,hp⟩,hold,hrow,hcn,hcs,hsub⟩:=tgtT_ok h hs hsz hh
  obtain⟨cols',hcols',⟨h63,hbytes⟩,hge⟩:=zaa hh
  cases hz0:zeroT P el with
  | none=>simp[hz0]at hz
  | some zs=>
   simp only[hz0,Option.bind_some]at hz
   obtain⟨i',zv,hi',hzz,hzs⟩:=zfh hz0 (n:=H.sc) (ρ:=ρ)
   rw[hinf]at hi';cases hi'
   obtain⟨us,hus,hls⟩:=SV.cells_is hzs hz
   have hzsz:zv.cells.size=inf.size:=by rw[hus,List.size_toArray,hls.len,hzl]
   obtain⟨base',cap',w',hrun,hgrown,hcap',hres⟩:=app_core (P:=P) w t ty el inf zv hu hinf hzz hzsz hsz base T.n.v cap olds row hold xb m.v c news hnl hnews (hone hall) h63 hbytes
   have hd':cols'.length=inf.size/\Desc H.sc ρ (T.n.v+m.v) cols' (olds++news):=by
    cases hTc:T.cols with
    | none=>
     obtain⟨hn0,ho0⟩:=hcn hTc
     rw[hTc]at hcols'
     simp only[z0]at hcols'
     subst hcols'
     refine⟨hcl,?_⟩
     rw[hn0,ho0]
     simpa using hdesc
    | some cols=>
     obtain⟨k1,k2,k3⟩:=hcs cols hTc
     rw[hTc]at hcols'
     simp only at hcols'
     have hc:=zej hcols'
     exact⟨by rw[hc.1,k1],Desc.cat hcols' k2 hdesc (by rw[k3,k1])⟩
   obtain⟨hcl',hd'⟩:=hd'
   obtain⟨g,hg⟩:∃g:Option (Nat×Off),base'=g.map adr:=by
    rcases hres with⟨_,h2⟩|⟨b,_,h2,_⟩
    ·exact⟨p,by rw[h2,hp]⟩
    ·exact⟨some (b,0),h2⟩
   have hext:∀q,H.sc q->Hp.sc ⟨(H.nxt,.row el cap' (T.n.v+m.v) cols')::T.h0,H.nxt+1,H.D⟩ q:=fun q hq=>⟨Nat.lt_succ_of_lt hq.1,hq.2⟩
   have hlive:Blk.live (.row el cap' (T.n.v+m.v) cols') 0->∃b cur,g=some (b,0)/\w'.heap[b]?=some (.cells cur el (0,0))/\(row=some b\/b=w.heap.size):=by
    rintro⟨_,hl⟩
    rcases hres with⟨h1,_⟩|⟨b,cur,h2,h3,_,_,_,h4⟩
    ·omega
    ·refine⟨b,cur,?_,h3,h4⟩
     rw[h2]at hg
     cases g with
     | none=>cases hg
     | some q=>
      obtain⟨q1,⟨q2,q3⟩⟩:=q
      simp only[Option.map_some,z0,adr,Addr.mk.injEq]at hg
      obtain⟨rfl,rfl,rfl⟩:=hg
      rfl
   refine⟨_,w',ρ.put H.nxt g,_,_,hrun,hge cap' hcap',ρ.put_agree (fun _ hj=>hj.1) g,⟨Nat.le_succ _,rfl⟩,?_,?_⟩
   ·refine h.regrow hrow hgrown hsub g _ (fun i hi=>hi.1) ?_ ?_ ?_
    ·intro hl y o hy
     obtain⟨b,cur,h1,h2,_⟩:=hlive hl
     rw[h1]at hy;cases hy
     exact(Array.getElem?_eq_some_iff.1 h2).1
    ·intro hl y o hy
     obtain⟨b,cur,h1,_,h3⟩:=hlive hl
     rw[h1]at hy;cases hy
     rcases h3 with h3|h3
     ·exact .inl h3
     ·exact .inr (Nat.le_of_eq h3.symm)
    ·rcases hres with⟨h1,_⟩|⟨b,cur,h2,h3,h4,h5,h6,_⟩
     ·exact .inl ⟨Nat.le_zero.1 (h1 ▸ hcap'),h1⟩
     ·have hgb:g=some (b,0):=by
       rw[h2]at hg
       cases g with
       | none=>cases hg
       | some q=>
        obtain⟨q1,⟨q2,q3⟩⟩:=q
        simp only[Option.map_some,z0,adr,Addr.mk.injEq]at hg
        obtain⟨rfl,rfl,rfl⟩:=hg
        rfl
      refine .inr ⟨b,cur,by rw[Rho.put_at];exact hgb,h3,by rw[hcl'];exact h5,hcap',h4,fun q hq f col d hf hd=>?_⟩
      obtain⟨u,hu',hi⟩:=hd' q hq f col d hf hd
      refine⟨u,?_,hi.ext (ρ.put_agree (fun _ hj=>hj.1) g) hext⟩
      have hin:=(List.getElem?_eq_some_iff.1 hu').1
      have hfl:f<cols'.length:=(List.getElem?_eq_some_iff.1 hf).1
      have:(q+1)*cols'.length<=(T.n.v+m.v)*cols'.length:=Nat.mul_le_mul_right _ hq
      rw[Nat.add_mul,Nat.one_mul]at this
      rw[<-h6,List.getElem?_take,if_pos (by rw[<-hcl'];omega),Array.getElem?_toList]at hu'
      exact hu'
   ·intro ρ' ha
    have:=ha H.nxt ⟨Nat.lt_succ_self _,h.up _ (Z _)⟩
    simp only[SV.den,SC.den,zal,this,NV.v_k,Rho.put_at,NV.v_add,NV.v_s]
    rw[hg]
    congr 1
    cases g<;>simp[Addr.add]
 ·exact hh.elim
def bstr(l:List Int):ByteArray:=l.foldl (fun r n=>r.push (UInt8.ofNat n.toNat)) ByteArray.empty
def strOf(g:Nat->Int)(o n:Nat):ByteArray:=bstr ((List.range n).map fun e=>g (o+e))
def strEq(a b:ByteArray):Bool:=a.toList == b.toList
def u8col:List Col->Option (Nat->Nat->Int)
 | [.ci .u8 g]=>some g
 | _=>none
theorem u8col_h{l:List Col}{g:Nat->Nat->Int}(h:u8col l=some g):l=[.ci .u8 g]:=by
 unfold u8col at h
 split at h
 ·cases h;rfl
 ·cases h
def zgs(P:Program)(src dst:TypeId):Bool:=match undF P src with
 | some (.slice el)=>(match undF P el with
  | some (.int .u8)=>isStrT P dst
  | _=>false)
 | _=>false
def strT(P:Program)(H:HL)(src dst:TypeId):SV->Out SV
 | .c .nils=>chk (zgs P src dst) (.leaf (.c (.val (.string (bstr []))))) 400
 | .c (.slc key i e sz len _)=>chk (zgs P src dst&&zu sz 1) (opt (lenAt H key i) (fun r=>opt (u8col r.2) (fun g=>.need (e.v+len.v<=r.1) (.leaf (.c (.val (.string (strOf (g i.v) e.v len.v)))))) 401) 402) 403
 | _=>.bad 404
theorem isBytesT_h{P:Program}{src dst:TypeId}(h:zgs P src dst=true):∃el,P.underlying src=some (.slice el)/\P.underlying el=some (.int .u8)/\P.underlying dst=some .string:=by
 unfold zgs at h
 try simp only[zaq,za2,zbm,za3]at h
 split at h
 ·rename_i el h1
  split at h
  ·rename_i h2;exact⟨el,h1,h2,zgn h⟩
  ·cases h
 ·cases h
theorem run_bytes0{P:Program}(w:World)(a:Option Addr)(c:Nat):(Conv.bytesToString (.slice a 0 c)).run P w=.ok (.string (bstr [])) w:=by
 cases a with
 | none=>simp[Conv.bytesToString,bstr]
 | some a=>
  have:=run_bytesToString (P:=P) w a 0 c [] (by simp[loadCells,loadCellsFrom])
  simpa [bstr]using this
theorem strT_ok{P:Program}{φ:Fr}{ρ:Rho}{H:Hp}{w:World}{src dst:TypeId}{x:SV}{v:Value}{K:SV->Prop}(h:HInv φ ρ H w)(hx:SIs H.sc ρ x v)(hh:(strT P H.h src dst x).holds K):zbo ρ H K w ((convert src dst v).run P w):=by
 unfold strT at hh
 split at hh
 ·obtain⟨hb,hK⟩:=zaf hh
  obtain⟨el,h1,h2,h3⟩:=isBytesT_h hb
  have e:v=.slice none 0 0:=hx.eq
  refine⟨_,_,?_,hK,fun _ _=>rfl⟩
  rw[e,run_convert_bytes_string w src dst el none 0 0 h1 h2 h3,run_bytes0]
 ·rename_i key i e sz len cap
  replace hh:=zaf hh
  obtain⟨hb,hh⟩:=hh
  simp only[zx]at hb
  obtain⟨el,h1,h2,h3⟩:=isBytesT_h hb.1
  have hz:=zq hb.2
  subst hz
  replace hh:=zaa hh
  obtain⟨r,hr,hh⟩:=hh
  replace hh:=zaa hh
  obtain⟨g,hg,hle,hK⟩:=hh
  obtain⟨n,cols⟩:=r
  simp only at hg hle hK
  have hcols:=u8col_h hg
  subst hcols
  have hat:=lenAt_ok h hr
  have e0:v=.slice (zal ρ key i (e.v*1)) len.v cap.v:=hx.eq
  refine⟨_,_,?_,hK,fun _ _=>rfl⟩
  rw[e0,run_convert_bytes_string w src dst el _ _ _ h1 h2 h3]
  rcases Nat.eq_zero_or_pos len.v with h0|h0
  ·rw[h0,run_bytes0];rfl
  ·have cell:∀j,j<len.v->∃p,zal ρ key i (e.v*1+j)=some p/\w.cell? p=some (.int .u8 (g i.v (e.v+j))):=fun j hj=>by
    obtain⟨u,p,g1,g2,g3⟩:=hat (e.v+j) (by omega) 0 (.ci .u8 g) (.iv .u8 (g i.v (e.v+j))) rfl rfl
    refine⟨p,?_,?_⟩
    ·rw[<-g2];congr 1;simp;try omega
    ·rw[g3,g1.eq];rfl
   obtain⟨a,ha,_⟩:=cell 0 h0
   rw[Nat.add_zero]at ha
   have hl:(loadCells a len.v).run P w=.ok (((List.range len.v).map fun j=>g i.v (e.v+j)).map (Value.int .u8)).toArray w:=by
    rw[run_loadCells (P:=P) w a len.v (fun j=>Value.int .u8 (g i.v (e.v+j))) (fun j hj=>by
     obtain⟨p,g1,g2⟩:=cell j hj
     have:=(zbp (b:=j) ha).1
     rw[this]at g1;cases g1;exact g2)]
    rw[List.map_map]
    rfl
   rw[ha,run_bytesToString w a len.v cap.v _ hl]
   rfl
 ·exact hh.elim
theorem zda{P:Program}{n:Nat->Prop}{ρ:Rho}(w:World)(d:Nat)(el:TypeId):∀(l m:List SC) (off:Nat) (vs us pre pre':List Value) (x:Bool×Bool),l.all (zb6 P el)=true->
    LIs n ρ l vs->LIs n ρ m us->zbv l m=some x->pre.length=off->pre'.length=off->
    (Op.eqItems (d+1) el 1 (pre++vs).toArray (pre'++us).toArray (List.range' off l.length)).run P w=.ok x.2 w
  | [],m,off,vs,us,pre,pre',x,hp,hl,hm,hx,_,_=>by
    cases m with
      | cons c m=>simp[zbv]at hx
      | nil=>simp[zbv]at hx;subst hx;simp[Op.eqItems]
  | c::l,[],off,vs,us,pre,pre',x,hp,hl,hm,hx,_,_=>by simp[zbv]at hx
  | c::l,c'::m,off,vs,us,pre,pre',x,hp,hl,hm,hx,h1,h2=>by
    have e1:=hl.len;have e2:=hm.len
    cases vs with
    | nil=>simp at e1
    | cons v vs=>cases us with
      | nil=>simp at e2
      | cons u us=>
        have hcv:CIs n ρ c v:=fun ρ' ha=>by have:=hl ρ' ha;simp at this;exact this.1
        have hlv:LIs n ρ l vs:=fun ρ' ha=>by have:=hl ρ' ha;simp at this;exact this.2
        have hcu:CIs n ρ c' u:=fun ρ' ha=>by have:=hm ρ' ha;simp at this;exact this.1
        have hlu:LIs n ρ m us:=fun ρ' ha=>by have:=hm ρ' ha;simp at this;exact this.2
        simp only[List.all_cons,zx]at hp
        obtain⟨hty,hp⟩:=hp
        simp only[zbv]at hx
        cases hc:eqCell c c' with
        | none=>simp[hc]at hx
        | some y=>
          cases hr:zbv l m with
          | none=>simp[hc,hr]at hx
          | some z=>
            simp[hc,hr]at hx
            subst hx
            have ih:=zda w d el l m (off+1) vs us (pre++[v]) (pre'++[u]) z hp hlv hlu hr (by simp[h1]) (by simp[h2])
            simp only[List.append_assoc,List.cons_append,List.nil_append]at ih
            have g1:(pre++v::vs).toArray[off*1]?=some v:=by simp[<-h1]
            have g2:(pre'++u::us).toArray[off*1]?=some u:=by simp[<-h2]
            have hty':(∃k,P.underlying el=some (.int k))\/P.underlying el=some .bool:=by
              cases c<;>simp only[zb6,zaq]at hty<;>(try cases hty)<;>split at hty<;>first|exact .inl ⟨_,‹_›⟩|exact .inr ‹_›|cases hty
            have hagg:(isAgg el).run P w=.ok false w:=by
              refine zbx ?_ w
              rcases hty' with⟨k,hu⟩|hu<;>simp[isAggT,zaq,hu]
            have heq:(Op.equalIn (d+1) el v u).run P w=.ok y.2 w:=by
              have ec:=hcv.eq
              rcases eqCell_is hc hcv hcu with⟨k,p,q,rfl,rfl,he⟩|⟨p,q,rfl,rfl,he⟩
              . cases c<;>simp only[SC.den]at ec<;>(try cases ec)<;>simp only[zb6,zaq]at hty
                all_goals first
                  | (cases hty;done)
                  | (split at hty
                     . rename_i k' hu;rw[run_equalIn_int w d el k k' p q hu,he]
                     . cases hty)
              . cases c<;>simp only[SC.den]at ec<;>(try cases ec)<;>simp only[zb6,zaq]at hty
                all_goals first
                  | (cases hty;done)
                  | (split at hty
                     . rename_i hu;rw[run_equalIn_bool w d el p q hu,he]
                     . cases hty)
            have pa:(part el (pre++v::vs).toArray (off*1)).run P w=.ok v w:=by simp only[part,Sem.run_bind,hagg,Result.andThen_ok,g1];rfl
            have pb:(part el (pre'++u::us).toArray (off*1)).run P w=.ok u w:=by simp only[part,Sem.run_bind,hagg,Result.andThen_ok,g2];rfl
            simp only[List.length_cons,List.range'_succ,Op.eqItems,Sem.run_bind,pa,pb,Result.andThen_ok,heq,Sem.run_ite,ih]
            cases y.2<;>simp
def arrT(P:Program)(t:TypeId)(l m:List SC):Out (Bool×Bool):=match undF P t with
 | some (.array n el)=>chk (zu l.length n&&(l.all (zb6 P el)&&(zu (P.cellsOf el) 1&&((P.info? el).isSome&&!(P.eqGuardType P.depth t))))) (opt (zbv l m) (fun x=>.leaf x) 405) 406
 | _=>.bad 407
theorem arrT_ok{P:Program}{φ:Fr}{ρ:Rho}{H:Hp}{w:World}{t:TypeId}{l m:List SC}{v u:Value}{K:Bool×Bool->Prop}(hx:SIs H.sc ρ (.a l) v)(hy:SIs H.sc ρ (.a m) u)(hh:(arrT P t l m).holds K):
  ∃kn b,K (kn,b)/\(∀op a c,(eqGuard op t a c v u).run P w=.ok () w)/\(binOp .eql t v u).run P w=.ok (.bool b) w/\(binOp .neq t v u).run P w=.ok (.bool (!b)) w:=by
 unfold arrT at hh
 try simp only[zaq,za2,zbm,za3]at hh
 split at hh
 ·rename_i n el hu
  obtain⟨hc,hh⟩:=zaf hh
  obtain⟨x,hx',hK⟩:=zaa hh
  simp only[zx,z7]at hc
  obtain⟨c1,c2,c3,c4,c5⟩:=hc
  have c1:=zq c1
  have c3:=zq c3
  obtain⟨inf,hinf⟩:=Option.isSome_iff_exists.1 c4
  obtain⟨vs,rfl,hl⟩:=LIs.of_a hx
  obtain⟨us,rfl,hm⟩:=LIs.of_a hy
  have hrun:(Op.equalIn 10000 t (.agg vs.toArray) (.agg us.toArray)).run P w=.ok x.2 w:=by
   rw[run_equalIn_array w 9999 _ _ hu hinf,c3,<-c1]
   have:=zda (P:=P) w 9998 el l m 0 vs us [] [] x c2 hl hm hx' rfl rfl
   rw[List.range_eq_range']
   simpa using this
  refine⟨x.1,x.2,hK,fun op a c=>run_eqGuard_agg w op t a c _ _ c5,?_,?_⟩
  ·rw[run_eql_struct,hrun];rfl
  ·rw[run_neq_struct,hrun];rfl
 ·exact hh.elim
def nnP(H:HL)(key:Nat)(i e:NV):Option Prop:=match find key H with
 | some (.row _ _ n _)=>match i.isZero with
  | true=>some (e.v<n)
  | false=>none
 | some (.view m len _)=>some (i.v<m/\e.v<len i.v)
 | some (.fam _ _ _ len _)=>some (e.v<len i.v)
 | _=>none
theorem nnP_ok{φ:Fr}{ρ:Rho}{H:Hp}{w:World}{key:Nat}{i e:NV}{p:Prop}(h:HInv φ ρ H w)(hp:nnP H.h key i e=some p)(hh:p):∃q,ρ key i.v=some q:=by
 unfold nnP at hp
 split at hp
 ·rename_i hf
  split at hp
  ·rename_i hz
   cases hp
   rcases h.sat key _ hf with⟨h0,_⟩|⟨b,arr,h1,_⟩
   ·omega
   ·exact⟨_,by rw[NV.isZero_v hz];exact h1⟩
  ·cases hp
 ·rename_i hf
  cases hp
  obtain⟨b,o,h3,_⟩:=h.sat key _ hf i.v hh.1 e.v hh.2
  exact⟨_,h3⟩
 ·rename_i hf
  cases hp
  obtain⟨g1,_,g3⟩:=h.sat key _ hf
  obtain⟨b,arr,h3,_⟩:=g3 i.v (by have:=(g1 i.v).1;omega)
  exact⟨_,h3⟩
 ·cases hp
def nilT(P:Program)(H:HL)(t:TypeId)(neg:Bool):SC->Out SV
 | .slc key i e _ _ _=>chk (zef P t) (opt (nnP H key i e) (fun p=>.any Bool (fun b=>b=true->¬p) fun b=>.leaf (mkB false (match neg with|true=>!b|false=>b))) 413) 414
 | _=>.bad 415
theorem nilT_ok{P:Program}{φ:Fr}{ρ:Rho}{H:Hp}{w:World}{t:TypeId}{c:SC}{v:Value}{K:SV->Prop}(h:HInv φ ρ H w)(hx:SIs H.sc ρ (.c c) v)(neg:Bool)(hh:(nilT P H.h t neg c).holds K):
  ∃b,K (mkB false (match neg with|true=>!b|false=>b))/\(∀op a c,(eqGuard op t a c v (.slice none 0 0)).run P w=.ok () w)/\(∀op a c,(eqGuard op t a c (.slice none 0 0) v).run P w=.ok () w)/\
   (binOp .eql t v (.slice none 0 0)).run P w=.ok (.bool b) w/\(binOp .neq t v (.slice none 0 0)).run P w=.ok (.bool (!b)) w/\
   (binOp .eql t (.slice none 0 0) v).run P w=.ok (.bool b) w/\(binOp .neq t (.slice none 0 0) v).run P w=.ok (.bool (!b)) w:=by
 unfold nilT at hh
 split at hh
 ·rename_i key i e sz len cap
  obtain⟨ht,hh⟩:=zaf hh
  obtain⟨p,hp,_,hK⟩:=zaa hh
  obtain⟨el,he⟩:=zc4 ht
  have ev:v=.slice (zal ρ key i (e.v*sz)) len.v cap.v:=hx.eq
  refine⟨(zal ρ key i (e.v*sz)).isNone,hK _ (fun hn hh=>?_),fun op a c=>by rw[ev];simp[eqGuard_at_slice],fun op a c=>by simp[eqGuard_at_slice],?_⟩
  ·obtain⟨q,hq⟩:=nnP_ok h hp hh
   rw[zb5 hq]at hn
   cases hn
  ·have e1:=zb4 (P:=P) (w:=w) (t:=t) (v:=v) (u:=.slice none 0 0) (b:=(zal ρ key i (e.v*sz)).isNone) (by intro d;rw[ev];cases zal ρ key i (e.v*sz)<;>simp[Op.equalIn,run_underlying he]) (by rw[ev];rfl) (by rw[ev];rfl)
   have e2:=zb4 (P:=P) (w:=w) (t:=t) (v:=.slice none 0 0) (u:=v) (b:=(zal ρ key i (e.v*sz)).isNone) (by intro d;rw[ev];cases zal ρ key i (e.v*sz)<;>simp[Op.equalIn,run_underlying he]) (by rw[ev];rfl) (by rw[ev];rfl)
   exact⟨e1.1,e1.2,e2.1,e2.2⟩
 ·exact hh.elim
def isArrT(P:Program)(t:TypeId):Bool:=match undF P t with|some (.array ..)=>true|_=>false
def binT2(P:Program)(H:HL)(cst:Bool)(op:BinOp)(t:TypeId)(x y:SV):Out SV:=
 match x,y with
 | .c (.val (.string a)),.c (.val (.string b))=>(match op with
  | .eql=>chk (isStrT P t) (.leaf (mkB false (strEq a b))) 410
  | .neq=>chk (isStrT P t) (.leaf (mkB false (!(strEq a b)))) 410
  | _=>.bad 411)
 | .a l,.a m=>(match isArrT P t with
  | true=>(match op with
   | .eql=>(arrT P t l m).bind fun r=>.leaf (mkB r.1 r.2)
   | .neq=>(arrT P t l m).bind fun r=>.leaf (mkB r.1 (!r.2))
   | _=>.bad 412)
  | false=>binT P H cst op t (.a l) (.a m))
 | .c (.slc key i e sz len cap),.c .nils=>(match op with
  | .eql=>nilT P H t false (.slc key i e sz len cap)
  | .neq=>nilT P H t true (.slc key i e sz len cap)
  | _=>.bad 416)
 | .c .nils,.c (.slc key i e sz len cap)=>(match op with
  | .eql=>nilT P H t false (.slc key i e sz len cap)
  | .neq=>nilT P H t true (.slc key i e sz len cap)
  | _=>.bad 416)
 | x,y=>binT P H cst op t x y
theorem binT2_ok{P:Program}{φ:Fr}{ρ:Rho}{H:Hp}{w:World}{cst:Bool}{op:BinOp}{t:TypeId}{x y:SV}{v u:Value}{a c:Operand}{K:SV->Prop}(h:HInv φ ρ H w)(hx:SIs H.sc ρ x v)(hy:SIs H.sc ρ y u)
  (hc:cst=true->(∃z,a=.const z)\/∃z,c=.const z) (hh:(binT2 P H.h cst op t x y).holds K):
  zbo ρ H K w ((do eqGuard op t a c v u;binOp op t v u:Sem Value).run P w):=by
 unfold binT2 at hh
 split at hh
 ·rename_i s s'
  have e1:v=.string s:=hx.eq
  have e2:u=.string s':=hy.eq
  subst e1 e2
  split at hh
  ·obtain⟨ht,hK⟩:=zaf hh
   have hu:=zgn ht
   have e1:(binOp .eql t (.string s) (.string s')).run P w=.ok (.bool (strEq s s')) w:=by simp[binOp,Op.stringOp,strEq]
   have e2:(binOp .neq t (.string s) (.string s')).run P w=.ok (.bool (!(strEq s s'))) w:=by simp[binOp,Op.stringOp,strEq]
   exact⟨_,_,by simp only[eqGuard_at_string,Sem.run_bind,Sem.run_pure,Result.andThen_ok];exact e1,hK,zdm _ _ _ _⟩
  ·obtain⟨ht,hK⟩:=zaf hh
   have hu:=zgn ht
   have e1:(binOp .eql t (.string s) (.string s')).run P w=.ok (.bool (strEq s s')) w:=by simp[binOp,Op.stringOp,strEq]
   have e2:(binOp .neq t (.string s) (.string s')).run P w=.ok (.bool (!(strEq s s'))) w:=by simp[binOp,Op.stringOp,strEq]
   exact⟨_,_,by simp only[eqGuard_at_string,Sem.run_bind,Sem.run_pure,Result.andThen_ok];exact e2,hK,zdm _ _ _ _⟩
  ·exact hh.elim
 ·split at hh
  ·split at hh
   ·rw[Out.holds_bind]at hh
    obtain⟨kn,b,hK,h1,h2,_⟩:=arrT_ok (φ:=φ) (w:=w) hx hy hh
    exact⟨.bool b,mkB kn b,by simp[h1 .eql a c,h2],hK,zdm _ _ _ _⟩
   ·rw[Out.holds_bind]at hh
    obtain⟨kn,b,hK,h1,_,h2⟩:=arrT_ok (φ:=φ) (w:=w) hx hy hh
    exact⟨.bool (!b),mkB kn (!b),by simp[h1 .neq a c,h2],hK,zdm _ _ _ _⟩
   ·exact hh.elim
  ·exact binT_ok h hx hy hc hh
 ·have eu:u=.slice none 0 0:=hy.eq
  subst eu
  split at hh
  ·obtain⟨b,hK,h1,_,h2,_⟩:=nilT_ok h hx false hh
   exact⟨.bool b,mkB false b,by simp[h1 .eql a c,h2],hK,zdm _ _ _ _⟩
  ·obtain⟨b,hK,h1,_,_,h2,_⟩:=nilT_ok h hx true hh
   exact⟨.bool (!b),mkB false (!b),by simp[h1 .neq a c,h2],hK,zdm _ _ _ _⟩
  ·exact hh.elim
 ·have eu:v=.slice none 0 0:=hx.eq
  subst eu
  split at hh
  ·obtain⟨b,hK,_,h1,_,_,h2,_⟩:=nilT_ok h hy false hh
   exact⟨.bool b,mkB false b,by simp[h1 .eql a c,h2],hK,zdm _ _ _ _⟩
  ·obtain⟨b,hK,_,h1,_,_,_,h2⟩:=nilT_ok h hy true hh
   exact⟨.bool (!b),mkB false (!b),by simp[h1 .neq a c,h2],hK,zdm _ _ _ _⟩
  ·exact hh.elim
 ·exact binT_ok h hx hy hc hh
def convT2(P:Program)(H:HL)(src dst:TypeId)(x:SV):Out SV:=match asI x with
 | some _=>convT P src dst x
 | none=>strT P H src dst x
theorem convT2_ok{P:Program}{φ:Fr}{ρ:Rho}{H:Hp}{w:World}{src dst:TypeId}{x:SV}{v:Value}{K:SV->Prop}(h:HInv φ ρ H w)(hx:SIs H.sc ρ x v)(hh:(convT2 P H.h src dst x).holds K):zbo ρ H K w ((convert src dst v).run P w):=by
 unfold convT2 at hh
 split at hh
 ·exact convT_ok hx hh
 ·exact strT_ok h hx hh
def zbe(s:St):Operand->Option SV
 | .tmp t=>match getF s.tmps t with
  | some (some v)=>some v
  | _=>none
 | .const v=>ofVal v
 | .func f=>some (.c (.fn f []))
 | .global _=>none
theorem zam{φ:Fr}{ρ:Rho}{s:St}{a:Act}{w:World}(h:Inv φ ρ s a w){x:Operand}{sv:SV}(hx:zbe s x=some sv):SIs s.H.sc ρ sv (a.eval x):=by
 cases x with
 | tmp t=>
  simp only[zbe,za3]at hx
  split at hx
  ·rename_i v hv
   cases hx
   obtain⟨u,hu,hi⟩:=h.tmps t sv hv
   simpa [Act.eval,Array.getD_eq_getD_getElem?,hu]using hi
  ·cases hx
 | const v=>exact ofVal_is hx
 | global g=>cases hx
 | func f=>cases hx;exact fun _ _=>rfl
def ze2(s:St):List Operand->Option (List SV)
 | []=>some []
 | x::l=>match zbe s x,ze2 s l with
  | some v,some vs=>some (v::vs)
  | _,_=>none
theorem evalsT_is{φ:Fr}{ρ:Rho}{s:St}{a:Act}{w:World}(h:Inv φ ρ s a w):∀ {l:List Operand} {vs:List SV},ze2 s l=some vs->VIs s.H.sc ρ vs (l.map a.eval)
 | [],vs,hx=>by simp[ze2]at hx;subst hx;trivial
 | x::l,vs,hx=>by
  simp only[ze2]at hx
  split at hx
  ·rename_i v vs' h1 h2
   cases hx
   exact⟨zam h h1,evalsT_is h h2⟩
  ·cases hx
def partsT(s:St):List (Nat×Operand)->Option (List (Nat×SV))
 | []=>some []
 | (i,x)::l=>match zbe s x,partsT s l with
  | some v,some vs=>some ((i,v)::vs)
  | _,_=>none
theorem partsT_is{φ:Fr}{ρ:Rho}{s:St}{a:Act}{w:World}(h:Inv φ ρ s a w):∀ {l:List (Nat×Operand)} {vs:List (Nat×SV)},partsT s l=some vs->PIs s.H.sc ρ vs (l.map fun q=>(q.1,a.eval q.2))
 | [],vs,hx=>by simp[partsT]at hx;subst hx;trivial
 | (i,x)::l,vs,hx=>by
  simp only[partsT]at hx
  split at hx
  ·rename_i v vs' h1 h2
   cases hx
   exact⟨rfl,zam h h1,partsT_is h h2⟩
  ·cases hx
def optT(s:St):Option Operand->Option (Option SV)
 | none=>some none
 | some x=>(zbe s x).map some
theorem optT_is{φ:Fr}{ρ:Rho}{s:St}{a:Act}{w:World}(h:Inv φ ρ s a w){x:Option Operand}{v:Option SV}(hx:optT s x=some v):optIs s.H.sc ρ v (x.map a.eval):=by
 cases x with
 | none=>simp[optT]at hx;subst hx;trivial
 | some x=>
  simp only[optT,Option.map_eq_some_iff]at hx
  obtain⟨u,hu,rfl⟩:=hx
  exact zam h hu
abbrev CallT:=FuncId->List SV->Hp->Out (SV×Hp)
def zbz(P:Program)(callT:CallT):Prop:=∀(φ:Fr) (ρ:Rho) (H:Hp) (w:World) (f:FuncId) (args:List SV) (vs:List Value) (K:SV×Hp->Prop),HInv φ ρ H w->VIs H.sc ρ args vs->(callT f args H).holds K->
 Calls P f vs.toArray w fun e w'=>∃v ρ' sv H',e=.returned v/\K (sv,H')/\zat H.sc ρ ρ'/\H.le H'/\HInv φ ρ' H' w'/\SIs H'.sc ρ' sv v
def bodied(P:Program)(f:FuncId):Bool:=match fnF P f with
 | some fn=>fn.body.isSome&&!(fn.name == "runtime.NumGoroutine")
 | none=>false
theorem zd9{P:Program}{f:FuncId}(h:bodied P f=true)(args:Array Value)(w:World):(callFunc f args).run P w=.ok (.enter f args) w:=by
 unfold bodied at h
 try simp only[zaq,za2,zbm,za3]at h
 cases hf:P.funcs[f]? with
 | none=>simp[hf]at h
 | some fn=>
  simp only[hf,zx,z7]at h
  have h1:fn.body.isNone=false:=by cases hb:fn.body<;>simp_all
  have h2:=h.2
  simp only[callFunc,Sem.run_bind,run_program,Result.andThen_ok,hf,h2,h1,Bool.false_eq_true,if_false,Sem.run_pure]
theorem VIs.append{n:Nat->Prop}{ρ:Rho}:∀ {a b:List SV} {x y:List Value},VIs n ρ a x->VIs n ρ b y->VIs n ρ (a++b) (x++y)
 | [],b,[],y,_,h=>h
 | [],b,x::xs,y,h,_=>h.elim
 | v::a,b,[],y,h,_=>h.elim
 | v::a,b,x::xs,y,h,g=>⟨h.1,VIs.append h.2 g⟩
def capPtrs(caps:List Nat):List SV:=caps.map fun k=>.c (.ptr k (.k 0) (.k 0) 0 1)
theorem capPtrs_is{n:Nat->Prop}{ρ:Rho}:∀ {caps:List Nat} {vs:List Value},(∀ρ',zat n ρ ρ'->caps.map (fun k=>Value.pointer (zal ρ' k (.k 0) 0))=vs)->VIs n ρ (capPtrs caps) vs
 | [],vs,h=>by have:=h ρ (.refl _ _);simp at this;subst this;trivial
 | k::caps,vs,h=>by
  cases vs with
  | nil=>have:=h ρ (.refl _ _);simp at this
  | cons v vs=>
   refine⟨fun ρ' ha=>?_,capPtrs_is fun ρ' ha=>?_⟩
   ·have:=h ρ' ha;simp at this;simpa [SV.den,SC.den]using this.1
   ·have:=h ρ' ha;simp at this;exact this.2
def methodT(P:Program)(t:TypeId)(name:String):Option FuncId:=
 match (infF P t).bind (fun i=>i.methods.find? (·.name == name)) with
 | some m=>bif m.path.isEmpty&&zfd P t then(match m.func with
  | some (f,true)=>some f
  | _=>none) else none
 | none=>none
theorem methodT_ok{P:Program}{t:TypeId}{name:String}{f:FuncId}(h:methodT P t name=some f)(v:Value)(w:World)(n:Nat):(method (n+1) t v name).run P w=.ok (f,v) w:=by
 unfold methodT at h
 try simp only[zaq,za2,zbm,za3]at h
 split at h
 ·rename_i m hm
  by_cases hb:(m.path.isEmpty&&zfd P t)=true
  ·simp only[hb,cond_true]at h
   simp only[zx]at hb
   obtain⟨e,he⟩:=ze0 hb.2
   split at h
   ·rename_i g hg
    cases h
    obtain⟨i,hi,hfind⟩:=Option.bind_eq_some_iff.1 hm
    have hp:m.path.toList=[]:=by have:=hb.1;simp only[Array.isEmpty_iff]at this;simp[this]
    simp[method,typeInfo,hi,hfind,hp,follow,hg,receiverAt,run_underlying he,Place.get]
   ·cases h
  ·simp[hb]at h
 ·cases h
def structT(P:Program)(t:TypeId):Bool:=match undF P t with|some (.struct _)=>true|_=>false
def methodE(P:Program)(t:TypeId)(name:String):Option (FuncId×TypeId×Nat):=
 match (infF P t).bind (fun i=>i.methods.find? (·.name == name)) with
 | some m=>match m.path.toList,m.func with
  | [s],some (f,true)=>match undF P s.struct with
   | some (.struct fs)=>match fs[s.index]? with
    | some fd=>bif s.deref&&structT P fd.type then some (f,s.struct,s.index) else none
    | none=>none
   | _=>none
  | _,_=>none
 | none=>none
theorem embed_ok{P:Program}{φ:Fr}{ρ:Rho}{H:Hp}{w:World}{t st:TypeId}{name:String}{g:FuncId}{ix:Nat}{key:Nat}{i e:NV}{f sz:Nat}{K:SV->Prop}(h:HInv φ ρ H w)(hg:methodE P t name=some (g,st,ix))
  (hh:(zcr P H.h st ix (.c (.ptr key i e f sz))).holds K) (n:Nat):∃u sv,(method (n+1) t (.pointer (zal ρ key i (e.v*sz+f))) name).run P w=.ok (g,u) w/\K sv/\(∀ {v:Value},SIs H.sc ρ (.c (.ptr key i e f sz)) v->SIs H.sc ρ sv u):=by
 unfold methodE at hg
 try simp only[zaq,za2,zbm,za3]at hg
 split at hg
 ·rename_i m hm
  obtain⟨ti,hi,hfind⟩:=Option.bind_eq_some_iff.1 hm
  split at hg
  ·rename_i s g' hpath hfunc
   split at hg
   ·rename_i fs hu
    split at hg
    ·rename_i fd hfd
     by_cases hb:(s.deref&&structT P fd.type)=true
     ·rw[hb]at hg
      simp only[cond_true,z0,Prod.mk.injEq]at hg
      obtain⟨rfl,rfl,rfl⟩:=hg
      simp only[zx]at hb
      obtain⟨hd,hst⟩:=hb
      obtain⟨fs2,hu2⟩:∃fs2,P.underlying fd.type=some (.struct fs2):=by
       unfold structT at hst
       try simp only[zaq,za2,zbm,za3]at hst
       split at hst
       ·exact⟨_,‹_›⟩
       ·cases hst
      simp only[zcr,zaq,hu]at hh
      obtain⟨fd',hfd',hh⟩:=zaa hh
      rw[hfd]at hfd'
      cases hfd'
      obtain⟨k,hk,hh⟩:=zaa hh
      obtain⟨h1,hh⟩:=zaf hh
      have h1:=zb h1
      rw[Out.holds_bind]at hh
      obtain⟨hK,p,hp⟩:=zbs h hh
      have hne:¬k=0:=by omega
      have hpl:=zb5 (off:=e.v*sz+f) hp
      refine⟨.pointer (some (((adr p).add (e.v*sz+f)).add fd.offset)),_,?_,hK,fun {v} hx ρ' ha=>?_⟩
      ·simp[method,typeInfo,hi,hfind,hpath,follow,run_underlying hu,hfd,hd,Place.get,hfunc,hpl,fieldPlace,zan hk,hne,asAddr,receiverAt,run_underlying hu2]
      ·have e0:=hx.eq
       simp only[SV.den,SC.den,hpl]at e0
       have e1:=hx ρ' ha
       rw[e0]at e1
       simp only[SV.den,SC.den,Value.pointer.injEq]at e1 ⊢
       have:=(zbp (b:=fd.offset) e1).1
       rw[Nat.add_assoc]at this
       exact this
     ·simp[Bool.eq_false_iff.2 hb]at hg
    ·cases hg
   ·cases hg
  ·cases hg
 ·cases hg
def zeroPT(P:Program)(a:TypeId):Bool:=match (infF P a).bind (·.zero) with|some (.pointer none)=>true|_=>false
def assertT(P:Program)(a:TypeId)(x:SV):Option SV:=
 bif zfd P a&&zeroPT P a then(match x with
  | .c (.ifc t key i e f sz)=>match zu t a with
   | true=>some (.t [.c (.ptr key i e f sz),.c (.kb true)])
   | false=>some (.t [.c .nilp,.c (.kb false)])
  | .c .nilI=>some (.t [.c .nilp,.c (.kb false)])
  | _=>none) else none
theorem assertT_ok{P:Program}{n:Nat->Prop}{ρ:Rho}{a xt:TypeId}{x r:SV}{v:Value}{w:World}(hx:SIs n ρ x v)(h:assertT P a x=some r):∃u,(Instr.typeAssert v xt a true).run P w=.ok u w/\SIs n ρ r u:=by
 unfold assertT at h
 by_cases hb:(zfd P a&&zeroPT P a)=true
 ·rw[hb]at h
  simp only[cond_true]at h
  simp only[zx]at hb
  obtain⟨el,hu⟩:=ze0 hb.1
  have hz:(zeroValue a).run P w=.ok (.pointer none) w:=by
   have hz:=hb.2
   unfold zeroPT at hz
   try simp only[zaq,za2,zbm,za3]at hz
   split at hz
   ·rename_i hm
    obtain⟨ti,hi,hzz⟩:=Option.bind_eq_some_iff.1 hm
    exact zbg hi hzz w
   ·cases hz
  have ev:=hx.eq
  split at h
  ·rename_i t key i e f sz
   simp only[SV.den,SC.den]at ev
   split at h
   ·rename_i ht
    cases h
    have ht:=zq ht
    subst ht
    refine⟨.tuple #[.pointer (zal ρ key i (e.v*sz+f)),.bool true],?_,fun ρ' ha=>?_⟩
    ·rw[ev];simp[Instr.typeAssert,run_underlying hu]
    ·have:=(hx ρ' ha).trans ev
     simp only[SV.den,SC.den,Value.iface.injEq,Value.pointer.injEq,true_and]at this
     simp[SV.den,TE.den,SC.den,this]
   ·rename_i ht
    cases h
    have ht:¬t=a:=fun e=>by subst e;rw[Nat.beq_refl]at ht;cases ht
    refine⟨.tuple #[.pointer none,.bool false],?_,fun ρ' ha=>rfl⟩
    rw[ev];simp[Instr.typeAssert,run_underlying hu,ht,hz]
  ·cases h
   simp only[SV.den,SC.den]at ev
   refine⟨.tuple #[.pointer none,.bool false],?_,fun ρ' ha=>rfl⟩
   rw[ev];simp[Instr.typeAssert,run_underlying hu,hz]
  ·cases h
 ·simp[Bool.eq_false_iff.2 hb]at h
def isC:Operand->Bool
 | .const _=>true
 | _=>false
theorem isC_h{x:Operand}(h:isC x=true):∃z,x=.const z:=by cases x<;>simp[isC]at h;exact⟨_,rfl⟩
def builtinT(P:Program)(b:Builtin)(ts:Array TypeId)(H:Hp)(args:List SV):Out (SV×Hp):=
 match b,ts.toList,args with
 | .len,[t],[x]=>(lenT P t x).bind fun v=>.leaf (v,H)
 | .cap,[t],[x]=>(capT P t x).bind fun v=>.leaf (v,H)
 | .min,_,xs=>(minT xs).bind fun v=>.leaf (v,H)
 | .max,_,xs=>(maxT xs).bind fun v=>.leaf (v,H)
 | .append,[t,u],[x,y]=>appendT P H t u x y
 | _,_,_=>.bad 200
def opT(P:Program)(callT:CallT)(s:St)(o:Op):Out (SV×Hp):=
 match o with
 | .move x|.assign x=>opt (zbe s x) (fun v=>.leaf (v,s.H)) 201
 | .pick c a b=>opt (zbe s c) (fun vc=>opt (zbe s a) (fun va=>opt (zbe s b) (fun vb=>(pickT vc va vb).bind fun v=>.leaf (v,s.H)) 202) 202) 202
 | .alloc t=>allocT P s.H t
 | .box t x=>opt (zbe s x) (fun v=>boxT s.H t v) 203
 | .build t ps=>opt (partsT s ps.toList) (fun l=>(buildT P t l).bind fun v=>.leaf (v,s.H)) 204
 | .buildSlice t len ps=>opt (partsT s ps.toList) (fun l=>zem P s.H t len l) 205
 | .load t x=>opt (zbe s x) (fun v=>(loadT P s.H.h t v).bind fun u=>.leaf (u,s.H)) 206
 | .store t x y=>opt (zbe s x) (fun v=>opt (zbe s y) (fun u=>(storeT P s.H.h t v u).bind fun h'=>.leaf (.t [],{ s.H with h:=h' })) 207) 207
 | .nilCheck x=>opt (zbe s x) (fun v=>(nilCheckT s.H.h v).bind fun u=>.leaf (u,s.H)) 208
 | .binOp op t x y _=>opt (zbe s x) (fun v=>opt (zbe s y) (fun u=>(binT2 P s.H.h (isC x || isC y) op t v u).bind fun r=>.leaf (r,s.H)) 209) 209
 | .unOp op _ x=>opt (zbe s x) (fun v=>(unT op v).bind fun r=>.leaf (r,s.H)) 210
 | .convert a b x=>opt (zbe s x) (fun v=>(convT2 P s.H.h a b v).bind fun r=>.leaf (r,s.H)) 211
 | .makeInterface t x=>opt (zbe s x) (fun v=>(makeIfcT P t v).bind fun r=>.leaf (r,s.H)) 212
 | .makeFunc (.func f) first caps=>chk first.isEmpty (opt (ze2 s caps.toList) (fun l=>opt (zfm l) (fun ks=>.leaf (.c (.fn f ks),s.H)) 213) 213) 213
 | .makeSlice t x y=>opt (zbe s x) (fun v=>opt (zbe s y) (fun u=>zfk P s.H t v u) 214) 214
 | .slice t x lo hi mx=>opt (zbe s x) (fun v=>opt (optT s lo) (fun a=>opt (optT s hi) (fun b=>opt (optT s mx) (fun c=>(sliceAT P s.H.h t a b c v).bind fun r=>.leaf (r,s.H)) 215) 215) 215) 215
 | .fieldAddr t x f=>opt (zbe s x) (fun v=>(zcr P s.H.h t f v).bind fun r=>.leaf (r,s.H)) 216
 | .field t x f=>opt (zbe s x) (fun v=>(fieldT P t f v).bind fun r=>.leaf (r,s.H)) 217
 | .indexAddr t x y=>opt (zbe s x) (fun v=>opt (zbe s y) (fun u=>(zfq P s.H.h t v u).bind fun r=>.leaf (r,s.H)) 218) 218
 | .index t x y=>opt (zbe s x) (fun v=>opt (zbe s y) (fun u=>(indexT P t u v).bind fun r=>.leaf (r,s.H)) 219) 219
 | .extract x k=>opt (zbe s x) (fun v=>(extractT k v).bind fun r=>.leaf (r,s.H)) 220
 | .call c=>opt (ze2 s c.args.toList) (fun args=>match c.callee with
  | .builtin b=>builtinT P b c.argTypes s.H args
  | .value x=>opt (zbe s x) (fun
   | .c (.fn f caps)=>chk (bodied P f) (callT f (args++capPtrs caps) s.H) 221
   | _=>.bad 222) 223
  | .invoke x name=>opt (zbe s x) (fun
   | .c (.ifc t key i e f sz)=>(match methodT P t name with
    | some g=>chk (bodied P g) (callT g (.c (.ptr key i e f sz)::args) s.H) 224
    | none=>opt (methodE P t name) (fun q=>chk (bodied P q.1) ((zcr P s.H.h q.2.1 q.2.2 (.c (.ptr key i e f sz))).bind fun r=>callT q.1 (r::args) s.H) 224) 225)
   | _=>.bad 226) 227) 228
 | .typeAssert x _ a true=>opt (zbe s x) (fun v=>opt (assertT P a v) (fun r=>.leaf (r,s.H)) 230) 231
 | _=>.bad 229
def OpPost(φ:Fr)(ρ:Rho)(H:Hp)(K:SV×Hp->Prop)(a:Act)(d:Option Tmp)(a':Act)(w':World):Prop:=
 ∃v ρ' sv H',K (sv,H')/\zat H.sc ρ ρ'/\H.le H'/\HInv φ ρ' H' w'/\SIs H'.sc ρ' sv v/\a'=a.put d v
theorem zav{P:Program}{φ:Fr}{ρ:Rho}{H:Hp}{K:SV×Hp->Prop}{o:Oper}{a:Act}{w:World}{Q:Exit->Act->World->Prop}{r:Sem Value}(he:execOp a.eval o=(do pure (.value (<- r))))(h:ze7 φ ρ H K (r.run P w)):
  o.wp P a w (OpPost φ ρ H K a o.dst) Q:=by
 obtain⟨v,w',ρ',sv,H',hr,hK,h1,h2,h3,h4⟩:=h
 unfold Oper.wp
 rw[he]
 simp only[Sem.run_bind,hr,Result.andThen_ok,Sem.run_pure,Oper.upon]
 exact⟨v,ρ',sv,H',hK,h1,h2,h3,h4,rfl⟩
theorem VIs.length{n:Nat->Prop}{ρ:Rho}:∀ {l:List SV} {vs:List Value},VIs n ρ l vs->vs.length=l.length
 | [],[],_=>rfl
 | [],_::_,h=>h.elim
 | _::_,[],h=>h.elim
 | x::l,v::vs,h=>by simp[VIs.length h.2]
theorem VIs.get{n:Nat->Prop}{ρ:Rho}:∀ {l:List SV} {vs:List Value},VIs n ρ l vs->∀(k:Nat) sv,l[k]?=some sv->∃v,vs[k]?=some v/\SIs n ρ sv v
 | [],[],_,k,sv,hk=>by simp at hk
 | [],_::_,h,_,_,_=>h.elim
 | _::_,[],h,_,_,_=>h.elim
 | x::l,v::vs,h,k,sv,hk=>by
  cases k with
  | zero=>simp at hk;subst hk;exact⟨v,rfl,h.1⟩
  | succ k=>simpa using VIs.get h.2 k sv (by simpa using hk)
theorem zar{φ:Fr}{ρ:Rho}{H:Hp}{K:SV×Hp->Prop}{w:World}{r:Result Value}{x:Out SV}(h:HInv φ ρ H w)(hh:(x.bind fun v=>Out.leaf (v,H)).holds K)(hp:∀K':SV->Prop,x.holds K'->zbo ρ H K' w r):ze7 φ ρ H K r:=by
 rw[Out.holds_bind]at hh
 exact .pure h (hp _ hh)
theorem nilCheckT_ok{P:Program}{φ:Fr}{ρ:Rho}{H:Hp}{w:World}{x:SV}{v:Value}{K:SV->Prop}(h:HInv φ ρ H w)(hx:SIs H.sc ρ x v)(hh:(nilCheckT H.h x).holds K):
  K x/\((∃a,v=.pointer (some a))\/(∃t u,v=.iface t u)\/(∃f c,v=.func (.func f) #[] c)):=by
 have e:=hx.eq
 unfold nilCheckT at hh
 split at hh
 ·rw[Out.holds_bind]at hh
  obtain⟨hK,p,hp⟩:=zbs h hh
  simp only[SV.den,SC.den,zb5 hp]at e
  exact⟨hK,.inl ⟨_,e⟩⟩
 ·exact⟨hh,.inr (.inl ⟨_,_,by rw[e];rfl⟩)⟩
 ·exact⟨hh,.inr (.inr ⟨_,_,by rw[e];rfl⟩)⟩
 ·exact hh.elim
theorem builtinT_ok{P:Program}{φ:Fr}{ρ:Rho}{H:Hp}{w:World}{b:Builtin}{ts:Array TypeId}{ty:TypeId}{args:List SV}{vs:List Value}{K:SV×Hp->Prop}(h:HInv φ ρ H w)(hx:VIs H.sc ρ args vs)
  (hh:(builtinT P b ts H args).holds K):∃r:Sem Value,(∀cs,builtin b ts ty cs vs.toArray=(do pure (.value (<- r))))/\ze7 φ ρ H K (r.run P w):=by
 unfold builtinT at hh
 split at hh
 ·rename_i t x ht
  have:ts=#[t]:=by cases ts;simpa using ht
  subst this
  match vs,hx with
  | [v],hx=>exact⟨_,fun _=>rfl,zar h hh fun K' hk=>lenT_ok hx.1 hk⟩
  | [],hx=>exact hx.elim
  | _::_::_,hx=>exact hx.2.elim
 ·rename_i t x ht
  have:ts=#[t]:=by cases ts;simpa using ht
  subst this
  match vs,hx with
  | [v],hx=>exact⟨_,fun _=>rfl,zar h hh fun K' hk=>capT_ok hx.1 hk⟩
  | [],hx=>exact hx.elim
  | _::_::_,hx=>exact hx.2.elim
 ·exact⟨_,fun _=>rfl,zar h hh fun K' hk=>minT_ok hx hk⟩
 ·exact⟨_,fun _=>rfl,zar h hh fun K' hk=>maxT_ok hx hk⟩
 ·rename_i t u x y ht
  have:ts=#[t,u]:=by cases ts;simpa using ht
  subst this
  match vs,hx with
  | [v,vx],hx=>exact⟨_,fun _=>rfl,appendT_ok h hx.1 hx.2.1 hh⟩
  | [],hx=>exact hx.elim
  | [_],hx=>exact hx.2.elim
  | _::_::_::_,hx=>exact hx.2.2.elim
 ·exact hh.elim
theorem zfo{P:Program}{callT:CallT}(hc:zbz P callT){φ:Fr}{ρ:Rho}{H:Hp}{w:World}{o:Oper}{a:Act}{Q:Exit->Act->World->Prop}{f:FuncId}{args:List SV}{vs:List Value}{K:SV×Hp->Prop}
  (h:HInv φ ρ H w) (hx:VIs H.sc ρ args vs) (hh:(callT f args H).holds K):o.upon P a (OpPost φ ρ H K a o.dst) Q (.ok (.enter f vs.toArray) w):=by
 simp only[Oper.upon]
 refine(hc φ ρ H w f args vs K h hx hh).mono ?_
 rintro e w' ⟨v,ρ',sv,H',rfl,hK,h1,h2,h3,h4⟩
 exact⟨v,ρ',sv,H',hK,h1,h2,h3,h4,rfl⟩
theorem opT_ok{P:Program}{callT:CallT}(hc:zbz P callT){φ:Fr}{ρ:Rho}{s:St}{a:Act}{w:World}{o:Oper}{Q:Exit->Act->World->Prop}{K:SV×Hp->Prop}(h:Inv φ ρ s a w)(hh:(opT P callT s o.op).holds K):
  o.wp P a w (OpPost φ ρ s.H K a o.dst) Q:=by
 have hi:=h.heap
 unfold opT at hh
 split at hh
 case h_1 x ho=>
  obtain⟨v,hv,hK⟩:=zaa hh
  refine zav (r:=pure (a.eval x)) (by simp only[execOp,ho];try rfl) (.pure hi ⟨_,v,rfl,hK,zam h hv⟩)
 case h_2 x ho=>
  obtain⟨v,hv,hK⟩:=zaa hh
  refine zav (r:=pure (a.eval x)) (by simp only[execOp,ho];try rfl) (.pure hi ⟨_,v,rfl,hK,zam h hv⟩)
 case h_3 c x y ho=>
  obtain⟨vc,hvc,hh⟩:=zaa hh
  obtain⟨va,hva,hh⟩:=zaa hh
  obtain⟨vb,hvb,hh⟩:=zaa hh
  rw[Out.holds_bind]at hh
  obtain⟨z,sv,e,hK,hs⟩:=pickT_ok (zam h hvc) (zam h hva) (zam h hvb) hh
  refine zav (r:=do pure (if<-asBool (a.eval c) then a.eval x else a.eval y)) (by simp only[execOp,ho];simp) (.pure hi ⟨_,sv,?_,hK,hs⟩)
  simp[e,asBool]
 case h_4 t ho=>exact zav (by simp only[execOp,ho];try rfl) (allocT_ok hi hh)
 case h_5 t x ho=>
  obtain⟨v,hv,hh⟩:=zaa hh
  exact zav (by simp only[execOp,ho];try rfl) (boxT_ok hi (zam h hv) hh)
 case h_6 t ps ho=>
  obtain⟨l,hl,hh⟩:=zaa hh
  exact zav (by simp only[execOp,ho];try rfl) (zar hi hh fun K' hk=>buildT_ok (by simpa using partsT_is h hl) hk)
 case h_7 t len ps ho=>
  obtain⟨l,hl,hh⟩:=zaa hh
  exact zav (by simp only[execOp,ho];try rfl) (buildSliceT_ok hi (by simpa using partsT_is h hl) hh)
 case h_8 t x ho=>
  obtain⟨v,hv,hh⟩:=zaa hh
  refine zav (by simp only[execOp,ho];try rfl) (zar hi hh fun K' hk=>?_)
  obtain⟨p,sv,u,e,hr,hK,hs⟩:=loadVar_ok hi (zam h hv) hk
  exact⟨u,sv,by simp[Instr.loadAt,e,Instr.sureAddr,hr],hK,hs⟩
 case h_9 t x y ho=>
  obtain⟨v,hv,hh⟩:=zaa hh
  obtain⟨u,hu,hh⟩:=zaa hh
  rw[Out.holds_bind]at hh
  obtain⟨p,h',w',e,hK,hr,hinv⟩:=storeVar_ok (P:=P) hi (zam h hv) (zam h hu) hh
  have he:(execOp a.eval o).run P w=.ok .skip w':=by simp[execOp,ho,Instr.storeAt,e,Instr.sureAddr,hr]
  unfold Oper.wp
  rw[he]
  exact⟨undef,ρ,.t [],⟨h',s.H.nxt,s.H.D⟩,hK,.refl _ _,⟨Z _,rfl⟩,hinv,fun _ _=>rfl,rfl⟩
 case h_10 x ho=>
  obtain⟨v,hv,hh⟩:=zaa hh
  rw[Out.holds_bind]at hh
  have hx:=zam h hv
  obtain⟨hK,hcases⟩:=nilCheckT_ok (P:=P) hi hx hh
  have he:(execOp a.eval o).run P w=.ok (.value (a.eval x)) w:=by
   rcases hcases with⟨p,e⟩|⟨t,u,e⟩|⟨f,c,e⟩<;>simp[execOp,ho,e]
  unfold Oper.wp
  rw[he]
  exact⟨_,ρ,v,s.H,hK,.refl _ _,.refl _,hi,hx,rfl⟩
 case h_11 op t x y t' ho=>
  obtain⟨v,hv,hh⟩:=zaa hh
  obtain⟨u,hu,hh⟩:=zaa hh
  refine zav (by simp only[execOp,ho];try rfl) (zar hi hh fun K' hk=>binT2_ok hi (zam h hv) (zam h hu) ?_ hk)
  intro hb
  simp only[Bool.or_eq_true]at hb
  exact hb.imp isC_h isC_h
 case h_12 op t x ho=>
  obtain⟨v,hv,hh⟩:=zaa hh
  exact zav (by simp only[execOp,ho];try rfl) (zar hi hh fun K' hk=>unT_ok (zam h hv) hk)
 case h_13 t t' x ho=>
  obtain⟨v,hv,hh⟩:=zaa hh
  exact zav (by simp only[execOp,ho];try rfl) (zar hi hh fun K' hk=>convT2_ok hi (zam h hv) hk)
 case h_14 t x ho=>
  obtain⟨v,hv,hh⟩:=zaa hh
  exact zav (by simp only[execOp,ho];try rfl) (zar hi hh fun K' hk=>makeIfcT_ok (zam h hv) hk)
 case h_15 f first caps ho=>
  obtain⟨hf,hh⟩:=zaf hh
  obtain⟨l,hl,hh⟩:=zaa hh
  obtain⟨ks,hks,hK⟩:=zaa hh
  have hfe:first=#[]:=by simpa [Array.isEmpty_iff]using hf
  have hv:=evalsT_is h hl
  refine zav (by simp only[execOp,ho];try rfl) (.pure hi ⟨_,_,rfl,hK,fun ρ' ha=>?_⟩)
  have:=capKeys_is (n:=s.H.sc) (ρ:=ρ) hks hv.length hv.get ρ' ha
  simp only[SV.den,SC.den,this,hfe]
  simp
  rw[<-Array.toList_map,Array.toArray_toList]
 case h_16 t x y ho=>
  obtain⟨v,hv,hh⟩:=zaa hh
  obtain⟨u,hu,hh⟩:=zaa hh
  exact zav (by simp only[execOp,ho];try rfl) (makeSliceT_ok hi (zam h hv) (zam h hu) hh)
 case h_17 t x lo hi' mx ho=>
  obtain⟨v,hv,hh⟩:=zaa hh
  obtain⟨a1,h1,hh⟩:=zaa hh
  obtain⟨a2,h2,hh⟩:=zaa hh
  obtain⟨a3,h3,hh⟩:=zaa hh
  exact zav (by simp only[execOp,ho];try rfl) (zar hi hh fun K' hk=>sliceAT_ok hi (zam h hv) (optT_is h h1) (optT_is h h2) (optT_is h h3) hk)
 case h_18 t x f ho=>
  obtain⟨v,hv,hh⟩:=zaa hh
  exact zav (by simp only[execOp,ho];try rfl) (zar hi hh fun K' hk=>fieldAddrT_ok hi (zam h hv) hk)
 case h_19 t x f ho=>
  obtain⟨v,hv,hh⟩:=zaa hh
  exact zav (by simp only[execOp,ho];try rfl) (zar hi hh fun K' hk=>fieldT_ok (zam h hv) hk)
 case h_20 t x y ho=>
  obtain⟨v,hv,hh⟩:=zaa hh
  obtain⟨u,hu,hh⟩:=zaa hh
  exact zav (by simp only[execOp,ho];try rfl) (zar hi hh fun K' hk=>indexAddrT_ok hi (zam h hv) (zam h hu) hk)
 case h_21 t x y ho=>
  obtain⟨v,hv,hh⟩:=zaa hh
  obtain⟨u,hu,hh⟩:=zaa hh
  exact zav (by simp only[execOp,ho];try rfl) (zar hi hh fun K' hk=>indexT_ok (zam h hv) (zam h hu) hk)
 case h_22 x k ho=>
  obtain⟨v,hv,hh⟩:=zaa hh
  exact zav (by simp only[execOp,ho];try rfl) (zar hi hh fun K' hk=>extractT_ok (zam h hv) hk)
 case h_23 c ho=>
  obtain⟨args,hargs,hh⟩:=zaa hh
  have hva:=evalsT_is h hargs
  have hmap:c.args.map a.eval=(c.args.toList.map a.eval).toArray:=by rw[<-Array.toList_map,Array.toArray_toList]
  split at hh
  ·rename_i b hb
   obtain⟨r,h1,h2⟩:=builtinT_ok (P:=P) (ty:=o.type) hi hva hh
   refine zav (r:=r) ?_ h2
   simp only[execOp,ho,resolve,hb,pure_bind,invoke,hmap,h1]
  ·rename_i x hx
   obtain⟨v,hv,hh⟩:=zaa hh
   have hxs:=zam h hv
   split at hh
   ·rename_i f caps
    obtain⟨hbd,hh⟩:=zaf hh
    have e:=hxs.eq
    simp only[SV.den,SC.den]at e
    have hcp:VIs s.H.sc ρ (capPtrs caps) (caps.map fun k=>Value.pointer (zal ρ k (.k 0) 0)):=capPtrs_is fun ρ' ha=>by
     have:=(hxs ρ' ha).trans e
     simpa [SV.den,SC.den]using this
    have he:(execOp a.eval o).run P w=.ok (.enter f (c.args.toList.map a.eval++caps.map fun k=>Value.pointer (zal ρ k (.k 0) 0)).toArray) w:=by
     simp only[execOp,ho,resolve,hx,e,Deferred.ofValue,pure_bind,invoke,zd9 hbd]
     simp
    unfold Oper.wp
    rw[he]
    exact zfo hc hi (hva.append hcp) hh
   ·exact hh.elim
  ·rename_i x name hx
   obtain⟨v,hv,hh⟩:=zaa hh
   have hxs:=zam h hv
   split at hh
   ·rename_i t key i e f sz
    have ev:=hxs.eq
    simp only[SV.den,SC.den]at ev
    have hrec:SIs s.H.sc ρ (.c (.ptr key i e f sz)) (.pointer (zal ρ key i (e.v*sz+f))):=fun ρ' ha=>by
     have:=(hxs ρ' ha).trans ev
     simpa [SV.den,SC.den]using this
    obtain⟨m,hm⟩:∃m,P.types.size+Made.depth=m+1:=by
     refine⟨P.types.size+Made.depth-1,?_⟩
     have:0<Made.depth:=by decide
     omega
    have e1:(#[Value.iface t (.pointer (zal ρ key i (e.v*sz+f)))]++c.args.map a.eval)=(Value.iface t (.pointer (zal ρ key i (e.v*sz+f)))::c.args.toList.map a.eval).toArray:=by
     rw[hmap];simp
    split at hh
    ·rename_i g hg
     obtain⟨hbd,hh⟩:=zaf hh
     have he:(execOp a.eval o).run P w=.ok (.enter g (.pointer (zal ρ key i (e.v*sz+f))::c.args.toList.map a.eval).toArray) w:=by
      simp only[execOp,ho,resolve,hx,ev,pure_bind,invoke]
      rw[e1]
      simp[callMethod,hm,methodT_ok hg,zd9 hbd]
      exact List.take_of_length_le (by simp)
     unfold Oper.wp
     rw[he]
     exact zfo hc hi (args:=.c (.ptr key i e f sz)::args) ⟨hrec,hva⟩ hh
    ·obtain⟨q,hg,hh⟩:=zaa hh
     obtain⟨g,st,ix⟩:=q
     obtain⟨hbd,hh⟩:=zaf hh
     simp only at hbd hh
     rw[Out.holds_bind]at hh
     obtain⟨u,sv,hr,hK,hs⟩:=embed_ok hi hg hh m
     have he:(execOp a.eval o).run P w=.ok (.enter g (u::c.args.toList.map a.eval).toArray) w:=by
      simp only[execOp,ho,resolve,hx,ev,pure_bind,invoke]
      rw[e1]
      simp[callMethod,hm,hr,zd9 hbd]
      exact List.take_of_length_le (by simp)
     unfold Oper.wp
     rw[he]
     exact zfo hc hi (args:=sv::args) ⟨hs hrec,hva⟩ hK
   ·exact hh.elim
 case h_24 x xt b ho=>
  obtain⟨v,hv,hh⟩:=zaa hh
  obtain⟨r,hr,hK⟩:=zaa hh
  obtain⟨u,hu,hs⟩:=assertT_ok (xt:=xt) (w:=w) (zam h hv) hr
  exact zav (r:=Instr.typeAssert (a.eval x) xt b true) (by simp only[execOp,ho];try rfl) (by rw[hu];exact .pure hi ⟨u,r,rfl,hK,hs⟩)
 case h_25=>exact hh.elim
def St.put(s:St)(d:Option Tmp)(v:SV)(H:Hp):St:=⟨match d with
 | some t=>s.tmps.set t (some v)
 | none=>s.tmps,H⟩
theorem Inv.put{φ:Fr}{ρ ρ':Rho}{s:St}{a:Act}{w w':World}(h:Inv φ ρ s a w){d:Option Tmp}{v:SV}{u:Value}{H':Hp}(h1:zat s.H.sc ρ ρ')(h2:s.H.le H')(h3:HInv φ ρ' H' w')(h4:SIs H'.sc ρ' v u):
  Inv φ ρ' (s.put d v H') (a.put d u) w':=by
 refine⟨h3,?_,?_,?_⟩
 ·cases d<;>exact h.defers
 ·cases d<;>simp[Act.put,St.put,h.size]
 ·intro k sv hk
  cases d with
  | none=>
   obtain⟨x,hx,hs⟩:=h.tmps k sv hk
   exact⟨x,hx,hs.ext h1 h2.sc⟩
  | some t=>
   simp only[St.put,List.getElem?_set]at hk
   simp only[Act.put]
   by_cases e:t=k
   ·subst e
    simp only[if_true]at hk
    split at hk
    ·rename_i hlt
     cases hk
     exact⟨u,by simp[h.size,hlt],h4⟩
    ·cases hk
   ·rw[if_neg e]at hk
    obtain⟨x,hx,hs⟩:=h.tmps k sv hk
    exact⟨x,by rw[Array.getElem?_setIfInBounds_ne e];exact hx,hs.ext h1 h2.sc⟩
def guardT(ops:List Oper)(s:St)(o:Oper):Out Bool:=
 match o.guard with
 | none=>.leaf true
 | some (j,want)=>match (ops[j]?).bind (·.dst) with
  | some d=>match getF s.tmps d with
   | some (some (.t []))=>.leaf false
   | some (some sv)=>opt (asB sv) (fun r=>match r.1 with
    | true=>.leaf (r.2 == want)
    | false=>.br r.2 (.leaf want) (.leaf (!want))) 230
   | _=>.bad 231
  | none=>.bad 232
theorem guardT_ok0{n:Nat->Prop}{ρ:Rho}{ops:List Oper}{s:St}{a:Act}{o:Oper}{K:Bool->Prop}(h:∀(k:Nat) (sv:SV),s.tmps[k]?=some (some sv)->∃v,a.tmps[k]?=some v/\SIs n ρ sv v)(hh:(guardT ops s o).holds K):K (Region.wanted o (yielded ops.toArray a.tmps)):=by
 unfold guardT at hh
 try simp only[zaq,za2,zbm,za3]at hh
 unfold Region.wanted
 split at hh
 ·rename_i hg;rw[hg];exact hh
 ·rename_i j want hg
  rw[hg]
  simp only
  split at hh
  ·rename_i d hd
   split at hh
   ·rename_i hs
    obtain⟨v,hv,hi⟩:=h d _ hs
    have e:=hi.eq
    simp only[SV.den]at e
    have hy:yielded ops.toArray a.tmps j=none:=by simp[yielded,hd,hv,e]
    rw[hy];exact hh
   ·rename_i sv hne hs
    obtain⟨r,hr,hh⟩:=zaa hh
    obtain⟨v,hv,hi⟩:=h d _ hs
    have e:=asB_is hr hi
    have hy:yielded ops.toArray a.tmps j=some r.2:=by simp[yielded,hd,hv,e]
    rw[hy]
    obtain⟨kn,b⟩:=r
    cases kn with
    | true=>
     have:(some b == some want)=(b == want):=by cases b<;>cases want<;>rfl
     rw[this];exact hh
    | false=>
     simp only at hh ⊢
     cases b with
     | true=>have:=hh.1 rfl;cases want<;>exact this
     | false=>have:=hh.2 rfl;cases want<;>exact this
   ·exact hh.elim
  ·exact hh.elim
theorem guardT_ok{φ:Fr}{ρ:Rho}{ops:List Oper}{s:St}{a:Act}{w:World}{o:Oper}{K:Bool->Prop}(h:Inv φ ρ s a w)(hh:(guardT ops s o).holds K):K (Region.wanted o (yielded ops.toArray a.tmps)):=
 guardT_ok0 h.tmps hh
def isG(ops:List Oper)(d:Option Tmp):Bool:=match d with
 | none=>false
 | some d=>ops.any fun o=>match o.guard with
  | some (g,_)=>match (ops[g]?).bind (·.dst) with
   | some e=>zu d e
   | none=>false
  | none=>false
def zcx(g:Bool)(r:SV×Hp):Out (SV×Hp):=match r.1 with
 | .c (.bv b)=>match g with
  | true=>.br b (.leaf (.c (.kb true),r.2)) (.leaf (.c (.kb false),r.2))
  | false=>.leaf r
 | _=>.leaf r
theorem splitT_ok{g:Bool}{sv:SV}{H:Hp}{K:SV×Hp->Prop}(h:(zcx g (sv,H)).holds K):∃sv',K (sv',H)/\∀(n:Nat->Prop) (ρ:Rho) (v:Value),SIs n ρ sv v->SIs n ρ sv' v:=by
 unfold zcx at h
 split at h
 ·rename_i b hb
  simp only at hb;subst hb
  split at h
  ·cases b with
   | true=>exact⟨_,h.1 rfl,fun _ _ _ hs=>hs⟩
   | false=>exact⟨_,h.2 rfl,fun _ _ _ hs=>hs⟩
  ·exact⟨_,h,fun _ _ _ hs=>hs⟩
 ·exact⟨_,h,fun _ _ _ hs=>hs⟩
def heapLvl:Op->Nat
 | .alloc _|.box ..|.buildSlice ..|.makeSlice ..=>1
 | .call c=>match c.callee with
  | .builtin .append=>2
  | _=>0
 | _=>0
def zdl(P:Program)(callT:CallT)(ops:List Oper):List Oper->St->Out St
 | [],s=>.leaf s
 | o::rest,s=>(guardT ops s o).bind fun
  | true=>(opT P callT s o.op).bind fun r=>(zcx (isG ops o.dst) r).bind fun r=>fSV r.1 fun v=>fHpL (heapLvl o.op) r.2 fun H=>putK s.tmps o.dst v fun t=>zdl P callT ops rest ⟨t,H⟩
  | false=>putK s.tmps o.dst (.t []) fun t=>zdl P callT ops rest ⟨t,s.H⟩
theorem runOps_cons(P:Program)(callT:CallT)(ops:List Oper)(o:Oper)(rest:List Oper)(s:St):zdl P callT ops (o::rest) s=(guardT ops s o).bind fun
  | true=>(opT P callT s o.op).bind fun r=>(zcx (isG ops o.dst) r).bind fun r=>zdl P callT ops rest (s.put o.dst r.1 r.2)
  | false=>zdl P callT ops rest (s.put o.dst (.t []) s.H):=by
 simp only[zdl,fSV_eq,fHpL_eq,putK_eq]
 rfl
def Then(φ:Fr)(ρ:Rho)(s:St)(K:St->Prop)(N:Act->World->Prop):Prop:=∀s' ρ' a' w',K s'->zat s.H.sc ρ ρ'->s.H.le s'.H->Inv φ ρ' s' a' w'->N a' w'
theorem ze1{P:Program}{callT:CallT}(hc:zbz P callT){φ:Fr}{ops:List Oper}{Q:Exit->Act->World->Prop}:∀(l:List Oper) {ρ:Rho} {s:St} {a:Act} {w:World} {K:St->Prop},Inv φ ρ s a w->(zdl P callT ops l s).holds K->
  Then φ ρ s K (Q .normal)->wpList P ops.toArray Q l a w
 | [],ρ,s,a,w,K,h,hh,hQ=>hQ s ρ a w hh (.refl _ _) (.refl _) h
 | o::rest,ρ,s,a,w,K,h,hh,hQ=>by
  rw[runOps_cons,Out.holds_bind]at hh
  have hg:=guardT_ok h hh
  unfold wpList
  split
  ·rename_i hw
   rw[hw]at hg
   simp only[Out.holds_bind]at hg
   refine .inl (Oper.wp_mono (K:=OpPost φ ρ s.H (fun r=>(zcx (isG ops o.dst) r).holds fun r=>(zdl P callT ops rest (s.put o.dst r.1 r.2)).holds K) a o.dst) ?_ (opT_ok hc h hg))
   rintro a' w' ⟨v,ρ',sv,H',hK,h1,h2,h3,h4,rfl⟩
   obtain⟨sv',hK,hsv⟩:=splitT_ok hK
   refine ze1 hc rest (h.put h1 h2 h3 (hsv _ _ _ h4)) hK fun s2 ρ2 a2 w2 g1 g2 g3 g4=>hQ s2 ρ2 a2 w2 g1 (h1.trans (g2.mono h2.sc)) (h2.trans g3) g4
  ·rename_i hw
   have hw':Region.wanted o (yielded ops.toArray a.tmps)=false:=by simpa using hw
   rw[hw']at hg
   simp only at hg
   refine ze1 hc rest (h.put (d:=o.dst) (v:=.t []) (u:=undef) (.refl _ _) (.refl _) h.heap (fun _ _=>rfl)) hg fun s2 ρ2 a2 w2 g1 g2 g3 g4=>hQ s2 ρ2 a2 w2 g1 g2 g3 g4
section
variable {Lf:Type}
abbrev LM(Lf:Type):=Nat->Option Lf
def LM.set(L:LM Lf)(i:Nat)(x:Lf):LM Lf:=fun j=>if j=i then some x else L j
theorem LM.set_comm(L:LM Lf){i j:Nat}(x y:Lf)(h:i≠j):(L.set i x).set j y=(L.set j y).set i x:=by
 funext k
 simp only[LM.set]
 by_cases h1:k=j<;>by_cases h2:k=i<;>simp_all
theorem LM.set_at(L:LM Lf)(i:Nat)(x:Lf):L.set i x i=some x:=by simp[LM.set]
theorem LM.set_ne(L:LM Lf){i j:Nat}(x:Lf)(h:j≠i):L.set i x j=L j:=by simp[LM.set,h]
def res(T:Nat->LM Lf->Out Lf)(QF:LM Lf->Prop):List Nat->LM Lf->Prop
 | [],L=>QF L
 | k::ks,L=>(T k L).holds fun x=>res T QF ks (L.set k x)
variable {T:Nat->LM Lf->Out Lf} {QF:LM Lf->Prop} {anc:Nat->Nat->Bool}
theorem res_pull(hloc:∀k L L',(∀j,anc k j=true->L j=L' j)->T k L=T k L')(hlt:∀k j,anc k j=true->j<k)(i:Nat):∀(ks:List Nat) (L:LM Lf),ks.Pairwise (· < ·)->i∈ks->(∀j∈ks,anc i j=false)->
  res T QF ks L->(T i L).holds fun x=>res T QF (ks.erase i) (L.set i x)
 | [],L,_,hi,_,_=>by cases hi
 | k::ks,L,hs,hi,hn,h=>by
  by_cases e:i=k
  ·subst e
   simp only[List.erase_cons_head]
   exact h
  ·have hi':i∈ks:=by
    cases hi with
    | head=>exact absurd rfl e
    | tail _ h=>exact h
   have hki:k<i:=(List.pairwise_cons.1 hs).1 i hi'
   rw[List.erase_cons_tail (by simpa using Ne.symm e)]
   simp only[res]at h ⊢
   have h1:(T k L).holds fun x=>(T i L).holds fun y=>res T QF (ks.erase i) ((L.set i y).set k x):=by
    refine Out.holds_mono _ (fun x hx=>?_) h
    have:=res_pull hloc hlt i ks (L.set k x) (List.pairwise_cons.1 hs).2 hi' (fun j hj=>hn j (List.mem_cons_of_mem _ hj)) hx
    have e1:T i (L.set k x)=T i L:=hloc i _ _ fun j hj=>LM.set_ne _ _ (by rintro rfl;rw[hn j List.mem_cons_self]at hj;cases hj)
    rw[e1]at this
    refine Out.holds_mono _ (fun y hy=>?_) this
    rw[LM.set_comm _ _ _ e];exact hy
   have h2:=Out.holds_swap _ _ h1
   refine Out.holds_mono _ (fun y hy=>?_) h2
   have e2:T k (L.set i y)=T k L:=hloc k _ _ fun j hj=>LM.set_ne _ _ (by rintro rfl;have:=hlt k j hj;omega)
   rw[e2];exact hy
theorem res_const{p:Prop}:∀(ks:List Nat) (L:LM Lf),res T QF ks L->(∀L',(∀j,j∉ks->L' j=L j)->QF L'->p)->p
 | [],L,h,hp=>hp L (fun _ _=>rfl) h
 | k::ks,L,h,hp=>by
  refine Out.holds_const (T k L) (Out.holds_mono _ (fun x hx=>?_) h)
  refine res_const ks _ hx fun L' h1 h2=>hp L' (fun j hj=>?_) h2
  rw[h1 j (fun h=>hj (List.mem_cons_of_mem _ h))]
  exact LM.set_ne _ _ (by rintro rfl;exact hj List.mem_cons_self)
theorem any_of_res{P:Program}{ops:Array Oper}{Q:Exit->Act->World->Prop}{Sat:LM Lf->Act->World->Prop}{C:Nat->Lf->Nat->Lf->Prop}
  (hloc:∀k L L',(∀j,anc k j=true->L j=L' j)->T k L=T k L') (hlt:∀k j,anc k j=true->j<k)
  (hdir:∀i o j,ops[i]?=some o->anc i j=true->∃e∈o.after,Region.binds .any e=true/\(e.on=j\/anc e.on j=true))
  (hbk:∀i o e,ops[i]?=some o->e∈o.after->Region.binds .any e=true->e.on<i)
  (hstep:∀k o L a w K,ops[k]?=some o->L k=none->(∀j,anc k j=true->(L j).isSome)->Sat L a w->(T k L).holds K->
   (∀x,K x->∀j y,L j=some y->C j y k x)->wpOp P ops Q k (fun a' w'=>∃x,K x/\Sat (L.set k x) a' w') a w)
  (hC:∀L,QF L->∀j k y x,j≠k->L j=some y->L k=some x->C j y k x)
  (hend:∀L a w,QF L->(∀k,k<ops.size->(L k).isSome)->Sat L a w->Q .normal a w):
  ∀(fuel:Nat) (ks:List Nat) (listed:Array Bool) (L:LM Lf) (a:Act) (w:World),ks.length=fuel->ks.Pairwise (· < ·)->listed.size=ops.size->(∀k,k∈ks↔k<ops.size/\listed.getD k true=false)->
   (∀k,k<ops.size->(listed.getD k false=true↔(L k).isSome))->(∀k j,(L k).isSome->anc k j=true->(L j).isSome)->res T QF ks L->Sat L a w->wpAny P .any ops Q fuel listed a w:=by
 intro fuel
 induction fuel with
 | zero=>
  intro ks listed L a w hl hs hsz hks hL hdown h hsat
  have hk0:ks=[]:=List.eq_nil_of_length_eq_zero hl
  subst hk0
  refine⟨?_,hend L a w h (fun k hk=>?_) hsat⟩
  ·rw[Region.ready]
   rw[List.filter_eq_nil_iff]
   intro k hk
   have hk':k<ops.size:=by simpa using hk
   have:listed.getD k true≠false:=fun hf=>by have:=(hks k).2 ⟨hk',hf⟩;cases this
   simp[this]
  ·have h1:listed.getD k true≠false:=fun hf=>by have:=(hks k).2 ⟨hk,hf⟩;cases this
   refine(hL k hk).1 ?_
   have hkl:k<listed.size:=by omega
   simp only[Array.getD_eq_getD_getElem?,Array.getElem?_eq_getElem hkl,Option.getD_some]at h1 ⊢
   cases hb:listed[k]<;>simp_all
 | succ fuel ih=>
  intro ks listed L a w hl hs hsz hks hL hdown h hsat
  have hready:∀i,i∈Region.ready .any ops listed->i∈ks/\(∀j,anc i j=true->(L j).isSome)/\∃o,ops[i]?=some o:=by
   intro i hi
   simp only[Region.ready,List.mem_filter,List.mem_range,zx,z7]at hi
   obtain⟨hi1,hi2,hi3⟩:=hi
   refine⟨(hks i).2 ⟨hi1,hi2⟩,?_,⟨_,Array.getElem?_eq_getElem hi1⟩⟩
   intro j hj
   rw[Array.getElem?_eq_getElem hi1]at hi3
   simp only[Option.map_some,Option.getD_some,Array.all_eq_true_iff_forall_mem]at hi3
   obtain⟨e,he,hb,hor⟩:=hdir i ops[i] j (Array.getElem?_eq_getElem hi1) hj
   have h1:=hi3 e he
   simp only[hb,Bool.not_true,Bool.false_or]at h1
   have hon:e.on<listed.size:=by
    rcases Nat.lt_or_ge e.on listed.size with h'|h'
    ·exact h'
    ·simp[Array.getElem?_eq_none h']at h1
   have h2:=(hL e.on (by omega)).1 h1
   rcases hor with rfl|hor
   ·exact h2
   ·exact hdown _ _ h2 hor
  refine⟨fun h0=>?_,fun i hi=>?_⟩
  ·-- somebody is ready: the least of those that are left
   exfalso
   cases ks with
   | nil=>simp at hl
   | cons k ks=>
    have hk:=(hks k).1 List.mem_cons_self
    have:k∈Region.ready .any ops listed:=by
     simp only[Region.ready,List.mem_filter,List.mem_range,zx,z7]
     refine⟨hk.1,hk.2,?_⟩
     rw[Array.getElem?_eq_getElem hk.1]
     simp only[Option.map_some,Option.getD_some,Array.all_eq_true_iff_forall_mem]
     intro e he
     by_cases hb:Region.binds .any e=true
     ·have h1:=hbk k _ e (Array.getElem?_eq_getElem hk.1) he hb
      have h2:e.on∉k::ks:=by
       intro hm
       cases hm with
       | head=>omega
       | tail _ hm=>have:=(List.pairwise_cons.1 hs).1 _ hm;omega
      have h3:listed.getD e.on true≠false:=fun hf=>h2 ((hks e.on).2 ⟨by omega,hf⟩)
      have h4:e.on<listed.size:=by omega
      simp only[Array.getD_eq_getD_getElem?,Array.getElem?_eq_getElem h4,Option.getD_some]at h3 ⊢
      cases hx:listed[e.on]<;>simp_all
     ·simp[hb]
    rw[h0]at this;cases this
  ·obtain⟨hik,hanc,o,ho⟩:=hready i hi
   have hLi:L i=none:=by
    have h1:=(hks i).1 hik
    cases hx:L i with
    | none=>rfl
    | some x=>
     have:=(hL i h1.1).2 (by simp[hx])
     have hil:i<listed.size:=by omega
     simp only[Array.getD_eq_getD_getElem?,Array.getElem?_eq_getElem hil,Option.getD_some]at this h1
     rw[this]at h1;cases h1.2
   have hnot:∀j∈ks,anc i j=false:=by
    intro j hj
    cases hb:anc i j with
    | false=>rfl
    | true=>
     have h1:=(hks j).1 hj
     have h2:=hanc j hb
     have h3:=(hL j h1.1).2 h2
     have hjl:j<listed.size:=by omega
     simp only[Array.getD_eq_getD_getElem?,Array.getElem?_eq_getElem hjl,Option.getD_some]at h3 h1
     rw[h3]at h1;cases h1.2
   have hp:=res_pull hloc hlt i ks L hs hik hnot h
   have hnd:ks.Nodup:=hs.imp (fun h=>Nat.ne_of_lt h)
   refine wpOp_mono ?_ (hstep i o L a w _ ho hLi hanc hsat hp ?_)
   case refine_2=>
    intro x hx j y hj
    refine res_const (ks.erase i) (L.set i x) hx fun L' h1 h2=>?_
    have hji:j≠i:=by rintro rfl;rw[hLi]at hj;cases hj
    have hjk:j∉ks.erase i:=by
     intro hm
     have:=List.mem_of_mem_erase hm
     have h3:=(hks j).1 this
     have h4:=(hL j h3.1).2 (by simp[hj])
     have hjl:j<listed.size:=by omega
     simp only[Array.getD_eq_getD_getElem?,Array.getElem?_eq_getElem hjl,Option.getD_some]at h4 h3
     rw[h4]at h3;cases h3.2
    have hik':i∉ks.erase i:=by rw[hnd.mem_erase_iff];simp
    exact hC L' h2 j i y x hji (by rw[h1 j hjk,LM.set_ne _ _ hji];exact hj) (by rw[h1 i hik',LM.set_at])
   rintro a' w' ⟨x,hx,hS⟩
   have hi1:=(hks i).1 hik
   have hil:i<listed.size:=by omega
   refine ih (ks.erase i) _ (L.set i x) a' w' (by rw[List.length_erase_of_mem hik];omega) (hs.sublist List.erase_sublist) (by simp[hsz]) ?_ ?_ ?_ hx hS
   ·intro k
    rw[hnd.mem_erase_iff,hks k]
    simp only[Array.getD_eq_getD_getElem?,Array.getElem?_setIfInBounds]
    by_cases e:i=k
    ·subst e;simp[hil]
    ·simp[e,Ne.symm e]
   ·intro k hk
    simp only[Array.getD_eq_getD_getElem?,Array.getElem?_setIfInBounds]
    by_cases e:i=k
    ·subst e;simp[hil,LM.set_at]
    ·rw[if_neg e,LM.set_ne _ _ (Ne.symm e)]
     have:=hL k hk
     simpa [Array.getD_eq_getD_getElem?]using this
   ·intro k j hk hj
    by_cases e:k=i
    ·subst e
     have hji:j≠k:=by have:=hlt k j hj;omega
     rw[LM.set_ne _ _ hji];exact hanc j hj
    ·rw[LM.set_ne _ _ e]at hk
     by_cases e':j=i
     ·subst e';simp[LM.set_at]
     ·rw[LM.set_ne _ _ e'];exact hdown k j hk hj
end
end Go.Proofs.YtabiechfpefjhaaGreat.Sx
