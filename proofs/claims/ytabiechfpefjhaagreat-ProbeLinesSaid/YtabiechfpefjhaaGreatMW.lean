/- A part of the proof. -/
import Derived.Test.YtabiechfpefjhaaGreatMV
set_option linter.unusedVariables false
set_option linter.unusedSimpArgs false
open Nat renaming le_of_ble_eq_true -> zb
namespace Go.Proofs.YtabiechfpefjhaaGreat.Sx
open Go Go.RowKit
def SCe(a b:SC):Prop:=∀ρ,b.den ρ=a.den ρ
def SVe(a b:SV):Prop:=∀ρ,b.den ρ=a.den ρ
def knI(b:Bool)(k:IntKind)(n:Int):SC:=match b with|true=>.ki k n|false=>.iv k n
def knN(b:Bool)(n:Nat):NV:=match b with|true=>.k n|false=>.s n
theorem knI_e(b:Bool)(k:IntKind)(n:Int):SCe (.iv k n) (knI b k n):=by cases b<;>exact fun _=>rfl
theorem SCe.refl(a:SC):SCe a a:=fun _=>rfl
theorem slc_e(b b':Bool)(key:Nat)(i e:NV)(sz n c:Nat):SCe (.slc key i e sz (.s n) (.s c)) (.slc key i e sz (knN b n) (knN b' c)):=by
 cases b<;>cases b'<;>exact fun _=>rfl
def Fa{α:Type}(R:α->α->Prop):List α->List α->Prop
 | [],[]=>True
 | x::l,y::m=>R x y/\Fa R l m
 | _,_=>False
theorem Fa.len{α:Type}{R:α->α->Prop}:∀ {l m:List α},Fa R l m->m.length=l.length
 | [],[],_=>rfl
 | x::l,y::m,h=>by simp[Fa.len h.2]
 | [],_::_,h=>h.elim
 | _::_,[],h=>h.elim
theorem Fa.at{α:Type}{R:α->α->Prop}:∀ {l m:List α},Fa R l m->∀(i:Nat) (y:α),m[i]?=some y->∃x,l[i]?=some x/\R x y
 | [],[],_,i,y,h=>by simp at h
 | x::l,z::m,h,i,y,hi=>by
  cases i with
  | zero=>simp at hi;subst hi;exact⟨x,rfl,h.1⟩
  | succ i=>exact Fa.at h.2 i y (by simpa using hi)
 | [],_::_,h,_,_,_=>h.elim
 | _::_,[],h,_,_,_=>h.elim
def OSe:Option SC->Option SC->Prop
 | some a,some b=>SCe a b
 | _,none=>True
 | none,some _=>False
theorem fa_own:∀ {l m:List SC},Fa SCe l m->Fa OSe (l.map some) (m.map some)
 | [],[],_=>trivial
 | x::l,y::m,h=>⟨h.1,fa_own h.2⟩
 | [],_::_,h=>h.elim
 | _::_,[],h=>h.elim
def ColE(a b:Col):Prop:=∀i e c',b.get i e=some c'->∃c,a.get i e=some c/\SCe c c'
theorem ColE.refl(a:Col):ColE a a:=fun _ _ c h=>⟨c,h,SCe.refl c⟩
theorem cc_i{k:IntKind}{n:Int}:ColE (.ci k fun _ _=>n) (.cc (.ki k n)):=fun i e c' h=>by cases h;exact⟨_,rfl,fun _=>rfl⟩
def BlkE:Blk->Blk->Prop
 | .own t s cs,.own t' s' cs'=>t=t'/\s=s'/\Fa OSe cs cs'
 | .row t c n cols,.row t' c' n' cols'=>t=t'/\c=c'/\n=n'/\Fa ColE cols cols'
 | b,b'=>b=b'
theorem BlkE.refl:∀b:Blk,BlkE b b:=by
 have fo:∀l:List (Option SC),Fa OSe l l:=by
  intro l
  induction l with
  | nil=>trivial
  | cons x l ih=>exact⟨by cases x with|none=>trivial|some x=>exact SCe.refl x,ih⟩
 have fc:∀l:List Col,Fa ColE l l:=by
  intro l
  induction l with
  | nil=>trivial
  | cons x l ih=>exact⟨ColE.refl x,ih⟩
 intro b
 cases b with
 | own t s cs=>exact⟨rfl,rfl,fo cs⟩
 | row t c n cols=>exact⟨rfl,rfl,rfl,fc cols⟩
 | view=>exact rfl
 | fam=>exact rfl
theorem BlkE.cases{b b':Blk}(h:BlkE b b'):b=b'\/(∃t s cs cs',b=.own t s cs/\b'=.own t s cs'/\Fa OSe cs cs')\/∃t c n cols cols',b=.row t c n cols/\b'=.row t c n cols'/\Fa ColE cols cols':=by
 cases b<;>cases b'<;>first
  | (obtain⟨rfl,rfl,h⟩:=h;exact .inr (.inl ⟨_,_,_,_,rfl,rfl,h⟩))
  | (obtain⟨rfl,rfl,rfl,h⟩:=h;exact .inr (.inr ⟨_,_,_,_,_,rfl,rfl,h⟩))
  | exact .inl h
theorem BlkE.live{b b':Blk}(h:BlkE b b')(i:Nat):b'.live i->b.live i:=by
 rcases h.cases with rfl|⟨t,s,cs,cs',rfl,rfl,_⟩|⟨t,c,n,cols,cols',rfl,rfl,_⟩<;>exact fun h=>h
theorem BlkE.isRow{b b':Blk}(h:BlkE b b'):b'.isRow=b.isRow:=by
 rcases h.cases with rfl|⟨t,s,cs,cs',rfl,rfl,_⟩|⟨t,c,n,cols,cols',rfl,rfl,_⟩<;>rfl
theorem CIs.same{n:Nat->Prop}{ρ:Rho}{c c':SC}{v:Value}(h:CIs n ρ c v)(e:SCe c c'):CIs n ρ c' v:=fun ρ' ha=>(e ρ').trans (h ρ' ha)
theorem BlkE.sat{b b':Blk}(h:BlkE b b'){n:Nat->Prop}{ρ:Rho}{k:Nat}{w:World}(hs:b.sat n ρ k w):b'.sat n ρ k w:=by
 rcases h.cases with rfl|⟨t,s,cs,cs',rfl,rfl,hf⟩|⟨t,c,m,cols,cols',rfl,rfl,hf⟩
 ·exact hs
 ·obtain⟨y,arr,h1,h2,h3,h4,h5⟩:=hs
  refine⟨y,arr,h1,h2,h3,by rw[hf.len];exact h4,fun i c' hc=>?_⟩
  obtain⟨x,hx,hxe⟩:=hf.at i _ hc
  cases x with
  | none=>exact hxe.elim
  | some x=>obtain⟨v,hv,hi⟩:=h5 i x hx;exact⟨v,hv,hi.same hxe⟩
 ·rcases hs with hs|⟨y,arr,h1,h2,h3,h4,h4',h5⟩
  ·exact .inl hs
  ·have hl:=hf.len
   refine .inr ⟨y,arr,h1,h2,by rw[hl];exact h3,h4,h4',fun e he f col' c' hc' hc=>?_⟩
   obtain⟨col,hcol,hce⟩:=hf.at f _ hc'
   obtain⟨c,hc1,hc2⟩:=hce 0 e c' hc
   obtain⟨v,hv,hi⟩:=h5 e he f col c hcol hc1
   exact⟨v,by rw[hl];exact hv,hi.same hc2⟩
def HLE(h h':HL):Prop:=Fa (fun p q=>p.1=q.1/\BlkE p.2 q.2) h h'
theorem HLE.refl:∀h:HL,HLE h h
 | []=>trivial
 | p::h=>⟨⟨rfl,BlkE.refl _⟩,HLE.refl h⟩
theorem HLE.find:∀ {h h':HL},HLE h h'->∀ {k:Nat} {b':Blk},find k h'=some b'->∃b,find k h=some b/\BlkE b b'
 | [],[],_,k,b',hf=>by simp[Sx.find]at hf
 | (j,b)::h,(j',c)::h',he,k,b',hf=>by
  obtain⟨⟨rfl,hb⟩,he⟩:=he
  rw[zag]at hf ⊢
  split at hf
  ·rename_i e;cases hf;rw[if_pos e];exact⟨b,rfl,hb⟩
  ·rename_i e;rw[if_neg e];exact HLE.find he hf
 | [],_::_,h,_,_,_=>h.elim
 | _::_,[],h,_,_,_=>h.elim
theorem HInv.same{φ:Fr}{ρ:Rho}{H:Hp}{w:World}(h:HInv φ ρ H w){h':HL}(he:HLE H.h h'):HInv φ ρ ⟨h',H.nxt,H.D⟩ w:=by
 refine⟨h.fr,h.up,fun k b hk=>?_,fun k b hk=>?_,fun k b hk i hi=>?_,fun k b hk hr i hi=>?_,fun k b hk hr k' b' hk' hne j i hj hi=>?_⟩
 ·obtain⟨c,hc,_⟩:=he.find hk;exact h.lt k c hc
 ·obtain⟨c,hc,hb⟩:=he.find hk;exact hb.sat (h.sat k c hc)
 ·obtain⟨c,hc,hb⟩:=he.find hk;exact h.bd k c hc i (hb.live i hi)
 ·obtain⟨c,hc,hb⟩:=he.find hk;exact h.may k c hc (by rw[<-hb.isRow];exact hr) i (hb.live i hi)
 ·obtain⟨c,hc,hb⟩:=he.find hk
  obtain⟨c',hc',hb'⟩:=he.find hk'
  exact h.sep k c hc (by rw[<-hb.isRow];exact hr) k' c' hc' hne j i (hb.live j hj) (hb'.live i hi)
theorem zah.same{P:Program}{f:FuncId}{args:List SV}{h0:HL}{n:Nat}{p q:Out (SV×Hp)}(h:zah P f args h0 n p)
  (hpq:∀K:SV×Hp->Prop,q.holds K->p.holds (fun r=>∃sv h',SVe r.1 sv/\HLE r.2.h h'/\K (sv,⟨h',r.2.nxt,r.2.D⟩))):zah P f args h0 n q:=
 fun φ ρ w vs K hi hv hh=>(h φ ρ w vs _ hi hv (hpq K hh)).mono (by
  rintro e w' ⟨v,ρ',sv,H',rfl,⟨sv',h',hle,hl,hK⟩,a1,a2,a3,a4⟩
  exact⟨v,ρ',sv',_,rfl,hK,a1,⟨a2.nxt,a2.D⟩,a3.same hl,fun ρ2 ha=>(hle ρ2).trans (a4 ρ2 ha)⟩)
theorem SVe.refl(a:SV):SVe a a:=fun _=>rfl
inductive P0 where
 | lt (a b:Nat)
 | lt2 (a b c d:Nat)
 | le (a b:Nat)
 | le2 (a b c d:Nat)
 | eq (a b:Nat)
 | eqI (a b:Nat)
 | tr
 | neI (a b:Nat)
 | leI (a b:Nat)
 | leI2 (a b c d:Nat)
 | pf (q:Prop) (h:q)
def P0.p:P0->Prop
 | .lt a b=>a<b
 | .lt2 a b c d=>a<b/\c<d
 | .le a b=>a<=b
 | .le2 a b c d=>a<=b/\c<=d
 | .eq a b=>a=b
 | .eqI a b=>Int.ofNat a=Int.ofNat b
 | .tr=>True
 | .neI a b=>Int.ofNat a≠Int.ofNat b
 | .leI a b=>Int.ofNat a<=Int.ofNat b
 | .leI2 a b c d=>Int.ofNat a<=Int.ofNat b/\Int.ofNat c<=Int.ofNat d
 | .pf q _=>q
def P0.b:P0->Bool
 | .lt a b=>Nat.blt a b
 | .lt2 a b c d=>Nat.blt a b&&Nat.blt c d
 | .le a b=>Nat.ble a b
 | .le2 a b c d=>Nat.ble a b&&Nat.ble c d
 | .eq a b=>Nat.beq a b
 | .eqI a b=>Nat.beq a b
 | .tr=>true
 | .neI a b=>!(Nat.beq a b)
 | .leI a b=>Nat.ble a b
 | .leI2 a b c d=>Nat.ble a b&&Nat.ble c d
 | .pf _ _=>true
theorem P0.h{x:P0}(h:x.b=true):x.p:=by
 cases x
 case pf q hq=>exact hq
 all_goals simp only[P0.b,P0.p,Bool.and_eq_true]at h ⊢
 ·exact Nat.lt_of_succ_le (zb h)
 ·exact⟨Nat.lt_of_succ_le (zb h.1),Nat.lt_of_succ_le (zb h.2)⟩
 ·exact zb h
 ·exact⟨zb h.1,zb h.2⟩
 ·exact Nat.eq_of_beq_eq_true h
 ·rw[Nat.eq_of_beq_eq_true h]
 ·intro e
  have e:=Int.ofNat.inj e
  subst e
  simp at h
 ·exact Int.ofNat_le.2 (zb h)
 ·exact⟨Int.ofNat_le.2 (zb h.1),Int.ofNat_le.2 (zb h.2)⟩
def rpN(x:P0)(k:V):Nat->V
 | 0=>k
 | n+1=>.need x.p (rpN x k n)
def nN:List (Nat×P0)->V->V
 | [],k=>k
 | (n,x)::l,k=>rpN x (nN l k) n
def allP0:List (Nat×P0)->Bool
 | []=>true
 | (_,x)::l=>x.b&&allP0 l
theorem rpN_h{x:P0}(h:x.b=true)(k:V):∀n,(rpN x k n).holds↔k.holds
 | 0=>Iff.rfl
 | n+1=>⟨fun g=>(rpN_h h k n).1 g.2,fun g=>⟨P0.h h,(rpN_h h k n).2 g⟩⟩
theorem nN_h:∀ {l:List (Nat×P0)} {k:V},allP0 l=true->k.holds->(nN l k).holds
 | [],k,_,h=>h
 | (n,x)::l,k,hl,h=>by
  simp only[allP0,Bool.and_eq_true]at hl
  exact(rpN_h hl.1 _ n).2 (nN_h hl.2 h)
theorem V.needI{p:Prop}{k:V}(hp:p)(hk:k.holds):(V.need p k).holds:=⟨hp,hk⟩
theorem V.brI{b:Bool}{t e:V}(ht:b=true->t.holds)(he:b=false->e.holds):(V.br b t e).holds:=⟨ht,he⟩
theorem V.brT{t e:V}(ht:t.holds):(V.br true t e).holds:=⟨fun _=>ht,fun h=>(by cases h)⟩
theorem V.brF{t e:V}(he:e.holds):(V.br false t e).holds:=⟨fun h=>(by cases h),fun _=>he⟩
theorem V.brFo{b:Bool}{t e:V}(h:b=false)(ht:e.holds):(V.br b t e).holds:=by subst h;exact V.brF ht
theorem V.anyI{α:Type}{φ:α->Prop}{k:α->V}(h:∀x,φ x->(k x).holds):(V.any α φ k).holds:=h
theorem V.okI:V.ok.holds:=trivial
abbrev qE{α:Type}(a:α):Nat×P0:=(1,.pf (a=a) rfl)
abbrev qL(n:Nat):Nat×P0:=(1,.pf (n<=n) (Nat.le_refl _))
abbrev qX{α:Type}(a:α):Nat×P0:=(1,.pf (∃x,x=a) ⟨_,rfl⟩)
abbrev qF{α:Type}(n:Nat)(f:Nat->α):Nat×P0:=(1,.pf (∀e,e<n->f e=f e) (fun _ _=>rfl))
abbrev LP:=List (Nat×P0)
abbrev nA{X:Type}(P:X->Prop)(k:X->V):V:=V.need (∃x,P x) (V.any X P k)
end Go.Proofs.YtabiechfpefjhaaGreat.Sx
