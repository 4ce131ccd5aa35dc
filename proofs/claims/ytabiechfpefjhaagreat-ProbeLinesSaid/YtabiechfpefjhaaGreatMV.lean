/- A part of the proof. -/
import Derived.Test.YtabiechfpefjhaaGreatMExec
import Derived.Scope
set_option linter.unusedVariables false
set_option linter.unusedSimpArgs false
open Nat renaming le_refl -> Z, eq_of_beq_eq_true -> zq, zero_add -> z8, le_of_ble_eq_true -> zb, beq -> zu, le_trans -> zo
open Bool renaming and_eq_true -> zx, not_eq_true' -> z7
namespace Go.Proofs.YtabiechfpefjhaaGreat.Sx
open Go Go.RowKit
abbrev PL:=List Prop
def allP:PL->Prop
 | []=>True
 | p::l=>p/\allP l
def yn(b:Bool)(k:PL):Option PL:=match b with
 | true=>some k
 | false=>none
theorem yn_h{b:Bool}{k l:PL}(h:yn b k=some l):b=true/\l=k:=by
 cases b with
 | true=>exact⟨rfl,by simpa [yn]using h.symm⟩
 | false=>simp[yn]at h
def intB:Int->Int->Bool
 | .ofNat a,.ofNat b=>zu a b
 | .negSucc a,.negSucc b=>zu a b
 | _,_=>false
theorem intB_h{a b:Int}(h:intB a b=true):a=b:=by
 unfold intB at h
 split at h
 ·rw[zq h]
 ·rw[zq h]
 ·cases h
def natsB:List Nat->List Nat->Bool
 | [],[]=>true
 | a::l,b::m=>zu a b&&natsB l m
 | _,_=>false
theorem natsB_h:∀ {a b:List Nat},natsB a b=true->a=b
 | [],[],_=>rfl
 | a::l,b::m,h=>by
  simp only[natsB,zx]at h
  rw[zq h.1,natsB_h h.2]
 | [],_::_,h=>by simp[natsB]at h
 | _::_,[],h=>by simp[natsB]at h
def nvP(a b:NV)(k:PL):Option PL:=match a,b with
 | .k x,.k y=>yn (zu x y) k
 | a,b=>some ((a.v=b.v)::k)
theorem nvP_h{a b:NV}{k l:PL}(h:nvP a b k=some l)(hl:allP l):a.v=b.v/\allP k:=by
 unfold nvP at h
 split at h
 ·obtain⟨h1,rfl⟩:=yn_h h
  exact⟨zq h1,hl⟩
 ·cases h;exact hl
def scP:SC->SC->PL->Option PL
 | .kb true,.kb true,k=>some k
 | .kb false,.kb false,k=>some k
 | .kb b,.kb b',k=>some ((b=b')::k)
 | .kb b,.bv b',k=>some ((b=b')::k)
 | .bv b,.kb b',k=>some ((b=b')::k)
 | .bv b,.bv b',k=>some ((b=b')::k)
 | .ki t n,.ki t' n',k=>yn (zak t t'&&intB n n') k
 | .ki t n,.iv t' n',k=>yn (zak t t') ((n=n')::k)
 | .iv t n,.ki t' n',k=>yn (zak t t') ((n=n')::k)
 | .iv t n,.iv t' n',k=>yn (zak t t') ((n=n')::k)
 | .nilp,.nilp,k=>some k
 | .ptr key i e f sz,.ptr key' i' e' f' sz',k=>match yn (zu key key'&&(zu f f'&&zu sz sz')) k with
  | some k=>match nvP e e' k with
   | some k=>nvP i i' k
   | none=>none
  | none=>none
 | .nils,.nils,k=>some k
 | .slc key i e sz n c,.slc key' i' e' sz' n' c',k=>match yn (zu key key'&&zu sz sz') k with
  | some k=>match nvP c c' k with
   | some k=>match nvP n n' k with
    | some k=>match nvP e e' k with
     | some k=>nvP i i' k
     | none=>none
    | none=>none
   | none=>none
  | none=>none
 | .nilI,.nilI,k=>some k
 | .ifc t key i e f sz,.ifc t' key' i' e' f' sz',k=>match yn (zu t t'&&(zu key key'&&(zu f f'&&zu sz sz'))) k with
  | some k=>match nvP e e' k with
   | some k=>nvP i i' k
   | none=>none
  | none=>none
 | .fn f c,.fn f' c',k=>yn (zu f f'&&natsB c c') k
 | .nilF,.nilF,k=>some k
 | .val v,.val v',k=>some ((v=v')::k)
 | _,_,_=>none
theorem zgg{x y:SC}{k l:PL}(h:scP x y k=some l)(hl:allP l):leSC x y/\allP k:=by
 unfold scP at h
 split at h
 case h_1=>cases h;exact⟨rfl,hl⟩
 case h_2=>cases h;exact⟨rfl,hl⟩
 case h_3=>cases h;exact hl
 case h_4=>cases h;exact hl
 case h_5=>cases h;exact hl
 case h_6=>cases h;exact hl
 case h_7=>obtain⟨h1,rfl⟩:=yn_h h;simp only[zx]at h1;exact⟨⟨zap h1.1,intB_h h1.2⟩,hl⟩
 case h_8=>obtain⟨h1,rfl⟩:=yn_h h;exact⟨⟨zap h1,hl.1⟩,hl.2⟩
 case h_9=>obtain⟨h1,rfl⟩:=yn_h h;exact⟨⟨zap h1,hl.1⟩,hl.2⟩
 case h_10=>obtain⟨h1,rfl⟩:=yn_h h;exact⟨⟨zap h1,hl.1⟩,hl.2⟩
 case h_11=>cases h;exact⟨trivial,hl⟩
 case h_12=>
  split at h
  ·rename_i k1 hk1
   obtain⟨h1,rfl⟩:=yn_h hk1
   simp only[zx]at h1
   split at h
   ·rename_i k2 hk2
    obtain⟨g1,g2⟩:=nvP_h h hl
    obtain⟨g3,g4⟩:=nvP_h hk2 g2
    exact⟨⟨zq h1.1,g1,g3,zq h1.2.1,zq h1.2.2⟩,g4⟩
   ·cases h
  ·cases h
 case h_13=>cases h;exact⟨trivial,hl⟩
 case h_14=>
  split at h
  ·rename_i k1 hk1
   obtain⟨h1,rfl⟩:=yn_h hk1
   simp only[zx]at h1
   split at h
   ·rename_i k2 hk2
    split at h
    ·rename_i k3 hk3
     split at h
     ·rename_i k4 hk4
      obtain⟨g1,g2⟩:=nvP_h h hl
      obtain⟨g3,g4⟩:=nvP_h hk4 g2
      obtain⟨g5,g6⟩:=nvP_h hk3 g4
      obtain⟨g7,g8⟩:=nvP_h hk2 g6
      exact⟨⟨zq h1.1,g1,g3,zq h1.2,g5,g7⟩,g8⟩
     ·cases h
    ·cases h
   ·cases h
  ·cases h
 case h_15=>cases h;exact⟨trivial,hl⟩
 case h_16=>
  split at h
  ·rename_i k1 hk1
   obtain⟨h1,rfl⟩:=yn_h hk1
   simp only[zx]at h1
   split at h
   ·rename_i k2 hk2
    obtain⟨g1,g2⟩:=nvP_h h hl
    obtain⟨g3,g4⟩:=nvP_h hk2 g2
    exact⟨⟨zq h1.1,zq h1.2.1,g1,g3,zq h1.2.2.1,zq h1.2.2.2⟩,g4⟩
   ·cases h
  ·cases h
 case h_17=>obtain⟨h1,rfl⟩:=yn_h h;simp only[zx]at h1;exact⟨⟨zq h1.1,natsB_h h1.2⟩,hl⟩
 case h_18=>cases h;exact⟨trivial,hl⟩
 case h_19=>cases h;exact hl
 case h_20=>cases h
def slP:List SC->List SC->PL->Option PL
 | [],[],k=>some k
 | x::l,y::m,k=>match slP l m k with
  | some k=>scP x y k
  | none=>none
 | _,_,_=>none
theorem slP_h:∀ {x y:List SC} {k l:PL},slP x y k=some l->allP l->leL x y/\allP k
 | [],[],k,l,h,hl=>by simp[slP]at h;subst h;exact⟨trivial,hl⟩
 | x::a,y::b,k,l,h,hl=>by
  simp only[slP]at h
  split at h
  ·rename_i k1 hk1
   obtain⟨g1,g2⟩:=zgg h hl
   obtain⟨g3,g4⟩:=slP_h hk1 g2
   exact⟨⟨g1,g3⟩,g4⟩
  ·cases h
 | [],_::_,k,l,h,_=>by simp[slP]at h
 | _::_,[],k,l,h,_=>by simp[slP]at h
def slPp:List SC->List SC->PL->Option PL
 | [],[],k=>some k
 | _::_,[],k=>some k
 | x::l,y::m,k=>match slPp l m k with
  | some k=>scP x y k
  | none=>none
 | [],_::_,_=>none
theorem slPp_h:∀ {x y:List SC} {k l:PL},slPp x y k=some l->allP l->leLp x y/\allP k
 | [],[],k,l,h,hl=>by simp[slPp]at h;subst h;exact⟨trivial,hl⟩
 | _::_,[],k,l,h,hl=>by simp[slPp]at h;subst h;exact⟨trivial,hl⟩
 | x::a,y::b,k,l,h,hl=>by
  simp only[slPp]at h
  split at h
  ·rename_i k1 hk1
   obtain⟨g1,g2⟩:=zgg h hl
   obtain⟨g3,g4⟩:=slPp_h hk1 g2
   exact⟨⟨g1,g3⟩,g4⟩
  ·cases h
 | [],_::_,k,l,h,_=>by simp[slPp]at h
def teP:TE->TE->PL->Option PL
 | .c x,.c y,k=>scP x y k
 | .a x,.a y,k=>slP x y k
 | _,_,_=>none
theorem teP_h{x y:TE}{k l:PL}(h:teP x y k=some l)(hl:allP l):leTE x y/\allP k:=by
 cases x<;>cases y<;>simp only[teP]at h
 ·exact zgg h hl
 ·cases h
 ·cases h
 ·exact slP_h h hl
def tsP:List TE->List TE->PL->Option PL
 | [],[],k=>some k
 | x::l,y::m,k=>match tsP l m k with
  | some k=>teP x y k
  | none=>none
 | _,_,_=>none
theorem tsP_h:∀ {x y:List TE} {k l:PL},tsP x y k=some l->allP l->leTs x y/\allP k
 | [],[],k,l,h,hl=>by simp[tsP]at h;subst h;exact⟨trivial,hl⟩
 | x::a,y::b,k,l,h,hl=>by
  simp only[tsP]at h
  split at h
  ·rename_i k1 hk1
   obtain⟨g1,g2⟩:=teP_h h hl
   obtain⟨g3,g4⟩:=tsP_h hk1 g2
   exact⟨⟨g1,g3⟩,g4⟩
  ·cases h
 | [],_::_,k,l,h,_=>by simp[tsP]at h
 | _::_,[],k,l,h,_=>by simp[tsP]at h
def svP:SV->SV->PL->Option PL
 | .c x,.c y,k=>scP x y k
 | .a x,.a y,k=>slP x y k
 | .t x,.t y,k=>tsP x y k
 | _,_,_=>none
theorem svP_h{x y:SV}{k l:PL}(h:svP x y k=some l)(hl:allP l):leSV x y/\allP k:=by
 cases x<;>cases y<;>simp only[svP]at h
 ·exact zgg h hl
 ·cases h
 ·cases h
 ·cases h
 ·exact slP_h h hl
 ·cases h
 ·cases h
 ·cases h
 ·exact tsP_h h hl
def vsP:List SV->List SV->PL->Option PL
 | [],[],k=>some k
 | x::l,y::m,k=>match vsP l m k with
  | some k=>svP x y k
  | none=>none
 | _,_,_=>none
theorem vsP_h:∀ {x y:List SV} {k l:PL},vsP x y k=some l->allP l->leVs x y/\allP k
 | [],[],k,l,h,hl=>by simp[vsP]at h;subst h;exact⟨trivial,hl⟩
 | x::a,y::b,k,l,h,hl=>by
  simp only[vsP]at h
  split at h
  ·rename_i k1 hk1
   obtain⟨g1,g2⟩:=svP_h h hl
   obtain⟨g3,g4⟩:=vsP_h hk1 g2
   exact⟨⟨g1,g3⟩,g4⟩
  ·cases h
 | [],_::_,k,l,h,_=>by simp[vsP]at h
 | _::_,[],k,l,h,_=>by simp[vsP]at h
def olP:List (Option SC)->List (Option SC)->PL->Option PL
 | _,[],k=>some k
 | _::l,none::m,k=>olP l m k
 | some x::l,some y::m,k=>match olP l m k with
  | some k=>scP x y k
  | none=>none
 | _,_,_=>none
theorem olP_h:∀ {x y:List (Option SC)} {k l:PL},olP x y k=some l->allP l->leOL x y/\allP k
 | x,[],k,l,h,hl=>by cases x<;>(simp[olP]at h;subst h;exact⟨trivial,hl⟩)
 | x::a,none::b,k,l,h,hl=>by
  simp only[olP]at h
  exact olP_h (x:=a) (y:=b) h hl
 | some x::a,some y::b,k,l,h,hl=>by
  simp only[olP]at h
  split at h
  ·rename_i k1 hk1
   obtain⟨g1,g2⟩:=zgg h hl
   obtain⟨g3,g4⟩:=olP_h hk1 g2
   exact⟨⟨g1,g3⟩,g4⟩
  ·cases h
 | none::_,some _::_,k,l,h,_=>by simp[olP]at h
 | [],none::_,k,l,h,_=>by simp[olP]at h
 | [],some _::_,k,l,h,_=>by simp[olP]at h
inductive Dom where
 | row (n:Nat)
 | all (I:Nat->Nat->Prop)
def Dom.I:Dom->Nat->Nat->Prop
 | .row n=>fun i e=>i=0/\e<n
 | .all I=>I
def Dom.fa:Dom->(Nat->Nat->Prop)->Prop
 | .row n,p=>∀e,e<n->p 0 e
 | .all I,p=>∀i e,I i e->p i e
theorem Dom.fa_h{d:Dom}{p:Nat->Nat->Prop}(h:d.fa p):∀i e,d.I i e->p i e:=by
 cases d with
 | row n=>rintro i e ⟨rfl,he⟩;exact h e he
 | all I=>exact h
def ckP(d:Dom)(t:IntKind)(g:Nat->Nat->Int):Nat->List SC->PL->Option PL
 | _,[],k=>some k
 | j,c::l,k=>match asI (.c c) with
  | some r=>match yn (zak r.2.1 t) k with
   | some k=>match ckP d t g (j+1) l k with
    | some k=>some (d.fa (fun i e=>e=j->r.2.2=g i e)::k)
    | none=>none
   | none=>none
  | none=>none
theorem ckP_h{d:Dom}{t:IntKind}{g:Nat->Nat->Int}:∀ {l:List SC} {j:Nat} {k m:PL},ckP d t g j l k=some m->allP m->leCk d.I t g j l/\allP k
 | [],j,k,m,h,hm=>by simp[ckP]at h;subst h;exact⟨trivial,hm⟩
 | c::l,j,k,m,h,hm=>by
  simp only[ckP]at h
  split at h
  ·rename_i r hr
   split at h
   ·rename_i k1 hk1
    obtain⟨h1,rfl⟩:=yn_h hk1
    split at h
    ·rename_i k2 hk2
     cases h
     obtain⟨g1,g2⟩:=ckP_h hk2 hm.2
     refine⟨⟨fun i hi=>?_,g1⟩,g2⟩
     have e:=Dom.fa_h hm.1 i j hi rfl
     have hk:=zap h1
     cases c<;>simp[asI]at hr
     all_goals (subst hr;exact⟨hk,e⟩)
    ·cases h
   ·cases h
  ·cases h
def ccP(c:SC):Col->PL->Option PL
 | .cc d,k=>scP c d k
 | .ov _ _ d col,k=>match ccP c col k with
  | some k=>scP c d k
  | none=>none
 | _,_=>none
theorem ccP_h{c:SC}:∀ {col:Col} {k l:PL},ccP c col k=some l->allP l->ccAll c col/\allP k:=by
 intro col
 induction col with
 | cc d=>intro k l h hl;exact zgg h hl
 | ov i0 e0 d col ih=>
  intro k l h hl
  simp only[ccP]at h
  split at h
  ·rename_i k1 hk1
   obtain⟨g1,g2⟩:=zgg h hl
   obtain⟨g3,g4⟩:=ih hk1 g2
   exact⟨⟨g1,g3⟩,g4⟩
  ·cases h
 | _=>intro k l h;simp[ccP]at h
def za4(d:Dom):Col->Col->PL->Option PL
 | _,.cu,k=>some k
 | .ci t g,.ci t' g',k=>yn (zak t t') (d.fa (fun i e=>g i e=g' i e)::k)
 | .cb g,.cb g',k=>some (d.fa (fun i e=>g i e=g' i e)::k)
 | .cs key sz ix n c,.cs key' sz' ix' n' c',k=>yn (zu key key'&&zu sz sz') (d.fa (fun i e=>ix i e=ix' i e)::d.fa (fun i e=>n i e=n' i e)::d.fa (fun i e=>c i e=c' i e)::k)
 | .cp key ix f sz,.cp key' ix' f' sz',k=>yn (zu key key'&&(zu f f'&&zu sz sz')) (d.fa (fun i e=>ix i e=ix' i e)::k)
 | .cf t key ix f sz,.cf t' key' ix' f' sz',k=>yn (zu t t'&&(zu key key'&&(zu f f'&&zu sz sz'))) (d.fa (fun i e=>ix i e=ix' i e)::k)
 | .ck l,.ck m,k=>slPp l m k
 | .ck l,.ci t g,k=>match ckP d t g 0 l k with
  | some k=>some (d.fa (fun i e=>e<l.length)::k)
  | none=>none
 | .cc x,.cc y,k=>scP x y k
 | .cc x,.ov _ _ y col,k=>match ccP x col k with
  | some k=>scP x y k
  | none=>none
 | .cc (.ki t n),.ci t' g,k=>yn (zak t t') (d.fa (fun i e=>n=g i e)::k)
 | .cc (.iv t n),.ci t' g,k=>yn (zak t t') (d.fa (fun i e=>n=g i e)::k)
 | .cc (.kb b),.cb g,k=>some (d.fa (fun i e=>b=g i e)::k)
 | .ov i e c col,.ov i' e' c' col',k=>match za4 d col col' k with
  | some k=>match scP c c' k with
   | some k=>match nvP i i' k with
    | some k=>nvP e e' k
    | none=>none
   | none=>none
  | none=>none
 | .ov _ _ c col,.cc c',k=>match za4 d col (.cc c') k with
  | some k=>scP c c' k
  | none=>none
 | _,_,_=>none
theorem zds{d:Dom}:∀ {x y:Col} {k l:PL},za4 d x y k=some l->allP l->zcm d.I x y/\allP k:=by
 intro x
 induction x with
 | ov i e c col ih=>
  intro y k l h hl
  cases y with
  | ov i' e' c' col'=>
   simp only[za4]at h
   split at h
   ·rename_i k1 hk1
    split at h
    ·rename_i k2 hk2
     split at h
     ·rename_i k3 hk3
      obtain⟨g1,g2⟩:=nvP_h h hl
      obtain⟨g3,g4⟩:=nvP_h hk3 g2
      obtain⟨g5,g6⟩:=zgg hk2 g4
      obtain⟨g7,g8⟩:=ih hk1 g6
      exact⟨⟨g3,g1,g5,g7⟩,g8⟩
     ·cases h
    ·cases h
   ·cases h
  | cc c'=>
   simp only[za4]at h
   split at h
   ·rename_i k1 hk1
    obtain⟨g1,g2⟩:=zgg h hl
    obtain⟨g3,g4⟩:=ih hk1 g2
    exact⟨⟨g1,g3⟩,g4⟩
   ·cases h
  | cu=>simp only[za4]at h;cases h;exact⟨trivial,hl⟩
  | _=>simp[za4]at h
 | ci t g=>
  intro y k l h hl
  cases y with
  | ci t' g'=>simp only[za4]at h;obtain⟨h1,rfl⟩:=yn_h h;exact⟨⟨zap h1,Dom.fa_h hl.1⟩,hl.2⟩
  | cu=>simp only[za4]at h;cases h;exact⟨trivial,hl⟩
  | _=>simp[za4]at h
 | cb g=>
  intro y k l h hl
  cases y with
  | cb g'=>simp only[za4]at h;cases h;exact⟨Dom.fa_h hl.1,hl.2⟩
  | cu=>simp only[za4]at h;cases h;exact⟨trivial,hl⟩
  | _=>simp[za4]at h
 | cs key sz ix n c=>
  intro y k l h hl
  cases y with
  | cs key' sz' ix' n' c'=>
   simp only[za4]at h;obtain⟨h1,rfl⟩:=yn_h h;simp only[zx]at h1
   exact⟨⟨zq h1.1,zq h1.2,Dom.fa_h hl.1,Dom.fa_h hl.2.1,Dom.fa_h hl.2.2.1⟩,hl.2.2.2⟩
  | cu=>simp only[za4]at h;cases h;exact⟨trivial,hl⟩
  | _=>simp[za4]at h
 | cp key ix f sz=>
  intro y k l h hl
  cases y with
  | cp key' ix' f' sz'=>
   simp only[za4]at h;obtain⟨h1,rfl⟩:=yn_h h;simp only[zx]at h1
   exact⟨⟨zq h1.1,zq h1.2.1,zq h1.2.2,Dom.fa_h hl.1⟩,hl.2⟩
  | cu=>simp only[za4]at h;cases h;exact⟨trivial,hl⟩
  | _=>simp[za4]at h
 | cf t key ix f sz=>
  intro y k l h hl
  cases y with
  | cf t' key' ix' f' sz'=>
   simp only[za4]at h;obtain⟨h1,rfl⟩:=yn_h h;simp only[zx]at h1
   exact⟨⟨zq h1.1,zq h1.2.1,zq h1.2.2.1,zq h1.2.2.2,Dom.fa_h hl.1⟩,hl.2⟩
  | cu=>simp only[za4]at h;cases h;exact⟨trivial,hl⟩
  | _=>simp[za4]at h
 | ck m=>
  intro y k l h hl
  cases y with
  | ck m'=>simp only[za4]at h;exact slPp_h h hl
  | ci t g=>
   simp only[za4]at h
   split at h
   ·rename_i k1 hk1
    cases h
    obtain⟨g1,g2⟩:=ckP_h hk1 hl.2
    exact⟨⟨Dom.fa_h hl.1,g1⟩,g2⟩
   ·cases h
  | cu=>simp only[za4]at h;cases h;exact⟨trivial,hl⟩
  | _=>simp[za4]at h
 | cu=>
  intro y k l h hl
  cases y with
  | cu=>simp only[za4]at h;cases h;exact⟨trivial,hl⟩
  | _=>simp[za4]at h
 | cc c=>
  intro y k l h hl
  cases y with
  | cc c'=>simp only[za4]at h;exact zgg h hl
  | cu=>simp only[za4]at h;cases h;exact⟨trivial,hl⟩
  | ov i' e' y col=>
   simp only[za4]at h
   split at h
   ·rename_i k1 hk1
    obtain⟨g1,g2⟩:=zgg h hl
    obtain⟨g3,g4⟩:=ccP_h hk1 g2
    exact⟨⟨g1,g3⟩,g4⟩
   ·cases h
  | ci t' g=>
   cases c with
   | ki t n=>
    simp only[za4]at h
    obtain⟨h1,rfl⟩:=yn_h h
    exact⟨fun i e he=>⟨zap h1,Dom.fa_h hl.1 i e he⟩,hl.2⟩
   | iv t n=>
    simp only[za4]at h
    obtain⟨h1,rfl⟩:=yn_h h
    exact⟨fun i e he=>⟨zap h1,Dom.fa_h hl.1 i e he⟩,hl.2⟩
   | _=>simp[za4]at h
  | cb g=>
   cases c with
   | kb b=>simp only[za4]at h;cases h;exact⟨Dom.fa_h hl.1,hl.2⟩
   | _=>simp[za4]at h
  | _=>simp[za4]at h
 | lt n a b _ _=>
  intro y k l h hl
  cases y with
  | cu=>simp only[za4]at h;cases h;exact⟨trivial,hl⟩
  | _=>simp[za4]at h
 | sel p a b _ _=>
  intro y k l h hl
  cases y with
  | cu=>simp only[za4]at h;cases h;exact⟨trivial,hl⟩
  | _=>simp[za4]at h
def nilB:Col->Bool
 | .cc .nilI=>true
 | _=>false
def selP(p:Nat->Nat->Bool)(a b:Col):Dom->Col->PL->Option PL
 | d,.ov i e .nilI col,k=>match yn (nilB b) k with
  | some k=>match selP p a b (.all fun i' e'=>d.I i' e'/\¬(i'=i.v/\e'=e.v)) col k with
   | some k=>some ((d.I i.v e.v->p i.v e.v=false)::k)
   | none=>none
  | none=>none
 | d,.ov i e _ col,k=>match selP p a b d col k with
  | some k=>some (d.fa (fun i' e'=>¬(i'=i.v/\e'=e.v))::k)
  | none=>none
 | d,.sel p0 a0 b0,k=>match za4 (.all fun i e=>d.I i e/\p i e=true) a0 a k with
  | some k=>match za4 (.all fun i e=>d.I i e/\¬p i e=true) b0 b k with
   | some k=>some (d.fa (fun i e=>p0 i e=p i e)::k)
   | none=>none
  | none=>none
 | d,c,k=>match za4 d c b k with
  | some k=>some (d.fa (fun i e=>p i e=false)::k)
  | none=>none
theorem selP_h{p:Nat->Nat->Bool}{a b:Col}:∀ {x:Col} {d:Dom} {k l:PL},selP p a b d x k=some l->allP l->leSel p a b d.I x/\allP k:=by
 intro x
 have base:∀ {x:Col} {d:Dom} {k l:PL},(match za4 d x b k with
  | some k=>some (d.fa (fun i e=>p i e=false)::k)
  | none=>none)=some l->allP l->((∀i e,d.I i e->p i e=false)/\zcm d.I x b)/\allP k:=by
  intro x d k l h hl
  split at h
  ·rename_i k1 hk1
   cases h
   obtain⟨g1,g2⟩:=zds hk1 hl.2
   exact⟨⟨Dom.fa_h hl.1,g1⟩,g2⟩
  ·cases h
 induction x with
 | ov i e c col ih=>
  intro d k l h hl
  have skip:(match selP p a b d col k with
   | some k=>some (d.fa (fun i' e'=>¬(i'=i.v/\e'=e.v))::k)
   | none=>none)=some l->((∀i' e',d.I i' e'->¬(i'=i.v/\e'=e.v))/\leSel p a b d.I col)/\allP k:=by
   intro h
   split at h
   ·rename_i k1 hk1
    cases h
    obtain⟨g1,g2⟩:=ih hk1 hl.2
    exact⟨⟨Dom.fa_h hl.1,g1⟩,g2⟩
   ·cases h
  cases c with
  | nilI=>
   simp only[selP]at h
   split at h
   ·rename_i k0 hk0
    obtain⟨hb,rfl⟩:=yn_h hk0
    split at h
    ·rename_i k1 hk1
     cases h
     obtain⟨g1,g2⟩:=ih hk1 hl.2
     refine⟨⟨hl.1,?_,g1⟩,g2⟩
     unfold nilB at hb
     split at hb
     ·trivial
     ·cases hb
    ·cases h
   ·cases h
  | _=>exact skip h
 | sel p0 a0 b0 _ _=>
  intro d k l h hl
  simp only[selP]at h
  split at h
  ·rename_i k1 hk1
   split at h
   ·rename_i k2 hk2
    cases h
    obtain⟨g1,g2⟩:=zds hk2 hl.2
    obtain⟨g3,g4⟩:=zds hk1 g2
    exact⟨⟨Dom.fa_h hl.1,g3,g1⟩,g4⟩
   ·cases h
  ·cases h
 | _=>intro d k l h hl;exact base h hl
def colP(d:Dom):Col->Col->PL->Option PL
 | _,.cu,k=>some k
 | x,.sel p a b,k=>selP p a b d x k
 | .lt n a b,.lt n' a' b',k=>match za4 (.all fun i e=>d.I i e/\e<n) a a' k with
  | some k=>match za4 (.all fun i e=>d.I i e/\¬e<n) b b' k with
   | some k=>some ((n=n')::k)
   | none=>none
  | none=>none
 | .lt n a _,y,k=>match za4 d a y k with
  | some k=>some (d.fa (fun _ e=>e<n)::k)
  | none=>none
 | x,.lt n' _ b',k=>match za4 d x b' k with
  | some k=>some (d.fa (fun _ e=>¬e<n')::k)
  | none=>none
 | x,y,k=>za4 d x y k
theorem colP_h{d:Dom}:∀ {x y:Col} {k l:PL},colP d x y k=some l->allP l->leCol d.I x y/\allP k:=by
 intro x y k l h hl
 have lft:∀ {n:Nat} {a y:Col},(match za4 d a y k with
  | some k=>some (d.fa (fun _ e=>e<n)::k)
  | none=>none)=some l->((∀i e,d.I i e->e<n)/\zcm d.I a y)/\allP k:=by
  intro n a y h
  split at h
  ·rename_i k1 hk1
   cases h
   obtain⟨g1,g2⟩:=zds hk1 hl.2
   exact⟨⟨Dom.fa_h hl.1,g1⟩,g2⟩
  ·cases h
 have rgt:∀ {n':Nat} {x b':Col},(match za4 d x b' k with
  | some k=>some (d.fa (fun _ e=>¬e<n')::k)
  | none=>none)=some l->((∀i e,d.I i e->¬e<n')/\zcm d.I x b')/\allP k:=by
  intro n' x b' h
  split at h
  ·rename_i k1 hk1
   cases h
   obtain⟨g1,g2⟩:=zds hk1 hl.2
   exact⟨⟨Dom.fa_h hl.1,g1⟩,g2⟩
  ·cases h
 cases y with
 | cu=>simp only[colP]at h;cases h;exact⟨by cases x<;>trivial,hl⟩
 | sel p a b=>
  have h:selP p a b d x k=some l:=by cases x<;>exact h
  have g:=selP_h h hl
  exact⟨by cases x<;>exact g.1,g.2⟩
 | lt n' a' b'=>
  cases x with
  | lt n a b=>
   simp only[colP]at h
   split at h
   ·rename_i k1 hk1
    split at h
    ·rename_i k2 hk2
     cases h
     obtain⟨g1,g2⟩:=zds hk2 hl.2
     obtain⟨g3,g4⟩:=zds hk1 g2
     exact⟨⟨hl.1,g3,g1⟩,g4⟩
    ·cases h
   ·cases h
  | _=>exact rgt h
 | _=>
  cases x with
  | lt n a b=>exact lft h
  | _=>exact zds h hl
def colsP(d:Dom):List Col->List Col->PL->Option PL
 | [],[],k=>some k
 | x::l,y::m,k=>match colsP d l m k with
  | some k=>colP d x y k
  | none=>none
 | _,_,_=>none
theorem zft{d:Dom}:∀ {x y:List Col} {k l:PL},colsP d x y k=some l->allP l->zgc d.I x y/\allP k
 | [],[],k,l,h,hl=>by simp[colsP]at h;subst h;exact⟨trivial,hl⟩
 | x::a,y::b,k,l,h,hl=>by
  simp only[colsP]at h
  split at h
  ·rename_i k1 hk1
   obtain⟨g1,g2⟩:=colP_h h hl
   obtain⟨g3,g4⟩:=zft hk1 g2
   exact⟨⟨g1,g3⟩,g4⟩
  ·cases h
 | [],_::_,k,l,h,_=>by simp[colsP]at h
 | _::_,[],k,l,h,_=>by simp[colsP]at h
def ovP:List (Option SC)->List Col->PL->Option PL
 | _,[],k=>some k
 | _::l,.cu::m,k=>ovP l m k
 | some x::l,.ck [y]::m,k=>match ovP l m k with
  | some k=>scP x y k
  | none=>none
 | _,_,_=>none
theorem ovP_h:∀ {x:List (Option SC)} {y:List Col} {k l:PL},ovP x y k=some l->allP l->leOV x y/\allP k:=by
 intro x
 induction x with
 | nil=>
  intro y k l h hl
  cases y with
  | nil=>unfold ovP at h;cases h;exact⟨by unfold leOV;trivial,hl⟩
  | cons c m=>cases c<;>simp[ovP]at h
 | cons o x ih=>
  intro y k l h hl
  cases y with
  | nil=>unfold ovP at h;cases h;exact⟨by unfold leOV;trivial,hl⟩
  | cons c m=>
   cases c with
   | cu=>
    have h':ovP x m k=some l:=by cases o<;>exact h
    obtain⟨g1,g2⟩:=ih h' hl
    exact⟨by cases o<;>exact g1,g2⟩
   | ck q=>
    cases o with
    | none=>rcases q with _|⟨y,_|⟨z,q⟩⟩<;>simp[ovP]at h
    | some z=>
     rcases q with _|⟨y,_|⟨z',q⟩⟩
     ·simp[ovP]at h
     ·have h':(match ovP x m k with|some k=>scP z y k|none=>none)=some l:=h
      split at h'
      ·rename_i k1 hk1
       obtain⟨g1,g2⟩:=zgg h' hl
       obtain⟨g3,g4⟩:=ih hk1 g2
       exact⟨⟨g1,g3⟩,g4⟩
      ·cases h'
     ·simp[ovP]at h
   | _=>cases o<;>simp[ovP]at h
def bkP:Blk->Blk->PL->Option PL
 | .own t size cs,.own t' size' cs',k=>match yn (zu t t'&&zu size size') k with
  | some k=>olP cs cs' k
  | none=>none
 | .own _ _ cs,.view m' n' cols',k=>match yn (Nat.ble m' 1&&Nat.ble (n' 0) 1) k with
  | some k=>ovP cs cols' k
  | none=>none
 | .row t cap n cols,.row t' cap' n' cols',k=>match yn (zu t t') k with
  | some k=>match colsP (.row n') cols cols' k with
   | some k=>some ((cap=cap')::(n'<=n)::k)
   | none=>none
  | none=>none
 | .view m n cols,.view m' n' cols',k=>match colsP (.all fun i e=>i<m'/\e<n' i) cols cols' k with
  | some k=>some ((m'<=m)::(∀i,i<m'->n' i<=n i)::k)
  | none=>none
 | .fam true t cap n cols,.fam true t' cap' n' cols',k=>match yn (zu t t') k with
  | some k=>match colsP (.all fun i e=>e<n' i) cols cols' k with
   | some k=>some ((∀i,cap i=cap' i\/cap' i=0)::(∀i,n' i<=cap' i/\n' i<=n i)::k)
   | none=>none
  | none=>none
 | .row t cap n cols,.view m' n' cols',k=>match colsP (.all fun i e=>i=0/\e<n' 0) cols cols' k with
  | some k=>some ((m'<=1)::(n' 0<=n/\n' 0<=cap)::k)
  | none=>none
 | .fam rw t cap n cols,.view m' n' cols',k=>match colsP (.all fun i e=>i<m'/\e<n' i) cols cols' k with
  | some k=>some ((∀i,i<m'->n' i<=n i/\n' i<=cap i)::k)
  | none=>none
 | _,_,_=>none
theorem bkP_h{x y:Blk}{k l:PL}(h:bkP x y k=some l)(hl:allP l):zdp x y/\allP k:=by
 unfold bkP at h
 split at h
 ·split at h
  ·rename_i k1 hk1
   obtain⟨h1,rfl⟩:=yn_h hk1
   simp only[zx]at h1
   obtain⟨g1,g2⟩:=olP_h h hl
   exact⟨⟨zq h1.1,zq h1.2,g1⟩,g2⟩
  ·cases h
 ·split at h
  ·rename_i k1 hk1
   obtain⟨h1,rfl⟩:=yn_h hk1
   simp only[zx]at h1
   obtain⟨g1,g2⟩:=ovP_h h hl
   exact⟨⟨zb h1.1,zb h1.2,g1⟩,g2⟩
  ·cases h
 ·split at h
  ·rename_i k1 hk1
   obtain⟨h1,rfl⟩:=yn_h hk1
   split at h
   ·rename_i k2 hk2
    cases h
    obtain⟨g1,g2⟩:=zft hk2 hl.2.2
    exact⟨⟨zq h1,hl.1,hl.2.1,g1⟩,g2⟩
   ·cases h
  ·cases h
 ·split at h
  ·rename_i k2 hk2
   cases h
   obtain⟨g1,g2⟩:=zft hk2 hl.2.2
   exact⟨⟨hl.1,hl.2.1,g1⟩,g2⟩
  ·cases h
 ·split at h
  ·rename_i k1 hk1
   obtain⟨h1,rfl⟩:=yn_h hk1
   split at h
   ·rename_i k2 hk2
    cases h
    obtain⟨g1,g2⟩:=zft hk2 hl.2.2
    exact⟨⟨fun h=>h,zq h1,hl.1,hl.2.1,g1⟩,g2⟩
   ·cases h
  ·cases h
 ·split at h
  ·rename_i k2 hk2
   cases h
   obtain⟨g1,g2⟩:=zft hk2 hl.2.2
   exact⟨⟨hl.1,hl.2.1,g1⟩,g2⟩
  ·cases h
 ·split at h
  ·rename_i k2 hk2
   cases h
   obtain⟨g1,g2⟩:=zft hk2 hl.2
   exact⟨⟨hl.1,g1⟩,g2⟩
  ·cases h
 ·cases h
def bksP(τ:Nat->Nat)(h:HL):List Nat->List Blk->PL->Option PL
 | k::L,b::bs,p=>match bksP τ h L bs p with
  | some p=>match find (τ k) h with
   | some c=>bkP c (b.ren τ) p
   | none=>none
  | none=>none
 | [],[],p=>some p
 | _,_,_=>none
def tmsP(τ:Nat->Nat)(t:List (Option SV)):List Nat->List SV->PL->Option PL
 | i::is,v::vs,p=>match tmsP τ t is vs p with
  | some p=>match t[i]? with
   | some (some x)=>svP x (v.ren τ) p
   | _=>none
  | none=>none
 | [],[],p=>some p
 | _,_,_=>none
theorem bksP_h{τ:Nat->Nat}{h:HL}:∀ {L:List Nat} {bs:List Blk} {p l:PL},bksP τ h L bs p=some l->allP l->(L.length=bs.length/\∀(j:Nat) k b,L[j]?=some k->bs[j]?=some b->∃c,find (τ k) h=some c/\zdp c (b.ren τ))/\allP p
 | [],[],p,l,hh,hl=>by simp[bksP]at hh;subst hh;exact⟨⟨rfl,fun j k b h=>by simp at h⟩,hl⟩
 | k::L,b::bs,p,l,hh,hl=>by
  simp only[bksP]at hh
  split at hh
  ·rename_i p1 hp1
   split at hh
   ·rename_i c hc
    obtain⟨g1,g2⟩:=bkP_h hh hl
    obtain⟨⟨g3,g4⟩,g5⟩:=bksP_h hp1 g2
    refine⟨⟨by simp[g3],fun j k' b' h1 h2=>?_⟩,g5⟩
    cases j with
    | zero=>simp at h1 h2;subst h1 h2;exact⟨c,hc,g1⟩
    | succ j=>exact g4 j k' b' (by simpa using h1) (by simpa using h2)
   ·cases hh
  ·cases hh
 | [],_::_,p,l,hh,_=>by simp[bksP]at hh
 | _::_,[],p,l,hh,_=>by simp[bksP]at hh
theorem tmsP_h{τ:Nat->Nat}{t:List (Option SV)}:∀ {is:List Nat} {vs:List SV} {p l:PL},tmsP τ t is vs p=some l->allP l->(∀(j:Nat) i v,is[j]?=some i->vs[j]?=some v->∃x,t[i]?=some (some x)/\leSV x (v.ren τ))/\allP p
 | [],[],p,l,hh,hl=>by simp[tmsP]at hh;subst hh;exact⟨fun j k b h=>by simp at h,hl⟩
 | i::is,v::vs,p,l,hh,hl=>by
  simp only[tmsP]at hh
  split at hh
  ·rename_i p1 hp1
   split at hh
   ·rename_i x hx
    obtain⟨g1,g2⟩:=svP_h hh hl
    obtain⟨g4,g5⟩:=tmsP_h hp1 g2
    refine⟨fun j i' v' h1 h2=>?_,g5⟩
    cases j with
    | zero=>simp at h1 h2;subst h1 h2;exact⟨x,hx,g1⟩
    | succ j=>exact g4 j i' v' (by simpa using h1) (by simpa using h2)
   ·cases hh
  ·cases hh
 | [],_::_,p,l,hh,_=>by simp[tmsP]at hh
 | _::_,[],p,l,hh,_=>by simp[tmsP]at hh
inductive V:Type 1 where
 | ok
 | br (b:Bool) (t e:V)
 | need (p:Prop) (k:V)
 | any (α:Type) (φ:α->Prop) (k:α->V)
 | bad (why:Nat)
def V.holds:V->Prop
 | .ok=>True
 | .br b t e=>(b=true->t.holds)/\(b=false->e.holds)
 | .need p k=>p/\k.holds
 | .any _ φ k=>∀x,φ x->(k x).holds
 | .bad _=>False
structure zad (o:V):Prop where
 h:o.holds
def Out.toV{β:Type}:Out β->(β->V)->V
 | .leaf x,f=>f x
 | .br b t e,f=>.br b (t.toV f) (e.toV f)
 | .need p k,f=>.need p (k.toV f)
 | .any α φ k,f=>.need (∃x,φ x) (.any α φ fun x=>(k x).toV f)
 | .ge lo k,f=>.any Nat (fun x=>lo<=x) fun x=>(k x).toV f
 | .bad w,_=>.bad w
theorem Out.toV_h{β:Type}:∀ {o:Out β} {f:β->V},(o.toV f).holds->o.holds fun x=>(f x).holds:=by
 intro o
 induction o with
 | leaf x=>intro f h;exact h
 | br b t e iht ihe=>intro f h;exact⟨fun hb=>iht (h.1 hb),fun hb=>ihe (h.2 hb)⟩
 | need p k ih=>intro f h;exact⟨h.1,ih h.2⟩
 | any α φ k ih=>intro f h;exact⟨h.1,fun x hx=>ih x (h.2 x hx)⟩
 | ge lo k ih=>intro f h;exact fun x hx=>ih x (h x hx)
 | bad w=>intro f h;exact h.elim
theorem Out.holds_toV{β:Type}:∀ {o:Out β} {f:β->V},o.holds (fun x=>(f x).holds)->(o.toV f).holds:=by
 intro o
 induction o with
 | leaf x=>intro f h;exact h
 | br b t e iht ihe=>intro f h;exact⟨fun hb=>iht (h.1 hb),fun hb=>ihe (h.2 hb)⟩
 | need p k ih=>intro f h;exact⟨h.1,ih h.2⟩
 | any α φ k ih=>intro f h;exact⟨h.1,fun x hx=>ih x (h.2 x hx)⟩
 | ge lo k ih=>intro f h;exact fun x hx=>ih x (h x hx)
 | bad w=>intro f h;exact h.elim
def V.needs:PL->V->V
 | [],k=>k
 | p::l,k=>.need p (V.needs l k)
theorem V.needs_h:∀ {l:PL} {k:V},(V.needs l k).holds->allP l/\k.holds
 | [],k,h=>⟨trivial,h⟩
 | p::l,k,h=>⟨⟨h.1,(needs_h h.2).1⟩,(needs_h h.2).2⟩
theorem V.holds_needs:∀ {l:PL} {k:V},allP l->k.holds->(V.needs l k).holds
 | [],k,_,h=>h
 | p::l,k,hl,h=>⟨hl.1,holds_needs hl.2 h⟩
def chkV(b:Bool)(k:V)(why:Nat:=0):V:=match b with|true=>k|false=>.bad why
theorem zb3{b:Bool}{k:V}{n:Nat}(h:(chkV b k n).holds):b=true/\k.holds:=by
 cases b with
 | true=>exact⟨rfl,h⟩
 | false=>exact h.elim
def optV{α:Type}(o:Option α)(k:α->V)(why:Nat:=0):V:=match o with|some x=>k x|none=>.bad why
theorem zc1{α:Type}{o:Option α}{k:α->V}{n:Nat}(h:(optV o k n).holds):∃x,o=some x/\(k x).holds:=by
 cases o with
 | none=>exact h.elim
 | some x=>exact⟨x,rfl,h⟩
def plV(o:Option PL)(k:V)(why:Nat:=0):V:=match o with|some l=>V.needs l k|none=>.bad why
theorem plV_h{o:Option PL}{k:V}{n:Nat}(h:(plV o k n).holds):∃l,o=some l/\allP l/\k.holds:=by
 cases o with
 | none=>exact h.elim
 | some l=>exact⟨l,rfl,V.needs_h h⟩
structure LA (X:Type) where
 paths:List ((St->Nat)×Bool)
 blk:X->List Blk
 tm:List Nat
 tv:X->List SV
 rd:St->Option X
 I:X->Prop
 μ:X->Nat
def joinHas(kb:Nat)(f:Nat)(s:St):Bool:=match find kb s.H.h with
 | some b=>match b.cols[f]? with
  | some col=>match zfr s.H.nxt col with
   | some _=>true
   | none=>false
  | none=>false
 | none=>false
def joinIfG(kb:St->Nat)(f:Nat):St->Out St:=fun s=>fN (kb s) fun k=>match joinHas k f s with
 | true=>joinG (fun _=>k) f s
 | false=>.leaf s
theorem joinIfG_ok(kb:St->Nat)(f:Nat):zbl (joinIfG kb f):=by
 intro φ ρ s a w K h hh
 unfold joinIfG at hh
 rw[fN_eq]at hh
 split at hh
 ·exact joinG_ok _ f φ ρ s a w K h hh
 ·exact⟨_,ρ,hh,.refl _ _,.refl _,h⟩
def zdw(k z j:Nat):Nat:=match zu j k with|true=>z|false=>j
theorem zfg{k z j:Nat}:zdw k z j=if j=k then z else j:=by
 unfold zdw
 by_cases h:j=k
 ·subst h;simp
 ·rw[if_neg h]
  cases hb:zu j k with
  | false=>rfl
  | true=>exact absurd (zq hb) h
def renG(kf:St->Nat):St->Out St:=fun s=>fN (kf s) fun k=>match find k s.H.h with
 | some _=>fHL (renH (zdw k s.H.nxt) s.H.h) fun h=>.leaf ⟨s.tmps,⟨h,s.H.nxt+1,s.H.D⟩⟩
 | none=>.bad 359
theorem renG_ok(kf:St->Nat):zbl (renG kf):=by
 intro φ ρ s a w K h hh
 simp only[renG,fN_eq,fHL_eq]at hh
 generalize kf s=k at hh
 split at hh
 ·rename_i bk hk
  have hkn:k<s.H.nxt:=(h.heap.lt k bk hk).1
  let ρ':Rho:=fun j=>if j=s.H.nxt then ρ k else ρ j
  have hag:zat s.H.sc ρ ρ':=fun j hj=>if_neg (Nat.ne_of_lt hj.1)
  have hup:s.H.D s.H.nxt:=h.heap.up _ (Z _)
  have hm:∀j,s.H.sc j->Hp.sc ⟨renH (zdw k s.H.nxt) s.H.h,s.H.nxt+1,s.H.D⟩ (zdw k s.H.nxt j):=fun j hj=>by
   rw[zfg]
   split
   ·exact⟨Nat.lt_succ_self _,hup⟩
   ·exact⟨Nat.lt_succ_of_lt hj.1,hj.2⟩
  have hr:∀j,j<s.H.nxt->ρ' (zdw k s.H.nxt j)=ρ j:=fun j hj=>by
   rw[zfg]
   split
   ·rename_i e;subst e;exact if_pos rfl
   ·exact if_neg (Nat.ne_of_lt hj)
  refine⟨_,ρ',hh,hag,⟨Nat.le_succ _,rfl⟩,⟨⟨h.heap.fr,fun j hj=>h.heap.up j (Nat.le_of_succ_le hj),fun j b hj=>?_,fun j b hj=>?_,fun j b hj=>?_,fun j b hj=>?_,fun j b hj hb j' b' hj'=>?_⟩,h.defers,?_,fun i sv hi=>?_⟩⟩
  ·obtain⟨k0,b0,h1,rfl,rfl⟩:=za9 hj
   exact hm k0 (h.heap.lt k0 b0 h1)
  ·obtain⟨k0,b0,h1,rfl,rfl⟩:=za9 hj
   have h0:=h.heap.lt k0 b0 h1
   exact Blk.sat_ren (hr k0 h0.1).symm hm (fun j hj=>hr j hj.1) (h.heap.sat k0 b0 h1)
  ·obtain⟨k0,b0,h1,rfl,rfl⟩:=za9 hj
   rw[hr k0 (h.heap.lt k0 b0 h1).1]
   intro i hi
   rw[Blk.ren_live]at hi
   exact h.heap.bd k0 b0 h1 i hi
  ·obtain⟨k0,b0,h1,rfl,rfl⟩:=za9 hj
   rw[hr k0 (h.heap.lt k0 b0 h1).1,Blk.ren_isRow]
   intro hb i hi
   rw[Blk.ren_live]at hi
   exact h.heap.may k0 b0 h1 hb i hi
  ·obtain⟨k0,b0,h1,rfl,rfl⟩:=za9 hj
   obtain⟨k1,b1,h2,rfl,rfl⟩:=za9 hj'
   rw[hr k0 (h.heap.lt k0 b0 h1).1,hr k1 (h.heap.lt k1 b1 h2).1]
   rw[Blk.ren_isRow]at hb
   intro hne j i hj hi
   rw[Blk.ren_live]at hj hi
   exact h.heap.sep k0 b0 h1 hb k1 b1 h2 (fun e=>hne (by rw[e])) j i hj hi
  ·exact h.size
  ·obtain⟨v,hv,hs⟩:=h.tmps i sv hi
   exact⟨v,hv,hs.ext hag fun j hj=>⟨Nat.lt_succ_of_lt hj.1,hj.2⟩⟩
 ·exact hh.elim
def renTG(i:Nat):St->Out St:=fun s=>fN (tkey i s) fun k=>match find k s.H.h,s.tmps[i]? with
 | some _,some (some sv)=>fHL (renH (zdw k s.H.nxt) s.H.h) fun h=>.leaf ⟨s.tmps.set i (some (sv.ren (zdw k s.H.nxt))),⟨h,s.H.nxt+1,s.H.D⟩⟩
 | _,_=>.bad 358
theorem renTG_ok(i0:Nat):zbl (renTG i0):=by
 intro φ ρ s a w K h hh
 simp only[renTG,fN_eq,fHL_eq]at hh
 generalize tkey i0 s=k at hh
 split at hh
 ·rename_i bk sv0 hk ht0
  have hkn:k<s.H.nxt:=(h.heap.lt k bk hk).1
  let ρ':Rho:=fun j=>if j=s.H.nxt then ρ k else ρ j
  have hag:zat s.H.sc ρ ρ':=fun j hj=>if_neg (Nat.ne_of_lt hj.1)
  have hup:s.H.D s.H.nxt:=h.heap.up _ (Z _)
  have hm:∀j,s.H.sc j->Hp.sc ⟨renH (zdw k s.H.nxt) s.H.h,s.H.nxt+1,s.H.D⟩ (zdw k s.H.nxt j):=fun j hj=>by
   rw[zfg]
   split
   ·exact⟨Nat.lt_succ_self _,hup⟩
   ·exact⟨Nat.lt_succ_of_lt hj.1,hj.2⟩
  have hr:∀j,j<s.H.nxt->ρ' (zdw k s.H.nxt j)=ρ j:=fun j hj=>by
   rw[zfg]
   split
   ·rename_i e;subst e;exact if_pos rfl
   ·exact if_neg (Nat.ne_of_lt hj)
  refine⟨_,ρ',hh,hag,⟨Nat.le_succ _,rfl⟩,⟨⟨h.heap.fr,fun j hj=>h.heap.up j (Nat.le_of_succ_le hj),fun j b hj=>?_,fun j b hj=>?_,fun j b hj=>?_,fun j b hj=>?_,fun j b hj hb j' b' hj'=>?_⟩,h.defers,?_,fun i sv hi=>?_⟩⟩
  ·obtain⟨k0,b0,h1,rfl,rfl⟩:=za9 hj
   exact hm k0 (h.heap.lt k0 b0 h1)
  ·obtain⟨k0,b0,h1,rfl,rfl⟩:=za9 hj
   have h0:=h.heap.lt k0 b0 h1
   exact Blk.sat_ren (hr k0 h0.1).symm hm (fun j hj=>hr j hj.1) (h.heap.sat k0 b0 h1)
  ·obtain⟨k0,b0,h1,rfl,rfl⟩:=za9 hj
   rw[hr k0 (h.heap.lt k0 b0 h1).1]
   intro i hi
   rw[Blk.ren_live]at hi
   exact h.heap.bd k0 b0 h1 i hi
  ·obtain⟨k0,b0,h1,rfl,rfl⟩:=za9 hj
   rw[hr k0 (h.heap.lt k0 b0 h1).1,Blk.ren_isRow]
   intro hb i hi
   rw[Blk.ren_live]at hi
   exact h.heap.may k0 b0 h1 hb i hi
  ·obtain⟨k0,b0,h1,rfl,rfl⟩:=za9 hj
   obtain⟨k1,b1,h2,rfl,rfl⟩:=za9 hj'
   rw[hr k0 (h.heap.lt k0 b0 h1).1,hr k1 (h.heap.lt k1 b1 h2).1]
   rw[Blk.ren_isRow]at hb
   intro hne j i hj hi
   rw[Blk.ren_live]at hj hi
   exact h.heap.sep k0 b0 h1 hb k1 b1 h2 (fun e=>hne (by rw[e])) j i hj hi
  ·rw[List.length_set];exact h.size
  ·rw[List.getElem?_set]at hi
   split at hi
   ·rename_i e;subst e
    split at hi
    ·cases hi
     obtain⟨v,hv,hs⟩:=h.tmps i0 sv0 ht0
     exact⟨v,hv,hs.ren hm fun j hj=>hr j hj.1⟩
    ·cases hi
   ·obtain⟨v,hv,hs⟩:=h.tmps i sv hi
    exact⟨v,hv,hs.ext hag fun j hj=>⟨Nat.lt_succ_of_lt hj.1,hj.2⟩⟩
 ·exact hh.elim
def nilElG(kb:St->Nat)(f:Nat)(el:TypeId)(sz:Nat)(cols:List Col):St->Out St:=fun s=>fN (kb s) fun key=>match find key s.H.h with
 | some (.row t cap n cs)=>match cs[f]? with
  | some (.ov i e .nils col)=>.leaf ⟨s.tmps,⟨(s.H.nxt,.row el 0 0 cols)::upd key (.row t cap n (cs.set f (.ov i e (.slc s.H.nxt (.k 0) (.k 0) sz (.s 0) (.s 0)) col))) s.H.h,s.H.nxt+1,s.H.D⟩⟩
  | _=>.leaf s
 | _=>.leaf s
theorem nilElG_ok(kb:St->Nat)(f:Nat)(el:TypeId)(sz:Nat)(cols:List Col):zbl (nilElG kb f el sz cols):=by
 intro φ ρ s a w K h hh
 simp only[nilElG,fN_eq]at hh
 generalize kb s=key at hh
 split at hh
 ·rename_i t cap n cs hf
  split at hh
  ·rename_i i0 e0 col hc
   obtain⟨h1,h2,h3⟩:=h.newDead (.row el 0 0 cols) (fun j hj=>absurd hj.2 (Nat.lt_irrefl 0)) (fun n ρ'=>.inl ⟨rfl,rfl⟩)
   have hkey:key≠s.H.nxt:=Nat.ne_of_lt (h.heap.lt key _ hf).1
   have hf':find key ((s.H.nxt,Blk.row el 0 0 cols)::s.H.h)=some (.row t cap n cs):=by rw[zag,if_neg hkey];exact hf
   have hsat:=Blk.sat_setCols (cols':=cs.set f (.ov i0 e0 (.slc s.H.nxt (.k 0) (.k 0) sz (.s 0) (.s 0)) col)) (h3.heap.sat key _ hf') (by simp[Blk.cols]) (fun i e _ f' c' d hf1 hd=>by
    rw[List.getElem?_set]at hf1
    split at hf1
    ·rename_i e1;subst e1
     split at hf1
     ·cases hf1
      simp only[Col.get]at hd
      split at hd
      ·rename_i hie
       cases hd
       refine⟨_,.nils,hc,by simp only[Col.get];rw[if_pos hie],.inr ⟨?_,?_⟩⟩
       ·have e0:(ρ.put s.H.nxt none) s.H.nxt 0=none:=by simp[Rho.put]
        simp[SC.den,zal,e0]
       ·intro k hk
        simp only[SC.keys,List.mem_singleton]at hk
        subst hk
        exact⟨Nat.lt_succ_self _,h.heap.up _ (Z _)⟩
      ·rename_i hie
       exact⟨_,d,hc,by simp only[Col.get];rw[if_neg hie];exact hd,.inl rfl⟩
     ·cases hf1
    ·exact⟨c',d,hf1,hd,.inl rfl⟩)
   have hw:=h3.heap.reword hf' (b':=.row t cap n (cs.set f (.ov i0 e0 (.slc s.H.nxt (.k 0) (.k 0) sz (.s 0) (.s 0)) col))) (fun hr=>rfl) (fun i hi=>hi) hsat
   refine⟨_,_,hh,h1,⟨h2.nxt,h2.D⟩,⟨?_,h3.defers,h3.size,h3.tmps⟩⟩
   simp only[upd]at hw
   have hb:zu key s.H.nxt=false:=by
    cases hb:zu key s.H.nxt with
    | false=>rfl
    | true=>exact absurd (zq hb) hkey
   rw[hb]at hw
   exact hw
  ·exact⟨_,_,hh,.refl _ _,.refl _,h⟩
 ·exact⟨_,_,hh,.refl _ _,.refl _,h⟩
def allSm:List (Option SC)->Option (List SC)
 | []=>some []
 | some c::r=>match allSm r with
  | some l=>some (c::l)
  | none=>none
 | none::_=>none
theorem allSm_e:∀ {cs:List (Option SC)} {l:List SC},allSm cs=some l->cs=l.map some
 | [],l,h=>by cases h;rfl
 | some c::r,l,h=>by
  simp only[allSm]at h
  split at h
  ·rename_i l' hl
   cases h
   rw[allSm_e hl]
   rfl
  ·cases h
 | none::r,l,h=>by cases h
def rowOG(kf:St->Nat):St->Out St:=fun s=>fN (kf s) fun k=>match find k s.H.h with
 | some (.own t size cs)=>opt (allSm cs) (fun l=>chk (Nat.ble size 1000) (fHL (upd k (.row t size size [.ck l]) s.H.h) fun h=>.leaf ⟨s.tmps,⟨h,s.H.nxt,s.H.D⟩⟩) 330) 331
 | _=>.bad 332
theorem rowOG_ok(kf:St->Nat):zbl (rowOG kf):=by
 intro φ ρ s a w K h hh
 simp only[rowOG,fN_eq,fHL_eq]at hh
 split at hh
 ·rename_i t size cs hf
  obtain⟨l,hl,hh⟩:=zaa hh
  obtain⟨hz,hh⟩:=zaf hh
  have hz:=zb hz
  obtain⟨b,arr,g1,g2,g3,g4,g5⟩:=h.heap.sat _ _ hf
  have hw:=h.heap.write hf rfl (b':=.row t size size [.ck l]) (i0:=0) rfl g1 (w':=w) ?_ h.heap.fr rfl (fun _ _=>rfl) (fun i hi=>hi.1)
  ·exact⟨_,ρ,hh,zat.refl _ _,⟨Z _,rfl⟩,⟨hw,h.defers,h.size,h.tmps⟩⟩
  ·refine .inr ⟨b,arr,g1,g2,by simpa using g3,Z _,zo hz (by decide),fun e he f col c hf hc=>?_⟩
   rcases f with _|f
   ·cases hf
    have hcs:cs[e]?=some (some c):=by
     rw[allSm_e hl,List.getElem?_map]
     have hc:l[e]?=some c:=hc
     rw[hc]
     rfl
    obtain⟨v,hv,hs⟩:=g5 e c hcs
    exact⟨v,by simpa using hv,hs⟩
   ·cases hf
 ·exact hh.elim
inductive G:Type where
 | newFam (t:TypeId) (cols:List Col)
 | nilTmp (i:Nat) (el:TypeId) (sz:Nat) (cols:List Col)
 | nilCell (key:St->Nat) (f:Nat) (el:TypeId) (sz:Nat) (cols:St->List Col)
 | join (kb:St->Nat) (f:Nat)
 | joinLt (kb:St->Nat) (f:Nat)
 | joinIf (kb:St->Nat) (f:Nat)
 | nilTmpO (i:Nat) (el:TypeId) (sz:Nat) (cols:List Col)
 | nilCol (key:St->Nat) (f:Nat) (el:TypeId) (sz:Nat) (cols:List Col)
 | cases(i:Nat) (l:List Int)
 | forget (ks:St->List Nat)
 | ren (kf:St->Nat)
 | renT (i:Nat)
 | nilEl (kb:St->Nat) (f:Nat) (el:TypeId) (sz:Nat) (cols:List Col)
 | rowO (kf:St->Nat)
def G.run:G->St->Out St
 | .newFam t cols=>newFamG t cols
 | .nilTmp i el sz cols=>zek i el sz cols
 | .nilCell key f el sz cols=>fun s=>zeb (key s) f el sz (cols s) s
 | .join kb f=>joinG kb f
 | .joinLt kb f=>joinLtG kb f
 | .joinIf kb f=>joinIfG kb f
 | .nilTmpO i el sz cols=>zgm i el sz cols
 | .nilCol key f el sz cols=>fun s=>nilColG (key s) f el sz cols s
 | .cases i l=>casesG i l
 | .forget ks=>forgetG ks
 | .ren kf=>renG kf
 | .renT i=>renTG i
 | .nilEl kb f el sz cols=>nilElG kb f el sz cols
 | .rowO kf=>rowOG kf
theorem G.ok:∀g:G,zbl g.run
 | .newFam t cols=>newFamG_ok t cols
 | .nilTmp i el sz cols=>zfj i el sz cols
 | .nilCell key f el sz cols=>fun φ ρ s=>zeo (key s) f el sz (cols s) φ ρ s
 | .join kb f=>joinG_ok kb f
 | .joinLt kb f=>joinLtG_ok kb f
 | .joinIf kb f=>joinIfG_ok kb f
 | .nilTmpO i el sz cols=>nilTmpOG_ok i el sz cols
 | .nilCol key f el sz cols=>fun φ ρ s=>nilColG_ok (key s) f el sz cols φ ρ s
 | .cases i l=>casesG_ok i l
 | .forget ks=>forgetG_ok ks
 | .ren kf=>renG_ok kf
 | .renT i=>renTG_ok i
 | .nilEl kb f el sz cols=>nilElG_ok kb f el sz cols
 | .rowO kf=>rowOG_ok kf
def G.asg:G->List Nat
 | .nilTmp i _ _ _=>[i]
 | .nilTmpO i _ _ _=>[i]
 | .cases i _=>[i]
 | .renT i=>[i]
 | _=>[]
inductive Sh where
 | all (n:Nat)
 | one (n:Nat)
 | to (n:Nat)
inductive AT:Type 1 where
 | nil
 | two (a b:AT)
 | pre (g:List G) (n:AT)
 | loop (X:Type) (f:St->Option (LA X)) (inner:AT)
 | loopS (n:Nat) (X:Type) (f:St->Option (LA (Nat×X))) (inner:AT)   -- the states are of n shapes,each walked by itself
 | cut (d:Nat) (X:Type) (f:St->Option (LA X)) (np ns:AT)   -- a sequence: the part behind its first d+1 is walked once,from a state that is described
 | cutS (d:Nat) (k:St->Sh) (X:Type) (f:St->Option (LA (Nat×X))) (np ns:AT)
 | stop   -- of a sequence only the first part
 | skip (n:AT)   -- of a sequence only the second part
def AT.isStop:AT->Bool|.stop=>true|_=>false
def AT.l:AT->AT|.two x _=>x|_=>.nil
def AT.r:AT->AT|.two _ y=>y|_=>.nil
def zay:Nat->AT->AT
 | 0,n=>.two n.l .stop
 | d+1,n=>.two n.l (zay d n.r)
def zew:Nat->AT->AT
 | 0,n=>n
 | d+1,n=>.skip (zew d n)
def AT.pure:AT->Bool
 | .nil=>true
 | .two a b=>a.pure&&b.pure
 | .pre _ n=>n.pure
 | .loop _ _ n=>n.pure
 | .loopS _ _ _ n=>n.pure
 | .cut _ _ _ np ns=>np.pure&&ns.pure
 | .cutS _ _ _ _ np ns=>np.pure&&ns.pure
 | .stop=>false
 | .skip _=>false
def AT.gs:AT->List G|.pre g _=>g|_=>[]
def AT.core:AT->AT|.pre _ n=>n|n=>n
def AT.inner:AT->AT|.loop _ _ i=>i|.loopS _ _ _ i=>i|_=>.nil
def preV:List G->St->(St->V)->V
 | [],s,K=>K s
 | g::l,s,K=>(g.run s).toV fun s=>preV l s K
inductive AV:Type 1 where
 | nil
 | loop (X:Type) (pre:List G) (f:St->Option (LA X)) (inner:AV) (rest:AV)
 | loopS (n:Nat) (X:Type) (pre:List G) (f:St->Option (LA (Nat×X))) (inner:AV) (rest:AV)
 | unroll (pre:List G) (rest:AV)
 | cut (j:Nat) (X:Type) (f:St->Option (LA X)) (pre rest:AV)   -- ahead of region j
 | cutS (j:Nat) (k:St->Sh) (X:Type) (f:St->Option (LA (Nat×X))) (pre rest:AV)
 | skipTo (d:Nat) (rest:AV)
def zf2:Code->Option Nat
 | .region id _ _=>some id
 | .seq a b=>match zf2 a with
  | some i=>some i
  | none=>zf2 b
 | .cond _ a b=>match zf2 a with
  | some i=>some i
  | none=>zf2 b
 | .block _ c=>zf2 c
 | .scope c=>zf2 c
 | .loop c=>zf2 c
 | _=>none
def isR(j:Nat)(c:Code):Bool:=match zf2 c with
 | some i=>zu i j
 | none=>false
def depR(j:Nat):Code->Option Nat
 | .seq _ y=>match isR j y with
  | true=>some 0
  | false=>match depR j y with
   | some d=>some (d+1)
   | none=>none
 | _=>none
def depQ(q:Nat)(c:Code):Option Nat:=match Nat.blt q 1000 with
 | true=>depR q c
 | false=>match isR (q / 1000) c with
  | true=>depR (q % 1000) c
  | false=>none
def gsAt(i:Nat):List (Nat×G)->List G
 | []=>[]
 | (j,g)::l=>match zu i j with
  | true=>g::gsAt i l
  | false=>gsAt i l
def mkAT(gs:List (Nat×G)):Code->AV->AT×AV
 | .region id _ _,a=>(match gsAt (id+200000) gs with | []=>(match gsAt id gs with | []=>.nil | g=>.pre g .nil) | g'=>.pre (gsAt id gs) (.pre g' .nil),a)   -- behind a region: its number and 200000
 | .seq x y,.cut j X f pre rest=>match depQ j (.seq x y) with
  | some d=>match mkAT gs x pre with
   | (nx,pre)=>match mkAT gs y pre with
    | (ny,_)=>match mkAT gs y (match d with|0=>rest|d+1=>.skipTo d rest) with
     | (ns,a)=>(.cut d X f (.two nx ny) ns,a)
  | none=>match mkAT gs x (.cut j X f pre rest) with
   | (n,a)=>match mkAT gs y a with
    | (m,a)=>(.two n m,a)
 | .seq x y,.cutS j k X f pre rest=>match depQ j (.seq x y) with
  | some d=>match mkAT gs x pre with
   | (nx,pre)=>match mkAT gs y pre with
    | (ny,_)=>match mkAT gs y (match d with|0=>rest|d+1=>.skipTo d rest) with
     | (ns,a)=>(.cutS d k X f (.two nx ny) ns,a)
  | none=>match mkAT gs x (.cutS j k X f pre rest) with
   | (n,a)=>match mkAT gs y a with
    | (m,a)=>(.two n m,a)
 | .seq x y,.skipTo 0 rest=>mkAT gs y rest
 | .seq x y,.skipTo (d+1) rest=>mkAT gs y (.skipTo d rest)
 | .seq x y,a=>match mkAT gs x a with
  | (n,a)=>match mkAT gs y a with
   | (m,a)=>(.two n m,a)
 | .cond _ x y,a=>match mkAT gs x a with
  | (n,a)=>match mkAT gs y a with
   | (m,a)=>(.two n m,a)
 | .block _ c,a=>mkAT gs c a
 | .scope c,a=>mkAT gs c a
 | .loop c,.loop X g f inner rest=>(.pre g (.loop X f (mkAT gs c inner).1),rest)
 | .loop c,.loopS n X g f inner rest=>(.pre g (.loopS n X f (mkAT gs c inner).1),rest)
 | .loop c,.unroll g rest=>(.pre g .nil,rest)
 | _,a=>(.nil,a)
def dstsO:List Oper->List Nat
 | []=>[]
 | o::l=>match o.dst with
  | some d=>d::dstsO l
  | none=>dstsO l
def gsAsg:List G->List Nat
 | []=>[]
 | g::l=>g.asg++gsAsg l
def asg:Code->AT->List Nat
 | .region _ ops _,n=>(gsAsg n.gs++dstsO ops.toList)++gsAsg n.core.gs
 | .seq a b,n=>match n with
  | .cut d _ _ np ns=>(asg a (zay d np).l++asg b (zay d np).r)++asg b (zew d ns)
  | .cutS d _ _ _ np ns=>(asg a (zay d np).l++asg b (zay d np).r)++asg b (zew d ns)
  | .skip m=>asg b m
  | _=>asg a n.l++asg b n.r
 | .cond _ a b,n=>asg a n.l++asg b n.r
 | .block _ c,n=>asg c n
 | .scope c,n=>asg c n
 | .loop c,n=>gsAsg n.gs++asg c n.core.inner
 | _,_=>[]
def zbr(as bad:List Nat):Nat->List (Option SV)->List (Option SV)
 | _,[]=>[]
 | i,none::l=>none::zbr as bad (i+1) l
 | i,some v::l=>(match mem i as with
  | true=>none
  | false=>match v.allKeys.any (mem · bad) with
   | true=>none
   | false=>some v)::zbr as bad (i+1) l
def zeh:List (Option SV)->List Nat->List SV->List (Option SV)
 | t,i::is,v::vs=>zeh (t.set i (some v)) is vs
 | t,_,_=>t
def za7(L0 bad:List Nat):HL->HL
 | []=>[]
 | (k,b)::r=>match mem k L0 with
  | true=>za7 L0 bad r
  | false=>match b.keys.any (mem · bad) with
   | true=>za7 L0 bad r
   | false=>(k,b)::za7 L0 bad r
def zca:HL->HL
 | []=>[]
 | (k,b)::r=>(k,b.ro)::zca r
def zipK:List Nat->List Blk->HL
 | k::L,b::bs=>(k,b)::zipK L bs
 | _,_=>[]
def tauM:List Nat->List Nat->Nat->Nat
 | a::L,b::M,k=>match zu k a with
  | true=>b
  | false=>tauM L M k
 | _,_,k=>k
def jSt(tb:List (Option SV))(hb:HL)(nxt:Nat)(L0:List Nat)(tm:List Nat)(bs:List Blk)(vs:List SV):St:=⟨zeh tb tm vs,⟨zipK L0 bs++hb,nxt,fun _=>True⟩⟩
def fitV(L0 L1:List Nat)(s:St)(tm:List Nat)(vs:List SV)(bs:List Blk)(k:V):V:=
 plV (match bksP (tauM L0 L1) s.H.h L0 bs []with
  | some p=>tmsP (tauM L0 L1) s.tmps tm vs p
  | none=>none) k 400
def badL{X:Type}:List (X×Bool)->List Nat->List Nat
 | (_,true)::ps,_::L=>badL ps L
 | (_,false)::ps,k::L=>k::badL ps L
 | _,_=>[]
def fixB{X:Type}:List (X×Bool)->List Nat->List Nat->Bool
 | (_,true)::ps,a::L,b::M=>zu a b&&fixB ps L M
 | (_,false)::ps,_::L,_::M=>fixB ps L M
 | [],[],[]=>true
 | _,_,_=>false
def zch(as:List Nat):Nat->List (Option SV)->List (Option SV)->Bool
 | i,some _::l,some _::m=>zch as (i+1) l m
 | i,some _::l,none::m=>mem i as&&zch as (i+1) l m
 | i,none::l,_::m=>zch as (i+1) l m
 | _,[],[]=>true
 | _,_,_=>false
def fTmV{β:Type 1}:List (Option SV)->(List (Option SV)->β)->β
 | [],k=>k []
 | none::l,k=>fTmV l fun l=>k (none::l)
 | some v::l,k=>fSV v fun v=>fTmV l fun l=>k (some v::l)
@[simp] theorem fTmV_eq {β:Type 1}:∀(l:List (Option SV)) (k:List (Option SV)->β),fTmV l k=k l
 | [],k=>rfl
 | none::l,k=>by simp[fTmV,fTmV_eq l]
 | some v::l,k=>by simp[fTmV,fTmV_eq l]
def fSt{β:Type 1}(s:St)(k:St->β):β:=match s with|⟨t,H⟩=>fTmV t fun t=>fHp H fun H=>k ⟨t,H⟩
@[simp] theorem fSt_eq {β:Type 1} (s:St) (k:St->β):fSt s k=k s:=by cases s;simp[fSt]
def allN:Nat->Nat->(Nat->V)->V
 | 0,_,_=>.ok
 | n+1,j,k=>.any Bool (fun _=>True) fun b=>.br b (k j) (allN n (j+1) k)
theorem allN_h:∀ {n j:Nat} {k:Nat->V},(allN n j k).holds->∀i,j<=i->i<j+n->(k i).holds
 | 0,j,k,_,i,h1,h2=>by omega
 | n+1,j,k,h,i,h1,h2=>by
  by_cases e:i=j
  ·subst e;exact(h true trivial).1 rfl
  ·exact allN_h ((h false trivial).2 rfl) i (by omega) (by omega)
theorem allN_mono:∀ {n j:Nat} {k k':Nat->V},(∀i,(k i).holds->(k' i).holds)->(allN n j k).holds->(allN n j k').holds
 | 0,j,k,k',_,_=>trivial
 | n+1,j,k,k',hk,h=>fun b _=>⟨fun hb=>hk j ((h b trivial).1 hb),fun hb=>allN_mono hk ((h b trivial).2 hb)⟩
def anyS(n:Nat){X:Type}(I:Nat×X->Prop)(k:Nat×X->V):V:=.need (∀x,I x->x.1<n) (allN n 0 fun j=>.any X (fun x=>I (j,x)) fun x=>k (j,x))
theorem anyS_h{n:Nat}{X:Type}{I:Nat×X->Prop}{k:Nat×X->V}(h:(anyS n I k).holds)(x:Nat×X)(hx:I x):(k x).holds:=allN_h h.2 x.1 (Nat.zero_le _) (by have:=h.1 x hx;omega) x.2 hx
theorem anyS_mono{n:Nat}{X:Type}{I:Nat×X->Prop}{k k':Nat×X->V}(hk:∀x,I x->(k x).holds->(k' x).holds)(h:(anyS n I k).holds):(anyS n I k').holds:=⟨h.1,allN_mono (fun i h=>by
 have h:∀x,I (i,x)->(k (i,x)).holds:=h
 exact fun x hx=>hk (i,x) hx (h x hx)) h.2⟩
def only1(n:Nat){X:Type}(I:Nat×X->Prop)(k:Nat×X->V):V:=.need (∀x,I x->x.1=n) (.any X (fun x=>I (n,x)) fun x=>k (n,x))
def anyR(n:Nat){X:Type}(I:Nat×X->Prop)(k:Nat×X->V):V:=.need (∀x,I x->1<=x.1/\x.1<1+n) (allN n 1 fun j=>.any X (fun x=>I (j,x)) fun x=>k (j,x))
def anyC(n:Sh){X:Type}(I:Nat×X->Prop)(k:Nat×X->V):V:=match n with
 | .all n=>anyS n I k
 | .one n=>only1 n I k
 | .to n=>anyR n I k
theorem only1_h{n:Nat}{X:Type}{I:Nat×X->Prop}{k:Nat×X->V}(h:(only1 n I k).holds)(x:Nat×X)(hx:I x):(k x).holds:=by
 obtain⟨a,b⟩:=x
 have e:a=n:=h.1 (a,b) hx
 subst e
 exact h.2 b hx
theorem anyR_h{n:Nat}{X:Type}{I:Nat×X->Prop}{k:Nat×X->V}(h:(anyR n I k).holds)(x:Nat×X)(hx:I x):(k x).holds:=allN_h h.2 x.1 (h.1 x hx).1 (h.1 x hx).2 x.2 hx
theorem anyR_mono{n:Nat}{X:Type}{I:Nat×X->Prop}{k k':Nat×X->V}(hk:∀x,I x->(k x).holds->(k' x).holds)(h:(anyR n I k).holds):(anyR n I k').holds:=⟨h.1,allN_mono (fun i h=>by
 have h:∀x,I (i,x)->(k (i,x)).holds:=h
 exact fun x hx=>hk (i,x) hx (h x hx)) h.2⟩
theorem anyC_h{n:Sh}{X:Type}{I:Nat×X->Prop}{k:Nat×X->V}(h:(anyC n I k).holds)(x:Nat×X)(hx:I x):(k x).holds:=by
 cases n with
 | all n=>exact anyS_h h x hx
 | one n=>exact only1_h h x hx
 | to n=>exact anyR_h h x hx
theorem anyC_mono{n:Sh}{X:Type}{I:Nat×X->Prop}{k k':Nat×X->V}(hk:∀x,I x->(k x).holds->(k' x).holds)(h:(anyC n I k).holds):(anyC n I k').holds:=by
 cases n with
 | all n=>exact anyS_mono hk h
 | one n=>
  have h:(only1 n I k).holds:=h
  exact⟨h.1,fun x hx=>hk _ hx (h.2 x hx)⟩
 | to n=>exact anyR_mono hk h
structure QOK {X:Type} (I:X->Prop) (q:(X->V)->V):Prop where
 h:∀k,(q k).holds->∀x,I x->(k x).holds
 mono:∀k k',(∀x,I x->(k x).holds->(k' x).holds)->(q k).holds->(q k').holds
theorem qAny{X:Type}(I:X->Prop):QOK I (V.any X I):=⟨fun k h=>h,fun k k' hk h=>by
 have h:∀x,I x->(k x).holds:=h
 exact fun x hx=>hk x hx (h x hx)⟩
theorem qAnyS(n:Nat){X:Type}(I:Nat×X->Prop):QOK I (anyS n I):=⟨fun _ h=>anyS_h h,fun _ _ hk h=>anyS_mono hk h⟩
theorem qAnyC(n:Sh){X:Type}(I:Nat×X->Prop):QOK I (anyC n I):=⟨fun _ h=>anyC_h h,fun _ _ hk h=>anyC_mono hk h⟩
def loopV{X:Type}(la:LA X)(q:(X->V)->V)(as:List Nat)(pr:Nat->Bool)(body:(Nat->Bool)->Nat->St->(Ex->St->V)->V)(s:St)(K:Ex->St->V):V:=
 fNs (la.paths.map fun p=>p.1 s) fun L0=>fNs (badL la.paths L0) fun bad=>fTm (zbr as bad 0 s.tmps) fun tb=>fHL (za7 L0 bad s.H.h) fun hr=>fHL (zca hr) fun hb=>
 chkV (za5 L0&&(bad.all (fun k=>!(pr k))&&(fixB la.paths L0 L0&&(za5 (s.H.h.map (·.1))&&(la.tm.all (mem · as)&&hpOK s.H.nxt hr))))) (optV (la.rd s) (fun x0=>.need (la.I x0) (fitV L0 L0 s la.tm (la.tv x0) (la.blk x0)
  (q fun x=>fSt (jSt tb hb s.H.nxt L0 la.tm (la.blk x) (la.tv x)) fun sj=>chkV (stOK sj) (body (fun k=>Nat.blt k s.H.nxt&&!(mem k bad)) s.H.nxt sj fun e s1=>match e with
   | .normal=>optV (la.rd s1) (fun x1=>fNs (la.paths.map fun p=>p.1 s1) fun L1=>chkV (za5 L1&&(fixB la.paths L0 L1&&zch as 0 tb s1.tmps))
     (.need (la.I x1) (.need (la.μ x1<la.μ x) (fitV L0 L1 s1 la.tm (la.tv x1) (la.blk x1) .ok))) 402) 403
   | e=>chkV (za5 ((zaw (hr.map (·.1)) s1.H.h).map (·.1))) (fHL (zba (zaw (hr.map (·.1)) s1.H.h)++hr) fun h=>K e ⟨s1.tmps,⟨h,s1.H.nxt,s1.H.D⟩⟩) 404) 405))) 406) 407
def both(a b:V):V:=.any Bool (fun _=>True) fun x=>.br x a b
theorem both_h{a b:V}(h:(both a b).holds):a.holds/\b.holds:=⟨(h true trivial).1 rfl,(h false trivial).2 rfl⟩
theorem both_mono{a b c d:V}(h1:a.holds->c.holds)(h2:b.holds->d.holds)(h:(both a b).holds):(both c d).holds:=fun x _=>⟨fun hb=>h1 ((h x trivial).1 hb),fun hb=>h2 ((h x trivial).2 hb)⟩
def exitV(hr:HL)(K:Ex->St->V)(e:Ex)(s1:St):V:=chkV (za5 ((zaw (hr.map (·.1)) s1.H.h).map (·.1))) (fHL (zba (zaw (hr.map (·.1)) s1.H.h)++hr) fun h=>K e ⟨s1.tmps,⟨h,s1.H.nxt,s1.H.D⟩⟩) 404
def stopE:Ex:=.exit 987654321
def isStop:Ex->Bool
 | .exit i=>zu i 987654321
 | _=>false
def sufC:Nat->Code->Option Code
 | 0,.seq _ b=>some b
 | d+1,.seq _ b=>sufC d b
 | _,_=>none
def spine:Nat->Code->Bool
 | 0,.seq _ _=>true
 | d+1,.seq _ b=>spine d b
 | _,_=>false
def seqV(A B:(Nat->Bool)->Nat->St->(Ex->St->V)->V)(st:Bool)(pr:Nat->Bool)(n0:Nat)(s:St)(K:Ex->St->V):V:=A pr n0 s fun e s=>match e with
 | .normal=>match st with
  | true=>K stopE s
  | false=>B pr n0 s K
 | e=>K e s
def cutV{X:Type}(la:LA X)(q:(X->V)->V)(as:List Nat)(pr:Nat->Bool)(ba bb:(Nat->Bool)->Nat->St->(Ex->St->V)->V)(s:St)(K:Ex->St->V):V:=
 fNs (la.paths.map fun p=>p.1 s) fun L0=>fNs (badL la.paths L0) fun bad=>fTm (zbr as bad 0 s.tmps) fun tb=>fHL (za7 L0 bad s.H.h) fun hr=>fHL (zca hr) fun hb=>
 chkV (za5 L0&&(bad.all (fun k=>!(pr k))&&(fixB la.paths L0 L0&&(za5 (s.H.h.map (·.1))&&(la.tm.all (mem · as)&&hpOK s.H.nxt hr))))) (optV (la.rd s) (fun x0=>fitV L0 L0 s la.tm (la.tv x0) (la.blk x0)
  (fSt (jSt tb hb s.H.nxt L0 la.tm (la.blk x0) (la.tv x0)) fun sj=>chkV (stOK sj) (both (ba (fun k=>Nat.blt k s.H.nxt&&!(mem k bad)) s.H.nxt sj fun e s1=>match isStop e with
   | true=>optV (la.rd s1) (fun x1=>fNs (la.paths.map fun p=>p.1 s1) fun L1=>chkV (za5 L1&&(fixB la.paths L0 L1&&zch as 0 tb s1.tmps))
     (.need (la.I x1) (fitV L0 L1 s1 la.tm (la.tv x1) (la.blk x1) .ok)) 402) 403
   | false=>exitV hr K e s1)
   (q fun x=>fSt (jSt tb hb s.H.nxt L0 la.tm (la.blk x) (la.tv x)) fun sj=>chkV (stOK sj) (bb (fun k=>Nat.blt k s.H.nxt&&!(mem k bad)) s.H.nxt sj fun e s1=>exitV hr K e s1) 405)) 405)) 406) 407
def zdh(body:St->(Ex->St->V)->V):Nat->St->(Ex->St->V)->V
 | 0,_,_=>.bad 301
 | n+1,s,K=>body s fun e s=>match e with
  | .normal=>zdh body n s K
  | e=>K e s
def zaz(P:Program)(callT:CallT)(S u:Nat):Code->AT->(Nat->Bool)->Nat->St->(Ex->St->V)->V
 | .skip,_,_,_,s,K=>K .normal s
 | .label _,_,_,_,s,K=>K .normal s
 | .region _ ops draw,n,_,_,s,K=>preV n.gs s fun s=>(match draw with
  | true=>drawT P callT S ops.toList s
  | false=>zdl P callT ops.toList ops.toList s).toV fun s=>preV n.core.gs s fun s=>K .normal s
 | .seq a b,n,pr,n0,s,K=>match n with
  | .cut d X f np ns=>chkV (spine d (.seq a b)) (optV (f s) (fun la=>fNs ((asg a (zay d np).l++asg b (zay d np).r)++asg b (zew d ns)) fun as=>cutV la (V.any X la.I) as pr (seqV (zaz P callT S u a (zay d np).l) (zaz P callT S u b (zay d np).r) (zay d np).r.isStop) (zaz P callT S u b (zew d ns)) s K) 409) 411
  | .cutS d k X f np ns=>chkV (spine d (.seq a b)) (optV (f s) (fun la=>fNs ((asg a (zay d np).l++asg b (zay d np).r)++asg b (zew d ns)) fun as=>cutV la (anyC (k s) la.I) as pr (seqV (zaz P callT S u a (zay d np).l) (zaz P callT S u b (zay d np).r) (zay d np).r.isStop) (zaz P callT S u b (zew d ns)) s K) 409) 411
  | .skip m=>zaz P callT S u b m pr n0 s K
  | _=>seqV (zaz P callT S u a n.l) (zaz P callT S u b n.r) n.r.isStop pr n0 s K
 | .cond c a b,n,pr,n0,s,K=>optV (zbe s c) (fun v=>optV (asB v) (fun r=>match r.1 with
  | true=>match r.2 with
   | true=>zaz P callT S u a n.l pr n0 s K
   | false=>zaz P callT S u b n.r pr n0 s K
  | false=>.br r.2 (zaz P callT S u a n.l pr n0 s K) (zaz P callT S u b n.r pr n0 s K)) 302) 303
 | .scope c,n,pr,n0,s,K=>zaz P callT S u c n pr n0 s K
 | .block id c,n,pr,n0,s,K=>zaz P callT S u c n pr n0 s fun e s=>match e with
  | .exit i=>match zu i id with
   | true=>K .normal s
   | false=>K (.exit i) s
  | e=>K e s
 | .loop c,n,pr,n0,s,K=>preV n.gs s fun s=>match n.core with
  | .loop X f inner=>optV (f s) (fun la=>fNs (asg c inner) fun as=>loopV la (V.any X la.I) as pr (zaz P callT S u c inner) s K) 408
  | .loopS k X f inner=>optV (f s) (fun la=>fNs (asg c inner) fun as=>loopV la (anyS k la.I) as pr (zaz P callT S u c inner) s K) 408
  | _=>zdh (zaz P callT S u c .nil pr n0) u s K
 | .exit i,_,_,_,s,K=>chkV (!(isStop (.exit i))) (K (.exit i) s) 413
 | .ret,_,_,_,s,K=>K .ret s
 | _,_,_,_,_,_=>.bad 304
def verT(P:Program)(callT:CallT)(S u:Nat)(fn:Func)(gs:List (Nat×G))(av:AV)(args:List SV)(H:Hp)(K:SV->Hp->V):V:=
 optV fn.body (fun code=>chkV (mkAT gs code av).1.pure (zaz P callT S u code (mkAT gs code av).1 (fun k=>Nat.blt k H.nxt) H.nxt ⟨args.map some++List.replicate (fn.ntmps-args.length) none,H⟩ fun e s=>match e with
  | .exit _=>.bad 308
  | _=>preV (gsAt 1000000 gs) s fun s=>((resL P s fn.results.toList).bind packT).toV fun sv=>fGc H.nxt sv s.H.h fun h=>K sv ⟨h,s.H.nxt,s.H.D⟩) 412) 309
def Kp(as:List Nat)(s s':St):Prop:=∀t sv,t∉as->s'.tmps[t]?=some (some sv)->s.tmps[t]?=some (some sv)
theorem Kp.refl(as:List Nat)(s:St):Kp as s s:=fun _ _ _ h=>h
theorem Kp.trans{as bs:List Nat}{a b c:St}(h:Kp as a b)(g:Kp bs b c):Kp (as++bs) a c:=fun t sv ht hc=>by
 rw[List.mem_append,not_or]at ht
 exact h t sv ht.1 (g t sv ht.2 hc)
theorem Kp.mono{as bs:List Nat}{a b:St}(h:Kp as a b)(hs:∀t,t∈as->t∈bs):Kp bs a b:=fun t sv ht hc=>h t sv (fun h'=>ht (hs t h')) hc
theorem Kp.put(s:St)(d:Option Tmp)(v:SV)(H:Hp):Kp d.toList s (s.put d v H):=fun t sv ht hc=>by
 cases d with
 | none=>exact hc
 | some d=>
  simp only[Option.toList,List.mem_singleton]at ht
  simp only[St.put,List.getElem?_set]at hc
  rwa [if_neg (fun e=>ht e.symm)]at hc
theorem dstsO_cons(o:Oper)(l:List Oper):dstsO (o::l)=o.dst.toList++dstsO l:=by
 simp only[dstsO]
 cases o.dst<;>rfl
theorem zeq{P:Program}{callT:CallT}{ops:List Oper}:∀(l:List Oper) (s:St) {K:St->Prop},(zdl P callT ops l s).holds K->(zdl P callT ops l s).holds fun s'=>K s'/\Kp (dstsO l) s s'
 | [],s,K,h=>⟨h,.refl _ _⟩
 | o::rest,s,K,h=>by
  rw[runOps_cons,Out.holds_bind]at h ⊢
  rw[dstsO_cons]
  refine Out.holds_mono _ (fun b hb=>?_) h
  cases b with
  | true=>
   simp only[Out.holds_bind]at hb ⊢
   refine Out.holds_mono _ (fun r hr=>?_) hb
   refine Out.holds_mono _ (fun r hr=>?_) hr
   exact Out.holds_mono _ (fun s' hs=>⟨hs.1,(Kp.put s o.dst _ _).trans hs.2⟩) (zeq rest _ hr)
  | false=>exact Out.holds_mono _ (fun s' hs=>⟨hs.1,(Kp.put s o.dst _ _).trans hs.2⟩) (zeq rest _ hb)
theorem vtL_keep{anc:Nat->Nat->Bool}{k:Nat}:∀(os:List Oper) (l:List Lf) (j:Nat) (tm:List (Option SV)) {t:Nat},t∉dstsO os->(vtL anc k l os j tm)[t]?=tm[t]?
 | [],l,j,tm,t,h=>by cases l<;>rfl
 | o::os,l,j,tm,t,h=>by
  rw[dstsO_cons,List.mem_append,not_or]at h
  unfold vtL
  rw[vtL_keep os _ _ _ h.2]
  cases hd:o.dst with
  | none=>rfl
  | some d=>
   have hne:d≠t:=by
    have:=h.1
    rw[hd]at this
    simpa [eq_comm]using this
   simp only
   cases anc k j<;>cases anc j k<;>simp[List.getElem?_set_ne hne]
theorem zec{β:Type}{b:Bool}{k:Out β}{n:Nat}{K K':β->Prop}(h:(chk b k n).holds K)(hk:k.holds K->k.holds K'):(chk b k n).holds K':=by
 obtain⟨rfl,h⟩:=zaf h
 exact hk h
theorem zbb{α β:Type}{o:Option α}{k:α->Out β}{n:Nat}{K K':β->Prop}(h:(opt o k n).holds K)(hk:∀x,(k x).holds K->(k x).holds K'):(opt o k n).holds K':=by
 obtain⟨x,rfl,h⟩:=zaa h
 exact hk x h
theorem drawT_keep{P:Program}{callT:CallT}{S:Nat}{ops:List Oper}{s:St}{K:St->Prop}(h:(drawT P callT S ops s).holds K):(drawT P callT S ops s).holds fun s'=>K s'/\Kp (dstsO ops) s s':=by
 unfold drawT at h ⊢
 rw[fNs_eq]at h ⊢
 refine zec h fun h=>?_
 rw[Out.holds_bind]at h ⊢
 refine Out.holds_mono _ (fun l hl=>?_) h
 refine zec hl fun q2=>?_
 refine keepX_m q2 fun q2=>?_
 simp only[vtK_eq ops.length ops l 0,fHL_eq,fN_eq]at q2 ⊢
 refine⟨q2,fun t sv ht hc=>?_⟩
 rw[<-vtL_keep (anc:=fun _ _=>true) (k:=ops.length) ops l 0 s.tmps ht]
 exact hc
theorem G.keep(g:G)(s:St){K:St->Prop}(h:(g.run s).holds K):(g.run s).holds fun s'=>K s'/\Kp g.asg s s':=by
 cases g with
 | newFam t cols=>exact⟨h,.refl _ _⟩
 | ren kf=>
  simp only[G.run,renG,fN_eq,fHL_eq]at h ⊢
  split at h
  ·exact⟨h,.refl _ _⟩
  ·exact h.elim
 | rowO kf=>
  simp only[G.run,rowOG,fN_eq,fHL_eq]at h ⊢
  split at h
  ·exact zbb h fun l h=>zec h fun h=>⟨h,.refl _ _⟩
  ·exact h.elim
 | forget ks=>simp only[G.run,forgetG,fNs_eq,fHL_eq]at h ⊢;exact⟨h,.refl _ _⟩
 | nilTmp i el sz cols=>
  simp only[G.run,zek]at h ⊢
  split at h
  ·refine⟨h,fun t sv ht hc=>?_⟩
   simp only[G.asg,List.mem_singleton]at ht
   simp only[List.getElem?_set]at hc
   rwa [if_neg (fun e=>ht e.symm)]at hc
  ·exact h.elim
 | nilEl kb f el sz cols=>
  simp only[G.run,nilElG,fN_eq]at h ⊢
  split at h
  ·split at h
   ·exact⟨h,.refl _ _⟩
   ·exact⟨h,.refl _ _⟩
  ·exact⟨h,.refl _ _⟩
 | renT i=>
  simp only[G.run,renTG,fN_eq,fHL_eq]at h ⊢
  split at h
  ·refine⟨h,fun t sv ht hc=>?_⟩
   simp only[G.asg,List.mem_singleton]at ht
   simp only[List.getElem?_set]at hc
   rwa [if_neg (fun e=>ht e.symm)]at hc
  ·exact h.elim
 | nilCell key f el sz cols=>
  simp only[G.run,zeb]at h ⊢
  split at h
  ·split at h
   ·exact⟨h,.refl _ _⟩
   ·exact h.elim
  ·exact h.elim
 | nilCol key f el sz cols=>
  simp only[G.run,nilColG]at h ⊢
  split at h
  ·split at h
   ·exact⟨h,.refl _ _⟩
   ·exact h.elim
  ·exact h.elim
 | join kb f=>
  simp only[G.run,joinG,fN_eq]at h ⊢
  refine zbb h fun b hb=>zbb hb fun col hcol=>zbb hcol fun q hq=>?_
  obtain⟨F,k2,i0,e0,ix,col'⟩:=q
  simp only at hq ⊢
  refine zbb hq fun b2 hb2=>?_
  split at hb2
  ·refine zec hb2 fun h3=>zbb h3 fun cols h4=>?_
   exact⟨h4.1,h4.2,.refl _ _⟩
  ·exact hb2.elim
 | joinIf kb f=>
  simp only[G.run,joinIfG,fN_eq]at h ⊢
  split at h
  ·simp only[joinG,fN_eq]at h ⊢
   refine zbb h fun b hb=>zbb hb fun col hcol=>zbb hcol fun q hq=>?_
   obtain⟨F,k2,i0,e0,ix,col'⟩:=q
   simp only at hq ⊢
   refine zbb hq fun b2 hb2=>?_
   split at hb2
   ·refine zec hb2 fun h3=>zbb h3 fun cols h4=>?_
    exact⟨h4.1,h4.2,.refl _ _⟩
   ·exact hb2.elim
  ·exact⟨h,.refl _ _⟩
 | joinLt kb f=>
  simp only[G.run,joinLtG,fN_eq]at h ⊢
  refine zbb h fun b hb=>zbb hb fun col hcol=>zbb hcol fun q hq=>?_
  obtain⟨F,k2,i0,e0,m,ix,col'⟩:=q
  simp only at hq ⊢
  refine zbb hq fun b2 hb2=>?_
  split at hb2
  ·refine zec hb2 fun h3=>zbb h3 fun cols h4=>?_
   exact⟨h4.1,h4.2,.refl _ _⟩
  ·exact hb2.elim
 | nilTmpO i el sz cols=>
  simp only[G.run,zgm]at h ⊢
  split at h
  ·simp only[zek]at h ⊢
   split at h
   ·refine⟨h,fun t sv ht hc=>?_⟩
    simp only[G.asg,List.mem_singleton]at ht
    simp only[List.getElem?_set]at hc
    rwa [if_neg (fun e=>ht e.symm)]at hc
   ·exact h.elim
  ·exact⟨h,fun _ _ _ hc=>hc⟩
 | cases i l=>
  simp only[G.run]at h ⊢
  have key:∀l:List Int,(casesG i l s).holds K->(casesG i l s).holds fun s'=>K s'/\Kp (G.cases i l).asg s s':=by
   intro l
   induction l with
   | nil=>exact fun h=>h.elim
   | cons v l ih=>
    intro h
    unfold casesG at h ⊢
    split at h
    ·refine⟨fun hb=>⟨h.1 hb,fun t sv ht hc=>?_⟩,fun hb=>ih (h.2 hb)⟩
     simp only[G.asg,List.mem_singleton]at ht
     simp only[List.getElem?_set]at hc
     rwa [if_neg (fun e=>ht e.symm)]at hc
    ·exact⟨h,fun _ _ _ hc=>hc⟩
    ·exact h.elim
  exact key l h
theorem zdx:∀(gs:List G) (s:St) {K K':St->V},(∀s',Kp (gsAsg gs) s s'->(K s').holds->(K' s').holds)->(preV gs s K).holds->(preV gs s K').holds
 | [],s,K,K',hk,h=>hk s (.refl _ _) h
 | g::gs,s,K,K',hk,h=>by
  simp only[preV]at h ⊢
  refine Out.holds_toV (Out.holds_mono _ (fun s1 h1=>?_) (g.keep s (Out.toV_h h)))
  exact zdx gs s1 (fun s' hs hh=>hk s' (h1.2.trans hs) hh) h1.1
theorem plV_mono{o:Option PL}{k k':V}{n:Nat}(h:(plV o k n).holds)(hk:k.holds->k'.holds):(plV o k' n).holds:=by
 obtain⟨l,rfl,hl,h⟩:=plV_h h
 exact V.holds_needs hl (hk h)
theorem zbq{b:Bool}{k k':V}{n:Nat}(h:(chkV b k n).holds)(hk:b=true->k.holds->k'.holds):(chkV b k' n).holds:=by
 obtain⟨rfl,h⟩:=zb3 h
 exact hk rfl h
theorem zcg{α:Type}{o:Option α}{k k':α->V}{n:Nat}(h:(optV o k n).holds)(hk:∀x,o=some x->(k x).holds->(k' x).holds):(optV o k' n).holds:=by
 obtain⟨x,rfl,h⟩:=zc1 h
 exact hk x rfl h
theorem zbi{as bad:List Nat}:∀ {l:List (Option SV)} {i t:Nat} {sv:SV},(zbr as bad i l)[t]?=some (some sv)->l[t]?=some (some sv)/\i+t∉as/\∀k∈sv.allKeys,k∉bad
 | [],i,t,sv,h=>by simp[zbr]at h
 | none::l,i,0,sv,h=>by simp[zbr]at h
 | some v::l,i,0,sv,h=>by
  simp only[zbr,List.getElem?_cons_zero,Option.some.injEq]at h
  split at h
  ·cases h
  ·rename_i hm
   split at h
   ·cases h
   ·rename_i hb
    cases h
    refine⟨rfl,?_,fun k hk hkb=>?_⟩
    ·rw[Nat.add_zero];intro hi;rw[zau.2 hi]at hm;cases hm
    ·have:(v.allKeys.any (mem · bad))=true:=List.any_eq_true.2 ⟨k,hk,zau.2 hkb⟩
     rw[this]at hb;cases hb
 | none::l,i,t+1,sv,h=>by
  simp only[zbr,List.getElem?_cons_succ]at h
  obtain⟨h1,h2,h3⟩:=zbi h
  exact⟨by simpa using h1,by rwa [show i+(t+1)=i+1+t by omega],h3⟩
 | some v::l,i,t+1,sv,h=>by
  simp only[zbr,List.getElem?_cons_succ]at h
  obtain⟨h1,h2,h3⟩:=zbi h
  exact⟨by simpa using h1,by rwa [show i+(t+1)=i+1+t by omega],h3⟩
theorem zcw{as bad:List Nat}:∀ {l:List (Option SV)} {i:Nat},(zbr as bad i l).length=l.length
 | [],i=>rfl
 | none::l,i=>by simp[zbr,zcw (l:=l)]
 | some v::l,i=>by simp[zbr,zcw (l:=l)]
theorem zfw:∀ {is:List Nat} {vs:List SV} {t:List (Option SV)} {j:Nat} {sv:SV},(zeh t is vs)[j]?=some (some sv)->(∃m:Nat,is[m]?=some j/\vs[m]?=some sv)\/(t[j]?=some (some sv))
 | [],vs,t,j,sv,h=>.inr (by cases vs<;>exact h)
 | i::is,[],t,j,sv,h=>.inr h
 | i::is,v::vs,t,j,sv,h=>by
  simp only[zeh]at h
  rcases zfw h with⟨m,h1,h2⟩|h'
  ·exact .inl ⟨m+1,by simpa using h1,by simpa using h2⟩
  ·clear h
   have h:=h'
   clear h'
   rw[List.getElem?_set]at h
   split at h
   ·rename_i e;subst e
    by_cases hl:i<t.length
    ·rw[if_pos hl]at h;cases h;exact .inl ⟨0,rfl,rfl⟩
    ·rw[if_neg hl]at h;cases h
   ·exact .inr h
theorem zcc:∀ {is:List Nat} {vs:List SV} {t:List (Option SV)} {j:Nat},j∉is->(zeh t is vs)[j]?=t[j]?
 | [],vs,t,j,h=>by cases vs<;>rfl
 | i::is,[],t,j,h=>rfl
 | i::is,v::vs,t,j,h=>by
  simp only[zeh]
  simp only[List.mem_cons,not_or]at h
  rw[zcc h.2,List.getElem?_set_ne (fun e=>h.1 e.symm)]
theorem zdf:∀ {is:List Nat} {vs:List SV} {t:List (Option SV)},(zeh t is vs).length=t.length
 | [],vs,t=>by cases vs<;>rfl
 | i::is,[],t=>rfl
 | i::is,v::vs,t=>by simp only[zeh];rw[zdf];simp
theorem loopV_keep{X:Type}{la:LA X}{q:(X->V)->V}(hq:QOK la.I q){as:List Nat}{pr:Nat->Bool}{body:(Nat->Bool)->Nat->St->(Ex->St->V)->V}{s:St}{K K':Ex->St->V}
  (hb:∀pr n0 s K K',(∀e s',Kp as s s'->(K e s').holds->(K' e s').holds)->(body pr n0 s K).holds->(body pr n0 s K').holds)
  (hk:∀e s',Kp as s s'->(K e s').holds->(K' e s').holds) (h:(loopV la q as pr body s K).holds):(loopV la q as pr body s K').holds:=by
 unfold loopV at h ⊢
 simp only[fNs_eq,fHL_eq,fTm_eq,fSt_eq]at h ⊢
 refine zbq h fun hc h=>zcg h fun x0 _ h=>⟨h.1,?_⟩
 simp only[zx,List.all_eq_true]at hc
 have htm:∀i∈la.tm,i∈as:=fun i hi=>zau.1 (hc.2.2.2.2.1 i hi)
 refine plV_mono h.2 fun h=>hq.mono _ _ (fun x hx h=>zbq h fun _ h=>hb _ _ _ _ _ (fun e s1 hs h=>?_) h) h
 have kp:Kp as s ⟨s1.tmps,⟨zba (zaw ((za7 (la.paths.map fun p=>p.1 s) (badL la.paths (la.paths.map fun p=>p.1 s)) s.H.h).map (·.1)) s1.H.h)++za7 (la.paths.map fun p=>p.1 s) (badL la.paths (la.paths.map fun p=>p.1 s)) s.H.h,s1.H.nxt,s1.H.D⟩⟩:=fun t sv ht hc=>by
  have h1:=hs t sv ht hc
  simp only[jSt]at h1
  rw[zcc (fun hi=>ht (htm t hi))]at h1
  exact(zbi h1).1
 cases e with
 | normal=>exact h
 | exit i=>exact zbq h fun _ h=>hk _ _ kp h
 | ret=>exact zbq h fun _ h=>hk _ _ kp h
theorem cutV_keep{X:Type}{la:LA X}{q:(X->V)->V}(hq:QOK la.I q){as:List Nat}{pr:Nat->Bool}{ba bb:(Nat->Bool)->Nat->St->(Ex->St->V)->V}{s:St}{K K':Ex->St->V}
  (ha:∀pr n0 s K K',(∀e s',Kp as s s'->(K e s').holds->(K' e s').holds)->(ba pr n0 s K).holds->(ba pr n0 s K').holds)
  (hb:∀pr n0 s K K',(∀e s',Kp as s s'->(K e s').holds->(K' e s').holds)->(bb pr n0 s K).holds->(bb pr n0 s K').holds)
  (hk:∀e s',Kp as s s'->(K e s').holds->(K' e s').holds) (h:(cutV la q as pr ba bb s K).holds):(cutV la q as pr ba bb s K').holds:=by
 unfold cutV at h ⊢
 simp only[fNs_eq,fHL_eq,fTm_eq,fSt_eq]at h ⊢
 refine zbq h fun hc h=>zcg h fun x0 _ h=>?_
 simp only[zx,List.all_eq_true]at hc
 have htm:∀i∈la.tm,i∈as:=fun i hi=>zau.1 (hc.2.2.2.2.1 i hi)
 have kp:∀ {e:Ex} {s1:St} {x:X},Kp as (jSt (zbr as (badL la.paths (la.paths.map fun p=>p.1 s)) 0 s.tmps) (zca (za7 (la.paths.map fun p=>p.1 s) (badL la.paths (la.paths.map fun p=>p.1 s)) s.H.h)) s.H.nxt (la.paths.map fun p=>p.1 s) la.tm (la.blk x) (la.tv x)) s1->
   (exitV (za7 (la.paths.map fun p=>p.1 s) (badL la.paths (la.paths.map fun p=>p.1 s)) s.H.h) K e s1).holds->(exitV (za7 (la.paths.map fun p=>p.1 s) (badL la.paths (la.paths.map fun p=>p.1 s)) s.H.h) K' e s1).holds:=fun {e s1 x} hs h=>by
  unfold exitV at h ⊢
  simp only[fHL_eq]at h ⊢
  refine zbq h fun _ h=>hk _ _ (fun t sv ht hc=>?_) h
  have h1:=hs t sv ht hc
  simp only[jSt]at h1
  rw[zcc (fun hi=>ht (htm t hi))]at h1
  exact(zbi h1).1
 refine plV_mono h fun h=>zbq h fun _ h=>both_mono (fun h=>ha _ _ _ _ _ (fun e s1 hs h=>?_) h) (fun h=>hq.mono _ _ (fun x hx h=>zbq h fun _ h=>hb _ _ _ _ _ (fun e s1 hs h=>kp hs h) h) h) h
 revert h
 cases isStop e with
 | true=>exact id
 | false=>exact fun h=>kp hs h
theorem seqV_keep{as1 as2:List Nat}{A B:(Nat->Bool)->Nat->St->(Ex->St->V)->V}{st:Bool}
  (ha:∀pr n0 s K K',(∀e s',Kp as1 s s'->(K e s').holds->(K' e s').holds)->(A pr n0 s K).holds->(A pr n0 s K').holds)
  (hb:∀pr n0 s K K',(∀e s',Kp as2 s s'->(K e s').holds->(K' e s').holds)->(B pr n0 s K).holds->(B pr n0 s K').holds)
  (pr:Nat->Bool) (n0:Nat) (s:St) (K K':Ex->St->V) (hk:∀e s',Kp (as1++as2) s s'->(K e s').holds->(K' e s').holds) (h:(seqV A B st pr n0 s K).holds):(seqV A B st pr n0 s K').holds:=by
 unfold seqV at h ⊢
 refine ha _ _ _ _ _ (fun e s1 h1 h=>?_) h
 cases e with
 | normal=>
  cases st with
  | true=>exact hk _ _ (h1.mono fun t ht=>List.mem_append.2 (.inl ht)) h
  | false=>exact hb _ _ _ _ _ (fun e s2 h2 h=>hk e s2 (h1.trans h2) h) h
 | exit i=>exact hk _ _ (h1.mono fun t ht=>List.mem_append.2 (.inl ht)) h
 | ret=>exact hk _ _ (h1.mono fun t ht=>List.mem_append.2 (.inl ht)) h
theorem zf5{as:List Nat}{body:St->(Ex->St->V)->V}(hb:∀s K K',(∀e s',Kp as s s'->(K e s').holds->(K' e s').holds)->(body s K).holds->(body s K').holds):
  ∀(u:Nat) (s:St) (K K':Ex->St->V),(∀e s',Kp as s s'->(K e s').holds->(K' e s').holds)->(zdh body u s K).holds->(zdh body u s K').holds
 | 0,s,K,K',hk,h=>h.elim
 | u+1,s,K,K',hk,h=>by
  simp only[zdh]at h ⊢
  refine hb s _ _ (fun e s1 hs h=>?_) h
  cases e with
  | normal=>exact zf5 hb u s1 K K' (fun e s' h' hh=>hk e s' ((hs.trans h').mono fun t ht=>(List.mem_append.1 ht).elim id id) hh) h
  | exit i=>exact hk _ _ hs h
  | ret=>exact hk _ _ hs h
theorem zf1{P:Program}{callT:CallT}{S u:Nat}:∀(c:Code) (n:AT) (pr:Nat->Bool) (n0:Nat) (s:St) (K K':Ex->St->V),(∀e s',Kp (asg c n) s s'->(K e s').holds->(K' e s').holds)->
  (zaz P callT S u c n pr n0 s K).holds->(zaz P callT S u c n pr n0 s K').holds:=by
 intro c
 induction c with
 | skip=>intro n pr n0 s K K' hk h;exact hk _ _ (.refl _ _) h
 | label l=>intro n pr n0 s K K' hk h;exact hk _ _ (.refl _ _) h
 | exit i=>intro n pr n0 s K K' hk h;exact zbq h fun _ h=>hk _ _ (.refl _ _) h
 | ret=>intro n pr n0 s K K' hk h;exact hk _ _ (.refl _ _) h
 | region id ops draw=>
  intro n pr n0 s K K' hk h
  simp only[zaz]at h ⊢
  refine zdx n.gs s (fun s1 h1 h=>?_) h
  cases draw with
  | true=>exact Out.holds_toV (Out.holds_mono _ (fun s2 h2=>zdx n.core.gs s2 (fun s3 h3 h=>hk _ _ ((h1.trans h2.2).trans h3) h) h2.1) (drawT_keep (Out.toV_h h)))
  | false=>exact Out.holds_toV (Out.holds_mono _ (fun s2 h2=>zdx n.core.gs s2 (fun s3 h3 h=>hk _ _ ((h1.trans h2.2).trans h3) h) h2.1) (zeq _ _ (Out.toV_h h)))
 | seq x y ihx ihy=>
  intro n pr n0 s K K' hk h
  have gen:∀m:AT,(∀e s',Kp (asg x m.l++asg y m.r) s s'->(K e s').holds->(K' e s').holds)->(seqV (zaz P callT S u x m.l) (zaz P callT S u y m.r) m.r.isStop pr n0 s K).holds->(seqV (zaz P callT S u x m.l) (zaz P callT S u y m.r) m.r.isStop pr n0 s K').holds:=fun m hk h=>
   seqV_keep (ihx _) (ihy _) pr n0 s K K' hk h
  cases n with
  | cut d X f np ns=>
   simp only[asg]at hk
   simp only[zaz]at h ⊢
   refine zbq h fun _ h=>zcg h fun la _ h=>?_
   rw[fNs_eq]at h ⊢
   exact cutV_keep (qAny _) (fun pr n0 s K K' hk h=>seqV_keep (ihx _) (ihy _) pr n0 s K K' (fun e s' hs hh=>hk e s' (hs.mono fun t ht=>List.mem_append.2 (.inl ht)) hh) h) (fun pr n0 s K K' hk h=>ihy _ _ _ _ _ _ (fun e s' hs hh=>hk e s' (hs.mono fun t ht=>List.mem_append.2 (.inr ht)) hh) h) hk h
  | cutS d k X f np ns=>
   simp only[asg]at hk
   simp only[zaz]at h ⊢
   refine zbq h fun _ h=>zcg h fun la _ h=>?_
   rw[fNs_eq]at h ⊢
   exact cutV_keep (qAnyC _ _) (fun pr n0 s K K' hk h=>seqV_keep (ihx _) (ihy _) pr n0 s K K' (fun e s' hs hh=>hk e s' (hs.mono fun t ht=>List.mem_append.2 (.inl ht)) hh) h) (fun pr n0 s K K' hk h=>ihy _ _ _ _ _ _ (fun e s' hs hh=>hk e s' (hs.mono fun t ht=>List.mem_append.2 (.inr ht)) hh) h) hk h
  | skip m=>exact ihy m pr n0 s K K' hk h
  | nil=>exact gen _ hk h
  | two a b=>exact gen _ hk h
  | pre g m=>exact gen _ hk h
  | loop X f i=>exact gen _ hk h
  | loopS k X f i=>exact gen _ hk h
  | stop=>exact gen _ hk h
 | cond c x y ihx ihy=>
  intro n pr n0 s K K' hk h
  simp only[zaz]at h ⊢
  have g1:∀ {s},(zaz P callT S u x n.l pr n0 s K).holds->(∀e s',Kp (asg x n.l) s s'->(K e s').holds->(K' e s').holds)->(zaz P callT S u x n.l pr n0 s K').holds:=fun h hk=>ihx _ _ _ _ _ _ hk h
  have k1:∀e s',Kp (asg x n.l) s s'->(K e s').holds->(K' e s').holds:=fun e s' hs=>hk e s' (hs.mono fun t ht=>List.mem_append.2 (.inl ht))
  have k2:∀e s',Kp (asg y n.r) s s'->(K e s').holds->(K' e s').holds:=fun e s' hs=>hk e s' (hs.mono fun t ht=>List.mem_append.2 (.inr ht))
  refine zcg h fun v _ h=>zcg h fun r _ h=>?_
  obtain⟨kn,b⟩:=r
  cases kn with
  | true=>
   cases b with
   | true=>exact ihx _ _ _ _ _ _ k1 h
   | false=>exact ihy _ _ _ _ _ _ k2 h
  | false=>exact⟨fun hb=>ihx _ _ _ _ _ _ k1 (h.1 hb),fun hb=>ihy _ _ _ _ _ _ k2 (h.2 hb)⟩
 | block id c ih=>
  intro n pr n0 s K K' hk h
  simp only[zaz]at h ⊢
  refine ih _ _ _ _ _ _ (fun e s1 h1 h=>?_) h
  cases e with
  | normal=>exact hk _ _ h1 h
  | ret=>exact hk _ _ h1 h
  | exit i=>
   simp only at h ⊢
   split at h
   ·exact hk _ _ h1 h
   ·exact hk _ _ h1 h
 | loop c ih=>
  intro n pr n0 s K K' hk h
  simp only[zaz]at h ⊢
  refine zdx n.gs s (fun s1 h1 h=>?_) h
  simp only[asg]at hk
  split at h
  ·rename_i X f inner hn
   rw[hn]at hk
   simp only[AT.inner]at hk
   refine zcg h fun la _ h=>?_
   rw[fNs_eq]at h ⊢
   exact loopV_keep (qAny _) (fun pr n0 s K K' hk h=>ih _ _ _ _ _ _ hk h) (fun e s' hs hh=>hk e s' (h1.trans hs) hh) h
  ·rename_i k X f inner hn
   rw[hn]at hk
   simp only[AT.inner]at hk
   refine zcg h fun la _ h=>?_
   rw[fNs_eq]at h ⊢
   exact loopV_keep (qAnyS _ _) (fun pr n0 s K K' hk h=>ih _ _ _ _ _ _ hk h) (fun e s' hs hh=>hk e s' (h1.trans hs) hh) h
  ·rename_i hn hn2
   have e:n.core.inner=.nil:=by
    unfold AT.inner
    split
    ·rename_i X f inner hx;exact(hn X f inner hx).elim
    ·rename_i k X f inner hx;exact(hn2 k X f inner hx).elim
    ·rfl
   rw[e]at hk
   refine zf5 (as:=asg c .nil) (fun s K K' hk h=>ih _ _ _ _ _ _ hk h) u s1 K K' (fun e s' hs hh=>hk e s' (h1.trans hs) hh) h
 | rangeFunc=>intro n pr n0 s K K' hk h;exact h.elim
 | scope c ih=>intro n pr n0 s K K' hk h;exact ih _ _ _ _ _ _ hk h
 | goto=>intro n pr n0 s K K' hk h;exact h.elim
 | refuse=>intro n pr n0 s K K' hk h;exact h.elim
theorem zdj:∀ {L M:List Nat} {k:Nat},k∉L->tauM L M k=k
 | [],M,k,h=>by cases M<;>rfl
 | a::L,[],k,h=>rfl
 | a::L,b::M,k,h=>by
  simp only[List.mem_cons,not_or]at h
  have:zu k a=false:=by
   cases hb:zu k a with
   | false=>rfl
   | true=>exact absurd (zq hb) h.1
  simp only[tauM,this]
  exact zdj h.2
theorem zev:∀ {L M:List Nat} {j k m:Nat},za5 L=true->L[j]?=some k->M[j]?=some m->tauM L M k=m
 | [],M,j,k,m,_,h,_=>by simp at h
 | a::L,[],j,k,m,_,_,h=>by simp at h
 | a::L,b::M,0,k,m,_,h1,h2=>by
  simp at h1 h2;subst h1 h2
  simp[tauM]
 | a::L,b::M,j+1,k,m,hn,h1,h2=>by
  simp only[za5,zx,z7]at hn
  have h1':L[j]?=some k:=by simpa using h1
  have hne:zu k a=false:=by
   cases hb:zu k a with
   | false=>rfl
   | true=>
    have:=zq hb
    subst this
    rw[zau.2 (List.mem_of_getElem? h1')]at hn
    cases hn.1
  simp only[tauM,hne]
  exact zev hn.2 h1' (by simpa using h2)
theorem zgi{X:Type}:∀ {ps:List (X×Bool)} {L M:List Nat},fixB ps L M=true->L.length=M.length/\L.length=ps.length
 | [],[],[],_=>⟨rfl,rfl⟩
 | (_,true)::ps,a::L,b::M,h=>by
  simp only[fixB,zx]at h
  obtain⟨h1,h2⟩:=zgi h.2
  exact⟨by simp[h1],by simp[h2]⟩
 | (_,false)::ps,a::L,b::M,h=>by
  simp only[fixB]at h
  obtain⟨h1,h2⟩:=zgi h
  exact⟨by simp[h1],by simp[h2]⟩
 | [],[],_::_,h=>by simp[fixB]at h
 | [],_::_,_,h=>by simp[fixB]at h
 | (_,true)::_,[],_,h=>by simp[fixB]at h
 | (_,false)::_,[],_,h=>by simp[fixB]at h
 | (_,true)::_,_::_,[],h=>by simp[fixB]at h
 | (_,false)::_,_::_,[],h=>by simp[fixB]at h
theorem fixB_at{X:Type}:∀ {ps:List (X×Bool)} {L M:List Nat},fixB ps L M=true->∀(j k:Nat),L[j]?=some k->(M[j]?=some k)\/k∈badL ps L
 | [],[],[],_,j,k,h=>by simp at h
 | (_,true)::ps,a::L,b::M,h,0,k,hk=>by
  simp only[fixB,zx]at h
  simp at hk;subst hk
  rw[<-zq h.1];exact .inl rfl
 | (_,true)::ps,a::L,b::M,h,j+1,k,hk=>by
  simp only[fixB,zx]at h
  have:=fixB_at h.2 j k (by simpa using hk)
  simpa [badL]using this
 | (_,false)::ps,a::L,b::M,h,0,k,hk=>by
  simp at hk;subst hk
  exact .inr (by simp[badL])
 | (_,false)::ps,a::L,b::M,h,j+1,k,hk=>by
  simp only[fixB]at h
  rcases fixB_at h j k (by simpa using hk) with h1|h1
  ·exact .inl (by simpa using h1)
  ·exact .inr (by simp[badL,h1])
 | [],[],_::_,h,_,_,_=>by simp[fixB]at h
 | [],_::_,_,h,_,_,_=>by simp[fixB]at h
 | (_,true)::_,[],_,h,_,_,_=>by simp[fixB]at h
 | (_,false)::_,[],_,h,_,_,_=>by simp[fixB]at h
 | (_,true)::_,_::_,[],h,_,_,_=>by simp[fixB]at h
 | (_,false)::_,_::_,[],h,_,_,_=>by simp[fixB]at h
theorem tauM_inj{L M:List Nat}(h1:za5 L=true)(h2:za5 M=true)(hl:L.length=M.length){k k':Nat}(hk:k∈L)(hk':k'∈L)(e:tauM L M k=tauM L M k'):k=k':=by
 obtain⟨j,hj⟩:=List.mem_iff_getElem?.1 hk
 obtain⟨j',hj'⟩:=List.mem_iff_getElem?.1 hk'
 have lt:=(List.getElem?_eq_some_iff.1 hj).1
 have lt':=(List.getElem?_eq_some_iff.1 hj').1
 have a:=zev h1 hj (List.getElem?_eq_getElem (show j<M.length by omega))
 have a':=zev h1 hj' (List.getElem?_eq_getElem (show j'<M.length by omega))
 rw[e]at a
 have:j=j':=zgl h2 j j' _ (List.getElem?_eq_getElem (by omega)) (by rw[List.getElem?_eq_getElem (by omega),<-a',<-a])
 subst this
 rw[hj]at hj';cases hj';rfl
theorem find_zipK{k:Nat}{b:Blk}:∀ {L:List Nat} {bs:List Blk},find k (zipK L bs)=some b->∃j:Nat,L[j]?=some k/\bs[j]?=some b
 | [],bs,h=>by cases bs<;>simp[zipK,find]at h
 | a::L,[],h=>by simp[zipK,find]at h
 | a::L,c::bs,h=>by
  simp only[zipK]at h
  rw[zag]at h
  split at h
  ·rename_i e;subst e;cases h;exact⟨0,rfl,rfl⟩
  ·obtain⟨j,h1,h2⟩:=find_zipK h
   exact⟨j+1,by simpa using h1,by simpa using h2⟩
theorem zfp{k:Nat}{b:Blk}:∀ {h:HL},za5 (h.map (·.1))=true->(k,b)∈h->find k h=some b
 | [],_,h=>by simp at h
 | (k',b')::r,hn,h=>by
  simp only[List.map_cons,za5,zx,z7]at hn
  rw[zag]
  rcases List.mem_cons.1 h with e|h'
  ·cases e;rw[if_pos rfl]
  ·rw[if_neg]
   ·exact zfp hn.2 h'
   ·rintro rfl
    have:k∈r.map (·.1):=List.mem_map.2 ⟨(k,b),h',rfl⟩
    rw[zau.2 this]at hn
    cases hn.1
theorem find_in{k:Nat}{b:Blk}:∀ {h:HL},find k h=some b->(k,b)∈h
 | [],h=>by simp[find]at h
 | (k',b')::r,h=>by
  rw[zag]at h
  split at h
  ·rename_i e;cases h;subst e;exact List.mem_cons_self
  ·exact List.mem_cons_of_mem _ (find_in h)
theorem zdu{L0 bad:List Nat}{k:Nat}{b:Blk}:∀ {h:HL},(k,b)∈za7 L0 bad h->(k,b)∈h/\k∉L0/\∀j∈b.keys,j∉bad
 | [],h=>by simp[za7]at h
 | (k',b')::r,h=>by
  simp only[za7]at h
  split at h
  ·obtain⟨h1,h2⟩:=zdu h
   exact⟨List.mem_cons_of_mem _ h1,h2⟩
  ·rename_i hm
   split at h
   ·obtain⟨h1,h2⟩:=zdu h
    exact⟨List.mem_cons_of_mem _ h1,h2⟩
   ·rename_i hb
    rcases List.mem_cons.1 h with e|h
    ·cases e
     refine⟨List.mem_cons_self,fun hk=>?_,fun j hj hjb=>?_⟩
     ·rw[zau.2 hk]at hm;cases hm
     ·have:(b.keys.any (mem · bad))=true:=List.any_eq_true.2 ⟨j,hj,zau.2 hjb⟩
      rw[this]at hb;cases hb
    ·obtain⟨h1,h2⟩:=zdu h
     exact⟨List.mem_cons_of_mem _ h1,h2⟩
theorem roAll_mem{k:Nat}{b:Blk}:∀ {h:HL},(k,b)∈zca h->∃b0,(k,b0)∈h/\b=b0.ro
 | [],h=>by simp[zca]at h
 | (k',b')::r,h=>by
  simp only[zca]at h
  rcases List.mem_cons.1 h with e|h
  ·cases e;exact⟨b',List.mem_cons_self,rfl⟩
  ·obtain⟨b0,h1,h2⟩:=roAll_mem h
   exact⟨b0,List.mem_cons_of_mem _ h1,h2⟩
theorem ro_keys{b:Blk}:∀j∈b.ro.keys,j∈b.keys:=by
 intro j hj
 cases b with
 | own t size cs=>
  simp only[Blk.ro,Blk.keys,List.mem_flatMap,List.mem_map]at hj ⊢
  obtain⟨col,⟨oc,h1,rfl⟩,h2⟩:=hj
  refine⟨oc,h1,?_⟩
  cases oc with
  | none=>simp[Col.keys]at h2
  | some c=>simpa [Col.keys]using h2
 | row t cap n cols=>exact hj
 | view m n cols=>exact hj
 | fam rw t cap n cols=>exact hj
theorem Blk.sat_names{n m:Nat->Prop}{ρ ρ':Rho}{k:Nat}{w:World}{b:Blk}(h:b.sat n ρ k w)(hk:∀j∈b.keys,m j/\ρ' j=ρ j)(hk0:ρ' k=ρ k):b.sat m ρ' k w:=by
 have h1:b.sat (fun j=>j∈b.keys\/j=k) ρ k w:=Blk.sat_shrink h fun j hj=>.inl hj
 have h2:b.sat (fun j=>j∈b.keys\/j=k\/m j) ρ' k w:=Blk.sat_ext h1 (fun j hj=>hj.elim (fun hj=>(hk j hj).2) (fun e=>e ▸ hk0)) (fun j hj=>hj.elim .inl fun e=>.inr (.inl e)) (.inr rfl)
 exact Blk.sat_shrink h2 fun j hj=>(hk j hj).1
section
variable {φ:Fr} {ρ:Rho} {s:St} {a:Act} {w:World} {L0 bad:List Nat}
def ownL(ρ:Rho)(h:HL)(L0:List Nat):Nat->Prop:=fun y=>∃k b i o,k∈L0/\find k h=some b/\b.isRow=true/\b.live i/\ρ k i=some (y,o)
theorem rest_find(hnd:za5 (s.H.h.map (·.1))=true){k:Nat}{b:Blk}(h:find k (za7 L0 bad s.H.h)=some b):find k s.H.h=some b/\k∉L0/\∀j∈b.keys,j∉bad:=by
 obtain⟨h1,h2,h3⟩:=zdu (find_in h)
 exact⟨zfp hnd h1,h2,h3⟩
theorem ro_find(hnd:za5 (s.H.h.map (·.1))=true){k:Nat}{b:Blk}(h:find k (zca (za7 L0 bad s.H.h))=some b):∃b0,find k s.H.h=some b0/\b=b0.ro/\k∉L0/\∀j∈b0.keys,j∉bad:=by
 obtain⟨b0,h1,h2⟩:=roAll_mem (find_in h)
 obtain⟨g1,g2,g3⟩:=zdu h1
 exact⟨b0,zfp hnd g1,h2,g2,g3⟩
theorem not_own(hI:HInv φ ρ s.H w){k:Nat}{b:Blk}(hf:find k s.H.h=some b)(hk:k∉L0){i:Nat}(hi:b.live i){y:Nat}{o:Off}(hy:ρ k i=some (y,o)):¬ownL ρ s.H.h L0 y:=by
 rintro⟨k',b',i',o',h1,h2,h3,h4,h5⟩
 exact hI.sep k' b' h2 h3 k b hf (fun e=>hk (e ▸ h1)) i' i h4 hi y o' y o h5 hy rfl
theorem still(hI:HInv φ ρ s.H w){w1:World}(hw:Fr.ok ⟨w,ownL ρ s.H.h L0⟩ w1){k:Nat}{b:Blk}(hf:find k s.H.h=some b)(hk:k∉L0):b.sat s.H.sc ρ k w1:=
 Blk.sat_world (hI.sat k b hf) fun i hi y o hy=>hw.block y (hI.bd k b hf i hi y o hy) (not_own hI hf hk hi hy)
theorem row_le(hI:HInv φ ρ s.H w){k:Nat}{b:Blk}(hf:find k s.H.h=some b):∀t cap n cols,b=.row t cap n cols->n<=cap:=Blk.sat_row_le (hI.sat k b hf)
theorem fit_ok(hI:HInv φ ρ s.H w)(hD:s.H.D=fun _=>True)(hnd:za5 (s.H.h.map (·.1))=true){ρ1:Rho}{s1:St}{a1:Act}{w1:World}(h1:Inv ⟨w,ownL ρ s.H.h L0⟩ ρ1 s1 a1 w1)
  (hag:∀k,k<s.H.nxt->k∉bad->ρ1 k=ρ k) {τ:Nat->Nat} (ht1:∀k,k∉L0->τ k=k) (ht2:∀k,k∉bad->τ k=k) (hinj:∀k k',k∈L0->k'∈L0->τ k=τ k'->k=k') (hbad:∀k∈bad,k∈L0)
  {tm:List (Option SV)} {bs:List Blk} (hlen:tm.length=s1.tmps.length)
  (htm:∀(t:Nat) sv,tm[t]?=some (some sv)->(∃x,s1.tmps[t]?=some (some x)/\leSV x (sv.ren τ))\/(s1.tmps[t]?=some (some sv)/\∀k∈sv.allKeys,k∉bad))
  (hbk:∀(j:Nat) k b,L0[j]?=some k->bs[j]?=some b->∃c,find (τ k) s1.H.h=some c/\zdp c (b.ren τ))
  (hok:stOK ⟨tm,⟨zipK L0 bs++zca (za7 L0 bad s.H.h),s.H.nxt,fun _=>True⟩⟩=true):
  ∃ρ2:Rho,(∀k,k<s.H.nxt->k∉bad->ρ2 k=ρ k)/\Inv ⟨w,ownL ρ s.H.h L0⟩ ρ2 ⟨tm,⟨zipK L0 bs++zca (za7 L0 bad s.H.h),s.H.nxt,fun _=>True⟩⟩ a1 w1:=by
 simp only[stOK,zx]at hok
 obtain⟨k1,k2⟩:=hok
 have hsc:∀k,k<s.H.nxt->Hp.sc ⟨zipK L0 bs++zca (za7 L0 bad s.H.h),s.H.nxt,fun _=>True⟩ k:=fun k hk=>⟨hk,trivial⟩
 have spl:∀k b,find k (zipK L0 bs++zca (za7 L0 bad s.H.h))=some b->(k∈L0/\∃c,find (τ k) s1.H.h=some c/\zdp c (b.ren τ))\/(∃b0,find k s.H.h=some b0/\b=b0.ro/\k∉L0/\∀j∈b0.keys,j∉bad):=by
  intro k b hf
  rw[zct,Option.or_eq_some_iff]at hf
  rcases hf with hf|⟨_,hf⟩
  ·obtain⟨j,g1,g2⟩:=find_zipK hf
   exact .inl ⟨List.mem_of_getElem? g1,hbk j k b g1 g2⟩
  ·exact .inr (ro_find hnd hf)
 have e2:∀k,k<s.H.nxt->k∉bad->ρ1 (τ k)=ρ k:=fun k hk hb=>by rw[ht2 k hb];exact hag k hk hb
 refine⟨fun k=>ρ1 (τ k),e2,⟨⟨h1.heap.fr,fun _ _=>trivial,fun k b hf=>hsc k (zeg k2 k b hf).1,?_,?_,?_,?_⟩,h1.defers,by rw[h1.size,hlen],?_⟩⟩
 ·intro k b hf
  have hkk:=zeg k2 k b hf
  rcases spl k b hf with⟨hk,c,g1,g2⟩|⟨b0,g1,rfl,g3,g4⟩
  ·exact Blk.sat_unrenK (Blk.sat_le g2 (h1.heap.sat _ c g1)) fun j hj=>hsc j (hkk.2 j hj)
  ·refine Blk.sat_names (Blk.ro_sat (still hI h1.heap.fr g1 g3)) (fun j hj=>⟨hsc j (hkk.2 j hj),e2 j (hkk.2 j hj) (g4 j (ro_keys j hj))⟩) ?_
   exact e2 k hkk.1 fun hb=>g3 (hbad k hb)
 ·intro k b hf i hi y o hy
  have hkk:=zeg k2 k b hf
  rcases spl k b hf with⟨hk,c,g1,g2⟩|⟨b0,g1,rfl,g3,g4⟩
  ·exact h1.heap.bd _ c g1 i (zao g2 (by rw[Blk.ren_live];exact hi)) y o hy
  ·have hy':ρ k i=some (y,o):=by rw[<-e2 k hkk.1 fun hb=>g3 (hbad k hb)];exact hy
   exact Nat.lt_of_lt_of_le (hI.bd k b0 g1 i (Blk.ro_live (row_le hI g1) hi) y o hy') h1.heap.fr.size
 ·intro k b hf hr i hi y o hy
  rcases spl k b hf with⟨hk,c,g1,g2⟩|⟨b0,g1,rfl,g3,g4⟩
  ·exact h1.heap.may _ c g1 (zbh g2 (by rw[Blk.ren_isRow];exact hr)) i (zao g2 (by rw[Blk.ren_live];exact hi)) y o hy
  ·rw[Blk.ro_isRow]at hr;cases hr
 ·intro k b hf hr k' b' hf' hne j i hj hi y o y' o' hy hy'
  have hkk':=zeg k2 k' b' hf'
  rcases spl k b hf with⟨hk,c,g1,g2⟩|⟨b0,g1,rfl,g3,g4⟩
  ·have hcr:=zbh g2 (by rw[Blk.ren_isRow];exact hr)
   have hcl:=zao g2 (i:=j) (by rw[Blk.ren_live];exact hj)
   rcases spl k' b' hf' with⟨hk',c',g1',g2'⟩|⟨b0',g1',rfl,g3',g4'⟩
   ·exact h1.heap.sep _ c g1 hcr _ c' g1' (fun e=>hne (hinj _ _ hk' hk e)) j i hcl (zao g2' (by rw[Blk.ren_live];exact hi)) y o y' o' hy hy'
   ·have hl':=Blk.ro_live (row_le hI g1') hi
    have hy2:ρ k' i=some (y',o'):=by rw[<-e2 k' hkk'.1 fun hb=>g3' (hbad k' hb)];exact hy'
    rcases h1.heap.may _ c g1 hcr j hcl y o hy with g|g
    ·rintro rfl;exact not_own hI g1' g3' hl' hy2 g
    ·have:=hI.bd k' b0' g1' i hl' y' o' hy2
     have g':w.heap.size<=y:=g
     omega
  ·rw[Blk.ro_isRow]at hr;cases hr
 ·intro t sv hv
  have hkeys:=tmOK_h k1 t sv hv
  rcases htm t sv hv with⟨x,hx,hle⟩|⟨hx,hnb⟩
  ·obtain⟨v,hv',hi⟩:=h1.tmps t x hx
   exact⟨v,hv',.of_keys (by rw[<-SV.ren_den];exact(hi.le hle).eq.symm) fun j hj=>hsc j (hkeys j hj)⟩
  ·obtain⟨v,hv',hi⟩:=h1.tmps t sv hx
   refine⟨v,hv',.of_keys ?_ fun j hj=>hsc j (hkeys j hj)⟩
   rw[SV.den_congr (ρ:=ρ1) fun k hk=>by show ρ1 (τ k)=ρ1 k;rw[ht2 k (hnb k hk)]]
   exact hi.eq.symm
theorem restore_ok(hI:HInv φ ρ s.H w)(hD:s.H.D=fun _=>True)(hnd:za5 (s.H.h.map (·.1))=true)(hhp:hpOK s.H.nxt (za7 L0 bad s.H.h)=true)(hbad:∀k∈bad,k∈L0){ρ1:Rho}{s1:St}{w1:World}(h1:HInv ⟨w,ownL ρ s.H.h L0⟩ ρ1 s1.H w1)
  (hn1:s.H.nxt<=s1.H.nxt) (hD1:s1.H.D=fun _=>True) (hag:∀k,k<s.H.nxt->k∉bad->ρ1 k=ρ k) (hnd1:za5 ((zaw ((za7 L0 bad s.H.h).map (·.1)) s1.H.h).map (·.1))=true):
  HInv φ ρ1 ⟨zba (zaw ((za7 L0 bad s.H.h).map (·.1)) s1.H.h)++za7 L0 bad s.H.h,s1.H.nxt,s1.H.D⟩ w1:=by
 have hsc:∀k,k<s1.H.nxt->Hp.sc ⟨zba (zaw ((za7 L0 bad s.H.h).map (·.1)) s1.H.h)++za7 L0 bad s.H.h,s1.H.nxt,s1.H.D⟩ k:=fun k hk=>⟨hk,by rw[hD1];trivial⟩
 have spl:∀k b,find k (zba (zaw ((za7 L0 bad s.H.h).map (·.1)) s1.H.h)++za7 L0 bad s.H.h)=some b->(find k s1.H.h=some b/\b.isRow=true)\/(find k s.H.h=some b/\k∉L0/\(∀j∈b.keys,j∉bad)/\k<s.H.nxt/\∀j∈b.keys,j<s.H.nxt):=by
  intro k b hf
  rw[zct,Option.or_eq_some_iff]at hf
  rcases hf with hf|⟨_,hf⟩
  ·obtain⟨g1,g2⟩:=zco hnd1 hf
   rw[zcf]at g1
   split at g1
   ·cases g1
   ·exact .inl ⟨g1,g2⟩
  ·obtain⟨g1,g2,g3⟩:=rest_find hnd hf
   have:=zeg hhp k b hf
   exact .inr ⟨g1,g2,g3,this.1,this.2⟩
 have mayφ:∀y,Fr.may ⟨w,ownL ρ s.H.h L0⟩ y->φ.may y:=by
  rintro y (⟨k,b,i,o,g1,g2,g3,g4,g5⟩|g)
  ·exact hI.may k b g2 g3 i g4 y o g5
  ·exact .inr (zo hI.fr.size g)
 refine⟨?_,fun k _=>by rw[hD1];trivial,?_,?_,?_,?_,?_⟩
 ·refine⟨h1.fr.os.trans hI.fr.os,h1.fr.tape.trans hI.fr.tape,h1.fr.output.trans hI.fr.output,zo hI.fr.size h1.fr.size,fun b hb hno=>?_⟩
  rw[<-hI.fr.block b hb hno]
  refine h1.fr.block b (Nat.lt_of_lt_of_le hb hI.fr.size) fun hown=>?_
  rcases mayφ b (.inl hown) with g|g
  ·exact hno g
  ·omega
 ·intro k b hf
  rcases spl k b hf with⟨g1,_⟩|⟨_,_,_,g4,_⟩
  ·exact hsc k (h1.lt k b g1).1
  ·exact hsc k (Nat.lt_of_lt_of_le g4 hn1)
 ·intro k b hf
  rcases spl k b hf with⟨g1,_⟩|⟨g1,g2,g3,g4,g5⟩
  ·exact Blk.sat_ext (h1.sat k b g1) (.refl _ _) (fun j hj=>hsc j hj.1) (h1.lt k b g1)
  ·exact Blk.sat_names (still hI h1.fr g1 g2) (fun j hj=>⟨hsc j (Nat.lt_of_lt_of_le (g5 j hj) hn1),hag j (g5 j hj) (g3 j hj)⟩) (hag k g4 fun hb=>g2 (hbad k hb))
 ·intro k b hf i hi y o hy
  rcases spl k b hf with⟨g1,_⟩|⟨g1,g2,g3,g4,g5⟩
  ·exact h1.bd k b g1 i hi y o hy
  ·rw[hag k g4 fun hb=>g2 (hbad k hb)]at hy
   exact Nat.lt_of_lt_of_le (hI.bd k b g1 i hi y o hy) h1.fr.size
 ·intro k b hf hr i hi y o hy
  rcases spl k b hf with⟨g1,_⟩|⟨g1,g2,g3,g4,g5⟩
  ·exact mayφ y (h1.may k b g1 hr i hi y o hy)
  ·rw[hag k g4 fun hb=>g2 (hbad k hb)]at hy
   exact hI.may k b g1 hr i hi y o hy
 ·intro k b hf hr k' b' hf' hne j i hj hi y o y' o' hy hy'
  rcases spl k b hf with⟨g1,_⟩|⟨g1,g2,g3,g4,g5⟩<;>rcases spl k' b' hf' with⟨g1',gr'⟩|⟨g1',g2',g3',g4',g5'⟩
  ·exact h1.sep k b g1 hr k' b' g1' hne j i hj hi y o y' o' hy hy'
  ·rw[hag k' g4' fun hb=>g2' (hbad k' hb)]at hy'
   rcases h1.may k b g1 hr j hj y o hy with g|g
   ·rintro rfl;exact not_own hI g1' g2' hi hy' g
   ·have:=hI.bd k' b' g1' i hi y' o' hy'
    have g':w.heap.size<=y:=g
    omega
  ·rw[hag k g4 fun hb=>g2 (hbad k hb)]at hy
   rcases h1.may k' b' g1' gr' i hi y' o' hy' with g|g
   ·rintro rfl;exact not_own hI g1 g2 hj hy g
   ·have:=hI.bd k b g1 j hj y o hy
    have g':w.heap.size<=y':=g
    omega
  ·rw[hag k g4 fun hb=>g2 (hbad k hb)]at hy
   rw[hag k' g4' fun hb=>g2' (hbad k' hb)]at hy'
   exact hI.sep k b g1 hr k' b' g1' hne j i hj hi y o y' o' hy hy'
end
theorem zgq{X:Type}:∀ {ps:List (X×Bool)} {L:List Nat},∀k∈badL ps L,k∈L
 | [],L,k,h=>by simp[badL]at h
 | (_,true)::ps,[],k,h=>by simp[badL]at h
 | (_,false)::ps,[],k,h=>by simp[badL]at h
 | (_,true)::ps,a::L,k,h=>by simp only[badL]at h;exact List.mem_cons_of_mem _ (zgq k h)
 | (_,false)::ps,a::L,k,h=>by
  simp only[badL]at h
  rcases List.mem_cons.1 h with rfl|h
  ·exact List.mem_cons_self
  ·exact List.mem_cons_of_mem _ (zgq k h)
theorem zdd{as:List Nat}:∀ {l m:List (Option SV)} {i:Nat},zch as i l m=true->l.length=m.length/\∀(t:Nat) sv,l[t]?=some (some sv)->i+t∉as->∃sv',m[t]?=some (some sv')
 | [],[],i,_=>⟨rfl,fun t sv h=>by simp at h⟩
 | some x::l,some y::m,i,h=>by
  simp only[zch]at h
  obtain⟨h1,h2⟩:=zdd h
  refine⟨by simp[h1],fun t sv ht hn=>?_⟩
  cases t with
  | zero=>exact⟨y,rfl⟩
  | succ t=>exact h2 t sv (by simpa using ht) (by rwa [show i+1+t=i+(t+1) by omega])
 | some x::l,none::m,i,h=>by
  simp only[zch,zx]at h
  obtain⟨h1,h2⟩:=zdd h.2
  refine⟨by simp[h1],fun t sv ht hn=>?_⟩
  cases t with
  | zero=>exact absurd (zau.1 h.1) hn
  | succ t=>exact h2 t sv (by simpa using ht) (by rwa [show i+1+t=i+(t+1) by omega])
 | none::l,y::m,i,h=>by
  simp only[zch]at h
  obtain⟨h1,h2⟩:=zdd h
  refine⟨by simp[h1],fun t sv ht hn=>?_⟩
  cases t with
  | zero=>simp at ht
  | succ t=>exact h2 t sv (by simpa using ht) (by rwa [show i+1+t=i+(t+1) by omega])
 | [],_::_,i,h=>by simp[zch]at h
 | some _::_,[],i,h=>by simp[zch]at h
 | none::_,[],i,h=>by simp[zch]at h
def PostV(φ:Fr)(ρ:Rho)(pr:Nat->Bool)(n0:Nat)(K:Ex->St->V)(Q:Exit->Act->World->Prop):Prop:=
 ∀e s' ρ' a' w',isStop e=false->(K e s').holds->(∀k,pr k=true->ρ' k=ρ k)->n0<=s'.H.nxt->(s'.H.D=fun _=>True)->Inv φ ρ' s' a' w'->Q e.to a' w'
theorem PostV.later{φ:Fr}{ρ ρ':Rho}{pr:Nat->Bool}{n0:Nat}{K:Ex->St->V}{Q:Exit->Act->World->Prop}(h:PostV φ ρ pr n0 K Q)(h1:∀k,pr k=true->ρ' k=ρ k):PostV φ ρ' pr n0 K Q:=
 fun e s2 ρ2 a2 w2 hS hK g1 g2 g3=>h e s2 ρ2 a2 w2 hS hK (fun k hk=>(g1 k hk).trans (h1 k hk)) g2 g3
def zf4(P:Program)(c:Code)(body:(Nat->Bool)->Nat->St->(Ex->St->V)->V):Prop:=
 ∀(φ:Fr) (ρ:Rho) (pr:Nat->Bool) (n0:Nat) (s:St) (a:Act) (w:World) (K:Ex->St->V) (Q:Exit->Act->World->Prop),(∀k,pr k=true->k<n0)->(s.H.D=fun _=>True)->n0<=s.H.nxt->Inv φ ρ s a w->
  (body pr n0 s K).holds->PostV φ ρ pr n0 K Q->c.wp P Q a w
def PrefOK(P:Program)(c sc:Code)(body:(Nat->Bool)->Nat->St->(Ex->St->V)->V):Prop:=
 ∀(φ:Fr) (ρ:Rho) (pr:Nat->Bool) (n0:Nat) (s:St) (a:Act) (w:World) (K:Ex->St->V) (Q:Exit->Act->World->Prop),(∀k,pr k=true->k<n0)->(s.H.D=fun _=>True)->n0<=s.H.nxt->Inv φ ρ s a w->
  (body pr n0 s K).holds->PostV φ ρ pr n0 K Q->
  (∀e s' ρ' a' w',isStop e=true->(K e s').holds->(∀k,pr k=true->ρ' k=ρ k)->n0<=s'.H.nxt->(s'.H.D=fun _=>True)->Inv φ ρ' s' a' w'->sc.wp P Q a' w')->c.wp P Q a w
theorem loopV_ok{P:Program}{c:Code}{X:Type}{la:LA X}{q:(X->V)->V}(hq:QOK la.I q){as:List Nat}{body:(Nat->Bool)->Nat->St->(Ex->St->V)->V}(hbody:zf4 P c body)
  (hkeep:∀pr n0 s K K',(∀e s',Kp as s s'->(K e s').holds->(K' e s').holds)->(body pr n0 s K).holds->(body pr n0 s K').holds):
  zf4 P (.loop c) (fun pr n0 s K=>loopV la q as pr body s K):=by
 intro φ ρ pr n0 s a w K Q hpr hD hn hI hh hQ
 unfold loopV at hh
 simp only[fNs_eq,fHL_eq,fTm_eq,fSt_eq]at hh
 obtain⟨hc,hh⟩:=zb3 hh
 simp only[zx,List.all_eq_true,z7]at hc
 obtain⟨c1,c2,c3,c4,c5,c6⟩:=hc
 obtain⟨x0,hx0,hh⟩:=zc1 hh
 obtain⟨hIx,hh⟩:=hh
 obtain⟨l0,hl0,hall,hh⟩:=plV_h hh
 have hh:=hq.h _ hh
 generalize hL0:(la.paths.map fun p=>p.1 s)=L0 at *
 generalize hbd:badL la.paths L0=bad at *
 have hbad:∀k∈bad,k∈L0:=by rw[<-hbd];exact zgq
 have htmas:∀i∈la.tm,i∈as:=fun i hi=>zau.1 (c5 i hi)
 -- how the state is described
 have J:∀x,(jSt (zbr as bad 0 s.tmps) (zca (za7 L0 bad s.H.h)) s.H.nxt L0 la.tm (la.blk x) (la.tv x))=⟨zeh (zbr as bad 0 s.tmps) la.tm (la.tv x),⟨zipK L0 (la.blk x)++zca (za7 L0 bad s.H.h),s.H.nxt,fun _=>True⟩⟩:=fun x=>rfl
 have hfit:∀ {ρ1:Rho} {s1:St} {a1:Act} {w1:World} {L1:List Nat} {x1:X} {l:PL},Inv ⟨w,ownL ρ s.H.h L0⟩ ρ1 s1 a1 w1->(∀k,k<s.H.nxt->k∉bad->ρ1 k=ρ k)->za5 L1=true->fixB la.paths L0 L1=true->
   ((match bksP (tauM L0 L1) s1.H.h L0 (la.blk x1) []with|some p=>tmsP (tauM L0 L1) s1.tmps la.tm (la.tv x1) p|none=>none)=some l)->allP l->
   (zbr as bad 0 s.tmps).length=s1.tmps.length->(∀(t:Nat) sv,(zbr as bad 0 s.tmps)[t]?=some (some sv)->t∉la.tm->s1.tmps[t]?=some (some sv))->stOK (jSt (zbr as bad 0 s.tmps) (zca (za7 L0 bad s.H.h)) s.H.nxt L0 la.tm (la.blk x1) (la.tv x1))=true->
   ∃ρ2:Rho,(∀k,k<s.H.nxt->k∉bad->ρ2 k=ρ k)/\Inv ⟨w,ownL ρ s.H.h L0⟩ ρ2 (jSt (zbr as bad 0 s.tmps) (zca (za7 L0 bad s.H.h)) s.H.nxt L0 la.tm (la.blk x1) (la.tv x1)) a1 w1:=by
  intro ρ1 s1 a1 w1 L1 x1 l h1 hag hn1 hf1 hl hall hlen hkp hok
  split at hl
  ·rename_i p hp
   obtain⟨t1,t2⟩:=tmsP_h hl hall
   obtain⟨⟨b1,b2⟩,_⟩:=bksP_h hp t2
   have hLL:=(zgi hf1).1
   refine fit_ok (L0:=L0) (bad:=bad) hI.heap hD c4 h1 hag (τ:=tauM L0 L1) (fun k hk=>zdj hk) (fun k hk=>?_) (fun k k' h1 h2 e=>tauM_inj c1 hn1 hLL h1 h2 e) hbad ?_ ?_ b2 hok
   ·by_cases hkL:k∈L0
    ·obtain⟨j,hj⟩:=List.mem_iff_getElem?.1 hkL
     rcases fixB_at hf1 j k hj with g|g
     ·exact zev c1 hj g
     ·rw[hbd]at g;exact absurd g hk
    ·exact zdj hkL
   ·rw[zdf];exact hlen
   ·intro t sv ht
    by_cases htm:t∈la.tm
    ·rcases zfw ht with⟨m,g1,g2⟩|g
     ·exact .inl (t1 m t sv g1 g2)
     ·exact absurd (htmas t htm) (by have:=(zbi g).2.1;rwa [z8]at this)
    ·rw[zcc htm]at ht
     exact .inr ⟨hkp t sv ht htm,(zbi ht).2.2⟩
  ·cases hl
 -- the entry
 have hsr:Inv ⟨w,ownL ρ s.H.h L0⟩ ρ ⟨s.tmps,⟨keep (fun k=>mem k L0) s.H.h,s.H.nxt,s.H.D⟩⟩ a w:=by
  have sub:∀k b,find k (keep (fun k=>mem k L0) s.H.h)=some b->find k s.H.h=some b/\k∈L0:=by
   intro k b hf
   rw[zcs]at hf
   split at hf
   ·exact⟨hf,zau.1 ‹_›⟩
   ·cases hf
  refine⟨⟨⟨rfl,rfl,rfl,Z _,fun _ _ _=>rfl⟩,hI.heap.up,fun k b hf=>hI.heap.lt k b (sub k b hf).1,fun k b hf=>hI.heap.sat k b (sub k b hf).1,fun k b hf=>hI.heap.bd k b (sub k b hf).1,?_,?_⟩,hI.defers,hI.size,hI.tmps⟩
  ·intro k b hf hr i hi y o hy
   exact .inl ⟨k,b,i,o,(sub k b hf).2,(sub k b hf).1,hr,hi,hy⟩
  ·intro k b hf hr k' b' hf'
   exact hI.heap.sep k b (sub k b hf).1 hr k' b' (sub k' b' hf').1
 have hl0':((match bksP (tauM L0 L0) (keep (fun k=>mem k L0) s.H.h) L0 (la.blk x0) []with|some p=>tmsP (tauM L0 L0) s.tmps la.tm (la.tv x0) p|none=>none)=some l0):=by
  have tid:∀k,tauM L0 L0 k=k:=by
   intro k
   by_cases hkL:k∈L0
   ·obtain⟨j,hj⟩:=List.mem_iff_getElem?.1 hkL
    exact zev c1 hj hj
   ·exact zdj hkL
  have g:∀(L:List Nat) (bs:List Blk) (p:PL),(∀k∈L,k∈L0)->bksP (tauM L0 L0) (keep (fun k=>mem k L0) s.H.h) L bs p=bksP (tauM L0 L0) s.H.h L bs p:=by
   intro L
   induction L with
   | nil=>intro bs p _;cases bs<;>rfl
   | cons k L ih=>
    intro bs p hL
    cases bs with
    | nil=>rfl
    | cons b bs=>
     simp only[bksP]
     rw[ih bs p fun k hk=>hL k (List.mem_cons_of_mem _ hk)]
     rw[zcs,tid k,zau.2 (hL k List.mem_cons_self),if_pos rfl]
  rw[g L0 (la.blk x0) [] (fun k hk=>hk)]
  exact hl0
 have hpr':∀k,(Nat.blt k s.H.nxt&&!(mem k bad))=true↔k<s.H.nxt/\k∉bad:=by
  intro k
  simp only[zx,Nat.blt_eq,z7]
  constructor
  ·rintro⟨h1,h2⟩;exact⟨h1,fun hb=>by rw[zau.2 hb]at h2;cases h2⟩
  ·rintro⟨h1,h2⟩;exact⟨h1,by cases hm:mem k bad with|false=>rfl|true=>exact absurd (zau.1 hm) h2⟩
 have hround:∀x,la.I x->stOK (jSt (zbr as bad 0 s.tmps) (zca (za7 L0 bad s.H.h)) s.H.nxt L0 la.tm (la.blk x) (la.tv x))=true:=fun x hx=>(zb3 (hh x hx)).1
 obtain⟨ρ0,hρ0,h0⟩:=hfit hsr (fun _ _ _=>rfl) c1 c3 hl0' hall zcw (fun t sv ht _=>(zbi ht).1) (hround x0 hIx)
 refine wp_loop_ghost (fun m a w'=>∃x ρ',la.μ x=m/\la.I x/\(∀k,k<s.H.nxt->k∉bad->ρ' k=ρ k)/\Inv ⟨w,ownL ρ s.H.h L0⟩ ρ' (jSt (zbr as bad 0 s.tmps) (zca (za7 L0 bad s.H.h)) s.H.nxt L0 la.tm (la.blk x) (la.tv x)) a w') (la.μ x0) ⟨x0,ρ0,rfl,hIx,hρ0,h0⟩ ?_
 rintro m a' w' ⟨x,ρ',rfl,hx,hag,hJ⟩
 obtain⟨hst,hb⟩:=zb3 (hh x hx)
 have hb2:=hkeep _ _ _ _ (fun e s1=>V.need (Kp as (jSt (zbr as bad 0 s.tmps) (zca (za7 L0 bad s.H.h)) s.H.nxt L0 la.tm (la.blk x) (la.tv x)) s1) _) (fun e s1 hk h=>⟨hk,h⟩) hb
 refine hbody _ ρ' _ s.H.nxt (jSt (zbr as bad 0 s.tmps) (zca (za7 L0 bad s.H.h)) s.H.nxt L0 la.tm (la.blk x) (la.tv x)) a' w' _ _ (fun k hk=>((hpr' k).1 hk).1) rfl (Z _) hJ hb2 ?_
 rintro e s1 ρ1 a1 w1 hS ⟨hkp,hK⟩ g1 g2 g3 g4
 have hag1:∀k,k<s.H.nxt->k∉bad->ρ1 k=ρ k:=fun k hk hb=>(g1 k ((hpr' k).2 ⟨hk,hb⟩)).trans (hag k hk hb)
 have exits:∀e:Ex,isStop e=false->(chkV (za5 ((zaw ((za7 L0 bad s.H.h).map (·.1)) s1.H.h).map (·.1))) (K e ⟨s1.tmps,⟨zba (zaw ((za7 L0 bad s.H.h).map (·.1)) s1.H.h)++za7 L0 bad s.H.h,s1.H.nxt,s1.H.D⟩⟩) 404).holds->Q e.to a1 w1:=by
  intro e hS he
  obtain⟨hnd1,he⟩:=zb3 he
  refine hQ e _ ρ1 a1 w1 hS he (fun k hk=>hag1 k (Nat.lt_of_lt_of_le (hpr k hk) hn) fun hb=>?_) (zo hn g2) g3 ⟨restore_ok hI.heap hD c4 c6 hbad g4.heap g2 g3 hag1 hnd1,g4.defers,g4.size,?_⟩
  ·have:=c2 k hb;rw[hk]at this;cases this
  ·intro t sv ht
   obtain⟨v,h1,h2⟩:=g4.tmps t sv ht
   exact⟨v,h1,h2⟩
 cases e with
 | normal=>
  obtain⟨x1,hx1,hK⟩:=zc1 hK
  obtain⟨hc,hK⟩:=zb3 hK
  simp only[zx]at hc
  obtain⟨d1,d2,d3⟩:=hc
  obtain⟨hI1,hK⟩:=hK
  obtain⟨hμ,hK⟩:=hK
  obtain⟨l,hl,hal,_⟩:=plV_h hK
  obtain⟨v1,v2⟩:=zdd d3
  obtain⟨ρ2,q1,q2⟩:=hfit g4 hag1 d1 d2 hl hal v1 (fun t sv ht hnt=>by
   have hta:=(zbi ht).2.1
   rw[z8]at hta
   obtain⟨sv',h'⟩:=v2 t sv ht (by rw[z8];exact hta)
   have h2:=hkp t sv' hta h'
   rw[J x]at h2
   simp only at h2
   rw[zcc hnt,ht]at h2
   cases h2;exact h') (hround x1 hI1)
  exact⟨la.μ x1,hμ,x1,ρ2,rfl,hI1,q1,q2⟩
 | exit i=>exact exits (.exit i) hS hK
 | ret=>exact exits .ret hS hK
theorem cutV_ok{P:Program}{c sc:Code}{X:Type}{la:LA X}{q:(X->V)->V}(hq:QOK la.I q){as:List Nat}{ba bb:(Nat->Bool)->Nat->St->(Ex->St->V)->V}(hba:PrefOK P c sc ba)(hbb:zf4 P sc bb)
  (hkeep:∀pr n0 s K K',(∀e s',Kp as s s'->(K e s').holds->(K' e s').holds)->(ba pr n0 s K).holds->(ba pr n0 s K').holds):
  zf4 P c (fun pr n0 s K=>cutV la q as pr ba bb s K):=by
 intro φ ρ pr n0 s a w K Q hpr hD hn hI hh hQ
 unfold cutV at hh
 simp only[fNs_eq,fHL_eq,fTm_eq,fSt_eq]at hh
 obtain⟨hc,hh⟩:=zb3 hh
 simp only[zx,List.all_eq_true,z7]at hc
 obtain⟨c1,c2,c3,c4,c5,c6⟩:=hc
 obtain⟨x0,hx0,hh⟩:=zc1 hh
 obtain⟨l0,hl0,hall,hh⟩:=plV_h hh
 obtain⟨hst0,hh⟩:=zb3 hh
 obtain⟨hA,hB⟩:=both_h hh
 have hB:=hq.h _ hB
 generalize hL0:(la.paths.map fun p=>p.1 s)=L0 at *
 generalize hbd:badL la.paths L0=bad at *
 have hbad:∀k∈bad,k∈L0:=by rw[<-hbd];exact zgq
 have htmas:∀i∈la.tm,i∈as:=fun i hi=>zau.1 (c5 i hi)
 -- how the state is described
 have J:∀x,(jSt (zbr as bad 0 s.tmps) (zca (za7 L0 bad s.H.h)) s.H.nxt L0 la.tm (la.blk x) (la.tv x))=⟨zeh (zbr as bad 0 s.tmps) la.tm (la.tv x),⟨zipK L0 (la.blk x)++zca (za7 L0 bad s.H.h),s.H.nxt,fun _=>True⟩⟩:=fun x=>rfl
 have hfit:∀ {ρ1:Rho} {s1:St} {a1:Act} {w1:World} {L1:List Nat} {x1:X} {l:PL},Inv ⟨w,ownL ρ s.H.h L0⟩ ρ1 s1 a1 w1->(∀k,k<s.H.nxt->k∉bad->ρ1 k=ρ k)->za5 L1=true->fixB la.paths L0 L1=true->
   ((match bksP (tauM L0 L1) s1.H.h L0 (la.blk x1) []with|some p=>tmsP (tauM L0 L1) s1.tmps la.tm (la.tv x1) p|none=>none)=some l)->allP l->
   (zbr as bad 0 s.tmps).length=s1.tmps.length->(∀(t:Nat) sv,(zbr as bad 0 s.tmps)[t]?=some (some sv)->t∉la.tm->s1.tmps[t]?=some (some sv))->stOK (jSt (zbr as bad 0 s.tmps) (zca (za7 L0 bad s.H.h)) s.H.nxt L0 la.tm (la.blk x1) (la.tv x1))=true->
   ∃ρ2:Rho,(∀k,k<s.H.nxt->k∉bad->ρ2 k=ρ k)/\Inv ⟨w,ownL ρ s.H.h L0⟩ ρ2 (jSt (zbr as bad 0 s.tmps) (zca (za7 L0 bad s.H.h)) s.H.nxt L0 la.tm (la.blk x1) (la.tv x1)) a1 w1:=by
  intro ρ1 s1 a1 w1 L1 x1 l h1 hag hn1 hf1 hl hall hlen hkp hok
  split at hl
  ·rename_i p hp
   obtain⟨t1,t2⟩:=tmsP_h hl hall
   obtain⟨⟨b1,b2⟩,_⟩:=bksP_h hp t2
   have hLL:=(zgi hf1).1
   refine fit_ok (L0:=L0) (bad:=bad) hI.heap hD c4 h1 hag (τ:=tauM L0 L1) (fun k hk=>zdj hk) (fun k hk=>?_) (fun k k' h1 h2 e=>tauM_inj c1 hn1 hLL h1 h2 e) hbad ?_ ?_ b2 hok
   ·by_cases hkL:k∈L0
    ·obtain⟨j,hj⟩:=List.mem_iff_getElem?.1 hkL
     rcases fixB_at hf1 j k hj with g|g
     ·exact zev c1 hj g
     ·rw[hbd]at g;exact absurd g hk
    ·exact zdj hkL
   ·rw[zdf];exact hlen
   ·intro t sv ht
    by_cases htm:t∈la.tm
    ·rcases zfw ht with⟨m,g1,g2⟩|g
     ·exact .inl (t1 m t sv g1 g2)
     ·exact absurd (htmas t htm) (by have:=(zbi g).2.1;rwa [z8]at this)
    ·rw[zcc htm]at ht
     exact .inr ⟨hkp t sv ht htm,(zbi ht).2.2⟩
  ·cases hl
 -- the entry
 have hsr:Inv ⟨w,ownL ρ s.H.h L0⟩ ρ ⟨s.tmps,⟨keep (fun k=>mem k L0) s.H.h,s.H.nxt,s.H.D⟩⟩ a w:=by
  have sub:∀k b,find k (keep (fun k=>mem k L0) s.H.h)=some b->find k s.H.h=some b/\k∈L0:=by
   intro k b hf
   rw[zcs]at hf
   split at hf
   ·exact⟨hf,zau.1 ‹_›⟩
   ·cases hf
  refine⟨⟨⟨rfl,rfl,rfl,Z _,fun _ _ _=>rfl⟩,hI.heap.up,fun k b hf=>hI.heap.lt k b (sub k b hf).1,fun k b hf=>hI.heap.sat k b (sub k b hf).1,fun k b hf=>hI.heap.bd k b (sub k b hf).1,?_,?_⟩,hI.defers,hI.size,hI.tmps⟩
  ·intro k b hf hr i hi y o hy
   exact .inl ⟨k,b,i,o,(sub k b hf).2,(sub k b hf).1,hr,hi,hy⟩
  ·intro k b hf hr k' b' hf'
   exact hI.heap.sep k b (sub k b hf).1 hr k' b' (sub k' b' hf').1
 have hl0':((match bksP (tauM L0 L0) (keep (fun k=>mem k L0) s.H.h) L0 (la.blk x0) []with|some p=>tmsP (tauM L0 L0) s.tmps la.tm (la.tv x0) p|none=>none)=some l0):=by
  have tid:∀k,tauM L0 L0 k=k:=by
   intro k
   by_cases hkL:k∈L0
   ·obtain⟨j,hj⟩:=List.mem_iff_getElem?.1 hkL
    exact zev c1 hj hj
   ·exact zdj hkL
  have g:∀(L:List Nat) (bs:List Blk) (p:PL),(∀k∈L,k∈L0)->bksP (tauM L0 L0) (keep (fun k=>mem k L0) s.H.h) L bs p=bksP (tauM L0 L0) s.H.h L bs p:=by
   intro L
   induction L with
   | nil=>intro bs p _;cases bs<;>rfl
   | cons k L ih=>
    intro bs p hL
    cases bs with
    | nil=>rfl
    | cons b bs=>
     simp only[bksP]
     rw[ih bs p fun k hk=>hL k (List.mem_cons_of_mem _ hk)]
     rw[zcs,tid k,zau.2 (hL k List.mem_cons_self),if_pos rfl]
  rw[g L0 (la.blk x0) [] (fun k hk=>hk)]
  exact hl0
 have hpr':∀k,(Nat.blt k s.H.nxt&&!(mem k bad))=true↔k<s.H.nxt/\k∉bad:=by
  intro k
  simp only[zx,Nat.blt_eq,z7]
  constructor
  ·rintro⟨h1,h2⟩;exact⟨h1,fun hb=>by rw[zau.2 hb]at h2;cases h2⟩
  ·rintro⟨h1,h2⟩;exact⟨h1,by cases hm:mem k bad with|false=>rfl|true=>exact absurd (zau.1 hm) h2⟩
 have hround:∀x,la.I x->stOK (jSt (zbr as bad 0 s.tmps) (zca (za7 L0 bad s.H.h)) s.H.nxt L0 la.tm (la.blk x) (la.tv x))=true:=fun x hx=>(zb3 (hB x hx)).1
 obtain⟨ρ0,hρ0,h0⟩:=hfit hsr (fun _ _ _=>rfl) c1 c3 hl0' hall zcw (fun t sv ht _=>(zbi ht).1) hst0
 have exits:∀(e:Ex) (s1:St) (ρ1:Rho) (a1:Act) (w1:World),(∀k,k<s.H.nxt->k∉bad->ρ1 k=ρ k)->s.H.nxt<=s1.H.nxt->(s1.H.D=fun _=>True)->Inv ⟨w,ownL ρ s.H.h L0⟩ ρ1 s1 a1 w1->isStop e=false->(exitV (za7 L0 bad s.H.h) K e s1).holds->Q e.to a1 w1:=by
  intro e s1 ρ1 a1 w1 hag1 g2 g3 g4 hS he
  unfold exitV at he
  simp only[fHL_eq]at he
  obtain⟨hnd1,he⟩:=zb3 he
  refine hQ e _ ρ1 a1 w1 hS he (fun k hk=>hag1 k (Nat.lt_of_lt_of_le (hpr k hk) hn) fun hb=>?_) (zo hn g2) g3 ⟨restore_ok hI.heap hD c4 c6 hbad g4.heap g2 g3 hag1 hnd1,g4.defers,g4.size,?_⟩
  ·have:=c2 k hb;rw[hk]at this;cases this
  ·intro t sv ht
   obtain⟨v,h1,h2⟩:=g4.tmps t sv ht
   exact⟨v,h1,h2⟩
 have hb2:=hkeep _ _ _ _ (fun e s1=>V.need (Kp as (jSt (zbr as bad 0 s.tmps) (zca (za7 L0 bad s.H.h)) s.H.nxt L0 la.tm (la.blk x0) (la.tv x0)) s1) _) (fun e s1 hk h=>⟨hk,h⟩) hA
 refine hba _ ρ0 _ s.H.nxt (jSt (zbr as bad 0 s.tmps) (zca (za7 L0 bad s.H.h)) s.H.nxt L0 la.tm (la.blk x0) (la.tv x0)) a w _ _ (fun k hk=>((hpr' k).1 hk).1) rfl (Z _) h0 hb2 ?_ ?_
 ·rintro e s1 ρ1 a1 w1 hS ⟨hkp,hK⟩ g1 g2 g3 g4
  rw[hS]at hK
  exact exits e s1 ρ1 a1 w1 (fun k hk hb=>(g1 k ((hpr' k).2 ⟨hk,hb⟩)).trans (hρ0 k hk hb)) g2 g3 g4 hS hK
 rintro e s1 ρ1 a1 w1 hS ⟨hkp,hK⟩ g1 g2 g3 g4
 rw[hS]at hK
 have hag1:∀k,k<s.H.nxt->k∉bad->ρ1 k=ρ k:=fun k hk hb=>(g1 k ((hpr' k).2 ⟨hk,hb⟩)).trans (hρ0 k hk hb)
 obtain⟨x1,hx1,hK⟩:=zc1 hK
 obtain⟨hc,hK⟩:=zb3 hK
 simp only[zx]at hc
 obtain⟨d1,d2,d3⟩:=hc
 obtain⟨hI1,hK⟩:=hK
 obtain⟨l,hl,hal,_⟩:=plV_h hK
 obtain⟨v1,v2⟩:=zdd d3
 obtain⟨ρ2,q1,q2⟩:=hfit g4 hag1 d1 d2 hl hal v1 (fun t sv ht hnt=>by
  have hta:=(zbi ht).2.1
  rw[z8]at hta
  obtain⟨sv',h'⟩:=v2 t sv ht (by rw[z8];exact hta)
  have h2:=hkp t sv' hta h'
  rw[J x0]at h2
  simp only at h2
  rw[zcc hnt,ht]at h2
  cases h2;exact h') (hround x1 hI1)
 obtain⟨hst,hb⟩:=zb3 (hB x1 hI1)
 refine hbb _ ρ2 _ s.H.nxt (jSt (zbr as bad 0 s.tmps) (zca (za7 L0 bad s.H.h)) s.H.nxt L0 la.tm (la.blk x1) (la.tv x1)) a1 w1 _ _ (fun k hk=>((hpr' k).1 hk).1) rfl (Z _) q2 hb ?_
 intro e s2 ρ3 a2 w2 hS hK k1 k2 k3 k4
 exact exits e s2 ρ3 a2 w2 (fun k hk hb=>(k1 k ((hpr' k).2 ⟨hk,hb⟩)).trans (q1 k hk hb)) k2 k3 k4 hS hK
theorem preV_ok{φ:Fr}{a:Act}{w:World}:∀ {gs:List G} {ρ:Rho} {s:St} {K:St->V},(s.H.D=fun _=>True)->Inv φ ρ s a w->(preV gs s K).holds->∃s1 ρ1,(K s1).holds/\zat s.H.sc ρ ρ1/\s.H.le s1.H/\Inv φ ρ1 s1 a w
 | [],ρ,s,K,hD,h,hh=>⟨s,ρ,hh,.refl _ _,.refl _,h⟩
 | g::gs,ρ,s,K,hD,h,hh=>by
  simp only[preV]at hh
  obtain⟨s1,ρ1,hK,h1,h2,h3⟩:=g.ok φ ρ s a w _ h (Out.toV_h hh)
  obtain⟨s2,ρ2,hK2,g1,g2,g3⟩:=preV_ok (by rw[h2.D];exact hD) h3 hK
  exact⟨s2,ρ2,hK2,h1.trans (h2.scL g1),h2.trans g2,g3⟩
theorem pure_l:∀ {n:AT},n.pure=true->n.l.pure=true
 | .two a b,h=>by simp only[AT.pure,zx]at h;exact h.1
 | .nil,_=>rfl
 | .pre _ _,_=>rfl
 | .loop _ _ _,_=>rfl
 | .loopS _ _ _ _,_=>rfl
 | .cut _ _ _ _ _,_=>rfl
 | .cutS _ _ _ _ _ _,_=>rfl
 | .stop,_=>rfl
 | .skip _,_=>rfl
theorem pure_r:∀ {n:AT},n.pure=true->n.r.pure=true
 | .two a b,h=>by simp only[AT.pure,zx]at h;exact h.2
 | .nil,_=>rfl
 | .pre _ _,_=>rfl
 | .loop _ _ _,_=>rfl
 | .loopS _ _ _ _,_=>rfl
 | .cut _ _ _ _ _,_=>rfl
 | .cutS _ _ _ _ _ _,_=>rfl
 | .stop,_=>rfl
 | .skip _,_=>rfl
theorem pure_stop:∀ {n:AT},n.pure=true->n.isStop=false
 | .stop,h=>by cases h
 | .two a b,_=>rfl
 | .nil,_=>rfl
 | .pre _ _,_=>rfl
 | .loop _ _ _,_=>rfl
 | .loopS _ _ _ _,_=>rfl
 | .cut _ _ _ _ _,_=>rfl
 | .cutS _ _ _ _ _ _,_=>rfl
 | .skip _,_=>rfl
theorem spine_suf:∀ {d:Nat} {c:Code},spine d c=true->∃sc,sufC d c=some sc
 | 0,c,h=>by cases c<;>first|exact⟨_,rfl⟩|cases h
 | d+1,c,h=>by
  cases c with
  | seq a b=>exact spine_suf (d:=d) h
  | _=>cases h
structure AllOK (P:Program) (callT:CallT) (S u:Nat) (c:Code):Prop where
 A:∀n:AT,n.pure=true->zf4 P c (zaz P callT S u c n)
 B:∀(d:Nat) (np:AT) (sc:Code),np.pure=true->sufC d c=some sc->PrefOK P c sc (zaz P callT S u c (zay d np))
 C:∀(d:Nat) (ns:AT) (sc:Code),ns.pure=true->sufC d c=some sc->zf4 P sc (zaz P callT S u c (zew (d+1) ns))
theorem zgd{P:Program}{callT:CallT}{S u:Nat}{c:Code}(hs:∀d,sufC d c=none)(h:∀n:AT,n.pure=true->zf4 P c (zaz P callT S u c n)):AllOK P callT S u c:=
 ⟨h,fun d _ _ _ e=>(by rw[hs d]at e;cases e),fun d _ _ _ e=>(by rw[hs d]at e;cases e)⟩
theorem seq_ok{P:Program}{callT:CallT}{S u:Nat}{x y:Code}(hx:AllOK P callT S u x)(hy:AllOK P callT S u y):AllOK P callT S u (.seq x y):=by
 have hB:∀(d:Nat) (np:AT) (sc:Code),np.pure=true->sufC d (.seq x y)=some sc->PrefOK P (.seq x y) sc (zaz P callT S u (.seq x y) (zay d np)):=by
  intro d np sc hp hs φ ρ pr n0 s a w K Q hpr hD hn h hh hQ hR
  cases d with
  | zero=>
   cases hs
   simp only[zay,zaz,seqV,AT.l,AT.r,AT.isStop]at hh
   refine wp_seq (hx.A _ (pure_l hp) φ ρ pr n0 s a w _ _ hpr hD hn h hh ?_)
   intro e s' ρ' a' w' hS hK g1 g2 g3 g4
   cases e with
   | normal=>exact hR stopE s' ρ' a' w' rfl hK g1 g2 g3 g4
   | exit i=>exact hQ _ s' ρ' a' w' hS hK g1 g2 g3 g4
   | ret=>exact hQ _ s' ρ' a' w' hS hK g1 g2 g3 g4
  | succ d=>
   have hst:∀z,(zay d z).isStop=false:=fun z=>by cases d<;>rfl
   simp only[zay,zaz,seqV,AT.l,AT.r,hst]at hh
   refine wp_seq (hx.A _ (pure_l hp) φ ρ pr n0 s a w _ _ hpr hD hn h hh ?_)
   intro e s' ρ' a' w' hS hK g1 g2 g3 g4
   cases e with
   | normal=>exact hy.B d _ sc (pure_r hp) hs φ ρ' pr n0 s' a' w' _ _ hpr g3 g2 g4 hK (hQ.later g1) (fun e s2 ρ2 a2 w2 hS hK k1 k2 k3 k4=>hR e s2 ρ2 a2 w2 hS hK (fun k hk=>(k1 k hk).trans (g1 k hk)) k2 k3 k4)
   | exit i=>exact hQ _ s' ρ' a' w' hS hK g1 g2 g3 g4
   | ret=>exact hQ _ s' ρ' a' w' hS hK g1 g2 g3 g4
 have hC:∀(d:Nat) (ns:AT) (sc:Code),ns.pure=true->sufC d (.seq x y)=some sc->zf4 P sc (zaz P callT S u y (zew d ns)):=by
  intro d ns sc hp hs
  cases d with
  | zero=>cases hs;exact hy.A ns hp
  | succ d=>exact hy.C d ns sc hp hs
 refine⟨?_,hB,fun d ns sc hp hs=>hC d ns sc hp hs⟩
 intro n hp φ ρ pr n0 s a w K Q hpr hD hn h hh hQ
 have eqS:∀(d:Nat) (np:AT),seqV (zaz P callT S u x (zay d np).l) (zaz P callT S u y (zay d np).r) (zay d np).r.isStop=zaz P callT S u (.seq x y) (zay d np):=fun d np=>by
  cases d<;>rfl
 have hkA:∀(d:Nat) (np:AT) (bs:List Nat) pr n0 s K K',(∀e s',Kp ((asg x (zay d np).l++asg y (zay d np).r)++bs) s s'->(K e s').holds->(K' e s').holds)->(zaz P callT S u (.seq x y) (zay d np) pr n0 s K).holds->(zaz P callT S u (.seq x y) (zay d np) pr n0 s K').holds:=by
  intro d np bs pr n0 s K K' hk h
  refine zf1 (.seq x y) (zay d np) pr n0 s K K' (fun e s' hs hh=>hk e s' (hs.mono fun t ht=>List.mem_append.2 (.inl ?_)) hh) h
  cases d<;>exact ht
 have gen:∀m:AT,m.pure=true->(seqV (zaz P callT S u x m.l) (zaz P callT S u y m.r) m.r.isStop pr n0 s K).holds->(Code.seq x y).wp P Q a w:=by
  intro m hm hh
  rw[pure_stop (pure_r hm)]at hh
  unfold seqV at hh
  refine wp_seq (hx.A _ (pure_l hm) φ ρ pr n0 s a w _ _ hpr hD hn h hh ?_)
  intro e s' ρ' a' w' hS hK g1 g2 g3 g4
  cases e with
  | normal=>exact hy.A _ (pure_r hm) φ ρ' pr n0 s' a' w' _ _ hpr g3 g2 g4 hK (hQ.later g1)
  | exit i=>exact hQ _ s' ρ' a' w' hS hK g1 g2 g3 g4
  | ret=>exact hQ _ s' ρ' a' w' hS hK g1 g2 g3 g4
 cases n with
 | cut d X f np ns=>
  simp only[AT.pure,zx]at hp
  simp only[zaz]at hh
  obtain⟨hsp,hh⟩:=zb3 hh
  obtain⟨la,_,hh⟩:=zc1 hh
  obtain⟨sc,hsc⟩:=spine_suf hsp
  rw[fNs_eq,eqS]at hh
  exact cutV_ok (qAny _) (hB d np sc hp.1 hsc) (hC d ns sc hp.2 hsc) (hkA d np _) φ ρ pr n0 s a w K Q hpr hD hn h hh hQ
 | cutS d k X f np ns=>
  simp only[AT.pure,zx]at hp
  simp only[zaz]at hh
  obtain⟨hsp,hh⟩:=zb3 hh
  obtain⟨la,_,hh⟩:=zc1 hh
  obtain⟨sc,hsc⟩:=spine_suf hsp
  rw[fNs_eq,eqS]at hh
  exact cutV_ok (qAnyC _ _) (hB d np sc hp.1 hsc) (hC d ns sc hp.2 hsc) (hkA d np _) φ ρ pr n0 s a w K Q hpr hD hn h hh hQ
 | skip m=>cases hp
 | stop=>cases hp
 | nil=>exact gen _ hp hh
 | two a b=>exact gen _ hp hh
 | pre g m=>exact gen _ hp hh
 | loop X f i=>exact gen _ hp hh
 | loopS k X f i=>exact gen _ hp hh
theorem execV_ok{P:Program}{callT:CallT}(hc:zbz P callT){S u:Nat}:∀c:Code,AllOK P callT S u c:=by
 intro c
 induction c with
 | skip=>refine zgd (fun d=>by cases d<;>rfl) ?_;intro n hp φ ρ pr n0 s a w K Q hpr hD hn h hh hQ;exact wp_skip (hQ _ s ρ a w rfl hh (fun _ _=>rfl) hn hD h)
 | label l=>refine zgd (fun d=>by cases d<;>rfl) ?_;intro n hp φ ρ pr n0 s a w K Q hpr hD hn h hh hQ;exact wp_label (hQ _ s ρ a w rfl hh (fun _ _=>rfl) hn hD h)
 | exit i=>refine zgd (fun d=>by cases d<;>rfl) ?_;intro n hp φ ρ pr n0 s a w K Q hpr hD hn h hh hQ;obtain⟨hS,hh⟩:=zb3 hh;exact wp_exit (hQ _ s ρ a w (by simpa using hS) hh (fun _ _=>rfl) hn hD h)
 | ret=>refine zgd (fun d=>by cases d<;>rfl) ?_;intro n hp φ ρ pr n0 s a w K Q hpr hD hn h hh hQ;exact wp_ret (hQ _ s ρ a w rfl hh (fun _ _=>rfl) hn hD h)
 | region id ops draw=>
  refine zgd (fun d=>by cases d<;>rfl) ?_
  intro n hp φ ρ pr n0 s a w K Q hpr hD hn h hh hQ
  simp only[zaz]at hh
  obtain⟨s1,ρ1,hh,h1,h2,h3⟩:=preV_ok hD h hh
  have sc:∀k,pr k=true->s.H.sc k:=fun k hk=>⟨Nat.lt_of_lt_of_le (hpr k hk) hn,by rw[hD];trivial⟩
  have hh:=Out.toV_h hh
  have fin:Then φ ρ1 s1 (fun s=>(preV n.core.gs s fun s=>K .normal s).holds) (Q .normal):=fun s' ρ' a' w' hK g1 g2 g3=>by
   obtain⟨s2,ρ2,hK,k1,k2,k3⟩:=preV_ok (by rw[(h2.trans g2).D];exact hD) g3 hK
   exact hQ _ s2 ρ2 a' w' rfl hK (fun k hk=>(k1 k (g2.sc k (h2.sc k (sc k hk)))).trans ((g1 k (h2.sc k (sc k hk))).trans (h1 k (sc k hk)))) (zo hn ((h2.trans g2).trans k2).nxt) (by rw[((h2.trans g2).trans k2).D];exact hD) k3
  cases draw with
  | true=>
   have:=draw_ok (Q:=Q) (id:=id) hc h3 hh fin
   simpa using this
  | false=>exact wp_region_list (ze1 (ops:=ops.toList) hc ops.toList h3 hh fin)
 | seq x y ihx ihy=>exact seq_ok ihx ihy
 | cond c x y ihx ihy=>
  refine zgd (fun d=>by cases d<;>rfl) ?_
  intro n hp φ ρ pr n0 s a w K Q hpr hD hn h hh hQ
  simp only[zaz]at hh
  obtain⟨v,hv,hh⟩:=zc1 hh
  obtain⟨⟨kn,b⟩,hr,hh⟩:=zc1 hh
  have e:=asB_is hr (zam h hv)
  have hl:=pure_l hp
  have hr':=pure_r hp
  cases kn with
  | true=>
   cases b with
   | true=>exact wp_cond_true e (ihx.A n.l hl φ ρ pr n0 s a w _ _ hpr hD hn h hh hQ)
   | false=>exact wp_cond_false e (ihy.A n.r hr' φ ρ pr n0 s a w _ _ hpr hD hn h hh hQ)
  | false=>exact wp_cond_split e (fun hb=>ihx.A n.l hl φ ρ pr n0 s a w _ _ hpr hD hn h (hh.1 hb) hQ) (fun hb=>ihy.A n.r hr' φ ρ pr n0 s a w _ _ hpr hD hn h (hh.2 hb) hQ)
 | block id c ih=>
  refine zgd (fun d=>by cases d<;>rfl) ?_
  intro n hp φ ρ pr n0 s a w K Q hpr hD hn h hh hQ
  simp only[zaz]at hh
  refine wp_block (ih.A n hp φ ρ pr n0 s a w _ _ hpr hD hn h hh ?_)
  intro e s' ρ' a' w' hS hK h1 h2 h3 h4
  cases e with
  | normal=>exact hQ _ s' ρ' a' w' hS hK h1 h2 h3 h4
  | ret=>exact hQ _ s' ρ' a' w' hS hK h1 h2 h3 h4
  | exit i=>
   simp only at hK
   simp only[Ex.to,Exit.inBlock]
   split at hK
   ·rename_i hb
    rw[if_pos (zq hb)]
    exact hQ _ s' ρ' a' w' rfl hK h1 h2 h3 h4
   ·rename_i hb
    rw[if_neg (by rintro rfl;rw[Nat.beq_refl]at hb;cases hb)]
    exact hQ _ s' ρ' a' w' hS hK h1 h2 h3 h4
 | loop c ih=>
  refine zgd (fun d=>by cases d<;>rfl) ?_
  intro n hp φ ρ pr n0 s a w K Q hpr hD hn h hh hQ
  simp only[zaz]at hh
  obtain⟨s1,ρ1,hh,k1,k2,k3⟩:=preV_ok hD h hh
  have sc:∀k,pr k=true->s.H.sc k:=fun k hk=>⟨Nat.lt_of_lt_of_le (hpr k hk) hn,by rw[hD];trivial⟩
  have hD1:s1.H.D=fun _=>True:=by rw[k2.D];exact hD
  have hQ1:=hQ.later fun k hk=>k1 k (sc k hk)
  have hn1:=zo hn k2.nxt
  have hcp:n.core.pure=true:=by
   unfold AT.core
   split
   ·exact hp
   ·exact hp
  split at hh
  ·rename_i X f inner hcore
   have hin:inner.pure=true:=by rw[hcore]at hcp;exact hcp
   obtain⟨la,_,hh⟩:=zc1 hh
   rw[fNs_eq]at hh
   exact loopV_ok (qAny _) (ih.A inner hin) (fun pr n0 s K K' hk h=>zf1 c inner pr n0 s K K' hk h) φ ρ1 pr n0 s1 a w K Q hpr hD1 hn1 k3 hh hQ1
  ·rename_i k X f inner hcore
   have hin:inner.pure=true:=by rw[hcore]at hcp;exact hcp
   obtain⟨la,_,hh⟩:=zc1 hh
   rw[fNs_eq]at hh
   exact loopV_ok (qAnyS _ _) (ih.A inner hin) (fun pr n0 s K K' hk h=>zf1 c inner pr n0 s K K' hk h) φ ρ1 pr n0 s1 a w K Q hpr hD1 hn1 k3 hh hQ1
  ·refine wp_loop_rounds u ?_
   suffices g:∀(m:Nat) (ρ:Rho) (s:St) (a:Act) (w:World),(s.H.D=fun _=>True)->n0<=s.H.nxt->Inv φ ρ s a w->(zdh (zaz P callT S u c .nil pr n0) m s K).holds->PostV φ ρ pr n0 K Q->Code.rounds P c Q m a w from g u ρ1 s1 a w hD1 hn1 k3 hh hQ1
   intro m
   induction m with
   | zero=>intro ρ s a w _ _ h hh hQ;exact hh.elim
   | succ m ihm=>
    intro ρ s a w hD hn h hh hQ
    simp only[zdh]at hh
    refine ih.A .nil rfl φ ρ pr n0 s a w _ _ hpr hD hn h hh ?_
    intro e s' ρ' a' w' hS hK h1 h2 h3 h4
    cases e with
    | normal=>exact ihm ρ' s' a' w' h3 h2 h4 hK (hQ.later h1)
    | exit i=>exact hQ _ s' ρ' a' w' hS hK h1 h2 h3 h4
    | ret=>exact hQ _ s' ρ' a' w' hS hK h1 h2 h3 h4
 | rangeFunc=>refine zgd (fun d=>by cases d<;>rfl) ?_;intro n hp φ ρ pr n0 s a w K Q hpr hD hn h hh hQ;exact hh.elim
 | scope c ih=>
  refine zgd (fun d=>by cases d<;>rfl) ?_
  intro n hp φ ρ pr n0 s a w K Q hpr hD hn h hh hQ
  refine wp_scope_straight (ih.A n hp φ ρ pr n0 s a w K _ hpr hD hn h hh ?_)
  intro e s' ρ' a' w' hS hK h1 h2 h3 h4
  have:=hQ e s' ρ' a' w' hS hK h1 h2 h3 h4
  cases e<;>exact this
 | goto=>refine zgd (fun d=>by cases d<;>rfl) ?_;intro n hp φ ρ pr n0 s a w K Q hpr hD hn h hh hQ;exact hh.elim
 | refuse=>refine zgd (fun d=>by cases d<;>rfl) ?_;intro n hp φ ρ pr n0 s a w K Q hpr hD hn h hh hQ;exact hh.elim
theorem ver_ok{P:Program}{callT:CallT}(hc:zbz P callT){S u:Nat}{f:FuncId}{fn:Func}(hf:P.funcs[f]?=some fn){gs:List (Nat×G)}{av:AV}{φ:Fr}{ρ:Rho}{H:Hp}{w:World}{args:List SV}{vs:List Value}{K:SV->Hp->V}
  (hD:H.D=fun _=>True) (h:HInv φ ρ H w) (hv:VIs H.sc ρ args vs) (hh:(verT P callT S u fn gs av args H K).holds):
  Calls P f vs.toArray w fun e w'=>∃v ρ' sv H',e=.returned v/\(K sv H').holds/\zat H.sc ρ ρ'/\H.le H'/\HInv φ ρ' H' w'/\SIs H'.sc ρ' sv v:=by
 unfold verT at hh
 obtain⟨code,hcode,hh⟩:=zc1 hh
 obtain⟨hpure,hh⟩:=zb3 hh
 obtain⟨hlen,hget⟩:=hv.at
 refine calls_of_wp hf hcode ?_
 refine(execV_ok hc code).A _ hpure φ ρ (fun k=>Nat.blt k H.nxt) H.nxt ⟨args.map some++List.replicate (fn.ntmps-args.length) none,H⟩ _ w _ _ (fun k hk=>by rwa [Nat.blt_eq]at hk) hD (Z _) ⟨h,rfl,by simp[hlen],?_⟩ hh ?_
 ·intro k sv hk
  rcases Nat.lt_or_ge k args.length with hlt|hge
  ·rw[List.getElem?_append_left (by simpa using hlt)]at hk
   simp only[List.getElem?_map,Option.map_eq_some_iff]at hk
   obtain⟨x,hx,hx2⟩:=hk
   cases hx2
   obtain⟨v,hv1,hv2⟩:=hget k _ hx
   refine⟨v,?_,hv2⟩
   rw[Array.getElem?_append_left (by simp;omega)]
   simpa using hv1
  ·rw[List.getElem?_append_right (by simpa using hge)]at hk
   simp only[List.getElem?_replicate]at hk
   split at hk<;>cases hk
 ·intro e s' ρ' a' w' hS hK h1 h2 h3 h4
  have fin:(preV (gsAt 1000000 gs) s' fun s'=>((resL P s' fn.results.toList).bind packT).toV fun sv=>fGc H.nxt sv s'.H.h fun h=>K sv ⟨h,s'.H.nxt,s'.H.D⟩).holds->a'.defers=[]/\∃v,(results fn a'.tmps).run P w'=.ok v w'/\
    ∃v_1 ρ' sv H',Ending.returned v=.returned v_1/\(K sv H').holds/\zat H.sc ρ ρ'/\H.le H'/\HInv φ ρ' H' w'/\SIs H'.sc ρ' sv v_1:=by
   intro hh
   obtain⟨s2,ρ2,hh,q1,q2,q3⟩:=preV_ok h3 h4 hh
   obtain⟨sv,v,hK,hr,hs⟩:=results_ok q3 (Out.toV_h hh)
   rw[fGc_eq]at hK
   have sc:∀k,H.sc k->s'.H.sc k:=fun k hk=>⟨Nat.lt_of_lt_of_le hk.1 h2,by rw[h3];trivial⟩
   exact⟨q3.defers,v,hr,v,ρ2,sv,_,rfl,hK,fun k hk=>(q1 k (sc k hk)).trans (h1 k (by rw[Nat.blt_eq];exact hk.1)),⟨zo h2 q2.nxt,by rw[q2.D,h3,hD]⟩,gcI_ok q3.heap _ _,hs⟩
  cases e with
  | normal=>exact fin hK
  | exit i=>exact hK.elim
  | ret=>exact fin hK
noncomputable def verF(P:Program)(con:Con)(u m:Nat)(f:FuncId)(gs:List (Nat×G))(av:AV)(args:List SV)(H:Hp)(K:SV->Hp->V):V:=
 optV (fnF P f) (fun fn=>verT P (ze4 P con (fun _=>.nil) u m) (stride m) u fn gs av args H K) 311
theorem verF_ok{P:Program}{con:Con}(hc:zaj P con){u m:Nat}{f:FuncId}{gs:List (Nat×G)}{av:AV}{φ:Fr}{ρ:Rho}{H:Hp}{w:World}{args:List SV}{vs:List Value}{K:SV->Hp->V}
  (hD:H.D=fun _=>True) (h:HInv φ ρ H w) (hv:VIs H.sc ρ args vs) (hh:(verF P con u m f gs av args H K).holds):
  Calls P f vs.toArray w fun e w'=>∃v ρ' sv H',e=.returned v/\(K sv H').holds/\zat H.sc ρ ρ'/\H.le H'/\HInv φ ρ' H' w'/\SIs H'.sc ρ' sv v:=by
 unfold verF at hh
 try simp only[zaq,za2,zbm,za3]at hh
 obtain⟨fn,hf,hh⟩:=zc1 hh
 exact ver_ok (zfb hc m) hf hD h hv hh
def hlP(τ:Nat->Nat)(h:HL):HL->PL->Option PL
 | [],p=>some p
 | (k,b)::r,p=>match hlP τ h r p with
  | some p=>match find (τ k) h with
   | some c=>bkP c (b.ren τ) p
   | none=>none
  | none=>none
theorem hlP_h{τ:Nat->Nat}{h:HL}:∀ {r:HL} {p l:PL},hlP τ h r p=some l->allP l->leHLr τ h r/\allP p
 | [],p,l,hh,hl=>by simp[hlP]at hh;subst hh;exact⟨trivial,hl⟩
 | (k,b)::r,p,l,hh,hl=>by
  simp only[hlP]at hh
  split at hh
  ·rename_i p1 hp1
   split at hh
   ·rename_i c hc
    obtain⟨g1,g2⟩:=bkP_h hh hl
    obtain⟨g3,g4⟩:=hlP_h hp1 g2
    refine⟨?_,g4⟩
    simp only[leHLr]
    rw[hc];exact⟨g1,g3⟩
   ·cases hh
  ·cases hh
def finV{X:Type}(n nx:Nat)(rd:SV->Hp->Option X)(L:SV->Hp->List Nat)(φ:X->Prop)(sv:X->SV)(h:X->HL)(s:SV)(H:Hp):V:=
 optV (rd s H) (fun x=>.need (φ x) (fNs (L s H) fun L=>fSV (sv x) fun t=>fHL (h x) fun hx=>
  chkV (za5 (hx.map fun p=>tauL n L p.1)&&(stOK ⟨[some t],⟨hx,nx,fun _=>True⟩⟩&&Nat.ble n nx)) (plV (match hlP (tauL n L) H.h hx []with
   | some p=>svP s (t.ren (tauL n L)) p
   | none=>none) .ok 410) 411)) 412
theorem finV_h{X:Type}{n nx:Nat}{rd:SV->Hp->Option X}{L:SV->Hp->List Nat}{φ:X->Prop}{sv:X->SV}{h:X->HL}{s:SV}{H:Hp}(hD:H.D=fun _=>True)(hh:(finV n nx rd L φ sv h s H).holds):
  ∃x,φ x/\goR n (L s H) ⟨[some s],H⟩ ⟨[some (sv x)],⟨h x,nx,fun _=>True⟩⟩/\stOK ⟨[some (sv x)],⟨h x,nx,fun _=>True⟩⟩=true/\n<=nx:=by
 unfold finV at hh
 simp only[fNs_eq,fSV_eq,fHL_eq]at hh
 obtain⟨x,_,hφ,hh⟩:=zc1 hh
 obtain⟨hc,hh⟩:=zb3 hh
 simp only[zx]at hc
 obtain⟨l,hl,hal,_⟩:=plV_h hh
 split at hl
 ·rename_i p hp
  obtain⟨g1,g2⟩:=svP_h hl hal
  obtain⟨g3,_⟩:=hlP_h hp g2
  exact⟨x,hφ,⟨hD,rfl,⟨⟨g1,trivial⟩,g3⟩,hc.1⟩,hc.2.1,zb hc.2.2⟩
 ·cases hl
theorem zae{P:Program}{con:Con}(hc:zaj P con){u m:Nat}{f:FuncId}{gs:List (Nat×G)}{av:AV}{args:List SV}{h0:HL}{n nx:Nat}{pre:Prop}{X:Type}{rd:SV->Hp->Option X}{L:SV->Hp->List Nat}{φ:X->Prop}{sv:X->SV}{h:X->HL}
  (hv:pre->zad (verF P con u m f gs av args ⟨h0,n,fun _=>True⟩ (finV n nx rd L φ sv h))):zah P f args h0 n (.need pre (.any X φ fun x=>.leaf (sv x,⟨h x,nx,fun _=>True⟩))):=by
 intro φ1 ρ w vs K hI hvs hpost
 obtain⟨hpre,_,hK⟩:=hpost
 refine(verF_ok hc rfl hI hvs (hv hpre).h).mono ?_
 rintro e w' ⟨v,ρ',s,H',rfl,hfin,a1,a2,a3,a4⟩
 obtain⟨x,hx,g1,g2,g3⟩:=finV_h a2.D hfin
 have hI:Inv φ1 ρ' ⟨[some s],H'⟩ ⟨#[v],[]⟩ w':=⟨a3,rfl,rfl,fun k x hk=>by
  cases k with
  | zero=>simp at hk;subst hk;exact⟨v,rfl,a4⟩
  | succ k=>simp at hk⟩
 obtain⟨ρ2,k1,k2⟩:=hI.goR g1 g2
 obtain⟨v2,hv2,hs2⟩:=k2.tmps 0 (sv x) rfl
 simp at hv2;subst hv2
 exact⟨v,ρ2,sv x,_,rfl,hK x hx,fun k hk=>(k1 k hk.1).trans (a1 k hk),⟨g3,rfl⟩,k2.heap,hs2⟩
theorem zai{P:Program}{con:Con}(hc:zaj P con){u m:Nat}{f:FuncId}{gs:List (Nat×G)}{av:AV}{args:List SV}{h0:HL}{n nx:Nat}{pre:Prop}{L:SV->Hp->List Nat}{sv:SV}{h:HL}
  (hv:pre->zad (verF P con u m f gs av args ⟨h0,n,fun _=>True⟩ (finV (X:=Unit) n nx (fun _ _=>some ()) L (fun _=>True) (fun _=>sv) (fun _=>h)))):zah P f args h0 n (.need pre (.leaf (sv,⟨h,nx,fun _=>True⟩))):=
 (zae hc hv).mono fun K hK=>⟨hK.1,⟨(),trivial⟩,fun _ _=>hK.2⟩
inductive PS:Type 1 where
 | leaf (X:Type) (nx:Nat) (rd:SV->Hp->Option X) (L:SV->Hp->List Nat) (φ:X->Prop) (sv:X->SV) (h:X->HL)
 | one (nx:Nat) (L:SV->Hp->List Nat) (sv:SV) (h:HL)
 | br (b:Bool) (sel:SV->Hp->Bool) (t e:PS)
def PS.out:PS->Out (SV×Hp)
 | .leaf _ nx _ _ φ sv h=>.any _ φ fun x=>.leaf (sv x,⟨h x,nx,fun _=>True⟩)
 | .one nx _ sv h=>.leaf (sv,⟨h,nx,fun _=>True⟩)
 | .br b _ t e=>.br b t.out e.out
def PS.fin(n:Nat):PS->SV->Hp->V
 | .leaf _ nx rd L φ sv h,s,H=>finV n nx rd L φ sv h s H
 | .one nx L sv h,s,H=>finV (X:=Unit) n nx (fun _ _=>some ()) L (fun _=>True) (fun _=>sv) (fun _=>h) s H
 | .br b sel t e,s,H=>match sel s H with
  | true=>.need (b=true) (t.fin n s H)
  | false=>.need (b=false) (e.fin n s H)
theorem PS.fin_h{n:Nat}{s:SV}{H:Hp}(hD:H.D=fun _=>True):∀ {ps:PS} {K:SV×Hp->Prop},(ps.fin n s H).holds->ps.out.holds K->∃sv H' L,goR n L ⟨[some s],H⟩ ⟨[some sv],H'⟩/\stOK ⟨[some sv],H'⟩=true/\n<=H'.nxt/\K (sv,H'):=by
 intro ps
 induction ps with
 | leaf X nx rd L φ sv h=>
  intro K hf hK
  obtain⟨x,hx,g1,g2,g3⟩:=finV_h hD hf
  exact⟨_,_,_,g1,g2,g3,hK.2 x hx⟩
 | one nx L sv h=>
  intro K hf hK
  obtain⟨x,hx,g1,g2,g3⟩:=finV_h hD hf
  exact⟨_,_,_,g1,g2,g3,hK⟩
 | br b sel t e iht ihe=>
  intro K hf hK
  simp only[PS.fin]at hf
  split at hf
  ·exact iht hf.2 (hK.1 hf.1)
  ·exact ihe hf.2 (hK.2 hf.1)
theorem zcb{P:Program}{con:Con}(hc:zaj P con){u m:Nat}{f:FuncId}{gs:List (Nat×G)}{av:AV}{args:List SV}{h0:HL}{n:Nat}{pre:Prop}{ps:PS}
  (hv:pre->zad (verF P con u m f gs av args ⟨h0,n,fun _=>True⟩ (ps.fin n))):zah P f args h0 n (.need pre ps.out):=by
 intro φ1 ρ w vs K hI hvs hpost
 obtain⟨hpre,hK⟩:=hpost
 refine(verF_ok hc rfl hI hvs (hv hpre).h).mono ?_
 rintro e w' ⟨v,ρ',s,H',rfl,hfin,a1,a2,a3,a4⟩
 obtain⟨sv,H2,L,g1,g2,g3,hK⟩:=PS.fin_h a2.D hfin hK
 have hI:Inv φ1 ρ' ⟨[some s],H'⟩ ⟨#[v],[]⟩ w':=⟨a3,rfl,rfl,fun k x hk=>by
  cases k with
  | zero=>simp at hk;subst hk;exact⟨v,rfl,a4⟩
  | succ k=>simp at hk⟩
 obtain⟨ρ2,k1,k2⟩:=hI.goR g1 g2
 obtain⟨v2,hv2,hs2⟩:=k2.tmps 0 sv rfl
 simp at hv2;subst hv2
 exact⟨v,ρ2,sv,_,rfl,hK,fun k hk=>(k1 k hk.1).trans (a1 k hk),⟨g3,g1.2.1⟩,k2.heap,hs2⟩
def needAll{β:Type}:PL->Out β->Out β
 | [],k=>k
 | p::l,k=>.need p (needAll l k)
theorem needAll_h{β:Type}{K:β->Prop}:∀ {l:PL} {k:Out β},(needAll l k).holds K->allP l/\k.holds K
 | [],k,h=>⟨trivial,h⟩
 | p::l,k,h=>⟨⟨h.1,(needAll_h h.2).1⟩,(needAll_h h.2).2⟩
def useP(σ:List Nat)(n:Nat)(args0:List SV)(h0:HL)(post:Out (SV×Hp))(args:List SV)(H:Hp):Out (SV×Hp):=
 fNs σ fun σ=>fHL h0 fun h0=>chk (zu σ.length n&&za5 σ&&covers n h0) (opt (match hlP (renK n σ H.nxt) H.h h0 []with
   | some p=>vsP args (args0.map (SV.ren (renK n σ H.nxt))) p
   | none=>none) (fun l=>needAll l (post.bind fun q=>
  chk (za5 (q.2.h.map (·.1))) (fSV (q.1.ren (renK n σ H.nxt)) fun sv=>fHL (renH (renK n σ H.nxt) (zba q.2.h)++zaw (zbn h0 σ 0) H.h) fun h=>fN (H.nxt+(q.2.nxt-n)) fun nxt=>.leaf (sv,⟨h,nxt,H.D⟩)) 320)) 322) 321
theorem useP_T{σ:List Nat}{n:Nat}{args0:List SV}{h0:HL}{post:Out (SV×Hp)}{args:List SV}{H:Hp}{K:SV×Hp->Prop}(hh:(useP σ n args0 h0 post args H).holds K):(useT σ n args0 h0 post args H).holds K:=by
 unfold useP at hh
 simp only[fNs_eq,fHL_eq]at hh
 unfold useT
 obtain⟨hb,hh⟩:=zaf hh
 obtain⟨l,hl,hh⟩:=zaa hh
 obtain⟨hal,hh⟩:=needAll_h hh
 rw[hb]
 rw[show ∀(k:Out (SV×Hp)) (n:Nat),chk true k n=k from fun _ _=>rfl]
 split at hl
 ·rename_i p hp
  obtain⟨g1,g2⟩:=vsP_h hl hal
  obtain⟨g3,_⟩:=hlP_h hp g2
  refine⟨⟨g1,g3⟩,?_⟩
  simpa only[fHL_eq]using hh
 ·cases hl
theorem zac{P:Program}{f:FuncId}{c:List SV->Hp->Out (SV×Hp)}(hc:∀args H,(∃n,c args H=.bad n)\/∃σ n args0 h0 post,c args H=useP σ n args0 h0 post args H/\zah P f args0 h0 n post):zab P f c:=by
 intro φ ρ H w args vs K h hv hh
 rcases hc args H with⟨n,e⟩|⟨σ,n,args0,h0,post,e,hl⟩
 ·rw[e]at hh;exact hh.elim
 ·rw[e]at hh
  exact use_ok hl h hv (useP_T hh)
def yesV(sv:SV)(H:Hp):V:=match sv with
 | .c (.kb true)=>.ok
 | .c (.bv b)=>.need (b=true) .ok
 | _=>.bad 420
theorem yesV_h{sv:SV}{H:Hp}(h:(yesV sv H).holds)(ρ:Rho):sv.den ρ=.bool true:=by
 unfold yesV at h
 split at h
 ·rfl
 ·rename_i b;show Value.bool b=.bool true;rw[h.1]
 ·exact h.elim
theorem calls_yesV{Q:Program}{con:Con}(hc:zaj Q con){u m:Nat}{f:FuncId}{gs:List (Nat×G)}{av:AV}{args:List SV}{vs:List Value}{w:World}{h:HL}{n:Nat}{ρ:Rho}
  (hy:zad (verF Q con u m f gs av args ⟨h,n,fun _=>True⟩ yesV))
  (hinv:HInv ⟨w,fun _=>False⟩ ρ ⟨h,n,fun _=>True⟩ w) (hv:VIs (Hp.sc ⟨h,n,fun _=>True⟩) ρ args vs):Calls Q f vs.toArray w fun e w'=>e=.returned (.bool true)/\Below w.heap.size w w':=by
 refine(verF_ok hc rfl hinv hv hy.h).mono ?_
 rintro e w' ⟨v,ρ',sv,H',rfl,hK,_,_,h3,h4⟩
 have hv:v=.bool true:=h4.eq.trans (yesV_h hK ρ')
 subst hv
 exact⟨rfl,h3.fr.os,h3.fr.tape,h3.fr.output,h3.fr.size,fun k hk=>h3.fr.block k hk (fun h=>h)⟩
inductive Sp where
 | z
 | b (x y:Sp)
 | t (x:Sp)
 | f (x:Sp)
def V.pr:Sp->V->V
 | .z,v=>v
 | _,.ok=>.ok
 | _,.bad n=>.bad n
 | s,.need p k=>.need p (V.pr s k)
 | s,.any α φ k=>.any α φ fun x=>V.pr s (k x)
 | .b x y,.br c t e=>.br c (V.pr x t) (V.pr y e)
 | .t x,.br c t e=>.need (c=true) (V.pr x t)
 | .f y,.br c t e=>.need (c=false) (V.pr y e)
theorem V.pr_h:∀ {v:V} {s:Sp},(V.pr s v).holds->v.holds:=by
 intro v
 induction v with
 | ok=>intro s h;trivial
 | br c t e iht ihe=>
  intro s h
  cases s with
  | z=>exact h
  | b x y=>exact⟨fun hb=>iht (h.1 hb),fun hb=>ihe (h.2 hb)⟩
  | t x=>exact⟨fun _=>iht h.2,fun hb=>(by have h1:c=true:=h.1;rw[h1]at hb;cases hb)⟩
  | f y=>exact⟨fun hb=>(by have h1:c=false:=h.1;rw[h1]at hb;cases hb),fun _=>ihe h.2⟩
 | need p k ih=>
  intro s h
  cases s with
  | z=>exact h
  | _=>exact⟨h.1,ih h.2⟩
 | any α φ k ih=>
  intro s h
  cases s with
  | z=>exact h
  | _=>exact fun x hx=>ih x (h x hx)
 | bad n=>
  intro s h
  cases s with
  | _=>exact h
theorem zad.pr{v w:V}{s:Sp}(e:V.pr s v=w)(h:w.holds):zad v:=⟨V.pr_h (s:=s) (by rw[e];exact h)⟩
structure VR (k:Nat) (v:V) (vs:Nat->V):Prop where
 h:(∀j,j<k->(vs j).holds)->v.holds
theorem VR.same{k:Nat}(hk:0<k)(v:V):VR k v fun _=>v:=⟨fun h=>h 0 hk⟩
theorem VR.br{k:Nat}{b:Bool}{t e:V}{ts es:Nat->V}(ht:VR k t ts)(he:VR k e es):VR k (.br b t e) fun j=>.br b (ts j) (es j):=
 ⟨fun h=>⟨fun hb=>ht.h fun j hj=>(h j hj).1 hb,fun hb=>he.h fun j hj=>(h j hj).2 hb⟩⟩
theorem VR.need{k:Nat}(hk:0<k){p:Prop}{t:V}{ts:Nat->V}(ht:VR k t ts):VR k (.need p t) fun j=>.need p (ts j):=
 ⟨fun h=>⟨(h 0 hk).1,ht.h fun j hj=>(h j hj).2⟩⟩
theorem VR.any{k:Nat}{α:Type}{φ:α->Prop}{t:α->V}{ts:Nat->α->V}(ht:∀x,VR k (t x) fun j=>ts j x):VR k (.any α φ t) fun j=>.any α φ (ts j):=
 ⟨fun h x hx=>(ht x).h fun j hj=>h j hj x hx⟩
theorem VR.toV{k:Nat}(hk:0<k){β:Type}{f:β->V}{fs:Nat->β->V}(hf:∀x,VR k (f x) fun j=>fs j x):∀o:Out β,VR k (o.toV f) fun j=>o.toV (fs j):=by
 intro o
 induction o with
 | leaf x=>exact hf x
 | br b t e iht ihe=>exact VR.br iht ihe
 | need p q ih=>exact VR.need hk ih
 | any α φ q ih=>exact VR.need hk (VR.any ih)
 | ge lo q ih=>exact VR.any ih
 | bad n=>exact VR.same hk _
theorem VR.pre{k:Nat}(hk:0<k):∀(gs:List G) {f:St->V} {fs:Nat->St->V} (hf:∀x,VR k (f x) fun j=>fs j x) (s:St),VR k (preV gs s f) fun j=>preV gs s (fs j)
 | [],f,fs,hf,s=>hf s
 | g::l,f,fs,hf,s=>VR.toV hk (fun s=>VR.pre hk l hf s) _
theorem VR.opt{k:Nat}(hk:0<k){α:Type}{o:Option α}{f:α->V}{fs:Nat->α->V}{n:Nat}(hf:∀x,VR k (f x) fun j=>fs j x):VR k (optV o f n) fun j=>optV o (fs j) n:=by
 cases o with
 | none=>exact VR.same hk _
 | some x=>exact hf x
theorem VR.chk{k:Nat}(hk:0<k){b:Bool}{t:V}{ts:Nat->V}{n:Nat}(ht:VR k t ts):VR k (chkV b t n) fun j=>chkV b (ts j) n:=by
 cases b with
 | false=>exact VR.same hk _
 | true=>exact ht
theorem VR.needs{k:Nat}(hk:0<k){t:V}{ts:Nat->V}(ht:VR k t ts):∀l:PL,VR k (V.needs l t) fun j=>V.needs l (ts j)
 | []=>ht
 | p::l=>VR.need hk (VR.needs hk ht l)
theorem VR.pl{k:Nat}(hk:0<k){o:Option PL}{t:V}{ts:Nat->V}{n:Nat}(ht:VR k t ts):VR k (plV o t n) fun j=>plV o (ts j) n:=by
 cases o with
 | none=>exact VR.same hk _
 | some l=>exact VR.needs hk ht l
theorem VR.allN{k:Nat}(hk:0<k){f:Nat->V}{fs:Nat->Nat->V}(hf:∀x,VR k (f x) fun j=>fs j x):∀n i:Nat,VR k (allN n i f) fun j=>allN n i (fs j)
 | 0,_=>VR.same hk _
 | n+1,i=>VR.any fun b=>VR.br (hf i) (VR.allN hk hf n (i+1))
theorem VR.anyS{k:Nat}(hk:0<k){n:Nat}{X:Type}{I:Nat×X->Prop}{f:Nat×X->V}{fs:Nat->Nat×X->V}(hf:∀x,VR k (f x) fun j=>fs j x):VR k (anyS n I f) fun j=>anyS n I (fs j):=
 VR.need hk (VR.allN hk (fun i=>VR.any fun x=>hf (i,x)) n 0)
theorem VR.anyC{k:Nat}(hk:0<k){n:Sh}{X:Type}{I:Nat×X->Prop}{f:Nat×X->V}{fs:Nat->Nat×X->V}(hf:∀x,VR k (f x) fun j=>fs j x):VR k (anyC n I f) fun j=>anyC n I (fs j):=by
 cases n with
 | all n=>exact VR.anyS hk hf
 | one n=>exact VR.need hk (VR.any fun x=>hf (n,x))
 | to n=>exact VR.need hk (VR.allN hk (fun i=>VR.any fun x=>hf (i,x)) n 1)
theorem VR.loop{k:Nat}(hk:0<k){X:Type}{la:LA X}{q:(X->V)->V}(hq:∀ {f:X->V} {fs:Nat->X->V},(∀x,VR k (f x) fun j=>fs j x)->VR k (q f) fun j=>q (fs j)){as:List Nat}{pr:Nat->Bool}{body:(Nat->Bool)->Nat->St->(Ex->St->V)->V}
  (hb:∀(pr:Nat->Bool) (n:Nat) (s:St) {K:Ex->St->V} {Ks:Nat->Ex->St->V},(∀e s,VR k (K e s) fun j=>Ks j e s)->VR k (body pr n s K) fun j=>body pr n s (Ks j)) (s:St) {K:Ex->St->V} {Ks:Nat->Ex->St->V} (hK:∀e s,VR k (K e s) fun j=>Ks j e s):
  VR k (loopV la q as pr body s K) fun j=>loopV la q as pr body s (Ks j):=by
 unfold loopV
 simp only[fNs_eq,fTm_eq,fHL_eq,fSt_eq]
 refine VR.chk hk (VR.opt hk fun x0=>VR.need hk ?_)
 unfold fitV
 refine VR.pl hk (hq fun x=>VR.chk hk (hb _ _ _ fun e s1=>?_))
 cases e with
 | normal=>exact VR.same hk _
 | _=>exact VR.chk hk (hK _ _)
theorem VR.both{k:Nat}{a b:V}{as bs:Nat->V}(ha:VR k a as)(hb:VR k b bs):VR k (Sx.both a b) fun j=>Sx.both (as j) (bs j):=VR.any fun _=>VR.br ha hb
theorem VR.exitV{k:Nat}(hk:0<k){hr:HL}{K:Ex->St->V}{Ks:Nat->Ex->St->V}(hK:∀e s,VR k (K e s) fun j=>Ks j e s)(e:Ex)(s:St):VR k (Sx.exitV hr K e s) fun j=>Sx.exitV hr (Ks j) e s:=by
 unfold Sx.exitV
 simp only[fHL_eq]
 exact VR.chk hk (hK _ _)
theorem VR.cut{k:Nat}(hk:0<k){X:Type}{la:LA X}{q:(X->V)->V}(hq:∀ {f:X->V} {fs:Nat->X->V},(∀x,VR k (f x) fun j=>fs j x)->VR k (q f) fun j=>q (fs j)){as:List Nat}{pr:Nat->Bool}{ba bb:(Nat->Bool)->Nat->St->(Ex->St->V)->V}
  (ha:∀(pr:Nat->Bool) (n:Nat) (s:St) {K:Ex->St->V} {Ks:Nat->Ex->St->V},(∀e s,VR k (K e s) fun j=>Ks j e s)->VR k (ba pr n s K) fun j=>ba pr n s (Ks j))
  (hb:∀(pr:Nat->Bool) (n:Nat) (s:St) {K:Ex->St->V} {Ks:Nat->Ex->St->V},(∀e s,VR k (K e s) fun j=>Ks j e s)->VR k (bb pr n s K) fun j=>bb pr n s (Ks j)) (s:St) {K:Ex->St->V} {Ks:Nat->Ex->St->V} (hK:∀e s,VR k (K e s) fun j=>Ks j e s):
  VR k (cutV la q as pr ba bb s K) fun j=>cutV la q as pr ba bb s (Ks j):=by
 unfold cutV
 simp only[fNs_eq,fTm_eq,fHL_eq,fSt_eq]
 refine VR.chk hk (VR.opt hk fun x0=>?_)
 unfold fitV
 refine VR.pl hk (VR.chk hk (VR.both (ha _ _ _ fun e s1=>?_) (hq fun x=>VR.chk hk (hb _ _ _ fun e s1=>VR.exitV hk hK _ _))))
 cases isStop e with
 | true=>exact VR.same hk _
 | false=>exact VR.exitV hk hK _ _
theorem VR.seq{k:Nat}{A B:(Nat->Bool)->Nat->St->(Ex->St->V)->V}{st:Bool}
  (ha:∀(pr:Nat->Bool) (n:Nat) (s:St) {K:Ex->St->V} {Ks:Nat->Ex->St->V},(∀e s,VR k (K e s) fun j=>Ks j e s)->VR k (A pr n s K) fun j=>A pr n s (Ks j))
  (hb:∀(pr:Nat->Bool) (n:Nat) (s:St) {K:Ex->St->V} {Ks:Nat->Ex->St->V},(∀e s,VR k (K e s) fun j=>Ks j e s)->VR k (B pr n s K) fun j=>B pr n s (Ks j)) (pr:Nat->Bool) (n0:Nat) (s:St) {K:Ex->St->V} {Ks:Nat->Ex->St->V} (hK:∀e s,VR k (K e s) fun j=>Ks j e s):
  VR k (seqV A B st pr n0 s K) fun j=>seqV A B st pr n0 s (Ks j):=by
 unfold seqV
 refine ha _ _ _ fun e s1=>?_
 cases e with
 | normal=>
  cases st with
  | true=>exact hK _ _
  | false=>exact hb _ _ _ hK
 | exit i=>exact hK _ _
 | ret=>exact hK _ _
theorem VR.unroll{k:Nat}(hk:0<k){body:St->(Ex->St->V)->V}(hb:∀(s:St) {K:Ex->St->V} {Ks:Nat->Ex->St->V},(∀e s,VR k (K e s) fun j=>Ks j e s)->VR k (body s K) fun j=>body s (Ks j)):
  ∀(n:Nat) (s:St) {K:Ex->St->V} {Ks:Nat->Ex->St->V},(∀e s,VR k (K e s) fun j=>Ks j e s)->VR k (zdh body n s K) fun j=>zdh body n s (Ks j)
 | 0,s,K,Ks,hK=>VR.same hk _
 | n+1,s,K,Ks,hK=>hb s fun e s1=>by
  cases e with
  | normal=>exact VR.unroll hk hb n s1 hK
  | _=>exact hK _ _
theorem allN_i:∀ {n j:Nat} {k:Nat->V},(∀i,j<=i->i<j+n->(k i).holds)->(allN n j k).holds
 | 0,j,k,_=>trivial
 | n+1,j,k,h=>fun b _=>⟨fun _=>h j (Z _) (by omega),fun _=>allN_i fun i h1 h2=>h i (by omega) (by omega)⟩
def onlyS(m k n j:Nat){X:Type}(I:Nat×X->Prop)(K:Nat×X->V):V:=chkV (Nat.ble m (n*k)) (.need (∀x,I x->x.1<m) (fN (j*n) fun j0=>allN n j0 fun i=>.any X (fun x=>I (i,x)) fun x=>K (i,x))) 420
theorem VR.only{m k n:Nat}(hk:0<k){X:Type}{I:Nat×X->Prop}{K:Nat×X->V}:VR k (Sx.anyS m I K) fun j=>onlyS m k n j I K:=by
 constructor
 intro h
 have h0:=zb3 (h 0 hk)
 have hm:=zb h0.1
 refine⟨h0.2.1,allN_i fun i _ hi=>?_⟩
 have hn:0<n:=by
  rcases Nat.eq_zero_or_pos n with e|e
  ·subst e;omega
  ·exact e
 have hi:i<n*k:=by omega
 have h1:=(zb3 (h (i / n) (Nat.div_lt_of_lt_mul hi))).2.2
 rw[fN_eq]at h1
 refine allN_h h1 i (Nat.div_mul_le_self i n) ?_
 have h2:=Nat.div_add_mod i n
 have h3:=Nat.mod_lt i hn
 have e:i / n*n=n*(i / n):=Nat.mul_comm _ _
 omega
end Go.Proofs.YtabiechfpefjhaaGreat.Sx
