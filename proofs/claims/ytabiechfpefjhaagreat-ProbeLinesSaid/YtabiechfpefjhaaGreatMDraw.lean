/- A part of the proof. -/
import Derived.Test.YtabiechfpefjhaaGreatMOps
set_option linter.unusedVariables false
set_option linter.unusedSimpArgs false
open Nat renaming le_refl -> Z, zero_add -> z8
open Bool renaming and_eq_true -> zx
namespace Go.Proofs.YtabiechfpefjhaaGreat.Sx
open Go Go.RowKit
def Blk.ro:Blk->Blk
 | .own _ _ cs=>.view 1 (fun _=>1) (cs.map fun|some c=>.ck [c]|none=>.cu)
 | .row _ _ n cols=>.view 1 (fun _=>n) cols
 | .view m n cols=>.view m n cols
 | .fam _ t cap n cols=>.fam false t cap n cols
theorem Blk.ro_sat{n:Nat->Prop}{ρ:Rho}{key:Nat}{w:World}{b:Blk}(h:b.sat n ρ key w):b.ro.sat n ρ key w:=by
 cases b with
 | own t size cs=>
  obtain⟨b,arr,h1,h2,h3,h4,h5⟩:=h
  intro i hi e he
  have hi0:i=0:=by omega
  have he0:e=0:=by simp at he;exact he
  subst hi0 he0
  refine⟨b,0,h1,fun f col c hf hc=>?_⟩
  simp only[List.getElem?_map,Option.map_eq_some_iff]at hf
  obtain⟨oc,hoc,rfl⟩:=hf
  cases oc with
  | none=>simp[Col.get]at hc
  | some d=>
   simp[Col.get]at hc
   subst hc
   obtain⟨v,hv,hs⟩:=h5 f d hoc
   exact⟨v,by rw[adr_zero,add_none,cell_of_row w b _ arr t _ h2];simpa using hv,hs⟩
 | row t cap m cols=>
  intro i hi e he
  have hi0:i=0:=by omega
  subst hi0
  rcases h with⟨h0,_⟩|⟨b,arr,h1,h2,h3,h4,h4',h5⟩
  ·simp only at he;omega
  refine⟨b,0,h1,fun f col c hf hc=>?_⟩
  obtain⟨v,hv,hs⟩:=h5 e he f col c hf hc
  exact⟨v,by rw[adr_zero,add_none,cell_of_row w b _ arr t _ h2];simpa using hv,hs⟩
 | view m len cols=>exact h
 | fam rw t cap len cols=>exact h
theorem Blk.ro_live{b:Blk}(hs:∀t cap n cols,b=.row t cap n cols->n<=cap){i:Nat}(h:b.ro.live i):b.live i:=by
 cases b with
 | own t size cs=>obtain⟨h1,_⟩:=h;show i=0;omega
 | row t cap n cols=>obtain⟨h1,h2⟩:=h;have:=hs _ _ _ _ rfl;have h2:0<n:=h2;exact⟨by omega,by omega⟩
 | view m len cols=>exact h
 | fam rw t cap len cols=>exact h
theorem Blk.sat_row_le{n:Nat->Prop}{ρ:Rho}{key:Nat}{w:World}{b:Blk}(h:b.sat n ρ key w):∀t cap l cols,b=.row t cap l cols->l<=cap:=by
 rintro t cap l cols rfl
 rcases h with h|⟨_,_,_,_,_,h,_⟩
 ·omega
 ·exact h
theorem Blk.ro_isRow(b:Blk):b.ro.isRow=false:=by cases b<;>rfl
def mem(k:Nat):List Nat->Bool
 | []=>false
 | x::l=>Nat.beq k x || mem k l
theorem zau{k:Nat}:∀ {l:List Nat},mem k l=true↔k∈l
 | []=>by simp[mem]
 | x::l=>by
  simp only[mem,Bool.or_eq_true,List.mem_cons,zau (l:=l)]
  constructor
  ·rintro(h|h)
   ·exact .inl (Nat.eq_of_beq_eq_true h)
   ·exact .inr h
  ·rintro(rfl|h)
   ·exact .inl (Nat.beq_refl _)
   ·exact .inr h
def zbw(F W:List Nat):HL->HL
 | []=>[]
 | (k,b)::r=>match mem k W,mem k F with
  | true,_=>(k,b)::zbw F W r
  | false,true=>(k,b.ro)::zbw F W r
  | false,false=>zbw F W r
def zaw(W:List Nat):HL->HL
 | []=>[]
 | (k,b)::r=>match mem k W with
  | true=>zaw W r
  | false=>(k,b)::zaw W r
def zcn(N:Nat)(W:List Nat):HL->HL
 | []=>[]
 | (k,b)::r=>match mem k W || Nat.ble N k with
  | true=>(k,b)::zcn N W r
  | false=>zcn N W r
theorem zea(F W:List Nat)(key:Nat):∀h:HL,find key (zbw F W h)=if key∈W then find key h else if key∈F then(find key h).map Blk.ro else none
 | []=>by simp[zbw,find]
 | (k,b)::r=>by
  have ih:=zea F W key r
  simp only[zbw]
  split
  ·rename_i h1
   rw[zau]at h1
   rw[zag,zag,ih]
   by_cases e:key=k
   ·subst e;simp[h1]
   ·simp[e]
  ·rename_i h1 h2
   rw[zau]at h2
   have h1:k∉W:=fun h=>by rw[<-zau]at h;rw[h]at h1;cases h1
   rw[zag,zag,ih]
   by_cases e:key=k
   ·subst e;simp[h1,h2]
   ·simp[e]
  ·rename_i h1 h2
   have h1:k∉W:=fun h=>by rw[<-zau]at h;rw[h]at h1;cases h1
   have h2:k∉F:=fun h=>by rw[<-zau]at h;rw[h]at h2;cases h2
   rw[zag,ih]
   by_cases e:key=k
   ·subst e;simp[h1,h2]
   ·simp[e]
theorem zcf(W:List Nat)(key:Nat):∀h:HL,find key (zaw W h)=if key∈W then none else find key h
 | []=>by simp[zaw,find]
 | (k,b)::r=>by
  have ih:=zcf W key r
  simp only[zaw]
  split
  ·rename_i h1
   rw[zau]at h1
   rw[zag,ih]
   by_cases e:key=k
   ·subst e;simp[h1]
   ·simp[e]
  ·rename_i h1
   have h1:k∉W:=fun h=>by rw[<-zau]at h;rw[h]at h1;cases h1
   rw[zag,zag,ih]
   by_cases e:key=k
   ·subst e;simp[h1]
   ·simp[e]
theorem find_newOf(N:Nat)(W:List Nat)(key:Nat):∀h:HL,find key (zcn N W h)=if key∈W\/N<=key then find key h else none
 | []=>by simp[zcn,find]
 | (k,b)::r=>by
  have ih:=find_newOf N W key r
  simp only[zcn]
  split
  ·rename_i h1
   have h1:k∈W\/N<=k:=by
    simp only[Bool.or_eq_true,zau]at h1
    exact h1.imp id Nat.le_of_ble_eq_true
   rw[zag,zag,ih]
   by_cases e:key=k
   ·subst e;simp[h1]
   ·simp[e]
  ·rename_i h1
   have h1:¬(k∈W\/N<=k):=fun h=>by
    have:(mem k W || Nat.ble N k)=true:=by
     simp only[Bool.or_eq_true,zau]
     exact h.imp id Nat.ble_eq_true_of_le
    rw[this]at h1;cases h1
   rw[zag,ih]
   by_cases e:key=k
   ·subst e;simp[h1]
   ·simp[e]
theorem zct(key:Nat):∀a b:HL,find key (a++b)=(find key a).or (find key b)
 | [],b=>by simp[find]
 | (k,x)::a,b=>by
  rw[List.cons_append,zag,zag,zct key a b]
  by_cases e:key=k<;>simp[e]
theorem ze8{key:Nat}{b:Blk}:∀ {h:HL},find key h=some b->key∈h.map (·.1)
 | [],h=>by simp[find]at h
 | (k,x)::r,h=>by
  rw[zag]at h
  by_cases e:key=k
  ·subst e;simp
  ·rw[if_neg e]at h;exact List.mem_cons_of_mem _ (ze8 h)
theorem zdn{key:Nat}:∀ {h:HL},key∈h.map (·.1)->∃b,find key h=some b
 | [],h=>by simp at h
 | (k,x)::r,h=>by
  rw[zag]
  by_cases e:key=k
  ·subst e;exact⟨x,by simp⟩
  ·rw[if_neg e]
   simp only[List.map_cons,List.mem_cons]at h
   exact zdn (h.resolve_left e)
structure Lf where
 sv:SV
 F:List Nat
 W:List Nat
 upd:HL
 M:List (Nat×Nat×SC)   -- cells that it read,of blocks that others may write meanwhile: these cells stay
def maskOf(ms:List Nat)(es:List Edge):Nat:=es.foldl (fun m e=>bif Region.binds .any e then m ||| 2 ^ e.on ||| (ms[e.on]?).getD 0 else m) 0
def zdo:List Oper->List Nat->List Nat
 | [],ms=>ms
 | o::os,ms=>zdo os (ms++[maskOf ms o.after.toList])
def ancOf(ms:List Nat)(k j:Nat):Bool:=((ms[k]?).getD 0).testBit j
structure Rg where
 P:Program
 callT:CallT
 ops:List Oper
 anc:Nat->Nat->Bool
 wr:Nat->Bool
 lz:Nat->Bool
 S:Nat
 s0:St
def Rg.N(R:Rg)(k:Nat):Nat:=R.s0.H.nxt+k*R.S
def Rg.D(R:Rg)(k:Nat):Nat->Prop:=fun x=>R.s0.H.sc x\/(∃j,R.anc k j=true/\R.N j<=x/\x<R.N j+R.S)\/R.N k<=x
def Rg.scope(R:Rg)(k:Nat):Nat->Prop:=fun x=>x<R.N k+R.S/\R.D k x
def vt(anc:Nat->Nat->Bool)(k:Nat)(L:LM Lf):List Oper->Nat->List (Option SV)->List (Option SV)
 | [],_,t=>t
 | o::os,j,t=>vt anc k L os (j+1) (match o.dst with
  | none=>t
  | some d=>match anc k j,anc j k with
   | true,_=>t.set d ((L j).map (·.sv))
   | false,true=>t
   | false,false=>t.set d none)
def vh(sel:Nat->Bool)(L:LM Lf):Nat->HL->HL
 | 0,h=>h
 | j+1,h=>match sel j with
  | true=>match L j with
   | some x=>x.upd++zaw x.W (vh sel L j h)
   | none=>vh sel L j h
  | false=>vh sel L j h
def SC.keys:SC->List Nat
 | .ptr key ..=>[key]
 | .slc key ..=>[key]
 | .ifc _ key ..=>[key]
 | .fn _ caps=>caps
 | _=>[]
def SV.keys:SV->List Nat
 | .c x=>x.keys
 | _=>[]
def keysT(s:St)(x:Operand):List Nat:=((zbe s x).map SV.keys).getD []
def zc2:Col->List Nat
 | .cs key ..=>[key]
 | .cp key ..=>[key]
 | .cf _ key ..=>[key]
 | .ck l=>l.flatMap SC.keys
 | .cc c=>c.keys
 | .ov _ _ c col=>c.keys++zc2 col
 | .lt _ a b=>zc2 a++zc2 b
 | .sel _ a b=>zc2 a++zc2 b
 | _=>[]
def blkKeysD:Blk->List Nat
 | .own _ _ cs=>cs.flatMap fun|some c=>c.keys|none=>[]
 | .row _ _ _ cols=>cols.flatMap zc2
 | .view _ _ cols=>cols.flatMap zc2
 | .fam _ _ _ _ cols=>cols.flatMap zc2
def markD(h:HL):Nat->List Nat->List Nat->List Nat
 | 0,_,seen=>seen
 | _+1,[],seen=>seen
 | n+1,k::todo,seen=>match mem k seen with
  | true=>markD h n todo seen
  | false=>markD h n ((match find k h with|some b=>blkKeysD b|none=>[])++todo) (k::seen)
def zgv:List SV->List Nat
 | []=>[]
 | .c (.ptr key ..)::l=>key::zgv l
 | .c (.ifc _ key ..)::l=>key::zgv l
 | _::l=>zgv l
def localsO:List Oper->List Nat->List Nat
 | [],L=>L
 | o::l,L=>match o.op,o.dst with
  | .alloc _,some d|.box ..,some d=>localsO l (d::L)
  | .fieldAddr _ (.tmp x) _,some d=>match mem x L with
   | true=>localsO l (d::L)
   | false=>localsO l L
  | _,_=>localsO l L
def zeu:Code->List Nat->List Nat
 | .region _ ops _,L=>localsO ops.toList L
 | .seq a b,L=>zeu b (zeu a L)
 | .cond _ a b,L=>zeu b (zeu a L)
 | .block _ c,L=>zeu c L
 | .loop c,L=>zeu c L
 | _,L=>L
def storesO(L:List Nat)(sf:FuncId->Bool):List Oper->Bool
 | []=>false
 | o::l=>(match o.op with
  | .store _ x _=>match x with
   | .tmp t=>!(mem t L)
   | _=>true
  | .call c=>match c.callee with
   | .value (.func g)=>sf g
   | .invoke ..=>true
   | _=>false
  | _=>false) || storesO L sf l
def zes(L:List Nat)(sf:FuncId->Bool):Code->Bool
 | .region _ ops _=>storesO L sf ops.toList
 | .seq a b=>zes L sf a || zes L sf b
 | .cond _ a b=>zes L sf a || zes L sf b
 | .block _ c=>zes L sf c
 | .loop c=>zes L sf c
 | _=>false
def storesF(P:Program):Nat->FuncId->Bool
 | 0,_=>false
 | d+1,f=>match fnF P f with
  | some fn=>match fn.body with
   | some c=>zes (zeu c []) (storesF P d) c
   | none=>false
  | none=>false
def svKeysD:SV->List Nat
 | .c x=>x.keys
 | .a l=>l.flatMap SC.keys
 | .t _=>[]
def callFW(P:Program)(s:St)(c:Call):List Nat×List Nat:=
 match ze2 s c.args.toList,(match c.callee with|.invoke x _=>ze2 s [x]|.value x=>ze2 s [x]|_=>some []) with
 | some a,some b=>(markD s.H.h 64 ((b++a).flatMap svKeysD) [],match (match c.callee with|.value (.func f)=>storesF P 4 f|.invoke ..=>true|_=>false) with
  | true=>let ks:=markD s.H.h 64 (zgv (b++a)) []
   (s.H.h.filter fun p=>p.2.isRow&&mem p.1 ks).map (·.1)
  | false=>[])
 | _,_=>([],[])
def keysA(s:St)(x:Operand):List Nat:=match zbe s x with
 | some (.c (.ptr k _ _ _ _))=>[k]
 | _=>[]
def foot(P:Program)(wr:Bool)(s:St)(o:Op):List Nat×List Nat:=
 match o with
 | .load _ x|.nilCheck x|.fieldAddr _ x _|.indexAddr _ x _=>(keysT s x,[])
 | .store _ x _=>([],keysT s x)
 | .slice _ x _ _ _=>(keysA s x,[])
 | .binOp _ _ x y _=>(keysT s x++keysT s y,[])
 | .call c=>match c.callee with
  | .builtin .append=>match c.args.toList with
   | [x,y]=>(keysT s y,keysT s x)
   | _=>([],[])
  | .builtin _=>([],[])
  | _=>match wr with
   | true=>((s.H.h.filter fun p=>!p.2.isRow).map (·.1),(s.H.h.filter fun p=>p.2.isRow).map (·.1))
   | false=>callFW P s c
 | _=>([],[])
def zcl:HL->Bool
 | []=>true
 | (_,b)::r=>b.isRow&&zcl r
def Rg.view(R:Rg)(k:Nat)(L:LM Lf):St:=⟨vt R.anc k L R.ops 0 R.s0.tmps,⟨vh (R.anc k) L R.ops.length R.s0.H.h,R.N k,R.D k⟩⟩
theorem restr_nil:∀h:HL,zbw [] [] h=[]
 | []=>rfl
 | (k,b)::r=>by simp only[zbw,mem];exact restr_nil r
def restr':List Nat->List Nat->HL->HL
 | [],[],_=>[]
 | F,W,h=>zbw F W h
theorem restr'_eq(F W:List Nat)(h:HL):restr' F W h=zbw F W h:=by
 unfold restr'
 split
 ·rw[restr_nil]
 ·rfl
def fLf{β:Type 1}(x:Lf)(k:Lf->β):β:=match x with|⟨sv,F,W,upd,M⟩=>fSV sv fun sv=>fNs F fun F=>fNs W fun W=>fHL upd fun upd=>k ⟨sv,F,W,upd,M⟩
theorem fLf_eq{β:Type 1}(x:Lf)(k:Lf->β):fLf x k=k x:=by cases x;simp[fLf]
def noKey:SC->Bool
 | .ki ..|.iv ..|.kb _|.bv _=>true
 | _=>false
def cellM(H:HL):Option SV->Option (Nat×Nat×Nat×SC)
 | some (.c (.ptr key _ _ f _))=>match find key H with
  | some (.own _ _ cs)=>match (cs[f]?:Option (Option SC)) with
   | some (some c)=>match noKey c with
    | true=>some (key,cs.length,f,c)
    | false=>none
   | _=>none
  | _=>none
 | _=>none
def maskO(P:Program)(s:St):Op->Option (Nat×Nat×Nat×SC)
 | .load t x=>match isAggT P t with
  | some false=>cellM s.H.h (zbe s x)
  | _=>none
 | .nilCheck x=>cellM s.H.h (zbe s x)
 | .fieldAddr _ x _=>cellM s.H.h (zbe s x)
 | _=>none
def viewM(n f:Nat)(c:SC):Blk:=.view 1 (fun _=>1) ((List.replicate n Col.cu).set f (.ck [c]))
def Rg.mk'(R:Rg)(k:Nat)(s:St)(o:Op):Option (Nat×Nat×Nat×SC):=match R.lz k with
 | true=>maskO R.P s o
 | false=>none
def Rg.TV(R:Rg)(k:Nat)(v:St):Out Lf:=
 opt (R.ops[k]?) (fun o=>(guardT R.ops v o).bind fun
  | false=>.leaf ⟨.t [],[],[],[],[]⟩
  | true=>match R.mk' k v o.op with
   | some (key,n,f,c)=>fN (R.N k) fun N=>(opT R.P R.callT ⟨v.tmps,⟨[(key,viewM n f c)],N,R.D k⟩⟩ o.op).bind fun r=>(zcx (isG R.ops o.dst) r).bind fun r=>
    chk (Nat.ble r.2.nxt (N+R.S)&&zcl (zcn N [] r.2.h)) (.leaf ⟨r.1,[],[],zcn N [] r.2.h,[(key,f,c)]⟩) 240
   | none=>fNs (foot R.P (R.wr k) v o.op).1 fun F=>fNs (foot R.P (R.wr k) v o.op).2 fun W=>fHL (restr' F W v.H.h) fun rv=>fN (R.N k) fun N=>fNs ((rv.map (·.1)).filter (mem · W)) fun W=>
    (opT R.P R.callT ⟨v.tmps,⟨rv,N,R.D k⟩⟩ o.op).bind fun r=>(zcx (isG R.ops o.dst) r).bind fun r=>
     chk (Nat.ble r.2.nxt (N+R.S)&&zcl (zcn N W r.2.h)) (.leaf ⟨r.1,rv.map (·.1),W,zcn N W r.2.h,[]⟩) 240) 241
def Rg.T(R:Rg)(k:Nat)(L:LM Lf):Out Lf:=
 opt (R.ops[k]?) (fun o=>(guardT R.ops (R.view k L) o).bind fun
  | false=>.leaf ⟨.t [],[],[],[],[]⟩
  | true=>match R.mk' k (R.view k L) o.op with
   | some (key,n,f,c)=>(opT R.P R.callT ⟨(R.view k L).tmps,⟨[(key,viewM n f c)],R.N k,R.D k⟩⟩ o.op).bind fun r=>(zcx (isG R.ops o.dst) r).bind fun r=>
    chk (Nat.ble r.2.nxt (R.N k+R.S)&&zcl (zcn (R.N k) [] r.2.h)) (.leaf ⟨r.1,[],[],zcn (R.N k) [] r.2.h,[(key,f,c)]⟩) 240
   | none=>
    let fw:=foot R.P (R.wr k) (R.view k L) o.op
    let rv:=zbw fw.1 fw.2 (R.view k L).H.h
    let W:=(rv.map (·.1)).filter (mem · fw.2)
    (opT R.P R.callT ⟨(R.view k L).tmps,⟨rv,R.N k,R.D k⟩⟩ o.op).bind fun r=>(zcx (isG R.ops o.dst) r).bind fun r=>
     chk (Nat.ble r.2.nxt (R.N k+R.S)&&zcl (zcn (R.N k) W r.2.h)) (.leaf ⟨r.1,rv.map (·.1),W,zcn (R.N k) W r.2.h,[]⟩) 240) 241
theorem TV_eq(R:Rg)(k:Nat)(L:LM Lf):R.TV k (R.view k L)=R.T k L:=by
 unfold Rg.TV Rg.T
 simp only[fNs_eq,fHL_eq,fN_eq,restr'_eq]
def ofL(l:List Lf):LM Lf:=fun j=>l[j]?
theorem ofL_snoc(l:List Lf)(x:Lf):(ofL l).set l.length x=ofL (l++[x]):=by
 funext j
 unfold ofL LM.set
 by_cases h:j=l.length
 ·subst h;simp
 ·rw[if_neg h]
  show l[j]?=(l++[x])[j]?
  rcases Nat.lt_or_ge j l.length with h1|h1
  ·rw[List.getElem?_append_left h1]
  ·rw[List.getElem?_eq_none h1,List.getElem?_eq_none (by simp;omega)]
def vtL(anc:Nat->Nat->Bool)(k:Nat):List Lf->List Oper->Nat->List (Option SV)->List (Option SV)
 | _,[],_,t=>t
 | l,o::os,j,t=>vtL anc k l.tail os (j+1) (match o.dst with
  | none=>t
  | some d=>match anc k j,anc j k with
   | true,_=>t.set d (l.head?.map (·.sv))
   | false,true=>t
   | false,false=>t.set d none)
theorem vtL_eq(anc:Nat->Nat->Bool)(k:Nat)(l0:List Lf):∀(os:List Oper) (j:Nat) (t:List (Option SV)),vtL anc k (l0.drop j) os j t=vt anc k (ofL l0) os j t
 | [],j,t=>by simp[vtL,vt]
 | o::os,j,t=>by
  have h1:(l0.drop j).tail=l0.drop (j+1):=by simp
  have h2:(l0.drop j).head?=ofL l0 j:=by simp[ofL,List.head?_drop]
  simp only[vtL,vt,h1,h2]
  exact vtL_eq anc k l0 os (j+1) _
def vhL(sel:Nat->Bool):List Lf->Nat->HL->HL
 | [],_,h=>h
 | x::l,j,h=>match x.upd,x.W with
  | [],[]=>vhL sel l (j+1) h
  | u,W=>vhL sel l (j+1) (match sel j with|true=>u++zaw W h|false=>h)
theorem dropAll_nil:∀h:HL,zaw [] h=h
 | []=>rfl
 | (k,b)::r=>by simp only[zaw,mem,dropAll_nil r]
theorem vhL_cons(sel:Nat->Bool)(x:Lf)(l:List Lf)(j:Nat)(h:HL):vhL sel (x::l) j h=vhL sel l (j+1) (match sel j with|true=>x.upd++zaw x.W h|false=>h):=by
 conv=>lhs;unfold vhL
 split
 ·rename_i h1 h2
  rw[h1,h2,dropAll_nil,List.nil_append]
  cases sel j<;>rfl
 ·rfl
theorem vhL_eq(sel:Nat->Bool)(l0:List Lf)(h0:HL):∀(l:List Lf) (j:Nat),l0.drop j=l->j<=l0.length->vhL sel l j (vh sel (ofL l0) j h0)=vh sel (ofL l0) l0.length h0
 | [],j,h,hj=>by
  have:l0.length<=j:=List.drop_eq_nil_iff.1 h
  have:j=l0.length:=by omega
  subst this;rfl
 | x::l,j,h,hj=>by
  have hx:l0[j]?=some x:=by rw[<-List.head?_drop,h];rfl
  have hlt:j<l0.length:=(List.getElem?_eq_some_iff.1 hx).1
  have ht:l0.drop (j+1)=l:=by rw[<-List.tail_drop,h];rfl
  have:=vhL_eq sel l0 h0 l (j+1) ht hlt
  rw[<-this]
  rw[vhL_cons]
  simp only[vh]
  have ho:ofL l0 j=some x:=hx
  rw[ho]
theorem vh_more(sel:Nat->Bool)(l0:List Lf)(h0:HL):∀m,vh sel (ofL l0) (l0.length+m) h0=vh sel (ofL l0) l0.length h0
 | 0=>rfl
 | m+1=>by
  have hn:ofL l0 (l0.length+m)=none:=List.getElem?_eq_none (Nat.le_add_right _ _)
  show vh sel (ofL l0) ((l0.length+m)+1) h0=_
  simp only[vh,hn]
  rw[vh_more sel l0 h0 m]
  cases sel (l0.length+m)<;>rfl
theorem vhL_view(sel:Nat->Bool)(l0:List Lf)(h0:HL){n:Nat}(hn:l0.length<=n):vhL sel l0 0 h0=vh sel (ofL l0) n h0:=by
 have h1:=vhL_eq sel l0 h0 l0 0 rfl (Nat.zero_le _)
 have h2:=vh_more sel l0 h0 (n-l0.length)
 rw[show l0.length+(n-l0.length)=n by omega]at h2
 rw[h2,<-h1]
 rfl
def lastV(anc:Nat->Nat->Bool)(k:Nat):List Lf->List Oper->Nat->Nat->Option SV->Option SV
 | _,[],_,_,x=>x
 | l,o::os,j,i,x=>lastV anc k l.tail os (j+1) i (match o.dst with
  | none=>x
  | some d=>match Nat.beq d i with
   | false=>x
   | true=>match anc k j,anc j k with
    | true,_=>l.head?.map (·.sv)
    | false,true=>x
    | false,false=>none)
def vtM(anc:Nat->Nat->Bool)(k:Nat)(l:List Lf)(os:List Oper):Nat->List (Option SV)->List (Option SV)
 | _,[]=>[]
 | i,x::t=>lastV anc k l os 0 i x::vtM anc k l os (i+1) t
theorem vtL_get(anc:Nat->Nat->Bool)(k:Nat):∀(os:List Oper) (l:List Lf) (j:Nat) (t:List (Option SV)) (n:Nat),(vtL anc k l os j t)[n]?=(t[n]?).map fun x=>lastV anc k l os j n x
 | [],l,j,t,n=>by simp[vtL,lastV]
 | o::os,l,j,t,n=>by
  simp only[vtL,lastV]
  rw[vtL_get anc k os]
  cases hd:o.dst with
  | none=>rfl
  | some d=>
   by_cases h:d=n
   ·subst h
    simp only[Nat.beq_refl]
    cases h1:anc k j<;>cases h2:anc j k<;>simp only[List.getElem?_set,if_true]<;>(cases ht:t[d]? with
     | none=>have:=List.getElem?_eq_none_iff.1 ht;simp;try omega
     | some x=>have:=(List.getElem?_eq_some_iff.1 ht).1;simp[this])
   ·have hb:Nat.beq d n=false:=by
     cases hb:Nat.beq d n with
     | false=>rfl
     | true=>exact absurd (Nat.eq_of_beq_eq_true hb) h
    simp only[hb]
    cases h1:anc k j<;>cases h2:anc j k<;>simp only[List.getElem?_set,if_neg h]
theorem vtM_get(anc:Nat->Nat->Bool)(k:Nat)(l:List Lf)(os:List Oper):∀(t:List (Option SV)) (i n:Nat),(vtM anc k l os i t)[n]?=(t[n]?).map fun x=>lastV anc k l os 0 (i+n) x
 | [],i,n=>by simp[vtM]
 | x::t,i,0=>by simp[vtM]
 | x::t,i,n+1=>by
  simp only[vtM,List.getElem?_cons_succ]
  rw[vtM_get anc k l os t,show i+1+n=i+(n+1) by omega]
theorem vtM_eq(anc:Nat->Nat->Bool)(k:Nat)(l:List Lf)(os:List Oper)(t:List (Option SV)):vtM anc k l os 0 t=vtL anc k l os 0 t:=by
 refine List.ext_getElem? fun n=>?_
 rw[vtM_get,vtL_get,z8]
def vtK{β:Type 1}:List Lf->List Oper->List (Option SV)->(List (Option SV)->β)->β
 | _,[],t,c=>c t
 | l,o::os,t,c=>match o.dst with
  | none=>vtK l.tail os t c
  | some d=>match l with
   | ⟨sv,_,_,_,_⟩::l=>setK t d (some sv) fun t=>vtK l os t c
   | []=>setK t d none fun t=>vtK [] os t c
theorem vtK_eq{β:Type 1}(k:Nat):∀(os:List Oper) (l:List Lf) (j:Nat) (t:List (Option SV)) (c:List (Option SV)->β),vtK l os t c=c (vtL (fun _ _=>true) k l os j t)
 | [],l,j,t,c=>by cases l<;>rfl
 | o::os,l,j,t,c=>by
  unfold vtK vtL
  cases hd:o.dst with
  | none=>simp only;exact vtK_eq k os _ _ _ _
  | some d=>
   cases l with
   | nil=>simp only[setK_eq];exact vtK_eq k os _ _ _ _
   | cons x l=>simp only[setK_eq];exact vtK_eq k os _ _ _ _
def Rg.viewL(R:Rg)(k:Nat)(l:List Lf):St:=⟨vtM R.anc k l R.ops 0 R.s0.tmps,⟨vhL (R.anc k) l 0 R.s0.H.h,R.N k,R.D k⟩⟩
theorem viewL_eq(R:Rg)(k:Nat)(l:List Lf)(h:l.length<=R.ops.length):R.viewL k l=R.view k (ofL l):=by
 unfold Rg.viewL Rg.view
 rw[vtM_eq]
 rw[vhL_view (R.anc k) l R.s0.H.h h]
 have:=vtL_eq R.anc k l R.ops 0 R.s0.tmps
 rw[List.drop_zero]at this
 rw[this]
def fLfs{β:Type 1}:List Lf->(List Lf->β)->β
 | [],k=>k []
 | x::l,k=>fLfs l fun l=>k (x::l)
theorem fLfs_eq{β:Type 1}:∀(l:List Lf) (k:List Lf->β),fLfs l k=k l
 | [],k=>rfl
 | x::l,k=>by simp only[fLfs,fLfs_eq l]
def disj(a b:List Nat):Bool:=a.all fun x=>!(mem x b)
def fits(x y:Lf):Bool:=disj x.W y.F&&disj y.W x.F
def compat(anc:Nat->Nat->Bool)(L:LM Lf)(n:Nat):Bool:=
 (List.range n).all fun j=>(List.range j).all fun i=>anc j i || (match L i,L j with
  | some x,some y=>fits x y
  | _,_=>true)
def cellO(f:Nat):Option Blk->Option SC
 | some (.own _ _ cs)=>(cs[f]?:Option (Option SC)).join
 | _=>none
def Keep(y x:Lf):Prop:=∀q,q∈x.M->q.1∈y.W->cellO q.2.1 (find q.1 y.upd)=some q.2.2
def keepQ{β:Type}(y:Lf):List (Nat×Nat×SC)->Out β->Out β
 | [],k=>k
 | q::m,k=>match mem q.1 y.W with
  | true=>.need (cellO q.2.1 (find q.1 y.upd)=some q.2.2) (keepQ y m k)
  | false=>keepQ y m k
def keepY{β:Type}(anc:Nat->Nat->Bool)(i:Nat)(m:List (Nat×Nat×SC)):Nat->List Lf->Out β->Out β
 | _,[],k=>k
 | j,y::l,k=>match y.W with
  | []=>keepY anc i m (j+1) l k
  | _=>match anc i j || anc j i with
   | true=>keepY anc i m (j+1) l k
   | false=>keepQ y m (keepY anc i m (j+1) l k)
def keepX{β:Type}(anc:Nat->Nat->Bool)(l0:List Lf):Nat->List Lf->Out β->Out β
 | _,[],k=>k
 | i,x::l,k=>match x.M with
  | []=>keepX anc l0 (i+1) l k
  | m=>keepY anc i m 0 l0 (keepX anc l0 (i+1) l k)
theorem keepQ_h{β:Type}{y:Lf}{K:β->Prop}:∀ {m:List (Nat×Nat×SC)} {k:Out β},(keepQ y m k).holds K->(∀q,q∈m->q.1∈y.W->cellO q.2.1 (find q.1 y.upd)=some q.2.2)/\k.holds K
 | [],k,h=>⟨fun q hq=>(by cases hq),h⟩
 | q::m,k,h=>by
  unfold keepQ at h
  split at h
  ·obtain⟨h1,h2⟩:=keepQ_h h.2
   exact⟨fun z hz hw=>(List.mem_cons.1 hz).elim (fun e=>e ▸ h.1) fun hz=>h1 z hz hw,h2⟩
  ·rename_i hm
   obtain⟨h1,h2⟩:=keepQ_h h
   exact⟨fun z hz hw=>(List.mem_cons.1 hz).elim (fun e=>by subst e;rw[zau.2 hw]at hm;cases hm) fun hz=>h1 z hz hw,h2⟩
theorem keepY_h{β:Type}{anc:Nat->Nat->Bool}{i:Nat}{m:List (Nat×Nat×SC)}{K:β->Prop}:∀ {l:List Lf} {j:Nat} {k:Out β},(keepY anc i m j l k).holds K->(∀n y,l[n]?=some y->anc i (j+n)=false->anc (j+n) i=false->∀q,q∈m->q.1∈y.W->cellO q.2.1 (find q.1 y.upd)=some q.2.2)/\k.holds K
 | [],j,k,h=>⟨fun n y hn=>(by simp at hn),h⟩
 | y::l,j,k,h=>by
  have next:∀ {z:Out β},(keepY anc i m (j+1) l z).holds K->(anc i j=false->anc j i=false->∀q,q∈m->q.1∈y.W->cellO q.2.1 (find q.1 y.upd)=some q.2.2)->(∀n x,(y::l)[n]?=some x->anc i (j+n)=false->anc (j+n) i=false->∀q,q∈m->q.1∈x.W->cellO q.2.1 (find q.1 x.upd)=some q.2.2)/\z.holds K:=by
   intro z hz h0
   obtain⟨h1,h2⟩:=keepY_h hz
   refine⟨fun n x hn a1 a2 q hq hw=>?_,h2⟩
   cases n with
   | zero=>simp at hn;subst hn;exact h0 a1 a2 q hq hw
   | succ n=>
    rw[show j+(n+1)=j+1+n by omega]at a1 a2
    exact h1 n x (by simpa using hn) a1 a2 q hq hw
  unfold keepY at h
  split at h
  ·rename_i hw0
   exact next h fun _ _ q _ hw=>by rw[hw0]at hw;cases hw
  ·split at h
   ·rename_i ha
    exact next h fun a1 a2=>by rw[a1,a2]at ha;cases ha
   ·obtain⟨g1,g2⟩:=keepQ_h h
    exact next g2 fun _ _ q hq hw=>g1 q hq hw
theorem keepX_h{β:Type}{anc:Nat->Nat->Bool}{l0:List Lf}{K:β->Prop}:∀ {l:List Lf} {i:Nat} {k:Out β},(keepX anc l0 i l k).holds K->(∀n x,l[n]?=some x->∀j y,l0[j]?=some y->anc (i+n) j=false->anc j (i+n)=false->Keep y x)/\k.holds K
 | [],i,k,h=>⟨fun n x hn=>(by simp at hn),h⟩
 | x::l,i,k,h=>by
  have next:∀ {z:Out β},(keepX anc l0 (i+1) l z).holds K->(∀j y,l0[j]?=some y->anc i j=false->anc j i=false->Keep y x)->(∀n x',(x::l)[n]?=some x'->∀j y,l0[j]?=some y->anc (i+n) j=false->anc j (i+n)=false->Keep y x')/\z.holds K:=by
   intro z hz h0
   obtain⟨h1,h2⟩:=keepX_h hz
   refine⟨fun n x' hn j y hj a1 a2=>?_,h2⟩
   cases n with
   | zero=>simp at hn;subst hn;exact h0 j y hj a1 a2
   | succ n=>
    rw[show i+(n+1)=i+1+n by omega]at a1 a2
    exact h1 n x' (by simpa using hn) j y hj a1 a2
  unfold keepX at h
  split at h
  ·rename_i hm
   exact next h fun j y _ _ _ q hq=>by rw[hm]at hq;cases hq
  ·obtain⟨g1,g2⟩:=keepY_h h
   exact next g2 fun j y hj a1 a2 q hq hw=>g1 j y hj (by rw[z8];exact a1) (by rw[z8];exact a2) q hq hw
theorem keepQ_m{β:Type}{y:Lf}{K K':β->Prop}:∀ {m:List (Nat×Nat×SC)} {k k':Out β},(keepQ y m k).holds K->(k.holds K->k'.holds K')->(keepQ y m k').holds K'
 | [],k,k',h,hk=>hk h
 | q::m,k,k',h,hk=>by
  unfold keepQ at h ⊢
  cases hm:mem q.1 y.W with
  | true=>rw[hm]at h;exact⟨h.1,keepQ_m h.2 hk⟩
  | false=>rw[hm]at h;exact keepQ_m h hk
theorem keepY_m{β:Type}{anc:Nat->Nat->Bool}{i:Nat}{m:List (Nat×Nat×SC)}{K K':β->Prop}:∀ {l:List Lf} {j:Nat} {k k':Out β},(keepY anc i m j l k).holds K->(k.holds K->k'.holds K')->(keepY anc i m j l k').holds K'
 | [],j,k,k',h,hk=>hk h
 | y::l,j,k,k',h,hk=>by
  unfold keepY at h ⊢
  split
  ·rename_i hw
   rw[hw]at h
   exact keepY_m h hk
  ·rename_i hw
   split at h
   ·rename_i hw2;exact(hw hw2).elim
   ·split
    ·rename_i ha
     rw[ha]at h
     exact keepY_m h hk
    ·rename_i ha
     rw[ha]at h
     exact keepQ_m h fun g=>keepY_m g hk
theorem keepX_m{β:Type}{anc:Nat->Nat->Bool}{l0:List Lf}{K K':β->Prop}:∀ {l:List Lf} {i:Nat} {k k':Out β},(keepX anc l0 i l k).holds K->(k.holds K->k'.holds K')->(keepX anc l0 i l k').holds K'
 | [],i,k,k',h,hk=>hk h
 | x::l,i,k,k',h,hk=>by
  unfold keepX at h ⊢
  split
  ·rename_i hm
   rw[hm]at h
   exact keepX_m h hk
  ·rename_i hm
   split at h
   ·rename_i hm2;exact(hm hm2).elim
   ·exact keepY_m h fun g=>keepX_m g hk
def za8:Nat->List Lf->List (Nat×Lf)
 | _,[]=>[]
 | j,x::l=>match x.F,x.W with
  | [],[]=>za8 (j+1) l
  | _,_=>(j,x)::za8 (j+1) l
def compatL(anc:Nat->Nat->Bool):List (Nat×Lf)->Bool
 | []=>true
 | (i,x)::l=>(l.all fun q=>anc q.1 i || fits x q.2)&&compatL anc l
theorem zep:∀ {l:List Lf} {j n:Nat} {x:Lf},l[n]?=some x->(x.F≠[]\/x.W≠[])->(j+n,x)∈za8 j l
 | [],j,n,x,h,_=>by simp at h
 | y::l,j,0,x,h,hx=>by
  simp at h;subst h
  unfold za8
  split
  ·rename_i h1 h2;exact(hx.elim (· h1) (· h2)).elim
  ·exact List.mem_cons_self
 | y::l,j,n+1,x,h,hx=>by
  simp at h
  have:=zep (j:=j+1) h hx
  rw[show j+1+n=j+(n+1) by omega]at this
  unfold za8
  split
  ·exact this
  ·exact List.mem_cons_of_mem _ this
theorem zel:∀ {l:List Lf} {j:Nat} {q:Nat×Lf},q∈za8 j l->j<=q.1
 | [],j,q,h=>by simp[za8]at h
 | y::l,j,q,h=>by
  unfold za8 at h
  split at h
  ·have:=zel h;omega
  ·rcases List.mem_cons.1 h with rfl|h
   ·exact Z _
   ·have:=zel h;omega
theorem compatL_h{anc:Nat->Nat->Bool}:∀ {l:List Lf} {m:Nat},compatL anc (za8 m l)=true->∀ {i j:Nat} {x y:Lf},i<j->(i,x)∈za8 m l->(j,y)∈za8 m l->(anc j i || fits x y)=true
 | [],m,h,i,j,x,y,hij,hi,hj=>by simp[za8]at hi
 | z::l,m,h,i,j,x,y,hij,hi,hj=>by
  unfold za8 at h hi hj
  split at h
  ·rename_i h1 h2
   simp only[h1,h2]at hi hj
   exact compatL_h h hij hi hj
  ·rename_i hne
   have e:(match z.F,z.W with|[],[]=>za8 (m+1) l|_,_=>(m,z)::za8 (m+1) l)=(m,z)::za8 (m+1) l:=by
    split
    ·rename_i h1 h2;exact(hne h1 h2).elim
    ·rfl
   rw[e]at hi hj
   simp only[compatL,zx,List.all_eq_true]at h
   rcases List.mem_cons.1 hi with hi|hi
   ·cases hi
    rcases List.mem_cons.1 hj with hj|hj
    ·cases hj;omega
    ·exact h.1 _ hj
   ·rcases List.mem_cons.1 hj with hj|hj
    ·cases hj;have:=zel hi;simp only at this;omega
    ·exact compatL_h h.2 hij hi hj
theorem compatL_ok{anc:Nat->Nat->Bool}{l:List Lf}{n:Nat}(h:compatL anc (za8 0 l)=true):compat anc (ofL l) n=true:=by
 simp only[compat,List.all_eq_true,List.mem_range]
 intro j _ i hij
 cases ha:anc j i with
 | true=>rfl
 | false=>
  simp only[Bool.false_or]
  split
  ·rename_i x y hx hy
   have hx:l[i]?=some x:=hx
   have hy:l[j]?=some y:=hy
   have plain:(x.F=[]/\x.W=[])\/(y.F=[]/\y.W=[])->fits x y=true:=by
    rintro(⟨h1,h2⟩|⟨h1,h2⟩)
    ·simp[fits,disj,h1,h2,mem]
    ·simp[fits,disj,h1,h2,mem]
   by_cases h1:x.F=[]/\x.W=[]
   ·exact plain (.inl h1)
   ·by_cases h2:y.F=[]/\y.W=[]
    ·exact plain (.inr h2)
    ·have t1:=zep (j:=0) hx (by by_cases a:x.F=[]<;>by_cases b:x.W=[]<;>simp_all)
     have t2:=zep (j:=0) hy (by by_cases a:y.F=[]<;>by_cases b:y.W=[]<;>simp_all)
     rw[z8]at t1 t2
     have:=compatL_h h hij t1 t2
     rw[ha]at this
     simpa using this
  ·rfl
def callOp:Op->Bool
 | .call c=>match c.callee with|.builtin _=>false|_=>true
 | _=>false
def touchOp:Op->Bool
 | .load ..|.nilCheck ..|.fieldAddr ..|.indexAddr ..|.store ..=>true
 | .call c=>match c.callee with|.builtin .append=>true|.builtin _=>false|_=>true
 | _=>false
def writers(anc:Nat->Nat->Bool)(ops:List Oper)(k:Nat):Bool:=
 match ops[k]? with
 | some o=>callOp o.op&&(List.range ops.length).all fun j=>Nat.beq j k || anc k j || anc j k || !(((ops[j]?).map fun o=>touchOp o.op).getD false)
 | none=>false
def lazies(anc:Nat->Nat->Bool)(ops:List Oper):Nat->Bool:=match ops.any fun o=>callOp o.op with
 | true=>fun k=>(List.range ops.length).any fun j=>(((ops[j]?).map fun o=>callOp o.op).getD false)&&!(Nat.beq j k || anc k j || anc j k)
 | false=>fun _=>false
def zbd:List Oper->Nat->Bool
 | [],_=>true
 | o::os,i=>(o.after.toList.all fun e=>!(Region.binds .any e) || Nat.blt e.on i)&&zbd os (i+1)
def dstsL(anc:Nat->Nat->Bool):List (Nat×Tmp)->List Oper->Nat->Bool
 | _,[],_=>true
 | prev,o::os,j=>match o.dst with
  | none=>dstsL anc prev os (j+1)
  | some d=>(prev.all fun q=>!(Nat.beq q.2 d) || anc j q.1)&&dstsL anc ((j,d)::prev) os (j+1)
def dstsOK(anc:Nat->Nat->Bool)(ops:List Oper):Bool:=dstsL anc [] ops 0
theorem dstsL_h{anc:Nat->Nat->Bool}{t:Nat}:∀ {os:List Oper} {prev:List (Nat×Tmp)} {j0:Nat},dstsL anc prev os j0=true->
  (∀i j oj,(i,t)∈prev->os[j]?=some oj->oj.dst=some t->anc (j0+j) i=true)/\
  (∀i j oi oj,i<j->os[i]?=some oi->os[j]?=some oj->oi.dst=some t->oj.dst=some t->anc (j0+j) (j0+i)=true)
 | [],prev,j0,h=>⟨fun i j oj _ hj=>by simp at hj,fun i j oi oj _ hi=>by simp at hi⟩
 | o::os,prev,j0,h=>by
  have main:∀(pr:List (Nat×Tmp)),dstsL anc pr os (j0+1)=true->(∀x,x∈prev->x∈pr)->(o.dst=some t->(∀i,(i,t)∈prev->anc j0 i=true)/\(j0,t)∈pr)->
    (∀i j oj,(i,t)∈prev->(o::os)[j]?=some oj->oj.dst=some t->anc (j0+j) i=true)/\
    (∀i j oi oj,i<j->(o::os)[i]?=some oi->(o::os)[j]?=some oj->oi.dst=some t->oj.dst=some t->anc (j0+j) (j0+i)=true):=by
   intro pr hpr hsub hd
   obtain⟨h1,h2⟩:=dstsL_h (t:=t) hpr
   constructor
   ·intro i j oj hi hj hdj
    cases j with
    | zero=>simp at hj;subst hj;exact(hd hdj).1 i hi
    | succ j=>
     have:=h1 i j oj (hsub _ hi) (by simpa using hj) hdj
     rw[show j0+(j+1)=j0+1+j by omega];exact this
   ·intro i j oi oj hij hi hj hdi hdj
    cases j with
    | zero=>omega
    | succ j=>
     rw[show j0+(j+1)=j0+1+j by omega]
     cases i with
     | zero=>simp at hi;subst hi;exact h1 j0 j oj (hd hdi).2 (by simpa using hj) hdj
     | succ i=>
      rw[show j0+(i+1)=j0+1+i by omega]
      exact h2 i j oi oj (by omega) (by simpa using hi) (by simpa using hj) hdi hdj
  simp only[dstsL]at h
  cases hd:o.dst with
  | none=>
   rw[hd]at h
   exact main prev h (fun x hx=>hx) (fun hh=>by rw[hd]at hh;cases hh)
  | some d=>
   rw[hd]at h
   simp only[zx,List.all_eq_true]at h
   refine main _ h.2 (fun x hx=>List.mem_cons_of_mem _ hx) (fun hh=>?_)
   rw[hd]at hh;cases hh
   refine⟨fun i hi=>?_,List.mem_cons_self⟩
   have:=h.1 _ hi
   simpa [Nat.beq_refl]using this
def resT(T:Nat->LM Lf->Out Lf):(todo i:Nat)->LM Lf->Out (LM Lf)
 | 0,_,L=>.leaf L
 | m+1,i,L=>(T i L).bind fun x=>resT T m (i+1) (L.set i x)
def resTL(T:Nat->List Lf->Out Lf):(todo i:Nat)->List Lf->Out (List Lf)
 | 0,_,l=>.leaf l
 | m+1,i,l=>(T i l).bind fun x=>fLf x fun x=>fLfs (l++[x]) fun l=>fN (Nat.succ i) fun i=>resTL T m i l
theorem resTL_eq{R:Rg}{K:LM Lf->Prop}:∀(m i:Nat) (l:List Lf),l.length=i->i+m=R.ops.length->(resTL (fun k l=>R.TV k (R.viewL k l)) m i l).holds (fun l=>l.length=R.ops.length->K (ofL l))->(resT R.T m i (ofL l)).holds K
 | 0,i,l,hl,hm,h=>h (by omega)
 | m+1,i,l,hl,hm,h=>by
  simp only[resTL,fLf_eq,fLfs_eq,fN_eq]at h
  simp only[resT]
  rw[viewL_eq R i l (by omega),TV_eq,Out.holds_bind]at h
  rw[Out.holds_bind]
  refine Out.holds_mono _ (fun x hx=>?_) h
  have:=resTL_eq m (i+1) (l++[x]) (by simp[hl]) (by omega) hx
  rw[<-ofL_snoc,hl]at this
  exact this
def drawT(P:Program)(callT:CallT)(S:Nat)(ops:List Oper)(s:St):Out St:=
 fNs (zdo ops []) fun ms=>
 let anc:=ancOf ms
 let R:Rg:=⟨P,callT,ops,anc,writers anc ops,lazies anc ops,S,s⟩
 chk (P.follows .mixedOrders&&zbd ops 0&&dstsOK anc ops) ((resTL (fun k l=>R.TV k (R.viewL k l)) ops.length 0 []).bind fun l=>
  chk (compatL anc (za8 0 l)) (keepX anc l 0 l (vtK l ops s.tmps fun t=>fHL (vhL (fun _=>true) l 0 s.H.h) fun h=>fN (s.H.nxt+ops.length*S) fun nxt=>.leaf ⟨t,⟨h,nxt,s.H.D⟩⟩)) 243) 242
theorem resT_res{T:Nat->LM Lf->Out Lf}{QF:LM Lf->Prop}:∀(m i:Nat) (L:LM Lf),(resT T m i L).holds QF->res T QF (List.range' i m) L
 | 0,i,L,h=>h
 | m+1,i,L,h=>by
  simp only[resT,Out.holds_bind]at h
  rw[List.range'_succ]
  exact Out.holds_mono _ (fun x hx=>resT_res m (i+1) _ hx) h
theorem maskOf_bit(ms:List Nat)(es:List Edge)(j:Nat):(maskOf ms es).testBit j=true↔∃e∈es,Region.binds .any e=true/\(e.on=j\/((ms[e.on]?).getD 0).testBit j=true):=by
 unfold maskOf
 suffices h:∀(es:List Edge) (m:Nat),(es.foldl (fun m e=>bif Region.binds .any e then m ||| 2 ^ e.on ||| (ms[e.on]?).getD 0 else m) m).testBit j=true↔m.testBit j=true\/∃e∈es,Region.binds .any e=true/\(e.on=j\/((ms[e.on]?).getD 0).testBit j=true) by
  simpa using h es 0
 intro es
 induction es with
 | nil=>intro m;simp
 | cons e es ih=>
  intro m
  rw[List.foldl_cons,ih]
  cases hb:Region.binds .any e with
  | false=>simp[hb]
  | true=>
   simp only[cond_true,Nat.testBit_or,Bool.or_eq_true,Nat.testBit_two_pow,decide_eq_true_eq,List.mem_cons,exists_eq_or_imp,hb,true_and]
   constructor
   ·rintro(((h|h)|h)|h)
    ·exact .inl h
    ·exact .inr (.inl (.inl h))
    ·exact .inr (.inl (.inr h))
    ·exact .inr (.inr h)
   ·rintro(h|(h|h)|h)
    ·exact .inl (.inl (.inl h))
    ·exact .inl (.inl (.inr h))
    ·exact .inl (.inr h)
    ·exact .inr h
structure zdi (ops:List Oper) (anc:Nat->Nat->Bool):Prop where
 dir:∀(i:Nat) o j,ops[i]?=some o->(anc i j=true↔∃e∈o.after.toList,Region.binds .any e=true/\(e.on=j\/anc e.on j=true))
 out:∀i j,ops.length<=i->anc i j=false
theorem masks_len:∀(os:List Oper) (ms:List Nat),(zdo os ms).length=ms.length+os.length
 | [],ms=>by simp[zdo]
 | o::os,ms=>by simp[zdo,masks_len os];omega
theorem masks_old:∀(os:List Oper) (ms:List Nat) (i:Nat),i<ms.length->(zdo os ms)[i]?=ms[i]?
 | [],ms,i,hi=>rfl
 | o::os,ms,i,hi=>by
  simp only[zdo]
  rw[masks_old os _ i (by simp;omega),List.getElem?_append_left hi]
theorem masks_at:∀(os:List Oper) (ms:List Nat) (i:Nat) (o:Oper),os[i]?=some o->∃pre:List Nat,(∀k,k<ms.length+i->pre[k]?=(zdo os ms)[k]?)/\pre.length=ms.length+i/\(zdo os ms)[ms.length+i]?=some (maskOf pre o.after.toList)
 | [],ms,i,o,h=>by simp at h
 | x::os,ms,i,o,h=>by
  cases i with
  | zero=>
   simp at h;subst h
   refine⟨ms,fun k hk=>?_,by simp,?_⟩
   ·simp only[zdo];rw[masks_old os _ k (by simp;omega),List.getElem?_append_left (by omega)]
   ·simp only[zdo,Nat.add_zero];rw[masks_old os _ _ (by simp)];simp
  | succ i=>
   obtain⟨pre,h1,h2,h3⟩:=masks_at os (ms++[maskOf ms x.after.toList]) i o (by simpa using h)
   simp only[List.length_append,List.length_singleton]at h1 h2 h3
   refine⟨pre,fun k hk=>h1 k (by omega),by omega,?_⟩
   simp only[zdo]
   rw[<-h3];congr 1;omega
theorem zc9:∀ {ops:List Oper} {i0:Nat},zbd ops i0=true->∀(i:Nat) o,ops[i]?=some o->∀e∈o.after.toList,Region.binds .any e=true->e.on<i0+i
 | [],i0,_,i,o,h=>by simp at h
 | x::ops,i0,hk,i,o,h=>by
  simp only[zbd,zx,List.all_eq_true]at hk
  intro e he hb
  cases i with
  | zero=>
   simp at h;subst h
   have:=hk.1 e he
   simp only[hb,Bool.not_true,Bool.false_or]at this
   exact Nat.lt_of_succ_le (Nat.le_of_ble_eq_true this)
  | succ i=>
   have:=zc9 hk.2 i o (by simpa using h) e he hb
   omega
theorem anc_ok{ops:List Oper}(hk:zbd ops 0=true):zdi ops (ancOf (zdo ops [])):=by
 refine⟨fun i o j ho=>?_,fun i j hi=>?_⟩
 ·obtain⟨pre,h1,h2,h3⟩:=masks_at ops [] i o ho
  simp only[List.length_nil,z8]at h1 h2 h3
  unfold ancOf
  rw[h3,Option.getD_some,maskOf_bit]
  constructor
  ·rintro⟨e,he,hb,h⟩
   refine⟨e,he,hb,?_⟩
   have hlt:=zc9 hk i o ho e he hb
   rw[<-h1 e.on (by omega)];exact h
  ·rintro⟨e,he,hb,h⟩
   refine⟨e,he,hb,?_⟩
   have hlt:=zc9 hk i o ho e he hb
   rw[h1 e.on (by omega)];exact h
 ·unfold ancOf
  rw[List.getElem?_eq_none (by rw[masks_len];simpa using hi)]
  simp
theorem zdi.lt{ops:List Oper}{anc:Nat->Nat->Bool}(h:zdi ops anc)(hk:zbd ops 0=true):∀(k j:Nat),anc k j=true->j<k:=by
 intro k
 induction k using Nat.strongRecOn with
 | _ k ih=>
  intro j hj
  rcases Nat.lt_or_ge k ops.length with hkl|hkl
  ·obtain⟨e,he,hb,hor⟩:=(h.dir k ops[k] j (List.getElem?_eq_getElem hkl)).1 hj
   have hlt:=zc9 hk k _ (List.getElem?_eq_getElem hkl) e he hb
   rcases hor with rfl|hor
   ·omega
   ·have:=ih e.on (by omega) j hor;omega
  ·rw[h.out k j hkl]at hj;cases hj
theorem zdi.trans{ops:List Oper}{anc:Nat->Nat->Bool}(h:zdi ops anc)(hk:zbd ops 0=true):∀(k i j:Nat),anc k i=true->anc i j=true->anc k j=true:=by
 intro k
 induction k using Nat.strongRecOn with
 | _ k ih=>
  intro i j hi hj
  rcases Nat.lt_or_ge k ops.length with hkl|hkl
  ·obtain⟨e,he,hb,hor⟩:=(h.dir k ops[k] i (List.getElem?_eq_getElem hkl)).1 hi
   have hlt:=zc9 hk k _ (List.getElem?_eq_getElem hkl) e he hb
   refine(h.dir k ops[k] j (List.getElem?_eq_getElem hkl)).2 ⟨e,he,hb,.inr ?_⟩
   rcases hor with rfl|hor
   ·exact hj
   ·exact ih e.on (by omega) i j hor hj
  ·rw[h.out k i hkl]at hi;cases hi
def Lf.aff(x:Lf)(key:Nat):Prop:=key∈x.W\/(find key x.upd).isSome
theorem zb8(x:Lf)(key:Nat)(h:HL):find key (x.upd++zaw x.W h)=(find key x.upd).or (if key∈x.W then none else find key h):=by
 rw[zct,zcf]
theorem zcz{x:Lf}{key:Nat}(h:HL)(hn:¬x.aff key):find key (x.upd++zaw x.W h)=find key h:=by
 rw[zb8,if_neg (fun hh=>hn (.inl hh))]
 cases hf:find key x.upd with
 | none=>rfl
 | some b=>exact absurd (.inr (by simp[hf])) hn
def tag(sel:Nat->Bool)(L:LM Lf)(key:Nat):Nat->Option Nat
 | 0=>none
 | j+1=>match sel j,L j with
  | true,some x=>if(find key x.upd).isSome then some j else tag sel L key j
  | _,_=>tag sel L key j
theorem vh_congr{s1 s2:Nat->Bool}{L1 L2:LM Lf}{key:Nat}{h:HL}:∀(m:Nat),(∀j,j<m->(s1 j=s2 j/\L1 j=L2 j)\/((∀x,s1 j=true->L1 j=some x->¬x.aff key)/\(∀x,s2 j=true->L2 j=some x->¬x.aff key)))->
  find key (vh s1 L1 m h)=find key (vh s2 L2 m h)/\tag s1 L1 key m=tag s2 L2 key m
 | 0,_=>⟨rfl,rfl⟩
 | m+1,hyp=>by
  have ih:=vh_congr (h:=h) m (fun j hj=>hyp j (Nat.lt_succ_of_lt hj))
  rcases hyp m (Nat.lt_succ_self m) with⟨e1,e2⟩|⟨h1,h2⟩
  ·simp only[vh,tag,e1,e2]
   cases s2 m with
   | false=>exact ih
   | true=>
    cases L2 m with
    | none=>exact ih
    | some x=>simp only[zb8,ih.1,ih.2];exact⟨trivial,trivial⟩
  ·have g:∀(s:Nat->Bool) (L:LM Lf),(∀x,s m=true->L m=some x->¬x.aff key)->find key (vh s L (m+1) h)=find key (vh s L m h)/\tag s L key (m+1)=tag s L key m:=by
    intro s L hs
    simp only[vh,tag]
    cases hsm:s m with
    | false=>exact⟨rfl,rfl⟩
    | true=>
     cases hLm:L m with
     | none=>exact⟨rfl,rfl⟩
     | some x=>
      have hx:=hs x hsm hLm
      refine⟨zcz _ hx,?_⟩
      exact if_neg (fun hh=>hx (.inr hh))
   rw[(g s1 L1 h1).1,(g s2 L2 h2).1,(g s1 L1 h1).2,(g s2 L2 h2).2]
   exact ih
theorem vh_tag{sel:Nat->Bool}{L:LM Lf}{key:Nat}{h:HL}{b:Blk}:∀(m:Nat),find key (vh sel L m h)=some b->
  (∃j x,tag sel L key m=some j/\j<m/\sel j=true/\L j=some x/\find key x.upd=some b)\/(tag sel L key m=none/\find key h=some b)
 | 0,hf=>.inr ⟨rfl,hf⟩
 | m+1,hf=>by
  have go:find key (vh sel L m h)=some b->tag sel L key (m+1)=tag sel L key m->(∃j x,tag sel L key (m+1)=some j/\j<m+1/\sel j=true/\L j=some x/\find key x.upd=some b)\/(tag sel L key (m+1)=none/\find key h=some b):=by
   intro h1 h2
   rw[h2]
   rcases vh_tag m h1 with⟨j,x,g1,g2,g3⟩|g
   ·exact .inl ⟨j,x,g1,Nat.lt_succ_of_lt g2,g3⟩
   ·exact .inr g
  simp only[vh]at hf
  cases hs:sel m with
  | false=>rw[hs]at hf;exact go hf (by simp[tag,hs])
  | true=>
   rw[hs]at hf
   cases hL:L m with
   | none=>rw[hL]at hf;exact go hf (by simp[tag,hs,hL])
   | some x=>
    rw[hL]at hf
    simp only[zb8]at hf
    cases hu:find key x.upd with
    | some b'=>
     rw[hu]at hf
     simp at hf;subst hf
     exact .inl ⟨m,x,by simp[tag,hs,hL,hu],Nat.lt_succ_self m,hs,hL,hu⟩
    | none=>
     rw[hu]at hf
     simp only[Option.none_or]at hf
     split at hf
     ·cases hf
     ·exact go hf (by simp[tag,hs,hL,hu])
theorem tag_lt{sel:Nat->Bool}{L:LM Lf}{key:Nat}:∀ {m j:Nat},tag sel L key m=some j->j<m/\sel j=true/\(L j).isSome
 | 0,j,h=>by cases h
 | m+1,j,h=>by
  simp only[tag]at h
  split at h
  ·rename_i x h1 h2
   split at h
   ·cases h;exact⟨Nat.lt_succ_self _,h1,by simp[h2]⟩
   ·have:=tag_lt h;exact⟨Nat.lt_succ_of_lt this.1,this.2⟩
  ·have:=tag_lt h;exact⟨Nat.lt_succ_of_lt this.1,this.2⟩
section
variable (R:Rg)
def Rg.n:Nat:=R.ops.length
def allS:Nat->Bool:=fun _=>true
def Rg.dst(j:Nat):Option Tmp:=(R.ops[j]?).bind (·.dst)
def Rg.hD(L:LM Lf):HL:=vh allS L R.n R.s0.H.h
def Rg.hV(k:Nat)(L:LM Lf):HL:=vh (R.anc k) L R.n R.s0.H.h
def Rg.scO:Option Nat->Nat->Prop
 | none=>R.s0.H.sc
 | some j=>R.scope j
def zb2(dst:Nat->Option Tmp)(L:LM Lf)(t:Nat):Nat->Option Nat
 | 0=>none
 | j+1=>if(L j).isSome/\dst j=some t then some j else zb2 dst L t j
def Free(k j:Nat):Prop:=R.anc k j=false/\R.anc j k=false
def Apart(x y:Lf):Prop:=(∀key∈x.W,key∉y.F)/\(∀key∈y.W,key∉x.F)
structure WFL (L:LM Lf):Prop where
 lt:∀j x,L j=some x->j<R.n
 updk:∀j x,L j=some x->∀key b,find key x.upd=some b->key∈x.W\/(R.N j<=key/\key<R.N j+R.S)
 wf:∀j x,L j=some x->∀key∈x.W,key∈x.F
 ff:∀j x,L j=some x->∀key∈x.F,(find key (R.hV j L)).isSome
 down:∀j i,(L j).isSome->R.anc j i=true->(L i).isSome
 cmp:∀i j x y,i≠j->L i=some x->L j=some y->Free R i j->Apart x y
structure SatR (φ:Fr) (ρ:Rho) (L:LM Lf) (a:Act) (w:World):Prop where
 fr:φ.ok w
 up:∀x,R.s0.H.nxt<=x->R.s0.H.D x
 base:∀key b,find key R.s0.H.h=some b->R.s0.H.sc key
 wf:WFL R L
 sat:∀key b,find key (R.hD L)=some b->b.sat (R.scO (tag allS L key R.n)) ρ key w
 bd:∀key b,find key (R.hD L)=some b->∀i,b.live i->∀y o,ρ key i=some (y,o)->y<w.heap.size
 may:∀key b,find key (R.hD L)=some b->b.isRow=true->∀i,b.live i->∀y o,ρ key i=some (y,o)->φ.may y
 sep:∀key b,find key (R.hD L)=some b->b.isRow=true->∀key' b',find key' (R.hD L)=some b'->key'≠key->∀j i,b.live j->b'.live i->∀y o y' o',ρ key j=some (y,o)->ρ key' i=some (y',o')->y'≠y
 defers:a.defers=[]
 size:a.tmps.size=R.s0.tmps.length
 slots:∀t,t<R.s0.tmps.length->match zb2 R.dst L t R.n with
  | some j=>∀x,L j=some x->∃v,a.tmps[t]?=some v/\SIs (R.scope j) ρ x.sv v
  | none=>∀sv,R.s0.tmps[t]?=some (some sv)->∃v,a.tmps[t]?=some v/\SIs R.s0.H.sc ρ sv v
variable {R}
theorem N_lt{i j:Nat}(h:i<j):R.N i+R.S<=R.N j:=by
 unfold Rg.N
 have:(i+1)*R.S<=j*R.S:=Nat.mul_le_mul_right _ h
 rw[Nat.add_mul,Nat.one_mul]at this
 omega
theorem zce(j:Nat):R.s0.H.nxt<=R.N j:=Nat.le_add_right _ _
theorem N_inj{i j x:Nat}(h1:R.N i<=x)(h2:x<R.N i+R.S)(h3:R.N j<=x)(h4:x<R.N j+R.S):i=j:=by
 rcases Nat.lt_trichotomy i j with h|h|h
 ·have:=N_lt (R:=R) h;omega
 ·exact h
 ·have:=N_lt (R:=R) h;omega
theorem origin(ha:zdi R.ops R.anc)(he:zbd R.ops 0=true){L:LM Lf}(hb:∀key b,find key R.s0.H.h=some b->R.s0.H.sc key)(hw:WFL R L):
  ∀(k key:Nat) (b:Blk),find key (R.hV k L)=some b->R.s0.H.sc key\/∃j,R.anc k j=true/\R.N j<=key/\key<R.N j+R.S:=by
 intro k
 induction k using Nat.strongRecOn with
 | _ k ih=>
  intro key b hf
  rcases vh_tag R.n hf with⟨j,x,_,_,h1,h2,h3⟩|⟨_,h⟩
  ·rcases hw.updk j x h2 key b h3 with h4|h4
   ·have:=hw.ff j x h2 key (hw.wf j x h2 key h4)
    obtain⟨b',hb'⟩:=Option.isSome_iff_exists.1 this
    rcases ih j (ha.lt he k j h1) key b' hb' with h5|⟨i,h5,h6⟩
    ·exact .inl h5
    ·exact .inr ⟨i,ha.trans he k j i h1 h5,h6⟩
   ·exact .inr ⟨j,h1,h4⟩
  ·exact .inl (hb key b h)
theorem not_aff(ha:zdi R.ops R.anc)(he:zbd R.ops 0=true){L:LM Lf}(hb:∀key b,find key R.s0.H.h=some b->R.s0.H.sc key)(hw:WFL R L){k key:Nat}{b:Blk}(hf:find key (R.hV k L)=some b)
  {j:Nat} {y:Lf} (hj:L j=some y) (hjk:R.anc k j=false) (hc:key∉y.W):¬y.aff key:=by
 rintro(h|h)
 ·exact hc h
 ·obtain⟨c,hc'⟩:=Option.isSome_iff_exists.1 h
  rcases hw.updk j y hj key c hc' with h1|⟨h1,h2⟩
  ·exact hc h1
  ·rcases origin ha he hb hw k key b hf with h3|⟨i,h3,h4,h5⟩
   ·have:=h3.1;have:=zce (R:=R) j;omega
   ·have:=N_inj h4 h5 h1 h2
    subst this
    rw[hjk]at h3;cases h3
theorem not_aff_new(ha:zdi R.ops R.anc)(he:zbd R.ops 0=true){L:LM Lf}(hb:∀key b,find key R.s0.H.h=some b->R.s0.H.sc key)(hw:WFL R L){k key:Nat}(h1:R.N k<=key)(h2:key<R.N k+R.S)
  {j:Nat} {y:Lf} (hj:L j=some y) (hne:j≠k) (hjk:R.anc j k=false):¬y.aff key:=by
 have hW:key∉y.W:=by
  intro h
  obtain⟨b,hb'⟩:=Option.isSome_iff_exists.1 (hw.ff j y hj key (hw.wf j y hj key h))
  rcases origin ha he hb hw j key b hb' with h3|⟨i,h3,h4,h5⟩
  ·have:=h3.1;have:=zce (R:=R) k;omega
  ·have:=N_inj h4 h5 h1 h2
   subst this
   rw[hjk]at h3;cases h3
 rintro(h|h)
 ·exact hW h
 ·obtain⟨c,hc'⟩:=Option.isSome_iff_exists.1 h
  rcases hw.updk j y hj key c hc' with h3|⟨h3,h4⟩
  ·exact hW h3
  ·exact hne (N_inj h3 h4 h1 h2)
end
section
variable {R:Rg}
theorem vt_is{A:Nat->Nat->Bool}{k:Nat}{L:LM Lf}{t:Nat}(hA:∀j,A k j=false->A j k=true->L j=none):∀(os:List Oper) (j0:Nat) (tm:List (Option SV)),(∀i,os[i]?=R.ops[j0+i]?)->
  (∀sv,tm[t]?=some (some sv)->match zb2 R.dst L t j0 with
   | some j=>A k j=true/\∃x,L j=some x/\x.sv=sv
   | none=>R.s0.tmps[t]?=some (some sv))->
  ∀sv,(vt A k L os j0 tm)[t]?=some (some sv)->match zb2 R.dst L t (j0+os.length) with
   | some j=>A k j=true/\∃x,L j=some x/\x.sv=sv
   | none=>R.s0.tmps[t]?=some (some sv)
 | [],j0,tm,_,h,sv,hv=>by simpa using h sv hv
 | o::os,j0,tm,ho,h,sv,hv=>by
  have h0:R.ops[j0]?=some o:=by simpa using(ho 0).symm
  have hd:R.dst j0=o.dst:=by simp[Rg.dst,h0]
  have ih:=vt_is (k:=k) (L:=L) (t:=t) hA os (j0+1)
  simp only[vt]at hv
  have ho':∀i,os[i]?=R.ops[j0+1+i]?:=fun i=>by
   have:=ho (i+1)
   rw[show j0+1+i=j0+(i+1) by omega,<-this,List.getElem?_cons_succ]
  rw[List.length_cons,show j0+(os.length+1)=j0+1+os.length by omega]
  refine ih _ ho' ?_ sv hv
  intro sv' hsv
  cases hdst:o.dst with
  | none=>
   rw[hdst]at hsv
   have:zb2 R.dst L t (j0+1)=zb2 R.dst L t j0:=by simp only[zb2,hd,hdst];rw[if_neg (by simp)]
   rw[this];exact h sv' hsv
  | some d=>
   rw[hdst]at hsv
   simp only at hsv
   by_cases hdt:d=t
   ·subst hdt
    cases h1:A k j0 with
    | true=>
     rw[h1]at hsv
     simp only[List.getElem?_set,if_true]at hsv
     split at hsv
     ·cases hL:L j0 with
      | none=>rw[hL]at hsv;simp at hsv
      | some x=>
       rw[hL]at hsv
       simp at hsv
       have:zb2 R.dst L d (j0+1)=some j0:=by simp only[zb2,hd,hdst,hL];simp
       rw[this]
       exact⟨h1,x,hL,hsv⟩
     ·cases hsv
    | false=>
     rw[h1]at hsv
     cases h2:A j0 k with
     | true=>
      rw[h2]at hsv
      have hn:=hA j0 h1 h2
      have:zb2 R.dst L d (j0+1)=zb2 R.dst L d j0:=by simp only[zb2,hn];rw[if_neg (by simp)]
      rw[this];exact h sv' hsv
     | false=>
      rw[h2]at hsv
      simp only[List.getElem?_set,if_true]at hsv
      split at hsv
      ·simp at hsv
      ·cases hsv
   ·have:zb2 R.dst L t (j0+1)=zb2 R.dst L t j0:=by simp only[zb2,hd,hdst];rw[if_neg (by simp[hdt])]
    rw[this]
    refine h sv' ?_
    cases h1:A k j0 with
    | true=>rw[h1]at hsv;simp only[List.getElem?_set,if_neg hdt]at hsv;exact hsv
    | false=>
     rw[h1]at hsv
     cases h2:A j0 k with
     | true=>rw[h2]at hsv;exact hsv
     | false=>rw[h2]at hsv;simp only[List.getElem?_set,if_neg hdt]at hsv;exact hsv
theorem zdb{A:Nat->Nat->Bool}{k:Nat}{L:LM Lf}:∀(os:List Oper) (j0:Nat) (tm:List (Option SV)),(vt A k L os j0 tm).length=tm.length
 | [],_,_=>rfl
 | o::os,j0,tm=>by
  simp only[vt]
  rw[zdb os]
  split
  ·rfl
  ·split<;>simp
theorem lastD_lt{dst:Nat->Option Tmp}{L:LM Lf}{t:Nat}:∀ {m j:Nat},zb2 dst L t m=some j->j<m/\(L j).isSome/\dst j=some t
 | 0,j,h=>by cases h
 | m+1,j,h=>by
  simp only[zb2]at h
  split at h
  ·rename_i hc;cases h;exact⟨Nat.lt_succ_self _,hc⟩
  ·have:=lastD_lt h;exact⟨Nat.lt_succ_of_lt this.1,this.2⟩
theorem zf9{dst:Nat->Option Tmp}{L:LM Lf}{t k:Nat}{x:Lf}(h:dst k≠some t):∀m,zb2 dst (L.set k x) t m=zb2 dst L t m
 | 0=>rfl
 | m+1=>by
  simp only[zb2,zf9 h m]
  by_cases e:m=k
  ·subst e;simp[h]
  ·rw[LM.set_ne _ _ e]
theorem zd0{dst:Nat->Option Tmp}{L:LM Lf}{t k:Nat}{x:Lf}(h:dst k=some t)(hno:∀j,k<j->dst j=some t->L j=none):∀m,k<m->zb2 dst (L.set k x) t m=some k
 | 0,hk=>by omega
 | m+1,hk=>by
  simp only[zb2]
  by_cases e:m=k
  ·subst e;rw[LM.set_at];simp[h]
  ·rw[LM.set_ne _ _ e]
   by_cases hd:dst m=some t
   ·rw[hno m (by omega) hd];simp;exact zd0 h hno m (by omega)
   ·rw[if_neg (by simp[hd])];exact zd0 h hno m (by omega)
theorem hD_set{L:LM Lf}{k:Nat}{x:Lf}{h:HL}(hk:L k=none)(key:Nat)(hno:x.aff key->∀j y,k<j->L j=some y->¬y.aff key):∀m,
  (m<=k->find key (vh allS (L.set k x) m h)=find key (vh allS L m h)/\tag allS (L.set k x) key m=tag allS L key m)/\
  (k<m->(¬x.aff key->find key (vh allS (L.set k x) m h)=find key (vh allS L m h)/\tag allS (L.set k x) key m=tag allS L key m)/\
   (x.aff key->find key (vh allS (L.set k x) m h)=find key x.upd/\((find key x.upd).isSome->tag allS (L.set k x) key m=some k)))
 | 0=>⟨fun _=>⟨rfl,rfl⟩,fun h=>by omega⟩
 | m+1=>by
  obtain⟨ih1,ih2⟩:=hD_set (h:=h) hk key hno m
  have st:∀(L:LM Lf),find key (vh allS L (m+1) h)=(match L m with|some y=>find key (y.upd++zaw y.W (vh allS L m h))|none=>find key (vh allS L m h)):=fun L=>by
   simp only[vh,allS];cases L m<;>rfl
  have tt:∀(L:LM Lf),tag allS L key (m+1)=(match L m with|some y=>if(find key y.upd).isSome then some m else tag allS L key m|none=>tag allS L key m):=fun L=>by
   simp only[tag,allS];cases L m<;>rfl
  constructor
  ·intro hm
   have hmk:m≠k:=by omega
   obtain⟨a1,a2⟩:=ih1 (by omega)
   rw[st,st,tt,tt,LM.set_ne _ _ hmk]
   cases L m with
   | none=>exact⟨a1,a2⟩
   | some y=>simp only[zb8,a1,a2];exact⟨trivial,trivial⟩
  ·intro hm
   by_cases hmk:m=k
   ·subst hmk
    obtain⟨a1,a2⟩:=ih1 (Z _)
    rw[st,st,tt,tt,LM.set_at,hk]
    simp only
    constructor
    ·intro hn
     refine⟨by rw[zcz _ hn,a1],?_⟩
     rw[if_neg (fun hh=>hn (.inr hh))];exact a2
    ·intro ha
     refine⟨?_,fun hs=>by rw[if_pos hs]⟩
     rw[zb8]
     cases hu:find key x.upd with
     | some b=>rfl
     | none=>
      have:key∈x.W:=ha.resolve_right (by simp[hu])
      simp[this]
   ·obtain⟨b1,b2⟩:=ih2 (by omega)
    rw[st,st,tt,tt,LM.set_ne _ _ hmk]
    cases hL:L m with
    | none=>exact⟨b1,b2⟩
    | some y=>
     simp only
     constructor
     ·intro hn
      obtain⟨c1,c2⟩:=b1 hn
      simp only[zb8,c1,c2];exact⟨trivial,trivial⟩
     ·intro hx
      have hy:=hno hx m y (by omega) hL
      obtain⟨c1,c2⟩:=b2 hx
      rw[zcz _ hy]
      refine⟨c1,fun hs=>?_⟩
      rw[if_neg (fun hh=>hy (.inr hh))];exact c2 hs
end
section
variable {R:Rg}
theorem dsts_h(hd:dstsOK R.anc R.ops=true){i j t:Nat}(hij:i<j)(hi:R.dst i=some t)(hj:R.dst j=some t):R.anc j i=true:=by
 simp only[Rg.dst,Option.bind_eq_some_iff]at hi hj
 obtain⟨oi,hi1,hi2⟩:=hi
 obtain⟨oj,hj1,hj2⟩:=hj
 have:=(dstsL_h (t:=t) hd).2 i j oi oj hij hi1 hj1 hi2 hj2
 simpa using this
theorem disj_h{a b:List Nat}(h:disj a b=true):∀key∈a,key∉b:=by
 simp only[disj,List.all_eq_true]at h
 intro key hk hb
 have:=h key hk
 rw[zau.2 hb]at this;cases this
theorem compat_h{anc:Nat->Nat->Bool}{L:LM Lf}{n:Nat}(h:compat anc L n=true){i j:Nat}{x y:Lf}(hij:i<j)(hj:j<n)(ha:anc j i=false)(hi:L i=some x)(hy:L j=some y):Apart x y:=by
 simp only[compat,List.all_eq_true,List.mem_range]at h
 have:=h j hj i hij
 rw[ha,hi,hy]at this
 simp only[Bool.false_or,fits,zx]at this
 exact⟨disj_h this.1,disj_h this.2⟩
theorem seen(ha:zdi R.ops R.anc)(he:zbd R.ops 0=true){φ:Fr}{ρ:Rho}{L:LM Lf}{a:Act}{w:World}(hs:SatR R φ ρ L a w){k:Nat}(hk:L k=none){key:Nat}{b:Blk}(hf:find key (R.hV k L)=some b)
  (hc:∀j y,L j=some y->Free R j k->key∉y.W):find key (R.hD L)=some b/\(∀x,R.scO (tag allS L key R.n) x->x<R.N k/\R.D k x):=by
 have hfree:∀j y,L j=some y->R.anc k j=false->Free R j k:=by
  intro j y hj h
  refine⟨?_,h⟩
  cases hb:R.anc j k with
  | false=>rfl
  | true=>have:=hs.wf.down j k (by simp[hj]) hb;rw[hk]at this;cases this
 obtain⟨e1,e2⟩:=vh_congr (s1:=allS) (s2:=R.anc k) (L1:=L) (L2:=L) (key:=key) (h:=R.s0.H.h) R.n (fun j hj=>by
  cases hb:R.anc k j with
  | true=>exact .inl ⟨rfl,rfl⟩
  | false=>
   refine .inr ⟨fun x _ hx=>not_aff ha he hs.base hs.wf hf hx hb (hc j x hx (hfree j x hx hb)),fun x h _=>?_⟩
   cases h)
 refine⟨by unfold Rg.hD;rw[e1];exact hf,?_⟩
 rw[e2]
 intro x hx
 cases ht:tag (R.anc k) L key R.n with
 | none=>
  rw[ht]at hx
  exact⟨Nat.lt_of_lt_of_le hx.1 (zce k),.inl hx⟩
 | some j=>
  rw[ht]at hx
  obtain⟨h1,h2,h3⟩:=tag_lt ht
  have hjk:=ha.lt he k j h2
  have hN:=N_lt (R:=R) hjk
  obtain⟨hx1,hx2⟩:=hx
  refine⟨by omega,?_⟩
  rcases hx2 with h|⟨i,h,h'⟩|h
  ·exact .inl h
  ·exact .inr (.inl ⟨i,ha.trans he k j i h2 h,h'⟩)
  ·exact .inr (.inl ⟨j,h2,h,hx1⟩)
theorem cellO_h{f:Nat}{o:Option Blk}{c:SC}(h:cellO f o=some c):∃t sz cs,o=some (.own t sz cs)/\(cs[f]?:Option (Option SC))=some (some c):=by
 unfold cellO at h
 split at h
 ·rename_i t sz cs
  refine⟨t,sz,cs,rfl,?_⟩
  cases hc:(cs[f]?:Option (Option SC)) with
  | none=>rw[hc]at h;cases h
  | some oc=>rw[hc]at h;rw[show oc=some c from h]
 ·cases h
theorem seenM(ha:zdi R.ops R.anc)(he:zbd R.ops 0=true){φ:Fr}{ρ:Rho}{L:LM Lf}{a:Act}{w:World}(hs:SatR R φ ρ L a w){k:Nat}(hk:L k=none){key f:Nat}{c:SC}{t:TypeId}{sz:Nat}{cs:List (Option SC)}
  (hf:find key (R.hV k L)=some (.own t sz cs)) (hcs:(cs[f]?:Option (Option SC))=some (some c)) (hc:∀j y,L j=some y->Free R j k->key∈y.W->cellO f (find key y.upd)=some c):
  ∃t' sz' cs',find key (R.hD L)=some (.own t' sz' cs')/\(cs'[f]?:Option (Option SC))=some (some c):=by
 have hP:∀m b,find key (vh (R.anc k) L m R.s0.H.h)=some b->find key (vh allS L m R.s0.H.h)=some b\/∃t' sz' cs',find key (vh allS L m R.s0.H.h)=some (.own t' sz' cs')/\(cs'[f]?:Option (Option SC))=some (some c):=by
  intro m
  induction m with
  | zero=>intro b hb;exact .inl hb
  | succ m ih=>
   intro b hb
   cases hL:L m with
   | none=>
    have e1:vh (R.anc k) L (m+1) R.s0.H.h=vh (R.anc k) L m R.s0.H.h:=by
     simp only[vh,hL];split<;>rfl
    have e2:vh allS L (m+1) R.s0.H.h=vh allS L m R.s0.H.h:=by
     simp only[vh,hL];split<;>rfl
    rw[e1]at hb
    rw[e2]
    exact ih b hb
   | some x=>
    have e2:vh allS L (m+1) R.s0.H.h=x.upd++zaw x.W (vh allS L m R.s0.H.h):=by simp only[vh,hL,allS]
    cases hb2:R.anc k m with
    | true=>
     have e1:vh (R.anc k) L (m+1) R.s0.H.h=x.upd++zaw x.W (vh (R.anc k) L m R.s0.H.h):=by simp only[vh,hL,hb2]
     rw[e1,zb8]at hb
     rw[e2,zb8]
     cases hu:find key x.upd with
     | some b'=>rw[hu]at hb;exact .inl hb
     | none=>
      rw[hu]at hb
      simp only[Option.none_or]at hb ⊢
      split at hb
      ·cases hb
      ·rename_i hw
       rw[if_neg hw]
       exact ih b hb
    | false=>
     have e1:vh (R.anc k) L (m+1) R.s0.H.h=vh (R.anc k) L m R.s0.H.h:=by simp only[vh,hb2]
     rw[e1]at hb
     rw[e2]
     by_cases hw:key∈x.W
     ·have hfr:Free R m k:=by
       refine⟨?_,hb2⟩
       cases hb:R.anc m k with
       | false=>rfl
       | true=>have:=hs.wf.down m k (by simp[hL]) hb;rw[hk]at this;cases this
      obtain⟨t',s',cs',h1,h2⟩:=cellO_h (hc m x hL hfr hw)
      exact .inr ⟨t',s',cs',by rw[zb8,h1];rfl,h2⟩
     ·rw[zcz _ (not_aff ha he hs.base hs.wf hf hL hb2 hw)]
      exact ih b hb
 rcases hP R.n _ hf with h|h
 ·exact⟨t,sz,cs,h,hcs⟩
 ·exact h
theorem noKey_CIs{n m:Nat->Prop}{ρ:Rho}{c:SC}{v:Value}(h:noKey c=true)(hc:CIs n ρ c v):CIs m ρ c v:=by
 cases c<;>first|(cases h;done)|exact fun ρ' _=>hc ρ (zat.refl n ρ)
theorem viewM_sat{n m:Nat->Prop}{ρ:Rho}{key f l sz:Nat}{w:World}{t:TypeId}{cs:List (Option SC)}{c:SC}(h:(Blk.own t sz cs).sat n ρ key w)(hcs:(cs[f]?:Option (Option SC))=some (some c))(hn:noKey c=true):(viewM l f c).sat m ρ key w:=by
 obtain⟨b,arr,h1,h2,h3,h4,h5⟩:=h
 intro i hi e he
 have hi0:i=0:=by omega
 have he0:e=0:=by simp at he;exact he
 subst hi0 he0
 refine⟨b,0,h1,fun g col d hg hd=>?_⟩
 rw[List.getElem?_set]at hg
 split at hg
 ·rename_i hfg
  subst hfg
  split at hg
  ·cases hg
   simp[Col.get]at hd
   subst hd
   obtain⟨v,hv,hs⟩:=h5 f c hcs
   exact⟨v,by rw[adr_zero,add_none,cell_of_row w b _ arr t _ h2];simpa using hv,noKey_CIs hn hs⟩
  ·cases hg
 ·rw[List.getElem?_replicate]at hg
  split at hg
  ·cases hg
   simp[Col.get]at hd
  ·cases hg
def ownOf(ρ:Rho)(h:HL):Nat->Prop:=fun y=>∃key b i o,find key h=some b/\b.isRow=true/\b.live i/\ρ key i=some (y,o)
theorem view_tmps(ha:zdi R.ops R.anc)(he:zbd R.ops 0=true){φ:Fr}{ρ:Rho}{L:LM Lf}{a:Act}{w:World}(hs:SatR R φ ρ L a w){k:Nat}(hk:L k=none){n:Nat->Prop}(hn:∀x,x<R.N k/\R.D k x->n x):
  ∀(t:Nat) (sv:SV),(R.view k L).tmps[t]?=some (some sv)->∃v,a.tmps[t]?=some v/\SIs n ρ sv v:=by
 intro t sv hv
 have hlen:t<R.s0.tmps.length:=by
  have:=(List.getElem?_eq_some_iff.1 hv).1
  simpa [Rg.view,zdb]using this
 have h1:=vt_is (R:=R) (A:=R.anc) (k:=k) (L:=L) (t:=t) (fun j _ h=>by
  cases hj:L j with
  | none=>rfl
  | some x=>have:=hs.wf.down j k (by simp[hj]) h;rw[hk]at this;cases this) R.ops 0 R.s0.tmps (fun i=>by simp) (fun sv h=>h) sv hv
 have h2:=hs.slots t hlen
 simp only[z8]at h1
 change match zb2 R.dst L t R.n with|some j=>_|none=>_ at h1
 cases hl:zb2 R.dst L t R.n with
 | none=>
  rw[hl]at h1 h2
  obtain⟨v,hv,hi⟩:=h2 sv h1
  exact⟨v,hv,hi.ext (.refl _ _) (fun x hx=>hn x ⟨Nat.lt_of_lt_of_le hx.1 (zce k),.inl hx⟩)⟩
 | some j=>
  rw[hl]at h1 h2
  obtain⟨hjk,x,hx,rfl⟩:=h1
  obtain⟨v,hv,hi⟩:=h2 x hx
  have hlt:=ha.lt he k j hjk
  have hN:=N_lt (R:=R) hlt
  refine⟨v,hv,hi.ext (.refl _ _) (fun y hy=>hn y ⟨?_,?_⟩)⟩
  ·have:=hy.1;omega
  ·rcases hy.2 with h|⟨i,h,h'⟩|h
   ·exact .inl h
   ·exact .inr (.inl ⟨i,ha.trans he k j i hjk h,h'⟩)
   ·exact .inr (.inl ⟨j,hjk,h,hy.1⟩)
theorem view_inv(ha:zdi R.ops R.anc)(he:zbd R.ops 0=true){φ:Fr}{ρ:Rho}{L:LM Lf}{a:Act}{w:World}(hs:SatR R φ ρ L a w){k:Nat}(hk:L k=none)(F W:List Nat)
  (hc:∀key b,find key (zbw F W (R.hV k L))=some b->∀j y,L j=some y->Free R j k->key∉y.W):
  Inv ⟨w,ownOf ρ (zbw F W (R.hV k L))⟩ ρ ⟨(R.view k L).tmps,⟨zbw F W (R.hV k L),R.N k,R.D k⟩⟩ a w:=by
 have lv:∀b b':Blk,(b'=b\/b'=b.ro)->(∀t cap n cols,b=.row t cap n cols->n<=cap)->∀i,b'.live i->b.live i:=by
  rintro b b' (rfl|rfl) hs i hi
  ·exact hi
  ·exact Blk.ro_live hs hi
 have fr:∀key b',find key (zbw F W (R.hV k L))=some b'->∃b,find key (R.hV k L)=some b/\(b'=b\/b'=b.ro):=by
  intro key b' hf
  rw[zea]at hf
  split at hf
  ·exact⟨b',hf,.inl rfl⟩
  ·split at hf
   ·obtain⟨b,hb,rfl⟩:=Option.map_eq_some_iff.1 hf
    exact⟨b,hb,.inr rfl⟩
   ·cases hf
 have key3:∀key b',find key (zbw F W (R.hV k L))=some b'->∃b,find key (R.hD L)=some b/\(b'=b\/b'=b.ro)/\b'.sat (Hp.sc ⟨zbw F W (R.hV k L),R.N k,R.D k⟩) ρ key w/\Hp.sc ⟨zbw F W (R.hV k L),R.N k,R.D k⟩ key:=by
  intro key b' hf
  obtain⟨b,hb,hor⟩:=fr key b' hf
  obtain⟨h1,h2⟩:=seen ha he hs hk hb (hc key b' hf)
  have hor':=origin ha he hs.base hs.wf k key b hb
  have hsc:Hp.sc ⟨zbw F W (R.hV k L),R.N k,R.D k⟩ key:=by
   rcases hor' with h|⟨j,h,h3,h4⟩
   ·exact⟨Nat.lt_of_lt_of_le h.1 (zce k),.inl h⟩
   ·have:=N_lt (R:=R) (ha.lt he k j h)
    exact⟨by show key<R.N k;omega,.inr (.inl ⟨j,h,h3,h4⟩)⟩
  have hsat:=hs.sat key b h1
  have hkey:R.scO (tag allS L key R.n) key:=by
   rcases vh_tag R.n h1 with⟨j,x,g1,g2,g3,g4,g5⟩|⟨g1,g2⟩
   ·rw[g1]
    rcases hs.wf.updk j x g4 key b g5 with h|h
    ·obtain⟨b2,hb2⟩:=Option.isSome_iff_exists.1 (hs.wf.ff j x g4 key (hs.wf.wf j x g4 key h))
     rcases origin ha he hs.base hs.wf j key b2 hb2 with h5|⟨i,h5,h6,h7⟩
     ·refine⟨?_,.inl h5⟩
      have:=h5.1;have:=zce (R:=R) j;omega
     ·have:=N_lt (R:=R) (ha.lt he j i h5)
      exact⟨by omega,.inr (.inl ⟨i,h5,h6,h7⟩)⟩
    ·exact⟨h.2,.inr (.inr h.1)⟩
   ·rw[g1];exact hs.base key b g2
  have hsat':b.sat (Hp.sc ⟨zbw F W (R.hV k L),R.N k,R.D k⟩) ρ key w:=Blk.sat_ext hsat (.refl _ _) (fun x hx=>h2 x hx) hkey
  refine⟨b,h1,hor,?_,hsc⟩
  rcases hor with rfl|rfl
  ·exact hsat'
  ·exact Blk.ro_sat hsat'
 refine⟨⟨⟨rfl,rfl,rfl,Z _,fun _ _ _=>rfl⟩,fun x hx=>.inr (.inr hx),fun key b h=>(key3 key b h).choose_spec.2.2.2,fun key b h=>(key3 key b h).choose_spec.2.2.1,?_,?_,?_⟩,hs.defers,?_,?_⟩
 ·intro key b h
  obtain⟨c,h1,hor,_⟩:=key3 key b h
  exact fun i hi=>hs.bd key c h1 i (lv c b hor (Blk.sat_row_le (hs.sat key c h1)) i hi)
 ·intro key b h hr i hi y o hy
  exact .inl ⟨key,b,i,o,h,hr,hi,hy⟩
 ·intro key b h hr key' b' h' hne j i hj hi
  obtain⟨c,h1,hor,_⟩:=key3 key b h
  obtain⟨c',h1',hor',_⟩:=key3 key' b' h'
  refine hs.sep key c h1 ?_ key' c' h1' hne j i (lv c b hor (Blk.sat_row_le (hs.sat key c h1)) j hj) (lv c' b' hor' (Blk.sat_row_le (hs.sat key' c' h1')) i hi)
  rcases hor with rfl|rfl
  ·exact hr
  ·rw[Blk.ro_isRow]at hr;cases hr
 ·simp[Rg.view,zdb,hs.size]
 ·exact view_tmps ha he hs hk (fun x hx=>hx)
theorem view_invM(ha:zdi R.ops R.anc)(he:zbd R.ops 0=true){φ:Fr}{ρ:Rho}{L:LM Lf}{a:Act}{w:World}(hs:SatR R φ ρ L a w){k:Nat}(hk:L k=none){key f n:Nat}{c:SC}{t:TypeId}{sz:Nat}{cs:List (Option SC)}
  (hf:find key (R.hV k L)=some (.own t sz cs)) (hcs:(cs[f]?:Option (Option SC))=some (some c)) (hn:noKey c=true) (hc:∀j y,L j=some y->Free R j k->key∈y.W->cellO f (find key y.upd)=some c):
  Inv ⟨w,ownOf ρ [(key,viewM n f c)]⟩ ρ ⟨(R.view k L).tmps,⟨[(key,viewM n f c)],R.N k,R.D k⟩⟩ a w:=by
 obtain⟨t',sz',cs',h1,h2⟩:=seenM ha he hs hk hf hcs hc
 have one:∀z b,find z [(key,viewM n f c)]=some b->z=key/\b=viewM n f c:=by
  intro z b h
  rw[zag]at h
  split at h
  ·rename_i e;cases h;exact⟨e,rfl⟩
  ·cases h
 have hsc:Hp.sc ⟨[(key,viewM n f c)],R.N k,R.D k⟩ key:=by
  rcases origin ha he hs.base hs.wf k key _ hf with h|⟨j,h,h3,h4⟩
  ·exact⟨Nat.lt_of_lt_of_le h.1 (zce k),.inl h⟩
  ·have:=N_lt (R:=R) (ha.lt he k j h)
   exact⟨by show key<R.N k;omega,.inr (.inl ⟨j,h,h3,h4⟩)⟩
 refine⟨⟨⟨rfl,rfl,rfl,Z _,fun _ _ _=>rfl⟩,fun x hx=>.inr (.inr hx),?_,?_,?_,?_,?_⟩,hs.defers,?_,?_⟩
 ·intro z b h
  obtain⟨rfl,rfl⟩:=one z b h
  exact hsc
 ·intro z b h
  obtain⟨rfl,rfl⟩:=one z b h
  exact viewM_sat (hs.sat _ _ h1) h2 hn
 ·intro z b h i hi
  obtain⟨rfl,rfl⟩:=one z b h
  have hi:i<1/\0<1:=hi
  exact hs.bd _ _ h1 i (by show i=0;omega)
 ·intro z b h hr
  obtain⟨rfl,rfl⟩:=one z b h
  cases hr
 ·intro z b h hr
  obtain⟨rfl,rfl⟩:=one z b h
  cases hr
 ·simp[Rg.view,zdb,hs.size]
 ·exact view_tmps ha he hs hk (fun x hx=>hx)
theorem sat_next(ha:zdi R.ops R.anc)(he:zbd R.ops 0=true)(hd:dstsOK R.anc R.ops=true){φ:Fr}{ρ ρ':Rho}{L:LM Lf}{a:Act}{w w':World}(hs:SatR R φ ρ L a w){k:Nat}(hk:L k=none)(hkn:k<R.n)
  (hanc:∀j,R.anc k j=true->(L j).isSome) {x:Lf} {v:Value}
  (hcmp:∀j y,L j=some y->Free R j k->Apart y x) (hWF:∀key∈x.W,key∈x.F) (hF:∀key∈x.F,(find key (R.hV k L)).isSome)
  (hup:∀key b,find key x.upd=some b->(key∈x.W\/(R.N k<=key/\key<R.N k+R.S))/\b.isRow=true/\b.sat (R.scope k) ρ' key w'/\(∀i,b.live i->∀y o,ρ' key i=some (y,o)->y<w'.heap.size)/\
   (∀i,b.live i->∀y o,ρ' key i=some (y,o)->(∃z∈x.W,∃c i' o',find z (R.hD L)=some c/\c.isRow=true/\c.live i'/\ρ z i'=some (y,o'))\/w.heap.size<=y))
  (hsepn:∀key b,find key x.upd=some b->∀key' b',find key' x.upd=some b'->key'≠key->∀j i,b.live j->b'.live i->∀y o y' o',ρ' key j=some (y,o)->ρ' key' i=some (y',o')->y'≠y)
  (hout:∀z,¬(R.N k<=z/\z<R.N k+R.S)->ρ' z=ρ z)
  (hblk:∀y,y<w.heap.size->(¬ ∃z∈x.W,∃c i' o',find z (R.hD L)=some c/\c.isRow=true/\c.live i'/\ρ z i'=some (y,o'))->w'.heap[y]?=w.heap[y]?)
  (hok:φ.ok w') (hsz:w.heap.size<=w'.heap.size) (hv:SIs (R.scope k) ρ' x.sv v):
  SatR R φ ρ' (L.set k x) (a.put (R.dst k) v) w':=by
 have hfree:∀j y,L j=some y->R.anc k j=false->Free R j k:=by
  intro j y hj h
  refine⟨?_,h⟩
  cases hb:R.anc j k with
  | false=>rfl
  | true=>have:=hs.wf.down j k (by simp[hj]) hb;rw[hk]at this;cases this
 have hjk:∀j y,L j=some y->R.anc j k=false:=by
  intro j y hj
  cases hb:R.anc j k with
  | false=>rfl
  | true=>have:=hs.wf.down j k (by simp[hj]) hb;rw[hk]at this;cases this
 have hjne:∀j y,L j=some y->j≠k:=by rintro j y hj rfl;rw[hk]at hj;cases hj
 -- nobody that is done touches what this one has written
 have hno:∀key,x.aff key->∀j y,L j=some y->R.anc k j=false->¬y.aff key:=by
  intro key hx j y hj hf
  have hcase:key∈x.W\/(R.N k<=key/\key<R.N k+R.S):=by
   rcases hx with h|h
   ·exact .inl h
   ·obtain⟨b,hb⟩:=Option.isSome_iff_exists.1 h
    exact(hup key b hb).1
  rcases hcase with h|⟨h1,h2⟩
  ·obtain⟨b,hb⟩:=Option.isSome_iff_exists.1 (hF key (hWF key h))
   refine not_aff ha he hs.base hs.wf hb hj hf ?_
   have:=hcmp j y hj (hfree j y hj hf)
   exact fun hy=>this.1 key hy (hWF key h)
  ·exact not_aff_new ha he hs.base hs.wf h1 h2 hj (hjne j y hj) (hjk j y hj)
 have hlater:∀key,x.aff key->∀j y,k<j->L j=some y->¬y.aff key:=by
  intro key hx j y hlt hj
  refine hno key hx j y hj ?_
  cases hb:R.anc k j with
  | false=>rfl
  | true=>have:=ha.lt he k j hb;omega
 have hD:=fun key=>(hD_set (h:=R.s0.H.h) (x:=x) hk key (hlater key) R.n).2 hkn
 have agr:∀t y,t=tag allS L y R.n->zat (R.scO t) ρ ρ':=by
  intro t key ht z hz'
  refine hout z ?_
  rintro⟨h1,h2⟩
  cases t with
  | none=>have:=hz'.1;have:=zce (R:=R) k;omega
  | some j=>
   obtain⟨g1,g2,g3⟩:=tag_lt ht.symm
   obtain⟨y,hy⟩:=Option.isSome_iff_exists.1 g3
   rcases hz'.2 with h|⟨i,h,h3,h4⟩|h
   ·have:=h.1;have:=zce (R:=R) k;omega
   ·have:=N_inj h1 h2 h3 h4
    subst this
    rw[hjk j y hy]at h;cases h
   ·exact hjne j y hy (N_inj h hz'.1 h1 h2)
 have agj:∀j y,L j=some y->zat (R.scope j) ρ ρ':=by
  intro j y hy z hz'
  refine hout z ?_
  rintro⟨h1,h2⟩
  rcases hz'.2 with h|⟨i,h,h3,h4⟩|h
  ·have:=h.1;have:=zce (R:=R) k;omega
  ·have:=N_inj h1 h2 h3 h4
   subst this
   rw[hjk j y hy]at h;cases h
  ·exact hjne j y hy (N_inj h hz'.1 h1 h2)
 have agb:zat R.s0.H.sc ρ ρ':=by
  intro z hz'
  refine hout z ?_
  rintro⟨h1,h2⟩
  have:=hz'.1;have:=zce (R:=R) k;omega
 -- every key that lies there: this one's,or an elder one
 have split:∀key b,find key (R.hD (L.set k x))=some b->(find key x.upd=some b/\tag allS (L.set k x) key R.n=some k)\/(¬x.aff key/\find key (R.hD L)=some b/\tag allS (L.set k x) key R.n=tag allS L key R.n):=by
  intro key b hf
  by_cases hx:x.aff key
  ·obtain⟨h1,h2⟩:=(hD key).2 hx
   unfold Rg.hD at hf
   rw[h1]at hf
   exact .inl ⟨hf,h2 (by simp[hf])⟩
  ·obtain⟨h1,h2⟩:=(hD key).1 hx
   unfold Rg.hD at hf ⊢
   rw[h1]at hf
   exact .inr ⟨hx,hf,h2⟩
 -- an elder key is none of this one's own
 have elder:∀key b,find key (R.hD L)=some b->ρ' key=ρ key:=by
  intro key b hf
  refine hout key ?_
  rintro⟨h1,h2⟩
  rcases vh_tag R.n hf with⟨j,y,_,_,_,g4,g5⟩|⟨_,g2⟩
  ·exact not_aff_new ha he hs.base hs.wf h1 h2 g4 (hjne j y g4) (hjk j y g4) (.inr (by simp[g5]))
  ·have:=(hs.base key b g2).1;have:=zce (R:=R) k;omega
 have apart:∀key b,find key (R.hD L)=some b->¬x.aff key->∀i,b.live i->∀y o,ρ key i=some (y,o)->¬ ∃z∈x.W,∃c i' o',find z (R.hD L)=some c/\c.isRow=true/\c.live i'/\ρ z i'=some (y,o'):=by
  rintro key b hf hx i hi y o hy ⟨z,hzW,c,i',o',hz1,hz2,hz4,hz3⟩
  have hne:key≠z:=by rintro rfl;exact hx (.inl hzW)
  exact hs.sep z c hz1 hz2 key b hf hne i' i hz4 hi y o' y o hz3 hy rfl
 have wfl:WFL R (L.set k x):=by
  have hVset:∀j,R.anc j k=false->R.hV j (L.set k x)=R.hV j L:=by
   intro j hj
   unfold Rg.hV
   have:∀m,vh (R.anc j) (L.set k x) m R.s0.H.h=vh (R.anc j) L m R.s0.H.h:=by
    intro m
    induction m with
    | zero=>rfl
    | succ m ih=>
     simp only[vh,ih]
     by_cases e:m=k
     ·subst e;rw[hj]
     ·rw[LM.set_ne _ _ e]
   exact this R.n
  have hkk:R.anc k k=false:=by
   cases hb:R.anc k k with
   | false=>rfl
   | true=>have:=ha.lt he k k hb;omega
  refine⟨?_,?_,?_,?_,?_,?_⟩
  ·intro j y hj
   by_cases e:j=k
   ·subst e;exact hkn
   ·rw[LM.set_ne _ _ e]at hj;exact hs.wf.lt j y hj
  ·intro j y hj
   by_cases e:j=k
   ·subst e;rw[LM.set_at]at hj;cases hj;exact fun key b hb=>(hup key b hb).1
   ·rw[LM.set_ne _ _ e]at hj;exact hs.wf.updk j y hj
  ·intro j y hj
   by_cases e:j=k
   ·subst e;rw[LM.set_at]at hj;cases hj;exact hWF
   ·rw[LM.set_ne _ _ e]at hj;exact hs.wf.wf j y hj
  ·intro j y hj
   by_cases e:j=k
   ·subst e;rw[LM.set_at]at hj;cases hj;rw[hVset _ hkk];exact hF
   ·rw[LM.set_ne _ _ e]at hj;rw[hVset _ (hjk j y hj)];exact hs.wf.ff j y hj
  ·intro j i hj hi
   by_cases e':i=k
   ·subst e';rw[LM.set_at];rfl
   ·rw[LM.set_ne _ _ e']
    by_cases e:j=k
    ·subst e;exact hanc i hi
    ·rw[LM.set_ne _ _ e]at hj;exact hs.wf.down j i hj hi
  ·intro i j y z hne hi hj hfr
   by_cases e:i=k
   ·subst e
    rw[LM.set_at]at hi;cases hi
    have e':j≠i:=Ne.symm hne
    rw[LM.set_ne _ _ e']at hj
    have:=hcmp j z hj ⟨hfr.2,hfr.1⟩
    exact⟨this.2,this.1⟩
   ·rw[LM.set_ne _ _ e]at hi
    by_cases e':j=k
    ·subst e'
     rw[LM.set_at]at hj;cases hj
     exact hcmp i y hi hfr
    ·rw[LM.set_ne _ _ e']at hj
     exact hs.wf.cmp i j y z hne hi hj hfr
 refine⟨hok,hs.up,hs.base,wfl,?_,?_,?_,?_,?_,?_,?_⟩
 ·intro key b hf
  rcases split key b hf with⟨h1,h2⟩|⟨h1,h2,h3⟩
  ·rw[h2];exact(hup key b h1).2.2.1
  ·rw[h3]
   have hsat:=hs.sat key b h2
   have hkey:R.scO (tag allS L key R.n) key:=by
    rcases vh_tag R.n h2 with⟨j,y,g1,g2,g3,g4,g5⟩|⟨g1,g2⟩
    ·rw[g1]
     rcases hs.wf.updk j y g4 key b g5 with h|h
     ·obtain⟨b2,hb2⟩:=Option.isSome_iff_exists.1 (hs.wf.ff j y g4 key (hs.wf.wf j y g4 key h))
      rcases origin ha he hs.base hs.wf j key b2 hb2 with h5|⟨i,h5,h6,h7⟩
      ·refine⟨?_,.inl h5⟩
       have:=h5.1;have:=zce (R:=R) j;omega
      ·have:=N_lt (R:=R) (ha.lt he j i h5)
       exact⟨by omega,.inr (.inl ⟨i,h5,h6,h7⟩)⟩
     ·exact⟨h.2,.inr (.inr h.1)⟩
    ·rw[g1];exact hs.base key b g2
   have:=Blk.sat_ext hsat (agr _ key rfl) (fun _ h=>h) hkey
   refine Blk.sat_world this fun i hi y o hy=>?_
   rw[elder key b h2]at hy
   exact hblk y (hs.bd key b h2 i hi y o hy) (apart key b h2 h1 i hi y o hy)
 ·intro key b hf i hi y o hy
  rcases split key b hf with⟨h1,_⟩|⟨_,h2,_⟩
  ·exact(hup key b h1).2.2.2.1 i hi y o hy
  ·rw[elder key b h2]at hy
   exact Nat.lt_of_lt_of_le (hs.bd key b h2 i hi y o hy) hsz
 ·intro key b hf hr i hi y o hy
  rcases split key b hf with⟨h1,_⟩|⟨_,h2,_⟩
  ·rcases(hup key b h1).2.2.2.2 i hi y o hy with⟨z,hzW,c,i',o',g1,g2,g4,g3⟩|h
   ·exact hs.may z c g1 g2 i' g4 y o' g3
   ·exact .inr (Nat.le_trans hs.fr.size h)
  ·rw[elder key b h2]at hy
   exact hs.may key b h2 hr i hi y o hy
 ·intro key b hf hr key' b' hf' hne j i hj hi y o y' o' hy hy'
  rcases split key b hf with⟨h1,_⟩|⟨hx,h2,_⟩<;>rcases split key' b' hf' with⟨h1',_⟩|⟨hx',h2',_⟩
  ·exact hsepn key b h1 key' b' h1' hne j i hj hi y o y' o' hy hy'
  ·rw[elder key' b' h2']at hy'
   rcases(hup key b h1).2.2.2.2 j hj y o hy with⟨z,hzW,c,i',o2,g1,g2,g4,g3⟩|h
   ·rintro rfl
    exact apart key' b' h2' hx' i hi y' o' hy' ⟨z,hzW,c,i',o2,g1,g2,g4,g3⟩
   ·have:=hs.bd key' b' h2' i hi y' o' hy';omega
  ·rw[elder key b h2]at hy
   rcases(hup key' b' h1').2.2.2.2 i hi y' o' hy' with⟨z,hzW,c,i',o2,g1,g2,g4,g3⟩|h
   ·rintro rfl
    exact apart key b h2 hx j hj y' o hy ⟨z,hzW,c,i',o2,g1,g2,g4,g3⟩
   ·have:=hs.bd key b h2 j hj y o hy;omega
  ·rw[elder key b h2]at hy
   rw[elder key' b' h2']at hy'
   exact hs.sep key b h2 hr key' b' h2' hne j i hj hi y o y' o' hy hy'
 ·cases hdk:R.dst k with
  | none=>exact hs.defers
  | some d=>exact hs.defers
 ·cases hdk:R.dst k with
  | none=>exact hs.size
  | some d=>simp[Act.put,hs.size]
 ·intro t ht
  by_cases hdt:R.dst k=some t
  ·have hno':∀j,k<j->R.dst j=some t->L j=none:=by
    intro j hj hdj
    cases hL:L j with
    | none=>rfl
    | some y=>have:=dsts_h hd hj hdt hdj;rw[hjk j y hL]at this;cases this
   rw[zd0 hdt hno' R.n hkn]
   intro y hy
   rw[LM.set_at]at hy;cases hy
   rw[hdt]
   exact⟨v,by simp[Act.put,hs.size,ht],hv⟩
  ·rw[zf9 hdt]
   have hsl:=hs.slots t ht
   have hput:∀u,a.tmps[t]?=some u->(a.put (R.dst k) v).tmps[t]?=some u:=by
    intro u hu
    cases hdk:R.dst k with
    | none=>exact hu
    | some d=>
     simp only[Act.put]
     rw[Array.getElem?_setIfInBounds_ne (fun e=>hdt (by rw[hdk,e]))]
     exact hu
   cases hl:zb2 R.dst L t R.n with
   | none=>
    rw[hl]at hsl
    intro sv hsv
    obtain⟨u,hu,hi⟩:=hsl sv hsv
    exact⟨u,hput u hu,hi.ext agb (fun _ h=>h)⟩
   | some j=>
    rw[hl]at hsl
    intro y hy
    obtain⟨g1,g2,g3⟩:=lastD_lt hl
    obtain⟨y0,hy0⟩:=Option.isSome_iff_exists.1 g2
    rw[LM.set_ne _ _ (hjne j y0 hy0)]at hy
    obtain⟨u,hu,hi⟩:=hsl y hy
    exact⟨u,hput u hu,hi.ext (agj j y hy) (fun _ h=>h)⟩
end
theorem allRows_h:∀ {h:HL} {key:Nat} {b:Blk},zcl h=true->find key h=some b->b.isRow=true
 | [],_,_,_,h=>by simp[find]at h
 | (k,x)::r,key,b,ha,h=>by
  simp only[zcl,zx]at ha
  rw[zag]at h
  split at h
  ·cases h;exact ha.1
  ·exact allRows_h ha.2 h
section
variable {R:Rg}
theorem hD_sc(ha:zdi R.ops R.anc)(he:zbd R.ops 0=true){φ:Fr}{ρ:Rho}{L:LM Lf}{a:Act}{w:World}(hs:SatR R φ ρ L a w){key:Nat}{b:Blk}(h2:find key (R.hD L)=some b):R.scO (tag allS L key R.n) key:=by
 rcases vh_tag R.n h2 with⟨j,y,g1,g2,g3,g4,g5⟩|⟨g1,g2⟩
 ·rw[g1]
  rcases hs.wf.updk j y g4 key b g5 with h|h
  ·obtain⟨b2,hb2⟩:=Option.isSome_iff_exists.1 (hs.wf.ff j y g4 key (hs.wf.wf j y g4 key h))
   rcases origin ha he hs.base hs.wf j key b2 hb2 with h5|⟨i,h5,h6,h7⟩
   ·refine⟨?_,.inl h5⟩
    have:=h5.1;have:=zce (R:=R) j;omega
   ·have:=N_lt (R:=R) (ha.lt he j i h5)
    exact⟨by omega,.inr (.inl ⟨i,h5,h6,h7⟩)⟩
  ·exact⟨h.2,.inr (.inr h.1)⟩
 ·rw[g1];exact hs.base key b g2
theorem cellM_h{H:HL}{v:Option SV}{key n f:Nat}{c:SC}(h:cellM H v=some (key,n,f,c)):∃t sz cs,find key H=some (.own t sz cs)/\(cs[f]?:Option (Option SC))=some (some c)/\noKey c=true:=by
 unfold cellM at h
 split at h
 ·rename_i k0 _ _ f0 _
  split at h
  ·rename_i t sz cs hf
   split at h
   ·rename_i c0 hc
    split at h
    ·rename_i hn
     cases h
     exact⟨t,sz,cs,hf,hc,hn⟩
    ·cases h
   ·cases h
  ·cases h
 ·cases h
theorem mk'_h{k:Nat}{s:St}{o:Op}{key n f:Nat}{c:SC}(h:R.mk' k s o=some (key,n,f,c)):∃t sz cs,find key s.H.h=some (.own t sz cs)/\(cs[f]?:Option (Option SC))=some (some c)/\noKey c=true:=by
 unfold Rg.mk' at h
 split at h
 ·unfold maskO at h
  split at h
  ·split at h
   ·exact cellM_h h
   ·cases h
  ·exact cellM_h h
  ·exact cellM_h h
  ·cases h
 ·cases h
theorem step_core(hc:zbz R.P R.callT)(ha:zdi R.ops R.anc)(he:zbd R.ops 0=true)(hd:dstsOK R.anc R.ops=true){φ:Fr}{ρ:Rho}{L:LM Lf}{a:Act}{w:World}(hs:SatR R φ ρ L a w)
  {k:Nat} {o:Oper} {Q:Exit->Act->World->Prop} {K:Lf->Prop} (hkn:k<R.n) (hdst:R.dst k=o.dst) (hk:L k=none) (hanc:∀j,R.anc k j=true->(L j).isSome) {rv:HL} {F Wk:List Nat} {M:List (Nat×Nat×SC)}
  (hg:((opT R.P R.callT ⟨(R.view k L).tmps,⟨rv,R.N k,R.D k⟩⟩ o.op).bind fun r=>(zcx (isG R.ops o.dst) r).bind fun r=>
   chk (Nat.ble r.2.nxt (R.N k+R.S)&&zcl (zcn (R.N k) Wk r.2.h)) (.leaf ⟨r.1,F,Wk,zcn (R.N k) Wk r.2.h,M⟩) 240).holds K)
  (hinv:Inv ⟨w,ownOf ρ rv⟩ ρ ⟨(R.view k L).tmps,⟨rv,R.N k,R.D k⟩⟩ a w)
  (hwrow:∀z c,find z rv=some c->c.isRow=true->z∈Wk/\find z (R.hD L)=some c)
  (hWF:∀z∈Wk,z∈F) (hwF:∀z∈F,(find z (R.hV k L)).isSome)
  (hcmp:∀x,K x->∀j y,L j=some y->Free R j k->Apart y x):
  o.wp R.P a w (fun a' w'=>∃x,K x/\∃ρ',zat R.s0.H.sc ρ ρ'/\SatR R φ ρ' (L.set k x) a' w') Q:=by
 rw[Out.holds_bind]at hg
 refine Oper.wp_mono ?_ (opT_ok (o:=o) (Q:=Q) hc hinv hg)
 rintro a' w' ⟨v,ρ',sv0,H',hK,h1,h2,h3,h40,rfl⟩
 rw[Out.holds_bind]at hK
 obtain⟨sv,hK,hsv⟩:=splitT_ok hK
 have h4:=hsv _ _ _ h40
 clear hsv h40
 obtain⟨hb,hK⟩:=zaf hK
 simp only[zx]at hb
 obtain⟨hb1,hb2⟩:=hb
 replace hb1:H'.nxt<=R.N k+R.S:=Nat.le_of_ble_eq_true hb1
 have hD':H'.D=R.D k:=h2.D
 have hold:∃ρ2:Rho,(∀z,R.N k<=z/\z<R.N k+R.S->ρ2 z=ρ' z)/\∀z,¬(R.N k<=z/\z<R.N k+R.S)->ρ2 z=ρ z:=
  ⟨fun z=>if R.N k<=z/\z<R.N k+R.S then ρ' z else ρ z,fun z hz=>if_pos hz,fun z hz=>if_neg hz⟩
 obtain⟨ρ2,hin,hout⟩:=hold
 have hag:zat H'.sc ρ' ρ2:=by
  intro z hz
  by_cases e:R.N k<=z/\z<R.N k+R.S
  ·exact hin z e
  ·rw[hout z e]
   have hz1:=hz.1
   have hzD:=hz.2
   rw[hD']at hzD
   exact(h1 z ⟨by show z<R.N k;omega,hzD⟩).symm
 have hsc:∀z,H'.sc z->R.scope k z:=fun z hz=>⟨Nat.lt_of_lt_of_le hz.1 hb1,hD' ▸ hz.2⟩
 have hnew:∀key b,find key (zcn (R.N k) Wk H'.h)=some b->(key∈Wk\/R.N k<=key)/\find key H'.h=some b/\b.isRow=true/\ρ2 key=ρ' key:=by
  intro key b hf
  have hr:=allRows_h hb2 hf
  rw[find_newOf]at hf
  split at hf
  ·rename_i hh
   exact⟨hh,hf,hr,hag key (h3.lt key b hf)⟩
  ·cases hf
 have hblk:∀y,y<w.heap.size->(¬ ∃z∈Wk,∃c i' o',find z (R.hD L)=some c/\c.isRow=true/\c.live i'/\ρ z i'=some (y,o'))->w'.heap[y]?=w.heap[y]?:=by
  intro y hy hne
  refine h3.fr.block y hy ?_
  rintro⟨z,c,i,o',hf,hr,hli,hρ⟩
  obtain⟨g1,g2⟩:=hwrow z c hf hr
  exact hne ⟨z,g1,c,i,o',g2,hr,hli,hρ⟩
 refine⟨_,hK,ρ2,fun z hz=>hout z (by rintro⟨q1,_⟩;have:=hz.1;have:=zce (R:=R) k;omega),?_⟩
 rw[<-hdst]
 refine sat_next ha he hd hs hk hkn hanc (fun j y hj hfr=>hcmp _ hK j y hj hfr) hWF (fun z hz=>?_) ?_ ?_ hout hblk ?_ h3.fr.size (h4.ext hag hsc)
 ·exact hwF z hz
 ·intro key b hf
  obtain⟨g1,g2,g3,g4⟩:=hnew key b hf
  have hlt:=h3.lt key b g2
  refine⟨?_,g3,Blk.sat_ext (h3.sat key b g2) hag hsc hlt,?_,?_⟩
  ·exact g1.imp id fun h=>⟨h,Nat.lt_of_lt_of_le hlt.1 hb1⟩
  ·intro i hi y o' hy;rw[g4]at hy;exact h3.bd key b g2 i hi y o' hy
  ·intro i hi y o' hy
   rw[g4]at hy
   rcases h3.may key b g2 g3 i hi y o' hy with⟨z,c,i',o2,hf',hr',hli,hρ⟩|hge
   ·obtain⟨g1',g2'⟩:=hwrow z c hf' hr'
    exact .inl ⟨z,g1',c,i',o2,g2',hr',hli,hρ⟩
   ·exact .inr hge
 ·intro key b hf key' b' hf' hne j i hj hi y o1 y' o2 hy hy'
  obtain⟨g1,g2,g3,g4⟩:=hnew key b hf
  obtain⟨g1',g2',g3',g4'⟩:=hnew key' b' hf'
  rw[g4]at hy
  rw[g4']at hy'
  exact h3.sep key b g2 g3 key' b' g2' hne j i hj hi y o1 y' o2 hy hy'
 ·refine⟨h3.fr.os.trans hs.fr.os,h3.fr.tape.trans hs.fr.tape,h3.fr.output.trans hs.fr.output,Nat.le_trans hs.fr.size h3.fr.size,fun b hb hn=>?_⟩
  rw[<-hs.fr.block b hb hn]
  refine h3.fr.block b (Nat.lt_of_lt_of_le hb hs.fr.size) ?_
  rintro⟨z,c,i,o',hf,hr,hli,hρ⟩
  obtain⟨g1,g2⟩:=hwrow z c hf hr
  rcases hs.may z c g2 hr i hli b o' hρ with h|h
  ·exact hn h
  ·omega
theorem step_ok(hc:zbz R.P R.callT)(ha:zdi R.ops R.anc)(he:zbd R.ops 0=true)(hd:dstsOK R.anc R.ops=true){φ:Fr}{ρ:Rho}{L:LM Lf}{a:Act}{w:World}(hs:SatR R φ ρ L a w)
  {k:Nat} {o:Oper} {Q:Exit->Act->World->Prop} {K:Lf->Prop} (ho:R.ops[k]?=some o) (hk:L k=none) (hanc:∀j,R.anc k j=true->(L j).isSome) (hT:(R.T k L).holds K)
  (hcmp:∀x,K x->∀j y,L j=some y->Free R j k->Apart y x/\Keep y x):
  wpOp R.P R.ops.toArray Q k (fun a' w'=>∃x,K x/\∃ρ',zat R.s0.H.sc ρ ρ'/\SatR R φ ρ' (L.set k x) a' w') a w:=by
 have hkn:k<R.n:=(List.getElem?_eq_some_iff.1 ho).1
 have hdst:R.dst k=o.dst:=by simp[Rg.dst,ho]
 unfold Rg.T at hT
 rw[ho]at hT
 obtain⟨o',ho',hT⟩:=zaa hT
 cases ho'
 rw[Out.holds_bind]at hT
 have hg:=guardT_ok0 (n:=fun x=>x<R.N k/\R.D k x) (view_tmps ha he hs hk (n:=fun x=>x<R.N k/\R.D k x) (fun x hx=>hx)) hT
 unfold wpOp
 simp only[List.getElem?_toArray,ho]
 split
 ·rename_i hw
  rw[hw]at hg
  refine .inl ?_
  replace hg:(match R.mk' k (R.view k L) o.op with
   | some (key,n,f,c)=>(opT R.P R.callT ⟨(R.view k L).tmps,⟨[(key,viewM n f c)],R.N k,R.D k⟩⟩ o.op).bind fun r=>(zcx (isG R.ops o.dst) r).bind fun r=>
    chk (Nat.ble r.2.nxt (R.N k+R.S)&&zcl (zcn (R.N k) [] r.2.h)) (.leaf ⟨r.1,[],[],zcn (R.N k) [] r.2.h,[(key,f,c)]⟩) 240
   | none=>(opT R.P R.callT ⟨(R.view k L).tmps,⟨zbw (foot R.P (R.wr k) (R.view k L) o.op).1 (foot R.P (R.wr k) (R.view k L) o.op).2 (R.hV k L),R.N k,R.D k⟩⟩ o.op).bind fun r=>(zcx (isG R.ops o.dst) r).bind fun r=>
    chk (Nat.ble r.2.nxt (R.N k+R.S)&&zcl (zcn (R.N k) (((zbw (foot R.P (R.wr k) (R.view k L) o.op).1 (foot R.P (R.wr k) (R.view k L) o.op).2 (R.hV k L)).map (·.1)).filter (mem · (foot R.P (R.wr k) (R.view k L) o.op).2)) r.2.h))
     (.leaf ⟨r.1,(zbw (foot R.P (R.wr k) (R.view k L) o.op).1 (foot R.P (R.wr k) (R.view k L) o.op).2 (R.hV k L)).map (·.1),((zbw (foot R.P (R.wr k) (R.view k L) o.op).1 (foot R.P (R.wr k) (R.view k L) o.op).2 (R.hV k L)).map (·.1)).filter (mem · (foot R.P (R.wr k) (R.view k L) o.op).2),
      zcn (R.N k) (((zbw (foot R.P (R.wr k) (R.view k L) o.op).1 (foot R.P (R.wr k) (R.view k L) o.op).2 (R.hV k L)).map (·.1)).filter (mem · (foot R.P (R.wr k) (R.view k L) o.op).2)) r.2.h,[]⟩) 240:Out Lf).holds K:=hg
  cases hm:R.mk' k (R.view k L) o.op with
  | some q=>
   obtain⟨key,n,f,c⟩:=q
   rw[hm]at hg
   replace hg:((opT R.P R.callT ⟨(R.view k L).tmps,⟨[(key,viewM n f c)],R.N k,R.D k⟩⟩ o.op).bind fun r=>(zcx (isG R.ops o.dst) r).bind fun r=>
    chk (Nat.ble r.2.nxt (R.N k+R.S)&&zcl (zcn (R.N k) [] r.2.h)) (.leaf ⟨r.1,[],[],zcn (R.N k) [] r.2.h,[(key,f,c)]⟩) 240).holds K:=hg
   obtain⟨t,sz,cs,g1,g2,g3⟩:=mk'_h hm
   have hc1:∀j y,L j=some y->Free R j k->key∈y.W->cellO f (find key y.upd)=some c:=by
    intro j y hj hfr
    have hg:=hg
    rw[Out.holds_bind]at hg
    refine Out.holds_const _ (Out.holds_mono _ (fun r hr=>?_) hg)
    rw[Out.holds_bind]at hr
    refine Out.holds_const _ (Out.holds_mono _ (fun r hr=>?_) hr)
    obtain⟨_,hr⟩:=zaf hr
    exact(hcmp _ hr j y hj hfr).2 (key,f,c) (List.mem_cons_self)
   refine step_core hc ha he hd hs hkn hdst hk hanc hg (view_invM ha he hs hk g1 g2 g3 hc1) (fun z b hz hr=>?_) (fun z hz=>by cases hz) (fun z hz=>by cases hz) (fun x hx j y hj hfr=>(hcmp x hx j y hj hfr).1)
   rw[zag]at hz
   split at hz
   ·cases hz;cases hr
   ·cases hz
  | none=>
   rw[hm]at hg
   replace hg:((opT R.P R.callT ⟨(R.view k L).tmps,⟨zbw (foot R.P (R.wr k) (R.view k L) o.op).1 (foot R.P (R.wr k) (R.view k L) o.op).2 (R.hV k L),R.N k,R.D k⟩⟩ o.op).bind fun r=>(zcx (isG R.ops o.dst) r).bind fun r=>
    chk (Nat.ble r.2.nxt (R.N k+R.S)&&zcl (zcn (R.N k) (((zbw (foot R.P (R.wr k) (R.view k L) o.op).1 (foot R.P (R.wr k) (R.view k L) o.op).2 (R.hV k L)).map (·.1)).filter (mem · (foot R.P (R.wr k) (R.view k L) o.op).2)) r.2.h))
     (.leaf ⟨r.1,(zbw (foot R.P (R.wr k) (R.view k L) o.op).1 (foot R.P (R.wr k) (R.view k L) o.op).2 (R.hV k L)).map (·.1),((zbw (foot R.P (R.wr k) (R.view k L) o.op).1 (foot R.P (R.wr k) (R.view k L) o.op).2 (R.hV k L)).map (·.1)).filter (mem · (foot R.P (R.wr k) (R.view k L) o.op).2),
      zcn (R.N k) (((zbw (foot R.P (R.wr k) (R.view k L) o.op).1 (foot R.P (R.wr k) (R.view k L) o.op).2 (R.hV k L)).map (·.1)).filter (mem · (foot R.P (R.wr k) (R.view k L) o.op).2)) r.2.h,[]⟩) 240).holds K:=hg
   generalize (foot R.P (R.wr k) (R.view k L) o.op).1=F at hg
   generalize (foot R.P (R.wr k) (R.view k L) o.op).2=W0 at hg
   have hc1:∀j y,L j=some y->Free R j k->∀key∈y.W,key∉(zbw F W0 (R.hV k L)).map (·.1):=by
    intro j y hj hfr
    have hg:=hg
    rw[Out.holds_bind]at hg
    refine Out.holds_const _ (Out.holds_mono _ (fun r hr=>?_) hg)
    rw[Out.holds_bind]at hr
    refine Out.holds_const _ (Out.holds_mono _ (fun r hr=>?_) hr)
    obtain⟨_,hr⟩:=zaf hr
    exact(hcmp _ hr j y hj hfr).1.1
   have hinv:=view_inv ha he hs hk F W0 (fun key b hf j y hj hfr hm=>hc1 j y hj hfr key hm (ze8 hf))
   refine step_core hc ha he hd hs hkn hdst hk hanc hg hinv (fun z c hf hr=>?_) (fun z hz=>(List.mem_filter.1 hz).1) (fun z hz=>?_) (fun x hx j y hj hfr=>(hcmp x hx j y hj hfr).1)
   ·have hm:=ze8 hf
    have hf':=hf
    rw[zea]at hf'
    split at hf'
    ·rename_i hzW
     refine⟨List.mem_filter.2 ⟨hm,zau.2 hzW⟩,?_⟩
     exact(seen ha he hs hk hf' (fun j y hj hfr hw'=>hc1 j y hj hfr z hw' hm)).1
    ·split at hf'
     ·obtain⟨b,_,rfl⟩:=Option.map_eq_some_iff.1 hf'
      rw[Blk.ro_isRow]at hr;cases hr
     ·cases hf'
   ·obtain⟨c,hf⟩:=zdn hz
    rw[zea]at hf
    split at hf
    ·simp[hf]
    ·split at hf
     ·obtain⟨b,hb,_⟩:=Option.map_eq_some_iff.1 hf
      simp[hb]
     ·cases hf
 ·rename_i hw
  have hw':Region.wanted o (yielded R.ops.toArray a.tmps)=false:=by simpa using hw
  rw[hw']at hg
  replace hg:K ⟨.t [],[],[],[],[]⟩:=hg
  refine⟨_,hg,ρ,.refl _ _,?_⟩
  rw[<-hdst]
  refine sat_next ha he hd hs hk hkn hanc (fun j y hj hfr=>(hcmp _ hg j y hj hfr).1) (fun key h=>by cases h) (fun key h=>by cases h) (fun key b h=>by cases h) (fun key b h=>by cases h) (fun _ _=>rfl) (fun _ _ _=>rfl) hs.fr (Z _) (fun _ _=>rfl)
theorem vt_loc{anc:Nat->Nat->Bool}{k:Nat}{L L':LM Lf}(h:∀j,anc k j=true->L j=L' j):∀(os:List Oper) (j0:Nat) (t:List (Option SV)),vt anc k L os j0 t=vt anc k L' os j0 t
 | [],_,_=>rfl
 | o::os,j0,t=>by
  cases hd:o.dst with
  | none=>simp only[vt,hd];exact vt_loc h os _ _
  | some d=>
   cases h1:anc k j0 with
   | true=>simp only[vt,hd,h1,h j0 h1];exact vt_loc h os _ _
   | false=>cases h2:anc j0 k<;>simp only[vt,hd,h1,h2]<;>exact vt_loc h os _ _
theorem vh_loc{sel:Nat->Bool}{L L':LM Lf}(hL:∀j,sel j=true->L j=L' j)(h:HL):∀m,vh sel L m h=vh sel L' m h
 | 0=>rfl
 | m+1=>by
  simp only[vh,vh_loc hL h m]
  cases h1:sel m with
  | true=>rw[hL m h1]
  | false=>rfl
theorem T_loc(k:Nat)(L L':LM Lf)(h:∀j,R.anc k j=true->L j=L' j):R.T k L=R.T k L':=by
 have e:R.view k L=R.view k L':=by unfold Rg.view;rw[vt_loc h,vh_loc h]
 unfold Rg.T
 rw[e]
theorem vh_none{sel:Nat->Bool}{h:HL}:∀m,vh sel (fun _=>(none:Option Lf)) m h=h
 | 0=>rfl
 | m+1=>by simp only[vh,vh_none m];cases sel m<;>rfl
theorem tag_none{sel:Nat->Bool}{key:Nat}:∀m,tag sel (fun _=>(none:Option Lf)) key m=none
 | 0=>rfl
 | m+1=>by simp only[tag,tag_none m];cases sel m<;>rfl
theorem lastD_none{dst:Nat->Option Tmp}{t:Nat}:∀m,zb2 dst (fun _=>(none:Option Lf)) t m=none
 | 0=>rfl
 | m+1=>by simp only[zb2,lastD_none m];simp
theorem start_ok{φ:Fr}{ρ:Rho}{a:Act}{w:World}(h:Inv φ ρ R.s0 a w):SatR R φ ρ (fun _=>none) a w:=by
 have e:R.hD (fun _=>none)=R.s0.H.h:=vh_none _
 refine⟨h.heap.fr,h.heap.up,h.heap.lt,⟨?_,?_,?_,?_,?_,?_⟩,?_,?_,?_,?_,h.defers,h.size,?_⟩
 ·intro j x hj;cases hj
 ·intro j x hj;cases hj
 ·intro j x hj;cases hj
 ·intro j x hj;cases hj
 ·intro j i hj;simp at hj
 ·intro i j x y _ hi;cases hi
 ·intro key b hf;rw[e]at hf;rw[tag_none];exact h.heap.sat key b hf
 ·intro key b hf;rw[e]at hf;exact h.heap.bd key b hf
 ·intro key b hf;rw[e]at hf;exact h.heap.may key b hf
 ·intro key b hf hr key' b' hf';rw[e]at hf hf';exact h.heap.sep key b hf hr key' b' hf'
 ·intro t ht
  rw[lastD_none]
  exact fun sv hsv=>h.tmps t sv hsv
def Rg.fin(R:Rg)(L:LM Lf):St:=⟨vt (fun _ _=>true) R.ops.length L R.ops 0 R.s0.tmps,⟨vh (fun _=>true) L R.ops.length R.s0.H.h,R.s0.H.nxt+R.ops.length*R.S,R.s0.H.D⟩⟩
theorem end_ok(ha:zdi R.ops R.anc)(he:zbd R.ops 0=true){φ:Fr}{ρ:Rho}{L:LM Lf}{a:Act}{w:World}(hs:SatR R φ ρ L a w):Inv φ ρ (R.fin L) a w:=by
 have sco:∀t z,(∀j,t=some j->j<R.n)->R.scO t z->(R.fin L).H.sc z:=by
  intro t z ht hz
  cases t with
  | none=>exact⟨Nat.lt_of_lt_of_le hz.1 (Nat.le_add_right _ _),hz.2⟩
  | some j=>
   have hj:=ht j rfl
   have:=N_lt (R:=R) hj
   refine⟨?_,?_⟩
   ·have h1:=hz.1
    have h2:R.N R.n=R.s0.H.nxt+R.ops.length*R.S:=rfl
    show z<R.s0.H.nxt+R.ops.length*R.S
    omega
   ·rcases hz.2 with h|⟨i,_,h,_⟩|h
    ·exact h.2
    ·exact hs.up z (Nat.le_trans (zce i) h)
    ·exact hs.up z (Nat.le_trans (zce j) h)
 have htag:∀key j,tag allS L key R.n=some j->j<R.n:=fun key j h=>(tag_lt h).1
 refine⟨⟨hs.fr,fun z hz=>hs.up z (Nat.le_trans (Nat.le_add_right _ _) hz),?_,?_,hs.bd,hs.may,hs.sep⟩,hs.defers,?_,?_⟩
 ·intro key b hf
  exact sco _ _ (htag key) (hD_sc ha he hs hf)
 ·intro key b hf
  exact Blk.sat_ext (hs.sat key b hf) (.refl _ _) (fun z hz=>sco _ z (htag key) hz) (hD_sc ha he hs hf)
 ·simp[Rg.fin,zdb,hs.size]
 ·intro t sv hv
  have hlen:t<R.s0.tmps.length:=by
   have:=(List.getElem?_eq_some_iff.1 hv).1
   simpa [Rg.fin,zdb]using this
  have h1:=vt_is (R:=R) (A:=fun _ _=>true) (k:=R.ops.length) (L:=L) (t:=t) (fun j h _=>by cases h) R.ops 0 R.s0.tmps (fun i=>by simp) (fun sv h=>h) sv hv
  have h2:=hs.slots t hlen
  simp only[z8]at h1
  change match zb2 R.dst L t R.n with|some j=>_|none=>_ at h1
  cases hl:zb2 R.dst L t R.n with
  | none=>
   rw[hl]at h1 h2
   obtain⟨v,hv,hi⟩:=h2 sv h1
   exact⟨v,hv,hi.ext (.refl _ _) (fun x hx=>sco none x (fun j h=>by cases h) hx)⟩
  | some j=>
   rw[hl]at h1 h2
   obtain⟨_,x,hx,rfl⟩:=h1
   obtain⟨v,hv,hi⟩:=h2 x hx
   have hj:=(lastD_lt hl).1
   exact⟨v,hv,hi.ext (.refl _ _) (fun y hy=>sco (some j) y (fun i h=>by cases h;exact hj) hy)⟩
end
theorem Inv.drew{φ:Fr}{ρ:Rho}{s:St}{a:Act}{w:World}(h:Inv φ ρ s a w):Inv φ ρ s a w.drew:=⟨h.heap.drew,h.defers,h.size,h.tmps⟩
theorem draw_ok{P:Program}{callT:CallT}(hc:zbz P callT){φ:Fr}{S:Nat}{ops:List Oper}{Q:Exit->Act->World->Prop}{ρ:Rho}{s:St}{a:Act}{w:World}{K:St->Prop}{id:Nat}(h:Inv φ ρ s a w)
  (hh:(drawT P callT S ops s).holds K) (hQ:Then φ ρ s K (Q .normal)):(Code.region id ops.toArray true).wp P Q a w:=by
 unfold drawT at hh
 rw[fNs_eq]at hh
 obtain⟨hb,hh⟩:=zaf hh
 simp only[zx]at hb
 obtain⟨⟨hm,he⟩,hd⟩:=hb
 have ha:zdi ops (ancOf (zdo ops [])):=anc_ok he
 generalize hR:(⟨P,callT,ops,ancOf (zdo ops []),writers (ancOf (zdo ops [])) ops,lazies (ancOf (zdo ops [])) ops,S,s⟩:Rg)=R at hh
 have e1:R.P=P:=by rw[<-hR]
 have e2:R.callT=callT:=by rw[<-hR]
 have e3:R.ops=ops:=by rw[<-hR]
 have e4:R.anc=ancOf (zdo ops []):=by rw[<-hR]
 have e5:R.s0=s:=by rw[<-hR]
 have e6:R.S=S:=by rw[<-hR]
 have hh2:((resT R.T R.ops.length 0 (fun _=>none)).bind fun L=>chk (compat R.anc L R.ops.length) (.need (∀i j x y,L i=some x->L j=some y->R.anc i j=false->R.anc j i=false->Keep y x) (.leaf (R.fin L))) 243).holds K:=by
  rw[Out.holds_bind]
  have h0:(ofL []:LM Lf)=fun _=>none:=by funext j;simp[ofL]
  rw[<-h0]
  refine resTL_eq (R:=R) R.ops.length 0 [] rfl (by omega) ?_
  rw[Out.holds_bind]at hh
  rw[e3,e4]
  refine Out.holds_mono _ (fun l hl hlen=>?_) hh
  obtain⟨q1,q2⟩:=zaf hl
  obtain⟨q3,q2⟩:=keepX_h q2
  simp only[vtK_eq ops.length ops l 0,fHL_eq,fN_eq]at q2
  have e:R.fin (ofL l)=⟨vtL (fun _ _=>true) ops.length l ops 0 s.tmps,⟨vhL (fun _=>true) l 0 s.H.h,s.H.nxt+ops.length*S,s.H.D⟩⟩:=by
   have g1:=vtL_eq (fun _ _=>true) ops.length l ops 0 s.tmps
   rw[List.drop_zero]at g1
   unfold Rg.fin
   rw[e3,e5,e6,g1,vhL_view (fun _=>true) l s.H.h (n:=ops.length) (by rw[hlen];exact Z _)]
  rw[e,compatL_ok q1]
  exact⟨fun i j x y hx hy a1 a2=>q3 i x hx j y hy (by rw[z8];exact a1) (by rw[z8];exact a2),q2⟩
 rw[<-e4]at ha hd
 rw[<-e3]at ha he hd ⊢
 subst e1 e2 e5
 rw[Out.holds_bind]at hh2
 have hres:=resT_res _ _ _ hh2
 refine wp_region_any hm ?_
 refine any_of_res (T:=R.T) (anc:=R.anc) (Sat:=fun L a w=>∃ρ',zat R.s0.H.sc ρ ρ'/\SatR R φ ρ' L a w) (C:=fun j y k x=>j<R.n->k<R.n->Free R j k->Apart y x/\Keep y x)
  T_loc (fun k j hj=>ha.lt he k j hj) ?_ ?_ ?_ ?_ ?_ _ (List.range' 0 R.ops.length) _ _ a _ (by simp) ?_ (by simp) ?_ ?_ ?_ hres ⟨ρ,.refl _ _,start_ok h.drew⟩
 ·intro i o j ho hj
  obtain⟨e,h1,h2,h3⟩:=(ha.dir i o j (by simpa using ho)).1 hj
  exact⟨e,by simpa using h1,h2,h3⟩
 ·intro i o e ho hm' hb
  have:=zc9 he i o (by simpa using ho) e (by simpa using hm') hb
  omega
 ·rintro k o L a w K' ho hk hanc ⟨ρ',hag,hs⟩ hT hcmp
  have ho':R.ops[k]?=some o:=by simpa using ho
  refine wpOp_mono ?_ (step_ok (Q:=Q) hc ha he hd hs ho' hk hanc hT ?_)
  ·rintro a' w' ⟨x,hx,ρ2,h1,h2⟩
   exact⟨x,hx,ρ2,hag.trans h1,h2⟩
  ·intro x hx j y hj hfr
   exact hcmp x hx j y hj (hs.wf.lt j y hj) (List.getElem?_eq_some_iff.1 ho').1 hfr
 ·intro L hQF j k y x hne hj hk hjn hkn hfr
  obtain⟨hb,hkp,_⟩:=zaf hQF
  refine⟨?_,hkp k j x y hk hj hfr.2 hfr.1⟩
  rcases Nat.lt_or_gt_of_ne hne with hlt|hgt
  ·exact compat_h hb hlt hkn hfr.2 hj hk
  ·have:=compat_h hb hgt hjn hfr.1 hk hj
   exact⟨this.2,this.1⟩
 ·rintro L a' w' hQF hall ⟨ρ',hag,hs⟩
  obtain⟨_,_,hK⟩:=zaf hQF
  exact hQ _ ρ' a' w' hK hag ⟨Nat.le_add_right _ _,rfl⟩ (end_ok ha he hs)
 ·exact List.pairwise_lt_range'
 ·intro k
  simp only[List.mem_range',z8,Nat.one_mul]
  constructor
  ·rintro⟨i,hi,rfl⟩
   exact⟨by simpa using hi,by simp[hi]⟩
  ·rintro⟨hk,_⟩
   exact⟨k,by simpa using hk,rfl⟩
 ·intro k hk
  have hk':k<R.ops.length:=by simpa using hk
  simp[Array.getD_eq_getD_getElem?,Array.getElem?_replicate,hk']
 ·intro k j hk;simp at hk
end Go.Proofs.YtabiechfpefjhaaGreat.Sx
