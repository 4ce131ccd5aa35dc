import Derived.Test.YtabiechfpefjhaaGreatMEgB
set_option maxHeartbeats 64000000
set_option linter.unusedVariables false
set_option linter.unusedSimpArgs false
set_option maxRecDepth 100000
open Go.IntKind (i64 u64)
open Int renaming ofNat -> O, ofNat_eq_natCast -> zz, natCast_nonneg -> zp
open Nat renaming le_refl -> Z, zero_le -> zh, zero_add -> z8, le_trans -> zo
open Bool renaming and_eq_true -> zx, not_eq_true' -> z7, not_eq_false' -> za, or_eq_true -> zf, not_eq_true -> zg, and_eq_false_iff -> zd
open Go.Proofs.YtabiechfpefjhaaGreat.Sx.V renaming need -> U, br -> zj, ok -> zw, any -> ze, needI -> z9, okI -> zk, brT -> zn, brF -> zm, brI -> zl, anyI -> zi
namespace Go.Proofs.YtabiechfpefjhaaGreat.En
open Go Go.RowKit Sx Cn Dc Ck Vc Md
abbrev g235(a0:Nat)(a1:Ep)(a2:Fk)(a3:Cf)(a4:Eo->Prop)(a5:Es)(k:V):V:=g167 a0 a1 (zj (decide ((if 0=0/\a0=a0 then i64.wrap (a2.i a0+O 1) else a2.i a0) >= (↑a3.nU:Int))) (lfE a4 a3 a1 (Eo.mk { a5 with f:={ a2 with ln:=aN a0 (O 1) a2.ln,b:=aN a0 (O 0) a2.b,i:=aN a0 (i64.wrap (a2.i a0+O 1)) a2.i }} true (O 0) (O 0))) k)
abbrev gs11(i:Nat)(p:Ep)(s:Es)(c:Cf)(Φ:Eo->Prop):V:=g65 i p (g65 i p (g65 i p (g235 i p s.f c Φ s (lfE Φ c p (Eo.mk { s with f:={ s.f with ln:=aN i (O 1) s.f.ln,b:=aN i (O 0) s.f.b,i:=aN i (i64.wrap (s.f.i i+O 1)) s.f.i }} false (O 0) (O 0))))))
theorem vBc_eq(c:Cf)(p:Ep)(s:Es)(i:Nat)(a v:Int)(Φ:Eo->Prop):V.pr .z (vBc c p s i a v Φ)=
 g377 i p (g320 s.f i c (g113 s.f i c (g11 i p (zj (s.f.ln i == O 1) (U (i<p.fn) (U (i<p.fn) (U (i<p.fn) (lfE Φ c p (Eo.mk { s with f:={ s.f with ln:=aN i (O 2) s.f.ln }} false (O 0) (O 0)))))) (zj (s.f.ln i == O 3) (zj (a == O 3) (g377 i p (nN [(1,.eqI 2 2),qE c.W,(1,.eqI 0 0),qE (s.f.i i),(1,.eqI 2 2)] (g376 c p s.m s s.x i fun y0=>lfE Φ c p (Eo.mk (Es.mk s.m s.now s.dr s.x s.kc (s.ne+1) y0 { s.f with ln:=aN i (O 8) s.f.ln }) false (O 0) (O 0))))) (nN [(5,.lt2 0 1 0 1)] (U (O 0<=v/\v<(↑s.x.n:Int)) (U (0<1/\0+v.toNat<s.x.n) (g292 v s.x (g109 v s.x (g93 i p (U (Φ (Eo.mk { s with x:=Rk.mk s.x.n (aN (0+v.toNat) (c.uP (0+(s.f.i i).toNat)) s.x.p) (aN (0+v.toNat) (Int.negSucc 0) s.x.pa) (aN (0+v.toNat) (O 0) s.x.pc) (aN (0+v.toNat) (O 0) s.x.lf) (aN (0+v.toNat) (Int.negSucc 0) s.x.wt) (aN (0+v.toNat) 0 s.x.kl) (fun (i j:Nat)=>if i=0+v.toNat then O 0 else s.x.kd i j) (aN (0+v.toNat) false s.x.st),kc:=aN (0+v.toNat) 0 s.kc,f:={ s.f with ln:=aN i (O 4) s.f.ln,n:=aN i v s.f.n }} false (O 0) (O 0))) (nN (g70 (g54 c p s.m s s.x [qL s.x.n,qF s.x.n (aN (0+v.toNat) (c.uP (0+(s.f.i i).toNat)) s.x.p),qF s.x.n (aN (0+v.toNat) (Int.negSucc 0) s.x.pa),qF s.x.n (aN (0+v.toNat) (O 0) s.x.pc),qF s.x.n (aN (0+v.toNat) (O 0) s.x.lf),qF s.x.n (aN (0+v.toNat) (Int.negSucc 0) s.x.wt),qF s.x.n (fun (e:Nat)=>e),qF s.x.n (aN (0+v.toNat) 0 s.x.kl),qF s.x.n (aN (0+v.toNat) 0 s.kc),qF s.x.n (aN (0+v.toNat) false s.x.st)])) (U (∀(i:Nat),((if i=0+v.toNat then 0 else s.kc i)=if 0=0/\i=0+v.toNat then 0 else s.kc i)\/(if 0=0/\i=0+v.toNat then 0 else s.kc i)=0) (U (∀(i:Nat),(upto s.x.n (aN (0+v.toNat) 0 s.x.kl) i<=if 0=0/\i=0+v.toNat then 0 else s.kc i)/\upto s.x.n (aN (0+v.toNat) 0 s.x.kl) i<=if i=0+v.toNat then 0 else upto s.x.n s.x.kl i) (U (∀(i e:Nat),e<upto s.x.n (aN (0+v.toNat) 0 s.x.kl) i->(if i=0+v.toNat then O 0 else s.x.kd i e)=if i=0+v.toNat then O 0 else s.x.kd i e) (nN (g358 p s.f (qF p.fn (aN i (O 4) s.f.ln)::g63 p s.f (qF p.fn (aN i v s.f.n)::g299 p s.f (g13 p s.f [])))) (g50 p s.f (nN (g47 s []) zw))))))))))))))) (zj (s.f.ln i == O 6) (g11 i p (zj (a == O 0) (nN [(4,.lt2 0 1 0 1)] (g79 i p (nN [(2,.lt2 0 1 0 1),(1,.eqI 1 1),qE c.W,qE (s.f.n i),qE (s.f.i i),qE (c.uL (0+(s.f.i i).toNat))] (g223 c p s.m s s.x fun y0=>g93 i p (lfE Φ c p (Eo.mk (Es.mk s.m s.now s.dr s.x s.kc (s.ne+1) y0 { s.f with ln:=aN i (O 7) (aN i (O 8) s.f.ln),b:=aN i (O 1) s.f.b }) false (O 0) (O 0))))))) (lfE Φ c p (Eo.mk { s with f:={ s.f with ln:=aN i (O 8) s.f.ln }} false (O 0) (O 0))))) (zj (s.f.ln i == O 8) (g11 i p (zj (s.f.b i == O 1) (U (i<p.fn) (U (i<p.fn) (U (i<p.fn) (lfE Φ c p (Eo.mk { s with f:={ s.f with ln:=aN i (O 9) s.f.ln }} false (O 0) (O 0)))))) (gs11 i p s c Φ))) (gs11 i p s c Φ)))))))):=by kernel_rfl
structure stB (i:Nat) (s s':Es):Prop where
 xn:s'.x.n=s.x.n
 kd:s'.f.kd=s.f.kd
 ln:∀e,e≠i->s'.f.ln e=s.f.ln e
 ll:∀e,e≠i->s'.f.ll e=s.f.ll e
 fi:∀e,e≠i->s'.f.i e=s.f.i e
 ld:∀e,e≠i->s'.f.ld e=s.f.ld e
 now:s'.now=s.now
def ΦW(c:Cf)(p:Ep)(s:Es)(i:Nat)(x:Eo):Prop:=(okQ c p x.s/\gr s x.s/\stB i s x.s)/\(x.done=false->1<=x.s.f.ll i/\x.s.f.ln i≠3/\x.s.f.ln i≠5/\(x.s.f.ln i≠1->tsk0 c (tpF x.s.f i)))
def ΦX(c:Cf)(p:Ep)(s:Es)(i:Nat)(x:Eo):Prop:=(okQ c p x.s/\gr s x.s/\stB i s x.s)/\(x.done=false->0<=x.s.f.i i)
structure preW (c:Cf) (p:Ep) (s:Es) (i:Nat) (a v:Int):Prop where
 ha:preA c p s i
 hfc:p.fn<=p.fc
 hl:1<=s.f.ll i
 ht:tsk0 c (tpF s.f i)
 h3:s.f.ln i≠3
 h5:s.f.ln i=5->pcV c s.x (tpF s.f i).toNat/\(a=3\/tsk0 c v)
structure preX (c:Cf) (p:Ep) (s:Es) (i:Nat) (a v:Int):Prop where
 ha:preA c p s i
 hi:0<=s.f.i i/\s.f.i i<(c.nU:Int)
 h3:s.f.ln i=3->a=3\/tsk0 c v
 hU:c.nU<=900000
section
variable {c:Cf} {p:Ep} {s:Es} {i:Nat} {x a v:Int}
theorem tk_w(hY:okY c)(hs:okE 900000 c p s)(ht:tsk0 c v):O 0<=v/\v<(s.x.n:Int):=by
 obtain⟨h1,h2⟩:=ht
 have h3:=hs.n
 simp only[zz]
 omega
theorem tk_x(ht:tsk0 c (tpF s.f i))(hx:x=s.f.ld i (s.f.ll i-1)):tsk0 c x:=by rw[hx];exact ht
theorem v_w(h5:s.f.ln i=5->pcV c s.x (tpF s.f i).toNat/\(a=3\/tsk0 c v))(h:(s.f.ln i == O 5)=true)(ha:(a == O 3)=false):tsk0 c v:=by
 rcases(h5 (eq_of_beq h)).2 with rfl|h
 ·simp at ha
 ·exact h
theorem v_x(h3:s.f.ln i=3->a=3\/tsk0 c v)(h:(s.f.ln i == O 3)=true)(ha:(a == O 3)=false):tsk0 c v:=by
 rcases h3 (eq_of_beq h) with rfl|h
 ·simp at ha
 ·exact h
theorem pv_w(h5:s.f.ln i=5->pcV c s.x (tpF s.f i).toNat/\(a=3\/tsk0 c v))(hx:x=s.f.ld i (s.f.ll i-1))(h:(s.f.ln i == O 5)=true):pcV c s.x (0+x.toNat):=by
 have:=(h5 (eq_of_beq h)).1
 rw[z8,hx]
 exact this
theorem up_k{t:Nat}(ht:t<s.x.n):0+s.x.kl t<=upto s.x.n s.x.kl t:=by unfold upto;rw[if_pos ht];omega
theorem up_l(hi:i<p.fn){n:Nat}(hn:n<=s.f.ll i):0+n<=upto p.fn s.f.ll i:=by unfold upto;rw[if_pos hi];omega
theorem if_z{α:Type}{q:Prop} [Decidable q] {a b:α}:(if q then a else b)=if 0=0/\q then a else b:=by simp
theorem if_z2{α:Type}{q r:Prop} [Decidable q] [Decidable r] {a b d:α}:(if q then a else if r then b else d)=if 0=0/\q then a else if 0=0/\r then b else d:=by simp
theorem one_j{n t:Nat}:True/\∀(i e:Nat),i=0/\e<n->¬(i=0/\e=t)->e≠t:=⟨trivial,fun _ _ h hn he=>hn ⟨h.1,he⟩⟩
theorem hw_k(hl:1<=s.f.ll i){f:Nat->Int}{L:Nat}{Q:Prop}(h3:L≠3)(h5:L≠5)(hq:Q):false=false->1<=s.f.ll i/\(if 0=0/\i=i then O L else f i)≠3/\(if 0=0/\i=i then O L else f i)≠5/\((if 0=0/\i=i then O L else f i)≠1->Q):=fun _=>by
 rw[if_pos ⟨rfl,rfl⟩]
 simp only[zz]
 exact⟨hl,by omega,by omega,fun _=>hq⟩
theorem hw_1{n:Nat}{f:Nat->Int}{Q:Prop}(hl:1<=n):false=false->1<=n/\(if 0=0/\i=i then O 1 else f i)≠3/\(if 0=0/\i=i then O 1 else f i)≠5/\((if 0=0/\i=i then O 1 else f i)≠1->Q):=fun _=>by
 rw[if_pos ⟨rfl,rfl⟩]
 exact⟨hl,by decide,by decide,fun h=>(h rfl).elim⟩
theorem hw_2(hl:1<=s.f.ll i){f:Nat->Int}{L M:Nat}{Q:Prop}(h3:L≠3)(h5:L≠5)(hq:Q):false=false->1<=s.f.ll i/\(if 0=0/\i=i then O L else if 0=0/\i=i then O M else f i)≠3/\(if 0=0/\i=i then O L else if 0=0/\i=i then O M else f i)≠5/\((if 0=0/\i=i then O L else if 0=0/\i=i then O M else f i)≠1->Q):=fun _=>by
 rw[if_pos ⟨rfl,rfl⟩]
 simp only[zz]
 exact⟨hl,by omega,by omega,fun _=>hq⟩
theorem hw_0{Q:Prop}(hl:1<=s.f.ll i)(h3:s.f.ln i≠3)(h5:(s.f.ln i == O 5)=false)(hq:Q):false=false->1<=s.f.ll i/\s.f.ln i≠3/\s.f.ln i≠5/\(s.f.ln i≠1->Q):=fun _=>⟨hl,h3,fun h=>by rw[h]at h5;simp at h5,fun _=>hq⟩
theorem ll_n{n:Nat}(h:1<=n):1<=(if 0=0/\i=i then n else s.f.ll i):=by rw[if_pos ⟨rfl,rfl⟩];exact h
theorem lv_w(hs:okE 900000 c p s)(hl:1<=s.f.ll i)(h:((((if 0=0/\i=i then(i64.wrap ((s.f.ll i:Int)-O 1)).toNat else s.f.ll i):Nat):Int) == O 0)=false):1<=(if 0=0/\i=i then(i64.wrap ((s.f.ll i:Int)-O 1)).toNat else s.f.ll i):=by
 rw[if_pos ⟨rfl,rfl⟩]at h ⊢
 simp only[zz,beq_eq_false_iff_ne,ne_eq]at h ⊢
 omega
theorem cx_i(hU:c.nU<=900000)(h:0<=s.f.i i/\s.f.i i<(c.nU:Int)):0<=(if 0=0/\i=i then i64.wrap (s.f.i i+O 1) else s.f.i i):=by
 rw[if_pos ⟨rfl,rfl⟩]
 simp only[IntKind.wrap,IntKind.bits,IntKind.signed,zz]
 simp
 split<;>omega
theorem ifl{n t a b:Nat}{f g:Nat->Nat}(h:a<=b)(hf:∀e,e<n->f e<=g e):∀e,e<n->(if 0=0/\e=t then a else f e)<=(if 0=0/\e=t then b else g e):=fun e he=>by
 split
 ·exact h
 ·exact hf e he
theorem ifr{t a:Nat}{f g:Nat->Nat}(h:a<=g t+1)(hf:∀e,f e<=g e+1):∀e,(if 0=0/\e=t then a else f e)<=g e+1:=fun e=>by
 split
 ·rename_i h';rw[h'.2];exact h
 ·exact hf e
theorem ifq{n t a:Nat}{f g:Nat->Nat}(h:a<=g t)(hf:∀e,e<n->f e<=g e):∀e,e<n->(if 0=0/\e=t then a else f e)<=g e:=fun e he=>by
 split
 ·rename_i h';rw[h'.2];exact h
 ·exact hf e he
theorem wl_1(hs:okE 900000 c p s)(hl:1<=s.f.ll i):(i64.wrap ((s.f.ll i:Int)-O 1)).toNat<=s.f.ll i+1:=by
 rw[ll_e hs (Z _) hl,Int.toNat_natCast];omega
theorem wl_2(hs:okE 900000 c p s)(hl:1<=s.f.ll i):0+(i64.wrap ((s.f.ll i:Int)-O 1)).toNat+1<=s.f.ll i+1:=by
 rw[ll_e hs (Z _) hl,Int.toNat_natCast];omega
theorem wl_3(hs:okE 900000 c p s)(hl:1<=s.f.ll i)(hi:i<p.fn):(i64.wrap ((s.f.ll i:Int)-O 1)).toNat<=s.f.lc i:=by
 have:=hs.lc i hi
 rw[ll_e hs (Z _) hl,Int.toNat_natCast];omega
theorem nn_2{f:Nat->Nat}{v v':Nat}:∀e,e≠i->(if 0=0/\e=i then v else if 0=0/\e=i then v' else f e)=f e:=fun e he=>by rw[if_neg fun h=>he h.2,if_neg fun h=>he h.2]
theorem nn_1{f:Nat->Nat}{v:Nat}:∀e,e≠i->(if 0=0/\e=i then v else f e)=f e:=fun e he=>if_neg fun h=>he h.2
theorem mkW(hs:okE 900000 c p s){m:Mm}{pp pa pc lf wt:Nat->Int}{kl kc:Nat->Nat}{xd:Nat->Nat->Int}{st:Nat->Bool}{ne nc:Nat}{ln qt qb qr a b' d ii j n t u v w x:Nat->Int}{qc:Nat->Int}{ll lc:Nat->Nat}{ld:Nat->Nat->Int}{Q:Prop}(hm:okW m)(hne:ne<=s.ne+3)(hnc:ne<=nc)(hkc:∀e,e<s.x.n->kl e<=kc e)(hkl:∀e,kl e<=s.x.kl e+1)(hlc:∀e,e<p.fn->ll e<=lc e)(hll:∀e,ll e<=s.f.ll e+1)
  (hu:∀e,wd (u e)) (hv:∀e,wd (v e)) (hw:∀e,wd (w e)) (hx:∀e,wd (x e)) (hq:∀e,qc e<=9223372036854775807) (hln:∀e,e≠i->ln e=s.f.ln e) (hl:∀e,e≠i->ll e=s.f.ll e) (hii:∀e,e≠i->ii e=s.f.i e) (hld:∀e,e≠i->ld e=s.f.ld e) (hQ:Q):
  (okQ c p ⟨m,s.now,s.dr,⟨s.x.n,pp,pa,pc,lf,wt,kl,xd,st⟩,kc,ne,nc,⟨s.f.kd,ln,qt,qb,qr,qc,a,b',d,ii,j,n,t,u,v,w,x,ll,lc,ld⟩⟩/\gr s ⟨m,s.now,s.dr,⟨s.x.n,pp,pa,pc,lf,wt,kl,xd,st⟩,kc,ne,nc,⟨s.f.kd,ln,qt,qb,qr,qc,a,b',d,ii,j,n,t,u,v,w,x,ll,lc,ld⟩⟩/\stB i s ⟨m,s.now,s.dr,⟨s.x.n,pp,pa,pc,lf,wt,kl,xd,st⟩,kc,ne,nc,⟨s.f.kd,ln,qt,qb,qr,qc,a,b',d,ii,j,n,t,u,v,w,x,ll,lc,ld⟩⟩)/\Q:=
 ⟨⟨⟨hm,hs.n,hkc,hnc,hlc,hu,hv,hw,hx,hq⟩,⟨hne,hkl,hll⟩,⟨rfl,rfl,hln,hl,hii,hld,rfl⟩⟩,hQ⟩
end
theorem qukc{p:Prop}(h:p:=by first|exact okE.kc ‹_›|exact ifl (by first|exact Z _|assumption) (okE.kc ‹_›)|exact ifl (Z _) (ifl ‹_› (okE.kc ‹_›))):p:=h
theorem qukl{p:Prop}(h:p:=by first|exact fun _=>Nat.le_succ _|exact ifr (by first|exact zh _|(rw[z8];exact Z _)) (fun _=>Nat.le_succ _)|exact ifr (zh _) (ifr (by rw[z8];exact Z _) (fun _=>Nat.le_succ _))):p:=h
theorem qulc{p:Prop}(h:p:=by first|exact okE.lc ‹_›|exact ifl ‹_› (okE.lc ‹_›)|exact ifl ‹_› (ifl (wl_3 ‹_› ‹_› ‹_›) (okE.lc ‹_›))|exact ifq (wl_3 ‹_› ‹_› ‹_›) (okE.lc ‹_›)|exact ifl (wl_3 ‹_› ‹_› ‹_›) (okE.lc ‹_›)):p:=h
theorem qull{p:Prop}(h:p:=by first|exact fun _=>Nat.le_succ _|exact ifr (by first|(rw[z8];exact Z _)|exact wl_1 ‹_› ‹_›|exact wl_2 ‹_› ‹_›) (fun _=>Nat.le_succ _)|exact ifr (wl_2 ‹_› ‹_›) (ifr (wl_1 ‹_› ‹_›) (fun _=>Nat.le_succ _))):p:=h
theorem qldc{p:Prop}(h:p:=by first|exact fun _ _=>rfl|exact fun q hq=>funext fun e=>if_neg hq):p:=h
theorem qnnc{p:Prop}(h:p:=by first|exact fun _ _=>rfl|exact nn_1|exact nn_2):p:=h
theorem vhBr{c:Cf}{p:Ep}{s:Es}{i:Nat}{a v:Int}(h:preW c p s i a v):zad (vBr c p s i a v (ΦW c p s i)):=by
 obtain⟨ha,hfc,hl,ht,h3,h5⟩:=h
 obtain⟨hi,hY,hs⟩:=id ha
 have hD:=okD hY
 have hb:(900000:Nat)<=900000:=Z _
 refine zad.pr (vBr_eq ..) ?_
 (with_reducible repeat' first|exact zk|refine zn ?_|refine zm ?_|refine zl ?_ ?_|refine zi ?_|refine nN_h rfl ?_|refine z9 ?_ ?_|intro _)
 all_goals try dsimp only
 all_goals first
  | exact qrfc
  | exact tk_w hY hs (by first|exact tk_x ht ‹_›|exact v_w h5 ‹_› ‹_›)
  | exact zbk (tk_w hY hs (by first|exact tk_x ht ‹_›|exact v_w h5 ‹_› ‹_›))
  | exact(zbk (tk_w hY hs (by first|exact tk_x ht ‹_›|exact v_w h5 ‹_› ‹_›))).2
  | exact(pv_w h5 ‹_› ‹_›).1
  | exact zbk (pv_w h5 ‹_› ‹_›).1
  | exact pv_3 (pv_w h5 ‹_› ‹_›)
  | exact pv_4 (pv_w h5 ‹_› ‹_›)
  | exact pv_b1 (pv_w h5 ‹_› ‹_›) (by with_reducible assumption)
  | exact pv_b2 (pv_w h5 ‹_› ‹_›) (by with_reducible assumption)
  | exact up_k (zbk (tk_w hY hs (tk_x ht ‹_›))).2
  | exact up_l hi (Z _)
  | exact up_l hi (by rw[ll_e hs hb hl,Int.toNat_natCast];omega)
  | exact one_j
  | exact .inl if_z
  | exact .inl if_z2
  | (have h1:=hs.kl (0+(s.f.ld i (s.f.ll i-1)).toNat);have h2:=hs.ll i;have h4:=ll_e hs hb hl;subst_vars;simp only[z8]at *;omega)
  | (rename_i q;have h1:=hs.kc q;have h2:=hs.lc q;have h4:=ll_e hs hb hl;simp only[aN,upto,z8,true_and]at *;constructor<;>(repeat' split)<;>(subst_vars;omega))
  | ((refine mkW ‹_› (okE.m ‹_›) (by first|exact Nat.le_add_right _ _|exact Nat.add_le_add_left (by decide) _) (by first|exact okE.nc ‹_›|assumption) qukc qukl qulc qull qupc qupc qupc qupc (okE.q ‹_›) qlnc qnnc qlnc qldc ?_);dsimp only;first|exact hd_t|exact hw_k hl (by decide) (by decide) ht|exact hw_2 hl (by decide) (by decide) ht|exact hw_1 hl|exact hw_0 hl h3 ‹_› ht|exact hw_1 (ll_n (by omega))|exact hw_1 (lv_w hs hl ‹_›)|trace_state)
  | trace_state
theorem vhBc{c:Cf}{p:Ep}{s:Es}{i:Nat}{a v:Int}(h:preX c p s i a v):zad (vBc c p s i a v (ΦX c p s i)):=by
 obtain⟨ha,hI,h3,hU⟩:=h
 obtain⟨hi,hY,hs⟩:=id ha
 have hD:=okD hY
 have hb:(900000:Nat)<=900000:=Z _
 refine zad.pr (vBc_eq ..) ?_
 (with_reducible repeat' first|exact zk|refine zn ?_|refine zm ?_|refine zl ?_ ?_|refine zi ?_|refine nN_h rfl ?_|refine z9 ?_ ?_|intro _)
 all_goals try dsimp only
 all_goals first
  | exact qrfc
  | exact tk_w hY hs (v_x h3 ‹_› ‹_›)
  | exact zbk (tk_w hY hs (v_x h3 ‹_› ‹_›))
  | exact(zbk (tk_w hY hs (v_x h3 ‹_› ‹_›))).2
  | exact cli_r hI.1 ‹_›
  | exact⟨hI.1,hI.2⟩
  | exact zbk hI
  | exact one_j
  | exact .inl if_z
  | (rename_i q;have h1:=hs.kc q;have h2:=hs.lc q;simp only[aN,upto,z8,true_and]at *;constructor<;>(repeat' split)<;>(subst_vars;omega))
  | ((refine mkW ‹_› (okE.m ‹_›) (by first|exact Nat.le_add_right _ _|exact Nat.add_le_add_left (by decide) _) (by first|exact okE.nc ‹_›|assumption) qukc qukl qulc qull qupc qupc qupc qupc (okE.q ‹_›) qlnc qnnc qlnc qldc ?_);dsimp only;first|exact hd_t|exact fun _=>hI.1|exact fun _=>cx_i hU hI|trace_state)
  | trace_state
structure preK (c:Cf) (p:Ep) (s:Es) (i:Nat) (a v:Int):Prop where
 ha:preA c p s i
 hfc:p.fn<=p.fc
 hw:s.f.kd i=24->1<=s.f.ll i/\tsk0 c (tpF s.f i)/\s.f.ln i≠3/\(s.f.ln i=5->pcV c s.x (tpF s.f i).toNat/\(a=3\/tsk0 c v))
 hc:s.f.kd i=26->(0<=s.f.i i/\s.f.i i<(c.nU:Int))/\(s.f.ln i=3->a=3\/tsk0 c v)/\c.nU<=900000
def ΦK(c:Cf)(p:Ep)(s:Es)(i:Nat)(x:Eo):Prop:=(okQ c p x.s/\gr s x.s/\stB i s x.s)/\(s.f.kd i=24->x.done=false->1<=x.s.f.ll i/\x.s.f.ln i≠3/\x.s.f.ln i≠5/\(x.s.f.ln i≠1->tsk0 c (tpF x.s.f i)))/\(s.f.kd i=26->x.done=false->0<=x.s.f.i i)
noncomputable section
def conBk(pre:Cf->Ep->Es->Nat->Int->Int->Prop)(Φ:Cf->Ep->Es->Nat->Eo->Prop):List SV->Hp->Out (SV×Hp):=fun args H=>match args with
 | [.c (.ptr ke _ _ _ _),.c (.ptr kf _ i _ _),.c (.iv _ a),.c (.iv _ v)]=>fN ke fun ke=>fN kf fun kf=>match rdEp ke kf H.h with
  | some (c,p,s,σ)=>useP σ 10 (argBk i.v a v) (s.h c p) (.need (pre c p s i.v a v) (.any Eo (Φ c p s i.v) fun x=>.leaf (svEo x,⟨x.s.hB c p,13,fun _=>True⟩))) args H
  | none=>.bad 486
 | _=>.bad 487
theorem conBk_ok{f:FuncId}{pre:Cf->Ep->Es->Nat->Int->Int->Prop}{Φ:Cf->Ep->Es->Nat->Eo->Prop}(h:∀c p s i a v,zah P f (argBk i a v) (s.h c p) 10 (.need (pre c p s i a v) (.any Eo (Φ c p s i) fun x=>.leaf (svEo x,⟨x.s.hB c p,13,fun _=>True⟩)))):zab P f (conBk pre Φ):=zac fun args H=>by
 unfold conBk
 simp only[fN_eq]
 repeat' split
 all_goals first
  | exact .inl ⟨_,rfl⟩
  | exact .inr ⟨_,_,_,_,_,rfl,h _ _ _ _ _ _⟩
def cBr:List SV->Hp->Out (SV×Hp):=conBk preW ΦW
theorem cBr_ok:zab P gBr cBr:=conBk_ok fun c p s i a v=>zae za0 fun h=>by
 have h:=vhBr h
 unfold vBr vBk at h
 exact h
def cBc:List SV->Hp->Out (SV×Hp):=conBk preX ΦX
theorem cBc_ok:zab P gBc cBc:=conBk_ok fun c p s i a v=>zae za0 fun h=>by
 have h:=vhBc h
 unfold vBc vBk at h
 exact h
def conKk:Con:=Con.add gBr cBr (Con.add gBc cBc conLf)
theorem conKk_ok:zaj P conKk:=.add cBr_ok (.add cBc_ok za0)
def vBa(c:Cf)(p:Ep)(s:Es)(i:Nat)(a v:Int)(Φ:Eo->Prop):V:=vBk conKk gBack [] c p s i a v Φ
end
theorem vBa_eq(c:Cf)(p:Ep)(s:Es)(i:Nat)(a v:Int)(Φ:Eo->Prop):V.pr .z (vBa c p s i a v Φ)=
 g11 i p (zj (s.f.kd i == O 5) (g11 i p (zj (s.f.ln i == O 2) (lfE Φ c p (Eo.mk s true a (O 0))) (zj (a == O 3) (lfE Φ c p (Eo.mk s true a (O 0))) (g11 i p (lfE Φ c p (Eo.mk { s with f:={ s.f with ln:=aN i (O 2) s.f.ln }} false (O 0) (O 0))))))) (zj (s.f.kd i == O 6) (g11 i p (zj (s.f.ln i == O 3) (U (i<p.fn) (U (i<p.fn) (U (i<p.fn) (lfE Φ c p (Eo.mk { s with f:={ s.f with ln:=aN i (O 1) s.f.ln }} false (O 0) (O 0)))))) (zj (a == O 1) (lfE Φ c p (Eo.mk s true (O 1) v)) (g11 i p (lfE Φ c p (Eo.mk { s with f:={ s.f with ln:=aN i (O 3) s.f.ln }} false (O 0) (O 0))))))) (zj (s.f.kd i == O 15) (U (i<p.fn) (U (i<p.fn) (U (i<p.fn) (lfE Φ c p (Eo.mk s true a (s.f.t i)))))) (zj (s.f.kd i == O 17) (g11 i p (zj (s.f.ln i == O 1) (g11 i p (zj (a == O 1) (U (i<p.fn) (U (i<p.fn) (U (i<p.fn) (lfE Φ c p (Eo.mk { s with f:={ s.f with ln:=aN i (O 2) (aN i (O 4) s.f.ln) }} false (O 0) (O 0)))))) (lfE Φ c p (Eo.mk { s with f:={ s.f with ln:=aN i (O 4) s.f.ln }} false (O 0) (O 0))))) (zj (a == O 3) (g333 i p (nN ((1,.eqI 19 19)::g291 s.f i [(1,.eqI 0 0),qE (s.f.d i)]) (g376 c p s.m s s.x i fun y0=>lfE Φ c p (Eo.mk (Es.mk s.m s.now s.dr s.x s.kc (s.ne+1) y0 { s.f with ln:=aN i (O 4) s.f.ln }) false (O 0) (O 0))))) (g11 i p (lfE Φ c p (Eo.mk { s with f:={ s.f with ln:=aN i (O 4) s.f.ln }} false (O 0) (O 0))))))) (zj (s.f.kd i == O 18) (zj (a == O 3) (g333 i p (nN ((1,.eqI 19 19)::g291 s.f i [(1,.eqI 0 0),qE (s.f.t i)]) (g223 c p s.m s s.x fun y0=>lfE Φ c p (Eo.mk { s with ne:=s.ne+1,nc:=y0 } true (O 1) (O 0))))) (lfE Φ c p (Eo.mk s true (O 1) (O 0)))) (zj (s.f.kd i == O 22) (g11 i p (zj (s.f.ln i == O 2) (zj (a == O 5) (lfE Φ c p (Eo.mk s true (O 5) (O 0))) (g11 i p (lfE Φ c p (Eo.mk { s with f:={ s.f with ln:=aN i (O 3) s.f.ln }} false (O 0) (O 0))))) (zj (s.f.ln i == O 3) (g93 i p (zj (a == O 2) (U (i<p.fn) (U (i<p.fn) (U (i<p.fn) (lfE Φ c p (Eo.mk { s with f:={ s.f with ln:=aN i (O 6) (aN i (O 4) s.f.ln),n:=aN i v s.f.n }} false (O 0) (O 0)))))) (lfE Φ c p (Eo.mk { s with f:={ s.f with ln:=aN i (O 4) s.f.ln,n:=aN i v s.f.n }} false (O 0) (O 0))))) (zj (s.f.ln i == O 5) (zj (a == O 3) (g382 i p (lfE Φ c p (Eo.mk { s with f:={ s.f with ln:=aN i (O 6) s.f.ln,d:=aN i (s.f.n i) s.f.d }} false (O 0) (O 0)))) (g65 i p (g65 i p (g65 i p (g11 i p (g167 i p (zj (decide ((if 0=0/\i=i then i64.wrap (s.f.i i+O 1) else s.f.i i)<c.B)) (U (i<p.fn) (U (i<p.fn) (U (i<p.fn) (lfE Φ c p (Eo.mk { s with f:={ s.f with ln:=aN i (O 3) (aN i (O 6) s.f.ln),i:=aN i (i64.wrap (s.f.i i+O 1)) s.f.i,j:=aN i (s.f.t i) s.f.j }} false (O 0) (O 0)))))) (lfE Φ c p (Eo.mk { s with f:={ s.f with ln:=aN i (O 6) s.f.ln,i:=aN i (i64.wrap (s.f.i i+O 1)) s.f.i,j:=aN i (s.f.t i) s.f.j }} false (O 0) (O 0)))))))))) (zj (s.f.ln i == O 6) (g11 i p (zj (decide (s.f.i i>O 0)) (U (i<p.fn) (U (i<p.fn) (U (i<p.fn) (lfE Φ c p (Eo.mk { s with f:={ s.f with ln:=aN i (O 7) s.f.ln }} false (O 0) (O 0)))))) (g11 i p (zj (decide (s.f.d i >= O 0)) (U (i<p.fn) (U (i<p.fn) (U (i<p.fn) (lfE Φ c p (Eo.mk s true (O 1) (s.f.d i)))))) (lfE Φ c p (Eo.mk s true (O 2) (O 0))))))) (g11 i p (zj (decide (s.f.d i >= O 0)) (U (i<p.fn) (U (i<p.fn) (U (i<p.fn) (lfE Φ c p (Eo.mk s true (O 1) (s.f.d i)))))) (g11 i p (lfE Φ c p (Eo.mk s true (O 0) (s.f.i i))))))))))) (zj (s.f.kd i == O 23) (g11 i p (zj (s.f.ln i == O 1) (zj (a == O 2) (lfE Φ c p (Eo.mk s true (O 2) (O 0))) (g93 i p (lfE Φ c p (Eo.mk { s with f:={ s.f with ln:=aN i (O 2) s.f.ln,n:=aN i v s.f.n }} false (O 0) (O 0))))) (zj (a == O 1) (lfE Φ c p (Eo.mk s true (O 1) v)) (g11 i p (lfE Φ c p (Eo.mk { s with f:={ s.f with ln:=aN i (O 1) s.f.ln }} false (O 0) (O 0))))))) (zj (s.f.kd i == O 24) (nN [qE i,qE a,qE v] (g249 c p s.m s s.x s.f (U (preW c p s i a v) (nA (ΦW c p s i) fun y0=>g199 Φ y0 (g124 c p y0.s.m y0.s y0.s.x y0.s.f zw))))) (zj (s.f.kd i == O 25) (g11 i p (zj (s.f.ln i == O 1) (g167 i p (U (max (O 1) c.T≠O 0) (g135 i p (g135 i p (lfE Φ c p (Eo.mk { s with f:={ s.f with ln:=aN i (O 2) s.f.ln,j:=aN i ((i64.wrap (s.f.j i+O 1)).tmod (max (O 1) c.T)) s.f.j }} false (O 0) (O 0))))))) (zj (s.f.ln i == O 2) (g93 i p (zj (a == O 1) (U (i<p.fn) (U (i<p.fn) (U (i<p.fn) (lfE Φ c p (Eo.mk { s with f:={ s.f with ln:=aN i (O 7) (aN i (O 3) s.f.ln),n:=aN i v s.f.n }} false (O 0) (O 0)))))) (lfE Φ c p (Eo.mk { s with f:={ s.f with ln:=aN i (O 3) s.f.ln,n:=aN i v s.f.n }} false (O 0) (O 0))))) (zj (s.f.ln i == O 3) (g11 i p (zj (a == O 1) (U (i<p.fn) (U (i<p.fn) (U (i<p.fn) (lfE Φ c p (Eo.mk { s with f:={ s.f with ln:=aN i (O 6) s.f.ln,n:=aN i v s.f.n }} false (O 0) (O 0)))))) (zj (a == O 0) (U (i<p.fn) (U (i<p.fn) (U (i<p.fn) (lfE Φ c p (Eo.mk { s with f:={ s.f with ln:=aN i (O 2) s.f.ln,n:=aN i v s.f.n }} false (O 0) (O 0)))))) (zj (c.W == O 1) (U (i<p.fn) (U (i<p.fn) (U (i<p.fn) (lfE Φ c p (Eo.mk { s with f:={ s.f with ln:=aN i (O 8) s.f.ln,n:=aN i v s.f.n }} false (O 0) (O 0)))))) (g11 i p (lfE Φ c p (Eo.mk { s with f:={ s.f with ln:=aN i (O 4) s.f.ln,n:=aN i v s.f.n }} false (O 0) (O 0)))))))) (zj (s.f.ln i == O 4) (nN [(2,.neI 64 0)] (g382 i p (zj (a == O 1) (U (i<p.fn) (U (i<p.fn) (U (i<p.fn) (lfE Φ c p (Eo.mk { s with f:={ s.f with ln:=aN i (O 5) (aN i (O 8) s.f.ln),d:=aN i (v.tmod (O 64)) s.f.d,i:=aN i (i64.wrap (v.tdiv (O 64))) s.f.i }} false (O 0) (O 0)))))) (lfE Φ c p (Eo.mk { s with f:={ s.f with ln:=aN i (O 8) s.f.ln,d:=aN i (v.tmod (O 64)) s.f.d,i:=aN i (i64.wrap (v.tdiv (O 64))) s.f.i }} false (O 0) (O 0)))))) (zj (s.f.ln i == O 5) (g93 i p (zj (a == O 1) (g66 i p (g66 i p (g66 i p (nN [(1,.eqI 14 14),qE (s.f.a i)] (U ((if 0=0/\i=i then v else s.f.n i)=if 0=0/\i=i then v else s.f.n i) (nN [qE (s.f.i i),qE (s.f.d i)] (g376 c p s.m s s.x i fun y0=>lfE Φ c p (Eo.mk (Es.mk s.m s.now s.dr s.x s.kc (s.ne+1) y0 { s.f with ln:=aN i (O 6) (aN i (O 1) s.f.ln),n:=aN i v s.f.n }) false (O 0) (O 0))))))))) (zj (a == O 2) (U (i<p.fn) (U (i<p.fn) (U (i<p.fn) (lfE Φ c p (Eo.mk { s with f:={ s.f with ln:=aN i (O 9) (aN i (O 1) s.f.ln),n:=aN i v s.f.n }} false (O 0) (O 0)))))) (lfE Φ c p (Eo.mk { s with f:={ s.f with ln:=aN i (O 1) s.f.ln,n:=aN i v s.f.n }} false (O 0) (O 0)))))) (zj (s.f.ln i == O 6) (g11 i p (zj (a == O 1) (U (i<p.fn) (U (i<p.fn) (U (i<p.fn) (lfE Φ c p (Eo.mk { s with f:={ s.f with ln:=aN i (O 7) (aN i (O 1) s.f.ln) }} false (O 0) (O 0)))))) (lfE Φ c p (Eo.mk { s with f:={ s.f with ln:=aN i (O 1) s.f.ln }} false (O 0) (O 0))))) (g11 i p (lfE Φ c p (Eo.mk { s with f:={ s.f with ln:=aN i (O 1) s.f.ln }} false (O 0) (O 0))))))))))) (zj (s.f.kd i == O 26) (nN [qE i,qE a,qE v] (g249 c p s.m s s.x s.f (U (preX c p s i a v) (nA (ΦX c p s i) fun y0=>g199 Φ y0 (g124 c p y0.s.m y0.s y0.s.x y0.s.f zw))))) (lfE Φ c p (Eo.mk s false (O 0) (O 0))))))))))))):=by kernel_rfl
section
variable {c:Cf} {p:Ep} {s:Es} {i:Nat} {a v:Int}
theorem okE.okQ{b:Nat}(h:okE b c p s):okQ c p s:=⟨h.m,h.n,h.kc,h.nc,h.lc,h.u,h.v,h.w,h.x,h.q⟩
theorem stB.refl:stB i s s:=⟨rfl,rfl,fun _ _=>rfl,fun _ _=>rfl,fun _ _=>rfl,fun _ _=>rfl,rfl⟩
theorem exW(h:okE 900000 c p s):∃x,ΦW c p s i x:=⟨⟨s,true,0,0⟩,⟨h.okQ,gr.refl,stB.refl⟩,hd_t⟩
theorem exX(h:okE 900000 c p s):∃x,ΦX c p s i x:=⟨⟨s,true,0,0⟩,⟨h.okQ,gr.refl,stB.refl⟩,hd_t⟩
theorem fK_W{x:Eo}(h:ΦW c p s i x)(hk:(s.f.kd i == O 24)=true):ΦK c p s i x:=⟨h.1,fun _=>h.2,fun h6=>absurd h6 (kd_t hk (by decide))⟩
theorem fK_X{x:Eo}(h:ΦX c p s i x)(hk:(s.f.kd i == O 26)=true):ΦK c p s i x:=⟨h.1,fun h6=>absurd h6 (kd_t hk (by decide)),fun _=>h.2⟩
theorem kn{x:Int}{A B:Prop}(h4:x≠24)(h6:x≠26):(x=24->A)/\(x=26->B):=⟨fun h=>absurd h h4,fun h=>absurd h h6⟩
theorem pW_of(ha:preA c p s i)(hfc:p.fn<=p.fc)(hw:s.f.kd i=24->1<=s.f.ll i/\tsk0 c (tpF s.f i)/\s.f.ln i≠3/\(s.f.ln i=5->pcV c s.x (tpF s.f i).toNat/\(a=3\/tsk0 c v)))(h:(s.f.kd i == O 24)=true):preW c p s i a v:=
 have h:=hw (eq_of_beq h)
 ⟨ha,hfc,h.1,h.2.1,h.2.2.1,h.2.2.2⟩
theorem pX_of(ha:preA c p s i)(hc:s.f.kd i=26->(0<=s.f.i i/\s.f.i i<(c.nU:Int))/\(s.f.ln i=3->a=3\/tsk0 c v)/\c.nU<=900000)(h:(s.f.kd i == O 26)=true):preX c p s i a v:=
 have h:=hc (eq_of_beq h)
 ⟨ha,h.1,h.2.1,h.2.2⟩
theorem mx_0{x:Int}:max (O 1) x≠O 0:=by
 simp only[zz]
 omega
end
theorem qkdd{p:Prop}(h:p:=by first|exact kd_t ‹_› (by decide)|exact kd_f (k:=24) ‹_› (by decide)|exact kd_f (k:=26) ‹_› (by decide)):p:=h
theorem qmkk{p:Prop}(h:p:=by((refine mkW ‹_› (okE.m ‹_›) (by first|exact Nat.le_add_right _ _|exact Nat.add_le_add_left (by decide) _) (by first|exact okE.nc ‹_›|assumption) qukc qukl qulc qull qupc qupc qupc qupc (okE.q ‹_›) qlnc qnnc qlnc qldc ?_);exact kn qkdd qkdd)):p:=h
theorem vhBa{c:Cf}{p:Ep}{s:Es}{i:Nat}{a v:Int}(h:preK c p s i a v):zad (vBa c p s i a v (ΦK c p s i)):=by
 obtain⟨ha,hfc,hw,hc⟩:=h
 obtain⟨hi,hY,hs⟩:=id ha
 have hD:=okD hY
 have hb:(900000:Nat)<=900000:=Z _
 refine zad.pr (vBa_eq ..) ?_
 (with_reducible repeat' first|exact zk|refine zn ?_|refine zm ?_|refine zl ?_ ?_|refine zi ?_|refine nN_h rfl ?_|refine z9 ?_ ?_|intro _)
 all_goals try dsimp only
 all_goals first
  | exact qlfc
  | exact qmkk
  | exact exW hs
  | exact exX hs
  | exact fK_W ‹_› ‹_›
  | exact fK_X ‹_› ‹_›
  | exact pW_of ha hfc hw ‹_›
  | exact pX_of ha hc ‹_›
  | exact okQ.ka (And.left (And.left ‹_›)) _
  | exact okQ.la (And.left (And.left ‹_›)) _
  | exact mx_0
  | trace_state
structure Mp where
 n:Nat
 fc:Nat
 over:Bool
 code:Int
 value:Int
structure So where
 s:Es
 m:Mp
 b:Bool
noncomputable section
def cEnt:List SV->Hp->Out (SV×Hp):=fun args H=>match args with
 | [.c (.ptr ke _ _ _ _),.c (.ptr kf _ i _ _)]=>fN ke fun ke=>fN kf fun kf=>match rdEp ke kf H.h with
  | some (c,p,s,σ)=>useP σ 10 (argLf i.v) (s.h c p) (.need (preN c p s i.v) (psEn c p s i.v (ΦN c s i.v)).out) args H
  | none=>.bad 486
 | _=>.bad 487
theorem cEnt_ok:zab P gEnter cEnt:=zac fun args H=>by
 unfold cEnt
 simp only[fN_eq]
 repeat' split
 all_goals first
  | exact .inl ⟨_,rfl⟩
  | exact .inr ⟨_,_,_,_,_,rfl,zcb conEt_ok fun h=>vhEnt h⟩
def cLea:List SV->Hp->Out (SV×Hp):=conLn preL ΦL
theorem cLea_ok:zab P gLeaf cLea:=zbc fun c p s i=>zae conLe_ok fun h=>vhLeaf h
def cBa:List SV->Hp->Out (SV×Hp):=conBk preK ΦK
theorem cBa_ok:zab P gBack cBa:=conBk_ok fun c p s i a v=>zae conKk_ok fun h=>by
 have h:=vhBa h
 unfold vBa vBk at h
 exact h
def conSt:Con:=Con.add gEnter cEnt (Con.add gLeaf cLea (Con.add gBack cBa con0))
theorem conSt_ok:zaj P conSt:=.add cEnt_ok (.add cLea_ok (.add cBa_ok zaj.nil))
def tMac:TypeId:=95
def gStep:FuncId:=30
def Mp.b(m:Mp)(kf:Nat):Blk:=.own tMac 4 ([slK kf 18 m.n m.fc,.bv m.over,i6 m.code,i6 m.value].map some)
def Ep.to(p:Ep)(m:Mp):Ep:=⟨p.n,p.cap,p.rc,m.n,m.fc⟩
def kFr(s:St):Nat:=scK (zax 10 0 s.H.h)
def lstF(s:St):Nat:=match rdFk (kFr s) s.H.h with
 | some (_,k)=>k
 | none=>0
def szC:SC->Option (Nat×Nat)
 | .slc _ _ _ _ l c=>some (l.v,c.v)
 | _=>none
def ownC:Blk->List (Option SC)
 | .own _ _ cs=>cs
 | _=>[]
def rdMp(h:HL):Option Mp:=match (find 10 h).map ownC with
 | some [some q,some b,some x,some y]=>match szC q,blC b,numC x,numC y with
  | some (n,fc),some b,some x,some y=>some ⟨n,fc,b,x,y⟩
  | _,_,_,_=>none
 | _=>none
def Es.hS(s:Es)(c:Cf)(p:Ep)(m:Mp)(ke kk kl kf:Nat):HL:=[(0,(s.rv c p).b 1 2 4 5 ke),(4,wRow p.cap p.n s.m),(5,s.x.row kk s.kc p.rc),(kk,s.x.fam s.x.n s.kc),(kf,s.f.row kl m.n m.fc),(kl,s.f.fam m.n),(ke,evU s.ne s.nc),(10,m.b kf)]
def Es.bS(s:Es)(c:Cf)(p:Ep)(m:Mp)(ke kk kl kf:Nat):List Blk:=(s.hS c p m ke kk kl kf).map (·.2)
def pthS(b:Bool):List ((St->Nat)×Bool):=[(fun _=>0,true),(fun _=>4,true),(fun _=>5,true),(kidN,b),(kFr,!b),(lstF,false),(renK 0,b),(fun _=>10,true)]
def rdS(s:St):Option (Es×Mp):=match rdEs 0 (kFr s) s.H.h,rdMp s.H.h with
 | some (x,_),some m=>some (x,m)
 | _,_=>none
def laS1(c:Cf)(p:Ep)(I:Es×Mp->Prop)(s:St):Option (LA (Es×Mp)):=fN (renK 0 s) fun ke=>fN (kidN s) fun kk=>fN (lstF s) fun kl=>fN (kFr s) fun kf=>
 some ⟨pthS true,fun x=>x.1.bS c p x.2 ke kk kl kf,[],fun _=>[],rdS,I,fun x=>6-x.2.n⟩
def rdR(s:St):Option (Bool×Int×Int):=match (find (tmK 7 s) s.H.h).map ownC with
 | some [some b,some x,some y]=>match blC b,numC x,numC y with
  | some b,some x,some y=>some (b,x,y)
  | _,_,_=>none
 | _=>none
def laS2(c:Cf)(p:Ep)(I:(Es×Mp)×(Bool×Int×Int)->Prop)(s:St):Option (LA ((Es×Mp)×(Bool×Int×Int))):=fN (renK 0 s) fun ke=>fN (kidN s) fun kk=>fN (lstF s) fun kl=>fN (kFr s) fun kf=>match find (tmK 7 s) s.H.h with
 | some (.own t sz _)=>some ⟨(tmK 7,true)::pthS false,fun x=>.own t sz ([SC.bv x.2.1,i6 x.2.2.1,i6 x.2.2.2].map some)::x.1.1.bS c p x.1.2 ke kk kl kf,[],fun _=>[],fun s=>match rdS s,rdR s with|some x,some r=>some (x,r)|_,_=>none,I,fun x=>x.1.2.n⟩
 | _=>none
def argSt:List SV:=[.c (.ptr 10 (.k 0) (.k 0) 0 4),.c (.ptr 0 (.k 0) (.k 0) 0 21)]
def rdSo(s:SV)(H:Hp):Option So:=match s with
 | .c b=>match blC b,rdMp H.h with
  | some b,some m=>match rdEs 0 (scK (zax 10 0 H.h)) H.h with
   | some (x,_)=>some ⟨x,m,b⟩
   | none=>none
  | _,_=>none
 | _=>none
def LSo(_:SV)(H:Hp):List Nat:=fN (scK (zax 10 0 H.h)) fun kf=>match kidK 5 H.h,rdFk kf H.h with
 | some (k,_),some (_,k')=>[scK (zax 0 20 H.h),k,k',kf]
 | _,_=>[]
def jF:List (Nat×G):=[(200006,.nilEl kFr 17 3 1 [.ci .i64 fun _ _=>0]),(200006,.join kFr 17)]
def vSt(c:Cf)(p:Ep)(s:Es)(m:Mp)(I1:Es×Mp->Prop)(I2:(Es×Mp)×(Bool×Int×Int)->Prop)(Φ:So->Prop):V:=verF P conSt 8 10 gStep ((0,.ren (renK 0))::(0,.ren kidN)::(0,.ren lstF)::(0,.ren kFr)::jF)
 (.loop (Es×Mp) [] (laS1 c p I1) .nil (.loop ((Es×Mp)×(Bool×Int×Int)) [] (laS2 c p I2) .nil .nil)) argSt ⟨s.hS c p m 7 6 9 8++hCk c,11,fun _=>True⟩
 (finV (X:=So) 11 15 rdSo LSo Φ (fun x=>.c (.bv x.b)) (fun x=>x.s.hS c p x.m 11 12 13 14))
end
structure J (c:Cf) (s:Es) (n:Nat):Prop where
 n1:1<=n
 ch:∀e,e+1<n->rk (s.f.kd (e+1))<rk (s.f.kd e)
 bw:∀e,e+1<n->s.f.kd e=24->1<=s.f.ll e/\s.f.ln e≠3/\tsk0 c (tpF s.f e)/\(s.f.ln e=5->pcV c s.x (tpF s.f e).toNat/\s.f.kd (e+1)=12)
 bc:∀e,e+1<n->s.f.kd e=26->(0<=s.f.i e/\s.f.i e<(c.nU:Int))/\(s.f.ln e=3->s.f.kd (e+1)=12)
structure Tp (c:Cf) (s:Es) (i:Nat):Prop where
 hw:s.f.kd i=24->1<=s.f.ll i/\(s.f.ln i≠1->s.f.ln i≠3/\s.f.ln i≠5/\tsk0 c (tpF s.f i))
 hc:s.f.kd i=26->0<=s.f.i i
theorem rk_le(k:Int):rk k<=5:=by
 unfold rk
 repeat' split
 all_goals omega
theorem rk_pos(k:Int):1<=rk k:=by
 unfold rk
 repeat' split
 all_goals omega
section
variable {c:Cf} {p:Ep} {s s':Es} {n:Nat}
theorem J.rke(h:J c s n):∀e,e<n->rk (s.f.kd e)+e<=5
 | 0,_=>by have:=rk_le (s.f.kd 0);omega
 | e+1,he=>by
  have h1:=J.rke h e (by omega)
  have h2:=h.ch e he
  omega
theorem J.n5(h:J c s n):n<=5:=by
 have h1:=h.n1
 have h2:=h.rke (n-1) (by omega)
 have h3:=rk_pos (s.f.kd (n-1))
 omega
theorem pcV_x{x x':Rk}{t:Nat}(h1:x'.p=x.p)(h2:x'.pc=x.pc)(h:pcV c x t):pcV c x' t:=by
 unfold pcV at h ⊢
 rw[h1,h2]
 exact h
theorem tpF_e{f f':Fk}{e:Nat}(h1:f'.ll e=f.ll e)(h2:f'.ld e=f.ld e):tpF f' e=tpF f e:=by
 unfold tpF
 rw[h1,h2]
theorem J.app(h:J c s n)(ht:Tp c s (n-1))(hp:s'.x.p=s.x.p)(hpc:s'.x.pc=s.x.pc)(hk:∀e,e<n->s'.f.kd e=s.f.kd e)(hl:∀e,e<n->s'.f.ll e=s.f.ll e)(hd:∀e,e<n->s'.f.ld e=s.f.ld e)(hi:∀e,e<n->s'.f.i e=s.f.i e)(hn:∀e,e+1<n->s'.f.ln e=s.f.ln e)
  (hr:rk (s'.f.kd n)<rk (s.f.kd (n-1)))
  (hw:s.f.kd (n-1)=24->s'.f.ln (n-1)≠3/\tsk0 c (tpF s.f (n-1))/\(s'.f.ln (n-1)=5->pcV c s.x (tpF s.f (n-1)).toNat/\s'.f.kd n=12))
  (hc:s.f.kd (n-1)=26->s.f.i (n-1)<(c.nU:Int)/\(s'.f.ln (n-1)=3->s'.f.kd n=12)):J c s' (n+1):=by
 have n1:=h.n1
 refine⟨by omega,fun e he=>?_,fun e he h4=>?_,fun e he h6=>?_⟩
 ·rcases Nat.lt_or_ge (e+1) n with g|g
  ·rw[hk _ g,hk _ (by omega)];exact h.ch e g
  ·obtain rfl:e=n-1:=by omega
   rw[Nat.sub_add_cancel n1,hk (n-1) (by omega)]
   exact hr
 ·have he':e<n:=by omega
  rw[hk _ he']at h4
  have ht':=tpF_e (hl e he') (hd e he')
  rcases Nat.lt_or_ge (e+1) n with g|g
  ·obtain⟨h1,h2,h3,h5⟩:=h.bw e g h4
   rw[ht',hl e he',hn e g,hk _ g]
   exact⟨h1,h2,h3,fun h=>⟨pcV_x hp hpc (h5 h).1,(h5 h).2⟩⟩
  ·obtain rfl:e=n-1:=by omega
   obtain⟨h2,h3,h5⟩:=hw h4
   rw[ht',hl _ he',Nat.sub_add_cancel n1]
   exact⟨(ht.hw h4).1,h2,h3,fun h=>⟨pcV_x hp hpc (h5 h).1,(h5 h).2⟩⟩
 ·have he':e<n:=by omega
  rw[hk _ he']at h6
  rcases Nat.lt_or_ge (e+1) n with g|g
  ·obtain⟨h1,h2⟩:=h.bc e g h6
   rw[hi e he',hn e g,hk _ g]
   exact⟨h1,h2⟩
  ·obtain rfl:e=n-1:=by omega
   obtain⟨h1,h2⟩:=hc h6
   rw[hi _ he',Nat.sub_add_cancel n1]
   exact⟨⟨ht.hc h6,h1⟩,h2⟩
theorem J.leaf(h:J c s n)(hy:s'.x.p=s.x.p)(hz:n<=1\/s.f.kd (n-1)=24\/s'.x.pc=s.x.pc)(hk:s'.f.kd=s.f.kd)(hl:∀e,e≠n-1->s'.f.ll e=s.f.ll e)(hd:s'.f.ld=s.f.ld)(hi:∀e,e≠n-1->s'.f.i e=s.f.i e)(hn:∀e,e≠n-1->s'.f.ln e=s.f.ln e):J c s' n:=by
 refine⟨h.n1,fun e he=>by rw[hk];exact h.ch e he,fun e he h4=>?_,fun e he h6=>?_⟩
 ·rw[hk]at h4 ⊢
  have ne:e≠n-1:=by omega
  obtain⟨h1,h2,h3,h5⟩:=h.bw e he h4
  rw[tpF_e (hl e ne) (congrFun hd e),hl e ne,hn e ne]
  refine⟨h1,h2,h3,fun h'=>⟨?_,(h5 h').2⟩⟩
  rcases hz with hz|hz|hz
  ·omega
  ·have h7:=(h5 h').2
   have g:e+1=n-1:=by
    rcases Nat.lt_or_ge (e+2) n with g|g
    ·have h8:=h.ch (e+1) g
     have h9:=rk_pos (s.f.kd (e+1+1))
     rw[h7]at h8
     have:rk 12=1:=by decide
     omega
    ·omega
   rw[g,hz]at h7
   exact absurd h7 (by decide)
  ·exact pcV_x hy hz (h5 h').1
 ·rw[hk]at h6 ⊢
  have ne:e≠n-1:=by omega
  rw[hi e ne,hn e ne]
  exact h.bc e he h6
theorem J.pop(h:J c s n)(h2:2<=n)(hk:s'.f.kd=s.f.kd)(hl:∀e,e≠n-2->s'.f.ll e=s.f.ll e)(hd:∀e,e≠n-2->s'.f.ld e=s.f.ld e)(hi:∀e,e≠n-2->s'.f.i e=s.f.i e)(hn:∀e,e≠n-2->s'.f.ln e=s.f.ln e):J c s' (n-1):=by
 refine⟨by omega,fun e he=>by rw[hk];exact h.ch e (by omega),fun e he h4=>?_,fun e he h6=>?_⟩
 ·rw[hk]at h4 ⊢
  have ne:e≠n-2:=by omega
  obtain⟨h1,h2,h3,h5⟩:=h.bw e (by omega) h4
  rw[tpF_e (hl e ne) (hd e ne),hl e ne,hn e ne]
  refine⟨h1,h2,h3,fun h'=>?_⟩
  have h7:=(h5 h').2
  have h8:=h.ch (e+1) (by omega)
  have h9:=rk_pos (s.f.kd (e+1+1))
  rw[h7]at h8
  have:rk 12=1:=by decide
  omega
 ·rw[hk]at h6 ⊢
  have ne:e≠n-2:=by omega
  rw[hi e ne,hn e ne]
  exact h.bc e (by omega) h6
theorem J.ne12(h:J c s n)(h2:2<=n):s.f.kd (n-2)≠12:=fun e=>by
 have h8:=h.ch (n-2) (by omega)
 have h9:=rk_pos (s.f.kd (n-2+1))
 rw[e]at h8
 have:rk 12=1:=by decide
 omega
end
structure I1 (b:Nat) (c:Cf) (p:Ep) (s0:Es) (x:Es×Mp):Prop where
 hs:okE b c (p.to x.2) x.1
 hj:J c x.1 x.2.n
 ht:Tp c x.1 (x.2.n-1)
 hf:x.2.n<=x.2.fc
 ho:x.2.over=false
 hn:x.1.now=s0.now
structure I2 (b:Nat) (c:Cf) (p:Ep) (s0:Es) (x:(Es×Mp)×(Bool×Int×Int)):Prop where
 hs:okE (b+3*(8-x.1.2.n)) c (p.to x.1.2) x.1.1
 hj:J c x.1.1 x.1.2.n
 hf:x.1.2.n<=x.1.2.fc
 ho:x.1.2.over=false
 hn:x.1.1.now=s0.now
 hd:x.2.1=true->x.1.1.f.kd (x.1.2.n-1)=12->x.2.2.1=3\/tsk0 c x.2.2.2
 ht:x.2.1=false->Tp c x.1.1 (x.1.2.n-1)/\(2<=x.1.2.n->x.1.1.f.kd (x.1.2.n-1)≠12)
structure preS (b:Nat) (c:Cf) (p:Ep) (s:Es) (m:Mp):Prop where
 hY:okY c
 hC:okC c
 hU:c.nU<=900000
 hb:1<=b/\b+24<=900000
 hs:okE b c (p.to m) s
 hm:m.over=false->J c s m.n/\Tp c s (m.n-1)/\m.n<=m.fc
structure ΦS (b:Nat) (c:Cf) (p:Ep) (s:Es) (m:Mp) (x:So):Prop where
 hx:m.over=true->x.s=s/\x.m=m/\x.b=true
 hs:okE (b+24) c (p.to x.m) x.s
 hn:x.s.now=s.now
 ho:x.b=true->x.m.over=true
 hj:x.b=false->x.m.over=false/\J c x.s x.m.n/\Tp c x.s (x.m.n-1)/\x.m.n<=x.m.fc/\(2<=x.m.n->x.s.f.kd (x.m.n-1)≠12)
section
variable {b:Nat} {c:Cf} {p:Ep} {s:Es} {m:Mp} {x:Es×Mp} {z:(Es×Mp)×(Bool×Int×Int)}
theorem wr1{n:Nat}(h1:1<=n)(h2:n<=5):i64.wrap ((n:Int)-O 1)=((n-1:Nat):Int):=by
 rw[w64 (by simp only[zz];omega)]
 simp only[zz]
 omega
theorem ix1{n:Nat}(h1:1<=n)(h2:n<=5):0+(i64.wrap ((n:Int)-O 1)).toNat=n-1:=by
 rw[wr1 h1 h2,Int.toNat_natCast,z8]
theorem ixr{n:Nat}(h1:1<=n)(h2:n<=5):O 0<=i64.wrap ((n:Int)-O 1)/\i64.wrap ((n:Int)-O 1)<(n:Int):=by
 rw[wr1 h1 h2]
 simp only[zz]
 omega
theorem I1.i(h:I1 b c p s x):0+(i64.wrap ((x.2.n:Int)-O 1)).toNat=x.2.n-1:=ix1 h.hj.n1 h.hj.n5
theorem I1.r(h:I1 b c p s x):O 0<=i64.wrap ((x.2.n:Int)-O 1)/\i64.wrap ((x.2.n:Int)-O 1)<(x.2.n:Int):=ixr h.hj.n1 h.hj.n5
theorem I1.a(h:I1 b c p s x)(hY:okY c)(hb:b<=900000):preA c (p.to x.2) x.1 (x.2.n-1):=⟨by have:=h.hj.n1;show x.2.n-1<x.2.n;omega,hY,h.hs.le hb⟩
theorem I1.N(h:I1 b c p s x)(hY:okY c)(hC:okC c)(hb:b<=900000):preN c (p.to x.2) x.1 (0+(i64.wrap ((x.2.n:Int)-O 1)).toNat):=by
 rw[h.i]
 exact⟨h.a hY hb,h.hf,hC,h.ht.hw,h.ht.hc⟩
theorem I1.l(h:I1 b c p s x):0<1/\0+(i64.wrap ((x.2.n:Int)-O 1)).toNat<x.2.n:=by
 rw[h.i]
 have:=h.hj.n1
 omega
theorem I1.mx(h:I1 b c p s x):x.2.n+1<=9223372036854775807/\(x.2.n+1)*160<=140737488355328:=by
 have:=h.hj.n5
 omega
theorem I1.mu(h:I1 b c p s x):6-(x.2.n+1)<6-x.2.n:=by
 have:=h.hj.n5
 omega
theorem S_over(hs:okE b c (p.to m) s)(h:m.over=true):ΦS b c p s m ⟨s,m,true⟩:=⟨fun _=>⟨rfl,rfl,rfl⟩,hs.le (by omega),rfl,fun _=>h,fun h=>(by cases h)⟩
theorem I1_0(hs:okE b c (p.to m) s)(hm:m.over=false->J c s m.n/\Tp c s (m.n-1)/\m.n<=m.fc)(h:m.over=false):I1 b c p s (s,m):=⟨hs,(hm h).1,(hm h).2.1,(hm h).2.2,h,rfl⟩
theorem up_f{n a d:Nat}{l k:Nat->Nat}(had:a<=d)(h:∀e,e<n->l e<=k e)(i:Nat):(upto (n+1) (fun e=>if 0=0/\e=n then a else l e) i<=if 0=0/\i=n then d else k i)/\upto (n+1) (fun e=>if 0=0/\e=n then a else l e) i<=if i=n then a else upto n l i:=by
 unfold upto
 simp only[true_and]
 have:=h i
 repeat' split
 all_goals first|omega|(constructor<;>omega)
theorem exN(hj:0<=0){i:Nat}:∃y,ΦN c s i y:=by
 by_cases h:s.f.kd i=24
 ·exact⟨⟨frRun 0 0,false,(23,0)⟩,fun _=>⟨⟨by decide,fun h=>absurd rfl h,fun h=>by rcases h with h|h<;>exact absurd h (by decide)⟩,fun _=>by decide,fun h=>(by cases h)⟩,fun h6=>by rw[h]at h6;exact absurd h6 (by decide),fun h=>(by cases h),⟨z_w,z_w,z_w,z_w,(by decide:(0:Int)<=9223372036854775807)⟩⟩
 ·exact⟨⟨frRun 0 0,false,(s.f.ln i,0)⟩,fun h4=>absurd h4 h,fun _=>⟨rfl,fun h=>(by cases h)⟩,fun h=>(by cases h),⟨z_w,z_w,z_w,z_w,(by decide:(0:Int)<=9223372036854775807)⟩⟩
theorem exL{q:Ep}{i:Nat}(h:preL c q s i):∃y,ΦL c q s i y:=⟨⟨s,true,3,0⟩,h.a.2.2.okQ,gr.refl,⟨rfl,rfl,rfl,rfl,rfl,rfl,rfl,fun _ _=>rfl,fun _ _=>rfl,fun _ _=>rfl,rfl⟩,fun _=>⟨rfl,rfl⟩,fun _=>⟨rfl,.inl rfl⟩,fun _ h=>(by cases h),fun _=>rfl,fun _ _=>rfl⟩
theorem exK{q:Ep}{i:Nat}{a v:Int}(h:preK c q s i a v):∃y,ΦK c q s i y:=⟨⟨s,true,3,0⟩,⟨h.ha.2.2.okQ,gr.refl,stB.refl⟩,fun _ h=>(by cases h),fun _ h=>(by cases h)⟩
theorem lj_ok{q:Ep}{i:Nat}{y:Int×Int}(h:okE b c q s):okE b c q (s.lj i y):=⟨h.m,h.n,h.kl,h.kc,h.ne,h.nc,h.ll,h.lc,h.u,h.v,h.w,h.x,h.q⟩
theorem lj_i{i:Nat}{y:Int×Int}:(s.lj i y).f.ln i=y.1:=by show(if 0=0/\i=i then y.1 else s.f.ln i)=y.1;rw[if_pos ⟨rfl,rfl⟩]
theorem lj_n{i e:Nat}{y:Int×Int}(h:e≠i):(s.lj i y).f.ln e=s.f.ln e:=by show(if 0=0/\e=i then y.1 else s.f.ln e)=s.f.ln e;rw[if_neg fun g=>h g.2]
theorem L_of{i:Nat}{y:Xn}(hx:I1 b c p s x)(hi:i=x.2.n-1)(hY:okY c)(hb:b<=900000)(hy:ΦN c x.1 i y)(hok:(!y.ok)=true):preL c (p.to x.2) (x.1.lj i y.y) i:=by
 have ok:y.ok=false:=by simpa using hok
 have ha:=hx.a hY hb
 rw[<-hi]at ha
 have ht:=hx.ht
 rw[<-hi]at ht
 refine⟨⟨ha.1,hY,lj_ok ha.2.2⟩,hx.hf,fun h=>?_,fun h=>ht.hc h⟩
 obtain⟨⟨h1,h2,h3⟩,h4,h5⟩:=hy.hr h
 refine⟨(ht.hw h).1,fun h'=>?_,fun h'=>?_⟩
 ·rw[lj_i]at h';exact h2 h'
 ·rw[lj_i]at h';exact h3 (.inl h')
theorem wr2{n:Nat}(h1:1<=n)(h2:n<=5):(i64.wrap ((n:Int)-O 1)).toNat=n-1:=by rw[wr1 h1 h2,Int.toNat_natCast]
theorem I2.w(h:I2 b c p s z):(i64.wrap ((z.1.2.n:Int)-O 1)).toNat=z.1.2.n-1:=wr2 h.hj.n1 h.hj.n5
theorem I2.s3(h:I2 b c p s z):O 0<=O 0/\O 0<=i64.wrap ((z.1.2.n:Int)-O 1)/\i64.wrap ((z.1.2.n:Int)-O 1)<=(z.1.2.fc:Int):=by
 rw[wr1 h.hj.n1 h.hj.n5]
 have:=h.hf
 simp only[zz]
 omega
theorem I2.le(h:I2 b c p s z):(i64.wrap ((z.1.2.n:Int)-O 1)).toNat<=z.1.2.n:=by rw[h.w];omega
theorem I2.lt(h:I2 b c p s z):(i64.wrap ((z.1.2.n:Int)-O 1)).toNat<z.1.2.n:=by
 have:=h.hj.n1
 rw[h.w];omega
theorem up_d{n k:Nat}{l:Nat->Nat}{q:Nat->Nat}(hk:k<=n)(h:∀e,e<n->l e<=q e)(i:Nat):upto k l i<=q i/\upto k l i<=upto n l i:=by
 unfold upto
 have:=h i
 repeat' split
 all_goals first|omega|(constructor<;>omega)
theorem I2.n2(h:I2 b c p s z)(hz:((((i64.wrap ((z.1.2.n:Int)-O 1)).toNat:Nat):Int) == O 0)=false):2<=z.1.2.n:=by
 have h1:=h.hj.n1
 rw[h.w]at hz
 simp only[zz,beq_eq_false_iff_ne,ne_eq]at hz
 omega
theorem I2.ix(h:I2 b c p s z)(h2:2<=z.1.2.n):0+(i64.wrap (((i64.wrap ((z.1.2.n:Int)-O 1)).toNat:Int)-O 1)).toNat=z.1.2.n-2:=by
 have:=h.hj.n5
 rw[h.w,ix1 (by omega) (by omega)]
 omega
theorem I2.rg(h:I2 b c p s z)(h2:2<=z.1.2.n):O 0<=i64.wrap (((i64.wrap ((z.1.2.n:Int)-O 1)).toNat:Int)-O 1)/\i64.wrap (((i64.wrap ((z.1.2.n:Int)-O 1)).toNat:Int)-O 1)<((i64.wrap ((z.1.2.n:Int)-O 1)).toNat:Int):=by
 have:=h.hj.n5
 rw[h.w]
 exact ixr (by omega) (by omega)
theorem I2.l(h:I2 b c p s z)(h2:2<=z.1.2.n):0<1/\0+(i64.wrap (((i64.wrap ((z.1.2.n:Int)-O 1)).toNat:Int)-O 1)).toNat<z.1.2.n:=by
 rw[h.ix h2]
 omega
theorem K_of(h:I2 b c p s z)(h2:2<=z.1.2.n)(hY:okY c)(hU:c.nU<=900000)(hb:b+24<=900000)(hd:z.2.1=true){i:Nat}(hi:i=z.1.2.n-2):preK c (p.to z.1.2) z.1.1 i z.2.2.1 z.2.2.2:=by
 subst hi
 have e1:z.1.2.n-2+1=z.1.2.n-1:=by omega
 refine⟨⟨by show z.1.2.n-2<z.1.2.n;omega,hY,h.hs.le (by omega)⟩,h.hf,fun h4=>?_,fun h6=>?_⟩
 ·obtain⟨k1,k2,k3,k5⟩:=h.hj.bw (z.1.2.n-2) (by omega) h4
  refine⟨k1,k3,k2,fun g=>⟨(k5 g).1,h.hd hd ?_⟩⟩
  rw[<-e1];exact(k5 g).2
 ·obtain⟨k1,k2⟩:=h.hj.bc (z.1.2.n-2) (by omega) h6
  refine⟨k1,fun g=>h.hd hd ?_,hU⟩
  rw[<-e1];exact k2 g
theorem I2_leaf{i:Nat}{y:Xn}{w:Eo}(hx:I1 b c p s x)(hi:i=x.2.n-1)(hb:b+24<=900000)(hy:ΦN c x.1 i y)(hok:(!y.ok)=true)(hw:ΦL c (p.to x.2) (x.1.lj i y.y) i w):I2 b c p s ((w.s,x.2),(w.done,w.code,w.value)):=by
 have n5:=hx.hj.n5
 have ok:y.ok=false:=by simpa using hok
 have hk:w.s.f.kd=x.1.f.kd:=hw.st.kd
 subst hi
 refine⟨okE.le (hw.q.gr (lj_ok hx.hs) hw.g) (by show b+3<=b+3*(8-x.2.n);omega),?_,hx.hf,hx.ho,hw.st.now.trans hx.hn,fun _ h=>?_,fun hd=>⟨⟨fun h=>?_,fun h=>?_⟩,fun _ h=>?_⟩⟩
 ·refine hx.hj.leaf hw.st.xp ?_ hk hw.st.ll hw.st.ld hw.st.fi fun e he=>(hw.st.ln e he).trans (lj_n he)
  by_cases h:x.1.f.kd (x.2.n-1)=24
  ·exact .inr (.inl h)
  ·exact .inr (.inr (hw.a h).2)
 ·exact(hw.t (by rw[hk]at h;exact h)).2
 ·have h:x.1.f.kd (x.2.n-1)=24:=by rw[hk]at h;exact h
  obtain⟨h1,h3,h5,h7⟩:=hw.r h hd
  refine⟨h1,fun g=>⟨h3,h5,?_⟩⟩
  obtain⟨⟨k1,k2,k3⟩,k4,k5⟩:=hy.hr h
  rw[tpF_e (f:=x.1.f) (h7 g) (congrFun hw.st.ld _)]
  refine k2 fun e=>?_
  have:=hw.d h (by rw[lj_i];exact e)
  have hd:w.done=false:=hd
  rw[hd]at this
  cases this
 ·have h:x.1.f.kd (x.2.n-1)=26:=by rw[hk]at h;exact h
  show 0<=w.s.f.i (x.2.n-1)
  rw[hw.c h]
  exact hx.ht.hc h
 ·have:=(hw.t (by rw[hk]at h;exact h)).1
  have hd:w.done=false:=hd
  rw[hd]at this
  cases this
theorem I2_back{i:Nat}{w:Eo}(hx:I2 b c p s z)(h2:2<=z.1.2.n)(hi:i=z.1.2.n-2){n:Nat}(hn:n=z.1.2.n-1)(hw:ΦK c (p.to z.1.2) z.1.1 i w):I2 b c p s ((w.s,⟨n,z.1.2.fc,z.1.2.over,z.1.2.code,z.1.2.value⟩),(w.done,w.code,w.value)):=by
 have n5:=hx.hj.n5
 have e12:=hx.hj.ne12 h2
 have hf:=hx.hf
 subst hi hn
 have e1:z.1.2.n-1-1=z.1.2.n-2:=by omega
 obtain⟨⟨q,g,st⟩,k4,k6⟩:=hw
 have hk:w.s.f.kd=z.1.1.f.kd:=st.kd
 have q':=(q.gr hx.hs g)
 refine⟨?_,hx.hj.pop h2 hk st.ll st.ld st.fi st.ln,?_,hx.ho,st.now.trans hx.hn,fun _ h=>?_,fun hd=>⟨⟨fun h=>?_,fun h=>?_⟩,fun _ h=>?_⟩⟩
 ·refine okE.le ⟨q'.m,q'.n,q'.kl,q'.kc,q'.ne,q'.nc,q'.ll,fun e he=>q'.lc e ?_,q'.u,q'.v,q'.w,q'.x,q'.q⟩ ?_
  ·have he:e<z.1.2.n-1:=he
   show e<z.1.2.n
   omega
  ·show b+3*(8-z.1.2.n)+3<=b+3*(8-(z.1.2.n-1))
   omega
 ·show z.1.2.n-1<=z.1.2.fc
  omega
 ·exact absurd (by rw[<-e1,<-hk];exact h) e12
 ·have h:z.1.1.f.kd (z.1.2.n-2)=24:=by rw[<-hk,<-e1];exact h
  obtain⟨h1,h3,h5,h7⟩:=k4 h hd
  show 1<=w.s.f.ll (z.1.2.n-1-1)/\_
  rw[e1]
  exact⟨h1,fun g=>⟨h3,h5,h7 g⟩⟩
 ·have h:z.1.1.f.kd (z.1.2.n-2)=26:=by rw[<-hk,<-e1];exact h
  show 0<=w.s.f.i (z.1.2.n-1-1)
  rw[e1]
  exact k6 h hd
 ·exact absurd (by rw[<-e1,<-hk];exact h) e12
theorem S_end(hx:I2 b c p s z)(hm:m.over=false){n:Nat}(hn:n=z.1.2.n-1){cd vl:Int}:ΦS b c p s m ⟨z.1.1,⟨n,z.1.2.fc,true,cd,vl⟩,true⟩:=by
 have n1:=hx.hj.n1
 subst hn
 have q':=hx.hs
 refine⟨fun h=>(by rw[hm]at h;cases h),okE.le ⟨q'.m,q'.n,q'.kl,q'.kc,q'.ne,q'.nc,q'.ll,fun e he=>q'.lc e ?_,q'.u,q'.v,q'.w,q'.x,q'.q⟩ (by omega),hx.hn,fun _=>rfl,fun h=>(by cases h)⟩
 have he:e<z.1.2.n-1:=he
 show e<z.1.2.n
 omega
theorem S_on(hx:I2 b c p s z)(hm:m.over=false)(hd:z.2.1=false):ΦS b c p s m ⟨z.1.1,z.1.2,false⟩:=
 ⟨fun h=>(by rw[hm]at h;cases h),hx.hs.le (by have:=hx.hj.n1;omega),hx.hn,fun h=>(by cases h),fun _=>⟨hx.ho,hx.hj,(hx.ht hd).1,hx.hf,(hx.ht hd).2⟩⟩
theorem I1_app(hx:I1 b c p s x)(hb:1<=b){fc:Nat}(hfc:x.2.n+1<=fc){kd ln qt qb qr qc a b' d ii j n t u v w xx:Nat->Int}{ll lc:Nat->Nat}{ld:Nat->Nat->Int}
  (hu:∀e,wd (u e)) (hv:∀e,wd (v e)) (hw:∀e,wd (w e)) (hxx:∀e,wd (xx e)) (hq:∀e,qc e<=9223372036854775807) (hll:∀e,ll e<=b) (hlc:∀e,e<x.2.n+1->ll e<=lc e)
  (hk:∀e,e<x.2.n->kd e=x.1.f.kd e) (hl:∀e,e<x.2.n->ll e=x.1.f.ll e) (hd:∀e,e<x.2.n->ld e=x.1.f.ld e) (hi:∀e,e<x.2.n->ii e=x.1.f.i e) (hn:∀e,e+1<x.2.n->ln e=x.1.f.ln e)
  (hr:rk (kd x.2.n)<rk (x.1.f.kd (x.2.n-1)))
  (h4:x.1.f.kd (x.2.n-1)=24->ln (x.2.n-1)≠3/\tsk0 c (tpF x.1.f (x.2.n-1))/\(ln (x.2.n-1)=5->pcV c x.1.x (tpF x.1.f (x.2.n-1)).toNat/\kd x.2.n=12))
  (h6:x.1.f.kd (x.2.n-1)=26->x.1.f.i (x.2.n-1)<(c.nU:Int)/\(ln (x.2.n-1)=3->kd x.2.n=12))
  (t4:kd x.2.n=24->1<=ll x.2.n) (tl:ln x.2.n=1) (t6:kd x.2.n≠26):
  I1 b c p s (⟨x.1.m,x.1.now,x.1.dr,x.1.x,x.1.kc,x.1.ne,x.1.nc,⟨kd,ln,qt,qb,qr,qc,a,b',d,ii,j,n,t,u,v,w,xx,ll,lc,ld⟩⟩,⟨x.2.n+1,fc,x.2.over,x.2.code,x.2.value⟩):=
 ⟨⟨hx.hs.m,hx.hs.n,hx.hs.kl,hx.hs.kc,hx.hs.ne,hx.hs.nc,hll,hlc,hu,hv,hw,hxx,hq⟩,hx.hj.app hx.ht rfl rfl hk hl hd hi hn hr h4 h6,⟨fun h=>⟨t4 h,fun h'=>absurd tl h'⟩,fun h=>absurd h t6⟩,hfc,hx.ho,hx.hn⟩
end
abbrev apN{α:Type}(n:Nat)(v:α)(f:Nat->α):Nat->α:=fun e=>if 0=0/\e=n then v else f e
theorem zed{α:Type}{n:Nat}{v:α}{f:Nat->α}:apN n v f n=v:=if_pos ⟨rfl,rfl⟩
theorem zen{α:Type}{n:Nat}{v:α}{f:Nat->α}{e:Nat}(h:e≠n):apN n v f e=f e:=if_neg fun g=>h g.2
theorem zcj{α:Type}{n:Nat}{v:α}{f:Nat->α}{Q:α->Prop}(h1:Q v)(h2:∀e,Q (f e))(e:Nat):Q (apN n v f e):=by
 unfold apN
 split
 ·exact h1
 ·exact h2 e
theorem run_k{s:Es}{i:Nat}(h:za6 s i=true):s.f.kd i=25:=by
 unfold za6 at h
 simp only[zx,beq_iff_eq]at h
 exact h.1
section
variable {b:Nat} {c:Cf} {p:Ep} {s:Es} {m:Mp} {x:Es×Mp}
theorem I1_run(hx:I1 b c p s x)(hb:1<=b){i:Nat}(hi:i=x.2.n-1)(hf:za6 x.1 i=true){z:Int×Int×Nat}(hz:1<=z.2.2){fc:Nat}(hfc:x.2.n+1<=fc){qt qb qr a b' d ii j n t:Nat->Int}
  (hii:ii=apN x.2.n (O 0) x.1.f.i):
  I1 b c p s (⟨x.1.m,x.1.now,x.1.dr,x.1.x,x.1.kc,x.1.ne,x.1.nc,⟨apN x.2.n (O 24) x.1.f.kd,apN x.2.n (O 1) x.1.f.ln,qt,qb,qr,apN x.2.n (O 0) x.1.f.qc,a,b',d,ii,j,n,t,apN x.2.n (O 0) x.1.f.u,apN x.2.n (O 0) x.1.f.v,apN x.2.n (O 0) x.1.f.w,apN x.2.n (O 0) x.1.f.x,apN x.2.n 1 x.1.f.ll,apN x.2.n z.2.2 x.1.f.lc,fun i e=>if i=x.2.n then z.2.1 else x.1.f.ld i e⟩⟩,⟨x.2.n+1,fc,x.2.over,x.2.code,x.2.value⟩):=by
 have n1:=hx.hj.n1
 have k25:=run_k hf
 subst hi hii
 have hz0:wd (O 0):=z_w
 refine I1_app hx hb hfc (zcj hz0 hx.hs.u) (zcj hz0 hx.hs.v) (zcj hz0 hx.hs.w) (zcj hz0 hx.hs.x) (zcj (Q:=fun y=>y<=9223372036854775807) (by decide) hx.hs.q) (zcj (Q:=fun y=>y<=b) hb hx.hs.ll) (fun e he=>?_)
  (fun e he=>zen (by omega)) (fun e he=>zen (by omega)) (fun e he=>?_) (fun e he=>zen (by omega)) (fun e he=>zen (by omega)) ?_ (fun h=>?_) (fun h=>?_) (fun _=>?_) zed ?_
 ·by_cases g:e=x.2.n
  ·subst g
   rw[zed,zed];exact hz
  ·rw[zen g,zen g]
   exact hx.hs.lc e (by show e<x.2.n;omega)
 ·funext k
  exact if_neg (by omega)
 ·rw[zed,k25]
  decide
 ·rw[k25]at h;exact absurd h (by decide)
 ·rw[k25]at h;exact absurd h (by decide)
 ·rw[zed];exact Z 1
 ·rw[zed];decide
theorem I1_fr(hx:I1 b c p s x)(hb:1<=b){i:Nat}(hi:i=x.2.n-1){y:Xn}(hy:ΦN c x.1 i y)(hok:(!y.ok)=false){fc:Nat}(hfc:x.2.n+1<=fc){qt qb qr a b' d ii j n t:Nat->Int}{ln:Nat->Int}
  (hii:ii=apN x.2.n y.r.i x.1.f.i) (hln:ln=apN x.2.n (O 1) (apN i y.y.1 x.1.f.ln)):
  I1 b c p s (⟨x.1.m,x.1.now,x.1.dr,x.1.x,x.1.kc,x.1.ne,x.1.nc,⟨apN x.2.n y.r.kd x.1.f.kd,ln,qt,qb,qr,apN x.2.n y.r.qc x.1.f.qc,a,b',d,ii,j,n,t,apN x.2.n y.r.u x.1.f.u,apN x.2.n y.r.v x.1.f.v,apN x.2.n y.r.w x.1.f.w,apN x.2.n y.r.x x.1.f.x,apN x.2.n 0 x.1.f.ll,apN x.2.n 0 x.1.f.lc,fun i e=>if i=x.2.n then O 0 else x.1.f.ld i e⟩⟩,⟨x.2.n+1,fc,x.2.over,x.2.code,x.2.value⟩):=by
 have n1:=hx.hj.n1
 have ok:y.ok=true:=by simpa using hok
 obtain⟨r1,r2,r3⟩:=hy.hk ok
 obtain⟨w1,w2,w3,w4,w5⟩:=hy.hw
 subst hi hii hln
 have ne:x.2.n-1≠x.2.n:=by omega
 refine I1_app hx hb hfc (zcj w1 hx.hs.u) (zcj w2 hx.hs.v) (zcj w3 hx.hs.w) (zcj w4 hx.hs.x) (zcj (Q:=fun y=>y<=9223372036854775807) w5 hx.hs.q) (zcj (Q:=fun y=>y<=b) (zh b) hx.hs.ll) (fun e he=>?_)
  (fun e he=>zen (by omega)) (fun e he=>zen (by omega)) (fun e he=>?_) (fun e he=>zen (by omega)) (fun e he=>(zen (by omega)).trans (zen (by omega))) ?_ (fun h=>?_) (fun h=>?_) (fun h=>?_) zed ?_
 ·by_cases g:e=x.2.n
  ·subst g
   rw[zed,zed];exact Z 0
  ·rw[zen g,zen g]
   exact hx.hs.lc e (by show e<x.2.n;omega)
 ·funext k
  exact if_neg (by omega)
 ·rw[zed];exact r1
 ·obtain⟨⟨o1,o2,o3⟩,h4,h5⟩:=hy.hr h
  obtain⟨q5,q3,q23⟩:=h5 ok
  rw[zen ne,zed,zed]
  exact⟨q3,o2 q23,fun g=>⟨o3 (.inr g),q5 g⟩⟩
 ·obtain⟨h1,h2⟩:=hy.hc h
  obtain⟨h3,h4⟩:=h2 ok
  rw[zen ne,zed,zed,h1]
  exact⟨h3,h4⟩
 ·rw[zed]at h;exact absurd h r2
 ·rw[zed];exact r3
theorem ΦS.up{b':Nat}{p:Ep}{y:So}(h:ΦS b c p s m y)(hb:b<=b'):ΦS b' c p s m y:=⟨h.hx,h.hs.le (by omega),h.hn,h.ho,h.hj⟩
end
abbrev g106(a0:Mp)(a1:Fk)(k:V):V:=U (∀(i:Nat),upto (i64.wrap ((↑a0.n:Int)-O 1)).toNat a1.ll i<=a1.lc i/\upto (i64.wrap ((↑a0.n:Int)-O 1)).toNat a1.ll i<=upto a0.n a1.ll i) (nN [(1,.pf (∀(i e:Nat),e<upto (i64.wrap ((↑a0.n:Int)-O 1)).toNat a1.ll i->a1.ld i e=a1.ld i e) (by intros;rfl))] k)
abbrev g5(a0:Mp)(a1:Fk)(l:LP):LP:=qF a0.n a1.d::qF a0.n a1.i::l
abbrev g172(a0:Mp)(a1:Fk)(l:LP):LP:=(1,.pf (∀(e:Nat),e<(i64.wrap ((↑a0.n:Int)-O 1)).toNat->a1.kd e=a1.kd e) (by intros;rfl))::(1,.pf (∀(e:Nat),e<(i64.wrap ((↑a0.n:Int)-O 1)).toNat->a1.ln e=a1.ln e) (by intros;rfl))::l
abbrev g173(a0:Mp)(a1:Fk)(l:LP):LP:=(1,.pf (∀(e:Nat),e<(i64.wrap ((↑a0.n:Int)-O 1)).toNat->a1.qt e=a1.qt e) (by intros;rfl))::(1,.pf (∀(e:Nat),e<(i64.wrap ((↑a0.n:Int)-O 1)).toNat->a1.qb e=a1.qb e) (by intros;rfl))::l
abbrev g174(a0:Mp)(a1:Fk)(l:LP):LP:=(1,.pf (∀(e:Nat),e<(i64.wrap ((↑a0.n:Int)-O 1)).toNat->a1.qr e=a1.qr e) (by intros;rfl))::(1,.pf (∀(e:Nat),e<(i64.wrap ((↑a0.n:Int)-O 1)).toNat->a1.qc e=a1.qc e) (by intros;rfl))::l
abbrev g176(a0:Mp)(a1:Fk)(l:LP):LP:=(1,.pf (∀(e:Nat),e<(i64.wrap ((↑a0.n:Int)-O 1)).toNat->a1.a e=a1.a e) (by intros;rfl))::(1,.pf (∀(e:Nat),e<(i64.wrap ((↑a0.n:Int)-O 1)).toNat->a1.b e=a1.b e) (by intros;rfl))::l
abbrev g177(a0:Mp)(a1:Fk)(l:LP):LP:=(1,.pf (∀(e:Nat),e<(i64.wrap ((↑a0.n:Int)-O 1)).toNat->a1.d e=a1.d e) (by intros;rfl))::(1,.pf (∀(e:Nat),e<(i64.wrap ((↑a0.n:Int)-O 1)).toNat->a1.i e=a1.i e) (by intros;rfl))::l
abbrev g178(a0:Mp)(a1:Fk)(l:LP):LP:=(1,.pf (∀(e:Nat),e<(i64.wrap ((↑a0.n:Int)-O 1)).toNat->a1.j e=a1.j e) (by intros;rfl))::(1,.pf (∀(e:Nat),e<(i64.wrap ((↑a0.n:Int)-O 1)).toNat->a1.n e=a1.n e) (by intros;rfl))::l
abbrev g179(a0:Mp)(a1:Fk)(l:LP):LP:=(1,.pf (∀(e:Nat),e<(i64.wrap ((↑a0.n:Int)-O 1)).toNat->a1.t e=a1.t e) (by intros;rfl))::(1,.pf (∀(e:Nat),e<(i64.wrap ((↑a0.n:Int)-O 1)).toNat->a1.u e=a1.u e) (by intros;rfl))::l
abbrev g180(a0:Mp)(a1:Fk)(l:LP):LP:=(1,.pf (∀(e:Nat),e<(i64.wrap ((↑a0.n:Int)-O 1)).toNat->a1.v e=a1.v e) (by intros;rfl))::(1,.pf (∀(e:Nat),e<(i64.wrap ((↑a0.n:Int)-O 1)).toNat->a1.w e=a1.w e) (by intros;rfl))::l
abbrev g194(a0:Mp)(a1:Fk)(l:LP):LP:=(1,.pf (∀(e:Nat),e<(i64.wrap ((↑a0.n:Int)-O 1)).toNat->a1.x e=a1.x e) (by intros;rfl))::(1,.pf (∀(e:Nat),e<(i64.wrap ((↑a0.n:Int)-O 1)).toNat->e=e) (by intros;rfl))::l
abbrev g8(a0:Mp)(a1:Fk)(l:LP):LP:=qF a0.n a1.qt::qF a0.n a1.qb::qF a0.n a1.qr::qF a0.n a1.qc::qF a0.n a1.a::qF a0.n a1.b::l
abbrev g239(a0:Mp)(k:V):V:=U (a0.n<=a0.n/\a0.fc=a0.fc) (U (a0.n+1<=9223372036854775807/\(a0.n+1)*160<=140737488355328) k)
abbrev g9(a0:Mp)(a1:Fk)(k:V):V:=nN [qF a0.n a1.n,qF a0.n a1.t,qF a0.n a1.u,qF a0.n a1.v,qF a0.n a1.w,qF a0.n a1.x,qF a0.n (fun (e:Nat)=>e),qF a0.n a1.ll,qF a0.n a1.lc] (U (∀(i:Nat),a1.lc i=a1.lc i\/a1.lc i=0) (U (∀(i:Nat),upto a0.n a1.ll i<=a1.lc i/\upto a0.n a1.ll i<=upto a0.n a1.ll i) (nN [(1,.pf (∀(i e:Nat),e<upto a0.n a1.ll i->a1.ld i e=a1.ld i e) (by intros;rfl))] k)))
abbrev g278(a0:Mp)(k:V):V:=nN [(2,.lt2 0 1 0 1)] (U (True/\∀(i e:Nat),i=0/\e<a0.n+1->¬(i=0/\e=a0.n)->e≠a0.n) k)
abbrev g307(a0:Mp)(k:V):V:=nN [qE a0.fc] (U ((i64.wrap ((↑a0.n:Int)-O 1)).toNat<=a0.n) k)
abbrev g330(a0:Mp)(a1:Fk)(k:V):V:=nN [(1,.pf (∀(e:Nat),e<(i64.wrap ((↑a0.n:Int)-O 1)).toNat->a1.ll e=a1.ll e) (by intros;rfl)),(1,.pf (∀(e:Nat),e<(i64.wrap ((↑a0.n:Int)-O 1)).toNat->a1.lc e=a1.lc e) (by intros;rfl))] (U (∀(i:Nat),a1.lc i=a1.lc i\/a1.lc i=0) k)
abbrev g363(a0:Mp)(k:V):V:=U (O 0<=i64.wrap ((↑a0.n:Int)-O 1)/\i64.wrap ((↑a0.n:Int)-O 1)<(↑a0.n:Int)) (U (0<1/\0+(i64.wrap ((↑a0.n:Int)-O 1)).toNat<a0.n) (nN [qE (0+(i64.wrap ((↑a0.n:Int)-O 1)).toNat)] k))
abbrev g20(a0:Mp)(l:LP):LP:=qE a0.over::qE a0.code::qE a0.value::l
abbrev g23(a0:Mp)(l:LP):LP:=qE a0.fc::g20 a0 l
abbrev g26(a0:Mp)(l:LP):LP:=qE a0.fc::qL a0.n::l
abbrev g27(a0:Mp)(a1:Fk)(k:V):V:=nN (g26 a0 (qF a0.n a1.kd::qF a0.n a1.ln::g8 a0 a1 (g5 a0 a1 [qF a0.n a1.j]))) (g9 a0 a1 k)
abbrev g28(a0:Mp)(l:LP):LP:=qE a0.n::g23 a0 l
theorem vSt_eq(c:Cf)(p:Ep)(s:Es)(m:Mp)(I1:Es×Mp->Prop)(I2:(Es×Mp)×(Bool×Int×Int)->Prop)(Φ:So->Prop):V.pr .z (vSt c p s m I1 I2 Φ)=
 zj m.over (U (Φ (So.mk s m true)) (nN [qE true] (g55 c p s.m s s.x (g27 m s.f (nN (g47 s (g28 m [])) zw))))) (U (I1 (s,m)) (g55 c p s.m s s.x (g27 m s.f (nN (g47 s (g28 m [])) (ze (Es×Mp) I1 fun y0=>nN [(6,.lt2 0 1 0 1)] (g363 y0.snd (g55 c p y0.fst.m y0.fst y0.fst.x (g27 y0.snd y0.fst.f (nN (g47 y0.fst (g71 c [])) (U (En.preN c (Ep.mk p.n p.cap p.rc y0.snd.n y0.snd.fc) y0.fst (0+(i64.wrap ((↑y0.snd.n:Int)-O 1)).toNat)) (zj (za6 y0.fst (0+(i64.wrap ((↑y0.snd.n:Int)-O 1)).toNat)) (nA (fun (x:Int×Int×Nat)=>1<=x.snd.snd) fun y1=>nN [(39,.lt2 0 1 0 1)] (g239 y0.snd (ze Nat (fun (x_2:Nat)=>y0.snd.n+1<=x_2) fun y2=>g278 y0.snd (U (I1 ({ y0.fst with f:=Fk.mk (aN y0.snd.n (O 24) y0.fst.f.kd) (aN y0.snd.n (O 1) y0.fst.f.ln) (aN y0.snd.n (O 0) y0.fst.f.qt) (aN y0.snd.n (O 0) y0.fst.f.qb) (aN y0.snd.n (O 0) y0.fst.f.qr) (aN y0.snd.n (O 0) y0.fst.f.qc) (aN y0.snd.n y1.fst y0.fst.f.a) (aN y0.snd.n y1.snd.fst y0.fst.f.b) (aN y0.snd.n (O 0) y0.fst.f.d) (aN y0.snd.n (O 0) y0.fst.f.i) (aN y0.snd.n (O 0) y0.fst.f.j) (aN y0.snd.n (O 0) y0.fst.f.n) (aN y0.snd.n (O 0) y0.fst.f.t) (aN y0.snd.n (O 0) y0.fst.f.u) (aN y0.snd.n (O 0) y0.fst.f.v) (aN y0.snd.n (O 0) y0.fst.f.w) (aN y0.snd.n (O 0) y0.fst.f.x) (aN y0.snd.n 1 y0.fst.f.ll) (aN y0.snd.n y1.snd.snd y0.fst.f.lc) fun (i e:Nat)=>if i=y0.snd.n then y1.snd.fst else y0.fst.f.ld i e },{ y0.snd with n:=y0.snd.n+1,fc:=y2 })) (U (6-(y0.snd.n+1)<6-y0.snd.n) (g55 c p y0.fst.m y0.fst y0.fst.x (nN [qE y2] (U (y0.snd.n+1<=y0.snd.n+1) (nN [qF (y0.snd.n+1) (aN y0.snd.n (O 24) y0.fst.f.kd),qF (y0.snd.n+1) (aN y0.snd.n (O 1) y0.fst.f.ln),qF (y0.snd.n+1) (aN y0.snd.n (O 0) y0.fst.f.qt),qF (y0.snd.n+1) (aN y0.snd.n (O 0) y0.fst.f.qb),qF (y0.snd.n+1) (aN y0.snd.n (O 0) y0.fst.f.qr),qF (y0.snd.n+1) (aN y0.snd.n (O 0) y0.fst.f.qc),qF (y0.snd.n+1) (aN y0.snd.n y1.fst y0.fst.f.a),qF (y0.snd.n+1) (aN y0.snd.n y1.snd.fst y0.fst.f.b),qF (y0.snd.n+1) (aN y0.snd.n (O 0) y0.fst.f.d),qF (y0.snd.n+1) (aN y0.snd.n (O 0) y0.fst.f.i),qF (y0.snd.n+1) (aN y0.snd.n (O 0) y0.fst.f.j),qF (y0.snd.n+1) (aN y0.snd.n (O 0) y0.fst.f.n),qF (y0.snd.n+1) (aN y0.snd.n (O 0) y0.fst.f.t),qF (y0.snd.n+1) (aN y0.snd.n (O 0) y0.fst.f.u),qF (y0.snd.n+1) (aN y0.snd.n (O 0) y0.fst.f.v),qF (y0.snd.n+1) (aN y0.snd.n (O 0) y0.fst.f.w),qF (y0.snd.n+1) (aN y0.snd.n (O 0) y0.fst.f.x),(1,.pf (∀(e:Nat),e<y0.snd.n+1->e=e) (by intros;rfl)),qF (y0.snd.n+1) (aN y0.snd.n 1 y0.fst.f.ll),qF (y0.snd.n+1) (aN y0.snd.n y1.snd.snd y0.fst.f.lc)] (U (∀(i:Nat),((if i=y0.snd.n then y1.snd.snd else y0.fst.f.lc i)=if 0=0/\i=y0.snd.n then y1.snd.snd else y0.fst.f.lc i)\/(if 0=0/\i=y0.snd.n then y1.snd.snd else y0.fst.f.lc i)=0) (U (∀(i:Nat),(upto (y0.snd.n+1) (aN y0.snd.n 1 y0.fst.f.ll) i<=if 0=0/\i=y0.snd.n then y1.snd.snd else y0.fst.f.lc i)/\upto (y0.snd.n+1) (aN y0.snd.n 1 y0.fst.f.ll) i<=if i=y0.snd.n then 1 else upto y0.snd.n y0.fst.f.ll i) (U (∀(i e:Nat),e<upto (y0.snd.n+1) (aN y0.snd.n 1 y0.fst.f.ll) i->(if i=y0.snd.n then y1.snd.fst else y0.fst.f.ld i e)=if i=y0.snd.n then y1.snd.fst else y0.fst.f.ld i e) (nN (g47 y0.fst (qE (y0.snd.n+1)::qE y2::g20 y0.snd [])) zw))))))))))))) (nA (ΦN c y0.fst (0+(i64.wrap ((↑y0.snd.n:Int)-O 1)).toNat)) fun y1=>zj (!y1.ok) (nN [(6,.lt2 0 1 0 1)] (g363 y0.snd (g55 c p y0.fst.m y0.fst y0.fst.x (nN (g26 y0.snd (qF y0.snd.n y0.fst.f.kd::qF y0.snd.n (aN (0+(i64.wrap ((↑y0.snd.n:Int)-O 1)).toNat) y1.y.fst y0.fst.f.ln)::g8 y0.snd y0.fst.f (g5 y0.snd y0.fst.f [qF y0.snd.n (aN (0+(i64.wrap ((↑y0.snd.n:Int)-O 1)).toNat) y1.y.snd y0.fst.f.j)]))) (g9 y0.snd y0.fst.f (nN (g47 y0.fst (g71 c [])) (U (preL c (Ep.mk p.n p.cap p.rc y0.snd.n y0.snd.fc) { y0.fst with f:={ y0.fst.f with ln:=aN (0+(i64.wrap ((↑y0.snd.n:Int)-O 1)).toNat) y1.y.fst y0.fst.f.ln,j:=aN (0+(i64.wrap ((↑y0.snd.n:Int)-O 1)).toNat) y1.y.snd y0.fst.f.j }} (0+(i64.wrap ((↑y0.snd.n:Int)-O 1)).toNat)) (nA (ΦL c (Ep.mk p.n p.cap p.rc y0.snd.n y0.snd.fc) { y0.fst with f:={ y0.fst.f with ln:=aN (0+(i64.wrap ((↑y0.snd.n:Int)-O 1)).toNat) y1.y.fst y0.fst.f.ln,j:=aN (0+(i64.wrap ((↑y0.snd.n:Int)-O 1)).toNat) y1.y.snd y0.fst.f.j }} (0+(i64.wrap ((↑y0.snd.n:Int)-O 1)).toNat)) fun y2=>U (I2 ((y2.s,y0.snd),y2.done,y2.code,y2.value)) (nN (qE y2.done::g128 y2 []) (g55 c p y2.s.m y2.s y2.s.x (g27 y0.snd y2.s.f (nN (g47 y2.s (g28 y0.snd [])) (ze ((Es×Mp)×Bool×Int×Int) I2 fun y3=>zj y3.snd.fst (nN [(6,.lt2 0 1 0 1)] (U (O 0<=O 0/\O 0<=i64.wrap ((↑y3.fst.snd.n:Int)-O 1)/\i64.wrap ((↑y3.fst.snd.n:Int)-O 1)<=(↑y3.fst.snd.fc:Int)) (nN [(2,.lt2 0 1 0 1)] (zj ((↑(i64.wrap ((↑y3.fst.snd.n:Int)-O 1)).toNat:Int) == O 0) (nN [(10,.lt2 0 1 0 1)] (U (Φ (So.mk y3.fst.fst (Mp.mk (i64.wrap ((↑y3.fst.snd.n:Int)-O 1)).toNat y3.fst.snd.fc true y3.snd.snd.fst y3.snd.snd.snd) true)) (nN [qE true] (g55 c p y3.fst.fst.m y3.fst.fst y3.fst.fst.x (g307 y3.fst.snd (nN (g172 y3.fst.snd y3.fst.fst.f (g173 y3.fst.snd y3.fst.fst.f (g174 y3.fst.snd y3.fst.fst.f (g176 y3.fst.snd y3.fst.fst.f (g177 y3.fst.snd y3.fst.fst.f (g178 y3.fst.snd y3.fst.fst.f (g179 y3.fst.snd y3.fst.fst.f (g180 y3.fst.snd y3.fst.fst.f (g194 y3.fst.snd y3.fst.fst.f []))))))))) (g330 y3.fst.snd y3.fst.fst.f (g106 y3.fst.snd y3.fst.fst.f (nN (g47 y3.fst.fst [qE ((i64.wrap ((↑y3.fst.snd.n:Int)-O 1)).toNat),qE y3.fst.snd.fc,qE true,qE y3.snd.snd.fst,qE y3.snd.snd.snd]) zw))))))))) (nN [(6,.lt2 0 1 0 1)] (U (O 0<=i64.wrap ((↑(i64.wrap ((↑y3.fst.snd.n:Int)-O 1)).toNat:Int)-O 1)/\i64.wrap ((↑(i64.wrap ((↑y3.fst.snd.n:Int)-O 1)).toNat:Int)-O 1)<(↑(i64.wrap ((↑y3.fst.snd.n:Int)-O 1)).toNat:Int)) (U (0<1/\0+(i64.wrap ((↑(i64.wrap ((↑y3.fst.snd.n:Int)-O 1)).toNat:Int)-O 1)).toNat<y3.fst.snd.n) (nN [(4,.lt2 0 1 0 1),qE (0+(i64.wrap ((↑(i64.wrap ((↑y3.fst.snd.n:Int)-O 1)).toNat:Int)-O 1)).toNat),qE y3.snd.snd.fst,qE y3.snd.snd.snd] (g55 c p y3.fst.fst.m y3.fst.fst y3.fst.fst.x (g27 y3.fst.snd y3.fst.fst.f (nN (g47 y3.fst.fst (g71 c [])) (U (preK c (Ep.mk p.n p.cap p.rc y3.fst.snd.n y3.fst.snd.fc) y3.fst.fst (0+(i64.wrap ((↑(i64.wrap ((↑y3.fst.snd.n:Int)-O 1)).toNat:Int)-O 1)).toNat) y3.snd.snd.fst y3.snd.snd.snd) (nA (ΦK c (Ep.mk p.n p.cap p.rc y3.fst.snd.n y3.fst.snd.fc) y3.fst.fst (0+(i64.wrap ((↑(i64.wrap ((↑y3.fst.snd.n:Int)-O 1)).toNat:Int)-O 1)).toNat)) fun y4=>U (I2 ((y4.s,{ y3.fst.snd with n:=(i64.wrap ((↑y3.fst.snd.n:Int)-O 1)).toNat }),y4.done,y4.code,y4.value)) (U ((i64.wrap ((↑y3.fst.snd.n:Int)-O 1)).toNat<y3.fst.snd.n) (nN (qE y4.done::g128 y4 []) (g55 c p y4.s.m y4.s y4.s.x (g307 y3.fst.snd (nN (g172 y3.fst.snd y4.s.f (g173 y3.fst.snd y4.s.f (g174 y3.fst.snd y4.s.f (g176 y3.fst.snd y4.s.f (g177 y3.fst.snd y4.s.f (g178 y3.fst.snd y4.s.f (g179 y3.fst.snd y4.s.f (g180 y3.fst.snd y4.s.f (g194 y3.fst.snd y4.s.f []))))))))) (g330 y3.fst.snd y4.s.f (g106 y3.fst.snd y4.s.f (nN (g47 y4.s (qE ((i64.wrap ((↑y3.fst.snd.n:Int)-O 1)).toNat)::g23 y3.fst.snd [])) zw))))))))))))))))))))) (U (Φ (So.mk y3.fst.fst y3.fst.snd false)) (nN [qE false] (g55 c p y3.fst.fst.m y3.fst.fst y3.fst.fst.x (g27 y3.fst.snd y3.fst.fst.f (nN (g47 y3.fst.fst (g28 y3.fst.snd [])) zw)))))))))))))))))) (nN [(39,.lt2 0 1 0 1)] (g239 y0.snd (ze Nat (fun (x_2:Nat)=>y0.snd.n+1<=x_2) fun y2=>g278 y0.snd (U (I1 ({ y0.fst with f:=Fk.mk (aN y0.snd.n y1.r.kd y0.fst.f.kd) (aN y0.snd.n (O 1) (aN (0+(i64.wrap ((↑y0.snd.n:Int)-O 1)).toNat) y1.y.fst y0.fst.f.ln)) (aN y0.snd.n y1.r.qt y0.fst.f.qt) (aN y0.snd.n y1.r.qb y0.fst.f.qb) (aN y0.snd.n y1.r.qr y0.fst.f.qr) (aN y0.snd.n y1.r.qc y0.fst.f.qc) (aN y0.snd.n y1.r.a y0.fst.f.a) (aN y0.snd.n y1.r.b y0.fst.f.b) (aN y0.snd.n y1.r.d y0.fst.f.d) (aN y0.snd.n y1.r.i y0.fst.f.i) (aN y0.snd.n y1.r.j (aN (0+(i64.wrap ((↑y0.snd.n:Int)-O 1)).toNat) y1.y.snd y0.fst.f.j)) (aN y0.snd.n y1.r.n y0.fst.f.n) (aN y0.snd.n y1.r.t y0.fst.f.t) (aN y0.snd.n y1.r.u y0.fst.f.u) (aN y0.snd.n y1.r.v y0.fst.f.v) (aN y0.snd.n y1.r.w y0.fst.f.w) (aN y0.snd.n y1.r.x y0.fst.f.x) (aN y0.snd.n 0 y0.fst.f.ll) (aN y0.snd.n 0 y0.fst.f.lc) fun (i e:Nat)=>if i=y0.snd.n then O 0 else y0.fst.f.ld i e },{ y0.snd with n:=y0.snd.n+1,fc:=y2 })) (U (6-(y0.snd.n+1)<6-y0.snd.n) (g55 c p y0.fst.m y0.fst y0.fst.x (nN [qE y2] (U (y0.snd.n+1<=y0.snd.n+1) (nN [qF (y0.snd.n+1) (aN y0.snd.n y1.r.kd y0.fst.f.kd),qF (y0.snd.n+1) (aN y0.snd.n (O 1) (aN (0+(i64.wrap ((↑y0.snd.n:Int)-O 1)).toNat) y1.y.fst y0.fst.f.ln)),qF (y0.snd.n+1) (aN y0.snd.n y1.r.qt y0.fst.f.qt),qF (y0.snd.n+1) (aN y0.snd.n y1.r.qb y0.fst.f.qb),qF (y0.snd.n+1) (aN y0.snd.n y1.r.qr y0.fst.f.qr),qF (y0.snd.n+1) (aN y0.snd.n y1.r.qc y0.fst.f.qc),qF (y0.snd.n+1) (aN y0.snd.n y1.r.a y0.fst.f.a),qF (y0.snd.n+1) (aN y0.snd.n y1.r.b y0.fst.f.b),qF (y0.snd.n+1) (aN y0.snd.n y1.r.d y0.fst.f.d),qF (y0.snd.n+1) (aN y0.snd.n y1.r.i y0.fst.f.i),qF (y0.snd.n+1) (aN y0.snd.n y1.r.j (aN (0+(i64.wrap ((↑y0.snd.n:Int)-O 1)).toNat) y1.y.snd y0.fst.f.j)),qF (y0.snd.n+1) (aN y0.snd.n y1.r.n y0.fst.f.n),qF (y0.snd.n+1) (aN y0.snd.n y1.r.t y0.fst.f.t),qF (y0.snd.n+1) (aN y0.snd.n y1.r.u y0.fst.f.u),qF (y0.snd.n+1) (aN y0.snd.n y1.r.v y0.fst.f.v),qF (y0.snd.n+1) (aN y0.snd.n y1.r.w y0.fst.f.w),qF (y0.snd.n+1) (aN y0.snd.n y1.r.x y0.fst.f.x),(1,.pf (∀(e:Nat),e<y0.snd.n+1->e=e) (by intros;rfl)),qF (y0.snd.n+1) (aN y0.snd.n 0 y0.fst.f.ll),qF (y0.snd.n+1) (aN y0.snd.n 0 y0.fst.f.lc)] (U (∀(i:Nat),((if i=y0.snd.n then 0 else y0.fst.f.lc i)=if 0=0/\i=y0.snd.n then 0 else y0.fst.f.lc i)\/(if 0=0/\i=y0.snd.n then 0 else y0.fst.f.lc i)=0) (U (∀(i:Nat),(upto (y0.snd.n+1) (aN y0.snd.n 0 y0.fst.f.ll) i<=if 0=0/\i=y0.snd.n then 0 else y0.fst.f.lc i)/\upto (y0.snd.n+1) (aN y0.snd.n 0 y0.fst.f.ll) i<=if i=y0.snd.n then 0 else upto y0.snd.n y0.fst.f.ll i) (U (∀(i e:Nat),e<upto (y0.snd.n+1) (aN y0.snd.n 0 y0.fst.f.ll) i->(if i=y0.snd.n then O 0 else y0.fst.f.ld i e)=if i=y0.snd.n then O 0 else y0.fst.f.ld i e) (nN (g47 y0.fst (qE (y0.snd.n+1)::qE y2::g20 y0.snd [])) zw))))))))))))))))))))))))):=by kernel_rfl
theorem vhSt{b:Nat}{c:Cf}{p:Ep}{s:Es}{m:Mp}{Φ:So->Prop}(h:preS b c p s m)(hΦ:∀x,ΦS b c p s m x->Φ x):zad (vSt c p s m (I1 b c p s) (I2 b c p s) Φ):=by
 obtain⟨hY,hC,hU,hb,hs,hm⟩:=h
 have hb9:b<=900000:=by omega
 refine zad.pr (vSt_eq ..) ?_
 (with_reducible repeat' first|exact zk|refine zn ?_|refine zm ?_|refine zl ?_ ?_|refine zi ?_|refine nN_h rfl ?_|refine z9 ?_ ?_|intro _)
 all_goals first
  | rfl
  | exact .inl rfl
  | exact .inl if_z
  | exact⟨Z _,rfl⟩
  | exact Z _
  | exact lv_3
  | exact one_j
  | exact up_f (Z _) (okE.lc hs) _
  | exact⟨(0,0,1),Z _⟩
  | skip
 ·rename_i ho
  exact hΦ _ (S_over hs ho)
 ·rename_i ho i
  exact okE.ka hs i
 ·rename_i ho i
  exact okE.la hs i
 ·rename_i ho
  exact I1_0 hs hm ho
 ·rename_i ho i
  exact okE.ka hs i
 ·rename_i ho i
  exact okE.la hs i
 ·rename_i ho x hx
  exact I1.r hx
 ·rename_i ho x hx
  exact I1.l hx
 ·rename_i ho x hx i
  exact okE.ka hx.hs i
 ·rename_i ho x hx i
  exact okE.la hx.hs i
 ·rename_i ho x hx
  exact I1.N hx hY hC hb9
 ·rename_i ho x hx hr z hz
  exact I1.mx hx
 ·rename_i ho x hx hr z hz fc hfc
  exact I1_run hx hb.1 hx.i hr hz hfc rfl
 ·rename_i ho x hx hr z hz fc hfc
  exact I1.mu hx
 ·rename_i ho x hx hr z hz fc hfc i
  exact okE.ka hx.hs i
 ·rename_i ho x hx hr z hz fc hfc i
  exact up_f hz (okE.lc hx.hs) i
 ·rename_i ho x hx hr
  exact exN (Z _)
 ·rename_i ho x hx hr y hy hok
  exact I1.r hx
 ·rename_i ho x hx hr y hy hok
  exact I1.l hx
 ·rename_i ho x hx hr y hy hok i
  exact okE.ka hx.hs i
 ·rename_i ho x hx hr y hy hok i
  exact okE.la hx.hs i
 ·rename_i ho x hx hr y hy hok
  exact L_of hx hx.i hY hb9 hy hok
 ·rename_i ho x hx hr y hy hok
  exact exL (L_of hx hx.i hY hb9 hy hok)
 ·rename_i ho x hx hr y hy hok w hw
  exact I2_leaf hx hx.i hb.2 hy hok hw
 ·rename_i ho x hx hr y hy hok w hw i
  exact okQ.ka (ΦL.q hw) i
 ·rename_i ho x hx hr y hy hok w hw i
  exact okQ.la (ΦL.q hw) i
 ·rename_i ho x hx hr y hy hok w hw z hz hd
  exact I2.s3 hz
 ·rename_i ho x hx hr y hy hok w hw z hz hd he
  exact hΦ _ (S_end hz ho hz.w)
 ·rename_i ho x hx hr y hy hok w hw z hz hd he i
  exact okE.ka hz.hs i
 ·rename_i ho x hx hr y hy hok w hw z hz hd he
  exact I2.le hz
 ·rename_i ho x hx hr y hy hok w hw z hz hd he i
  exact up_d (I2.le hz) (okE.lc hz.hs) i
 ·rename_i ho x hx hr y hy hok w hw z hz hd he
  exact I2.rg hz (I2.n2 hz he)
 ·rename_i ho x hx hr y hy hok w hw z hz hd he
  exact I2.l hz (I2.n2 hz he)
 ·rename_i ho x hx hr y hy hok w hw z hz hd he i
  exact okE.ka hz.hs i
 ·rename_i ho x hx hr y hy hok w hw z hz hd he i
  exact okE.la hz.hs i
 ·rename_i ho x hx hr y hy hok w hw z hz hd he
  exact K_of hz (I2.n2 hz he) hY hU hb.2 hd (I2.ix hz (I2.n2 hz he))
 ·rename_i ho x hx hr y hy hok w hw z hz hd he
  exact exK (K_of hz (I2.n2 hz he) hY hU hb.2 hd (I2.ix hz (I2.n2 hz he)))
 ·rename_i ho x hx hr y hy hok w hw z hz hd he w2 hw2
  exact I2_back hz (I2.n2 hz he) (I2.ix hz (I2.n2 hz he)) (I2.w hz) hw2
 ·rename_i ho x hx hr y hy hok w hw z hz hd he w2 hw2
  exact I2.lt hz
 ·rename_i ho x hx hr y hy hok w hw z hz hd he w2 hw2 i
  exact okQ.ka hw2.1.1 i
 ·rename_i ho x hx hr y hy hok w hw z hz hd he w2 hw2
  exact I2.le hz
 ·rename_i ho x hx hr y hy hok w hw z hz hd he w2 hw2 i
  exact up_d (I2.le hz) (okQ.lc hw2.1.1) i
 ·rename_i ho x hx hr y hy hok w hw z hz hd
  exact hΦ _ (S_on hz ho hd)
 ·rename_i ho x hx hr y hy hok w hw z hz hd i
  exact okE.ka hz.hs i
 ·rename_i ho x hx hr y hy hok w hw z hz hd i
  exact okE.la hz.hs i
 ·rename_i ho x hx hr y hy hok
  exact I1.mx hx
 ·rename_i ho x hx hr y hy hok fc hfc
  exact I1_fr hx hb.1 hx.i hy hok hfc rfl rfl
 ·rename_i ho x hx hr y hy hok fc hfc
  exact I1.mu hx
 ·rename_i ho x hx hr y hy hok fc hfc i
  exact okE.ka hx.hs i
 ·rename_i ho x hx hr y hy hok fc hfc i
  exact up_f (Z _) (okE.lc hx.hs) i
theorem ex_min{Q:Nat->Prop}(h:∃n,Q n):∃n,Q n/\∀k,Q k->n<=k:=by
 obtain⟨n,hn⟩:=h
 induction n using Nat.strongRecOn with
 | _ n ih=>
  by_cases g:∃k,k<n/\Q k
  ·obtain⟨k,hk,hq⟩:=g
   exact ih k hk hq
  ·exact⟨n,hn,fun k hk=>Nat.le_of_not_lt fun h=>g ⟨k,h,hk⟩⟩
def preTs(c:Cf)(p:Ep)(s:Es)(m:Mp):Prop:=∃b,preS b c p s m
def ΦTs(c:Cf)(p:Ep)(s:Es)(m:Mp)(x:So):Prop:=∀b,preS b c p s m->ΦS b c p s m x
theorem vhTs{c:Cf}{p:Ep}{s:Es}{m:Mp}(h:preTs c p s m):zad (vSt c p s m (I1 (Classical.epsilon fun n=>preS n c p s m/\∀k,preS k c p s m->n<=k) c p s) (I2 (Classical.epsilon fun n=>preS n c p s m/\∀k,preS k c p s m->n<=k) c p s) (ΦTs c p s m)):=by
 have hb:=Classical.epsilon_spec (ex_min h)
 exact vhSt hb.1 fun x hx b' hb'=>hx.up (hb.2 b' hb')
noncomputable section
def rdMpK(k:Nat)(h:HL):Option Mp:=match (find k h).map ownC with
 | some [some q,some b,some x,some y]=>match szC q,blC b,numC x,numC y with
  | some (n,fc),some b,some x,some y=>some ⟨n,fc,b,x,y⟩
  | _,_,_,_=>none
 | _=>none
def cSt:List SV->Hp->Out (SV×Hp):=fun args H=>match args with
 | [.c (.ptr km _ _ _ _),.c (.ptr ke _ _ _ _)]=>fN km fun km=>fN ke fun ke=>fN (scK (zax km 0 H.h)) fun kf=>match rdEp ke kf H.h,rdMpK km H.h with
  | some (c,p,s,σ),some m=>useP (σ++[km]) 11 argSt (s.hS c p m 7 6 9 8++hCk c) (.need (preTs c p s m) (.any So (ΦTs c p s m) fun x=>.leaf (.c (.bv x.b),⟨x.s.hS c p x.m 11 12 13 14,15,fun _=>True⟩))) args H
  | _,_=>.bad 488
 | _=>.bad 489
theorem cSt_ok:zab P gStep cSt:=zac fun args H=>by
 unfold cSt
 simp only[fN_eq]
 repeat' split
 all_goals first
  | exact .inl ⟨_,rfl⟩
  | exact .inr ⟨_,_,_,_,_,rfl,zae conSt_ok fun h=>vhTs h⟩
def drC(r:Int):Nat->Nat->Out (SV×Hp)
 | 0,j=>.leaf (.c (i6 (O j)),⟨[],0,fun _=>True⟩)
 | i+1,j=>.br (r == O j) (.leaf (.c (i6 (O j)),⟨[],0,fun _=>True⟩)) (drC r i (j+1))
theorem drC_h{r:Int}{K:SV×Hp->Prop}:∀(i j:Nat),(j:Int)<=r->r<=(j+i:Nat)->(drC r i j).holds K->(Out.leaf (.c (i6 r),⟨[],0,fun _=>True⟩)).holds K
 | 0,j,h1,h2,h=>by
  obtain rfl:r=O j:=by simp only[zz];omega
  exact h
 | i+1,j,h1,h2,h=>by
  unfold drC at h
  by_cases e:r=O j
  ·subst e
   exact h.1 (by simp)
  ·refine drC_h i (j+1) ?_ ?_ (h.2 (by simpa using e))
   ·simp only[zz]at e
    omega
   ·omega
def cDk:List SV->Hp->Out (SV×Hp):=fun args H=>match args with
 | [.c a,.c n]=>match numC a,numC n with
  | some a,some n=>useP [] 0 [iv a,iv n] [] (.need (1<=n/\n<=9223372036854775807) (.any Int (fun r=>0<=r/\r<n) fun r=>drC r (n.toNat-1) 0)) args H
  | _,_=>.bad 484
 | _=>.bad 485
theorem cDk_ok:zab P fDr cDk:=zac fun args H=>by
 unfold cDk
 repeat' split
 all_goals first|exact .inl ⟨_,rfl⟩|exact .inr ⟨_,_,_,_,_,rfl,(zae zaj.nil fun h=>vhDr h).mono fun K hK=>by
  obtain⟨⟨h1,h2⟩,-,h3⟩:=hK
  refine⟨h2,⟨_,rfl⟩,fun r e=>?_⟩
  subst e
  obtain⟨g1,g2⟩:=dr_bd (a:=_) h1
  exact drC_h _ 0 g1 (by omega) (h3 _ ⟨g1,g2⟩)⟩
end
structure Ma where
 f:Fk
 m:Mp
structure M5 where
 a0:Ma
 a1:Ma
 a2:Ma
 a3:Ma
 a4:Ma
structure Ee where
 m:Mm
 now:Int
 dr:Int
 x:Rk
 kc:Nat->Nat
 ne:Nat
 nc:Nat
 en:Int
 ns:Nat
 cs:Nat
 l0:Int
 l1:Int
 l2:Int
 l3:Int
end Go.Proofs.YtabiechfpefjhaaGreat.En
namespace Go.Proofs.YtabiechfpefjhaaGreat.Sx
open En
def at5(x:M5):Nat->Ma
 | 0=>x.a0
 | 1=>x.a1
 | 2=>x.a2
 | 3=>x.a3
 | _=>x.a4
def set5(x:M5)(a:Ma):Nat->M5
 | 0=>⟨a,x.a1,x.a2,x.a3,x.a4⟩
 | 1=>⟨x.a0,a,x.a2,x.a3,x.a4⟩
 | 2=>⟨x.a0,x.a1,a,x.a3,x.a4⟩
 | 3=>⟨x.a0,x.a1,x.a2,a,x.a4⟩
 | _=>⟨x.a0,x.a1,x.a2,x.a3,a⟩
end Go.Proofs.YtabiechfpefjhaaGreat.Sx
namespace Go.Proofs.YtabiechfpefjhaaGreat.En
open Go Go.RowKit Sx Cn Dc Ck Vc Md
def Ee.es(e:Ee)(f:Fk):Es:=⟨e.m,e.now,e.dr,e.x,e.kc,e.ne,e.nc,f⟩
noncomputable section
def Ee.rv(e:Ee)(c:Cf)(p:Ep):Rv:=⟨c,p.n,p.cap,e.m,e.now,e.dr,e.x.n,p.rc,e.ne,e.nc⟩
def Ee.eng(e:Ee)(ke km k cm ks:Nat):Blk:=.own tEn 8 ([.ptr ke (.k 0) (.k 0) 0 21,slK km 1 k cm,i6 e.en,slK ks 1 e.ns e.cs,i6 e.l0,i6 e.l1,uw e.l2,uw e.l3].map some)
def Ma.hl(a:Ma)(km kf kl:Nat):HL:=[(km,a.m.b kf),(kf,a.f.row kl a.m.n a.m.fc),(kl,a.f.fam a.m.n)]
def hMs(x:M5)(fk:Nat->Nat):Nat->Nat->HL
 | 0,_=>[]
 | i+1,j=>(at5 x j).hl (11+3*j) (fk j) (fk j+1)++hMs x fk i (j+1)
def ptM:Nat->Nat->List SC
 | 0,_=>[]
 | i+1,j=>.ptr (11+3*j) (.k 0) (.k 0) 0 4::ptM i (j+1)
def mV(k:Nat):Blk:=.view 1 (fun _=>k) [.ck (ptM k 0)]
def Ee.hD(e:Ee)(c:Cf)(p:Ep)(cm:Nat)(x:M5)(k ke kk ks:Nat)(fk:Nat->Nat):HL:=[(0,(e.rv c p).b 1 2 4 5 ke),(4,wRow p.cap p.n e.m),(5,e.x.row kk e.kc p.rc),(kk,e.x.fam e.x.n e.kc),(ke,evU e.ne e.nc),(8,e.eng 0 9 k cm ks),(ks,.row 3 e.cs e.ns [.cu])]++hMs x fk k 0
def fk0(j:Nat):Nat:=12+3*j
def fk1(n j:Nat):Nat:=n+2*j
def frK(j:Nat)(s:St):Nat:=scK (zax (11+3*j) 0 s.H.h)
def lsK(j:Nat)(s:St):Nat:=match rdFk (frK j s) s.H.h with
 | some (_,k)=>k
 | none=>0
def rdEe(h:HL):Option Ee:=match rdRv 0 h,(find 8 h).map ownC with
 | some (r,[_,_,_,_,k5,_]),some [_,_,some en,some st,some l0,some l1,some l2,some l3]=>match rdRk k5 r.rn h,numC en,szC st,numC l0,numC l1,numC l2,numC l3 with
  | some (x,_,kc),some en,some (ns,cs),some l0,some l1,some l2,some l3=>some ⟨r.m,r.now,r.dr,x,kc,r.ne,r.nc,en,ns,cs,l0,l1,l2,l3⟩
  | _,_,_,_,_,_,_=>none
 | _,_=>none
def rdMa(j:Nat)(h:HL):Option Ma:=match rdMpK (11+3*j) h,rdFk (scK (zax (11+3*j) 0 h)) h with
 | some m,some (f,_)=>some ⟨f,m⟩
 | _,_=>none
def rdM5(d:M5)(h:HL):Nat->Nat->Option M5
 | 0,_=>some d
 | i+1,j=>match rdMa j h,rdM5 d h i (j+1) with
  | some a,some x=>some (set5 x a j)
  | _,_=>none
def pthM:Nat->Nat->List ((St->Nat)×Bool)
 | 0,_=>[]
 | i+1,j=>(fun _=>11+3*j,true)::(frK j,false)::(lsK j,false)::pthM i (j+1)
def blkM(x:M5)(s:St):Nat->Nat->List Blk
 | 0,_=>[]
 | i+1,j=>(at5 x j).m.b (frK j s)::(at5 x j).f.row (lsK j s) (at5 x j).m.n (at5 x j).m.fc::(at5 x j).f.fam (at5 x j).m.n::blkM x s i (j+1)
def stK(s:St):Nat:=scK (zax 8 3 s.H.h)
structure Xd where
 e:Ee
 x:M5
def rdXd(d:M5)(k:Nat)(s:St):Option Xd:=match rdEe s.H.h,rdM5 d s.H.h k 0 with
 | some e,some x=>some ⟨e,x⟩
 | _,_=>none
def laD1(c:Cf)(p:Ep)(cm:Nat)(d:M5)(k:Nat)(I:Xd->Prop)(s:St):Option (LA Xd):=fN (renK 0 s) fun ke=>fN (kidN s) fun kk=>fN (stK s) fun ks=>
 some ⟨[(fun _=>0,true),(fun _=>4,true),(fun _=>5,true),(kidN,false),(renK 0,false),(fun _=>8,true),(stK,false)]++pthM k 0,
  fun y=>[(y.e.rv c p).b 1 2 4 5 ke,wRow p.cap p.n y.e.m,y.e.x.row kk y.e.kc p.rc,y.e.x.fam y.e.x.n y.e.kc,evU y.e.ne y.e.nc,y.e.eng 0 9 k cm ks,.row 3 y.e.cs y.e.ns [.cu]]++blkM y.x s k 0,[],fun _=>[],rdXd d k,I,fun _=>0⟩
def rdSt(s:St):Option (Nat×Nat):=match (find 8 s.H.h).map ownC with
 | some [_,_,_,some st,_,_,_,_]=>szC st
 | _=>none
def laD2(I:Nat->Nat×Nat->Prop)(s:St):Option (LA (Nat×Nat)):=fN (stK s) fun ks=>match find 8 s.H.h,rdEe s.H.h with
 | some (.own t sz cs),some e=>some ⟨[(fun _=>8,true),(stK,false)],fun q=>[.own t sz (cs.set 3 (some (slK ks 1 q.1 q.2))),.row 3 q.2 q.1 [.cu]],[],fun _=>[],rdSt,I e.ne,fun q=>e.ne-q.1⟩
 | _,_=>none
def fDo:FuncId:=32
def conDo:Con:=Con.add gStep cSt (Con.add fDr cDk con0)
theorem zgp:zaj P conDo:=.add cSt_ok (.add cDk_ok zaj.nil)
def argDo(a v:Int):List SV:=[.c (.ptr 8 (.k 0) (.k 0) 0 8),.a [i6 a,i6 v]]
def gsM:Nat->Nat->List (Nat×G)
 | 0,_=>[]
 | i+1,j=>(0,.ren (lsK j))::(0,.ren (frK j))::gsM i (j+1)
def LSm(H:Hp):Nat->Nat->List Nat
 | 0,_=>[]
 | i+1,j=>fN (scK (zax (11+3*j) 0 H.h)) fun kf=>(match rdFk kf H.h with
  | some (_,k)=>kf::k::LSm H i (j+1)
  | none=>[])
structure Xe where
 e:Ee
 x:M5
def rdXe(d:M5)(k:Nat)(s:SV)(H:Hp):Option Xe:=match rdEe H.h,rdM5 d H.h k 0 with
 | some e,some x=>some ⟨e,x⟩
 | _,_=>none
def LSe(k:Nat)(_:SV)(H:Hp):List Nat:=match kidK 5 H.h with
 | some (kk,_)=>scK (zax 0 20 H.h)::kk::scK (zax 8 3 H.h)::LSm H k 0
 | none=>[]
def vDo(c:Cf)(p:Ep)(cm:Nat)(e:Ee)(x:M5)(k:Nat)(a v:Int)(I1:Xd->Prop)(I2:Nat->Nat×Nat->Prop)(Φ:Xe->Prop):V:=verF P conDo 8 10 fDo ((0,.ren (renK 0))::(0,.ren kidN)::(0,.ren stK)::gsM k 0)
 (.cut 2009 Xd (laD1 c p cm x k I1) .nil (.loop (Nat×Nat) [] (laD2 I2) .nil .nil)) (argDo a v) ⟨e.hD c p cm x k 7 6 10 fk0++(9,mV k)::hCk c,11+3*k,fun _=>True⟩
 (finV (X:=Xe) (11+3*k) (14+5*k) (rdXe x k) (LSe k) Φ (fun _=>.t []) (fun y=>y.e.hD c p cm y.x k (11+3*k) (12+3*k) (13+3*k) (fk1 (14+3*k))))
end
structure okEe (b:Nat) (c:Cf) (e:Ee):Prop where
 m:okW e.m
 n:e.x.n=c.T.toNat
 kl:∀i,e.x.kl i<=b
 kc:∀i,i<e.x.n->e.x.kl i<=e.kc i
 ne:e.ne<=b
 nc:e.ne<=e.nc
 st:e.ns<=e.cs
 t0:0<=e.now
 t1:e.now<=(b:Int)
structure okMa (b:Nat) (c:Cf) (a:Ma):Prop where
 ll:∀e,a.f.ll e<=b
 lc:∀e,e<a.m.n->a.f.ll e<=a.f.lc e
 u:∀e,wd (a.f.u e)
 v:∀e,wd (a.f.v e)
 w:∀e,wd (a.f.w e)
 x:∀e,wd (a.f.x e)
 q:∀e,a.f.qc e<=9223372036854775807
 j:a.m.over=false->(∀s:Es,s.f=a.f->J c s a.m.n/\Tp c s (a.m.n-1))/\a.m.n<=a.m.fc
def okMs(b:Nat)(c:Cf)(k:Nat)(x:M5):Prop:=∀j,j<k->okMa b c (at5 x j)
structure preD (b:Nat) (c:Cf) (k:Nat) (e:Ee) (x:M5):Prop where
 hY:okY c
 hC:okC c
 hU:c.nU<=900000
 hb:1<=b/\b+24<=900000
 he:okEe b c e
 hM:okMs b c k x
def ΦD(b:Nat)(c:Cf)(k:Nat)(e:Ee)(x:M5):Prop:=okEe (b+24) c e/\okMs (b+24) c k x
section
variable {b b':Nat} {c:Cf} {p:Ep} {e:Ee} {a:Ma} {x:M5} {k:Nat} {y:So}
theorem okEe.le(h:okEe b c e)(hb:b<=b'):okEe b' c e:=⟨h.m,h.n,fun i=>zo (h.kl i) hb,h.kc,zo h.ne hb,h.nc,h.st,h.t0,by have:=h.t1;omega⟩
theorem okMa.le(h:okMa b c a)(hb:b<=b'):okMa b' c a:=⟨fun e=>zo (h.ll e) hb,h.lc,h.u,h.v,h.w,h.x,h.q,h.j⟩
theorem okMs.le(h:okMs b c k x)(hb:b<=b'):okMs b' c k x:=fun j hj=>(h j hj).le hb
theorem okEe.E(h:okEe b c e)(ha:okMa b c a):okE b c (p.to a.m) (e.es a.f):=⟨h.m,h.n,h.kl,h.kc,h.ne,h.nc,ha.ll,ha.lc,ha.u,ha.v,ha.w,ha.x,ha.q⟩
theorem okEe.ka(h:okEe b c e)(i:Nat):upto e.x.n e.x.kl i<=e.kc i/\upto e.x.n e.x.kl i<=upto e.x.n e.x.kl i:=up_d (Z _) h.kc i
theorem okMa.la(h:okMa b c a)(i:Nat):upto a.m.n a.f.ll i<=a.f.lc i/\upto a.m.n a.f.ll i<=upto a.m.n a.f.ll i:=up_d (Z _) h.lc i
theorem at_set(x:M5)(a:Ma){j i:Nat}(hj:j<=4)(hi:i<=4):at5 (set5 x a j) i=if i=j then a else at5 x i:=by
 have h1:j=0\/j=1\/j=2\/j=3\/j=4:=by omega
 have h2:i=0\/i=1\/i=2\/i=3\/i=4:=by omega
 rcases h1 with rfl|rfl|rfl|rfl|rfl<;>rcases h2 with rfl|rfl|rfl|rfl|rfl<;>rfl
theorem okMs.set(h:okMs b c k x)(hb:b<=b')(ha:okMa b' c a)(hk:k<=5)(j:Nat)(hj:j<=4):okMs b' c k (set5 x a j):=fun i hi=>by
 rw[at_set x a hj (by omega)]
 split
 ·exact ha
 ·exact(h i hi).le hb
theorem J.of_f{s s':Es}{n:Nat}(h:J c s n)(h12:2<=n->s.f.kd (n-1)≠12)(hf:s'.f=s.f):J c s' n:=by
 refine⟨h.n1,fun e he=>by rw[hf];exact h.ch e he,fun e he h4=>?_,fun e he h6=>by rw[hf]at h6 ⊢;exact h.bc e he h6⟩
 rw[hf]at h4 ⊢
 obtain⟨h1,h2,h3,h5⟩:=h.bw e he h4
 refine⟨h1,h2,h3,fun g=>?_⟩
 have h7:=(h5 g).2
 have:e+1=n-1:=by
  rcases Nat.lt_or_ge (e+2) n with g|g
  ·have h8:=h.ch (e+1) g
   have h9:=rk_pos (s.f.kd (e+1+1))
   rw[h7]at h8
   have:rk 12=1:=by decide
   omega
  ·omega
 rw[this]at h7
 exact absurd h7 (h12 (by omega))
theorem Tp.of_f{s s':Es}{n:Nat}(h:Tp c s n)(hf:s'.f=s.f):Tp c s' n:=⟨by rw[hf];exact h.hw,by rw[hf];exact h.hc⟩
theorem pre_of(hp:preD b c k e x)(ha:okMa b c a){q:Ep}:preS b c q (e.es a.f) a.m:=⟨hp.hY,hp.hC,hp.hU,hp.hb,hp.he.E ha,fun h=>⟨((ha.j h).1 _ rfl).1,((ha.j h).1 _ rfl).2,(ha.j h).2⟩⟩
theorem pre_ts(hp:preD b c k e x)(ha:okMa b c a){q:Ep}:preTs c q (e.es a.f) a.m:=⟨b,pre_of hp ha⟩
theorem exTs{q:Ep}{s:Es}{m:Mp}:∃y,ΦTs c q s m y:=by
 refine⟨⟨s,⟨m.n,m.fc,true,m.code,m.value⟩,true⟩,fun b hb=>⟨fun h=>⟨rfl,?_,rfl⟩,hb.hs.le (by omega),rfl,fun _=>rfl,fun h=>(by cases h)⟩⟩
 rw[<-h]
theorem stp(hp:preD b c k e x)(ha:okMa b c a){q:Ep}(hy:ΦTs c q (e.es a.f) a.m y):okEe (b+24) c ⟨y.s.m,y.s.now,y.s.dr,y.s.x,y.s.kc,y.s.ne,y.s.nc,e.en,e.ns,e.cs,e.l0,e.l1,e.l2,e.l3⟩/\okMa (b+24) c ⟨y.s.f,y.m⟩:=by
 have h:=hy b (pre_of hp ha)
 have hs:=h.hs
 have hn:y.s.now=e.now:=h.hn
 have t0:=hp.he.t0
 have t1:=hp.he.t1
 refine⟨⟨hs.m,hs.n,hs.kl,hs.kc,hs.ne,hs.nc,hp.he.st,?_,?_⟩,hs.ll,hs.lc,hs.u,hs.v,hs.w,hs.x,hs.q,fun ho=>?_⟩
 ·show 0<=y.s.now
  omega
 ·show y.s.now<=((b+24:Nat):Int)
  omega
 ·have hb:y.b=false:=by
   cases hb:y.b with
   | false=>rfl
   | true=>
    have:=h.ho hb
    rw[show y.m.over=false from ho]at this
    cases this
  obtain⟨h1,h2,h3,h4,h5⟩:=h.hj hb
  exact⟨fun s hs=>⟨h2.of_f h5 hs,h3.of_f hs⟩,h4⟩
theorem stp_e(hp:preD b c k e x)(ha:okMa b c a){q:Ep}(hy:ΦTs c q (e.es a.f) a.m y):(∀i,i<y.s.x.n->y.s.x.kl i<=y.s.kc i)/\∀i,i<y.m.n->y.s.f.ll i<=y.s.f.lc i:=⟨(stp hp ha hy).1.kc,(stp hp ha hy).2.lc⟩
theorem D_step(hp:preD b c k e x)(hk:k<=5){j:Nat}(hj:j<k){q:Ep}(hy:ΦTs c q (e.es (at5 x j).f) (at5 x j).m y):ΦD b c k ⟨y.s.m,y.s.now,y.s.dr,y.s.x,y.s.kc,y.s.ne,y.s.nc,e.en,e.ns,e.cs,e.l0,e.l1,e.l2,e.l3⟩ (set5 x ⟨y.s.f,y.m⟩ j):=
 ⟨(stp hp (hp.hM j hj) hy).1,hp.hM.set (by omega) (stp hp (hp.hM j hj) hy).2 hk j (by omega)⟩
theorem D_tick(hp:preD b c k e x):ΦD b c k ⟨e.m,i64.wrap (e.now+O 1),e.dr,e.x,e.kc,e.ne,e.nc,e.en,e.ns,e.cs,e.l0,e.l1,e.l2,e.l3⟩ x:=by
 have t0:=hp.he.t0
 have t1:=hp.he.t1
 have hb:=hp.hb
 have h:=hp.he.le (b':=b+24) (by omega)
 have e1:i64.wrap (e.now+O 1)=e.now+1:=w64 (by simp only[zz];omega)
 refine⟨⟨h.m,h.n,h.kl,h.kc,h.ne,h.nc,h.st,?_,?_⟩,hp.hM.le (by omega)⟩
 ·show 0<=i64.wrap _
  omega
 ·show i64.wrap _<=((b+24:Nat):Int)
  omega
theorem D_draw(hp:preD b c k e x){v:Int}:ΦD b c k ⟨e.m,e.now,v,e.x,e.kc,e.ne,e.nc,e.en,e.ns,e.cs,e.l0,e.l1,e.l2,e.l3⟩ x:=by
 have h:=hp.he.le (b':=b+24) (by omega)
 exact⟨⟨h.m,h.n,h.kl,h.kc,h.ne,h.nc,h.st,h.t0,h.t1⟩,hp.hM.le (by omega)⟩
theorem ΦD.same(hp:preD b c k e x):ΦD b c k e x:=⟨hp.he.le (by omega),hp.hM.le (by omega)⟩
theorem D_end(h:ΦD b c k e x){q:Nat×Nat}(hq:q.1<=q.2){x':M5}(hx:∀j,j<k->at5 x' j=at5 x j){en l0 l1 l2 l3:Int}:ΦD b c k ⟨e.m,e.now,e.dr,e.x,e.kc,e.ne,e.nc,en,q.1,q.2,l0,l1,l2,l3⟩ x':=⟨⟨h.1.m,h.1.n,h.1.kl,h.1.kc,h.1.ne,h.1.nc,hq,h.1.t0,h.1.t1⟩,fun j hj=>by rw[hx j hj];exact h.2 j hj⟩
theorem D_mx(hp:b+24<=900000)(h:ΦD b c k e x){n:Nat}(hn:decide ((n:Int)<(e.ne:Int))=true):n+1<=9223372036854775807/\(n+1)*8<=140737488355328:=by
 have h1:=h.1.ne
 have h2:=of_decide_eq_true hn
 omega
theorem D_mu{n:Nat}(hn:decide ((n:Int)<(e.ne:Int))=true):e.ne-(n+1)<e.ne-n:=by
 have h2:=of_decide_eq_true hn
 omega
end
abbrev g95(a0:Ee)(l:LP):LP:=qE a0.nc::qL a0.ne::l
abbrev g29(a0:Mp)(a1:Fk)(k:V):V:=nN (g28 a0 []) (g27 a0 a1 k)
abbrev g96(a0:Mp)(a1:Fk)(a2:Mp)(a3:Fk)(k:V):V:=g29 a0 a1 (g29 a2 a3 k)
abbrev g100(a0:Ee)(l:LP):LP:=qE a0.en::qE a0.ns::qE a0.cs::l
abbrev g3(a0:Ee)(a1:Rk)(k:V):V:=U (∀(i:Nat),a0.kc i=a0.kc i\/a0.kc i=0) (U (∀(i:Nat),upto a1.n a1.kl i<=a0.kc i/\upto a1.n a1.kl i<=upto a1.n a1.kl i) k)
abbrev g62(a0:Rk)(a1:Ee)(l:LP):LP:=qF a0.n a1.kc::qF a0.n a0.st::l
abbrev g115(a0:Rk)(a1:Ee)(k:V):V:=nN (g31 a0 (qF a0.n a0.wt::qF a0.n (fun (e_1:Nat)=>e_1)::qF a0.n a0.kl::g62 a0 a1 [])) (g3 a1 a0 (nN [(1,.pf (∀(i e_1:Nat),e_1<upto a0.n a0.kl i->a0.kd i e_1=a0.kd i e_1) (by intros;rfl))] k))
abbrev g117(a0:Rk)(a1:Ep)(a2:Ee)(l:LP):LP:=g37 a0 a1 (qE a2.ne::qE a2.nc::l)
abbrev g44(a0:Cf)(a1:Ep)(a2:Mp)(a3:Ee)(a4:Fk)(k:So->V):V:=U (preTs a0 (Ep.mk a1.n a1.cap a1.rc a2.n a2.fc) { a3 with f:=a4 } a2) (nA (ΦTs a0 (Ep.mk a1.n a1.cap a1.rc a2.n a2.fc) { a3 with f:=a4 } a2) fun v0=>k v0)
abbrev g130(a0:Cf)(a1:Ep)(a2:Mp)(a3:Ee)(a4:Fk)(a5:Xd->Prop)(a6:M5)(k:So->V):V:=g44 a0 a1 a2 a3 a4 fun v0=>U (a5 (Xd.mk { v0.s with en:=a3.en,ns:=a3.ns,cs:=a3.cs,l0:=a3.l0,l1:=a3.l1,l2:=a3.l2,l3:=a3.l3 } { a6 with a0:=Ma.mk v0.s.f v0.m })) (k v0)
abbrev g131(a0:Cf)(a1:Ep)(a2:Mp)(a3:Ee)(a4:Fk)(a5:Xd->Prop)(a6:M5)(k:So->V):V:=g44 a0 a1 a2 a3 a4 fun v0=>U (a5 (Xd.mk { v0.s with en:=a3.en,ns:=a3.ns,cs:=a3.cs,l0:=a3.l0,l1:=a3.l1,l2:=a3.l2,l3:=a3.l3 } { a6 with a1:=Ma.mk v0.s.f v0.m })) (k v0)
abbrev g118(a0:Cf)(a1:Ep)(a2:Mm)(a3:Ee)(a4:Rk)(l:LP):LP:=g34 a0 a1 a2 (qE a3.now::qE a3.dr::g117 a4 a1 a3 (g97 a1 a2 l))
abbrev g149(a0:Cf)(a1:Ep)(a2:Mm)(a3:Ee)(a4:Rk)(k:V):V:=nN (g118 a0 a1 a2 a3 a4 []) (g115 a4 a3 k)
abbrev g155(a0:Ee)(a1:Nat×Nat)(l:LP):LP:=qE (i64.wrap (a0.en+O 1))::qE a1.fst::l
abbrev g101(a0:Ee)(l:LP):LP:=qE a0.cs::qL a0.ns::l
abbrev g170(a0:Ee)(a1:Mp)(a2:Fk)(a3:Mp)(a4:Fk)(k:V):V:=nN (g100 a0 (qE a0.l0::qE a0.l1::qE a0.l2::qE a0.l3::g101 a0 [])) (g96 a1 a2 a3 a4 k)
abbrev g200(a0:Nat)(a1:Nat×Nat)(k:V):V:=nN [qE a0] (U (a1.fst+1<=a1.fst+1) k)
abbrev g202(l:LP):LP:=qE true::(3,.lt2 0 1 0 1)::l
abbrev g210(a0:Cf)(a1:Ep)(a2:Mm)(a3:Ee)(a4:Rk)(k:V):V:=nN (g118 a0 a1 a2 a3 a4 (g33 a4 (g62 a4 a3 []))) (g3 a3 a4 (nN ((1,.pf (∀(i e:Nat),e<upto a4.n a4.kl i->a4.kd i e=a4.kd i e) (by intros;rfl))::g95 a3 []) k))
abbrev g227(a0:Nat)(l:LP):LP:=(1,.eq 2 2)::qE a0::l
abbrev g234(a0:Xd->Prop)(a1:Ee)(a2:M5)(a3:Cf)(a4:Ep)(a5:Mm)(k:V):V:=U (a0 (Xd.mk { a1 with now:=i64.wrap (a1.now+O 1) } a2)) (nN (g34 a3 a4 a5 []) k)
abbrev g272(a0:Ee)(l:LP):LP:=qE (i64.wrap (a0.now+O 1))::qE a0.dr::l
abbrev g289(a0:Cf)(a1:Ep)(a2:Mm)(a3:Es)(a4:Rk)(k:V):V:=g55 a0 a1 a2 a3 a4 (nN (g47 a3 []) k)
abbrev g324(a0:Mp)(a1:Fk)(a2:Ee)(k:V):V:=g27 a0 a1 (nN (g95 a2 (g28 a0 [])) k)
abbrev g340(a0:Xd->Prop)(a1:Ee)(a2:Int)(a3:M5)(k:V):V:=nN [(7,.lt2 0 1 0 1)] (U (a0 (Xd.mk { a1 with dr:=a2 } a3)) k)
abbrev g371(a0:Ee)(a1:Nat×Nat)(l:LP):LP:=qE a0.en::qE (a1.fst+1)::l
abbrev g372(a0:Nat×Nat)(l:LP):LP:=qE a0.snd::qL a0.fst::l
abbrev g374(a0:Ee)(a1:Nat->Nat×Nat->Prop)(k:(Nat×Nat)->V):V:=nN (g101 a0 []) (ze (Nat×Nat) (a1 a0.ne) fun v0=>nN [(9,.lt2 0 1 0 1)] (k v0))
abbrev g379(a0:Nat×Nat)(a1:Nat->Nat×Nat->Prop)(a2:Ee)(k:Nat->V):V:=nN [(7,.lt2 0 1 0 1)] (U (a0.fst<=a0.fst/\a0.snd=a0.snd) (U (a0.fst+1<=9223372036854775807/\(a0.fst+1)*8<=140737488355328) (ze Nat (fun (x:Nat)=>a0.fst+1<=x) fun v0=>nN [(2,.lt2 0 1 0 1)] (U (a1 a2.ne (a0.fst+1,v0)) (U (a2.ne-(a0.fst+1)<a2.ne-a0.fst) (k v0))))))
theorem vDo2_eq(c:Cf)(p:Ep)(cm:Nat)(e:Ee)(x:M5)(a v:Int)(I1:Xd->Prop)(I2:Nat->Nat×Nat->Prop)(Φ:Xe->Prop):V.pr (.b (.b (.b (.t .z) (.f .z)) .z) .z) (vDo c p cm e x 2 a v I1 I2 Φ)=
 g149 c p e.m e e.x (nN (g95 e (g227 cm [])) (g170 e x.a0.m x.a0.f x.a1.m x.a1.f (ze Bool (fun (x:Bool)=>True) fun y0=>zj y0 (nN [(2,.lt2 0 1 0 1)] (zj (a == O 0) (nN [(8,.lt2 0 1 0 1),qE v,qE ((↑2:Int))] (U (O 1<=(↑2:Int)/\(↑2:Int)<=O 9223372036854775807) (nA (fun (r:Int)=>O 0<=r/\r<(↑2:Int)) fun y1=>zj (y1 == O 0) (U (O 0<=O 0/\O 0<(↑2:Int)) (nN ((2,.lt2 0 1 0 2)::(1,.lt 0 2)::g202 []) (g149 c p e.m e e.x (g324 x.a0.m x.a0.f e (nN (g71 c []) (g130 c p x.a0.m e x.a0.f I1 x fun y2=>g289 c p y2.s.m y2.s y2.s.x (nN (g227 cm []) (g170 e y2.m y2.s.f x.a1.m x.a1.f zw)))))))) (U (O 0<=O 1/\O 1<(↑2:Int)) (nN [(2,.lt2 0 1 1 2),(1,.lt 1 2),qE false,(3,.lt2 0 1 0 1)] (g149 c p e.m e e.x (g324 x.a1.m x.a1.f e (nN (g71 c []) (g131 c p x.a1.m e x.a1.f I1 x fun y2=>g289 c p y2.s.m y2.s y2.s.x (nN (g227 cm []) (g170 e x.a0.m x.a0.f y2.m y2.s.f zw))))))))))) (zj (a == O 1) (g234 I1 e x c p e.m (nN (g272 e (g117 e.x p e (g97 p e.m []))) (g115 e.x e (nN (g95 e (g227 cm [])) (g170 e x.a0.m x.a0.f x.a1.m x.a1.f zw))))) (zj (a == O 2) (g340 I1 e v x (nN (g34 c p e.m (qE e.now::qE v::g117 e.x p e (g97 p e.m []))) (g115 e.x e (nN (g95 e (g227 cm [])) (g170 e x.a0.m x.a0.f x.a1.m x.a1.f zw))))) (U (I1 (Xd.mk e x)) (g149 c p e.m e e.x (nN (g95 e (g227 cm [])) (g170 e x.a0.m x.a0.f x.a1.m x.a1.f zw)))))))) (ze Xd I1 fun y1=>zj (decide (y1.e.m.ct>e.m.ct)) (U (I2 y1.e.ne (y1.e.ns,y1.e.cs)) (nN (g227 cm (g100 y1.e (g6 y1.e.m []))) (g374 y1.e I2 fun y2=>zj (decide ((↑y2.fst:Int)<(↑y1.e.ne:Int))) (g379 y2 I2 y1.e fun y3=>nN (g227 cm (g371 y1.e y2 (qE y3::g6 y1.e.m []))) (g200 y3 y2 zw)) (U (Φ (Xe.mk { y1.e with en:=i64.wrap (y1.e.en+O 1),ns:=y2.fst,cs:=y2.snd,l0:=y1.e.m.lk,l1:=y1.e.m.lc,l2:=y1.e.m.lo,l3:=y1.e.m.ln } (M5.mk y1.x.a0 y1.x.a1 x.a2 x.a3 x.a4))) (g210 c p y1.e.m y1.e y1.e.x (nN (g227 cm (g155 y1.e y2 (qE y2.snd::g6 y1.e.m (g372 y2 [])))) (g96 y1.x.a0.m y1.x.a0.f y1.x.a1.m y1.x.a1.f zw))))))) (U (I2 y1.e.ne (y1.e.ns,y1.e.cs)) (nN (g227 cm (g100 y1.e [])) (g374 y1.e I2 fun y2=>zj (decide ((↑y2.fst:Int)<(↑y1.e.ne:Int))) (g379 y2 I2 y1.e fun y3=>nN (g227 cm (g371 y1.e y2 [qE y3])) (g200 y3 y2 zw)) (U (Φ (Xe.mk { y1.e with en:=i64.wrap (y1.e.en+O 1),ns:=y2.fst,cs:=y2.snd,l0:=O 0,l1:=O 0,l2:=O 0,l3:=O 0 } (M5.mk y1.x.a0 y1.x.a1 x.a2 x.a3 x.a4))) (g210 c p y1.e.m y1.e y1.e.x (nN (g227 cm (g155 y1.e y2 (qE y2.snd::(4,.eqI 0 0)::g372 y2 []))) (g96 y1.x.a0.m y1.x.a0.f y1.x.a1.m y1.x.a1.f zw))))))))))):=by kernel_rfl
abbrev g221(a0:Nat)(l:LP):LP:=(1,.eq 3 3)::qE a0::l
abbrev g224(a0:Cf)(a1:Ep)(a2:Mp)(a3:Ee)(a4:Fk)(a5:Xd->Prop)(a6:M5)(k:So->V):V:=g44 a0 a1 a2 a3 a4 fun v0=>U (a5 (Xd.mk { v0.s with en:=a3.en,ns:=a3.ns,cs:=a3.cs,l0:=a3.l0,l1:=a3.l1,l2:=a3.l2,l3:=a3.l3 } { a6 with a2:=Ma.mk v0.s.f v0.m })) (k v0)
abbrev g331(l:LP):LP:=qE false::qE false::l
theorem vDo3_eq(c:Cf)(p:Ep)(cm:Nat)(e:Ee)(x:M5)(a v:Int)(I1:Xd->Prop)(I2:Nat->Nat×Nat->Prop)(Φ:Xe->Prop):V.pr (.b (.b (.b (.t .z) (.b (.f (.t .z)) (.f (.f .z)))) .z) .z) (vDo c p cm e x 3 a v I1 I2 Φ)=
 g149 c p e.m e e.x (nN (g95 e (g221 cm [])) (g170 e x.a0.m x.a0.f x.a1.m x.a1.f (g29 x.a2.m x.a2.f (ze Bool (fun (x:Bool)=>True) fun y0=>zj y0 (nN [(2,.lt2 0 1 0 1)] (zj (a == O 0) (nN [(8,.lt2 0 1 0 1),qE v,qE ((↑3:Int))] (U (O 1<=(↑3:Int)/\(↑3:Int)<=O 9223372036854775807) (nA (fun (r:Int)=>O 0<=r/\r<(↑3:Int)) fun y1=>zj (y1 == O 0) (U (O 0<=O 0/\O 0<(↑3:Int)) (nN ((2,.lt2 0 1 0 3)::(1,.lt 0 3)::g202 []) (g149 c p e.m e e.x (g324 x.a0.m x.a0.f e (nN (g71 c []) (g130 c p x.a0.m e x.a0.f I1 x fun y2=>g289 c p y2.s.m y2.s y2.s.x (nN (g221 cm []) (g170 e y2.m y2.s.f x.a1.m x.a1.f (g29 x.a2.m x.a2.f zw))))))))) (zj (y1 == O 1) (U (O 0<=O 1/\O 1<(↑3:Int)) (nN ((2,.lt2 0 1 1 3)::(1,.lt 1 3)::qE false::g202 []) (g149 c p e.m e e.x (g324 x.a1.m x.a1.f e (nN (g71 c []) (g131 c p x.a1.m e x.a1.f I1 x fun y2=>g289 c p y2.s.m y2.s y2.s.x (nN (g221 cm []) (g170 e x.a0.m x.a0.f y2.m y2.s.f (g29 x.a2.m x.a2.f zw))))))))) (U (O 0<=O 2/\O 2<(↑3:Int)) (nN ((2,.lt2 0 1 2 3)::(1,.lt 2 3)::g331 [(3,.lt2 0 1 0 1)]) (g149 c p e.m e e.x (g324 x.a2.m x.a2.f e (nN (g71 c []) (g224 c p x.a2.m e x.a2.f I1 x fun y2=>g289 c p y2.s.m y2.s y2.s.x (nN (g221 cm []) (g170 e x.a0.m x.a0.f x.a1.m x.a1.f (g29 y2.m y2.s.f zw))))))))))))) (zj (a == O 1) (g234 I1 e x c p e.m (nN (g272 e (g117 e.x p e (g97 p e.m []))) (g115 e.x e (nN (g95 e (g221 cm [])) (g170 e x.a0.m x.a0.f x.a1.m x.a1.f (g29 x.a2.m x.a2.f zw)))))) (zj (a == O 2) (g340 I1 e v x (nN (g34 c p e.m (qE e.now::qE v::g117 e.x p e (g97 p e.m []))) (g115 e.x e (nN (g95 e (g221 cm [])) (g170 e x.a0.m x.a0.f x.a1.m x.a1.f (g29 x.a2.m x.a2.f zw)))))) (U (I1 (Xd.mk e x)) (g149 c p e.m e e.x (nN (g95 e (g221 cm [])) (g170 e x.a0.m x.a0.f x.a1.m x.a1.f (g29 x.a2.m x.a2.f zw))))))))) (ze Xd I1 fun y1=>zj (decide (y1.e.m.ct>e.m.ct)) (U (I2 y1.e.ne (y1.e.ns,y1.e.cs)) (nN (g221 cm (g100 y1.e (g6 y1.e.m []))) (g374 y1.e I2 fun y2=>zj (decide ((↑y2.fst:Int)<(↑y1.e.ne:Int))) (g379 y2 I2 y1.e fun y3=>nN (g221 cm (g371 y1.e y2 (qE y3::g6 y1.e.m []))) (g200 y3 y2 zw)) (U (Φ (Xe.mk { y1.e with en:=i64.wrap (y1.e.en+O 1),ns:=y2.fst,cs:=y2.snd,l0:=y1.e.m.lk,l1:=y1.e.m.lc,l2:=y1.e.m.lo,l3:=y1.e.m.ln } { y1.x with a3:=x.a3,a4:=x.a4 })) (g210 c p y1.e.m y1.e y1.e.x (nN (g221 cm (g155 y1.e y2 (qE y2.snd::g6 y1.e.m (g372 y2 [])))) (g96 y1.x.a0.m y1.x.a0.f y1.x.a1.m y1.x.a1.f (g29 y1.x.a2.m y1.x.a2.f zw)))))))) (U (I2 y1.e.ne (y1.e.ns,y1.e.cs)) (nN (g221 cm (g100 y1.e [])) (g374 y1.e I2 fun y2=>zj (decide ((↑y2.fst:Int)<(↑y1.e.ne:Int))) (g379 y2 I2 y1.e fun y3=>nN (g221 cm (g371 y1.e y2 [qE y3])) (g200 y3 y2 zw)) (U (Φ (Xe.mk { y1.e with en:=i64.wrap (y1.e.en+O 1),ns:=y2.fst,cs:=y2.snd,l0:=O 0,l1:=O 0,l2:=O 0,l3:=O 0 } { y1.x with a3:=x.a3,a4:=x.a4 })) (g210 c p y1.e.m y1.e y1.e.x (nN (g221 cm (g155 y1.e y2 (qE y2.snd::(4,.eqI 0 0)::g372 y2 []))) (g96 y1.x.a0.m y1.x.a0.f y1.x.a1.m y1.x.a1.f (g29 y1.x.a2.m y1.x.a2.f zw))))))))))))):=by kernel_rfl
end Go.Proofs.YtabiechfpefjhaaGreat.En
