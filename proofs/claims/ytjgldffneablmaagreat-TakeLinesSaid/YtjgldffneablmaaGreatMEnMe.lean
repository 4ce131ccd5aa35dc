/- A part of the proof. -/
import Derived.Test.YtjgldffneablmaaGreatMEnLh
import Derived.Test.YtjgldffneablmaaGreatMMdRmD
set_option linter.unusedVariables false
set_option linter.unusedSimpArgs false
set_option maxRecDepth 100000
namespace Go.Proofs.YtjgldffneablmaaGreat.En
open Go Go.RowKit Sx Cn Dc Ck Vc Md
noncomputable section
def evRe(cap:Nat)(l:El):Blk:=.row 91 cap l.n l.v.cols
def laMe{X:Type}(gm:X->Mm)(gw gs:X->Int)(ge:X->El)(ga gb:X->Nat)(pa:List ((St->Nat)×Bool))(bs:X->List Blk)(rd:Int->Mm->Int->El->Nat->Nat->St->Option X)(I:X->Prop)(s:St):Option (LA X):=match pmBs 0 s,rmBs 1 s,find (ekK 0 s) s.H.h,tmV 2 s,find (tmK 0 s) s.H.h with
 | some p,some r,some (.own tk sk (_::ck)),some x2,some (.own t0 s0 c0)=>fN (envE 0 s) fun ke=>fN (renE 1 s) fun kr=>some ⟨[(envM 0,true),(envC 0,true),(tmK 1,true),(renC 1,true),(ekK 0,true),(tmK 0,true),(envE 0,false),(renE 1,false)]++pa,
   fun x=>p (gm x)++((match r (gm x) with
    | [.own te se cs,b]=>[.own te se ((cs.set 17 (some (i6 (gw x)))).set 20 (some (.slc kr (.k 0) (.k 0) 5 (.s (ge x).n) (.s (gb x))))),b]
    | l=>l)++.own tk sk (some (i6 (gw x))::ck)::.own t0 s0 (c0.set 25 (some (.slc ke (.k 0) (.k 0) 5 (.s (ge x).n) (.s (ga x)))))::evRe (ga x) (ge x)::evRe (gb x) (ge x)::bs x),[13,2],fun x=>[iv (gs x),x2],
   fun s=>match tmI 13 s,rdMm s.H.h (envM 0 s),ceI (ekK 0 s) 0 s.H.h,rdEl 0 s,ceS (tmK 1 s) 20 s.H.h with|some q,some y,some w,some (e,na),some (_,_,nb)=>rd q y.m w e na nb s|_,_,_,_,_=>none,I,fun x=>(200-gs x).toNat⟩
 | _,_,_,_,_=>none
end
def rE(s:Int)(l:El)(na nb:Nat):Prop:=(l.n:Int)<=s/\l.n<=na/\l.n<=nb
section
variable {s:Int} {l:El} {na nb ne:Nat} {e:Evs}
theorem e_sz{m:Mm}{M:Nat}(h:rE s l na nb)(hs:decide (s<Int.ofNat M)=true)(hM:M<=1000):l.n+1<=9223372036854775807/\(l.n+1)*40<=140737488355328:=by
 have:=q_lt hs
 have:=h.1
 omega
theorem e_a(h:rE s l na nb):l.n<=l.n/\l.n<=na:=⟨Nat.le_refl _,h.2.1⟩
theorem e_b(h:rE s l na nb):l.n<=l.n/\l.n<=nb:=⟨Nat.le_refl _,h.2.2⟩
theorem e_0(h:rE s l na nb):rE (s+1) l na nb:=⟨by have:=h.1;omega,h.2⟩
theorem e_1{a b:Nat}(h:rE s l na nb)(ha:l.n+1<=a)(hb:l.n+1<=b):rE (s+1) ⟨l.n+1,e⟩ a b:=⟨by show((l.n+1:Nat):Int)<=s+1;have:=h.1;omega,ha,hb⟩
theorem e_cm{c:Cf}{v:Ev}{m:Mm}{M:Nat}(h:okMq c v){now:Int}(hr:rE s l na nb)(hs:decide (s<Int.ofNat M)=true)(hM:M<=1000)(hn:ne<=l.n+1):okCm ⟨v.n,m,now,v.x,ne,e⟩:=⟨h.2.2.2.1,h.2.2.2.2.1,by
 have:=q_lt hs
 have:=hr.1
 show ne<=1000000
 omega⟩
end
end Go.Proofs.YtjgldffneablmaaGreat.En
