/- A part of the proof. -/
import Derived.Test.YtabiechfpefjhaaGreatRows
import Derived.JoinedOf
import Derived.WalkKit
set_option linter.unusedVariables false
set_option linter.unusedSimpArgs false
namespace Go.Proofs.YtabiechfpefjhaaGreat.Door
open Go
theorem zfa:∀(a:List Char) (b:List Char),(a.all fun c=>!(c == Char.ofNat 32))=true->wordsSigns (a++Char.ofNat 32::b)=a::wordsSigns b
 | [],b,_=>by simp[wordsSigns]
 | c::a,b,h=>by
  simp only[List.all_cons,Bool.and_eq_true,Bool.not_eq_true',beq_eq_false_iff_ne,ne_eq]at h
  have ih:=zfa a b h.2
  rw[List.cons_append,wordsSigns.eq_def]
  split
  ·rename_i e;cases e
  ·rename_i r e;simp only[List.cons.injEq]at e;exact absurd e.1 h.1
  ·rename_i c' r e1 e
   simp only[List.cons.injEq]at e
   obtain⟨rfl,rfl⟩:=e
   rw[ih]
set_option maxRecDepth 100000
noncomputable abbrev PP:=Tryz.pinned.checked.prog
def l0:List Char:=[104,97,114,110,101,115,115].map Char.ofNat
def l1:List Char:=[49,53,54,97,50,102,99,48,102,53,51,50,54,54,57,54,98,100,50,101,52,55,53,54,49,55,50,100,52,51,56,99,48,50,51,49,52,
 55,99,55,102,99,102,52,56,102,56,56,51,53,99,55,99,101,50,55,53,55,98,97,57,100,54,98].map Char.ofNat
def l2:List Char:=[99,117,116].map Char.ofNat
def l3:List Char:=[97,116,32,119,111,114,107,115,116,101,97,108,47,119,111,114,107,115,116,101,97,108,108,97,119,50,50,46,80,114,111,98,101,
 76,105,110,101,115].map Char.ofNat
theorem order:PP.initOrder=String.ofList (l0++Char.ofNat 32::(l1++Char.ofNat 32::(l2++Char.ofNat 32::l3))):=by kernel_rfl
theorem lifts(W:List (List Char)):stripLifts liftWords (l2::W)=([],l2::W):=by kernel_rfl
theorem head_of(P:Program)(h:P.initOrder=String.ofList (l0++Char.ofNat 32::(l1++Char.ofNat 32::(l2++Char.ofNat 32::l3)))):behindMainWord (wordsSigns P.initOrder.toList)=l2::wordsSigns l3:=by
 rw[h,String.toList_ofList,zfa _ _ (by decide),zfa _ _ (by decide),zfa _ _ (by decide)]
 generalize wordsSigns _=W
 kernel_rfl
theorem mayEnter_of(P:Program)(W:List (List Char))(h:behindMainWord (wordsSigns P.initOrder.toList)=l2::W)(h1:P.laysLater=false)(h2:P.bearsReflect=false)(h3:P.doorFits []=true):P.mayEnter=true:=by
 unfold Program.mayEnter
 rw[h]
 simp only[lifts,h1,h2,h3]
 rfl
theorem headLifts_of(P:Program)(W:List (List Char))(h:behindMainWord (wordsSigns P.initOrder.toList)=l2::W):P.headLifts=[]:=by
 unfold Program.headLifts
 rw[h,lifts]
 rfl
theorem liftsFinal_of(P:Program)(W:List (List Char))(h:behindMainWord (wordsSigns P.initOrder.toList)=l2::W):P.liftsFinal=false:=by
 unfold Program.liftsFinal
 rw[headLifts_of P W h,h]
 rfl
theorem make_of(P:Program)(W:List (List Char))(h:behindMainWord (wordsSigns P.initOrder.toList)=l2::W):P.make=some .cut:=by
 unfold Program.make
 rw[h]
 rfl
theorem head:behindMainWord (wordsSigns PP.initOrder.toList)=l2::wordsSigns l3:=head_of PP order
theorem h1:PP.laysLater=false:=by kernel_rfl
theorem h2:PP.bearsReflect=false:=by kernel_rfl
theorem h3:PP.doorFits []=true:=by kernel_rfl
theorem mayEnter:PP.mayEnter=true:=mayEnter_of PP _ head h1 h2 h3
theorem liftsFinal:PP.liftsFinal=false:=liftsFinal_of PP _ head
theorem make:PP.make=some .cut:=make_of PP _ head
theorem bAnd{a b:Bool}(h:a=true)(g:b=true):(a&&b)=true:=by rw[h,g];rfl
theorem make_b{P:Program}{m:Make}(h:P.make=some .cut)(hm:m=.cut):(P.make == some m)=true:=by rw[h,hm];rfl
theorem lift_b{P:Program}{b:Bool}(h:P.liftsFinal=false)(hb:b=false):(b == P.liftsFinal)=true:=by rw[h,hb];rfl
end Go.Proofs.YtabiechfpefjhaaGreat.Door
