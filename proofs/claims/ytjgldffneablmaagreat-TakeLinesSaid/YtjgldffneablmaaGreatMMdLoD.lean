/- A part of the proof. -/
import Derived.Test.YtjgldffneablmaaGreatMMd
set_option linter.unusedVariables false
set_option linter.unusedSimpArgs false
set_option maxRecDepth 100000
namespace Go.Proofs.YtjgldffneablmaaGreat.Md
open Go Go.RowKit Sx Cn Dc Ck Vc
def atM(i n f w:Int):Int:=if i<0\/n<=i then -1 else f+i*w
structure Qu where
 t:Int
 b:Int
 r:Int
 c:Int
def quM(y:Ly)(w l:Int):Qu:=if(w<0\/y.W<=w)\/(l<0\/y.L<=l) then⟨-1,-1,-1,0⟩ else⟨y.qu+w*(y.L*(2+y.D))+l*(2+y.D),y.qu+w*(y.L*(2+y.D))+l*(2+y.D)+1,y.qu+w*(y.L*(2+y.D))+l*(2+y.D)+2,y.D⟩
noncomputable section
def vQuT(y:Ly)(w l:Int):V:=verF P con0 3 6 fQu [] .nil [.a y.l,iv w,iv l] ⟨[],0,fun _=>True⟩
 (finV (X:=Qu) 0 0 (fun s _=>match numA 0 s,numA 1 s,numA 2 s,numA 3 s with|some a,some b,some c,some d=>some ⟨a,b,c,d⟩|_,_,_,_=>none) (fun _ _=>[]) (fun q=>q=quM y w l) (fun q=>.a [i6 q.t,i6 q.b,i6 q.r,i6 q.c]) (fun _=>[]))
end
end Go.Proofs.YtjgldffneablmaaGreat.Md
