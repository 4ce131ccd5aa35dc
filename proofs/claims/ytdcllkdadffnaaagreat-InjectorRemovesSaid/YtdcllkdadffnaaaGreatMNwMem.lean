/- Contracts of two kinds. -/
import Derived.Test.YtdcllkdadffnaaaGreatMNw
import Derived.Test.YtdcllkdadffnaaaGreatML
import Derived.Test.YtdcllkdadffnaaaGreatMExec
set_option linter.unusedVariables false
set_option linter.unusedSimpArgs false
namespace Go.Proofs.YtdcllkdadffnaaaGreat.Vc
open Go Go.RowKit Sx Cn Dc Ck
theorem contract_or {f:FuncId} {u m:Nat} {c:List SV->Hp->Out (SV×Hp)} (hc:∀ args H,(∃ n,c args H=.bad n)\/(∃ σ n args0 h0 post,c args H=useP σ n args0 h0 post args H/\zah P f args0 h0 n post)\/c args H=zf3 P con0 noAnn u m f args H\/
  ∃ b σ n args0 h0 post σ' n' args0' h0' post',c args H=.br b (useP σ n args0 h0 post args H) (useP σ' n' args0' h0' post' args H)/\zah P f args0 h0 n post/\zah P f args0' h0' n' post'):zab P f c:=by
 intro φ ρ H w args vs K h hv hh
 rcases hc args H with ⟨n,e⟩ | ⟨σ,n,args0,h0,post,e,hl⟩ | e | ⟨b,σ,n,args0,h0,post,σ',n',args0',h0',post',e,hl,hl'⟩
 ·rw [e] at hh; exact hh.elim
 ·rw [e] at hh
  exact use_ok hl h hv (useP_T hh)
 ·rw [e] at hh
  exact zfc (fun _ _ h=>by cases h) m φ ρ H w f args vs K h hv hh
 ·rw [e] at hh
  cases b with
  | true=>exact use_ok hl h hv (useP_T (hh.1 rfl))
  | false=>exact use_ok hl' h hv (useP_T (hh.2 rfl))
end Go.Proofs.YtdcllkdadffnaaaGreat.Vc
/- -/
