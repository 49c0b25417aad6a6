/- No function of the translation starts a goroutine. -/
import Derived.Test.YtbnodhcijeaceaaGreatDoorRows
import GoSem.ClaimGoes
set_option linter.all false
namespace Go.Proofs.YtbnodhcijeaceaaGreatDoor
open Go
variable{P:Program}
theorem jn6(h:P.funcs.any Func.goes=false)(f:FuncId):P.goes f=false:=by
 have h1:∀g:FuncId,(P.funcs[g]?).any Func.goes=false:=fun g=>by
  cases hg:P.funcs[g]? with
  |none=>rfl
  |some fn=>
   obtain⟨hlt,he⟩:=Array.getElem?_eq_some_iff.1 hg;cases e:Func.goes fn with
   |false=>simp[e]
   |true=>
    have:P.funcs.any Func.goes=true:=Array.any_eq_true.2 ⟨g,hlt,by rw[he];exact e⟩
    rw[h] at this;cases this
 unfold Program.goes;simp only[h1,h,Bool.and_false,Bool.or_false]
 induction P.closure f with
 |nil=>rfl
 |cons a r ih=>simp[List.any_cons]
theorem jhE{c:OpenClaim}(h:P.funcs.any Func.goes=false)(hs:c.start=.entering):false=c.goesBy P:=by
 unfold OpenClaim.goesBy Program.goesAt Program.goesFrom;rw[hs];cases P.funcNamed c.func with
 |none=>rfl
 |some f=>simp[jn6 h]
theorem jq9:Tryz.prog.funcs.any Func.goes=false:=by kernel_rfl
end Go.Proofs.YtbnodhcijeaceaaGreatDoor
