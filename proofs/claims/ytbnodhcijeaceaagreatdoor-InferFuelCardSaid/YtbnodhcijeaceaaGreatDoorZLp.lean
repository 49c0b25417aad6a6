/- Plain laws of levels: what a form tells, when one level is at most another. -/
import Derived.Test.YtbnodhcijeaceaaGreatDoorZGws
set_option linter.all false
namespace Go.Gw
open Go
def tm(x y:Int):Int:=if x = -1 then -1 else x+y
def evF(f:Fm)(v:Nat→Int):Int:=max f.num (max (tm (f.off 0) (v 0)) (max (tm (f.off 1) (v 1)) (max (tm (f.off 2) (v 2)) (tm (f.off 3) (v 3)))))
def Fm.low(f:Fm):Prop:=-1≤f.num∧∀j,-1≤f.off j
theorem jnR{f:Fm}{v:Nat→Int}{x:Int}:evF f v≤x↔f.num≤x∧∀j,j<4→tm (f.off j) (v j)≤x:=by
 unfold evF;simp only[Int.max_le];constructor
 ·rintro⟨h,h0,h1,h2,h3⟩;refine⟨h,fun j hj=>?_⟩
  obtain e|e|e|e:j=0∨j=1∨j=2∨j=3:=by omega
  all_goals subst e;assumption
 ·rintro⟨h,k⟩;exact⟨h,k 0 (by omega),k 1 (by omega),k 2 (by omega),k 3 (by omega)⟩
def Agree(z:Int)(f:Int→Int):Prop:=∀n:Nat,n<4→(bit z n=0→1≤f n)∧(bit z n≠0→f n=0)
structure FmOk (z:Int) (f:Fm):Prop where
 low:f.low
 pos:∀j:Nat,j<4→f.off j≠-1→bit z j=0
def zOf(f:Int→Int):Int:=(if f 0=0 then 1 else 0)+(if f 1=0 then 2 else 0)+(if f 2=0 then 4 else 0)+(if f 3=0 then 8 else 0)
end Go.Gw
