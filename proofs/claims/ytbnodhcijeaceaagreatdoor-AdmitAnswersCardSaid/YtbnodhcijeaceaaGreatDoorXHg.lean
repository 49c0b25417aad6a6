/- slices.Clone at an empty row of terms of which it is not known whether it is nil. -/
import Derived.Test.YtbnodhcijeaceaaGreatDoorXGwr
import Derived.Lib.SliceRun
import Derived.Test.YtbnodhcijeaceaaGreatDoorRows
import GoSem.ClaimGoes
import Derived.JoinedOf
set_option linter.all false
set_option maxRecDepth 100000
namespace Go.Proofs.YtbnodhcijeaceaaGreatDoor
open Go Go.RowKit
theorem clone_nil(c:Nat)(w:World):Calls Tryz.prog 69 #[.slice none 0 c] w fun en w'=>en=.returned (.slice none 0 0)∧w'=w:=by
 have q22:∀(w:World) (a:Option Addr) (n c n' c':Nat),(binOp .eql 22 (.slice a n c) (.slice none n' c')).run Tryz.prog w=.ok (.bool a.isNone) w:=fun w a n c n' c'=>Lib.run_eql_slice_nil w _ _ a n c n' c' Tryz.underlying22
 go_enter Tryz.func69,Tryz.ntmps69
 go_wp2
 all_goals
  go_ret
  exact⟨rfl,rfl⟩
theorem jno(a:Addr)(c:Nat)(w:World):Calls Tryz.prog 69 #[.slice (some a) 0 c] w fun en w'=>∃a',en=.returned (.slice (some a') 0 0)∧w'=w.alloc (.cells #[] 25):=by
 have q22:∀(w:World) (a:Option Addr) (n c n' c':Nat),(binOp .eql 22 (.slice a n c) (.slice none n' c')).run Tryz.prog w=.ok (.bool a.isNone) w:=fun w a n c n' c'=>Lib.run_eql_slice_nil w _ _ a n c n' c' Tryz.underlying22
 go_enter Tryz.func69,Tryz.ntmps69
 go_wp2
 all_goals
  go_ret
  exact⟨_,rfl,rfl⟩
open Go.Am Go.Hb in
def jnn:List PV→Sto→Option (AEnd×Sto)
 |[.sl false 5 []],[]=>some (.ret [.sl false 5 []],[])
 |_,_=>none
open Go.Am Go.Hb in
theorem juR:j2Z (j8i Tryz.prog 69) jnn:=fun args st r st' hx w m φ μ vs hs hr=>by
 unfold jnn at hx;split at hx
 ·cases hx;obtain⟨v1,vs1,rfl,h1,h2⟩:=hr.uncons;have:vs1=[]:=AJ h2.1.symm;subst this;cases h1 with
  | @sl _ _ _ _ ad cap b0 off0 g ha hB wA qA gB qB gA=>
   cases ad with
   |none=>
    refine(clone_nil cap w).mono fun en w' ⟨e1,e2⟩=>?_
    subst e1;subst e2;have hA:Sit ⟨w',m,feetOf μ⟩ m φ μ [] w':=⟨Hb.Good.start (ν:=[]) (by simpa using hs.good),hs.sto,hs.dom⟩
    exact⟨m,φ,μ,Ext.refl _ _,hA,[_],rfl,.cons (.sl b0 off0 g (fun h=>absurd rfl h) (by simp) (by unfold maxLen;omega) (by simp) (by simp) (by simp) (by simp)) .nil⟩
   |some a=>
    refine(jno a cap w).mono fun en w' ⟨a',e1,e2⟩=>?_
    subst e1;subst e2;have hA:Sit ⟨w,m,feetOf μ⟩ m φ μ [] w:=⟨Hb.Good.start (ν:=[]) (by simpa using hs.good),hs.sto,hs.dom⟩
    have hg:Hb.Good ⟨w,m,feetOf μ⟩ (w.alloc (.cells #[] 25)) m μ:=Hb.Good.drop (hA.good.new (.cells #[] 25)) (EN _ _);exact⟨m,φ,μ,Ext.refl _ _,⟨hg,hA.sto,hA.dom⟩,[_],rfl,.cons (.sl b0 off0 g (fun h=>absurd rfl h) (by simp) (by unfold maxLen;omega) (by simp) (by simp) (by simp) (by simp)) .nil⟩
 ·cases hx
open Go
variable{P:Program}
theorem jo4(h:P.funcs.any Func.goes=false)(f:FuncId):P.goes f=false:=by
 have h1:∀g:FuncId,(P.funcs[g]?).any Func.goes=false:=fun g=>by
  cases hg:P.funcs[g]? with
  |none=>rfl
  |some fn=>
   obtain⟨hA,he⟩:=CB.1 hg;cases e:Func.goes fn with
   |false=>simp[e]
   |true=>
    have:P.funcs.any Func.goes=true:=Array.any_eq_true.2 ⟨g,hA,by rw[he];exact e⟩
    rw[h] at this;cases this
 unfold Program.goes;simp only[h1,h,FC,Bool.or_false]
 induction P.closure f with
 |nil=>rfl
 |cons a r ih=>simp[DT]
theorem jie{c:OpenClaim}(h:P.funcs.any Func.goes=false)(hs:c.start=.entering):false=c.goesBy P:=by
 unfold OpenClaim.goesBy Program.goesAt Program.goesFrom;rw[hs];cases P.funcNamed c.func with
 |none=>rfl
 |some f=>simp[jo4 h]
theorem jr8:Tryz.prog.funcs.any Func.goes=false:=by kernel_rfl
end Go.Proofs.YtbnodhcijeaceaaGreatDoor
namespace Go.Proofs.YtbnodhcijeaceaaGreatDoor.admitAnswers
open Go
theorem kA:Rows.admitAnswersRow.inPlace=Tryz.prog.inPlace 7:=by kernel_rfl
theorem kB:Rows.admitAnswersRow.unfollowed=Tryz.prog.unfollowed 7:=by kernel_rfl
theorem kC:Rows.admitAnswersRow.recurses=Tryz.prog.recurses 7:=by kernel_rfl
theorem kD:Rows.admitAnswersRow.named=Tryz.prog.varsNamed 7:=by kernel_rfl
open Go
theorem closed:joinedFacts Tryz.prog 7 Tryz.f7 Rows.admitAnswersSpec Rows.admitAnswersRow=true:=by
 unfold joinedFacts;rw[←kA,←kB,←kC,←kD]
 kernel_rfl
