/- slices.Clone at an empty row of terms of which it is not known whether it is nil. -/
import Derived.Test.YtbnodhcijeaceaaGreatDoorZSo
import Derived.Lib.SliceRun
set_option linter.all false
set_option maxRecDepth 100000
namespace Go.Proofs.YtbnodhcijeaceaaGreatDoor
open Go Go.RowKit
theorem clone_nil(c:Nat)(w:World):Calls Tryz.prog 69 #[.slice none 0 c] w fun en w'=>en=.returned (.slice none 0 0)∧w'=w:=by
 have q22:∀(w:World) (a:Option Addr) (n c n' c':Nat),(binOp .eql 22 (.slice a n c) (.slice none n' c')).run Tryz.prog w=.ok (.bool a.isNone) w:=fun w a n c n' c'=>Lib.run_eql_slice_nil w _ _ a n c n' c' Tryz.underlying22
 go_enter Tryz.func69,Tryz.ntmps69
 go_wp2
 all_goals
  go_ret
  exact⟨rfl,rfl⟩
theorem jnr(a:Addr)(c:Nat)(w:World):Calls Tryz.prog 69 #[.slice (some a) 0 c] w fun en w'=>∃a',en=.returned (.slice (some a') 0 0)∧w'=w.alloc (.cells #[] 25):=by
 have q22:∀(w:World) (a:Option Addr) (n c n' c':Nat),(binOp .eql 22 (.slice a n c) (.slice none n' c')).run Tryz.prog w=.ok (.bool a.isNone) w:=fun w a n c n' c'=>Lib.run_eql_slice_nil w _ _ a n c n' c' Tryz.underlying22
 go_enter Tryz.func69,Tryz.ntmps69
 go_wp2
 all_goals
  go_ret
  exact⟨_,rfl,rfl⟩
open Go.Am Go.Hb in
def jda:List PV→Sto→Option (AEnd×Sto)
 |[.sl false 5 []],[]=>some (.ret [.sl false 5 []],[])
 |_,_=>none
open Go.Am Go.Hb in
theorem jqr:j2n (j7Z Tryz.prog 69) jda:=fun args st r st' hx w m φ μ vs hs hr=>by
 unfold jda at hx;split at hx
 ·cases hx;obtain⟨v1,vs1,rfl,h1,h2⟩:=hr.uncons;have:vs1=[]:=List.eq_nil_of_length_eq_zero h2.1.symm;subst this;cases h1 with
  | @sl _ _ _ _ ad cap b0 off0 g ha hcap hmax hfull hel hrr hnil=>
   cases ad with
   |none=>
    refine(clone_nil cap w).mono fun en w' ⟨e1,e2⟩=>?_
    subst e1;subst e2;have hs':Sit ⟨w',m,feetOf μ⟩ m φ μ [] w':=⟨Hb.Good.start (ν:=[]) (by simpa using hs.good),hs.sto,hs.dom⟩
    exact⟨m,φ,μ,Ext.refl _ _,hs',[_],rfl,.cons (.sl b0 off0 g (fun h=>absurd rfl h) (by simp) (by unfold maxLen;omega) (by simp) (by simp) (by simp) (by simp)) .nil⟩
   |some a=>
    refine(jnr a cap w).mono fun en w' ⟨a',e1,e2⟩=>?_
    subst e1;subst e2;have hs':Sit ⟨w,m,feetOf μ⟩ m φ μ [] w:=⟨Hb.Good.start (ν:=[]) (by simpa using hs.good),hs.sto,hs.dom⟩
    have hg:Hb.Good ⟨w,m,feetOf μ⟩ (w.alloc (.cells #[] 25)) m μ:=Hb.Good.drop (hs'.good.new (.cells #[] 25)) (List.sublist_cons_self _ _);exact⟨m,φ,μ,Ext.refl _ _,⟨hg,hs'.sto,hs'.dom⟩,[_],rfl,.cons (.sl b0 off0 g (fun h=>absurd rfl h) (by simp) (by unfold maxLen;omega) (by simp) (by simp) (by simp) (by simp)) .nil⟩
 ·cases hx
end Go.Proofs.YtbnodhcijeaceaaGreatDoor
