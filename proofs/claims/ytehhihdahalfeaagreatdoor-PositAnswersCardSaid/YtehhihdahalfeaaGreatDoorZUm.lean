/-
  Closed terms that are read, and texts of closed terms, reckoned. No statement of the seat.
-/
import Derived.Test.YtehhihdahalfeaaGreatDoorZPr
import Derived.Test.YtehhihdahalfeaaGreatDoorZTb
set_option linter.unusedVariables false
set_option linter.unusedSimpArgs false
set_option linter.unnecessarySimpa false
namespace Go.Proofs.YtehhihdahalfeaaGreatDoor
open Go Go.Am Go.Gw
/- is a value that term? -/
mutual
def okLv:Lv→PV→Bool
  | .mk k n ls,.ag [.sc (.int .i64 a),.sc (.int .i64 b),.sl _ z xs]=>decide (a=k) && (decide (b=n) && ((Nat.beq z 3 || xs.isEmpty) && okLvs ls xs))
  |_,_=>false
def okLvs:List Lv→List PV→Bool
  |[],[]=>true
  |l :: r,x :: xs=>okLv l x && okLvs r xs
  |_,_=>false
end
mutual
def okTm:Tm→PV→Bool
  | .mk k n s ls ts,.ag [.sc (.int .i64 a),.sc (.int .i64 b),.sc (.string u),.sl _ z xs,.sl _ y ys]=>decide (a=k) && (decide (b=n) && (decide (u.data.toList=s) && ((Nat.beq z 3 || xs.isEmpty) && (okLvs ls xs && ((Nat.beq y 5 || ys.isEmpty) && okTms ts ys)))))
  |_,_=>false
def okTms:List Tm→List PV→Bool
  |[],[]=>true
  |l :: r,x :: xs=>okTm l x && okTms r xs
  |_,_=>false
end
mutual
def smLv:Lv→Bool
  | .mk _ _ ls=>Nat.ble ls.length 1000 && smLvs ls
def smLvs:List Lv→Bool
  |[]=>true
  |l :: r=>smLv l && smLvs r
end
mutual
def smTm:Tm→Bool
  | .mk _ n s ls ts=>decide (-1000000 ≤ n∧n ≤ 1000000) && (Nat.ble s.length 1000 && (Nat.ble ls.length 1000 && (smLvs ls && (Nat.ble ts.length 1000 && smTms ts))))
def smTms:List Tm→Bool
  |[]=>true
  |l :: r=>smTm l && smTms r
end
theorem emp {xs:List PV} {z n:Nat} (h:(Nat.beq z n || xs.isEmpty)=true):z=n∨xs=[]:=by
  rw [Bool.or_eq_true] at h
  rcases h with h|h
  · exact .inl (Nat.eq_of_beq_eq_true h)
  · exact .inr (by simpa using h)
mutual
theorem okLv_ok:∀ {l:Lv} {v:PV},okLv l v=true→smLv l=true→LvP l v
  | .mk k n ls,v,h,hs=>by
    unfold okLv at h
    split at h
    · rename_i a b f z xs heq
      cases heq
      simp only [Bool.and_eq_true,decide_eq_true_eq] at h
      obtain ⟨rfl,rfl,h1,h2⟩:=h
      simp only [smLv,Bool.and_eq_true] at hs
      simp only [LvP]
      exact ⟨_,_,_,rfl,emp h1,okLvs_ok h2 hs.2,Nat.le_trans (Nat.le_of_ble_eq_true hs.1) (by omega)⟩
    · cases h
theorem okLvs_ok:∀ {ls:List Lv} {xs:List PV},okLvs ls xs=true→smLvs ls=true→LvsP ls xs
  |[],[],_,_=>by simp only [LvsP]
  |[],_ :: _,h,_=>by simp [okLvs] at h
  |_ :: _,[],h,_=>by simp [okLvs] at h
  |l :: r,x :: xs,h,hs=>by
    simp only [okLvs,Bool.and_eq_true] at h
    simp only [smLvs,Bool.and_eq_true] at hs
    simp only [LvsP]
    exact ⟨_,_,rfl,okLv_ok h.1 hs.1,okLvs_ok h.2 hs.2⟩
end
mutual
theorem okTm_ok:∀ {t:Tm} {v:PV},okTm t v=true→smTm t=true→TmP t v
  | .mk k n s ls ts,v,h,hs=>by
    unfold okTm at h
    split at h
    · rename_i a b u f z xs f2 y ys heq
      cases heq
      simp only [Bool.and_eq_true,decide_eq_true_eq] at h
      obtain ⟨rfl,rfl,rfl,h1,h2,h3,h4⟩:=h
      simp only [smTm,Bool.and_eq_true,decide_eq_true_eq] at hs
      obtain ⟨s1,s2,s3,s4,s5,s6⟩:=hs
      simp only [TmP]
      refine ⟨f,z,xs,f2,y,ys,?_,emp h1,okLvs_ok h2 s4,Nat.le_trans (Nat.le_of_ble_eq_true s3) (by omega),emp h3,okTms_ok h4 s6,Nat.le_trans (Nat.le_of_ble_eq_true s5) (by omega),Nat.le_trans (Nat.le_of_ble_eq_true s2) (by omega),by unfold i64; omega⟩
      rw [str_of u]
    · cases h
theorem okTms_ok:∀ {ls:List Tm} {xs:List PV},okTms ls xs=true→smTms ls=true→TmsP ls xs
  |[],[],_,_=>by simp only [TmsP]
  |[],_ :: _,h,_=>by simp [okTms] at h
  |_ :: _,[],h,_=>by simp [okTms] at h
  |l :: r,x :: xs,h,hs=>by
    simp only [okTms,Bool.and_eq_true] at h
    simp only [smTms,Bool.and_eq_true] at hs
    simp only [TmsP]
    exact ⟨_,_,rfl,okTm_ok h.1 hs.1,okTms_ok h.2 hs.2⟩
end
/-- does a call come to a term? -/
def isTm (t:Tm) (r:Option (AEnd × Sto)):Bool:=match r with
  |some (.ret [v],_)=>okTm t v && smTm t
  |_=>false
/-- does a call come to that text? -/
def isTx (s:List UInt8) (r:Option (AEnd × Sto)):Bool:=match r with
  |some (.ret [.sc (.string u)],_)=>decide (u.data.toList=s)
  |_=>false
def vr (n:Int):Tm:=.mk 1 n [] [] []
def ap (a b:Tm):Tm:=.mk 4 0 [] [] [a,b]
def pi_ (a b:Tm):Tm:=.mk 6 0 [] [] [a,b]
def cq (s:List UInt8):Tm:=.mk 3 0 s [] []
def tT:Tm:=pi_ (cq [110,97,116]) (pi_ (ap (cq [113]) (vr 0)) (ap (ap (cq [114]) (vr 1)) (vr 0)))
def txts (args:List PV) (r:Option (AEnd × Sto)) (k:List PV→Bool):Bool:=match r with
  |some (.ret vs,_)=>k vs
  |_=>false
/-- a term that is read, names that it has not, and that they are these -/
noncomputable def namesC:Bool:=match (ev C1 60).call 35 [sv [108,48,46,98]] [] with
  |some (.ret [v],_)=>okTm (cq [108,48,46,98]) v && (match (ev C1 60).call 11 [iv 2,.sl true 5 [v]] [] with
    |some (.ret [.sl b z xs],_)=>(match (ev C1 60).call 40 [.sl b z xs,.sl true 1 (svs [[108,49,46,120,48],[108,49,46,120,49]])] [] with
      |some (.ret [.sc (.bool true)],_)=>true
      |_=>false)
    |_=>false)
  |_=>false
end Go.Proofs.YtehhihdahalfeaaGreatDoor
