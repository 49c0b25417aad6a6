/-
  Terms made anew, and raised (package bind). No statement of the seat.
-/
import Derived.Test.YtehhihdahalfeaaGreatDoorZTg
set_option linter.unusedVariables false
set_option linter.unusedSimpArgs false
set_option linter.unnecessarySimpa false
namespace Go.Proofs.YtehhihdahalfeaaGreatDoor
open Go Go.Am Go.Gw
def madeF (put:Tm→Int→Option Tm) (t:Tm):Option Tm:=if (bldF put t 0 2000).2 < 0 then none else some (bldF put t 0 2000).1
def raisedF (t:Tm) (by_:Int):Tm:=(madeF (movF by_ 0) t).getD tz
end Go.Proofs.YtehhihdahalfeaaGreatDoor
namespace Go.Proofs.YtehhihdahalfeaaGreatDoor
open Go Go.Am Go.Gw
def insF (us:List Tm) (t:Tm) (d:Int):Option Tm:=if t.kind=1∧¬ t.num - d < 0 then some (if (us.length:Int) ≤ t.num - d then .mk 1 (t.num - us.length) [] [] [] else raisedF (us.getD ((us.length:Int) - 1 - (t.num - d)).toNat tz) d) else none
def insP (b:Bool) (z:Nat) (xs:List PV):PV:=.fn 85 [] [.cp [iv xs.length],.cp [.sl b z xs]]
end Go.Proofs.YtehhihdahalfeaaGreatDoor
namespace Go.Proofs.YtehhihdahalfeaaGreatDoor
open Go Go.Am Go.Gw
def TmW (t:Tm):Prop:=TmP t (encT t)
theorem TmP.w {t:Tm} {v:PV} (h:TmP t v):TmW t:=encT_ok _ _ h
theorem tmsP_enc:∀ {ts:List Tm},(∀ t ∈ ts,TmW t)→TmsP ts (ts.map encT)
  |[],_=>by simp only [List.map_nil,TmsP]
  |t :: r,h=>by
    simp only [List.map_cons,TmsP]
    exact ⟨_,_,rfl,h t (by simp),tmsP_enc fun x hx=>h x (by simp [hx])⟩
theorem TmsP.ws:∀ {ts:List Tm} {xs:List PV},TmsP ts xs→∀ t ∈ ts,TmW t
  |[],_,_,t,ht=>by cases ht
  |a :: r,xs,h,t,ht=>by
    simp only [TmsP] at h
    obtain ⟨v,xs',rfl,h1,h2⟩:=h
    rcases List.mem_cons.1 ht with rfl|ht
    · exact h1.w
    · exact TmsP.ws h2 t ht
theorem TmW.args {k n:Int} {s:List UInt8} {ls:List Lv} {ts:List Tm} (h:TmW (.mk k n s ls ts)):(∀ t ∈ ts,TmW t)∧ts.length ≤ 1759218604441:=by
  unfold TmW at h
  simp only [TmP] at h
  obtain ⟨b,z,xs,c,y,ys,_,hz,hxs,hb,hy,hys,hc,hs,_⟩:=h
  exact ⟨hys.ws,hc⟩
theorem tmW_node {k n:Int} {ts:List Tm} (hn:i64 n) (hl:ts.length ≤ 1759218604441) (h:∀ t ∈ ts,TmW t):TmW (.mk k n [] [] ts):=by
  unfold TmW
  have h1:=tmsP_enc h
  rw [encT_mk]
  cases ts with
  |nil =>
    simp only [encTv,encLv,TmP,LvsP]
    exact ⟨_,_,_,_,_,_,rfl,.inr rfl,rfl,by simp,.inr rfl,h1,hl,by simp,hn⟩
  |cons a r =>
    rw [encTv_pos (by simp)]
    simp only [encLv,TmP,LvsP]
    exact ⟨_,_,_,_,_,_,rfl,.inr rfl,rfl,by simp,.inl rfl,h1,hl,by simp,hn⟩
theorem tmW_tz:TmW tz:=tmW_node (by unfold i64; omega) (by simp) (by simp)
/-- it puts in what lies as a term -/
def PutOk (put:Tm→Int→Option Tm):Prop:=∀ t d x,TmW t→(∃ p kk,allT t p kk=true∧0 ≤ kk∧kk ≤ 2251799813685248)→0 ≤ d→d ≤ 4194304→put t d=some x→TmW x
theorem bldFs_length (put:Tm→Int→Option Tm):∀ (ts:List Tm) (k i d left:Int),(bldFs put ts k i d left).1.length=ts.length
  |[],k,i,d,left=>by simp [bldFs]
  |t :: r,k,i,d,left=>by simp only [bldFs,List.length_cons,bldFs_length put r]
mutual
theorem bldF_ok {put:Tm→Int→Option Tm} (hput:PutOk put):∀ (t:Tm) (p kk d left:Int),TmW t→allT t p kk=true→0 ≤ kk→kk + depT t ≤ 2251799813685248→0 ≤ d→d + depT t ≤ 4194304→TmW (bldF put t d left).1
  | .mk k n s ls ts,p,kk,d,left,hw,ha,hk0,hk1,hd0,hd1=>by
    rw [bldF]
    by_cases h0:left < 0
    · rw [bldN_neg h0]
      exact tmW_tz
    · cases hp:put (.mk k n s ls ts) d with
      |some x =>
        rw [bldN_put h0 hp]
        exact hput _ d x hw ⟨p,kk,ha,hk0,by omega⟩ hd0 (by omega) hp
      |none =>
        by_cases hl:ts.length=0
        · rw [bldN_leaf h0 hp hl]
          exact hw
        · rw [bldN_node h0 hp hl]
          obtain ⟨hk17,hlenk,hnode,-,hats⟩:=allT_parts ha
          rw [depT] at hk1 hd1
          refine tmW_node (by unfold i64; omega) (by rw [bldFs_length]; exact hw.args.2) ?_
          exact bldFs_ok hput ts k 0 p kk d (left - 1) hw.args.1 hats hk0 (by omega) hd0 (by omega)
theorem bldFs_ok {put:Tm→Int→Option Tm} (hput:PutOk put):∀ (ts:List Tm) (k i p kk d left:Int),(∀ t ∈ ts,TmW t)→allTs ts k i p kk=true→0 ≤ kk→kk + 1 + depTs ts ≤ 2251799813685248→0 ≤ d→d + 1 + depTs ts ≤ 4194304→∀ x ∈ (bldFs put ts k i d left).1,TmW x
  |[],k,i,p,kk,d,left,hw,ha,hk0,hk1,hd0,hd1=>by simp [bldFs]
  |t :: r,k,i,p,kk,d,left,hw,ha,hk0,hk1,hd0,hd1=>by
    simp only [allTs,Bool.and_eq_true] at ha
    rw [depTs] at hk1 hd1
    have hi1:=innerF_bd (shBinds k) i kk
    have hi2:=innerF_bd (shBinds k) i d
    intro x hx
    simp only [bldFs,List.mem_cons] at hx
    rcases hx with rfl|hx
    · exact bldF_ok hput t p _ _ left (hw t (by simp)) ha.1 (by omega) (by omega) (by omega) (by omega)
    · exact bldFs_ok hput r k (i + 1) p kk d _ (fun y hy=>hw y (by simp [hy])) ha.2 hk0 (by omega) hd0 (by omega) x hx
end
end Go.Proofs.YtehhihdahalfeaaGreatDoor
