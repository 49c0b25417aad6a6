/-
  Which constants stand in a term; the constants of locals (package tele). No statement of the seat.
-/
import Derived.Test.YtehhihdahalfeaaGreatDoorZUe
import Derived.Test.YtehhihdahalfeaaGreatDoorZUc
set_option linter.unusedVariables false
set_option linter.unusedSimpArgs false
set_option linter.unnecessarySimpa false
namespace Go.Proofs.YtehhihdahalfeaaGreatDoor
open Go Go.Am Go.Gw
theorem encSs_open (l:List (List UInt8)):∃ b z,encSs l = .sl b z (svs l)∧(z=1∨l=[]):=by
  cases l with
  |nil=>exact ⟨_,_,rfl,.inr rfl⟩
  |cons d r=>exact ⟨_,_,rfl,.inl rfl⟩
theorem ConstsF_len (t:Tm):(ConstsF t).length ≤ 2000:=by
  unfold ConstsF
  split
  · rename_i h
    unfold nameSortF
    refine Nat.le_trans (compS_length _) ?_
    rw [sortS_length]
    exact Nat.le_trans (consts_len t) (any_siz h)
  · simp
set_option maxRecDepth 100000 in
theorem ContainsS_can (s:List UInt8) (ns:List (List UInt8)) (b:Bool) (z:Nat) (hz:z=1∨ns=[]) (hbd:ns.length ≤ 8796093022208):Pf C1 48 [.sl b z (svs ns),sv s] [bv (decide (s ∈ ns))]:=by
  have hi:=idxS_can s ns b z hz hbd
  have e:=findS_mem s ns 0
  refine run_intro Tryz.func48 rfl rfl rfl ?_
  repeat' ((conv=>whnf);first|refine gT ?_|refine gF ?_|refine VIf.not ?_|refine gA ?_|refine gB ?_|refine VIf.dec (fun h=>?_) (fun h=>?_)|refine gC ?_|refine gD ?_|refine VIf.mk (fun h=>?_) (fun h=>?_)|refine gO ?_|refine gP ?_|refine VNat.mk _ rfl ?_|refine gV ?_|refine vret_pf rfl ?_|refine vret_take rfl rfl ?_|refine vcall_pf hi rfl rfl ?_|refine gK ?_)
  all_goals (try (conv=>whnf))
  rw [← e]
set_option maxRecDepth 100000 in
theorem Occurs_can (t:Tm) (v:PV) (h:TmP t v) (s:List UInt8):Pf C1 17 [v,sv s] [bv (decide (s ∈ ConstsF t))]:=by
  have hc:=Consts_can t v h
  have hl:=ConstsF_len t
  obtain ⟨b1,z1,he,hz1⟩:=encSs_open (ConstsF t)
  have hk:=ContainsS_can s (ConstsF t) b1 z1 hz1 (by omega)
  rw [he] at hc
  obtain ⟨k,n,s0,ls,ts,b,z,xs,c,y,ys,rfl,rfl,-⟩:=h.open
  refine run_intro Tryz.func17 rfl rfl rfl ?_
  repeat' ((conv=>whnf);first|refine gT ?_|refine gF ?_|refine VIf.not ?_|refine gA ?_|refine gB ?_|refine VIf.dec (fun h=>?_) (fun h=>?_)|refine gC ?_|refine gD ?_|refine VIf.mk (fun h=>?_) (fun h=>?_)|refine gO ?_|refine gP ?_|refine VNat.mk _ rfl ?_|refine gV ?_|refine vret_pf rfl ?_|refine vret_take rfl rfl ?_|refine vcall_pf hc rfl rfl ?_|refine vcall_pf hk rfl rfl ?_|refine gK ?_)
  all_goals (try (conv=>whnf))
  rfl
/- locals -/
def LoP (x:List UInt8 × Tm) (v:PV):Prop:=∃ cs,v = .ag (sv x.1 :: cs)∧TmP x.2 (.ag cs)∧x.1.length ≤ 140737488355328
def LosP:List (List UInt8 × Tm)→List PV→Prop
  |[],xs=>xs=[]
  |l :: r,xs=>∃ v xs',xs=v :: xs'∧LoP l v∧LosP r xs'
theorem LosP.len:∀ {ls:List (List UInt8 × Tm)} {xs:List PV},LosP ls xs→xs.length=ls.length
  |[],xs,h=>by simp only [LosP] at h; simp [h]
  |l :: r,xs,h=>by
    simp only [LosP] at h
    obtain ⟨v,xs',rfl,_,h⟩:=h
    simp [LosP.len h]
theorem LosP.at:∀ {ls:List (List UInt8 × Tm)} {xs:List PV} {i:Nat} {l:List UInt8 × Tm},LosP ls xs→ls[i]? = some l→∃ v,xs[i]? = some v∧LoP l v
  |[],xs,i,l,_,h=>by simp at h
  |x :: r,xs,i,l,h,e=>by
    simp only [LosP] at h
    obtain ⟨v,xs',rfl,h1,h2⟩:=h
    cases i with
    |zero=>simp at e; subst e; exact ⟨v,rfl,h1⟩
    |succ i=>simpa using LosP.at h2 (by simpa using e)
theorem LoP.open {x:List UInt8 × Tm} {v:PV} (h:LoP x v):∃ s k n s1 b z xs c y ys t,x=(s,t)∧v = .ag [sv s,iv k,iv n,sv s1,.sl b z xs,.sl c y ys]∧TmP t (.ag [iv k,iv n,sv s1,.sl b z xs,.sl c y ys])∧s.length ≤ 140737488355328:=by
  obtain ⟨s,t⟩:=x
  obtain ⟨cs,rfl,h1,h2⟩:=h
  obtain ⟨k,n,s0,ls,ts,b,z,xs,c,y,ys,-,e,-⟩:=h1.open
  cases e
  exact ⟨s,_,_,_,_,_,_,_,_,_,t,rfl,rfl,h1,h2⟩
end Go.Proofs.YtehhihdahalfeaaGreatDoor
