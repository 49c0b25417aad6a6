/-
  Terms and levels as new memory. No statement of the seat.
-/
import Derived.Test.YtehhihdahalfeaaGreatDoorZPm
import Derived.Test.YtehhihdahalfeaaGreatDoorZSh
set_option linter.unusedVariables false
set_option linter.unusedSimpArgs false
set_option linter.unnecessarySimpa false
namespace Go.Proofs.YtehhihdahalfeaaGreatDoor
open Go Go.Am Go.Gw
/- levels and terms as the program makes them -/
mutual
def encL:Lv→PV
  | .mk k n ls=>.ag [iv k,iv n,match ls with
    |[]=>.sl true 0 []
    |l :: r=>.sl false 3 (encLs (l :: r))]
def encLs:List Lv→List PV
  |[]=>[]
  |l :: r=>encL l :: encLs r
end
def encLv (ls:List Lv):PV:=match ls with
  |[]=>.sl true 0 []
  |l :: r=>.sl false 3 (encLs (l :: r))
theorem encLs_eq:∀ ls:List Lv,encLs ls=ls.map encL
  |[]=>rfl
  |l :: r=>by rw [encLs,encLs_eq r]; rfl
mutual
theorem encL_ok:∀ (l:Lv) (v:PV),LvP l v→LvP l (encL l)
  | .mk k n ls,v,h=>by
    simp only [LvP] at h
    obtain ⟨b,z,xs,rfl,hz,hxs,hb⟩:=h
    have:=encLs_ok ls xs hxs
    cases ls with
    |nil=>simp only [encL,LvP,LvsP]; exact ⟨_,_,_,rfl,.inr rfl,rfl,hb⟩
    |cons l r=>simp only [encL,LvP]; exact ⟨_,_,_,rfl,.inl rfl,this,hb⟩
theorem encLs_ok:∀ (ls:List Lv) (xs:List PV),LvsP ls xs→LvsP ls (encLs ls)
  |[],_,_=>by simp only [encLs,LvsP]
  |l :: r,xs,h=>by
    simp only [LvsP] at h
    obtain ⟨v,xs',rfl,h1,h2⟩:=h
    simp only [encLs,LvsP]
    exact ⟨_,_,rfl,encL_ok l v h1,encLs_ok r xs' h2⟩
end
theorem encL_pure (l:Lv):∀ n,pur (n + 2) (encL l)=true:=fun n=>by
  obtain ⟨k,nn,ls⟩:=l
  cases ls <;> rfl
theorem encLs_pure (ls:List Lv) (n:Nat):(ls.map encL).all (pur (n + 2))=true:=by
  rw [List.all_eq_true]
  intro x hx
  obtain ⟨l,_,rfl⟩:=List.mem_map.1 hx
  exact encL_pure l n
abbrev zLv:List PV:=[iv 0,iv 0,.sl true 0 []]
abbrev zTm:List PV:=[iv 0,iv 0,sv [],.sl true 0 [],.sl true 0 []]
theorem encL_mk (k n:Int) (ls:List Lv):encL (.mk k n ls) = .ag [iv k,iv n,encLv ls]:=by cases ls <;> simp [encL,encLv]
theorem encL_open (l:Lv):∃ k n b z xs,encL l = .ag [iv k,iv n,.sl b z xs]:=by
  obtain ⟨k,n,ls⟩:=l
  rw [encL_mk]
  cases ls with
  |nil=>exact ⟨_,_,_,_,_,rfl⟩
  |cons l r=>exact ⟨_,_,_,_,_,rfl⟩
theorem encLv_pos {ls:List Lv} (h:0 < ls.length):encLv ls = .sl false 3 (ls.map encL):=by
  cases ls with
  |nil=>simp at h
  |cons l r=>simp only [encLv,encLs_eq]
set_option maxRecDepth 100000 in
theorem made_of (k:Int) (ls:List Lv) (ih:∀ l ∈ ls,∀ v,LvP l v→Pf C1 166 [v] [encL l]) (b:Bool) (z:Nat) (xs:List PV) (hz:z=3∨xs=[]) (hxs:LvsP ls xs) (hbd:ls.length ≤ 3518437208780) :
    Pf C1 167 [iv k,.sl b z xs] [encL (.mk k 0 ls)]:=by
  have hlen:=hxs.len
  refine run_intro Tryz.func167 rfl rfl rfl ?_
  repeat' ((conv=>whnf);first|refine gT ?_|refine gF ?_|refine VIf.not ?_|refine gA ?_|refine gB ?_|refine VIf.dec (fun h=>?_) (fun h=>?_)|refine gC ?_|refine gD ?_|refine VIf.mk (fun h=>?_) (fun h=>?_)|refine gO ?_|refine gP ?_|refine VNat.mk _ rfl ?_|refine gV ?_|refine vret_pf rfl ?_|refine vret_take rfl rfl ?_|refine gK ?_)
  all_goals (try (conv=>whnf))
  refine loop_over (G:=Nat) (fun i=>[(12,iv i)]) (fun i=>match i with
      |0=>[.box 50 zLv,.box 50 [iv k,iv 0,.sl true 0 []]]
      |n + 1=>[.box 50 zLv,.box 50 [iv k,iv 0,.ms 3 (n + 1)],.dead,.row false 50 3 ((ls.take (n + 1)).map encL)]) (fun i=>i ≤ ls.length) (fun i=>ls.length - i) 0 (by omega) rfl rfl ?_
  intro i hi
  have hround:∀ (hi':i < ls.length),∃ lc,ls[i]? = some lc∧∃ v,xs[i]? = some v∧LvP lc v∧Pf C1 166 [v] [encL lc]:=fun hi'=>by
    obtain ⟨lc,hlc⟩:∃ lc,ls[i]? = some lc:=⟨_,List.getElem?_eq_getElem hi'⟩
    obtain ⟨v,hv,hl⟩:=hxs.at hlc
    exact ⟨lc,hlc,v,hv,hl,ih _ (List.mem_of_getElem? hlc) _ hl⟩
  cases i with
  |zero =>
    repeat' ((conv=>whnf);first|refine gT ?_|refine gF ?_|refine VIf.not ?_|refine gA ?_|refine gB ?_|refine VIf.dec (fun h=>?_) (fun h=>?_)|refine gC ?_|refine gD ?_|refine VIf.mk (fun h=>?_) (fun h=>?_)|refine gO ?_|refine gP ?_|refine VNat.mk _ rfl ?_|refine gV ?_|refine vret_pf rfl ?_|refine vret_take rfl rfl ?_|refine gK ?_)
    all_goals (try (conv=>whnf))
    · obtain ⟨lc,hlc,v,hv,hl,hpl⟩:=hround (by omega)
      have e:(ls.take (0 + 1)).map encL=[encL lc]:=by rw [take_snoc' hlc]; rfl
      obtain ⟨k2,n2,b2,z2,x2,he⟩:=encL_open lc
      rw [he] at hpl e
      obtain ⟨k1,n1,l1,b1,z1,x1,rfl,rfl,hz1,hxs1,hlen1,hbd1⟩:=hl.open
      refine VIdx.mk _ hv (VOk.mk (szOk_of rfl hz) ?_)
      repeat' ((conv=>whnf);first|refine gT ?_|refine gF ?_|refine VIf.not ?_|refine gA ?_|refine gB ?_|refine VIf.dec (fun h=>?_) (fun h=>?_)|refine gC ?_|refine gD ?_|refine VIf.mk (fun h=>?_) (fun h=>?_)|refine gO ?_|refine gP ?_|refine VNat.mk _ rfl ?_|refine gV ?_|refine vret_pf rfl ?_|refine vret_take rfl rfl ?_|refine finds_pf hpl (fun _=>?_)|refine gK ?_)
      all_goals (try (conv=>whnf))
      exact VAgain.mk _ rfl _ (gc_sh (.cons (sh_box rfl rfl) (.cons (sh_box rfl rfl) (.cons (sh_box rfl rfl) (.cons (sh_row rfl) .nil)))) (.cons (sh_box rfl rfl) (.cons (sh_box rfl rfl) (.cons sh_dead (.cons (sh_row rfl) .nil)))) rfl rfl rfl rfl rfl) ⟨1,by omega,by omega,congrArg (fun t=>(⟨_,[.box _ zLv,.box _ [iv k,iv 0,.ms 3 1],.dead,.row false _ 3 t]⟩:AS)) e.symm⟩
    · obtain rfl:ls=[]:=List.eq_nil_of_length_eq_zero (by omega)
      rfl
  |succ i =>
    have hln:((ls.take (i + 1)).map encL).length=i + 1:=by simp; omega
    repeat' ((conv=>whnf);first|refine gT ?_|refine gF ?_|refine VIf.not ?_|refine gA ?_|refine gB ?_|refine VIf.dec (fun h=>?_) (fun h=>?_)|refine gC ?_|refine gD ?_|refine VIf.mk (fun h=>?_) (fun h=>?_)|refine gO ?_|refine gP ?_|refine VNat.mk _ rfl ?_|refine gV ?_|refine vret_pf rfl ?_|refine vret_take rfl rfl ?_|refine gK ?_)
    all_goals (try (conv=>whnf))
    · obtain ⟨lc,hlc,v,hv,hl,hpl⟩:=hround (by omega)
      have e:(ls.take (i + 1 + 1)).map encL=(ls.take (i + 1)).map encL ++ [encL lc]:=by rw [take_snoc' hlc]; simp
      have hp8:((ls.take (i + 1)).map encL ++ [encL lc]).all (pur 8)=true:=e ▸ encLs_pure _ 6
      obtain ⟨k2,n2,b2,z2,x2,he⟩:=encL_open lc
      rw [he] at hpl e hp8
      obtain ⟨k1,n1,l1,b1,z1,x1,rfl,rfl,hz1,hxs1,hlen1,hbd1⟩:=hl.open
      refine VIdx.mk _ hv (VOk.mk (szOk_of rfl hz) ?_)
      repeat' ((conv=>whnf);first|refine gT ?_|refine gF ?_|refine VIf.not ?_|refine gA ?_|refine gB ?_|refine VIf.dec (fun h=>?_) (fun h=>?_)|refine gC ?_|refine gD ?_|refine VIf.mk (fun h=>?_) (fun h=>?_)|refine gO ?_|refine gP ?_|refine VNat.mk _ rfl ?_|refine gV ?_|refine vret_pf rfl ?_|refine vret_take rfl rfl ?_|refine finds_pf hpl (fun _=>?_)|refine VOk.mk (grow_ok (w:=40) (r:=140737488355328) hln rfl rfl rfl rfl (by simp only [List.length_cons,List.length_nil]; omega) (by simp only [List.length_cons,List.length_nil]; omega)) ?_|refine gK ?_)
      all_goals (try (conv=>whnf))
      exact VAgain.mk _ rfl _ (gc_sh (.cons (sh_box rfl rfl) (.cons (sh_box rfl rfl) (.cons sh_dead (.cons (sh_row hp8) (.cons (sh_box rfl rfl) .nil))))) (.cons (sh_box rfl rfl) (.cons (sh_box rfl rfl) (.cons sh_dead (.cons (sh_row hp8) .nil)))) rfl rfl rfl rfl rfl) ⟨i + 1 + 1,by omega,by omega,congrArg (fun t=>(⟨_,[.box _ zLv,.box _ [iv k,iv 0,.ms 3 (i + 1 + 1)],.dead,.row false _ 3 t]⟩:AS)) e.symm⟩
    · have hi':i + 1=ls.length:=by omega
      have e:(ls.take (i + 1)).map encL=ls.map encL:=by rw [hi',List.take_length]
      refine vret_pub rfl (mapS_cons (pubV_ag (mapS_cons rfl (mapS_cons rfl (mapS_cons (pubV_row rfl hln.symm (encLs_pure _ 4)) mapS_nil)))) mapS_nil) rfl ?_
      rw [encL_mk,encLv_pos (by omega),← e]
set_option maxRecDepth 100000 in
theorem copied_can (l:Lv):∀ v,LvP l v→Pf C1 166 [v] [encL l]:=by
  induction l using Lv.ind with
  |_ k nn ls ih =>
  intro v h
  obtain ⟨_,_,_,b,z,xs,⟨rfl,rfl,rfl⟩,rfl,hz,hxs,hlen,hbd⟩:=h.open
  have hm:=made_of k ls ih b z xs hz hxs hbd
  rw [encL_mk] at hm ⊢
  obtain ⟨b2,z2,x2,he⟩:∃ b z xs,encLv ls = .sl b z xs:=by cases ls <;> exact ⟨_,_,_,rfl⟩
  rw [he] at hm ⊢
  refine run_intro Tryz.func166 rfl rfl rfl ?_
  repeat' ((conv=>whnf);first|refine gT ?_|refine gF ?_|refine VIf.not ?_|refine gA ?_|refine gB ?_|refine VIf.dec (fun h=>?_) (fun h=>?_)|refine gC ?_|refine gD ?_|refine VIf.mk (fun h=>?_) (fun h=>?_)|refine gO ?_|refine gP ?_|refine VNat.mk _ rfl ?_|refine gV ?_|refine vret_pf rfl ?_|refine vret_take rfl rfl ?_|refine vcall_pf hm rfl rfl ?_|refine gK ?_)
  all_goals (try (conv=>whnf))
  rfl
set_option maxRecDepth 100000 in
theorem max1_can (l:Lv) (v:PV) (h:LvP l v) (b:Bool) (z:Nat) (hz:z=3):Pf C1 124 [.sl b z [v]] [encL l]:=by
  have hc:=copied_can l v h
  obtain ⟨k2,n2,b2,z2,x2,he⟩:=encL_open l
  rw [he] at hc ⊢
  subst hz
  obtain ⟨k1,n1,l1,b1,z1,x1,rfl,rfl,hz1,hxs1,hlen1,hbd1⟩:=h.open
  refine run_intro Tryz.func124 rfl rfl rfl ?_
  repeat' ((conv=>whnf);first|refine gT ?_|refine gF ?_|refine VIf.not ?_|refine gA ?_|refine gB ?_|refine VIf.dec (fun h=>?_) (fun h=>?_)|refine gC ?_|refine gD ?_|refine VIf.mk (fun h=>?_) (fun h=>?_)|refine gO ?_|refine gP ?_|refine VNat.mk _ rfl ?_|refine gV ?_|refine vret_pf rfl ?_|refine vret_take rfl rfl ?_|refine vcall_pf hc rfl rfl ?_|refine VIdx.mk _ rfl ?_|refine gK ?_)
  all_goals (try (conv=>whnf))
  rfl
/- terms as the program makes them -/
mutual
def encT:Tm→PV
  | .mk k n s ls ts=>.ag [iv k,iv n,sv s,encLv ls,match ts with
    |[]=>.sl true 0 []
    |t :: r=>.sl false 5 (encTs (t :: r))]
def encTs:List Tm→List PV
  |[]=>[]
  |t :: r=>encT t :: encTs r
end
def encTv (ts:List Tm):PV:=match ts with
  |[]=>.sl true 0 []
  |t :: r=>.sl false 5 (encTs (t :: r))
theorem encTs_eq:∀ ts:List Tm,encTs ts=ts.map encT
  |[]=>rfl
  |t :: r=>by rw [encTs,encTs_eq r]; rfl
theorem encT_mk (k n:Int) (s:List UInt8) (ls:List Lv) (ts:List Tm):encT (.mk k n s ls ts) = .ag [iv k,iv n,sv s,encLv ls,encTv ts]:=by cases ts <;> simp [encT,encTv]
theorem encTv_pos {ts:List Tm} (h:0 < ts.length):encTv ts = .sl false 5 (ts.map encT):=by
  cases ts with
  |nil=>simp at h
  |cons l r=>simp only [encTv,encTs_eq]
theorem encLv_open (ls:List Lv):∃ b z xs,encLv ls = .sl b z xs:=by cases ls <;> exact ⟨_,_,_,rfl⟩
theorem encTv_open (ls:List Tm):∃ b z xs,encTv ls = .sl b z xs:=by cases ls <;> exact ⟨_,_,_,rfl⟩
theorem encT_open (t:Tm):∃ k n s b z xs c y ys,encT t = .ag [iv k,iv n,sv s,.sl b z xs,.sl c y ys]:=by
  obtain ⟨k,n,s,ls,ts⟩:=t
  obtain ⟨b,z,xs,h1⟩:=encLv_open ls
  obtain ⟨c,y,ys,h2⟩:=encTv_open ts
  rw [encT_mk,h1,h2]
  exact ⟨_,_,_,_,_,_,_,_,_,rfl⟩
theorem encT_pure (t:Tm) (n:Nat):pur (n + 2) (encT t)=true:=by
  obtain ⟨k,nn,s,b,z,xs,c,y,ys,h⟩:=encT_open t
  rw [h]
  rfl
theorem encTs_pure (ts:List Tm) (n:Nat):(ts.map encT).all (pur (n + 2))=true:=by
  rw [List.all_eq_true]
  intro x hx
  obtain ⟨l,_,rfl⟩:=List.mem_map.1 hx
  exact encT_pure l n
theorem encLv_ok {ls:List Lv} {xs:List PV} (h:LvsP ls xs):∃ b z xs',encLv ls = .sl b z xs'∧(z=3∨xs'=[])∧LvsP ls xs':=by
  cases ls with
  |nil=>exact ⟨_,_,_,rfl,.inr rfl,by simp only [LvsP]⟩
  |cons l r=>exact ⟨_,_,_,rfl,.inl rfl,encLs_ok _ _ h⟩
mutual
theorem encT_ok:∀ (t:Tm) (v:PV),TmP t v→TmP t (encT t)
  | .mk k n s ls ts,v,h=>by
    simp only [TmP] at h
    obtain ⟨b,z,xs,c,y,ys,rfl,hz,hxs,hb,hy,hys,hc,hs,hn⟩:=h
    obtain ⟨b1,z1,xs1,e1,e2,e3⟩:=encLv_ok hxs
    have:=encTs_ok ts ys hys
    rw [encT_mk,e1]
    cases ts with
    |nil=>simp only [encTv,TmP,TmsP]; exact ⟨_,_,_,_,_,_,rfl,e2,e3,hb,.inr rfl,rfl,hc,hs,hn⟩
    |cons t r=>simp only [encTv,TmP]; exact ⟨_,_,_,_,_,_,rfl,e2,e3,hb,.inl rfl,this,hc,hs,hn⟩
theorem encTs_ok:∀ (ts:List Tm) (xs:List PV),TmsP ts xs→TmsP ts (encTs ts)
  |[],_,_=>by simp only [encTs,TmsP]
  |t :: r,xs,h=>by
    simp only [TmsP] at h
    obtain ⟨v,xs',rfl,h1,h2⟩:=h
    simp only [encTs,TmsP]
    exact ⟨_,_,rfl,encT_ok t v h1,encTs_ok r xs' h2⟩
end
-- the second loop of term.fresh: $1: the store's things ahead, but for what is made; $2: a slice of levels that is made; $3: numbers: the row's; $4, $5, $6: what they refer to
set_option maxHeartbeats 1000000 in
set_option maxRecDepth 100000 in
theorem fresh_can (t:Tm):∀ v,TmP t v→Pf C1 93 [v] [encT t]:=by
  induction t using Tm.ind with
  |_ k nn s ls ts ih =>
  intro v h
  obtain ⟨_,_,_,_,_,b,z,xs,c,y,ys,⟨rfl,rfl,rfl,rfl,rfl⟩,rfl,hz,hxs,hlen,hbd,hy,hys,hlen2,hbd2,hsl⟩:=h.open
  rw [encT_mk]
  refine run_intro Tryz.func93 rfl rfl rfl ?_
  repeat' ((conv=>whnf);first|refine gT ?_|refine gF ?_|refine VIf.not ?_|refine gA ?_|refine gB ?_|refine VIf.dec (fun h=>?_) (fun h=>?_)|refine gC ?_|refine gD ?_|refine VIf.mk (fun h=>?_) (fun h=>?_)|refine gO ?_|refine gP ?_|refine VNat.mk _ rfl ?_|refine gV ?_|refine vret_pf rfl ?_|refine vret_take rfl rfl ?_|refine gK ?_)
  all_goals (try (conv=>whnf))
  refine loop_over (G:=Nat) (fun i=>[(18,iv i)]) (fun i=>match i with
      |0=>[.box 25 [iv k,iv nn,sv s,.sl b z xs,.sl c y ys],.box 25 zTm,.box 25 [iv k,iv nn,sv s,.sl true 0 [],.sl true 0 []]]
      |n + 1=>[.box 25 [iv k,iv nn,sv s,.sl b z xs,.sl c y ys],.box 25 zTm,.box 25 [iv k,iv nn,sv s,.ms 4 (n + 1),.sl true 0 []],.dead,.row false 50 3 ((ls.take (n + 1)).map encL)]) (fun i=>i ≤ ls.length) (fun i=>ls.length - i) 0 (by omega) rfl rfl ?_
  intro i hi
  have hround:∀ (hi':i < ls.length),∃ lc,ls[i]? = some lc∧∃ v,xs[i]? = some v∧LvP lc v∧Pf C1 124 [.sl true 3 [v]] [encL lc]:=fun hi'=>by
    obtain ⟨lc,hlc⟩:∃ lc,ls[i]? = some lc:=⟨_,List.getElem?_eq_getElem hi'⟩
    obtain ⟨v,hv,hl⟩:=hxs.at hlc
    exact ⟨lc,hlc,v,hv,hl,max1_can lc v hl true 3 rfl⟩
  cases i with
  |zero =>
    repeat' ((conv=>whnf);first|refine gT ?_|refine gF ?_|refine VIf.not ?_|refine gA ?_|refine gB ?_|refine VIf.dec (fun h=>?_) (fun h=>?_)|refine gC ?_|refine gD ?_|refine VIf.mk (fun h=>?_) (fun h=>?_)|refine gO ?_|refine gP ?_|refine VNat.mk _ rfl ?_|refine gV ?_|refine vret_pf rfl ?_|refine vret_take rfl rfl ?_|refine gK ?_)
    all_goals (try (conv=>whnf))
    · obtain ⟨lc,hlc,v,hv,hl,hpl⟩:=hround (by omega)
      have e:(ls.take (0 + 1)).map encL=[encL lc]:=by rw [take_snoc' hlc]; rfl
      obtain ⟨k2,n2,b2,z2,x2,he⟩:=encL_open lc
      rw [he] at hpl e
      obtain ⟨k1,n1,l1,b1,z1,x1,rfl,rfl,hz1,hxs1,hlen1,hbd1⟩:=hl.open
      refine VIdx.mk _ hv (VOk.mk (szOk_of rfl hz) ?_)
      repeat' ((conv=>whnf);first|refine gT ?_|refine gF ?_|refine VIf.not ?_|refine gA ?_|refine gB ?_|refine VIf.dec (fun h=>?_) (fun h=>?_)|refine gC ?_|refine gD ?_|refine VIf.mk (fun h=>?_) (fun h=>?_)|refine gO ?_|refine gP ?_|refine VNat.mk _ rfl ?_|refine gV ?_|refine vret_pf rfl ?_|refine vret_take rfl rfl ?_|refine finds_pf hpl (fun _=>?_)|refine gK ?_)
      all_goals (try (conv=>whnf))
      exact VAgain.mk _ rfl _ (gc_sh (.cons (sh_box rfl rfl) (.cons (sh_box rfl rfl) (.cons (sh_box rfl rfl) (.cons (sh_box rfl rfl) (.cons (sh_row rfl) .nil))))) (.cons (sh_box rfl rfl) (.cons (sh_box rfl rfl) (.cons (sh_box rfl rfl) (.cons sh_dead (.cons (sh_row rfl) .nil))))) rfl rfl rfl rfl rfl) ⟨1,by omega,by omega,congrArg (fun t=>(⟨_,[.box _ [iv k,iv nn,sv s,.sl b z xs,.sl c y ys],.box _ zTm,.box _ [iv k,iv nn,sv s,.ms 4 1,.sl true 0 []],.dead,.row false _ 3 t]⟩:AS)) e.symm⟩
    · obtain rfl:ls=[]:=List.eq_nil_of_length_eq_zero (by omega)
      refine loop_over (G:=Nat) (fun j=>[(34,iv j)]) (fun j=>match j with
          |0=>[.box 25 [iv k,iv nn,sv s,.sl b z xs,.sl c y ys],.box 25 zTm,.box 25 [iv k,iv nn,sv s,.sl true 0 [],.sl true 0 []]]
          |n + 1=>[.box 25 [iv k,iv nn,sv s,.sl b z xs,.sl c y ys],.box 25 zTm,.box 25 [iv k,iv nn,sv s,.sl true 0 [],.ms 4 (n + 1)],.dead,.row false 25 5 ((ts.take (n + 1)).map encT)]) (fun j=>j ≤ ts.length) (fun j=>ts.length - j) 0 (by omega) rfl rfl ?_
      intro j hj
      have hround2:∀ (hj':j < ts.length),∃ lc,ts[j]? = some lc∧∃ v,ys[j]? = some v∧TmP lc v∧Pf C1 93 [v] [encT lc]:=fun hj'=>by
        obtain ⟨lc,hlc⟩:∃ lc,ts[j]? = some lc:=⟨_,List.getElem?_eq_getElem hj'⟩
        obtain ⟨v,hv,hl⟩:=hys.at hlc
        exact ⟨lc,hlc,v,hv,hl,ih _ (List.mem_of_getElem? hlc) _ hl⟩
      cases j with
      |zero =>
        repeat' ((conv=>whnf);first|refine gT ?_|refine gF ?_|refine VIf.not ?_|refine gA ?_|refine gB ?_|refine VIf.dec (fun h=>?_) (fun h=>?_)|refine gC ?_|refine gD ?_|refine VIf.mk (fun h=>?_) (fun h=>?_)|refine gO ?_|refine gP ?_|refine VNat.mk _ rfl ?_|refine gV ?_|refine vret_pf rfl ?_|refine vret_take rfl rfl ?_|refine gK ?_)
        all_goals (try (conv=>whnf))
        · obtain ⟨lc,hlc,v,hv,hl,hpl⟩:=hround2 (by omega)
          have e2:(ts.take (0 + 1)).map encT=[encT lc]:=by rw [take_snoc' hlc]; rfl
          obtain ⟨k2,n2,s2,b2,z2,x2,c2,y2,w2,he⟩:=encT_open lc
          rw [he] at hpl e2
          obtain ⟨k1,n1,s1,l1,t1,b1,z1,x1,c1,y1,ys1,rfl,rfl,hz1,hxs1,hlen1,hbd1,hy1,hys1,hlen21,hbd21,hsl1⟩:=hl.open
          refine VIdx.mk _ hv (VOk.mk (szOk_of rfl hy) ?_)
          repeat' ((conv=>whnf);first|refine gT ?_|refine gF ?_|refine VIf.not ?_|refine gA ?_|refine gB ?_|refine VIf.dec (fun h=>?_) (fun h=>?_)|refine gC ?_|refine gD ?_|refine VIf.mk (fun h=>?_) (fun h=>?_)|refine gO ?_|refine gP ?_|refine VNat.mk _ rfl ?_|refine gV ?_|refine vret_pf rfl ?_|refine vret_take rfl rfl ?_|refine finds_pf hpl (fun _=>?_)|refine gK ?_)
          all_goals (try (conv=>whnf))
          exact VAgain.mk _ rfl _ (gc_sh (.cons (sh_box rfl rfl) (.cons (sh_box rfl rfl) (.cons (sh_box rfl rfl) ( (.cons (sh_box rfl rfl) (.cons (sh_row rfl) .nil)))))) (.cons (sh_box rfl rfl) (.cons (sh_box rfl rfl) (.cons (sh_box rfl rfl) ( (.cons sh_dead (.cons (sh_row rfl) .nil)))))) rfl rfl rfl rfl rfl) ⟨1,by omega,by omega,congrArg (fun t=>(⟨_,[.box _ [iv k,iv nn,sv s,.sl b z xs,.sl c y ys],.box _ zTm,.box _ [iv k,iv nn,sv s,.sl true 0 [],.ms 4 1],.dead,.row false _ 5 t]⟩:AS)) e2.symm⟩
        · obtain rfl:ts=[]:=List.eq_nil_of_length_eq_zero (by omega)
          rfl
      |succ j =>
        have hlm:((ts.take (j + 1)).map encT).length=j + 1:=by simp; omega
        repeat' ((conv=>whnf);first|refine gT ?_|refine gF ?_|refine VIf.not ?_|refine gA ?_|refine gB ?_|refine VIf.dec (fun h=>?_) (fun h=>?_)|refine gC ?_|refine gD ?_|refine VIf.mk (fun h=>?_) (fun h=>?_)|refine gO ?_|refine gP ?_|refine VNat.mk _ rfl ?_|refine gV ?_|refine vret_pf rfl ?_|refine vret_take rfl rfl ?_|refine gK ?_)
        all_goals (try (conv=>whnf))
        · obtain ⟨lc,hlc,v,hv,hl,hpl⟩:=hround2 (by omega)
          have e2:(ts.take (j + 1 + 1)).map encT=(ts.take (j + 1)).map encT ++ [encT lc]:=by rw [take_snoc' hlc]; simp
          have hq8:((ts.take (j + 1)).map encT ++ [encT lc]).all (pur 8)=true:=e2 ▸ encTs_pure _ 6
          obtain ⟨k2,n2,s2,b2,z2,x2,c2,y2,w2,he⟩:=encT_open lc
          rw [he] at hpl e2 hq8
          obtain ⟨k1,n1,s1,l1,t1,b1,z1,x1,c1,y1,ys1,rfl,rfl,hz1,hxs1,hlen1,hbd1,hy1,hys1,hlen21,hbd21,hsl1⟩:=hl.open
          refine VIdx.mk _ hv (VOk.mk (szOk_of rfl hy) ?_)
          repeat' ((conv=>whnf);first|refine gT ?_|refine gF ?_|refine VIf.not ?_|refine gA ?_|refine gB ?_|refine VIf.dec (fun h=>?_) (fun h=>?_)|refine gC ?_|refine gD ?_|refine VIf.mk (fun h=>?_) (fun h=>?_)|refine gO ?_|refine gP ?_|refine VNat.mk _ rfl ?_|refine gV ?_|refine vret_pf rfl ?_|refine vret_take rfl rfl ?_|refine finds_pf hpl (fun _=>?_)|refine VOk.mk (grow_ok (w:=80) (r:=140737488355328) hlm rfl rfl rfl rfl (by simp only [List.length_cons,List.length_nil]; omega) (by simp only [List.length_cons,List.length_nil]; omega)) ?_|refine gK ?_)
          all_goals (try (conv=>whnf))
          exact VAgain.mk _ rfl _ (gc_sh (.cons (sh_box rfl rfl) (.cons (sh_box rfl rfl) (.cons (sh_box rfl rfl) ( (.cons sh_dead (.cons (sh_row hq8) (.cons (sh_box rfl rfl) .nil))))))) (.cons (sh_box rfl rfl) (.cons (sh_box rfl rfl) (.cons (sh_box rfl rfl) ( (.cons sh_dead (.cons (sh_row hq8) .nil)))))) rfl rfl rfl rfl rfl) ⟨j + 1 + 1,by omega,by omega,congrArg (fun t=>(⟨_,[.box _ [iv k,iv nn,sv s,.sl b z xs,.sl c y ys],.box _ zTm,.box _ [iv k,iv nn,sv s,.sl true 0 [],.ms 4 (j + 1 + 1)],.dead,.row false _ 5 t]⟩:AS)) e2.symm⟩
        · have hj':j + 1=ts.length:=by omega
          have e2:(ts.take (j + 1)).map encT=ts.map encT:=by rw [hj',List.take_length]
          (refine vret_pub rfl (mapS_cons (pubV_ag (mapS_cons rfl (mapS_cons rfl (mapS_cons rfl (mapS_cons rfl (mapS_cons (pubV_row rfl hlm.symm (encTs_pure _ 4)) mapS_nil)))))) mapS_nil) rfl ?_; rw [encTv_pos (by omega),← e2]; rfl)
  |succ i =>
    have hln:((ls.take (i + 1)).map encL).length=i + 1:=by simp; omega
    repeat' ((conv=>whnf);first|refine gT ?_|refine gF ?_|refine VIf.not ?_|refine gA ?_|refine gB ?_|refine VIf.dec (fun h=>?_) (fun h=>?_)|refine gC ?_|refine gD ?_|refine VIf.mk (fun h=>?_) (fun h=>?_)|refine gO ?_|refine gP ?_|refine VNat.mk _ rfl ?_|refine gV ?_|refine vret_pf rfl ?_|refine vret_take rfl rfl ?_|refine gK ?_)
    all_goals (try (conv=>whnf))
    · obtain ⟨lc,hlc,v,hv,hl,hpl⟩:=hround (by omega)
      have e:(ls.take (i + 1 + 1)).map encL=(ls.take (i + 1)).map encL ++ [encL lc]:=by rw [take_snoc' hlc]; simp
      have hp8:((ls.take (i + 1)).map encL ++ [encL lc]).all (pur 8)=true:=e ▸ encLs_pure _ 6
      obtain ⟨k2,n2,b2,z2,x2,he⟩:=encL_open lc
      rw [he] at hpl e hp8
      obtain ⟨k1,n1,l1,b1,z1,x1,rfl,rfl,hz1,hxs1,hlen1,hbd1⟩:=hl.open
      refine VIdx.mk _ hv (VOk.mk (szOk_of rfl hz) ?_)
      repeat' ((conv=>whnf);first|refine gT ?_|refine gF ?_|refine VIf.not ?_|refine gA ?_|refine gB ?_|refine VIf.dec (fun h=>?_) (fun h=>?_)|refine gC ?_|refine gD ?_|refine VIf.mk (fun h=>?_) (fun h=>?_)|refine gO ?_|refine gP ?_|refine VNat.mk _ rfl ?_|refine gV ?_|refine vret_pf rfl ?_|refine vret_take rfl rfl ?_|refine finds_pf hpl (fun _=>?_)|refine VOk.mk (grow_ok (w:=40) (r:=140737488355328) hln rfl rfl rfl rfl (by simp only [List.length_cons,List.length_nil]; omega) (by simp only [List.length_cons,List.length_nil]; omega)) ?_|refine gK ?_)
      all_goals (try (conv=>whnf))
      exact VAgain.mk _ rfl _ (gc_sh (.cons (sh_box rfl rfl) (.cons (sh_box rfl rfl) (.cons (sh_box rfl rfl) (.cons sh_dead (.cons (sh_row hp8) (.cons (sh_box rfl rfl) .nil)))))) (.cons (sh_box rfl rfl) (.cons (sh_box rfl rfl) (.cons (sh_box rfl rfl) (.cons sh_dead (.cons (sh_row hp8) .nil))))) rfl rfl rfl rfl rfl) ⟨i + 1 + 1,by omega,by omega,congrArg (fun t=>(⟨_,[.box _ [iv k,iv nn,sv s,.sl b z xs,.sl c y ys],.box _ zTm,.box _ [iv k,iv nn,sv s,.ms 4 (i + 1 + 1),.sl true 0 []],.dead,.row false _ 3 t]⟩:AS)) e.symm⟩
    · have hi':i + 1=ls.length:=by omega
      have e:(ls.take (i + 1)).map encL=ls.map encL:=by rw [hi',List.take_length]
      have hlv:encLv ls = .sl false 3 ((ls.take (i + 1)).map encL):=by rw [encLv_pos (by omega),e]
      have hpu:((ls.take (i + 1)).map encL).all (pur 8)=true:=encLs_pure _ 6
      have hpu6:((ls.take (i + 1)).map encL).all (pur 6)=true:=encLs_pure _ 4
      rw [hlv]
      refine loop_over (G:=Nat) (fun j=>[(34,iv j)]) (fun j=>match j with
          |0=>[.box 25 [iv k,iv nn,sv s,.sl b z xs,.sl c y ys],.box 25 zTm,.box 25 [iv k,iv nn,sv s,.ms 4 (i + 1),.sl true 0 []],.dead,.row false 50 3 ((ls.take (i + 1)).map encL)]
          |n + 1=>[.box 25 [iv k,iv nn,sv s,.sl b z xs,.sl c y ys],.box 25 zTm,.box 25 [iv k,iv nn,sv s,.ms 4 (i + 1),.ms 6 (n + 1)],.dead,.row false 50 3 ((ls.take (i + 1)).map encL),.dead,.row false 25 5 ((ts.take (n + 1)).map encT)]) (fun j=>j ≤ ts.length) (fun j=>ts.length - j) 0 (by omega) rfl rfl ?_
      intro j hj
      have hround2:∀ (hj':j < ts.length),∃ lc,ts[j]? = some lc∧∃ v,ys[j]? = some v∧TmP lc v∧Pf C1 93 [v] [encT lc]:=fun hj'=>by
        obtain ⟨lc,hlc⟩:∃ lc,ts[j]? = some lc:=⟨_,List.getElem?_eq_getElem hj'⟩
        obtain ⟨v,hv,hl⟩:=hys.at hlc
        exact ⟨lc,hlc,v,hv,hl,ih _ (List.mem_of_getElem? hlc) _ hl⟩
      cases j with
      |zero =>
        repeat' ((conv=>whnf);first|refine gT ?_|refine gF ?_|refine VIf.not ?_|refine gA ?_|refine gB ?_|refine VIf.dec (fun h=>?_) (fun h=>?_)|refine gC ?_|refine gD ?_|refine VIf.mk (fun h=>?_) (fun h=>?_)|refine gO ?_|refine gP ?_|refine VNat.mk _ rfl ?_|refine gV ?_|refine vret_pf rfl ?_|refine vret_take rfl rfl ?_|refine gK ?_)
        all_goals (try (conv=>whnf))
        · obtain ⟨lc,hlc,v,hv,hl,hpl⟩:=hround2 (by omega)
          have e2:(ts.take (0 + 1)).map encT=[encT lc]:=by rw [take_snoc' hlc]; rfl
          obtain ⟨k2,n2,s2,b2,z2,x2,c2,y2,w2,he⟩:=encT_open lc
          rw [he] at hpl e2
          obtain ⟨k1,n1,s1,l1,t1,b1,z1,x1,c1,y1,ys1,rfl,rfl,hz1,hxs1,hlen1,hbd1,hy1,hys1,hlen21,hbd21,hsl1⟩:=hl.open
          refine VIdx.mk _ hv (VOk.mk (szOk_of rfl hy) ?_)
          repeat' ((conv=>whnf);first|refine gT ?_|refine gF ?_|refine VIf.not ?_|refine gA ?_|refine gB ?_|refine VIf.dec (fun h=>?_) (fun h=>?_)|refine gC ?_|refine gD ?_|refine VIf.mk (fun h=>?_) (fun h=>?_)|refine gO ?_|refine gP ?_|refine VNat.mk _ rfl ?_|refine gV ?_|refine vret_pf rfl ?_|refine vret_take rfl rfl ?_|refine finds_pf hpl (fun _=>?_)|refine gK ?_)
          all_goals (try (conv=>whnf))
          exact VAgain.mk _ rfl _ (gc_sh (.cons (sh_box rfl rfl) (.cons (sh_box rfl rfl) (.cons (sh_box rfl rfl) (.cons sh_dead (.cons (sh_row hpu) (.cons (sh_box rfl rfl) (.cons (sh_row rfl) .nil))))))) (.cons (sh_box rfl rfl) (.cons (sh_box rfl rfl) (.cons (sh_box rfl rfl) (.cons sh_dead (.cons (sh_row hpu) (.cons sh_dead (.cons (sh_row rfl) .nil))))))) rfl rfl rfl rfl rfl) ⟨1,by omega,by omega,congrArg (fun t=>(⟨_,[.box _ [iv k,iv nn,sv s,.sl b z xs,.sl c y ys],.box _ zTm,.box _ [iv k,iv nn,sv s,.ms 4 (i + 1),.ms 6 1],.dead,.row false 50 3 ((ls.take (i + 1)).map encL),.dead,.row false _ 5 t]⟩:AS)) e2.symm⟩
        · obtain rfl:ts=[]:=List.eq_nil_of_length_eq_zero (by omega)
          (refine vret_pub rfl (mapS_cons (pubV_ag (mapS_cons rfl (mapS_cons rfl (mapS_cons rfl (mapS_cons (pubV_row rfl hln.symm hpu6) (mapS_cons rfl mapS_nil)))))) mapS_nil) rfl ?_; rfl)
      |succ j =>
        have hlm:((ts.take (j + 1)).map encT).length=j + 1:=by simp; omega
        repeat' ((conv=>whnf);first|refine gT ?_|refine gF ?_|refine VIf.not ?_|refine gA ?_|refine gB ?_|refine VIf.dec (fun h=>?_) (fun h=>?_)|refine gC ?_|refine gD ?_|refine VIf.mk (fun h=>?_) (fun h=>?_)|refine gO ?_|refine gP ?_|refine VNat.mk _ rfl ?_|refine gV ?_|refine vret_pf rfl ?_|refine vret_take rfl rfl ?_|refine gK ?_)
        all_goals (try (conv=>whnf))
        · obtain ⟨lc,hlc,v,hv,hl,hpl⟩:=hround2 (by omega)
          have e2:(ts.take (j + 1 + 1)).map encT=(ts.take (j + 1)).map encT ++ [encT lc]:=by rw [take_snoc' hlc]; simp
          have hq8:((ts.take (j + 1)).map encT ++ [encT lc]).all (pur 8)=true:=e2 ▸ encTs_pure _ 6
          obtain ⟨k2,n2,s2,b2,z2,x2,c2,y2,w2,he⟩:=encT_open lc
          rw [he] at hpl e2 hq8
          obtain ⟨k1,n1,s1,l1,t1,b1,z1,x1,c1,y1,ys1,rfl,rfl,hz1,hxs1,hlen1,hbd1,hy1,hys1,hlen21,hbd21,hsl1⟩:=hl.open
          refine VIdx.mk _ hv (VOk.mk (szOk_of rfl hy) ?_)
          repeat' ((conv=>whnf);first|refine gT ?_|refine gF ?_|refine VIf.not ?_|refine gA ?_|refine gB ?_|refine VIf.dec (fun h=>?_) (fun h=>?_)|refine gC ?_|refine gD ?_|refine VIf.mk (fun h=>?_) (fun h=>?_)|refine gO ?_|refine gP ?_|refine VNat.mk _ rfl ?_|refine gV ?_|refine vret_pf rfl ?_|refine vret_take rfl rfl ?_|refine finds_pf hpl (fun _=>?_)|refine VOk.mk (grow_ok (w:=80) (r:=140737488355328) hlm rfl rfl rfl rfl (by simp only [List.length_cons,List.length_nil]; omega) (by simp only [List.length_cons,List.length_nil]; omega)) ?_|refine gK ?_)
          all_goals (try (conv=>whnf))
          exact VAgain.mk _ rfl _ (gc_sh (.cons (sh_box rfl rfl) (.cons (sh_box rfl rfl) (.cons (sh_box rfl rfl) (.cons sh_dead (.cons (sh_row hpu) (.cons sh_dead (.cons (sh_row hq8) (.cons (sh_box rfl rfl) .nil)))))))) (.cons (sh_box rfl rfl) (.cons (sh_box rfl rfl) (.cons (sh_box rfl rfl) (.cons sh_dead (.cons (sh_row hpu) (.cons sh_dead (.cons (sh_row hq8) .nil))))))) rfl rfl rfl rfl rfl) ⟨j + 1 + 1,by omega,by omega,congrArg (fun t=>(⟨_,[.box _ [iv k,iv nn,sv s,.sl b z xs,.sl c y ys],.box _ zTm,.box _ [iv k,iv nn,sv s,.ms 4 (i + 1),.ms 6 (j + 1 + 1)],.dead,.row false 50 3 ((ls.take (i + 1)).map encL),.dead,.row false _ 5 t]⟩:AS)) e2.symm⟩
        · have hj':j + 1=ts.length:=by omega
          have e2:(ts.take (j + 1)).map encT=ts.map encT:=by rw [hj',List.take_length]
          (refine vret_pub rfl (mapS_cons (pubV_ag (mapS_cons rfl (mapS_cons rfl (mapS_cons rfl (mapS_cons (pubV_row rfl hln.symm hpu6) (mapS_cons (pubV_row rfl hlm.symm (encTs_pure _ 4)) mapS_nil)))))) mapS_nil) rfl ?_; rw [encTv_pos (by omega),← e2]; try rfl)
end Go.Proofs.YtehhihdahalfeaaGreatDoor
