/-
  Copies of levels and terms (scholiumref00). No statement of the seat.
-/
import Derived.Test.YtehhihdahalfeaaGreatDoorZPt
import Derived.Test.YtehhihdahalfeaaGreatDoorZSh
import Derived.Test.YtehhihdahalfeaaGreatDoorZDg
set_option linter.unusedVariables false
set_option linter.unusedSimpArgs false
set_option linter.unnecessarySimpa false
namespace Go.Proofs.YtehhihdahalfeaaGreatDoor
open Go Go.Am Go.Gw
set_option maxHeartbeats 1000000 in
set_option maxRecDepth 100000 in
theorem CopyLevel_can (l:Lv):∀ v,LvP l v→Pf C1 96 [v] [encL l]:=by
  induction l using Lv.ind with
  |_ k nn ls ih =>
  intro v h
  obtain ⟨_,_,_,b,z,xs,⟨rfl,rfl,rfl⟩,rfl,hz,hxs,hlen,hbd⟩:=h.open
  have henc:encL (.mk k nn ls) = .ag [iv k,iv nn,encLv ls]:=by cases ls <;> rfl
  rw [henc]
  refine run_intro Tryz.func96 rfl rfl rfl ?_
  repeat' ((conv=>whnf);first|refine gT ?_|refine gF ?_|refine VIf.not ?_|refine gA ?_|refine gB ?_|refine VIf.dec (fun h=>?_) (fun h=>?_)|refine gC ?_|refine gD ?_|refine VIf.mk (fun h=>?_) (fun h=>?_)|refine gO ?_|refine gP ?_|refine VNat.mk _ rfl ?_|refine gV ?_|refine vret_pf rfl ?_|refine vret_take rfl rfl ?_|refine gK ?_)
  all_goals (try (conv=>whnf))
  refine loop_over (G:=Nat) (fun i=>[(4,iv i)]) (fun i=>match i with
      |0=>[.box 50 [iv k,iv nn,.sl b z xs],.box 50 [iv 0,iv 0,.sl true 0 []],.box 50 [iv k,iv nn,.sl true 0 []]]
      |n + 1=>[.box 50 [iv k,iv nn,.sl b z xs],.box 50 [iv 0,iv 0,.sl true 0 []],.box 50 [iv k,iv nn,.ms 3 (n + 1)],.row false 50 3 ((ls.take (n + 1)).map encL)]) (fun i=>i ≤ ls.length) (fun i=>ls.length - i) 0 (by omega) rfl rfl ?_
  intro i hi
  have hround:∀ (hi':i < ls.length),∃ lc,ls[i]? = some lc∧∃ v,xs[i]? = some v∧LvP lc v∧Pf C1 96 [v] [encL lc]:=fun hi'=>by
    obtain ⟨lc,hlc⟩:∃ lc,ls[i]? = some lc:=⟨_,List.getElem?_eq_getElem hi'⟩
    obtain ⟨v,hv,hl⟩:=hxs.at hlc
    exact ⟨lc,hlc,v,hv,hl,ih _ (List.mem_of_getElem? hlc) _ hl⟩
  cases i with
  |zero =>
    repeat' ((conv=>whnf);first|refine gT ?_|refine gF ?_|refine VIf.not ?_|refine gA ?_|refine gB ?_|refine VIf.dec (fun h=>?_) (fun h=>?_)|refine gC ?_|refine gD ?_|refine VIf.mk (fun h=>?_) (fun h=>?_)|refine gO ?_|refine gP ?_|refine VNat.mk _ rfl ?_|refine gV ?_|refine vret_pf rfl ?_|refine vret_take rfl rfl ?_|refine gK ?_)
    all_goals (try (conv=>whnf))
    · obtain ⟨lc,hlc,v,hv,hl,hpl⟩:=hround (by omega)
      have e:(ls.take (0 + 1)).map encL=[encL lc]:=by rw [take_snoc' hlc]; rfl
      obtain ⟨k2,n2,b2,z2,x2,he⟩:=encL_open lc
      rw [he] at hpl e
      obtain ⟨k1,n1,l1,b1,z1,x1,rfl,rfl,hz1,hxs1,hlen1,hbd1⟩:=hl.open
      repeat' ((conv=>whnf);first|refine gT ?_|refine gF ?_|refine VIf.not ?_|refine gA ?_|refine gB ?_|refine VIf.dec (fun h=>?_) (fun h=>?_)|refine gC ?_|refine gD ?_|refine VIf.mk (fun h=>?_) (fun h=>?_)|refine gO ?_|refine gP ?_|refine VNat.mk _ rfl ?_|refine gV ?_|refine vret_pf rfl ?_|refine vret_take rfl rfl ?_|refine VIdx.mk _ hv ?_|refine VOk.mk (szOk_of rfl hz) ?_|refine vcall_pf hpl rfl rfl ?_|refine finds_pf hpl (fun _=>?_)|refine gK ?_)
      all_goals (try (conv=>whnf))
      exact VAgain.mk _ rfl _ (gc_sh (.cons (sh_box rfl rfl) (.cons (sh_box rfl rfl) (.cons (sh_box rfl rfl) (.cons (sh_row rfl) .nil)))) (.cons (sh_box rfl rfl) (.cons (sh_box rfl rfl) (.cons (sh_box rfl rfl) (.cons (sh_row rfl) .nil)))) rfl rfl rfl rfl rfl) ⟨1,by omega,by omega,congrArg (AS.mk _) (by dsimp only; rw [e]; rfl)⟩
    · obtain rfl:ls=[]:=List.eq_nil_of_length_eq_zero (by omega)
      rfl
  |succ i =>
    have hln:((ls.take (i + 1)).map encL).length=i + 1:=by simp; omega
    repeat' ((conv=>whnf);first|refine gT ?_|refine gF ?_|refine VIf.not ?_|refine gA ?_|refine gB ?_|refine VIf.dec (fun h=>?_) (fun h=>?_)|refine gC ?_|refine gD ?_|refine VIf.mk (fun h=>?_) (fun h=>?_)|refine gO ?_|refine gP ?_|refine VNat.mk _ rfl ?_|refine gV ?_|refine vret_pf rfl ?_|refine vret_take rfl rfl ?_|refine gK ?_)
    all_goals (try (conv=>whnf))
    · obtain ⟨lc,hlc,v,hv,hl,hpl⟩:=hround (by omega)
      have e:(ls.take (i + 1 + 1)).map encL=(ls.take (i + 1)).map encL ++ [encL lc]:=by rw [take_snoc' hlc]; simp
      have hp8:((ls.take (i + 1)).map encL ++ [encL lc]).all (pur 8)=true:=e ▸ encLs_pure _ 6
      obtain ⟨k2,n2,b2,z2,x2,he⟩:=encL_open lc
      rw [he] at hpl e hp8
      obtain ⟨k1,n1,l1,b1,z1,x1,rfl,rfl,hz1,hxs1,hlen1,hbd1⟩:=hl.open
      repeat' ((conv=>whnf);first|refine gT ?_|refine gF ?_|refine VIf.not ?_|refine gA ?_|refine gB ?_|refine VIf.dec (fun h=>?_) (fun h=>?_)|refine gC ?_|refine gD ?_|refine VIf.mk (fun h=>?_) (fun h=>?_)|refine gO ?_|refine gP ?_|refine VNat.mk _ rfl ?_|refine gV ?_|refine vret_pf rfl ?_|refine vret_take rfl rfl ?_|refine VIdx.mk _ hv ?_|refine VOk.mk (szOk_of rfl hz) ?_|refine vcall_pf hpl rfl rfl ?_|refine finds_pf hpl (fun _=>?_)|refine VOk.mk (grow_ok (w:=40) (r:=140737488355328) hln rfl rfl rfl rfl (by simp only [List.length_cons,List.length_nil]; omega) (by simp only [List.length_cons,List.length_nil]; omega)) ?_|refine gK ?_)
      all_goals (try (conv=>whnf))
      exact VAgain.mk _ rfl _ (gc_sh (.cons (sh_box rfl rfl) (.cons (sh_box rfl rfl) (.cons (sh_box rfl rfl) (.cons (sh_row hp8) .nil)))) (.cons (sh_box rfl rfl) (.cons (sh_box rfl rfl) (.cons (sh_box rfl rfl) (.cons (sh_row hp8) .nil)))) rfl rfl rfl rfl rfl) ⟨i + 1 + 1,by omega,by omega,congrArg (AS.mk _) (by dsimp only; rw [e]; rfl)⟩
    · have hi':i + 1=ls.length:=by omega
      have e:(ls.take (i + 1)).map encL=ls.map encL:=by rw [hi',List.take_length]
      refine vret_pub rfl (mapS_cons (pubV_ag (mapS_cons rfl (mapS_cons rfl (mapS_cons (pubV_row rfl hln.symm (encLs_pure _ 4)) mapS_nil)))) mapS_nil) rfl ?_
      rw [encLv_pos (by omega),← e]
-- the second loop: $1: what lies there behind what is made; $2: a slice of levels that is made; $3: the row's number; $4: shapes; $5, $6: the ends
set_option maxHeartbeats 2000000 in
set_option maxRecDepth 100000 in
theorem CopyTerm_can (t:Tm):∀ v,TmP t v→Pf C1 57 [v] [encT t]:=by
  induction t using Tm.ind with
  |_ k nn s ls ts ih =>
  intro v h
  obtain ⟨_,_,_,_,_,b,z,xs,c,y,ys,⟨rfl,rfl,rfl,rfl,rfl⟩,rfl,hz,hxs,hlen,hbd,hy,hys,hlen2,hbd2,hsl⟩:=h.open
  rw [encT_mk]
  refine run_intro Tryz.func57 rfl rfl rfl ?_
  repeat' ((conv=>whnf);first|refine gT ?_|refine gF ?_|refine VIf.not ?_|refine gA ?_|refine gB ?_|refine VIf.dec (fun h=>?_) (fun h=>?_)|refine gC ?_|refine gD ?_|refine VIf.mk (fun h=>?_) (fun h=>?_)|refine gO ?_|refine gP ?_|refine VNat.mk _ rfl ?_|refine gV ?_|refine vret_pf rfl ?_|refine vret_take rfl rfl ?_|refine gK ?_)
  all_goals (try (conv=>whnf))
  refine loop_over (G:=Nat) (fun i=>[(4,iv i)]) (fun i=>match i with
      |0=>[.box 25 [iv k,iv nn,sv s,.sl b z xs,.sl c y ys],.box 25 zTm,.box 25 [iv k,iv nn,sv s,.sl true 0 [],.sl true 0 []]]
      |n + 1=>[.box 25 [iv k,iv nn,sv s,.sl b z xs,.sl c y ys],.box 25 zTm,.box 25 [iv k,iv nn,sv s,.ms 3 (n + 1),.sl true 0 []],.row false 50 3 ((ls.take (n + 1)).map encL)]) (fun i=>i ≤ ls.length) (fun i=>ls.length - i) 0 (by omega) rfl rfl ?_
  intro i hi
  have hround:∀ (hi':i < ls.length),∃ lc,ls[i]? = some lc∧∃ v,xs[i]? = some v∧LvP lc v∧Pf C1 96 [v] [encL lc]:=fun hi'=>by
    obtain ⟨lc,hlc⟩:∃ lc,ls[i]? = some lc:=⟨_,List.getElem?_eq_getElem hi'⟩
    obtain ⟨v,hv,hl⟩:=hxs.at hlc
    exact ⟨lc,hlc,v,hv,hl,CopyLevel_can lc v hl⟩
  cases i with
  |zero =>
    repeat' ((conv=>whnf);first|refine gT ?_|refine gF ?_|refine VIf.not ?_|refine gA ?_|refine gB ?_|refine VIf.dec (fun h=>?_) (fun h=>?_)|refine gC ?_|refine gD ?_|refine VIf.mk (fun h=>?_) (fun h=>?_)|refine gO ?_|refine gP ?_|refine VNat.mk _ rfl ?_|refine gV ?_|refine vret_pf rfl ?_|refine vret_take rfl rfl ?_|refine gK ?_)
    all_goals (try (conv=>whnf))
    · obtain ⟨lc,hlc,v,hv,hl,hpl⟩:=hround (by omega)
      have e:(ls.take (0 + 1)).map encL=[encL lc]:=by rw [take_snoc' hlc]; rfl
      obtain ⟨k2,n2,b2,z2,x2,he⟩:=encL_open lc
      rw [he] at hpl e
      obtain ⟨k1,n1,l1,b1,z1,x1,rfl,rfl,hz1,hxs1,hlen1,hbd1⟩:=hl.open
      repeat' ((conv=>whnf);first|refine gT ?_|refine gF ?_|refine VIf.not ?_|refine gA ?_|refine gB ?_|refine VIf.dec (fun h=>?_) (fun h=>?_)|refine gC ?_|refine gD ?_|refine VIf.mk (fun h=>?_) (fun h=>?_)|refine gO ?_|refine gP ?_|refine VNat.mk _ rfl ?_|refine gV ?_|refine vret_pf rfl ?_|refine vret_take rfl rfl ?_|refine VIdx.mk _ hv ?_|refine VOk.mk (szOk_of rfl hz) ?_|refine vcall_pf hpl rfl rfl ?_|refine finds_pf hpl (fun _=>?_)|refine gK ?_)
      all_goals (try (conv=>whnf))
      exact VAgain.mk _ rfl _ (gc_sh (.cons (sh_box rfl rfl) (.cons (sh_box rfl rfl) (.cons (sh_box rfl rfl) (.cons (sh_row rfl) .nil)))) (.cons (sh_box rfl rfl) (.cons (sh_box rfl rfl) (.cons (sh_box rfl rfl) (.cons (sh_row rfl) .nil)))) rfl rfl rfl rfl rfl) ⟨1,by omega,by omega,congrArg (AS.mk _) (by dsimp only; rw [e]; rfl)⟩
    · obtain rfl:ls=[]:=List.eq_nil_of_length_eq_zero (by omega)
      refine loop_over (G:=Nat) (fun j=>[(5,iv j)]) (fun j=>match j with
          |0=>[.box 25 [iv k,iv nn,sv s,.sl b z xs,.sl c y ys],.box 25 zTm,.box 25 [iv k,iv nn,sv s,.sl true 0 [],.sl true 0 []]]
          |n + 1=>[.box 25 [iv k,iv nn,sv s,.sl b z xs,.sl c y ys],.box 25 zTm,.box 25 [iv k,iv nn,sv s,.sl true 0 [],.ms 3 (n + 1)],.row false 25 5 ((ts.take (n + 1)).map encT)]) (fun j=>j ≤ ts.length) (fun j=>ts.length - j) 0 (by omega) rfl rfl ?_
      intro j hj
      have hround2:∀ (hj':j < ts.length),∃ lc,ts[j]? = some lc∧∃ v,ys[j]? = some v∧TmP lc v∧Pf C1 57 [v] [encT lc]:=fun hj'=>by
        obtain ⟨lc,hlc⟩:∃ lc,ts[j]? = some lc:=⟨_,List.getElem?_eq_getElem hj'⟩
        obtain ⟨v,hv,hl⟩:=hys.at hlc
        exact ⟨lc,hlc,v,hv,hl,ih _ (List.mem_of_getElem? hlc) _ hl⟩
      cases j with
      |zero =>
        repeat' ((conv=>whnf);first|refine gT ?_|refine gF ?_|refine VIf.not ?_|refine gA ?_|refine gB ?_|refine VIf.dec (fun h=>?_) (fun h=>?_)|refine gC ?_|refine gD ?_|refine VIf.mk (fun h=>?_) (fun h=>?_)|refine gO ?_|refine gP ?_|refine VNat.mk _ rfl ?_|refine gV ?_|refine vret_pf rfl ?_|refine vret_take rfl rfl ?_|refine gK ?_)
        all_goals (try (conv=>whnf))
        · obtain ⟨lc,hlc,v,hv,hl,hpl⟩:=hround2 (by omega)
          have e2:(ts.take (0 + 1)).map encT=[encT lc]:=by rw [take_snoc' hlc]; rfl
          obtain ⟨k2,n2,s2,b2,z2,x2,c2,y2,w2,he⟩:=encT_open lc
          rw [he] at hpl e2
          obtain ⟨k1,n1,s1,l1,t1,b1,z1,x1,c1,y1,ys1,rfl,rfl,hz1,hxs1,hlen1,hbd1,hy1,hys1,hlen21,hbd21,hsl1⟩:=hl.open
          repeat' ((conv=>whnf);first|refine gT ?_|refine gF ?_|refine VIf.not ?_|refine gA ?_|refine gB ?_|refine VIf.dec (fun h=>?_) (fun h=>?_)|refine gC ?_|refine gD ?_|refine VIf.mk (fun h=>?_) (fun h=>?_)|refine gO ?_|refine gP ?_|refine VNat.mk _ rfl ?_|refine gV ?_|refine vret_pf rfl ?_|refine vret_take rfl rfl ?_|refine VIdx.mk _ hv ?_|refine VOk.mk (szOk_of rfl hy) ?_|refine vcall_pf hpl rfl rfl ?_|refine finds_pf hpl (fun _=>?_)|refine gK ?_)
          all_goals (try (conv=>whnf))
          exact VAgain.mk _ rfl _ (gc_sh (.cons (sh_box rfl rfl) (.cons (sh_box rfl rfl) (.cons (sh_box rfl rfl) (.cons (sh_row rfl) .nil)))) (.cons (sh_box rfl rfl) (.cons (sh_box rfl rfl) (.cons (sh_box rfl rfl) (.cons (sh_row rfl) .nil)))) rfl rfl rfl rfl rfl) ⟨1,by omega,by omega,congrArg (AS.mk _) (by dsimp only; rw [e2]; rfl)⟩
        · obtain rfl:ts=[]:=List.eq_nil_of_length_eq_zero (by omega)
          rfl
      |succ j =>
        have hlm:((ts.take (j + 1)).map encT).length=j + 1:=by simp; omega
        repeat' ((conv=>whnf);first|refine gT ?_|refine gF ?_|refine VIf.not ?_|refine gA ?_|refine gB ?_|refine VIf.dec (fun h=>?_) (fun h=>?_)|refine gC ?_|refine gD ?_|refine VIf.mk (fun h=>?_) (fun h=>?_)|refine gO ?_|refine gP ?_|refine VNat.mk _ rfl ?_|refine gV ?_|refine vret_pf rfl ?_|refine vret_take rfl rfl ?_|refine gK ?_)
        all_goals (try (conv=>whnf))
        · obtain ⟨lc,hlc,v,hv,hl,hpl⟩:=hround2 (by omega)
          have e2:(ts.take (j + 1 + 1)).map encT=(ts.take (j + 1)).map encT ++ [encT lc]:=by rw [take_snoc' hlc]; simp
          have hp8:((ts.take (j + 1)).map encT ++ [encT lc]).all (pur 8)=true:=e2 ▸ encTs_pure _ 6
          obtain ⟨k2,n2,s2,b2,z2,x2,c2,y2,w2,he⟩:=encT_open lc
          rw [he] at hpl e2 hp8
          obtain ⟨k1,n1,s1,l1,t1,b1,z1,x1,c1,y1,ys1,rfl,rfl,hz1,hxs1,hlen1,hbd1,hy1,hys1,hlen21,hbd21,hsl1⟩:=hl.open
          repeat' ((conv=>whnf);first|refine gT ?_|refine gF ?_|refine VIf.not ?_|refine gA ?_|refine gB ?_|refine VIf.dec (fun h=>?_) (fun h=>?_)|refine gC ?_|refine gD ?_|refine VIf.mk (fun h=>?_) (fun h=>?_)|refine gO ?_|refine gP ?_|refine VNat.mk _ rfl ?_|refine gV ?_|refine vret_pf rfl ?_|refine vret_take rfl rfl ?_|refine VIdx.mk _ hv ?_|refine VOk.mk (szOk_of rfl hy) ?_|refine vcall_pf hpl rfl rfl ?_|refine finds_pf hpl (fun _=>?_)|refine VOk.mk (grow_ok (w:=80) (r:=140737488355328) hlm rfl rfl rfl rfl (by simp only [List.length_cons,List.length_nil]; omega) (by simp only [List.length_cons,List.length_nil]; omega)) ?_|refine gK ?_)
          all_goals (try (conv=>whnf))
          exact VAgain.mk _ rfl _ (gc_sh (.cons (sh_box rfl rfl) (.cons (sh_box rfl rfl) (.cons (sh_box rfl rfl) (.cons (sh_row hp8) .nil)))) (.cons (sh_box rfl rfl) (.cons (sh_box rfl rfl) (.cons (sh_box rfl rfl) (.cons (sh_row hp8) .nil)))) rfl rfl rfl rfl rfl) ⟨j + 1 + 1,by omega,by omega,congrArg (AS.mk _) (by dsimp only; rw [e2]; rfl)⟩
        · have hj':j + 1=ts.length:=by omega
          have e2:(ts.take (j + 1)).map encT=ts.map encT:=by rw [hj',List.take_length]
          (refine vret_pub rfl (mapS_cons (pubV_ag (mapS_cons rfl (mapS_cons rfl (mapS_cons rfl (mapS_cons rfl (mapS_cons (pubV_row rfl hlm.symm (encTs_pure _ 4)) mapS_nil)))))) mapS_nil) rfl ?_; rw [encTv_pos (by omega),← e2]; rfl)
  |succ i =>
    have hln:((ls.take (i + 1)).map encL).length=i + 1:=by simp; omega
    repeat' ((conv=>whnf);first|refine gT ?_|refine gF ?_|refine VIf.not ?_|refine gA ?_|refine gB ?_|refine VIf.dec (fun h=>?_) (fun h=>?_)|refine gC ?_|refine gD ?_|refine VIf.mk (fun h=>?_) (fun h=>?_)|refine gO ?_|refine gP ?_|refine VNat.mk _ rfl ?_|refine gV ?_|refine vret_pf rfl ?_|refine vret_take rfl rfl ?_|refine gK ?_)
    all_goals (try (conv=>whnf))
    · obtain ⟨lc,hlc,v,hv,hl,hpl⟩:=hround (by omega)
      have e:(ls.take (i + 1 + 1)).map encL=(ls.take (i + 1)).map encL ++ [encL lc]:=by rw [take_snoc' hlc]; simp
      have hp8:((ls.take (i + 1)).map encL ++ [encL lc]).all (pur 8)=true:=e ▸ encLs_pure _ 6
      obtain ⟨k2,n2,b2,z2,x2,he⟩:=encL_open lc
      rw [he] at hpl e hp8
      obtain ⟨k1,n1,l1,b1,z1,x1,rfl,rfl,hz1,hxs1,hlen1,hbd1⟩:=hl.open
      repeat' ((conv=>whnf);first|refine gT ?_|refine gF ?_|refine VIf.not ?_|refine gA ?_|refine gB ?_|refine VIf.dec (fun h=>?_) (fun h=>?_)|refine gC ?_|refine gD ?_|refine VIf.mk (fun h=>?_) (fun h=>?_)|refine gO ?_|refine gP ?_|refine VNat.mk _ rfl ?_|refine gV ?_|refine vret_pf rfl ?_|refine vret_take rfl rfl ?_|refine VIdx.mk _ hv ?_|refine VOk.mk (szOk_of rfl hz) ?_|refine vcall_pf hpl rfl rfl ?_|refine finds_pf hpl (fun _=>?_)|refine VOk.mk (grow_ok (w:=40) (r:=140737488355328) hln rfl rfl rfl rfl (by simp only [List.length_cons,List.length_nil]; omega) (by simp only [List.length_cons,List.length_nil]; omega)) ?_|refine gK ?_)
      all_goals (try (conv=>whnf))
      exact VAgain.mk _ rfl _ (gc_sh (.cons (sh_box rfl rfl) (.cons (sh_box rfl rfl) (.cons (sh_box rfl rfl) (.cons (sh_row hp8) .nil)))) (.cons (sh_box rfl rfl) (.cons (sh_box rfl rfl) (.cons (sh_box rfl rfl) (.cons (sh_row hp8) .nil)))) rfl rfl rfl rfl rfl) ⟨i + 1 + 1,by omega,by omega,congrArg (AS.mk _) (by dsimp only; rw [e]; rfl)⟩
    · have hi':i + 1=ls.length:=by omega
      have e:(ls.take (i + 1)).map encL=ls.map encL:=by rw [hi',List.take_length]
      have hlv:encLv ls = .sl false 3 ((ls.take (i + 1)).map encL):=by rw [encLv_pos (by omega),e]
      have hpu6:((ls.take (i + 1)).map encL).all (pur 6)=true:=encLs_pure _ 4
      rw [hlv]
      refine loop_over (G:=Nat) (fun j=>[(5,iv j)]) (fun j=>match j with
          |0=>[.box 25 [iv k,iv nn,sv s,.sl b z xs,.sl c y ys],.box 25 zTm,.box 25 [iv k,iv nn,sv s,.ms 3 (i + 1),.sl true 0 []],.row false 50 3 ((ls.take (i + 1)).map encL)]
          |n + 1=>[.box 25 [iv k,iv nn,sv s,.sl b z xs,.sl c y ys],.box 25 zTm,.box 25 [iv k,iv nn,sv s,.ms 3 (i + 1),.ms 4 (n + 1)],.row false 50 3 ((ls.take (i + 1)).map encL),.row false 25 5 ((ts.take (n + 1)).map encT)]) (fun j=>j ≤ ts.length) (fun j=>ts.length - j) 0 (by omega) rfl rfl ?_
      intro j hj
      have hround2:∀ (hj':j < ts.length),∃ lc,ts[j]? = some lc∧∃ v,ys[j]? = some v∧TmP lc v∧Pf C1 57 [v] [encT lc]:=fun hj'=>by
        obtain ⟨lc,hlc⟩:∃ lc,ts[j]? = some lc:=⟨_,List.getElem?_eq_getElem hj'⟩
        obtain ⟨v,hv,hl⟩:=hys.at hlc
        exact ⟨lc,hlc,v,hv,hl,ih _ (List.mem_of_getElem? hlc) _ hl⟩
      cases j with
      |zero =>
        repeat' ((conv=>whnf);first|refine gT ?_|refine gF ?_|refine VIf.not ?_|refine gA ?_|refine gB ?_|refine VIf.dec (fun h=>?_) (fun h=>?_)|refine gC ?_|refine gD ?_|refine VIf.mk (fun h=>?_) (fun h=>?_)|refine gO ?_|refine gP ?_|refine VNat.mk _ rfl ?_|refine gV ?_|refine vret_pf rfl ?_|refine vret_take rfl rfl ?_|refine gK ?_)
        all_goals (try (conv=>whnf))
        · obtain ⟨lc,hlc,v,hv,hl,hpl⟩:=hround2 (by omega)
          have e2:(ts.take (0 + 1)).map encT=[encT lc]:=by rw [take_snoc' hlc]; rfl
          obtain ⟨k2,n2,s2,b2,z2,x2,c2,y2,w2,he⟩:=encT_open lc
          rw [he] at hpl e2
          obtain ⟨k1,n1,s1,l1,t1,b1,z1,x1,c1,y1,ys1,rfl,rfl,hz1,hxs1,hlen1,hbd1,hy1,hys1,hlen21,hbd21,hsl1⟩:=hl.open
          repeat' ((conv=>whnf);first|refine gT ?_|refine gF ?_|refine VIf.not ?_|refine gA ?_|refine gB ?_|refine VIf.dec (fun h=>?_) (fun h=>?_)|refine gC ?_|refine gD ?_|refine VIf.mk (fun h=>?_) (fun h=>?_)|refine gO ?_|refine gP ?_|refine VNat.mk _ rfl ?_|refine gV ?_|refine vret_pf rfl ?_|refine vret_take rfl rfl ?_|refine VIdx.mk _ hv ?_|refine VOk.mk (szOk_of rfl hy) ?_|refine vcall_pf hpl rfl rfl ?_|refine finds_pf hpl (fun _=>?_)|refine gK ?_)
          all_goals (try (conv=>whnf))
          exact VAgain.mk _ rfl _ (gc_sh (.cons (sh_box rfl rfl) (.cons (sh_box rfl rfl) (.cons (sh_box rfl rfl) (.cons (sh_row (encLs_pure _ 6)) (.cons (sh_row rfl) .nil))))) (.cons (sh_box rfl rfl) (.cons (sh_box rfl rfl) (.cons (sh_box rfl rfl) (.cons (sh_row (encLs_pure _ 6)) (.cons (sh_row rfl) .nil))))) rfl rfl rfl rfl rfl) ⟨1,by omega,by omega,congrArg (AS.mk _) (by dsimp only; rw [e2]; rfl)⟩
        · obtain rfl:ts=[]:=List.eq_nil_of_length_eq_zero (by omega)
          (refine vret_pub rfl (mapS_cons (pubV_ag (mapS_cons rfl (mapS_cons rfl (mapS_cons rfl (mapS_cons (pubV_row rfl hln.symm hpu6) (mapS_cons rfl mapS_nil)))))) mapS_nil) rfl ?_; rfl)
      |succ j =>
        have hlm:((ts.take (j + 1)).map encT).length=j + 1:=by simp; omega
        repeat' ((conv=>whnf);first|refine gT ?_|refine gF ?_|refine VIf.not ?_|refine gA ?_|refine gB ?_|refine VIf.dec (fun h=>?_) (fun h=>?_)|refine gC ?_|refine gD ?_|refine VIf.mk (fun h=>?_) (fun h=>?_)|refine gO ?_|refine gP ?_|refine VNat.mk _ rfl ?_|refine gV ?_|refine vret_pf rfl ?_|refine vret_take rfl rfl ?_|refine gK ?_)
        all_goals (try (conv=>whnf))
        · obtain ⟨lc,hlc,v,hv,hl,hpl⟩:=hround2 (by omega)
          have e2:(ts.take (j + 1 + 1)).map encT=(ts.take (j + 1)).map encT ++ [encT lc]:=by rw [take_snoc' hlc]; simp
          have hp8:((ts.take (j + 1)).map encT ++ [encT lc]).all (pur 8)=true:=e2 ▸ encTs_pure _ 6
          obtain ⟨k2,n2,s2,b2,z2,x2,c2,y2,w2,he⟩:=encT_open lc
          rw [he] at hpl e2 hp8
          obtain ⟨k1,n1,s1,l1,t1,b1,z1,x1,c1,y1,ys1,rfl,rfl,hz1,hxs1,hlen1,hbd1,hy1,hys1,hlen21,hbd21,hsl1⟩:=hl.open
          repeat' ((conv=>whnf);first|refine gT ?_|refine gF ?_|refine VIf.not ?_|refine gA ?_|refine gB ?_|refine VIf.dec (fun h=>?_) (fun h=>?_)|refine gC ?_|refine gD ?_|refine VIf.mk (fun h=>?_) (fun h=>?_)|refine gO ?_|refine gP ?_|refine VNat.mk _ rfl ?_|refine gV ?_|refine vret_pf rfl ?_|refine vret_take rfl rfl ?_|refine VIdx.mk _ hv ?_|refine VOk.mk (szOk_of rfl hy) ?_|refine vcall_pf hpl rfl rfl ?_|refine finds_pf hpl (fun _=>?_)|refine VOk.mk (grow_ok (w:=80) (r:=140737488355328) hlm rfl rfl rfl rfl (by simp only [List.length_cons,List.length_nil]; omega) (by simp only [List.length_cons,List.length_nil]; omega)) ?_|refine gK ?_)
          all_goals (try (conv=>whnf))
          exact VAgain.mk _ rfl _ (gc_sh (.cons (sh_box rfl rfl) (.cons (sh_box rfl rfl) (.cons (sh_box rfl rfl) (.cons (sh_row (encLs_pure _ 6)) (.cons (sh_row hp8) .nil))))) (.cons (sh_box rfl rfl) (.cons (sh_box rfl rfl) (.cons (sh_box rfl rfl) (.cons (sh_row (encLs_pure _ 6)) (.cons (sh_row hp8) .nil))))) rfl rfl rfl rfl rfl) ⟨j + 1 + 1,by omega,by omega,congrArg (AS.mk _) (by dsimp only; rw [e2]; rfl)⟩
        · have hj':j + 1=ts.length:=by omega
          have e2:(ts.take (j + 1)).map encT=ts.map encT:=by rw [hj',List.take_length]
          (refine vret_pub rfl (mapS_cons (pubV_ag (mapS_cons rfl (mapS_cons rfl (mapS_cons rfl (mapS_cons (pubV_row rfl hln.symm hpu6) (mapS_cons (pubV_row rfl hlm.symm (encTs_pure _ 4)) mapS_nil)))))) mapS_nil) rfl ?_; rw [encTv_pos (by omega),← e2])
end Go.Proofs.YtehhihdahalfeaaGreatDoor
namespace Go.Proofs.YtehhihdahalfeaaGreatDoor
open Go Go.Am Go.Gw
/-- CopyDecl alone is gone through; rows of constructors are written out -/
noncomputable def C3:Cfg:=⟨C1.P,C1.fz,C1.raw,C1.keep,fun _=>false,fun f=>match Nat.beq f 22 with
  |true=>none
  |false=>some (natOf C1 f),C1.fzc,C1.pst,false⟩
theorem c3_nat:NatOk C3:=fun f F hF=>by
  have hF:(match Nat.beq f 22 with
    |true=>none
    |false=>some (natOf C1 f))=some F:=hF
  split at hF
  · cases hF
  · cases hF
    exact natOf_does (fun n=>(c1_ok n).call) f
theorem c3_ok (n:Nat):EvOk C3 (ev C3 n):=ev_ok (by kernel_rfl) (by kernel_rfl) c3_nat n
theorem up3 {f:FuncId} {args rs:List PV} (hf:Nat.beq f 22=false) (h:Pf C1 f args rs):Pf C3 f args rs:=pf_word (C:=C1) (show (match Nat.beq f 22 with
    |true=>none
    |false=>some (natOf C1 f))=some (natOf C1 f) by rw [hf]) h
def encC (c:List UInt8 × Tm):PV:=.ag (sv c.1 :: (encT c.2).cells)
theorem encC_P {c:List UInt8 × Tm} {v:PV} (h:LoP c v):LoP c (encC c):=by
  obtain ⟨s,k,n,s1,b,z,xs,c2,y,ys,t,rfl,rfl,ht,hs⟩:=h.open
  refine ⟨(encT t).cells,rfl,?_,hs⟩
  have hw:=ht.w
  obtain ⟨k,n,s,b,z,xs,c,y,ys,he⟩:=encT_open t
  unfold TmW at hw
  rw [he] at hw ⊢
  exact hw
theorem encCs_P:∀ {cs:List (List UInt8 × Tm)} {xs:List PV},LosP cs xs→LosP cs (cs.map encC)
  |[],xs,h=>by simp only [List.map_nil,LosP]
  |c :: r,xs,h=>by
    simp only [LosP] at h
    obtain ⟨v,xs',rfl,h1,h2⟩:=h
    simp only [List.map_cons,LosP]
    exact ⟨_,_,rfl,encC_P h1,encCs_P h2⟩
theorem encCs_pure (cs:List (List UInt8 × Tm)) (n:Nat):(cs.map encC).all (pur (n + 2))=true:=by
  rw [List.all_eq_true]
  intro x hx
  obtain ⟨c,-,rfl⟩:=List.mem_map.1 hx
  obtain ⟨k,m,s,b,z,xs,d,y,ys,he⟩:=encT_open c.2
  unfold encC
  rw [he]
  rfl
def cdS (x y:SO) (r:List PV):List PV→Sto
  |[]=>[x,y,.box 46 (r ++ [.sl true 0 []])]
  |v :: q=>[x,y,.box 46 (r ++ [.ms 3 (q.length + 1)]),.row false 72 6 (v :: q)]
set_option maxHeartbeats 4000000 in
set_option maxRecDepth 100000 in
theorem CopyDecl_can (d:Dc) (v:PV) (h:DcP d v) (hcs:d.cs.length ≤ 1000000):∃ w,DcP d w∧Pf C3 22 [v] [w]:=by
  suffices key:Finds C3 22 [v] [] fun r _=>∃ w,DcP d w∧r = .ret [w] by
    obtain ⟨r,st',⟨w,h1,rfl⟩,N,hN⟩:=key
    exact ⟨w,h1,_,st',rfl,N,hN⟩
  obtain ⟨k,p,nm,ty,vl,fx,cs,a1,a2,a3,a4,a5,a6,a7,a8,a9,b1,b2,b3,b4,b5,b6,b7,b8,b9,cb,cz,cx,hty,hvl,hz,hxs,hlen,hnm,hk,hp,hfx⟩:=h
  have h1:=up3 rfl (CopyTerm_can ty _ hty)
  have h2:=up3 rfl (CopyTerm_can vl _ hvl)
  have w1:=hty.w
  have w2:=hvl.w
  obtain ⟨e1,e2,e3,e4,e5,e6,e7,e8,e9,he⟩:=encT_open ty
  obtain ⟨g1,g2,g3,g4,g5,g6,g7,g8,g9,hg⟩:=encT_open vl
  unfold TmW at w1 w2
  rw [he] at h1 w1
  rw [hg] at h2 w2
  have hcl:=hxs.len
  dsimp only at hcs
  refine run_intro Tryz.func22 rfl rfl rfl ?_
  repeat' ((conv=>whnf);first|refine gT ?_|refine gF ?_|refine VIf.not ?_|refine gA ?_|refine gB ?_|refine VIf.dec (fun h=>?_) (fun h=>?_)|refine gC ?_|refine gD ?_|refine VIf.mk (fun h=>?_) (fun h=>?_)|refine gO ?_|refine gP ?_|refine VNat.mk _ rfl ?_|refine gV ?_|refine vret_pf rfl ?_|refine vret_take rfl rfl ?_|refine vcall_pf h1 rfl rfl ?_|refine vcall_pf h2 rfl rfl ?_|refine gK ?_)
  all_goals (try (conv=>whnf))
  refine loop_over (G:=Nat) (fun i=>[(4,iv i)]) (fun i=>cdS (.box 46 [iv k,iv p,sv nm,iv a1,iv a2,sv a3,.sl a4 a5 a6,.sl a7 a8 a9,iv b1,iv b2,sv b3,.sl b4 b5 b6,.sl b7 b8 b9,iv fx,.sl cb cz cx]) (.box 46 [iv 0,iv 0,sv [],iv 0,iv 0,sv [],.sl true 0 [],.sl true 0 [],iv 0,iv 0,sv [],.sl true 0 [],.sl true 0 [],iv 0,.sl true 0 []]) [iv k,iv p,sv nm,iv e1,iv e2,sv e3,.sl e4 e5 e6,.sl e7 e8 e9,iv g1,iv g2,sv g3,.sl g4 g5 g6,.sl g7 g8 g9,iv fx] ((cs.take i).map encC)) (fun i=>i ≤ cs.length) (fun i=>cs.length - i) 0 (by omega) rfl rfl ?_
  intro i hi
  have hround:∀ (hi':i < cs.length),∃ c t,cs[i]? = some (c,t)∧∃ q1 q2 q3 q4 q5 q6 q7 q8 q9,cx[i]? = some (.ag [sv c,iv q1,iv q2,sv q3,.sl q4 q5 q6,.sl q7 q8 q9])∧Pf C3 57 [.ag [iv q1,iv q2,sv q3,.sl q4 q5 q6,.sl q7 q8 q9]] [encT t]:=fun hi'=>by
    obtain ⟨c,hc⟩:∃ c,cs[i]? = some c:=⟨_,List.getElem?_eq_getElem hi'⟩
    obtain ⟨v,hv,hl⟩:=hxs.at hc
    obtain ⟨s,q1,q2,q3,q4,q5,q6,q7,q8,q9,t,rfl,rfl,ht,-⟩:=hl.open
    exact ⟨s,t,hc,q1,q2,q3,q4,q5,q6,q7,q8,q9,hv,up3 rfl (CopyTerm_can t _ ht)⟩
  have hcx:∀ {i:Nat},((i:Int) < cx.length)→i < cs.length:=fun h=>by omega
  cases i with
  |zero =>
    simp only [List.take_zero,List.map_nil,cdS,List.cons_append,List.nil_append]
    repeat' ((conv=>whnf);first|refine gT ?_|refine gF ?_|refine VIf.not ?_|refine gA ?_|refine gB ?_|refine VIf.dec (fun h=>?_) (fun h=>?_)|refine gC ?_|refine gD ?_|refine VIf.mk (fun h=>?_) (fun h=>?_)|refine gO ?_|refine gP ?_|refine VNat.mk _ rfl ?_|refine gV ?_|refine vret_pf rfl ?_|refine vret_take rfl rfl ?_|refine gK ?_)
    all_goals (try (conv=>whnf))
    · obtain ⟨c,t,hc,q1,q2,q3,q4,q5,q6,q7,q8,q9,hv,hpf⟩:=hround (hcx (by assumption))
      obtain ⟨m1,m2,m3,m4,m5,m6,m7,m8,m9,hm⟩:=encT_open t
      have e:(cs.take (0 + 1)).map encC=[.ag [sv c,iv m1,iv m2,sv m3,.sl m4 m5 m6,.sl m7 m8 m9]]:=by rw [take_snoc' hc,List.take_zero,List.nil_append,List.map_cons,encC,hm]; rfl
      rw [hm] at hpf
      repeat' ((conv=>whnf);first|refine gT ?_|refine gF ?_|refine VIf.not ?_|refine gA ?_|refine gB ?_|refine VIf.dec (fun h=>?_) (fun h=>?_)|refine gC ?_|refine gD ?_|refine VIf.mk (fun h=>?_) (fun h=>?_)|refine gO ?_|refine gP ?_|refine VNat.mk _ rfl ?_|refine gV ?_|refine vret_pf rfl ?_|refine vret_take rfl rfl ?_|refine VIdx.mk _ hv ?_|refine VOk.mk (szOk_of rfl hz) ?_|refine vcall_pf hpf rfl rfl ?_|refine finds_pf hpf (fun _=>?_)|refine gK ?_)
      all_goals (try (conv=>whnf))
      have:=hcx (i:=0) (by assumption)
      exact VAgain.mk _ rfl _ (gc_sh (.cons (sh_box rfl rfl) (.cons (sh_box rfl rfl) (.cons (sh_box rfl rfl) (.cons (sh_row rfl) .nil)))) (.cons (sh_box rfl rfl) (.cons (sh_box rfl rfl) (.cons (sh_box rfl rfl) (.cons (sh_row rfl) .nil)))) rfl rfl rfl rfl rfl) ⟨1,by omega,by omega,congrArg (AS.mk _) (by rw [e]; rfl)⟩
    · have hno:cs=[]:=List.eq_nil_of_length_eq_zero (by
        have h9:¬ ((0:Nat):Int) < cx.length:=by assumption
        omega)
      subst hno
      exact ⟨_,.mk k p nm ty vl fx [] e1 e2 e3 e4 e5 e6 e7 e8 e9 g1 g2 g3 g4 g5 g6 g7 g8 g9 true 0 [] w1 w2 (.inr rfl) (by simp only [LosP]) (by simp) hnm hk hp hfx,rfl⟩
  |succ i =>
    obtain ⟨w0,wr,hw0⟩:∃ w0 wr,(cs.take (i + 1)).map encC=w0 :: wr:=by
      cases hq:(cs.take (i + 1)).map encC with
      |nil =>
        have:=congrArg List.length hq
        simp only [List.length_map,List.length_take,List.length_nil] at this
        omega
      |cons a b=>exact ⟨a,b,rfl⟩
    have hwl:wr.length + 1=i + 1:=by
      have:=congrArg List.length hw0
      simp only [List.length_map,List.length_take,List.length_cons] at this
      omega
    have hp6:(w0 :: wr).all (pur 6)=true:=by rw [← hw0]; exact encCs_pure _ 4
    simp only [hw0,cdS,List.cons_append,List.nil_append]
    repeat' ((conv=>whnf);first|refine gT ?_|refine gF ?_|refine VIf.not ?_|refine gA ?_|refine gB ?_|refine VIf.dec (fun h=>?_) (fun h=>?_)|refine gC ?_|refine gD ?_|refine VIf.mk (fun h=>?_) (fun h=>?_)|refine gO ?_|refine gP ?_|refine VNat.mk _ rfl ?_|refine gV ?_|refine vret_pf rfl ?_|refine vret_take rfl rfl ?_|refine gK ?_)
    all_goals (try (conv=>whnf))
    · obtain ⟨c,t,hc,q1,q2,q3,q4,q5,q6,q7,q8,q9,hv,hpf⟩:=hround (hcx (by assumption))
      obtain ⟨m1,m2,m3,m4,m5,m6,m7,m8,m9,hm⟩:=encT_open t
      have e:(cs.take (i + 1 + 1)).map encC=w0 :: wr ++ [.ag [sv c,iv m1,iv m2,sv m3,.sl m4 m5 m6,.sl m7 m8 m9]]:=by rw [take_snoc' hc,List.map_append,hw0,List.map_cons,encC,hm]; rfl
      have hp8:(w0 :: wr ++ [PV.ag [sv c,iv m1,iv m2,sv m3,.sl m4 m5 m6,.sl m7 m8 m9]]).all (pur 8)=true:=by rw [← e]; exact encCs_pure _ 6
      have hrl:(w0 :: wr).length=wr.length + 1:=rfl
      rw [hm] at hpf
      repeat' ((conv=>whnf);first|refine gT ?_|refine gF ?_|refine VIf.not ?_|refine gA ?_|refine gB ?_|refine VIf.dec (fun h=>?_) (fun h=>?_)|refine gC ?_|refine gD ?_|refine VIf.mk (fun h=>?_) (fun h=>?_)|refine gO ?_|refine gP ?_|refine VNat.mk _ rfl ?_|refine gV ?_|refine vret_pf rfl ?_|refine vret_take rfl rfl ?_|refine VIdx.mk _ hv ?_|refine VOk.mk (szOk_of rfl hz) ?_|refine vcall_pf hpf rfl rfl ?_|refine finds_pf hpf (fun _=>?_)|refine VOk.mk (grow_ok (w:=96) (r:=140737488355328) hrl rfl rfl rfl rfl (by simp only [List.length_cons,List.length_nil]; omega) (by simp only [List.length_cons,List.length_nil]; omega)) ?_|refine gK ?_)
      all_goals (try (conv=>whnf))
      have:=hcx (i:=i + 1) (by assumption)
      refine VAgain.mk _ rfl _ (gc_sh (.cons (sh_box rfl rfl) (.cons (sh_box rfl rfl) (.cons (sh_box rfl rfl) (.cons (sh_row hp8) .nil)))) (.cons (sh_box rfl rfl) (.cons (sh_box rfl rfl) (.cons (sh_box rfl rfl) (.cons (sh_row hp8) .nil)))) rfl rfl rfl rfl rfl) ⟨i + 1 + 1,by omega,by omega,congrArg (AS.mk _) ?_⟩
      have e2:(wr ++ [PV.ag [sv c,iv m1,iv m2,sv m3,.sl m4 m5 m6,.sl m7 m8 m9]]).length + 1=wr.length + 1 + 1:=by simp
      rw [e]
      dsimp only [cdS,List.cons_append]
      rw [e2]
      rfl
    · have hdone:(cs.take (i + 1)).map encC=cs.map encC:=by
        have h9:¬ ((i + 1:Nat):Int) < cx.length:=by assumption
        rw [List.take_of_length_le (by omega)]
      refine vret_pub rfl (mapS_cons (pubV_ag (mapS_cons rfl (mapS_cons rfl (mapS_cons rfl (mapS_cons rfl (mapS_cons rfl (mapS_cons rfl (mapS_cons rfl (mapS_cons rfl (mapS_cons rfl (mapS_cons rfl (mapS_cons rfl (mapS_cons rfl (mapS_cons rfl (mapS_cons rfl (mapS_cons (pubV_row rfl rfl hp6) mapS_nil)))))))))))))))) mapS_nil) rfl ?_
      refine ⟨_,.mk k p nm ty vl fx cs e1 e2 e3 e4 e5 e6 e7 e8 e9 g1 g2 g3 g4 g5 g6 g7 g8 g9 false 6 (w0 :: wr) w1 w2 (.inl rfl) ?_ hlen hnm hk hp hfx,rfl⟩
      rw [← hw0,hdone]
      exact encCs_P hxs
end Go.Proofs.YtehhihdahalfeaaGreatDoor
