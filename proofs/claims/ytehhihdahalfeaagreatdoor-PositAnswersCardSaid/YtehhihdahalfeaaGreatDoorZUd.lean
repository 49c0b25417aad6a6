/-
  Texts in order (package name). No statement of the seat.
-/
import Derived.Test.YtehhihdahalfeaaGreatDoorZSh
import Derived.Test.YtehhihdahalfeaaGreatDoorZPr
set_option linter.unusedVariables false
set_option linter.unusedSimpArgs false
set_option linter.unnecessarySimpa false
namespace Go.Proofs.YtehhihdahalfeaaGreatDoor
open Go Go.Am Go.Gw
theorem svs_at {ns:List (List UInt8)} {i:Nat} {c:List UInt8} (h:ns[i]? = some c):(svs ns)[i]? = some (sv c):=by simp [svs,h]
theorem svs_nil {ns:List (List UInt8)} {z:Nat} (h:z=1∨ns=[]):z=1∨svs ns=[]:=by
  rcases h with rfl|rfl
  · exact .inl rfl
  · exact .inr rfl
def valP (b:Bool) (z:Nat) (xs:List PV):PV:=.fn 177 [] [.cp [.sl b z xs]]
set_option maxRecDepth 100000 in
theorem Values_can (b:Bool) (z:Nat) (xs:List PV):Pf C1 134 [.sl b z xs] [valP b z xs]:=by
  refine run_intro Tryz.func134 rfl rfl rfl ?_
  repeat' ((conv=>whnf);first|refine gT ?_|refine gF ?_|refine VIf.not ?_|refine gA ?_|refine gB ?_|refine VIf.dec (fun h=>?_) (fun h=>?_)|refine gC ?_|refine gD ?_|refine VIf.mk (fun h=>?_) (fun h=>?_)|refine gO ?_|refine gP ?_|refine VNat.mk _ rfl ?_|refine gV ?_|refine vret_pf rfl ?_|refine vret_take rfl rfl ?_|refine gK ?_)
  all_goals (try (conv=>whnf))
  refine vret_pub rfl rfl rfl ?_
  rfl
def apLP (b:Bool) (z:Nat) (xs:List PV) (a c:Code) (x:LpS):SO:=.lp [(6,valP b z xs),(4,.sl true 0 []),(2,.bp 1 0),(0,.sl true 0 []),(1,valP b z xs)] [7] a c x
def apS (lp:SO) (don:List (List UInt8)):Sto:=match don with
  |[]=>[lp,.box 29 [.sl true 0 []]]
  |d :: r=>[lp,.box 29 [.ms 2 (r.length + 1)],.row false 9 1 (svs (d :: r))]
theorem apS_snoc (lp:SO) (d:List UInt8) (r:List (List UInt8)) (s:List UInt8):apS lp (d :: r ++ [s])=[lp,.box 29 [.ms 2 (r.length + 1 + 1)],.row false 9 1 (svs (d :: r) ++ [sv s])]:=by
  simp only [apS,List.cons_append,List.length_append,List.length_cons,List.length_nil,svs,List.map_cons,List.map_append,List.map_nil]
/-- what the body does -/
def ApOk (lp:SO):Prop:=∀ (don:List (List UInt8)) (s:List UInt8),don.length ≤ 1000000000→FindsY C1 [.yl 0,sv s] (apS lp don) fun r st=>r = .ret [bv true]∧st=apS lp (don ++ [s])
set_option maxRecDepth 100000 in
theorem yield_ap {b:Bool} {z:Nat} {xs:List PV} {a c:Code} (hY:ApOk (apLP b z xs a c .ready)) (don:List (List UInt8)) (s:List UInt8) (hd:don.length ≤ 1000000000) {K:AR→Prop} (k:K (.val (bv true) (apS (apLP b z xs a c .ready) (don ++ [s])))):VYield C1 0 [sv s] (apS (apLP b z xs a c .ready) don) K:=by
  cases don with
  |nil =>
    refine vyield_shr (st1:=apS (apLP b z xs a c .ready) []) rfl (.cons (shr_lp rfl rfl) (.cons (shr_box rfl rfl) .nil)) rfl rfl rfl rfl (findsY_mono (hY [] s hd) ?_)
    rintro _ _ ⟨rfl,rfl⟩
    exact vback_shr (.cons (shr_lp rfl rfl) (.cons (shr_box rfl rfl) (.cons (shr_row rfl) .nil))) rfl k
  |cons d r =>
    refine vyield_shr (st1:=apS (apLP b z xs a c .ready) (d :: r)) rfl (.cons (shr_lp rfl rfl) (.cons (shr_box rfl rfl) (.cons (shr_row (svs_pure _)) .nil))) rfl rfl rfl rfl (findsY_mono (hY (d :: r) s hd) ?_)
    rintro _ _ ⟨rfl,rfl⟩
    exact vback_shr (.cons (shr_lp rfl rfl) (.cons (shr_box rfl rfl) (.cons (shr_row (svs_pure _)) .nil))) rfl k
set_option maxRecDepth 100000 in
theorem values1_can (b:Bool) (z:Nat) (l:List (List UInt8)) (hz:z=1∨l=[]) (hl:l.length ≤ 1000000000) (a c:Code) (hY:ApOk (apLP b z (svs l) a c .ready)):Finds C1 177 [.yl 0,.cp [.sl b z (svs l)]] (apS (apLP b z (svs l) a c .ready) []) fun r st=>r = .ret []∧st=apS (apLP b z (svs l) a c .ready) l:=by
  have hln:(svs l).length=l.length:=by simp
  refine run_intro Tryz.func177 rfl rfl rfl ?_
  repeat' ((conv=>whnf);first|refine gT ?_|refine gF ?_|refine VIf.not ?_|refine gA ?_|refine gB ?_|refine VIf.dec (fun h=>?_) (fun h=>?_)|refine gC ?_|refine gD ?_|refine VIf.mk (fun h=>?_) (fun h=>?_)|refine gO ?_|refine gP ?_|refine VNat.mk _ rfl ?_|refine gV ?_|refine vret_pf rfl ?_|refine vret_take rfl rfl ?_|refine gK ?_)
  all_goals (try (conv=>whnf))
  refine loop_over (G:=Nat) (fun i=>[(7,iv i)]) (fun i=>apS (apLP b z (svs l) a c .ready) (l.take i)) (fun i=>i ≤ l.length) (fun i=>l.length - i) 0 (by omega) rfl rfl ?_
  intro i hi
  repeat' ((conv=>whnf);first|refine gT ?_|refine gF ?_|refine VIf.not ?_|refine gA ?_|refine gB ?_|refine VIf.dec (fun h=>?_) (fun h=>?_)|refine gC ?_|refine gD ?_|refine VIf.mk (fun h=>?_) (fun h=>?_)|refine gO ?_|refine gP ?_|refine VNat.mk _ rfl ?_|refine gV ?_|refine vret_pf rfl ?_|refine vret_take rfl rfl ?_|refine gK ?_)
  all_goals (try (conv=>whnf))
  · have hi':i < l.length:=by omega
    obtain ⟨s,hs⟩:∃ s,l[i]? = some s:=⟨_,List.getElem?_eq_getElem hi'⟩
    repeat' ((conv=>whnf);first|refine gT ?_|refine gF ?_|refine VIf.not ?_|refine gA ?_|refine gB ?_|refine VIf.dec (fun h=>?_) (fun h=>?_)|refine gC ?_|refine gD ?_|refine VIf.mk (fun h=>?_) (fun h=>?_)|refine gO ?_|refine gP ?_|refine VNat.mk _ rfl ?_|refine gV ?_|refine vret_pf rfl ?_|refine vret_take rfl rfl ?_|refine VIdx.mk _ (svs_at hs) ?_|refine VOk.mk (szOk_of rfl (svs_nil hz)) ?_|refine gK ?_)
    all_goals (try (conv=>whnf))
    refine yield_ap hY _ s (by simp; omega) ?_
    repeat' ((conv=>whnf);first|refine gT ?_|refine gF ?_|refine VIf.not ?_|refine gA ?_|refine gB ?_|refine VIf.dec (fun h=>?_) (fun h=>?_)|refine gC ?_|refine gD ?_|refine VIf.mk (fun h=>?_) (fun h=>?_)|refine gO ?_|refine gP ?_|refine VNat.mk _ rfl ?_|refine gV ?_|refine vret_pf rfl ?_|refine vret_take rfl rfl ?_|refine gK ?_)
    all_goals (try (conv=>whnf))
    have e:l.take i ++ [s]=l.take (i + 1):=(take_snoc' hs).symm
    refine VAgain.mk _ rfl (apS (apLP b z (svs l) a c .ready) (l.take (i + 1))) ?_ ⟨i + 1,hi',by omega,rfl⟩
    rw [e]
    generalize l.take (i + 1)=don
    cases don with
    |nil=>exact gc_same rfl
    |cons d r=>exact gc_sh (.cons (sh_lp rfl rfl) (.cons (sh_box rfl rfl) (.cons (sh_row (svs_pure _)) .nil))) (.cons (sh_lp rfl rfl) (.cons (sh_box rfl rfl) (.cons (sh_row (svs_pure _)) .nil))) rfl rfl rfl rfl rfl
  · have e:l.take i=l:=List.take_of_length_le (by omega)
    show VRet C1 _ _ _ (apS (apLP b z (svs l) a c .ready) (l.take i)) _
    rw [e]
    generalize svs l=xs at *
    cases l with
    |nil=>exact vret_take rfl rfl ⟨rfl,rfl⟩
    |cons d r=>exact vret_sq (.inr ⟨rfl,rfl⟩) rfl (gc_sh (.cons (sh_lp rfl rfl) (.cons (sh_box rfl rfl) (.cons (sh_row (svs_pure _)) .nil))) (.cons (sh_lp rfl rfl) (.cons (sh_box rfl rfl) (.cons (sh_row (svs_pure _)) .nil))) rfl rfl rfl rfl rfl) (squeeze_same rfl) ⟨rfl,rfl⟩
def rowV (l:List (List UInt8)):PV:=match l with
  |[]=>.sl true 0 []
  |_ :: q=>.ms 0 (q.length + 1)
def rowT (l:List (List UInt8)):Sto:=match l with
  |[]=>[]
  |d :: q=>[.row false 9 1 (svs (d :: q))]
set_option maxRecDepth 100000 in
theorem AppendSeq_can (b:Bool) (z:Nat) (l:List (List UInt8)) (hz:z=1∨l=[]) (hl:l.length ≤ 1000000000):Finds C1 211 [.sl true 0 [],valP b z (svs l)] [] fun r st=>r = .ret [rowV l]∧st=rowT l:=by
  refine run_intro Tryz.func211 rfl rfl rfl ?_
  repeat' ((conv=>whnf);first|refine gT ?_|refine gF ?_|refine VIf.not ?_|refine gA ?_|refine gB ?_|refine VIf.dec (fun h=>?_) (fun h=>?_)|refine gC ?_|refine gD ?_|refine VIf.mk (fun h=>?_) (fun h=>?_)|refine gO ?_|refine gP ?_|refine VNat.mk _ rfl ?_|refine gV ?_|refine vret_pf rfl ?_|refine vret_take rfl rfl ?_|refine gK ?_)
  all_goals (try (conv=>whnf))
  refine vcall_shr rfl rfl (.cons (shr_box rfl rfl) (.cons (shr_lp rfl rfl) .nil)) rfl rfl rfl rfl (Finds.mono (values1_can b z l hz hl _ _ ?_) ?_)
  · intro don s hd
    cases don with
    |nil =>
      refine yield_intro rfl rfl ?_
      repeat' ((conv=>whnf);first|refine gT ?_|refine gF ?_|refine VIf.not ?_|refine gA ?_|refine gB ?_|refine VIf.dec (fun h=>?_) (fun h=>?_)|refine gC ?_|refine gD ?_|refine VIf.mk (fun h=>?_) (fun h=>?_)|refine gO ?_|refine gP ?_|refine VNat.mk _ rfl ?_|refine gV ?_|refine vret_pf rfl ?_|refine vret_take rfl rfl ?_|refine gK ?_)
      all_goals (try (conv=>whnf))
      exact ⟨rfl,by kernel_rfl⟩
    |cons d r =>
      have hln:(svs (d :: r)).length=r.length + 1:=by simp
      have hp8:(svs (d :: r) ++ [sv s]).all (pur 8)=true:=by
        rw [show svs (d :: r) ++ [sv s]=svs (d :: r ++ [s]) by simp [svs]]
        exact svs_pure _
      simp only [List.length_cons] at hd
      refine yield_intro rfl rfl ?_
      repeat' ((conv=>whnf);first|refine gT ?_|refine gF ?_|refine VIf.not ?_|refine gA ?_|refine gB ?_|refine VIf.dec (fun h=>?_) (fun h=>?_)|refine gC ?_|refine gD ?_|refine VIf.mk (fun h=>?_) (fun h=>?_)|refine gO ?_|refine gP ?_|refine VNat.mk _ rfl ?_|refine gV ?_|refine vret_pf rfl ?_|refine vret_take rfl rfl ?_|refine VOk.mk (grow_ok (w:=16) (r:=140737488355328) hln rfl rfl rfl rfl (by simp only [List.length_cons,List.length_nil]; omega) (by simp only [List.length_cons,List.length_nil]; omega)) ?_|refine gK ?_)
      all_goals (try (conv=>whnf))
      rw [apS_snoc]
      exact ⟨rfl,yieldEnd_take rfl (.cons (shr_lp rfl rfl) (.cons (shr_box rfl rfl) (.cons (shr_row hp8) .nil))) rfl⟩
  · rintro _ _ ⟨rfl,rfl⟩
    cases l with
    |nil =>
      refine vback_shr (.cons (shr_lp rfl rfl) (.cons (shr_box rfl rfl) .nil)) rfl ?_
      repeat' ((conv=>whnf);first|refine gT ?_|refine gF ?_|refine VIf.not ?_|refine gA ?_|refine gB ?_|refine VIf.dec (fun h=>?_) (fun h=>?_)|refine gC ?_|refine gD ?_|refine VIf.mk (fun h=>?_) (fun h=>?_)|refine gO ?_|refine gP ?_|refine VNat.mk _ rfl ?_|refine gV ?_|refine vret_pf rfl ?_|refine vret_take rfl rfl ?_|refine gK ?_)
      all_goals (try (conv=>whnf))
      exact ⟨rfl,rfl⟩
    |cons d q =>
      refine vback_shr (.cons (shr_lp rfl rfl) (.cons (shr_box rfl rfl) (.cons (shr_row (svs_pure _)) .nil))) rfl ?_
      repeat' ((conv=>whnf);first|refine gT ?_|refine gF ?_|refine VIf.not ?_|refine gA ?_|refine gB ?_|refine VIf.dec (fun h=>?_) (fun h=>?_)|refine gC ?_|refine gD ?_|refine VIf.mk (fun h=>?_) (fun h=>?_)|refine gO ?_|refine gP ?_|refine VNat.mk _ rfl ?_|refine gV ?_|refine vret_pf rfl ?_|refine vret_take rfl rfl ?_|refine gK ?_)
      all_goals (try (conv=>whnf))
      exact vret_sq (.inl ⟨rfl,rfl,rfl⟩) rfl (gc_sh (.cons (sh_box rfl rfl) (.cons sh_dead (.cons (sh_row (svs_pure _)) .nil))) (.cons sh_dead (.cons sh_dead (.cons (sh_row (svs_pure _)) .nil))) rfl rfl rfl rfl rfl) (squeeze_shr (.cons shr_dead (.cons shr_dead (.cons (shr_row (svs_pure _)) .nil))) rfl rfl rfl rfl) ⟨rfl,rfl⟩
set_option maxRecDepth 100000 in
theorem Collect_can (b:Bool) (z:Nat) (l:List (List UInt8)) (hz:z=1∨l=[]) (hl:l.length ≤ 1000000000):Finds C1 175 [valP b z (svs l)] [] fun r st=>r = .ret [rowV l]∧st=rowT l:=by
  have ha:=AppendSeq_can b z l hz hl
  refine run_intro Tryz.func175 rfl rfl rfl ?_
  repeat' ((conv=>whnf);first|refine gT ?_|refine gF ?_|refine VIf.not ?_|refine gA ?_|refine gB ?_|refine VIf.dec (fun h=>?_) (fun h=>?_)|refine gC ?_|refine gD ?_|refine VIf.mk (fun h=>?_) (fun h=>?_)|refine gO ?_|refine gP ?_|refine VNat.mk _ rfl ?_|refine gV ?_|refine vret_pf rfl ?_|refine vret_take rfl rfl ?_|refine gK ?_)
  all_goals (try (conv=>whnf))
  cases l with
  |nil =>
    refine vcall_pure rfl (Finds.mono ha ?_)
    rintro _ _ ⟨rfl,rfl⟩
    refine ⟨rfl,?_⟩
    repeat' ((conv=>whnf);first|refine gT ?_|refine gF ?_|refine VIf.not ?_|refine gA ?_|refine gB ?_|refine VIf.dec (fun h=>?_) (fun h=>?_)|refine gC ?_|refine gD ?_|refine VIf.mk (fun h=>?_) (fun h=>?_)|refine gO ?_|refine gP ?_|refine VNat.mk _ rfl ?_|refine gV ?_|refine vret_pf rfl ?_|refine vret_take rfl rfl ?_|refine gK ?_)
    all_goals (try (conv=>whnf))
    exact ⟨rfl,rfl⟩
  |cons d q =>
    refine vcall_made rfl (Finds.mono ha ?_)
    rintro _ _ ⟨rfl,rfl⟩
    refine ⟨rfl,vback_shr (.cons (shr_row (svs_pure _)) .nil) rfl ?_⟩
    repeat' ((conv=>whnf);first|refine gT ?_|refine gF ?_|refine VIf.not ?_|refine gA ?_|refine gB ?_|refine VIf.dec (fun h=>?_) (fun h=>?_)|refine gC ?_|refine gD ?_|refine VIf.mk (fun h=>?_) (fun h=>?_)|refine gO ?_|refine gP ?_|refine VNat.mk _ rfl ?_|refine gV ?_|refine vret_pf rfl ?_|refine vret_take rfl rfl ?_|refine gK ?_)
    all_goals (try (conv=>whnf))
    exact vret_sq (.inl ⟨rfl,rfl,rfl⟩) rfl (gc_sh (.cons (sh_row (svs_pure _)) .nil) (.cons (sh_row (svs_pure _)) .nil) rfl rfl rfl rfl rfl) (squeeze_same rfl) ⟨rfl,rfl⟩
theorem strs_bl (l:List (List UInt8)):mapO Go.Am.strOf (svs l)=some (l.map fun s=>(⟨s.toArray⟩:ByteArray)):=by
  induction l with
  |nil=>rfl
  |cons s r ih=>simp only [svs,List.map_cons,mapO,Go.Am.strOf] at *; rw [ih]
theorem bl_bl (l:List (List UInt8)):(l.map fun s=>(⟨s.toArray⟩:ByteArray)).map bl=l:=by
  rw [List.map_map]
  exact (List.map_congr_left fun s _=>by simp [bl]).trans (List.map_id l)
theorem svL_eq (l:List (List UInt8)):svL l=svs l:=rfl
theorem sort_at (d:List UInt8) (q:List (List UInt8)) (hl:(d :: q).length ≤ 1000000000):Finds C1 176 [.ms 0 (q.length + 1)] [.row false 9 1 (svs (d :: q))] fun r st=>r = .ret []∧st=[.row false 9 1 (svs (sortS (d :: q)))]:=by
  refine finds_at (F:=sortN) rfl ?_ ⟨rfl,rfl⟩
  have h1:=strs_bl (d :: q)
  have h2:(Nat.beq (q.length + 1) ((d :: q).map fun s=>(⟨s.toArray⟩:ByteArray)).length && Nat.ble (q.length + 1) 1000000000)=true:=by
    rw [List.length_map,List.length_cons,Nat.beq_refl,Nat.ble_eq_true_of_le (by simpa using hl)]
    rfl
  simp only [sortN,h1,h2,bl_bl,svL_eq]
theorem comp_at (d:List UInt8) (q:List (List UInt8)) (hl:(d :: q).length ≤ 1000000000):Finds C1 132 [.ms 0 (q.length + 1)] [.row false 9 1 (svs (d :: q))] fun r st=>r = .ret [.ms 1 (compS (d :: q)).length]∧st=[.dead,.row false 9 1 (svs (compS (d :: q)))]:=by
  refine finds_at (F:=compN) rfl ?_ ⟨rfl,rfl⟩
  have h1:=strs_bl (d :: q)
  have h2:(Nat.beq (q.length + 1) ((d :: q).map fun s=>(⟨s.toArray⟩:ByteArray)).length && (Nat.ble (q.length + 1) 1000000000 && Nat.ble 1 (q.length + 1)))=true:=by
    rw [List.length_map,List.length_cons,Nat.beq_refl,Nat.ble_eq_true_of_le (by simpa using hl),Nat.ble_eq_true_of_le (by omega)]
    rfl
  simp only [compN,h1,h2,bl_bl,svL_eq]
set_option maxRecDepth 100000 in
theorem Sorted_can (b:Bool) (z:Nat) (l:List (List UInt8)) (hz:z=1∨l=[]) (hl:l.length ≤ 1000000000):Finds C1 133 [valP b z (svs l)] [] fun r st=>r = .ret [rowV (sortS l)]∧st=rowT (sortS l):=by
  have ha:=Collect_can b z l hz hl
  refine run_intro Tryz.func133 rfl rfl rfl ?_
  repeat' ((conv=>whnf);first|refine gT ?_|refine gF ?_|refine VIf.not ?_|refine gA ?_|refine gB ?_|refine VIf.dec (fun h=>?_) (fun h=>?_)|refine gC ?_|refine gD ?_|refine VIf.mk (fun h=>?_) (fun h=>?_)|refine gO ?_|refine gP ?_|refine VNat.mk _ rfl ?_|refine gV ?_|refine vret_pf rfl ?_|refine vret_take rfl rfl ?_|refine gK ?_)
  all_goals (try (conv=>whnf))
  cases l with
  |nil =>
    refine vcall_pure rfl (Finds.mono ha ?_)
    rintro _ _ ⟨rfl,rfl⟩
    refine ⟨rfl,?_⟩
    repeat' ((conv=>whnf);first|refine gT ?_|refine gF ?_|refine VIf.not ?_|refine gA ?_|refine gB ?_|refine VIf.dec (fun h=>?_) (fun h=>?_)|refine gC ?_|refine gD ?_|refine VIf.mk (fun h=>?_) (fun h=>?_)|refine gO ?_|refine gP ?_|refine VNat.mk _ rfl ?_|refine gV ?_|refine vret_pf rfl ?_|refine vret_take rfl rfl ?_|refine gK ?_)
    all_goals (try (conv=>whnf))
    refine vcall_pure rfl (Finds.mono (finds_at (F:=sortN) (Q:=fun r _=>r = .ret []) rfl rfl rfl) ?_)
    rintro _ _ rfl
    refine ⟨rfl,?_⟩
    repeat' ((conv=>whnf);first|refine gT ?_|refine gF ?_|refine VIf.not ?_|refine gA ?_|refine gB ?_|refine VIf.dec (fun h=>?_) (fun h=>?_)|refine gC ?_|refine gD ?_|refine VIf.mk (fun h=>?_) (fun h=>?_)|refine gO ?_|refine gP ?_|refine VNat.mk _ rfl ?_|refine gV ?_|refine vret_pf rfl ?_|refine vret_take rfl rfl ?_|refine gK ?_)
    all_goals (try (conv=>whnf))
    exact ⟨rfl,rfl⟩
  |cons d q =>
    have hs:=sort_at d q hl
    have hlen:(sortS (d :: q)).length=q.length + 1:=by rw [sortS_length]; rfl
    obtain ⟨d1,q1,he⟩:∃ d1 q1,sortS (d :: q)=d1 :: q1:=by
      cases h:sortS (d :: q) with
      |nil=>rw [h] at hlen; simp at hlen
      |cons d1 q1=>exact ⟨d1,q1,rfl⟩
    rw [he] at hs hlen ⊢
    have hq:q.length=q1.length:=by simpa using hlen.symm
    refine vcall_made rfl (Finds.mono ha ?_)
    rintro _ _ ⟨rfl,rfl⟩
    refine ⟨rfl,vback_shr (.cons (shr_row (svs_pure _)) .nil) rfl ?_⟩
    repeat' ((conv=>whnf);first|refine gT ?_|refine gF ?_|refine VIf.not ?_|refine gA ?_|refine gB ?_|refine VIf.dec (fun h=>?_) (fun h=>?_)|refine gC ?_|refine gD ?_|refine VIf.mk (fun h=>?_) (fun h=>?_)|refine gO ?_|refine gP ?_|refine VNat.mk _ rfl ?_|refine gV ?_|refine vret_pf rfl ?_|refine vret_take rfl rfl ?_|refine gK ?_)
    all_goals (try (conv=>whnf))
    refine vcall_shr rfl rfl (.cons (shr_row (svs_pure _)) .nil) rfl rfl rfl rfl (Finds.mono hs ?_)
    rintro _ _ ⟨rfl,rfl⟩
    refine vback_shr (.cons (shr_row (svs_pure _)) .nil) rfl ?_
    repeat' ((conv=>whnf);first|refine gT ?_|refine gF ?_|refine VIf.not ?_|refine gA ?_|refine gB ?_|refine VIf.dec (fun h=>?_) (fun h=>?_)|refine gC ?_|refine gD ?_|refine VIf.mk (fun h=>?_) (fun h=>?_)|refine gO ?_|refine gP ?_|refine VNat.mk _ rfl ?_|refine gV ?_|refine vret_pf rfl ?_|refine vret_take rfl rfl ?_|refine gK ?_)
    all_goals (try (conv=>whnf))
    exact vret_sq (.inl ⟨rfl,rfl,rfl⟩) rfl (gc_sh (.cons (sh_row (svs_pure _)) .nil) (.cons (sh_row (svs_pure _)) .nil) rfl rfl rfl rfl rfl) (squeeze_same rfl) ⟨congrArg (fun n=>AEnd.ret [.ms 0 (n + 1)]) hq,rfl⟩
/-- texts as the program makes them -/
def encSs (l:List (List UInt8)):PV:=match l with
  |[]=>.sl true 0 []
  |d :: q=>.sl false 1 (svs (d :: q))
set_option maxRecDepth 100000 in
theorem nameSort_can (b:Bool) (z:Nat) (l:List (List UInt8)) (hz:z=1∨l=[]) (hl:l.length ≤ 1000000000):Pf C1 90 [.sl b z (svs l)] [encSs (nameSortF l)]:=by
  have hv:=Values_can b z (svs l)
  have ha:=Sorted_can b z l hz hl
  refine run_intro Tryz.func90 rfl rfl rfl ?_
  repeat' ((conv=>whnf);first|refine gT ?_|refine gF ?_|refine VIf.not ?_|refine gA ?_|refine gB ?_|refine VIf.dec (fun h=>?_) (fun h=>?_)|refine gC ?_|refine gD ?_|refine VIf.mk (fun h=>?_) (fun h=>?_)|refine gO ?_|refine gP ?_|refine VNat.mk _ rfl ?_|refine gV ?_|refine vret_pf rfl ?_|refine vret_take rfl rfl ?_|refine vcall_pf hv rfl rfl ?_|refine gK ?_)
  all_goals (try (conv=>whnf))
  unfold nameSortF
  cases hs:sortS l with
  |nil =>
    rw [hs] at ha
    refine vcall_pure rfl (Finds.mono ha ?_)
    rintro _ _ ⟨rfl,rfl⟩
    refine ⟨rfl,?_⟩
    repeat' ((conv=>whnf);first|refine gT ?_|refine gF ?_|refine VIf.not ?_|refine gA ?_|refine gB ?_|refine VIf.dec (fun h=>?_) (fun h=>?_)|refine gC ?_|refine gD ?_|refine VIf.mk (fun h=>?_) (fun h=>?_)|refine gO ?_|refine gP ?_|refine VNat.mk _ rfl ?_|refine gV ?_|refine vret_pf rfl ?_|refine vret_take rfl rfl ?_|refine gK ?_)
    all_goals (try (conv=>whnf))
    refine vcall_pure rfl (Finds.mono (finds_at (F:=compN) (Q:=fun r _=>r = .ret [.sl true 0 []]) rfl rfl rfl) ?_)
    rintro _ _ rfl
    refine ⟨rfl,?_⟩
    repeat' ((conv=>whnf);first|refine gT ?_|refine gF ?_|refine VIf.not ?_|refine gA ?_|refine gB ?_|refine VIf.dec (fun h=>?_) (fun h=>?_)|refine gC ?_|refine gD ?_|refine VIf.mk (fun h=>?_) (fun h=>?_)|refine gO ?_|refine gP ?_|refine VNat.mk _ rfl ?_|refine gV ?_|refine vret_pf rfl ?_|refine vret_take rfl rfl ?_|refine gK ?_)
    all_goals (try (conv=>whnf))
    rfl
  |cons d q =>
    rw [hs] at ha
    have hc:=comp_at d q (by rw [← hs,sortS_length]; exact hl)
    obtain ⟨d1,q1,he⟩:∃ d1 q1,compS (d :: q)=d1 :: q1:=⟨_,_,rfl⟩
    rw [he] at hc ⊢
    refine vcall_made rfl (Finds.mono ha ?_)
    rintro _ _ ⟨rfl,rfl⟩
    refine ⟨rfl,vback_shr (.cons (shr_row (svs_pure _)) .nil) rfl ?_⟩
    repeat' ((conv=>whnf);first|refine gT ?_|refine gF ?_|refine VIf.not ?_|refine gA ?_|refine gB ?_|refine VIf.dec (fun h=>?_) (fun h=>?_)|refine gC ?_|refine gD ?_|refine VIf.mk (fun h=>?_) (fun h=>?_)|refine gO ?_|refine gP ?_|refine VNat.mk _ rfl ?_|refine gV ?_|refine vret_pf rfl ?_|refine vret_take rfl rfl ?_|refine gK ?_)
    all_goals (try (conv=>whnf))
    refine vcall_shr rfl rfl (.cons (shr_row (svs_pure _)) .nil) rfl rfl rfl rfl (Finds.mono hc ?_)
    rintro _ _ ⟨rfl,rfl⟩
    refine vback_shr (.cons shr_dead (.cons (shr_row (svs_pure _)) .nil)) rfl ?_
    repeat' ((conv=>whnf);first|refine gT ?_|refine gF ?_|refine VIf.not ?_|refine gA ?_|refine gB ?_|refine VIf.dec (fun h=>?_) (fun h=>?_)|refine gC ?_|refine gD ?_|refine VIf.mk (fun h=>?_) (fun h=>?_)|refine gO ?_|refine gP ?_|refine VNat.mk _ rfl ?_|refine gV ?_|refine vret_pf rfl ?_|refine vret_take rfl rfl ?_|refine gK ?_)
    all_goals (try (conv=>whnf))
    refine vret_pub rfl (mapS_cons (pubV_row rfl (by simp) (svs_pure6 _)) mapS_nil) rfl ?_
    rfl
end Go.Proofs.YtehhihdahalfeaaGreatDoor
