/-
  ConvIMax: for every input the call returns true, and each argument reads afterwards as it read before; the tied card.
-/
import Derived.Test.YtljnahbgfmflaaaGreatDoorZJc
import Derived.Test.YtljnahbgfmflaaaGreatDoorZRi
import Derived.Test.YtljnahbgfmflaaaGreatDoorZRl
import Derived.Test.YtljnahbgfmflaaaGreatDoorCards
import Derived.Test.YtljnahbgfmflaaaGreatDoorTie
set_option linter.unusedVariables false
set_option maxRecDepth 100000
set_option linter.unusedSimpArgs false
set_option linter.unnecessarySimpa false
namespace Go.Proofs.YtljnahbgfmflaaaGreatDoor.convIMax
open Go Go.ChangeShapes Go.WideShapes Go.ChangeAt Go.RowKit
set_option linter.unusedVariables false
theorem lifted (os:Os) (started:os.Started) (H:Type) (enc:TypeId × Value→H) :
  ReturnsInHanded {} Tryz.checked os 4 .any (fun w args=>(Rows.convIMaxSpec.pre enc Tryz.prog Tryz.f4 Rows.convIMaxRow.domain false w args∧laidMetH Tryz.prog Rows.convIMaxRow.laid w)∧sizedMet enc Tryz.prog Tryz.f4 (OpenSpec.ofChange Rows.convIMaxSpec) false w args)
   (Rows.convIMaxSpec.post enc Tryz.prog Tryz.f4 false true false false):=by
 refine jbW (C:=Tryz.checked) (X:=fun w _=>laidMetH Tryz.prog Rows.convIMaxRow.laid w) (fun _ _ _ hh h=>h.of_heap hh) jqs started (by kernel_rfl) Tryz.func4
  (ChangeSpec.witness_shaped (enc:=enc) (C:=Tryz.checked) (os:=os) (X:=fun w _=>laidMetH Tryz.prog Rows.convIMaxRow.laid w) false (World.laidAll Tryz.prog os Rows.convIMaxRow.laid) #[.agg #[.int .i64 0,.int .i64 0,.slice none 0 0],.agg #[.int .i64 0,.int .i64 0,.slice none 0 0],.slice none 0 0] 8 (World.laidAll_os _ _ _)
   (World.shaped_of_ZipB (by kernel_rfl) (by kernel_rfl)) (by kernel_rfl) (by kernel_rfl) (by kernel_rfl)
   (by rw [MakeChecks.laidMetH_plain _ _ _ (by kernel_rfl)]; exact laidMet_laidAll _ (by kernel_rfl) (by kernel_rfl))) ?_
 intro W base args ds gs before hval0 hW _ hsz hL hsh _
 have hval:∀ (j:Nat) t v,Tryz.f4.params[j]? = some t→args[j]? = some v→Value.okWide Tryz.prog W .any base t v:=hval0
 have hW':=hW
 obtain ⟨p,q,hA0,hV,rfl,hfz,hnd⟩:=hW
 have hA:DataW.TrodAll enc Tryz.prog W 0 (fun _=>true) true Tryz.f4.params.toList args.toList ds p:=hA0
 rw [Tryz.params4] at hA hval
 obtain ⟨v0,vs0,d0,ds0,p0,q0,hargs,rfl,rfl,h0,r0⟩:=trodAll_cons hA
 obtain ⟨v1,vs1,d1,ds1,p1,q1,rfl,rfl,rfl,h1,r1⟩:=trodAll_cons r0
 obtain ⟨v2,vs2,d2,ds2,p2,q2,rfl,rfl,rfl,h2,r2⟩:=trodAll_cons r1
 obtain ⟨rfl,rfl,rfl⟩:=trodAll_nil r2
 obtain rfl:args = #[v0,v1,v2]:=by cases args; simp_all
 obtain ⟨rfl,rfl⟩:=trodVars_none hV
 have hw:∀ (j:Nat) (t:TypeId) (d:DataW H),(Tryz.f4.params.toList ++ Rows.convIMaxSpec.plain.varTypes Tryz.prog)[j]? = some t→([d0,d1,d2] ++ [])[j]? = some d→∀ n ∈ d.weights Tryz.prog t,n ≤ reachBytes:=fun j t d ht hd n hn=>by
  have:=List.all_eq_true.1 hsz n (DataW.weights_mem_each (j:=j) ht hd n hn)
  simpa using this
 obtain ⟨l0,c0,hl0,hr0⟩:=jeI (hval 0 38 v0 rfl rfl) h0 (hw 0 _ _ rfl rfl)
 obtain ⟨l1,c1,hl1,hr1⟩:=jeI (hval 1 38 v1 rfl rfl) h1 (hw 1 _ _ rfl rfl)
 obtain ⟨l2,hr2⟩:=jml (hval 2 39 v2 rfl rfl) h2 (hw 2 _ _ rfl rfl)
 refine (jeY (C:=C1) jr2 (jev l0 c0 hl0 l1 c1 hl1 l2 false 1 (.inl rfl)) (base_of hL hsh) (.cons hr0 (.cons hr1 (.cons hr2 .nil)))).mono ?_
 rintro e W' ⟨m',φ',us,rfl,hus,hb⟩
 obtain ⟨u,us',rfl,hu,hus'⟩:=hus.uncons
 obtain rfl:us'=[]:=List.eq_nil_of_length_eq_zero hus'.1.symm
 obtain rfl:=hu.sc_eq
 refine ⟨_,rfl,Gw.post_low hW' hb jpo (by
  rw [Tryz.params4]
  intro t ht
  simp only [List.mem_cons,List.not_mem_nil,or_false] at ht
  rcases ht with rfl|rfl|rfl
  ·exact jd7
  ·exact jd7
  ·exact jn9) rfl rfl rfl (fun b sp hd=>?_) (ok_one (by kernel_rfl) rfl (okWide_bool_mk Tryz.underlying4 _))⟩
 exact trodAll_mk1 (shut_bool Tryz.underlying4 true)
theorem proved:Rows.ConvIMaxSaid :=
 OpenClaim.holds_of_wide 4 Tryz.f4 rfl rfl rfl rfl rfl rfl rfl ⟨rfl,rfl,rfl,rfl,rfl⟩ rfl rfl rfl rfl rfl (by kernel_rfl) Tryz.func4 closed
  (of_decide_eq_true (by kernel_rfl)) (by unfold Func.isWrapper; first|(rw [if_pos (by decide +kernel)]; kernel_rfl)|(rw [if_neg (by decide +kernel)]; exact ⟨rfl,rfl⟩))
  (fun os started H enc _=>lifted os started H enc)
theorem card:Rows.ConvIMaxCardSaid :=
 Claim7.holds_tied_plain_at .later [] [.data,.data,.data,.data,.sentinel,.sentinel,.pinned] true (true,"d16d114fcb122b7b912f67af6262ca439064091dc54da650c9b74bbfba21db5b") true
  proved (fun _ h=>by cases h) (by kernel_rfl) (fun _ h=>by cases h) convIMax_row_tie rfl ⟨rfl,rfl⟩ (by kernel_rfl) rfl
  (fun f fn hf hfn=>by
   obtain rfl:f=4:=Option.some.inj ((show Tryz.prog.funcNamed "scholium/scholiumlaw14.ConvIMax" = some 4 by kernel_rfl).symm.trans hf) |>.symm
   obtain rfl:fn=Tryz.f4:=(Option.some.inj (Tryz.func4.symm.trans hfn)).symm
   exact ⟨by kernel_rfl,fun j t ht=>by
    rw [Tryz.params4] at ht
    have h3:t=38∨t=39:=by
     rcases j with _|_|_|j
     all_goals first|(simp at ht; done)|(simp at ht; subst ht; simp)
    rcases h3 with rfl|rfl
    ·exact (show Tryz.prog.wantsStandIn 38=false by kernel_rfl)
    ·exact (show Tryz.prog.wantsStandIn 39=false by kernel_rfl)⟩)
  (by kernel_rfl)
end Go.Proofs.YtljnahbgfmflaaaGreatDoor.convIMax
