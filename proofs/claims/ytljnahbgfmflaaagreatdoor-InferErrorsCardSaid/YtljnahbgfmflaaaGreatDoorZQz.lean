/-
  InferErrors: for every input the call returns true, and each argument reads afterwards as it read before; the tied card.
-/
import Derived.Test.YtljnahbgfmflaaaGreatDoorZQl
import Derived.Test.YtljnahbgfmflaaaGreatDoorZQb
import Derived.Test.YtljnahbgfmflaaaGreatDoorZQy
import Derived.Test.YtljnahbgfmflaaaGreatDoorCards
import Derived.Test.YtljnahbgfmflaaaGreatDoorTie
set_option linter.unusedVariables false
set_option maxRecDepth 100000
set_option linter.unusedSimpArgs false
set_option linter.unnecessarySimpa false
namespace Go.Proofs.YtljnahbgfmflaaaGreatDoor.inferErrors
open Go Go.ChangeShapes Go.WideShapes Go.ChangeAt Go.RowKit
set_option linter.unusedVariables false
theorem lifted (os:Os) (started:os.Started) (H:Type) (enc:TypeId × Value→H) :
  ReturnsInHanded {} Tryz.checked os 5 .any (fun w args=>(Rows.inferErrorsSpec.pre enc Tryz.prog Tryz.f5 Rows.inferErrorsRow.domain false w args∧laidMetH Tryz.prog Rows.inferErrorsRow.laid w)∧sizedMet enc Tryz.prog Tryz.f5 (OpenSpec.ofChange Rows.inferErrorsSpec) false w args)
   (Rows.inferErrorsSpec.post enc Tryz.prog Tryz.f5 false true false false):=by
 refine jbU (C:=Tryz.checked) (X:=fun w _=>laidMetH Tryz.prog Rows.inferErrorsRow.laid w) (fun _ _ _ hh h=>h.of_heap hh) jq8 started (by kernel_rfl) Tryz.func5
  (ChangeSpec.witness_shaped (enc:=enc) (C:=Tryz.checked) (os:=os) (X:=fun w _=>laidMetH Tryz.prog Rows.inferErrorsRow.laid w) false (World.laidAll Tryz.prog os Rows.inferErrorsRow.laid) #[.int .i64 0,.int .i64 0] 8 (World.laidAll_os _ _ _)
   (World.shaped_of_ZipB (by kernel_rfl) (by kernel_rfl)) (by kernel_rfl) (by kernel_rfl) (by kernel_rfl)
   (by rw [MakeChecks.laidMetH_plain _ _ _ (by kernel_rfl)]; exact laidMet_laidAll _ (by kernel_rfl) (by kernel_rfl))) ?_
 intro W base args ds gs before hval0 hW _ hsz hL hsh _
 have hval:∀ (j:Nat) t v,Tryz.f5.params[j]? = some t→args[j]? = some v→Value.okWide Tryz.prog W .any base t v:=hval0
 have hW':=hW
 obtain ⟨p,q,hA0,hV,rfl,hfz,hnd⟩:=hW
 have hA:DataW.TrodAll enc Tryz.prog W 0 (fun _=>true) true Tryz.f5.params.toList args.toList ds p:=hA0
 rw [Tryz.params5] at hA hval
 obtain ⟨v0,vs0,d0,ds0,p0,q0,hargs,rfl,rfl,h0,r0⟩:=trodAll_cons hA
 obtain ⟨v1,vs1,d1,ds1,p1,q1,rfl,rfl,rfl,h1,r1⟩:=trodAll_cons r0
 obtain ⟨rfl,rfl,rfl⟩:=trodAll_nil r1
 obtain rfl:args = #[v0,v1]:=by cases args; simp_all
 obtain ⟨rfl,rfl⟩:=trodVars_none hV
 obtain ⟨l0,hr0,_⟩:=jjM (hval 0 3 v0 rfl rfl) h0
 obtain ⟨l1,hr1,_⟩:=jjM (hval 1 3 v1 rfl rfl) h1
 refine (jfl (C:=C1) jqD (j8W l0 l1) (base_of hL hsh) (.cons hr0 (.cons hr1 .nil))).mono ?_
 rintro e W' ⟨m',φ',us,rfl,hus,hb⟩
 obtain ⟨u,us',rfl,hu,hus'⟩:=hus.uncons
 obtain rfl:us'=[]:=List.eq_nil_of_length_eq_zero hus'.1.symm
 obtain rfl:=hu.sc_eq
 refine ⟨_,rfl,Gw.post_low hW' hb jp0 (by
  rw [Tryz.params5]
  intro t ht
  simp only [List.mem_cons,List.not_mem_nil,or_false] at ht
  rcases ht with rfl|rfl
  ·exact jkl
  ·exact jkl) rfl rfl rfl (fun b sp hd=>?_) (ok_one (by kernel_rfl) rfl (okWide_bool_mk Tryz.underlying4 _))⟩
 exact trodAll_mk1 (shut_bool Tryz.underlying4 true)
theorem proved:Rows.InferErrorsSaid :=
 OpenClaim.holds_of_wide 5 Tryz.f5 rfl rfl rfl rfl rfl rfl rfl ⟨rfl,rfl,rfl,rfl,rfl⟩ rfl rfl rfl rfl rfl (by kernel_rfl) Tryz.func5 closed
  (of_decide_eq_true (by kernel_rfl)) (by unfold Func.isWrapper; first|(rw [if_pos (by decide +kernel)]; kernel_rfl)|(rw [if_neg (by decide +kernel)]; exact ⟨rfl,rfl⟩))
  (fun os started H enc _=>lifted os started H enc)
theorem card:Rows.InferErrorsCardSaid :=
 Claim7.holds_tied_plain_at .later [] [.data,.data,.data,.data,.sentinel,.sentinel,.pinned] true (true,"d16d114fcb122b7b912f67af6262ca439064091dc54da650c9b74bbfba21db5b") true
  proved (fun _ h=>by cases h) (by kernel_rfl) (fun _ h=>by cases h) inferErrors_row_tie rfl ⟨rfl,rfl⟩ (by kernel_rfl) rfl
  (fun f fn hf hfn=>by
   obtain rfl:f=5:=Option.some.inj ((show Tryz.prog.funcNamed "scholium/scholiumlaw15.InferErrors" = some 5 by kernel_rfl).symm.trans hf) |>.symm
   obtain rfl:fn=Tryz.f5:=(Option.some.inj (Tryz.func5.symm.trans hfn)).symm
   exact ⟨by kernel_rfl,fun j t ht=>by
    rw [Tryz.params5] at ht
    have h3:t=3:=by
     rcases j with _|_|j
     all_goals first|(simp at ht; done)|(simp at ht; subst ht; simp)
    subst h3
    exact (show Tryz.prog.wantsStandIn 3=false by kernel_rfl)⟩)
  (by kernel_rfl)
end Go.Proofs.YtljnahbgfmflaaaGreatDoor.inferErrors
