/- InferFuel: for every input the call returns true, and each argument reads afterwards as it read before; the tied card. -/
import Derived.Test.YtbnodhcijeaceaaGreatDoorZRg
import Derived.Test.YtbnodhcijeaceaaGreatDoorZQo
import Derived.Test.YtbnodhcijeaceaaGreatDoorZQv
import Derived.Test.YtbnodhcijeaceaaGreatDoorCards
import Derived.Test.YtbnodhcijeaceaaGreatDoorTie
set_option linter.all false
set_option maxRecDepth 100000
namespace Go.Proofs.YtbnodhcijeaceaaGreatDoor.inferFuel
open Go Go.ChangeShapes Go.WideShapes Go.ChangeAt Go.RowKit
open Go.Am Go.Gw in
theorem jc8:Tryz.prog.readableRec 22=true∧22<Tryz.prog.types.size:=⟨by kernel_rfl,of_decide_eq_true (by kernel_rfl)⟩
section
variable{H:Type}{enc:TypeId×Value→H}{W:World}{r:Reach}{b0:Nat}{v:Value}{d:DataW H}{ps:List MemPlace}
open Go.Am Go.Gw in
theorem jck(hv:Value.okWide Tryz.prog W r b0 22 v)(h:DataW.Trod enc Tryz.prog W 0 (fun _=>true) true 22 v d ps)(hw:∀n∈d.weights Tryz.prog 22,n≤reachBytes):
  ∃ts pv,CtxA ts pv∧Am.R (memB W) Am.noPh pv v:=by
 obtain⟨a,len,cap,rfl⟩:=okWide_slice Tryz.underlying22 hv;obtain⟨fuel,hf⟩:=h;obtain⟨ts,h1,h2,h3⟩:=jaT (V:=TmP) (k:=5) (by_:=80) Tryz.underlying22 (by kernel_rfl) (by omega) (by kernel_rfl) fuel _ _ hf hw (fun n' _ cs' x' hx' hw'=>jpP Tryz.underlying25 Tryz.underlying22 Tryz.underlying86 Tryz.underlying23 Tryz.underlying3 Tryz.underlying9 (by kernel_rfl) (by kernel_rfl) (by kernel_rfl) (by kernel_rfl) (by kernel_rfl) (by kernel_rfl) (by kernel_rfl) (by kernel_rfl) rfl rfl rfl rfl rfl rfl rfl rfl rfl rfl rfl rfl rfl rfl rfl rfl n' _ _ hx' hw')
 unfold reachBytes at h3;refine⟨ts.map (·.1),_,?_,h2⟩
 cases ts with
 |nil=>exact .inr ⟨rfl,rfl⟩
 |cons x r=>exact .inl ⟨_,_,_,rfl,.inl ⟨rfl,by simp⟩,TmsP.of h1,by rw[List.length_map];omega⟩
end
theorem lifted(os:Os)(started:os.Started)(H:Type)(enc:TypeId×Value→H):
  ReturnsInHanded {} Tryz.checked os 4 .any (fun w args=>(Rows.inferFuelSpec.pre enc Tryz.prog Tryz.f4 Rows.inferFuelRow.domain false w args∧laidMetH Tryz.prog Rows.inferFuelRow.laid w)∧sizedMet enc Tryz.prog Tryz.f4 (OpenSpec.ofChange Rows.inferFuelSpec) false w args)
   (Rows.inferFuelSpec.post enc Tryz.prog Tryz.f4 false true false false):=by
 refine j8B (C:=Tryz.checked) (X:=fun w _=>laidMetH Tryz.prog Rows.inferFuelRow.laid w) (fun _ _ _ hh h=>h.of_heap hh) jsQ started (by kernel_rfl) Tryz.func4
  (ChangeSpec.witness_shaped (enc:=enc) (C:=Tryz.checked) (os:=os) (X:=fun w _=>laidMetH Tryz.prog Rows.inferFuelRow.laid w) false (World.laidAll Tryz.prog os Rows.inferFuelRow.laid) #[.slice none 0 0,.agg #[.int .i64 0,.int .i64 0,.string ⟨#[]⟩,.slice none 0 0,.slice none 0 0],.int .i64 0,.int .i64 0] 8 (World.laidAll_os _ _ _)
   (World.shaped_of_ZipB (by kernel_rfl) (by kernel_rfl)) (by kernel_rfl) (by kernel_rfl) (by kernel_rfl)
   (by rw[MakeChecks.laidMetH_plain _ _ _ (by kernel_rfl)];exact laidMet_laidAll _ (by kernel_rfl) (by kernel_rfl))) ?_
 intro W base args ds gs before hval0 hW _ hsz hL hsh _;have hval:∀(j:Nat) t v,Tryz.f4.params[j]?=some t→args[j]?=some v→Value.okWide Tryz.prog W .any base t v:=hval0;have hW':=hW;obtain⟨p,q,hA0,hV,rfl,hfz,hnd⟩:=hW;have hA:DataW.TrodAll enc Tryz.prog W 0 (fun _=>true) true Tryz.f4.params.toList args.toList ds p:=hA0
 rw[Tryz.params4] at hA hval;obtain⟨v0,vs0,d0,ds0,p0,q0,hargs,rfl,rfl,h0,r0⟩:=trodAll_cons hA;obtain⟨v1,vs1,d1,ds1,p1,q1,rfl,rfl,rfl,h1,r1⟩:=trodAll_cons r0;obtain⟨v2,vs2,d2,ds2,p2,q2,rfl,rfl,rfl,h2,r2⟩:=trodAll_cons r1;obtain⟨v3,vs3,d3,ds3,p3,q3,rfl,rfl,rfl,h3,r3⟩:=trodAll_cons r2;obtain⟨rfl,rfl,rfl⟩:=trodAll_nil r3;obtain rfl:args = #[v0,v1,v2,v3]:=by cases args;simp_all
 obtain⟨rfl,rfl⟩:=trodVars_none hV;have hw:∀(j:Nat) (t:TypeId) (d:DataW H),(Tryz.f4.params.toList++Rows.inferFuelSpec.plain.varTypes Tryz.prog)[j]?=some t→([d0,d1,d2,d3]++[])[j]?=some d→∀n∈d.weights Tryz.prog t,n≤reachBytes:=fun j t d ht hd n hn=>by
  have:=List.all_eq_true.1 hsz n (DataW.weights_mem_each (j:=j) ht hd n hn);simpa using this
 obtain⟨c0,l0,hc0,hr0⟩:=jck (hval 0 22 v0 rfl rfl) h0 (hw 0 _ _ rfl rfl);obtain⟨l1,pv1,hl1,hr1⟩:=jfz (hval 1 25 v1 rfl rfl) h1 (hw 1 _ _ rfl rfl);obtain⟨l2,hr2,_⟩:=jeN (hval 2 3 v2 rfl rfl) h2;obtain⟨l3,hr3,_⟩:=jeN (hval 3 3 v3 rfl rfl) h3;refine(jbc (C:=C6) jvz (jeJ c0 l0 hc0 l1 pv1 hl1 l2 l3) (base_of hL hsh) (.cons hr0 (.cons hr1 (.cons hr2 (.cons hr3 .nil))))).mono ?_;rintro e W' ⟨m',φ',us,rfl,hus,hb⟩;obtain⟨u,us',rfl,hu,hus'⟩:=hus.uncons;obtain rfl:us'=[]:=List.eq_nil_of_length_eq_zero hus'.1.symm;obtain rfl:=hu.sc_eq;refine⟨_,rfl,Gw.post_low hW' hb jps (by
  rw[Tryz.params4]
  intro t ht;simp only[List.mem_cons,List.not_mem_nil,or_false] at ht;rcases ht with rfl|rfl|rfl|rfl
  ·exact jc8
  ·exact jfl
  ·exact jfk
  ·exact jfk) rfl rfl rfl (fun b sp hd=>?_) (ok_one (by kernel_rfl) rfl (okWide_bool_mk Tryz.underlying4 _))⟩
 exact trodAll_mk1 (shut_bool Tryz.underlying4 true)
theorem proved:Rows.InferFuelSaid:=
 OpenClaim.holds_of_wide 4 Tryz.f4 rfl rfl rfl rfl rfl rfl rfl ⟨rfl,rfl,rfl,rfl,rfl⟩ rfl rfl rfl rfl rfl (by kernel_rfl) Tryz.func4 closed
  (of_decide_eq_true (by kernel_rfl)) (by unfold Func.isWrapper;first|(rw[if_pos (by decide +kernel)];kernel_rfl)|(rw[if_neg (by decide +kernel)];exact⟨rfl,rfl⟩))
  (fun os started H enc _=>lifted os started H enc)
theorem card:Rows.InferFuelCardSaid:=
 Claim7.holds_tied_plain_at .later [] [.data,.data,.data,.data,.sentinel,.sentinel,.pinned] true (true,"873e72a25e04a07308bbd18f70a745a76f219266b979719002c632df6bbff8df") true
  proved (fun _ h=>by cases h) (by kernel_rfl) (fun _ h=>by cases h) inferFuel_row_tie rfl ⟨rfl,rfl⟩ (by kernel_rfl) rfl
  (fun f fn hf hfn=>by
   obtain rfl:f=4:=Option.some.inj ((show Tryz.prog.funcNamed "scholium/scholiumlaw15.InferFuel" = some 4 by kernel_rfl).symm.trans hf) |>.symm
   obtain rfl:fn=Tryz.f4:=(Option.some.inj (Tryz.func4.symm.trans hfn)).symm;exact⟨by kernel_rfl,fun j t ht=>by
    rw[Tryz.params4] at ht;have h3:t=22∨t=25∨t=3:=by
     rcases j with _|_|_|_|j
     all_goals first|(simp at ht;done)|(simp at ht;subst ht;simp)
    rcases h3 with rfl|rfl|rfl
    ·exact(show Tryz.prog.wantsStandIn 22=false by kernel_rfl)
    ·exact(show Tryz.prog.wantsStandIn 25=false by kernel_rfl)
    ·exact(show Tryz.prog.wantsStandIn 3=false by kernel_rfl)⟩)
  (goesBy_none progGoes rfl)
end Go.Proofs.YtbnodhcijeaceaaGreatDoor.inferFuel
