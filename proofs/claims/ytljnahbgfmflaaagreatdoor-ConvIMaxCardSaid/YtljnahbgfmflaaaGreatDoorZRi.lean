/-
  From the plain machine to rows: all that lies in memory is known, values of the plain machine out of readings. No statement of the seat.
-/
import Derived.Test.YtljnahbgfmflaaaGreatDoorZPl
import Derived.Test.YtljnahbgfmflaaaGreatDoorZRw
import Derived.Lib.LaidTab
import Derived.Test.YtljnahbgfmflaaaGreatDoorRows
import Derived.JoinedOf
import Derived.LaidMore
import Derived.Lay
import Derived.Stop.LaidErr
import Derived.SevenTiedAt
import Derived.Stop.Joined
import Derived.Shelf.Vars
import Derived.Test.YtljnahbgfmflaaaGreatDoorZJc
set_option linter.unusedVariables false
set_option maxRecDepth 100000
set_option linter.unusedSimpArgs false
set_option linter.unnecessarySimpa false
namespace Go.Proofs.YtljnahbgfmflaaaGreatDoor
open Go Go.Am
def memB (W:World):Hb.Mem:=fun b o=>match W.heap[b]? with
 |some (.cells c _ _)=>c[o]?
 |_=>none
theorem jkx {W:World} {b o:Nat} {v:Value} (h:Gw.Rd (Gw.memOf W) b o v):memB W b o=some v:=by
 obtain ⟨c,T,fr,h1,h2⟩:=h
 unfold Gw.memOf at h1
 unfold memB
 rw [h1]
 exact h2
theorem jnj {W:World} {b o:Nat} {v:Value} (h:memB W b o=some v):∃ c T fr,W.heap[b]? = some (.cells c T fr)∧c[o]? = some v:=by
 unfold memB at h
 split at h
 ·rename_i c T fr e
  exact ⟨c,T,fr,e,h⟩
 ·cases h
theorem jqX {W:World} (hb:∀ b p,Hb.base b=some p→∃ cs T fr,p cs∧W.heap[b]? = some (.cells cs T fr)):Hb.Good ⟨W,memB W,Hb.feetOf []⟩ W (memB W) [] :=
 ⟨rfl,rfl,rfl,Nat.le_refl _,fun _ _ _=>rfl,fun b o v h=>jnj h,Hb.Mem.le.refl _,fun _ _ _ h=>.inl h,by simp,by simp,.nil,fun b cs h=>⟨hb b cs h,by simp⟩⟩
theorem jeY {C:Cfg} (hC:∀ n,EvOk C (ev C n)) {f:FuncId} {args rs:List PV} {W:World} {vs:List Value} (h:Pf C f args rs) (hb:∀ b p,Hb.base b=some p→∃ cs T fr,p cs∧W.heap[b]? = some (.cells cs T fr)) (hr:Rl (memB W) noPh args vs) :
  Calls C.P f vs.toArray W fun e W'=>∃ m' φ' us,e = .returned (Gw.tup us)∧Rl m' φ' rs us∧RowKit.Below W.heap.size W W':=by
 obtain ⟨r,st',rfl,N,hN⟩:=h
 have hs:Sit ⟨W,memB W,Hb.feetOf []⟩ (memB W) noPh [] [] W:=⟨jqX hb,rfl,fun _ _=>rfl⟩
 refine ((hC N).call f args [] _ st' (hN N (Nat.le_refl N)) W (memB W) noPh [] vs hs hr).mono ?_
 rintro e W' ⟨m',φ',μ',_,hs',us,rfl,hus⟩
 refine ⟨m',φ',us,rfl,hus,Good.below hs'.good (fun b ⟨r,hr,_⟩=>by cases hr)⟩
theorem LvsP.of:∀ {zs:List (Gw.Lv × List PV)},(∀ (i:Nat) (z:Gw.Lv × List PV),zs[i]? = some z→LvP z.1 (.ag z.2))→LvsP (zs.map (·.1)) (zs.map fun z=>.ag z.2)
 |[],_=>by simp only [List.map_nil,LvsP]
 |z :: r,h=>by
  simp only [List.map_cons,LvsP]
  exact ⟨_,_,rfl,h 0 z rfl,LvsP.of fun i z' hz=>h (i + 1) z' (by simpa using hz)⟩
section
open Go.Gw Go.ChangeShapes Go.WideShapes Go.ChangeAt Go.RowKit
variable {H:Type} {enc:TypeId × Value→H} {P:Program} {W:World}
theorem jpL {T S I:TypeId} {f0 f1 f2:Field} (hT:P.underlying T=some (.struct #[f0,f1,f2])) (hS:P.underlying S=some (.slice T)) (hI:P.underlying I=some (.int .i64)) (hc:P.cellsOf T=3) (hcS:P.cellsOf S=1) (hcI:P.cellsOf I=1) (hby:P.bytesOf T=40)
  (e0:f0.type=I) (o0:f0.offset=0) (e1:f1.type=I) (o1:f1.offset=1) (e2:f2.type=S) (o2:f2.offset=2) :
  ∀ (fuel:Nat) (cs:List Value) (x:DataW H × List MemPlace),DataW.trod enc P W 0 (fun _=>true) true fuel T cs=some x→(∀ n ∈ x.1.weights P T,n ≤ reachBytes)→∃ l ps,LvP l (.ag ps)∧Rl (memB W) noPh ps cs∧ps.all cell=true∧cs.length=3:=by
 intro fuel
 induction fuel using Nat.strongRecOn with
 |_ fuel ih =>
  intro cs x h hw
  obtain ⟨xs,n,rfl,rfl,hlen,hxs,hf⟩:=DataW.trod_struct hT h
  rw [hc] at hlen
  obtain ⟨c0,c1,c2,rfl⟩:∃ c0 c1 c2,cs=[c0,c1,c2]:=by
   match cs,hlen with
   |[c0,c1,c2],_=>exact ⟨c0,c1,c2,rfl⟩
  obtain ⟨y0,y1,y2,rfl⟩:∃ y0 y1 y2,xs=[y0,y1,y2]:=by
   match xs,hxs with
   |[y0,y1,y2],_=>exact ⟨y0,y1,y2,rfl⟩
  have g0:=hf 0 f0 rfl
  have g1:=hf 1 f1 rfl
  have g2:=hf 2 f2 rfl
  rw [e0,o0,hcI] at g0
  rw [e1,o1,hcI] at g1
  rw [e2,o2,hcS] at g2
  replace g0:DataW.trod enc P W 0 (fun _=>true) true n I [c0]=some y0:=g0
  replace g1:DataW.trod enc P W 0 (fun _=>true) true n I [c1]=some y1:=g1
  replace g2:DataW.trod enc P W 0 (fun _=>true) true n S [c2]=some y2:=g2
  obtain ⟨k,hk,_,wk⟩:=DataW.trod_int hI g0
  obtain ⟨q,hq,_,wq⟩:=DataW.trod_int hI g1
  cases hk
  cases hq
  have hw2:∀ n ∈ y2.1.weights P S,n ≤ reachBytes:=fun u hu=>hw u (by
   simp only [DataW.weights,hT,List.map_cons,List.map_nil]
   refine DataW.weights_mem_each (j:=2) (t:=S) (d:=y2.1) ?_ rfl u hu
   simp [e2])
  rcases DataW.trod_slice hS g2 with ⟨hn,_⟩|⟨a,len,cap,elems,rest,n',rfl,hcs,rfl,_,hl,hmax,hel,hget,hsp,_⟩
  ·cases hn
   refine ⟨.mk k q [],[iv k,iv q,.sl false 3 []],?_,.cons (.sc rfl) (.cons (.sc rfl) (.cons ?_ .nil)),rfl,rfl⟩
   ·simp only [LvP,LvsP]
    exact ⟨_,_,_,rfl,.inl rfl,rfl,by simp⟩
   ·exact R.sl (xs:=[]) (b:=0) (off:=0) (g:=fun _=>[]) (by simp) (by simp) (by unfold maxLen; omega) (by simp) (by simp) (by simp) (by simp)
  ·cases hcs
   have hb:=hw2 ((elems.length + rest.length) * 40) (by simp [DataW.weights,hS,hby])
   unfold reachBytes at hb
   have hone:∀ i,i < len→∃ z:(Lv × List PV) × List Value,(LvP z.1.1 (.ag z.1.2)∧Rl (memB W) noPh z.1.2 z.2∧z.1.2.all cell=true∧z.2.length=3∧(∀ j v,z.2[j]? = some v→memB W a.block (a.off + i * 3 + j)=some v))∧(i=0→a.spot=none):=fun i hi=>by
    have h1:=hget i hi
    rw [hc,List.getElem?_eq_getElem (by omega)] at h1
    obtain ⟨cs',h2,h3⟩:=Option.bind_eq_some_iff.1 h1
    obtain ⟨l,ps,hlv,hps,hcell',hl3'⟩:=ih n' (by omega) cs' _ h3 (fun u hu=>hw2 u (by
     simp only [DataW.weights,hS,List.mem_cons,List.mem_append]
     exact .inr (.inl (weightsAll_mem (List.mem_map.2 ⟨_,List.getElem_mem (by omega),rfl⟩) hu))))
    obtain ⟨_,hl3,hcell⟩:=World.cells?_some h2
    have hrd:∀ j,(hj:j < 3)→Gw.Rd (memOf W) a.block (a.off + i * 3 + j) (cs'[j]'(by omega))∧(j=0→(a.add (i * 3)).spot=none):=fun j hj=>by
     have h5:=hcell j hj
     rw [List.getElem?_eq_getElem (by omega)] at h5
     have h4:=jeR (a:=a.add (i * 3)) (i:=j) h5
     rw [add_block,jp0] at h4
     exact h4
    refine ⟨((l,ps),cs'),⟨hlv,hps,hcell',hl3',fun j v hj=>?_⟩,fun hi0=>?_⟩
    ·obtain ⟨hjl,hv⟩:=List.getElem?_eq_some_iff.1 hj
     have:=(hrd j (by simp only at hjl; omega)).1
     simp only at hv
     rw [hv] at this
     exact jkx this
    ·have:=(hrd 0 (by omega)).2 rfl
     subst hi0
     simpa [Addr.add] using this
   obtain ⟨zs,hls,hat⟩:=jlx hone
   have hzl:(zs.map fun z=>PV.ag z.1.2).length=len:=by simp [hls]
   refine ⟨.mk k q (zs.map (·.1.1)),[iv k,iv q,.sl false 3 (zs.map fun z=>.ag z.1.2)],?_,.cons (.sc rfl) (.cons (.sc rfl) (.cons ?_ .nil)),rfl,rfl⟩
   ·simp only [LvP]
    refine ⟨_,_,_,rfl,.inl rfl,?_,by simp [hls]; omega⟩
    have:=LvsP.of (zs:=zs.map (·.1)) (fun i z hz=>by
     rw [List.getElem?_map] at hz
     obtain ⟨z',hz',rfl⟩:=Option.map_eq_some_iff.1 hz
     exact (hat i z' hz').1.1)
    simpa [Function.comp_def] using this
   ·have hsl:=R.sl (m:=memB W) (φ:=noPh) (full:=false) (sz:=3) (xs:=zs.map fun z=>PV.ag z.1.2) (a:=some a) (cap:=cap) a.block a.off (fun i=>((zs[i]?).map (·.2)).getD []) (fun hne=>?_) (by omega) hmax (by simp) (fun i x hx=>?_) (fun i x j c v hx hc' hv=>?_) (fun e=>by cases e)
    ·rwa [hzl] at hsl
    ·have hpos:0 < len:=by
      rw [← hzl]
      exact List.length_pos_iff.2 hne
     have hspot:=(hat 0 _ (List.getElem?_eq_getElem (by omega))).2 rfl
     obtain ⟨b,off,spot⟩:=a
     obtain rfl:spot=none:=hspot
     rfl
    ·rw [List.getElem?_map] at hx
     obtain ⟨z,hz,rfl⟩:=Option.map_eq_some_iff.1 hx
     obtain ⟨⟨_,h2,h3,h4,h5⟩,_⟩:=hat i z hz
     simp only [hz,Option.map_some,Option.getD_some]
     exact ⟨by simp only [PV.cells]; rw [h2.1,h4],h4,h5,h3⟩
    ·rw [List.getElem?_map] at hx
     obtain ⟨z,hz,rfl⟩:=Option.map_eq_some_iff.1 hx
     obtain ⟨⟨_,h2,h3,h4,h5⟩,_⟩:=hat i z hz
     simp only [hz,Option.map_some,Option.getD_some] at hv
     exact h2.2 j c v hc' hv
end
open Go Go.Am
section
open Go.Gw Go.ChangeShapes Go.WideShapes Go.ChangeAt Go.RowKit
variable {H:Type} {enc:TypeId × Value→H} {P:Program} {W:World}
theorem TmsP.of:∀ {zs:List (Tm × List PV)},(∀ (i:Nat) (z:Tm × List PV),zs[i]? = some z→TmP z.1 (.ag z.2))→TmsP (zs.map (·.1)) (zs.map fun z=>.ag z.2)
 |[],_=>by simp only [List.map_nil,TmsP]
 |z :: r,h=>by
  simp only [List.map_cons,TmsP]
  exact ⟨_,_,rfl,h 0 z rfl,TmsP.of fun i z' hz=>h (i + 1) z' (by simpa using hz)⟩
end
open Go Go.ChangeShapes Go.WideShapes Go.ChangeAt Go.RowKit
set_option linter.unusedVariables false
theorem jqs:ownKnob Tryz.prog.godebug=none:=by kernel_rfl
theorem jpo:laidOutB Tryz.prog=true:=by kernel_rfl
theorem jlh : "*errors.errorString" = "*" ++ "errors.errorString" := rfl
theorem jnQ (u:TypeId) (h:Tryz.prog.typeName? 3 u=some "*errors.errorString"):u=312 :=
 typeName_ptr_named (nm := "errors.errorString") (by rw [← jlh]; kernel_rfl) (by kernel_rfl) (by decide) u (by rw [← jlh]; exact h)
theorem j6u {W:World} {n:String} {g:Nat} {cs:Array Value} (hg:Tryz.prog.globalNamed n=some g) (h:W.var? Tryz.prog n=some cs):∃ T fr,W.heap[g]? = some (.cells cs T fr):=by
 unfold World.var? at h
 rw [hg,Option.bind_some] at h
 split at h
 ·rename_i c T fr e
  cases h
  exact ⟨T,fr,e⟩
 ·cases h
theorem jkd {W:World} (hsh:W.ShapedOpen Tryz.prog):∃ cs T fr,(∃ m,cs = #[.int .i64 m])∧W.heap[1]? = some (.cells cs T fr):=by
 have hg:1 < Tryz.prog.globals.size:=of_decide_eq_true (by kernel_rfl)
 have h0:((begin Tryz.prog (fun _ _=>0) default).world.heap[1]?).bind Obj.row? = some (#[.int .i64 0],3):=by kernel_rfl
 obtain ⟨m,hm⟩:=cell_of_shapedOpen_int hsh hg h0 rfl (by kernel_rfl) (by kernel_rfl) Tryz.underlying3
 obtain ⟨cs,hh,hs,hr⟩:=hsh.1 _ _ _ hg h0
 refine ⟨cs,_,_,⟨m,?_⟩,hh⟩
 have h1:cs.size=1:=hs
 simp only [World.cell?,hh] at hm
 obtain ⟨l⟩:=cs
 match l,h1 with
 |[x],_ =>
  simp at hm
  rw [hm]
theorem base_of {W:World} (h:laidMetH Tryz.prog Rows.convIMaxRow.laid W) (hsh:W.ShapedOpen Tryz.prog):∀ b p,Hb.base b=some p→∃ cs T fr,p cs∧W.heap[b]? = some (.cells cs T fr):=by
 rw [MakeChecks.laidMetH_plain _ _ _ (by kernel_rfl)] at h
 have h2:laidMet Tryz.prog (("internal/strconv.uint64pow10",Lib.tabData .u64 Lib.pow10Tab) :: Rows.convIMaxRow.laid.drop 3) W:=laidMet.tail (laidMet.tail h)
 have h4:laidMet Tryz.prog (("strconv.ErrRange",Rows.laid_strconv_ErrRange) :: Rows.convIMaxRow.laid.drop 5) W:=laidMet.tail (laidMet.tail h2)
 have h5:laidMet Tryz.prog (("strconv.ErrSyntax",Rows.laid_strconv_ErrSyntax) :: Rows.convIMaxRow.laid.drop 6) W:=laidMet.tail h4
 have ht:=Lib.tabIs_of_head (g:=0) (by kernel_rfl) (by kernel_rfl) Tryz.underlying285 Tryz.underlying256 (by kernel_rfl) (by kernel_rfl) h2
 obtain ⟨a4,s4,hv4,-⟩:=laid_sentinel (g:=3) h4 (by kernel_rfl) (by kernel_rfl) Tryz.underlying204 jnQ Tryz.underlying312 Tryz.underlying314 rfl rfl Tryz.underlying9 (by kernel_rfl) (by kernel_rfl)
 obtain ⟨a5,s5,hv5,-⟩:=laid_sentinel (g:=2) h5 (by kernel_rfl) (by kernel_rfl) Tryz.underlying204 jnQ Tryz.underlying312 Tryz.underlying314 rfl rfl Tryz.underlying9 (by kernel_rfl) (by kernel_rfl)
 intro b p hb
 unfold Hb.base at hb
 split at hb
 ·rename_i e
  subst e
  cases hb
  obtain ⟨T,fr,e⟩:=j6u (by kernel_rfl) ht
  exact ⟨_,T,fr,rfl,e⟩
 ·split at hb
  ·rename_i e
   subst e
   cases hb
   exact jkd hsh
  ·split at hb
   ·rename_i e
    subst e
    cases hb
    obtain ⟨T,fr,e⟩:=j6u (by kernel_rfl) hv5
    exact ⟨_,T,fr,⟨_,_,rfl⟩,e⟩
   ·split at hb
    ·rename_i e
     subst e
     cases hb
     obtain ⟨T,fr,e⟩:=j6u (by kernel_rfl) hv4
     exact ⟨_,T,fr,⟨_,_,rfl⟩,e⟩
    ·cases hb
section
variable {H:Type} {enc:TypeId × Value→H} {W:World} {r:Reach} {b0:Nat} {v:Value} {d:DataW H} {ps:List MemPlace}
end
open Go Go.ChangeShapes Go.WideShapes Go.ChangeAt Go.RowKit
set_option linter.unusedVariables false
section
open Go.Gw Go.Am
variable {H:Type} {enc:TypeId × Value→H} {P:Program} {W:World}
theorem jmR {t e:TypeId} {fuel:Nat} {cs:List Value} {x:DataW H × List MemPlace} (ht:P.underlying t=some (.slice e)) (he:P.underlying e=some (.int .i64)) (hc:P.cellsOf e=1) (hby:P.bytesOf e=8)
  (h:DataW.trod enc P W 0 (fun _=>true) true fuel t cs=some x) (hw:∀ n ∈ x.1.weights P t,n ≤ reachBytes):∃ vs sv,cs=[sv]∧R (memB W) noPh (.sl false 1 (ints vs)) sv:=by
 rcases open_ints ht he hc h with ⟨rfl,rfl⟩|⟨a,len,cap,zs,rfl,_,hl,hm,hzl,rfl,hcell,_⟩
 ·exact ⟨[],_,rfl,R.sl (xs:=[]) (b:=0) (off:=0) (g:=fun _=>[]) (by simp) (by simp) (by unfold maxLen; omega) (by simp) (by simp) (by simp) (by simp)⟩
 ·simp only [if_true] at hzl
  have hlen:(ints (zs.take len)).length=len:=by simp [ints,hzl]; omega
  have hrd:∀ i,i < len→memB W a.block (a.off + i)=some (.int .i64 (zs.getD i 0)):=fun i hi=>jkx (jeR (hcell i (by omega))).1
  have hat:∀ (i:Nat) (x:PV),(ints (zs.take len))[i]? = some x→i < len∧x=iv (zs.getD i 0):=fun i x hx=>by
   have hi:i < len:=by
    have:=(List.getElem?_eq_some_iff.1 hx).1
    omega
   refine ⟨hi,?_⟩
   simp only [ints,List.getElem?_map,List.getElem?_take,if_pos hi] at hx
   obtain ⟨y,hy,rfl⟩:=Option.map_eq_some_iff.1 hx
   rw [List.getD_eq_getElem?_getD,hy]
   rfl
  refine ⟨zs.take len,_,rfl,?_⟩
  have hsl:=R.sl (m:=memB W) (φ:=noPh) (full:=false) (sz:=1) (xs:=ints (zs.take len)) (a:=some a) (cap:=cap) a.block a.off (fun i=>[.int .i64 (zs.getD i 0)]) (fun hne=>?_) (by omega) (by omega) (by simp) (fun i x hx=>?_) (fun i x j c v hx hc' hv=>?_) (by simp)
  ·rw [hlen] at hsl
   exact hsl
  ·have hpos:0 < len:=by
    rw [← hlen]
    exact List.length_pos_iff.2 hne
   have h0:=jeR (hcell 0 (by omega))
   obtain ⟨b,off,spot⟩:=a
   obtain rfl:spot=none:=h0.2 rfl
   rfl
  ·obtain ⟨hi,rfl⟩:=hat i x hx
   refine ⟨rfl,rfl,fun j v hj=>?_,rfl⟩
   match j,hj with
   |0,hj =>
    cases hj
    simpa using hrd i hi
  ·obtain ⟨hi,rfl⟩:=hat i x hx
   match j,hc',hv with
   |0,hc',hv =>
    cases hc'
    cases hv
    exact .sc rfl
end
section
variable {H:Type} {enc:TypeId × Value→H} {W:World} {r:Reach} {b0:Nat} {v:Value} {d:DataW H} {ps:List MemPlace}
theorem jd7:Tryz.prog.readableRec 38=true∧38 < Tryz.prog.types.size:=⟨by kernel_rfl,of_decide_eq_true (by kernel_rfl)⟩
theorem jn9:Tryz.prog.readableRec 39=true∧39 < Tryz.prog.types.size:=⟨by kernel_rfl,of_decide_eq_true (by kernel_rfl)⟩
theorem jeI (hv:Value.okWide Tryz.prog W r b0 38 v) (h:DataW.Trod enc Tryz.prog W 0 (fun _=>true) true 38 v d ps) (hw:∀ n ∈ d.weights Tryz.prog 38,n ≤ reachBytes) :
  ∃ l pv,LvP l pv∧Am.R (memB W) Am.noPh pv v:=by
 obtain ⟨cs,rfl,hsz⟩:=okWide_struct Tryz.underlying38 hv
 obtain ⟨fuel,hf⟩:=h
 obtain ⟨l,ps,h1,h2,h3,h4⟩:=jpL Tryz.underlying38 Tryz.underlying23 Tryz.underlying3 (by kernel_rfl) (by kernel_rfl) (by kernel_rfl) (by kernel_rfl) rfl rfl rfl rfl rfl rfl fuel _ _ hf hw
 refine ⟨l,.ag ps,h1,?_⟩
 have h2':Am.Rl (memB W) Am.noPh ps cs.toList:=by simpa [Value.cells] using h2
 have:=Am.R.ag h2'.1 h3 h2'.2
 simpa using this
theorem jml (hv:Value.okWide Tryz.prog W r b0 39 v) (h:DataW.Trod enc Tryz.prog W 0 (fun _=>true) true 39 v d ps) (hw:∀ n ∈ d.weights Tryz.prog 39,n ≤ reachBytes) :
  ∃ vs,Am.R (memB W) Am.noPh (.sl false 1 (ints vs)) v:=by
 obtain ⟨a,len,cap,rfl⟩:=okWide_slice Tryz.underlying39 hv
 obtain ⟨fuel,hf⟩:=h
 obtain ⟨vs,sv,e,hr⟩:=jmR Tryz.underlying39 Tryz.underlying3 (by kernel_rfl) (by kernel_rfl) hf hw
 cases e
 exact ⟨vs,hr⟩
end
theorem jbW {H:Type} {enc:TypeId × Value→H} {a:Assume} {C:Checked} {os:Os} {f:FuncId} {fn:Func} {s:ChangeSpec} {conds:List PathCond} {apart fresh handsOn again:Bool} {X:World→Array Value→Prop}
  (hX:∀ (w w':World) (args:Array Value),w.heap=w'.heap→X w args→X w' args)
  (own:ownKnob C.prog.godebug=none) (started:os.Started) (noInit:C.prog.inits.idxOf? f=none) (hfn:C.prog.funcs[f]? = some fn)
  (witness:∃ (w:World) (tape:Tape) (i:Input),w.os=os∧(w.forCall tape i).Shaped C.prog∧i.vars=[]∧Input.okWide C.prog (w.forCall tape i) .any w.heap.size f i ∧
   ((s.pre enc C.prog fn conds apart (w.forCall tape i).memory i.args∧X (w.forCall tape i).memory i.args)∧sizedMet enc C.prog fn (OpenSpec.ofChange s) apart (w.forCall tape i).memory i.args)∧a.holds C.prog (lone (Frame.enter C.prog f i.args .normal) [] (w.forCall tape i)))
  (contract:∀ (W:World) (base:Nat) (args:Array Value) (ds gs:List (DataW H)) (before:List MemPlace),
   (∀ (j:Nat) t v,fn.params[j]? = some t→args[j]? = some v→Value.okWide C.prog W .any base t v) →
   DataW.Whole enc C.prog fn.params.toList s.vars apart W args.toList ds gs before →
   conds.all (PathCond.test C.prog ⟨fn.params.toList,ds,s.plain.varTypes C.prog,gs⟩)=true →
   (DataW.weightsEach C.prog (fn.params.toList ++ s.plain.varTypes C.prog) (ds ++ gs)).all (· ≤ reachBytes)=true→X W args→W.ShapedOpen C.prog →
   a.holds C.prog (lone (Frame.enter C.prog f args .normal) [] W) →
   Calls C.prog f args W fun e W'=>∃ v,e = .returned v∧s.post enc C.prog fn apart fresh handsOn again W args v W') :
  ReturnsInHanded a C os f .any (fun w args=>(s.pre enc C.prog fn conds apart w args∧X w args)∧sizedMet enc C.prog fn (OpenSpec.ofChange s) apart w args) (s.post enc C.prog fn apart fresh handsOn again):=by
 refine returnsInHanded_of_calls own started noInit witness ?_
 intro w tape i _ hsh _ hok hpre hholds
 obtain ⟨_,_,_,fn',hfn',_,_,_,_,hval⟩:=hok
 have e:fn'=fn:=Option.some.inj (hfn'.symm.trans hfn)
 subst e
 obtain ⟨⟨⟨ds,gs,before,hw,hc⟩,hx⟩,hz⟩:=hpre
 have hw':=DataW.Whole.of_heap (w':=w.forCall tape i) (by rfl) hw
 refine (contract (w.forCall tape i) w.heap.size i.args ds gs before hval hw' hc (hz.weights hw) (hX _ _ _ (by rfl) hx) hsh hholds).mono fun e W' ⟨v,he,hp⟩=>?_
 subst he
 exact ChangeSpec.post_blind hp
end Go.Proofs.YtljnahbgfmflaaaGreatDoor
