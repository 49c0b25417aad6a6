/- slices.Grow at a row of locals, from nothing: a row of one's own without elements. -/
import Derived.Lib.SliceRun
import Derived.Test.YtnfbeplfnblgjaaGreatDoorZUf
set_option linter.all false
set_option maxHeartbeats 2000000
set_option maxRecDepth 100000
namespace Go.Proofs.YtnfbeplfnblgjaaGreatDoor
open Go Go.RowKit
theorem jad(n:Nat)(h0:0<n)(hn:n≤1000000)(w:World):
  Calls Tryz.prog 195 #[.slice none 0 0,.int .i64 n] w fun en w'=>∃cap cs,en=.returned (.slice (some ⟨w.heap.size,0,none⟩) 0 cap)∧w'=w.drew.alloc (.cells cs 94)∧cs.size=cap*6∧cap≤maxLen:=by
 have hw:IntKind.i64.wrap (n:Int)=n:=Gw.wrap_i64 (by unfold Gw.i64;omega)
 have hby:(Tryz.t94).bytes=96:=rfl
 go_enter Tryz.func195,Tryz.ntmps195
 go_wp2
 ·rename_i hc;exfalso;rw[nextslicecap_zero h0] at hc;omega
 ·go_ret
  have hge:=grownCap_ge w n 0 94;have hle:=grownCap_le_maxLen w n 0 94 (by unfold maxLen;omega)
  refine⟨grownCap w n 0 94,_,rfl,rfl,?_,hle⟩;simp only[Array.size_append,size_zeroCells];show n*6+(grownCap w n 0 94-n)*6=_
  omega
open Go.Am Go.Hb in
def j3W:List PV→Sto→Option (AEnd×Sto)
 |[.sl true 0 [],.sc (.int .i64 n)],[]=>match decide (0<n)&&decide (n≤1000000) with
  |true=>some (.ret [.ms 0 0],[.row false 94 6 []])
  |false=>match decide (n=0) with
   |true=>some (.ret [.sl true 0 []],[])
   |false=>none
 |_,_=>none
theorem j8S(w:World):Calls Tryz.prog 195 #[.slice none 0 0,.int .i64 0] w fun en w'=>en=.returned (.slice none 0 0)∧w'=w:=by
 go_enter Tryz.func195,Tryz.ntmps195
 go_wp2
 all_goals
  go_ret
  exact⟨rfl,rfl⟩
open Go.Am Go.Hb in
theorem j7J:DoesOk (CallD Tryz.prog 195) j3W:=fun args st r st' hx w m φ μ vs hs hr=>by
 unfold j3W at hx;split at hx
 ·rename_i n;obtain⟨v1,vs1,rfl,h1,h2⟩:=hr.uncons;obtain⟨v2,vs2,rfl,h3,h4⟩:=h2.uncons;have:vs2=[]:=List.eq_nil_of_length_eq_zero h4.1.symm;subst this;obtain rfl:=h3.sc_eq;cases h1 with
  | @sl _ _ _ _ ad cap b0 off0 g ha hcap hmax hfull hel hrr hnil=>
   obtain rfl:=hfull rfl;obtain rfl:=hnil rfl rfl;simp only[List.length_nil];split at hx
   ·rename_i hb;rw[Bool.and_eq_true,decide_eq_true_eq,decide_eq_true_eq] at hb;cases hx;obtain⟨k,rfl⟩:∃k:Nat,n=k:=⟨n.toNat,by omega⟩
    refine(jad k (by omega) (by omega) w).mono fun en w' ⟨cap,cs,e1,e2,e3,e4⟩=>?_
    subst e1;subst e2;have hs':Sit ⟨w,m,feetOf μ⟩ m φ μ [] w:=⟨Hb.Good.start (ν:=[]) (by simpa using hs.good),hs.sto,hs.dom⟩
    have hg0:=(hs'.good.drew (w.drawn+1)).new (.cells cs 94);have hg1:Hb.Good ⟨w,m,feetOf μ⟩ (w.drew.alloc (.cells cs 94)) m (.row false (.slice (some ⟨w.heap.size,0,none⟩) 0 cap) 94 6 0 []::μ):=by
     have hg00:Hb.Good ⟨w,m,feetOf μ⟩ (w.drew.alloc (.cells cs 94)) m (.blk w.heap.size (.cells cs 94)::μ):=hg0;exact hg00.turn (w':=w.drew.alloc (.cells cs 94)) rfl rfl rfl (Nat.le_refl _) (fun _ _ _=>rfl) (fun b' o u hf hm=>hg00.sub b' o u hm) (by
       refine⟨rfl,.inr ⟨w.heap.size,cap,cs,(0,0),rfl,heap_alloc_new w.drew _,.inl rfl,Nat.zero_le _,e4,e3,by simp⟩⟩)
      (fun b' hf=>.inl ⟨hf,by simp[Res.lim]⟩)
    obtain⟨hsit,hext⟩:=hs'.push (p:=.row (.slice (some ⟨w.heap.size,0,none⟩) 0 cap) 0 6) (o:=.row false 94 6 []) hg1 ⟨some ⟨w.heap.size,0,none⟩,cap,[],by rw[more_self];rfl,rfl,by omega,⟨rfl,fun i x vs hi=>by simp at hi⟩⟩
    exact⟨m,_,_,hext,hsit,[_],rfl,.cons (.ms (more_self _ _ _) (Nat.le_refl _) (fun _=>rfl) ⟨_,_,_,rfl⟩) .nil⟩
   ·split at hx
    ·rename_i hb;rw[decide_eq_true_eq] at hb;cases hx;subst hb;refine(j8S w).mono fun en w' ⟨e1,e2⟩=>?_
     subst e1;subst e2;have hs':Sit ⟨w',m,feetOf μ⟩ m φ μ [] w':=⟨Hb.Good.start (ν:=[]) (by simpa using hs.good),hs.sto,hs.dom⟩
     exact⟨m,φ,μ,Ext.refl _ _,hs',[_],rfl,.cons (.sl b0 off0 g ha hcap hmax hfull hel hrr hnil) .nil⟩
    ·cases hx
 ·cases hx
open Go Go.RowKit
theorem clone_nil(c:Nat)(w:World):Calls Tryz.prog 93 #[.slice none 0 c] w fun en w'=>en=.returned (.slice none 0 0)∧w'=w:=by
 have q22:∀(w:World) (a:Option Addr) (n c n' c':Nat),(binOp .eql 23 (.slice a n c) (.slice none n' c')).run Tryz.prog w=.ok (.bool a.isNone) w:=fun w a n c n' c'=>Lib.run_eql_slice_nil w _ _ a n c n' c' Tryz.underlying23
 go_enter Tryz.func93,Tryz.ntmps93
 go_wp2
 all_goals
  go_ret
  exact⟨rfl,rfl⟩
theorem j9J(a:Addr)(c:Nat)(w:World):Calls Tryz.prog 93 #[.slice (some a) 0 c] w fun en w'=>∃a',en=.returned (.slice (some a') 0 0)∧w'=w.alloc (.cells #[] 25):=by
 have q22:∀(w:World) (a:Option Addr) (n c n' c':Nat),(binOp .eql 23 (.slice a n c) (.slice none n' c')).run Tryz.prog w=.ok (.bool a.isNone) w:=fun w a n c n' c'=>Lib.run_eql_slice_nil w _ _ a n c n' c' Tryz.underlying23
 go_enter Tryz.func93,Tryz.ntmps93
 go_wp2
 all_goals
  go_ret
  exact⟨_,rfl,rfl⟩
open Go.Am Go.Hb in
def j9I:List PV→Sto→Option (AEnd×Sto)
 |[.sl _ _ []],[]=>some (.ret [.sl true 5 []],[])
 |_,_=>none
open Go.Am Go.Hb in
theorem j9W:DoesOk (CallD Tryz.prog 93) j9I:=fun args st r st' hx w m φ μ vs hs hr=>by
 unfold j9I at hx;split at hx
 ·cases hx;obtain⟨v1,vs1,rfl,h1,h2⟩:=hr.uncons;have:vs1=[]:=List.eq_nil_of_length_eq_zero h2.1.symm;subst this;cases h1 with
  | @sl _ _ _ _ ad cap b0 off0 g ha hcap hmax hfull hel hrr hnil=>
   cases ad with
   |none=>
    refine(clone_nil cap w).mono fun en w' ⟨e1,e2⟩=>?_
    subst e1;subst e2;have hs':Sit ⟨w',m,feetOf μ⟩ m φ μ [] w':=⟨Hb.Good.start (ν:=[]) (by simpa using hs.good),hs.sto,hs.dom⟩
    exact⟨m,φ,μ,Ext.refl _ _,hs',[_],rfl,.cons (.sl b0 off0 g (fun h=>absurd rfl h) (by simp) (by unfold maxLen;omega) (by simp) (by simp) (by simp) (by simp)) .nil⟩
   |some a=>
    refine(j9J a cap w).mono fun en w' ⟨a',e1,e2⟩=>?_
    subst e1;subst e2;have hs':Sit ⟨w,m,feetOf μ⟩ m φ μ [] w:=⟨Hb.Good.start (ν:=[]) (by simpa using hs.good),hs.sto,hs.dom⟩
    have hg:Hb.Good ⟨w,m,feetOf μ⟩ (w.alloc (.cells #[] 25)) m μ:=Hb.Good.drop (hs'.good.new (.cells #[] 25)) (List.sublist_cons_self _ _);exact⟨m,φ,μ,Ext.refl _ _,⟨hg,hs'.sto,hs'.dom⟩,[_],rfl,.cons (.sl b0 off0 g (fun h=>absurd rfl h) (by simp) (by unfold maxLen;omega) (by simp) (by simp) (by simp) (by simp)) .nil⟩
 ·cases hx
open Go Go.Am Go.Gw
def isF9(f:Nat):Bool:=memN [148,88,84,82,83,86,94,85,42,91,43,92,44,45,47,46,39,10,38,11] f
noncomputable def CK:Cfg:=⟨C1.P,C1.fz,C1.raw,fun f=>Nat.beq f 93||C1.keep f,C1.lit,C1.nat,C1.fzc,C1.pst,false⟩
theorem je0(n:Nat):EvOk CK (ev CK n):=ev_ok (C:=CK) (by kernel_rfl) (by kernel_rfl) (fun f F h=>jc1 f F h) n
noncomputable def nat9(f:FuncId):Option (List PV→Sto→Option (AEnd×Sto)):=match isF9 f with
 |true=>none
 |false=>match Nat.beq f 195 with
  |true=>some j3W
  |false=>match Nat.beq f 93 with
   |true=>some (orN j9I (j3f CK f))
   |false=>some (j3f C1 f)
noncomputable def C9:Cfg:=⟨C1.P,C1.fz,C1.raw,C1.keep,C1.lit,nat9,C1.fzc,C1.pst,false⟩
theorem jdd:NatOk C9:=fun f F hF=>by
 have hF:nat9 f=some F:=hF;unfold nat9 at hF;split at hF
 ·cases hF
 ·split at hF
  ·rename_i hb;cases hF;have e:=Nat.eq_of_beq_eq_true hb;subst e;exact j7J
  ·split at hF
   ·rename_i hb;cases hF;have e:=Nat.eq_of_beq_eq_true hb;subst e;exact j2C j9W (j1l (C:=CK) (fun n=>(je0 n).call) _)
   ·cases hF;exact j1l (C:=C1) (fun n=>(j3B n).call) f
theorem j6V(n:Nat):EvOk C9 (ev C9 n):=ev_ok (by kernel_rfl) (by kernel_rfl) jdd n
variable{f:FuncId}{args xs:List PV}{st:Sto}
theorem up9{Q:AEnd→Sto→Prop}(h:Finds C1 f args st Q)(hf:(isF9 f||(Nat.beq f 195||Nat.beq f 93))=false:=by exact rfl):Finds C9 f args st Q:=by
 rw[Bool.or_eq_false_iff,Bool.or_eq_false_iff] at hf;obtain⟨h1,h2,h3⟩:=hf;refine j2z (C:=C1) (F:=j3f C1 f) (show nat9 f=_ from ?_) (fun r st' h=>h) h
 unfold nat9;rw[h1,h2,h3]
theorem j6o(n:Nat)(h0:0<n)(hn:n≤1000000):Finds C9 195 [.sl true 0 [],iv n] [] fun r st=>r=.ret [.ms 0 0]∧st=[.row false 94 6 []]:=by
 refine finds_at (F:=j3W) rfl (r:=.ret [.ms 0 0]) (st':=[.row false 94 6 []]) ?_ ⟨rfl,rfl⟩;have h1:decide ((0:Int)<n)=true:=decide_eq_true (by omega)
 have h2:decide ((n:Int)≤1000000)=true:=decide_eq_true (by omega)
 simp only[j3W,h1,h2,Bool.and_self]
theorem jae:Pf C9 195 [.sl true 0 [],iv 0] [.sl true 0 []]:=pf_at (F:=j3W) rfl (st':=[]) rfl
def LssP:List (List (List UInt8×Tm))→List PV→Prop
 |[],xs=>xs=[]
 |l::r,xs=>∃b z ys xs',xs=.sl b z ys::xs'∧(z=6∨ys=[])∧LosP l ys∧LssP r xs'
theorem LssP.len:∀{ls:List (List (List UInt8×Tm))}{xs:List PV},LssP ls xs→xs.length=ls.length
 |[],xs,h=>by simp only[LssP] at h;simp[h]
 |l::r,xs,h=>by
  simp only[LssP] at h;obtain⟨b,z,ys,xs',rfl,_,_,h⟩:=h;simp[h.len]
theorem LssP.at:∀{ls:List (List (List UInt8×Tm))}{xs:List PV}{i:Nat}{l:List (List UInt8×Tm)},LssP ls xs→ls[i]?=some l→∃b z ys,xs[i]?=some (.sl b z ys)∧(z=6∨ys=[])∧LosP l ys
 |[],xs,i,l,_,h=>by simp at h
 |x::r,xs,i,l,h,e=>by
  simp only[LssP] at h;obtain⟨b,z,ys,xs',rfl,h1,h2,h3⟩:=h;cases i with
  |zero=>simp at e;subst e;exact⟨b,z,ys,rfl,h1,h2⟩
  |succ i=>simpa using h3.at (i:=i) (by simpa using e)
theorem LosP.app:∀{l r:List (List UInt8×Tm)}{xs ys:List PV},LosP l xs→LosP r ys→LosP (l++r) (xs++ys)
 |[],r,xs,ys,h,k=>by
  simp only[LosP] at h;subst h;simpa using k
 |x::l,r,xs,ys,h,k=>by
  simp only[LosP] at h;obtain⟨v,xs',rfl,h1,h2⟩:=h;simp only[List.cons_append,LosP];exact⟨_,_,rfl,h1,h2.app k⟩
def catP:List PV→List PV
 |[]=>[]
 | .sl _ _ ys::r=>ys++catP r
 |_::r=>catP r
theorem j2x:∀{ls:List (List (List UInt8×Tm))}{xs:List PV},LssP ls xs→LosP ls.flatten (catP xs)
 |[],xs,h=>by
  simp only[LssP] at h;subst h;simp only[List.flatten_nil,catP,LosP]
 |l::r,xs,h=>by
  simp only[LssP] at h;obtain⟨b,z,ys,xs',rfl,h1,h2,h3⟩:=h;simp only[List.flatten_cons,catP];exact h2.app (j2x h3)
theorem j0i:∀(xs:List PV) (b:Bool) (z:Nat) (ys:List PV),catP (xs++[.sl b z ys])=catP xs++ys
 |[],b,z,ys=>by simp[catP]
 | .sl c y zs::r,b,z,ys=>by simp only[List.cons_append,catP,j0i r,List.append_assoc]
 | .sc _::r,b,z,ys=>by simp only[List.cons_append,catP,j0i r]
 | .ag _::r,b,z,ys=>by simp only[List.cons_append,catP,j0i r]
 | .tu _::r,b,z,ys=>by simp only[List.cons_append,catP,j0i r]
 | .ms _ _::r,b,z,ys=>by simp only[List.cons_append,catP,j0i r]
 | .bp _ _::r,b,z,ys=>by simp only[List.cons_append,catP,j0i r]
 | .rp _ _ _ _::r,b,z,ys=>by simp only[List.cons_append,catP,j0i r]
 | .cp _::r,b,z,ys=>by simp only[List.cons_append,catP,j0i r]
 | .ci _::r,b,z,ys=>by simp only[List.cons_append,catP,j0i r]
 | .fn _ _ _::r,b,z,ys=>by simp only[List.cons_append,catP,j0i r]
 | .ifc _ _::r,b,z,ys=>by simp only[List.cons_append,catP,j0i r]
 | .yl _::r,b,z,ys=>by simp only[List.cons_append,catP,j0i r]
 | .mr _::r,b,z,ys=>by simp only[List.cons_append,catP,j0i r]
 | .cr _::r,b,z,ys=>by simp only[List.cons_append,catP,j0i r]
 | .un::r,b,z,ys=>by simp only[List.cons_append,catP,j0i r]
theorem LosP.pure:∀{ls:List (List UInt8×Tm)}{xs:List PV}(n:Nat),LosP ls xs→xs.all (pur (n+2))=true
 |[],xs,n,h=>by simp only[LosP] at h;subst h;rfl
 |l::r,xs,n,h=>by
  simp only[LosP] at h;obtain⟨v,xs',rfl,h1,h2⟩:=h;obtain⟨s,k,nn,s1,b,z,ys,c,y,zs,t,rfl,rfl,-⟩:=h1.open;rw[List.all_cons,h2.pure n];rfl
open Go Go.Am Go.Gw
theorem j4o{C:Cfg}{rs:List PV}{st1:Sto}{K:AEnd→Sto→Prop}(h:Finds C f args [] fun r s=>r=.ret rs∧s=st1)(ha:args.all (pur 8)=true)(hp:rs.all (pur 8)=false)(hb:VBack [] st (.ret rs) st1 K):VCall C f args st K:=vcall_made ha (Finds.mono h (by rintro _ _ ⟨rfl,rfl⟩;exact⟨hp,hb⟩))
theorem j9G{i:Nat}{b:Bool}{z:Nat}{ys:List PV}(h:xs[i]?=some (.sl b z ys)):catP (xs.take (i+1))=catP (xs.take i)++ys:=by rw[take_snoc' h,j0i]
theorem j4Y:∀(xs ys:List PV),(∀x∈xs,∃b z l,x=.sl b z l)→catP (xs++ys)=catP xs++catP ys
 |[],ys,_=>rfl
 |x::r,ys,h=>by
  obtain⟨b,z,l,rfl⟩:=h x (by simp)
  simp only[List.cons_append,catP,j4Y r ys (fun y hy=>h y (by simp[hy])),List.append_assoc]
theorem LssP.sls:∀{ls:List (List (List UInt8×Tm))}{xs:List PV},LssP ls xs→∀x∈xs,∃b z l,x=.sl b z l
 |[],xs,h,x,hx=>by
  simp only[LssP] at h;subst h;cases hx
 |l::r,xs,h,x,hx=>by
  simp only[LssP] at h;obtain⟨b,z,ys,xs',rfl,h1,h2,h3⟩:=h;rcases List.mem_cons.1 hx with rfl|hx
  ·exact⟨_,_,_,rfl⟩
  ·exact h3.sls x hx
theorem jcq{ls:List (List (List UInt8×Tm))}(h:LssP ls xs)(i:Nat):(catP (xs.take i)).length≤(catP xs).length:=by
 have e:=j4Y (xs.take i) (xs.drop i) fun x hx=>h.sls x (List.mem_of_mem_take hx)
 rw[List.take_append_drop] at e;rw[e,List.length_append];omega
theorem j4x{a y:Nat}{l:List PV}(h:y=a∨l=[]):(true&&(Nat.beq a y||l.isEmpty))=true:=by
 rcases h with rfl|rfl<;>simp
def catV(xs:List PV):PV:=match catP xs with
 |[]=>.sl true 0 []
 |v::r=>.sl false 6 (v::r)
theorem j2s(ls:List (List (List UInt8×Tm)))(b:Bool)(z:Nat)(xs:List PV)(hz:z=1∨xs=[])(hxs:LssP ls xs)(hl:xs.length≤1000000)(hbd:(catP xs).length≤1000000):Pf C9 148 [.sl b z xs] [catV xs]:=by
 have hlen:=hxs.len;have hcl:=j2x hxs;have hpt:∀i,(catP (xs.take i)).all (pur 8)=true:=fun i=>by
  have e:=j4Y (xs.take i) (xs.drop i) fun x hx=>hxs.sls x (List.mem_of_mem_take hx)
  rw[List.take_append_drop] at e;have:=hcl.pure 6;rw[e,List.all_append,Bool.and_eq_true] at this;exact this.1
 have hnext:∀i,i<xs.length→∃c y ys,xs[i]?=some (.sl c y ys)∧(y=6∨ys=[])∧catP (xs.take (i+1))=catP (xs.take i)++ys∧(catP (xs.take i)).length+ys.length≤(catP xs).length∧ys.all (pur 6)=true:=fun i hi=>by
  obtain⟨l,hl⟩:∃l,ls[i]?=some l:=⟨_,List.getElem?_eq_getElem (by omega)⟩
  obtain⟨c,y,ys,h1,h2,h3⟩:=hxs.at hl;have e:=j9G h1;have:=jcq hxs (i+1);rw[e,List.length_append] at this;exact⟨c,y,ys,h1,h2,e,this,h3.pure 4⟩
 refine run_intro Tryz.func148 rfl rfl rfl ?_;repeat'(first|refine gU ?_|apply gE<;>intro h|apply gM<;>intro h|apply gK)<;>conv=>whnf
 refine loop_over (G:=Nat) (fun i=>[(3,iv (catP (xs.take i)).length),(11,iv i)]) (fun _=>_) (fun i=>i≤xs.length) (fun i=>xs.length-i) 0 (by omega) rfl rfl ?_
 intro i hi;repeat'(first|refine gU ?_|apply gE<;>intro h|apply gM<;>intro h|apply gK)<;>conv=>whnf
 ·obtain⟨c,y,ys,h1,h2,h3,h4,h5⟩:=hnext i (by omega)
  repeat'(first|refine gU ?_|apply gE<;>intro h|apply gM<;>intro h|refine VIdx.mk _ h1 ?_|refine gZ hz ?_|apply gK)<;>conv=>whnf
  ·refine VAgain.mk _ rfl _ (gc_take rfl rfl rfl) ⟨i+1,by omega,by omega,?_⟩
   rw[h3,List.length_append];rfl
 ·rw[List.take_of_length_le (by omega)]
  by_cases h0:(catP xs).length=0
  ·have hg:=jae;rw[h0];repeat'(first|refine gU ?_|apply gE<;>intro h|apply gM<;>intro h|refine gX hg ?_|apply gK)<;>conv=>whnf
   refine loop_over (G:=Nat) (fun i=>[(27,iv i)]) (fun _=>_) (fun i=>i≤xs.length) (fun i=>xs.length-i) 0 (by omega) rfl rfl ?_
   intro k hk;repeat'(first|refine gU ?_|apply gE<;>intro h|apply gM<;>intro h|apply gK)<;>conv=>whnf
   ·obtain⟨c,y,ys,h1,h2,h3,h4,h5⟩:=hnext k (by omega)
    obtain rfl:ys=[]:=List.eq_nil_of_length_eq_zero (by omega)
    repeat'(first|refine gU ?_|apply gE<;>intro h|apply gM<;>intro h|refine VIdx.mk _ h1 ?_|refine gZ hz ?_|refine VOk.mk (j4x (a:=6) (.inr rfl)) ?_|apply gK)<;>conv=>whnf
    exact VAgain.mk _ rfl _ (gc_take rfl rfl rfl) ⟨k+1,by omega,by omega,rfl⟩
   ·unfold catV;rw[List.eq_nil_of_length_eq_zero h0];rfl
  ·have hg:=j6o (catP xs).length (by omega) hbd
   repeat'(first|refine gU ?_|apply gE<;>intro h|apply gM<;>intro h|refine j4o hg rfl rfl (vback rfl ?_)|apply gK)<;>conv=>whnf
   refine loop_over (G:=Nat) (fun i=>[(27,iv i),(6,.ms 0 (catP (xs.take i)).length)]) (fun i=>[.row false 94 6 (catP (xs.take i))]) (fun i=>i≤xs.length) (fun i=>xs.length-i) 0 (by omega) rfl rfl ?_
   intro k hk;repeat'(first|refine gU ?_|apply gE<;>intro h|apply gM<;>intro h|apply gK)<;>conv=>whnf
   ·obtain⟨c,y,ys,h1,h2,h3,h4,h5⟩:=hnext k (by omega)
    have hp8:(catP (xs.take k)).all (pur 8)=true:=hpt k;have hp8':(catP (xs.take (k+1))).all (pur 8)=true:=hpt (k+1);cases ys with
    |nil=>
     rw[List.append_nil] at h3;repeat'(first|refine gU ?_|apply gE<;>intro h|apply gM<;>intro h|refine VIdx.mk _ h1 ?_|refine gZ hz ?_|refine VOk.mk (j4x (a:=6) (.inr rfl)) ?_|refine VOk.mk (j0o (w:=96) (r:=140737488355328) rfl rfl rfl rfl rfl (by simp only[List.length_nil];omega) (by simp only[List.length_nil];omega)) ?_|apply gK)<;>conv=>whnf
     refine VAgain.mk _ rfl _ rfl ⟨k+1,by omega,by omega,?_⟩
     rw[h3];rfl
    |cons v r=>
     repeat'(first|refine gU ?_|apply gE<;>intro h|apply gM<;>intro h|refine VIdx.mk _ h1 ?_|refine gZ hz ?_|refine VOk.mk (j4x (a:=6) h2) ?_|refine VOk.mk (j0o (w:=96) (r:=140737488355328) rfl rfl rfl rfl rfl (by omega) (by omega)) ?_|apply gK)<;>conv=>whnf
     refine VAgain.mk _ rfl _ rfl ⟨k+1,by omega,by omega,?_⟩
     have e:(catP (xs.take (k+1))).length=(catP (xs.take k)).length+(v::r).length:=by rw[h3,List.length_append]
     rw[e,h3];rfl
   ·rw[List.take_of_length_le (by omega)]
    rw[show catV xs=.sl false 6 (catP xs) by
     unfold catV;cases hc:catP xs with
     |nil=>rw[hc] at h0;exact absurd rfl h0
     |cons v r=>rfl]
    exact j5L rfl rfl rfl (hcl.pure 4) rfl
open Go Go.Am Go.Gw
structure Dc where
 k:Int
 p:Int
 nm:List UInt8
 ty:Tm
 vl:Tm
 fx:Int
 cs:List (List UInt8×Tm)
def je3(k p:Int)(nm:List UInt8)(ty vl:List PV)(fx:Int)(cs:PV):List PV:=iv k::iv p::sv nm::(ty++(vl++[iv fx,cs]))
inductive DcP:Dc→PV→Prop where
 |mk (k p:Int) (nm:List UInt8) (ty vl:Tm) (fx:Int) (cs:List (List UInt8×Tm)) (a1 a2:Int) (a3:List UInt8) (a4:Bool) (a5:Nat) (a6:List PV) (a7:Bool) (a8:Nat) (a9:List PV) (b1 b2:Int) (b3:List UInt8) (b4:Bool) (b5:Nat) (b6:List PV) (b7:Bool) (b8:Nat) (b9:List PV) (cb:Bool) (cz:Nat) (cx:List PV)
   (hty:TmP ty (.ag [iv a1,iv a2,sv a3,.sl a4 a5 a6,.sl a7 a8 a9])) (hvl:TmP vl (.ag [iv b1,iv b2,sv b3,.sl b4 b5 b6,.sl b7 b8 b9])) (hz:cz=6∨cx=[]) (hcs:LosP cs cx) (hlen:cs.length≤1466015503701) (hnm:nm.length≤140737488355328) (hk:i64 k) (hp:i64 p) (hfx:i64 fx) :
   DcP ⟨k,p,nm,ty,vl,fx,cs⟩ (.ag [iv k,iv p,sv nm,iv a1,iv a2,sv a3,.sl a4 a5 a6,.sl a7 a8 a9,iv b1,iv b2,sv b3,.sl b4 b5 b6,.sl b7 b8 b9,iv fx,.sl cb cz cx])
open Go Go.Am Go.Gw
def dcB(k p:Int)(r:List PV):SO:=.box 28 (iv k::iv p::r)
def clV(i:Nat):PV:=.fn 151 [] [.bp i 0]
def jdU(p:Int)(c:List UInt8×Tm):Bool:=!j1t c.1 || !j1c c.2 p 0
def fmS(k p:Int)(r:List PV):Sto:=[.box 170 [clV 1],.box 28 (iv k::iv p::r)]
def wrP:PV:=.fn 152 [] [.bp 0 0]
def idxW(q:List UInt8×Tm→Bool):List (List UInt8×Tm)→Nat→Int
 |[],_=>-1
 |t::r,i=>if q t=true then i else idxW q r (i+1)
def jcF(d:Dc):Bool:=
 if(decide (1≤d.k∧d.k≤5)&&(j1t d.nm&&j1c d.ty d.p 0))=true then
  (if d.k=5 then eqTm d.vl tz&&(decide (0≤d.fx)&&(decide (d.fx≤16)&&(decide (d.cs.length≤8) && !d.cs.any (jdU d.p))))
  else if d.fx≠0∨d.cs.length≠0 then false
  else if 2≤d.k∧d.k≤4 then j1c d.vl d.p 0
  else eqTm d.vl tz)
 else false
end Go.Proofs.YtnfbeplfnblgjaaGreatDoor
