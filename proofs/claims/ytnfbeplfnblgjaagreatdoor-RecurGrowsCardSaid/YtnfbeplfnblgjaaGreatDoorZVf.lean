/- Terms made over locals by package recur: pi, lam, apply. -/
import Derived.Test.YtnfbeplfnblgjaaGreatDoorZXc
set_option linter.all false
set_option maxHeartbeats 1000000
set_option maxRecDepth 100000
namespace Go.Proofs.YtnfbeplfnblgjaaGreatDoor
open Go Go.Am Go.Gw
theorem j3O(xs:List PV):∃b z,catV xs=.sl b z (catP xs)∧(z=6∨catP xs=[]):=by
 unfold catV;cases h:catP xs with
 |nil=>exact⟨true,0,rfl,.inr rfl⟩
 |cons v r=>exact⟨false,6,rfl,.inl rfl⟩
theorem LosP.short:∀{l:List (List UInt8×Tm)}{xs:List PV},LosP l xs→∀x∈l,x.1.length≤140737488355328
 |[],xs,h,x,hx=>by cases hx
 |y::r,xs,h,x,hx=>by
  simp only[LosP] at h;obtain⟨v,xs',rfl,h1,h2⟩:=h;rcases List.mem_cons.1 hx with rfl|hx
  ·obtain⟨cs,_,_,h3⟩:=h1;exact h3
  ·exact h2.short x hx
variable{p q:Bool}{f:FuncId}{ls:List (List Lo)}{args ms rs xs:List PV}{n:Nat}{rest st:Sto}
theorem jbk{l:List (List UInt8×Tm)}(h:LosP l xs):∀t∈j1p l,TmW t:=fun t ht=>by
 obtain⟨x,hx,rfl⟩:=List.mem_map.1 ht;exact cn_w (h.short x hx)
theorem jbe(t:Tm)(v:PV)(h:TmP t v)(ls:List (List Lo))(b:Bool)(z:Nat)(xs:List PV)(hz:z=1∨xs=[])(hxs:LssP ls xs)(hl:xs.length≤1000000)(hbd:(catP xs).length≤1000000):Pf C9 85 [v,.sl b z xs] [appV (encT t) (j1p ls.flatten)]:=by
 have hc:=j2s ls b z xs hz hxs hl hbd;have hlo:=j2x hxs;obtain⟨b1,z1,e1,e2⟩:=j3O xs;rw[e1] at hc;have hk:Pf C9 _ _ _:=up9 (j0V ls.flatten b1 z1 (catP xs) e2 hlo (by have:=hlo.len;omega))
 have hcl:(j1p ls.flatten).length=(catP xs).length:=by rw[j1p,List.length_map];exact hlo.len.symm
 obtain⟨b2,z2,ys,e3,e4,e5⟩:=j4L (jbk hlo);have e3':j2g (ls.flatten.map fun x=>cn x.1)=.sl b2 z2 ys:=e3
 rw[e3'] at hk;have ha:Pf C9 _ _ _:=up9 (j7z t v h (j1p ls.flatten) b2 z2 ys e4 e5 (by omega))
 cases h.c;obtain⟨k9,n9,s9,b9,z9,x9,c9,y9,ys9,he9⟩:=j04 t;rw[he9] at ha⊢;obtain⟨k8,n8,s8,b8,z8,x8,c8,y8,ys8,he8⟩:=j3M (j1p ls.flatten) k9 n9 s9 b9 z9 x9 c9 y9 ys9;rw[he8] at ha⊢;refine run_intro Tryz.func85 rfl rfl rfl ?_;repeat'(first|refine gU ?_|apply gE<;>intro h|apply gM<;>intro h|refine finds_pf hc fun _=>?_|refine finds_pf hk fun _=>?_|refine finds_pf ha fun _=>?_|apply gK)<;>conv=>whnf
 all_goals rfl
theorem jew(t:Tm)(v:PV)(h:TmP t v)(ls:List (List Lo))(b:Bool)(z:Nat)(xs:List PV)(hz:z=1∨xs=[])(hxs:LssP ls xs)(hl:xs.length≤1000000)(hbd:(catP xs).length≤1000000)(x:Tm)(hx:j0u 6 t ls.flatten=some x)(hw:TmW x):Pf C9 86 [v,.sl b z xs] [encT x]:=by
 have hc:=j2s ls b z xs hz hxs hl hbd;have hlo:=j2x hxs;obtain⟨b1,z1,e1,e2⟩:=j3O xs;rw[e1] at hc;have hk:Pf C9 _ _ _:=up9 (j1B 6 t v h ls.flatten b1 z1 (catP xs) e2 hlo (by have:=hlo.len;omega))
 have hf:=j5m x _ hw;rw[hx] at hk;simp only[j3s] at hk;cases h.c;obtain⟨k9,n9,s9,b9,z9,x9,c9,y9,ys9,he9⟩:=j04 x;rw[he9] at hk hf⊢;refine run_intro Tryz.func86 rfl rfl rfl ?_;repeat'(first|refine gU ?_|apply gE<;>intro h|apply gM<;>intro h|refine finds_pf hc fun _=>?_|refine finds_pf hk fun _=>?_|refine finds_pf hf fun _=>?_|apply gK)<;>conv=>whnf
 all_goals rfl
theorem jdr(t:Tm)(v:PV)(h:TmP t v)(ls:List (List Lo))(b:Bool)(z:Nat)(xs:List PV)(hz:z=1∨xs=[])(hxs:LssP ls xs)(hl:xs.length≤1000000)(hbd:(catP xs).length≤1000000)(x:Tm)(hx:j0u 5 t ls.flatten=some x)(hw:TmW x):Pf C9 94 [v,.sl b z xs] [encT x]:=by
 have hc:=j2s ls b z xs hz hxs hl hbd;have hlo:=j2x hxs;obtain⟨b1,z1,e1,e2⟩:=j3O xs;rw[e1] at hc;have hk:Pf C9 _ _ _:=up9 (j1B 5 t v h ls.flatten b1 z1 (catP xs) e2 hlo (by have:=hlo.len;omega))
 have hf:=j5m x _ hw;rw[hx] at hk;simp only[j3s] at hk;cases h.c;obtain⟨k9,n9,s9,b9,z9,x9,c9,y9,ys9,he9⟩:=j04 x;rw[he9] at hk hf⊢;refine run_intro Tryz.func94 rfl rfl rfl ?_;repeat'(first|refine gU ?_|apply gE<;>intro h|apply gM<;>intro h|refine finds_pf hc fun _=>?_|refine finds_pf hk fun _=>?_|refine finds_pf hf fun _=>?_|apply gK)<;>conv=>whnf
 all_goals rfl
open Go Go.Am Go.Gw
theorem j3P{st0 rest:Sto}(h:∀(i:Nat) (o:SO),st0[i]?=some o→∀j∈idsSO o,j<st0.length):∀(n:Nat) (work acc:List Nat),(∀i∈work,i<st0.length)→close (st0++rest) n work acc=close st0 n work acc
 |0,_,_,_=>rfl
 |n+1,[],_,_=>rfl
 |n+1,i::r,acc,hw=>by
  have hi:i<st0.length:=hw i (by simp)
  have hr:∀j∈r,j<st0.length:=fun j hj=>hw j (by simp[hj])
  simp only[close];rw[List.getElem?_append_left hi];cases acc.elem i with
  |true=>exact j3P h n r acc hr
  |false=>
   refine j3P h n _ _ fun j hj=>?_
   rcases List.mem_append.1 hj with hj|hj
   ·exact hr j hj
   ·cases ho:st0[i]? with
    |none=>rw[ho] at hj;cases hj
    |some o=>rw[ho] at hj;exact h i o ho j hj
theorem j6l{g:Nat→Nat}{f:Nat→Bool}{st0 rest:Sto}:∀{π:List Nat},(∀i∈π,i<st0.length)→fetch g f (st0++rest) π=fetch g f st0 π
 |[],_=>rfl
 |i::r,h=>by
  have e:=j6l (g:=g) (f:=f) (rest:=rest) (π:=r) fun j hj=>h j (by simp[hj])
  unfold fetch at e⊢;simp only[mapO];rw[List.getElem?_append_left (h i (by simp)),e]
theorem j7j{f:Nat→Bool}{l:List PV}(h:l.all (pur n)=true):l.all (inIds f n)=true:=List.all_eq_true.2 fun x hx=>(j2P (List.all_eq_true.1 h x hx)).2 f
def bsN(ss ms:List PV):Nat:=match ss,ms with
 |[],_=>1
 |_::_,[]=>2
 |_::_,_::_=>3
structure BsOk (c:Bc) (ss ms:List PV) (L:List (List Nat)) (R:List ((Nat→Nat)→SO)):Prop where
 shr:ShrL (bsS c ss ms) L R
 cl:j2V L 64 [0] []=(List.range (bsN ss ms)).reverse
 all:L.all (fun l=>l.all fun i=>Nat.blt i (bsN ss ms))=true
 fe:j3v L R (fun i=>place i 0 (List.range (bsN ss ms))) (fun i=>(List.range (bsN ss ms)).elem i) (List.range (bsN ss ms))=some (bsS c ss ms)
 pu:∀(c0:Bc) (rest:Sto) (q:Nat),putR (back (List.range (bsN ss ms)) q) (List.range (bsN ss ms)) R (bsS c0 ss ms++rest)=bsS c ss ms++rest
 dr:R.drop (bsN ss ms)=[]
theorem j8O{f:Nat→Bool}{r:AEnd}(h:endPur r=true):endIn f r=true:=by
 cases r with
 |ret rs=>exact j7j h
 |pan v=>exact(j2P h).2 f
open Go Go.Am Go.Gw
theorem j7E{kind:Int}:∀(l:List Lo) (out x:Tm),(∀y∈l,TmW y.2)→TmW out→j0P kind l out=some x→TmW x
 |[],out,x,_,ho,h=>by
  simp only[j0P] at h;cases h;exact ho
 |y::r,out,x,hl,ho,h=>by
  simp only[j0P] at h;split at h
  ·cases h
  ·rename_i b hb;have hbw:=jbW ho hb;split at h
   ·refine j7E r _ x (fun z hz=>hl z (by simp[hz])) (j5J (by unfold i64;omega) (by simp) fun t ht=>?_) h
    simp only[List.mem_cons,List.not_mem_nil,or_false] at ht;rcases ht with rfl|rfl
    ·exact hl y (by simp)
    ·exact hbw
   ·cases h
theorem j4Q{kind:Int}{t x:Tm}{l:List Lo}(ht:TmW t)(hl:∀y∈l,TmW y.2)(h:j0u kind t l=some x):TmW x:=by
 unfold j0u at h;split at h
 ·split at h
  ·cases h
  ·rename_i o ho;split at h
   ·cases h;exact j7E _ _ _ (fun y hy=>hl y (by simpa using hy)) ht ho
   ·cases h
 ·cases h
theorem LosP.ws:∀{l:List Lo}{xs:List PV},LosP l xs→∀y∈l,TmW y.2
 |[],_,_,y,hy=>by cases hy
 |x::r,xs,h,y,hy=>by
  simp only[LosP] at h;obtain⟨v,xs',rfl,h1,h2⟩:=h;rcases List.mem_cons.1 hy with rfl|hy
  ·obtain⟨cs,_,h3,_⟩:=h1;exact h3.w
  ·exact h2.ws y hy
theorem LsmP.ids1:∀{ls:List (List Lo)}{xs:List PV},LsmP ms ls xs→xs.all (inIds (fun j=>[1].elem j) 8)=true
 |[],xs,h=>by simp only[LsmP] at h;subst h;rfl
 |l::r,xs,h=>by
  simp only[LsmP] at h;obtain⟨x,xs',rfl,hx,h⟩:=h;rcases hx with⟨b,z,ys,rfl,_⟩|⟨rfl,_⟩
  ·rw[List.all_cons,h.ids1];rfl
  ·rw[List.all_cons,h.ids1];rfl
theorem LsmP.ren{g:Nat→Nat}(hg:g 1=1):∀{ls:List (List Lo)}{xs:List PV},LsmP ms ls xs→xs.map (renPV g 8)=xs
 |[],xs,h=>by simp only[LsmP] at h;subst h;rfl
 |l::r,xs,h=>by
  simp only[LsmP] at h;obtain⟨x,xs',rfl,hx,h⟩:=h;rcases hx with⟨b,z,ys,rfl,_⟩|⟨rfl,_⟩
  ·rw[List.map_cons,h.ren hg];rfl
  ·rw[List.map_cons,h.ren hg];show PV.ms (g 1) _::_=_
   rw[hg]
theorem LsmP.nopub:∀{ls:List (List Lo)}{xs:List PV},LsmP ms ls xs→xs.flatMap (Go.Am.ids 8)=[1]→xs.all (pur 6)=false
 |[],xs,h,e=>by simp only[LsmP] at h;subst h;cases e
 |l::r,xs,h,e=>by
  simp only[LsmP] at h;obtain⟨x,xs',rfl,hx,h⟩:=h;rcases hx with⟨b,z,ys,rfl,_⟩|⟨rfl,_⟩
  ·rw[List.all_cons,h.nopub e];exact Bool.and_false _
  ·rfl
abbrev lmS(p q:Bool)(xs ms:List PV):Sto:=[.row p 93 1 xs,.row q 94 6 ms]
theorem j4J(hxs:LsmP ms ls xs)(hids:xs.flatMap (ids 8)=[1])(hm:ms.all (pur 8)=true):ShrL (lmS p q xs ms) [[1],[]] [fun g=>.row p 93 1 (xs.map (renPV g 8)),fun _=>.row q 94 6 ms]:=
 .cons ⟨⟨hids,fun f hf=>List.all_eq_true.2 fun x hx=>j1k (fun i hi=>hf i (by simpa using hi)) (List.all_eq_true.1 hxs.ids1 x hx)⟩,fun _=>rfl⟩ (.cons (j0a hm) .nil)
theorem jdv(hxs:LsmP ms ls xs)(hids:xs.flatMap (ids 8)=[1])(hm:ms.all (pur 8)=true):∀(i:Nat) (o:SO),(lmS p q xs ms)[i]?=some o→∀j∈idsSO o,j<(lmS p q xs ms).length:=fun i o ho j hj=>by
 have h1:(lmS p q xs ms).all (soIn fun j=>Nat.blt j 2)=true:=(j4J (p:=p) (q:=q) hxs hids hm).shl.soIn rfl
 exact Nat.le_of_ble_eq_true (soIn_ids (List.all_eq_true.1 h1 o (List.mem_of_getElem? ho)) j hj)
theorem j8c(hxs:LsmP ms ls xs)(hids:xs.flatMap (ids 8)=[1])(hm:ms.all (pur 8)=true):close (lmS p q xs ms++rest) 64 [0] []=[1,0]:=by
 rw[j3P (jdv hxs hids hm) _ _ _ (by intro i hi;simp at hi;subst hi;exact Nat.zero_lt_succ _),j1x (j4J hxs hids hm).shl]
 rfl
theorem j8d(e:st=lmS p q xs ms++rest)(hxs:LsmP ms ls xs)(hids:xs.flatMap (ids 8)=[1])(hm:ms.all (pur 8)=true):touchC st [.ms 0 n]=[1,0]:=by
 subst e;have e1:([.ms 0 n]:List PV).flatMap (ids 8)=[0]:=rfl;have e2:=j8c (p:=p) (q:=q) (rest:=rest) hxs hids hm;have h1:closedB (lmS p q xs ms++rest) [1,0]=true:=by
  show(soIn (fun j=>[1,0].elem j) (.row q 94 6 ms)&&(soIn (fun j=>[1,0].elem j) (.row p 93 1 xs)&&true))=true
  rw[(j03 hm).2 _ (fun i hi=>by cases hi),show soIn (fun j=>[1,0].elem j) (.row p 93 1 xs)=true from List.all_eq_true.2 fun x hx=>j1k (fun i hi=>by simp at hi;subst hi;rfl) (List.all_eq_true.1 hxs.ids1 x hx)]
  rfl
 unfold touchC;simp only[e1,e2,h1];rfl
theorem j8q{K:AEnd→Sto→Prop}(h:Finds C9 f [.ms 0 n] (lmS p q xs ms) fun r st=>r=.ret rs∧st=lmS p q xs ms)(hxs:LsmP ms ls xs)(hids:xs.flatMap (ids 8)=[1])(hm:ms.all (pur 8)=true)(hp:rs.all (pur 8)=true)(k:K (.ret rs) st)(e:st=lmS p q xs ms++rest:=by exact rfl)(hr:C9.raw f=false:=by exact rfl):VCall C9 f [.ms 0 n] st K:=by
 subst e;have e1:([.ms 0 n]:List PV).flatMap (ids 8)=[0]:=rfl;have hw:handed C9 f [.ms 0 n] (lmS p q xs ms++rest)=some ([.ms 0 n],lmS p q xs ms++rest):=by
  have h1:handed C9 f [.ms 0 n] (lmS p q xs ms++rest)=mapS (pubV C9 8) [.ms 0 n] (lmS p q xs ms++rest):=by unfold handed pubL;rw[hr]
  rw[h1];refine j02 ?_ j0h;have h2:(lmS p q xs ms++rest)[0]?=some (.row p 93 1 xs):=rfl;have h3:(Nat.beq n xs.length&&xs.all (pur 6))=false:=by rw[hxs.nopub hids,Bool.and_false]
  simp only[pubV,pubRow,h2,h3]
 refine vcall_st (π:=[0,1]) (args0:=[.ms 0 n]) (st0:=lmS p q xs ms) hw rfl ?_ rfl ?_ rfl (Finds.mono h fun r st1 hq=>?_)
 ·rw[e1,j8c hxs hids hm];rfl
 ·rw[j6l (st0:=lmS p q xs ms) (by intro i hi;simp at hi;rcases hi with rfl|rfl<;>simp)]
  refine j2m (j4J hxs hids hm) ?_;show some [SO.row p 93 1 (xs.map (renPV (fun i=>place i 0 [0,1]) 8)),SO.row q 94 6 ms]=_
  rw[hxs.ren rfl]
 ·obtain⟨rfl,rfl⟩:=hq;refine j0E (j4J hxs hids hm) (r':=.ret rs) (st':=lmS p q xs ms++rest) ?_ ?_ ?_ k
  ·rw[j8O (show endPur (.ret rs)=true from hp)];rfl
  ·unfold renEnd;rw[show endPur (.ret rs)=true from hp]
  ·show[SO.row p 93 1 (xs.map (renPV (back [0,1] _) 8)),SO.row q 94 6 ms]++rest++[]=_
   rw[hxs.ren rfl,List.append_nil]
theorem jcJ(t:Tm)(v:PV)(h:TmP t v)(p q:Bool)(ls:List (List Lo))(xs ms:List PV)(hxs:LsmP ms ls xs)(hids:xs.flatMap (ids 8)=[1])(hm:ms.all (pur 8)=true)(hm0:0<ms.length)(hl:xs.length≤1000000)(hbd:(catM ms xs).length≤1000000)(hpos:0<(catM ms xs).length)(x:Tm)(hx:j0u 5 t ls.flatten=some x):Finds C9 94 [v,.ms 0 xs.length] (lmS p q xs ms) fun r st=>r=.ret [encT x]∧st=lmS p q xs ms:=by
 have hlo:=j2T hxs;have hc:=j2K p q ls xs ms hxs hm hm0 hl hbd hpos;have hk:Pf C9 _ _ _:=up9 (j1B 5 t v h ls.flatten false 6 (catM ms xs) (.inl rfl) hlo (by have:=hlo.len;omega))
 have hf:=j5m x _ (j4Q h.w hlo.ws hx);rw[hx] at hk;simp only[j3s] at hk;rw[show catW ms xs=.sl false 6 (catM ms xs) by
  unfold catW;cases hc:catM ms xs with
  |nil=>rw[hc] at hpos;exact absurd hpos (by simp)
  |cons v r=>rfl] at hc
 cases h.c;obtain⟨k9,n9,s9,b9,z9,x9,c9,y9,ys9,he9⟩:=j04 x;rw[he9] at hk hf⊢;refine run_intro Tryz.func94 rfl rfl rfl ?_;repeat'(first|refine gU ?_|apply gE<;>intro h|apply gM<;>intro h|refine VTch.mk _ (j8d (p:=p) (q:=q) (rest:=_) rfl hxs hids hm) ?_|refine j8q (p:=p) (q:=q) (rest:=_) hc hxs hids hm rfl ?_|refine finds_pf hk fun _=>?_|refine finds_pf hf fun _=>?_|refine j1j rfl rfl (j4J hxs hids hm) rfl ⟨rfl,rfl⟩|apply gK)<;>conv=>whnf
theorem jdE(t:Tm)(v:PV)(h:TmP t v)(p q:Bool)(ls:List (List Lo))(xs ms:List PV)(hxs:LsmP ms ls xs)(hids:xs.flatMap (ids 8)=[1])(hm:ms.all (pur 8)=true)(hm0:0<ms.length)(hl:xs.length≤1000000)(hbd:(catM ms xs).length≤1000000)(hpos:0<(catM ms xs).length)(x:Tm)(hx:j0u 6 t ls.flatten=some x):Finds C9 86 [v,.ms 0 xs.length] (lmS p q xs ms) fun r st=>r=.ret [encT x]∧st=lmS p q xs ms:=by
 have hlo:=j2T hxs;have hc:=j2K p q ls xs ms hxs hm hm0 hl hbd hpos;have hk:Pf C9 _ _ _:=up9 (j1B 6 t v h ls.flatten false 6 (catM ms xs) (.inl rfl) hlo (by have:=hlo.len;omega))
 have hf:=j5m x _ (j4Q h.w hlo.ws hx);rw[hx] at hk;simp only[j3s] at hk;rw[show catW ms xs=.sl false 6 (catM ms xs) by
  unfold catW;cases hc:catM ms xs with
  |nil=>rw[hc] at hpos;exact absurd hpos (by simp)
  |cons v r=>rfl] at hc
 cases h.c;obtain⟨k9,n9,s9,b9,z9,x9,c9,y9,ys9,he9⟩:=j04 x;rw[he9] at hk hf⊢;refine run_intro Tryz.func86 rfl rfl rfl ?_;repeat'(first|refine gU ?_|apply gE<;>intro h|apply gM<;>intro h|refine VTch.mk _ (j8d (p:=p) (q:=q) (rest:=_) rfl hxs hids hm) ?_|refine j8q (p:=p) (q:=q) (rest:=_) hc hxs hids hm rfl ?_|refine finds_pf hk fun _=>?_|refine finds_pf hf fun _=>?_|refine j1j rfl rfl (j4J hxs hids hm) rfl ⟨rfl,rfl⟩|apply gK)<;>conv=>whnf
open Go Go.Am Go.Gw
def j7c(args:List PV)(st:Sto):Option (AEnd×Sto):=match args,st with
 |[v],[]=>match asTm v with
  |some t=>match pur 8 (j4q (j0s t)) with
   |true=>some (.ret [j4q (j0s t)],[])
   |false=>none
  |none=>none
 |_,_=>none
theorem j9Z:DoesOk (CallD C1.P 30) j7c:=j0H (fun n=>(j3B n).call) fun args st r st' h=>by
 unfold j7c at h;split at h
 ·rename_i v;split at h
  ·rename_i t ht;split at h
   ·rename_i hp;cases h;exact⟨rfl,rfl,_,rfl,by simp only[List.all_cons,List.all_nil,Bool.and_true];exact hp,j4t t v (j0W ht)⟩
   ·cases h
  ·cases h
 ·cases h
open Go Go.Am Go.Gw
noncomputable def words:List (FuncId×NatF):=[(31,jaM),(149,orN j6Y j9K),(195,j3W),(147,jcO),(89,j9u),(30,j7c),(23,jco),(41,jaB),(148,orN j7b j7a),(24,orN j9O jc2),(90,j5I)]
theorem j5M:∀p∈words,DoesOk (CallD C1.P p.1) p.2:=by
 intro p hp;simp only[words,List.mem_cons,List.not_mem_nil,or_false] at hp;rcases hp with rfl|rfl|rfl|rfl|rfl|rfl|rfl|rfl|rfl|rfl|rfl
 ·exact jbq
 ·exact j2C j9X jbn
 ·exact j7J
 ·exact jcz
 ·exact jbl
 ·exact j9Z
 ·exact jdi
 ·exact jbp
 ·exact j2C j9Y j8I
 ·exact jbo
 ·exact j8J
noncomputable def natR(f:FuncId):Option (List PV→Sto→Option (AEnd×Sto)):=j2p f (words++natC)
noncomputable def CR:Cfg:=⟨Tryz.prog,memN fzL,memN rawL,fun f=>Nat.beq f 93||memN jdq f,memN litL,natR,fun f T=>memN fzcL f && !Nat.beq T 122,fun _=>false,false⟩
theorem jdf:NatOk CR:=j3D (l:=words++natC) (fun _=>rfl) fun p hp=>by
 rcases List.mem_append.1 hp with h|h
 ·exact j5M p h
 ·exact j5w p h
theorem jdg(n:Nat):EvOk CR (ev CR n):=ev_ok (by kernel_rfl) (by kernel_rfl) jdf n
open Go Go.Am Go.Gw
noncomputable def run(f:FuncId)(args:List PV):Option (AEnd×Sto):=(ev CR 400).call f args []
theorem jaP(h:run f args=some (.ret rs,st)):Pf CR f args rs:=pf_of 400 h
def isS(s:List UInt8):Option (AEnd×Sto)→Bool
 |some (.ret [.sc (.string u)],_)=>decide (u.data.toList=s)
 |_=>false
theorem jap{s:List UInt8}(h:isS s (run f args)=true):Pf CR f args [sv s]:=by
 unfold isS at h;split at h
 ·rename_i u st heq;have:=of_decide_eq_true h;subst this;rw[show sv u.data.toList=.sc (.string u) by rw[j3A u]]
  exact jaP heq
 ·cases h
def oneOf:Option (AEnd×Sto)→Option PV
 |some (.ret [v],_)=>some v
 |_=>none
structure RecV where
 nm:List UInt8
 p:Int
 ty:Tm
 rules:List PV
 e:Int
def recOf:Option (AEnd×Sto)→Option (List UInt8×Int×List PV×Nat×List PV×Int)
 |some (.ret [.ag [.sc (.string u),.sc (.int .i64 p),k,nn,s,ls,ts,.sl _ z rs],.sc (.int .i64 e)],_)=>some (u.data.toList,p,[k,nn,s,ls,ts],z,rs,e)
 |_=>none
def j4r(nm:List UInt8)(p:Int)(n:Nat)(q:Tm→List PV→Bool)(r:Option (AEnd×Sto)):Bool:=match recOf r with
 |some (a,b,w,z,rs,e)=>decide (a=nm)&&(decide (b=p)&&(decide (e=0)&&(Nat.beq rs.length n&&((Nat.beq z 5||rs.isEmpty)&&(rs.all (pur 6)&&match asTm (.ag w) with
  |some t=>q t (.ag w::rs)
  |none=>false)))))
 |none=>false
theorem j8a{nm:List UInt8}{p:Int}{q:Tm→List PV→Bool}(h:j4r nm p n q (run f args)=true):∃t k nn s lb lz lx tb tz tx rb rz rs,TmP t (.ag [iv k,iv nn,sv s,.sl lb lz lx,.sl tb tz tx])∧q t (.ag [iv k,iv nn,sv s,.sl lb lz lx,.sl tb tz tx]::rs)=true∧rs.length=n∧(rz=5∨rs=[])∧rs.all (pur 6)=true∧Pf CR f args [.ag [sv nm,iv p,iv k,iv nn,sv s,.sl lb lz lx,.sl tb tz tx,.sl rb rz rs],iv 0]:=by
 unfold j4r at h;split at h
 ·rename_i a b w z rs e heq;simp only[Bool.and_eq_true,decide_eq_true_eq] at h;obtain⟨rfl,rfl,rfl,h4,h5,h6,h7⟩:=h;split at h7
  ·rename_i t ht;have hT:=j0W ht;unfold recOf at heq;split at heq
   ·rename_i u p0 k nn s ls ts rb z0 rs0 e0 st hr;cases heq;obtain⟨k1,n1,s1,ls1,ts1,b1,z1,x1,c1,y1,ys1,-,e1,-⟩:=hT.open;have e2:[k,nn,s,ls,ts]=[iv k1,iv n1,sv s1,.sl b1 z1 x1,.sl c1 y1 ys1]:=PV.ag.inj e1;simp only[List.cons.injEq,and_true] at e2;obtain⟨rfl,rfl,rfl,rfl,rfl⟩:=e2;refine⟨t,k1,n1,s1,b1,z1,x1,c1,y1,ys1,rb,_,_,hT,h7,Nat.eq_of_beq_eq_true h4,emp h5,h6,?_⟩;rw[show sv u.data.toList=.sc (.string u) by rw[j3A u]]
    exact jaP hr
   ·cases heq
  ·cases h7
 ·cases h
def j8P:PV→Option (Int×Int×List PV)
 | .ag [.sc (.int .i64 k),.sc (.int .i64 p),.sc (.string _),a,b,c,d,e,_,_,_,_,_,_,_,_,_,_,_]=>some (k,p,[a,b,c,d,e])
 |_=>none
def ja4:Option (AEnd×Sto)→Option (SO×Bool×Nat×PV×PV×PV×PV×Int)
 |some (.ret [.ms i n,.sc (.int .i64 e)],[o,.row q U z [a,b,c,d]])=>match Nat.beq i 1&&Nat.beq n 4&&Nat.beq U 50&&[o,.row q U z [a,b,c,d]].all (soIn fun j=>Nat.blt j 2) with
  |true=>some (o,q,z,a,b,c,d,e)
  |false=>none
 |_=>none
end Go.Proofs.YtnfbeplfnblgjaaGreatDoor
