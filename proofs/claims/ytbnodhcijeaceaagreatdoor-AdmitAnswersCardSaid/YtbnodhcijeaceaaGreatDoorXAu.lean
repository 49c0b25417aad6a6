/- Slices of the plain machine that are made, appended to, cut: the model's do the same. Plain lemmas, no statement of the seat. -/
import Derived.Test.YtbnodhcijeaceaaGreatDoorXAs
set_option linter.all false
namespace Go.Am
open Go Go.Hb
open Go.Gw (tk tf tz tsl tar tpl isAggD)
section
variable{P:Program}{E:Entry}{m:Mem}{φ:Ph}{μ:Own}{st:Sto}{ρ:AEnv}{a:Act}{w:World}{dst:Option Nat}{ty:TypeId}{pos:String}{after:Array Edge}{gd:Option (Nat×Bool)}
variable{r:AR}{cur:Array Value}{vss:List (List Value)}{ys:List PV}{by_ cap g n sz t:Nat}{fz:Nat×Nat}{x:Operand}{T U e:TypeId}{ti:TypeInfo}{z:Value}
def jkP{C:Cfg}(hC:C.P=P){lo hi mx:Option Operand}(hs:Sit E m φ μ st w)(h:EnvR m φ ρ a)(hx:jh8 C ρ st T x lo hi mx=some r):Acts P E m φ st w a ⟨dst,.slice T x lo hi mx,ty,pos,after,gd⟩ r:=by
 subst hC;unfold jh8 at hx;split at hx
 ·rename_i id len hv;split at hx
  ·rename_i full sz xs st' hp;split at hx
   ·rename_i pl ph pm hl hh hm hsz;obtain⟨m',μ',h1,h2,h3,h4⟩:=jgU hs hp (j0j h hv);have hA:=h.mono h1 (Le.refl φ);obtain⟨e,z,ht,hz⟩:=jpA hsz;cases qA:j6Y full sz xs pl ph pm with
    |none=>simp[qA] at hx
    |some u=>
     simp only[qA,AY,AD] at hx;subst hx;obtain⟨r,h5,h6⟩:=jdM (P:=C.P) (w:=w) ht hz qA h4 (jdD hA hl) (jdD hA hh) (jdD hA hm);exact⟨r,w,m',φ,μ',by simp[execOp,h5],h1,h2,h3,h6⟩
   ·cases hx
  ·cases hx
 ·cases hx
def jlq{b off:Nat}(h:RowR m φ sz ys vss)(hc:∀(i:Nat) vs,vss[i]?=some vs→∀(j:Nat) u,vs[j]?=some u→w.cell? ⟨b,off+i*sz+j,none⟩=some u):∀(j:Nat) u,vss.flatten[j]?=some u→w.cell? ⟨b,off+j,none⟩=some u:=by
 intro j u hj;have hA:=(AK.1 hj).1;rw[h.flat] at hA;have hsz:0<sz:=by
  cases sz with
  |zero=>simp at hA
  |succ k=>omega
 have hi:j/sz<vss.length:=by rw[←h.1];exact GR (by rw[FV];exact hA)
 have qA:vss[j/sz]?=some vss[j/sz]:=AA hi;have hm:=GQ j hsz;have e:j/sz*sz+j%sz=j:=by rw[FV];exact Nat.div_add_mod j sz
 have h1:=h.at qA (j%sz) hm;rw[e,hj] at h1;have h2:=hc (j/sz) _ qA (j%sz) u h1.symm
 rwa [DY,e] at h2
def jqr(h:RowR m φ sz ys vss):∀u∈vss.flatten,u.oneCell'=true:=by
 intro u hu;obtain⟨vs,h1,h2⟩:=List.mem_flatten.1 hu;obtain⟨i,hi⟩:=BX h1;obtain⟨j,hj⟩:=BX h2;obtain⟨x,hx⟩:∃x,ys[i]?=some x:=⟨_,AA (by have:=h.1;have:=(AK.1 hi).1;omega)⟩
 obtain⟨q1,q2,q3,q4⟩:=h.2 i x vs hx hi;obtain⟨c,hc⟩:∃c,x.cells[j]?=some c:=⟨_,AA (by have:=(AK.1 hj).1;omega)⟩
 exact(q4.2 j c u hc hj).one (AF.1 q3 c (AE hc))
def jdb{y:PV}{v:Value}{z:Nat}(hs:Sit E m φ μ st w)(h:contents st y=some (z,ys))(hz:z=sz∨ys=[])(hr:R m φ y v):
  ∃ad cap vss,v=.slice ad ys.length cap∧RowR m φ sz ys vss∧(ys≠[]→∃b off,ad=some ⟨b,off,none⟩∧∀(j:Nat) u,vss.flatten[j]?=some u→w.cell? ⟨b,off+j,none⟩=some u):=by
 unfold contents at h;split at h
 ·cases h;cases hr with
  | @sl _ _ _ _ ad cap b off g ha gC qC hB qB wB hC=>
   by_cases hy:ys=[]
   ·subst hy;exact⟨ad,cap,[],rfl,⟨rfl,fun i x vs hx=>by simp at hx⟩,fun e=>absurd rfl e⟩
   ·obtain rfl:=hz.resolve_right hy;have hA:RowR m φ z ys ((List.range ys.length).map g):=by
     refine⟨by simp,fun i x vs hx hv=>?_⟩
     rw[BA,CT (AK.1 hx).1] at hv;simp only[AY,AD] at hv;subst hv;obtain⟨q1,q2,q3,q4⟩:=qB i x hx;exact⟨q1,q2,q4,⟨by rw[q1,q2],fun j c u hc hu=>(wB i x j c u hx hc hu).any⟩⟩
    refine⟨ad,cap,_,rfl,hA,fun _=>⟨b,off,ha hy,jlq hA fun i vs hv j u hu=>?_⟩⟩
    rw[BA] at hv;cases wA:(List.range ys.length)[i]? with
    |none=>simp[wA] at hv
    |some i'=>
     have gA:=(AK.1 wA).1;simp only[HG] at gA;rw[CT gA] at wA;cases wA;rw[CT gA] at hv;simp only[AY,AD] at hv;subst hv;obtain⟨q1,q2,q3,q4⟩:=qB i _ (AA gA);exact hs.good.cell (q3 j u hu)
 ·rename_i id len;split at h
  ·rename_i p t sz' xs ho;split at h
   ·rename_i hlen;cases h;cases hr with
    | @ms _ _ _ n sz'' sv _ hφ hD hv wC=>
     obtain⟨μ1,rs,μ2,h1,h2,_⟩:=hs.sto.get ho;obtain⟨ad,cap,vss,h3,h4,hsz,h5⟩:=h2;rw[AP,hφ] at h3;cases h3;obtain rfl:=hv (AH hlen)
     by_cases hy:ys=[]
     ·subst hy;exact⟨ad,cap,[],rfl,⟨rfl,fun i x vs hx=>by simp at hx⟩,fun e=>absurd rfl e⟩
     ·obtain rfl:=hz.resolve_right hy;have qA:rowM w t z (.slice ad ys.length cap) ys.length vss.flatten:=hs.good.own (r:=.row p (.slice ad ys.length cap) t z ys.length vss.flatten) (by rw[h1,h4];simp)
      obtain⟨b,rfl⟩:∃b,ad=some ⟨b,0,none⟩:=by
       rcases qA.2 with⟨_,h0⟩|⟨g,cap',cur,fz,gB,_⟩
       ·exact absurd (AJ h0) hy
       ·cases gB;exact⟨g,rfl⟩
      refine⟨_,cap,vss,rfl,h5,fun _=>⟨b,0,rfl,fun j u hu=>?_⟩⟩
      have:=qA.cells (g:=b) rfl j u hu
      rwa [Addr.add_lit] at this
   ·cases h
  ·cases h
 ·cases h
def j6T(ht:P.underlying T=some (.slice e))(hi:P.info? e=some ti){ad bd:Option Addr}{c:Nat}(hA:n≤cap):(Builtin.append_ #[T,T] ty #[.slice ad n cap,.slice bd 0 c]).run P w=.ok (.slice ad n cap) w:=by
 cases ad<;>cases bd<;>simp[Builtin.append_,run_underlying ht,sizeOf,typeInfo,hi,Builtin.lenOf,hA,Builtin.firstCells,loadCells,loadCellsFrom,storeCells]
def jaz(ht:P.underlying T=some (.slice e))(hi:P.info? e=some ti)(hg:w.heap[g]?=some (.cells cur e fz))(hB:fz=(0,0)∨cur.size≤fz.1)
  {ad:Addr}{k c:Nat}{news:List Value}(hl:news.length=k*ti.size) (qA:∀(j:Nat) u,news[j]?=some u→w.cell? (ad.add j)=some u) (h1:∀u∈news,u.oneCell'=true) (hA:n+k≤cap) (gA:n*ti.size+news.length≤cur.size) :
  (Builtin.append_ #[T,T] ty #[.slice (some ⟨g,0,none⟩) n cap,.slice (some ad) k c]).run P w =
   .ok (.slice (some ⟨g,0,none⟩) (n+k) cap) (w.setRow g (cur.toList.take (n*ti.size)++news++cur.toList.drop (n*ti.size+news.length)).toArray):=by
 have hf:=run_firstCells_some (P:=P) w ti.size k ad k c news hl qA;have wA:=j2y P g (n*ti.size) e fz news 0 cur w hg hB (by simpa using gA) h1
 simp only[DB] at wA;simp[Builtin.append_,run_underlying ht,sizeOf,typeInfo,hi,Builtin.lenOf,hA,hf,Addr.add_lit,wA]
def jkT(ht:P.underlying T=some (.slice e))(hi:P.info? e=some ti)(hz:ti.zero=some z)(gA:ti.size=sz)(wE:ti.bytes=by_)(hF:z.cells.size=sz)(hsz:0<sz)
  {v:Value}{n:Nat}{xs:List Value}(gB:rowM w e sz v n xs) {b off k c:Nat}{news:List Value}(hl:news.length=k*sz) (gC:∀(j:Nat) u,news[j]?=some u→w.cell? ⟨b,off+j,none⟩=some u) (h1:∀u∈news,u.oneCell'=true)
  (wD:n+k≤maxLen) (qA:(n+k)*by_≤140737488355328) :
  ∃ad cap w',(Builtin.append_ #[T,T] ty #[v,.slice (some ⟨b,off,none⟩) k c]).run P w=.ok (.slice ad (n+k) cap) w'∧rowM w' e sz (.slice ad (n+k) cap) (n+k) (xs++news)∧w.grownBy w' v.ownBlock ∧
   (∀b,(Value.slice ad (n+k) cap).ownBlock=some b→v.ownBlock=some b∨w.heap.size≤b) ∧
   (∀(g:Nat) (cs:Array Value) (T':TypeId) (fr:Nat×Nat),v.ownBlock=some g→w.heap[g]?=some (.cells cs T' fr)→∃cs',w'.heap[g]?=some (.cells cs' T' fr)∧∀o,o<n*sz→cs'[o]?=cs[o]?):=by
 have hA:∀(j:Nat) u,news[j]?=some u→w.cell? ((⟨b,off,none⟩:Addr).add j)=some u:=fun j u hu=>by rw[Addr.add_lit];exact gC j u hu
 have qD:=gB.1;rcases gB.2 with⟨rfl,rfl⟩|⟨g',cap,cur,fz,rfl,gD,kF,hG,wF,hD,hC⟩
 ·have hB:w.ownsRow 0 e sz (.slice none 0 0) 0 xs:=⟨qD,.inl ⟨rfl,rfl⟩⟩;obtain⟨v',w',hr,qB,qF,_⟩:=run_append_own (P:=P) w 0 T ty e ti z sz by_ ht hi hz gA wE hF hsz _ 0 xs hB ⟨b,off,none⟩ k c news hl hA h1 wD qA (DD _);have wC:=Gw.append_foot (w:=w) T ty e ti z sz by_ ht hi hz gA wE _ 0 xs hB ⟨b,off,none⟩ k c news hl hA h1 wD qA hr;obtain⟨a1,cap1,rfl⟩:∃a1 cap1,v'=.slice a1 (0+k) cap1:=by
   rcases qB.2 with⟨rfl,h0⟩|⟨g,cap1,cur,rfl,_⟩
   ·exact⟨none,0,by rw[h0]⟩
   ·exact⟨_,_,rfl⟩
  exact⟨a1,cap1,w',hr,j9W qB,qF,wC,fun g cs T' fr hg wB=>by simp[Value.ownBlock] at hg⟩
 ·subst gA;subst wE;have hE:n+k≤9223372036854775807:=by simp only[maxLen] at wD;omega
  have hlen:(xs++news).length=(n+k)*ti.size:=by rw[AL,qD,hl,EV]
  by_cases wA:n+k≤cap
  ·have kE:n*ti.size+news.length≤cur.size:=by rw[hl,hD,←EV];exact CZ _ wA
   have hr:=jaz (P:=P) (w:=w) (ty:=ty) ht hi gD (kF.imp (fun e=>e) (fun e=>e.1)) (c:=c) hl hA h1 wA kE
   have qC:(cur.toList.take (n*ti.size)++news++cur.toList.drop (n*ti.size+news.length)).toArray.size=cur.size:=by
    simp only[DS,AL,ES,GC,GX];omega
   refine⟨_,_,_,hr,⟨hlen,.inr ⟨g',cap,_,fz,rfl,setRow_heap w g' cur _ e _ gD,by rw[qC];exact kF,wA,wF,by rw[qC];exact hD,?_⟩⟩,⟨rfl,rfl,rfl,by simp[World.setRow],fun k _ hk=>setRow_other w g' k _ (fun e=>hk (by simp[Value.ownBlock,e]))⟩,fun b hb=>.inl (by simpa[Value.ownBlock] using hb),fun g cs T' fr hg wB=>?_⟩
   ·rw[DU,hC,←hlen];exact FB
   ·simp only[Value.ownBlock,AD] at hg;subst hg;rw[gD] at wB;cases wB;refine⟨_,setRow_heap w g' cur _ e _ gD,fun o ho=>?_⟩
    rw[FG,BZ,AW (by simp;omega),CQ,if_pos ho]
    simp
  ·have holds:∀(j:Nat) u,xs[j]?=some u→w.cell? ((⟨g',0,none⟩:Addr).add j)=some u:=gB.cells (g:=g') rfl;have hr:=run_append_grow (P:=P) w T ty e ti z ht hi hz ⟨g',0,none⟩ n cap xs qD holds ⟨b,off,none⟩ k c news hl hA (by omega) (by omega) (growslice_fits (by omega) qA)
   have gF:=grownCap_ge w (n+k) cap e;have qE:grownCap w (n+k) cap e≤maxLen:=grownCap_le_maxLen w (n+k) cap e wD;refine⟨_,_,_,hr,⟨hlen,.inr ⟨w.heap.size,_,_,(0,0),rfl,heap_alloc_new w.drew _,.inl rfl,gF,qE,?_,?_⟩⟩,⟨rfl,rfl,rfl,by simp,fun k hk _=>heap_alloc_old w.drew _ hk⟩,fun b hb=>.inr (by simp[Value.ownBlock] at hb;omega),fun g cs T' fr hg wB=>⟨cs,(heap_alloc_old w.drew _ (show g<w.drew.heap.size from j1Y wB)).trans wB,fun o _=>rfl⟩⟩
   ·simp only[EP,DS,size_zeroCells,hF,qD,hl,←EV];congr 1;omega
   ·simp only[EX,BZ];rw[←BZ,←hlen];exact FB
def jhG(ht:P.underlying T=some (.slice e))(hi:P.info? e=some ti)(hz:ti.zero=some z)(gA:ti.size=sz)(wC:ti.bytes=by_)(hC:z.cells.size=sz)
  {ad:Option Addr}{n:Nat}{olds:List Value}(hB:olds.length=n*sz) (holds:∀x,ad=some x→∀(j:Nat) u,olds[j]?=some u→w.cell? (x.add j)=some u) (gB:ad=none→n=0)
  {b off k c:Nat}{news:List Value}(hk:0<k) (hl:news.length=k*sz) (wA:∀(j:Nat) u,news[j]?=some u→w.cell? ⟨b,off+j,none⟩=some u)
  (wB:n+k≤maxLen) (qA:(n+k)*by_≤140737488355328) :
  ∃cap cs,(Builtin.append_ #[T,T] ty #[.slice ad n n,.slice (some ⟨b,off,none⟩) k c]).run P w=.ok (.slice (some ⟨w.heap.size,0,none⟩) (n+k) cap) (w.drew.alloc (.cells cs e)) ∧
   (w.drew.alloc (.cells cs e)).ownsRow 0 e sz (.slice (some ⟨w.heap.size,0,none⟩) (n+k) cap) (n+k) (olds++news):=by
 subst gA;subst wC;have qB:n+k≤9223372036854775807:=by simp only[maxLen] at wB;omega
 have hA:∀(j:Nat) u,news[j]?=some u→w.cell? ((⟨b,off,none⟩:Addr).add j)=some u:=fun j u hu=>by rw[Addr.add_lit];exact wA j u hu
 have hlen:(olds++news).length=(n+k)*ti.size:=by rw[AL,hB,hl,EV]
 have grown:∀(old:Nat),(w.drew.alloc (.cells (olds.toArray++news.toArray++Builtin.zeroCells z.cells (grownCap w (n+k) old e-(n+k))) e)).ownsRow 0 e ti.size
    (.slice (some ⟨w.heap.size,0,none⟩) (n+k) (grownCap w (n+k) old e)) (n+k) (olds++news):=fun old=>by
  have qC:=grownCap_ge w (n+k) old e;have gC:grownCap w (n+k) old e≤maxLen:=grownCap_le_maxLen w (n+k) old e wB;refine⟨hlen,.inr ⟨w.heap.size,_,_,rfl,DD _,heap_alloc_new w.drew _,qC,gC,?_,?_⟩⟩
  ·simp only[EP,DS,size_zeroCells,hC,hB,hl,←EV];congr 1;omega
  ·simp only[EX,BZ];rw[←BZ,←hlen];exact FB
 cases ad with
 |none=>
  obtain rfl:=gB rfl;have ho:olds=[]:=AJ (by simpa using hB)
  subst ho;have hr:=run_append_nil (P:=P) w T ty e ti z ht hi hz ⟨b,off,none⟩ k c news hl hA hk (by omega) (by have hb:=qA;simp only[AP] at hb;omega)
  have hg:=grown 0;simp only[AP,BV,Array.empty_append] at hg⊢;exact⟨_,_,hr,hg⟩
 |some x=>
  have hr:=run_append_grow (P:=P) w T ty e ti z ht hi hz x n n olds hB (holds x rfl) ⟨b,off,none⟩ k c news hl hA (by omega) (by omega) (growslice_fits (by omega) qA)
  exact⟨_,_,hr,grown n⟩
def j7V(h:j3q P t sz=some by_):∃ti z,P.info? t=some ti∧ti.zero=some z∧ti.bytes=by_∧z.cells.size=sz∧0<sz:=by
 unfold j3q at h;split at h
 ·rename_i ti hA;split at h
  ·rename_i z hz;split at h
   ·rename_i hb;rw[AB] at hb;cases h;exact⟨ti,z,hA,hz,rfl,AH hb.1,by simpa[BW] using hb.2⟩
   ·cases h
  ·cases h
 ·cases h
def jnW(h:fits n by_=true):n*by_≤140737488355328∧n≤maxLen:=by
 unfold fits at h;rw[AB] at h;have h1:=AM h.1;have h2:=AM h.2;unfold room at h1 h2;exact⟨h1,by simp only[maxLen];omega⟩
def j7H(ht:P.underlying T=some (.slice e))(hu:P.underlying U=some .string)(hi:P.info? e=some ti)(wA:ti.size=1)(hg:w.heap[g]?=some (.cells cur e fz))(hB:fz=(0,0)∨cur.size≤fz.1)
  (s:ByteArray) (hA:n+s.size≤cap) (qA:n+s.size≤cur.size) :
  (Builtin.append_ #[T,U] ty #[.slice (some ⟨g,0,none⟩) n cap,.string s]).run P w =
   .ok (.slice (some ⟨g,0,none⟩) (n+s.size) cap) (w.setRow g (cur.toList.take n++Lib.strCells s++cur.toList.drop (n+s.size)).toArray):=by
 have hf:=Lib.run_firstCells_string (P:=P) w 1 s;have gA:=j2y P g n e fz (Lib.strCells s) 0 cur w hg hB (by simpa[Lib.strCells_length] using qA) (Lib.strCells_oneCell s)
 simp only[DB,Lib.strCells_length] at gA;simp[Builtin.append_,run_underlying ht,run_underlying hu,sizeOf,typeInfo,hi,wA,Builtin.lenOf,hA,hf,Addr.add_lit,gA]
def jkU(ht:P.underlying T=some (.slice e))(hu:P.underlying U=some .string)(hi:P.info? e=some ti)(hz:ti.zero=some z)(hA:ti.size=1)(wE:ti.bytes=1)(gD:z.cells.size=1)
  {v:Value}{n:Nat}{xs:List Value}(gA:rowM w e 1 v n xs) (kF:0<n) (s:ByteArray) (qD:n+s.size≤maxLen) (wC:n+s.size≤140737488355328) :
  ∃ad cap w',(Builtin.append_ #[T,U] ty #[v,.string s]).run P w=.ok (.slice ad (n+s.size) cap) w'∧rowM w' e 1 (.slice ad (n+s.size) cap) (n+s.size) (xs++Lib.strCells s)∧w.grownBy w' v.ownBlock ∧
   (∀b,(Value.slice ad (n+s.size) cap).ownBlock=some b→v.ownBlock=some b∨w.heap.size≤b) ∧
   (∀(g:Nat) (cs:Array Value) (T':TypeId) (fr:Nat×Nat),v.ownBlock=some g→w.heap[g]?=some (.cells cs T' fr)→∃cs',w'.heap[g]?=some (.cells cs' T' fr)∧∀o,o<n*1→cs'[o]?=cs[o]?):=by
 have wB:=gA.1;have hC:n+s.size≤9223372036854775807:=by simp only[maxLen] at qD;omega
 have hlen:(xs++Lib.strCells s).length=(n+s.size)*1:=by rw[AL,wB,Lib.strCells_length];omega
 rcases gA.2 with⟨rfl,rfl⟩|⟨g',cap,cur,fz,rfl,gB,hD,hF,qE,qC,wA⟩
 ·omega
 ·have kE:cur.size=cap:=by omega
  by_cases qA:n+s.size≤cap
  ·have hr:=j7H (P:=P) (w:=w) (ty:=ty) ht hu hi hA gB (hD.imp (fun e=>e) (fun e=>e.1)) s qA (by omega)
   have hB:(cur.toList.take n++Lib.strCells s++cur.toList.drop (n+s.size)).toArray.size=cur.size:=by
    simp only[DS,AL,ES,GC,GX,Lib.strCells_length];omega
   refine⟨_,_,_,hr,⟨hlen,.inr ⟨g',cap,_,fz,rfl,setRow_heap w g' cur _ e _ gB,by rw[hB];exact hD,qA,qE,by rw[hB];exact qC,?_⟩⟩,⟨rfl,rfl,rfl,by simp[World.setRow],fun k _ hk=>setRow_other w g' k _ (fun e=>hk (by simp[Value.ownBlock,e]))⟩,fun b hb=>.inl (by simpa[Value.ownBlock] using hb),fun g cs T' fr hg qB=>?_⟩
   ·have wD:cur.toList.take n=xs:=by simpa using wA
    rw[DU,wD,←hlen];exact FB
   ·simp only[Value.ownBlock,AD] at hg;subst hg;rw[gB] at qB;cases qB;refine⟨_,setRow_heap w g' cur _ e _ gB,fun o ho=>?_⟩
    rw[FG,BZ,AW (by simp;omega),CQ,if_pos (by omega)]
    simp
  ·have holds:∀(j:Nat) u,xs[j]?=some u→w.cell? ((⟨g',0,none⟩:Addr).add j)=some u:=gA.cells (g:=g') rfl;have hr:=Lib.run_append_grow_string (P:=P) w T U ty e ti z ht hu hi hz ⟨g',0,none⟩ n cap xs (by rw[hA];exact wB) holds s (by omega) (by omega) (by rw[wE];exact growslice_fits (by omega) (by omega))
   have hE:=grownCap_ge w (n+s.size) cap e;have gC:grownCap w (n+s.size) cap e≤maxLen:=grownCap_le_maxLen w (n+s.size) cap e qD;refine⟨_,_,_,hr,⟨hlen,.inr ⟨w.heap.size,_,_,(0,0),rfl,heap_alloc_new w.drew _,.inl rfl,hE,gC,?_,?_⟩⟩,⟨rfl,rfl,rfl,by simp,fun k hk _=>heap_alloc_old w.drew _ hk⟩,fun b hb=>.inr (by simp[Value.ownBlock] at hb;omega),fun g cs T' fr hg qB=>⟨cs,(heap_alloc_old w.drew _ (show g<w.drew.heap.size from j1Y qB)).trans qB,fun o _=>rfl⟩⟩
   ·simp only[EP,DS,size_zeroCells,gD,wB,Lib.strCells_length];omega
   ·simp only[EX,BZ];rw[←BZ,←hlen];exact FB
def jcH{y:Operand}{px py:PV}(hs:Sit E m φ μ st w)(ht:tsl P T=some (t,sz))(rx:R m φ px (a.eval x))(ry:R m φ py (a.eval y))(qH:j3q P t sz=some by_)(hx:j6t P st U t sz by_ px py=some r):Acts P E m φ st w a ⟨dst,.call ⟨.builtin .append,#[x,y],#[T,U]⟩,ty,pos,after,gd⟩ r:=by
 have fin:∀{v:Value}{w':World},(Builtin.append_ #[T,U] ty #[a.eval x,a.eval y]).run P w=.ok v w'→(execOp a.eval ⟨dst,.call ⟨.builtin .append,#[x,y],#[T,U]⟩,ty,pos,after,gd⟩).run P w=.ok (.value v) w':=fun qA=>by
  unfold execOp;simp only[resolve,invoke,builtin,Sem.run_bind,Sem.run_pure,Result.andThen_ok,GB,BC,CE,qA]
 obtain⟨ti,zv,gD,gF,gH,wF,hG⟩:=j7V qH;obtain⟨hu,hB⟩:P.underlying T=some (.slice t)∧ti.size=sz:=by
  unfold tsl at ht;split at ht
  ·rename_i e' wG;cases qE:P.info? e' with
   |none=>simp[qE] at ht
   |some ii=>
    simp[qE] at ht;obtain⟨rfl,rfl⟩:=ht;rw[qE] at gD;cases gD;exact⟨wG,rfl⟩
  ·cases ht
 unfold j6t at hx;split at hx
 ·rename_i id len s hU;have qF:=jpy hU;have ey:=ry.sc_eq;split at hx
  ·rename_i p t' z' xs ho;split at hx
   ·rename_i hb;simp only[AB] at hb;obtain⟨⟨⟨⟨⟨⟨hJ,wI⟩,gI⟩,qI⟩,kI⟩,hI⟩,wH⟩:=hb;have hlen:=AH hJ;obtain rfl:=AH wI;obtain rfl:=AH gI;obtain rfl:=AH qI;obtain rfl:=AH kI;have wJ:0<len:=by simpa[BW] using hI
    obtain⟨kH,kG⟩:=jnW wH;have rx':=rx;generalize hex:a.eval x=ex at rx fin;cases rx with
    | @ms _ _ _ n sz'' sv _ hφ kK hv qJ=>
     obtain⟨μ1,rs,μ2,h1,h2,h3⟩:=hs.sto.get ho;obtain⟨ad,cap,uss,h4,h5,hsz,h6⟩:=h2;rw[AP,hφ] at h4;cases h4;subst h5;obtain rfl:=hv hlen;have gB:rowM w t 1 (.slice ad xs.length cap) xs.length uss.flatten:=hs.good.own (r:=.row p (.slice ad xs.length cap) t 1 xs.length uss.flatten) (by rw[h1];simp)
     have hA:s.data.toList.length=s.size:=rfl;obtain⟨ad',cap',w',qA,qB,qC,gC,hC⟩:=jkU (P:=P) (w:=w) (ty:=ty) hu qF gD gF hB gH wF gB (by omega) s (by omega) (by omega)
     split at hx
     ·rename_i wB;cases hx;have hF:s.size=0:=by rw[←hA,wB];rfl
      refine⟨.slice ad xs.length cap,w,m,φ,μ,fin ?_,Mem.le.refl m,Ext.refl _ _,hs,hex▸rx'⟩;rw[ey];have hD:xs.length≤cap:=by
       rcases gB.2 with⟨e1,e2⟩|⟨g,cap',cur,fz,e1,_,_,e2,_⟩
       ·omega
       ·cases e1;exact e2
      have hf:=Lib.run_firstCells_string (P:=P) w ti.size s;have hH:Lib.strCells s=[]:=by unfold Lib.strCells;rw[wB];rfl
      rw[hF,hH] at hf;cases ad<;>simp[Builtin.append_,run_underlying hu,run_underlying qF,sizeOf,typeInfo,gD,Builtin.lenOf,hF,hD,hf,storeCells]
     ·rename_i l kE;cases hx;have hK:0<s.size:=by
       rw[←hA];cases hl:s.data.toList with
       |nil=>exact absurd hl kE
       |cons c r=>simp
      have gA:Le φ (more φ id (.row (.slice ad' (xs.length+s.size) cap') (xs.length+s.size) 1)):=fun j=>by
       by_cases e:j=id
       ·subst e;rw[hφ,j0u];refine⟨fun b hb=>(by cases hb),fun sv n z hb=>?_⟩
        cases hb;exact⟨_,_,rfl,.inr (by omega)⟩
       ·rw[j0X e];exact Le.refl φ j
      have wD:RowR m φ 1 (s.data.toList.map fun c=>PV.sc (.int .u8 (c.toNat:Int))) (s.data.toList.map fun c=>[Value.int .u8 (c.toNat:Int)]):=by
       refine⟨by simp,fun i y vs hy qD=>?_⟩
       rw[BA] at hy qD;cases hc:s.data.toList[i]? with
       |none=>rw[hc] at hy;simp at hy
       |some c=>
        rw[hc] at hy qD;simp only[AY,AD] at hy qD;subst hy qD;exact⟨rfl,rfl,rfl,.cons (.sc rfl) .nil⟩
      have wC:(s.data.toList.map fun c=>[Value.int .u8 (c.toNat:Int)]).flatten=Lib.strCells s:=by
       unfold Lib.strCells;generalize s.data.toList=l
       induction l with
       |nil=>rfl
       |cons c r ih=>simp only[BC,CC,List.singleton_append];rw[ih]
      have wA:(xs++s.data.toList.map fun c=>PV.sc (.int .u8 (c.toNat:Int))).length=xs.length+s.size:=by rw[AL,AZ,hA]
      have hE:=h3 (m':=m) (o':=.row p t 1 (xs++s.data.toList.map fun c=>PV.sc (.int .u8 (c.toNat:Int)))) (rs':=[.row p (.slice ad' (xs.length+s.size) cap') t 1 (xs.length+s.size) (uss++s.data.toList.map fun c=>[Value.int .u8 (c.toNat:Int)]).flatten]) (Mem.le.refl m) gA (fun j hj=>j0X (by omega))
       ⟨ad',cap',uss++s.data.toList.map fun c=>[Value.int .u8 (c.toNat:Int)],by rw[AP,j0u,wA],by rw[wA],hsz,(h6.append wD).mono (Mem.le.refl m) gA⟩
      have wE:Hb.Good E w m (.row p (.slice ad xs.length cap) t 1 xs.length uss.flatten::(μ1++μ2)):=hs.good.perm (by rw[h1];simp)
      have gG:=wE.turn (w':=w') (r':=.row p (.slice ad' (xs.length+s.size) cap') t 1 (xs.length+s.size) (uss++s.data.toList.map fun c=>[Value.int .u8 (c.toNat:Int)]).flatten) qC.os qC.tape qC.output qC.size (fun b' kJ kE=>qC.block b' kJ (fun e'=>kE e'.symm))
       (fun b' o u hf hm=>by
        obtain⟨cs,T',fr,e1,e2⟩:=wE.sub b' o u hm;obtain⟨cs',e3,e4⟩:=hC b' cs T' fr hf e1;refine⟨cs',T',fr,e3,?_⟩;rw[e4 o ?_]
        ·exact e2
        ·apply Nat.lt_of_not_le
         intro qG;have:=(wE.feet _ BG b' hf).2 o (by
          cases p
          ·simp[Res.lim]
          ·simpa[Res.lim] using qG)
         rw[this] at hm;cases hm) (by show rowM w' t 1 _ _ _;rw[DE,wC];exact qB)
       (fun b' hf=>(gC b' hf).imp (fun e'=>⟨e',by cases p<;>simp[Res.lim]⟩) (fun e'=>e'))
      refine⟨.slice ad' (xs.length+s.size) cap',w',m,_,_,fin ?_,Mem.le.refl m,⟨gA,by simp,fun j hj=>?_⟩,⟨gG.perm (by simpa using DW.symm),hE,fun j hj=>?_⟩,?_⟩
      ·rw[ey];exact qA
      ·have kF:j≠id:=fun e=>by subst e;rw[ho] at hj;cases hj
       rw[CJ (Ne.symm kF),j0X kF];exact⟨hj,rfl⟩
      ·have hid:id<st.length:=(AK.1 ho).1;rw[EZ] at hj;rw[j0X (by omega)]
       exact hs.dom j hj
      ·rw[hlen];exact .ms (j0u _ _ _) (AU _) (fun _=>rfl) ⟨_,_,_,rfl⟩
   ·cases hx
  ·cases hx
 ·cases hx
def jhB{xs:Array Operand}{ts:Array TypeId}(hs:Sit E m φ μ st w)(h:EnvR m φ ρ a)(hx:j9Y P ρ st xs.toList ts.toList=some r):Acts P E m φ st w a ⟨dst,.call ⟨.builtin .append,xs,ts⟩,ty,pos,after,gd⟩ r:=by
 unfold j9Y at hx;split at hx
 ·rename_i x y T U hK kK;obtain rfl:xs = #[x,y]:=by apply Array.ext';simpa using hK
  obtain rfl:ts = #[T,U]:=by apply Array.ext';simpa using kK
  split at hx
  ·rename_i t sz qJ ht;obtain rfl:=AH qJ;split at hx
   ·rename_i px py by_ hp hy kH;split at hx
    ·rename_i z ys hc;split at hx
     ·rename_i hI;have wJ:z=sz∨ys=[]:=by
       rw[CK] at hI;rcases hI with h1|h1
       ·exact .inl (AH h1).symm
       ·exact .inr (by simpa using h1)
      obtain⟨ti,zv,gC,kI,kJ,qI,hD⟩:=j7V kH;obtain⟨hu,wB⟩:P.underlying T=some (.slice t)∧ti.size=sz:=by
       unfold tsl at ht;split at ht
       ·rename_i e' qL;cases qG:P.info? e' with
        |none=>simp[qG] at ht
        |some ii=>
         simp[qG] at ht;obtain⟨rfl,rfl⟩:=ht;rw[qG] at gC;cases gC;exact⟨qL,rfl⟩
       ·cases ht
      have rx:=j0j h hp;have ry:=j0j h hy;obtain⟨bd,bcap,vss,ey,gA,gB⟩:=jdb (sz:=sz) hs hc wJ ry
      -- the run
      have fin:∀{v:Value}{w':World},(Builtin.append_ #[T,T] ty #[a.eval x,a.eval y]).run P w=.ok v w'→(execOp a.eval ⟨dst,.call ⟨.builtin .append,#[x,y],#[T,T]⟩,ty,pos,after,gd⟩).run P w=.ok (.value v) w':=fun hA=>by
       unfold execOp;simp only[resolve,invoke,builtin,Sem.run_bind,Sem.run_pure,Result.andThen_ok,GB,BC,CE,hA]
      unfold jba at hx;split at hx
      ·rename_i id len;split at hx
       ·rename_i p t' z' xs ho;split at hx
        ·rename_i hb;simp only[AB] at hb;obtain⟨⟨⟨wH,gH⟩,qH⟩,wL⟩:=hb;have hlen:=AH wH;obtain rfl:=AH gH;obtain rfl:=AH qH;obtain⟨qC,hE⟩:=jnW wL;have rx':=rx;generalize hex:a.eval x=ex at rx fin;cases rx with
         | @ms _ _ _ n sz'' sv _ hφ wM hv kM=>
          obtain⟨μ1,rs,μ2,h1,h2,h3⟩:=hs.sto.get ho;obtain⟨ad,cap,uss,h4,h5,hsz,h6⟩:=h2;rw[AP,hφ] at h4;cases h4;subst h5;obtain rfl:=hv hlen;have qD:rowM w t sz (.slice ad xs.length cap) xs.length uss.flatten:=hs.good.own (r:=.row p (.slice ad xs.length cap) t sz xs.length uss.flatten) (by rw[h1];simp)
          have wF:xs.length≤cap:=by
           rcases qD.2 with⟨e1,e2⟩|⟨g,cap',cur,fz,e1,_,_,e2,_⟩
           ·omega
           ·cases e1;exact e2
          split at hx
          ·cases hx;refine⟨.slice ad xs.length cap,w,m,φ,μ,fin ?_,Mem.le.refl m,Ext.refl _ _,hs,hex▸rx'⟩;rw[ey];exact j6T hu gC wF
          ·rename_i gD;have hB:ys≠[]:=fun e=>gD e
           cases hx;obtain⟨b,off,rfl,wG⟩:=gB hB;obtain⟨ad',cap',w',hA,wA,qE,qF,kE⟩:=jkT (P:=P) (w:=w) (ty:=ty) hu gC kI wB kJ qI hD qD (c:=bcap) (k:=ys.length) gA.flat wG (jqr gA) (by rw[←hlen];exact hE) (by rw[←hlen];exact qC)
           have qB:Le φ (more φ id (.row (.slice ad' (xs.length+ys.length) cap') (xs.length+ys.length) sz)):=fun j=>by
            by_cases e:j=id
            ·subst e;rw[hφ,j0u];refine⟨fun b hb=>(by cases hb),fun sv n z hb=>?_⟩
             cases hb;exact⟨_,_,rfl,.inr (by have:=EH.2 hB;omega)⟩
            ·rw[j0X e];exact Le.refl φ j
           have kG:=h3 (m':=m) (o':=.row p t sz (xs++ys)) (rs':=[.row p (.slice ad' (xs.length+ys.length) cap') t sz (xs.length+ys.length) (uss++vss).flatten]) (Mem.le.refl m) qB (fun j hj=>j0X (by omega))
            ⟨ad',cap',uss++vss,by rw[AP,j0u,AL],by rw[AL],hsz,(h6.append gA).mono (Mem.le.refl m) qB⟩
           have wE:Hb.Good E w m (.row p (.slice ad xs.length cap) t sz xs.length uss.flatten::(μ1++μ2)):=hs.good.perm (by rw[h1];simp)
           have hL:=wE.turn (w':=w') (r':=.row p (.slice ad' (xs.length+ys.length) cap') t sz (xs.length+ys.length) (uss++vss).flatten) qE.os qE.tape qE.output qE.size (fun b' hM gD=>qE.block b' hM (fun e'=>gD e'.symm))
            (fun b' o u hf hm=>by
             obtain⟨cs,T',fr,e1,e2⟩:=wE.sub b' o u hm;obtain⟨cs',e3,e4⟩:=kE b' cs T' fr hf e1;refine⟨cs',T',fr,e3,?_⟩;rw[e4 o ?_]
             ·exact e2
             ·apply Nat.lt_of_not_le
              intro wK;have:=(wE.feet _ BG b' hf).2 o (by
               cases p
               ·simp[Res.lim]
               ·simpa[Res.lim] using wK)
              rw[this] at hm;cases hm) (by show rowM w' t sz _ _ _;rw[DE];exact wA)
            (fun b' hf=>(qF b' hf).imp (fun e'=>⟨e',by cases p<;>simp[Res.lim];exact CZ _ (by omega)⟩) (fun e'=>e'))
           refine⟨.slice ad' (xs.length+ys.length) cap',w',m,_,_,fin ?_,Mem.le.refl m,⟨qB,by simp,fun j hj=>?_⟩,⟨hL.perm (by simpa using DW.symm),kG,fun j hj=>?_⟩,?_⟩
           ·rw[ey];exact hA
           ·have hJ:j≠id:=fun e=>by subst e;rw[ho] at hj;cases hj
            rw[CJ (Ne.symm hJ),j0X hJ];exact⟨hj,rfl⟩
           ·have hid:id<st.length:=(AK.1 ho).1;rw[EZ] at hj;rw[j0X (by omega)]
            exact hs.dom j hj
           ·rw[hlen];exact .ms (j0u _ _ _) (AU _) (fun _=>rfl) ⟨_,_,_,rfl⟩
        ·cases hx
       ·cases hx
      ·rename_i full z' xs;have rx':=rx;generalize hex:a.eval x=ex at rx fin;cases rx with
       | @sl _ _ _ _ ad cap b0 off0 g ha hH hE kF hN qM qK=>
        split at hx
        ·cases hx;refine⟨.slice ad xs.length cap,w,m,φ,μ,fin ?_,Mem.le.refl m,Ext.refl _ _,hs,hex▸rx'⟩;rw[ey];exact j6T hu gC hH
        ·rename_i gD;have hB:ys≠[]:=fun e=>gD e
         split at hx
         ·rename_i hb;simp only[AB,CK] at hb;obtain⟨⟨wH,gH⟩,qH⟩:=hb;cases hx;obtain rfl:=kF wH;obtain⟨qC,wD⟩:=jnW qH;obtain⟨b,off,rfl,wG⟩:=gB hB;have gF:contents st (.sl full z' xs)=some (z',xs):=rfl;obtain⟨ad2,cap2,uss,e2,qA,hC⟩:=jdb (sz:=sz) hs gF (by
           rcases gH with h1|h1
           ·exact .inl (AH h1).symm
           ·exact .inr (by simpa using h1)) (hex▸rx')
          cases e2;obtain⟨cap',cs,hA,wA⟩:=jhG (P:=P) (w:=w) (ty:=ty) hu gC kI wB kJ qI (ad:=ad) (n:=xs.length) (olds:=uss.flatten) qA.flat (fun x0 gI j u wI=>by
            by_cases wC:xs=[]
            ·have:=(AK.1 wI).1;rw[qA.flat,wC] at this;simp at this
            ·obtain⟨b1,off1,e3,gL⟩:=hC wC;rw[e3] at gI;cases gI;rw[Addr.add_lit];exact gL j u wI) (fun e=>by
            by_cases wC:xs=[]
            ·simp[wC]
            ·rw[ha wC] at e;cases e) (c:=bcap) (k:=ys.length) (EH.2 hB) gA.flat wG wD qC
          -- the new row
          have kL:=(hs.good.drew (w.drawn+1)).new (.cells cs t);have wE:Hb.Good E (w.drew.alloc (.cells cs t)) m (.row false (.slice (some ⟨w.heap.size,0,none⟩) (xs.length+ys.length) cap') t sz (xs.length+ys.length) (uss++vss).flatten::μ):=by
           have hF:Hb.Good E (w.drew.alloc (.cells cs t)) m (.blk w.heap.size (.cells cs t)::μ):=kL;exact hF.turn (w':=w.drew.alloc (.cells cs t)) rfl rfl rfl (AU _) (fun _ _ _=>rfl) (fun b' o u hf hm=>hF.sub b' o u hm) (by show rowM _ _ _ _ _ _;rw[DE];exact j9W wA)
            (fun b' hf=>.inl ⟨hf,by simp[Res.lim]⟩)
          have qB:Le φ (more φ st.length (.row (.slice (some ⟨w.heap.size,0,none⟩) (xs.length+ys.length) cap') (xs.length+ys.length) sz)):=j6I (hs.dom _ (AU _));obtain⟨hG,gG⟩:=hs.push (o:=.row false t sz (xs++ys)) wE ⟨some ⟨w.heap.size,0,none⟩,cap',uss++vss,by rw[j0u,AL],by rw[AL],hD,(qA.append gA).mono (Mem.le.refl m) qB⟩
          refine⟨_,_,m,_,_,fin ?_,Mem.le.refl m,gG,hG,.ms (j0u _ _ _) (AU _) (fun _=>rfl) ⟨_,_,_,rfl⟩⟩
          rw[ey];exact hA
         ·cases hx
      ·cases hx
     ·cases hx
    ·cases hx
   ·cases hx
  ·rename_i t sz qJ ht;split at hx
   ·rename_i px py by_ hp hy kH;exact jcH hs ht (j0j h hp) (j0j h hy) kH hx
   ·cases hx
  ·cases hx
 ·cases hx
end
open Go Go.Hb
open Go.Gw (tk tf tz tsl tar tpl isAggD)
section
variable{P:Program}{E:Entry}{m:Mem}{φ:Ph}{μ:Own}{st:Sto}{ρ:AEnv}{a:Act}{w:World}{dst:Option Nat}{ty:TypeId}{pos:String}{after:Array Edge}{gd:Option (Nat×Bool)}
def jfc{α:Type}(zs:List α)(len:Nat):((List.range len).flatMap fun _=>zs).length=len*zs.length:=by
 induction len with
 |zero=>simp
 |succ k ih=>rw[GJ,GW,AL,ih];simp[DA]
def jfb{α:Type}(zs:List α):∀(len i:Nat),((List.range len).flatMap fun _=>zs)[i]?=if i<len*zs.length then zs[i%zs.length]? else none
 |0,i=>by simp
 |len+1,i=>by
  have hl:=jfc zs len;rw[GJ,GW];simp only[EA,List.flatMap_nil,BF]
  by_cases h:i<len*zs.length
  ·rw[AW (by omega),jfb zs len i,if_pos h,if_pos (by rw[DA];omega)]
  ·rw[BK (by omega),hl]
   by_cases h2:i<(len+1)*zs.length
   ·rw[if_pos h2];congr 1;rw[DA] at h2;have hz:0<zs.length:=by omega
    have e:i=(i-len*zs.length)+len*zs.length:=by omega
    rw[e,Nat.add_mul_mod_self_right,GZ,Nat.mod_eq_of_lt (by omega)]
   ·rw[if_neg h2];rw[DA] at h2;exact CS.2 (by omega)
def juC{zs:List PV}{zv:List Value}(h:Rl m φ zs zv)(hc:zs.all cell=true)(len:Nat):Rl m φ ((List.range len).flatMap fun _=>zs) ((List.range len).flatMap fun _=>zv)∧((List.range len).flatMap fun _=>zs).all cell=true:=by
 refine⟨⟨?_,fun i c v hc hv=>?_⟩,?_⟩
 ·simp[List.length_flatMap,h.1]
 ·rw[jfb] at hc hv;split at hc
  ·rename_i hi;rw[←h.1,if_pos hi] at hv;exact h.2 _ c v hc hv
  ·cases hc
 ·simp only[List.all_flatMap];exact AF.2 fun _ _=>hc
variable{r:AR}{ws:List Value}{len sz:Nat}{T:TypeId}
def jg5:∀{len:Nat},ws.length=len*sz→((List.range len).map fun i=>Gw.cut ws (i*sz) sz).flatten=ws:=by
 intro len
 induction len generalizing ws with
 |zero=>intro h;have:ws=[]:=AJ (by simpa using h);subst this;simp
 |succ k ih=>
  intro h;rw[DA] at h;have h1:=ih (ws:=ws.take (k*sz)) (by simp;omega)
  rw[GJ,DQ,DE];have h2:((List.range k).map fun i=>Gw.cut ws (i*sz) sz)=((List.range k).map fun i=>Gw.cut (ws.take (k*sz)) (i*sz) sz):=by
   apply DL
   intro i hi;have hi:=ED.1 hi;unfold Gw.cut;rw[List.drop_take,List.take_take];congr 1;have:(i+1)*sz≤k*sz:=CZ _ hi;rw[DA] at this;omega
  rw[h2,h1];simp only[BC,CE,CC,List.flatten_nil,BF,Gw.cut];rw[BR (l:=ws.drop (k*sz)) (by simp;omega),CW]
def jnD{ag:Bool}{cs xs:List PV}(h:elems ag cs sz len=some xs)(hr:Rl m φ cs ws)(hc:cs.all cell=true)(hsz:xs.all (fun x=>Nat.beq x.cells.length sz)=true)(hl:ws.length=len*sz):xs.length=len∧RowR m φ sz xs ((List.range len).map fun i=>Gw.cut ws (i*sz) sz):=by
 unfold elems at h;have hB:xs.length=len:=by rw[j1X h,HG]
 refine⟨hB,by simp[hB],fun i x vs hx hv=>?_⟩
 obtain⟨i',h1,h2⟩:=j8P h hx;have wA:i<len:=by have:=(AK.1 hx).1;omega
 rw[CT wA] at h1;cases h1;rw[BA,CT wA] at hv;simp only[AY,AD] at hv;subst hv;have gA:=AH (AF.1 hsz x (AE hx));have wB:(i+1)*sz≤len*sz:=CZ _ wA;rw[DA] at wB;have gB:(Gw.cut ws (i*sz) sz).length=sz:=by unfold Gw.cut;simp;omega
 have hA:=(hr.drop (i*sz)).take sz;unfold j8N at h2;cases ag with
 |true=>
  simp only at h2;split at h2
  ·cases h2;exact⟨gA,gB,je9 (j8p hc _) _,hA⟩
  ·cases h2
 |false=>
  simp only at h2;have qB:=AF.1 hc x (AE h2);have qA:x.cells=[x]:=by cases x<;>simp[cell] at qB<;>rfl
  rw[qA] at gA⊢;simp only[AC,AG,AP] at gA;subst gA;refine⟨rfl,gB,by simp[qB],?_⟩
  have e:(cs.drop (i*1)).take 1=[x]:=by
   apply CU
   intro j;rw[CQ,CY];cases j with
   |zero=>simpa using h2
   |succ j=>simp
  rw[e] at hA;exact hA
def jcI{n c:Operand}(hs:Sit E m φ μ st w)(h:EnvR m φ ρ a)(hx:j7w P ρ st T n c=some r):Acts P E m φ st w a ⟨dst,.makeSlice T n c,ty,pos,after,gd⟩ r:=by
 unfold j7w at hx;split at hx
 ·rename_i t sz n c ht hn kF;split at hx
  ·rename_i zs ag k by_ hz hk qF;split at hx
   ·rename_i hb;simp only[AB,decide_eq_true_eq] at hb;obtain⟨rfl,gG,qG,kG,hG,wF⟩:=hb;have hH:0<n.toNat:=by simpa[BW] using gG
    have gH:=AM qG;have qH:=AM kG;have wG:=AH hG;have wA:0<sz:=by simpa[BW] using wF
    split at hx
    ·rename_i xs wE;split at hx
     ·rename_i hsz;cases hx;obtain⟨ti,z,hi,hD,gF,gA,_⟩:=j7V qF;unfold jcC at hz;have wD:tz P t=some z:=by simp[tz,hi,hD]
      rw[wD] at hz;have hz:mapO jan z.cells.toList=some zs:=hz;obtain⟨hr,hc⟩:=j4r (m:=m) (φ:=φ) hz;obtain⟨hE,hF⟩:=juC hr hc n.toNat;have qB:((List.range n.toNat).flatMap fun _=>z.cells.toList).length=n.toNat*sz:=by rw[jfc];simp[gA]
      obtain⟨qD,hC⟩:=jnD wE hE hF hsz qB;have gB:=jg5 qB;have kE:(n.toNat:Int)=n:=by omega
      have hT:P.underlying T=some (.slice t)∧ti.size=sz:=by
       unfold tsl at ht;split at ht
       ·rename_i e' he;cases qA:P.info? e' with
        |none=>simp[qA] at ht
        |some ii=>
         simp[qA] at ht;obtain⟨rfl,rfl⟩:=ht;rw[hi] at qA;cases qA;exact⟨he,rfl⟩
       ·cases ht
      have kH:n.toNat≤n.toNat*sz:=GG _ wA;have h1:=run_make (P:=P) w T t ti z hT.1 hi hD .i64 .i64 n n (by omega) (CX _) (by
       have:((ti.bytes*n.toNat:Nat):Int)≤281474976710656:=by rw[gF,FV];omega
       rwa [Int.natCast_mul,kE] at this) (by omega)
      have hB:(madeCells z.cells (n.toNat*sz)).toList=(List.range n.toNat).flatMap fun _=>z.cells.toList:=by
       apply CU
       intro i;rw[jfb];simp only[madeCells,GD,HC,BA];have e1:z.cells.toList.length=sz:=by simpa using gA
       rw[e1]
       by_cases qA:i<n.toNat*sz
       ·rw[CT qA,if_pos qA];have hm:=GQ i wA;simp only[AY,gA];have gD:i%sz<z.cells.size:=by omega
        rw[GN,BM,CD gD];simp[gD]
       ·rw[CS.2 (by simp;omega),if_neg qA]
        rfl
      have e1:=(j0j h hn).sc_eq;have e2:=(j0j h kF).sc_eq;have hA:madeCells z.cells (n.toNat*ti.size)=((List.range n.toNat).flatMap fun _=>z.cells.toList).toArray:=by
       rw[hT.2];apply Array.ext';rw[hB]
      rw[hA] at h1;generalize((List.range n.toNat).flatMap fun _=>z.cells.toList)=ws at *
      have hg:=hs.good.new (.cells ws.toArray t (0,0));have qC:({ w with heap:=w.heap.push (.cells ws.toArray t (0,0)) }:World).ownsRow 0 t sz (.slice (some ⟨w.heap.size,0,none⟩) n.toNat n.toNat) n.toNat ws:=by
       refine⟨qB,.inr ⟨w.heap.size,n.toNat,ws.toArray,rfl,DD _,by simp,AU _,by simp only[maxLen];omega,by simpa using qB,?_⟩⟩
       rw[DU,←qB,BT]
      have qE:=hg.turn (w':={ w with heap:=w.heap.push (.cells ws.toArray t (0,0)) }) (r':=.row false (.slice (some ⟨w.heap.size,0,none⟩) n.toNat n.toNat) t sz n.toNat ws) rfl rfl rfl (AU _) (fun _ _ _=>rfl) (fun b' o u hf hm=>hg.sub b' o u hm) (j9W qC)
       (fun b' hf=>.inl ⟨hf,by simp[Res.lim]⟩)
      have gC:Le φ (more φ st.length (.row (.slice (some ⟨w.heap.size,0,none⟩) n.toNat n.toNat) n.toNat sz)):=j6I (hs.dom _ (AU _));obtain⟨wB,wC⟩:=hs.push (o:=.row false t sz xs) qE ⟨some ⟨w.heap.size,0,none⟩,n.toNat,(List.range n.toNat).map fun i=>Gw.cut ws (i*sz) sz,by rw[j0u,qD],by rw[qD,gB],wA,hC.mono (Mem.le.refl m) gC⟩
      refine⟨_,_,m,_,_,?_,Mem.le.refl m,wC,wB,.ms (j0u _ _ _) (AU _) (fun _=>rfl) ⟨_,_,_,rfl⟩⟩
      simp only[execOp,e1,e2,Sem.run_bind,h1,Result.andThen_ok,Sem.run_pure];rfl
     ·cases hx
    ·cases hx
   ·cases hx
  ·cases hx
 ·cases hx
def j6q{lit:Bool}{parts:Array (Nat×Operand)}(hs:Sit E m φ μ st w)(h:EnvR m φ ρ a)(hx:j2C P lit ρ st T len parts=some r):Acts P E m φ st w a ⟨dst,.buildSlice T len parts,ty,pos,after,gd⟩ r:=by
 unfold j2C at hx;split at hx
 ·rename_i t sz ht;split at hx
  ·rename_i zs pv ag k hz wH hk;split at hx
   ·rename_i hb;simp only[AB] at hb;have hlen:=AM hb.1.1;have qG:=AH hb.1.2;have gA:0<sz:=by simpa[BW] using hb.2
    have kJ:len≤len*sz:=GG _ gA;split at hx
    ·rename_i cs hf;split at hx
     ·rename_i xs wI;split at hx
      ·rename_i hsz;unfold jcC at hz;split at hz
       ·rename_i z kG;obtain⟨hr,hc⟩:=j4r (m:=m) (φ:=φ) hz;obtain⟨gH,hJ⟩:=juC hr hc len;obtain⟨ws,h1,h2,h3⟩:=ji5 hf gH hJ (jhI h wH);have gI:cs.length=len*sz:=by
         have qI:∀{place:Nat→Option (Nat×Nat)}{pv:List (Nat×PV)}{c d:List PV},jcO place c pv=some d→d.length=c.length:=by
          intro place pv
          induction pv with
          |nil=>intro c d h;simp[jcO] at h;rw[h]
          |cons p r ih=>
           intro c d h;obtain⟨i,x⟩:=p;simp only[jcO] at h;split at h
           ·split at h
            ·rename_i hG;simp only[AB] at hG;have e1:=AH hG.1.1;have e2:=AM hG.1.2;rw[ih h];unfold updP;simp;omega
            ·cases h
           ·cases h
         rw[qI hf,jfc,qG]
        have qC:ws.length=len*sz:=by rw[←h2.1];exact gI
        obtain⟨hE,wA⟩:=jnD wI h2 h3 hsz qC;have qD:=jg5 qC
        -- the run
        have gC:(execOp a.eval ⟨dst,.buildSlice T len parts,ty,pos,after,gd⟩).run P w=.ok (.value (.slice (some ⟨w.heap.size,0,none⟩) len len)) { w with heap:=w.heap.push (.cells ws.toArray t (0,0)) }:=by
         unfold tsl at ht;split at ht
         ·rename_i e' he;cases hi:P.info? e' with
          |none=>simp[hi] at ht
          |some ii=>
           simp[hi] at ht;obtain⟨rfl,rfl⟩:=ht;simp[tz,hi] at kG;have wD:z.cells.toList.length=ii.size:=by rw[←hr.1];exact qG
           have gD:z.cells.size=ii.size:=by simpa using wD
           have qA:=Gw.fill_of_fillL _ _ _ _ h1;have gG:(sizeOf e').run P w=.ok ii.size w:=by simp[sizeOf,typeInfo,hi]
           have hH:(zeroValue e').run P w=.ok z w:=by simp[zeroValue,typeInfo,hi,kG]
           have hA:¬(len*ii.size>2^24):=by omega
           have wG:(parts.map fun x=>(x.1,a.eval x.2)).toList=parts.toList.map fun p=>(p.1,a.eval p.2):=by simp
           by_cases h0:len*ii.size=0
           ·have e0:((List.range len).flatMap fun _=>z.cells.toList)=[]:=AJ (by rw[jfc,wD,h0])
            rw[e0] at qA;have qH:(Array.range (len*ii.size)).map (fun i=>(#[]:Array Value)[i%(#[]:Array Value).size]!)=([]:List Value).toArray:=by simp[h0]
            simp only[execOp,Instr.buildSlice,Sem.run_bind,run_underlying he,Result.andThen_ok,gG,if_neg hA,Sem.run_pure,if_pos h0,qH,wG,qA,newRow,newObj,Sem.run]
           ·have qB:(Array.range (len*ii.size)).map (fun i=>z.cells[i%z.cells.size]!)=((List.range len).flatMap fun _=>z.cells.toList).toArray:=by
             apply Array.ext';apply CU
             intro i;rw[DU,jfb,wD];simp only[GD,HC,BA]
             by_cases gF:i<len*ii.size
             ·rw[CT gF,if_pos gF];have hF:0<ii.size:=Nat.pos_of_ne_zero (fun e=>h0 (by rw[e];simp))
              have hm:=GQ i hF;simp only[AY,gD];have hC:i%ii.size<z.cells.size:=by omega
              rw[GN,BM,CD hC];simp[hC]
             ·rw[CS.2 (by simp;omega),if_neg gF]
              rfl
            simp only[execOp,Instr.buildSlice,Sem.run_bind,run_underlying he,Result.andThen_ok,gG,if_neg hA,Sem.run_pure,if_neg h0,hH,qB,wG,qA,newRow,newObj,Sem.run]
         ·cases ht
        have hg:=hs.good.new (.cells ws.toArray t (0,0));split at hx
        ·rename_i wC;have wE:=(AB _ _▸wC:xs.all (pur 6)=true∧(!lit)=true).1;cases hx
         -- known for good at once
         have hold:∀(o:Nat) u,ws[o]?=some u→∃c T fr,({ w with heap:=w.heap.push (.cells ws.toArray t (0,0)) }:World).heap[w.heap.size]?=some (.cells c T fr)∧c[o]?=some u:=fun o u ho=>⟨ws.toArray,t,(0,0),by simp,by simpa using ho⟩
         obtain⟨hI,hB⟩:=hg.tell (b:=w.heap.size) (cs:=ws) rfl hold (μ':=μ) (fun s kH=>.inl kH) hs.good.apart
         refine⟨_,_,m.add w.heap.size ws,φ,μ,gC,hB,Ext.refl st φ,⟨hI,hs.sto.mono hB (Le.refl φ) (fun _ _ _=>rfl),hs.dom⟩,?_⟩
         rw[←hE];have hD:xs.length≤maxLen:=by simp only[maxLen];omega
         refine .sl w.heap.size 0 (fun i=>Gw.cut ws (i*sz) sz) (fun _=>rfl) (AU _) hD (fun _=>rfl) (fun i x wB=>?_) (fun i x j c u wB gB hu=>?_) (fun _ e=>absurd e (by omega))
         ·have hC:i<len:=by have:=(AK.1 wB).1;omega
          obtain⟨q1,q2,q3,q4⟩:=wA.2 i x (Gw.cut ws (i*sz) sz) wB (by rw[BA,CT hC];rfl)
          refine⟨q1,q2,fun j u hu=>?_,q3⟩
          rw[AP];exact Mem.add_get (Gw.cut_get hu)
         ·have hC:i<len:=by have:=(AK.1 wB).1;omega
          obtain⟨q1,q2,q3,q4⟩:=wA.2 i x (Gw.cut ws (i*sz) sz) wB (by rw[BA,CT hC];rfl)
          have qE:=AF.1 wE x (AE wB);have:pur 6 c=true:=by
           unfold PV.cells at gB;split at gB
           ·simp only[pur] at qE;exact jdF (AF.1 qE c (AE gB))
           ·cases j with
            |zero=>simp at gB;subst gB;exact qE
            |succ j=>simp at gB
          exact(R.pure 6 this (q4.2 j c u gB hu)).mono hB (Le.refl _)
        ·cases hx;have kF:({ w with heap:=w.heap.push (.cells ws.toArray t (0,0)) }:World).ownsRow 0 t sz (.slice (some ⟨w.heap.size,0,none⟩) len len) len ws:=by
          refine⟨qC,.inr ⟨w.heap.size,len,ws.toArray,rfl,DD _,by simp,AU _,by simp only[maxLen];omega,by simpa using qC,?_⟩⟩
          rw[DU,←qC,BT]
         have kI:=hg.turn (w':={ w with heap:=w.heap.push (.cells ws.toArray t (0,0)) }) (r':=.row false (.slice (some ⟨w.heap.size,0,none⟩) len len) t sz len ws) rfl rfl rfl (AU _) (fun _ _ _=>rfl) (fun b' o u hf hm=>hg.sub b' o u hm) (j9W kF)
          (fun b' hf=>.inl ⟨hf,by simp[Res.lim]⟩)
         have qF:Le φ (more φ st.length (.row (.slice (some ⟨w.heap.size,0,none⟩) len len) len sz)):=j6I (hs.dom _ (AU _));obtain⟨kE,wF⟩:=hs.push (o:=.row false t sz xs) kI ⟨some ⟨w.heap.size,0,none⟩,len,(List.range len).map fun i=>Gw.cut ws (i*sz) sz,by rw[j0u,hE],by rw[hE,qD],gA,wA.mono (Mem.le.refl m) qF⟩
         exact⟨_,_,m,_,_,gC,Mem.le.refl m,wF,kE,.ms (j0u _ _ _) (AU _) (fun _=>rfl) ⟨_,_,_,rfl⟩⟩
       ·cases hz
      ·cases hx
     ·cases hx
    ·cases hx
   ·cases hx
  ·cases hx
 ·cases hx
end
