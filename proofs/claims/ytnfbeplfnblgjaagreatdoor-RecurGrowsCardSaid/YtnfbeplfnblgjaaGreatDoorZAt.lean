/- Slices of the plain machine that are made, appended to, cut: the model's do the same. Plain lemmas, no statement of the seat. -/
import Derived.Test.YtnfbeplfnblgjaaGreatDoorZAs
set_option linter.all false
namespace Go.Am
open Go Go.Hb
open Go.Gw (tk tf tz tsl tar tpl isAggD)
section
variable{P:Program}{E:Entry}{m:Mem}{φ:Ph}{μ:Own}{st:Sto}{ρ:AEnv}{a:Act}{w:World}{dst:Option Nat}{ty:TypeId}{pos:String}{after:Array Edge}{gd:Option (Nat×Bool)}
variable{r:AR}{cur:Array Value}{vss:List (List Value)}{ys:List PV}{by_ cap g n sz t:Nat}{fz:Nat×Nat}{x:Operand}{T U e:TypeId}{ti:TypeInfo}{z:Value}
theorem acts_slice{C:Cfg}(hC:C.P=P){lo hi mx:Option Operand}(hs:Sit E m φ μ st w)(h:EnvR m φ ρ a)(hx:sSlice C ρ st T x lo hi mx=some r):Acts P E m φ st w a ⟨dst,.slice T x lo hi mx,ty,pos,after,gd⟩ r:=by
 subst hC;unfold sSlice at hx;split at hx
 ·rename_i id len hv;split at hx
  ·rename_i full sz xs st' hp;split at hx
   ·rename_i pl ph pm hl hh hm hsz;obtain⟨m',μ',h1,h2,h3,h4⟩:=pubRow_ok hs hp (aval_R h hv);have henv:=h.mono h1 (Le.refl φ);obtain⟨e,z,ht,hz⟩:=szOk_R hsz;cases hsl:sliceP full sz xs pl ph pm with
    |none=>simp[hsl] at hx
    |some u=>
     simp only[hsl,Option.map_some,Option.some.injEq] at hx;subst hx;obtain⟨r,h5,h6⟩:=sliceP_run (P:=C.P) (w:=w) ht hz hsl h4 (optV_R henv hl) (optV_R henv hh) (optV_R henv hm);exact⟨r,w,m',φ,μ',by simp[execOp,h5],h1,h2,h3,h6⟩
   ·cases hx
  ·cases hx
 ·cases hx
theorem flat_cells{b off:Nat}(h:RowR m φ sz ys vss)(hc:∀(i:Nat) vs,vss[i]?=some vs→∀(j:Nat) u,vs[j]?=some u→w.cell? ⟨b,off+i*sz+j,none⟩=some u):∀(j:Nat) u,vss.flatten[j]?=some u→w.cell? ⟨b,off+j,none⟩=some u:=by
 intro j u hj;have hlt:=(List.getElem?_eq_some_iff.1 hj).1;rw[h.flat] at hlt;have hsz:0<sz:=by
  cases sz with
  |zero=>simp at hlt
  |succ k=>omega
 have hi:j/sz<vss.length:=by rw[←h.1];exact Nat.div_lt_of_lt_mul (by rw[Nat.mul_comm];exact hlt)
 have hvs:vss[j/sz]?=some vss[j/sz]:=List.getElem?_eq_getElem hi;have hm:=Nat.mod_lt j hsz;have e:j/sz*sz+j%sz=j:=by rw[Nat.mul_comm];exact Nat.div_add_mod j sz
 have h1:=h.at hvs (j%sz) hm;rw[e,hj] at h1;have h2:=hc (j/sz) _ hvs (j%sz) u h1.symm
 rwa [Nat.add_assoc,e] at h2
theorem flat_one(h:RowR m φ sz ys vss):∀u∈vss.flatten,u.oneCell'=true:=by
 intro u hu;obtain⟨vs,h1,h2⟩:=List.mem_flatten.1 hu;obtain⟨i,hi⟩:=List.getElem?_of_mem h1;obtain⟨j,hj⟩:=List.getElem?_of_mem h2;obtain⟨x,hx⟩:∃x,ys[i]?=some x:=⟨_,List.getElem?_eq_getElem (by have:=h.1;have:=(List.getElem?_eq_some_iff.1 hi).1;omega)⟩
 obtain⟨q1,q2,q3,q4⟩:=h.2 i x vs hx hi;obtain⟨c,hc⟩:∃c,x.cells[j]?=some c:=⟨_,List.getElem?_eq_getElem (by have:=(List.getElem?_eq_some_iff.1 hj).1;omega)⟩
 exact(q4.2 j c u hc hj).one (List.all_eq_true.1 q3 c (List.mem_of_getElem? hc))
theorem contents_R{y:PV}{v:Value}{z:Nat}(hs:Sit E m φ μ st w)(h:contents st y=some (z,ys))(hz:z=sz∨ys=[])(hr:R m φ y v):
  ∃ad cap vss,v=.slice ad ys.length cap∧RowR m φ sz ys vss∧(ys≠[]→∃b off,ad=some ⟨b,off,none⟩∧∀(j:Nat) u,vss.flatten[j]?=some u→w.cell? ⟨b,off+j,none⟩=some u):=by
 unfold contents at h;split at h
 ·cases h;cases hr with
  | @sl _ _ _ _ ad cap b off g ha hcap hmax hfull hel hrr hnil=>
   by_cases hy:ys=[]
   ·subst hy;exact⟨ad,cap,[],rfl,⟨rfl,fun i x vs hx=>by simp at hx⟩,fun e=>absurd rfl e⟩
   ·obtain rfl:=hz.resolve_right hy;have hrow:RowR m φ z ys ((List.range ys.length).map g):=by
     refine⟨by simp,fun i x vs hx hv=>?_⟩
     rw[List.getElem?_map,List.getElem?_range (List.getElem?_eq_some_iff.1 hx).1] at hv;simp only[Option.map_some,Option.some.injEq] at hv;subst hv;obtain⟨q1,q2,q3,q4⟩:=hel i x hx;exact⟨q1,q2,q4,⟨by rw[q1,q2],fun j c u hc hu=>(hrr i x j c u hx hc hu).any⟩⟩
    refine⟨ad,cap,_,rfl,hrow,fun _=>⟨b,off,ha hy,flat_cells hrow fun i vs hv j u hu=>?_⟩⟩
    rw[List.getElem?_map] at hv;cases hir:(List.range ys.length)[i]? with
    |none=>simp[hir] at hv
    |some i'=>
     have hlt:=(List.getElem?_eq_some_iff.1 hir).1;simp only[List.length_range] at hlt;rw[List.getElem?_range hlt] at hir;cases hir;rw[List.getElem?_range hlt] at hv;simp only[Option.map_some,Option.some.injEq] at hv;subst hv;obtain⟨q1,q2,q3,q4⟩:=hel i _ (List.getElem?_eq_getElem hlt);exact hs.good.cell (q3 j u hu)
 ·rename_i id len;split at h
  ·rename_i p t sz' xs ho;split at h
   ·rename_i hlen;cases h;cases hr with
    | @ms _ _ _ n sz'' sv _ hφ hle hv hsl=>
     obtain⟨μ1,rs,μ2,h1,h2,_⟩:=hs.sto.get ho;obtain⟨ad,cap,vss,h3,h4,hsz,h5⟩:=h2;rw[Nat.zero_add,hφ] at h3;cases h3;obtain rfl:=hv (Nat.eq_of_beq_eq_true hlen)
     by_cases hy:ys=[]
     ·subst hy;exact⟨ad,cap,[],rfl,⟨rfl,fun i x vs hx=>by simp at hx⟩,fun e=>absurd rfl e⟩
     ·obtain rfl:=hz.resolve_right hy;have hown:rowM w t z (.slice ad ys.length cap) ys.length vss.flatten:=hs.good.own (r:=.row p (.slice ad ys.length cap) t z ys.length vss.flatten) (by rw[h1,h4];simp)
      obtain⟨b,rfl⟩:∃b,ad=some ⟨b,0,none⟩:=by
       rcases hown.2 with⟨_,h0⟩|⟨g,cap',cur,fz,hv',_⟩
       ·exact absurd (List.eq_nil_of_length_eq_zero h0) hy
       ·cases hv';exact⟨g,rfl⟩
      refine⟨_,cap,vss,rfl,h5,fun _=>⟨b,0,rfl,fun j u hu=>?_⟩⟩
      have:=hown.cells (g:=b) rfl j u hu
      rwa [Addr.add_lit] at this
   ·cases h
  ·cases h
 ·cases h
theorem run_append_zero(ht:P.underlying T=some (.slice e))(hi:P.info? e=some ti){ad bd:Option Addr}{c:Nat}(hle:n≤cap):(Builtin.append_ #[T,T] ty #[.slice ad n cap,.slice bd 0 c]).run P w=.ok (.slice ad n cap) w:=by
 cases ad<;>cases bd<;>simp[Builtin.append_,run_underlying ht,sizeOf,typeInfo,hi,Builtin.lenOf,hle,Builtin.firstCells,loadCells,loadCellsFrom,storeCells]
theorem run_append_roomM(ht:P.underlying T=some (.slice e))(hi:P.info? e=some ti)(hg:w.heap[g]?=some (.cells cur e fz))(hfz:fz=(0,0)∨cur.size≤fz.1)
  {ad:Addr}{k c:Nat}{news:List Value}(hl:news.length=k*ti.size) (hnews:∀(j:Nat) u,news[j]?=some u→w.cell? (ad.add j)=some u) (h1:∀u∈news,u.oneCell'=true) (hroom:n+k≤cap) (hfit:n*ti.size+news.length≤cur.size) :
  (Builtin.append_ #[T,T] ty #[.slice (some ⟨g,0,none⟩) n cap,.slice (some ad) k c]).run P w =
   .ok (.slice (some ⟨g,0,none⟩) (n+k) cap) (w.setRow g (cur.toList.take (n*ti.size)++news++cur.toList.drop (n*ti.size+news.length)).toArray):=by
 have hf:=run_firstCells_some (P:=P) w ti.size k ad k c news hl hnews;have hst:=run_storeCells_m P g (n*ti.size) e fz news 0 cur w hg hfz (by simpa using hfit) h1
 simp only[Nat.add_zero] at hst;simp[Builtin.append_,run_underlying ht,sizeOf,typeInfo,hi,Builtin.lenOf,hroom,hf,Addr.add_lit,hst]
theorem append_own(ht:P.underlying T=some (.slice e))(hi:P.info? e=some ti)(hz:ti.zero=some z)(hsize:ti.size=sz)(hby:ti.bytes=by_)(hzs:z.cells.size=sz)(hsz:0<sz)
  {v:Value}{n:Nat}{xs:List Value}(hown:rowM w e sz v n xs) {b off k c:Nat}{news:List Value}(hl:news.length=k*sz) (hnews:∀(j:Nat) u,news[j]?=some u→w.cell? ⟨b,off+j,none⟩=some u) (h1:∀u∈news,u.oneCell'=true)
  (h63:n+k≤maxLen) (hbytes:(n+k)*by_≤140737488355328) :
  ∃ad cap w',(Builtin.append_ #[T,T] ty #[v,.slice (some ⟨b,off,none⟩) k c]).run P w=.ok (.slice ad (n+k) cap) w'∧rowM w' e sz (.slice ad (n+k) cap) (n+k) (xs++news)∧w.grownBy w' v.ownBlock ∧
   (∀b,(Value.slice ad (n+k) cap).ownBlock=some b→v.ownBlock=some b∨w.heap.size≤b) ∧
   (∀(g:Nat) (cs:Array Value) (T':TypeId) (fr:Nat×Nat),v.ownBlock=some g→w.heap[g]?=some (.cells cs T' fr)→∃cs',w'.heap[g]?=some (.cells cs' T' fr)∧∀o,o<n*sz→cs'[o]?=cs[o]?):=by
 have hnews':∀(j:Nat) u,news[j]?=some u→w.cell? ((⟨b,off,none⟩:Addr).add j)=some u:=fun j u hu=>by rw[Addr.add_lit];exact hnews j u hu
 have hxl:=hown.1;rcases hown.2 with⟨rfl,rfl⟩|⟨g',cap,cur,fz,rfl,hg',hfz,hnc,hcm,hcs',htake⟩
 ·have hown0:w.ownsRow 0 e sz (.slice none 0 0) 0 xs:=⟨hxl,.inl ⟨rfl,rfl⟩⟩;obtain⟨v',w',hr,hown',hgr,_⟩:=run_append_own (P:=P) w 0 T ty e ti z sz by_ ht hi hz hsize hby hzs hsz _ 0 xs hown0 ⟨b,off,none⟩ k c news hl hnews' h1 h63 hbytes (Nat.zero_le _);have hfoot:=Gw.append_foot (w:=w) T ty e ti z sz by_ ht hi hz hsize hby _ 0 xs hown0 ⟨b,off,none⟩ k c news hl hnews' h1 h63 hbytes hr;obtain⟨a1,cap1,rfl⟩:∃a1 cap1,v'=.slice a1 (0+k) cap1:=by
   rcases hown'.2 with⟨rfl,h0⟩|⟨g,cap1,cur,rfl,_⟩
   ·exact⟨none,0,by rw[h0]⟩
   ·exact⟨_,_,rfl⟩
  exact⟨a1,cap1,w',hr,rowM_of hown',hgr,hfoot,fun g cs T' fr hg hcs=>by simp[Value.ownBlock] at hg⟩
 ·subst hsize;subst hby;have hsmall:n+k≤9223372036854775807:=by simp only[maxLen] at h63;omega
  have hlen:(xs++news).length=(n+k)*ti.size:=by rw[List.length_append,hxl,hl,Nat.add_mul]
  by_cases hroom:n+k≤cap
  ·have hfit:n*ti.size+news.length≤cur.size:=by rw[hl,hcs',←Nat.add_mul];exact Nat.mul_le_mul_right _ hroom
   have hr:=run_append_roomM (P:=P) (w:=w) (ty:=ty) ht hi hg' (hfz.imp (fun e=>e) (fun e=>e.1)) (c:=c) hl hnews' h1 hroom hfit
   have hsz2:(cur.toList.take (n*ti.size)++news++cur.toList.drop (n*ti.size+news.length)).toArray.size=cur.size:=by
    simp only[List.size_toArray,List.length_append,List.length_take,List.length_drop,Array.length_toList];omega
   refine⟨_,_,_,hr,⟨hlen,.inr ⟨g',cap,_,fz,rfl,setRow_heap w g' cur _ e _ hg',by rw[hsz2];exact hfz,hroom,hcm,by rw[hsz2];exact hcs',?_⟩⟩,⟨rfl,rfl,rfl,by simp[World.setRow],fun k _ hk=>setRow_other w g' k _ (fun e=>hk (by simp[Value.ownBlock,e]))⟩,fun b hb=>.inl (by simpa[Value.ownBlock] using hb),fun g cs T' fr hg hcs=>?_⟩
   ·rw[List.toList_toArray,htake,←hlen];exact List.take_left
   ·simp only[Value.ownBlock,Option.some.injEq] at hg;subst hg;rw[hg'] at hcs;cases hcs;refine⟨_,setRow_heap w g' cur _ e _ hg',fun o ho=>?_⟩
    rw[List.getElem?_toArray,List.append_assoc,List.getElem?_append_left (by simp;omega),List.getElem?_take,if_pos ho]
    simp
  ·have holds:∀(j:Nat) u,xs[j]?=some u→w.cell? ((⟨g',0,none⟩:Addr).add j)=some u:=hown.cells (g:=g') rfl;have hr:=run_append_grow (P:=P) w T ty e ti z ht hi hz ⟨g',0,none⟩ n cap xs hxl holds ⟨b,off,none⟩ k c news hl hnews' (by omega) (by omega) (growslice_fits (by omega) hbytes)
   have hge:=grownCap_ge w (n+k) cap e;have hcm2:grownCap w (n+k) cap e≤maxLen:=grownCap_le_maxLen w (n+k) cap e h63;refine⟨_,_,_,hr,⟨hlen,.inr ⟨w.heap.size,_,_,(0,0),rfl,heap_alloc_new w.drew _,.inl rfl,hge,hcm2,?_,?_⟩⟩,⟨rfl,rfl,rfl,by simp,fun k hk _=>heap_alloc_old w.drew _ hk⟩,fun b hb=>.inr (by simp[Value.ownBlock] at hb;omega),fun g cs T' fr hg hcs=>⟨cs,(heap_alloc_old w.drew _ (show g<w.drew.heap.size from mem_lt hcs)).trans hcs,fun o _=>rfl⟩⟩
   ·simp only[Array.size_append,List.size_toArray,size_zeroCells,hzs,hxl,hl,←Nat.add_mul];congr 1;omega
   ·simp only[Array.toList_append,List.append_assoc];rw[←List.append_assoc,←hlen];exact List.take_left
theorem append_full(ht:P.underlying T=some (.slice e))(hi:P.info? e=some ti)(hz:ti.zero=some z)(hsize:ti.size=sz)(hby:ti.bytes=by_)(hzs:z.cells.size=sz)
  {ad:Option Addr}{n:Nat}{olds:List Value}(hlo:olds.length=n*sz) (holds:∀x,ad=some x→∀(j:Nat) u,olds[j]?=some u→w.cell? (x.add j)=some u) (hnil:ad=none→n=0)
  {b off k c:Nat}{news:List Value}(hk:0<k) (hl:news.length=k*sz) (hnews:∀(j:Nat) u,news[j]?=some u→w.cell? ⟨b,off+j,none⟩=some u)
  (h63:n+k≤maxLen) (hbytes:(n+k)*by_≤140737488355328) :
  ∃cap cs,(Builtin.append_ #[T,T] ty #[.slice ad n n,.slice (some ⟨b,off,none⟩) k c]).run P w=.ok (.slice (some ⟨w.heap.size,0,none⟩) (n+k) cap) (w.drew.alloc (.cells cs e)) ∧
   (w.drew.alloc (.cells cs e)).ownsRow 0 e sz (.slice (some ⟨w.heap.size,0,none⟩) (n+k) cap) (n+k) (olds++news):=by
 subst hsize;subst hby;have hsmall:n+k≤9223372036854775807:=by simp only[maxLen] at h63;omega
 have hnews':∀(j:Nat) u,news[j]?=some u→w.cell? ((⟨b,off,none⟩:Addr).add j)=some u:=fun j u hu=>by rw[Addr.add_lit];exact hnews j u hu
 have hlen:(olds++news).length=(n+k)*ti.size:=by rw[List.length_append,hlo,hl,Nat.add_mul]
 have grown:∀(old:Nat),(w.drew.alloc (.cells (olds.toArray++news.toArray++Builtin.zeroCells z.cells (grownCap w (n+k) old e-(n+k))) e)).ownsRow 0 e ti.size
    (.slice (some ⟨w.heap.size,0,none⟩) (n+k) (grownCap w (n+k) old e)) (n+k) (olds++news):=fun old=>by
  have hge:=grownCap_ge w (n+k) old e;have hcm:grownCap w (n+k) old e≤maxLen:=grownCap_le_maxLen w (n+k) old e h63;refine⟨hlen,.inr ⟨w.heap.size,_,_,rfl,Nat.zero_le _,heap_alloc_new w.drew _,hge,hcm,?_,?_⟩⟩
  ·simp only[Array.size_append,List.size_toArray,size_zeroCells,hzs,hlo,hl,←Nat.add_mul];congr 1;omega
  ·simp only[Array.toList_append,List.append_assoc];rw[←List.append_assoc,←hlen];exact List.take_left
 cases ad with
 |none=>
  obtain rfl:=hnil rfl;have ho:olds=[]:=List.eq_nil_of_length_eq_zero (by simpa using hlo)
  subst ho;have hr:=run_append_nil (P:=P) w T ty e ti z ht hi hz ⟨b,off,none⟩ k c news hl hnews' hk (by omega) (by have hb:=hbytes;simp only[Nat.zero_add] at hb;omega)
  have hg:=grown 0;simp only[Nat.zero_add,List.nil_append,Array.empty_append] at hg⊢;exact⟨_,_,hr,hg⟩
 |some x=>
  have hr:=run_append_grow (P:=P) w T ty e ti z ht hi hz x n n olds hlo (holds x rfl) ⟨b,off,none⟩ k c news hl hnews' (by omega) (by omega) (growslice_fits (by omega) hbytes)
  exact⟨_,_,hr,grown n⟩
theorem elemBytes_R(h:elemBytes P t sz=some by_):∃ti z,P.info? t=some ti∧ti.zero=some z∧ti.bytes=by_∧z.cells.size=sz∧0<sz:=by
 unfold elemBytes at h;split at h
 ·rename_i ti hti;split at h
  ·rename_i z hz;split at h
   ·rename_i hb;rw[Bool.and_eq_true] at hb;cases h;exact⟨ti,z,hti,hz,rfl,Nat.eq_of_beq_eq_true hb.1,by simpa[Nat.blt_eq] using hb.2⟩
   ·cases h
  ·cases h
 ·cases h
theorem fits_R(h:fits n by_=true):n*by_≤140737488355328∧n≤maxLen:=by
 unfold fits at h;rw[Bool.and_eq_true] at h;have h1:=Nat.le_of_ble_eq_true h.1;have h2:=Nat.le_of_ble_eq_true h.2;unfold room at h1 h2;exact⟨h1,by simp only[maxLen];omega⟩
theorem run_append_room_strM(ht:P.underlying T=some (.slice e))(hu:P.underlying U=some .string)(hi:P.info? e=some ti)(hs1:ti.size=1)(hg:w.heap[g]?=some (.cells cur e fz))(hfz:fz=(0,0)∨cur.size≤fz.1)
  (s:ByteArray) (hroom:n+s.size≤cap) (hfit:n+s.size≤cur.size) :
  (Builtin.append_ #[T,U] ty #[.slice (some ⟨g,0,none⟩) n cap,.string s]).run P w =
   .ok (.slice (some ⟨g,0,none⟩) (n+s.size) cap) (w.setRow g (cur.toList.take n++Lib.strCells s++cur.toList.drop (n+s.size)).toArray):=by
 have hf:=Lib.run_firstCells_string (P:=P) w 1 s;have hst:=run_storeCells_m P g n e fz (Lib.strCells s) 0 cur w hg hfz (by simpa[Lib.strCells_length] using hfit) (Lib.strCells_oneCell s)
 simp only[Nat.add_zero,Lib.strCells_length] at hst;simp[Builtin.append_,run_underlying ht,run_underlying hu,sizeOf,typeInfo,hi,hs1,Builtin.lenOf,hroom,hf,Addr.add_lit,hst]
theorem append_str(ht:P.underlying T=some (.slice e))(hu:P.underlying U=some .string)(hi:P.info? e=some ti)(hz:ti.zero=some z)(hsize:ti.size=1)(hby:ti.bytes=1)(hzs:z.cells.size=1)
  {v:Value}{n:Nat}{xs:List Value}(hown:rowM w e 1 v n xs) (hn0:0<n) (s:ByteArray) (h63:n+s.size≤maxLen) (hbytes:n+s.size≤140737488355328) :
  ∃ad cap w',(Builtin.append_ #[T,U] ty #[v,.string s]).run P w=.ok (.slice ad (n+s.size) cap) w'∧rowM w' e 1 (.slice ad (n+s.size) cap) (n+s.size) (xs++Lib.strCells s)∧w.grownBy w' v.ownBlock ∧
   (∀b,(Value.slice ad (n+s.size) cap).ownBlock=some b→v.ownBlock=some b∨w.heap.size≤b) ∧
   (∀(g:Nat) (cs:Array Value) (T':TypeId) (fr:Nat×Nat),v.ownBlock=some g→w.heap[g]?=some (.cells cs T' fr)→∃cs',w'.heap[g]?=some (.cells cs' T' fr)∧∀o,o<n*1→cs'[o]?=cs[o]?):=by
 have hxl:=hown.1;have hsmall:n+s.size≤9223372036854775807:=by simp only[maxLen] at h63;omega
 have hlen:(xs++Lib.strCells s).length=(n+s.size)*1:=by rw[List.length_append,hxl,Lib.strCells_length];omega
 rcases hown.2 with⟨rfl,rfl⟩|⟨g',cap,cur,fz,rfl,hg',hfz,hnc,hcm,hcs',htake⟩
 ·omega
 ·have hcs2:cur.size=cap:=by omega
  by_cases hroom:n+s.size≤cap
  ·have hr:=run_append_room_strM (P:=P) (w:=w) (ty:=ty) ht hu hi hsize hg' (hfz.imp (fun e=>e) (fun e=>e.1)) s hroom (by omega)
   have hsz2:(cur.toList.take n++Lib.strCells s++cur.toList.drop (n+s.size)).toArray.size=cur.size:=by
    simp only[List.size_toArray,List.length_append,List.length_take,List.length_drop,Array.length_toList,Lib.strCells_length];omega
   refine⟨_,_,_,hr,⟨hlen,.inr ⟨g',cap,_,fz,rfl,setRow_heap w g' cur _ e _ hg',by rw[hsz2];exact hfz,hroom,hcm,by rw[hsz2];exact hcs',?_⟩⟩,⟨rfl,rfl,rfl,by simp[World.setRow],fun k _ hk=>setRow_other w g' k _ (fun e=>hk (by simp[Value.ownBlock,e]))⟩,fun b hb=>.inl (by simpa[Value.ownBlock] using hb),fun g cs T' fr hg hcs=>?_⟩
   ·have ht':cur.toList.take n=xs:=by simpa using htake
    rw[List.toList_toArray,ht',←hlen];exact List.take_left
   ·simp only[Value.ownBlock,Option.some.injEq] at hg;subst hg;rw[hg'] at hcs;cases hcs;refine⟨_,setRow_heap w g' cur _ e _ hg',fun o ho=>?_⟩
    rw[List.getElem?_toArray,List.append_assoc,List.getElem?_append_left (by simp;omega),List.getElem?_take,if_pos (by omega)]
    simp
  ·have holds:∀(j:Nat) u,xs[j]?=some u→w.cell? ((⟨g',0,none⟩:Addr).add j)=some u:=hown.cells (g:=g') rfl;have hr:=Lib.run_append_grow_string (P:=P) w T U ty e ti z ht hu hi hz ⟨g',0,none⟩ n cap xs (by rw[hsize];exact hxl) holds s (by omega) (by omega) (by rw[hby];exact growslice_fits (by omega) (by omega))
   have hge:=grownCap_ge w (n+s.size) cap e;have hcm2:grownCap w (n+s.size) cap e≤maxLen:=grownCap_le_maxLen w (n+s.size) cap e h63;refine⟨_,_,_,hr,⟨hlen,.inr ⟨w.heap.size,_,_,(0,0),rfl,heap_alloc_new w.drew _,.inl rfl,hge,hcm2,?_,?_⟩⟩,⟨rfl,rfl,rfl,by simp,fun k hk _=>heap_alloc_old w.drew _ hk⟩,fun b hb=>.inr (by simp[Value.ownBlock] at hb;omega),fun g cs T' fr hg hcs=>⟨cs,(heap_alloc_old w.drew _ (show g<w.drew.heap.size from mem_lt hcs)).trans hcs,fun o _=>rfl⟩⟩
   ·simp only[Array.size_append,List.size_toArray,size_zeroCells,hzs,hxl,Lib.strCells_length];omega
   ·simp only[Array.toList_append,List.append_assoc];rw[←List.append_assoc,←hlen];exact List.take_left
theorem acts_appendStr{y:Operand}{px py:PV}(hs:Sit E m φ μ st w)(ht:tsl P T=some (t,sz))(rx:R m φ px (a.eval x))(ry:R m φ py (a.eval y))(hby:elemBytes P t sz=some by_)(hx:appendStr P st U t sz by_ px py=some r):Acts P E m φ st w a ⟨dst,.call ⟨.builtin .append,#[x,y],#[T,U]⟩,ty,pos,after,gd⟩ r:=by
 have fin:∀{v:Value}{w':World},(Builtin.append_ #[T,U] ty #[a.eval x,a.eval y]).run P w=.ok v w'→(execOp a.eval ⟨dst,.call ⟨.builtin .append,#[x,y],#[T,U]⟩,ty,pos,after,gd⟩).run P w=.ok (.value v) w':=fun hrun=>by
  unfold execOp;simp only[resolve,invoke,builtin,Sem.run_bind,Sem.run_pure,Result.andThen_ok,List.map_toArray,List.map_cons,List.map_nil,hrun]
 obtain⟨ti,zv,hti,hzv,hbb,hzs,hpos⟩:=elemBytes_R hby;obtain⟨hu,hsize⟩:P.underlying T=some (.slice t)∧ti.size=sz:=by
  unfold tsl at ht;split at ht
  ·rename_i e' hee;cases hii:P.info? e' with
   |none=>simp[hii] at ht
   |some ii=>
    simp[hii] at ht;obtain⟨rfl,rfl⟩:=ht;rw[hii] at hti;cases hti;exact⟨hee,rfl⟩
  ·cases ht
 unfold appendStr at hx;split at hx
 ·rename_i id len s hU;have hU':=strT_R hU;have ey:=ry.sc_eq;split at hx
  ·rename_i p t' z' xs ho;split at hx
   ·rename_i hb;simp only[Bool.and_eq_true] at hb;obtain⟨⟨⟨⟨⟨⟨hb1,hb2⟩,hb3⟩,hb4⟩,hb5⟩,hb6⟩,hb7⟩:=hb;have hlen:=Nat.eq_of_beq_eq_true hb1;obtain rfl:=Nat.eq_of_beq_eq_true hb2;obtain rfl:=Nat.eq_of_beq_eq_true hb3;obtain rfl:=Nat.eq_of_beq_eq_true hb4;obtain rfl:=Nat.eq_of_beq_eq_true hb5;have hn0:0<len:=by simpa[Nat.blt_eq] using hb6
    obtain⟨hby1,hmax⟩:=fits_R hb7;have rx':=rx;generalize hex:a.eval x=ex at rx fin;cases rx with
    | @ms _ _ _ n sz'' sv _ hφ hle hv hsl=>
     obtain⟨μ1,rs,μ2,h1,h2,h3⟩:=hs.sto.get ho;obtain⟨ad,cap,uss,h4,h5,hsz,h6⟩:=h2;rw[Nat.zero_add,hφ] at h4;cases h4;subst h5;obtain rfl:=hv hlen;have hown:rowM w t 1 (.slice ad xs.length cap) xs.length uss.flatten:=hs.good.own (r:=.row p (.slice ad xs.length cap) t 1 xs.length uss.flatten) (by rw[h1];simp)
     have hsz0:s.data.toList.length=s.size:=rfl;obtain⟨ad',cap',w',hrun,hown',hgr,hfoot,hkeep⟩:=append_str (P:=P) (w:=w) (ty:=ty) hu hU' hti hzv hsize hbb hzs hown (by omega) s (by omega) (by omega)
     split at hx
     ·rename_i hnil;cases hx;have hs0:s.size=0:=by rw[←hsz0,hnil];rfl
      refine⟨.slice ad xs.length cap,w,m,φ,μ,fin ?_,Mem.le.refl m,Ext.refl _ _,hs,hex▸rx'⟩;rw[ey];have hcapn:xs.length≤cap:=by
       rcases hown.2 with⟨e1,e2⟩|⟨g,cap',cur,fz,e1,_,_,e2,_⟩
       ·omega
       ·cases e1;exact e2
      have hf:=Lib.run_firstCells_string (P:=P) w ti.size s;have hcn:Lib.strCells s=[]:=by unfold Lib.strCells;rw[hnil];rfl
      rw[hs0,hcn] at hf;cases ad<;>simp[Builtin.append_,run_underlying hu,run_underlying hU',sizeOf,typeInfo,hti,Builtin.lenOf,hs0,hcapn,hf,storeCells]
     ·rename_i l hne;cases hx;have hls:0<s.size:=by
       rw[←hsz0];cases hl:s.data.toList with
       |nil=>exact absurd hl hne
       |cons c r=>simp
      have hle':Le φ (more φ id (.row (.slice ad' (xs.length+s.size) cap') (xs.length+s.size) 1)):=fun j=>by
       by_cases e:j=id
       ·subst e;rw[hφ,more_self];refine⟨fun b hb=>(by cases hb),fun sv n z hb=>?_⟩
        cases hb;exact⟨_,_,rfl,.inr (by omega)⟩
       ·rw[more_other e];exact Le.refl φ j
      have hstr:RowR m φ 1 (s.data.toList.map fun c=>PV.sc (.int .u8 (c.toNat:Int))) (s.data.toList.map fun c=>[Value.int .u8 (c.toNat:Int)]):=by
       refine⟨by simp,fun i y vs hy hvs=>?_⟩
       rw[List.getElem?_map] at hy hvs;cases hc:s.data.toList[i]? with
       |none=>rw[hc] at hy;simp at hy
       |some c=>
        rw[hc] at hy hvs;simp only[Option.map_some,Option.some.injEq] at hy hvs;subst hy hvs;exact⟨rfl,rfl,rfl,.cons (.sc rfl) .nil⟩
      have hflat:(s.data.toList.map fun c=>[Value.int .u8 (c.toNat:Int)]).flatten=Lib.strCells s:=by
       unfold Lib.strCells;generalize s.data.toList=l
       induction l with
       |nil=>rfl
       |cons c r ih=>simp only[List.map_cons,List.flatten_cons,List.singleton_append];rw[ih]
      have hxl2:(xs++s.data.toList.map fun c=>PV.sc (.int .u8 (c.toNat:Int))).length=xs.length+s.size:=by rw[List.length_append,List.length_map,hsz0]
      have hset:=h3 (m':=m) (o':=.row p t 1 (xs++s.data.toList.map fun c=>PV.sc (.int .u8 (c.toNat:Int)))) (rs':=[.row p (.slice ad' (xs.length+s.size) cap') t 1 (xs.length+s.size) (uss++s.data.toList.map fun c=>[Value.int .u8 (c.toNat:Int)]).flatten]) (Mem.le.refl m) hle' (fun j hj=>more_other (by omega))
       ⟨ad',cap',uss++s.data.toList.map fun c=>[Value.int .u8 (c.toNat:Int)],by rw[Nat.zero_add,more_self,hxl2],by rw[hxl2],hsz,(h6.append hstr).mono (Mem.le.refl m) hle'⟩
      have hg1:Hb.Good E w m (.row p (.slice ad xs.length cap) t 1 xs.length uss.flatten::(μ1++μ2)):=hs.good.perm (by rw[h1];simp)
      have hg2:=hg1.turn (w':=w') (r':=.row p (.slice ad' (xs.length+s.size) cap') t 1 (xs.length+s.size) (uss++s.data.toList.map fun c=>[Value.int .u8 (c.toNat:Int)]).flatten) hgr.os hgr.tape hgr.output hgr.size (fun b' hb' hne=>hgr.block b' hb' (fun e'=>hne e'.symm))
       (fun b' o u hf hm=>by
        obtain⟨cs,T',fr,e1,e2⟩:=hg1.sub b' o u hm;obtain⟨cs',e3,e4⟩:=hkeep b' cs T' fr hf e1;refine⟨cs',T',fr,e3,?_⟩;rw[e4 o ?_]
        ·exact e2
        ·apply Nat.lt_of_not_le
         intro hge;have:=(hg1.feet _ List.mem_cons_self b' hf).2 o (by
          cases p
          ·simp[Res.lim]
          ·simpa[Res.lim] using hge)
         rw[this] at hm;cases hm) (by show rowM w' t 1 _ _ _;rw[List.flatten_append,hflat];exact hown')
       (fun b' hf=>(hfoot b' hf).imp (fun e'=>⟨e',by cases p<;>simp[Res.lim]⟩) (fun e'=>e'))
      refine⟨.slice ad' (xs.length+s.size) cap',w',m,_,_,fin ?_,Mem.le.refl m,⟨hle',by simp,fun j hj=>?_⟩,⟨hg2.perm (by simpa using List.perm_middle.symm),hset,fun j hj=>?_⟩,?_⟩
      ·rw[ey];exact hrun
      ·have hji:j≠id:=fun e=>by subst e;rw[ho] at hj;cases hj
       rw[List.getElem?_set_ne (Ne.symm hji),more_other hji];exact⟨hj,rfl⟩
      ·have hid:id<st.length:=(List.getElem?_eq_some_iff.1 ho).1;rw[List.length_set] at hj;rw[more_other (by omega)]
       exact hs.dom j hj
      ·rw[hlen];exact .ms (more_self _ _ _) (Nat.le_refl _) (fun _=>rfl) ⟨_,_,_,rfl⟩
   ·cases hx
  ·cases hx
 ·cases hx
theorem acts_append{xs:Array Operand}{ts:Array TypeId}(hs:Sit E m φ μ st w)(h:EnvR m φ ρ a)(hx:sAppend P ρ st xs.toList ts.toList=some r):Acts P E m φ st w a ⟨dst,.call ⟨.builtin .append,xs,ts⟩,ty,pos,after,gd⟩ r:=by
 unfold sAppend at hx;split at hx
 ·rename_i x y T U hxs hts;obtain rfl:xs = #[x,y]:=by apply Array.ext';simpa using hxs
  obtain rfl:ts = #[T,U]:=by apply Array.ext';simpa using hts
  split at hx
  ·rename_i t sz hTU ht;obtain rfl:=Nat.eq_of_beq_eq_true hTU;split at hx
   ·rename_i px py by_ hp hy hby;split at hx
    ·rename_i z ys hc;split at hx
     ·rename_i hzz;have hz':z=sz∨ys=[]:=by
       rw[Bool.or_eq_true] at hzz;rcases hzz with h1|h1
       ·exact .inl (Nat.eq_of_beq_eq_true h1).symm
       ·exact .inr (by simpa using h1)
      obtain⟨ti,zv,hti,hzv,hbb,hzs,hpos⟩:=elemBytes_R hby;obtain⟨hu,hsize⟩:P.underlying T=some (.slice t)∧ti.size=sz:=by
       unfold tsl at ht;split at ht
       ·rename_i e' hee;cases hii:P.info? e' with
        |none=>simp[hii] at ht
        |some ii=>
         simp[hii] at ht;obtain⟨rfl,rfl⟩:=ht;rw[hii] at hti;cases hti;exact⟨hee,rfl⟩
       ·cases ht
      have rx:=aval_R h hp;have ry:=aval_R h hy;obtain⟨bd,bcap,vss,ey,hrow,hcells⟩:=contents_R (sz:=sz) hs hc hz' ry
      -- the run
      have fin:∀{v:Value}{w':World},(Builtin.append_ #[T,T] ty #[a.eval x,a.eval y]).run P w=.ok v w'→(execOp a.eval ⟨dst,.call ⟨.builtin .append,#[x,y],#[T,T]⟩,ty,pos,after,gd⟩).run P w=.ok (.value v) w':=fun hrun=>by
       unfold execOp;simp only[resolve,invoke,builtin,Sem.run_bind,Sem.run_pure,Result.andThen_ok,List.map_toArray,List.map_cons,List.map_nil,hrun]
      unfold appendS at hx;split at hx
      ·rename_i id len;split at hx
       ·rename_i p t' z' xs ho;split at hx
        ·rename_i hb;simp only[Bool.and_eq_true] at hb;obtain⟨⟨⟨hb1,hb2⟩,hb3⟩,hb4⟩:=hb;have hlen:=Nat.eq_of_beq_eq_true hb1;obtain rfl:=Nat.eq_of_beq_eq_true hb2;obtain rfl:=Nat.eq_of_beq_eq_true hb3;obtain⟨hby1,hmax⟩:=fits_R hb4;have rx':=rx;generalize hex:a.eval x=ex at rx fin;cases rx with
         | @ms _ _ _ n sz'' sv _ hφ hle hv hsl=>
          obtain⟨μ1,rs,μ2,h1,h2,h3⟩:=hs.sto.get ho;obtain⟨ad,cap,uss,h4,h5,hsz,h6⟩:=h2;rw[Nat.zero_add,hφ] at h4;cases h4;subst h5;obtain rfl:=hv hlen;have hown:rowM w t sz (.slice ad xs.length cap) xs.length uss.flatten:=hs.good.own (r:=.row p (.slice ad xs.length cap) t sz xs.length uss.flatten) (by rw[h1];simp)
          have hcapn:xs.length≤cap:=by
           rcases hown.2 with⟨e1,e2⟩|⟨g,cap',cur,fz,e1,_,_,e2,_⟩
           ·omega
           ·cases e1;exact e2
          split at hx
          ·cases hx;refine⟨.slice ad xs.length cap,w,m,φ,μ,fin ?_,Mem.le.refl m,Ext.refl _ _,hs,hex▸rx'⟩;rw[ey];exact run_append_zero hu hti hcapn
          ·rename_i hne;have hne':ys≠[]:=fun e=>hne e
           cases hx;obtain⟨b,off,rfl,hcl⟩:=hcells hne';obtain⟨ad',cap',w',hrun,hown',hgr,hfoot,hkeep⟩:=append_own (P:=P) (w:=w) (ty:=ty) hu hti hzv hsize hbb hzs hpos hown (c:=bcap) (k:=ys.length) hrow.flat hcl (flat_one hrow) (by rw[←hlen];exact hmax) (by rw[←hlen];exact hby1)
           have hle':Le φ (more φ id (.row (.slice ad' (xs.length+ys.length) cap') (xs.length+ys.length) sz)):=fun j=>by
            by_cases e:j=id
            ·subst e;rw[hφ,more_self];refine⟨fun b hb=>(by cases hb),fun sv n z hb=>?_⟩
             cases hb;exact⟨_,_,rfl,.inr (by have:=List.length_pos_iff.2 hne';omega)⟩
            ·rw[more_other e];exact Le.refl φ j
           have hset:=h3 (m':=m) (o':=.row p t sz (xs++ys)) (rs':=[.row p (.slice ad' (xs.length+ys.length) cap') t sz (xs.length+ys.length) (uss++vss).flatten]) (Mem.le.refl m) hle' (fun j hj=>more_other (by omega))
            ⟨ad',cap',uss++vss,by rw[Nat.zero_add,more_self,List.length_append],by rw[List.length_append],hsz,(h6.append hrow).mono (Mem.le.refl m) hle'⟩
           have hg1:Hb.Good E w m (.row p (.slice ad xs.length cap) t sz xs.length uss.flatten::(μ1++μ2)):=hs.good.perm (by rw[h1];simp)
           have hg2:=hg1.turn (w':=w') (r':=.row p (.slice ad' (xs.length+ys.length) cap') t sz (xs.length+ys.length) (uss++vss).flatten) hgr.os hgr.tape hgr.output hgr.size (fun b' hb' hne=>hgr.block b' hb' (fun e'=>hne e'.symm))
            (fun b' o u hf hm=>by
             obtain⟨cs,T',fr,e1,e2⟩:=hg1.sub b' o u hm;obtain⟨cs',e3,e4⟩:=hkeep b' cs T' fr hf e1;refine⟨cs',T',fr,e3,?_⟩;rw[e4 o ?_]
             ·exact e2
             ·apply Nat.lt_of_not_le
              intro hge;have:=(hg1.feet _ List.mem_cons_self b' hf).2 o (by
               cases p
               ·simp[Res.lim]
               ·simpa[Res.lim] using hge)
              rw[this] at hm;cases hm) (by show rowM w' t sz _ _ _;rw[List.flatten_append];exact hown')
            (fun b' hf=>(hfoot b' hf).imp (fun e'=>⟨e',by cases p<;>simp[Res.lim];exact Nat.mul_le_mul_right _ (by omega)⟩) (fun e'=>e'))
           refine⟨.slice ad' (xs.length+ys.length) cap',w',m,_,_,fin ?_,Mem.le.refl m,⟨hle',by simp,fun j hj=>?_⟩,⟨hg2.perm (by simpa using List.perm_middle.symm),hset,fun j hj=>?_⟩,?_⟩
           ·rw[ey];exact hrun
           ·have hji:j≠id:=fun e=>by subst e;rw[ho] at hj;cases hj
            rw[List.getElem?_set_ne (Ne.symm hji),more_other hji];exact⟨hj,rfl⟩
           ·have hid:id<st.length:=(List.getElem?_eq_some_iff.1 ho).1;rw[List.length_set] at hj;rw[more_other (by omega)]
            exact hs.dom j hj
           ·rw[hlen];exact .ms (more_self _ _ _) (Nat.le_refl _) (fun _=>rfl) ⟨_,_,_,rfl⟩
        ·cases hx
       ·cases hx
      ·rename_i full z' xs;have rx':=rx;generalize hex:a.eval x=ex at rx fin;cases rx with
       | @sl _ _ _ _ ad cap b0 off0 g ha hcap hmax hfull hel hrr hnil=>
        split at hx
        ·cases hx;refine⟨.slice ad xs.length cap,w,m,φ,μ,fin ?_,Mem.le.refl m,Ext.refl _ _,hs,hex▸rx'⟩;rw[ey];exact run_append_zero hu hti hcap
        ·rename_i hne;have hne':ys≠[]:=fun e=>hne e
         split at hx
         ·rename_i hb;simp only[Bool.and_eq_true,Bool.or_eq_true] at hb;obtain⟨⟨hb1,hb2⟩,hb3⟩:=hb;cases hx;obtain rfl:=hfull hb1;obtain⟨hby1,hmax'⟩:=fits_R hb3;obtain⟨b,off,rfl,hcl⟩:=hcells hne';have hcont:contents st (.sl full z' xs)=some (z',xs):=rfl;obtain⟨ad2,cap2,uss,e2,hrowx,hcellx⟩:=contents_R (sz:=sz) hs hcont (by
           rcases hb2 with h1|h1
           ·exact .inl (Nat.eq_of_beq_eq_true h1).symm
           ·exact .inr (by simpa using h1)) (hex▸rx')
          cases e2;obtain⟨cap',cs,hrun,hown'⟩:=append_full (P:=P) (w:=w) (ty:=ty) hu hti hzv hsize hbb hzs (ad:=ad) (n:=xs.length) (olds:=uss.flatten) hrowx.flat (fun x0 hx0 j u hu'=>by
            by_cases hxe:xs=[]
            ·have:=(List.getElem?_eq_some_iff.1 hu').1;rw[hrowx.flat,hxe] at this;simp at this
            ·obtain⟨b1,off1,e3,hc1⟩:=hcellx hxe;rw[e3] at hx0;cases hx0;rw[Addr.add_lit];exact hc1 j u hu') (fun e=>by
            by_cases hxe:xs=[]
            ·simp[hxe]
            ·rw[ha hxe] at e;cases e) (c:=bcap) (k:=ys.length) (List.length_pos_iff.2 hne') hrow.flat hcl hmax' hby1
          -- the new row
          have hg0:=(hs.good.drew (w.drawn+1)).new (.cells cs t);have hg1:Hb.Good E (w.drew.alloc (.cells cs t)) m (.row false (.slice (some ⟨w.heap.size,0,none⟩) (xs.length+ys.length) cap') t sz (xs.length+ys.length) (uss++vss).flatten::μ):=by
           have hg00:Hb.Good E (w.drew.alloc (.cells cs t)) m (.blk w.heap.size (.cells cs t)::μ):=hg0;exact hg00.turn (w':=w.drew.alloc (.cells cs t)) rfl rfl rfl (Nat.le_refl _) (fun _ _ _=>rfl) (fun b' o u hf hm=>hg00.sub b' o u hm) (by show rowM _ _ _ _ _ _;rw[List.flatten_append];exact rowM_of hown')
            (fun b' hf=>.inl ⟨hf,by simp[Res.lim]⟩)
          have hle':Le φ (more φ st.length (.row (.slice (some ⟨w.heap.size,0,none⟩) (xs.length+ys.length) cap') (xs.length+ys.length) sz)):=le_more (hs.dom _ (Nat.le_refl _));obtain⟨hsit,hext⟩:=hs.push (o:=.row false t sz (xs++ys)) hg1 ⟨some ⟨w.heap.size,0,none⟩,cap',uss++vss,by rw[more_self,List.length_append],by rw[List.length_append],hpos,(hrowx.append hrow).mono (Mem.le.refl m) hle'⟩
          refine⟨_,_,m,_,_,fin ?_,Mem.le.refl m,hext,hsit,.ms (more_self _ _ _) (Nat.le_refl _) (fun _=>rfl) ⟨_,_,_,rfl⟩⟩
          rw[ey];exact hrun
         ·cases hx
      ·cases hx
     ·cases hx
    ·cases hx
   ·cases hx
  ·rename_i t sz hTU ht;split at hx
   ·rename_i px py by_ hp hy hby;exact acts_appendStr hs ht (aval_R h hp) (aval_R h hy) hby hx
   ·cases hx
  ·cases hx
 ·cases hx
end
end Go.Am
