/- posit.apart, which counts names in a map of its own: what it answers. -/
import Derived.Test.YtnfbeplfnblgjaaGreatDoorZNs
import Derived.SliceStrings
import Derived.Test.YtnfbeplfnblgjaaGreatDoorZGc
set_option linter.all false
set_option maxRecDepth 100000
namespace Go.Proofs.YtnfbeplfnblgjaaGreatDoor
open Go Go.RowKit Go.WideMaps Go.Maps
def j2S:List (List UInt8)→List (List UInt8)→Bool
 |_,[]=>true
 |seen,s::r=>if s=[]∨s∈seen then false else j2S (s::seen) r
def aptL{H:Type}(n:Int):DataW H:=.lit (.int .i64 n)
def aptC{H:Type}(seen:List (List UInt8)):DataW H:=seen.foldr (fun s D=>D.put (.string s) (aptL 1)) (.map [])
theorem j4T{H:Type}:∀seen:List (List UInt8),IsMap (aptC (H:=H) seen)
 |[]=>isMap_empty
 |s::r=>(j4T r).put _ _
theorem j9w{H:Type}(s:List UInt8):∀seen:List (List UInt8),(aptC (H:=H) seen).atKey (.string s) (aptL 0)=if s∈seen then aptL 1 else aptL 0
 |[]=>by
  rw[if_neg (by simp)]
  exact WideAt.atKey_none _ (by simp)
 |x::r=>by
  show((aptC (H:=H) r).put (.string x) (aptL 1)).atKey (.string s) (aptL 0)=_
  by_cases h:s=x
  ·subst h;rw[atKey_put_same (j4T r) (by exact trivial),if_pos (by simp)]
  ·rw[atKey_put_other (by simpa using h),j9w s r]
   by_cases h2:s∈r
   ·rw[if_pos h2,if_pos (by simp[h2])]
   ·rw[if_neg h2,if_neg (by simp[h,h2])]
theorem j9x:Keyed Tryz.prog 9:=string_keyed Tryz.underlying9
theorem j9y(w:World):(zeroValue 3).run Tryz.prog w=.ok (.int .i64 0) w:=by kernel_rfl
def aptS(ss:List ByteArray):List (List UInt8):=ss.map fun s=>s.data.toList
theorem j9s(b off len cap:Nat)(ss:List ByteArray)(w:World)(hreach:len*16≤140737488351232)(hz:len=ss.length)(hb:b<w.heap.size∨len=0)
  (hc:∀j,j<ss.length→w.cell? ⟨b,off+j,none⟩=some (.string (ss.getD j ByteArray.empty))) (hsz:∀s∈ss,s.size≤maxLen) :
  Calls Tryz.prog 98 #[.slice (some ⟨b,off,none⟩) len cap] w fun e w'=>e=.returned (.bool (j2S [] (aptS ss)))∧Below w.heap.size w w':=by
 have hmm:=@run_makeMap Tryz.prog
 go_enter Tryz.func98,Tryz.ntmps98
 go_wp2
 go_loopw [9] (fun i wr=>∃k:Nat,k≤len∧i=.int .i64 k∧wr.ownsMap Tryz.prog 9 (plainElem (H:=Unit) Tryz.prog 3) w.heap.size k (aptC ((aptS ss).take k).reverse)∧Below w.heap.size w wr∧j2S ((aptS ss).take k).reverse ((aptS ss).drop k)=j2S [] (aptS ss))
  (fun i _=>len-(intOf i).toNat)
 case atStart=>exact⟨0,Nat.zero_le _,rfl,World.ownsMap_made _ _ _ _,(Below.refl _ _).alloc (Nat.le_refl _) _,by simp⟩
 case round=>
  obtain⟨k,hk,rfl,hown,hnx,hgo⟩:=hrel;obtain⟨s,hs⟩:∃s,s=ss.getD k ByteArray.empty:=⟨_,rfl⟩;have hcx:k<len→wr.cell? ⟨b,off+k,none⟩=some (.string s):=fun hlt=>by rw[hs];exact(hnx.cell (by exact hb.resolve_right (by omega))).trans (hc k (by omega))
  have hsk:k<len→(aptS ss)[k]?=some s.data.toList:=fun hlt=>by
   have:ss[k]?=some s:=by rw[hs,List.getD_eq_getElem?_getD,List.getElem?_eq_getElem (by omega)];rfl
   simp[aptS,this]
  have hsm:s.size≤maxLen:=by
   rw[hs]
   by_cases hk2:k<ss.length
   ·rw[List.getD_eq_getElem?_getD,List.getElem?_eq_getElem hk2];exact hsz _ (List.getElem_mem hk2)
   ·rw[List.getD_eq_getElem?_getD,List.getElem?_eq_none (by omega)]
    exact Nat.zero_le _
  have hkey:keyOf Tryz.prog 9 (.string s)=some (.string s.data.toList):=keyOf_string_mk Tryz.underlying9 hsm;clear hs;obtain⟨c,hrun,hat,_⟩:=hown.lookup_int j9x Tryz.underlying227 Tryz.underlying3 (j9y _) hkey;have hat2:=j9w (H:=Unit) s.data.toList ((aptS ss).take k).reverse;rw[show aptL (H:=Unit) 0=.lit (.int .i64 0) from rfl,hat] at hat2
  go_wp2_with (first
   |(at_mapUpdate;refine wpList_mapUpdate_own _ rfl _ _ _ 227 rfl 9 3 j9x Tryz.underlying227 _ w.heap.size k _ rfl hown (by unfold maxLen;omega) _ _ _ rfl rfl hkey _ [] (plainElem_int Tryz.underlying3 (wrap64_wf _)) ?_)
   |go_in)
  ·intro w1 hown1 hgrow1;have hlt:k<len:=by omega
   obtain⟨c2,hrun2,hat3,_⟩:=hown1.lookup_int j9x Tryz.underlying227 Tryz.underlying3 (j9y _) hkey;rw[atKey_put_same (j4T _) (by exact trivial)] at hat3
   have hc2:wrap64 (c+1)=c2:=by injection hat3 with h;injection h
   have hdrop:(aptS ss).drop k=s.data.toList::(aptS ss).drop (k+1):=by
    have hl:k<(aptS ss).length:=by simp[aptS];omega
    rw[List.drop_eq_getElem_cons hl];congr 1;have:=hsk hlt;rw[List.getElem?_eq_getElem hl] at this;exact Option.some.inj this
   have hgo2:j2S [] (aptS ss)=if s.data.toList=[]∨s.data.toList∈((aptS ss).take k).reverse then false else j2S (s.data.toList::((aptS ss).take k).reverse) ((aptS ss).drop (k+1)):=by
    rw[←hgo,hdrop,j2S]
   have hcv:c=if s.data.toList∈((aptS ss).take k).reverse then 1 else 0:=by
    split at hat2
    ·rename_i hm;rw[if_pos hm]
     injection hat2 with h
     injection h
    ·rename_i hm;rw[if_neg hm]
     injection hat2 with h
     injection h
   have hts:s.toList=s.data.toList:=Lib.toList_data s;have hc01:c=0∨c=1:=by
    rw[hcv];split
    ·exact .inr rfl
    ·exact .inl rfl
   have hw0:wrap64 ((0:Int)+1)=1:=by simp[wrap64]
   have hw1:wrap64 ((1:Int)+1)=2:=by simp[wrap64]
   have hd1:s.data.toList=[]→j2S [] (aptS ss)=false:=fun h=>by rw[hgo2,if_pos (.inl h)]
   have hd2:1<c2→j2S [] (aptS ss)=false:=fun h=>by
    rcases Classical.em (s.data.toList∈((aptS ss).take k).reverse) with h2|h2
    ·rw[hgo2,if_pos (.inr h2)]
    ·rw[if_neg h2] at hcv;rw[hcv,hw0] at hc2;omega
   have hd3:s.data.toList≠[]→¬1<c2→c=0∧j2S [] (aptS ss)=j2S (s.data.toList::((aptS ss).take k).reverse) ((aptS ss).drop (k+1)):=fun h h2=>by
    have hn:s.data.toList∉((aptS ss).take k).reverse:=fun h3=>by
     rw[if_pos h3] at hcv;rw[hcv,hw1] at hc2;omega
    rw[if_neg hn] at hcv;exact⟨hcv,by rw[hgo2,if_neg (fun h4=>h4.elim h hn)]⟩
   clear hcv hgo2 hc01 hat2 hat hat3;have hnx2:Below w.heap.size w w1:=hnx.grown hgrow1 hnx.size (fun j hj=>by cases hj;exact Nat.le_refl _)
   have htk:((aptS ss).take (k+1)).reverse=s.data.toList::((aptS ss).take k).reverse:=by
    rw[List.take_add_one,hsk hlt];simp
   go_wp2
   ·rename_i he;have e:=hd1 (by simpa using he)
    go_ret
    exact⟨by first|rfl|(rw[e];rfl),hnx2⟩
   ·rename_i hne ho;have e:=hd2 (ho.resolve_left (fun h=>hne (by simpa using h)))
    go_ret
    exact⟨by first|rfl|(rw[e];rfl),hnx2⟩
   ·rename_i hne ho;obtain⟨hc0,e⟩:=hd3 (fun h=>hne (by simpa using h)) (by omega)
    rw[hc0,hw0] at hown1
    go_roundw
    case rel=>exact⟨_,_,_,⟨k+1,by omega,rfl,by rw[htk];exact hown1,by rw[htk]⟩,rfl,rfl,by go_num⟩
    case measure=>simp[intOf];omega
  ·have hkl:k=ss.length:=by omega
   have e:j2S [] (aptS ss)=true:=by
    rw[←hgo,List.drop_of_length_le (by simp[aptS];omega)]
    rfl
   go_ret
   exact⟨by first|rfl|(rw[e];rfl),hnx⟩
theorem j9t(a:Option Addr)(cap:Nat)(w:World):
  Calls Tryz.prog 98 #[.slice a 0 cap] w fun e w'=>e=.returned (.bool true)∧Below w.heap.size w w':=by
 have hmm:=@run_makeMap Tryz.prog
 go_enter Tryz.func98,Tryz.ntmps98
 go_wp2
 go_loopw [9] (fun i wr=>i=.int .i64 0∧Below w.heap.size w wr) (fun _ _=>0)
 case atStart=>exact⟨rfl,(Below.refl _ _).alloc (Nat.le_refl _) _⟩
 case round=>
  obtain⟨rfl,hnx⟩:=hrel
  go_wp2
  go_ret
  exact⟨rfl,hnx⟩
open Go.Am Go.Hb in
def j9r:List PV→Option (List PV)
 |[.sl _ _ xs]=>match mapO Go.Am.strOf xs with
  |some ss=>match Nat.ble ss.length 1000000000&&ss.all fun s=>Nat.ble (bl s).length 1000000000 with
   |true=>some [.sc (.bool (j2S [] (ss.map bl)))]
   |false=>none
  |none=>none
 |_=>none
open Go.Am Go.Hb in
theorem jaC:j3I Tryz.prog 98 j9r:=j0t fun args rs hF w m vs hg hr=>by
 unfold j9r at hF;split at hF
 ·rename_i b z xs;split at hF
  ·rename_i ss hss;split at hF
   ·rename_i hb;cases hF;simp only[Bool.and_eq_true] at hb;obtain⟨h5,h6⟩:=hb;have h5:=Nat.le_of_ble_eq_true h5;have h6:=List.all_eq_true.1 h6;have hxs:=j3d hss;obtain⟨u,rfl,h1⟩:=hr.one;have hlen:xs.length=ss.length:=by rw[hxs];simp
    cases h1 with
    | @sl _ _ _ _ a cap bk off g ha hcap hmax hfull hel hrr hnil=>
     refine⟨[_],Rl.sc1 rfl,?_⟩;cases hss0:ss with
     |nil=>
      subst hss0;have hx0:xs=[]:=by simpa using hxs
      subst hx0;exact j9t a cap w
     |cons s0 sr=>
      rw[←hss0];have hne:xs≠[]:=by rw[hxs,hss0];simp
      have hcell:∀(j:Nat) x,ss[j]?=some x→w.cell? ⟨bk,off+j,none⟩=some (.string x):=fun j x hj=>by
       have hx:xs[j]?=some (.sc (.string x)):=by rw[hxs,List.getElem?_map,hj];rfl
       obtain⟨q1,q2,q3,q4⟩:=hel j _ hx;simp only[PV.cells,List.length_singleton] at q1;subst q1;have hg0:∃v,g j=[v]:=List.length_eq_one_iff.1 q2;obtain⟨v,hv⟩:=hg0;have:=hrr j _ 0 (.sc (.string x)) v hx rfl (by rw[hv];rfl)
       obtain rfl:=this.sc_eq;have hm:=q3 0 (.string x) (by rw[hv];rfl)
       have:=hg.cell hm;simpa using this
      rw[ha hne,hlen];have hbk:bk<w.heap.size:=by
       have h0:=hcell 0 s0 (by rw[hss0];rfl)
       simp only[World.cell?] at h0;cases e:w.heap[bk]? with
       |none=>simp[e] at h0
       |some o=>exact mem_lt e
      exact j9s bk off ss.length cap ss w (by omega) rfl (.inl hbk) (fun j hj=>hcell j _ (by rw[List.getD_eq_getElem?_getD,List.getElem?_eq_getElem hj];rfl))
       (fun s hs=>by
        have:=Nat.le_of_ble_eq_true (h6 s hs);have e1:s.size=(bl s).length:=by rw[bl];exact Lib.size_eq s
        unfold maxLen;omega)
   ·cases hF
  ·cases hF
 ·cases hF
open Go Go.Am Go.Hb
def memN(l:List Nat)(f:Nat):Bool:=match l with
 |[]=>false
 |g::r=>match Nat.beq f g with
  |true=>true
  |false=>memN r f
def rawL:List Nat:=[184,125,191,313,267,223,225,173]
def jdq:List Nat:=[233,183,126,139,4294967295,4294967295,313,267,223,225,173]
def litL:List Nat:=[26,37]
def fzL:List Nat:=[162,118,177,237,380,348]
def fzcL:List Nat:=[298,201,251,185,128,249,401,142,145,
 226,227,270,274,350,396,379]
def natC:List (FuncId×NatF):=
 (184,j9d)::
 (125,j8A)::
 (98,natP j9r)::
 (316,jcG)::
 nat1
theorem j5w:∀p∈natC,DoesOk (CallD Tryz.prog p.1) p.2:=by
 intro p hp;unfold natC at hp;rcases List.mem_cons.1 hp with rfl|hp
 ·exact jcA
 rcases List.mem_cons.1 hp with rfl|hp
 ·exact j8H
 rcases List.mem_cons.1 hp with rfl|hp
 ·exact j0C jaC
 rcases List.mem_cons.1 hp with rfl|hp
 ·exact jcy
 exact jcL p hp
noncomputable def C1:Cfg:=⟨Tryz.prog,memN fzL,memN rawL,memN jdq,memN litL,fun f=>j2p f natC,fun f T=>memN fzcL f && !Nat.beq T 122,fun _=>false,false⟩
theorem jc1:NatOk C1:=j3D (fun _=>rfl) j5w
theorem j3B(n:Nat):EvOk C1 (ev C1 n):=ev_ok (by kernel_rfl) (by kernel_rfl) jc1 n
open Go Go.Am Go.Gw
abbrev iv(n:Int):PV:=.sc (.int .i64 n)
abbrev bv(b:Bool):PV:=.sc (.bool b)
mutual
def LvP:Lv→PV→Prop
 | .mk k n ls,v=>∃b z xs,v=.ag [iv k,iv n,.sl b z xs]∧(z=3∨xs=[])∧LvsP ls xs∧ls.length≤3518437208780
def LvsP:List Lv→List PV→Prop
 |[],xs=>xs=[]
 |l::r,xs=>∃v xs',xs=v::xs'∧LvP l v∧LvsP r xs'
end
theorem LvsP.len:∀{ls:List Lv}{xs:List PV},LvsP ls xs→xs.length=ls.length
 |[],xs,h=>by simp only[LvsP] at h;simp[h]
 |l::r,xs,h=>by
  simp only[LvsP] at h;obtain⟨v,xs',rfl,_,h⟩:=h;simp[LvsP.len h]
theorem LvsP.at:∀{ls:List Lv}{xs:List PV}{i:Nat}{l:Lv},LvsP ls xs→ls[i]?=some l→∃v,xs[i]?=some v∧LvP l v
 |[],xs,i,l,_,h=>by simp at h
 |x::r,xs,i,l,h,e=>by
  simp only[LvsP] at h;obtain⟨v,xs',rfl,h1,h2⟩:=h;cases i with
  |zero=>simp at e;subst e;exact⟨v,rfl,h1⟩
  |succ i=>simpa using LvsP.at h2 (by simpa using e)
variable{xs:List PV}{a b:List UInt8}{l:Lv}{n:Nat}{x y:Operand}{v:PV}{P:Program}{T:TypeId}
theorem LvP.open(h:LvP l v):∃k n ls b z xs,l=.mk k n ls∧v=.ag [iv k,iv n,.sl b z xs]∧(z=3∨xs=[])∧LvsP ls xs∧xs.length=ls.length∧ls.length≤3518437208780:=by
 obtain⟨k,n,ls⟩:=l;simp only[LvP] at h;obtain⟨b,z,xs,rfl,hz,hxs,hb⟩:=h;exact⟨k,n,ls,b,z,xs,rfl,rfl,hz,hxs,hxs.len,hb⟩
inductive LvC:PV→Prop where
 |mk (k n:Int) (b:Bool) (z:Nat) (xs:List PV):LvC (.ag [iv k,iv n,.sl b z xs])
theorem LvP.c(h:LvP l v):LvC v:=by
 obtain⟨k,n,ls,b,z,xs,-,rfl,-⟩:=h.open;exact⟨k,n,b,z,xs⟩
abbrev sv(l:List UInt8):PV:=.sc (str l)
abbrev svs(l:List (List UInt8)):List PV:=l.map sv
mutual
def TmP:Tm→PV→Prop
 | .mk k n s ls ts,v=>∃b z xs c y ys,v=.ag [iv k,iv n,sv s,.sl b z xs,.sl c y ys]∧(z=3∨xs=[])∧LvsP ls xs∧ls.length≤3518437208780∧(y=5∨ys=[])∧TmsP ts ys∧ts.length≤1759218604441∧s.length≤140737488355328∧i64 n
def TmsP:List Tm→List PV→Prop
 |[],xs=>xs=[]
 |l::r,xs=>∃v xs',xs=v::xs'∧TmP l v∧TmsP r xs'
end
theorem TmsP.len:∀{ls:List Tm}{xs:List PV},TmsP ls xs→xs.length=ls.length
 |[],xs,h=>by simp only[TmsP] at h;simp[h]
 |l::r,xs,h=>by
  simp only[TmsP] at h;obtain⟨v,xs',rfl,_,h⟩:=h;simp[TmsP.len h]
theorem TmsP.at:∀{ls:List Tm}{xs:List PV}{i:Nat}{l:Tm},TmsP ls xs→ls[i]?=some l→∃v,xs[i]?=some v∧TmP l v
 |[],xs,i,l,_,h=>by simp at h
 |x::r,xs,i,l,h,e=>by
  simp only[TmsP] at h;obtain⟨v,xs',rfl,h1,h2⟩:=h;cases i with
  |zero=>simp at e;subst e;exact⟨v,rfl,h1⟩
  |succ i=>simpa using TmsP.at h2 (by simpa using e)
theorem TmP.open{t:Tm}(h:TmP t v):∃k n s ls ts b z xs c y ys,t=.mk k n s ls ts∧v=.ag [iv k,iv n,sv s,.sl b z xs,.sl c y ys]∧(z=3∨xs=[])∧LvsP ls xs∧xs.length=ls.length∧ls.length≤3518437208780∧(y=5∨ys=[])∧TmsP ts ys∧ys.length=ts.length∧ts.length≤1759218604441∧s.length≤140737488355328:=by
 obtain⟨k,n,s,ls,ts⟩:=t;simp only[TmP] at h;obtain⟨b,z,xs,c,y,ys,rfl,hz,hxs,hb,hy,hys,hc,hs,_⟩:=h;exact⟨k,n,s,ls,ts,b,z,xs,c,y,ys,rfl,rfl,hz,hxs,hxs.len,hb,hy,hys,hys.len,hc,hs⟩
inductive TmC:PV→Prop where
 |mk (k n:Int) (s:List UInt8) (b:Bool) (z:Nat) (xs:List PV) (c:Bool) (y:Nat) (ys:List PV):TmC (.ag [iv k,iv n,sv s,.sl b z xs,.sl c y ys])
theorem TmP.c{t:Tm}{v:PV}(h:TmP t v):TmC v:=by
 obtain⟨k,n,s,ls,ts,b,z,xs,c,y,ys,-,rfl,-⟩:=h.open;exact⟨k,n,s,b,z,xs,c,y,ys⟩
theorem TmP.num{k n:Int}{s:List UInt8}{ls:List Lv}{ts:List Tm}(h:TmP (.mk k n s ls ts) v):i64 n:=by
 simp only[TmP] at h;obtain⟨b,z,xs,c,y,ys,rfl,hz,hxs,hb,hy,hys,hc,hs,hn⟩:=h;exact hn
theorem sadd(h:a.length+b.length≤9223372036854775807):slowBin P .add T x y (sv a) (sv b)=some (sv (a++b)):=by
 have:¬(((⟨a.toArray⟩:ByteArray).size+(⟨b.toArray⟩:ByteArray).size:Nat):Int)>IntKind.i64.max:=by
  rw[j1n,j1n];simp[IntKind.max,IntKind.signed,IntKind.bits];omega
 simp only[slowBin,toVal,eqGuard,binOp,Op.stringOp,if_neg this,j9A];rfl
theorem seql:slowBin P .eql T x y (sv a) (sv b)=some (bv (a == b)):=by
 simp only[slowBin,toVal,eqGuard,binOp,Op.stringOp,j5X];rfl
theorem sneq:slowBin P .neq T x y (sv a) (sv b)=some (bv (!(a == b))):=by
 simp only[slowBin,toVal,eqGuard,binOp,Op.stringOp,j5X];rfl
def jeE(op:BinOp)(a b:List UInt8)(K:PV→Prop):Prop:=match op with
 | .add=>VOk (decide (a.length+b.length≤9223372036854775807)) (K (sv (a++b)))
 | .eql=>K (bv (a == b))
 | .neq=>K (bv (!(a == b)))
 |_=>False
theorem j2b{op:BinOp}{K:PV→Prop}(h:jeE op a b K):VRes (slowBin P op T x y (sv a) (sv b)) K:=by
 cases op with
 |add=>exact⟨_,sadd (of_decide_eq_true h.h),h.k⟩
 |eql=>exact⟨_,seql,h⟩
 |neq=>exact⟨_,sneq,h⟩
 |_=>exact h.elim
def j5F(o:SO):Prop:=idsSO o=[]∧∀f,soIn f o=true
theorem j2P:∀{n:Nat}{x:PV},pur n x=true→ids n x=[]∧∀f,inIds f n x=true
 |0,x,h=>by simp[pur] at h
 |n+1,x,h=>by
  have hall:∀{l:List PV},l.all (pur n)=true→l.flatMap (ids n)=[]∧∀f,l.all (inIds f n)=true:=fun{l} hl=>by
   rw[List.all_eq_true] at hl;exact⟨by rw[List.flatMap_eq_nil_iff];exact fun y hy=>(j2P (hl y hy)).1,fun f=>List.all_eq_true.2 fun y hy=>(j2P (hl y hy)).2 f⟩
  cases x with
  |ag cs=>simp only[pur] at h;exact hall h
  |tu cs=>simp only[pur] at h;exact hall h
  |fn f a b=>
   simp only[pur,Bool.and_eq_true] at h;refine⟨by simp only[ids,(hall h.1).1,(hall h.2).1,List.append_nil],fun f=>by simp only[inIds,(hall h.1).2 f,(hall h.2).2 f,Bool.and_self]⟩
  |ifc t x=>
   simp only[pur] at h;show ids n x=[]∧∀f,inIds f n x=true
   exact j2P (n:=n) h
  |_=>first|(simp[pur] at h;done)|exact⟨rfl,fun _=>rfl⟩
theorem jaJ{cs:List PV}(h:cs.all (pur 8)=true):j5F (.box T cs):=by
 rw[List.all_eq_true] at h;exact⟨by simp only[idsSO];rw[List.flatMap_eq_nil_iff];exact fun y hy=>(j2P (h y hy)).1,fun f=>List.all_eq_true.2 fun y hy=>(j2P (h y hy)).2 f⟩
def PlainL:Sto→Prop
 |[]=>True
 |o::r=>j5F o∧PlainL r
theorem PlainL.mem:∀{st:Sto},PlainL st→∀o∈st,j5F o
 |[],_,o,h=>by cases h
 |a::r,h,o,ho=>by
  rcases List.mem_cons.1 ho with rfl|ho
  ·exact h.1
  ·exact PlainL.mem h.2 o ho
theorem j05(l:List (List UInt8)):(svs l).all (pur 8)=true:=by
 rw[List.all_eq_true]
 intro x hx;obtain⟨s,_,rfl⟩:=List.mem_map.1 hx;rfl
theorem j4n(l:List (List UInt8)):(svs l).all (pur 6)=true:=by
 rw[List.all_eq_true]
 intro x hx;obtain⟨s,_,rfl⟩:=List.mem_map.1 hx;rfl
theorem j5L{C:Cfg}{f:FuncId}{b:Bool}{z i:Nat}{st:Sto}{Q:AEnd→Sto→Prop}(hk:C.keep f=false)(hst:st[i]?=some (.row b T z xs))(hn:n=xs.length)(hp:xs.all (pur 6)=true)(k:Q (.ret [.sl false z xs]) []):VRet C f 0 [.ms i n] st Q:=by
 refine⟨[.sl false z xs],[],?_,k⟩;have:(Nat.beq n xs.length&&xs.all (pur 6))=true:=by rw[hp,hn,Nat.beq_refl];rfl
 simp only[aret,hk,pubL,mapS,pubV,pubRow,hst,this];rfl
theorem j0o{m t t' a b by_ w r:Nat}(h:xs.length=n)(ht:Nat.beq t t'=true)(ha:Nat.beq a b=true)(hw:by_=w)(hr:room=r)(h1:m*w≤r)(h2:m≤r):(Nat.beq n xs.length&&Nat.beq t t'&&Nat.beq a b&&fits m by_)=true:=by
 subst h hw hr;rw[ht,ha,Nat.beq_refl,fits,Nat.ble_eq_true_of_le h1,Nat.ble_eq_true_of_le h2];rfl
open Go Go.Am Go.Gw
theorem jbU(k:Int):Pf C1 289 [iv k] [iv (j9g k)]:=by
 refine run_intro Tryz.func289 rfl rfl rfl ?_;repeat'(first|refine gU ?_|apply gE<;>intro h)<;>conv=>whnf
 all_goals simp_all[j9g]
theorem jbJ(l:Lv)(v:PV)(h:LvP l v)(n:Int):Pf C1 237 [v,iv n] [bv (j7n l n)]:=by
 obtain⟨k,nn,ls,b,z,xs,rfl,rfl,hz,hxs,hlen,hbd⟩:=h.open;refine run_intro Tryz.func237 rfl rfl rfl ?_;repeat'(first|refine gU ?_|apply gE<;>intro h|refine finds_pf (jbU _) fun _=>?_|apply gK)<;>conv=>whnf
 all_goals simp_all[j9g,j7n]
 all_goals omega
theorem jcm(l:Lv):∀v,LvP l v→∀n,Pf C1 188 [v,iv n] [bv (allF l n)]:=by
 induction l using Lv.ind with
 |_ k nn ls ih=>
 intro v h n;have hnode:=jbJ _ _ h n;obtain⟨_,_,_,b,z,xs,⟨rfl,rfl,rfl⟩,rfl,hz,hxs,hlen,hbd⟩:=h.open;refine run_intro Tryz.func188 rfl rfl rfl ?_;repeat'(first|refine gU ?_|apply gM<;>intro h|refine gX hnode ?_)<;>conv=>whnf
 ·refine loop_over (G:=Nat) (fun i=>[(14,iv i)]) (fun _=>_) (fun i=>i≤ls.length∧j2f (ls.drop i) n=j2f ls n) (fun i=>ls.length-i) 0 ⟨by omega,rfl⟩ rfl rfl ?_
  rintro i ⟨hi,hall⟩;repeat'(first|refine gU ?_|apply gE<;>intro h)<;>conv=>whnf
  ·have hi':i<ls.length:=by omega
   obtain⟨lc,hlc⟩:∃lc,ls[i]?=some lc:=⟨_,List.getElem?_eq_getElem hi'⟩;obtain⟨v,hv,hl⟩:=hxs.at hlc;have hrec:=ih _ (List.mem_of_getElem? hlc) _ hl n;obtain⟨k1,n1,l1,b1,z1,x1,rfl,rfl,hz1,hxs1,hlen1,hbd1⟩:=hl.open;refine VIdx.mk _ hv (VOk.mk (szOk_of rfl hz) ?_);repeat'(first|refine gU ?_|apply gM<;>intro h|refine gX hrec ?_)<;>conv=>whnf
   ·refine VAgain.mk _ rfl _ (gc_take rfl rfl rfl) ⟨i+1,⟨hi',?_⟩,by omega,rfl⟩
    rw[←hall,drop_at hlc];simp[j2f,h]
   ·rw[drop_at hlc] at hall;simp only[j2f] at hall;have:j2f ls n=false:=by rw[←hall];simp[h]
    simp[allF,this]
  ·have:i=ls.length:=by omega
   subst this;rw[List.drop_length] at hall
   simp_all[allF,j2f]
 ·simp_all[allF]
theorem j9Q(l:Lv):∀v,LvP l v→∀(left:Int),0≤left→left≤1000000→Finds C1 236 [v,.bp 0 0] [.box 3 [iv left]] fun r st=>r=.ret []∧st=[.box 3 [iv (j0y l left)]]:=by
 induction l using Lv.ind with
 |_ k nn ls ih=>
 intro v h left h0 h1;obtain⟨_,_,_,b,z,xs,⟨rfl,rfl,rfl⟩,rfl,hz,hxs,hlen,hbd⟩:=h.open;refine run_intro Tryz.func236 rfl rfl rfl ?_;repeat'(refine gU ?_)<;>conv=>whnf
 refine loop_over (G:=Nat×Int) (fun g=>[(14,iv g.1)]) (fun g=>[.box 3 [iv g.2],_]) (fun g=>g.1≤ls.length∧-1≤g.2∧g.2≤1000000∧j0d (ls.drop g.1) g.2=j0d ls (left-1)) (fun g=>ls.length-g.1) (0,left-1) ⟨by omega,by dsimp only;omega,by dsimp only;omega,rfl⟩ rfl rfl ?_
 rintro⟨i,lf⟩ ⟨hi,hlf0,hlf1,hall⟩;dsimp only at hi hlf0 hlf1 hall⊢;repeat'(first|refine gU ?_|apply gE<;>intro h)<;>conv=>whnf
 ·have hi':i<ls.length:=by omega
  obtain⟨lc,hlc⟩:∃lc,ls[i]?=some lc:=⟨_,List.getElem?_eq_getElem hi'⟩;obtain⟨v,hv,hl⟩:=hxs.at hlc;obtain⟨k1,n1,l1,b1,z1,x1,rfl,rfl,hz1,hxs1,hlen1,hbd1⟩:=hl.open;refine VIdx.mk _ hv (VOk.mk (szOk_of rfl hz) ?_);repeat'(first|refine gU ?_|apply gE<;>intro h)<;>conv=>whnf
  ·have:j0y (.mk k nn ls) left=lf:=by rw[j0y,←hall,j1q _ _ (by omega)]
   exact⟨rfl,by rw[this];rfl⟩
  ·refine vcall_st rfl rfl rfl rfl rfl rfl (Finds.mono (ih _ (List.mem_of_getElem? hlc) _ hl lf (by omega) (by omega)) ?_)
   rintro _ _ ⟨rfl,rfl⟩;refine vback rfl ?_;repeat'(refine gU ?_)<;>conv=>whnf
   have hcg:=j2j (.mk k1 n1 l1) lf (by omega)
   refine VAgain.mk _ rfl _ (gc_take rfl rfl rfl) ⟨(i+1,j0y (.mk k1 n1 l1) lf),⟨hi',by dsimp only;omega,by dsimp only;omega,?_⟩,by dsimp only;omega,rfl⟩
   rw[←hall,drop_at hlc,j0d,if_neg (by omega)]
 ·have:j0y (.mk k nn ls) left=lf:=by
   obtain rfl:i=ls.length:=by omega
   rw[List.drop_length,j0d] at hall;rw[j0y,←hall]
  exact⟨rfl,by rw[this];rfl⟩
theorem jaG(l:Lv)(v:PV)(h:LvP l v):Pf C1 187 [v] [iv (j3x l)]:=by
 have h0:=h;obtain⟨k,nn,ls,b,z,xs,rfl,rfl,hz,hxs,hlen,hbd⟩:=h.open;have hcg:=j2j (.mk k nn ls) 64 (by omega)
 refine run_intro Tryz.func187 rfl rfl rfl ?_;repeat'(refine gU ?_)<;>conv=>whnf
 refine vcall_st rfl rfl rfl rfl rfl rfl (Finds.mono (j9Q _ _ h0 64 (by omega) (by omega)) ?_)
 rintro _ _ ⟨rfl,rfl⟩;refine vback rfl ?_;repeat'(refine gU ?_)<;>conv=>whnf
 all_goals simp only[j3x,j8g]
 all_goals simp_all
 all_goals omega
theorem jaN(l:Lv)(v:PV)(h:LvP l v)(n:Int):Pf C1 132 [v,iv n] [bv (j2e l n)]:=by
 have hn:=jaG l v h;have ha:=jcm l v h n;obtain⟨k,nn,ls,b,z,xs,rfl,rfl,hz,hxs,hlen,hbd⟩:=h.open;refine run_intro Tryz.func132 rfl rfl rfl ?_;repeat'(first|refine gU ?_|apply gE<;>intro h|refine gX hn ?_|refine gX ha ?_)<;>conv=>whnf
 all_goals simp_all[j2e,retV]
 all_goals omega
theorem j6v(a b:Int):(if b<a then b else a)=min a b:=by
 by_cases h:b<a
 ·rw[if_pos h];omega
 ·rw[if_neg h];omega
theorem j4i(l:Lv):1≤j0Z l:=by cases l;simp[j0Z]
end Go.Proofs.YtnfbeplfnblgjaaGreatDoor
