/- What an operation of the plain machine leaves as it is: all but what it is handed, and what that leads to. Plain lemmas, no statement of the seat. -/
import Derived.Test.YtbnodhcijeaceaaGreatDoorXAw
set_option linter.all false
namespace Go.Am
open Go Go.Hb
def j5s(S:Nat→Bool)(x:PV):Prop:=∀k,∀j∈ids k x,S j=true
def LeadL(S:Nat→Bool)(l:List PV):Prop:=∀x∈l,j5s S x
def LeadO(S:Nat→Bool):SO→Prop
 | .box _ cs | .frz cs=>LeadL S cs
 | .row _ _ _ xs=>LeadL S xs
 | .dead=>True
 | .lp ρ _ _ _ _=>∀p∈ρ,j5s S p.2
 | .mp _ vs=>LeadL S vs
 | .ch _ q=>LeadL S q
def LeadS(S:Nat→Bool)(st:Sto):Prop:=∀(i:Nat) o,S i=true→st[i]?=some o→LeadO S o
structure Off (S:Nat→Bool) (st st':Sto):Prop where
 len:st.length≤st'.length
 at_:∀i,i<st.length→S i=false→st'[i]?=st[i]?
section
variable{S:Nat→Bool}{st st' st'':Sto}{C:Cfg}
def Off.refl(S:Nat→Bool)(st:Sto):Off S st st:=⟨AU _,fun _ _ _=>rfl⟩
def Off.trans(h:Off S st st')(k:Off S st' st''):Off S st st'':=⟨BL h.len k.len,fun i hi hs=>(k.at_ i (EM hi h.len) hs).trans (h.at_ i hi hs)⟩
variable{r:AEnd}{e:Ev}{f:FuncId}{π:List Nat}{args cs l:List PV}{i:Nat}{x:PV}{o:SO}
def Off.set(h:S i=true):Off S st (st.set i o):=⟨by simp,fun j _ hj=>CJ (fun e=>by grind)⟩
def Off.push{l:Sto}:Off S st (st++l):=⟨by simp,fun j hj _=>AW hj⟩
def LeadL.flat{k:Nat}(h:LeadL S l):∀j∈l.flatMap (ids k),S j=true:=fun j hj=>by
 obtain⟨x,hx,hj⟩:=CR.1 hj;exact h x hx k j hj
def jin:j5s S (.ag cs)↔LeadL S cs:=⟨fun h x hx k j hj=>h (k+1) j (CR.2 ⟨x,hx,hj⟩),fun h k j hj=>by
 cases k with
 |zero=>simp[ids] at hj
 |succ k=>exact h.flat (k:=k) j hj⟩
def jio:j5s S (.tu cs)↔LeadL S cs:=⟨fun h x hx k j hj=>h (k+1) j (CR.2 ⟨x,hx,hj⟩),fun h k j hj=>by
 cases k with
 |zero=>simp[ids] at hj
 |succ k=>exact h.flat (k:=k) j hj⟩
def joA(h:LeadL S cs):j5s S (.ci cs):=fun k j hj=>by
 cases k with
 |zero=>simp[ids] at hj
 |succ k=>exact h.flat (k:=k) j hj
def jeJ{a b:List PV}:j5s S (.fn f a b)↔LeadL S a∧LeadL S b:=⟨fun h=>⟨fun x hx k j hj=>h (k+1) j (BJ.2 (.inl (CR.2 ⟨x,hx,hj⟩))),fun x hx k j hj=>h (k+1) j (BJ.2 (.inr (CR.2 ⟨x,hx,hj⟩)))⟩,fun⟨h1,h2⟩ k j hj=>by
 cases k with
 |zero=>simp[ids] at hj
 |succ k=>
  rcases BJ.1 hj with hj|hj
  ·exact h1.flat (k:=k) j hj
  ·exact h2.flat (k:=k) j hj⟩
def jeK{t:TypeId}:j5s S (.ifc t x)↔j5s S x:=⟨fun h k j hj=>h (k+1) j hj,fun h k j hj=>by
 cases k with
 |zero=>simp[ids] at hj
 |succ k=>exact h k j hj⟩
def j5a(h:∀k,ids k x=[]):j5s S x:=fun k j hj=>by grind
def joB(h:j5s S x)(hi:ids 1 x=[i]):S i=true:=h 1 i (by rw[hi];simp)
def j7r:∀{n:Nat}{x:PV},j0e S n x=true→j5s S x
 |0,x,h=>by simp[j0e] at h
 |n+1,x,h=>by
  have qA:∀{l:List PV},l.all (j0e S n)=true→LeadL S l:=fun hl x hx=>j7r (AF.1 hl x hx)
  have hA:∀{x:PV}{i:Nat},S i=true→(∀k,ids k x=[]∨ids k x=[i])→j5s S x:=fun hi he k j hj=>by
   grind
  cases x with
  |ag cs=>exact jin.2 (qA h)
  |tu cs=>exact jio.2 (qA h)
  |ci cs=>exact joA (qA h)
  |fn g a b=>
   simp only[j0e,AB] at h;exact jeJ.2 ⟨qA h.1,qA h.2⟩
  |ifc t x=>exact jeK.2 (j7r (n:=n) h)
  |ms id len=>exact hA h fun k=>by cases k<;>simp[ids]
  |bp id off=>exact hA h fun k=>by cases k<;>simp[ids]
  |yl id=>exact hA h fun k=>by cases k<;>simp[ids]
  |mr id=>exact hA h fun k=>by cases k<;>simp[ids]
  |cr id=>exact hA h fun k=>by cases k<;>simp[ids]
  |rp id len i off=>exact hA h fun k=>by cases k<;>simp[ids]
  |sc v=>exact j5a fun k=>by cases k<;>rfl
  |sl b z xs=>exact j5a fun k=>by cases k<;>rfl
  |cp cs=>exact j5a fun k=>by cases k<;>rfl
  |un=>exact j5a fun k=>by cases k<;>rfl
def j3g{n:Nat}(h:l.all (j0e S n)=true):LeadL S l:=fun x hx=>j7r (AF.1 h x hx)
def jpu(h:soIn S o=true):LeadO S o:=by
 cases o with
 |box T cs=>exact j3g h
 |frz cs=>exact j3g h
 |row p e z xs=>exact j3g h
 |dead=>trivial
 |lp ρ ps a b s=>exact fun p hp=>j7r (AF.1 h p hp)
 |mp ks vs=>exact j3g h
 |ch c q=>exact j3g h
def LeadS.set(h:LeadS S st)(ho:LeadO S o):LeadS S (st.set i o):=fun j q hj hq=>by
 rcases Nat.decEq i j with hA|hA
 ·rw[CJ hA] at hq;exact h j q hj hq
 grind
def jm1{id len:Nat}{y:PV}{st':Sto}(h:pubRow id len st=(y,st'))(hid:S id=true)(hs:LeadS S st):Off S st st'∧LeadS S st'∧j5s S y:=by
 have hm:j5s S (.ms id len):=fun k j hj=>by
  cases k with
  |zero=>simp[ids] at hj
  |succ k=>simp_all[ids,BD]
 unfold pubRow at h;split at h
 ·rename_i p e sz xs ho;split at h
  ·cases h;exact⟨Off.set hid,hs.set (show LeadL S xs from hs id _ hid ho),j5a fun k=>by cases k<;>rfl⟩
  ·cases h;exact⟨Off.refl _ _,hs,hm⟩
 ·cases h;exact⟨Off.refl _ _,hs,hm⟩
def jeP{f:PV→Sto→Option (PV×Sto)}(hf:∀{x y:PV}{st st':Sto},f x st=some (y,st')→j5s S x→LeadS S st→Off S st st'∧LeadS S st'∧j5s S y):∀{xs ys:List PV}{st st':Sto},mapS f xs st=some (ys,st')→LeadL S xs→LeadS S st→Off S st st'∧LeadS S st'∧LeadL S ys
 |[],ys,st,st',h,_,hs=>by
  simp only[mapS,AD,BB] at h;obtain⟨rfl,rfl⟩:=h;exact⟨Off.refl _ _,hs,fun x hx=>by cases hx⟩
 |x::xs,ys,st,st',h,hx,hs=>by
  simp only[mapS] at h;split at h
  ·rename_i y st1 hy;split at h
   ·rename_i l st2 hl;cases h;obtain⟨h1,h2,h3⟩:=hf hy (hx x BG) hs;obtain⟨h4,h5,h6⟩:=jeP hf hl (fun z hz=>hx z (BE _ hz)) h2
    exact⟨h1.trans h4,h5,fun z hz=>by
     rcases AN.1 hz with rfl|hz
     ·exact h3
     ·exact h6 z hz⟩
   ·cases h
  ·cases h
def jgt(h:LeadL S cs):j5s S (frzV cs):=by
 unfold frzV;split
 ·exact j5a fun k=>by cases k<;>rfl
 ·exact joA h
def jf5:∀{C:Cfg}{n:Nat}{x y:PV}{st st':Sto},pubV C n x st=some (y,st')→j5s S x→LeadS S st→Off S st st'∧LeadS S st'∧j5s S y
 |_,0,_,_,_,_,h,_,_=>by simp[pubV] at h
 |C,n+1,x,y,st,st',h,hx,hs=>by
  have hl:=fun{C xs ys st st'}=>jeP (S:=S) (f:=pubV C n) (fun h hx hs=>jf5 h hx hs) (xs:=xs) (ys:=ys) (st:=st) (st':=st')
  simp only[pubV] at h;split at h
  ·rename_i id len;simp only[AD] at h;exact jm1 h (joB hx rfl) hs
  ·rename_i id;have hid:S id=true:=joB hx rfl;split at h
   ·rename_i T cs ho;split at h
    ·split at h
     ·rename_i cs' st1 hm;obtain⟨h1,h2,h3⟩:=hl hm (hs id _ hid ho) hs;split at h
      ·cases h;exact⟨h1.trans (Off.set hid),h2.set h3,jgt h3⟩
      ·cases h
     ·cases h
    ·cases h;exact⟨Off.refl _ _,hs,hx⟩
   ·rename_i cs ho;cases h;exact⟨Off.refl _ _,hs,jgt (hs id _ hid ho)⟩
   ·cases h;exact⟨Off.refl _ _,hs,hx⟩
  ·split at h
   ·rename_i hm;cases h;obtain⟨h1,h2,h3⟩:=hl hm (jin.1 hx) hs;exact⟨h1,h2,jin.2 h3⟩
   ·cases h
  ·split at h
   ·rename_i hm;cases h;obtain⟨h1,h2,h3⟩:=hl hm (jio.1 hx) hs;exact⟨h1,h2,jio.2 h3⟩
   ·cases h
  ·split at h
   ·rename_i hm;split at h
    ·rename_i hA;cases h;obtain⟨h1,h2,h3⟩:=hl hm (jeJ.1 hx).1 hs;obtain⟨h4,h5,h6⟩:=hl hA (jeJ.1 hx).2 h2;exact⟨h1.trans h4,h5,jeJ.2 ⟨h3,h6⟩⟩
    ·cases h
   ·cases h
  ·split at h
   ·rename_i hm;cases h;obtain⟨h1,h2,h3⟩:=jf5 hm (jeK.1 hx) hs;exact⟨h1,h2,jeK.2 h3⟩
   ·cases h
  ·cases h;exact⟨Off.refl _ _,hs,hx⟩
theorem LeadO.ids(h:LeadO S o):∀j∈j8J o,S j=true:=by
 cases o with
 |box T cs=>exact LeadL.flat (k:=8) h
 |frz cs=>exact LeadL.flat (k:=8) h
 |row p e z xs=>exact LeadL.flat (k:=8) h
 |dead=>simp_all[j8J]
 |lp ρ ps a b s=>
  intro j hj;obtain⟨p,hp,hj⟩:=CR.1 hj;exact h p hp 8 j hj
 |mp ks vs=>exact LeadL.flat (k:=8) h
 |ch c q=>exact LeadL.flat (k:=8) h
def j9v(hs:LeadS S st):∀{n:Nat}{work acc:List Nat},(∀i∈work,S i=true)→(∀i∈acc,S i=true)→∀i∈close st n work acc,S i=true
 |0,_,_,_,ha=>ha
 |n+1,[],_,_,ha=>ha
 |n+1,w::r,acc,hw,ha=>by
  simp only[close];split
  ·exact j9v hs (fun i hi=>hw i (BE _ hi)) ha
  ·refine j9v hs (fun i hi=>?_) (fun i hi=>?_)
   ·rcases BJ.1 hi with h|h
    ·grind
    ·split at h
     ·rename_i o ho;exact(hs w o (hw w BG) ho).ids i h
     ·simp at h
   grind
def jdG{g:Nat→Nat}:∀{π:List Nat}{os st:Sto},(∀i∈π,S i=true)→Off S st (j2s g π os st)
 |[],os,st,_=>by unfold j2s;exact Off.refl _ _
 |i::π,[],st,_=>by unfold j2s;exact Off.refl _ _
 |i::π,o::os,st,h=>by
  simp only[j2s];exact(Off.set (h i BG)).trans (jdG fun j hj=>h j (BE _ hj))
def jac{st st1 st':Sto}{r':AEnd}(h:j2x π st r st1=some (r',st'))(hπ:∀i∈π,S i=true):Off S st st':=by
 unfold j2x at h;split at h
 ·cases h;exact(jdG hπ).trans Off.push
 ·cases h
def jkL{call:List PV→Sto→Option (AEnd×Sto)}{st st':Sto}(h:j4M call args π st=some (r,st'))(hπ:∀i∈π,S i=true):Off S st st':=by
 unfold j4M at h;split at h
 ·split at h
  ·exact jac h hπ
  ·cases h
 ·cases h
def jkM{st st':Sto}(h:j2K C e f args st=some (r,st'))(ha:LeadL S args)(hs:LeadS S st):Off S st st':=by
 unfold j2K at h;split at h
 ·cases h
 ·rename_i args1 st1 hh;obtain⟨h1,h2,h3⟩:Off S st st1∧LeadS S st1∧LeadL S args1:=by
   split at hh
   ·cases hh;exact⟨Off.refl _ _,hs,ha⟩
   ·exact jeP (fun h hx hs=>jf5 h hx hs) hh ha hs
  split at h
  ·split at h
   ·split at h
    ·grind
    ·exact h1.trans (jac h fun i hi=>by cases hi)
   ·cases h
  ·exact h1.trans (jkL h fun i hi=>j9v (acc:=[]) h2 h3.flat (fun i hi=>absurd hi FE) i (List.mem_reverse.1 hi))
def jmq{st st':Sto}(h:j2K C e f args st=some (r,st'))(hi:i<st.length)(ht:(jpC st args).elem i=false):st'[i]?=st[i]?:=by
 unfold jpC at ht;simp only at ht;generalize close st 64 (args.flatMap (ids 8)) []=T at ht;split at ht
 ·rename_i hb;rw[AB] at hb;refine(jkM (S:=fun j=>T.elem j) h (j3g hb.2) (fun j o hj ho=>?_)).at_ i hi ht
  have:=AF.1 hb.1 j (by simpa using hj)
  simp only[ho] at this;exact jpu this
 grind
def jdA{P:Program}{T:TypeId}{k v:PV}{st st':Sto}(h:jgI P st T x k v=some st')(hA:∀id,x=.mr id→id≠i):st'[i]?=st[i]?:=by
 unfold jgI at h
 grind
def jhi{ρ:AEnv}{op:Op}{st:Sto}{r:AR}(h:aS C e ρ st op=some r)(hi:i<st.length)(ht:(touch ρ st op).elem i=false):(match r with
  | .val _ st'=>st'[i]?=st[i]?
  | .unit st'=>st'[i]?=st[i]?
  | .pan _ _=>True):=by
 have hv:∀{x:Operand}{v:PV}{id:Nat},(jas ρ x).elem i=false→aval ρ x=some v→ids 1 v=[id]→id≠i:=fun h1 h2 h3 e'=>by
  simp_all[jas]
 have qA:∀{l:Sto},(st++l)[i]?=st[i]?:=AW hi;cases op with
 |box T x=>
  grind [aS,sBox]
 |alloc T=>
  grind [aS,jh7]
 |store T x y=>
  simp only[aS,jc9] at h;split at h
  ·rename_i k p v h1 h2 h3;split at h
   ·obtain⟨st',h4,rfl⟩:=BQ.1 h;unfold jdQ at h4;split at h4
    ·rename_i id off;split at h4
     ·split at h4
      ·cases h4;exact CJ (hv ht h2 rfl)
      ·cases h4
     ·cases h4
    ·rename_i id len j off;split at h4
     ·split at h4
      ·split at h4
       ·cases h4;exact CJ (hv ht h2 rfl)
       ·cases h4
      ·cases h4
     ·cases h4
    ·cases h4
   ·cases h
  ·cases h
 |buildSlice T len parts=>
  simp only[aS,j2C] at h;repeat' split at h
  all_goals first|(cases h;done)|(cases h;grind)
 |slice T x lo hB mx=>
  simp only[aS,jh8] at h;split at h
  ·rename_i id len hx;have gA:id≠i:=hv ht hx rfl;split at h
   ·rename_i full sz xs st1 hp;split at h
    ·obtain⟨v,_,rfl⟩:=BQ.1 h
     grind [pubRow]
    ·cases h
   ·cases h
  ·cases h
 |panic x=>
  grind [aS,jkn]
 |convert s d x=>
  grind [aS,jpl]
 |makeMap T hh=>
  simp only[aS,jaT] at h
  grind
 |makeChan T x=>
  grind [aS,j8Y]
 |makeSlice T x y=>
  simp only[aS,j7w] at h;repeat' split at h
  all_goals first|(cases h;done)|(cases h;exact qA)
 |mapUpdate T x k y=>
  simp only[aS,j9Z] at h;split at h
  ·rename_i u1 u2 u3 h1 h2 h3;obtain⟨st',h4,rfl⟩:=BQ.1 h;exact jdA h4 (fun id e=>hv ht h1 (by rw[e];rfl))
  ·cases h
 |insert T x k y=>
  simp only[aS,j9Z] at h;split at h
  ·rename_i u1 u2 u3 h1 h2 h3;obtain⟨st',h4,rfl⟩:=BQ.1 h;exact jdA h4 (fun id e=>hv ht h1 (by rw[e];rfl))
  ·cases h
 |call c=>
  obtain⟨callee,xs,ts⟩:=c;cases callee with
  |value g=>
   simp only[aS,j6U] at h;split at h
   ·rename_i f a b vs hg hA;split at h
    ·simp only[touch,hg,hA] at ht;split at h
     ·rename_i rs st1 hc;cases h;exact jmq hc hi ht
     ·grind
     ·cases h
    ·cases h
   ·cases h
  |invoke r m=>simp[aS] at h
  |builtin b=>
   cases b with
   |append=>
    simp only[aS,j9Y] at h;split at h
    ·rename_i x y T U hA _;split at h
     ·split at h
      ·rename_i a b by_ ha _ _;split at h
       ·split at h
        ·unfold jba at h;split at h
         ·rename_i id len;simp only[touch,hA] at ht;have gA:id≠i:=hv ht ha rfl
          grind
         ·grind
         ·cases h
        ·cases h
       ·cases h
      ·cases h
     ·rename_i t sz qB wA;split at h
      ·rename_i a b by_ ha _ _;unfold j6t at h;split at h
       ·rename_i id len s _ _;simp only[touch,hA] at ht;have gA:id≠i:=hv ht ha rfl
        grind
       ·cases h
      ·cases h
     ·cases h
    ·cases h
   |unsafeString=>
    simp only[aS] at h;split at h
    ·rename_i x n T U hA _;simp only[touch,hA] at ht;unfold j5q at h;split at h
     ·rename_i id len mm hx _;have gA:id≠i:=hv ht hx rfl
      grind
     ·cases h
    ·cases h
   |_=>simp[aS] at h
 |_=>simp[aS] at h
end
