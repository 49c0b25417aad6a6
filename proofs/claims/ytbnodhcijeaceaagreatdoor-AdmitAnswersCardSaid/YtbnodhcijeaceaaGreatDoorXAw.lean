/- What is handed over, and calls, in the plain machine: the model does the same. Plain lemmas, no statement of the seat. -/
import Derived.Test.YtbnodhcijeaceaaGreatDoorXAu
import Derived.OrdersIn
import Derived.RangeFuncRecord
set_option linter.all false
namespace Go.Am
open Go Go.Hb
open Go.Gw (tk tf tz tsl tar tpl isAggD)
section
variable{P:Program}{E:Entry}{m:Mem}{φ:Ph}{μ:Own}{st:Sto}{ρ:AEnv}{a:Act}{w:World}{dst:Option Nat}{ty:TypeId}{pos:String}{after:Array Edge}{gd:Option (Nat×Bool)}{C:Cfg}
def jgs(cs:List PV):cell (frzV cs)=true:=by unfold frzV;split<;>rfl
def jgV:∀{n:Nat}{x y:PV}{st st':Sto},pubV C n x st=some (y,st')→cell x=true→cell y=true
 |0,_,_,_,_,h,_=>by simp[pubV] at h
 |n+1,x,y,st,st',h,hc=>by
  simp only[pubV] at h;split at h
  ·rename_i id len;simp only[AD] at h;unfold pubRow at h;split at h
   ·split at h
    ·cases h;rfl
    ·cases h;rfl
   ·cases h;rfl
  ·rename_i id;split at h
   ·split at h
    ·split at h
     ·split at h
      ·cases h;exact jgs _
      ·cases h
     ·cases h
    ·cases h;exact hc
   ·cases h;exact jgs _
   ·cases h;exact hc
  ·simp[cell] at hc
  ·simp[cell] at hc
  ·split at h
   ·split at h
    ·cases h;rfl
    ·cases h
   ·cases h
  ·split at h
   ·cases h;rfl
   ·cases h
  ·cases h;exact hc
def jiu{f:PV→Sto→Option (PV×Sto)}(hf:∀{x y:PV}{st st':Sto}{m:Mem}{μ:Own}{v:Value},f x st=some (y,st')→Sit E m φ μ st w→R m φ x v→∃m' μ',Mem.le m m'∧Ext st st' φ φ∧Sit E m' φ μ' st' w∧R m' φ y v):
  ∀{xs ys:List PV}{st st':Sto}{m:Mem}{μ:Own}{vs:List Value},mapS f xs st=some (ys,st')→Sit E m φ μ st w→Rl m φ xs vs→∃m' μ',Mem.le m m'∧Ext st st' φ φ∧Sit E m' φ μ' st' w∧Rl m' φ ys vs
 |[],ys,st,st',m,μ,vs,h,hs,hr=>by
  simp only[mapS,AD,BB] at h;obtain⟨rfl,rfl⟩:=h;exact⟨m,μ,Mem.le.refl m,Ext.refl _ _,hs,hr⟩
 |x::xs,ys,st,st',m,μ,vs,h,hs,hr=>by
  obtain⟨v,vs',rfl,h1,h2⟩:=hr.uncons;simp only[mapS] at h;split at h
  ·rename_i y st1 hy;split at h
   ·rename_i l st2 hl;cases h;obtain⟨m1,μ1,e1,e2,e3,e4⟩:=hf hy hs h1;obtain⟨m2,μ2,e5,e6,e7,e8⟩:=jiu hf hl e3 (h2.mono e1 (Le.refl φ));exact⟨m2,μ2,e1.trans e5,e2.trans e6,e7,.cons (e4.mono e5 (Le.refl φ)) e8⟩
   ·cases h
  ·cases h
def jeO{f:PV→Sto→Option (PV×Sto)}{p:PV→Bool}(hf:∀{x y:PV}{st st':Sto},f x st=some (y,st')→p x=true→p y=true):∀{xs ys:List PV}{st st':Sto},mapS f xs st=some (ys,st')→xs.all p=true→ys.all p=true
 |[],ys,st,st',h,_=>by
  simp only[mapS,AD,BB] at h;obtain⟨rfl,rfl⟩:=h;rfl
 |x::xs,ys,st,st',h,hp=>by
  simp only[mapS] at h;simp only[BH,AB] at hp;split at h
  ·rename_i y st1 hy;split at h
   ·rename_i l st2 hl;cases h;simp only[BH,AB];exact⟨hf hy hp.1,jeO hf hl hp.2⟩
   ·cases h
  ·cases h
variable{r:AEnd}{π:List Nat}{args xs:List PV}{call:List PV→Sto→Option (AEnd×Sto)}{vs:List Value}{D:List Value→World→(Ending→World→Prop)→Prop}{i n:Nat}{f:Nat→Bool}{g:Nat→Nat}{φ2:Ph}{st':Sto}
def js0{cs:List PV}{b:Nat}(hr:Rl m φ cs vs)(hA:RdN m b 0 vs)(hc:cs.all cell=true):R m φ (frzV cs) (.pointer (some ⟨b,0,none⟩)):=by
 unfold frzV;split
 ·rename_i hp;exact .cp hr.1 hA hc (hr.pure hp).2
 ·exact .ci hr.1 hA hc hr.2
def jf6:∀{C:Cfg}{n:Nat}{x y:PV}{st st':Sto}{m:Mem}{μ:Own}{v:Value},pubV C n x st=some (y,st')→Sit E m φ μ st w→R m φ x v→∃m' μ',Mem.le m m'∧Ext st st' φ φ∧Sit E m' φ μ' st' w∧R m' φ y v
 |_,0,_,_,_,_,_,_,_,h,_,_=>by simp[pubV] at h
 |C,n+1,x,y,st,st',m,μ,v,h,hs,hr=>by
  have same:(x,st)=(y,st')→∃m' μ',Mem.le m m'∧Ext st st' φ φ∧Sit E m' φ μ' st' w∧R m' φ y v:=fun e=>by
   cases e;exact⟨m,μ,Mem.le.refl m,Ext.refl _ _,hs,hr⟩
  have hl:=fun{C xs ys st st' m μ vs}=>jiu (E:=E) (w:=w) (φ:=φ) (f:=pubV C n) (fun h hs hr=>jf6 h hs hr) (xs:=xs) (ys:=ys) (st:=st) (st':=st') (m:=m) (μ:=μ) (vs:=vs)
  simp only[pubV] at h;split at h
  ·simp only[AD] at h;exact jgU hs h hr
  ·rename_i id;cases hr with
   | @bp _ _ _ b hφ=>
    split at h
    ·rename_i T cs ho;split at h
     ·split at h
      ·rename_i cs' st1 hm;split at h
       ·rename_i T2 cs2 hC;cases h;obtain⟨μ1,rs,μ2,h1,h2,_⟩:=hs.sto.get ho;obtain⟨b',vs,h3,h4,h5,h6⟩:=h2;rw[AP,hφ] at h3;cases h3;have gD:w.heap[b]?=some (.cells vs.toArray T (0,0)):=hs.good.own (r:=bx b T vs) (by rw[h1,h4];simp)
        obtain⟨m1,μ',e1,e2,e3,e4⟩:=hl hm hs h5;have hA:=jeO (fun h hc=>jgV h hc) hm h6
        obtain⟨ν1,rs2,ν2,g1,g2,g3⟩:=e3.sto.get hC;obtain⟨b2,us,g4,g5,g6,g7⟩:=g2;rw[AP,hφ] at g4;cases g4;subst g5;have wA:w.heap[b]?=some (.cells us.toArray T2 (0,0)):=e3.good.own (r:=bx b T2 us) (by rw[g1];simp)
        obtain rfl:vs=us:=by
         rw[gD] at wA;simp only[AD,Obj.cells.injEq] at wA;simpa using wA.1
        have hg:Hb.Good E w m1 (bx b T2 vs::(ν1++ν2)):=e3.good.perm (by rw[g1];simp)
        obtain⟨qD,qA⟩:=hg.tell (b:=b) (cs:=vs) rfl (fun o u qC=>⟨vs.toArray,T2,(0,0),wA,by simpa using qC⟩) (μ':=ν1++ν2) (fun s wB=>.inl wB) (CA.1 hg.apart).2
        have gB:RdN (m1.add b vs) b 0 vs:=fun j u hu=>by rw[AP];exact Mem.add_get hu
        have qB:=e4.mono qA (Le.refl φ);refine⟨_,ν1++ν2,e1.trans qA,⟨e2.le,by rw[EZ];exact e2.len,fun j hj=>?_⟩,⟨qD,?_,fun j hj=>e3.dom j (by simpa using hj)⟩,js0 qB gB hA⟩
        ·have gC:j≠id:=fun e=>by subst e;rw[ho] at hj;cases hj
         rw[CJ (Ne.symm gC)];exact e2.dead j hj
        ·have:=g3 (o':=.frz cs') (rs':=[]) qA (Le.refl φ) (fun _ _=>rfl) ⟨rfl,b,vs,by rw[AP];exact hφ,gB,qB,hA⟩
         simpa using this
       ·cases h
      ·cases h
     ·exact same (BP h)
    ·rename_i cs ho;cases h;obtain⟨μ1,rs,μ2,h1,h2,_⟩:=hs.sto.get ho;obtain⟨_,b',vs,h3,h4,h5,h6⟩:=h2;rw[AP,hφ] at h3;cases h3;exact⟨m,μ,Mem.le.refl m,Ext.refl _ _,hs,js0 h5 h4 h6⟩
    ·exact same (BP h)
  ·rename_i cs;split at h
   ·rename_i cs' st1 hm;cases h;cases hr with
    |ag gA hc hi=>
     obtain⟨m1,μ',e1,e2,e3,e4⟩:=hl hm hs ⟨gA,hi⟩;exact⟨m1,μ',e1,e2,e3,.ag e4.1 (jeO (fun h hc=>jgV h hc) hm hc) e4.2⟩
   ·cases h
  ·rename_i cs;split at h
   ·rename_i cs' st1 hm;cases h;cases hr with
    |tu gA hi=>
     obtain⟨m1,μ',e1,e2,e3,e4⟩:=hl hm hs ⟨gA,hi⟩;exact⟨m1,μ',e1,e2,e3,.tu e4.1 e4.2⟩
   ·cases h
  ·rename_i f as bs;split at h
   ·rename_i as' st1 hm;split at h
    ·rename_i bs' st2 wC;cases h;cases hr with
     |fn gA hB hi hD=>
      obtain⟨m1,μ',e1,e2,e3,e4⟩:=hl hm hs ⟨gA,hi⟩;obtain⟨m2,μ'',e5,e6,e7,e8⟩:=hl wC e3 (Rl.mono e1 (Le.refl φ) ⟨hB,hD⟩);have e4':=e4.mono e5 (Le.refl φ);exact⟨m2,μ'',e1.trans e5,e2.trans e6,e7,.fn e4'.1 e8.1 e4'.2 e8.2⟩
    ·cases h
   ·cases h
  ·rename_i t x';split at h
   ·rename_i y' st1 hm;cases h;cases hr with
    |ifc hi=>
     obtain⟨m1,μ',e1,e2,e3,e4⟩:=jf6 hm hs hi;exact⟨m1,μ',e1,e2,e3,.ifc e4⟩
   ·cases h
  ·exact same (BP h)
def jiB{ys:List PV}{st:Sto}{m:Mem}{μ:Own}(h:pubL C xs st=some (ys,st'))(hs:Sit E m φ μ st w)(hr:Rl m φ xs vs):∃m' μ',Mem.le m m'∧Ext st st' φ φ∧Sit E m' φ μ' st' w∧Rl m' φ ys vs:=
 jiu (fun h hs hr=>jf6 h hs hr) h hs hr
def jdI:∀{n:Nat}{x:PV},cell (j1p g n x)=cell x
 |0,x=>rfl
 |n+1,x=>by cases x<;>rfl
def R.ren{m:Mem}{f:Nat→Bool}{g:Nat→Nat}{φ φ2:Ph}(hφ:∀i,f i=true→φ2 (g i)=φ i):∀{n:Nat}{x:PV}{v:Value},j0e f n x=true→R m φ x v→R m φ2 (j1p g n x) v
 |0,x,v,h,_=>by simp[j0e] at h
 |n+1,x,v,h,hr=>by
  have hA:∀{l:List PV}{ws:List Value},l.all (j0e f n)=true→(∀(i:Nat) c v,l[i]?=some c→ws[i]?=some v→R m φ c v)→∀(i:Nat) c v,(l.map (j1p g n))[i]?=some c→ws[i]?=some v→R m φ2 c v:=fun hl hi i c v h1 h2=>by
   rw[BA] at h1;cases hc:(_:List PV)[i]? with
   |none=>rw[hc] at h1;simp at h1
   |some c0=>
    rw[hc] at h1;simp only[AY,AD] at h1;subst h1;exact R.ren hφ (AF.1 hl c0 (AE hc)) (hi i c0 v hc h2)
  have qA:∀{l:List PV},l.all cell=true→(l.map (j1p g n)).all cell=true:=fun hl=>AF.2 fun y hy=>by
   obtain⟨z,hz,rfl⟩:=DC.1 hy;rw[jdI];exact AF.1 hl z hz
  cases hr with
  |sc h1=>exact .sc h1
  |ag hl hc hi=>simp only[j0e] at h;exact .ag (by simpa using hl) (qA hc) (hA h hi)
  |tu hl hi=>simp only[j0e] at h;exact .tu (by simpa using hl) (hA h hi)
  |sl b off g ha wB qB gA gC hr hB=>exact .sl b off g ha wB qB gA gC hr hB
  |ms hp gB hv hs=>simp only[j0e] at h;exact .ms ((hφ _ h).trans hp) gB hv hs
  |bp hp=>simp only[j0e] at h;exact .bp ((hφ _ h).trans hp)
  |rp hp gB hv hs=>simp only[j0e] at h;exact .rp ((hφ _ h).trans hp) gB hv hs
  |cp hl wA hc hi=>exact .cp hl wA hc hi
  |ci hl wA hc hi=>simp only[j0e] at h;exact .ci (by simpa using hl) wA (qA hc) (hA h hi)
  |fn hl hC hi qC=>simp only[j0e,AB] at h;exact .fn (by simpa using hl) (by simpa using hC) (hA h.1 hi) (hA h.2 qC)
  |ifc hi=>simp only[j0e] at h;exact .ifc (R.ren hφ h hi)
  |yl hp=>simp only[j0e] at h;exact .yl ((hφ _ h).trans hp)
  |mr hp=>simp only[j0e] at h;exact .mr ((hφ _ h).trans hp)
  |cr hp=>simp only[j0e] at h;exact .cr ((hφ _ h).trans hp)
  |un h=>exact .un h
def Rl.ren{m:Mem}{φ:Ph}(hφ:∀i,f i=true→φ2 (g i)=φ i)(h:xs.all (j0e f n)=true)(hr:Rl m φ xs vs):Rl m φ2 (xs.map (j1p g n)) vs:=by
 refine⟨by simpa using hr.1,fun i c v h1 h2=>?_⟩
 rw[BA] at h1;cases hc:xs[i]? with
 |none=>rw[hc] at h1;simp at h1
 |some c0=>
  rw[hc] at h1;simp only[AY,AD] at h1;subst h1;exact R.ren hφ (AF.1 h c0 (AE hc)) (hr.2 i c0 v hc h2)
def j6s{l:List PV}(hl:l.all cell=true):(l.map (j1p g n)).all cell=true:=AF.2 fun y hy=>by
 obtain⟨z,hz,rfl⟩:=DC.1 hy;rw[jdI];exact AF.1 hl z hz
def jjg{h:PV→PV}{t:Nat}:∀{ρ:AEnv},aget (ρ.map fun p=>(p.1,h p.2)) t=(aget ρ t).map h
 |[]=>rfl
 |(k,v)::r=>by
  simp only[BC,aget];cases Nat.beq k t with
  |true=>rfl
  |false=>exact jjg (ρ:=r)
def jaC:∀{ρ:AEnv}{t:Nat}{x:PV},aget ρ t=some x→∃p∈ρ,p.2=x
 |[],t,x,h=>by simp[aget] at h
 |(k,y)::r,t,x,h=>by
  simp only[aget] at h;split at h
  ·cases h;exact⟨(k,_),BG,rfl⟩
  ·obtain⟨p,h1,h2⟩:=jaC h;exact⟨p,BE _ h1,h2⟩
def SRo.ren{m:Mem}{φ:Ph}(hφ:∀i,f i=true→φ2 (g i)=φ i){j:Nat}{o:SO}{rs:Own}(h:SRo m φ i o rs)(ho:soIn f o=true)(hj:φ2 j=φ i):SRo m φ2 j (j4x g o) rs:=by
 cases o with
 |dead=>exact h
 |box T cs=>obtain⟨b,vs,h1,h2,h3,h4⟩:=h;exact⟨b,vs,hj.trans h1,h2,h3.ren hφ ho,j6s h4⟩
 |frz cs=>obtain⟨h0,b,vs,h1,h2,h3,h4⟩:=h;exact⟨h0,b,vs,hj.trans h1,h2,h3.ren hφ ho,j6s h4⟩
 |lp ρ ps a b s=>
  obtain⟨l,r,h1,h2,h3,h4,h5,h6,h7,h8,h9,wA⟩:=h;refine⟨l,r,hj.trans h1,h2,h3,h4,h5,h6,h7,h8,h9,fun t x ht=>?_⟩
  rw[jjg] at ht;cases hA:aget ρ t with
  |none=>rw[hA] at ht;simp at ht
  |some x0=>
  rw[hA] at ht;simp only[AY,AD] at ht;subst ht;obtain⟨v,q1,q2⟩:=wA t x0 hA;obtain⟨p,hp,gA⟩:=jaC hA;exact⟨v,q1,q2.ren hφ (by rw[←gA];exact AF.1 ho p hp)⟩
 |mp ks vs=>obtain⟨b,en,clock,h1,h2,h3,h4⟩:=h;exact⟨b,en,clock,hj.trans h1,h2,h3,h4.ren hφ ho⟩
 |ch c q=>obtain⟨b,us,s,r,h1,h2,h3⟩:=h;exact⟨b,us,s,r,hj.trans h1,h2,h3.ren hφ ho⟩
 |row p e sz xs=>
  obtain⟨a,cap,vss,h1,h2,h3,h4,h5⟩:=h;refine⟨a,cap,vss,by rw[AZ];exact hj.trans h1,by rw[AZ];exact h2,h3,by rw[AZ];exact h4,fun k y vs hy hv=>?_⟩
  rw[BA] at hy;cases hx:xs[k]? with
  |none=>rw[hx] at hy;simp at hy
  |some x=>
   rw[hx] at hy;simp only[AY,AD] at hy;subst hy;obtain⟨q1,q2,q3,q4⟩:=h5 k x vs hx hv;have qA:j0e f 8 x=true:=AF.1 ho x (AE hx);have key:∃n,(j1p g 8 x).cells=x.cells.map (j1p g n)∧x.cells.all (j0e f n)=true:=by
    cases x with
    |ag cs=>exact⟨7,rfl,qA⟩
    |_=>exact⟨8,rfl,by simp only[PV.cells,BH,FY,Bool.and_true];exact qA⟩
   obtain⟨n,k1,k2⟩:=key;rw[k1];exact⟨by simpa using q1,q2,j6s q3,q4.ren hφ k2⟩
def SR.list{m:Mem}{φ:Ph}:∀{k:Nat}{st:Sto}{μ:Own},SR m φ k st μ→∃L:List Own,L.length=st.length∧L.flatten=μ∧∀(i:Nat) o rs,st[i]?=some o→L[i]?=some rs→SRo m φ (k+i) o rs
 |_,[],μ,h=>⟨[],rfl,by have h:μ=[]:=h;simp[h],fun i o rs h=>by simp at h⟩
 |k,o::r,μ,h=>by
  obtain⟨rs,μ',rfl,h2,h3⟩:=h;obtain⟨L,h4,h5,h6⟩:=SR.list h3;refine⟨rs::L,by simp[h4],by simp[h5],fun i o' rs' h7 h8=>?_⟩
  cases i with
  |zero=>simp at h7 h8;subst h7;subst h8;exact h2
  |succ i=>rw[show k+(i+1)=k+1+i by omega];exact h6 i o' rs' (by simpa using h7) (by simpa using h8)
def SR.ofList{m:Mem}{φ:Ph}:∀{k:Nat}{st:Sto}{L:List Own},L.length=st.length→(∀(i:Nat) o rs,st[i]?=some o→L[i]?=some rs→SRo m φ (k+i) o rs)→SR m φ k st L.flatten
 |_,[],L,h,_=>by obtain rfl:L=[]:=AJ h;rfl
 |k,o::r,[],h,_=>by simp at h
 |k,o::r,rs::L,h,hd=>⟨rs,L.flatten,rfl,hd 0 o rs rfl rfl,SR.ofList (by simpa using h) fun i o' rs' h1 h2=>by
   rw[show k+1+i=k+(i+1) by omega]
   exact hd (i+1) o' rs' (by simpa using h1) (by simpa using h2)⟩
def j2k{α:Type}:List Nat→List α→List α→List α
 |i::π,x::xs,l=>j2k π xs (l.set i x)
 |_,_,l=>l
theorem j0P{α:Type}:∀{π:List Nat}{xs l:List α},(j2k π xs l).length=l.length
 |[],_,_=>rfl
 |i::π,[],_=>rfl
 |i::π,x::xs,l=>by simp[j2k,j0P]
def j3B{α:Type}{i:Nat}:∀{π:List Nat}{xs l:List α},i∉π→(j2k π xs l)[i]?=l[i]?
 |[],_,_,_=>rfl
 |k::π,[],_,_=>rfl
 |k::π,x::xs,l,h=>by
  rw[j2k,j3B (fun e=>h (BE _ e)),CJ (fun e=>h (by rw[e];exact BG))]
def j6V{α:Type}{i j:Nat}{x:α}:∀{π:List Nat}{xs l:List α},π.Nodup→i<l.length→π[j]?=some i→xs[j]?=some x→(j2k π xs l)[i]?=some x
 |[],_,_,_,_,h,_=>by simp at h
 |k::π,[],_,_,_,_,h=>by simp at h
 |k::π,y::xs,l,hn,hl,h1,h2=>by
  rw[DX] at hn;cases j with
  |zero=>
   simp at h1 h2;subst h1;subst h2;rw[j2k,j3B hn.1,List.getElem?_set_self hl]
  |succ j=>
   show(j2k π xs (l.set k y))[i]?=some x
   exact j6V (j:=j) hn.2 (by simpa using hl) (by simpa using h1) (by simpa using h2)
def jgW{g:Nat→Nat}:∀{π:List Nat}{os st:Sto},j2s g π os st=j2k π (os.map (j4x g)) st
 |[],_,_=>by simp[j2s,j2k]
 |i::π,[],_=>by simp[j2s,j2k]
 |i::π,o::os,st=>by simp[j2s,j2k,jgW]
section
open Classical
def set_perm{L:List Own}{i:Nat}{r:Own}(h:i<L.length):((L.set i r).flatten++L.getD i []).Perm (r++L.flatten):=by
 rw[GV]
 intro a;have e:L=L.take i++L[i]::L.drop (i+1):=by rw[←DN h,CW]
 have e2:(L.set i r)=L.take i++r::L.drop (i+1):=by rw[List.set_eq_take_append_cons_drop,if_pos h]
 have e3:L.getD i []=L[i]:=by simp[AQ,AA h]
 rw[e2,e3];have e4:List.count a L.flatten=List.count a (L.take i).flatten+(List.count a L[i]+List.count a (L.drop (i+1)).flatten):=by
  have:=congrArg (fun l:List Own=>List.count a l.flatten) e
  simp only[DE,CC,FR] at this;exact this
 simp only[DE,CC,FR,e4];omega
def j5Z:∀{π:List Nat}{rss L:List Own},π.Nodup→(∀i∈π,i<L.length)→rss.length=π.length→((j2k π rss L).flatten++(π.map fun i=>L.getD i []).flatten).Perm (rss.flatten++L.flatten)
 |[],[],L,_,_,_=>by simp[j2k]
 |[],_::_,_,_,_,h=>by simp at h
 |i::π,[],L,_,_,h=>by simp at h
 |i::π,r::rss,L,hn,hl,hlen=>by
  rw[DX] at hn;have hi:=hl i BG;have ih:=j5Z (π:=π) (rss:=rss) (L:=L.set i r) hn.2 (fun k hk=>by simpa using hl k (BE _ hk)) (by simpa using hlen)
  have hA:(π.map fun k=>(L.set i r).getD k [])=π.map fun k=>L.getD k []:=DL fun k hk=>by
   have qA:i≠k:=fun e=>hn.1 (by rw[e];exact hk)
   simp[AQ,CJ qA]
  rw[hA] at ih;have hs:=set_perm (r:=r) hi;rw[GV] at ih hs ⊢
  intro a;have h1:=ih a;have h2:=hs a;simp only[j2k,BC,CC,FR] at h1 h2⊢;omega
end
def jaQ:∀{k:Nat},i∈π→∃j,place i k π=k+j∧π[j]?=some i:=by
 induction π with
 |nil=>intro k h;simp at h
 |cons x r ih=>
  intro k h;simp only[place];split
  ·rename_i hb;exact⟨0,rfl,by simp[AH hb]⟩
  ·rename_i hb;have hA:i≠x:=fun e=>by subst e;simp at hb
   obtain⟨j,h1,h2⟩:=ih (k:=k+1) ((AN.1 h).resolve_left hA);exact⟨j+1,by rw[h1];omega,by simpa using h2⟩
def jgN:∀{π:List Nat},π.Nodup→∀{i j k:Nat},π[j]?=some i→π[k]?=some i→j=k
 |[],_,i,j,k,h,_=>by simp at h
 |x::r,hn,i,j,k,h1,h2=>by
  rw[DX] at hn;cases j with
  |zero=>
   cases k with
   |zero=>rfl
   |succ k=>
    simp at h1 h2;subst h1;exact absurd (AE h2) hn.1
  |succ j=>
   cases k with
   |zero=>
    simp at h1 h2;subst h2;exact absurd (AE h1) hn.1
   |succ k=>exact congrArg (· + 1) (jgN (π:=r) (i:=i) hn.2 (by simpa using h1) (by simpa using h2))
def j5A{st:Sto}:∀{n:Nat}{work acc:List Nat},acc.Nodup→(close st n work acc).Nodup
 |0,_,_,h=>h
 |n+1,[],_,h=>h
 |n+1,w::r,acc,h=>by
  simp only[close];split
  ·exact j5A h
  ·rename_i he;refine j5A (DX.2 ⟨fun hm=>?_,h⟩)
   have:acc.elem w=true:=by simpa using hm
   rw[he] at this;cases this
def jaK{g:Nat→Nat}{f:Nat→Bool}{st:Sto}:∀{π:List Nat}{st0:Sto},fetch g f st π=some st0→st0.length=π.length∧∀(j i:Nat),π[j]?=some i→∃o,st[i]?=some o∧soIn f o=true∧st0[j]?=some (j4x g o)
 |[],st0,h=>by
  simp only[fetch,mapO,AD] at h;subst h;exact⟨rfl,fun j i h=>by simp at h⟩
 |i::π,st0,h=>by
  unfold fetch at h;obtain⟨y,l,rfl,h1,h2⟩:=j5c h;obtain⟨h3,h4⟩:=jaK (π:=π) h2;refine⟨by simp[h3],fun j k hj=>?_⟩
  cases j with
  |zero=>
   simp at hj;subst hj;split at h1
   ·rename_i o ho;split at h1
    ·rename_i hA;cases h1;exact⟨o,ho,hA,rfl⟩
    ·cases h1
   ·cases h1
  |succ j=>
   obtain⟨o,q1,q2,q3⟩:=h4 j k (by simpa using hj)
   exact⟨o,q1,q2,by simpa using q3⟩
def PanL(v:Value)(c:List PanicEntry):Prop:=∃ol,c=⟨v,false,false⟩::ol∧∀p∈ol,p.goexit=false
def PanL.one(v:Value):PanL v [⟨v,false,false⟩]:=⟨[],rfl,fun p h=>by simp at h⟩
def PanE(v:Value)(e:Ending):Prop:=∃c,e=.panicked c∧PanL v c
def EndR(m:Mem)(φ:Ph):AEnd→Ending→Prop
 | .ret rs,e=>∃us,e=.returned (Gw.tup us)∧Rl m φ rs us
 | .pan x,e=>∃u,PanE u e∧R m φ x u
def EndR.mono{m':Mem}{φ':Ph}{e:Ending}(h:EndR m φ r e)(hm:Mem.le m m')(hA:Le φ φ'):EndR m' φ' r e:=by
 cases r with
 |ret rs=>obtain⟨us,h1,h2⟩:=h;exact⟨us,h1,h2.mono hm hA⟩
 |pan x=>obtain⟨u,h1,h2⟩:=h;exact⟨u,h1,h2.mono hm hA⟩
def CallOk(P:Program)(call:FuncId→List PV→Sto→Option (AEnd×Sto)):Prop:=
 ∀f args st r st',call f args st=some (r,st')→∀w m φ μ vs,Sit ⟨w,m,feetOf μ⟩ m φ μ st w→Rl m φ args vs →
  Calls P f vs.toArray w fun en w'=>∃m' φ' μ',Ext st st' φ φ'∧Sit ⟨w,m,feetOf μ⟩ m' φ' μ' st' w'∧EndR m' φ' r en
def jer{en:Ending}(h:j6y r=true)(hr:EndR m φ r en):EndR m noPh r en:=by
 cases r with
 |ret rs=>obtain⟨us,h1,h2⟩:=hr;exact⟨us,h1,h2.pure h⟩
 |pan x=>obtain⟨u,h1,h2⟩:=hr;exact⟨u,h1,R.pure 8 h h2⟩
def j2Z(D:List Value→World→(Ending→World→Prop)→Prop)(call:List PV→Sto→Option (AEnd×Sto)):Prop:=
 ∀args st r st',call args st=some (r,st')→∀w m φ μ vs,Sit ⟨w,m,feetOf μ⟩ m φ μ st w→Rl m φ args vs →
  D vs w fun en w'=>∃m' φ' μ',Ext st st' φ φ'∧Sit ⟨w,m,feetOf μ⟩ m' φ' μ' st' w'∧EndR m' φ' r en
def j8i(P:Program)(f:FuncId)(vs:List Value)(w:World)(R:Ending→World→Prop):Prop:=Calls P f vs.toArray w R
def jrT(D:List Value→World→(Ending→World→Prop)→Prop)(E:Entry)(m:Mem)(φ:Ph)(st:Sto)(w:World)(vs:List Value)(r:AEnd)(st':Sto):Prop:=
 D vs w fun en w'=>∃m' φ' μ',Mem.le m m'∧Ext st st' φ φ'∧Sit E m' φ' μ' st' w'∧EndR m' φ' r en
def jdY(P:Program)(E:Entry)(m:Mem)(φ:Ph)(st:Sto)(w:World)(f:FuncId)(vs:List Value)(r:AEnd)(st':Sto):Prop:=
 Calls P f vs.toArray w fun en w'=>∃m' φ' μ',Mem.le m m'∧Ext st st' φ φ'∧Sit E m' φ' μ' st' w'∧EndR m' φ' r en
def jbg(hD:∀vs w R R',D vs w R→(∀e w',R e w'→R' e w')→D vs w R')(he:j2Z D call){st st0 st1:Sto}{r':AEnd}(hs:Sit E m φ μ st w)(hn:π.Nodup)
  (gB:st0.length=π.length∧∀(j i:Nat),π[j]?=some i→∃o,st[i]?=some o∧soIn (fun i=>π.elem i) o=true∧st0[j]?=some (j4x (fun i=>place i 0 π) o))
  (hr:Rl m (fun j=>match π[j]? with
   |some i=>φ i
   |none=>none) args vs) (hc:call args st0=some (r,st1)) (hb:j2x π st r st1=some (r',st')):jrT D E m φ st w vs r' st':=by
 unfold j2x at hb;split at hb
 ·rename_i qC;rw[AB] at qC;cases hb;obtain⟨φ0,hφ0⟩:∃φ0:Ph,φ0=fun j=>match π[j]? with
   |some i=>φ i
   |none=>none:=⟨_,rfl⟩
  rw[←hφ0] at hr;have hφ0':∀{j i:Nat},π[j]?=some i→φ0 j=φ i:=fun{j i} h=>by rw[hφ0];simp only[h]
  have kE:∀{i:Nat},(π.elem i)=true→i∈π:=fun h=>by simpa using h
  have kH:∀i,(fun i=>π.elem i) i=true→φ0 ((fun i=>place i 0 π) i)=φ i:=fun i hi=>by
   obtain⟨j,h1,h2⟩:=jaQ (k:=0) (kE hi);rw[AP] at h1;simp only[h1];exact hφ0' h2
  have kF:∀i∈π,i<st.length:=fun i hi=>by
   obtain⟨j,h2⟩:=BX hi;obtain⟨o,q1,_⟩:=gB.2 j i h2;exact(AK.1 q1).1
  obtain⟨L,hC,hG,wF⟩:=hs.sto.list;have qB:∀i∈π,i<L.length:=fun i hi=>by rw[hC];exact kF i hi
  obtain⟨Ls,wC⟩:∃Ls:List Own,Ls=π.map fun i=>L.getD i []:=⟨_,rfl⟩
  have wE:Ls.length=π.length:=by simp[wC]
  have gD:SR m φ0 0 st0 Ls.flatten:=SR.ofList (by rw[wE,gB.1]) fun j o rs h1 h2=>by
   have hj:j<π.length:=by have:=(AK.1 h2).1;omega
   have wB:π[j]?=some π[j]:=AA hj;obtain⟨o0,q1,q2,q3⟩:=gB.2 j _ wB;rw[h1] at q3;cases q3;rw[wC,BA,wB] at h2;simp only[AY,AD] at h2;have wG:=qB _ (DH hj);have hI:L[π[j]]?=some rs:=by rw[←h2,AQ,AA wG];rfl
   have:=wF _ o0 rs q1 hI;rw[AP] at this⊢;exact this.ren kH q2 (hφ0' wB)
  obtain⟨μr,hμr⟩:∃μr,μr=(j2k π (π.map fun _=>([]:Own)) L).flatten:=⟨_,rfl⟩
  have qA:μ.Perm (Ls.flatten++μr):=by
   have:=j5Z (π:=π) (rss:=π.map fun _=>([]:Own)) (L:=L) hn qB (by simp)
   have hz:(π.map fun _=>([]:Own)).flatten=[]:=by simp
   rw[hz,BV,hG,←hμr,←wC] at this;exact this.symm.trans EQ
  have wA:=hs.good.perm qA;have hE:Sit ⟨w,m,feetOf Ls.flatten⟩ m φ0 Ls.flatten st0 w:=⟨wA.start,gD,fun id hid=>by
   rw[hφ0];have:π[id]?=none:=ER (by rw[←gB.1];exact hid)
   simp only[this]⟩
  refine hD _ _ _ _ (he args _ r st1 hc w m φ0 Ls.flatten vs hE hr) fun en w' ⟨m',φ1,μ1',h1,h2,h3⟩=>?_
  have qF:π.length≤st1.length:=by have:=h1.len;rwa [gB.1] at this
  obtain⟨b,hA⟩:∃b,b=back π st.length:=⟨_,rfl⟩;have wH:∀{j i:Nat},π[j]?=some i→b j=i:=fun{j i} h=>by rw[hA];simp only[back,h]
  have gH:∀{j:Nat},π.length≤j→b j=st.length+(j-π.length):=fun{j} h=>by
   rw[hA];have:π[j]?=none:=ER h;simp only[back,this]
  obtain⟨φ',hφ'⟩:∃φ':Ph,φ'=fun id=>match π.elem id with
   |true=>φ1 (place id 0 π)
   |false=>match Nat.blt id st.length with
    |true=>φ id
    |false=>φ1 (π.length+(id-st.length)):=⟨_,rfl⟩
  have hφ'1:∀{j i:Nat},π[j]?=some i→φ' i=φ1 j:=fun{j i} h=>by
   have hi:i∈π:=AE h;have gC:π.elem i=true:=by simpa using hi
   obtain⟨k,h5,h6⟩:=jaQ (k:=0) hi;rw[AP] at h5;have:k=j:=jgN hn h6 h;subst this;rw[hφ'];simp only[gC,h5]
  have hφ'2:∀{i:Nat},i∉π→i<st.length→φ' i=φ i:=fun{i} h hl=>by
   have gC:π.elem i=false:=by rw[CM];intro e;exact h (kE e)
   have qE:Nat.blt i st.length=true:=by rw[BW];exact hl
   rw[hφ'];simp only[gC,qE]
  have hφ'3:∀{i:Nat},st.length≤i→φ' i=φ1 (π.length+(i-st.length)):=fun{i} hl=>by
   have gC:π.elem i=false:=by rw[CM];intro e;have:=kF i (kE e);omega
   have qE:Nat.blt i st.length=false:=by rw[CM];intro e;rw[BW] at e;omega
   rw[hφ'];simp only[gC,qE]
  have hbφ:∀j,(fun j=>Nat.blt j st1.length) j=true→φ' (b j)=φ1 j:=fun j hj=>by
   rcases DP j π.length with h5|h5
   ·have wB:π[j]?=some π[j]:=AA h5;rw[wH wB];exact hφ'1 wB
   ·rw[gH h5,hφ'3 (by omega)]
    congr 1
    omega
  have qH:∀{j:Nat},j<st1.length→(fun j=>Nat.blt j st1.length) j=true:=fun{j} h=>by simp only[BW];exact h
  have gF:Le φ φ':=fun id=>by
   by_cases hid:id∈π
   ·obtain⟨j,h5⟩:=BX hid;rw[hφ'1 h5,←hφ0' h5];exact h1.le j
   ·rcases DP id st.length with h5|h5
    ·rw[hφ'2 hid h5];exact Le.refl φ id
    ·rw[hs.dom id h5];exact⟨fun b hb=>(by cases hb),fun sv n sz hb=>(by cases hb)⟩
  obtain⟨L1,qI,kI,kG⟩:=h2.sto.list;obtain⟨L',hF⟩:∃L':List Own,L'=j2k π (L1.take π.length) L++L1.drop π.length:=⟨_,rfl⟩;have qD:j2s (back π st.length) π st1 st++(st1.drop π.length).map (j4x (back π st.length))=j2k π (st1.map (j4x b)) st++(st1.drop π.length).map (j4x b):=by rw[jgW,hA]
  rw[qD,←hA];have wD:SR m' φ' 0 (j2k π (st1.map (j4x b)) st++(st1.drop π.length).map (j4x b)) L'.flatten:=SR.ofList (by simp[hF,j0P,hC,qI]) fun id o rs h5 h6=>by
   rw[AP];rw[hF] at h6;rcases DP id st.length with hid|hid
   ·rw[AW (by rw[j0P];exact hid)] at h5
    rw[AW (by rw[j0P,hC];exact hid)] at h6
    by_cases hm:id∈π
    ·obtain⟨j,hj⟩:=BX hm;have hH:j<π.length:=(AK.1 hj).1;have ho:st1[j]?=some st1[j]:=AA (by omega)
     have hl:L1[j]?=some L1[j]:=AA (by omega)
     rw[j6V hn hid hj (show(st1.map (j4x b))[j]?=some (j4x b st1[j]) by rw[BA,ho];rfl)] at h5
     rw[j6V hn (by rw[hC];exact hid) hj (show(L1.take π.length)[j]?=some L1[j] by rw[CQ,if_pos hH,hl])] at h6
     cases h5;cases h6;have:=kG j _ _ ho hl;rw[AP] at this;exact this.ren hbφ (AF.1 qC.2 _ (AE ho)) (hφ'1 hj)
    ·rw[j3B hm] at h5 h6;have:=wF id o rs h5 h6;rw[AP] at this;exact this.mono h2.good.mem gF (hφ'2 hm hid)
   ·rw[BK (by rw[j0P];exact hid),j0P,BA,CY] at h5
    rw[BK (by rw[j0P,hC];exact hid),j0P,hC,CY] at h6
    cases ho:st1[π.length+(id-st.length)]? with
    |none=>rw[ho] at h5;simp at h5
    |some o0=>
     rw[ho] at h5;simp only[AY,AD] at h5;subst h5;have:=kG _ _ _ ho h6;rw[AP] at this;exact this.ren hbφ (AF.1 qC.2 _ (AE ho)) (hφ'3 hid)
  have hB:(μ1'++μr).Perm L'.flatten:=by
   have hq:=j5Z (π:=π) (rss:=L1.take π.length) (L:=L) hn qB (by simp;omega)
   rw[hG,←wC] at hq;have gG:((j2k π (L1.take π.length) L).flatten++Ls.flatten).Perm (((L1.take π.length).flatten++μr)++Ls.flatten):=
    hq.trans ((qA.append_left _).trans (by
     rw[BZ];exact(EQ).append_left _))
   have qG:=(List.perm_append_right_iff _).1 gG;rw[hF,DE,←kI];have e:L1.flatten=(L1.take π.length).flatten++(L1.drop π.length).flatten:=by rw[←DE,CW]
   rw[e];refine List.Perm.trans ?_ (qG.symm.append_right _);rw[BZ,BZ];exact(EQ).append_left _
  have gA:(j2k π (st1.map (j4x b)) st++(st1.drop π.length).map (j4x b)).length=st.length+(st1.length-π.length):=by simp[j0P]
  refine⟨m',φ',L'.flatten,h2.good.mem,⟨gF,by rw[gA];omega,fun id hid=>?_⟩,⟨(wA.back h2.good).perm hB,wD,fun id hid=>?_⟩,?_⟩
  ·have hl:=(AK.1 hid).1;rw[AW (by rw[j0P];exact hl)]
   by_cases hm:id∈π
   ·obtain⟨j,hj⟩:=BX hm;obtain⟨o,q1,_,q3⟩:=gB.2 j id hj;rw[hid] at q1;cases q1;obtain⟨d1,d2⟩:=h1.dead j q3;exact⟨j6V hn hl hj (by rw[BA,d1];rfl),by rw[hφ'1 hj,d2,hφ0' hj]⟩
   ·rw[j3B hm];exact⟨hid,hφ'2 hm hl⟩
  ·rw[gA] at hid;rw[hφ'3 (by omega)]
   exact h2.dom _ (by omega)
  ·unfold j5n;split
   ·rename_i hp;exact(jer hp h3).mono (Mem.le.refl _) (Le.none _)
   ·cases r with
    |ret rs=>obtain⟨us,k1,k2⟩:=h3;exact⟨us,k1,k2.ren hbφ qC.1⟩
    |pan v=>obtain⟨u,k1,k2⟩:=h3;exact⟨u,k1,k2.ren hbφ qC.1⟩
 ·cases hb
def jfH(hD:∀vs w R R',D vs w R→(∀e w',R e w'→R' e w')→D vs w R')(he:j2Z D call){st:Sto}(hn:π.Nodup)(hs:Sit E m φ μ st w)(hr:Rl m φ args vs)(h:j4M call args π st=some (r,st')):jrT D E m φ st w vs r st':=by
 unfold j4M at h;split at h
 ·rename_i st0 hA hf;split at h
  ·rename_i r1 st1 hc;refine jbg hD he hs hn (jaK hf) (hr.ren (fun i hi=>?_) hA) hc h
   obtain⟨j,h1,h2⟩:=jaQ (k:=0) (show i∈π by simpa using hi)
   rw[AP] at h1;simp only[h1,h2]
  ·cases h
 ·cases h
def CallOk.does{call:FuncId→List PV→Sto→Option (AEnd×Sto)}(he:CallOk P call)(f:FuncId):j2Z (j8i P f) (call f):=fun args st r st' h w m φ μ vs hs hr=>he f args st r st' h w m φ μ vs hs hr
def jfI{e:Ev}(he:CallOk P e.call){f:FuncId}{st:Sto}(hs:Sit E m φ μ st w)(hr:Rl m φ args vs)(h:j2K C e f args st=some (r,st')):jdY P E m φ st w f vs r st':=by
 unfold j2K at h;split at h
 ·cases h
 ·rename_i args1 st1 hp;obtain⟨m1,μ1,e1,e2,e3,e4⟩:∃m' μ',Mem.le m m'∧Ext st st1 φ φ∧Sit E m' φ μ' st1 w∧Rl m' φ args1 vs:=by
   split at hp
   ·cases hp;exact⟨m,μ,Mem.le.refl m,Ext.refl _ _,hs,hr⟩
   ·exact jiB hp hs hr
  have lift:∀{r:AEnd}{st':Sto},jdY P E m1 φ st1 w f vs r st'→jdY P E m φ st w f vs r st':=fun hc=>hc.mono fun en w' ⟨m',φ',μ',h1,h2,h3,h4⟩=>⟨m',φ',μ',e1.trans h1,e2.trans h2,h3,h4⟩
  split at h
  ·rename_i hA;split at h
   ·rename_i r1 st2 hc;split at h
    ·rename_i wA;cases h;apply lift;have hg:Hb.Good E w m1 ([]++μ1):=e3.good;have qA:Sit ⟨w,m1,feetOf []⟩ m1 noPh [] [] w:=⟨hg.start,rfl,fun _ _=>rfl⟩
     refine(he f args1 [] r st2 hc w m1 noPh [] vs qA (e4.pure hA)).mono fun en w' ⟨m',φ',μ',h1,h2,h3⟩=>?_
     have gA:=hg.back h2.good;refine⟨m',φ,μ1,h2.good.mem,Ext.refl _ _,⟨gA.drop (FA _ _),e3.sto.mono h2.good.mem (Le.refl φ) (fun _ _ _=>rfl),e3.dom⟩,(jer wA h3).mono (Mem.le.refl _) (Le.none φ)⟩
    ·refine lift (jbg (D:=j8i P f) (fun _ _ _ _ h hr=>Calls.mono h hr) (he.does f) e3 (π:=[]) FP ⟨rfl,fun j i h=>by simp at h⟩ ?_ hc h)
     have hz:(fun j=>match([]:List Nat)[j]? with
      |some i=>φ i
      |none=>none)=noPh:=by funext j;simp[noPh]
     rw[hz];exact e4.pure hA
   ·cases h
  ·exact lift (jfH (D:=j8i P f) (fun _ _ _ _ h hr=>Calls.mono h hr) (he.does f) ((HE _).nodup_iff.2 (j5A FP)) e3 e4 h)
end
open Go Go.Hb
open Go.Gw (tk tf tz tsl tar tpl isAggD)
def j8o{d t:Nat}(h:d≠t):∀{ρ:AEnv},aget (adel d ρ) t=aget ρ t
 |[]=>rfl
 |(k,v)::r=>by
  simp only[adel];cases hk:Nat.beq k d with
  |true=>
   obtain rfl:=AH hk;have:Nat.beq k t=false:=CM.2 (fun e=>h (AH e))
   simp[aget,this]
  |false=>simp only[aget];rw[j8o h]
def je8{d t:Nat}{v x:PV}{ρ:AEnv}(h:aget (aput (some d) v ρ) t=some x):(d=t∧v=x)∨(d≠t∧aget ρ t=some x):=by
 simp only[aput,aget] at h;cases hk:Nat.beq d t with
 |true=>rw[hk] at h;exact .inl ⟨AH hk,BP h⟩
 |false=>
  have hA:d≠t:=fun e=>by subst e;simp at hk
  rw[hk] at h;simp only at h;rw[j8o hA] at h;exact .inr ⟨hA,h⟩
def jcd(n:Nat):Code→Bool
 | .seq a b=>match cutR a with
  |some (_,o,_)=>(jaw n o.dst&&j4L o.op)&&slots n b
  |none=>slots n a&&(jbw a&&jcd n b)
 |c=>slots n c
def jkr(P:Program):Bool:=P.funcs.toList.all fun fn=>match fn.body with
 |some c=>match cutC c with
  |true=>jcd fn.ntmps c
  |false=>slots fn.ntmps c
 |none=>true
section
variable{P:Program}{E:Entry}{m:Mem}{φ:Ph}{μ:Own}{st:Sto}{ρ:AEnv}{a:Act}{w:World}{C:Cfg}{e:Ev}{n:Nat}
variable{r:AR}{s':AS}{x:AX}{next:Act→World→Prop}{ops:Array Oper}{args:Array Value}{Q:Exit→Act→World→Prop}{D:List Deferred}{k:Nat}{o:Oper}{d ro:Option Nat}{st1:Sto}{v:Value}
theorem EnvR.put{x:PV}(h:EnvR m φ ρ a)(hn:a.tmps.size=n)(hd:jaw n d=true)(hx:R m φ x v):EnvR m φ (aput d x ρ) (a.put d v):=by
 cases d with
 |none=>exact h
 |some d=>
  intro t y ht;have hA:d<a.tmps.size:=by rw[hn];simpa[jaw,BW] using hd
  rcases je8 ht with⟨rfl,rfl⟩|⟨h1,h2⟩
  ·exact⟨v,by simp[Act.put,BS,hA],hx⟩
  ·obtain⟨u,h3,h4⟩:=h t y h2;exact⟨u,by simp[Act.put,BS,h1,h3],h4⟩
def j8W:(a.put d v).tmps.size=a.tmps.size:=by cases d<;>simp[Act.put]
def put_defers:(a.put d v).defers=a.defers:=by cases d<;>rfl
def jpj{rs:List PV}{us:List Value}(h:Rl m φ rs us):R m φ (retV rs) (Gw.tup us):=by
 match rs,us,h with
 |[],[],h=>exact .tu h.1 h.2
 |[x],[u],h=>exact h.2 0 x u rfl rfl
 |x::y::r,u::v::s,h=>exact .tu h.1 h.2
 |[],_::_,h=>exact absurd h.1 (by simp)
 |[_],[],h=>exact absurd h.1 (by simp)
 |[_],_::_::_,h=>exact absurd h.1 (by simp)
 |_::_::_,[],h=>exact absurd h.1 (by simp)
 |_::_::_,[_],h=>exact absurd h.1 (by simp)
def jbX(he:CallOk C.P e.call)(hs:Sit E m φ μ st w)(h:EnvR m φ ρ a)(hx:j7E C e ρ st o.op=some r)
  (hn:∀x st' v w' m' φ' μ',r=.val x st'→Mem.le m m'→Ext st st' φ φ'→Sit E m' φ' μ' st' w'→R m' φ' x v→next (a.put o.dst v) w')
  (hu:∀st' w' m' φ' μ',r=.unit st'→Mem.le m m'→Ext st st' φ φ'→Sit E m' φ' μ' st' w'→next (a.put o.dst undef) w')
  (hp:∀x st' v c w' m' φ' μ',r=.pan x st'→PanL v c→Mem.le m m'→Ext st st' φ φ'→Sit E m' φ' μ' st' w'→R m' φ' x v→Q (.panic c) a w'):o.wp C.P a w next Q:=by
 obtain⟨dst,op,ty,pos,after,gd⟩:=o;simp only at hx hn hu hp;have does:∀{x:PV},r=.val x st→Does C.P w a m φ ⟨dst,op,ty,pos,after,gd⟩ x→Oper.wp C.P ⟨dst,op,ty,pos,after,gd⟩ a w next Q:=fun{x} hr hd=>by
  obtain⟨v,h1,h2⟩:=hd;unfold Oper.wp;rw[h1];exact hn x st v w m φ μ hr (Mem.le.refl m) (Ext.refl _ _) hs h2
 have acts:Acts C.P E m φ st w a ⟨dst,op,ty,pos,after,gd⟩ r→Oper.wp C.P ⟨dst,op,ty,pos,after,gd⟩ a w next Q:=fun ha=>by
  unfold Oper.wp;cases r with
  |val x st'=>obtain⟨v,w',m',φ',μ',h1,h2,h3,h4,h5⟩:=ha;rw[h1];exact hn x st' v w' m' φ' μ' rfl h2 h3 h4 h5
  |unit st'=>obtain⟨w',m',φ',μ',h1,h2,h3,h4⟩:=ha;rw[h1];exact hu st' w' m' φ' μ' rfl h2 h3 h4
  |pan x st'=>obtain⟨v,w',m',φ',μ',h1,h2,h3,h4,h5⟩:=ha;rw[h1];exact hp x st' v _ w' m' φ' μ' rfl (PanL.one v) h2 h3 h4 h5
 have hS:aS C e ρ st op=some r→Oper.wp C.P ⟨dst,op,ty,pos,after,gd⟩ a w next Q:=fun hx=>by
  unfold aS at hx;split at hx
  ·exact acts (jq1 hs h hx)
  ·exact acts (jkN hs hx)
  ·exact acts (jkQ hs h hx)
  ·exact acts (j6q hs h hx)
  ·exact acts (jkP rfl hs h hx)
  ·exact acts (jkO hs h hx)
  ·exact acts (jfJ hs hx)
  ·rename_i xs ts _;split at hx
   ·rename_i x n T U wA gB;have hB:=hx;obtain rfl:xs = #[x,n]:=by apply Array.ext';simpa using wA
    obtain rfl:ts = #[T,U]:=by apply Array.ext';simpa using gB
    exact acts (jcJ hs h hB)
   ·cases hx
  ·exact acts (jmS hs h hx)
  ·exact acts (je7 hs h hx)
  ·exact acts (j7I hs h hx).1
  ·exact acts (j7I hs h hx).2
  ·exact acts (jcI hs h hx)
  ·exact acts (jhB hs h hx)
  ·rename_i g xs ts _;unfold j6U at hx;split at hx
   ·rename_i f as bs vs hg qB;split at hx
    ·rename_i hA;have rg:=j0j h hg;have rv:=jbc h qB;generalize hD:a.eval g=eg at rg;cases rg with
     | @fn _ _ _ _ us ws hl qC hi gC=>
      have qA:Rl m φ (as++vs++bs) (us++xs.toList.map a.eval++ws):=(Rl.append ⟨hl,hi⟩ rv).append ⟨qC,gC⟩;have gA:(execOp a.eval ⟨dst,.call ⟨.value g,xs,ts⟩,ty,pos,after,gd⟩).run C.P w=.ok (.enter f (us++xs.toList.map a.eval++ws).toArray) w:=by
       unfold Gw.callable at hA;split at hA
       ·rename_i fn wC;rw[AB] at hA;cases hb:fn.body with
        |none=>simp[hb] at hA
        |some body=>
         have hC:¬fn.name = "runtime.NumGoroutine" :=by simpa using hA.2
         have ex:xs.map a.eval=(xs.toList.map a.eval).toArray:=by apply Array.ext';simp
         simp[execOp,resolve,Deferred.ofValue,hD,invoke,callFunc,wC,hC,hb,ex]
       ·cases hA
      have run:∀{r':AEnd}{st':Sto},j2K C e f (as++vs++bs) st=some (r',st')→(∀rs,r'=.ret rs→r=.val (retV rs) st')→(∀x,r'=.pan x→r=.pan x st')→Oper.wp C.P ⟨dst,.call ⟨.value g,xs,ts⟩,ty,pos,after,gd⟩ a w next Q:=fun{r' st'} hc h1 h2=>by
       have wB:=jfI he hs qA hc;unfold Oper.wp;rw[gA];refine wB.mono fun en w' ⟨m',φ',μ',q1,q2,q3,q4⟩=>?_
       cases r' with
       |ret rs=>
        obtain⟨us',rfl,q5⟩:=q4;exact hn _ _ _ w' m' φ' μ' (h1 rs rfl) q1 q2 q3 (jpj q5)
       |pan x=>
        obtain⟨u,⟨c,rfl,qD⟩,q5⟩:=q4;exact hp _ _ _ c w' m' φ' μ' (h2 x rfl) qD q1 q2 q3 q5
      split at hx
      ·rename_i rs st' hc;cases hx;exact run hc (fun rs' e'=>by cases e';rfl) (fun x e'=>by cases e')
      ·rename_i x st' hc;cases hx;exact run hc (fun rs' e'=>by cases e') (fun x e'=>by cases e';rfl)
      ·cases hx
    ·cases hx
   ·cases hx
  ·cases hx
 unfold j7E at hx;split at hx
 ·exact hS hx
 ·split at hx
  ·rename_i v hv;cases hx;exact does rfl (jrZ (Am.Good.memW hs.good) h hv)
  ·split at hx
   ·rename_i v hv;cases hx;exact does rfl (jrY hs h hv)
   ·exact hS hx
def XR(m:Mem)(φ:Ph):AX→Exit→Prop
 | .normal,ex=>ex=.normal
 | .exit i,ex=>ex=.exit i
 | .ret,ex=>ex=.ret
 | .pan x,ex=>∃v,(∃c,ex=.panic c∧PanL v c)∧R m φ x v
def Post(D:List Deferred)(E:Entry)(n:Nat)(m:Mem)(φ:Ph)(st:Sto)(x:AX)(s':AS)(ex:Exit)(a':Act)(w':World):Prop:=
 ∃m' φ' μ',Mem.le m m'∧Ext st s'.st φ φ'∧Sit E m' φ' μ' s'.st w'∧EnvR m' φ' s'.env a'∧a'.tmps.size=n∧a'.defers=D∧XR m' φ' x ex
def Post.trans{m1:Mem}{φ1:Ph}{ex:Exit}{a':Act}{w':World}(hm:Mem.le m m1)(hx:Ext st st1 φ φ1)(h:Post D E n m1 φ1 st1 x s' ex a' w'):Post D E n m φ st x s' ex a' w':=by
 obtain⟨m',φ',μ',h1,h2,h3⟩:=h;exact⟨m',φ',μ',hm.trans h1,hx.trans h2,h3⟩
def jfr:R m φ (.tu []) undef:=by
 have:Rl m φ [] []:=.nil;exact .tu this.1 this.2
def j5Q{b:Bool}(h:EnvR m φ ρ a)(hx:j6D ops ρ o.guard=some b):Region.wanted o (yielded ops a.tmps)=b:=by
 unfold j6D at hx;unfold Region.wanted;split at hx
 ·rename_i hg;rw[hg];simpa using hx
 ·rename_i j want hg;rw[hg];simp only;split at hx
  ·rename_i t ht;split at hx
   ·rename_i v hv;cases hx;obtain⟨u,h1,h2⟩:=h t _ hv;have hu:=h2.sc_eq;subst hu;have:yielded ops a.tmps j=some v:=by
     unfold yielded;rw[ht];simp[h1]
    rw[this];cases v<;>cases want<;>rfl
   ·rename_i hv;cases hx;obtain⟨u,h1,h2⟩:=h t _ hv;cases h2 with
    | @tu _ _ vs hl hi=>
     have:vs=[]:=AJ (by simpa using hl.symm)
     subst this;have:yielded ops a.tmps j=none:=by
      unfold yielded;rw[ht];simp[h1]
     rw[this];rfl
   ·cases hx
  ·cases hx
def FF(ro:Option Nat):Fence:={ Fence.wide with round:=ro }
def jjq{f:FuncId}{R:Ending→World→Prop}(h:Calls P f args w R):CallsIn (FF ro) k P f args w R:=callsIn_wide.2 h
def jtz{row:String}{R:Value→World→Prop}(h:Rows P row args w R):RowsIn (FF ro) k P row args w R:=
 fun c cs _=>let⟨v,w',r,s⟩:=h c cs;⟨v,w',r,(stepsIn_wide (P:=P)).2 s⟩
def jiy(hd:j4L o.op=true)(h:o.wp P a w next Q):o.wpIn (FF ro) k P a w next Q:=by
 refine⟨fun _ _=>trivial,?_⟩
 rw[Oper.semAt_eq _ _ _ (fun c e=>by rw[e] at hd;cases hd)]
 unfold Oper.wp at h;generalize(execOp a.eval o).run P w=r at h⊢;cases r with
 |ok nx w'=>
  cases nx with
  |enter f args=>exact⟨fun e=>(by cases e),jjq h⟩
  |row r args=>exact⟨fun e=>(by cases e),jtz h⟩
  |round l f t as bd=>exact h.elim
  |value v=>exact h
  |skip=>exact h
  |defer d=>exact h
  |_=>exact h.elim
 |halt hl w'=>
  cases hl with
  |panic v=>exact h
  |_=>exact h.elim
def YieldD(P:Program)(vs:List Value)(w:World)(R:Ending→World→Prop):Prop:=
 ∃l us fn tmps as bd,vs=.func (.yield l) #[] #[]::us∧(Instr.yield l us.toArray).run P w=.ok (.round l fn tmps as bd) w∧∀k,RoundIn Fence.wide k P l fn tmps as bd w R
def YieldD.mono(P:Program):∀vs w R R',YieldD P vs w R→(∀e w',R e w'→R' e w')→YieldD P vs w R':=
 fun _ _ _ _ ⟨l,us,fn,tmps,as,bd,h1,h2,h3⟩ hr=>⟨l,us,fn,tmps,as,bd,h1,h2,fun k=>(h3 k).mono hr⟩
def jra{o:Op}{ρ':AEnv}(h:jm0 C ρ st o=some (ρ',st1))(hs:Sit E m φ μ st w)(hρ:EnvR m φ ρ a):∃m1 μ1,Mem.le m m1∧Ext st st1 φ φ∧Sit E m1 φ μ1 st1 w∧EnvR m1 φ ρ' a:=by
 have same:(ρ,st)=(ρ',st1)→∃m1 μ1,Mem.le m m1∧Ext st st1 φ φ∧Sit E m1 φ μ1 st1 w∧EnvR m1 φ ρ' a:=fun e=>by
  cases e;exact⟨m,μ,Mem.le.refl m,Ext.refl _ _,hs,hρ⟩
 unfold jm0 at h;split at h
 ·rename_i T x t;split at h
  ·split at h
   ·rename_i v hv;split at h
    ·rename_i v' st' hp;cases h;obtain⟨u,h1,h2⟩:=hρ t v hv;obtain⟨m1,μ1,e1,e2,e3,e4⟩:=jf6 hp hs h2;refine⟨m1,μ1,e1,e2,e3,fun d y hy=>?_⟩
     rcases je8 hy with⟨rfl,rfl⟩|⟨_,h3⟩
     ·exact⟨u,h1,e4⟩
     ·obtain⟨u',h4,h5⟩:=hρ d y h3;exact⟨u',h4,h5.mono e1 (Le.refl φ)⟩
    ·cases h
   ·cases h
  ·exact same (BP h)
 ·exact same (BP h)
def jr3(he:CallOk C.P e.call)(hy:j2Z (YieldD C.P) e.yield)(hs:Sit E m φ μ st w)(h:EnvR m φ ρ a)(hd:j4L o.op=true)(hx:j4y C e ρ st o.op=some r)
  (hn:∀x st' v w' m' φ' μ',r=.val x st'→Mem.le m m'→Ext st st' φ φ'→Sit E m' φ' μ' st' w'→R m' φ' x v→next (a.put o.dst v) w')
  (hu:∀st' w' m' φ' μ',r=.unit st'→Mem.le m m'→Ext st st' φ φ'→Sit E m' φ' μ' st' w'→next (a.put o.dst undef) w')
  (hp:∀x st' v c w' m' φ' μ',r=.pan x st'→PanL v c→Mem.le m m'→Ext st st' φ φ'→Sit E m' φ' μ' st' w'→R m' φ' x v→Q (.panic c) a w'):o.wpIn (FF ro) k C.P a w next Q:=by
 unfold j4y at hx;split at hx
 ·rename_i g xs ts wA;split at hx
  ·rename_i id hg;split at hx
   ·rename_i vs hB;unfold jh9 at hx;split at hx
    ·rename_i vs1 st1 gA;split at hx
     ·rename_i rs st2 hc;cases hx;have rg:=j0j h hg;obtain⟨m1,μ1,e1,e2,e3,e4⟩:=jiB gA hs (jbc h hB);have hA:Rl m1 φ (.yl id::vs1) (a.eval g::xs.toList.map a.eval):=.cons (rg.mono e1 (Le.refl φ)) e4;have qB:=jfH (YieldD.mono C.P) hy ((HE _).nodup_iff.2 (j5A FP)) e3 hA hc;obtain⟨l,us,fn,tmps,as,bd,h1,h2,h3⟩:=qB;simp only[GK] at h1;obtain⟨hl,rfl⟩:=h1;have ex:xs.map a.eval=(xs.toList.map a.eval).toArray:=by apply Array.ext';simp
      have qA:(execOp a.eval o).run C.P w=.ok (.round l fn tmps as bd) w:=by
       have:(execOp a.eval o).run C.P w=(Instr.yield l (xs.toList.map a.eval).toArray).run C.P w:=by
        unfold execOp;rw[wA];simp[resolve,Deferred.ofValue,hl,invoke,ex]
       rw[this];exact h2
      refine⟨fun _ _=>trivial,?_⟩
      rw[Oper.semAt_eq _ _ _ (fun c e=>by rw[e] at hd;cases hd),qA]
      refine⟨fun e=>(by cases e),?_⟩
      refine RoundIn.mono (F:=Fence.wide) (h3 _) fun en w' ⟨m',φ',μ',q1,q2,q3,q4⟩=>?_
      obtain⟨us',rfl,q5⟩:=q4;exact hn _ _ _ w' m' φ' μ' rfl (e1.trans q1) (e2.trans q2) q3 (jpj q5)
     ·cases hx
    ·cases hx
   ·cases hx
  ·exact jiy hd (jbX he hs h (by first|exact hx|(rw[wA];exact hx)) hn hu hp)
 ·split at hx
  ·rename_i ρ' st1 hq;obtain⟨m1,μ1,e1,e2,e3,e4⟩:=jra hq hs h;exact jiy hd (jbX he e3 e4 hx (fun x st' v w' m' φ' μ' q1 q2 q3 q4 q5=>hn x st' v w' m' φ' μ' q1 (e1.trans q2) (e2.trans q3) q4 q5) (fun st' w' m' φ' μ' q1 q2 q3 q4=>hu st' w' m' φ' μ' q1 (e1.trans q2) (e2.trans q3) q4) (fun x st' v c w' m' φ' μ' q1 q0 q2 q3 q4 q5=>hp x st' v c w' m' φ' μ' q1 q0 (e1.trans q2) (e2.trans q3) q4 q5))
  ·cases hx
def j7S{D:List Deferred}{ro:Option Nat}{k:Nat}(he:CallOk C.P e.call)(hy:j2Z (YieldD C.P) e.yield){ops:Array Oper}{m0:Mem}{φ0:Ph}{st0:Sto}:∀{l:List Oper}{s s':AS}{x:AX}{m:Mem}{φ:Ph}{μ:Own}{a:Act}{w:World},aops C e ops l s=some (x,s')→l.all (fun o=>jaw n o.dst&&j4L o.op)=true→Mem.le m0 m→Ext st0 s.st φ0 φ→Sit E m φ μ s.st w→EnvR m φ s.env a→a.tmps.size=n→a.defers=D →
  wpListIn (FF ro) k C.P ops (Post D E n m0 φ0 st0 x s') l a w
 |[],s,s',x,m,φ,μ,a,w,hx,_,hm,hA,hs,h,hn,hD=>by
  simp only[aops,AD,BB] at hx;obtain⟨rfl,rfl⟩:=hx;exact⟨m,φ,μ,hm,hA,hs,h,hn,hD,rfl⟩
 |o::l,s,s',x,m,φ,μ,a,w,hx,hd,hm,hA,hs,h,hn,hD=>by
  simp only[BH,AB] at hd;obtain⟨⟨gA,wA⟩,qA⟩:=hd;have qA:l.all (fun o=>jaw n o.dst&&j4L o.op)=true:=qA
  simp only[aops] at hx;unfold wpListIn;split at hx
  ·rename_i hg;rw[if_pos (j5Q h hg)];cases ho:j4y C e s.env s.st o.op with
   |none=>simp[ho] at hx
   |some r=>
    rw[ho] at hx;refine jr3 he hy hs h wA ho (fun x1 st1 v w' m' φ' μ' hr q1 q2 q3 q4=>?_) (fun st1 w' m' φ' μ' hr q1 q2 q3=>?_) (fun x1 st1 v c w' m' φ' μ' hr hc q1 q2 q3 q4=>?_)
    ·subst hr;exact j7S he hy hx qA (hm.trans q1) (hA.trans q2) q3 ((h.mono q1 q2.le).put hn gA q4) (by rw[j8W];exact hn) (by rw[put_defers];exact hD)
    ·subst hr;exact j7S he hy hx qA (hm.trans q1) (hA.trans q2) q3 ((h.mono q1 q2.le).put hn gA jfr) (by rw[j8W];exact hn) (by rw[put_defers];exact hD)
    ·subst hr;simp only[AD,BB] at hx;obtain⟨rfl,rfl⟩:=hx;exact⟨m',φ',μ',hm.trans q1,hA.trans q2,q3,h.mono q1 q2.le,hn,hD,v,⟨c,rfl,hc⟩,q4⟩
  ·rename_i hg;rw[if_neg (by rw[j5Q h hg];simp)]
   exact⟨fun _ _=>trivial,j7S (s:=⟨aput o.dst (.tu []) s.env,s.st⟩) he hy hx qA hm hA hs (h.put hn gA jfr) (by rw[j8W];exact hn) (by rw[put_defers];exact hD)⟩
  ·cases hx
def jr2{K K':Act→World→Prop}(hA:∀(i:Nat) o,ops[i]?=some o→j4L o.op=true)(hQ:¬LetsOut Q){i:Nat}(hK:∀a w,K a w→K' a w)(h:wpOp P ops Q i K a w):wpOpIn (FF ro) k P ops Q i K' a w:=by
 refine wpOpIn_mono hK ?_;unfold wpOp at h;unfold wpOpIn;cases ho:ops[i]? with
 |none=>rw[ho] at h;exact h
 |some o=>
  rw[ho] at h;simp only at h ⊢
  by_cases hw:Region.wanted o (yielded ops a.tmps)=true
  ·rw[if_pos hw] at h⊢;rcases h with h|⟨_,h⟩
   ·exact jiy (hA i o ho) h
   ·exact absurd h hQ
  ·rw[if_neg hw] at h⊢;exact⟨fun _ _=>trivial,h⟩
def jmZ{ro:Option Nat}{k:Nat}{md:Region.Mode}{ops:Array Oper}{Q:Exit→Act→World→Prop}(hA:∀(i:Nat) o,ops[i]?=some o→j4L o.op=true)(hQ:¬LetsOut Q):∀{fuel:Nat}{A:Array Bool}{a:Act}{w:World},wpAny P md ops Q fuel A a w→wpAnyIn (FF ro) k P md ops Q fuel A a w
 |0,A,a,w,h=>h
 |fuel+1,A,a,w,h=>⟨h.1,fun i hi=>jr2 hA hQ (fun a w hk=>jmZ hA hQ hk) (h.2 i hi)⟩
def Post.in:¬LetsOut (Post D E n m φ st x s'):=by
 rintro⟨a,w,m',φ',μ',_,_,_,_,_,_,h⟩;cases x with
 |normal=>cases h
 |exit i=>cases h
 |ret=>cases h
 |pan v=>obtain⟨u,⟨c,h,_⟩,_⟩:=h;cases h
end
