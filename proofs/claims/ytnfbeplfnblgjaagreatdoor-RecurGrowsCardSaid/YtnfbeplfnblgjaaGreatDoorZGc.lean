/- What a round of a loop leaves where things of the store refer to each other; what is handed back of it. Plain lemmas, no statement of the seat. -/
import Derived.Test.YtnfbeplfnblgjaaGreatDoorZNg
import Derived.Test.YtnfbeplfnblgjaaGreatDoorZGwr
import Derived.Lib.Join
set_option linter.all false
namespace Go.Am
open Go
def Sh(o:SO)(l:List Nat):Prop:=idsSO o=l∧∀f:Nat→Bool,(∀i∈l,f i=true)→soIn f o=true
def ShL:Sto→List (List Nat)→Prop
 |[],L=>L=[]
 |o::r,L=>∃l L',L=l::L'∧Sh o l∧ShL r L'
theorem ShL.nil:ShL [] []:=rfl
variable{b:Bool}{C:Cfg}{L:List (List Nat)}{l:List Nat}{cs:List PV}{n z:Nat}{f:PV→Sto→Option (PV×Sto)}{st st':Sto}{T:TypeId}
theorem ShL.cons{o:SO}{r:Sto}(h:Sh o l)(k:ShL r L):ShL (o::r) (l::L):=⟨l,L,rfl,h,k⟩
theorem j1k{f g:Nat→Bool}(h:∀i,f i=true→g i=true):∀{n:Nat}{x:PV},inIds f n x=true→inIds g n x=true
 |0,x,hx=>by simp[inIds] at hx
 |n+1,x,hx=>by
  have hall:∀{l:List PV},l.all (inIds f n)=true→l.all (inIds g n)=true:=fun hl=>List.all_eq_true.2 fun y hy=>j1k h (List.all_eq_true.1 hl y hy)
  cases x with
  |ag cs=>simp only[inIds] at hx⊢;exact hall hx
  |tu cs=>simp only[inIds] at hx⊢;exact hall hx
  |ci cs=>simp only[inIds] at hx⊢;exact hall hx
  |fn q a b=>simp only[inIds,Bool.and_eq_true] at hx⊢;exact⟨hall hx.1,hall hx.2⟩
  |ifc t x=>simp only[inIds] at hx⊢;exact j1k h hx
  |ms id len=>simp only[inIds] at hx⊢;exact h _ hx
  |bp id off=>simp only[inIds] at hx⊢;exact h _ hx
  |yl id=>simp only[inIds] at hx⊢;exact h _ hx
  |mr id=>simp only[inIds] at hx⊢;exact h _ hx
  |cr id=>simp only[inIds] at hx⊢;exact h _ hx
  |rp id len i off=>simp only[inIds] at hx⊢;exact h _ hx
  |_=>rfl
theorem j00(h1:cs.flatMap (ids 8)=l)(h2:cs.all (inIds (fun j=>l.elem j) 8)=true):Sh (.box T cs) l:=
 ⟨h1,fun f hf=>List.all_eq_true.2 fun x hx=>j1k (fun i hi=>hf i (by simpa using hi)) (List.all_eq_true.1 h2 x hx)⟩
theorem j03(h:cs.all (pur 8)=true):Sh (.row b T z cs) []:=by
 rw[List.all_eq_true] at h;have key:∀{n:Nat}{x:PV},pur n x=true→ids n x=[]∧∀f,inIds f n x=true:=by
  intro n
  induction n with
  |zero=>intro x hx;simp[pur] at hx
  |succ n ih=>
   intro x hx;have hall:∀{l:List PV},l.all (pur n)=true→l.flatMap (ids n)=[]∧∀f,l.all (inIds f n)=true:=fun{l} hl=>by
    rw[List.all_eq_true] at hl;exact⟨by rw[List.flatMap_eq_nil_iff];exact fun y hy=>(ih (hl y hy)).1,fun f=>List.all_eq_true.2 fun y hy=>(ih (hl y hy)).2 f⟩
   cases x with
   |ag cs=>simp only[pur] at hx;exact hall hx
   |tu cs=>simp only[pur] at hx;exact hall hx
   |fn f a b=>
    simp only[pur,Bool.and_eq_true] at hx;refine⟨by simp only[ids,(hall hx.1).1,(hall hx.2).1,List.append_nil],fun f=>by simp only[inIds,(hall hx.1).2 f,(hall hx.2).2 f,Bool.and_self]⟩
   |ifc t x=>
    simp only[pur] at hx;show ids n x=[]∧∀f,inIds f n x=true
    exact ih hx
   |_=>first|(simp[pur] at hx;done)|exact⟨rfl,fun _=>rfl⟩
 exact⟨by simp only[idsSO];rw[List.flatMap_eq_nil_iff];exact fun y hy=>(key (h y hy)).1,fun f _=>List.all_eq_true.2 fun y hy=>(key (h y hy)).2 f⟩
theorem j07:Sh .dead []:=⟨rfl,fun _ _=>rfl⟩
def j2V(L:List (List Nat)):Nat→List Nat→List Nat→List Nat
 |0,_,acc=>acc
 |n+1,work,acc=>match work with
  |[]=>acc
  |i::r=>match acc.elem i with
   |true=>j2V L n r acc
   |false=>j2V L n (r++(match L[i]? with
    |some l=>l
    |none=>[])) (i::acc)
theorem ShL.at_:∀{st:Sto}{L:List (List Nat)},ShL st L→∀(i:Nat),(∃o l,st[i]?=some o∧L[i]?=some l∧Sh o l)∨(st[i]?=none∧L[i]?=none)
 |[],L,h,i=>by
  have h:L=[]:=h;subst h;exact .inr ⟨by simp,by simp⟩
 |o::r,L,h,i=>by
  obtain⟨l,L',rfl,h1,h2⟩:=h;cases i with
  |zero=>exact .inl ⟨o,l,rfl,rfl,h1⟩
  |succ i=>simpa using ShL.at_ h2 i
theorem j1x{st:Sto}{L:List (List Nat)}(h:ShL st L):∀(n:Nat) (work acc:List Nat),close st n work acc=j2V L n work acc
 |0,_,_=>rfl
 |n+1,[],_=>rfl
 |n+1,i::r,acc=>by
  simp only[close,j2V];cases hb:acc.elem i with
  |true=>exact j1x h n _ _
  |false=>
   rcases h.at_ i with⟨o,l,h1,h2,h3⟩|⟨h1,h2⟩
   ·rw[h1,h2];simp only[h3.1];exact j1x h n _ _
   ·rw[h1,h2];exact j1x h n _ _
theorem ShL.take:∀{st:Sto}{L:List (List Nat)}{k:Nat},ShL st L→(st.take k).flatMap idsSO=(L.take k).flatten
 |[],L,k,h=>by
  have h:L=[]:=h;subst h;simp
 |o::r,L,0,h=>by simp
 |o::r,L,k+1,h=>by
  obtain⟨l,L',rfl,h1,h2⟩:=h;simp only[List.take_succ_cons,List.flatMap_cons,List.flatten_cons,h1.1,ShL.take h2]
theorem ShL.soIn{f:Nat→Bool}:∀{st:Sto}{L:List (List Nat)},ShL st L→L.all (fun l=>l.all f)=true→st.all (soIn f)=true
 |[],_,_,_=>rfl
 |o::r,L,h,hf=>by
  obtain⟨l,L',rfl,h1,h2⟩:=h;simp only[List.all_cons,Bool.and_eq_true] at hf;simp only[List.all_cons,Bool.and_eq_true];exact⟨h1.2 f fun i hi=>List.all_eq_true.1 hf.1 i hi,ShL.soIn h2 hf.2⟩
theorem j0q{k0:Nat}{ρ:AEnv}{L':List (List Nat)}{acc:List Nat}(h:ShL st L)(h':ShL st' L')(hb:Nat.beq st.length k0=false)(hacc:j2V L 64 (ρ.flatMap (fun p=>ids 8 p.2)++(L.take k0).flatten) []=acc)(hs:trim k0 (sweep k0 acc 0 st)=st')
  (hρ:ρ.all (fun p=>inIds (fun i=>Nat.blt i st'.length) 8 p.2)=true) (hL:L'.all (fun l=>l.all fun i=>Nat.blt i st'.length)=true):gc k0 ρ st=st':=by
 unfold gc;simp only[hb,j1x h,h.take,hacc,hs,hρ,h'.soIn hL,Bool.and_self]
theorem j0O{f:FuncId}{rs rs':List PV}{Q:AEnd→Sto→Prop}(hk:C.keep f=false)(hp:pubL C rs st=some (rs',st'))(hr:rs'.all (pur 8)=true)(k:Q (.ret rs') []):VRet C f 0 rs st Q:=by
 refine⟨rs',[],?_,k⟩;simp only[aret,hk,hp,hr];rfl
theorem j02{x y:PV}{l l':List PV}{st1 st2:Sto}(h:f x st=some (y,st1))(k:mapS f l st1=some (l',st2)):mapS f (x::l) st=some (y::l',st2):=by
 simp only[mapS,h,k]
theorem j0h:mapS f [] st=some ([],st):=rfl
theorem j0D{i len:Nat}{xs:List PV}(hst:st[i]?=some (.row b T z xs))(hn:len=xs.length)(hp:xs.all (pur 6)=true):pubV C (n+1) (.ms i len) st=some (.sl false z xs,st.set i (.row true T z xs)):=by
 have:(Nat.beq len xs.length&&xs.all (pur 6))=true:=by rw[hp,hn,Nat.beq_refl];rfl
 simp only[pubV,pubRow,hst,this]
theorem j2q{cs':List PV}(h:mapS (pubV C n) cs st=some (cs',st')):pubV C (n+1) (.ag cs) st=some (.ag cs',st'):=by
 simp only[pubV,h]
end Go.Am
namespace Go.Gw
open Go
abbrev str(l:List UInt8):Value:=.string ⟨l.toArray⟩
theorem j3A(s:ByteArray):Value.string s=str s.data.toList:=by cases s;simp
theorem j5X(l:List UInt8):(⟨l.toArray⟩:ByteArray).toList=l:=by rw[Lib.toList_data]
theorem j1n(l:List UInt8):(⟨l.toArray⟩:ByteArray).size=l.length:=by simp[ByteArray.size]
theorem j9A(a b:List UInt8):(⟨a.toArray⟩:ByteArray)++(⟨b.toArray⟩:ByteArray)=⟨(a++b).toArray⟩:=by
 apply ByteArray.ext;simp
theorem j2v(l:List UInt8)(i j:Nat):(⟨l.toArray⟩:ByteArray).extract i j=⟨((l.drop i).take (j-i)).toArray⟩:=by
 apply ByteArray.ext;simp[List.extract_eq_take_drop]
section
variable{E:Entry}{P:Program}{n:Nat}{ρ:Env}{m:Mem}{μ:Own}{ty:TypeId}{pos:String}{after:Array Edge}
variable{dst:Option Nat}{gd:Option (Nat×Bool)}{T T':TypeId}{x y z:Operand}{i j:Int}{a b:List UInt8}
end
open Go
def SlV{α:Type}(V:Mem→α→List Value→Prop)(sz bound:Nat)(m:Mem)(xs:List α)(sv:Value):Prop:=
 ∃a cap,sv=.slice a xs.length cap∧xs.length≤cap∧xs.length≤bound∧∀i x,xs[i]?=some x→∃b off cs,a=some ⟨b,off,none⟩∧RdN m b (off+i*sz) cs∧V m x cs
variable{k n:Int}{ls:List Lv}{cs:List Value}{m m':Mem}{bound sz:Nat}{α:Type}{sv:Value}
theorem SlV.mono{V:Mem→α→List Value→Prop}{xs:List α}(h:SlV V sz bound m xs sv)(hV:∀x cs,V m x cs→V m' x cs)(hle:Mem.le m m'):SlV V sz bound m' xs sv:=by
 obtain⟨a,cap,h1,h2,h3,h4⟩:=h;refine⟨a,cap,h1,h2,h3,fun i x hx=>?_⟩
 obtain⟨b,off,cs,h5,h6,h7⟩:=h4 i x hx;exact⟨b,off,cs,h5,h6.mono hle,hV _ _ h7⟩
theorem SlV.nil{V:Mem→α→List Value→Prop}:SlV V sz bound m [] (.slice none 0 0):=
 ⟨none,0,rfl,Nat.le_refl _,Nat.zero_le _,fun i x h=>by simp at h⟩
def AllV{α:Type}(V:Mem→α→List Value→Prop)(sz:Nat)(m:Mem):List α→List (List Value)→Prop
 |[],[]=>True
 |x::xs,c::cs=>(V m x c∧c.length=sz)∧AllV V sz m xs cs
 |_,_=>False
section
variable{α:Type}{V:Mem→α→List Value→Prop}{sz:Nat}{m m':Mem}
theorem AllV.mono(hV:∀x cs,V m x cs→V m' x cs):∀{xs:List α}{cs:List (List Value)},AllV V sz m xs cs→AllV V sz m' xs cs
 |[],[],_=>trivial
 |_::_,_::_,h=>⟨⟨hV _ _ h.1.1,h.1.2⟩,AllV.mono hV h.2⟩
 |[],_::_,h=>h.elim
 |_::_,[],h=>h.elim
theorem AllV.snoc:∀{xs:List α}{cs:List (List Value)}{x:α}{c:List Value},AllV V sz m xs cs→V m x c→c.length=sz→AllV V sz m (xs++[x]) (cs++[c])
 |[],[],_,_,_,h,h3=>⟨⟨h,h3⟩,trivial⟩
 |_::_,_::_,_,_,h,h',h3=>⟨h.1,AllV.snoc h.2 h' h3⟩
 |[],_::_,_,_,h,_,_=>h.elim
 |_::_,[],_,_,h,_,_=>h.elim
theorem AllV.length:∀{xs:List α}{cs:List (List Value)},AllV V sz m xs cs→cs.length=xs.length
 |[],[],_=>rfl
 |_::_,_::_,h=>by simp[AllV.length h.2]
 |[],_::_,h=>h.elim
 |_::_,[],h=>h.elim
theorem AllV.flatten_length:∀{xs:List α}{cs:List (List Value)},AllV V sz m xs cs→cs.flatten.length=xs.length*sz
 |[],[],_=>by simp
 |_::xs,_::_,h=>by rw[List.flatten_cons,List.length_append,AllV.flatten_length h.2,h.1.2,List.length_cons,Nat.succ_mul,Nat.add_comm]
 |[],_::_,h=>h.elim
 |_::_,[],h=>h.elim
theorem AllV.at{b:Nat}:∀{xs:List α}{cs:List (List Value)}{off i:Nat}{x:α},AllV V sz m xs cs→RdN m b off cs.flatten→xs[i]?=some x→∃c,RdN m b (off+i*sz) c∧V m x c
 |x0::xs,c0::cs,off,i,x,h,hr,hx=>by
  cases i with
  |zero=>
   simp at hx;subst hx;refine⟨c0,fun j v hj=>?_,h.1.1⟩
   have:=hr j v (by rw[List.flatten_cons,List.getElem?_append_left (List.getElem?_eq_some_iff.1 hj).1];exact hj)
   simpa using this
  |succ i=>
   have hr':RdN m b (off+sz) cs.flatten:=fun j v hj=>by
    have:=hr (sz+j) v (by rw[List.flatten_cons,List.getElem?_append_right (by have:=h.1.2;omega),h.1.2];simpa using hj)
    rwa [←Nat.add_assoc] at this
   obtain⟨c,h1,h2⟩:=AllV.at h.2 hr' (by simpa using hx)
   refine⟨c,?_,h2⟩
   rwa [show off+(i+1)*sz=off+sz+i*sz by rw[Nat.succ_mul];omega]
 |[],_,_,i,x,_,_,hx=>by simp at hx
 |_::_,[],_,_,_,h,_,_=>h.elim
theorem AllV.made{xs:List α}{cs:List (List Value)}{a:Option Addr}{cap bound:Nat}(hz:0<sz)(h:AllV V sz m xs cs)(hr:RowAt m a cs.flatten)(hc:xs.length≤cap)(hb:xs.length≤bound):SlV V sz bound m xs (.slice a xs.length cap):=by
 refine⟨a,cap,rfl,hc,hb,fun i x hx=>?_⟩
 rcases hr with hr|⟨b,rfl,hr⟩
 ·have h1:=h.flatten_length;rw[hr] at h1;have h2:=(List.getElem?_eq_some_iff.1 hx).1;have h3:0<xs.length*sz:=Nat.mul_pos (by omega) hz
  simp at h1;omega
 ·obtain⟨c,h1,h2⟩:=h.at hr hx;exact⟨b,0,c,rfl,h1,h2⟩
end
def StrV(_:Mem)(s:List UInt8)(cs:List Value):Prop:=cs=[str s]∧s.length≤140737488355328
abbrev StrsV:=SlV StrV 1 8796093022208
theorem StrsV.mono{xs:List (List UInt8)}(h:StrsV m xs sv)(hle:Mem.le m m'):StrsV m' xs sv:=SlV.mono h (fun _ _ h=>h) hle
inductive Tm where
 |mk (k n:Int) (s:List UInt8) (ls:List Lv) (ts:List Tm)
mutual
theorem Tm.ind{P:Tm→Prop}(h:∀k n s ls ts,(∀t∈ts,P t)→P (.mk k n s ls ts)):∀t,P t
 | .mk k n s ls ts=>h k n s ls ts (Tm.inds h ts)
theorem Tm.inds{P:Tm→Prop}(h:∀k n s ls ts,(∀t∈ts,P t)→P (.mk k n s ls ts)):∀ts:List Tm,∀t∈ts,P t
 |[],_,hl=>by cases hl
 |x::r,l,hl=>by
  rcases List.mem_cons.1 hl with e|e
  ·rw[e];exact Tm.ind h x
  ·exact Tm.inds h r l e
end
inductive TmV (m:Mem):Tm→List Value→Prop where
 |mk {k n:Int}{s:List UInt8}{ls:List Lv}{ts:List Tm}{la ta:Option Addr}{lcap tcap:Nat}(f:Nat→Nat×Nat×List Value) (hk:i64 k) (hn:i64 n) (hs:s.length≤140737488355328)
  (hl:LvsS m ls (.slice la ls.length lcap)) (hc:ts.length≤tcap) (hb:ts.length≤1759218604441)
  (ha:∀i x,ts[i]?=some x→ta=some ⟨(f i).1,(f i).2.1,none⟩∧RdN m (f i).1 ((f i).2.1+i*5) (f i).2.2) (ht:∀i x,ts[i]?=some x→TmV m x (f i).2.2) :
  TmV m (.mk k n s ls ts) [.int .i64 k,.int .i64 n,str s,.slice la ls.length lcap,.slice ta ts.length tcap]
abbrev TmsV:=SlV TmV 5 1759218604441
variable{t:Tm}
theorem TmV.mono(hle:Mem.le m m')(h:TmV m t cs):TmV m' t cs:=by
 induction h with
 |mk f hk hn hs hl hc hb ha ht ih=>exact .mk f hk hn hs (hl.mono hle) hc hb (fun i x hx=>⟨(ha i x hx).1,(ha i x hx).2.mono hle⟩) ih
variable{ts:List Tm}
theorem TmsV.mono(h:TmsV m ts sv)(hle:Mem.le m m'):TmsV m' ts sv:=SlV.mono h (fun _ _ h=>TmV.mono hle h) hle
theorem TmV.len(h:TmV m t cs):cs.length=5:=by cases h;rfl
theorem TmV.open(h:TmV m t cs):∃k n s ls ts la lcap ta tcap,t=.mk k n s ls ts∧cs=[.int .i64 k,.int .i64 n,str s,.slice la (List.length (α:=Lv) ls) lcap,.slice ta (List.length (α:=Tm) ts) tcap] ∧
  i64 k∧i64 n∧s.length≤140737488355328∧LvsS m ls (.slice la ls.length lcap)∧TmsV m ts (.slice ta ts.length tcap):=by
 cases h with
 |mk f hk hn hs hl hc hb ha ht=>exact⟨_,_,_,_,_,_,_,_,_,rfl,rfl,hk,hn,hs,hl,_,_,rfl,hc,hb,fun i x hx=>⟨_,_,_,(ha i x hx).1,(ha i x hx).2,ht i x hx⟩⟩
theorem TmV.of{s:List UInt8}{la ta:Option Addr}{lcap tcap:Nat}(hk:i64 k)(hn:i64 n)(hs:s.length≤140737488355328)
  (hl:LvsS m ls (.slice la ls.length lcap)) (ht:TmsV m ts (.slice ta ts.length tcap)):TmV m (.mk k n s ls ts) [.int .i64 k,.int .i64 n,str s,.slice la ls.length lcap,.slice ta ts.length tcap]:=by
 obtain⟨a,cap,h1,h2,h3,h4⟩:=ht;simp only[Value.slice.injEq,true_and] at h1;obtain⟨rfl,rfl⟩:=h1;have hf:∃f:Nat→Nat×Nat×List Value,∀i x,ts[i]?=some x→(ta=some ⟨(f i).1,(f i).2.1,none⟩∧RdN m (f i).1 ((f i).2.1+i*5) (f i).2.2)∧TmV m x (f i).2.2:=by
  refine Classical.axiomOfChoice (r:=fun i (p:Nat×Nat×List Value)=>∀x,ts[i]?=some x→(ta=some ⟨p.1,p.2.1,none⟩∧RdN m p.1 (p.2.1+i*5) p.2.2)∧TmV m x p.2.2) fun i=>?_
  cases h:ts[i]? with
  |none=>exact⟨(0,0,[]),fun x hx=>by cases hx⟩
  |some x=>
   obtain⟨b,off,cs,h5,h6,h7⟩:=h4 i x h;exact⟨(b,off,cs),fun y hy=>by cases hy;exact⟨⟨h5,h6⟩,h7⟩⟩
 obtain⟨f,hf⟩:=hf;exact .mk f hk hn hs hl h2 h3 (fun i x hx=>(hf i x hx).1) (fun i x hx=>(hf i x hx).2)
theorem TmsV.at{m:Mem}{ts:List Tm}{a:Option Addr}{len cap:Nat}(h:TmsV m ts (.slice a len cap)){i:Nat}{x:Tm}(hx:ts[i]?=some x):∃b off k n s ls us la lcap ta tcap,a=some ⟨b,off,none⟩∧x=.mk k n s ls us ∧
  RdN m b (off+i*5) [.int .i64 k,.int .i64 n,str s,.slice la (List.length (α:=Lv) ls) lcap,.slice ta (List.length (α:=Tm) us) tcap]∧TmV m x [.int .i64 k,.int .i64 n,str s,.slice la ls.length lcap,.slice ta us.length tcap]:=by
 obtain⟨a',cap',h1,h2,h3,h4⟩:=h;simp only[Value.slice.injEq] at h1;obtain⟨rfl,rfl,rfl⟩:=h1;obtain⟨b,off,cs,h5,h6,h7⟩:=h4 i x hx;have h8:=h7;obtain⟨k,n,s,ls,us,la,lcap,ta,tcap,e1,e2,-⟩:=h7.open;rw[e2] at h6 h8;exact⟨b,off,k,n,s,ls,us,la,lcap,ta,tcap,h5,e1,h6,h8⟩
open Go
def Tm.kind:Tm→Int | .mk k _ _ _ _=>k
def Tm.num:Tm→Int | .mk _ n _ _ _=>n
def Tm.name:Tm→List UInt8 | .mk _ _ s _ _=>s
def Tm.levels:Tm→List Lv | .mk _ _ _ ls _=>ls
def Tm.args:Tm→List Tm | .mk _ _ _ _ ts=>ts
def Tm.zero:Tm:=.mk 0 0 [] [] []
mutual
def cntT:Tm→Int→Int
 | .mk _ _ _ ls ts,left=>j1S ts (j0d ls (left-1))
def j1S:List Tm→Int→Int
 |[],left=>left
 |t::r,left=>if left<0 then left else j1S r (cntT t left)
end
def j0r(t:Tm):Int:=2000-max (cntT t 2000) (-1)
mutual
theorem j5a:∀(t:Tm) (left:Int),0≤left→-1≤cntT t left∧cntT t left≤left
 | .mk _ _ _ ls ts,left,h=>by
  simp only[cntT];have h1:=j1F ls (left-1) (by omega)
  have h2:=j7H ts (j0d ls (left-1)) h1.1;omega
theorem j7H:∀(ts:List Tm) (left:Int),-1≤left→-1≤j1S ts left∧j1S ts left≤left
 |[],left,h=>by simp only[j1S];omega
 |t::r,left,h=>by
  simp only[j1S];split
  ·omega
  ·have h1:=j5a t left (by omega)
   have h2:=j7H r (cntT t left) (by omega)
   omega
end
theorem j1E(ts:List Tm)(left:Int)(h:left<0):j1S ts left=left:=by
 cases ts<;>simp[j1S,h]
def j1O(k:Int):Int:=if k=4∨k=5∨k=6 then 2 else if k=7 then 3 else 0
def j1g(k:Int):Int:=if k=2 then 1 else 0
def j06(k:Int):Int:=if k=0 then 0 else if k=5∨k=6 then 1 else if k=7 then 2 else -1
def j08(binds at_ deep:Int):Int:=if at_=binds then deep+1 else deep
def j4j(c:UInt8):Bool:=(97≤c&&c≤122)||(48≤c&&c≤57)||c == 95
def j2F(s:List UInt8):Bool:=match s with
 |[]=>false
 |c::r=>!(48≤c&&c≤57)&&(c::r).all j4j
def j0U:List UInt8→List UInt8→List (List UInt8)
 |acc,[]=>[acc.reverse]
 |acc,c::r=>if c == 46 then acc.reverse::j0U [] r else j0U (c::acc) r
def j1M(s:List UInt8):List (List UInt8):=j0U [] s
def j1t(s:List UInt8):Bool:=decide (s.length≤40)&&(j1M s).all j2F
def j1A:Tm→Int→Bool
 | .mk k n s ls _,kk=>if k=1 then decide (0≤n)&&(decide (n<kk)&&(s == []&&decide (ls.length=0))) else if k=3 then decide (n=0)&&(j1t s&&decide (ls.length≤4)) else decide (n=0)&&(s == []&&decide ((ls.length:Int)=j1g k))
def j0F:List Lv→Int→Bool
 |[],_=>true
 |l::r,p=>j2e l p&&j0F r p
mutual
def allT:Tm→Int→Int→Bool
 | .mk k n s ls ts,p,kk=>(decide (1≤k)&&decide (k≤7))&&(decide ((ts.length:Int)=j1O k)&&(j1A (.mk k n s ls ts) kk&&(j0F ls p&&j0g ts k 0 p kk)))
def j0g:List Tm→Int→Int→Int→Int→Bool
 |[],_,_,_,_=>true
 |t::r,k,i,p,kk=>allT t p (j08 (j06 k) i kk)&&j0g r k (i+1) p kk
end
def j1c(t:Tm)(p kk:Int):Bool:=decide (0≤p)&&(decide (p≤4)&&(decide (0≤kk)&&(decide (j0r t≤2000)&&allT t p (min kk 1125899906842624))))
mutual
def depT:Tm→Nat
 | .mk _ _ _ _ ts=>j2Y ts+1
def j2Y:List Tm→Nat
 |[]=>0
 |t::r=>max (depT t) (j2Y r)
end
theorem j2k:∀{ts:List Tm}{t:Tm},t∈ts→depT t≤j2Y ts
 |x::r,t,h=>by
  rw[j2Y];rcases List.mem_cons.1 h with rfl|h
  ·omega
  ·have:=j2k h;omega
mutual
theorem j7F:∀(t:Tm) (left:Int),0≤left→0≤cntT t left→(depT t:Int)≤left
 | .mk _ _ _ ls ts,left,h,hc=>by
  simp only[cntT] at hc;rw[depT];have h1:=j1F ls (left-1) (by omega)
  have h2:=j6c ts (j0d ls (left-1)) h1.1 hc;omega
theorem j6c:∀(ts:List Tm) (left:Int),-1≤left→0≤j1S ts left→(j2Y ts:Int)≤left
 |[],left,h,hc=>by simp only[j1S] at hc;simp[j2Y,hc]
 |t::r,left,h,hc=>by
  simp only[j1S] at hc;split at hc
  ·omega
  ·rename_i h0;have h1:=j5a t left (by omega)
   have h2:=j6c r (cntT t left) (by omega) hc
   have h3:0≤cntT t left:=by
    by_cases h4:cntT t left<0
    ·rw[j1E r _ h4] at hc;omega
    ·omega
   have h4:=j7F t left (by omega) h3
   rw[j2Y];omega
end
theorem j6z(h:j0r t≤2000):depT t≤2000:=by
 unfold j0r at h;have:=j7F t 2000 (by omega) (by omega)
 omega
def jdL:Tm→List Tm→Tm×List Tm
 | .mk 4 n s ls [f,x],acc=>jdL f (x::acc)
 |t,acc=>(t,acc)
open Go
def j2G(parts:List (List UInt8)):List UInt8:=[40]++Lib.join parts [32]++[41]
def jaR(k:Int):List UInt8:=if k=3 then[43] else if k=4 then[124] else if k=5 then[63] else[]
def j9C(k:Int):List UInt8:=if k=5 then[92] else if k=6 then[62] else if k=7 then[61] else[]
mutual
def j2o:Lv→List UInt8
 | .mk k n ls=>if k=1 then Lib.itoa n else if k=2 then[117]++Lib.itoa n else j2G (jaR k::j1s ls)
def j1s:List Lv→List (List UInt8)
 |[]=>[]
 |l::r=>j2o l::j1s r
end
def jdu(l:Lv):List UInt8:=if j2e l 4=true then j2o l else[]
mutual
def txT:Tm→List UInt8×List (List UInt8)
 | .mk k n s ls ts=>
  let cs:=txTs ts
  if k=4 then
   let parts:=(cs.getD 0 ([],[])).2++[(cs.getD 1 ([],[])).1]
   (j2G parts,parts)
  else
   let t:=if k=1 then[35]++Lib.itoa n else if k=2 then j2G [[42],j2o (ls.getD 0 (.mk 0 0 []))] else if k=3 then(if ls.length=0 then s else j2G ([64]::s::j1s ls)) else j2G (j9C k::cs.map (·.1))
   (t,[t])
def txTs:List Tm→List (List UInt8×List (List UInt8))
 |[]=>[]
 |t::r=>txT t::txTs r
end
def jdV(t:Tm):List UInt8:=if j1c t 4 1125899906842624=true then(txT t).1 else[]
def je8(c:UInt8):Bool:=c == 32||c == 40||c == 41
def j9h:List UInt8→List UInt8×List UInt8
 |[]=>([],[])
 |c::r=>if je8 c then([],c::r) else((c::(j9h r).1),(j9h r).2)
def numF(s:List UInt8):Option Int:=if s=[] then none else if s.length≤18∧s.all (fun c=>48≤c&&c≤57) then some (s.foldl (fun a c=>a*10+((c.toNat:Int)-48)) 0) else none
def jez(s:List UInt8):Int:=if s=[43] then 3 else if s=[124] then 4 else if s=[63] then 5 else 0
mutual
def jcc:Nat→List UInt8→Option (Lv×List UInt8)
 |0,_=>none
 |fuel+1,s=>match s with
  |[]=>none
  |40::r=>
   let w:=j9h r
   match j7p fuel w.2 with
   |some (ls,41::r')=>some (.mk (jez w.1) 0 ls,r')
   |_=>none
  |s=>
   let w:=j9h s
   match w.1 with
   |117::d=>(numF d).map fun n=>(.mk 2 n [],w.2)
   |d=>(numF d).map fun n=>(.mk 1 n [],w.2)
def j7p:Nat→List UInt8→Option (List Lv×List UInt8)
 |0,_=>none
 |fuel+1,s=>match s with
  |32::r=>match jcc fuel r with
   |some (l,r')=>(j7p fuel r').map fun p=>(l::p.1,p.2)
   |none=>none
  |s=>some ([],s)
end
def j9D(s:List UInt8):Int:=if s=[92] then 5 else if s=[62] then 6 else if s=[61] then 7 else 0
def appF(f:Tm):List Tm→Tm
 |[]=>f
 |x::r=>appF (.mk 4 0 [] [] [f,x]) r
mutual
def jaK:Nat→List UInt8→Option (Tm×List UInt8)
 |0,_=>none
 |fuel+1,s=>match s with
  |[]=>none
  |40::r=>match jdG fuel r with
   |some (t,41::r')=>some (t,r')
   |_=>none
  |s=>
   let w:=j9h s
   match w.1 with
   |35::d=>(numF d).map fun n=>(.mk 1 n [] [] [],w.2)
   |d=>some (.mk 3 0 d [] [],w.2)
def jdG:Nat→List UInt8→Option (Tm×List UInt8)
 |0,_=>none
 |fuel+1,s=>match s with
  |42::32::r=>(jcc fuel r).map fun p=>(.mk 2 0 [] [p.1] [],p.2)
  |64::32::r=>let w:=j9h r
   (j7p fuel w.2).map fun p=>(.mk 3 0 w.1 p.1 [],p.2)
  |c::32::r=>if j9D [c]=0 then(match jaK fuel (c::32::r) with
    |some (t,r')=>(j5G fuel r').map fun p=>(appF t p.1,p.2)
    |none=>none)
   else(j5G fuel (32::r)).map fun p=>(.mk (j9D [c]) 0 [] [] p.1,p.2)
  |s=>match jaK fuel s with
    |some (t,r')=>(j5G fuel r').map fun p=>(appF t p.1,p.2)
    |none=>none
def j5G:Nat→List UInt8→Option (List Tm×List UInt8)
 |0,_=>none
 |fuel+1,s=>match s with
  |32::r=>match jaK fuel r with
   |some (t,r')=>(j5G fuel r').map fun p=>(t::p.1,p.2)
   |none=>none
  |s=>some ([],s)
end
open Go
theorem j3p:∀ls:List Lv,j1s ls=ls.map j2o
 |[]=>rfl
 |l::r=>by rw[j1s,j3p r];rfl
theorem j6n(xs:List (List UInt8)):(j2G xs).length=(Lib.join xs [32]).length+2:=by simp[j2G]
theorem jba(h:allF (.mk k n ls) 4=true)(h1:¬k=1)(h2:¬k=2):(3≤k∧k≤5)∧0<ls.length∧ls.length≤2:=by
 rw[allF,Bool.and_eq_true] at h;have h:=h.1;rw[j7n] at h;split at h
 ·rename_i hw;unfold j9g at hw;split at hw<;>(try split at hw)<;>(try split at hw)<;>(try split at hw)<;>omega
 ·cases h
mutual
theorem jav:∀(l:Lv),allF l 4=true→(j2o l).length≤30*j0Z l
 | .mk k n ls,h=>by
  have h0:=h;rw[allF,Bool.and_eq_true] at h;rw[j2o,j0Z]
  by_cases h1:k=1
  ·subst h1;rw[if_pos rfl];have hn:0≤n∧n≤100:=by
    have h:=h.1;rw[j7n] at h;split at h<;>simp at h
    exact h
   have:=Lib.itoa_length_le n (by omega) (by omega)
   omega
  ·rw[if_neg h1]
   by_cases h2:k=2
   ·subst h2;rw[if_pos rfl];have hn:0≤n∧n<4:=by
     have h:=h.1;rw[j7n] at h;split at h<;>simp at h
     exact h
    have:=Lib.itoa_length_le n (by omega) (by omega)
    simp;omega
   ·rw[if_neg h2];have hk:=jba h0 h1 h2;have hs:=j4D ls h.2;have h3:(jaR k).length≤1:=by unfold jaR;split<;>(try split)<;>(try split)<;>simp
    rw[j6n,Lib.join_length,j3p];rw[j3p] at hs;have h4:Lib.lens (jaR k::ls.map j2o)=(jaR k).length+Lib.lens (ls.map j2o):=by simp[Lib.lens]
    rw[h4];simp;omega
theorem j4D:∀(ls:List Lv),j2f ls 4=true→Lib.lens (j1s ls)≤30*j0c ls
 |[],_=>by simp[j1s,Lib.lens]
 |l::r,h=>by
  rw[j2f,Bool.and_eq_true] at h;have h1:=jav l h.1;have h2:=j4D r h.2;have h4:Lib.lens (j2o l::j1s r)=(j2o l).length+Lib.lens (j1s r):=by simp[Lib.lens]
  rw[j1s,j0c,h4];omega
end
mutual
def jed:Tm→Bool
 | .mk k _ _ _ ts=>decide (k≠4)&&jca ts
def jca:List Tm→Bool
 |[]=>true
 |t::r=>jed t&&jca r
end
mutual
def txN:Tm→List UInt8
 | .mk k n s ls ts=>if k=1 then[35]++Lib.itoa n else if k=2 then j2G [[42],j2o (ls.getD 0 (.mk 0 0 []))] else if k=3 then(if ls.length=0 then s else j2G ([64]::s::j1s ls)) else j2G (j9C k::txNs ts)
def txNs:List Tm→List (List UInt8)
 |[]=>[]
 |t::r=>txN t::txNs r
end
def jf7(t:Tm):List UInt8:=if j1c t 4 1125899906842624=true then txN t else[]
end Go.Gw
