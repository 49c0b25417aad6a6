/- Texts in order, each once: plain functions that are quickly reckoned, and that they are the library's. -/
import Derived.Lib.SlicesCompact
import Derived.Sort.KeysCollected
set_option linter.all false
namespace Go.Am
open Go
def ltS:List UInt8→List UInt8→Bool
 |[],[]=>false
 |[],_::_=>true
 |_::_,[]=>false
 |a::r,b::s=>match Nat.blt a.toNat b.toNat with
  |true=>true
  |false=>match Nat.beq a.toNat b.toNat with
   |true=>ltS r s
   |false=>false
theorem jau:∀(x y:List UInt8),ltS x y=decide (x<y)
 |[],[]=>by simp[ltS]
 |[],b::s=>by simp[ltS]
 |a::r,[]=>by simp[ltS]
 |a::r,b::s=>by
  have ih:=jau r s;rw[ltS];rw[Bool.eq_iff_iff,decide_eq_true_eq,List.cons_lt_cons_iff];rw[Bool.eq_iff_iff,decide_eq_true_eq] at ih;have h1:a<b↔a.toNat<b.toNat:=UInt8.lt_iff_toNat_lt;have h2:a=b↔a.toNat=b.toNat:=UInt8.toNat_inj.symm;rw[h1,h2];cases hb:Nat.blt a.toNat b.toNat with
  |true=>rw[Nat.blt_eq] at hb;simp[hb]
  |false=>
   have hb':¬a.toNat<b.toNat:=fun e=>by rw[←Nat.blt_eq,hb] at e;cases e
   cases he:Nat.beq a.toNat b.toNat with
   |true=>
    have he':=Nat.eq_of_beq_eq_true he;simp[he',ih]
   |false=>
    have he':¬a.toNat=b.toNat:=fun e=>by rw[e,Nat.beq_refl] at he;cases he
    simp[hb',he']
def insS(x:List UInt8):List (List UInt8)→List (List UInt8)
 |[]=>[x]
 |y::r=>match ltS y x with
  |true=>y::insS x r
  |false=>x::y::r
def j0Q:List (List UInt8)→List (List UInt8)
 |[]=>[]
 |x::r=>insS x (j0Q r)
theorem j3Z(x:List UInt8):∀l,(insS x l).Perm (x::l)
 |[]=>List.Perm.refl _
 |y::r=>by
  unfold insS;split
  ·exact((j3Z x r).cons y).trans (List.Perm.swap x y r)
  ·exact List.Perm.refl _
theorem j2E:∀l,(j0Q l).Perm l
 |[]=>List.Perm.refl _
 |x::r=>(j3Z x (j0Q r)).trans ((j2E r).cons x)
theorem j1a(l:List (List UInt8)):(j0Q l).length=l.length:=(j2E l).length_eq
theorem j4a(x:List UInt8):∀l:List (List UInt8),l.Pairwise (fun a b=>a≤b)→(insS x l).Pairwise (fun a b=>a≤b)
 |[],_=>by simp[insS]
 |y::r,h=>by
  have h1:=List.pairwise_cons.1 h;unfold insS;cases hb:ltS y x with
  |true=>
   simp only;rw[jau,decide_eq_true_eq] at hb;refine List.pairwise_cons.2 ⟨fun z hz=>?_,j4a x r h1.2⟩
   rcases List.mem_cons.1 ((j3Z x r).mem_iff.1 hz) with rfl|hz
   ·exact List.le_of_lt hb
   ·exact h1.1 z hz
  |false=>
   simp only;rw[jau,decide_eq_false_iff_not] at hb;have hxy:x≤y:=List.not_lt.1 hb;refine List.pairwise_cons.2 ⟨fun z hz=>?_,h⟩
   rcases List.mem_cons.1 hz with rfl|hz
   ·exact hxy
   ·exact List.le_trans hxy (h1.1 z hz)
theorem j3z:∀l,(j0Q l).Pairwise (fun a b=>a≤b)
 |[]=>by simp[j0Q]
 |x::r=>j4a x _ (j3z r)
theorem jbS(l:List (List UInt8)):l.mergeSort (fun x y=>decide (x≤y))=j0Q l:=by
 have tr:∀a b c:List UInt8,decide (a≤b)=true→decide (b≤c)=true→decide (a≤c)=true:=fun a b c h1 h2=>by simp only[decide_eq_true_eq] at *;exact List.le_trans h1 h2
 have to:∀a b:List UInt8,(decide (a≤b)||decide (b≤a))=true:=fun a b=>by simp only[Bool.or_eq_true,decide_eq_true_eq];exact List.le_total a b
 refine List.Perm.eq_of_pairwise (le:=fun a b=>decide (a≤b)=true) (fun a b _ _ h1 h2=>?_) (List.pairwise_mergeSort tr to l) ?_ ((List.mergeSort_perm l _).trans (j2E l).symm)
 ·simp only[decide_eq_true_eq] at h1 h2;exact List.le_antisymm h1 h2
 ·exact(j3z l).imp fun h=>decide_eq_true h
def eqS:List UInt8→List UInt8→Bool
 |[],[]=>true
 |a::r,b::s=>match Nat.beq a.toNat b.toNat with
  |true=>eqS r s
  |false=>false
 |_,_=>false
theorem j7Q:∀(x y:List UInt8),eqS x y=decide (x=y)
 |[],[]=>by simp[eqS]
 |[],b::s=>by simp[eqS]
 |a::r,[]=>by simp[eqS]
 |a::r,b::s=>by
  have ih:=j7Q r s;rw[eqS];cases he:Nat.beq a.toNat b.toNat with
  |true=>
   have he':a=b:=UInt8.toNat_inj.1 (Nat.eq_of_beq_eq_true he);simp[he',ih]
  |false=>
   have he':a≠b:=fun e=>by rw[e,Nat.beq_refl] at he;cases he
   simp[he']
def j0x(p:List UInt8):List (List UInt8)→List (List UInt8)
 |[]=>[]
 |x::r=>match eqS x p with
  |true=>j0x p r
  |false=>x::j0x x r
def j1U:List (List UInt8)→List (List UInt8)
 |[]=>[]
 |x::r=>x::j0x x r
theorem j1T:∀(p:List UInt8) (l:List (List UInt8)) (x:List UInt8),j0x p (l++[x])=j0x p l++(if x=(l.getLast?).getD p then[] else[x])
 |p,[],x=>by
  simp only[List.nil_append,j0x,j7Q]
  by_cases h:x=p<;>simp[h]
 |p,y::r,x=>by
  have hl:((y::r).getLast?).getD p=(r.getLast?).getD y:=by cases r<;>simp[List.getLast?_cons]
  simp only[List.cons_append,j0x,hl];cases he:eqS y p with
  |true=>
   rw[j7Q,decide_eq_true_eq] at he;subst he;exact j1T y r x
  |false=>
   simp only[List.cons_append];rw[j1T y r x]
theorem j8B(l:List (List UInt8))(x:List UInt8):j1U (l++[x])=j1U l++(if l.getLast?=some x then[] else[x]):=by
 cases l with
 |nil=>simp[j1U,j0x]
 |cons y r=>
  have hl:(y::r).getLast?=some ((r.getLast?).getD y):=by cases r<;>simp[List.getLast?_cons]
  simp only[List.cons_append,j1U,j1T,hl,Option.some.injEq]
  by_cases h:x=(r.getLast?).getD y
  ·rw[if_pos h,if_pos h.symm]
  ·rw[if_neg h,if_neg (fun e=>h e.symm)]
theorem j8C(zs:List (List UInt8)):Lib.compact zs=j1U zs:=by
 have main:∀m,m≤zs.length→Lib.compactUpTo zs.toArray m=j1U (zs.take m):=by
  intro m
  induction m with
  |zero=>intro _;simp[Lib.compactUpTo,j1U]
  |succ m ih=>
   intro hm;have hlt:m<zs.length:=by omega
   rw[Lib.compactUpTo_succ,ih (by omega),List.take_succ_eq_append_getElem hlt,j8B]
   congr 1
   have hg:zs.toArray[m]! = zs[m]:=by simp[getElem!_pos,hlt]
   rw[hg];cases m with
   |zero=>simp[Lib.keeps]
   |succ k=>
    have hg2:zs.toArray[k]! = zs[k]:=by
     have hk:k<zs.length:=by omega
     simp[List.getElem?_eq_getElem hk]
    have hlast:(zs.take (k+1)).getLast?=some zs[k]:=by
     rw[List.take_succ_eq_append_getElem (show k<zs.length by omega)]
     exact List.getLast?_concat
    rw[hlast];simp only[Lib.keeps,hg,Nat.add_sub_cancel,hg2]
    by_cases h:zs[k+1]=zs[k]
    ·simp[h]
    ·have h':¬zs[k]=zs[k+1]:=fun e=>h e.symm
     simp[h,h']
 have:=main zs.length (Nat.le_refl _);rw[List.take_length] at this;exact this
theorem j2i:∀{p:List UInt8}{l:List (List UInt8)}{s:List UInt8},s∈p::j0x p l↔s∈p::l
 |p,[],s=>by simp[j0x]
 |p,x::r,s=>by
  simp only[j0x];cases he:eqS x p with
  |true=>
   rw[j7Q,decide_eq_true_eq] at he;subst he;have:=j2i (p:=x) (l:=r) (s:=s);simp only[List.mem_cons] at this⊢;rw[this];simp
  |false=>
   have:=j2i (p:=x) (l:=r) (s:=s);simp only[List.mem_cons] at this⊢;rw[this]
variable{l:List (List UInt8)}{s:List UInt8}
theorem j9N:s∈j1U l↔s∈l:=by
 cases l with
 |nil=>simp[j1U]
 |cons x r=>exact j2i
theorem j1o:∀(p:List UInt8) (l:List (List UInt8)),(j0x p l).length≤l.length
 |p,[]=>by simp[j0x]
 |p,x::r=>by
  simp only[j0x];split
  ·have:=j1o p r;simp;omega
  ·have:=j1o x r;simp;omega
theorem j3t(l:List (List UInt8)):(j1U l).length≤l.length:=by
 cases l with
 |nil=>simp[j1U]
 |cons x r=>have:=j1o x r;simp[j1U];omega
def j1u(l:List (List UInt8)):List (List UInt8):=j1U (j0Q l)
theorem j5v:s∈j1u l↔s∈l:=by
 unfold j1u;rw[j9N,(j2E l).mem_iff]
end Go.Am
