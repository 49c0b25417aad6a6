/-
  Texts in order, each once: plain functions that are quickly reckoned, and that they are the library's. No program in sight.
-/
import Derived.Lib.SlicesCompact
import Derived.Sort.KeysCollected
import Derived.Test.YtehhihdahalfeaaGreatDoorZNt
import Derived.Sort.OwnSorted
set_option linter.unusedVariables false
set_option linter.unusedSimpArgs false
set_option linter.unnecessarySimpa false
namespace Go.Am
open Go
def ltS:List UInt8→List UInt8→Bool
  |[],[]=>false
  |[],_ :: _=>true
  |_ :: _,[]=>false
  |a :: r,b :: s=>match Nat.blt a.toNat b.toNat with
    |true=>true
    |false=>match Nat.beq a.toNat b.toNat with
      |true=>ltS r s
      |false=>false
theorem ltS_eq:∀ (x y:List UInt8),ltS x y=decide (x < y)
  |[],[]=>by simp [ltS]
  |[],b :: s=>by simp [ltS]
  |a :: r,[]=>by simp [ltS]
  |a :: r,b :: s=>by
    have ih:=ltS_eq r s
    rw [ltS]
    rw [Bool.eq_iff_iff,decide_eq_true_eq,List.cons_lt_cons_iff]
    rw [Bool.eq_iff_iff,decide_eq_true_eq] at ih
    have h1:a < b↔a.toNat < b.toNat:=UInt8.lt_iff_toNat_lt
    have h2:a=b↔a.toNat=b.toNat:=UInt8.toNat_inj.symm
    rw [h1,h2]
    cases hb:Nat.blt a.toNat b.toNat with
    |true=>rw [Nat.blt_eq] at hb; simp [hb]
    |false =>
      have hb':¬ a.toNat < b.toNat:=fun e=>by rw [← Nat.blt_eq,hb] at e; cases e
      cases he:Nat.beq a.toNat b.toNat with
      |true =>
        have he':=Nat.eq_of_beq_eq_true he
        simp [he',ih]
      |false =>
        have he':¬ a.toNat=b.toNat:=fun e=>by rw [e,Nat.beq_refl] at he; cases he
        simp [hb',he']
def insS (x:List UInt8):List (List UInt8)→List (List UInt8)
  |[]=>[x]
  |y :: r=>match ltS y x with
    |true=>y :: insS x r
    |false=>x :: y :: r
def sortS:List (List UInt8)→List (List UInt8)
  |[]=>[]
  |x :: r=>insS x (sortS r)
theorem insS_perm (x:List UInt8):∀ l,(insS x l).Perm (x :: l)
  |[]=>List.Perm.refl _
  |y :: r=>by
    unfold insS
    split
    · exact ((insS_perm x r).cons y).trans (List.Perm.swap x y r)
    · exact List.Perm.refl _
theorem sortS_perm:∀ l,(sortS l).Perm l
  |[]=>List.Perm.refl _
  |x :: r=>(insS_perm x (sortS r)).trans ((sortS_perm r).cons x)
theorem sortS_length (l:List (List UInt8)):(sortS l).length=l.length:=(sortS_perm l).length_eq
theorem insS_sorted (x:List UInt8):∀ l:List (List UInt8),l.Pairwise (fun a b=>a ≤ b)→(insS x l).Pairwise (fun a b=>a ≤ b)
  |[],_=>by simp [insS]
  |y :: r,h=>by
    have h1:=List.pairwise_cons.1 h
    unfold insS
    cases hb:ltS y x with
    |true =>
      simp only
      rw [ltS_eq,decide_eq_true_eq] at hb
      refine List.pairwise_cons.2 ⟨fun z hz=>?_,insS_sorted x r h1.2⟩
      rcases List.mem_cons.1 ((insS_perm x r).mem_iff.1 hz) with rfl|hz
      · exact List.le_of_lt hb
      · exact h1.1 z hz
    |false =>
      simp only
      rw [ltS_eq,decide_eq_false_iff_not] at hb
      have hxy:x ≤ y:=List.not_lt.1 hb
      refine List.pairwise_cons.2 ⟨fun z hz=>?_,h⟩
      rcases List.mem_cons.1 hz with rfl|hz
      · exact hxy
      · exact List.le_trans hxy (h1.1 z hz)
theorem sortS_sorted:∀ l,(sortS l).Pairwise (fun a b=>a ≤ b)
  |[]=>by simp [sortS]
  |x :: r=>insS_sorted x _ (sortS_sorted r)
theorem sortS_eq (l:List (List UInt8)):l.mergeSort (fun x y=>decide (x ≤ y))=sortS l:=by
  have tr:∀ a b c:List UInt8,decide (a ≤ b)=true→decide (b ≤ c)=true→decide (a ≤ c)=true:=fun a b c h1 h2=>by simp only [decide_eq_true_eq] at *; exact List.le_trans h1 h2
  have to:∀ a b:List UInt8,(decide (a ≤ b) || decide (b ≤ a))=true:=fun a b=>by simp only [Bool.or_eq_true,decide_eq_true_eq]; exact List.le_total a b
  refine List.Perm.eq_of_pairwise (le:=fun a b=>decide (a ≤ b)=true) (fun a b _ _ h1 h2=>?_) (List.pairwise_mergeSort tr to l) ?_ ((List.mergeSort_perm l _).trans (sortS_perm l).symm)
  · simp only [decide_eq_true_eq] at h1 h2
    exact List.le_antisymm h1 h2
  · exact (sortS_sorted l).imp fun h=>decide_eq_true h
def eqS:List UInt8→List UInt8→Bool
  |[],[]=>true
  |a :: r,b :: s=>match Nat.beq a.toNat b.toNat with
    |true=>eqS r s
    |false=>false
  |_,_=>false
theorem eqS_eq:∀ (x y:List UInt8),eqS x y=decide (x=y)
  |[],[]=>by simp [eqS]
  |[],b :: s=>by simp [eqS]
  |a :: r,[]=>by simp [eqS]
  |a :: r,b :: s=>by
    have ih:=eqS_eq r s
    rw [eqS]
    cases he:Nat.beq a.toNat b.toNat with
    |true =>
      have he':a=b:=UInt8.toNat_inj.1 (Nat.eq_of_beq_eq_true he)
      simp [he',ih]
    |false =>
      have he':a ≠ b:=fun e=>by rw [e,Nat.beq_refl] at he; cases he
      simp [he']
/-- each run once -/
def compFrom (p:List UInt8):List (List UInt8)→List (List UInt8)
  |[]=>[]
  |x :: r=>match eqS x p with
    |true=>compFrom p r
    |false=>x :: compFrom x r
def compS:List (List UInt8)→List (List UInt8)
  |[]=>[]
  |x :: r=>x :: compFrom x r
theorem compFrom_snoc:∀ (p:List UInt8) (l:List (List UInt8)) (x:List UInt8),compFrom p (l ++ [x])=compFrom p l ++ (if x=(l.getLast?).getD p then [] else [x])
  |p,[],x=>by
    simp only [List.nil_append,compFrom,eqS_eq]
    by_cases h:x=p <;> simp [h]
  |p,y :: r,x=>by
    have hl:((y :: r).getLast?).getD p=(r.getLast?).getD y:=by cases r <;> simp [List.getLast?_cons]
    simp only [List.cons_append,compFrom,hl]
    cases he:eqS y p with
    |true =>
      rw [eqS_eq,decide_eq_true_eq] at he
      subst he
      exact compFrom_snoc y r x
    |false =>
      simp only [List.cons_append]
      rw [compFrom_snoc y r x]
theorem compS_snoc (l:List (List UInt8)) (x:List UInt8):compS (l ++ [x])=compS l ++ (if l.getLast? = some x then [] else [x]):=by
  cases l with
  |nil=>simp [compS,compFrom]
  |cons y r =>
    have hl:(y :: r).getLast? = some ((r.getLast?).getD y):=by cases r <;> simp [List.getLast?_cons]
    simp only [List.cons_append,compS,compFrom_snoc,hl,Option.some.injEq]
    by_cases h:x=(r.getLast?).getD y
    · rw [if_pos h,if_pos h.symm]
    · rw [if_neg h,if_neg (fun e=>h e.symm)]
theorem compact_eq (zs:List (List UInt8)):Lib.compact zs=compS zs:=by
  have main:∀ m,m ≤ zs.length→Lib.compactUpTo zs.toArray m=compS (zs.take m):=by
    intro m
    induction m with
    |zero=>intro _; simp [Lib.compactUpTo,compS]
    |succ m ih =>
      intro hm
      have hlt:m < zs.length:=by omega
      rw [Lib.compactUpTo_succ,ih (by omega),List.take_succ_eq_append_getElem hlt,compS_snoc]
      congr 1
      have hg:zs.toArray[m]! = zs[m]:=by simp [getElem!_pos,hlt]
      rw [hg]
      cases m with
      |zero=>simp [Lib.keeps]
      |succ k =>
        have hg2:zs.toArray[k]! = zs[k]:=by
          have hk:k < zs.length:=by omega
          simp [List.getElem?_eq_getElem hk]
        have hlast:(zs.take (k + 1)).getLast? = some zs[k]:=by
          rw [List.take_succ_eq_append_getElem (show k < zs.length by omega)]
          exact List.getLast?_concat
        rw [hlast]
        simp only [Lib.keeps,hg,Nat.add_sub_cancel,hg2]
        by_cases h:zs[k + 1]=zs[k]
        · simp [h]
        · have h':¬ zs[k]=zs[k + 1]:=fun e=>h e.symm
          simp [h,h']
  have:=main zs.length (Nat.le_refl _)
  rw [List.take_length] at this
  exact this
theorem compFrom_mem:∀ {p:List UInt8} {l:List (List UInt8)} {s:List UInt8},s ∈ p :: compFrom p l↔s ∈ p :: l
  |p,[],s=>by simp [compFrom]
  |p,x :: r,s=>by
    simp only [compFrom]
    cases he:eqS x p with
    |true =>
      rw [eqS_eq,decide_eq_true_eq] at he
      subst he
      have:=compFrom_mem (p:=x) (l:=r) (s:=s)
      simp only [List.mem_cons] at this ⊢
      rw [this]
      simp
    |false =>
      have:=compFrom_mem (p:=x) (l:=r) (s:=s)
      simp only [List.mem_cons] at this ⊢
      rw [this]
theorem compS_mem {l:List (List UInt8)} {s:List UInt8}:s ∈ compS l↔s ∈ l:=by
  cases l with
  |nil=>simp [compS]
  |cons x r=>exact compFrom_mem
theorem compFrom_length:∀ (p:List UInt8) (l:List (List UInt8)),(compFrom p l).length ≤ l.length
  |p,[]=>by simp [compFrom]
  |p,x :: r=>by
    simp only [compFrom]
    split
    · have:=compFrom_length p r; simp; omega
    · have:=compFrom_length x r; simp; omega
theorem compS_length (l:List (List UInt8)):(compS l).length ≤ l.length:=by
  cases l with
  |nil=>simp [compS]
  |cons x r=>have:=compFrom_length x r; simp [compS]; omega
def nameSortF (l:List (List UInt8)):List (List UInt8):=compS (sortS l)
theorem nameSortF_mem {l:List (List UInt8)} {s:List UInt8}:s ∈ nameSortF l↔s ∈ l:=by
  unfold nameSortF
  rw [compS_mem,(sortS_perm l).mem_iff]
end Go.Am
namespace Go.Am
open Go Go.Hb Go.RowKit Go.Sort Go.Proofs
/-- texts as cells -/
def svL (l:List (List UInt8)):List PV:=l.map fun s=>.sc (ls s)
def sortN (args:List PV) (st:Sto):Option (AEnd × Sto):=match args,st with
  |[.ms 0 n],[.row false T 1 xs]=>match mapO strOf xs with
    |some ss=>match Nat.beq n ss.length && Nat.ble n 1000000000 with
      |true=>some (.ret [],[.row false T 1 (svL (sortS (ss.map bl)))])
      |false=>none
    |none=>none
  |[.sl _ _ []],[]=>some (.ret [],[])
  |_,_=>none
def compN (args:List PV) (st:Sto):Option (AEnd × Sto):=match args,st with
  |[.ms 0 n],[.row false T 1 xs]=>match mapO strOf xs with
    |some ss=>match Nat.beq n ss.length && (Nat.ble n 1000000000 && Nat.ble 1 n) with
      |true=>some (.ret [.ms 1 (compS (ss.map bl)).length],[.dead,.row false T 1 (svL (compS (ss.map bl)))])
      |false=>none
    |none=>none
  |[.sl b z []],[]=>some (.ret [.sl b z []],[])
  |_,_=>none
theorem encStr_bl (ss:List ByteArray):(ss.map bl).map encStr=ss.map Value.string:=by
  rw [List.map_map]
  refine List.map_congr_left fun s _=>?_
  show Value.string ⟨(bl s).toArray⟩=_
  rw [bl_eq]
theorem flat_sing {α β:Type} (f:α→β):∀ l:List α,(l.map fun s=>[f s]).flatten=l.map f
  |[]=>rfl
  |x :: r=>by simp only [List.map_cons,List.flatten_cons,flat_sing f r]; rfl
section
variable {P:Program} {E:Entry} {m:Mem} {φ:Ph} {μ:Own} {w:World}
/-- a row of texts as it lies there -/
theorem row_texts {id:Nat} {T:TypeId} {ss:List ByteArray} {rs:Own} (h:SRo m φ id (.row false T 1 (ss.map fun s=>.sc (.string s))) rs):∃ a cap,φ id=some (.row (.slice a ss.length cap) ss.length 1)∧rs=[.row false (.slice a ss.length cap) T 1 ss.length (ss.map Value.string)]:=by
  obtain ⟨a,cap,vss,h1,h2,h3,h4⟩:=h
  rw [List.length_map] at h1 h2
  refine ⟨a,cap,h1,?_⟩
  have:vss.flatten=ss.map Value.string:=by
    have hl:=h4.1
    rw [List.length_map] at hl
    have:vss=ss.map fun s=>[Value.string s]:=by
      apply List.ext_getElem
      · simp [hl]
      · intro i h5 h6
        have hi:i < ss.length:=by omega
        obtain ⟨q1,q2,q3,q4⟩:=h4.2 i (.sc (.string ss[i])) vss[i] (by simp [hi]) (List.getElem?_eq_getElem h5)
        have hc:((PV.sc (.string ss[i])).cells:List PV)=[.sc (.string ss[i])]:=rfl
        rw [hc] at q4
        obtain ⟨u,us,e1,e2,e3⟩:=q4.uncons
        have:us=[]:=List.eq_nil_of_length_eq_zero e3.1.symm
        subst this
        have:=e2.sc_eq
        subst this
        rw [e1]
        simp
    rw [this]
    exact flat_sing _ _
  rw [h2,this]
theorem texts_row {id:Nat} {T:TypeId} {ts:List (List UInt8)} {a:Option Addr} {cap:Nat} (h:φ id=some (.row (.slice a ts.length cap) ts.length 1)):SRo m φ id (.row false T 1 (svL ts)) [.row false (.slice a ts.length cap) T 1 ts.length (ts.map encStr)]:=by
  refine ⟨a,cap,ts.map fun s=>[encStr s],by rw [svL,List.length_map]; exact h,?_,by omega,by simp [svL],fun i x vs h1 h2=>?_⟩
  · rw [svL,List.length_map]
    rw [flat_sing]
  · rw [svL,List.getElem?_map] at h1
    rw [List.getElem?_map] at h2
    obtain ⟨s,hs,rfl⟩:=Option.map_eq_some_iff.1 h1
    rw [hs] at h2
    cases h2
    exact ⟨rfl,rfl,rfl,.cons (.sc rfl) .nil⟩
theorem one_row {o:SO} (hs:SR m φ 0 [o] μ):SRo m φ 0 o μ:=by
  obtain ⟨rs,μ',h1,h2,h3⟩:=hs
  have h3:μ'=[]:=h3
  subst h3
  rw [List.append_nil] at h1
  subst h1
  exact h2
end
end Go.Am
namespace Go.Proofs.YtehhihdahalfeaaGreatDoor
open Go Go.Am Go.Hb Go.RowKit Go.Sort
theorem do_sort:DoesOk (CallD Tryz.prog 176) sortN:=fun args st r st' hx w m φ μ vs hs hr=>by
  unfold sortN at hx
  split at hx
  · rename_i n T xs
    split at hx
    · rename_i ss hss
      split at hx
      · rename_i hb
        cases hx
        rw [Bool.and_eq_true] at hb
        obtain rfl:=Nat.eq_of_beq_eq_true hb.1
        have hn:=Nat.le_of_ble_eq_true hb.2
        have hxs:=mapO_str hss
        subst hxs
        obtain ⟨v,vs',rfl,h1,h2⟩:=hr.uncons
        have:vs'=[]:=List.eq_nil_of_length_eq_zero h2.1.symm
        subst this
        have hro:=one_row hs.sto
        obtain ⟨a,cap,hφ,hμ⟩:=row_texts hro
        cases h1 with
        | @ms _ _ _ n sz sv _ hφ' hle hv hsl =>
          rw [hφ] at hφ'
          cases hφ'
          obtain rfl:=hv rfl
          have hown:w.ownsRow 0 T 1 (.slice a ss.length cap) ss.length (ss.map Value.string):=hs.good.own (r:=.row false (.slice a ss.length cap) T 1 ss.length (ss.map Value.string)) (by rw [hμ]; simp)
          rcases hown.2 with ⟨hnil,hz⟩|⟨g,cap',cur,hsv,hbase,hgb,r1,r2,r3,r4⟩
          · have:ss=[]:=List.eq_nil_of_length_eq_zero hz
            subst this
            refine (Tryz.slices_Sort_string_none a cap w).mono ?_
            rintro e w' ⟨rfl,rfl⟩
            refine ⟨m,φ,μ,Ext.refl _ _,⟨hs.good,?_,fun id hid=>hs.dom id (by simpa using hid)⟩,[],rfl,.nil⟩
            simpa [svL,sortS] using hs.sto
          · cases hsv
            have hH:Holds encStr w g 0 (ss.map bl).toArray:=holds_of_block hgb (by rw [encStr_bl,List.length_map]; simpa using r4)
            have hgl:g < w.heap.size:=(Array.getElem?_eq_some_iff.1 hgb).1
            have cS:=Tryz.slices_Sort_string g 0 cap (ss.map bl) w hH hgl (by rw [List.length_map]; omega)
            rw [List.length_map] at cS
            refine cS.mono ?_
            rintro e w' ⟨rfl,k,os,rfl⟩
            rw [sortS_eq]
            have hg:=grownBy_sorted (w:=w) (g:=g) (n:=k) (os:=os) (sortS (ss.map bl)).toArray
            have hlen:(sortS (ss.map bl)).length=ss.length:=by rw [sortS_length,List.length_map]
            have hrow:=ownsRow_sorted (n:=k) (os:=os) (ss:=ss.map bl) (ts:=sortS (ss.map bl)) (by rw [sortS_length]) hbase hgb (by rw [List.length_map]; exact r1) r2 r3
            rw [List.length_map] at hrow
            have hφ2:φ 0=some (.row (.slice (some ⟨g,0,none⟩) (sortS (ss.map bl)).length cap) (sortS (ss.map bl)).length 1):=by rw [hlen]; exact hφ
            obtain ⟨μ',hs',hx'⟩:=hs.turn (i:=0) (o':=.row false T 1 (svL (sortS (ss.map bl)))) (r:=.row false (.slice (some ⟨g,0,none⟩) ss.length cap) T 1 ss.length (ss.map Value.string)) (r':=.row false (.slice (some ⟨g,0,none⟩) (sortS (ss.map bl)).length cap) T 1 (sortS (ss.map bl)).length ((sortS (ss.map bl)).map encStr)) (μ1:=[]) (μ2:=[]) (w':=grow (putRow encStr (Sort.ahead w k) g 0 (sortS (ss.map bl)).toArray) os) rfl (by simp) (by rw [hμ]; rfl)
              ⟨_,[],rfl,texts_row hφ2,rfl⟩ hg.os hg.tape hg.output hg.size (fun b hb hne=>hg.block b hb (fun e=>hne e.symm)) (fun b o v hf hm=>by
                have:=(hs.good.feet (.row false (.slice (some ⟨g,0,none⟩) ss.length cap) T 1 ss.length (ss.map Value.string)) (by rw [hμ]; simp) b hf).2 o (Nat.zero_le _)
                rw [hm] at this
                cases this) (by rw [hlen]; exact hrow) (fun b hb=>.inl ⟨hb,Nat.le_refl _⟩)
            exact ⟨m,φ,μ',hx',hs',[],rfl,.nil⟩
      · cases hx
    · cases hx
  · cases hx
    obtain ⟨v,vs',rfl,h1,h2⟩:=hr.uncons
    have:vs'=[]:=List.eq_nil_of_length_eq_zero h2.1.symm
    subst this
    cases h1 with
    |sl b off g ha hcap hmax hfull hel hr hnil =>
      refine (Tryz.slices_Sort_string_none _ _ w).mono ?_
      rintro e w' ⟨rfl,rfl⟩
      exact ⟨m,φ,μ,Ext.refl _ _,hs,[],rfl,.nil⟩
  · cases hx
theorem do_compact:DoesOk (CallD Tryz.prog 132) compN:=fun args st r st' hx w m φ μ vs hs hr=>by
  unfold compN at hx
  split at hx
  · rename_i n T xs
    split at hx
    · rename_i ss hss
      split at hx
      · rename_i hb
        cases hx
        simp only [Bool.and_eq_true] at hb
        obtain rfl:=Nat.eq_of_beq_eq_true hb.1
        have hn:=Nat.le_of_ble_eq_true hb.2.1
        have hn1:=Nat.le_of_ble_eq_true hb.2.2
        have hxs:=mapO_str hss
        subst hxs
        obtain ⟨v,vs',rfl,h1,h2⟩:=hr.uncons
        have:vs'=[]:=List.eq_nil_of_length_eq_zero h2.1.symm
        subst this
        have hro:=one_row hs.sto
        obtain ⟨a,cap,hφ,hμ⟩:=row_texts hro
        cases h1 with
        | @ms _ _ _ n sz sv _ hφ' hle hv hsl =>
          rw [hφ] at hφ'
          cases hφ'
          obtain rfl:=hv rfl
          have hown:w.ownsRow 0 T 1 (.slice a ss.length cap) ss.length (ss.map Value.string):=hs.good.own (r:=.row false (.slice a ss.length cap) T 1 ss.length (ss.map Value.string)) (by rw [hμ]; simp)
          rcases hown.2 with ⟨hnil,hz⟩|⟨g,cap',cur,hsv,hbase,hgb,r1,r2,r3,r4⟩
          · omega
          · cases hsv
            have hH:Holds encStr w g 0 (ss.map bl).toArray:=holds_of_block hgb (by rw [encStr_bl,List.length_map]; simpa using r4)
            have cS:=Tryz.slices_Compact_string g 0 cap (ss.map bl) w hH (by rw [List.length_map]; omega) (by rw [List.length_map]; exact r1)
            rw [List.length_map] at cS
            refine cS.mono ?_
            rintro e w' ⟨rfl,k,rfl⟩
            rw [compact_eq]
            generalize hcs:compS (ss.map bl)=cs
            have hcl:cs.length ≤ ss.length:=by rw [← hcs]; have:=compS_length (ss.map bl); rwa [List.length_map] at this
            generalize hts:cs ++ List.replicate (ss.length - cs.length) []=ts
            have htl:ts.length=(ss.map bl).length:=by rw [← hts]; simp; omega
            have hg:=grownBy_sorted (w:=w) (g:=g) (n:=k) (os:=#[]) ts.toArray
            have hrow:=ownsRow_sorted (n:=k) (os:=#[]) (ss:=ss.map bl) (ts:=ts) htl hbase hgb (by rw [List.length_map]; exact r1) r2 r3
            rw [grow_empty] at hg hrow
            have hrow':(putRow encStr (Sort.ahead w k) g 0 ts.toArray).ownsRow 0 T 1 (.slice (some ⟨g,0,none⟩) cs.length cap) cs.length (cs.map encStr):=by
              rcases hrow.2 with ⟨h0,_⟩|⟨g1,cap1,cur1,e1,e2,e3,e4,e5,e6,e7⟩
              · cases h0
              · cases e1
                refine ⟨by simp,.inr ⟨g,cap,cur1,rfl,e2,e3,by omega,e5,e6,?_⟩⟩
                have:=congrArg (List.take cs.length) e7
                rw [List.take_take,← hts,List.map_append,List.take_left' (by simp)] at this
                rw [Nat.mul_one] at this ⊢
                rwa [List.length_map,Nat.min_eq_left hcl] at this
            have hgood:Hb.Good ⟨w,m,feetOf μ⟩ (putRow encStr (Sort.ahead w k) g 0 ts.toArray) m [.row false (.slice (some ⟨g,0,none⟩) cs.length cap) T 1 cs.length (cs.map encStr)]:=by
              have h0:Hb.Good ⟨w,m,feetOf μ⟩ w m (.row false (.slice (some ⟨g,0,none⟩) ss.length cap) T 1 ss.length (ss.map Value.string) :: []):=by rw [← hμ]; exact hs.good
              exact h0.turn hg.os hg.tape hg.output hg.size (fun b hb hne=>hg.block b hb (fun e=>hne e.symm)) (fun b o v hf hm=>by
                have:=(h0.feet _ List.mem_cons_self b hf).2 o (Nat.zero_le _)
                rw [hm] at this
                cases this) hrow' (fun b hb=>.inl ⟨hb,Nat.le_refl _⟩)
            have hd1:=hs.dom 1 (by simp)
            have hle:=le_more (p:=.row (.slice (some ⟨g,0,none⟩) cs.length cap) cs.length 1) hd1
            refine ⟨m,more φ 1 (.row (.slice (some ⟨g,0,none⟩) cs.length cap) cs.length 1),_,⟨hle,by simp,fun id hid=>?_⟩,⟨hgood,⟨[],_,rfl,rfl,⟨_,[],(List.append_nil _).symm,texts_row (more_self _ _ _),rfl⟩⟩,fun id hid=>?_⟩,[.slice (some ⟨g,0,none⟩) cs.length cap],rfl,.cons (.ms (more_self _ _ _) (Nat.le_refl _) (fun _=>rfl) ⟨_,_,_,rfl⟩) .nil⟩
            · exfalso
              cases id with
              |zero=>simp at hid
              |succ id=>simp at hid
            · simp only [List.length_cons,List.length_nil] at hid
              rw [more_other (by omega)]
              exact hs.dom id (by simp; omega)
      · cases hx
    · cases hx
  · rename_i b0 z0
    cases hx
    obtain ⟨v,vs',rfl,h1,h2⟩:=hr.uncons
    have:vs'=[]:=List.eq_nil_of_length_eq_zero h2.1.symm
    subst this
    cases h1 with
    | @sl _ _ _ _ a cap b off g ha hcap hmax hfull hel hr0 hnil0 =>
      refine (Tryz.slices_Compact_string_empty a cap w).mono ?_
      rintro e w' ⟨rfl,rfl⟩
      exact ⟨m,φ,μ,Ext.refl _ _,hs,[_],rfl,.cons (R.sl (xs:=[]) b off g ha hcap hmax hfull hel hr0 hnil0) .nil⟩
  · cases hx
end Go.Proofs.YtehhihdahalfeaaGreatDoor
