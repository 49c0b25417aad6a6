/-
  What an operation of the plain machine leaves as it is: all but what it is handed, and what that leads to. Plain lemmas, no statement of the seat.
-/
import Derived.Test.YtljnahbgfmflaaaGreatDoorZAw
set_option linter.unusedVariables false
set_option linter.unusedSimpArgs false
set_option linter.unnecessarySimpa false
namespace Go.Am
open Go Go.Hb
def j4s (S:Nat→Bool) (x:PV):Prop:=∀ k,∀ j ∈ ids k x,S j=true
def LeadL (S:Nat→Bool) (l:List PV):Prop:=∀ x ∈ l,j4s S x
def LeadO (S:Nat→Bool):SO→Prop
 | .box _ cs | .frz cs=>LeadL S cs
 | .row _ _ _ xs=>LeadL S xs
 | .dead=>True
 | .lp ρ _ _ _ _=>∀ p ∈ ρ,j4s S p.2
 | .mp _ vs=>LeadL S vs
 | .ch _ q=>LeadL S q
def LeadS (S:Nat→Bool) (st:Sto):Prop:=∀ (i:Nat) o,S i=true→st[i]? = some o→LeadO S o
structure Off (S:Nat→Bool) (st st':Sto):Prop where
 len:st.length ≤ st'.length
 at_:∀ i,i < st.length→S i=false→st'[i]? = st[i]?
section
variable {S:Nat→Bool} {st st' st'':Sto} {C:Cfg}
theorem Off.refl (S:Nat→Bool) (st:Sto):Off S st st:=⟨Nat.le_refl _,fun _ _ _=>rfl⟩
theorem Off.trans (h:Off S st st') (k:Off S st' st''):Off S st st'':=⟨Nat.le_trans h.len k.len,fun i hi hs=>(k.at_ i (Nat.lt_of_lt_of_le hi h.len) hs).trans (h.at_ i hi hs)⟩
theorem Off.set {i:Nat} {o:SO} (h:S i=true):Off S st (st.set i o):=⟨by simp,fun j _ hj=>List.getElem?_set_ne (fun e=>by subst e; rw [h] at hj; cases hj)⟩
theorem Off.push {l:Sto}:Off S st (st ++ l):=⟨by simp,fun j hj _=>List.getElem?_append_left hj⟩
theorem LeadL.flat {k:Nat} {l:List PV} (h:LeadL S l):∀ j ∈ l.flatMap (ids k),S j=true:=fun j hj=>by
 obtain ⟨x,hx,hj⟩:=List.mem_flatMap.1 hj
 exact h x hx k j hj
theorem jfF {cs:List PV}:j4s S (.ag cs)↔LeadL S cs:=⟨fun h x hx k j hj=>h (k + 1) j (List.mem_flatMap.2 ⟨x,hx,hj⟩),fun h k j hj=>by
 cases k with
 |zero=>simp [ids] at hj
 |succ k=>exact h.flat (k:=k) j hj⟩
theorem jeM {cs:List PV}:j4s S (.tu cs)↔LeadL S cs:=⟨fun h x hx k j hj=>h (k + 1) j (List.mem_flatMap.2 ⟨x,hx,hj⟩),fun h k j hj=>by
 cases k with
 |zero=>simp [ids] at hj
 |succ k=>exact h.flat (k:=k) j hj⟩
theorem jkf {cs:List PV} (h:LeadL S cs):j4s S (.ci cs):=fun k j hj=>by
 cases k with
 |zero=>simp [ids] at hj
 |succ k=>exact h.flat (k:=k) j hj
theorem jc5 {f:FuncId} {a b:List PV}:j4s S (.fn f a b)↔LeadL S a∧LeadL S b:=⟨fun h=>⟨fun x hx k j hj=>h (k + 1) j (List.mem_append.2 (.inl (List.mem_flatMap.2 ⟨x,hx,hj⟩))),fun x hx k j hj=>h (k + 1) j (List.mem_append.2 (.inr (List.mem_flatMap.2 ⟨x,hx,hj⟩)))⟩,fun ⟨h1,h2⟩ k j hj=>by
 cases k with
 |zero=>simp [ids] at hj
 |succ k =>
  rcases List.mem_append.1 hj with hj|hj
  ·exact h1.flat (k:=k) j hj
  ·exact h2.flat (k:=k) j hj⟩
theorem jbZ {t:TypeId} {x:PV}:j4s S (.ifc t x)↔j4s S x:=⟨fun h k j hj=>h (k + 1) j hj,fun h k j hj=>by
 cases k with
 |zero=>simp [ids] at hj
 |succ k=>exact h k j hj⟩
theorem j3D {x:PV} (h:∀ k,ids k x=[]):j4s S x:=fun k j hj=>by rw [h k] at hj; cases hj
theorem jja {x:PV} {i:Nat} (h:j4s S x) (hi:ids 1 x=[i]):S i=true:=h 1 i (by rw [hi]; simp)
theorem j5x:∀ {n:Nat} {x:PV},j0g S n x=true→j4s S x
 |0,x,h=>by simp [j0g] at h
 |n + 1,x,h=>by
  have hall:∀ {l:List PV},l.all (j0g S n)=true→LeadL S l:=fun hl x hx=>j5x (List.all_eq_true.1 hl x hx)
  have hone:∀ {x:PV} {i:Nat},S i=true→(∀ k,ids k x=[]∨ids k x=[i])→j4s S x:=fun hi he k j hj=>by
   rcases he k with e|e
   ·rw [e] at hj; cases hj
   ·rw [e] at hj
    obtain rfl:=List.mem_singleton.1 hj
    exact hi
  cases x with
  |ag cs=>exact jfF.2 (hall h)
  |tu cs=>exact jeM.2 (hall h)
  |ci cs=>exact jkf (hall h)
  |fn g a b =>
   simp only [j0g,Bool.and_eq_true] at h
   exact jc5.2 ⟨hall h.1,hall h.2⟩
  |ifc t x=>exact jbZ.2 (j5x (n:=n) h)
  |ms id len=>exact hone h fun k=>by cases k <;> simp [ids]
  |bp id off=>exact hone h fun k=>by cases k <;> simp [ids]
  |yl id=>exact hone h fun k=>by cases k <;> simp [ids]
  |mr id=>exact hone h fun k=>by cases k <;> simp [ids]
  |cr id=>exact hone h fun k=>by cases k <;> simp [ids]
  |rp id len i off=>exact hone h fun k=>by cases k <;> simp [ids]
  |sc v=>exact j3D fun k=>by cases k <;> rfl
  |sl b z xs=>exact j3D fun k=>by cases k <;> rfl
  |cp cs=>exact j3D fun k=>by cases k <;> rfl
  |un=>exact j3D fun k=>by cases k <;> rfl
theorem j2j {n:Nat} {l:List PV} (h:l.all (j0g S n)=true):LeadL S l:=fun x hx=>j5x (List.all_eq_true.1 h x hx)
theorem jjB {o:SO} (h:soIn S o=true):LeadO S o:=by
 cases o with
 |box T cs=>exact j2j h
 |frz cs=>exact j2j h
 |row p e z xs=>exact j2j h
 |dead=>trivial
 |lp ρ ps a b s=>exact fun p hp=>j5x (List.all_eq_true.1 h p hp)
 |mp ks vs=>exact j2j h
 |ch c q=>exact j2j h
theorem LeadS.set {i:Nat} {o:SO} (h:LeadS S st) (ho:LeadO S o):LeadS S (st.set i o):=fun j q hj hq=>by
 rcases Nat.decEq i j with hij|hij
 ·rw [List.getElem?_set_ne hij] at hq
  exact h j q hj hq
 ·subst hij
  rw [List.getElem?_set] at hq
  split at hq
  ·split at hq
   ·cases hq; exact ho
   ·cases hq
  ·rename_i h1; exact absurd rfl h1
theorem jii {id len:Nat} {y:PV} {st':Sto} (h:pubRow id len st=(y,st')) (hid:S id=true) (hs:LeadS S st):Off S st st'∧LeadS S st'∧j4s S y:=by
 have hm:j4s S (.ms id len):=fun k j hj=>by
  cases k with
  |zero=>simp [ids] at hj
  |succ k=>simp only [ids,List.mem_singleton] at hj; rw [hj]; exact hid
 unfold pubRow at h
 split at h
 ·rename_i p e sz xs ho
  split at h
  ·cases h
   exact ⟨Off.set hid,hs.set (show LeadL S xs from hs id _ hid ho),j3D fun k=>by cases k <;> rfl⟩
  ·cases h; exact ⟨Off.refl _ _,hs,hm⟩
 ·cases h; exact ⟨Off.refl _ _,hs,hm⟩
theorem jcj {f:PV→Sto→Option (PV × Sto)} (hf:∀ {x y:PV} {st st':Sto},f x st=some (y,st')→j4s S x→LeadS S st→Off S st st'∧LeadS S st'∧j4s S y):∀ {xs ys:List PV} {st st':Sto},mapS f xs st=some (ys,st')→LeadL S xs→LeadS S st→Off S st st'∧LeadS S st'∧LeadL S ys
 |[],ys,st,st',h,_,hs=>by
  simp only [mapS,Option.some.injEq,Prod.mk.injEq] at h
  obtain ⟨rfl,rfl⟩:=h
  exact ⟨Off.refl _ _,hs,fun x hx=>by cases hx⟩
 |x :: xs,ys,st,st',h,hx,hs=>by
  simp only [mapS] at h
  split at h
  ·rename_i y st1 hy
   split at h
   ·rename_i l st2 hl
    cases h
    obtain ⟨h1,h2,h3⟩:=hf hy (hx x List.mem_cons_self) hs
    obtain ⟨h4,h5,h6⟩:=jcj hf hl (fun z hz=>hx z (List.mem_cons_of_mem _ hz)) h2
    exact ⟨h1.trans h4,h5,fun z hz=>by
     rcases List.mem_cons.1 hz with rfl|hz
     ·exact h3
     ·exact h6 z hz⟩
   ·cases h
  ·cases h
theorem jer {cs:List PV} (h:LeadL S cs):j4s S (frzV cs):=by
 unfold frzV
 split
 ·exact j3D fun k=>by cases k <;> rfl
 ·exact jkf h
theorem jcM:∀ {C:Cfg} {n:Nat} {x y:PV} {st st':Sto},pubV C n x st=some (y,st')→j4s S x→LeadS S st→Off S st st'∧LeadS S st'∧j4s S y
 |_,0,_,_,_,_,h,_,_=>by simp [pubV] at h
 |C,n + 1,x,y,st,st',h,hx,hs=>by
  have hl:=fun {C xs ys st st'}=>jcj (S:=S) (f:=pubV C n) (fun h hx hs=>jcM h hx hs) (xs:=xs) (ys:=ys) (st:=st) (st':=st')
  simp only [pubV] at h
  split at h
  ·rename_i id len
   simp only [Option.some.injEq] at h
   exact jii h (jja hx rfl) hs
  ·rename_i id
   have hid:S id=true:=jja hx rfl
   split at h
   ·rename_i T cs ho
    split at h
    ·split at h
     ·rename_i cs' st1 hm
      obtain ⟨h1,h2,h3⟩:=hl hm (hs id _ hid ho) hs
      split at h
      ·cases h
       exact ⟨h1.trans (Off.set hid),h2.set h3,jer h3⟩
      ·cases h
     ·cases h
    ·cases h; exact ⟨Off.refl _ _,hs,hx⟩
   ·rename_i cs ho
    cases h; exact ⟨Off.refl _ _,hs,jer (hs id _ hid ho)⟩
   ·cases h; exact ⟨Off.refl _ _,hs,hx⟩
  ·split at h
   ·rename_i hm
    cases h
    obtain ⟨h1,h2,h3⟩:=hl hm (jfF.1 hx) hs
    exact ⟨h1,h2,jfF.2 h3⟩
   ·cases h
  ·split at h
   ·rename_i hm
    cases h
    obtain ⟨h1,h2,h3⟩:=hl hm (jeM.1 hx) hs
    exact ⟨h1,h2,jeM.2 h3⟩
   ·cases h
  ·split at h
   ·rename_i hm
    split at h
    ·rename_i hm2
     cases h
     obtain ⟨h1,h2,h3⟩:=hl hm (jc5.1 hx).1 hs
     obtain ⟨h4,h5,h6⟩:=hl hm2 (jc5.1 hx).2 h2
     exact ⟨h1.trans h4,h5,jc5.2 ⟨h3,h6⟩⟩
    ·cases h
   ·cases h
  ·split at h
   ·rename_i hm
    cases h
    obtain ⟨h1,h2,h3⟩:=jcM hm (jbZ.1 hx) hs
    exact ⟨h1,h2,jbZ.2 h3⟩
   ·cases h
  ·cases h; exact ⟨Off.refl _ _,hs,hx⟩
theorem LeadO.ids {o:SO} (h:LeadO S o):∀ j ∈ j6K o,S j=true:=by
 cases o with
 |box T cs=>exact LeadL.flat (k:=8) h
 |frz cs=>exact LeadL.flat (k:=8) h
 |row p e z xs=>exact LeadL.flat (k:=8) h
 |dead=>intro j hj; simp [j6K] at hj
 |lp ρ ps a b s =>
  intro j hj
  obtain ⟨p,hp,hj⟩:=List.mem_flatMap.1 hj
  exact h p hp 8 j hj
 |mp ks vs=>exact LeadL.flat (k:=8) h
 |ch c q=>exact LeadL.flat (k:=8) h
theorem j7U (hs:LeadS S st):∀ {n:Nat} {work acc:List Nat},(∀ i ∈ work,S i=true)→(∀ i ∈ acc,S i=true)→∀ i ∈ close st n work acc,S i=true
 |0,_,_,_,ha=>ha
 |n + 1,[],_,_,ha=>ha
 |n + 1,w :: r,acc,hw,ha=>by
  simp only [close]
  split
  ·exact j7U hs (fun i hi=>hw i (List.mem_cons_of_mem _ hi)) ha
  ·refine j7U hs (fun i hi=>?_) (fun i hi=>?_)
   ·rcases List.mem_append.1 hi with h|h
    ·exact hw i (List.mem_cons_of_mem _ h)
    ·split at h
     ·rename_i o ho
      exact (hs w o (hw w List.mem_cons_self) ho).ids i h
     ·simp at h
   ·rcases List.mem_cons.1 hi with rfl|h
    ·exact hw _ List.mem_cons_self
    ·exact ha i h
theorem jbo {g:Nat→Nat}:∀ {π:List Nat} {os st:Sto},(∀ i ∈ π,S i=true)→Off S st (j1D g π os st)
 |[],os,st,_=>by unfold j1D; exact Off.refl _ _
 |i :: π,[],st,_=>by unfold j1D; exact Off.refl _ _
 |i :: π,o :: os,st,h=>by
  simp only [j1D]
  exact (Off.set (h i List.mem_cons_self)).trans (jbo fun j hj=>h j (List.mem_cons_of_mem _ hj))
theorem j7Y {π:List Nat} {st st1 st':Sto} {r r':AEnd} (h:j1I π st r st1=some (r',st')) (hπ:∀ i ∈ π,S i=true):Off S st st':=by
 unfold j1I at h
 split at h
 ·cases h
  exact (jbo hπ).trans Off.push
 ·cases h
theorem jhw {call:List PV→Sto→Option (AEnd × Sto)} {args:List PV} {π:List Nat} {st st':Sto} {r:AEnd} (h:j3E call args π st=some (r,st')) (hπ:∀ i ∈ π,S i=true):Off S st st':=by
 unfold j3E at h
 split at h
 ·split at h
  ·exact j7Y h hπ
  ·cases h
 ·cases h
theorem jj2 {e:Ev} {f:FuncId} {args:List PV} {st st':Sto} {r:AEnd} (h:j2e C e f args st=some (r,st')) (ha:LeadL S args) (hs:LeadS S st):Off S st st':=by
 unfold j2e at h
 split at h
 ·cases h
 ·rename_i args1 st1 hh
  obtain ⟨h1,h2,h3⟩:Off S st st1∧LeadS S st1∧LeadL S args1:=by
   split at hh
   ·cases hh; exact ⟨Off.refl _ _,hs,ha⟩
   ·exact jcj (fun h hx hs=>jcM h hx hs) hh ha hs
  split at h
  ·split at h
   ·split at h
    ·cases h; exact h1
    ·exact h1.trans (j7Y h fun i hi=>by cases hi)
   ·cases h
  ·exact h1.trans (jhw h fun i hi=>j7U (acc:=[]) h2 h3.flat (fun i hi=>absurd hi List.not_mem_nil) i (List.mem_reverse.1 hi))
theorem ji2 {e:Ev} {f:FuncId} {args:List PV} {st st':Sto} {r:AEnd} (h:j2e C e f args st=some (r,st')) {i:Nat} (hi:i < st.length) (ht:(jlv st args).elem i=false):st'[i]? = st[i]?:=by
 unfold jlv at ht
 simp only at ht
 generalize close st 64 (args.flatMap (ids 8)) []=T at ht
 split at ht
 ·rename_i hb
  rw [Bool.and_eq_true] at hb
  refine (jj2 (S:=fun j=>T.elem j) h (j2j hb.2) (fun j o hj ho=>?_)).at_ i hi ht
  have:=List.all_eq_true.1 hb.1 j (by simpa using hj)
  simp only [ho] at this
  exact jjB this
 ·exfalso
  have:(List.range st.length).elem i=true:=by simpa using hi
  rw [this] at ht
  cases ht
theorem jbc {P:Program} {T:TypeId} {x k v:PV} {st st':Sto} {i:Nat} (h:jdC P st T x k v=some st') (hne:∀ id,x = .mr id→id ≠ i):st'[i]? = st[i]?:=by
 unfold jdC at h
 split at h
 ·rename_i id _ _
  have:=hne id rfl
  split at h
  ·split at h
   ·cases h; exact List.getElem?_set_ne this
   ·cases h; exact List.getElem?_set_ne this
   ·cases h
  ·cases h
 ·cases h
theorem jdD {e:Ev} {ρ:AEnv} {op:Op} {st:Sto} {r:AR} (h:aS C e ρ st op=some r) {i:Nat} (hi:i < st.length) (ht:(touch ρ st op).elem i=false):(match r with
  | .val _ st'=>st'[i]? = st[i]?
  | .unit st'=>st'[i]? = st[i]?
  | .pan _ _=>True):=by
 have hv:∀ {x:Operand} {v:PV} {id:Nat},(j8c ρ x).elem i=false→aval ρ x=some v→ids 1 v=[id]→id ≠ i:=fun h1 h2 h3 e'=>by
  simp only [j8c,h2,h3] at h1
  subst e'
  simp at h1
 have hpush:∀ {l:Sto},(st ++ l)[i]? = st[i]?:=List.getElem?_append_left hi
 cases op with
 |box T x =>
  simp only [aS,sBox] at h
  split at h
  ·split at h
   ·cases h; exact hpush
   ·cases h
  ·cases h
 |alloc T =>
  simp only [aS,jex] at h
  split at h
  ·cases h; exact hpush
  ·cases h
 |store T x y =>
  simp only [aS,ja9] at h
  split at h
  ·rename_i k p v h1 h2 h3
   split at h
   ·obtain ⟨st',h4,rfl⟩:=Option.map_eq_some_iff.1 h
    unfold jbn at h4
    split at h4
    ·rename_i id off
     split at h4
     ·split at h4
      ·cases h4; exact List.getElem?_set_ne (hv ht h2 rfl)
      ·cases h4
     ·cases h4
    ·rename_i id len j off
     split at h4
     ·split at h4
      ·split at h4
       ·cases h4; exact List.getElem?_set_ne (hv ht h2 rfl)
       ·cases h4
      ·cases h4
     ·cases h4
    ·cases h4
   ·cases h
  ·cases h
 |buildSlice T len parts =>
  simp only [aS,j1L] at h
  repeat' split at h
  all_goals first|(cases h; done)|(cases h; first|rfl|exact hpush)
 |slice T x lo hi' mx =>
  simp only [aS,jh2] at h
  split at h
  ·rename_i id len hx
   have hne:id ≠ i:=hv ht hx rfl
   split at h
   ·rename_i full sz xs st1 hp
    split at h
    ·obtain ⟨v,_,rfl⟩:=Option.map_eq_some_iff.1 h
     unfold pubRow at hp
     split at hp
     ·split at hp
      ·cases hp; exact List.getElem?_set_ne hne
      ·cases hp
     ·cases hp
    ·cases h
   ·cases h
  ·cases h
 |panic x =>
  simp only [aS,jgj] at h
  split at h
  ·cases h; trivial
  ·cases h
 |convert s d x =>
  simp only [aS,jlG] at h
  repeat' split at h
  all_goals first|(cases h; done)|(cases h; exact hpush)
 |makeMap T hh =>
  simp only [aS,j8v] at h
  split at h
  ·cases h; exact hpush
  ·cases h
 |makeChan T x =>
  simp only [aS,j6J] at h
  repeat' split at h
  all_goals first|(cases h; done)|(cases h; exact hpush)
 |makeSlice T x y =>
  simp only [aS,j5D] at h
  repeat' split at h
  all_goals first|(cases h; done)|(cases h; exact hpush)
 |mapUpdate T x k y =>
  simp only [aS,j7B] at h
  split at h
  ·rename_i u1 u2 u3 h1 h2 h3
   obtain ⟨st',h4,rfl⟩:=Option.map_eq_some_iff.1 h
   exact jbc h4 (fun id e=>hv ht h1 (by rw [e]; rfl))
  ·cases h
 |insert T x k y =>
  simp only [aS,j7B] at h
  split at h
  ·rename_i u1 u2 u3 h1 h2 h3
   obtain ⟨st',h4,rfl⟩:=Option.map_eq_some_iff.1 h
   exact jbc h4 (fun id e=>hv ht h1 (by rw [e]; rfl))
  ·cases h
 |call c =>
  obtain ⟨callee,xs,ts⟩:=c
  cases callee with
  |value g =>
   simp only [aS,j4R] at h
   split at h
   ·rename_i f a b vs hg hxs
    split at h
    ·simp only [touch,hg,hxs] at ht
     split at h
     ·rename_i rs st1 hc
      cases h
      exact ji2 hc hi ht
     ·cases h; trivial
     ·cases h
    ·cases h
   ·cases h
  |invoke r m=>simp [aS] at h
  |builtin b =>
   cases b with
   |append =>
    simp only [aS,j7J] at h
    split at h
    ·rename_i x y T U hxs _
     split at h
     ·split at h
      ·rename_i a b by_ ha _ _
       split at h
       ·split at h
        ·unfold ja0 at h
         split at h
         ·rename_i id len
          simp only [touch,hxs] at ht
          have hne:id ≠ i:=hv ht ha rfl
          split at h
          ·split at h
           ·split at h
            ·cases h; rfl
            ·cases h; exact List.getElem?_set_ne hne
           ·cases h
          ·cases h
         ·split at h
          ·cases h; rfl
          ·split at h
           ·cases h; exact hpush
           ·cases h
         ·cases h
        ·cases h
       ·cases h
      ·cases h
     ·rename_i t sz hTU ht2
      split at h
      ·rename_i a b by_ ha _ _
       unfold j4Y at h
       split at h
       ·rename_i id len s _ _
        simp only [touch,hxs] at ht
        have hne:id ≠ i:=hv ht ha rfl
        split at h
        ·split at h
         ·split at h
          ·cases h; rfl
          ·cases h; exact List.getElem?_set_ne hne
         ·cases h
        ·cases h
       ·cases h
      ·cases h
     ·cases h
    ·cases h
   |unsafeString =>
    simp only [aS] at h
    split at h
    ·rename_i x n T U hxs _
     simp only [touch,hxs] at ht
     unfold j3J at h
     split at h
     ·rename_i id len mm hx _
      have hne:id ≠ i:=hv ht hx rfl
      split at h
      ·split at h
       ·split at h
        ·cases h; exact List.getElem?_set_ne hne
        ·cases h
       ·cases h
      ·cases h
     ·cases h
    ·cases h
   |_=>simp [aS] at h
 |_=>simp [aS] at h
end
end Go.Am
