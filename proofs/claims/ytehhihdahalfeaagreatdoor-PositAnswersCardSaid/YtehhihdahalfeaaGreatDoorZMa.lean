/-
  posit.apart, which counts names in a map of its own: what it answers. No statement of the seat.
-/
import Derived.Test.YtehhihdahalfeaaGreatDoorZHb
import Derived.Test.YtehhihdahalfeaaGreatDoorZNt
import Derived.Test.YtehhihdahalfeaaGreatDoorChecked
import Derived.WalkKit
import Derived.Maps.Views
import Derived.SliceStrings
import Derived.Lib.Strings
set_option linter.unusedVariables false
set_option linter.unusedSimpArgs false
set_option linter.unnecessarySimpa false
namespace Go.Proofs.YtehhihdahalfeaaGreatDoor
open Go Go.RowKit Go.WideMaps Go.Maps
/-- are names there, and no two alike? -/
def aptGo:List (List UInt8)→List (List UInt8)→Bool
  |_,[]=>true
  |seen,s :: r=>if s=[]∨s ∈ seen then false else aptGo (s :: seen) r
def aptL {H:Type} (n:Int):DataW H:=.lit (.int .i64 n)
/-- the map behind some names, no two alike -/
def aptC {H:Type} (seen:List (List UInt8)):DataW H:=seen.foldr (fun s D=>D.put (.string s) (aptL 1)) (.map [])
theorem aptC_map {H:Type}:∀ seen:List (List UInt8),IsMap (aptC (H:=H) seen)
  |[]=>isMap_empty
  |s :: r=>(aptC_map r).put _ _
theorem aptC_at {H:Type} (s:List UInt8):∀ seen:List (List UInt8),(aptC (H:=H) seen).atKey (.string s) (aptL 0)=if s ∈ seen then aptL 1 else aptL 0
  |[]=>by
    rw [if_neg (by simp)]
    exact WideAt.atKey_none _ (by simp)
  |x :: r=>by
    show ((aptC (H:=H) r).put (.string x) (aptL 1)).atKey (.string s) (aptL 0)=_
    by_cases h:s=x
    · subst h
      rw [atKey_put_same (aptC_map r) (by exact trivial),if_pos (by simp)]
    · rw [atKey_put_other (by simpa using h),aptC_at s r]
      by_cases h2:s ∈ r
      · rw [if_pos h2,if_pos (by simp [h2])]
      · rw [if_neg h2,if_neg (by simp [h,h2])]
theorem aptLaw:Keyed Tryz.prog 9:=string_keyed Tryz.underlying9
theorem aptZero (w:World):(zeroValue 3).run Tryz.prog w = .ok (.int .i64 0) w:=by kernel_rfl
def aptS (ss:List ByteArray):List (List UInt8):=ss.map fun s=>s.data.toList
set_option maxRecDepth 100000 in
theorem apart_any (b off len cap:Nat) (ss:List ByteArray) (w:World) (hreach:len * 16 ≤ 140737488351232) (hz:len=ss.length) (hb:b < w.heap.size∨len=0)
    (hc:∀ j,j < ss.length→w.cell? ⟨b,off + j,none⟩=some (.string (ss.getD j ByteArray.empty))) (hsz:∀ s ∈ ss,s.size ≤ maxLen) :
    Calls Tryz.prog 98 #[.slice (some ⟨b,off,none⟩) len cap] w fun e w'=>e = .returned (.bool (aptGo [] (aptS ss)))∧Below w.heap.size w w':=by
  have hmm:=@run_makeMap Tryz.prog
  go_enter Tryz.func98,Tryz.ntmps98
  go_wp2
  go_loopw [9] (fun i wr=>∃ k:Nat,k ≤ len∧i = .int .i64 k∧wr.ownsMap Tryz.prog 9 (plainElem (H:=Unit) Tryz.prog 3) w.heap.size k (aptC ((aptS ss).take k).reverse)∧Below w.heap.size w wr∧aptGo ((aptS ss).take k).reverse ((aptS ss).drop k)=aptGo [] (aptS ss))
    (fun i _=>len - (intOf i).toNat)
  case atStart=>exact ⟨0,Nat.zero_le _,rfl,World.ownsMap_made _ _ _ _,(Below.refl _ _).alloc (Nat.le_refl _) _,by simp⟩
  case round =>
    obtain ⟨k,hk,rfl,hown,hnx,hgo⟩:=hrel
    obtain ⟨s,hs⟩:∃ s,s=ss.getD k ByteArray.empty:=⟨_,rfl⟩
    have hcx:k < len→wr.cell? ⟨b,off + k,none⟩=some (.string s):=fun hlt=>by rw [hs]; exact (hnx.cell (by exact hb.resolve_right (by omega))).trans (hc k (by omega))
    have hsk:k < len→(aptS ss)[k]? = some s.data.toList:=fun hlt=>by
      have:ss[k]? = some s:=by rw [hs,List.getD_eq_getElem?_getD,List.getElem?_eq_getElem (by omega)]; rfl
      simp [aptS,this]
    have hsm:s.size ≤ maxLen:=by
      rw [hs]
      by_cases hk2:k < ss.length
      · rw [List.getD_eq_getElem?_getD,List.getElem?_eq_getElem hk2]
        exact hsz _ (List.getElem_mem hk2)
      · rw [List.getD_eq_getElem?_getD,List.getElem?_eq_none (by omega)]
        exact Nat.zero_le _
    have hkey:keyOf Tryz.prog 9 (.string s)=some (.string s.data.toList):=keyOf_string_mk Tryz.underlying9 hsm
    clear hs
    obtain ⟨c,hrun,hat,_⟩:=hown.lookup_int aptLaw Tryz.underlying169 Tryz.underlying3 (aptZero _) hkey
    have hat2:=aptC_at (H:=Unit) s.data.toList ((aptS ss).take k).reverse
    rw [show aptL (H:=Unit) 0 = .lit (.int .i64 0) from rfl,hat] at hat2
    go_wp2_with (first
      |(at_mapUpdate; refine wpList_mapUpdate_own _ rfl _ _ _ 169 rfl 9 3 aptLaw Tryz.underlying169 _ w.heap.size k _ rfl hown (by unfold maxLen; omega) _ _ _ rfl rfl hkey _ [] (plainElem_int Tryz.underlying3 (wrap64_wf _)) ?_)
      |go_in)
    · intro w1 hown1 hgrow1
      have hlt:k < len:=by omega
      obtain ⟨c2,hrun2,hat3,_⟩:=hown1.lookup_int aptLaw Tryz.underlying169 Tryz.underlying3 (aptZero _) hkey
      rw [atKey_put_same (aptC_map _) (by exact trivial)] at hat3
      have hc2:wrap64 (c + 1)=c2:=by injection hat3 with h; injection h
      have hdrop:(aptS ss).drop k=s.data.toList :: (aptS ss).drop (k + 1):=by
        have hl:k < (aptS ss).length:=by simp [aptS]; omega
        rw [List.drop_eq_getElem_cons hl]
        congr 1
        have:=hsk hlt
        rw [List.getElem?_eq_getElem hl] at this
        exact Option.some.inj this
      have hgo2:aptGo [] (aptS ss)=if s.data.toList=[]∨s.data.toList ∈ ((aptS ss).take k).reverse then false else aptGo (s.data.toList :: ((aptS ss).take k).reverse) ((aptS ss).drop (k + 1)):=by
        rw [← hgo,hdrop,aptGo]
      have hcv:c=if s.data.toList ∈ ((aptS ss).take k).reverse then 1 else 0:=by
        split at hat2
        · rename_i hm
          rw [if_pos hm]
          injection hat2 with h
          injection h
        · rename_i hm
          rw [if_neg hm]
          injection hat2 with h
          injection h
      have hts:s.toList=s.data.toList:=Lib.toList_data s
      have hc01:c=0∨c=1:=by
        rw [hcv]
        split
        · exact .inr rfl
        · exact .inl rfl
      have hw0:wrap64 ((0:Int) + 1)=1:=by simp [wrap64]
      have hw1:wrap64 ((1:Int) + 1)=2:=by simp [wrap64]
      have hd1:s.data.toList=[]→aptGo [] (aptS ss)=false:=fun h=>by rw [hgo2,if_pos (.inl h)]
      have hd2:1 < c2→aptGo [] (aptS ss)=false:=fun h=>by
        rcases Classical.em (s.data.toList ∈ ((aptS ss).take k).reverse) with h2|h2
        · rw [hgo2,if_pos (.inr h2)]
        · rw [if_neg h2] at hcv
          rw [hcv,hw0] at hc2
          omega
      have hd3:s.data.toList ≠ []→¬ 1 < c2→c=0∧aptGo [] (aptS ss)=aptGo (s.data.toList :: ((aptS ss).take k).reverse) ((aptS ss).drop (k + 1)):=fun h h2=>by
        have hn:s.data.toList ∉ ((aptS ss).take k).reverse:=fun h3=>by
          rw [if_pos h3] at hcv
          rw [hcv,hw1] at hc2
          omega
        rw [if_neg hn] at hcv
        exact ⟨hcv,by rw [hgo2,if_neg (fun h4=>h4.elim h hn)]⟩
      clear hcv hgo2 hc01 hat2 hat hat3
      have hnx2:Below w.heap.size w w1:=hnx.grown hgrow1 hnx.size (fun j hj=>by cases hj; exact Nat.le_refl _)
      have htk:((aptS ss).take (k + 1)).reverse=s.data.toList :: ((aptS ss).take k).reverse:=by
        rw [List.take_add_one,hsk hlt]
        simp
      go_wp2
      · rename_i he
        have e:=hd1 (by simpa using he)
        go_ret
        exact ⟨by first|rfl|(rw [e]; rfl),hnx2⟩
      · rename_i hne ho
        have e:=hd2 (ho.resolve_left (fun h=>hne (by simpa using h)))
        go_ret
        exact ⟨by first|rfl|(rw [e]; rfl),hnx2⟩
      · rename_i hne ho
        obtain ⟨hc0,e⟩:=hd3 (fun h=>hne (by simpa using h)) (by omega)
        rw [hc0,hw0] at hown1
        go_roundw
        case rel=>exact ⟨_,_,_,⟨k + 1,by omega,rfl,by rw [htk]; exact hown1,by rw [htk]⟩,rfl,rfl,by go_num⟩
        case measure=>simp [intOf]; omega
    · have hkl:k=ss.length:=by omega
      have e:aptGo [] (aptS ss)=true:=by
        rw [← hgo,List.drop_of_length_le (by simp [aptS]; omega)]
        rfl
      go_ret
      exact ⟨by first|rfl|(rw [e]; rfl),hnx⟩
theorem apart_nil (a:Option Addr) (cap:Nat) (w:World) :
    Calls Tryz.prog 98 #[.slice a 0 cap] w fun e w'=>e = .returned (.bool true)∧Below w.heap.size w w':=by
  have hmm:=@run_makeMap Tryz.prog
  go_enter Tryz.func98,Tryz.ntmps98
  go_wp2
  go_loopw [9] (fun i wr=>i = .int .i64 0∧Below w.heap.size w wr) (fun _ _=>0)
  case atStart=>exact ⟨rfl,(Below.refl _ _).alloc (Nat.le_refl _) _⟩
  case round =>
    obtain ⟨rfl,hnx⟩:=hrel
    go_wp2
    go_ret
    exact ⟨rfl,hnx⟩
open Go.Am Go.Hb in
def apartF:List PV→Option (List PV)
  |[.sl _ _ xs]=>match mapO strOf xs with
    |some ss=>match Nat.ble ss.length 1000000000 && ss.all fun s=>Nat.ble (bl s).length 1000000000 with
      |true=>some [.sc (.bool (aptGo [] (ss.map bl)))]
      |false=>none
    |none=>none
  |_=>none
open Go.Am Go.Hb in
theorem nat_apart:NatAt Tryz.prog 98 apartF:=natAt_below fun args rs hF w m vs hg hr=>by
  unfold apartF at hF
  split at hF
  · rename_i b z xs
    split at hF
    · rename_i ss hss
      split at hF
      · rename_i hb
        cases hF
        simp only [Bool.and_eq_true] at hb
        obtain ⟨h5,h6⟩:=hb
        have h5:=Nat.le_of_ble_eq_true h5
        have h6:=List.all_eq_true.1 h6
        have hxs:=mapO_str hss
        obtain ⟨u,rfl,h1⟩:=hr.one
        have hlen:xs.length=ss.length:=by rw [hxs]; simp
        cases h1 with
        | @sl _ _ _ _ a cap bk off g ha hcap hmax hfull hel hrr hnil =>
          refine ⟨[_],Rl.sc1 rfl,?_⟩
          cases hss0:ss with
          |nil =>
            subst hss0
            have hx0:xs=[]:=by simpa using hxs
            subst hx0
            exact apart_nil a cap w
          |cons s0 sr =>
            rw [← hss0]
            have hne:xs ≠ []:=by rw [hxs,hss0]; simp
            have hcell:∀ (j:Nat) x,ss[j]? = some x→w.cell? ⟨bk,off + j,none⟩=some (.string x):=fun j x hj=>by
              have hx:xs[j]? = some (.sc (.string x)):=by rw [hxs,List.getElem?_map,hj]; rfl
              obtain ⟨q1,q2,q3,q4⟩:=hel j _ hx
              simp only [PV.cells,List.length_singleton] at q1
              subst q1
              have hg0:∃ v,g j=[v]:=List.length_eq_one_iff.1 q2
              obtain ⟨v,hv⟩:=hg0
              have:=hrr j _ 0 (.sc (.string x)) v hx rfl (by rw [hv]; rfl)
              obtain rfl:=this.sc_eq
              have hm:=q3 0 (.string x) (by rw [hv]; rfl)
              have:=hg.cell hm
              simpa using this
            rw [ha hne,hlen]
            have hbk:bk < w.heap.size:=by
              have h0:=hcell 0 s0 (by rw [hss0]; rfl)
              simp only [World.cell?] at h0
              cases e:w.heap[bk]? with
              |none=>simp [e] at h0
              |some o=>exact mem_lt e
            exact apart_any bk off ss.length cap ss w (by omega) rfl (.inl hbk) (fun j hj=>hcell j _ (by rw [List.getD_eq_getElem?_getD,List.getElem?_eq_getElem hj]; rfl))
              (fun s hs=>by
                have:=Nat.le_of_ble_eq_true (h6 s hs)
                have e1:s.size=(bl s).length:=by rw [bl]; exact Lib.size_eq s
                unfold maxLen
                omega)
      · cases hF
    · cases hF
  · cases hF
end Go.Proofs.YtehhihdahalfeaaGreatDoor
