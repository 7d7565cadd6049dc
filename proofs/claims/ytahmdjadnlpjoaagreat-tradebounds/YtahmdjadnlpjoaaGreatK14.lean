/- Contracts of functions that the proof uses, shared by the claims of this seat; no statement of its own. Part 27. No conditions. -/
import Derived.Test.YtahmdjadnlpjoaaGreatK11
import Derived.Test.YtahmdjadnlpjoaaGreatK13
set_option linter.all false
set_option maxHeartbeats 8000000
namespace Go.Proofs.YtahmdjadnlpjoaaGreat
open Go.RowKit
set_option maxRecDepth 100000
set_option linter.unusedVariables false
set_option linter.unusedSimpArgs false
set_option maxHeartbeats 4000000
def evB (m:List Mov) (l:Lim) (d b:Int):List (Nat × Nat):=if zbs l m b < l.most then [] else if max 0 (b - 1440*d) < min 1440 (b+l.len - 1440*d) then [((max 0 (b - 1440*d)).toNat,(min 1440 (b+l.len - 1440*d)).toNat)] else []
def evX (m:List Mov) (l:Lim) (d:Int) (e:Nat):List (Nat × Nat):=(zM l (d - 1+e)).flatMap (evB m l d)
def evD (m:List Mov) (l:Lim) (d:Int):List (Nat × Nat):=(List.range 2).flatMap (evX m l d)
def evL (m:List Mov) (r:Req) (l:Lim):List (Nat × Nat):=if zac l r.kind r.term then (zY r.per).flatMap (evD m l) else []
def evI (ls:List Lim) (m:List Mov) (r:Req) (i:Nat):List (Nat × Nat):=match ls[i]? with|some l=>evL m r l|none=>[]
def egK (ls:List Lim) (m:List Mov) (r:Req) (k:Nat):List (Nat × Nat):=(List.range k).flatMap (evI ls m r)
def evA (ls:List Lim) (m:List Mov) (r:Req):List (Nat × Nat):=egK ls m r ls.length
theorem evB_ok {m:List Mov} {l:Lim} {d b:Int} {e:Nat × Nat} (h:e ∈ evB m l d b):e.1 < e.2∧e.2≤1440:=by
 unfold evB at h
 split at h
 ·cases h
 ·split at h
  ·simp only [List.mem_singleton] at h;subst h;simp only;omega
  ·cases h
theorem evA_ok {ls:List Lim} {m:List Mov} {r:Req} {e:Nat × Nat} (h:e ∈ evA ls m r):e.1 < e.2∧e.2≤1440:=by
 obtain ⟨i,_,h⟩:=List.mem_flatMap.1 h
 unfold evI at h
 split at h
 ·unfold evL at h
  split at h
  ·obtain ⟨d,_,h⟩:=List.mem_flatMap.1 h
   obtain ⟨x,_,h⟩:=List.mem_flatMap.1 h
   obtain ⟨b,_,h⟩:=List.mem_flatMap.1 h
   exact evB_ok h
  ·cases h
 ·cases h
theorem evA_len {ls:List Lim} (hn:ls.length≤32) (h:∀ l ∈ ls,zaS l=0) (m:List Mov) {r:Req} (hr:zau r.per=0):(evA ls m r).length≤40000000:=by
 have hp:=zaX hr
 have hd:=daysL_len r.per
 have h1:(evA ls m r).length≤(List.range ls.length).length*1154880:=flat_le fun i _=>by
  unfold evI
  split
  ·rename_i l hl
   unfold evL
   split
   ·have h2:((zY r.per).flatMap (evD m l)).length≤(zY r.per).length*2880:=flat_le fun d _=>by
     have h3:(evD m l d).length≤(List.range 2).length*1440:=flat_le fun e _=>by
      have h4:(evX m l d e).length≤(zM l (d - 1+e)).length*1:=flat_le fun b _=>by unfold evB;(repeat' split)<;>simp
      have:=beginsL_len (h l (List.mem_of_getElem? hl)) (d - 1+e)
      omega
     simpa using h3
    omega
   ·simp
  ·simp
 simp only [List.length_range] at h1
 omega
def addE (E:List Int) (e:Nat × Nat):List Int:=(E.set e.1 (E[e.1]?.getD 0+1)).set e.2 (E[e.2]?.getD 0 - 1)
def edg (evs:List (Nat × Nat)):List Int:=evs.foldl addE (List.replicate 1441 0)
theorem edg_snoc (evs:List (Nat × Nat)) (e:Nat × Nat):edg (evs++[e])=addE (edg evs) e:=by rw [edg,List.foldl_append];rfl
theorem foldl_inv {α β:Type} (P:Nat→β→Prop) (f:β→α→β) (hs:∀ n b a,P n b→P (n+1) (f b a)):∀ (l:List α) (n:Nat) (b:β),P n b→P (n+l.length) (l.foldl f b)
 | [],n,b,h=>h
 | a::r,n,b,h=>by rw [List.foldl_cons,List.length_cons,show n+(r.length+1)=(n+1)+r.length by omega];exact foldl_inv P f hs r (n+1) _ (hs n b a h)
theorem edg_inv (evs:List (Nat × Nat)):(edg evs).length=1441∧∀ (i:Nat) (x:Int),(edg evs)[i]?=some x→-(evs.length:Int)≤x∧x≤evs.length:=by
 have:=foldl_inv (fun n (E:List Int)=>E.length=1441∧∀ (i:Nat) (x:Int),E[i]?=some x→-(n:Int)≤x∧x≤n) addE (fun n E e h=>by
  obtain ⟨h1,h2⟩:=h
  refine ⟨by simp [addE,h1],fun i x hx=>?_⟩
  have hg:∀ j:Nat,-(n:Int)≤E[j]?.getD 0∧E[j]?.getD 0≤n:=fun j=>by
   cases hj:E[j]? with
   | none=>simp
   | some y=>exact h2 j y hj
  have h3:=hg e.1
  have h4:=hg e.2
  simp only [addE,List.getElem?_set,List.length_set] at hx
  split at hx
  ·split at hx
   ·injection hx with hx;omega
   ·cases hx
  ·split at hx
   ·split at hx
    ·injection hx with hx;omega
    ·cases hx
   ·have:=h2 i x hx;omega) evs 0 (List.replicate 1441 0) ⟨by simp,fun i x hx=>by
  rw [List.getElem?_replicate] at hx
  split at hx
  ·injection hx with hx;subst hx;simp
  ·cases hx⟩
 simpa [edg] using this
theorem edg_at (evs:List (Nat × Nat)) {i:Nat} (hi:i≤1440):∃ x,(edg evs)[i]?=some x∧-(evs.length:Int)≤x∧x≤evs.length:=by
 have h:=edg_inv evs
 have hi:i < (edg evs).length:=by rw [h.1];omega
 exact ⟨_,List.getElem?_eq_getElem hi,h.2 i _ (List.getElem?_eq_getElem hi)⟩
def preS (E:List Int) (i:Nat):Int:=(E.take i).foldl (·+·) 0
theorem preS_next {E:List Int} {i:Nat} {x:Int} (h:E[i]?=some x):preS E (i+1)=preS E i+x:=by rw [preS,List.take_add_one,h,List.foldl_append];rfl
theorem preS_set {E:List Int} {j:Nat} {x y:Int} (h:E[j]?=some x) (i:Nat):preS (E.set j y) i=preS E i+if j < i then y - x else 0:=by
 have hj:=(List.getElem?_eq_some_iff.1 h).1
 induction i with
 | zero=>simp [preS]
 | succ i ih=>
  by_cases hi:i < E.length
  ·rw [preS_next (x:=((E.set j y)[i]?).getD 0) (by rw [List.getElem?_eq_getElem (by simpa using hi)];rfl),preS_next (List.getElem?_eq_getElem hi),ih,List.getElem?_set]
   by_cases hij:j=i
   ·subst hij
    rw [if_pos rfl,if_pos hj,if_neg (by omega),if_pos (by omega)]
    have:E[j]=x:=by rw [List.getElem?_eq_getElem hj] at h;injection h
    rw [this];simp;omega
   ·rw [if_neg hij,List.getElem?_eq_getElem hi]
    by_cases h1:j < i
    ·rw [if_pos h1,if_pos (by omega)];simp;omega
    ·rw [if_neg h1,if_neg (by omega)];simp
  ·have e1:preS (E.set j y) (i+1)=preS (E.set j y) i:=by rw [preS,preS,List.take_of_length_le (by simp;omega),List.take_of_length_le (by simp;omega)]
   have e2:preS E (i+1)=preS E i:=by rw [preS,preS,List.take_of_length_le (by omega),List.take_of_length_le (by omega)]
   rw [e1,e2,ih]
   by_cases h1:j < i
   ·rw [if_pos h1,if_pos (by omega)]
   ·omega
def hitN (i:Nat) (e:Nat × Nat):Bool:=decide (e.1≤i) && decide (i < e.2)
theorem preS_edg {evs : List (Nat × Nat)} (h : ∀ e ∈ evs, e.1 < e.2 ∧ e.2 ≤ 1440) {i : Nat} (hi : i < 1440) : preS (edg evs) (i + 1) = ((evs.filter (hitN i)).length : Int) := by
  have key : ∀ n, n ≤ evs.length → preS (edg (evs.take n)) (i + 1) = (((evs.take n).filter (hitN i)).length : Int) := by
    intro n
    induction n with
    | zero => intro _; simp only [List.take_zero, edg, List.foldl_nil, List.filter_nil, List.length_nil, preS]
              rw [List.take_replicate]
              generalize min (i + 1) 1441 = q
              induction q with
              | zero => rfl
              | succ q ih => rw [List.replicate_succ', List.foldl_append, ih]; rfl
    | succ n ih =>
      intro hn
      have ih := ih (by omega)
      have hx := List.getElem?_eq_getElem (l := evs) (i := n) (by omega)
      have he := h _ (List.mem_of_getElem? hx)
      rw [filter_take hx, List.take_add_one, hx, Option.toList_some, edg_snoc, addE]
      obtain ⟨x, hx1, _⟩ := edg_at (evs.take n) (i := evs[n].1) (by omega)
      obtain ⟨y, hy1, _⟩ := edg_at (evs.take n) (i := evs[n].2) (by omega)
      have hne : ((edg (evs.take n)).set evs[n].1 (x + 1))[evs[n].2]? = some y := by rw [List.getElem?_set_ne (by omega)]; exact hy1
      rw [hx1, hy1, Option.getD_some, Option.getD_some, preS_set hne, preS_set hx1, ih, List.length_append]
      simp only [hitN]
      by_cases h1 : evs[n].1 ≤ i
      · by_cases h2 : i < evs[n].2
        · simp only [h1, h2, decide_true, Bool.true_and, if_true, List.length_cons, List.length_nil, if_pos (show evs[n].1 < i + 1 by omega), if_neg (show ¬ evs[n].2 < i + 1 by omega)]; omega
        · simp only [h1, h2, decide_true, decide_false, Bool.and_false, Bool.false_eq_true, if_false, List.length_nil, if_pos (show evs[n].1 < i + 1 by omega), if_pos (show evs[n].2 < i + 1 by omega)]; omega
      · simp only [h1, decide_false, Bool.false_and, Bool.false_eq_true, if_false, List.length_nil, if_neg (show ¬ evs[n].1 < i + 1 by omega), if_neg (show ¬ evs[n].2 < i + 1 by omega)]; omega
  have := key evs.length (Nat.le_refl _)
  rwa [List.take_length] at this
def refV (evs:List (Nat × Nat)) (i:Nat):Bool:=evs.any (hitN i)
theorem preS_pos {evs:List (Nat × Nat)} (h:∀ e ∈ evs,e.1 < e.2∧e.2≤1440) {i:Nat} (hi:i < 1440):decide (0 < preS (edg evs) (i+1))=refV evs i:=by
 rw [preS_edg h hi,refV]
 rw [Bool.eq_iff_iff,decide_eq_true_eq,List.any_eq_true]
 constructor
 ·intro hp
  obtain ⟨e,he⟩:=List.exists_mem_of_length_pos (show 0 < (evs.filter (hitN i)).length by omega)
  exact ⟨e,(List.mem_filter.1 he).1,(List.mem_filter.1 he).2⟩
 ·rintro ⟨e,he,hh⟩
  have:=List.length_pos_of_mem (List.mem_filter.2 ⟨he,hh⟩)
  omega
theorem preS_bd {evs:List (Nat × Nat)} (h:∀ e ∈ evs,e.1 < e.2∧e.2≤1440) {i:Nat} (hi:i≤1440):0≤preS (edg evs) i∧preS (edg evs) i≤evs.length:=by
 cases i with
 | zero=>simp [preS]
 | succ i=>
  rw [preS_edg h (by omega)]
  have:=List.length_filter_le (hitN i) evs
  omega
def outK (evs:List (Nat × Nat)) (k:Nat):List Bool:=(List.range 1440).map fun j=>decide (j < k) && refV evs j
theorem outK_len (evs:List (Nat × Nat)) (k:Nat):(outK evs k).length=1440:=by simp [outK]
theorem outK_at {evs:List (Nat × Nat)} {k j:Nat} (hj:j < 1440):(outK evs k)[j]?=some (decide (j < k) && refV evs j):=by
 rw [outK,List.getElem?_map,List.getElem?_range hj];rfl
theorem outK_set (evs:List (Nat × Nat)) {k:Nat} (hk:k < 1440):(outK evs k).set k (refV evs k)=outK evs (k+1):=by
 refine List.ext_getElem? fun j=>?_
 rw [List.getElem?_set]
 by_cases hj:j < 1440
 ·rw [outK_at hj,outK_at hj,outK_len]
  by_cases e:k=j
  ·subst e;rw [if_pos rfl,if_pos hk];simp
  ·rw [if_neg e]
   have:(decide (j < k))=decide (j < k+1):=decide_eq_decide.2 (by omega)
   rw [this]
 ·rw [if_neg (by omega),List.getElem?_eq_none (by rw [outK_len];omega),List.getElem?_eq_none (by rw [outK_len];omega)]
theorem outK_0 (evs:List (Nat × Nat)):outK evs 0=List.replicate 1440 false:=by
 refine List.ext_getElem? fun j=>?_
 by_cases hj:j < 1440
 ·rw [outK_at hj,List.getElem?_replicate,if_pos hj];simp
 ·rw [List.getElem?_eq_none (by rw [outK_len];omega),List.getElem?_eq_none (by simp;omega)]
end Go.Proofs.YtahmdjadnlpjoaaGreat
