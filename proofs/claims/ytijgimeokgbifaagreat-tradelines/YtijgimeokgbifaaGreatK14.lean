/- Contracts of functions, for the claim. No conditions. -/
import Derived.Test.YtijgimeokgbifaaGreatK11
import Derived.Test.YtijgimeokgbifaaGreatK8
set_option linter.all false
set_option maxHeartbeats 8000000
set_option maxRecDepth 100000
namespace Go.Proofs.YtijgimeokgbifaaGreat
open Go.RowKit
def evB (m:List Mov) (l:Lim) (d b:Int):List (Nat × Nat):=if zbs l m b < l.most then [] else if max 0 (b - 1440*d) < min 1440 (b+l.len - 1440*d) then [((max 0 (b - 1440*d)).toNat,(min 1440 (b+l.len - 1440*d)).toNat)] else []
def evX (m:List Mov) (l:Lim) (d:Int) (e:Nat):List (Nat × Nat):=(zL l (d - 1+e)).flatMap (evB m l d)
def evD (m:List Mov) (l:Lim) (d:Int):List (Nat × Nat):=(List.range 2).flatMap (evX m l d)
def evL (m:List Mov) (r:Req) (l:Lim):List (Nat × Nat):=if zac l r.kind r.term then (zW r.per).flatMap (evD m l) else []
def evI (ls:List Lim) (m:List Mov) (r:Req) (i:Nat):List (Nat × Nat):=match ls[i]? with|some l=>evL m r l|none=>[]
def egK (ls:List Lim) (m:List Mov) (r:Req) (k:Nat):List (Nat × Nat):=(List.range k).flatMap (evI ls m r)
def evA (ls:List Lim) (m:List Mov) (r:Req):List (Nat × Nat):=egK ls m r ls.length
theorem zxv {m:List Mov} {l:Lim} {d b:Int} {e:Nat × Nat} (h:e ∈ evB m l d b):e.1 < e.2/\e.2<=1440:=by
 unfold evB at h
 split at h
 ·cases h
 ·split at h
  ·simp only [List.mem_singleton] at h;subst h;simp only;omega
  ·cases h
theorem zxw {ls:List Lim} {m:List Mov} {r:Req} {e:Nat × Nat} (h:e ∈ evA ls m r):e.1 < e.2/\e.2<=1440:=by
 obtain ⟨i,_,h⟩:=List.mem_flatMap.1 h
 unfold evI at h
 split at h
 ·unfold evL at h
  split at h
  ·obtain ⟨d,_,h⟩:=List.mem_flatMap.1 h
   obtain ⟨x,_,h⟩:=List.mem_flatMap.1 h
   obtain ⟨b,_,h⟩:=List.mem_flatMap.1 h
   exact zxv h
  ·cases h
 ·cases h
theorem zuZ {ls:List Lim} (hn:ls.length<=32) (h:∀ l ∈ ls,zaS l=0) (m:List Mov) {r:Req} (hr:zau r.per=0):(evA ls m r).length<=40000000:=by
 have hp:=zaY hr
 have hd:=zcG r.per
 have h1:(evA ls m r).length<=(List.range ls.length).length*1154880:=zcF λi _=>by
  unfold evI
  split
  ·rename_i l hl
   unfold evL
   split
   ·have h2:((zW r.per).flatMap (evD m l)).length<=(zW r.per).length*2880:=zcF λd _=>by
     have h3:(evD m l d).length<=(List.range 2).length*1440:=zcF λe _=>by
      have h4:(evX m l d e).length<=(zL l (d - 1+e)).length*1:=zcF λb _=>by unfold evB;(repeat' split)<;>simp
      have:=zft (h l (List.mem_of_getElem? hl)) (d - 1+e)
      omega
     simpa using h3
    omega
   ·simp
  ·simp
 simp only [List.length_range] at h1
 omega
def zvS (E:List Int) (e:Nat × Nat):List Int:=(E.set e.1 (E[e.1]?.getD 0+1)).set e.2 (E[e.2]?.getD 0 - 1)
def edg (evs:List (Nat × Nat)):List Int:=evs.foldl zvS (List.replicate 1441 0)
theorem zkQ (evs:List (Nat × Nat)) (e:Nat × Nat):edg (evs++[e])=zvS (edg evs) e:=by rw [edg,List.foldl_append];rfl
theorem zh1 {α β:Type} (P:Nat->β->Prop) (f:β->α->β) (hs:∀ n b a,P n b->P (n+1) (f b a)):∀ (l:List α) (n:Nat) (b:β),P n b->P (n+l.length) (l.foldl f b)
 | [],n,b,h=>h
 | a::r,n,b,h=>by rw [List.foldl_cons,List.length_cons,show n+(r.length+1)=(n+1)+r.length by omega];exact zh1 P f hs r (n+1) _ (hs n b a h)
theorem zoH (evs:List (Nat × Nat)):(edg evs).length=1441/\∀ (i:Nat) (x:Int),(edg evs)[i]?=some x->-(evs.length:Int)<=x/\x<=evs.length:=by
 have:=zh1 (λn (E:List Int)=>E.length=1441/\∀ (i:Nat) (x:Int),E[i]?=some x->-(n:Int)<=x/\x<=n) zvS (λn E e h=>by
  obtain ⟨h1,h2⟩:=h
  refine ⟨by simp [zvS,h1],λi x hx=>?_⟩
  have hg:∀ j:Nat,-(n:Int)<=E[j]?.getD 0/\E[j]?.getD 0<=n:=λj=>by
   cases hj:E[j]? with
   | none=>simp
   | some y=>exact h2 j y hj
  have h3:=hg e.1
  have h4:=hg e.2
  simp only [zvS,List.getElem?_set,List.length_set] at hx
  split at hx
  ·split at hx
   ·injection hx with hx;omega
   ·cases hx
  ·split at hx
   ·split at hx
    ·injection hx with hx;omega
    ·cases hx
   ·have:=h2 i x hx;omega) evs 0 (List.replicate 1441 0) ⟨by simp,λi x hx=>by
  rw [List.getElem?_replicate] at hx
  split at hx
  ·injection hx with hx;subst hx;simp
  ·cases hx⟩
 simpa [edg] using this
theorem zh8 (evs:List (Nat × Nat)) {i:Nat} (hi:i<=1440):∃ x,(edg evs)[i]?=some x/\-(evs.length:Int)<=x/\x<=evs.length:=by
 have h:=zoH evs
 have hi:i < (edg evs).length:=by rw [h.1];omega
 exact ⟨_,List.getElem?_eq_getElem hi,h.2 i _ (List.getElem?_eq_getElem hi)⟩
def zfB (E:List Int) (i:Nat):Int:=(E.take i).foldl (·+·) 0
theorem zeS {E:List Int} {i:Nat} {x:Int} (h:E[i]?=some x):zfB E (i+1)=zfB E i+x:=by rw [zfB,List.take_add_one,h,List.foldl_append];rfl
theorem zkr {E:List Int} {j:Nat} {x y:Int} (h:E[j]?=some x) (i:Nat):zfB (E.set j y) i=zfB E i+if j < i then y - x else 0:=by
 have hj:=(List.getElem?_eq_some_iff.1 h).1
 induction i with
 | zero=>simp [zfB]
 | succ i ih=>
  by_cases hi:i < E.length
  ·rw [zeS (x:=((E.set j y)[i]?).getD 0) (by rw [List.getElem?_eq_getElem (by simpa using hi)];rfl),zeS (List.getElem?_eq_getElem hi),ih,List.getElem?_set]
   by_cases hij:j=i
   ·subst hij
    rw [if_pos rfl,if_pos hj,if_neg (by omega),if_pos (by omega)]
    have:E[j]=x:=by rw [List.getElem?_eq_getElem hj] at h;injection h
    rw [this];simp;omega
   ·rw [if_neg hij,List.getElem?_eq_getElem hi]
    by_cases h1:j < i
    ·rw [if_pos h1,if_pos (by omega)];simp;omega
    ·rw [if_neg h1,if_neg (by omega)];simp
  ·have e1:zfB (E.set j y) (i+1)=zfB (E.set j y) i:=by rw [zfB,zfB,List.take_of_length_le (by simp;omega),List.take_of_length_le (by simp;omega)]
   have e2:zfB E (i+1)=zfB E i:=by rw [zfB,zfB,List.take_of_length_le (by omega),List.take_of_length_le (by omega)]
   rw [e1,e2,ih]
   by_cases h1:j < i
   ·rw [if_pos h1,if_pos (by omega)]
   ·omega
def zsR (i:Nat) (e:Nat × Nat):Bool:=decide (e.1<=i) && decide (i < e.2)
theorem zks {evs : List (Nat × Nat)} (h : ∀ e ∈ evs, e.1 < e.2 ∧ e.2 ≤ 1440) {i : Nat} (hi : i < 1440) : zfB (edg evs) (i + 1) = ((evs.filter (zsR i)).length : Int) := by
  have key : ∀ n, n ≤ evs.length → zfB (edg (evs.take n)) (i + 1) = (((evs.take n).filter (zsR i)).length : Int) := by
    intro n
    induction n with
    | zero => intro _; simp only [List.take_zero, edg, List.foldl_nil, List.filter_nil, List.length_nil, zfB]
              rw [List.take_replicate]
              generalize min (i + 1) 1441 = q
              induction q with
              | zero => rfl
              | succ q ih => rw [List.replicate_succ', List.foldl_append, ih]; rfl
    | succ n ih =>
      intro hn
      have ih := ih (by omega)
      have hx := List.getElem?_eq_getElem (l := evs) (i := n) (by omega)
      have he := h _ (List.mem_of_getElem? hx)
      rw [zfh hx, List.take_add_one, hx, Option.toList_some, zkQ, zvS]
      obtain ⟨x, hx1, _⟩ := zh8 (evs.take n) (i := evs[n].1) (by omega)
      obtain ⟨y, hy1, _⟩ := zh8 (evs.take n) (i := evs[n].2) (by omega)
      have hne : ((edg (evs.take n)).set evs[n].1 (x + 1))[evs[n].2]? = some y := by rw [List.getElem?_set_ne (by omega)]; exact hy1
      rw [hx1, hy1, Option.getD_some, Option.getD_some, zkr hne, zkr hx1, ih, List.length_append]
      simp only [zsR]
      by_cases h1 : evs[n].1 ≤ i
      · by_cases h2 : i < evs[n].2
        · simp only [h1, h2, decide_true, Bool.true_and, if_true, List.length_cons, List.length_nil, if_pos (show evs[n].1 < i + 1 by omega), if_neg (show ¬ evs[n].2 < i + 1 by omega)]; omega
        · simp only [h1, h2, decide_true, decide_false, Bool.and_false, Bool.false_eq_true, if_false, List.length_nil, if_pos (show evs[n].1 < i + 1 by omega), if_pos (show evs[n].2 < i + 1 by omega)]; omega
      · simp only [h1, decide_false, Bool.false_and, Bool.false_eq_true, if_false, List.length_nil, if_neg (show ¬ evs[n].1 < i + 1 by omega), if_neg (show ¬ evs[n].2 < i + 1 by omega)]; omega
  have := key evs.length (Nat.le_refl _)
  rwa [List.take_length] at this
def zsE (evs:List (Nat × Nat)) (i:Nat):Bool:=evs.any (zsR i)
theorem zra {evs:List (Nat × Nat)} (h:∀ e ∈ evs,e.1 < e.2/\e.2<=1440) {i:Nat} (hi:i < 1440):decide (0 < zfB (edg evs) (i+1))=zsE evs i:=by
 rw [zks h hi,zsE]
 rw [Bool.eq_iff_iff,decide_eq_true_eq,List.any_eq_true]
 constructor
 ·intro hp
  obtain ⟨e,he⟩:=List.exists_mem_of_length_pos (show 0 < (evs.filter (zsR i)).length by omega)
  exact ⟨e,(List.mem_filter.1 he).1,(List.mem_filter.1 he).2⟩
 ·rintro ⟨e,he,hh⟩
  have:=List.length_pos_of_mem (List.mem_filter.2 ⟨he,hh⟩)
  omega
theorem zup {evs:List (Nat × Nat)} (h:∀ e ∈ evs,e.1 < e.2/\e.2<=1440) {i:Nat} (hi:i<=1440):0<=zfB (edg evs) i/\zfB (edg evs) i<=evs.length:=by
 cases i with
 | zero=>simp [zfB]
 | succ i=>
  rw [zks h (by omega)]
  have:=List.length_filter_le (zsR i) evs
  omega
def ziz (evs:List (Nat × Nat)) (k:Nat):List Bool:=(List.range 1440).map λj=>decide (j < k) && zsE evs j
theorem zb4 (evs:List (Nat × Nat)) (k:Nat):(ziz evs k).length=1440:=by simp [ziz]
theorem zgO {evs:List (Nat × Nat)} {k j:Nat} (hj:j < 1440):(ziz evs k)[j]?=some (decide (j < k) && zsE evs j):=by
 rw [ziz,List.getElem?_map,List.getElem?_range hj];rfl
theorem zrf (evs:List (Nat × Nat)) {k:Nat} (hk:k < 1440):(ziz evs k).set k (zsE evs k)=ziz evs (k+1):=by
 refine List.ext_getElem? λj=>?_
 rw [List.getElem?_set]
 by_cases hj:j < 1440
 ·rw [zgO hj,zgO hj,zb4]
  by_cases e:k=j
  ·subst e;rw [if_pos rfl,if_pos hk];simp
  ·rw [if_neg e]
   have:(decide (j < k))=decide (j < k+1):=decide_eq_decide.2 (by omega)
   rw [this]
 ·rw [if_neg (by omega),List.getElem?_eq_none (by rw [zb4];omega),List.getElem?_eq_none (by rw [zb4];omega)]
theorem zw3 (evs:List (Nat × Nat)):ziz evs 0=List.replicate 1440 false:=by
 refine List.ext_getElem? λj=>?_
 by_cases hj:j < 1440
 ·rw [zgO hj,List.getElem?_replicate,if_pos hj];simp
 ·rw [List.getElem?_eq_none (by rw [zb4];omega),List.getElem?_eq_none (by simp;omega)]
end Go.Proofs.YtijgimeokgbifaaGreat
