/- Contracts of functions, for the claim. No conditions. -/
import Derived.Test.YtijgimeokgbifaaGreatK8
import Derived.Test.YtijgimeokgbifaaGreatK9
import Derived.Test.YtijgimeokgbifaaGreatK10
import Derived.Test.YtijgimeokgbifaaGreatK3
set_option linter.all false
set_option maxHeartbeats 8000000
set_option maxRecDepth 100000
namespace Go.Proofs.YtijgimeokgbifaaGreat
open Go.RowKit
theorem zkO {l:List Int} (h:zg l=0) {x:Int} (hx:x ∈ l):x=0:=by
 induction l with
 | nil=>cases hx
 | cons e r ih=>
  obtain ⟨h1,h2⟩:=zp.1 h
  rcases List.mem_cons.1 hx with h|h
  ·rw [h];exact h1
  ·exact ih h2 h
theorem zeV {l:List Int} (h:l.Pairwise (·<=·)):zeH l:=by
 intro i j x y hij hx hy
 obtain ⟨hi,rfl⟩:=List.getElem?_eq_some_iff.1 hx
 obtain ⟨hj,rfl⟩:=List.getElem?_eq_some_iff.1 hy
 rcases Nat.lt_or_eq_of_le hij with h1|h1
 ·exact List.pairwise_iff_getElem.1 h i j hi hj h1
 ·subst h1;exact Int.le_refl _
theorem ziF {l:List Int} (h:∀ (i:Nat) (x y:Int),l[i]?=some x->l[i+1]?=some y->x<=y):l.Pairwise (·<=·):=by
 refine List.pairwise_iff_getElem.2 λi j hi hj hij=>?_
 obtain ⟨k,rfl⟩:∃ k,j=i+1+k:=⟨j - i - 1,by omega⟩
 clear hij
 induction k with
 | zero=>exact h i _ _ (List.getElem?_eq_getElem hi) (List.getElem?_eq_getElem hj)
 | succ k ih=>exact Int.le_trans (ih (by omega)) (h (i+1+k) _ _ (List.getElem?_eq_getElem (by omega)) (List.getElem?_eq_getElem hj))
theorem zaR {m:List Mov} (h:zad m=0):m.length<=30000/\(∀ x ∈ m,zed x=0)/\(m.map Mov.moment).Pairwise (·<=·):=by
 unfold zad at h
 split at h
 ·cases h
 ·have key:∀ (i:Nat) (x:Mov),m[i]?=some x->zhT m i x=0:=λi x hx=>zkO h (List.mem_of_getElem? (zH hx))
  refine ⟨by omega,λx hx=>?_,ziF λi x y hx hy=>?_⟩
  ·obtain ⟨i,hi⟩:=List.getElem?_of_mem hx
   exact (zp.1 (key i x hi)).1
  ·simp only [List.getElem?_map,Option.map_eq_some_iff] at hx hy
   obtain ⟨a,ha,rfl⟩:=hx
   obtain ⟨b,hb,rfl⟩:=hy
   have h1:=(zp.1 (zp.1 (key (i+1) b hb)).2).1
   simp only [Nat.add_sub_cancel,ha,Option.getD_some] at h1
   rw [zg3 (by decide)] at h1
   omega
theorem zlM {l:Lim} {m:List Mov} (h:zad m=0):zeH (ofL l m):=by
 refine zeV ?_
 have:=(zaR h).2.2
 rw [List.pairwise_map] at this
 rw [ofL,List.pairwise_map]
 exact this.filter _
theorem zux {l:Lim} {m:List Mov}:(ofL l m).length<=m.length:=by
 simp only [ofL,List.length_map];exact List.length_filter_le _ _
theorem zft {l:Lim} (h:zaS l=0) (d:Int):(zL l d).length<=1440:=by
 have hl:=zcd h
 have h1:0<=l.from_:=Int.ediv_nonneg (by omega) (by omega)
 have h2:l.to / l.step<=l.to:=Int.ediv_le_self _ (by omega)
 unfold zL zsg zmv
 split
 ·simp;omega
 ·simp
theorem zfs {l:Lim} (h:zaS l=0) {d b:Int} (hb:b ∈ zL l d):1440*d<=b/\b<=1440*d+1439/\l.per.fro<=d/\d<=l.per.to:=by
 have hl:=zcd h
 unfold zL zsg at hb
 split at hb
 ·rename_i ho
  simp only [zmu,Bool.not_eq_true',Bool.or_eq_false_iff,decide_eq_false_iff_not] at ho
  obtain ⟨n,hn,rfl⟩:=List.mem_map.1 hb
  have:=zir h (List.mem_range.1 hn)
  unfold zyu
  omega
 ·cases hb
def zbs (l:Lim) (m:List Mov) (b:Int):Int:=cntW (ofL l m) b l.len
theorem zbE {l:Lim} {m:List Mov} (h1:zaS l=0) (h2:zad m=0) (b:Int) (hb0:-1000000<=b) (hb1:b<=1000000000):Pure Tryz.prog 207 [.sl 1 ((ofL l m).map (.i .i64)),.i .i64 b,.i .i64 l.len] (.i .i64 (zbs l m b)):=by
 have hl:=zcd h1
 have hm:=zaR h2
 have:=zux (l:=l) (m:=m)
 exact zwR _ _ _ (zlM h2) (by omega) hb0 hb1 (by omega) (by omega)
abbrev zhs (w:Win):List PV:=[w.pv]
theorem zff {α β:Type} {l:List α} {j:Nat} {x:α} (f:α->List β) (h:l[j]?=some x):(l.take (j+1)).flatMap f=(l.take j).flatMap f++f x:=by
 rw [List.take_add_one,h];simp
theorem zl8 {α β:Type} {l:List α} {j:Nat} {x:α} (f:α->List β) (h:l[j]?=some x):l.flatMap f=(l.take j).flatMap f++(f x++(l.drop (j+1)).flatMap f):=by
 conv=>lhs;rw [zlh h]
 simp
abbrev zo6 (ls:List Lim) (m:List Mov):Int:=zg [z3 ls,zad m]
theorem zim {ls:List Lim} (h:z3 ls=0):ls.length<=32/\∀ l ∈ ls,zaS l=0:=by
 unfold z3 at h
 split at h
 ·cases h
 ·refine ⟨by omega,λl hl=>?_⟩
  obtain ⟨i,hi⟩:=List.getElem?_of_mem hl
  exact (zp.1 (zkO h (List.mem_of_getElem? (zH (f:=zoa ls) hi)))).1
theorem zuf {f:Nat} {caps:List PV} {L:List Win} (hit:zpk Tryz.prog f caps (L.map zhs)) (hn:L.length<=1000000):Pure Tryz.prog 202 [.nilsl,.fn (.func f) [] caps] (.sl 3 (L.map Win.pv)):=by
 refine zf (cF Tryz.func202 Tryz.f202.eq_1) (by simp) λhw X hX=>?_
 repeat' first|refine gC ?_ ?_<;>intro hc<;>try contradiction|refine gG ?_|show AK _;intro K H|refine H _ _ ?_;clear H K|refine gJ ?_;try exact trivial|omega
 refine zaP 100 145 3 [(2,.lp 2 0),(6,.p (.fn (.func f) [] caps))] [(2,.box [.row 100 0] false)] ?_ ?_
 ·simp only [Own,zaM,zaB,zbt,zay,qS,seval]
 refine zco rfl hit ?_ ?_ [(2,.lp 2 0),(6,.p (.fn (.func f) [] caps))] (λk=>[(2,.box [.row 100 k] false),(100,.row 145 3 ((L.take k).map Win.pv) false)]) (λ_=>[]) ?_ ?_ ?_
 ·simp
 ·simp [hX]
 ·exact sE
 ·intro k t ht X' ro' hX'
  simp only [List.getElem?_map,Option.map_eq_some_iff] at ht
  obtain ⟨w,hy,rfl⟩:=ht
  have hlt:=zgr hy
  have hk:=(List.getElem?_eq_some_iff.1 hy).1
  simp only [qS,seval]
  have qe:=@qR;repeat' first|refine gC ?_ ?_<;>intro hc<;>try contradiction|refine gG ?_|show AK _;intro K H|refine H _ _ ?_;clear H K|refine gJ ?_;try exact trivial|omega
  intro X1 hX1
  have qe:=aI qR (aI @hlt (zdh Win.pv hy));repeat' first|refine gC ?_ ?_<;>intro hc<;>try contradiction|refine gG ?_|show AK _;intro K H|refine H _ _ ?_;clear H K|refine gJ ?_;try exact trivial|omega
 ·simp only [List.length_map]
  have qe:=@List.take_length.{0};repeat' first|refine gC ?_ ?_<;>intro hc<;>try contradiction|refine gG ?_|show AK _;intro K H|refine H _ _ ?_;clear H K|refine gJ ?_;try exact trivial|omega
  exact .refl _
theorem zun {f:Nat} {caps:List PV} {L:List Win} (hit:zpk Tryz.prog f caps (L.map zhs)) (hn:L.length<=1000000):Pure Tryz.prog 127 [.fn (.func f) [] caps] (.sl 3 (L.map Win.pv)):=by
 refine zf (cF Tryz.func127 Tryz.f127.eq_1) (by simp) λhw X hX=>?_
 repeat' first|refine gC ?_ ?_<;>intro hc<;>try contradiction|refine za (zuf hit hn) ?_|refine gG ?_|show AK _;intro K H|refine H _ _ ?_;clear H K|refine gJ ?_;try exact trivial|omega
 exact .refl _
theorem zum (ls:List Lim) (m:List Mov) (o:Mov):Pure Tryz.prog 128 [.sl 11 (ls.map Lim.pv),.sl 7 (m.map Mov.pv),o.pv] (.fn (.func 203) [] [.ip (.sl 11 (ls.map Lim.pv)) 0,.ip o.pv 0,.ip (.sl 7 (m.map Mov.pv)) 0]):=by
 refine zf (cF Tryz.func128 Tryz.f128.eq_1) (by simp) λhw X hX=>?_
 repeat' first|refine gC ?_ ?_<;>intro hc<;>try contradiction|refine gG ?_|show AK _;intro K H|refine H _ _ ?_;clear H K|refine gJ ?_;try exact trivial|omega
 exact .refl _
def bfC (c:Mov->Mov->Int) (x y:Mov):Bool:=decide (c x y < 0)
def mgC (c:Mov->Mov->Int) (L:List Mov) (k:Nat):List Mov:=(L.take k).foldl (zl1 (bfC c)) []
def zag (c:Mov->Mov->Int) (L:List Mov):List Mov:=L.foldl (zl1 (bfC c)) []
theorem zgV {c:Mov->Mov->Int} {L:List Mov} {k:Nat} (h:k<=L.length):(mgC c L k).length=k:=by
 have:=(zcR (bfC c) (L.take k) []).length_eq
 rw [mgC,this];simp;omega
theorem zrq {c:Mov->Mov->Int} {L:List Mov} {k:Nat} {x:Mov} (h:L[k]?=some x):mgC c L (k+1)=zl1 (bfC c) (mgC c L k) x:=by
 rw [mgC,List.take_add_one,h,List.foldl_append];rfl
theorem zaa (c:Mov->Mov->Int) (L:List Mov):(zag c L).length=L.length:=by
 have:=(zcR (bfC c) L []).length_eq
 rw [zag,this];simp
def zmD (c:Mov->Mov->Int) (L:List Mov) (k:Nat):List Mov:=mgC c L k++L.drop k
theorem zhf {c:Mov->Mov->Int} {L:List Mov} {k:Nat} (h:k<=L.length\/k=1):(zmD c L k).length=L.length:=by
 rcases L with _|⟨x,r⟩
 ·rcases h with h|h<;>(try simp at h)<;>subst h<;>simp [zmD,mgC]
 ·rw [zmD,List.length_append,zgV (by rcases h with h|h<;>simp at *<;>omega),List.length_drop]
  rcases h with h|h<;>simp at *<;>omega
theorem zx0 (c:Mov->Mov->Int) (L:List Mov):zmD c L 1=L:=by
 rcases L with _|⟨x,r⟩<;>simp [zmD,mgC,zl1,zb8]
theorem zrZ (c:Mov->Mov->Int) (L:List Mov) {k:Nat} (h:L.length<=k):zmD c L k=zag c L:=by
 rw [zmD,mgC,List.take_of_length_le h,List.drop_eq_nil_of_le h,List.append_nil];rfl
def dj (out:List Mov) (x:Mov) (rest:List Mov) (j:Nat):List Mov:=out.take j++x::(out.drop j++rest)
theorem zsZ {out:List Mov} {x:Mov} {rest:List Mov} {j:Nat} (h:j<=out.length):(dj out x rest j).length=out.length+1+rest.length:=by
 simp [dj];omega
theorem zrW {c:Mov->Mov->Int} {L:List Mov} {i:Nat} {x:Mov} (h:L[i]?=some x):dj (mgC c L i) x (L.drop (i+1)) i=zmD c L i:=by
 have hi:=(List.getElem?_eq_some_iff.1 h).1
 have hl:=zgV (c:=c) (L:=L) (k:=i) (by omega)
 rw [dj,zmD,List.take_of_length_le (by omega),List.drop_eq_nil_of_le (by omega),List.nil_append,List.drop_eq_getElem_cons hi,(List.getElem?_eq_some_iff.1 h).2]
theorem zoK {c:Mov->Mov->Int} {L:List Mov} {i j:Nat} {x:Mov} (h:L[i]?=some x) (hj:j=zb8 (bfC c) x (mgC c L i) i):dj (mgC c L i) x (L.drop (i+1)) j=zmD c L (i+1):=by
 have hi:=(List.getElem?_eq_some_iff.1 h).1
 rw [zmD,zrq h,zl1,zgV (by omega),<-hj,dj];simp
theorem dj_at {out:List Mov} {x y:Mov} {rest:List Mov} {j:Nat} (h:out[j]?=some y):(dj out x rest (j+1))[j]?=some y/\(dj out x rest (j+1))[j+1]?=some x:=by
 have hj:=(List.getElem?_eq_some_iff.1 h).1
 have hl:(out.take j).length=j:=by simp;omega
 rw [dj,List.take_add_one,h,List.append_assoc]
 refine ⟨?_,?_⟩
 ·rw [List.getElem?_append_right (by omega),hl];simp
 ·rw [List.getElem?_append_right (by omega),hl];simp
theorem zvs {out:List Mov} {x y:Mov} {rest:List Mov} {j:Nat} (h:out[j]?=some y):((dj out x rest (j+1)).set (j+1) y).set j x=dj out x rest j:=by
 have hj:=(List.getElem?_eq_some_iff.1 h).1
 have hl:(out.take j).length=j:=by simp;omega
 have hd:out.drop j=y::out.drop (j+1):=by rw [List.drop_eq_getElem_cons hj,(List.getElem?_eq_some_iff.1 h).2]
 rw [dj,dj,List.take_add_one,h,hd,List.append_assoc,List.set_append_right _ _ (by omega),hl,List.set_append_right _ _ (by omega),hl]
 simp
theorem zoq {c:Mov->Mov->Int} {x:Mov} {out:List Mov} {q:Nat} {y:Mov} (hy:out[q]?=some y) (hb:¬c x y < 0):zb8 (bfC c) x out (q+1)=q+1:=by
 simp only [zb8,hy];rw [if_neg (by simp [bfC];omega)]
theorem zuQ {c:Mov->Mov->Int} {x:Mov} {out:List Mov} {q:Nat} {y:Mov} (hy:out[q]?=some y) (hb:c x y < 0):zb8 (bfC c) x out (q+1)=zb8 (bfC c) x out q:=by
 simp only [zb8,hy];rw [if_pos (by simp [bfC];omega)]
theorem zm5 {G:Cfg} {c:AC} {s:St} {Q Q':zN} (hm:∀ e s1,Q e s1->Q' e s1) (h:Run G c s Q):Run G c s Q':=λhG code hc C a w hr=>
 wpIn_mono (h hG code hc C a w hr) λe a1 w1 hq=>by
  obtain ⟨s1,C1,h1,h2⟩:=hq
  exact ⟨s1,C1,h1,by cases e<;>first|exact hm _ _ h2|exact h2⟩
def cutS (s':St):zN
 | .normal,s=>Cov s s'
 | _,_=>False
theorem zih (s s':St):cutS s' .normal s=Cov s s':=rfl
theorem zgy {G:Cfg} {x y:AC} {s:St} {Q:zN} (s':St) (h1:Run G x s (cutS s')) (h2:Run G y s' Q):Run G x s (seqK G y Q):=
 zm5 (λe s1 h=>by
  cases e with
  | normal=>exact zj7 s' h h2
  | exit i=>exact h.elim
  | ret=>exact h.elim) h1
end Go.Proofs.YtijgimeokgbifaaGreat
