/- Contracts of functions, for the claim. No conditions. -/
import Derived.Test.YtijgimeokgbifaaGreatK6
import Derived.Test.YtijgimeokgbifaaGreatK4
set_option linter.all false
set_option maxHeartbeats 8000000
set_option maxRecDepth 100000
namespace Go.Proofs.YtijgimeokgbifaaGreat
open Go.RowKit Tryz
def evB (m:List Mov) (l:Lim) (d b:Int):List (Nat × Nat):=if zbq l m b < l.most then [] else if max 0 (b - 1440*d) < min 1440 (b+l.len - 1440*d) then [((max 0 (b - 1440*d)).toNat,(min 1440 (b+l.len - 1440*d)).toNat)] else []
def evX (m:List Mov) (l:Lim) (d:Int) (e:Nat):List (Nat × Nat):=(zM l (d - 1+e)).flatMap (evB m l d)
def evD (m:List Mov) (l:Lim) (d:Int):List (Nat × Nat):=(List.range 2).flatMap (evX m l d)
def evL (m:List Mov) (r:Req) (l:Lim):List (Nat × Nat):=if zad l r.kind r.term then (zW r.per).flatMap (evD m l) else []
def evI (ls:List Lim) (m:List Mov) (r:Req) (i:Nat):List (Nat × Nat):=match ls[i]? with|some l=>evL m r l|none=>[]
def egK (ls:List Lim) (m:List Mov) (r:Req) (k:Nat):List (Nat × Nat):=(List.range k).flatMap (evI ls m r)
def evA (ls:List Lim) (m:List Mov) (r:Req):List (Nat × Nat):=egK ls m r ls.length
def zxD {m:List Mov} {l:Lim} {d b:Int} {e:Nat × Nat} (h:e ∈ evB m l d b):e.1 < e.2/\e.2<=1440:=by
 unfold evB at h
 split at h
 ·cases h
 ·split at h
  ·simp only [xaJ] at h;subst h;simp only;omega
  ·cases h
def zxE {ls:List Lim} {m:List Mov} {r:Req} {e:Nat × Nat} (h:e ∈ evA ls m r):e.1 < e.2/\e.2<=1440:=by
 obtain ⟨i,_,h⟩:=xaC.1 h;unfold evI at h
 split at h
 ·unfold evL at h
  split at h
  ·obtain ⟨d,_,h⟩:=xaC.1 h;obtain ⟨x,_,h⟩:=xaC.1 h;obtain ⟨b,_,h⟩:=xaC.1 h;exact zxD h
  ·cases h
 ·cases h
def zu7 {ls:List Lim} (hn:ls.length<=32) (h:∀ l ∈ ls,zaR l=0) (m:List Mov) {r:Req} (hr:zat r.per=0):(evA ls m r).length<=40000000:=by
 have hp:=zaW hr;have hd:=zcE r.per;have h1:(evA ls m r).length<=(List.range ls.length).length*1154880:=zcD λi _=>by
  unfold evI
  split
  ·rename_i l hl;unfold evL
   split
   ·have h2:((zW r.per).flatMap (evD m l)).length<=(zW r.per).length*2880:=zcD λd _=>by
     have h3:(evD m l d).length<=(List.range 2).length*1440:=zcD λe _=>by
      have h4:(evX m l d e).length<=(zM l (d - 1+e)).length*1:=zcD λb _=>by unfold evB;(repeat' split)<;>simp
      have:=zfs (h l (xad hl)) (d - 1+e)
      omega
     simpa using h3
    omega
   ·simp
  ·simp
 simp only [xbH] at h1
 omega
def zv0 (E:List Int) (e:Nat × Nat):List Int:=(E.set e.1 (E[e.1]?.getD 0+1)).set e.2 (E[e.2]?.getD 0 - 1)
def edg (evs:List (Nat × Nat)):List Int:=evs.foldl zv0 (List.replicate 1441 0)
def zkR (evs:List (Nat × Nat)) (e:Nat × Nat):edg (evs++[e])=zv0 (edg evs) e:=by rw [edg,xa2];rfl
theorem zh4 {α β:Type} (P:Nat->β->Prop) (f:β->α->β) (hs:∀ n b a,P n b->P (n+1) (f b a)):∀ (l:List α) (n:Nat) (b:β),P n b->P (n+l.length) (l.foldl f b)
 | [],n,b,h=>h
 | a::r,n,b,h=>by rw [xbu,xaE,show n+(r.length+1)=(n+1)+r.length by omega];exact zh4 P f hs r (n+1) _ (hs n b a h)
def zoN (evs:List (Nat × Nat)):(edg evs).length=1441/\∀ (i:Nat) (x:Int),(edg evs)[i]?=some x->-(evs.length:Int)<=x/\x<=evs.length:=by
 have:=zh4 (λn (E:List Int)=>E.length=1441/\∀ (i:Nat) (x:Int),E[i]?=some x->-(n:Int)<=x/\x<=n) zv0 (λn E e h=>by
  obtain ⟨h1,h2⟩:=h;refine ⟨by simp [zv0,h1],λi x hx=>?_⟩
  have hg:∀ j:Nat,-(n:Int)<=E[j]?.getD 0/\E[j]?.getD 0<=n:=λj=>by
   cases hj:E[j]? with
   | none=>simp
   | some y=>exact h2 j y hj
  have h3:=hg e.1;have h4:=hg e.2;simp only [zv0,List.getElem?_set,xcA] at hx
  split at hx
  ·split at hx
   ·injection hx with hx;omega
   ·cases hx
  ·split at hx
   ·split at hx
    ·injection hx with hx;omega
    ·cases hx
   ·have:=h2 i x hx;omega) evs 0 (List.replicate 1441 0) ⟨by simp,λi x hx=>by
  rw [List.getElem?_replicate] at hx
  split at hx
  ·injection hx with hx;subst hx;simp
  ·cases hx⟩
 simpa [edg] using this
def zib (evs:List (Nat × Nat)) {i:Nat} (hi:i<=1440):∃ x,(edg evs)[i]?=some x/\-(evs.length:Int)<=x/\x<=evs.length:=by
 have h:=zoN evs;have hi:i < (edg evs).length:=by rw [h.1];omega
 exact ⟨_,xab hi,h.2 i _ (xab hi)⟩
def zfA (E:List Int) (i:Nat):Int:=(E.take i).foldl (·+·) 0
def zeS {E:List Int} {i:Nat} {x:Int} (h:E[i]?=some x):zfA E (i+1)=zfA E i+x:=by rw [zfA,xaK,h,xa2];rfl
def zkr {E:List Int} {j:Nat} {x y:Int} (h:E[j]?=some x) (i:Nat):zfA (E.set j y) i=zfA E i+if j < i then y - x else 0:=by
 have hj:=(xaa.1 h).1
 induction i with
 | zero=>simp [zfA]
 | succ i ih=>
  by_cases hi:i < E.length
  ·rw [zeS (x:=((E.set j y)[i]?).getD 0) (by rw [xab (by simpa using hi)];rfl),zeS (xab hi),ih,List.getElem?_set]
   by_cases hij:j=i
   ·subst hij;rw [if_pos rfl,if_pos hj,if_neg (by omega),if_pos (by omega)]
    have:E[j]=x:=by rw [xab hj] at h;injection h
    rw [this];simp;omega
   ·rw [if_neg hij,xab hi]
    by_cases h1:j < i
    ·rw [if_pos h1,if_pos (by omega)];simp;omega
    ·rw [if_neg h1,if_neg (by omega)];simp
  ·have e1:zfA (E.set j y) (i+1)=zfA (E.set j y) i:=by rw [zfA,zfA,xag (by simp;omega),xag (by simp;omega)]
   have e2:zfA E (i+1)=zfA E i:=by rw [zfA,zfA,xag (by omega),xag (by omega)]
   rw [e1,e2,ih]
   by_cases h1:j < i
   ·rw [if_pos h1,if_pos (by omega)]
   ·omega
def zsY (i:Nat) (e:Nat × Nat):Bool:=decide (e.1<=i) && decide (i < e.2)
def zks {evs : List (Nat × Nat)} (h : ∀ e ∈ evs, e.1 < e.2 ∧ e.2 ≤ 1440) {i : Nat} (hi : i < 1440) : zfA (edg evs) (i + 1) = ((evs.filter (zsY i)).length : Int) := by
  have key : ∀ n, n ≤ evs.length → zfA (edg (evs.take n)) (i + 1) = (((evs.take n).filter (zsY i)).length : Int) := by
    intro n
    induction n with
    | zero => intro _; simp only [List.take_zero, edg, List.foldl_nil, List.filter_nil, List.length_nil, zfA]
              rw [List.take_replicate]
              generalize min (i + 1) 1441 = q
              induction q with
              | zero => rfl
              | succ q ih => rw [List.replicate_succ', List.foldl_append, ih]; rfl
    | succ n ih =>
      intro hn
      have ih := ih (by omega)
      have hx := List.getElem?_eq_getElem (l := evs) (i := n) (by omega)
      have he := h _ (List.mem_of_getElem? hx)
      rw [zfg hx, List.take_add_one, hx, Option.toList_some, zkR, zv0]
      obtain ⟨x, hx1, _⟩ := zib (evs.take n) (i := evs[n].1) (by omega)
      obtain ⟨y, hy1, _⟩ := zib (evs.take n) (i := evs[n].2) (by omega)
      have hne : ((edg (evs.take n)).set evs[n].1 (x + 1))[evs[n].2]? = some y := by rw [List.getElem?_set_ne (by omega)]; exact hy1
      rw [hx1, hy1, Option.getD_some, Option.getD_some, zkr hne, zkr hx1, ih, List.length_append]
      simp only [zsY]
      by_cases h1 : evs[n].1 ≤ i
      · by_cases h2 : i < evs[n].2
        · simp only [h1, h2, decide_true, Bool.true_and, if_true, List.length_cons, List.length_nil, if_pos (show evs[n].1 < i + 1 by omega), if_neg (show ¬ evs[n].2 < i + 1 by omega)]; omega
        · simp only [h1, h2, decide_true, decide_false, Bool.and_false, Bool.false_eq_true, if_false, List.length_nil, if_pos (show evs[n].1 < i + 1 by omega), if_pos (show evs[n].2 < i + 1 by omega)]; omega
      · simp only [h1, decide_false, Bool.false_and, Bool.false_eq_true, if_false, List.length_nil, if_neg (show ¬ evs[n].1 < i + 1 by omega), if_neg (show ¬ evs[n].2 < i + 1 by omega)]; omega
  have := key evs.length (Nat.le_refl _)
  rwa [List.take_length] at this
def zsL (evs:List (Nat × Nat)) (i:Nat):Bool:=evs.any (zsY i)
def zri {evs:List (Nat × Nat)} (h:∀ e ∈ evs,e.1 < e.2/\e.2<=1440) {i:Nat} (hi:i < 1440):decide (0 < zfA (edg evs) (i+1))=zsL evs i:=by
 rw [zks h hi,zsL];rw [xb3,decide_eq_true_eq,xbl]
 constructor
 ·intro hp;obtain ⟨e,he⟩:=List.exists_mem_of_length_pos (show 0 < (evs.filter (zsY i)).length by omega)
  exact ⟨e,(xbP.1 he).1,(xbP.1 he).2⟩
 ·rintro ⟨e,he,hh⟩;have:=List.length_pos_of_mem (xbP.2 ⟨he,hh⟩)
  omega
def zux {evs:List (Nat × Nat)} (h:∀ e ∈ evs,e.1 < e.2/\e.2<=1440) {i:Nat} (hi:i<=1440):0<=zfA (edg evs) i/\zfA (edg evs) i<=evs.length:=by
 cases i with
 | zero=>simp [zfA]
 | succ i=>
  rw [zks h (by omega)]
  have:=xca (zsY i) evs
  omega
def ziB (evs:List (Nat × Nat)) (k:Nat):List Bool:=(List.range 1440).map λj=>decide (j < k) && zsL evs j
def zb2 (evs:List (Nat × Nat)) (k:Nat):(ziB evs k).length=1440:=by simp [ziB]
def zgO {evs:List (Nat × Nat)} {k j:Nat} (hj:j < 1440):(ziB evs k)[j]?=some (decide (j < k) && zsL evs j):=by
 rw [ziB,xah,List.getElem?_range hj];rfl
def zrn (evs:List (Nat × Nat)) {k:Nat} (hk:k < 1440):(ziB evs k).set k (zsL evs k)=ziB evs (k+1):=by
 refine xbV λj=>?_
 rw [List.getElem?_set]
 by_cases hj:j < 1440
 ·rw [zgO hj,zgO hj,zb2]
  by_cases e:k=j
  ·subst e;rw [if_pos rfl,if_pos hk];simp
  ·rw [if_neg e];have:(decide (j < k))=decide (j < k+1):=decide_eq_decide.2 (by omega)
   rw [this]
 ·rw [if_neg (by omega),xb8 (by rw [zb2];omega),xb8 (by rw [zb2];omega)]
def zxb (evs:List (Nat × Nat)):ziB evs 0=List.replicate 1440 false:=by
 refine xbV λj=>?_
 by_cases hj:j < 1440
 ·rw [zgO hj,List.getElem?_replicate,if_pos hj];simp
 ·rw [xb8 (by rw [zb2];omega),xb8 (by simp;omega)]
def p1 (ls:List Lim) (m:List Mov) (r:Req) (k:Nat) (l:Lim) (q:Nat):List (Nat × Nat):=egK ls m r k++((zW r.per).take q).flatMap (evD m l)
def p2 (ls:List Lim) (m:List Mov) (r:Req) (k:Nat) (l:Lim) (q:Nat) (d:Int) (e:Nat):List (Nat × Nat):=p1 ls m r k l q++(List.range e).flatMap (evX m l d)
def p3 (ls:List Lim) (m:List Mov) (r:Req) (k:Nat) (l:Lim) (q:Nat) (d:Int) (e i:Nat):List (Nat × Nat):=p2 ls m r k l q d e++((zM l (d - 1+e)).take i).flatMap (evB m l d)
def zcj {α β:Type} (f:α->List β) (l:List α) (i:Nat):((l.take i).flatMap f).length<=(l.flatMap f).length:=by
 conv=>rhs;rw [<-xaw i l,xa0,xae]
 omega
def zdn {β:Type} (f:Nat->List β) {i n:Nat} (h:i<=n):((List.range i).flatMap f).length<=((List.range n).flatMap f).length:=by
 have:=zcj f (List.range n) i
 rwa [List.take_range,xbw h] at this
def zuB {ls:List Lim} {m:List Mov} {r:Req} {k:Nat} {l:Lim} {q:Nat} {d:Int} {e i:Nat} {b:Int} (h:(zM l (d - 1+e))[i]?=some b):p3 ls m r k l q d e (i+1)=p3 ls m r k l q d e i++evB m l d b:=by
 rw [p3,zfe (evB m l d) h,<-xau];rfl
def zsS {ls:List Lim} {m:List Mov} {r:Req} {k:Nat} {l:Lim} {q:Nat} {d:Int} {e:Nat}:p3 ls m r k l q d e (zM l (d - 1+e)).length=p2 ls m r k l q d (e+1):=by
 rw [p3,xas,p2,p2,zac,xau];rfl
def zsT {ls:List Lim} {m:List Mov} {r:Req} {k:Nat} {l:Lim} {q:Nat} {d:Int} (h:(zW r.per)[q]?=some d):p2 ls m r k l q d 2=p1 ls m r k l (q+1):=by
 rw [p2,p1,p1,zfe (evD m l) h,<-xau];rfl
def zsU {ls:List Lim} {m:List Mov} {r:Req} {k:Nat} {l:Lim} (h:ls[k]?=some l) (hc:zad l r.kind r.term=true):p1 ls m r k l (zW r.per).length=egK ls m r (k+1):=by
 rw [p1,xas,egK,egK,zac,evI,h];simp only [evL,hc,if_true]
def zuC {ls:List Lim} {m:List Mov} {r:Req} {k:Nat} {l:Lim} (h:ls[k]?=some l) (hc:zad l r.kind r.term=false):egK ls m r (k+1)=egK ls m r k:=by
 rw [egK,egK,zac,evI,h];simp [evL,hc]
def zw8 {ls:List Lim} {m:List Mov} {r:Req} {k:Nat} {l:Lim} {q:Nat} {d:Int} {e i:Nat} (h:ls[k]?=some l) (hc:zad l r.kind r.term=true) (hq:(zW r.per)[q]?=some d) (he:e < 2) (hA:(evA ls m r).length<=40000000):(p3 ls m r k l q d e i).length<=40000000:=by
 have hk:=(xaa.1 h).1;have h1:(p3 ls m r k l q d e i).length<=(p3 ls m r k l q d e (zM l (d - 1+e)).length).length:=by
  rw [p3,p3,xas,xae,xae];have:=zcj (evB m l d) (zM l (d - 1+e)) i
  omega
 rw [zsS] at h1;have h2:(p2 ls m r k l q d (e+1)).length<=(p2 ls m r k l q d 2).length:=by
  rw [p2,p2,xae,xae];have:=zdn (evX m l d) (show e+1<=2 by omega)
  omega
 rw [zsT hq] at h2;have h3:(p1 ls m r k l (q+1)).length<=(p1 ls m r k l (zW r.per).length).length:=by
  rw [p1,p1,xas,xae,xae];have:=zcj (evD m l) (zW r.per) (q+1)
  omega
 rw [zsU h hc] at h3;have h4:(egK ls m r (k+1)).length<=(evA ls m r).length:=zdn (evI ls m r) (by omega)
 omega
def zuH (l:Lim) (m:List Mov) (a:Int × Int) (L:List Int):Int × Int:=L.foldl (λ_ b=>(b,zbq l m b)) a
def zoe {l:Lim} {m:List Mov} {a:Int × Int} {L:List Int} {i:Nat} {b:Int} (h:L[i]?=some b):zuH l m a (L.take (i+1))=(b,zbq l m b):=by
 rw [zuH,xaK,h,xa2];rfl
def okP (l:Lim) (m:List Mov) (a:Int × Int):Prop:=a.1=-1\/a.2=zbq l m a.1
def zod {l:Lim} {m:List Mov} {a:Int × Int} (h:okP l m a):∀ L,okP l m (zuH l m a L):=by
 intro L
 induction L generalizing a with
 | nil=>exact h
 | cons b r ih=>exact ih (a:=(b,zbq l m b)) (.inr rfl)
theorem zs1 {α:Type} (look:Nat->Option LObj) (n:Nat) (f:α->PV):∀ L:List α,toPV.go look (n+1) (L.map λx=>LV.p (f x))=some (True,L.map f,[])
 | []=>by simp [toPV.go]
 | x::r=>by simp only [xak,toPV.go,toPV,zs1 look n f r,true_and,xat]
def zvQ {L:List Bool} (h:L.length=1440):boxPV (L.map PV.b)=.agg (L.map PV.b):=by
 match L with
 | []=>rfl
 | [x]=>simp at h
 | _::_::_=>rfl
abbrev Req.cells (r:Req):List PV:=[.s r.name,.s r.carrier,.s r.kind,.s r.term,.s r.partner,.s r.link,.i .i64 r.per.fro,.i .i64 r.per.to,.i .i64 r.per.days,.i .i64 r.minute,.i .i64 r.seats,.i .i64 r.size,.i .i64 r.noise]
def zid (P:List (Nat × Nat)):List LV:=(edg P).map λx=>LV.p (PV.i .i64 x)
def znY (P:List (Nat × Nat)) (k:Nat):List LV:=(ziB P k).map λb=>LV.p (PV.b b)
theorem ziH {α:Type} (look:Nat->Option LObj) (f:α->PV):∀ L:List α,scPs look (L.map λx=>LV.p (f x))=True
 | []=>by simp [scPs]
 | x::r=>by simp only [xak,scPs,scP,ziH look f r,and_self]
def scE (look:Nat->Option LObj) (P:List (Nat × Nat)):scPs look (zid P)=True:=ziH look _ _
def scO (look:Nat->Option LObj) (P:List (Nat × Nat)) (k:Nat):scPs look (znY P k)=True:=ziH look _ _
def zhd (P:List (Nat × Nat)):(zid P).length=1441:=by rw [zid,xaf,(zoN P).1]
def zrm (P:List (Nat × Nat)) (k:Nat):(znY P k).length=1440:=by rw [znY,xaf,zb2]
def zx3:zid []=List.replicate 1441 (LV.p (PV.i .i64 0)):=by rw [zid,edg,List.foldl_nil,List.map_replicate]
def zxa (P:List (Nat × Nat)):znY P 0=List.replicate 1440 (LV.p (PV.b false)):=by rw [znY,zxb,List.map_replicate]
def zjN {P:List (Nat × Nat)} {i:Nat} {x:Int} (h:(edg P)[i]?=some x):(zid P)[i]?=some (LV.p (PV.i .i64 x)):=by rw [zid,xah,h];rfl
def zic {P:List (Nat × Nat)} {f t:Nat} {x y:Int} (hx:(edg P)[f]?=some x) (hy:(edg P)[t]?=some y):((zid P).set f (LV.p (PV.i .i64 (x+1)))).set t (LV.p (PV.i .i64 (y - 1)))=zid (P++[(f,t)]):=by
 rw [zid,zid,zkR,zv0,hx,hy,xbb,xbb];rfl
def znX (P:List (Nat × Nat)) {k:Nat} (hk:k < 1440):(znY P k).set k (LV.p (PV.b (zsL P k)))=znY P (k+1):=by
 rw [znY,znY,<-zrn P hk,xbb]
def goO (look:Nat->Option LObj) (n:Nat) (P:List (Nat × Nat)) (k:Nat):toPV.go look (n+1) (znY P k)=some (True,(ziB P k).map PV.b,[]):=zs1 look n PV.b (ziB P k)
def boxO (P:List (Nat × Nat)) (k:Nat):boxPV ((ziB P k).map PV.b)=.agg ((ziB P k).map PV.b):=zvQ (zb2 P k)
def zus (L:List Bool) (hL:L.length=1440) (i:Nat) (x:Bool) (hx:L[i]?=some x):Pure prog 241 [.ip (.agg (L.map PV.b)) 0,.i .i64 i] (.b (!x)):=by
 have hi:=(xaa.1 hx).1;rw [hL] at hi;have hi':(i+1<=1440)=True:=eq_true (by omega)
 refine pz func241 f241.eq_1 λhw X hX=>?_
 have qe:=aI qR (aI @hx (aI @hL (aI @hi' (aI @xbc (aI @xcv @and_false)))));exact gD0
def zut (ls:List Lim) (m:List Mov) (r:Req) (h0:zpd ls m=0) (hr:zdB r=0):Pure prog 240 [.sl 11 (ls.map Lim.pv),.sl 7 (m.map Mov.pv),r.pv] (.ip (.agg ((ziB (evA ls m r) 1440).map PV.b)) 0):=by
 have hr0:=zeC hr
 have hp:=zaW hr0.1
 have hdl:=zcE r.per
 have hdr:zdf r.per=zW r.per:=by rw [zdf,if_pos hr0.1]
 have hb:=h0
 simp only [zq] at hb
 have hls:=zio hb.1
 have hmm:=zaQ hb.2.1
 have hA:=zu7 hls.1 hls.2 m hr0.1
 refine pz func240 f240.eq_1 fun hw X hX=>?_
 have qe:=aI @hdr (@List.map_replicate.{0,0});repeat' first|refine gC ?_ ?_<;>intro hc<;>try contradiction|refine za (zi7 r.per) ?_|refine gG ?_|show AK _;intro J Z|refine gJ ?_|omega|exact aT
 refine zi (κ:=Nat) (fun k=>⟨[(1,.p (.sl 7 (m.map Mov.pv))),(5,.lp 5 0),(7,.lp 7 0),(8,.p (.sl 1 ((zW r.per).map (.i .i64)))),(31,.p (.sl 11 (ls.map Lim.pv))),(32,.p (.i .i64 ls.length)),(33,.p (.i .i64 k))],[(5,.box (r.cells.map .p) false),(7,.box (zid (egK ls m r k)) false)],[],false⟩) (fun k=>k≤ls.length) (fun k=>ls.length - k) 0 ?_ ?_ ?_
 ·simp only [qS,Nat.reduceAdd,Nat.reduceMul,Nat.reduceEqDiff,Nat.reduceLeDiff,reduceIte,reduceCtorEq,Nat.reduceBEq,Nat.reduceLT,scE]
  exact ⟨rfl,by rw [←zx3];rfl⟩
 ·simp
 ·intro k hk
  have qe:=@scE;repeat first|refine gG ?_|show AK _;intro J Z|refine gJ ?_|omega|exact aT
  have qe:=@scE;(refine gC ?_ ?_<;>intro hc<;>try contradiction)
  ·obtain ⟨l,hx⟩:=zm (i:=k) (l:=ls) (by omega)
   have h1:=hls.2 l (xad hx)
   have hlm:=zcb h1
   have qe:=aI @scE (aI qR @hx);repeat' first|refine gC ?_ ?_<;>intro hc<;>try contradiction|refine za (zi5 l r.kind r.term h1) ?_|refine za (zsO l m h1 (by omega)) ?_|refine gG ?_|show AK _;intro J Z|refine gJ ?_|omega|exact aT
   ·exact ⟨k+1,by omega,by omega,by simp,by rw [zuC hx hc]⟩
   ·have hcl:zad l r.kind r.term=true:=hc
    refine zi (κ:=Nat × Int × Int) (fun q=>⟨[(1,.p (.sl 7 (m.map Mov.pv))),(5,.lp 5 0),(7,.lp 7 0),(8,.p (.sl 1 ((zW r.per).map (.i .i64)))),(11,.lp 11 0),(12,.lp 12 0),(13,.lp 13 0),(31,.p (.sl 11 (ls.map Lim.pv))),(32,.p (.i .i64 ls.length)),(33,.p (.i .i64 k)),(48,.p (.sl 1 ((zW r.per).map (.i .i64)))),(49,.p (.i .i64 (zW r.per).length)),(50,.p (.i .i64 q.1))],[(5,.box (r.cells.map .p) false),(7,.box (zid (p1 ls m r k l q.1)) false),(11,.box (l.cells.map .p) false),(12,.box [.p (.sl 1 ((ofL l m).map (.i .i64)))] false),(13,.box [.p (.i .i64 0),.p (.i .i64 q.2.1),.p (.i .i64 q.2.2)] false)],[],false⟩) (fun q=>q.1≤(zW r.per).length∧okP l m q.2) (fun q=>(zW r.per).length - q.1) (0,-1,0) ?_ ?_ ?_
    ·simp only [qS,Nat.reduceAdd,Nat.reduceMul,Nat.reduceEqDiff,Nat.reduceLeDiff,reduceIte,reduceCtorEq,Nat.reduceBEq,Nat.reduceLT,scE]
     (repeat' apply And.intro)<;>first|rfl|(simp [p1];done)
    ·exact ⟨by simp,.inl rfl⟩
    ·intro q hq
     obtain ⟨q,a⟩:=q
     simp only at hq
     have qe:=@scE;repeat first|refine gG ?_|show AK _;intro J Z|refine gJ ?_|omega|exact aT
     have qe:=@scE;(refine gC ?_ ?_<;>intro hc<;>try contradiction)
     ·obtain ⟨d,hd⟩:=zm (i:=q) (l:=zW r.per) (by omega)
      have hdm:=zig (xad hd)
      have qe:=aI @scE (aI qR @hd);repeat' first|refine gC ?_ ?_<;>intro hc<;>try contradiction|refine gG ?_|show AK _;intro J Z|refine gJ ?_|omega|exact aT
      refine zi (κ:=Nat × Int × Int) (fun e=>⟨[(1,.p (.sl 7 (m.map Mov.pv))),(5,.lp 5 0),(7,.lp 7 0),(8,.p (.sl 1 ((zW r.per).map (.i .i64)))),(11,.lp 11 0),(12,.lp 12 0),(13,.lp 13 0),(15,.lp 15 0),(31,.p (.sl 11 (ls.map Lim.pv))),(32,.p (.i .i64 ls.length)),(33,.p (.i .i64 k)),(48,.p (.sl 1 ((zW r.per).map (.i .i64)))),(49,.p (.i .i64 (zW r.per).length)),(50,.p (.i .i64 q)),(57,.p (.agg [.i .i64 (d - 1),.i .i64 d])),(58,.p (.i .i64 e.1))],[(5,.box (r.cells.map .p) false),(7,.box (zid (p2 ls m r k l q d e.1)) false),(11,.box (l.cells.map .p) false),(12,.box [.p (.sl 1 ((ofL l m).map (.i .i64)))] false),(13,.box [.p (.i .i64 0),.p (.i .i64 e.2.1),.p (.i .i64 e.2.2)] false),(15,.box [.p (.i .i64 d)] false)],[],false⟩) (fun e=>e.1≤2∧okP l m e.2) (fun e=>2 - e.1) (0,a) ?_ ?_ ?_
      ·simp only [qS,Nat.reduceAdd,Nat.reduceMul,Nat.reduceEqDiff,Nat.reduceLeDiff,reduceIte,reduceCtorEq,Nat.reduceBEq,Nat.reduceLT,scE]
       (repeat' apply And.intro)<;>first|rfl|(simp [p2];done)
      ·exact ⟨by simp,hq.2⟩
      ·intro e he
       obtain ⟨e,c⟩:=e
       simp only at he
       have qe:=@scE;repeat first|refine gG ?_|show AK _;intro J Z|refine gJ ?_|omega|exact aT
       have qe:=@scE;(refine gC ?_ ?_<;>intro hc<;>try contradiction)
       ·have hid:([.i .i64 (d - 1),.i .i64 d]:List PV)[e]?=some (.i .i64 (d - 1+e)):=by
         rcases (show e=0∨e=1 by omega) with rfl|rfl<;>simp
        have qe:=aI @scE (aI qR (aI @hid @xcv));repeat' first|refine gC ?_ ?_<;>intro hc<;>try contradiction|refine za (znL l (d - 1+e)) ?_|refine gG ?_|show AK _;intro J Z|refine gJ ?_|omega|exact aT
        refine zcm rfl (zoo l (d - 1+e) h1) ?_ ?_ [(1,.p (.sl 7 (m.map Mov.pv))),(5,.lp 5 0),(7,.lp 7 0),(8,.p (.sl 1 ((zW r.per).map (.i .i64)))),(11,.lp 11 0),(12,.lp 12 0),(13,.lp 13 0),(15,.lp 15 0),(31,.p (.sl 11 (ls.map Lim.pv))),(32,.p (.i .i64 ls.length)),(33,.p (.i .i64 k)),(48,.p (.sl 1 ((zW r.per).map (.i .i64)))),(49,.p (.i .i64 (zW r.per).length)),(50,.p (.i .i64 q)),(57,.p (.agg [.i .i64 (d - 1),.i .i64 d])),(58,.p (.i .i64 e))] (fun i=>[(5,.box (r.cells.map .p) false),(7,.box (zid (p3 ls m r k l q d e i)) false),(11,.box (l.cells.map .p) false),(12,.box [.p (.sl 1 ((ofL l m).map (.i .i64)))] false),(13,.box [.p (.i .i64 0),.p (.i .i64 (zuH l m c ((zM l (d - 1+e)).take i)).1),.p (.i .i64 (zuH l m c ((zM l (d - 1+e)).take i)).2)] false),(15,.box [.p (.i .i64 d)] false)]) (fun _=>[]) ?_ ?_ ?_
        ·simp
        ·simp [hX]
        ·simp only [qS,Nat.reduceAdd,Nat.reduceMul,Nat.reduceEqDiff,Nat.reduceLeDiff,reduceIte,reduceCtorEq,Nat.reduceBEq,Nat.reduceLT,scE]
         exact ⟨by simp [p3],rfl⟩
        ·intro i t ht X' ro' hX'
         simp only [xah,xac] at ht
         obtain ⟨b,hbb,rfl⟩:=ht
         have hbm:=zfr h1 (xad hbb)
         have hpp:=zaW hlm.2.2.2.2.2.2.2.1
         have hnx:=zuB (ls:=ls) (m:=m) (r:=r) (k:=k) (q:=q) hbb
         have hln:=zoe (l:=l) (m:=m) (a:=c) hbb
         have hlo:=zod he.2 ((zM l (d - 1+e)).take i)
         have hPl:=zw8 (i:=i) hx hcl hd (show e < 2 by omega) hA
         simp only [qS,Nat.reduceAdd,Nat.reduceMul,Nat.reduceEqDiff,Nat.reduceLeDiff,reduceIte,reduceCtorEq,Nat.reduceBEq,Nat.reduceLT,scE]
         have qe:=@scE;repeat' first|refine gC ?_ ?_<;>intro hc<;>try contradiction|refine gG ?_|show AK _;intro J Z|refine gJ ?_|omega|exact aT
         intro X1 hX1
         generalize zuH l m c ((zM l (d - 1+e)).take i)=a' at hlo ⊢
         obtain ⟨lb,lc⟩:=a'
         simp only [okP] at hlo
         have key:(lb=b∧lc=zbq l m b)∨¬lb=b:=by
          by_cases h:lb=b
          ·refine .inl ⟨h,?_⟩
           rcases hlo with h2|h2
           ·omega
           ·rw [h2,h]
          ·exact .inr h
         by_cases hcm:zbq l m b < l.most
         ·have hcm':=eq_true hcm
          have hev:evB m l d b=[]:=by rw [evB,if_pos hcm]
          rcases key with ⟨h1,h2⟩|hlb
          ·subst h1;subst h2
           have qe:=aI @scE (aI qR (aI @za9 @hcm'));repeat' first|refine gC ?_ ?_<;>intro hc<;>try contradiction|refine gG ?_|show AK _;intro J Z|refine gJ ?_|omega|exact aT
           rw [hln,hnx,hev,xat];exact ⟨rfl,rfl⟩
          ·have hlb':=eq_false hlb
           have qe:=aI @scE (aI qR (aI @za9 (aI @hcm' @hlb')));repeat' first|refine gC ?_ ?_<;>intro hc<;>try contradiction|refine za (zbC h1 hb.2.1 b (by omega) (by omega)) ?_|refine gG ?_|show AK _;intro J Z|refine gJ ?_|omega|exact aT
           rw [hln,hnx,hev,xat];exact ⟨rfl,rfl⟩
         ·have hcm':=eq_false hcm
          by_cases hft:max 0 (b - 1440*d) < min 1440 (b+l.len - 1440*d)
          ·obtain ⟨f,hf⟩:∃ f:Nat,max 0 (b - 1440*d)=f:=⟨(max 0 (b - 1440*d)).toNat,by omega⟩
           obtain ⟨t,ht⟩:∃ t:Nat,min 1440 (b+l.len - 1440*d)=t:=⟨(min 1440 (b+l.len - 1440*d)).toNat,by omega⟩
           have hev:evB m l d b=[(f,t)]:=by rw [evB,if_neg hcm,if_pos hft,hf,ht];simp
           have hb12:f < t∧t≤1440:=by omega
           have hftc:((f:Int) < t)=True:=eq_true (by omega)
           obtain ⟨x,hx1,hx2⟩:=zib (p3 ls m r k l q d e i) (i:=f) (by omega)
           obtain ⟨y,hy1,hy2⟩:=zib (p3 ls m r k l q d e i) (i:=t) (by omega)
           have hxo:=zjN hx1
           have hyo:∀ v,((zid (p3 ls m r k l q d e i)).set f v)[t]?=some (LV.p (PV.i .i64 y)):=fun v=>by rw [xbR (by omega)];exact zjN hy1
           rcases key with ⟨h1,h2⟩|hlb
           ·subst h1;subst h2
            have qe:=aI @scE (aI qR (aI @za9 (aI @hcm' (aI @hf (aI @ht (aI @hftc (aI @hxo (aI @hyo (aI @zhd (aI @xbc @xcv))))))))));repeat' first|refine gC ?_ ?_<;>intro hc<;>try contradiction|refine gG ?_|show AK _;intro J Z|refine gJ ?_|omega|exact aT
            rw [hln,hnx,hev,zic hx1 hy1];exact ⟨rfl,rfl⟩
           ·have hlb':=eq_false hlb
            have qe:=aI @scE (aI qR (aI @za9 (aI @hcm' (aI @hlb' (aI @hf (aI @ht (aI @hftc (aI @hxo (aI @hyo (aI @zhd (aI @xbc @xcv)))))))))));repeat' first|refine gC ?_ ?_<;>intro hc<;>try contradiction|refine za (zbC h1 hb.2.1 b (by omega) (by omega)) ?_|refine gG ?_|show AK _;intro J Z|refine gJ ?_|omega|exact aT
            rw [hln,hnx,hev,zic hx1 hy1];exact ⟨rfl,rfl⟩
          ·have hft':=eq_false hft
           have hev:evB m l d b=[]:=by rw [evB,if_neg hcm,if_neg hft]
           rcases key with ⟨h1,h2⟩|hlb
           ·subst h1;subst h2
            have qe:=aI @scE (aI qR (aI @za9 (aI @hcm' @hft')));repeat' first|refine gC ?_ ?_<;>intro hc<;>try contradiction|refine gG ?_|show AK _;intro J Z|refine gJ ?_|omega|exact aT
            rw [hln,hnx,hev,xat];exact ⟨rfl,rfl⟩
           ·have hlb':=eq_false hlb
            have qe:=aI @scE (aI qR (aI @za9 (aI @hcm' (aI @hlb' @hft'))));repeat' first|refine gC ?_ ?_<;>intro hc<;>try contradiction|refine za (zbC h1 hb.2.1 b (by omega) (by omega)) ?_|refine gG ?_|show AK _;intro J Z|refine gJ ?_|omega|exact aT
            rw [hln,hnx,hev,xat];exact ⟨rfl,rfl⟩
        ·simp only [xaf,zsS]
         have qe:=aI @scE @List.take_length.{0};repeat' first|refine gC ?_ ?_<;>intro hc<;>try contradiction|refine gG ?_|show AK _;intro J Z|refine gJ ?_|omega|exact aT
         refine ⟨(e+1,zuH l m c (zM l (d - 1+e))),⟨by simp only;omega,zod he.2 _⟩,by simp only;omega,?_⟩
         simp
       ·have qe:=@scE;repeat' first|refine gC ?_ ?_<;>intro hc<;>try contradiction|refine gG ?_|show AK _;intro J Z|refine gJ ?_|omega|exact aT
        have ee:e=2:=by omega
        subst ee
        refine ⟨(q+1,c),⟨by simp only;omega,he.2⟩,by simp only;omega,?_⟩
        simp [zsT hd]
     ·have qe:=@scE;repeat' first|refine gC ?_ ?_<;>intro hc<;>try contradiction|refine gG ?_|show AK _;intro J Z|refine gJ ?_|omega|exact aT
      have eq:q=(zW r.per).length:=by omega
      subst eq
      refine ⟨k+1,by omega,by omega,by simp,?_⟩
      rw [zsU hx hcl]
  ·have qe:=aI @scE (aI @scO (@List.map_replicate.{0,0}));repeat' first|refine gC ?_ ?_<;>intro hc<;>try contradiction|refine gG ?_|show AK _;intro J Z|refine gJ ?_|omega|exact aT
   have e:k=ls.length:=by omega
   subst e
   refine zi (κ:=Nat) (fun i=>⟨[(7,.lp 7 0),(22,.lp 113 0),(23,.p (.i .i64 (zfA (edg (evA ls m r)) i))),(114,.p (.i .i64 i))],[(7,.box (zid (evA ls m r)) false),(113,.box (znY (evA ls m r) i) false)],[],false⟩) (fun i=>i≤1440) (fun i=>1440 - i) 0 ?_ ?_ ?_
   ·simp only [qS,Nat.reduceAdd,Nat.reduceMul,Nat.reduceEqDiff,Nat.reduceLeDiff,reduceIte,reduceCtorEq,Nat.reduceBEq,Nat.reduceLT,scE,scO]
    exact ⟨⟨rfl,rfl⟩,rfl,by rw [zxa]⟩
   ·simp
   ·intro i hi
    have hevo:∀ e ∈ evA ls m r,e.1 < e.2∧e.2≤1440:=fun e he=>zxE he
    have hbd:=zux hevo (i:=i) (by omega)
    have qe:=aI @scE @scO;repeat first|refine gG ?_|show AK _;intro J Z|refine gJ ?_|omega|exact aT
    have qe:=aI @scE @scO;(refine gC ?_ ?_<;>intro hc<;>try contradiction)
    ·obtain ⟨x,hx1,hx2⟩:=zib (evA ls m r) (i:=i) (by omega)
     have hxo:=zjN hx1
     have hpn:=zeS hx1
     have hpp:=zri hevo (i:=i) (by omega)
     have hon:=znX (evA ls m r) (k:=i) (by omega)
     rw [hpn] at hpp
     have qe:=aI @scE (aI @scO (aI @hxo (aI @hpp (aI @zhd (aI @zrm (aI @hon (aI @xbc @xcv)))))));repeat' first|refine gC ?_ ?_<;>intro hc<;>try contradiction|refine gG ?_|show AK _;intro J Z|refine gJ ?_|omega|exact aT
     exact ⟨i+1,by omega,by omega,by rw [hpn];simp,rfl⟩
    ·have qe:=aI @scE (aI @scO (aI @goO @boxO));repeat' first|refine gC ?_ ?_<;>intro hc<;>try contradiction|refine gG ?_|show AK _;intro J Z|refine gJ ?_|omega|exact aT
     have e:i=1440:=by omega
     subst e
     exact .refl _
end Go.Proofs.YtijgimeokgbifaaGreat
