/- Contracts of functions, for the claim. No conditions. -/
import Derived.Test.YtijgimeokgbifaaGreatK11
import Derived.Test.YtijgimeokgbifaaGreatK5
import Derived.Test.YtijgimeokgbifaaGreatK12
import Derived.Test.YtijgimeokgbifaaGreatK10
set_option linter.all false
set_option maxHeartbeats 8000000
set_option maxRecDepth 100000
namespace Go.Proofs.YtijgimeokgbifaaGreat
open Go.RowKit
def arB (m:List Mov) (o:Mov) (i:Nat) (l:Lim) (b:Int):List Win:=if b<=o.moment/\o.moment < b+l.len then [⟨i,b,zbs l m b⟩] else []
def arD (m:List Mov) (o:Mov) (i:Nat) (l:Lim) (d:Int):List Win:=(zL l d).flatMap (arB m o i l)
def arX (m:List Mov) (o:Mov) (i:Nat) (l:Lim) (e:Nat):List Win:=arD m o i l (o.moment / 1440 - 1+e)
def arL (m:List Mov) (o:Mov) (i:Nat) (l:Lim):List Win:=if zac l o.kind o.term then (List.range 2).flatMap (arX m o i l) else []
def arI (ls:List Lim) (m:List Mov) (o:Mov) (i:Nat):List Win:=match ls[i]? with|some l=>arL m o i l|none=>[]
def arK (ls:List Lim) (m:List Mov) (o:Mov) (k:Nat):List Win:=(List.range k).flatMap (arI ls m o)
def arW (ls:List Lim) (m:List Mov) (o:Mov):List Win:=arK ls m o ls.length
theorem zuJ (ls:List Lim) (m:List Mov) (o:Mov) (hn:ls.length≤1000000) (h:∀ l ∈ ls,zaS l=0) (hm:zad m=0) (ho:zed o=0):zpk Tryz.prog 203 [.ip (.sl 11 (ls.map Lim.pv)) 0,.ip o.pv 0,.ip (.sl 7 (m.map Mov.pv)) 0] ((arW ls m o).map zhs):=by
 have hmo:0≤o.moment∧o.moment≤143999999:=by
  unfold zed at ho
  simp only [zp,zdm] at ho
  exact ho.1
 have hq:o.moment.tdiv 1440=o.moment / 1440:=Int.tdiv_eq_ediv_of_nonneg (by omega)
 refine zg2 (cF Tryz.func203 Tryz.f203.eq_1) (by simp) fun hw X hX=>?_
 have hmm:=zaR hm
 simp only [zbp]
 repeat' first|refine gC ?_ ?_<;>intro hc<;>try contradiction|refine gG ?_|show AK _;intro K H|refine H _ _ ?_;clear H K|refine gJ ?_;try exact trivial|omega
 refine zj (κ:=Nat) (fun k=>⟨[(1,.p (.ip (.sl 11 (ls.map Lim.pv)) 0)),(2,.p (.ip o.pv 0)),(3,.p (.ip (.sl 7 (m.map Mov.pv)) 0)),(4,.lp 4 0),(11,.p (.sl 11 (ls.map Lim.pv))),(12,.p (.i .i64 ls.length)),(13,.p (.i .i64 k))],[(4,.box [.yield] false)],(arK ls m o k).map zhs,false⟩) (fun k=>k≤ls.length) (fun k=>ls.length - k) 0 ?_ ?_ ?_
 ·refine gJ ?_;simp [arK]
 ·simp
 ·intro k hk
  repeat first|refine gG ?_|show AK _;intro K H|refine H _ _ ?_;clear H K|refine gJ ?_;try exact trivial|omega
  (refine gC ?_ ?_<;>intro hc<;>try contradiction)
  ·obtain ⟨l,hx⟩:=zm (i:=k) (l:=ls) (by omega)
   have h1:=h l (List.mem_of_getElem? hx)
   have hi:arI ls m o k=arL m o k l:=by rw [arI,hx]
   have hs:=zbm (arI ls m o) (show k < ls.length by omega)
   have qe:=aI qR (aI @hx @hq);repeat' first|refine gC ?_ ?_<;>intro hc<;>try contradiction|refine za (zi4 l o.kind o.term h1) ?_|refine za (zsH l m h1 (by omega)) ?_|refine za (znG l _) ?_|refine gG ?_|show AK _;intro K H|refine H _ _ ?_;clear H K|refine gJ ?_;try exact trivial|omega
   ·have ha:arL m o k l=[]:=by rw [arL,hc];rfl
    refine ⟨k+1,by omega,by omega,by simp,?_⟩
    rw [arK,zab,hi,ha,List.append_nil,←arK]
   ·have ha:arL m o k l=(List.range 2).flatMap (arX m o k l):=by rw [arL,hc];rfl
    refine zj (κ:=Nat) (fun e=>⟨[(1,.p (.ip (.sl 11 (ls.map Lim.pv)) 0)),(2,.p (.ip o.pv 0)),(3,.p (.ip (.sl 7 (m.map Mov.pv)) 0)),(4,.lp 4 0),(5,.lp 5 0),(6,.lp 6 0),(7,.lp 7 0),(11,.p (.sl 11 (ls.map Lim.pv))),(12,.p (.i .i64 ls.length)),(13,.p (.i .i64 k)),(35,.p (.agg [.i .i64 (o.moment / 1440 - 1),.i .i64 (o.moment / 1440)])),(36,.p (.i .i64 e))],[(4,.box [.yield] false),(5,.box [.p (.i .i64 k)] false),(6,.box (l.cells.map .p) false),(7,.box [.p (.sl 1 ((ofL l m).map (.i .i64)))] false)],(arK ls m o k).map zhs++((List.range e).flatMap (arX m o k l)).map zhs,false⟩) (fun e=>e≤2) (fun e=>2 - e) 0 ?_ ?_ ?_
    ·exact sS
    ·simp
    ·intro e he
     repeat first|refine gG ?_|show AK _;intro K H|refine H _ _ ?_;clear H K|refine gJ ?_;try exact trivial|omega
     (refine gC ?_ ?_<;>intro hc<;>try contradiction)
     ·have hid:([.i .i64 (o.moment / 1440 - 1),.i .i64 (o.moment / 1440)]:List PV)[e]?=some (.i .i64 (o.moment / 1440 - 1+e)):=by
       rcases (show e=0∨e=1 by omega) with rfl|rfl<;>simp
      have hse:=zbm (arX m o k l) (show e < 2 by omega)
      have qe:=aI qR (aI @hid @Nat.mul_one);repeat' first|refine gC ?_ ?_<;>intro hc<;>try contradiction|refine za (znG l (o.moment / 1440 - 1+e)) ?_|refine gG ?_|show AK _;intro K H|refine H _ _ ?_;clear H K|refine gJ ?_;try exact trivial|omega
      refine zco rfl (zoi l (o.moment / 1440 - 1+e) h1) ?_ ?_ [(1,.p (.ip (.sl 11 (ls.map Lim.pv)) 0)),(2,.p (.ip o.pv 0)),(3,.p (.ip (.sl 7 (m.map Mov.pv)) 0)),(4,.lp 4 0),(5,.lp 5 0),(6,.lp 6 0),(7,.lp 7 0),(11,.p (.sl 11 (ls.map Lim.pv))),(12,.p (.i .i64 ls.length)),(13,.p (.i .i64 k)),(35,.p (.agg [.i .i64 (o.moment / 1440 - 1),.i .i64 (o.moment / 1440)])),(36,.p (.i .i64 e))] (fun _=>[(4,.box [.yield] false),(5,.box [.p (.i .i64 k)] false),(6,.box (l.cells.map .p) false),(7,.box [.p (.sl 1 ((ofL l m).map (.i .i64)))] false)]) (fun j=>((arK ls m o k).map zhs++((List.range e).flatMap (arX m o k l)).map zhs)++(((zL l (o.moment / 1440 - 1+e)).take j).flatMap (arB m o k l)).map zhs) ?_ ?_ ?_
      ·simp
      ·simp [hX]
      ·exact sS
      ·intro j t ht X' ro' hX'
       simp only [List.getElem?_map,Option.map_eq_some_iff] at ht
       obtain ⟨b,hb,rfl⟩:=ht
       have hbm:=zfs h1 (List.mem_of_getElem? hb)
       have hll:=zcd h1
       have hpp:=zaY hll.2.2.2.2.2.2.2.1
       have hnx:=zff (arB m o k l) hb
       simp only [qS,Nat.reduceAdd,Nat.reduceMul,Nat.reduceEqDiff,Nat.reduceLeDiff,reduceIte,reduceCtorEq,Nat.reduceBEq,Nat.reduceLT]
       repeat' first|refine gC ?_ ?_<;>intro hc<;>try contradiction|refine gG ?_|show AK _;intro K H|refine H _ _ ?_;clear H K|refine gJ ?_;try exact trivial|omega
       intro X1 hX1
       by_cases hin:b≤o.moment∧o.moment < b+l.len
       ·have hb1:=eq_true hin.1
        have hb2:=eq_true hin.2
        have hbb:arB m o k l b=[⟨k,b,zbs l m b⟩]:=by rw [arB,if_pos hin]
        rw [hbb] at hnx
        have hs':(arW ls m o).map zhs=(((arK ls m o k).map zhs++((List.range e).flatMap (arX m o k l)).map zhs)++(((zL l (o.moment / 1440 - 1+e)).take j).flatMap (arB m o k l)).map zhs)++zhs ⟨k,b,zbs l m b⟩::((((zL l (o.moment / 1440 - 1+e)).drop (j+1)).flatMap (arB m o k l)).map zhs++(((List.range' (e+1) (2 - (e+1))).flatMap (arX m o k l)).map zhs++((List.range' (k+1) (ls.length - (k+1))).flatMap (arI ls m o)).map zhs)):=by
         rw [arW,arK,hs,hi,ha,hse,show arX m o k l e=_ from zl8 (arB m o k l) hb,hbb,arK]
         simp
        have qe:=aI qR (aI @hb1 @hb2);repeat' first|refine gC ?_ ?_<;>intro hc<;>try contradiction|(show zi _ _ _ _ (⟨_,.call _,_,_,_⟩::_) _ _;refine zbj (hf:=fun hc=>(by first|exact zbE h1 hm b (by omega) (by omega)|(simp only [qH,zdm] at hc;exact zbE h1 hm b (by omega) (by omega)))) (hn:=?_))|refine za (zbE h1 hm b (by omega) (by omega)) ?_|(show zi _ _ _ _ (⟨_,.callv,_,_,_⟩::_) _ _;refine zgv (by first|rfl|(simp (disch:=omega) only [qG,qe,Nat.reduceAdd,Nat.reduceMul,Nat.reduceEqDiff,Nat.reduceLeDiff,reduceIte,reduceCtorEq,Nat.reduceBEq,Nat.reduceLT]<;>rfl)) (by simp (disch:=omega) only [qS,qe,Nat.reduceAdd,Nat.reduceMul,Nat.reduceEqDiff,Nat.reduceLeDiff,reduceIte,reduceCtorEq,Nat.reduceBEq,Nat.reduceLT]) (by simp (disch:=omega) only [qS,qe,Nat.reduceAdd,Nat.reduceMul,Nat.reduceEqDiff,Nat.reduceLeDiff,reduceIte,reduceCtorEq,Nat.reduceBEq,Nat.reduceLT]<;>rfl) (by simp (disch:=omega) only [qS,qe,Nat.reduceAdd,Nat.reduceMul,Nat.reduceEqDiff,Nat.reduceLeDiff,reduceIte,reduceCtorEq,Nat.reduceBEq,Nat.reduceLT];try trivial) rfl _ (hs') ?_;intro b;(refine zE ?_))|refine gG ?_|show AK _;intro K H|refine H _ _ ?_;clear H K|refine gJ ?_;try exact trivial|omega
        ·subst hc;exact .inl rfl
        ·subst hc;rw [hnx];exact ⟨by simp,rfl⟩
       ·have hbb:arB m o k l b=[]:=by rw [arB,if_neg hin]
        rw [hbb] at hnx
        by_cases h3:b≤o.moment
        ·have hb1:=eq_true h3
         have hb2:=eq_false (show ¬o.moment < b+l.len by omega)
         have qe:=aI qR (aI @hb1 @hb2);repeat' first|refine gC ?_ ?_<;>intro hc<;>try contradiction|(show zi _ _ _ _ (⟨_,.call _,_,_,_⟩::_) _ _;refine zbj (hf:=fun hc=>(by first|exact zbE h1 hm b (by omega) (by omega)|(simp only [qH,zdm] at hc;exact zbE h1 hm b (by omega) (by omega)))) (hn:=?_))|(show zi _ _ _ _ (⟨_,.callv,_,_,_⟩::_) _ _;refine zbi (q:=(.b false)) (by first|rfl|(simp (disch:=omega) only [qG,qe,Nat.reduceAdd,Nat.reduceMul,Nat.reduceEqDiff,Nat.reduceLeDiff,reduceIte,reduceCtorEq,Nat.reduceBEq,Nat.reduceLT]<;>rfl)) ?_;(try (refine zE ?_)))|refine gG ?_|show AK _;intro K H|refine H _ _ ?_;clear H K|refine gJ ?_;try exact trivial|omega
         rw [hnx];simp
        ·have hb1:=eq_false h3
         have qe:=aI qR @hb1;repeat' first|refine gC ?_ ?_<;>intro hc<;>try contradiction|(show zi _ _ _ _ (⟨_,.call _,_,_,_⟩::_) _ _;refine zbj (hf:=fun hc=>(by first|exact zbE h1 hm b (by omega) (by omega)|(simp only [qH,zdm] at hc;exact zbE h1 hm b (by omega) (by omega)))) (hn:=?_))|(show zi _ _ _ _ (⟨_,.callv,_,_,_⟩::_) _ _;refine zbi (q:=(.b false)) (by first|rfl|(simp (disch:=omega) only [qG,qe,Nat.reduceAdd,Nat.reduceMul,Nat.reduceEqDiff,Nat.reduceLeDiff,reduceIte,reduceCtorEq,Nat.reduceBEq,Nat.reduceLT]<;>rfl)) ?_;(try (refine zE ?_)))|refine gG ?_|show AK _;intro K H|refine H _ _ ?_;clear H K|refine gJ ?_;try exact trivial|omega
         rw [hnx];simp
      ·have qe:=@List.take_length.{0};repeat' first|refine gC ?_ ?_<;>intro hc<;>try contradiction|refine gG ?_|show AK _;intro K H|refine H _ _ ?_;clear H K|refine gJ ?_;try exact trivial|omega
       refine ⟨e+1,by omega,by omega,by simp,?_⟩
       rw [zab,List.map_append,List.append_assoc];rfl
     ·repeat' first|refine gC ?_ ?_<;>intro hc<;>try contradiction|refine gG ?_|show AK _;intro K H|refine H _ _ ?_;clear H K|refine gJ ?_;try exact trivial|omega
      have ee:e=2:=by omega
      subst ee
      refine ⟨k+1,by omega,by omega,by simp,?_⟩
      rw [arK,zab,hi,ha,←arK,List.map_append]
  ·repeat' first|refine gC ?_ ?_<;>intro hc<;>try contradiction|refine gG ?_|show AK _;intro K H|refine H _ _ ?_;clear H K|refine gJ ?_;try exact trivial|omega
   have e:k=ls.length:=by omega
   subst e;exact .inr rfl
def zcx (ls:List Lim) (i:Int):Int:=match ls[i.toNat]? with|some l=>l.most|none=>0
def zb1 (ls:List Lim) (a:Int) (w:Win):Int:=min a (max 0 (zcx ls w.lim - w.cnt))
def roomK (ls:List Lim) (W:List Win):Int:=W.foldl (zb1 ls) 999999999
def zwv (ls:List Lim) (m:List Mov) (o:Mov):Int:=roomK ls (arW ls m o)
theorem zs9 {ls:List Lim} {m:List Mov} {o:Mov} {w:Win} (hw:w ∈ arW ls m o):∃ (i:Nat) (l:Lim),w.lim=i/\ls[i]?=some l/\w.cnt=zbs l m w.beg/\zac l o.kind o.term=true/\w.beg<=o.moment/\o.moment < w.beg+l.len/\∃ e:Nat,e < 2/\w.beg ∈ zL l (o.moment / 1440 - 1+e):=by
 obtain ⟨i,hi,hw⟩:=List.mem_flatMap.1 hw
 unfold arI at hw
 split at hw
 ·rename_i l hl
  unfold arL at hw
  split at hw
  ·rename_i hc
   obtain ⟨e,he,hw⟩:=List.mem_flatMap.1 hw
   obtain ⟨b,hb,hw⟩:=List.mem_flatMap.1 hw
   unfold arB at hw
   split at hw
   ·rename_i hin
    simp only [List.mem_singleton] at hw
    subst hw
    exact ⟨i,l,rfl,hl,rfl,hc,hin.1,hin.2,e,List.mem_range.1 he,hb⟩
   ·cases hw
  ·cases hw
 ·cases hw
theorem zvP {ls:List Lim} {m:List Mov} {o:Mov} (hn:ls.length<=32) (h:∀ l ∈ ls,zaS l=0):(arW ls m o).length<=92160:=by
 have h1:(arW ls m o).length<=(List.range ls.length).length*2880:=by
  refine zcF λi _=>?_
  unfold arI
  split
  ·rename_i l hl
   unfold arL
   split
   ·have h2:((List.range 2).flatMap (arX m o i l)).length<=(List.range 2).length*1440:=by
     refine zcF λe _=>?_
     have h3:=zft (h l (List.mem_of_getElem? hl)) (o.moment / 1440 - 1+e)
     have h4:(arD m o i l (o.moment / 1440 - 1+e)).length<=(zL l (o.moment / 1440 - 1+e)).length*1:=by
      refine zcF λb _=>?_
      unfold arB;split<;>simp
     unfold arX;omega
    simp only [List.length_range] at h2;omega
   ·simp
  ·simp
 simp only [List.length_range] at h1;omega
abbrev znm (ls:List Lim) (m:List Mov) (o:Mov):Int:=zg [zo6 ls m,zed o]
theorem zwQ (ls:List Lim) (w:Win) (i:Nat) (l:Lim) (hwi:w.lim=i) (hli:ls[i]?=some l):Pure Tryz.prog 125 [w.pv,.ip (.sl 11 (ls.map Lim.pv)) 0] (.b (decide (l.most<=w.cnt))):=by
 have hil:=(List.getElem?_eq_some_iff.1 hli).1
 refine zf (cF Tryz.func125 Tryz.f125.eq_1) (by simp) λhw X hX=>?_
 have qe:=aI qR (aI @hwi @hli);repeat' first|refine gC ?_ ?_<;>intro hc<;>try contradiction|refine gG ?_|show AK _;intro K H|refine H _ _ ?_;clear H K|refine gJ ?_;try exact trivial|omega
 exact .refl _
theorem zuo {f:Nat} {caps:List PV} {L:List Win} {p:Win->Bool} (hf:∀ w ∈ L,Pure Tryz.prog f (w.pv::caps) (.b (p w))) (hn:L.length<=1000000):Pure Tryz.prog 126 [.sl 3 (L.map Win.pv),.fn (.func f) [] caps] (.sl 3 ((L.filter p).map Win.pv)):=by
 refine zf (cF Tryz.func126 Tryz.f126.eq_1) (by simp) λhw X hX=>?_
 repeat' first|refine gC ?_ ?_<;>intro hc<;>try contradiction|refine gG ?_|show AK _;intro K H|refine H _ _ ?_;clear H K|refine gJ ?_;try exact trivial|omega
 refine zaP 100 145 3 [(1,.p (.fn (.func f) [] caps)),(5,.row 100 0),(8,.p (.sl 3 (L.map Win.pv))),(9,.p (.i .i64 L.length)),(10,.p (.i .i64 0))] [] ?_ ?_
 ·simp only [Own,zaM,zaB,zbt,zay,qS,seval]
 refine zj (κ:=Nat) (λk=>⟨[(1,.p (.fn (.func f) [] caps)),(5,.row 100 ((L.take k).filter p).length),(8,.p (.sl 3 (L.map Win.pv))),(9,.p (.i .i64 L.length)),(10,.p (.i .i64 k))],[(100,.row 145 3 (((L.take k).filter p).map Win.pv) false)],[],false⟩) (λk=>k<=L.length) (λk=>L.length - k) 0 ?_ ?_ ?_
 ·exact sS
 ·simp
 ·intro k hk
  repeat first|refine gG ?_|show AK _;intro K H|refine H _ _ ?_;clear H K|refine gJ ?_;try exact trivial|omega
  (refine gC ?_ ?_<;>intro hc<;>try contradiction)
  ·obtain ⟨w,hx⟩:=zm (i:=k) (l:=L) (by omega)
   have hnx:=zfh (p:=p) hx
   have hfl:=zjB (p:=p) (l:=L) (k:=k)
   have qe:=aI qR @hx;repeat' first|refine gC ?_ ?_<;>intro hc<;>try contradiction|refine zq (hf w (List.mem_of_getElem? hx)) ?_|refine gG ?_|show AK _;intro K H|refine H _ _ ?_;clear H K|refine gJ ?_;try exact trivial|omega
   ·rw [hc,if_pos rfl] at hnx
    exact ⟨k+1,by omega,by omega,⟨by rw [hnx];simp,by simp⟩,by rw [hnx];simp⟩
   ·rw [hc] at hnx
    exact ⟨k+1,by omega,by omega,⟨by rw [hnx];simp,by simp⟩,by rw [hnx];simp⟩
  ·repeat' first|refine gC ?_ ?_<;>intro hc<;>try contradiction|refine gG ?_|show AK _;intro K H|refine H _ _ ?_;clear H K|refine gJ ?_;try exact trivial|omega
   have e:k=L.length:=by omega
   subst e;rw [List.take_length];exact .refl _
def zxr (ls:List Lim) (m:List Mov) (o:Mov):List Win:=(arW ls m o).filter λw=>decide (zcx ls w.lim<=w.cnt)
def zl6 (ls:List Lim) (m:List Mov) (o:Mov):List Win:=if znm ls m o=0 then zxr ls m o else []
theorem zuT {ls:List Lim} {m:List Mov} {o:Mov} (h:znm ls m o=0):zl6 ls m o=zxr ls m o:=if_pos h
theorem zuU {ls:List Lim} {m:List Mov} {o:Mov} (h:¬znm ls m o=0):zl6 ls m o=[]:=if_neg h
theorem zsK (ls:List Lim) (m:List Mov) (o:Mov):Pure Tryz.prog 76 [.sl 11 (ls.map Lim.pv),.sl 7 (m.map Mov.pv),o.pv] (.tup [.sl 3 ((zl6 ls m o).map Win.pv),.i .i64 (znm ls m o)]):=by
 refine zf (cF Tryz.func76 Tryz.f76.eq_1) (by simp) λhw X hX=>?_
 have qe:=@qR;repeat' first|refine gC ?_ ?_<;>intro hc<;>try contradiction|refine za (zsG ls m) ?_|refine za (zsI o) ?_|refine za (zbw [_,_]) ?_|refine gG ?_|show AK _;intro K H|refine H _ _ ?_;clear H K|refine gJ ?_;try exact trivial|omega
 ·rw [zuU hc];exact zhq (.nilsl _) (.refl _)
 ·have h0:=hc
  have h1:zo6 ls m=0/\zed o=0/\True:=⟨(zp.1 hc).1,(zp.1 (zp.1 hc).2).1,trivial⟩
  have h2:=h1.1
  simp only [zp] at h2
  have hl:=zim h2.1
  have hn:=zvP (m:=m) (o:=o) hl.1 hl.2
  have hff:∀ w ∈ arW ls m o,Pure Tryz.prog 125 (w.pv::[.ip (.sl 11 (ls.map Lim.pv)) 0]) (.b (decide (zcx ls w.lim<=w.cnt))):=λw hw=>by
   obtain ⟨i,l,hwi,hli,_⟩:=zs9 hw
   have:=zwQ ls w i l hwi hli
   rw [show zcx ls w.lim=l.most by rw [zcx,hwi,Int.toNat_natCast,hli]];exact this
  have qe:=@qR;repeat' first|refine gC ?_ ?_<;>intro hc<;>try contradiction|refine za (zum ls m o) ?_|refine za (zun (zuJ ls m o (by omega) hl.2 h2.2.1 h1.2.1) (by omega)) ?_|refine zam (zuo hff (by omega)) ?_|refine gG ?_|show AK _;intro K H|refine H _ _ ?_;clear H K|refine gJ ?_;try exact trivial|omega
  rw [zuT h0,znm,h0];exact .refl _
section
variable {f:Nat} {c:Mov->Mov->Int}
theorem zaG (hs:SW (bfC c)) (L:List Mov):zag c L=zfK (bfC c) L:=zjy hs L
theorem zk8 (hf:∀ a b:Mov,Pure Tryz.prog f [a.pv,b.pv] (.i .i64 (c a b))) {D D':List Mov} {N:Nat} (P L S:List Mov) (hN:D.length=N) (hD:D=P++(L++S)) (hD':D'=P++(zag c L++S)) (a b:Int) (ha:a=(P.length:Nat)) (hb:b=(P.length+L.length:Nat)) (hn:N<=1000000) :
  Acts Tryz.prog 276 [.row 900 N,.p (.i .i64 a),.p (.i .i64 b),.p (.fn (.func f) [] [])] [(900,.row 140 7 (D.map Mov.pv) false)] (.p (.tup [])) [(900,.row 140 7 (D'.map Mov.pv) false)]:=by
 subst ha hb
 have hlen:N=P.length+(L.length+S.length):=by rw [<-hN,hD];simp only [List.length_append]
 have hlen':D'.length=N:=by rw [hD',hlen];simp only [List.length_append,zaa]
 have hq:∀ {X:List Mov},X.length=L.length->(P++(X++S)).length=N:=fun {X} h=>by simp only [List.length_append,h];omega
 refine zR (cF Tryz.func276 Tryz.f276.eq_1) (by simp) (by simp [scPs,scP,zk,hN]) (by simp [scObj]) ⟨rfl,trivial⟩ (by simp [scObj]) (by simp [zc2,zk,hN,hlen']) λX hX=>?_
 unfold zD ghO
 have qe:=aI qR @gLV.eq_2;repeat' first|refine gC ?_ ?_<;>intro hc<;>try contradiction|refine gG ?_|show AK _;intro K H|refine H _ _ ?_;clear H K|refine gJ ?_;try exact trivial|omega
 refine zj (κ:=Nat) (λi=>⟨[(0,.row 900 N),(1,.p (.i .i64 (P.length:Nat))),(2,.p (.i .i64 (P.length+L.length:Nat))),(3,.p (.fn (.func f) [] [])),(8,.p (.i .i64 (P.length+i:Nat))),(1000900,.row 900 N)],[(900,.row 140 7 ((P++(zmD c L i++S)).map Mov.pv) false)],[],false⟩) (λi=>1<=i/\(i<=L.length\/i=1)) (λi=>L.length - i) 1 ?_ ?_ ?_
 ·simp only [qS,seval,gLV.eq_2]<;>simp [zx0,hD,hlen]
 ·simp
 ·intro i hi
  have hdl:=zhf (c:=c) hi.2
  have hdN:=hq hdl
  by_cases hlt:i < L.length
  ·obtain ⟨x,hx⟩:=zm (i:=i) (l:=L) hlt
   have hlt':(((P.length+i:Nat):Int) < (P.length+L.length:Nat))=True:=eq_true (by omega)
   have qe:=aI qR (aI @hdN @hlt');repeat' first|refine gC ?_ ?_<;>intro hc<;>try contradiction|refine gG ?_|show AK _;intro K H|refine H _ _ ?_;clear H K|refine gJ ?_;try exact trivial|omega
   have hol:=zgV (c:=c) (L:=L) (k:=i) (by omega)
   refine zj (κ:=Nat) (λj=>⟨[(0,.row 900 N),(1,.p (.i .i64 (P.length:Nat))),(2,.p (.i .i64 (P.length+L.length:Nat))),(3,.p (.fn (.func f) [] [])),(8,.p (.i .i64 (P.length+i:Nat))),(9,.p (.i .i64 (P.length+j:Nat))),(1000900,.row 900 N)],[(900,.row 140 7 ((P++(dj (mgC c L i) x (L.drop (i+1)) j++S)).map Mov.pv) false)],[],false⟩) (λj=>j<=i/\zb8 (bfC c) x (mgC c L i) j=zb8 (bfC c) x (mgC c L i) i) (λj=>j) i ?_ ?_ ?_
   ·refine gJ ?_;simp [zrW hx,hdN]
    exact Nat.le_of_eq (by rw [<-hdN];simp only [List.length_append])
   ·simp
   ·intro j hj
    have hjl:(dj (mgC c L i) x (L.drop (i+1)) j).length=L.length:=by rw [zsZ (by omega),hol,List.length_drop];omega
    have hjN:=hq hjl
    cases j with
    | zero=>
     have i0:(((P.length:Nat):Int) < ((P.length+0:Nat):Int))=False:=eq_false (by omega)
     have qe:=aI qR (aI @i0 (aI @hjN (aI @rtN @rtR)));repeat' first|refine gC ?_ ?_<;>intro hc<;>try contradiction|(show zi _ _ _ _ (⟨_,.callv,_,_,_⟩::_) _ _;refine zbi (q:=(.i .i64 0)) (by first|rfl|(simp (disch:=omega) only [qG,qe,seval]<;>rfl)) ?_;(try (refine zE ?_)))|refine gG ?_|show AK _;intro K H|refine H _ _ ?_;clear H K|refine gJ ?_;try exact trivial|omega
     exact ⟨i+1,by omega,by omega,by simp only [LV.p.injEq,PV.i.injEq,true_and];omega,by rw [zoK (j:=0) hx hj.2],by rw [zhf (by omega)];omega⟩
    | succ j=>
     have i0:(((P.length:Nat):Int) < ((P.length+(j+1):Nat):Int))=True:=eq_true (by omega)
     have i1:(((P.length+(j+1):Nat):Int) - 1).toNat=P.length+j:=by omega
     obtain ⟨y,hy⟩:=zm (i:=j) (l:=mgC c L i) (by omega)
     obtain ⟨h1,h2⟩:=dj_at (x:=x) (rest:=L.drop (i+1)) hy
     have g1:=zbo P (dj (mgC c L i) x (L.drop (i+1)) (j+1)) S (j:=j) (by omega)
     have g2:=zbo P (dj (mgC c L i) x (L.drop (i+1)) (j+1)) S (j:=j+1) (by omega)
     rw [h1] at g1
     rw [h2] at g2
     by_cases hcc:c x y < 0
     ·have hc':=eq_true hcc
      have h3:=zuQ hy hcc
      have g3:((P++(dj (mgC c L i) x (L.drop (i+1)) (j+1)++S)).set (P.length+(j+1)) y).set (P.length+j) x=P++(dj (mgC c L i) x (L.drop (i+1)) j++S):=by
       rw [zcz _ _ _ _ (by omega),zcz _ _ _ _ (by rw [List.length_set];omega),zvs hy]
      have qe:=aI qR (aI @i0 (aI @i1 (aI @g1 (aI @g2 (aI @hjN (aI @hc' (aI @rtN @rtR)))))));repeat' first|refine gC ?_ ?_<;>intro hc<;>try contradiction|refine zq (hf x y) ?_|refine gG ?_|show AK _;intro K H|refine H _ _ ?_;clear H K|refine gJ ?_;try exact trivial|omega
      exact ⟨j,⟨by omega,by rw [<-h3];exact hj.2⟩,by omega,by simp only [LV.p.injEq,PV.i.injEq,true_and];omega,by rw [<-g3,List.map_set,List.map_set],by rw [zsZ (by omega),hol,List.length_drop];omega⟩
     ·have hc':=eq_false hcc
      have h3:=zoq hy hcc
      have qe:=aI qR (aI @i0 (aI @i1 (aI @g1 (aI @g2 (aI @hjN (aI @hc' (aI @rtN @rtR)))))));repeat' first|refine gC ?_ ?_<;>intro hc<;>try contradiction|refine zq (hf x y) ?_|refine gG ?_|show AK _;intro K H|refine H _ _ ?_;clear H K|refine gJ ?_;try exact trivial|omega
      exact ⟨i+1,by omega,by omega,by simp only [LV.p.injEq,PV.i.injEq,true_and];omega,by rw [zoK hx (h3.symm.trans hj.2)],by rw [zhf (by omega)];omega⟩
  ·have hlt':(((P.length+i:Nat):Int) < (P.length+L.length:Nat))=False:=eq_false (by omega)
   have qe:=aI qR (aI @hdN (aI @hlt' (aI @rtN @rtR)));repeat' first|refine gC ?_ ?_<;>intro hc<;>try contradiction|refine gG ?_|show AK _;intro K H|refine H _ _ ?_;clear H K|refine gJ ?_;try exact trivial|omega
   rw [zrZ c L (by omega),<-hD']
   exact .inl (.mk0 (h2:=by simp only [qS,seval,keepG.eq_1,keepG.eq_2,gLV.eq_2]<;>simp [hN]))
def Wd (c:Mov->Mov->Int) (w:Nat) (R:List Mov):List Mov:=if h:R.length<=w\/w=0 then zag c R else zag c (R.take w)++Wd c w (R.drop w)
termination_by R.length
decreasing_by simp only [List.length_drop];omega
theorem zbD {w:Nat} {R:List Mov} (h:R.length<=w):Wd c w R=zag c R:=by rw [Wd,dif_pos (.inl h)]
theorem zd3 {w:Nat} {R:List Mov} (hw:0 < w) (h:w<=R.length):Wd c w R=zag c (R.take w)++Wd c w (R.drop w):=by
 by_cases e:R.length=w
 ·rw [zbD (by omega),List.take_of_length_le (by omega),List.drop_eq_nil_of_le (by omega),zbD (by simp)]
  show _=_++[]
  rw [List.append_nil]
 ·rw [Wd,dif_neg (by omega)]
theorem zgn {w:Nat} (hw:0 < w) (R:List Mov):(Wd c w R).length=R.length:=by
 generalize hn:R.length=n
 induction n using Nat.strongRecOn generalizing R with
 | _ n ih=>
  by_cases h:R.length<=w
  ·rw [zbD h,zaa,hn]
  ·rw [zd3 hw (by omega),List.length_append,zaa,ih (R.drop w).length (by rw [List.length_drop];omega) _ rfl,List.length_take,List.length_drop];omega
theorem zj4 (hs:SW (bfC c)) (R:List Mov) (w:Nat):mrg (bfC c) (zag c (R.take w)) (zag c (R.drop w))=zag c R:=by
 rw [zaG hs,zaG hs,zaG hs,<-zoj hs,List.take_append_drop]
end
end Go.Proofs.YtijgimeokgbifaaGreat
