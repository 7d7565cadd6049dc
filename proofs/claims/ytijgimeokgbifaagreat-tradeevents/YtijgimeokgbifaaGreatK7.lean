/- Contracts of functions, for the claim. No conditions. -/
import Derived.Test.YtijgimeokgbifaaGreatK6
import Derived.Test.YtijgimeokgbifaaGreatK3
import Derived.Test.YtijgimeokgbifaaGreatK4
set_option linter.all false
set_option maxHeartbeats 8000000
set_option maxRecDepth 100000
namespace Go.Proofs.YtijgimeokgbifaaGreat
open Go.RowKit Tryz
def arB (m:List Mov) (o:Mov) (i:Nat) (l:Lim) (b:Int):List Win:=if b<=o.moment/\o.moment < b+l.len then [⟨i,b,zbq l m b⟩] else []
def arD (m:List Mov) (o:Mov) (i:Nat) (l:Lim) (d:Int):List Win:=(zM l d).flatMap (arB m o i l)
def arX (m:List Mov) (o:Mov) (i:Nat) (l:Lim) (e:Nat):List Win:=arD m o i l (o.moment / 1440 - 1+e)
def arL (m:List Mov) (o:Mov) (i:Nat) (l:Lim):List Win:=if zad l o.kind o.term then (List.range 2).flatMap (arX m o i l) else []
def arI (ls:List Lim) (m:List Mov) (o:Mov) (i:Nat):List Win:=match ls[i]? with|some l=>arL m o i l|none=>[]
def arK (ls:List Lim) (m:List Mov) (o:Mov) (k:Nat):List Win:=(List.range k).flatMap (arI ls m o)
def arW (ls:List Lim) (m:List Mov) (o:Mov):List Win:=arK ls m o ls.length
def zuR (ls:List Lim) (m:List Mov) (o:Mov) (hn:ls.length≤1000000) (h:∀ l ∈ ls,zaR l=0) (hm:zae m=0) (ho:zed o=0):zpr prog 203 [.ip (.sl 11 (ls.map Lim.pv)) 0,.ip o.pv 0,.ip (.sl 7 (m.map Mov.pv)) 0] ((arW ls m o).map zht):=by
 have hmo:0≤o.moment∧o.moment≤143999999:=by
  unfold zed at ho
  simp only [zq,zdl] at ho
  exact ho.1
 have hq:o.moment.tdiv 1440=o.moment / 1440:=xbz (by omega)
 refine zg4 (cF func203 f203.eq_1) (by simp) fun hw X hX=>?_
 have hmm:=zaQ hm
 simp only [zbn]
 repeat' first|refine gC ?_ ?_<;>intro hc<;>try contradiction|refine gG ?_|show AK _;intro J Z|refine gJ ?_|omega|exact aT
 refine zi (κ:=Nat) (fun k=>⟨[(1,.p (.ip (.sl 11 (ls.map Lim.pv)) 0)),(2,.p (.ip o.pv 0)),(3,.p (.ip (.sl 7 (m.map Mov.pv)) 0)),(4,.lp 4 0),(11,.p (.sl 11 (ls.map Lim.pv))),(12,.p (.i .i64 ls.length)),(13,.p (.i .i64 k))],[(4,.box [.yield] false)],(arK ls m o k).map zht,false⟩) (fun k=>k≤ls.length) (fun k=>ls.length - k) 0 ?_ ?_ ?_
 ·refine gJ ?_;simp [arK]
 ·simp
 ·intro k hk
  repeat first|refine gG ?_|show AK _;intro J Z|refine gJ ?_|omega|exact aT
  (refine gC ?_ ?_<;>intro hc<;>try contradiction)
  ·obtain ⟨l,hx⟩:=zm (i:=k) (l:=ls) (by omega)
   have h1:=h l (xad hx)
   have hi:arI ls m o k=arL m o k l:=by rw [arI,hx]
   have hs:=zbk (arI ls m o) (show k < ls.length by omega)
   have qe:=aI qR (aI @hx @hq);repeat' first|refine gC ?_ ?_<;>intro hc<;>try contradiction|refine za (zi5 l o.kind o.term h1) ?_|refine za (zsO l m h1 (by omega)) ?_|refine za (znL l _) ?_|refine gG ?_|show AK _;intro J Z|refine gJ ?_|omega|exact aT
   ·have ha:arL m o k l=[]:=by rw [arL,hc];rfl
    refine ⟨k+1,by omega,by omega,by simp,?_⟩
    rw [arK,zac,hi,ha,xat,←arK]
   ·have ha:arL m o k l=(List.range 2).flatMap (arX m o k l):=by rw [arL,hc];rfl
    refine zi (κ:=Nat) (fun e=>⟨[(1,.p (.ip (.sl 11 (ls.map Lim.pv)) 0)),(2,.p (.ip o.pv 0)),(3,.p (.ip (.sl 7 (m.map Mov.pv)) 0)),(4,.lp 4 0),(5,.lp 5 0),(6,.lp 6 0),(7,.lp 7 0),(11,.p (.sl 11 (ls.map Lim.pv))),(12,.p (.i .i64 ls.length)),(13,.p (.i .i64 k)),(35,.p (.agg [.i .i64 (o.moment / 1440 - 1),.i .i64 (o.moment / 1440)])),(36,.p (.i .i64 e))],[(4,.box [.yield] false),(5,.box [.p (.i .i64 k)] false),(6,.box (l.cells.map .p) false),(7,.box [.p (.sl 1 ((ofL l m).map (.i .i64)))] false)],(arK ls m o k).map zht++((List.range e).flatMap (arX m o k l)).map zht,false⟩) (fun e=>e≤2) (fun e=>2 - e) 0 ?_ ?_ ?_
    ·exact sS
    ·simp
    ·intro e he
     repeat first|refine gG ?_|show AK _;intro J Z|refine gJ ?_|omega|exact aT
     (refine gC ?_ ?_<;>intro hc<;>try contradiction)
     ·have hid:([.i .i64 (o.moment / 1440 - 1),.i .i64 (o.moment / 1440)]:List PV)[e]?=some (.i .i64 (o.moment / 1440 - 1+e)):=by
       rcases (show e=0∨e=1 by omega) with rfl|rfl<;>simp
      have hse:=zbk (arX m o k l) (show e < 2 by omega)
      have qe:=aI qR (aI @hid @xcv);repeat' first|refine gC ?_ ?_<;>intro hc<;>try contradiction|refine za (znL l (o.moment / 1440 - 1+e)) ?_|refine gG ?_|show AK _;intro J Z|refine gJ ?_|omega|exact aT
      refine zcm rfl (zoo l (o.moment / 1440 - 1+e) h1) ?_ ?_ [(1,.p (.ip (.sl 11 (ls.map Lim.pv)) 0)),(2,.p (.ip o.pv 0)),(3,.p (.ip (.sl 7 (m.map Mov.pv)) 0)),(4,.lp 4 0),(5,.lp 5 0),(6,.lp 6 0),(7,.lp 7 0),(11,.p (.sl 11 (ls.map Lim.pv))),(12,.p (.i .i64 ls.length)),(13,.p (.i .i64 k)),(35,.p (.agg [.i .i64 (o.moment / 1440 - 1),.i .i64 (o.moment / 1440)])),(36,.p (.i .i64 e))] (fun _=>[(4,.box [.yield] false),(5,.box [.p (.i .i64 k)] false),(6,.box (l.cells.map .p) false),(7,.box [.p (.sl 1 ((ofL l m).map (.i .i64)))] false)]) (fun j=>((arK ls m o k).map zht++((List.range e).flatMap (arX m o k l)).map zht)++(((zM l (o.moment / 1440 - 1+e)).take j).flatMap (arB m o k l)).map zht) ?_ ?_ ?_
      ·simp
      ·simp [hX]
      ·exact sS
      ·intro j t ht X' ro' hX'
       simp only [xah,xac] at ht
       obtain ⟨b,hb,rfl⟩:=ht
       have hbm:=zfr h1 (xad hb)
       have hll:=zcb h1
       have hpp:=zaW hll.2.2.2.2.2.2.2.1
       have hnx:=zfe (arB m o k l) hb
       simp only [qS,Nat.reduceAdd,Nat.reduceMul,Nat.reduceEqDiff,Nat.reduceLeDiff,reduceIte,reduceCtorEq,Nat.reduceBEq,Nat.reduceLT]
       repeat' first|refine gC ?_ ?_<;>intro hc<;>try contradiction|refine gG ?_|show AK _;intro J Z|refine gJ ?_|omega|exact aT
       intro X1 hX1
       by_cases hin:b≤o.moment∧o.moment < b+l.len
       ·have hb1:=eq_true hin.1
        have hb2:=eq_true hin.2
        have hbb:arB m o k l b=[⟨k,b,zbq l m b⟩]:=by rw [arB,if_pos hin]
        rw [hbb] at hnx
        have hs':(arW ls m o).map zht=(((arK ls m o k).map zht++((List.range e).flatMap (arX m o k l)).map zht)++(((zM l (o.moment / 1440 - 1+e)).take j).flatMap (arB m o k l)).map zht)++zht ⟨k,b,zbq l m b⟩::((((zM l (o.moment / 1440 - 1+e)).drop (j+1)).flatMap (arB m o k l)).map zht++(((List.range' (e+1) (2 - (e+1))).flatMap (arX m o k l)).map zht++((List.range' (k+1) (ls.length - (k+1))).flatMap (arI ls m o)).map zht)):=by
         rw [arW,arK,hs,hi,ha,hse,show arX m o k l e=_ from zma (arB m o k l) hb,hbb,arK]
         simp
        have qe:=aI qR (aI @hb1 @hb2);repeat' first|refine gC ?_ ?_<;>intro hc<;>try contradiction|(show zh _ _ _ _ (⟨_,.call _,_,_,_⟩::_) _ _;refine zbh (hf:=fun hc=>(by first|exact zbC h1 hm b (by omega) (by omega)|(simp only [qH,zdl] at hc;exact zbC h1 hm b (by omega) (by omega)))) (hn:=?_))|refine za (zbC h1 hm b (by omega) (by omega)) ?_|(show zh _ _ _ _ (⟨_,.callv,_,_,_⟩::_) _ _;refine zgv (by first|rfl|(simp (disch:=omega) only [qG,qe,Nat.reduceAdd,Nat.reduceMul,Nat.reduceEqDiff,Nat.reduceLeDiff,reduceIte,reduceCtorEq,Nat.reduceBEq,Nat.reduceLT]<;>rfl)) (by simp (disch:=omega) only [qS,qe,Nat.reduceAdd,Nat.reduceMul,Nat.reduceEqDiff,Nat.reduceLeDiff,reduceIte,reduceCtorEq,Nat.reduceBEq,Nat.reduceLT]) (by simp (disch:=omega) only [qS,qe,Nat.reduceAdd,Nat.reduceMul,Nat.reduceEqDiff,Nat.reduceLeDiff,reduceIte,reduceCtorEq,Nat.reduceBEq,Nat.reduceLT]<;>rfl) (by simp (disch:=omega) only [qS,qe,Nat.reduceAdd,Nat.reduceMul,Nat.reduceEqDiff,Nat.reduceLeDiff,reduceIte,reduceCtorEq,Nat.reduceBEq,Nat.reduceLT];try trivial) rfl _ (hs') ?_;intro b;(refine zF ?_))|refine gG ?_|show AK _;intro J Z|refine gJ ?_|omega|exact aT
        ·subst hc;exact .inl rfl
        ·subst hc;rw [hnx];exact ⟨by simp,rfl⟩
       ·have hbb:arB m o k l b=[]:=by rw [arB,if_neg hin]
        rw [hbb] at hnx
        by_cases h3:b≤o.moment
        ·have hb1:=eq_true h3
         have hb2:=eq_false (show ¬o.moment < b+l.len by omega)
         have qe:=aI qR (aI @hb1 @hb2);repeat' first|refine gC ?_ ?_<;>intro hc<;>try contradiction|(show zh _ _ _ _ (⟨_,.call _,_,_,_⟩::_) _ _;refine zbh (hf:=fun hc=>(by first|exact zbC h1 hm b (by omega) (by omega)|(simp only [qH,zdl] at hc;exact zbC h1 hm b (by omega) (by omega)))) (hn:=?_))|(show zh _ _ _ _ (⟨_,.callv,_,_,_⟩::_) _ _;refine zbg (q:=(.b false)) (by first|rfl|(simp (disch:=omega) only [qG,qe,Nat.reduceAdd,Nat.reduceMul,Nat.reduceEqDiff,Nat.reduceLeDiff,reduceIte,reduceCtorEq,Nat.reduceBEq,Nat.reduceLT]<;>rfl)) ?_;(try (refine zF ?_)))|refine gG ?_|show AK _;intro J Z|refine gJ ?_|omega|exact aT
         rw [hnx];simp
        ·have hb1:=eq_false h3
         have qe:=aI qR @hb1;repeat' first|refine gC ?_ ?_<;>intro hc<;>try contradiction|(show zh _ _ _ _ (⟨_,.call _,_,_,_⟩::_) _ _;refine zbh (hf:=fun hc=>(by first|exact zbC h1 hm b (by omega) (by omega)|(simp only [qH,zdl] at hc;exact zbC h1 hm b (by omega) (by omega)))) (hn:=?_))|(show zh _ _ _ _ (⟨_,.callv,_,_,_⟩::_) _ _;refine zbg (q:=(.b false)) (by first|rfl|(simp (disch:=omega) only [qG,qe,Nat.reduceAdd,Nat.reduceMul,Nat.reduceEqDiff,Nat.reduceLeDiff,reduceIte,reduceCtorEq,Nat.reduceBEq,Nat.reduceLT]<;>rfl)) ?_;(try (refine zF ?_)))|refine gG ?_|show AK _;intro J Z|refine gJ ?_|omega|exact aT
         rw [hnx];simp
      ·have qe:=@List.take_length.{0};repeat' first|refine gC ?_ ?_<;>intro hc<;>try contradiction|refine gG ?_|show AK _;intro J Z|refine gJ ?_|omega|exact aT
       refine ⟨e+1,by omega,by omega,by simp,?_⟩
       rw [zac,xaO,xau];rfl
     ·repeat' first|refine gC ?_ ?_<;>intro hc<;>try contradiction|refine gG ?_|show AK _;intro J Z|refine gJ ?_|omega|exact aT
      have ee:e=2:=by omega
      subst ee
      refine ⟨k+1,by omega,by omega,by simp,?_⟩
      rw [arK,zac,hi,ha,←arK,xaO]
  ·repeat' first|refine gC ?_ ?_<;>intro hc<;>try contradiction|refine gG ?_|show AK _;intro J Z|refine gJ ?_|omega|exact aT
   have e:k=ls.length:=by omega
   subst e;exact .inr rfl
def zcv (ls:List Lim) (i:Int):Int:=match ls[i.toNat]? with|some l=>l.most|none=>0
def zbZ (ls:List Lim) (a:Int) (w:Win):Int:=min a (max 0 (zcv ls w.lim - w.cnt))
def roomK (ls:List Lim) (W:List Win):Int:=W.foldl (zbZ ls) 999999999
def zwD (ls:List Lim) (m:List Mov) (o:Mov):Int:=roomK ls (arW ls m o)
def ztg {ls:List Lim} {m:List Mov} {o:Mov} {w:Win} (hw:w ∈ arW ls m o):∃ (i:Nat) (l:Lim),w.lim=i/\ls[i]?=some l/\w.cnt=zbq l m w.beg/\zad l o.kind o.term=true/\w.beg<=o.moment/\o.moment < w.beg+l.len/\∃ e:Nat,e < 2/\w.beg ∈ zM l (o.moment / 1440 - 1+e):=by
 obtain ⟨i,hi,hw⟩:=xaC.1 hw;unfold arI at hw
 split at hw
 ·rename_i l hl;unfold arL at hw
  split at hw
  ·rename_i hc;obtain ⟨e,he,hw⟩:=xaC.1 hw;obtain ⟨b,hb,hw⟩:=xaC.1 hw;unfold arB at hw
   split at hw
   ·rename_i hin;simp only [xaJ] at hw;subst hw;exact ⟨i,l,rfl,hl,rfl,hc,hin.1,hin.2,e,xaV.1 he,hb⟩
   ·cases hw
  ·cases hw
 ·cases hw
def zvX {ls:List Lim} {m:List Mov} {o:Mov} (hn:ls.length<=32) (h:∀ l ∈ ls,zaR l=0):(arW ls m o).length<=92160:=by
 have h1:(arW ls m o).length<=(List.range ls.length).length*2880:=by
  refine zcD λi _=>?_
  unfold arI
  split
  ·rename_i l hl;unfold arL
   split
   ·have h2:((List.range 2).flatMap (arX m o i l)).length<=(List.range 2).length*1440:=by
     refine zcD λe _=>?_
     have h3:=zfs (h l (xad hl)) (o.moment / 1440 - 1+e);have h4:(arD m o i l (o.moment / 1440 - 1+e)).length<=(zM l (o.moment / 1440 - 1+e)).length*1:=by
      refine zcD λb _=>?_
      unfold arB;split<;>simp
     unfold arX;omega
    simp only [xbH] at h2;omega
   ·simp
  ·simp
 simp only [xbH] at h1;omega
abbrev znq (ls:List Lim) (m:List Mov) (o:Mov):Int:=zf [zpd ls m,zed o]
def zwY (ls:List Lim) (w:Win) (i:Nat) (l:Lim) (hwi:w.lim=i) (hli:ls[i]?=some l):Pure prog 125 [w.pv,.ip (.sl 11 (ls.map Lim.pv)) 0] (.b (decide (l.most<=w.cnt))):=by
 have hil:=(xaa.1 hli).1;refine pz func125 f125.eq_1 λhw X hX=>?_
 have qe:=aI qR (aI @hwi @hli);exact gD0
def zuw {f:Nat} {caps:List PV} {L:List Win} {p:Win->Bool} (hf:∀ w ∈ L,Pure prog f (w.pv::caps) (.b (p w))) (hn:L.length<=1000000):Pure prog 126 [.sl 3 (L.map Win.pv),.fn (.func f) [] caps] (.sl 3 ((L.filter p).map Win.pv)):=by
 refine pz func126 f126.eq_1 λhw X hX=>?_
 repeat' first|refine gC ?_ ?_<;>intro hc<;>try contradiction|refine gG ?_|show AK _;intro J Z|refine gJ ?_|omega|exact aT
 refine zaO 100 145 3 [(1,.p (.fn (.func f) [] caps)),(5,.row 100 0),(8,.p (.sl 3 (L.map Win.pv))),(9,.p (.i .i64 L.length)),(10,.p (.i .i64 0))] [] ?_ ?_
 ·simp only [Own,zaL,zaA,zbr,zax,qS,seval]
 refine zi (κ:=Nat) (λk=>⟨[(1,.p (.fn (.func f) [] caps)),(5,.row 100 ((L.take k).filter p).length),(8,.p (.sl 3 (L.map Win.pv))),(9,.p (.i .i64 L.length)),(10,.p (.i .i64 k))],[(100,.row 145 3 (((L.take k).filter p).map Win.pv) false)],[],false⟩) (λk=>k<=L.length) (λk=>L.length - k) 0 ?_ ?_ ?_
 ·exact sS
 ·simp
 ·intro k hk
  repeat first|refine gG ?_|show AK _;intro J Z|refine gJ ?_|omega|exact aT
  (refine gC ?_ ?_<;>intro hc<;>try contradiction)
  ·obtain ⟨w,hx⟩:=zm (i:=k) (l:=L) (by omega)
   have hnx:=zfg (p:=p) hx;have hfl:=zjB (p:=p) (l:=L) (k:=k);have qe:=aI qR @hx;repeat' first|refine gC ?_ ?_<;>intro hc<;>try contradiction|refine zk (hf w (xad hx)) ?_|refine gG ?_|show AK _;intro J Z|refine gJ ?_|omega|exact aT
   ·rw [hc,if_pos rfl] at hnx;exact ⟨k+1,by omega,by omega,⟨by rw [hnx];simp,by simp⟩,by rw [hnx];simp⟩
   ·rw [hc] at hnx;exact ⟨k+1,by omega,by omega,⟨by rw [hnx];simp,by simp⟩,by rw [hnx];simp⟩
  ·repeat' first|refine gC ?_ ?_<;>intro hc<;>try contradiction|refine gG ?_|show AK _;intro J Z|refine gJ ?_|omega|exact aT
   have e:k=L.length:=by omega
   subst e;rw [xas];exact .refl _
def zxz (ls:List Lim) (m:List Mov) (o:Mov):List Win:=(arW ls m o).filter λw=>decide (zcv ls w.lim<=w.cnt)
def zl8 (ls:List Lim) (m:List Mov) (o:Mov):List Win:=if znq ls m o=0 then zxz ls m o else []
def zu1 {ls:List Lim} {m:List Mov} {o:Mov} (h:znq ls m o=0):zl8 ls m o=zxz ls m o:=if_pos h
def zu2 {ls:List Lim} {m:List Mov} {o:Mov} (h:¬znq ls m o=0):zl8 ls m o=[]:=if_neg h
def zsR (ls:List Lim) (m:List Mov) (o:Mov):Pure prog 76 [.sl 11 (ls.map Lim.pv),.sl 7 (m.map Mov.pv),o.pv] (.tup [.sl 3 ((zl8 ls m o).map Win.pv),.i .i64 (znq ls m o)]):=by
 refine pz func76 f76.eq_1 λhw X hX=>?_
 have qe:=@qR;repeat' first|refine gC ?_ ?_<;>intro hc<;>try contradiction|refine za (zsN ls m) ?_|refine za (zsP o) ?_|refine za (zbu [_,_]) ?_|refine gG ?_|show AK _;intro J Z|refine gJ ?_|omega|exact aT
 ·rw [zu2 hc];exact zhr (.nilsl _) (.refl _)
 ·have h0:=hc;have h1:zpd ls m=0/\zed o=0/\True:=⟨(zq.1 hc).1,(zq.1 (zq.1 hc).2).1,trivial⟩;have h2:=h1.1;simp only [zq] at h2;have hl:=zio h2.1;have hn:=zvX (m:=m) (o:=o) hl.1 hl.2;have hff:∀ w ∈ arW ls m o,Pure prog 125 (w.pv::[.ip (.sl 11 (ls.map Lim.pv)) 0]) (.b (decide (zcv ls w.lim<=w.cnt))):=λw hw=>by
   obtain ⟨i,l,hwi,hli,_⟩:=ztg hw;have:=zwY ls w i l hwi hli;rw [show zcv ls w.lim=l.most by rw [zcv,hwi,xbS,hli]];exact this
  have qe:=@qR;repeat' first|refine gC ?_ ?_<;>intro hc<;>try contradiction|refine za (zuu ls m o) ?_|refine za (zuv (zuR ls m o (by omega) hl.2 h2.2.1 h1.2.1) (by omega)) ?_|refine zA (zuw hff (by omega)) ?_|refine gG ?_|show AK _;intro J Z|refine gJ ?_|omega|exact aT
  rw [zu1 h0,znq,h0];exact .refl _
section
variable {f:Nat} {c:Mov->Mov->Int}
def zaF (hs:SW (bfC c)) (L:List Mov):zai c L=zfJ (bfC c) L:=zjy hs L
def zk9 (hf:∀ a b:Mov,Pure prog f [a.pv,b.pv] (.i .i64 (c a b))) {D D':List Mov} {N:Nat} (P L S:List Mov) (hN:D.length=N) (hD:D=P++(L++S)) (hD':D'=P++(zai c L++S)) (a b:Int) (ha:a=(P.length:Nat)) (hb:b=(P.length+L.length:Nat)) (hn:N<=1000000) :
  Acts prog 276 [.row 900 N,.p (.i .i64 a),.p (.i .i64 b),.p (.fn (.func f) [] [])] [(900,.row 140 7 (D.map Mov.pv) false)] (.p (.tup [])) [(900,.row 140 7 (D'.map Mov.pv) false)]:=by
 subst ha hb;have hlen:N=P.length+(L.length+S.length):=by rw [<-hN,hD];simp only [xae]
 have hlen':D'.length=N:=by rw [hD',hlen];simp only [xae,zab]
 have hq:∀ {X:List Mov},X.length=L.length->(P++(X++S)).length=N:=fun {X} h=>by simp only [xae,h];omega
 refine zR (cF func276 f276.eq_1) (by simp) (by simp [scPs,scP,zj,hN]) (by simp [scObj]) ⟨rfl,trivial⟩ (by simp [scObj]) (by simp [zc1,zj,hN,hlen']) λX hX=>?_
 unfold zE ghO;have qe:=aI qR @gLV.eq_2;repeat' first|refine gC ?_ ?_<;>intro hc<;>try contradiction|refine gG ?_|show AK _;intro J Z|refine gJ ?_|omega|exact aT
 refine zi (κ:=Nat) (λi=>⟨[(0,.row 900 N),(1,.p (.i .i64 (P.length:Nat))),(2,.p (.i .i64 (P.length+L.length:Nat))),(3,.p (.fn (.func f) [] [])),(8,.p (.i .i64 (P.length+i:Nat))),(1000900,.row 900 N)],[(900,.row 140 7 ((P++(zmG c L i++S)).map Mov.pv) false)],[],false⟩) (λi=>1<=i/\(i<=L.length\/i=1)) (λi=>L.length - i) 1 ?_ ?_ ?_
 ·simp only [qS,seval,gLV.eq_2]<;>simp [zx8,hD,hlen]
 ·simp
 ·intro i hi;have hdl:=zhh (c:=c) hi.2;have hdN:=hq hdl
  by_cases hlt:i < L.length
  ·obtain ⟨x,hx⟩:=zm (i:=i) (l:=L) hlt;have hlt':(((P.length+i:Nat):Int) < (P.length+L.length:Nat))=True:=eq_true (by omega)
   have qe:=aI qR (aI @hdN @hlt');repeat' first|refine gC ?_ ?_<;>intro hc<;>try contradiction|refine gG ?_|show AK _;intro J Z|refine gJ ?_|omega|exact aT
   have hol:=zgW (c:=c) (L:=L) (k:=i) (by omega)
   refine zi (κ:=Nat) (λj=>⟨[(0,.row 900 N),(1,.p (.i .i64 (P.length:Nat))),(2,.p (.i .i64 (P.length+L.length:Nat))),(3,.p (.fn (.func f) [] [])),(8,.p (.i .i64 (P.length+i:Nat))),(9,.p (.i .i64 (P.length+j:Nat))),(1000900,.row 900 N)],[(900,.row 140 7 ((P++(dj (mgC c L i) x (L.drop (i+1)) j++S)).map Mov.pv) false)],[],false⟩) (λj=>j<=i/\zb6 (bfC c) x (mgC c L i) j=zb6 (bfC c) x (mgC c L i) i) (λj=>j) i ?_ ?_ ?_
   ·refine gJ ?_;simp [zr5 hx,hdN];exact xcx (by rw [<-hdN];simp only [xae])
   ·simp
   ·intro j hj;have hjl:(dj (mgC c L i) x (L.drop (i+1)) j).length=L.length:=by rw [zs6 (by omega),hol,xaF];omega
    have hjN:=hq hjl;cases j with
    | zero=>
     have i0:(((P.length:Nat):Int) < ((P.length+0:Nat):Int))=False:=eq_false (by omega)
     have qe:=aI qR (aI @i0 (aI @hjN (aI @rtN @rtR)));repeat' first|refine gC ?_ ?_<;>intro hc<;>try contradiction|(show zh _ _ _ _ (⟨_,.callv,_,_,_⟩::_) _ _;refine zbg (q:=(.i .i64 0)) (by first|rfl|(simp (disch:=omega) only [qG,qe,seval]<;>rfl)) ?_;(try (refine zF ?_)))|refine gG ?_|show AK _;intro J Z|refine gJ ?_|omega|exact aT
     exact ⟨i+1,by omega,by omega,by simp only [LV.p.injEq,PV.i.injEq,true_and];omega,by rw [zoR (j:=0) hx hj.2],by rw [zhh (by omega)];omega⟩
    | succ j=>
     have i0:(((P.length:Nat):Int) < ((P.length+(j+1):Nat):Int))=True:=eq_true (by omega)
     have i1:(((P.length+(j+1):Nat):Int) - 1).toNat=P.length+j:=by omega
     obtain ⟨y,hy⟩:=zm (i:=j) (l:=mgC c L i) (by omega)
     obtain ⟨h1,h2⟩:=dj_at (x:=x) (rest:=L.drop (i+1)) hy;have g1:=zbm P (dj (mgC c L i) x (L.drop (i+1)) (j+1)) S (j:=j) (by omega)
     have g2:=zbm P (dj (mgC c L i) x (L.drop (i+1)) (j+1)) S (j:=j+1) (by omega)
     rw [h1] at g1;rw [h2] at g2
     by_cases hcc:c x y < 0
     ·have hc':=eq_true hcc;have h3:=zuY hy hcc;have g3:((P++(dj (mgC c L i) x (L.drop (i+1)) (j+1)++S)).set (P.length+(j+1)) y).set (P.length+j) x=P++(dj (mgC c L i) x (L.drop (i+1)) j++S):=by
       rw [zcx _ _ _ _ (by omega),zcx _ _ _ _ (by rw [xcA];omega),zvA hy]
      have qe:=aI qR (aI @i0 (aI @i1 (aI @g1 (aI @g2 (aI @hjN (aI @hc' (aI @rtN @rtR)))))));repeat' first|refine gC ?_ ?_<;>intro hc<;>try contradiction|refine zk (hf x y) ?_|refine gG ?_|show AK _;intro J Z|refine gJ ?_|omega|exact aT
      exact ⟨j,⟨by omega,by rw [<-h3];exact hj.2⟩,by omega,by simp only [LV.p.injEq,PV.i.injEq,true_and];omega,by rw [<-g3,xbb,xbb],by rw [zs6 (by omega),hol,xaF];omega⟩
     ·have hc':=eq_false hcc;have h3:=zow hy hcc;have qe:=aI qR (aI @i0 (aI @i1 (aI @g1 (aI @g2 (aI @hjN (aI @hc' (aI @rtN @rtR)))))));repeat' first|refine gC ?_ ?_<;>intro hc<;>try contradiction|refine zk (hf x y) ?_|refine gG ?_|show AK _;intro J Z|refine gJ ?_|omega|exact aT
      exact ⟨i+1,by omega,by omega,by simp only [LV.p.injEq,PV.i.injEq,true_and];omega,by rw [zoR hx (h3.symm.trans hj.2)],by rw [zhh (by omega)];omega⟩
  ·have hlt':(((P.length+i:Nat):Int) < (P.length+L.length:Nat))=False:=eq_false (by omega)
   have qe:=aI qR (aI @hdN (aI @hlt' (aI @rtN @rtR)));repeat' first|refine gC ?_ ?_<;>intro hc<;>try contradiction|refine gG ?_|show AK _;intro J Z|refine gJ ?_|omega|exact aT
   rw [zr8 c L (by omega),<-hD']
   exact .inl (.mk0 (h2:=by simp only [qS,seval,keepG.eq_1,keepG.eq_2,gLV.eq_2]<;>simp [hN]))
def Wd (c:Mov->Mov->Int) (w:Nat) (R:List Mov):List Mov:=if h:R.length<=w\/w=0 then zai c R else zai c (R.take w)++Wd c w (R.drop w)
termination_by R.length
decreasing_by simp only [xaF];omega
def zbB {w:Nat} {R:List Mov} (h:R.length<=w):Wd c w R=zai c R:=by rw [Wd,dif_pos (.inl h)]
def zd3 {w:Nat} {R:List Mov} (hw:0 < w) (h:w<=R.length):Wd c w R=zai c (R.take w)++Wd c w (R.drop w):=by
 by_cases e:R.length=w
 ·rw [zbB (by omega),xag (by omega),xbj (by omega),zbB (by simp)]
  show _=_++[];rw [xat]
 ·rw [Wd,dif_neg (by omega)]
def zgn {w:Nat} (hw:0 < w) (R:List Mov):(Wd c w R).length=R.length:=by
 generalize hn:R.length=n
 induction n using Nat.strongRecOn generalizing R with
 | _ n ih=>
  by_cases h:R.length<=w
  ·rw [zbB h,zab,hn]
  ·rw [zd3 hw (by omega),xae,zab,ih (R.drop w).length (by rw [xaF];omega) _ rfl,xai,xaF];omega
def zj4 (hs:SW (bfC c)) (R:List Mov) (w:Nat):mrg (bfC c) (zai c (R.take w)) (zai c (R.drop w))=zai c R:=by
 rw [zaF hs,zaF hs,zaF hs,<-zop hs,xaw]
end
end Go.Proofs.YtijgimeokgbifaaGreat
