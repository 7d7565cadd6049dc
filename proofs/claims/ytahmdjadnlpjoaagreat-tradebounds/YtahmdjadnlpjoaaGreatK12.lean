/- Contracts of functions that the proof uses, shared by the claims of this seat; no statement of its own. Part 24. No conditions. -/
import Derived.Test.YtahmdjadnlpjoaaGreatK11
set_option linter.all false
set_option maxHeartbeats 8000000
namespace Go.Proofs.YtahmdjadnlpjoaaGreat
open Go.RowKit
set_option maxRecDepth 100000
set_option linter.unusedVariables false
set_option linter.unusedSimpArgs false
set_option maxHeartbeats 4000000
def arB (m:List Mov) (o:Mov) (i:Nat) (l:Lim) (b:Int):List Win:=if b≤o.moment∧o.moment < b+l.len then [⟨i,b,zbs l m b⟩] else []
def arD (m:List Mov) (o:Mov) (i:Nat) (l:Lim) (d:Int):List Win:=(zM l d).flatMap (arB m o i l)
def arX (m:List Mov) (o:Mov) (i:Nat) (l:Lim) (e:Nat):List Win:=arD m o i l (o.moment / 1440 - 1+e)
def arL (m:List Mov) (o:Mov) (i:Nat) (l:Lim):List Win:=if zac l o.kind o.term then (List.range 2).flatMap (arX m o i l) else []
def arI (ls:List Lim) (m:List Mov) (o:Mov) (i:Nat):List Win:=match ls[i]? with|some l=>arL m o i l|none=>[]
def arK (ls:List Lim) (m:List Mov) (o:Mov) (k:Nat):List Win:=(List.range k).flatMap (arI ls m o)
def arW (ls:List Lim) (m:List Mov) (o:Mov):List Win:=arK ls m o ls.length
theorem iter139 (ls:List Lim) (m:List Mov) (o:Mov) (hn:ls.length≤1000000) (h:∀ l ∈ ls,zaS l=0) (hm:zad m=0) (ho:chkMov o=0):Iter Tryz.prog 255 [.ip (.sl 11 (ls.map Lim.pv)) 0,.ip o.pv 0,.ip (.sl 7 (m.map Mov.pv)) 0] ((arW ls m o).map tupW):=by
 have hmo:0≤o.moment∧o.moment≤143999999:=by
  unfold chkMov at ho
  simp only [zq,rng_0] at ho
  exact ho.1
 have hq:o.moment.tdiv 1440=o.moment / 1440:=Int.tdiv_eq_ediv_of_nonneg (by omega)
 refine iter_by (cF Tryz.func255 Tryz.f255.eq_1) (by simp) fun hw X hX=>?_
 have hmm:=zaR hm
 simp only [zbp]
 repeat' first|refine gC (fun hc=>?_) (fun hc=>?_)<;>try contradiction|refine gG ?_|show AK _;intro K H|refine H _ _ ?_;clear H K|refine gJ ?_;try exact trivial|omega
 refine zk (κ:=Nat) (fun k=>⟨[(1,.p (.ip (.sl 11 (ls.map Lim.pv)) 0)),(2,.p (.ip o.pv 0)),(3,.p (.ip (.sl 7 (m.map Mov.pv)) 0)),(4,.lp 4 0),(11,.p (.sl 11 (ls.map Lim.pv))),(12,.p (.i .i64 ls.length)),(13,.p (.i .i64 k))],[(4,.box [.yield] false)],(arK ls m o k).map tupW,false⟩) (fun k=>k≤ls.length) (fun k=>ls.length - k) 0 ?_ ?_ ?_
 ·refine gJ ?_;simp [arK]
 ·simp
 ·intro k hk
  repeat first|refine gG ?_|show AK _;intro K H|refine H _ _ ?_;clear H K|refine gJ ?_;try exact trivial|omega
  (refine gC (fun hc=>?_) (fun hc=>?_)<;>try contradiction)
  ·obtain ⟨l,hx⟩:=zn (i:=k) (l:=ls) (by omega)
   have h1:=h l (List.mem_of_getElem? hx)
   have hi:arI ls m o k=arL m o k l:=by rw [arI,hx]
   have hs:=zbm (arI ls m o) (show k < ls.length by omega)
   have qe:=aI qR (aI @hx @hq);repeat' first|refine gC (fun hc=>?_) (fun hc=>?_)<;>try contradiction|refine za (pure135 l o.kind o.term h1) ?_|refine za (pure92 l m h1 (by omega)) ?_|refine za (pure91 l _) ?_|refine gG ?_|show AK _;intro K H|refine H _ _ ?_;clear H K|refine gJ ?_;try exact trivial|omega
   ·have ha:arL m o k l=[]:=by rw [arL,hc];rfl
    refine ⟨k+1,by omega,by omega,by simp,?_⟩
    rw [arK,zab,hi,ha,List.append_nil,←arK]
   ·have ha:arL m o k l=(List.range 2).flatMap (arX m o k l):=by rw [arL,hc];rfl
    refine zk (κ:=Nat) (fun e=>⟨[(1,.p (.ip (.sl 11 (ls.map Lim.pv)) 0)),(2,.p (.ip o.pv 0)),(3,.p (.ip (.sl 7 (m.map Mov.pv)) 0)),(4,.lp 4 0),(5,.lp 5 0),(6,.lp 6 0),(7,.lp 7 0),(11,.p (.sl 11 (ls.map Lim.pv))),(12,.p (.i .i64 ls.length)),(13,.p (.i .i64 k)),(35,.p (.agg [.i .i64 (o.moment / 1440 - 1),.i .i64 (o.moment / 1440)])),(36,.p (.i .i64 e))],[(4,.box [.yield] false),(5,.box [.p (.i .i64 k)] false),(6,.box (l.cells.map .p) false),(7,.box [.p (.sl 1 ((ofL l m).map (.i .i64)))] false)],(arK ls m o k).map tupW++((List.range e).flatMap (arX m o k l)).map tupW,false⟩) (fun e=>e≤2) (fun e=>2 - e) 0 ?_ ?_ ?_
    ·exact sS
    ·simp
    ·intro e he
     repeat first|refine gG ?_|show AK _;intro K H|refine H _ _ ?_;clear H K|refine gJ ?_;try exact trivial|omega
     (refine gC (fun hc=>?_) (fun hc=>?_)<;>try contradiction)
     ·have hid:([.i .i64 (o.moment / 1440 - 1),.i .i64 (o.moment / 1440)]:List PV)[e]?=some (.i .i64 (o.moment / 1440 - 1+e)):=by
       rcases (show e=0∨e=1 by omega) with rfl|rfl<;>simp
      have hse:=zbm (arX m o k l) (show e < 2 by omega)
      have qe:=aI qR (aI @hid @Nat.mul_one);repeat' first|refine gC (fun hc=>?_) (fun hc=>?_)<;>try contradiction|refine za (pure91 l (o.moment / 1440 - 1+e)) ?_|refine gG ?_|show AK _;intro K H|refine H _ _ ?_;clear H K|refine gJ ?_;try exact trivial|omega
      refine run_rfunc rfl (iter134 l (o.moment / 1440 - 1+e) h1) ?_ ?_ [(1,.p (.ip (.sl 11 (ls.map Lim.pv)) 0)),(2,.p (.ip o.pv 0)),(3,.p (.ip (.sl 7 (m.map Mov.pv)) 0)),(4,.lp 4 0),(5,.lp 5 0),(6,.lp 6 0),(7,.lp 7 0),(11,.p (.sl 11 (ls.map Lim.pv))),(12,.p (.i .i64 ls.length)),(13,.p (.i .i64 k)),(35,.p (.agg [.i .i64 (o.moment / 1440 - 1),.i .i64 (o.moment / 1440)])),(36,.p (.i .i64 e))] (fun _=>[(4,.box [.yield] false),(5,.box [.p (.i .i64 k)] false),(6,.box (l.cells.map .p) false),(7,.box [.p (.sl 1 ((ofL l m).map (.i .i64)))] false)]) (fun j=>((arK ls m o k).map tupW++((List.range e).flatMap (arX m o k l)).map tupW)++(((zM l (o.moment / 1440 - 1+e)).take j).flatMap (arB m o k l)).map tupW) ?_ ?_ ?_
      ·simp
      ·simp [hX]
      ·exact sS
      ·intro j t ht X' ro' hX'
       simp only [List.getElem?_map,Option.map_eq_some_iff] at ht
       obtain ⟨b,hb,rfl⟩:=ht
       have hbm:=beginsL_mem h1 (List.mem_of_getElem? hb)
       have hll:=chkLim_0 h1
       have hpp:=zaX hll.2.2.2.2.2.2.2.1
       have hnx:=flat_take (arB m o k l) hb
       simp only [qS,Nat.reduceAdd,Nat.reduceMul,Nat.reduceEqDiff,Nat.reduceLeDiff,reduceIte,reduceCtorEq,Nat.reduceBEq,Nat.reduceLT]
       repeat' first|refine gC (fun hc=>?_) (fun hc=>?_)<;>try contradiction|refine gG ?_|show AK _;intro K H|refine H _ _ ?_;clear H K|refine gJ ?_;try exact trivial|omega
       intro X1 hX1
       by_cases hin:b≤o.moment∧o.moment < b+l.len
       ·have hb1:=eq_true hin.1
        have hb2:=eq_true hin.2
        have hbb:arB m o k l b=[⟨k,b,zbs l m b⟩]:=by rw [arB,if_pos hin]
        rw [hbb] at hnx
        have hs':(arW ls m o).map tupW=(((arK ls m o k).map tupW++((List.range e).flatMap (arX m o k l)).map tupW)++(((zM l (o.moment / 1440 - 1+e)).take j).flatMap (arB m o k l)).map tupW)++tupW ⟨k,b,zbs l m b⟩::((((zM l (o.moment / 1440 - 1+e)).drop (j+1)).flatMap (arB m o k l)).map tupW++(((List.range' (e+1) (2 - (e+1))).flatMap (arX m o k l)).map tupW++((List.range' (k+1) (ls.length - (k+1))).flatMap (arI ls m o)).map tupW)):=by
         rw [arW,arK,hs,hi,ha,hse,show arX m o k l e=_ from flat_split (arB m o k l) hb,hbb,arK]
         simp
        have qe:=aI qR (aI @hb1 @hb2);repeat' first|refine gC (fun hc=>?_) (fun hc=>?_)<;>try contradiction|(show zj _ _ _ _ (⟨_,.call _,_,_,_⟩::_) _ _;refine zbj (hf:=fun hc=>(by first|exact zbF h1 hm b (by omega) (by omega)|(simp only [qH,rng_0] at hc;exact zbF h1 hm b (by omega) (by omega)))) (hn:=?_))|refine za (zbF h1 hm b (by omega) (by omega)) ?_|(show zj _ _ _ _ (⟨_,.callv,_,_,_⟩::_) _ _;refine run_yld (by first|rfl|(simp (disch:=omega) only [qG,qe,Nat.reduceAdd,Nat.reduceMul,Nat.reduceEqDiff,Nat.reduceLeDiff,reduceIte,reduceCtorEq,Nat.reduceBEq,Nat.reduceLT]<;>rfl)) (by simp (disch:=omega) only [qS,qe,Nat.reduceAdd,Nat.reduceMul,Nat.reduceEqDiff,Nat.reduceLeDiff,reduceIte,reduceCtorEq,Nat.reduceBEq,Nat.reduceLT]) (by simp (disch:=omega) only [qS,qe,Nat.reduceAdd,Nat.reduceMul,Nat.reduceEqDiff,Nat.reduceLeDiff,reduceIte,reduceCtorEq,Nat.reduceBEq,Nat.reduceLT]<;>rfl) (by simp (disch:=omega) only [qS,qe,Nat.reduceAdd,Nat.reduceMul,Nat.reduceEqDiff,Nat.reduceLeDiff,reduceIte,reduceCtorEq,Nat.reduceBEq,Nat.reduceLT];try trivial) rfl _ (hs') ?_;intro b;(refine zE ?_))|refine gG ?_|show AK _;intro K H|refine H _ _ ?_;clear H K|refine gJ ?_;try exact trivial|omega
        ·subst hc;exact .inl rfl
        ·subst hc;rw [hnx];exact ⟨by simp,rfl⟩
       ·have hbb:arB m o k l b=[]:=by rw [arB,if_neg hin]
        rw [hbb] at hnx
        by_cases h3:b≤o.moment
        ·have hb1:=eq_true h3
         have hb2:=eq_false (show ¬o.moment < b+l.len by omega)
         have qe:=aI qR (aI @hb1 @hb2);repeat' first|refine gC (fun hc=>?_) (fun hc=>?_)<;>try contradiction|(show zj _ _ _ _ (⟨_,.call _,_,_,_⟩::_) _ _;refine zbj (hf:=fun hc=>(by first|exact zbF h1 hm b (by omega) (by omega)|(simp only [qH,rng_0] at hc;exact zbF h1 hm b (by omega) (by omega)))) (hn:=?_))|(show zj _ _ _ _ (⟨_,.callv,_,_,_⟩::_) _ _;refine zbi (q:=(.b false)) (by first|rfl|(simp (disch:=omega) only [qG,qe,Nat.reduceAdd,Nat.reduceMul,Nat.reduceEqDiff,Nat.reduceLeDiff,reduceIte,reduceCtorEq,Nat.reduceBEq,Nat.reduceLT]<;>rfl)) ?_;(try (refine zE ?_)))|refine gG ?_|show AK _;intro K H|refine H _ _ ?_;clear H K|refine gJ ?_;try exact trivial|omega
         rw [hnx];simp
        ·have hb1:=eq_false h3
         have qe:=aI qR @hb1;repeat' first|refine gC (fun hc=>?_) (fun hc=>?_)<;>try contradiction|(show zj _ _ _ _ (⟨_,.call _,_,_,_⟩::_) _ _;refine zbj (hf:=fun hc=>(by first|exact zbF h1 hm b (by omega) (by omega)|(simp only [qH,rng_0] at hc;exact zbF h1 hm b (by omega) (by omega)))) (hn:=?_))|(show zj _ _ _ _ (⟨_,.callv,_,_,_⟩::_) _ _;refine zbi (q:=(.b false)) (by first|rfl|(simp (disch:=omega) only [qG,qe,Nat.reduceAdd,Nat.reduceMul,Nat.reduceEqDiff,Nat.reduceLeDiff,reduceIte,reduceCtorEq,Nat.reduceBEq,Nat.reduceLT]<;>rfl)) ?_;(try (refine zE ?_)))|refine gG ?_|show AK _;intro K H|refine H _ _ ?_;clear H K|refine gJ ?_;try exact trivial|omega
         rw [hnx];simp
      ·have qe:=@List.take_length.{0};repeat' first|refine gC (fun hc=>?_) (fun hc=>?_)<;>try contradiction|refine gG ?_|show AK _;intro K H|refine H _ _ ?_;clear H K|refine gJ ?_;try exact trivial|omega
       refine ⟨e+1,by omega,by omega,by simp,?_⟩
       rw [zab,List.map_append,List.append_assoc];rfl
     ·repeat' first|refine gC (fun hc=>?_) (fun hc=>?_)<;>try contradiction|refine gG ?_|show AK _;intro K H|refine H _ _ ?_;clear H K|refine gJ ?_;try exact trivial|omega
      have ee:e=2:=by omega
      subst ee
      refine ⟨k+1,by omega,by omega,by simp,?_⟩
      rw [arK,zab,hi,ha,←arK,List.map_append]
  ·repeat' first|refine gC (fun hc=>?_) (fun hc=>?_)<;>try contradiction|refine gG ?_|show AK _;intro K H|refine H _ _ ?_;clear H K|refine gJ ?_;try exact trivial|omega
   have e:k=ls.length:=by omega
   subst e;exact .inr rfl
end Go.Proofs.YtahmdjadnlpjoaaGreat
