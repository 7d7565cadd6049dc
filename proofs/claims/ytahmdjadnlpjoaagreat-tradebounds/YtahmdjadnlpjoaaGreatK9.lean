/- Contracts of functions that the proof uses, shared by the claims of this seat; no statement of its own. Part 14. No conditions. -/
import Derived.Test.YtahmdjadnlpjoaaGreatK7
set_option linter.all false
set_option maxHeartbeats 8000000
namespace Go.Proofs.YtahmdjadnlpjoaaGreat
open Go.RowKit
set_option maxRecDepth 100000
set_option linter.unusedVariables false
set_option linter.unusedSimpArgs false
set_option maxHeartbeats 2000000
def limErr (l:List Lim) (i:Nat) (x:Lim):Int:=zg [zaS x,if 0≤atL x.name ((l.take i).map Lim.name) then 9 else 0]
def limErrs (l:List Lim):List Int:=l.mapIdx (limErr l)
def z3 (l:List Lim):Int:=if 32 < l.length then 5 else zg (limErrs l)
def movErr (l:List Mov) (i:Nat) (x:Mov):Int:=zg [chkMov x,if 0 < (i:Int)∧x.moment < ((l[i - 1]?).getD x).moment then 11 else 0]
def movErrs (l:List Mov):List Int:=l.mapIdx (movErr l)
def zad (l:List Mov):Int:=if 30000 < l.length then 5 else zg (movErrs l)
theorem zI {α β:Type} {f:Nat→α→β} {l:List α} {i:Nat} {x:α} (h:l[i]?=some x):(l.mapIdx f)[i]?=some (f i x):=by simp [List.getElem?_mapIdx,h]
theorem take_map {α β:Type} (f:α→β) (l:List α) (i:Nat):(l.map f).take i=(l.take i).map f:=by rw [List.map_take]
theorem pure22 (l:List Lim):Pure Tryz.prog 114 [.sl 11 (l.map Lim.pv)] (.i .i64 (z3 l)):=by
 refine zf (cF Tryz.func114 Tryz.f114.eq_1) (by simp) fun hw X hX=>?_
 simp only [wfs,PV.wf,List.length_map,maxLen] at hw
 repeat' first|refine gC (fun hc=>?_) (fun hc=>?_)<;>try contradiction|refine gG ?_|show AK _;intro K H|refine H _ _ ?_;clear H K|refine gJ ?_;try exact trivial|omega
 ·rw [z3,if_pos (by omega)];exact .refl _
 refine zk (κ:=Nat) (fun i=>⟨[(0,.p (.sl 11 (l.map Lim.pv))),(9,.p (.sl 11 (l.map Lim.pv))),(10,.p (.i .i64 l.length)),(11,.p (.i .i64 i))],[],[],false⟩) (fun i=>i≤l.length∧∀ x ∈ (limErrs l).take i,x=0) (fun i=>l.length - i) 0 ?_ ?_ ?_
 ·exact sR
 ·simp
 ·intro i hi
  repeat first|refine gG ?_|show AK _;intro K H|refine H _ _ ?_;clear H K|refine gJ ?_;try exact trivial|omega
  (refine gC (fun hc=>?_) (fun hc=>?_)<;>try contradiction)
  ·obtain ⟨x,hx⟩:=zn (i:=i) (l:=l) (by omega)
   have qe:=aI qR (aI @hx @take_map);repeat' first|refine gC (fun hc=>?_) (fun hc=>?_)<;>try contradiction|refine za (pure84 x) ?_|refine za (pure86 (l.take i) x.name) ?_|refine za (zbQ _ _) ?_|refine za (zbx [_,_]) ?_|refine gG ?_|show AK _;intro K H|refine H _ _ ?_;clear H K|refine gJ ?_;try exact trivial|omega
   ·have he:z3 l=limErr l i x:=by unfold z3;rw [if_neg (by omega)];exact zV hi.2 (zI hx) hc
    rw [he];exact .refl _
   ·exact ⟨i+1,⟨by omega,zaC hi.2 (zI hx) hc⟩,by omega,by simp⟩
  ·repeat' first|refine gC (fun hc=>?_) (fun hc=>?_)<;>try contradiction|refine gG ?_|show AK _;intro K H|refine H _ _ ?_;clear H K|refine gJ ?_;try exact trivial|omega
   have e:i=(limErrs l).length:=by simp [limErrs];omega
   subst e
   rw [z3,if_neg (by omega),z4 hi.2];exact .refl _
theorem pure24 (l:List Mov):Pure Tryz.prog 134 [.sl 7 (l.map Mov.pv)] (.i .i64 (zad l)):=by
 refine zf (cF Tryz.func134 Tryz.f134.eq_1) (by simp) fun hw X hX=>?_
 simp only [wfs,PV.wf,List.length_map,maxLen] at hw
 repeat' first|refine gC (fun hc=>?_) (fun hc=>?_)<;>try contradiction|refine gG ?_|show AK _;intro K H|refine H _ _ ?_;clear H K|refine gJ ?_;try exact trivial|omega
 ·rw [zad,if_pos (by omega)];exact .refl _
 refine zk (κ:=Nat) (fun i=>⟨[(0,.p (.sl 7 (l.map Mov.pv))),(9,.p (.sl 7 (l.map Mov.pv))),(10,.p (.i .i64 l.length)),(11,.p (.i .i64 i))],[],[],false⟩) (fun i=>i≤l.length∧∀ x ∈ (movErrs l).take i,x=0) (fun i=>l.length - i) 0 ?_ ?_ ?_
 ·exact sR
 ·simp
 ·intro i hi
  repeat first|refine gG ?_|show AK _;intro K H|refine H _ _ ?_;clear H K|refine gJ ?_;try exact trivial|omega
  (refine gC (fun hc=>?_) (fun hc=>?_)<;>try contradiction)
  ·obtain ⟨x,hx⟩:=zn (i:=i) (l:=l) (by omega)
   obtain ⟨y,hy⟩:=zn (i:=i - 1) (l:=l) (by omega)
   have e:(max 0 ((i:Int) - 1)).toNat=i - 1:=by omega
   have he:movErr l i x=zg [chkMov x,if 0 < (i:Int)∧x.moment < y.moment then 11 else 0]:=by rw [movErr,hy];rfl
   have qe:=aI qR (aI @hx (aI @hy @e));repeat' first|refine gC (fun hc=>?_) (fun hc=>?_)<;>try contradiction|refine za (pure87 x) ?_|refine za (zbQ _ _) ?_|refine za (zbx [_,_]) ?_|refine gG ?_|show AK _;intro K H|refine H _ _ ?_;clear H K|refine gJ ?_;try exact trivial|omega
   ·rw [←he] at hc
    have hf:zad l=movErr l i x:=by unfold zad;rw [if_neg (by omega)];exact zV hi.2 (zI hx) hc
    rw [hf,he];simp only [Bool.and_eq_true,decide_eq_true_eq];exact .refl _
   ·rw [←he] at hc
    exact ⟨i+1,⟨by omega,zaC hi.2 (zI hx) hc⟩,by omega,by simp⟩
  ·repeat' first|refine gC (fun hc=>?_) (fun hc=>?_)<;>try contradiction|refine gG ?_|show AK _;intro K H|refine H _ _ ?_;clear H K|refine gJ ?_;try exact trivial|omega
   have e:i=(movErrs l).length:=by simp [movErrs];omega
   subst e
   rw [zad,if_neg (by omega),z4 hi.2];exact .refl _
theorem pure97 (l:List Lim) (m:List Mov):Pure Tryz.prog 129 [.sl 11 (l.map Lim.pv),.sl 7 (m.map Mov.pv)] (.i .i64 (zg [z3 l,zad m])):=by
 refine zf (cF Tryz.func129 Tryz.f129.eq_1) (by simp) fun hw X hX=>?_
 have qe:=@qR;repeat' first|refine gC (fun hc=>?_) (fun hc=>?_)<;>try contradiction|refine za (pure22 l) ?_|refine za (pure24 m) ?_|refine za (zbx [_,_]) ?_|refine gG ?_|show AK _;intro K H|refine H _ _ ?_;clear H K|refine gJ ?_;try exact trivial|omega
 exact .refl _
set_option maxRecDepth 100000
set_option linter.unusedVariables false
set_option linter.unusedSimpArgs false
set_option maxHeartbeats 2000000
theorem chkLim_0 {l:Lim} (h:zaS l=0):1≤l.len∧l.len≤1440∧1≤l.step∧l.step≤1440∧0≤l.fro∧l.fro≤l.to∧l.to≤1439∧zau l.per=0∧0≤l.most∧l.most≤999999999:=by
 unfold zaS at h
 simp only [zq,rng_0,ite_eq0 (show (11:Int)≠0 by decide)] at h
 omega
theorem pure89 (l:Lim) (d:Int):Pure Tryz.prog 214 [l.pv,.i .i64 d] (.b (hasB l.per d)):=by
 refine zf (cF Tryz.func214 Tryz.f214.eq_1) (by simp) fun hw X hX=>?_
 repeat' first|refine gC (fun hc=>?_) (fun hc=>?_)<;>try contradiction|refine za (pure132 l.per d) ?_|refine gG ?_|show AK _;intro K H|refine H _ _ ?_;clear H K|refine gJ ?_;try exact trivial|omega
 have:(decide (hasE l.per d=0) && hasB l.per d)=hasB l.per d:=by simp only [hasB];cases decide (hasE l.per d=0)<;>rfl
 rw [this];exact .refl _
def Lim.from_ (l:Lim):Int:=(l.fro+l.step - 1) / l.step
def begN (l:Lim):Nat:=(max 0 (l.to / l.step - l.from_+1)).toNat
def begOk (l:Lim) (d:Int):Bool:=!(decide (d < l.per.fro) || decide (l.per.to < d) || !hasB l.per d)
def begV (l:Lim) (d:Int) (n:Nat):Int:=1440*d+l.step*(l.from_+n)
def begK (l:Lim) (d:Int) (k:Nat):List Int:=(List.range k).map (begV l d)
def zM (l:Lim) (d:Int):List Int:=if begOk l d then begK l d (begN l) else []
abbrev tup1 (d:Int):List PV:=[.i .i64 d]
theorem mrange_next {α:Type} (f:Nat→α) (k:Nat):(List.range (k+1)).map f=(List.range k).map f++[f k]:=by
 rw [List.range_succ];simp
theorem mrange_split {α:Type} (f:Nat→α) {k n:Nat} (h:k < n):(List.range n).map f=(List.range k).map f++f k::(List.range' (k+1) (n - (k+1))).map f:=by
 have:=zbm (fun k=>[f k]) h
 simpa [List.flatMap_singleton',←List.map_eq_flatMap] using this
theorem beg_bound {l:Lim} (h:zaS l=0) {n:Nat} (hn:n < begN l):0≤l.from_∧l.from_≤1440∧0≤l.step*(l.from_+n)∧l.step*(l.from_+n)≤l.to∧l.fro≤l.step*(l.from_+n):=by
 have hl:=chkLim_0 h
 have h1:0≤l.from_:=Int.ediv_nonneg (by omega) (by omega)
 have h2:l.from_≤l.fro+l.step - 1:=Int.ediv_le_self _ (by omega)
 have h3:(l.from_+n)≤l.to / l.step:=by unfold begN at hn;omega
 have h4:l.step*(l.from_+n)≤l.step*(l.to / l.step):=Int.mul_le_mul_of_nonneg_left h3 (by omega)
 have h5:l.step*(l.to / l.step)≤l.to:=Int.mul_ediv_self_le (by omega)
 have h6:l.fro+l.step - 1 < l.step*l.from_+l.step:=Int.lt_mul_ediv_self_add (by omega)
 have h7:l.step*l.from_≤l.step*(l.from_+n):=Int.mul_le_mul_of_nonneg_left (by omega) (by omega)
 have h8:0≤l.step*(l.from_+n):=Int.mul_nonneg (by omega) (by omega)
 have h9:l.from_≤1440:=by
  have:l.from_≤l.to / l.step:=by omega
  have:l.to / l.step≤l.to:=Int.ediv_le_self _ (by omega)
  omega
 omega
theorem iter134 (l:Lim) (d:Int) (h:zaS l=0):Iter Tryz.prog 213 [.ip (.i .i64 d) 0,.ip l.pv 0] ((zM l d).map tup1):=by
 have hl:=chkLim_0 h
 have hp:=zaX hl.2.2.2.2.2.2.2.1
 refine iter_by (cF Tryz.func213 Tryz.f213.eq_1) (by simp) fun hw X hX=>?_
 simp only [zbp]
 repeat' first|refine gC (fun hc=>?_) (fun hc=>?_)<;>try contradiction|refine zN (fun _=>pure89 l d) ?_|refine gG ?_|show AK _;intro K H|refine H _ _ ?_;clear H K|refine gJ ?_;try exact trivial|omega
 ·refine .inr ?_
  have:begOk l d=false:=by simp only [begOk,Bool.not_eq_false',Bool.or_eq_true,decide_eq_true_eq,Bool.not_eq_true'];exact hc
  simp [zM,this]
 have hbo:begOk l d=true:=by simp only [begOk,Bool.not_eq_true',Bool.or_eq_false_iff,decide_eq_false_iff_not,Bool.not_eq_false'];exact ⟨⟨by omega,by omega⟩,hc.2⟩
 have hq1:(l.fro+l.step - 1).tdiv l.step=l.from_:=Int.tdiv_eq_ediv_of_nonneg (by omega)
 have hq2:l.to.tdiv l.step=l.to / l.step:=Int.tdiv_eq_ediv_of_nonneg (by omega)
 have hb1:0≤l.from_:=Int.ediv_nonneg (by omega) (by omega)
 have hb2:l.from_≤l.fro+l.step - 1:=Int.ediv_le_self _ (by omega)
 have hb3:0≤l.to / l.step:=Int.ediv_nonneg (by omega) (by omega)
 have hb4:l.to / l.step≤l.to:=Int.ediv_le_self _ (by omega)
 have hN:max 0 (l.to / l.step - l.from_+1)=(begN l:Int):=by unfold begN;omega
 rw [zM,if_pos hbo]
 simp (disch:=omega) only [hq1,hq2,hN,qS,Nat.reduceAdd,Nat.reduceMul,Nat.reduceEqDiff,Nat.reduceLeDiff,reduceIte,reduceCtorEq,Nat.reduceBEq,Nat.reduceLT]
 refine zk (κ:=Nat) (fun k=>⟨[(0,.yield),(1,.p (.ip (.i .i64 d) 0)),(2,.p (.ip l.pv 0)),(4,.p (.i .i64 l.from_)),(41,.p (.i .i64 (begN l))),(42,.p (.i .i64 k))],[],(begK l d k).map tup1,false⟩) (fun k=>k≤begN l) (fun k=>begN l - k) 0 ?_ ?_ ?_
 ·refine gJ ?_;simp [begK]
 ·simp
 ·intro k hk
  repeat' first|refine gC (fun hc=>?_) (fun hc=>?_)<;>try contradiction|refine gG ?_|show AK _;intro K H|refine H _ _ ?_;clear H K|refine gJ ?_;try exact trivial|omega
  ·have hb:=beg_bound h (n:=k) (by omega)
   have hs:=mrange_split (begV l d) (show k < begN l by omega)
   have hs':(begK l d (begN l)).map tup1=(begK l d k).map tup1++tup1 (begV l d k)::((List.range' (k+1) (begN l - (k+1))).map (begV l d)).map tup1:=by simp only [begK,hs,List.map_append,List.map_cons]
   repeat' first|refine gC (fun hc=>?_) (fun hc=>?_)<;>try contradiction|(show zj _ _ _ _ (⟨_,.callv,_,_,_⟩::_) _ _;refine run_yld (by first|rfl|(simp (disch:=omega) only [qG,Nat.reduceAdd,Nat.reduceMul,Nat.reduceEqDiff,Nat.reduceLeDiff,reduceIte,reduceCtorEq,Nat.reduceBEq,Nat.reduceLT]<;>rfl)) (by simp (disch:=omega) only [qS,Nat.reduceAdd,Nat.reduceMul,Nat.reduceEqDiff,Nat.reduceLeDiff,reduceIte,reduceCtorEq,Nat.reduceBEq,Nat.reduceLT]) (by simp (disch:=omega) only [qS,Nat.reduceAdd,Nat.reduceMul,Nat.reduceEqDiff,Nat.reduceLeDiff,reduceIte,reduceCtorEq,Nat.reduceBEq,Nat.reduceLT]<;>rfl) (by simp (disch:=omega) only [qS,Nat.reduceAdd,Nat.reduceMul,Nat.reduceEqDiff,Nat.reduceLeDiff,reduceIte,reduceCtorEq,Nat.reduceBEq,Nat.reduceLT];try trivial) rfl _ (hs') ?_;intro b;(refine zE ?_))|refine gG ?_|show AK _;intro K H|refine H _ _ ?_;clear H K|refine gJ ?_;try exact trivial|omega
   ·subst hc;exact .inl rfl
   ·subst hc;exact ⟨k+1,by omega,by omega,by simp,by simp [begK,mrange_next],rfl⟩
  ·repeat' first|refine gC (fun hc=>?_) (fun hc=>?_)<;>try contradiction|refine gG ?_|show AK _;intro K H|refine H _ _ ?_;clear H K|refine gJ ?_;try exact trivial|omega
   have e:k=begN l:=by omega
   subst e;exact .inr rfl
theorem pure91 (l:Lim) (d:Int):Pure Tryz.prog 136 [l.pv,.i .i64 d] (.fn (.func 213) [] [.ip (.i .i64 d) 0,.ip l.pv 0]):=by
 refine zf (cF Tryz.func136 Tryz.f136.eq_1) (by simp) fun hw X hX=>?_
 repeat' first|refine gC (fun hc=>?_) (fun hc=>?_)<;>try contradiction|refine gG ?_|show AK _;intro K H|refine H _ _ ?_;clear H K|refine gJ ?_;try exact trivial|omega
 exact .refl _
theorem take_split {α:Type} {l:List α} {j:Nat} {x:α} (h:l[j]?=some x):l=l.take j++x::l.drop (j+1):=by
 obtain ⟨hj,rfl⟩:=List.getElem?_eq_some_iff.1 h
 rw [←List.drop_eq_getElem_cons hj,List.take_append_drop]
set_option maxRecDepth 100000
set_option linter.unusedVariables false
set_option linter.unusedSimpArgs false
set_option maxHeartbeats 2000000
def zac (l:Lim) (k t:ByteArray):Bool:=(decide (l.kind=sT) || decide (l.kind=k)) && (decide (l.term=s0) || decide (l.term=t))
theorem kind_0 {l:Lim} (h:zaS l=0):l.kind=sA∨l.kind=sD∨l.kind=sT:=by
 unfold zaS at h
 simp only [zq] at h
 have:=h.2.1
 unfold kindE at this
 by_cases hA:l.kind=sA
 ·exact .inl hA
 by_cases hD:l.kind=sD
 ·exact .inr (.inl hD)
 by_cases hT:l.kind=sT
 ·exact .inr (.inr hT)
 rw [if_pos ⟨hA,hD,hT⟩] at this;exact absurd this (by decide)
theorem pure135 (l:Lim) (k t:ByteArray) (h:zaS l=0):Pure Tryz.prog 211 [l.pv,.s k,.s t] (.b (zac l k t)):=by
 refine zf (cF Tryz.func211 Tryz.f211.eq_1) (by simp) fun hw X hX=>?_
 rcases kind_0 h with hk|hk|hk
 ·have hA':(l.kind=sA)=True:=eq_true hk
  have qe:=aI qR @hA';repeat' first|refine gC (fun hc=>?_) (fun hc=>?_)<;>try contradiction|refine za (pure129) ?_|refine zr (pure154 k sA) ?_|refine gG ?_|show AK _;intro K H|refine H _ _ ?_;clear H K|refine gJ ?_;try exact trivial|omega
  rw [zac,hk,show (decide (sA=sT) || decide (sA=k))=decide (k=sA) by rw [show decide (sA=sT)=false by decide,Bool.false_or];exact decide_eq_decide.2 eq_comm];exact .refl _
 ·have hA':(l.kind=sA)=False:=eq_false (by rw [hk];decide)
  have hD':(l.kind=sD)=True:=eq_true hk
  have qe:=aI qR (aI @hA' @hD');repeat' first|refine gC (fun hc=>?_) (fun hc=>?_)<;>try contradiction|refine za (pure129) ?_|refine zr (pure154 k sD) ?_|refine gG ?_|show AK _;intro K H|refine H _ _ ?_;clear H K|refine gJ ?_;try exact trivial|omega
  rw [zac,hk,show (decide (sD=sT) || decide (sD=k))=decide (k=sD) by rw [show decide (sD=sT)=false by decide,Bool.false_or];exact decide_eq_decide.2 eq_comm];exact .refl _
 ·have hA':(l.kind=sA)=False:=eq_false (by rw [hk];decide)
  have hD':(l.kind=sD)=False:=eq_false (by rw [hk];decide)
  have hT':(l.kind=sT)=True:=eq_true hk
  have qe:=aI qR (aI @hA' (aI @hD' @hT'));repeat' first|refine gC (fun hc=>?_) (fun hc=>?_)<;>try contradiction|refine za (pure129) ?_|refine zr (pure155 k) ?_|refine gG ?_|show AK _;intro K H|refine H _ _ ?_;clear H K|refine gJ ?_;try exact trivial|omega
  rw [zac,hk,show (decide (sT=sT) || decide (sT=k))=true by rw [decide_eq_true rfl,Bool.true_or],Bool.true_and];exact .refl _
end Go.Proofs.YtahmdjadnlpjoaaGreat
