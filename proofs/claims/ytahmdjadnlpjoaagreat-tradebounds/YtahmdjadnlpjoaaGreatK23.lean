/- Contracts of functions that the proof uses, shared by the claims of this seat; no statement of its own. Part 46. No conditions. -/
import Derived.Test.YtahmdjadnlpjoaaGreatK18
import Derived.Test.YtahmdjadnlpjoaaGreatK19
import Derived.Test.YtahmdjadnlpjoaaGreatK16
set_option linter.all false
set_option maxHeartbeats 8000000
namespace Go.Proofs.YtahmdjadnlpjoaaGreat
open Go.RowKit
set_option maxRecDepth 100000
set_option linter.unusedVariables false
set_option linter.unusedSimpArgs false
set_option maxHeartbeats 8000000
section
variable {f:Nat} {c:Mov→Mov→Int}
theorem zaG (hs:SW (bfC c)) (L:List Mov):zag c L=isort (bfC c) L:=foldM_isort hs L
theorem acts158r (hf:∀ a b:Mov,Pure Tryz.prog f [a.pv,b.pv] (.i .i64 (c a b))) {D D':List Mov} {N:Nat} (P L S:List Mov) (hN:D.length=N) (hD:D=P++(L++S)) (hD':D'=P++(zag c L++S)) (a b:Int) (ha:a=(P.length:Nat)) (hb:b=(P.length+L.length:Nat)) (hn:N≤1000000) :
  Acts Tryz.prog 308 [.row 900 N,.p (.i .i64 a),.p (.i .i64 b),.p (.fn (.func f) [] [])] [(900,.row 180 7 (D.map Mov.pv) false)] (.p (.tup [])) [(900,.row 180 7 (D'.map Mov.pv) false)]:=by
 subst ha hb
 have hlen:N=P.length+(L.length+S.length):=by rw [←hN,hD];simp only [List.length_append]
 have hlen':D'.length=N:=by rw [hD',hlen];simp only [List.length_append,zaa]
 have hq:∀ {X:List Mov},X.length=L.length→(P++(X++S)).length=N:=fun {X} h=>by simp only [List.length_append,h];omega
 refine zS (cF Tryz.func308 Tryz.f308.eq_1) (by simp) (by simp [scPs,scP,zl,hN]) (by simp [scObj]) ⟨rfl,trivial⟩ (by simp [scObj]) (by simp [FolL,zl,hN,hlen']) fun X hX=>?_
 unfold zD ghO
 have qe:=aI qR @gLV.eq_2;repeat' first|refine gC (fun hc=>?_) (fun hc=>?_)<;>try contradiction|refine gG ?_|show AK _;intro K H|refine H _ _ ?_;clear H K|refine gJ ?_;try exact trivial|omega
 refine zk (κ:=Nat) (fun i=>⟨[(0,.row 900 N),(1,.p (.i .i64 (P.length:Nat))),(2,.p (.i .i64 (P.length+L.length:Nat))),(3,.p (.fn (.func f) [] [])),(8,.p (.i .i64 (P.length+i:Nat))),(1000900,.row 900 N)],[(900,.row 180 7 ((P++(datC c L i++S)).map Mov.pv) false)],[],false⟩) (fun i=>1≤i∧(i≤L.length∨i=1)) (fun i=>L.length - i) 1 ?_ ?_ ?_
 ·simp only [qS,Nat.reduceAdd,Nat.reduceMul,Nat.reduceEqDiff,Nat.reduceLeDiff,reduceIte,reduceCtorEq,Nat.reduceBEq,Nat.reduceLT,gLV.eq_2]<;>simp [datC_1,hD,hlen]
 ·simp
 ·intro i hi
  have hdl:=datC_len (c:=c) hi.2
  have hdN:=hq hdl
  by_cases hlt:i < L.length
  ·obtain ⟨x,hx⟩:=zn (i:=i) (l:=L) hlt
   have hlt':(((P.length+i:Nat):Int) < (P.length+L.length:Nat))=True:=eq_true (by omega)
   have qe:=aI qR (aI @hdN @hlt');repeat' first|refine gC (fun hc=>?_) (fun hc=>?_)<;>try contradiction|refine gG ?_|show AK _;intro K H|refine H _ _ ?_;clear H K|refine gJ ?_;try exact trivial|omega
   have hol:=mgC_len (c:=c) (L:=L) (k:=i) (by omega)
   refine zk (κ:=Nat) (fun j=>⟨[(0,.row 900 N),(1,.p (.i .i64 (P.length:Nat))),(2,.p (.i .i64 (P.length+L.length:Nat))),(3,.p (.fn (.func f) [] [])),(8,.p (.i .i64 (P.length+i:Nat))),(9,.p (.i .i64 (P.length+j:Nat))),(1000900,.row 900 N)],[(900,.row 180 7 ((P++(dj (mgC c L i) x (L.drop (i+1)) j++S)).map Mov.pv) false)],[],false⟩) (fun j=>j≤i∧insAt (bfC c) x (mgC c L i) j=insAt (bfC c) x (mgC c L i) i) (fun j=>j) i ?_ ?_ ?_
   ·refine gJ ?_;simp [dj_start hx,hdN]
    exact Nat.le_of_eq (by rw [←hdN];simp only [List.length_append])
   ·simp
   ·intro j hj
    have hjl:(dj (mgC c L i) x (L.drop (i+1)) j).length=L.length:=by rw [dj_len (by omega),hol,List.length_drop];omega
    have hjN:=hq hjl
    cases j with
    | zero=>
     have i0:(((P.length:Nat):Int) < ((P.length+0:Nat):Int))=False:=eq_false (by omega)
     have qe:=aI qR (aI @i0 (aI @hjN (aI @rtN @rtR)));repeat' first|refine gC (fun hc=>?_) (fun hc=>?_)<;>try contradiction|(show zj _ _ _ _ (⟨_,.callv,_,_,_⟩::_) _ _;refine zbi (q:=(.i .i64 0)) (by first|rfl|(simp (disch:=omega) only [qG,qe,Nat.reduceAdd,Nat.reduceMul,Nat.reduceEqDiff,Nat.reduceLeDiff,reduceIte,reduceCtorEq,Nat.reduceBEq,Nat.reduceLT]<;>rfl)) ?_;(try (refine zE ?_)))|refine gG ?_|show AK _;intro K H|refine H _ _ ?_;clear H K|refine gJ ?_;try exact trivial|omega
     exact ⟨i+1,by omega,by omega,by simp only [LV.p.injEq,PV.i.injEq,true_and];omega,by rw [dj_stop (j:=0) hx hj.2],by rw [datC_len (by omega)];omega⟩
    | succ j=>
     have i0:(((P.length:Nat):Int) < ((P.length+(j+1):Nat):Int))=True:=eq_true (by omega)
     have i1:(((P.length+(j+1):Nat):Int) - 1).toNat=P.length+j:=by omega
     obtain ⟨y,hy⟩:=zn (i:=j) (l:=mgC c L i) (by omega)
     obtain ⟨h1,h2⟩:=dj_at (x:=x) (rest:=L.drop (i+1)) hy
     have g1:=zbo P (dj (mgC c L i) x (L.drop (i+1)) (j+1)) S (j:=j) (by omega)
     have g2:=zbo P (dj (mgC c L i) x (L.drop (i+1)) (j+1)) S (j:=j+1) (by omega)
     rw [h1] at g1
     rw [h2] at g2
     by_cases hcc:c x y < 0
     ·have hc':=eq_true hcc
      have h3:=insC_go hy hcc
      have g3:((P++(dj (mgC c L i) x (L.drop (i+1)) (j+1)++S)).set (P.length+(j+1)) y).set (P.length+j) x=P++(dj (mgC c L i) x (L.drop (i+1)) j++S):=by
       rw [mid_set _ _ _ _ (by omega),mid_set _ _ _ _ (by rw [List.length_set];omega),dj_swap hy]
      have qe:=aI qR (aI @i0 (aI @i1 (aI @g1 (aI @g2 (aI @hjN (aI @hc' (aI @rtN @rtR)))))));repeat' first|refine gC (fun hc=>?_) (fun hc=>?_)<;>try contradiction|refine zr (hf x y) ?_|refine gG ?_|show AK _;intro K H|refine H _ _ ?_;clear H K|refine gJ ?_;try exact trivial|omega
      exact ⟨j,⟨by omega,by rw [←h3];exact hj.2⟩,by omega,by simp only [LV.p.injEq,PV.i.injEq,true_and];omega,by rw [←g3,List.map_set,List.map_set],by rw [dj_len (by omega),hol,List.length_drop];omega⟩
     ·have hc':=eq_false hcc
      have h3:=insC_stop hy hcc
      have qe:=aI qR (aI @i0 (aI @i1 (aI @g1 (aI @g2 (aI @hjN (aI @hc' (aI @rtN @rtR)))))));repeat' first|refine gC (fun hc=>?_) (fun hc=>?_)<;>try contradiction|refine zr (hf x y) ?_|refine gG ?_|show AK _;intro K H|refine H _ _ ?_;clear H K|refine gJ ?_;try exact trivial|omega
      exact ⟨i+1,by omega,by omega,by simp only [LV.p.injEq,PV.i.injEq,true_and];omega,by rw [dj_stop hx (h3.symm.trans hj.2)],by rw [datC_len (by omega)];omega⟩
  ·have hlt':(((P.length+i:Nat):Int) < (P.length+L.length:Nat))=False:=eq_false (by omega)
   have qe:=aI qR (aI @hdN (aI @hlt' (aI @rtN @rtR)));repeat' first|refine gC (fun hc=>?_) (fun hc=>?_)<;>try contradiction|refine gG ?_|show AK _;intro K H|refine H _ _ ?_;clear H K|refine gJ ?_;try exact trivial|omega
   rw [datC_end c L (by omega),←hD']
   exact .inl (.mk0 (h2:=by simp only [qS,Nat.reduceAdd,Nat.reduceMul,Nat.reduceEqDiff,Nat.reduceLeDiff,reduceIte,reduceCtorEq,Nat.reduceBEq,Nat.reduceLT,keepG.eq_1,keepG.eq_2,gLV.eq_2]<;>simp [hN]))
def Wd (c:Mov→Mov→Int) (w:Nat) (R:List Mov):List Mov:=if h:R.length≤w∨w=0 then zag c R else zag c (R.take w)++Wd c w (R.drop w)
termination_by R.length
decreasing_by simp only [List.length_drop];omega
theorem zbE {w:Nat} {R:List Mov} (h:R.length≤w):Wd c w R=zag c R:=by rw [Wd,dif_pos (.inl h)]
theorem Wd_cons {w:Nat} {R:List Mov} (hw:0 < w) (h:w≤R.length):Wd c w R=zag c (R.take w)++Wd c w (R.drop w):=by
 by_cases e:R.length=w
 ·rw [zbE (by omega),List.take_of_length_le (by omega),List.drop_eq_nil_of_le (by omega),zbE (by simp)]
  show _=_++[]
  rw [List.append_nil]
 ·rw [Wd,dif_neg (by omega)]
theorem Wd_len {w:Nat} (hw:0 < w) (R:List Mov):(Wd c w R).length=R.length:=by
 generalize hn:R.length=n
 induction n using Nat.strongRecOn generalizing R with
 | _ n ih=>
  by_cases h:R.length≤w
  ·rw [zbE h,zaa,hn]
  ·rw [Wd_cons hw (by omega),List.length_append,zaa,ih (R.drop w).length (by rw [List.length_drop];omega) _ rfl,List.length_take,List.length_drop];omega
theorem sort_two (hs:SW (bfC c)) (R:List Mov) (w:Nat):mrg (bfC c) (zag c (R.take w)) (zag c (R.drop w))=zag c R:=by
 rw [zaG hs,zaG hs,zaG hs,←isort_app hs,List.take_append_drop]
end
set_option maxRecDepth 100000
set_option linter.unusedVariables false
set_option linter.unusedSimpArgs false
set_option maxHeartbeats 4000000
theorem less_irr:∀ l:List UInt8,Op.bytesLess l l=false
 | []=>by simp [Op.bytesLess]
 | x::r=>by simp [Op.bytesLess,less_irr r]
theorem cmpI_0 (x y:Int):cmpI x y=0↔x=y:=by unfold cmpI;(repeat' split)<;>omega
theorem cmpI_l (x y:Int):cmpI x y < 0↔x < y:=by unfold cmpI;(repeat' split)<;>omega
theorem cmpS_0 (x y:ByteArray):cmpS x y=0↔x=y:=by
 unfold cmpS
 split
 ·rename_i h
  refine ⟨fun h0=>by omega,fun e=>?_⟩
  subst e;rw [less_irr] at h;cases h
 ·split
  ·rename_i h;exact ⟨fun _=>h,fun _=>rfl⟩
  ·rename_i h;exact ⟨fun h0=>by omega,fun e=>absurd e h⟩
theorem cmpS_l (x y:ByteArray):cmpS x y < 0↔Op.bytesLess x.toList y.toList=true:=by
 unfold cmpS
 split
 ·rename_i h;exact ⟨fun _=>h,fun _=>by omega⟩
 ·rename_i h
  refine ⟨fun h0=>?_,fun e=>absurd e h⟩
  split at h0<;>omega
theorem cmpM_key (a b:Mov):cmpM a b < 0↔befM a b=true:=by
 unfold cmpM befM
 simp only [zg]
 by_cases h1:a.moment=b.moment
 ·rw [if_pos h1,if_pos ((cmpI_0 _ _).2 h1)]
  by_cases h2:a.kind=b.kind
  ·rw [if_pos h2,if_pos ((cmpS_0 _ _).2 h2)]
   by_cases h3:cmpS a.name b.name=0
   ·rw [if_pos h3,←cmpS_l,h3]
   ·rw [if_neg h3];exact cmpS_l _ _
  ·rw [if_neg h2,if_neg (fun h=>h2 ((cmpS_0 _ _).1 h))];exact cmpS_l _ _
 ·rw [if_neg h1,if_neg (fun h=>h1 ((cmpI_0 _ _).1 h)),decide_eq_true_eq];exact cmpI_l _ _
theorem cmpM_bef:bfC cmpM=befM:=by
 funext a b
 show decide (cmpM a b < 0)=befM a b
 by_cases h:cmpM a b < 0
 ·rw [decide_eq_true h,(cmpM_key a b).1 h]
 ·rw [decide_eq_false h];exact (Bool.eq_false_iff.2 fun h2=>h ((cmpM_key a b).2 h2)).symm
theorem sort_merge (a b:List Mov):zag cmpM (a++b)=mergeM befM a b:=by rw [zag,cmpM_bef];rfl
def mgE (a b:List Mov):Int:=zg [zad a,zad b,if 30000 < (a.length:Int)+b.length then 5 else 0]
def mgR (a b:List Mov):List Mov:=if mgE a b=0 then mergeM befM a b else []
end Go.Proofs.YtahmdjadnlpjoaaGreat
