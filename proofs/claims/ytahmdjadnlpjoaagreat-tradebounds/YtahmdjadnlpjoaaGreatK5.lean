/- Contracts of functions that the proof uses, shared by the claims of this seat; no statement of its own. Part 7. No conditions. -/
import Derived.Test.YtahmdjadnlpjoaaGreatK4
set_option linter.all false
set_option maxHeartbeats 8000000
namespace Go.Proofs.YtahmdjadnlpjoaaGreat
open Go.RowKit
set_option maxRecDepth 100000
set_option linter.unusedVariables false
set_option linter.unusedSimpArgs false
set_option maxHeartbeats 8000000
def dayT (p:Per) (k:Nat):List (List PV):=if inM p.days ((p.fro+k+5) % 7) then [[.i .i64 (p.fro+k)]] else []
def daysT (p:Per) (n:Nat):List (List PV):=(List.range n).flatMap (dayT p)
theorem daysT_eq (p:Per):daysT p (p.to - p.fro+1).toNat=(zY p).map fun d=>[.i .i64 d]:=by
 simp only [daysT,dayT,zY,List.map_flatMap]
 congr 1;funext k;simp only [dayT];split<;>rfl
theorem iter160 (p:Per) (h:zau p=0):Iter Tryz.prog 305 [.ip p.pv 0] ((zY p).map fun d=>[.i .i64 d]):=by
 have hp:=zaX h
 rw [←daysT_eq]
 refine iter_by (cF Tryz.func305 Tryz.f305.eq_1) (by simp) fun hw X hX=>?_
 simp only [zbp]
 repeat' first|refine gC (fun hc=>?_) (fun hc=>?_)<;>try contradiction|refine gG ?_|show AK _;intro K H|refine H _ _ ?_;clear H K|refine gJ ?_;try exact trivial|omega
 refine zk (κ:=Nat) (fun k=>⟨[(0,.yield),(1,.p (.ip p.pv 0)),(3,.p (.i .i64 (p.fro+k)))],[],daysT p k,false⟩) (fun k=>k≤(p.to - p.fro+1).toNat) (fun k=>(p.to - p.fro+1).toNat - k) 0 ?_ ?_ ?_
 ·refine gJ ?_;simp [daysT]
 ·simp
 ·intro k hk
  repeat' first|refine gC (fun hc=>?_) (fun hc=>?_)<;>try contradiction|refine gG ?_|show AK _;intro K H|refine H _ _ ?_;clear H K|refine gJ ?_;try exact trivial|omega
  ·have hc':k < (p.to - p.fro+1).toNat:=by omega
   have hs:=zbm (dayT p) hc'
   by_cases hm:inM p.days ((p.fro+k+5) % 7)=true
   ·simp only [dayT,hm,if_true,List.singleton_append] at hs
    have qe:=@hm;repeat' first|refine gC (fun hc=>?_) (fun hc=>?_)<;>try contradiction|refine zbP (hf:=pure162 _ (by omega) (by omega)) (hn:=?_)|refine zbP (hf:=pure161 _ _ (by omega) (by omega) (by omega) (by omega)) (hn:=?_)|refine gG ?_|show AK _;intro K H|refine H _ _ ?_;clear H K|refine gJ ?_;try exact trivial|omega
    have qe:=@hm;(show zj _ _ _ _ (⟨_,.callv,_,_,_⟩::_) _ _;refine run_yld (by first|rfl|(simp (disch:=omega) only [qG,qe,Nat.reduceAdd,Nat.reduceMul,Nat.reduceEqDiff,Nat.reduceLeDiff,reduceIte,reduceCtorEq,Nat.reduceBEq,Nat.reduceLT]<;>rfl)) (by simp (disch:=omega) only [qS,qe,Nat.reduceAdd,Nat.reduceMul,Nat.reduceEqDiff,Nat.reduceLeDiff,reduceIte,reduceCtorEq,Nat.reduceBEq,Nat.reduceLT]) (by simp (disch:=omega) only [qS,qe,Nat.reduceAdd,Nat.reduceMul,Nat.reduceEqDiff,Nat.reduceLeDiff,reduceIte,reduceCtorEq,Nat.reduceBEq,Nat.reduceLT]<;>rfl) (by simp (disch:=omega) only [qS,qe,Nat.reduceAdd,Nat.reduceMul,Nat.reduceEqDiff,Nat.reduceLeDiff,reduceIte,reduceCtorEq,Nat.reduceBEq,Nat.reduceLT];try trivial) rfl _ (hs) ?_;intro b;(refine zE ?_))
    have qe:=@hm;repeat' first|refine gC (fun hc=>?_) (fun hc=>?_)<;>try contradiction|refine gG ?_|show AK _;intro K H|refine H _ _ ?_;clear H K|refine gJ ?_;try exact trivial|omega
    ·subst hc;exact .inl rfl
    ·subst hc;refine ⟨k+1,by omega,by omega,by simp;omega,?_,rfl⟩
     simp only [daysT,zab,dayT,hm];simp
   ·simp only [Bool.not_eq_true] at hm
    have qe:=@hm;repeat' first|refine gC (fun hc=>?_) (fun hc=>?_)<;>try contradiction|refine zbP (hf:=pure162 _ (by omega) (by omega)) (hn:=?_)|refine zbP (hf:=pure161 _ _ (by omega) (by omega) (by omega) (by omega)) (hn:=?_)|(show zj _ _ _ _ (⟨_,.callv,_,_,_⟩::_) _ _;refine zbi (q:=(.b false)) (by first|rfl|(simp (disch:=omega) only [qG,qe,Nat.reduceAdd,Nat.reduceMul,Nat.reduceEqDiff,Nat.reduceLeDiff,reduceIte,reduceCtorEq,Nat.reduceBEq,Nat.reduceLT]<;>rfl)) ?_;(try (refine zE ?_)))|refine gG ?_|show AK _;intro K H|refine H _ _ ?_;clear H K|refine gJ ?_;try exact trivial|omega
    refine ⟨k+1,by omega,by omega,by simp;omega,?_⟩
    simp only [daysT,zab,dayT,hm];simp
  ·repeat' first|refine gC (fun hc=>?_) (fun hc=>?_)<;>try contradiction|refine gG ?_|show AK _;intro K H|refine H _ _ ?_;clear H K|refine gJ ?_;try exact trivial|omega
   have e:k=(p.to - p.fro+1).toNat:=by omega
   subst e;exact .inr rfl
theorem pure152 (d:Int):Pure Tryz.prog 261 [.i .i64 d] (.b true):=by
 refine zf (cF Tryz.func261 Tryz.f261.eq_1) (by simp) fun hw X hX=>?_
 repeat' first|refine gC (fun hc=>?_) (fun hc=>?_)<;>try contradiction|refine gG ?_|show AK _;intro K H|refine H _ _ ?_;clear H K|refine gJ ?_;try exact trivial|omega
 exact .refl _
theorem pure151 (p:Per):Pure Tryz.prog 260 [p.pv] (.fn (.func 305) [] [.ip p.pv 0]):=by
 refine zf (cF Tryz.func260 Tryz.f260.eq_1) (by simp) fun hw X hX=>?_
 repeat' first|refine gC (fun hc=>?_) (fun hc=>?_)<;>try contradiction|refine gG ?_|show AK _;intro K H|refine H _ _ ?_;clear H K|refine gJ ?_;try exact trivial|omega
 exact .refl _
theorem pure150 (p:Per) (h:zau p=0):Pure Tryz.prog 259 [.fn (.func 305) [] [.ip p.pv 0],.fn (.func 261) [] []] (.sl 1 ((zY p).map (.i .i64))):=by
 refine zf (cF Tryz.func259 Tryz.f259.eq_1) (by simp) fun hw X hX=>?_
 repeat' first|refine gC (fun hc=>?_) (fun hc=>?_)<;>try contradiction|refine gG ?_|show AK _;intro K H|refine H _ _ ?_;clear H K|refine gJ ?_;try exact trivial|omega
 have hp:=zaX h
 have hn:=daysL_len p
 refine zaO 100 3 1 [(3,.lp 3 0),(5,.lp 5 0),(7,.p (.fn (.func 305) [] [.ip p.pv 0]))] [(3,.box [.p (.fn (.func 261) [] [])] false),(5,.box [.row 100 0] false)] ?_ ?_
 ·simp only [Own,zaL,zaB,zbt,zay,qS,Nat.reduceAdd,Nat.reduceMul,Nat.reduceEqDiff,Nat.reduceLeDiff,reduceIte,reduceCtorEq,Nat.reduceBEq,Nat.reduceLT]
 refine run_rfunc rfl (iter160 p h) ?_ ?_ [(3,.lp 3 0),(5,.lp 5 0),(7,.p (.fn (.func 305) [] [.ip p.pv 0]))] (fun k=>[(3,.box [.p (.fn (.func 261) [] [])] false),(5,.box [.row 100 k] false),(100,.row 3 1 (((zY p).take k).map (.i .i64)) false)]) (fun _=>[]) ?_ ?_ ?_
 ·simp
 ·simp [hX]
 ·exact sE
 ·intro k t ht X' ro' hX'
  simp only [List.getElem?_map,Option.map_eq_some_iff] at ht
  obtain ⟨d,hd,rfl⟩:=ht
  have hl:=take_len hd
  have hk:=(List.getElem?_eq_some_iff.1 hd).1
  simp only [qS,Nat.reduceAdd,Nat.reduceMul,Nat.reduceEqDiff,Nat.reduceLeDiff,reduceIte,reduceCtorEq,Nat.reduceBEq,Nat.reduceLT]
  repeat' first|refine gC (fun hc=>?_) (fun hc=>?_)<;>try contradiction|refine gG ?_|show AK _;intro K H|refine H _ _ ?_;clear H K|refine gJ ?_;try exact trivial|omega
  intro X1 hX1
  have qe:=aI qR (aI @hl (take_snoc (PV.i .i64) hd));repeat' first|refine gC (fun hc=>?_) (fun hc=>?_)<;>try contradiction|refine zr (pure152 _) ?_|refine gG ?_|show AK _;intro K H|refine H _ _ ?_;clear H K|refine gJ ?_;try exact trivial|omega
 ·simp only [List.length_map]
  have qe:=@List.take_length.{0};repeat' first|refine gC (fun hc=>?_) (fun hc=>?_)<;>try contradiction|refine gG ?_|show AK _;intro K H|refine H _ _ ?_;clear H K|refine gJ ?_;try exact trivial|omega
  exact .refl _
theorem weak2 {a b c d:PV} (h1:Weak a b) (h2:Weak c d):Weak (.tup [a,c]) (.tup [b,d]):=by
 refine .tup rfl fun j x y hx hy=>?_
 match j with
 | 0=>simp at hx hy;subst hx;subst hy;exact h1
 | 1=>simp at hx hy;subst hx;subst hy;exact h2
 | j+2=>simp at hx
def daysR (p:Per):List Int:=if zau p=0 then zY p else []
theorem pure126 (p:Per):Pure Tryz.prog 210 [p.pv] (.tup [.sl 1 ((daysR p).map (.i .i64)),.i .i64 (zau p)]):=by
 refine zf (cF Tryz.func210 Tryz.f210.eq_1) (by simp) fun hw X hX=>?_
 repeat' first|refine gC (fun hc=>?_) (fun hc=>?_)<;>try contradiction|refine za (pure124 _) ?_|refine za (pure151 _) ?_|refine za (pure150 p hc) ?_|refine gG ?_|show AK _;intro K H|refine H _ _ ?_;clear H K|refine gJ ?_;try exact trivial|omega
 ·rw [daysR,if_neg hc];exact weak2 (.nilsl _) (.refl _)
 ·rw [daysR,if_pos hc,hc];exact .refl _
def hasE (p:Per) (d:Int):Int:=zg [zau p,rng d 0 99999]
def hasB (p:Per) (d:Int):Bool:=decide (hasE p d=0) && hasD p d
theorem pure132 (p:Per) (d:Int):Pure Tryz.prog 93 [p.pv,.i .i64 d] (.tup [.b (hasB p d),.i .i64 (hasE p d)]):=by
 refine zf (cF Tryz.func93 Tryz.f93.eq_1) (by simp) fun hw X hX=>?_
 have qe:=@qR;repeat' first|refine gC (fun hc=>?_) (fun hc=>?_)<;>try contradiction|refine za (pure124 _) ?_|refine za (pure147 _) ?_|refine za (pure146 [_,_]) ?_|refine gG ?_|show AK _;intro K H|refine H _ _ ?_;clear H K|refine gJ ?_;try exact trivial|omega
 ·have:hasE p d≠0:=hc
  simp only [hasB,this,decide_false,Bool.false_and];exact .refl _
 ·have h0:hasE p d=0:=hc
  have h1:=h0
  simp only [hasE,zq,rng_0] at h1
  have hp:=zaX h1.1
  repeat' first|refine gC (fun hc=>?_) (fun hc=>?_)<;>try contradiction|refine za (pure156 p d (by omega) (by omega) (by omega) (by omega)) ?_|refine gG ?_|show AK _;intro K H|refine H _ _ ?_;clear H K|refine gJ ?_;try exact trivial|omega
  simp only [hasB,h0,decide_true,Bool.true_and];exact .refl _
end Go.Proofs.YtahmdjadnlpjoaaGreat
