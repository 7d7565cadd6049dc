/- Contracts of functions that the proof uses, shared by the claims of this seat; no statement of its own. Part 43. No conditions. -/
import Derived.Test.YtahmdjadnlpjoaaGreatK20
import Derived.Test.YtahmdjadnlpjoaaGreatK13
import Derived.Test.YtahmdjadnlpjoaaGreatK19
import Derived.Test.YtahmdjadnlpjoaaGreatK3
set_option linter.all false
set_option maxHeartbeats 8000000
namespace Go.Proofs.YtahmdjadnlpjoaaGreat
open Go.RowKit
set_option maxRecDepth 100000
set_option linter.unusedVariables false
set_option linter.unusedSimpArgs false
set_option maxHeartbeats 8000000
section
variable {f:Nat} {c:Mov→Mov→Int}
theorem acts159b (hf:∀ a b:Mov,Pure Tryz.prog f [a.pv,b.pv] (.i .i64 (c a b))) (hs:SW (bfC c)) {D D':List Mov} {N:Nat} (P A S:List Mov) (y:Mov) (hN:D.length=N) (hD:D=P++(A++([y]++S))) (hD':D'=P++(mrg (bfC c) A [y]++S)) (sA:srt (bfC c) A) (h1A:1 < A.length) (a m b:Int) (ha:a=(P.length:Nat)) (hm:m=(P.length+A.length:Nat)) (hb:b=(P.length+A.length+1:Nat)) (hn:N≤1000000) :
  Acts Tryz.prog 309 [.row 900 N,.p (.i .i64 a),.p (.i .i64 m),.p (.i .i64 b),.p (.fn (.func f) [] [])] [(900,.row 180 7 (D.map Mov.pv) false)] (.p (.tup [])) [(900,.row 180 7 (D'.map Mov.pv) false)]:=by
 subst ha hm hb
 have hlen:N=P.length+(A.length+(1+S.length)):=by rw [←hN,hD];simp only [List.length_append,List.length_cons,List.length_nil]
 have hlen':D'.length=N:=by rw [hD',hlen];simp [mrg_len];omega
 have e0:D=wyD P y A S A.length:=by rw [hD,wyD];simp
 have hyD:D[P.length+A.length]?=some y:=by rw [e0];exact wyD_at (Nat.le_refl _)
 have hDA:∀ q z,A[q]?=some z→D[P.length+q]?=some z:=fun q z hz=>by
  rw [hD,zbo _ _ _ (List.getElem?_eq_some_iff.1 hz).1,hz]
 refine zS (cF Tryz.func309 Tryz.f309.eq_1) (by simp) (by simp [scPs,scP,zl,hN]) (by simp [scObj]) ⟨rfl,trivial⟩ (by simp [scObj]) (by simp [FolL,zl,hN,hlen']) fun X hX=>?_
 unfold zD ghO
 have z1:(((P.length+A.length:Nat):Int) - (P.length:Nat)=1)=False:=eq_false (by omega)
 have z2:(((P.length+A.length+1:Nat):Int) - (P.length+A.length:Nat)=1)=True:=eq_true (by omega)
 have qe:=aI qR (aI @gLV.eq_2 (aI @z1 @z2));repeat' first|refine gC (fun hc=>?_) (fun hc=>?_)<;>try contradiction|refine gG ?_|show AK _;intro K H|refine H _ _ ?_;clear H K|refine gJ ?_;try exact trivial|omega
 refine zk (κ:=Nat × Nat) (fun k=>⟨[(0,.row 900 N),(1,.p (.i .i64 (P.length:Nat))),(2,.p (.i .i64 (P.length+A.length:Nat))),(4,.p (.fn (.func f) [] [])),(14,.p (.i .i64 (k.1:Nat))),(15,.p (.i .i64 (k.2:Nat))),(1000900,.row 900 N)],[(900,.row 180 7 (D.map Mov.pv) false)],[],false⟩)
  (fun k=>P.length≤k.1∧k.1≤k.2∧k.2≤P.length+A.length∧(∀ z ∈ A.take (k.1 - P.length),bfC c y z=false)∧∀ z ∈ A.drop (k.2 - P.length),bfC c y z=true) (fun k=>k.2 - k.1) (P.length,P.length+A.length) ?_ ?_ ?_
 ·simp only [qS,Nat.reduceAdd,Nat.reduceMul,Nat.reduceEqDiff,Nat.reduceLeDiff,reduceIte,reduceCtorEq,Nat.reduceBEq,Nat.reduceLT,gLV.eq_2]<;>simp [hN]
 ·refine ⟨by simp,by simp,by simp,?_,?_⟩
  ·simp
  ·simp
 ·intro k hk
  obtain ⟨i,j⟩:=k
  simp only at hk
  obtain ⟨k1,k2,k3,k4,k5⟩:=hk
  have hm:=mid_nat i j (by omega)
  by_cases hij:i < j
  ·have hij':((i:Int) < j)=True:=eq_true (by omega)
   obtain ⟨z,hz⟩:=zn (i:=(i+j) / 2 - P.length) (l:=A) (by omega)
   have hz2:=hDA _ z hz
   rw [show P.length+((i+j) / 2 - P.length)=(i+j) / 2 by omega] at hz2
   cases hcc:bfC c y z with
   | false=>
    have hc':=bf_f hcc
    have qe:=aI qR (aI @hij' (aI @hm (aI @hN (aI @hyD (aI @hz2 (aI @hc' (aI @rtN @rtR)))))));repeat' first|refine gC (fun hc=>?_) (fun hc=>?_)<;>try contradiction|refine zr (hf y z) ?_|refine gG ?_|show AK _;intro K H|refine H _ _ ?_;clear H K|refine gJ ?_;try exact trivial|omega
    refine ⟨((i+j) / 2+1,j),⟨by simp only;omega,by simp only;omega,k3,fun w hw=>?_,k5⟩,by simp only;omega,by simp⟩
    obtain ⟨q,hq,hw⟩:=mem_take_at hw
    have h2:=srt_lt hs sA (show q≤(i+j) / 2 - P.length by simp only at hq;omega) hw hz
    exact hs.nt _ _ _ hcc h2
   | true=>
    have hc':=bf_t hcc
    have qe:=aI qR (aI @hij' (aI @hm (aI @hN (aI @hyD (aI @hz2 (aI @hc' (aI @rtN @rtR)))))));repeat' first|refine gC (fun hc=>?_) (fun hc=>?_)<;>try contradiction|refine zr (hf y z) ?_|refine gG ?_|show AK _;intro K H|refine H _ _ ?_;clear H K|refine gJ ?_;try exact trivial|omega
    refine ⟨(i,(i+j) / 2),⟨k1,by simp only;omega,by simp only;omega,k4,fun w hw=>?_⟩,by simp only;omega,by simp⟩
    obtain ⟨q,hq,hw⟩:=mem_drop_at hw
    have h2:=srt_lt hs sA hq hz hw
    cases hh:bfC c y w with
    | true=>rfl
    | false=>rw [hs.nt _ _ _ hh h2] at hcc;cases hcc
  ·have e:i=j:=by omega
   subst e
   have hij':((i:Int) < i)=False:=eq_false (by omega)
   have hmr:=mrg_one2 k4 k5
   generalize hq:i - P.length=K at k4 k5 hmr
   have hi:i=P.length+K:=by omega
   subst hi
   have qe:=aI qR (aI @hij' (aI @hN (aI @rtN @rtR)));repeat' first|refine gC (fun hc=>?_) (fun hc=>?_)<;>try contradiction|refine gG ?_|show AK _;intro K H|refine H _ _ ?_;clear H K|refine gJ ?_;try exact trivial|omega
   refine zk (κ:=Nat) (fun q=>⟨[(0,.row 900 N),(14,.p (.i .i64 (P.length+K:Nat))),(17,.p (.i .i64 (P.length+q:Nat))),(1000900,.row 900 N)],[(900,.row 180 7 ((wyD P y A S q).map Mov.pv) false)],[],false⟩) (fun q=>K≤q∧q≤A.length) (fun q=>q - K) A.length ?_ ?_ ?_
   ·refine gJ ?_;simp [←e0,hN]
   ·constructor<;>omega
   ·intro q hqK
    have hml:(wyD P y A S q).length=N:=by rw [wyD_len];omega
    by_cases hlt:K < q
    ·obtain ⟨q,rfl⟩:∃ q',q=q'+1:=⟨q - 1,by omega⟩
     obtain ⟨z,hz⟩:=zn (i:=q) (l:=A) (by omega)
     have j1:(((P.length+(q+1):Nat):Int) - 1).toNat=P.length+q:=by omega
     have h1:=wyD_at (P:=P) (S:=S) (x:=y) (B:=A) (q:=q+1) (by omega)
     have h2:=wyD_at0 (P:=P) (S:=S) (x:=y) hz
     have h3:=wyD_down (P:=P) (S:=S) (x:=y) hz
     have hlt':(((P.length+K:Nat):Int) < ((P.length+(q+1):Nat):Int))=True:=eq_true (by omega)
     have qe:=aI qR (aI @hml (aI @hlt' (aI @j1 (aI @h1 (aI @h2 (aI @rtN @rtR))))));repeat' first|refine gC (fun hc=>?_) (fun hc=>?_)<;>try contradiction|refine gG ?_|show AK _;intro K H|refine H _ _ ?_;clear H K|refine gJ ?_;try exact trivial|omega
     exact ⟨q,by constructor<;>omega,by omega,by simp only [LV.p.injEq,PV.i.injEq,true_and];omega,by rw [←h3,List.map_set,List.map_set],by rw [wyD_len];omega⟩
    ·have e:q=K:=by omega
     subst e
     have hlt':(((P.length+q:Nat):Int) < ((P.length+q:Nat):Int))=False:=eq_false (by omega)
     have qe:=aI qR (aI @hml (aI @hlt' (aI @rtN @rtR)));repeat' first|refine gC (fun hc=>?_) (fun hc=>?_)<;>try contradiction|refine gG ?_|show AK _;intro K H|refine H _ _ ?_;clear H K|refine gJ ?_;try exact trivial|omega
     rw [show wyD P y A S q=D' by rw [hD',hmr,wyD];simp]
     exact .inl (.mk0 (h2:=by simp only [qS,Nat.reduceAdd,Nat.reduceMul,Nat.reduceEqDiff,Nat.reduceLeDiff,reduceIte,reduceCtorEq,Nat.reduceBEq,Nat.reduceLT,keepG.eq_1,keepG.eq_2,gLV.eq_2]<;>simp [hN]))
end
set_option maxRecDepth 100000
set_option linter.unusedVariables false
set_option linter.unusedSimpArgs false
set_option maxHeartbeats 8000000
section
variable {f:Nat} {c:Mov→Mov→Int}
theorem acts165 (f:Nat) {D D':List Mov} {N:Nat} (P X Y S:List Mov) (hN:D.length=N) (hD:D=P++(X++(Y++S))) (hD':D'=P++(Y++(X++S))) (hX:0 < X.length) (hY:0 < Y.length) (a m b:Int) (ha:a=(P.length:Nat)) (hm:m=(P.length+X.length:Nat)) (hb:b=(P.length+X.length+Y.length:Nat)) (hn:N≤1000000) :
  Acts Tryz.prog 318 [.row 900 N,.p (.i .i64 a),.p (.i .i64 m),.p (.i .i64 b),.p (.fn (.func f) [] [])] [(900,.row 180 7 (D.map Mov.pv) false)] (.p (.tup [])) [(900,.row 180 7 (D'.map Mov.pv) false)]:=by
 subst ha hm hb
 have hlen:N=P.length+(X.length+(Y.length+S.length)):=by rw [←hN,hD];simp
 have hlen':D'.length=N:=by rw [hD',hlen];simp;omega
 refine zS (cF Tryz.func318 Tryz.f318.eq_1) (by simp) (by simp [scPs,scP,zl,hN]) (by simp [scObj]) ⟨rfl,trivial⟩ (by simp [scObj]) (by simp [FolL,zl,hN,hlen']) fun X1 hX1=>?_
 unfold zD ghO
 have qe:=aI qR @gLV.eq_2;repeat' first|refine gC (fun hc=>?_) (fun hc=>?_)<;>try contradiction|refine gG ?_|show AK _;intro K H|refine H _ _ ?_;clear H K|refine gJ ?_;try exact trivial|omega
 refine zk (κ:=List Mov × List Mov × List Mov × List Mov) (fun k=>⟨[(0,.row 900 N),(2,.p (.i .i64 (P.length+X.length:Nat))),(4,.p (.fn (.func f) [] [])),(10,.p (.i .i64 (k.2.1.length:Nat))),(11,.p (.i .i64 (k.2.2.1.length:Nat))),(1000900,.row 900 N)],[(900,.row 180 7 ((k.1++(k.2.1++(k.2.2.1++k.2.2.2))).map Mov.pv) false)],[],false⟩)
  (fun k=>k.1.length+k.2.1.length=P.length+X.length∧k.1++(k.2.2.1++(k.2.1++k.2.2.2))=D'∧0 < k.2.1.length∧0 < k.2.2.1.length) (fun k=>k.2.1.length+k.2.2.1.length) (P,X,Y,S) ?_ ?_ ?_
 ·simp only [qS,Nat.reduceAdd,Nat.reduceMul,Nat.reduceEqDiff,Nat.reduceLeDiff,reduceIte,reduceCtorEq,Nat.reduceBEq,Nat.reduceLT,gLV.eq_2]<;>simp [←hD,hN]<;>omega
 ·exact ⟨rfl,hD'.symm,hX,hY⟩
 ·intro k hk
  obtain ⟨P',X',Y',S'⟩:=k
  simp only at hk
  obtain ⟨k1,k2,k3,k4⟩:=hk
  have hE:(P'++(X'++(Y'++S'))).length=N:=by
   have:=congrArg List.length k2
   rw [hlen'] at this
   simp only [List.length_append] at this ⊢;omega
  have hE2:P'.length+(X'.length+(Y'.length+S'.length))=N:=by
   simpa only [List.length_append] using hE
  by_cases h1:X'.length=Y'.length
  ·have h1':((X'.length:Int)=Y'.length)=True:=eq_true (by omega)
   have h2':((Y'.length:Int)=X'.length)=True:=eq_true (by omega)
   have qe:=aI qR (aI @hE (aI @h1' (aI @h2' (aI @qN (aI @rtN @rtR)))));repeat' first|refine gC (fun hc=>?_) (fun hc=>?_)<;>try contradiction|refine zm [] (acts166 f (D':=D') P' X' [] Y' S' hE (by simp) (by rw [←k2];simp) h1 (((P.length+X.length:Nat):Int) - (X'.length:Nat)) ((P.length+X.length:Nat):Int) (X'.length:Nat) (by omega) (by simp;omega) rfl hn) ?_|refine gG ?_|show AK _;intro K H|refine H _ _ ?_;clear H K|refine gJ ?_;try exact trivial|omega
   all_goals first|exact .inl (.mk0 (h2:=by simp only [qS,Nat.reduceAdd,Nat.reduceMul,Nat.reduceEqDiff,Nat.reduceLeDiff,reduceIte,reduceCtorEq,Nat.reduceBEq,Nat.reduceLT,keepG.eq_1,keepG.eq_2,gLV.eq_2]<;>simp [hN]))|skip
  ·have h1':((X'.length:Int)=Y'.length)=False:=eq_false (by omega)
   by_cases h2:Y'.length < X'.length
   ·have h2':((Y'.length:Int) < X'.length)=True:=eq_true (by omega)
    have hl:(X'.take Y'.length).length=Y'.length:=by simp;omega
    have hl2:(X'.drop Y'.length).length=X'.length - Y'.length:=by simp
    have qe:=aI qR (aI @hE (aI @h1' (aI @h2' (aI @qN (aI @rtN @rtR)))));repeat' first|refine gC (fun hc=>?_) (fun hc=>?_)<;>try contradiction|refine zm [] (acts166 f (D':=P'++(Y'++(X'.drop Y'.length++(X'.take Y'.length++S')))) P' (X'.take Y'.length) (X'.drop Y'.length) Y' S' hE (by rw [←List.append_assoc (X'.take _),List.take_append_drop]) rfl hl (((P.length+X.length:Nat):Int) - (X'.length:Nat)) ((P.length+X.length:Nat):Int) (Y'.length:Nat) (by omega) (by simp only [hl,hl2]<;>omega) (by simp only [hl]) hn) ?_|refine gG ?_|show AK _;intro K H|refine H _ _ ?_;clear H K|refine gJ ?_;try exact trivial|omega
    refine ⟨(P'++Y',X'.drop Y'.length,X'.take Y'.length,S'),⟨?_,?_,?_,?_⟩,?_,?_⟩
    ·simp only [List.length_append,hl2];omega
    ·show (P'++Y')++(X'.take Y'.length++(X'.drop Y'.length++S'))=D'
     rw [←k2,←List.append_assoc (X'.take _),List.take_append_drop,List.append_assoc]
    ·simp only [hl2];omega
    ·simp only [hl];omega
    ·simp only [hl,hl2];omega
    ·refine ⟨⟨?_,?_⟩,?_,?_⟩
     ·simp only [LV.p.injEq,PV.i.injEq,true_and,hl,hl2]<;>omega
     ·simp only [LV.p.injEq,PV.i.injEq,true_and,hl,hl2]<;>omega
     ·simp only [List.append_assoc]
     ·simp only [List.length_append,hl,hl2];omega
   ·have h2':((Y'.length:Int) < X'.length)=False:=eq_false (by omega)
    have hl:(Y'.drop (Y'.length - X'.length)).length=X'.length:=by simp;omega
    have hl2:(Y'.take (Y'.length - X'.length)).length=Y'.length - X'.length:=by simp
    have qe:=aI qR (aI @hE (aI @h1' (aI @h2' (aI @qN (aI @rtN @rtR)))));repeat' first|refine gC (fun hc=>?_) (fun hc=>?_)<;>try contradiction|refine zm [] (acts166 f (D':=P'++(Y'.drop (Y'.length - X'.length)++(Y'.take (Y'.length - X'.length)++(X'++S')))) P' X' (Y'.take (Y'.length - X'.length)) (Y'.drop (Y'.length - X'.length)) S' hE (by rw [←List.append_assoc (Y'.take _),List.take_append_drop]) rfl hl.symm (((P.length+X.length:Nat):Int) - (X'.length:Nat)) (((P.length+X.length:Nat):Int)+(Y'.length:Nat) - (X'.length:Nat)) (X'.length:Nat) (by omega) (by simp only [hl2]<;>omega) rfl hn) ?_|refine gG ?_|show AK _;intro K H|refine H _ _ ?_;clear H K|refine gJ ?_;try exact trivial|omega
    refine ⟨(P',Y'.drop (Y'.length - X'.length),Y'.take (Y'.length - X'.length),X'++S'),⟨?_,?_,?_,?_⟩,?_,?_⟩
    ·simp only [hl];omega
    ·show P'++(Y'.take (Y'.length - X'.length)++(Y'.drop (Y'.length - X'.length)++(X'++S')))=D'
     rw [←k2,←List.append_assoc (Y'.take _),List.take_append_drop]
    ·simp only [hl];omega
    ·simp only [hl2];omega
    ·simp only [hl,hl2];omega
    ·refine ⟨⟨?_,?_⟩,?_,?_⟩
     ·simp only [LV.p.injEq,PV.i.injEq,true_and,hl,hl2]<;>omega
     ·simp only [LV.p.injEq,PV.i.injEq,true_and,hl,hl2]<;>omega
     ·simp only [List.append_assoc]
     ·simp only [List.length_append,hl,hl2];omega
end
theorem run_monoS {G:Cfg} {c:AC} {s:St} {Q Q':zO} (hm:∀ e s1,Q e s1→Q' e s1) (h:Run G c s Q):Run G c s Q':=fun hG code hc C a w hr=>
 wpIn_mono (h hG code hc C a w hr) fun e a1 w1 hq=>by
  obtain ⟨s1,C1,h1,h2⟩:=hq
  exact ⟨s1,C1,h1,by cases e<;>first|exact hm _ _ h2|exact h2⟩
def cutS (s':St):zO
 | .normal,s=>Cov s s'
 | _,_=>False
theorem cutSN (s s':St):cutS s' .normal s=Cov s s':=rfl
theorem run_cutS {G:Cfg} {x y:AC} {s:St} {Q:zO} (s':St) (h1:Run G x s (cutS s')) (h2:Run G y s' Q):Run G x s (seqK G y Q):=
 run_monoS (fun e s1 h=>by
  cases e with
  | normal=>exact run_keep s' h h2
  | exit i=>exact h.elim
  | ret=>exact h.elim) h1
end Go.Proofs.YtahmdjadnlpjoaaGreat
