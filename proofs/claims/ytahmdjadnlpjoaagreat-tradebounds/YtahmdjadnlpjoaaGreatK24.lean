/- Contracts of functions that the proof uses, shared by the claims of this seat; no statement of its own. Part 47. No conditions. -/
import Derived.Test.YtahmdjadnlpjoaaGreatK19
import Derived.Test.YtahmdjadnlpjoaaGreatK22
import Derived.Test.YtahmdjadnlpjoaaGreatK23
set_option linter.all false
set_option maxHeartbeats 8000000
namespace Go.Proofs.YtahmdjadnlpjoaaGreat
open Go.RowKit
set_option maxRecDepth 100000
set_option linter.unusedVariables false
set_option linter.unusedSimpArgs false
set_option maxHeartbeats 8000000
section
variable {f:Nat} {c:Mov→Mov→Int}
theorem acts141g (hf:∀ a b:Mov,Pure Tryz.prog f [a.pv,b.pv] (.i .i64 (c a b))) (hs:SW (bfC c)) (L:List Mov) (hn:L.length≤1000000):Acts Tryz.prog 285 [.row 900 L.length,.p (.i .i64 L.length),.p (.fn (.func f) [] [])] [(900,.row 180 7 (L.map Mov.pv) false)] (.p (.tup [])) [(900,.row 180 7 ((zag c L).map Mov.pv) false)]:=by
 obtain ⟨N,hN⟩:∃ N,L.length=N:=⟨_,rfl⟩
 rw [hN] at hn
 have hsl:=(zaa c L).trans hN
 refine zS (cF Tryz.func285 Tryz.f285.eq_1) (by simp) (by simp [scPs,scP,zl]) (by simp [scObj]) ⟨rfl,trivial⟩ (by simp [scObj]) (by simp [FolL,zl,zaa]) fun X hX=>?_
 rw [hN]
 unfold zD ghO
 have qe:=aI qR @gLV.eq_2;repeat' first|refine gC (fun hc=>?_) (fun hc=>?_)<;>try contradiction|refine gG ?_|show AK _;intro K H|refine H _ _ ?_;clear H K|refine gJ ?_;try exact trivial|omega
 refine zk (κ:=List Mov × List Mov) (fun k=>⟨[(0,.row 900 N),(1,.p (.i .i64 N)),(2,.p (.fn (.func f) [] [])),(6,.p (.i .i64 20)),(7,.p (.i .i64 (k.1.length:Nat))),(8,.p (.i .i64 (k.1.length+20:Nat))),(1000900,.row 900 N)],[(900,.row 180 7 ((k.1++k.2).map Mov.pv) false)],[],false⟩)
  (fun k=>k.1.length+k.2.length=N∧k.1++Wd c 20 k.2=Wd c 20 L) (fun k=>k.2.length) ([],L) ?_ ?_ ?_
 ·simp only [qS,Nat.reduceAdd,Nat.reduceMul,Nat.reduceEqDiff,Nat.reduceLeDiff,reduceIte,reduceCtorEq,Nat.reduceBEq,Nat.reduceLT,gLV.eq_2]<;>simp [hN]
 ·exact ⟨by simpa using hN,by simp⟩
 ·intro k hk
  obtain ⟨Pd,R⟩:=k
  simp only at hk
  obtain ⟨k1,k2⟩:=hk
  have hPR:(Pd++R).length=N:=by rw [List.length_append];exact k1
  by_cases h20:20≤R.length
  ·have hge:(((Pd.length+20:Nat):Int)≤N)=True:=eq_true (by omega)
   have hl:(zag c (R.take 20)).length=20:=by rw [zaa,List.length_take];omega
   have qe:=aI qR (aI @qN (aI @hge (aI @hPR (aI @rtN @rtR))));repeat' first|refine gC (fun hc=>?_) (fun hc=>?_)<;>try contradiction|refine zm [] (acts158r hf (D':=(Pd++zag c (R.take 20))++R.drop 20) Pd (R.take 20) (R.drop 20) hPR (by rw [List.take_append_drop]) (by rw [List.append_assoc]) (Pd.length:Nat) (Pd.length+20:Nat) rfl (by rw [List.length_take];omega) hn) ?_|refine gG ?_|show AK _;intro K H|refine H _ _ ?_;clear H K|refine gJ ?_;try exact trivial|omega
   refine ⟨(Pd++zag c (R.take 20),R.drop 20),⟨?_,?_⟩,?_,?_⟩
   ·simp only [List.length_append,hl,List.length_drop];omega
   ·simp only;rw [←k2,Wd_cons (by decide) h20,List.append_assoc]
   ·simp only [List.length_drop];omega
   ·refine ⟨⟨?_,?_⟩,rfl,?_⟩
    ·simp only [LV.p.injEq,PV.i.injEq,true_and,List.length_append,hl]
    ·simp only [LV.p.injEq,PV.i.injEq,true_and,List.length_append,hl];omega
    ·simp only [List.length_append,hl,List.length_drop];omega
  ·have hge:(((Pd.length+20:Nat):Int)≤N)=False:=eq_false (by omega)
   have hW:Wd c 20 L=Pd++zag c R:=by rw [←k2,zbE (by omega)]
   have qe:=aI qR (aI @qN (aI @hge (aI @hPR (aI @rtN @rtR))));repeat' first|refine gC (fun hc=>?_) (fun hc=>?_)<;>try contradiction|refine zm [] (acts158r hf (D':=Wd c 20 L) Pd R [] hPR (by simp) (by rw [hW];simp) (Pd.length:Nat) (N:Nat) rfl (by omega) hn) ?_|refine gG ?_|show AK _;intro K H|refine H _ _ ?_;clear H K|refine gJ ?_;try exact trivial|omega
   refine zk (κ:=Nat) (fun w=>⟨[(0,.row 900 N),(1,.p (.i .i64 N)),(2,.p (.fn (.func f) [] [])),(6,.p (.i .i64 w)),(1000900,.row 900 N)],[(900,.row 180 7 ((Wd c w L).map Mov.pv) false)],[],false⟩) (fun w=>20≤w∧w≤2000000) (fun w=>N - w) 20 ?_ ?_ ?_
   ·refine gJ ?_;simp [Wd_len,hN]
   ·omega
   ·intro w hw
    have hWl:=Wd_len (c:=c) (w:=w) (by omega) L
    rw [hN] at hWl
    by_cases hwn:w < N
    ·have hwn':((w:Int) < N)=True:=eq_true (by omega)
     have qe:=aI qR (aI @hwn' (aI @hWl (aI @rtN @rtR)));repeat' first|refine gC (fun hc=>?_) (fun hc=>?_)<;>try contradiction|refine gG ?_|show AK _;intro K H|refine H _ _ ?_;clear H K|refine gJ ?_;try exact trivial|omega
     refine zk (κ:=List Mov × List Mov) (fun k=>⟨[(0,.row 900 N),(1,.p (.i .i64 N)),(2,.p (.fn (.func f) [] [])),(6,.p (.i .i64 w)),(7,.p (.i .i64 (k.1.length:Nat))),(8,.p (.i .i64 (k.1.length+2*w:Nat))),(1000900,.row 900 N)],[(900,.row 180 7 ((k.1++Wd c w k.2).map Mov.pv) false)],[],false⟩)
      (fun k=>k.1.length+k.2.length=N∧k.1++Wd c (2*w) k.2=Wd c (2*w) L) (fun k=>k.2.length) ([],L) ?_ ?_ ?_
     ·refine gJ ?_;simp [hWl]
     ·exact ⟨by simpa using hN,by simp⟩
     ·intro k hk
      obtain ⟨Pd,R⟩:=k
      simp only at hk
      obtain ⟨k1,k2⟩:=hk
      have hRl:=Wd_len (c:=c) (w:=w) (by omega) R
      have hPR:(Pd++Wd c w R).length=N:=by rw [List.length_append,hRl];exact k1
      by_cases h2:2*w≤R.length
      ·have hge:(((Pd.length+2*w:Nat):Int)≤N)=True:=eq_true (by omega)
       have l1:(zag c (R.take w)).length=w:=by rw [zaa,List.length_take];omega
       have l2:(zag c ((R.drop w).take w)).length=w:=by rw [zaa,List.length_take,List.length_drop];omega
       have l3:(zag c (R.take (2*w))).length=2*w:=by rw [zaa,List.length_take];omega
       have e1:Wd c w R=zag c (R.take w)++(zag c ((R.drop w).take w)++Wd c w (R.drop (2*w))):=by
        rw [Wd_cons (by omega) (by omega),Wd_cons (R:=R.drop w) (by omega) (by rw [List.length_drop];omega),List.drop_drop,show w+w=2*w by omega]
       have e2:mrg (bfC c) (zag c (R.take w)) (zag c ((R.drop w).take w))=zag c (R.take (2*w)):=by
        have:=sort_two hs (R.take (2*w)) w
        rw [List.take_take,Nat.min_eq_left (by omega),List.drop_take,show 2*w - w=w by omega] at this
        exact this
       have qe:=aI qR (aI @qN (aI @hge (aI @hPR (aI @rtN @rtR))));repeat' first|refine gC (fun hc=>?_) (fun hc=>?_)<;>try contradiction|refine zm [] (acts159 hf hs (w+w) (D':=(Pd++zag c (R.take (2*w)))++Wd c w (R.drop (2*w))) Pd (zag c (R.take w)) (zag c ((R.drop w).take w)) (Wd c w (R.drop (2*w))) hPR (by rw [e1]) (by rw [e2,List.append_assoc]) (by rw [zaG hs];exact isort_srt hs _) (by rw [zaG hs];exact isort_srt hs _) (by omega) (by omega) (by omega) (Pd.length:Nat) (Pd.length+w) (Pd.length+2*w:Nat) rfl (by rw [l1];omega) (by rw [l1,l2];omega) hn) ?_|refine gG ?_|show AK _;intro K H|refine H _ _ ?_;clear H K|refine gJ ?_;try exact trivial|omega
       refine ⟨(Pd++zag c (R.take (2*w)),R.drop (2*w)),⟨?_,?_⟩,?_,?_⟩
       ·simp only [List.length_append,l3,List.length_drop];omega
       ·simp only;rw [←k2,Wd_cons (by omega) h2,List.append_assoc]
       ·simp only [List.length_drop];omega
       ·refine ⟨⟨?_,?_⟩,rfl,?_⟩
        ·simp only [LV.p.injEq,PV.i.injEq,true_and,List.length_append,l3]
        ·simp only [LV.p.injEq,PV.i.injEq,true_and,List.length_append,l3];omega
        ·simp only [List.length_append,l3];rw [Wd_len (by omega),List.length_drop];omega
      ·have hge:(((Pd.length+2*w:Nat):Int)≤N)=False:=eq_false (by omega)
       have hW2:Wd c (2*w) L=Pd++zag c R:=by rw [←k2,zbE (by omega)]
       by_cases h3:w < R.length
       ·have hlt:(((Pd.length:Nat):Int)+(w:Nat) < N)=True:=eq_true (by omega)
        have l1:(zag c (R.take w)).length=w:=by rw [zaa,List.length_take];omega
        have l2:(zag c (R.drop w)).length=R.length - w:=by rw [zaa,List.length_drop]
        have e1:Wd c w R=zag c (R.take w)++zag c (R.drop w):=by
         rw [Wd_cons (by omega) (by omega),zbE (R:=R.drop w) (by rw [List.length_drop];omega)]
        have qe:=aI qR (aI @qN (aI @hge (aI @hlt (aI @hPR (aI @rtN @rtR)))));repeat' first|refine gC (fun hc=>?_) (fun hc=>?_)<;>try contradiction|refine zm [] (acts159 hf hs (w+(R.length - w)) (D':=Wd c (2*w) L) Pd (zag c (R.take w)) (zag c (R.drop w)) [] hPR (by rw [e1];simp) (by rw [hW2,sort_two hs];simp) (by rw [zaG hs];exact isort_srt hs _) (by rw [zaG hs];exact isort_srt hs _) (by omega) (by omega) (by omega) (Pd.length:Nat) (Pd.length+w) (N:Nat) rfl (by rw [l1];omega) (by rw [l1,l2];omega) hn) ?_|refine gG ?_|show AK _;intro K H|refine H _ _ ?_;clear H K|refine gJ ?_;try exact trivial|omega
        exact ⟨2*w,by omega,by omega,by simp only [LV.p.injEq,PV.i.injEq,true_and];omega,rfl,by rw [Wd_len (by omega)];omega⟩
       ·have hlt:(((Pd.length:Nat):Int)+(w:Nat) < N)=False:=eq_false (by omega)
        have e1:Pd++Wd c w R=Wd c (2*w) L:=by rw [hW2,zbE (by omega)]
        rw [e1]
        have qe:=aI qR (aI @qN (aI @hge (aI @hlt (aI @hPR (aI @rtN @rtR)))));repeat' first|refine gC (fun hc=>?_) (fun hc=>?_)<;>try contradiction|refine gG ?_|show AK _;intro K H|refine H _ _ ?_;clear H K|refine gJ ?_;try exact trivial|omega
        exact ⟨2*w,by omega,by omega,by simp only [LV.p.injEq,PV.i.injEq,true_and];omega,rfl,by rw [Wd_len (by omega)];omega⟩
    ·have hwn':((w:Int) < N)=False:=eq_false (by omega)
     have e:Wd c w L=zag c L:=zbE (by omega)
     have qe:=aI qR (aI @hwn' (aI @hWl (aI @rtN @rtR)));repeat' first|refine gC (fun hc=>?_) (fun hc=>?_)<;>try contradiction|refine gG ?_|show AK _;intro K H|refine H _ _ ?_;clear H K|refine gJ ?_;try exact trivial|omega
     rw [e]
     exact .inl (.mk0 (h2:=by simp only [qS,Nat.reduceAdd,Nat.reduceMul,Nat.reduceEqDiff,Nat.reduceLeDiff,reduceIte,reduceCtorEq,Nat.reduceBEq,Nat.reduceLT,keepG.eq_1,keepG.eq_2,gLV.eq_2]<;>simp [hN]))
theorem acts113g (hf:∀ a b:Mov,Pure Tryz.prog f [a.pv,b.pv] (.i .i64 (c a b))) (hs:SW (bfC c)) (L:List Mov) (hn:L.length≤1000000):Acts Tryz.prog 230 [.row 900 L.length,.p (.fn (.func f) [] [])] [(900,.row 180 7 (L.map Mov.pv) false)] (.p (.tup [])) [(900,.row 180 7 ((zag c L).map Mov.pv) false)]:=by
 have hsl:=zaa c L
 refine zS (cF Tryz.func230 Tryz.f230.eq_1) (by simp) (by simp [scPs,scP,zl]) (by simp [scObj]) ⟨rfl,trivial⟩ (by simp [scObj]) (by simp [FolL,zl,zaa]) fun X hX=>?_
 unfold zD ghO
 have qe:=aI qR (aI @qN (aI @gLV.eq_2 (aI @rtN @rtR)));repeat' first|refine gC (fun hc=>?_) (fun hc=>?_)<;>try contradiction|refine zm [] (acts141g hf hs L hn) ?_|refine gG ?_|show AK _;intro K H|refine H _ _ ?_;clear H K|refine gJ ?_;try exact trivial|omega
 exact .inl (.mk0 (h2:=by simp only [qS,Nat.reduceAdd,Nat.reduceMul,Nat.reduceEqDiff,Nat.reduceLeDiff,reduceIte,reduceCtorEq,Nat.reduceBEq,Nat.reduceLT,keepG.eq_1,keepG.eq_2,gLV.eq_2]<;>simp))
end
theorem pure66g (a b:List Mov):Pure Tryz.prog 160 [.sl 7 (a.map Mov.pv),.sl 7 (b.map Mov.pv)] (.tup [.sl 7 ((mgR a b).map Mov.pv),.i .i64 (mgE a b)]):=by
 refine zf (cF Tryz.func160 Tryz.f160.eq_1) (by simp) fun hw X hX=>?_
 have he:(if decide (30000 < (a.length:Int)+b.length)=true then (5:Int) else 0)=(if 30000 < (a.length:Int)+b.length then 5 else 0):=by simp
 have hA:=fun l=>eq_true (allMv l)
 by_cases h0:mgE a b=0
 ·have h0':=eq_true h0
  have hl:a.length+b.length≤1000000:=by
   have h1:=(zaR (zq.1 h0).1).1
   have h2:=(zaR (zq.1 (zq.1 h0).2).1).1
   omega
  have hlen:(a++b).length=a.length+b.length:=List.length_append
  have h113:Acts Tryz.prog 230 [.row 900 (a.length+b.length),.p (.fn (.func 231) [] [])] [(900,.row 180 7 (a.map Mov.pv++b.map Mov.pv) false)] (.p (.tup [])) [(900,.row 180 7 ((mergeM befM a b).map Mov.pv) false)]:=by
   have:=acts113g pure114 (by rw [cmpM_bef];exact befM_sw) (a++b) (by omega)
   rw [hlen,List.map_append,sort_merge] at this;exact this
  have hml:(mergeM befM a b).length=a.length+b.length:=by rw [(merge_perm befM a b).length_eq,hlen]
  have h0b:(zg [zad a,zad b,if 30000 < (a.length:Int)+b.length then 5 else 0]=0)=True:=h0'
  have qe:=aI qR (aI @qN (aI @hA (aI @he (aI @hml @h0b))));repeat' first|refine gC (fun hc=>?_) (fun hc=>?_)<;>try contradiction|refine za (pure24 a) ?_|refine za (pure24 b) ?_|refine za (zbQ _ _) ?_|refine za (zbx [_,_,_]) ?_|refine zm [(5,25)] (acts112 a (by omega)) ?_|refine zm [(900,25)] (h113) ?_|refine gG ?_|show AK _;intro K H|refine H _ _ ?_;clear H K|refine gJ ?_;try exact trivial|omega
  all_goals first|(rw [mgR,if_pos h0,h0];exact .refl _)
 ·have h0':=eq_false h0
  have key:zg [zad a,zad b,if 30000 < IntKind.i64.wrap ((a.length:Int)+b.length) then 5 else 0]=mgE a b:=by
   by_cases h1:zad a=0
   ·by_cases h2:zad b=0
    ·rw [wrap64 (by have:=(zaR h1).1;omega) (by have:=(zaR h1).1;have:=(zaR h2).1;omega)];rfl
    ·simp [mgE,zg,h1,h2]
   ·simp [mgE,zg,h1]
  have qe:=aI qR @he;repeat' first|refine gC (fun hc=>?_) (fun hc=>?_)<;>try contradiction|refine za (pure24 a) ?_|refine za (pure24 b) ?_|refine za (zbQ _ _) ?_|refine za (zbx [_,_,_]) ?_|refine gG ?_|show AK _;intro K H|refine H _ _ ?_;clear H K|refine gJ ?_;try exact trivial|omega
  all_goals first|(rw [key] at hc;exact absurd hc h0)|(rw [key,mgR,if_neg h0];exact weak2 (.nilsl _) (.refl _))
end Go.Proofs.YtahmdjadnlpjoaaGreat
