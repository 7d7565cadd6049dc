/- Contracts of functions that the proof uses, shared by the claims of this seat; no statement of its own. Part 72. No conditions. -/
import Derived.ProofKit
import Derived.OpenShut
import Derived.Carry
import Derived.OpenVars
import Derived.HandedShaped
import Derived.KernelRfl
import Derived.Laws.RangeAny
import Derived.Test.YtahmdjadnlpjoaaGreatRows
import Derived.Test.YtahmdjadnlpjoaaGreatC1
set_option linter.all false
set_option maxHeartbeats 8000000
namespace Go.Proofs.YtahmdjadnlpjoaaGreat
open Go.RowKit
set_option maxRecDepth 100000
set_option linter.unusedVariables false
set_option linter.unusedSimpArgs false
set_option maxHeartbeats 8000000
theorem fE_snoc (l:List Int) (x:Int):zg (l++[x])=if zg l=0 then x else zg l:=by rw [fE_app,fE_one]
theorem fE_pre {l:List Int} {i:Nat} (h:zg (l.take i)≠0):zg l=zg (l.take i):=by
 have:=fE_app (l.take i) (l.drop i)
 rw [List.take_append_drop,if_neg h] at this;exact this
theorem fE_all {l:List Int} {i:Nat} {e a:Int} (he:e=zg (a::l.take i)) (h:i < l.length→e≠0):e=zg (a::l):=by
 by_cases hi:i < l.length
 ·have h1:=h hi
  rw [he] at h1 ⊢
  exact (fE_pre (l:=a::l) (i:=i+1) h1).symm
 ·rw [he,List.take_of_length_le (by omega)]
theorem fE_step {l:List Int} {i:Nat} {a e x:Int} (he:e=zg (a::l.take i)) (h0:e=0) (hx:l[i]?=some x):x=zg (a::l.take (i+1)):=by
 rw [zan hx]
 have:=fE_snoc (a::l.take i) x
 rw [←he,if_pos h0] at this;exact this.symm
def chkS1 (s:Slt):Int:=zg [chkQ s.req,zaH s.holder,if 8 < (s.ls.length:Int) then 5 else 0]
def chkS2 (s:Slt):Int:=zg (chkS1 s::s.ls.mapIdx (leaErr s))
def chkS3 (s:Slt):Int:=zg [chkS2 s,if 4 < (s.sh.length:Int) then 5 else 0]
theorem fE_out (a:Int) (l:List Int):zg [a,zg l]=zg (a::l):=by
 by_cases h:a=0
 ·rw [za3 h,za3 h,fE_one]
 ·rw [za2 h,za2 h]
theorem fE_cat (l r:List Int):zg (zg l::r)=zg (l++r):=by
 rw [fE_app]
 by_cases h:zg l=0
 ·rw [za3 h,if_pos h]
 ·rw [za2 h,if_neg h]
theorem chkS_all (s:Slt):chkSlt s=zg (chkS3 s::s.sh.mapIdx (shaErr s)):=by
 rw [chkS3,fE_cat,List.cons_append,List.cons_append,List.nil_append,chkS2,fE_cat,List.cons_append,chkS1,fE_cat,chkSlt]
 rw [fE_app [_,_,_]]
 have e:zg [zg (s.ls.mapIdx (leaErr s)),if 4 < (s.sh.length:Int) then 5 else 0,zg (s.sh.mapIdx (shaErr s))]=zg (s.ls.mapIdx (leaErr s)++(if 4 < (s.sh.length:Int) then 5 else 0)::s.sh.mapIdx (shaErr s)):=by
  rw [fE_cat,fE_app,fE_app (s.ls.mapIdx (leaErr s)),fE_out]
 rw [←e]
 exact fE_app [_,_,_] [_,_,_]
abbrev stS (s:Slt) (e:Int):St:=⟨[(1,.lp 1 0),(3,.p (.i .i64 e))],[(1,.box (s.cells.map .p) false)],[],false⟩
theorem pure1092 (s:Slt):Pure Tryz.prog 27 [s.pv] (.i .i64 (chkSlt s)):=by
 refine zf (cF Tryz.func27 Tryz.f27.eq_1) (by simp) fun hw X hX=>?_
 simp only [wfs,PV.wf,List.length_map,maxLen] at hw
 have hS1:chkS1 s=if zg [chkQ s.req,zaH s.holder]=0 then (if 8 < (s.ls.length:Int) then 5 else 0) else zg [chkQ s.req,zaH s.holder]:=fE_snoc [_,_] _
 have hS3:chkS3 s=if chkS2 s=0 then (if 4 < (s.sh.length:Int) then 5 else 0) else chkS2 s:=by
  have:=fE_snoc [chkS2 s] (if 4 < (s.sh.length:Int) then 5 else 0)
  rw [fE_one] at this;exact this
 have qe:=@qR;repeat' first|refine za (pure1044 s.req) ?_|refine za (pure1133 s.holder) ?_|refine za (pure1024 [_,_]) ?_|refine gG ?_|show AK _;intro K H|refine H _ _ ?_;clear H K|refine gJ ?_;try exact trivial|omega
 refine run_cut (stS s (chkS1 s)) ?_ ?_
 ·(refine gC (fun hc=>?_) (fun hc=>?_)<;>try contradiction)
  ·rw [hS1,if_pos hc.1,if_pos hc.2]
   repeat' first|refine gC (fun hc=>?_) (fun hc=>?_)<;>try contradiction|refine gG ?_|show AK _;intro K H|refine H _ _ ?_;clear H K|refine gJ ?_;try exact trivial|omega
   all_goals (show Cov _ _;simp only [qS,Nat.reduceAdd,Nat.reduceMul,Nat.reduceEqDiff,Nat.reduceLeDiff,reduceIte,reduceCtorEq,Nat.reduceBEq,Nat.reduceLT]<;>simp)
  ·have e:chkS1 s=zg [chkQ s.req,zaH s.holder]:=by
    rw [hS1];split
    ·rename_i h;rw [if_neg (by have:=hc h;omega),h]
    ·rfl
   rw [e]
   repeat' first|refine gC (fun hc=>?_) (fun hc=>?_)<;>try contradiction|refine gG ?_|show AK _;intro K H|refine H _ _ ?_;clear H K|refine gJ ?_;try exact trivial|omega
   all_goals (show Cov _ _;simp only [qS,Nat.reduceAdd,Nat.reduceMul,Nat.reduceEqDiff,Nat.reduceLeDiff,reduceIte,reduceCtorEq,Nat.reduceBEq,Nat.reduceLT]<;>simp)
 refine run_seq (run_cut (stS s (chkS2 s)) ?_ ?_)
 ·repeat' first|refine gC (fun hc=>?_) (fun hc=>?_)<;>try contradiction|refine gG ?_|show AK _;intro K H|refine H _ _ ?_;clear H K|refine gJ ?_;try exact trivial|omega
  refine zk (κ:=Nat × Int) (fun k=>⟨[(1,.lp 1 0),(3,.p (.i .i64 k.2)),(4,.p (.i .i64 k.1))],[(1,.box (s.cells.map .p) false)],[],false⟩) (fun k=>k.1≤s.ls.length∧k.2=zg (chkS1 s::(s.ls.mapIdx (leaErr s)).take k.1)) (fun k=>s.ls.length - k.1) (0,chkS1 s) ?_ ?_ ?_
  ·exact sS
  ·simp [fE_one]
  ·rintro ⟨i,e⟩ ⟨hi,he⟩
   simp only at hi he
   repeat first|refine gG ?_|show AK _;intro K H|refine H _ _ ?_;clear H K|refine gJ ?_;try exact trivial|omega
   (refine gC (fun hc=>?_) (fun hc=>?_)<;>try contradiction)
   ·obtain ⟨h1,h2⟩:=hc
    obtain ⟨x,hx⟩:=zn (i:=i) (l:=s.ls) (by omega)
    obtain ⟨y,hy⟩:=zn (i:=i - 1) (l:=s.ls) (by omega)
    have e1:((i:Int) - 1).toNat=i - 1:=by omega
    have hl:leaErr s i x=if zg [chkLea x,leaOf s.raw x]=0 then (if 0 < (i:Int)∧x.fro≤y.to then 15 else 0) else zg [chkLea x,leaOf s.raw x]:=by
     rw [leaErr,hy];exact fE_snoc [_,_] _
    have hn:=fE_step he h2 (zI (f:=leaErr s) hx)
    by_cases c1:zg [chkLea x,leaOf s.raw x]=0
    ·have c1':=eq_true c1
     rw [if_pos c1] at hl
     by_cases c2:0 < (i:Int)
     ·have c2':=eq_true c2
      by_cases c3:x.fro≤y.to
      ·have c3':=eq_true c3
       rw [if_pos ⟨c2,c3⟩] at hl
       rw [hl] at hn
       have qe:=aI qR (aI @hx (aI @hy (aI @e1 (aI @c1' (aI @c2' (aI @c3' @decide_true))))));repeat' first|refine gC (fun hc=>?_) (fun hc=>?_)<;>try contradiction|refine za (pure1131 x) ?_|refine za (pure1132 s x) ?_|refine za (pure1024 [_,_]) ?_|refine gG ?_|show AK _;intro K H|refine H _ _ ?_;clear H K|refine gJ ?_;try exact trivial|omega
       all_goals exact ⟨(i+1,15),⟨by omega,hn⟩,by simp;omega,by simp⟩
      ·have c3':=eq_false c3
       rw [if_neg (fun k=>c3 k.2)] at hl
       rw [hl] at hn
       have qe:=aI qR (aI @hx (aI @hy (aI @e1 (aI @c1' (aI @c2' (aI @c3' (aI @decide_true @decide_false)))))));repeat' first|refine gC (fun hc=>?_) (fun hc=>?_)<;>try contradiction|refine za (pure1131 x) ?_|refine za (pure1132 s x) ?_|refine za (pure1024 [_,_]) ?_|refine gG ?_|show AK _;intro K H|refine H _ _ ?_;clear H K|refine gJ ?_;try exact trivial|omega
       all_goals exact ⟨(i+1,zg [chkLea x,leaOf s.raw x]),⟨by omega,by rw [c1];exact hn⟩,by simp;omega,by simp⟩
     ·have c2':=eq_false c2
      rw [if_neg (fun k=>c2 k.1)] at hl
      rw [hl] at hn
      have qe:=aI qR (aI @hx (aI @hy (aI @e1 (aI @c1' (aI @c2' (aI @decide_true @decide_false))))));repeat' first|refine gC (fun hc=>?_) (fun hc=>?_)<;>try contradiction|refine za (pure1131 x) ?_|refine za (pure1132 s x) ?_|refine za (pure1024 [_,_]) ?_|refine gG ?_|show AK _;intro K H|refine H _ _ ?_;clear H K|refine gJ ?_;try exact trivial|omega
      all_goals exact ⟨(i+1,zg [chkLea x,leaOf s.raw x]),⟨by omega,by rw [c1];exact hn⟩,by simp;omega,by simp⟩
    ·have c1':=eq_false c1
     rw [if_neg c1] at hl
     rw [hl] at hn
     have qe:=aI qR (aI @hx (aI @hy (aI @e1 (aI @c1' @decide_false))));repeat' first|refine gC (fun hc=>?_) (fun hc=>?_)<;>try contradiction|refine za (pure1131 x) ?_|refine za (pure1132 s x) ?_|refine za (pure1024 [_,_]) ?_|refine gG ?_|show AK _;intro K H|refine H _ _ ?_;clear H K|refine gJ ?_;try exact trivial|omega
     all_goals exact ⟨(i+1,zg [chkLea x,leaOf s.raw x]),⟨by omega,hn⟩,by simp;omega,by simp⟩
   ·have hf:=fE_all he (fun h=>hc (by simpa using h))
    repeat' first|refine gC (fun hc=>?_) (fun hc=>?_)<;>try contradiction|refine gG ?_|show AK _;intro K H|refine H _ _ ?_;clear H K|refine gJ ?_;try exact trivial|omega
    all_goals (show Cov _ _;simp only [qS,Nat.reduceAdd,Nat.reduceMul,Nat.reduceEqDiff,Nat.reduceLeDiff,reduceIte,reduceCtorEq,Nat.reduceBEq,Nat.reduceLT,hf]<;>simp [chkS2])
 repeat' first|refine gG ?_|show AK _;intro K H|refine H _ _ ?_;clear H K|refine gJ ?_;try exact trivial|omega
 refine run_cut (stS s (chkS3 s)) ?_ ?_
 ·(refine gC (fun hc=>?_) (fun hc=>?_)<;>try contradiction)
  ·rw [hS3,if_pos hc.1,if_pos hc.2]
   repeat' first|refine gC (fun hc=>?_) (fun hc=>?_)<;>try contradiction|refine gG ?_|show AK _;intro K H|refine H _ _ ?_;clear H K|refine gJ ?_;try exact trivial|omega
   all_goals (show Cov _ _;simp only [qS,Nat.reduceAdd,Nat.reduceMul,Nat.reduceEqDiff,Nat.reduceLeDiff,reduceIte,reduceCtorEq,Nat.reduceBEq,Nat.reduceLT]<;>simp)
  ·have e:chkS3 s=chkS2 s:=by
    rw [hS3];split
    ·rename_i h;rw [if_neg (by have:=hc h;omega),h]
    ·rfl
   rw [e]
   repeat' first|refine gC (fun hc=>?_) (fun hc=>?_)<;>try contradiction|refine gG ?_|show AK _;intro K H|refine H _ _ ?_;clear H K|refine gJ ?_;try exact trivial|omega
   all_goals (show Cov _ _;simp only [qS,Nat.reduceAdd,Nat.reduceMul,Nat.reduceEqDiff,Nat.reduceLeDiff,reduceIte,reduceCtorEq,Nat.reduceBEq,Nat.reduceLT]<;>simp)
 repeat' first|refine gC (fun hc=>?_) (fun hc=>?_)<;>try contradiction|refine gG ?_|show AK _;intro K H|refine H _ _ ?_;clear H K|refine gJ ?_;try exact trivial|omega
 refine zk (κ:=Nat × Int) (fun k=>⟨[(1,.lp 1 0),(3,.p (.i .i64 k.2)),(5,.p (.i .i64 k.1))],[(1,.box (s.cells.map .p) false)],[],false⟩) (fun k=>k.1≤s.sh.length∧k.2=zg (chkS3 s::(s.sh.mapIdx (shaErr s)).take k.1)) (fun k=>s.sh.length - k.1) (0,chkS3 s) ?_ ?_ ?_
 ·exact sS
 ·simp [fE_one]
 ·rintro ⟨i,e⟩ ⟨hi,he⟩
  simp only at hi he
  repeat first|refine gG ?_|show AK _;intro K H|refine H _ _ ?_;clear H K|refine gJ ?_;try exact trivial|omega
  (refine gC (fun hc=>?_) (fun hc=>?_)<;>try contradiction)
  ·obtain ⟨h1,h2⟩:=hc
   obtain ⟨x,hx⟩:=zn (i:=i) (l:=s.sh) (by omega)
   have hn:=fE_step he h2 (zI (f:=shaErr s) hx)
   have e31:((31:Int)=0)=False:=eq_false (by omega)
   by_cases d1:zaH x=0
   ·have d1':=eq_true d1
    by_cases d2:x=s.holder
    ·have d2':=eq_true d2
     have hv:shaErr s i x=31:=by rw [shaErr,za3 d1,if_pos d2,za2 (by omega)]
     rw [hv] at hn
     have qe:=aI qR (aI @hx (aI @take_map (aI @d1' (aI @d2' (aI @e31 (aI @decide_true @decide_false))))));repeat' first|refine gC (fun hc=>?_) (fun hc=>?_)<;>try contradiction|refine za (pure1133 x) ?_|refine zN (fun _=>pure1074 (s.sh.take i) x) ?_|refine gG ?_|show AK _;intro K H|refine H _ _ ?_;clear H K|refine gJ ?_;try exact trivial|omega
     all_goals exact ⟨(i+1,31),⟨by omega,hn⟩,by simp;omega,by simp⟩
    ·have d2':=eq_false d2
     by_cases d3:0≤atL x (s.sh.take i)
     ·have d3':=eq_true d3
      have hv:shaErr s i x=9:=by rw [shaErr,za3 d1,if_neg d2,za3 rfl,fE_one,if_pos d3]
      rw [hv] at hn
      have qe:=aI qR (aI @hx (aI @take_map (aI @d1' (aI @d2' (aI @d3' (aI @decide_true @decide_false))))));repeat' first|refine gC (fun hc=>?_) (fun hc=>?_)<;>try contradiction|refine za (pure1133 x) ?_|refine zN (fun _=>pure1074 (s.sh.take i) x) ?_|refine gG ?_|show AK _;intro K H|refine H _ _ ?_;clear H K|refine gJ ?_;try exact trivial|omega
      all_goals exact ⟨(i+1,9),⟨by omega,hn⟩,by simp;omega,by simp⟩
     ·have d3':=eq_false d3
      have hv:shaErr s i x=0:=by rw [shaErr,za3 d1,if_neg d2,za3 rfl,fE_one,if_neg d3]
      rw [hv] at hn
      have qe:=aI qR (aI @hx (aI @take_map (aI @d1' (aI @d2' (aI @d3' (aI @decide_true @decide_false))))));repeat' first|refine gC (fun hc=>?_) (fun hc=>?_)<;>try contradiction|refine za (pure1133 x) ?_|refine zN (fun _=>pure1074 (s.sh.take i) x) ?_|refine gG ?_|show AK _;intro K H|refine H _ _ ?_;clear H K|refine gJ ?_;try exact trivial|omega
      all_goals exact ⟨(i+1,zaH x),⟨by omega,by rw [d1];exact hn⟩,by simp;omega,by simp⟩
   ·have d1':=eq_false d1
    have hv:shaErr s i x=zaH x:=by rw [shaErr,za2 d1]
    rw [hv] at hn
    have qe:=aI qR (aI @hx (aI @take_map (aI @d1' @decide_false)));repeat' first|refine gC (fun hc=>?_) (fun hc=>?_)<;>try contradiction|refine za (pure1133 x) ?_|refine zN (fun _=>pure1074 (s.sh.take i) x) ?_|refine gG ?_|show AK _;intro K H|refine H _ _ ?_;clear H K|refine gJ ?_;try exact trivial|omega
    all_goals exact ⟨(i+1,zaH x),⟨by omega,hn⟩,by simp;omega,by simp⟩
  ·have hf:=fE_all he (fun h=>hc (by simpa using h))
   rw [chkS_all,←hf]
   repeat' first|refine gC (fun hc=>?_) (fun hc=>?_)<;>try contradiction|refine gG ?_|show AK _;intro K H|refine H _ _ ?_;clear H K|refine gJ ?_;try exact trivial|omega
   all_goals exact .refl _
set_option maxRecDepth 100000
set_option linter.unusedVariables false
set_option linter.unusedSimpArgs false
set_option maxHeartbeats 8000000
theorem pure1019 (b:Bk) (hb:BkOk b):Pure Tryz.prog 19 [b.pv] b.pv:=by
 obtain ⟨hs,hn,hw1⟩:=hb
 refine zf (cF Tryz.func19 Tryz.f19.eq_1) (by simp) fun hw X hX=>?_
 have qe:=@qR;repeat' first|refine gC (fun hc=>?_) (fun hc=>?_)<;>try contradiction|refine gG ?_|show AK _;intro K H|refine H _ _ ?_;clear H K|refine gJ ?_;try exact trivial|omega
 refine zaO 100 59 16 [(1,.lp 1 0),(2,.lp 2 0),(3,.lp 3 0),(12,.p (.sl 16 (b.slots.map Slt.pv))),(13,.p (.i .i64 b.slots.length)),(14,.p (.i .i64 0))] [(1,.box [.p (.sl 16 (b.slots.map Slt.pv)),.p (.sl 14 (b.wait.map Wsh.pv))] false),(2,.box [.p .nilsl,.p .nilsl] false),(3,.box [.row 100 0,.p .nilsl] false)] ?_ ?_
 ·simp only [Own,zaL,zaB,zbt,zay,qS,Nat.reduceAdd,Nat.reduceMul,Nat.reduceEqDiff,Nat.reduceLeDiff,reduceIte,reduceCtorEq,Nat.reduceBEq,Nat.reduceLT]<;>simp
 refine zk (κ:=Nat) (fun k=>⟨[(1,.lp 1 0),(2,.lp 2 0),(3,.lp 3 0),(12,.p (.sl 16 (b.slots.map Slt.pv))),(13,.p (.i .i64 b.slots.length)),(14,.p (.i .i64 k))],[(1,.box [.p (.sl 16 (b.slots.map Slt.pv)),.p (.sl 14 (b.wait.map Wsh.pv))] false),(2,.box [.p .nilsl,.p .nilsl] false),(3,.box [.row 100 k,.p .nilsl] false),(100,.row 59 16 ((b.slots.take k).map Slt.pv) false)],[],false⟩) (fun k=>k≤b.slots.length) (fun k=>b.slots.length - k) 0 ?_ ?_ ?_
 ·exact sS
 ·simp
 ·intro k hk
  have hlk:(b.slots.take k).length=k:=by rw [List.length_take];omega
  repeat first|refine gG ?_|show AK _;intro K H|refine H _ _ ?_;clear H K|refine gJ ?_;try exact trivial|omega
  (refine gC (fun hc=>?_) (fun hc=>?_)<;>try contradiction)
  ·obtain ⟨s,hx⟩:=zn (i:=k) (l:=b.slots) (by omega)
   obtain ⟨hl1,hl2⟩:=hs s (List.mem_of_getElem? hx)
   have qe:=aI qR (aI @hx (aI @allSt @zaf));repeat' first|refine gC (fun hc=>?_) (fun hc=>?_)<;>try contradiction|refine gG ?_|show AK _;intro K H|refine H _ _ ?_;clear H K|refine gJ ?_;try exact trivial|omega
   refine zaO 101 102 3 [(1,.lp 1 0),(2,.lp 2 0),(3,.lp 3 0),(12,.p (.sl 16 (b.slots.map Slt.pv))),(13,.p (.i .i64 b.slots.length)),(14,.p (.i .i64 k)),(5,.lp 5 0),(6,.lp 6 0),(28,.p (.sl 3 (s.ls.map Lea.pv))),(29,.p (.i .i64 s.ls.length)),(30,.p (.i .i64 0))] [(1,.box [.p (.sl 16 (b.slots.map Slt.pv)),.p (.sl 14 (b.wait.map Wsh.pv))] false),(2,.box [.p .nilsl,.p .nilsl] false),(3,.box [.row 100 k,.p .nilsl] false),(100,.row 59 16 ((b.slots.take k).map Slt.pv) false),(5,.box (s.cells.map .p) false),(6,.box [.p (.s s.req.name),.p (.s s.req.carrier),.p (.s s.req.kind),.p (.s s.req.term),.p (.s s.req.partner),.p (.s s.req.link),.p (.i .i64 s.req.per.fro),.p (.i .i64 s.req.per.to),.p (.i .i64 s.req.per.days),.p (.i .i64 s.req.minute),.p (.i .i64 s.req.seats),.p (.i .i64 s.req.size),.p (.i .i64 s.req.noise),.p (.s s.holder),.row 101 0,.row 22 s.sh.length] false),(22,.row 9 1 (s.sh.map .s) false)] ?_ ?_
   ·simp only [Own,zaL,zaB,zbt,zay,qS,Nat.reduceAdd,Nat.reduceMul,Nat.reduceEqDiff,Nat.reduceLeDiff,reduceIte,reduceCtorEq,Nat.reduceBEq,Nat.reduceLT]<;>simp [hlk]
   refine zk (κ:=Nat) (fun i=>⟨[(1,.lp 1 0),(2,.lp 2 0),(3,.lp 3 0),(12,.p (.sl 16 (b.slots.map Slt.pv))),(13,.p (.i .i64 b.slots.length)),(14,.p (.i .i64 k)),(5,.lp 5 0),(6,.lp 6 0),(28,.p (.sl 3 (s.ls.map Lea.pv))),(29,.p (.i .i64 s.ls.length)),(30,.p (.i .i64 i))],[(1,.box [.p (.sl 16 (b.slots.map Slt.pv)),.p (.sl 14 (b.wait.map Wsh.pv))] false),(2,.box [.p .nilsl,.p .nilsl] false),(3,.box [.row 100 k,.p .nilsl] false),(100,.row 59 16 ((b.slots.take k).map Slt.pv) false),(5,.box (s.cells.map .p) false),(6,.box [.p (.s s.req.name),.p (.s s.req.carrier),.p (.s s.req.kind),.p (.s s.req.term),.p (.s s.req.partner),.p (.s s.req.link),.p (.i .i64 s.req.per.fro),.p (.i .i64 s.req.per.to),.p (.i .i64 s.req.per.days),.p (.i .i64 s.req.minute),.p (.i .i64 s.req.seats),.p (.i .i64 s.req.size),.p (.i .i64 s.req.noise),.p (.s s.holder),.row 101 i,.row 22 s.sh.length] false),(22,.row 9 1 (s.sh.map .s) false),(101,.row 102 3 ((s.ls.take i).map Lea.pv) false)],[],false⟩) (fun i=>i≤s.ls.length) (fun i=>s.ls.length - i) 0 ?_ ?_ ?_
   ·refine gJ ?_;simp [hlk]
   ·simp
   ·intro i hi
    have hli:(s.ls.take i).length=i:=by rw [List.length_take];omega
    repeat first|refine gG ?_|show AK _;intro K H|refine H _ _ ?_;clear H K|refine gJ ?_;try exact trivial|omega
    (refine gC (fun hc=>?_) (fun hc=>?_)<;>try contradiction)
    ·obtain ⟨x,hx2⟩:=zn (i:=i) (l:=s.ls) (by omega)
     have qe:=aI qR (aI @hx2 (aI @hli @hlk));repeat' first|refine gC (fun hc=>?_) (fun hc=>?_)<;>try contradiction|refine gG ?_|show AK _;intro K H|refine H _ _ ?_;clear H K|refine gJ ?_;try exact trivial|omega
     exact ⟨i+1,by omega,by omega,by simp,⟨rfl,by rw [zan hx2];simp⟩,by simp;omega⟩
    ·have e:i=s.ls.length:=by omega
     subst e
     refine run_exit ?_
     refine (show Run _ (.ops false _) _ _ from run_region (run_partN 3 ?_))
     simp only [List.take_succ_cons,List.take_zero,List.drop_succ_cons,List.drop_zero]
     have qe:=aI qR (aI @zaf (aI @hlk @List.take_length.{0}));repeat' first|refine gC (fun hc=>?_) (fun hc=>?_)<;>try contradiction|refine gG ?_|show AK _;intro K H|refine H _ _ ?_;clear H K|refine gJ ?_;try exact trivial|omega
     refine zbO (ghost_pub 43 s.pv (by simp only [qS,Nat.reduceAdd,Nat.reduceMul,Nat.reduceEqDiff,Nat.reduceLeDiff,reduceIte,reduceCtorEq,Nat.reduceBEq,Nat.reduceLT,zaf]<;>rfl) (by first|trivial|simp) (.refl _)) ?_
     rintro _ rfl
     refine zE ?_
     have qe:=aI qR @hlk;repeat' first|refine gC (fun hc=>?_) (fun hc=>?_)<;>try contradiction|refine gG ?_|show AK _;intro K H|refine H _ _ ?_;clear H K|refine gJ ?_;try exact trivial|omega
     exact ⟨k+1,by omega,by omega,by simp,⟨rfl,by rw [zan hx];simp⟩,by simp;omega⟩
  ·have e:k=b.slots.length:=by omega
   subst e
   have qe:=aI qR @List.take_length.{0};repeat' first|refine gC (fun hc=>?_) (fun hc=>?_)<;>try contradiction|refine gG ?_|show AK _;intro K H|refine H _ _ ?_;clear H K|refine gJ ?_;try exact trivial|omega
   refine zaO 102 71 14 [(2,.lp 2 0),(3,.lp 3 0),(49,.p (.sl 14 (b.wait.map Wsh.pv))),(50,.p (.i .i64 b.wait.length)),(51,.p (.i .i64 0))] [(1,.box [.p (.sl 16 (b.slots.map Slt.pv)),.p (.sl 14 (b.wait.map Wsh.pv))] false),(2,.box [.p .nilsl,.p .nilsl] false),(3,.box [.row 100 b.slots.length,.row 102 0] false),(100,.row 59 16 (b.slots.map Slt.pv) false)] ?_ ?_
   ·simp only [Own,zaL,zaB,zbt,zay,qS,Nat.reduceAdd,Nat.reduceMul,Nat.reduceEqDiff,Nat.reduceLeDiff,reduceIte,reduceCtorEq,Nat.reduceBEq,Nat.reduceLT]<;>simp
   refine zk (κ:=Nat) (fun k=>⟨[(2,.lp 2 0),(3,.lp 3 0),(49,.p (.sl 14 (b.wait.map Wsh.pv))),(50,.p (.i .i64 b.wait.length)),(51,.p (.i .i64 k))],[(1,.box [.p (.sl 16 (b.slots.map Slt.pv)),.p (.sl 14 (b.wait.map Wsh.pv))] false),(2,.box [.p .nilsl,.p .nilsl] false),(3,.box [.row 100 b.slots.length,.row 102 k] false),(100,.row 59 16 (b.slots.map Slt.pv) false),(102,.row 71 14 ((b.wait.take k).map Wsh.pv) false)],[],false⟩) (fun k=>k≤b.wait.length) (fun k=>b.wait.length - k) 0 ?_ ?_ ?_
   ·exact sS
   ·simp
   ·intro k hk2
    have hl2:(b.wait.take k).length=k:=by rw [List.length_take];omega
    repeat first|refine gG ?_|show AK _;intro K H|refine H _ _ ?_;clear H K|refine gJ ?_;try exact trivial|omega
    (refine gC (fun hc=>?_) (fun hc=>?_)<;>try contradiction)
    ·obtain ⟨w,hx2⟩:=zn (i:=k) (l:=b.wait) (by omega)
     have qe:=aI qR (aI @hx2 @hl2);repeat' first|refine gC (fun hc=>?_) (fun hc=>?_)<;>try contradiction|refine gG ?_|show AK _;intro K H|refine H _ _ ?_;clear H K|refine gJ ?_;try exact trivial|omega
     exact ⟨k+1,by omega,by omega,by simp,⟨rfl,by rw [zan hx2];simp⟩,by simp;omega⟩
    ·have e2:k=b.wait.length:=by omega
     subst e2
     have qe:=aI qR (aI @zaf @List.take_length.{0});repeat' first|refine gC (fun hc=>?_) (fun hc=>?_)<;>try contradiction|refine gG ?_|show AK _;intro K H|refine H _ _ ?_;clear H K|refine gJ ?_;try exact trivial|omega
     exact .refl _
set_option maxRecDepth 100000
set_option linter.unusedVariables false
set_option linter.unusedSimpArgs false
set_option maxHeartbeats 8000000
theorem allSl (l:List Slt):l.all ((fun x=>x.cells.all PV.one) ∘ Slt.pv)=true:=by rw [List.all_eq_true];intro x _;rfl
def setB (b:Bk) (i:Nat) (s:Slt):Bk:=⟨b.slots.set i s,b.wait⟩
theorem pure1128 (b:Bk) (i:Nat) (s:Slt) (hi:i < b.slots.length) (hn:b.slots.length≤1000):Pure Tryz.prog 145 [b.pv,.i .i64 i,s.pv] (setB b i s).pv:=by
 refine zf (cF Tryz.func145 Tryz.f145.eq_1) (by simp) fun hw X hX=>?_
 show Run _ _ _ (retQ _ (.agg [.sl 16 ((b.slots.set i s).map Slt.pv),.sl 14 (b.wait.map Wsh.pv)]))
 rw [List.map_set]
 have qe:=aI qR (aI @allSl @zaf);repeat' first|refine gC (fun hc=>?_) (fun hc=>?_)<;>try contradiction|refine gG ?_|show AK _;intro K H|refine H _ _ ?_;clear H K|refine gJ ?_;try exact trivial|omega
 all_goals first|exact .refl _
theorem ownI_eq {b:Bk} {c n:ByteArray} {e:Int} (h:ownE b c n e=0):ownI b c n=(zA b n:Int)∧zA b n < b.slots.length:=by
 obtain ⟨h1,h2,_,h4⟩:=za8 h
 have hc:zaH c=0:=fE0 h4 _ (by simp)
 exact ⟨by rw [ownI,if_pos hc,fndI,if_neg h1,zA];omega,(List.getElem?_eq_some_iff.1 h2).1⟩
theorem pure1065 (b:Bk) (c n to:ByteArray) (hb:BkOk b):Pure Tryz.prog 74 [b.pv,.s c,.s n,.s to] (.tup [(trB b c n to).pv,.i .i64 (trC b c n to)]):=by
 refine zat (r:=if trC b c n to=0 then .tup [(chgB b n (trS (zo b n) to)).pv,.i .i64 0] else .tup [.agg [.nilsl,.nilsl],.i .i64 (trC b c n to)]) ?_ ?_
 ·refine zf (cF Tryz.func74 Tryz.f74.eq_1) (by simp) fun hw X hX=>?_
  by_cases hown:ownE b c n (zaH to)=0
  ·obtain ⟨h1,h2,h3,h4⟩:=za8 hown
   obtain ⟨hI,hlt⟩:=ownI_eq hown
   have hC:trC b c n to=trE (zo b n) to:=by rw [trC,chgC,za3 hown,fE_one]
   generalize hso:zo b n=s at h2 h3 hC
   have ht0:=eq_true hown
   by_cases ht:to=c
   ·have e:trC b c n to=31:=by rw [hC,trE,za2 (by rw [if_pos (ht.trans h3.symm)];omega),if_pos (ht.trans h3.symm)]
    have ht':=eq_true ht
    rw [e,if_neg (by omega)]
    have qe:=aI qR (aI @hI (aI @h2 (aI @ht0 (aI @ht' (aI @decide_true (aI @decide_false @zbb))))));repeat' first|refine gC (fun hc=>?_) (fun hc=>?_)<;>try contradiction|refine za (pure1133 to) ?_|refine za (pure1127 b c n (zaH to)) ?_|refine gG ?_|show AK _;intro K H|refine H _ _ ?_;clear H K|refine gJ ?_;try exact trivial|omega
    all_goals exact .refl _
   ·have ht':=eq_false ht
    have hE:trE s to=if 0 < (s.ls.length:Int) then 19 else 0:=by rw [trE,za3 (if_neg (fun k=>ht (k.trans h3))),fE_one]
    by_cases hl:0 < (s.ls.length:Int)
    ·have e:trC b c n to=19:=by rw [hC,hE,if_pos hl]
     have hl':=eq_true hl
     rw [e,if_neg (by omega)]
     have qe:=aI qR (aI @hI (aI @h2 (aI @ht0 (aI @ht' (aI @hl' (aI @decide_true (aI @decide_false @zbb)))))));repeat' first|refine gC (fun hc=>?_) (fun hc=>?_)<;>try contradiction|refine za (pure1133 to) ?_|refine za (pure1127 b c n (zaH to)) ?_|refine gG ?_|show AK _;intro K H|refine H _ _ ?_;clear H K|refine gJ ?_;try exact trivial|omega
     all_goals exact .refl _
    ·have e:trC b c n to=0:=by rw [hC,hE,if_neg hl]
     have hl':=eq_false hl
     have hP:Pure Tryz.prog 145 [b.pv,.i .i64 (zA b n),trW s to] (setB b (zA b n) (trS s to)).pv:=pure_in (pure1128 b (zA b n) (trS s to) hlt hb.n) ⟨.refl _,.refl _,.agg (wk_trW s to),trivial⟩
     rw [e,if_pos rfl]
     have qe:=aI qR (aI @hI (aI @h2 (aI @ht0 (aI @ht' (aI @hl' (aI @decide_true (aI @decide_false @zbb)))))));repeat' first|refine gC (fun hc=>?_) (fun hc=>?_)<;>try contradiction|refine za (pure1133 to) ?_|refine za (pure1127 b c n (zaH to)) ?_|refine za (hP) ?_|refine gG ?_|show AK _;intro K H|refine H _ _ ?_;clear H K|refine gJ ?_;try exact trivial|omega
     all_goals exact .refl _
  ·have e:trC b c n to=ownE b c n (zaH to):=by rw [trC,chgC,za2 hown]
   have ht0:=eq_false hown
   rw [e,if_neg hown]
   rcases hsx:b.slots[(ownI b c n).toNat]? with _|sx
   ·have qe:=aI qR (aI @ht0 (aI @hsx (aI @decide_false @Bool.not_false)));repeat' first|refine gC (fun hc=>?_) (fun hc=>?_)<;>try contradiction|refine za (pure1133 to) ?_|refine za (pure1127 b c n (zaH to)) ?_|refine gG ?_|show AK _;intro K H|refine H _ _ ?_;clear H K|refine gJ ?_;try exact trivial|omega
    all_goals exact .refl _
   ·have qe:=aI qR (aI @ht0 (aI @hsx (aI @decide_false @Bool.not_false)));repeat' first|refine gC (fun hc=>?_) (fun hc=>?_)<;>try contradiction|refine za (pure1133 to) ?_|refine za (pure1127 b c n (zaH to)) ?_|refine gG ?_|show AK _;intro K H|refine H _ _ ?_;clear H K|refine gJ ?_;try exact trivial|omega
    all_goals exact .refl _
 ·by_cases h:trC b c n to=0
  ·rw [if_pos h,trB,if_pos h,h];exact .refl _
  ·rw [if_neg h,trB_0 h];exact zbw _
set_option maxRecDepth 100000
set_option linter.unusedVariables false
set_option linter.unusedSimpArgs false
set_option maxHeartbeats 8000000
theorem atL_at {n:ByteArray}:∀ {l:List ByteArray},¬atL n l < 0→l[(atL n l).toNat]?=some n
 | [],h=>absurd (show atL n [] < 0 by simp [atL]) h
 | x::r,h=>by
  simp only [atL] at h ⊢
  split
  ·rename_i e;simp [e]
  ·rename_i e
   rw [if_neg e] at h
   split
   ·rename_i k;rw [if_pos k] at h;omega
   ·rename_i k
    have h2:=atL_at (l:=r) k
    have h3:(atL n r+1).toNat=(atL n r).toNat+1:=by omega
    rw [h3];simpa using h2
theorem slotI_name {b:Bk} {n:ByteArray} (h:¬atL n (b.slots.map (·.req.name)) < 0):(b.slots.map (·.req.name))[zA b n]?=some n:=atL_at h
theorem slotI_inj {b:Bk} {n m:ByteArray} (h:¬atL n (b.slots.map (·.req.name)) < 0) (k:¬atL m (b.slots.map (·.req.name)) < 0):zA b n=zA b m↔n=m:=
 ⟨fun e=>by have h1:=slotI_name h;have h2:=slotI_name k;rw [e,h2] at h1;exact (Option.some.inj h1).symm,fun e=>by rw [e]⟩
theorem passT_len (b:Bk) (N:List ByteArray):∀ k,(passT b N k).length=b.slots.length
 | 0=>rfl
 | k+1=>by simp [passT,passT_len b N k]
theorem pure1138 (b:Bk) (N:List ByteArray) (hb:BkOk b) (hN:∀ n ∈ N,¬atL n (b.slots.map (·.req.name)) < 0) (hn:N.length≤1000) :
  Pure Tryz.prog 150 [b.pv,.sl 1 ((N.map fun n=>(zA b n:Int)).map (.i .i64))] (.tup [(passB b N).pv,.i .i64 (passE b N)]):=by
 obtain ⟨hs,hn1,hwl⟩:=hb
 have hok:BkOk b:=⟨hs,hn1,hwl⟩
 refine zat (r:=if passE b N=0 then .tup [.agg [.sl 16 ((passT b N N.length).map Slt.pv),.sl 14 (b.wait.map Wsh.pv)],.i .i64 0] else .tup [.agg [.nilsl,.nilsl],.i .i64 (passE b N)]) ?_ ?_
 ·refine zf (cF Tryz.func150 Tryz.f150.eq_1) (by simp) fun hw X hX=>?_
  generalize hA:(N.map fun n=>(zA b n:Int))=A
  have hAl:A.length=N.length:=by rw [←hA,List.length_map]
  have hAt:∀ {i:Nat} {x:ByteArray},N[i]?=some x→A[i]?=some (zA b x:Int):=fun h=>by rw [←hA,List.getElem?_map,h];rfl
  generalize hH:passH b N=Hs
  have hHl:Hs.length=N.length:=by rw [←hH,passH];simp
  have hHt:∀ {i:Nat} {x:ByteArray},N[i]?=some x→Hs[i]?=some (zo b x).holder:=fun h=>by rw [←hH,passH];simp [h]
  have qe:=@qR;repeat' first|refine gC (fun hc=>?_) (fun hc=>?_)<;>try contradiction|refine gG ?_|show AK _;intro K H|refine H _ _ ?_;clear H K|refine gJ ?_;try exact trivial|omega
  refine zk (κ:=Nat) (fun i=>⟨[(1,.p (.sl 1 (A.map (.i .i64)))),(2,.lp 2 0),(4,.lp 4 0),(6,.p .nilsl),(7,.p (.i .i64 i))],[(2,.box [.p (.sl 16 (b.slots.map Slt.pv)),.p (.sl 14 (b.wait.map Wsh.pv))] false),(4,.box [.p .nilsl,.p .nilsl] false)],[],false⟩) (fun i=>i≤N.length∧∀ s ∈ (N.map (zo b)).take i,decide (0 < (s.ls.length:Int))=false) (fun i=>N.length - i) 0 ?_ ?_ ?_
  ·exact sS
  ·simp
  ·intro i hi
   repeat first|refine gG ?_|show AK _;intro K H|refine H _ _ ?_;clear H K|refine gJ ?_;try exact trivial|omega
   (refine gC (fun hc=>?_) (fun hc=>?_)<;>try contradiction)
   ·obtain ⟨x,hx⟩:=zn (i:=i) (l:=N) (by omega)
    obtain ⟨hsl,hfi,hlt⟩:=slot_found (hN x (List.mem_of_getElem? hx))
    have ha:=hAt hx
    have hm:(N.map (zo b))[i]?=some (zo b x):=by rw [List.getElem?_map,hx];rfl
    have qe:=aI qR (aI @ha (aI @hsl @hAl));repeat' first|refine gC (fun hc=>?_) (fun hc=>?_)<;>try contradiction|refine gG ?_|show AK _;intro K H|refine H _ _ ?_;clear H K|refine gJ ?_;try exact trivial|omega
    ·have hp:passLn b N=true:=by rw [passLn,List.any_eq_true];exact ⟨_,List.mem_of_getElem? hm,decide_eq_true hc⟩
     have e:passE b N=19:=by rw [passE,za2 (by rw [if_pos hp];omega),if_pos hp]
     rw [e,if_neg (by omega)];exact .refl _
    ·exact ⟨i+1,⟨by omega,take_no hi.2 hm (decide_eq_false (by omega))⟩,by omega,by simp⟩
   ·have e:i=N.length:=by omega
    subst e
    have hp:passLn b N=false:=by
     rw [passLn,List.any_eq_false];intro s hs
     have:=hi.2 s (by rw [List.take_of_length_le (by simp)];exact hs)
     rw [this];exact Bool.false_ne_true
    have hE:passE b N=zg (Hs.mapIdx (dupE Hs)):=by rw [passE,if_neg (by rw [hp];exact Bool.false_ne_true),za3 rfl,fE_one,hH]
    have qe:=@qR;repeat' first|refine gC (fun hc=>?_) (fun hc=>?_)<;>try contradiction|refine gG ?_|show AK _;intro K H|refine H _ _ ?_;clear H K|refine gJ ?_;try exact trivial|omega
    refine zaO 100 9 1 [(1,.p (.sl 1 (A.map (.i .i64)))),(2,.lp 2 0),(4,.lp 4 0),(6,.row 100 0),(8,.p (.i .i64 0))] [(2,.box [.p (.sl 16 (b.slots.map Slt.pv)),.p (.sl 14 (b.wait.map Wsh.pv))] false),(4,.box [.p .nilsl,.p .nilsl] false)] ?_ ?_
    ·simp only [Own,zaL,zaB,zbt,zay,qS,Nat.reduceAdd,Nat.reduceMul,Nat.reduceEqDiff,Nat.reduceLeDiff,reduceIte,reduceCtorEq,Nat.reduceBEq,Nat.reduceLT]
    refine zk (κ:=Nat) (fun i=>⟨[(1,.p (.sl 1 (A.map (.i .i64)))),(2,.lp 2 0),(4,.lp 4 0),(6,.row 100 (Hs.take i).length),(8,.p (.i .i64 i))],[(2,.box [.p (.sl 16 (b.slots.map Slt.pv)),.p (.sl 14 (b.wait.map Wsh.pv))] false),(4,.box [.p .nilsl,.p .nilsl] false),(100,.row 9 1 ((Hs.take i).map .s) false)],[],false⟩) (fun i=>i≤N.length∧∀ x ∈ (Hs.mapIdx (dupE Hs)).take i,x=0) (fun i=>N.length - i) 0 ?_ ?_ ?_
    ·exact sS
    ·simp
    ·intro i hi
     repeat first|refine gG ?_|show AK _;intro K H|refine H _ _ ?_;clear H K|refine gJ ?_;try exact trivial|omega
     (refine gC (fun hc=>?_) (fun hc=>?_)<;>try contradiction)
     ·obtain ⟨x,hx⟩:=zn (i:=i) (l:=N) (by omega)
      obtain ⟨hsl,hfi,hlt⟩:=slot_found (hN x (List.mem_of_getElem? hx))
      have ha:=hAt hx
      have hh:=hHt hx
      have hlt2:=take_len hh
      by_cases hd:0≤atL (zo b x).holder (Hs.take i)
      ·have hdE:dupE Hs i (zo b x).holder=31:=if_pos hd
       have hF:passE b N=31:=by rw [hE,zV hi.2 (zI hh) (by rw [hdE];decide),hdE]
       have hd':=eq_true hd
       rw [hF,if_neg (by omega)]
       have qe:=aI qR (aI @ha (aI @hsl (aI @hAl (aI @hd' @decide_true))));repeat' first|refine gC (fun hc=>?_) (fun hc=>?_)<;>try contradiction|refine za (pure1074 (Hs.take i) (zo b x).holder) ?_|refine gG ?_|show AK _;intro K H|refine H _ _ ?_;clear H K|refine gJ ?_;try exact trivial|omega
       all_goals exact .refl _
      ·have hdE:dupE Hs i (zo b x).holder=0:=if_neg hd
       have hd':=eq_false hd
       have qe:=aI qR (aI @ha (aI @hsl (aI @hAl (aI @hd' @decide_false))));repeat' first|refine gC (fun hc=>?_) (fun hc=>?_)<;>try contradiction|refine za (pure1074 (Hs.take i) (zo b x).holder) ?_|refine gG ?_|show AK _;intro K H|refine H _ _ ?_;clear H K|refine gJ ?_;try exact trivial|omega
       all_goals exact ⟨i+1,⟨by omega,zaC hi.2 (zI hh) hdE⟩,by omega,⟨by rw [zan hh,List.length_append];rfl,by simp⟩,by rw [zan hh,List.map_append];rfl⟩
     ·have hF:passE b N=0:=by
       have e:i=(Hs.mapIdx (dupE Hs)).length:=by simp;omega
       rw [hE];subst e;exact z4 hi.2
      have e2:Hs.take i=Hs:=List.take_of_length_le (by omega)
      rw [hF,if_pos rfl,e2]
      have qe:=@qR;repeat' first|refine gC (fun hc=>?_) (fun hc=>?_)<;>try contradiction|refine gG ?_|show AK _;intro K H|refine H _ _ ?_;clear H K|refine gJ ?_;try exact trivial|omega
      refine zk (κ:=Nat) (fun k=>⟨[(1,.p (.sl 1 (A.map (.i .i64)))),(2,.lp 2 0),(4,.lp 4 0),(6,.row 100 Hs.length),(9,.lp 9 0),(10,.p (.i .i64 k))],[(2,.box [.p (.sl 16 (b.slots.map Slt.pv)),.p (.sl 14 (b.wait.map Wsh.pv))] false),(4,.box [.p .nilsl,.p .nilsl] false),(9,.box [.p (.sl 16 ((passT b N k).map Slt.pv)),.p (.sl 14 (b.wait.map Wsh.pv))] false),(100,.row 9 1 (Hs.map .s) false)],[],false⟩) (fun k=>k≤N.length) (fun k=>N.length - k) 0 ?_ ?_ ?_
      ·refine gJ ?_;simp [passT]
      ·simp
      ·intro k hk
       repeat first|refine gG ?_|show AK _;intro K H|refine H _ _ ?_;clear H K|refine gJ ?_;try exact trivial|omega
       (refine gC (fun hc=>?_) (fun hc=>?_)<;>try contradiction)
       ·obtain ⟨x,hx⟩:=zn (i:=k) (l:=N) (by omega)
        obtain ⟨hsl,hfi,hlt⟩:=slot_found (hN x (List.mem_of_getElem? hx))
        have ha:=hAt hx
        have hnx:nth N k=x:=by rw [nth,hx];rfl
        have hjl:(k+N.length - 1) % N.length < Hs.length:=by rw [hHl];exact Nat.mod_lt _ (by omega)
        obtain ⟨y,hy⟩:=zn (i:=(k+N.length - 1) % N.length) (l:=Hs) hjl
        have hny:nth (passH b N) ((k+N.length - 1) % N.length)=y:=by rw [hH,nth,hy];rfl
        have hr:((k:Int)+(N.length:Int) - 1).tmod (N.length:Int)=(((k+N.length - 1) % N.length:Nat):Int):=by
         rw [show ((k:Int)+(N.length:Int) - 1)=((k+N.length - 1:Nat):Int) by omega];exact (Int.ofNat_tmod _ _).symm
        have hpl:=passT_len b N k
        have hP:Pure Tryz.prog 145 [(⟨passT b N k,b.wait⟩:Bk).pv,.i .i64 (zA b x),trW (zo b x) y] (setB ⟨passT b N k,b.wait⟩ (zA b x) (trS (zo b x) y)).pv:=
         pure_in (pure1128 ⟨passT b N k,b.wait⟩ (zA b x) (trS (zo b x) y) (by simp only [hpl];exact hlt) (by simp only [hpl];exact hn1)) ⟨.refl _,.refl _,.agg (wk_trW _ y),trivial⟩
        have hnx1:passT b N (k+1)=(passT b N k).set (zA b x) (trS (zo b x) y):=by rw [passT,hnx,hny]
        have qe:=aI qR (aI @ha (aI @hsl (aI @hy (aI @hr @hAl))));repeat' first|refine gC (fun hc=>?_) (fun hc=>?_)<;>try contradiction|refine za (hP) ?_|refine gG ?_|show AK _;intro K H|refine H _ _ ?_;clear H K|refine gJ ?_;try exact trivial|omega
        all_goals exact ⟨k+1,by omega,by omega,by simp,by rw [hnx1];rfl⟩
       ·have e:k=N.length:=by omega
        subst e
        have qe:=@qR;repeat' first|refine gC (fun hc=>?_) (fun hc=>?_)<;>try contradiction|refine gG ?_|show AK _;intro K H|refine H _ _ ?_;clear H K|refine gJ ?_;try exact trivial|omega
        exact .refl _
 ·by_cases h:passE b N=0
  ·rw [if_pos h,passB,if_pos h,h];exact .refl _
  ·rw [if_neg h,passB,if_neg h];exact zbw _
set_option maxRecDepth 100000
set_option linter.unusedVariables false
set_option linter.unusedSimpArgs false
set_option maxHeartbeats 8000000
theorem atL_iff (n:ByteArray):∀ l:List ByteArray,0≤atL n l↔n ∈ l
 | []=>by simp [atL]
 | x::r=>by
  have ih:=atL_iff n r
  have:=atL_ge n r
  simp only [atL,List.mem_cons]
  by_cases h:x=n
  ·rw [if_pos h];exact ⟨fun _=>.inl h.symm,fun _=>by omega⟩
  ·rw [if_neg h]
   by_cases h2:atL n r < 0
   ·rw [if_pos h2];exact ⟨fun h3=>by omega,fun h3=>h3.elim (fun e=>absurd e.symm h) fun e=>by have:=ih.2 e;omega⟩
   ·rw [if_neg h2];exact ⟨fun _=>.inr (ih.1 (by omega)),fun _=>by omega⟩
theorem fnd_yes {b:Bk} {n:ByteArray} (h:¬atL n (b.slots.map (·.req.name)) < 0):fndE b.slots n=0∧fndI b.slots n=(zA b n:Int):=by
 rw [fndE,if_neg h,fndI,if_neg h,zA];exact ⟨rfl,by omega⟩
theorem fnd_no {b:Bk} {n:ByteArray} (h:atL n (b.slots.map (·.req.name)) < 0):fndE b.slots n=10∧fndI b.slots n=0:=by
 rw [fndE,if_pos h,fndI,if_pos h];exact ⟨rfl,rfl⟩
theorem pure1063 (b:Bk) (o t:ByteArray) (hb:BkOk b):Pure Tryz.prog 72 [b.pv,.s o,.s t] (.tup [(swpB b o t).pv,.i .i64 (swpC b o t)]):=by
 refine zat (r:=if swpF b o t=0 then .tup [(passB b [o,t]).pv,.i .i64 (passE b [o,t])] else .tup [.agg [.nilsl,.nilsl],.i .i64 (swpF b o t)]) ?_ ?_
 ·refine zf (cF Tryz.func72 Tryz.f72.eq_1) (by simp) fun hw X hX=>?_
  have e10:((10:Int)=0)=False:=eq_false (by omega)
  by_cases ho:atL o (b.slots.map (·.req.name)) < 0
  ·obtain ⟨f1,f2⟩:=fnd_no ho
   have hF:swpF b o t=10:=by rw [swpF,za2 (by rw [unkE,if_pos ho];omega),unkE,if_pos ho]
   rw [hF,if_neg (by omega)]
   have qe:=aI qR (aI @f1 (aI @f2 (aI @e10 (aI @decide_false @Bool.not_false))));repeat' first|refine gC (fun hc=>?_) (fun hc=>?_)<;>try contradiction|refine za (pure1137 b o) ?_|refine za (pure1137 b t) ?_|refine gG ?_|show AK _;intro K H|refine H _ _ ?_;clear H K|refine gJ ?_;try exact trivial|omega
   all_goals exact .refl _
  ·obtain ⟨f1,f2⟩:=fnd_yes ho
   have u1:unkE b o=0:=if_neg ho
   by_cases ht:atL t (b.slots.map (·.req.name)) < 0
   ·obtain ⟨g1,g2⟩:=fnd_no ht
    have hF:swpF b o t=10:=by rw [swpF,za3 u1,za2 (by rw [unkE,if_pos ht];omega),unkE,if_pos ht]
    rw [hF,if_neg (by omega)]
    have qe:=aI qR (aI @f1 (aI @f2 (aI @g1 (aI @g2 (aI @e10 (aI @zbb (aI @decide_true (aI @Bool.not_true (aI @decide_false @Bool.not_false)))))))));repeat' first|refine gC (fun hc=>?_) (fun hc=>?_)<;>try contradiction|refine za (pure1137 b o) ?_|refine za (pure1137 b t) ?_|refine gG ?_|show AK _;intro K H|refine H _ _ ?_;clear H K|refine gJ ?_;try exact trivial|omega
    all_goals exact .refl _
   ·obtain ⟨g1,g2⟩:=fnd_yes ht
    have u2:unkE b t=0:=if_neg ht
    by_cases hot:o=t
    ·have hF:swpF b o t=9:=by rw [swpF,za3 u1,za3 u2,fE_one,if_pos hot]
     have hi:((zA b o:Int)=(zA b t:Int))=True:=eq_true (by rw [hot])
     rw [hF,if_neg (by omega)]
     have qe:=aI qR (aI @f1 (aI @f2 (aI @g1 (aI @g2 (aI @hi (aI @zbb (aI @decide_true (aI @Bool.not_true (aI @decide_false @Bool.not_false)))))))));repeat' first|refine gC (fun hc=>?_) (fun hc=>?_)<;>try contradiction|refine za (pure1137 b o) ?_|refine za (pure1137 b t) ?_|refine gG ?_|show AK _;intro K H|refine H _ _ ?_;clear H K|refine gJ ?_;try exact trivial|omega
     all_goals exact .refl _
    ·have hF:swpF b o t=0:=by rw [swpF,za3 u1,za3 u2,fE_one,if_neg hot]
     have hi:((zA b o:Int)=(zA b t:Int))=False:=eq_false (fun k=>hot ((slotI_inj ho ht).1 (by omega)))
     have hp:=pure1138 b [o,t] hb (fun n hn=>by
      simp only [List.mem_cons,List.not_mem_nil,or_false] at hn
      rcases hn with rfl|rfl
      ·exact ho
      ·exact ht) (by simp)
     simp only [List.map_cons,List.map_nil] at hp
     rw [hF,if_pos rfl]
     have qe:=aI qR (aI @f1 (aI @f2 (aI @g1 (aI @g2 (aI @hi (aI @zbb (aI @decide_true (aI @Bool.not_true (aI @decide_false @Bool.not_false)))))))));repeat' first|refine gC (fun hc=>?_) (fun hc=>?_)<;>try contradiction|refine za (pure1137 b o) ?_|refine za (pure1137 b t) ?_|refine zam (hp) ?_|refine gG ?_|show AK _;intro K H|refine H _ _ ?_;clear H K|refine gJ ?_;try exact trivial|omega
     all_goals exact .refl _
 ·by_cases h:swpF b o t=0
  ·have hC:swpC b o t=passE b [o,t]:=if_pos h
   have hB:swpB b o t=passB b [o,t]:=by
    rw [swpB,hC];split
    ·rfl
    ·rename_i k;rw [passB_0 k]
   rw [hB,hC,if_pos h];exact .refl _
  ·have hC:swpC b o t=swpF b o t:=if_neg h
   have hB:swpB b o t=bk0:=by rw [swpB,hC,if_neg h]
   rw [hB,hC,if_neg h];exact zbw _
def ringY (b:Bk) (N:List ByteArray):Int:=zg (N.mapIdx (ringX b N))
theorem pure1064 (b:Bk) (N:List ByteArray) (hb:BkOk b) (hn:N.length≤1000):Pure Tryz.prog 73 [b.pv,.sl 1 (N.map .s)] (.tup [(ringB b N).pv,.i .i64 (ringC b N)]):=by
 refine zat (r:=if zg [ringF N,ringY b N]=0 then .tup [(passB b N).pv,.i .i64 (passE b N)] else .tup [.agg [.nilsl,.nilsl],.i .i64 (zg [ringF N,ringY b N])]) ?_ ?_
 ·refine zf (cF Tryz.func73 Tryz.f73.eq_1) (by simp) fun hw X hX=>?_
  by_cases h2:(N.length:Int) < 2
  ·have hF:ringF N=16:=by rw [ringF,za2 (by rw [if_pos h2];omega),if_pos h2]
   have h2':=eq_true h2
   rw [za2 (by rw [hF];omega),hF,if_neg (by omega)]
   have qe:=aI qR (aI @h2' @decide_true);repeat' first|refine gC (fun hc=>?_) (fun hc=>?_)<;>try contradiction|refine gG ?_|show AK _;intro K H|refine H _ _ ?_;clear H K|refine gJ ?_;try exact trivial|omega
   all_goals exact .refl _
  have h2':=eq_false h2
  by_cases h8:8 < (N.length:Int)
  ·have hF:ringF N=5:=by rw [ringF,za3 (if_neg h2),fE_one,if_pos h8]
   have h8':=eq_true h8
   rw [za2 (by rw [hF];omega),hF,if_neg (by omega)]
   have qe:=aI qR (aI @h2' (aI @h8' (aI @decide_true @decide_false)));repeat' first|refine gC (fun hc=>?_) (fun hc=>?_)<;>try contradiction|refine gG ?_|show AK _;intro K H|refine H _ _ ?_;clear H K|refine gJ ?_;try exact trivial|omega
   all_goals exact .refl _
  have h8':=eq_false h8
  have hF:ringF N=0:=by rw [ringF,za3 (if_neg h2),fE_one,if_neg h8]
  rw [za3 hF,fE_one]
  generalize hA:(N.map fun n=>(zA b n:Int))=A
  have hAl:A.length=N.length:=by rw [←hA,List.length_map]
  have qe:=aI qR (aI @h2' (aI @h8' @decide_false));repeat' first|refine gC (fun hc=>?_) (fun hc=>?_)<;>try contradiction|refine gG ?_|show AK _;intro K H|refine H _ _ ?_;clear H K|refine gJ ?_;try exact trivial|omega
  refine zaO 100 3 1 [(1,.p (.sl 1 (N.map .s))),(2,.lp 2 0),(4,.lp 4 0),(6,.row 100 0),(7,.p (.i .i64 0))] [(2,.box [.p (.sl 16 (b.slots.map Slt.pv)),.p (.sl 14 (b.wait.map Wsh.pv))] false),(4,.box [.p .nilsl,.p .nilsl] false)] ?_ ?_
  ·simp only [Own,zaL,zaB,zbt,zay,qS,Nat.reduceAdd,Nat.reduceMul,Nat.reduceEqDiff,Nat.reduceLeDiff,reduceIte,reduceCtorEq,Nat.reduceBEq,Nat.reduceLT]
  refine zk (κ:=Nat) (fun i=>⟨[(1,.p (.sl 1 (N.map .s))),(2,.lp 2 0),(4,.lp 4 0),(6,.row 100 i),(7,.p (.i .i64 i))],[(2,.box [.p (.sl 16 (b.slots.map Slt.pv)),.p (.sl 14 (b.wait.map Wsh.pv))] false),(4,.box [.p .nilsl,.p .nilsl] false),(100,.row 3 1 ((A.take i).map (.i .i64)) false)],[],false⟩) (fun i=>i≤N.length∧∀ x ∈ (N.mapIdx (ringX b N)).take i,x=0) (fun i=>N.length - i) 0 ?_ ?_ ?_
  ·exact sS
  ·simp
  ·intro i hi
   have hlA:(A.take i).length=i:=by rw [List.length_take];omega
   repeat first|refine gG ?_|show AK _;intro K H|refine H _ _ ?_;clear H K|refine gJ ?_;try exact trivial|omega
   (refine gC (fun hc=>?_) (fun hc=>?_)<;>try contradiction)
   ·obtain ⟨x,hx⟩:=zn (i:=i) (l:=N) (by omega)
    have hAx:A[i]?=some (zA b x:Int):=by rw [←hA,List.getElem?_map,hx];rfl
    have hmx:=zI (f:=ringX b N) hx
    have e10:((10:Int)=0)=False:=eq_false (by omega)
    have e9:((9:Int)=0)=False:=eq_false (by omega)
    by_cases ho:atL x (b.slots.map (·.req.name)) < 0
    ·obtain ⟨f1,f2⟩:=fnd_no ho
     have hX1:ringX b N i x=10:=by rw [ringX,za2 (by rw [unkE,if_pos ho];omega),unkE,if_pos ho]
     have hY:ringY b N=10:=by rw [ringY,zV hi.2 hmx (by rw [hX1];decide),hX1]
     rw [hY,if_neg (by omega)]
     have qe:=aI qR (aI @hx (aI @f1 (aI @f2 (aI @e10 (aI @decide_false @Bool.not_false)))));repeat' first|refine gC (fun hc=>?_) (fun hc=>?_)<;>try contradiction|refine za (pure1137 b x) ?_|(show zj _ _ _ _ (⟨_,.call 151,_,_,_⟩::_) _ _;refine run_callF (q:=.b false) (by first|rfl|(simp (disch:=omega) only [qG,qe,Nat.reduceAdd,Nat.reduceMul,Nat.reduceEqDiff,Nat.reduceLeDiff,reduceIte,reduceCtorEq,Nat.reduceBEq,Nat.reduceLT]<;>rfl)) ?_;(try (refine zE ?_)))|refine gG ?_|show AK _;intro K H|refine H _ _ ?_;clear H K|refine gJ ?_;try exact trivial|omega
     all_goals exact .refl _
    ·obtain ⟨f1,f2⟩:=fnd_yes ho
     have u1:unkE b x=0:=if_neg ho
     have hkn:∀ n ∈ N.take i,¬atL n (b.slots.map (·.req.name)) < 0:=fun n hn=>by
      obtain ⟨j,hj⟩:=List.getElem?_of_mem hn
      have hjl:=(List.getElem?_eq_some_iff.1 hj).1
      rw [List.length_take] at hjl
      rw [List.getElem?_take_of_lt (by omega)] at hj
      have h1:ringX b N j n=0:=hi.2 _ (List.mem_of_getElem? (i:=j) (by rw [List.getElem?_take_of_lt (by omega)];exact zI hj))
      exact unk_0 (fE0 h1 _ (by simp))
     have hmem:(zA b x:Int) ∈ A.take i↔0≤atL x (N.take i):=by
      rw [←hA,←List.map_take]
      constructor
      ·intro k
       obtain ⟨n,hn,e⟩:=List.mem_map.1 k
       have:=(slotI_inj (hkn n hn) ho).1 (by omega)
       subst this
       exact (atL_iff _ _).2 hn
      ·intro k
       exact List.mem_map.2 ⟨x,(atL_iff _ _).1 k,rfl⟩
     by_cases hd:0≤atL x (N.take i)
     ·have hX1:ringX b N i x=9:=by rw [ringX,za3 u1,fE_one,if_pos hd]
      have hY:ringY b N=9:=by rw [ringY,zV hi.2 hmx (by rw [hX1];decide),hX1]
      have hm:=eq_true (hmem.2 hd)
      rw [hY,if_neg (by omega)]
      have qe:=aI qR (aI @hx (aI @f1 (aI @f2 (aI @e9 (aI @hm (aI @hlA (aI @zbb (aI @decide_true (aI @Bool.not_true (aI @decide_false @Bool.not_false))))))))));repeat' first|refine gC (fun hc=>?_) (fun hc=>?_)<;>try contradiction|refine za (pure1137 b x) ?_|refine zN (fun _=>pure38 (A.take i) (zA b x)) ?_|refine gG ?_|show AK _;intro K H|refine H _ _ ?_;clear H K|refine gJ ?_;try exact trivial|omega
      all_goals exact .refl _
     ·have hX1:ringX b N i x=0:=by rw [ringX,za3 u1,fE_one,if_neg hd]
      have hm:=eq_false (fun k=>hd (hmem.1 k))
      have qe:=aI qR (aI @hx (aI @f1 (aI @f2 (aI @hm (aI @hlA (aI @zbb (aI @decide_true (aI @Bool.not_true (aI @decide_false @Bool.not_false)))))))));repeat' first|refine gC (fun hc=>?_) (fun hc=>?_)<;>try contradiction|refine za (pure1137 b x) ?_|refine zN (fun _=>pure38 (A.take i) (zA b x)) ?_|refine gG ?_|show AK _;intro K H|refine H _ _ ?_;clear H K|refine gJ ?_;try exact trivial|omega
      all_goals exact ⟨i+1,⟨by omega,zaC hi.2 hmx hX1⟩,by omega,by simp,by rw [zan hAx,List.map_append];exact ⟨rfl,by rw [List.length_append,hlA];exact Nat.le_refl _⟩⟩
   ·have e:i=N.length:=by omega
    subst e
    have hY:ringY b N=0:=by
     have e:N.length=(N.mapIdx (ringX b N)).length:=by simp
     rw [ringY];rw [e] at hi;exact z4 hi.2
    have hk:∀ n ∈ N,¬atL n (b.slots.map (·.req.name)) < 0:=ring_known (fun x hx=>hi.2 x (by rw [List.take_of_length_le (by simp)];exact hx))
    have hp:=pure1138 b N hb hk hn
    rw [hA] at hp
    have hA2:A.take N.length=A:=List.take_of_length_le (by omega)
    rw [hY,if_pos rfl,hA2]
    have qe:=aI qR @hAl;repeat' first|refine gC (fun hc=>?_) (fun hc=>?_)<;>try contradiction|refine zam (hp) ?_|refine gG ?_|show AK _;intro K H|refine H _ _ ?_;clear H K|refine gJ ?_;try exact trivial|omega
    all_goals exact .refl _
 ·have hC:ringC b N=if zg [ringF N,ringY b N]=0 then passE b N else zg [ringF N,ringY b N]:=by
   rw [ringC];exact fE_snoc [ringF N,ringY b N] (passE b N)
  by_cases h:zg [ringF N,ringY b N]=0
  ·rw [if_pos h] at hC ⊢
   have hB:ringB b N=passB b N:=by
    rw [ringB,hC];split
    ·rfl
    ·rename_i k;rw [passB_0 k]
   rw [hB,hC];exact .refl _
  ·rw [if_neg h] at hC ⊢
   have hB:ringB b N=bk0:=by rw [ringB,hC,if_neg h]
   rw [hB,hC];exact zbw _
end Go.Proofs.YtahmdjadnlpjoaaGreat
