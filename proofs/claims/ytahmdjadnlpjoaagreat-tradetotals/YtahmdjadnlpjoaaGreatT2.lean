/- Contracts of functions that the proof uses, shared by the claims of this seat; no statement of its own. Part 72. No conditions. -/
import Derived.ProofKit
import Derived.OpenShut
import Derived.Carry
import Derived.OpenVars
import Derived.HandedShaped
import Derived.KernelRfl
import Derived.Laws.RangeAny
import Derived.Test.YtahmdjadnlpjoaaGreatRows
import Derived.Test.YtahmdjadnlpjoaaGreatT1
set_option linter.all false
set_option maxHeartbeats 8000000
namespace Go.Proofs.YtahmdjadnlpjoaaGreat
open Go.RowKit
set_option maxRecDepth 100000
set_option linter.unusedVariables false
set_option linter.unusedSimpArgs false
set_option maxHeartbeats 8000000
theorem yak (l:List Int) (x:Int):zg (l++[x])=if zg l=0 then x else zg l:=by rw [fE_app,fE_one]
theorem fE_pre {l:List Int} {i:Nat} (h:zg (l.take i)≠0):zg l=zg (l.take i):=by
 have:=fE_app (l.take i) (l.drop i)
 rw [List.take_append_drop,if_neg h] at this;exact this
theorem ycn {l:List Int} {i:Nat} {e a:Int} (he:e=zg (a::l.take i)) (h:i < l.length→e≠0):e=zg (a::l):=by
 by_cases hi:i < l.length
 ·have h1:=h hi
  rw [he] at h1 ⊢
  exact (fE_pre (l:=a::l) (i:=i+1) h1).symm
 ·rw [he,List.take_of_length_le (by omega)]
theorem yby {l:List Int} {i:Nat} {a e x:Int} (he:e=zg (a::l.take i)) (h0:e=0) (hx:l[i]?=some x):x=zg (a::l.take (i+1)):=by
 rw [zan hx]
 have:=yak (a::l.take i) x
 rw [←he,if_pos h0] at this;exact this.symm
def yaK (s:Slt):Int:=zg [chkQ s.req,zaH s.holder,if 8 < (s.ls.length:Int) then 5 else 0]
def yay (s:Slt):Int:=zg (yaK s::s.ls.mapIdx (leaErr s))
def yaJ (s:Slt):Int:=zg [yay s,if 4 < (s.sh.length:Int) then 5 else 0]
theorem fE_out (a:Int) (l:List Int):zg [a,zg l]=zg (a::l):=by
 by_cases h:a=0
 ·rw [za3 h,za3 h,fE_one]
 ·rw [za2 h,za2 h]
theorem ya0 (l r:List Int):zg (zg l::r)=zg (l++r):=by
 rw [fE_app]
 by_cases h:zg l=0
 ·rw [za3 h,if_pos h]
 ·rw [za2 h,if_neg h]
theorem ycc (s:Slt):chkSlt s=zg (yaJ s::s.sh.mapIdx (shaErr s)):=by
 rw [yaJ,ya0,List.cons_append,List.cons_append,List.nil_append,yay,ya0,List.cons_append,yaK,ya0,chkSlt]
 rw [fE_app [_,_,_]]
 have e:zg [zg (s.ls.mapIdx (leaErr s)),if 4 < (s.sh.length:Int) then 5 else 0,zg (s.sh.mapIdx (shaErr s))]=zg (s.ls.mapIdx (leaErr s)++(if 4 < (s.sh.length:Int) then 5 else 0)::s.sh.mapIdx (shaErr s)):=by
  rw [ya0,fE_app,fE_app (s.ls.mapIdx (leaErr s)),fE_out]
 rw [←e]
 exact fE_app [_,_,_] [_,_,_]
abbrev stS (s:Slt) (e:Int):St:=⟨[(1,.lp 1 0),(3,.p (.i .i64 e))],[(1,.box (s.cells.map .p) false)],[],false⟩
theorem yah (s:Slt):Pure Tryz.prog 27 [s.pv] (.i .i64 (chkSlt s)):=by
 refine zf (cF Tryz.func27 Tryz.f27.eq_1) (by simp) fun hw X hX=>?_
 simp only [wfs,PV.wf,List.length_map,maxLen] at hw
 have hS1:yaK s=if zg [chkQ s.req,zaH s.holder]=0 then (if 8 < (s.ls.length:Int) then 5 else 0) else zg [chkQ s.req,zaH s.holder]:=yak [_,_] _
 have hS3:yaJ s=if yay s=0 then (if 4 < (s.sh.length:Int) then 5 else 0) else yay s:=by
  have:=yak [yay s] (if 4 < (s.sh.length:Int) then 5 else 0)
  rw [fE_one] at this;exact this
 have qe:=@qR;repeat' first|refine za (yaV s.req) ?_|refine za (yo s.holder) ?_|refine za (ye [_,_]) ?_|refine gG ?_|show AK _;intro K H|refine H _ _ ?_;clear H K|refine gJ ?_;try exact trivial|omega
 refine run_cut (stS s (yaK s)) ?_ ?_
 ·(refine gC (fun hc=>?_) (fun hc=>?_)<;>try contradiction)
  ·rw [hS1,if_pos hc.1,if_pos hc.2]
   repeat' first|refine gC (fun hc=>?_) (fun hc=>?_)<;>try contradiction|refine gG ?_|show AK _;intro K H|refine H _ _ ?_;clear H K|refine gJ ?_;try exact trivial|omega
   all_goals (show Cov _ _;simp only [qS,Nat.reduceAdd,Nat.reduceMul,Nat.reduceEqDiff,Nat.reduceLeDiff,reduceIte,reduceCtorEq,Nat.reduceBEq,Nat.reduceLT]<;>simp)
  ·have e:yaK s=zg [chkQ s.req,zaH s.holder]:=by
    rw [hS1];split
    ·rename_i h;rw [if_neg (by have:=hc h;omega),h]
    ·rfl
   rw [e]
   repeat' first|refine gC (fun hc=>?_) (fun hc=>?_)<;>try contradiction|refine gG ?_|show AK _;intro K H|refine H _ _ ?_;clear H K|refine gJ ?_;try exact trivial|omega
   all_goals (show Cov _ _;simp only [qS,Nat.reduceAdd,Nat.reduceMul,Nat.reduceEqDiff,Nat.reduceLeDiff,reduceIte,reduceCtorEq,Nat.reduceBEq,Nat.reduceLT]<;>simp)
 refine run_seq (run_cut (stS s (yay s)) ?_ ?_)
 ·repeat' first|refine gC (fun hc=>?_) (fun hc=>?_)<;>try contradiction|refine gG ?_|show AK _;intro K H|refine H _ _ ?_;clear H K|refine gJ ?_;try exact trivial|omega
  refine zk (κ:=Nat × Int) (fun k=>⟨[(1,.lp 1 0),(3,.p (.i .i64 k.2)),(4,.p (.i .i64 k.1))],[(1,.box (s.cells.map .p) false)],[],false⟩) (fun k=>k.1≤s.ls.length∧k.2=zg (yaK s::(s.ls.mapIdx (leaErr s)).take k.1)) (fun k=>s.ls.length - k.1) (0,yaK s) ?_ ?_ ?_
  ·exact sS
  ·simp [fE_one]
  ·rintro ⟨i,e⟩ ⟨hi,he⟩
   simp only at hi he
   repeat first|refine gG ?_|show AK _;intro K H|refine H _ _ ?_;clear H K|refine gJ ?_;try exact trivial|omega
   (refine gC (fun hc=>?_) (fun hc=>?_)<;>try contradiction)
   ·obtain ⟨h1,h2⟩:=hc
    obtain ⟨x,hx⟩:=zn (i:=i) (l:=s.ls) (by omega)
    obtain ⟨y,hy⟩:=zn (i:=i - 1) (l:=s.ls) (by omega)
    have e1:((i:Int) - 1).toNat=i - 1:=by omega
    have hl:leaErr s i x=if zg [chkLea x,leaOf s.raw x]=0 then (if 0 < (i:Int)∧x.fro≤y.to then 15 else 0) else zg [chkLea x,leaOf s.raw x]:=by
     rw [leaErr,hy];exact yak [_,_] _
    have hn:=yby he h2 (zI (f:=leaErr s) hx)
    by_cases c1:zg [chkLea x,leaOf s.raw x]=0
    ·have c1':=eq_true c1
     rw [if_pos c1] at hl
     by_cases c2:0 < (i:Int)
     ·have c2':=eq_true c2
      by_cases c3:x.fro≤y.to
      ·have c3':=eq_true c3
       rw [if_pos ⟨c2,c3⟩] at hl
       rw [hl] at hn
       have qe:=aI qR (aI @hx (aI @hy (aI @e1 (aI @c1' (aI @c2' (aI @c3' @decide_true))))));repeat' first|refine gC (fun hc=>?_) (fun hc=>?_)<;>try contradiction|refine za (yO x) ?_|refine za (yN s x) ?_|refine za (ye [_,_]) ?_|refine gG ?_|show AK _;intro K H|refine H _ _ ?_;clear H K|refine gJ ?_;try exact trivial|omega
       all_goals exact ⟨(i+1,15),⟨by omega,hn⟩,by simp;omega,by simp⟩
      ·have c3':=eq_false c3
       rw [if_neg (fun k=>c3 k.2)] at hl
       rw [hl] at hn
       have qe:=aI qR (aI @hx (aI @hy (aI @e1 (aI @c1' (aI @c2' (aI @c3' (aI @decide_true @decide_false)))))));repeat' first|refine gC (fun hc=>?_) (fun hc=>?_)<;>try contradiction|refine za (yO x) ?_|refine za (yN s x) ?_|refine za (ye [_,_]) ?_|refine gG ?_|show AK _;intro K H|refine H _ _ ?_;clear H K|refine gJ ?_;try exact trivial|omega
       all_goals exact ⟨(i+1,zg [chkLea x,leaOf s.raw x]),⟨by omega,by rw [c1];exact hn⟩,by simp;omega,by simp⟩
     ·have c2':=eq_false c2
      rw [if_neg (fun k=>c2 k.1)] at hl
      rw [hl] at hn
      have qe:=aI qR (aI @hx (aI @hy (aI @e1 (aI @c1' (aI @c2' (aI @decide_true @decide_false))))));repeat' first|refine gC (fun hc=>?_) (fun hc=>?_)<;>try contradiction|refine za (yO x) ?_|refine za (yN s x) ?_|refine za (ye [_,_]) ?_|refine gG ?_|show AK _;intro K H|refine H _ _ ?_;clear H K|refine gJ ?_;try exact trivial|omega
      all_goals exact ⟨(i+1,zg [chkLea x,leaOf s.raw x]),⟨by omega,by rw [c1];exact hn⟩,by simp;omega,by simp⟩
    ·have c1':=eq_false c1
     rw [if_neg c1] at hl
     rw [hl] at hn
     have qe:=aI qR (aI @hx (aI @hy (aI @e1 (aI @c1' @decide_false))));repeat' first|refine gC (fun hc=>?_) (fun hc=>?_)<;>try contradiction|refine za (yO x) ?_|refine za (yN s x) ?_|refine za (ye [_,_]) ?_|refine gG ?_|show AK _;intro K H|refine H _ _ ?_;clear H K|refine gJ ?_;try exact trivial|omega
     all_goals exact ⟨(i+1,zg [chkLea x,leaOf s.raw x]),⟨by omega,hn⟩,by simp;omega,by simp⟩
   ·have hf:=ycn he (fun h=>hc (by simpa using h))
    repeat' first|refine gC (fun hc=>?_) (fun hc=>?_)<;>try contradiction|refine gG ?_|show AK _;intro K H|refine H _ _ ?_;clear H K|refine gJ ?_;try exact trivial|omega
    all_goals (show Cov _ _;simp only [qS,Nat.reduceAdd,Nat.reduceMul,Nat.reduceEqDiff,Nat.reduceLeDiff,reduceIte,reduceCtorEq,Nat.reduceBEq,Nat.reduceLT,hf]<;>simp [yay])
 repeat' first|refine gG ?_|show AK _;intro K H|refine H _ _ ?_;clear H K|refine gJ ?_;try exact trivial|omega
 refine run_cut (stS s (yaJ s)) ?_ ?_
 ·(refine gC (fun hc=>?_) (fun hc=>?_)<;>try contradiction)
  ·rw [hS3,if_pos hc.1,if_pos hc.2]
   repeat' first|refine gC (fun hc=>?_) (fun hc=>?_)<;>try contradiction|refine gG ?_|show AK _;intro K H|refine H _ _ ?_;clear H K|refine gJ ?_;try exact trivial|omega
   all_goals (show Cov _ _;simp only [qS,Nat.reduceAdd,Nat.reduceMul,Nat.reduceEqDiff,Nat.reduceLeDiff,reduceIte,reduceCtorEq,Nat.reduceBEq,Nat.reduceLT]<;>simp)
  ·have e:yaJ s=yay s:=by
    rw [hS3];split
    ·rename_i h;rw [if_neg (by have:=hc h;omega),h]
    ·rfl
   rw [e]
   repeat' first|refine gC (fun hc=>?_) (fun hc=>?_)<;>try contradiction|refine gG ?_|show AK _;intro K H|refine H _ _ ?_;clear H K|refine gJ ?_;try exact trivial|omega
   all_goals (show Cov _ _;simp only [qS,Nat.reduceAdd,Nat.reduceMul,Nat.reduceEqDiff,Nat.reduceLeDiff,reduceIte,reduceCtorEq,Nat.reduceBEq,Nat.reduceLT]<;>simp)
 repeat' first|refine gC (fun hc=>?_) (fun hc=>?_)<;>try contradiction|refine gG ?_|show AK _;intro K H|refine H _ _ ?_;clear H K|refine gJ ?_;try exact trivial|omega
 refine zk (κ:=Nat × Int) (fun k=>⟨[(1,.lp 1 0),(3,.p (.i .i64 k.2)),(5,.p (.i .i64 k.1))],[(1,.box (s.cells.map .p) false)],[],false⟩) (fun k=>k.1≤s.sh.length∧k.2=zg (yaJ s::(s.sh.mapIdx (shaErr s)).take k.1)) (fun k=>s.sh.length - k.1) (0,yaJ s) ?_ ?_ ?_
 ·exact sS
 ·simp [fE_one]
 ·rintro ⟨i,e⟩ ⟨hi,he⟩
  simp only at hi he
  repeat first|refine gG ?_|show AK _;intro K H|refine H _ _ ?_;clear H K|refine gJ ?_;try exact trivial|omega
  (refine gC (fun hc=>?_) (fun hc=>?_)<;>try contradiction)
  ·obtain ⟨h1,h2⟩:=hc
   obtain ⟨x,hx⟩:=zn (i:=i) (l:=s.sh) (by omega)
   have hn:=yby he h2 (zI (f:=shaErr s) hx)
   have e31:((31:Int)=0)=False:=eq_false (by omega)
   by_cases d1:zaH x=0
   ·have d1':=eq_true d1
    by_cases d2:x=s.holder
    ·have d2':=eq_true d2
     have hv:shaErr s i x=31:=by rw [shaErr,za3 d1,if_pos d2,za2 (by omega)]
     rw [hv] at hn
     have qe:=aI qR (aI @hx (aI @take_map (aI @d1' (aI @d2' (aI @e31 (aI @decide_true @decide_false))))));repeat' first|refine gC (fun hc=>?_) (fun hc=>?_)<;>try contradiction|refine za (yo x) ?_|refine zN (fun _=>yc (s.sh.take i) x) ?_|refine gG ?_|show AK _;intro K H|refine H _ _ ?_;clear H K|refine gJ ?_;try exact trivial|omega
     all_goals exact ⟨(i+1,31),⟨by omega,hn⟩,by simp;omega,by simp⟩
    ·have d2':=eq_false d2
     by_cases d3:0≤atL x (s.sh.take i)
     ·have d3':=eq_true d3
      have hv:shaErr s i x=9:=by rw [shaErr,za3 d1,if_neg d2,za3 rfl,fE_one,if_pos d3]
      rw [hv] at hn
      have qe:=aI qR (aI @hx (aI @take_map (aI @d1' (aI @d2' (aI @d3' (aI @decide_true @decide_false))))));repeat' first|refine gC (fun hc=>?_) (fun hc=>?_)<;>try contradiction|refine za (yo x) ?_|refine zN (fun _=>yc (s.sh.take i) x) ?_|refine gG ?_|show AK _;intro K H|refine H _ _ ?_;clear H K|refine gJ ?_;try exact trivial|omega
      all_goals exact ⟨(i+1,9),⟨by omega,hn⟩,by simp;omega,by simp⟩
     ·have d3':=eq_false d3
      have hv:shaErr s i x=0:=by rw [shaErr,za3 d1,if_neg d2,za3 rfl,fE_one,if_neg d3]
      rw [hv] at hn
      have qe:=aI qR (aI @hx (aI @take_map (aI @d1' (aI @d2' (aI @d3' (aI @decide_true @decide_false))))));repeat' first|refine gC (fun hc=>?_) (fun hc=>?_)<;>try contradiction|refine za (yo x) ?_|refine zN (fun _=>yc (s.sh.take i) x) ?_|refine gG ?_|show AK _;intro K H|refine H _ _ ?_;clear H K|refine gJ ?_;try exact trivial|omega
      all_goals exact ⟨(i+1,zaH x),⟨by omega,by rw [d1];exact hn⟩,by simp;omega,by simp⟩
   ·have d1':=eq_false d1
    have hv:shaErr s i x=zaH x:=by rw [shaErr,za2 d1]
    rw [hv] at hn
    have qe:=aI qR (aI @hx (aI @take_map (aI @d1' @decide_false)));repeat' first|refine gC (fun hc=>?_) (fun hc=>?_)<;>try contradiction|refine za (yo x) ?_|refine zN (fun _=>yc (s.sh.take i) x) ?_|refine gG ?_|show AK _;intro K H|refine H _ _ ?_;clear H K|refine gJ ?_;try exact trivial|omega
    all_goals exact ⟨(i+1,zaH x),⟨by omega,hn⟩,by simp;omega,by simp⟩
  ·have hf:=ycn he (fun h=>hc (by simpa using h))
   rw [ycc,←hf]
   repeat' first|refine gC (fun hc=>?_) (fun hc=>?_)<;>try contradiction|refine gG ?_|show AK _;intro K H|refine H _ _ ?_;clear H K|refine gJ ?_;try exact trivial|omega
   all_goals exact .refl _
set_option maxRecDepth 100000
set_option linter.unusedVariables false
set_option linter.unusedSimpArgs false
set_option maxHeartbeats 4000000
theorem yS {α:Type} {f:Nat→α→Int} {l:List α} (h:zg (l.mapIdx f)=0) {i:Nat} {x:α} (hx:l[i]?=some x):f i x=0:=fE0 h _ (List.mem_of_getElem? (zI hx))
theorem yZ {b:Bk} (h:zG b=0) {i:Nat} {s:Slt} (hs:b.slots[i]?=some s):sltErr b i s=0:=
 yS (fE0 h (zg (b.slots.mapIdx (sltErr b))) (by simp)) hs
theorem yaz {b:Bk} (h:zG b=0) {s:Slt} (hs:s ∈ b.slots):chkSlt s=0:=by
 obtain ⟨i,hi⟩:=List.mem_iff_getElem?.1 hs
 exact fE0 (yZ h hi) _ (by simp)
set_option maxRecDepth 100000
set_option linter.unusedVariables false
set_option linter.unusedSimpArgs false
set_option maxHeartbeats 8000000
theorem yb0 (b:Bk) (hb:BkOk b):Pure Tryz.prog 19 [b.pv] b.pv:=by
 obtain ⟨hs,hn,hw1⟩:=hb
 refine zf (cF Tryz.func19 Tryz.f19.eq_1) (by simp) fun hw X hX=>?_
 have qe:=@qR;repeat' first|refine gC (fun hc=>?_) (fun hc=>?_)<;>try contradiction|refine gG ?_|show AK _;intro K H|refine H _ _ ?_;clear H K|refine gJ ?_;try exact trivial|omega
 refine zaO 100 59 16 [(1,.lp 1 0),(2,.lp 2 0),(3,.lp 3 0),(12,.p (.sl 16 (b.slots.map Slt.pv))),(13,.p (.i .i64 b.slots.length)),(14,.p (.i .i64 0))] [(1,.box [.p (.sl 16 (b.slots.map Slt.pv)),.p (.sl 14 (b.wait.map Wsh.pv))] false),(2,.box [.p .nilsl,.p .nilsl] false),(3,.box [.row 100 0,.p .nilsl] false)] ?_ ?_
 ·simp only [Own,zaL,zaB,zbt,zay,qS,Nat.reduceAdd,Nat.reduceMul,Nat.reduceEqDiff,Nat.reduceLeDiff,reduceIte,reduceCtorEq,Nat.reduceBEq,Nat.reduceLT]<;>simp
 refine zk (κ:=Nat) (fun k=>⟨[(1,.lp 1 0),(2,.lp 2 0),(3,.lp 3 0),(12,.p (.sl 16 (b.slots.map Slt.pv))),(13,.p (.i .i64 b.slots.length)),(14,.p (.i .i64 k))],[(1,.box [.p (.sl 16 (b.slots.map Slt.pv)),.p (.sl 14 (b.wait.map Wsh.pv))] false),(2,.box [.p .nilsl,.p .nilsl] false),(3,.box [.row 100 k,.p .nilsl] false),(100,.row 59 16 ((b.slots.take k).map Slt.pv) false)],[],false⟩) (fun k=>k≤b.slots.length) (fun k=>b.slots.length - k) 0 ?_ ?_ ?_
 ·exact sS
 ·simp
 ·intro k hk
  have hlk:(b.slots.take k).length=k:=by rw [List.length_take];omega
  repeat first|refine gG ?_|show AK _;intro K H|refine H _ _ ?_;clear H K|refine gJ ?_;try exact trivial|omega
  (refine gC (fun hc=>?_) (fun hc=>?_)<;>try contradiction)
  ·obtain ⟨s,hx⟩:=zn (i:=k) (l:=b.slots) (by omega)
   obtain ⟨hl1,hl2⟩:=hs s (List.mem_of_getElem? hx)
   have qe:=aI qR (aI @hx (aI @allSt @zaf));repeat' first|refine gC (fun hc=>?_) (fun hc=>?_)<;>try contradiction|refine gG ?_|show AK _;intro K H|refine H _ _ ?_;clear H K|refine gJ ?_;try exact trivial|omega
   refine zaO 101 102 3 [(1,.lp 1 0),(2,.lp 2 0),(3,.lp 3 0),(12,.p (.sl 16 (b.slots.map Slt.pv))),(13,.p (.i .i64 b.slots.length)),(14,.p (.i .i64 k)),(5,.lp 5 0),(6,.lp 6 0),(28,.p (.sl 3 (s.ls.map Lea.pv))),(29,.p (.i .i64 s.ls.length)),(30,.p (.i .i64 0))] [(1,.box [.p (.sl 16 (b.slots.map Slt.pv)),.p (.sl 14 (b.wait.map Wsh.pv))] false),(2,.box [.p .nilsl,.p .nilsl] false),(3,.box [.row 100 k,.p .nilsl] false),(100,.row 59 16 ((b.slots.take k).map Slt.pv) false),(5,.box (s.cells.map .p) false),(6,.box [.p (.s s.req.name),.p (.s s.req.carrier),.p (.s s.req.kind),.p (.s s.req.term),.p (.s s.req.partner),.p (.s s.req.link),.p (.i .i64 s.req.per.fro),.p (.i .i64 s.req.per.to),.p (.i .i64 s.req.per.days),.p (.i .i64 s.req.minute),.p (.i .i64 s.req.seats),.p (.i .i64 s.req.size),.p (.i .i64 s.req.noise),.p (.s s.holder),.row 101 0,.row 22 s.sh.length] false),(22,.row 9 1 (s.sh.map .s) false)] ?_ ?_
   ·simp only [Own,zaL,zaB,zbt,zay,qS,Nat.reduceAdd,Nat.reduceMul,Nat.reduceEqDiff,Nat.reduceLeDiff,reduceIte,reduceCtorEq,Nat.reduceBEq,Nat.reduceLT]<;>simp [hlk]
   refine zk (κ:=Nat) (fun i=>⟨[(1,.lp 1 0),(2,.lp 2 0),(3,.lp 3 0),(12,.p (.sl 16 (b.slots.map Slt.pv))),(13,.p (.i .i64 b.slots.length)),(14,.p (.i .i64 k)),(5,.lp 5 0),(6,.lp 6 0),(28,.p (.sl 3 (s.ls.map Lea.pv))),(29,.p (.i .i64 s.ls.length)),(30,.p (.i .i64 i))],[(1,.box [.p (.sl 16 (b.slots.map Slt.pv)),.p (.sl 14 (b.wait.map Wsh.pv))] false),(2,.box [.p .nilsl,.p .nilsl] false),(3,.box [.row 100 k,.p .nilsl] false),(100,.row 59 16 ((b.slots.take k).map Slt.pv) false),(5,.box (s.cells.map .p) false),(6,.box [.p (.s s.req.name),.p (.s s.req.carrier),.p (.s s.req.kind),.p (.s s.req.term),.p (.s s.req.partner),.p (.s s.req.link),.p (.i .i64 s.req.per.fro),.p (.i .i64 s.req.per.to),.p (.i .i64 s.req.per.days),.p (.i .i64 s.req.minute),.p (.i .i64 s.req.seats),.p (.i .i64 s.req.size),.p (.i .i64 s.req.noise),.p (.s s.holder),.row 101 i,.row 22 s.sh.length] false),(22,.row 9 1 (s.sh.map .s) false),(101,.row 102 3 ((s.ls.take i).map Lea.pv) false)],[],false⟩) (fun i=>i≤s.ls.length) (fun i=>s.ls.length - i) 0 ?_ ?_ ?_
   ·refine gJ ?_;simp [hlk]
   ·simp
   ·intro i hi
    have hli:(s.ls.take i).length=i:=by rw [List.length_take];omega
    repeat first|refine gG ?_|show AK _;intro K H|refine H _ _ ?_;clear H K|refine gJ ?_;try exact trivial|omega
    (refine gC (fun hc=>?_) (fun hc=>?_)<;>try contradiction)
    ·obtain ⟨x,hx2⟩:=zn (i:=i) (l:=s.ls) (by omega)
     have qe:=aI qR (aI @hx2 (aI @hli @hlk));repeat' first|refine gC (fun hc=>?_) (fun hc=>?_)<;>try contradiction|refine gG ?_|show AK _;intro K H|refine H _ _ ?_;clear H K|refine gJ ?_;try exact trivial|omega
     exact ⟨i+1,by omega,by omega,by simp,⟨rfl,by rw [zan hx2];simp⟩,by simp;omega⟩
    ·have e:i=s.ls.length:=by omega
     subst e
     refine run_exit ?_
     refine (show Run _ (.ops false _) _ _ from run_region (run_partN 3 ?_))
     simp only [List.take_succ_cons,List.take_zero,List.drop_succ_cons,List.drop_zero]
     have qe:=aI qR (aI @zaf (aI @hlk @List.take_length.{0}));repeat' first|refine gC (fun hc=>?_) (fun hc=>?_)<;>try contradiction|refine gG ?_|show AK _;intro K H|refine H _ _ ?_;clear H K|refine gJ ?_;try exact trivial|omega
     refine zbO (yaw 43 s.pv (by simp only [qS,Nat.reduceAdd,Nat.reduceMul,Nat.reduceEqDiff,Nat.reduceLeDiff,reduceIte,reduceCtorEq,Nat.reduceBEq,Nat.reduceLT,zaf]<;>rfl) (by first|trivial|simp) (.refl _)) ?_
     rintro _ rfl
     refine zE ?_
     have qe:=aI qR @hlk;repeat' first|refine gC (fun hc=>?_) (fun hc=>?_)<;>try contradiction|refine gG ?_|show AK _;intro K H|refine H _ _ ?_;clear H K|refine gJ ?_;try exact trivial|omega
     exact ⟨k+1,by omega,by omega,by simp,⟨rfl,by rw [zan hx];simp⟩,by simp;omega⟩
  ·have e:k=b.slots.length:=by omega
   subst e
   have qe:=aI qR @List.take_length.{0};repeat' first|refine gC (fun hc=>?_) (fun hc=>?_)<;>try contradiction|refine gG ?_|show AK _;intro K H|refine H _ _ ?_;clear H K|refine gJ ?_;try exact trivial|omega
   refine zaO 102 71 14 [(2,.lp 2 0),(3,.lp 3 0),(49,.p (.sl 14 (b.wait.map Wsh.pv))),(50,.p (.i .i64 b.wait.length)),(51,.p (.i .i64 0))] [(1,.box [.p (.sl 16 (b.slots.map Slt.pv)),.p (.sl 14 (b.wait.map Wsh.pv))] false),(2,.box [.p .nilsl,.p .nilsl] false),(3,.box [.row 100 b.slots.length,.row 102 0] false),(100,.row 59 16 (b.slots.map Slt.pv) false)] ?_ ?_
   ·simp only [Own,zaL,zaB,zbt,zay,qS,Nat.reduceAdd,Nat.reduceMul,Nat.reduceEqDiff,Nat.reduceLeDiff,reduceIte,reduceCtorEq,Nat.reduceBEq,Nat.reduceLT]<;>simp
   refine zk (κ:=Nat) (fun k=>⟨[(2,.lp 2 0),(3,.lp 3 0),(49,.p (.sl 14 (b.wait.map Wsh.pv))),(50,.p (.i .i64 b.wait.length)),(51,.p (.i .i64 k))],[(1,.box [.p (.sl 16 (b.slots.map Slt.pv)),.p (.sl 14 (b.wait.map Wsh.pv))] false),(2,.box [.p .nilsl,.p .nilsl] false),(3,.box [.row 100 b.slots.length,.row 102 k] false),(100,.row 59 16 (b.slots.map Slt.pv) false),(102,.row 71 14 ((b.wait.take k).map Wsh.pv) false)],[],false⟩) (fun k=>k≤b.wait.length) (fun k=>b.wait.length - k) 0 ?_ ?_ ?_
   ·exact sS
   ·simp
   ·intro k hk2
    have hl2:(b.wait.take k).length=k:=by rw [List.length_take];omega
    repeat first|refine gG ?_|show AK _;intro K H|refine H _ _ ?_;clear H K|refine gJ ?_;try exact trivial|omega
    (refine gC (fun hc=>?_) (fun hc=>?_)<;>try contradiction)
    ·obtain ⟨w,hx2⟩:=zn (i:=k) (l:=b.wait) (by omega)
     have qe:=aI qR (aI @hx2 @hl2);repeat' first|refine gC (fun hc=>?_) (fun hc=>?_)<;>try contradiction|refine gG ?_|show AK _;intro K H|refine H _ _ ?_;clear H K|refine gJ ?_;try exact trivial|omega
     exact ⟨k+1,by omega,by omega,by simp,⟨rfl,by rw [zan hx2];simp⟩,by simp;omega⟩
    ·have e2:k=b.wait.length:=by omega
     subst e2
     have qe:=aI qR (aI @zaf @List.take_length.{0});repeat' first|refine gC (fun hc=>?_) (fun hc=>?_)<;>try contradiction|refine gG ?_|show AK _;intro K H|refine H _ _ ?_;clear H K|refine gJ ?_;try exact trivial|omega
     exact .refl _
set_option maxRecDepth 100000
set_option linter.unusedVariables false
set_option linter.unusedSimpArgs false
set_option maxHeartbeats 8000000
theorem yco {n:ByteArray}:∀ {l:List ByteArray},¬atL n l < 0→l[(atL n l).toNat]?=some n
 | [],h=>absurd (show atL n [] < 0 by simp [atL]) h
 | x::r,h=>by
  simp only [atL] at h ⊢
  split
  ·rename_i e;simp [e]
  ·rename_i e
   rw [if_neg e] at h
   split
   ·rename_i k;rw [if_pos k] at h;omega
   ·rename_i k
    have h2:=yco (l:=r) k
    have h3:(atL n r+1).toNat=(atL n r).toNat+1:=by omega
    rw [h3];simpa using h2
theorem ya4 {b:Bk} {n:ByteArray} (h:¬atL n (b.slots.map (·.req.name)) < 0):(b.slots.map (·.req.name))[zA b n]?=some n:=yco h
set_option maxRecDepth 100000
set_option linter.unusedVariables false
set_option linter.unusedSimpArgs false
set_option maxHeartbeats 8000000
theorem ya (n:ByteArray):∀ l:List ByteArray,0≤atL n l↔n ∈ l
 | []=>by simp [atL]
 | x::r=>by
  have ih:=ya n r
  have:=atL_ge n r
  simp only [atL,List.mem_cons]
  by_cases h:x=n
  ·rw [if_pos h];exact ⟨fun _=>.inl h.symm,fun _=>by omega⟩
  ·rw [if_neg h]
   by_cases h2:atL n r < 0
   ·rw [if_pos h2];exact ⟨fun h3=>by omega,fun h3=>h3.elim (fun e=>absurd e.symm h) fun e=>by have:=ih.2 e;omega⟩
   ·rw [if_neg h2];exact ⟨fun _=>.inr (ih.1 (by omega)),fun _=>by omega⟩
set_option maxRecDepth 100000
set_option linter.unusedVariables false
set_option linter.unusedSimpArgs false
set_option maxHeartbeats 8000000
theorem ya3 {a b:Wsh}:yaB a b=false↔cmpW b a≤0:=by
 rw [yaB,cmpW]
 rcases Int.lt_trichotomy a.rank b.rank with k|k|k
 ·have e:cmpI b.rank a.rank=1:=by rw [cmpI,if_neg (by omega),if_pos k]
  rw [e,za2 (by omega),decide_eq_true k,Bool.true_or]
  exact ⟨fun h=>(by cases h),fun h=>(by omega)⟩
 ·have e:cmpI b.rank a.rank=0:=by rw [cmpI,if_neg (by omega),if_neg (by omega)]
  have k1:¬a.rank < b.rank:=by omega
  rw [za3 e,fE_one,decide_eq_false k1,decide_eq_true k,Bool.false_or,Bool.true_and]
  constructor
  ·intro h
   by_cases q:a.req.name=b.req.name
   ·rw [(cmpS_0 _ _).2 q.symm];omega
   ·have h2:Op.bytesLess b.req.name.toList a.req.name.toList=true:=by
     by_cases r:Op.bytesLess b.req.name.toList a.req.name.toList=true
     ·exact r
     ·exact absurd (ba_tri h (by simpa using r)) q
    have:=(cmpS_l _ _).2 h2;omega
  ·intro h
   cases q:Op.bytesLess a.req.name.toList b.req.name.toList
   ·rfl
   ·exfalso
    rcases Int.lt_or_eq_of_le h with h|h
    ·have h1:=(cmpS_l _ _).1 h
     rw [bl_asym _ _ q] at h1;cases h1
    ·have h1:=(cmpS_0 _ _).1 h
     rw [h1,less_irr] at q;cases q
 ·have e:cmpI b.rank a.rank=-1:=if_pos k
  have k1:¬a.rank < b.rank:=by omega
  have k2:¬a.rank=b.rank:=by omega
  rw [e,za2 (by omega),decide_eq_false k1,decide_eq_false k2,Bool.false_or,Bool.false_and]
  exact ⟨fun _=>by omega,fun _=>rfl⟩
theorem yaW (b:Bk):Pure Tryz.prog 22 [b.pv] (.i .i64 (zG b)):=by
 refine zf (cF Tryz.func22 Tryz.f22.eq_1) (by simp) fun hw X hX=>?_
 by_cases h64:(64:Int) < b.slots.length
 ·have e:zG b=5:=by rw [zG,if_pos h64,za2 (by omega)]
  have h64':=eq_true h64
  rw [e]
  have qe:=aI qR (aI @h64' @decide_true);repeat' first|refine gC (fun hc=>?_) (fun hc=>?_)<;>try contradiction|refine gG ?_|show AK _;intro K H|refine H _ _ ?_;clear H K|refine gJ ?_;try exact trivial|omega
  all_goals exact .refl _
 have h64':=eq_false h64
 have hE:zG b=zg [zg (b.slots.mapIdx (sltErr b)),if 64 < (b.wait.length:Int) then 5 else 0,zg (b.wait.mapIdx (wshErr b))]:=by rw [zG,if_neg h64,za3 rfl]
 have qe:=aI qR (aI @h64' @decide_false);repeat' first|refine gC (fun hc=>?_) (fun hc=>?_)<;>try contradiction|refine gG ?_|show AK _;intro K H|refine H _ _ ?_;clear H K|refine gJ ?_;try exact trivial|omega
 refine zk (κ:=Nat) (fun i=>⟨[(1,.lp 1 0),(3,.p (.i .i64 i))],[(1,.box [.p (.sl 16 (b.slots.map Slt.pv)),.p (.sl 14 (b.wait.map Wsh.pv))] false)],[],false⟩) (fun i=>i≤b.slots.length∧∀ x ∈ (b.slots.mapIdx (sltErr b)).take i,x=0) (fun i=>b.slots.length - i) 0 ?_ ?_ ?_
 ·exact sS
 ·simp
 ·intro i hi
  repeat first|refine gG ?_|show AK _;intro K H|refine H _ _ ?_;clear H K|refine gJ ?_;try exact trivial|omega
  (refine gC (fun hc=>?_) (fun hc=>?_)<;>try contradiction)
  ·obtain ⟨s,hs⟩:=zn (i:=i) (l:=b.slots) (by omega)
   have e9:((9:Int)=0)=False:=eq_false (by omega)
   by_cases c1:chkSlt s=0
   ·have c1':=eq_true c1
    by_cases c2:0≤atL s.req.name ((b.slots.take i).map (·.req.name))
    ·have c2':=eq_true c2
     have hv:sltErr b i s=9:=by rw [sltErr,za3 c1,fE_one,if_pos c2]
     have e:zG b=9:=by rw [hE,zV hi.2 (zI hs) (by rw [hv];decide),hv,za2 (by omega)]
     rw [e]
     have qe:=aI qR (aI @hs (aI @take_map (aI @c1' (aI @c2' (aI @e9 (aI @decide_true @decide_false))))));repeat' first|refine gC (fun hc=>?_) (fun hc=>?_)<;>try contradiction|refine za (yah s) ?_|refine zN (fun _=>yb (b.slots.take i) s.req.name) ?_|refine gG ?_|show AK _;intro K H|refine H _ _ ?_;clear H K|refine gJ ?_;try exact trivial|omega
     all_goals exact .refl _
    ·have c2':=eq_false c2
     have hv:sltErr b i s=0:=by rw [sltErr,za3 c1,fE_one,if_neg c2]
     have qe:=aI qR (aI @hs (aI @take_map (aI @c1' (aI @c2' (aI @decide_true @decide_false)))));repeat' first|refine gC (fun hc=>?_) (fun hc=>?_)<;>try contradiction|refine za (yah s) ?_|refine zN (fun _=>yb (b.slots.take i) s.req.name) ?_|refine gG ?_|show AK _;intro K H|refine H _ _ ?_;clear H K|refine gJ ?_;try exact trivial|omega
     all_goals exact ⟨i+1,⟨by omega,zaC hi.2 (zI hs) hv⟩,by omega,by simp⟩
   ·have c1':=eq_false c1
    have hv:sltErr b i s=chkSlt s:=by rw [sltErr,za2 c1]
    have e:zG b=chkSlt s:=by rw [hE,zV hi.2 (zI hs) (by rw [hv];exact c1),hv,za2 c1]
    rw [e]
    have qe:=aI qR (aI @hs (aI @take_map (aI @c1' @decide_false)));repeat' first|refine gC (fun hc=>?_) (fun hc=>?_)<;>try contradiction|refine za (yah s) ?_|refine zN (fun _=>yb (b.slots.take i) s.req.name) ?_|refine gG ?_|show AK _;intro K H|refine H _ _ ?_;clear H K|refine gJ ?_;try exact trivial|omega
    all_goals exact .refl _
  ·have ei:i=(b.slots.mapIdx (sltErr b)).length:=by simp;omega
   have hA:zg (b.slots.mapIdx (sltErr b))=0:=by subst ei;exact z4 hi.2
   rw [za3 hA] at hE
   by_cases h65:(64:Int) < b.wait.length
   ·have e:zG b=5:=by rw [hE,if_pos h65,za2 (by omega)]
    have h65':=eq_true h65
    rw [e]
    have qe:=aI qR (aI @h65' @decide_true);repeat' first|refine gC (fun hc=>?_) (fun hc=>?_)<;>try contradiction|refine gG ?_|show AK _;intro K H|refine H _ _ ?_;clear H K|refine gJ ?_;try exact trivial|omega
    all_goals exact .refl _
   have h65':=eq_false h65
   rw [if_neg h65,za3 rfl,fE_one] at hE
   have qe:=aI qR (aI @h65' @decide_false);repeat' first|refine gC (fun hc=>?_) (fun hc=>?_)<;>try contradiction|refine gG ?_|show AK _;intro K H|refine H _ _ ?_;clear H K|refine gJ ?_;try exact trivial|omega
   refine zk (κ:=Nat) (fun i=>⟨[(1,.lp 1 0),(5,.p (.i .i64 i))],[(1,.box [.p (.sl 16 (b.slots.map Slt.pv)),.p (.sl 14 (b.wait.map Wsh.pv))] false)],[],false⟩) (fun i=>i≤b.wait.length∧∀ x ∈ (b.wait.mapIdx (wshErr b)).take i,x=0) (fun i=>b.wait.length - i) 0 ?_ ?_ ?_
   ·exact sS
   ·simp
   ·clear hi ei
    intro i hi
    repeat first|refine gG ?_|show AK _;intro K H|refine H _ _ ?_;clear H K|refine gJ ?_;try exact trivial|omega
    (refine gC (fun hc=>?_) (fun hc=>?_)<;>try contradiction)
    ·obtain ⟨w,hx⟩:=zn (i:=i) (l:=b.wait) (by omega)
     have e9:((9:Int)=0)=False:=eq_false (by omega)
     have e11:((11:Int)=0)=False:=eq_false (by omega)
     have hr:∀ e,wshErr b i w=e→e≠0→zG b=e:=fun e hv he=>by rw [hE,zV hi.2 (zI hx) (by rw [hv];exact he),hv]
     have hn9:∀ q:0≤atL w.req.name (b.slots.map (·.req.name))∨0≤atL w.req.name ((b.wait.take i).map (·.req.name)),0≤atL w.req.name (b.slots.map (·.req.name)++(b.wait.take i).map (·.req.name)):=fun q=>(ya _ _).2 (by
      rcases q with q|q
      ·exact List.mem_append_left _ ((ya _ _).1 q)
      ·exact List.mem_append_right _ ((ya _ _).1 q))
     by_cases d1:chkWsh w=0
     ·have d1':=eq_true d1
      by_cases d2:0≤atL w.req.name (b.slots.map (·.req.name))
      ·have d2':=eq_true d2
       rw [hr 9 (by rw [wshErr,za3 d1,if_pos (hn9 (.inl d2)),za2 (by omega)]) (by omega)]
       have qe:=aI qR (aI @hx (aI @take_map (aI @d1' (aI @d2' (aI @e9 (aI @decide_true @decide_false))))));repeat' first|refine gC (fun hc=>?_) (fun hc=>?_)<;>try contradiction|refine za (yq w) ?_|refine zN (fun _=>yb b.slots w.req.name) ?_|refine zN (fun _=>yp (b.wait.take i) w.req.name) ?_|(show zj _ _ _ _ (⟨_,.call 95,_,_,_⟩::_) _ _;refine yf (q:=.b false) (by first|rfl|(simp (disch:=omega) only [qG,qe,Nat.reduceAdd,Nat.reduceMul,Nat.reduceEqDiff,Nat.reduceLeDiff,reduceIte,reduceCtorEq,Nat.reduceBEq,Nat.reduceLT]<;>rfl)) ?_;(try (refine zE ?_)))|refine gG ?_|show AK _;intro K H|refine H _ _ ?_;clear H K|refine gJ ?_;try exact trivial|omega
       all_goals exact .refl _
      have d2':=eq_false d2
      by_cases d3:0≤atL w.req.name ((b.wait.take i).map (·.req.name))
      ·have d3':=eq_true d3
       rw [hr 9 (by rw [wshErr,za3 d1,if_pos (hn9 (.inr d3)),za2 (by omega)]) (by omega)]
       have qe:=aI qR (aI @hx (aI @take_map (aI @d1' (aI @d2' (aI @d3' (aI @e9 (aI @decide_true @decide_false)))))));repeat' first|refine gC (fun hc=>?_) (fun hc=>?_)<;>try contradiction|refine za (yq w) ?_|refine zN (fun _=>yb b.slots w.req.name) ?_|refine zN (fun _=>yp (b.wait.take i) w.req.name) ?_|(show zj _ _ _ _ (⟨_,.call 95,_,_,_⟩::_) _ _;refine yf (q:=.b false) (by first|rfl|(simp (disch:=omega) only [qG,qe,Nat.reduceAdd,Nat.reduceMul,Nat.reduceEqDiff,Nat.reduceLeDiff,reduceIte,reduceCtorEq,Nat.reduceBEq,Nat.reduceLT]<;>rfl)) ?_;(try (refine zE ?_)))|refine gG ?_|show AK _;intro K H|refine H _ _ ?_;clear H K|refine gJ ?_;try exact trivial|omega
       all_goals exact .refl _
      have d3':=eq_false d3
      have hno:¬0≤atL w.req.name (b.slots.map (·.req.name)++(b.wait.take i).map (·.req.name)):=fun q=>by
       rcases List.mem_append.1 ((ya _ _).1 q) with q|q
       ·exact d2 ((ya _ _).2 q)
       ·exact d3 ((ya _ _).2 q)
      by_cases d4:0 < (i:Int)
      ·have d4':=eq_true d4
       obtain ⟨p,hp⟩:=zn (i:=i - 1) (l:=b.wait) (by omega)
       have e1:((i:Int) - 1).toNat=i - 1:=by omega
       cases d5:yaB p w with
       | true=>
        have hc5:¬cmpW w p≤0:=fun q=>by rw [ya3.2 q] at d5;cases d5
        have hv:wshErr b i w=0:=by rw [wshErr,za3 d1,if_neg hno,za3 rfl,fE_one,hp];exact if_neg fun q=>hc5 q.2
        have qe:=aI qR (aI @hx (aI @hp (aI @e1 (aI @take_map (aI @d1' (aI @d2' (aI @d3' (aI @d4' (aI @d5 (aI @decide_true (aI @decide_false @Bool.not_true)))))))))));repeat' first|refine gC (fun hc=>?_) (fun hc=>?_)<;>try contradiction|refine za (yq w) ?_|refine zN (fun _=>yb b.slots w.req.name) ?_|refine zN (fun _=>yp (b.wait.take i) w.req.name) ?_|refine zN (fun _=>yaT p w) ?_|refine gG ?_|show AK _;intro K H|refine H _ _ ?_;clear H K|refine gJ ?_;try exact trivial|omega
        all_goals exact ⟨i+1,⟨by omega,zaC hi.2 (zI hx) hv⟩,by omega,by simp⟩
       | false=>
        rw [hr 11 (by rw [wshErr,za3 d1,if_neg hno,za3 rfl,fE_one,hp];exact if_pos ⟨d4,ya3.1 d5⟩) (by omega)]
        have qe:=aI qR (aI @hx (aI @hp (aI @e1 (aI @take_map (aI @d1' (aI @d2' (aI @d3' (aI @d4' (aI @d5 (aI @e11 (aI @decide_true (aI @decide_false @Bool.not_false))))))))))));repeat' first|refine gC (fun hc=>?_) (fun hc=>?_)<;>try contradiction|refine za (yq w) ?_|refine zN (fun _=>yb b.slots w.req.name) ?_|refine zN (fun _=>yp (b.wait.take i) w.req.name) ?_|refine zN (fun _=>yaT p w) ?_|refine gG ?_|show AK _;intro K H|refine H _ _ ?_;clear H K|refine gJ ?_;try exact trivial|omega
        all_goals exact .refl _
      ·have d4':=eq_false d4
       have hv:wshErr b i w=0:=by rw [wshErr,za3 d1,if_neg hno,za3 rfl,fE_one];exact if_neg fun q=>d4 q.1
       have qe:=aI qR (aI @hx (aI @take_map (aI @d1' (aI @d2' (aI @d3' (aI @d4' (aI @decide_true @decide_false)))))));repeat' first|refine gC (fun hc=>?_) (fun hc=>?_)<;>try contradiction|refine za (yq w) ?_|refine zN (fun _=>yb b.slots w.req.name) ?_|refine zN (fun _=>yp (b.wait.take i) w.req.name) ?_|(show zj _ _ _ _ (⟨_,.call 95,_,_,_⟩::_) _ _;refine yf (q:=.b false) (by first|rfl|(simp (disch:=omega) only [qG,qe,Nat.reduceAdd,Nat.reduceMul,Nat.reduceEqDiff,Nat.reduceLeDiff,reduceIte,reduceCtorEq,Nat.reduceBEq,Nat.reduceLT]<;>rfl)) ?_;(try (refine zE ?_)))|refine gG ?_|show AK _;intro K H|refine H _ _ ?_;clear H K|refine gJ ?_;try exact trivial|omega
       all_goals exact ⟨i+1,⟨by omega,zaC hi.2 (zI hx) hv⟩,by omega,by simp⟩
     ·have d1':=eq_false d1
      rw [hr (chkWsh w) (by rw [wshErr,za2 d1]) d1]
      have qe:=aI qR (aI @hx (aI @take_map (aI @d1' @decide_false)));repeat' first|refine gC (fun hc=>?_) (fun hc=>?_)<;>try contradiction|refine za (yq w) ?_|refine zN (fun _=>yb b.slots w.req.name) ?_|refine zN (fun _=>yp (b.wait.take i) w.req.name) ?_|(show zj _ _ _ _ (⟨_,.call 95,_,_,_⟩::_) _ _;refine yf (q:=.b false) (by first|rfl|(simp (disch:=omega) only [qG,qe,Nat.reduceAdd,Nat.reduceMul,Nat.reduceEqDiff,Nat.reduceLeDiff,reduceIte,reduceCtorEq,Nat.reduceBEq,Nat.reduceLT]<;>rfl)) ?_;(try (refine zE ?_)))|refine gG ?_|show AK _;intro K H|refine H _ _ ?_;clear H K|refine gJ ?_;try exact trivial|omega
      all_goals exact .refl _
    ·have ei:i=(b.wait.mapIdx (wshErr b)).length:=by simp;omega
     have hZ:zg (b.wait.mapIdx (wshErr b))=0:=by subst ei;exact z4 hi.2
     rw [hE,hZ]
     have qe:=@qR;repeat' first|refine gC (fun hc=>?_) (fun hc=>?_)<;>try contradiction|refine gG ?_|show AK _;intro K H|refine H _ _ ?_;clear H K|refine gJ ?_;try exact trivial|omega
     all_goals exact .refl _
set_option maxRecDepth 100000
set_option linter.unusedVariables false
set_option linter.unusedSimpArgs false
set_option maxHeartbeats 8000000
theorem sl_sh {s:Slt} (h:ybK s=true):s.ls.length≤9∧s.sh.length≤5∧shortB s.req=true:=by
 simp only [ybK,Bool.and_eq_true,Bool.not_eq_true',bigS,Bool.or_eq_false_iff,Bool.and_eq_false_iff,decide_eq_false_iff_not,Bool.not_eq_false',decide_eq_true_eq] at h
 obtain ⟨⟨⟨⟨h1,_⟩,h2⟩,h3⟩,_⟩:=h
 exact ⟨by omega,by omega,h1⟩
theorem sh_ok {b:Bk} (h:ybL b=true):BkOk b∧b.slots.length≤65∧b.wait.length≤65:=by
 simp only [ybL,Bool.and_eq_true,Bool.not_eq_true',bigB,Bool.or_eq_false_iff,Bool.and_eq_false_iff,decide_eq_false_iff_not,Bool.not_eq_false',decide_eq_true_eq,List.all_eq_true] at h
 obtain ⟨⟨h1,h2⟩,h3,_⟩:=h
 exact ⟨⟨fun s hs=>by have:=sl_sh (h3 s hs);exact ⟨by omega,by omega⟩,by omega,by omega⟩,by omega,by omega⟩
end Go.Proofs.YtahmdjadnlpjoaaGreat
namespace Go.Proofs.YtahmdjadnlpjoaaGreat
open Go.RowKit Go.ChangeShapes Go.WideShapes Go.ChangeAt
set_option maxRecDepth 100000
set_option linter.unusedVariables false
set_option linter.unusedSimpArgs false
set_option maxHeartbeats 4000000
theorem yU {α:Type} {f:α→PV}:∀ {xs:List PV},(∀ x ∈ xs,∃ a,x=f a)→∃ L:List α,xs=L.map f
 | [],_=>⟨[],rfl⟩
 | x::r,h=>by
  obtain ⟨a,rfl⟩:=h x (by simp)
  obtain ⟨L,rfl⟩:=yU (xs:=r) fun y hy=>h y (by simp [hy])
  exact ⟨a::L,rfl⟩
def leaT:List CP:=[.s,jT,jT]
def sltT:List CP:=[.s,.s,.s,.s,.s,.s,jT,jT,jT,jT,jT,jT,jT,.s,.sl true leaT,.sl false [.s]]
def wshT:List CP:=[.s,.s,.s,.s,.s,.s,jT,jT,jT,jT,jT,jT,jT,jT]
theorem lea_of {n:Nat} {l:List PV} (h:FitAll (Fit n) leaT l):∃ L:Lea,.agg l=L.pv:=by
 cases n<;>(match l,h with
  | [_,_,_],⟨⟨a,ha⟩,⟨b,hb⟩,⟨c,hc⟩,_⟩=>subst ha hb hc;exact ⟨⟨a,b,c⟩,rfl⟩)
theorem ycA {n:Nat} {p:PV} (h:Fit (n+1) (.sl true leaT) p):∃ L:List Lea,p=.sl 3 (L.map Lea.pv):=by
 obtain ⟨xs,rfl,hx⟩:=h
 obtain ⟨L,rfl⟩:=yU (f:=Lea.pv) (xs:=xs) fun x h=>by
  obtain ⟨l,rfl,hf⟩:=hx x h
  exact lea_of hf
 exact ⟨L,rfl⟩
theorem ybf {n:Nat} {p:PV} (h:Fit (n+1) (.sl false [.s]) p):∃ L:List ByteArray,p=.sl 1 (L.map .s):=by
 obtain ⟨xs,rfl,hx⟩:=h
 obtain ⟨L,rfl⟩:=yU (f:=PV.s) (xs:=xs) fun x h=>by
  obtain ⟨l,rfl,hf⟩:=hx x h
  match l,hf with
  | [_],⟨h1,_⟩=>
   cases n<;>(obtain ⟨a,rfl⟩:=h1;exact ⟨a,rfl⟩)
 exact ⟨L,rfl⟩
theorem slt_of {n:Nat} {l:List PV} (h:FitAll (Fit (n+1)) sltT l):∃ s:Slt,.agg l=s.pv:=by
 match l,h with
 | [_,_,_,_,_,_,_,_,_,_,_,_,_,_,_,_],⟨⟨a,ha⟩,⟨b,hb⟩,⟨c,hc⟩,⟨d,hd⟩,⟨e,he⟩,⟨f,hf⟩,⟨g,hg⟩,⟨i,hi⟩,⟨j,hj⟩,⟨k,hk⟩,⟨m,hm⟩,⟨o,ho⟩,⟨q,hq⟩,⟨r,hr⟩,h1,h2,_⟩=>
  subst ha hb hc hd he hf hg hi hj hk hm ho hq hr
  obtain ⟨L,rfl⟩:=ycA h1
  obtain ⟨S,rfl⟩:=ybf h2
  exact ⟨⟨⟨a,b,c,d,e,f,⟨g,i,j⟩,k,m,o,q⟩,r,L,S⟩,rfl⟩
theorem wsh_of {n:Nat} {l:List PV} (h:FitAll (Fit n) wshT l):∃ w:Wsh,.agg l=w.pv:=by
 cases n<;>(match l,h with
  | [_,_,_,_,_,_,_,_,_,_,_,_,_,_],⟨⟨a,ha⟩,⟨b,hb⟩,⟨c,hc⟩,⟨d,hd⟩,⟨e,he⟩,⟨f,hf⟩,⟨g,hg⟩,⟨i,hi⟩,⟨j,hj⟩,⟨k,hk⟩,⟨m,hm⟩,⟨o,ho⟩,⟨q,hq⟩,⟨r,hr⟩,_⟩=>
   subst ha hb hc hd he hf hg hi hj hk hm ho hq hr
   exact ⟨⟨⟨a,b,c,d,e,f,⟨g,i,j⟩,k,m,o,q⟩,r⟩,rfl⟩)
theorem parB:ycx Tryz.prog 6 25=some (true,[.sl true sltT,.sl true wshT]):=by kernel_rfl
theorem fit_bk {p:PV} (h:yac Tryz.prog 6 25 p):∃ b:Bk,p=b.pv:=by
 obtain ⟨⟨ag,c,l,hp,rfl,hl⟩,hb⟩:=h
 rw [parB] at hp
 simp only [Option.some.injEq,Prod.mk.injEq] at hp
 obtain ⟨rfl,rfl⟩:=hp
 match l,hl with
 | [_,_],⟨⟨xs,rfl,hx⟩,⟨ys,rfl,hy⟩,_⟩=>
  obtain ⟨L,rfl⟩:=yU (f:=Slt.pv) (xs:=xs) fun x h=>by
   obtain ⟨l,rfl,hf⟩:=hx x h
   exact slt_of hf
  obtain ⟨W,rfl⟩:=yU (f:=Wsh.pv) (xs:=ys) fun x h=>by
   obtain ⟨l,rfl,hf⟩:=hy x h
   exact wsh_of hf
  exact ⟨⟨L,W⟩,rfl⟩
end Go.Proofs.YtahmdjadnlpjoaaGreat
namespace Go.Proofs.YtahmdjadnlpjoaaGreat
open Go.RowKit
set_option maxRecDepth 100000
set_option linter.unusedVariables false
set_option linter.unusedSimpArgs false
set_option maxHeartbeats 8000000
theorem nar_n {x:Exc} (h:ym x=true):x.slots.length≤10:=by
 simp only [ym,Bool.and_eq_true,Bool.not_eq_true',bigX,Bool.or_eq_false_iff,decide_eq_false_iff_not] at h
 omega
set_option maxRecDepth 100000
set_option linter.unusedVariables false
set_option linter.unusedSimpArgs false
set_option maxHeartbeats 8000000
section
variable {α:Type}
def inF (bf:α→α→Bool) (l:α) (q:Bool × List α) (x:α):Bool × List α:=if q.1=false∧bf l x=true then (true,q.2++[l]++[x]) else (q.1,q.2++[x])
def inK (bf:α→α→Bool) (l:α) (L:List α):Bool × List α:=L.foldl (inF bf l) (false,[])
def inR (bf:α→α→Bool) (l:α) (L:List α):List α:=if (inK bf l L).1=true then (inK bf l L).2 else (inK bf l L).2++[l]
end
def bfLe (l x:Lea):Bool:=decide (l.fro < x.fro)
set_option maxRecDepth 100000
set_option linter.unusedVariables false
set_option linter.unusedSimpArgs false
set_option maxHeartbeats 4000000
theorem ycg {α:Type} {R:α→α→Prop} (tr:∀ a b c,R a b→R b c→R a c):∀ {L:List α},(∀ i x y,L[i]?=some x→L[i+1]?=some y→R x y)→L.Pairwise R
 | [],_=>.nil
 | [x],_=>by simp
 | x::y::r,h=>by
  have ih:(y::r).Pairwise R:=ycg tr fun i a b h1 h2=>h (i+1) a b (by simpa using h1) (by simpa using h2)
  refine List.pairwise_cons.2 ⟨fun z hz=>?_,ih⟩
  have hxy:=h 0 x y rfl rfl
  rcases List.mem_cons.1 hz with rfl|hz
  ·exact hxy
  ·exact tr _ _ _ hxy (List.rel_of_pairwise_cons ih hz)
def ybb (a b:Lea):Prop:=a.fro≤a.to∧a.to < b.fro∧b.fro≤b.to
theorem yY {l:Lea} (h:chkLea l=0):l.fro≤l.to:=by
 have:=fE0 h (if l.to < l.fro then 11 else 0) (by simp)
 by_cases k:l.to < l.fro
 ·rw [if_pos k] at this;omega
 ·omega
theorem yae {s:Slt} (h:chkSlt s=0) {i:Nat} {x:Lea} (hx:s.ls[i]?=some x):leaErr s i x=0:=yS (fE0 h (zg (s.ls.mapIdx (leaErr s))) (by simp)) hx
theorem yaO {s:Slt} (h:chkSlt s=0) {x:Lea} (hx:x ∈ s.ls):x.fro≤x.to:=by
 obtain ⟨i,hi⟩:=List.mem_iff_getElem?.1 hx
 exact yY (fE0 (yae h hi) _ (by simp))
theorem yaN {s:Slt} (h:chkSlt s=0):s.ls.Pairwise ybb:=by
 refine ycg (fun a b c h1 h2=>?_) fun i x y hx hy=>?_
 ·simp only [ybb] at *;omega
 ·have h1:=yaO h (List.mem_of_getElem? hx)
  have h2:=yaO h (List.mem_of_getElem? hy)
  have:=fE0 (yae h hy) (if 0 < ((i+1:Nat):Int)∧y.fro≤((s.ls[i+1 - 1]?).getD y).to then 15 else 0) (by simp)
  have e:(s.ls[i+1 - 1]?).getD y=x:=by rw [Nat.add_sub_cancel,hx];rfl
  rw [e] at this
  by_cases k:0 < ((i+1:Nat):Int)∧y.fro≤x.to
  ·rw [if_pos k] at this;omega
  ·exact ⟨h1,by omega,h2⟩
theorem yas {α:Type} {p:α→Bool}:∀ {l:List α},(idxF p l < 0∧∀ x ∈ l,p x=false)∨∃ k x,idxF p l=(k:Nat)∧l[k]?=some x∧p x=true∧∀ y ∈ l.take k,p y=false
 | []=>.inl ⟨by simp [idxF],by simp⟩
 | x::r=>by
  by_cases h:p x=true
  ·refine .inr ⟨0,x,?_,rfl,h,by simp⟩
   exact idxF_hit (i:=0) (by simp) rfl h
  ·have h':p x=false:=by simpa using h
   rcases yas (p:=p) (l:=r) with ⟨h1,h2⟩|⟨k,y,h1,h2,h3,h4⟩
   ·have ha:∀ y ∈ x::r,p y=false:=fun y hy=>by
     rcases List.mem_cons.1 hy with rfl|hy
     ·exact h'
     ·exact h2 y hy
    exact .inl ⟨by rw [idxF_end ha];omega,ha⟩
   ·refine .inr ⟨k+1,y,?_,by simpa using h2,h3,?_⟩
    ·refine idxF_hit (i:=k+1) (fun z hz=>?_) (by simpa using h2) h3
     rw [List.take_succ_cons] at hz
     rcases List.mem_cons.1 hz with rfl|hz
     ·exact h'
     ·exact h4 z hz
    ·intro z hz
     rw [List.take_succ_cons] at hz
     rcases List.mem_cons.1 hz with rfl|hz
     ·exact h'
     ·exact h4 z hz
theorem yck {α:Type} {bef:α→α→Bool} {x:α} {A B:List α} (hA:∀ y ∈ A,bef x y=false) (hB:∀ y ∈ B,bef x y=true):insMP bef (A++B) x=A++x::B:=by
 have hle:=yaq bef x (A++B) (A++B).length
 have h1:zbB bef x (A++B) (A++B).length=A.length:=by
  generalize hn:zbB bef x (A++B) (A++B).length=n at hle
  rcases Nat.lt_trichotomy n A.length with h|h|h
  ·obtain ⟨y,hy,hb⟩:=yar bef x (A++B) (A++B).length n (by omega) (by rw [List.length_append];omega)
   rw [List.getElem?_append_left h] at hy
   rw [hA y (List.mem_of_getElem? hy)] at hb;cases hb
  ·exact h
  ·obtain ⟨k,rfl⟩:∃ k,n=k+1:=⟨n - 1,by omega⟩
   rw [List.length_append] at hle
   obtain ⟨y,hy⟩:=zn (i:=k - A.length) (l:=B) (by omega)
   have hy':(A++B)[k]?=some y:=by rw [List.getElem?_append_right (by omega)];exact hy
   have:=yW bef x (A++B) _ k y hn hy'
   rw [hB y (List.mem_of_getElem? hy)] at this;cases this
 rw [insMP,h1];simp
theorem ybg {α:Type} {c:α→α→Int}:∀ (L out:List α),(out++L).Pairwise (fun a b=>¬c b a < 0)→L.foldl (insMP (bfCP c)) out=out++L
 | [],out,_=>by simp
 | x::r,out,h=>by
  have hx:insMP (bfCP c) out x=out++[x]:=by
   have:=yck (bef:=bfCP c) (x:=x) (A:=out) (B:=[]) (fun y hy=>decide_eq_false ((List.pairwise_append.1 h).2.2 y hy x (by simp))) (by simp)
   rwa [List.append_nil] at this
  rw [List.foldl_cons,hx,ybg r (out++[x]) (by rw [List.append_assoc];exact h),List.append_assoc];rfl
theorem yaY {α:Type} (bf:α→α→Bool) (l:α):∀ (B:List α) (out:List α),B.foldl (inF bf l) (true,out)=(true,out++B)
 | [],out=>by simp
 | x::r,out=>by
  rw [List.foldl_cons,inF,if_neg (by simp),yaY bf l r];simp
theorem yaZ {α:Type} (bf:α→α→Bool) (l:α):∀ (A:List α) (out:List α),(∀ y ∈ A,bf l y=false)→A.foldl (inF bf l) (false,out)=(false,out++A)
 | [],out,_=>by simp
 | x::r,out,h=>by
  rw [List.foldl_cons,inF,if_neg (fun k=>by have:=h x (by simp);rw [this] at k;cases k.2),yaZ bf l r _ (fun y hy=>h y (by simp [hy]))];simp
theorem ycl {α:Type} {bf:α→α→Bool} {l:α} {A B:List α} (hA:∀ y ∈ A,bf l y=false) (hB:∀ y ∈ B,bf l y=true):inR bf l (A++B)=A++l::B:=by
 rw [inR,inK,List.foldl_append,yaZ bf l A [] hA,List.nil_append]
 cases B with
 | nil=>simp
 | cons x r=>
  have e:inF bf l (false,A) x=(true,A++[l]++[x]):=if_pos ⟨rfl,hB x (by simp)⟩
  rw [List.foldl_cons,e,yaY];simp
theorem yad {α:Type} {f:α→Int} {v:Int}:∀ {L:List α},L.Pairwise (fun a b=>f a < f b)→∃ A B,L=A++B∧(∀ y ∈ A,¬v < f y)∧∀ y ∈ B,v < f y
 | [],_=>⟨[],[],rfl,by simp,by simp⟩
 | x::r,h=>by
  by_cases k:v < f x
  ·exact ⟨[],x::r,rfl,by simp,fun y hy=>by
    rcases List.mem_cons.1 hy with rfl|hy
    ·exact k
    ·have:=List.rel_of_pairwise_cons h hy;omega⟩
  ·obtain ⟨A,B,rfl,h1,h2⟩:=yad (v:=v) (List.pairwise_cons.1 h).2
   exact ⟨x::A,B,rfl,fun y hy=>by
    rcases List.mem_cons.1 hy with rfl|hy
    ·exact k
    ·exact h1 y hy,h2⟩
theorem len_eq {s:Slt} (h:chkSlt s=0) (l:Lea):inR bfLe l s.ls=lnL s l:=by
 have hp:s.ls.Pairwise (fun a b=>a.fro < b.fro):=(yaN h).imp fun {a b} k=>by simp only [ybb] at k;omega
 obtain ⟨A,B,e,hA,hB⟩:=yad (v:=l.fro) hp
 have hc:∀ a b:Lea,cmpLe a b < 0↔a.fro < b.fro:=fun a b=>by
  simp only [cmpLe,cmpI];(repeat' split)<;>omega
 have hs:zbM cmpLe s.ls=s.ls:=by
  have:=ybg (c:=cmpLe) s.ls [] (by rw [List.nil_append];exact hp.imp fun {a b} k=>by rw [hc];omega)
  rwa [List.nil_append] at this
 rw [lnL,zbM,List.foldl_append]
 rw [zbM] at hs
 rw [hs,e,ycl (fun y hy=>decide_eq_false (hA y hy)) (fun y hy=>decide_eq_true (hB y hy))]
 exact (yck (fun y hy=>decide_eq_false (by rw [hc];exact hA y hy)) (fun y hy=>decide_eq_true (by rw [hc];exact hB y hy))).symm
set_option maxRecDepth 100000
set_option linter.unusedVariables false
set_option linter.unusedSimpArgs false
set_option maxHeartbeats 4000000
theorem yx {b:Bk} (h:zG b=0) {c n:ByteArray} {e:Int} (ho:ownE b c n e=0):chkSlt (zo b n)=0:=yaz h (List.mem_of_getElem? (za8 ho).2.1)
end Go.Proofs.YtahmdjadnlpjoaaGreat
namespace Go.Proofs.YtahmdjadnlpjoaaGreat
open Go.RowKit Go.ChangeShapes Go.WideShapes Go.ChangeAt
set_option maxRecDepth 100000
set_option linter.unusedVariables false
set_option linter.unusedSimpArgs false
set_option maxHeartbeats 4000000
theorem parX:ycx Tryz.prog 6 99=some (true,[.sl false [.s],.s,.s,.s,.s,jT,jT,jT]):=by kernel_rfl
theorem ycC {p:PV} (h:yac Tryz.prog 6 99 p):∃ x:Exc,p=x.pv:=by
 obtain ⟨⟨ag,c,l,hp,rfl,hl⟩,hb⟩:=h
 rw [parX] at hp
 simp only [Option.some.injEq,Prod.mk.injEq] at hp
 obtain ⟨rfl,rfl⟩:=hp
 match l,hl with
 | [_,_,_,_,_,_,_,_],⟨h1,⟨a,ha⟩,⟨b,hb⟩,⟨c,hc⟩,⟨d,hd⟩,⟨e,he⟩,⟨f,hf⟩,⟨g,hg⟩,_⟩=>
  subst ha hb hc hd he hf hg
  obtain ⟨S,rfl⟩:=ybf h1
  exact ⟨⟨S,a,b,c,⟨d,e,f⟩,g⟩,rfl⟩
end Go.Proofs.YtahmdjadnlpjoaaGreat
