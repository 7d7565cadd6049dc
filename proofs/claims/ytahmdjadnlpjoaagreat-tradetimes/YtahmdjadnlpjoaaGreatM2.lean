/- Contracts of functions that the proof uses, shared by the claims of this seat; no statement of its own. Part 72. No conditions. -/
import Derived.ProofKit
import Derived.OpenShut
import Derived.Carry
import Derived.OpenVars
import Derived.HandedShaped
import Derived.KernelRfl
import Derived.Laws.RangeAny
import Derived.Test.YtahmdjadnlpjoaaGreatRows
import Derived.Test.YtahmdjadnlpjoaaGreatM1
set_option linter.all false
set_option maxHeartbeats 8000000
namespace Go.Proofs.YtahmdjadnlpjoaaGreat
open Go.RowKit
set_option maxRecDepth 100000
set_option linter.unusedVariables false
set_option linter.unusedSimpArgs false
set_option maxHeartbeats 4000000
theorem pure1024 (l:List Int):Pure Tryz.prog 36 [.sl 1 (l.map (.i .i64))] (.i .i64 (zg l)):=by
 refine zf (cF Tryz.func36 Tryz.f36.eq_1) (by simp) fun hw X hX=>?_
 simp only [wfs,PV.wf,List.length_map,maxLen] at hw
 repeat' first|refine gC (fun hc=>?_) (fun hc=>?_)<;>try contradiction|refine gG ?_|show AK _;intro K H|refine H _ _ ?_;clear H K|refine gJ ?_;try exact trivial|omega
 refine zk (κ:=Nat) (fun i=>⟨[(0,.p (.sl 1 (l.map (.i .i64)))),(3,.p (.i .i64 i))],[],[],false⟩) (fun i=>i≤l.length∧∀ x ∈ l.take i,x=0) (fun i=>l.length - i) 0 ?_ ?_ ?_
 ·exact sR
 ·simp
 ·intro i hi
  repeat first|refine gG ?_|show AK _;intro K H|refine H _ _ ?_;clear H K|refine gJ ?_;try exact trivial|omega
  (refine gC (fun hc=>?_) (fun hc=>?_)<;>try contradiction)
  ·obtain ⟨x,hx⟩:=zn (i:=i) (l:=l) (by omega)
   have qe:=@hx;repeat' first|refine gC (fun hc=>?_) (fun hc=>?_)<;>try contradiction|refine gG ?_|show AK _;intro K H|refine H _ _ ?_;clear H K|refine gJ ?_;try exact trivial|omega
   ·rw [zV hi.2 hx hc];exact .refl _
   ·exact ⟨i+1,⟨by omega,zaC hi.2 hx hc⟩,by omega,by simp⟩
  ·repeat' first|refine gC (fun hc=>?_) (fun hc=>?_)<;>try contradiction|refine gG ?_|show AK _;intro K H|refine H _ _ ?_;clear H K|refine gJ ?_;try exact trivial|omega
   have e:i=l.length:=by omega
   subst e
   rw [z4 hi.2];exact .refl _
theorem pure1074 (L:List ByteArray) (x:ByteArray):Pure Tryz.prog 81 [.sl 1 (L.map .s),.s x] (.b (decide (0≤atL x L))):=by
 refine zf (cF Tryz.func81 Tryz.f81.eq_1) (by simp) fun hw X hX=>?_
 simp only [wfs,PV.wf,List.length_map,maxLen] at hw
 repeat' first|refine gC (fun hc=>?_) (fun hc=>?_)<;>try contradiction|refine gG ?_|show AK _;intro K H|refine H _ _ ?_;clear H K|refine gJ ?_;try exact trivial|omega
 refine zk (κ:=Nat) (fun i=>⟨[(0,.p (.sl 1 (L.map .s))),(1,.p (.s x)),(5,.p (.i .i64 i))],[],[],false⟩) (fun i=>i≤L.length∧∀ y ∈ L.take i,y≠x) (fun i=>L.length - i) 0 ?_ ?_ ?_
 ·exact sR
 ·simp
 ·intro i hi
  repeat first|refine gG ?_|show AK _;intro K H|refine H _ _ ?_;clear H K|refine gJ ?_;try exact trivial|omega
  (refine gC (fun hc=>?_) (fun hc=>?_)<;>try contradiction)
  ·obtain ⟨y,hy⟩:=zn (i:=i) (l:=L) (by omega)
   have qe:=@hy;repeat' first|refine gC (fun hc=>?_) (fun hc=>?_)<;>try contradiction|refine gG ?_|show AK _;intro K H|refine H _ _ ?_;clear H K|refine gJ ?_;try exact trivial|omega
   ·rw [atL_hit hi.2 (by rw [hy,hc]),decide_eq_true (by omega)];exact .refl _
   ·refine ⟨i+1,⟨by omega,fun z hz=>?_⟩,by omega,by simp⟩
    rw [zan hy] at hz
    rcases List.mem_append.1 hz with h|h
    ·exact hi.2 z h
    ·simp at h;subst h;exact hc
  ·repeat' first|refine gC (fun hc=>?_) (fun hc=>?_)<;>try contradiction|refine gG ?_|show AK _;intro K H|refine H _ _ ?_;clear H K|refine gJ ?_;try exact trivial|omega
   have e:i=L.length:=by omega
   subst e
   rw [atL_end (fun y hy=>hi.2 y (by rw [List.take_of_length_le (by simp)];exact hy))];exact .refl _
theorem pure1071 (L:List Slt) (n:ByteArray):Pure Tryz.prog 79 [.sl 16 (L.map Slt.pv),.s n] (.i .i64 (atL n (L.map (·.req.name)))):=by
 refine zf (cF Tryz.func79 Tryz.f79.eq_1) (by simp) fun hw X hX=>?_
 simp only [wfs,PV.wf,List.length_map,maxLen] at hw
 rw [←idxF_atL]
 repeat' first|refine gC (fun hc=>?_) (fun hc=>?_)<;>try contradiction|refine gG ?_|show AK _;intro K H|refine H _ _ ?_;clear H K|refine gJ ?_;try exact trivial|omega
 refine zk (κ:=Nat) (fun i=>⟨[(0,.p (.sl 16 (L.map Slt.pv))),(1,.p (.s n)),(5,.p (.i .i64 i))],[],[],false⟩) (fun i=>i≤L.length∧∀ y ∈ L.take i,decide (y.req.name=n)=false) (fun i=>L.length - i) 0 ?_ ?_ ?_
 ·exact sR
 ·simp
 ·intro i hi
  repeat first|refine gG ?_|show AK _;intro K H|refine H _ _ ?_;clear H K|refine gJ ?_;try exact trivial|omega
  (refine gC (fun hc=>?_) (fun hc=>?_)<;>try contradiction)
  ·obtain ⟨y,hy⟩:=zn (i:=i) (l:=L) (by omega)
   have qe:=@hy;repeat' first|refine gC (fun hc=>?_) (fun hc=>?_)<;>try contradiction|refine gG ?_|show AK _;intro K H|refine H _ _ ?_;clear H K|refine gJ ?_;try exact trivial|omega
   ·rw [idxF_hit hi.2 hy (by simpa using hc)];exact .refl _
   ·exact ⟨i+1,⟨by omega,take_no hi.2 hy (by simpa using hc)⟩,by omega,by simp⟩
  ·repeat' first|refine gC (fun hc=>?_) (fun hc=>?_)<;>try contradiction|refine gG ?_|show AK _;intro K H|refine H _ _ ?_;clear H K|refine gJ ?_;try exact trivial|omega
   have e:i=L.length:=by omega
   subst e
   rw [idxF_end (fun y hy=>hi.2 y (by rw [List.take_of_length_le (by simp)];exact hy))];exact .refl _
theorem pure1046 (L:List Wsh) (n:ByteArray):Pure Tryz.prog 55 [.sl 14 (L.map Wsh.pv),.s n] (.i .i64 (atL n (L.map (·.req.name)))):=by
 refine zf (cF Tryz.func55 Tryz.f55.eq_1) (by simp) fun hw X hX=>?_
 simp only [wfs,PV.wf,List.length_map,maxLen] at hw
 rw [←idxF_atL]
 repeat' first|refine gC (fun hc=>?_) (fun hc=>?_)<;>try contradiction|refine gG ?_|show AK _;intro K H|refine H _ _ ?_;clear H K|refine gJ ?_;try exact trivial|omega
 refine zk (κ:=Nat) (fun i=>⟨[(0,.p (.sl 14 (L.map Wsh.pv))),(1,.p (.s n)),(5,.p (.i .i64 i))],[],[],false⟩) (fun i=>i≤L.length∧∀ y ∈ L.take i,decide (y.req.name=n)=false) (fun i=>L.length - i) 0 ?_ ?_ ?_
 ·exact sR
 ·simp
 ·intro i hi
  repeat first|refine gG ?_|show AK _;intro K H|refine H _ _ ?_;clear H K|refine gJ ?_;try exact trivial|omega
  (refine gC (fun hc=>?_) (fun hc=>?_)<;>try contradiction)
  ·obtain ⟨y,hy⟩:=zn (i:=i) (l:=L) (by omega)
   have qe:=@hy;repeat' first|refine gC (fun hc=>?_) (fun hc=>?_)<;>try contradiction|refine gG ?_|show AK _;intro K H|refine H _ _ ?_;clear H K|refine gJ ?_;try exact trivial|omega
   ·rw [idxF_hit hi.2 hy (by simpa using hc)];exact .refl _
   ·exact ⟨i+1,⟨by omega,take_no hi.2 hy (by simpa using hc)⟩,by omega,by simp⟩
  ·repeat' first|refine gC (fun hc=>?_) (fun hc=>?_)<;>try contradiction|refine gG ?_|show AK _;intro K H|refine H _ _ ?_;clear H K|refine gJ ?_;try exact trivial|omega
   have e:i=L.length:=by omega
   subst e
   rw [idxF_end (fun y hy=>hi.2 y (by rw [List.take_of_length_le (by simp)];exact hy))];exact .refl _
theorem pure1133 (s:ByteArray):Pure Tryz.prog 107 [.s s] (.i .i64 (zaH s)):=by
 refine zf (cF Tryz.func107 Tryz.f107.eq_1) (by simp) fun hw X hX=>?_
 repeat' first|refine gC (fun hc=>?_) (fun hc=>?_)<;>try contradiction|refine za (pure70 _) ?_|refine gG ?_|show AK _;intro K H|refine H _ _ ?_;clear H K|refine gJ ?_;try exact trivial|omega
 ·rw [zaH,if_pos hc];exact .refl _
 ·rw [zaH,if_neg (by rw [hc];simp)];exact .refl _
theorem pure1131 (l:Lea):Pure Tryz.prog 108 [l.pv] (.i .i64 (chkLea l)):=by
 refine zf (cF Tryz.func108 Tryz.f108.eq_1) (by simp) fun hw X hX=>?_
 have hsp:chkLea l=zg ([zaH l.carrier,rng l.fro 0 99999,rng l.to 0 99999]++[if l.to < l.fro then 11 else 0]):=rfl
 rw [fE_app,fE_one] at hsp
 have qe:=@qR;repeat' first|refine gC (fun hc=>?_) (fun hc=>?_)<;>try contradiction|refine za (pure1133 _) ?_|refine za (pure127 _) ?_|refine za (pure1024 [_,_,_]) ?_|refine gG ?_|show AK _;intro K H|refine H _ _ ?_;clear H K|refine gJ ?_;try exact trivial|omega
 ·rw [hsp,if_pos hc.1,if_pos hc.2];exact .refl _
 ·by_cases h:zg [zaH l.carrier,rng l.fro 0 99999,rng l.to 0 99999]=0
  ·have:=hc h
   rw [hsp,if_pos h,if_neg (by omega),h];exact .refl _
  ·rw [hsp,if_neg h];exact .refl _
theorem pure1132 (s:Slt) (l:Lea):Pure Tryz.prog 109 [s.pv,l.pv] (.i .i64 (leaOf s.raw l)):=by
 refine zf (cF Tryz.func109 Tryz.f109.eq_1) (by simp) fun hw X hX=>?_
 have qe:=@qR;repeat' first|refine gC (fun hc=>?_) (fun hc=>?_)<;>try contradiction|refine gG ?_|show AK _;intro K H|refine H _ _ ?_;clear H K|refine gJ ?_;try exact trivial|omega
 ·rw [leaOf,za2 (by rw [if_pos hc];omega),if_pos hc];exact .refl _
 ·rw [leaOf,za3 (if_neg (by simp only;omega)),fE_one,if_pos hc];exact .refl _
 ·rw [leaOf,za3 (if_neg (by simp only;omega)),fE_one,if_neg hc];exact .refl _
theorem pure1195 (s:ByteArray):Pure Tryz.prog 206 [.s s] (.b (decide (s=s0) || isName s)):=by
 refine zf (cF Tryz.func206 Tryz.f206.eq_1) (by simp) fun hw X hX=>?_
 repeat' first|refine gC (fun hc=>?_) (fun hc=>?_)<;>try contradiction|refine zN (fun _=>pure70 _) ?_|refine gG ?_|show AK _;intro K H|refine H _ _ ?_;clear H K|refine gJ ?_;try exact trivial|omega
 exact .refl _
theorem five_8 {a b c t l:ByteArray} (h:(((isName a=false∨isName b=false)∨isName c=false)∨¬t=s0∧isName t=false)∨¬l=s0∧isName l=false):zg [zaH a,zaH b,zaH c,optE t,optE l]=8:=by
 simp only [zg,zaH,optE]
 (repeat' split)<;>simp_all
theorem five_0 {a b c t l:ByteArray} (h:(((¬isName a=false∧isName b=true)∧isName c=true)∧(t=s0∨isName t=true))∧(l=s0∨isName l=true)):zg [zaH a,zaH b,zaH c,optE t,optE l]=0:=by
 simp only [zg,zaH,optE]
 (repeat' split)<;>simp_all
theorem pure1109 (r:Req):Pure Tryz.prog 126 [r.pv] (.i .i64 (chkRq r)):=by
 refine zf (cF Tryz.func126 Tryz.f126.eq_1) (by simp) fun hw X hX=>?_
 have hsp:chkRq r=zg ([zaH r.name,zaH r.carrier,zaH r.partner,optE r.term,optE r.link]++[flightE r.kind,if r.link=r.name then 32 else 0,zau r.per,rng r.minute 0 1439,rng r.seats 0 999,rng r.size 1 9,rng r.noise 0 99]):=rfl
 rw [fE_app] at hsp
 have qe:=@qR;repeat' first|refine gC (fun hc=>?_) (fun hc=>?_)<;>try contradiction|refine zN (fun _=>pure70 _) ?_|refine za (pure70 _) ?_|refine zN (fun _=>pure1195 _) ?_|refine za (pure82 r.per) ?_|refine za (pure128 _ _ _) ?_|refine za (pure1024 [_,_,_,_]) ?_|refine gG ?_|show AK _;intro K H|refine H _ _ ?_;clear H K|refine gJ ?_;try exact trivial|omega
 ·rw [hsp,if_neg (by rw [five_8 hc];omega),five_8 hc];exact .refl _
 all_goals rw [if_pos (five_0 (by assumption))] at hsp
 ·rw [hsp,za2 (by rw [flightE,if_pos hc];omega),flightE,if_pos hc];exact .refl _
 all_goals rw [za3 (show flightE r.kind=0 by rw [flightE,if_neg (fun e=>e.2 ((by assumption:¬r.kind=bs [65]→r.kind=bs [68]) e.1))])] at hsp
 ·rw [hsp,za2 (by rw [if_pos hc];omega),if_pos hc];exact .refl _
 all_goals rw [za3 (if_neg (by assumption))] at hsp
 ·rw [hsp,za2 hc];exact .refl _
 ·rw [hsp,za3 hc];exact .refl _
theorem per_of_rq {r:Req} (h:chkRq r=0):zau r.per=0:=fE0 (show zg [zaH r.name,zaH r.carrier,zaH r.partner,optE r.term,optE r.link,flightE r.kind,if r.link=r.name then 32 else 0,zau r.per,rng r.minute 0 1439,rng r.seats 0 999,rng r.size 1 9,rng r.noise 0 99]=0 from h) _ (by simp)
theorem pure1044 (r:Req):Pure Tryz.prog 53 [r.pv] (.i .i64 (chkQ r)):=by
 refine zf (cF Tryz.func53 Tryz.f53.eq_1) (by simp) fun hw X hX=>?_
 have qe:=aI qR (@List.length_map.{0,0});repeat' first|refine gC (fun hc=>?_) (fun hc=>?_)<;>try contradiction|refine za (pure1109 r) ?_|(show zj _ _ _ _ (⟨_,.call 47,_,_,_⟩::_) _ _;refine zbj (hf:=fun hc=>(by first|exact pure67 r.per (per_of_rq (by simpa using hc))|(simp only [qH,rng_0] at hc;exact pure67 r.per (per_of_rq (by simpa using hc))))) (hn:=?_))|refine gG ?_|show AK _;intro K H|refine H _ _ ?_;clear H K|refine gJ ?_;try exact trivial|omega
 ·have h2:zY r.per=[]:=by simpa using hc.2
  rw [chkQ,hc.1,za3 rfl,fE_one,if_pos h2];exact .refl _
 ·by_cases h:chkRq r=0
  ·have h2:¬zY r.per=[]:=by simpa using hc h
   rw [show chkQ r=0 by rw [chkQ,za3 h,fE_one,if_neg h2],h];exact .refl _
  ·rw [chkQ,za2 h];exact .refl _
theorem pure1045 (w:Wsh):Pure Tryz.prog 54 [w.pv] (.i .i64 (chkWsh w)):=by
 refine zf (cF Tryz.func54 Tryz.f54.eq_1) (by simp) fun hw X hX=>?_
 have qe:=@qR;repeat' first|refine gC (fun hc=>?_) (fun hc=>?_)<;>try contradiction|refine za (pure1044 w.req) ?_|refine za (pure128 _ _ _) ?_|refine za (pure1024 [_,_]) ?_|refine gG ?_|show AK _;intro K H|refine H _ _ ?_;clear H K|refine gJ ?_;try exact trivial|omega
 exact .refl _
set_option maxRecDepth 100000
set_option linter.unusedVariables false
set_option linter.unusedSimpArgs false
set_option maxHeartbeats 4000000
def fndI (L:List Slt) (n:ByteArray):Int:=if atL n (L.map (·.req.name)) < 0 then 0 else atL n (L.map (·.req.name))
theorem pure1137 (b:Bk) (n:ByteArray):Pure Tryz.prog 98 [b.pv,.s n] (.tup [.i .i64 (fndI b.slots n),.i .i64 (fndE b.slots n)]):=by
 refine zf (cF Tryz.func98 Tryz.f98.eq_1) (by simp) fun hw X hX=>?_
 repeat' first|refine gC (fun hc=>?_) (fun hc=>?_)<;>try contradiction|refine za (pure1071 b.slots n) ?_|refine gG ?_|show AK _;intro K H|refine H _ _ ?_;clear H K|refine gJ ?_;try exact trivial|omega
 ·rw [fndI,fndE,if_pos hc,if_pos hc];exact .refl _
 ·rw [fndI,fndE,if_neg (by omega),if_neg (by omega)];exact .refl _
def aheadB (a b:Wsh):Bool:=decide (a.rank < b.rank) || (decide (a.rank=b.rank) && Op.bytesLess a.req.name.toList b.req.name.toList)
theorem pure1093 (a b:Wsh):Pure Tryz.prog 95 [a.pv,b.pv] (.b (aheadB a b)):=by
 refine zf (cF Tryz.func95 Tryz.f95.eq_1) (by simp) fun hw X hX=>?_
 rw [aheadB]
 rcases Int.lt_trichotomy a.rank b.rank with h|h|h
 ·have h1:(a.rank < b.rank)=True:=eq_true h
  have h2:(a.rank=b.rank)=False:=eq_false (by omega)
  have qe:=aI @h1 (aI @h2 (aI @decide_true @decide_false));repeat' first|refine gC (fun hc=>?_) (fun hc=>?_)<;>try contradiction|refine gG ?_|show AK _;intro K H|refine H _ _ ?_;clear H K|refine gJ ?_;try exact trivial|omega
  all_goals simp only [h1,h2,decide_true,decide_false,Bool.true_or]
  all_goals exact .refl _
 ·have h1:(a.rank < b.rank)=False:=eq_false (by omega)
  have h2:(a.rank=b.rank)=True:=eq_true h
  have qe:=aI @h1 (aI @h2 (aI @decide_true @decide_false));repeat' first|refine gC (fun hc=>?_) (fun hc=>?_)<;>try contradiction|refine gG ?_|show AK _;intro K H|refine H _ _ ?_;clear H K|refine gJ ?_;try exact trivial|omega
  all_goals simp only [h1,h2,decide_true,decide_false,Bool.false_or,Bool.true_and]
  all_goals exact .refl _
 ·have h1:(a.rank < b.rank)=False:=eq_false (by omega)
  have h2:(a.rank=b.rank)=False:=eq_false (by omega)
  have qe:=aI @h1 (aI @h2 (aI @decide_true @decide_false));repeat' first|refine gC (fun hc=>?_) (fun hc=>?_)<;>try contradiction|refine gG ?_|show AK _;intro K H|refine H _ _ ?_;clear H K|refine gJ ?_;try exact trivial|omega
  all_goals simp only [h1,h2,decide_true,decide_false,Bool.false_or,Bool.false_and]
  all_goals exact .refl _
set_option maxRecDepth 100000
set_option linter.unusedVariables false
set_option linter.unusedSimpArgs false
set_option maxHeartbeats 4000000
def mvS (l:List Slt):List Mov:=l.foldl (fun out s=>mergeM befM out (movsL s.req)) []
theorem mvS_next {l:List Slt} {k:Nat} {s:Slt} (h:l[k]?=some s):mvS (l.take (k+1))=mergeM befM (mvS (l.take k)) (movsL s.req):=by
 rw [zan h,mvS,List.foldl_append];rfl
theorem pure1068 (L:List Slt) (h:∀ s ∈ L,chkReq s.req=0) (hb:∀ s ∈ L,(movsL s.req).length≤1000) (hn:L.length≤900):Pure Tryz.prog 23 [.sl 16 (L.map Slt.pv)] (.sl 7 ((mvS L).map Mov.pv)):=by
 refine zf (cF Tryz.func23 Tryz.f23.eq_1) (by simp) fun hw X hX=>?_
 repeat' first|refine gC (fun hc=>?_) (fun hc=>?_)<;>try contradiction|refine gG ?_|show AK _;intro K H|refine H _ _ ?_;clear H K|refine gJ ?_;try exact trivial|omega
 refine run_pubX 3 (.sl 7 ([]:List PV)) ?_
 refine zk (κ:=Nat) (fun k=>⟨[(0,.p (.sl 16 (L.map Slt.pv))),(3,.p (.sl 7 ((mvS (L.take k)).map Mov.pv))),(4,.p (.i .i64 k))],[],[],false⟩) (fun k=>k≤L.length∧(mvS (L.take k)).length≤1000*k) (fun k=>L.length - k) 0 ?_ ?_ ?_
 ·simp only [frzs,St.wrs,qS,Nat.reduceAdd,Nat.reduceMul,Nat.reduceEqDiff,Nat.reduceLeDiff,reduceIte,reduceCtorEq,Nat.reduceBEq,Nat.reduceLT]<;>simp [mvS]
 ·simp [mvS]
 ·intro k hk
  repeat first|refine gG ?_|show AK _;intro K H|refine H _ _ ?_;clear H K|refine gJ ?_;try exact trivial|omega
  (refine gC (fun hc=>?_) (fun hc=>?_)<;>try contradiction)
  ·obtain ⟨s,hx⟩:=zn (i:=k) (l:=L) (by omega)
   have hm:=List.mem_of_getElem? hx
   have hl:=hb s hm
   have hnx:=mvS_next hx
   have qe:=aI qR @hx;repeat' first|refine gC (fun hc=>?_) (fun hc=>?_)<;>try contradiction|refine za (pure21 s.req (h s hm)) ?_|refine za (pure69 (mvS (L.take k)) (movsL s.req) (by omega)) ?_|refine gG ?_|show AK _;intro K H|refine H _ _ ?_;clear H K|refine gJ ?_;try exact trivial|omega
   refine ⟨k+1,⟨by omega,?_⟩,by omega,⟨by rw [hnx],by simp⟩⟩
   rw [hnx,(merge_perm befM _ _).length_eq,List.length_append];omega
  ·repeat' first|refine gC (fun hc=>?_) (fun hc=>?_)<;>try contradiction|refine gG ?_|show AK _;intro K H|refine H _ _ ?_;clear H K|refine gJ ?_;try exact trivial|omega
   have e:k=L.length:=by omega
   subst e;rw [List.take_length];exact .refl _
set_option maxRecDepth 100000
set_option linter.unusedVariables false
set_option linter.unusedSimpArgs false
set_option maxHeartbeats 4000000
def ownI (b:Bk) (c n:ByteArray):Int:=if zaH c=0 then fndI b.slots n else 0
theorem bin_any_s (d:Nat) (look:Nat→Option LObj) (o:BinOp) (c:ByteArray):zb d look (.bin o) [.p .any,.p (.s c)]=none:=rfl
theorem ifF (a b:PV):(if False then a else b)=b:=if_neg (fun h=>h)
theorem any_13:(PV.any.cells[13]?).getD .any=.any:=rfl
theorem pure1127 (b:Bk) (c n:ByteArray) (a:Int):Pure Tryz.prog 144 [b.pv,.s c,.s n,.i .i64 a] (.tup [.i .i64 (ownI b c n),.i .i64 (ownE b c n a)]):=by
 refine zf (cF Tryz.func144 Tryz.f144.eq_1) (by simp) fun hw X hX=>?_
 by_cases h1:zaH c=0
 ·by_cases h2:atL n (b.slots.map (·.req.name)) < 0
  ·have f1:fndE b.slots n=10:=by rw [fndE,if_pos h2]
   have f2:fndI b.slots n=0:=by rw [fndI,if_pos h2]
   have e1:(zaH c=0)=True:=eq_true h1
   have e2:((10:Int)=0)=False:=eq_false (by omega)
   rcases hsl:b.slots[0]? with _|s
   ·have qe:=aI qR (aI @e1 (aI @f1 (aI @f2 (aI @e2 (aI @hsl (aI @bin_any_s (aI @any_13 (aI @false_and (aI @ifF (aI @decide_true @decide_false))))))))));repeat' first|refine gC (fun hc=>?_) (fun hc=>?_)<;>try contradiction|refine za (pure1133 c) ?_|refine za (pure1137 b n) ?_|refine gG ?_|show AK _;intro K H|refine H _ _ ?_;clear H K|refine gJ ?_;try exact trivial|omega
    all_goals (rw [show ownI b c n=0 by rw [ownI,if_pos h1,f2],show ownE b c n a=10 by rw [ownE,za3 h1,za2 (by rw [f1];omega),f1]];exact .refl _)
   ·have hl0:0 < b.slots.length:=(List.getElem?_eq_some_iff.1 hsl).1
    have qe:=aI qR (aI @e1 (aI @f1 (aI @f2 (aI @e2 (aI @hsl (aI @decide_true @decide_false))))));repeat' first|refine gC (fun hc=>?_) (fun hc=>?_)<;>try contradiction|refine za (pure1133 c) ?_|refine za (pure1137 b n) ?_|refine gG ?_|show AK _;intro K H|refine H _ _ ?_;clear H K|refine gJ ?_;try exact trivial|omega
    all_goals (rw [show ownI b c n=0 by rw [ownI,if_pos h1,f2],show ownE b c n a=10 by rw [ownE,za3 h1,za2 (by rw [f1];omega),f1]];exact .refl _)
  ·obtain ⟨s,hs⟩:=slot_at h2
   have hlt:=atL_lt n (b.slots.map (·.req.name))
   rw [List.length_map] at hlt
   have f1:fndE b.slots n=0:=by rw [fndE,if_neg h2]
   have f2:fndI b.slots n=atL n (b.slots.map (·.req.name)):=by rw [fndI,if_neg h2]
   have hso:zo b n=s:=by rw [zo,hs];rfl
   have e1:(zaH c=0)=True:=eq_true h1
   have qe:=aI qR (aI @e1 (aI @f1 (aI @f2 (aI @hs (aI @decide_true @decide_false)))));repeat' first|refine gC (fun hc=>?_) (fun hc=>?_)<;>try contradiction|refine za (pure1133 c) ?_|refine za (pure1137 b n) ?_|refine gG ?_|show AK _;intro K H|refine H _ _ ?_;clear H K|refine gJ ?_;try exact trivial|omega
   ·rw [show ownI b c n=atL n (b.slots.map (·.req.name)) by rw [ownI,if_pos h1,f2],show ownE b c n a=31 by rw [ownE,za3 h1,za3 f1,za3 hc.1,fE_one,hso,if_neg hc.2]];exact .refl _
   ·have ha:ownE b c n a=a:=by
     rw [ownE,za3 h1,za3 f1]
     by_cases h0:a=0
     ·rw [za3 h0,fE_one,hso,if_pos (hc h0),h0]
     ·rw [za2 h0]
    rw [show ownI b c n=atL n (b.slots.map (·.req.name)) by rw [ownI,if_pos h1,f2],ha];exact .refl _
 ·have e1:(zaH c=0)=False:=eq_false h1
  rcases hsl:b.slots[0]? with _|s
  ·have qe:=aI qR (aI @e1 (aI @hsl (aI @bin_any_s (aI @any_13 (aI @false_and (aI @ifF (aI @decide_true @decide_false)))))));repeat' first|refine gC (fun hc=>?_) (fun hc=>?_)<;>try contradiction|refine za (pure1133 c) ?_|refine gG ?_|show AK _;intro K H|refine H _ _ ?_;clear H K|refine gJ ?_;try exact trivial|omega
   all_goals (rw [show ownI b c n=0 by rw [ownI,if_neg h1],show ownE b c n a=zaH c by rw [ownE,za2 h1]];exact .refl _)
  ·have hl0:0 < b.slots.length:=(List.getElem?_eq_some_iff.1 hsl).1
   have qe:=aI qR (aI @e1 (aI @hsl (aI @decide_true @decide_false)));repeat' first|refine gC (fun hc=>?_) (fun hc=>?_)<;>try contradiction|refine za (pure1133 c) ?_|refine gG ?_|show AK _;intro K H|refine H _ _ ?_;clear H K|refine gJ ?_;try exact trivial|omega
   all_goals (rw [show ownI b c n=0 by rw [ownI,if_neg h1],show ownE b c n a=zaH c by rw [ownE,za2 h1]];exact .refl _)
set_option maxRecDepth 100000
set_option linter.unusedVariables false
set_option linter.unusedSimpArgs false
set_option maxHeartbeats 8000000
def rtQ (q:Req) (m:Int):Req:={ q with minute:=m }
def rtS (s:Slt) (m:Int):Slt:=⟨rtQ s.req m,s.holder,s.ls,s.sh⟩
def rtE (l:List Lim) (b:Bk) (n:ByteArray) (s:Slt) (m:Int):Int:=if fitR l (movF b (atL n (b.slots.map (·.req.name)))) (rtQ s.req m)=true then 0 else 14
theorem acts1209 (l:List Lim) (b:Bk) (n:ByteArray) (i:Nat) (s:Slt) (m:Int) (hb:BkOk b) (hs:b.slots[i]?=some s):Acts Tryz.prog 218 [.ep 900 b.slots.length i 0,.p (.ip (.i .i64 m) 0),.p (.ip (.sl 11 (l.map Lim.pv)) 0),.p (.ip (.agg [.sl 16 (b.slots.map Slt.pv),.sl 14 (b.wait.map Wsh.pv)]) 0),.p (.ip (.s n) 0)] [(900,.row 59 16 (b.slots.map Slt.pv) false)] (.p (.i .i64 (rtE l b n s m)))
  [(900,.row 59 16 ((b.slots.map Slt.pv).set i (rtS s m).pv) false)]:=by
 obtain ⟨hs1,hn,hwl⟩:=hb
 have hi:i < b.slots.length:=(List.getElem?_eq_some_iff.1 hs).1
 have hi':i < (b.slots.map Slt.pv).length:=by simpa using hi
 have hg:=fun a=>set_get (b.slots.map Slt.pv) i a hi'
 have hE:(if fitR l (mvF (rqW (b.slots.map (·.req)) (atL n (b.slots.map (·.req.name))))) (rtQ s.req m)=false then (14:Int) else 0)=rtE l b n s m:=by
  rw [rtE,movF];cases fitR l (mvF (rqW (b.slots.map (·.req)) (atL n (b.slots.map (·.req.name))))) (rtQ s.req m)<;>rfl
 refine zS (cF Tryz.func218 Tryz.f218.eq_1) (by simp) (by simp [scPs,scP,zl]) (by simp [scObj]) ⟨rfl,trivial⟩ (by simp [scObj]) (by simp [FolL,zl]) fun X hX=>?_
 unfold zD ghO
 have qe:=aI qR (aI @qN (aI @gLV.eq_2 (aI @hs (aI @hg (aI @hE (aI @List.set_set.{0} (aI @List.length_set.{0} (aI @rtN @rtR))))))));repeat' first|refine gC (fun hc=>?_) (fun hc=>?_)<;>try contradiction|refine za (za9 b n) ?_|refine zbP (hf:=pure1089 b.slots b.wait _ (by omega)) (hn:=?_)|refine za (pure1159 l _ (rtQ s.req m)) ?_|refine za (zW _ _) ?_|refine gG ?_|show AK _;intro K H|refine H _ _ ?_;clear H K|refine gJ ?_;try exact trivial|omega
 exact .inl (.mk1 (h2:=by simp only [qS,Nat.reduceAdd,Nat.reduceMul,Nat.reduceEqDiff,Nat.reduceLeDiff,reduceIte,reduceCtorEq,Nat.reduceBEq,Nat.reduceLT,keepG.eq_1,keepG.eq_2,gLV.eq_2]<;>simp))
def rtC (l:List Lim) (b:Bk) (c n:ByteArray) (m:Int):Int:=chgC b c n (rng m 0 1439) (rtE l b n (zo b n) m)
def rtB (l:List Lim) (b:Bk) (c n:ByteArray) (m:Int):Bk:=if rtC l b c n m=0 then chgB b n (rtS (zo b n) m) else bk0
theorem pure1125 (l:List Lim) (b:Bk) (c n:ByteArray) (m:Int) (hb:BkOk b):Pure Tryz.prog 142 [b.pv,.sl 11 (l.map Lim.pv),.s c,.s n,.i .i64 m] (.tup [(rtB l b c n m).pv,.i .i64 (rtC l b c n m)]):=by
 have hch:=changedP (caps:=[.ip (.i .i64 m) 0,.ip (.sl 11 (l.map Lim.pv)) 0,.ip (.agg [.sl 16 (b.slots.map Slt.pv),.sl 14 (b.wait.map Wsh.pv)]) 0,.ip (.s n) 0]) b c n (rng m 0 1439) (rtE l b n (zo b n) m) (rtS (zo b n) m) (rtS (zo b n) m).pv ((b.slots.map Slt.pv).set (zA b n) (rtS (zo b n) m).pv) hb (.refl _) (by simp) fun h=>by
  rw [ite_self];exact acts1209 l b n (zA b n) (zo b n) m hb (za8 h).2.1
 refine zf (cF Tryz.func142 Tryz.f142.eq_1) (by simp) fun hw X hX=>?_
 have qe:=aI qR @qN;repeat' first|refine gC (fun hc=>?_) (fun hc=>?_)<;>try contradiction|refine za (pure1183 m 0 1439) ?_|refine zam (hch) ?_|refine gG ?_|show AK _;intro K H|refine H _ _ ?_;clear H K|refine gJ ?_;try exact trivial|omega
 exact .refl _
def BkTo2 (e0:Int) (y:Bk) (e:Int):Bk × Int:=if e0=0 then (if e=0 then y else bk0,e) else (bk0,e0)
theorem bkTo2_ok {e0:Int} {y:Bk} {e:Int} (h:e0=0) (hy:e≠0→y=bk0):BkTo2 e0 y e=(y,e):=by
 rw [BkTo2,if_pos h]
 by_cases k:e=0
 ·rw [if_pos k]
 ·rw [if_neg k,hy k]
theorem bkTo2_bad {e0:Int} {y:Bk} {e:Int} (h:¬e0=0):BkTo2 e0 y e=(bk0,e0):=by rw [BkTo2,if_neg h]
theorem rtB_0 {l:List Lim} {b:Bk} {c n:ByteArray} {m:Int} (h:rtC l b c n m≠0):rtB l b c n m=bk0:=if_neg h
theorem pure1051 (l:List Lim) (b:Bk) (c n:ByteArray) (m:Int) (hb:zG b=0→BkOk b):Pure Tryz.prog 60 [.sl 11 (l.map Lim.pv),b.pv,.s c,.s n,.i .i64 m] (.tup [(BkTo2 (zg [z3 l,zG b]) (rtB l b c n m) (rtC l b c n m)).1.pv,.i .i64 (BkTo2 (zg [z3 l,zG b]) (rtB l b c n m) (rtC l b c n m)).2]):=by
 by_cases h:zg [z3 l,zG b]=0
 ·have e1:(zg [z3 l,zG b]=0)=True:=eq_true h
  rw [bkTo2_ok h rtB_0]
  refine zf (cF Tryz.func60 Tryz.f60.eq_1) (by simp) fun hw X hX=>?_
  have qe:=aI qR (aI @qN @e1);repeat' first|refine gC (fun hc=>?_) (fun hc=>?_)<;>try contradiction|refine za (pure22 l) ?_|refine za (zX b) ?_|refine za (zz [_,_]) ?_|refine zbP (hf:=pure1125 l b c n m (hb (fE0 h _ (by simp)))) (hn:=?_)|refine gG ?_|show AK _;intro K H|refine H _ _ ?_;clear H K|refine gJ ?_;try exact trivial|omega
  exact .refl _
 ·have e1:(zg [z3 l,zG b]=0)=False:=eq_false h
  rw [bkTo2_bad h]
  refine zat (r:=.tup [.agg [.nilsl,.nilsl],.i .i64 (zg [z3 l,zG b])]) ?_ (zbw _)
  refine zf (cF Tryz.func60 Tryz.f60.eq_1) (by simp) fun hw X hX=>?_
  have qe:=aI qR (aI @qN @e1);repeat' first|refine gC (fun hc=>?_) (fun hc=>?_)<;>try contradiction|refine za (pure22 l) ?_|refine za (zX b) ?_|refine za (zz [_,_]) ?_|refine gG ?_|show AK _;intro K H|refine H _ _ ?_;clear H K|refine gJ ?_;try exact trivial|omega
  exact .refl _
set_option maxRecDepth 100000
set_option linter.unusedVariables false
set_option linter.unusedSimpArgs false
set_option maxHeartbeats 8000000
def briefB (q:Req):Bool:=decide ((q.name.size:Int)≤40) && decide ((q.carrier.size:Int)≤40) && decide ((q.kind.size:Int)≤40) && decide ((q.term.size:Int)≤40) && decide ((q.partner.size:Int)≤40) && decide ((q.link.size:Int)≤40)
theorem pure1041 (q:Req):Pure Tryz.prog 51 [q.pv] (.b (briefB q)):=by
 refine zf (cF Tryz.func51 Tryz.f51.eq_1) (by simp) fun hw X hX=>?_
 have qe:=@qR;repeat' first|refine gC (fun hc=>?_) (fun hc=>?_)<;>try contradiction|refine gG ?_|show AK _;intro K H|refine H _ _ ?_;clear H K|refine gJ ?_;try exact trivial|omega
 exact .refl _
def shortB (q:Req):Bool:=briefB q && (!decide (zau q.per=0) || decide (q.per.to - q.per.fro < 14))
theorem pure1080 (q:Req):Pure Tryz.prog 85 [q.pv] (.b (shortB q)):=by
 refine zf (cF Tryz.func85 Tryz.f85.eq_1) (by simp) fun hw X hX=>?_
 by_cases hb:briefB q=true
 ·by_cases hp:zau q.per=0
  ·have h1:=zaX hp
   have e:shortB q=decide (q.per.to - q.per.fro < 14):=by simp [shortB,hb,hp]
   rw [e]
   have qe:=aI qR (aI @hb (aI @hp (aI @decide_true @Bool.not_true)));repeat' first|refine gC (fun hc=>?_) (fun hc=>?_)<;>try contradiction|refine za (pure1041 q) ?_|refine zN (fun _=>pure82 q.per) ?_|refine gG ?_|show AK _;intro K H|refine H _ _ ?_;clear H K|refine gJ ?_;try exact trivial|omega
   exact .refl _
  ·have hpf:=eq_false hp
   have e:shortB q=true:=by simp [shortB,hb,hp]
   rw [e]
   have qe:=aI qR (aI @hb (aI @hpf (aI @decide_false @Bool.not_false)));repeat' first|refine gC (fun hc=>?_) (fun hc=>?_)<;>try contradiction|refine za (pure1041 q) ?_|refine zN (fun _=>pure82 q.per) ?_|refine gG ?_|show AK _;intro K H|refine H _ _ ?_;clear H K|refine gJ ?_;try exact trivial|omega
   exact .refl _
 ·have hbf:briefB q=false:=by simpa using hb
  have e:shortB q=false:=by simp [shortB,hbf]
  rw [e]
  have qe:=aI qR @hbf;repeat' first|refine gC (fun hc=>?_) (fun hc=>?_)<;>try contradiction|refine za (pure1041 q) ?_|refine zN (fun _=>pure82 q.per) ?_|refine gG ?_|show AK _;intro K H|refine H _ _ ?_;clear H K|refine gJ ?_;try exact trivial|omega
  exact .refl _
theorem pure1016 (q:Req):Pure Tryz.prog 31 [q.pv] (.b (shortB q)):=by
 refine zf (cF Tryz.func31 Tryz.f31.eq_1) (by simp) fun hw X hX=>?_
 have qe:=@qR;repeat' first|refine gC (fun hc=>?_) (fun hc=>?_)<;>try contradiction|refine za (pure1080 q) ?_|refine gG ?_|show AK _;intro K H|refine H _ _ ?_;clear H K|refine gJ ?_;try exact trivial|omega
 exact .refl _
set_option maxRecDepth 100000
set_option linter.unusedVariables false
set_option linter.unusedSimpArgs false
set_option maxHeartbeats 8000000
theorem pure1107 (s:Slt):Pure Tryz.prog 124 [s.pv,s.pv] (.b true):=by
 refine zf (cF Tryz.func124 Tryz.f124.eq_1) (by simp) fun hw X hX=>?_
 have hwl:s.ls.length≤maxLen:=by
  simp only [wfs,PV.wf,List.length_map] at hw
  omega
 simp only [maxLen] at hwl
 have qe:=aI qR (aI @zbb (aI @decide_true @Bool.not_true));repeat' first|refine gC (fun hc=>?_) (fun hc=>?_)<;>try contradiction|refine zN (fun _=>pure1031 s.sh s.sh) ?_|refine gG ?_|show AK _;intro K H|refine H _ _ ?_;clear H K|refine gJ ?_;try exact trivial|omega
 refine zk (κ:=Nat) (fun k=>⟨[(2,.lp 2 0),(3,.lp 3 0),(5,.p (.i .i64 k))],[(2,.box (s.cells.map .p) false),(3,.box (s.cells.map .p) false)],[],false⟩) (fun k=>k≤s.ls.length) (fun k=>s.ls.length - k) 0 ?_ ?_ ?_
 ·exact sS
 ·simp
 ·intro k hk
  repeat first|refine gG ?_|show AK _;intro K H|refine H _ _ ?_;clear H K|refine gJ ?_;try exact trivial|omega
  (refine gC (fun hc=>?_) (fun hc=>?_)<;>try contradiction)
  ·obtain ⟨x,hx⟩:=zn (i:=k) (l:=s.ls) (by omega)
   have qe:=aI qR (aI @hx (aI @zbb (aI @decide_true (aI @Bool.not_true @Bool.and_self))));repeat' first|refine gC (fun hc=>?_) (fun hc=>?_)<;>try contradiction|refine gG ?_|show AK _;intro K H|refine H _ _ ?_;clear H K|refine gJ ?_;try exact trivial|omega
   exact ⟨k+1,by omega,by omega,by simp⟩
  ·have qe:=@qR;repeat' first|refine gC (fun hc=>?_) (fun hc=>?_)<;>try contradiction|refine gG ?_|show AK _;intro K H|refine H _ _ ?_;clear H K|refine gJ ?_;try exact trivial|omega
   exact .refl _
theorem pure1039 (b:Bk):Pure Tryz.prog 49 [b.pv,b.pv] (.b true):=by
 refine zf (cF Tryz.func49 Tryz.f49.eq_1) (by simp) fun hw X hX=>?_
 have hwl:b.slots.length≤maxLen∧b.wait.length≤maxLen:=by
  simp only [wfs,PV.wf,List.length_map] at hw
  omega
 simp only [maxLen] at hwl
 have qe:=aI qR (aI @zbb (aI @decide_true @Bool.not_true));repeat' first|refine gC (fun hc=>?_) (fun hc=>?_)<;>try contradiction|refine gG ?_|show AK _;intro K H|refine H _ _ ?_;clear H K|refine gJ ?_;try exact trivial|omega
 refine zk (κ:=Nat) (fun k=>⟨[(2,.lp 2 0),(3,.lp 3 0),(5,.p (.i .i64 k))],[(2,.box [.p (.sl 16 (b.slots.map Slt.pv)),.p (.sl 14 (b.wait.map Wsh.pv))] false),(3,.box [.p (.sl 16 (b.slots.map Slt.pv)),.p (.sl 14 (b.wait.map Wsh.pv))] false)],[],false⟩) (fun k=>k≤b.slots.length) (fun k=>b.slots.length - k) 0 ?_ ?_ ?_
 ·exact sS
 ·simp
 ·intro k hk
  repeat first|refine gG ?_|show AK _;intro K H|refine H _ _ ?_;clear H K|refine gJ ?_;try exact trivial|omega
  (refine gC (fun hc=>?_) (fun hc=>?_)<;>try contradiction)
  ·obtain ⟨x,hx⟩:=zn (i:=k) (l:=b.slots) (by omega)
   have qe:=aI qR (aI @hx (aI @zbb (aI @decide_true @Bool.not_true)));repeat' first|refine gC (fun hc=>?_) (fun hc=>?_)<;>try contradiction|refine za (pure1107 x) ?_|refine gG ?_|show AK _;intro K H|refine H _ _ ?_;clear H K|refine gJ ?_;try exact trivial|omega
   all_goals exact ⟨k+1,by omega,by omega,by simp⟩
  ·have qe:=@qR;repeat' first|refine gC (fun hc=>?_) (fun hc=>?_)<;>try contradiction|refine gG ?_|show AK _;intro K H|refine H _ _ ?_;clear H K|refine gJ ?_;try exact trivial|omega
   refine zk (κ:=Nat) (fun k=>⟨[(2,.lp 2 0),(3,.lp 3 0),(6,.p (.i .i64 k))],[(2,.box [.p (.sl 16 (b.slots.map Slt.pv)),.p (.sl 14 (b.wait.map Wsh.pv))] false),(3,.box [.p (.sl 16 (b.slots.map Slt.pv)),.p (.sl 14 (b.wait.map Wsh.pv))] false)],[],false⟩) (fun k=>k≤b.wait.length) (fun k=>b.wait.length - k) 0 ?_ ?_ ?_
   ·exact sS
   ·simp
   ·intro k hk
    repeat first|refine gG ?_|show AK _;intro K H|refine H _ _ ?_;clear H K|refine gJ ?_;try exact trivial|omega
    (refine gC (fun hc=>?_) (fun hc=>?_)<;>try contradiction)
    ·obtain ⟨x,hx⟩:=zn (i:=k) (l:=b.wait) (by omega)
     have qe:=aI qR (aI @hx (aI @zbb (aI @decide_true (aI @Bool.not_true @Bool.and_self))));repeat' first|refine gC (fun hc=>?_) (fun hc=>?_)<;>try contradiction|refine gG ?_|show AK _;intro K H|refine H _ _ ?_;clear H K|refine gJ ?_;try exact trivial|omega
     all_goals exact ⟨k+1,by omega,by omega,by simp⟩
    ·have qe:=@qR;repeat' first|refine gC (fun hc=>?_) (fun hc=>?_)<;>try contradiction|refine gG ?_|show AK _;intro K H|refine H _ _ ?_;clear H K|refine gJ ?_;try exact trivial|omega
     all_goals exact .refl _
set_option maxRecDepth 100000
set_option linter.unusedVariables false
set_option linter.unusedSimpArgs false
set_option maxHeartbeats 8000000
theorem pure1040 (b:Bk) (hb:BkOk b):Pure Tryz.prog 50 [b.pv] b.pv:=by
 obtain ⟨hs,hn,hw1⟩:=hb
 refine zf (cF Tryz.func50 Tryz.f50.eq_1) (by simp) fun hw X hX=>?_
 have qe:=@qR;repeat' first|refine gC (fun hc=>?_) (fun hc=>?_)<;>try contradiction|refine gG ?_|show AK _;intro K H|refine H _ _ ?_;clear H K|refine gJ ?_;try exact trivial|omega
 refine zaO 100 33 16 [(1,.lp 1 0),(2,.lp 2 0),(3,.lp 3 0),(12,.p (.sl 16 (b.slots.map Slt.pv))),(13,.p (.i .i64 b.slots.length)),(14,.p (.i .i64 0))] [(1,.box [.p (.sl 16 (b.slots.map Slt.pv)),.p (.sl 14 (b.wait.map Wsh.pv))] false),(2,.box [.p .nilsl,.p .nilsl] false),(3,.box [.row 100 0,.p .nilsl] false)] ?_ ?_
 ·simp only [Own,zaL,zaB,zbt,zay,qS,Nat.reduceAdd,Nat.reduceMul,Nat.reduceEqDiff,Nat.reduceLeDiff,reduceIte,reduceCtorEq,Nat.reduceBEq,Nat.reduceLT]<;>simp
 refine zk (κ:=Nat) (fun k=>⟨[(1,.lp 1 0),(2,.lp 2 0),(3,.lp 3 0),(12,.p (.sl 16 (b.slots.map Slt.pv))),(13,.p (.i .i64 b.slots.length)),(14,.p (.i .i64 k))],[(1,.box [.p (.sl 16 (b.slots.map Slt.pv)),.p (.sl 14 (b.wait.map Wsh.pv))] false),(2,.box [.p .nilsl,.p .nilsl] false),(3,.box [.row 100 k,.p .nilsl] false),(100,.row 33 16 ((b.slots.take k).map Slt.pv) false)],[],false⟩) (fun k=>k≤b.slots.length) (fun k=>b.slots.length - k) 0 ?_ ?_ ?_
 ·exact sS
 ·simp
 ·intro k hk
  have hlk:(b.slots.take k).length=k:=by rw [List.length_take];omega
  repeat first|refine gG ?_|show AK _;intro K H|refine H _ _ ?_;clear H K|refine gJ ?_;try exact trivial|omega
  (refine gC (fun hc=>?_) (fun hc=>?_)<;>try contradiction)
  ·obtain ⟨s,hx⟩:=zn (i:=k) (l:=b.slots) (by omega)
   obtain ⟨hl1,hl2⟩:=hs s (List.mem_of_getElem? hx)
   have qe:=aI qR @hx;repeat' first|refine gC (fun hc=>?_) (fun hc=>?_)<;>try contradiction|refine gG ?_|show AK _;intro K H|refine H _ _ ?_;clear H K|refine gJ ?_;try exact trivial|omega
   refine zaO 101 97 3 [(1,.lp 1 0),(2,.lp 2 0),(3,.lp 3 0),(12,.p (.sl 16 (b.slots.map Slt.pv))),(13,.p (.i .i64 b.slots.length)),(14,.p (.i .i64 k)),(5,.lp 5 0),(6,.lp 6 0),(26,.p (.sl 3 (s.ls.map Lea.pv))),(27,.p (.i .i64 s.ls.length)),(28,.p (.i .i64 0))] [(1,.box [.p (.sl 16 (b.slots.map Slt.pv)),.p (.sl 14 (b.wait.map Wsh.pv))] false),(2,.box [.p .nilsl,.p .nilsl] false),(3,.box [.row 100 k,.p .nilsl] false),(100,.row 33 16 ((b.slots.take k).map Slt.pv) false),(5,.box (s.cells.map .p) false),(6,.box [.p (.s s.req.name),.p (.s s.req.carrier),.p (.s s.req.kind),.p (.s s.req.term),.p (.s s.req.partner),.p (.s s.req.link),.p (.i .i64 s.req.per.fro),.p (.i .i64 s.req.per.to),.p (.i .i64 s.req.per.days),.p (.i .i64 s.req.minute),.p (.i .i64 s.req.seats),.p (.i .i64 s.req.size),.p (.i .i64 s.req.noise),.p (.s s.holder),.row 101 0,.p (.sl 1 (s.sh.map .s))] false)] ?_ ?_
   ·simp only [Own,zaL,zaB,zbt,zay,qS,Nat.reduceAdd,Nat.reduceMul,Nat.reduceEqDiff,Nat.reduceLeDiff,reduceIte,reduceCtorEq,Nat.reduceBEq,Nat.reduceLT]<;>simp [hlk]
   refine zk (κ:=Nat) (fun i=>⟨[(1,.lp 1 0),(2,.lp 2 0),(3,.lp 3 0),(12,.p (.sl 16 (b.slots.map Slt.pv))),(13,.p (.i .i64 b.slots.length)),(14,.p (.i .i64 k)),(5,.lp 5 0),(6,.lp 6 0),(26,.p (.sl 3 (s.ls.map Lea.pv))),(27,.p (.i .i64 s.ls.length)),(28,.p (.i .i64 i))],[(1,.box [.p (.sl 16 (b.slots.map Slt.pv)),.p (.sl 14 (b.wait.map Wsh.pv))] false),(2,.box [.p .nilsl,.p .nilsl] false),(3,.box [.row 100 k,.p .nilsl] false),(100,.row 33 16 ((b.slots.take k).map Slt.pv) false),(5,.box (s.cells.map .p) false),(6,.box [.p (.s s.req.name),.p (.s s.req.carrier),.p (.s s.req.kind),.p (.s s.req.term),.p (.s s.req.partner),.p (.s s.req.link),.p (.i .i64 s.req.per.fro),.p (.i .i64 s.req.per.to),.p (.i .i64 s.req.per.days),.p (.i .i64 s.req.minute),.p (.i .i64 s.req.seats),.p (.i .i64 s.req.size),.p (.i .i64 s.req.noise),.p (.s s.holder),.row 101 i,.p (.sl 1 (s.sh.map .s))] false),(101,.row 97 3 ((s.ls.take i).map Lea.pv) false)],[],false⟩) (fun i=>i≤s.ls.length) (fun i=>s.ls.length - i) 0 ?_ ?_ ?_
   ·refine gJ ?_;simp [hlk]
   ·simp
   ·intro i hi
    have hli:(s.ls.take i).length=i:=by rw [List.length_take];omega
    repeat first|refine gG ?_|show AK _;intro K H|refine H _ _ ?_;clear H K|refine gJ ?_;try exact trivial|omega
    (refine gC (fun hc=>?_) (fun hc=>?_)<;>try contradiction)
    ·obtain ⟨x,hx2⟩:=zn (i:=i) (l:=s.ls) (by omega)
     have qe:=aI qR (aI @hx2 (aI @hli @hlk));repeat' first|refine gC (fun hc=>?_) (fun hc=>?_)<;>try contradiction|refine gG ?_|show AK _;intro K H|refine H _ _ ?_;clear H K|refine gJ ?_;try exact trivial|omega
     exact ⟨i+1,by omega,by omega,by simp,⟨rfl,by rw [zan hx2];simp⟩,by simp;omega⟩
    ·have e:i=s.ls.length:=by omega
     subst e
     refine run_exit ?_
     refine (show Run _ (.ops false _) _ _ from run_region (run_partN 3 ?_))
     simp only [List.take_succ_cons,List.take_zero,List.drop_succ_cons,List.drop_zero]
     have qe:=aI qR (aI @zaf (aI @hlk @List.take_length.{0}));repeat' first|refine gC (fun hc=>?_) (fun hc=>?_)<;>try contradiction|refine gG ?_|show AK _;intro K H|refine H _ _ ?_;clear H K|refine gJ ?_;try exact trivial|omega
     refine zbO (ghost_pub 41 s.pv (by simp only [qS,Nat.reduceAdd,Nat.reduceMul,Nat.reduceEqDiff,Nat.reduceLeDiff,reduceIte,reduceCtorEq,Nat.reduceBEq,Nat.reduceLT,zaf]<;>rfl) (by first|trivial|simp) (.refl _)) ?_
     rintro _ rfl
     refine zE ?_
     have qe:=aI qR @hlk;repeat' first|refine gC (fun hc=>?_) (fun hc=>?_)<;>try contradiction|refine gG ?_|show AK _;intro K H|refine H _ _ ?_;clear H K|refine gJ ?_;try exact trivial|omega
     exact ⟨k+1,by omega,by omega,by simp,⟨rfl,by rw [zan hx];simp⟩,by simp;omega⟩
  ·have e:k=b.slots.length:=by omega
   subst e
   have qe:=aI qR @List.take_length.{0};repeat' first|refine gC (fun hc=>?_) (fun hc=>?_)<;>try contradiction|refine gG ?_|show AK _;intro K H|refine H _ _ ?_;clear H K|refine gJ ?_;try exact trivial|omega
   refine zaO 102 66 14 [(2,.lp 2 0),(3,.lp 3 0),(47,.p (.sl 14 (b.wait.map Wsh.pv))),(48,.p (.i .i64 b.wait.length)),(49,.p (.i .i64 0))] [(1,.box [.p (.sl 16 (b.slots.map Slt.pv)),.p (.sl 14 (b.wait.map Wsh.pv))] false),(2,.box [.p .nilsl,.p .nilsl] false),(3,.box [.row 100 b.slots.length,.row 102 0] false),(100,.row 33 16 (b.slots.map Slt.pv) false)] ?_ ?_
   ·simp only [Own,zaL,zaB,zbt,zay,qS,Nat.reduceAdd,Nat.reduceMul,Nat.reduceEqDiff,Nat.reduceLeDiff,reduceIte,reduceCtorEq,Nat.reduceBEq,Nat.reduceLT]<;>simp
   refine zk (κ:=Nat) (fun k=>⟨[(2,.lp 2 0),(3,.lp 3 0),(47,.p (.sl 14 (b.wait.map Wsh.pv))),(48,.p (.i .i64 b.wait.length)),(49,.p (.i .i64 k))],[(1,.box [.p (.sl 16 (b.slots.map Slt.pv)),.p (.sl 14 (b.wait.map Wsh.pv))] false),(2,.box [.p .nilsl,.p .nilsl] false),(3,.box [.row 100 b.slots.length,.row 102 k] false),(100,.row 33 16 (b.slots.map Slt.pv) false),(102,.row 66 14 ((b.wait.take k).map Wsh.pv) false)],[],false⟩) (fun k=>k≤b.wait.length) (fun k=>b.wait.length - k) 0 ?_ ?_ ?_
   ·exact sS
   ·simp
   ·intro k hk2
    have hl2:(b.wait.take k).length=k:=by rw [List.length_take];omega
    repeat first|refine gG ?_|show AK _;intro K H|refine H _ _ ?_;clear H K|refine gJ ?_;try exact trivial|omega
    (refine gC (fun hc=>?_) (fun hc=>?_)<;>try contradiction)
    ·obtain ⟨w,hx2⟩:=zn (i:=k) (l:=b.wait) (by omega)
     have qe:=aI qR (aI @hx2 @hl2);repeat' first|refine gC (fun hc=>?_) (fun hc=>?_)<;>try contradiction|refine gG ?_|show AK _;intro K H|refine H _ _ ?_;clear H K|refine gJ ?_;try exact trivial|omega
     exact ⟨k+1,by omega,by omega,by simp,⟨rfl,by rw [zan hx2];simp⟩,by simp;omega⟩
    ·have e2:k=b.wait.length:=by omega
     subst e2
     have qe:=aI qR (aI @zaf @List.take_length.{0});repeat' first|refine gC (fun hc=>?_) (fun hc=>?_)<;>try contradiction|refine gG ?_|show AK _;intro K H|refine H _ _ ?_;clear H K|refine gJ ?_;try exact trivial|omega
     exact .refl _
set_option maxRecDepth 100000
set_option linter.unusedVariables false
set_option linter.unusedSimpArgs false
set_option maxHeartbeats 8000000
theorem chkRq_req {q:Req} (h:chkRq q=0):chkReq q=0:=by
 have a:=fE0 h
 have h1:zaH q.name=0:=a _ (by simp)
 have h2:optE q.term=0:=a _ (by simp)
 have h3:flightE q.kind=0:=a _ (by simp)
 have h4:zau q.per=0:=a _ (by simp)
 have h5:rng q.minute 0 1439=0:=a _ (by simp)
 have h6:=rng_0.1 (a (rng q.seats 0 999) (by simp))
 have h7:=rng_0.1 (a (rng q.size 1 9) (by simp))
 have h8:=rng_0.1 (a (rng q.noise 0 99) (by simp))
 rw [chkReq,za3 h1,za3 h3,za3 h2,za3 h4,za3 h5,fE_one]
 exact loadE_0 (by omega)
theorem chkQ_req {q:Req} (h:chkQ q=0):chkReq q=0:=chkRq_req (fE0 h _ (by simp))
end Go.Proofs.YtahmdjadnlpjoaaGreat
namespace Go.Proofs.YtahmdjadnlpjoaaGreat
open Go.RowKit Go.ChangeShapes Go.WideShapes Go.ChangeAt
set_option maxRecDepth 100000
set_option linter.unusedVariables false
set_option linter.unusedSimpArgs false
set_option maxHeartbeats 4000000
abbrev jT:CP:=.i .i64
theorem own:ownKnob Tryz.prog.godebug=none:=by kernel_rfl
theorem laid:laidOutB Tryz.prog=true:=by kernel_rfl
theorem und4:Tryz.prog.underlying 4=some .bool:=by kernel_rfl
abbrev zs:Value:=.string ⟨#[]⟩
abbrev zi:Value:=.int .i64 0
theorem joined_of {P:Program} {f:FuncId} {fn:Func} {s:ChangeSpec} {c:OpenClaim} (a1:c.wf (OpenSpec.ofChange s)=true) (a2:laidOutB P=true) (a3:mapsRowed P=true)
  (a4:(fn.params.all (P.readableRec ·) && namedTie P c.named s.vars && (c.stops == []) && (P.stops == []) && (c.knobs == []) && (P.stopKnobs == []))=true)
  (b1:(c.inPlace == P.inPlace f)=true) (b2:(c.unfollowed == P.unfollowed f)=true) (b3:(c.recurses == P.recurses f)=true) (b4:(c.named == P.varsNamed f)=true)
  (d1:((c.maps == (fn.params.toList++s.plain.varTypes P).any (P.mapsRec ·)) && (c.ifaces == (fn.params.toList++s.plain.varTypes P).any (P.ifacesRec ·)) && (c.mapsOut == P.mapsAmong fn.resultTypes.toList) &&
 (c.loops == (fn.params.toList++s.plain.varTypes P).any (P.loopsFrom ·)) && (c.wideKeys == (fn.params.toList++s.plain.varTypes P++fn.resultTypes.toList).any (P.wideKeysFrom ·)))=true)
  (d2:(s.vars.all (P.varReadable ·) && fn.resultTypes.all (fun t=>P.readableRec t && decide (t < P.types.size)) && (c.ifacesOut == fn.resultTypes.toList.any (P.ifacesRec ·)) && (c.loopsOut == fn.resultTypes.toList.any (P.loopsFrom ·)))=true)
  (d3:((c.plainKeys == P.plainKeys) && c.shortTexts.isNone && P.stopsHeard && P.mayEnter && (c.lifted == P.liftsFinal) && (P.make == some c.make))=true)
  (d4:((c.kinds == (if c.domain.isEmpty then [] else fn.params.toList.map fun t=>match P.underlying t with|some (.int k)=>some k|_=>none)) && (c.pinned == c.pinnedBy))=true)
  (d5:((c.veiled == (fn.params.toList++s.plain.varTypes P++fn.resultTypes.toList).any (P.veiledRec ·)) && c.veiledFits P fn.params.toList (fn.params.toList++s.plain.varTypes P++fn.resultTypes.toList))=true):joinedFacts P f fn s c=true:=by
 unfold joinedFacts
 simp only [Bool.and_eq_true] at a4 d1 d2 d3 d4 d5 ⊢
 obtain ⟨⟨⟨⟨⟨a4,a5⟩,a6⟩,a7⟩,a8⟩,a9⟩:=a4
 obtain ⟨⟨⟨⟨e1,e2⟩,e3⟩,e4⟩,e5⟩:=d1
 obtain ⟨⟨⟨e6,e7⟩,e8⟩,e9⟩:=d2
 obtain ⟨⟨⟨⟨⟨f1,f2⟩,f3⟩,f4⟩,f5⟩,f6⟩:=d3
 obtain ⟨f7,f8⟩:=d4
 obtain ⟨f9,g1⟩:=d5
 exact ⟨⟨⟨⟨⟨⟨⟨⟨⟨⟨⟨⟨⟨⟨⟨⟨⟨⟨⟨⟨⟨⟨⟨⟨⟨⟨⟨⟨⟨⟨⟨a1,a2⟩,a3⟩,a4⟩,a5⟩,a6⟩,a7⟩,a8⟩,a9⟩,b1⟩,b2⟩,b3⟩,b4⟩,e1⟩,e2⟩,e3⟩,e4⟩,e5⟩,e6⟩,e7⟩,e8⟩,e9⟩,f1⟩,f2⟩,f3⟩,f4⟩,f5⟩,f6⟩,f7⟩,f8⟩,f9⟩,g1⟩
theorem rowed:mapsRowed Tryz.prog=true:=by kernel_rfl
end Go.Proofs.YtahmdjadnlpjoaaGreat
namespace Go.Proofs.YtahmdjadnlpjoaaGreat
open Go.RowKit
set_option maxRecDepth 100000
set_option linter.unusedVariables false
set_option linter.unusedSimpArgs false
set_option maxHeartbeats 2000000
theorem days_sorted (p:Per):(zY p).Pairwise fun a b=>a < b:=by
 unfold zY
 generalize (p.to - p.fro+1).toNat=n
 induction n with
 | zero=>simp
 | succ n ih=>
  rw [List.range_succ,List.flatMap_append,List.pairwise_append]
  refine ⟨ih,?_,?_⟩
  ·simp only [List.flatMap_cons,List.flatMap_nil,List.append_nil];split<;>simp
  ·intro a ha b hb
   obtain ⟨k,hk,ha⟩:=List.mem_flatMap.1 ha
   have hk:=List.mem_range.1 hk
   simp only [List.flatMap_cons,List.flatMap_nil,List.append_nil] at hb
   split at ha
   ·split at hb
    ·simp at ha hb;omega
    ·cases hb
   ·cases ha
theorem movs_mem {r:Req} {o:Mov} (h:o ∈ movsL r):∃ d,d ∈ zY r.per∧o=movOf r d:=by
 obtain ⟨d,hd,rfl⟩:=List.mem_map.1 h;exact ⟨d,hd,rfl⟩
theorem chkReq_parts {r:Req} (h:chkReq r=0) {d:Int} (hd:d ∈ zY r.per):chkMov (movOf r d)=0:=by
 have hp:=zaX (chkReq_0 h).1
 have hm:=chkReq_0 h
 have hdm:=daysL_mem hd
 unfold chkReq at h
 unfold chkMov
 simp only [zq,rng_0] at h ⊢
 simp only [movOf]
 refine ⟨by omega,?_⟩
 simp only [h,true_and,and_true]
end Go.Proofs.YtahmdjadnlpjoaaGreat
