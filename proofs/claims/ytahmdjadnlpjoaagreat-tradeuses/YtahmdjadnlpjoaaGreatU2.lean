/- Contracts of functions that the proof uses, shared by the claims of this seat; no statement of its own. Part 72. No conditions. -/
import Derived.ProofKit
import Derived.OpenShut
import Derived.Carry
import Derived.OpenVars
import Derived.HandedShaped
import Derived.KernelRfl
import Derived.Laws.RangeAny
import Derived.Test.YtahmdjadnlpjoaaGreatRows
import Derived.Test.YtahmdjadnlpjoaaGreatU1
set_option linter.all false
set_option maxHeartbeats 8000000
namespace Go.Proofs.YtahmdjadnlpjoaaGreat
open Go.RowKit
set_option maxRecDepth 100000
set_option linter.unusedVariables false
set_option linter.unusedSimpArgs false
set_option maxHeartbeats 8000000
theorem ahead_no {a b:Wsh}:aheadB a b=false↔cmpW b a≤0:=by
 rw [aheadB,cmpW]
 rcases Int.lt_trichotomy a.rank b.rank with k|k|k
 ·have e:cmpI b.rank a.rank=1:=by rw [cmpI,if_neg (by omega),if_pos k]
  rw [e,za2 (by omega),decide_eq_true k,Bool.true_or]
  exact ⟨fun h=>(by cases h),fun h=>(by omega)⟩
 ·have e:cmpI b.rank a.rank=0:=by rw [cmpI,if_neg (by omega),if_neg (by omega)]
  have k1:¬a.rank < b.rank:=by omega
  rw [za3 e,fE_one,decide_eq_false k1,decide_eq_true k,Bool.false_or,Bool.true_and]
  constructor
  ·intro h
   by_cases q:a.req.name=b.req.name
   ·rw [(cmpS_0 _ _).2 q.symm];omega
   ·have h2:Op.bytesLess b.req.name.toList a.req.name.toList=true:=by
     by_cases r:Op.bytesLess b.req.name.toList a.req.name.toList=true
     ·exact r
     ·exact absurd (ba_tri h (by simpa using r)) q
    have:=(cmpS_l _ _).2 h2;omega
  ·intro h
   cases q:Op.bytesLess a.req.name.toList b.req.name.toList
   ·rfl
   ·exfalso
    rcases Int.lt_or_eq_of_le h with h|h
    ·have h1:=(cmpS_l _ _).1 h
     rw [bl_asym _ _ q] at h1;cases h1
    ·have h1:=(cmpS_0 _ _).1 h
     rw [h1,less_irr] at q;cases q
 ·have e:cmpI b.rank a.rank=-1:=if_pos k
  have k1:¬a.rank < b.rank:=by omega
  have k2:¬a.rank=b.rank:=by omega
  rw [e,za2 (by omega),decide_eq_false k1,decide_eq_false k2,Bool.false_or,Bool.false_and]
  exact ⟨fun _=>by omega,fun _=>rfl⟩
theorem pure1023 (b:Bk):Pure Tryz.prog 22 [b.pv] (.i .i64 (zG b)):=by
 refine zf (cF Tryz.func22 Tryz.f22.eq_1) (by simp) fun hw X hX=>?_
 by_cases h64:(64:Int) < b.slots.length
 ·have e:zG b=5:=by rw [zG,if_pos h64,za2 (by omega)]
  have h64':=eq_true h64
  rw [e]
  have qe:=aI qR (aI @h64' @decide_true);repeat' first|refine gC (fun hc=>?_) (fun hc=>?_)<;>try contradiction|refine gG ?_|show AK _;intro K H|refine H _ _ ?_;clear H K|refine gJ ?_;try exact trivial|omega
  all_goals exact .refl _
 have h64':=eq_false h64
 have hE:zG b=zg [zg (b.slots.mapIdx (sltErr b)),if 64 < (b.wait.length:Int) then 5 else 0,zg (b.wait.mapIdx (wshErr b))]:=by rw [zG,if_neg h64,za3 rfl]
 have qe:=aI qR (aI @h64' @decide_false);repeat' first|refine gC (fun hc=>?_) (fun hc=>?_)<;>try contradiction|refine gG ?_|show AK _;intro K H|refine H _ _ ?_;clear H K|refine gJ ?_;try exact trivial|omega
 refine zk (κ:=Nat) (fun i=>⟨[(1,.lp 1 0),(3,.p (.i .i64 i))],[(1,.box [.p (.sl 16 (b.slots.map Slt.pv)),.p (.sl 14 (b.wait.map Wsh.pv))] false)],[],false⟩) (fun i=>i≤b.slots.length∧∀ x ∈ (b.slots.mapIdx (sltErr b)).take i,x=0) (fun i=>b.slots.length - i) 0 ?_ ?_ ?_
 ·exact sS
 ·simp
 ·intro i hi
  repeat first|refine gG ?_|show AK _;intro K H|refine H _ _ ?_;clear H K|refine gJ ?_;try exact trivial|omega
  (refine gC (fun hc=>?_) (fun hc=>?_)<;>try contradiction)
  ·obtain ⟨s,hs⟩:=zn (i:=i) (l:=b.slots) (by omega)
   have e9:((9:Int)=0)=False:=eq_false (by omega)
   by_cases c1:chkSlt s=0
   ·have c1':=eq_true c1
    by_cases c2:0≤atL s.req.name ((b.slots.take i).map (·.req.name))
    ·have c2':=eq_true c2
     have hv:sltErr b i s=9:=by rw [sltErr,za3 c1,fE_one,if_pos c2]
     have e:zG b=9:=by rw [hE,zV hi.2 (zI hs) (by rw [hv];decide),hv,za2 (by omega)]
     rw [e]
     have qe:=aI qR (aI @hs (aI @take_map (aI @c1' (aI @c2' (aI @e9 (aI @decide_true @decide_false))))));repeat' first|refine gC (fun hc=>?_) (fun hc=>?_)<;>try contradiction|refine za (pure1092 s) ?_|refine zN (fun _=>pure1071 (b.slots.take i) s.req.name) ?_|refine gG ?_|show AK _;intro K H|refine H _ _ ?_;clear H K|refine gJ ?_;try exact trivial|omega
     all_goals exact .refl _
    ·have c2':=eq_false c2
     have hv:sltErr b i s=0:=by rw [sltErr,za3 c1,fE_one,if_neg c2]
     have qe:=aI qR (aI @hs (aI @take_map (aI @c1' (aI @c2' (aI @decide_true @decide_false)))));repeat' first|refine gC (fun hc=>?_) (fun hc=>?_)<;>try contradiction|refine za (pure1092 s) ?_|refine zN (fun _=>pure1071 (b.slots.take i) s.req.name) ?_|refine gG ?_|show AK _;intro K H|refine H _ _ ?_;clear H K|refine gJ ?_;try exact trivial|omega
     all_goals exact ⟨i+1,⟨by omega,zaC hi.2 (zI hs) hv⟩,by omega,by simp⟩
   ·have c1':=eq_false c1
    have hv:sltErr b i s=chkSlt s:=by rw [sltErr,za2 c1]
    have e:zG b=chkSlt s:=by rw [hE,zV hi.2 (zI hs) (by rw [hv];exact c1),hv,za2 c1]
    rw [e]
    have qe:=aI qR (aI @hs (aI @take_map (aI @c1' @decide_false)));repeat' first|refine gC (fun hc=>?_) (fun hc=>?_)<;>try contradiction|refine za (pure1092 s) ?_|refine zN (fun _=>pure1071 (b.slots.take i) s.req.name) ?_|refine gG ?_|show AK _;intro K H|refine H _ _ ?_;clear H K|refine gJ ?_;try exact trivial|omega
    all_goals exact .refl _
  ·have ei:i=(b.slots.mapIdx (sltErr b)).length:=by simp;omega
   have hA:zg (b.slots.mapIdx (sltErr b))=0:=by subst ei;exact z4 hi.2
   rw [za3 hA] at hE
   by_cases h65:(64:Int) < b.wait.length
   ·have e:zG b=5:=by rw [hE,if_pos h65,za2 (by omega)]
    have h65':=eq_true h65
    rw [e]
    have qe:=aI qR (aI @h65' @decide_true);repeat' first|refine gC (fun hc=>?_) (fun hc=>?_)<;>try contradiction|refine gG ?_|show AK _;intro K H|refine H _ _ ?_;clear H K|refine gJ ?_;try exact trivial|omega
    all_goals exact .refl _
   have h65':=eq_false h65
   rw [if_neg h65,za3 rfl,fE_one] at hE
   have qe:=aI qR (aI @h65' @decide_false);repeat' first|refine gC (fun hc=>?_) (fun hc=>?_)<;>try contradiction|refine gG ?_|show AK _;intro K H|refine H _ _ ?_;clear H K|refine gJ ?_;try exact trivial|omega
   refine zk (κ:=Nat) (fun i=>⟨[(1,.lp 1 0),(5,.p (.i .i64 i))],[(1,.box [.p (.sl 16 (b.slots.map Slt.pv)),.p (.sl 14 (b.wait.map Wsh.pv))] false)],[],false⟩) (fun i=>i≤b.wait.length∧∀ x ∈ (b.wait.mapIdx (wshErr b)).take i,x=0) (fun i=>b.wait.length - i) 0 ?_ ?_ ?_
   ·exact sS
   ·simp
   ·clear hi ei
    intro i hi
    repeat first|refine gG ?_|show AK _;intro K H|refine H _ _ ?_;clear H K|refine gJ ?_;try exact trivial|omega
    (refine gC (fun hc=>?_) (fun hc=>?_)<;>try contradiction)
    ·obtain ⟨w,hx⟩:=zn (i:=i) (l:=b.wait) (by omega)
     have e9:((9:Int)=0)=False:=eq_false (by omega)
     have e11:((11:Int)=0)=False:=eq_false (by omega)
     have hr:∀ e,wshErr b i w=e→e≠0→zG b=e:=fun e hv he=>by rw [hE,zV hi.2 (zI hx) (by rw [hv];exact he),hv]
     have hn9:∀ q:0≤atL w.req.name (b.slots.map (·.req.name))∨0≤atL w.req.name ((b.wait.take i).map (·.req.name)),0≤atL w.req.name (b.slots.map (·.req.name)++(b.wait.take i).map (·.req.name)):=fun q=>(atL_iff _ _).2 (by
      rcases q with q|q
      ·exact List.mem_append_left _ ((atL_iff _ _).1 q)
      ·exact List.mem_append_right _ ((atL_iff _ _).1 q))
     by_cases d1:chkWsh w=0
     ·have d1':=eq_true d1
      by_cases d2:0≤atL w.req.name (b.slots.map (·.req.name))
      ·have d2':=eq_true d2
       rw [hr 9 (by rw [wshErr,za3 d1,if_pos (hn9 (.inl d2)),za2 (by omega)]) (by omega)]
       have qe:=aI qR (aI @hx (aI @take_map (aI @d1' (aI @d2' (aI @e9 (aI @decide_true @decide_false))))));repeat' first|refine gC (fun hc=>?_) (fun hc=>?_)<;>try contradiction|refine za (pure1045 w) ?_|refine zN (fun _=>pure1071 b.slots w.req.name) ?_|refine zN (fun _=>pure1046 (b.wait.take i) w.req.name) ?_|(show zj _ _ _ _ (⟨_,.call 95,_,_,_⟩::_) _ _;refine run_callF (q:=.b false) (by first|rfl|(simp (disch:=omega) only [qG,qe,Nat.reduceAdd,Nat.reduceMul,Nat.reduceEqDiff,Nat.reduceLeDiff,reduceIte,reduceCtorEq,Nat.reduceBEq,Nat.reduceLT]<;>rfl)) ?_;(try (refine zE ?_)))|refine gG ?_|show AK _;intro K H|refine H _ _ ?_;clear H K|refine gJ ?_;try exact trivial|omega
       all_goals exact .refl _
      have d2':=eq_false d2
      by_cases d3:0≤atL w.req.name ((b.wait.take i).map (·.req.name))
      ·have d3':=eq_true d3
       rw [hr 9 (by rw [wshErr,za3 d1,if_pos (hn9 (.inr d3)),za2 (by omega)]) (by omega)]
       have qe:=aI qR (aI @hx (aI @take_map (aI @d1' (aI @d2' (aI @d3' (aI @e9 (aI @decide_true @decide_false)))))));repeat' first|refine gC (fun hc=>?_) (fun hc=>?_)<;>try contradiction|refine za (pure1045 w) ?_|refine zN (fun _=>pure1071 b.slots w.req.name) ?_|refine zN (fun _=>pure1046 (b.wait.take i) w.req.name) ?_|(show zj _ _ _ _ (⟨_,.call 95,_,_,_⟩::_) _ _;refine run_callF (q:=.b false) (by first|rfl|(simp (disch:=omega) only [qG,qe,Nat.reduceAdd,Nat.reduceMul,Nat.reduceEqDiff,Nat.reduceLeDiff,reduceIte,reduceCtorEq,Nat.reduceBEq,Nat.reduceLT]<;>rfl)) ?_;(try (refine zE ?_)))|refine gG ?_|show AK _;intro K H|refine H _ _ ?_;clear H K|refine gJ ?_;try exact trivial|omega
       all_goals exact .refl _
      have d3':=eq_false d3
      have hno:¬0≤atL w.req.name (b.slots.map (·.req.name)++(b.wait.take i).map (·.req.name)):=fun q=>by
       rcases List.mem_append.1 ((atL_iff _ _).1 q) with q|q
       ·exact d2 ((atL_iff _ _).2 q)
       ·exact d3 ((atL_iff _ _).2 q)
      by_cases d4:0 < (i:Int)
      ·have d4':=eq_true d4
       obtain ⟨p,hp⟩:=zn (i:=i - 1) (l:=b.wait) (by omega)
       have e1:((i:Int) - 1).toNat=i - 1:=by omega
       cases d5:aheadB p w with
       | true=>
        have hc5:¬cmpW w p≤0:=fun q=>by rw [ahead_no.2 q] at d5;cases d5
        have hv:wshErr b i w=0:=by rw [wshErr,za3 d1,if_neg hno,za3 rfl,fE_one,hp];exact if_neg fun q=>hc5 q.2
        have qe:=aI qR (aI @hx (aI @hp (aI @e1 (aI @take_map (aI @d1' (aI @d2' (aI @d3' (aI @d4' (aI @d5 (aI @decide_true (aI @decide_false @Bool.not_true)))))))))));repeat' first|refine gC (fun hc=>?_) (fun hc=>?_)<;>try contradiction|refine za (pure1045 w) ?_|refine zN (fun _=>pure1071 b.slots w.req.name) ?_|refine zN (fun _=>pure1046 (b.wait.take i) w.req.name) ?_|refine zN (fun _=>pure1093 p w) ?_|refine gG ?_|show AK _;intro K H|refine H _ _ ?_;clear H K|refine gJ ?_;try exact trivial|omega
        all_goals exact ⟨i+1,⟨by omega,zaC hi.2 (zI hx) hv⟩,by omega,by simp⟩
       | false=>
        rw [hr 11 (by rw [wshErr,za3 d1,if_neg hno,za3 rfl,fE_one,hp];exact if_pos ⟨d4,ahead_no.1 d5⟩) (by omega)]
        have qe:=aI qR (aI @hx (aI @hp (aI @e1 (aI @take_map (aI @d1' (aI @d2' (aI @d3' (aI @d4' (aI @d5 (aI @e11 (aI @decide_true (aI @decide_false @Bool.not_false))))))))))));repeat' first|refine gC (fun hc=>?_) (fun hc=>?_)<;>try contradiction|refine za (pure1045 w) ?_|refine zN (fun _=>pure1071 b.slots w.req.name) ?_|refine zN (fun _=>pure1046 (b.wait.take i) w.req.name) ?_|refine zN (fun _=>pure1093 p w) ?_|refine gG ?_|show AK _;intro K H|refine H _ _ ?_;clear H K|refine gJ ?_;try exact trivial|omega
        all_goals exact .refl _
      ·have d4':=eq_false d4
       have hv:wshErr b i w=0:=by rw [wshErr,za3 d1,if_neg hno,za3 rfl,fE_one];exact if_neg fun q=>d4 q.1
       have qe:=aI qR (aI @hx (aI @take_map (aI @d1' (aI @d2' (aI @d3' (aI @d4' (aI @decide_true @decide_false)))))));repeat' first|refine gC (fun hc=>?_) (fun hc=>?_)<;>try contradiction|refine za (pure1045 w) ?_|refine zN (fun _=>pure1071 b.slots w.req.name) ?_|refine zN (fun _=>pure1046 (b.wait.take i) w.req.name) ?_|(show zj _ _ _ _ (⟨_,.call 95,_,_,_⟩::_) _ _;refine run_callF (q:=.b false) (by first|rfl|(simp (disch:=omega) only [qG,qe,Nat.reduceAdd,Nat.reduceMul,Nat.reduceEqDiff,Nat.reduceLeDiff,reduceIte,reduceCtorEq,Nat.reduceBEq,Nat.reduceLT]<;>rfl)) ?_;(try (refine zE ?_)))|refine gG ?_|show AK _;intro K H|refine H _ _ ?_;clear H K|refine gJ ?_;try exact trivial|omega
       all_goals exact ⟨i+1,⟨by omega,zaC hi.2 (zI hx) hv⟩,by omega,by simp⟩
     ·have d1':=eq_false d1
      rw [hr (chkWsh w) (by rw [wshErr,za2 d1]) d1]
      have qe:=aI qR (aI @hx (aI @take_map (aI @d1' @decide_false)));repeat' first|refine gC (fun hc=>?_) (fun hc=>?_)<;>try contradiction|refine za (pure1045 w) ?_|refine zN (fun _=>pure1071 b.slots w.req.name) ?_|refine zN (fun _=>pure1046 (b.wait.take i) w.req.name) ?_|(show zj _ _ _ _ (⟨_,.call 95,_,_,_⟩::_) _ _;refine run_callF (q:=.b false) (by first|rfl|(simp (disch:=omega) only [qG,qe,Nat.reduceAdd,Nat.reduceMul,Nat.reduceEqDiff,Nat.reduceLeDiff,reduceIte,reduceCtorEq,Nat.reduceBEq,Nat.reduceLT]<;>rfl)) ?_;(try (refine zE ?_)))|refine gG ?_|show AK _;intro K H|refine H _ _ ?_;clear H K|refine gJ ?_;try exact trivial|omega
      all_goals exact .refl _
    ·have ei:i=(b.wait.mapIdx (wshErr b)).length:=by simp;omega
     have hZ:zg (b.wait.mapIdx (wshErr b))=0:=by subst ei;exact z4 hi.2
     rw [hE,hZ]
     have qe:=@qR;repeat' first|refine gC (fun hc=>?_) (fun hc=>?_)<;>try contradiction|refine gG ?_|show AK _;intro K H|refine H _ _ ?_;clear H K|refine gJ ?_;try exact trivial|omega
     all_goals exact .refl _
set_option maxRecDepth 100000
set_option linter.unusedVariables false
set_option linter.unusedSimpArgs false
set_option maxHeartbeats 8000000
def rOpE (b:Bk) (n:ByteArray) (d:Int):Int:=zg [fndE b.slots n,rng d 0 99999,if d ∈ zY (zo b n).req.per then 0 else 30]
def rOpR (b:Bk) (n:ByteArray) (d:Int):ByteArray:=if rOpE b n d=0 then oprY (zo b n) d else s0
set_option maxRecDepth 100000
set_option linter.unusedVariables false
set_option linter.unusedSimpArgs false
set_option maxHeartbeats 8000000
theorem sl_sh {s:Slt} (h:shSl s=true):s.ls.length≤9∧s.sh.length≤5∧shortB s.req=true:=by
 simp only [shSl,Bool.and_eq_true,Bool.not_eq_true',bigS,Bool.or_eq_false_iff,Bool.and_eq_false_iff,decide_eq_false_iff_not,Bool.not_eq_false',decide_eq_true_eq] at h
 obtain ⟨⟨⟨⟨h1,_⟩,h2⟩,h3⟩,_⟩:=h
 exact ⟨by omega,by omega,h1⟩
theorem sh_ok {b:Bk} (h:shBk b=true):BkOk b∧b.slots.length≤65∧b.wait.length≤65:=by
 simp only [shBk,Bool.and_eq_true,Bool.not_eq_true',bigB,Bool.or_eq_false_iff,Bool.and_eq_false_iff,decide_eq_false_iff_not,Bool.not_eq_false',decide_eq_true_eq,List.all_eq_true] at h
 obtain ⟨⟨h1,h2⟩,h3,_⟩:=h
 exact ⟨⟨fun s hs=>by have:=sl_sh (h3 s hs);exact ⟨by omega,by omega⟩,by omega,by omega⟩,by omega,by omega⟩
theorem opr_eq {b:Bk} (h:zG b=0) (n:ByteArray) (d:Int):oprC b n d=rOpE b n d∧oprR b n d=rOpR b n d:=by
 have e1:oprE b n d=zg [fndE b.slots n,rng d 0 99999]:=by rw [oprE,za3 h];rfl
 have e:oprC b n d=rOpE b n d:=by
  rw [oprC,rOpE,e1]
  by_cases h2:fndE b.slots n=0
  ·rw [za3 h2,fE_one,za3 h2]
   by_cases h3:rng d 0 99999=0
   ·have hat:¬atL n (b.slots.map (·.req.name)) < 0:=fun k=>by rw [fndE,if_pos k] at h2;omega
    obtain ⟨s,hs⟩:=slot_at hat
    have hso:zo b n=s:=by rw [zo,hs];rfl
    have hp:=(chkReq_0 (bk_req h (List.mem_of_getElem? hs))).1
    rw [za3 h3,fE_one,za3 h3,fE_one,hso,oprX,hasB_days hp,hasE]
    have hE:zg [zau s.req.per,rng d 0 99999]=0:=zq.2 ⟨hp,zq.2 ⟨h3,rfl⟩⟩
    by_cases hm:d ∈ zY s.req.per
    ·rw [if_pos hm,if_pos ⟨hE,decide_eq_true hm⟩]
    ·rw [if_neg hm,if_neg (fun k=>hm (of_decide_eq_true k.2))]
   ·rw [za2 h3,za2 h3]
  ·rw [za2 (show zg [fndE b.slots n,rng d 0 99999]≠0 by rw [za2 h2];exact h2),za2 h2,za2 h2]
 exact ⟨e,by rw [oprR,rOpR,e]⟩
end Go.Proofs.YtahmdjadnlpjoaaGreat
namespace Go.Proofs.YtahmdjadnlpjoaaGreat
open Go.RowKit Go.ChangeShapes Go.WideShapes Go.ChangeAt
set_option maxRecDepth 100000
set_option linter.unusedVariables false
set_option linter.unusedSimpArgs false
set_option maxHeartbeats 4000000
theorem list_of {α:Type} {f:α→PV}:∀ {xs:List PV},(∀ x ∈ xs,∃ a,x=f a)→∃ L:List α,xs=L.map f
 | [],_=>⟨[],rfl⟩
 | x::r,h=>by
  obtain ⟨a,rfl⟩:=h x (by simp)
  obtain ⟨L,rfl⟩:=list_of (xs:=r) fun y hy=>h y (by simp [hy])
  exact ⟨a::L,rfl⟩
def leaT:List CP:=[.s,jT,jT]
def sltT:List CP:=[.s,.s,.s,.s,.s,.s,jT,jT,jT,jT,jT,jT,jT,.s,.sl true leaT,.sl false [.s]]
def wshT:List CP:=[.s,.s,.s,.s,.s,.s,jT,jT,jT,jT,jT,jT,jT,jT]
theorem lea_of {n:Nat} {l:List PV} (h:FitAll (Fit n) leaT l):∃ L:Lea,.agg l=L.pv:=by
 cases n<;>(match l,h with
  | [_,_,_],⟨⟨a,ha⟩,⟨b,hb⟩,⟨c,hc⟩,_⟩=>subst ha hb hc;exact ⟨⟨a,b,c⟩,rfl⟩)
theorem leas_of {n:Nat} {p:PV} (h:Fit (n+1) (.sl true leaT) p):∃ L:List Lea,p=.sl 3 (L.map Lea.pv):=by
 obtain ⟨xs,rfl,hx⟩:=h
 obtain ⟨L,rfl⟩:=list_of (f:=Lea.pv) (xs:=xs) fun x h=>by
  obtain ⟨l,rfl,hf⟩:=hx x h
  exact lea_of hf
 exact ⟨L,rfl⟩
theorem strs_of {n:Nat} {p:PV} (h:Fit (n+1) (.sl false [.s]) p):∃ L:List ByteArray,p=.sl 1 (L.map .s):=by
 obtain ⟨xs,rfl,hx⟩:=h
 obtain ⟨L,rfl⟩:=list_of (f:=PV.s) (xs:=xs) fun x h=>by
  obtain ⟨l,rfl,hf⟩:=hx x h
  match l,hf with
  | [_],⟨h1,_⟩=>
   cases n<;>(obtain ⟨a,rfl⟩:=h1;exact ⟨a,rfl⟩)
 exact ⟨L,rfl⟩
theorem slt_of {n:Nat} {l:List PV} (h:FitAll (Fit (n+1)) sltT l):∃ s:Slt,.agg l=s.pv:=by
 match l,h with
 | [_,_,_,_,_,_,_,_,_,_,_,_,_,_,_,_],⟨⟨a,ha⟩,⟨b,hb⟩,⟨c,hc⟩,⟨d,hd⟩,⟨e,he⟩,⟨f,hf⟩,⟨g,hg⟩,⟨i,hi⟩,⟨j,hj⟩,⟨k,hk⟩,⟨m,hm⟩,⟨o,ho⟩,⟨q,hq⟩,⟨r,hr⟩,h1,h2,_⟩=>
  subst ha hb hc hd he hf hg hi hj hk hm ho hq hr
  obtain ⟨L,rfl⟩:=leas_of h1
  obtain ⟨S,rfl⟩:=strs_of h2
  exact ⟨⟨⟨a,b,c,d,e,f,⟨g,i,j⟩,k,m,o,q⟩,r,L,S⟩,rfl⟩
theorem wsh_of {n:Nat} {l:List PV} (h:FitAll (Fit n) wshT l):∃ w:Wsh,.agg l=w.pv:=by
 cases n<;>(match l,h with
  | [_,_,_,_,_,_,_,_,_,_,_,_,_,_],⟨⟨a,ha⟩,⟨b,hb⟩,⟨c,hc⟩,⟨d,hd⟩,⟨e,he⟩,⟨f,hf⟩,⟨g,hg⟩,⟨i,hi⟩,⟨j,hj⟩,⟨k,hk⟩,⟨m,hm⟩,⟨o,ho⟩,⟨q,hq⟩,⟨r,hr⟩,_⟩=>
   subst ha hb hc hd he hf hg hi hj hk hm ho hq hr
   exact ⟨⟨⟨a,b,c,d,e,f,⟨g,i,j⟩,k,m,o,q⟩,r⟩,rfl⟩)
theorem parB:parP Tryz.prog 6 25=some (true,[.sl true sltT,.sl true wshT]):=by kernel_rfl
theorem fit_bk {p:PV} (h:FitPar Tryz.prog 6 25 p):∃ b:Bk,p=b.pv:=by
 obtain ⟨⟨ag,c,l,hp,rfl,hl⟩,hb⟩:=h
 rw [parB] at hp
 simp only [Option.some.injEq,Prod.mk.injEq] at hp
 obtain ⟨rfl,rfl⟩:=hp
 match l,hl with
 | [_,_],⟨⟨xs,rfl,hx⟩,⟨ys,rfl,hy⟩,_⟩=>
  obtain ⟨L,rfl⟩:=list_of (f:=Slt.pv) (xs:=xs) fun x h=>by
   obtain ⟨l,rfl,hf⟩:=hx x h
   exact slt_of hf
  obtain ⟨W,rfl⟩:=list_of (f:=Wsh.pv) (xs:=ys) fun x h=>by
   obtain ⟨l,rfl,hf⟩:=hy x h
   exact wsh_of hf
  exact ⟨⟨L,W⟩,rfl⟩
end Go.Proofs.YtahmdjadnlpjoaaGreat
namespace Go.Proofs.YtahmdjadnlpjoaaGreat
open Go.RowKit
set_option maxRecDepth 100000
set_option linter.unusedVariables false
set_option linter.unusedSimpArgs false
set_option maxHeartbeats 8000000
theorem bk0_ok:BkOk bk0:=⟨fun s h=>(by cases h),by simp [bk0],by simp [bk0]⟩
theorem chg_ok {b:Bk} {n:ByteArray} {s:Slt} (hb:BkOk b) (hs:SlOk s):BkOk (chgB b n s):=by
 refine ⟨fun x hx=>?_,by simpa [chgB] using hb.n,hb.w⟩
 rcases List.mem_or_eq_of_mem_set hx with h|rfl
 ·exact hb.s x h
 ·exact hs
theorem sof_ok {b:Bk} {n:ByteArray} (hb:BkOk b):SlOk (zo b n):=by
 rw [zo]
 cases h:b.slots[(atL n (b.slots.map (·.req.name))).toNat]? with
 | none=>exact ⟨by simp,by simp⟩
 | some s=>exact hb.s s (List.mem_of_getElem? h)
set_option maxRecDepth 100000
set_option linter.unusedVariables false
set_option linter.unusedSimpArgs false
set_option maxHeartbeats 8000000
section
variable {α:Type}
def inF (bf:α→α→Bool) (l:α) (q:Bool × List α) (x:α):Bool × List α:=if q.1=false∧bf l x=true then (true,q.2++[l]++[x]) else (q.1,q.2++[x])
def inK (bf:α→α→Bool) (l:α) (L:List α):Bool × List α:=L.foldl (inF bf l) (false,[])
def inR (bf:α→α→Bool) (l:α) (L:List α):List α:=if (inK bf l L).1=true then (inK bf l L).2 else (inK bf l L).2++[l]
end
def bfLe (l x:Lea):Bool:=decide (l.fro < x.fro)
set_option maxRecDepth 100000
set_option linter.unusedVariables false
set_option linter.unusedSimpArgs false
set_option maxHeartbeats 4000000
theorem pw_adj {α:Type} {R:α→α→Prop} (tr:∀ a b c,R a b→R b c→R a c):∀ {L:List α},(∀ i x y,L[i]?=some x→L[i+1]?=some y→R x y)→L.Pairwise R
 | [],_=>.nil
 | [x],_=>by simp
 | x::y::r,h=>by
  have ih:(y::r).Pairwise R:=pw_adj tr fun i a b h1 h2=>h (i+1) a b (by simpa using h1) (by simpa using h2)
  refine List.pairwise_cons.2 ⟨fun z hz=>?_,ih⟩
  have hxy:=h 0 x y rfl rfl
  rcases List.mem_cons.1 hz with rfl|hz
  ·exact hxy
  ·exact tr _ _ _ hxy (List.rel_of_pairwise_cons ih hz)
def leLt (a b:Lea):Prop:=a.fro≤a.to∧a.to < b.fro∧b.fro≤b.to
theorem chkLea_le {l:Lea} (h:chkLea l=0):l.fro≤l.to:=by
 have:=fE0 h (if l.to < l.fro then 11 else 0) (by simp)
 by_cases k:l.to < l.fro
 ·rw [if_pos k] at this;omega
 ·omega
theorem slt_lea {s:Slt} (h:chkSlt s=0) {i:Nat} {x:Lea} (hx:s.ls[i]?=some x):leaErr s i x=0:=mapIdx_0 (fE0 h (zg (s.ls.mapIdx (leaErr s))) (by simp)) hx
theorem slt_le {s:Slt} (h:chkSlt s=0) {x:Lea} (hx:x ∈ s.ls):x.fro≤x.to:=by
 obtain ⟨i,hi⟩:=List.mem_iff_getElem?.1 hx
 exact chkLea_le (fE0 (slt_lea h hi) _ (by simp))
theorem slt_pw {s:Slt} (h:chkSlt s=0):s.ls.Pairwise leLt:=by
 refine pw_adj (fun a b c h1 h2=>?_) fun i x y hx hy=>?_
 ·simp only [leLt] at *;omega
 ·have h1:=slt_le h (List.mem_of_getElem? hx)
  have h2:=slt_le h (List.mem_of_getElem? hy)
  have:=fE0 (slt_lea h hy) (if 0 < ((i+1:Nat):Int)∧y.fro≤((s.ls[i+1 - 1]?).getD y).to then 15 else 0) (by simp)
  have e:(s.ls[i+1 - 1]?).getD y=x:=by rw [Nat.add_sub_cancel,hx];rfl
  rw [e] at this
  by_cases k:0 < ((i+1:Nat):Int)∧y.fro≤x.to
  ·rw [if_pos k] at this;omega
  ·exact ⟨h1,by omega,h2⟩
theorem idxF_spec {α:Type} {p:α→Bool}:∀ {l:List α},(idxF p l < 0∧∀ x ∈ l,p x=false)∨∃ k x,idxF p l=(k:Nat)∧l[k]?=some x∧p x=true∧∀ y ∈ l.take k,p y=false
 | []=>.inl ⟨by simp [idxF],by simp⟩
 | x::r=>by
  by_cases h:p x=true
  ·refine .inr ⟨0,x,?_,rfl,h,by simp⟩
   exact idxF_hit (i:=0) (by simp) rfl h
  ·have h':p x=false:=by simpa using h
   rcases idxF_spec (p:=p) (l:=r) with ⟨h1,h2⟩|⟨k,y,h1,h2,h3,h4⟩
   ·have ha:∀ y ∈ x::r,p y=false:=fun y hy=>by
     rcases List.mem_cons.1 hy with rfl|hy
     ·exact h'
     ·exact h2 y hy
    exact .inl ⟨by rw [idxF_end ha];omega,ha⟩
   ·refine .inr ⟨k+1,y,?_,by simpa using h2,h3,?_⟩
    ·refine idxF_hit (i:=k+1) (fun z hz=>?_) (by simpa using h2) h3
     rw [List.take_succ_cons] at hz
     rcases List.mem_cons.1 hz with rfl|hz
     ·exact h'
     ·exact h4 z hz
    ·intro z hz
     rw [List.take_succ_cons] at hz
     rcases List.mem_cons.1 hz with rfl|hz
     ·exact h'
     ·exact h4 z hz
theorem ins_at {α:Type} {bef:α→α→Bool} {x:α} {A B:List α} (hA:∀ y ∈ A,bef x y=false) (hB:∀ y ∈ B,bef x y=true):insMP bef (A++B) x=A++x::B:=by
 have hle:=insAt_leP bef x (A++B) (A++B).length
 have h1:zbB bef x (A++B) (A++B).length=A.length:=by
  generalize hn:zbB bef x (A++B) (A++B).length=n at hle
  rcases Nat.lt_trichotomy n A.length with h|h|h
  ·obtain ⟨y,hy,hb⟩:=insAt_geP bef x (A++B) (A++B).length n (by omega) (by rw [List.length_append];omega)
   rw [List.getElem?_append_left h] at hy
   rw [hA y (List.mem_of_getElem? hy)] at hb;cases hb
  ·exact h
  ·obtain ⟨k,rfl⟩:∃ k,n=k+1:=⟨n - 1,by omega⟩
   rw [List.length_append] at hle
   obtain ⟨y,hy⟩:=zn (i:=k - A.length) (l:=B) (by omega)
   have hy':(A++B)[k]?=some y:=by rw [List.getElem?_append_right (by omega)];exact hy
   have:=insAt_lastP bef x (A++B) _ k y hn hy'
   rw [hB y (List.mem_of_getElem? hy)] at this;cases this
 rw [insMP,h1];simp
theorem sort_id {α:Type} {c:α→α→Int}:∀ (L out:List α),(out++L).Pairwise (fun a b=>¬c b a < 0)→L.foldl (insMP (bfCP c)) out=out++L
 | [],out,_=>by simp
 | x::r,out,h=>by
  have hx:insMP (bfCP c) out x=out++[x]:=by
   have:=ins_at (bef:=bfCP c) (x:=x) (A:=out) (B:=[]) (fun y hy=>decide_eq_false ((List.pairwise_append.1 h).2.2 y hy x (by simp))) (by simp)
   rwa [List.append_nil] at this
  rw [List.foldl_cons,hx,sort_id r (out++[x]) (by rw [List.append_assoc];exact h),List.append_assoc];rfl
theorem inK_tail {α:Type} (bf:α→α→Bool) (l:α):∀ (B:List α) (out:List α),B.foldl (inF bf l) (true,out)=(true,out++B)
 | [],out=>by simp
 | x::r,out=>by
  rw [List.foldl_cons,inF,if_neg (by simp),inK_tail bf l r];simp
theorem inK_head {α:Type} (bf:α→α→Bool) (l:α):∀ (A:List α) (out:List α),(∀ y ∈ A,bf l y=false)→A.foldl (inF bf l) (false,out)=(false,out++A)
 | [],out,_=>by simp
 | x::r,out,h=>by
  rw [List.foldl_cons,inF,if_neg (fun k=>by have:=h x (by simp);rw [this] at k;cases k.2),inK_head bf l r _ (fun y hy=>h y (by simp [hy]))];simp
theorem inR_at {α:Type} {bf:α→α→Bool} {l:α} {A B:List α} (hA:∀ y ∈ A,bf l y=false) (hB:∀ y ∈ B,bf l y=true):inR bf l (A++B)=A++l::B:=by
 rw [inR,inK,List.foldl_append,inK_head bf l A [] hA,List.nil_append]
 cases B with
 | nil=>simp
 | cons x r=>
  have e:inF bf l (false,A) x=(true,A++[l]++[x]):=if_pos ⟨rfl,hB x (by simp)⟩
  rw [List.foldl_cons,e,inK_tail];simp
theorem split_at {α:Type} {f:α→Int} {v:Int}:∀ {L:List α},L.Pairwise (fun a b=>f a < f b)→∃ A B,L=A++B∧(∀ y ∈ A,¬v < f y)∧∀ y ∈ B,v < f y
 | [],_=>⟨[],[],rfl,by simp,by simp⟩
 | x::r,h=>by
  by_cases k:v < f x
  ·exact ⟨[],x::r,rfl,by simp,fun y hy=>by
    rcases List.mem_cons.1 hy with rfl|hy
    ·exact k
    ·have:=List.rel_of_pairwise_cons h hy;omega⟩
  ·obtain ⟨A,B,rfl,h1,h2⟩:=split_at (v:=v) (List.pairwise_cons.1 h).2
   exact ⟨x::A,B,rfl,fun y hy=>by
    rcases List.mem_cons.1 hy with rfl|hy
    ·exact k
    ·exact h1 y hy,h2⟩
theorem len_eq {s:Slt} (h:chkSlt s=0) (l:Lea):inR bfLe l s.ls=lnL s l:=by
 have hp:s.ls.Pairwise (fun a b=>a.fro < b.fro):=(slt_pw h).imp fun {a b} k=>by simp only [leLt] at k;omega
 obtain ⟨A,B,e,hA,hB⟩:=split_at (v:=l.fro) hp
 have hc:∀ a b:Lea,cmpLe a b < 0↔a.fro < b.fro:=fun a b=>by
  simp only [cmpLe,cmpI];(repeat' split)<;>omega
 have hs:zbM cmpLe s.ls=s.ls:=by
  have:=sort_id (c:=cmpLe) s.ls [] (by rw [List.nil_append];exact hp.imp fun {a b} k=>by rw [hc];omega)
  rwa [List.nil_append] at this
 rw [lnL,zbM,List.foldl_append]
 rw [zbM] at hs
 rw [hs,e,inR_at (fun y hy=>decide_eq_false (hA y hy)) (fun y hy=>decide_eq_true (hB y hy))]
 exact (ins_at (fun y hy=>decide_eq_false (by rw [hc];exact hA y hy)) (fun y hy=>decide_eq_true (by rw [hc];exact hB y hy))).symm
set_option maxRecDepth 100000
set_option linter.unusedVariables false
set_option linter.unusedSimpArgs false
set_option maxHeartbeats 4000000
theorem own_valid {b:Bk} (h:zG b=0) {c n:ByteArray} {e:Int} (ho:ownE b c n e=0):chkSlt (zo b n)=0:=bk_slt h (List.mem_of_getElem? (za8 ho).2.1)
theorem lnB_ok {b:Bk} (hb:BkOk b) (h:zG b=0) (c n:ByteArray) (l:Lea):BkOk (lnB b c n l):=by
 rw [lnB];split
 ·rename_i k
  have ho:ownE b c n (chkLea l)=0:=fE0 k _ (by simp)
  have h8:=fE0 (own_valid h ho) (if 8 < ((zo b n).ls.length:Int) then 5 else 0) (by simp)
  have h9:(zo b n).ls.length≤8:=by
   by_cases q:8 < ((zo b n).ls.length:Int)
   ·rw [if_pos q] at h8;omega
   ·omega
  exact chg_ok hb ⟨by simp only [lnS,lnL_len];omega,(sof_ok hb).2⟩
 ·exact bk0_ok
end Go.Proofs.YtahmdjadnlpjoaaGreat
namespace Go.Proofs.YtahmdjadnlpjoaaGreat
open Go.RowKit Go.ChangeShapes Go.WideShapes Go.ChangeAt
set_option maxRecDepth 100000
set_option linter.unusedVariables false
set_option linter.unusedSimpArgs false
set_option maxHeartbeats 4000000
theorem parX:parP Tryz.prog 6 99=some (true,[.sl false [.s],.s,.s,.s,.s,jT,jT,jT]):=by kernel_rfl
theorem fit_exc {p:PV} (h:FitPar Tryz.prog 6 99 p):∃ x:Exc,p=x.pv:=by
 obtain ⟨⟨ag,c,l,hp,rfl,hl⟩,hb⟩:=h
 rw [parX] at hp
 simp only [Option.some.injEq,Prod.mk.injEq] at hp
 obtain ⟨rfl,rfl⟩:=hp
 match l,hl with
 | [_,_,_,_,_,_,_,_],⟨h1,⟨a,ha⟩,⟨b,hb⟩,⟨c,hc⟩,⟨d,hd⟩,⟨e,he⟩,⟨f,hf⟩,⟨g,hg⟩,_⟩=>
  subst ha hb hc hd he hf hg
  obtain ⟨S,rfl⟩:=strs_of h1
  exact ⟨⟨S,a,b,c,⟨d,e,f⟩,g⟩,rfl⟩
end Go.Proofs.YtahmdjadnlpjoaaGreat
namespace Go.Proofs.YtahmdjadnlpjoaaGreat
open Go.RowKit
set_option maxRecDepth 100000
set_option linter.unusedVariables false
set_option linter.unusedSimpArgs false
set_option maxHeartbeats 4000000
theorem fE_of:∀ {l:List Int},(∀ x ∈ l,x=0)→zg l=0
 | [],_=>rfl
 | x::r,h=>zq.2 ⟨h x (by simp),fE_of fun y hy=>h y (by simp [hy])⟩
theorem mapIdx_of {α:Type} {f:Nat→α→Int} {l:List α} (h:∀ i x,l[i]?=some x→f i x=0):zg (l.mapIdx f)=0:=fE_of fun y hy=>by
 obtain ⟨i,hi⟩:=List.mem_iff_getElem?.1 hy
 rw [List.getElem?_mapIdx] at hi
 cases hx:l[i]? with
 | none=>rw [hx] at hi;cases hi
 | some x=>
  rw [hx] at hi
  have e:f i x=y:=Option.some.inj hi
  rw [←e];exact h i x hx
theorem set_valid {b:Bk} (h:zG b=0) {i:Nat} {s s':Slt} (hs:b.slots[i]?=some s) (hn:s'.req.name=s.req.name) (hv:chkSlt s'=0):zG ⟨b.slots.set i s',b.wait⟩=0:=by
 have hnm:(b.slots.set i s').map (·.req.name)=b.slots.map (·.req.name):=names_set _ _ _ _ hs hn
 have hT:∀ k,((b.slots.set i s').take k).map (·.req.name)=(b.slots.take k).map (·.req.name):=fun k=>by rw [List.map_take,hnm,List.map_take]
 have e3:wshErr ⟨b.slots.set i s',b.wait⟩=wshErr b:=by funext k w;simp only [wshErr,hnm]
 have e4:zg ((b.slots.set i s').mapIdx (sltErr ⟨b.slots.set i s',b.wait⟩))=0:=by
  refine mapIdx_of fun k x hx=>?_
  by_cases hk:i=k
  ·subst hk
   have hlt:=(List.getElem?_eq_some_iff.1 hs).1
   rw [List.getElem?_set_self hlt] at hx
   have ex:s'=x:=Option.some.inj hx
   subst ex
   have h1:=bk_slot h hs
   have h2:=fE0 h1 (if 0≤atL s.req.name ((b.slots.take i).map (·.req.name)) then 9 else 0) (by simp)
   refine zq.2 ⟨hv,zq.2 ⟨?_,rfl⟩⟩
   rw [hn];simp only [hT];exact h2
  ·rw [List.getElem?_set_ne hk] at hx
   have h1:=bk_slot h hx
   rw [sltErr] at h1 ⊢
   simp only [hT];exact h1
 have c1:=fE0 h (if 64 < (b.slots.length:Int) then 5 else 0) (by simp)
 have c3:=fE0 h (if 64 < (b.wait.length:Int) then 5 else 0) (by simp)
 have c4:=fE0 h (zg (b.wait.mapIdx (wshErr b))) (by simp)
 refine zq.2 ⟨?_,zq.2 ⟨e4,zq.2 ⟨c3,zq.2 ⟨?_,rfl⟩⟩⟩⟩
 ·simp only [List.length_set];exact c1
 ·rw [e3];exact c4
theorem chg_valid {b:Bk} (h:zG b=0) {c n:ByteArray} {e:Int} (ho:ownE b c n e=0) {s':Slt} (hn:s'.req.name=(zo b n).req.name) (hv:chkSlt s'=0):zG (chgB b n s')=0:=set_valid h (za8 ho).2.1 hn hv
theorem slt_of_ls {s:Slt} (h:chkSlt s=0) {L:List Lea} (hl:L.length≤8) (h1:∀ x ∈ L,chkLea x=0∧leaOf s.raw x=0) (hp:L.Pairwise leLt):chkSlt ⟨s.req,s.holder,L,s.sh⟩=0:=by
 have c1:=fE0 h (chkQ s.req) (by simp)
 have c2:=fE0 h (zaH s.holder) (by simp)
 have c5:=fE0 h (if 4 < (s.sh.length:Int) then 5 else 0) (by simp)
 have c6:=fE0 h (zg (s.sh.mapIdx (shaErr s))) (by simp)
 refine zq.2 ⟨c1,zq.2 ⟨c2,zq.2 ⟨if_neg (show ¬(8:Int) < (L.length:Int) by omega),zq.2 ⟨?_,zq.2 ⟨c5,zq.2 ⟨c6,rfl⟩⟩⟩⟩⟩⟩
 refine mapIdx_of fun i x hx=>?_
 obtain ⟨a1,a2⟩:=h1 x (List.mem_of_getElem? hx)
 refine zq.2 ⟨a1,zq.2 ⟨a2,zq.2 ⟨?_,rfl⟩⟩⟩
 refine if_neg fun k=>?_
 obtain ⟨k1,k2⟩:=k
 obtain ⟨j,rfl⟩:∃ j,i=j+1:=⟨i - 1,by omega⟩
 have hx':L[j+1]?=some x:=hx
 obtain ⟨hi,hxi⟩:=List.getElem?_eq_some_iff.1 hx'
 have hj:L[j+1 - 1]?=some L[j]:=by rw [Nat.add_sub_cancel];exact List.getElem?_eq_getElem (by omega)
 have k2':x.fro≤((L[j+1 - 1]?).getD x).to:=k2
 rw [hj] at k2'
 have hlt:=List.pairwise_iff_getElem.1 hp j (j+1) (by omega) hi (by omega)
 rw [hxi] at hlt
 simp only [leLt] at hlt
 have k3:x.fro≤(L[j]).to:=k2'
 omega
theorem lnL_split {s:Slt} (h:chkSlt s=0) (l:Lea):∃ A B,s.ls=A++B∧lnL s l=A++l::B∧(∀ y ∈ A,y.fro≤l.fro)∧∀ y ∈ B,l.fro < y.fro:=by
 have hp:s.ls.Pairwise (fun a b=>a.fro < b.fro):=(slt_pw h).imp fun {a b} k=>by simp only [leLt] at k;omega
 obtain ⟨A,B,e,hA,hB⟩:=split_at (v:=l.fro) hp
 refine ⟨A,B,e,?_,fun y hy=>by have:=hA y hy;omega,hB⟩
 rw [←len_eq h,e,inR_at (fun y hy=>decide_eq_false (hA y hy)) (fun y hy=>decide_eq_true (hB y hy))]
theorem ln_facts {s:Slt} (h:chkSlt s=0) {l:Lea} (hl:chkLea l=0) (he:lnE s l=0):∃ A B,s.ls=A++B∧lnL s l=A++l::B∧(∀ y ∈ A,leLt y l)∧(∀ y ∈ B,leLt l y)∧leaOf s.raw l=0∧s.ls.length < 8:=by
 obtain ⟨A,B,e,e2,hA,hB⟩:=lnL_split h l
 have h1:=fE0 he (leaOf s.raw l) (by simp)
 have h2:=fE0 he (if meetL s l=true then 15 else 0) (by simp)
 have h3:=fE0 he (if 8≤(s.ls.length:Int) then 5 else 0) (by simp)
 have hm:∀ y ∈ s.ls,¬(y.fro≤l.to∧l.fro≤y.to):=fun y hy k=>by
  have:meetL s l=true:=by rw [meetL,List.any_eq_true];exact ⟨y,hy,by simp [meetB,k.1,k.2]⟩
  rw [if_pos this] at h2;omega
 have h8:s.ls.length < 8:=by
  by_cases k:8≤(s.ls.length:Int)
  ·rw [if_pos k] at h3;omega
  ·omega
 have hll:=chkLea_le hl
 refine ⟨A,B,e,e2,fun y hy=>?_,fun y hy=>?_,h1,h8⟩
 ·have hy':y ∈ s.ls:=by rw [e];exact List.mem_append_left _ hy
  have a1:=hA y hy
  have a2:=hm y hy'
  have a3:=slt_le h hy'
  simp only [leLt];omega
 ·have hy':y ∈ s.ls:=by rw [e];exact List.mem_append_right _ hy
  have a1:=hB y hy
  have a2:=hm y hy'
  have a3:=slt_le h hy'
  simp only [leLt];omega
theorem lnS_valid {s:Slt} (h:chkSlt s=0) {l:Lea} (hl:chkLea l=0) (he:lnE s l=0):chkSlt (lnS s l)=0:=by
 obtain ⟨A,B,e,e2,hA,hB,h1,h8⟩:=ln_facts h hl he
 have hle:∀ x ∈ s.ls,chkLea x=0∧leaOf s.raw x=0:=fun x hx=>by
  obtain ⟨i,hi⟩:=List.mem_iff_getElem?.1 hx
  have:=slt_lea h hi
  exact ⟨fE0 this _ (by simp),fE0 this _ (by simp)⟩
 refine slt_of_ls h (L:=lnL s l) (by rw [lnL_len];omega) (fun x hx=>?_) ?_
 ·rw [e2] at hx
  rcases List.mem_append.1 hx with hx|hx
  ·exact hle x (by rw [e];exact List.mem_append_left _ hx)
  ·rcases List.mem_cons.1 hx with rfl|hx
   ·exact ⟨hl,h1⟩
   ·exact hle x (by rw [e];exact List.mem_append_right _ hx)
 ·have hp:=slt_pw h
  rw [e] at hp
  obtain ⟨p1,p2,p3⟩:=List.pairwise_append.1 hp
  rw [e2]
  refine List.pairwise_append.2 ⟨p1,List.pairwise_cons.2 ⟨hB,p2⟩,fun x hx y hy=>?_⟩
  rcases List.mem_cons.1 hy with rfl|hy
  ·exact hA x hx
  ·exact p3 x hx y hy
theorem ln_parts {b:Bk} {c n:ByteArray} {l:Lea} (h:lnC b c n l=0):ownE b c n (chkLea l)=0∧chkLea l=0∧lnE (zo b n) l=0:=by
 have h1:ownE b c n (chkLea l)=0:=fE0 h _ (by simp)
 exact ⟨h1,own_e h1,fE0 h _ (by simp)⟩
theorem lnB_valid {b:Bk} (h:zG b=0) {c n:ByteArray} {l:Lea} (hc:lnC b c n l=0):zG (lnB b c n l)=0:=by
 obtain ⟨h1,h2,h3⟩:=ln_parts hc
 rw [lnB,if_pos hc]
 exact chg_valid h h1 rfl (lnS_valid (own_valid h h1) h2 h3)
theorem slot_idx {b:Bk} (h:zG b=0) {i:Nat} {s:Slt} (hs:b.slots[i]?=some s):atL s.req.name (b.slots.map (·.req.name))=i:=by
 rw [←idxF_atL (fun x:Slt=>x.req.name)]
 refine idxF_hit (fun y hy=>decide_eq_false fun e=>?_) hs (decide_eq_true rfl)
 have h1:=fE0 (bk_slot h hs) (if 0≤atL s.req.name ((b.slots.take i).map (·.req.name)) then 9 else 0) (by simp)
 have:0≤atL s.req.name ((b.slots.take i).map (·.req.name)):=(atL_iff _ _).2 (List.mem_map.2 ⟨y,hy,e⟩)
 rw [if_pos this] at h1;omega
theorem slot_is {b:Bk} (h:zG b=0) {i:Nat} {s:Slt} (hs:b.slots[i]?=some s):zA b s.req.name=i∧zo b s.req.name=s∧¬atL s.req.name (b.slots.map (·.req.name)) < 0:=by
 have e:=slot_idx h hs
 have e1:zA b s.req.name=i:=by rw [zA,e];rfl
 refine ⟨e1,?_,by rw [e];omega⟩
 rw [zo,e,Int.toNat_natCast,hs];rfl
theorem opr_day {b:Bk} (h:zG b=0) {i:Nat} {s:Slt} (hs:b.slots[i]?=some s) {d:Int} (hd:d ∈ zY s.req.per):oprC b s.req.name d=0∧oprR b s.req.name d=oprY s d:=by
 obtain ⟨e1,e2,e3⟩:=slot_is h hs
 have hp:=zaX (chkReq_0 (bk_req h (List.mem_of_getElem? hs))).1
 have hdm:=daysL_mem hd
 have hE:rOpE b s.req.name d=0:=by
  rw [rOpE,e2]
  exact zq.2 ⟨(fnd_yes e3).1,zq.2 ⟨rng_0.2 ⟨by omega,by omega⟩,zq.2 ⟨if_pos hd,rfl⟩⟩⟩
 rw [(opr_eq h s.req.name d).1,(opr_eq h s.req.name d).2]
 exact ⟨hE,by rw [rOpR,if_pos hE,e2]⟩
def opF (d:Int) (hd:ByteArray) (L:List Lea):ByteArray:=((L.find? (recP d)).map (·.carrier)).getD hd
theorem oprY_f (s:Slt) (d:Int):oprY s d=opF d s.holder s.ls:=by
 have hI:leaI s d=idxF (recP d) s.ls:=rfl
 rw [oprY,hI,opF]
 rcases idxF_spec (p:=recP d) (l:=s.ls) with ⟨h1,h2⟩|⟨k,x,h1,h2,h3,h4⟩
 ·rw [if_pos h1]
  have:s.ls.find? (recP d)=none:=List.find?_eq_none.2 fun x hx=>by rw [h2 x hx];exact Bool.false_ne_true
  rw [this];rfl
 ·rw [h1,if_neg (by omega),Int.toNat_natCast,h2]
  have hk:k < s.ls.length:=(List.getElem?_eq_some_iff.1 h2).1
  have hspl:s.ls=s.ls.take k++x::s.ls.drop (k+1):=by
   have:=List.take_append_drop k s.ls
   rw [List.drop_eq_getElem_cons hk] at this
   have e:s.ls[k]=x:=by rw [List.getElem?_eq_getElem hk] at h2;exact Option.some.inj h2
   rw [e] at this;exact this.symm
  have hn:(s.ls.take k).find? (recP d)=none:=List.find?_eq_none.2 fun y hy=>by rw [h4 y hy];exact Bool.false_ne_true
  have:s.ls.find? (recP d)=some x:=by rw [hspl,List.find?_append,hn,List.find?_cons,h3];rfl
  rw [this];rfl
def wantF (d:Int) (q:ByteArray × Nat) (x:Lea):ByteArray × Nat:=if recP d x=true then (x.carrier,q.2+1) else q
def wantK (d:Int) (hd:ByteArray) (L:List Lea):ByteArray × Nat:=L.foldl (wantF d) (hd,0)
theorem wantK_next {d:Int} {hd:ByteArray} {L:List Lea} {k:Nat} {x:Lea} (h:L[k]?=some x):wantK d hd (L.take (k+1))=wantF d (wantK d hd (L.take k)) x:=by
 rw [zan h,wantK,List.foldl_append];rfl
theorem wantK_le (d:Int) (hd:ByteArray) (L:List Lea):(wantK d hd L).2≤L.length:=by
 have key:∀ (L:List Lea) (q:ByteArray × Nat),(L.foldl (wantF d) q).2≤q.2+L.length:=by
  intro L
  induction L with
  | nil=>intro q;simp
  | cons x r ih=>
   intro q
   have:=ih (wantF d q x)
   rw [List.foldl_cons,List.length_cons]
   have h2:(wantF d q x).2≤q.2+1:=by rw [wantF];split<;>simp
   omega
 have:=key L (hd,0)
 rw [wantK];simpa using this
theorem want_none {d:Int}:∀ {L:List Lea} {q:ByteArray × Nat},(∀ x ∈ L,recP d x=false)→L.foldl (wantF d) q=q
 | [],_,_=>rfl
 | x::r,q,h=>by
  rw [List.foldl_cons,wantF,if_neg (by rw [h x (by simp)];exact Bool.false_ne_true)]
  exact want_none fun y hy=>h y (by simp [hy])
theorem recP_t {d:Int} {x:Lea} (h:recP d x=true):x.fro≤d∧d≤x.to:=by simpa [recP] using h
theorem recP_f {d:Int} {x:Lea} (h:¬(x.fro≤d∧d≤x.to)):recP d x=false:=by
 cases k:recP d x
 ·rfl
 ·exact absurd (recP_t k) h
theorem want_eq {L:List Lea} (hp:L.Pairwise leLt) (d:Int) (hd:ByteArray):(wantK d hd L).1=opF d hd L∧(wantK d hd L).2≤1:=by
 rw [wantK,opF]
 cases hf:L.find? (recP d) with
 | none=>
  rw [want_none fun x hx=>by have:=List.find?_eq_none.1 hf x hx;simpa using this]
  exact ⟨rfl,by simp⟩
 | some x=>
  obtain ⟨hx,A,B,e,hA⟩:=List.find?_eq_some_iff_append.1 hf
  have hdx:=recP_t hx
  rw [e] at hp
  have h5:=(List.pairwise_append.1 hp).2.1
  have hB:∀ y ∈ B,recP d y=false:=fun y hy=>recP_f fun k=>by
   have h6:=List.rel_of_pairwise_cons h5 hy
   simp only [leLt] at h6;omega
  have n1:A.foldl (wantF d) (hd,0)=(hd,0):=want_none fun y hy=>by simpa using hA y hy
  rw [e,List.foldl_append,n1,List.foldl_cons,wantF,if_pos hx,want_none hB]
  exact ⟨rfl,by simp⟩
theorem op_lent {s:Slt} (h:chkSlt s=0) {l:Lea} (hl:chkLea l=0) (he:lnE s l=0) (d:Int):oprY (lnS s l) d=if l.fro≤d∧d≤l.to then l.carrier else oprY s d:=by
 obtain ⟨A,B,e,e2,hA,hB,_,_⟩:=ln_facts h hl he
 have e3:(lnS s l).ls=A++l::B:=e2
 have e4:(lnS s l).holder=s.holder:=rfl
 rw [oprY_f,oprY_f,e3,e4,e,opF,opF,List.find?_append,List.find?_append,List.find?_cons]
 by_cases k:l.fro≤d∧d≤l.to
 ·have hn:A.find? (recP d)=none:=List.find?_eq_none.2 fun y hy=>by
   have:=hA y hy
   simp only [leLt] at this
   rw [recP_f (by omega)];exact Bool.false_ne_true
  have hl':recP d l=true:=by simp [recP,k.1,k.2]
  rw [if_pos k,hn,hl'];rfl
 ·have e5:=recP_f k
  simp only [if_neg k,e5]
theorem opr_lent {b:Bk} (h:zG b=0) {c n:ByteArray} {l:Lea} (hc:lnC b c n l=0) {i:Nat} {s:Slt} (hs:b.slots[i]?=some s) {d:Int} (hd:d ∈ zY s.req.per) :
  oprC (lnB b c n l) s.req.name d=0∧oprR (lnB b c n l) s.req.name d=if s.req.name=n∧l.fro≤d∧d≤l.to then l.carrier else oprY s d:=by
 obtain ⟨h1,h2,h3⟩:=ln_parts hc
 obtain ⟨o1,o2,o3,_⟩:=za8 h1
 have hv:=lnB_valid h hc
 have hB:lnB b c n l=chgB b n (lnS (zo b n) l):=by rw [lnB,if_pos hc]
 by_cases hn:s.req.name=n
 ·subst hn
  obtain ⟨e1,e2,_⟩:=slot_is h hs
  have hlt:=(List.getElem?_eq_some_iff.1 hs).1
  have hs':(lnB b c s.req.name l).slots[i]?=some (lnS s l):=by rw [hB,chgB];simp only [e1,e2];exact List.getElem?_set_self hlt
  have:=opr_day hv hs' (d:=d) hd
  have hnm:(lnS s l).req.name=s.req.name:=rfl
  rw [hnm] at this
  refine ⟨this.1,?_⟩
  rw [e2] at h3
  rw [this.2,op_lent (bk_slt h (List.mem_of_getElem? hs)) h2 h3]
  by_cases k:l.fro≤d∧d≤l.to
  ·rw [if_pos k,if_pos ⟨rfl,k⟩]
  ·rw [if_neg k,if_neg fun q=>k q.2]
 ·have hne:zA b n≠i:=fun k=>hn (by
   rw [k,hs] at o2
   have e:=Option.some.inj o2
   have hi:=slotI_name o1
   rw [k,List.getElem?_map,hs] at hi
   exact Option.some.inj hi)
  have hs':(lnB b c n l).slots[i]?=some s:=by rw [hB,chgB];simp only;rw [List.getElem?_set_ne hne];exact hs
  have:=opr_day hv hs' hd
  exact ⟨this.1,by rw [this.2,if_neg fun q=>hn q.1]⟩
theorem set_same {α:Type} {L:List α} {i:Nat} {x:α} (h:L[i]?=some x):L.set i x=L:=by
 apply List.ext_getElem?
 intro k
 by_cases e:i=k
 ·subst e
  rw [List.getElem?_set_self (List.getElem?_eq_some_iff.1 h).1,h]
 ·rw [List.getElem?_set_ne e]
theorem chg_same {b:Bk} {n:ByteArray} {s':Slt} (hat:¬atL n (b.slots.map (·.req.name)) < 0) (hn:s'.req.name=(zo b n).req.name):(chgB b n s').slots.map (·.req.name)=b.slots.map (·.req.name)∧zA (chgB b n s') n=zA b n∧zo (chgB b n s') n=s':=by
 obtain ⟨h1,h2,h3⟩:=slot_found hat
 have e:(chgB b n s').slots.map (·.req.name)=b.slots.map (·.req.name):=names_set _ _ _ _ h1 hn
 have e2:zA (chgB b n s') n=zA b n:=by rw [zA,e,zA]
 refine ⟨e,e2,?_⟩
 rw [zo,e]
 have:(atL n (b.slots.map (·.req.name))).toNat=zA b n:=rfl
 rw [this,chgB];simp only
 rw [List.getElem?_set_self h3];rfl
theorem chg_chg {b:Bk} {n:ByteArray} {s' t:Slt} (hat:¬atL n (b.slots.map (·.req.name)) < 0) (hn:s'.req.name=(zo b n).req.name):chgB (chgB b n s') n t=chgB b n t:=by
 show (⟨(chgB b n s').slots.set (zA (chgB b n s') n) t,(chgB b n s').wait⟩:Bk)=chgB b n t
 rw [(chg_same hat hn).2.1]
 show (⟨(b.slots.set (zA b n) s').set (zA b n) t,b.wait⟩:Bk)=⟨b.slots.set (zA b n) t,b.wait⟩
 rw [List.set_set]
theorem own_chg {b:Bk} {c n:ByteArray} {e e':Int} {s':Slt} (ho:ownE b c n e=0) (hn:s'.req.name=(zo b n).req.name) (hh:s'.holder=c) (he:e'=0):ownE (chgB b n s') c n e'=0:=by
 obtain ⟨o1,o2,o3,o4⟩:=za8 ho
 obtain ⟨e1,e2,e3⟩:=chg_same o1 hn
 rw [ownE,e3,hh]
 have hf:fndE (chgB b n s').slots n=0:=by rw [fndE,e1,if_neg o1]
 exact zq.2 ⟨fE0 o4 _ (by simp),zq.2 ⟨hf,zq.2 ⟨he,zq.2 ⟨if_pos rfl,rfl⟩⟩⟩⟩
theorem rec_lent {s:Slt} (h:chkSlt s=0) {l:Lea} (hl:chkLea l=0) (he:lnE s l=0):recE (lnS s l) l.fro=0∧recS (lnS s l) l.fro=s:=by
 obtain ⟨A,B,e,e2,hA,hB,_,_⟩:=ln_facts h hl he
 have hll:=chkLea_le hl
 have e3:(lnS s l).ls=A++l::B:=e2
 have hI:recI (lnS s l) l.fro=(A.length:Nat):=by
  have:recI (lnS s l) l.fro=idxF (recP l.fro) (A++l::B):=by rw [←e3];rfl
  rw [this]
  refine idxF_hit (x:=l) (fun y hy=>?_) ?_ ?_
  ·rw [List.take_left'  rfl] at hy
   have:=hA y hy
   simp only [leLt] at this
   exact recP_f (by omega)
  ·rw [List.getElem?_append_right (Nat.le_refl _),Nat.sub_self];rfl
  ·simp [recP,hll]
 have hL:recL (lnS s l) l.fro=s.ls:=by
  rw [recL,hI,Int.toNat_natCast,e3]
  have t1:(A++l::B).take A.length=A:=List.take_left' rfl
  have h1:(A++[l]).length=A.length+1:=by simp
  have h2:A++l::B=(A++[l])++B:=by simp
  have t2:((A++l::B).take (A.length+1)).drop A.length=[l]:=by
   rw [h2,List.take_left' h1,List.drop_left' rfl]
  have t3:(A++l::B).drop (A.length+1)=B:=by
   rw [h2,List.drop_left' h1]
  have t4:cutL (l.fro - 1) [l]=[]:=by
   rw [cutL,List.flatMap_cons,List.flatMap_nil,List.append_nil,cutI,if_neg (by omega)]
  rw [t1,t2,t3,t4,List.nil_append,e]
 refine ⟨by rw [recE,hI,if_neg (by omega)],?_⟩
 rw [recS,hL];rfl
theorem re_lent {b:Bk} (h:zG b=0) {c n:ByteArray} {l:Lea} (hc:lnC b c n l=0):reC (lnB b c n l) c n l.fro=0∧reB (lnB b c n l) c n l.fro=b:=by
 obtain ⟨h1,h2,h3⟩:=ln_parts hc
 obtain ⟨o1,o2,o3,_⟩:=za8 h1
 have hB:lnB b c n l=chgB b n (lnS (zo b n) l):=by rw [lnB,if_pos hc]
 obtain ⟨g1,g2,g3⟩:=chg_same (s':=lnS (zo b n) l) o1 rfl
 obtain ⟨r1,r2⟩:=rec_lent (own_valid h h1) h2 h3
 have hr:rng l.fro 0 99999=0:=fE0 h2 _ (by simp)
 have hO:ownE (chgB b n (lnS (zo b n) l)) c n (rng l.fro 0 99999)=0:=own_chg h1 rfl o3 hr
 have hC:reC (lnB b c n l) c n l.fro=0:=by rw [hB,reC,chgC,g3];exact zq.2 ⟨hO,zq.2 ⟨r1,rfl⟩⟩
 refine ⟨hC,?_⟩
 rw [reB,if_pos hC,hB,g3,r2,chg_chg (s':=lnS (zo b n) l) o1 rfl]
 show (⟨b.slots.set (zA b n) (zo b n),b.wait⟩:Bk)=b
 rw [set_same o2]
end Go.Proofs.YtahmdjadnlpjoaaGreat
