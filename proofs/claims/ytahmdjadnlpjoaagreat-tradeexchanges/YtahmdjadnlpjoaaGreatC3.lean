/- The statement TradeExchanges of chapter 8 (trade) holds of the given program: Swap, Ring and Transfer return the books or the errors of the reference. No conditions. -/
import Derived.ProofKit
import Derived.OpenShut
import Derived.Carry
import Derived.OpenVars
import Derived.HandedShaped
import Derived.KernelRfl
import Derived.Laws.RangeAny
import Derived.Test.YtahmdjadnlpjoaaGreatRows
import Derived.Test.YtahmdjadnlpjoaaGreatC2
set_option linter.all false
set_option maxHeartbeats 8000000
namespace Go.Proofs.YtahmdjadnlpjoaaGreat
open Go.RowKit
set_option maxRecDepth 100000
set_option linter.unusedVariables false
set_option linter.unusedSimpArgs false
set_option maxHeartbeats 8000000
theorem ahead_no {a b:Wsh}:aheadB a b=false↔cmpW b a≤0:=by
 rw [aheadB,cmpW]
 rcases Int.lt_trichotomy a.rank b.rank with k|k|k
 ·have e:cmpI b.rank a.rank=1:=by rw [cmpI,if_neg (by omega),if_pos k]
  rw [e,za2 (by omega),decide_eq_true k,Bool.true_or]
  exact ⟨fun h=>(by cases h),fun h=>(by omega)⟩
 ·have e:cmpI b.rank a.rank=0:=by rw [cmpI,if_neg (by omega),if_neg (by omega)]
  have k1:¬a.rank < b.rank:=by omega
  rw [za3 e,fE_one,decide_eq_false k1,decide_eq_true k,Bool.false_or,Bool.true_and]
  constructor
  ·intro h
   by_cases q:a.req.name=b.req.name
   ·rw [(cmpS_0 _ _).2 q.symm];omega
   ·have h2:Op.bytesLess b.req.name.toList a.req.name.toList=true:=by
     by_cases r:Op.bytesLess b.req.name.toList a.req.name.toList=true
     ·exact r
     ·exact absurd (ba_tri h (by simpa using r)) q
    have:=(cmpS_l _ _).2 h2;omega
  ·intro h
   cases q:Op.bytesLess a.req.name.toList b.req.name.toList
   ·rfl
   ·exfalso
    rcases Int.lt_or_eq_of_le h with h|h
    ·have h1:=(cmpS_l _ _).1 h
     rw [bl_asym _ _ q] at h1;cases h1
    ·have h1:=(cmpS_0 _ _).1 h
     rw [h1,less_irr] at q;cases q
 ·have e:cmpI b.rank a.rank=-1:=if_pos k
  have k1:¬a.rank < b.rank:=by omega
  have k2:¬a.rank=b.rank:=by omega
  rw [e,za2 (by omega),decide_eq_false k1,decide_eq_false k2,Bool.false_or,Bool.false_and]
  exact ⟨fun _=>by omega,fun _=>rfl⟩
theorem pure1023 (b:Bk):Pure Tryz.prog 22 [b.pv] (.i .i64 (zG b)):=by
 refine zf (cF Tryz.func22 Tryz.f22.eq_1) (by simp) fun hw X hX=>?_
 by_cases h64:(64:Int) < b.slots.length
 ·have e:zG b=5:=by rw [zG,if_pos h64,za2 (by omega)]
  have h64':=eq_true h64
  rw [e]
  have qe:=aI qR (aI @h64' @decide_true);repeat' first|refine gC (fun hc=>?_) (fun hc=>?_)<;>try contradiction|refine gG ?_|show AK _;intro K H|refine H _ _ ?_;clear H K|refine gJ ?_;try exact trivial|omega
  all_goals exact .refl _
 have h64':=eq_false h64
 have hE:zG b=zg [zg (b.slots.mapIdx (sltErr b)),if 64 < (b.wait.length:Int) then 5 else 0,zg (b.wait.mapIdx (wshErr b))]:=by rw [zG,if_neg h64,za3 rfl]
 have qe:=aI qR (aI @h64' @decide_false);repeat' first|refine gC (fun hc=>?_) (fun hc=>?_)<;>try contradiction|refine gG ?_|show AK _;intro K H|refine H _ _ ?_;clear H K|refine gJ ?_;try exact trivial|omega
 refine zk (κ:=Nat) (fun i=>⟨[(1,.lp 1 0),(3,.p (.i .i64 i))],[(1,.box [.p (.sl 16 (b.slots.map Slt.pv)),.p (.sl 14 (b.wait.map Wsh.pv))] false)],[],false⟩) (fun i=>i≤b.slots.length∧∀ x ∈ (b.slots.mapIdx (sltErr b)).take i,x=0) (fun i=>b.slots.length - i) 0 ?_ ?_ ?_
 ·exact sS
 ·simp
 ·intro i hi
  repeat first|refine gG ?_|show AK _;intro K H|refine H _ _ ?_;clear H K|refine gJ ?_;try exact trivial|omega
  (refine gC (fun hc=>?_) (fun hc=>?_)<;>try contradiction)
  ·obtain ⟨s,hs⟩:=zn (i:=i) (l:=b.slots) (by omega)
   have e9:((9:Int)=0)=False:=eq_false (by omega)
   by_cases c1:chkSlt s=0
   ·have c1':=eq_true c1
    by_cases c2:0≤atL s.req.name ((b.slots.take i).map (·.req.name))
    ·have c2':=eq_true c2
     have hv:sltErr b i s=9:=by rw [sltErr,za3 c1,fE_one,if_pos c2]
     have e:zG b=9:=by rw [hE,zV hi.2 (zI hs) (by rw [hv];decide),hv,za2 (by omega)]
     rw [e]
     have qe:=aI qR (aI @hs (aI @take_map (aI @c1' (aI @c2' (aI @e9 (aI @decide_true @decide_false))))));repeat' first|refine gC (fun hc=>?_) (fun hc=>?_)<;>try contradiction|refine za (pure1092 s) ?_|refine zN (fun _=>pure1071 (b.slots.take i) s.req.name) ?_|refine gG ?_|show AK _;intro K H|refine H _ _ ?_;clear H K|refine gJ ?_;try exact trivial|omega
     all_goals exact .refl _
    ·have c2':=eq_false c2
     have hv:sltErr b i s=0:=by rw [sltErr,za3 c1,fE_one,if_neg c2]
     have qe:=aI qR (aI @hs (aI @take_map (aI @c1' (aI @c2' (aI @decide_true @decide_false)))));repeat' first|refine gC (fun hc=>?_) (fun hc=>?_)<;>try contradiction|refine za (pure1092 s) ?_|refine zN (fun _=>pure1071 (b.slots.take i) s.req.name) ?_|refine gG ?_|show AK _;intro K H|refine H _ _ ?_;clear H K|refine gJ ?_;try exact trivial|omega
     all_goals exact ⟨i+1,⟨by omega,zaC hi.2 (zI hs) hv⟩,by omega,by simp⟩
   ·have c1':=eq_false c1
    have hv:sltErr b i s=chkSlt s:=by rw [sltErr,za2 c1]
    have e:zG b=chkSlt s:=by rw [hE,zV hi.2 (zI hs) (by rw [hv];exact c1),hv,za2 c1]
    rw [e]
    have qe:=aI qR (aI @hs (aI @take_map (aI @c1' @decide_false)));repeat' first|refine gC (fun hc=>?_) (fun hc=>?_)<;>try contradiction|refine za (pure1092 s) ?_|refine zN (fun _=>pure1071 (b.slots.take i) s.req.name) ?_|refine gG ?_|show AK _;intro K H|refine H _ _ ?_;clear H K|refine gJ ?_;try exact trivial|omega
    all_goals exact .refl _
  ·have ei:i=(b.slots.mapIdx (sltErr b)).length:=by simp;omega
   have hA:zg (b.slots.mapIdx (sltErr b))=0:=by subst ei;exact z4 hi.2
   rw [za3 hA] at hE
   by_cases h65:(64:Int) < b.wait.length
   ·have e:zG b=5:=by rw [hE,if_pos h65,za2 (by omega)]
    have h65':=eq_true h65
    rw [e]
    have qe:=aI qR (aI @h65' @decide_true);repeat' first|refine gC (fun hc=>?_) (fun hc=>?_)<;>try contradiction|refine gG ?_|show AK _;intro K H|refine H _ _ ?_;clear H K|refine gJ ?_;try exact trivial|omega
    all_goals exact .refl _
   have h65':=eq_false h65
   rw [if_neg h65,za3 rfl,fE_one] at hE
   have qe:=aI qR (aI @h65' @decide_false);repeat' first|refine gC (fun hc=>?_) (fun hc=>?_)<;>try contradiction|refine gG ?_|show AK _;intro K H|refine H _ _ ?_;clear H K|refine gJ ?_;try exact trivial|omega
   refine zk (κ:=Nat) (fun i=>⟨[(1,.lp 1 0),(5,.p (.i .i64 i))],[(1,.box [.p (.sl 16 (b.slots.map Slt.pv)),.p (.sl 14 (b.wait.map Wsh.pv))] false)],[],false⟩) (fun i=>i≤b.wait.length∧∀ x ∈ (b.wait.mapIdx (wshErr b)).take i,x=0) (fun i=>b.wait.length - i) 0 ?_ ?_ ?_
   ·exact sS
   ·simp
   ·clear hi ei
    intro i hi
    repeat first|refine gG ?_|show AK _;intro K H|refine H _ _ ?_;clear H K|refine gJ ?_;try exact trivial|omega
    (refine gC (fun hc=>?_) (fun hc=>?_)<;>try contradiction)
    ·obtain ⟨w,hx⟩:=zn (i:=i) (l:=b.wait) (by omega)
     have e9:((9:Int)=0)=False:=eq_false (by omega)
     have e11:((11:Int)=0)=False:=eq_false (by omega)
     have hr:∀ e,wshErr b i w=e→e≠0→zG b=e:=fun e hv he=>by rw [hE,zV hi.2 (zI hx) (by rw [hv];exact he),hv]
     have hn9:∀ q:0≤atL w.req.name (b.slots.map (·.req.name))∨0≤atL w.req.name ((b.wait.take i).map (·.req.name)),0≤atL w.req.name (b.slots.map (·.req.name)++(b.wait.take i).map (·.req.name)):=fun q=>(atL_iff _ _).2 (by
      rcases q with q|q
      ·exact List.mem_append_left _ ((atL_iff _ _).1 q)
      ·exact List.mem_append_right _ ((atL_iff _ _).1 q))
     by_cases d1:chkWsh w=0
     ·have d1':=eq_true d1
      by_cases d2:0≤atL w.req.name (b.slots.map (·.req.name))
      ·have d2':=eq_true d2
       rw [hr 9 (by rw [wshErr,za3 d1,if_pos (hn9 (.inl d2)),za2 (by omega)]) (by omega)]
       have qe:=aI qR (aI @hx (aI @take_map (aI @d1' (aI @d2' (aI @e9 (aI @decide_true @decide_false))))));repeat' first|refine gC (fun hc=>?_) (fun hc=>?_)<;>try contradiction|refine za (pure1045 w) ?_|refine zN (fun _=>pure1071 b.slots w.req.name) ?_|refine zN (fun _=>pure1046 (b.wait.take i) w.req.name) ?_|(show zj _ _ _ _ (⟨_,.call 95,_,_,_⟩::_) _ _;refine run_callF (q:=.b false) (by first|rfl|(simp (disch:=omega) only [qG,qe,Nat.reduceAdd,Nat.reduceMul,Nat.reduceEqDiff,Nat.reduceLeDiff,reduceIte,reduceCtorEq,Nat.reduceBEq,Nat.reduceLT]<;>rfl)) ?_;(try (refine zE ?_)))|refine gG ?_|show AK _;intro K H|refine H _ _ ?_;clear H K|refine gJ ?_;try exact trivial|omega
       all_goals exact .refl _
      have d2':=eq_false d2
      by_cases d3:0≤atL w.req.name ((b.wait.take i).map (·.req.name))
      ·have d3':=eq_true d3
       rw [hr 9 (by rw [wshErr,za3 d1,if_pos (hn9 (.inr d3)),za2 (by omega)]) (by omega)]
       have qe:=aI qR (aI @hx (aI @take_map (aI @d1' (aI @d2' (aI @d3' (aI @e9 (aI @decide_true @decide_false)))))));repeat' first|refine gC (fun hc=>?_) (fun hc=>?_)<;>try contradiction|refine za (pure1045 w) ?_|refine zN (fun _=>pure1071 b.slots w.req.name) ?_|refine zN (fun _=>pure1046 (b.wait.take i) w.req.name) ?_|(show zj _ _ _ _ (⟨_,.call 95,_,_,_⟩::_) _ _;refine run_callF (q:=.b false) (by first|rfl|(simp (disch:=omega) only [qG,qe,Nat.reduceAdd,Nat.reduceMul,Nat.reduceEqDiff,Nat.reduceLeDiff,reduceIte,reduceCtorEq,Nat.reduceBEq,Nat.reduceLT]<;>rfl)) ?_;(try (refine zE ?_)))|refine gG ?_|show AK _;intro K H|refine H _ _ ?_;clear H K|refine gJ ?_;try exact trivial|omega
       all_goals exact .refl _
      have d3':=eq_false d3
      have hno:¬0≤atL w.req.name (b.slots.map (·.req.name)++(b.wait.take i).map (·.req.name)):=fun q=>by
       rcases List.mem_append.1 ((atL_iff _ _).1 q) with q|q
       ·exact d2 ((atL_iff _ _).2 q)
       ·exact d3 ((atL_iff _ _).2 q)
      by_cases d4:0 < (i:Int)
      ·have d4':=eq_true d4
       obtain ⟨p,hp⟩:=zn (i:=i - 1) (l:=b.wait) (by omega)
       have e1:((i:Int) - 1).toNat=i - 1:=by omega
       cases d5:aheadB p w with
       | true=>
        have hc5:¬cmpW w p≤0:=fun q=>by rw [ahead_no.2 q] at d5;cases d5
        have hv:wshErr b i w=0:=by rw [wshErr,za3 d1,if_neg hno,za3 rfl,fE_one,hp];exact if_neg fun q=>hc5 q.2
        have qe:=aI qR (aI @hx (aI @hp (aI @e1 (aI @take_map (aI @d1' (aI @d2' (aI @d3' (aI @d4' (aI @d5 (aI @decide_true (aI @decide_false @Bool.not_true)))))))))));repeat' first|refine gC (fun hc=>?_) (fun hc=>?_)<;>try contradiction|refine za (pure1045 w) ?_|refine zN (fun _=>pure1071 b.slots w.req.name) ?_|refine zN (fun _=>pure1046 (b.wait.take i) w.req.name) ?_|refine zN (fun _=>pure1093 p w) ?_|refine gG ?_|show AK _;intro K H|refine H _ _ ?_;clear H K|refine gJ ?_;try exact trivial|omega
        all_goals exact ⟨i+1,⟨by omega,zaC hi.2 (zI hx) hv⟩,by omega,by simp⟩
       | false=>
        rw [hr 11 (by rw [wshErr,za3 d1,if_neg hno,za3 rfl,fE_one,hp];exact if_pos ⟨d4,ahead_no.1 d5⟩) (by omega)]
        have qe:=aI qR (aI @hx (aI @hp (aI @e1 (aI @take_map (aI @d1' (aI @d2' (aI @d3' (aI @d4' (aI @d5 (aI @e11 (aI @decide_true (aI @decide_false @Bool.not_false))))))))))));repeat' first|refine gC (fun hc=>?_) (fun hc=>?_)<;>try contradiction|refine za (pure1045 w) ?_|refine zN (fun _=>pure1071 b.slots w.req.name) ?_|refine zN (fun _=>pure1046 (b.wait.take i) w.req.name) ?_|refine zN (fun _=>pure1093 p w) ?_|refine gG ?_|show AK _;intro K H|refine H _ _ ?_;clear H K|refine gJ ?_;try exact trivial|omega
        all_goals exact .refl _
      ·have d4':=eq_false d4
       have hv:wshErr b i w=0:=by rw [wshErr,za3 d1,if_neg hno,za3 rfl,fE_one];exact if_neg fun q=>d4 q.1
       have qe:=aI qR (aI @hx (aI @take_map (aI @d1' (aI @d2' (aI @d3' (aI @d4' (aI @decide_true @decide_false)))))));repeat' first|refine gC (fun hc=>?_) (fun hc=>?_)<;>try contradiction|refine za (pure1045 w) ?_|refine zN (fun _=>pure1071 b.slots w.req.name) ?_|refine zN (fun _=>pure1046 (b.wait.take i) w.req.name) ?_|(show zj _ _ _ _ (⟨_,.call 95,_,_,_⟩::_) _ _;refine run_callF (q:=.b false) (by first|rfl|(simp (disch:=omega) only [qG,qe,Nat.reduceAdd,Nat.reduceMul,Nat.reduceEqDiff,Nat.reduceLeDiff,reduceIte,reduceCtorEq,Nat.reduceBEq,Nat.reduceLT]<;>rfl)) ?_;(try (refine zE ?_)))|refine gG ?_|show AK _;intro K H|refine H _ _ ?_;clear H K|refine gJ ?_;try exact trivial|omega
       all_goals exact ⟨i+1,⟨by omega,zaC hi.2 (zI hx) hv⟩,by omega,by simp⟩
     ·have d1':=eq_false d1
      rw [hr (chkWsh w) (by rw [wshErr,za2 d1]) d1]
      have qe:=aI qR (aI @hx (aI @take_map (aI @d1' @decide_false)));repeat' first|refine gC (fun hc=>?_) (fun hc=>?_)<;>try contradiction|refine za (pure1045 w) ?_|refine zN (fun _=>pure1071 b.slots w.req.name) ?_|refine zN (fun _=>pure1046 (b.wait.take i) w.req.name) ?_|(show zj _ _ _ _ (⟨_,.call 95,_,_,_⟩::_) _ _;refine run_callF (q:=.b false) (by first|rfl|(simp (disch:=omega) only [qG,qe,Nat.reduceAdd,Nat.reduceMul,Nat.reduceEqDiff,Nat.reduceLeDiff,reduceIte,reduceCtorEq,Nat.reduceBEq,Nat.reduceLT]<;>rfl)) ?_;(try (refine zE ?_)))|refine gG ?_|show AK _;intro K H|refine H _ _ ?_;clear H K|refine gJ ?_;try exact trivial|omega
      all_goals exact .refl _
    ·have ei:i=(b.wait.mapIdx (wshErr b)).length:=by simp;omega
     have hZ:zg (b.wait.mapIdx (wshErr b))=0:=by subst ei;exact z4 hi.2
     rw [hE,hZ]
     have qe:=@qR;repeat' first|refine gC (fun hc=>?_) (fun hc=>?_)<;>try contradiction|refine gG ?_|show AK _;intro K H|refine H _ _ ?_;clear H K|refine gJ ?_;try exact trivial|omega
     all_goals exact .refl _
set_option maxRecDepth 100000
set_option linter.unusedVariables false
set_option linter.unusedSimpArgs false
set_option maxHeartbeats 8000000
theorem sl_sh {s:Slt} (h:shSl s=true):s.ls.length≤9∧s.sh.length≤5∧shortB s.req=true:=by
 simp only [shSl,Bool.and_eq_true,Bool.not_eq_true',bigS,Bool.or_eq_false_iff,Bool.and_eq_false_iff,decide_eq_false_iff_not,Bool.not_eq_false',decide_eq_true_eq] at h
 obtain ⟨⟨⟨⟨h1,_⟩,h2⟩,h3⟩,_⟩:=h
 exact ⟨by omega,by omega,h1⟩
theorem sh_ok {b:Bk} (h:shBk b=true):BkOk b∧b.slots.length≤65∧b.wait.length≤65:=by
 simp only [shBk,Bool.and_eq_true,Bool.not_eq_true',bigB,Bool.or_eq_false_iff,Bool.and_eq_false_iff,decide_eq_false_iff_not,Bool.not_eq_false',decide_eq_true_eq,List.all_eq_true] at h
 obtain ⟨⟨h1,h2⟩,h3,_⟩:=h
 exact ⟨⟨fun s hs=>by have:=sl_sh (h3 s hs);exact ⟨by omega,by omega⟩,by omega,by omega⟩,by omega,by omega⟩
end Go.Proofs.YtahmdjadnlpjoaaGreat
namespace Go.Proofs.YtahmdjadnlpjoaaGreat
open Go.RowKit Go.ChangeShapes Go.WideShapes Go.ChangeAt
set_option maxRecDepth 100000
set_option linter.unusedVariables false
set_option linter.unusedSimpArgs false
set_option maxHeartbeats 4000000
theorem list_of {α:Type} {f:α→PV}:∀ {xs:List PV},(∀ x ∈ xs,∃ a,x=f a)→∃ L:List α,xs=L.map f
 | [],_=>⟨[],rfl⟩
 | x::r,h=>by
  obtain ⟨a,rfl⟩:=h x (by simp)
  obtain ⟨L,rfl⟩:=list_of (xs:=r) fun y hy=>h y (by simp [hy])
  exact ⟨a::L,rfl⟩
def leaT:List CP:=[.s,jT,jT]
def sltT:List CP:=[.s,.s,.s,.s,.s,.s,jT,jT,jT,jT,jT,jT,jT,.s,.sl true leaT,.sl false [.s]]
def wshT:List CP:=[.s,.s,.s,.s,.s,.s,jT,jT,jT,jT,jT,jT,jT,jT]
theorem lea_of {n:Nat} {l:List PV} (h:FitAll (Fit n) leaT l):∃ L:Lea,.agg l=L.pv:=by
 cases n<;>(match l,h with
  | [_,_,_],⟨⟨a,ha⟩,⟨b,hb⟩,⟨c,hc⟩,_⟩=>subst ha hb hc;exact ⟨⟨a,b,c⟩,rfl⟩)
theorem leas_of {n:Nat} {p:PV} (h:Fit (n+1) (.sl true leaT) p):∃ L:List Lea,p=.sl 3 (L.map Lea.pv):=by
 obtain ⟨xs,rfl,hx⟩:=h
 obtain ⟨L,rfl⟩:=list_of (f:=Lea.pv) (xs:=xs) fun x h=>by
  obtain ⟨l,rfl,hf⟩:=hx x h
  exact lea_of hf
 exact ⟨L,rfl⟩
theorem strs_of {n:Nat} {p:PV} (h:Fit (n+1) (.sl false [.s]) p):∃ L:List ByteArray,p=.sl 1 (L.map .s):=by
 obtain ⟨xs,rfl,hx⟩:=h
 obtain ⟨L,rfl⟩:=list_of (f:=PV.s) (xs:=xs) fun x h=>by
  obtain ⟨l,rfl,hf⟩:=hx x h
  match l,hf with
  | [_],⟨h1,_⟩=>
   cases n<;>(obtain ⟨a,rfl⟩:=h1;exact ⟨a,rfl⟩)
 exact ⟨L,rfl⟩
theorem slt_of {n:Nat} {l:List PV} (h:FitAll (Fit (n+1)) sltT l):∃ s:Slt,.agg l=s.pv:=by
 match l,h with
 | [_,_,_,_,_,_,_,_,_,_,_,_,_,_,_,_],⟨⟨a,ha⟩,⟨b,hb⟩,⟨c,hc⟩,⟨d,hd⟩,⟨e,he⟩,⟨f,hf⟩,⟨g,hg⟩,⟨i,hi⟩,⟨j,hj⟩,⟨k,hk⟩,⟨m,hm⟩,⟨o,ho⟩,⟨q,hq⟩,⟨r,hr⟩,h1,h2,_⟩=>
  subst ha hb hc hd he hf hg hi hj hk hm ho hq hr
  obtain ⟨L,rfl⟩:=leas_of h1
  obtain ⟨S,rfl⟩:=strs_of h2
  exact ⟨⟨⟨a,b,c,d,e,f,⟨g,i,j⟩,k,m,o,q⟩,r,L,S⟩,rfl⟩
theorem wsh_of {n:Nat} {l:List PV} (h:FitAll (Fit n) wshT l):∃ w:Wsh,.agg l=w.pv:=by
 cases n<;>(match l,h with
  | [_,_,_,_,_,_,_,_,_,_,_,_,_,_],⟨⟨a,ha⟩,⟨b,hb⟩,⟨c,hc⟩,⟨d,hd⟩,⟨e,he⟩,⟨f,hf⟩,⟨g,hg⟩,⟨i,hi⟩,⟨j,hj⟩,⟨k,hk⟩,⟨m,hm⟩,⟨o,ho⟩,⟨q,hq⟩,⟨r,hr⟩,_⟩=>
   subst ha hb hc hd he hf hg hi hj hk hm ho hq hr
   exact ⟨⟨⟨a,b,c,d,e,f,⟨g,i,j⟩,k,m,o,q⟩,r⟩,rfl⟩)
theorem parB:parP Tryz.prog 6 25=some (true,[.sl true sltT,.sl true wshT]):=by kernel_rfl
theorem fit_bk {p:PV} (h:FitPar Tryz.prog 6 25 p):∃ b:Bk,p=b.pv:=by
 obtain ⟨⟨ag,c,l,hp,rfl,hl⟩,hb⟩:=h
 rw [parB] at hp
 simp only [Option.some.injEq,Prod.mk.injEq] at hp
 obtain ⟨rfl,rfl⟩:=hp
 match l,hl with
 | [_,_],⟨⟨xs,rfl,hx⟩,⟨ys,rfl,hy⟩,_⟩=>
  obtain ⟨L,rfl⟩:=list_of (f:=Slt.pv) (xs:=xs) fun x h=>by
   obtain ⟨l,rfl,hf⟩:=hx x h
   exact slt_of hf
  obtain ⟨W,rfl⟩:=list_of (f:=Wsh.pv) (xs:=ys) fun x h=>by
   obtain ⟨l,rfl,hf⟩:=hy x h
   exact wsh_of hf
  exact ⟨⟨L,W⟩,rfl⟩
end Go.Proofs.YtahmdjadnlpjoaaGreat
namespace Go.Proofs.YtahmdjadnlpjoaaGreat
open Go.RowKit
set_option maxRecDepth 100000
set_option linter.unusedVariables false
set_option linter.unusedSimpArgs false
set_option maxHeartbeats 8000000
theorem pure1030 (B W:Bk) (e:Int) (hB:BkOk B) (h0:e=0→W=B) (h1:e≠0→B=bk0):Pure Tryz.prog 42 [B.pv,.i .i64 e,W.pv,.i .i64 e] (.b true):=by
 refine zf (cF Tryz.func42 Tryz.f42.eq_1) (by simp) fun hw X hX=>?_
 by_cases h:e=0
 ·have h':=eq_true h
  rw [h0 h]
  have qe:=aI qR (aI @h' (aI @zbb (aI @decide_true @Bool.not_true)));repeat' first|refine gC (fun hc=>?_) (fun hc=>?_)<;>try contradiction|refine za (pure1040 B hB) ?_|refine za (pure1039 B) ?_|refine gG ?_|show AK _;intro K H|refine H _ _ ?_;clear H K|refine gJ ?_;try exact trivial|omega
  all_goals exact .refl _
 ·have h':=eq_false h
  have hs:Pure Tryz.prog 49 [bk0.pv,.agg [.nilsl,.nilsl]] (.b true):=pure_in (pure1039 bk0) ⟨.refl _,.agg ⟨.nilsl _,.nilsl _,trivial⟩,trivial⟩
  have hb:=h1 h
  subst hb
  have qe:=aI qR (aI @h' (aI @zbb (aI @decide_true (aI @decide_false @Bool.not_false))));repeat' first|refine gC (fun hc=>?_) (fun hc=>?_)<;>try contradiction|refine za (pure1040 bk0 hB) ?_|refine za (hs) ?_|refine gG ?_|show AK _;intro K H|refine H _ _ ?_;clear H K|refine gJ ?_;try exact trivial|omega
  all_goals exact .refl _
theorem bk0_ok:BkOk bk0:=⟨fun s h=>(by cases h),by simp [bk0],by simp [bk0]⟩
theorem chg_ok {b:Bk} {n:ByteArray} {s:Slt} (hb:BkOk b) (hs:SlOk s):BkOk (chgB b n s):=by
 refine ⟨fun x hx=>?_,by simpa [chgB] using hb.n,hb.w⟩
 rcases List.mem_or_eq_of_mem_set hx with h|rfl
 ·exact hb.s x h
 ·exact hs
theorem sof_ok {b:Bk} {n:ByteArray} (hb:BkOk b):SlOk (zo b n):=by
 rw [zo]
 cases h:b.slots[(atL n (b.slots.map (·.req.name))).toNat]? with
 | none=>exact ⟨by simp,by simp⟩
 | some s=>exact hb.s s (List.mem_of_getElem? h)
theorem pas_ok {b:Bk} (hb:BkOk b) (N:List ByteArray):∀ k,BkOk ⟨passT b N k,b.wait⟩
 | 0=>hb
 | k+1=>by
  have ih:=pas_ok hb N k
  refine ⟨fun x hx=>?_,by simpa [passT] using ih.n,hb.w⟩
  rcases List.mem_or_eq_of_mem_set hx with h|rfl
  ·exact ih.s x h
  ·exact ⟨(sof_ok hb).1,by simp [trS]⟩
theorem pasB_ok {b:Bk} (hb:BkOk b) (N:List ByteArray):BkOk (passB b N):=by
 rw [passB];split
 ·exact pas_ok hb N _
 ·exact bk0_ok
theorem swp_ok {b:Bk} (hb:BkOk b) (o t:ByteArray):BkOk (swpB b o t):=by
 rw [swpB];split
 ·exact pasB_ok hb _
 ·exact bk0_ok
theorem rng_ok {b:Bk} (hb:BkOk b) (N:List ByteArray):BkOk (ringB b N):=by
 rw [ringB];split
 ·exact pasB_ok hb _
 ·exact bk0_ok
theorem trB_ok {b:Bk} (hb:BkOk b) (c n to:ByteArray):BkOk (trB b c n to):=by
 rw [trB];split
 ·exact chg_ok hb ⟨(sof_ok hb).1,by simp [trS]⟩
 ·exact bk0_ok
set_option maxRecDepth 100000
set_option linter.unusedVariables false
set_option linter.unusedSimpArgs false
set_option maxHeartbeats 8000000
theorem nar_n {x:Exc} (h:narrowB x=true):x.slots.length≤10:=by
 simp only [narrowB,Bool.and_eq_true,Bool.not_eq_true',bigX,Bool.or_eq_false_iff,decide_eq_false_iff_not] at h
 omega
theorem pure1009 (b:Bk) (x:Exc):Pure Tryz.prog 10 [b.pv,x.pv] (.b true):=by
 refine zf (cF Tryz.func10 Tryz.f10.eq_1) (by simp) fun hw X hX=>?_
 by_cases hb:shBk b=true
 ·by_cases hx:narrowB x=true
  ·have hn:=nar_n hx
   obtain ⟨hok,hl1,hl2⟩:=sh_ok hb
   have h59:=pure1059 x (by omega)
   generalize nthW x.slots 0=i at h59
   generalize nthW x.slots 1=k at h59
   have hA:=eq_true (allSt x.slots)
   have hS:=pure1060 b i k (fun _=>hok)
   have hR:=pure1061 b x.slots (fun _=>hok) (by omega)
   have hT:=pure1062 b x.carrier x.slot x.to (fun _=>hok)
   have hC:=pure1023 b
   by_cases hc:zG b=0
   ·rw [bkTo_ok hc swpB_0] at hS
    rw [bkTo_ok hc ringB_0] at hR
    rw [bkTo_ok hc trB_0] at hT
    rw [hc] at hC
    have s1:=pure1030 (swpB b i k) (swpB b i k) (swpC b i k) (swp_ok hok i k) (fun _=>rfl) swpB_0
    have s2:=pure1030 (ringB b x.slots) (ringB b x.slots) (ringC b x.slots) (rng_ok hok _) (fun _=>rfl) ringB_0
    have s3:=pure1030 (trB b x.carrier x.slot x.to) (trB b x.carrier x.slot x.to) (trC b x.carrier x.slot x.to) (trB_ok hok _ _ _) (fun _=>rfl) trB_0
    have qe:=aI qR (aI @hb (aI @hx (aI @hA (aI @zaf (aI @zbb (aI @decide_true @Bool.not_true))))));repeat' first|refine gC (fun hc=>?_) (fun hc=>?_)<;>try contradiction|refine za (pure1033 b) ?_|refine zN (fun _=>pure1034 x) ?_|refine za (h59) ?_|refine za (pure1019 b hok) ?_|refine za (hS) ?_|refine zam (hR) ?_|refine za (hT) ?_|refine za (hC) ?_|refine za (pure1063 b i k hok) ?_|refine za (pure1064 b x.slots hok (by omega)) ?_|refine za (pure1065 b x.carrier x.slot x.to hok) ?_|refine za (s1) ?_|refine zN (fun _=>s2) ?_|refine zN (fun _=>s3) ?_|refine zN (fun _=>pure1017) ?_|refine gG ?_|show AK _;intro K H|refine H _ _ ?_;clear H K|refine gJ ?_;try exact trivial|omega
    all_goals exact .refl _
   ·have e:∀ y e,BkTo b y e=(bk0,zG b):=fun y e=>if_neg hc
    have hc':=eq_false hc
    rw [e] at hS hR hT
    have s0:Pure Tryz.prog 42 [bk0.pv,.i .i64 (zG b),.agg [.nilsl,.nilsl],.i .i64 (zG b)] (.b true):=pure_in (pure1030 bk0 bk0 (zG b) bk0_ok (fun _=>rfl) (fun _=>rfl)) ⟨.refl _,.refl _,.agg ⟨.nilsl _,.nilsl _,trivial⟩,.refl _,trivial⟩
    have qe:=aI qR (aI @hb (aI @hx (aI @hA (aI @zaf (aI @hc' (aI @decide_true (aI @decide_false @Bool.not_true)))))));repeat' first|refine gC (fun hc=>?_) (fun hc=>?_)<;>try contradiction|refine za (pure1033 b) ?_|refine zN (fun _=>pure1034 x) ?_|refine za (h59) ?_|refine za (pure1019 b hok) ?_|refine za (hS) ?_|refine zam (hR) ?_|refine za (hT) ?_|refine za (hC) ?_|refine za (s0) ?_|refine zN (fun _=>s0) ?_|refine zN (fun _=>pure1017) ?_|refine gG ?_|show AK _;intro K H|refine H _ _ ?_;clear H K|refine gJ ?_;try exact trivial|omega
    all_goals exact .refl _
  ·have hx':narrowB x=false:=by simpa using hx
   have qe:=aI qR (aI @hb (aI @hx' (aI @Bool.not_true @Bool.not_false)));repeat' first|refine gC (fun hc=>?_) (fun hc=>?_)<;>try contradiction|refine za (pure1033 b) ?_|refine zN (fun _=>pure1034 x) ?_|refine za (pure1017) ?_|refine gG ?_|show AK _;intro K H|refine H _ _ ?_;clear H K|refine gJ ?_;try exact trivial|omega
   all_goals exact .refl _
 ·have hb':shBk b=false:=by simpa using hb
  have qe:=aI qR (aI @hb' @Bool.not_false);repeat' first|refine gC (fun hc=>?_) (fun hc=>?_)<;>try contradiction|refine za (pure1033 b) ?_|refine zN (fun _=>pure1034 x) ?_|refine za (pure1017) ?_|refine gG ?_|show AK _;intro K H|refine H _ _ ?_;clear H K|refine gJ ?_;try exact trivial|omega
  all_goals exact .refl _
end Go.Proofs.YtahmdjadnlpjoaaGreat
namespace Go.Proofs.YtahmdjadnlpjoaaGreat
open Go.RowKit Go.ChangeShapes Go.WideShapes Go.ChangeAt
set_option maxRecDepth 100000
set_option linter.unusedVariables false
set_option linter.unusedSimpArgs false
set_option maxHeartbeats 4000000
theorem parX:parP Tryz.prog 6 99=some (true,[.sl false [.s],.s,.s,.s,.s,jT,jT,jT]):=by kernel_rfl
theorem fit_exc {p:PV} (h:FitPar Tryz.prog 6 99 p):∃ x:Exc,p=x.pv:=by
 obtain ⟨⟨ag,c,l,hp,rfl,hl⟩,hb⟩:=h
 rw [parX] at hp
 simp only [Option.some.injEq,Prod.mk.injEq] at hp
 obtain ⟨rfl,rfl⟩:=hp
 match l,hl with
 | [_,_,_,_,_,_,_,_],⟨h1,⟨a,ha⟩,⟨b,hb⟩,⟨c,hc⟩,⟨d,hd⟩,⟨e,he⟩,⟨f,hf⟩,⟨g,hg⟩,_⟩=>
  subst ha hb hc hd he hf hg
  obtain ⟨S,rfl⟩:=strs_of h1
  exact ⟨⟨S,a,b,c,⟨d,e,f⟩,g⟩,rfl⟩
theorem lifted1009 (os:Os) (started:os.Started) (H:Type) (enc:TypeId × Value→H):ReturnsInHanded {} Tryz.checked os 10 .any (Rows.tradeExchangesSpec.pre6 enc Tryz.prog Tryz.f10 Rows.tradeExchangesRow.domain false) (Rows.tradeExchangesSpec.post enc Tryz.prog Tryz.f10 false true false false):=by
 refine returnsInHanded_of_change_shaped (C:=Tryz.checked) own started (by kernel_rfl) Tryz.func10
  (ChangeSpec.witness6 (enc:=enc) (C:=Tryz.checked) false ⟨#[],#[.agg #[.slice none 0 0,.slice none 0 0],.agg #[.slice none 0 0,zs,zs,zs,zs,zi,zi,zi]],[]⟩ 8 (by kernel_rfl) (by kernel_rfl) (by kernel_rfl) (by kernel_rfl)) ?_
 intro W base args ds gs before hval hW _ hsz _ _
 refine law_contract (C:=Tryz.checked) (n:=6) (tb:=4) laid (by kernel_rfl) rfl (fun H ds hd=>?_) (by kernel_rfl) und4 (by kernel_rfl) (fun ps hps=>?_) W base args ds gs before hval hW hsz
 ·match ds,hd with
  | [_,_],_=>rfl
 ·match ps,hps with
  | [a0,a1],⟨h0,h1,_⟩=>
   obtain ⟨b,rfl⟩:=fit_bk h0
   obtain ⟨x,rfl⟩:=fit_exc h1
   exact pure1009 b x
theorem e1_1009:(Rows.tradeExchangesRow.inPlace == Tryz.prog.inPlace 10)=true:=by kernel_rfl
theorem e2_1009:(Rows.tradeExchangesRow.unfollowed == Tryz.prog.unfollowed 10)=true:=by kernel_rfl
theorem e3_1009:(Rows.tradeExchangesRow.recurses == Tryz.prog.recurses 10)=true:=by kernel_rfl
theorem e4_1009:(Rows.tradeExchangesRow.named == Tryz.prog.varsNamed 10)=true:=by kernel_rfl
theorem e5_1009:Tryz.checked.prog.funcNamed Rows.tradeExchangesRow.func=some 10:=by kernel_rfl
theorem e6_1009:joinedFacts Tryz.prog 10 Tryz.f10 Rows.tradeExchangesSpec Rows.tradeExchangesRow=true:=
 joined_of (by as_aux_lemma=>kernel_rfl) laid rowed (by as_aux_lemma=>kernel_rfl) e1_1009 e2_1009 e3_1009 e4_1009 (by as_aux_lemma=>kernel_rfl) (by as_aux_lemma=>kernel_rfl) (by as_aux_lemma=>kernel_rfl) (by as_aux_lemma=>kernel_rfl) (by as_aux_lemma=>kernel_rfl)
theorem e7_1009:Tryz.f10.isInstance Tryz.prog Rows.tradeExchangesRow.origin Rows.tradeExchangesRow.targs:=of_decide_eq_true (by kernel_rfl)
theorem e8_1009:Tryz.f10.isWrapper Tryz.prog Rows.tradeExchangesRow.wrapper Rows.tradeExchangesRow.mainSum:=by
 unfold Func.isWrapper;first|(rw [if_pos (by decide +kernel)];kernel_rfl)|(rw [if_neg (by decide +kernel)];exact ⟨rfl,rfl⟩)
theorem exchanges_over:Rows.tradeExchangesRow.holds Tryz.pinned (OpenSpec.ofChange Rows.tradeExchangesSpec):=
 OpenClaim.holds_of_wide 10 Tryz.f10 rfl rfl rfl rfl rfl rfl rfl ⟨rfl,rfl,rfl,rfl,rfl⟩ rfl rfl rfl rfl rfl e5_1009 Tryz.func10 e6_1009 e7_1009 e8_1009
  (fun os started H enc _=>lifted1009 os started H enc)
theorem exchanges_proved:Rows.TradeExchangesSaid:=exchanges_over
end Go.Proofs.YtahmdjadnlpjoaaGreat
