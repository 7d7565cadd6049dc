/- The statement TradeUses of chapter 8 (trade) holds of the given program: each day of a slot has one operator, the carrier of the only lease that contains it, or the holder; a lease that is accepted changes the operator on its days alone, and recalled on its first day it is as before. No conditions. -/
import Derived.ProofKit
import Derived.OpenShut
import Derived.Carry
import Derived.OpenVars
import Derived.HandedShaped
import Derived.KernelRfl
import Derived.Laws.RangeAny
import Derived.Test.YtahmdjadnlpjoaaGreatRows
import Derived.Test.YtahmdjadnlpjoaaGreatU2
set_option linter.all false
set_option maxHeartbeats 8000000
namespace Go.Proofs.YtahmdjadnlpjoaaGreat
open Go.RowKit
set_option maxRecDepth 100000
set_option linter.unusedVariables false
set_option linter.unusedSimpArgs false
set_option maxHeartbeats 8000000
theorem pure1004 (b:Bk) (x:Exc):Pure Tryz.prog 5 [b.pv,x.pv] (.b true):=by
 refine zf (cF Tryz.func5 Tryz.f5.eq_1) (by simp) fun hw X hX=>?_
 by_cases hb:shBk b=true
 ·by_cases hx:narrowB x=true
  ·have hC:=pure1023 b
   by_cases hkb:zG b=0
   ·obtain ⟨hok,hl1,hl2⟩:=sh_ok hb
    rw [hkb] at hC
    have hL:=pure1035 b x.carrier x.slot x.lease (fun _=>hok)
    rw [bkTo_ok hkb lnB_0] at hL
    have hoL:=lnB_ok hok hkb x.carrier x.slot x.lease
    have hOl:lnC b x.carrier x.slot x.lease=0→∀ (i:Nat) (s:Slt) (d:Int),b.slots[i]?=some s→d ∈ zY s.req.per→Pure Tryz.prog 21 [(lnB b x.carrier x.slot x.lease).pv,.s s.req.name,.i .i64 d] (.tup [.s (if s.req.name=x.slot∧x.lease.fro≤d∧d≤x.lease.to then x.lease.carrier else oprY s d),.i .i64 0]):=fun h i s d hs hd=>by
     have h1:=pure1037 (lnB b x.carrier x.slot x.lease) s.req.name d
     obtain ⟨o1,o2⟩:=opr_lent hkb h hs hd
     rw [o1,o2] at h1;exact h1
    have hRl:lnC b x.carrier x.slot x.lease=0→Pure Tryz.prog 48 [(lnB b x.carrier x.slot x.lease).pv,.s x.carrier,.s x.slot,.i .i64 x.lease.fro] (.tup [b.pv,.i .i64 0]):=fun h=>by
     have h1:=pure1038 (lnB b x.carrier x.slot x.lease) x.carrier x.slot x.lease.fro (fun _=>hoL)
     rw [bkTo_ok (lnB_valid hkb h) reB_0,(re_lent hkb h).1,(re_lent hkb h).2] at h1;exact h1
    generalize lnB b x.carrier x.slot x.lease=LB at hL hOl hRl
    generalize lnC b x.carrier x.slot x.lease=e at hL hOl hRl
    have qe:=aI qR (aI @hb (aI @hx (aI @zbb (aI @decide_true (aI @decide_false @Bool.not_true)))));repeat' first|refine gC (fun hc=>?_) (fun hc=>?_)<;>try contradiction|refine za (pure1033 b) ?_|refine zN (fun _=>pure1034 x) ?_|refine zN (fun _=>hC) ?_|refine za (pure1019 b hok) ?_|refine za (hL) ?_|refine gG ?_|show AK _;intro K H|refine H _ _ ?_;clear H K|refine gJ ?_;try exact trivial|omega
    refine zk (κ:=Nat) (fun i=>⟨[(2,.lp 2 0),(3,.lp 3 0),(5,.lp 5 0),(6,.p (.i .i64 e)),(48,.p (.sl 16 (b.slots.map Slt.pv))),(49,.p (.i .i64 b.slots.length)),(50,.p (.i .i64 i))],[(2,.box [.p (.sl 16 (b.slots.map Slt.pv)),.p (.sl 14 (b.wait.map Wsh.pv))] false),(3,.box [.p (.sl 1 (x.slots.map .s)),.p (.s x.carrier),.p (.s x.slot),.p (.s x.to),.p (.s x.lease.carrier),.p (.i .i64 x.lease.fro),.p (.i .i64 x.lease.to),.p (.i .i64 x.day)] false),(5,.box [.p (.sl 16 (LB.slots.map Slt.pv)),.p (.sl 14 (LB.wait.map Wsh.pv))] false)],[],false⟩) (fun i=>i≤b.slots.length) (fun i=>b.slots.length - i) 0 ?_ ?_ ?_
    ·exact sS
    ·simp
    ·intro i hi
     repeat first|refine gG ?_|show AK _;intro K H|refine H _ _ ?_;clear H K|refine gJ ?_;try exact trivial|omega
     (refine gC (fun hc=>?_) (fun hc=>?_)<;>try contradiction)
     ·obtain ⟨s,hs⟩:=zn (i:=i) (l:=b.slots) (by omega)
      have hq:=chkReq_0 (bk_req hkb (List.mem_of_getElem? hs))
      have hsk:=(hok.s s (List.mem_of_getElem? hs)).1
      have hdl:=daysL_len s.req.per
      have hpf:=zaX hq.1
      have qe:=aI qR @hs;repeat' first|refine gC (fun hc=>?_) (fun hc=>?_)<;>try contradiction|refine za (pure67 s.req.per hq.1) ?_|refine gG ?_|show AK _;intro K H|refine H _ _ ?_;clear H K|refine gJ ?_;try exact trivial|omega
      refine zk (κ:=Nat) (fun j=>⟨[(2,.lp 2 0),(3,.lp 3 0),(5,.lp 5 0),(6,.p (.i .i64 e)),(8,.lp 8 0),(48,.p (.sl 16 (b.slots.map Slt.pv))),(49,.p (.i .i64 b.slots.length)),(50,.p (.i .i64 i)),(57,.p (.sl 1 ((zY s.req.per).map (.i .i64)))),(58,.p (.i .i64 (zY s.req.per).length)),(59,.p (.i .i64 j))],[(2,.box [.p (.sl 16 (b.slots.map Slt.pv)),.p (.sl 14 (b.wait.map Wsh.pv))] false),(3,.box [.p (.sl 1 (x.slots.map .s)),.p (.s x.carrier),.p (.s x.slot),.p (.s x.to),.p (.s x.lease.carrier),.p (.i .i64 x.lease.fro),.p (.i .i64 x.lease.to),.p (.i .i64 x.day)] false),(5,.box [.p (.sl 16 (LB.slots.map Slt.pv)),.p (.sl 14 (LB.wait.map Wsh.pv))] false),(8,.box (s.cells.map .p) false)],[],false⟩) (fun j=>j≤(zY s.req.per).length) (fun j=>(zY s.req.per).length - j) 0 ?_ ?_ ?_
      ·exact sS
      ·simp
      ·intro j hj
       repeat first|refine gG ?_|show AK _;intro K H|refine H _ _ ?_;clear H K|refine gJ ?_;try exact trivial|omega
       (refine gC (fun hc=>?_) (fun hc=>?_)<;>try contradiction)
       ·obtain ⟨d,hd⟩:=zn (i:=j) (l:=zY s.req.per) (by omega)
        have hdm:=List.mem_of_getElem? hd
        obtain ⟨o1,o2⟩:=opr_day hkb hs hdm
        obtain ⟨w1,w2⟩:=want_eq (slt_pw (bk_slt hkb (List.mem_of_getElem? hs))) d s.holder
        rw [←oprY_f] at w1
        have hO:=pure1037 b s.req.name d
        rw [o1,o2] at hO
        have qe:=aI qR @hd;repeat' first|refine gC (fun hc=>?_) (fun hc=>?_)<;>try contradiction|refine gG ?_|show AK _;intro K H|refine H _ _ ?_;clear H K|refine gJ ?_;try exact trivial|omega
        refine zk (κ:=Nat) (fun k=>⟨[(2,.lp 2 0),(3,.lp 3 0),(5,.lp 5 0),(6,.p (.i .i64 e)),(8,.lp 8 0),(10,.p (.i .i64 d)),(11,.p (.s (wantK d s.holder (s.ls.take k)).1)),(12,.p (.i .i64 (wantK d s.holder (s.ls.take k)).2)),(48,.p (.sl 16 (b.slots.map Slt.pv))),(49,.p (.i .i64 b.slots.length)),(50,.p (.i .i64 i)),(57,.p (.sl 1 ((zY s.req.per).map (.i .i64)))),(58,.p (.i .i64 (zY s.req.per).length)),(59,.p (.i .i64 j)),(66,.p (.sl 3 (s.ls.map Lea.pv))),(67,.p (.i .i64 s.ls.length)),(68,.p (.i .i64 k))],[(2,.box [.p (.sl 16 (b.slots.map Slt.pv)),.p (.sl 14 (b.wait.map Wsh.pv))] false),(3,.box [.p (.sl 1 (x.slots.map .s)),.p (.s x.carrier),.p (.s x.slot),.p (.s x.to),.p (.s x.lease.carrier),.p (.i .i64 x.lease.fro),.p (.i .i64 x.lease.to),.p (.i .i64 x.day)] false),(5,.box [.p (.sl 16 (LB.slots.map Slt.pv)),.p (.sl 14 (LB.wait.map Wsh.pv))] false),(8,.box (s.cells.map .p) false)],[],false⟩) (fun k=>k≤s.ls.length) (fun k=>s.ls.length - k) 0 ?_ ?_ ?_
        ·refine gJ ?_;simp [wantK]
        ·simp
        ·intro k hk
         have hle:=wantK_le d s.holder (s.ls.take k)
         rw [List.length_take] at hle
         repeat first|refine gG ?_|show AK _;intro K H|refine H _ _ ?_;clear H K|refine gJ ?_;try exact trivial|omega
         (refine gC (fun hc=>?_) (fun hc=>?_)<;>try contradiction)
         ·obtain ⟨z,hz⟩:=zn (i:=k) (l:=s.ls) (by omega)
          have hnx:=wantK_next (d:=d) (hd:=s.holder) hz
          generalize wantK d s.holder (s.ls.take k)=q at hnx hle
          obtain ⟨q1,q2⟩:=q
          simp only at hle
          by_cases h5:z.fro≤d
          ·have h5':=eq_true h5
           by_cases h6:d≤z.to
           ·have h6':=eq_true h6
            rw [wantF,if_pos (by simp [recP,h5,h6])] at hnx
            have qe:=aI qR (aI @hz (aI @h5' (aI @h6' @decide_true)));repeat' first|refine gC (fun hc=>?_) (fun hc=>?_)<;>try contradiction|refine gG ?_|show AK _;intro K H|refine H _ _ ?_;clear H K|refine gJ ?_;try exact trivial|omega
            all_goals exact ⟨k+1,by omega,by omega,⟨by rw [hnx],by rw [hnx];simp,by simp⟩⟩
           ·have h6':=eq_false h6
            rw [wantF,if_neg (by simp [recP,h5,h6])] at hnx
            have qe:=aI qR (aI @hz (aI @h5' (aI @h6' (aI @decide_true @decide_false))));repeat' first|refine gC (fun hc=>?_) (fun hc=>?_)<;>try contradiction|refine gG ?_|show AK _;intro K H|refine H _ _ ?_;clear H K|refine gJ ?_;try exact trivial|omega
            all_goals exact ⟨k+1,by omega,by omega,⟨by rw [hnx],by rw [hnx],by simp⟩⟩
          ·have h5':=eq_false h5
           rw [wantF,if_neg (by simp [recP,h5])] at hnx
           have qe:=aI qR (aI @hz (aI @h5' (aI @decide_true @decide_false)));repeat' first|refine gC (fun hc=>?_) (fun hc=>?_)<;>try contradiction|refine gG ?_|show AK _;intro K H|refine H _ _ ?_;clear H K|refine gJ ?_;try exact trivial|omega
           all_goals exact ⟨k+1,by omega,by omega,⟨by rw [hnx],by rw [hnx],by simp⟩⟩
         ·have ek:k=s.ls.length:=by omega
          subst ek
          rw [List.take_length]
          generalize wantK d s.holder s.ls=q at w1 w2
          obtain ⟨q1,q2⟩:=q
          simp only at w1 w2
          subst w1
          have g1:((1:Int) < (q2:Int))=False:=eq_false (by omega)
          by_cases he:e=0
          ·subst he
           have hP:=hOl rfl i s d hs hdm
           by_cases n1:s.req.name=x.slot
           ·have n1':=eq_true n1
            by_cases f1:x.lease.fro≤d
            ·have f1':=eq_true f1
             by_cases f2:d≤x.lease.to
             ·have f2':=eq_true f2
              rw [if_pos ⟨n1,f1,f2⟩] at hP
              have qe:=aI qR (aI @g1 (aI @n1' (aI @f1' (aI @f2' (aI @zbb (aI @decS_self (aI @decide_true (aI @decide_false @Bool.not_true))))))));repeat' first|refine gC (fun hc=>?_) (fun hc=>?_)<;>try contradiction|refine za (pure1019 b hok) ?_|refine za (hO) ?_|refine za (hP) ?_|refine gG ?_|show AK _;intro K H|refine H _ _ ?_;clear H K|refine gJ ?_;try exact trivial|omega
              all_goals exact ⟨j+1,by omega,by omega,by simp⟩
             ·have f2':=eq_false f2
              rw [if_neg (fun k=>f2 k.2.2)] at hP
              have qe:=aI qR (aI @g1 (aI @n1' (aI @f1' (aI @f2' (aI @zbb (aI @decS_self (aI @decide_true (aI @decide_false @Bool.not_true))))))));repeat' first|refine gC (fun hc=>?_) (fun hc=>?_)<;>try contradiction|refine za (pure1019 b hok) ?_|refine za (hO) ?_|refine za (hP) ?_|refine gG ?_|show AK _;intro K H|refine H _ _ ?_;clear H K|refine gJ ?_;try exact trivial|omega
              all_goals exact ⟨j+1,by omega,by omega,by simp⟩
            ·have f1':=eq_false f1
             rw [if_neg (fun k=>f1 k.2.1)] at hP
             have qe:=aI qR (aI @g1 (aI @n1' (aI @f1' (aI @zbb (aI @decS_self (aI @decide_true (aI @decide_false @Bool.not_true)))))));repeat' first|refine gC (fun hc=>?_) (fun hc=>?_)<;>try contradiction|refine za (pure1019 b hok) ?_|refine za (hO) ?_|refine za (hP) ?_|refine gG ?_|show AK _;intro K H|refine H _ _ ?_;clear H K|refine gJ ?_;try exact trivial|omega
             all_goals exact ⟨j+1,by omega,by omega,by simp⟩
           ·have n1':=eq_false n1
            rw [if_neg (fun k=>n1 k.1)] at hP
            have qe:=aI qR (aI @g1 (aI @n1' (aI @zbb (aI @decS_self (aI @decide_true (aI @decide_false @Bool.not_true))))));repeat' first|refine gC (fun hc=>?_) (fun hc=>?_)<;>try contradiction|refine za (pure1019 b hok) ?_|refine za (hO) ?_|refine za (hP) ?_|refine gG ?_|show AK _;intro K H|refine H _ _ ?_;clear H K|refine gJ ?_;try exact trivial|omega
            all_goals exact ⟨j+1,by omega,by omega,by simp⟩
          ·have he':=eq_false he
           have qe:=aI qR (aI @g1 (aI @he' (aI @zbb (aI @decS_self (aI @decide_true (aI @decide_false (aI @Bool.not_true @Bool.not_false)))))));repeat' first|refine gC (fun hc=>?_) (fun hc=>?_)<;>try contradiction|refine za (pure1019 b hok) ?_|refine za (hO) ?_|refine gG ?_|show AK _;intro K H|refine H _ _ ?_;clear H K|refine gJ ?_;try exact trivial|omega
           all_goals exact ⟨j+1,by omega,by omega,by simp⟩
       ·have qe:=@qR;repeat' first|refine gC (fun hc=>?_) (fun hc=>?_)<;>try contradiction|refine gG ?_|show AK _;intro K H|refine H _ _ ?_;clear H K|refine gJ ?_;try exact trivial|omega
        all_goals exact ⟨i+1,by omega,by omega,by simp⟩
     ·by_cases he:e=0
      ·subst he
       have hR:=hRl rfl
       have qe:=aI qR (aI @zbb (aI @decide_true @Bool.not_true));repeat' first|refine gC (fun hc=>?_) (fun hc=>?_)<;>try contradiction|refine za (hR) ?_|refine zN (fun _=>pure1040 b hok) ?_|refine zN (fun _=>pure1039 b) ?_|refine zN (fun _=>pure1017) ?_|refine gG ?_|show AK _;intro K H|refine H _ _ ?_;clear H K|refine gJ ?_;try exact trivial|omega
       all_goals exact .refl _
      ·have he':=eq_false he
       have qe:=aI qR (aI @he' (aI @decide_false @Bool.not_false));repeat' first|refine gC (fun hc=>?_) (fun hc=>?_)<;>try contradiction|refine za (pure1017) ?_|refine gG ?_|show AK _;intro K H|refine H _ _ ?_;clear H K|refine gJ ?_;try exact trivial|omega
       all_goals exact .refl _
   ·have hkb':=eq_false hkb
    have qe:=aI qR (aI @hb (aI @hx (aI @hkb' (aI @decide_true (aI @decide_false (aI @Bool.not_true @Bool.not_false))))));repeat' first|refine gC (fun hc=>?_) (fun hc=>?_)<;>try contradiction|refine za (pure1033 b) ?_|refine zN (fun _=>pure1034 x) ?_|refine zN (fun _=>hC) ?_|refine za (pure1017) ?_|refine gG ?_|show AK _;intro K H|refine H _ _ ?_;clear H K|refine gJ ?_;try exact trivial|omega
    all_goals exact .refl _
  ·have hx':narrowB x=false:=by simpa using hx
   have qe:=aI qR (aI @hb (aI @hx' (aI @Bool.not_true @Bool.not_false)));repeat' first|refine gC (fun hc=>?_) (fun hc=>?_)<;>try contradiction|refine za (pure1033 b) ?_|refine zN (fun _=>pure1034 x) ?_|(show zj _ _ _ _ (⟨_,.call 22,_,_,_⟩::_) _ _;refine run_callF (q:=.i .i64 0) (by first|rfl|(simp (disch:=omega) only [qG,qe,Nat.reduceAdd,Nat.reduceMul,Nat.reduceEqDiff,Nat.reduceLeDiff,reduceIte,reduceCtorEq,Nat.reduceBEq,Nat.reduceLT]<;>rfl)) ?_;(try (refine zE ?_)))|refine za (pure1017) ?_|refine gG ?_|show AK _;intro K H|refine H _ _ ?_;clear H K|refine gJ ?_;try exact trivial|omega
   all_goals exact .refl _
 ·have hb':shBk b=false:=by simpa using hb
  have qe:=aI qR (aI @hb' @Bool.not_false);repeat' first|refine gC (fun hc=>?_) (fun hc=>?_)<;>try contradiction|refine za (pure1033 b) ?_|refine zN (fun _=>pure1034 x) ?_|(show zj _ _ _ _ (⟨_,.call 22,_,_,_⟩::_) _ _;refine run_callF (q:=.i .i64 0) (by first|rfl|(simp (disch:=omega) only [qG,qe,Nat.reduceAdd,Nat.reduceMul,Nat.reduceEqDiff,Nat.reduceLeDiff,reduceIte,reduceCtorEq,Nat.reduceBEq,Nat.reduceLT]<;>rfl)) ?_;(try (refine zE ?_)))|refine za (pure1017) ?_|refine gG ?_|show AK _;intro K H|refine H _ _ ?_;clear H K|refine gJ ?_;try exact trivial|omega
  all_goals exact .refl _
end Go.Proofs.YtahmdjadnlpjoaaGreat
namespace Go.Proofs.YtahmdjadnlpjoaaGreat
open Go.RowKit Go.ChangeShapes Go.WideShapes Go.ChangeAt
set_option maxRecDepth 100000
set_option linter.unusedVariables false
set_option linter.unusedSimpArgs false
set_option maxHeartbeats 4000000
theorem lifted1004 (os:Os) (started:os.Started) (H:Type) (enc:TypeId × Value→H):ReturnsInHanded {} Tryz.checked os 5 .any (Rows.tradeUsesSpec.pre6 enc Tryz.prog Tryz.f5 Rows.tradeUsesRow.domain false) (Rows.tradeUsesSpec.post enc Tryz.prog Tryz.f5 false true false false):=by
 refine returnsInHanded_of_change_shaped (C:=Tryz.checked) own started (by kernel_rfl) Tryz.func5
  (ChangeSpec.witness6 (enc:=enc) (C:=Tryz.checked) false ⟨#[],#[.agg #[.slice none 0 0,.slice none 0 0],.agg #[.slice none 0 0,zs,zs,zs,zs,zi,zi,zi]],[]⟩ 8 (by kernel_rfl) (by kernel_rfl) (by kernel_rfl) (by kernel_rfl)) ?_
 intro W base args ds gs before hval hW _ hsz _ _
 refine law_contract (C:=Tryz.checked) (n:=6) (tb:=4) laid (by kernel_rfl) rfl (fun H ds hd=>?_) (by kernel_rfl) und4 (by kernel_rfl) (fun ps hps=>?_) W base args ds gs before hval hW hsz
 ·match ds,hd with
  | [_,_],_=>rfl
 ·match ps,hps with
  | [a0,a1],⟨h0,h1,_⟩=>
   obtain ⟨b,rfl⟩:=fit_bk h0
   obtain ⟨x,rfl⟩:=fit_exc h1
   exact pure1004 b x
theorem e1_1004:(Rows.tradeUsesRow.inPlace == Tryz.prog.inPlace 5)=true:=by kernel_rfl
theorem e2_1004:(Rows.tradeUsesRow.unfollowed == Tryz.prog.unfollowed 5)=true:=by kernel_rfl
theorem e3_1004:(Rows.tradeUsesRow.recurses == Tryz.prog.recurses 5)=true:=by kernel_rfl
theorem e4_1004:(Rows.tradeUsesRow.named == Tryz.prog.varsNamed 5)=true:=by kernel_rfl
theorem e5_1004:Tryz.checked.prog.funcNamed Rows.tradeUsesRow.func=some 5:=by kernel_rfl
theorem e6_1004:joinedFacts Tryz.prog 5 Tryz.f5 Rows.tradeUsesSpec Rows.tradeUsesRow=true:=
 joined_of (by as_aux_lemma=>kernel_rfl) laid rowed (by as_aux_lemma=>kernel_rfl) e1_1004 e2_1004 e3_1004 e4_1004 (by as_aux_lemma=>kernel_rfl) (by as_aux_lemma=>kernel_rfl) (by as_aux_lemma=>kernel_rfl) (by as_aux_lemma=>kernel_rfl) (by as_aux_lemma=>kernel_rfl)
theorem e7_1004:Tryz.f5.isInstance Tryz.prog Rows.tradeUsesRow.origin Rows.tradeUsesRow.targs:=of_decide_eq_true (by kernel_rfl)
theorem e8_1004:Tryz.f5.isWrapper Tryz.prog Rows.tradeUsesRow.wrapper Rows.tradeUsesRow.mainSum:=by
 unfold Func.isWrapper;first|(rw [if_pos (by decide +kernel)];kernel_rfl)|(rw [if_neg (by decide +kernel)];exact ⟨rfl,rfl⟩)
theorem uses_over:Rows.tradeUsesRow.holds Tryz.pinned (OpenSpec.ofChange Rows.tradeUsesSpec):=
 OpenClaim.holds_of_wide 5 Tryz.f5 rfl rfl rfl rfl rfl rfl rfl ⟨rfl,rfl,rfl,rfl,rfl⟩ rfl rfl rfl rfl rfl e5_1004 Tryz.func5 e6_1004 e7_1004 e8_1004
  (fun os started H enc _=>lifted1004 os started H enc)
theorem uses_proved:Rows.TradeUsesSaid:=uses_over
end Go.Proofs.YtahmdjadnlpjoaaGreat
