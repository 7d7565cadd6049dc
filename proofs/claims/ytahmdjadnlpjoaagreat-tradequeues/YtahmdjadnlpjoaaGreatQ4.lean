/- The statement TradeQueues of chapter 8 (trade) holds of the given program: wishes that were put on the list in any order are in one order; after Serve no wish fits, and serving again changes nothing; a wish that still waits is refused, in a window that is full and that it would be in; and the names that were served keep the order of the list. No conditions. -/
import Derived.ProofKit
import Derived.OpenShut
import Derived.Carry
import Derived.OpenVars
import Derived.HandedShaped
import Derived.KernelRfl
import Derived.Laws.RangeAny
import Derived.Test.YtahmdjadnlpjoaaGreatRows
import Derived.Test.YtahmdjadnlpjoaaGreatQ3
set_option linter.all false
set_option maxHeartbeats 8000000
namespace Go.Proofs.YtahmdjadnlpjoaaGreat
open Go.RowKit
set_option maxRecDepth 100000
set_option linter.unusedVariables false
set_option linter.unusedSimpArgs false
set_option maxHeartbeats 8000000
theorem yb4 (l:List Lim) (b:Bk) (hn:l.length*112≤140737488355328):Pure Tryz.prog 7 [.sl 11 (l.map Lim.pv),b.pv] (.b true):=by
 refine zf (cF Tryz.func7 Tryz.f7.eq_1) (by simp) fun hw X hX=>?_
 have h15:=yb3 l b hn
 have h26:=yaQ l hn
 have h21:=yb2 l hn
 have h23:=pure23 l
 have hC:=yaR b
 by_cases hs:(yG l 3 && ybi b)=true
 ·rw [hs] at h15
  rw [Bool.and_eq_true] at hs
  obtain ⟨hok,hl1,hl2⟩:=sh_ok hs.2
  by_cases hkl:z3 l=0
  ·rw [hkl] at h23
   by_cases hkb:zG b=0
   ·rw [hkb] at hC
    obtain ⟨hf1,hf2⟩:=sh_few hs.2 hkb
    have hlb:lbE l b=0:=zq.2 ⟨hkl,zq.2 ⟨hkb,rfl⟩⟩
    have hV:=pure1020 l b (fun _=>hok)
    have v1:ServB l b=srvB l b:=if_pos hlb
    have v2:ServW l b=srvW l b:=if_pos hlb
    rw [v1,v2,hlb] at hV
    have hvS:=ybn (l:=l) hkb
    have hlS:lbE l (srvB l b)=0:=zq.2 ⟨hkl,zq.2 ⟨hvS,rfl⟩⟩
    have hSl:=srvK_len (l:=l) (b:=b) (Nat.le_refl b.wait.length)
    have hNl:(srvW l b).length=(srvK l b b.wait.length).Q.length:=by rw [srvW,List.length_map]
    have s1:(srvB l b).slots.length=b.slots.length+(srvW l b).length:=by rw [hNl];simp [srvB]
    have s2:(srvB l b).wait.length+(srvW l b).length=b.wait.length:=by rw [hNl];simp only [srvB];omega
    have hfull:=ybS hkl hkb (by omega)
    obtain ⟨g1,g2⟩:=ybp hvS hfull
    have hA:=pure1020 l (srvB l b) (fun _=>yaG hvS)
    have v3:ServB l (srvB l b)=srvB l b:=(if_pos hlS).trans g1
    have v4:ServW l (srvB l b)=[]:=(if_pos hlS).trans g2
    rw [v3,v4,hlS] at hA
    obtain ⟨m1,m2,m3⟩:=yaE hvS
    have hM:=pure1043 (srvB l b)
    rw [m1,hvS] at hM
    have hR:=pure1022 l (srvB l b)
    have v5:refL l (srvB l b)=(srvB l b).wait.flatMap (refW l (srvB l b)):=if_pos hlS
    rw [v5,hlS] at hR
    have hwq:∀ w ∈ (srvB l b).wait,chkReq w.req=0:=fun w hw=>(yaH hkl hkb b.wait.length (Nat.le_refl _) w hw).1
    obtain ⟨r1,r2⟩:=ya1 (f:=refW l (srvB l b)) (W:=(srvB l b).wait) (P:=fun w r=>∃ (i:Nat) (lm:Lim),r.name=w.req.name∧r.lim=i∧l[i]?=some lm∧r.mom ∈ yb lm∧lm.most≤zbs lm (mvS (srvB l b).slots) r.mom∧(movsL w.req).any (inW lm r.mom)=true) fun w hw=>by
     obtain ⟨x,i,lm,e1,e2,e3,e4,e5⟩:=ycz hkl hvS (hwq w hw) (hfull w hw)
     exact ⟨_,e1,i,lm,rfl,rfl,e2,e3,e4,e5⟩
    have hC2:=yaR (srvB l b)
    rw [hvS] at hC2
    have hso:=yaG hvS
    have hNf:∀ (i:Nat) (n:ByteArray),(srvW l b)[i]?=some n→∃ (j:Nat) (w:Wsh),atL n (b.wait.map (·.req.name))=j∧b.wait[j]?=some w∧(srvB l b).slots[((b.slots.length:Int)+(i:Int)).toNat]?=some ⟨w.req,w.req.carrier,[],[]⟩:=fun i n hi=>by
     rw [srvW,List.getElem?_map] at hi
     cases hq:(srvK l b b.wait.length).Q[i]? with
     | none=>rw [hq] at hi;cases hi
     | some q=>
      rw [hq] at hi
      have en:q.name=n:=Option.some.inj hi
      obtain ⟨j,w,a1,a2,a3⟩:=srv_at hkb hq
      refine ⟨j,w,by rw [←en];exact a1,a2,?_⟩
      rw [show ((b.slots.length:Int)+(i:Int)).toNat=b.slots.length+i by omega,srvB]
      simp only
      rw [List.getElem?_append_right (by omega),Nat.add_sub_cancel_left,List.getElem?_map,hq,a3];rfl
    have hlt:∀ (i:Nat) (n:ByteArray),(srvW l b)[i]?=some n→yH (b.wait.map (·.req.name)) (srvW l b) i < atL n (b.wait.map (·.req.name)):=fun i n hi=>
     yby (ybT hkb) (fun x hx=>(ya _ _).2 ((yaI l b).subset hx)) hi
    generalize (srvB l b).wait.flatMap (refW l (srvB l b))=R at hR r1 r2
    generalize srvB l b=S at *
    generalize srvW l b=N at *
    obtain ⟨wv,wv0,wv1⟩:∃ wv:Nat→PV,wv b.wait.length=.nilsl∧∀ i,i < b.wait.length→wv i=.sl 14 ((b.wait.drop i).map Wsh.pv):=
     ⟨fun i=>if i=b.wait.length then .nilsl else .sl 14 ((b.wait.drop i).map Wsh.pv),if_pos rfl,fun i hi=>if_neg (by omega)⟩
    have wvk:∀ i,i≤b.wait.length→Wk (wv i) (.sl 14 ((b.wait.drop i).map Wsh.pv)):=fun i hi=>by
     by_cases q:i=b.wait.length
     ·rw [q,wv0,List.drop_eq_nil_of_le (Nat.le_refl _)];exact .nilsl _
     ·rw [wv1 i (by omega)];exact .refl _
    have qe:=aI qR (aI @zbb (aI @decide_true (aI @decide_false @Bool.not_true)));repeat' first|refine gC (fun hc=>?_) (fun hc=>?_)<;>try contradiction|refine za (h15) ?_|refine zN (fun _=>h26) ?_|refine zN (fun _=>h23) ?_|refine zN (fun _=>hC) ?_|refine za (yaS b hok) ?_|refine gG ?_|show AK _;intro K H|refine H _ _ ?_;clear H K|refine gJ ?_;try exact trivial|omega
    refine zk (κ:=Nat) (fun i=>⟨[(0,.p (.sl 11 (l.map Lim.pv))),(3,.lp 3 0),(5,.lp 5 0),(6,.p (.i .i64 ((i:Int) - 1)))],[(3,.box [.p (.sl 16 (b.slots.map Slt.pv)),.p (.sl 14 (b.wait.map Wsh.pv))] false),(5,.box [.p (.sl 16 (b.slots.map Slt.pv)),.p (wv i)] false)],[],false⟩) (fun i=>i≤b.wait.length) (fun i=>i) b.wait.length ?_ ?_ ?_
    ·rw [wv0];simp only [qS,Nat.reduceAdd,Nat.reduceMul,Nat.reduceEqDiff,Nat.reduceLeDiff,reduceIte,reduceCtorEq,Nat.reduceBEq,Nat.reduceLT]<;>simp
    ·exact Nat.le_refl _
    ·intro i hi
     cases i with
     | succ j=>
      have ej:(((j+1:Nat):Int) - 1)=(j:Int):=by omega
      rw [ej]
      obtain ⟨w,hw2⟩:=zn (i:=j) (l:=b.wait) (by omega)
      obtain ⟨q1,q2⟩:=ybm hkb hw2
      have hW:Pure Tryz.prog 32 [.agg [.sl 16 (b.slots.map Slt.pv),wv (j+1)],w.pv] (.tup [(⟨b.slots,b.wait.drop j⟩:Bk).pv,.i .i64 0]):=by
       have h18:=ybv ⟨b.slots,b.wait.drop (j+1)⟩ w (fun _=>⟨hok.s,hok.n,by have:=hok.w;simp only [List.length_drop];omega⟩) (fun _=>by simp only [List.length_drop];omega)
       rw [ycf (yF hkb _),ya7 (yF hkb _),q1,q2] at h18
       exact pure_in h18 ⟨.agg ⟨.refl _,wvk _ hi,trivial⟩,.refl _,trivial⟩
      have ge:((0:Int)≤(j:Int))=True:=eq_true (by omega)
      have qe:=aI qR (aI @hw2 (aI @ge @decide_true));repeat' first|refine gC (fun hc=>?_) (fun hc=>?_)<;>try contradiction|refine za (hW) ?_|refine gG ?_|show AK _;intro K H|refine H _ _ ?_;clear H K|refine gJ ?_;try exact trivial|omega
      all_goals exact ⟨j,by omega,by omega,by rw [wv1 j (by omega)];simp⟩
     | zero=>
      have ge:((0:Int)≤((0:Nat):Int) - 1)=False:=eq_false (by omega)
      have h40:Pure Tryz.prog 50 [.agg [.sl 16 (b.slots.map Slt.pv),wv 0]] b.pv:=pure_in (y7 b hok) ⟨.agg ⟨.refl _,wvk 0 (Nat.zero_le _),trivial⟩,trivial⟩
      have ls1:=eq_true (show (S.slots.length:Int)=b.slots.length+N.length by omega)
      have ls2:=eq_true (show (S.wait.length:Int)+N.length=b.wait.length by omega)
      have qe:=aI qR (aI @ge (aI @ls1 (aI @ls2 (aI @zbb (aI @decide_true (aI @decide_false @Bool.not_true))))));repeat' first|refine gC (fun hc=>?_) (fun hc=>?_)<;>try contradiction|refine za (h21) ?_|refine za (yaS b hok) ?_|refine za (hV) ?_|refine za (h40) ?_|refine za (yaP b) ?_|refine zN (fun _=>y7 S hso) ?_|refine zN (fun _=>hC2) ?_|refine gG ?_|show AK _;intro K H|refine H _ _ ?_;clear H K|refine gJ ?_;try exact trivial|omega
      refine zk (κ:=Nat) (fun i=>⟨[(0,.p (.sl 11 (l.map Lim.pv))),(3,.lp 3 0),(9,.lp 9 0),(12,.p (.i .i64 (yH (b.wait.map (·.req.name)) N i))),(119,.p (.sl 1 (N.map .s))),(120,.p (.i .i64 N.length)),(121,.p (.i .i64 i))],[(3,.box [.p (.sl 16 (b.slots.map Slt.pv)),.p (.sl 14 (b.wait.map Wsh.pv))] false),(9,.box [.p (.sl 16 (S.slots.map Slt.pv)),.p (.sl 14 (S.wait.map Wsh.pv))] false)],[],false⟩) (fun i=>i≤N.length) (fun i=>N.length - i) 0 ?_ ?_ ?_
      ·refine gJ ?_;simp [yH]
      ·simp
      ·intro i hi
       repeat first|refine gG ?_|show AK _;intro K H|refine H _ _ ?_;clear H K|refine gJ ?_;try exact trivial|omega
       (refine gC (fun hc=>?_) (fun hc=>?_)<;>try contradiction)
       ·obtain ⟨n,hN2⟩:=zn (i:=i) (l:=N) (by omega)
        obtain ⟨j,w,a1,a2,a3⟩:=hNf i n hN2
        have a4:=hlt i n hN2
        have a5:=yP (W:=b.wait.map (·.req.name)) hN2
        have h46:=yg b.wait n
        rw [a1] at h46 a4 a5
        have a6:=eq_false (show ¬((j:Int)≤yH (b.wait.map (·.req.name)) N i) by omega)
        have a7:=(List.getElem?_eq_some_iff.1 a2).1
        have qe:=aI qR (aI @hN2 (aI @a2 (aI @a3 (aI @a6 (aI @zbb (aI @yao (aI @decide_true (aI @decide_false (aI @Bool.and_self @Bool.not_true)))))))));repeat' first|refine gC (fun hc=>?_) (fun hc=>?_)<;>try contradiction|refine za (h46) ?_|refine gG ?_|show AK _;intro K H|refine H _ _ ?_;clear H K|refine gJ ?_;try exact trivial|omega
        all_goals exact ⟨i+1,by omega,by omega,⟨by rw [a5],by simp⟩⟩
       ·have rl:=eq_true (show (R.length:Int)=S.wait.length by omega)
        have qe:=aI qR (aI @rl (aI @zbb (aI @decide_true (aI @decide_false @Bool.not_true))));repeat' first|refine gC (fun hc=>?_) (fun hc=>?_)<;>try contradiction|refine za (h21) ?_|refine za (hA) ?_|refine za (hR) ?_|refine za (hM) ?_|refine zN (fun _=>y7 S hso) ?_|refine zN (fun _=>yaP S) ?_|refine gG ?_|show AK _;intro K H|refine H _ _ ?_;clear H K|refine gJ ?_;try exact trivial|omega
        refine zk (κ:=Nat) (fun i=>⟨[(0,.p (.sl 11 (l.map Lim.pv))),(9,.lp 9 0),(21,.p (.sl 7 ((mvS S.slots).map Mov.pv))),(225,.p (.sl 3 (R.map Rfs.pv))),(226,.p (.i .i64 R.length)),(227,.p (.i .i64 i))],[(9,.box [.p (.sl 16 (S.slots.map Slt.pv)),.p (.sl 14 (S.wait.map Wsh.pv))] false)],[],false⟩) (fun i=>i≤R.length) (fun i=>R.length - i) 0 ?_ ?_ ?_
        ·exact sS
        ·simp
        ·intro i hi
         repeat first|refine gG ?_|show AK _;intro K H|refine H _ _ ?_;clear H K|refine gJ ?_;try exact trivial|omega
         (refine gC (fun hc=>?_) (fun hc=>?_)<;>try contradiction)
         ·obtain ⟨w,hw2⟩:=zn (i:=i) (l:=S.wait) (by omega)
          obtain ⟨r,hr,k,lm,f1,f2,f3,f4,f5,f6⟩:=r2 i w hw2
          obtain ⟨rn,rl2,rm⟩:=r
          simp only at f1 f2 f4 f5 f6
          subst f1 f2
          have hwm:=List.mem_of_getElem? hw2
          have hlm:=(chkLims_0 hkl).2 lm (List.mem_of_getElem? f3)
          have kl:=(List.getElem?_eq_some_iff.1 f3).1
          have h51:=pure51 l (mvS S.slots) w.req
          have hfc:fitC l (mvS S.slots) w.req=0:=zq.2 ⟨ybL hkl m2,zq.2 ⟨hwq w hwm,rfl⟩⟩
          rw [hfull w hwm,hfc] at h51
          have h29:=pure29 lm (mvS S.slots) rm
          obtain ⟨c1,c2⟩:=cnt_is hlm m2 f4
          rw [c1,c2] at h29
          have h49:=yb0 lm rm w.req (hwq w hwm) hlm (by have:=yj hlm f4;omega) (by have:=yj hlm f4;omega)
          rw [f6] at h49
          have n1:=eq_false (show ¬((k:Int) < 0) by omega)
          have n2:=eq_false (show ¬((l.length:Int)≤(k:Int)) by omega)
          have n3:=eq_false (show ¬(zbs lm (mvS S.slots) rm < lm.most) by omega)
          have qe:=aI qR (aI @hr (aI @hw2 (aI @f3 (aI @n1 (aI @n2 (aI @n3 (aI @zbb (aI @yao (aI @decide_true (aI @decide_false (aI @Bool.and_self @Bool.not_true)))))))))));repeat' first|refine gC (fun hc=>?_) (fun hc=>?_)<;>try contradiction|refine za (h21) ?_|refine za (h51) ?_|refine za (h29) ?_|refine zN (fun _=>h49) ?_|refine gG ?_|show AK _;intro K H|refine H _ _ ?_;clear H K|refine gJ ?_;try exact trivial|omega
          all_goals exact ⟨i+1,by omega,by omega,by simp⟩
         ·have qe:=@qR;repeat' first|refine gC (fun hc=>?_) (fun hc=>?_)<;>try contradiction|refine za (pure1017) ?_|refine gG ?_|show AK _;intro K H|refine H _ _ ?_;clear H K|refine gJ ?_;try exact trivial|omega
          all_goals exact .refl _
   ·have hkb':=eq_false hkb
    have qe:=aI qR (aI @hkb' (aI @zbb (aI @decide_true (aI @decide_false @Bool.not_true))));repeat' first|refine gC (fun hc=>?_) (fun hc=>?_)<;>try contradiction|refine za (h15) ?_|refine zN (fun _=>h26) ?_|refine zN (fun _=>h23) ?_|refine zN (fun _=>hC) ?_|refine za (pure1017) ?_|refine gG ?_|show AK _;intro K H|refine H _ _ ?_;clear H K|refine gJ ?_;try exact trivial|omega
    all_goals exact .refl _
  ·have hkl':=eq_false hkl
   have qe:=aI qR (aI @hkl' (aI @zbb (aI @decide_true (aI @decide_false @Bool.not_true))));repeat' first|refine gC (fun hc=>?_) (fun hc=>?_)<;>try contradiction|refine za (h15) ?_|refine zN (fun _=>h26) ?_|refine zN (fun _=>h23) ?_|refine zN (fun _=>hC) ?_|refine za (pure1017) ?_|refine gG ?_|show AK _;intro K H|refine H _ _ ?_;clear H K|refine gJ ?_;try exact trivial|omega
   all_goals exact .refl _
 ·have hs':(yG l 3 && ybi b)=false:=by simpa using hs
  rw [hs'] at h15
  have qe:=aI qR @Bool.not_false;repeat' first|refine gC (fun hc=>?_) (fun hc=>?_)<;>try contradiction|refine za (h15) ?_|refine zN (fun _=>h26) ?_|refine zN (fun _=>h23) ?_|refine zN (fun _=>hC) ?_|refine za (pure1017) ?_|refine gG ?_|show AK _;intro K H|refine H _ _ ?_;clear H K|refine gJ ?_;try exact trivial|omega
  all_goals exact .refl _
end Go.Proofs.YtahmdjadnlpjoaaGreat
namespace Go.Proofs.YtahmdjadnlpjoaaGreat
open Go.RowKit Go.ChangeShapes Go.WideShapes Go.ChangeAt
set_option maxRecDepth 100000
set_option linter.unusedVariables false
set_option linter.unusedSimpArgs false
set_option maxHeartbeats 4000000
theorem ybb (os:Os) (started:os.Started) (H:Type) (enc:TypeId × Value→H):ReturnsInHanded {} Tryz.checked os 7 .any (Rows.tradeQueuesSpec.pre6 enc Tryz.prog Tryz.f7 Rows.tradeQueuesRow.domain false) (Rows.tradeQueuesSpec.post enc Tryz.prog Tryz.f7 false true false false):=by
 refine returnsInHanded_of_change_shaped (C:=Tryz.checked) own started (by kernel_rfl) Tryz.func7
  (ChangeSpec.witness6 (enc:=enc) (C:=Tryz.checked) false ⟨#[],#[.slice none 0 0,.agg #[.slice none 0 0,.slice none 0 0]],[]⟩ 8 (by kernel_rfl) (by kernel_rfl) (by kernel_rfl) (by kernel_rfl)) ?_
 intro W base args ds gs before hval hW _ hsz _ _
 refine yah (C:=Tryz.checked) (n:=6) (tb:=4) laid (by kernel_rfl) rfl (fun H ds hd=>?_) (by kernel_rfl) und4 (by kernel_rfl) (fun ps hps=>?_) W base args ds gs before hval hW hsz
 ·match ds,hd with
  | [_,_],_=>rfl
 ·match ps,hps with
  | [a0,a1],⟨h0,h1,_⟩=>
   obtain ⟨l,rfl,hn⟩:=yca h0
   obtain ⟨b,rfl⟩:=fit_bk h1
   exact yb4 l b hn
theorem ycR:(Rows.tradeQueuesRow.inPlace == Tryz.prog.inPlace 7)=true:=by kernel_rfl
theorem ycQ:(Rows.tradeQueuesRow.unfollowed == Tryz.prog.unfollowed 7)=true:=by kernel_rfl
theorem ycP:(Rows.tradeQueuesRow.recurses == Tryz.prog.recurses 7)=true:=by kernel_rfl
theorem ycO:(Rows.tradeQueuesRow.named == Tryz.prog.varsNamed 7)=true:=by kernel_rfl
theorem ycN:Tryz.checked.prog.funcNamed Rows.tradeQueuesRow.func=some 7:=by kernel_rfl
theorem ycM:joinedFacts Tryz.prog 7 Tryz.f7 Rows.tradeQueuesSpec Rows.tradeQueuesRow=true:=
 ybz (by as_aux_lemma=>kernel_rfl) laid rowed (by as_aux_lemma=>kernel_rfl) ycR ycQ ycP ycO (by as_aux_lemma=>kernel_rfl) (by as_aux_lemma=>kernel_rfl) (by as_aux_lemma=>kernel_rfl) (by as_aux_lemma=>kernel_rfl) (by as_aux_lemma=>kernel_rfl)
theorem ycL:Tryz.f7.isInstance Tryz.prog Rows.tradeQueuesRow.origin Rows.tradeQueuesRow.targs:=of_decide_eq_true (by kernel_rfl)
theorem ycK:Tryz.f7.isWrapper Tryz.prog Rows.tradeQueuesRow.wrapper Rows.tradeQueuesRow.mainSum:=by
 unfold Func.isWrapper;first|(rw [if_pos (by decide +kernel)];kernel_rfl)|(rw [if_neg (by decide +kernel)];exact ⟨rfl,rfl⟩)
theorem yas:Rows.tradeQueuesRow.holds Tryz.pinned (OpenSpec.ofChange Rows.tradeQueuesSpec):=
 OpenClaim.holds_of_wide 7 Tryz.f7 rfl rfl rfl rfl rfl rfl rfl ⟨rfl,rfl,rfl,rfl,rfl⟩ rfl rfl rfl rfl rfl ycN Tryz.func7 ycM ycL ycK
  (fun os started H enc _=>ybb os started H enc)
theorem queues_proved:Rows.TradeQueuesSaid:=yas
end Go.Proofs.YtahmdjadnlpjoaaGreat
