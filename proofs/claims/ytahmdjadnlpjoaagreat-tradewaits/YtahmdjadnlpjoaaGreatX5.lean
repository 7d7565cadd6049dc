/- The statement TradeWaits of chapter 8 (trade) holds of the given program: Wait, Serve and Refused return the results or the errors of the reference. No conditions. -/
import Derived.ProofKit
import Derived.OpenShut
import Derived.Carry
import Derived.OpenVars
import Derived.HandedShaped
import Derived.KernelRfl
import Derived.Laws.RangeAny
import Derived.Test.YtahmdjadnlpjoaaGreatRows
import Derived.Test.YtahmdjadnlpjoaaGreatX4
set_option linter.all false
set_option maxHeartbeats 8000000
namespace Go.Proofs.YtahmdjadnlpjoaaGreat
open Go.RowKit
set_option maxRecDepth 100000
set_option linter.unusedVariables false
set_option linter.unusedSimpArgs false
set_option maxHeartbeats 8000000
theorem sh_few {b:Bk} (h:ya6 b=true) (hc:zG b=0):b.slots.length≤5∧b.wait.length≤5:=by
 have hl:=chkBk_len hc
 simp only [ya6,Bool.and_eq_true,Bool.not_eq_true',bigB,Bool.or_eq_false_iff,Bool.and_eq_false_iff,decide_eq_false_iff_not,Bool.not_eq_false',decide_eq_true_eq] at h
 obtain ⟨⟨h1,h2⟩,_⟩:=h
 exact ⟨by rcases h1 with h1|h1<;>omega,by rcases h2 with h2|h2<;>omega⟩
theorem yba {b:Bk} {w:Wsh} (h:waitE b w≠0):waitB b w=bk0:=if_neg h
theorem ybA {b:Bk} {w:Wsh} (hb:BkOk b) (h:b.wait.length≤65):BkOk (waitB b w):=by
 rw [waitB];split
 ·exact ⟨hb.s,hb.n,by simp only [zH,List.length_append,List.length_singleton];omega⟩
 ·exact ych
theorem ycr {l:List Lim} {b:Bk} (hb:BkOk b) (h:b.slots.length≤65) (hw:b.wait.length≤65):BkOk (srvB l b):=by
 have hl:=srvK_len (l:=l) (b:=b) (Nat.le_refl b.wait.length)
 refine ⟨fun s hs=>?_,?_,?_⟩
 ·rcases List.mem_append.1 hs with hs|hs
  ·exact hb.s s hs
  ·obtain ⟨r,_,rfl⟩:=List.mem_map.1 hs;exact ⟨by simp [newS],by simp [newS]⟩
 ·simp only [srvB,List.length_append,List.length_map];omega
 ·simp only [srvB];omega
theorem yaV {b:Bk} {w:Wsh} (h:zG b=0):WaitC b w=waitE b w:=if_pos h
theorem yb4 {b:Bk} {w:Wsh} (h:zG b=0):WaitB b w=waitB b w:=by
 rw [WaitB,yaV h];split
 ·rfl
 ·rename_i k;rw [yba k]
theorem ybR (l:List Lim) (b:Bk) (w:Wsh) (hn:l.length*112≤140737488355328):Pure Tryz.prog 4 [.sl 11 (l.map Lim.pv),b.pv,w.pv] (.b true):=by
 refine zf (cF Tryz.func4 Tryz.f4.eq_1) (by simp) fun hw X hX=>?_
 have h15:=ybQ l b hn
 by_cases hs:(yE l 3 && ya6 b)=true
 ·rw [hs] at h15
  by_cases hq:shortB w.req=true
  ·rw [Bool.and_eq_true] at hs
   obtain ⟨hok,hl1,hl2⟩:=sh_ok hs.2
   have hfew:=fun h:zG b=0=>sh_few hs.2 h
   have hW:=ybl b w (fun _=>hok) (fun h=>by have:=hfew h;omega)
   have hS:=pure1020 l b (fun _=>hok)
   have hR:=pure1022 l b
   have hC:=ybO b
   have h26:=yaJ l hn
   have h21:=ybP l hn
   have h23:=pure23 l
   by_cases hkb:zG b=0
   ·rw [yb4 hkb,yaV hkb] at hW
    rw [hkb] at hC
    have rW:=ybN b w hok (by have:=hfew hkb;omega)
    rw [yco hkb] at rW
    have sW:=y8 (waitB b w) (waitB b w) (waitE b w) (ybA hok hl2) (fun _=>rfl) yba
    by_cases hkl:z3 l=0
    ·have hlb:lbE l b=0:=zq.2 ⟨hkl,zq.2 ⟨hkb,rfl⟩⟩
     have hF0:zg [(0:Int),0]=0:=rfl
     have e1:ServB l b=srvB l b:=if_pos hlb
     have e2:ServW l b=srvW l b:=if_pos hlb
     have e3:refL l b=refK l b b.wait.length:=by rw [refL,if_pos hlb,refK,List.take_length]
     rw [e1,e2,hlb] at hS
     rw [e3,hlb] at hR
     rw [hkl] at h23
     have rS:=ybM l b hok hkl (yb7 hkb) (ybB hkb)
     have rR:=ybL l b hkl hkb (fun w hw=>by obtain ⟨i,hi⟩:=List.mem_iff_getElem?.1 hw;exact yt (ya8 hkb hi))
     have sSv:=y8 (srvB l b) (srvB l b) 0 (ycr hok hl1 hl2) (fun _=>rfl) (fun k=>absurd rfl k)
     have hRl:=refK_len l b b.wait.length
     generalize refK l b b.wait.length=R at hR rR hRl
     generalize waitB b w=x at hW rW sW
     generalize waitE b w=e at hW rW sW
     generalize srvB l b=y at hS rS sSv
     generalize srvW l b=N at hS rS
     have qe:=aI qR (aI @hq (aI @hF0 (aI @zbb (aI @decide_true (aI @decide_false @Bool.not_true)))));repeat' first|refine gC (fun hc=>?_) (fun hc=>?_)<;>try contradiction|refine za (h15) ?_|refine zN (fun _=>yx w.req) ?_|refine za (h21) ?_|refine za (y9 b hok) ?_|refine za (hW) ?_|refine za (hS) ?_|refine za (hR) ?_|refine za (hC) ?_|refine za (h26) ?_|refine za (h23) ?_|refine za (yg [_,_]) ?_|refine za (rW) ?_|refine za (rS) ?_|refine za (rR) ?_|refine gG ?_|show AK _;intro K H|refine H _ _ ?_;clear H K|refine gJ ?_;try exact trivial|omega
     refine zaO 100 91 3 [(7,.lp 7 0),(8,.p (.i .i64 e)),(9,.lp 9 0),(10,.p (.sl 1 (N.map .s))),(11,.p (.i .i64 0)),(13,.p (.i .i64 0)),(14,.p (.i .i64 e)),(15,.p (.i .i64 0)),(16,.lp 16 0),(17,.lp 17 0),(18,.p (.sl 1 (N.map .s))),(19,.p (.sl 3 (R.map Rfs.pv))),(20,.row 100 0),(87,.p (.sl 3 (R.map Rfs.pv))),(88,.p (.i .i64 R.length)),(89,.p (.i .i64 0))] [(7,.box [.p (.sl 16 (x.slots.map Slt.pv)),.p (.sl 14 (x.wait.map Wsh.pv))] false),(9,.box [.p (.sl 16 (y.slots.map Slt.pv)),.p (.sl 14 (y.wait.map Wsh.pv))] false),(16,.box [.p (.sl 16 (x.slots.map Slt.pv)),.p (.sl 14 (x.wait.map Wsh.pv))] false),(17,.box [.p (.sl 16 (y.slots.map Slt.pv)),.p (.sl 14 (y.wait.map Wsh.pv))] false)] ?_ ?_
     ·simp only [Own,zaL,zaB,zbt,zay,qS,Nat.reduceAdd,Nat.reduceMul,Nat.reduceEqDiff,Nat.reduceLeDiff,reduceIte,reduceCtorEq,Nat.reduceBEq,Nat.reduceLT]<;>simp
     refine zk (κ:=Nat) (fun k=>⟨[(7,.lp 7 0),(8,.p (.i .i64 e)),(9,.lp 9 0),(10,.p (.sl 1 (N.map .s))),(11,.p (.i .i64 0)),(13,.p (.i .i64 0)),(14,.p (.i .i64 e)),(15,.p (.i .i64 0)),(16,.lp 16 0),(17,.lp 17 0),(18,.p (.sl 1 (N.map .s))),(19,.p (.sl 3 (R.map Rfs.pv))),(20,.row 100 (R.take k).length),(87,.p (.sl 3 (R.map Rfs.pv))),(88,.p (.i .i64 R.length)),(89,.p (.i .i64 k))],[(7,.box [.p (.sl 16 (x.slots.map Slt.pv)),.p (.sl 14 (x.wait.map Wsh.pv))] false),(9,.box [.p (.sl 16 (y.slots.map Slt.pv)),.p (.sl 14 (y.wait.map Wsh.pv))] false),(16,.box [.p (.sl 16 (x.slots.map Slt.pv)),.p (.sl 14 (x.wait.map Wsh.pv))] false),(17,.box [.p (.sl 16 (y.slots.map Slt.pv)),.p (.sl 14 (y.wait.map Wsh.pv))] false),(100,.row 91 3 ((R.take k).map Rfs.pv) false)],[],false⟩) (fun k=>k≤R.length) (fun k=>R.length - k) 0 ?_ ?_ ?_
     ·exact sS
     ·simp
     ·intro k hk
      repeat first|refine gG ?_|show AK _;intro K H|refine H _ _ ?_;clear H K|refine gJ ?_;try exact trivial|omega
      (refine gC (fun hc=>?_) (fun hc=>?_)<;>try contradiction)
      ·obtain ⟨z,hz⟩:=zn (i:=k) (l:=R) (by omega)
       have hlt:=take_len hz
       have qe:=aI qR @hz;repeat' first|refine gC (fun hc=>?_) (fun hc=>?_)<;>try contradiction|refine gG ?_|show AK _;intro K H|refine H _ _ ?_;clear H K|refine gJ ?_;try exact trivial|omega
       exact ⟨k+1,by omega,by omega,⟨by rw [List.take_add_one,hz,List.length_append];rfl,by simp⟩,by rw [take_snoc Rfs.pv hz]⟩
      ·have ek:k=R.length:=by omega
       subst ek
       rw [List.take_length]
       have qe:=aI qR (aI @zbb (aI @decide_true @Bool.not_true));repeat' first|refine gC (fun hc=>?_) (fun hc=>?_)<;>try contradiction|refine za (sW) ?_|refine zN (fun _=>sSv) ?_|refine zN (fun _=>pure1031 N N) ?_|refine zN (fun _=>y7 R) ?_|refine zN (fun _=>pure1017) ?_|refine gG ?_|show AK _;intro K H|refine H _ _ ?_;clear H K|refine gJ ?_;try exact trivial|omega
       all_goals exact .refl _
    ·have hF:lbE l b=z3 l:=za2 hkl
     have hlb:¬lbE l b=0:=by rw [hF];exact hkl
     have hF0:zg [z3 l,0]=z3 l:=za2 hkl
     have e1:ServB l b=bk0:=if_neg hlb
     have e2:ServW l b=[]:=if_neg hlb
     have e3:refL l b=[]:=if_neg hlb
     rw [e1,e2,hF] at hS
     rw [e3,hF] at hR
     have s0:=ycs (z3 l) hkl
     have h31:Pure Tryz.prog 43 [.sl 1 [],.nilsl] (.b true):=pure_in (pure1031 [] []) ⟨.refl _,.nilsl _,trivial⟩
     have h32:Pure Tryz.prog 44 [.nilsl,.nilsl] (.b true):=pure_in (y7 []) ⟨.nilsl _,.nilsl _,trivial⟩
     have hkl':=eq_false hkl
     generalize waitB b w=x at hW rW sW
     generalize waitE b w=e at hW rW sW
     generalize z3 l=u at hS hR h23 hF0 s0 hkl'
     have qe:=aI qR (aI @hq (aI @hF0 (aI @hkl' (aI @zbb (aI @decide_true (aI @decide_false (aI @Bool.not_true (aI @List.map_nil.{0,0} (@List.length_nil.{0})))))))));repeat' first|refine gC (fun hc=>?_) (fun hc=>?_)<;>try contradiction|refine za (h15) ?_|refine zN (fun _=>yx w.req) ?_|refine za (h21) ?_|refine za (y9 b hok) ?_|refine za (hW) ?_|refine za (hS) ?_|refine za (hR) ?_|refine za (hC) ?_|refine za (h26) ?_|refine za (h23) ?_|refine za (yg [_,_]) ?_|refine za (rW) ?_|refine gG ?_|show AK _;intro K H|refine H _ _ ?_;clear H K|refine gJ ?_;try exact trivial|omega
     refine zk (κ:=Unit) (fun _=>⟨[(7,.lp 7 0),(8,.p (.i .i64 e)),(9,.lp 9 0),(10,.p (.sl 1 [])),(11,.p (.i .i64 u)),(13,.p (.i .i64 u)),(14,.p (.i .i64 e)),(15,.p (.i .i64 u)),(16,.lp 16 0),(17,.lp 17 0),(18,.p .nilsl),(19,.p .nilsl),(20,.p .nilsl),(87,.p (.sl 3 [])),(88,.p (.i .i64 0)),(89,.p (.i .i64 0))],[(7,.box [.p (.sl 16 (x.slots.map Slt.pv)),.p (.sl 14 (x.wait.map Wsh.pv))] false),(9,.box [.p (.sl 16 []),.p (.sl 14 [])] false),(16,.box [.p (.sl 16 (x.slots.map Slt.pv)),.p (.sl 14 (x.wait.map Wsh.pv))] false),(17,.box [.p .nilsl,.p .nilsl] false)],[],false⟩) (fun _=>True) (fun _=>0) () ?_ ?_ ?_
     ·refine gJ ?_;simp [bk0]
     ·trivial
     ·intro _ _
      have e00:((0:Int) < 0)=False:=by simp
      have qe:=aI qR (aI @e00 (aI @hkl' (aI @zbb (aI @decide_true (aI @decide_false @Bool.not_true)))));repeat' first|refine gC (fun hc=>?_) (fun hc=>?_)<;>try contradiction|refine za (sW) ?_|refine zN (fun _=>s0) ?_|refine zN (fun _=>h31) ?_|refine zN (fun _=>h32) ?_|refine zN (fun _=>pure1017) ?_|refine gG ?_|show AK _;intro K H|refine H _ _ ?_;clear H K|refine gJ ?_;try exact trivial|omega
      all_goals exact .refl _
   ·have hkb':=eq_false hkb
    have hlb:¬lbE l b=0:=fun k=>hkb (fE0 k _ (by simp))
    have hF:zg [z3 l,zG b]=lbE l b:=rfl
    have hlb':=eq_false hlb
    have e1:ServB l b=bk0:=if_neg hlb
    have e2:ServW l b=[]:=if_neg hlb
    have e3:refL l b=[]:=if_neg hlb
    have e4:WaitC b w=zG b:=if_neg hkb
    have e5:WaitB b w=bk0:=by rw [WaitB,e4,if_neg hkb]
    rw [e1,e2] at hS
    rw [e3] at hR
    rw [e4,e5] at hW
    have sW:=ycs (zG b) hkb
    have s0:=ycs (lbE l b) hlb
    have h31:Pure Tryz.prog 43 [.sl 1 [],.nilsl] (.b true):=pure_in (pure1031 [] []) ⟨.refl _,.nilsl _,trivial⟩
    have h32:Pure Tryz.prog 44 [.nilsl,.nilsl] (.b true):=pure_in (y7 []) ⟨.nilsl _,.nilsl _,trivial⟩
    generalize lbE l b=u at hS hR hF s0 hlb'
    generalize zG b=e at hW hC hF sW hkb'
    have qe:=aI qR (aI @hq (aI @hF (aI @hkb' (aI @hlb' (aI @zbb (aI @decide_true (aI @decide_false (aI @Bool.not_true (aI @List.map_nil.{0,0} (@List.length_nil.{0}))))))))));repeat' first|refine gC (fun hc=>?_) (fun hc=>?_)<;>try contradiction|refine za (h15) ?_|refine zN (fun _=>yx w.req) ?_|refine za (h21) ?_|refine za (y9 b hok) ?_|refine za (hW) ?_|refine za (hS) ?_|refine za (hR) ?_|refine za (hC) ?_|refine za (h26) ?_|refine za (h23) ?_|refine za (yg [_,_]) ?_|refine gG ?_|show AK _;intro K H|refine H _ _ ?_;clear H K|refine gJ ?_;try exact trivial|omega
    refine zk (κ:=Unit) (fun _=>⟨[(7,.lp 7 0),(8,.p (.i .i64 e)),(9,.lp 9 0),(10,.p (.sl 1 [])),(11,.p (.i .i64 u)),(13,.p (.i .i64 u)),(14,.p (.i .i64 e)),(15,.p (.i .i64 u)),(16,.lp 16 0),(17,.lp 17 0),(18,.p .nilsl),(19,.p .nilsl),(20,.p .nilsl),(87,.p (.sl 3 [])),(88,.p (.i .i64 0)),(89,.p (.i .i64 0))],[(7,.box [.p (.sl 16 []),.p (.sl 14 [])] false),(9,.box [.p (.sl 16 []),.p (.sl 14 [])] false),(16,.box [.p .nilsl,.p .nilsl] false),(17,.box [.p .nilsl,.p .nilsl] false)],[],false⟩) (fun _=>True) (fun _=>0) () ?_ ?_ ?_
    ·refine gJ ?_;simp [bk0]
    ·trivial
    ·intro _ _
     have e00:((0:Int) < 0)=False:=by simp
     have qe:=aI qR (aI @e00 (aI @hkb' (aI @hlb' (aI @zbb (aI @decide_true (aI @decide_false @Bool.not_true))))));repeat' first|refine gC (fun hc=>?_) (fun hc=>?_)<;>try contradiction|refine za (sW) ?_|refine zN (fun _=>s0) ?_|refine zN (fun _=>h31) ?_|refine zN (fun _=>h32) ?_|refine zN (fun _=>pure1017) ?_|refine gG ?_|show AK _;intro K H|refine H _ _ ?_;clear H K|refine gJ ?_;try exact trivial|omega
     all_goals exact .refl _
  ·have hq':shortB w.req=false:=by simpa using hq
   have qe:=aI qR (aI @hq' (aI @Bool.not_true @Bool.not_false));repeat' first|refine gC (fun hc=>?_) (fun hc=>?_)<;>try contradiction|refine za (h15) ?_|refine zN (fun _=>yx w.req) ?_|refine za (pure1017) ?_|refine gG ?_|show AK _;intro K H|refine H _ _ ?_;clear H K|refine gJ ?_;try exact trivial|omega
   all_goals exact .refl _
 ·have hs':(yE l 3 && ya6 b)=false:=by simpa using hs
  rw [hs'] at h15
  have qe:=aI qR @Bool.not_false;repeat' first|refine gC (fun hc=>?_) (fun hc=>?_)<;>try contradiction|refine za (h15) ?_|refine zN (fun _=>yx w.req) ?_|refine za (pure1017) ?_|refine gG ?_|show AK _;intro K H|refine H _ _ ?_;clear H K|refine gJ ?_;try exact trivial|omega
  all_goals exact .refl _
end Go.Proofs.YtahmdjadnlpjoaaGreat
namespace Go.Proofs.YtahmdjadnlpjoaaGreat
open Go.RowKit Go.ChangeShapes Go.WideShapes Go.ChangeAt
set_option maxRecDepth 100000
set_option linter.unusedVariables false
set_option linter.unusedSimpArgs false
set_option maxHeartbeats 4000000
theorem parW:ycb Tryz.prog 6 66=some (true,wshT):=by kernel_rfl
theorem ycI {p:PV} (h:yU Tryz.prog 6 66 p):∃ w:Wsh,p=w.pv:=by
 obtain ⟨⟨ag,c,l,hp,rfl,hl⟩,hb⟩:=h
 rw [parW] at hp
 simp only [Option.some.injEq,Prod.mk.injEq] at hp
 obtain ⟨rfl,rfl⟩:=hp
 exact yb5 hl
theorem ya0 (os:Os) (started:os.Started) (H:Type) (enc:TypeId × Value→H):ReturnsInHanded {} Tryz.checked os 4 .any (Rows.tradeWaitsSpec.pre6 enc Tryz.prog Tryz.f4 Rows.tradeWaitsRow.domain false) (Rows.tradeWaitsSpec.post enc Tryz.prog Tryz.f4 false true false false):=by
 refine returnsInHanded_of_change_shaped (C:=Tryz.checked) own started (by kernel_rfl) Tryz.func4
  (ChangeSpec.witness6 (enc:=enc) (C:=Tryz.checked) false ⟨#[],#[.slice none 0 0,.agg #[.slice none 0 0,.slice none 0 0],.agg #[zs,zs,zs,zs,zs,zs,zi,zi,zi,zi,zi,zi,zi,zi]],[]⟩ 8 (by kernel_rfl) (by kernel_rfl) (by kernel_rfl) (by kernel_rfl)) ?_
 intro W base args ds gs before hval hW _ hsz _ _
 refine yah (C:=Tryz.checked) (n:=6) (tb:=4) laid (by kernel_rfl) rfl (fun H ds hd=>?_) (by kernel_rfl) und4 (by kernel_rfl) (fun ps hps=>?_) W base args ds gs before hval hW hsz
 ·match ds,hd with
  | [_,_,_],_=>rfl
 ·match ps,hps with
  | [a0,a1,a2],⟨h0,h1,h2,_⟩=>
   obtain ⟨l,rfl,hn⟩:=yb1 h0
   obtain ⟨b,rfl⟩:=fit_bk h1
   obtain ⟨w,rfl⟩:=ycI h2
   exact ybR l b w hn
theorem ycR:(Rows.tradeWaitsRow.inPlace == Tryz.prog.inPlace 4)=true:=by kernel_rfl
theorem ycQ:(Rows.tradeWaitsRow.unfollowed == Tryz.prog.unfollowed 4)=true:=by kernel_rfl
theorem ycP:(Rows.tradeWaitsRow.recurses == Tryz.prog.recurses 4)=true:=by kernel_rfl
theorem ycO:(Rows.tradeWaitsRow.named == Tryz.prog.varsNamed 4)=true:=by kernel_rfl
theorem ycN:Tryz.checked.prog.funcNamed Rows.tradeWaitsRow.func=some 4:=by kernel_rfl
theorem ycM:joinedFacts Tryz.prog 4 Tryz.f4 Rows.tradeWaitsSpec Rows.tradeWaitsRow=true:=
 ybo (by as_aux_lemma=>kernel_rfl) laid rowed (by as_aux_lemma=>kernel_rfl) ycR ycQ ycP ycO (by as_aux_lemma=>kernel_rfl) (by as_aux_lemma=>kernel_rfl) (by as_aux_lemma=>kernel_rfl) (by as_aux_lemma=>kernel_rfl) (by as_aux_lemma=>kernel_rfl)
theorem ycL:Tryz.f4.isInstance Tryz.prog Rows.tradeWaitsRow.origin Rows.tradeWaitsRow.targs:=of_decide_eq_true (by kernel_rfl)
theorem ycK:Tryz.f4.isWrapper Tryz.prog Rows.tradeWaitsRow.wrapper Rows.tradeWaitsRow.mainSum:=by
 unfold Func.isWrapper;first|(rw [if_pos (by decide +kernel)];kernel_rfl)|(rw [if_neg (by decide +kernel)];exact ⟨rfl,rfl⟩)
theorem yaX:Rows.tradeWaitsRow.holds Tryz.pinned (OpenSpec.ofChange Rows.tradeWaitsSpec):=
 OpenClaim.holds_of_wide 4 Tryz.f4 rfl rfl rfl rfl rfl rfl rfl ⟨rfl,rfl,rfl,rfl,rfl⟩ rfl rfl rfl rfl rfl ycN Tryz.func4 ycM ycL ycK
  (fun os started H enc _=>ya0 os started H enc)
theorem waits_proved:Rows.TradeWaitsSaid:=yaX
end Go.Proofs.YtahmdjadnlpjoaaGreat
