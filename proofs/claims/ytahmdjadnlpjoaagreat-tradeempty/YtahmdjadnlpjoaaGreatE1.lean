/- The statement TradeEmpty of chapter 8 (trade) holds of the given program: with an empty book and without limits each valid request with a day is held by its carrier, or served as a wish; a book without slots has no movements. No conditions. -/
import Derived.ProofKit
import Derived.OpenShut
import Derived.Carry
import Derived.OpenVars
import Derived.HandedShaped
import Derived.KernelRfl
import Derived.Laws.RangeAny
import Derived.Test.YtahmdjadnlpjoaaGreatRows
import Derived.Test.YtahmdjadnlpjoaaGreatE0
set_option linter.all false
set_option maxHeartbeats 8000000
namespace Go.Proofs.YtahmdjadnlpjoaaGreat
open Go.RowKit
set_option maxRecDepth 100000
set_option linter.unusedVariables false
set_option linter.unusedSimpArgs false
set_option maxHeartbeats 8000000
theorem pure1040 (b:Bk) (hb:BkOk b):Pure Tryz.prog 50 [b.pv] b.pv:=by
 obtain ⟨hs,hn,hw1⟩:=hb
 refine zf (cF Tryz.func50 Tryz.f50.eq_1) (by simp) fun hw X hX=>?_
 have qe:=@qR;repeat' first|refine gC (fun hc=>?_) (fun hc=>?_)<;>try contradiction|refine gG ?_|show AK _;intro K H|refine H _ _ ?_;clear H K|refine gJ ?_;try exact trivial|omega
 refine zaO 100 33 16 [(1,.lp 1 0),(2,.lp 2 0),(3,.lp 3 0),(12,.p (.sl 16 (b.slots.map Slt.pv))),(13,.p (.i .i64 b.slots.length)),(14,.p (.i .i64 0))] [(1,.box [.p (.sl 16 (b.slots.map Slt.pv)),.p (.sl 14 (b.wait.map Wsh.pv))] false),(2,.box [.p .nilsl,.p .nilsl] false),(3,.box [.row 100 0,.p .nilsl] false)] ?_ ?_
 ·simp only [Own,zaL,zaB,zbt,zay,qS,Nat.reduceAdd,Nat.reduceMul,Nat.reduceEqDiff,Nat.reduceLeDiff,reduceIte,reduceCtorEq,Nat.reduceBEq,Nat.reduceLT]<;>simp
 refine zk (κ:=Nat) (fun k=>⟨[(1,.lp 1 0),(2,.lp 2 0),(3,.lp 3 0),(12,.p (.sl 16 (b.slots.map Slt.pv))),(13,.p (.i .i64 b.slots.length)),(14,.p (.i .i64 k))],[(1,.box [.p (.sl 16 (b.slots.map Slt.pv)),.p (.sl 14 (b.wait.map Wsh.pv))] false),(2,.box [.p .nilsl,.p .nilsl] false),(3,.box [.row 100 k,.p .nilsl] false),(100,.row 33 16 ((b.slots.take k).map Slt.pv) false)],[],false⟩) (fun k=>k≤b.slots.length) (fun k=>b.slots.length - k) 0 ?_ ?_ ?_
 ·exact sS
 ·simp
 ·intro k hk
  have hlk:(b.slots.take k).length=k:=by rw [List.length_take];omega
  repeat first|refine gG ?_|show AK _;intro K H|refine H _ _ ?_;clear H K|refine gJ ?_;try exact trivial|omega
  (refine gC (fun hc=>?_) (fun hc=>?_)<;>try contradiction)
  ·obtain ⟨s,hx⟩:=zn (i:=k) (l:=b.slots) (by omega)
   obtain ⟨hl1,hl2⟩:=hs s (List.mem_of_getElem? hx)
   have qe:=aI qR @hx;repeat' first|refine gC (fun hc=>?_) (fun hc=>?_)<;>try contradiction|refine gG ?_|show AK _;intro K H|refine H _ _ ?_;clear H K|refine gJ ?_;try exact trivial|omega
   refine zaO 101 97 3 [(1,.lp 1 0),(2,.lp 2 0),(3,.lp 3 0),(12,.p (.sl 16 (b.slots.map Slt.pv))),(13,.p (.i .i64 b.slots.length)),(14,.p (.i .i64 k)),(5,.lp 5 0),(6,.lp 6 0),(26,.p (.sl 3 (s.ls.map Lea.pv))),(27,.p (.i .i64 s.ls.length)),(28,.p (.i .i64 0))] [(1,.box [.p (.sl 16 (b.slots.map Slt.pv)),.p (.sl 14 (b.wait.map Wsh.pv))] false),(2,.box [.p .nilsl,.p .nilsl] false),(3,.box [.row 100 k,.p .nilsl] false),(100,.row 33 16 ((b.slots.take k).map Slt.pv) false),(5,.box (s.cells.map .p) false),(6,.box [.p (.s s.req.name),.p (.s s.req.carrier),.p (.s s.req.kind),.p (.s s.req.term),.p (.s s.req.partner),.p (.s s.req.link),.p (.i .i64 s.req.per.fro),.p (.i .i64 s.req.per.to),.p (.i .i64 s.req.per.days),.p (.i .i64 s.req.minute),.p (.i .i64 s.req.seats),.p (.i .i64 s.req.size),.p (.i .i64 s.req.noise),.p (.s s.holder),.row 101 0,.p (.sl 1 (s.sh.map .s))] false)] ?_ ?_
   ·simp only [Own,zaL,zaB,zbt,zay,qS,Nat.reduceAdd,Nat.reduceMul,Nat.reduceEqDiff,Nat.reduceLeDiff,reduceIte,reduceCtorEq,Nat.reduceBEq,Nat.reduceLT]<;>simp [hlk]
   refine zk (κ:=Nat) (fun i=>⟨[(1,.lp 1 0),(2,.lp 2 0),(3,.lp 3 0),(12,.p (.sl 16 (b.slots.map Slt.pv))),(13,.p (.i .i64 b.slots.length)),(14,.p (.i .i64 k)),(5,.lp 5 0),(6,.lp 6 0),(26,.p (.sl 3 (s.ls.map Lea.pv))),(27,.p (.i .i64 s.ls.length)),(28,.p (.i .i64 i))],[(1,.box [.p (.sl 16 (b.slots.map Slt.pv)),.p (.sl 14 (b.wait.map Wsh.pv))] false),(2,.box [.p .nilsl,.p .nilsl] false),(3,.box [.row 100 k,.p .nilsl] false),(100,.row 33 16 ((b.slots.take k).map Slt.pv) false),(5,.box (s.cells.map .p) false),(6,.box [.p (.s s.req.name),.p (.s s.req.carrier),.p (.s s.req.kind),.p (.s s.req.term),.p (.s s.req.partner),.p (.s s.req.link),.p (.i .i64 s.req.per.fro),.p (.i .i64 s.req.per.to),.p (.i .i64 s.req.per.days),.p (.i .i64 s.req.minute),.p (.i .i64 s.req.seats),.p (.i .i64 s.req.size),.p (.i .i64 s.req.noise),.p (.s s.holder),.row 101 i,.p (.sl 1 (s.sh.map .s))] false),(101,.row 97 3 ((s.ls.take i).map Lea.pv) false)],[],false⟩) (fun i=>i≤s.ls.length) (fun i=>s.ls.length - i) 0 ?_ ?_ ?_
   ·refine gJ ?_;simp [hlk]
   ·simp
   ·intro i hi
    have hli:(s.ls.take i).length=i:=by rw [List.length_take];omega
    repeat first|refine gG ?_|show AK _;intro K H|refine H _ _ ?_;clear H K|refine gJ ?_;try exact trivial|omega
    (refine gC (fun hc=>?_) (fun hc=>?_)<;>try contradiction)
    ·obtain ⟨x,hx2⟩:=zn (i:=i) (l:=s.ls) (by omega)
     have qe:=aI qR (aI @hx2 (aI @hli @hlk));repeat' first|refine gC (fun hc=>?_) (fun hc=>?_)<;>try contradiction|refine gG ?_|show AK _;intro K H|refine H _ _ ?_;clear H K|refine gJ ?_;try exact trivial|omega
     exact ⟨i+1,by omega,by omega,by simp,⟨rfl,by rw [zan hx2];simp⟩,by simp;omega⟩
    ·have e:i=s.ls.length:=by omega
     subst e
     refine run_exit ?_
     refine (show Run _ (.ops false _) _ _ from run_region (run_partN 3 ?_))
     simp only [List.take_succ_cons,List.take_zero,List.drop_succ_cons,List.drop_zero]
     have qe:=aI qR (aI @zaf (aI @hlk @List.take_length.{0}));repeat' first|refine gC (fun hc=>?_) (fun hc=>?_)<;>try contradiction|refine gG ?_|show AK _;intro K H|refine H _ _ ?_;clear H K|refine gJ ?_;try exact trivial|omega
     refine zbO (ghost_pub 41 s.pv (by simp only [qS,Nat.reduceAdd,Nat.reduceMul,Nat.reduceEqDiff,Nat.reduceLeDiff,reduceIte,reduceCtorEq,Nat.reduceBEq,Nat.reduceLT,zaf]<;>rfl) (by first|trivial|simp) (.refl _)) ?_
     rintro _ rfl
     refine zE ?_
     have qe:=aI qR @hlk;repeat' first|refine gC (fun hc=>?_) (fun hc=>?_)<;>try contradiction|refine gG ?_|show AK _;intro K H|refine H _ _ ?_;clear H K|refine gJ ?_;try exact trivial|omega
     exact ⟨k+1,by omega,by omega,by simp,⟨rfl,by rw [zan hx];simp⟩,by simp;omega⟩
  ·have e:k=b.slots.length:=by omega
   subst e
   have qe:=aI qR @List.take_length.{0};repeat' first|refine gC (fun hc=>?_) (fun hc=>?_)<;>try contradiction|refine gG ?_|show AK _;intro K H|refine H _ _ ?_;clear H K|refine gJ ?_;try exact trivial|omega
   refine zaO 102 66 14 [(2,.lp 2 0),(3,.lp 3 0),(47,.p (.sl 14 (b.wait.map Wsh.pv))),(48,.p (.i .i64 b.wait.length)),(49,.p (.i .i64 0))] [(1,.box [.p (.sl 16 (b.slots.map Slt.pv)),.p (.sl 14 (b.wait.map Wsh.pv))] false),(2,.box [.p .nilsl,.p .nilsl] false),(3,.box [.row 100 b.slots.length,.row 102 0] false),(100,.row 33 16 (b.slots.map Slt.pv) false)] ?_ ?_
   ·simp only [Own,zaL,zaB,zbt,zay,qS,Nat.reduceAdd,Nat.reduceMul,Nat.reduceEqDiff,Nat.reduceLeDiff,reduceIte,reduceCtorEq,Nat.reduceBEq,Nat.reduceLT]<;>simp
   refine zk (κ:=Nat) (fun k=>⟨[(2,.lp 2 0),(3,.lp 3 0),(47,.p (.sl 14 (b.wait.map Wsh.pv))),(48,.p (.i .i64 b.wait.length)),(49,.p (.i .i64 k))],[(1,.box [.p (.sl 16 (b.slots.map Slt.pv)),.p (.sl 14 (b.wait.map Wsh.pv))] false),(2,.box [.p .nilsl,.p .nilsl] false),(3,.box [.row 100 b.slots.length,.row 102 k] false),(100,.row 33 16 (b.slots.map Slt.pv) false),(102,.row 66 14 ((b.wait.take k).map Wsh.pv) false)],[],false⟩) (fun k=>k≤b.wait.length) (fun k=>b.wait.length - k) 0 ?_ ?_ ?_
   ·exact sS
   ·simp
   ·intro k hk2
    have hl2:(b.wait.take k).length=k:=by rw [List.length_take];omega
    repeat first|refine gG ?_|show AK _;intro K H|refine H _ _ ?_;clear H K|refine gJ ?_;try exact trivial|omega
    (refine gC (fun hc=>?_) (fun hc=>?_)<;>try contradiction)
    ·obtain ⟨w,hx2⟩:=zn (i:=k) (l:=b.wait) (by omega)
     have qe:=aI qR (aI @hx2 @hl2);repeat' first|refine gC (fun hc=>?_) (fun hc=>?_)<;>try contradiction|refine gG ?_|show AK _;intro K H|refine H _ _ ?_;clear H K|refine gJ ?_;try exact trivial|omega
     exact ⟨k+1,by omega,by omega,by simp,⟨rfl,by rw [zan hx2];simp⟩,by simp;omega⟩
    ·have e2:k=b.wait.length:=by omega
     subst e2
     have qe:=aI qR (aI @zaf @List.take_length.{0});repeat' first|refine gC (fun hc=>?_) (fun hc=>?_)<;>try contradiction|refine gG ?_|show AK _;intro K H|refine H _ _ ?_;clear H K|refine gJ ?_;try exact trivial|omega
     exact .refl _
set_option maxRecDepth 100000
set_option linter.unusedVariables false
set_option linter.unusedSimpArgs false
set_option maxHeartbeats 8000000
theorem chkRq_req {q:Req} (h:chkRq q=0):chkReq q=0:=by
 have a:=fE0 h
 have h1:zaH q.name=0:=a _ (by simp)
 have h2:optE q.term=0:=a _ (by simp)
 have h3:flightE q.kind=0:=a _ (by simp)
 have h4:zau q.per=0:=a _ (by simp)
 have h5:rng q.minute 0 1439=0:=a _ (by simp)
 have h6:=rng_0.1 (a (rng q.seats 0 999) (by simp))
 have h7:=rng_0.1 (a (rng q.size 1 9) (by simp))
 have h8:=rng_0.1 (a (rng q.noise 0 99) (by simp))
 rw [chkReq,za3 h1,za3 h3,za3 h2,za3 h4,za3 h5,fE_one]
 exact loadE_0 (by omega)
theorem chkQ_req {q:Req} (h:chkQ q=0):chkReq q=0:=chkRq_req (fE0 h _ (by simp))
theorem fit_none {q:Req} (h:chkReq q=0):fitR [] [] q=true:=by
 have h1:fitC [] [] q=0:=by rw [fitC,za3 (show bothC [] []=0 from rfl),fE_one];exact h
 have h2:fitsB [] [] q=true:=by rw [fitsB,List.all_eq_true];intro o _;rfl
 rw [fitR,h1,h2];rfl
def emB (q:Req):Bk:=⟨[newS q],[]⟩
theorem hold_em (q:Req):HoldC [] bk0 q=chkQ q∧HoldB [] bk0 q=if chkQ q=0 then emB q else bk0:=by
 have e0:zg [z3 [],zG bk0]=0:=rfl
 have e1:holdE bk0 q=chkQ q:=by
  rw [holdE]
  by_cases h:chkQ q=0
  ·rw [za3 h,h];rfl
  ·rw [za2 h]
 have e2:holdC [] bk0 q=chkQ q:=by
  rw [holdC,e1]
  by_cases h:chkQ q=0
  ·rw [if_pos h,h]
   have:fitR [] (movF bk0 (-1)) q=true:=fit_none (chkQ_req h)
   rw [this];rfl
  ·rw [if_neg h]
 have e3:HoldC [] bk0 q=chkQ q:=by rw [HoldC,if_pos e0,e2]
 refine ⟨e3,?_⟩
 rw [HoldB,e3,holdB,e2]
 by_cases h:chkQ q=0
 ·rw [if_pos h,if_pos h,if_pos h];rfl
 ·rw [if_neg h,if_neg h]
theorem emS (q:Req):(emB q).slots=[⟨q,q.carrier,[],[]⟩]:=rfl
def emW (w:Wsh):Bk:=⟨[],[w]⟩
theorem wait_em (w:Wsh):WaitC bk0 w=chkWsh w∧WaitB bk0 w=if chkWsh w=0 then emW w else bk0:=by
 have e1:waitE bk0 w=chkWsh w:=by
  rw [waitE]
  by_cases h:chkWsh w=0
  ·rw [za3 h,h];rfl
  ·rw [za2 h]
 have e2:WaitC bk0 w=chkWsh w:=by rw [WaitC,if_pos (show zG bk0=0 from rfl),e1]
 refine ⟨e2,?_⟩
 rw [WaitB,e2,waitB,e1]
 by_cases h:chkWsh w=0
 ·rw [if_pos h,if_pos h,if_pos h];rfl
 ·rw [if_neg h,if_neg h]
theorem serve_em (w:Wsh) (h:chkWsh w=0):lbE [] (emW w)=0∧ServB [] (emW w)=emB w.req∧ServW [] (emW w)=[w.req.name]:=by
 have hq:chkQ w.req=0:=fE0 h _ (by simp)
 have e1:zG (emW w)=0:=by
  have:wshErr (emW w) 0 w=0:=by
   rw [wshErr,za3 h];rfl
  show zg [_,_,_,zg [wshErr (emW w) 0 w]]=0
  rw [this];rfl
 have e2:lbE [] (emW w)=0:=by rw [lbE,e1];rfl
 have e3:srvK [] (emW w) 1=⟨[w.req],[],mgR [] (movR w.req)⟩:=by
  show srvN [] 0 (srv0 (emW w)) w=_
  rw [srvN,if_neg]
  ·rfl
  ·rintro (h1|h1)
   ·exact absurd h1 (by simp [srv0])
   ·have:fitR [] (srv0 (emW w)).M w.req=true:=fit_none (chkQ_req hq)
    rw [this] at h1;cases h1
 refine ⟨e2,?_,?_⟩
 ·rw [ServB,if_pos e2,srvB]
  show (⟨[]++(srvK [] (emW w) 1).Q.map newS,(srvK [] (emW w) 1).K⟩:Bk)=_
  rw [e3];rfl
 ·rw [ServW,if_pos e2,srvW]
  show (srvK [] (emW w) 1).Q.map (·.name)=_
  rw [e3];rfl
theorem okE (q:Req):BkOk (emB q):=zaD rfl (by simp [emB]) (by simp [emB])
theorem okW (w:Wsh):BkOk (emW w):=zaD rfl (by simp [emW]) (by simp [emW])
theorem ok0:BkOk bk0:=zaD rfl (by decide) (by decide)
theorem d1042 (q:Req):Pure Tryz.prog 52 [.nilsl,nbk,q.pv] (.tup [(if chkQ q=0 then emB q else bk0).pv,.i .i64 (chkQ q)]):=by
 have h:=pure1042 [] bk0 q (fun _=>ok0)
 rw [(hold_em q).1,(hold_em q).2] at h
 exact pure_in h ⟨.nilsl _,.agg ⟨.nilsl _,.nilsl _,trivial⟩,.refl _,trivial⟩
theorem d1018 (w:Wsh):Pure Tryz.prog 32 [nbk,w.pv] (.tup [(if chkWsh w=0 then emW w else bk0).pv,.i .i64 (chkWsh w)]):=by
 have h:=pure1018 bk0 w (fun _=>ok0) (by decide)
 rw [(wait_em w).1,(wait_em w).2] at h
 exact pure_in h ⟨.agg ⟨.nilsl _,.nilsl _,trivial⟩,.refl _,trivial⟩
theorem d1043:Pure Tryz.prog 18 [nbk] (.tup [.sl 7 [],.i .i64 0]):=
 pure_in (pure1043 bk0) ⟨.agg ⟨.nilsl _,.nilsl _,trivial⟩,trivial⟩
theorem d1020 (w:Wsh) (h:chkWsh w=0):Pure Tryz.prog 33 [.nilsl,(emW w).pv] (.tup [(emB w.req).pv,.sl 1 (([w.req.name]:List ByteArray).map .s),.i .i64 0]):=by
 have hs:=serve_em w h
 have k:=pure1020 [] (emW w) (fun _=>okW w)
 rw [hs.1,hs.2.1,hs.2.2] at k
 exact pure_in k ⟨.nilsl _,.refl _,trivial⟩
theorem pure1005 (q:Req) (k:Int):Pure Tryz.prog 6 [q.pv,.i .i64 k] (.b true):=by
 refine zf (cF Tryz.func6 Tryz.f6.eq_1) (by simp) fun hw X hX=>?_
 by_cases hb:briefB q=true
 ·by_cases hsb:shortB q=true
  ·have hM:=d1043
   by_cases hwz:chkWsh ⟨q,k⟩=0
   ·have hq:chkQ q=0:=fE0 hwz _ (by simp)
    have hH:=d1042 q
    have hW:=d1018 ⟨q,k⟩
    rw [if_pos hq,hq] at hH
    rw [if_pos hwz,hwz] at hW
    have qe:=aI qR (aI @hb (aI @hsb (aI @hq (aI @hwz (aI @emS (aI @zbb (aI @decide_true @Bool.not_true)))))));repeat' first|refine gC (fun hc=>?_) (fun hc=>?_)<;>try contradiction|refine za (pure1041 q) ?_|refine zN (fun _=>pure1016 q) ?_|refine za (hH) ?_|refine za (hW) ?_|refine za (hM) ?_|refine za (pure1044 q) ?_|refine zN (fun _=>pure1045 ⟨q,k⟩) ?_|refine za (d1020 ⟨q,k⟩ hwz) ?_|refine zN (fun _=>pure1031 [q.name] [q.name]) ?_|refine zN (fun _=>pure1040 (emB q) (okE q)) ?_|refine zN (fun _=>pure1039 (emB q)) ?_|refine zN (fun _=>pure1017) ?_|refine gG ?_|show AK _;intro K H|refine H _ _ ?_;clear H K|refine gJ ?_;try exact trivial|omega
    all_goals first|exact weakB (by decide)|exact .refl _
   ·have hH:=d1042 q
    have hW:=d1018 ⟨q,k⟩
    rw [if_neg hwz] at hW
    have hwt:=eq_false hwz
    have qe:=aI qR (aI @hb (aI @hsb (aI @hwt (aI @zbb (aI @decide_true (aI @decide_false @Bool.not_true))))));repeat' first|refine gC (fun hc=>?_) (fun hc=>?_)<;>try contradiction|refine za (pure1041 q) ?_|refine zN (fun _=>pure1016 q) ?_|refine za (hH) ?_|refine za (hW) ?_|refine za (hM) ?_|refine za (pure1044 q) ?_|refine zN (fun _=>pure1045 ⟨q,k⟩) ?_|refine za (pure1017) ?_|refine gG ?_|show AK _;intro K H|refine H _ _ ?_;clear H K|refine gJ ?_;try exact trivial|omega
    all_goals first|exact weakB (by decide)|exact .refl _
  ·have hsf:shortB q=false:=by simpa using hsb
   have qe:=aI qR (aI @hb @hsf);repeat' first|refine gC (fun hc=>?_) (fun hc=>?_)<;>try contradiction|refine za (pure1041 q) ?_|refine zN (fun _=>pure1016 q) ?_|refine za (pure1017) ?_|refine gG ?_|show AK _;intro K H|refine H _ _ ?_;clear H K|refine gJ ?_;try exact trivial|omega
   all_goals exact .refl _
 ·have hbf:briefB q=false:=by simpa using hb
  have qe:=aI qR @hbf;repeat' first|refine gC (fun hc=>?_) (fun hc=>?_)<;>try contradiction|refine za (pure1041 q) ?_|refine zN (fun _=>pure1016 q) ?_|refine za (pure1017) ?_|refine gG ?_|show AK _;intro K H|refine H _ _ ?_;clear H K|refine gJ ?_;try exact trivial|omega
  all_goals exact .refl _
end Go.Proofs.YtahmdjadnlpjoaaGreat
namespace Go.Proofs.YtahmdjadnlpjoaaGreat
open Go.RowKit Go.ChangeShapes Go.WideShapes Go.ChangeAt
set_option maxRecDepth 100000
set_option linter.unusedVariables false
set_option linter.unusedSimpArgs false
set_option maxHeartbeats 4000000
abbrev jT:CP:=.i .i64
def rqT:List CP:=[.s,.s,.s,.s,.s,.s,jT,jT,jT,jT,jT,jT,jT]
theorem parQ:parP Tryz.prog 4 29=some (true,rqT):=by kernel_rfl
theorem fit_rq {p:PV} (h:FitPar Tryz.prog 4 29 p):∃ r:Req,p=r.pv:=by
 obtain ⟨⟨ag,c,l,hp,rfl,hl⟩,hb⟩:=h
 rw [parQ] at hp
 simp only [Option.some.injEq,Prod.mk.injEq] at hp
 obtain ⟨rfl,rfl⟩:=hp
 match l,hl with
 | [_,_,_,_,_,_,_,_,_,_,_,_,_],⟨⟨a,ha⟩,⟨b,hb⟩,⟨c,hc⟩,⟨d,hd⟩,⟨e,he⟩,⟨f,hf⟩,⟨g,hg⟩,⟨i,hi⟩,⟨j,hj⟩,⟨k,hk⟩,⟨m,hm⟩,⟨n,hn⟩,⟨o,ho⟩,_⟩=>
  subst ha hb hc hd he hf hg hi hj hk hm hn ho
  exact ⟨⟨a,b,c,d,e,f,⟨g,i,j⟩,k,m,n,o⟩,rfl⟩
theorem parI:parP Tryz.prog 4 3=some (false,[jT]):=by kernel_rfl
theorem fit_i {p:PV} (h:FitPar Tryz.prog 4 3 p):∃ n:Int,p=.i .i64 n:=by
 obtain ⟨⟨ag,c,l,hp,rfl,hl⟩,hb⟩:=h
 rw [parI] at hp
 simp only [Option.some.injEq,Prod.mk.injEq] at hp
 obtain ⟨rfl,rfl⟩:=hp
 match l,hl with
 | [_],⟨⟨a,ha⟩,_⟩=>subst ha;exact ⟨a,rfl⟩
theorem own:ownKnob Tryz.prog.godebug=none:=by kernel_rfl
theorem laid:laidOutB Tryz.prog=true:=by kernel_rfl
theorem und4:Tryz.prog.underlying 4=some .bool:=by kernel_rfl
abbrev zs:Value:=.string ⟨#[]⟩
abbrev zi:Value:=.int .i64 0
theorem lifted1005 (os:Os) (started:os.Started) (H:Type) (enc:TypeId × Value→H):ReturnsInHanded {} Tryz.checked os 6 .any (Rows.tradeEmptySpec.pre6 enc Tryz.prog Tryz.f6 Rows.tradeEmptyRow.domain false) (Rows.tradeEmptySpec.post enc Tryz.prog Tryz.f6 false true false false):=by
 refine returnsInHanded_of_change_shaped (C:=Tryz.checked) own started (by kernel_rfl) Tryz.func6
  (ChangeSpec.witness6 (enc:=enc) (C:=Tryz.checked) false ⟨#[],#[.agg #[zs,zs,zs,zs,zs,zs,zi,zi,zi,zi,zi,zi,zi],zi],[]⟩ 8 (by kernel_rfl) (by kernel_rfl) (by kernel_rfl) (by kernel_rfl)) ?_
 intro W base args ds gs before hval hW _ hsz _ _
 refine law_contract (C:=Tryz.checked) (n:=4) (tb:=4) laid (by kernel_rfl) rfl (fun H ds hd=>?_) (by kernel_rfl) und4 (by kernel_rfl) (fun ps hps=>?_) W base args ds gs before hval hW hsz
 ·match ds,hd with
  | [_,_],_=>rfl
 ·match ps,hps with
  | [a,b],⟨ha,hb,_⟩=>
   obtain ⟨q,rfl⟩:=fit_rq ha
   obtain ⟨k,rfl⟩:=fit_i hb
   exact pure1005 q k
theorem joined_of {P:Program} {f:FuncId} {fn:Func} {s:ChangeSpec} {c:OpenClaim} (a1:c.wf (OpenSpec.ofChange s)=true) (a2:laidOutB P=true) (a3:mapsRowed P=true)
  (a4:(fn.params.all (P.readableRec ·) && namedTie P c.named s.vars && (c.stops == []) && (P.stops == []) && (c.knobs == []) && (P.stopKnobs == []))=true)
  (b1:(c.inPlace == P.inPlace f)=true) (b2:(c.unfollowed == P.unfollowed f)=true) (b3:(c.recurses == P.recurses f)=true) (b4:(c.named == P.varsNamed f)=true)
  (d1:((c.maps == (fn.params.toList++s.plain.varTypes P).any (P.mapsRec ·)) && (c.ifaces == (fn.params.toList++s.plain.varTypes P).any (P.ifacesRec ·)) && (c.mapsOut == P.mapsAmong fn.resultTypes.toList) &&
 (c.loops == (fn.params.toList++s.plain.varTypes P).any (P.loopsFrom ·)) && (c.wideKeys == (fn.params.toList++s.plain.varTypes P++fn.resultTypes.toList).any (P.wideKeysFrom ·)))=true)
  (d2:(s.vars.all (P.varReadable ·) && fn.resultTypes.all (fun t=>P.readableRec t && decide (t < P.types.size)) && (c.ifacesOut == fn.resultTypes.toList.any (P.ifacesRec ·)) && (c.loopsOut == fn.resultTypes.toList.any (P.loopsFrom ·)))=true)
  (d3:((c.plainKeys == P.plainKeys) && c.shortTexts.isNone && P.stopsHeard && P.mayEnter && (c.lifted == P.liftsFinal) && (P.make == some c.make))=true)
  (d4:((c.kinds == (if c.domain.isEmpty then [] else fn.params.toList.map fun t=>match P.underlying t with|some (.int k)=>some k|_=>none)) && (c.pinned == c.pinnedBy))=true)
  (d5:((c.veiled == (fn.params.toList++s.plain.varTypes P++fn.resultTypes.toList).any (P.veiledRec ·)) && c.veiledFits P fn.params.toList (fn.params.toList++s.plain.varTypes P++fn.resultTypes.toList))=true):joinedFacts P f fn s c=true:=by
 unfold joinedFacts
 simp only [Bool.and_eq_true] at a4 d1 d2 d3 d4 d5 ⊢
 obtain ⟨⟨⟨⟨⟨a4,a5⟩,a6⟩,a7⟩,a8⟩,a9⟩:=a4
 obtain ⟨⟨⟨⟨e1,e2⟩,e3⟩,e4⟩,e5⟩:=d1
 obtain ⟨⟨⟨e6,e7⟩,e8⟩,e9⟩:=d2
 obtain ⟨⟨⟨⟨⟨f1,f2⟩,f3⟩,f4⟩,f5⟩,f6⟩:=d3
 obtain ⟨f7,f8⟩:=d4
 obtain ⟨f9,g1⟩:=d5
 exact ⟨⟨⟨⟨⟨⟨⟨⟨⟨⟨⟨⟨⟨⟨⟨⟨⟨⟨⟨⟨⟨⟨⟨⟨⟨⟨⟨⟨⟨⟨⟨a1,a2⟩,a3⟩,a4⟩,a5⟩,a6⟩,a7⟩,a8⟩,a9⟩,b1⟩,b2⟩,b3⟩,b4⟩,e1⟩,e2⟩,e3⟩,e4⟩,e5⟩,e6⟩,e7⟩,e8⟩,e9⟩,f1⟩,f2⟩,f3⟩,f4⟩,f5⟩,f6⟩,f7⟩,f8⟩,f9⟩,g1⟩
theorem rowed:mapsRowed Tryz.prog=true:=by kernel_rfl
theorem em1:(Rows.tradeEmptyRow.inPlace == Tryz.prog.inPlace 6)=true:=by kernel_rfl
theorem em2:(Rows.tradeEmptyRow.unfollowed == Tryz.prog.unfollowed 6)=true:=by kernel_rfl
theorem em3:(Rows.tradeEmptyRow.recurses == Tryz.prog.recurses 6)=true:=by kernel_rfl
theorem em4:(Rows.tradeEmptyRow.named == Tryz.prog.varsNamed 6)=true:=by kernel_rfl
theorem em5:Tryz.checked.prog.funcNamed Rows.tradeEmptyRow.func=some 6:=by kernel_rfl
theorem em6:joinedFacts Tryz.prog 6 Tryz.f6 Rows.tradeEmptySpec Rows.tradeEmptyRow=true:=
 joined_of (by as_aux_lemma=>kernel_rfl) laid rowed (by as_aux_lemma=>kernel_rfl) em1 em2 em3 em4 (by as_aux_lemma=>kernel_rfl) (by as_aux_lemma=>kernel_rfl) (by as_aux_lemma=>kernel_rfl) (by as_aux_lemma=>kernel_rfl) (by as_aux_lemma=>kernel_rfl)
theorem em7:Tryz.f6.isInstance Tryz.prog Rows.tradeEmptyRow.origin Rows.tradeEmptyRow.targs:=of_decide_eq_true (by kernel_rfl)
theorem em8:Tryz.f6.isWrapper Tryz.prog Rows.tradeEmptyRow.wrapper Rows.tradeEmptyRow.mainSum:=by
 unfold Func.isWrapper;first|(rw [if_pos (by decide +kernel)];kernel_rfl)|(rw [if_neg (by decide +kernel)];exact ⟨rfl,rfl⟩)
theorem empty_over:Rows.tradeEmptyRow.holds Tryz.pinned (OpenSpec.ofChange Rows.tradeEmptySpec):=
 OpenClaim.holds_of_wide 6 Tryz.f6 rfl rfl rfl rfl rfl rfl rfl ⟨rfl,rfl,rfl,rfl,rfl⟩ rfl rfl rfl rfl rfl em5 Tryz.func6 em6 em7 em8
  (fun os started H enc _=>lifted1005 os started H enc)
theorem empty_proved:Rows.TradeEmptySaid:=empty_over
end Go.Proofs.YtahmdjadnlpjoaaGreat
