/- Contracts of functions that the proof uses, shared by the claims of this seat; no statement of its own. Part 71. No conditions. -/
import Derived.ProofKit
import Derived.OpenShut
import Derived.Carry
import Derived.OpenVars
import Derived.HandedShaped
import Derived.KernelRfl
import Derived.Laws.RangeAny
import Derived.Test.YtahmdjadnlpjoaaGreatRows
import Derived.Test.YtahmdjadnlpjoaaGreatU0
set_option linter.all false
set_option maxHeartbeats 8000000
namespace Go.Proofs.YtahmdjadnlpjoaaGreat
open Go.RowKit
set_option maxRecDepth 100000
set_option linter.unusedVariables false
set_option linter.unusedSimpArgs false
set_option maxHeartbeats 8000000
def briefB (q:Req):Bool:=decide ((q.name.size:Int)≤40) && decide ((q.carrier.size:Int)≤40) && decide ((q.kind.size:Int)≤40) && decide ((q.term.size:Int)≤40) && decide ((q.partner.size:Int)≤40) && decide ((q.link.size:Int)≤40)
theorem pure1041 (q:Req):Pure Tryz.prog 51 [q.pv] (.b (briefB q)):=by
 refine zf (cF Tryz.func51 Tryz.f51.eq_1) (by simp) fun hw X hX=>?_
 have qe:=@qR;repeat' first|refine gC (fun hc=>?_) (fun hc=>?_)<;>try contradiction|refine gG ?_|show AK _;intro K H|refine H _ _ ?_;clear H K|refine gJ ?_;try exact trivial|omega
 exact .refl _
def shortB (q:Req):Bool:=briefB q && (!decide (zau q.per=0) || decide (q.per.to - q.per.fro < 14))
theorem pure1080 (q:Req):Pure Tryz.prog 85 [q.pv] (.b (shortB q)):=by
 refine zf (cF Tryz.func85 Tryz.f85.eq_1) (by simp) fun hw X hX=>?_
 by_cases hb:briefB q=true
 ·by_cases hp:zau q.per=0
  ·have h1:=zaX hp
   have e:shortB q=decide (q.per.to - q.per.fro < 14):=by simp [shortB,hb,hp]
   rw [e]
   have qe:=aI qR (aI @hb (aI @hp (aI @decide_true @Bool.not_true)));repeat' first|refine gC (fun hc=>?_) (fun hc=>?_)<;>try contradiction|refine za (pure1041 q) ?_|refine zN (fun _=>pure82 q.per) ?_|refine gG ?_|show AK _;intro K H|refine H _ _ ?_;clear H K|refine gJ ?_;try exact trivial|omega
   exact .refl _
  ·have hpf:=eq_false hp
   have e:shortB q=true:=by simp [shortB,hb,hp]
   rw [e]
   have qe:=aI qR (aI @hb (aI @hpf (aI @decide_false @Bool.not_false)));repeat' first|refine gC (fun hc=>?_) (fun hc=>?_)<;>try contradiction|refine za (pure1041 q) ?_|refine zN (fun _=>pure82 q.per) ?_|refine gG ?_|show AK _;intro K H|refine H _ _ ?_;clear H K|refine gJ ?_;try exact trivial|omega
   exact .refl _
 ·have hbf:briefB q=false:=by simpa using hb
  have e:shortB q=false:=by simp [shortB,hbf]
  rw [e]
  have qe:=aI qR @hbf;repeat' first|refine gC (fun hc=>?_) (fun hc=>?_)<;>try contradiction|refine za (pure1041 q) ?_|refine zN (fun _=>pure82 q.per) ?_|refine gG ?_|show AK _;intro K H|refine H _ _ ?_;clear H K|refine gJ ?_;try exact trivial|omega
  exact .refl _
set_option maxRecDepth 100000
set_option linter.unusedVariables false
set_option linter.unusedSimpArgs false
set_option maxHeartbeats 8000000
theorem pure1107 (s:Slt):Pure Tryz.prog 124 [s.pv,s.pv] (.b true):=by
 refine zf (cF Tryz.func124 Tryz.f124.eq_1) (by simp) fun hw X hX=>?_
 have hwl:s.ls.length≤maxLen:=by
  simp only [wfs,PV.wf,List.length_map] at hw
  omega
 simp only [maxLen] at hwl
 have qe:=aI qR (aI @zbb (aI @decide_true @Bool.not_true));repeat' first|refine gC (fun hc=>?_) (fun hc=>?_)<;>try contradiction|refine zN (fun _=>pure1031 s.sh s.sh) ?_|refine gG ?_|show AK _;intro K H|refine H _ _ ?_;clear H K|refine gJ ?_;try exact trivial|omega
 refine zk (κ:=Nat) (fun k=>⟨[(2,.lp 2 0),(3,.lp 3 0),(5,.p (.i .i64 k))],[(2,.box (s.cells.map .p) false),(3,.box (s.cells.map .p) false)],[],false⟩) (fun k=>k≤s.ls.length) (fun k=>s.ls.length - k) 0 ?_ ?_ ?_
 ·exact sS
 ·simp
 ·intro k hk
  repeat first|refine gG ?_|show AK _;intro K H|refine H _ _ ?_;clear H K|refine gJ ?_;try exact trivial|omega
  (refine gC (fun hc=>?_) (fun hc=>?_)<;>try contradiction)
  ·obtain ⟨x,hx⟩:=zn (i:=k) (l:=s.ls) (by omega)
   have qe:=aI qR (aI @hx (aI @zbb (aI @decide_true (aI @Bool.not_true @Bool.and_self))));repeat' first|refine gC (fun hc=>?_) (fun hc=>?_)<;>try contradiction|refine gG ?_|show AK _;intro K H|refine H _ _ ?_;clear H K|refine gJ ?_;try exact trivial|omega
   exact ⟨k+1,by omega,by omega,by simp⟩
  ·have qe:=@qR;repeat' first|refine gC (fun hc=>?_) (fun hc=>?_)<;>try contradiction|refine gG ?_|show AK _;intro K H|refine H _ _ ?_;clear H K|refine gJ ?_;try exact trivial|omega
   exact .refl _
theorem pure1039 (b:Bk):Pure Tryz.prog 49 [b.pv,b.pv] (.b true):=by
 refine zf (cF Tryz.func49 Tryz.f49.eq_1) (by simp) fun hw X hX=>?_
 have hwl:b.slots.length≤maxLen∧b.wait.length≤maxLen:=by
  simp only [wfs,PV.wf,List.length_map] at hw
  omega
 simp only [maxLen] at hwl
 have qe:=aI qR (aI @zbb (aI @decide_true @Bool.not_true));repeat' first|refine gC (fun hc=>?_) (fun hc=>?_)<;>try contradiction|refine gG ?_|show AK _;intro K H|refine H _ _ ?_;clear H K|refine gJ ?_;try exact trivial|omega
 refine zk (κ:=Nat) (fun k=>⟨[(2,.lp 2 0),(3,.lp 3 0),(5,.p (.i .i64 k))],[(2,.box [.p (.sl 16 (b.slots.map Slt.pv)),.p (.sl 14 (b.wait.map Wsh.pv))] false),(3,.box [.p (.sl 16 (b.slots.map Slt.pv)),.p (.sl 14 (b.wait.map Wsh.pv))] false)],[],false⟩) (fun k=>k≤b.slots.length) (fun k=>b.slots.length - k) 0 ?_ ?_ ?_
 ·exact sS
 ·simp
 ·intro k hk
  repeat first|refine gG ?_|show AK _;intro K H|refine H _ _ ?_;clear H K|refine gJ ?_;try exact trivial|omega
  (refine gC (fun hc=>?_) (fun hc=>?_)<;>try contradiction)
  ·obtain ⟨x,hx⟩:=zn (i:=k) (l:=b.slots) (by omega)
   have qe:=aI qR (aI @hx (aI @zbb (aI @decide_true @Bool.not_true)));repeat' first|refine gC (fun hc=>?_) (fun hc=>?_)<;>try contradiction|refine za (pure1107 x) ?_|refine gG ?_|show AK _;intro K H|refine H _ _ ?_;clear H K|refine gJ ?_;try exact trivial|omega
   all_goals exact ⟨k+1,by omega,by omega,by simp⟩
  ·have qe:=@qR;repeat' first|refine gC (fun hc=>?_) (fun hc=>?_)<;>try contradiction|refine gG ?_|show AK _;intro K H|refine H _ _ ?_;clear H K|refine gJ ?_;try exact trivial|omega
   refine zk (κ:=Nat) (fun k=>⟨[(2,.lp 2 0),(3,.lp 3 0),(6,.p (.i .i64 k))],[(2,.box [.p (.sl 16 (b.slots.map Slt.pv)),.p (.sl 14 (b.wait.map Wsh.pv))] false),(3,.box [.p (.sl 16 (b.slots.map Slt.pv)),.p (.sl 14 (b.wait.map Wsh.pv))] false)],[],false⟩) (fun k=>k≤b.wait.length) (fun k=>b.wait.length - k) 0 ?_ ?_ ?_
   ·exact sS
   ·simp
   ·intro k hk
    repeat first|refine gG ?_|show AK _;intro K H|refine H _ _ ?_;clear H K|refine gJ ?_;try exact trivial|omega
    (refine gC (fun hc=>?_) (fun hc=>?_)<;>try contradiction)
    ·obtain ⟨x,hx⟩:=zn (i:=k) (l:=b.wait) (by omega)
     have qe:=aI qR (aI @hx (aI @zbb (aI @decide_true (aI @Bool.not_true @Bool.and_self))));repeat' first|refine gC (fun hc=>?_) (fun hc=>?_)<;>try contradiction|refine gG ?_|show AK _;intro K H|refine H _ _ ?_;clear H K|refine gJ ?_;try exact trivial|omega
     all_goals exact ⟨k+1,by omega,by omega,by simp⟩
    ·have qe:=@qR;repeat' first|refine gC (fun hc=>?_) (fun hc=>?_)<;>try contradiction|refine gG ?_|show AK _;intro K H|refine H _ _ ?_;clear H K|refine gJ ?_;try exact trivial|omega
     all_goals exact .refl _
set_option maxRecDepth 100000
set_option linter.unusedVariables false
set_option linter.unusedSimpArgs false
set_option maxHeartbeats 8000000
theorem pure1040 (b:Bk) (hb:BkOk b):Pure Tryz.prog 50 [b.pv] b.pv:=by
 obtain ⟨hs,hn,hw1⟩:=hb
 refine zf (cF Tryz.func50 Tryz.f50.eq_1) (by simp) fun hw X hX=>?_
 have qe:=@qR;repeat' first|refine gC (fun hc=>?_) (fun hc=>?_)<;>try contradiction|refine gG ?_|show AK _;intro K H|refine H _ _ ?_;clear H K|refine gJ ?_;try exact trivial|omega
 refine zaO 100 33 16 [(1,.lp 1 0),(2,.lp 2 0),(3,.lp 3 0),(12,.p (.sl 16 (b.slots.map Slt.pv))),(13,.p (.i .i64 b.slots.length)),(14,.p (.i .i64 0))] [(1,.box [.p (.sl 16 (b.slots.map Slt.pv)),.p (.sl 14 (b.wait.map Wsh.pv))] false),(2,.box [.p .nilsl,.p .nilsl] false),(3,.box [.row 100 0,.p .nilsl] false)] ?_ ?_
 ·simp only [Own,zaL,zaB,zbt,zay,qS,Nat.reduceAdd,Nat.reduceMul,Nat.reduceEqDiff,Nat.reduceLeDiff,reduceIte,reduceCtorEq,Nat.reduceBEq,Nat.reduceLT]<;>simp
 refine zk (κ:=Nat) (fun k=>⟨[(1,.lp 1 0),(2,.lp 2 0),(3,.lp 3 0),(12,.p (.sl 16 (b.slots.map Slt.pv))),(13,.p (.i .i64 b.slots.length)),(14,.p (.i .i64 k))],[(1,.box [.p (.sl 16 (b.slots.map Slt.pv)),.p (.sl 14 (b.wait.map Wsh.pv))] false),(2,.box [.p .nilsl,.p .nilsl] false),(3,.box [.row 100 k,.p .nilsl] false),(100,.row 33 16 ((b.slots.take k).map Slt.pv) false)],[],false⟩) (fun k=>k≤b.slots.length) (fun k=>b.slots.length - k) 0 ?_ ?_ ?_
 ·exact sS
 ·simp
 ·intro k hk
  have hlk:(b.slots.take k).length=k:=by rw [List.length_take];omega
  repeat first|refine gG ?_|show AK _;intro K H|refine H _ _ ?_;clear H K|refine gJ ?_;try exact trivial|omega
  (refine gC (fun hc=>?_) (fun hc=>?_)<;>try contradiction)
  ·obtain ⟨s,hx⟩:=zn (i:=k) (l:=b.slots) (by omega)
   obtain ⟨hl1,hl2⟩:=hs s (List.mem_of_getElem? hx)
   have qe:=aI qR @hx;repeat' first|refine gC (fun hc=>?_) (fun hc=>?_)<;>try contradiction|refine gG ?_|show AK _;intro K H|refine H _ _ ?_;clear H K|refine gJ ?_;try exact trivial|omega
   refine zaO 101 97 3 [(1,.lp 1 0),(2,.lp 2 0),(3,.lp 3 0),(12,.p (.sl 16 (b.slots.map Slt.pv))),(13,.p (.i .i64 b.slots.length)),(14,.p (.i .i64 k)),(5,.lp 5 0),(6,.lp 6 0),(26,.p (.sl 3 (s.ls.map Lea.pv))),(27,.p (.i .i64 s.ls.length)),(28,.p (.i .i64 0))] [(1,.box [.p (.sl 16 (b.slots.map Slt.pv)),.p (.sl 14 (b.wait.map Wsh.pv))] false),(2,.box [.p .nilsl,.p .nilsl] false),(3,.box [.row 100 k,.p .nilsl] false),(100,.row 33 16 ((b.slots.take k).map Slt.pv) false),(5,.box (s.cells.map .p) false),(6,.box [.p (.s s.req.name),.p (.s s.req.carrier),.p (.s s.req.kind),.p (.s s.req.term),.p (.s s.req.partner),.p (.s s.req.link),.p (.i .i64 s.req.per.fro),.p (.i .i64 s.req.per.to),.p (.i .i64 s.req.per.days),.p (.i .i64 s.req.minute),.p (.i .i64 s.req.seats),.p (.i .i64 s.req.size),.p (.i .i64 s.req.noise),.p (.s s.holder),.row 101 0,.p (.sl 1 (s.sh.map .s))] false)] ?_ ?_
   ·simp only [Own,zaL,zaB,zbt,zay,qS,Nat.reduceAdd,Nat.reduceMul,Nat.reduceEqDiff,Nat.reduceLeDiff,reduceIte,reduceCtorEq,Nat.reduceBEq,Nat.reduceLT]<;>simp [hlk]
   refine zk (κ:=Nat) (fun i=>⟨[(1,.lp 1 0),(2,.lp 2 0),(3,.lp 3 0),(12,.p (.sl 16 (b.slots.map Slt.pv))),(13,.p (.i .i64 b.slots.length)),(14,.p (.i .i64 k)),(5,.lp 5 0),(6,.lp 6 0),(26,.p (.sl 3 (s.ls.map Lea.pv))),(27,.p (.i .i64 s.ls.length)),(28,.p (.i .i64 i))],[(1,.box [.p (.sl 16 (b.slots.map Slt.pv)),.p (.sl 14 (b.wait.map Wsh.pv))] false),(2,.box [.p .nilsl,.p .nilsl] false),(3,.box [.row 100 k,.p .nilsl] false),(100,.row 33 16 ((b.slots.take k).map Slt.pv) false),(5,.box (s.cells.map .p) false),(6,.box [.p (.s s.req.name),.p (.s s.req.carrier),.p (.s s.req.kind),.p (.s s.req.term),.p (.s s.req.partner),.p (.s s.req.link),.p (.i .i64 s.req.per.fro),.p (.i .i64 s.req.per.to),.p (.i .i64 s.req.per.days),.p (.i .i64 s.req.minute),.p (.i .i64 s.req.seats),.p (.i .i64 s.req.size),.p (.i .i64 s.req.noise),.p (.s s.holder),.row 101 i,.p (.sl 1 (s.sh.map .s))] false),(101,.row 97 3 ((s.ls.take i).map Lea.pv) false)],[],false⟩) (fun i=>i≤s.ls.length) (fun i=>s.ls.length - i) 0 ?_ ?_ ?_
   ·refine gJ ?_;simp [hlk]
   ·simp
   ·intro i hi
    have hli:(s.ls.take i).length=i:=by rw [List.length_take];omega
    repeat first|refine gG ?_|show AK _;intro K H|refine H _ _ ?_;clear H K|refine gJ ?_;try exact trivial|omega
    (refine gC (fun hc=>?_) (fun hc=>?_)<;>try contradiction)
    ·obtain ⟨x,hx2⟩:=zn (i:=i) (l:=s.ls) (by omega)
     have qe:=aI qR (aI @hx2 (aI @hli @hlk));repeat' first|refine gC (fun hc=>?_) (fun hc=>?_)<;>try contradiction|refine gG ?_|show AK _;intro K H|refine H _ _ ?_;clear H K|refine gJ ?_;try exact trivial|omega
     exact ⟨i+1,by omega,by omega,by simp,⟨rfl,by rw [zan hx2];simp⟩,by simp;omega⟩
    ·have e:i=s.ls.length:=by omega
     subst e
     refine run_exit ?_
     refine (show Run _ (.ops false _) _ _ from run_region (run_partN 3 ?_))
     simp only [List.take_succ_cons,List.take_zero,List.drop_succ_cons,List.drop_zero]
     have qe:=aI qR (aI @zaf (aI @hlk @List.take_length.{0}));repeat' first|refine gC (fun hc=>?_) (fun hc=>?_)<;>try contradiction|refine gG ?_|show AK _;intro K H|refine H _ _ ?_;clear H K|refine gJ ?_;try exact trivial|omega
     refine zbO (ghost_pub 41 s.pv (by simp only [qS,Nat.reduceAdd,Nat.reduceMul,Nat.reduceEqDiff,Nat.reduceLeDiff,reduceIte,reduceCtorEq,Nat.reduceBEq,Nat.reduceLT,zaf]<;>rfl) (by first|trivial|simp) (.refl _)) ?_
     rintro _ rfl
     refine zE ?_
     have qe:=aI qR @hlk;repeat' first|refine gC (fun hc=>?_) (fun hc=>?_)<;>try contradiction|refine gG ?_|show AK _;intro K H|refine H _ _ ?_;clear H K|refine gJ ?_;try exact trivial|omega
     exact ⟨k+1,by omega,by omega,by simp,⟨rfl,by rw [zan hx];simp⟩,by simp;omega⟩
  ·have e:k=b.slots.length:=by omega
   subst e
   have qe:=aI qR @List.take_length.{0};repeat' first|refine gC (fun hc=>?_) (fun hc=>?_)<;>try contradiction|refine gG ?_|show AK _;intro K H|refine H _ _ ?_;clear H K|refine gJ ?_;try exact trivial|omega
   refine zaO 102 66 14 [(2,.lp 2 0),(3,.lp 3 0),(47,.p (.sl 14 (b.wait.map Wsh.pv))),(48,.p (.i .i64 b.wait.length)),(49,.p (.i .i64 0))] [(1,.box [.p (.sl 16 (b.slots.map Slt.pv)),.p (.sl 14 (b.wait.map Wsh.pv))] false),(2,.box [.p .nilsl,.p .nilsl] false),(3,.box [.row 100 b.slots.length,.row 102 0] false),(100,.row 33 16 (b.slots.map Slt.pv) false)] ?_ ?_
   ·simp only [Own,zaL,zaB,zbt,zay,qS,Nat.reduceAdd,Nat.reduceMul,Nat.reduceEqDiff,Nat.reduceLeDiff,reduceIte,reduceCtorEq,Nat.reduceBEq,Nat.reduceLT]<;>simp
   refine zk (κ:=Nat) (fun k=>⟨[(2,.lp 2 0),(3,.lp 3 0),(47,.p (.sl 14 (b.wait.map Wsh.pv))),(48,.p (.i .i64 b.wait.length)),(49,.p (.i .i64 k))],[(1,.box [.p (.sl 16 (b.slots.map Slt.pv)),.p (.sl 14 (b.wait.map Wsh.pv))] false),(2,.box [.p .nilsl,.p .nilsl] false),(3,.box [.row 100 b.slots.length,.row 102 k] false),(100,.row 33 16 (b.slots.map Slt.pv) false),(102,.row 66 14 ((b.wait.take k).map Wsh.pv) false)],[],false⟩) (fun k=>k≤b.wait.length) (fun k=>b.wait.length - k) 0 ?_ ?_ ?_
   ·exact sS
   ·simp
   ·intro k hk2
    have hl2:(b.wait.take k).length=k:=by rw [List.length_take];omega
    repeat first|refine gG ?_|show AK _;intro K H|refine H _ _ ?_;clear H K|refine gJ ?_;try exact trivial|omega
    (refine gC (fun hc=>?_) (fun hc=>?_)<;>try contradiction)
    ·obtain ⟨w,hx2⟩:=zn (i:=k) (l:=b.wait) (by omega)
     have qe:=aI qR (aI @hx2 @hl2);repeat' first|refine gC (fun hc=>?_) (fun hc=>?_)<;>try contradiction|refine gG ?_|show AK _;intro K H|refine H _ _ ?_;clear H K|refine gJ ?_;try exact trivial|omega
     exact ⟨k+1,by omega,by omega,by simp,⟨rfl,by rw [zan hx2];simp⟩,by simp;omega⟩
    ·have e2:k=b.wait.length:=by omega
     subst e2
     have qe:=aI qR (aI @zaf @List.take_length.{0});repeat' first|refine gC (fun hc=>?_) (fun hc=>?_)<;>try contradiction|refine gG ?_|show AK _;intro K H|refine H _ _ ?_;clear H K|refine gJ ?_;try exact trivial|omega
     exact .refl _
set_option maxRecDepth 100000
set_option linter.unusedVariables false
set_option linter.unusedSimpArgs false
set_option maxHeartbeats 8000000
theorem chkRq_req {q:Req} (h:chkRq q=0):chkReq q=0:=by
 have a:=fE0 h
 have h1:zaH q.name=0:=a _ (by simp)
 have h2:optE q.term=0:=a _ (by simp)
 have h3:flightE q.kind=0:=a _ (by simp)
 have h4:zau q.per=0:=a _ (by simp)
 have h5:rng q.minute 0 1439=0:=a _ (by simp)
 have h6:=rng_0.1 (a (rng q.seats 0 999) (by simp))
 have h7:=rng_0.1 (a (rng q.size 1 9) (by simp))
 have h8:=rng_0.1 (a (rng q.noise 0 99) (by simp))
 rw [chkReq,za3 h1,za3 h3,za3 h2,za3 h4,za3 h5,fE_one]
 exact loadE_0 (by omega)
theorem chkQ_req {q:Req} (h:chkQ q=0):chkReq q=0:=chkRq_req (fE0 h _ (by simp))
end Go.Proofs.YtahmdjadnlpjoaaGreat
namespace Go.Proofs.YtahmdjadnlpjoaaGreat
open Go.RowKit Go.ChangeShapes Go.WideShapes Go.ChangeAt
set_option maxRecDepth 100000
set_option linter.unusedVariables false
set_option linter.unusedSimpArgs false
set_option maxHeartbeats 4000000
abbrev jT:CP:=.i .i64
theorem own:ownKnob Tryz.prog.godebug=none:=by kernel_rfl
theorem laid:laidOutB Tryz.prog=true:=by kernel_rfl
theorem und4:Tryz.prog.underlying 4=some .bool:=by kernel_rfl
abbrev zs:Value:=.string ⟨#[]⟩
abbrev zi:Value:=.int .i64 0
theorem joined_of {P:Program} {f:FuncId} {fn:Func} {s:ChangeSpec} {c:OpenClaim} (a1:c.wf (OpenSpec.ofChange s)=true) (a2:laidOutB P=true) (a3:mapsRowed P=true)
  (a4:(fn.params.all (P.readableRec ·) && namedTie P c.named s.vars && (c.stops == []) && (P.stops == []) && (c.knobs == []) && (P.stopKnobs == []))=true)
  (b1:(c.inPlace == P.inPlace f)=true) (b2:(c.unfollowed == P.unfollowed f)=true) (b3:(c.recurses == P.recurses f)=true) (b4:(c.named == P.varsNamed f)=true)
  (d1:((c.maps == (fn.params.toList++s.plain.varTypes P).any (P.mapsRec ·)) && (c.ifaces == (fn.params.toList++s.plain.varTypes P).any (P.ifacesRec ·)) && (c.mapsOut == P.mapsAmong fn.resultTypes.toList) &&
 (c.loops == (fn.params.toList++s.plain.varTypes P).any (P.loopsFrom ·)) && (c.wideKeys == (fn.params.toList++s.plain.varTypes P++fn.resultTypes.toList).any (P.wideKeysFrom ·)))=true)
  (d2:(s.vars.all (P.varReadable ·) && fn.resultTypes.all (fun t=>P.readableRec t && decide (t < P.types.size)) && (c.ifacesOut == fn.resultTypes.toList.any (P.ifacesRec ·)) && (c.loopsOut == fn.resultTypes.toList.any (P.loopsFrom ·)))=true)
  (d3:((c.plainKeys == P.plainKeys) && c.shortTexts.isNone && P.stopsHeard && P.mayEnter && (c.lifted == P.liftsFinal) && (P.make == some c.make))=true)
  (d4:((c.kinds == (if c.domain.isEmpty then [] else fn.params.toList.map fun t=>match P.underlying t with|some (.int k)=>some k|_=>none)) && (c.pinned == c.pinnedBy))=true)
  (d5:((c.veiled == (fn.params.toList++s.plain.varTypes P++fn.resultTypes.toList).any (P.veiledRec ·)) && c.veiledFits P fn.params.toList (fn.params.toList++s.plain.varTypes P++fn.resultTypes.toList))=true):joinedFacts P f fn s c=true:=by
 unfold joinedFacts
 simp only [Bool.and_eq_true] at a4 d1 d2 d3 d4 d5 ⊢
 obtain ⟨⟨⟨⟨⟨a4,a5⟩,a6⟩,a7⟩,a8⟩,a9⟩:=a4
 obtain ⟨⟨⟨⟨e1,e2⟩,e3⟩,e4⟩,e5⟩:=d1
 obtain ⟨⟨⟨e6,e7⟩,e8⟩,e9⟩:=d2
 obtain ⟨⟨⟨⟨⟨f1,f2⟩,f3⟩,f4⟩,f5⟩,f6⟩:=d3
 obtain ⟨f7,f8⟩:=d4
 obtain ⟨f9,g1⟩:=d5
 exact ⟨⟨⟨⟨⟨⟨⟨⟨⟨⟨⟨⟨⟨⟨⟨⟨⟨⟨⟨⟨⟨⟨⟨⟨⟨⟨⟨⟨⟨⟨⟨a1,a2⟩,a3⟩,a4⟩,a5⟩,a6⟩,a7⟩,a8⟩,a9⟩,b1⟩,b2⟩,b3⟩,b4⟩,e1⟩,e2⟩,e3⟩,e4⟩,e5⟩,e6⟩,e7⟩,e8⟩,e9⟩,f1⟩,f2⟩,f3⟩,f4⟩,f5⟩,f6⟩,f7⟩,f8⟩,f9⟩,g1⟩
theorem rowed:mapsRowed Tryz.prog=true:=by kernel_rfl
end Go.Proofs.YtahmdjadnlpjoaaGreat
namespace Go.Proofs.YtahmdjadnlpjoaaGreat
open Go.RowKit
set_option maxRecDepth 100000
set_option linter.unusedVariables false
set_option linter.unusedSimpArgs false
set_option maxHeartbeats 8000000
structure Exc where
 slots:List ByteArray
 carrier:ByteArray
 slot:ByteArray
 to:ByteArray
 lease:Lea
 day:Int
abbrev Exc.pv (x:Exc):PV:=.agg [.sl 1 (x.slots.map .s),.s x.carrier,.s x.slot,.s x.to,.s x.lease.carrier,.i .i64 x.lease.fro,.i .i64 x.lease.to,.i .i64 x.day]
def bigX (x:Exc):Bool:=(((decide ((10:Int) < x.slots.length) || decide ((40:Int) < x.carrier.size)) || decide ((40:Int) < x.slot.size)) || decide ((40:Int) < x.to.size)) || decide ((40:Int) < x.lease.carrier.size)
def okW40 (s:ByteArray):Bool:=!decide ((40:Int) < s.size)
def narrowB (x:Exc):Bool:=!bigX x && x.slots.all okW40
theorem pure1034 (x:Exc):Pure Tryz.prog 45 [x.pv] (.b (narrowB x)):=by
 refine zf (cF Tryz.func45 Tryz.f45.eq_1) (by simp) fun hw X hX=>?_
 simp only [wfs,PV.wf,List.length_map,maxLen] at hw
 have qe:=@qR;repeat' first|refine gC (fun hc=>?_) (fun hc=>?_)<;>try contradiction|refine gG ?_|show AK _;intro K H|refine H _ _ ?_;clear H K|refine gJ ?_;try exact trivial|omega
 ·have:bigX x=true:=by simpa [bigX] using hc
  rw [narrowB,this];exact .refl _
 have hsh:bigX x=false:=by simpa [bigX] using hc
 refine zk (κ:=Nat) (fun i=>⟨[(35,.p (.sl 1 (x.slots.map .s))),(36,.p (.i .i64 x.slots.length)),(37,.p (.i .i64 i))],[],[],false⟩) (fun i=>i≤x.slots.length∧∀ y ∈ x.slots.take i,okW40 y=true) (fun i=>x.slots.length - i) 0 ?_ ?_ ?_
 ·exact sS
 ·simp
 ·intro i hi
  repeat first|refine gG ?_|show AK _;intro K H|refine H _ _ ?_;clear H K|refine gJ ?_;try exact trivial|omega
  (refine gC (fun hc=>?_) (fun hc=>?_)<;>try contradiction)
  ·obtain ⟨y,hx⟩:=zn (i:=i) (l:=x.slots) (by omega)
   have qe:=aI qR @hx;repeat' first|refine gC (fun hc=>?_) (fun hc=>?_)<;>try contradiction|refine gG ?_|show AK _;intro K H|refine H _ _ ?_;clear H K|refine gJ ?_;try exact trivial|omega
   ·rw [narrowB,hsh,all_no hx (by rw [okW40,decide_eq_true hc];rfl)];exact .refl _
   ·exact ⟨i+1,⟨by omega,all_next hi.2 hx (by rw [okW40,decide_eq_false (by omega)];rfl)⟩,by omega,by simp⟩
  ·have qe:=@qR;repeat' first|refine gC (fun hc=>?_) (fun hc=>?_)<;>try contradiction|refine gG ?_|show AK _;intro K H|refine H _ _ ?_;clear H K|refine gJ ?_;try exact trivial|omega
   have e:i=x.slots.length:=by omega
   subst e
   rw [narrowB,hsh,all_end hi.2];exact .refl _
def bigS (s:Slt):Bool:=((!shortB s.req || decide ((40:Int) < s.holder.size)) || (decide ((4:Int) < s.ls.length) && !decide ((s.ls.length:Int)=9))) || decide ((5:Int) < s.sh.length)
def okL40 (l:Lea):Bool:=okW40 l.carrier
def shSl (s:Slt):Bool:=!bigS s && (s.ls.all okL40 && s.sh.all okW40)
theorem pure1098 (s:Slt):Pure Tryz.prog 16 [s.pv] (.b (shSl s)):=by
 refine zf (cF Tryz.func16 Tryz.f16.eq_1) (by simp) fun hw X hX=>?_
 simp only [wfs,PV.wf,List.length_map,maxLen] at hw
 have qe:=@qR;repeat' first|refine gC (fun hc=>?_) (fun hc=>?_)<;>try contradiction|refine za (pure1080 s.req) ?_|refine gG ?_|show AK _;intro K H|refine H _ _ ?_;clear H K|refine gJ ?_;try exact trivial|omega
 ·have:bigS s=true:=by simpa [bigS] using hc
  rw [shSl,this];exact .refl _
 have hsh:bigS s=false:=by simpa [bigS] using hc
 refine zk (κ:=Nat) (fun i=>⟨[(1,.lp 1 0),(3,.p (.i .i64 i))],[(1,.box (s.cells.map .p) false)],[],false⟩) (fun i=>i≤s.ls.length∧∀ y ∈ s.ls.take i,okL40 y=true) (fun i=>s.ls.length - i) 0 ?_ ?_ ?_
 ·exact sS
 ·simp
 ·intro i hi
  repeat first|refine gG ?_|show AK _;intro K H|refine H _ _ ?_;clear H K|refine gJ ?_;try exact trivial|omega
  (refine gC (fun hc=>?_) (fun hc=>?_)<;>try contradiction)
  ·obtain ⟨y,hx⟩:=zn (i:=i) (l:=s.ls) (by omega)
   have qe:=aI qR @hx;repeat' first|refine gC (fun hc=>?_) (fun hc=>?_)<;>try contradiction|refine gG ?_|show AK _;intro K H|refine H _ _ ?_;clear H K|refine gJ ?_;try exact trivial|omega
   ·rw [shSl,hsh,all_no hx (by rw [okL40,okW40,decide_eq_true hc];rfl)];exact .refl _
   ·exact ⟨i+1,⟨by omega,all_next hi.2 hx (by rw [okL40,okW40,decide_eq_false (by omega)];rfl)⟩,by omega,by simp⟩
  ·have e:i=s.ls.length:=by omega
   subst e
   have ha:=all_end hi.2
   have qe:=@qR;repeat' first|refine gC (fun hc=>?_) (fun hc=>?_)<;>try contradiction|refine gG ?_|show AK _;intro K H|refine H _ _ ?_;clear H K|refine gJ ?_;try exact trivial|omega
   refine zk (κ:=Nat) (fun i=>⟨[(1,.lp 1 0),(4,.p (.i .i64 i))],[(1,.box (s.cells.map .p) false)],[],false⟩) (fun i=>i≤s.sh.length∧∀ y ∈ s.sh.take i,okW40 y=true) (fun i=>s.sh.length - i) 0 ?_ ?_ ?_
   ·exact sS
   ·simp
   ·intro i hi
    repeat first|refine gG ?_|show AK _;intro K H|refine H _ _ ?_;clear H K|refine gJ ?_;try exact trivial|omega
    (refine gC (fun hc=>?_) (fun hc=>?_)<;>try contradiction)
    ·obtain ⟨y,hx⟩:=zn (i:=i) (l:=s.sh) (by omega)
     have qe:=aI qR @hx;repeat' first|refine gC (fun hc=>?_) (fun hc=>?_)<;>try contradiction|refine gG ?_|show AK _;intro K H|refine H _ _ ?_;clear H K|refine gJ ?_;try exact trivial|omega
     ·rw [shSl,hsh,ha,all_no hx (by rw [okW40,decide_eq_true hc];rfl)];exact .refl _
     ·exact ⟨i+1,⟨by omega,all_next hi.2 hx (by rw [okW40,decide_eq_false (by omega)];rfl)⟩,by omega,by simp⟩
    ·have qe:=@qR;repeat' first|refine gC (fun hc=>?_) (fun hc=>?_)<;>try contradiction|refine gG ?_|show AK _;intro K H|refine H _ _ ?_;clear H K|refine gJ ?_;try exact trivial|omega
     have e:i=s.sh.length:=by omega
     subst e
     rw [shSl,hsh,ha,all_end hi.2];exact .refl _
def bigB (b:Bk):Bool:=(decide ((5:Int) < b.slots.length) && !decide ((b.slots.length:Int)=65)) || (decide ((5:Int) < b.wait.length) && !decide ((b.wait.length:Int)=65))
def okWs (w:Wsh):Bool:=shortB w.req
def shBk (b:Bk):Bool:=!bigB b && (b.slots.all shSl && b.wait.all okWs)
theorem pure1033 (b:Bk):Pure Tryz.prog 15 [b.pv] (.b (shBk b)):=by
 refine zf (cF Tryz.func15 Tryz.f15.eq_1) (by simp) fun hw X hX=>?_
 simp only [wfs,PV.wf,List.length_map,maxLen] at hw
 have qe:=@qR;repeat' first|refine gC (fun hc=>?_) (fun hc=>?_)<;>try contradiction|refine gG ?_|show AK _;intro K H|refine H _ _ ?_;clear H K|refine gJ ?_;try exact trivial|omega
 ·have:bigB b=true:=by simpa [bigB] using hc
  rw [shBk,this];exact .refl _
 have hsh:bigB b=false:=by simpa [bigB] using hc
 refine zk (κ:=Nat) (fun i=>⟨[(1,.lp 1 0),(3,.p (.i .i64 i))],[(1,.box [.p (.sl 16 (b.slots.map Slt.pv)),.p (.sl 14 (b.wait.map Wsh.pv))] false)],[],false⟩) (fun i=>i≤b.slots.length∧∀ y ∈ b.slots.take i,shSl y=true) (fun i=>b.slots.length - i) 0 ?_ ?_ ?_
 ·exact sS
 ·simp
 ·intro i hi
  repeat first|refine gG ?_|show AK _;intro K H|refine H _ _ ?_;clear H K|refine gJ ?_;try exact trivial|omega
  (refine gC (fun hc=>?_) (fun hc=>?_)<;>try contradiction)
  ·obtain ⟨y,hx⟩:=zn (i:=i) (l:=b.slots) (by omega)
   have qe:=aI qR @hx;repeat' first|refine gC (fun hc=>?_) (fun hc=>?_)<;>try contradiction|refine za (pure1098 y) ?_|refine gG ?_|show AK _;intro K H|refine H _ _ ?_;clear H K|refine gJ ?_;try exact trivial|omega
   ·rw [shBk,hsh,all_no hx hc];exact .refl _
   ·exact ⟨i+1,⟨by omega,all_next hi.2 hx hc⟩,by omega,by simp⟩
  ·have e:i=b.slots.length:=by omega
   subst e
   have ha:=all_end hi.2
   have qe:=@qR;repeat' first|refine gC (fun hc=>?_) (fun hc=>?_)<;>try contradiction|refine gG ?_|show AK _;intro K H|refine H _ _ ?_;clear H K|refine gJ ?_;try exact trivial|omega
   refine zk (κ:=Nat) (fun i=>⟨[(1,.lp 1 0),(4,.p (.i .i64 i))],[(1,.box [.p (.sl 16 (b.slots.map Slt.pv)),.p (.sl 14 (b.wait.map Wsh.pv))] false)],[],false⟩) (fun i=>i≤b.wait.length∧∀ y ∈ b.wait.take i,okWs y=true) (fun i=>b.wait.length - i) 0 ?_ ?_ ?_
   ·exact sS
   ·simp
   ·intro i hi
    repeat first|refine gG ?_|show AK _;intro K H|refine H _ _ ?_;clear H K|refine gJ ?_;try exact trivial|omega
    (refine gC (fun hc=>?_) (fun hc=>?_)<;>try contradiction)
    ·obtain ⟨y,hx⟩:=zn (i:=i) (l:=b.wait) (by omega)
     have qe:=aI qR @hx;repeat' first|refine gC (fun hc=>?_) (fun hc=>?_)<;>try contradiction|refine za (pure1080 y.req) ?_|refine gG ?_|show AK _;intro K H|refine H _ _ ?_;clear H K|refine gJ ?_;try exact trivial|omega
     ·rw [shBk,hsh,ha,all_no hx (by rw [okWs];exact hc)];exact .refl _
     ·exact ⟨i+1,⟨by omega,all_next hi.2 hx (by rw [okWs];exact hc)⟩,by omega,by simp⟩
    ·have qe:=@qR;repeat' first|refine gC (fun hc=>?_) (fun hc=>?_)<;>try contradiction|refine gG ?_|show AK _;intro K H|refine H _ _ ?_;clear H K|refine gJ ?_;try exact trivial|omega
     have e:i=b.wait.length:=by omega
     subst e
     rw [shBk,hsh,ha,all_end hi.2];exact .refl _
set_option maxRecDepth 100000
set_option linter.unusedVariables false
set_option linter.unusedSimpArgs false
set_option maxHeartbeats 8000000
theorem fE_snoc (l:List Int) (x:Int):zg (l++[x])=if zg l=0 then x else zg l:=by rw [fE_app,fE_one]
theorem fE_pre {l:List Int} {i:Nat} (h:zg (l.take i)≠0):zg l=zg (l.take i):=by
 have:=fE_app (l.take i) (l.drop i)
 rw [List.take_append_drop,if_neg h] at this;exact this
theorem fE_all {l:List Int} {i:Nat} {e a:Int} (he:e=zg (a::l.take i)) (h:i < l.length→e≠0):e=zg (a::l):=by
 by_cases hi:i < l.length
 ·have h1:=h hi
  rw [he] at h1 ⊢
  exact (fE_pre (l:=a::l) (i:=i+1) h1).symm
 ·rw [he,List.take_of_length_le (by omega)]
theorem fE_step {l:List Int} {i:Nat} {a e x:Int} (he:e=zg (a::l.take i)) (h0:e=0) (hx:l[i]?=some x):x=zg (a::l.take (i+1)):=by
 rw [zan hx]
 have:=fE_snoc (a::l.take i) x
 rw [←he,if_pos h0] at this;exact this.symm
def chkS1 (s:Slt):Int:=zg [chkQ s.req,zaH s.holder,if 8 < (s.ls.length:Int) then 5 else 0]
def chkS2 (s:Slt):Int:=zg (chkS1 s::s.ls.mapIdx (leaErr s))
def chkS3 (s:Slt):Int:=zg [chkS2 s,if 4 < (s.sh.length:Int) then 5 else 0]
theorem fE_out (a:Int) (l:List Int):zg [a,zg l]=zg (a::l):=by
 by_cases h:a=0
 ·rw [za3 h,za3 h,fE_one]
 ·rw [za2 h,za2 h]
theorem fE_cat (l r:List Int):zg (zg l::r)=zg (l++r):=by
 rw [fE_app]
 by_cases h:zg l=0
 ·rw [za3 h,if_pos h]
 ·rw [za2 h,if_neg h]
theorem chkS_all (s:Slt):chkSlt s=zg (chkS3 s::s.sh.mapIdx (shaErr s)):=by
 rw [chkS3,fE_cat,List.cons_append,List.cons_append,List.nil_append,chkS2,fE_cat,List.cons_append,chkS1,fE_cat,chkSlt]
 rw [fE_app [_,_,_]]
 have e:zg [zg (s.ls.mapIdx (leaErr s)),if 4 < (s.sh.length:Int) then 5 else 0,zg (s.sh.mapIdx (shaErr s))]=zg (s.ls.mapIdx (leaErr s)++(if 4 < (s.sh.length:Int) then 5 else 0)::s.sh.mapIdx (shaErr s)):=by
  rw [fE_cat,fE_app,fE_app (s.ls.mapIdx (leaErr s)),fE_out]
 rw [←e]
 exact fE_app [_,_,_] [_,_,_]
abbrev stS (s:Slt) (e:Int):St:=⟨[(1,.lp 1 0),(3,.p (.i .i64 e))],[(1,.box (s.cells.map .p) false)],[],false⟩
theorem pure1092 (s:Slt):Pure Tryz.prog 27 [s.pv] (.i .i64 (chkSlt s)):=by
 refine zf (cF Tryz.func27 Tryz.f27.eq_1) (by simp) fun hw X hX=>?_
 simp only [wfs,PV.wf,List.length_map,maxLen] at hw
 have hS1:chkS1 s=if zg [chkQ s.req,zaH s.holder]=0 then (if 8 < (s.ls.length:Int) then 5 else 0) else zg [chkQ s.req,zaH s.holder]:=fE_snoc [_,_] _
 have hS3:chkS3 s=if chkS2 s=0 then (if 4 < (s.sh.length:Int) then 5 else 0) else chkS2 s:=by
  have:=fE_snoc [chkS2 s] (if 4 < (s.sh.length:Int) then 5 else 0)
  rw [fE_one] at this;exact this
 have qe:=@qR;repeat' first|refine za (pure1044 s.req) ?_|refine za (pure1133 s.holder) ?_|refine za (pure1024 [_,_]) ?_|refine gG ?_|show AK _;intro K H|refine H _ _ ?_;clear H K|refine gJ ?_;try exact trivial|omega
 refine run_cut (stS s (chkS1 s)) ?_ ?_
 ·(refine gC (fun hc=>?_) (fun hc=>?_)<;>try contradiction)
  ·rw [hS1,if_pos hc.1,if_pos hc.2]
   repeat' first|refine gC (fun hc=>?_) (fun hc=>?_)<;>try contradiction|refine gG ?_|show AK _;intro K H|refine H _ _ ?_;clear H K|refine gJ ?_;try exact trivial|omega
   all_goals (show Cov _ _;simp only [qS,Nat.reduceAdd,Nat.reduceMul,Nat.reduceEqDiff,Nat.reduceLeDiff,reduceIte,reduceCtorEq,Nat.reduceBEq,Nat.reduceLT]<;>simp)
  ·have e:chkS1 s=zg [chkQ s.req,zaH s.holder]:=by
    rw [hS1];split
    ·rename_i h;rw [if_neg (by have:=hc h;omega),h]
    ·rfl
   rw [e]
   repeat' first|refine gC (fun hc=>?_) (fun hc=>?_)<;>try contradiction|refine gG ?_|show AK _;intro K H|refine H _ _ ?_;clear H K|refine gJ ?_;try exact trivial|omega
   all_goals (show Cov _ _;simp only [qS,Nat.reduceAdd,Nat.reduceMul,Nat.reduceEqDiff,Nat.reduceLeDiff,reduceIte,reduceCtorEq,Nat.reduceBEq,Nat.reduceLT]<;>simp)
 refine run_seq (run_cut (stS s (chkS2 s)) ?_ ?_)
 ·repeat' first|refine gC (fun hc=>?_) (fun hc=>?_)<;>try contradiction|refine gG ?_|show AK _;intro K H|refine H _ _ ?_;clear H K|refine gJ ?_;try exact trivial|omega
  refine zk (κ:=Nat × Int) (fun k=>⟨[(1,.lp 1 0),(3,.p (.i .i64 k.2)),(4,.p (.i .i64 k.1))],[(1,.box (s.cells.map .p) false)],[],false⟩) (fun k=>k.1≤s.ls.length∧k.2=zg (chkS1 s::(s.ls.mapIdx (leaErr s)).take k.1)) (fun k=>s.ls.length - k.1) (0,chkS1 s) ?_ ?_ ?_
  ·exact sS
  ·simp [fE_one]
  ·rintro ⟨i,e⟩ ⟨hi,he⟩
   simp only at hi he
   repeat first|refine gG ?_|show AK _;intro K H|refine H _ _ ?_;clear H K|refine gJ ?_;try exact trivial|omega
   (refine gC (fun hc=>?_) (fun hc=>?_)<;>try contradiction)
   ·obtain ⟨h1,h2⟩:=hc
    obtain ⟨x,hx⟩:=zn (i:=i) (l:=s.ls) (by omega)
    obtain ⟨y,hy⟩:=zn (i:=i - 1) (l:=s.ls) (by omega)
    have e1:((i:Int) - 1).toNat=i - 1:=by omega
    have hl:leaErr s i x=if zg [chkLea x,leaOf s.raw x]=0 then (if 0 < (i:Int)∧x.fro≤y.to then 15 else 0) else zg [chkLea x,leaOf s.raw x]:=by
     rw [leaErr,hy];exact fE_snoc [_,_] _
    have hn:=fE_step he h2 (zI (f:=leaErr s) hx)
    by_cases c1:zg [chkLea x,leaOf s.raw x]=0
    ·have c1':=eq_true c1
     rw [if_pos c1] at hl
     by_cases c2:0 < (i:Int)
     ·have c2':=eq_true c2
      by_cases c3:x.fro≤y.to
      ·have c3':=eq_true c3
       rw [if_pos ⟨c2,c3⟩] at hl
       rw [hl] at hn
       have qe:=aI qR (aI @hx (aI @hy (aI @e1 (aI @c1' (aI @c2' (aI @c3' @decide_true))))));repeat' first|refine gC (fun hc=>?_) (fun hc=>?_)<;>try contradiction|refine za (pure1131 x) ?_|refine za (pure1132 s x) ?_|refine za (pure1024 [_,_]) ?_|refine gG ?_|show AK _;intro K H|refine H _ _ ?_;clear H K|refine gJ ?_;try exact trivial|omega
       all_goals exact ⟨(i+1,15),⟨by omega,hn⟩,by simp;omega,by simp⟩
      ·have c3':=eq_false c3
       rw [if_neg (fun k=>c3 k.2)] at hl
       rw [hl] at hn
       have qe:=aI qR (aI @hx (aI @hy (aI @e1 (aI @c1' (aI @c2' (aI @c3' (aI @decide_true @decide_false)))))));repeat' first|refine gC (fun hc=>?_) (fun hc=>?_)<;>try contradiction|refine za (pure1131 x) ?_|refine za (pure1132 s x) ?_|refine za (pure1024 [_,_]) ?_|refine gG ?_|show AK _;intro K H|refine H _ _ ?_;clear H K|refine gJ ?_;try exact trivial|omega
       all_goals exact ⟨(i+1,zg [chkLea x,leaOf s.raw x]),⟨by omega,by rw [c1];exact hn⟩,by simp;omega,by simp⟩
     ·have c2':=eq_false c2
      rw [if_neg (fun k=>c2 k.1)] at hl
      rw [hl] at hn
      have qe:=aI qR (aI @hx (aI @hy (aI @e1 (aI @c1' (aI @c2' (aI @decide_true @decide_false))))));repeat' first|refine gC (fun hc=>?_) (fun hc=>?_)<;>try contradiction|refine za (pure1131 x) ?_|refine za (pure1132 s x) ?_|refine za (pure1024 [_,_]) ?_|refine gG ?_|show AK _;intro K H|refine H _ _ ?_;clear H K|refine gJ ?_;try exact trivial|omega
      all_goals exact ⟨(i+1,zg [chkLea x,leaOf s.raw x]),⟨by omega,by rw [c1];exact hn⟩,by simp;omega,by simp⟩
    ·have c1':=eq_false c1
     rw [if_neg c1] at hl
     rw [hl] at hn
     have qe:=aI qR (aI @hx (aI @hy (aI @e1 (aI @c1' @decide_false))));repeat' first|refine gC (fun hc=>?_) (fun hc=>?_)<;>try contradiction|refine za (pure1131 x) ?_|refine za (pure1132 s x) ?_|refine za (pure1024 [_,_]) ?_|refine gG ?_|show AK _;intro K H|refine H _ _ ?_;clear H K|refine gJ ?_;try exact trivial|omega
     all_goals exact ⟨(i+1,zg [chkLea x,leaOf s.raw x]),⟨by omega,hn⟩,by simp;omega,by simp⟩
   ·have hf:=fE_all he (fun h=>hc (by simpa using h))
    repeat' first|refine gC (fun hc=>?_) (fun hc=>?_)<;>try contradiction|refine gG ?_|show AK _;intro K H|refine H _ _ ?_;clear H K|refine gJ ?_;try exact trivial|omega
    all_goals (show Cov _ _;simp only [qS,Nat.reduceAdd,Nat.reduceMul,Nat.reduceEqDiff,Nat.reduceLeDiff,reduceIte,reduceCtorEq,Nat.reduceBEq,Nat.reduceLT,hf]<;>simp [chkS2])
 repeat' first|refine gG ?_|show AK _;intro K H|refine H _ _ ?_;clear H K|refine gJ ?_;try exact trivial|omega
 refine run_cut (stS s (chkS3 s)) ?_ ?_
 ·(refine gC (fun hc=>?_) (fun hc=>?_)<;>try contradiction)
  ·rw [hS3,if_pos hc.1,if_pos hc.2]
   repeat' first|refine gC (fun hc=>?_) (fun hc=>?_)<;>try contradiction|refine gG ?_|show AK _;intro K H|refine H _ _ ?_;clear H K|refine gJ ?_;try exact trivial|omega
   all_goals (show Cov _ _;simp only [qS,Nat.reduceAdd,Nat.reduceMul,Nat.reduceEqDiff,Nat.reduceLeDiff,reduceIte,reduceCtorEq,Nat.reduceBEq,Nat.reduceLT]<;>simp)
  ·have e:chkS3 s=chkS2 s:=by
    rw [hS3];split
    ·rename_i h;rw [if_neg (by have:=hc h;omega),h]
    ·rfl
   rw [e]
   repeat' first|refine gC (fun hc=>?_) (fun hc=>?_)<;>try contradiction|refine gG ?_|show AK _;intro K H|refine H _ _ ?_;clear H K|refine gJ ?_;try exact trivial|omega
   all_goals (show Cov _ _;simp only [qS,Nat.reduceAdd,Nat.reduceMul,Nat.reduceEqDiff,Nat.reduceLeDiff,reduceIte,reduceCtorEq,Nat.reduceBEq,Nat.reduceLT]<;>simp)
 repeat' first|refine gC (fun hc=>?_) (fun hc=>?_)<;>try contradiction|refine gG ?_|show AK _;intro K H|refine H _ _ ?_;clear H K|refine gJ ?_;try exact trivial|omega
 refine zk (κ:=Nat × Int) (fun k=>⟨[(1,.lp 1 0),(3,.p (.i .i64 k.2)),(5,.p (.i .i64 k.1))],[(1,.box (s.cells.map .p) false)],[],false⟩) (fun k=>k.1≤s.sh.length∧k.2=zg (chkS3 s::(s.sh.mapIdx (shaErr s)).take k.1)) (fun k=>s.sh.length - k.1) (0,chkS3 s) ?_ ?_ ?_
 ·exact sS
 ·simp [fE_one]
 ·rintro ⟨i,e⟩ ⟨hi,he⟩
  simp only at hi he
  repeat first|refine gG ?_|show AK _;intro K H|refine H _ _ ?_;clear H K|refine gJ ?_;try exact trivial|omega
  (refine gC (fun hc=>?_) (fun hc=>?_)<;>try contradiction)
  ·obtain ⟨h1,h2⟩:=hc
   obtain ⟨x,hx⟩:=zn (i:=i) (l:=s.sh) (by omega)
   have hn:=fE_step he h2 (zI (f:=shaErr s) hx)
   have e31:((31:Int)=0)=False:=eq_false (by omega)
   by_cases d1:zaH x=0
   ·have d1':=eq_true d1
    by_cases d2:x=s.holder
    ·have d2':=eq_true d2
     have hv:shaErr s i x=31:=by rw [shaErr,za3 d1,if_pos d2,za2 (by omega)]
     rw [hv] at hn
     have qe:=aI qR (aI @hx (aI @take_map (aI @d1' (aI @d2' (aI @e31 (aI @decide_true @decide_false))))));repeat' first|refine gC (fun hc=>?_) (fun hc=>?_)<;>try contradiction|refine za (pure1133 x) ?_|refine zN (fun _=>pure1074 (s.sh.take i) x) ?_|refine gG ?_|show AK _;intro K H|refine H _ _ ?_;clear H K|refine gJ ?_;try exact trivial|omega
     all_goals exact ⟨(i+1,31),⟨by omega,hn⟩,by simp;omega,by simp⟩
    ·have d2':=eq_false d2
     by_cases d3:0≤atL x (s.sh.take i)
     ·have d3':=eq_true d3
      have hv:shaErr s i x=9:=by rw [shaErr,za3 d1,if_neg d2,za3 rfl,fE_one,if_pos d3]
      rw [hv] at hn
      have qe:=aI qR (aI @hx (aI @take_map (aI @d1' (aI @d2' (aI @d3' (aI @decide_true @decide_false))))));repeat' first|refine gC (fun hc=>?_) (fun hc=>?_)<;>try contradiction|refine za (pure1133 x) ?_|refine zN (fun _=>pure1074 (s.sh.take i) x) ?_|refine gG ?_|show AK _;intro K H|refine H _ _ ?_;clear H K|refine gJ ?_;try exact trivial|omega
      all_goals exact ⟨(i+1,9),⟨by omega,hn⟩,by simp;omega,by simp⟩
     ·have d3':=eq_false d3
      have hv:shaErr s i x=0:=by rw [shaErr,za3 d1,if_neg d2,za3 rfl,fE_one,if_neg d3]
      rw [hv] at hn
      have qe:=aI qR (aI @hx (aI @take_map (aI @d1' (aI @d2' (aI @d3' (aI @decide_true @decide_false))))));repeat' first|refine gC (fun hc=>?_) (fun hc=>?_)<;>try contradiction|refine za (pure1133 x) ?_|refine zN (fun _=>pure1074 (s.sh.take i) x) ?_|refine gG ?_|show AK _;intro K H|refine H _ _ ?_;clear H K|refine gJ ?_;try exact trivial|omega
      all_goals exact ⟨(i+1,zaH x),⟨by omega,by rw [d1];exact hn⟩,by simp;omega,by simp⟩
   ·have d1':=eq_false d1
    have hv:shaErr s i x=zaH x:=by rw [shaErr,za2 d1]
    rw [hv] at hn
    have qe:=aI qR (aI @hx (aI @take_map (aI @d1' @decide_false)));repeat' first|refine gC (fun hc=>?_) (fun hc=>?_)<;>try contradiction|refine za (pure1133 x) ?_|refine zN (fun _=>pure1074 (s.sh.take i) x) ?_|refine gG ?_|show AK _;intro K H|refine H _ _ ?_;clear H K|refine gJ ?_;try exact trivial|omega
    all_goals exact ⟨(i+1,zaH x),⟨by omega,hn⟩,by simp;omega,by simp⟩
  ·have hf:=fE_all he (fun h=>hc (by simpa using h))
   rw [chkS_all,←hf]
   repeat' first|refine gC (fun hc=>?_) (fun hc=>?_)<;>try contradiction|refine gG ?_|show AK _;intro K H|refine H _ _ ?_;clear H K|refine gJ ?_;try exact trivial|omega
   all_goals exact .refl _
set_option maxRecDepth 100000
set_option linter.unusedVariables false
set_option linter.unusedSimpArgs false
set_option maxHeartbeats 4000000
theorem mapIdx_0 {α:Type} {f:Nat→α→Int} {l:List α} (h:zg (l.mapIdx f)=0) {i:Nat} {x:α} (hx:l[i]?=some x):f i x=0:=fE0 h _ (List.mem_of_getElem? (zI hx))
theorem bk_slot {b:Bk} (h:zG b=0) {i:Nat} {s:Slt} (hs:b.slots[i]?=some s):sltErr b i s=0:=
 mapIdx_0 (fE0 h (zg (b.slots.mapIdx (sltErr b))) (by simp)) hs
theorem bk_slt {b:Bk} (h:zG b=0) {s:Slt} (hs:s ∈ b.slots):chkSlt s=0:=by
 obtain ⟨i,hi⟩:=List.mem_iff_getElem?.1 hs
 exact fE0 (bk_slot h hi) _ (by simp)
theorem bk_q {b:Bk} (h:zG b=0) {s:Slt} (hs:s ∈ b.slots):chkQ s.req=0:=fE0 (bk_slt h hs) _ (by simp)
theorem bk_req {b:Bk} (h:zG b=0) {s:Slt} (hs:s ∈ b.slots):chkReq s.req=0:=chkQ_req (bk_q h hs)
set_option maxRecDepth 100000
set_option linter.unusedVariables false
set_option linter.unusedSimpArgs false
set_option maxHeartbeats 8000000
theorem pure1019 (b:Bk) (hb:BkOk b):Pure Tryz.prog 19 [b.pv] b.pv:=by
 obtain ⟨hs,hn,hw1⟩:=hb
 refine zf (cF Tryz.func19 Tryz.f19.eq_1) (by simp) fun hw X hX=>?_
 have qe:=@qR;repeat' first|refine gC (fun hc=>?_) (fun hc=>?_)<;>try contradiction|refine gG ?_|show AK _;intro K H|refine H _ _ ?_;clear H K|refine gJ ?_;try exact trivial|omega
 refine zaO 100 59 16 [(1,.lp 1 0),(2,.lp 2 0),(3,.lp 3 0),(12,.p (.sl 16 (b.slots.map Slt.pv))),(13,.p (.i .i64 b.slots.length)),(14,.p (.i .i64 0))] [(1,.box [.p (.sl 16 (b.slots.map Slt.pv)),.p (.sl 14 (b.wait.map Wsh.pv))] false),(2,.box [.p .nilsl,.p .nilsl] false),(3,.box [.row 100 0,.p .nilsl] false)] ?_ ?_
 ·simp only [Own,zaL,zaB,zbt,zay,qS,Nat.reduceAdd,Nat.reduceMul,Nat.reduceEqDiff,Nat.reduceLeDiff,reduceIte,reduceCtorEq,Nat.reduceBEq,Nat.reduceLT]<;>simp
 refine zk (κ:=Nat) (fun k=>⟨[(1,.lp 1 0),(2,.lp 2 0),(3,.lp 3 0),(12,.p (.sl 16 (b.slots.map Slt.pv))),(13,.p (.i .i64 b.slots.length)),(14,.p (.i .i64 k))],[(1,.box [.p (.sl 16 (b.slots.map Slt.pv)),.p (.sl 14 (b.wait.map Wsh.pv))] false),(2,.box [.p .nilsl,.p .nilsl] false),(3,.box [.row 100 k,.p .nilsl] false),(100,.row 59 16 ((b.slots.take k).map Slt.pv) false)],[],false⟩) (fun k=>k≤b.slots.length) (fun k=>b.slots.length - k) 0 ?_ ?_ ?_
 ·exact sS
 ·simp
 ·intro k hk
  have hlk:(b.slots.take k).length=k:=by rw [List.length_take];omega
  repeat first|refine gG ?_|show AK _;intro K H|refine H _ _ ?_;clear H K|refine gJ ?_;try exact trivial|omega
  (refine gC (fun hc=>?_) (fun hc=>?_)<;>try contradiction)
  ·obtain ⟨s,hx⟩:=zn (i:=k) (l:=b.slots) (by omega)
   obtain ⟨hl1,hl2⟩:=hs s (List.mem_of_getElem? hx)
   have qe:=aI qR (aI @hx (aI @allSt @zaf));repeat' first|refine gC (fun hc=>?_) (fun hc=>?_)<;>try contradiction|refine gG ?_|show AK _;intro K H|refine H _ _ ?_;clear H K|refine gJ ?_;try exact trivial|omega
   refine zaO 101 102 3 [(1,.lp 1 0),(2,.lp 2 0),(3,.lp 3 0),(12,.p (.sl 16 (b.slots.map Slt.pv))),(13,.p (.i .i64 b.slots.length)),(14,.p (.i .i64 k)),(5,.lp 5 0),(6,.lp 6 0),(28,.p (.sl 3 (s.ls.map Lea.pv))),(29,.p (.i .i64 s.ls.length)),(30,.p (.i .i64 0))] [(1,.box [.p (.sl 16 (b.slots.map Slt.pv)),.p (.sl 14 (b.wait.map Wsh.pv))] false),(2,.box [.p .nilsl,.p .nilsl] false),(3,.box [.row 100 k,.p .nilsl] false),(100,.row 59 16 ((b.slots.take k).map Slt.pv) false),(5,.box (s.cells.map .p) false),(6,.box [.p (.s s.req.name),.p (.s s.req.carrier),.p (.s s.req.kind),.p (.s s.req.term),.p (.s s.req.partner),.p (.s s.req.link),.p (.i .i64 s.req.per.fro),.p (.i .i64 s.req.per.to),.p (.i .i64 s.req.per.days),.p (.i .i64 s.req.minute),.p (.i .i64 s.req.seats),.p (.i .i64 s.req.size),.p (.i .i64 s.req.noise),.p (.s s.holder),.row 101 0,.row 22 s.sh.length] false),(22,.row 9 1 (s.sh.map .s) false)] ?_ ?_
   ·simp only [Own,zaL,zaB,zbt,zay,qS,Nat.reduceAdd,Nat.reduceMul,Nat.reduceEqDiff,Nat.reduceLeDiff,reduceIte,reduceCtorEq,Nat.reduceBEq,Nat.reduceLT]<;>simp [hlk]
   refine zk (κ:=Nat) (fun i=>⟨[(1,.lp 1 0),(2,.lp 2 0),(3,.lp 3 0),(12,.p (.sl 16 (b.slots.map Slt.pv))),(13,.p (.i .i64 b.slots.length)),(14,.p (.i .i64 k)),(5,.lp 5 0),(6,.lp 6 0),(28,.p (.sl 3 (s.ls.map Lea.pv))),(29,.p (.i .i64 s.ls.length)),(30,.p (.i .i64 i))],[(1,.box [.p (.sl 16 (b.slots.map Slt.pv)),.p (.sl 14 (b.wait.map Wsh.pv))] false),(2,.box [.p .nilsl,.p .nilsl] false),(3,.box [.row 100 k,.p .nilsl] false),(100,.row 59 16 ((b.slots.take k).map Slt.pv) false),(5,.box (s.cells.map .p) false),(6,.box [.p (.s s.req.name),.p (.s s.req.carrier),.p (.s s.req.kind),.p (.s s.req.term),.p (.s s.req.partner),.p (.s s.req.link),.p (.i .i64 s.req.per.fro),.p (.i .i64 s.req.per.to),.p (.i .i64 s.req.per.days),.p (.i .i64 s.req.minute),.p (.i .i64 s.req.seats),.p (.i .i64 s.req.size),.p (.i .i64 s.req.noise),.p (.s s.holder),.row 101 i,.row 22 s.sh.length] false),(22,.row 9 1 (s.sh.map .s) false),(101,.row 102 3 ((s.ls.take i).map Lea.pv) false)],[],false⟩) (fun i=>i≤s.ls.length) (fun i=>s.ls.length - i) 0 ?_ ?_ ?_
   ·refine gJ ?_;simp [hlk]
   ·simp
   ·intro i hi
    have hli:(s.ls.take i).length=i:=by rw [List.length_take];omega
    repeat first|refine gG ?_|show AK _;intro K H|refine H _ _ ?_;clear H K|refine gJ ?_;try exact trivial|omega
    (refine gC (fun hc=>?_) (fun hc=>?_)<;>try contradiction)
    ·obtain ⟨x,hx2⟩:=zn (i:=i) (l:=s.ls) (by omega)
     have qe:=aI qR (aI @hx2 (aI @hli @hlk));repeat' first|refine gC (fun hc=>?_) (fun hc=>?_)<;>try contradiction|refine gG ?_|show AK _;intro K H|refine H _ _ ?_;clear H K|refine gJ ?_;try exact trivial|omega
     exact ⟨i+1,by omega,by omega,by simp,⟨rfl,by rw [zan hx2];simp⟩,by simp;omega⟩
    ·have e:i=s.ls.length:=by omega
     subst e
     refine run_exit ?_
     refine (show Run _ (.ops false _) _ _ from run_region (run_partN 3 ?_))
     simp only [List.take_succ_cons,List.take_zero,List.drop_succ_cons,List.drop_zero]
     have qe:=aI qR (aI @zaf (aI @hlk @List.take_length.{0}));repeat' first|refine gC (fun hc=>?_) (fun hc=>?_)<;>try contradiction|refine gG ?_|show AK _;intro K H|refine H _ _ ?_;clear H K|refine gJ ?_;try exact trivial|omega
     refine zbO (ghost_pub 43 s.pv (by simp only [qS,Nat.reduceAdd,Nat.reduceMul,Nat.reduceEqDiff,Nat.reduceLeDiff,reduceIte,reduceCtorEq,Nat.reduceBEq,Nat.reduceLT,zaf]<;>rfl) (by first|trivial|simp) (.refl _)) ?_
     rintro _ rfl
     refine zE ?_
     have qe:=aI qR @hlk;repeat' first|refine gC (fun hc=>?_) (fun hc=>?_)<;>try contradiction|refine gG ?_|show AK _;intro K H|refine H _ _ ?_;clear H K|refine gJ ?_;try exact trivial|omega
     exact ⟨k+1,by omega,by omega,by simp,⟨rfl,by rw [zan hx];simp⟩,by simp;omega⟩
  ·have e:k=b.slots.length:=by omega
   subst e
   have qe:=aI qR @List.take_length.{0};repeat' first|refine gC (fun hc=>?_) (fun hc=>?_)<;>try contradiction|refine gG ?_|show AK _;intro K H|refine H _ _ ?_;clear H K|refine gJ ?_;try exact trivial|omega
   refine zaO 102 71 14 [(2,.lp 2 0),(3,.lp 3 0),(49,.p (.sl 14 (b.wait.map Wsh.pv))),(50,.p (.i .i64 b.wait.length)),(51,.p (.i .i64 0))] [(1,.box [.p (.sl 16 (b.slots.map Slt.pv)),.p (.sl 14 (b.wait.map Wsh.pv))] false),(2,.box [.p .nilsl,.p .nilsl] false),(3,.box [.row 100 b.slots.length,.row 102 0] false),(100,.row 59 16 (b.slots.map Slt.pv) false)] ?_ ?_
   ·simp only [Own,zaL,zaB,zbt,zay,qS,Nat.reduceAdd,Nat.reduceMul,Nat.reduceEqDiff,Nat.reduceLeDiff,reduceIte,reduceCtorEq,Nat.reduceBEq,Nat.reduceLT]<;>simp
   refine zk (κ:=Nat) (fun k=>⟨[(2,.lp 2 0),(3,.lp 3 0),(49,.p (.sl 14 (b.wait.map Wsh.pv))),(50,.p (.i .i64 b.wait.length)),(51,.p (.i .i64 k))],[(1,.box [.p (.sl 16 (b.slots.map Slt.pv)),.p (.sl 14 (b.wait.map Wsh.pv))] false),(2,.box [.p .nilsl,.p .nilsl] false),(3,.box [.row 100 b.slots.length,.row 102 k] false),(100,.row 59 16 (b.slots.map Slt.pv) false),(102,.row 71 14 ((b.wait.take k).map Wsh.pv) false)],[],false⟩) (fun k=>k≤b.wait.length) (fun k=>b.wait.length - k) 0 ?_ ?_ ?_
   ·exact sS
   ·simp
   ·intro k hk2
    have hl2:(b.wait.take k).length=k:=by rw [List.length_take];omega
    repeat first|refine gG ?_|show AK _;intro K H|refine H _ _ ?_;clear H K|refine gJ ?_;try exact trivial|omega
    (refine gC (fun hc=>?_) (fun hc=>?_)<;>try contradiction)
    ·obtain ⟨w,hx2⟩:=zn (i:=k) (l:=b.wait) (by omega)
     have qe:=aI qR (aI @hx2 @hl2);repeat' first|refine gC (fun hc=>?_) (fun hc=>?_)<;>try contradiction|refine gG ?_|show AK _;intro K H|refine H _ _ ?_;clear H K|refine gJ ?_;try exact trivial|omega
     exact ⟨k+1,by omega,by omega,by simp,⟨rfl,by rw [zan hx2];simp⟩,by simp;omega⟩
    ·have e2:k=b.wait.length:=by omega
     subst e2
     have qe:=aI qR (aI @zaf @List.take_length.{0});repeat' first|refine gC (fun hc=>?_) (fun hc=>?_)<;>try contradiction|refine gG ?_|show AK _;intro K H|refine H _ _ ?_;clear H K|refine gJ ?_;try exact trivial|omega
     exact .refl _
set_option maxRecDepth 100000
set_option linter.unusedVariables false
set_option linter.unusedSimpArgs false
set_option maxHeartbeats 8000000
theorem atL_at {n:ByteArray}:∀ {l:List ByteArray},¬atL n l < 0→l[(atL n l).toNat]?=some n
 | [],h=>absurd (show atL n [] < 0 by simp [atL]) h
 | x::r,h=>by
  simp only [atL] at h ⊢
  split
  ·rename_i e;simp [e]
  ·rename_i e
   rw [if_neg e] at h
   split
   ·rename_i k;rw [if_pos k] at h;omega
   ·rename_i k
    have h2:=atL_at (l:=r) k
    have h3:(atL n r+1).toNat=(atL n r).toNat+1:=by omega
    rw [h3];simpa using h2
theorem slotI_name {b:Bk} {n:ByteArray} (h:¬atL n (b.slots.map (·.req.name)) < 0):(b.slots.map (·.req.name))[zA b n]?=some n:=atL_at h
set_option maxRecDepth 100000
set_option linter.unusedVariables false
set_option linter.unusedSimpArgs false
set_option maxHeartbeats 8000000
theorem atL_iff (n:ByteArray):∀ l:List ByteArray,0≤atL n l↔n ∈ l
 | []=>by simp [atL]
 | x::r=>by
  have ih:=atL_iff n r
  have:=atL_ge n r
  simp only [atL,List.mem_cons]
  by_cases h:x=n
  ·rw [if_pos h];exact ⟨fun _=>.inl h.symm,fun _=>by omega⟩
  ·rw [if_neg h]
   by_cases h2:atL n r < 0
   ·rw [if_pos h2];exact ⟨fun h3=>by omega,fun h3=>h3.elim (fun e=>absurd e.symm h) fun e=>by have:=ih.2 e;omega⟩
   ·rw [if_neg h2];exact ⟨fun _=>.inr (ih.1 (by omega)),fun _=>by omega⟩
theorem fnd_yes {b:Bk} {n:ByteArray} (h:¬atL n (b.slots.map (·.req.name)) < 0):fndE b.slots n=0∧fndI b.slots n=(zA b n:Int):=by
 rw [fndE,if_neg h,fndI,if_neg h,zA];exact ⟨rfl,by omega⟩
end Go.Proofs.YtahmdjadnlpjoaaGreat
