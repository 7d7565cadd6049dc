/- Contracts of functions that the proof uses, shared by the claims of this seat; no statement of its own. Part 74. No conditions. -/
import Derived.ProofKit
import Derived.OpenShut
import Derived.Carry
import Derived.OpenVars
import Derived.HandedShaped
import Derived.KernelRfl
import Derived.Laws.RangeAny
import Derived.Test.YtahmdjadnlpjoaaGreatRows
import Derived.Test.YtahmdjadnlpjoaaGreatX3
set_option linter.all false
set_option maxHeartbeats 8000000
namespace Go.Proofs.YtahmdjadnlpjoaaGreat
open Go.RowKit
set_option maxRecDepth 100000
set_option linter.unusedVariables false
set_option linter.unusedSimpArgs false
set_option maxHeartbeats 8000000
theorem ycJ {l:List Lim} {m:List Mov} {r:Req} (hl:z3 l=0) (hm:zad m=0) (hr:chkReq r=0):fitR l m r=fitsB l m r:=by
 have:fitC l m r=0:=by
  unfold fitC
  refine zq.2 ⟨?_,zq.2 ⟨hr,rfl⟩⟩
  exact zq.2 ⟨hl,zq.2 ⟨hm,rfl⟩⟩
 rw [fitR,this];simp
theorem ybx {l:List Lim} {m:List Mov} (hl:z3 l=0) (hm:zad m=0):bothC l m=0:=zq.2 ⟨hl,zq.2 ⟨hm,rfl⟩⟩
theorem ycB {b:Bk} (h:zG b=0):movF b (-1)=mvS b.slots:=by
 have:=(ycV h).1
 rw [mvE,if_pos h] at this;exact this
theorem y2 {b:Bk} (h:∀ s ∈ b.slots,chkReq s.req=0) (hn:b.slots.length≤64):movF b (-1)=mvS b.slots∧zad (mvS b.slots)=0∧(mvS b.slots).length≤401*b.slots.length:=by
 have:=ycc h (by omega) b.slots.length (Nat.le_refl _)
 rw [List.take_length] at this
 have e:(b.slots.map (·.req)).take b.slots.length=b.slots.map (·.req):=List.take_of_length_le (by simp)
 rw [e] at this
 rw [movF,ybe];exact this
theorem ybJ (l:List Lim) (b:Bk) (q:Req) (hok:BkOk b) (hl:z3 l=0) (hc:∀ s ∈ b.slots,chkReq s.req=0) (hn64:b.slots.length≤64):Pure Tryz.prog 61 [.sl 11 (l.map Lim.pv),b.pv,q.pv] (.tup [(holdB l b q).pv,.i .i64 (holdC l b q)]):=by
 refine zat (r:=if holdC l b q=0 then .tup [.agg [.sl 16 (b.slots.map Slt.pv++[rawS q]),.sl 14 (b.wait.map Wsh.pv)],.i .i64 0] else .tup [.agg [.nilsl,.nilsl],.i .i64 (holdC l b q)]) ?_ ?_
 ·refine zf (cF Tryz.func61 Tryz.f61.eq_1) (by simp) fun hw X hX=>?_
  have ht:tkE b q.name=if takenB (b.slots.map (·.req.name)) (b.wait.map (·.req.name)) q.name=true then 9 else 0:=rfl
  have e9:((9:Int)=0)=False:=eq_false (by omega)
  have e5:((5:Int)=0)=False:=eq_false (by omega)
  have e14:((14:Int)=0)=False:=eq_false (by omega)
  by_cases hq:chkQ q=0
  ·have hq':=eq_true hq
   have hE:holdE b q=zg [tkE b q.name,if 64≤(b.slots.length:Int) then 5 else 0]:=za3 hq
   by_cases h1:0≤atL q.name (b.slots.map (·.req.name))
   ·have h1':=eq_true h1
    have hT:tkE b q.name=9:=by rw [ht,takenB,decide_eq_true h1,Bool.true_or,if_pos rfl]
    have hC:holdC l b q=9:=by rw [holdC,hE,hT,za2 (by omega),if_neg (by omega)]
    rw [hC,if_neg (by omega)]
    have qe:=aI qR (aI @hq (aI @hq' (aI @h1' (aI @e9 (aI @zbb (aI @decide_true (aI @decide_false @Bool.not_false)))))));repeat' first|refine gC (fun hc=>?_) (fun hc=>?_)<;>try contradiction|refine za (yi q) ?_|refine zN (fun _=>yc b.slots q.name) ?_|refine zN (fun _=>ye b.wait q.name) ?_|(show zj _ _ _ _ (⟨_,.call 23,_,_,_⟩::_) _ _;refine yb (q:=.sl 7 []) (by first|rfl|(simp (disch:=omega) only [qG,qe,Nat.reduceAdd,Nat.reduceMul,Nat.reduceEqDiff,Nat.reduceLeDiff,reduceIte,reduceCtorEq,Nat.reduceBEq,Nat.reduceLT]<;>rfl)) ?_;(try (refine zE ?_)))|(show zj _ _ _ _ (⟨_,.call 143,_,_,_⟩::_) _ _;refine yb (q:=.b false) (by first|rfl|(simp (disch:=omega) only [qG,qe,Nat.reduceAdd,Nat.reduceMul,Nat.reduceEqDiff,Nat.reduceLeDiff,reduceIte,reduceCtorEq,Nat.reduceBEq,Nat.reduceLT]<;>rfl)) ?_;(try (refine zE ?_)))|refine gG ?_|show AK _;intro K H|refine H _ _ ?_;clear H K|refine gJ ?_;try exact trivial|omega
    all_goals exact .refl _
   ·have h1':=eq_false h1
    by_cases h2:0≤atL q.name (b.wait.map (·.req.name))
    ·have h2':=eq_true h2
     have hT:tkE b q.name=9:=by rw [ht,takenB,decide_eq_true h2,Bool.or_true,if_pos rfl]
     have hC:holdC l b q=9:=by rw [holdC,hE,hT,za2 (by omega),if_neg (by omega)]
     rw [hC,if_neg (by omega)]
     have qe:=aI qR (aI @hq (aI @hq' (aI @h1' (aI @h2' (aI @e9 (aI @zbb (aI @decide_true (aI @decide_false @Bool.not_false))))))));repeat' first|refine gC (fun hc=>?_) (fun hc=>?_)<;>try contradiction|refine za (yi q) ?_|refine zN (fun _=>yc b.slots q.name) ?_|refine zN (fun _=>ye b.wait q.name) ?_|(show zj _ _ _ _ (⟨_,.call 23,_,_,_⟩::_) _ _;refine yb (q:=.sl 7 []) (by first|rfl|(simp (disch:=omega) only [qG,qe,Nat.reduceAdd,Nat.reduceMul,Nat.reduceEqDiff,Nat.reduceLeDiff,reduceIte,reduceCtorEq,Nat.reduceBEq,Nat.reduceLT]<;>rfl)) ?_;(try (refine zE ?_)))|(show zj _ _ _ _ (⟨_,.call 143,_,_,_⟩::_) _ _;refine yb (q:=.b false) (by first|rfl|(simp (disch:=omega) only [qG,qe,Nat.reduceAdd,Nat.reduceMul,Nat.reduceEqDiff,Nat.reduceLeDiff,reduceIte,reduceCtorEq,Nat.reduceBEq,Nat.reduceLT]<;>rfl)) ?_;(try (refine zE ?_)))|refine gG ?_|show AK _;intro K H|refine H _ _ ?_;clear H K|refine gJ ?_;try exact trivial|omega
     all_goals exact .refl _
    ·have h2':=eq_false h2
     have hT:tkE b q.name=0:=by rw [ht,takenB,decide_eq_false h1,decide_eq_false h2];rfl
     by_cases h64:b.slots.length=64
     ·have hC:holdC l b q=5:=by
       have h5:holdE b q=5:=by rw [hE,hT,za3 rfl,fE_one,if_pos (by omega)]
       rw [holdC,h5,if_neg (by omega)]
      have h64':((b.slots.length:Int)=64)=True:=eq_true (by omega)
      rw [hC,if_neg (by omega)]
      have qe:=aI qR (aI @hq (aI @hq' (aI @h1' (aI @h2' (aI @h64' (aI @e5 (aI @zbb (aI @decide_true (aI @decide_false @Bool.not_false)))))))));repeat' first|refine gC (fun hc=>?_) (fun hc=>?_)<;>try contradiction|refine za (yi q) ?_|refine zN (fun _=>yc b.slots q.name) ?_|refine zN (fun _=>ye b.wait q.name) ?_|(show zj _ _ _ _ (⟨_,.call 23,_,_,_⟩::_) _ _;refine yb (q:=.sl 7 []) (by first|rfl|(simp (disch:=omega) only [qG,qe,Nat.reduceAdd,Nat.reduceMul,Nat.reduceEqDiff,Nat.reduceLeDiff,reduceIte,reduceCtorEq,Nat.reduceBEq,Nat.reduceLT]<;>rfl)) ?_;(try (refine zE ?_)))|(show zj _ _ _ _ (⟨_,.call 143,_,_,_⟩::_) _ _;refine yb (q:=.b false) (by first|rfl|(simp (disch:=omega) only [qG,qe,Nat.reduceAdd,Nat.reduceMul,Nat.reduceEqDiff,Nat.reduceLeDiff,reduceIte,reduceCtorEq,Nat.reduceBEq,Nat.reduceLT]<;>rfl)) ?_;(try (refine zE ?_)))|refine gG ?_|show AK _;intro K H|refine H _ _ ?_;clear H K|refine gJ ?_;try exact trivial|omega
      all_goals exact .refl _
     ·have h64':((b.slots.length:Int)=64)=False:=eq_false (by omega)
      have hHE:holdE b q=0:=by rw [hE,hT,za3 rfl,fE_one,if_neg (by omega)]
      obtain ⟨m1,m2,m3⟩:=y2 hc hn64
      have hr:=yt hq
      have hR:=yaG b.slots hc (fun s hs=>by have:=(yz (hc s hs)).2;omega) (by omega)
      have hF:=pure54 l (mvS b.slots) q (ybx hl m2) hr
      have hfr:fitR l (movF b (-1)) q=fitsB l (mvS b.slots) q:=by rw [m1,ycJ hl m2 hr]
      by_cases hf:fitsB l (mvS b.slots) q=true
      ·have hC:holdC l b q=0:=by rw [holdC,if_pos hHE,hfr,if_pos hf]
       have hA:=eq_true (allSl b.slots)
       rw [hC,if_pos rfl]
       have qe:=aI qR (aI @hq (aI @hq' (aI @h1' (aI @h2' (aI @h64' (aI @hf (aI @hA (aI @zaf (aI @zbb (aI @decide_true (aI @decide_false @Bool.not_true)))))))))));repeat' first|refine gC (fun hc=>?_) (fun hc=>?_)<;>try contradiction|refine za (yi q) ?_|refine zN (fun _=>yc b.slots q.name) ?_|refine zN (fun _=>ye b.wait q.name) ?_|refine zN (fun _=>hR) ?_|refine zN (fun _=>hF) ?_|refine gG ?_|show AK _;intro K H|refine H _ _ ?_;clear H K|refine gJ ?_;try exact trivial|omega
       all_goals first|exact .refl _
      ·have hf':fitsB l (mvS b.slots) q=false:=by simpa using hf
       have hC:holdC l b q=14:=by rw [holdC,if_pos hHE,hfr,if_neg hf]
       rw [hC,if_neg (by omega)]
       have qe:=aI qR (aI @hq (aI @hq' (aI @h1' (aI @h2' (aI @h64' (aI @hf' (aI @e14 (aI @zbb (aI @decide_true (aI @decide_false @Bool.not_false))))))))));repeat' first|refine gC (fun hc=>?_) (fun hc=>?_)<;>try contradiction|refine za (yi q) ?_|refine zN (fun _=>yc b.slots q.name) ?_|refine zN (fun _=>ye b.wait q.name) ?_|refine zN (fun _=>hR) ?_|refine zN (fun _=>hF) ?_|refine gG ?_|show AK _;intro K H|refine H _ _ ?_;clear H K|refine gJ ?_;try exact trivial|omega
       all_goals exact .refl _
  ·have hq':=eq_false hq
   have hHE:holdE b q=chkQ q:=za2 hq
   have hC:holdC l b q=chkQ q:=by rw [holdC,hHE,if_neg hq]
   rw [hC,if_neg hq]
   have qe:=aI qR (aI @hq' (aI @decide_false @Bool.not_false));repeat' first|refine gC (fun hc=>?_) (fun hc=>?_)<;>try contradiction|refine za (yi q) ?_|(show zj _ _ _ _ (⟨_,.call 79,_,_,_⟩::_) _ _;refine yb (q:=.i .i64 0) (by first|rfl|(simp (disch:=omega) only [qG,qe,Nat.reduceAdd,Nat.reduceMul,Nat.reduceEqDiff,Nat.reduceLeDiff,reduceIte,reduceCtorEq,Nat.reduceBEq,Nat.reduceLT]<;>rfl)) ?_;(try (refine zE ?_)))|(show zj _ _ _ _ (⟨_,.call 55,_,_,_⟩::_) _ _;refine yb (q:=.i .i64 0) (by first|rfl|(simp (disch:=omega) only [qG,qe,Nat.reduceAdd,Nat.reduceMul,Nat.reduceEqDiff,Nat.reduceLeDiff,reduceIte,reduceCtorEq,Nat.reduceBEq,Nat.reduceLT]<;>rfl)) ?_;(try (refine zE ?_)))|(show zj _ _ _ _ (⟨_,.call 23,_,_,_⟩::_) _ _;refine yb (q:=.sl 7 []) (by first|rfl|(simp (disch:=omega) only [qG,qe,Nat.reduceAdd,Nat.reduceMul,Nat.reduceEqDiff,Nat.reduceLeDiff,reduceIte,reduceCtorEq,Nat.reduceBEq,Nat.reduceLT]<;>rfl)) ?_;(try (refine zE ?_)))|(show zj _ _ _ _ (⟨_,.call 143,_,_,_⟩::_) _ _;refine yb (q:=.b false) (by first|rfl|(simp (disch:=omega) only [qG,qe,Nat.reduceAdd,Nat.reduceMul,Nat.reduceEqDiff,Nat.reduceLeDiff,reduceIte,reduceCtorEq,Nat.reduceBEq,Nat.reduceLT]<;>rfl)) ?_;(try (refine zE ?_)))|refine gG ?_|show AK _;intro K H|refine H _ _ ?_;clear H K|refine gJ ?_;try exact trivial|omega
   all_goals exact .refl _
 ·by_cases h:holdC l b q=0
  ·rw [if_pos h,holdB,if_pos h,h]
   refine .tup ⟨.agg ⟨.sl ?_,.refl _,trivial⟩,.refl _,trivial⟩
   rw [List.map_append]
   exact .app (.refl _) ⟨wk_newS q,trivial⟩
  ·rw [if_neg h,holdB,if_neg h];exact zbw _
set_option maxRecDepth 100000
set_option linter.unusedVariables false
set_option linter.unusedSimpArgs false
set_option maxHeartbeats 8000000
structure Tmg where
 req:Req
 carrier:ByteArray
 slot:ByteArray
 day:Int
 minute:Int
abbrev Tmg.pv (x:Tmg):PV:=.agg [.s x.req.name,.s x.req.carrier,.s x.req.kind,.s x.req.term,.s x.req.partner,.s x.req.link,.i .i64 x.req.per.fro,.i .i64 x.req.per.to,.i .i64 x.req.per.days,.i .i64 x.req.minute,.i .i64 x.req.seats,.i .i64 x.req.size,.i .i64 x.req.noise,.s x.carrier,.s x.slot,.i .i64 x.day,.i .i64 x.minute]
theorem ycs (e:Int) (h:¬e=0):Pure Tryz.prog 42 [bk0.pv,.i .i64 e,.agg [.nilsl,.nilsl],.i .i64 e] (.b true):=pure_in (y8 bk0 bk0 e ych (fun _=>rfl) (fun _=>rfl)) ⟨.refl _,.refl _,.agg ⟨.nilsl _,.nilsl _,trivial⟩,.refl _,trivial⟩
end Go.Proofs.YtahmdjadnlpjoaaGreat
namespace Go.Proofs.YtahmdjadnlpjoaaGreat
open Go.RowKit Go.ChangeShapes Go.WideShapes Go.ChangeAt
set_option maxRecDepth 100000
set_option linter.unusedVariables false
set_option linter.unusedSimpArgs false
set_option maxHeartbeats 4000000
def limT:List CP:=[.s,.s,.s,jT,jT,jT,jT,jT,jT,jT,jT]
theorem lim_of {l:List PV} (h:FitAll (Fit 5) limT l):∃ L:Lim,l=L.cells:=by
 match l,h with
 | [_,_,_,_,_,_,_,_,_,_,_],⟨⟨a,ha⟩,⟨b,hb⟩,⟨c,hc⟩,⟨d,hd⟩,⟨e,he⟩,⟨f,hf⟩,⟨g,hg⟩,⟨i,hi⟩,⟨j,hj⟩,⟨k,hk⟩,⟨m,hm⟩,_⟩=>
  subst ha hb hc hd he hf hg hi hj hk hm
  exact ⟨⟨a,b,c,d,e,f,g,⟨i,j,k⟩,m⟩,rfl⟩
theorem par22:ycb Tryz.prog 6 64=some (false,[.sl true limT]):=by kernel_rfl
theorem und22:Tryz.prog.underlying 64=some (.slice 118):=by kernel_rfl
theorem byt46:Tryz.prog.bytesOf 118=112:=by kernel_rfl
theorem yb1 {p:PV} (h:yU Tryz.prog 6 64 p):∃ L:List Lim,p=.sl 11 (L.map Lim.pv)∧L.length*112≤140737488355328:=by
 obtain ⟨⟨ag,c,l,hp,rfl,hl⟩,hb⟩:=h
 rw [par22] at hp
 simp only [Option.some.injEq,Prod.mk.injEq] at hp
 obtain ⟨rfl,rfl⟩:=hp
 match l,hl with
 | [q],⟨⟨xs,hq,hx⟩,_⟩=>
  subst hq
  obtain ⟨L,rfl⟩:=yC (f:=Lim.pv) (xs:=xs) fun x h=>by
   obtain ⟨l,rfl,hf⟩:=hx x h
   obtain ⟨L,rfl⟩:=lim_of hf
   exact ⟨L,rfl⟩
  refine ⟨L,rfl,?_⟩
  have:=hb 118 _ _ und22 rfl
  rw [byt46,List.length_map] at this
  unfold reachBytes at this;omega
end Go.Proofs.YtahmdjadnlpjoaaGreat
namespace Go.Proofs.YtahmdjadnlpjoaaGreat
open Go.RowKit
set_option maxRecDepth 100000
set_option linter.unusedVariables false
set_option linter.unusedSimpArgs false
set_option maxHeartbeats 8000000
def ya9 (b:Bk) (w:Wsh):Bk:=if waitE b w=0 then ⟨b.slots,inR yd w b.wait⟩ else bk0
theorem ybN (b:Bk) (w:Wsh) (hb:BkOk b) (hn64:b.wait.length≤64):Pure Tryz.prog 39 [b.pv,w.pv] (.tup [(ya9 b w).pv,.i .i64 (waitE b w)]):=by
 refine zat (r:=if waitE b w=0 then .tup [.agg [.sl 16 (b.slots.map Slt.pv),.sl 14 ((inR yd w b.wait).map Wsh.pv)],.i .i64 0] else .tup [.agg [.nilsl,.nilsl],.i .i64 (waitE b w)]) ?_ ?_
 ·refine zf (cF Tryz.func39 Tryz.f39.eq_1) (by simp) fun hw X hX=>?_
  have ht:tkE b w.req.name=if takenB (b.slots.map (·.req.name)) (b.wait.map (·.req.name)) w.req.name=true then 9 else 0:=rfl
  have e9:((9:Int)=0)=False:=eq_false (by omega)
  have e5:((5:Int)=0)=False:=eq_false (by omega)
  by_cases hq:chkWsh w=0
  ·have hq':=eq_true hq
   have hE:waitE b w=zg [tkE b w.req.name,if 64≤(b.wait.length:Int) then 5 else 0]:=za3 hq
   by_cases h1:0≤atL w.req.name (b.slots.map (·.req.name))
   ·have h1':=eq_true h1
    have hT:tkE b w.req.name=9:=by rw [ht,takenB,decide_eq_true h1,Bool.true_or,if_pos rfl]
    have hC:waitE b w=9:=by rw [hE,hT,za2 (by omega)]
    rw [hC,if_neg (by omega)]
    have qe:=aI qR (aI @hq (aI @hq' (aI @h1' (aI @e9 (aI @zbb (aI @decide_true (aI @decide_false @Bool.not_false)))))));repeat' first|refine gC (fun hc=>?_) (fun hc=>?_)<;>try contradiction|refine za (yf w) ?_|refine zN (fun _=>yc b.slots w.req.name) ?_|refine zN (fun _=>ye b.wait w.req.name) ?_|refine gG ?_|show AK _;intro K H|refine H _ _ ?_;clear H K|refine gJ ?_;try exact trivial|omega
    all_goals exact .refl _
   have h1':=eq_false h1
   by_cases h2:0≤atL w.req.name (b.wait.map (·.req.name))
   ·have h2':=eq_true h2
    have hT:tkE b w.req.name=9:=by rw [ht,takenB,decide_eq_true h2,Bool.or_true,if_pos rfl]
    have hC:waitE b w=9:=by rw [hE,hT,za2 (by omega)]
    rw [hC,if_neg (by omega)]
    have qe:=aI qR (aI @hq (aI @hq' (aI @h1' (aI @h2' (aI @e9 (aI @zbb (aI @decide_true (aI @decide_false @Bool.not_false))))))));repeat' first|refine gC (fun hc=>?_) (fun hc=>?_)<;>try contradiction|refine za (yf w) ?_|refine zN (fun _=>yc b.slots w.req.name) ?_|refine zN (fun _=>ye b.wait w.req.name) ?_|refine gG ?_|show AK _;intro K H|refine H _ _ ?_;clear H K|refine gJ ?_;try exact trivial|omega
    all_goals exact .refl _
   have h2':=eq_false h2
   have hT:tkE b w.req.name=0:=by rw [ht,takenB,decide_eq_false h1,decide_eq_false h2];rfl
   by_cases h64:b.wait.length=64
   ·have hC:waitE b w=5:=by rw [hE,hT,za3 rfl,fE_one,if_pos (by omega)]
    have h64':((b.wait.length:Int)=64)=True:=eq_true (by omega)
    rw [hC,if_neg (by omega)]
    have qe:=aI qR (aI @hq (aI @hq' (aI @h1' (aI @h2' (aI @h64' (aI @e5 (aI @zbb (aI @decide_true (aI @decide_false @Bool.not_false)))))))));repeat' first|refine gC (fun hc=>?_) (fun hc=>?_)<;>try contradiction|refine za (yf w) ?_|refine zN (fun _=>yc b.slots w.req.name) ?_|refine zN (fun _=>ye b.wait w.req.name) ?_|refine gG ?_|show AK _;intro K H|refine H _ _ ?_;clear H K|refine gJ ?_;try exact trivial|omega
    all_goals exact .refl _
   have h64':((b.wait.length:Int)=64)=False:=eq_false (by omega)
   have hC:waitE b w=0:=by rw [hE,hT,za3 rfl,fE_one,if_neg (by omega)]
   rw [hC,if_pos rfl]
   have qe:=aI qR (aI @hq (aI @hq' (aI @h1' (aI @h2' (aI @h64' (aI @zbb (aI @decide_true (aI @decide_false @Bool.not_true))))))));repeat' first|refine gC (fun hc=>?_) (fun hc=>?_)<;>try contradiction|refine za (yf w) ?_|refine zN (fun _=>yc b.slots w.req.name) ?_|refine zN (fun _=>ye b.wait w.req.name) ?_|refine gG ?_|show AK _;intro K H|refine H _ _ ?_;clear H K|refine gJ ?_;try exact trivial|omega
   refine zaO 100 66 14 [(2,.lp 2 0),(3,.lp 3 0),(4,.lp 4 0),(7,.row 100 0),(8,.p (.b false)),(9,.p (.i .i64 0))] [(2,.box [.p (.sl 16 (b.slots.map Slt.pv)),.p (.sl 14 (b.wait.map Wsh.pv))] false),(3,.box [.p (.s w.req.name),.p (.s w.req.carrier),.p (.s w.req.kind),.p (.s w.req.term),.p (.s w.req.partner),.p (.s w.req.link),.p (.i .i64 w.req.per.fro),.p (.i .i64 w.req.per.to),.p (.i .i64 w.req.per.days),.p (.i .i64 w.req.minute),.p (.i .i64 w.req.seats),.p (.i .i64 w.req.size),.p (.i .i64 w.req.noise),.p (.i .i64 w.rank)] false),(4,.box [.p .nilsl,.p .nilsl] false)] ?_ ?_
   ·simp only [Own,zaL,zaB,zbt,zay,qS,Nat.reduceAdd,Nat.reduceMul,Nat.reduceEqDiff,Nat.reduceLeDiff,reduceIte,reduceCtorEq,Nat.reduceBEq,Nat.reduceLT]
   refine zk (κ:=Nat) (fun k=>⟨[(2,.lp 2 0),(3,.lp 3 0),(4,.lp 4 0),(7,.row 100 (inK yd w (b.wait.take k)).2.length),(8,.p (.b (inK yd w (b.wait.take k)).1)),(9,.p (.i .i64 k))],[(2,.box [.p (.sl 16 (b.slots.map Slt.pv)),.p (.sl 14 (b.wait.map Wsh.pv))] false),(3,.box [.p (.s w.req.name),.p (.s w.req.carrier),.p (.s w.req.kind),.p (.s w.req.term),.p (.s w.req.partner),.p (.s w.req.link),.p (.i .i64 w.req.per.fro),.p (.i .i64 w.req.per.to),.p (.i .i64 w.req.per.days),.p (.i .i64 w.req.minute),.p (.i .i64 w.req.seats),.p (.i .i64 w.req.size),.p (.i .i64 w.req.noise),.p (.i .i64 w.rank)] false),(4,.box [.p .nilsl,.p .nilsl] false),(100,.row 66 14 ((inK yd w (b.wait.take k)).2.map Wsh.pv) false)],[],false⟩) (fun k=>k≤b.wait.length) (fun k=>b.wait.length - k) 0 ?_ ?_ ?_
   ·refine gJ ?_;simp [inK]
   ·simp
   ·intro k hk
    have hl:(inK yd w (b.wait.take k)).2.length≤k+1:=by have:=ycG yd w (b.wait.take k);rw [List.length_take] at this;omega
    repeat first|refine gG ?_|show AK _;intro K H|refine H _ _ ?_;clear H K|refine gJ ?_;try exact trivial|omega
    (refine gC (fun hc=>?_) (fun hc=>?_)<;>try contradiction)
    ·obtain ⟨x,hx⟩:=zn (i:=k) (l:=b.wait) (by omega)
     have hnx:=yb0 (bf:=yd) (l:=w) hx
     generalize hqq:inK yd w (b.wait.take k)=q at hnx hl
     obtain ⟨q1,q2⟩:=q
     simp only at hl hnx
     cases q1 with
     | true=>
      rw [inF,if_neg (by simp)] at hnx
      have qe:=aI qR (aI @hx (aI @decide_false @Bool.not_true));repeat' first|refine gC (fun hc=>?_) (fun hc=>?_)<;>try contradiction|(show zj _ _ _ _ (⟨_,.call 95,_,_,_⟩::_) _ _;refine yb (q:=.b false) (by first|rfl|(simp (disch:=omega) only [qG,qe,Nat.reduceAdd,Nat.reduceMul,Nat.reduceEqDiff,Nat.reduceLeDiff,reduceIte,reduceCtorEq,Nat.reduceBEq,Nat.reduceLT]<;>rfl)) ?_;(try (refine zE ?_)))|refine gG ?_|show AK _;intro K H|refine H _ _ ?_;clear H K|refine gJ ?_;try exact trivial|omega
      all_goals exact ⟨k+1,by omega,by omega,⟨by rw [hnx];simp,by rw [hnx],by simp⟩,by rw [hnx];simp⟩
     | false=>
      by_cases h7:yd w x=true
      ·rw [inF,if_pos ⟨rfl,h7⟩] at hnx
       have qe:=aI qR (aI @hx (aI @h7 (aI @decide_true @Bool.not_false)));repeat' first|refine gC (fun hc=>?_) (fun hc=>?_)<;>try contradiction|refine zN (fun _=>yK w x) ?_|refine gG ?_|show AK _;intro K H|refine H _ _ ?_;clear H K|refine gJ ?_;try exact trivial|omega
       all_goals exact ⟨k+1,by omega,by omega,⟨by rw [hnx];simp,by rw [hnx],by simp⟩,by rw [hnx];simp⟩
      ·have h7':yd w x=false:=by simpa using h7
       rw [inF,if_neg (fun k=>h7 k.2)] at hnx
       have qe:=aI qR (aI @hx (aI @h7' (aI @decide_false @Bool.not_false)));repeat' first|refine gC (fun hc=>?_) (fun hc=>?_)<;>try contradiction|refine zN (fun _=>yK w x) ?_|refine gG ?_|show AK _;intro K H|refine H _ _ ?_;clear H K|refine gJ ?_;try exact trivial|omega
       all_goals exact ⟨k+1,by omega,by omega,⟨by rw [hnx];simp,by rw [hnx],by simp⟩,by rw [hnx];simp⟩
    ·have e:k=b.wait.length:=by omega
     subst e
     rw [List.take_length] at hl ⊢
     have hlR:=ycF yd w b.wait
     generalize hqq:inK yd w b.wait=q at hl
     have hlr:inR yd w b.wait=if q.1=true then q.2 else q.2++[w]:=by rw [inR,hqq]
     obtain ⟨q1,q2⟩:=q
     simp only at hl hlr
     cases q1 with
     | true=>
      rw [if_pos rfl] at hlr
      rw [hlr]
      have qe:=aI qR (aI @zaf @Bool.not_true);repeat' first|refine gC (fun hc=>?_) (fun hc=>?_)<;>try contradiction|refine gG ?_|show AK _;intro K H|refine H _ _ ?_;clear H K|refine gJ ?_;try exact trivial|omega
      all_goals first|exact .refl _
     | false=>
      rw [if_neg (by simp)] at hlr
      rw [hlr,List.map_append]
      have qe:=aI qR (aI @zaf @Bool.not_false);repeat' first|refine gC (fun hc=>?_) (fun hc=>?_)<;>try contradiction|refine gG ?_|show AK _;intro K H|refine H _ _ ?_;clear H K|refine gJ ?_;try exact trivial|omega
      all_goals first|exact .refl _
  ·have hq':=eq_false hq
   have hC:waitE b w=chkWsh w:=za2 hq
   rw [hC,if_neg hq]
   have qe:=aI qR (aI @hq' (aI @decide_false @Bool.not_false));repeat' first|refine gC (fun hc=>?_) (fun hc=>?_)<;>try contradiction|refine za (yf w) ?_|(show zj _ _ _ _ (⟨_,.call 79,_,_,_⟩::_) _ _;refine yb (q:=.i .i64 0) (by first|rfl|(simp (disch:=omega) only [qG,qe,Nat.reduceAdd,Nat.reduceMul,Nat.reduceEqDiff,Nat.reduceLeDiff,reduceIte,reduceCtorEq,Nat.reduceBEq,Nat.reduceLT]<;>rfl)) ?_;(try (refine zE ?_)))|(show zj _ _ _ _ (⟨_,.call 55,_,_,_⟩::_) _ _;refine yb (q:=.i .i64 0) (by first|rfl|(simp (disch:=omega) only [qG,qe,Nat.reduceAdd,Nat.reduceMul,Nat.reduceEqDiff,Nat.reduceLeDiff,reduceIte,reduceCtorEq,Nat.reduceBEq,Nat.reduceLT]<;>rfl)) ?_;(try (refine zE ?_)))|refine gG ?_|show AK _;intro K H|refine H _ _ ?_;clear H K|refine gJ ?_;try exact trivial|omega
   all_goals exact .refl _
 ·by_cases h:waitE b w=0
  ·rw [if_pos h,ya9,if_pos h,h];exact .refl _
  ·rw [if_neg h,ya9,if_neg h];exact zbw _
theorem ybl (b:Bk) (w:Wsh) (hb:zG b=0→BkOk b) (hn:zG b=0→b.wait.length≤10):Pure Tryz.prog 32 [b.pv,w.pv] (.tup [(WaitB b w).pv,.i .i64 (WaitC b w)]):=by
 by_cases h:zG b=0
 ·exact pure1018 b w hb (hn h)
 ·have e1:(zG b=0)=False:=eq_false h
  have hC:WaitC b w=zG b:=if_neg h
  have hB:WaitB b w=bk0:=by rw [WaitB,hC,if_neg h]
  rw [hB,hC]
  refine zat (r:=.tup [.agg [.nilsl,.nilsl],.i .i64 (zG b)]) ?_ (zbw _)
  refine zf (cF Tryz.func32 Tryz.f32.eq_1) (by simp) fun hw X hX=>?_
  have qe:=aI qR (aI @qN @e1);repeat' first|refine gC (fun hc=>?_) (fun hc=>?_)<;>try contradiction|refine za (zX b) ?_|refine gG ?_|show AK _;intro K H|refine H _ _ ?_;clear H K|refine gJ ?_;try exact trivial|omega
  exact .refl _
set_option maxRecDepth 100000
set_option linter.unusedVariables false
set_option linter.unusedSimpArgs false
set_option maxHeartbeats 8000000
def yh (l:List Lim) (b:Bk) (k:Nat):List Slt:=b.slots++(srvK l b k).Q.map newS
theorem ybM (l:List Lim) (b:Bk) (hok:BkOk b) (hl:z3 l=0) (hS:∀ k≤b.wait.length,(∀ s ∈ yh l b k,chkReq s.req=0)∧(yh l b k).length≤64)
  (hH:∀ k w,b.wait[k]?=some w→(holdC l ⟨yh l b k,[]⟩ w.req=0↔¬srvNo l b.slots.length (srvK l b k) w)) :
  Pure Tryz.prog 40 [.sl 11 (l.map Lim.pv),b.pv] (.tup [(srvB l b).pv,.sl 1 ((srvW l b).map .s)]):=by
 refine zf (cF Tryz.func40 Tryz.f40.eq_1) (by simp) fun hw X hX=>?_
 obtain ⟨hs,hn1,hwl⟩:=hok
 have qe:=@qR;repeat' first|refine gC (fun hc=>?_) (fun hc=>?_)<;>try contradiction|refine gG ?_|show AK _;intro K H|refine H _ _ ?_;clear H K|refine gJ ?_;try exact trivial|omega
 refine zaO 100 9 1 [(0,.p (.sl 11 (l.map Lim.pv))),(3,.lp 3 0),(4,.lp 4 0),(6,.lp 6 0),(7,.row 100 0),(8,.p (.i .i64 0))] [(3,.box [.p (.sl 16 (b.slots.map Slt.pv)),.p (.sl 14 (b.wait.map Wsh.pv))] false),(4,.box [.p .nilsl,.p .nilsl] false),(6,.box [.p (.sl 16 (b.slots.map Slt.pv)),.p .nilsl] false)] ?_ ?_
 ·simp only [Own,zaL,zaB,zbt,zay,qS,Nat.reduceAdd,Nat.reduceMul,Nat.reduceEqDiff,Nat.reduceLeDiff,reduceIte,reduceCtorEq,Nat.reduceBEq,Nat.reduceLT]<;>simp
 refine zaO 101 66 14 [(0,.p (.sl 11 (l.map Lim.pv))),(3,.lp 3 0),(4,.lp 4 0),(6,.lp 6 0),(7,.row 100 0),(8,.p (.i .i64 0))] [(3,.box [.p (.sl 16 (b.slots.map Slt.pv)),.p (.sl 14 (b.wait.map Wsh.pv))] false),(4,.box [.p .nilsl,.p .nilsl] false),(6,.box [.p (.sl 16 (b.slots.map Slt.pv)),.row 101 0] false),(100,.row 9 1 [] false)] ?_ ?_
 ·simp only [Own,zaL,zaB,zbt,zay,qS,Nat.reduceAdd,Nat.reduceMul,Nat.reduceEqDiff,Nat.reduceLeDiff,reduceIte,reduceCtorEq,Nat.reduceBEq,Nat.reduceLT]<;>simp
 refine zk (κ:=Nat) (fun k=>⟨[(0,.p (.sl 11 (l.map Lim.pv))),(3,.lp 3 0),(4,.lp 4 0),(6,.lp 6 0),(7,.row 100 (srvK l b k).Q.length),(8,.p (.i .i64 k))],[(3,.box [.p (.sl 16 (b.slots.map Slt.pv)),.p (.sl 14 (b.wait.map Wsh.pv))] false),(4,.box [.p .nilsl,.p .nilsl] false),(6,.box [.p (.sl 16 ((yh l b k).map Slt.pv)),.row 101 (srvK l b k).K.length] false),(100,.row 9 1 (((srvK l b k).Q.map (·.name)).map .s) false),(101,.row 66 14 ((srvK l b k).K.map Wsh.pv) false)],[],false⟩) (fun k=>k≤b.wait.length) (fun k=>b.wait.length - k) 0 ?_ ?_ ?_
 ·refine gJ ?_;simp [srvK,yh,srv0]
 ·simp
 ·intro k hk
  have hlen:=srvK_len (l:=l) (b:=b) hk
  repeat first|refine gG ?_|show AK _;intro K H|refine H _ _ ?_;clear H K|refine gJ ?_;try exact trivial|omega
  (refine gC (fun hc=>?_) (fun hc=>?_)<;>try contradiction)
  ·obtain ⟨w,hx⟩:=zn (i:=k) (l:=b.wait) (by omega)
   obtain ⟨hv,hn64⟩:=hS k hk
   have hnx:=srvK_next (l:=l) hx
   have hSb:BkOk ⟨yh l b k,[]⟩:=by
    refine ⟨fun s h=>?_,by simp only;omega,by simp⟩
    rcases List.mem_append.1 h with h|h
    ·exact hs s h
    ·obtain ⟨r,_,rfl⟩:=List.mem_map.1 h
     exact ⟨by simp [newS],by simp [newS]⟩
   have hP:Pure Tryz.prog 61 [.sl 11 (l.map Lim.pv),.agg [.sl 16 ((yh l b k).map Slt.pv),.nilsl],w.req.pv] (.tup [(holdB l ⟨yh l b k,[]⟩ w.req).pv,.i .i64 (holdC l ⟨yh l b k,[]⟩ w.req)]):=
    pure_in (ybJ l ⟨yh l b k,[]⟩ w.req hSb hl hv hn64) ⟨.refl _,.agg ⟨.refl _,.nilsl _,trivial⟩,.refl _,trivial⟩
   have hHk:=hH k w hx
   by_cases hno:srvNo l b.slots.length (srvK l b k) w
   ·have hC:¬holdC l ⟨yh l b k,[]⟩ w.req=0:=fun k=>hHk.1 k hno
    have hC':=eq_false hC
    rw [srvN,if_pos hno] at hnx
    have hSn:yh l b (k+1)=yh l b k:=by rw [yh,yh,hnx]
    generalize yh l b k=S at *
    have qe:=aI qR (aI @hx (aI @hC' (aI @decide_false @Bool.not_false)));repeat' first|refine gC (fun hc=>?_) (fun hc=>?_)<;>try contradiction|refine za (hP) ?_|refine gG ?_|show AK _;intro K H|refine H _ _ ?_;clear H K|refine gJ ?_;try exact trivial|omega
    all_goals exact ⟨k+1,by omega,by omega,⟨by rw [hnx],by simp⟩,by rw [hSn,hnx];simp,by rw [hnx],by rw [hnx];simp⟩
   ·have hC:holdC l ⟨yh l b k,[]⟩ w.req=0:=hHk.2 hno
    have hC':=eq_true hC
    rw [srvN,if_neg hno] at hnx
    have hB:holdB l ⟨yh l b k,[]⟩ w.req=⟨yh l b k++[newS w.req],[]⟩:=by rw [holdB,if_pos hC]
    have hSn:yh l b (k+1)=yh l b k++[newS w.req]:=by rw [yh,yh,hnx];simp
    rw [hB] at hP
    generalize yh l b k=S at *
    have qe:=aI qR (aI @hx (aI @hC' (aI @decide_true @Bool.not_true)));repeat' first|refine gC (fun hc=>?_) (fun hc=>?_)<;>try contradiction|refine za (hP) ?_|refine gG ?_|show AK _;intro K H|refine H _ _ ?_;clear H K|refine gJ ?_;try exact trivial|omega
    all_goals exact ⟨k+1,by omega,by omega,⟨by rw [hnx];simp,by simp⟩,by rw [hSn,hnx]<;>simp,by rw [hnx]<;>simp,by rw [hnx]⟩
  ·have e:k=b.wait.length:=by omega
   subst e
   have qe:=aI qR @zaf;repeat' first|refine gC (fun hc=>?_) (fun hc=>?_)<;>try contradiction|refine gG ?_|show AK _;intro K H|refine H _ _ ?_;clear H K|refine gJ ?_;try exact trivial|omega
   all_goals first|exact .refl _
set_option maxRecDepth 100000
set_option linter.unusedVariables false
set_option linter.unusedSimpArgs false
set_option maxHeartbeats 4000000
theorem yci {b:Bk} (h:zG b=0) {k:Nat} {w:Wsh} (hw:b.wait[k]?=some w):w.req.name ∉ b.slots.map (·.req.name)∧w.req.name ∉ (b.wait.take k).map (·.req.name):=by
 have:=fE0 (yaC h hw) (if 0≤atL w.req.name (b.slots.map (·.req.name)++(b.wait.take k).map (·.req.name)) then 9 else 0) (by simp)
 have hn:¬0≤atL w.req.name (b.slots.map (·.req.name)++(b.wait.take k).map (·.req.name)):=fun q=>by rw [if_pos q] at this;omega
 exact ⟨fun q=>hn ((yj _ _).2 (List.mem_append_left _ q)),fun q=>hn ((yj _ _).2 (List.mem_append_right _ q))⟩
theorem ya8 {b:Bk} (h:zG b=0) {k:Nat} {w:Wsh} (hw:b.wait[k]?=some w):chkQ w.req=0:=fE0 (fE0 (yaC h hw) (chkWsh w) (by simp)) _ (by simp)
theorem ybT (S:List Slt) (x:Slt):mvS (S++[x])=mergeM befM (mvS S) (movsL x.req):=by rw [mvS,List.foldl_append];rfl
theorem ybb {l:List Lim} {b:Bk} (h:zG b=0):∀ k,k≤b.wait.length→(∀ r ∈ (srvK l b k).Q,∃ j w,j < k∧b.wait[j]?=some w∧r=w.req)∧(srvK l b k).M=mvS (yh l b k)∧(yh l b k).length≤64:=by
 intro k
 induction k with
 | zero=>
  intro _
  have hn:=chkBk_len h
  refine ⟨fun r hr=>(by cases hr),?_,by simp only [yh,srvK,srv0,List.take_zero,List.foldl_nil,List.map_nil,List.append_nil];omega⟩
  have:=ycB h
  simp only [yh,srvK,srv0,List.take_zero,List.foldl_nil,List.map_nil,List.append_nil]
  exact this
 | succ k ih=>
  intro hk
  obtain ⟨i1,i2,i3⟩:=ih (by omega)
  obtain ⟨w,hw⟩:=zn (i:=k) (l:=b.wait) (by omega)
  have hv:∀ s ∈ yh l b k,chkReq s.req=0:=fun s hs=>by
   rcases List.mem_append.1 hs with hs|hs
   ·exact y1 h hs
   ·obtain ⟨r,hr,rfl⟩:=List.mem_map.1 hs
    obtain ⟨j,w',_,hj,rfl⟩:=i1 r hr
    exact yt (ya8 h hj)
  have hnx:=srvK_next (l:=l) hw
  rw [srvN] at hnx
  by_cases hno:srvNo l b.slots.length (srvK l b k) w
  ·rw [if_pos hno] at hnx
   have e:yh l b (k+1)=yh l b k:=by rw [yh,yh,hnx]
   rw [e,hnx]
   exact ⟨fun r hr=>by obtain ⟨j,w',h1,h2⟩:=i1 r hr;exact ⟨j,w',by omega,h2⟩,i2,i3⟩
  ·rw [if_neg hno] at hnx
   have e:yh l b (k+1)=yh l b k++[newS w.req]:=by rw [yh,yh,hnx];simp
   have hr:=yt (ya8 h hw)
   have hlt:(yh l b k).length < 64:=by
    have h1:¬64≤((b.slots.length+(srvK l b k).Q.length:Nat):Int):=fun q=>hno (.inl q)
    simp only [yh,List.length_append,List.length_map];omega
   obtain ⟨_,m2,m3⟩:=y2 (b:=⟨yh l b k,[]⟩) hv i3
   obtain ⟨n1,n2⟩:=yz hr
   simp only at m2 m3
   have hg:mgE (mvS (yh l b k)) (movsL w.req)=0:=zq.2 ⟨m2,zq.2 ⟨n1,zq.2 ⟨if_neg (by omega),rfl⟩⟩⟩
   rw [e,hnx]
   refine ⟨fun r hr'=>?_,?_,by rw [List.length_append,List.length_singleton];omega⟩
   ·rcases List.mem_append.1 hr' with hr'|hr'
    ·obtain ⟨j,w',h1,h2⟩:=i1 r hr';exact ⟨j,w',by omega,h2⟩
    ·exact ⟨k,w,by omega,hw,List.mem_singleton.1 hr'⟩
   ·simp only
    rw [ybT,i2,movR,if_pos hr,mgR,if_pos hg];rfl
theorem yb7 {l:List Lim} {b:Bk} (h:zG b=0):∀ k≤b.wait.length,(∀ s ∈ yh l b k,chkReq s.req=0)∧(yh l b k).length≤64:=fun k hk=>by
 obtain ⟨i1,_,i3⟩:=ybb (l:=l) h k hk
 refine ⟨fun s hs=>?_,i3⟩
 rcases List.mem_append.1 hs with hs|hs
 ·exact y1 h hs
 ·obtain ⟨r,hr,rfl⟩:=List.mem_map.1 hs
  obtain ⟨j,w',_,hj,rfl⟩:=i1 r hr
  exact yt (ya8 h hj)
theorem ybB {l:List Lim} {b:Bk} (h:zG b=0) (k:Nat) (w:Wsh) (hw:b.wait[k]?=some w):holdC l ⟨yh l b k,[]⟩ w.req=0↔¬srvNo l b.slots.length (srvK l b k) w:=by
 have hk:=(List.getElem?_eq_some_iff.1 hw).1
 obtain ⟨i1,i2,i3⟩:=ybb (l:=l) h k (by omega)
 obtain ⟨hv,_⟩:=yb7 (l:=l) h k (by omega)
 obtain ⟨n1,n2⟩:=yci h hw
 have hlS:(yh l b k).length=b.slots.length+(srvK l b k).Q.length:=by simp [yh]
 have hnm:¬0≤atL w.req.name ((yh l b k).map (·.req.name)):=fun q=>by
  have q:=(yj _ _).1 q
  obtain ⟨s,hs,e⟩:=List.mem_map.1 q
  rcases List.mem_append.1 hs with hs|hs
  ·exact n1 (List.mem_map.2 ⟨s,hs,e⟩)
  ·obtain ⟨r,hr,rfl⟩:=List.mem_map.1 hs
   obtain ⟨j,w',hj,hj2,rfl⟩:=i1 r hr
   refine n2 (List.mem_map.2 ⟨w',List.mem_of_getElem? (i:=j) (by rw [List.getElem?_take_of_lt hj];exact hj2),e⟩)
 have hT:tkE ⟨yh l b k,[]⟩ w.req.name=0:=by
  rw [tkE,takenB,decide_eq_false hnm];simp [atL]
 have hE:holdE ⟨yh l b k,[]⟩ w.req=if 64≤((yh l b k).length:Int) then 5 else 0:=by
  rw [holdE,za3 (ya8 h hw),za3 hT,fE_one]
 have hM:=(y2 (b:=⟨yh l b k,[]⟩) hv i3).1
 rw [holdC,hE,hM,srvNo,i2]
 simp only
 by_cases h64:64≤((yh l b k).length:Int)
 ·rw [if_pos h64,if_neg (by omega)]
  exact ⟨fun q=>by omega,fun q=>absurd (.inl (by omega)) q⟩
 ·rw [if_neg h64,if_pos rfl]
  by_cases hf:fitR l (mvS (yh l b k)) w.req=true
  ·rw [if_pos hf]
   refine ⟨fun _ q=>?_,fun _=>rfl⟩
   rcases q with q|q
   ·omega
   ·rw [hf] at q;cases q
  ·rw [if_neg hf]
   exact ⟨fun q=>by omega,fun q=>absurd (.inr (by simpa using hf)) q⟩
theorem yab (a b:Wsh):yd a b=decide (cmpW a b < 0):=by
 have key:yd a b=true↔cmpW a b < 0:=by
  rw [yd,cmpW]
  simp only [Bool.or_eq_true,Bool.and_eq_true,decide_eq_true_eq]
  rcases Int.lt_trichotomy a.rank b.rank with k|k|k
  ·have:cmpI a.rank b.rank=-1:=if_pos k
   rw [this,za2 (by omega)]
   exact ⟨fun _=>by omega,fun _=>.inl k⟩
  ·have:cmpI a.rank b.rank=0:=by rw [cmpI,if_neg (by omega),if_neg (by omega)]
   rw [za3 this,fE_one,cmpS_l]
   exact ⟨fun q=>by rcases q with q|q;(· omega);exact q.2,fun q=>.inr ⟨k,q⟩⟩
  ·have:cmpI a.rank b.rank=1:=by rw [cmpI,if_neg (by omega),if_pos k]
   rw [this,za2 (by omega)]
   exact ⟨fun q=>by rcases q with q|q<;>omega,fun q=>by omega⟩
 by_cases h:cmpW a b < 0
 ·rw [decide_eq_true h];exact key.2 h
 ·rw [decide_eq_false h]
  cases q:yd a b
  ·rfl
  ·exact absurd (key.1 q) h
theorem yX:∀ x y z:List UInt8,Op.bytesLess x y=true→Op.bytesLess y z=true→Op.bytesLess x z=true
 | _,[],_,h,_=>by simp [Op.bytesLess] at h
 | _,_::_,[],_,h=>by simp [Op.bytesLess] at h
 | [],_::_,_::_,_,_=>by simp [Op.bytesLess]
 | a::x,b::y,c::z,h,k=>by
  simp only [Op.bytesLess,Bool.or_eq_true,Bool.and_eq_true,decide_eq_true_eq,beq_iff_eq] at h k ⊢
  rcases h with h|⟨rfl,h⟩
  ·rcases k with k|⟨rfl,k⟩
   ·exact .inl (UInt8.lt_trans h k)
   ·exact .inl h
  ·rcases k with k|⟨rfl,k⟩
   ·exact .inl k
   ·exact .inr ⟨rfl,yX x y z h k⟩
theorem ybu (a b:Wsh):cmpW a b < 0↔a.rank < b.rank∨(a.rank=b.rank∧Op.bytesLess a.req.name.toList b.req.name.toList=true):=by
 have h:=yab a b
 rw [yd] at h
 constructor
 ·intro q
  rw [decide_eq_true q] at h
  simpa only [Bool.or_eq_true,Bool.and_eq_true,decide_eq_true_eq] using h
 ·intro q
  have h2:(decide (a.rank < b.rank) || (decide (a.rank=b.rank) && Op.bytesLess a.req.name.toList b.req.name.toList))=true:=by
   simpa only [Bool.or_eq_true,Bool.and_eq_true,decide_eq_true_eq] using q
  rw [h2] at h
  exact of_decide_eq_true h.symm
theorem yaz (a b c:Wsh) (h:cmpW a b < 0) (k:cmpW b c < 0):cmpW a c < 0:=by
 rw [ybu] at *
 rcases h with h|⟨h1,h2⟩
 ·rcases k with k|⟨k1,_⟩<;>exact .inl (by omega)
 ·rcases k with k|⟨k1,k2⟩
  ·exact .inl (by omega)
  ·exact .inr ⟨by omega,yX _ _ _ h2 k2⟩
theorem ycS {a b:Wsh} (h:cmpW a b < 0):¬cmpW b a < 0:=fun k=>by
 have:=yaz a b a h k
 rw [ybu,less_irr] at this
 rcases this with h|⟨_,h⟩
 ·omega
 ·cases h
theorem ybX {x y:ByteArray} (h:x≠y) (k:¬Op.bytesLess x.toList y.toList=true):Op.bytesLess y.toList x.toList=true:=by
 by_cases q:Op.bytesLess y.toList x.toList=true
 ·exact q
 ·exact absurd (ba_tri (by simpa using k) (by simpa using q)) h
theorem yb2 {a b:Wsh} (h:¬cmpW a b≤0):cmpW b a < 0:=by
 rw [cmpW] at h
 rw [ybu]
 rcases Int.lt_trichotomy a.rank b.rank with k|k|k
 ·have e:cmpI a.rank b.rank=-1:=if_pos k
  rw [e,za2 (by omega)] at h;omega
 ·have e:cmpI a.rank b.rank=0:=by rw [cmpI,if_neg (by omega),if_neg (by omega)]
  rw [za3 e,fE_one] at h
  refine .inr ⟨k.symm,?_⟩
  have hn:a.req.name≠b.req.name:=fun q=>h (by rw [(cmpS_0 _ _).2 q];omega)
  have hl:¬cmpS a.req.name b.req.name < 0:=fun q=>h (by omega)
  exact ybX hn (fun q=>hl ((cmpS_l _ _).2 q))
 ·exact .inl k
theorem ycn {b:Bk} (h:zG b=0):b.wait.Pairwise (fun x y=>cmpW x y < 0):=by
 refine yb8 yaz fun i x y hx hy=>?_
 have:=fE0 (yaC h hy) (if 0 < ((i+1:Nat):Int)∧cmpW y ((b.wait[i+1 - 1]?).getD y)≤0 then 11 else 0) (by simp)
 have e:(b.wait[i+1 - 1]?).getD y=x:=by rw [Nat.add_sub_cancel,hx];rfl
 rw [e] at this
 by_cases k:0 < ((i+1:Nat):Int)∧cmpW y x≤0
 ·rw [if_pos k] at this;omega
 ·exact yb2 (fun q=>k ⟨by omega,q⟩)
theorem yaF {α:Type} {R:α→α→Prop} {p:α→Bool} (hp:∀ x y,R x y→p x=true→p y=true):∀ {L:List α},L.Pairwise R→∃ A B,L=A++B∧(∀ y ∈ A,p y=false)∧∀ y ∈ B,p y=true
 | [],_=>⟨[],[],rfl,by simp,by simp⟩
 | x::r,h=>by
  by_cases k:p x=true
  ·exact ⟨[],x::r,rfl,by simp,fun y hy=>by
    rcases List.mem_cons.1 hy with rfl|hy
    ·exact k
    ·exact hp x y (List.rel_of_pairwise_cons h hy) k⟩
  ·obtain ⟨A,B,rfl,h1,h2⟩:=yaF hp (List.pairwise_cons.1 h).2
   exact ⟨x::A,B,rfl,fun y hy=>by
    rcases List.mem_cons.1 hy with rfl|hy
    ·simpa using k
    ·exact h1 y hy,h2⟩
theorem yco {b:Bk} (h:zG b=0) (w:Wsh):ya9 b w=waitB b w:=by
 rw [ya9,waitB]
 have hp:=ycn h
 have hb:bfCP cmpW w=yd w:=by funext x;rw [yab];rfl
 obtain ⟨A,B,e,hA,hB⟩:=yaF (R:=fun x y=>cmpW x y < 0) (p:=yd w) (fun x y q k=>by
  rw [yab] at k ⊢
  exact decide_eq_true (yaz _ _ _ (of_decide_eq_true k) q)) hp
 have hs:zbM cmpW b.wait=b.wait:=by
  have:=ybc (c:=cmpW) b.wait [] (by rw [List.nil_append];exact hp.imp fun {a c} k=>ycS k)
  rwa [List.nil_append] at this
 have e2:zbM cmpW (b.wait++[w])=inR yd w b.wait:=by
  rw [zbM,List.foldl_append]
  rw [zbM] at hs
  rw [hs,e,inR_at hA hB]
  exact yce (fun y hy=>by rw [hb];exact hA y hy) (fun y hy=>by rw [hb];exact hB y hy)
 rw [e2]
set_option maxRecDepth 100000
set_option linter.unusedVariables false
set_option linter.unusedSimpArgs false
set_option maxHeartbeats 8000000
theorem ycH {l:List Lim} {m:List Mov} {o:Mov} (hb:bothC l m=0) (ho:chkMov o=0):fullR l m o=fullL l m o:=fullR_p (zq.2 ⟨hb,zq.2 ⟨ho,rfl⟩⟩)
theorem ybL (l:List Lim) (b:Bk) (hl:z3 l=0) (hc:zG b=0) (hw':∀ w ∈ b.wait,chkReq w.req=0):Pure Tryz.prog 41 [.sl 11 (l.map Lim.pv),b.pv] (.sl 3 ((refK l b b.wait.length).map Rfs.pv)):=by
 have hbl:=chkBk_len hc
 obtain ⟨m1,m2,m3⟩:=y2 (b:=b) (fun s hs=>y1 hc hs) (by omega)
 have hall:allM b=mvS b.slots:=m1
 have hbo:bothC l (allM b)=0:=by rw [hall];exact ybx hl m2
 have hR:=yaG b.slots (fun s hs=>y1 hc hs) (fun s hs=>by have:=(yz (y1 hc hs)).2;omega) (by omega)
 rw [←hall] at hR
 refine zf (cF Tryz.func41 Tryz.f41.eq_1) (by simp) fun hw X hX=>?_
 have qe:=@qR;repeat' first|refine gC (fun hc=>?_) (fun hc=>?_)<;>try contradiction|refine za (hR) ?_|refine gG ?_|show AK _;intro K H|refine H _ _ ?_;clear H K|refine gJ ?_;try exact trivial|omega
 refine zaO 100 91 3 [(0,.p (.sl 11 (l.map Lim.pv))),(3,.lp 3 0),(5,.row 100 0),(6,.p (.sl 7 ((allM b).map Mov.pv))),(7,.p (.i .i64 0))] [(3,.box [.p (.sl 16 (b.slots.map Slt.pv)),.p (.sl 14 (b.wait.map Wsh.pv))] false)] ?_ ?_
 ·simp only [Own,zaL,zaB,zbt,zay,qS,Nat.reduceAdd,Nat.reduceMul,Nat.reduceEqDiff,Nat.reduceLeDiff,reduceIte,reduceCtorEq,Nat.reduceBEq,Nat.reduceLT]<;>simp
 refine zk (κ:=Nat) (fun k=>⟨[(0,.p (.sl 11 (l.map Lim.pv))),(3,.lp 3 0),(5,.row 100 (refK l b k).length),(6,.p (.sl 7 ((allM b).map Mov.pv))),(7,.p (.i .i64 k))],[(3,.box [.p (.sl 16 (b.slots.map Slt.pv)),.p (.sl 14 (b.wait.map Wsh.pv))] false),(100,.row 91 3 ((refK l b k).map Rfs.pv) false)],[],false⟩) (fun k=>k≤b.wait.length) (fun k=>b.wait.length - k) 0 ?_ ?_ ?_
 ·refine gJ ?_;simp [refK]
 ·simp
 ·intro k hk
  have hkl:=refK_len l b k
  repeat first|refine gG ?_|show AK _;intro K H|refine H _ _ ?_;clear H K|refine gJ ?_;try exact trivial|omega
  (refine gC (fun hc=>?_) (fun hc=>?_)<;>try contradiction)
  ·obtain ⟨w,hw⟩:=zn (i:=k) (l:=b.wait) (by omega)
   have hr:=hw' w (List.mem_of_getElem? hw)
   have hnx:=refK_next (l:=l) hw
   have hmR:movR w.req=movsL w.req:=by rw [movR,if_pos hr]
   rw [refW,hmR] at hnx
   have hkl1:=refK_len l b (k+1)
   have hml:=(yz hr).2
   have qe:=aI qR @hw;repeat' first|refine gC (fun hc=>?_) (fun hc=>?_)<;>try contradiction|refine za (ybh w.req hr) ?_|refine gG ?_|show AK _;intro K H|refine H _ _ ?_;clear H K|refine gJ ?_;try exact trivial|omega
   refine zk (κ:=Nat) (fun i=>⟨[(0,.p (.sl 11 (l.map Lim.pv))),(3,.lp 3 0),(5,.row 100 (refK l b k).length),(6,.p (.sl 7 ((allM b).map Mov.pv))),(7,.p (.i .i64 k)),(8,.p (.sl 7 ((movsL w.req).map Mov.pv))),(9,.p (.i .i64 i))],[(3,.box [.p (.sl 16 (b.slots.map Slt.pv)),.p (.sl 14 (b.wait.map Wsh.pv))] false),(100,.row 91 3 ((refK l b k).map Rfs.pv) false)],[],false⟩) (fun i=>i≤(movsL w.req).length∧∀ y ∈ (movsL w.req).take i,fullR l (allM b) y=[]) (fun i=>(movsL w.req).length - i) 0 ?_ ?_ ?_
   ·exact sS
   ·simp
   ·intro i hi
    repeat first|refine gG ?_|show AK _;intro K H|refine H _ _ ?_;clear H K|refine gJ ?_;try exact trivial|omega
    (refine gC (fun hc=>?_) (fun hc=>?_)<;>try contradiction)
    ·obtain ⟨m,hm⟩:=zn (i:=i) (l:=movsL w.req) (by omega)
     obtain ⟨dd,hd,hmo⟩:=yaM (List.mem_of_getElem? hm)
     have hmc:chkMov m=0:=by rw [hmo];exact yG hr hd
     have hfo:=ycH hbo hmc
     have hF:=pure47 l (allM b) m hbo
     rw [←hfo] at hF
     rcases hf:fullR l (allM b) m with _|⟨x,r⟩
     ·have qe:=aI qR (aI @hm @hf);repeat' first|refine gC (fun hc=>?_) (fun hc=>?_)<;>try contradiction|refine za (hF) ?_|refine gG ?_|show AK _;intro K H|refine H _ _ ?_;clear H K|refine gJ ?_;try exact trivial|omega
      exact ⟨i+1,⟨by omega,fun y hy=>by
       rw [zan hm,List.mem_append,List.mem_singleton] at hy
       rcases hy with hy|rfl
       ·exact hi.2 y hy
       ·exact hf⟩,by omega,rfl⟩
     ·have hRm:=refM_hit (n:=w.req.name) hi.2 hm hf
      have e0:(0:Int).toNat=0:=rfl
      have qe:=aI qR (aI @hw (aI @hm (aI @hf @e0)));repeat' first|refine gC (fun hc=>?_) (fun hc=>?_)<;>try contradiction|refine za (hF) ?_|refine gG ?_|show AK _;intro K H|refine H _ _ ?_;clear H K|refine gJ ?_;try exact trivial|omega
      exact ⟨k+1,by omega,by omega,⟨by rw [hnx,hRm];simp,by simp⟩,by rw [hnx,hRm]<;>simp⟩
    ·have e:i=(movsL w.req).length:=by omega
     subst e
     have hRm:refM (fullR l (allM b)) w.req.name (movsL w.req)=[]:=refM_end fun y hy=>hi.2 y (by rw [List.take_length];exact hy)
     rw [hRm,List.append_nil] at hnx
     have qe:=@qR;repeat' first|refine gC (fun hc=>?_) (fun hc=>?_)<;>try contradiction|refine gG ?_|show AK _;intro K H|refine H _ _ ?_;clear H K|refine gJ ?_;try exact trivial|omega
     exact ⟨k+1,by omega,by omega,⟨by rw [hnx],by simp⟩,by rw [hnx]⟩
  ·have e:k=b.wait.length:=by omega
   subst e
   have qe:=aI qR @zaf;repeat' first|refine gC (fun hc=>?_) (fun hc=>?_)<;>try contradiction|refine gG ?_|show AK _;intro K H|refine H _ _ ?_;clear H K|refine gJ ?_;try exact trivial|omega
   all_goals exact .refl _
theorem y7 (L:List Rfs):Pure Tryz.prog 44 [.sl 3 (L.map Rfs.pv),.sl 3 (L.map Rfs.pv)] (.b true):=by
 refine zf (cF Tryz.func44 Tryz.f44.eq_1) (by simp) fun hw X hX=>?_
 simp only [wfs,PV.wf,List.length_map,maxLen] at hw
 have qe:=@qR;repeat' first|refine gC (fun hc=>?_) (fun hc=>?_)<;>try contradiction|refine gG ?_|show AK _;intro K H|refine H _ _ ?_;clear H K|refine gJ ?_;try exact trivial|omega
 refine zk (κ:=Nat) (fun i=>⟨[(0,.p (.sl 3 (L.map Rfs.pv))),(1,.p (.sl 3 (L.map Rfs.pv))),(5,.p (.i .i64 i))],[],[],false⟩) (fun i=>i≤L.length) (fun i=>L.length - i) 0 ?_ ?_ ?_
 ·exact sS
 ·simp
 ·intro i hi
  repeat first|refine gG ?_|show AK _;intro K H|refine H _ _ ?_;clear H K|refine gJ ?_;try exact trivial|omega
  (refine gC (fun hc=>?_) (fun hc=>?_)<;>try contradiction)
  ·obtain ⟨x,hx⟩:=zn (i:=i) (l:=L) (by omega)
   have qe:=aI qR @hx;repeat' first|refine gC (fun hc=>?_) (fun hc=>?_)<;>try contradiction|refine gG ?_|show AK _;intro K H|refine H _ _ ?_;clear H K|refine gJ ?_;try exact trivial|omega
   all_goals exact ⟨i+1,by omega,by omega,by simp⟩
  ·have qe:=@qR;repeat' first|refine gC (fun hc=>?_) (fun hc=>?_)<;>try contradiction|refine gG ?_|show AK _;intro K H|refine H _ _ ?_;clear H K|refine gJ ?_;try exact trivial|omega
   all_goals exact .refl _
end Go.Proofs.YtahmdjadnlpjoaaGreat
