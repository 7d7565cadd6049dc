/- The statement TradeBooks of chapter 8 (trade) holds of the given program: CheckSlot, CheckBook, Movements, Holder and Operator return the results or the errors of the reference. No conditions. -/
import Derived.ProofKit
import Derived.OpenShut
import Derived.Carry
import Derived.OpenVars
import Derived.HandedShaped
import Derived.KernelRfl
import Derived.Laws.RangeAny
import Derived.Test.YtahmdjadnlpjoaaGreatRows
import Derived.Test.YtahmdjadnlpjoaaGreatB1
set_option linter.all false
set_option maxHeartbeats 8000000
namespace Go.Proofs.YtahmdjadnlpjoaaGreat
open Go.RowKit
set_option maxRecDepth 100000
set_option linter.unusedVariables false
set_option linter.unusedSimpArgs false
set_option maxHeartbeats 4000000
theorem mapIdx_0 {α:Type} {f:Nat→α→Int} {l:List α} (h:zg (l.mapIdx f)=0) {i:Nat} {x:α} (hx:l[i]?=some x):f i x=0:=fE0 h _ (List.mem_of_getElem? (zI hx))
theorem bk_slot {b:Bk} (h:zG b=0) {i:Nat} {s:Slt} (hs:b.slots[i]?=some s):sltErr b i s=0:=
 mapIdx_0 (fE0 h (zg (b.slots.mapIdx (sltErr b))) (by simp)) hs
theorem bk_slt {b:Bk} (h:zG b=0) {s:Slt} (hs:s ∈ b.slots):chkSlt s=0:=by
 obtain ⟨i,hi⟩:=List.mem_iff_getElem?.1 hs
 exact fE0 (bk_slot h hi) _ (by simp)
theorem bk_q {b:Bk} (h:zG b=0) {s:Slt} (hs:s ∈ b.slots):chkQ s.req=0:=fE0 (bk_slt h hs) _ (by simp)
theorem bk_req {b:Bk} (h:zG b=0) {s:Slt} (hs:s ∈ b.slots):chkReq s.req=0:=chkQ_req (bk_q h hs)
theorem rqW_all (L:List Req):rqW L (-1)=L:=by
 have key:∀ k,k≤L.length→rqK L (-1) k=L.take k:=by
  intro k
  induction k with
  | zero=>intro _;rfl
  | succ k ih=>
   intro hk
   have h:=ih (by omega)
   rw [rqK] at h
   have hx:L[k]?=some L[k]:=List.getElem?_eq_getElem (by omega)
   rw [rqK,List.range_succ,List.flatMap_append,h,zan hx,List.flatMap_cons,List.flatMap_nil,rqI,hx]
   simp only
   rw [if_neg (by omega),List.append_nil]
 rw [rqW,key _ (Nat.le_refl _),List.take_length]
theorem movs_ok4 {r:Req} (h:chkReq r=0):zad (movsL r)=0∧(movsL r).length≤401:=by
 have hp:=zaX (chkReq_0 h).1
 have hl:(movsL r).length≤401:=by
  have:=daysL_len r.per
  simp only [movsL,List.length_map];omega
 refine ⟨chkMovs_of (by omega) (fun x hx=>?_) ?_,hl⟩
 ·obtain ⟨d,hd,rfl⟩:=movs_mem hx
  exact chkReq_parts h hd
 ·unfold movsL
  refine (List.pairwise_map).2 ((days_sorted r.per).imp fun {a b} hab=>?_)
  simp only [movOf];omega
theorem mv_all {L:List Slt} (h:∀ s ∈ L,chkReq s.req=0) (hn:L.length≤70):∀ k≤L.length,mvF ((L.map (·.req)).take k)=mvS (L.take k)∧zad (mvS (L.take k))=0∧(mvS (L.take k)).length≤401*k:=by
 intro k
 induction k with
 | zero=>intro _;exact ⟨rfl,rfl,Nat.zero_le _⟩
 | succ k ih=>
  intro hk
  obtain ⟨e1,e2,e3⟩:=ih (by omega)
  have hx:L[k]?=some L[k]:=List.getElem?_eq_getElem (by omega)
  have hq:=h L[k] (List.getElem_mem _)
  obtain ⟨m1,m2⟩:=movs_ok4 hq
  have hl:(mvS (L.take k)).length+(movsL L[k].req).length≤30000:=by omega
  have hg:mgE (mvS (L.take k)) (movsL L[k].req)=0:=zq.2 ⟨e2,zq.2 ⟨m1,zq.2 ⟨if_neg (by omega),rfl⟩⟩⟩
  obtain ⟨k1,k2⟩:=merge_ok (zaR e2).2.1 (zaR m1).2.1 hl
  have hxr:(L.map (·.req))[k]?=some L[k].req:=by rw [List.getElem?_map,hx];rfl
  rw [mvF_next hxr,mvS_next hx,e1,movR,if_pos hq,mgR,if_pos hg]
  exact ⟨rfl,k1,by rw [k2];omega⟩
theorem bk_movs {b:Bk} (h:zG b=0):mvE b=mvS b.slots∧zad (mvS b.slots)=0∧(mvS b.slots).length≤401*b.slots.length:=by
 have hn:=chkBk_len h
 have:=mv_all (fun s hs=>bk_req h hs) (by omega) b.slots.length (Nat.le_refl _)
 rw [List.take_length] at this
 rw [mvE,if_pos h,rqW_all]
 have e:(b.slots.map (·.req)).take b.slots.length=b.slots.map (·.req):=List.take_of_length_le (by simp)
 rw [e] at this;exact this
set_option maxRecDepth 100000
set_option linter.unusedVariables false
set_option linter.unusedSimpArgs false
set_option maxHeartbeats 8000000
theorem pure1019 (b:Bk) (hb:BkOk b):Pure Tryz.prog 19 [b.pv] b.pv:=by
 obtain ⟨hs,hn,hw1⟩:=hb
 refine zf (cF Tryz.func19 Tryz.f19.eq_1) (by simp) fun hw X hX=>?_
 have qe:=@qR;repeat' first|refine gC (fun hc=>?_) (fun hc=>?_)<;>try contradiction|refine gG ?_|show AK _;intro K H|refine H _ _ ?_;clear H K|refine gJ ?_;try exact trivial|omega
 refine zaO 100 59 16 [(1,.lp 1 0),(2,.lp 2 0),(3,.lp 3 0),(12,.p (.sl 16 (b.slots.map Slt.pv))),(13,.p (.i .i64 b.slots.length)),(14,.p (.i .i64 0))] [(1,.box [.p (.sl 16 (b.slots.map Slt.pv)),.p (.sl 14 (b.wait.map Wsh.pv))] false),(2,.box [.p .nilsl,.p .nilsl] false),(3,.box [.row 100 0,.p .nilsl] false)] ?_ ?_
 ·simp only [Own,zaL,zaB,zbt,zay,qS,Nat.reduceAdd,Nat.reduceMul,Nat.reduceEqDiff,Nat.reduceLeDiff,reduceIte,reduceCtorEq,Nat.reduceBEq,Nat.reduceLT]<;>simp
 refine zk (κ:=Nat) (fun k=>⟨[(1,.lp 1 0),(2,.lp 2 0),(3,.lp 3 0),(12,.p (.sl 16 (b.slots.map Slt.pv))),(13,.p (.i .i64 b.slots.length)),(14,.p (.i .i64 k))],[(1,.box [.p (.sl 16 (b.slots.map Slt.pv)),.p (.sl 14 (b.wait.map Wsh.pv))] false),(2,.box [.p .nilsl,.p .nilsl] false),(3,.box [.row 100 k,.p .nilsl] false),(100,.row 59 16 ((b.slots.take k).map Slt.pv) false)],[],false⟩) (fun k=>k≤b.slots.length) (fun k=>b.slots.length - k) 0 ?_ ?_ ?_
 ·exact sS
 ·simp
 ·intro k hk
  have hlk:(b.slots.take k).length=k:=by rw [List.length_take];omega
  repeat first|refine gG ?_|show AK _;intro K H|refine H _ _ ?_;clear H K|refine gJ ?_;try exact trivial|omega
  (refine gC (fun hc=>?_) (fun hc=>?_)<;>try contradiction)
  ·obtain ⟨s,hx⟩:=zn (i:=k) (l:=b.slots) (by omega)
   obtain ⟨hl1,hl2⟩:=hs s (List.mem_of_getElem? hx)
   have qe:=aI qR (aI @hx (aI @allSt @zaf));repeat' first|refine gC (fun hc=>?_) (fun hc=>?_)<;>try contradiction|refine gG ?_|show AK _;intro K H|refine H _ _ ?_;clear H K|refine gJ ?_;try exact trivial|omega
   refine zaO 101 102 3 [(1,.lp 1 0),(2,.lp 2 0),(3,.lp 3 0),(12,.p (.sl 16 (b.slots.map Slt.pv))),(13,.p (.i .i64 b.slots.length)),(14,.p (.i .i64 k)),(5,.lp 5 0),(6,.lp 6 0),(28,.p (.sl 3 (s.ls.map Lea.pv))),(29,.p (.i .i64 s.ls.length)),(30,.p (.i .i64 0))] [(1,.box [.p (.sl 16 (b.slots.map Slt.pv)),.p (.sl 14 (b.wait.map Wsh.pv))] false),(2,.box [.p .nilsl,.p .nilsl] false),(3,.box [.row 100 k,.p .nilsl] false),(100,.row 59 16 ((b.slots.take k).map Slt.pv) false),(5,.box (s.cells.map .p) false),(6,.box [.p (.s s.req.name),.p (.s s.req.carrier),.p (.s s.req.kind),.p (.s s.req.term),.p (.s s.req.partner),.p (.s s.req.link),.p (.i .i64 s.req.per.fro),.p (.i .i64 s.req.per.to),.p (.i .i64 s.req.per.days),.p (.i .i64 s.req.minute),.p (.i .i64 s.req.seats),.p (.i .i64 s.req.size),.p (.i .i64 s.req.noise),.p (.s s.holder),.row 101 0,.row 22 s.sh.length] false),(22,.row 9 1 (s.sh.map .s) false)] ?_ ?_
   ·simp only [Own,zaL,zaB,zbt,zay,qS,Nat.reduceAdd,Nat.reduceMul,Nat.reduceEqDiff,Nat.reduceLeDiff,reduceIte,reduceCtorEq,Nat.reduceBEq,Nat.reduceLT]<;>simp [hlk]
   refine zk (κ:=Nat) (fun i=>⟨[(1,.lp 1 0),(2,.lp 2 0),(3,.lp 3 0),(12,.p (.sl 16 (b.slots.map Slt.pv))),(13,.p (.i .i64 b.slots.length)),(14,.p (.i .i64 k)),(5,.lp 5 0),(6,.lp 6 0),(28,.p (.sl 3 (s.ls.map Lea.pv))),(29,.p (.i .i64 s.ls.length)),(30,.p (.i .i64 i))],[(1,.box [.p (.sl 16 (b.slots.map Slt.pv)),.p (.sl 14 (b.wait.map Wsh.pv))] false),(2,.box [.p .nilsl,.p .nilsl] false),(3,.box [.row 100 k,.p .nilsl] false),(100,.row 59 16 ((b.slots.take k).map Slt.pv) false),(5,.box (s.cells.map .p) false),(6,.box [.p (.s s.req.name),.p (.s s.req.carrier),.p (.s s.req.kind),.p (.s s.req.term),.p (.s s.req.partner),.p (.s s.req.link),.p (.i .i64 s.req.per.fro),.p (.i .i64 s.req.per.to),.p (.i .i64 s.req.per.days),.p (.i .i64 s.req.minute),.p (.i .i64 s.req.seats),.p (.i .i64 s.req.size),.p (.i .i64 s.req.noise),.p (.s s.holder),.row 101 i,.row 22 s.sh.length] false),(22,.row 9 1 (s.sh.map .s) false),(101,.row 102 3 ((s.ls.take i).map Lea.pv) false)],[],false⟩) (fun i=>i≤s.ls.length) (fun i=>s.ls.length - i) 0 ?_ ?_ ?_
   ·refine gJ ?_;simp [hlk]
   ·simp
   ·intro i hi
    have hli:(s.ls.take i).length=i:=by rw [List.length_take];omega
    repeat first|refine gG ?_|show AK _;intro K H|refine H _ _ ?_;clear H K|refine gJ ?_;try exact trivial|omega
    (refine gC (fun hc=>?_) (fun hc=>?_)<;>try contradiction)
    ·obtain ⟨x,hx2⟩:=zn (i:=i) (l:=s.ls) (by omega)
     have qe:=aI qR (aI @hx2 (aI @hli @hlk));repeat' first|refine gC (fun hc=>?_) (fun hc=>?_)<;>try contradiction|refine gG ?_|show AK _;intro K H|refine H _ _ ?_;clear H K|refine gJ ?_;try exact trivial|omega
     exact ⟨i+1,by omega,by omega,by simp,⟨rfl,by rw [zan hx2];simp⟩,by simp;omega⟩
    ·have e:i=s.ls.length:=by omega
     subst e
     refine run_exit ?_
     refine (show Run _ (.ops false _) _ _ from run_region (run_partN 3 ?_))
     simp only [List.take_succ_cons,List.take_zero,List.drop_succ_cons,List.drop_zero]
     have qe:=aI qR (aI @zaf (aI @hlk @List.take_length.{0}));repeat' first|refine gC (fun hc=>?_) (fun hc=>?_)<;>try contradiction|refine gG ?_|show AK _;intro K H|refine H _ _ ?_;clear H K|refine gJ ?_;try exact trivial|omega
     refine zbO (ghost_pub 43 s.pv (by simp only [qS,Nat.reduceAdd,Nat.reduceMul,Nat.reduceEqDiff,Nat.reduceLeDiff,reduceIte,reduceCtorEq,Nat.reduceBEq,Nat.reduceLT,zaf]<;>rfl) (by first|trivial|simp) (.refl _)) ?_
     rintro _ rfl
     refine zE ?_
     have qe:=aI qR @hlk;repeat' first|refine gC (fun hc=>?_) (fun hc=>?_)<;>try contradiction|refine gG ?_|show AK _;intro K H|refine H _ _ ?_;clear H K|refine gJ ?_;try exact trivial|omega
     exact ⟨k+1,by omega,by omega,by simp,⟨rfl,by rw [zan hx];simp⟩,by simp;omega⟩
  ·have e:k=b.slots.length:=by omega
   subst e
   have qe:=aI qR @List.take_length.{0};repeat' first|refine gC (fun hc=>?_) (fun hc=>?_)<;>try contradiction|refine gG ?_|show AK _;intro K H|refine H _ _ ?_;clear H K|refine gJ ?_;try exact trivial|omega
   refine zaO 102 71 14 [(2,.lp 2 0),(3,.lp 3 0),(49,.p (.sl 14 (b.wait.map Wsh.pv))),(50,.p (.i .i64 b.wait.length)),(51,.p (.i .i64 0))] [(1,.box [.p (.sl 16 (b.slots.map Slt.pv)),.p (.sl 14 (b.wait.map Wsh.pv))] false),(2,.box [.p .nilsl,.p .nilsl] false),(3,.box [.row 100 b.slots.length,.row 102 0] false),(100,.row 59 16 (b.slots.map Slt.pv) false)] ?_ ?_
   ·simp only [Own,zaL,zaB,zbt,zay,qS,Nat.reduceAdd,Nat.reduceMul,Nat.reduceEqDiff,Nat.reduceLeDiff,reduceIte,reduceCtorEq,Nat.reduceBEq,Nat.reduceLT]<;>simp
   refine zk (κ:=Nat) (fun k=>⟨[(2,.lp 2 0),(3,.lp 3 0),(49,.p (.sl 14 (b.wait.map Wsh.pv))),(50,.p (.i .i64 b.wait.length)),(51,.p (.i .i64 k))],[(1,.box [.p (.sl 16 (b.slots.map Slt.pv)),.p (.sl 14 (b.wait.map Wsh.pv))] false),(2,.box [.p .nilsl,.p .nilsl] false),(3,.box [.row 100 b.slots.length,.row 102 k] false),(100,.row 59 16 (b.slots.map Slt.pv) false),(102,.row 71 14 ((b.wait.take k).map Wsh.pv) false)],[],false⟩) (fun k=>k≤b.wait.length) (fun k=>b.wait.length - k) 0 ?_ ?_ ?_
   ·exact sS
   ·simp
   ·intro k hk2
    have hl2:(b.wait.take k).length=k:=by rw [List.length_take];omega
    repeat first|refine gG ?_|show AK _;intro K H|refine H _ _ ?_;clear H K|refine gJ ?_;try exact trivial|omega
    (refine gC (fun hc=>?_) (fun hc=>?_)<;>try contradiction)
    ·obtain ⟨w,hx2⟩:=zn (i:=k) (l:=b.wait) (by omega)
     have qe:=aI qR (aI @hx2 @hl2);repeat' first|refine gC (fun hc=>?_) (fun hc=>?_)<;>try contradiction|refine gG ?_|show AK _;intro K H|refine H _ _ ?_;clear H K|refine gJ ?_;try exact trivial|omega
     exact ⟨k+1,by omega,by omega,by simp,⟨rfl,by rw [zan hx2];simp⟩,by simp;omega⟩
    ·have e2:k=b.wait.length:=by omega
     subst e2
     have qe:=aI qR (aI @zaf @List.take_length.{0});repeat' first|refine gC (fun hc=>?_) (fun hc=>?_)<;>try contradiction|refine gG ?_|show AK _;intro K H|refine H _ _ ?_;clear H K|refine gJ ?_;try exact trivial|omega
     exact .refl _
set_option maxRecDepth 100000
set_option linter.unusedVariables false
set_option linter.unusedSimpArgs false
set_option maxHeartbeats 8000000
theorem atL_iff (n:ByteArray):∀ l:List ByteArray,0≤atL n l↔n ∈ l
 | []=>by simp [atL]
 | x::r=>by
  have ih:=atL_iff n r
  have:=atL_ge n r
  simp only [atL,List.mem_cons]
  by_cases h:x=n
  ·rw [if_pos h];exact ⟨fun _=>.inl h.symm,fun _=>by omega⟩
  ·rw [if_neg h]
   by_cases h2:atL n r < 0
   ·rw [if_pos h2];exact ⟨fun h3=>by omega,fun h3=>h3.elim (fun e=>absurd e.symm h) fun e=>by have:=ih.2 e;omega⟩
   ·rw [if_neg h2];exact ⟨fun _=>.inr (ih.1 (by omega)),fun _=>by omega⟩
set_option maxRecDepth 100000
set_option linter.unusedVariables false
set_option linter.unusedSimpArgs false
set_option maxHeartbeats 8000000
theorem ahead_no {a b:Wsh}:aheadB a b=false↔cmpW b a≤0:=by
 rw [aheadB,cmpW]
 rcases Int.lt_trichotomy a.rank b.rank with k|k|k
 ·have e:cmpI b.rank a.rank=1:=by rw [cmpI,if_neg (by omega),if_pos k]
  rw [e,za2 (by omega),decide_eq_true k,Bool.true_or]
  exact ⟨fun h=>(by cases h),fun h=>(by omega)⟩
 ·have e:cmpI b.rank a.rank=0:=by rw [cmpI,if_neg (by omega),if_neg (by omega)]
  have k1:¬a.rank < b.rank:=by omega
  rw [za3 e,fE_one,decide_eq_false k1,decide_eq_true k,Bool.false_or,Bool.true_and]
  constructor
  ·intro h
   by_cases q:a.req.name=b.req.name
   ·rw [(cmpS_0 _ _).2 q.symm];omega
   ·have h2:Op.bytesLess b.req.name.toList a.req.name.toList=true:=by
     by_cases r:Op.bytesLess b.req.name.toList a.req.name.toList=true
     ·exact r
     ·exact absurd (ba_tri h (by simpa using r)) q
    have:=(cmpS_l _ _).2 h2;omega
  ·intro h
   cases q:Op.bytesLess a.req.name.toList b.req.name.toList
   ·rfl
   ·exfalso
    rcases Int.lt_or_eq_of_le h with h|h
    ·have h1:=(cmpS_l _ _).1 h
     rw [bl_asym _ _ q] at h1;cases h1
    ·have h1:=(cmpS_0 _ _).1 h
     rw [h1,less_irr] at q;cases q
 ·have e:cmpI b.rank a.rank=-1:=if_pos k
  have k1:¬a.rank < b.rank:=by omega
  have k2:¬a.rank=b.rank:=by omega
  rw [e,za2 (by omega),decide_eq_false k1,decide_eq_false k2,Bool.false_or,Bool.false_and]
  exact ⟨fun _=>by omega,fun _=>rfl⟩
theorem pure1023 (b:Bk):Pure Tryz.prog 22 [b.pv] (.i .i64 (zG b)):=by
 refine zf (cF Tryz.func22 Tryz.f22.eq_1) (by simp) fun hw X hX=>?_
 by_cases h64:(64:Int) < b.slots.length
 ·have e:zG b=5:=by rw [zG,if_pos h64,za2 (by omega)]
  have h64':=eq_true h64
  rw [e]
  have qe:=aI qR (aI @h64' @decide_true);repeat' first|refine gC (fun hc=>?_) (fun hc=>?_)<;>try contradiction|refine gG ?_|show AK _;intro K H|refine H _ _ ?_;clear H K|refine gJ ?_;try exact trivial|omega
  all_goals exact .refl _
 have h64':=eq_false h64
 have hE:zG b=zg [zg (b.slots.mapIdx (sltErr b)),if 64 < (b.wait.length:Int) then 5 else 0,zg (b.wait.mapIdx (wshErr b))]:=by rw [zG,if_neg h64,za3 rfl]
 have qe:=aI qR (aI @h64' @decide_false);repeat' first|refine gC (fun hc=>?_) (fun hc=>?_)<;>try contradiction|refine gG ?_|show AK _;intro K H|refine H _ _ ?_;clear H K|refine gJ ?_;try exact trivial|omega
 refine zk (κ:=Nat) (fun i=>⟨[(1,.lp 1 0),(3,.p (.i .i64 i))],[(1,.box [.p (.sl 16 (b.slots.map Slt.pv)),.p (.sl 14 (b.wait.map Wsh.pv))] false)],[],false⟩) (fun i=>i≤b.slots.length∧∀ x ∈ (b.slots.mapIdx (sltErr b)).take i,x=0) (fun i=>b.slots.length - i) 0 ?_ ?_ ?_
 ·exact sS
 ·simp
 ·intro i hi
  repeat first|refine gG ?_|show AK _;intro K H|refine H _ _ ?_;clear H K|refine gJ ?_;try exact trivial|omega
  (refine gC (fun hc=>?_) (fun hc=>?_)<;>try contradiction)
  ·obtain ⟨s,hs⟩:=zn (i:=i) (l:=b.slots) (by omega)
   have e9:((9:Int)=0)=False:=eq_false (by omega)
   by_cases c1:chkSlt s=0
   ·have c1':=eq_true c1
    by_cases c2:0≤atL s.req.name ((b.slots.take i).map (·.req.name))
    ·have c2':=eq_true c2
     have hv:sltErr b i s=9:=by rw [sltErr,za3 c1,fE_one,if_pos c2]
     have e:zG b=9:=by rw [hE,zV hi.2 (zI hs) (by rw [hv];decide),hv,za2 (by omega)]
     rw [e]
     have qe:=aI qR (aI @hs (aI @take_map (aI @c1' (aI @c2' (aI @e9 (aI @decide_true @decide_false))))));repeat' first|refine gC (fun hc=>?_) (fun hc=>?_)<;>try contradiction|refine za (pure1092 s) ?_|refine zN (fun _=>pure1071 (b.slots.take i) s.req.name) ?_|refine gG ?_|show AK _;intro K H|refine H _ _ ?_;clear H K|refine gJ ?_;try exact trivial|omega
     all_goals exact .refl _
    ·have c2':=eq_false c2
     have hv:sltErr b i s=0:=by rw [sltErr,za3 c1,fE_one,if_neg c2]
     have qe:=aI qR (aI @hs (aI @take_map (aI @c1' (aI @c2' (aI @decide_true @decide_false)))));repeat' first|refine gC (fun hc=>?_) (fun hc=>?_)<;>try contradiction|refine za (pure1092 s) ?_|refine zN (fun _=>pure1071 (b.slots.take i) s.req.name) ?_|refine gG ?_|show AK _;intro K H|refine H _ _ ?_;clear H K|refine gJ ?_;try exact trivial|omega
     all_goals exact ⟨i+1,⟨by omega,zaC hi.2 (zI hs) hv⟩,by omega,by simp⟩
   ·have c1':=eq_false c1
    have hv:sltErr b i s=chkSlt s:=by rw [sltErr,za2 c1]
    have e:zG b=chkSlt s:=by rw [hE,zV hi.2 (zI hs) (by rw [hv];exact c1),hv,za2 c1]
    rw [e]
    have qe:=aI qR (aI @hs (aI @take_map (aI @c1' @decide_false)));repeat' first|refine gC (fun hc=>?_) (fun hc=>?_)<;>try contradiction|refine za (pure1092 s) ?_|refine zN (fun _=>pure1071 (b.slots.take i) s.req.name) ?_|refine gG ?_|show AK _;intro K H|refine H _ _ ?_;clear H K|refine gJ ?_;try exact trivial|omega
    all_goals exact .refl _
  ·have ei:i=(b.slots.mapIdx (sltErr b)).length:=by simp;omega
   have hA:zg (b.slots.mapIdx (sltErr b))=0:=by subst ei;exact z4 hi.2
   rw [za3 hA] at hE
   by_cases h65:(64:Int) < b.wait.length
   ·have e:zG b=5:=by rw [hE,if_pos h65,za2 (by omega)]
    have h65':=eq_true h65
    rw [e]
    have qe:=aI qR (aI @h65' @decide_true);repeat' first|refine gC (fun hc=>?_) (fun hc=>?_)<;>try contradiction|refine gG ?_|show AK _;intro K H|refine H _ _ ?_;clear H K|refine gJ ?_;try exact trivial|omega
    all_goals exact .refl _
   have h65':=eq_false h65
   rw [if_neg h65,za3 rfl,fE_one] at hE
   have qe:=aI qR (aI @h65' @decide_false);repeat' first|refine gC (fun hc=>?_) (fun hc=>?_)<;>try contradiction|refine gG ?_|show AK _;intro K H|refine H _ _ ?_;clear H K|refine gJ ?_;try exact trivial|omega
   refine zk (κ:=Nat) (fun i=>⟨[(1,.lp 1 0),(5,.p (.i .i64 i))],[(1,.box [.p (.sl 16 (b.slots.map Slt.pv)),.p (.sl 14 (b.wait.map Wsh.pv))] false)],[],false⟩) (fun i=>i≤b.wait.length∧∀ x ∈ (b.wait.mapIdx (wshErr b)).take i,x=0) (fun i=>b.wait.length - i) 0 ?_ ?_ ?_
   ·exact sS
   ·simp
   ·clear hi ei
    intro i hi
    repeat first|refine gG ?_|show AK _;intro K H|refine H _ _ ?_;clear H K|refine gJ ?_;try exact trivial|omega
    (refine gC (fun hc=>?_) (fun hc=>?_)<;>try contradiction)
    ·obtain ⟨w,hx⟩:=zn (i:=i) (l:=b.wait) (by omega)
     have e9:((9:Int)=0)=False:=eq_false (by omega)
     have e11:((11:Int)=0)=False:=eq_false (by omega)
     have hr:∀ e,wshErr b i w=e→e≠0→zG b=e:=fun e hv he=>by rw [hE,zV hi.2 (zI hx) (by rw [hv];exact he),hv]
     have hn9:∀ q:0≤atL w.req.name (b.slots.map (·.req.name))∨0≤atL w.req.name ((b.wait.take i).map (·.req.name)),0≤atL w.req.name (b.slots.map (·.req.name)++(b.wait.take i).map (·.req.name)):=fun q=>(atL_iff _ _).2 (by
      rcases q with q|q
      ·exact List.mem_append_left _ ((atL_iff _ _).1 q)
      ·exact List.mem_append_right _ ((atL_iff _ _).1 q))
     by_cases d1:chkWsh w=0
     ·have d1':=eq_true d1
      by_cases d2:0≤atL w.req.name (b.slots.map (·.req.name))
      ·have d2':=eq_true d2
       rw [hr 9 (by rw [wshErr,za3 d1,if_pos (hn9 (.inl d2)),za2 (by omega)]) (by omega)]
       have qe:=aI qR (aI @hx (aI @take_map (aI @d1' (aI @d2' (aI @e9 (aI @decide_true @decide_false))))));repeat' first|refine gC (fun hc=>?_) (fun hc=>?_)<;>try contradiction|refine za (pure1045 w) ?_|refine zN (fun _=>pure1071 b.slots w.req.name) ?_|refine zN (fun _=>pure1046 (b.wait.take i) w.req.name) ?_|(show zj _ _ _ _ (⟨_,.call 95,_,_,_⟩::_) _ _;refine run_callF (q:=.b false) (by first|rfl|(simp (disch:=omega) only [qG,qe,Nat.reduceAdd,Nat.reduceMul,Nat.reduceEqDiff,Nat.reduceLeDiff,reduceIte,reduceCtorEq,Nat.reduceBEq,Nat.reduceLT]<;>rfl)) ?_;(try (refine zE ?_)))|refine gG ?_|show AK _;intro K H|refine H _ _ ?_;clear H K|refine gJ ?_;try exact trivial|omega
       all_goals exact .refl _
      have d2':=eq_false d2
      by_cases d3:0≤atL w.req.name ((b.wait.take i).map (·.req.name))
      ·have d3':=eq_true d3
       rw [hr 9 (by rw [wshErr,za3 d1,if_pos (hn9 (.inr d3)),za2 (by omega)]) (by omega)]
       have qe:=aI qR (aI @hx (aI @take_map (aI @d1' (aI @d2' (aI @d3' (aI @e9 (aI @decide_true @decide_false)))))));repeat' first|refine gC (fun hc=>?_) (fun hc=>?_)<;>try contradiction|refine za (pure1045 w) ?_|refine zN (fun _=>pure1071 b.slots w.req.name) ?_|refine zN (fun _=>pure1046 (b.wait.take i) w.req.name) ?_|(show zj _ _ _ _ (⟨_,.call 95,_,_,_⟩::_) _ _;refine run_callF (q:=.b false) (by first|rfl|(simp (disch:=omega) only [qG,qe,Nat.reduceAdd,Nat.reduceMul,Nat.reduceEqDiff,Nat.reduceLeDiff,reduceIte,reduceCtorEq,Nat.reduceBEq,Nat.reduceLT]<;>rfl)) ?_;(try (refine zE ?_)))|refine gG ?_|show AK _;intro K H|refine H _ _ ?_;clear H K|refine gJ ?_;try exact trivial|omega
       all_goals exact .refl _
      have d3':=eq_false d3
      have hno:¬0≤atL w.req.name (b.slots.map (·.req.name)++(b.wait.take i).map (·.req.name)):=fun q=>by
       rcases List.mem_append.1 ((atL_iff _ _).1 q) with q|q
       ·exact d2 ((atL_iff _ _).2 q)
       ·exact d3 ((atL_iff _ _).2 q)
      by_cases d4:0 < (i:Int)
      ·have d4':=eq_true d4
       obtain ⟨p,hp⟩:=zn (i:=i - 1) (l:=b.wait) (by omega)
       have e1:((i:Int) - 1).toNat=i - 1:=by omega
       cases d5:aheadB p w with
       | true=>
        have hc5:¬cmpW w p≤0:=fun q=>by rw [ahead_no.2 q] at d5;cases d5
        have hv:wshErr b i w=0:=by rw [wshErr,za3 d1,if_neg hno,za3 rfl,fE_one,hp];exact if_neg fun q=>hc5 q.2
        have qe:=aI qR (aI @hx (aI @hp (aI @e1 (aI @take_map (aI @d1' (aI @d2' (aI @d3' (aI @d4' (aI @d5 (aI @decide_true (aI @decide_false @Bool.not_true)))))))))));repeat' first|refine gC (fun hc=>?_) (fun hc=>?_)<;>try contradiction|refine za (pure1045 w) ?_|refine zN (fun _=>pure1071 b.slots w.req.name) ?_|refine zN (fun _=>pure1046 (b.wait.take i) w.req.name) ?_|refine zN (fun _=>pure1093 p w) ?_|refine gG ?_|show AK _;intro K H|refine H _ _ ?_;clear H K|refine gJ ?_;try exact trivial|omega
        all_goals exact ⟨i+1,⟨by omega,zaC hi.2 (zI hx) hv⟩,by omega,by simp⟩
       | false=>
        rw [hr 11 (by rw [wshErr,za3 d1,if_neg hno,za3 rfl,fE_one,hp];exact if_pos ⟨d4,ahead_no.1 d5⟩) (by omega)]
        have qe:=aI qR (aI @hx (aI @hp (aI @e1 (aI @take_map (aI @d1' (aI @d2' (aI @d3' (aI @d4' (aI @d5 (aI @e11 (aI @decide_true (aI @decide_false @Bool.not_false))))))))))));repeat' first|refine gC (fun hc=>?_) (fun hc=>?_)<;>try contradiction|refine za (pure1045 w) ?_|refine zN (fun _=>pure1071 b.slots w.req.name) ?_|refine zN (fun _=>pure1046 (b.wait.take i) w.req.name) ?_|refine zN (fun _=>pure1093 p w) ?_|refine gG ?_|show AK _;intro K H|refine H _ _ ?_;clear H K|refine gJ ?_;try exact trivial|omega
        all_goals exact .refl _
      ·have d4':=eq_false d4
       have hv:wshErr b i w=0:=by rw [wshErr,za3 d1,if_neg hno,za3 rfl,fE_one];exact if_neg fun q=>d4 q.1
       have qe:=aI qR (aI @hx (aI @take_map (aI @d1' (aI @d2' (aI @d3' (aI @d4' (aI @decide_true @decide_false)))))));repeat' first|refine gC (fun hc=>?_) (fun hc=>?_)<;>try contradiction|refine za (pure1045 w) ?_|refine zN (fun _=>pure1071 b.slots w.req.name) ?_|refine zN (fun _=>pure1046 (b.wait.take i) w.req.name) ?_|(show zj _ _ _ _ (⟨_,.call 95,_,_,_⟩::_) _ _;refine run_callF (q:=.b false) (by first|rfl|(simp (disch:=omega) only [qG,qe,Nat.reduceAdd,Nat.reduceMul,Nat.reduceEqDiff,Nat.reduceLeDiff,reduceIte,reduceCtorEq,Nat.reduceBEq,Nat.reduceLT]<;>rfl)) ?_;(try (refine zE ?_)))|refine gG ?_|show AK _;intro K H|refine H _ _ ?_;clear H K|refine gJ ?_;try exact trivial|omega
       all_goals exact ⟨i+1,⟨by omega,zaC hi.2 (zI hx) hv⟩,by omega,by simp⟩
     ·have d1':=eq_false d1
      rw [hr (chkWsh w) (by rw [wshErr,za2 d1]) d1]
      have qe:=aI qR (aI @hx (aI @take_map (aI @d1' @decide_false)));repeat' first|refine gC (fun hc=>?_) (fun hc=>?_)<;>try contradiction|refine za (pure1045 w) ?_|refine zN (fun _=>pure1071 b.slots w.req.name) ?_|refine zN (fun _=>pure1046 (b.wait.take i) w.req.name) ?_|(show zj _ _ _ _ (⟨_,.call 95,_,_,_⟩::_) _ _;refine run_callF (q:=.b false) (by first|rfl|(simp (disch:=omega) only [qG,qe,Nat.reduceAdd,Nat.reduceMul,Nat.reduceEqDiff,Nat.reduceLeDiff,reduceIte,reduceCtorEq,Nat.reduceBEq,Nat.reduceLT]<;>rfl)) ?_;(try (refine zE ?_)))|refine gG ?_|show AK _;intro K H|refine H _ _ ?_;clear H K|refine gJ ?_;try exact trivial|omega
      all_goals exact .refl _
    ·have ei:i=(b.wait.mapIdx (wshErr b)).length:=by simp;omega
     have hZ:zg (b.wait.mapIdx (wshErr b))=0:=by subst ei;exact z4 hi.2
     rw [hE,hZ]
     have qe:=@qR;repeat' first|refine gC (fun hc=>?_) (fun hc=>?_)<;>try contradiction|refine gG ?_|show AK _;intro K H|refine H _ _ ?_;clear H K|refine gJ ?_;try exact trivial|omega
     all_goals exact .refl _
set_option maxRecDepth 100000
set_option linter.unusedVariables false
set_option linter.unusedSimpArgs false
set_option maxHeartbeats 8000000
def rHol (b:Bk) (n:ByteArray):ByteArray:=if fndE b.slots n=0 then (zo b n).holder else s0
theorem pure2024 (b:Bk) (n:ByteArray):Pure Tryz.prog 24 [b.pv,.s n] (.tup [.s (rHol b n),.i .i64 (fndE b.slots n)]):=by
 refine zf (cF Tryz.func24 Tryz.f24.eq_1) (by simp) fun hw X hX=>?_
 rw [rHol]
 by_cases h2:atL n (b.slots.map (·.req.name)) < 0
 ·have f1:fndE b.slots n=10:=by rw [fndE,if_pos h2]
  have f2:fndI b.slots n=0:=by rw [fndI,if_pos h2]
  have e2:((10:Int)=0)=False:=eq_false (by omega)
  rw [f1,if_neg (by omega)]
  have qe:=aI qR (aI @f1 (aI @f2 (aI @e2 (aI @decide_false @Bool.not_false))));repeat' first|refine gC (fun hc=>?_) (fun hc=>?_)<;>try contradiction|refine za (pure1137 b n) ?_|refine gG ?_|show AK _;intro K H|refine H _ _ ?_;clear H K|refine gJ ?_;try exact trivial|omega
  all_goals exact .refl _
 ·obtain ⟨s,hs⟩:=slot_at h2
  have hlt:=atL_lt n (b.slots.map (·.req.name))
  rw [List.length_map] at hlt
  have f1:fndE b.slots n=0:=by rw [fndE,if_neg h2]
  have f2:fndI b.slots n=atL n (b.slots.map (·.req.name)):=by rw [fndI,if_neg h2]
  have hso:zo b n=s:=by rw [zo,hs];rfl
  rw [f1,if_pos rfl,hso]
  have qe:=aI qR (aI @f1 (aI @f2 (aI @hs (aI @zbb (aI @decide_true @Bool.not_true)))));repeat' first|refine gC (fun hc=>?_) (fun hc=>?_)<;>try contradiction|refine za (pure1137 b n) ?_|refine gG ?_|show AK _;intro K H|refine H _ _ ?_;clear H K|refine gJ ?_;try exact trivial|omega
  all_goals exact .refl _
def opP (d:Int) (l:Lea):Bool:=decide (l.fro≤d) && decide (d≤l.to)
def rOpE (b:Bk) (n:ByteArray) (d:Int):Int:=zg [fndE b.slots n,rng d 0 99999,if d ∈ zY (zo b n).req.per then 0 else 30]
def rOpR (b:Bk) (n:ByteArray) (d:Int):ByteArray:=if rOpE b n d=0 then oprY (zo b n) d else s0
theorem pure2025 (b:Bk) (n:ByteArray) (d:Int) (hok:BkOk b) (hv:∀ s ∈ b.slots,zau s.req.per=0):Pure Tryz.prog 25 [b.pv,.s n,.i .i64 d] (.tup [.s (rOpR b n d),.i .i64 (rOpE b n d)]):=by
 refine zf (cF Tryz.func25 Tryz.f25.eq_1) (by simp) fun hw X hX=>?_
 simp only [wfs,PV.wf,List.length_map,maxLen] at hw
 by_cases h2:atL n (b.slots.map (·.req.name)) < 0
 ·have f1:fndE b.slots n=10:=by rw [fndE,if_pos h2]
  have f2:fndI b.slots n=0:=by rw [fndI,if_pos h2]
  have e2:((10:Int)=0)=False:=eq_false (by omega)
  have e3:rOpE b n d=10:=by rw [rOpE,za2 (by rw [f1];omega),f1]
  rw [rOpR,e3,if_neg (by omega)]
  have qe:=aI qR (aI @f1 (aI @f2 (aI @e2 (aI @decide_false @Bool.not_false))));repeat' first|refine gC (fun hc=>?_) (fun hc=>?_)<;>try contradiction|refine za (pure1137 b n) ?_|(show zj _ _ _ _ (⟨_,.call 100,_,_,_⟩::_) _ _;refine run_callF (q:=.b false) (by first|rfl|(simp (disch:=omega) only [qG,qe,Nat.reduceAdd,Nat.reduceMul,Nat.reduceEqDiff,Nat.reduceLeDiff,reduceIte,reduceCtorEq,Nat.reduceBEq,Nat.reduceLT]<;>rfl)) ?_;(try (refine zE ?_)))|refine gG ?_|show AK _;intro K H|refine H _ _ ?_;clear H K|refine gJ ?_;try exact trivial|omega
  all_goals exact .refl _
 ·obtain ⟨s,hs⟩:=slot_at h2
  have hlt:=atL_lt n (b.slots.map (·.req.name))
  rw [List.length_map] at hlt
  have f1:fndE b.slots n=0:=by rw [fndE,if_neg h2]
  have f2:fndI b.slots n=atL n (b.slots.map (·.req.name)):=by rw [fndI,if_neg h2]
  have hso:zo b n=s:=by rw [zo,hs];rfl
  have hp:=hv s (List.mem_of_getElem? hs)
  have hsl:=(hok.s s (List.mem_of_getElem? hs)).1
  by_cases hd:rng d 0 99999=0
  ·have hd':=eq_true hd
   by_cases hm:d ∈ zY s.req.per
   ·have e3:rOpE b n d=0:=by rw [rOpE,za3 f1,za3 hd,fE_one,hso,if_pos hm]
    rw [rOpR,e3,if_pos rfl,hso]
    have qe:=aI qR (aI @f1 (aI @f2 (aI @hs (aI @hd (aI @hm (aI @zbb (aI @decide_true @Bool.not_true)))))));repeat' first|refine gC (fun hc=>?_) (fun hc=>?_)<;>try contradiction|refine za (pure1137 b n) ?_|refine za (pure127 d) ?_|refine zN (fun _=>pure35 s.req.per d hp) ?_|refine gG ?_|show AK _;intro K H|refine H _ _ ?_;clear H K|refine gJ ?_;try exact trivial|omega
    refine zk (κ:=Nat) (fun k=>⟨[(2,.p (.i .i64 d)),(10,.lp 10 0),(11,.p (.i .i64 k))],[(10,.box (s.cells.map .p) false)],[],false⟩) (fun k=>k≤s.ls.length∧∀ y ∈ s.ls.take k,opP d y=false) (fun k=>s.ls.length - k) 0 ?_ ?_ ?_
    ·exact sS
    ·simp
    ·intro k hk
     repeat first|refine gG ?_|show AK _;intro K H|refine H _ _ ?_;clear H K|refine gJ ?_;try exact trivial|omega
     (refine gC (fun hc=>?_) (fun hc=>?_)<;>try contradiction)
     ·obtain ⟨x,hx⟩:=zn (i:=k) (l:=s.ls) (by omega)
      by_cases h5:x.fro≤d
      ·have h5':=eq_true h5
       by_cases h6:d≤x.to
       ·have h6':=eq_true h6
        have hop:opP d x=true:=by simp [opP,h5,h6]
        have hI:leaI s d=(k:Int):=idxF_hit (p:=opP d) hk.2 hx hop
        have hY:oprY s d=x.carrier:=by rw [oprY,hI,if_neg (by omega),Int.toNat_natCast,hx];rfl
        rw [hY]
        have qe:=aI qR (aI @hx (aI @h5' (aI @h6' @decide_true)));repeat' first|refine gC (fun hc=>?_) (fun hc=>?_)<;>try contradiction|refine gG ?_|show AK _;intro K H|refine H _ _ ?_;clear H K|refine gJ ?_;try exact trivial|omega
        all_goals exact .refl _
       ·have h6':=eq_false h6
        have hop:opP d x=false:=by simp [opP,h5,h6]
        have qe:=aI qR (aI @hx (aI @h5' (aI @h6' (aI @decide_true @decide_false))));repeat' first|refine gC (fun hc=>?_) (fun hc=>?_)<;>try contradiction|refine gG ?_|show AK _;intro K H|refine H _ _ ?_;clear H K|refine gJ ?_;try exact trivial|omega
        all_goals exact ⟨k+1,⟨by omega,take_no hk.2 hx hop⟩,by omega,by simp⟩
      ·have h5':=eq_false h5
       have hop:opP d x=false:=by simp [opP,h5]
       have qe:=aI qR (aI @hx (aI @h5' @decide_false));repeat' first|refine gC (fun hc=>?_) (fun hc=>?_)<;>try contradiction|refine gG ?_|show AK _;intro K H|refine H _ _ ?_;clear H K|refine gJ ?_;try exact trivial|omega
       all_goals exact ⟨k+1,⟨by omega,take_no hk.2 hx hop⟩,by omega,by simp⟩
     ·have e:k=s.ls.length:=by omega
      subst e
      have hI:leaI s d=-1:=idxF_end (p:=opP d) (fun y hy=>hk.2 y (by rw [List.take_length];exact hy))
      have hY:oprY s d=s.holder:=by rw [oprY,hI,if_pos (by omega)]
      rw [hY]
      have qe:=@qR;repeat' first|refine gC (fun hc=>?_) (fun hc=>?_)<;>try contradiction|refine gG ?_|show AK _;intro K H|refine H _ _ ?_;clear H K|refine gJ ?_;try exact trivial|omega
      all_goals exact .refl _
   ·have e3:rOpE b n d=30:=by rw [rOpE,za3 f1,za3 hd,fE_one,hso,if_neg hm]
    have hm':=eq_false hm
    rw [rOpR,e3,if_neg (by omega)]
    have qe:=aI qR (aI @f1 (aI @f2 (aI @hs (aI @hd (aI @hm' (aI @zbb (aI @decide_true (aI @decide_false (aI @Bool.not_true @Bool.not_false)))))))));repeat' first|refine gC (fun hc=>?_) (fun hc=>?_)<;>try contradiction|refine za (pure1137 b n) ?_|refine za (pure127 d) ?_|refine zN (fun _=>pure35 s.req.per d hp) ?_|refine gG ?_|show AK _;intro K H|refine H _ _ ?_;clear H K|refine gJ ?_;try exact trivial|omega
    all_goals exact .refl _
  ·have hd':=eq_false hd
   have e3:rOpE b n d=rng d 0 99999:=by rw [rOpE,za3 f1,za2 hd]
   rw [rOpR,e3,if_neg hd]
   have qe:=aI qR (aI @f1 (aI @f2 (aI @hs (aI @hd' (aI @zbb (aI @decide_true (aI @decide_false (aI @Bool.not_true @Bool.not_false))))))));repeat' first|refine gC (fun hc=>?_) (fun hc=>?_)<;>try contradiction|refine za (pure1137 b n) ?_|refine za (pure127 d) ?_|(show zj _ _ _ _ (⟨_,.call 100,_,_,_⟩::_) _ _;refine run_callF (q:=.b false) (by first|rfl|(simp (disch:=omega) only [qG,qe,Nat.reduceAdd,Nat.reduceMul,Nat.reduceEqDiff,Nat.reduceLeDiff,reduceIte,reduceCtorEq,Nat.reduceBEq,Nat.reduceLT]<;>rfl)) ?_;(try (refine zE ?_)))|refine gG ?_|show AK _;intro K H|refine H _ _ ?_;clear H K|refine gJ ?_;try exact trivial|omega
   all_goals exact .refl _
set_option maxRecDepth 100000
set_option linter.unusedVariables false
set_option linter.unusedSimpArgs false
set_option maxHeartbeats 8000000
theorem sl_sh {s:Slt} (h:shSl s=true):s.ls.length≤9∧s.sh.length≤5∧shortB s.req=true:=by
 simp only [shSl,Bool.and_eq_true,Bool.not_eq_true',bigS,Bool.or_eq_false_iff,Bool.and_eq_false_iff,decide_eq_false_iff_not,Bool.not_eq_false',decide_eq_true_eq] at h
 obtain ⟨⟨⟨⟨h1,_⟩,h2⟩,h3⟩,_⟩:=h
 exact ⟨by omega,by omega,h1⟩
theorem sh_ok {b:Bk} (h:shBk b=true):BkOk b∧b.slots.length≤65∧b.wait.length≤65:=by
 simp only [shBk,Bool.and_eq_true,Bool.not_eq_true',bigB,Bool.or_eq_false_iff,Bool.and_eq_false_iff,decide_eq_false_iff_not,Bool.not_eq_false',decide_eq_true_eq,List.all_eq_true] at h
 obtain ⟨⟨h1,h2⟩,h3,_⟩:=h
 exact ⟨⟨fun s hs=>by have:=sl_sh (h3 s hs);exact ⟨by omega,by omega⟩,by omega,by omega⟩,by omega,by omega⟩
theorem hol_eq {b:Bk} (h:zG b=0) (n:ByteArray):hldE b n=fndE b.slots n∧holR b n=rHol b n:=by
 have e:hldE b n=fndE b.slots n:=by rw [hldE,za3 h,fE_one];rfl
 exact ⟨e,by rw [holR,rHol,e]⟩
theorem opr_eq {b:Bk} (h:zG b=0) (n:ByteArray) (d:Int):oprC b n d=rOpE b n d∧oprR b n d=rOpR b n d:=by
 have e1:oprE b n d=zg [fndE b.slots n,rng d 0 99999]:=by rw [oprE,za3 h];rfl
 have e:oprC b n d=rOpE b n d:=by
  rw [oprC,rOpE,e1]
  by_cases h2:fndE b.slots n=0
  ·rw [za3 h2,fE_one,za3 h2]
   by_cases h3:rng d 0 99999=0
   ·have hat:¬atL n (b.slots.map (·.req.name)) < 0:=fun k=>by rw [fndE,if_pos k] at h2;omega
    obtain ⟨s,hs⟩:=slot_at hat
    have hso:zo b n=s:=by rw [zo,hs];rfl
    have hp:=(chkReq_0 (bk_req h (List.mem_of_getElem? hs))).1
    rw [za3 h3,fE_one,za3 h3,fE_one,hso,oprX,hasB_days hp,hasE]
    have hE:zg [zau s.req.per,rng d 0 99999]=0:=zq.2 ⟨hp,zq.2 ⟨h3,rfl⟩⟩
    by_cases hm:d ∈ zY s.req.per
    ·rw [if_pos hm,if_pos ⟨hE,decide_eq_true hm⟩]
    ·rw [if_neg hm,if_neg (fun k=>hm (of_decide_eq_true k.2))]
   ·rw [za2 h3,za2 h3]
  ·rw [za2 (show zg [fndE b.slots n,rng d 0 99999]≠0 by rw [za2 h2];exact h2),za2 h2,za2 h2]
 exact ⟨e,by rw [oprR,rOpR,e]⟩
theorem pure2003 (b:Bk) (s:Slt) (n:ByteArray) (d:Int):Pure Tryz.prog 3 [b.pv,s.pv,.agg [.s n,.i .i64 d]] (.b true):=by
 refine zf (cF Tryz.func3 Tryz.f3.eq_1) (by simp) fun hw X hX=>?_
 by_cases hb:shBk b=true
 ·by_cases hs:shSl s=true
  ·by_cases hn:(40:Int) < n.size
   ·have hn':=eq_true hn
    have qe:=aI qR (aI @hb (aI @hs (aI @hn' (aI @decide_true @Bool.not_true))));repeat' first|refine gC (fun hc=>?_) (fun hc=>?_)<;>try contradiction|refine za (pure1033 b) ?_|refine zN (fun _=>pure1098 s) ?_|refine za (pure1017) ?_|refine gG ?_|show AK _;intro K H|refine H _ _ ?_;clear H K|refine gJ ?_;try exact trivial|omega
    all_goals exact .refl _
   ·have hn':=eq_false hn
    obtain ⟨hok,hl1,hl2⟩:=sh_ok hb
    have hsl:=sl_sh hs
    have h1:Pure Tryz.prog 19 [.agg [.sl 16 [s.pv],.nilsl]] (⟨[s],[]⟩:Bk).pv:=
     pure_in (pure1019 ⟨[s],[]⟩ ⟨fun x hx=>by rw [List.mem_singleton.1 hx];exact ⟨by omega,by omega⟩,by simp,by simp⟩) ⟨.agg ⟨.refl _,.nilsl _,trivial⟩,trivial⟩
    have hM:=pure1043 b
    have hH:=pure1083 b n
    have hO:=pure1037 b n d
    by_cases hc:zG b=0
    ·obtain ⟨m1,m2,m3⟩:=bk_movs hc
     have hR:=pure1068 b.slots (fun s hs=>bk_req hc hs) (fun s hs=>by have:=(movs_ok4 (bk_req hc hs)).2;omega) (by omega)
     have hO2:=pure2025 b n d hok (fun s hs=>(chkReq_0 (bk_req hc hs)).1)
     have hC:=pure1023 b
     have hC2:=zX b
     rw [m1,hc] at hM
     rw [(hol_eq hc n).1,(hol_eq hc n).2] at hH
     rw [(opr_eq hc n d).1,(opr_eq hc n d).2] at hO
     rw [hc] at hC hC2
     have qe:=aI qR (aI @hb (aI @hs (aI @hn' (aI @decide_true (aI @decide_false (aI @zbb (aI @decS_self (aI @Bool.not_true (aI @Bool.and_self (aI @List.map_cons.{0,0} (@List.map_nil.{0,0})))))))))));repeat' first|refine gC (fun hc=>?_) (fun hc=>?_)<;>try contradiction|refine za (pure1033 b) ?_|refine zN (fun _=>pure1098 s) ?_|refine za (pure1019 b hok) ?_|refine zN (fun _=>pure1019 b hok) ?_|refine za (hM) ?_|refine za (hH) ?_|refine za (hO) ?_|refine za (hC) ?_|refine za (hR) ?_|refine za (pure2024 b n) ?_|refine za (hO2) ?_|refine zam (h1) ?_|refine za (pure1151 s) ?_|refine za (pure1092 s) ?_|refine zN (fun _=>hC2) ?_|refine zN (fun _=>pure26 (mvS b.slots)) ?_|refine zN (fun _=>pure1017) ?_|refine gG ?_|show AK _;intro K H|refine H _ _ ?_;clear H K|refine gJ ?_;try exact trivial|omega
     all_goals first|exact .refl _
    ·have hc':=eq_false hc
     have m1:mvE b=[]:=if_neg hc
     have m2:hldE b n=zG b:=za2 hc
     have m3:holR b n=s0:=by rw [holR,m2,if_neg hc]
     have m4:oprC b n d=zG b:=by rw [oprC,oprE,za2 hc,za2 hc]
     have m5:oprR b n d=s0:=by rw [oprR,m4,if_neg hc]
     have hC:=pure1023 b
     have hC2:=zX b
     rw [m1] at hM
     rw [m2,m3] at hH
     rw [m4,m5] at hO
     have h26:Pure Tryz.prog 29 [.sl 7 (([]:List Mov).map Mov.pv),.nilsl] (.b true):=pure_in (pure26 []) ⟨.refl _,.nilsl _,trivial⟩
     have qe:=aI qR (aI @hb (aI @hs (aI @hn' (aI @hc' (aI @decide_true (aI @decide_false (aI @zbb (aI @decS_self (aI @Bool.not_true (aI @Bool.not_false (aI @Bool.and_self (aI @List.map_cons.{0,0} (@List.map_nil.{0,0})))))))))))));repeat' first|refine gC (fun hc=>?_) (fun hc=>?_)<;>try contradiction|refine za (pure1033 b) ?_|refine zN (fun _=>pure1098 s) ?_|refine za (pure1019 b hok) ?_|refine zN (fun _=>pure1019 b hok) ?_|refine za (hM) ?_|refine za (hH) ?_|refine za (hO) ?_|refine za (hC) ?_|refine zam (h1) ?_|refine za (pure1151 s) ?_|refine za (pure1092 s) ?_|refine zN (fun _=>hC2) ?_|refine zN (fun _=>h26) ?_|refine zN (fun _=>pure1017) ?_|refine gG ?_|show AK _;intro K H|refine H _ _ ?_;clear H K|refine gJ ?_;try exact trivial|omega
     all_goals exact .refl _
  ·have hs':shSl s=false:=by simpa using hs
   have qe:=aI qR (aI @hb (aI @hs' (aI @Bool.not_true @Bool.not_false)));repeat' first|refine gC (fun hc=>?_) (fun hc=>?_)<;>try contradiction|refine za (pure1033 b) ?_|refine zN (fun _=>pure1098 s) ?_|refine za (pure1017) ?_|refine gG ?_|show AK _;intro K H|refine H _ _ ?_;clear H K|refine gJ ?_;try exact trivial|omega
   all_goals exact .refl _
 ·have hb':shBk b=false:=by simpa using hb
  have qe:=aI qR (aI @hb' @Bool.not_false);repeat' first|refine gC (fun hc=>?_) (fun hc=>?_)<;>try contradiction|refine za (pure1033 b) ?_|refine zN (fun _=>pure1098 s) ?_|refine za (pure1017) ?_|refine gG ?_|show AK _;intro K H|refine H _ _ ?_;clear H K|refine gJ ?_;try exact trivial|omega
  all_goals exact .refl _
end Go.Proofs.YtahmdjadnlpjoaaGreat
namespace Go.Proofs.YtahmdjadnlpjoaaGreat
open Go.RowKit Go.ChangeShapes Go.WideShapes Go.ChangeAt
set_option maxRecDepth 100000
set_option linter.unusedVariables false
set_option linter.unusedSimpArgs false
set_option maxHeartbeats 4000000
theorem list_of {α:Type} {f:α→PV}:∀ {xs:List PV},(∀ x ∈ xs,∃ a,x=f a)→∃ L:List α,xs=L.map f
 | [],_=>⟨[],rfl⟩
 | x::r,h=>by
  obtain ⟨a,rfl⟩:=h x (by simp)
  obtain ⟨L,rfl⟩:=list_of (xs:=r) fun y hy=>h y (by simp [hy])
  exact ⟨a::L,rfl⟩
def leaT:List CP:=[.s,jT,jT]
def sltT:List CP:=[.s,.s,.s,.s,.s,.s,jT,jT,jT,jT,jT,jT,jT,.s,.sl true leaT,.sl false [.s]]
def wshT:List CP:=[.s,.s,.s,.s,.s,.s,jT,jT,jT,jT,jT,jT,jT,jT]
theorem lea_of {n:Nat} {l:List PV} (h:FitAll (Fit n) leaT l):∃ L:Lea,.agg l=L.pv:=by
 cases n<;>(match l,h with
  | [_,_,_],⟨⟨a,ha⟩,⟨b,hb⟩,⟨c,hc⟩,_⟩=>subst ha hb hc;exact ⟨⟨a,b,c⟩,rfl⟩)
theorem leas_of {n:Nat} {p:PV} (h:Fit (n+1) (.sl true leaT) p):∃ L:List Lea,p=.sl 3 (L.map Lea.pv):=by
 obtain ⟨xs,rfl,hx⟩:=h
 obtain ⟨L,rfl⟩:=list_of (f:=Lea.pv) (xs:=xs) fun x h=>by
  obtain ⟨l,rfl,hf⟩:=hx x h
  exact lea_of hf
 exact ⟨L,rfl⟩
theorem strs_of {n:Nat} {p:PV} (h:Fit (n+1) (.sl false [.s]) p):∃ L:List ByteArray,p=.sl 1 (L.map .s):=by
 obtain ⟨xs,rfl,hx⟩:=h
 obtain ⟨L,rfl⟩:=list_of (f:=PV.s) (xs:=xs) fun x h=>by
  obtain ⟨l,rfl,hf⟩:=hx x h
  match l,hf with
  | [_],⟨h1,_⟩=>
   cases n<;>(obtain ⟨a,rfl⟩:=h1;exact ⟨a,rfl⟩)
 exact ⟨L,rfl⟩
theorem slt_of {n:Nat} {l:List PV} (h:FitAll (Fit (n+1)) sltT l):∃ s:Slt,.agg l=s.pv:=by
 match l,h with
 | [_,_,_,_,_,_,_,_,_,_,_,_,_,_,_,_],⟨⟨a,ha⟩,⟨b,hb⟩,⟨c,hc⟩,⟨d,hd⟩,⟨e,he⟩,⟨f,hf⟩,⟨g,hg⟩,⟨i,hi⟩,⟨j,hj⟩,⟨k,hk⟩,⟨m,hm⟩,⟨o,ho⟩,⟨q,hq⟩,⟨r,hr⟩,h1,h2,_⟩=>
  subst ha hb hc hd he hf hg hi hj hk hm ho hq hr
  obtain ⟨L,rfl⟩:=leas_of h1
  obtain ⟨S,rfl⟩:=strs_of h2
  exact ⟨⟨⟨a,b,c,d,e,f,⟨g,i,j⟩,k,m,o,q⟩,r,L,S⟩,rfl⟩
theorem wsh_of {n:Nat} {l:List PV} (h:FitAll (Fit n) wshT l):∃ w:Wsh,.agg l=w.pv:=by
 cases n<;>(match l,h with
  | [_,_,_,_,_,_,_,_,_,_,_,_,_,_],⟨⟨a,ha⟩,⟨b,hb⟩,⟨c,hc⟩,⟨d,hd⟩,⟨e,he⟩,⟨f,hf⟩,⟨g,hg⟩,⟨i,hi⟩,⟨j,hj⟩,⟨k,hk⟩,⟨m,hm⟩,⟨o,ho⟩,⟨q,hq⟩,⟨r,hr⟩,_⟩=>
   subst ha hb hc hd he hf hg hi hj hk hm ho hq hr
   exact ⟨⟨⟨a,b,c,d,e,f,⟨g,i,j⟩,k,m,o,q⟩,r⟩,rfl⟩)
theorem parB:parP Tryz.prog 6 25=some (true,[.sl true sltT,.sl true wshT]):=by kernel_rfl
theorem fit_bk {p:PV} (h:FitPar Tryz.prog 6 25 p):∃ b:Bk,p=b.pv:=by
 obtain ⟨⟨ag,c,l,hp,rfl,hl⟩,hb⟩:=h
 rw [parB] at hp
 simp only [Option.some.injEq,Prod.mk.injEq] at hp
 obtain ⟨rfl,rfl⟩:=hp
 match l,hl with
 | [_,_],⟨⟨xs,rfl,hx⟩,⟨ys,rfl,hy⟩,_⟩=>
  obtain ⟨L,rfl⟩:=list_of (f:=Slt.pv) (xs:=xs) fun x h=>by
   obtain ⟨l,rfl,hf⟩:=hx x h
   exact slt_of hf
  obtain ⟨W,rfl⟩:=list_of (f:=Wsh.pv) (xs:=ys) fun x h=>by
   obtain ⟨l,rfl,hf⟩:=hy x h
   exact wsh_of hf
  exact ⟨⟨L,W⟩,rfl⟩
theorem parS:parP Tryz.prog 6 33=some (true,sltT):=by kernel_rfl
theorem fit_slt {p:PV} (h:FitPar Tryz.prog 6 33 p):∃ s:Slt,p=s.pv:=by
 obtain ⟨⟨ag,c,l,hp,rfl,hl⟩,hb⟩:=h
 rw [parS] at hp
 simp only [Option.some.injEq,Prod.mk.injEq] at hp
 obtain ⟨rfl,rfl⟩:=hp
 exact slt_of hl
theorem parV:parP Tryz.prog 6 35=some (true,[.s,jT]):=by kernel_rfl
theorem fit_view {p:PV} (h:FitPar Tryz.prog 6 35 p):∃ (n:ByteArray) (d:Int),p=.agg [.s n,.i .i64 d]:=by
 obtain ⟨⟨ag,c,l,hp,rfl,hl⟩,hb⟩:=h
 rw [parV] at hp
 simp only [Option.some.injEq,Prod.mk.injEq] at hp
 obtain ⟨rfl,rfl⟩:=hp
 match l,hl with
 | [_,_],⟨⟨a,ha⟩,⟨b,hb⟩,_⟩=>subst ha hb;exact ⟨a,b,rfl⟩
theorem lifted2003 (os:Os) (started:os.Started) (H:Type) (enc:TypeId × Value→H):ReturnsInHanded {} Tryz.checked os 3 .any (Rows.tradeBooksSpec.pre6 enc Tryz.prog Tryz.f3 Rows.tradeBooksRow.domain false) (Rows.tradeBooksSpec.post enc Tryz.prog Tryz.f3 false true false false):=by
 refine returnsInHanded_of_change_shaped (C:=Tryz.checked) own started (by kernel_rfl) Tryz.func3
  (ChangeSpec.witness6 (enc:=enc) (C:=Tryz.checked) false ⟨#[],#[.agg #[.slice none 0 0,.slice none 0 0],.agg #[zs,zs,zs,zs,zs,zs,zi,zi,zi,zi,zi,zi,zi,zs,.slice none 0 0,.slice none 0 0],.agg #[zs,zi]],[]⟩ 8 (by kernel_rfl) (by kernel_rfl) (by kernel_rfl) (by kernel_rfl)) ?_
 intro W base args ds gs before hval hW _ hsz _ _
 refine law_contract (C:=Tryz.checked) (n:=6) (tb:=4) laid (by kernel_rfl) rfl (fun H ds hd=>?_) (by kernel_rfl) und4 (by kernel_rfl) (fun ps hps=>?_) W base args ds gs before hval hW hsz
 ·match ds,hd with
  | [_,_,_],_=>rfl
 ·match ps,hps with
  | [a0,a1,a2],⟨h0,h1,h2,_⟩=>
   obtain ⟨b,rfl⟩:=fit_bk h0
   obtain ⟨s,rfl⟩:=fit_slt h1
   obtain ⟨n,d,rfl⟩:=fit_view h2
   exact pure2003 b s n d
theorem e1_2003:(Rows.tradeBooksRow.inPlace == Tryz.prog.inPlace 3)=true:=by kernel_rfl
theorem e2_2003:(Rows.tradeBooksRow.unfollowed == Tryz.prog.unfollowed 3)=true:=by kernel_rfl
theorem e3_2003:(Rows.tradeBooksRow.recurses == Tryz.prog.recurses 3)=true:=by kernel_rfl
theorem e4_2003:(Rows.tradeBooksRow.named == Tryz.prog.varsNamed 3)=true:=by kernel_rfl
theorem e5_2003:Tryz.checked.prog.funcNamed Rows.tradeBooksRow.func=some 3:=by kernel_rfl
theorem e6_2003:joinedFacts Tryz.prog 3 Tryz.f3 Rows.tradeBooksSpec Rows.tradeBooksRow=true:=
 joined_of (by as_aux_lemma=>kernel_rfl) laid rowed (by as_aux_lemma=>kernel_rfl) e1_2003 e2_2003 e3_2003 e4_2003 (by as_aux_lemma=>kernel_rfl) (by as_aux_lemma=>kernel_rfl) (by as_aux_lemma=>kernel_rfl) (by as_aux_lemma=>kernel_rfl) (by as_aux_lemma=>kernel_rfl)
theorem e7_2003:Tryz.f3.isInstance Tryz.prog Rows.tradeBooksRow.origin Rows.tradeBooksRow.targs:=of_decide_eq_true (by kernel_rfl)
theorem e8_2003:Tryz.f3.isWrapper Tryz.prog Rows.tradeBooksRow.wrapper Rows.tradeBooksRow.mainSum:=by
 unfold Func.isWrapper;first|(rw [if_pos (by decide +kernel)];kernel_rfl)|(rw [if_neg (by decide +kernel)];exact ⟨rfl,rfl⟩)
theorem books_over:Rows.tradeBooksRow.holds Tryz.pinned (OpenSpec.ofChange Rows.tradeBooksSpec):=
 OpenClaim.holds_of_wide 3 Tryz.f3 rfl rfl rfl rfl rfl rfl rfl ⟨rfl,rfl,rfl,rfl,rfl⟩ rfl rfl rfl rfl rfl e5_2003 Tryz.func3 e6_2003 e7_2003 e8_2003
  (fun os started H enc _=>lifted2003 os started H enc)
theorem books_proved:Rows.TradeBooksSaid:=books_over
end Go.Proofs.YtahmdjadnlpjoaaGreat
