/- Contracts of functions that the proof uses, shared by the claims of this seat; no statement of its own. Part 48. No conditions. -/
import Derived.Test.YtahmdjadnlpjoaaGreatK16
import Derived.Test.YtahmdjadnlpjoaaGreatK17
import Derived.Test.YtahmdjadnlpjoaaGreatK24
set_option linter.all false
set_option maxHeartbeats 8000000
namespace Go.Proofs.YtahmdjadnlpjoaaGreat
open Go.RowKit
set_option maxRecDepth 100000
set_option linter.unusedVariables false
set_option linter.unusedSimpArgs false
set_option maxHeartbeats 4000000
def rqI (L:List Req) (but:Int) (i:Nat):List Req:=match L[i]? with|some r=>if (i:Int)=but then [] else [r]|none=>[]
def rqK (L:List Req) (but:Int) (k:Nat):List Req:=(List.range k).flatMap (rqI L but)
def rqW (L:List Req) (but:Int):List Req:=rqK L but L.length
abbrev tupR (r:Req):List PV:=[r.pv]
theorem iter1237 (L:List Slt) (W:List Wsh) (but:Int) (hn:L.length≤1000000):Iter Tryz.prog 228 [.ip (.agg [.sl 16 (L.map Slt.pv),.sl 14 (W.map Wsh.pv)]) 0,.ip (.i .i64 but) 0] ((rqW (L.map (·.req)) but).map tupR):=by
 refine iter_by (cF Tryz.func228 Tryz.f228.eq_1) (by simp) fun hw X hX=>?_
 simp only [zbp]
 repeat' first|refine gC (fun hc=>?_) (fun hc=>?_)<;>try contradiction|refine gG ?_|show AK _;intro K H|refine H _ _ ?_;clear H K|refine gJ ?_;try exact trivial|omega
 refine zk (κ:=Nat) (fun k=>⟨[(0,.yield),(1,.p (.ip (.agg [.sl 16 (L.map Slt.pv),.sl 14 (W.map Wsh.pv)]) 0)),(2,.p (.ip (.i .i64 but) 0)),(7,.p (.sl 16 (L.map Slt.pv))),(8,.p (.i .i64 L.length)),(9,.p (.i .i64 k))],[],(rqK (L.map (·.req)) but k).map tupR,false⟩) (fun k=>k≤L.length) (fun k=>L.length - k) 0 ?_ ?_ ?_
 ·refine gJ ?_;simp [rqK]
 ·simp
 ·intro k hk
  repeat first|refine gG ?_|show AK _;intro K H|refine H _ _ ?_;clear H K|refine gJ ?_;try exact trivial|omega
  (refine gC (fun hc=>?_) (fun hc=>?_)<;>try contradiction)
  ·obtain ⟨s,hx⟩:=zn (i:=k) (l:=L) (by omega)
   have hs:=zbm (rqI (L.map (·.req)) but) (show k < (L.map (·.req)).length by simp;omega)
   by_cases hb:(k:Int)=but
   ·have hi:rqI (L.map (·.req)) but k=[]:=by rw [rqI,List.getElem?_map,hx];exact if_pos hb
    have hb':((k:Int)=but)=True:=eq_true hb
    have qe:=aI qR (aI @hx (aI @hb' (aI @decide_true @Bool.not_true)));repeat' first|refine gC (fun hc=>?_) (fun hc=>?_)<;>try contradiction|(show zj _ _ _ _ (⟨_,.callv,_,_,_⟩::_) _ _;refine zbi (q:=(.b false)) (by first|rfl|(simp (disch:=omega) only [qG,qe,Nat.reduceAdd,Nat.reduceMul,Nat.reduceEqDiff,Nat.reduceLeDiff,reduceIte,reduceCtorEq,Nat.reduceBEq,Nat.reduceLT]<;>rfl)) ?_;(try (refine zE ?_)))|refine gG ?_|show AK _;intro K H|refine H _ _ ?_;clear H K|refine gJ ?_;try exact trivial|omega
    exact ⟨k+1,by omega,by omega,by simp,by rw [rqK,zab,hi,List.append_nil,←rqK]⟩
   ·have hi:rqI (L.map (·.req)) but k=[s.req]:=by rw [rqI,List.getElem?_map,hx];exact if_neg hb
    have hb':((k:Int)=but)=False:=eq_false hb
    have hs':(rqW (L.map (·.req)) but).map tupR=(rqK (L.map (·.req)) but k).map tupR++tupR s.req::((List.range' (k+1) ((L.map (·.req)).length - (k+1))).flatMap (rqI (L.map (·.req)) but)).map tupR:=by
     rw [rqW,rqK,hs,hi];simp [rqK]
    have qe:=aI qR (aI @hx (aI @hb' (aI @decide_false @Bool.not_false)));repeat' first|refine gC (fun hc=>?_) (fun hc=>?_)<;>try contradiction|(show zj _ _ _ _ (⟨_,.callv,_,_,_⟩::_) _ _;refine run_yld (by first|rfl|(simp (disch:=omega) only [qG,qe,Nat.reduceAdd,Nat.reduceMul,Nat.reduceEqDiff,Nat.reduceLeDiff,reduceIte,reduceCtorEq,Nat.reduceBEq,Nat.reduceLT]<;>rfl)) (by simp (disch:=omega) only [qS,qe,Nat.reduceAdd,Nat.reduceMul,Nat.reduceEqDiff,Nat.reduceLeDiff,reduceIte,reduceCtorEq,Nat.reduceBEq,Nat.reduceLT]) (by simp (disch:=omega) only [qS,qe,Nat.reduceAdd,Nat.reduceMul,Nat.reduceEqDiff,Nat.reduceLeDiff,reduceIte,reduceCtorEq,Nat.reduceBEq,Nat.reduceLT]<;>rfl) (by simp (disch:=omega) only [qS,qe,Nat.reduceAdd,Nat.reduceMul,Nat.reduceEqDiff,Nat.reduceLeDiff,reduceIte,reduceCtorEq,Nat.reduceBEq,Nat.reduceLT];try trivial) rfl _ (hs') ?_;intro b;(refine zE ?_))|refine gG ?_|show AK _;intro K H|refine H _ _ ?_;clear H K|refine gJ ?_;try exact trivial|omega
    ·subst hc;exact .inl rfl
    ·subst hc;exact ⟨k+1,by omega,by omega,by simp,by rw [rqK,zab,hi,←rqK];simp,rfl⟩
  ·repeat' first|refine gC (fun hc=>?_) (fun hc=>?_)<;>try contradiction|refine gG ?_|show AK _;intro K H|refine H _ _ ?_;clear H K|refine gJ ?_;try exact trivial|omega
   have e:k=L.length:=by omega
   subst e;exact .inr (by rw [rqW];simp)
theorem pure1161 (L:List Slt) (W:List Wsh) (but:Int):Pure Tryz.prog 159 [.agg [.sl 16 (L.map Slt.pv),.sl 14 (W.map Wsh.pv)],.i .i64 but] (.fn (.func 228) [] [.ip (.agg [.sl 16 (L.map Slt.pv),.sl 14 (W.map Wsh.pv)]) 0,.ip (.i .i64 but) 0]):=by
 refine zf (cF Tryz.func159 Tryz.f159.eq_1) (by simp) fun hw X hX=>?_
 repeat' first|refine gC (fun hc=>?_) (fun hc=>?_)<;>try contradiction|refine gG ?_|show AK _;intro K H|refine H _ _ ?_;clear H K|refine gJ ?_;try exact trivial|omega
 exact .refl _
def mvF (l:List Req):List Mov:=l.foldl (fun out r=>mgR out (movR r)) []
theorem mvF_next {l:List Req} {k:Nat} {r:Req} (h:l[k]?=some r):mvF (l.take (k+1))=mgR (mvF (l.take k)) (movR r):=by
 rw [zan h,mvF,List.foldl_append];rfl
theorem pure1089 (L:List Slt) (W:List Wsh) (but:Int) (hn:L.length≤1000000):Pure Tryz.prog 88 [.agg [.sl 16 (L.map Slt.pv),.sl 14 (W.map Wsh.pv)],.i .i64 but] (.sl 7 ((mvF (rqW (L.map (·.req)) but)).map Mov.pv)):=by
 refine zf (cF Tryz.func88 Tryz.f88.eq_1) (by simp) fun hw X hX=>?_
 repeat' first|refine gC (fun hc=>?_) (fun hc=>?_)<;>try contradiction|refine za (pure1161 L W but) ?_|refine gG ?_|show AK _;intro K H|refine H _ _ ?_;clear H K|refine gJ ?_;try exact trivial|omega
 refine run_nilbox 5 [.p .nilsl] [.p (.sl 7 ([]:List PV))] (sR) ⟨.inr ⟨7,rfl,rfl⟩,trivial⟩ ?_
 refine run_rfunc rfl (iter1237 L W but hn) ?_ ?_ [(2,.lp 2 0),(5,.lp 5 0)] (fun k=>[(2,.box [.p (.sl 16 (L.map Slt.pv)),.p (.sl 14 (W.map Wsh.pv))] false),(5,.box [.p (.sl 7 ((mvF ((rqW (L.map (·.req)) but).take k)).map Mov.pv))] false)]) (fun _=>[]) ?_ ?_ ?_
 ·simp
 ·simp [hX]
 ·simp only [St.wr,oset.eq_1,oset.eq_2,qS,Nat.reduceAdd,Nat.reduceMul,Nat.reduceEqDiff,Nat.reduceLeDiff,reduceIte,reduceCtorEq,Nat.reduceBEq,Nat.reduceLT]<;>rfl
 ·intro k t ht X' ro' hX'
  simp only [List.getElem?_map,Option.map_eq_some_iff] at ht
  obtain ⟨r,hr,rfl⟩:=ht
  have hnx:=mvF_next hr
  simp only [qS,Nat.reduceAdd,Nat.reduceMul,Nat.reduceEqDiff,Nat.reduceLeDiff,reduceIte,reduceCtorEq,Nat.reduceBEq,Nat.reduceLT]
  repeat' first|refine gC (fun hc=>?_) (fun hc=>?_)<;>try contradiction|refine gG ?_|show AK _;intro K H|refine H _ _ ?_;clear H K|refine gJ ?_;try exact trivial|omega
  intro X1 hX1
  have qe:=@qR;repeat' first|refine gC (fun hc=>?_) (fun hc=>?_)<;>try contradiction|refine za (pure19 r) ?_|refine za (pure66g (mvF ((rqW (L.map (·.req)) but).take k)) (movR r)) ?_|refine gG ?_|show AK _;intro K H|refine H _ _ ?_;clear H K|refine gJ ?_;try exact trivial|omega
  rw [hnx]
 ·simp only [List.length_map]
  have qe:=@List.take_length.{0};repeat' first|refine gC (fun hc=>?_) (fun hc=>?_)<;>try contradiction|refine gG ?_|show AK _;intro K H|refine H _ _ ?_;clear H K|refine gJ ?_;try exact trivial|omega
  exact .refl _
theorem pure1159 (l:List Lim) (m:List Mov) (r:Req):Pure Tryz.prog 185 [.sl 11 (l.map Lim.pv),.sl 7 (m.map Mov.pv),r.pv] (.b (fitR l m r)):=by
 refine zf (cF Tryz.func185 Tryz.f185.eq_1) (by simp) fun hw X hX=>?_
 repeat' first|refine gC (fun hc=>?_) (fun hc=>?_)<;>try contradiction|refine za (pure51 l m r) ?_|refine gG ?_|show AK _;intro K H|refine H _ _ ?_;clear H K|refine gJ ?_;try exact trivial|omega
 have e:(decide (fitC l m r=0) && fitR l m r)=fitR l m r:=by
  rw [fitR,←Bool.and_assoc,Bool.and_self]
 rw [e];exact .refl _
def mvE (b:Bk):List Mov:=if zG b=0 then mvF (rqW (b.slots.map (·.req)) (-1)) else []
theorem chkBk_len {b:Bk} (h:zG b=0):b.slots.length≤64∧b.wait.length≤64:=by
 have h1:=fE0 h _ (List.mem_cons_self)
 have h2:=fE0 h (if 64 < (b.wait.length:Int) then 5 else 0) (by simp)
 constructor
 ·by_cases hh:64 < (b.slots.length:Int)
  ·rw [if_pos hh] at h1;omega
  ·omega
 ·by_cases hh:64 < (b.wait.length:Int)
  ·rw [if_pos hh] at h2;omega
  ·omega
theorem pure1043 (b:Bk):Pure Tryz.prog 18 [b.pv] (.tup [.sl 7 ((mvE b).map Mov.pv),.i .i64 (zG b)]):=by
 refine zf (cF Tryz.func18 Tryz.f18.eq_1) (by simp) fun hw X hX=>?_
 repeat' first|refine gC (fun hc=>?_) (fun hc=>?_)<;>try contradiction|refine za (zX b) ?_|refine gG ?_|show AK _;intro K H|refine H _ _ ?_;clear H K|refine gJ ?_;try exact trivial|omega
 ·rw [mvE,if_neg hc];exact weak2 (.nilsl _) (.refl _)
 ·have hl:=chkBk_len hc
  repeat' first|refine gC (fun hc=>?_) (fun hc=>?_)<;>try contradiction|refine za (pure1089 b.slots b.wait (-1) (by omega)) ?_|refine gG ?_|show AK _;intro K H|refine H _ _ ?_;clear H K|refine gJ ?_;try exact trivial|omega
  rw [mvE,if_pos hc,hc];exact .refl _
theorem slot_names (l:List Slt):(l.map Slt.raw).map (·.req.name)=l.map (·.req.name):=by rw [List.map_map];rfl
def hldE (b:Bk) (n:ByteArray):Int:=zg [zG b,if atL n (b.slots.map (·.req.name)) < 0 then 10 else 0]
theorem za9 (b:Bk) (n:ByteArray):Pure Tryz.prog 91 [.agg [.sl 16 (b.slots.map Slt.pv),.sl 14 (b.wait.map Wsh.pv)],.s n] (.i .i64 (atL n (b.slots.map (·.req.name)))):=by
 have h:=pure1103 (b.slots.map Slt.raw) b.wait n
 rw [←slt_raw,slot_names] at h;exact h
theorem zZ (b:Bk) (n:ByteArray):Pure Tryz.prog 90 [.agg [.sl 16 (b.slots.map Slt.pv),.sl 14 (b.wait.map Wsh.pv)],.s n] (.i .i64 (if atL n (b.slots.map (·.req.name)) < 0 then 10 else 0)):=by
 have h:=pure1101 (b.slots.map Slt.raw) b.wait n
 rw [←slt_raw,slot_names] at h;exact h
theorem pure1105 (s:Slt) (d:Int):Pure Tryz.prog 94 [s.pv,.i .i64 d] (.i .i64 (idxF (fun l=>decide (l.fro≤d) && decide (d≤l.to)) s.ls)):=by
 refine zf (cF Tryz.func94 Tryz.f94.eq_1) (by simp) fun hw X hX=>?_
 simp only [wfs,PV.wf,List.length_map,maxLen] at hw
 repeat' first|refine gC (fun hc=>?_) (fun hc=>?_)<;>try contradiction|refine gG ?_|show AK _;intro K H|refine H _ _ ?_;clear H K|refine gJ ?_;try exact trivial|omega
 refine zk (κ:=Nat) (fun i=>⟨[(1,.p (.i .i64 d)),(2,.lp 2 0),(5,.p (.i .i64 (-1))),(9,.p (.sl 3 (s.ls.map Lea.pv))),(10,.p (.i .i64 s.ls.length)),(11,.p (.i .i64 i))],[(2,.box (s.cells.map .p) false)],[],false⟩) (fun i=>i≤s.ls.length∧∀ y ∈ s.ls.take i,(decide (y.fro≤d) && decide (d≤y.to))=false) (fun i=>s.ls.length - i) 0 ?_ ?_ ?_
 ·exact sR
 ·simp
 ·intro i hi
  repeat first|refine gG ?_|show AK _;intro K H|refine H _ _ ?_;clear H K|refine gJ ?_;try exact trivial|omega
  (refine gC (fun hc=>?_) (fun hc=>?_)<;>try contradiction)
  ·obtain ⟨y,hy⟩:=zn (i:=i) (l:=s.ls) (by omega)
   have qe:=aI qR @hy;repeat' first|refine gC (fun hc=>?_) (fun hc=>?_)<;>try contradiction|refine za (pure1190 y d) ?_|refine gG ?_|show AK _;intro K H|refine H _ _ ?_;clear H K|refine gJ ?_;try exact trivial|omega
   ·rw [idxF_hit hi.2 hy (by simpa using hc)];exact .refl _
   ·exact ⟨i+1,⟨by omega,take_no hi.2 hy (by simpa using hc)⟩,by omega,by simp⟩
  ·repeat' first|refine gC (fun hc=>?_) (fun hc=>?_)<;>try contradiction|refine gG ?_|show AK _;intro K H|refine H _ _ ?_;clear H K|refine gJ ?_;try exact trivial|omega
   rw [idxF_end (fun y hy=>hi.2 y (by rw [List.take_of_length_le (by omega)];exact hy))];exact .refl _
theorem atL_lt (n:ByteArray):∀ l,atL n l < l.length
 | []=>by simp [atL]
 | x::r=>by have:=atL_lt n r;simp only [atL,List.length_cons];(repeat' split)<;>omega
theorem slot_at {b:Bk} {n:ByteArray} (h:¬atL n (b.slots.map (·.req.name)) < 0):∃ s,b.slots[(atL n (b.slots.map (·.req.name))).toNat]?=some s:=by
 have:=atL_lt n (b.slots.map (·.req.name))
 rw [List.length_map] at this
 exact ⟨_,List.getElem?_eq_getElem (by omega)⟩
def zo (b:Bk) (n:ByteArray):Slt:=(b.slots[(atL n (b.slots.map (·.req.name))).toNat]?).getD ⟨⟨s0,s0,s0,s0,s0,s0,⟨0,0,0⟩,0,0,0,0⟩,s0,[],[]⟩
def holR (b:Bk) (n:ByteArray):ByteArray:=if hldE b n=0 then (zo b n).holder else s0
theorem pure1083 (b:Bk) (n:ByteArray):Pure Tryz.prog 20 [b.pv,.s n] (.tup [.s (holR b n),.i .i64 (hldE b n)]):=by
 refine zf (cF Tryz.func20 Tryz.f20.eq_1) (by simp) fun hw X hX=>?_
 simp only [wfs,PV.wf,List.length_map,maxLen] at hw
 have qe:=@qR;repeat' first|refine gC (fun hc=>?_) (fun hc=>?_)<;>try contradiction|refine za (zX b) ?_|refine za (zZ b n) ?_|refine za (zz [_,_]) ?_|refine gG ?_|show AK _;intro K H|refine H _ _ ?_;clear H K|refine gJ ?_;try exact trivial|omega
 ·have h:¬hldE b n=0:=hc
  rw [holR,if_neg h];exact .refl _
 ·have h:hldE b n=0:=hc
  have hu:=fE0 hc (if atL n (b.slots.map (·.req.name)) < 0 then 10 else 0) (by simp)
  have hu':¬atL n (b.slots.map (·.req.name)) < 0:=fun e=>by rw [if_pos e] at hu;omega
  obtain ⟨s,hs⟩:=slot_at hu'
  have hlt:=atL_lt n (b.slots.map (·.req.name))
  rw [List.length_map] at hlt
  have qe:=aI qR @hs;repeat' first|refine gC (fun hc=>?_) (fun hc=>?_)<;>try contradiction|refine za (za9 b n) ?_|refine gG ?_|show AK _;intro K H|refine H _ _ ?_;clear H K|refine gJ ?_;try exact trivial|omega
  rw [holR,if_pos h,h,zo,hs];exact .refl _
def leaI (s:Slt) (d:Int):Int:=idxF (fun l=>decide (l.fro≤d) && decide (d≤l.to)) s.ls
theorem idxF_lt {α:Type} (p:α→Bool):∀ l,idxF p l < l.length
 | []=>by simp [idxF]
 | x::r=>by have:=idxF_lt p r;simp only [idxF,List.length_cons];(repeat' split)<;>omega
def oprE (b:Bk) (n:ByteArray) (d:Int):Int:=zg [zG b,if atL n (b.slots.map (·.req.name)) < 0 then 10 else 0,rng d 0 99999]
def oprX (s:Slt) (d:Int):Int:=if hasE s.req.per d=0∧hasB s.req.per d=true then 0 else 30
def oprY (s:Slt) (d:Int):ByteArray:=if leaI s d < 0 then s.holder else ((s.ls[(leaI s d).toNat]?).map Lea.carrier).getD s0
def oprC (b:Bk) (n:ByteArray) (d:Int):Int:=zg [oprE b n d,oprX (zo b n) d]
def oprR (b:Bk) (n:ByteArray) (d:Int):ByteArray:=if oprC b n d=0 then oprY (zo b n) d else s0
theorem pure1037 (b:Bk) (n:ByteArray) (d:Int):Pure Tryz.prog 21 [b.pv,.s n,.i .i64 d] (.tup [.s (oprR b n d),.i .i64 (oprC b n d)]):=by
 refine zf (cF Tryz.func21 Tryz.f21.eq_1) (by simp) fun hw X hX=>?_
 simp only [wfs,PV.wf,List.length_map,maxLen] at hw
 have qe:=@qR;repeat' first|refine gC (fun hc=>?_) (fun hc=>?_)<;>try contradiction|refine za (zX b) ?_|refine za (zZ b n) ?_|refine za (pure1102 d) ?_|refine za (zz [_,_,_]) ?_|refine gG ?_|show AK _;intro K H|refine H _ _ ?_;clear H K|refine gJ ?_;try exact trivial|omega
 ·have h:¬oprE b n d=0:=hc
  have h':oprC b n d=oprE b n d:=by rw [oprC,za2 h]
  have e1:oprR b n d=s0:=by rw [oprR,if_neg (fun e=>h (h'.symm.trans e))]
  rw [e1,h'];exact .refl _
 ·have h:oprE b n d=0:=hc
  have hu:=fE0 hc (if atL n (b.slots.map (·.req.name)) < 0 then 10 else 0) (by simp)
  have hu':¬atL n (b.slots.map (·.req.name)) < 0:=fun e=>by rw [if_pos e] at hu;omega
  obtain ⟨s,hs⟩:=slot_at hu'
  have hlt:=atL_lt n (b.slots.map (·.req.name))
  rw [List.length_map] at hlt
  have hso:zo b n=s:=by rw [zo,hs];rfl
  have hC:oprC b n d=oprX s d:=by rw [oprC,za3 h,fE_one,hso]
  have hlL:idxF (fun l=>decide (l.fro≤d) && decide (d≤l.to)) s.ls < s.ls.length:=idxF_lt _ _
  by_cases hle:leaI s d < 0
  ·have hle':idxF (fun l=>decide (l.fro≤d) && decide (d≤l.to)) s.ls < 0:=hle
   have qe:=aI qR @hs;repeat' first|refine gC (fun hc=>?_) (fun hc=>?_)<;>try contradiction|refine za (za9 b n) ?_|refine za (pure132 s.req.per d) ?_|refine za (pure1105 s d) ?_|refine gG ?_|show AK _;intro K H|refine H _ _ ?_;clear H K|refine gJ ?_;try exact trivial|omega
   ·have hx:oprX s d=30:=by rw [oprX,if_neg (fun e=>hc.elim (fun f=>f e.1) (fun f=>by rw [e.2] at f;cases f))]
    have e1:oprR b n d=s0:=by rw [oprR,hC,hx];rfl
    rw [e1,hC,hx];exact .refl _
   ·have hx:oprX s d=0:=by rw [oprX,if_pos (by assumption)]
    have e1:oprR b n d=s.holder:=by rw [oprR,hC,hx,if_pos rfl,hso,oprY,if_pos hle]
    rw [e1,hC,hx];exact .refl _
  ·obtain ⟨y,hy⟩:∃ y,s.ls[(idxF (fun l=>decide (l.fro≤d) && decide (d≤l.to)) s.ls).toNat]?=some y:=⟨_,List.getElem?_eq_getElem (by have:¬idxF (fun l=>decide (l.fro≤d) && decide (d≤l.to)) s.ls < 0:=hle;omega)⟩
   have hle':¬idxF (fun l=>decide (l.fro≤d) && decide (d≤l.to)) s.ls < 0:=hle
   have qe:=aI qR (aI @hs @hy);repeat' first|refine gC (fun hc=>?_) (fun hc=>?_)<;>try contradiction|refine za (za9 b n) ?_|refine za (pure132 s.req.per d) ?_|refine za (pure1105 s d) ?_|refine gG ?_|show AK _;intro K H|refine H _ _ ?_;clear H K|refine gJ ?_;try exact trivial|omega
   ·have hx:oprX s d=30:=by rw [oprX,if_neg (fun e=>hc.elim (fun f=>f e.1) (fun f=>by rw [e.2] at f;cases f))]
    have e1:oprR b n d=s0:=by rw [oprR,hC,hx];rfl
    rw [e1,hC,hx];exact .refl _
   ·have hx:oprX s d=0:=by rw [oprX,if_pos (by assumption)]
    have e1:oprR b n d=y.carrier:=by rw [oprR,hC,hx,if_pos rfl,hso,oprY,if_neg hle,show leaI s d=idxF (fun l=>decide (l.fro≤d) && decide (d≤l.to)) s.ls from rfl,hy];rfl
    rw [e1,hC,hx];exact .refl _
end Go.Proofs.YtahmdjadnlpjoaaGreat
