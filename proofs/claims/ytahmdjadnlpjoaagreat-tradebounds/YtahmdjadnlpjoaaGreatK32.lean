/- Contracts of functions that the proof uses, shared by the claims of this seat; no statement of its own. Part 60. No conditions. -/
import Derived.Test.YtahmdjadnlpjoaaGreatK29
set_option linter.all false
set_option maxHeartbeats 8000000
namespace Go.Proofs.YtahmdjadnlpjoaaGreat
open Go.RowKit
set_option maxRecDepth 100000
set_option linter.unusedVariables false
set_option linter.unusedSimpArgs false
set_option maxHeartbeats 8000000
theorem rep_ip2 {w:World} {B B':Nat→Prop} {v:Value} {p1 p2 q1 q2:PV} (hB:∀ b,B b→B' b) (h1:∀ v,Rep w B v p1→Rep w B' v q1) (h2:∀ v,Rep w B v p2→Rep w B' v q2) (h:Rep w B v (.ip (.agg [p1,p2]) 0)):Rep w B' v (.ip (.agg [q1,q2]) 0):=by
 cases h with
 | ip u hb hs hc hu=>
  refine .ip u (hB _ hb) hs (fun j p hp=>?_) (fun j p hp=>?_)
  ·match j,hp with
   | 0,_=>exact hc 0 p1 rfl
   | 1,_=>exact hc 1 p2 rfl
   | j+2,hp=>simp [PV.cells] at hp
  ·match j,hp with
   | 0,hp=>
    simp [PV.cells] at hp;subst hp
    exact h1 _ (hu 0 p1 rfl)
   | 1,hp=>
    simp [PV.cells] at hp;subst hp
    exact h2 _ (hu 1 p2 rfl)
   | j+2,hp=>simp [PV.cells] at hp
theorem pure1161X (p q:PV) (but:Int):Pure Tryz.prog 159 [.agg [p,q],.i .i64 but] (.fn (.func 228) [] [.ip (.agg [p,q]) 0,.ip (.i .i64 but) 0]):=by
 refine zf (cF Tryz.func159 Tryz.f159.eq_1) (by simp) fun hw X hX=>?_
 repeat' first|refine gC (fun hc=>?_) (fun hc=>?_)<;>try contradiction|refine gG ?_|show AK _;intro K H|refine H _ _ ?_;clear H K|refine gJ ?_;try exact trivial|omega
 exact .refl _
theorem pureX1089 (L:List Slt) (a0:Option Addr) (c0:Nat) (hn:L.length≤1000000):PureX Tryz.prog 88 (fun w Bx=>Rep w Bx (.slice a0 (L.map Slt.pv).length c0) (.sl 16 (L.map Slt.pv))) [.agg [.rs a0 (L.map Slt.pv).length c0,.nilsl],.i .i64 (-1)] (.sl 7 ((mvF (rqW (L.map (·.req)) (-1))).map Mov.pv)):=by
 refine pureX_of (cF Tryz.func88 Tryz.f88.eq_1) (by simp) fun w B Bx hBx hE=>?_
 generalize (L.map Slt.pv).length=n0 at hE ⊢
 repeat' first|refine gC (fun hc=>?_) (fun hc=>?_)<;>try contradiction|refine za (pure1161X (.rs a0 n0 c0) .nilsl (-1)) ?_|refine gG ?_|show AK _;intro K H|refine H _ _ ?_;clear H K|refine gJ ?_;try exact trivial|omega
 refine run_nilbox 5 [.p .nilsl] [.p (.sl 7 ([]:List PV))] (sR) ⟨.inr ⟨7,rfl,rfl⟩,trivial⟩ ?_
 refine run_rfuncX (Bx:=Bx) (fun b hb=>⟨hBx b hb,id,id⟩) (caps0:=[.ip (.agg [.rs a0 n0 c0,.nilsl]) 0,.ip (.i .i64 (-1)) 0]) (caps:=[.ip (.agg [.sl 16 (L.map Slt.pv),.sl 14 (([]:List Wsh).map Wsh.pv)]) 0,.ip (.i .i64 (-1)) 0]) ?_ rfl (iter1237 L [] (-1) hn) ?_ ?_ ?_ [(2,.lp 2 0),(5,.lp 5 0)] (fun k=>[(2,.box [.p (.rs a0 n0 c0),.p .nilsl] false),(5,.box [.p (.sl 7 ((mvF ((rqW (L.map (·.req)) (-1)).take k)).map Mov.pv))] false)]) (fun _=>[]) (fun _=>True) ?_ trivial ?_ ?_
 ·intro W B1 cs hW hr
  have hE':Rep W (fun b=>B1 b∨Bx b) (.slice a0 n0 c0) (.sl 16 (L.map Slt.pv)):=hE.mono (fun b hb=>.inr hb) hW
  obtain ⟨hl,hc⟩:=hr
  refine ⟨hl,fun j v p hv hp=>?_⟩
  match j,hp with
  | 0,hp=>
   simp at hp;subst hp
   refine rep_ip2 (fun b hb=>.inl hb) (fun v hv=>?_) (fun v hv=>?_) (hc 0 v _ hv rfl)
   ·cases hv;exact hE'
   ·cases hv;exact .sl0
  | 1,hp=>
   simp at hp;subst hp
   exact (hc 1 v _ hv rfl).mono (fun b hb=>.inl hb) fun _ _=>rfl
  | j+2,hp=>simp at hp
 ·intro t ht
  obtain ⟨r,_,rfl⟩:=List.mem_map.1 ht
  rfl
 ·simp
 ·simp [plainFx]
 ·simp only [St.wr,oset.eq_1,oset.eq_2,qS,Nat.reduceAdd,Nat.reduceMul,Nat.reduceEqDiff,Nat.reduceLeDiff,reduceIte,reduceCtorEq,Nat.reduceBEq,Nat.reduceLT]<;>rfl
 ·intro k t ht _ X' ro' hX'
  simp only [List.getElem?_map,Option.map_eq_some_iff] at ht
  obtain ⟨r,hr,rfl⟩:=ht
  have hnx:=mvF_next hr
  simp only [qS,Nat.reduceAdd,Nat.reduceMul,Nat.reduceEqDiff,Nat.reduceLeDiff,reduceIte,reduceCtorEq,Nat.reduceBEq,Nat.reduceLT]
  repeat' first|refine gC (fun hc=>?_) (fun hc=>?_)<;>try contradiction|refine gG ?_|show AK _;intro K H|refine H _ _ ?_;clear H K|refine gJ ?_;try exact trivial|omega
  intro X1 hX1
  have qe:=@qR;repeat' first|refine gC (fun hc=>?_) (fun hc=>?_)<;>try contradiction|refine za (pure19 r) ?_|refine za (pure66g (mvF ((rqW (L.map (·.req)) (-1)).take k)) (movR r)) ?_|refine gG ?_|show AK _;intro K H|refine H _ _ ?_;clear H K|refine gJ ?_;try exact trivial|omega
  rw [hnx]
 ·intro _
  simp only [List.length_map]
  have qe:=@List.take_length.{0};repeat' first|refine gC (fun hc=>?_) (fun hc=>?_)<;>try contradiction|refine gG ?_|show AK _;intro K H|refine H _ _ ?_;clear H K|refine gJ ?_;try exact trivial|omega
  exact .refl _
structure Srv where
 Q:List Req
 K:List Wsh
 M:List Mov
def srvNo (l:List Lim) (n:Nat) (t:Srv) (w:Wsh):Prop:=64≤((n+t.Q.length:Nat):Int)∨fitR l t.M w.req=false
instance (l:List Lim) (n:Nat) (t:Srv) (w:Wsh):Decidable (srvNo l n t w):=by unfold srvNo;infer_instance
def srvN (l:List Lim) (n:Nat) (t:Srv) (w:Wsh):Srv:=if srvNo l n t w then ⟨t.Q,t.K++[w],t.M⟩ else ⟨t.Q++[w.req],t.K,mgR t.M (movR w.req)⟩
def srv0 (b:Bk):Srv:=⟨[],[],mvF (rqW (b.slots.map (·.req)) (-1))⟩
def srvK (l:List Lim) (b:Bk) (k:Nat):Srv:=(b.wait.take k).foldl (srvN l b.slots.length) (srv0 b)
theorem srvK_next {l:List Lim} {b:Bk} {k:Nat} {w:Wsh} (h:b.wait[k]?=some w):srvK l b (k+1)=srvN l b.slots.length (srvK l b k) w:=by
 rw [srvK,zan h,List.foldl_append];rfl
theorem srvK_len {l:List Lim} {b:Bk}:∀ {k:Nat},k≤b.wait.length→(srvK l b k).Q.length+(srvK l b k).K.length=k
 | 0,_=>rfl
 | k+1,h=>by
  obtain ⟨w,hw⟩:=zn (i:=k) (l:=b.wait) (by omega)
  have ih:=srvK_len (l:=l) (b:=b) (k:=k) (by omega)
  rw [srvK_next hw,srvN]
  split<;>simp<;>omega
def srvB (l:List Lim) (b:Bk):Bk:=⟨b.slots++(srvK l b b.wait.length).Q.map newS,(srvK l b b.wait.length).K⟩
def srvW (l:List Lim) (b:Bk):List ByteArray:=(srvK l b b.wait.length).Q.map (·.name)
theorem pure1088 (l:List Lim) (b:Bk) (hb:BkOk b):Pure Tryz.prog 115 [b.pv,.sl 11 (l.map Lim.pv)] (.tup [(srvB l b).pv,.sl 1 ((srvW l b).map .s)]):=by
 obtain ⟨hs,hn1,hwl⟩:=hb
 refine zat (r:=.tup [.agg [.sl 16 (b.slots.map Slt.pv++(srvK l b b.wait.length).Q.map rawS),.sl 14 ((srvK l b b.wait.length).K.map Wsh.pv)],.sl 1 ((srvW l b).map .s)]) ?_ ?_
 ·refine zf (cF Tryz.func115 Tryz.f115.eq_1) (by simp) fun hw X hX=>?_
  have qe:=aI qR (aI @qN (aI @zaA (aI @zaz @zaf)));repeat' first|refine gC (fun hc=>?_) (fun hc=>?_)<;>try contradiction|refine zm [(100,200),(7,201)] (zbD b.slots b.wait hs (by omega) (by omega)) ?_|refine gG ?_|show AK _;intro K H|refine H _ _ ?_;clear H K|refine gJ ?_;try exact trivial|omega
  refine run_step (stepOk_callX (k:=200) (e:=59) (sz:=16) (xs:=b.slots.map Slt.pv) (fz:=false) (ps:=fun a0 c0=>[.agg [.rs a0 (b.slots.map Slt.pv).length c0,.nilsl],.i .i64 (-1)]) rfl rfl (fun a0 c0=>pureX1089 b.slots a0 c0 (by omega)) fun a0 c0=>⟨.inr ⟨_,_,rfl,rfl,.inr ⟨by show LV.row 200 _=LV.row 200 _;simp,rfl⟩,.inl rfl,trivial⟩,.inl (.inl rfl),trivial⟩) ?_
  rintro _ rfl
  refine zE ?_
  have qe:=aI qR @qN;repeat' first|refine gC (fun hc=>?_) (fun hc=>?_)<;>try contradiction|refine gG ?_|show AK _;intro K H|refine H _ _ ?_;clear H K|refine gJ ?_;try exact trivial|omega
  refine zaO 300 71 14 [(1,.p (.sl 11 (l.map Lim.pv))),(4,.lp 4 0),(6,.lp 6 0),(7,.p .nilsl),(8,.p (.sl 7 ((mvF (rqW (b.slots.map (·.req)) (-1))).map Mov.pv))),(19,.p (.sl 14 (b.wait.map Wsh.pv))),(20,.p (.i .i64 b.wait.length)),(21,.p (.i .i64 0))] [(4,.box [.p .nilsl,.p .nilsl] false),(6,.box [.row 200 b.slots.length,.row 300 0] false),(200,.row 59 16 (b.slots.map Slt.pv) false)] ?_ ?_
  ·simp only [Own,zaL,zaB,zbt,zay,qS,Nat.reduceAdd,Nat.reduceMul,Nat.reduceEqDiff,Nat.reduceLeDiff,reduceIte,reduceCtorEq,Nat.reduceBEq,Nat.reduceLT]<;>simp
  refine zaO 301 9 1 [(1,.p (.sl 11 (l.map Lim.pv))),(4,.lp 4 0),(6,.lp 6 0),(7,.row 301 0),(8,.p (.sl 7 ((mvF (rqW (b.slots.map (·.req)) (-1))).map Mov.pv))),(19,.p (.sl 14 (b.wait.map Wsh.pv))),(20,.p (.i .i64 b.wait.length)),(21,.p (.i .i64 0))] [(4,.box [.p .nilsl,.p .nilsl] false),(6,.box [.row 200 b.slots.length,.row 300 0] false),(200,.row 59 16 (b.slots.map Slt.pv) false),(300,.row 71 14 [] false)] ?_ ?_
  ·simp only [Own,zaL,zaB,zbt,zay,qS,Nat.reduceAdd,Nat.reduceMul,Nat.reduceEqDiff,Nat.reduceLeDiff,reduceIte,reduceCtorEq,Nat.reduceBEq,Nat.reduceLT]<;>simp
  refine zk (κ:=Nat) (fun k=>⟨[(1,.p (.sl 11 (l.map Lim.pv))),(4,.lp 4 0),(6,.lp 6 0),(7,.row 301 (srvK l b k).Q.length),(8,.p (.sl 7 ((srvK l b k).M.map Mov.pv))),(19,.p (.sl 14 (b.wait.map Wsh.pv))),(20,.p (.i .i64 b.wait.length)),(21,.p (.i .i64 k))],[(4,.box [.p .nilsl,.p .nilsl] false),(6,.box [.row 200 (b.slots.length+(srvK l b k).Q.length),.row 300 (srvK l b k).K.length] false),(200,.row 59 16 (b.slots.map Slt.pv++(srvK l b k).Q.map rawS) false),(300,.row 71 14 ((srvK l b k).K.map Wsh.pv) false),(301,.row 9 1 (((srvK l b k).Q.map (·.name)).map .s) false)],[],false⟩) (fun k=>k≤b.wait.length) (fun k=>b.wait.length - k) 0 ?_ ?_ ?_
  ·refine gJ ?_;simp [srvK,srv0]
  ·simp
  ·intro k hk
   have hlen:=srvK_len (l:=l) hk
   repeat first|refine gG ?_|show AK _;intro K H|refine H _ _ ?_;clear H K|refine gJ ?_;try exact trivial|omega
   (refine gC (fun hc=>?_) (fun hc=>?_)<;>try contradiction)
   ·obtain ⟨w,hw⟩:=zn (i:=k) (l:=b.wait) (by omega)
    have hnx:=srvK_next (l:=l) hw
    rw [srvN] at hnx
    generalize srvK l b k=t at hlen hnx ⊢
    by_cases h1:64≤((b.slots.length+t.Q.length:Nat):Int)
    ·rw [if_pos (.inl h1)] at hnx
     have h1t:=eq_true h1
     have qe:=aI qR (aI @hw (aI @h1t (aI @decide_true (aI @List.length_map.{0,0} @List.length_append.{0}))));repeat' first|refine gC (fun hc=>?_) (fun hc=>?_)<;>try contradiction|refine zN (fun _=>pure1159 l t.M w.req) ?_|refine gG ?_|show AK _;intro K H|refine H _ _ ?_;clear H K|refine gJ ?_;try exact trivial|omega
     all_goals exact ⟨k+1,by omega,by omega,by rw [hnx];simp⟩
    ·have h1t:=eq_false h1
     by_cases h2:fitR l t.M w.req=false
     ·rw [if_pos (.inr h2)] at hnx
      have qe:=aI qR (aI @hw (aI @h1t (aI @h2 (aI @decide_false (aI @Bool.not_false (aI @List.length_map.{0,0} @List.length_append.{0}))))));repeat' first|refine gC (fun hc=>?_) (fun hc=>?_)<;>try contradiction|refine zN (fun _=>pure1159 l t.M w.req) ?_|refine gG ?_|show AK _;intro K H|refine H _ _ ?_;clear H K|refine gJ ?_;try exact trivial|omega
      all_goals exact ⟨k+1,by omega,by omega,by rw [hnx];simp⟩
     ·rw [if_neg (fun h=>h.elim h1 h2)] at hnx
      have h2t:fitR l t.M w.req=true:=by simpa using h2
      have qe:=aI qR (aI @hw (aI @h1t (aI @h2t (aI @decide_false (aI @Bool.not_true (aI @List.length_map.{0,0} @List.length_append.{0}))))));repeat' first|refine gC (fun hc=>?_) (fun hc=>?_)<;>try contradiction|refine zN (fun _=>pure1159 l t.M w.req) ?_|refine za (pure19 w.req) ?_|refine za (pure66g t.M (movR w.req)) ?_|refine gG ?_|show AK _;intro K H|refine H _ _ ?_;clear H K|refine gJ ?_;try exact trivial|omega
      all_goals exact ⟨k+1,by omega,by omega,by rw [hnx];simp;omega⟩
   ·have e:k=b.wait.length:=by omega
    subst e
    have qe:=aI qR (aI @zaf (aI @List.length_map.{0,0} @List.length_append.{0}));repeat' first|refine gC (fun hc=>?_) (fun hc=>?_)<;>try contradiction|refine gG ?_|show AK _;intro K H|refine H _ _ ?_;clear H K|refine gJ ?_;try exact trivial|omega
    exact .refl _
 ·refine .tup ⟨.agg ⟨.sl ?_,.refl _,trivial⟩,.refl _,trivial⟩
  rw [srvB,List.map_append,List.map_map]
  exact .app (.refl _) (.map fun q _=>wk_newS q)
def lbE (l:List Lim) (b:Bk):Int:=zg [z3 l,zG b]
def ServB (l:List Lim) (b:Bk):Bk:=if lbE l b=0 then srvB l b else bk0
def ServW (l:List Lim) (b:Bk):List ByteArray:=if lbE l b=0 then srvW l b else []
theorem pure1020 (l:List Lim) (b:Bk) (hb:zG b=0→BkOk b):Pure Tryz.prog 33 [.sl 11 (l.map Lim.pv),b.pv] (.tup [(ServB l b).pv,.sl 1 ((ServW l b).map .s),.i .i64 (lbE l b)]):=by
 by_cases h:lbE l b=0
 ·have e1:(zg [z3 l,zG b]=0)=True:=eq_true h
  rw [ServB,ServW,if_pos h,if_pos h,h]
  refine zf (cF Tryz.func33 Tryz.f33.eq_1) (by simp) fun hw X hX=>?_
  have qe:=aI qR (aI @qN @e1);repeat' first|refine gC (fun hc=>?_) (fun hc=>?_)<;>try contradiction|refine za (pure22 l) ?_|refine za (zX b) ?_|refine za (zz [_,_]) ?_|refine zbP (hf:=pure1088 l b (hb (fE0 h _ (by simp)))) (hn:=?_)|refine gG ?_|show AK _;intro K H|refine H _ _ ?_;clear H K|refine gJ ?_;try exact trivial|omega
  exact .refl _
 ·have e1:(zg [z3 l,zG b]=0)=False:=eq_false h
  rw [ServB,ServW,if_neg h,if_neg h]
  refine zat (r:=.tup [.agg [.nilsl,.nilsl],.nilsl,.i .i64 (lbE l b)]) ?_ (.tup ⟨.agg ⟨.nilsl _,.nilsl _,trivial⟩,.nilsl _,.refl _,trivial⟩)
  refine zf (cF Tryz.func33 Tryz.f33.eq_1) (by simp) fun hw X hX=>?_
  have qe:=aI qR (aI @qN @e1);repeat' first|refine gC (fun hc=>?_) (fun hc=>?_)<;>try contradiction|refine za (pure22 l) ?_|refine za (zX b) ?_|refine za (zz [_,_]) ?_|refine gG ?_|show AK _;intro K H|refine H _ _ ?_;clear H K|refine gJ ?_;try exact trivial|omega
  exact .refl _
end Go.Proofs.YtahmdjadnlpjoaaGreat
