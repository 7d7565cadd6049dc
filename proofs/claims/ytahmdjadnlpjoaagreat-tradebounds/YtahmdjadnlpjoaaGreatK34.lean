/- Contracts of functions that the proof uses, shared by the claims of this seat; no statement of its own. Part 62. No conditions. -/
import Derived.Test.YtahmdjadnlpjoaaGreatK30
import Derived.Test.YtahmdjadnlpjoaaGreatK33
set_option linter.all false
set_option maxHeartbeats 8000000
namespace Go.Proofs.YtahmdjadnlpjoaaGreat
open Go.RowKit
set_option maxRecDepth 100000
set_option linter.unusedVariables false
set_option linter.unusedSimpArgs false
set_option maxHeartbeats 8000000
abbrev slX (s:Slt) (p q:PV):PV:=.agg [.s s.req.name,.s s.req.carrier,.s s.req.kind,.s s.req.term,.s s.req.partner,.s s.req.link,.i .i64 s.req.per.fro,.i .i64 s.req.per.to,.i .i64 s.req.per.days,.i .i64 s.req.minute,.i .i64 s.req.seats,.i .i64 s.req.size,.i .i64 s.req.noise,.s s.holder,p,q]
abbrev slL (s:Slt) (i:Option Addr × Nat):PV:=slX s (.rs i.1 s.ls.length i.2) (.sl 1 (s.sh.map .s))
theorem actsE1227L (s:Slt) (h:SlOk s):ActsE Tryz.prog 247 [.p s.pv] [] (fun i=>.p (slL s i)) (fun i:Option Addr × Nat=>[(105,.hrow 102 3 (s.ls.map Lea.pv) i.1 i.2)]):=by
 obtain ⟨h1,h2⟩:=h
 refine actsE_by (cF Tryz.func247 Tryz.f247.eq_1) (by simp) (by simp [scPs,scP]) (by simp [scObj]) trivial (fun i=>by simp [scObj]) (fun i=>by simp [FolL]) fun X hX=>?_
 unfold zD ghO
 refine run_seq (run_cut ⟨[(1,.lp 1 0),(2,.lp 2 0)],[(1,.box [.p (.s s.req.name),.p (.s s.req.carrier),.p (.s s.req.kind),.p (.s s.req.term),.p (.s s.req.partner),.p (.s s.req.link),.p (.i .i64 s.req.per.fro),.p (.i .i64 s.req.per.to),.p (.i .i64 s.req.per.days),.p (.i .i64 s.req.minute),.p (.i .i64 s.req.seats),.p (.i .i64 s.req.size),.p (.i .i64 s.req.noise),.p (.s s.holder),.p (.sl 3 (s.ls.map Lea.pv)),.p (.sl 1 (s.sh.map .s))] false),(2,.box [.p (.s (bs [])),.p (.s (bs [])),.p (.s (bs [])),.p (.s (bs [])),.p (.s (bs [])),.p (.s (bs [])),.p (.i .i64 0),.p (.i .i64 0),.p (.i .i64 0),.p (.i .i64 0),.p (.i .i64 0),.p (.i .i64 0),.p (.i .i64 0),.p (.s (bs [])),.p .nilsl,.p .nilsl] false)],[],false⟩ ?_ (run_seq (run_cut ⟨[(1,.lp 1 0),(2,.lp 2 0)],[(1,.box [.p (.s s.req.name),.p (.s s.req.carrier),.p (.s s.req.kind),.p (.s s.req.term),.p (.s s.req.partner),.p (.s s.req.link),.p (.i .i64 s.req.per.fro),.p (.i .i64 s.req.per.to),.p (.i .i64 s.req.per.days),.p (.i .i64 s.req.minute),.p (.i .i64 s.req.seats),.p (.i .i64 s.req.size),.p (.i .i64 s.req.noise),.p (.s s.holder),.row 105 s.ls.length,.row 106 s.sh.length] false),(2,.box [.p (.s (bs [])),.p (.s (bs [])),.p (.s (bs [])),.p (.s (bs [])),.p (.s (bs [])),.p (.s (bs [])),.p (.i .i64 0),.p (.i .i64 0),.p (.i .i64 0),.p (.i .i64 0),.p (.i .i64 0),.p (.i .i64 0),.p (.i .i64 0),.p (.s (bs [])),.p .nilsl,.p .nilsl] false),(105,.row 102 3 (s.ls.map Lea.pv) false),(106,.row 9 1 (s.sh.map .s) false)],[],false⟩ ?_ ?_)))
 ·have qe:=@qR;repeat' first|refine gC (fun hc=>?_) (fun hc=>?_)<;>try contradiction|refine gG ?_|show AK _;intro K H|refine H _ _ ?_;clear H K|refine gJ ?_;try exact trivial|omega
  all_goals (show Cov _ _;simp only [qS,Nat.reduceAdd,Nat.reduceMul,Nat.reduceEqDiff,Nat.reduceLeDiff,reduceIte,reduceCtorEq,Nat.reduceBEq,Nat.reduceLT]<;>simp)
 ·have qe:=aI qR (aI @qN (aI @zaf (aI @List.map_nil.{0,0} @List.append_nil.{0})));repeat' first|refine gC (fun hc=>?_) (fun hc=>?_)<;>try contradiction|refine zm [(5,105)] (acts1228 s.ls (by omega)) ?_|refine zm [(5,106)] (acts1229 s.sh (by omega)) ?_|refine gG ?_|show AK _;intro K H|refine H _ _ ?_;clear H K|refine gJ ?_;try exact trivial|omega
  all_goals (show Cov _ _;simp only [qS,Nat.reduceAdd,Nat.reduceMul,Nat.reduceEqDiff,Nat.reduceLeDiff,reduceIte,reduceCtorEq,Nat.reduceBEq,Nat.reduceLT]<;>simp)
 refine run_ghostR (ghost_pin 105 (e:=102) (sz:=3) (xs:=s.ls.map Lea.pv) rfl (fun a0 c0=>[(1,.lp 1 0),(2,.lp 2 0)]) (fun a0 c0=>[(1,.box [.p (.s s.req.name),.p (.s s.req.carrier),.p (.s s.req.kind),.p (.s s.req.term),.p (.s s.req.partner),.p (.s s.req.link),.p (.i .i64 s.req.per.fro),.p (.i .i64 s.req.per.to),.p (.i .i64 s.req.per.days),.p (.i .i64 s.req.minute),.p (.i .i64 s.req.seats),.p (.i .i64 s.req.size),.p (.i .i64 s.req.noise),.p (.s s.holder),.p (.rs a0 (s.ls.map Lea.pv).length c0),.row 106 s.sh.length] false),(2,.box [.p (.s (bs [])),.p (.s (bs [])),.p (.s (bs [])),.p (.s (bs [])),.p (.s (bs [])),.p (.s (bs [])),.p (.i .i64 0),.p (.i .i64 0),.p (.i .i64 0),.p (.i .i64 0),.p (.i .i64 0),.p (.i .i64 0),.p (.i .i64 0),.p (.s (bs [])),.p .nilsl,.p .nilsl] false),(106,.row 9 1 (s.sh.map .s) false)]) fun a0 c0=>⟨⟨.inl rfl,.inl rfl,trivial⟩,⟨.inr ⟨_,rfl,_,_,_,rfl,rfl,.inl rfl,.inl rfl,.inl rfl,.inl rfl,.inl rfl,.inl rfl,.inl rfl,.inl rfl,.inl rfl,.inl rfl,.inl rfl,.inl rfl,.inl rfl,.inl rfl,.inr ⟨by show LV.row 105 _=LV.row 105 _;simp,rfl⟩,.inl rfl,trivial⟩,.inl rfl,.inl rfl,trivial⟩,by simp [scEnv,scP,zl],by simp [scObj,scPs,scP,zl]⟩) ?_
 rintro _ ⟨a0,c0,rfl⟩
 refine (show Run _ _ (St.mk _ _ [] false) _ from ?_)
 have qe:=aI qR (aI @zaf (aI @reN (aI @reR (@List.length_map.{0,0}))));repeat' first|refine gC (fun hc=>?_) (fun hc=>?_)<;>try contradiction|refine gG ?_|show AK _;intro K H|refine H _ _ ?_;clear H K|refine gJ ?_;try exact trivial|omega
 exact ⟨(a0,c0),.inl (.mkP)⟩
theorem take_set {L:List Slt} {k:Nat} {x:Slt} (h:L[k]?=some x) (v:PV):((L.take (k+1)).map Slt.pv).set k v=(L.take k).map Slt.pv++[v]:=by
 have hk:k < L.length:=(List.getElem?_eq_some_iff.1 h).1
 rw [zan h,List.map_append,List.map_singleton,List.set_append_right _ _ (by simp;omega)]
 simp [Nat.min_eq_left (Nat.le_of_lt hk)]
theorem take_set2 {L:List Slt} {k i0:Nat} {x:Slt} (hi:i0 < k) (h:L[k]?=some x) (v:PV):((L.take (k+1)).map Slt.pv).set i0 v=((L.take k).map Slt.pv).set i0 v++[x.pv]:=by
 have hk:k < L.length:=(List.getElem?_eq_some_iff.1 h).1
 rw [zan h,List.map_append,List.map_singleton,List.set_append_left _ _ (by simp;omega)]
theorem actsE1226X {e sz:Nat} {xs:List PV} (p q:HD→PV) (L:List Slt) (i0:Nat) (s:Slt) (h0:L[i0]?=some s) (hs:∀ s ∈ L,SlOk s) (hn:L.length≤1000000) (h1:∀ i,(p i).one=true∧(q i).one=true)
  (hf:ActsE Tryz.prog 247 [.p s.pv] [] (fun i=>.p (slX s (p i) (q i))) (fun i=>[(105,.hrow e sz xs i.1 i.2)])) :
  ActsE Tryz.prog 246 [.p (.sl 16 (L.map Slt.pv)),.p (.fn (.func 247) [] [])] [] (fun _=>.row 100 L.length) (fun i=>[(100,.row 59 16 ((L.map Slt.pv).set i0 (slX s (p i) (q i))) false),(305,.hrow e sz xs i.1 i.2)]):=by
 have hi0:i0 < L.length:=(List.getElem?_eq_some_iff.1 h0).1
 refine actsE_by (cF Tryz.func246 Tryz.f246.eq_1) (by simp) (by simp [scPs,scP]) (by simp [scObj]) trivial (fun i=>by simp [scObj]) (fun i=>by simp [FolL]) fun X hX=>?_
 unfold zD ghO
 have qe:=aI qR (aI @List.map_nil.{0,0} @List.append_nil.{0});repeat' first|refine gC (fun hc=>?_) (fun hc=>?_)<;>try contradiction|refine gG ?_|show AK _;intro K H|refine H _ _ ?_;clear H K|refine gJ ?_;try exact trivial|omega
 refine zaO 100 59 16 [(1,.p (.fn (.func 247) [] [])),(5,.row 100 0),(8,.p (.sl 16 (L.map Slt.pv))),(9,.p (.i .i64 L.length)),(10,.p (.i .i64 0))] [] ?_ ?_
 ·simp only [Own,zaL,zaB,zbt,zay,qS,Nat.reduceAdd,Nat.reduceMul,Nat.reduceEqDiff,Nat.reduceLeDiff,reduceIte,reduceCtorEq,Nat.reduceBEq,Nat.reduceLT]
 refine run_loop2 (fun k=>⟨[(1,.p (.fn (.func 247) [] [])),(5,.row 100 k),(8,.p (.sl 16 (L.map Slt.pv))),(9,.p (.i .i64 L.length)),(10,.p (.i .i64 k))],[(100,.row 59 16 ((L.take k).map Slt.pv) false)],[],false⟩)
  (fun k i=>⟨[(1,.p (.fn (.func 247) [] [])),(5,.row 100 k),(8,.p (.sl 16 (L.map Slt.pv))),(9,.p (.i .i64 L.length)),(10,.p (.i .i64 k))],[(100,.row 59 16 (((L.take k).map Slt.pv).set i0 (slX s (p i) (q i))) false),(305,.hrow e sz xs i.1 i.2)],[],false⟩) L.length i0 hi0 ?_ (fun k hk=>?_) ?_ (fun k i hk hkn=>?_) (fun i=>?_)
 ·exact sS
 ·obtain ⟨x,hx⟩:=zn (i:=k) (l:=L) (by omega)
  have hl:(L.take k).length=k:=by rw [List.length_take];omega
  have hlt:=eq_true (show (k:Int) < (L.length:Int) by omega)
  have qe:=aI qR (aI @hx (aI @hl (aI @hlt (aI @decide_true @nk_n))));repeat' first|refine gC (fun hc=>?_) (fun hc=>?_)<;>try contradiction|refine zr (pure1227 x (hs x (List.mem_of_getElem? hx))) ?_|refine gG ?_|show AK _;intro K H|refine H _ _ ?_;clear H K|refine gJ ?_;try exact trivial|omega
  exact ⟨rfl,by rw [zan hx];simp,by simp;omega⟩
 ·have hl:(L.take i0).length=i0:=by rw [List.length_take];omega
  have hlt:=eq_true (show (i0:Int) < (L.length:Int) by omega)
  have qe:=aI qR (aI @h0 (aI @hl (aI @hlt (aI @decide_true @nk_n))));repeat' first|refine gC (fun hc=>?_) (fun hc=>?_)<;>try contradiction|refine gG ?_|show AK _;intro K H|refine H _ _ ?_;clear H K|refine gJ ?_;try exact trivial|omega
  refine run_callEVX [(105,305)] (hf:=hf) (hn:=fun i=>?_)
  obtain ⟨h1a,h1b⟩:=h1 i
  have qe:=aI qR (aI @qN (aI @hl (aI @lo_hrow (aI @h1a (aI @h1b @nk_n)))));repeat' first|refine gC (fun hc=>?_) (fun hc=>?_)<;>try contradiction|refine gG ?_|show AK _;intro K H|refine H _ _ ?_;clear H K|refine gJ ?_;try exact trivial|omega
  exact ⟨i,rfl,⟨by rw [take_set h0],rfl⟩,by simp;omega,by simp [scObj]⟩
 ·obtain ⟨x,hx⟩:=zn (i:=k) (l:=L) (by omega)
  have hl:(L.take k).length=k:=by rw [List.length_take];omega
  have hlt:=eq_true (show (k:Int) < (L.length:Int) by omega)
  have qe:=aI qR (aI @hx (aI @hl (aI @hlt (aI @decide_true (aI @List.length_set.{0} @nk_n)))));repeat' first|refine gC (fun hc=>?_) (fun hc=>?_)<;>try contradiction|refine zr (pure1227 x (hs x (List.mem_of_getElem? hx))) ?_|refine gG ?_|show AK _;intro K H|refine H _ _ ?_;clear H K|refine gJ ?_;try exact trivial|omega
  exact ⟨rfl,by rw [take_set2 hk hx],by simp;omega,by simp [scObj]⟩
 ·have hlt:=eq_false (show ¬(L.length:Int) < (L.length:Int) by omega)
  have qe:=aI qR (aI @hlt (aI @decide_false (aI @nk_e (aI @reN (aI @reR (aI @List.take_length.{0} @List.length_set.{0}))))));repeat' first|refine gC (fun hc=>?_) (fun hc=>?_)<;>try contradiction|refine gG ?_|show AK _;intro K H|refine H _ _ ?_;clear H K|refine gJ ?_;try exact trivial|omega
  exact ⟨i,.inl .mkE⟩
theorem actsE1155X {e sz:Nat} {xs:List PV} (p q:HD→PV) (L:List Slt) (W:List Wsh) (i0:Nat) (s:Slt) (h0:L[i0]?=some s) (hs:∀ s ∈ L,SlOk s) (hn:L.length≤1000000) (hW:W.length≤1000000) (h1:∀ i,(p i).one=true∧(q i).one=true)
  (hf:ActsE Tryz.prog 247 [.p s.pv] [] (fun i=>.p (slX s (p i) (q i))) (fun i=>[(105,.hrow e sz xs i.1 i.2)])) :
  ActsE Tryz.prog 181 [.p (.agg [.sl 16 (L.map Slt.pv),.sl 14 (W.map Wsh.pv)])] [] (fun _=>.agg [.row 100 L.length,.row 7 W.length]) (fun i=>[(100,.row 59 16 ((L.map Slt.pv).set i0 (slX s (p i) (q i))) false),(7,.row 71 14 (W.map Wsh.pv) false),(305,.hrow e sz xs i.1 i.2)]):=by
 have hA:=fun l=>eq_true (allWs l)
 have hT:List.take W.length (W.map Wsh.pv)=W.map Wsh.pv:=by rw [List.take_of_length_le];simp
 have hD:∀ x:PV,List.drop W.length (List.replicate W.length x)=[]:=fun x=>by simp
 refine actsE_by (cF Tryz.func181 Tryz.f181.eq_1) (by simp) (by simp [scPs,scP]) (by simp [scObj]) trivial (fun i=>by simp [scObj]) (fun i=>by simp [FolL]) fun X hX=>?_
 unfold zD ghO
 have qe:=aI qR (aI @hA (aI @hT (aI @hD (aI @Nat.min_self (aI @qN (aI @zaf (aI @rtN (aI @rtR (aI @List.map_nil.{0,0} @List.append_nil.{0})))))))));repeat' first|refine gC (fun hc=>?_) (fun hc=>?_)<;>try contradiction|refine gG ?_|show AK _;intro K H|refine H _ _ ?_;clear H K|refine gJ ?_;try exact trivial|omega
 refine run_callEP [(100,100),(305,305)] (hf:=actsE1226X p q L i0 s h0 hs hn h1 hf) (hn:=fun i=>?_)
 refine run_partN 1 ?_
 have qe:=aI qR (aI @qN @lo_hrow);repeat' first|refine gC (fun hc=>?_) (fun hc=>?_)<;>try contradiction|refine gG ?_|show AK _;intro K H|refine H _ _ ?_;clear H K|refine gJ ?_;try exact trivial|omega
 refine run_buildL (us:=[.row 100 L.length,.row 7 W.length]) (zs:=[.row 100 L.length,.row 7 W.length]) (sE) (sE) (by simp only [fillLOk]<;>simp [LV.cells,LV.known,za7,rn,rens,LV.ren,LObj.ren,qS,Nat.reduceAdd,Nat.reduceMul,Nat.reduceEqDiff,Nat.reduceLeDiff,reduceIte,reduceCtorEq,Nat.reduceBEq,Nat.reduceLT]) rfl (zE ?_)
 have qe:=aI qR (aI @qN (aI @lo_hrow (aI @hT (aI @hD (aI @List.append_nil.{0} (aI @reN (aI @reR (aI @zaf (aI @List.length_map.{0,0} @List.length_set.{0})))))))));repeat' first|refine gC (fun hc=>?_) (fun hc=>?_)<;>try contradiction|refine gG ?_|show AK _;intro K H|refine H _ _ ?_;clear H K|refine gJ ?_;try exact trivial|omega
 all_goals exact ⟨i,.inl .mk⟩
end Go.Proofs.YtahmdjadnlpjoaaGreat
