/- Contracts of functions that the proof uses, shared by the claims of this seat; no statement of its own. Part 59. No conditions. -/
import Derived.Test.YtahmdjadnlpjoaaGreatK30
set_option linter.all false
set_option maxHeartbeats 8000000
namespace Go.Proofs.YtahmdjadnlpjoaaGreat
open Go.RowKit
set_option maxRecDepth 100000
set_option linter.unusedVariables false
set_option linter.unusedSimpArgs false
set_option maxHeartbeats 8000000
theorem idxF_any {α:Type} (p:α→Bool):∀ l:List α,decide (0≤idxF p l)=l.any p
 | []=>rfl
 | x::r=>by
  have ih:=idxF_any p r
  by_cases h:p x=true
  ·simp [idxF,h]
  ·simp only [idxF,if_neg h,List.any_cons,←ih]
   rw [Bool.not_eq_true] at h
   rw [h,Bool.false_or]
   by_cases h2:idxF p r < 0
   ·rw [if_pos h2,decide_eq_false (by omega),decide_eq_false (by omega)]
   ·rw [if_neg h2,decide_eq_true (by omega),decide_eq_true (by omega)]
def hasL (s:SlR):Bool:=match s.ls with|.sl _ xs=>decide (0 < (xs.length:Int))|_=>false
def passLn (b:Bk) (N:List ByteArray):Bool:=(N.map (zo b)).any fun s=>decide (0 < (s.ls.length:Int))
theorem hasL_any (L:List Slt):(L.map Slt.raw).any hasL=L.any fun s=>decide (0 < (s.ls.length:Int)):=by
 rw [List.any_map];congr;funext s;simp [hasL]
def passH (b:Bk) (N:List ByteArray):List ByteArray:=(N.map (zo b)).map (·.holder)
def dupE (Hs:List ByteArray) (i:Nat) (h:ByteArray):Int:=if 0≤atL h (Hs.take i) then 31 else 0
def passE (b:Bk) (N:List ByteArray):Int:=zg [if passLn b N=true then 19 else 0,zg ((passH b N).mapIdx (dupE (passH b N)))]
abbrev nth (N:List ByteArray) (k:Nat):ByteArray:=(N[k]?).getD s0
def passL (b:Bk) (N:List ByteArray):Nat→List PV
 | 0=>b.slots.map Slt.pv
 | k+1=>(passL b N k).set (zA b (nth N k)) (trW (zo b (nth N k)) (nth (passH b N) ((k+N.length - 1) % N.length)))
def passT (b:Bk) (N:List ByteArray):Nat→List Slt
 | 0=>b.slots
 | k+1=>(passT b N k).set (zA b (nth N k)) (trS (zo b (nth N k)) (nth (passH b N) ((k+N.length - 1) % N.length)))
theorem passL_len (b:Bk) (N:List ByteArray):∀ k,(passL b N k).length=b.slots.length
 | 0=>by simp [passL]
 | k+1=>by simp [passL,passL_len b N k]
theorem passL_at (b:Bk) (N:List ByteArray) {j:Nat} {s:Slt} (hs:b.slots[j]?=some s) (hN:∀ n ∈ N,¬atL n (b.slots.map (·.req.name)) < 0):∀ k,k≤N.length→∃ c,(passL b N k)[j]?=some c∧(c=s.pv∨∃ h,c=trW s h)
 | 0,_=>⟨s.pv,by simp [passL,hs],.inl rfl⟩
 | k+1,hk=>by
  obtain ⟨c,h1,h2⟩:=passL_at b N hs hN k (by omega)
  have hj:j < (passL b N k).length:=(List.getElem?_eq_some_iff.1 h1).1
  by_cases e:zA b (nth N k)=j
  ·obtain ⟨x,hx⟩:=zn (i:=k) (l:=N) (by omega)
   have hnx:nth N k=x:=by rw [nth,hx];rfl
   have:=(slot_found (hN x (List.mem_of_getElem? hx))).1
   rw [←hnx,e,hs] at this
   injection this with this
   exact ⟨_,by rw [passL,e];exact List.getElem?_set_self hj,.inr ⟨_,by rw [this]⟩⟩
  ·exact ⟨c,by rw [passL,List.getElem?_set_ne e];exact h1,h2⟩
theorem wk_passL (b:Bk) (N:List ByteArray):∀ k,Wkr (passL b N k) ((passT b N k).map Slt.pv)
 | 0=>.refl _
 | k+1=>by rw [passL,passT,List.map_set];exact .set _ (wk_passL b N k) (wk_trW _ _)
def passB (b:Bk) (N:List ByteArray):Bk:=if passE b N=0 then ⟨passT b N N.length,b.wait⟩ else bk0
theorem pure1214 (b:Bk) (N:List ByteArray) (hb:BkOk b) (hN:∀ n ∈ N,¬atL n (b.slots.map (·.req.name)) < 0) (hn:N.length≤1000):Pure Tryz.prog 221 [b.pv,.sl 1 (N.map .s)] (.tup [(passB b N).pv,.i .i64 (passE b N)]):=by
 obtain ⟨hs,hn1,hwl⟩:=hb
 refine zat (r:=if passE b N=0 then .tup [.agg [.sl 16 (passL b N N.length),.sl 14 (b.wait.map Wsh.pv)],.i .i64 0] else .tup [.agg [.nilsl,.nilsl],.i .i64 (passE b N)]) ?_ ?_
 ·refine zf (cF Tryz.func221 Tryz.f221.eq_1) (by simp) fun hw X hX=>?_
  have h1257:=pure1257 (f:=267) (caps:=[.ip (.agg [.sl 16 (b.slots.map Slt.pv),.sl 14 (b.wait.map Wsh.pv)]) 0]) N (zo b) (fun n hn=>pure1258 b n (hN n hn)) (by omega)
  have h1259:=pure1259 (f:=269) (L:=N.map (zo b)) (p:=hasL) (fun w hw=>by
   obtain ⟨s,_,rfl⟩:=List.mem_map.1 hw
   have:=pure1260 s
   rw [show hasL s.raw=decide (0 < (s.ls.length:Int)) by simp [hasL]];exact this)
  have hln:decide (0≤idxF hasL ((N.map (zo b)).map Slt.raw))=passLn b N:=by rw [idxF_any,hasL_any];rfl
  rw [hln] at h1259
  have h1261:Pure Tryz.prog 270 _ (.sl 1 ((passH b N).map .s)):=pure1261 (f:=271) (N.map (zo b)) (·.holder) (fun s _=>pure1262 s) (by simp;omega)
  by_cases hLn:passLn b N=true
  ·have hE:passE b N=19:=by rw [passE,if_pos hLn,za2 (by decide)]
   rw [hE,if_neg (by decide)]
   have qe:=aI qR (aI @qN (aI @zaA (aI @zaz (aI @zaf (aI @hLn @decide_true)))));repeat' first|refine gC (fun hc=>?_) (fun hc=>?_)<;>try contradiction|refine zm [(100,200),(7,201)] (zbD b.slots b.wait hs (by omega) (by omega)) ?_|refine zam (h1257) ?_|refine za (h1259) ?_|refine za (h1261) ?_|refine gG ?_|show AK _;intro K H|refine H _ _ ?_;clear H K|refine gJ ?_;try exact trivial|omega
   all_goals exact .refl _
  ·have hE:passE b N=zg ((passH b N).mapIdx (dupE (passH b N))):=by rw [passE,if_neg hLn,za3 rfl,fE_one]
   have hLf:passLn b N=false:=by simpa using hLn
   have hHl:(passH b N).length=N.length:=by simp [passH]
   rw [hE]
   have qe:=aI qR (aI @qN (aI @zaA (aI @zaz (aI @zaf (aI @hLf @decide_true)))));repeat' first|refine gC (fun hc=>?_) (fun hc=>?_)<;>try contradiction|refine zm [(100,200),(7,201)] (zbD b.slots b.wait hs (by omega) (by omega)) ?_|refine zam (h1257) ?_|refine za (h1259) ?_|refine za (h1261) ?_|refine gG ?_|show AK _;intro K H|refine H _ _ ?_;clear H K|refine gJ ?_;try exact trivial|omega
   generalize hH:passH b N=Hs at hHl h1261 hE
   refine zk (κ:=Nat) (fun k=>⟨[(1,.p (.sl 1 (N.map .s))),(2,.lp 2 0),(4,.lp 4 0),(5,.p (.i .i64 0)),(6,.lp 6 0),(8,.p (.sl 1 (Hs.map .s))),(24,.p (.sl 1 (Hs.map .s))),(25,.p (.i .i64 Hs.length)),(26,.p (.i .i64 k))],[(2,.box [.p (.sl 16 (b.slots.map Slt.pv)),.p (.sl 14 (b.wait.map Wsh.pv))] true),(4,.box [.p .nilsl,.p .nilsl] false),(6,.box [.row 200 b.slots.length,.row 201 b.wait.length] false),(201,.row 71 14 (b.wait.map Wsh.pv) false),(200,.row 59 16 (b.slots.map Slt.pv) false)],[],false⟩) (fun k=>k≤Hs.length∧∀ x ∈ (Hs.mapIdx (dupE Hs)).take k,x=0) (fun k=>Hs.length - k) 0 ?_ ?_ ?_
   ·exact sS
   ·simp
   ·intro k hk
    repeat first|refine gG ?_|show AK _;intro K H|refine H _ _ ?_;clear H K|refine gJ ?_;try exact trivial|omega
    (refine gC (fun hc=>?_) (fun hc=>?_)<;>try contradiction)
    ·obtain ⟨x,hx⟩:=zn (i:=k) (l:=Hs) (by omega)
     by_cases hd:0≤atL x (Hs.take k)
     ·have hdE:dupE Hs k x=31:=if_pos hd
      have hF:zg (Hs.mapIdx (dupE Hs))=31:=by rw [zV hk.2 (zI hx) (by rw [hdE];decide),hdE]
      rw [hF,if_neg (by decide)]
      have hd':=eq_true hd
      have qe:=aI qR (aI @hx (aI @take_map (aI @hd' @decide_true)));repeat' first|refine gC (fun hc=>?_) (fun hc=>?_)<;>try contradiction|refine za (pure1213 (Hs.take k) x) ?_|refine gG ?_|show AK _;intro K H|refine H _ _ ?_;clear H K|refine gJ ?_;try exact trivial|omega
      all_goals exact .refl _
     ·have hdE:dupE Hs k x=0:=if_neg hd
      have hd':=eq_false hd
      have qe:=aI qR (aI @hx (aI @take_map (aI @hd' @decide_false)));repeat' first|refine gC (fun hc=>?_) (fun hc=>?_)<;>try contradiction|refine za (pure1213 (Hs.take k) x) ?_|refine gG ?_|show AK _;intro K H|refine H _ _ ?_;clear H K|refine gJ ?_;try exact trivial|omega
      all_goals exact ⟨k+1,⟨by omega,zaC hk.2 (zI hx) hdE⟩,by omega,by simp⟩
    ·have hF:zg (Hs.mapIdx (dupE Hs))=0:=by
      have e:k=(Hs.mapIdx (dupE Hs)).length:=by simp;omega
      subst e;exact z4 hk.2
     rw [hF,if_pos rfl]
     have qe:=@qR;repeat' first|refine gC (fun hc=>?_) (fun hc=>?_)<;>try contradiction|refine gG ?_|show AK _;intro K H|refine H _ _ ?_;clear H K|refine gJ ?_;try exact trivial|omega
     refine zk (κ:=Nat) (fun k=>⟨[(1,.p (.sl 1 (N.map .s))),(2,.lp 2 0),(4,.lp 4 0),(5,.p (.i .i64 0)),(6,.lp 6 0),(8,.p (.sl 1 (Hs.map .s))),(11,.p (.i .i64 N.length)),(40,.p (.i .i64 N.length)),(41,.p (.i .i64 k))],[(2,.box [.p (.sl 16 (b.slots.map Slt.pv)),.p (.sl 14 (b.wait.map Wsh.pv))] true),(4,.box [.p .nilsl,.p .nilsl] false),(6,.box [.row 200 b.slots.length,.row 201 b.wait.length] false),(201,.row 71 14 (b.wait.map Wsh.pv) false),(200,.row 59 16 (passL b N k) false)],[],false⟩) (fun k=>k≤N.length) (fun k=>N.length - k) 0 ?_ ?_ ?_
     ·refine gJ ?_;simp [passL]
     ·simp
     ·intro k hk
      have hpl:=passL_len b N k
      repeat first|refine gG ?_|show AK _;intro K H|refine H _ _ ?_;clear H K|refine gJ ?_;try exact trivial|omega
      (refine gC (fun hc=>?_) (fun hc=>?_)<;>try contradiction)
      ·obtain ⟨x,hx⟩:=zn (i:=k) (l:=N) (by omega)
       have hnx:nth N k=x:=by rw [nth,hx];rfl
       obtain ⟨hsl,hfi,hi⟩:=slot_found (hN x (List.mem_of_getElem? hx))
       have hfind:=za9 b x
       rw [hfi] at hfind
       obtain ⟨c,hc1,hc2⟩:=passL_at b N hsl hN k hk
       have hjl:(k+N.length - 1) % N.length < Hs.length:=by rw [hHl];exact Nat.mod_lt _ (by omega)
       obtain ⟨y,hy⟩:=zn (i:=(k+N.length - 1) % N.length) (l:=Hs) hjl
       have hny:nth (passH b N) ((k+N.length - 1) % N.length)=y:=by rw [hH,nth,hy];rfl
       have hr:((k:Int)+(N.length:Int) - 1).tmod (N.length:Int)=(((k+N.length - 1) % N.length:Nat):Int):=by
        rw [show ((k:Int)+(N.length:Int) - 1)=((k+N.length - 1:Nat):Int) by omega];exact (Int.ofNat_tmod _ _).symm
       have hg:=fun a=>set_get (passL b N k) (zA b x) a (by omega)
       have hnx1:passL b N (k+1)=(passL b N k).set (zA b x) (trW (zo b x) y):=by rw [passL,hnx,hny]
       rcases hc2 with rfl|⟨h,rfl⟩
       ·have qe:=aI qR (aI @hx (aI @hy (aI @hr (aI @hpl (aI @hc1 (aI @hg (aI @List.set_set.{0} @List.length_set.{0})))))));repeat' first|refine gC (fun hc=>?_) (fun hc=>?_)<;>try contradiction|refine za (hfind) ?_|refine gG ?_|show AK _;intro K H|refine H _ _ ?_;clear H K|refine gJ ?_;try exact trivial|omega
        exact ⟨k+1,by omega,by omega,rfl,by rw [hnx1],by rw [passL_len];exact Nat.le_refl _⟩
       ·have qe:=aI qR (aI @hx (aI @hy (aI @hr (aI @hpl (aI @hc1 (aI @hg (aI @List.set_set.{0} @List.length_set.{0})))))));repeat' first|refine gC (fun hc=>?_) (fun hc=>?_)<;>try contradiction|refine za (hfind) ?_|refine gG ?_|show AK _;intro K H|refine H _ _ ?_;clear H K|refine gJ ?_;try exact trivial|omega
        exact ⟨k+1,by omega,by omega,rfl,by rw [hnx1],by rw [passL_len];exact Nat.le_refl _⟩
      ·have e:k=N.length:=by omega
       subst e
       have qe:=aI qR (aI @hpl @zaf);repeat' first|refine gC (fun hc=>?_) (fun hc=>?_)<;>try contradiction|refine gG ?_|show AK _;intro K H|refine H _ _ ?_;clear H K|refine gJ ?_;try exact trivial|omega
       exact .refl _
 ·by_cases h:passE b N=0
  ·rw [if_pos h,passB,if_pos h,h]
   exact .tup ⟨.agg ⟨.sl (wk_passL b N _),.refl _,trivial⟩,.refl _,trivial⟩
  ·rw [if_neg h,passB,if_neg h];exact zbw _
def unkE (b:Bk) (n:ByteArray):Int:=if atL n (b.slots.map (·.req.name)) < 0 then 10 else 0
def swpF (b:Bk) (o t:ByteArray):Int:=zg [unkE b o,unkE b t,if o=t then 9 else 0]
def swpC (b:Bk) (o t:ByteArray):Int:=if swpF b o t=0 then passE b [o,t] else swpF b o t
def swpB (b:Bk) (o t:ByteArray):Bk:=if swpC b o t=0 then passB b [o,t] else bk0
theorem unk_0 {b:Bk} {n:ByteArray} (h:unkE b n=0):¬atL n (b.slots.map (·.req.name)) < 0:=fun k=>by rw [unkE,if_pos k] at h;omega
theorem passB_0 {b:Bk} {N:List ByteArray} (h:passE b N≠0):passB b N=bk0:=if_neg h
theorem swpB_0 {b:Bk} {o t:ByteArray} (h:swpC b o t≠0):swpB b o t=bk0:=if_neg h
theorem pure1134 (b:Bk) (o t:ByteArray) (hb:BkOk b):Pure Tryz.prog 147 [b.pv,.s o,.s t] (.tup [(swpB b o t).pv,.i .i64 (swpC b o t)]):=by
 by_cases h:swpF b o t=0
 ·have hC:swpC b o t=passE b [o,t]:=if_pos h
  have hB:swpB b o t=passB b [o,t]:=by
   rw [swpB,hC];split
   ·rfl
   ·rename_i k;rw [passB_0 k]
  rw [hB,hC]
  have h1:(zg [if atL o (b.slots.map (·.req.name)) < 0 then 10 else 0,if atL t (b.slots.map (·.req.name)) < 0 then 10 else 0,if o=t then 9 else 0]=0)=True:=eq_true h
  have hp:=pure1214 b [o,t] hb (fun n hn=>by
   simp only [List.mem_cons,List.not_mem_nil,or_false] at hn
   rcases hn with rfl|rfl
   ·exact unk_0 (fE0 h _ (by simp))
   ·exact unk_0 (fE0 h _ (by simp))) (by simp)
  refine zf (cF Tryz.func147 Tryz.f147.eq_1) (by simp) fun hw X hX=>?_
  have qe:=aI qR (aI @qN @h1);repeat' first|refine gC (fun hc=>?_) (fun hc=>?_)<;>try contradiction|refine za (zZ b o) ?_|refine za (zZ b t) ?_|refine za (zW _ _) ?_|refine za (zz [_,_,_]) ?_|refine zam (hp) ?_|refine gG ?_|show AK _;intro K H|refine H _ _ ?_;clear H K|refine gJ ?_;try exact trivial|omega
  exact .refl _
 ·have hC:swpC b o t=swpF b o t:=if_neg h
  have hB:swpB b o t=bk0:=by rw [swpB,hC,if_neg h]
  rw [hB,hC]
  have h1:(zg [if atL o (b.slots.map (·.req.name)) < 0 then 10 else 0,if atL t (b.slots.map (·.req.name)) < 0 then 10 else 0,if o=t then 9 else 0]=0)=False:=eq_false h
  refine zat (r:=.tup [.agg [.nilsl,.nilsl],.i .i64 (swpF b o t)]) ?_ (zbw _)
  refine zf (cF Tryz.func147 Tryz.f147.eq_1) (by simp) fun hw X hX=>?_
  have qe:=aI qR (aI @qN @h1);repeat' first|refine gC (fun hc=>?_) (fun hc=>?_)<;>try contradiction|refine za (zZ b o) ?_|refine za (zZ b t) ?_|refine za (zW _ _) ?_|refine za (zz [_,_,_]) ?_|refine gG ?_|show AK _;intro K H|refine H _ _ ?_;clear H K|refine gJ ?_;try exact trivial|omega
  exact .refl _
theorem pure1060 (b:Bk) (o t:ByteArray) (hb:zG b=0→BkOk b):Pure Tryz.prog 69 [b.pv,.s o,.s t] (.tup [(BkTo b (swpB b o t) (swpC b o t)).1.pv,.i .i64 (BkTo b (swpB b o t) (swpC b o t)).2]):=by
 by_cases h:zG b=0
 ·have e1:(zG b=0)=True:=eq_true h
  rw [bkTo_ok h swpB_0]
  refine zf (cF Tryz.func69 Tryz.f69.eq_1) (by simp) fun hw X hX=>?_
  have qe:=aI qR (aI @qN @e1);repeat' first|refine gC (fun hc=>?_) (fun hc=>?_)<;>try contradiction|refine za (zX b) ?_|refine za (pure1134 b o t (hb h)) ?_|refine gG ?_|show AK _;intro K H|refine H _ _ ?_;clear H K|refine gJ ?_;try exact trivial|omega
  exact .refl _
 ·have e1:(zG b=0)=False:=eq_false h
  rw [bkTo_bad h]
  refine zat (r:=.tup [.agg [.nilsl,.nilsl],.i .i64 (zG b)]) ?_ (zbw _)
  refine zf (cF Tryz.func69 Tryz.f69.eq_1) (by simp) fun hw X hX=>?_
  have qe:=aI qR (aI @qN @e1);repeat' first|refine gC (fun hc=>?_) (fun hc=>?_)<;>try contradiction|refine za (zX b) ?_|refine gG ?_|show AK _;intro K H|refine H _ _ ?_;clear H K|refine gJ ?_;try exact trivial|omega
  exact .refl _
end Go.Proofs.YtahmdjadnlpjoaaGreat
