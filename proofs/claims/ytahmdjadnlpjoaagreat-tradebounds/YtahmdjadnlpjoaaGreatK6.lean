/- Contracts of functions that the proof uses, shared by the claims of this seat; no statement of its own. Part 9. No conditions. -/
import Derived.Test.YtahmdjadnlpjoaaGreatK4
set_option linter.all false
set_option maxHeartbeats 8000000
namespace Go.Proofs.YtahmdjadnlpjoaaGreat
open Go.RowKit
set_option maxRecDepth 100000
set_option linter.unusedVariables false
set_option linter.unusedSimpArgs false
set_option maxHeartbeats 8000000
abbrev s0:ByteArray:=bs []
abbrev sA:ByteArray:=bs [65]
abbrev sD:ByteArray:=bs [68]
abbrev sT:ByteArray:=bs [84]
structure Lim where
 name:ByteArray
 kind:ByteArray
 term:ByteArray
 len:Int
 step:Int
 fro:Int
 to:Int
 per:Per
 most:Int
abbrev Lim.cells (l:Lim):List PV:=[.s l.name,.s l.kind,.s l.term,.i .i64 l.len,.i .i64 l.step,.i .i64 l.fro,.i .i64 l.to,.i .i64 l.per.fro,.i .i64 l.per.to,.i .i64 l.per.days,.i .i64 l.most]
abbrev Lim.pv (l:Lim):PV:=.agg l.cells
structure Mov where
 moment:Int
 kind:ByteArray
 term:ByteArray
 seats:Int
 size:Int
 noise:Int
 name:ByteArray
abbrev Mov.pv (m:Mov):PV:=.agg [.i .i64 m.moment,.s m.kind,.s m.term,.i .i64 m.seats,.i .i64 m.size,.i .i64 m.noise,.s m.name]
structure Req where
 name:ByteArray
 carrier:ByteArray
 kind:ByteArray
 term:ByteArray
 partner:ByteArray
 link:ByteArray
 per:Per
 minute:Int
 seats:Int
 size:Int
 noise:Int
abbrev Req.pv (r:Req):PV:=.agg [.s r.name,.s r.carrier,.s r.kind,.s r.term,.s r.partner,.s r.link,.i .i64 r.per.fro,.i .i64 r.per.to,.i .i64 r.per.days,.i .i64 r.minute,.i .i64 r.seats,.i .i64 r.size,.i .i64 r.noise]
structure Win where
 lim:Int
 beg:Int
 cnt:Int
abbrev Win.pv (w:Win):PV:=.agg [.i .i64 w.lim,.i .i64 w.beg,.i .i64 w.cnt]
def flightE (k:ByteArray):Int:=if ¬k=sA∧¬k=sD then 13 else 0
def optE (s:ByteArray):Int:=if ¬s=s0∧isName s=false then 8 else 0
def zaH (s:ByteArray):Int:=if isName s=false then 8 else 0
def loadE (a b c:Int):Int:=zg [rng a 0 999,rng b 0 9,rng c 0 99]
def chkMov (m:Mov):Int:=zg [rng m.moment 0 143999999,flightE m.kind,optE m.term,loadE m.seats m.size m.noise,zaH m.name]
def chkReq (r:Req):Int:=zg [zaH r.name,flightE r.kind,optE r.term,zau r.per,rng r.minute 0 1439,loadE r.seats r.size r.noise]
def kindE (k:ByteArray):Int:=if ¬k=sA∧¬k=sD∧¬k=sT then 13 else 0
def zaS (l:Lim):Int:=zg [zaH l.name,kindE l.kind,optE l.term,rng l.len 1 1440,rng l.step 1 1440,rng l.fro 0 1439,rng l.to 0 1439,if l.to < l.fro then 11 else 0,zau l.per,rng l.most 0 999999999]
theorem zbQ (b:Bool) (e:Int):Pure Tryz.prog 183 [.b b,.i .i64 e] (.i .i64 (if b then e else 0)):=by
 refine zf (cF Tryz.func183 Tryz.f183.eq_1) (by simp) fun hw X hX=>?_
 repeat' first|refine gC (fun hc=>?_) (fun hc=>?_)<;>try contradiction|refine gG ?_|show AK _;intro K H|refine H _ _ ?_;clear H K|refine gJ ?_;try exact trivial|omega
 all_goals (subst hc;exact .refl _)
theorem pure88 (n a b:Int):Pure Tryz.prog 135 [.i .i64 n,.i .i64 a,.i .i64 b] (.i .i64 (rng n a b)):=by
 refine zf (cF Tryz.func135 Tryz.f135.eq_1) (by simp) fun hw X hX=>?_
 repeat' first|refine gC (fun hc=>?_) (fun hc=>?_)<;>try contradiction|refine za (zbQ _ _) ?_|refine gG ?_|show AK _;intro K H|refine H _ _ ?_;clear H K|refine gJ ?_;try exact trivial|omega
 simp only [rng,Bool.or_eq_true,decide_eq_true_eq];exact .refl _
theorem zbx (l:List Int):Pure Tryz.prog 128 [.sl 1 (l.map (.i .i64))] (.i .i64 (zg l)):=by
 refine zf (cF Tryz.func128 Tryz.f128.eq_1) (by simp) fun hw X hX=>?_
 simp only [wfs,PV.wf,List.length_map,maxLen] at hw
 repeat' first|refine gC (fun hc=>?_) (fun hc=>?_)<;>try contradiction|refine gG ?_|show AK _;intro K H|refine H _ _ ?_;clear H K|refine gJ ?_;try exact trivial|omega
 refine zk (κ:=Nat) (fun i=>⟨[(5,.p (.sl 1 (l.map (.i .i64)))),(6,.p (.i .i64 l.length)),(7,.p (.i .i64 i))],[],[],false⟩) (fun i=>i≤l.length∧∀ x ∈ l.take i,x=0) (fun i=>l.length - i) 0 ?_ ?_ ?_
 ·exact sR
 ·simp
 ·intro i hi
  repeat first|refine gG ?_|show AK _;intro K H|refine H _ _ ?_;clear H K|refine gJ ?_;try exact trivial|omega
  (refine gC (fun hc=>?_) (fun hc=>?_)<;>try contradiction)
  ·obtain ⟨x,hx⟩:=zn (i:=i) (l:=l) (by omega)
   have qe:=@hx;repeat' first|refine gC (fun hc=>?_) (fun hc=>?_)<;>try contradiction|refine gG ?_|show AK _;intro K H|refine H _ _ ?_;clear H K|refine gJ ?_;try exact trivial|omega
   ·rw [zV hi.2 hx hc];exact .refl _
   ·exact ⟨i+1,⟨by omega,zaC hi.2 hx hc⟩,by omega,by simp⟩
  ·repeat' first|refine gC (fun hc=>?_) (fun hc=>?_)<;>try contradiction|refine gG ?_|show AK _;intro K H|refine H _ _ ?_;clear H K|refine gJ ?_;try exact trivial|omega
   have e:i=l.length:=by omega
   subst e
   rw [z4 hi.2];exact .refl _
theorem pure122 (s:ByteArray):Pure Tryz.prog 207 [.s s] (.i .i64 (flightE s)):=by
 refine zf (cF Tryz.func207 Tryz.f207.eq_1) (by simp) fun hw X hX=>?_
 repeat' first|refine gC (fun hc=>?_) (fun hc=>?_)<;>try contradiction|refine za (zbQ _ _) ?_|refine gG ?_|show AK _;intro K H|refine H _ _ ?_;clear H K|refine gJ ?_;try exact trivial|omega
 simp only [flightE,Bool.and_eq_true,Bool.not_eq_true',decide_eq_false_iff_not,decide_eq_true_eq];exact .refl _
theorem pure123 (s:ByteArray):Pure Tryz.prog 208 [.s s] (.i .i64 (optE s)):=by
 refine zf (cF Tryz.func208 Tryz.f208.eq_1) (by simp) fun hw X hX=>?_
 repeat' first|refine gC (fun hc=>?_) (fun hc=>?_)<;>try contradiction|refine zN (fun _=>zbG _) ?_|refine za (zbQ _ _) ?_|refine gG ?_|show AK _;intro K H|refine H _ _ ?_;clear H K|refine gJ ?_;try exact trivial|omega
 simp only [optE,Bool.and_eq_true,Bool.not_eq_true',decide_eq_false_iff_not,decide_eq_true_eq];exact .refl _
theorem pure125 (a b c:Int):Pure Tryz.prog 209 [.i .i64 a,.i .i64 b,.i .i64 c] (.i .i64 (loadE a b c)):=by
 refine zf (cF Tryz.func209 Tryz.f209.eq_1) (by simp) fun hw X hX=>?_
 have qe:=@qR;repeat' first|refine gC (fun hc=>?_) (fun hc=>?_)<;>try contradiction|refine za (pure88 _ _ _) ?_|refine za (zbx [_,_,_]) ?_|refine gG ?_|show AK _;intro K H|refine H _ _ ?_;clear H K|refine gJ ?_;try exact trivial|omega
 exact .refl _
theorem pure87 (m:Mov):Pure Tryz.prog 187 [m.pv] (.i .i64 (chkMov m)):=by
 refine zf (cF Tryz.func187 Tryz.f187.eq_1) (by simp) fun hw X hX=>?_
 have qe:=@qR;repeat' first|refine gC (fun hc=>?_) (fun hc=>?_)<;>try contradiction|refine za (pure88 _ _ _) ?_|refine za (pure122 _) ?_|refine za (pure123 _) ?_|refine za (pure125 _ _ _) ?_|refine za (zbG _) ?_|refine za (zbQ _ _) ?_|refine za (zbx [_,_,_,_,_]) ?_|refine gG ?_|show AK _;intro K H|refine H _ _ ?_;clear H K|refine gJ ?_;try exact trivial|omega
 exact .refl _
theorem pure79 (r:Req):Pure Tryz.prog 130 [r.pv] (.i .i64 (chkReq r)):=by
 refine zf (cF Tryz.func130 Tryz.f130.eq_1) (by simp) fun hw X hX=>?_
 have qe:=@qR;repeat' first|refine gC (fun hc=>?_) (fun hc=>?_)<;>try contradiction|refine za (pure88 _ _ _) ?_|refine za (pure122 _) ?_|refine za (pure123 _) ?_|refine za (pure124 r.per) ?_|refine za (pure125 _ _ _) ?_|refine za (zbG _) ?_|refine za (zbQ _ _) ?_|refine za (zbx [_,_,_,_,_,_]) ?_|refine gG ?_|show AK _;intro K H|refine H _ _ ?_;clear H K|refine gJ ?_;try exact trivial|omega
 exact .refl _
set_option maxRecDepth 100000
set_option linter.unusedVariables false
set_option linter.unusedSimpArgs false
set_option maxHeartbeats 2000000
abbrev fnSame (s:ByteArray):PV:=.fn (.func 263) [] [.ip (.s s) 0]
theorem pure153 (s:ByteArray):Pure Tryz.prog 262 [.s s] (fnSame s):=by
 refine zf (cF Tryz.func262 Tryz.f262.eq_1) (by simp) fun hw X hX=>?_
 repeat' first|refine gC (fun hc=>?_) (fun hc=>?_)<;>try contradiction|refine gG ?_|show AK _;intro K H|refine H _ _ ?_;clear H K|refine gJ ?_;try exact trivial|omega
 exact .refl _
theorem pure154 (m s:ByteArray):Pure Tryz.prog 263 [.s m,.ip (.s s) 0] (.b (decide (m=s))):=by
 refine zf (cF Tryz.func263 Tryz.f263.eq_1) (by simp) fun hw X hX=>?_
 repeat' first|refine gC (fun hc=>?_) (fun hc=>?_)<;>try contradiction|refine gG ?_|show AK _;intro K H|refine H _ _ ?_;clear H K|refine gJ ?_;try exact trivial|omega
 exact .refl _
theorem pure155 (m:ByteArray):Pure Tryz.prog 264 [.s m] (.b true):=by
 refine zf (cF Tryz.func264 Tryz.f264.eq_1) (by simp) fun hw X hX=>?_
 repeat' first|refine gC (fun hc=>?_) (fun hc=>?_)<;>try contradiction|refine gG ?_|show AK _;intro K H|refine H _ _ ?_;clear H K|refine gJ ?_;try exact trivial|omega
 exact .refl _
theorem sDA:(bs [68]=bs [65])=False:=by decide
theorem sTA:(bs [84]=bs [65])=False:=by decide
theorem sTD:(bs [84]=bs [68])=False:=by decide
abbrev kindsM:PV:=.mp [(.s sA,.agg [fnSame sA]),(.s sD,.agg [fnSame sD]),(.s sT,.agg [.fn (.func 264) [] []])]
theorem pure129:Pure Tryz.prog 212 [] kindsM:=by
 refine zf (cF Tryz.func212 Tryz.f212.eq_1) (by simp) fun hw X hX=>?_
 have qe:=aI qR (aI @sDA (aI @sTA @sTD));repeat' first|refine gC (fun hc=>?_) (fun hc=>?_)<;>try contradiction|refine zr (pure153 _) ?_|refine gG ?_|show AK _;intro K H|refine H _ _ ?_;clear H K|refine gJ ?_;try exact trivial|omega
 exact .refl _
theorem pure131 (l:Lim) (n:ByteArray):Pure Tryz.prog 253 [l.pv,.ip (.s n) 0] (.b (decide (l.name=n))):=by
 refine zf (cF Tryz.func253 Tryz.f253.eq_1) (by simp) fun hw X hX=>?_
 repeat' first|refine gC (fun hc=>?_) (fun hc=>?_)<;>try contradiction|refine gG ?_|show AK _;intro K H|refine H _ _ ?_;clear H K|refine gJ ?_;try exact trivial|omega
 exact .refl _
def atL (n:ByteArray):List ByteArray→Int
 | []=>-1
 | x::r=>if x=n then 0 else if atL n r < 0 then -1 else atL n r+1
theorem atL_ge (n:ByteArray):∀ l,-1≤atL n l
 | []=>by simp [atL]
 | x::r=>by have:=atL_ge n r;simp only [atL];(repeat' split)<;>omega
theorem atL_hit {n:ByteArray}:∀ {l:List ByteArray} {i:Nat},(∀ x ∈ l.take i,x≠n)→l[i]?=some n→atL n l=i
 | [],i,_,h=>by simp at h
 | x::r,0,_,h=>by simp at h;simp [atL,h]
 | x::r,i+1,h,hx=>by
  have h0:x≠n:=h x (by simp)
  have:=atL_hit (l:=r) (i:=i) (fun y hy=>h y (by simp [hy])) (by simpa using hx)
  simp only [atL,if_neg h0,this];rw [if_neg (by omega)];simp
theorem atL_end {n:ByteArray}:∀ {l:List ByteArray},(∀ x ∈ l,x≠n)→atL n l=-1
 | [],_=>rfl
 | x::r,h=>by
  have h0:x≠n:=h x (by simp)
  have:=atL_end (l:=r) fun y hy=>h y (by simp [hy])
  simp only [atL,if_neg h0,this];rfl
theorem pure130 (l:List Lim) (n:ByteArray):Pure Tryz.prog 252 [.sl 11 (l.map Lim.pv),.fn (.func 253) [] [.ip (.s n) 0]] (.i .i64 (atL n (l.map Lim.name))):=by
 refine zf (cF Tryz.func252 Tryz.f252.eq_1) (by simp) fun hw X hX=>?_
 simp only [wfs,PV.wf,List.length_map,maxLen] at hw
 repeat' first|refine gC (fun hc=>?_) (fun hc=>?_)<;>try contradiction|refine gG ?_|show AK _;intro K H|refine H _ _ ?_;clear H K|refine gJ ?_;try exact trivial|omega
 refine zk (κ:=Nat) (fun i=>⟨[(0,.p (.sl 11 (l.map Lim.pv))),(1,.p (.fn (.func 253) [] [.ip (.s n) 0])),(7,.p (.i .i64 l.length)),(8,.p (.i .i64 i))],[],[],false⟩) (fun i=>i≤l.length∧∀ x ∈ (l.map Lim.name).take i,x≠n) (fun i=>l.length - i) 0 ?_ ?_ ?_
 ·exact sR
 ·simp
 ·intro i hi
  repeat first|refine gG ?_|show AK _;intro K H|refine H _ _ ?_;clear H K|refine gJ ?_;try exact trivial|omega
  (refine gC (fun hc=>?_) (fun hc=>?_)<;>try contradiction)
  ·obtain ⟨x,hx⟩:=zn (i:=i) (l:=l) (by omega)
   have qe:=@hx;repeat' first|refine gC (fun hc=>?_) (fun hc=>?_)<;>try contradiction|refine zr (pure131 x n) ?_|refine gG ?_|show AK _;intro K H|refine H _ _ ?_;clear H K|refine gJ ?_;try exact trivial|omega
   ·rw [atL_hit hi.2 (by simp [hx,hc])];exact .refl _
   ·refine ⟨i+1,⟨by omega,fun y hy=>?_⟩,by omega,by simp⟩
    rw [←List.map_take,take_snoc _ hx] at hy
    rcases List.mem_append.1 hy with h|h
    ·exact hi.2 y (by rw [←List.map_take];exact h)
    ·simp at h;subst h;exact hc
  ·repeat' first|refine gC (fun hc=>?_) (fun hc=>?_)<;>try contradiction|refine gG ?_|show AK _;intro K H|refine H _ _ ?_;clear H K|refine gJ ?_;try exact trivial|omega
   have e:i=l.length:=by omega
   subst e
   rw [atL_end (fun y hy=>hi.2 y (by rw [List.take_of_length_le (by simp)];exact hy))];exact .refl _
theorem pure86 (l:List Lim) (n:ByteArray):Pure Tryz.prog 184 [.sl 11 (l.map Lim.pv),.s n] (.i .i64 (atL n (l.map Lim.name))):=by
 refine zf (cF Tryz.func184 Tryz.f184.eq_1) (by simp) fun hw X hX=>?_
 repeat' first|refine gC (fun hc=>?_) (fun hc=>?_)<;>try contradiction|refine za (pure130 l n) ?_|refine gG ?_|show AK _;intro K H|refine H _ _ ?_;clear H K|refine gJ ?_;try exact trivial|omega
 exact .refl _
theorem pure84 (l:Lim):Pure Tryz.prog 133 [l.pv] (.i .i64 (zaS l)):=by
 refine zf (cF Tryz.func133 Tryz.f133.eq_1) (by simp) fun hw X hX=>?_
 have key:∀ k:Int,kindE l.kind=k→zg [if isName l.name=false then 8 else 0,k,optE l.term,rng l.len 1 1440,rng l.step 1 1440,rng l.fro 0 1439,rng l.to 0 1439,if l.to < l.fro then 11 else 0,zau l.per,rng l.most 0 999999999]=zaS l:=fun k hk=>by subst hk;rfl
 by_cases hA:l.kind=sA
 ·have hA':=eq_true hA
  have qe:=aI qR @hA';repeat' first|refine gC (fun hc=>?_) (fun hc=>?_)<;>try contradiction|refine za (pure129) ?_|refine za (pure88 _ _ _) ?_|refine za (pure123 _) ?_|refine za (pure124 l.per) ?_|refine za (zbG _) ?_|refine za (zbQ _ _) ?_|refine za (zbx [_,_,_,_,_,_,_,_,_,_]) ?_|refine gG ?_|show AK _;intro K H|refine H _ _ ?_;clear H K|refine gJ ?_;try exact trivial|omega
  rw [←key 0 (by simp [kindE,hA])];exact .refl _
 have hA':=eq_false hA
 by_cases hD:l.kind=sD
 ·have hD':=eq_true hD
  have qe:=aI qR (aI @hA' @hD');repeat' first|refine gC (fun hc=>?_) (fun hc=>?_)<;>try contradiction|refine za (pure129) ?_|refine za (pure88 _ _ _) ?_|refine za (pure123 _) ?_|refine za (pure124 l.per) ?_|refine za (zbG _) ?_|refine za (zbQ _ _) ?_|refine za (zbx [_,_,_,_,_,_,_,_,_,_]) ?_|refine gG ?_|show AK _;intro K H|refine H _ _ ?_;clear H K|refine gJ ?_;try exact trivial|omega
  rw [←key 0 (by simp [kindE,hD])];exact .refl _
 have hD':=eq_false hD
 by_cases hT:l.kind=sT
 ·have hT':=eq_true hT
  have qe:=aI qR (aI @hA' (aI @hD' @hT'));repeat' first|refine gC (fun hc=>?_) (fun hc=>?_)<;>try contradiction|refine za (pure129) ?_|refine za (pure88 _ _ _) ?_|refine za (pure123 _) ?_|refine za (pure124 l.per) ?_|refine za (zbG _) ?_|refine za (zbQ _ _) ?_|refine za (zbx [_,_,_,_,_,_,_,_,_,_]) ?_|refine gG ?_|show AK _;intro K H|refine H _ _ ?_;clear H K|refine gJ ?_;try exact trivial|omega
  rw [←key 0 (by simp [kindE,hT])];exact .refl _
 have hT':=eq_false hT
 have qe:=aI qR (aI @hA' (aI @hD' @hT'));repeat' first|refine gC (fun hc=>?_) (fun hc=>?_)<;>try contradiction|refine za (pure129) ?_|refine za (pure88 _ _ _) ?_|refine za (pure123 _) ?_|refine za (pure124 l.per) ?_|refine za (zbG _) ?_|refine za (zbQ _ _) ?_|refine za (zbx [_,_,_,_,_,_,_,_,_,_]) ?_|refine gG ?_|show AK _;intro K H|refine H _ _ ?_;clear H K|refine gJ ?_;try exact trivial|omega
 rw [←key 13 (by simp [kindE,hA,hD,hT])];exact .refl _
end Go.Proofs.YtahmdjadnlpjoaaGreat
