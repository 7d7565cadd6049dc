/- Contracts of functions that the proof uses, shared by the claims of this seat; no statement of its own. Part 10. No conditions. -/
import Derived.Test.YtahmdjadnlpjoaaGreatK5
import Derived.Test.YtahmdjadnlpjoaaGreatK6
set_option linter.all false
set_option maxHeartbeats 8000000
namespace Go.Proofs.YtahmdjadnlpjoaaGreat
open Go.RowKit
set_option maxRecDepth 100000
set_option linter.unusedVariables false
set_option linter.unusedSimpArgs false
set_option maxHeartbeats 4000000
structure Lea where
 carrier:ByteArray
 fro:Int
 to:Int
abbrev Lea.pv (l:Lea):PV:=.agg [.s l.carrier,.i .i64 l.fro,.i .i64 l.to]
structure SlR where
 req:Req
 holder:ByteArray
 ls:PV
 sh:PV
abbrev SlR.cells (s:SlR):List PV:=[.s s.req.name,.s s.req.carrier,.s s.req.kind,.s s.req.term,.s s.req.partner,.s s.req.link,.i .i64 s.req.per.fro,.i .i64 s.req.per.to,.i .i64 s.req.per.days,.i .i64 s.req.minute,.i .i64 s.req.seats,.i .i64 s.req.size,.i .i64 s.req.noise,.s s.holder,s.ls,s.sh]
abbrev SlR.pv (s:SlR):PV:=.agg s.cells
structure Slt where
 req:Req
 holder:ByteArray
 ls:List Lea
 sh:List ByteArray
abbrev Slt.raw (s:Slt):SlR:=⟨s.req,s.holder,.sl 3 (s.ls.map Lea.pv),.sl 1 (s.sh.map .s)⟩
abbrev Slt.cells (s:Slt):List PV:=[.s s.req.name,.s s.req.carrier,.s s.req.kind,.s s.req.term,.s s.req.partner,.s s.req.link,.i .i64 s.req.per.fro,.i .i64 s.req.per.to,.i .i64 s.req.per.days,.i .i64 s.req.minute,.i .i64 s.req.seats,.i .i64 s.req.size,.i .i64 s.req.noise,.s s.holder,.sl 3 (s.ls.map Lea.pv),.sl 1 (s.sh.map .s)]
abbrev Slt.pv (s:Slt):PV:=.agg s.cells
structure Wsh where
 req:Req
 rank:Int
abbrev Wsh.cells (w:Wsh):List PV:=[.s w.req.name,.s w.req.carrier,.s w.req.kind,.s w.req.term,.s w.req.partner,.s w.req.link,.i .i64 w.req.per.fro,.i .i64 w.req.per.to,.i .i64 w.req.per.days,.i .i64 w.req.minute,.i .i64 w.req.seats,.i .i64 w.req.size,.i .i64 w.req.noise,.i .i64 w.rank]
abbrev Wsh.pv (w:Wsh):PV:=.agg w.cells
structure Bk where
 slots:List Slt
 wait:List Wsh
abbrev Bk.pv (b:Bk):PV:=.agg [.sl 16 (b.slots.map Slt.pv),.sl 14 (b.wait.map Wsh.pv)]
def chkRq (r:Req):Int:=zg [zaH r.name,zaH r.carrier,zaH r.partner,optE r.term,optE r.link,flightE r.kind,if r.link=r.name then 32 else 0,zau r.per,rng r.minute 0 1439,rng r.seats 0 999,rng r.size 1 9,rng r.noise 0 99]
def chkQ (r:Req):Int:=zg [chkRq r,if zY r.per=[] then 12 else 0]
def chkLea (l:Lea):Int:=zg [zaH l.carrier,rng l.fro 0 99999,rng l.to 0 99999,if l.to < l.fro then 11 else 0]
def leaOf (s:SlR) (l:Lea):Int:=zg [if l.fro < s.req.per.fro∨s.req.per.to < l.to then 30 else 0,if l.carrier=s.holder then 31 else 0]
def leaErr (s:Slt) (i:Nat) (l:Lea):Int:=zg [chkLea l,leaOf s.raw l,if 0 < (i:Int)∧l.fro≤((s.ls[i - 1]?).getD l).to then 15 else 0]
def shaErr (s:Slt) (i:Nat) (c:ByteArray):Int:=zg [zaH c,if c=s.holder then 31 else 0,if 0≤atL c (s.sh.take i) then 9 else 0]
def chkSlt (s:Slt):Int:=zg [chkQ s.req,zaH s.holder,if 8 < (s.ls.length:Int) then 5 else 0,zg (s.ls.mapIdx (leaErr s)),if 4 < (s.sh.length:Int) then 5 else 0,zg (s.sh.mapIdx (shaErr s))]
def chkWsh (w:Wsh):Int:=zg [chkQ w.req,rng w.rank 0 999999999]
def sltErr (b:Bk) (i:Nat) (s:Slt):Int:=zg [chkSlt s,if 0≤atL s.req.name ((b.slots.take i).map (·.req.name)) then 9 else 0]
theorem fE0:∀ {l:List Int},zg l=0→∀ x ∈ l,x=0
 | [],_,x,hx=>by cases hx
 | e::r,h,x,hx=>by
  by_cases he:e=0
  ·rw [zg,if_pos he] at h
   rcases List.mem_cons.1 hx with rfl|hx
   ·exact he
   ·exact fE0 h x hx
  ·rw [zg,if_neg he] at h;exact absurd h he
theorem zW (b:Bool) (e:Int):Pure Tryz.prog 103 [.b b,.i .i64 e] (.i .i64 (if b then e else 0)):=by
 refine zf (cF Tryz.func103 Tryz.f103.eq_1) (by simp) fun hw X hX=>?_
 repeat' first|refine gC (fun hc=>?_) (fun hc=>?_)<;>try contradiction|refine gG ?_|show AK _;intro K H|refine H _ _ ?_;clear H K|refine gJ ?_;try exact trivial|omega
 all_goals (subst hc;exact .refl _)
theorem pure1300 (b:Bool) (e:Int):Pure Tryz.prog 239 [.b b,.i .i64 e] (.i .i64 (if b then e else 0)):=by
 refine zf (cF Tryz.func239 Tryz.f239.eq_1) (by simp) fun hw X hX=>?_
 repeat' first|refine gC (fun hc=>?_) (fun hc=>?_)<;>try contradiction|refine gG ?_|show AK _;intro K H|refine H _ _ ?_;clear H K|refine gJ ?_;try exact trivial|omega
 all_goals (subst hc;exact .refl _)
theorem pure1183 (n a b:Int):Pure Tryz.prog 163 [.i .i64 n,.i .i64 a,.i .i64 b] (.i .i64 (rng n a b)):=by
 refine zf (cF Tryz.func163 Tryz.f163.eq_1) (by simp) fun hw X hX=>?_
 repeat' first|refine gC (fun hc=>?_) (fun hc=>?_)<;>try contradiction|refine za (zW _ _) ?_|refine gG ?_|show AK _;intro K H|refine H _ _ ?_;clear H K|refine gJ ?_;try exact trivial|omega
 simp only [rng,Bool.or_eq_true,decide_eq_true_eq];exact .refl _
theorem pure1302 (n a b:Int):Pure Tryz.prog 241 [.i .i64 n,.i .i64 a,.i .i64 b] (.i .i64 (rng n a b)):=by
 refine zf (cF Tryz.func241 Tryz.f241.eq_1) (by simp) fun hw X hX=>?_
 repeat' first|refine gC (fun hc=>?_) (fun hc=>?_)<;>try contradiction|refine za (pure1300 _ _) ?_|refine gG ?_|show AK _;intro K H|refine H _ _ ?_;clear H K|refine gJ ?_;try exact trivial|omega
 simp only [rng,Bool.or_eq_true,decide_eq_true_eq];exact .refl _
theorem zz (l:List Int):Pure Tryz.prog 89 [.sl 1 (l.map (.i .i64))] (.i .i64 (zg l)):=by
 refine zf (cF Tryz.func89 Tryz.f89.eq_1) (by simp) fun hw X hX=>?_
 simp only [wfs,PV.wf,List.length_map,maxLen] at hw
 repeat' first|refine gC (fun hc=>?_) (fun hc=>?_)<;>try contradiction|refine gG ?_|show AK _;intro K H|refine H _ _ ?_;clear H K|refine gJ ?_;try exact trivial|omega
 refine zk (κ:=Nat) (fun i=>⟨[(5,.p (.sl 1 (l.map (.i .i64)))),(6,.p (.i .i64 l.length)),(7,.p (.i .i64 i))],[],[],false⟩) (fun i=>i≤l.length∧∀ x ∈ l.take i,x=0) (fun i=>l.length - i) 0 ?_ ?_ ?_
 ·exact sR
 ·simp
 ·intro i hi
  repeat first|refine gG ?_|show AK _;intro K H|refine H _ _ ?_;clear H K|refine gJ ?_;try exact trivial|omega
  (refine gC (fun hc=>?_) (fun hc=>?_)<;>try contradiction)
  ·obtain ⟨x,hx⟩:=zn (i:=i) (l:=l) (by omega)
   have qe:=@hx;repeat' first|refine gC (fun hc=>?_) (fun hc=>?_)<;>try contradiction|refine gG ?_|show AK _;intro K H|refine H _ _ ?_;clear H K|refine gJ ?_;try exact trivial|omega
   ·rw [zV hi.2 hx hc];exact .refl _
   ·exact ⟨i+1,⟨by omega,zaC hi.2 hx hc⟩,by omega,by simp⟩
  ·repeat' first|refine gC (fun hc=>?_) (fun hc=>?_)<;>try contradiction|refine gG ?_|show AK _;intro K H|refine H _ _ ?_;clear H K|refine gJ ?_;try exact trivial|omega
   have e:i=l.length:=by omega
   subst e
   rw [z4 hi.2];exact .refl _
theorem pure1297 (l:List Int):Pure Tryz.prog 236 [.sl 1 (l.map (.i .i64))] (.i .i64 (zg l)):=by
 refine zf (cF Tryz.func236 Tryz.f236.eq_1) (by simp) fun hw X hX=>?_
 simp only [wfs,PV.wf,List.length_map,maxLen] at hw
 repeat' first|refine gC (fun hc=>?_) (fun hc=>?_)<;>try contradiction|refine gG ?_|show AK _;intro K H|refine H _ _ ?_;clear H K|refine gJ ?_;try exact trivial|omega
 refine zk (κ:=Nat) (fun i=>⟨[(5,.p (.sl 1 (l.map (.i .i64)))),(6,.p (.i .i64 l.length)),(7,.p (.i .i64 i))],[],[],false⟩) (fun i=>i≤l.length∧∀ x ∈ l.take i,x=0) (fun i=>l.length - i) 0 ?_ ?_ ?_
 ·exact sR
 ·simp
 ·intro i hi
  repeat first|refine gG ?_|show AK _;intro K H|refine H _ _ ?_;clear H K|refine gJ ?_;try exact trivial|omega
  (refine gC (fun hc=>?_) (fun hc=>?_)<;>try contradiction)
  ·obtain ⟨x,hx⟩:=zn (i:=i) (l:=l) (by omega)
   have qe:=@hx;repeat' first|refine gC (fun hc=>?_) (fun hc=>?_)<;>try contradiction|refine gG ?_|show AK _;intro K H|refine H _ _ ?_;clear H K|refine gJ ?_;try exact trivial|omega
   ·rw [zV hi.2 hx hc];exact .refl _
   ·exact ⟨i+1,⟨by omega,zaC hi.2 hx hc⟩,by omega,by simp⟩
  ·repeat' first|refine gC (fun hc=>?_) (fun hc=>?_)<;>try contradiction|refine gG ?_|show AK _;intro K H|refine H _ _ ?_;clear H K|refine gJ ?_;try exact trivial|omega
   have e:i=l.length:=by omega
   subst e
   rw [z4 hi.2];exact .refl _
theorem zby (s:ByteArray):Pure Tryz.prog 102 [.s s] (.i .i64 (zaH s)):=by
 refine zf (cF Tryz.func102 Tryz.f102.eq_1) (by simp) fun hw X hX=>?_
 repeat' first|refine gC (fun hc=>?_) (fun hc=>?_)<;>try contradiction|refine za (zbG _) ?_|refine za (zW _ _) ?_|refine gG ?_|show AK _;intro K H|refine H _ _ ?_;clear H K|refine gJ ?_;try exact trivial|omega
 simp only [zaH,Bool.not_eq_true'];exact .refl _
theorem pure1298 (s:ByteArray):Pure Tryz.prog 237 [.s s] (.i .i64 (zaH s)):=by
 refine zf (cF Tryz.func237 Tryz.f237.eq_1) (by simp) fun hw X hX=>?_
 repeat' first|refine gC (fun hc=>?_) (fun hc=>?_)<;>try contradiction|refine za (zbG _) ?_|refine za (pure1300 _ _) ?_|refine gG ?_|show AK _;intro K H|refine H _ _ ?_;clear H K|refine gJ ?_;try exact trivial|omega
 simp only [zaH,Bool.not_eq_true'];exact .refl _
theorem pure1102 (n:Int):Pure Tryz.prog 92 [.i .i64 n] (.i .i64 (rng n 0 99999)):=by
 refine zf (cF Tryz.func92 Tryz.f92.eq_1) (by simp) fun hw X hX=>?_
 repeat' first|refine gC (fun hc=>?_) (fun hc=>?_)<;>try contradiction|refine za (pure1183 _ _ _) ?_|refine gG ?_|show AK _;intro K H|refine H _ _ ?_;clear H K|refine gJ ?_;try exact trivial|omega
 exact .refl _
theorem pure1299 (s:ByteArray):Pure Tryz.prog 238 [.s s] (.i .i64 (optE s)):=by
 refine zf (cF Tryz.func238 Tryz.f238.eq_1) (by simp) fun hw X hX=>?_
 repeat' first|refine gC (fun hc=>?_) (fun hc=>?_)<;>try contradiction|refine zN (fun _=>zbG _) ?_|refine za (pure1300 _ _) ?_|refine gG ?_|show AK _;intro K H|refine H _ _ ?_;clear H K|refine gJ ?_;try exact trivial|omega
 simp only [optE,Bool.and_eq_true,Bool.not_eq_true',decide_eq_false_iff_not,decide_eq_true_eq];exact .refl _
theorem pure1301 (s:ByteArray):Pure Tryz.prog 240 [.s s] (.b (decide (s=sA) || decide (s=sD))):=by
 refine zf (cF Tryz.func240 Tryz.f240.eq_1) (by simp) fun hw X hX=>?_
 repeat' first|refine gC (fun hc=>?_) (fun hc=>?_)<;>try contradiction|refine gG ?_|show AK _;intro K H|refine H _ _ ?_;clear H K|refine gJ ?_;try exact trivial|omega
 exact .refl _
theorem flight_not (s:ByteArray):(if (decide (s=sA) || decide (s=sD))=false then (13:Int) else 0)=flightE s:=by
 simp only [flightE,Bool.or_eq_false_iff,decide_eq_false_iff_not]
theorem pure1248 (r:Req):Pure Tryz.prog 170 [r.pv] (.i .i64 (chkRq r)):=by
 refine zf (cF Tryz.func170 Tryz.f170.eq_1) (by simp) fun hw X hX=>?_
 have qe:=@qR;repeat' first|refine gC (fun hc=>?_) (fun hc=>?_)<;>try contradiction|refine za (pure1298 _) ?_|refine za (pure1299 _) ?_|refine za (pure1301 _) ?_|refine za (pure1300 _ _) ?_|refine za (pure124 r.per) ?_|refine za (pure1302 _ _ _) ?_|refine za (pure1297 [_,_,_,_,_,_,_,_,_,_,_,_]) ?_|refine gG ?_|show AK _;intro K H|refine H _ _ ?_;clear H K|refine gJ ?_;try exact trivial|omega
 rw [flight_not];exact .refl _
theorem pure1207 (p:Per):Pure Tryz.prog 171 [p.pv] (.tup [.i .i64 (daysR p).length,.i .i64 (zau p)]):=by
 refine zf (cF Tryz.func171 Tryz.f171.eq_1) (by simp) fun hw X hX=>?_
 have qe:=@List.length_map.{0,0};repeat' first|refine gC (fun hc=>?_) (fun hc=>?_)<;>try contradiction|refine za (pure126 p) ?_|refine gG ?_|show AK _;intro K H|refine H _ _ ?_;clear H K|refine gJ ?_;try exact trivial|omega
 exact .refl _
theorem pure1194 (r:Req):Pure Tryz.prog 101 [r.pv] (.i .i64 (chkQ r)):=by
 refine zf (cF Tryz.func101 Tryz.f101.eq_1) (by simp) fun hw X hX=>?_
 have qe:=@qR;repeat' first|refine gC (fun hc=>?_) (fun hc=>?_)<;>try contradiction|refine za (pure1248 r) ?_|refine za (pure1207 r.per) ?_|refine za (zW _ _) ?_|refine za (zz [_,_]) ?_|refine gG ?_|show AK _;intro K H|refine H _ _ ?_;clear H K|refine gJ ?_;try exact trivial|omega
 ·rw [show chkQ r=chkRq r by rw [chkQ,zg,if_neg hc]];exact .refl _
 ·have hp:zau r.per=0:=by
   exact fE0 (show zg [zaH r.name,zaH r.carrier,zaH r.partner,optE r.term,optE r.link,flightE r.kind,if r.link=r.name then 32 else 0,zau r.per,rng r.minute 0 1439,rng r.seats 0 999,rng r.size 1 9,rng r.noise 0 99]=0 from hc) _ (by simp)
  have e:((daysR r.per).length:Int)=0↔zY r.per=[]:=by rw [daysR,if_pos hp];simp
  rw [show chkQ r=zg [zau r.per,if ((daysR r.per).length:Int)=0 then 12 else 0] by
   rw [chkQ,hc,hp];simp only [zg,if_true,e]]
  exact .refl _
theorem pure1173 (l:Lea):Pure Tryz.prog 104 [l.pv] (.i .i64 (chkLea l)):=by
 refine zf (cF Tryz.func104 Tryz.f104.eq_1) (by simp) fun hw X hX=>?_
 have qe:=@qR;repeat' first|refine gC (fun hc=>?_) (fun hc=>?_)<;>try contradiction|refine za (zby _) ?_|refine za (pure1102 _) ?_|refine za (zW _ _) ?_|refine za (zz [_,_,_,_]) ?_|refine gG ?_|show AK _;intro K H|refine H _ _ ?_;clear H K|refine gJ ?_;try exact trivial|omega
 exact .refl _
theorem pure1177 (l:Lea) (s:SlR):Pure Tryz.prog 105 [l.pv,s.pv] (.i .i64 (leaOf s l)):=by
 refine zf (cF Tryz.func105 Tryz.f105.eq_1) (by simp) fun hw X hX=>?_
 have qe:=@qR;repeat' first|refine gC (fun hc=>?_) (fun hc=>?_)<;>try contradiction|refine za (zW _ _) ?_|refine za (zz [_,_]) ?_|refine gG ?_|show AK _;intro K H|refine H _ _ ?_;clear H K|refine gJ ?_;try exact trivial|omega
 simp only [Bool.or_eq_true,decide_eq_true_eq];exact .refl _
theorem pure1190 (l:Lea) (d:Int):Pure Tryz.prog 168 [l.pv,.i .i64 d] (.b (decide (l.fro≤d) && decide (d≤l.to))):=by
 refine zf (cF Tryz.func168 Tryz.f168.eq_1) (by simp) fun hw X hX=>?_
 repeat' first|refine gC (fun hc=>?_) (fun hc=>?_)<;>try contradiction|refine gG ?_|show AK _;intro K H|refine H _ _ ?_;clear H K|refine gJ ?_;try exact trivial|omega
 exact .refl _
end Go.Proofs.YtahmdjadnlpjoaaGreat
