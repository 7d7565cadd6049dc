/- Contracts of functions, for the claim. No conditions. -/
import Derived.Test.YtijgimeokgbifaaGreatK5
import Derived.Test.YtijgimeokgbifaaGreatK4
set_option linter.all false
set_option maxHeartbeats 8000000
set_option maxRecDepth 100000
namespace Go.Proofs.YtijgimeokgbifaaGreat
open Go.RowKit
structure Lea where
 carrier:ByteArray
 fro:Int
 to:Int
abbrev Lea.pv (l:Lea):PV:=.agg [.s l.carrier,.i .i64 l.fro,.i .i64 l.to]
structure SlR where
 req:Req
 holder:ByteArray
 ls:PV
 sh:PV
abbrev SlR.cells (s:SlR):List PV:=[.s s.req.name,.s s.req.carrier,.s s.req.kind,.s s.req.term,.s s.req.partner,.s s.req.link,.i .i64 s.req.per.fro,.i .i64 s.req.per.to,.i .i64 s.req.per.days,.i .i64 s.req.minute,.i .i64 s.req.seats,.i .i64 s.req.size,.i .i64 s.req.noise,.s s.holder,s.ls,s.sh]
abbrev SlR.pv (s:SlR):PV:=.agg s.cells
structure Slt where
 req:Req
 holder:ByteArray
 ls:List Lea
 sh:List ByteArray
abbrev Slt.raw (s:Slt):SlR:=⟨s.req,s.holder,.sl 3 (s.ls.map Lea.pv),.sl 1 (s.sh.map .s)⟩
abbrev Slt.cells (s:Slt):List PV:=[.s s.req.name,.s s.req.carrier,.s s.req.kind,.s s.req.term,.s s.req.partner,.s s.req.link,.i .i64 s.req.per.fro,.i .i64 s.req.per.to,.i .i64 s.req.per.days,.i .i64 s.req.minute,.i .i64 s.req.seats,.i .i64 s.req.size,.i .i64 s.req.noise,.s s.holder,.sl 3 (s.ls.map Lea.pv),.sl 1 (s.sh.map .s)]
abbrev Slt.pv (s:Slt):PV:=.agg s.cells
structure Wsh where
 req:Req
 rank:Int
abbrev Wsh.cells (w:Wsh):List PV:=[.s w.req.name,.s w.req.carrier,.s w.req.kind,.s w.req.term,.s w.req.partner,.s w.req.link,.i .i64 w.req.per.fro,.i .i64 w.req.per.to,.i .i64 w.req.per.days,.i .i64 w.req.minute,.i .i64 w.req.seats,.i .i64 w.req.size,.i .i64 w.req.noise,.i .i64 w.rank]
abbrev Wsh.pv (w:Wsh):PV:=.agg w.cells
structure Bk where
 slots:List Slt
 wait:List Wsh
abbrev Bk.pv (b:Bk):PV:=.agg [.sl 16 (b.slots.map Slt.pv),.sl 14 (b.wait.map Wsh.pv)]
def zvC (r:Req):Int:=zg [zaH r.name,zaH r.carrier,zaH r.partner,zmC r.term,zmC r.link,zcE r.kind,if r.link=r.name then 32 else 0,zau r.per,rng r.minute 0 1439,rng r.seats 0 999,rng r.size 1 9,rng r.noise 0 99]
def zsa (r:Req):Int:=zg [zvC r,if zW r.per=[] then 12 else 0]
def zdD (l:Lea):Int:=zg [zaH l.carrier,rng l.fro 0 99999,rng l.to 0 99999,if l.to < l.fro then 11 else 0]
def zfI (s:SlR) (l:Lea):Int:=zg [if l.fro < s.req.per.fro\/s.req.per.to < l.to then 30 else 0,if l.carrier=s.holder then 31 else 0]
def zcZ (s:Slt) (i:Nat) (l:Lea):Int:=zg [zdD l,zfI s.raw l,if 0 < (i:Int)/\l.fro<=((s.ls[i - 1]?).getD l).to then 15 else 0]
def zhA (s:Slt) (i:Nat) (c:ByteArray):Int:=zg [zaH c,if c=s.holder then 31 else 0,if 0<=atL c (s.sh.take i) then 9 else 0]
def zil (s:Slt):Int:=zg [zsa s.req,zaH s.holder,if 8 < (s.ls.length:Int) then 5 else 0,zg (s.ls.mapIdx (zcZ s)),if 4 < (s.sh.length:Int) then 5 else 0,zg (s.sh.mapIdx (zhA s))]
def zkX (w:Wsh):Int:=zg [zsa w.req,rng w.rank 0 999999999]
def zeJ (b:Bk) (i:Nat) (s:Slt):Int:=zg [zil s,if 0<=atL s.req.name ((b.slots.take i).map (·.req.name)) then 9 else 0]
theorem fE0:∀ {l:List Int},zg l=0->∀ x ∈ l,x=0
 | [],_,x,hx=>by cases hx
 | e::r,h,x,hx=>by
  by_cases he:e=0
  ·rw [zg,if_pos he] at h
   rcases List.mem_cons.1 hx with rfl|hx
   ·exact he
   ·exact fE0 h x hx
  ·rw [zg,if_neg he] at h;exact absurd h he
theorem zU (b:Bool) (e:Int):Pure Tryz.prog 66 [.b b,.i .i64 e] (.i .i64 (if b then e else 0)):=by
 refine zf (cF Tryz.func66 Tryz.f66.eq_1) (by simp) λhw X hX=>?_
 repeat' first|refine gC ?_ ?_<;>intro hc<;>try contradiction|refine gG ?_|show AK _;intro K H|refine H _ _ ?_;clear H K|refine gJ ?_;try exact trivial|omega
 all_goals (subst hc;exact .refl _)
theorem zeo (b:Bool) (e:Int):Pure Tryz.prog 236 [.b b,.i .i64 e] (.i .i64 (if b then e else 0)):=by
 refine zf (cF Tryz.func236 Tryz.f236.eq_1) (by simp) λhw X hX=>?_
 repeat' first|refine gC ?_ ?_<;>intro hc<;>try contradiction|refine gG ?_|show AK _;intro K H|refine H _ _ ?_;clear H K|refine gJ ?_;try exact trivial|omega
 all_goals (subst hc;exact .refl _)
theorem zki (n a b:Int):Pure Tryz.prog 95 [.i .i64 n,.i .i64 a,.i .i64 b] (.i .i64 (rng n a b)):=by
 refine zf (cF Tryz.func95 Tryz.f95.eq_1) (by simp) λhw X hX=>?_
 repeat' first|refine gC ?_ ?_<;>intro hc<;>try contradiction|refine za (zU _ _) ?_|refine gG ?_|show AK _;intro K H|refine H _ _ ?_;clear H K|refine gJ ?_;try exact trivial|omega
 simp only [rng,Bool.or_eq_true,decide_eq_true_eq];exact .refl _
theorem zqu (n a b:Int):Pure Tryz.prog 238 [.i .i64 n,.i .i64 a,.i .i64 b] (.i .i64 (rng n a b)):=by
 refine zf (cF Tryz.func238 Tryz.f238.eq_1) (by simp) λhw X hX=>?_
 repeat' first|refine gC ?_ ?_<;>intro hc<;>try contradiction|refine za (zeo _ _) ?_|refine gG ?_|show AK _;intro K H|refine H _ _ ?_;clear H K|refine gJ ?_;try exact trivial|omega
 simp only [rng,Bool.or_eq_true,decide_eq_true_eq];exact .refl _
theorem zw (l:List Int):Pure Tryz.prog 39 [.sl 1 (l.map (.i .i64))] (.i .i64 (zg l)):=by
 refine zf (cF Tryz.func39 Tryz.f39.eq_1) (by simp) λhw X hX=>?_
 simp only [wfs,PV.wf,List.length_map,maxLen] at hw
 repeat' first|refine gC ?_ ?_<;>intro hc<;>try contradiction|refine gG ?_|show AK _;intro K H|refine H _ _ ?_;clear H K|refine gJ ?_;try exact trivial|omega
 refine zj (κ:=Nat) (λi=>⟨[(5,.p (.sl 1 (l.map (.i .i64)))),(6,.p (.i .i64 l.length)),(7,.p (.i .i64 i))],[],[],false⟩) (λi=>i<=l.length/\∀ x ∈ l.take i,x=0) (λi=>l.length - i) 0 ?_ ?_ ?_
 ·exact sR
 ·simp
 ·intro i hi
  repeat first|refine gG ?_|show AK _;intro K H|refine H _ _ ?_;clear H K|refine gJ ?_;try exact trivial|omega
  (refine gC ?_ ?_<;>intro hc<;>try contradiction)
  ·obtain ⟨x,hx⟩:=zm (i:=i) (l:=l) (by omega)
   have qe:=@hx;repeat' first|refine gC ?_ ?_<;>intro hc<;>try contradiction|refine gG ?_|show AK _;intro K H|refine H _ _ ?_;clear H K|refine gJ ?_;try exact trivial|omega
   ·rw [zT hi.2 hx hc];exact .refl _
   ·exact ⟨i+1,⟨by omega,zaC hi.2 hx hc⟩,by omega,by simp⟩
  ·repeat' first|refine gC ?_ ?_<;>intro hc<;>try contradiction|refine gG ?_|show AK _;intro K H|refine H _ _ ?_;clear H K|refine gJ ?_;try exact trivial|omega
   have e:i=l.length:=by omega
   subst e
   rw [z4 hi.2];exact .refl _
theorem zqy (l:List Int):Pure Tryz.prog 233 [.sl 1 (l.map (.i .i64))] (.i .i64 (zg l)):=by
 refine zf (cF Tryz.func233 Tryz.f233.eq_1) (by simp) λhw X hX=>?_
 simp only [wfs,PV.wf,List.length_map,maxLen] at hw
 repeat' first|refine gC ?_ ?_<;>intro hc<;>try contradiction|refine gG ?_|show AK _;intro K H|refine H _ _ ?_;clear H K|refine gJ ?_;try exact trivial|omega
 refine zj (κ:=Nat) (λi=>⟨[(5,.p (.sl 1 (l.map (.i .i64)))),(6,.p (.i .i64 l.length)),(7,.p (.i .i64 i))],[],[],false⟩) (λi=>i<=l.length/\∀ x ∈ l.take i,x=0) (λi=>l.length - i) 0 ?_ ?_ ?_
 ·exact sR
 ·simp
 ·intro i hi
  repeat first|refine gG ?_|show AK _;intro K H|refine H _ _ ?_;clear H K|refine gJ ?_;try exact trivial|omega
  (refine gC ?_ ?_<;>intro hc<;>try contradiction)
  ·obtain ⟨x,hx⟩:=zm (i:=i) (l:=l) (by omega)
   have qe:=@hx;repeat' first|refine gC ?_ ?_<;>intro hc<;>try contradiction|refine gG ?_|show AK _;intro K H|refine H _ _ ?_;clear H K|refine gJ ?_;try exact trivial|omega
   ·rw [zT hi.2 hx hc];exact .refl _
   ·exact ⟨i+1,⟨by omega,zaC hi.2 hx hc⟩,by omega,by simp⟩
  ·repeat' first|refine gC ?_ ?_<;>intro hc<;>try contradiction|refine gG ?_|show AK _;intro K H|refine H _ _ ?_;clear H K|refine gJ ?_;try exact trivial|omega
   have e:i=l.length:=by omega
   subst e
   rw [z4 hi.2];exact .refl _
theorem zbx (s:ByteArray):Pure Tryz.prog 158 [.s s] (.i .i64 (zaH s)):=by
 refine zf (cF Tryz.func158 Tryz.f158.eq_1) (by simp) λhw X hX=>?_
 repeat' first|refine gC ?_ ?_<;>intro hc<;>try contradiction|refine za (zbF _) ?_|refine za (zU _ _) ?_|refine gG ?_|show AK _;intro K H|refine H _ _ ?_;clear H K|refine gJ ?_;try exact trivial|omega
 simp only [zaH,Bool.not_eq_true'];exact .refl _
theorem zqx (s:ByteArray):Pure Tryz.prog 234 [.s s] (.i .i64 (zaH s)):=by
 refine zf (cF Tryz.func234 Tryz.f234.eq_1) (by simp) λhw X hX=>?_
 repeat' first|refine gC ?_ ?_<;>intro hc<;>try contradiction|refine za (zbF _) ?_|refine za (zeo _ _) ?_|refine gG ?_|show AK _;intro K H|refine H _ _ ?_;clear H K|refine gJ ?_;try exact trivial|omega
 simp only [zaH,Bool.not_eq_true'];exact .refl _
theorem zb2 (n:Int):Pure Tryz.prog 83 [.i .i64 n] (.i .i64 (rng n 0 99999)):=by
 refine zf (cF Tryz.func83 Tryz.f83.eq_1) (by simp) λhw X hX=>?_
 repeat' first|refine gC ?_ ?_<;>intro hc<;>try contradiction|refine za (zki _ _ _) ?_|refine gG ?_|show AK _;intro K H|refine H _ _ ?_;clear H K|refine gJ ?_;try exact trivial|omega
 exact .refl _
theorem zqw (s:ByteArray):Pure Tryz.prog 235 [.s s] (.i .i64 (zmC s)):=by
 refine zf (cF Tryz.func235 Tryz.f235.eq_1) (by simp) λhw X hX=>?_
 repeat' first|refine gC ?_ ?_<;>intro hc<;>try contradiction|refine zM (λ_=>zbF _) ?_|refine za (zeo _ _) ?_|refine gG ?_|show AK _;intro K H|refine H _ _ ?_;clear H K|refine gJ ?_;try exact trivial|omega
 simp only [zmC,Bool.and_eq_true,Bool.not_eq_true',decide_eq_false_iff_not,decide_eq_true_eq];exact .refl _
theorem zqv (s:ByteArray):Pure Tryz.prog 237 [.s s] (.b (decide (s=sA) || decide (s=sD))):=by
 refine zf (cF Tryz.func237 Tryz.f237.eq_1) (by simp) λhw X hX=>?_
 repeat' first|refine gC ?_ ?_<;>intro hc<;>try contradiction|refine gG ?_|show AK _;intro K H|refine H _ _ ?_;clear H K|refine gJ ?_;try exact trivial|omega
 exact .refl _
theorem zl7 (s:ByteArray):(if (decide (s=sA) || decide (s=sD))=false then (13:Int) else 0)=zcE s:=by
 simp only [zcE,Bool.or_eq_false_iff,decide_eq_false_iff_not]
theorem zqI (r:Req):Pure Tryz.prog 184 [r.pv] (.i .i64 (zvC r)):=by
 refine zf (cF Tryz.func184 Tryz.f184.eq_1) (by simp) λhw X hX=>?_
 have qe:=@qR;repeat' first|refine gC ?_ ?_<;>intro hc<;>try contradiction|refine za (zqx _) ?_|refine za (zqw _) ?_|refine za (zqv _) ?_|refine za (zeo _ _) ?_|refine za (zcu r.per) ?_|refine za (zqu _ _ _) ?_|refine za (zqy [_,_,_,_,_,_,_,_,_,_,_,_]) ?_|refine gG ?_|show AK _;intro K H|refine H _ _ ?_;clear H K|refine gJ ?_;try exact trivial|omega
 rw [zl7];exact .refl _
theorem zep (p:Per):Pure Tryz.prog 132 [p.pv] (.tup [.i .i64 (zdg p).length,.i .i64 (zau p)]):=by
 refine zf (cF Tryz.func132 Tryz.f132.eq_1) (by simp) λhw X hX=>?_
 have qe:=@List.length_map.{0,0};repeat' first|refine gC ?_ ?_<;>intro hc<;>try contradiction|refine za (zi6 p) ?_|refine gG ?_|show AK _;intro K H|refine H _ _ ?_;clear H K|refine gJ ?_;try exact trivial|omega
 exact .refl _
theorem zgG (r:Req):Pure Tryz.prog 114 [r.pv] (.i .i64 (zsa r)):=by
 refine zf (cF Tryz.func114 Tryz.f114.eq_1) (by simp) λhw X hX=>?_
 have qe:=@qR;repeat' first|refine gC ?_ ?_<;>intro hc<;>try contradiction|refine za (zqI r) ?_|refine za (zep r.per) ?_|refine za (zU _ _) ?_|refine za (zw [_,_]) ?_|refine gG ?_|show AK _;intro K H|refine H _ _ ?_;clear H K|refine gJ ?_;try exact trivial|omega
 ·rw [show zsa r=zvC r by rw [zsa,zg,if_neg hc]];exact .refl _
 ·have hp:zau r.per=0:=by
   exact fE0 (show zg [zaH r.name,zaH r.carrier,zaH r.partner,zmC r.term,zmC r.link,zcE r.kind,if r.link=r.name then 32 else 0,zau r.per,rng r.minute 0 1439,rng r.seats 0 999,rng r.size 1 9,rng r.noise 0 99]=0 from hc) _ (by simp)
  have e:((zdg r.per).length:Int)=0↔zW r.per=[]:=by rw [zdg,if_pos hp];simp
  rw [show zsa r=zg [zau r.per,if ((zdg r.per).length:Int)=0 then 12 else 0] by
   rw [zsa,hc,hp];simp only [zg,if_true,e]]
  exact .refl _
theorem zkk (l:Lea):Pure Tryz.prog 137 [l.pv] (.i .i64 (zdD l)):=by
 refine zf (cF Tryz.func137 Tryz.f137.eq_1) (by simp) λhw X hX=>?_
 have qe:=@qR;repeat' first|refine gC ?_ ?_<;>intro hc<;>try contradiction|refine za (zbx _) ?_|refine za (zb2 _) ?_|refine za (zU _ _) ?_|refine za (zw [_,_,_,_]) ?_|refine gG ?_|show AK _;intro K H|refine H _ _ ?_;clear H K|refine gJ ?_;try exact trivial|omega
 exact .refl _
theorem zgI (l:Lea) (s:SlR):Pure Tryz.prog 141 [l.pv,s.pv] (.i .i64 (zfI s l)):=by
 refine zf (cF Tryz.func141 Tryz.f141.eq_1) (by simp) λhw X hX=>?_
 have qe:=@qR;repeat' first|refine gC ?_ ?_<;>intro hc<;>try contradiction|refine za (zU _ _) ?_|refine za (zw [_,_]) ?_|refine gG ?_|show AK _;intro K H|refine H _ _ ?_;clear H K|refine gJ ?_;try exact trivial|omega
 simp only [Bool.or_eq_true,decide_eq_true_eq];exact .refl _
theorem zqO (l:Lea) (d:Int):Pure Tryz.prog 149 [l.pv,.i .i64 d] (.b (decide (l.fro<=d) && decide (d<=l.to))):=by
 refine zf (cF Tryz.func149 Tryz.f149.eq_1) (by simp) λhw X hX=>?_
 repeat' first|refine gC ?_ ?_<;>intro hc<;>try contradiction|refine gG ?_|show AK _;intro K H|refine H _ _ ?_;clear H K|refine gJ ?_;try exact trivial|omega
 exact .refl _
end Go.Proofs.YtijgimeokgbifaaGreat
