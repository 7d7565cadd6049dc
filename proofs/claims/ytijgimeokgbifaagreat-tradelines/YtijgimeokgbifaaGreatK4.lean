/- Contracts of functions, for the claim. No conditions. -/
import Derived.Laws.RangeAny
import Derived.Test.YtijgimeokgbifaaGreatK3
set_option linter.all false
set_option maxHeartbeats 8000000
set_option maxRecDepth 100000
namespace Go.Proofs.YtijgimeokgbifaaGreat
open Go.RowKit
abbrev zmF (s:ByteArray) (i:Nat):Int:=((s[i]?.getD 0).toNat:Int)
def zuG (c:Int):Bool:=decide (65<=c) && decide (c<=90) || decide (97<=c) && decide (c<=122)
def zfZ (i:Nat) (c:Int):Bool:=zuG c || !(decide (i=0)) && (decide (c=95) || decide (48<=c) && decide (c<=57))
def zcC (s:ByteArray):Bool:=!(decide (s.size=0) || decide (24 < s.size)) && (List.range s.size).all λi=>zfZ i (zmF s i)
theorem zjr {s:ByteArray} (h:(s.size:Int)=0\/24 < (s.size:Int)):zcC s=false:=by
 have:(decide (s.size=0) || decide (24 < s.size))=true:=by simp only [Bool.or_eq_true,decide_eq_true_eq];omega
 simp only [zcC,this,Bool.not_true,Bool.false_and]
theorem zlV {s:ByteArray} {i:Nat} (h:¬(s.size:Int)=0/\(s.size:Int)<=24) (hi:i<=s.size/\∀ j < i,zfZ j (zmF s j)=true) (he:¬i < s.size):zcC s=true:=by
 have:(decide (s.size=0) || decide (24 < s.size))=false:=by simp only [Bool.or_eq_false_iff,decide_eq_false_iff_not];omega
 simp only [zcC,this,Bool.not_false,Bool.true_and,List.all_eq_true,List.mem_range]
 exact λj hj=>hi.2 j (by omega)
theorem zok {s:ByteArray} {i:Nat} (hi:i < s.size) (hn:zfZ i (zmF s i)=false):zcC s=false:=by
 cases h:zcC s
 ·rfl
 ·simp only [zcC,Bool.and_eq_true,List.all_eq_true,List.mem_range] at h
  rw [h.2 i hi] at hn;exact hn
theorem zid (s:ByteArray) (i:Nat) (h:i < s.size):((Utf8.decode s i).1:Int)=zmF s i/\zmF s i < 128/\(Utf8.decode s i).2=1\/128<=((Utf8.decode s i).1:Int)/\128<=zmF s i/\1<=(Utf8.decode s i).2:=by
 have e:zmF s i=((s[i]'h).toNat:Int):=by simp only [zmF,getElem?_pos s i h,Option.getD_some]
 by_cases ha:(s[i]'h).toNat < 128
 ·have:=decode_ascii s i h ha
  left;rw [this,e];simp;omega
 ·have:=decode_high s i h (by omega)
  right;rw [e];omega
theorem zbF (x:ByteArray):Pure Tryz.prog 153 [.s x] (.b (zcC x)):=by
 refine zf (cF Tryz.func153 Tryz.f153.eq_1) (by simp) λhw X hX=>?_
 simp only [wfs,PV.wf,maxLen] at hw
 repeat' first|refine gC ?_ ?_<;>intro hc<;>try contradiction|refine gG ?_|show AK _;intro K H|refine H _ _ ?_;clear H K|refine gJ ?_;try exact trivial|omega
 ·rw [zjr hc];exact .refl _
 refine zj (κ:=Nat) (λi=>⟨[(0,.p (.s x)),(15,.it 15)],[(15,.sit x i)],[],false⟩) (λi=>i<=x.size/\∀ j < i,zfZ j (zmF x j)=true) (λi=>x.size - i) 0 ?_ ?_ ?_
 ·exact sR
 ·simp
 ·intro i hi
  by_cases hlt:i < x.size
  ·have qe:=aI @nextV.eq_1 (aI @nextP.eq_1 (aI @hlt @maxLen.eq_1));repeat' first|refine gC ?_ ?_<;>intro hc<;>try contradiction|refine gG ?_|show AK _;intro K H|refine H _ _ ?_;clear H K|refine gJ ?_;try exact trivial|omega
   ·rw [zok hlt];exact .refl _
    have:=zid x i hlt
    simp only [zfZ,zuG,zmF] at this ⊢;simp;omega
   ·have hd:=zid x i hlt
    have h1:zmF x i < 128/\(Utf8.decode x i).2=1:=by omega
    refine ⟨i+1,⟨by omega,λj hj=>?_⟩,by omega,by rw [h1.2]⟩
    by_cases e:j=i
    ·subst e;simp only [zfZ,zuG,zmF] at hd h1 ⊢;simp;omega
    ·exact hi.2 j (by omega)
  ·have qe:=aI @nextV.eq_1 (aI @nextP.eq_1 (aI @hlt @maxLen.eq_1));repeat' first|refine gC ?_ ?_<;>intro hc<;>try contradiction|refine gG ?_|show AK _;intro K H|refine H _ _ ?_;clear H K|refine gJ ?_;try exact trivial|omega
   rw [zlV ‹_› hi (by omega)];exact .refl _
abbrev s0:ByteArray:=bs []
abbrev sA:ByteArray:=bs [65]
abbrev sD:ByteArray:=bs [68]
abbrev sT:ByteArray:=bs [84]
structure Lim where
 name:ByteArray
 kind:ByteArray
 term:ByteArray
 len:Int
 step:Int
 fro:Int
 to:Int
 per:Per
 most:Int
abbrev Lim.cells (l:Lim):List PV:=[.s l.name,.s l.kind,.s l.term,.i .i64 l.len,.i .i64 l.step,.i .i64 l.fro,.i .i64 l.to,.i .i64 l.per.fro,.i .i64 l.per.to,.i .i64 l.per.days,.i .i64 l.most]
abbrev Lim.pv (l:Lim):PV:=.agg l.cells
structure Mov where
 moment:Int
 kind:ByteArray
 term:ByteArray
 seats:Int
 size:Int
 noise:Int
 name:ByteArray
abbrev Mov.pv (m:Mov):PV:=.agg [.i .i64 m.moment,.s m.kind,.s m.term,.i .i64 m.seats,.i .i64 m.size,.i .i64 m.noise,.s m.name]
structure Req where
 name:ByteArray
 carrier:ByteArray
 kind:ByteArray
 term:ByteArray
 partner:ByteArray
 link:ByteArray
 per:Per
 minute:Int
 seats:Int
 size:Int
 noise:Int
abbrev Req.pv (r:Req):PV:=.agg [.s r.name,.s r.carrier,.s r.kind,.s r.term,.s r.partner,.s r.link,.i .i64 r.per.fro,.i .i64 r.per.to,.i .i64 r.per.days,.i .i64 r.minute,.i .i64 r.seats,.i .i64 r.size,.i .i64 r.noise]
structure Win where
 lim:Int
 beg:Int
 cnt:Int
abbrev Win.pv (w:Win):PV:=.agg [.i .i64 w.lim,.i .i64 w.beg,.i .i64 w.cnt]
def zcE (k:ByteArray):Int:=if ¬k=sA/\¬k=sD then 13 else 0
def zmC (s:ByteArray):Int:=if ¬s=s0/\zcC s=false then 8 else 0
def zaH (s:ByteArray):Int:=if zcC s=false then 8 else 0
def zuC (a b c:Int):Int:=zg [rng a 0 999,rng b 0 9,rng c 0 99]
def zed (m:Mov):Int:=zg [rng m.moment 0 143999999,zcE m.kind,zmC m.term,zuC m.seats m.size m.noise,zaH m.name]
def zdC (r:Req):Int:=zg [zaH r.name,zcE r.kind,zmC r.term,zau r.per,rng r.minute 0 1439,zuC r.seats r.size r.noise]
def zjk (k:ByteArray):Int:=if ¬k=sA/\¬k=sD/\¬k=sT then 13 else 0
def zaS (l:Lim):Int:=zg [zaH l.name,zjk l.kind,zmC l.term,rng l.len 1 1440,rng l.step 1 1440,rng l.fro 0 1439,rng l.to 0 1439,if l.to < l.fro then 11 else 0,zau l.per,rng l.most 0 999999999]
theorem zbP (b:Bool) (e:Int):Pure Tryz.prog 89 [.b b,.i .i64 e] (.i .i64 (if b then e else 0)):=by
 refine zf (cF Tryz.func89 Tryz.f89.eq_1) (by simp) λhw X hX=>?_
 repeat' first|refine gC ?_ ?_<;>intro hc<;>try contradiction|refine gG ?_|show AK _;intro K H|refine H _ _ ?_;clear H K|refine gJ ?_;try exact trivial|omega
 all_goals (subst hc;exact .refl _)
theorem zeQ (n a b:Int):Pure Tryz.prog 155 [.i .i64 n,.i .i64 a,.i .i64 b] (.i .i64 (rng n a b)):=by
 refine zf (cF Tryz.func155 Tryz.f155.eq_1) (by simp) λhw X hX=>?_
 repeat' first|refine gC ?_ ?_<;>intro hc<;>try contradiction|refine za (zbP _ _) ?_|refine gG ?_|show AK _;intro K H|refine H _ _ ?_;clear H K|refine gJ ?_;try exact trivial|omega
 simp only [rng,Bool.or_eq_true,decide_eq_true_eq];exact .refl _
theorem zbw (l:List Int):Pure Tryz.prog 87 [.sl 1 (l.map (.i .i64))] (.i .i64 (zg l)):=by
 refine zf (cF Tryz.func87 Tryz.f87.eq_1) (by simp) λhw X hX=>?_
 simp only [wfs,PV.wf,List.length_map,maxLen] at hw
 repeat' first|refine gC ?_ ?_<;>intro hc<;>try contradiction|refine gG ?_|show AK _;intro K H|refine H _ _ ?_;clear H K|refine gJ ?_;try exact trivial|omega
 refine zj (κ:=Nat) (λi=>⟨[(5,.p (.sl 1 (l.map (.i .i64)))),(6,.p (.i .i64 l.length)),(7,.p (.i .i64 i))],[],[],false⟩) (λi=>i<=l.length/\∀ x ∈ l.take i,x=0) (λi=>l.length - i) 0 ?_ ?_ ?_
 ·exact sR
 ·simp
 ·intro i hi
  repeat first|refine gG ?_|show AK _;intro K H|refine H _ _ ?_;clear H K|refine gJ ?_;try exact trivial|omega
  (refine gC ?_ ?_<;>intro hc<;>try contradiction)
  ·obtain ⟨x,hx⟩:=zm (i:=i) (l:=l) (by omega)
   have qe:=@hx;repeat' first|refine gC ?_ ?_<;>intro hc<;>try contradiction|refine gG ?_|show AK _;intro K H|refine H _ _ ?_;clear H K|refine gJ ?_;try exact trivial|omega
   ·rw [zT hi.2 hx hc];exact .refl _
   ·exact ⟨i+1,⟨by omega,zaC hi.2 hx hc⟩,by omega,by simp⟩
  ·repeat' first|refine gC ?_ ?_<;>intro hc<;>try contradiction|refine gG ?_|show AK _;intro K H|refine H _ _ ?_;clear H K|refine gJ ?_;try exact trivial|omega
   have e:i=l.length:=by omega
   subst e
   rw [z4 hi.2];exact .refl _
theorem znN (s:ByteArray):Pure Tryz.prog 199 [.s s] (.i .i64 (zcE s)):=by
 refine zf (cF Tryz.func199 Tryz.f199.eq_1) (by simp) λhw X hX=>?_
 repeat' first|refine gC ?_ ?_<;>intro hc<;>try contradiction|refine za (zbP _ _) ?_|refine gG ?_|show AK _;intro K H|refine H _ _ ?_;clear H K|refine gJ ?_;try exact trivial|omega
 simp only [zcE,Bool.and_eq_true,Bool.not_eq_true',decide_eq_false_iff_not,decide_eq_true_eq];exact .refl _
theorem zdT (s:ByteArray):Pure Tryz.prog 154 [.s s] (.i .i64 (zmC s)):=by
 refine zf (cF Tryz.func154 Tryz.f154.eq_1) (by simp) λhw X hX=>?_
 repeat' first|refine gC ?_ ?_<;>intro hc<;>try contradiction|refine zM (λ_=>zbF _) ?_|refine za (zbP _ _) ?_|refine gG ?_|show AK _;intro K H|refine H _ _ ?_;clear H K|refine gJ ?_;try exact trivial|omega
 simp only [zmC,Bool.and_eq_true,Bool.not_eq_true',decide_eq_false_iff_not,decide_eq_true_eq];exact .refl _
theorem znM (a b c:Int):Pure Tryz.prog 200 [.i .i64 a,.i .i64 b,.i .i64 c] (.i .i64 (zuC a b c)):=by
 refine zf (cF Tryz.func200 Tryz.f200.eq_1) (by simp) λhw X hX=>?_
 have qe:=@qR;repeat' first|refine gC ?_ ?_<;>intro hc<;>try contradiction|refine za (zeQ _ _ _) ?_|refine za (zbw [_,_,_]) ?_|refine gG ?_|show AK _;intro K H|refine H _ _ ?_;clear H K|refine gJ ?_;try exact trivial|omega
 exact .refl _
theorem zsI (m:Mov):Pure Tryz.prog 124 [m.pv] (.i .i64 (zed m)):=by
 refine zf (cF Tryz.func124 Tryz.f124.eq_1) (by simp) λhw X hX=>?_
 have qe:=@qR;repeat' first|refine gC ?_ ?_<;>intro hc<;>try contradiction|refine za (zeQ _ _ _) ?_|refine za (znN _) ?_|refine za (zdT _) ?_|refine za (znM _ _ _) ?_|refine za (zbF _) ?_|refine za (zbP _ _) ?_|refine za (zbw [_,_,_,_,_]) ?_|refine gG ?_|show AK _;intro K H|refine H _ _ ?_;clear H K|refine gJ ?_;try exact trivial|omega
 exact .refl _
theorem zsJ (r:Req):Pure Tryz.prog 121 [r.pv] (.i .i64 (zdC r)):=by
 refine zf (cF Tryz.func121 Tryz.f121.eq_1) (by simp) λhw X hX=>?_
 have qe:=@qR;repeat' first|refine gC ?_ ?_<;>intro hc<;>try contradiction|refine za (zeQ _ _ _) ?_|refine za (znN _) ?_|refine za (zdT _) ?_|refine za (zcu r.per) ?_|refine za (znM _ _ _) ?_|refine za (zbF _) ?_|refine za (zbP _ _) ?_|refine za (zbw [_,_,_,_,_,_]) ?_|refine gG ?_|show AK _;intro K H|refine H _ _ ?_;clear H K|refine gJ ?_;try exact trivial|omega
 exact .refl _
abbrev zot (s:ByteArray):PV:=.fn (.func 223) [] [.ip (.s s) 0]
theorem zua (s:ByteArray):Pure Tryz.prog 222 [.s s] (zot s):=by
 refine zf (cF Tryz.func222 Tryz.f222.eq_1) (by simp) λhw X hX=>?_
 repeat' first|refine gC ?_ ?_<;>intro hc<;>try contradiction|refine gG ?_|show AK _;intro K H|refine H _ _ ?_;clear H K|refine gJ ?_;try exact trivial|omega
 exact .refl _
theorem znI (m s:ByteArray):Pure Tryz.prog 223 [.s m,.ip (.s s) 0] (.b (decide (m=s))):=by
 refine zf (cF Tryz.func223 Tryz.f223.eq_1) (by simp) λhw X hX=>?_
 repeat' first|refine gC ?_ ?_<;>intro hc<;>try contradiction|refine gG ?_|show AK _;intro K H|refine H _ _ ?_;clear H K|refine gJ ?_;try exact trivial|omega
 exact .refl _
theorem zt9 (m:ByteArray):Pure Tryz.prog 224 [.s m] (.b true):=by
 refine zf (cF Tryz.func224 Tryz.f224.eq_1) (by simp) λhw X hX=>?_
 repeat' first|refine gC ?_ ?_<;>intro hc<;>try contradiction|refine gG ?_|show AK _;intro K H|refine H _ _ ?_;clear H K|refine gJ ?_;try exact trivial|omega
 exact .refl _
theorem sDA:(bs [68]=bs [65])=False:=by decide
theorem sTA:(bs [84]=bs [65])=False:=by decide
theorem sTD:(bs [84]=bs [68])=False:=by decide
abbrev zxk:PV:=.mp [(.s sA,.agg [zot sA]),(.s sD,.agg [zot sD]),(.s sT,.agg [.fn (.func 224) [] []])]
theorem zc7:Pure Tryz.prog 152 [] zxk:=by
 refine zf (cF Tryz.func152 Tryz.f152.eq_1) (by simp) λhw X hX=>?_
 have qe:=aI qR (aI @sDA (aI @sTA @sTD));repeat' first|refine gC ?_ ?_<;>intro hc<;>try contradiction|refine zq (zua _) ?_|refine gG ?_|show AK _;intro K H|refine H _ _ ?_;clear H K|refine gJ ?_;try exact trivial|omega
 exact .refl _
theorem zuh (l:Lim) (n:ByteArray):Pure Tryz.prog 157 [l.pv,.ip (.s n) 0] (.b (decide (l.name=n))):=by
 refine zf (cF Tryz.func157 Tryz.f157.eq_1) (by simp) λhw X hX=>?_
 repeat' first|refine gC ?_ ?_<;>intro hc<;>try contradiction|refine gG ?_|show AK _;intro K H|refine H _ _ ?_;clear H K|refine gJ ?_;try exact trivial|omega
 exact .refl _
def atL (n:ByteArray):List ByteArray->Int
 | []=>-1
 | x::r=>if x=n then 0 else if atL n r < 0 then -1 else atL n r+1
theorem zs8 (n:ByteArray):∀ l,-1<=atL n l
 | []=>by simp [atL]
 | x::r=>by have:=zs8 n r;simp only [atL];(repeat' split)<;>omega
theorem zjU {n:ByteArray}:∀ {l:List ByteArray} {i:Nat},(∀ x ∈ l.take i,x≠n)->l[i]?=some n->atL n l=i
 | [],i,_,h=>by simp at h
 | x::r,0,_,h=>by simp at h;simp [atL,h]
 | x::r,i+1,h,hx=>by
  have h0:x≠n:=h x (by simp)
  have:=zjU (l:=r) (i:=i) (λy hy=>h y (by simp [hy])) (by simpa using hx)
  simp only [atL,if_neg h0,this];rw [if_neg (by omega)];simp
theorem zjV {n:ByteArray}:∀ {l:List ByteArray},(∀ x ∈ l,x≠n)->atL n l=-1
 | [],_=>rfl
 | x::r,h=>by
  have h0:x≠n:=h x (by simp)
  have:=zjV (l:=r) λy hy=>h y (by simp [hy])
  simp only [atL,if_neg h0,this];rfl
theorem zui (l:List Lim) (n:ByteArray):Pure Tryz.prog 156 [.sl 11 (l.map Lim.pv),.fn (.func 157) [] [.ip (.s n) 0]] (.i .i64 (atL n (l.map Lim.name))):=by
 refine zf (cF Tryz.func156 Tryz.f156.eq_1) (by simp) λhw X hX=>?_
 simp only [wfs,PV.wf,List.length_map,maxLen] at hw
 repeat' first|refine gC ?_ ?_<;>intro hc<;>try contradiction|refine gG ?_|show AK _;intro K H|refine H _ _ ?_;clear H K|refine gJ ?_;try exact trivial|omega
 refine zj (κ:=Nat) (λi=>⟨[(0,.p (.sl 11 (l.map Lim.pv))),(1,.p (.fn (.func 157) [] [.ip (.s n) 0])),(7,.p (.i .i64 l.length)),(8,.p (.i .i64 i))],[],[],false⟩) (λi=>i<=l.length/\∀ x ∈ (l.map Lim.name).take i,x≠n) (λi=>l.length - i) 0 ?_ ?_ ?_
 ·exact sR
 ·simp
 ·intro i hi
  repeat first|refine gG ?_|show AK _;intro K H|refine H _ _ ?_;clear H K|refine gJ ?_;try exact trivial|omega
  (refine gC ?_ ?_<;>intro hc<;>try contradiction)
  ·obtain ⟨x,hx⟩:=zm (i:=i) (l:=l) (by omega)
   have qe:=@hx;repeat' first|refine gC ?_ ?_<;>intro hc<;>try contradiction|refine zq (zuh x n) ?_|refine gG ?_|show AK _;intro K H|refine H _ _ ?_;clear H K|refine gJ ?_;try exact trivial|omega
   ·rw [zjU hi.2 (by simp [hx,hc])];exact .refl _
   ·refine ⟨i+1,⟨by omega,λy hy=>?_⟩,by omega,by simp⟩
    rw [<-List.map_take,zdh _ hx] at hy
    rcases List.mem_append.1 hy with h|h
    ·exact hi.2 y (by rw [<-List.map_take];exact h)
    ·simp at h;subst h;exact hc
  ·repeat' first|refine gC ?_ ?_<;>intro hc<;>try contradiction|refine gG ?_|show AK _;intro K H|refine H _ _ ?_;clear H K|refine gJ ?_;try exact trivial|omega
   have e:i=l.length:=by omega
   subst e
   rw [zjV (λy hy=>hi.2 y (by rw [List.take_of_length_le (by simp)];exact hy))];exact .refl _
theorem zwT (l:List Lim) (n:ByteArray):Pure Tryz.prog 90 [.sl 11 (l.map Lim.pv),.s n] (.i .i64 (atL n (l.map Lim.name))):=by
 refine zf (cF Tryz.func90 Tryz.f90.eq_1) (by simp) λhw X hX=>?_
 repeat' first|refine gC ?_ ?_<;>intro hc<;>try contradiction|refine za (zui l n) ?_|refine gG ?_|show AK _;intro K H|refine H _ _ ?_;clear H K|refine gJ ?_;try exact trivial|omega
 exact .refl _
theorem zwU (l:Lim):Pure Tryz.prog 88 [l.pv] (.i .i64 (zaS l)):=by
 refine zf (cF Tryz.func88 Tryz.f88.eq_1) (by simp) λhw X hX=>?_
 have key:∀ k:Int,zjk l.kind=k->zg [if zcC l.name=false then 8 else 0,k,zmC l.term,rng l.len 1 1440,rng l.step 1 1440,rng l.fro 0 1439,rng l.to 0 1439,if l.to < l.fro then 11 else 0,zau l.per,rng l.most 0 999999999]=zaS l:=λk hk=>by subst hk;rfl
 by_cases hA:l.kind=sA
 ·have hA':=eq_true hA
  have qe:=aI qR @hA';repeat' first|refine gC ?_ ?_<;>intro hc<;>try contradiction|refine za (zc7) ?_|refine za (zeQ _ _ _) ?_|refine za (zdT _) ?_|refine za (zcu l.per) ?_|refine za (zbF _) ?_|refine za (zbP _ _) ?_|refine za (zbw [_,_,_,_,_,_,_,_,_,_]) ?_|refine gG ?_|show AK _;intro K H|refine H _ _ ?_;clear H K|refine gJ ?_;try exact trivial|omega
  rw [<-key 0 (by simp [zjk,hA])];exact .refl _
 have hA':=eq_false hA
 by_cases hD:l.kind=sD
 ·have hD':=eq_true hD
  have qe:=aI qR (aI @hA' @hD');repeat' first|refine gC ?_ ?_<;>intro hc<;>try contradiction|refine za (zc7) ?_|refine za (zeQ _ _ _) ?_|refine za (zdT _) ?_|refine za (zcu l.per) ?_|refine za (zbF _) ?_|refine za (zbP _ _) ?_|refine za (zbw [_,_,_,_,_,_,_,_,_,_]) ?_|refine gG ?_|show AK _;intro K H|refine H _ _ ?_;clear H K|refine gJ ?_;try exact trivial|omega
  rw [<-key 0 (by simp [zjk,hD])];exact .refl _
 have hD':=eq_false hD
 by_cases hT:l.kind=sT
 ·have hT':=eq_true hT
  have qe:=aI qR (aI @hA' (aI @hD' @hT'));repeat' first|refine gC ?_ ?_<;>intro hc<;>try contradiction|refine za (zc7) ?_|refine za (zeQ _ _ _) ?_|refine za (zdT _) ?_|refine za (zcu l.per) ?_|refine za (zbF _) ?_|refine za (zbP _ _) ?_|refine za (zbw [_,_,_,_,_,_,_,_,_,_]) ?_|refine gG ?_|show AK _;intro K H|refine H _ _ ?_;clear H K|refine gJ ?_;try exact trivial|omega
  rw [<-key 0 (by simp [zjk,hT])];exact .refl _
 have hT':=eq_false hT
 have qe:=aI qR (aI @hA' (aI @hD' @hT'));repeat' first|refine gC ?_ ?_<;>intro hc<;>try contradiction|refine za (zc7) ?_|refine za (zeQ _ _ _) ?_|refine za (zdT _) ?_|refine za (zcu l.per) ?_|refine za (zbF _) ?_|refine za (zbP _ _) ?_|refine za (zbw [_,_,_,_,_,_,_,_,_,_]) ?_|refine gG ?_|show AK _;intro K H|refine H _ _ ?_;clear H K|refine gJ ?_;try exact trivial|omega
 rw [<-key 13 (by simp [zjk,hA,hD,hT])];exact .refl _
end Go.Proofs.YtijgimeokgbifaaGreat
