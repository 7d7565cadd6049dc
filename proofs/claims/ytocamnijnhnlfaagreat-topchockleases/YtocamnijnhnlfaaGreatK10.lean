/- Contracts of functions, for the claim. No conditions. -/
import Derived.Test.YtocamnijnhnlfaaGreatRows
import Derived.Test.YtocamnijnhnlfaaGreatK4
import Derived.Test.YtocamnijnhnlfaaGreatK8
import Derived.Test.YtocamnijnhnlfaaGreatK9
import Derived.Test.YtocamnijnhnlfaaGreatK5
import Derived.Test.YtocamnijnhnlfaaGreatK3
set_option linter.all false
set_option maxHeartbeats 8000000
set_option maxRecDepth 100000
namespace Go.Proofs.YtocamnijnhnlfaaGreat
open Go.RowKit Go.Proofs.Tryz
def bef1 {a b:Mov} (h:zdK a b=true):a.moment<=b.moment:=by
 unfold zdK at h;split at h
 ·omega
 ·simp only [decide_eq_true_eq] at h;omega
def bef0 {a b:Mov} (h:zdK a b=false):b.moment<=a.moment:=by
 unfold zdK at h;split at h
 ·omega
 ·simp only [decide_eq_false_iff_not] at h;omega
def zvX {a b:List Mov} (ha:∀ x ∈ a,zcq x=0) (hb:∀ x ∈ b,zcq x=0) (hn:a.length+b.length<=30000):zR (zbX zdK a b)=0/\(zbX zdK a b).length=a.length+b.length:=by
 have hp:=zhK zdK a b;have hlen:(zbX zdK a b).length=a.length+b.length:=by rw [hp.length_eq,xad]
 refine ⟨zh3 (by omega) (λx hx=>?_) (zj4 (λ_ _ h=>bef1 h) (λ_ _ h=>bef0 h) a b),hlen⟩
 rcases xaL.1 (hp.mem_iff.1 hx) with h|h
 ·exact ha x h
 ·exact hb x h
def zb4 (l:List Int):Pure prog 103 [.sl 1 (l.map (.i .i64))] (.i .i64 (zf l)):=by
 refine pz func103 f103.eq_1 λhw X hX=>?_
 simp only [wfs,PV.wf,xaf,maxLen] at hw
 repeat' first|refine gC ?_ ?_<;>intro hc<;>try contradiction|refine gG ?_|show AK _;intro J Z|refine gJ ?_|omega|exact aT
 refine zh (κ:=Nat) (λi=>⟨[(0,.p (.sl 1 (l.map (.i .i64)))),(3,.p (.i .i64 i))],[],[],false⟩) (λi=>i<=l.length/\∀ x ∈ l.take i,x=0) (λi=>l.length - i) 0 ?_ ?_ ?_
 ·exact sR
 ·simp
 ·intro i hi
  repeat first|refine gG ?_|show AK _;intro J Z|refine gJ ?_|omega|exact aT
  (refine gC ?_ ?_<;>intro hc<;>try contradiction)
  ·obtain ⟨x,hx⟩:=zk (i:=i) (l:=l) (by omega)
   have qe:=@hx;repeat' first|refine gC ?_ ?_<;>intro hc<;>try contradiction|refine gG ?_|show AK _;intro J Z|refine gJ ?_|omega|exact aT
   ·rw [zN hi.2 hx hc];exact .refl _
   ·exact ⟨i+1,⟨by omega,zah hi.2 hx hc⟩,by omega,by simp⟩
  ·repeat' first|refine gC ?_ ?_<;>intro hc<;>try contradiction|refine gG ?_|show AK _;intro J Z|refine gJ ?_|omega|exact aT
   have e:i=l.length:=by omega
   subst e;rw [zU hi.2];exact .refl _
def zfG (L:List ByteArray) (x:ByteArray):Pure prog 108 [.sl 1 (L.map .s),.s x] (.b (decide (0<=atL x L))):=by
 refine pz func108 f108.eq_1 λhw X hX=>?_
 simp only [wfs,PV.wf,xaf,maxLen] at hw
 repeat' first|refine gC ?_ ?_<;>intro hc<;>try contradiction|refine gG ?_|show AK _;intro J Z|refine gJ ?_|omega|exact aT
 refine zh (κ:=Nat) (λi=>⟨[(0,.p (.sl 1 (L.map .s))),(1,.p (.s x)),(5,.p (.i .i64 i))],[],[],false⟩) (λi=>i<=L.length/\∀ y ∈ L.take i,y≠x) (λi=>L.length - i) 0 ?_ ?_ ?_
 ·exact sR
 ·simp
 ·intro i hi
  repeat first|refine gG ?_|show AK _;intro J Z|refine gJ ?_|omega|exact aT
  (refine gC ?_ ?_<;>intro hc<;>try contradiction)
  ·obtain ⟨y,hy⟩:=zk (i:=i) (l:=L) (by omega)
   have qe:=@hy;repeat' first|refine gC ?_ ?_<;>intro hc<;>try contradiction|refine gG ?_|show AK _;intro J Z|refine gJ ?_|omega|exact aT
   ·rw [zjt hi.2 (by rw [hy,hc]),decide_eq_true (by omega)];exact .refl _
   ·refine ⟨i+1,⟨by omega,λz hz=>?_⟩,by omega,by simp⟩
    rw [zM hy] at hz
    rcases xaL.1 hz with h|h
    ·exact hi.2 z h
    ·simp at h;subst h;exact hc
  ·repeat' first|refine gC ?_ ?_<;>intro hc<;>try contradiction|refine gG ?_|show AK _;intro J Z|refine gJ ?_|omega|exact aT
   have e:i=L.length:=by omega
   subst e;rw [zju (λy hy=>hi.2 y (by rw [xal (by simp)];exact hy))];exact .refl _
def zbI (L:List Slt) (n:ByteArray):Pure prog 55 [.sl 16 (L.map Slt.pv),.s n] (.i .i64 (atL n (L.map (·.req.name)))):=by
 refine pz func55 f55.eq_1 λhw X hX=>?_
 simp only [wfs,PV.wf,xaf,maxLen] at hw;rw [<-zdB]
 repeat' first|refine gC ?_ ?_<;>intro hc<;>try contradiction|refine gG ?_|show AK _;intro J Z|refine gJ ?_|omega|exact aT
 refine zh (κ:=Nat) (λi=>⟨[(0,.p (.sl 16 (L.map Slt.pv))),(1,.p (.s n)),(5,.p (.i .i64 i))],[],[],false⟩) (λi=>i<=L.length/\∀ y ∈ L.take i,decide (y.req.name=n)=false) (λi=>L.length - i) 0 ?_ ?_ ?_
 ·exact sR
 ·simp
 ·intro i hi
  repeat first|refine gG ?_|show AK _;intro J Z|refine gJ ?_|omega|exact aT
  (refine gC ?_ ?_<;>intro hc<;>try contradiction)
  ·obtain ⟨y,hy⟩:=zk (i:=i) (l:=L) (by omega)
   have qe:=@hy;repeat' first|refine gC ?_ ?_<;>intro hc<;>try contradiction|refine gG ?_|show AK _;intro J Z|refine gJ ?_|omega|exact aT
   ·rw [zaX hi.2 hy (by simpa using hc)];exact .refl _
   ·exact ⟨i+1,⟨by omega,zdU hi.2 hy (by simpa using hc)⟩,by omega,by simp⟩
  ·repeat' first|refine gC ?_ ?_<;>intro hc<;>try contradiction|refine gG ?_|show AK _;intro J Z|refine gJ ?_|omega|exact aT
   have e:i=L.length:=by omega
   subst e;rw [zbJ (λy hy=>hi.2 y (by rw [xal (by simp)];exact hy))];exact .refl _
def zdv (L:List Wsh) (n:ByteArray):Pure prog 57 [.sl 14 (L.map Wsh.pv),.s n] (.i .i64 (atL n (L.map (·.req.name)))):=by
 refine pz func57 f57.eq_1 λhw X hX=>?_
 simp only [wfs,PV.wf,xaf,maxLen] at hw;rw [<-zdB]
 repeat' first|refine gC ?_ ?_<;>intro hc<;>try contradiction|refine gG ?_|show AK _;intro J Z|refine gJ ?_|omega|exact aT
 refine zh (κ:=Nat) (λi=>⟨[(0,.p (.sl 14 (L.map Wsh.pv))),(1,.p (.s n)),(5,.p (.i .i64 i))],[],[],false⟩) (λi=>i<=L.length/\∀ y ∈ L.take i,decide (y.req.name=n)=false) (λi=>L.length - i) 0 ?_ ?_ ?_
 ·exact sR
 ·simp
 ·intro i hi
  repeat first|refine gG ?_|show AK _;intro J Z|refine gJ ?_|omega|exact aT
  (refine gC ?_ ?_<;>intro hc<;>try contradiction)
  ·obtain ⟨y,hy⟩:=zk (i:=i) (l:=L) (by omega)
   have qe:=@hy;repeat' first|refine gC ?_ ?_<;>intro hc<;>try contradiction|refine gG ?_|show AK _;intro J Z|refine gJ ?_|omega|exact aT
   ·rw [zaX hi.2 hy (by simpa using hc)];exact .refl _
   ·exact ⟨i+1,⟨by omega,zdU hi.2 hy (by simpa using hc)⟩,by omega,by simp⟩
  ·repeat' first|refine gC ?_ ?_<;>intro hc<;>try contradiction|refine gG ?_|show AK _;intro J Z|refine gJ ?_|omega|exact aT
   have e:i=L.length:=by omega
   subst e;rw [zbJ (λy hy=>hi.2 y (by rw [xal (by simp)];exact hy))];exact .refl _
def zdu (s:ByteArray):Pure prog 105 [.s s] (.i .i64 (zy s)):=by
 refine pz func105 f105.eq_1 λhw X hX=>?_
 repeat' first|refine gC ?_ ?_<;>intro hc<;>try contradiction|refine za (zhv _) ?_|refine gG ?_|show AK _;intro J Z|refine gJ ?_|omega|exact aT
 ·rw [zy,if_pos hc];exact .refl _
 ·rw [zy,if_neg (by rw [hc];simp)];exact .refl _
def zfD (l:Lea):Pure prog 106 [l.pv] (.i .i64 (zav l)):=by
 refine pz func106 f106.eq_1 λhw X hX=>?_
 have hsp:zav l=zf ([zy l.carrier,rng l.fro 0 99999,rng l.to 0 99999]++[if l.to < l.fro then 11 else 0]):=rfl
 rw [zcU,z9] at hsp;have qe:=@qR;repeat' first|refine gC ?_ ?_<;>intro hc<;>try contradiction|refine za (zdu _) ?_|refine za (zlz _) ?_|refine za (zb4 [_,_,_]) ?_|refine gG ?_|show AK _;intro J Z|refine gJ ?_|omega|exact aT
 ·rw [hsp,if_pos hc.1,if_pos hc.2];exact .refl _
 ·by_cases h:zf [zy l.carrier,rng l.fro 0 99999,rng l.to 0 99999]=0
  ·have:=hc h;rw [hsp,if_pos h,if_neg (by omega),h];exact .refl _
  ·rw [hsp,if_neg h];exact .refl _
def zfC (s:Slt) (l:Lea):Pure prog 107 [s.pv,l.pv] (.i .i64 (zbw s.raw l)):=by
 refine pz func107 f107.eq_1 λhw X hX=>?_
 have qe:=@qR;repeat' first|refine gC ?_ ?_<;>intro hc<;>try contradiction|refine gG ?_|show AK _;intro J Z|refine gJ ?_|omega|exact aT
 ·rw [zbw,zE (by rw [if_pos hc];omega),if_pos hc];exact .refl _
 ·rw [zbw,zt (if_neg (by simp only;omega)),z9,if_pos hc];exact .refl _
 ·rw [zbw,zt (if_neg (by simp only;omega)),z9,if_neg hc];exact .refl _
def zvd (s:ByteArray):Pure prog 205 [.s s] (.b (decide (s=s0) || zan s)):=by
 refine pz func205 f205.eq_1 λhw X hX=>?_
 have jA:=λu1=>zhv u1;exact gD2
def zxJ {a b c t l:ByteArray} (h:(((zan a=false\/zan b=false)\/zan c=false)\/¬t=s0/\zan t=false)\/¬l=s0/\zan l=false):zf [zy a,zy b,zy c,zeX t,zeX l]=8:=by
 simp only [zf,zy,zeX]
 (repeat' split)<;>simp_all
def zC8 {a b c t l:ByteArray} (h:(((¬zan a=false/\zan b=true)/\zan c=true)/\(t=s0\/zan t=true))/\(l=s0\/zan l=true)):zf [zy a,zy b,zy c,zeX t,zeX l]=0:=by
 simp only [zf,zy,zeX]
 (repeat' split)<;>simp_all
def zvp (r:Req):Pure prog 165 [r.pv] (.i .i64 (zgW r)):=by
 refine pz func165 f165.eq_1 λhw X hX=>?_
 have hsp:zgW r=zf ([zy r.name,zy r.carrier,zy r.partner,zeX r.term,zeX r.link]++[zaz r.kind,if r.link=r.name then 32 else 0,zC r.per,rng r.minute 0 1439,rng r.seats 0 999,rng r.size 1 9,rng r.noise 0 99]):=rfl
 rw [zcU] at hsp;have qe:=@qR;repeat' first|refine gC ?_ ?_<;>intro hc<;>try contradiction|refine zm (λ_=>zhv _) ?_|refine za (zhv _) ?_|refine zm (λ_=>zvd _) ?_|refine za (zmJ r.per) ?_|refine za (ziz _ _ _) ?_|refine za (zb4 [_,_,_,_]) ?_|refine gG ?_|show AK _;intro J Z|refine gJ ?_|omega|exact aT
 ·rw [hsp,if_neg (by rw [zxJ hc];omega),zxJ hc];exact .refl _
 all_goals rw [if_pos (zC8 (by assumption))] at hsp
 ·rw [hsp,zE (by rw [zaz,if_pos hc];omega),zaz,if_pos hc];exact .refl _
 all_goals rw [zt (show zaz r.kind=0 by rw [zaz,if_neg (λe=>e.2 ((by assumption:¬r.kind=bs [65]->r.kind=bs [68]) e.1))])] at hsp
 ·rw [hsp,zE (by rw [if_pos hc];omega),if_pos hc];exact .refl _
 all_goals rw [zt (if_neg (by assumption))] at hsp
 ·rw [hsp,zE hc];exact .refl _
 ·rw [hsp,zt hc];exact .refl _
def zjU {r:Req} (h:zgW r=0):zC r.per=0:=fE0 (show zf [zy r.name,zy r.carrier,zy r.partner,zeX r.term,zeX r.link,zaz r.kind,if r.link=r.name then 32 else 0,zC r.per,rng r.minute 0 1439,rng r.seats 0 999,rng r.size 1 9,rng r.noise 0 99]=0 from h) _ (by simp)
def zm3 (r:Req):Pure prog 104 [r.pv] (.i .i64 (zfn r)):=by
 refine pz func104 f104.eq_1 λhw X hX=>?_
 have qe:=aI qR (@List.length_map.{0,0});repeat' first|refine gC ?_ ?_<;>intro hc<;>try contradiction|refine za (zvp r) ?_|(show zj _ _ _ _ (⟨_,.call 8,_,_,_⟩::_) _ _;refine zcx (hf:=λhc=>(by first|exact zq6 r.per (zjU (by simpa using hc))|(simp only [qH,zbd] at hc;exact zq6 r.per (zjU (by simpa using hc))))) (hn:=?_))|refine gG ?_|show AK _;intro J Z|refine gJ ?_|omega|exact aT
 ·have h2:zq r.per=[]:=by simpa using hc.2
  rw [zfn,hc.1,zt rfl,z9,if_pos h2];exact .refl _
 ·by_cases h:zgW r=0
  ·have h2:¬zq r.per=[]:=by simpa using hc h
   rw [show zfn r=0 by rw [zfn,zt h,z9,if_neg h2],h];exact .refl _
  ·rw [zfn,zE h];exact .refl _
def zdw (w:Wsh):Pure prog 56 [w.pv] (.i .i64 (zfm w)):=by
 refine pz func56 f56.eq_1 λhw X hX=>?_
 have qe:=@qR;have jA:=zm3 w.req;have jB:=λu1 u2 u3=>ziz u1 u2 u3;have jC:=λu1 u2=>zb4 [u1,u2];exact gD4
abbrev slX (s:Slt) (p q:PV):PV:=.agg [.s s.req.name,.s s.req.carrier,.s s.req.kind,.s s.req.term,.s s.req.partner,.s s.req.link,.i .i64 s.req.per.fro,.i .i64 s.req.per.to,.i .i64 s.req.per.days,.i .i64 s.req.minute,.i .i64 s.req.seats,.i .i64 s.req.size,.i .i64 s.req.noise,.s s.holder,p,q]
abbrev slL (s:Slt) (i:Option Addr × Nat):PV:=slX s (.rs i.1 s.ls.length i.2) (.sl 1 (s.sh.map .s))
def zh9 (s:Slt) (h:zk4 s):ActsE prog 176 [.p s.pv] [] (λi=>.p (slL s i)) (λi:Option Addr × Nat=>[(105,.hrow 86 3 (s.ls.map Lea.pv) i.1 i.2)]):=by
 obtain ⟨h1,h2⟩:=h;refine zeE (cF func176 f176.eq_1) (by simp) (by simp [scPs,scP]) (by simp [scObj]) trivial (λi=>by simp [scObj]) (λi=>by simp [zb1]) λX hX=>?_
 unfold zA ghO;refine zeP (zf6 ⟨[(1,.lp 1 0),(2,.lp 2 0)],[(1,.box [.p (.s s.req.name),.p (.s s.req.carrier),.p (.s s.req.kind),.p (.s s.req.term),.p (.s s.req.partner),.p (.s s.req.link),.p (.i .i64 s.req.per.fro),.p (.i .i64 s.req.per.to),.p (.i .i64 s.req.per.days),.p (.i .i64 s.req.minute),.p (.i .i64 s.req.seats),.p (.i .i64 s.req.size),.p (.i .i64 s.req.noise),.p (.s s.holder),.p (.sl 3 (s.ls.map Lea.pv)),.p (.sl 1 (s.sh.map .s))] false),(2,.box [.p (.s (bs [])),.p (.s (bs [])),.p (.s (bs [])),.p (.s (bs [])),.p (.s (bs [])),.p (.s (bs [])),.p (.i .i64 0),.p (.i .i64 0),.p (.i .i64 0),.p (.i .i64 0),.p (.i .i64 0),.p (.i .i64 0),.p (.i .i64 0),.p (.s (bs [])),.p .nilsl,.p .nilsl] false)],[],false⟩ ?_ (zeP (zf6 ⟨[(1,.lp 1 0),(2,.lp 2 0)],[(1,.box [.p (.s s.req.name),.p (.s s.req.carrier),.p (.s s.req.kind),.p (.s s.req.term),.p (.s s.req.partner),.p (.s s.req.link),.p (.i .i64 s.req.per.fro),.p (.i .i64 s.req.per.to),.p (.i .i64 s.req.per.days),.p (.i .i64 s.req.minute),.p (.i .i64 s.req.seats),.p (.i .i64 s.req.size),.p (.i .i64 s.req.noise),.p (.s s.holder),.row 105 s.ls.length,.row 106 s.sh.length] false),(2,.box [.p (.s (bs [])),.p (.s (bs [])),.p (.s (bs [])),.p (.s (bs [])),.p (.s (bs [])),.p (.s (bs [])),.p (.i .i64 0),.p (.i .i64 0),.p (.i .i64 0),.p (.i .i64 0),.p (.i .i64 0),.p (.i .i64 0),.p (.i .i64 0),.p (.s (bs [])),.p .nilsl,.p .nilsl] false),(105,.row 86 3 (s.ls.map Lea.pv) false),(106,.row 9 1 (s.sh.map .s) false)],[],false⟩ ?_ ?_)))
 ·have qe:=@qR;repeat' first|refine gC ?_ ?_<;>intro hc<;>try contradiction|refine gG ?_|show AK _;intro J Z|refine gJ ?_|omega|exact aT
  all_goals (show Cov _ _;simp only [qS,seval]<;>simp)
 ·have qe:=aI qR (aI @qN (aI @zaC (aI @List.map_nil.{0,0} @List.append_nil.{0})));repeat' first|refine gC ?_ ?_<;>intro hc<;>try contradiction|refine zo [(5,105)] (zn3 s.ls (by omega)) ?_|refine zo [(5,106)] (zn2 s.sh (by omega)) ?_|refine gG ?_|show AK _;intro J Z|refine gJ ?_|omega|exact aT
  all_goals (show Cov _ _;simp only [qS,seval]<;>simp)
 refine zon (zew 105 (e:=86) (sz:=3) (xs:=s.ls.map Lea.pv) rfl (λa0 c0=>[(1,.lp 1 0),(2,.lp 2 0)]) (λa0 c0=>[(1,.box [.p (.s s.req.name),.p (.s s.req.carrier),.p (.s s.req.kind),.p (.s s.req.term),.p (.s s.req.partner),.p (.s s.req.link),.p (.i .i64 s.req.per.fro),.p (.i .i64 s.req.per.to),.p (.i .i64 s.req.per.days),.p (.i .i64 s.req.minute),.p (.i .i64 s.req.seats),.p (.i .i64 s.req.size),.p (.i .i64 s.req.noise),.p (.s s.holder),.p (.rs a0 (s.ls.map Lea.pv).length c0),.row 106 s.sh.length] false),(2,.box [.p (.s (bs [])),.p (.s (bs [])),.p (.s (bs [])),.p (.s (bs [])),.p (.s (bs [])),.p (.s (bs [])),.p (.i .i64 0),.p (.i .i64 0),.p (.i .i64 0),.p (.i .i64 0),.p (.i .i64 0),.p (.i .i64 0),.p (.i .i64 0),.p (.s (bs [])),.p .nilsl,.p .nilsl] false),(106,.row 9 1 (s.sh.map .s) false)]) λa0 c0=>⟨⟨.inl rfl,.inl rfl,trivial⟩,⟨.inr ⟨_,rfl,_,_,_,rfl,rfl,.inl rfl,.inl rfl,.inl rfl,.inl rfl,.inl rfl,.inl rfl,.inl rfl,.inl rfl,.inl rfl,.inl rfl,.inl rfl,.inl rfl,.inl rfl,.inl rfl,.inr ⟨by show LV.row 105 _=LV.row 105 _;simp,rfl⟩,.inl rfl,trivial⟩,.inl rfl,.inl rfl,trivial⟩,by simp [scEnv,scP,zp],by simp [scObj,scPs,scP,zp]⟩) ?_
 rintro _ ⟨a0,c0,rfl⟩;refine (show Run _ _ (St.mk _ _ [] false) _ from ?_)
 have qe:=aI qR (aI @zaC (aI @reN (aI @reR (@List.length_map.{0,0}))));repeat' first|refine gC ?_ ?_<;>intro hc<;>try contradiction|refine gG ?_|show AK _;intro J Z|refine gJ ?_|omega|exact aT
 exact ⟨(a0,c0),.inl (.mkP)⟩
def ztI {L:List Slt} {k:Nat} {x:Slt} (h:L[k]?=some x) (v:PV):((L.take (k+1)).map Slt.pv).set k v=(L.take k).map Slt.pv++[v]:=by
 have hk:k < L.length:=(xaa.1 h).1;rw [zM h,xaZ,List.map_singleton,xbe _ _ (by simp;omega)]
 simp [xbu (Nat.le_of_lt hk)]
def zpX {L:List Slt} {k i0:Nat} {x:Slt} (hi:i0 < k) (h:L[k]?=some x) (v:PV):((L.take (k+1)).map Slt.pv).set i0 v=((L.take k).map Slt.pv).set i0 v++[x.pv]:=by
 have hk:k < L.length:=(xaa.1 h).1;rw [zM h,xaZ,List.map_singleton,List.set_append_left _ _ (by simp;omega)]
def zpD {e sz:Nat} {xs:List PV} (p q:HD->PV) (L:List Slt) (i0:Nat) (s:Slt) (h0:L[i0]?=some s) (hs:∀ s ∈ L,zk4 s) (hn:L.length<=1000000) (h1:∀ i,(p i).one=true/\(q i).one=true)
  (hf:ActsE prog 176 [.p s.pv] [] (λi=>.p (slX s (p i) (q i))) (λi=>[(105,.hrow e sz xs i.1 i.2)])) :
  ActsE prog 175 [.p (.sl 16 (L.map Slt.pv)),.p (.fn (.func 176) [] [])] [] (λ_=>.row 100 L.length) (λi=>[(100,.row 89 16 ((L.map Slt.pv).set i0 (slX s (p i) (q i))) false),(305,.hrow e sz xs i.1 i.2)]):=by
 have hi0:i0 < L.length:=(xaa.1 h0).1;refine zeE (cF func175 f175.eq_1) (by simp) (by simp [scPs,scP]) (by simp [scObj]) trivial (λi=>by simp [scObj]) (λi=>by simp [zb1]) λX hX=>?_
 unfold zA ghO;have qe:=aI qR (aI @List.map_nil.{0,0} @List.append_nil.{0});repeat' first|refine gC ?_ ?_<;>intro hc<;>try contradiction|refine gG ?_|show AK _;intro J Z|refine gJ ?_|omega|exact aT
 refine zaf 100 89 16 [(1,.p (.fn (.func 176) [] [])),(5,.row 100 0),(8,.p (.sl 16 (L.map Slt.pv))),(9,.p (.i .i64 L.length)),(10,.p (.i .i64 0))] [] ?_ ?_
 ·simp only [Own,zam,zaj,za8,zad,qS,seval]
 refine zqw (λk=>⟨[(1,.p (.fn (.func 176) [] [])),(5,.row 100 k),(8,.p (.sl 16 (L.map Slt.pv))),(9,.p (.i .i64 L.length)),(10,.p (.i .i64 k))],[(100,.row 89 16 ((L.take k).map Slt.pv) false)],[],false⟩)
  (λk i=>⟨[(1,.p (.fn (.func 176) [] [])),(5,.row 100 k),(8,.p (.sl 16 (L.map Slt.pv))),(9,.p (.i .i64 L.length)),(10,.p (.i .i64 k))],[(100,.row 89 16 (((L.take k).map Slt.pv).set i0 (slX s (p i) (q i))) false),(305,.hrow e sz xs i.1 i.2)],[],false⟩) L.length i0 hi0 ?_ (λk hk=>?_) ?_ (λk i hk hkn=>?_) (λi=>?_)
 ·exact sS
 ·obtain ⟨x,hx⟩:=zk (i:=k) (l:=L) (by omega)
  have hl:(L.take k).length=k:=by rw [xaj];omega
  have hlt:=eq_true (show (k:Int) < (L.length:Int) by omega)
  have qe:=aI qR (aI @hx (aI @hl (aI @hlt (aI @decide_true @nk_n))));repeat' first|refine gC ?_ ?_<;>intro hc<;>try contradiction|refine zn (ziC x (hs x (xae hx))) ?_|refine gG ?_|show AK _;intro J Z|refine gJ ?_|omega|exact aT
  exact ⟨rfl,by rw [zM hx];simp,by simp;omega⟩
 ·have hl:(L.take i0).length=i0:=by rw [xaj];omega
  have hlt:=eq_true (show (i0:Int) < (L.length:Int) by omega)
  have qe:=aI qR (aI @h0 (aI @hl (aI @hlt (aI @decide_true @nk_n))));repeat' first|refine gC ?_ ?_<;>intro hc<;>try contradiction|refine gG ?_|show AK _;intro J Z|refine gJ ?_|omega|exact aT
  refine zf7 [(105,305)] (hf:=hf) (hn:=λi=>?_)
  obtain ⟨h1a,h1b⟩:=h1 i;have qe:=aI qR (aI @qN (aI @hl (aI @zgq (aI @h1a (aI @h1b @nk_n)))));repeat' first|refine gC ?_ ?_<;>intro hc<;>try contradiction|refine gG ?_|show AK _;intro J Z|refine gJ ?_|omega|exact aT
  exact ⟨i,rfl,⟨by rw [ztI h0],rfl⟩,by simp;omega,by simp [scObj]⟩
 ·obtain ⟨x,hx⟩:=zk (i:=k) (l:=L) (by omega)
  have hl:(L.take k).length=k:=by rw [xaj];omega
  have hlt:=eq_true (show (k:Int) < (L.length:Int) by omega)
  have qe:=aI qR (aI @hx (aI @hl (aI @hlt (aI @decide_true (aI @List.length_set.{0} @nk_n)))));repeat' first|refine gC ?_ ?_<;>intro hc<;>try contradiction|refine zn (ziC x (hs x (xae hx))) ?_|refine gG ?_|show AK _;intro J Z|refine gJ ?_|omega|exact aT
  exact ⟨rfl,by rw [zpX hk hx],by simp;omega,by simp [scObj]⟩
 ·have hlt:=eq_false (show ¬(L.length:Int) < (L.length:Int) by omega)
  have qe:=aI qR (aI @hlt (aI @decide_false (aI @nk_e (aI @reN (aI @reR (aI @List.take_length.{0} @List.length_set.{0}))))));repeat' first|refine gC ?_ ?_<;>intro hc<;>try contradiction|refine gG ?_|show AK _;intro J Z|refine gJ ?_|omega|exact aT
  exact ⟨i,.inl .mkE⟩
def zpE {e sz:Nat} {xs:List PV} (p q:HD->PV) (L:List Slt) (W:List Wsh) (i0:Nat) (s:Slt) (h0:L[i0]?=some s) (hs:∀ s ∈ L,zk4 s) (hn:L.length<=1000000) (hW:W.length<=1000000) (h1:∀ i,(p i).one=true/\(q i).one=true)
  (hf:ActsE prog 176 [.p s.pv] [] (λi=>.p (slX s (p i) (q i))) (λi=>[(105,.hrow e sz xs i.1 i.2)])) :
  ActsE prog 117 [.p (.agg [.sl 16 (L.map Slt.pv),.sl 14 (W.map Wsh.pv)])] [] (λ_=>.agg [.row 100 L.length,.row 7 W.length]) (λi=>[(100,.row 89 16 ((L.map Slt.pv).set i0 (slX s (p i) (q i))) false),(7,.row 92 14 (W.map Wsh.pv) false),(305,.hrow e sz xs i.1 i.2)]):=by
 have hA:=λl=>eq_true (zD8 l)
 have hT:List.take W.length (W.map Wsh.pv)=W.map Wsh.pv:=by rw [xal];simp
 have hD:∀ x:PV,List.drop W.length (List.replicate W.length x)=[]:=λx=>by simp
 refine zeE (cF func117 f117.eq_1) (by simp) (by simp [scPs,scP]) (by simp [scObj]) trivial (λi=>by simp [scObj]) (λi=>by simp [zb1]) λX hX=>?_
 unfold zA ghO;have qe:=aI qR (aI @hA (aI @hT (aI @hD (aI @Nat.min_self (aI @qN (aI @zaC (aI @rtN (aI @rtR (aI @List.map_nil.{0,0} @List.append_nil.{0})))))))));repeat' first|refine gC ?_ ?_<;>intro hc<;>try contradiction|refine gG ?_|show AK _;intro J Z|refine gJ ?_|omega|exact aT
 refine zoq [(100,100),(305,305)] (hf:=zpD p q L i0 s h0 hs hn h1 hf) (hn:=λi=>?_)
 refine zbQ 1 ?_;have qe:=aI qR (aI @qN @zgq);repeat' first|refine gC ?_ ?_<;>intro hc<;>try contradiction|refine gG ?_|show AK _;intro J Z|refine gJ ?_|omega|exact aT
 refine zhu (us:=[.row 100 L.length,.row 7 W.length]) (zs:=[.row 100 L.length,.row 7 W.length]) (sE) (sE) (by simp only [fillLOk]<;>simp [LV.cells,LV.known,zbF,rn,rens,LV.ren,LObj.ren,qS,seval]) rfl (zB ?_)
 have qe:=aI qR (aI @qN (aI @zgq (aI @hT (aI @hD (aI @List.append_nil.{0} (aI @reN (aI @reR (aI @zaC (aI @List.length_map.{0,0} @List.length_set.{0})))))))));repeat' first|refine gC ?_ ?_<;>intro hc<;>try contradiction|refine gG ?_|show AK _;intro J Z|refine gJ ?_|omega|exact aT
 all_goals exact ⟨i,.inl .mk⟩
def nab:ByteArray:=bs [97,98]
def ncd:ByteArray:=bs [99,100]
def np:ByteArray:=bs [112]
def zza {P:Program} {f:FuncId} {ps qs:List PV} {r:PV} (h:Pure P f qs r) (hw:Wks ps qs):Pure P f ps r:=by
 obtain ⟨h1,h2⟩:=hw.at;refine ⟨h.1,λw B vs hB hv=>h.2 w B vs hB ⟨by rw [hv.1,h1],λj v q hj hq=>?_⟩⟩
 have hlt:j < ps.length:=by rw [h1];exact (xaa.1 hq).1
 exact h2 j _ q (xab hlt) hq w B v (hv.2 j v _ hj (xab hlt))
def znf {b:Bk} (h1:b.slots.all (λs=>decide (s.ls.length<=1000) && decide (s.sh.length<=1000))=true) (h2:b.slots.length<=1000) (h3:b.wait.length<=1000):zeG b:=
 ⟨λs hs=>by have:=xaD.1 h1 s hs;simpa [zk4] using this,h2,h3⟩
abbrev nbk:PV:=.agg [.nilsl,.nilsl]
def ncd_e:ncd=bs [99,100]:=rfl
def nab_e:nab=bs [97,98]:=rfl
def toN0:Int.toNat 0=0:=rfl
open Go.RowKit Go.Proofs.Tryz Go.ChangeShapes Go.WideShapes Go.ChangeAt
abbrev jT:CP:=.i .i64
def own:ownKnob prog.godebug=none:=by kernel_rfl
def laid:laidOutB prog=true:=by kernel_rfl
def und4:prog.underlying 4=some .bool:=by kernel_rfl
def zCZ {P:Program} {f:FuncId} {fn:Func} {s:ChangeSpec} {c:OpenClaim} (a1:c.wf (OpenSpec.ofChange s)=true) (a2:laidOutB P=true) (a3:mapsRowed P=true)
  (a4:(fn.params.all (P.readableRec ·) && namedTie P c.named s.vars && (c.stops == []) && (P.stops == []) && (c.knobs == []) && (P.stopKnobs == []))=true)
  (b1:(c.inPlace == P.inPlace f)=true) (b2:(c.unfollowed == P.unfollowed f)=true) (b3:(c.recurses == P.recurses f)=true) (b4:(c.named == P.varsNamed f)=true)
  (d1:((c.maps == (fn.params.toList++s.plain.varTypes P).any (P.mapsRec ·)) && (c.ifaces == (fn.params.toList++s.plain.varTypes P).any (P.ifacesRec ·)) && (c.mapsOut == P.mapsAmong fn.resultTypes.toList) &&
 (c.loops == (fn.params.toList++s.plain.varTypes P).any (P.loopsFrom ·)) && (c.wideKeys == (fn.params.toList++s.plain.varTypes P++fn.resultTypes.toList).any (P.wideKeysFrom ·)))=true)
  (d2:(s.vars.all (P.varReadable ·) && fn.resultTypes.all (λt=>P.readableRec t && decide (t < P.types.size)) && (c.ifacesOut == fn.resultTypes.toList.any (P.ifacesRec ·)) && (c.loopsOut == fn.resultTypes.toList.any (P.loopsFrom ·)))=true)
  (d3:((c.plainKeys == P.plainKeys) && c.shortTexts.isNone && P.stopsHeard && P.mayEnter && (c.lifted == P.liftsFinal) && (P.make == some c.make))=true)
  (d4:((c.kinds == (if c.domain.isEmpty then [] else fn.params.toList.map λt=>match P.underlying t with|some (.int k)=>some k|_=>none)) && (c.pinned == c.pinnedBy))=true)
  (d5:((c.veiled == (fn.params.toList++s.plain.varTypes P++fn.resultTypes.toList).any (P.veiledRec ·)) && c.veiledFits P fn.params.toList (fn.params.toList++s.plain.varTypes P++fn.resultTypes.toList))=true):joinedFacts P f fn s c=true:=by
 unfold joinedFacts;simp only [xam] at a4 d1 d2 d3 d4 d5 ⊢;obtain ⟨⟨⟨⟨⟨a4,a5⟩,a6⟩,a7⟩,a8⟩,a9⟩:=a4;obtain ⟨⟨⟨⟨e1,e2⟩,e3⟩,e4⟩,e5⟩:=d1;obtain ⟨⟨⟨e6,e7⟩,e8⟩,e9⟩:=d2;obtain ⟨⟨⟨⟨⟨f1,f2⟩,f3⟩,f4⟩,f5⟩,f6⟩:=d3;obtain ⟨f7,f8⟩:=d4;obtain ⟨f9,g1⟩:=d5;exact ⟨⟨⟨⟨⟨⟨⟨⟨⟨⟨⟨⟨⟨⟨⟨⟨⟨⟨⟨⟨⟨⟨⟨⟨⟨⟨⟨⟨⟨⟨⟨a1,a2⟩,a3⟩,a4⟩,a5⟩,a6⟩,a7⟩,a8⟩,a9⟩,b1⟩,b2⟩,b3⟩,b4⟩,e1⟩,e2⟩,e3⟩,e4⟩,e5⟩,e6⟩,e7⟩,e8⟩,e9⟩,f1⟩,f2⟩,f3⟩,f4⟩,f5⟩,f6⟩,f7⟩,f8⟩,f9⟩,g1⟩
def rowed:mapsRowed prog=true:=by kernel_rfl
open Go.RowKit Go.Proofs.Tryz
def zjh (l:List Int) (x:Int):zf (l++[x])=if zf l=0 then x else zf l:=by rw [zcU,z9]
def zC9 {l:List Int} {i:Nat} (h:zf (l.take i)≠0):zf l=zf (l.take i):=by
 have:=zcU (l.take i) (l.drop i);rw [xao,if_neg h] at this;exact this
def zxK {l:List Int} {i:Nat} {e a:Int} (he:e=zf (a::l.take i)) (h:i < l.length->e≠0):e=zf (a::l):=by
 by_cases hi:i < l.length
 ·have h1:=h hi;rw [he] at h1 ⊢;exact (zC9 (l:=a::l) (i:=i+1) h1).symm
 ·rw [he,xal (by omega)]
def zsk {l:List Int} {i:Nat} {a e x:Int} (he:e=zf (a::l.take i)) (h0:e=0) (hx:l[i]?=some x):x=zf (a::l.take (i+1)):=by
 rw [zM hx];have:=zjh (a::l.take i) x;rw [<-he,if_pos h0] at this;exact this.symm
def zmi (s:Slt):Int:=zf [zfn s.req,zy s.holder,if 8 < (s.ls.length:Int) then 5 else 0]
def zkH (s:Slt):Int:=zf (zmi s::s.ls.mapIdx (za6 s))
def zmh (s:Slt):Int:=zf [zkH s,if 4 < (s.sh.length:Int) then 5 else 0]
def zDa (a:Int) (l:List Int):zf [a,zf l]=zf (a::l):=by
 by_cases h:a=0
 ·rw [zt h,zt h,z9]
 ·rw [zE h,zE h]
def znD (l r:List Int):zf (zf l::r)=zf (l++r):=by
 rw [zcU]
 by_cases h:zf l=0
 ·rw [zt h,if_pos h]
 ·rw [zE h,if_neg h]
def zwN (s:Slt):zae s=zf (zmh s::s.sh.mapIdx (za3 s)):=by
 rw [zmh,znD,xaE,xaE,xaQ,zkH,znD,xaE,zmi,znD,zae];rw [zcU [_,_,_]];have e:zf [zf (s.ls.mapIdx (za6 s)),if 4 < (s.sh.length:Int) then 5 else 0,zf (s.sh.mapIdx (za3 s))]=zf (s.ls.mapIdx (za6 s)++(if 4 < (s.sh.length:Int) then 5 else 0)::s.sh.mapIdx (za3 s)):=by
  rw [znD,zcU,zcU (s.ls.mapIdx (za6 s)),zDa]
 rw [<-e];exact zcU [_,_,_] [_,_,_]
abbrev stS (s:Slt) (e:Int):St:=⟨[(1,.lp 1 0),(3,.p (.i .i64 e))],[(1,.box (s.cells.map .p) false)],[],false⟩
def ziI (s:Slt):Pure prog 54 [s.pv] (.i .i64 (zae s)):=by
 refine pz func54 f54.eq_1 λhw X hX=>?_
 simp only [wfs,PV.wf,xaf,maxLen] at hw;have hS1:zmi s=if zf [zfn s.req,zy s.holder]=0 then (if 8 < (s.ls.length:Int) then 5 else 0) else zf [zfn s.req,zy s.holder]:=zjh [_,_] _
 have hS3:zmh s=if zkH s=0 then (if 4 < (s.sh.length:Int) then 5 else 0) else zkH s:=by
  have:=zjh [zkH s] (if 4 < (s.sh.length:Int) then 5 else 0)
  rw [z9] at this;exact this
 have qe:=@qR;repeat' first|refine za (zm3 s.req) ?_|refine za (zdu s.holder) ?_|refine za (zb4 [_,_]) ?_|refine gG ?_|show AK _;intro J Z|refine gJ ?_|omega|exact aT
 refine zf6 (stS s (zmi s)) ?_ ?_
 ·(refine gC ?_ ?_<;>intro hc<;>try contradiction)
  ·rw [hS1,if_pos hc.1,if_pos hc.2]
   repeat' first|refine gC ?_ ?_<;>intro hc<;>try contradiction|refine gG ?_|show AK _;intro J Z|refine gJ ?_|omega|exact aT
   all_goals (show Cov _ _;simp only [qS,seval]<;>simp)
  ·have e:zmi s=zf [zfn s.req,zy s.holder]:=by
    rw [hS1];split
    ·rename_i h;rw [if_neg (by have:=hc h;omega),h]
    ·rfl
   rw [e]
   repeat' first|refine gC ?_ ?_<;>intro hc<;>try contradiction|refine gG ?_|show AK _;intro J Z|refine gJ ?_|omega|exact aT
   all_goals (show Cov _ _;simp only [qS,seval]<;>simp)
 refine zeP (zf6 (stS s (zkH s)) ?_ ?_)
 ·repeat' first|refine gC ?_ ?_<;>intro hc<;>try contradiction|refine gG ?_|show AK _;intro J Z|refine gJ ?_|omega|exact aT
  refine zh (κ:=Nat × Int) (λk=>⟨[(1,.lp 1 0),(3,.p (.i .i64 k.2)),(4,.p (.i .i64 k.1))],[(1,.box (s.cells.map .p) false)],[],false⟩) (λk=>k.1<=s.ls.length/\k.2=zf (zmi s::(s.ls.mapIdx (za6 s)).take k.1)) (λk=>s.ls.length - k.1) (0,zmi s) ?_ ?_ ?_
  ·exact sS
  ·simp [z9]
  ·rintro ⟨i,e⟩ ⟨hi,he⟩;simp only at hi he
   repeat first|refine gG ?_|show AK _;intro J Z|refine gJ ?_|omega|exact aT
   (refine gC ?_ ?_<;>intro hc<;>try contradiction)
   ·obtain ⟨h1,h2⟩:=hc;obtain ⟨x,hx⟩:=zk (i:=i) (l:=s.ls) (by omega)
    obtain ⟨y,hy⟩:=zk (i:=i - 1) (l:=s.ls) (by omega)
    have e1:((i:Int) - 1).toNat=i - 1:=by omega
    have hl:za6 s i x=if zf [zav x,zbw s.raw x]=0 then (if 0 < (i:Int)/\x.fro<=y.to then 15 else 0) else zf [zav x,zbw s.raw x]:=by
     rw [za6,hy];exact zjh [_,_] _
    have hn:=zsk he h2 (zz (f:=za6 s) hx)
    by_cases c1:zf [zav x,zbw s.raw x]=0
    ·have c1':=eq_true c1;rw [if_pos c1] at hl
     by_cases c2:0 < (i:Int)
     ·have c2':=eq_true c2
      by_cases c3:x.fro<=y.to
      ·have c3':=eq_true c3;rw [if_pos ⟨c2,c3⟩] at hl;rw [hl] at hn;have qe:=aI qR (aI @hx (aI @hy (aI @e1 (aI @c1' (aI @c2' (aI @c3' @decide_true))))));repeat' first|refine gC ?_ ?_<;>intro hc<;>try contradiction|refine za (zfD x) ?_|refine za (zfC s x) ?_|refine za (zb4 [_,_]) ?_|refine gG ?_|show AK _;intro J Z|refine gJ ?_|omega|exact aT
       all_goals exact ⟨(i+1,15),⟨by omega,hn⟩,by simp;omega,by simp⟩
      ·have c3':=eq_false c3;rw [if_neg (λk=>c3 k.2)] at hl
       rw [hl] at hn;have qe:=aI qR (aI @hx (aI @hy (aI @e1 (aI @c1' (aI @c2' (aI @c3' (aI @decide_true @decide_false)))))));repeat' first|refine gC ?_ ?_<;>intro hc<;>try contradiction|refine za (zfD x) ?_|refine za (zfC s x) ?_|refine za (zb4 [_,_]) ?_|refine gG ?_|show AK _;intro J Z|refine gJ ?_|omega|exact aT
       all_goals exact ⟨(i+1,zf [zav x,zbw s.raw x]),⟨by omega,by rw [c1];exact hn⟩,by simp;omega,by simp⟩
     ·have c2':=eq_false c2;rw [if_neg (λk=>c2 k.1)] at hl
      rw [hl] at hn;have qe:=aI qR (aI @hx (aI @hy (aI @e1 (aI @c1' (aI @c2' (aI @decide_true @decide_false))))));repeat' first|refine gC ?_ ?_<;>intro hc<;>try contradiction|refine za (zfD x) ?_|refine za (zfC s x) ?_|refine za (zb4 [_,_]) ?_|refine gG ?_|show AK _;intro J Z|refine gJ ?_|omega|exact aT
      all_goals exact ⟨(i+1,zf [zav x,zbw s.raw x]),⟨by omega,by rw [c1];exact hn⟩,by simp;omega,by simp⟩
    ·have c1':=eq_false c1;rw [if_neg c1] at hl;rw [hl] at hn;have qe:=aI qR (aI @hx (aI @hy (aI @e1 (aI @c1' @decide_false))));repeat' first|refine gC ?_ ?_<;>intro hc<;>try contradiction|refine za (zfD x) ?_|refine za (zfC s x) ?_|refine za (zb4 [_,_]) ?_|refine gG ?_|show AK _;intro J Z|refine gJ ?_|omega|exact aT
     all_goals exact ⟨(i+1,zf [zav x,zbw s.raw x]),⟨by omega,hn⟩,by simp;omega,by simp⟩
   ·have hf:=zxK he (λh=>hc (by simpa using h))
    repeat' first|refine gC ?_ ?_<;>intro hc<;>try contradiction|refine gG ?_|show AK _;intro J Z|refine gJ ?_|omega|exact aT
    all_goals (show Cov _ _;simp only [qS,seval,hf]<;>simp [zkH])
 repeat' first|refine gG ?_|show AK _;intro J Z|refine gJ ?_|omega|exact aT
 refine zf6 (stS s (zmh s)) ?_ ?_
 ·(refine gC ?_ ?_<;>intro hc<;>try contradiction)
  ·rw [hS3,if_pos hc.1,if_pos hc.2]
   repeat' first|refine gC ?_ ?_<;>intro hc<;>try contradiction|refine gG ?_|show AK _;intro J Z|refine gJ ?_|omega|exact aT
   all_goals (show Cov _ _;simp only [qS,seval]<;>simp)
  ·have e:zmh s=zkH s:=by
    rw [hS3];split
    ·rename_i h;rw [if_neg (by have:=hc h;omega),h]
    ·rfl
   rw [e]
   repeat' first|refine gC ?_ ?_<;>intro hc<;>try contradiction|refine gG ?_|show AK _;intro J Z|refine gJ ?_|omega|exact aT
   all_goals (show Cov _ _;simp only [qS,seval]<;>simp)
 repeat' first|refine gC ?_ ?_<;>intro hc<;>try contradiction|refine gG ?_|show AK _;intro J Z|refine gJ ?_|omega|exact aT
 refine zh (κ:=Nat × Int) (λk=>⟨[(1,.lp 1 0),(3,.p (.i .i64 k.2)),(5,.p (.i .i64 k.1))],[(1,.box (s.cells.map .p) false)],[],false⟩) (λk=>k.1<=s.sh.length/\k.2=zf (zmh s::(s.sh.mapIdx (za3 s)).take k.1)) (λk=>s.sh.length - k.1) (0,zmh s) ?_ ?_ ?_
 ·exact sS
 ·simp [z9]
 ·rintro ⟨i,e⟩ ⟨hi,he⟩;simp only at hi he
  repeat first|refine gG ?_|show AK _;intro J Z|refine gJ ?_|omega|exact aT
  (refine gC ?_ ?_<;>intro hc<;>try contradiction)
  ·obtain ⟨h1,h2⟩:=hc;obtain ⟨x,hx⟩:=zk (i:=i) (l:=s.sh) (by omega)
   have hn:=zsk he h2 (zz (f:=za3 s) hx);have e31:((31:Int)=0)=False:=eq_false (by omega)
   by_cases d1:zy x=0
   ·have d1':=eq_true d1
    by_cases d2:x=s.holder
    ·have d2':=eq_true d2;have hv:za3 s i x=31:=by rw [za3,zt d1,if_pos d2,zE (by omega)]
     rw [hv] at hn;have qe:=aI qR (aI @hx (aI @zax (aI @d1' (aI @d2' (aI @e31 (aI @decide_true @decide_false))))));repeat' first|refine gC ?_ ?_<;>intro hc<;>try contradiction|refine za (zdu x) ?_|refine zm (λ_=>zfG (s.sh.take i) x) ?_|refine gG ?_|show AK _;intro J Z|refine gJ ?_|omega|exact aT
     all_goals exact ⟨(i+1,31),⟨by omega,hn⟩,by simp;omega,by simp⟩
    ·have d2':=eq_false d2
     by_cases d3:0<=atL x (s.sh.take i)
     ·have d3':=eq_true d3;have hv:za3 s i x=9:=by rw [za3,zt d1,if_neg d2,zt rfl,z9,if_pos d3]
      rw [hv] at hn;have qe:=aI qR (aI @hx (aI @zax (aI @d1' (aI @d2' (aI @d3' (aI @decide_true @decide_false))))));repeat' first|refine gC ?_ ?_<;>intro hc<;>try contradiction|refine za (zdu x) ?_|refine zm (λ_=>zfG (s.sh.take i) x) ?_|refine gG ?_|show AK _;intro J Z|refine gJ ?_|omega|exact aT
      all_goals exact ⟨(i+1,9),⟨by omega,hn⟩,by simp;omega,by simp⟩
     ·have d3':=eq_false d3;have hv:za3 s i x=0:=by rw [za3,zt d1,if_neg d2,zt rfl,z9,if_neg d3]
      rw [hv] at hn;have qe:=aI qR (aI @hx (aI @zax (aI @d1' (aI @d2' (aI @d3' (aI @decide_true @decide_false))))));repeat' first|refine gC ?_ ?_<;>intro hc<;>try contradiction|refine za (zdu x) ?_|refine zm (λ_=>zfG (s.sh.take i) x) ?_|refine gG ?_|show AK _;intro J Z|refine gJ ?_|omega|exact aT
      all_goals exact ⟨(i+1,zy x),⟨by omega,by rw [d1];exact hn⟩,by simp;omega,by simp⟩
   ·have d1':=eq_false d1;have hv:za3 s i x=zy x:=by rw [za3,zE d1]
    rw [hv] at hn;have qe:=aI qR (aI @hx (aI @zax (aI @d1' @decide_false)));repeat' first|refine gC ?_ ?_<;>intro hc<;>try contradiction|refine za (zdu x) ?_|refine zm (λ_=>zfG (s.sh.take i) x) ?_|refine gG ?_|show AK _;intro J Z|refine gJ ?_|omega|exact aT
    all_goals exact ⟨(i+1,zy x),⟨by omega,hn⟩,by simp;omega,by simp⟩
  ·have hf:=zxK he (λh=>hc (by simpa using h))
   rw [zwN,<-hf];exact gD0
def ziW {α:Type} {f:Nat->α->Int} {l:List α} (h:zf (l.mapIdx f)=0) {i:Nat} {x:α} (hx:l[i]?=some x):f i x=0:=fE0 h _ (xae (zz hx))
def zjq {b:Bk} (h:zu b=0) {i:Nat} {s:Slt} (hs:b.slots[i]?=some s):zaR b i s=0:=
 ziW (fE0 h (zf (b.slots.mapIdx (zaR b))) (by simp)) hs
def zmn {b:Bk} (h:zu b=0) {i:Nat} {w:Wsh} (hs:b.wait[i]?=some w):zap b i w=0:=
 ziW (fE0 h (zf (b.wait.mapIdx (zap b))) (by simp)) hs
def zh4 {b:Bk} (h:zu b=0) {s:Slt} (hs:s ∈ b.slots):zae s=0:=by
 obtain ⟨i,hi⟩:=xaU.1 hs;exact fE0 (zjq h hi) _ (by simp)
def bk_q {b:Bk} (h:zu b=0) {s:Slt} (hs:s ∈ b.slots):zfn s.req=0:=fE0 (zh4 h hs) _ (by simp)
def zfq {b:Bk} (h:zu b=0) {s:Slt} (hs:s ∈ b.slots):zbk s.req=0:=zwO (bk_q h hs)
def zyL (L:List Req):rqW L (-1)=L:=by
 have key:∀ k,k<=L.length->rqK L (-1) k=L.take k:=by
  intro k
  induction k with
  | zero=>intro _;rfl
  | succ k ih=>
   intro hk;have h:=ih (by omega)
   rw [rqK] at h;have hx:L[k]?=some L[k]:=xab (by omega)
   rw [rqK,xbt,xbc,h,zM hx,xaH,xbn,rqI,hx];simp only;rw [if_neg (by omega),xat]
 rw [rqW,key _ (xah _),xaG]
def zvU {r:Req} (h:zbk r=0):zR (zaT r)=0/\(zaT r).length<=401:=by
 have hp:=zY (zaE h).1;have hl:(zaT r).length<=401:=by
  have:=zbx r.per;simp only [zaT,xaf];omega
 refine ⟨zh3 (by omega) (λx hx=>?_) ?_,hl⟩
 ·obtain ⟨d,hd,rfl⟩:=zfK hx;exact zkI h hd
 ·unfold zaT;refine (xbI).2 ((zbp r.per).imp fun {a b} hab=>?_)
  simp only [za9];omega
def zCK {L:List Slt} (h:∀ s ∈ L,zbk s.req=0) (hn:L.length<=70):∀ k≤L.length,mvF ((L.map (·.req)).take k)=mvS (L.take k)/\zR (mvS (L.take k))=0/\(mvS (L.take k)).length<=401*k:=by
 intro k
 induction k with
 | zero=>intro _;exact ⟨rfl,rfl,xa5 _⟩
 | succ k ih=>
  intro hk;obtain ⟨e1,e2,e3⟩:=ih (by omega)
  have hx:L[k]?=some L[k]:=xab (by omega)
  have hq:=h L[k] (xcd _);obtain ⟨m1,m2⟩:=zvU hq;have hl:(mvS (L.take k)).length+(zaT L[k].req).length<=30000:=by omega
  have hg:mgE (mvS (L.take k)) (zaT L[k].req)=0:=ze.2 ⟨e2,ze.2 ⟨m1,ze.2 ⟨if_neg (by omega),rfl⟩⟩⟩
  obtain ⟨k1,k2⟩:=zvX (zaJ e2).2.1 (zaJ m1).2.1 hl;have hxr:(L.map (·.req))[k]?=some L[k].req:=by rw [xai,hx];rfl
  rw [znk hxr,zvP hx,e1,zzG,if_pos hq,mgR,if_pos hg];exact ⟨rfl,k1,by rw [k2];omega⟩
def zA0 {b:Bk} (h:zu b=0):mvE b=mvS b.slots/\zR (mvS b.slots)=0/\(mvS b.slots).length<=401*b.slots.length:=by
 have hn:=zgX h;have:=zCK (λs hs=>zfq h hs) (by omega) b.slots.length (xah _)
 rw [xaG] at this;rw [mvE,if_pos h,zyL];have e:(b.slots.map (·.req)).take b.slots.length=b.slots.map (·.req):=xal (by simp)
 rw [e] at this;exact this
open Go.RowKit Go.Proofs.Tryz Go.ChangeShapes Go.WideShapes Go.ChangeAt
theorem zgr {α:Type} {f:α->PV}:∀ {xs:List PV},(∀ x ∈ xs,∃ a,x=f a)->∃ L:List α,xs=L.map f
 | [],_=>⟨[],rfl⟩
 | x::r,h=>by
  obtain ⟨a,rfl⟩:=h x (by simp)
  obtain ⟨L,rfl⟩:=zgr (xs:=r) λy hy=>h y (by simp [hy])
  exact ⟨a::L,rfl⟩
def leaT:List CP:=[.s,jT,jT]
def sltT:List CP:=[.s,.s,.s,.s,.s,.s,jT,jT,jT,jT,jT,jT,jT,.s,.sl true leaT,.sl false [.s]]
def wshT:List CP:=[.s,.s,.s,.s,.s,.s,jT,jT,jT,jT,jT,jT,jT,jT]
def zCU {n:Nat} {l:List PV} (h:FitAll (Fit n) leaT l):∃ L:Lea,.agg l=L.pv:=by
 cases n<;>(match l,h with
  | [_,_,_],⟨⟨a,ha⟩,⟨b,hb⟩,⟨c,hc⟩,_⟩=>subst ha hb hc;exact ⟨⟨a,b,c⟩,rfl⟩)
def zzP {n:Nat} {p:PV} (h:Fit (n+1) (.sl true leaT) p):∃ L:List Lea,p=.sl 3 (L.map Lea.pv):=by
 obtain ⟨xs,rfl,hx⟩:=h;obtain ⟨L,rfl⟩:=zgr (f:=Lea.pv) (xs:=xs) λx h=>by
  obtain ⟨l,rfl,hf⟩:=hx x h;exact zCU hf
 exact ⟨L,rfl⟩
def zyk {n:Nat} {p:PV} (h:Fit (n+1) (.sl false [.s]) p):∃ L:List ByteArray,p=.sl 1 (L.map .s):=by
 obtain ⟨xs,rfl,hx⟩:=h;obtain ⟨L,rfl⟩:=zgr (f:=PV.s) (xs:=xs) λx h=>by
  obtain ⟨l,rfl,hf⟩:=hx x h
  match l,hf with
  | [_],⟨h1,_⟩=>
   cases n<;>(obtain ⟨a,rfl⟩:=h1;exact ⟨a,rfl⟩)
 exact ⟨L,rfl⟩
def zBv {n:Nat} {l:List PV} (h:FitAll (Fit (n+1)) sltT l):∃ s:Slt,.agg l=s.pv:=by
 match l,h with
 | [_,_,_,_,_,_,_,_,_,_,_,_,_,_,_,_],⟨⟨a,ha⟩,⟨b,hb⟩,⟨c,hc⟩,⟨d,hd⟩,⟨e,he⟩,⟨f,hf⟩,⟨g,hg⟩,⟨i,hi⟩,⟨j,hj⟩,⟨k,hk⟩,⟨m,hm⟩,⟨o,ho⟩,⟨q,hq⟩,⟨r,hr⟩,h1,h2,_⟩=>
  subst ha hb hc hd he hf hg hi hj hk hm ho hq hr;obtain ⟨L,rfl⟩:=zzP h1;obtain ⟨S,rfl⟩:=zyk h2;exact ⟨⟨⟨a,b,c,d,e,f,⟨g,i,j⟩,k,m,o,q⟩,r,L,S⟩,rfl⟩
def zBm {n:Nat} {l:List PV} (h:FitAll (Fit n) wshT l):∃ w:Wsh,.agg l=w.pv:=by
 cases n<;>(match l,h with
  | [_,_,_,_,_,_,_,_,_,_,_,_,_,_],⟨⟨a,ha⟩,⟨b,hb⟩,⟨c,hc⟩,⟨d,hd⟩,⟨e,he⟩,⟨f,hf⟩,⟨g,hg⟩,⟨i,hi⟩,⟨j,hj⟩,⟨k,hk⟩,⟨m,hm⟩,⟨o,ho⟩,⟨q,hq⟩,⟨r,hr⟩,_⟩=>
   subst ha hb hc hd he hf hg hi hj hk hm ho hq hr;exact ⟨⟨⟨a,b,c,d,e,f,⟨g,i,j⟩,k,m,o,q⟩,r⟩,rfl⟩)
def parB:zxt prog 6 25=some (true,[.sl true sltT,.sl true wshT]):=by kernel_rfl
def fit_bk {p:PV} (h:zg7 prog 6 25 p):∃ b:Bk,p=b.pv:=by
 obtain ⟨⟨ag,c,l,hp,rfl,hl⟩,hb⟩:=h;rw [parB] at hp;simp only [xaC,xcl] at hp;obtain ⟨rfl,rfl⟩:=hp
 match l,hl with
 | [_,_],⟨⟨xs,rfl,hx⟩,⟨ys,rfl,hy⟩,_⟩=>
  obtain ⟨L,rfl⟩:=zgr (f:=Slt.pv) (xs:=xs) λx h=>by
   obtain ⟨l,rfl,hf⟩:=hx x h;exact zBv hf
  obtain ⟨W,rfl⟩:=zgr (f:=Wsh.pv) (xs:=ys) λx h=>by
   obtain ⟨l,rfl,hf⟩:=hy x h;exact zBm hf
  exact ⟨⟨L,W⟩,rfl⟩
open Go.RowKit Go.Proofs.Tryz
def SrtI (f:Nat) (cs:List PV) (L:List Int):Prop:=∀ (i j:Nat) (x y:Int),i < j->L[i]?=some x->L[j]?=some y->∃ c:Int,0<=c/\Pure prog f ([]++[.i .i64 y,.i .i64 x]++cs) (.i .i64 c)
def ztd {f:Nat} {cs:List PV} (L:List Int) (b:Int) (hb:b=L.length) (hn:L.length<=1000000) (hs:SrtI f cs L):Acts prog 249 [.row 900 L.length,.p (.i .i64 0),.p (.i .i64 b),.p (.fn (.func f) [] cs)] [(900,.row 3 1 (L.map (.i .i64)) false)] (.p (.tup [])) [(900,.row 3 1 (L.map (.i .i64)) false)]:=by
 subst hb;refine zF (cF func249 f249.eq_1) (by simp) (by simp [scPs,scP,zp]) (by simp [scObj]) ⟨rfl,trivial⟩ (by simp [scObj]) (by simp [zb1,zp]) λX hX=>?_
 unfold zA ghO;have qe:=aI qR @gLV.eq_2;repeat' first|refine gC ?_ ?_<;>intro hc<;>try contradiction|refine gG ?_|show AK _;intro J Z|refine gJ ?_|omega|exact aT
 refine zh (κ:=Nat) (λi=>⟨[(0,.row 900 L.length),(1,.p (.i .i64 0)),(2,.p (.i .i64 L.length)),(3,.p (.fn (.func f) [] cs)),(8,.p (.i .i64 i)),(1000900,.row 900 L.length)],[(900,.row 3 1 (L.map (.i .i64)) false)],[],false⟩) (λi=>1<=i/\(i<=L.length\/i=1)) (λi=>L.length - i) 1 ?_ ?_ ?_
 ·simp only [qS,seval,gLV.eq_2]<;>simp
 ·simp
 ·intro i hi
  by_cases hlt:i < L.length
  ·obtain ⟨y,hy⟩:=zk (i:=i) (l:=L) hlt;obtain ⟨x,hx⟩:=zk (i:=i - 1) (l:=L) (by omega)
   obtain ⟨c,h0,hf⟩:=hs (i - 1) i x y (by omega) hx hy
   have i0:(0 < (i:Int))=True:=eq_true (by omega)
   have i1:(i:Int) - 1=((i - 1:Nat):Int):=by omega
   have hc':(c < 0)=False:=eq_false (by omega)
   have qe:=@qR;repeat' first|refine gC ?_ ?_<;>intro hc<;>try contradiction|refine gG ?_|show AK _;intro J Z|refine gJ ?_|omega|exact aT
   refine zh (κ:=Unit) (λ_=>⟨[(0,.row 900 L.length),(1,.p (.i .i64 0)),(2,.p (.i .i64 L.length)),(3,.p (.fn (.func f) [] cs)),(8,.p (.i .i64 i)),(9,.p (.i .i64 i)),(1000900,.row 900 L.length)],[(900,.row 3 1 (L.map (.i .i64)) false)],[],false⟩) (λ_=>True) (λ_=>0) () ?_ ?_ ?_
   ·exact sS
   ·trivial
   ·intro _ _;have qe:=aI qR (aI @i0 (aI @i1 (aI @hx (aI @hy (aI @hc' (aI @rtN @rtR))))));repeat' first|refine gC ?_ ?_<;>intro hc<;>try contradiction|refine zn (hf) ?_|refine gG ?_|show AK _;intro J Z|refine gJ ?_|omega|exact aT
    all_goals exact ⟨i+1,by omega,by omega,by simp⟩
  ·have qe:=aI qR (aI @rtN @rtR);repeat' first|refine gC ?_ ?_<;>intro hc<;>try contradiction|refine gG ?_|show AK _;intro J Z|refine gJ ?_|omega|exact aT
   all_goals exact .inl (.mk0 (h2:=by simp only [qS,seval,keepG.eq_1,keepG.eq_2,gLV.eq_1,gLV.eq_2]<;>simp))
def zte {f:Nat} {cs:List PV} (L:List Int) (hn:L.length < 20) (hs:SrtI f cs L):Acts prog 228 [.row 900 L.length,.p (.i .i64 L.length),.p (.fn (.func f) [] cs)] [(900,.row 3 1 (L.map (.i .i64)) false)] (.p (.tup [])) [(900,.row 3 1 (L.map (.i .i64)) false)]:=by
 refine zF (cF func228 f228.eq_1) (by simp) (by simp [scPs,scP,zp]) (by simp [scObj]) ⟨rfl,trivial⟩ (by simp [scObj]) (by simp [zb1,zp]) λX hX=>?_
 unfold zA ghO;have hge:((20:Int)<=L.length)=False:=eq_false (by omega)
 have qe:=aI qR @gLV.eq_2;repeat' first|refine gC ?_ ?_<;>intro hc<;>try contradiction|refine gG ?_|show AK _;intro J Z|refine gJ ?_|omega|exact aT
 refine zh (κ:=Unit) (λ_=>⟨[(0,.row 900 L.length),(1,.p (.i .i64 L.length)),(2,.p (.fn (.func f) [] cs)),(6,.p (.i .i64 20)),(7,.p (.i .i64 0)),(8,.p (.i .i64 20)),(1000900,.row 900 L.length)],[(900,.row 3 1 (L.map (.i .i64)) false)],[],false⟩) (λ_=>True) (λ_=>0) () ?_ ?_ ?_
 ·simp only [qS,seval,gLV.eq_2]<;>simp
 ·trivial
 ·intro _ _;have qe:=aI qR (aI @qN (aI @hge (aI @rtN @rtR)));repeat' first|refine gC ?_ ?_<;>intro hc<;>try contradiction|refine zo [] (ztd L L.length rfl (by omega) hs) ?_|refine gG ?_|show AK _;intro J Z|refine gJ ?_|omega|exact aT
  refine zh (κ:=Unit) (λ_=>⟨[(1,.p (.i .i64 L.length)),(6,.p (.i .i64 20)),(1000900,.row 900 L.length)],[(900,.row 3 1 (L.map (.i .i64)) false)],[],false⟩) (λ_=>True) (λ_=>0) () ?_ ?_ ?_
  ·exact sS
  ·trivial
  ·intro _ _;have hlt:((20:Int) < L.length)=False:=eq_false (by omega)
   have qe:=aI qR (aI @hlt (aI @rtN @rtR));repeat' first|refine gC ?_ ?_<;>intro hc<;>try contradiction|refine gG ?_|show AK _;intro J Z|refine gJ ?_|omega|exact aT
   all_goals exact .inl (.mk0 (h2:=by simp only [qS,seval,keepG.eq_1,keepG.eq_2,gLV.eq_1,gLV.eq_2]<;>simp))
def ztf {f:Nat} {cs:List PV} (L:List Int) (hn:L.length < 20) (hs:SrtI f cs L):Acts prog 190 [.row 900 L.length,.p (.fn (.func f) [] cs)] [(900,.row 3 1 (L.map (.i .i64)) false)] (.p (.tup [])) [(900,.row 3 1 (L.map (.i .i64)) false)]:=by
 refine zF (cF func190 f190.eq_1) (by simp) (by simp [scPs,scP,zp]) (by simp [scObj]) ⟨rfl,trivial⟩ (by simp [scObj]) (by simp [zb1,zp]) λX hX=>?_
 unfold zA ghO;have qe:=aI qR (aI @qN (aI @gLV.eq_2 (aI @rtN @rtR)));repeat' first|refine gC ?_ ?_<;>intro hc<;>try contradiction|refine zo [] (zte L hn hs) ?_|refine gG ?_|show AK _;intro J Z|refine gJ ?_|omega|exact aT
 all_goals exact .inl (.mk0 (h2:=by simp only [qS,seval,keepG.eq_1,keepG.eq_2,gLV.eq_1,gLV.eq_2]<;>simp))
end Go.Proofs.YtocamnijnhnlfaaGreat
