/- Contracts of functions, for the claim. No conditions. -/
import Derived.Test.YtocamnijnhnlfaaGreatK9
import Derived.Test.YtocamnijnhnlfaaGreatK12
import Derived.Test.YtocamnijnhnlfaaGreatK10
import Derived.Test.YtocamnijnhnlfaaGreatK11
set_option linter.all false
set_option maxHeartbeats 8000000
set_option maxRecDepth 100000
namespace Go.Proofs.YtocamnijnhnlfaaGreat
open Go.RowKit Go.Proofs.Tryz
theorem zx3 {n:ByteArray}:∀ {l:List ByteArray},¬atL n l < 0->l[(atL n l).toNat]?=some n
 | [],h=>absurd (show atL n [] < 0 by simp [atL]) h
 | x::r,h=>by
  simp only [atL] at h ⊢
  split
  ·rename_i e;simp [e]
  ·rename_i e;rw [if_neg e] at h
   split
   ·rename_i k;rw [if_pos k] at h;omega
   ·rename_i k;have h2:=zx3 (l:=r) k;have h3:(atL n r+1).toNat=(atL n r).toNat+1:=by omega
    rw [h3];simpa using h2
def zob {b:Bk} {n:ByteArray} (h:¬atL n (b.slots.map (·.req.name)) < 0):(b.slots.map (·.req.name))[zD b n]?=some n:=zx3 h
abbrev flyN (n:ByteArray) (m:Int):UNt:=⟨zfN,n,m,sA,0,0,s0,0⟩
abbrev ztq (n:ByteArray) (a b t:Int):UNt:=⟨zke,n,0,s0,a,b,s0,t⟩
def zq7:Pure prog 186 [.s zfN] (.tup [.b true,.b true,.b false,.b false,.b false]):=by
 refine pz func186 f186.eq_1 λhw X hX=>?_
 have e1:(zfN=zpL)=False:=eq_false (by decide)
 have e3:(zfN=zpM)=False:=eq_false (by decide)
 have e4:(zfN=zke)=False:=eq_false (by decide)
 have qe:=aI qR (aI @e1 (aI @e3 @e4));exact gD0
def zq8:Pure prog 186 [.s zke] (.tup [.b true,.b false,.b true,.b false,.b true]):=by
 refine pz func186 f186.eq_1 λhw X hX=>?_
 have e1:(zke=zpL)=False:=eq_false (by decide)
 have e2:(zke=zfN)=False:=eq_false (by decide)
 have e3:(zke=zpM)=False:=eq_false (by decide)
 have qe:=aI qR (aI @e1 (aI @e2 @e3));exact gD0
def zmS (d:Int):Pure prog 188 [.i .i64 d] (.i .i64 (rng d 0 99999)):=by
 refine pz func188 f188.eq_1 λhw X hX=>?_
 have jA:=λu1 u2 u3=>zcz u1 u2 u3;exact gD2
def zmR (b:Bool) (e:Int):Pure prog 187 [.b b,.i .i64 e] (.i .i64 (if b then e else 0)):=by
 refine pz func187 f187.eq_1 λhw X hX=>?_
 have jA:=λu1 u2=>zcA u1 u2;exact gD2
def zq9 (n:ByteArray) (m:Int) (h1:zy n=0) (h2:rng m 0 143999999=0):Pure prog 135 [(flyN n m).pv] (.i .i64 0):=by
 refine pz func135 f135.eq_1 λhw X hX=>?_
 have hk:(0<=atL zfN [zfN,zke,zpM,zpL])=True:=eq_true (by decide)
 have hm:zj1 sA=0:=by decide
 have qe:=aI qR (aI @hk (aI @hm (aI @h1 @h2)));repeat' first|refine gC ?_ ?_<;>intro hc<;>try contradiction|refine za (ziD [zfN,zke,zpM,zpL] zfN) ?_|refine za (zq7) ?_|refine za (zfz _) ?_|refine za (zmR _ _) ?_|refine za (zcz _ _ _) ?_|refine za (zfy _) ?_|refine za (zmS _) ?_|refine za (zcA _ _) ?_|refine za (zbG [_,_,_,_,_,_,_,_,_]) ?_|refine gG ?_|show AK _;intro J Z|refine gJ ?_|omega|exact aT
 all_goals exact .refl _
def zra (n:ByteArray) (a b t:Int) (h1:zy n=0) (h2:rng a 0 99999=0) (h3:rng b 0 99999=0) (h4:a<=b) (h5:rng t 0 99999=0):Pure prog 135 [(ztq n a b t).pv] (.i .i64 0):=by
 refine pz func135 f135.eq_1 λhw X hX=>?_
 have hk:(0<=atL zke [zfN,zke,zpM,zpL])=True:=eq_true (by decide)
 have hlt:(b < a)=False:=eq_false (by omega)
 have qe:=aI qR (aI @hk (aI @h1 (aI @h2 (aI @h3 (aI @h5 @hlt)))));repeat' first|refine gC ?_ ?_<;>intro hc<;>try contradiction|refine za (ziD [zfN,zke,zpM,zpL] zke) ?_|refine za (zq8) ?_|refine za (zfz _) ?_|refine za (zmR _ _) ?_|refine za (zcz _ _ _) ?_|refine za (zfy _) ?_|refine za (zmS _) ?_|refine za (zcA _ _) ?_|refine za (zbG [_,_,_,_,_,_,_,_,_]) ?_|refine gG ?_|show AK _;intro J Z|refine gJ ?_|omega|exact aT
 all_goals exact .refl _
def zuS (n:UNt):Pure prog 144 [n.pv] (.b (decide (n.kind=zfN))):=by
 refine pz func144 f144.eq_1 λhw X hX=>?_
 have qe:=@qR;exact gD0
abbrev zym (n:UNt):USl:=⟨n.name,n.mom,n.move⟩
def zuR (n:UNt):Pure prog 145 [n.pv] (zym n).pv:=by
 refine pz func145 f145.eq_1 λhw X hX=>?_
 have qe:=@qR;exact gD0
def cmpU (a b:USl):Int:=zf [zeC a.mom b.mom,zk3 a.name b.name,zk3 a.kind b.kind]
def zuQ (a b:USl):Pure prog 147 [a.pv,b.pv] (.i .i64 (cmpU a b)):=by
 refine pz func147 f147.eq_1 λhw X hX=>?_
 have qe:=@qR;have jA:=λu1 u2=>zgd u1 u2;have jB:=λu1 u2=>ziH u1 u2;have jC:=λu1 u2 u3=>zlA [u1,u2,u3];exact gD4
def zb0 (L:List UNt):List USl:=(L.filter λn=>decide (n.kind=zfN)).map zym
def ziN (F:List USl):Prop:=F.Pairwise λx y=>x.mom < y.mom
def zrt {F:List USl} (h:ziN F) (i j:Nat) (x y:USl) (hij:i < j) (hx:F[i]?=some x) (hy:F[j]?=some y):x.mom < y.mom:=by
 obtain ⟨h1,rfl⟩:=xaa.1 hx;obtain ⟨h2,rfl⟩:=xaa.1 hy;exact xaw.1 h i j h1 h2 hij
def zyl {F:List USl} (h:ziN F):zBa 147 [] F:=λi j x y hij hx hy=>by
 refine ⟨1,by decide,?_⟩
 have:=zuQ y x;have hi:=zrt h i j x y hij hx hy;have hc:cmpU y x=1:=by
  have e:zeC y.mom x.mom=1:=by rw [zeC,if_neg (by omega),if_pos hi]
  rw [cmpU,e];rfl
 rw [hc] at this;exact this
def zw2 {f:Nat} (L:List UNt) (g:UNt->USl) (hf:∀ s ∈ L,Pure prog f [s.pv] (g s).pv) (hn:L.length<=100000):Acts prog 142 [.p (.sl 8 (L.map UNt.pv)),.p (.fn (.func f) [] [])] [] (.row 100 L.length) [(100,.row 55 3 ((L.map g).map USl.pv) false)]:=by
 refine zF (cF func142 f142.eq_1) (by simp) (by simp [scPs,scP]) (by simp [scObj]) trivial (by simp [scObj]) trivial λX hX=>?_
 unfold zA ghO;have qe:=aI qR (aI @rtN @rtR);repeat' first|refine gC ?_ ?_<;>intro hc<;>try contradiction|refine gG ?_|show AK _;intro J Z|refine gJ ?_|omega|exact aT
 refine zaf 100 55 3 [(1,.p (.fn (.func f) [] [])),(5,.row 100 0),(8,.p (.sl 8 (L.map UNt.pv))),(9,.p (.i .i64 L.length)),(10,.p (.i .i64 0))] [] ?_ ?_
 ·simp only [Own,zam,zaj,za8,zad,qS,seval]
 refine zh (κ:=Nat) (λk=>⟨[(1,.p (.fn (.func f) [] [])),(5,.row 100 k),(8,.p (.sl 8 (L.map UNt.pv))),(9,.p (.i .i64 L.length)),(10,.p (.i .i64 k))],[(100,.row 55 3 (((L.take k).map g).map USl.pv) false)],[],false⟩) (λk=>k<=L.length) (λk=>L.length - k) 0 ?_ ?_ ?_
 ·exact sS
 ·simp
 ·intro k hk
  repeat first|refine gG ?_|show AK _;intro J Z|refine gJ ?_|omega|exact aT
  (refine gC ?_ ?_<;>intro hc<;>try contradiction)
  ·obtain ⟨x,hx⟩:=zk (i:=k) (l:=L) (by omega)
   have hl:(L.take k).length=k:=by rw [xaj];omega
   have qe:=aI qR (aI @hx @hl);repeat' first|refine gC ?_ ?_<;>intro hc<;>try contradiction|refine zn (hf x (xae hx)) ?_|refine gG ?_|show AK _;intro J Z|refine gJ ?_|omega|exact aT
   exact ⟨k+1,by omega,by omega,by simp,by rw [zM hx];simp;omega⟩
  ·obtain rfl:k=L.length:=by omega
   have qe:=aI qR (aI @List.take_length.{0} (aI @rtN @rtR));repeat' first|refine gC ?_ ?_<;>intro hc<;>try contradiction|refine gG ?_|show AK _;intro J Z|refine gJ ?_|omega|exact aT
   exact .inl .mk1
def zuU (L:List UNt) (hn:L.length<=100000) (h14:(zb0 L).length<=14) (h:ziN (zb0 L)):Pure prog 86 [.sl 8 (L.map UNt.pv)] (.sl 3 ((zb0 L).map USl.pv)):=by
 have h1:=zuT (f:=144) L (λn=>decide (n.kind=zfN)) (λn _=>zuS n) hn
 have h2:=zw2 (f:=145) (L.filter λn=>decide (n.kind=zfN)) zym (λn _=>zuR n) (xaV (xa6 ..) hn)
 have h3:=ztc (f:=147) (cs:=[]) (zb0 L) h14 (zyl h);have hl:(zb0 L).length=(L.filter λn=>decide (n.kind=zfN)).length:=xaf ..
 rw [hl] at h3;refine pz func86 f86.eq_1 λhw X hX=>?_
 have qe:=aI qR (aI @qN (aI @rtN @rtR));repeat' first|refine gC ?_ ?_<;>intro hc<;>try contradiction|refine za (h1) ?_|refine zo [(100,6)] (h2) ?_|refine zo [(900,6)] (h3) ?_|refine gG ?_|show AK _;intro J Z|refine gJ ?_|omega|exact aT
 all_goals exact ⟨hl.symm,.refl _⟩
def zmQ (n:UNt) (d:Int):Pure prog 138 [n.pv,.i .i64 d] (.b (decide (n.fro<=d) && decide (d<=n.to))):=by
 refine pz func138 f138.eq_1 λhw X hX=>?_
 have qe:=@qR;exact gD0
def zbK (s:USl) (n:UNt):Bool:=decide (n.kind=zke) && decide (n.name=s.name) && (decide (n.fro<=s.mom / 1440) && decide (s.mom / 1440<=n.to)) && decide (n.told+7<=s.mom / 1440)
def zuO (n:UNt) (s:USl) (h0:0<=n.told) (h1:n.told<=99999):Pure prog 137 [n.pv,.ip s.pv 0,.ip (.i .i64 (s.mom / 1440)) 0,.ip zc6 0] (.b (zbK s n)):=by
 refine pz func137 f137.eq_1 λhw X hX=>?_
 have qe:=@qR;have jA:=λu1 u2=>zmQ u1 u2;exact gD2
def zuM (n:UNt) (s:USl) (d:Int) (h1:n.kind≠zpL) (h2:n.kind≠zpM):Pure prog 139 [n.pv,.ip (.i .i64 d) 0,.ip s.pv 0,.ip zc6 0] (.b false):=by
 refine pz func139 f139.eq_1 λhw X hX=>?_
 have e1:(n.kind=zpL)=False:=eq_false h1;have e2:(n.kind=zpM)=False:=eq_false h2;have qe:=aI qR (aI @e1 @e2);repeat' first|refine gC ?_ ?_<;>intro hc<;>try contradiction|refine za (zmQ _ _) ?_|(show zj _ _ _ _ (⟨_,.call 126,_,_,_⟩::_) _ _;refine zbR (q:=(.b false)) (by first|rfl|(simp (disch:=omega) only [qG,qe,seval]<;>rfl)) ?_;(try (refine zB ?_)))|refine gG ?_|show AK _;intro J Z|refine gJ ?_|omega|exact aT
 all_goals (refine zyd ?_;simp)
def zuE {f:Nat} {caps:List PV} {L:List UNt} {p:UNt->Bool} (hf:∀ w ∈ L,Pure prog f (w.pv::caps) (.b (p w))):Pure prog 189 [.sl 8 (L.map UNt.pv),.fn (.func f) [] caps] (.i .i64 (zct p L)):=by
 refine pz func189 f189.eq_1 λhw X hX=>?_
 simp only [wfs,PV.wf,xaf,maxLen] at hw
 repeat' first|refine gC ?_ ?_<;>intro hc<;>try contradiction|refine gG ?_|show AK _;intro J Z|refine gJ ?_|omega|exact aT
 refine zh (κ:=Nat) (λi=>⟨[(0,.p (.sl 8 (L.map UNt.pv))),(1,.p (.fn (.func f) [] caps)),(7,.p (.i .i64 L.length)),(8,.p (.i .i64 i))],[],[],false⟩) (λi=>i<=L.length/\∀ y ∈ L.take i,p y=false) (λi=>L.length - i) 0 ?_ ?_ ?_
 ·exact sR
 ·simp
 ·intro i hi
  repeat first|refine gG ?_|show AK _;intro J Z|refine gJ ?_|omega|exact aT
  (refine gC ?_ ?_<;>intro hc<;>try contradiction)
  ·obtain ⟨y,hy⟩:=zk (i:=i) (l:=L) (by omega)
   have qe:=@hy;repeat' first|refine gC ?_ ?_<;>intro hc<;>try contradiction|refine zn (hf y (xae hy)) ?_|refine gG ?_|show AK _;intro J Z|refine gJ ?_|omega|exact aT
   ·rw [zaX hi.2 hy hc];exact .refl _
   ·exact ⟨i+1,⟨by omega,zdU hi.2 hy (by simpa using hc)⟩,by omega,by simp⟩
  ·repeat' first|refine gC ?_ ?_<;>intro hc<;>try contradiction|refine gG ?_|show AK _;intro J Z|refine gJ ?_|omega|exact aT
   have e:i=L.length:=by omega
   subst e;rw [zbJ (λy hy=>hi.2 y (by rw [xal (by simp)];exact hy))];exact .refl _
theorem znv {α:Type} (p:α->Bool):∀ L:List α,decide (0<=zct p L)=L.any p
 | []=>by simp [zct]
 | x::L=>by
  have ih:=znv p L;rw [zct,List.any_cons,<-ih]
  split<;>rename_i h
  ·simp [h]
  ·have hx:p x=false:=by simpa using h
   rw [hx,xbJ]
   split<;>rename_i h2<;>simp<;>omega
def zmL {f:Nat} {caps:List PV} {L:List UNt} {p:UNt->Bool} (hf:∀ w ∈ L,Pure prog f (w.pv::caps) (.b (p w))):Pure prog 136 [.sl 8 (L.map UNt.pv),.fn (.func f) [] caps] (.b (L.any p)):=by
 refine pz func136 f136.eq_1 λhw X hX=>?_
 have h:=zuE hf;have qe:=@qR;repeat' first|refine gC ?_ ?_<;>intro hc<;>try contradiction|refine za (h) ?_|refine gG ?_|show AK _;intro J Z|refine gJ ?_|omega|exact aT
 rw [znv];exact .refl _
def zuP (s:USl) (L:List UNt) (h0:0<=s.mom) (h1:s.mom<=143999999) (hL:∀ n ∈ L,0<=n.told/\n.told<=99999):Pure prog 83 [zc6,s.pv,.sl 8 (L.map UNt.pv)] (.b (L.any (zbK s))):=by
 have h:=zmL (f:=137) (caps:=[.ip s.pv 0,.ip (.i .i64 (s.mom / 1440)) 0,.ip zc6 0]) (L:=L) (p:=zbK s) λn hn=>zuO n s (hL n hn).1 (hL n hn).2
 refine pz func83 f83.eq_1 λhw X hX=>?_
 have e:s.mom.tdiv 1440=s.mom / 1440:=xbf h0;have qe:=aI qR @e;have jA:=h;exact gD2
def zuN (s:USl) (L:List UNt) (h0:0<=s.mom) (h1:s.mom<=143999999) (hL:∀ n ∈ L,n.kind≠zpL/\n.kind≠zpM):Pure prog 84 [zc6,s.pv,.sl 8 (L.map UNt.pv)] (.b false):=by
 have h:=zmL (f:=139) (caps:=[.ip (.i .i64 (s.mom / 1440)) 0,.ip s.pv 0,.ip zc6 0]) (L:=L) (p:=λ_=>false) λn hn=>zuM n s _ (hL n hn).1 (hL n hn).2
 have hn:L.any (λ_=>false)=false:=by simp
 rw [hn] at h;refine pz func84 f84.eq_1 λhw X hX=>?_
 have e:s.mom.tdiv 1440=s.mom / 1440:=xbf h0;have qe:=aI qR @e;have jA:=h;exact gD2
def zuL (s x:USl) (h0:0<=s.mom) (h1:s.mom<=143999999):Pure prog 141 [zc6,s.pv,x.pv] (.b (zbB zbj s x)):=by
 refine pz func141 f141.eq_1 λhw X hX=>?_
 have qe:=@qR;repeat' first|refine gC ?_ ?_<;>intro hc<;>try contradiction|refine gG ?_|show AK _;intro J Z|refine gJ ?_|omega|exact aT
 exact zyd rfl
def zuK (L:List USl) (a b:Nat) (x y:USl) (ha:L[a]?=some x) (hb:L[b]?=some y):Pure prog 191 [.i .i64 a,.i .i64 b,.ip (.sl 3 (L.map USl.pv)) 0] (.i .i64 (zeC x.mom y.mom)):=by
 have la:=(xaa.1 ha).1;have lb:=(xaa.1 hb).1;refine pz func191 f191.eq_1 λhw X hX=>?_
 have qe:=aI qR (aI @ha @hb);have jA:=λu1 u2=>zgd u1 u2;exact gD2
def zhc (n:Nat):List Int:=(List.range n).map λi:Nat=>(i:Int)
def zbh (n:Nat):(zhc n).length=n:=by simp [zhc]
def zr7 {n i:Nat} {x:Int} (h:(zhc n)[i]?=some x):i < n/\x=(i:Int):=by
 obtain ⟨h1,h2⟩:=xaa.1 h;rw [zbh] at h1;simp [zhc] at h2;exact ⟨h1,h2.symm⟩
def zru (n k:Nat):List PV:=(zhc k).map (.i .i64)++List.replicate (n - k) (.i .i64 0)
def zCB (n:Nat):zru n 0=List.replicate n (.i .i64 0):=by simp [zru,zhc]
def zCA (n:Nat):zru n n=(zhc n).map (.i .i64):=by simp [zru]
def znd {n k:Nat} (h:k<=n):(zru n k).length=n:=by simp [zru,zbh];omega
def zvG {n k:Nat} (h:k < n):(zru n k).set k (.i .i64 k)=zru n (k+1):=by
 obtain ⟨m,rfl⟩:∃ m,n=k+1+m:=⟨n - (k+1),by omega⟩
 have e1:k+1+m - k=m+1:=by omega
 have e2:k+1+m - (k+1)=m:=by omega
 rw [zru,zru,e1,e2,xcp,xbe _ _ (by simp [zbh])]
 simp [zhc,xbt]
def zmP (L:List USl) (hn:L.length < 20) (ho:ziN L):Pure prog 140 [.sl 3 (L.map USl.pv)] (.sl 1 ((zhc L.length).map (.i .i64))):=by
 have hs:SrtI 191 [.ip (.sl 3 (L.map USl.pv)) 0] (zhc L.length):=λi j x y hij hx hy=>by
  obtain ⟨hi,rfl⟩:=zr7 hx;obtain ⟨hj,rfl⟩:=zr7 hy;obtain ⟨a,ha⟩:=zk (i:=i) (l:=L) hi;obtain ⟨b,hb⟩:=zk (i:=j) (l:=L) hj;refine ⟨1,by decide,?_⟩
  have:=zuK L j i b a hb ha;have hm:=zrt ho i j a b hij ha hb;rw [zeC,if_neg (by omega),if_pos (by omega)] at this
  exact this
 have h45:=ztf (zhc L.length) (by rw [zbh];exact hn) hs
 rw [zbh] at h45;refine pz func140 f140.eq_1 λhw X hX=>?_
 have hz:((L.length:Int)).toNat=L.length:=xbz _;have qe:=aI qR @hz;repeat' first|refine gC ?_ ?_<;>intro hc<;>try contradiction|refine gG ?_|show AK _;intro J Z|refine gJ ?_|omega|exact aT
 refine zh (κ:=Nat) (λk=>⟨[(1,.lp 1 0),(3,.row 7 L.length),(9,.p (.i .i64 L.length)),(10,.p (.i .i64 k))],[(1,.box [.p (.sl 3 (L.map USl.pv))] false),(7,.row 3 1 (zru L.length k) false)],[],false⟩) (λk=>k<=L.length) (λk=>L.length - k) 0 ?_ ?_ ?_
 ·refine gJ ?_;simp [zCB]
 ·simp
 ·intro k hk;have hl:=znd hk
  repeat first|refine gG ?_|show AK _;intro J Z|refine gJ ?_|omega|exact aT
  (refine gC ?_ ?_<;>intro hc<;>try contradiction)
  ·have hse:=zvG (n:=L.length) (k:=k) (by omega)
   have qe:=aI qR (aI @hl @hse);repeat' first|refine gC ?_ ?_<;>intro hc<;>try contradiction|refine gG ?_|show AK _;intro J Z|refine gJ ?_|omega|exact aT
   exact ⟨k+1,by omega,by omega,by simp [znd (show k+1<=L.length by omega)]⟩
  ·obtain rfl:k=L.length:=by omega
   refine zio ?_;rw [zCA];refine (show Run _ (.seq _ _) _ _ from zeP ?_)
   refine (show Run _ (.ops false _) _ _ from zeQ (zbQ 2 ?_))
   simp only [xby,xcf,xbW,xb3];have qe:=@qR;repeat' first|refine gC ?_ ?_<;>intro hc<;>try contradiction|refine gG ?_|show AK _;intro J Z|refine gJ ?_|omega|exact aT
   refine zbc (zgE 19 (.fn (.func 191) [] [.ip (.sl 3 (L.map USl.pv)) 0]) (sR) (by first|trivial|simp) (.refl _)) ?_
   rintro _ rfl;refine zB ?_;have qe:=aI qR (aI @qN (aI @zbh (aI @rtN @rtR)));repeat' first|refine gC ?_ ?_<;>intro hc<;>try contradiction|refine zo [(900,7)] (h45) ?_|refine gG ?_|show AK _;intro J Z|refine gJ ?_|omega|exact aT
   all_goals exact .refl _
def ltI (d x:Int):List Int:=if x < d then [x] else []
def ltL (d:Int) (L:List Int):List Int:=L.flatMap (ltI d)
def bkI (d:Int) (l:Lea):List Lea:=if l.fro < d then [zBj (d - 1) l] else []
def bkL (d:Int) (L:List Lea):List Lea:=L.flatMap (bkI d)
def bkS (s:Slt) (d:Int):Slt:=⟨{ s.req with per:=zeH s.req.per d },s.holder,bkL d s.ls,s.sh⟩
def bkY (b:Bk) (n:ByteArray) (d:Int):Bk:=if ltL d (zq (zl b n).req.per)=[] then ⟨b.slots.take (zD b n)++b.slots.drop (zD b n+1),b.wait⟩ else zfU b n (bkS (zl b n) d)
def zzH (d:Int) (A B:List Int):ltL d (A++B)=ltL d A++ltL d B:=by simp [ltL]
def zgR (p:Per) (d:Int) (hd:d<=p.to):ltL d (zq p)=zq (zeH p d):=by
 have key:∀ N:Nat,ltL d ((List.range N).flatMap λ(k:Nat)=>if inM p.days ((p.fro+k+5) % 7) then [p.fro+k] else [])=(List.range (min N (d - p.fro).toNat)).flatMap λ(k:Nat)=>if inM p.days ((p.fro+k+5) % 7) then [p.fro+k] else []:=by
  intro N
  induction N with
  | zero=>simp [ltL]
  | succ N ih=>
   rw [xbt,xbc,zzH,ih];simp only [xaH,xbn,xat]
   by_cases h:N < (d - p.fro).toNat
   ·rw [xbu (by omega),xbu (by omega),xbt,xbc]
    simp only [xaH,xbn,xat]
    congr 1
    split
    ·simp only [ltL,xaH,xbn,xat,ltI];rw [if_pos (by omega)]
    ·rfl
   ·rw [Nat.min_eq_right (by omega),Nat.min_eq_right (by omega)]
    have:ltL d (if inM p.days ((p.fro+(N:Int)+5) % 7) then [p.fro+(N:Int)] else [])=[]:=by
     split
     ·simp only [ltL,xaH,xbn,xat,ltI];rw [if_neg (by omega)]
     ·rfl
    rw [this,xat]
 unfold zq;rw [key];simp only [zeH]
 congr 2
 omega
theorem zs0 {d:Int}:∀ {L:List Lea},(∀ x ∈ L,x.fro<=x.to)->bkL d L=zdQ (d - 1) L
 | [],_=>rfl
 | x::r,h=>by
  have h1:=h x (by simp)
  have ih:bkL d r=zdQ (d - 1) r:=zs0 λy hy=>h y (by simp [hy])
  have e:bkI d x=zhd (d - 1) x:=by
   rw [bkI,zhd]
   by_cases k:x.fro < d
   ·rw [if_pos k,if_pos (by omega)]
   ·rw [if_neg k,if_neg (by omega)]
  rw [bkL,zdQ] at ih ⊢;rw [xaH,xaH,e,ih]
def zA3 {p:Per} {d:Int} (hp:zC p=0) (hd:d<=p.to) (hf:p.fro < d):zC (zeH p d)=0:=by
 have h:=zY hp;unfold zC;simp only [ze,zbd,ze2 (show (11:Int)≠0 by decide),ze2 (show (4:Int)≠0 by decide),zeH]
 refine ⟨by omega,by omega,by omega,by omega,by omega,rfl⟩
def zjs {b:Bk} {n:ByteArray} {d:Int} (hp:zC (zl b n).req.per=0) (hd:d<=(zl b n).req.per.to):zBk b n d↔¬ltL d (zq (zl b n).req.per)=[]:=by
 rw [zBk,zgR _ _ hd]
 constructor
 ·rintro ⟨h1,h2⟩ h3;rw [zcY,if_pos h1,h3] at h2;exact h2 rfl
 ·intro h;have hf:(zl b n).req.per.fro < d:=by
   apply xbk;intro k
   apply h
   have e:(d - 1 - (zl b n).req.per.fro+1).toNat=0:=by omega
   unfold zq;simp only [zeH];rw [e];rfl
  have h1:=zA3 hp hd hf;refine ⟨h1,λk=>h ?_⟩
  rw [zcY,if_pos h1] at k;exact xaq k
def zqO {b:Bk} (h:zu b=0) (c n:ByteArray) (d:Int):(if zmq b c n d=0 then bkY b n d else bk0)=zpR b c n d:=by
 rw [zpR]
 split
 ·rename_i k;have ho:zd2 b c n (rng d 0 99999)=0:=fE0 k _ (by simp)
  have he:znR (zl b n) d=0:=fE0 k _ (by simp)
  have hto:¬(zl b n).req.per.to < d:=λq=>by rw [znR,if_pos q] at he;omega
  obtain ⟨h1,h2,h3,h4⟩:=zab ho;have hp:=(zaE (zfq h (xae h2))).1;have hD:=zjs (b:=b) (n:=n) (d:=d) hp (by omega)
  rw [bkY,zA2]
  by_cases hl:ltL d (zq (zl b n).req.per)=[]
  ·rw [if_pos hl,if_neg (λq=>hD.1 q hl),zhm,zfU]
   simp only;rw [List.take_set_of_le (xah _),List.drop_set_of_lt (Nat.lt_succ_self _)]
  ·rw [if_neg hl,if_pos (hD.2 hl),zhm];have:bkS (zl b n) d=zpQ (zl b n) d:=by rw [bkS,zpQ,zs0 (λx hx=>zhp (zda h ho) hx)]
   rw [this]
 ·rfl
theorem zDb:∀ {l:List Int},(∀ x ∈ l,x=0)->zf l=0
 | [],_=>rfl
 | x::r,h=>ze.2 ⟨h x (by simp),zDb λy hy=>h y (by simp [hy])⟩
def zes {α:Type} {f:Nat->α->Int} {l:List α} (h:∀ i x,l[i]?=some x->f i x=0):zf (l.mapIdx f)=0:=zDb λy hy=>by
 obtain ⟨i,hi⟩:=xaU.1 hy;rw [List.getElem?_mapIdx] at hi;cases hx:l[i]? with
 | none=>rw [hx] at hi;cases hi
 | some x=>
  rw [hx] at hi;have e:f i x=y:=xaN hi;rw [<-e];exact h i x hx
def zqf {b:Bk} (h:zu b=0) {i:Nat} {s s':Slt} (hs:b.slots[i]?=some s) (hn:s'.req.name=s.req.name) (hv:zae s'=0):zu ⟨b.slots.set i s',b.wait⟩=0:=by
 have hnm:(b.slots.set i s').map (·.req.name)=b.slots.map (·.req.name):=zjY _ _ _ _ hs hn;have hT:∀ k,((b.slots.set i s').take k).map (·.req.name)=(b.slots.take k).map (·.req.name):=λk=>by rw [xb2,hnm,xb2]
 have e3:zap ⟨b.slots.set i s',b.wait⟩=zap b:=by funext k w;simp only [zap,hnm]
 have e4:zf ((b.slots.set i s').mapIdx (zaR ⟨b.slots.set i s',b.wait⟩))=0:=by
  refine zes λk x hx=>?_
  by_cases hk:i=k
  ·subst hk;have hlt:=(xaa.1 hs).1;rw [xbG hlt] at hx;have ex:s'=x:=xaN hx;subst ex;have h1:=zjq h hs;have h2:=fE0 h1 (if 0<=atL s.req.name ((b.slots.take i).map (·.req.name)) then 9 else 0) (by simp)
   refine ze.2 ⟨hv,ze.2 ⟨?_,rfl⟩⟩;rw [hn];simp only [hT];exact h2
  ·rw [xbQ hk] at hx;have h1:=zjq h hx;rw [zaR] at h1 ⊢;simp only [hT];exact h1
 have c1:=fE0 h (if 64 < (b.slots.length:Int) then 5 else 0) (by simp)
 have c3:=fE0 h (if 64 < (b.wait.length:Int) then 5 else 0) (by simp)
 have c4:=fE0 h (zf (b.wait.mapIdx (zap b))) (by simp)
 refine ze.2 ⟨?_,ze.2 ⟨e4,ze.2 ⟨c3,ze.2 ⟨?_,rfl⟩⟩⟩⟩
 ·simp only [xci];exact c1
 ·rw [e3];exact c4
def zkK {b:Bk} (h:zu b=0) {c n:ByteArray} {e:Int} (ho:zd2 b c n e=0) {s':Slt} (hn:s'.req.name=(zl b n).req.name) (hv:zae s'=0):zu (zfU b n s')=0:=zqf h (zab ho).2.1 hn hv
def zjF {s:Slt} (h:zae s=0) {L:List Lea} (hl:L.length<=8) (h1:∀ x ∈ L,zav x=0/\zbw s.raw x=0) (hp:L.Pairwise ztp):zae ⟨s.req,s.holder,L,s.sh⟩=0:=by
 have c1:=fE0 h (zfn s.req) (by simp)
 have c2:=fE0 h (zy s.holder) (by simp)
 have c5:=fE0 h (if 4 < (s.sh.length:Int) then 5 else 0) (by simp)
 have c6:=fE0 h (zf (s.sh.mapIdx (za3 s))) (by simp)
 refine ze.2 ⟨c1,ze.2 ⟨c2,ze.2 ⟨if_neg (show ¬(8:Int) < (L.length:Int) by omega),ze.2 ⟨?_,ze.2 ⟨c5,ze.2 ⟨c6,rfl⟩⟩⟩⟩⟩⟩
 refine zes λi x hx=>?_
 obtain ⟨a1,a2⟩:=h1 x (xae hx);refine ze.2 ⟨a1,ze.2 ⟨a2,ze.2 ⟨?_,rfl⟩⟩⟩;refine if_neg λk=>?_
 obtain ⟨k1,k2⟩:=k;obtain ⟨j,rfl⟩:∃ j,i=j+1:=⟨i - 1,by omega⟩
 have hx':L[j+1]?=some x:=hx;obtain ⟨hi,hxi⟩:=xaa.1 hx';have hj:L[j+1 - 1]?=some L[j]:=by rw [xbq];exact xab (by omega)
 have k2':x.fro<=((L[j+1 - 1]?).getD x).to:=k2;rw [hj] at k2';have hlt:=xaw.1 hp j (j+1) (by omega) hi (by omega)
 rw [hxi] at hlt;simp only [ztp] at hlt;have k3:x.fro<=(L[j]).to:=k2'
 omega
def zcw {b:Bk} (h:zu b=0) {i:Nat} {s:Slt} (hs:b.slots[i]?=some s):atL s.req.name (b.slots.map (·.req.name))=i:=by
 rw [<-zdB (λx:Slt=>x.req.name)]
 refine zaX (λy hy=>decide_eq_false λe=>?_) hs (decide_eq_true rfl)
 have h1:=fE0 (zjq h hs) (if 0<=atL s.req.name ((b.slots.take i).map (·.req.name)) then 9 else 0) (by simp)
 have:0<=atL s.req.name ((b.slots.take i).map (·.req.name)):=(zbr _ _).2 (xa3.2 ⟨y,hy,e⟩);rw [if_pos this] at h1;omega
def zf4 {b:Bk} (h:zu b=0) {i:Nat} {s:Slt} (hs:b.slots[i]?=some s):zD b s.req.name=i/\zl b s.req.name=s/\¬atL s.req.name (b.slots.map (·.req.name)) < 0:=by
 have e:=zcw h hs;have e1:zD b s.req.name=i:=by rw [zD,e];rfl
 refine ⟨e1,?_,by rw [e];omega⟩
 rw [zl,e,xbz,hs];rfl
def opr_day {b:Bk} (h:zu b=0) {i:Nat} {s:Slt} (hs:b.slots[i]?=some s) {d:Int} (hd:d ∈ zq s.req.per):zpJ b s.req.name d=0/\zkZ b s.req.name d=zvH s d:=by
 obtain ⟨e1,e2,e3⟩:=zf4 h hs;have hp:=zY (zaE (zfq h (xae hs))).1;have hdm:=zaV hd;have hE:zBf b s.req.name d=0:=by
  rw [zBf,e2];exact ze.2 ⟨(zz5 e3).1,ze.2 ⟨zbd.2 ⟨by omega,by omega⟩,ze.2 ⟨if_pos hd,rfl⟩⟩⟩
 rw [(zxz h s.req.name d).1,(zxz h s.req.name d).2];exact ⟨hE,by rw [rOpR,if_pos hE,e2]⟩
def opF (d:Int) (hd:ByteArray) (L:List Lea):ByteArray:=((L.find? (zum d)).map (·.carrier)).getD hd
def zxA (s:Slt) (d:Int):zvH s d=opF d s.holder s.ls:=by
 have hI:zCV s d=zct (zum d) s.ls:=rfl;rw [zvH,hI,opF]
 rcases zgC (p:=zum d) (l:=s.ls) with ⟨h1,h2⟩|⟨k,x,h1,h2,h3,h4⟩
 ·rw [if_pos h1];have:s.ls.find? (zum d)=none:=List.find?_eq_none.2 λx hx=>by rw [h2 x hx];exact xb1
  rw [this];rfl
 ·rw [h1,if_neg (by omega),xbz,h2]
  have hk:k < s.ls.length:=(xaa.1 h2).1;have hspl:s.ls=s.ls.take k++x::s.ls.drop (k+1):=by
   have:=xao k s.ls;rw [xaM hk] at this;have e:s.ls[k]=x:=by rw [xab hk] at h2;exact xaN h2
   rw [e] at this;exact this.symm
  have hn:(s.ls.take k).find? (zum d)=none:=List.find?_eq_none.2 λy hy=>by rw [h4 y hy];exact xb1
  have:s.ls.find? (zum d)=some x:=by rw [hspl,List.find?_append,hn,List.find?_cons,h3];rfl
  rw [this];rfl
def zil {α:Type} {L:List α} {i:Nat} {x:α} (h:L[i]?=some x):L.set i x=L:=by
 apply xbT
 intro k
 by_cases e:i=k
 ·subst e;rw [xbG (xaa.1 h).1,h]
 ·rw [xbQ e]
def ztM {s:Slt} (h:zae s=0) (hl:s.ls=[]) {c:ByteArray} (hc:zy c=0):zae ⟨s.req,c,s.ls,[]⟩=0:=by
 have c1:=fE0 h (zfn s.req) (by simp)
 rw [hl];exact ze.2 ⟨c1,ze.2 ⟨hc,ze.2 ⟨by simp,ze.2 ⟨by simp [zf],ze.2 ⟨by simp,ze.2 ⟨by simp [zf],rfl⟩⟩⟩⟩⟩⟩
instance decMem (n:ByteArray) (N:List ByteArray):Decidable (n ∈ N):=decidable_of_iff _ (zbr n N)
def NoD (L:List ByteArray):Prop:=∀ (i j:Nat) (x:ByteArray),L[i]?=some x->L[j]?=some x->i=j
def zp9 {b:Bk} {n:ByteArray} (hat:¬atL n (b.slots.map (·.req.name)) < 0):(zl b n).req.name=n:=by
 have h:=zob hat;rw [xai,(zhq hat).1] at h;exact xaN h
structure RgOk (b:Bk) (N:List ByteArray) (g:ByteArray->ByteArray):Prop where
 n:NoD N
 k:∀ n ∈ N,¬atL n (b.slots.map (·.req.name)) < 0
 l:∀ n ∈ N,(zl b n).ls=[]
 h:NoD (N.map g)
 e:∀ n ∈ N,zy (g n)=0
def ztH {b:Bk} {c n to:ByteArray} (h:trC b c n to=0):zd2 b c n (zy to)=0/\zy to=0/\to≠(zl b n).holder/\(zl b n).ls=[]:=by
 have h1:zd2 b c n (zy to)=0:=fE0 h _ (by simp)
 have h2:trE (zl b n) to=0:=fE0 h _ (by simp)
 have h3:=fE0 h2 (if to=(zl b n).holder then 31 else 0) (by simp)
 have h4:=fE0 h2 (if 0 < ((zl b n).ls.length:Int) then 19 else 0) (by simp)
 refine ⟨h1,zrn h1,λq=>by rw [if_pos q] at h3;omega,?_⟩
 by_cases k:0 < ((zl b n).ls.length:Int)
 ·rw [if_pos k] at h4;omega
 ·exact xaq (by omega)
def zrT {s:SlR} {x:Lea} (h1:zav x=0) (h2:zbw s x=0) {t:Int} (ht:t<=x.to) (hf:x.fro<=t):zav ⟨x.carrier,x.fro,t⟩=0/\zbw s ⟨x.carrier,x.fro,t⟩=0:=by
 have a1:=fE0 h1 (zy x.carrier) (by simp)
 have a2:=fE0 h1 (rng x.fro 0 99999) (by simp)
 have a3:=fE0 h1 (rng x.to 0 99999) (by simp)
 have b1:=fE0 h2 (if x.fro < s.req.per.fro\/s.req.per.to < x.to then 30 else 0) (by simp)
 have b2:=fE0 h2 (if x.carrier=s.holder then 31 else 0) (by simp)
 have b1':¬(x.fro < s.req.per.fro\/s.req.per.to < x.to):=λk=>by rw [if_pos k] at b1;omega
 refine ⟨ze.2 ⟨a1,ze.2 ⟨a2,ze.2 ⟨?_,ze.2 ⟨if_neg ?_,rfl⟩⟩⟩⟩,ze.2 ⟨if_neg ?_,ze.2 ⟨b2,rfl⟩⟩⟩
 ·rw [zbd] at a2 a3 ⊢;dsimp only;omega
 ·dsimp only;omega
 ·dsimp only;omega
def zou {s:Slt} (h:zae s=0) {d:Int} (he:zqP s d=0):zae (zto s d)=0:=by
 have h0:¬zpI s d < 0:=λk=>by rw [zqP,if_pos k] at he;omega
 have c3:=fE0 h (if 8 < (s.ls.length:Int) then 5 else 0) (by simp)
 have h8:s.ls.length<=8:=by
  by_cases k:8 < (s.ls.length:Int)
  ·rw [if_pos k] at c3;omega
  ·omega
 have hle:∀ x ∈ s.ls,zav x=0/\zbw s.raw x=0:=λx hx=>by
  obtain ⟨i,hi⟩:=xaU.1 hx;have:=zeJ h hi;exact ⟨fE0 this _ (by simp),fE0 this _ (by simp)⟩
 rcases zgC (p:=λl:Lea=>decide (l.fro<=d) && decide (d<=l.to)) (l:=s.ls) with ⟨k,_⟩|⟨k,x,hk,hx,hp,_⟩
 ·exact absurd k h0
 ·have hlt:=(xaa.1 hx).1;have htl:=zfv hx;have e1:zun s d=s.ls.take k++(zhd (d - 1) x++s.ls.drop (k+1)):=by
   have ek:zpI s d=(k:Nat):=hk;rw [zun,ek,xbz,zM hx,xcc (by omega),xbr (by omega),xaQ,zdQ,xaH,xbn,xat]
  have e0:s.ls=s.ls.take k++x::s.ls.drop (k+1):=by
   conv=>lhs;rw [<-xao k s.ls,xaM hlt,(xaa.1 hx).2]
  have hxp:x.fro<=d/\d<=x.to:=by simpa using hp
  obtain ⟨hxl,hxo⟩:=hle x (xae hx);have hxx:=zkJ hxl;have hz:∀ z ∈ zhd (d - 1) x,(zav z=0/\zbw s.raw z=0)/\z.fro=x.fro/\z.fro<=z.to/\z.to<=x.to:=λz hz=>by
   rw [zhd] at hz
   split at hz
   ·rename_i q;rw [xa8.1 hz];have q1:x.fro<=min x.to (d - 1):=by omega
    exact ⟨zrT hxl hxo (by omega) q1,rfl,q1,by simp only [zBj];omega⟩
   ·cases hz
  have hzl:(zhd (d - 1) x).length<=1:=by unfold zhd;split<;>simp
  have hzp:(zhd (d - 1) x).Pairwise ztp:=by unfold zhd;split<;>simp
  have hp0:=zxm h;rw [e0] at hp0;obtain ⟨p1,p2,p3⟩:=xbo.1 hp0;obtain ⟨p4,p5⟩:=xbp.1 p2;refine zjF h (L:=zun s d) ?_ (λz hz'=>?_) ?_
  ·rw [e1];simp only [xad,xaj,xay];omega
  ·rw [e1] at hz'
   rcases xaL.1 hz' with q|q
   ·exact hle z (xbl q)
   ·rcases xaL.1 q with q|q
    ·exact (hz z q).1
    ·exact hle z (xb5 q)
  ·rw [e1];refine xbo.2 ⟨p1,xbo.2 ⟨hzp,p5,λa ha c hc=>?_⟩,λa ha c hc=>?_⟩
   ·have:=p4 c hc;obtain ⟨_,z1,z2,z3⟩:=hz a ha;simp only [ztp] at this ⊢;omega
   ·rcases xaL.1 hc with q|q
    ·have:=p3 a ha x (by simp)
     obtain ⟨_,z1,z2,z3⟩:=hz c q;simp only [ztp] at this ⊢;omega
    ·exact p3 a ha c (by simp [q])
structure zhn (b y:Bk):Prop where
 r:y.slots.map (·.req)=b.slots.map (·.req)
 w:y.wait=b.wait
 v:zu y=0
def keeps_mv {b y:Bk} (h:zu b=0) (k:zhn b y):mvE y=mvE b:=by rw [mvE,mvE,if_pos k.v,if_pos h,k.r]
def zr0 {b y:Bk} (k:zhn b y):y.slots.length=b.slots.length:=by have:=congrArg List.length k.r;simpa using this
def keeps_at {b y:Bk} (k:zhn b y) {j:Nat} {s:Slt} (hs:b.slots[j]?=some s):∃ t,y.slots[j]?=some t/\t.req=s.req:=by
 have hl:=(xaa.1 hs).1;obtain ⟨t,ht⟩:=zk (i:=j) (l:=y.slots) (by rw [zr0 k];exact hl)
 have e:=congrArg (·[j]?) k.r;simp only [xai,hs,ht,xb6] at e;exact ⟨t,ht,xaN e⟩
def zkL {b:Bk} (h:zu b=0) {c n:ByteArray} {e:Int} (ho:zd2 b c n e=0) {s':Slt} (hr:s'.req=(zl b n).req) (hv:zae s'=0):zhn b (zfU b n s'):=
 ⟨by rw [zfU];simp only;rw [xa2,hr];exact zil (by rw [xai,(zab ho).2.1];rfl),rfl,zkK h ho (by rw [hr]) hv⟩
def zps {b:Bk} {c n:ByteArray} {e:Int} (ho:zd2 b c n e=0) {s':Slt} (hh:s'.holder=(zl b n).holder):(zfU b n s').slots.map (·.holder)=b.slots.map (·.holder):=by
 rw [zfU];simp only;rw [xa2,hh];exact zil (by rw [xai,(zab ho).2.1];rfl)
def zjX {L:List ByteArray} (h:NoD L):L.Nodup:=by
 rw [List.Nodup,xaw];intro i j hi hj hij e;have:=h i j L[i] (xab hi) (by rw [xab hj,e])
 omega
def zlH {b:Bk} (h:zu b=0):(b.slots.map (·.req.name)).Nodup:=zjX λi j x hi hj=>by
 rw [xai] at hi hj;cases hs:b.slots[i]? with
 | none=>rw [hs] at hi;cases hi
 | some s=>
  cases ht:b.slots[j]? with
  | none=>rw [ht] at hj;cases hj
  | some t=>
   rw [hs] at hi;rw [ht] at hj;have e1:s.req.name=x:=xaN hi;have e2:t.req.name=x:=xaN hj;have i1:=zcw h hs;have i2:=zcw h ht;rw [e1] at i1;rw [e2] at i2
   omega
def tr_keeps {b:Bk} (h:zu b=0) {c n to:ByteArray} (hC:trC b c n to=0):zhn b (trB b c n to)/\∀ x ∈ (trB b c n to).slots.map (·.holder),x ∈ b.slots.map (·.holder)\/x=to:=by
 obtain ⟨h1,h2,_,h4⟩:=ztH hC;rw [trB,if_pos hC];refine ⟨zkL h h1 rfl (ztM (zda h h1) h4 h2),λx hx=>?_⟩
 obtain ⟨s,hs,rfl⟩:=xa3.1 hx
 rcases xb4 hs with k|rfl
 ·exact .inl (xa3.2 ⟨s,k,rfl⟩)
 ·exact .inr rfl
def zuo {b:Bk} (h:zu b=0) {c n:ByteArray} {d:Int} (hC:reC b c n d=0):zhn b (reB b c n d)/\(reB b c n d).slots.map (·.holder)=b.slots.map (·.holder):=by
 have h1:zd2 b c n (rng d 0 99999)=0:=fE0 hC _ (by simp)
 have h2:zqP (zl b n) d=0:=fE0 hC _ (by simp)
 rw [reB,if_pos hC];exact ⟨zkL h h1 rfl (zou (zda h h1) h2),zps h1 rfl⟩
def zx8 {b:Bk} (h:zu b=0) {k:Nat} {w:Wsh} (hw:b.wait[k]?=some w):w.req.name ∉ b.slots.map (·.req.name)/\w.req.name ∉ (b.wait.take k).map (·.req.name):=by
 have:=fE0 (zmn h hw) (if 0<=atL w.req.name (b.slots.map (·.req.name)++(b.wait.take k).map (·.req.name)) then 9 else 0) (by simp)
 have hn:¬0<=atL w.req.name (b.slots.map (·.req.name)++(b.wait.take k).map (·.req.name)):=λq=>by rw [if_pos q] at this;omega
 exact ⟨λq=>hn ((zbr _ _).2 (xa9 _ q)),λq=>hn ((zbr _ _).2 (xa0 _ q))⟩
def znV (a b:Wsh):zdS a b=decide (zgV a b < 0):=by
 have key:zdS a b=true↔zgV a b < 0:=by
  rw [zdS,zgV];simp only [xaY,xam,decide_eq_true_eq]
  rcases Int.lt_trichotomy a.rank b.rank with k|k|k
  ·have:zeC a.rank b.rank=-1:=if_pos k;rw [this,zE (by omega)]
   exact ⟨λ_=>by omega,λ_=>.inl k⟩
  ·have:zeC a.rank b.rank=0:=by rw [zeC,if_neg (by omega),if_neg (by omega)]
   rw [zt this,z9,zdR];exact ⟨λq=>by rcases q with q|q;(· omega);exact q.2,λq=>.inr ⟨k,q⟩⟩
  ·have:zeC a.rank b.rank=1:=by rw [zeC,if_neg (by omega),if_pos k]
   rw [this,zE (by omega)]
   exact ⟨λq=>by rcases q with q|q<;>omega,λq=>by omega⟩
 by_cases h:zgV a b < 0
 ·rw [decide_eq_true h];exact key.2 h
 ·rw [decide_eq_false h];cases q:zdS a b
  ·rfl
  ·exact absurd (key.1 q) h
theorem zhP:∀ x y z:List UInt8,Op.bytesLess x y=true->Op.bytesLess y z=true->Op.bytesLess x z=true
 | _,[],_,h,_=>by simp [Op.bytesLess] at h
 | _,_::_,[],_,h=>by simp [Op.bytesLess] at h
 | [],_::_,_::_,_,_=>by simp [Op.bytesLess]
 | a::x,b::y,c::z,h,k=>by
  simp only [Op.bytesLess,xaY,xam,decide_eq_true_eq,beq_iff_eq] at h k ⊢
  rcases h with h|⟨rfl,h⟩
  ·rcases k with k|⟨rfl,k⟩
   ·exact .inl (UInt8.lt_trans h k)
   ·exact .inl h
  ·rcases k with k|⟨rfl,k⟩
   ·exact .inl k
   ·exact .inr ⟨rfl,zhP x y z h k⟩
def zxS (a b:Wsh):zgV a b < 0↔a.rank < b.rank\/(a.rank=b.rank/\Op.bytesLess a.req.name.toList b.req.name.toList=true):=by
 have h:=znV a b;rw [zdS] at h
 constructor
 ·intro q;rw [decide_eq_true q] at h;simpa only [xaY,xam,decide_eq_true_eq] using h
 ·intro q;have h2:(decide (a.rank < b.rank) || (decide (a.rank=b.rank) && Op.bytesLess a.req.name.toList b.req.name.toList))=true:=by
   simpa only [xaY,xam,decide_eq_true_eq] using q
  rw [h2] at h;exact of_decide_eq_true h.symm
def zAQ (a b c:Wsh) (h:zgV a b < 0) (k:zgV b c < 0):zgV a c < 0:=by
 rw [zxS] at *
 rcases h with h|⟨h1,h2⟩
 ·rcases k with k|⟨k1,_⟩<;>exact .inl (by omega)
 ·rcases k with k|⟨k1,k2⟩
  ·exact .inl (by omega)
  ·exact .inr ⟨by omega,zhP _ _ _ h2 k2⟩
def zvY {x y:ByteArray} (h:x≠y) (k:¬Op.bytesLess x.toList y.toList=true):Op.bytesLess y.toList x.toList=true:=by
 by_cases q:Op.bytesLess y.toList x.toList=true
 ·exact q
 ·exact absurd (znS (by simpa using k) (by simpa using q)) h
def zwM {a b:Wsh} (h:¬zgV a b<=0):zgV b a < 0:=by
 rw [zgV] at h;rw [zxS]
 rcases Int.lt_trichotomy a.rank b.rank with k|k|k
 ·have e:zeC a.rank b.rank=-1:=if_pos k;rw [e,zE (by omega)] at h;omega
 ·have e:zeC a.rank b.rank=0:=by rw [zeC,if_neg (by omega),if_neg (by omega)]
  rw [zt e,z9] at h;refine .inr ⟨k.symm,?_⟩;have hn:a.req.name≠b.req.name:=λq=>h (by rw [(zkG _ _).2 q];omega)
  have hl:¬zk3 a.req.name b.req.name < 0:=λq=>h (by omega)
  exact zvY hn (λq=>hl ((zdR _ _).2 q))
 ·exact .inl k
def zye {b:Bk} (h:zu b=0):b.wait.Pairwise (λx y=>zgV x y < 0):=by
 refine zq4 zAQ λi x y hx hy=>?_
 have:=fE0 (zmn h hy) (if 0 < ((i+1:Nat):Int)/\zgV y ((b.wait[i+1 - 1]?).getD y)<=0 then 11 else 0) (by simp)
 have e:(b.wait[i+1 - 1]?).getD y=x:=by rw [xbq,hx];rfl
 rw [e] at this
 by_cases k:0 < ((i+1:Nat):Int)/\zgV y x<=0
 ·rw [if_pos k] at this;omega
 ·exact zwM (λq=>k ⟨by omega,q⟩)
def zdy {L:List ByteArray}:L.Nodup↔∀ i x,L[i]?=some x->x ∉ L.take i:=by
 constructor
 ·intro h i x hx hm;obtain ⟨j,hj⟩:=xaU.1 hm;have hlt:=(xaa.1 hj).1;rw [xaj] at hlt;rw [xbm (by omega)] at hj
  obtain ⟨l1,e1⟩:=xaa.1 hx;obtain ⟨l2,e2⟩:=xaa.1 hj;exact xaw.1 h j i l2 l1 (by omega) (e2.trans e1.symm)
 ·intro h;refine zjX λi j x hi hj=>?_
  rcases xck i j with k|k|k
  ·exact absurd (xae (i:=i) (by rw [xbm k];exact hi)) (h j x hj)
  ·exact k
  ·exact absurd (xae (i:=j) (by rw [xbm k];exact hj)) (h i x hi)
abbrev sNm (S:List Slt):List ByteArray:=S.map (·.req.name)
abbrev wNm (W:List Wsh):List ByteArray:=W.map (·.req.name)
structure Vbk (S:List Slt) (W:List Wsh):Prop where
 n:S.length<=64
 s:∀ s ∈ S,zae s=0
 m:W.length<=64
 w:∀ w ∈ W,zfm w=0
 d:(sNm S++wNm W).Nodup
 o:W.Pairwise (λx y=>zgV x y < 0)
def zAR {a b:Wsh} (h:zgV a b < 0):¬zgV b a<=0:=λk=>by
 have:=zjw.2 k;rw [znV,decide_eq_true h] at this;cases this
def zxZ {b:Bk}:zu b=0↔Vbk b.slots b.wait:=by
 constructor
 ·intro h;have hl:=zgX h;refine ⟨by omega,λs hs=>zh4 h hs,by omega,λw hw=>?_,zdy.2 λi x hx=>?_,zye h⟩
  ·obtain ⟨i,hi⟩:=xaU.1 hw;exact fE0 (zmn h hi) (zfm w) (by simp)
  ·by_cases k:i < b.slots.length
   ·rw [xaz (by rw [xaf];exact k)] at hx
    rw [xbb (by rw [xaf];omega)]
    exact zdy.1 (zlH h) i x hx
   ·have hlt:=(xaa.1 hx).1;rw [xad,xaf,xaf] at hlt;rw [xas (by rw [xaf];omega),xaf,xai] at hx
    obtain ⟨w,hw⟩:=zk (i:=i - b.slots.length) (l:=b.wait) (by omega)
    rw [hw] at hx;have ex:w.req.name=x:=xaN hx;obtain ⟨n1,n2⟩:=zx8 h hw;have et:(sNm b.slots++wNm b.wait).take i=sNm b.slots++(b.wait.take (i - b.slots.length)).map (·.req.name):=by
     rw [List.take_append,xal (by rw [xaf];omega),xaf,xb2]
    rw [et,<-ex];intro hm
    rcases xaL.1 hm with hm|hm
    ·exact n1 hm
    ·exact n2 hm
 ·rintro ⟨h1,h2,h3,h4,h5,h6⟩;obtain ⟨d1,d2,d3⟩:=List.nodup_append.1 h5;refine ze.2 ⟨if_neg (by omega),ze.2 ⟨zes λi s hs=>?_,ze.2 ⟨if_neg (by omega),ze.2 ⟨zes λi w hw=>?_,rfl⟩⟩⟩⟩
  ·refine ze.2 ⟨h2 s (xae hs),ze.2 ⟨if_neg λk=>?_,rfl⟩⟩
   rw [xb2] at k;exact zdy.1 d1 i s.req.name (by rw [xai,hs];rfl) ((zbr _ _).1 k)
  ·refine ze.2 ⟨h4 w (xae hw),ze.2 ⟨if_neg λk=>?_,ze.2 ⟨if_neg λk=>?_,rfl⟩⟩⟩
   ·rcases xaL.1 ((zbr _ _).1 k) with k|k
    ·exact d3 _ k _ (xa3.2 ⟨w,xae hw,rfl⟩) rfl
    ·rw [xb2] at k;exact zdy.1 d2 i w.req.name (by rw [xai,hw];rfl) k
   ·obtain ⟨k1,k2⟩:=k;obtain ⟨j,rfl⟩:∃ j,i=j+1:=⟨i - 1,by omega⟩
    obtain ⟨li,ei⟩:=xaa.1 hw;have hj:b.wait[j+1 - 1]?=some b.wait[j]:=by rw [xbq];exact xab (by omega)
    rw [hj] at k2;have hlt:=xaw.1 h6 j (j+1) (by omega) li (by omega)
    rw [ei] at hlt;exact zAR hlt k2
def zpr {q:Req} (h:zfn q=0):zgW q=0/\¬zq q.per=[]/\zy q.carrier=0/\zy q.name=0/\zC q.per=0/\rng q.minute 0 1439=0:=by
 have h1:zgW q=0:=fE0 h _ (by simp)
 have h2:=fE0 h (if zq q.per=[] then 12 else 0) (by simp)
 exact ⟨h1,λk=>by rw [if_pos k] at h2;omega,fE0 h1 (zy q.carrier) (by simp),fE0 h1 (zy q.name) (by simp),fE0 h1 (zC q.per) (by simp),fE0 h1 (rng q.minute 0 1439) (by simp)⟩
def zkP {b:Bk} {c n:ByteArray} {d:Int} (h:zmq b c n d=0):zd2 b c n (rng d 0 99999)=0/\rng d 0 99999=0/\d<=(zl b n).req.per.to:=by
 have h1:zd2 b c n (rng d 0 99999)=0:=fE0 h _ (by simp)
 have h2:znR (zl b n) d=0:=fE0 h _ (by simp)
 refine ⟨h1,zrn h1,?_⟩
 by_cases k:(zl b n).req.per.to < d
 ·rw [znR,if_pos k] at h2;omega
 ·omega
def zsI {d:Int} {L:List Lea} {z:Lea} (h:z ∈ zdQ d L) (hL:∀ x ∈ L,x.fro<=x.to):∃ x ∈ L,z=⟨x.carrier,x.fro,min x.to d⟩/\x.fro<=min x.to d:=by
 obtain ⟨x,hx,hz⟩:=xax.1 h;rw [zhd] at hz
 split at hz
 ·rename_i q;have:=hL x hx;exact ⟨x,hx,xa8.1 hz,by omega⟩
 ·cases hz
theorem zxR {d:Int}:∀ {L:List Lea},(∀ x ∈ L,x.fro<=x.to)->L.Pairwise ztp->(zdQ d L).Pairwise ztp
 | [],_,_=>List.Pairwise.nil
 | x::r,h,hp=>by
  obtain ⟨p1,p2⟩:=xbp.1 hp;have ih:=zxR (d:=d) (λy hy=>h y (by simp [hy])) p2
  have e:zdQ d (x::r)=zhd d x++zdQ d r:=by simp [zdQ]
  rw [e];refine xbo.2 ⟨by unfold zhd;split<;>simp,ih,λa ha c hc=>?_⟩
  obtain ⟨y,hy,rfl,q⟩:=zsI hc (λy hy=>h y (by simp [hy]))
  have:=p1 y hy;rw [zhd] at ha
  split at ha
  ·rename_i q2;have hx:=h x (by simp)
   rw [xa8.1 ha];simp only [ztp,zBj] at this ⊢;omega
  ·cases ha
def zpy {s:Slt} {d:Int} (h:zae s=0) (hp:zC (zeH s.req.per d)=0) (hn:¬zq (zeH s.req.per d)=[]) (hd:d<=s.req.per.to):zae (zpQ s d)=0:=by
 have c1:=fE0 h (zfn s.req) (by simp)
 have c2:=fE0 h (zy s.holder) (by simp)
 have c3:=fE0 h (if 8 < (s.ls.length:Int) then 5 else 0) (by simp)
 have c5:=fE0 h (if 4 < (s.sh.length:Int) then 5 else 0) (by simp)
 have c6:=fE0 h (zf (s.sh.mapIdx (za3 s))) (by simp)
 have h8:s.ls.length<=8:=by
  by_cases k:8 < (s.ls.length:Int)
  ·rw [if_pos k] at c3;omega
  ·omega
 have hq:zfn { s.req with per:=zeH s.req.per d }=0:=by
  obtain ⟨h1,_⟩:=zpr c1;refine ze.2 ⟨?_,ze.2 ⟨if_neg hn,rfl⟩⟩;unfold zgW at h1 ⊢;simp only [ze] at h1 ⊢;simp only [h1,hp,true_and,and_true]
 have h0:zae ⟨{ s.req with per:=zeH s.req.per d },s.holder,[],s.sh⟩=0:=
  ze.2 ⟨hq,ze.2 ⟨c2,ze.2 ⟨by simp,ze.2 ⟨by simp [zf],ze.2 ⟨c5,ze.2 ⟨c6,rfl⟩⟩⟩⟩⟩⟩
 have hle:∀ x ∈ s.ls,x.fro<=x.to:=λx hx=>zhp h hx
 refine zjF h0 (L:=zdQ (d - 1) s.ls) (by have:=zfR (d - 1) s.ls;omega) (λz hz=>?_) (zxR hle (zxm h))
 obtain ⟨x,hx,rfl,q⟩:=zsI hz hle;obtain ⟨i,hi⟩:=xaU.1 hx;have hE:=zeJ h hi;obtain ⟨z1,z2⟩:=zrT (t:=min x.to (d - 1)) (fE0 hE (zav x) (by simp)) (fE0 hE (zbw s.raw x) (by simp)) (by omega) q
 refine ⟨z1,?_⟩;have y1:=fE0 z2 (if x.fro < s.req.per.fro\/s.req.per.to < min x.to (d - 1) then 30 else 0) (by simp)
 have y2:=fE0 z2 (if x.carrier=s.holder then 31 else 0) (by simp)
 have y3:¬x.fro < s.req.per.fro:=λk=>by rw [if_pos (.inl k)] at y1;omega
 exact ze.2 ⟨if_neg (by dsimp only [zeH];omega),ze.2 ⟨y2,rfl⟩⟩
def zD5 {b:Bk} (hb:zu b=0) {c n:ByteArray} {d:Int} (h:zmq b c n d=0):zu (zpR b c n d)=0/\(zpR b c n d).slots.length<=b.slots.length:=by
 obtain ⟨h1,h2,h3⟩:=zkP h;have hv:=zda hb h1;have hp:=(zaE (zfq hb (xae (zab h1).2.1))).1;have hD:=zjs (b:=b) (n:=n) (d:=d) hp h3;rw [<-zqO hb,if_pos h,bkY]
 split
 ·obtain ⟨v1,v2,v3,v4,v5,v6⟩:=zxZ.1 hb;have hs:(b.slots.take (zD b n)++b.slots.drop (zD b n+1)).Sublist b.slots:=by
   conv=>rhs;rw [<-xao (zD b n) b.slots]
   exact (xcj _).append (List.drop_sublist_drop_left _ (Nat.le_succ _))
  refine ⟨zxZ.2 ⟨by have:=hs.length_le;simp only;omega,λs q=>v2 s (hs.subset q),v3,v4,?_,v6⟩,hs.length_le⟩
  exact List.Pairwise.sublist ((hs.map _).append (xcj _)) v5
 ·rename_i k;have hbk:bkS (zl b n) d=zpQ (zl b n) d:=by rw [bkS,zpQ,zs0 (λx hx=>zhp hv hx)]
  rw [zgR _ _ h3] at k;obtain ⟨q1,q2⟩:=hD.2 (by rw [zgR _ _ h3];exact k)
  rw [hbk];refine ⟨zkK hb h1 rfl (zpy hv q1 k h3),by simp [zfU]⟩
def flM (L:List Slt):List Mov:=L.flatMap λs=>zaT s.req
def zjg (A B:List Slt):flM (A++B)=flM A++flM B:=by simp [flM]
def zfP (s:Slt) (B:List Slt):flM (s::B)=zaT s.req++flM B:=by simp [flM]
def zns {α:Type} {lt:α->α->Bool} {L:List α}:srt lt L->zcJ lt L=L:=by
 induction L using zeT with
 | h0=>intro _;rfl
 | hs L x ih=>
  intro h;obtain ⟨h1,_,h3⟩:=xbo.1 h;rw [za7,ih h1];have:=zgA (lt:=lt) (x:=x) (U:=L) (V:=[]) (λu hu=>h3 u hu x (by simp)) (by simp)
  rwa [xat] at this
theorem zgz {α:Type} {lt:α->α->Bool} (hs:SW lt) (f:α->Bool) (x:α):∀ {L:List α},srt lt L->(insL lt x L).filter f=if f x=true then insL lt x (L.filter f) else L.filter f
 | [],_=>by
  by_cases k:f x=true
  ·rw [if_pos k];simp [insL,k]
  ·rw [if_neg k];simp [insL,k]
 | a::r,h=>by
  obtain ⟨h1,h2⟩:=xbp.1 h;rw [insL]
  split
  ·rename_i q;rw [xaW]
   by_cases k:f x=true
   ·rw [if_pos k,if_pos k];refine (zgA (U:=[]) (V:=(a::r).filter f) (by simp) λv hv=>?_).symm
    have hm:=(xbM.1 (List.mem_of_mem_head? hv)).1;cases hxv:lt x v
    ·have hva:lt v a=false:=by
      rcases xaB.1 hm with rfl|hm
      ·exact irr hs _
      ·exact h1 v hm
     rw [hs.nt _ _ _ hxv hva] at q;cases q
    ·rfl
   ·rw [if_neg k,if_neg k]
  ·rename_i q;have ih:=zgz hs f x h2
   by_cases ka:f a=true
   ·rw [xaW,if_pos ka,ih,xaW,if_pos ka]
    by_cases k:f x=true
    ·rw [if_pos k,if_pos k,insL,if_neg q]
    ·rw [if_neg k,if_neg k]
   ·rw [xaW,if_neg ka,ih,xaW,if_neg ka]
def zfi {α:Type} {lt:α->α->Bool} (hs:SW lt) (f:α->Bool) (L:List α):(zcJ lt L).filter f=zcJ lt (L.filter f):=by
 induction L using zeT with
 | h0=>rfl
 | hs L x ih=>
  rw [za7,zgz hs f x (zbg hs L),ih,xa7]
  by_cases k:f x=true
  ·rw [if_pos k,xaW,if_pos k,List.filter_nil,za7]
  ·rw [if_neg k,xaW,if_neg k,List.filter_nil,xat]
def zlU (A B:List Mov):zbX zdK (zcJ zdK A) B=zcJ zdK (A++B):=by
 rw [zbX,zgH zeb,zgx zeb,zns (zbg zeb A),<-zgx zeb]
theorem znj:∀ (L:List Slt) (F:List Mov),L.foldl (λout s=>zbX zdK out (zaT s.req)) (zcJ zdK F)=zcJ zdK (F++flM L)
 | [],F=>by simp [flM]
 | s::L,F=>by rw [xbi,zlU,znj L,zfP,xau]
def ziP (L:List Slt):mvS L=zcJ zdK (flM L):=znj L []
def zmC {b:Bk} {i:Nat} {s:Slt} (hs:b.slots[i]?=some s):b.slots=b.slots.take i++s::b.slots.drop (i+1):=by
 obtain ⟨hl,e⟩:=xaa.1 hs
 conv=>lhs;rw [<-xao i b.slots,xaM hl,e]
def zp8 {b:Bk} {i:Nat} {s:Slt} (hs:b.slots[i]?=some s) (t:Slt):b.slots.set i t=b.slots.take i++t::b.slots.drop (i+1):=by
 rw [List.set_eq_take_append_cons_drop,if_pos (xaa.1 hs).1]
def lfB (n:ByteArray) (d:Int) (y:Mov):Bool:=!decide (y.name=n) || decide (y.moment < 1440*d)
def zvV {r:Req} (hr:zbk r=0) {d:Int} (hd:d<=r.per.to):zaT { r with per:=zeH r.per d }=(zaT r).filter (lfB r.name d):=by
 obtain ⟨_,m1,m2⟩:=zaE hr;have e:∀ L:List Int,((ltL d L).map (za9 r))=(L.map (za9 r)).filter (lfB r.name d):=by
  intro L
  induction L with
  | nil=>rfl
  | cons x L ih=>
   have e1:ltL d (x::L)=ltI d x++ltL d L:=by simp [ltL]
   have e2:lfB r.name d (za9 r x)=decide (x < d):=by
    have em:(za9 r x).moment=1440*x+r.minute:=rfl;have en:(za9 r x).name=r.name:=rfl;rw [lfB,en,decide_eq_true (show r.name=r.name from rfl),xbg,xbJ]
    by_cases k:x < d
    ·rw [decide_eq_true k,decide_eq_true (by rw [em];omega)]
    ·rw [decide_eq_false k,decide_eq_false (by rw [em];omega)]
   rw [e1,xaZ,ih,xag,xaW,e2,ltI]
   by_cases k:x < d
   ·rw [if_pos k,if_pos (decide_eq_true k)];rfl
   ·rw [if_neg k,if_neg (by simp [k])];rfl
 have e3:zaT { r with per:=zeH r.per d }=(zq (zeH r.per d)).map (za9 r):=rfl;rw [e3,<-zgR _ _ hd,e,zaT]
def zhB {b:Bk} (hb:zu b=0) {n:ByteArray} {i:Nat} {s:Slt} (hs:b.slots[i]?=some s) (hn:s.req.name=n) {L:List Slt} (hL:∀ t ∈ L,∃ j,j≠i/\b.slots[j]?=some t) (d:Int):(flM L).filter (lfB n d)=flM L:=by
 refine List.filter_eq_self.2 λy hy=>?_
 obtain ⟨t,ht,hy⟩:=xax.1 hy;obtain ⟨e,_,rfl⟩:=zfK hy;obtain ⟨j,hj,hjt⟩:=hL t ht;have hne:¬t.req.name=n:=λk=>hj (by
  have i1:=zcw hb hjt;have i2:=zcw hb hs;rw [k] at i1;rw [hn] at i2;omega)
 have en:(za9 t.req e).name=t.req.name:=rfl;rw [lfB,en,decide_eq_false hne];rfl
def zmx {α:Type} {L:List α} {i:Nat} {t:α} (h:t ∈ L.take i):∃ j,j≠i/\L[j]?=some t:=by
 obtain ⟨j,hj⟩:=xaU.1 h;have hlt:=(xaa.1 hj).1;rw [xaj] at hlt;rw [xbm (by omega)] at hj
 exact ⟨j,by omega,hj⟩
def znG {α:Type} {L:List α} {i:Nat} {t:α} (h:t ∈ L.drop (i+1)):∃ j,j≠i/\L[j]?=some t:=by
 obtain ⟨j,hj⟩:=xaU.1 h;rw [xaI] at hj;exact ⟨i+1+j,by omega,hj⟩
def zwW {b:Bk} (hb:zu b=0) {c n:ByteArray} {d:Int} (h:zmq b c n d=0):mvS (zpR b c n d).slots=(mvS b.slots).filter (lfB n d):=by
 obtain ⟨h1,h2,h3⟩:=zkP h;have hs:=(zab h1).2.1;have hq:=zfq hb (xae hs);have hnm:=zp9 (zab h1).1;have hD:=zjs (b:=b) (n:=n) (d:=d) (zaE hq).1 h3;have hm:zaT { (zl b n).req with per:=zeH (zl b n).req.per d }=(zaT (zl b n).req).filter (lfB n d):=(zvV hq h3).trans (by rw [hnm])
 have eA:=zhB hb hs hnm (L:=b.slots.take (zD b n)) (λt ht=>zmx ht) d
 have eB:=zhB hb hs hnm (L:=b.slots.drop (zD b n+1)) (λt ht=>znG ht) d
 rw [ziP,ziP,zfi zeb]
 congr 1
 conv=>rhs;rw [zmC hs]
 rw [zjg,zfP,xa7,xa7,eA,eB,<-hm,<-zqO hb,if_pos h,bkY]
 split
 ·rename_i k;have e0:zaT { (zl b n).req with per:=zeH (zl b n).req.per d }=[]:=by
   have e3:zaT { (zl b n).req with per:=zeH (zl b n).req.per d }=(zq (zeH (zl b n).req.per d)).map (za9 (zl b n).req):=rfl;rw [e3,<-zgR _ _ h3,k];rfl
  rw [e0,xaQ];exact zjg _ _
 ·rw [zfU];simp only;rw [zp8 hs,zjg,zfP];rfl
def slU (n k:ByteArray) (m:Int) (ds:List Int):List USl:=ds.map λd=>⟨n,1440*d+m,k⟩
def zC1 {ds:List Int} (h:ds.Pairwise (· < ·)) {i j:Nat} {x:Int} (hi:ds[i]?=some x) (hj:ds[j]?=some x):i=j:=by
 obtain ⟨a1,a2⟩:=xaa.1 hi;obtain ⟨b1,b2⟩:=xaa.1 hj;have hn:=xaw.1 h
 rcases xck i j with k|k|k
 ·have:=hn i j a1 b1 k;omega
 ·exact k
 ·have:=hn j i b1 a1 k;omega
def zm8 {r:URl} {s x:USl} (h:zbB r s x=true):s.mom - r.bef<=x.mom/\x.mom<=s.mom+r.aft/\x.name=s.name/\x.kind=s.kind:=by
 simp only [zbB,xam,decide_eq_true_eq] at h;exact ⟨h.1.2,h.2,h.1.1.1,h.1.1.2⟩
def zr6 {S F:List USl} {ds:List Int} {m:Int} (hd:ds.Pairwise (· < ·)) (hS:S.map (·.mom)=ds.map λd=>1440*d+m):injU zbj S F:=by
 intro i i' k s s' x h1 h2 _ h3 h4;have g1:(ds.map λd=>1440*d+m)[i]?=some s.mom:=by rw [<-hS,xai,h1];rfl
 have g2:(ds.map λd=>1440*d+m)[i']?=some s'.mom:=by rw [<-hS,xai,h2];rfl
 rw [xai,xac] at g1 g2;obtain ⟨d,e1,e2⟩:=g1;obtain ⟨d',f1,f2⟩:=g2;have p1:=zm8 h3;have p2:=zm8 h4;simp only [zbj] at p1 p2;have:d=d':=by omega
 subst this;exact zC1 hd e1 f1
def znF (l:List Int):Int:=((l.filter λn=>decide (n≠0)).length:Nat)
def znz (l:List Int):Int:=((l.filter λn=>decide (n=1) || decide (n=2)).length:Nat)
def zxp {r:URl} {g:USl->Bool} {S F:List USl} (hi:injU r S F):znF (stU r g (λ_=>3) S F)=((S.filter λs=>!g s).length:Nat)/\znz (stU r g (λ_=>3) S F)=((S.filter λs=>!g s && F.any (zbB r s)).length:Nat):=by
 rw [zBt hi,znF,znz,List.filter_map,List.filter_map,xaf,xaf];have e1:∀ s,((λn:Int=>decide (n≠0)) ∘ λs=>if g s=true then 0 else if F.any (zbB r s)=true then 1 else 3) s=!g s:=λs=>by
  show decide ((if g s=true then (0:Int) else if F.any (zbB r s)=true then 1 else 3)≠0)=!g s
  by_cases h1:g s=true
  ·rw [if_pos h1,h1];rfl
  ·have h0:g s=false:=by simpa using h1
   rw [if_neg h1,h0]
   by_cases h2:F.any (zbB r s)=true
   ·rw [if_pos h2];rfl
   ·rw [if_neg h2];rfl
 have e2:∀ s,((λn:Int=>decide (n=1) || decide (n=2)) ∘ λs=>if g s=true then 0 else if F.any (zbB r s)=true then 1 else 3) s=(!g s && F.any (zbB r s)):=λs=>by
  show (decide ((if g s=true then (0:Int) else if F.any (zbB r s)=true then 1 else 3)=1) || decide ((if g s=true then (0:Int) else if F.any (zbB r s)=true then 1 else 3)=2))=_
  by_cases h1:g s=true
  ·rw [if_pos h1,h1];rfl
  ·have h0:g s=false:=by simpa using h1
   rw [if_neg h1,h0]
   by_cases h2:F.any (zbB r s)=true
   ·rw [if_pos h2,h2];rfl
   ·rw [if_neg h2,(by simpa using h2:F.any (zbB r s)=false)];rfl
 rw [List.filter_congr λs _=>e1 s,List.filter_congr λs _=>e2 s]
 exact ⟨rfl,rfl⟩
def zoc (n k:ByteArray) (m:Int) (f:USl->Bool) (ds:List Int):(slU n k m ds).filter f=slU n k m (ds.filter λd=>f ⟨n,1440*d+m,k⟩):=by
 rw [slU,List.filter_map];rfl
def zeO (n k:ByteArray) (m:Int) (ds:List Int):(slU n k m ds).length=ds.length:=by rw [slU,xaf]
def zqe (n k:ByteArray) (m:Int) (ds:List Int):(slU n k m ds).map (·.mom)=ds.map λd=>1440*d+m:=by rw [slU,xbS];rfl
def zpz {n k:ByteArray} {m:Int} {ds:List Int} (hd:ds.Pairwise (· < ·)) {g:USl->Bool} {D:Int} (hg:∀ d ∈ ds,g ⟨n,1440*d+m,k⟩=decide (D<=d)) (F:List USl) :
  znF (stU zbj g (λ_=>3) (slU n k m ds) F)=znF (stU zbj (λ_=>false) (λ_=>3) (slU n k m (ds.filter λd=>decide (d < D))) F) /\
  znz (stU zbj g (λ_=>3) (slU n k m ds) F)=znz (stU zbj (λ_=>false) (λ_=>3) (slU n k m (ds.filter λd=>decide (d < D))) F):=by
 have h1:=zxp (g:=g) (zr6 (F:=F) hd (zqe n k m ds));have h2:=zxp (g:=λ_=>false) (zr6 (F:=F) (hd.filter λd=>decide (d < D)) (zqe n k m _))
 rw [h1.1,h1.2,h2.1,h2.2];simp only [zoc,zeO,List.filter_filter,xbK,xbh];refine ⟨?_,?_⟩
 ·congr 2
  refine List.filter_congr λd hx=>?_
  rw [hg d hx]
  by_cases h:D<=d
  ·simp [h]
  ·simp [h];omega
 ·congr 2
  refine List.filter_congr λd hx=>?_
  rw [hg d hx]
  by_cases h:D<=d
  ·simp [h]
  ·have:d < D:=by omega
   simp [h,this]
def uOf (y:Mov):USl:=⟨y.name,y.moment,y.kind⟩
def zvT {r:Req}:srt zdK (zaT r):=by
 rw [zaT];refine xbI.2 ((zbp r.per).imp fun {x y} h=>?_)
 have e1:(za9 r x).moment=1440*x+r.minute:=rfl;have e2:(za9 r y).moment=1440*y+r.minute:=rfl;rw [zdK,if_neg (by rw [e1,e2];omega)]
 exact decide_eq_false (by rw [e1,e2];omega)
def zhA {b:Bk} (hb:zu b=0) {i:Nat} {s:Slt} (hs:b.slots[i]?=some s) {L:List Slt} (hL:∀ t ∈ L,∃ j,j≠i/\b.slots[j]?=some t):(flM L).filter (λy=>decide (y.name=s.req.name))=[]:=by
 refine List.filter_eq_nil_iff.2 λy hy=>?_
 obtain ⟨t,ht,hy⟩:=xax.1 hy;obtain ⟨e,_,rfl⟩:=zfK hy;obtain ⟨j,hj,hjt⟩:=hL t ht;have hne:¬t.req.name=s.req.name:=λk=>hj (by
  have i1:=zcw hb hjt;have i2:=zcw hb hs;rw [k] at i1;omega)
 have en:(za9 t.req e).name=t.req.name:=rfl;rw [en];simp [hne]
def zrE {b:Bk} (hb:zu b=0) {i:Nat} {s:Slt} (hs:b.slots[i]?=some s):(mvS b.slots).filter (λy=>decide (y.name=s.req.name))=zaT s.req:=by
 rw [ziP,zfi zeb,zmC hs,zjg,zfP,xa7,xa7,zhA hb hs (λt ht=>zmx ht),zhA hb hs (λt ht=>znG ht),xaQ,xat]
 have:(zaT s.req).filter (λy=>decide (y.name=s.req.name))=zaT s.req:=List.filter_eq_self.2 λy hy=>by
  obtain ⟨e,_,rfl⟩:=zfK hy;exact decide_eq_true rfl
 rw [this,zns zvT]
def uOf_movs (r:Req):(zaT r).map uOf=slU r.name r.kind r.minute (zq r.per):=by
 rw [zaT,slU,xbS];rfl
def zaS (x:Int × Int) (n:Int):Int × Int:=(if n=1\/n=2 then x.1+1 else x.1,if n=0 then x.2 else x.2+1)
def za2 (nm:ByteArray) (n:Int):List (ByteArray × Int × Int)->List (ByteArray × Int × Int)
 | []=>[(nm,zaS (0,0) n)]
 | e::r=>if e.1=nm then (e.1,zaS e.2 n)::r else e::za2 nm n r
def zho (l:List (ByteArray × Int)):List (ByteArray × Int × Int):=l.foldl (λes x=>za2 x.1 x.2 es) []
def zkX:List (ByteArray × Int × Int)->Int × Int
 | []=>(0,0)
 | e::r=>(e.2.1+(zkX r).1,e.2.2+(zkX r).2)
theorem zmy (nm:ByteArray) (n:Int):∀ es,zkX (za2 nm n es)=zaS (zkX es) n
 | []=>by simp only [za2,zkX,zaS];split<;>split<;>simp
 | e::r=>by
  rw [za2]
  split
  ·simp only [zkX,zaS];split<;>split<;>(refine Prod.ext ?_ ?_<;>simp only []<;>omega)
  ·rw [zkX,zmy nm n r];simp only [zkX,zaS];split<;>split<;>(refine Prod.ext ?_ ?_<;>simp only []<;>omega)
theorem ziv (nm:ByteArray) (n:Int):∀ es,(nm ∈ es.map (·.1)->(za2 nm n es).map (·.1)=es.map (·.1))/\(nm ∉ es.map (·.1)->(za2 nm n es).map (·.1)=es.map (·.1)++[nm])
 | []=>by simp [za2]
 | e::r=>by
  obtain ⟨i1,i2⟩:=ziv nm n r;rw [za2]
  split
  ·rename_i h;subst h;simp
  ·rename_i h;refine ⟨λk=>?_,λk=>?_⟩
   ·rw [xag,xaB] at k;rw [xag,i1 (k.resolve_left λe=>h e.symm)];rfl
   ·rw [xag,xaB] at k;rw [xag,i2 λq=>k (.inr q)];rfl
def zq5 {nm:ByteArray} {n:Int} {es:List (ByteArray × Int × Int)} (h:(es.map (·.1)).Nodup):((za2 nm n es).map (·.1)).Nodup:=by
 by_cases k:nm ∈ es.map (·.1)
 ·rw [(ziv nm n es).1 k];exact h
 ·rw [(ziv nm n es).2 k];exact List.nodup_append.2 ⟨h,by simp,λx hx y hy=>by simp at hy;subst hy;exact λe=>k (e ▸ hx)⟩
def zp0 (l:List (ByteArray × Int)) (x:ByteArray × Int):zho (l++[x])=za2 x.1 x.2 (zho l):=by rw [zho,xa4];rfl
theorem zhU:∀ (l:List (ByteArray × Int)) (es:List (ByteArray × Int × Int)),(es.map (·.1)).Nodup->((l.foldl (λes x=>za2 x.1 x.2 es) es).map (·.1)).Nodup
 | [],_,h=>h
 | x::l,es,h=>zhU l _ (zq5 h)
def zpY (l:List (ByteArray × Int)):((zho l).map (·.1)).Nodup:=zhU l [] List.nodup_nil
theorem zny:∀ (l:List (ByteArray × Int)) (es:List (ByteArray × Int × Int)),zkX (l.foldl (λes x=>za2 x.1 x.2 es) es)=(l.map (·.2)).foldl zaS (zkX es)
 | [],_=>rfl
 | x::l,es=>by rw [xbi,zny l,zmy];rfl
theorem zek:∀ (l:List Int) (a b:Int),l.foldl zaS (a,b)=(a+znz l,b+znF l)
 | [],a,b=>by simp [znz,znF]
 | n::l,a,b=>by
  rw [xbi,zaS,zek l];simp only [znz,znF,xaW]
  by_cases h0:n=0
  ·subst h0;simp
  ·by_cases h1:n=1\/n=2
   ·rcases h1 with h1|h1<;>subst h1<;>simp<;>constructor<;>omega
   ·have h2:¬n=1:=λe=>h1 (.inl e)
    have h3:¬n=2:=λe=>h1 (.inr e)
    simp [h0,h2,h3];omega
def tab_sum (l:List (ByteArray × Int)):zkX (zho l)=(znz (l.map (·.2)),znF (l.map (·.2))):=by
 rw [zho,zny,show zkX []=((0:Int),(0:Int)) from rfl,zek];simp
def zBs {a b:List (ByteArray × Int × Int)} (h:a.Perm b):zkX a=zkX b:=by
 induction h with
 | nil=>rfl
 | cons x _ ih=>simp only [zkX,ih]
 | swap x y l=>simp only [zkX];refine Prod.ext ?_ ?_<;>simp only []<;>omega
 | trans _ _ h1 h2=>exact h1.trans h2
def pS (S F:List USl) (i k:Nat):Bool:=match S[i]?,F[k]? with|some s,some x=>zbB zbj s x|_,_=>false
abbrev mtPV (x:Nat × Nat):PV:=.agg [.i .i64 x.1,.i .i64 x.2]
def taE (M:List (Nat × Nat)):List (PV × PV):=M.map λx=>(.i .i64 x.2,.b true)
theorem zxj (k:Nat):∀ M:List (Nat × Nat),(mget (.i .i64 k) (taE M)).getD (.b false)=.b ((M.map (·.2)).contains k)
 | []=>rfl
 | x::M=>by
  have ih:=zxj k M;simp only [taE,xag,mget,PV.cells,eqCells,eqPV,xbR] at ih ⊢
  by_cases h:k=x.2
  ·subst h;simp
  ·have:¬(k:Int)=x.2:=by omega
   rw [if_neg (by simpa using this),ih]
   simp [h]
theorem zp1 (k:Nat):∀ M:List (Nat × Nat),keysOk [1] false (.i .i64 k) (taE M)
 | []=>trivial
 | x::M=>⟨⟨rfl,by simp [PV.cells,eqCellsOk,eqOk]⟩,zp1 k M⟩
theorem zxi (i k:Nat):∀ M:List (Nat × Nat),¬k ∈ M.map (·.2)->mput (.i .i64 k) (.b true) (taE M)=taE (M++[(i,k)])
 | [],_=>rfl
 | x::M,h=>by
  have ih:=zxi i k M (λe=>h (xaJ _ e))
  have hne:¬k=x.2:=λe=>h (by simp [e])
  have:¬(k:Int)=x.2:=by omega
  simp only [taE,xag,mput,PV.cells,eqCells,eqPV,xbR,xaE] at ih ⊢;rw [if_neg (by simpa using this),ih]
def zhV {p:Nat->Nat->Bool} {k:Nat} {tk:List Nat} {i:Nat} (h:zdj p k tk i=none) (hk:(!tk.contains k && p i k)=false):zdj p (k+1) tk i=none:=by
 rw [zdj,xbt,List.find?_append];rw [zdj] at h;rw [h,List.find?_cons,hk];rfl
def zsj {p:Nat->Nat->Bool} {k n:Nat} {tk:List Nat} {i:Nat} (h:zdj p k tk i=none) (hk:(!tk.contains k && p i k)=true) (hn:k < n):zdj p n tk i=some k:=by
 obtain ⟨m,rfl⟩:∃ m,n=k+(m+1):=⟨n - (k+1),by omega⟩
 rw [zdj] at h;rw [zdj,List.range_add,List.find?_append,h,Option.none_or];simp only [List.range_succ_eq_map,xag,xbD];rw [List.find?_cons,hk]
theorem zhL {p q:Nat->Nat->Bool} {n:Nat}:∀ {m:Nat},(∀ i,i < m->∀ k,p i k=q i k)->zcZ p m n=zcZ q m n
 | 0,_=>rfl
 | m+1,h=>by
  rw [zbf,zbf,zhL λi hi=>h i (by omega)]
  have:∀ tk,zdj p n tk m=zdj q n tk m:=λtk=>by simp only [zdj,h m (by omega)]
  simp only [zie,this]
def znw {n i:Nat} (h:i < n):(zhc n)[i]?=some (i:Int):=by
 rw [zhc,xai,xco h];rfl
def zuJ (S F:List USl) (hS:S.length < 20) (hF:F.length < 20) (oS:ziN S) (oF:ziN F) (hm:∀ s ∈ S,0<=s.mom/\s.mom<=143999999):Pure prog 85 [zc6,.sl 3 (S.map USl.pv),.sl 3 (F.map USl.pv)] (.sl 2 ((zcZ (pS S F) S.length F.length).map mtPV)):=by
 have h1:=zmP S hS oS;have h2:=zmP F hF oF;refine pz func85 f85.eq_1 λhw X hX=>?_
 have qe:=aI qR @zbh;repeat' first|refine gC ?_ ?_<;>intro hc<;>try contradiction|refine za (h1) ?_|refine za (h2) ?_|refine gG ?_|show AK _;intro J Z|refine gJ ?_|omega|exact aT
 refine zaf 100 153 2 [(1,.p (.sl 3 (S.map USl.pv))),(2,.p (.sl 3 (F.map USl.pv))),(3,.lp 3 0),(7,.lm 14),(8,.p (.sl 1 ((zhc F.length).map (.i .i64)))),(9,.row 100 0),(18,.p (.sl 1 ((zhc S.length).map (.i .i64)))),(19,.p (.i .i64 S.length)),(20,.p (.i .i64 0))] [(3,.box (ruleCs.map .p) false),(14,.mp [] false)] ?_ ?_
 ·simp only [Own,zam,zaj,za8,zad,qS,seval]
 refine zh (κ:=Nat) (λi=>⟨[(1,.p (.sl 3 (S.map USl.pv))),(2,.p (.sl 3 (F.map USl.pv))),(3,.lp 3 0),(7,.lm 14),(8,.p (.sl 1 ((zhc F.length).map (.i .i64)))),(9,.row 100 (zcZ (pS S F) i F.length).length),(18,.p (.sl 1 ((zhc S.length).map (.i .i64)))),(19,.p (.i .i64 S.length)),(20,.p (.i .i64 i))],[(3,.box (ruleCs.map .p) false),(14,.mp (taE (zcZ (pS S F) i F.length)) false),(100,.row 153 2 ((zcZ (pS S F) i F.length).map mtPV) false)],[],false⟩) (λi=>i<=S.length) (λi=>S.length - i) 0 ?_ ?_ ?_
 ·refine gJ ?_;simp [zcZ,taE]
 ·simp
 ·intro i hi;have hML:=ziV (pS S F) F.length i
  repeat first|refine gG ?_|show AK _;intro J Z|refine gJ ?_|omega|exact aT
  (refine gC ?_ ?_<;>intro hc<;>try contradiction)
  ·obtain ⟨s,hs⟩:=zk (i:=i) (l:=S) (by omega)
   have hsi:(zhc S.length)[i]?=some (i:Int):=znw (by omega)
   have hsm:=hm s (xae hs);have qe:=aI qR (aI @hsi @zbh);repeat' first|refine gC ?_ ?_<;>intro hc<;>try contradiction|refine gG ?_|show AK _;intro J Z|refine gJ ?_|omega|exact aT
   refine zh (κ:=Nat) (λk=>⟨[(1,.p (.sl 3 (S.map USl.pv))),(2,.p (.sl 3 (F.map USl.pv))),(3,.lp 3 0),(7,.lm 14),(8,.p (.sl 1 ((zhc F.length).map (.i .i64)))),(9,.row 100 (zcZ (pS S F) i F.length).length),(18,.p (.sl 1 ((zhc S.length).map (.i .i64)))),(19,.p (.i .i64 S.length)),(20,.p (.i .i64 i)),(11,.p (.i .i64 i)),(24,.p (.sl 1 ((zhc F.length).map (.i .i64)))),(25,.p (.i .i64 F.length)),(26,.p (.i .i64 k))],[(3,.box (ruleCs.map .p) false),(14,.mp (taE (zcZ (pS S F) i F.length)) false),(100,.row 153 2 ((zcZ (pS S F) i F.length).map mtPV) false)],[],false⟩) (λk=>k<=F.length/\zdj (pS S F) k ((zcZ (pS S F) i F.length).map (·.2)) i=none) (λk=>F.length - k) 0 ?_ ?_ ?_
   ·exact sS
   ·exact ⟨by omega,rfl⟩
   ·intro k hk
    repeat first|refine gG ?_|show AK _;intro J Z|refine gJ ?_|omega|exact aT
    (refine gC ?_ ?_<;>intro hc<;>try contradiction)
    ·obtain ⟨x,hx⟩:=zk (i:=k) (l:=F) (by omega)
     have hxi:(zhc F.length)[k]?=some (k:Int):=znw (by omega)
     have hg:=zxj k (zcZ (pS S F) i F.length);have hq:=eq_true (zp1 k (zcZ (pS S F) i F.length));have hp:pS S F i k=zbB zbj s x:=by rw [pS,hs,hx]
     have h27:=zuL s x hsm.1 hsm.2;cases hcon:((zcZ (pS S F) i F.length).map (·.2)).contains k
     ·rw [hcon] at hg;cases hpo:zbB zbj s x
      ·rw [hpo] at h27;have qe:=aI qR (aI @hs (aI @hx (aI @hxi (aI @hg (aI @hq @zbh)))));repeat' first|refine gC ?_ ?_<;>intro hc<;>try contradiction|refine zm (λ_=>h27) ?_|refine gG ?_|show AK _;intro J Z|refine gJ ?_|omega|exact aT
       exact ⟨k+1,⟨by omega,zhV hk.2 (by rw [hp,hpo,Bool.and_false])⟩,by omega,by simp⟩
      ·rw [hpo] at h27;have hput:=zxi i k (zcZ (pS S F) i F.length) (λhm=>by rw [List.contains_iff_mem.2 hm] at hcon;cases hcon)
       have hnx:zcZ (pS S F) (i+1) F.length=zcZ (pS S F) i F.length++[(i,k)]:=by rw [zbf,zie,zsj hk.2 (by rw [hp,hpo,hcon];rfl) (by omega)]
       have qe:=aI qR (aI @hs (aI @hx (aI @hxi (aI @hg (aI @hq (aI @hput @zbh))))));repeat' first|refine gC ?_ ?_<;>intro hc<;>try contradiction|refine zm (λ_=>h27) ?_|refine gG ?_|show AK _;intro J Z|refine gJ ?_|omega|exact aT
       exact ⟨i+1,by omega,by omega,by rw [hnx];simp⟩
     ·rw [hcon] at hg;have qe:=aI qR (aI @hs (aI @hx (aI @hxi (aI @hg (aI @hq @zbh)))));repeat' first|refine gC ?_ ?_<;>intro hc<;>try contradiction|(show zj _ _ _ _ (⟨_,.call 141,_,_,_⟩::_) _ _;refine zbR (q:=(.b false)) (by first|rfl|(simp (disch:=omega) only [qG,qe,seval]<;>rfl)) ?_;(try (refine zB ?_)))|refine gG ?_|show AK _;intro J Z|refine gJ ?_|omega|exact aT
      exact ⟨k+1,⟨by omega,zhV hk.2 (by rw [hcon];rfl)⟩,by omega,by simp⟩
    ·have e:k=F.length:=by omega
     have hk2:=hk.2;rw [e] at hk2;have hnx:zcZ (pS S F) (i+1) F.length=zcZ (pS S F) i F.length:=by rw [zbf,zie,hk2]
     have qe:=@qR;repeat' first|refine gC ?_ ?_<;>intro hc<;>try contradiction|refine gG ?_|show AK _;intro J Z|refine gJ ?_|omega|exact aT
     exact ⟨i+1,by omega,by omega,by rw [hnx];simp⟩
  ·obtain rfl:i=S.length:=by omega
   have qe:=@qR;exact gD0
def plK (g:USl->Bool) (S:List USl) (k:Nat):List Nat:=zff g (S.take k)
def zjj (g:USl->Bool) (S:List USl) (k:Nat):List USl:=(S.take k).filter λs=>!g s
def zm9 {g:USl->Bool} {S:List USl} {k:Nat} {s:USl} (hs:S[k]?=some s):plK g S (k+1)=plK g S k++if g s then [] else [k]:=by
 have hk:=(xaa.1 hs).1;have l1:(S.take (k+1)).length=k+1:=by rw [xaj];omega
 have l0:(S.take k).length=k:=by rw [xaj];omega
 rw [plK,plK,zff,zff,l1,l0,xbt,xa7]
 congr 1
 ·refine List.filter_congr λj hj=>?_
  have hj:j < k:=by simpa using hj
  rw [xbm (by omega),xbm hj]
 ·rw [xaW,xbm (by omega),hs]
  cases hg:g s<;>simp [hg]
def zkx {g:USl->Bool} {S:List USl} {k:Nat} {s:USl} (hs:S[k]?=some s):zjj g S (k+1)=zjj g S k++if g s then [] else [s]:=by
 rw [zjj,zjj,zM hs,xa7,xaW];cases hg:g s<;>simp
theorem ziL {g:USl->Bool} {S:List USl}:∀ {k:Nat},k<=S.length->(plK g S k).length=(zjj g S k).length/\∀ (i j:Nat),(plK g S k)[i]?=some j->j < k/\(zjj g S k)[i]?=S[j]?
 | 0,_=>by simp [plK,zjj,zff]
 | k+1,h=>by
  obtain ⟨s,hs⟩:=zk (i:=k) (l:=S) (by omega)
  obtain ⟨i1,i2⟩:=ziL (g:=g) (S:=S) (k:=k) (by omega)
  rw [zm9 hs,zkx hs];cases hg:g s
  ·simp only [xaT,if_false,xad,xaK,xbs];refine ⟨by omega,λi j hij=>?_⟩
   by_cases hi:i < (plK g S k).length
   ·rw [xaz hi] at hij;obtain ⟨a1,a2⟩:=i2 i j hij;exact ⟨by omega,by rw [xaz (by omega)];exact a2⟩
   ·rw [xas (by omega)] at hij
    have hi2:i - (plK g S k).length=0:=by
     have:=(xaa.1 hij).1;simp at this;omega
    rw [hi2] at hij;simp at hij;subst hij;refine ⟨by omega,?_⟩
    rw [xas (by omega),show i - (zjj g S k).length=0 by omega,hs];rfl
  ·simp only [if_true,xat];exact ⟨i1,λi j hij=>⟨by have:=(i2 i j hij).1;omega,(i2 i j hij).2⟩⟩
def st0 (g:USl->Bool) (s:USl):Int:=if g s then 0 else 3
def zrp (g:USl->Bool) (S:List USl) (k:Nat):List Int:=(S.take k).map (st0 g)++List.replicate (S.length - k) 0
def zen {g:USl->Bool} {S:List USl} {k:Nat} (h:k<=S.length):(zrp g S k).length=S.length:=by simp [zrp];omega
def zvD {g:USl->Bool} {S:List USl} {k:Nat} {s:USl} (hs:S[k]?=some s):(zrp g S k).set k (st0 g s)=zrp g S (k+1):=by
 have hk:=(xaa.1 hs).1;obtain ⟨m,hm⟩:∃ m,S.length=k+1+m:=⟨S.length - (k+1),by omega⟩
 have l0:(S.take k).length=k:=by rw [xaj];omega
 rw [zrp,zrp,hm,show k+1+m - k=m+1 by omega,show k+1+m - (k+1)=m by omega,xcp,xbe _ _ (by simp;omega),zM hs]
 have hm2:min k S.length=k:=by omega
 simp [hm2]
def map_set (l:List Int) (k:Nat) (x:Int):(l.map (PV.i .i64)).set k (.i .i64 x)=(l.set k x).map (PV.i .i64):=by rw [xa2]
def zpK (g:USl->Bool) (S F:List USl):List (Nat × Nat):=zcZ (pS (zjj g S S.length) F) (zjj g S S.length).length F.length
def stK (g:USl->Bool) (S F:List USl) (j:Nat):List Int:=((zpK g S F).take j).foldl (ztR (plK g S S.length)) (zrp g S S.length)
def zp7 (g:USl->Bool) (S F:List USl):stK g S F (zpK g S F).length=stU zbj g (λ_=>3) S F:=by
 obtain ⟨h1,h2⟩:=ziL (g:=g) (S:=S) (xah _);have ep:plK g S S.length=zff g S:=by rw [plK,xaG]
 have eo:zrp g S S.length=S.map λs=>if g s then 0 else 3:=by rw [zrp,xaG,Nat.sub_self,List.replicate_zero,xat];rfl
 rw [stK,xaG,stU,eo,ep,zpK];rw [ep] at h1 h2;rw [<-h1];have hm:=zhL (p:=pS (zjj g S S.length) F) (q:=λi k=>match S[(zff g S)[i]?.getD 0]?,F[k]? with|some s,some x=>zbB zbj s x|_,_=>false) (n:=F.length) (m:=(zff g S).length) λi hi k=>by
  obtain ⟨j,hj⟩:=zk (i:=i) (l:=zff g S) hi;rw [pS,(h2 i j hj).2,hj];rfl
 rw [hm]
 rfl
def zij (g:USl->Bool) (S F:List USl) (j:Nat):(stK g S F j).length=S.length:=by rw [stK,zim,zen (xah _)]
def ztK {g:USl->Bool} {S F:List USl} {j a b c:Nat} (hx:(zpK g S F)[j]?=some (a,b)) (hc:(plK g S S.length)[a]?=some c):stK g S F (j+1)=(stK g S F j).set c 1:=by
 rw [stK,zM hx,xa4,xbi,List.foldl_nil,ztR,<-stK,hc];rfl
def zBh (n:UNt):Prop:=(0<=n.told/\n.told<=99999)/\n.kind≠zpL/\n.kind≠zpM
def zmO (S:List USl) (L:List UNt) (hS:S.length < 20) (hL:L.length<=100000) (hn:∀ n ∈ L,zBh n) (hF:(zb0 L).length<=14) (oS:ziN S) (oF:ziN (zb0 L)) (hm:∀ s ∈ S,0<=s.mom/\s.mom<=143999999) :
  Pure prog 41 [zc6,.sl 3 (S.map USl.pv),.sl 8 (L.map UNt.pv)] (.sl 1 ((stU zbj (λs=>L.any (zbK s)) (λ_=>3) S (zb0 L)).map (.i .i64))):=by
 generalize hg:(λs=>L.any (zbK s))=g
 have hgs:∀ s,L.any (zbK s)=g s:=λs=>by rw [<-hg]
 have hmem:∀ s ∈ zjj g S S.length,s ∈ S:=λs h=>xbl (xbM.1 h).1
 have h16:=zuU L hL hF oF;have h30:=zuJ (zjj g S S.length) (zb0 L) (Nat.lt_of_le_of_lt (xa6 ..) (by rw [xaG];exact hS)) (by omega) (by rw [zjj,xaG];exact oS.filter _) oF λs h=>hm s (hmem s h)
 rw [<-zp7];obtain ⟨hpl1,hpl2⟩:=ziL (g:=g) (S:=S) (xah _);have hz:((S.length:Int)).toNat=S.length:=xbz _;refine pz func41 f41.eq_1 λhw X hX=>?_
 have qe:=aI qR @hz;repeat' first|refine gC ?_ ?_<;>intro hc<;>try contradiction|refine gG ?_|show AK _;intro J Z|refine gJ ?_|omega|exact aT
 refine zaf 100 55 3 [(1,.p (.sl 3 (S.map USl.pv))),(2,.p (.sl 8 (L.map UNt.pv))),(3,.lp 3 0),(7,.row 16 S.length),(8,.row 100 0),(9,.p .nilsl),(17,.p (.sl 3 (S.map USl.pv))),(18,.p (.i .i64 S.length)),(19,.p (.i .i64 0))] [(3,.box (ruleCs.map .p) false),(16,.row 3 1 (List.replicate S.length (.i .i64 0)) false)] ?_ ?_
 ·simp only [Own,zam,zaj,za8,zad,qS,seval]<;>simp
 refine zaf 101 3 1 [(1,.p (.sl 3 (S.map USl.pv))),(2,.p (.sl 8 (L.map UNt.pv))),(3,.lp 3 0),(7,.row 16 S.length),(8,.row 100 0),(9,.row 101 0),(17,.p (.sl 3 (S.map USl.pv))),(18,.p (.i .i64 S.length)),(19,.p (.i .i64 0))] [(3,.box (ruleCs.map .p) false),(16,.row 3 1 (List.replicate S.length (.i .i64 0)) false),(100,.row 55 3 [] false)] ?_ ?_
 ·simp only [Own,zam,zaj,za8,zad,qS,seval]<;>simp
 refine zh (κ:=Nat) (λk=>⟨[(1,.p (.sl 3 (S.map USl.pv))),(2,.p (.sl 8 (L.map UNt.pv))),(3,.lp 3 0),(7,.row 16 S.length),(8,.row 100 (zjj g S k).length),(9,.row 101 (plK g S k).length),(17,.p (.sl 3 (S.map USl.pv))),(18,.p (.i .i64 S.length)),(19,.p (.i .i64 k))],[(3,.box (ruleCs.map .p) false),(16,.row 3 1 ((zrp g S k).map (.i .i64)) false),(100,.row 55 3 ((zjj g S k).map USl.pv) false),(101,.row 3 1 ((plK g S k).map λj:Nat=>.i .i64 j) false)],[],false⟩) (λk=>k<=S.length) (λk=>S.length - k) 0 ?_ ?_ ?_
 ·refine gJ ?_;simp [zrp,zjj,plK,zff]
 ·simp
 ·intro k hk;have hol:=zen (g:=g) hk;obtain ⟨hpk,_⟩:=ziL (g:=g) hk;have hdl:(zjj g S k).length<=k:=by have:=xa6 (λs=>!g s) (S.take k);rw [xaj] at this;rw [zjj];omega
  repeat first|refine gG ?_|show AK _;intro J Z|refine gJ ?_|omega|exact aT
  (refine gC ?_ ?_<;>intro hc<;>try contradiction)
  ·obtain ⟨s,hs⟩:=zk (i:=k) (l:=S) (by omega)
   have hsm:=hm s (xae hs);have h23:=zuP s L hsm.1 hsm.2 λn h=>(hn n h).1
   have h25:=zuN s L hsm.1 hsm.2 λn h=>(hn n h).2
   rw [hgs s] at h23;have hset:=zvD (g:=g) hs;have hd:=zkx (g:=g) hs;have hp:=zm9 (g:=g) hs;cases hgg:g s
   ·rw [hgg] at h23;rw [st0,hgg,if_neg (by decide)] at hset
    rw [hgg,if_neg (by decide)] at hd hp
    have qe:=aI qR (aI @hs (aI @hol (aI @map_set @hset)));repeat' first|refine gC ?_ ?_<;>intro hc<;>try contradiction|refine za (h23) ?_|refine za (h25) ?_|refine gG ?_|show AK _;intro J Z|refine gJ ?_|omega|exact aT
    exact ⟨k+1,by omega,by omega,by rw [hd,hp];simp [zen (g:=g) (show k+1<=S.length by omega)]⟩
   ·rw [hgg] at h23;rw [st0,hgg,if_pos rfl] at hset;rw [hgg,if_pos rfl,xat] at hd hp;have qe:=aI qR (aI @hs (aI @hol (aI @map_set @hset)));repeat' first|refine gC ?_ ?_<;>intro hc<;>try contradiction|refine za (h23) ?_|refine za (h25) ?_|refine gG ?_|show AK _;intro J Z|refine gJ ?_|omega|exact aT
    exact ⟨k+1,by omega,by omega,by rw [hd,hp];simp [zen (g:=g) (show k+1<=S.length by omega)]⟩
  ·obtain rfl:k=S.length:=by omega
   have hML:(zpK g S (zb0 L)).length<=S.length:=xaV (ziV ..) hdl;have qe:=@qR;repeat' first|refine gC ?_ ?_<;>intro hc<;>try contradiction|refine za (h16) ?_|refine zL (h30) ?_|refine gG ?_|show AK _;intro J Z|refine gJ ?_|omega|exact aT
   refine zh (κ:=Nat) (λj=>⟨[(7,.row 16 S.length),(9,.row 101 (plK g S S.length).length),(56,.p (.sl 2 ((zpK g S (zb0 L)).map mtPV))),(57,.p (.i .i64 (zpK g S (zb0 L)).length)),(58,.p (.i .i64 j))],[(16,.row 3 1 ((stK g S (zb0 L) j).map (.i .i64)) false),(101,.row 3 1 ((plK g S S.length).map λj:Nat=>.i .i64 j) false)],[],false⟩) (λj=>j<=(zpK g S (zb0 L)).length) (λj=>(zpK g S (zb0 L)).length - j) 0 ?_ ?_ ?_
   ·refine gJ ?_;simp [zpK,stK,zen (g:=g) (xah S.length)]
   ·simp
   ·intro j hj;have hsl:=zij g S (zb0 L) j
    repeat first|refine gG ?_|show AK _;intro J Z|refine gJ ?_|omega|exact aT
    (refine gC ?_ ?_<;>intro hc<;>try contradiction)
    ·obtain ⟨⟨a,b⟩,hx⟩:=zk (i:=j) (l:=zpK g S (zb0 L)) (by omega)
     have ha:=ze1 _ _ _ _ (xae hx);obtain ⟨c,hcc⟩:=zk (i:=a) (l:=plK g S S.length) (by rw [hpl1];exact ha.1)
     have hc2:=hpl2 a c hcc;have hnx:=ztK hx hcc;have qe:=aI qR (aI @hx (aI @hcc (aI @hsl @map_set)));repeat' first|refine gC ?_ ?_<;>intro hc<;>try contradiction|refine gG ?_|show AK _;intro J Z|refine gJ ?_|omega|exact aT
     exact ⟨j+1,by omega,by omega,by rw [hnx];simp [hsl]⟩
    ·obtain rfl:j=(zpK g S (zb0 L)).length:=by omega
     have qe:=@qR;repeat' first|refine gC ?_ ?_<;>intro hc<;>try contradiction|refine gG ?_|show AK _;intro J Z|refine gJ ?_|omega|exact aT
     all_goals exact ⟨(zij ..).symm,.refl _⟩
def zmN (S:List USl) (L:List UNt) (hS:S.length<=512) (hL:L.length<=512) (h1:∀ s ∈ S,zpS s=0) (h2:∀ n ∈ L,Pure prog 135 [n.pv] (.i .i64 0)):Pure prog 40 [zc6,.sl 3 (S.map USl.pv),.sl 8 (L.map UNt.pv)] (.i .i64 0):=by
 have z:∀ {α:Type} (f:α->Int) (l:List α),(∀ x ∈ l,f x=0)->zf (l.map f)=0:=λf l=>by
  induction l with
  | nil=>intro _;rfl
  | cons x l ih=>intro h;rw [xag,zf,h x (by simp),if_pos rfl];exact ih λy hy=>h y (by simp [hy])
 have h8:=zuY S hS;have h11:=zuW L (λ_=>0) h2 hL
 rw [z _ _ h1] at h8;rw [z _ _ λ_ _=>rfl] at h11
 refine pz func40 f40.eq_1 λhw X hX=>?_
 have qe:=@qR;have jA:=zu0;have jB:=h8;have jC:=h11;have jD:=λu1 u2 u3=>zbG [u1,u2,u3];exact gD4
def zn0 (fl du n:Int) (h0:0<=fl) (h1:fl<=1000000) (h2:0<=du) (h3:du<=1000000):Acts prog 42 [.lp 900 0,.p (.i .i64 n)] [(900,.box [.p (.i .i64 fl),.p (.i .i64 du)] false)] (.p (.tup [])) [(900,.box [.p (.i .i64 (zaS (fl,du) n).1),.p (.i .i64 (zaS (fl,du) n).2)] false)]:=by
 refine zF (cF func42 f42.eq_1) (by simp) (by simp [scPs,scP,zp]) (by simp [scObj,scPs,scP]) ⟨rfl,trivial⟩ (by simp [scObj,scPs,scP]) (by simp [zb1,zp]) λX hX=>?_
 unfold zA ghO
 by_cases e0:n=0
 ·subst e0;have qe:=aI qR (aI @gLV.eq_1 (aI @gLV.eq_2 (aI @rtN @rtR)));repeat' first|refine gC ?_ ?_<;>intro hc<;>try contradiction|refine gG ?_|show AK _;intro J Z|refine gJ ?_|omega|exact aT
  all_goals exact .inl (.mk0 (h2:=by simp only [qS,seval,keepG.eq_1,keepG.eq_2,gLV.eq_1,gLV.eq_2]<;>simp [zaS]))
 ·have e0':=eq_false e0
  by_cases e1:n=1
  ·subst e1;have qe:=aI qR (aI @gLV.eq_1 (aI @gLV.eq_2 (aI @rtN @rtR)));repeat' first|refine gC ?_ ?_<;>intro hc<;>try contradiction|refine gG ?_|show AK _;intro J Z|refine gJ ?_|omega|exact aT
   all_goals exact .inl (.mk0 (h2:=by simp only [qS,seval,keepG.eq_1,keepG.eq_2,gLV.eq_1,gLV.eq_2]<;>simp [zaS]))
  ·by_cases e2:n=2
   ·subst e2;have qe:=aI qR (aI @gLV.eq_1 (aI @gLV.eq_2 (aI @rtN @rtR)));repeat' first|refine gC ?_ ?_<;>intro hc<;>try contradiction|refine gG ?_|show AK _;intro J Z|refine gJ ?_|omega|exact aT
    all_goals exact .inl (.mk0 (h2:=by simp only [qS,seval,keepG.eq_1,keepG.eq_2,gLV.eq_1,gLV.eq_2]<;>simp [zaS]))
   ·have e1':=eq_false e1;have e2':=eq_false e2;have hr:zaS (fl,du) n=(fl,du+1):=by simp [zaS,e0,e1,e2]
    rw [hr];have qe:=aI qR (aI @e0' (aI @e1' (aI @e2' (aI @gLV.eq_1 (aI @gLV.eq_2 (aI @rtN @rtR))))));repeat' first|refine gC ?_ ?_<;>intro hc<;>try contradiction|refine gG ?_|show AK _;intro J Z|refine gJ ?_|omega|exact aT
    all_goals exact .inl (.mk0 (h2:=by simp only [qS,seval,keepG.eq_1,keepG.eq_2,gLV.eq_1,gLV.eq_2]<;>simp [zaS,e0,e1,e2]))
def zz4:∀ (l:List Int),0<=(l.foldl zaS (0,0)).1/\(l.foldl zaS (0,0)).1<=l.length/\0<=(l.foldl zaS (0,0)).2/\(l.foldl zaS (0,0)).2<=l.length:=λl=>by
 rw [zek];have a:=xa6 (λn:Int=>decide (n=1) || decide (n=2)) l
 have b:=xa6 (λn:Int=>decide (n≠0)) l
 simp only [znz,znF]
 omega
def zix (S:List USl) (L:List UNt) (hS:S.length < 20) (hL:L.length<=512) (h1:∀ s ∈ S,zpS s=0) (h2:∀ n ∈ L,Pure prog 135 [n.pv] (.i .i64 0)) (hn:∀ n ∈ L,zBh n) (hF:(zb0 L).length<=14) (oS:ziN S) (oF:ziN (zb0 L)) (hm:∀ s ∈ S,0<=s.mom/\s.mom<=143999999) :
  Pure prog 14 [zc6,.sl 3 (S.map USl.pv),.sl 8 (L.map UNt.pv)] (.tup [.agg [.i .i64 (znz (stU zbj (λs=>L.any (zbK s)) (λ_=>3) S (zb0 L))),.i .i64 (znF (stU zbj (λs=>L.any (zbK s)) (λ_=>3) S (zb0 L)))],.i .i64 0]):=by
 have h32:=zmN S L (by omega) hL h1 h2
 have h31:=zmO S L hS (by omega) hn hF oS oF hm
 have hlen:(stU zbj (λs=>L.any (zbK s)) (λ_=>3) S (zb0 L)).length=S.length:=by rw [<-zp7,zij]
 have hrt:=zek (stU zbj (λs=>L.any (zbK s)) (λ_=>3) S (zb0 L)) 0 0
 generalize stU zbj (λs=>L.any (zbK s)) (λ_=>3) S (zb0 L)=T at h31 hlen hrt ⊢
 refine pz func14 f14.eq_1 λhw X hX=>?_
 have qe:=@qR;repeat' first|refine gC ?_ ?_<;>intro hc<;>try contradiction|refine za (h32) ?_|refine za (h31) ?_|refine gG ?_|show AK _;intro J Z|refine gJ ?_|omega|exact aT
 refine zh (κ:=Nat) (λk=>⟨[(6,.lp 6 0),(9,.lp 9 0),(24,.p (.i .i64 T.length)),(23,.p (.sl 1 (T.map (.i .i64)))),(25,.p (.i .i64 k))],[(6,.box [.p (.i .i64 0),.p (.i .i64 0)] false),(9,.box [.p (.i .i64 ((T.take k).foldl zaS (0,0)).1),.p (.i .i64 ((T.take k).foldl zaS (0,0)).2)] false)],[],false⟩) (λk=>k<=T.length) (λk=>T.length - k) 0 ?_ ?_ ?_
 ·exact sS
 ·simp
 ·intro k hk
  repeat first|refine gG ?_|show AK _;intro J Z|refine gJ ?_|omega|exact aT
  (refine gC ?_ ?_<;>intro hc<;>try contradiction)
  ·obtain ⟨x,hx⟩:=zk (i:=k) (l:=T) (by omega)
   have hb:=zz4 (T.take k);have hl:(T.take k).length=k:=by rw [xaj];omega
   have h33:=zn0 ((T.take k).foldl zaS (0,0)).1 ((T.take k).foldl zaS (0,0)).2 x (by omega) (by omega) (by omega) (by omega)
   have hnx:(T.take (k+1)).foldl zaS (0,0)=zaS (((T.take k).foldl zaS (0,0)).1,((T.take k).foldl zaS (0,0)).2) x:=by rw [zM hx,xa4];rfl
   have qe:=aI qR (aI @qN (aI @hx (aI @rtN @rtR)));repeat' first|refine gC ?_ ?_<;>intro hc<;>try contradiction|refine zo [(900,9)] (h33) ?_|refine gG ?_|show AK _;intro J Z|refine gJ ?_|omega|exact aT
   exact ⟨k+1,by omega,by omega,by rw [hnx];simp⟩
  ·obtain rfl:k=T.length:=by omega
   have qe:=aI qR (aI @List.take_length.{0} (aI @hrt @Int.zero_add));exact gD0
structure URw where
 name:ByteArray
 fl:Int
 du:Int
def zCY (fl du:Int):Bool:=decide (0 < du) && decide (80*du<=100*fl)
abbrev URw.pv (r:URw):PV:=.agg [.s r.name,.i .i64 r.fl,.i .i64 r.du,.b (zCY r.fl r.du)]
def zwZ {f:Nat} {c:URw->URw->Int} (hf:∀ a b:URw,Pure prog f [a.pv,b.pv] (.i .i64 (c a b))) (L:List URw) (b:Int) (hb:b=L.length) (hn:L.length<=1000000):Acts prog 148 [.row 900 L.length,.p (.i .i64 0),.p (.i .i64 b),.p (.fn (.func f) [] [])] [(900,.row 73 4 (L.map URw.pv) false)] (.p (.tup [])) [(900,.row 73 4 ((zbt c L).map URw.pv) false)]:=by
 subst hb;refine zF (cF func148 f148.eq_1) (by simp) (by simp [scPs,scP,zp]) (by simp [scObj]) ⟨rfl,trivial⟩ (by simp [scObj]) (by simp [zb1,zp,zK]) λX hX=>?_
 unfold zA ghO;have qe:=aI qR @gLV.eq_2;repeat' first|refine gC ?_ ?_<;>intro hc<;>try contradiction|refine gG ?_|show AK _;intro J Z|refine gJ ?_|omega|exact aT
 refine zh (κ:=Nat) (λi=>⟨[(0,.row 900 L.length),(1,.p (.i .i64 0)),(2,.p (.i .i64 L.length)),(3,.p (.fn (.func f) [] [])),(8,.p (.i .i64 i)),(1000900,.row 900 L.length)],[(900,.row 73 4 ((ze7 c L i).map URw.pv) false)],[],false⟩) (λi=>1<=i/\(i<=L.length\/i=1)) (λi=>L.length - i) 1 ?_ ?_ ?_
 ·simp only [qS,seval,gLV.eq_2]<;>simp [zsE]
 ·simp
 ·intro i hi;have hdl:=zcn (c:=c) hi.2
  by_cases hlt:i < L.length
  ·obtain ⟨x,hx⟩:=zk (i:=i) (l:=L) hlt;have qe:=aI qR @hdl;repeat' first|refine gC ?_ ?_<;>intro hc<;>try contradiction|refine gG ?_|show AK _;intro J Z|refine gJ ?_|omega|exact aT
   have hol:=zep (c:=c) (L:=L) (k:=i) (by omega)
   refine zh (κ:=Nat) (λj=>⟨[(0,.row 900 L.length),(1,.p (.i .i64 0)),(2,.p (.i .i64 L.length)),(3,.p (.fn (.func f) [] [])),(8,.p (.i .i64 i)),(9,.p (.i .i64 j)),(1000900,.row 900 L.length)],[(900,.row 73 4 ((djP (zhb c L i) x (L.drop (i+1)) j).map URw.pv) false)],[],false⟩) (λj=>j<=i/\zaU (zhe c) x (zhb c L i) j=zaU (zhe c) x (zhb c L i) i) (λj=>j) i ?_ ?_ ?_
   ·refine gJ ?_;simp [zky hx,hdl]
   ·simp
   ·intro j hj;have hjl:(djP (zhb c L i) x (L.drop (i+1)) j).length=L.length:=by rw [zjl (by omega),hol,xay];omega
    cases j with
    | zero=>
     have i0:(0 < ((0:Nat):Int))=False:=eq_false (by omega)
     have qe:=aI qR (aI @i0 (aI @hjl (aI @rtN @rtR)));repeat' first|refine gC ?_ ?_<;>intro hc<;>try contradiction|(show zj _ _ _ _ (⟨_,.callv,_,_,_⟩::_) _ _;refine zcf (q:=(.i .i64 0)) (by first|rfl|(simp (disch:=omega) only [qG,qe,seval]<;>rfl)) ?_;(try (refine zB ?_)))|refine gG ?_|show AK _;intro J Z|refine gJ ?_|omega|exact aT
     exact ⟨i+1,by omega,by omega,by simp,by rw [zfQ (j:=0) hx hj.2],by rw [zcn (by omega)];exact xah _⟩
    | succ j=>
     have i0:(0 < ((j+1:Nat):Int))=True:=eq_true (by omega)
     have i1:((j+1:Nat):Int) - 1=(j:Int):=by omega
     obtain ⟨y,hy⟩:=zk (i:=j) (l:=zhb c L i) (by omega)
     obtain ⟨h1,h2⟩:=zxQ (x:=x) (rest:=L.drop (i+1)) hy
     by_cases hc:c x y < 0
     ·have hc':=eq_true hc;have h3:=znu hy hc;have qe:=aI qR (aI @i0 (aI @i1 (aI @h1 (aI @h2 (aI @hjl (aI @hc' (aI @rtN @rtR)))))));repeat' first|refine gC ?_ ?_<;>intro hc<;>try contradiction|refine zn (hf x y) ?_|refine gG ?_|show AK _;intro J Z|refine gJ ?_|omega|exact aT
      exact ⟨j,⟨by omega,by rw [<-h3];exact hj.2⟩,by omega,rfl,by rw [<-znH hy,xa2,xa2],by rw [zjl (by omega),hol,xay];omega⟩
     ·have hc':=eq_false hc;have h3:=zhS hy hc;have qe:=aI qR (aI @i0 (aI @i1 (aI @h1 (aI @h2 (aI @hjl (aI @hc' (aI @rtN @rtR)))))));repeat' first|refine gC ?_ ?_<;>intro hc<;>try contradiction|refine zn (hf x y) ?_|refine gG ?_|show AK _;intro J Z|refine gJ ?_|omega|exact aT
      exact ⟨i+1,by omega,by omega,by simp,by rw [zfQ hx (h3.symm.trans hj.2)],by rw [zcn (by omega)];exact xah _⟩
  ·have qe:=aI qR (aI @hdl (aI @rtN @rtR));repeat' first|refine gC ?_ ?_<;>intro hc<;>try contradiction|refine gG ?_|show AK _;intro J Z|refine gJ ?_|omega|exact aT
   rw [zkA c L (by omega)]
   exact .inl (.mk0 (h2:=by simp only [qS,seval,keepG.eq_1,keepG.eq_2,gLV.eq_2]<;>simp))
def zw0 {f:Nat} {c:URw->URw->Int} (hf:∀ a b:URw,Pure prog f [a.pv,b.pv] (.i .i64 (c a b))) (L:List URw) (v:PV) (hn:L.length<=12):Acts prog 87 [.row 900 L.length,.p (.i .i64 0),.p (.i .i64 L.length),.p v,.p (.fn (.func f) [] [])] [(900,.row 73 4 (L.map URw.pv) false)] (.p (.tup [])) [(900,.row 73 4 ((zbt c L).map URw.pv) false)]:=by
 have hsl:=zK c L;refine zF (cF func87 f87.eq_1) (by simp) (by simp [scPs,scP,zp]) (by simp [scObj]) ⟨rfl,trivial⟩ (by simp [scObj]) (by simp [zb1,zp,zK]) λX hX=>?_
 unfold zA ghO;have qe:=aI qR @gLV.eq_2;repeat' first|refine gC ?_ ?_<;>intro hc<;>try contradiction|refine gG ?_|show AK _;intro J Z|refine gJ ?_|omega|exact aT
 refine zh (κ:=Unit) (λ_=>⟨[(0,.row 900 L.length),(1,.p (.i .i64 0)),(2,.p (.i .i64 L.length)),(4,.p (.fn (.func f) [] [])),(1000900,.row 900 L.length)],[(900,.row 73 4 (L.map URw.pv) false)],[],false⟩) (λ_=>True) (λ_=>0) () ?_ ?_ ?_
 ·simp only [qS,seval,gLV.eq_2]<;>simp
 ·trivial
 ·intro _ _;have hle:((L.length:Int) - 0<=12)=True:=eq_true (by omega)
  have hle2:((L.length:Int)<=12)=True:=eq_true (by omega)
  have qe:=aI qR (aI @qN (aI @hle (aI @hle2 (aI @Int.sub_zero (aI @rtN (aI @rtR (aI @zK (@List.length_map.{0,0}))))))));repeat' first|refine gC ?_ ?_<;>intro hc<;>try contradiction|refine zo [(900,900)] (zwZ hf L L.length rfl (by omega)) ?_|refine gG ?_|show AK _;intro J Z|refine gJ ?_|omega|exact aT
  exact .inl (.mk0 (h2:=by simp only [qS,seval,keepG.eq_1,keepG.eq_2,gLV.eq_2]<;>simp))
def zw1 {f:Nat} {c:URw->URw->Int} (hf:∀ a b:URw,Pure prog f [a.pv,b.pv] (.i .i64 (c a b))) (L:List URw) (hn:L.length<=12):Acts prog 44 [.row 900 L.length,.p (.fn (.func f) [] [])] [(900,.row 73 4 (L.map URw.pv) false)] (.p (.tup [])) [(900,.row 73 4 ((zbt c L).map URw.pv) false)]:=by
 have hsl:=zK c L;refine zF (cF func44 f44.eq_1) (by simp) (by simp [scPs,scP,zp]) (by simp [scObj]) ⟨rfl,trivial⟩ (by simp [scObj]) (by simp [zb1,zp,zK]) λX hX=>?_
 unfold zA ghO;have hw:IntKind.u64.wrap (L.length:Int)=L.length:=by simp [IntKind.wrap,IntKind.bits,IntKind.signed];omega
 have qe:=aI qR (aI @qN (aI @hw (aI @gLV.eq_2 (aI @rtN (aI @rtR (aI @zK (@List.length_map.{0,0})))))));repeat' first|refine gC ?_ ?_<;>intro hc<;>try contradiction|refine za (ziB L.length (by omega) (by omega)) ?_|refine zo [(900,900)] (zw0 hf L .any hn) ?_|refine gG ?_|show AK _;intro J Z|refine gJ ?_|omega|exact aT
 exact .inl (.mk0 (h2:=by simp only [qS,seval,keepG.eq_1,keepG.eq_2,gLV.eq_2]<;>simp))
end Go.Proofs.YtocamnijnhnlfaaGreat
