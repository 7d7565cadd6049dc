/- Contracts of functions, for the claim. No conditions. -/
import Derived.Test.YtbgckikhhcbmpaaGreatK4
import Derived.Test.YtbgckikhhcbmpaaGreatK3
set_option linter.all false
set_option maxHeartbeats 8000000
set_option maxRecDepth 100000
namespace Go.Proofs.YtbgckikhhcbmpaaGreat
open Go.RowKit Tryz
structure Rfs where
 name:ByteArray
 lim:Int
 mom:Int
abbrev Rfs.pv (r:Rfs):PV:=.agg [.s r.name,.i .i64 r.lim,.i .i64 r.mom]
def zbd (r:Req):(zbF r).length<=401:=by
 rw [zbF]
 split
 ·rename_i h;have h1:=zeN r.per;have h2:=zaI (zeR h).1;rw [zhk,xaf];omega
 ·simp
structure Exc where
 slots:List ByteArray
 carrier:ByteArray
 slot:ByteArray
 to:ByteArray
 lease:Lea
 day:Int
abbrev Exc.pv (x:Exc):PV:=.agg [.sl 1 (x.slots.map .s),.s x.carrier,.s x.slot,.s x.to,.s x.lease.carrier,.i .i64 x.lease.fro,.i .i64 x.lease.to,.i .i64 x.day]
def zuD {α:Type} {c:α->α->Int} {L:List α} {k:Nat} {y:α} (h:y ∈ zdW c L k):y ∈ L:=by
 have:=(zbG (zaJ c) (L.take k) []).mem_iff.1 h;rw [xaG] at this;exact xbx this
abbrev Ttl.pv (t:Ttl):PV:=.agg [.s t.car,.i .i64 t.asked,.i .i64 t.gr,.i .i64 t.dis]
def zv7 {f:Nat} {cs:List PV} {c:Int->Int->Int} (L:List Int) (hf:∀ a ∈ L,∀ b ∈ L,Pure prog f ([]++[.i .i64 a,.i .i64 b]++cs) (.i .i64 (c a b))) (b:Int) (hb:b=L.length) (hn:L.length<=1000000):zbk prog 269 [.row 900 L.length,.p (.i .i64 0),.p (.i .i64 b),.p (.fn (.func f) [] cs)] [(900,.row 3 1 (L.map (.i .i64)) false)] (.p (.tup [])) [(900,.row 3 1 ((zz c L).map (.i .i64)) false)]:=by
 subst hb;refine zD (cF func269 f269.eq_1) (by simp) (by simp [scPs,scP,zm]) (by simp [scObj]) ⟨rfl,trivial⟩ (by simp [scObj]) (by simp [zcQ,zm,zu]) λX hX=>?_
 unfold zx ghO;have qe:=aI qR @gLV.eq_2;repeat' first|refine gC ?_ ?_<;>intro hc<;>try contradiction|refine gG ?_|show AK _;intro J Z|refine gJ ?_|omega|exact aT
 refine zh (κ:=Nat) (λi=>⟨[(0,.row 900 L.length),(1,.p (.i .i64 0)),(2,.p (.i .i64 L.length)),(3,.p (.fn (.func f) [] cs)),(8,.p (.i .i64 i)),(1000900,.row 900 L.length)],[(900,.row 3 1 ((zeO c L i).map (.i .i64)) false)],[],false⟩) (λi=>1<=i/\(i<=L.length\/i=1)) (λi=>L.length - i) 1 ?_ ?_ ?_
 ·simp only [qS,seval,gLV.eq_2]<;>simp [zlX]
 ·simp
 ·intro i hi;have hdl:=zbs (c:=c) hi.2
  by_cases hlt:i < L.length
  ·obtain ⟨x,hx⟩:=zj (i:=i) (l:=L) hlt;have qe:=aI qR @hdl;repeat' first|refine gC ?_ ?_<;>intro hc<;>try contradiction|refine gG ?_|show AK _;intro J Z|refine gJ ?_|omega|exact aT
   have hol:=zdE (c:=c) (L:=L) (k:=i) (by omega)
   refine zh (κ:=Nat) (λj=>⟨[(0,.row 900 L.length),(1,.p (.i .i64 0)),(2,.p (.i .i64 L.length)),(3,.p (.fn (.func f) [] cs)),(8,.p (.i .i64 i)),(9,.p (.i .i64 j)),(1000900,.row 900 L.length)],[(900,.row 3 1 ((djP (zdW c L i) x (L.drop (i+1)) j).map (.i .i64)) false)],[],false⟩) (λj=>j<=i/\zaV (zaJ c) x (zdW c L i) j=zaV (zaJ c) x (zdW c L i) i) (λj=>j) i ?_ ?_ ?_
   ·refine gJ ?_;simp [zgU hx,hdl]
   ·simp
   ·intro j hj;have hjl:(djP (zdW c L i) x (L.drop (i+1)) j).length=L.length:=by rw [zfg (by omega),hol,xau];omega
    cases j with
    | zero=>
     have i0:(0 < ((0:Nat):Int))=False:=eq_false (by omega)
     have qe:=aI qR (aI @i0 (aI @hjl (aI @rtN @rtR)));repeat' first|refine gC ?_ ?_<;>intro hc<;>try contradiction|(show zp _ _ _ _ (⟨_,.callv,_,_,_⟩::_) _ _;refine zbn (q:=(.i .i64 0)) (by first|rfl|(simp (disch:=omega) only [qG,qe,seval]<;>rfl)) ?_;(try (refine zw ?_)))|refine gG ?_|show AK _;intro J Z|refine gJ ?_|omega|exact aT
     exact ⟨i+1,by omega,by omega,by simp,by rw [zdJ (j:=0) hx hj.2],by rw [zbs (by omega)];exact xam _⟩
    | succ j=>
     have i0:(0 < ((j+1:Nat):Int))=True:=eq_true (by omega)
     have i1:((j+1:Nat):Int) - 1=(j:Int):=by omega
     obtain ⟨y,hy⟩:=zj (i:=j) (l:=zdW c L i) (by omega)
     obtain ⟨h1,h2⟩:=zrF (x:=x) (rest:=L.drop (i+1)) hy;have hxm:=xae hx;have hym:=zuD (xae hy)
     by_cases hc:c x y < 0
     ·have hc':=eq_true hc;have h3:=ziP hy hc;have qe:=aI qR (aI @i0 (aI @i1 (aI @h1 (aI @h2 (aI @hjl (aI @hc' (aI @rtN @rtR)))))));repeat' first|refine gC ?_ ?_<;>intro hc<;>try contradiction|refine zl (hf x hxm y hym) ?_|refine gG ?_|show AK _;intro J Z|refine gJ ?_|omega|exact aT
      exact ⟨j,⟨by omega,by rw [<-h3];exact hj.2⟩,by omega,rfl,by rw [<-zi0 hy,xa4,xa4],by rw [zfg (by omega),hol,xau];omega⟩
     ·have hc':=eq_false hc;have h3:=zfc hy hc;have qe:=aI qR (aI @i0 (aI @i1 (aI @h1 (aI @h2 (aI @hjl (aI @hc' (aI @rtN @rtR)))))));repeat' first|refine gC ?_ ?_<;>intro hc<;>try contradiction|refine zl (hf x hxm y hym) ?_|refine gG ?_|show AK _;intro J Z|refine gJ ?_|omega|exact aT
      exact ⟨i+1,by omega,by omega,by simp,by rw [zdJ hx (h3.symm.trans hj.2)],by rw [zbs (by omega)];exact xam _⟩
  ·have qe:=aI qR (aI @hdl (aI @rtN @rtR));repeat' first|refine gC ?_ ?_<;>intro hc<;>try contradiction|refine gG ?_|show AK _;intro J Z|refine gJ ?_|omega|exact aT
   rw [zgW c L (by omega)]
   exact .inl (.mk0 (h2:=by simp only [qS,seval,keepG.eq_1,keepG.eq_2,gLV.eq_2]<;>simp))
def zvU {f:Nat} {cs:List PV} {c:Int->Int->Int} (L:List Int) (hf:∀ a ∈ L,∀ b ∈ L,Pure prog f ([]++[.i .i64 a,.i .i64 b]++cs) (.i .i64 (c a b))) (v:PV) (hn:L.length<=12):zbk prog 227 [.row 900 L.length,.p (.i .i64 0),.p (.i .i64 L.length),.p v,.p (.fn (.func f) [] cs)] [(900,.row 3 1 (L.map (.i .i64)) false)] (.p (.tup [])) [(900,.row 3 1 ((zz c L).map (.i .i64)) false)]:=by
 have hsl:=zu c L;refine zD (cF func227 f227.eq_1) (by simp) (by simp [scPs,scP,zm]) (by simp [scObj]) ⟨rfl,trivial⟩ (by simp [scObj]) (by simp [zcQ,zm,zu]) λX hX=>?_
 unfold zx ghO;have qe:=aI qR @gLV.eq_2;repeat' first|refine gC ?_ ?_<;>intro hc<;>try contradiction|refine gG ?_|show AK _;intro J Z|refine gJ ?_|omega|exact aT
 refine zh (κ:=Unit) (λ_=>⟨[(0,.row 900 L.length),(1,.p (.i .i64 0)),(2,.p (.i .i64 L.length)),(4,.p (.fn (.func f) [] cs)),(1000900,.row 900 L.length)],[(900,.row 3 1 (L.map (.i .i64)) false)],[],false⟩) (λ_=>True) (λ_=>0) () ?_ ?_ ?_
 ·simp only [qS,seval,gLV.eq_2]<;>simp
 ·trivial
 ·intro _ _;have hle:((L.length:Int) - 0<=12)=True:=eq_true (by omega)
  have hle2:((L.length:Int)<=12)=True:=eq_true (by omega)
  have qe:=aI qR (aI @qN (aI @hle (aI @hle2 (aI @Int.sub_zero (aI @rtN (aI @rtR (aI @zu (@List.length_map.{0,0}))))))));repeat' first|refine gC ?_ ?_<;>intro hc<;>try contradiction|refine zf [(900,900)] (zv7 L hf L.length rfl (by omega)) ?_|refine gG ?_|show AK _;intro J Z|refine gJ ?_|omega|exact aT
  exact .inl (.mk0 (h2:=by simp only [qS,seval,keepG.eq_1,keepG.eq_2,gLV.eq_2]<;>simp))
def zvW {f:Nat} {cs:List PV} {c:Int->Int->Int} (L:List Int) (hf:∀ a ∈ L,∀ b ∈ L,Pure prog f ([]++[.i .i64 a,.i .i64 b]++cs) (.i .i64 (c a b))) (hn:L.length<=12):zbk prog 191 [.row 900 L.length,.p (.fn (.func f) [] cs)] [(900,.row 3 1 (L.map (.i .i64)) false)] (.p (.tup [])) [(900,.row 3 1 ((zz c L).map (.i .i64)) false)]:=by
 have hsl:=zu c L;refine zD (cF func191 f191.eq_1) (by simp) (by simp [scPs,scP,zm]) (by simp [scObj]) ⟨rfl,trivial⟩ (by simp [scObj]) (by simp [zcQ,zm,zu]) λX hX=>?_
 unfold zx ghO;have hw:IntKind.u64.wrap (L.length:Int)=L.length:=by simp [IntKind.wrap,IntKind.bits,IntKind.signed];omega
 have qe:=aI qR (aI @qN (aI @hw (aI @gLV.eq_2 (aI @rtN (aI @rtR (aI @zu (@List.length_map.{0,0})))))));repeat' first|refine gC ?_ ?_<;>intro hc<;>try contradiction|refine za (zmF L.length (by omega) (by omega)) ?_|refine zf [(900,900)] (zvU L hf .any hn) ?_|refine gG ?_|show AK _;intro J Z|refine gJ ?_|omega|exact aT
 exact .inl (.mk0 (h2:=by simp only [qS,seval,keepG.eq_1,keepG.eq_2,gLV.eq_2]<;>simp))
def zvT {f:Nat} {c:Ttl->Ttl->Int} (hf:∀ a b:Ttl,Pure prog f [a.pv,b.pv] (.i .i64 (c a b))) (L:List Ttl) (b:Int) (hb:b=L.length) (hn:L.length<=1000000):zbk prog 228 [.row 900 L.length,.p (.i .i64 0),.p (.i .i64 b),.p (.fn (.func f) [] [])] [(900,.row 137 4 (L.map Ttl.pv) false)] (.p (.tup [])) [(900,.row 137 4 ((zz c L).map Ttl.pv) false)]:=by
 subst hb;refine zD (cF func228 f228.eq_1) (by simp) (by simp [scPs,scP,zm]) (by simp [scObj]) ⟨rfl,trivial⟩ (by simp [scObj]) (by simp [zcQ,zm,zu]) λX hX=>?_
 unfold zx ghO;have qe:=aI qR @gLV.eq_2;repeat' first|refine gC ?_ ?_<;>intro hc<;>try contradiction|refine gG ?_|show AK _;intro J Z|refine gJ ?_|omega|exact aT
 refine zh (κ:=Nat) (λi=>⟨[(0,.row 900 L.length),(1,.p (.i .i64 0)),(2,.p (.i .i64 L.length)),(3,.p (.fn (.func f) [] [])),(8,.p (.i .i64 i)),(1000900,.row 900 L.length)],[(900,.row 137 4 ((zeO c L i).map Ttl.pv) false)],[],false⟩) (λi=>1<=i/\(i<=L.length\/i=1)) (λi=>L.length - i) 1 ?_ ?_ ?_
 ·simp only [qS,seval,gLV.eq_2]<;>simp [zlX]
 ·simp
 ·intro i hi;have hdl:=zbs (c:=c) hi.2
  by_cases hlt:i < L.length
  ·obtain ⟨x,hx⟩:=zj (i:=i) (l:=L) hlt;have qe:=aI qR @hdl;repeat' first|refine gC ?_ ?_<;>intro hc<;>try contradiction|refine gG ?_|show AK _;intro J Z|refine gJ ?_|omega|exact aT
   have hol:=zdE (c:=c) (L:=L) (k:=i) (by omega)
   refine zh (κ:=Nat) (λj=>⟨[(0,.row 900 L.length),(1,.p (.i .i64 0)),(2,.p (.i .i64 L.length)),(3,.p (.fn (.func f) [] [])),(8,.p (.i .i64 i)),(9,.p (.i .i64 j)),(1000900,.row 900 L.length)],[(900,.row 137 4 ((djP (zdW c L i) x (L.drop (i+1)) j).map Ttl.pv) false)],[],false⟩) (λj=>j<=i/\zaV (zaJ c) x (zdW c L i) j=zaV (zaJ c) x (zdW c L i) i) (λj=>j) i ?_ ?_ ?_
   ·refine gJ ?_;simp [zgU hx,hdl]
   ·simp
   ·intro j hj;have hjl:(djP (zdW c L i) x (L.drop (i+1)) j).length=L.length:=by rw [zfg (by omega),hol,xau];omega
    cases j with
    | zero=>
     have i0:(0 < ((0:Nat):Int))=False:=eq_false (by omega)
     have qe:=aI qR (aI @i0 (aI @hjl (aI @rtN @rtR)));repeat' first|refine gC ?_ ?_<;>intro hc<;>try contradiction|(show zp _ _ _ _ (⟨_,.callv,_,_,_⟩::_) _ _;refine zbn (q:=(.i .i64 0)) (by first|rfl|(simp (disch:=omega) only [qG,qe,seval]<;>rfl)) ?_;(try (refine zw ?_)))|refine gG ?_|show AK _;intro J Z|refine gJ ?_|omega|exact aT
     exact ⟨i+1,by omega,by omega,by simp,by rw [zdJ (j:=0) hx hj.2],by rw [zbs (by omega)];exact xam _⟩
    | succ j=>
     have i0:(0 < ((j+1:Nat):Int))=True:=eq_true (by omega)
     have i1:((j+1:Nat):Int) - 1=(j:Int):=by omega
     obtain ⟨y,hy⟩:=zj (i:=j) (l:=zdW c L i) (by omega)
     obtain ⟨h1,h2⟩:=zrF (x:=x) (rest:=L.drop (i+1)) hy
     by_cases hc:c x y < 0
     ·have hc':=eq_true hc;have h3:=ziP hy hc;have qe:=aI qR (aI @i0 (aI @i1 (aI @h1 (aI @h2 (aI @hjl (aI @hc' (aI @rtN @rtR)))))));repeat' first|refine gC ?_ ?_<;>intro hc<;>try contradiction|refine zl (hf x y) ?_|refine gG ?_|show AK _;intro J Z|refine gJ ?_|omega|exact aT
      exact ⟨j,⟨by omega,by rw [<-h3];exact hj.2⟩,by omega,rfl,by rw [<-zi0 hy,xa4,xa4],by rw [zfg (by omega),hol,xau];omega⟩
     ·have hc':=eq_false hc;have h3:=zfc hy hc;have qe:=aI qR (aI @i0 (aI @i1 (aI @h1 (aI @h2 (aI @hjl (aI @hc' (aI @rtN @rtR)))))));repeat' first|refine gC ?_ ?_<;>intro hc<;>try contradiction|refine zl (hf x y) ?_|refine gG ?_|show AK _;intro J Z|refine gJ ?_|omega|exact aT
      exact ⟨i+1,by omega,by omega,by simp,by rw [zdJ hx (h3.symm.trans hj.2)],by rw [zbs (by omega)];exact xam _⟩
  ·have qe:=aI qR (aI @hdl (aI @rtN @rtR));repeat' first|refine gC ?_ ?_<;>intro hc<;>try contradiction|refine gG ?_|show AK _;intro J Z|refine gJ ?_|omega|exact aT
   rw [zgW c L (by omega)]
   exact .inl (.mk0 (h2:=by simp only [qS,seval,keepG.eq_1,keepG.eq_2,gLV.eq_2]<;>simp))
def zvV {f:Nat} {c:Ttl->Ttl->Int} (hf:∀ a b:Ttl,Pure prog f [a.pv,b.pv] (.i .i64 (c a b))) (L:List Ttl) (v:PV) (hn:L.length<=12):zbk prog 194 [.row 900 L.length,.p (.i .i64 0),.p (.i .i64 L.length),.p v,.p (.fn (.func f) [] [])] [(900,.row 137 4 (L.map Ttl.pv) false)] (.p (.tup [])) [(900,.row 137 4 ((zz c L).map Ttl.pv) false)]:=by
 have hsl:=zu c L;refine zD (cF func194 f194.eq_1) (by simp) (by simp [scPs,scP,zm]) (by simp [scObj]) ⟨rfl,trivial⟩ (by simp [scObj]) (by simp [zcQ,zm,zu]) λX hX=>?_
 unfold zx ghO;have qe:=aI qR @gLV.eq_2;repeat' first|refine gC ?_ ?_<;>intro hc<;>try contradiction|refine gG ?_|show AK _;intro J Z|refine gJ ?_|omega|exact aT
 refine zh (κ:=Unit) (λ_=>⟨[(0,.row 900 L.length),(1,.p (.i .i64 0)),(2,.p (.i .i64 L.length)),(4,.p (.fn (.func f) [] [])),(1000900,.row 900 L.length)],[(900,.row 137 4 (L.map Ttl.pv) false)],[],false⟩) (λ_=>True) (λ_=>0) () ?_ ?_ ?_
 ·simp only [qS,seval,gLV.eq_2]<;>simp
 ·trivial
 ·intro _ _;have hle:((L.length:Int) - 0<=12)=True:=eq_true (by omega)
  have hle2:((L.length:Int)<=12)=True:=eq_true (by omega)
  have qe:=aI qR (aI @qN (aI @hle (aI @hle2 (aI @Int.sub_zero (aI @rtN (aI @rtR (aI @zu (@List.length_map.{0,0}))))))));repeat' first|refine gC ?_ ?_<;>intro hc<;>try contradiction|refine zf [(900,900)] (zvT hf L L.length rfl (by omega)) ?_|refine gG ?_|show AK _;intro J Z|refine gJ ?_|omega|exact aT
  exact .inl (.mk0 (h2:=by simp only [qS,seval,keepG.eq_1,keepG.eq_2,gLV.eq_2]<;>simp))
def zv3 {f:Nat} {c:Ttl->Ttl->Int} (hf:∀ a b:Ttl,Pure prog f [a.pv,b.pv] (.i .i64 (c a b))) (L:List Ttl) (hn:L.length<=12):zbk prog 130 [.row 900 L.length,.p (.fn (.func f) [] [])] [(900,.row 137 4 (L.map Ttl.pv) false)] (.p (.tup [])) [(900,.row 137 4 ((zz c L).map Ttl.pv) false)]:=by
 have hsl:=zu c L;refine zD (cF func130 f130.eq_1) (by simp) (by simp [scPs,scP,zm]) (by simp [scObj]) ⟨rfl,trivial⟩ (by simp [scObj]) (by simp [zcQ,zm,zu]) λX hX=>?_
 unfold zx ghO;have hw:IntKind.u64.wrap (L.length:Int)=L.length:=by simp [IntKind.wrap,IntKind.bits,IntKind.signed];omega
 have qe:=aI qR (aI @qN (aI @hw (aI @gLV.eq_2 (aI @rtN (aI @rtR (aI @zu (@List.length_map.{0,0})))))));repeat' first|refine gC ?_ ?_<;>intro hc<;>try contradiction|refine za (zmF L.length (by omega) (by omega)) ?_|refine zf [(900,900)] (zvV hf L .any hn) ?_|refine gG ?_|show AK _;intro J Z|refine gJ ?_|omega|exact aT
 exact .inl (.mk0 (h2:=by simp only [qS,seval,keepG.eq_1,keepG.eq_2,gLV.eq_2]<;>simp))
structure OptN where
 a:Fin 1440
 b:Fin 1440
abbrev OptN.pv (o:OptN):PV:=.agg [.i .i64 (o.a.val:Int),.i .i64 (o.b.val:Int)]
def zhr (U V:List OptN) (i:Nat):List OptN:=V.take i++U.drop i
def zjh (P U Q V S:List OptN) (i:Nat):List OptN:=P++(zhr U V i++(Q++(zhr V U i++S)))
def zcm {U V:List OptN} (h:U.length=V.length) {i:Nat} (hi:i<=U.length):(zhr U V i).length=U.length:=by simp [zhr];omega
def zpt {U V:List OptN} (h:U.length=V.length) {i:Nat} (hi:i < U.length):(zhr U V i)[i]?=U[i]?:=by
 have hl:(V.take i).length=i:=by simp;omega
 rw [zhr,xay (by omega),hl,xci,xaX,xbv]
def zmk {U V:List OptN} (h:U.length=V.length) {i:Nat} {v:OptN} (hv:V[i]?=some v):(zhr U V i).set i v=zhr U V (i+1):=by
 have hi:=(xaa.1 hv).1;have hl:(V.take i).length=i:=by simp;omega
 rw [zhr,zhr,xbL _ _ (by omega),hl,xci,xaT,hv,xaO (by omega),List.set_cons_zero]
 simp
def zAb (P U Q V S:List OptN):zjh P U Q V S 0=P++(U++(Q++(V++S))):=by simp [zjh,zhr]
def zAa {P U Q V S:List OptN} (h:U.length=V.length):zjh P U Q V S U.length=P++(V++(Q++(U++S))):=by
 simp only [zjh,zhr,xcc,xai,xat];rw [h,xai,xcc,xat]
def zml {P U Q V S:List OptN} (h:U.length=V.length) {i:Nat} (hi:i<=U.length):(zjh P U Q V S i).length=P.length+(U.length+(Q.length+(V.length+S.length))):=by
 simp only [zjh,xad,zcm h hi,zcm h.symm (i:=i) (by omega)]
def zsX {P U Q V S:List OptN} (h:U.length=V.length) {i:Nat} {u:OptN} (hu:U[i]?=some u):(zjh P U Q V S i)[P.length+i]?=some u:=by
 have hi:=(xaa.1 hu).1;rw [zjh,zae _ _ _ (by rw [zcm h (by omega)];exact hi),zpt h hi,hu]
def zsW {P U Q V S:List OptN} (h:U.length=V.length) {i:Nat} {v:OptN} (hv:V[i]?=some v):(zjh P U Q V S i)[P.length+U.length+Q.length+i]?=some v:=by
 have hi:=(xaa.1 hv).1;have e:zjh P U Q V S i=(P++(zhr U V i++Q))++(zhr V U i++S):=by simp [zjh]
 have hl:(P++(zhr U V i++Q)).length=P.length+U.length+Q.length:=by simp only [xad,zcm h (show i<=U.length by omega)];omega
 rw [e,<-hl,zae _ _ _ (by rw [zcm h.symm (by omega)];exact hi),zpt h.symm hi,hv]
def zpu {P U Q V S:List OptN} (h:U.length=V.length) {i:Nat} {u v:OptN} (hu:U[i]?=some u) (hv:V[i]?=some v):((zjh P U Q V S i).set (P.length+i) v).set (P.length+U.length+Q.length+i) u=zjh P U Q V S (i+1):=by
 have hi:=(xaa.1 hu).1;have hj:=(xaa.1 hv).1;rw [zjh,za6 _ _ _ _ (by rw [zcm h (by omega)];exact hi),zmk h hv]
 have e:P++(zhr U V (i+1)++(Q++(zhr V U i++S)))=(P++(zhr U V (i+1)++Q))++(zhr V U i++S):=by simp
 have hl:(P++(zhr U V (i+1)++Q)).length=P.length+U.length+Q.length:=by simp only [xad,zcm h (show i+1<=U.length by omega)];omega
 rw [e,<-hl,za6 _ _ _ _ (by rw [zcm h.symm (by omega)];exact hj),zmk h.symm hu]
 simp [zjh]
def zjf (f:Nat) (cs:List PV) {D D':List OptN} {N:Nat} (P U Q V S:List OptN) (hN:D.length=N) (hD:D=P++(U++(Q++(V++S)))) (hD':D'=P++(V++(Q++(U++S)))) (h:U.length=V.length) (a b k:Int) (ha:a=P.length) (hb:b=(P.length+U.length+Q.length:Nat)) (hk:k=U.length) (hn:N<=1000000) :
  zbk prog 302 [.row 900 N,.p (.i .i64 a),.p (.i .i64 b),.p (.i .i64 k),.p (.fn (.func f) [] cs)] [(900,.row 152 2 (D.map OptN.pv) false)] (.p (.tup [])) [(900,.row 152 2 (D'.map OptN.pv) false)]:=by
 have hlen:D.length=P.length+(U.length+(Q.length+(V.length+S.length))):=by rw [hD];simp
 have hlen':D'.length=N:=by rw [hD',<-hN,hlen];simp;omega
 have e0:D=zjh P U Q V S 0:=by rw [zAb,hD]
 refine zD (cF func302 f302.eq_1) (by simp) (by simp [scPs,scP,zm,hN]) (by simp [scObj]) ⟨rfl,trivial⟩ (by simp [scObj]) (by simp [zcQ,zm,hN,hlen']) λX hX=>?_
 unfold zx ghO;have qe:=aI qR @gLV.eq_2;repeat' first|refine gC ?_ ?_<;>intro hc<;>try contradiction|refine gG ?_|show AK _;intro J Z|refine gJ ?_|omega|exact aT
 refine zh (κ:=Nat) (λi=>⟨[(0,.row 900 N),(1,.p (.i .i64 a)),(2,.p (.i .i64 b)),(3,.p (.i .i64 k)),(10,.p (.i .i64 i)),(1000900,.row 900 N)],[(900,.row 152 2 ((zjh P U Q V S i).map OptN.pv) false)],[],false⟩) (λi=>i<=U.length) (λi=>U.length - i) 0 ?_ ?_ ?_
 ·simp only [qS,seval,gLV.eq_2]<;>simp [<-e0,hN]
 ·simp
 ·intro i hi;have hsl:=zml (P:=P) (Q:=Q) (S:=S) h hi;have hsN:(zjh P U Q V S i).length=N:=by omega
  have i1:(a+(i:Int)).toNat=P.length+i:=by omega
  have i2:(b+(i:Int)).toNat=P.length+U.length+Q.length+i:=by omega
  by_cases hlt:i < U.length
  ·obtain ⟨u,hu⟩:=zj (i:=i) (l:=U) hlt;obtain ⟨v,hv⟩:=zj (i:=i) (l:=V) (by omega)
   have h1:=zsX (P:=P) (Q:=Q) (S:=S) h hu;have h2:=zsW (P:=P) (Q:=Q) (S:=S) h hv;have hik:((i:Int) < k)=True:=eq_true (by omega)
   have qe:=aI qR (aI @hsN (aI @i1 (aI @i2 (aI @h1 (aI @h2 (aI @hik (aI @rtN @rtR)))))));repeat' first|refine gC ?_ ?_<;>intro hc<;>try contradiction|refine gG ?_|show AK _;intro J Z|refine gJ ?_|omega|exact aT
   exact ⟨i+1,by omega,by omega,by simp,by rw [<-zpu h hu hv,xa4,xa4],by rw [zml h (by omega)];omega⟩
  ·have hik:((i:Int) < k)=False:=eq_false (by omega)
   have qe:=aI qR (aI @hsN (aI @hik (aI @rtN @rtR)));repeat' first|refine gC ?_ ?_<;>intro hc<;>try contradiction|refine gG ?_|show AK _;intro J Z|refine gJ ?_|omega|exact aT
   have e:i=U.length:=by omega
   subst e;rw [zAa h,<-hD'];exact .inl (.mk0 (h2:=by simp only [qS,seval,keepG.eq_1,keepG.eq_2,gLV.eq_2]<;>simp [hN]))
end Go.Proofs.YtbgckikhhcbmpaaGreat
