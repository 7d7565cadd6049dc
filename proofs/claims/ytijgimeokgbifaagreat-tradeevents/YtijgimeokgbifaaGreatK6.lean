/- Contracts of functions, for the claim. No conditions. -/
import Derived.Test.YtijgimeokgbifaaGreatK3
set_option linter.all false
set_option maxHeartbeats 8000000
set_option maxRecDepth 100000
namespace Go.Proofs.YtijgimeokgbifaaGreat
open Go.RowKit Tryz
def zog (l:List Lim) (i:Nat) (x:Lim):Int:=zf [zaR x,if 0<=atL x.name ((l.take i).map Lim.name) then 9 else 0]
def zg1 (l:List Lim):List Int:=l.mapIdx (zog l)
def zZ (l:List Lim):Int:=if 32 < l.length then 5 else zf (zg1 l)
def zhV (l:List Mov) (i:Nat) (x:Mov):Int:=zf [zed x,if 0 < (i:Int)/\x.moment < ((l[i - 1]?).getD x).moment then 11 else 0]
def zgS (l:List Mov):List Int:=l.mapIdx (zhV l)
def zae (l:List Mov):Int:=if 30000 < l.length then 5 else zf (zgS l)
def zI {α β:Type} {f:Nat->α->β} {l:List α} {i:Nat} {x:α} (h:l[i]?=some x):(l.mapIdx f)[i]?=some (f i x):=by simp [List.getElem?_mapIdx,h]
def zel {α β:Type} (f:α->β) (l:List α) (i:Nat):(l.map f).take i=(l.take i).map f:=by rw [xbk]
def zeR (l:List Lim):Pure prog 40 [.sl 11 (l.map Lim.pv)] (.i .i64 (zZ l)):=by
 refine pz func40 f40.eq_1 λhw X hX=>?_
 simp only [wfs,PV.wf,xaf,maxLen] at hw
 repeat' first|refine gC ?_ ?_<;>intro hc<;>try contradiction|refine gG ?_|show AK _;intro J Z|refine gJ ?_|omega|exact aT
 ·rw [zZ,if_pos (by omega)];exact .refl _
 refine zi (κ:=Nat) (λi=>⟨[(0,.p (.sl 11 (l.map Lim.pv))),(9,.p (.sl 11 (l.map Lim.pv))),(10,.p (.i .i64 l.length)),(11,.p (.i .i64 i))],[],[],false⟩) (λi=>i<=l.length/\∀ x ∈ (zg1 l).take i,x=0) (λi=>l.length - i) 0 ?_ ?_ ?_
 ·exact sR
 ·simp
 ·intro i hi
  repeat first|refine gG ?_|show AK _;intro J Z|refine gJ ?_|omega|exact aT
  (refine gC ?_ ?_<;>intro hc<;>try contradiction)
  ·obtain ⟨x,hx⟩:=zm (i:=i) (l:=l) (by omega)
   have qe:=aI qR (aI @hx @zel);repeat' first|refine gC ?_ ?_<;>intro hc<;>try contradiction|refine za (zw2 x) ?_|refine za (zw1 (l.take i) x.name) ?_|refine za (zbN _ _) ?_|refine za (zbu [_,_]) ?_|refine gG ?_|show AK _;intro J Z|refine gJ ?_|omega|exact aT
   ·have he:zZ l=zog l i x:=by unfold zZ;rw [if_neg (by omega)];exact zT hi.2 (zI hx) hc
    rw [he];exact .refl _
   ·exact ⟨i+1,⟨by omega,zaB hi.2 (zI hx) hc⟩,by omega,by simp⟩
  ·repeat' first|refine gC ?_ ?_<;>intro hc<;>try contradiction|refine gG ?_|show AK _;intro J Z|refine gJ ?_|omega|exact aT
   have e:i=(zg1 l).length:=by simp [zg1];omega
   subst e;rw [zZ,if_neg (by omega),z4 hi.2];exact .refl _
def zhR (l:List Mov):Pure prog 195 [.sl 7 (l.map Mov.pv)] (.i .i64 (zae l)):=by
 refine pz func195 f195.eq_1 λhw X hX=>?_
 simp only [wfs,PV.wf,xaf,maxLen] at hw
 repeat' first|refine gC ?_ ?_<;>intro hc<;>try contradiction|refine gG ?_|show AK _;intro J Z|refine gJ ?_|omega|exact aT
 ·rw [zae,if_pos (by omega)];exact .refl _
 refine zi (κ:=Nat) (λi=>⟨[(0,.p (.sl 7 (l.map Mov.pv))),(9,.p (.sl 7 (l.map Mov.pv))),(10,.p (.i .i64 l.length)),(11,.p (.i .i64 i))],[],[],false⟩) (λi=>i<=l.length/\∀ x ∈ (zgS l).take i,x=0) (λi=>l.length - i) 0 ?_ ?_ ?_
 ·exact sR
 ·simp
 ·intro i hi
  repeat first|refine gG ?_|show AK _;intro J Z|refine gJ ?_|omega|exact aT
  (refine gC ?_ ?_<;>intro hc<;>try contradiction)
  ·obtain ⟨x,hx⟩:=zm (i:=i) (l:=l) (by omega)
   obtain ⟨y,hy⟩:=zm (i:=i - 1) (l:=l) (by omega)
   have e:(max 0 ((i:Int) - 1)).toNat=i - 1:=by omega
   have he:zhV l i x=zf [zed x,if 0 < (i:Int)/\x.moment < y.moment then 11 else 0]:=by rw [zhV,hy];rfl
   have qe:=aI qR (aI @hx (aI @hy @e));repeat' first|refine gC ?_ ?_<;>intro hc<;>try contradiction|refine za (zsP x) ?_|refine za (zbN _ _) ?_|refine za (zbu [_,_]) ?_|refine gG ?_|show AK _;intro J Z|refine gJ ?_|omega|exact aT
   ·rw [<-he] at hc;have hf:zae l=zhV l i x:=by unfold zae;rw [if_neg (by omega)];exact zT hi.2 (zI hx) hc
    rw [hf,he];simp only [xap,decide_eq_true_eq];exact .refl _
   ·rw [<-he] at hc;exact ⟨i+1,⟨by omega,zaB hi.2 (zI hx) hc⟩,by omega,by simp⟩
  ·repeat' first|refine gC ?_ ?_<;>intro hc<;>try contradiction|refine gG ?_|show AK _;intro J Z|refine gJ ?_|omega|exact aT
   have e:i=(zgS l).length:=by simp [zgS];omega
   subst e;rw [zae,if_neg (by omega),z4 hi.2];exact .refl _
def zsN (l:List Lim) (m:List Mov):Pure prog 123 [.sl 11 (l.map Lim.pv),.sl 7 (m.map Mov.pv)] (.i .i64 (zf [zZ l,zae m])):=by
 refine pz func123 f123.eq_1 λhw X hX=>?_
 have qe:=@qR;have jA:=zeR l;have jB:=zhR m;have jC:=λu1 u2=>zbu [u1,u2];exact gD4
def zcb {l:Lim} (h:zaR l=0):1<=l.len/\l.len<=1440/\1<=l.step/\l.step<=1440/\0<=l.fro/\l.fro<=l.to/\l.to<=1439/\zat l.per=0/\0<=l.most/\l.most<=999999999:=by
 unfold zaR at h;simp only [zq,zdl,zg5 (show (11:Int)≠0 by decide)] at h
 omega
def zw0 (l:Lim) (d:Int):Pure prog 257 [l.pv,.i .i64 d] (.b (zs0 l.per d)):=by
 refine pz func257 f257.eq_1 λhw X hX=>?_
 repeat' first|refine gC ?_ ?_<;>intro hc<;>try contradiction|refine za (zi6 l.per d) ?_|refine gG ?_|show AK _;intro J Z|refine gJ ?_|omega|exact aT
 have:(decide (zsZ l.per d=0) && zs0 l.per d)=zs0 l.per d:=by simp only [zs0];cases decide (zsZ l.per d=0)<;>rfl
 rw [this];exact .refl _
def Lim.from_ (l:Lim):Int:=(l.fro+l.step - 1) / l.step
def zmy (l:Lim):Nat:=(max 0 (l.to / l.step - l.from_+1)).toNat
def zmx (l:Lim) (d:Int):Bool:=!(decide (d < l.per.fro) || decide (l.per.to < d) || !zs0 l.per d)
def zyC (l:Lim) (d:Int) (n:Nat):Int:=1440*d+l.step*(l.from_+n)
def zso (l:Lim) (d:Int) (k:Nat):List Int:=(List.range k).map (zyC l d)
def zM (l:Lim) (d:Int):List Int:=if zmx l d then zso l d (zmy l) else []
abbrev zv7 (d:Int):List PV:=[.i .i64 d]
def zjf {α:Type} (f:Nat->α) (k:Nat):(List.range (k+1)).map f=(List.range k).map f++[f k]:=by
 rw [xa7];simp
def zhU {α:Type} (f:Nat->α) {k n:Nat} (h:k < n):(List.range n).map f=(List.range k).map f++f k::(List.range' (k+1) (n - (k+1))).map f:=by
 have:=zbk (λk=>[f k]) h
 simpa [List.flatMap_singleton',<-List.map_eq_flatMap] using this
def zit {l:Lim} (h:zaR l=0) {n:Nat} (hn:n < zmy l):0<=l.from_/\l.from_<=1440/\0<=l.step*(l.from_+n)/\l.step*(l.from_+n)<=l.to/\l.fro<=l.step*(l.from_+n):=by
 have hl:=zcb h;have h1:0<=l.from_:=xbN (by omega) (by omega)
 have h2:l.from_<=l.fro+l.step - 1:=xbx _ (by omega)
 have h3:(l.from_+n)<=l.to / l.step:=by unfold zmy at hn;omega
 have h4:l.step*(l.from_+n)<=l.step*(l.to / l.step):=Int.mul_le_mul_of_nonneg_left h3 (by omega)
 have h5:l.step*(l.to / l.step)<=l.to:=Int.mul_ediv_self_le (by omega)
 have h6:l.fro+l.step - 1 < l.step*l.from_+l.step:=Int.lt_mul_ediv_self_add (by omega)
 have h7:l.step*l.from_<=l.step*(l.from_+n):=Int.mul_le_mul_of_nonneg_left (by omega) (by omega)
 have h8:0<=l.step*(l.from_+n):=Int.mul_nonneg (by omega) (by omega)
 have h9:l.from_<=1440:=by
  have:l.from_<=l.to / l.step:=by omega
  have:l.to / l.step<=l.to:=xbx _ (by omega)
  omega
 omega
def zoo (l:Lim) (d:Int) (h:zaR l=0):zpr prog 256 [.ip (.i .i64 d) 0,.ip l.pv 0] ((zM l d).map zv7):=by
 have hl:=zcb h;have hp:=zaW hl.2.2.2.2.2.2.2.1;refine zg4 (cF func256 f256.eq_1) (by simp) λhw X hX=>?_
 simp only [zbn]
 repeat' first|refine gC ?_ ?_<;>intro hc<;>try contradiction|refine zp (λ_=>zw0 l d) ?_|refine gG ?_|show AK _;intro J Z|refine gJ ?_|omega|exact aT
 ·refine .inr ?_;have:zmx l d=false:=by simp only [zmx,xb7,xa3,decide_eq_true_eq,xa6];exact hc
  simp [zM,this]
 have hbo:zmx l d=true:=by simp only [zmx,xa6,xbd,decide_eq_false_iff_not,xb7];exact ⟨⟨by omega,by omega⟩,hc.2⟩
 have hq1:(l.fro+l.step - 1).tdiv l.step=l.from_:=xbz (by omega)
 have hq2:l.to.tdiv l.step=l.to / l.step:=xbz (by omega)
 have hb1:0<=l.from_:=xbN (by omega) (by omega)
 have hb2:l.from_<=l.fro+l.step - 1:=xbx _ (by omega)
 have hb3:0<=l.to / l.step:=xbN (by omega) (by omega)
 have hb4:l.to / l.step<=l.to:=xbx _ (by omega)
 have hN:max 0 (l.to / l.step - l.from_+1)=(zmy l:Int):=by unfold zmy;omega
 rw [zM,if_pos hbo];simp (disch:=omega) only [hq1,hq2,hN,qS,seval];refine zi (κ:=Nat) (λk=>⟨[(0,.yield),(1,.p (.ip (.i .i64 d) 0)),(2,.p (.ip l.pv 0)),(4,.p (.i .i64 l.from_)),(41,.p (.i .i64 (zmy l))),(42,.p (.i .i64 k))],[],(zso l d k).map zv7,false⟩) (λk=>k<=zmy l) (λk=>zmy l - k) 0 ?_ ?_ ?_
 ·refine gJ ?_;simp [zso]
 ·simp
 ·intro k hk
  repeat' first|refine gC ?_ ?_<;>intro hc<;>try contradiction|refine gG ?_|show AK _;intro J Z|refine gJ ?_|omega|exact aT
  ·have hb:=zit h (n:=k) (by omega)
   have hs:=zhU (zyC l d) (show k < zmy l by omega)
   have hs':(zso l d (zmy l)).map zv7=(zso l d k).map zv7++zv7 (zyC l d k)::((List.range' (k+1) (zmy l - (k+1))).map (zyC l d)).map zv7:=by simp only [zso,hs,xaO,xak]
   repeat' first|refine gC ?_ ?_<;>intro hc<;>try contradiction|(show zh _ _ _ _ (⟨_,.callv,_,_,_⟩::_) _ _;refine zgv (by first|rfl|(simp (disch:=omega) only [qG,seval]<;>rfl)) (by simp (disch:=omega) only [qS,seval]) (by simp (disch:=omega) only [qS,seval]<;>rfl) (by simp (disch:=omega) only [qS,seval];try trivial) rfl _ (hs') ?_;intro b;(refine zF ?_))|refine gG ?_|show AK _;intro J Z|refine gJ ?_|omega|exact aT
   ·subst hc;exact .inl rfl
   ·subst hc;exact ⟨k+1,by omega,by omega,by simp,by simp [zso,zjf],rfl⟩
  ·repeat' first|refine gC ?_ ?_<;>intro hc<;>try contradiction|refine gG ?_|show AK _;intro J Z|refine gJ ?_|omega|exact aT
   have e:k=zmy l:=by omega
   subst e;exact .inr rfl
def znL (l:Lim) (d:Int):Pure prog 206 [l.pv,.i .i64 d] (.fn (.func 256) [] [.ip (.i .i64 d) 0,.ip l.pv 0]):=by
 refine pz func206 f206.eq_1 λhw X hX=>?_
 exact gD0
def zli {α:Type} {l:List α} {j:Nat} {x:α} (h:l[j]?=some x):l=l.take j++x::l.drop (j+1):=by
 obtain ⟨hj,rfl⟩:=xaa.1 h;rw [<-xaU hj,xaw]
def zad (l:Lim) (k t:ByteArray):Bool:=(decide (l.kind=sT) || decide (l.kind=k)) && (decide (l.term=s0) || decide (l.term=t))
def zxt {l:Lim} (h:zaR l=0):l.kind=sA\/l.kind=sD\/l.kind=sT:=by
 unfold zaR at h;simp only [zq] at h;have:=h.2.1;unfold zjk at this
 by_cases hA:l.kind=sA
 ·exact .inl hA
 by_cases hD:l.kind=sD
 ·exact .inr (.inl hD)
 by_cases hT:l.kind=sT
 ·exact .inr (.inr hT)
 rw [if_pos ⟨hA,hD,hT⟩] at this;exact absurd this (by decide)
def zi5 (l:Lim) (k t:ByteArray) (h:zaR l=0):Pure prog 204 [l.pv,.s k,.s t] (.b (zad l k t)):=by
 refine pz func204 f204.eq_1 λhw X hX=>?_
 rcases zxt h with hk|hk|hk
 ·have hA':(l.kind=sA)=True:=eq_true hk;have qe:=aI qR @hA';repeat' first|refine gC ?_ ?_<;>intro hc<;>try contradiction|refine za (zc6) ?_|refine zk (znN k sA) ?_|refine gG ?_|show AK _;intro J Z|refine gJ ?_|omega|exact aT
  rw [zad,hk,show (decide (sA=sT) || decide (sA=k))=decide (k=sA) by rw [show decide (sA=sT)=false by decide,xcf];exact decide_eq_decide.2 eq_comm];exact .refl _
 ·have hA':(l.kind=sA)=False:=eq_false (by rw [hk];decide)
  have hD':(l.kind=sD)=True:=eq_true hk;have qe:=aI qR (aI @hA' @hD');repeat' first|refine gC ?_ ?_<;>intro hc<;>try contradiction|refine za (zc6) ?_|refine zk (znN k sD) ?_|refine gG ?_|show AK _;intro J Z|refine gJ ?_|omega|exact aT
  rw [zad,hk,show (decide (sD=sT) || decide (sD=k))=decide (k=sD) by rw [show decide (sD=sT)=false by decide,xcf];exact decide_eq_decide.2 eq_comm];exact .refl _
 ·have hA':(l.kind=sA)=False:=eq_false (by rw [hk];decide)
  have hD':(l.kind=sD)=False:=eq_false (by rw [hk];decide)
  have hT':(l.kind=sT)=True:=eq_true hk;have qe:=aI qR (aI @hA' (aI @hD' @hT'));repeat' first|refine gC ?_ ?_<;>intro hc<;>try contradiction|refine za (zc6) ?_|refine zk (zuh k) ?_|refine gG ?_|show AK _;intro J Z|refine gJ ?_|omega|exact aT
  rw [zad,hk,show (decide (sT=sT) || decide (sT=k))=true by rw [decide_eq_true rfl,xcE],xbo];exact .refl _
def zpa:PV.any.cells=[.any]:=rfl
def za9 (x:Int):(decide (x=x))=true:=decide_eq_true rfl
def zi4 (x:Int):Pure prog 216 [.i .i64 x] (.b false):=by
 refine pz func216 f216.eq_1 λhw X hX=>?_
 have qe:=@za9;exact gD0
def znM (x:Int):Pure prog 287 [.i .i64 x] (.b false):=by
 refine pz func287 f287.eq_1 λhw X hX=>?_
 have qe:=@za9;exact gD0
def zue (a b:Int):Pure prog 286 [.i .i64 a,.i .i64 b] (.b (decide (a < b))):=by
 refine pz func286 f286.eq_1 λhw X hX=>?_
 have jA:=λu1=>zi4 u1;have jB:=λu1=>zi4 u1;exact gD2
def zeH (l:List Int):Prop:=∀ (i j:Nat) (x y:Int),i<=j->l[i]?=some x->l[j]?=some y->x<=y
def ltN (l:List Int) (x:Int):Nat:=(l.filter λy=>decide (y < x)).length
def zxn {l:List Int} {x:Int} {i:Nat} (h1:∀ y ∈ l.take i,y < x) (h2:∀ y ∈ l.drop i,x<=y) (hi:i<=l.length):ltN l x=i:=by
 conv=>lhs;rw [<-xaw i l]
 rw [ltN,List.filter_append,xae,List.filter_eq_self.2 (λy hy=>by simpa using h1 y hy),List.filter_eq_nil_iff.2 (λy hy=>by have:=h2 y hy;simp;omega)]
 simp;omega
def zuf (l:List Int) (x:Int) (hs:zeH l) (hn:l.length<=1000000):Pure prog 279 [.sl 1 (l.map (.i .i64)),.i .i64 x] (.tup [.i .i64 (ltN l x),.any]):=by
 refine pz func279 f279.eq_1 λhw X hX=>?_
 simp only [wfs,PV.wf,xaf,maxLen] at hw
 repeat' first|refine gC ?_ ?_<;>intro hc<;>try contradiction|refine gG ?_|show AK _;intro J Z|refine gJ ?_|omega|exact aT
 refine zi (κ:=Nat × Nat) (λk=>⟨[(0,.p (.sl 1 (l.map (.i .i64)))),(1,.p (.i .i64 x)),(6,.p (.i .i64 l.length)),(7,.p (.i .i64 k.1)),(8,.p (.i .i64 k.2))],[],[],false⟩) (λk=>k.1<=k.2/\k.2<=l.length/\(∀ y ∈ l.take k.1,y < x)/\∀ y ∈ l.drop k.2,x<=y) (λk=>k.2 - k.1) (0,l.length) ?_ ?_ ?_
 ·exact sS
 ·simp
 ·intro k hk;obtain ⟨i,j⟩:=k;simp only at hk;have hm:IntKind.i64.wrap ((IntKind.u64.wrap ((i:Int)+j)).fdiv (2 ^ min (Int.toNat 1) IntKind.u64.bits))=(((i+j) / 2:Nat):Int):=by
   rw [IntKind.wrap_u64,show (2:Int) ^ min (Int.toNat 1) IntKind.u64.bits=2 from rfl,xcr _ (by decide)]
   rw [show (((i:Int)+j) % 18446744073709551616 / 2)=(((i+j) / 2:Nat):Int) by omega]
   exact zhp (by omega) (by omega)
  by_cases hij:i < j
  ·obtain ⟨y,hy⟩:=zm (i:=(i+j) / 2) (l:=l) (by omega)
   have qe:=aI @hm @hy;repeat' first|refine gC ?_ ?_<;>intro hc<;>try contradiction|refine za (zue _ _) ?_|refine gG ?_|show AK _;intro J Z|refine gJ ?_|omega|exact aT
   ·refine ⟨((i+j) / 2+1,j),⟨by simp only;omega,hk.2.1,λz hz=>?_,hk.2.2.2⟩,by simp only;omega,by simp,rfl⟩
    obtain ⟨q,hq⟩:=xaZ hz;rw [xaI] at hq
    split at hq
    ·have:=hs q ((i+j) / 2) z y (by omega) hq hy;omega
    ·cases hq
   ·refine ⟨(i,(i+j) / 2),⟨by simp only;omega,by simp only;omega,hk.2.2.1,λz hz=>?_⟩,by simp only;omega,rfl,rfl⟩
    obtain ⟨q,hq⟩:=xaZ hz;rw [xaS] at hq;have:=hs ((i+j) / 2) _ y z (by omega) hy hq;omega
  ·have e:i=j:=by omega
   subst e;have hres:=zxn hk.2.2.1 hk.2.2.2 hk.2.1
   by_cases hil:i < l.length
   ·obtain ⟨y,hy⟩:=zm (i:=i) (l:=l) hil;have hil':((i:Int) < l.length)=True:=eq_true (by omega)
    by_cases hyx:y=x
    ·have hyx':(y=x)=True:=eq_true hyx;have qe:=aI @hm (aI @hy (aI @hil' @hyx'));repeat' first|refine gC ?_ ?_<;>intro hc<;>try contradiction|refine zp (λ_=>znM _) ?_|refine gG ?_|show AK _;intro J Z|refine gJ ?_|omega|exact aT
     rw [hres];exact zhr (.refl _) (.any _)
    ·have hyx':(y=x)=False:=eq_false hyx;have qe:=aI @hm (aI @hy (aI @hil' @hyx'));repeat' first|refine gC ?_ ?_<;>intro hc<;>try contradiction|refine zp (λ_=>znM _) ?_|refine gG ?_|show AK _;intro J Z|refine gJ ?_|omega|exact aT
     rw [hres];exact zhr (.refl _) (.any _)
   ·have hil':((i:Int) < l.length)=False:=eq_false (by omega)
    have hy:l[i]?=none:=xb8 (by omega)
    have qe:=aI @hm (aI @hil' (aI @hy @zpa));repeat' first|refine gC ?_ ?_<;>intro hc<;>try contradiction|(show zh _ _ _ _ (⟨_,.call _,_,_,_⟩::_) _ _;refine zbh (hf:=λhc=>(by first|exact (absurd hc xbi:Pure prog 287 _ (.b false))|(simp only [qH,zdl] at hc;exact (absurd hc xbi:Pure prog 287 _ (.b false))))) (hn:=?_))|refine gG ?_|show AK _;intro J Z|refine gJ ?_|omega|exact aT
    rw [hres];exact zhr (.refl _) (.any _)
def zuo (l:List Int) (x:Int) (hs:zeH l) (hn:l.length<=1000000):Pure prog 258 [.sl 1 (l.map (.i .i64)),.i .i64 x] (.i .i64 (ltN l x)):=by
 refine pz func258 f258.eq_1 λhw X hX=>?_
 have jA:=zuf l x hs hn;exact gD2
def cntW (l:List Int) (b len:Int):Int:=(ltN l (b+len):Int) - ltN l b
def zsX (l:List Int) (x:Int):ltN l x<=l.length:=xca _ _
def zwZ (l:List Int) (b len:Int) (hs:zeH l) (hn:l.length<=1000000) (h0:-1000000<=b) (h1:b<=1000000000) (h2:0<=len) (h3:len<=10000):Pure prog 207 [.sl 1 (l.map (.i .i64)),.i .i64 b,.i .i64 len] (.i .i64 (cntW l b len)):=by
 refine pz func207 f207.eq_1 λhw X hX=>?_
 have e1:=zsX l (b+len);have e2:=zsX l b;have jA:=λu1=>zuo l u1 hs hn;exact gD2
abbrev zfI (k:ByteArray × ByteArray):PV:=.agg [.s k.1,.s k.2]
abbrev zjM (l:Lim) (k:ByteArray × ByteArray):PV × PV:=(zfI k,.b (zad l k.1 k.2))
def ofL (l:Lim) (m:List Mov):List Int:=(m.filter λx=>zad l x.kind x.term).map Mov.moment
def zs3 (a b:ByteArray × ByteArray):eqCells (zfI a).cells (zfI b).cells=(decide (a.1=b.1) && decide (a.2=b.2)):=by
 simp only [PV.cells,eqCells,eqPV,Bool.and_true]
theorem zkE (l:Lim) (k:ByteArray × ByteArray):∀ (es:List (ByteArray × ByteArray)),mget (zfI k) (es.map (zjM l))=none\/mget (zfI k) (es.map (zjM l))=some (.b (zad l k.1 k.2))
 | []=>.inl rfl
 | e::r=>by
  simp only [xak,mget,zs3]
  split
  ·rename_i h;simp only [xap,decide_eq_true_eq] at h
   right;rw [h.1,h.2]
  ·exact zkE l k r
theorem zkD (l:Lim) (k:ByteArray × ByteArray):∀ (es:List (ByteArray × ByteArray)),∃ es':List (ByteArray × ByteArray),mput (zfI k) (.b (zad l k.1 k.2)) (es.map (zjM l))=es'.map (zjM l)
 | []=>⟨[k],rfl⟩
 | e::r=>by
  simp only [xak,mput,zs3]
  split
  ·exact ⟨k::r,rfl⟩
  ·obtain ⟨es',h⟩:=zkD l k r;exact ⟨e::es',by rw [h];rfl⟩
theorem zf8 (l:Lim) (k:ByteArray × ByteArray):∀ (es:List (ByteArray × ByteArray)),keysOk [2,2] true (zfI k) (es.map (zjM l))
 | []=>trivial
 | e::r=>⟨⟨rfl,by simp [PV.cells,eqCellsOk,eqOk]⟩,zf8 l k r⟩
def zrq {l:Lim} {m:List Mov} {i:Nat} {x:Mov} (hx:m[i]?=some x):ofL l (m.take (i+1))=ofL l (m.take i)++if zad l x.kind x.term then [x.moment] else []:=by
 rw [ofL,xaK,hx,List.filter_append,xaO]
 congr 1
 cases hh:zad l x.kind x.term<;>simp [xct,hh]
def zsO (l:Lim) (m:List Mov) (h:zaR l=0) (hn:m.length<=1000000):Pure prog 205 [l.pv,.sl 7 (m.map Mov.pv)] (.sl 1 ((ofL l m).map (.i .i64))):=by
 refine pz func205 f205.eq_1 λhw X hX=>?_
 simp only [wfs,PV.wf,xaf,maxLen] at hw
 repeat' first|refine gC ?_ ?_<;>intro hc<;>try contradiction|refine gG ?_|show AK _;intro J Z|refine gJ ?_|omega|exact aT
 refine zaO 100 3 1 [(2,.lp 2 0),(5,.row 100 0),(6,.lm 12),(13,.p (.sl 7 (m.map Mov.pv))),(14,.p (.i .i64 m.length)),(15,.p (.i .i64 0))] [(2,.box (l.cells.map .p) false),(12,.mp [] false)] ?_ ?_
 ·simp only [Own,zaL,zaA,zbr,zax,qS,seval]
 refine zi (κ:=Nat × List (ByteArray × ByteArray)) (λk=>⟨[(2,.lp 2 0),(5,.row 100 (ofL l (m.take k.1)).length),(6,.lm 12),(13,.p (.sl 7 (m.map Mov.pv))),(14,.p (.i .i64 m.length)),(15,.p (.i .i64 k.1))],[(2,.box (l.cells.map .p) false),(12,.mp (k.2.map (zjM l)) false),(100,.row 3 1 ((ofL l (m.take k.1)).map (.i .i64)) false)],[],false⟩) (λk=>k.1<=m.length) (λk=>m.length - k.1) (0,[]) ?_ ?_ ?_
 ·refine gJ ?_;simp [ofL]
 ·simp
 ·intro k hk;obtain ⟨i,es⟩:=k;simp only at hk;have hl:(ofL l (m.take i)).length<=i:=by
   simp only [ofL,xaf];exact xa8 (xca _ _) (by simp;omega)
  repeat first|refine gG ?_|show AK _;intro J Z|refine gJ ?_|omega|exact aT
  (refine gC ?_ ?_<;>intro hc<;>try contradiction)
  ·obtain ⟨x,hx⟩:=zm (i:=i) (l:=m) (by omega)
   have hko:keysOk [2,2] true (.agg [.s x.kind,.s x.term]) (es.map (zjM l))=True:=eq_true (zf8 l (x.kind,x.term) es);obtain ⟨es',hput⟩:=zkD l (x.kind,x.term) es;simp only [zfI] at hput;have hnx:=zrq (l:=l) hx
   rcases zkE l (x.kind,x.term) es with hg|hg
   ·simp only [zfI] at hg;have qe:=aI qR (aI @hx (aI @hko (aI @hg @hput)));repeat' first|refine gC ?_ ?_<;>intro hc<;>try contradiction|refine za (zi5 l x.kind x.term h) ?_|refine gG ?_|show AK _;intro J Z|refine gJ ?_|omega|exact aT
    ·rw [hc,if_pos rfl] at hnx;exact ⟨(i+1,es'),by simp only;omega,by simp only;omega,⟨by simp only [hnx];simp,by simp⟩,rfl,by simp only [hnx];simp⟩
    ·rw [hc] at hnx;exact ⟨(i+1,es'),by simp only;omega,by simp only;omega,⟨by simp only [hnx];simp,by simp⟩,rfl,by simp only [hnx];simp⟩
   ·simp only [zfI] at hg;have qe:=aI qR (aI @hx (aI @hko @hg));repeat' first|refine gC ?_ ?_<;>intro hc<;>try contradiction|refine gG ?_|show AK _;intro J Z|refine gJ ?_|omega|exact aT
    ·rw [hc,if_pos rfl] at hnx;exact ⟨(i+1,es),by simp only;omega,by simp only;omega,⟨by simp only [hnx];simp,by simp⟩,rfl,by simp only [hnx];simp⟩
    ·rw [hc] at hnx;exact ⟨(i+1,es),by simp only;omega,by simp only;omega,⟨by simp only [hnx];simp,by simp⟩,rfl,by simp only [hnx];simp⟩
  ·repeat' first|refine gC ?_ ?_<;>intro hc<;>try contradiction|refine gG ?_|show AK _;intro J Z|refine gJ ?_|omega|exact aT
   have e:i=m.length:=by omega
   subst e;rw [xas];exact .refl _
def zkP {l:List Int} (h:zf l=0) {x:Int} (hx:x ∈ l):x=0:=by
 induction l with
 | nil=>cases hx
 | cons e r ih=>
  obtain ⟨h1,h2⟩:=zq.1 h
  rcases xaA.1 hx with h|h
  ·rw [h];exact h1
  ·exact ih h2 h
def zeU {l:List Int} (h:l.Pairwise (·<=·)):zeH l:=by
 intro i j x y hij hx hy;obtain ⟨hi,rfl⟩:=xaa.1 hx;obtain ⟨hj,rfl⟩:=xaa.1 hy
 rcases Nat.lt_or_eq_of_le hij with h1|h1
 ·exact xaW.1 h i j hi hj h1
 ·subst h1;exact Int.le_refl _
def ziG {l:List Int} (h:∀ (i:Nat) (x y:Int),l[i]?=some x->l[i+1]?=some y->x<=y):l.Pairwise (·<=·):=by
 refine xaW.2 λi j hi hj hij=>?_
 obtain ⟨k,rfl⟩:∃ k,j=i+1+k:=⟨j - i - 1,by omega⟩
 clear hij
 induction k with
 | zero=>exact h i _ _ (xab hi) (xab hj)
 | succ k ih=>exact Int.le_trans (ih (by omega)) (h (i+1+k) _ _ (xab (by omega)) (xab hj))
def zaQ {m:List Mov} (h:zae m=0):m.length<=30000/\(∀ x ∈ m,zed x=0)/\(m.map Mov.moment).Pairwise (·<=·):=by
 unfold zae at h
 split at h
 ·cases h
 ·have key:∀ (i:Nat) (x:Mov),m[i]?=some x->zhV m i x=0:=λi x hx=>zkP h (xad (zI hx))
  refine ⟨by omega,λx hx=>?_,ziG λi x y hx hy=>?_⟩
  ·obtain ⟨i,hi⟩:=xaZ hx;exact (zq.1 (key i x hi)).1
  ·simp only [xah,xac] at hx hy;obtain ⟨a,ha,rfl⟩:=hx;obtain ⟨b,hb,rfl⟩:=hy;have h1:=(zq.1 (zq.1 (key (i+1) b hb)).2).1;simp only [xbC,ha,xa4] at h1;rw [zg5 (by decide)] at h1
   omega
def zlN {l:Lim} {m:List Mov} (h:zae m=0):zeH (ofL l m):=by
 refine zeU ?_;have:=(zaQ h).2.2;rw [xcn] at this;rw [ofL,xcn];exact this.filter _
def zuF {l:Lim} {m:List Mov}:(ofL l m).length<=m.length:=by
 simp only [ofL,xaf];exact xca _ _
def zfs {l:Lim} (h:zaR l=0) (d:Int):(zM l d).length<=1440:=by
 have hl:=zcb h;have h1:0<=l.from_:=xbN (by omega) (by omega)
 have h2:l.to / l.step<=l.to:=xbx _ (by omega)
 unfold zM zso zmy
 split
 ·simp;omega
 ·simp
def zfr {l:Lim} (h:zaR l=0) {d b:Int} (hb:b ∈ zM l d):1440*d<=b/\b<=1440*d+1439/\l.per.fro<=d/\d<=l.per.to:=by
 have hl:=zcb h;unfold zM zso at hb
 split at hb
 ·rename_i ho;simp only [zmx,xa6,xbd,decide_eq_false_iff_not] at ho;obtain ⟨n,hn,rfl⟩:=xaT.1 hb;have:=zit h (xaV.1 hn);unfold zyC
  omega
 ·cases hb
def zbq (l:Lim) (m:List Mov) (b:Int):Int:=cntW (ofL l m) b l.len
def zbC {l:Lim} {m:List Mov} (h1:zaR l=0) (h2:zae m=0) (b:Int) (hb0:-1000000<=b) (hb1:b<=1000000000):Pure prog 207 [.sl 1 ((ofL l m).map (.i .i64)),.i .i64 b,.i .i64 l.len] (.i .i64 (zbq l m b)):=by
 have hl:=zcb h1;have hm:=zaQ h2;have:=zuF (l:=l) (m:=m);exact zwZ _ _ _ (zlN h2) (by omega) hb0 hb1 (by omega) (by omega)
abbrev zht (w:Win):List PV:=[w.pv]
def zfe {α β:Type} {l:List α} {j:Nat} {x:α} (f:α->List β) (h:l[j]?=some x):(l.take (j+1)).flatMap f=(l.take j).flatMap f++f x:=by
 rw [xaK,h];simp
def zma {α β:Type} {l:List α} {j:Nat} {x:α} (f:α->List β) (h:l[j]?=some x):l.flatMap f=(l.take j).flatMap f++(f x++(l.drop (j+1)).flatMap f):=by
 conv=>lhs;rw [zli h]
 simp
abbrev zpd (ls:List Lim) (m:List Mov):Int:=zf [zZ ls,zae m]
def zio {ls:List Lim} (h:zZ ls=0):ls.length<=32/\∀ l ∈ ls,zaR l=0:=by
 unfold zZ at h
 split at h
 ·cases h
 ·refine ⟨by omega,λl hl=>?_⟩
  obtain ⟨i,hi⟩:=xaZ hl;exact (zq.1 (zkP h (xad (zI (f:=zog ls) hi)))).1
def zun {f:Nat} {caps:List PV} {L:List Win} (hit:zpr prog f caps (L.map zht)) (hn:L.length<=1000000):Pure prog 202 [.nilsl,.fn (.func f) [] caps] (.sl 3 (L.map Win.pv)):=by
 refine pz func202 f202.eq_1 λhw X hX=>?_
 repeat' first|refine gC ?_ ?_<;>intro hc<;>try contradiction|refine gG ?_|show AK _;intro J Z|refine gJ ?_|omega|exact aT
 refine zaO 100 145 3 [(2,.lp 2 0),(6,.p (.fn (.func f) [] caps))] [(2,.box [.row 100 0] false)] ?_ ?_
 ·simp only [Own,zaL,zaA,zbr,zax,qS,seval]
 refine zcm rfl hit ?_ ?_ [(2,.lp 2 0),(6,.p (.fn (.func f) [] caps))] (λk=>[(2,.box [.row 100 k] false),(100,.row 145 3 ((L.take k).map Win.pv) false)]) (λ_=>[]) ?_ ?_ ?_
 ·simp
 ·simp [hX]
 ·exact sE
 ·intro k t ht X' ro' hX';simp only [xah,xac] at ht;obtain ⟨w,hy,rfl⟩:=ht;have hlt:=zgr hy;have hk:=(xaa.1 hy).1;simp only [qS,seval];have qe:=@qR;repeat' first|refine gC ?_ ?_<;>intro hc<;>try contradiction|refine gG ?_|show AK _;intro J Z|refine gJ ?_|omega|exact aT
  intro X1 hX1;have qe:=aI qR (aI @hlt (zdg Win.pv hy));repeat' first|refine gC ?_ ?_<;>intro hc<;>try contradiction|refine gG ?_|show AK _;intro J Z|refine gJ ?_|omega|exact aT
 ·simp only [xaf];have qe:=@List.take_length.{0};exact gD0
def zuv {f:Nat} {caps:List PV} {L:List Win} (hit:zpr prog f caps (L.map zht)) (hn:L.length<=1000000):Pure prog 127 [.fn (.func f) [] caps] (.sl 3 (L.map Win.pv)):=by
 refine pz func127 f127.eq_1 λhw X hX=>?_
 have jA:=zun hit hn;exact gD2
def zuu (ls:List Lim) (m:List Mov) (o:Mov):Pure prog 128 [.sl 11 (ls.map Lim.pv),.sl 7 (m.map Mov.pv),o.pv] (.fn (.func 203) [] [.ip (.sl 11 (ls.map Lim.pv)) 0,.ip o.pv 0,.ip (.sl 7 (m.map Mov.pv)) 0]):=by
 refine pz func128 f128.eq_1 λhw X hX=>?_
 exact gD0
def zm9 {G:Cfg} {c:AC} {s:St} {Q Q':zN} (hm:∀ e s1,Q e s1->Q' e s1) (h:Run G c s Q):Run G c s Q':=λhG code hc C a w hr=>
 wpIn_mono (h hG code hc C a w hr) λe a1 w1 hq=>by
  obtain ⟨s1,C1,h1,h2⟩:=hq;exact ⟨s1,C1,h1,by cases e<;>first|exact hm _ _ h2|exact h2⟩
def cutS (s':St):zN
 | .normal,s=>Cov s s'
 | _,_=>False
def zij (s s':St):cutS s' .normal s=Cov s s':=rfl
def zgy {G:Cfg} {x y:AC} {s:St} {Q:zN} (s':St) (h1:Run G x s (cutS s')) (h2:Run G y s' Q):Run G x s (seqK G y Q):=
 zm9 (λe s1 h=>by
  cases e with
  | normal=>exact zj7 s' h h2
  | exit i=>exact h.elim
  | ret=>exact h.elim) h1
end Go.Proofs.YtijgimeokgbifaaGreat
