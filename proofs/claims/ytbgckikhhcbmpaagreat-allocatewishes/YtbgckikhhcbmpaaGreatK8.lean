/- Contracts of functions, for the claim. No conditions. -/
import Derived.Test.YtbgckikhhcbmpaaGreatK4
import Derived.Test.YtbgckikhhcbmpaaGreatK3
import Derived.Test.YtbgckikhhcbmpaaGreatK6
set_option linter.all false
set_option maxHeartbeats 8000000
set_option maxRecDepth 100000
namespace Go.Proofs.YtbgckikhhcbmpaaGreat
open Go.RowKit Tryz
section
variable {f:Nat} {c:Mov->Mov->Int}
def zzW (f:Nat) {D D':List Mov} {N:Nat} (P X Y S:List Mov) (hN:D.length=N) (hD:D=P++(X++(Y++S))) (hD':D'=P++(Y++(X++S))) (hX:0 < X.length) (hY:0 < Y.length) (a m b:Int) (ha:a=(P.length:Nat)) (hm:m=(P.length+X.length:Nat)) (hb:b=(P.length+X.length+Y.length:Nat)) (hn:N<=1000000) :
  zbk prog 293 [.row 900 N,.p (.i .i64 a),.p (.i .i64 m),.p (.i .i64 b),.p (.fn (.func f) [] [])] [(900,.row 194 7 (D.map Mov.pv) false)] (.p (.tup [])) [(900,.row 194 7 (D'.map Mov.pv) false)]:=by
 subst ha hm hb;have hlen:N=P.length+(X.length+(Y.length+S.length)):=by rw [<-hN,hD];simp
 have hlen':D'.length=N:=by rw [hD',hlen];simp;omega
 refine zD (cF func293 f293.eq_1) (by simp) (by simp [scPs,scP,zm,hN]) (by simp [scObj]) ⟨rfl,trivial⟩ (by simp [scObj]) (by simp [zcQ,zm,hN,hlen']) λX1 hX1=>?_
 unfold zx ghO;have qe:=aI qR @gLV.eq_2;repeat' first|refine gC ?_ ?_<;>intro hc<;>try contradiction|refine gG ?_|show AK _;intro J Z|refine gJ ?_|omega|exact aT
 refine zh (κ:=List Mov × List Mov × List Mov × List Mov) (λk=>⟨[(0,.row 900 N),(2,.p (.i .i64 (P.length+X.length:Nat))),(4,.p (.fn (.func f) [] [])),(10,.p (.i .i64 (k.2.1.length:Nat))),(11,.p (.i .i64 (k.2.2.1.length:Nat))),(1000900,.row 900 N)],[(900,.row 194 7 ((k.1++(k.2.1++(k.2.2.1++k.2.2.2))).map Mov.pv) false)],[],false⟩)
  (λk=>k.1.length+k.2.1.length=P.length+X.length/\k.1++(k.2.2.1++(k.2.1++k.2.2.2))=D'/\0 < k.2.1.length/\0 < k.2.2.1.length) (λk=>k.2.1.length+k.2.2.1.length) (P,X,Y,S) ?_ ?_ ?_
 ·simp only [qS,seval,gLV.eq_2]<;>simp [<-hD,hN]<;>omega
 ·exact ⟨rfl,hD'.symm,hX,hY⟩
 ·intro k hk;obtain ⟨P',X',Y',S'⟩:=k;simp only at hk;obtain ⟨k1,k2,k3,k4⟩:=hk;have hE:(P'++(X'++(Y'++S'))).length=N:=by
   have:=congrArg List.length k2;rw [hlen'] at this;simp only [xad] at this ⊢;omega
  have hE2:P'.length+(X'.length+(Y'.length+S'.length))=N:=by
   simpa only [xad] using hE
  by_cases h1:X'.length=Y'.length
  ·have h1':((X'.length:Int)=Y'.length)=True:=eq_true (by omega)
   have h2':((Y'.length:Int)=X'.length)=True:=eq_true (by omega)
   have qe:=aI qR (aI @hE (aI @h1' (aI @h2' (aI @qN (aI @rtN @rtR)))));repeat' first|refine gC ?_ ?_<;>intro hc<;>try contradiction|refine zf [] (zl9 f (D':=D') P' X' [] Y' S' hE (by simp) (by rw [<-k2];simp) h1 (((P.length+X.length:Nat):Int) - (X'.length:Nat)) ((P.length+X.length:Nat):Int) (X'.length:Nat) (by omega) (by simp;omega) rfl hn) ?_|refine gG ?_|show AK _;intro J Z|refine gJ ?_|omega|exact aT
   all_goals first|exact .inl (.mk0 (h2:=by simp only [qS,seval,keepG.eq_1,keepG.eq_2,gLV.eq_2]<;>simp [hN]))|skip
  ·have h1':((X'.length:Int)=Y'.length)=False:=eq_false (by omega)
   by_cases h2:Y'.length < X'.length
   ·have h2':((Y'.length:Int) < X'.length)=True:=eq_true (by omega)
    have hl:(X'.take Y'.length).length=Y'.length:=by simp;omega
    have hl2:(X'.drop Y'.length).length=X'.length - Y'.length:=by simp
    have qe:=aI qR (aI @hE (aI @h1' (aI @h2' (aI @qN (aI @rtN @rtR)))));repeat' first|refine gC ?_ ?_<;>intro hc<;>try contradiction|refine zf [] (zl9 f (D':=P'++(Y'++(X'.drop Y'.length++(X'.take Y'.length++S')))) P' (X'.take Y'.length) (X'.drop Y'.length) Y' S' hE (by rw [<-xaj (X'.take _),xap]) rfl hl (((P.length+X.length:Nat):Int) - (X'.length:Nat)) ((P.length+X.length:Nat):Int) (Y'.length:Nat) (by omega) (by simp only [hl,hl2]<;>omega) (by simp only [hl]) hn) ?_|refine gG ?_|show AK _;intro J Z|refine gJ ?_|omega|exact aT
    refine ⟨(P'++Y',X'.drop Y'.length,X'.take Y'.length,S'),⟨?_,?_,?_,?_⟩,?_,?_⟩
    ·simp only [xad,hl2];omega
    ·show (P'++Y')++(X'.take Y'.length++(X'.drop Y'.length++S'))=D';rw [<-k2,<-xaj (X'.take _),xap,xaj]
    ·simp only [hl2];omega
    ·simp only [hl];omega
    ·simp only [hl,hl2];omega
    ·refine ⟨⟨?_,?_⟩,?_,?_⟩
     ·simp only [LV.p.injEq,PV.i.injEq,true_and,hl,hl2]<;>omega
     ·simp only [LV.p.injEq,PV.i.injEq,true_and,hl,hl2]<;>omega
     ·simp only [xaj]
     ·simp only [xad,hl,hl2];omega
   ·have h2':((Y'.length:Int) < X'.length)=False:=eq_false (by omega)
    have hl:(Y'.drop (Y'.length - X'.length)).length=X'.length:=by simp;omega
    have hl2:(Y'.take (Y'.length - X'.length)).length=Y'.length - X'.length:=by simp
    have qe:=aI qR (aI @hE (aI @h1' (aI @h2' (aI @qN (aI @rtN @rtR)))));repeat' first|refine gC ?_ ?_<;>intro hc<;>try contradiction|refine zf [] (zl9 f (D':=P'++(Y'.drop (Y'.length - X'.length)++(Y'.take (Y'.length - X'.length)++(X'++S')))) P' X' (Y'.take (Y'.length - X'.length)) (Y'.drop (Y'.length - X'.length)) S' hE (by rw [<-xaj (Y'.take _),xap]) rfl hl.symm (((P.length+X.length:Nat):Int) - (X'.length:Nat)) (((P.length+X.length:Nat):Int)+(Y'.length:Nat) - (X'.length:Nat)) (X'.length:Nat) (by omega) (by simp only [hl2]<;>omega) rfl hn) ?_|refine gG ?_|show AK _;intro J Z|refine gJ ?_|omega|exact aT
    refine ⟨(P',Y'.drop (Y'.length - X'.length),Y'.take (Y'.length - X'.length),X'++S'),⟨?_,?_,?_,?_⟩,?_,?_⟩
    ·simp only [hl];omega
    ·show P'++(Y'.take (Y'.length - X'.length)++(Y'.drop (Y'.length - X'.length)++(X'++S')))=D';rw [<-k2,<-xaj (Y'.take _),xap]
    ·simp only [hl];omega
    ·simp only [hl2];omega
    ·simp only [hl,hl2];omega
    ·refine ⟨⟨?_,?_⟩,?_,?_⟩
     ·simp only [LV.p.injEq,PV.i.injEq,true_and,hl,hl2]<;>omega
     ·simp only [LV.p.injEq,PV.i.injEq,true_and,hl,hl2]<;>omega
     ·simp only [xaj]
     ·simp only [xad,hl,hl2];omega
end
section
variable {f:Nat} {c:Mov->Mov->Int}
def zaP (hs:SW (bfC c)) (L:List Mov):zat c L=zcl (bfC c) L:=zd9 hs L
def znB (hf:∀ a b:Mov,Pure prog f [a.pv,b.pv] (.i .i64 (c a b))) {D D':List Mov} {N:Nat} (P L S:List Mov) (hN:D.length=N) (hD:D=P++(L++S)) (hD':D'=P++(zat c L++S)) (a b:Int) (ha:a=(P.length:Nat)) (hb:b=(P.length+L.length:Nat)) (hn:N<=1000000) :
  zbk prog 267 [.row 900 N,.p (.i .i64 a),.p (.i .i64 b),.p (.fn (.func f) [] [])] [(900,.row 194 7 (D.map Mov.pv) false)] (.p (.tup [])) [(900,.row 194 7 (D'.map Mov.pv) false)]:=by
 subst ha hb;have hlen:N=P.length+(L.length+S.length):=by rw [<-hN,hD];simp only [xad]
 have hlen':D'.length=N:=by rw [hD',hlen];simp only [xad,zaf]
 have hq:∀ {X:List Mov},X.length=L.length->(P++(X++S)).length=N:=fun {X} h=>by simp only [xad,h];omega
 refine zD (cF func267 f267.eq_1) (by simp) (by simp [scPs,scP,zm,hN]) (by simp [scObj]) ⟨rfl,trivial⟩ (by simp [scObj]) (by simp [zcQ,zm,hN,hlen']) λX hX=>?_
 unfold zx ghO;have qe:=aI qR @gLV.eq_2;repeat' first|refine gC ?_ ?_<;>intro hc<;>try contradiction|refine gG ?_|show AK _;intro J Z|refine gJ ?_|omega|exact aT
 refine zh (κ:=Nat) (λi=>⟨[(0,.row 900 N),(1,.p (.i .i64 (P.length:Nat))),(2,.p (.i .i64 (P.length+L.length:Nat))),(3,.p (.fn (.func f) [] [])),(8,.p (.i .i64 (P.length+i:Nat))),(1000900,.row 900 N)],[(900,.row 194 7 ((P++(zpb c L i++S)).map Mov.pv) false)],[],false⟩) (λi=>1<=i/\(i<=L.length\/i=1)) (λi=>L.length - i) 1 ?_ ?_ ?_
 ·simp only [qS,seval,gLV.eq_2]<;>simp [zB6,hD,hlen]
 ·simp
 ·intro i hi;have hdl:=zi1 (c:=c) hi.2;have hdN:=hq hdl
  by_cases hlt:i < L.length
  ·obtain ⟨x,hx⟩:=zj (i:=i) (l:=L) hlt;have hlt':(((P.length+i:Nat):Int) < (P.length+L.length:Nat))=True:=eq_true (by omega)
   have qe:=aI qR (aI @hdN @hlt');repeat' first|refine gC ?_ ?_<;>intro hc<;>try contradiction|refine gG ?_|show AK _;intro J Z|refine gJ ?_|omega|exact aT
   have hol:=ziy (c:=c) (L:=L) (k:=i) (by omega)
   refine zh (κ:=Nat) (λj=>⟨[(0,.row 900 N),(1,.p (.i .i64 (P.length:Nat))),(2,.p (.i .i64 (P.length+L.length:Nat))),(3,.p (.fn (.func f) [] [])),(8,.p (.i .i64 (P.length+i:Nat))),(9,.p (.i .i64 (P.length+j:Nat))),(1000900,.row 900 N)],[(900,.row 194 7 ((P++(dj (mgC c L i) x (L.drop (i+1)) j++S)).map Mov.pv) false)],[],false⟩) (λj=>j<=i/\zc2 (bfC c) x (mgC c L i) j=zc2 (bfC c) x (mgC c L i) i) (λj=>j) i ?_ ?_ ?_
   ·refine gJ ?_;simp [zvm hx,hdN];exact xb6 (by rw [<-hdN];simp only [xad])
   ·simp
   ·intro j hj;have hjl:(dj (mgC c L i) x (L.drop (i+1)) j).length=L.length:=by rw [zwJ (by omega),hol,xau];omega
    have hjN:=hq hjl;cases j with
    | zero=>
     have i0:(((P.length:Nat):Int) < ((P.length+0:Nat):Int))=False:=eq_false (by omega)
     have qe:=aI qR (aI @i0 (aI @hjN (aI @rtN @rtR)));repeat' first|refine gC ?_ ?_<;>intro hc<;>try contradiction|(show zp _ _ _ _ (⟨_,.callv,_,_,_⟩::_) _ _;refine zbn (q:=(.i .i64 0)) (by first|rfl|(simp (disch:=omega) only [qG,qe,seval]<;>rfl)) ?_;(try (refine zw ?_)))|refine gG ?_|show AK _;intro J Z|refine gJ ?_|omega|exact aT
     exact ⟨i+1,by omega,by omega,by simp only [LV.p.injEq,PV.i.injEq,true_and];omega,by rw [zrE (j:=0) hx hj.2],by rw [zi1 (by omega)];omega⟩
    | succ j=>
     have i0:(((P.length:Nat):Int) < ((P.length+(j+1):Nat):Int))=True:=eq_true (by omega)
     have i1:(((P.length+(j+1):Nat):Int) - 1).toNat=P.length+j:=by omega
     obtain ⟨y,hy⟩:=zj (i:=j) (l:=mgC c L i) (by omega)
     obtain ⟨h1,h2⟩:=dj_at (x:=x) (rest:=L.drop (i+1)) hy;have g1:=zae P (dj (mgC c L i) x (L.drop (i+1)) (j+1)) S (j:=j) (by omega)
     have g2:=zae P (dj (mgC c L i) x (L.drop (i+1)) (j+1)) S (j:=j+1) (by omega)
     rw [h1] at g1;rw [h2] at g2
     by_cases hcc:c x y < 0
     ·have hc':=eq_true hcc;have h3:=zyK hy hcc;have g3:((P++(dj (mgC c L i) x (L.drop (i+1)) (j+1)++S)).set (P.length+(j+1)) y).set (P.length+j) x=P++(dj (mgC c L i) x (L.drop (i+1)) j++S):=by
       rw [za6 _ _ _ _ (by omega),za6 _ _ _ _ (by rw [xbO];omega),zzm hy]
      have qe:=aI qR (aI @i0 (aI @i1 (aI @g1 (aI @g2 (aI @hjN (aI @hc' (aI @rtN @rtR)))))));repeat' first|refine gC ?_ ?_<;>intro hc<;>try contradiction|refine zl (hf x y) ?_|refine gG ?_|show AK _;intro J Z|refine gJ ?_|omega|exact aT
      exact ⟨j,⟨by omega,by rw [<-h3];exact hj.2⟩,by omega,by simp only [LV.p.injEq,PV.i.injEq,true_and];omega,by rw [<-g3,xa4,xa4],by rw [zwJ (by omega),hol,xau];omega⟩
     ·have hc':=eq_false hcc;have h3:=zra hy hcc;have qe:=aI qR (aI @i0 (aI @i1 (aI @g1 (aI @g2 (aI @hjN (aI @hc' (aI @rtN @rtR)))))));repeat' first|refine gC ?_ ?_<;>intro hc<;>try contradiction|refine zl (hf x y) ?_|refine gG ?_|show AK _;intro J Z|refine gJ ?_|omega|exact aT
      exact ⟨i+1,by omega,by omega,by simp only [LV.p.injEq,PV.i.injEq,true_and];omega,by rw [zrE hx (h3.symm.trans hj.2)],by rw [zi1 (by omega)];omega⟩
  ·have hlt':(((P.length+i:Nat):Int) < (P.length+L.length:Nat))=False:=eq_false (by omega)
   have qe:=aI qR (aI @hdN (aI @hlt' (aI @rtN @rtR)));repeat' first|refine gC ?_ ?_<;>intro hc<;>try contradiction|refine gG ?_|show AK _;intro J Z|refine gJ ?_|omega|exact aT
   rw [zvp c L (by omega),<-hD']
   exact .inl (.mk0 (h2:=by simp only [qS,seval,keepG.eq_1,keepG.eq_2,gLV.eq_2]<;>simp [hN]))
def Wd (c:Mov->Mov->Int) (w:Nat) (R:List Mov):List Mov:=if h:R.length<=w\/w=0 then zat c R else zat c (R.take w)++Wd c w (R.drop w)
termination_by R.length
decreasing_by simp only [xau];omega
def zcy {w:Nat} {R:List Mov} (h:R.length<=w):Wd c w R=zat c R:=by rw [Wd,dif_pos (.inl h)]
def zfl {w:Nat} {R:List Mov} (hw:0 < w) (h:w<=R.length):Wd c w R=zat c (R.take w)++Wd c w (R.drop w):=by
 by_cases e:R.length=w
 ·rw [zcy (by omega),xaq (by omega),xby (by omega),zcy (by simp)]
  show _=_++[];rw [xat]
 ·rw [Wd,dif_neg (by omega)]
def zhW {w:Nat} (hw:0 < w) (R:List Mov):(Wd c w R).length=R.length:=by
 generalize hn:R.length=n
 induction n using Nat.strongRecOn generalizing R with
 | _ n ih=>
  by_cases h:R.length<=w
  ·rw [zcy h,zaf,hn]
  ·rw [zfl hw (by omega),xad,zaf,ih (R.drop w).length (by rw [xau];omega) _ rfl,xao,xau];omega
def zmp (hs:SW (bfC c)) (R:List Mov) (w:Nat):mrg (bfC c) (zat c (R.take w)) (zat c (R.drop w))=zat c R:=by
 rw [zaP hs,zaP hs,zaP hs,<-zeE hs,xap]
end
def unB (s:ByteArray):Bool:=!decide (s=s0) && !zcs s
def zic (s:ByteArray):Pure prog 184 [.s s] (.b (unB s)):=by
 refine pz func184 f184.eq_1 λhw X hX=>?_
 repeat' first|refine gC ?_ ?_<;>intro hc<;>try contradiction|refine zg (λ_=>zcf s) ?_|refine gG ?_|show AK _;intro J Z|refine gJ ?_|omega|exact aT
 exact zhe (by simp [unB])
def zo3 (w:Wis):Int:=zn [zbY w.req,if (!zcs w.req.carrier || unB w.req.partner || unB w.req.link)=true then 8 else 0,rng w.ear 0 1439,rng w.lat 0 1439,if w.req.minute < w.ear\/w.lat < w.req.minute then 11 else 0,rng w.step 1 120]
def wisG (w:Wis):Int:=zn [if 96 < (zg2 w.req.minute w.ear w.lat w.step:Int) then 22 else 0,rng w.least 0 1440,rng w.most 0 1440,if w.most < w.least then 11 else 0]
def zqB (s:ByteArray):zo6 s=if unB s=true then 8 else 0:=by
 unfold zo6 unB
 by_cases h:s=s0
 ·simp [h]
 ·cases h2:zcs s<;>simp [h]
def zpk (w:Wis):zfI w=if zo3 w=0 then wisG w else zo3 w:=by
 unfold zfI zo3 wisG;rw [zqB,zqB];unfold zfA
 by_cases h0:zbY w.req=0<;>cases zcs w.req.carrier<;>cases unB w.req.partner<;>cases unB w.req.link<;>simp only [zn,h0,xaU,xaV,Bool.true_or,xcp,Bool.or_true,Bool.or_false,if_true,if_false,xaA,reduceCtorEq]<;>(repeat' split)<;>simp_all
def zwP {m e l s:Int} (h0:0<=m) (h1:m<=1439) (h2:0<=e) (h3:l<=1439) (h4:e<=m) (h5:m<=l) (h6:1<=s):(zg2 m e l s:Int)=(m - e).tdiv s+(l - m).tdiv s+1/\0<=(m - e).tdiv s/\(m - e).tdiv s<=1439/\0<=(l - m).tdiv s/\(l - m).tdiv s<=1439/\(m - e).tdiv s=(m - e) / s/\(l - m).tdiv s=(l - m) / s:=by
 have e1:(m - e).tdiv s=(m - e) / s:=xbo (by omega)
 have e2:(l - m).tdiv s=(l - m) / s:=xbo (by omega)
 have p0:0<=(m - e) / s:=xbe (by omega) (by omega)
 have q0:0<=(l - m) / s:=xbe (by omega) (by omega)
 have p1:(m - e) / s<=m - e:=xbq _ (by omega)
 have q1:(l - m) / s<=l - m:=xbq _ (by omega)
 rw [e1,e2];unfold zg2;exact ⟨by omega,p0,by omega,q0,by omega,rfl,rfl⟩
def zjq {w:Wis} (h:zo3 w=0):zbY w.req=0/\0<=w.ear/\w.lat<=1439/\w.ear<=w.req.minute/\w.req.minute<=w.lat/\1<=w.step/\w.step<=120:=by
 unfold zo3 at h;obtain ⟨h1,h⟩:=zi.1 h;obtain ⟨_,h⟩:=zi.1 h;obtain ⟨h3,h⟩:=zi.1 h;obtain ⟨h4,h⟩:=zi.1 h;obtain ⟨h5,h⟩:=zi.1 h;obtain ⟨h6,_⟩:=zi.1 h;rw [zdR] at h3 h4 h6;have h5:¬(w.req.minute < w.ear\/w.lat < w.req.minute):=λk=>by rw [if_pos k] at h5;cases h5
 exact ⟨h1,h3.1,h4.2,by omega,by omega,h6.1,h6.2⟩
def zev (w:Wis):Pure prog 118 [w.pv] (.i .i64 (zfI w)):=by
 rw [zpk];have hF:∀ p:Bool,p=(!zcs w.req.carrier || unB w.req.partner || unB w.req.link)->zn [zbY w.req,if p=true then 8 else 0,rng w.ear 0 1439,rng w.lat 0 1439,if (decide (w.req.minute < w.ear) || decide (w.lat < w.req.minute))=true then 11 else 0,rng w.step 1 120]=zo3 w:=by
  rintro _ rfl;simp only [zo3,xbd,decide_eq_true_eq]
 by_cases hz:zo3 w=0
 ·obtain ⟨z1,z2,z3,z4,z5,z6,z7⟩:=zjq hz;have hq:=(zi.1 z1).2;obtain ⟨_,hq⟩:=zi.1 hq;obtain ⟨_,hq⟩:=zi.1 hq;obtain ⟨_,hq⟩:=zi.1 hq;obtain ⟨hq,_⟩:=zi.1 hq;rw [zdR] at hq;obtain ⟨c1,c2,c3,c4,c5,_,_⟩:=zwP hq.1 hq.2 z2 z3 z4 z5 z6;have hb:(!zcs w.req.carrier || unB w.req.partner || unB w.req.link)=false:=by
   have:=(zi.1 (zi.1 hz).2).1;cases h:(!zcs w.req.carrier || unB w.req.partner || unB w.req.link)
   ·rfl
   ·rw [if_pos h] at this;cases this
  simp only [xbn,xb5] at hb;obtain ⟨⟨b1,b2⟩,b3⟩:=hb;have e1:=hF (unB w.req.link) (by rw [b1,b2];rfl)
  rw [b3,if_neg (show ¬(false=true) by decide),hz] at e1
  rw [if_pos hz];refine pz func118 f118.eq_1 λhw X hX=>?_
  have qe:=aI qR (aI @b1 (aI @b2 (aI @b3 @e1)));repeat' first|refine gC ?_ ?_<;>intro hc<;>try contradiction|refine za (zjP _) ?_|refine za (zcf _) ?_|refine zl (zic _) ?_|refine za (za0 _ _) ?_|refine za (zfM _ _ _) ?_|refine za (zaG [_,_,_,_,_,_]) ?_|refine za (zaG [_,_,_,_]) ?_|refine gG ?_|show AK _;intro J Z|refine gJ ?_|omega|exact aT
  all_goals (rw [wisG,c1];exact weakI (by simp))
 ·rw [if_neg hz]
  by_cases b1:zcs w.req.carrier=true
  ·by_cases b2:unB w.req.partner=true
   ·have e1:=hF true (by rw [b1,b2];rfl)
    rw [if_pos rfl] at e1;have z0:=eq_false hz;refine pz func118 f118.eq_1 λhw X hX=>?_
    have qe:=aI qR (aI @b1 (aI @b2 (aI @e1 @z0)));repeat' first|refine gC ?_ ?_<;>intro hc<;>try contradiction|refine za (zjP _) ?_|refine za (zcf _) ?_|refine zl (zic _) ?_|(show zp _ _ _ _ (⟨_,.callv,_,_,_⟩::_) _ _;refine zbn (q:=(.b false)) (by first|rfl|(simp (disch:=omega) only [qG,qe,seval]<;>rfl)) ?_;(try (refine zw ?_)))|refine za (za0 _ _) ?_|refine za (zfM _ _ _) ?_|refine za (zaG [_,_,_,_,_,_]) ?_|refine gG ?_|show AK _;intro J Z|refine gJ ?_|omega|exact aT
    all_goals exact .refl _
   ·rw [xbp] at b2;have e1:=hF (unB w.req.link) (by rw [b1,b2];rfl)
    have z0:=eq_false hz;refine pz func118 f118.eq_1 λhw X hX=>?_
    have qe:=aI qR (aI @b1 (aI @b2 (aI @e1 @z0)));have jA:=λu1=>zjP u1;have jB:=λu1=>zcf u1;have jC:=λu1=>zic u1;have jD:=λu1 u2=>za0 u1 u2;have jE:=λu1 u2 u3=>zfM u1 u2 u3;have jF:=λu1 u2 u3 u4 u5 u6=>zaG [u1,u2,u3,u4,u5,u6];exact gD8
  ·rw [xbp] at b1;have e1:=hF true (by rw [b1];rfl)
   rw [if_pos rfl] at e1;have z0:=eq_false hz;refine pz func118 f118.eq_1 λhw X hX=>?_
   have qe:=aI qR (aI @b1 (aI @e1 @z0));repeat' first|refine gC ?_ ?_<;>intro hc<;>try contradiction|refine za (zjP _) ?_|refine za (zcf _) ?_|(show zp _ _ _ _ (⟨_,.callv,_,_,_⟩::_) _ _;refine zbn (q:=(.b false)) (by first|rfl|(simp (disch:=omega) only [qG,qe,seval]<;>rfl)) ?_;(try (refine zw ?_)))|refine za (za0 _ _) ?_|refine za (zfM _ _ _) ?_|refine za (zaG [_,_,_,_,_,_]) ?_|refine gG ?_|show AK _;intro J Z|refine gJ ?_|omega|exact aT
   all_goals exact .refl _
def ztY {f:Nat} {caps:List PV} {L:List Wis} {p:Wis->Bool} (hf:∀ w ∈ L,Pure prog f (w.pv::caps) (.b (p w))):Pure prog 187 [.sl 18 (L.map Wis.pv),.fn (.func f) [] caps] (.i .i64 (zdG p L)):=by
 refine pz func187 f187.eq_1 λhw X hX=>?_
 simp only [wfs,PV.wf,xaf,maxLen] at hw
 repeat' first|refine gC ?_ ?_<;>intro hc<;>try contradiction|refine gG ?_|show AK _;intro J Z|refine gJ ?_|omega|exact aT
 refine zh (κ:=Nat) (λi=>⟨[(0,.p (.sl 18 (L.map Wis.pv))),(1,.p (.fn (.func f) [] caps)),(7,.p (.i .i64 L.length)),(8,.p (.i .i64 i))],[],[],false⟩) (λi=>i<=L.length/\∀ y ∈ L.take i,p y=false) (λi=>L.length - i) 0 ?_ ?_ ?_
 ·exact sR
 ·simp
 ·intro i hi
  repeat first|refine gG ?_|show AK _;intro J Z|refine gJ ?_|omega|exact aT
  (refine gC ?_ ?_<;>intro hc<;>try contradiction)
  ·obtain ⟨y,hy⟩:=zj (i:=i) (l:=L) (by omega)
   have qe:=@hy;repeat' first|refine gC ?_ ?_<;>intro hc<;>try contradiction|refine zl (hf y (xae hy)) ?_|refine gG ?_|show AK _;intro J Z|refine gJ ?_|omega|exact aT
   ·rw [zbe hi.2 hy hc];exact .refl _
   ·exact ⟨i+1,⟨by omega,zd1 hi.2 hy (by simpa using hc)⟩,by omega,by simp⟩
  ·repeat' first|refine gC ?_ ?_<;>intro hc<;>try contradiction|refine gG ?_|show AK _;intro J Z|refine gJ ?_|omega|exact aT
   have e:i=L.length:=by omega
   subst e;rw [zct (λy hy=>hi.2 y (by rw [xaq (by simp)];exact hy))];exact .refl _
def ztX (w:Wis) (n:ByteArray):Pure prog 188 [w.pv,.ip (.s n) 0] (.b (decide (w.req.name=n))):=by
 refine pz func188 f188.eq_1 λhw X hX=>?_
 exact gD0
def zeu (L:List Wis) (n:ByteArray):Pure prog 119 [.sl 18 (L.map Wis.pv),.s n] (.i .i64 (zeH n L)):=by
 refine pz func119 f119.eq_1 λhw X hX=>?_
 repeat' first|refine gC ?_ ?_<;>intro hc<;>try contradiction|refine zo (ztY (L:=L) (p:=λw=>decide (w.req.name=n)) (λw _=>ztX w n)) ?_|refine gG ?_|show AK _;intro J Z|refine gJ ?_|omega|exact aT
 rw [ziR];exact .refl _
def zfU (L:List Wis):Pure prog 60 [.sl 18 (L.map Wis.pv)] (.i .i64 (zav L)):=by
 refine pz func60 f60.eq_1 fun hw X hX=>?_
 simp only [wfs,PV.wf,xaf,maxLen] at hw
 repeat' first|refine gC ?_ ?_<;>intro hc<;>try contradiction|refine gG ?_|show AK _;intro J Z|refine gJ ?_|omega|exact aT
 ·rw [zav,if_pos hc];exact .refl _
 have hsp:zav L=zn [zn (L.mapIdx (zcB L)),zn (L.mapIdx (zjj L))]:=by rw [zav,if_neg (by omega)]
 refine zh (κ:=Nat) (fun i=>⟨[(0,.p (.sl 18 (L.map Wis.pv))),(13,.p (.sl 18 (L.map Wis.pv))),(14,.p (.i .i64 L.length)),(15,.p (.i .i64 i))],[],[],false⟩) (fun i=>i≤L.length∧∀ x ∈ (L.mapIdx (zcB L)).take i,x=0) (fun i=>L.length - i) 0 ?_ ?_ ?_
 ·exact sR
 ·simp
 ·intro i hi
  repeat first|refine gG ?_|show AK _;intro J Z|refine gJ ?_|omega|exact aT
  (refine gC ?_ ?_<;>intro hc<;>try contradiction)
  ·obtain ⟨x,hx⟩:=zj (i:=i) (l:=L) (by omega)
   have he:zcB L i x=zn [zfI x,if 0≤zeH x.req.name (L.take i) then 9 else 0]:=rfl
   have h19:=zeu (L.take i) x.req.name
   rw [xbF] at h19
   have qe:=aI qR @hx;repeat' first|refine gC ?_ ?_<;>intro hc<;>try contradiction|refine za (zev x) ?_|refine za (h19) ?_|refine za (za0 _ _) ?_|refine za (zaG [_,_]) ?_|refine gG ?_|show AK _;intro J Z|refine gJ ?_|omega|exact aT
   ·rw [←he] at hc
    have h1:zn (L.mapIdx (zcB L))=zcB L i x:=zbr hi.2 (zaj hx) hc
    have hf:zav L=zcB L i x:=by rw [hsp,zlL (by rw [h1];exact hc),h1]
    rw [hf,he];exact .refl _
   ·rw [←he] at hc
    exact ⟨i+1,⟨by omega,zb0 hi.2 (zaj hx) hc⟩,by omega,by simp⟩
  ·have e1:zn (L.mapIdx (zcB L))=0:=by
    have e:i=(L.mapIdx (zcB L)).length:=by simp;omega
    subst e;exact zbj hi.2
   rw [zro e1,zwE] at hsp
   repeat' first|refine gC ?_ ?_<;>intro hc<;>try contradiction|refine gG ?_|show AK _;intro J Z|refine gJ ?_|omega|exact aT
   refine zh (κ:=Nat) (fun i=>⟨[(0,.p (.sl 18 (L.map Wis.pv))),(37,.p (.sl 18 (L.map Wis.pv))),(38,.p (.i .i64 L.length)),(39,.p (.i .i64 i))],[],[],false⟩) (fun i=>i≤L.length∧∀ x ∈ (L.mapIdx (zjj L)).take i,x=0) (fun i=>L.length - i) 0 ?_ ?_ ?_
   ·exact sR
   ·simp
   ·intro i hi
    repeat first|refine gG ?_|show AK _;intro J Z|refine gJ ?_|omega|exact aT
    (refine gC ?_ ?_<;>intro hc<;>try contradiction)
    ·obtain ⟨x,hx⟩:=zj (i:=i) (l:=L) (by omega)
     have hnx:zjj L i x=0→∃ k',(k'≤L.length∧∀ y ∈ (L.mapIdx (zjj L)).take k',y=0)∧L.length - k' < L.length - i∧k'=i+1:=fun h0=>⟨i+1,⟨by omega,zb0 hi.2 (zaj hx) h0⟩,by omega,rfl⟩
     have hst:zjj L i x≠0→zav L=zjj L i x:=fun h0=>by rw [hsp,zbr hi.2 (zaj hx) h0]
     have hlt:=zr7 x.req.link (zkG L)
     rw [show (zkG L).length=L.length from xaf ..] at hlt
     by_cases hs:x.req.link=s0
     ·have hs':=eq_true hs
      have qe:=aI qR (aI @hx @hs');repeat' first|refine gC ?_ ?_<;>intro hc<;>try contradiction|refine gG ?_|show AK _;intro J Z|refine gJ ?_|omega|exact aT
      obtain ⟨k',a1,a2,rfl⟩:=hnx (by rw [zjj,if_pos hs])
      exact ⟨_,a1,a2,by simp⟩
     ·have hs':=eq_false hs
      by_cases hneg:zeH x.req.link L < 0
      ·have hneg':=eq_true hneg
       have e10:zjj L i x=10:=by
        rw [zjj,if_neg hs]
        split
        ·rw [if_pos hneg]
        ·rfl
       have qe:=aI qR (aI @hx (aI @hs' @hneg'));repeat' first|refine gC ?_ ?_<;>intro hc<;>try contradiction|refine za (zeu L _) ?_|refine gG ?_|show AK _;intro J Z|refine gJ ?_|omega|exact aT
       rw [hst (by rw [e10];decide),e10];exact .refl _
      ·have hneg':=eq_false hneg
       obtain ⟨y,hy⟩:=zj (i:=(zeH x.req.link L).toNat) (l:=L) (by unfold zeH at *;omega)
       have ev:zjj L i x=if zeH x.req.link L=i∨y.req.link≠x.req.name∨y.req.kind=x.req.kind∨¬(y.req.per.fro=x.req.per.fro∧y.req.per.to=x.req.per.to∧y.req.per.days=x.req.per.days) then 32 else 0:=by
        rw [zjj,if_neg hs,hy];simp only;rw [if_neg hneg]
       have qe:=aI qR (aI @hx (aI @hs' (aI @hneg' @hy)));repeat' first|refine gC ?_ ?_<;>intro hc<;>try contradiction|refine za (zeu L _) ?_|refine gG ?_|show AK _;intro J Z|refine gJ ?_|omega|exact aT
       ·have e32:zjj L i x=32:=by
         rw [ev,if_pos]
         rcases hc with ((h|h)|h)|h
         ·exact .inl h
         ·exact .inr (.inl h)
         ·exact .inr (.inr (.inl h))
         ·exact .inr (.inr (.inr fun k=>h k.1 k.2.1 k.2.2))
        rw [hst (by rw [e32];decide),e32];exact .refl _
       ·obtain ⟨k',a1,a2,rfl⟩:=hnx (by
         rw [ev,if_neg]
         rintro (h|h|h|h)
         ·exact hc.1.1.1 h
         ·exact h hc.1.1.2
         ·exact hc.1.2 h
         ·exact h hc.2)
        exact ⟨_,a1,a2,by simp⟩
    ·have e2:zn (L.mapIdx (zjj L))=0:=by
      have e:i=(L.mapIdx (zjj L)).length:=by simp;omega
      subst e;exact zbj hi.2
     repeat' first|refine gC ?_ ?_<;>intro hc<;>try contradiction|refine gG ?_|show AK _;intro J Z|refine gJ ?_|omega|exact aT
     rw [hsp,e2];exact .refl _
def zco (w:Wis) (m:Int):Pure prog 123 [w.pv,.i .i64 m] (.sl 7 ((zbF (w.req.at m)).map Mov.pv)):=by
 refine pz func123 f123.eq_1 λhw X hX=>?_
 have qe:=@qR;have jA:=zjP (w.req.at m);exact gD2
def ztV (m a b:Int) (hm:0<=m/\m<=1439) (ha:-10000<=a/\a<=10000) (hb:-10000<=b/\b<=10000):Pure prog 192 ([]++[.i .i64 a,.i .i64 b]++[.ip (.i .i64 m) 0]) (.i .i64 (cmpC m a b)):=by
 refine pz func192 f192.eq_1 λhw X hX=>?_
 have qe:=@qR;repeat' first|refine gC ?_ ?_<;>intro hc<;>try contradiction|refine zcE (hf:=zfO _ (by omega) (by omega)) (hn:=?_)|refine za (zlh _ _) ?_|refine za (zqt [_,_]) ?_|refine gG ?_|show AK _;intro J Z|refine gJ ?_|omega|exact aT
 all_goals exact .refl _
def zr0 {m e l s:Int} (hs:1<=s) (h1:e<=m) (h2:m<=l) (h3:0<=e) (h4:l<=1439) {x:Int} (h:x ∈ zkM m e l s):0<=x/\x<=1439:=by
 have:=(zvF hs h1 h2).1 h
 omega
def zcC {w:Wis} (h:zfI w=0):zo3 w=0/\wisG w=0:=by
 rw [zpk] at h
 by_cases h0:zo3 w=0
 ·rw [if_pos h0] at h;exact ⟨h0,h⟩
 ·rw [if_neg h0] at h;exact absurd h h0
def zdv {w:Wis} (h:zo3 w=0):0<=w.req.minute/\w.req.minute<=1439:=by
 have:=zjq h;omega
def zcW (w:Wis) (h:zfI w=0) (h12:zg2 w.req.minute w.ear w.lat w.step<=12):Pure prog 122 [w.pv] (.sl 1 ((zac w).map (.i .i64))):=by
 have hF:=(zcC h).1;obtain ⟨z1,z2,z3,z4,z5,z6,z7⟩:=zjq hF;have hmn:=zdv hF;obtain ⟨c1,c2,c3,c4,c5,c6,c7⟩:=zwP hmn.1 hmn.2 z2 z3 z4 z5 z6;have hin:∀ x ∈ zkM w.req.minute w.ear w.lat w.step,0<=x/\x<=1439:=λx hx=>zr0 z6 z4 z5 z2 z3 hx
 have hlen:(zkM w.req.minute w.ear w.lat w.step).length=zg2 w.req.minute w.ear w.lat w.step:=by unfold zkM;rw [xaf,xaS]
 have h91:=zvW (f:=192) (cs:=[.ip (.i .i64 w.req.minute) 0]) (c:=cmpC w.req.minute) (zkM w.req.minute w.ear w.lat w.step) (λa ha b hb=>ztV w.req.minute a b hmn (by have:=hin a ha;omega) (by have:=hin b hb;omega)) (by omega)
 rw [hlen] at h91;have hcl:(zac w).length=zg2 w.req.minute w.ear w.lat w.step:=by unfold zac;rw [zu,hlen]
 change zbk _ _ _ _ _ [(900,.row 3 1 ((zac w).map (.i .i64)) false)] at h91
 have p1:(w.req.minute - w.ear) / w.step*w.step<=w.req.minute - w.ear:=Int.ediv_mul_le _ (by omega)
 have p2:0<=(w.req.minute - w.ear) / w.step*w.step:=Int.mul_nonneg (by omega) (by omega)
 have q1:(w.lat - w.req.minute) / w.step*w.step<=w.lat - w.req.minute:=Int.ediv_mul_le _ (by omega)
 have hA:zkM w.req.minute w.ear w.lat w.step=(List.range (zg2 w.req.minute w.ear w.lat w.step)).map λn:Nat=>w.req.minute - (w.req.minute - w.ear) / w.step*w.step+n*w.step:=rfl
 rw [hA] at h91;generalize zg2 w.req.minute w.ear w.lat w.step=N at *;generalize (w.req.minute - w.ear) / w.step=p at *;generalize (w.lat - w.req.minute) / w.step=q at *;rw [c6,c7] at c1;refine pz func122 f122.eq_1 λhw X hX=>?_
 have qe:=aI qR (aI @c6 @c7);repeat' first|refine gC ?_ ?_<;>intro hc<;>try contradiction|refine gG ?_|show AK _;intro J Z|refine gJ ?_|omega|exact aT
 refine run_ownL 400 3 1 (κ:=Nat) (λk=>⟨[(1,.lp 1 0),(3,.lp 3 0),(4,.row 400 k),(24,.p (.i .i64 N)),(25,.p (.i .i64 k))],[(1,.box (w.cells.map .p) false),(3,.box [.p (.i .i64 w.req.minute)] false),(400,.row 3 1 (((List.range k).map λn:Nat=>w.req.minute - p*w.step+n*w.step).map (.i .i64)) false)],[],false⟩) (λk=>k<=N) (λk=>N - k) 0 ?_ ?_ ?_
 ·refine ⟨gO ?_,gO ?_⟩<;>simp [c1]
 ·simp
 ·intro k hk;have hkl:((List.range k).map λn:Nat=>w.req.minute - p*w.step+n*w.step).length=k:=by simp
  repeat first|refine gG ?_|show AK _;intro J Z|refine gJ ?_|omega|exact aT
  (refine gC ?_ ?_<;>intro hc<;>try contradiction)
  ·have k1:(k:Int)*w.step<=(p+q)*w.step:=Int.mul_le_mul_of_nonneg_right (by omega) (by omega)
   have k2:0<=(k:Int)*w.step:=Int.mul_nonneg (by omega) (by omega)
   rw [Int.add_mul] at k1;have qe:=aI qR (aI @c6 @hkl);repeat' first|refine gC ?_ ?_<;>intro hc<;>try contradiction|refine gG ?_|show AK _;intro J Z|refine gJ ?_|omega|exact aT
   exact ⟨k+1,by omega,by omega,by simp [xa7]⟩
  ·obtain rfl:k=N:=by omega
   refine zcU ?_;refine (show Run _ (.seq _ _) _ _ from zbC ?_)
   refine (show Run _ (.ops false _) _ _ from zar (zbP 2 ?_))
   simp only [xa2,xbi,xbB,xbH];have qe:=@qR;repeat' first|refine gC ?_ ?_<;>intro hc<;>try contradiction|refine gG ?_|show AK _;intro J Z|refine gJ ?_|omega|exact aT
   refine zag (zaz 50 (.fn (.func 192) [] [.ip (.i .i64 w.req.minute) 0]) (sR) (by first|trivial|simp) (.refl _)) ?_
   rintro _ rfl;refine zw ?_;have qe:=aI qR (aI @qN (aI @hkl (aI @hcl (aI @rtN @rtR))));repeat' first|refine gC ?_ ?_<;>intro hc<;>try contradiction|refine zf [(900,400)] (h91) ?_|refine gG ?_|show AK _;intro J Z|refine gJ ?_|omega|exact aT
   all_goals exact .refl _
section
variable {f:Nat} {cs:List PV} {c:OptN->OptN->Int}
def zaO (hs:SW (zaJ c)) (L:List OptN):zz c L=zcl (zaJ c) L:=zd8 hs L
def zkD (hf:∀ a b:OptN,Pure prog f ([]++[a.pv,b.pv]++cs) (.i .i64 (c a b))) {D D':List OptN} {N:Nat} (P L S:List OptN) (hN:D.length=N) (hD:D=P++(L++S)) (hD':D'=P++(zz c L++S)) (a b:Int) (ha:a=(P.length:Nat)) (hb:b=(P.length+L.length:Nat)) (hn:N<=1000000) :
  zbk prog 262 [.row 900 N,.p (.i .i64 a),.p (.i .i64 b),.p (.fn (.func f) [] cs)] [(900,.row 152 2 (D.map OptN.pv) false)] (.p (.tup [])) [(900,.row 152 2 (D'.map OptN.pv) false)]:=by
 subst ha hb;have hlen:N=P.length+(L.length+S.length):=by rw [<-hN,hD];simp only [xad]
 have hlen':D'.length=N:=by rw [hD',hlen];simp only [xad,zu]
 have hq:∀ {X:List OptN},X.length=L.length->(P++(X++S)).length=N:=fun {X} h=>by simp only [xad,h];omega
 refine zD (cF func262 f262.eq_1) (by simp) (by simp [scPs,scP,zm,hN]) (by simp [scObj]) ⟨rfl,trivial⟩ (by simp [scObj]) (by simp [zcQ,zm,hN,hlen']) λX hX=>?_
 unfold zx ghO;have qe:=aI qR @gLV.eq_2;repeat' first|refine gC ?_ ?_<;>intro hc<;>try contradiction|refine gG ?_|show AK _;intro J Z|refine gJ ?_|omega|exact aT
 refine zh (κ:=Nat) (λi=>⟨[(0,.row 900 N),(1,.p (.i .i64 (P.length:Nat))),(2,.p (.i .i64 (P.length+L.length:Nat))),(3,.p (.fn (.func f) [] cs)),(8,.p (.i .i64 (P.length+i:Nat))),(1000900,.row 900 N)],[(900,.row 152 2 ((P++(zeO c L i++S)).map OptN.pv) false)],[],false⟩) (λi=>1<=i/\(i<=L.length\/i=1)) (λi=>L.length - i) 1 ?_ ?_ ?_
 ·simp only [qS,seval,gLV.eq_2]<;>simp [zlX,hD,hlen]
 ·simp
 ·intro i hi;have hdl:=zbs (c:=c) hi.2;have hdN:=hq hdl
  by_cases hlt:i < L.length
  ·obtain ⟨x,hx⟩:=zj (i:=i) (l:=L) hlt;have hlt':(((P.length+i:Nat):Int) < (P.length+L.length:Nat))=True:=eq_true (by omega)
   have qe:=aI qR (aI @hdN @hlt');repeat' first|refine gC ?_ ?_<;>intro hc<;>try contradiction|refine gG ?_|show AK _;intro J Z|refine gJ ?_|omega|exact aT
   have hol:=zdE (c:=c) (L:=L) (k:=i) (by omega)
   refine zh (κ:=Nat) (λj=>⟨[(0,.row 900 N),(1,.p (.i .i64 (P.length:Nat))),(2,.p (.i .i64 (P.length+L.length:Nat))),(3,.p (.fn (.func f) [] cs)),(8,.p (.i .i64 (P.length+i:Nat))),(9,.p (.i .i64 (P.length+j:Nat))),(1000900,.row 900 N)],[(900,.row 152 2 ((P++(djP (zdW c L i) x (L.drop (i+1)) j++S)).map OptN.pv) false)],[],false⟩) (λj=>j<=i/\zaV (zaJ c) x (zdW c L i) j=zaV (zaJ c) x (zdW c L i) i) (λj=>j) i ?_ ?_ ?_
   ·refine gJ ?_;simp [zgU hx,hdN];exact xb6 (by rw [<-hdN];simp only [xad])
   ·simp
   ·intro j hj;have hjl:(djP (zdW c L i) x (L.drop (i+1)) j).length=L.length:=by rw [zfg (by omega),hol,xau];omega
    have hjN:=hq hjl;cases j with
    | zero=>
     have i0:(((P.length:Nat):Int) < ((P.length+0:Nat):Int))=False:=eq_false (by omega)
     have qe:=aI qR (aI @i0 (aI @hjN (aI @rtN @rtR)));repeat' first|refine gC ?_ ?_<;>intro hc<;>try contradiction|(show zp _ _ _ _ (⟨_,.callv,_,_,_⟩::_) _ _;refine zbn (q:=(.i .i64 0)) (by first|rfl|(simp (disch:=omega) only [qG,qe,seval]<;>rfl)) ?_;(try (refine zw ?_)))|refine gG ?_|show AK _;intro J Z|refine gJ ?_|omega|exact aT
     exact ⟨i+1,by omega,by omega,by simp only [LV.p.injEq,PV.i.injEq,true_and];omega,by rw [zdJ (j:=0) hx hj.2],by rw [zbs (by omega)];omega⟩
    | succ j=>
     have i0:(((P.length:Nat):Int) < ((P.length+(j+1):Nat):Int))=True:=eq_true (by omega)
     have i1:(((P.length+(j+1):Nat):Int) - 1).toNat=P.length+j:=by omega
     obtain ⟨y,hy⟩:=zj (i:=j) (l:=zdW c L i) (by omega)
     obtain ⟨h1,h2⟩:=zrF (x:=x) (rest:=L.drop (i+1)) hy;have g1:=zae P (djP (zdW c L i) x (L.drop (i+1)) (j+1)) S (j:=j) (by omega)
     have g2:=zae P (djP (zdW c L i) x (L.drop (i+1)) (j+1)) S (j:=j+1) (by omega)
     rw [h1] at g1;rw [h2] at g2
     by_cases hcc:c x y < 0
     ·have hc':=eq_true hcc;have h3:=ziP hy hcc;have g3:((P++(djP (zdW c L i) x (L.drop (i+1)) (j+1)++S)).set (P.length+(j+1)) y).set (P.length+j) x=P++(djP (zdW c L i) x (L.drop (i+1)) j++S):=by
       rw [za6 _ _ _ _ (by omega),za6 _ _ _ _ (by rw [xbO];omega),zi0 hy]
      have qe:=aI qR (aI @i0 (aI @i1 (aI @g1 (aI @g2 (aI @hjN (aI @hc' (aI @rtN @rtR)))))));repeat' first|refine gC ?_ ?_<;>intro hc<;>try contradiction|refine zl (hf x y) ?_|refine gG ?_|show AK _;intro J Z|refine gJ ?_|omega|exact aT
      exact ⟨j,⟨by omega,by rw [<-h3];exact hj.2⟩,by omega,by simp only [LV.p.injEq,PV.i.injEq,true_and];omega,by rw [<-g3,xa4,xa4],by rw [zfg (by omega),hol,xau];omega⟩
     ·have hc':=eq_false hcc;have h3:=zfc hy hcc;have qe:=aI qR (aI @i0 (aI @i1 (aI @g1 (aI @g2 (aI @hjN (aI @hc' (aI @rtN @rtR)))))));repeat' first|refine gC ?_ ?_<;>intro hc<;>try contradiction|refine zl (hf x y) ?_|refine gG ?_|show AK _;intro J Z|refine gJ ?_|omega|exact aT
      exact ⟨i+1,by omega,by omega,by simp only [LV.p.injEq,PV.i.injEq,true_and];omega,by rw [zdJ hx (h3.symm.trans hj.2)],by rw [zbs (by omega)];omega⟩
  ·have hlt':(((P.length+i:Nat):Int) < (P.length+L.length:Nat))=False:=eq_false (by omega)
   have qe:=aI qR (aI @hdN (aI @hlt' (aI @rtN @rtR)));repeat' first|refine gC ?_ ?_<;>intro hc<;>try contradiction|refine gG ?_|show AK _;intro J Z|refine gJ ?_|omega|exact aT
   rw [zgW c L (by omega),<-hD']
   exact .inl (.mk0 (h2:=by simp only [qS,seval,keepG.eq_1,keepG.eq_2,gLV.eq_2]<;>simp [hN]))
def Wdo (c:OptN->OptN->Int) (w:Nat) (R:List OptN):List OptN:=if h:R.length<=w\/w=0 then zz c R else zz c (R.take w)++Wdo c w (R.drop w)
termination_by R.length
decreasing_by simp only [xau];omega
def zbT {w:Nat} {R:List OptN} (h:R.length<=w):Wdo c w R=zz c R:=by rw [Wdo,dif_pos (.inl h)]
def zdQ {w:Nat} {R:List OptN} (hw:0 < w) (h:w<=R.length):Wdo c w R=zz c (R.take w)++Wdo c w (R.drop w):=by
 by_cases e:R.length=w
 ·rw [zbT (by omega),xaq (by omega),xby (by omega),zbT (by simp)]
  show _=_++[];rw [xat]
 ·rw [Wdo,dif_neg (by omega)]
def zfk {w:Nat} (hw:0 < w) (R:List OptN):(Wdo c w R).length=R.length:=by
 generalize hn:R.length=n
 induction n using Nat.strongRecOn generalizing R with
 | _ n ih=>
  by_cases h:R.length<=w
  ·rw [zbT h,zu,hn]
  ·rw [zdQ hw (by omega),xad,zu,ih (R.drop w).length (by rw [xau];omega) _ rfl,xao,xau];omega
def zjy (hs:SW (zaJ c)) (R:List OptN) (w:Nat):mrg (zaJ c) (zz c (R.take w)) (zz c (R.drop w))=zz c R:=by
 rw [zaO hs,zaO hs,zaO hs,<-zeE hs,xap]
end
end Go.Proofs.YtbgckikhhcbmpaaGreat
