/- Contracts of functions, for the claim. No conditions. -/
import Derived.Test.YtbgckikhhcbmpaaGreatRows
import Derived.Test.YtbgckikhhcbmpaaGreatS0
set_option linter.all false
set_option maxHeartbeats 8000000
set_option maxRecDepth 100000
namespace Go.Proofs.YtbgckikhhcbmpaaGreat
open Go.RowKit Go.Proofs.Tryz
def yA (l:List Int):Pure prog 19 [.sl 1 (l.map (.i .i64))] (.i .i64 (zn l)):=by
 refine pz func19 f19.eq_1 λhw X hX=>?_
 simp only [wfs,PV.wf,xaf,maxLen] at hw
 repeat' first|refine gC ?_ ?_<;>intro hc<;>try contradiction|refine gG ?_|show AK _;intro J Z|refine gJ ?_|omega|exact aT
 refine zh (κ:=Nat) (λi=>⟨[(0,.p (.sl 1 (l.map (.i .i64)))),(3,.p (.i .i64 i))],[],[],false⟩) (λi=>i<=l.length/\∀ x ∈ l.take i,x=0) (λi=>l.length - i) 0 ?_ ?_ ?_
 .exact sR
 .simp
 .intro i hi
  repeat first|refine gG ?_|show AK _;intro J Z|refine gJ ?_|omega|exact aT
  (refine gC ?_ ?_<;>intro hc<;>try contradiction)
  .obtain ⟨x,hx⟩:=zj (i:=i) (l:=l) (by omega)
   have qe:=@hx;repeat' first|refine gC ?_ ?_<;>intro hc<;>try contradiction|refine gG ?_|show AK _;intro J Z|refine gJ ?_|omega|exact aT
   .rw [zbr hi.2 hx hc];exact .refl _
   .exact ⟨i+1,⟨by omega,zb0 hi.2 hx hc⟩,by omega,by simp⟩
  .repeat' first|refine gC ?_ ?_<;>intro hc<;>try contradiction|refine gG ?_|show AK _;intro J Z|refine gJ ?_|omega|exact aT
   have e:i=l.length:=by omega
   subst e;rw [zbj hi.2];exact .refl _
def ybl (s:ByteArray):Pure prog 116 [.s s] (.i .i64 (zo6 s)):=by
 refine pz func116 f116.eq_1 λhw X hX=>?_
 by_cases h1:s=s0
 .have h1':=eq_true h1;have e:zo6 s=0:=yas (.inl h1);rw [e];have qe:=aI qR (aI @h1' @xaU);have jA:=yH s;exact gD2
 .have h1':=eq_false h1;cases h2:zcs s with
  | true=>
   have h70:=yH s;rw [h2] at h70;have e:zo6 s=0:=yas (.inr h2);rw [e];have qe:=aI qR (aI @h1' (aI @xaV @xaU));have jA:=h70;exact gD2
  | false=>
   have h70:=yH s;rw [h2] at h70;have e:zo6 s=8:=yaV ⟨h1,h2⟩;rw [e];have qe:=aI qR (aI @h1' @xaV);have jA:=h70;exact gD2
def yS (n a b:Int):Pure prog 117 [.i .i64 n,.i .i64 a,.i .i64 b] (.i .i64 (rng n a b)):=by
 refine pz func117 f117.eq_1 λhw X hX=>?_
 repeat' first|refine gC ?_ ?_<;>intro hc<;>try contradiction|refine gG ?_|show AK _;intro J Z|refine gJ ?_|omega|exact aT
 .rw [yb4 (by omega)];exact .refl _
 .rw [zdR.2 (by omega)];exact .refl _
def yn (w:Wis) (hs:1<=w.step/\w.step<=120) (h1:w.ear<=w.req.minute) (h2:w.req.minute<=w.lat) (he:0<=w.ear) (hl:w.lat<=1439):Pure prog 47 [w.pv] (.sl 1 ((zac w).map (.i .i64))):=by
 rw [canW_R hs.1 h1 h2 he hl];have hk:=kS_lt hs.1;have hkb:∀ j:Nat,(j:Int)<=j*w.step:=λj=>by
  have:=Int.mul_le_mul_of_nonneg_left hs.1 (show (0:Int)<=j by omega)
  omega
 refine pz func47 f47.eq_1 λhw X hX=>?_
 have qe:=@qR;repeat' first|refine gC ?_ ?_<;>intro hc<;>try contradiction|refine gG ?_|show AK _;intro J Z|refine gJ ?_|omega|exact aT
 refine run_ownL 100 3 1 (κ:=Nat) (λj=>⟨[(1,.lp 1 0),(3,.row 100 (yaj w.req.minute w.ear w.lat w.step j).length),(4,.p (.i .i64 (j*w.step)))],[(1,.box (w.cells.map .p) false),(100,.row 3 1 ((yaj w.req.minute w.ear w.lat w.step j).map (.i .i64)) false)],[],false⟩) (λj=>j<=kS w.step) (λj=>kS w.step - j) 0 ?_ ?_ ?_
 .refine ⟨gO ?_,gO ?_⟩<;>simp [yaj]
 .simp
 .intro j hj;have hj2:=hk j;have hjb:=hkb j;have hn:=ya9 w.req.minute w.ear w.lat w.step j;have hcl:=ybK w.req.minute w.ear w.lat w.step j;have hm1:((j+1:Nat):Int)*w.step=j*w.step+w.step:=by push_cast;rw [Int.add_mul];omega
  generalize hd:(j:Int)*w.step=d at *
  repeat first|refine gG ?_|show AK _;intro J Z|refine gJ ?_|omega|exact aT
  (refine gC ?_ ?_<;>intro hc<;>try contradiction)
  .have hjk:j < kS w.step:=hj2.2 hc;have hd0:0<=d:=by omega
   by_cases a1:w.ear<=w.req.minute - d
   .have a1':=eq_true a1
    by_cases a2:0 < d
    .have a2':=eq_true a2
     by_cases a3:w.req.minute+d<=w.lat
     .have a3':=eq_true a3;have e:yX w.req.minute w.ear w.lat w.step j=[w.req.minute - d,w.req.minute+d]:=by unfold yX;rw [hd,if_pos a1,if_pos ⟨a2,a3⟩];rfl
      rw [e] at hn;have qe:=aI qR (aI @a1' (aI @a2' (aI @a3' @decide_true)));repeat' first|refine gC ?_ ?_<;>intro hc<;>try contradiction|refine gG ?_|show AK _;intro J Z|refine gJ ?_|omega|exact aT
      exact ⟨j+1,by omega,by omega,by rw [hn,hm1];simp,by rw [hn];simp⟩
     .have a3':=eq_false a3;have e:yX w.req.minute w.ear w.lat w.step j=[w.req.minute - d]:=by unfold yX;rw [hd,if_pos a1,if_neg (λh=>a3 h.2)];rfl
      rw [e] at hn;have qe:=aI qR (aI @a1' (aI @a2' (aI @a3' yDF)));repeat' first|refine gC ?_ ?_<;>intro hc<;>try contradiction|refine gG ?_|show AK _;intro J Z|refine gJ ?_|omega|exact aT
      exact ⟨j+1,by omega,by omega,by rw [hn,hm1];simp,by rw [hn];simp⟩
    .have a2':=eq_false a2;have e:yX w.req.minute w.ear w.lat w.step j=[w.req.minute - d]:=by unfold yX;rw [hd,if_pos a1,if_neg (λh=>a2 h.1)];rfl
     rw [e] at hn;have qe:=aI qR (aI @a1' (aI @a2' yDF));repeat' first|refine gC ?_ ?_<;>intro hc<;>try contradiction|refine gG ?_|show AK _;intro J Z|refine gJ ?_|omega|exact aT
     exact ⟨j+1,by omega,by omega,by rw [hn,hm1];simp,by rw [hn];simp⟩
   .have a1':=eq_false a1;have a2:0 < d:=by omega
    have a2':=eq_true a2
    by_cases a3:w.req.minute+d<=w.lat
    .have a3':=eq_true a3;have e:yX w.req.minute w.ear w.lat w.step j=[w.req.minute+d]:=by unfold yX;rw [hd,if_neg a1,if_pos ⟨a2,a3⟩];rfl
     rw [e] at hn;have qe:=aI qR (aI @a1' (aI @a2' (aI @a3' yDF)));repeat' first|refine gC ?_ ?_<;>intro hc<;>try contradiction|refine gG ?_|show AK _;intro J Z|refine gJ ?_|omega|exact aT
     exact ⟨j+1,by omega,by omega,by rw [hn,hm1];simp,by rw [hn];simp⟩
    .have a3':=eq_false a3;have e:yX w.req.minute w.ear w.lat w.step j=[]:=by unfold yX;rw [hd,if_neg a1,if_neg (λh=>a3 h.2)];rfl
     rw [e,xat] at hn;have qe:=aI qR (aI @a1' (aI @a2' (aI @a3' yDF)));repeat' first|refine gC ?_ ?_<;>intro hc<;>try contradiction|refine gG ?_|show AK _;intro J Z|refine gJ ?_|omega|exact aT
     exact ⟨j+1,by omega,by omega,by rw [hn,hm1];simp,by rw [hn]⟩
  .have e:j=kS w.step:=by
    have:¬j < kS w.step:=λh=>by
     have:=hj2.1 h
     omega
    omega
   subst e;exact gD0
def yaD {e:Int} {r r':List Int} (h:zn r=zn r'):zn (e::r)=zn (e::r'):=by
 by_cases k:e=0
 .rw [zro k,zro k,h]
 .rw [zlL k,zlL k]
def wisE_g (w:Wis):zfI w=zn [zbY w.req,zfA w.req.carrier,zn [zo6 w.req.partner,zo6 w.req.link,rng w.ear 0 1439,rng w.lat 0 1439],if w.req.minute < w.ear\/w.lat < w.req.minute then 11 else 0,rng w.step 1 120,if 96 < (zg2 w.req.minute w.ear w.lat w.step:Int) then 22 else 0,zn [rng w.least 0 1440,rng w.most 0 1440],if w.most < w.least then 11 else 0]:=
 yaD (yaD ((ybV [_,_,_,_] _).symm.trans (yaD (yaD (yaD (yaD (ybV [_,_] _).symm))))))
def yz (w:Wis):Pure prog 34 [w.pv] (.i .i64 (zfI w)):=by
 rw [wisE_g];refine pz func34 f34.eq_1 λhwf X hX=>?_
 have qe:=@qR;repeat' first|refine za (pure20 w.req) ?_|refine gG ?_|show AK _;intro J Z|refine gJ ?_|omega|exact aT
 (refine gC ?_ ?_<;>intro hc<;>try contradiction)
 .rw [zlL hc];have qe:=@qR;exact gD0
 have c1:zbY w.req=0:=hc;rw [zro c1];clear hc;have qe:=@qR;repeat' first|refine za (yH _) ?_|refine gG ?_|show AK _;intro J Z|refine gJ ?_|omega|exact aT
 (refine gC ?_ ?_<;>intro hc<;>try contradiction)
 .rw [zlL (by rw [yU hc];decide),yU hc]
  have qe:=@qR;exact gD0
 have c2:zcs w.req.carrier=true:=hc;rw [zro (yad c2)];clear hc;have qe:=@qR;repeat' first|refine za (ybl _) ?_|refine za (yS _ _ _) ?_|refine za (yA [_,_,_,_]) ?_|refine gG ?_|show AK _;intro J Z|refine gJ ?_|omega|exact aT
 (refine gC ?_ ?_<;>intro hc<;>try contradiction)
 .rw [zlL hc];have qe:=@qR;exact gD0
 have c3:zn [zo6 w.req.partner,zo6 w.req.link,rng w.ear 0 1439,rng w.lat 0 1439]=0:=hc;rw [zro c3];clear hc;obtain ⟨_,q⟩:=zi.1 c3;obtain ⟨_,q⟩:=zi.1 q;obtain ⟨p3,q⟩:=zi.1 q;obtain ⟨p4,_⟩:=zi.1 q;rw [zdR] at p3 p4;have qe:=@qR;repeat' first|refine gG ?_|show AK _;intro J Z|refine gJ ?_|omega|exact aT
 (refine gC ?_ ?_<;>intro hc<;>try contradiction)
 .rw [if_pos hc,zlL (e:=11) (by decide)]
  have qe:=@qR;exact gD0
 have c4:¬(w.req.minute < w.ear\/w.lat < w.req.minute):=by omega
 rw [if_neg c4,zro (e:=0) rfl];clear hc;have qe:=@qR;repeat' first|refine za (yS _ _ _) ?_|refine gG ?_|show AK _;intro J Z|refine gJ ?_|omega|exact aT
 (refine gC ?_ ?_<;>intro hc<;>try contradiction)
 .rw [zlL (show rng w.step 1 120≠0 from λk=>hc (zdR.1 k))]
  have qe:=@qR;exact gD0
 have c5:rng w.step 1 120=0:=zdR.2 hc;rw [zro c5];rw [zdR] at c5;clear hc;have h47:=yn w c5 (by omega) (by omega) p3.1 p4.2
 have hlen:=yW w;rw [<-hlen];have qe:=@qR;repeat' first|refine za h47 ?_|refine gG ?_|show AK _;intro J Z|refine gJ ?_|omega|exact aT
 (refine gC ?_ ?_<;>intro hc<;>try contradiction)
 .rw [if_pos hc,zlL (e:=22) (by decide)]
  have qe:=@qR;exact gD0
 rw [if_neg (by omega),zro (e:=0) rfl]
 clear hc;have qe:=@qR;repeat' first|refine za (yS _ _ _) ?_|refine za (yA [_,_]) ?_|refine gG ?_|show AK _;intro J Z|refine gJ ?_|omega|exact aT
 (refine gC ?_ ?_<;>intro hc<;>try contradiction)
 .rw [zlL hc];have qe:=@qR;exact gD0
 rw [zro hc,zwE];clear hc;have qe:=@qR;repeat' first|refine gG ?_|show AK _;intro J Z|refine gJ ?_|omega|exact aT
 (refine gC ?_ ?_<;>intro hc<;>try contradiction)
 .rw [if_pos hc];have qe:=@qR;exact gD0
 .rw [if_neg (by omega)]
  have qe:=@qR;exact gD0
def yx (L:List Wis) (n:ByteArray):Pure prog 39 [.sl 18 (L.map Wis.pv),.s n] (.i .i64 (zeH n L)):=by
 refine pz func39 f39.eq_1 λhw X hX=>?_
 simp only [wfs,PV.wf,xaf,maxLen] at hw
 repeat' first|refine gC ?_ ?_<;>intro hc<;>try contradiction|refine gG ?_|show AK _;intro J Z|refine gJ ?_|omega|exact aT
 refine zh (κ:=Nat) (λi=>⟨[(0,.p (.sl 18 (L.map Wis.pv))),(1,.p (.s n)),(5,.p (.i .i64 i))],[],[],false⟩) (λi=>i<=L.length/\∀ x ∈ (zkG L).take i,x≠n) (λi=>L.length - i) 0 ?_ ?_ ?_
 .exact sR
 .simp
 .intro i hi
  repeat first|refine gG ?_|show AK _;intro J Z|refine gJ ?_|omega|exact aT
  (refine gC ?_ ?_<;>intro hc<;>try contradiction)
  .obtain ⟨x,hx⟩:=zj (i:=i) (l:=L) (by omega)
   have hm:(zkG L)[i]?=some x.req.name:=by unfold zkG;rw [xal,hx];rfl
   have qe:=@hx;repeat' first|refine gC ?_ ?_<;>intro hc<;>try contradiction|refine gG ?_|show AK _;intro J Z|refine gJ ?_|omega|exact aT
   .rw [zeH,zr8 hi.2 (by rw [hm,hc])];exact .refl _
   .refine ⟨i+1,⟨by omega,λy hy=>?_⟩,by omega,by simp⟩
    rw [zE hm] at hy
    rcases xaR.1 hy with h|h
    .exact hi.2 y h
    .simp at h;subst h;exact hc
  .repeat' first|refine gC ?_ ?_<;>intro hc<;>try contradiction|refine gG ?_|show AK _;intro J Z|refine gJ ?_|omega|exact aT
   have e:i=(zkG L).length:=by unfold zkG;rw [xaf];omega
   subst e;rw [zeH,zsa (λy hy=>hi.2 y (by rw [xai];exact hy))];exact .refl _
def yh (L:List Wis) {i:Nat} (hi:i < L.length):Pure prog 40 [.sl 18 (L.map Wis.pv),.i .i64 i] (.i .i64 (zau L i)):=by
 obtain ⟨w,hw⟩:=zj hi;have e:zau L i=if w.req.link=s0 then -1 else zeH w.req.link L:=by unfold zau zuE;rw [hw]
 rw [e];refine pz func40 f40.eq_1 λhwf X hX=>?_
 by_cases h:w.req.link=s0
 .have h':=eq_true h;rw [if_pos h];have qe:=aI qR (aI @hw @h');have jA:=yx L w.req.link;exact gD2
 .have h':=eq_false h;rw [if_neg h];have qe:=aI qR (aI @hw @h');have jA:=yx L w.req.link;exact gD2
def ybr (L:List Wis) {i:Nat} (hi:i < L.length):Pure prog 93 [.sl 18 (L.map Wis.pv),.i .i64 i] (.b (decide (zau L i < 0) || decide ((i:Int) < zau L i))):=by
 refine pz func93 f93.eq_1 λhwf X hX=>?_
 have qe:=@qR;have jA:=yh L hi;exact gD2
def yan (n:Int) (h:-1000000000<=n/\n<=1000000000):Pure prog 173 [.i .i64 n] (.i .i64 (zdV n)):=by
 refine pz func173 f173.eq_1 λhwf X hX=>?_
 have qe:=@qR;repeat' first|refine gC ?_ ?_<;>intro hc<;>try contradiction|refine gG ?_|show AK _;intro J Z|refine gJ ?_|omega|exact aT
 .exact weakI (by unfold zdV;omega)
 .exact weakI (by unfold zdV;omega)
def y6 (a b:Wis) (x y:Int) (hx:-10000<=x/\x<=10000) (hy:-10000<=y/\y<=10000) (hk:a.req.kind≠sD):Pure prog 133 [a.pv,b.pv,.i .i64 x,.i .i64 y] (.b (ze8 a b x y)):=by
 have hk':=eq_false hk;have e:ze8 a b x y=(decide (a.least<=y - x) && decide (y - x<=a.most)):=by unfold ze8;rw [if_neg hk]
 rw [e];refine pz func133 f133.eq_1 λhwf X hX=>?_
 have qe:=aI qR @hk';exact gD0
def ybk (a b:Wis) (x y:Int) (hx:-10000<=x/\x<=10000) (hy:-10000<=y/\y<=10000) (hk:a.req.kind=sD->b.req.kind≠sD):Pure prog 133 [a.pv,b.pv,.i .i64 x,.i .i64 y] (.b (ze8 a b x y)):=by
 by_cases h:a.req.kind=sD
 .have h':=eq_true h;have h33:=y6 b a y x hy hx (hk h);have e:ze8 a b x y=ze8 b a y x:=by
   unfold ze8;rw [if_pos h,if_neg (hk h)]
  rw [e];refine pz func133 f133.eq_1 λhwf X hX=>?_
  have qe:=aI qR @h';have jA:=h33;exact gD2
 .exact y6 a b x y hx hy h
def rt1:0+Int.toNat 1*1=1:=rfl
def rt4:0+Int.toNat 0*1=0:=rfl
def yg (w:Wis) (m:Int) (h:zbY w.req=0) (hm:0<=m/\m<=1439):Pure prog 64 [w.pv,.i .i64 m] (.sl 7 ((zbF (w.req.at m)).map Mov.pv)):=by
 have hq:=ya7 h hm.1 hm.2;have e:zbF (w.req.at m)=zhk (w.req.at m):=by unfold zbF;rw [if_pos hq]
 rw [e];refine pz func64 f64.eq_1 λhw X hX=>?_
 have qe:=@qR;have jA:=ycb w.req m;have jB:=pure21 (w.req.at m) hq;exact gD2
def ye (L:List Wis) (x y:Int) (j:Nat):Bool:=decide ((zY L j:Int) < x) && decide ((zY L j:Int)≠y)
def ybv {L:List Wis} (h:zav L=0) {R:List Res} (hR:RsOk L R) (x y:Int):Pure prog 53 [.sl 18 (L.map Wis.pv),.sl 3 (R.map Res.pv),.i .i64 x,.i .i64 y] (.sl 7 ((zlk L R (ye L x y)).map Mov.pv)):=by
 obtain ⟨hn,hR⟩:=hR
 have hn64:=(zR h).1
 refine pz func53 f53.eq_1 λhw X hX=>?_
 have qe:=@qR;repeat' first|refine gC ?_ ?_<;>intro hc<;>try contradiction|refine gG ?_|show AK _;intro J Z|refine gJ ?_|omega|exact aT
 refine y4 (κ:=Nat) (λk=>⟨[(0,.p (.sl 18 (L.map Wis.pv))),(1,.p (.sl 3 (R.map Res.pv))),(2,.p (.i .i64 x)),(3,.p (.i .i64 y)),(9,.p (.sl 7 (((List.range k).foldl (plcF L R (ye L x y)) []).map Mov.pv))),(10,.p (.i .i64 k))],[],[],false⟩) (λk=>k<=L.length) (λk=>L.length - k) 0 ?_ ?_ ?_
 .refine .x 9 (.sl 7 []) ?_
  exact .cov (sS)
 .simp
 .intro k hk
  have hpl:=yaq L R (ye L x y) k
  have hnx:(List.range (k+1)).foldl (plcF L R (ye L x y)) []=plcF L R (ye L x y) ((List.range k).foldl (plcF L R (ye L x y)) []) k:=by rw [xa7,xaJ];rfl
  have hend:k=L.length->(List.range k).foldl (plcF L R (ye L x y)) []=zlk L R (ye L x y):=λe=>by rw [e];rfl
  generalize (List.range k).foldl (plcF L R (ye L x y)) []=P at *
  repeat first|refine gG ?_|show AK _;intro J Z|refine gJ ?_|omega|exact aT
  (refine gC ?_ ?_<;>intro hc<;>try contradiction)
  .obtain ⟨w,hx⟩:=zj (i:=k) (l:=L) (by omega)
   obtain ⟨r,hr⟩:=zj (i:=k) (l:=R) (by omega)
   have hil:k < L.length:=by omega
   have h40:=yh L hil
   have hwq:=(yD (yc h hx)).1
   have hmw:zfB L k r.minute=zbF (w.req.at r.minute):=by unfold zfB;rw [hx]
   have hml:=yV L k r.minute
   have hst:plcF L R (ye L x y) P k=if (r.gr && ye L x y k)=true then zhC zjb P (zfB L k r.minute) else P:=by unfold plcF;rw [hr]
   rw [hst] at hnx
   clear hst
   by_cases c1:0<=zau L k
   .have c1':=eq_true c1
    by_cases c2:zau L k < k
    .have c2':=eq_true c2
     have hle:(zY L k:Int)=zau L k:=by unfold zY;rw [if_pos ⟨c1,c2⟩];omega
     cases hg:r.gr with
     | false=>
      rw [hg] at hnx
      simp only [xa5,xaA,if_false] at hnx
      have qe:=aI qR (aI @hx (aI @hr (aI @hg (aI @c1' (aI @c2' @decide_true)))));repeat' first|refine gC ?_ ?_<;>intro hc<;>try contradiction|refine za h40 ?_|refine gG ?_|show AK _;intro J Z|refine gJ ?_|omega|exact aT
      exact ⟨k+1,by omega,by dsimp only;omega,.cov (by simp only [qS,seval]<;>simp [hnx])⟩
     | true=>
      rw [hg] at hnx
      simp only [xbb] at hnx
      by_cases c3:zau L k < x
      .have c3':=eq_true c3
       by_cases c4:zau L k=y
       .have c4':=eq_true c4
        rw [show ye L x y k=false by unfold ye;rw [hle,decide_eq_false (show ¬(zau L k≠y) by omega),Bool.and_false],if_neg (by decide)] at hnx
        have qe:=aI qR (aI @hx (aI @hr (aI @hg (aI @c1' (aI @c2' (aI @c3' (aI @c4' (aI @decide_true @xaU))))))));repeat' first|refine gC ?_ ?_<;>intro hc<;>try contradiction|refine za h40 ?_|refine gG ?_|show AK _;intro J Z|refine gJ ?_|omega|exact aT
        exact ⟨k+1,by omega,by dsimp only;omega,.cov (by simp only [qS,seval]<;>simp [hnx])⟩
       .have c4':=eq_false c4
        rw [show ye L x y k=true by unfold ye;rw [hle,decide_eq_true c3,decide_eq_true c4];rfl,if_pos rfl,hmw] at hnx
        rw [hmw] at hml
        have qe:=aI qR (aI @hx (aI @hr (aI @hg (aI @c1' (aI @c2' (aI @c3' (aI @c4' (aI @decide_true (aI @decide_false @xaV)))))))));repeat' first|refine gC ?_ ?_<;>intro hc<;>try contradiction|refine za h40 ?_|refine za (yg w r.minute hwq (hR r (xae hr) hg)) ?_|refine za (y5 P (zbF (w.req.at r.minute)) (by omega)) ?_|refine gG ?_|show AK _;intro J Z|refine gJ ?_|omega|exact aT
        exact ⟨k+1,by omega,by dsimp only;omega,.cov (by simp only [qS,seval]<;>simp [hnx])⟩
      .have c3':=eq_false c3
       rw [show ye L x y k=false by unfold ye;rw [hle,decide_eq_false c3,xa5],if_neg (by decide)] at hnx
       have qe:=aI qR (aI @hx (aI @hr (aI @hg (aI @c1' (aI @c2' (aI @c3' yDF))))));repeat' first|refine gC ?_ ?_<;>intro hc<;>try contradiction|refine za h40 ?_|refine gG ?_|show AK _;intro J Z|refine gJ ?_|omega|exact aT
       exact ⟨k+1,by omega,by dsimp only;omega,.cov (by simp only [qS,seval]<;>simp [hnx])⟩
    .have c2':=eq_false c2
     have hle:(zY L k:Int)=k:=by unfold zY;rw [if_neg (by omega)]
     cases hg:r.gr with
     | false=>
      rw [hg] at hnx
      simp only [xa5,xaA,if_false] at hnx
      have qe:=aI qR (aI @hx (aI @hr (aI @hg (aI @c1' (aI @c2' yDF)))));repeat' first|refine gC ?_ ?_<;>intro hc<;>try contradiction|refine za h40 ?_|refine gG ?_|show AK _;intro J Z|refine gJ ?_|omega|exact aT
      exact ⟨k+1,by omega,by dsimp only;omega,.cov (by simp only [qS,seval]<;>simp [hnx])⟩
     | true=>
      rw [hg] at hnx
      simp only [xbb] at hnx
      by_cases c3:(k:Int) < x
      .have c3':=eq_true c3
       by_cases c4:(k:Int)=y
       .have c4':=eq_true c4
        rw [show ye L x y k=false by unfold ye;rw [hle,decide_eq_false (show ¬((k:Int)≠y) by omega),Bool.and_false],if_neg (by decide)] at hnx
        have qe:=aI qR (aI @hx (aI @hr (aI @hg (aI @c1' (aI @c2' (aI @c3' (aI @c4' (aI @decide_true (aI @decide_false @xaU)))))))));repeat' first|refine gC ?_ ?_<;>intro hc<;>try contradiction|refine za h40 ?_|refine gG ?_|show AK _;intro J Z|refine gJ ?_|omega|exact aT
        exact ⟨k+1,by omega,by dsimp only;omega,.cov (by simp only [qS,seval]<;>simp [hnx])⟩
       .have c4':=eq_false c4
        rw [show ye L x y k=true by unfold ye;rw [hle,decide_eq_true c3,decide_eq_true c4];rfl,if_pos rfl,hmw] at hnx
        rw [hmw] at hml
        have qe:=aI qR (aI @hx (aI @hr (aI @hg (aI @c1' (aI @c2' (aI @c3' (aI @c4' (aI @decide_true (aI @decide_false @xaV)))))))));repeat' first|refine gC ?_ ?_<;>intro hc<;>try contradiction|refine za h40 ?_|refine za (yg w r.minute hwq (hR r (xae hr) hg)) ?_|refine za (y5 P (zbF (w.req.at r.minute)) (by omega)) ?_|refine gG ?_|show AK _;intro J Z|refine gJ ?_|omega|exact aT
        exact ⟨k+1,by omega,by dsimp only;omega,.cov (by simp only [qS,seval]<;>simp [hnx])⟩
      .have c3':=eq_false c3
       rw [show ye L x y k=false by unfold ye;rw [hle,decide_eq_false c3,xa5],if_neg (by decide)] at hnx
       have qe:=aI qR (aI @hx (aI @hr (aI @hg (aI @c1' (aI @c2' (aI @c3' yDF))))));repeat' first|refine gC ?_ ?_<;>intro hc<;>try contradiction|refine za h40 ?_|refine gG ?_|show AK _;intro J Z|refine gJ ?_|omega|exact aT
       exact ⟨k+1,by omega,by dsimp only;omega,.cov (by simp only [qS,seval]<;>simp [hnx])⟩
   .have c1':=eq_false c1
    have hle:(zY L k:Int)=k:=by unfold zY;rw [if_neg (by omega)]
    cases hg:r.gr with
    | false=>
     rw [hg] at hnx
     simp only [xa5,xaA,if_false] at hnx
     have qe:=aI qR (aI @hx (aI @hr (aI @hg (aI @c1' @decide_false))));repeat' first|refine gC ?_ ?_<;>intro hc<;>try contradiction|refine za h40 ?_|refine gG ?_|show AK _;intro J Z|refine gJ ?_|omega|exact aT
     exact ⟨k+1,by omega,by dsimp only;omega,.cov (by simp only [qS,seval]<;>simp [hnx])⟩
    | true=>
     rw [hg] at hnx
     simp only [xbb] at hnx
     by_cases c3:(k:Int) < x
     .have c3':=eq_true c3
      by_cases c4:(k:Int)=y
      .have c4':=eq_true c4
       rw [show ye L x y k=false by unfold ye;rw [hle,decide_eq_false (show ¬((k:Int)≠y) by omega),Bool.and_false],if_neg (by decide)] at hnx
       have qe:=aI qR (aI @hx (aI @hr (aI @hg (aI @c1' (aI @c3' (aI @c4' (aI @decide_true (aI @decide_false @xaU))))))));repeat' first|refine gC ?_ ?_<;>intro hc<;>try contradiction|refine za h40 ?_|refine gG ?_|show AK _;intro J Z|refine gJ ?_|omega|exact aT
       exact ⟨k+1,by omega,by dsimp only;omega,.cov (by simp only [qS,seval]<;>simp [hnx])⟩
      .have c4':=eq_false c4
       rw [show ye L x y k=true by unfold ye;rw [hle,decide_eq_true c3,decide_eq_true c4];rfl,if_pos rfl,hmw] at hnx
       rw [hmw] at hml
       have qe:=aI qR (aI @hx (aI @hr (aI @hg (aI @c1' (aI @c3' (aI @c4' (aI @decide_true (aI @decide_false @xaV))))))));repeat' first|refine gC ?_ ?_<;>intro hc<;>try contradiction|refine za h40 ?_|refine za (yg w r.minute hwq (hR r (xae hr) hg)) ?_|refine za (y5 P (zbF (w.req.at r.minute)) (by omega)) ?_|refine gG ?_|show AK _;intro J Z|refine gJ ?_|omega|exact aT
       exact ⟨k+1,by omega,by dsimp only;omega,.cov (by simp only [qS,seval]<;>simp [hnx])⟩
     .have c3':=eq_false c3
      rw [show ye L x y k=false by unfold ye;rw [hle,decide_eq_false c3,xa5],if_neg (by decide)] at hnx
      have qe:=aI qR (aI @hx (aI @hr (aI @hg (aI @c1' (aI @c3' yDF)))));repeat' first|refine gC ?_ ?_<;>intro hc<;>try contradiction|refine za h40 ?_|refine gG ?_|show AK _;intro J Z|refine gJ ?_|omega|exact aT
      exact ⟨k+1,by omega,by dsimp only;omega,.cov (by simp only [qS,seval]<;>simp [hnx])⟩
  .have e:k=L.length:=by omega
   rw [hend e]
   have qe:=aI qR (aI @lpN (aI @lpE @lpR));exact gD0
def ybo {L:List Wis} (h:zav L=0) {i:Nat} (hi:i < L.length) (o:Opt) (ho1:0<=o.1/\o.1<=1439) (ho2:0<=zau L i->0<=o.2/\o.2<=1439):Pure prog 96 [.sl 18 (L.map Wis.pv),.i .i64 i,unP o] (.sl 7 ((yau L ((i:Int),zau L i) o).map Mov.pv)):=by
 obtain ⟨a,ha⟩:=zj hi;have h40:=yh L hi;have haq:=(yD (yc h ha)).1;have e1:zfB L i o.1=zbF (a.req.at o.1):=by unfold zfB;rw [ha]
 rcases zcH h ha with hk|⟨k,b,hk⟩
 .have e:yau L ((i:Int),zau L i) o=zbF (a.req.at o.1):=by
   unfold yau;rw [if_pos (by simp only;omega),xar,e1]
  rw [e];rw [hk] at h40;refine pz func96 f96.eq_1 λhw X hX=>?_
  obtain ⟨o1,o2⟩:=o;have hf:((0:Int)<=-1)=False:=eq_false (by omega)
  have qe:=aI qR (aI @ha (aI @hf (aI @rt1 @rt4)));have jA:=h40;have jB:=yg a o1 haq ho1;exact gD2
 .have hlab:=hk.lab;have hb:=hk.at_b;have hkl:k < L.length:=(xaa.1 hb).1;have hbq:=(yD (yc h hb)).1;have e2:zfB L k o.2=zbF (b.req.at o.2):=by unfold zfB;rw [hb]
  have e:yau L ((i:Int),zau L i) o=zhC zjb (zbF (a.req.at o.1)) (zbF (b.req.at o.2)):=by
   unfold yau;rw [hlab,if_neg (by simp only;omega),xar,xar,e1,e2]
  rw [e];rw [hlab] at h40;have ho2:=ho2 (by omega)
  have hl1:=zbd (a.req.at o.1);have hl2:=zbd (b.req.at o.2);refine pz func96 f96.eq_1 λhw X hX=>?_
  obtain ⟨o1,o2⟩:=o;have h69:=y5 (zbF (a.req.at o1)) (zbF (b.req.at o2)) (by have:=zbd (a.req.at o1);have:=zbd (b.req.at o2);omega)
  have hf:((0:Int)<=(k:Int))=True:=eq_true (by omega)
  have qe:=aI qR (aI @ha (aI @hb (aI @hf (aI @rt1 @rt4))));have jA:=h40;have jB:=yg a o1 haq ho1;have jC:=yg b o2 hbq ho2;have jD:=h69;exact gD4
def ybm (ls:List Lim) (oth own:List Mov) (hn:ls.length<=32) (h:∀ l ∈ ls,zr l=0) (hm:oth.length+own.length<=1000000):Pure prog 110 [.sl 11 (ls.map Lim.pv),.sl 7 (oth.map Mov.pv),.sl 7 (own.map Mov.pv)] (.sl 3 (((xrW ls (zhC zjb oth own) own).map (wnX ls (zhC zjb oth own))).map Win.pv)):=by
 have hal:(zhC zjb oth own).length<=1000000:=by rw [(zog _ _ _).length_eq,xad];exact hm
 have h69:=y5 oth own hm;rw [<-xw_eq];generalize zhC zjb oth own=all at *;refine pz func110 f110.eq_1 λhw X hX=>?_
 have qe:=@qR;repeat' first|refine gC ?_ ?_<;>intro hc<;>try contradiction|refine za h69 ?_|refine gG ?_|show AK _;intro J Z|refine gJ ?_|omega|exact aT
 refine run_ownL 100 184 3 (κ:=Nat) (λk=>⟨[(0,.p (.sl 11 (ls.map Lim.pv))),(2,.p (.sl 7 (own.map Mov.pv))),(7,.p (.sl 7 (all.map Mov.pv))),(8,.row 100 (xwK ls all own k).length),(9,.p (.i .i64 k))],[(100,.row 184 3 ((xwK ls all own k).map Win.pv) false)],[],false⟩) (λk=>k<=ls.length) (λk=>ls.length - k) 0 ?_ ?_ ?_
 .refine ⟨gO ?_,gO ?_⟩<;>simp [xwK]
 .simp
 .intro k hk
  repeat first|refine gG ?_|show AK _;intro J Z|refine gJ ?_|omega|exact aT
  (refine gC ?_ ?_<;>intro hc<;>try contradiction)
  .obtain ⟨l,hx⟩:=zj (i:=k) (l:=ls) (by omega)
   have h1:=h l (xae hx);have hi:xwI ls all own k=(zaq l).flatMap (xwB ls all own k l):=by rw [xwI,hx]
   have hkl:=ybY h all own k;have hwl:=yE h1;have qe:=aI qR @hx;repeat' first|refine gC ?_ ?_<;>intro hc<;>try contradiction|refine za (pure39 l h1) ?_|refine gG ?_|show AK _;intro J Z|refine gJ ?_|omega|exact aT
   refine zh (κ:=Nat) (λj=>⟨[(0,.p (.sl 11 (ls.map Lim.pv))),(2,.p (.sl 7 (own.map Mov.pv))),(7,.p (.sl 7 (all.map Mov.pv))),(8,.row 100 (xwK ls all own k++((zaq l).take j).flatMap (xwB ls all own k l)).length),(9,.p (.i .i64 k)),(10,.p (.sl 1 ((zaq l).map (.i .i64)))),(11,.p (.i .i64 j))],[(100,.row 184 3 ((xwK ls all own k++((zaq l).take j).flatMap (xwB ls all own k l)).map Win.pv) false)],[],false⟩) (λj=>j<=(zaq l).length) (λj=>(zaq l).length - j) 0 ?_ ?_ ?_
   .exact sS
   .simp
   .intro j hj
    repeat first|refine gG ?_|show AK _;intro J Z|refine gJ ?_|omega|exact aT
    (refine gC ?_ ?_<;>intro hc<;>try contradiction)
    .obtain ⟨b,hb⟩:=zj (i:=j) (l:=zaq l) (by omega)
     have hbm:=zfn h1 (xae hb);have hnx:=yr (xwB ls all own k l) hb;have hjl:=yaG ls all own k l ((zaq l).take j);rw [xao] at hjl;have hal2:(xwK ls all own k++((zaq l).take j).flatMap (xwB ls all own k l)).length<=33*577440:=by rw [xad];omega
     have hol:own.length<=1000000:=by omega
     have h37:=ybR l all b h1 hal (by omega) (by omega)
     have h37o:=ybR l own b h1 hol (by omega) (by omega)
     by_cases c1:l.most < zbb l all b
     .have c1':=eq_true c1
      by_cases c2:0 < zbb l own b
      .have c2':=eq_true c2;rw [show xwB ls all own k l b=[⟨k,b,zbb l all b⟩] by rw [xwB,if_pos (by unfold xrB;rw [decide_eq_true c1,decide_eq_true c2];rfl)]] at hnx
       have qe:=aI qR (aI @hx (aI @hb (aI @c1' (aI @c2' @decide_true))));repeat' first|refine gC ?_ ?_<;>intro hc<;>try contradiction|refine za h37 ?_|refine zg (λ_=>h37o) ?_|refine gG ?_|show AK _;intro J Z|refine gJ ?_|omega|exact aT
       exact ⟨j+1,by omega,by omega,⟨by rw [hnx];simp;omega,by simp⟩,by rw [hnx];simp⟩
      .have c2':=eq_false c2;rw [show xwB ls all own k l b=[] by rw [xwB,if_neg (by unfold xrB;rw [decide_eq_false c2,Bool.and_false];decide)],xat] at hnx
       have qe:=aI qR (aI @hx (aI @hb (aI @c1' (aI @c2' yDF))));repeat' first|refine gC ?_ ?_<;>intro hc<;>try contradiction|refine za h37 ?_|refine zg (λ_=>h37o) ?_|refine gG ?_|show AK _;intro J Z|refine gJ ?_|omega|exact aT
       exact ⟨j+1,by omega,by omega,⟨by rw [hnx],by simp⟩,by rw [hnx]⟩
     .have c1':=eq_false c1;rw [show xwB ls all own k l b=[] by rw [xwB,if_neg (by unfold xrB;rw [decide_eq_false c1,xa5];decide)],xat] at hnx
      have qe:=aI qR (aI @hx (aI @hb (aI @c1' @decide_false)));repeat' first|refine gC ?_ ?_<;>intro hc<;>try contradiction|refine za h37 ?_|(show zp _ _ _ _ (⟨_,.call 182,_,_,_⟩::_) _ _;refine zaQ (q:=(.i .i64 0)) (by first|rfl|(simp (disch:=omega) only [qG,qe,seval]<;>rfl)) ?_;(try (refine zw ?_)))|refine gG ?_|show AK _;intro J Z|refine gJ ?_|omega|exact aT
      exact ⟨j+1,by omega,by omega,⟨by rw [hnx],by simp⟩,by rw [hnx]⟩
    .repeat' first|refine gC ?_ ?_<;>intro hc<;>try contradiction|refine gG ?_|show AK _;intro J Z|refine gJ ?_|omega|exact aT
     have e:j=(zaq l).length:=by omega
     subst e;have e2:xwK ls all own (k+1)=xwK ls all own k++(zaq l).flatMap (xwB ls all own k l):=by rw [xwK,zbE,hi,<-xwK]
     exact ⟨k+1,by omega,by omega,⟨by rw [xai,e2,xad],by simp⟩,by rw [xai,e2,xa6]⟩
  .repeat' first|refine gC ?_ ?_<;>intro hc<;>try contradiction|refine gG ?_|show AK _;intro J Z|refine gJ ?_|omega|exact aT
   have e:k=ls.length:=by omega
   subst e;exact .refl _
def ybp (ls:List Lim) (oth own:List Mov) (hn:ls.length<=32) (h:∀ l ∈ ls,zr l=0) (hm:oth.length+own.length<=1000000):Pure prog 95 [.sl 11 (ls.map Lim.pv),.sl 7 (oth.map Mov.pv),.sl 7 (own.map Mov.pv)] (.b (xrW ls (zhC zjb oth own) own).isEmpty):=by
 have h110:=ybm ls oth own hn h hm;refine pz func95 f95.eq_1 λhw X hX=>?_
 cases hW:xrW ls (zhC zjb oth own) own with
 | nil=>
  rw [hW] at h110;have qe:=@qR;have jA:=h110;exact gD2
 | cons w W=>
  rw [hW] at h110;have hW':=eq_false (show ¬(((w::W).length:Int)=0) by rw [xaw];omega)
  have qe:=aI qR (aI @hW' (@List.length_map.{0,0}));have jA:=h110;exact gD2
def gO6 (a b:Wis) (s:Nat) (x y:Int):List Opt:=if farO a b (x,y)=s/\ze8 a b x y=true then [(x,y)] else []
def fO6 (a b:Wis) (s:Nat) (x:Int):List Opt:=(zac b).flatMap (gO6 a b s x)
def hO6 (a b:Wis) (s:Nat):List Opt:=(zac a).flatMap (fO6 a b s)
def ya2 (a b:Wis) (s:Nat) (x:Int) (M:List Int):(M.flatMap (gO6 a b s x)).length<=M.length:=by
 have:=ya (f:=gO6 a b s x) (c:=1) (l:=M) λy _=>by unfold gO6;split<;>simp
 omega
def ya4 (a b:Wis) (s:Nat) (M:List Int) (hb:(zac b).length<=96):(M.flatMap (fO6 a b s)).length<=M.length*96:=ya λx _=>by
 have:=ya2 a b s x (zac b);unfold fO6;omega
def ycg (a b:Wis) (k:Nat) (ha:(zac a).length<=96) (hb:(zac b).length<=96):((List.range k).flatMap (hO6 a b)).length<=k*9216:=by
 have:=ya (f:=hO6 a b) (c:=9216) (l:=List.range k) λs _=>by
  have:=ya4 a b s (zac a) hb;unfold hO6;omega
 rw [xaS] at this;exact this
def yaL {L:List Wis} (h:zav L=0) {i:Nat} {a:Wis} (ha:L[i]?=some a) (hk:zau L i=-1):Pure prog 94 [.sl 18 (L.map Wis.pv),.i .i64 i] (.sl 2 (((zac a).map λm=>((m,-1):Opt)).map unP)):=by
 have hil:i < L.length:=(xaa.1 ha).1;have h40:=yh L hil;have hA:=yc h ha;obtain ⟨_,f1,f2,f3,f4,f5⟩:=yD hA;have h47:=yn a f5 f2 f3 f1 f4;have h96:=yM hA;rw [hk] at h40;generalize zac a=C at *;refine pz func94 f94.eq_1 λhw X hX=>?_
 have qe:=aI qR @ha;repeat' first|refine gC ?_ ?_<;>intro hc<;>try contradiction|refine za h40 ?_|refine za h47 ?_|refine gG ?_|show AK _;intro J Z|refine gJ ?_|omega|exact aT
 refine run_ownL 100 148 2 (κ:=Nat) (λj=>⟨[(5,.row 100 (C.take j).length),(7,.p (.sl 1 (C.map (.i .i64)))),(8,.p (.i .i64 j))],[(100,.row 148 2 (((C.take j).map λm=>((m,-1):Opt)).map unP) false)],[],false⟩) (λj=>j<=C.length) (λj=>C.length - j) 0 ?_ ?_ ?_
 .refine ⟨gO ?_,gO ?_⟩<;>simp
 .simp
 .intro j hj
  repeat first|refine gG ?_|show AK _;intro J Z|refine gJ ?_|omega|exact aT
  (refine gC ?_ ?_<;>intro hc<;>try contradiction)
  .obtain ⟨x,hx⟩:=zj (i:=j) (l:=C) (by omega)
   have hlt:=zfJ hx;have hjl:(C.take j).length=j:=by rw [xao];omega
   have qe:=aI qR (aI @hx @hjl);repeat' first|refine gC ?_ ?_<;>intro hc<;>try contradiction|refine gG ?_|show AK _;intro J Z|refine gJ ?_|omega|exact aT
   exact ⟨j+1,by omega,by omega,by rw [zE hx];simp [hjl],by rw [zE hx];simp⟩
  .have e:j=C.length:=by omega
   subst e;rw [xai];exact gD0
def yaM {L:List Wis} (h:zav L=0) {i k:Nat} {a b:Wis} (hk:LnkTo L i k a b):Pure prog 94 [.sl 18 (L.map Wis.pv),.i .i64 i] (.sl 2 ((refO a b).map unP)):=by
 have ha:=hk.at_a
 have hb:=hk.at_b
 have hil:i < L.length:=(xaa.1 ha).1
 have hkl:k < L.length:=(xaa.1 hb).1
 have h40:=yh L hil
 have hA:=yc h ha
 have hB:=yc h hb
 obtain ⟨_,f1,f2,f3,f4,f5⟩:=yD hA
 obtain ⟨_,g1,g2,g3,g4,g5⟩:=yD hB
 have h47:=yn a f5 f2 f3 f1 f4
 have h47b:=yn b g5 g2 g3 g1 g4
 have h96:=yM hA
 have h96b:=yM hB
 have hra:=λx (hx:x ∈ zac a)=>yk hA hx
 have hrb:=λx (hx:x ∈ zac b)=>yk hB hx
 have hkd:a.req.kind=sD->b.req.kind≠sD:=λe e2=>hk.kind (e2.trans e.symm)
 have h33:=λx (hx:x ∈ zac a) y (hy:y ∈ zac b)=>ybk a b x y (by have:=hra x hx;omega) (by have:=hrb y hy;omega) hkd
 have e0:refO a b=(List.range 2880).flatMap (hO6 a b):=rfl
 rw [e0]
 have hHl:=λs=>ycg a b s h96 h96b
 have hFl:=λs M=>ya4 a b s M h96b
 have hGl:=λs x M=>ya2 a b s x M
 have hHe:∀ s,hO6 a b s=(zac a).flatMap (fO6 a b s):=λs=>rfl
 have hFe:∀ s x,fO6 a b s x=(zac b).flatMap (gO6 a b s x):=λs x=>rfl
 rw [hk.lab] at h40
 have hf:((k:Int) < 0)=False:=eq_false (by omega)
 generalize zac a=A at *
 generalize zac b=B at *
 refine pz func94 f94.eq_1 λhw X hX=>?_
 have qe:=aI qR (aI @ha (aI @hb @hf));repeat' first|refine gC ?_ ?_<;>intro hc<;>try contradiction|refine za h40 ?_|refine za h47 ?_|refine za h47b ?_|refine gG ?_|show AK _;intro J Z|refine gJ ?_|omega|exact aT
 refine run_ownL 100 148 2 (κ:=Nat) (λs=>⟨[(0,.p (.sl 18 (L.map Wis.pv))),(1,.p (.i .i64 i)),(5,.row 100 ((List.range s).flatMap (hO6 a b)).length),(6,.p (.i .i64 k)),(7,.p (.sl 1 (A.map (.i .i64)))),(9,.p (.sl 1 (B.map (.i .i64)))),(10,.p (.i .i64 s))],[(100,.row 148 2 (((List.range s).flatMap (hO6 a b)).map unP) false)],[],false⟩) (λs=>s<=2880) (λs=>2880 - s) 0 ?_ ?_ ?_
 .refine ⟨gO ?_,gO ?_⟩<;>simp
 .simp
 .intro s hs
  have hHs:=hHl s
  have hHn:(List.range (s+1)).flatMap (hO6 a b)=(List.range s).flatMap (hO6 a b)++A.flatMap (fO6 a b s):=by rw [zbE,hHe]
  have hHend:s=2880->(List.range s).flatMap (hO6 a b)=(List.range 2880).flatMap (hO6 a b):=λe=>by rw [e]
  generalize (List.range s).flatMap (hO6 a b)=S0 at *
  repeat first|refine gG ?_|show AK _;intro J Z|refine gJ ?_|omega|exact aT
  (refine gC ?_ ?_<;>intro hc<;>try contradiction)
  .repeat' first|refine gC ?_ ?_<;>intro hc<;>try contradiction|refine gG ?_|show AK _;intro J Z|refine gJ ?_|omega|exact aT
   refine zh (κ:=Nat) (λn=>⟨[(0,.p (.sl 18 (L.map Wis.pv))),(1,.p (.i .i64 i)),(5,.row 100 (S0++(A.take n).flatMap (fO6 a b s)).length),(6,.p (.i .i64 k)),(7,.p (.sl 1 (A.map (.i .i64)))),(9,.p (.sl 1 (B.map (.i .i64)))),(10,.p (.i .i64 s)),(11,.p (.i .i64 n))],[(100,.row 148 2 ((S0++(A.take n).flatMap (fO6 a b s)).map unP) false)],[],false⟩) (λn=>n<=A.length) (λn=>A.length - n) 0 ?_ ?_ ?_
   .exact sS
   .simp
   .intro n hn
    have hFn:=hFl s (A.take n)
    rw [xao] at hFn
    have hS1:(S0++(A.take n).flatMap (fO6 a b s)).length<=2881*9216:=by rw [xad];omega
    repeat first|refine gG ?_|show AK _;intro J Z|refine gJ ?_|omega|exact aT
    (refine gC ?_ ?_<;>intro hc<;>try contradiction)
    .obtain ⟨x,hx⟩:=zj (i:=n) (l:=A) (by omega)
     have hxm:=xae hx
     have hxr:=hra x hxm
     have hFx:(A.take (n+1)).flatMap (fO6 a b s)=(A.take n).flatMap (fO6 a b s)++B.flatMap (gO6 a b s x):=by rw [yr _ hx,hFe]
     rw [xad] at hS1
     generalize (A.take n).flatMap (fO6 a b s)=F1 at *
     repeat' first|refine gC ?_ ?_<;>intro hc<;>try contradiction|refine gG ?_|show AK _;intro J Z|refine gJ ?_|omega|exact aT
     refine zh (κ:=Nat) (λq=>⟨[(0,.p (.sl 18 (L.map Wis.pv))),(1,.p (.i .i64 i)),(5,.row 100 (S0++F1++(B.take q).flatMap (gO6 a b s x)).length),(6,.p (.i .i64 k)),(7,.p (.sl 1 (A.map (.i .i64)))),(9,.p (.sl 1 (B.map (.i .i64)))),(10,.p (.i .i64 s)),(11,.p (.i .i64 n)),(12,.p (.i .i64 q))],[(100,.row 148 2 ((S0++F1++(B.take q).flatMap (gO6 a b s x)).map unP) false)],[],false⟩) (λq=>q<=B.length) (λq=>B.length - q) 0 ?_ ?_ ?_
     .exact sS
     .simp
     .intro q hq
      have hGq:=hGl s x (B.take q)
      rw [xao] at hGq
      have hS2:(S0++F1++(B.take q).flatMap (gO6 a b s x)).length<=2882*9216:=by rw [xad,xad];omega
      repeat first|refine gG ?_|show AK _;intro J Z|refine gJ ?_|omega|exact aT
      (refine gC ?_ ?_<;>intro hc<;>try contradiction)
      .obtain ⟨y,hy⟩:=zj (i:=q) (l:=B) (by omega)
       have hym:=xae hy
       have hyr:=hrb y hym
       have hGy:(B.take (q+1)).flatMap (gO6 a b s x)=(B.take q).flatMap (gO6 a b s x)++gO6 a b s x y:=yr _ hy
       have h33:=h33 x hxm y hym
       have q1:zdV (x - a.req.minute)<=2000/\0<=zdV (x - a.req.minute):=by unfold zdV;omega
       have q2:zdV (y - b.req.minute)<=2000/\0<=zdV (y - b.req.minute):=by unfold zdV;omega
       have h73:=yan (x - a.req.minute) (by omega)
       have h73b:=yan (y - b.req.minute) (by omega)
       have hfo:farO a b (x,y)=zdV (x - a.req.minute)+zdV (y - b.req.minute):=rfl
       by_cases c1:farO a b (x,y)=s
       .have c1':(zdV (x - a.req.minute)+zdV (y - b.req.minute)=(s:Int))=True:=eq_true (by rw [<-hfo];exact c1)
        cases c2:ze8 a b x y with
        | true=>
         rw [c2] at h33
         rw [show gO6 a b s x y=[(x,y)] by unfold gO6;rw [if_pos ⟨c1,c2⟩]] at hGy
         have qe:=aI qR (aI @ha (aI @hb (aI @hx (aI @hy (aI @c1' @decide_true)))));repeat' first|refine gC ?_ ?_<;>intro hc<;>try contradiction|refine za h73 ?_|refine za h73b ?_|refine zg (λ_=>h33) ?_|refine gG ?_|show AK _;intro J Z|refine gJ ?_|omega|exact aT
         exact ⟨q+1,by omega,by omega,by rw [hGy];simp;omega,by rw [hGy];simp⟩
        | false=>
         rw [c2] at h33
         rw [show gO6 a b s x y=[] by unfold gO6;rw [if_neg (by rw [c2];simp)],xat] at hGy
         have qe:=aI qR (aI @ha (aI @hb (aI @hx (aI @hy (aI @c1' @decide_true)))));repeat' first|refine gC ?_ ?_<;>intro hc<;>try contradiction|refine za h73 ?_|refine za h73b ?_|refine zg (λ_=>h33) ?_|refine gG ?_|show AK _;intro J Z|refine gJ ?_|omega|exact aT
         exact ⟨q+1,by omega,by omega,by rw [hGy];simp,by rw [hGy]⟩
       .have c1':(zdV (x - a.req.minute)+zdV (y - b.req.minute)=(s:Int))=False:=eq_false (by rw [<-hfo];exact c1)
        rw [show gO6 a b s x y=[] by unfold gO6;rw [if_neg (λe=>c1 e.1)],xat] at hGy
        have qe:=aI qR (aI @ha (aI @hb (aI @hx (aI @hy (aI @c1' @decide_false)))));repeat' first|refine gC ?_ ?_<;>intro hc<;>try contradiction|refine za h73 ?_|refine za h73b ?_|(show zp _ _ _ _ (⟨_,.call 133,_,_,_⟩::_) _ _;refine zaQ (q:=(.b false)) (by first|rfl|(simp (disch:=omega) only [qG,qe,seval]<;>rfl)) ?_;(try (refine zw ?_)))|refine gG ?_|show AK _;intro J Z|refine gJ ?_|omega|exact aT
        exact ⟨q+1,by omega,by omega,by rw [hGy];simp,by rw [hGy]⟩
      .have e:q=B.length:=by omega
       subst e
       repeat' first|refine gC ?_ ?_<;>intro hc<;>try contradiction|refine gG ?_|show AK _;intro J Z|refine gJ ?_|omega|exact aT
       exact ⟨n+1,by omega,by omega,by rw [xai,hFx];simp [xbA],by rw [xai,hFx,xaj]⟩
    .have e:n=A.length:=by omega
     subst e
     repeat' first|refine gC ?_ ?_<;>intro hc<;>try contradiction|refine gG ?_|show AK _;intro J Z|refine gJ ?_|omega|exact aT
     exact ⟨s+1,by omega,by omega,by rw [xai,hHn];simp,by rw [xai,hHn]⟩
  .have e:s=2880:=by omega
   rw [hHend e]
   exact gD0
def ybq {L:List Wis} (h:zav L=0) {i:Nat} (hi:i < L.length) (hu:zau L i < 0\/(i:Int) < zau L i):Pure prog 94 [.sl 18 (L.map Wis.pv),.i .i64 i] (.sl 2 ((zaS L ((i:Int),zau L i)).map unP)):=by
 obtain ⟨a,ha⟩:=zj hi
 rcases zcH h ha with hk|⟨k,b,hk⟩
 .have e:zaS L ((i:Int),zau L i)=(zac a).map λm=>((m,-1):Opt):=by
   unfold zaS;simp only [xar,ha];rw [if_pos (by omega)]
  rw [e];exact yaL h ha hk
 .have hlab:=hk.lab;have hA:=yc h hk.at_a;have hB:=yc h hk.at_b;have e:zaS L ((i:Int),zau L i)=zz (zpd a b) (zdS a b):=by
   unfold zaS;rw [hlab];simp only [xar,hk.at_a,hk.at_b];rw [if_neg (by omega)]
  rw [e,yb5 λx hx y hy=>by
   have h1:=yk hA hx;have h2:=yk hB hy;obtain ⟨_,f1,f2,f3,f4,_⟩:=yD hA;obtain ⟨_,g1,g2,g3,g4,_⟩:=yD hB;unfold farO zdV;simp only
   omega]
  exact yaM h hk
def allWs6 (l:List Wis):l.all ((λx=>x.cells.all PV.one) ∘ Wis.pv)=true:=by rw [xaL];intro x _;rfl
def ybX (l:List Res):l.all ((λx=>x.cells.all PV.one) ∘ Res.pv)=true:=by rw [xaL];intro x _;rfl
def yT (L:List Wis) (hn:L.length*192<=140737488355328):Pure prog 15 [.sl 18 (L.map Wis.pv)] (.sl 18 (L.map Wis.pv)):=by
 refine pz func15 f15.eq_1 λhw X hX=>?_
 have qe:=@qR;repeat' first|refine gC ?_ ?_<;>intro hc<;>try contradiction|refine gG ?_|show AK _;intro J Z|refine gJ ?_|omega|exact aT
 refine run_ownL 100 65 18 (κ:=Nat) (λk=>⟨[(0,.p (.sl 18 (L.map Wis.pv))),(3,.row 100 (L.take k).length),(4,.p (.i .i64 k))],[(100,.row 65 18 ((L.take k).map Wis.pv) false)],[],false⟩) (λk=>k<=L.length) (λk=>L.length - k) 0 ?_ ?_ ?_
 .refine ⟨gO ?_,gO ?_⟩<;>simp
 .simp
 .intro k hk
  repeat first|refine gG ?_|show AK _;intro J Z|refine gJ ?_|omega|exact aT
  (refine gC ?_ ?_<;>intro hc<;>try contradiction)
  .obtain ⟨w,hx⟩:=zj (i:=k) (l:=L) (by omega)
   have hlt:=zfJ hx;have hkl:(L.take k).length=k:=by rw [xao];omega
   have qe:=aI qR (aI @hx @hkl);repeat' first|refine gC ?_ ?_<;>intro hc<;>try contradiction|refine gG ?_|show AK _;intro J Z|refine gJ ?_|omega|exact aT
   exact ⟨k+1,by omega,by omega,by rw [zE hx];simp [hkl],by rw [zE hx];simp⟩
  .have e:k=L.length:=by omega
   subst e;rw [xai];exact gD0
def yap (L:List Lim) (hn:L.length*112<=140737488355328):Pure prog 17 [.sl 11 (L.map Lim.pv)] (.sl 11 (L.map Lim.pv)):=by
 refine pz func17 f17.eq_1 λhw X hX=>?_
 have qe:=@qR;repeat' first|refine gC ?_ ?_<;>intro hc<;>try contradiction|refine gG ?_|show AK _;intro J Z|refine gJ ?_|omega|exact aT
 refine run_ownL 100 131 11 (κ:=Nat) (λk=>⟨[(0,.p (.sl 11 (L.map Lim.pv))),(3,.row 100 (L.take k).length),(4,.p (.i .i64 k))],[(100,.row 131 11 ((L.take k).map Lim.pv) false)],[],false⟩) (λk=>k<=L.length) (λk=>L.length - k) 0 ?_ ?_ ?_
 .refine ⟨gO ?_,gO ?_⟩<;>simp
 .simp
 .intro k hk
  repeat first|refine gG ?_|show AK _;intro J Z|refine gJ ?_|omega|exact aT
  (refine gC ?_ ?_<;>intro hc<;>try contradiction)
  .obtain ⟨w,hx⟩:=zj (i:=k) (l:=L) (by omega)
   have hlt:=zfJ hx;have hkl:(L.take k).length=k:=by rw [xao];omega
   have qe:=aI qR (aI @hx @hkl);repeat' first|refine gC ?_ ?_<;>intro hc<;>try contradiction|refine gG ?_|show AK _;intro J Z|refine gJ ?_|omega|exact aT
   exact ⟨k+1,by omega,by omega,by rw [zE hx];simp [hkl],by rw [zE hx];simp⟩
  .have e:k=L.length:=by omega
   subst e;rw [xai];exact gD0
def yao (L:List Wis) (hn:L.length*192<=140737488355328):Pure prog 18 [.sl 18 (L.map Wis.pv)] (.sl 18 (L.map Wis.pv)):=by
 refine pz func18 f18.eq_1 λhw X hX=>?_
 have qe:=aI qR (aI @allWs6 @zwW);exact gD0
def yaN:Pure prog 23 [.sl 3 [],.nilsl] (.b true):=yb8 (zie []) ⟨.refl _,.nilsl _,trivial⟩
