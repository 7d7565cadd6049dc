/- Contracts. No conditions. -/
import Derived.Test.YtbgckikhhcbmpaaGreatG0
set_option linter.all false
set_option maxHeartbeats 8000000
set_option maxRecDepth 100000
namespace Go.Proofs.YtbgckikhhcbmpaaGreat
open Go.RowKit Go.Proofs.Tryz
variable {b m:Int} {l:Lim} {H:List ByteArray} {ls:List Lim} {P:List Mov} {R:List Res} {L:List Wis} {i j k n:Nat} {o:Opt} {a w:Wis}
def kS (s:Int):Nat:=(1439 / s+1).toNat
def kS_lt {s:Int} (hs:1<=s) (j:Nat):j < kS s↔(j:Int)*s < 1440:=by
 have h3:0<=1439 / s:=xbh (by omega) (by omega)
 have h4:=Int.le_ediv_iff_mul_le (a:=(j:Int)) (b:=1439) (c:=s) (by omega)
 unfold kS
 constructor
 .intro h;have:=h4.1 (by omega)
  omega
 .intro h;have:=h4.2 (by omega)
  omega
def canW_R (hs:1<=w.step) (h1:w.ear<=w.req.minute) (h2:w.req.minute<=w.lat) (he:0<=w.ear) (hl:w.lat<=1439):zac w=yay w.req.minute w.ear w.lat w.step (kS w.step):=
 can_eq hs h1 h2 he hl (by
  have:=kS_lt hs (kS w.step)
  omega)
def y5 (w:Wis):(zac w).length=zg2 w.req.minute w.ear w.lat w.step:=by
 unfold zac;rw [(zhs _ _).length_eq];unfold zkM;rw [xaf,xaU]
def ycn (m e l s:Int) (j:Nat):(y6 m e l s j).length<=2:=by
 unfold y6
 split<;>split<;>simp
def ycm (m e l s:Int) (K:Nat):(yay m e l s K).length<=2*K:=by
 unfold yay;have:=yf (f:=y6 m e l s) (c:=2) (l:=List.range K) λj _=>ycn m e l s j
 rw [xaU] at this;omega
def ybB (m e l s:Int) (K:Nat):yay m e l s (K+1)=yay m e l s K++y6 m e l s K:=zbE _ _
def yce (h:L[i]?=some w):zeH w.req.name L < i↔0<=zeH w.req.name (L.take i):=by
 have hm:(zkG L)[i]?=some w.req.name:=by unfold zkG;rw [xal,h];rfl
 unfold zeH;have e:zkG (L.take i)=(zkG L).take i:=by unfold zkG;rw [xbK]
 rw [e];generalize zkG L=M at *;generalize w.req.name=n at *;have key:∀ (M:List ByteArray) (i:Nat),M[i]?=some n->(atL n M < i↔0<=atL n (M.take i)):=by
  intro M
  induction M with
  | nil=>intro i hi;simp at hi
  | cons x M ih=>
   intro i hi;cases i with
   | zero=>
    have:-1<=atL n ([]:List ByteArray):=zr9 n [];simp at hi;subst hi;simp [atL]
   | succ i=>
    have hi':M[i]?=some n:=by simpa using hi
    have ih:=ih i hi';rw [xa3]
    by_cases hx:x=n
    .simp [atL,hx]
    .have h1:=zr9 n M;have h2:=zr9 n (M.take i);have h3:0<=atL n M:=(zg5 n M).2 (xae hi')
     by_cases h0:0<=atL n (M.take i)
     .simp [atL,hx];omega
     .simp [atL,hx];omega
 exact key M i hm
def yan (h:zfI w=0):zbY w.req=0/\0<=w.ear/\w.ear<=w.req.minute/\w.req.minute<=w.lat/\w.lat<=1439/\1<=w.step/\w.step<=120:=by
 have h1:=zjq (zcC h).1;obtain ⟨a1,a2,a3,a4,a5,a6,a7⟩:=h1;exact ⟨a1,by omega,by omega,by omega,by omega,by omega,by omega⟩
def yK (h:zfI w=0) (hm:m ∈ zac w):0<=m/\m<=1439:=by
 obtain ⟨_,h1,h2,h3,h4,h5,_⟩:=yan h;have:=(zvF h5 h2 h3).1 ((zhs _ _).mem_iff.1 hm)
 omega
def ydl (h:zfI w=0):(zac w).length<=96:=by
 rw [y5];unfold zfI at h
 iterate 8 obtain ⟨_,h⟩:=zi.1 h
 obtain ⟨h,_⟩:=zi.1 h
 by_cases k:96 < (zg2 w.req.minute w.ear w.lat w.step:Int)
 .rw [if_pos k] at h;cases h
 .omega
def yN (h:zav L=0) (ha:L[i]?=some a):zfI a=0:=by
 have:=((zR h).2 i a ha).1;unfold zcB at this;exact (zi.1 this).1
def ybl (L:List Wis) (i:Nat) (m:Int):(zfB L i m).length<=401:=by
 unfold zfB
 split
 .exact zbd _
 .simp
def yaK (L:List Wis) (R:List Res) (f:Nat->Bool):∀ c,((List.range c).foldl (plcF L R f) []).length<=401*c:=by
 intro c
 induction c with
 | zero=>simp
 | succ c ih=>
  rw [xbd,xaP,xbn,xbI];unfold plcF
  split
  .rename_i r hr
   split
   .rw [(zog _ _ _).length_eq,xad];have:=ybl L c r.minute;unfold plcF at ih
    omega
   .unfold plcF at ih;omega
  .unfold plcF at ih;omega
def RsOk (L:List Wis) (R:List Res):Prop:=R.length=L.length/\∀ r ∈ R,r.gr=true->0<=r.minute/\r.minute<=1439
def ycP (h:zav L=0) (hr:zc8 L R=0):RsOk L R:=by
 obtain ⟨hn,hE,_⟩:=zbZ hr;refine ⟨hn,λr hm hg=>?_⟩
 obtain ⟨i,hi⟩:=xbl.1 hm;obtain ⟨w,hw⟩:=zj (l:=L) (i:=i) (by have:=(xaa.1 hi).1;omega)
 have h1:=hE i w hw;have e:za5 R i=r:=by unfold za5;rw [hi];rfl
 rw [e] at h1;exact yK (yN h hw) ((zdz h1).2.1 hg)
def yX (l:List Int):Pure prog 19 [.sl 1 (l.map (.i .i64))] (.i .i64 (zn l)):=by
 refine pz func19 f19.eq_1 λhw X hX=>?_
 simp only [wfs,PV.wf,xaf,maxLen] at hw;refine gE2 ?_;refine zh (κ:=Nat) (λi=>⟨[(0,.p (.sl 1 (l.map (.i .i64)))),(3,.p (.i .i64 i))],[],[],false⟩) (λi=>i<=l.length/\∀ x ∈ l.take i,x=0) (λi=>l.length - i) 0 ?_ ?_ ?_
 .exact sR
 .simp
 .intro i hi;refine gH (λhc=>?_) λhc=>?_
  .obtain ⟨x,hx⟩:=zj (i:=i) (l:=l) (by omega)
   have qe:=@hx;refine gF2 (λhc=>?_) λhc=>?_
   .rw [zbr hi.2 hx hc];exact .refl _
   .exact ⟨i+1,⟨by omega,zb0 hi.2 hx hc⟩,by omega,by simp⟩
  .refine gE2 ?_;have e:i=l.length:=by omega
   subst e;rw [zbj hi.2];exact .refl _
def ybR (s:ByteArray):Pure prog 116 [.s s] (.i .i64 (zo6 s)):=by
 refine pz func116 f116.eq_1 λhw X hX=>?_
 by_cases h1:s=s0
 .have h1':=eq_true h1;have e:zo6 s=0:=yaM (.inl h1);rw [e];have qe:=aI qR (aI @h1' @xaC);have jA:=yG s;exact gD2
 .have h1':=eq_false h1;cases h2:zcs s with
  | true=>
   have h70:=yG s;rw [h2] at h70;have e:zo6 s=0:=yaM (.inr h2);rw [e];have qe:=aI qR (aI @h1' (aI @xax @xaC));have jA:=h70;exact gD2
  | false=>
   have h70:=yG s;rw [h2] at h70;have e:zo6 s=8:=ybj ⟨h1,h2⟩;rw [e];have qe:=aI qR (aI @h1' @xax);have jA:=h70;exact gD2
def yU (n a b:Int):Pure prog 117 [.i .i64 n,.i .i64 a,.i .i64 b] (.i .i64 (rng n a b)):=by
 refine pz func117 f117.eq_1 λhw X hX=>?_
 refine gF2 (λhc=>?_) λhc=>?_
 .rw [ycR (by omega)];exact .refl _
 .rw [zdR.2 (by omega)];exact .refl _
def yt (w:Wis) (hs:1<=w.step/\w.step<=120) (h1:w.ear<=w.req.minute) (h2:w.req.minute<=w.lat) (he:0<=w.ear) (hl:w.lat<=1439):Pure prog 47 [w.pv] (.sl 1 ((zac w).map (.i .i64))):=by
 rw [canW_R hs.1 h1 h2 he hl];have hk:=kS_lt hs.1;have hkb:∀ j:Nat,(j:Int)<=j*w.step:=λj=>by
  have:=Int.mul_le_mul_of_nonneg_left hs.1 (show (0:Int)<=j by omega)
  omega
 refine pz func47 f47.eq_1 λhw X hX=>?_
 have qe:=@qR;refine gE2 ?_;refine run_ownL 100 3 1 (κ:=Nat) (λj=>⟨[(1,.lp 1 0),(3,.row 100 (yay w.req.minute w.ear w.lat w.step j).length),(4,.p (.i .i64 (j*w.step)))],[(1,.box (w.cells.map .p) false),(100,.row 3 1 ((yay w.req.minute w.ear w.lat w.step j).map (.i .i64)) false)],[],false⟩) (λj=>j<=kS w.step) (λj=>kS w.step - j) 0 ?_ ?_ ?_
 .refine ⟨gO ?_,gO ?_⟩<;>simp [yay]
 .simp
 .intro j hj;have hj2:=hk j;have hjb:=hkb j;have hn:=ybB w.req.minute w.ear w.lat w.step j;have hcl:=ycm w.req.minute w.ear w.lat w.step j;have hm1:((j+1:Nat):Int)*w.step=j*w.step+w.step:=by push_cast;rw [Int.add_mul];omega
  generalize hd:(j:Int)*w.step=d at *;refine gH (λhc=>?_) λhc=>?_
  .have hjk:j < kS w.step:=hj2.2 hc;have hd0:0<=d:=by omega
   by_cases a1:w.ear<=w.req.minute - d
   .have a1':=eq_true a1
    by_cases a2:0 < d
    .have a2':=eq_true a2
     by_cases a3:w.req.minute+d<=w.lat
     .have a3':=eq_true a3;have e:y6 w.req.minute w.ear w.lat w.step j=[w.req.minute - d,w.req.minute+d]:=by unfold y6;rw [hd,if_pos a1,if_pos ⟨a2,a3⟩];rfl
      rw [e] at hn;have qe:=aI qR (aI @a1' (aI @a2' (aI @a3' @decide_true)));refine gE2 ?_;exact ⟨j+1,by omega,by omega,by rw [hn,hm1];simp,by rw [hn];simp⟩
     .have a3':=eq_false a3;have e:y6 w.req.minute w.ear w.lat w.step j=[w.req.minute - d]:=by unfold y6;rw [hd,if_pos a1,if_neg (λh=>a3 h.2)];rfl
      rw [e] at hn;have qe:=aI qR (aI @a1' (aI @a2' (aI @a3' yDF)));refine gE2 ?_;exact ⟨j+1,by omega,by omega,by rw [hn,hm1];simp,by rw [hn];simp⟩
    .have a2':=eq_false a2;have e:y6 w.req.minute w.ear w.lat w.step j=[w.req.minute - d]:=by unfold y6;rw [hd,if_pos a1,if_neg (λh=>a2 h.1)];rfl
     rw [e] at hn;have qe:=aI qR (aI @a1' (aI @a2' yDF));refine gE2 ?_;exact ⟨j+1,by omega,by omega,by rw [hn,hm1];simp,by rw [hn];simp⟩
   .have a1':=eq_false a1;have a2:0 < d:=by omega
    have a2':=eq_true a2
    by_cases a3:w.req.minute+d<=w.lat
    .have a3':=eq_true a3;have e:y6 w.req.minute w.ear w.lat w.step j=[w.req.minute+d]:=by unfold y6;rw [hd,if_neg a1,if_pos ⟨a2,a3⟩];rfl
     rw [e] at hn;have qe:=aI qR (aI @a1' (aI @a2' (aI @a3' yDF)));refine gE2 ?_;exact ⟨j+1,by omega,by omega,by rw [hn,hm1];simp,by rw [hn];simp⟩
    .have a3':=eq_false a3;have e:y6 w.req.minute w.ear w.lat w.step j=[]:=by unfold y6;rw [hd,if_neg a1,if_neg (λh=>a3 h.2)];rfl
     rw [e,xar] at hn;have qe:=aI qR (aI @a1' (aI @a2' (aI @a3' yDF)));refine gE2 ?_;exact ⟨j+1,by omega,by omega,by rw [hn,hm1];simp,by rw [hn]⟩
  .have e:j=kS w.step:=by
    have:¬j < kS w.step:=λh=>by
     have:=hj2.1 h
     omega
    omega
   subst e;exact gD2
def ya0 {e:Int} {r r':List Int} (h:zn r=zn r'):zn (e::r)=zn (e::r'):=by
 by_cases k:e=0
 .rw [zro k,zro k,h]
 .rw [zlL k,zlL k]
def wisE_g (w:Wis):zfI w=zn [zbY w.req,zfA w.req.carrier,zn [zo6 w.req.partner,zo6 w.req.link,rng w.ear 0 1439,rng w.lat 0 1439],if w.req.minute < w.ear\/w.lat < w.req.minute then 11 else 0,rng w.step 1 120,if 96 < (zg2 w.req.minute w.ear w.lat w.step:Int) then 22 else 0,zn [rng w.least 0 1440,rng w.most 0 1440],if w.most < w.least then 11 else 0]:=
 ya0 (ya0 ((ycB [_,_,_,_] _).symm.trans (ya0 (ya0 (ya0 (ya0 (ycB [_,_] _).symm))))))
def yw (w:Wis):Pure prog 34 [w.pv] (.i .i64 (zfI w)):=by
 rw [wisE_g];refine pz func34 f34.eq_1 λhwf X hX=>?_
 have qe:=@qR;repeat' first|refine za (pure20 w.req) ?_|refine gG ?_|show AK _;intro J Z|refine gJ ?_|omega|exact aT
 (refine gC ?_ ?_<;>intro hc<;>try contradiction)
 .rw [zlL hc];have qe:=@qR;exact gD2
 have c1:zbY w.req=0:=hc;rw [zro c1];clear hc;have qe:=@qR;repeat' first|refine za (yG _) ?_|refine gG ?_|show AK _;intro J Z|refine gJ ?_|omega|exact aT
 (refine gC ?_ ?_<;>intro hc<;>try contradiction)
 .rw [zlL (by rw [yY hc];decide),yY hc]
  have qe:=@qR;exact gD2
 have c2:zcs w.req.carrier=true:=hc;rw [zro (yar c2)];clear hc;have qe:=@qR;repeat' first|refine za (ybR _) ?_|refine za (yU _ _ _) ?_|refine za (yX [_,_,_,_]) ?_|refine gG ?_|show AK _;intro J Z|refine gJ ?_|omega|exact aT
 (refine gC ?_ ?_<;>intro hc<;>try contradiction)
 .rw [zlL hc];have qe:=@qR;exact gD2
 have c3:zn [zo6 w.req.partner,zo6 w.req.link,rng w.ear 0 1439,rng w.lat 0 1439]=0:=hc;rw [zro c3];clear hc;obtain ⟨_,q⟩:=zi.1 c3;obtain ⟨_,q⟩:=zi.1 q;obtain ⟨p3,q⟩:=zi.1 q;obtain ⟨p4,_⟩:=zi.1 q;rw [zdR] at p3 p4;have qe:=@qR;repeat' first|refine gG ?_|show AK _;intro J Z|refine gJ ?_|omega|exact aT
 (refine gC ?_ ?_<;>intro hc<;>try contradiction)
 .rw [if_pos hc,zlL (e:=11) (by decide)]
  have qe:=@qR;exact gD2
 have c4:¬(w.req.minute < w.ear\/w.lat < w.req.minute):=by omega
 rw [if_neg c4,zro (e:=0) rfl];clear hc;have qe:=@qR;repeat' first|refine za (yU _ _ _) ?_|refine gG ?_|show AK _;intro J Z|refine gJ ?_|omega|exact aT
 (refine gC ?_ ?_<;>intro hc<;>try contradiction)
 .rw [zlL (show rng w.step 1 120≠0 from λk=>hc (zdR.1 k))]
  have qe:=@qR;exact gD2
 have c5:rng w.step 1 120=0:=zdR.2 hc;rw [zro c5];rw [zdR] at c5;clear hc;have h47:=yt w c5 (by omega) (by omega) p3.1 p4.2
 have hlen:=y5 w;rw [<-hlen];have qe:=@qR;repeat' first|refine za h47 ?_|refine gG ?_|show AK _;intro J Z|refine gJ ?_|omega|exact aT
 (refine gC ?_ ?_<;>intro hc<;>try contradiction)
 .rw [if_pos hc,zlL (e:=22) (by decide)]
  have qe:=@qR;exact gD2
 rw [if_neg (by omega),zro (e:=0) rfl]
 clear hc;have qe:=@qR;repeat' first|refine za (yU _ _ _) ?_|refine za (yX [_,_]) ?_|refine gG ?_|show AK _;intro J Z|refine gJ ?_|omega|exact aT
 (refine gC ?_ ?_<;>intro hc<;>try contradiction)
 .rw [zlL hc];have qe:=@qR;exact gD2
 rw [zro hc,zwE];clear hc;have qe:=@qR;repeat' first|refine gG ?_|show AK _;intro J Z|refine gJ ?_|omega|exact aT
 (refine gC ?_ ?_<;>intro hc<;>try contradiction)
 .rw [if_pos hc];have qe:=@qR;exact gD2
 .rw [if_neg (by omega)]
  have qe:=@qR;exact gD2
def yu (L:List Wis) (n:ByteArray):Pure prog 39 [.sl 18 (L.map Wis.pv),.s n] (.i .i64 (zeH n L)):=by
 refine pz func39 f39.eq_1 λhw X hX=>?_
 simp only [wfs,PV.wf,xaf,maxLen] at hw;refine gE2 ?_;refine zh (κ:=Nat) (λi=>⟨[(0,.p (.sl 18 (L.map Wis.pv))),(1,.p (.s n)),(5,.p (.i .i64 i))],[],[],false⟩) (λi=>i<=L.length/\∀ x ∈ (zkG L).take i,x≠n) (λi=>L.length - i) 0 ?_ ?_ ?_
 .exact sR
 .simp
 .intro i hi;refine gH (λhc=>?_) λhc=>?_
  .obtain ⟨x,hx⟩:=zj (i:=i) (l:=L) (by omega)
   have hm:(zkG L)[i]?=some x.req.name:=by unfold zkG;rw [xal,hx];rfl
   have qe:=@hx;refine gF2 (λhc=>?_) λhc=>?_
   .rw [zeH,zr8 hi.2 (by rw [hm,hc])];exact .refl _
   .refine ⟨i+1,⟨by omega,λy hy=>?_⟩,by omega,by simp⟩
    rw [zE hm] at hy
    rcases xaS.1 hy with h|h
    .exact hi.2 y h
    .simp at h;subst h;exact hc
  .refine gE2 ?_;have e:i=(zkG L).length:=by unfold zkG;rw [xaf];omega
   subst e;rw [zeH,zsa (λy hy=>hi.2 y (by rw [xah];exact hy))];exact .refl _
def yV (L:List Wis) (hi:i < L.length):Pure prog 40 [.sl 18 (L.map Wis.pv),.i .i64 i] (.i .i64 (zau L i)):=by
 obtain ⟨w,hw⟩:=zj hi;have e:zau L i=if w.req.link=s0 then -1 else zeH w.req.link L:=by unfold zau zuE;rw [hw]
 rw [e];refine pz func40 f40.eq_1 λhwf X hX=>?_
 by_cases h:w.req.link=s0
 .have h':=eq_true h;rw [if_pos h];have qe:=aI qR (aI @hw @h');have jA:=yu L w.req.link;exact gD2
 .have h':=eq_false h;rw [if_neg h];have qe:=aI qR (aI @hw @h');have jA:=yu L w.req.link;exact gD2
def yaf (a b:Wis) (x y:Int) (hx:-10000<=x/\x<=10000) (hy:-10000<=y/\y<=10000) (hk:a.req.kind≠sD):Pure prog 133 [a.pv,b.pv,.i .i64 x,.i .i64 y] (.b (ze8 a b x y)):=by
 have hk':=eq_false hk;have e:ze8 a b x y=(decide (a.least<=y - x) && decide (y - x<=a.most)):=by unfold ze8;rw [if_neg hk]
 rw [e];refine pz func133 f133.eq_1 λhwf X hX=>?_
 have qe:=aI qR @hk';exact gD2
def ybQ (a b:Wis) (x y:Int) (hx:-10000<=x/\x<=10000) (hy:-10000<=y/\y<=10000) (hk:a.req.kind=sD->b.req.kind≠sD):Pure prog 133 [a.pv,b.pv,.i .i64 x,.i .i64 y] (.b (ze8 a b x y)):=by
 by_cases h:a.req.kind=sD
 .have h':=eq_true h;have h33:=yaf b a y x hy hx (hk h);have e:ze8 a b x y=ze8 b a y x:=by
   unfold ze8;rw [if_pos h,if_neg (hk h)]
  rw [e];refine pz func133 f133.eq_1 λhwf X hX=>?_
  have qe:=aI qR @h';have jA:=h33;exact gD2
 .exact yaf a b x y hx hy h
def ybT (w:Wis) (m:Int) (h:zbY w.req=0) (hm:0<=m/\m<=1439):Pure prog 64 [w.pv,.i .i64 m] (.sl 7 ((zbF (w.req.at m)).map Mov.pv)):=by
 have hq:=yal h hm.1 hm.2;have e:zbF (w.req.at m)=zhk (w.req.at m):=by unfold zbF;rw [if_pos hq]
 rw [e];refine pz func64 f64.eq_1 λhw X hX=>?_
 have qe:=@qR;have jA:=ycZ w.req m;have jB:=pure21 (w.req.at m) hq;exact gD2
def yam (L:List Wis) (x y:Int) (j:Nat):Bool:=decide ((zY L j:Int) < x) && decide ((zY L j:Int)≠y)
def ybV (h:zav L=0) (hR:RsOk L R) (x y:Int):Pure prog 53 [.sl 18 (L.map Wis.pv),.sl 3 (R.map Res.pv),.i .i64 x,.i .i64 y] (.sl 7 ((zlk L R (yam L x y)).map Mov.pv)):=by
 obtain ⟨hn,hR⟩:=hR;have hn64:=(zR h).1;refine pz func53 f53.eq_1 λhw X hX=>?_
 have qe:=@qR;refine gE2 ?_;refine yae (κ:=Nat) (λk=>⟨[(0,.p (.sl 18 (L.map Wis.pv))),(1,.p (.sl 3 (R.map Res.pv))),(2,.p (.i .i64 x)),(3,.p (.i .i64 y)),(9,.p (.sl 7 (((List.range k).foldl (plcF L R (yam L x y)) []).map Mov.pv))),(10,.p (.i .i64 k))],[],[],false⟩) (λk=>k<=L.length) (λk=>L.length - k) 0 ?_ ?_ ?_
 .refine .x 9 (.sl 7 []) ?_;exact .cov (sS)
 .simp
 .intro k hk;have hpl:=yaK L R (yam L x y) k;have hnx:(List.range (k+1)).foldl (plcF L R (yam L x y)) []=plcF L R (yam L x y) ((List.range k).foldl (plcF L R (yam L x y)) []) k:=by rw [xbd,xaP];rfl
  have hend:k=L.length->(List.range k).foldl (plcF L R (yam L x y)) []=zlk L R (yam L x y):=λe=>by rw [e];rfl
  generalize (List.range k).foldl (plcF L R (yam L x y)) []=P at *;refine gH (λhc=>?_) λhc=>?_
  .obtain ⟨w,hx⟩:=zj (i:=k) (l:=L) (by omega)
   obtain ⟨r,hr⟩:=zj (i:=k) (l:=R) (by omega)
   have hil:k < L.length:=by omega
   have h40:=yV L hil;have hwq:=(yan (yN h hx)).1;have hmw:zfB L k r.minute=zbF (w.req.at r.minute):=by unfold zfB;rw [hx]
   have hml:=ybl L k r.minute;have hst:plcF L R (yam L x y) P k=if (r.gr && yam L x y k)=true then zhC zjb P (zfB L k r.minute) else P:=by unfold plcF;rw [hr]
   rw [hst] at hnx;clear hst;have qe:=@qR;repeat' first|refine za h40 ?_|refine gG ?_|show AK _;intro J Z|refine gJ ?_|omega|exact aT
   refine ycO ⟨[(0,.p (.sl 18 (L.map Wis.pv))),(1,.p (.sl 3 (R.map Res.pv))),(2,.p (.i .i64 x)),(3,.p (.i .i64 y)),(9,.p (.sl 7 (P.map Mov.pv))),(10,.p (.i .i64 k)),(12,.p (.i .i64 (zY L k)))],[],[],false⟩ ?_ ?_
   ·(refine gC ?_ ?_<;>intro hc<;>try contradiction)
    .have hle:(zY L k:Int)=zau L k:=by unfold zY;split<;>omega
     refine gE2 ?_
     all_goals (show Cov _ _;simp only [qS,seval]<;>simp [hle])
    .have hle:(zY L k:Int)=k:=by unfold zY;split<;>omega
     refine gE2 ?_
     all_goals (show Cov _ _;simp only [qS,seval]<;>simp [hle])
   cases hg:r.gr with
   | false=>
    rw [hg] at hnx;simp only [xa4,xaD,if_false] at hnx;have qe:=aI qR (aI @hx (aI @hr @hg));refine gE2 ?_;exact ⟨k+1,by omega,by dsimp only;omega,.cov (by simp only [qS,seval]<;>simp [hnx])⟩
   | true=>
    rw [hg] at hnx;simp only [xaZ,yam] at hnx
    by_cases c3:(zY L k:Int) < x
    .have c3':=eq_true c3
     by_cases c4:(zY L k:Int)=y
     .have c4':=eq_true c4;simp only [c3',c4',decide_true,ne_eq,not_true_eq_false,decide_false,Bool.and_false,xaD,if_false] at hnx;have qe:=aI qR (aI @hx (aI @hr (aI @hg (aI @c3' (aI @c4' (aI @decide_true @xaC))))));refine gE2 ?_;exact ⟨k+1,by omega,by dsimp only;omega,.cov (by simp only [qS,seval]<;>simp [hnx])⟩
     .have c4':=eq_false c4;simp only [c3',c4',decide_true,ne_eq,not_false_eq_true,Bool.and_self,if_true,hmw] at hnx;rw [hmw] at hml;have qe:=aI qR (aI @hx (aI @hr (aI @hg (aI @c3' (aI @c4' (aI @decide_true (aI @decide_false @xax)))))));have jA:=ybT w r.minute hwq (hR r (xae hr) hg);have jB:=pure69 P (zbF (w.req.at r.minute)) (by omega);refine gE2 ?_
      exact ⟨k+1,by omega,by dsimp only;omega,.cov (by simp only [qS,seval]<;>simp [hnx])⟩
    .have c3':=eq_false c3;simp only [c3',decide_false,xa4,xaD,if_false] at hnx;have qe:=aI qR (aI @hx (aI @hr (aI @hg (aI @c3' yDF))));refine gE2 ?_;exact ⟨k+1,by omega,by dsimp only;omega,.cov (by simp only [qS,seval]<;>simp [hnx])⟩
  .have e:k=L.length:=by omega
   rw [hend e];have qe:=aI qR (aI @lpN (aI @lpE @lpR));exact gD2
def allWs6 (l:List Wis):l.all ((λx=>x.cells.all PV.one) ∘ Wis.pv)=true:=by rw [xaO];intro x _;rfl
def allRs6 (l:List Res):l.all ((λx=>x.cells.all PV.one) ∘ Res.pv)=true:=by rw [xaO];intro x _;rfl
def yx (L:List Wis) (hn:L.length*192<=140737488355328):Pure prog 15 [.sl 18 (L.map Wis.pv)] (.sl 18 (L.map Wis.pv)):=by
 refine pz func15 f15.eq_1 λhw X hX=>?_
 have qe:=@qR;refine gE2 ?_;refine run_ownL 100 65 18 (κ:=Nat) (λk=>⟨[(0,.p (.sl 18 (L.map Wis.pv))),(3,.row 100 (L.take k).length),(4,.p (.i .i64 k))],[(100,.row 65 18 ((L.take k).map Wis.pv) false)],[],false⟩) (λk=>k<=L.length) (λk=>L.length - k) 0 ?_ ?_ ?_
 .refine ⟨gO ?_,gO ?_⟩<;>simp
 .simp
 .intro k hk;refine gH (λhc=>?_) λhc=>?_
  .obtain ⟨w,hx⟩:=zj (i:=k) (l:=L) (by omega)
   have hlt:=zfJ hx;have hkl:(L.take k).length=k:=by rw [xan];omega
   have qe:=aI qR (aI @hx @hkl);refine gE2 ?_;exact ⟨k+1,by omega,by omega,by rw [zE hx];simp [hkl],by rw [zE hx];simp⟩
  .have e:k=L.length:=by omega
   subst e;rw [xah];exact gD2
def yaH (L:List Lim) (hn:L.length*112<=140737488355328):Pure prog 17 [.sl 11 (L.map Lim.pv)] (.sl 11 (L.map Lim.pv)):=by
 refine pz func17 f17.eq_1 λhw X hX=>?_
 have qe:=@qR;refine gE2 ?_;refine run_ownL 100 131 11 (κ:=Nat) (λk=>⟨[(0,.p (.sl 11 (L.map Lim.pv))),(3,.row 100 (L.take k).length),(4,.p (.i .i64 k))],[(100,.row 131 11 ((L.take k).map Lim.pv) false)],[],false⟩) (λk=>k<=L.length) (λk=>L.length - k) 0 ?_ ?_ ?_
 .refine ⟨gO ?_,gO ?_⟩<;>simp
 .simp
 .intro k hk;refine gH (λhc=>?_) λhc=>?_
  .obtain ⟨w,hx⟩:=zj (i:=k) (l:=L) (by omega)
   have hlt:=zfJ hx;have hkl:(L.take k).length=k:=by rw [xan];omega
   have qe:=aI qR (aI @hx @hkl);refine gE2 ?_;exact ⟨k+1,by omega,by omega,by rw [zE hx];simp [hkl],by rw [zE hx];simp⟩
  .have e:k=L.length:=by omega
   subst e;rw [xah];exact gD2
def yaG (L:List Wis) (hn:L.length*192<=140737488355328):Pure prog 18 [.sl 18 (L.map Wis.pv)] (.sl 18 (L.map Wis.pv)):=by
 refine pz func18 f18.eq_1 λhw X hX=>?_
 have qe:=aI qR (aI @allWs6 @zwW);exact gD2
def yaF (L:List Res) (hn:L.length*32<=140737488355328):Pure prog 27 [.sl 3 (L.map Res.pv)] (.sl 3 (L.map Res.pv)):=by
 refine pz func27 f27.eq_1 λhw X hX=>?_
 have qe:=aI qR (aI @allRs6 @zwW);exact gD2
structure RsN (L:List Wis) (R:List Res):Prop where
 ok:RsOk L R
 nm:∀ i r,R[i]?=some r->r.name=nmW L i
def ycW {x:Int} (h1:j≠i) (h2:0<=x->j≠x.toNat):(zn9 R ((i:Int),x) o)[j]?=R[j]?:=by
 unfold zn9
 split
 .rw [xam,zgj _ h1]
 .rename_i hx;rw [zgj _ (h2 (by simp only at hx;omega)),xam,zgj _ h1]
def yE (ls:List Lim) (L:List Wis) (F:Unt->List Opt) (k:Nat):zh6 ls L F (k+1)=srvI ls L F (zh6 ls L F k) k:=by unfold zh6;rw [xbd,xaP];rfl
def yad (h:zav L=0) (F:Unt->List Opt) (hk:k < L.length) (hj:zY L j≠k):(zh6 ls L F (k+1))[j]?=(zh6 ls L F k)[j]?:=by
 rw [yE];unfold srvI
 split
 .rename_i hu
  split
  .refine ycW (λe=>hj (by rw [e];exact zj4 hu)) λh0 e=>?_
   obtain ⟨a,ha⟩:=zj hk
   rcases zcH h ha with h1|⟨c,b,hc⟩
   .omega
   .have hl:=hc.lab;rw [hl,xam] at e;exact hj (by rw [e];exact zqW hc (by omega))
  .rfl
 .rfl
theorem yh (h:zav L=0) (F:Unt->List Opt):∀ d,zY L j+1+d<=L.length->(zh6 ls L F (zY L j+1+d))[j]?=(zh6 ls L F (zY L j+1))[j]?
 | 0,_=>rfl
 | d+1,hd=>by
  rw [show zY L j+1+(d+1)=(zY L j+1+d)+1 by omega,yad h F (by omega) (by omega)]
  exact yh h F d (by omega)
theorem yO (h:zav L=0) (F:Unt->List Opt):∀ k,k<=zY L j->k<=L.length->(zh6 ls L F k)[j]?=(zbU L)[j]?
 | 0,_,_=>rfl
 | k+1,hk,hn=>by
  rw [yad h F (by omega) (by omega)]
  exact yO h F k (by omega) (by omega)
def y3 (L:List Wis) (j:Nat):zY L j<=j:=by unfold zY;split<;>omega
def ybv (ls:List Lim) (L:List Wis) (F:Unt->List Opt) (i:Nat):Option Opt:=(F ((i:Int),zau L i)).find? (fitX ls L (zbL L (zh6 ls L F i) λj=>decide (zY L j < i)) ((i:Int),zau L i))
def ycd (L:List Wis) (j i:Nat):Option Opt->Res
 | some o=>⟨nmW L j,if j=i then o.1 else o.2,true⟩
 | none=>⟨nmW L j,0,false⟩
def ycT (hj:j < L.length):(zbU L)[j]?=some ⟨nmW L j,0,false⟩:=by
 obtain ⟨w,hw⟩:=zj hj;unfold zbU nmW;rw [xal,hw];rfl
def ycq (h:zav L=0) (F:Unt->List Opt) (hj:j < L.length):(zh6 ls L F L.length)[j]?=some (ycd L j (zY L j) (ybv ls L F (zY L j))):=by
 have hle:=y3 L j;have e1:=yh (ls:=ls) h F (j:=j) (L.length - (zY L j+1)) (by omega)
 rw [show zY L j+1+(L.length - (zY L j+1))=L.length by omega] at e1
 rw [e1,yE];have e0:=yO (ls:=ls) h F (j:=j) (zY L j) (xap _) (by omega)
 rw [ycT hj] at e0;have hi:zY L j < L.length:=by omega
 have hlead:zau L (zY L j) < 0\/((zY L j:Nat):Int) < zau L (zY L j):=by
  rcases zfZ h hj with ⟨a,b⟩|⟨i,a,b,hk,hij,hl,hlt⟩
  .rw [a];exact b
  .rw [hl];exact .inr hlt
 have hwho:=zfZ h hj;unfold srvI;rw [if_pos hlead];show (match ybv ls L F (zY L j) with|some o=>zn9 (zh6 ls L F (zY L j)) (((zY L j:Nat):Int),zau L (zY L j)) o|none=>zh6 ls L F (zY L j))[j]?=_
 cases ybv ls L F (zY L j) with
 | none=>simp only [];rw [e0];rfl
 | some o=>
  simp only [];unfold ycd;simp only []
  rcases hwho with ⟨a,b⟩|⟨i,a,b,hk,hij,hl,hlt⟩
  .rw [if_pos a.symm];generalize zY L j=i at *;subst a;unfold zn9
   split
   .rw [xam,zpF e0]
   .rename_i hx;simp only at hx;rw [xam,zgj _ (by simp only;omega),zpF e0]
  .rw [hl] at e0 ⊢;have hlb:=hk.lba;rw [if_neg (by omega)]
   unfold zn9;rw [hlb];rw [if_neg (by simp only;omega),xam,xam]
   rw [zpF (by rw [zgj _ (by omega)];exact e0)]
def ya6 (h:zav L=0) (F:Unt->List Opt) (hi:i<=L.length):(zbL L (zh6 ls L F L.length) λj=>decide (zY L j < i))=zbL L (zh6 ls L F i) λj=>decide (zY L j < i):=by
 unfold zbL;refine yz λj hj=>?_
 have hj:=xaG.1 hj
 by_cases hl:zY L j < i
 .have hle:=y3 L j;have e1:=yh (ls:=ls) h F (j:=j) (L.length - (zY L j+1)) (by omega)
  have e2:=yh (ls:=ls) h F (j:=j) (i - (zY L j+1)) (by omega)
  rw [show zY L j+1+(L.length - (zY L j+1))=L.length by omega] at e1
  rw [show zY L j+1+(i - (zY L j+1))=i by omega] at e2
  unfold zeA;rw [e1,e2]
 .have hf:decide (zY L j < i)=false:=decide_eq_false hl;unfold zeA;simp only [hf,Bool.and_false,xaD,if_false];cases (zh6 ls L F L.length)[j]?<;>cases (zh6 ls L F i)[j]?<;>rfl
def yc7 (n:ByteArray) (L:List Wis):-1<=zeH n L/\zeH n L < L.length:=by
 have h1:=zr9 n (zkG L);have h2:=zr7 n (zkG L);unfold zeH;rw [show (zkG L).length=L.length by unfold zkG;rw [xaf]] at h2
 exact ⟨h1,h2⟩
def ybS (L:List Wis) (hx:L[i]?=some w):Pure prog 91 [.sl 18 (L.map Wis.pv),.i .i64 i] (.i .i64 (zjj L i w)):=by
 have hil:i < L.length:=(xaa.1 hx).1
 obtain ⟨f1,f2⟩:=yc7 w.req.link L
 have h39:=yu L w.req.link
 refine pz func91 f91.eq_1 λhwf X hX=>?_
 by_cases c1:w.req.link=s0
 .have c1':=eq_true c1
  have e:zjj L i w=0:=by unfold zjj;rw [if_pos c1]
  rw [e]
  have qe:=aI qR (aI @hx @c1');exact gD2
 .have c1':=eq_false c1
  by_cases c2:zeH w.req.link L < 0
  .have c2':=eq_true c2
   have e:zjj L i w=10:=by
    unfold zjj
    rw [if_neg c1]
    split
    .rw [if_pos c2]
    .rfl
   rw [e]
   have qe:=aI qR (aI @hx (aI @c1' @c2'));have jA:=h39;exact gD2
  .have c2':=eq_false c2
   obtain ⟨k,hk⟩:∃ k:Nat,zeH w.req.link L=(k:Int):=⟨(zeH w.req.link L).toNat,by omega⟩
   obtain ⟨o,ho⟩:=zj (i:=k) (l:=L) (by omega)
   have e:zjj L i w=if (k:Int)=i\/o.req.link≠w.req.name\/o.req.kind=w.req.kind\/¬(o.req.per.fro=w.req.per.fro/\o.req.per.to=w.req.per.to/\o.req.per.days=w.req.per.days) then 32 else 0:=by
    unfold zjj
    rw [if_neg c1,hk,xam,ho]
    simp only []
    rw [if_neg (by omega)]
   rw [hk] at h39 c2'
   have hkl:k < L.length:=by omega
   rw [e]
   by_cases d1:(k:Int)=i
   .have d1':=eq_true d1
    rw [if_pos (.inl d1)]
    have qe:=aI qR (aI @hx (aI @ho (aI @c1' (aI @c2' (aI @d1' @decide_true)))));have jA:=h39;exact gD2
   .have d1':=eq_false d1
    by_cases d2:o.req.link=w.req.name
    .have d2':=eq_true d2
     by_cases d3:w.req.kind=o.req.kind
     .have d3':=eq_true d3
      rw [if_pos (.inr (.inr (.inl d3.symm)))]
      have qe:=aI qR (aI @hx (aI @ho (aI @c1' (aI @c2' (aI @d1' (aI @d2' (aI @d3' (aI @decide_true (aI @decide_false @xaC)))))))));have jA:=h39;exact gD2
     .have d3':=eq_false d3
      by_cases d4:w.req.per.fro=o.req.per.fro/\w.req.per.to=o.req.per.to/\w.req.per.days=o.req.per.days
      .obtain ⟨d5,d6,d7⟩:=d4
       have d5':=eq_true d5
       have d6':=eq_true d6
       have d7':=eq_true d7
       rw [if_neg (by rintro (h|h|h|h)<;>first|exact d1 h|exact h d2|exact d3 h.symm|exact h ⟨d5.symm,d6.symm,d7.symm⟩)]
       have qe:=aI qR (aI @hx (aI @ho (aI @c1' (aI @c2' (aI @d1' (aI @d2' (aI @d3' (aI @d5' (aI @d6' (aI @d7' (aI @decide_true (aI @decide_false (aI @xaC @xax)))))))))))));have jA:=h39;exact gD2
      .have d4':(decide (w.req.per.fro=o.req.per.fro) && (decide (w.req.per.to=o.req.per.to) && decide (w.req.per.days=o.req.per.days)))=false:=by
        rw [<-Bool.decide_and,<-Bool.decide_and];exact decide_eq_false d4
       rw [if_pos (.inr (.inr (.inr λh=>d4 ⟨h.1.symm,h.2.1.symm,h.2.2.symm⟩)))]
       have qe:=aI qR (aI @hx (aI @ho (aI @c1' (aI @c2' (aI @d1' (aI @d2' (aI @d3' (aI @d4' (aI @decide_true (aI @decide_false (aI @xaC @xax)))))))))));have jA:=h39;exact gD2
    .have d2':=eq_false d2
     rw [if_pos (.inr (.inl d2))]
     have qe:=aI qR (aI @hx (aI @ho (aI @c1' (aI @c2' (aI @d1' (aI @d2' (aI @decide_true (aI @decide_false @xax))))))));have jA:=h39;exact gD2
def yW (L:List Wis):Pure prog 21 [.sl 18 (L.map Wis.pv)] (.i .i64 (zav L)):=by
 refine pz func21 f21.eq_1 λhw X hX=>?_
 simp only [wfs,PV.wf,xaf,maxLen] at hw;refine gF2 (λhc=>?_) λhc=>?_
 .rw [zav,if_pos hc];exact .refl _
 have hsp:zav L=zn [zn (L.mapIdx (zcB L)),zn (L.mapIdx (zjj L))]:=by rw [zav,if_neg (by omega)]
 refine zh (κ:=Nat) (λi=>⟨[(0,.p (.sl 18 (L.map Wis.pv))),(3,.p (.i .i64 i))],[],[],false⟩) (λi=>i<=L.length/\∀ x ∈ (L.mapIdx (zcB L)).take i,x=0) (λi=>L.length - i) 0 ?_ ?_ ?_
 .exact sR
 .simp
 .intro i hi;refine gH (λhc=>?_) λhc=>?_
  .obtain ⟨x,hx⟩:=zj (i:=i) (l:=L) (by omega)
   have he:zcB L i x=zn [zfI x,if 0<=zeH x.req.name (L.take i) then 9 else 0]:=rfl
   have hft:=yce hx;have h39:=yu L x.req.name
   by_cases c1:zfI x=0
   .have c1':=eq_true c1
    by_cases c2:zeH x.req.name L < i
    .have c2':=eq_true c2;have hv:zcB L i x=9:=by rw [he,zro c1,zwE,if_pos (hft.1 c2)]
     have hf:zav L=9:=by rw [hsp,zbr hi.2 (zaj hx) (by rw [hv];decide),hv,zlL (e:=9) (by decide)]
     rw [hf];have qe:=aI qR (aI @hx (aI @c1' @c2'));have jA:=yw x;have jB:=h39;exact gD2
    .have c2':=eq_false c2;have hv:zcB L i x=0:=by rw [he,zro c1,zwE,if_neg (λk=>c2 (hft.2 k))]
     have qe:=aI qR (aI @hx (aI @c1' @c2'));have jA:=yw x;have jB:=h39;refine gE2 ?_
     all_goals exact ⟨i+1,⟨by omega,zb0 hi.2 (zaj hx) hv⟩,by omega,by simp⟩
   .have c1':=eq_false c1;have hv:zcB L i x=zfI x:=by rw [he,zlL c1]
    have hf:zav L=zfI x:=by rw [hsp,zbr hi.2 (zaj hx) (by rw [hv];exact c1),hv,zlL c1]
    rw [hf];have qe:=aI qR (aI @hx @c1');have jA:=yw x;exact gD2
  .have ei:i=(L.mapIdx (zcB L)).length:=by simp;omega
   have hA:zn (L.mapIdx (zcB L))=0:=by subst ei;exact zbj hi.2
   rw [zro hA,zwE] at hsp;refine gE2 ?_;refine zh (κ:=Nat) (λi=>⟨[(0,.p (.sl 18 (L.map Wis.pv))),(5,.p (.i .i64 i))],[],[],false⟩) (λi=>i<=L.length/\∀ x ∈ (L.mapIdx (zjj L)).take i,x=0) (λi=>L.length - i) 0 ?_ ?_ ?_
   .exact sR
   .simp
   .clear hi ei;intro i hi;refine gH (λhc=>?_) λhc=>?_
    .obtain ⟨x,hx⟩:=zj (i:=i) (l:=L) (by omega)
     have h91:=ybS L hx
     by_cases c1:zjj L i x=0
     .have c1':=eq_true c1;have qe:=aI qR (aI @hx @c1');have jA:=h91;refine gE2 ?_
      all_goals exact ⟨i+1,⟨by omega,zb0 hi.2 (zaj hx) c1⟩,by omega,by simp⟩
     .have c1':=eq_false c1;have hf:zav L=zjj L i x:=by rw [hsp,zbr hi.2 (zaj hx) c1]
      rw [hf];have qe:=aI qR (aI @hx @c1');have jA:=h91;exact gD2
    .have ei:i=(L.mapIdx (zjj L)).length:=by simp;omega
     have hf:zav L=0:=by rw [hsp];subst ei;exact zbj hi.2
     rw [hf];exact gD2
def bigW (w:Wis):Bool:=((decide ((60:Int) < w.req.carrier.size) || decide ((60:Int) < w.req.partner.size)) || decide ((60:Int) < w.req.link.size)) || !shReq w.req
def ybJ (w:Wis):Bool:=!bigW w && (!decide (zfI w=0) || (decide (((zac w).length:Int)<=8) && decide (w.req.per.to - w.req.per.fro < 10)))
def ybZ (w:Wis):Pure prog 33 [w.pv] (.b (ybJ w)):=by
 have h17:=pure17 w.req;have h34:=yw w;refine pz func33 f33.eq_1 λhwf X hX=>?_
 have hno:bigW w=true->ybJ w=false:=λh=>by unfold ybJ;rw [h];rfl
 by_cases a1:(60:Int) < w.req.carrier.size
 .have a1':=eq_true a1;rw [hno (by unfold bigW;rw [decide_eq_true a1];simp)]
  have qe:=aI qR (aI @a1' @decide_true);have jA:=nm 113 (.b true);exact gD2
 have a1':=eq_false a1
 by_cases a2:(60:Int) < w.req.partner.size
 .have a2':=eq_true a2;rw [hno (by unfold bigW;rw [decide_eq_true a2];simp)]
  have qe:=aI qR (aI @a1' (aI @a2' yDF));have jA:=nm 113 (.b true);exact gD2
 have a2':=eq_false a2
 by_cases a3:(60:Int) < w.req.link.size
 .have a3':=eq_true a3;rw [hno (by unfold bigW;rw [decide_eq_true a3];simp)]
  have qe:=aI qR (aI @a1' (aI @a2' (aI @a3' yDF)));have jA:=nm 113 (.b true);exact gD2
 have a3':=eq_false a3;cases a4:shReq w.req with
 | false=>
  rw [a4] at h17;rw [hno (by unfold bigW;rw [a4];simp)]
  have qe:=aI qR (aI @a1' (aI @a2' (aI @a3' (aI @decide_true (aI @decide_false @xax)))));have jA:=h17;exact gD2
 | true=>
  rw [a4] at h17;have hb:bigW w=false:=by unfold bigW;rw [decide_eq_false a1,decide_eq_false a2,decide_eq_false a3,a4];rfl
  by_cases c0:zfI w=0
  .have c0':=eq_true c0;obtain ⟨_,f1,f2,f3,f4,f5⟩:=yan c0;have h47:=yt w f5 f2 f3 f1 f4;have hpr:0<=w.req.per.to/\w.req.per.to<=99999/\0<=w.req.per.fro/\w.req.per.fro<=99999:=by
    have hp:=zaI (zeR (yan c0).1).1
    omega
   have hs:ybJ w=(decide (((zac w).length:Int)<=8) && decide (w.req.per.to - w.req.per.fro < 10)):=by unfold ybJ;rw [hb,decide_eq_true c0];rfl
   rw [hs]
   by_cases c1:((zac w).length:Int)<=8
   .have c1':=eq_true c1;rw [decide_eq_true c1,xaZ];have qe:=aI qR (aI @a1' (aI @a2' (aI @a3' (aI @c0' (aI @c1' (aI @decide_true (aI @decide_false @xaC)))))));have jA:=h17;have jB:=h34;have jC:=h47;exact gD5
   .have c1':=eq_false c1;rw [decide_eq_false c1,xa4];have qe:=aI qR (aI @a1' (aI @a2' (aI @a3' (aI @c0' (aI @c1' (aI @decide_true (aI @decide_false @xaC)))))));have jA:=h17;have jB:=h34;have jC:=h47;exact gD5
  .have c0':=eq_false c0;have hs:ybJ w=true:=by unfold ybJ;rw [hb,decide_eq_false c0];rfl
   rw [hs];have qe:=aI qR (aI @a1' (aI @a2' (aI @a3' (aI @c0' (aI @decide_true (aI @decide_false @xaC))))));have jA:=h17;have jB:=h34;have jC:=nm 47 (.sl 1 []);exact gD5
def longW (L:List Wis) (n:Int):Bool:=(decide (n < L.length) && decide ((L.length:Int)<=64)) || decide ((66:Int) < L.length)
def ybI (L:List Wis) (n:Int):Bool:=!longW L n && L.all ybJ
def ybU (L:List Wis) (n:Int):Pure prog 59 [.sl 18 (L.map Wis.pv),.i .i64 n] (.b (ybI L n)):=by
 refine pz func59 f59.eq_1 λhwf X hX=>?_
 simp only [wfs,PV.wf,xaf,maxLen] at hwf;have qe:=@qR;refine gF2 (λhc=>?_) λhc=>?_
 .have:longW L n=true:=by simpa [longW] using hc
  rw [ybI,this];exact .refl _
 have hsh:longW L n=false:=by simpa [longW] using hc
 refine zh (κ:=Nat) (λi=>⟨[(0,.p (.sl 18 (L.map Wis.pv))),(5,.p (.i .i64 i))],[],[],false⟩) (λi=>i<=L.length/\∀ y ∈ L.take i,ybJ y=true) (λi=>L.length - i) 0 ?_ ?_ ?_
 .exact sS
 .simp
 .intro i hi;refine gH (λhc=>?_) λhc=>?_
  .obtain ⟨y,hx⟩:=zj (i:=i) (l:=L) (by omega)
   have qe:=aI qR @hx;have jA:=ybZ y;refine gF2 (λhc=>?_) λhc=>?_
   .rw [ybI,hsh,ybE hx hc];exact .refl _
   .exact ⟨i+1,⟨by omega,y8 hi.2 hx hc⟩,by omega,by simp⟩
  .have e:i=L.length:=by omega
   subst e;have ha:=ybF hi.2;have qe:=@qR;refine gE2 ?_;rw [ybI,hsh,ha];exact .refl _
def yb1 (ls:List Lim) (L:List Wis) (hL:L.length*192<=140737488355328):Pure prog 14 [.sl 11 (ls.map Lim.pv),.sl 18 (L.map Wis.pv)] (.b (yc ls 3 && ybI L 5)):=by
 have h15:=pure15 ls 3;refine pz func14 f14.eq_1 λhwf X hX=>?_
 cases hs:yc ls 3 with
 | true=>
  rw [hs] at h15;have qe:=@qR;have jA:=h15;have jB:=yx L hL;have jC:=ybU L 5;exact gD5
 | false=>
  rw [hs] at h15;have qe:=@qR;have jA:=h15;have jB:=nm 15 (.sl 18 []);have jC:=nm 59 (.b false);exact gD5
def few_sh {n:Int} (hs:yc ls n=true) (hc:zJ ls=0):zgb ls:=by
 have hl:=(zU hc).2;have key:∀ k,k<=ls.length->(((List.range k).flatMap λi=>match ls[i]? with|some l=>(zaq l).map λx=>(i,x)|none=>[]).length:Int)=yap ls k:=by
  intro k
  induction k with
  | zero=>intro _;simp [yap]
  | succ k ih=>
   intro hk;have hx:=xac (l:=ls) (i:=k) (by omega)
   have h3:=yab (hl _ (xae hx));rw [yD hx,zbE,xad,hx];have:=ih (by omega)
   simp only [xaf]
   omega
 refine zwD ?_;have h2:((winA ls).length:Int)=yap ls ls.length:=key ls.length (xap _);unfold yc at hs;simp only [xau,decide_eq_true_eq] at hs
 omega
def shw_sh {n:Int} (hs:ybI L n=true):ShW L:=λh w hw=>by
 unfold ybI at hs;rw [xau] at hs;have h1:=xaO.1 hs.2 w hw;obtain ⟨i,hi⟩:=xbl.1 hw;have h0:=yN h hi;unfold ybJ at h1;simp only [xau,xbg,xbv,decide_eq_false_iff_not,decide_eq_true_eq] at h1;have:=y5 w
 rcases h1.2 with h2|h2
 .exact absurd h0 h2
 .omega
def ybX (ls:List Lim) (L:List Wis) (hL:L.length*192<=140737488355328):Pure prog 45 [.sl 11 (ls.map Lim.pv),.sl 18 (L.map Wis.pv)] (.b ((yc ls 3 && ybI L 5) && (decide (zJ ls=0) && decide (zav L=0)))):=by
 have h14:=yb1 ls L hL;refine pz func45 f45.eq_1 λhwf X hX=>?_
 cases hs:(yc ls 3 && ybI L 5) with
 | false=>
  rw [hs] at h14;have qe:=@qR;have jA:=h14;have jB:=nm 20 (.i .i64 0);have jC:=nm 15 (.sl 18 []);have jD:=nm 21 (.i .i64 0);exact gD5
 | true=>
  rw [hs] at h14
  by_cases c1:zJ ls=0
  .have c1':=eq_true c1;rw [decide_eq_true c1]
   by_cases c2:zav L=0
   .have c2':=eq_true c2;rw [decide_eq_true c2];have qe:=aI qR (aI @c1' (aI @c2' @decide_true));have jA:=h14;have jB:=yaJ ls;have jC:=yx L hL;have jD:=yW L;exact gD5
   .have c2':=eq_false c2;rw [decide_eq_false c2];have qe:=aI qR (aI @c1' (aI @c2' yDF));have jA:=h14;have jB:=yaJ ls;have jC:=yx L hL;have jD:=yW L;exact gD5
  .have c1':=eq_false c1;rw [decide_eq_false c1];have qe:=aI qR (aI @c1' @decide_false);have jA:=h14;have jB:=yaJ ls;have jC:=nm 15 (.sl 18 []);have jD:=nm 21 (.i .i64 0);exact gD5
def yb3 (L:List Wis) (R:List Res) (y:Int):zlk L R (yam L L.length y)=zlk L R λj=>decide ((zY L j:Int)≠y):=by
 rw [zjR,zjR]
 congr 1
 unfold zbL;refine zcK λi hi=>?_
 have hi:=xaG.1 hi;have h:zY L i<=i:=by unfold zY;split<;>omega
 have e:yam L L.length y i=decide ((zY L i:Int)≠y):=by
  unfold yam;rw [decide_eq_true (show (zY L i:Int) < (L.length:Int) by omega),xaZ]
 unfold zeA;rw [e]
def yb4 (L:List Wis) (R:List Res):zlk L R (yam L L.length (-1))=zlk L R λ_=>true:=by
 rw [yb3];have e:(λj=>decide ((zY L j:Int)≠-1))=λ_=>true:=by
  funext j
  exact decide_eq_true (show (zY L j:Int)≠-1 by omega)
 rw [e]
def yc0 (hn:L.length<=64) (R:List Res) (f:Nat->Bool):(zlk L R f).length<=25664:=by
 have:=yaK L R f L.length;unfold zlk;omega
def ybW (h:zav L=0) (R:List Res):Pure prog 52 [.sl 18 (L.map Wis.pv),.sl 3 (R.map Res.pv)] (.i .i64 (zc8 L R)):=by
 have hn64:=(zR h).1
 refine pz func52 f52.eq_1 λhw X hX=>?_
 refine gF2 (λhc=>?_) λhc=>?_
 .rw [zc8,if_pos (by omega)];exact .refl _
 have hn:R.length=L.length:=by omega
 have hsp:zc8 L R=zn [zn (R.mapIdx (zkH L)),if (zq L).any (zhp L R)=true then 32 else 0]:=by rw [zc8,if_neg (by omega)]
 refine zh (κ:=Nat) (λi=>⟨[(0,.p (.sl 18 (L.map Wis.pv))),(1,.p (.sl 3 (R.map Res.pv))),(5,.p (.i .i64 i))],[],[],false⟩) (λi=>i<=R.length/\∀ x ∈ (R.mapIdx (zkH L)).take i,x=0) (λi=>R.length - i) 0 ?_ ?_ ?_
 .exact sS
 .simp
 .intro i hi
  refine gH (λhc=>?_) λhc=>?_
  .obtain ⟨r,hr⟩:=zj (i:=i) (l:=R) (by omega)
   obtain ⟨w,hwl⟩:=zj (i:=i) (l:=L) (by omega)
   have he:zkH L i r=zfy w r:=by unfold zkH;rw [hwl]
   obtain ⟨fq,f1,f2,f3,f4,f5⟩:=yan (yN h hwl)
   have h47:=yt w f5 f2 f3 f1 f4
   have h38:=yaI (zac w) r.minute
   have stop:∀ {c:Int},zfy w r=c->c≠0->zc8 L R=c:=fun {c} e hc=>by
    rw [<-e,<-he] at hc
    have h1:zn (R.mapIdx (zkH L))=zkH L i r:=zbr hi.2 (zaj hr) hc
    rw [hsp,zlL (by rw [h1];exact hc),h1,he,e]
   have go:zfy w r=0->∀ x ∈ (R.mapIdx (zkH L)).take (i+1),x=0:=λe=>zb0 hi.2 (zaj hr) (by rw [he,e])
   by_cases c1:r.name=w.req.name
   .have c1':=eq_true c1
    cases hg:r.gr with
    | true=>
     by_cases c2:r.minute ∈ zac w
     .have hz:zfy w r=0:=by unfold zfy;simp [hg,c1,c2,zn]
      rw [decide_eq_true c2] at h38
      have qe:=aI qR (aI @hr (aI @hwl (aI @hg (aI @c1' (aI @decide_true @xaC)))));have jA:=h47;have jB:=h38;refine gE2 ?_
      all_goals exact ⟨i+1,⟨by omega,go hz⟩,by omega,by simp⟩
     .have hz:zc8 L R=30:=stop (by unfold zfy;simp [hg,c1,c2,zn]) (by decide)
      rw [decide_eq_false c2] at h38
      have qe:=aI qR (aI @hr (aI @hwl (aI @hg (aI @c1' (aI @decide_true @xax)))));have jA:=h47;have jB:=h38;refine gE2 ?_
      all_goals (rw [hz];exact .refl _)
    | false=>
     by_cases c2:r.minute=0
     .have hz:zfy w r=0:=by unfold zfy;simp [hg,c1,c2,zn]
      have c2':=eq_true c2
      have qe:=aI qR (aI @hr (aI @hwl (aI @hg (aI @c1' (aI @c2' (aI @decide_true @xax))))));have jA:=nm 47 (.sl 1 []);have jB:=nm 46 (.b false);refine gE2 ?_
      all_goals exact ⟨i+1,⟨by omega,go hz⟩,by omega,by simp⟩
     .have hz:zc8 L R=19:=stop (by unfold zfy;simp [hg,c1,c2,zn]) (by decide)
      have c2':=eq_false c2
      have qe:=aI qR (aI @hr (aI @hwl (aI @hg (aI @c1' (aI @c2' (aI @decide_true (aI @decide_false @xax)))))));have jA:=nm 47 (.sl 1 []);have jB:=nm 46 (.b false);refine gE2 ?_
      all_goals (rw [hz];exact .refl _)
   .have c1':=eq_false c1
    have hz:zc8 L R=8:=stop (by unfold zfy;simp [c1,zn]) (by decide)
    have qe:=aI qR (aI @hr (aI @hwl (aI @c1' @decide_false)));refine gE2 ?_
    all_goals (rw [hz];exact .refl _)
  .have e:i=R.length:=by omega
   subst e
   have hall:∀ x ∈ R.mapIdx (zkH L),x=0:=by
    have:=hi.2
    rwa [xas (by simp)] at this
   have h0:zn (R.mapIdx (zkH L))=0:=zbj λx hx=>hall x (xbu hx)
   have hat:∀ (j:Nat) (q:Res) (w:Wis),R[j]?=some q->L[j]?=some w->q.gr=true->q.minute ∈ zac w:=λj q w hq hwl hg=>by
    have:=hall (zkH L j q) (xae (zaj hq))
    unfold zkH at this
    rw [hwl] at this
    exact (zdz this).2.1 hg
   clear hi
   have hbd:(∃ j,j < L.length/\yaa L R j=true)->zc8 L R=32:=λ⟨j,hj,hb⟩=>by
    have:(zq L).any (zhp L R)=true:=by rw [y7 h R];exact xaV.2 ⟨j,xaG.2 hj,hb⟩
    rw [hsp,h0,this];rfl
   refine gE2 ?_
   refine zh (κ:=Nat) (λi=>⟨[(0,.p (.sl 18 (L.map Wis.pv))),(1,.p (.sl 3 (R.map Res.pv))),(6,.p (.i .i64 i))],[],[],false⟩) (λi=>i<=R.length/\∀ j,j < i->yaa L R j=false) (λi=>R.length - i) 0 ?_ ?_ ?_
   .exact sS
   .simp
   .intro i hi
    refine gH (λhc=>?_) λhc=>?_
    .obtain ⟨r,hr⟩:=zj (i:=i) (l:=R) (by omega)
     obtain ⟨a,ha⟩:=zj (i:=i) (l:=L) (by omega)
     have hil:i < L.length:=by omega
     have h40:=yV L hil
     have hnxt:yaa L R i=false->∀ j,j < i+1->yaa L R j=false:=λhb j hj=>by
      rcases Nat.lt_or_eq_of_le (show j<=i by omega) with hj|rfl
      .exact hi.2 j hj
      .exact hb
     have hra:=zW hr
     rcases zcH h ha with hk|⟨c,b,hk⟩
     .have hb:yaa L R i=false:=by unfold yaa zhp;rw [hk];simp
      rw [hk] at h40
      have hf:((0:Int)<=-1)=False:=eq_false (by omega)
      have qe:=aI qR (aI @hr (aI @hf @decide_false));have jA:=h40;have jB:=nm 133 (.b false);refine gE2 ?_
      all_goals exact ⟨i+1,⟨by omega,hnxt hb⟩,by omega,by simp⟩
     .have hlab:=hk.lab
      rw [hlab] at h40
      have hcl:c < R.length:=by have:=(xaa.1 hk.at_b).1;omega
      obtain ⟨q,hq⟩:=zj (l:=R) hcl
      have hrq:=zW hq
      have hf:((0:Int)<=(c:Int))=True:=eq_true (by omega)
      have hbq:yaa L R i=((r.gr != q.gr) || (r.gr && !ze8 a b r.minute q.minute)):=by
       unfold yaa zhp zyn grO
       rw [hlab]
       simp only [xam,hra,hrq,ha,hk.at_b,show ¬((c:Int) < 0) by omega,if_false,decide_false,xb5,show (0:Int)<=c by omega,decide_true,xaZ]
      have hb1:=hk.at_b
      cases hg:r.gr<;>cases hg2:q.gr
      .have hb:yaa L R i=false:=by rw [hbq,hg,hg2];rfl
       have qe:=aI qR (aI @hr (aI @hq (aI @hg (aI @hg2 (aI @hf (aI @decide_true (aI @zb2 (aI @zio (aI @xaC @xax)))))))));have jA:=h40;have jB:=nm 133 (.b false);refine gE2 ?_
       all_goals exact ⟨i+1,⟨by omega,hnxt hb⟩,by omega,by simp⟩
      .have hb:=hbd ⟨i,hil,by rw [hbq,hg,hg2];rfl⟩
       have qe:=aI qR (aI @hr (aI @hq (aI @hg (aI @hg2 (aI @hf (aI @decide_true (aI @zb2 (aI @zio (aI @xaC @xax)))))))));have jA:=h40;have jB:=nm 133 (.b false);refine gE2 ?_
       all_goals (rw [hb];exact .refl _)
      .have hb:=hbd ⟨i,hil,by rw [hbq,hg,hg2];rfl⟩
       have qe:=aI qR (aI @hr (aI @hq (aI @hg (aI @hg2 (aI @hf (aI @decide_true (aI @zb2 (aI @zio (aI @xaC @xax)))))))));have jA:=h40;have jB:=nm 133 (.b false);refine gE2 ?_
       all_goals (rw [hb];exact .refl _)
      .have m1:=yK (yN h ha) (hat i r a hr ha hg)
       have m2:=yK (yN h hb1) (hat c q b hq hb1 hg2)
       have h33:=ybQ a b r.minute q.minute (by omega) (by omega) (λe e2=>hk.kind (e2.trans e.symm))
       cases hp:ze8 a b r.minute q.minute with
       | true=>
        have hb:yaa L R i=false:=by rw [hbq,hg,hg2,hp];rfl
        rw [hp] at h33
        have qe:=aI qR (aI @hr (aI @hq (aI @hg (aI @hg2 (aI @hf (aI @ha (aI @hb1 (aI @decide_true (aI @zb2 (aI @zio (aI @xaC @xax)))))))))));have jA:=h40;have jB:=h33;refine gE2 ?_
        all_goals exact ⟨i+1,⟨by omega,hnxt hb⟩,by omega,by simp⟩
       | false=>
        have hb:=hbd ⟨i,hil,by rw [hbq,hg,hg2,hp];rfl⟩
        rw [hp] at h33
        have qe:=aI qR (aI @hr (aI @hq (aI @hg (aI @hg2 (aI @hf (aI @ha (aI @hb1 (aI @decide_true (aI @zb2 (aI @zio (aI @xaC @xax)))))))))));have jA:=h40;have jB:=h33;refine gE2 ?_
        all_goals (rw [hb];exact .refl _)
    .have e:i=R.length:=by omega
     subst e
     have hb:(zq L).any (zhp L R)=false:=by
      rw [y7 h R,Bool.eq_false_iff]
      intro hb
      obtain ⟨j,hj,hb⟩:=xaV.1 hb
      rw [hi.2 j (by rw [hn];exact xaG.1 hj)] at hb;cases hb
     rw [hsp,h0,hb]
     exact gD2
def yaW (ls:List Lim) (L:List Wis) (R:List Res):Int:=zn [zJ ls,if zav L=0 then zc8 L R else zav L]
def lstE_0 (h:yaW ls L R=0):zJ ls=0/\zav L=0/\zc8 L R=0:=by
 unfold yaW at h;obtain ⟨h1,h2⟩:=zi.1 h;have h2:=(zi.1 h2).1
 by_cases hc:zav L=0
 .rw [if_pos hc] at h2;exact ⟨h1,hc,h2⟩
 .rw [if_neg hc] at h2;exact absurd h2 hc
def ybY (ls:List Lim) (L:List Wis) (R:List Res):Pure prog 38 [.sl 11 (ls.map Lim.pv),.sl 18 (L.map Wis.pv),.sl 3 (R.map Res.pv)] (.i .i64 (yaW ls L R)):=by
 have h23:=yaJ ls;have h21:=yW L;have h19:=yX [zJ ls,zav L];refine pz func38 f38.eq_1 λhwf X hX=>?_
 by_cases h1:zJ ls=0
 .by_cases h2:zav L=0
  .have e:yaW ls L R=zc8 L R:=by unfold yaW;rw [h1,if_pos h2];simp [zn];intro k;exact k.symm
   have h0:=eq_true (show zn [zJ ls,zav L]=0 by rw [h1,h2];rfl)
   rw [e];have qe:=aI qR @h0;have jA:=h23;have jB:=h21;have jC:=h19;have jD:=ybW h2 R;exact gD5
  .have e:yaW ls L R=zn [zJ ls,zav L]:=by unfold yaW;rw [if_neg h2]
   have h0:=eq_false (show ¬zn [zJ ls,zav L]=0 from λk=>h2 (zi.1 (zi.1 k).2).1)
   rw [e];have qe:=aI qR @h0;have jA:=h23;have jB:=h21;have jC:=h19;exact gD5
 .have e:yaW ls L R=zn [zJ ls,zav L]:=by unfold yaW;rw [zlL h1,zlL h1]
  have h0:=eq_false (show ¬zn [zJ ls,zav L]=0 from λk=>h1 (zi.1 k).1)
  rw [e];have qe:=aI qR @h0;have jA:=h23;have jB:=h21;have jC:=h19;exact gD5
def yb0 (ls:List Lim) (L:List Wis) (R:List Res):Pure prog 29 [.sl 11 (ls.map Lim.pv),.sl 18 (L.map Wis.pv),.sl 3 (R.map Res.pv)] (.i .i64 (zeY ls L R)):=by
 have h38:=ybY ls L R;refine pz func29 f29.eq_1 λhwf X hX=>?_
 by_cases h0:yaW ls L R=0
 .obtain ⟨h1,h2,h3⟩:=lstE_0 h0;have h0':=eq_true h0;obtain ⟨hn32,hls⟩:=zU h1;have hn64:=(zR h2).1;have h53:=ybV h2 (ycP h2 h3) L.length (-1);rw [yb4] at h53;have hpl:=yc0 hn64 R λ_=>true
  have h59:=pure59 ls (zlk L R λ_=>true) hn32 hls (by omega)
  have ha:=ym hls L R λ_=>true
  have e:zeY ls L R=if exB ls (zy ls ⟨[],[]⟩ (zlk L R λ_=>true) 1)=true then 14 else 0:=by unfold zeY;rw [if_pos h1,if_pos h2,if_pos h3]
  rw [e]
  by_cases hx:yaP ls (zlk L R λ_=>true)=[]
  .rw [if_neg λk=>ha.1 k hx]
   rw [hx] at h59;have qe:=aI qR (aI @h0' (@List.map_nil.{0,0}));have jA:=h38;have jB:=h53;have jC:=h59;exact gD5
  .rw [if_pos (ha.2 hx)];have hp:0 < (yaP ls (zlk L R λ_=>true)).length:=List.length_pos_iff.2 hx
   have hp':((0:Int) < ((yaP ls (zlk L R λ_=>true)).length:Int))=True:=eq_true (by omega)
   have qe:=aI qR (aI @h0' @hp');have jA:=h38;have jB:=h53;have jC:=h59;exact gD5
 .have h0':=eq_false h0;have e:zeY ls L R=yaW ls L R:=by
   unfold zeY yaW;unfold yaW at h0
   by_cases h1:zJ ls=0
   .rw [if_pos h1,h1]
    by_cases h2:zav L=0
    .rw [if_pos h2,if_pos h2]
     by_cases h3:zc8 L R=0
     .rw [h1,if_pos h2,h3] at h0;exact absurd rfl h0
     .rw [if_neg h3];simp [zn]
    .rw [if_neg h2,if_neg h2];simp [zn]
   .rw [if_neg h1,zlL h1]
  rw [e];have qe:=aI qR @h0';have jA:=h38;exact gD2
def yc3 (hk:zau L i=-1) (ho:o ∈ zaS L ((i:Int),zau L i)):o.2=-1:=by
 unfold zaS at ho;simp only [xam,hk] at ho;cases ha:L[i]? with
 | none=>rw [ha] at ho;cases ho
 | some a=>
  rw [ha] at ho;simp only [] at ho;rw [if_pos (by omega)] at ho
  obtain ⟨m,_,rfl⟩:=xaN.1 ho
  rfl
def yaq (h:zav L=0) (ha:L[i]?=some a) (ho:o ∈ zaS L ((i:Int),zau L i)):o.1 ∈ zac a/\∀ k b,LnkTo L i k a b->o.2 ∈ zac b/\ze8 a b o.1 o.2=true:=by
 unfold zaS at ho;simp only [xam,ha] at ho
 rcases zcH h ha with hk|⟨k,b,hk⟩
 .rw [if_pos (by omega)] at ho
  obtain ⟨m,hm,rfl⟩:=xaN.1 ho;exact ⟨hm,λk b hk2=>by have:=hk2.lab;omega⟩
 .rw [hk.lab] at ho;simp only [xam,hk.at_b] at ho;rw [if_neg (by omega)] at ho
  have ho:=(zhs _ _).mem_iff.1 ho;obtain ⟨x,hx,ho⟩:=xaw.1 ho;obtain ⟨y,hy,ho⟩:=xaw.1 ho
  split at ho
  .rename_i hp;rw [xaX] at ho;subst ho;refine ⟨hx,λk2 b2 hk2=>?_⟩
   have e1:=hk.lab;have e2:=hk2.lab;have e:k2=k:=by omega
   subst e;have e3:=hk.at_b;rw [hk2.at_b] at e3;injection e3 with e3;subst e3;exact ⟨hy,hp⟩
  .cases ho
section
variable {ls:List Lim} {L:List Wis} {F:Unt->List Opt}
def OwnF (L:List Wis) (F:Unt->List Opt):Prop:=∀ i,i < L.length->(zau L i < 0\/(i:Int) < zau L i)->∀ o ∈ F ((i:Int),zau L i),o ∈ zaS L ((i:Int),zau L i)
def yb6 (L:List Wis):OwnF L (zaS L):=λ_ _ _ _ h=>h
theorem yT (ls:List Lim) (L:List Wis) (F:Unt->List Opt):∀ k,(zh6 ls L F k).length=L.length
 | 0=>by unfold zh6 zbU;simp
 | k+1=>by
  rw [yE];unfold srvI
  split
  .split
   .rw [zib];exact yT ls L F k
   .exact yT ls L F k
  .exact yT ls L F k
def ya7 (ls:List Lim) (L:List Wis) (F:Unt->List Opt):(zh6 ls L F L.length).length=L.length:=yT ls L F L.length
def ybN (h:zav L=0) (hj:j < L.length):za5 (zh6 ls L F L.length) j=ycd L j (zY L j) (ybv ls L F (zY L j)):=zW (ycq h _ hj)
def gr_is (h:zav L=0) (hO:OwnF L F) (hi:i < L.length) (hu:zau L i < 0\/(i:Int) < zau L i):grB (zh6 ls L F L.length) ((i:Int),zau L i)=(ybv ls L F i).isSome/\∀ o,ybv ls L F i=some o->grO (zh6 ls L F L.length) ((i:Int),zau L i)=o:=by
 have e:=ybN (ls:=ls) (F:=F) h hi;rw [zj4 hu] at e;refine ⟨?_,λo ho=>?_⟩
 .unfold grB;rw [xam,e];cases ybv ls L F i<;>rfl
 .rw [ho] at e;unfold grO;rw [xam,e];obtain ⟨a,ha⟩:=zj hi
  rcases zcH h ha with hk|⟨k,b,hk⟩
  .have ho2:=yc3 hk (hO i hi hu _ (List.mem_of_find?_eq_some ho));rw [hk,if_pos (by omega)]
   unfold ycd;simp only [if_pos];rw [<-ho2]
  .have hlab:=hk.lab;have hkl:=(xaa.1 hk.at_b).1;have hik:i < k:=by omega
   have e2:=ybN (ls:=ls) (F:=F) h hkl;rw [zqW hk hik,ho] at e2;rw [hlab,if_neg (by omega),xam,e2]
   unfold ycd;simp only [if_pos];rw [if_neg (by omega)]
def ycr (h:zav L=0) (hO:OwnF L F):zc8 L (zh6 ls L F L.length)=0:=by
 have hn:=ya7 ls L F;unfold zc8;rw [if_neg (by omega)]
 have hopt:∀ {i:Nat} {o:Opt},i < L.length->(zau L i < 0\/(i:Int) < zau L i)->ybv ls L F i=some o->o ∈ zaS L ((i:Int),zau L i):=λhi hu ho=>hO _ hi hu _ (List.mem_of_find?_eq_some ho)
 have h1:zn ((zh6 ls L F L.length).mapIdx (zkH L))=0:=by
  refine zbj λx hx=>?_
  obtain ⟨j,hj⟩:=xbl.1 (xbu hx);rw [xcp] at hj;obtain ⟨r,hr,rfl⟩:=xab.1 hj;have hjl:j < L.length:=by have:=(xaa.1 hr).1;omega
  obtain ⟨w,hw⟩:=zj hjl;rw [ycq h _ hjl] at hr;injection hr with hr;subst hr;have hnm:nmW L j=w.req.name:=by unfold nmW;rw [hw]
  unfold zkH;rw [hw];simp only [];cases hf:ybv ls L F (zY L j) with
  | none=>unfold ycd zfy;simp [hnm,zn]
  | some o=>
   have hle:=y3 L j;have hld:zau L (zY L j) < 0\/((zY L j:Nat):Int) < zau L (zY L j):=by
    rcases zfZ h hjl with ⟨a,b⟩|⟨i,a,b,hk,hij,hl,hlt⟩
    .rw [a];exact b
    .rw [hl];exact .inr hlt
   have ho:=hopt (by omega) hld hf
   have hm:(if j=zY L j then o.1 else o.2) ∈ zac w:=by
    rcases zfZ h hjl with ⟨a,b⟩|⟨i,a,b,hk,hij,hl,hlt⟩
    .rw [if_pos a.symm];rw [a] at ho;exact (yaq h hw ho).1
    .rw [hl,if_neg (by omega)]
     rw [hl] at ho;have hw2:=hk.at_a;rw [hw] at hw2;injection hw2 with hw2;subst hw2;exact ((yaq h hk.at_b ho).2 j w hk.sw).1
   unfold ycd zfy;simp [hnm,zn,hm]
 have h2:(zq L).any (zhp L (zh6 ls L F L.length))=false:=by
  rw [Bool.eq_false_iff];intro hx;obtain ⟨u,hu,hb⟩:=xaV.1 hx;obtain ⟨i,hi,rfl,hlk⟩:=zdd.1 hu;obtain ⟨a,ha⟩:=zj hi
  rcases zcH h ha with hk|⟨k,b,hk⟩
  .unfold zhp at hb;rw [hk] at hb;simp at hb
  .have hlab:=hk.lab;have hkl:=(xaa.1 hk.at_b).1;have hik:i < k:=by omega
   obtain ⟨g1,g2⟩:=gr_is (ls:=ls) h hO hi hlk;have e1:=ybN (ls:=ls) (F:=F) h hi;rw [zj4 hlk] at e1;have e2:=ybN (ls:=ls) (F:=F) h hkl;rw [zqW hk hik] at e2;unfold zhp zyn at hb;rw [hlab] at hb g2;simp only [xam,ha,hk.at_b,show ¬((k:Int) < 0) by omega,decide_false,xb5,show (0:Int)<=k by omega,decide_true,xaZ] at hb
   cases hf:ybv ls L F i with
   | none=>
    rw [hf] at e1 e2;rw [e1,e2] at hb;simp [ycd] at hb
   | some o=>
    have hp:=((yaq h ha (hopt hi hlk hf)).2 k b hk).2;rw [g2 o hf] at hb;rw [hf] at e1 e2;rw [e1,e2] at hb;simp [ycd,hp] at hb
 rw [h1,h2];rfl
def sr_cnt (hl:∀ l ∈ ls,zr l=0) (h:zav L=0) (hO:OwnF L F) (hn:ls[n]?=some l) (hb:b ∈ zaq l):∀ i,i<=L.length->zbb l (zbL L (zh6 ls L F L.length) λj=>decide (zY L j < i)) b<=l.most:=by
 have h0:=zaa (hl l (xae hn));intro i
 induction i with
 | zero=>
  intro _;rw [zmH λj _=>decide_eq_false (by omega),zbJ (by omega)]
  simp;omega
 | succ i ih=>
  intro hi;have ih:=ih (by omega)
  have hor:=zqw (L:=L) (R:=zh6 ls L F L.length) (f:=λj=>decide (zY L j < i)) (g:=λj=>decide (zY L j=i)) (h:=λj=>decide (zY L j < i+1)) (λj h1 h2=>by
   have h1:=of_decide_eq_true h1;have h2:=of_decide_eq_true h2
   omega) (λj=>by
   by_cases h1:zY L j < i
   .rw [decide_eq_true h1,decide_eq_true (show zY L j < i+1 by omega)];rfl
   .rw [decide_eq_false h1,xb5];exact decide_eq_decide.2 (by omega))
  rw [zng (by omega) hor,zrR (by omega)]
  by_cases hu:zau L i < 0\/(i:Int) < zau L i
  .rw [zng (by omega) (zpl h (ycr (ls:=ls) h hO) (by omega) hu)]
   obtain ⟨g1,g2⟩:=gr_is (ls:=ls) h hO (show i < L.length by omega) hu
   unfold unM;rw [g1];cases hf:ybv ls L F i with
   | none=>
    rw [if_neg (by simp),zbJ (by omega) b []]
    simp;exact ih
   | some o=>
    rw [if_pos (show (some o).isSome=true from rfl),g2 o hf]
    have hfit:fitX ls L (zbL L (zh6 ls L F i) λj=>decide (zY L j < i)) ((i:Int),zau L i) o=true:=by
     have:=List.find?_some hf;exact this
    rw [<-ya6 h F (by omega)] at hfit
    unfold fitX at hfit;rw [List.isEmpty_iff] at hfit
    by_cases hc:0 < zbb l (zan L ((i:Int),zau L i) o) b
    .refine xbC λhh=>?_
     have:((n,b):Ky) ∈ xrW ls ((zbL L (zh6 ls L F L.length) λj=>decide (zY L j < i))++zan L ((i:Int),zau L i) o) (zan L ((i:Int),zau L i) o):=zhY.2 ⟨l,hn,hb,(by show l.most < zbb l (_++_) b;rw [zrR (by omega)];omega),hc⟩
     rw [hfit] at this;cases this
    .omega
  .rw [zmH (f:=λj=>decide (zY L j=i)) λj hj=>decide_eq_false λe=>by
    rcases zfZ h hj with ⟨a,b⟩|⟨i2,a,b,hk,hij,hl2,hlt⟩
    .rw [a] at e;subst e;exact hu b
    .rw [hl2] at e;subst e;exact hu (.inr hlt),zbJ (by omega) b []]
   simp;exact ih
def sr_alc (h1:zJ ls=0) (h:zav L=0) (hO:OwnF L F):zeY ls L (zh6 ls L F L.length)=0:=by
 have hl:=(zU h1).2;unfold zeY;rw [if_pos h1,if_pos h,if_pos (ycr (ls:=ls) h hO)];refine if_neg λhx=>?_
 have hne:=(ym hl L _ λ_=>true).1 hx
 refine hne (y4.2 λl hlm b hb=>?_)
 have h0:=zaa (hl l hlm);obtain ⟨n,hn⟩:=xbl.1 hlm;rw [zng (by omega) (zgx L _ _)]
 have:=sr_cnt hl h hO hn hb L.length (xap _);have e:zbL L (zh6 ls L F L.length) (λj=>decide (zY L j < L.length))=zbL L (zh6 ls L F L.length) λ_=>true:=by
  refine zez λi r hr _=>?_
  have hi:=(xaa.1 hr).1;rw [ya7 ls L F] at hi;have:=y3 L i;exact decide_eq_true (by omega)
 rw [e] at this;exact this
end
def ybG (hx:zeY ls L R=0) (hlm:l ∈ ls) (hb:b ∈ zaq l):zbb l (zbL L R λ_=>true) b<=l.most:=by
 obtain ⟨h1,h2,h3⟩:=zkA hx;have hl:=(zU h1).2;have h0:=zaa (hl l hlm);unfold zeY at hx;rw [if_pos h1,if_pos h2,if_pos h3] at hx;have hn:yaP ls (zlk L R λ_=>true)=[]:=xbC λk=>by
  rw [if_pos ((ym hl L R λ_=>true).2 k)] at hx;cases hx
 have:=y4.1 hn l hlm b hb;rw [zng (by omega) (zgx L R _)] at this
 exact this
def sgK (k j:Nat):Nat:=if j < k then j else j+1
def yk {α:Type} (L:List α) (k j:Nat):(L.eraseIdx k)[j]?=L[sgK k j]?:=by
 rw [List.getElem?_eraseIdx];unfold sgK;split<;>rfl
def sg_ne (k j:Nat):sgK k j≠k:=by unfold sgK;split<;>omega
def sg_inj (h:sgK k i=sgK k j):i=j:=by unfold sgK at h;split at h<;>split at h<;>omega
def sg_of {m:Nat} (h:m≠k):∃ j,m=sgK k j:=by
 by_cases hm:m < k
 .exact ⟨m,by unfold sgK;rw [if_pos hm]⟩
 .exact ⟨m - 1,by unfold sgK;rw [if_neg (by omega)];omega⟩
def ycE {α β:Type} (f:α->β) (L:List α) (k:Nat):(L.eraseIdx k).map f=(L.map f).eraseIdx k:=
 xco λj=>by rw [xal,yk,yk,xal]
def yS {α:Type} {L:List α} (h:k < L.length):(L.eraseIdx k).length=L.length - 1:=List.length_eraseIdx_of_lt h
def ycw (h:NoD H) (k:Nat):NoD (H.eraseIdx k):=λi j x hi hj=>by
 rw [yk] at hi hj;exact sg_inj (h _ _ x hi hj)
def fnd_to (hN:NoD H) {x:ByteArray} {m:Nat} (e:atL x H=m):H[m]?=some x:=by
 obtain ⟨i,hi⟩:=xbl.1 ((zg5 x H).1 (by omega))
 have:=zyp hN hi;have h2:i=m:=by omega
 rw [<-h2];exact hi
def ybp (h:zav L=0) {m:Nat} {b:Wis} (hk:LnkTo L i m a b):a.req.link=b.req.name/\a.req.link≠s0:=by
 have e:=hk.lab;unfold zau zuE at e;rw [hk.at_a] at e;simp only at e
 split at e
 .omega
 .rename_i hn;have e2:=fnd_to (zz4 h) e;unfold zkG at e2;rw [xal,hk.at_b] at e2;injection e2 with e2;exact ⟨e2.symm,hn⟩
def ybo (h:zav L=0) (hw:L[i]?=some w) (hn:zau L i < 0):w.req.link=s0:=by
 refine Decidable.byContradiction λhl=>?_
 have he:=((zR h).2 i w hw).2;unfold zjj at he;rw [if_neg hl] at he;have h2:zeH w.req.link L < 0:=by
  unfold zau zuE at hn;rw [hw] at hn;simp only [if_neg hl] at hn;exact hn
 split at he
 .rw [if_pos h2] at he;cases he
 .cases he
theorem ycs {β:Type} (f:Nat->List β):∀ (n k:Nat),(List.range' (k+1) n).flatMap f=(List.range' k n).flatMap λi=>f (i+1)
 | 0,_=>rfl
 | n+1,k=>by rw [List.range'_succ,List.range'_succ,xat,xat,ycs f n (k+1)]
def ycQ {β:Type} (f:Nat->List β) (h:k<=n):(List.range n).flatMap f=(List.range k).flatMap f++(List.range' k (n - k)).flatMap f:=by
 have:List.range n=List.range k++List.range' k (n - k):=by
  rw [List.range_eq_range',List.range_eq_range'];have:=List.range'_append (s:=0) (m:=k) (n:=n - k) (step:=1);rw [Nat.one_mul,xb8,show k+(n - k)=n by omega] at this
  exact this.symm
 rw [this,xa8]
def ycy (h:zav L=0) (hk:k < L.length) (hl:zau L k < 0) {m:Nat} {b:Wis} (hl2:LnkTo L (sgK k i) m a b):∃ j,m=sgK k j/\LnkTo (L.eraseIdx k) i j a b:=by
 have hm:m≠k:=λe=>by have:=hl2.lba;rw [e] at this;omega
 obtain ⟨j,rfl⟩:=sg_of hm;have ha:(L.eraseIdx k)[i]?=some a:=by rw [yk];exact hl2.at_a
 have hb:(L.eraseIdx k)[j]?=some b:=by rw [yk];exact hl2.at_b
 have hnd:NoD (zkG (L.eraseIdx k)):=by unfold zkG;rw [ycE];exact ycw (zz4 h) k
 have key:∀ {x y:Nat} {c d:Wis},(L.eraseIdx k)[x]?=some c->(L.eraseIdx k)[y]?=some d->LnkTo L (sgK k x) (sgK k y) c d->zau (L.eraseIdx k) x=y:=fun {x y c d} hx hy hxy=>by
  obtain ⟨e1,e2⟩:=ybp h hxy;unfold zau zuE;rw [hx];simp only;rw [if_neg e2];unfold zeH;refine zyp hnd ?_;unfold zkG;rw [xal,hy,e1];rfl
 exact ⟨j,rfl,ha,hb,λe=>hl2.ne (by rw [e]),key ha hb hl2,key hb ha hl2.sw,hl2.kind,hl2.per⟩
def yax (h:zav L=0) (hk:k < L.length) (hl:zau L k < 0):zav (L.eraseIdx k)=0:=by
 obtain ⟨hn,hall⟩:=zR h;have hlen:=yS hk;unfold zav;rw [if_neg (by omega)]
 refine zi.2 ⟨yj λi w hw=>?_,zi.2 ⟨yj λi w hw=>?_,rfl⟩⟩
 .have hw2:=hw;rw [yk] at hw2;have h1:=(zi.1 (hall _ w hw2).1).1;have hnd:NoD (zkG (L.eraseIdx k)):=by unfold zkG;rw [ycE];exact ycw (zz4 h) k
  have h2:=zBl hnd (i:=i) (x:=w.req.name) (by unfold zkG;rw [xal,hw];rfl)
  refine zi.2 ⟨h1,zi.2 ⟨if_neg ?_,rfl⟩⟩;unfold zeH zkG;unfold zkG at h2;rw [xbK];exact h2
 .have hw2:=hw;rw [yk] at hw2
  rcases zcH h hw2 with hq|⟨m,b,hq⟩
  .unfold zjj;rw [if_pos (ybo h hw2 (by omega))]
  .obtain ⟨e1,e2⟩:=ybp h hq;obtain ⟨e3,_⟩:=ybp h hq.sw;obtain ⟨j,rfl,hj⟩:=ycy h hk hl hq;have e4:zeH w.req.link (L.eraseIdx k)=j:=by
    have:=hj.lab;unfold zau zuE at this;rw [hw] at this;simp only [if_neg e2] at this;exact this
   have hne:=hj.ne;unfold zjj;rw [if_neg e2,e4,xam,hj.at_b];simp only;rw [if_neg (by omega),if_neg]
   rintro (k1|k1|k1|k1)
   .omega
   .exact k1 e3
   .exact hq.kind k1
   .exact k1 (by rw [hq.per];exact ⟨rfl,rfl,rfl⟩)
def ybO (h:zav L=0) (hk:k < L.length) (hl:zau L k < 0) (R:List Res) (i:Nat):za5 (R.eraseIdx k) i=za5 R (sgK k i):=by unfold za5;rw [yk]
def ydi (h:zav L=0) (hk:k < L.length) (hl:zau L k < 0) (hr:zc8 L R=0):zc8 (L.eraseIdx k) (R.eraseIdx k)=0:=by
 obtain ⟨hn,hE,hB⟩:=zbZ hr;have hlen:=yS hk;have hlen2:=yS (L:=R) (k:=k) (by omega)
 have h':=yax h hk hl;unfold zc8;rw [if_neg (by omega)]
 refine zi.2 ⟨yj λi r hi=>?_,zi.2 ⟨if_neg ?_,rfl⟩⟩
 .have hi2:=hi;rw [yk] at hi2;unfold zkH;rw [yk];cases hw:L[sgK k i]? with
  | none=>rfl
  | some w=>
   have:=hE _ w hw;rw [zW hi2] at this;exact this
 .rw [y7 h',xaV];rintro ⟨i,hi,hb⟩;have hi:=xaG.1 hi;obtain ⟨a,ha⟩:=zj hi;rw [yk] at ha
  rcases zcH h ha with hq|⟨m,b,hq⟩
  .have:zau (L.eraseIdx k) i < 0:=by
    unfold zau zuE;rw [yk,ha];simp only;rw [if_pos (ybo h ha (by omega))];omega
   unfold yaa zhp at hb;rw [decide_eq_false (by omega)] at hb
   cases hb
  .obtain ⟨j,rfl,hj⟩:=ycy h hk hl hq;have hbb:yaa L R (sgK k i)=false:=by
    have h5:(List.range L.length).any (yaa L R)=false:=by
     rw [<-y7 h R,Bool.eq_false_iff];intro hx;obtain ⟨u,hu,hx⟩:=xaV.1 hx;rw [hB u hu] at hx;cases hx
    rw [List.any_eq_false] at h5;simpa using h5 (sgK k i) (xaG.2 (xaa.1 ha).1)
   unfold yaa zhp zyn grO at hb hbb;rw [hj.lab] at hb;rw [hq.lab] at hbb;simp only [xam,hj.at_a,hj.at_b,ybO h hk hl] at hb;simp only [xam,hq.at_a,hq.at_b] at hbb;rw [decide_eq_false (show ¬((j:Nat):Int) < 0 by omega),decide_eq_true (show (0:Int)<=(j:Nat) by omega),if_neg (show ¬((j:Nat):Int) < 0 by omega)] at hb
   rw [decide_eq_false (show ¬((sgK k j:Nat):Int) < 0 by omega),decide_eq_true (show (0:Int)<=(sgK k j:Nat) by omega),if_neg (show ¬((sgK k j:Nat):Int) < 0 by omega)] at hbb
   rw [hbb] at hb;cases hb
def yc6 (h:zav L=0) (hk:k < L.length) (hl:zau L k < 0) (hj:j < L.length):zY L j=k↔j=k:=by
 constructor
 .intro e
  rcases zfZ h hj with ⟨a,b⟩|⟨i,a,b,hq,hij,hl2,hlt⟩
  .omega
  .rw [hl2] at e;subst e;omega
 .intro e;rw [e];exact zj4 (.inl hl)
def ycu (h:zav L=0) (hk:k < L.length) (hl:zau L k < 0) (hn:R.length=L.length):zbL (L.eraseIdx k) (R.eraseIdx k) (λ_=>true)=zoc L R k:=by
 have hlen:=yS hk;have hI:∀ i,sgK k i < L.length->zeA (L.eraseIdx k) (R.eraseIdx k) (λ_=>true) i=zeA L R (λj=>decide ((zY L j:Int)≠(k:Int))) (sgK k i):=λi hi=>by
  have hne:decide ((zY L (sgK k i):Int)≠(k:Int))=true:=decide_eq_true λe=>sg_ne k i ((yc6 h hk hl hi).1 (by omega))
  unfold zeA zfB;simp only [yk,hne]
 have hk0:zeA L R (λj=>decide ((zY L j:Int)≠(k:Int))) k=[]:=by
  have hne:decide ((zY L k:Int)≠(k:Int))=false:=decide_eq_false λe=>e (by rw [zj4 (.inl hl)])
  unfold zeA;simp only [hne,Bool.and_false,xaD,if_false];cases R[k]?<;>rfl
 unfold zoc zbL;rw [zbg _ hk,hk0,xaL,hlen,ycQ _ (show k<=L.length - 1 by omega),ycs,show L.length - (k+1)=L.length - 1 - k by omega]
 congr 1
 .refine yz λi hi=>?_
  have hi:=xaG.1 hi;have e:sgK k i=i:=by unfold sgK;rw [if_pos hi]
  rw [hI i (by omega),e]
 .refine yz λi hi=>?_
  have hi:=List.mem_range'_1.1 hi;have e:sgK k i=i+1:=by unfold sgK;rw [if_neg (by omega)]
  rw [hI i (by omega),e]
def ybi (h:zav L=0) (hk:k < L.length) (hl:zau L k < 0) (hx:zeY ls L R=0) (hlm:l ∈ ls) (hb:b ∈ zaq l):zbb l (zoc L R k) b+zbb l (unM L R ((k:Int),zau L k)) b<=l.most:=by
 obtain ⟨h1,_,h3⟩:=zkA hx;have h0:=zaa ((zU h1).2 l hlm);have ht:=ybG hx hlm hb;have o1:=zqw (L:=L) (R:=R) (f:=λj=>decide ((zY L j:Int)≠(k:Int))) (g:=λj=>decide (zY L j=k)) (h:=λ_=>true) (λj h1 h2=>by
  have h1:=of_decide_eq_true h1;have h2:=of_decide_eq_true h2
  omega) (λj=>by
  by_cases h1:zY L j=k
  .rw [decide_eq_true h1,Bool.or_true]
  .rw [decide_eq_true (show (zY L j:Int)≠(k:Int) by omega)];rfl)
 rw [zng (by omega) o1,zrR (by omega),zng (by omega) (zpl h h3 hk (.inl hl))] at ht
 exact ht
def alc_dl (h:zav L=0) (hk:k < L.length) (hl:zau L k < 0) (hx:zeY ls L R=0):zeY ls (L.eraseIdx k) (R.eraseIdx k)=0:=by
 obtain ⟨h1,_,h3⟩:=zkA hx;have hll:=(zU h1).2;have hn:=(zbZ h3).1;unfold zeY;rw [if_pos h1,if_pos (yax h hk hl),if_pos (ydi h hk hl h3)];refine if_neg λhx2=>?_
 have hne:=(ym hll _ _ λ_=>true).1 hx2
 refine hne (y4.2 λl hlm b hb=>?_)
 have h0:=zaa (hll l hlm);rw [zng (by omega) (zgx _ _ _),ycu h hk hl hn]
 have h5:=ybi h hk hl hx hlm hb;have h6:=zbJ (l:=l) (by omega) b (unM L R ((k:Int),zau L k))
 omega
def yc2 (h:zav L=0) (hk:k < L.length) (hl:zau L k < 0) (hx:zeY ls L R=0) (hw:L[k]?=some w) (hg:(za5 R k).gr=true):zst ls (zoc L R k) w (za5 R k).minute=true:=by
 obtain ⟨h1,_,h3⟩:=zkA hx;have hll:=(zU h1).2;have hu:unM L R ((k:Int),zau L k)=zbF (w.req.at (za5 R k).minute):=by
  unfold unM grB grO zan zfB;simp only [xam,if_pos hg,if_pos hl,xar,hw]
 unfold zst;rw [List.isEmpty_iff];cases hW:xrW ls (zoc L R k++zbF (w.req.at (za5 R k).minute)) (zbF (w.req.at (za5 R k).minute)) with
 | nil=>rfl
 | cons v W=>
  exfalso
  have hv:v ∈ xrW ls (zoc L R k++zbF (w.req.at (za5 R k).minute)) (zbF (w.req.at (za5 R k).minute)):=by rw [hW];simp
  obtain ⟨l,a,b,c,d⟩:=zhY.1 hv;have hlm:=xae a;have h0:=zaa (hll l hlm);have:=ybi h hk hl hx hlm b;rw [hu] at this;rw [zrR (by omega)] at c
  omega
def yb7 (w:Wis) (m:Int):Wis:=⟨w.req.at m,m,m,w.step,w.least,w.most⟩
def yc4:zac (yb7 w m)=[m]:=by
 have e:zg2 m m m w.step=1:=by unfold zg2;simp
 show zz (cmpC m) (zkM m m m w.step)=[m];unfold zkM;rw [e];simp [zz,xbd]
 rfl
def one_ok (h:zfI w=0) (h0:0<=m) (h1:m<=1439):zfI (yb7 w m)=0:=by
 unfold zfI at h ⊢;obtain ⟨a1,h⟩:=zi.1 h;obtain ⟨a2,h⟩:=zi.1 h;obtain ⟨a3,h⟩:=zi.1 h;obtain ⟨a4,h⟩:=zi.1 h;obtain ⟨a5,h⟩:=zi.1 h;obtain ⟨a6,h⟩:=zi.1 h;obtain ⟨a7,h⟩:=zi.1 h;obtain ⟨a8,h⟩:=zi.1 h;obtain ⟨a9,h⟩:=zi.1 h;have e:zg2 m m m w.step=1:=by unfold zg2;simp
 have hr:rng m 0 1439=0:=zdR.2 ⟨h0,h1⟩;refine zi.2 ⟨yal a1 h0 h1,zi.2 ⟨a2,zi.2 ⟨a3,zi.2 ⟨a4,zi.2 ⟨hr,zi.2 ⟨hr,zi.2 ⟨?_,zi.2 ⟨a8,zi.2 ⟨?_,h⟩⟩⟩⟩⟩⟩⟩⟩⟩
 .show (if m < m\/m < m then (11:Int) else 0)=0
  rw [if_neg (by omega)]
 .show (if 96 < (zg2 m m m w.step:Int) then (22:Int) else 0)=0
  rw [e,if_neg (by decide)]
def ycS:(zwl ls L R (yb7 w m)).gr=zst ls (zbL L R λ_=>true) w m:=by
 unfold zwl;rw [yc4,List.find?_cons];have e:zst ls (zbL L R λ_=>true) (yb7 w m) m=zst ls (zbL L R λ_=>true) w m:=rfl
 rw [e];cases zst ls (zbL L R λ_=>true) w m<;>rfl
def ydk (h:zfI w=0) (hm:m ∈ zac w):m ∈ (List.range (zwt w)).map (ze9 w):=by
 obtain ⟨_,h1,h2,h3,h4,h5,h6⟩:=yan h;have hrg:=yK h hm;obtain ⟨_,_,c,hc⟩:=(zvF h5 h2 h3).1 ((zhs _ _).mem_iff.1 hm);have e1:m % w.step=w.req.minute % w.step:=by rw [hc,Int.add_mul_emod_self_right]
 have h7:0<=m / w.step:=xbh hrg.1 (by omega)
 have e2:ze9 w (m / w.step).toNat=m:=by
  unfold ze9;have:=Int.emod_add_mul_ediv m w.step;rw [xbm h7,<-e1,Int.mul_comm (m / w.step) w.step];omega
 refine xaN.2 ⟨(m / w.step).toNat,xaG.2 ((zyo ⟨h5,h6⟩ _).2 (by omega)),e2⟩
def ybk (h:zfI w=0) (hm:m ∈ zac w):m ∈ zo8 ls P w (zwt w)↔zst ls P w m=true:=by
 unfold zo8;rw [xbs];exact ⟨λk=>k.2,λk=>⟨ydk h hm,k⟩⟩
def yac (l:Lim):Lim:=if l.most < 999999999 then { l with most:=l.most+1 } else l
def yn (ls:List Lim):List Lim:=ls.map yac
def yao (l:Lim):zaq (yac l)=zaq l:=by unfold yac;split<;>rfl
def ya3 (l:Lim) (m:List Mov) (b:Int):zbb (yac l) m b=zbb l m b:=by unfold yac;split<;>rfl
def yaB (l:Lim):(yac l).name=l.name:=by unfold yac;split<;>rfl
def yaC (l:Lim):l.most<=(yac l).most:=by
 unfold yac
 split
 .show l.most<=l.most+1;omega
 .omega
def ycJ (h:zr l=0):zr (yac l)=0:=by
 unfold yac
 split
 .rename_i hm;have h0:=zaa h;unfold zr at h ⊢;simp only [zi,zdR] at h ⊢;obtain ⟨a1,a2,a3,a4,a5,a6,a7,a8,a9,b1,b2⟩:=h;exact ⟨a1,a2,a3,a4,a5,a6,a7,a8,a9,by omega,b2⟩
 .exact h
def ybL (h:zJ ls=0):zJ (yn ls)=0:=by
 have hn:=(zU h).1;unfold zJ at h ⊢;rw [if_neg (by omega)] at h
 rw [if_neg (by unfold yn;rw [xaf];omega)]
 unfold ziD at h ⊢;refine yj λi x hx=>?_
 unfold yn at hx;rw [xal] at hx;obtain ⟨y,hy,rfl⟩:=xab.1 hx;obtain ⟨h1,h2⟩:=zi.1 (zfY h hy);refine zi.2 ⟨ycJ h1,?_⟩;have e:((yn ls).take i).map Lim.name=(ls.take i).map Lim.name:=by
  unfold yn;rw [<-xbK,List.map_map];refine List.map_congr_left λl _=>yaB l
 rw [e,yaB];exact h2
def ya4 (h:(yn ls)[n]?=some l):∃ y,ls[n]?=some y/\l=yac y:=by
 unfold yn at h;rw [xal] at h;obtain ⟨y,hy,rfl⟩:=xab.1 h;exact ⟨y,hy,rfl⟩
def ycI (h:zgb ls):zgb (yn ls):=λW hn hW=>h W hn λk hk=>by
 obtain ⟨l,a,b⟩:=hW k hk;obtain ⟨y,hy,rfl⟩:=ya4 a;exact ⟨y,hy,by rw [yao] at b;exact b⟩
def wid_xr {all own:List Mov} {k:Ky} (h:k ∈ xrW (yn ls) all own):k ∈ xrW ls all own:=by
 obtain ⟨l,a,b,c,d⟩:=zhY.1 h;obtain ⟨y,hy,rfl⟩:=ya4 a;rw [yao] at b;rw [ya3] at c d;have:=yaC y;exact zhY.2 ⟨y,hy,b,by omega,d⟩
def ycH (h:zst ls P w m=true):zst (yn ls) P w m=true:=by
 unfold zst at h ⊢;rw [List.isEmpty_iff] at h ⊢;refine xb2.2 λk hk=>?_
 have:=wid_xr hk;rw [h] at this;cases this
def ycK (hx:zeY ls L R=0):zeY (yn ls) L R=0:=by
 obtain ⟨h1,h2,h3⟩:=zkA hx;have h1':=ybL h1;have hll:=(zU h1').2;unfold zeY;rw [if_pos h1',if_pos h2,if_pos h3];refine if_neg λhx2=>?_
 have hne:=(ym hll _ _ λ_=>true).1 hx2
 refine hne (y4.2 λl hlm b hb=>?_)
 have h0:=zaa (hll l hlm);obtain ⟨n,hn⟩:=xbl.1 hlm;obtain ⟨y,hy,rfl⟩:=ya4 hn;rw [zng (by omega) (zgx _ _ _),ya3]
 rw [yao] at hb;have:=ybG hx (xae hy) hb;have:=yaC y
 omega
def yb8 (h:m ∈ zo8 ls P w n):m ∈ zo8 (yn ls) P w n:=by
 unfold zo8 at h ⊢;rw [xbs] at h ⊢;exact ⟨h.1,ycH h.2⟩
def ybx {α:Type} {L:List α} {x:α} (h:L[j]?=some x):(L.take (j+1)).eraseIdx k=(L.take j).eraseIdx k++if j=k then [] else [x]:=by
 have hj:=(xaa.1 h).1;have hlen:(L.take j).length=j:=by rw [xan];omega
 rw [zE h]
 rcases Nat.lt_trichotomy k j with hk|hk|hk
 .rw [List.eraseIdx_append_of_lt_length (by omega),if_neg (by omega)]
 .subst hk;rw [List.eraseIdx_append_of_length_le (by omega),hlen,xcm,if_pos rfl,List.eraseIdx_of_length_le (l:=L.take k) (by omega)]
  rfl
 .rw [List.eraseIdx_append_of_length_le (by omega),List.eraseIdx_of_length_le (l:=L.take j) (by omega),if_neg (by omega),List.eraseIdx_of_length_le (by simp;omega)]
def ydg {α β:Type} {L:List α} {M:List β} (h:M.length=L.length) (k j:Nat):((M.take j).eraseIdx k).length=((L.take j).eraseIdx k).length:=by
 rw [List.length_eraseIdx,List.length_eraseIdx,xan,xan,h]
def ybK (h:ls[j]?=some l):yn (ls.take (j+1))=yn (ls.take j)++[yac l]:=by
 unfold yn;rw [zE h,xa6];rfl
