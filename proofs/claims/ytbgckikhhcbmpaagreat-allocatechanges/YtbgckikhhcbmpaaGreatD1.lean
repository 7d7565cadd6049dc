/- Contracts. No conditions. -/
import Derived.Test.YtbgckikhhcbmpaaGreatD0
set_option linter.all false
set_option maxHeartbeats 8000000
set_option maxRecDepth 100000
namespace Go.Proofs.YtbgckikhhcbmpaaGreat
open Go.RowKit Go.Proofs.Tryz
variable {m n:Int} {ls:List Lim} {R:List Res} {L:List Wis} {i:Nat} {o:Opt} {w:Wis}
def kS (s:Int):Nat:=(1439 / s+1).toNat
def kS_lt {s:Int} (hs:1<=s) (j:Nat):j < kS s↔(j:Int)*s < 1440:=by
 have h3:0<=1439 / s:=xbh (by omega) (by omega)
 have h4:=Int.le_ediv_iff_mul_le (a:=(j:Int)) (b:=1439) (c:=s) (by omega)
 unfold kS
 constructor
 .intro h;have:=h4.1 (by omega)
  omega
 .intro h;have:=h4.2 (by omega)
  omega
def canW_R (hs:1<=w.step) (h1:w.ear<=w.req.minute) (h2:w.req.minute<=w.lat) (he:0<=w.ear) (hl:w.lat<=1439):zac w=yaq w.req.minute w.ear w.lat w.step (kS w.step):=
 can_eq hs h1 h2 he hl (by
  have:=kS_lt hs (kS w.step)
  omega)
def yA (w:Wis):(zac w).length=zg2 w.req.minute w.ear w.lat w.step:=by
 unfold zac;rw [(zhs _ _).length_eq];unfold zkM;rw [xaf,xaU]
def ycf (m e l s:Int) (j:Nat):(y5 m e l s j).length<=2:=by
 unfold y5
 split<;>split<;>simp
def yce (m e l s:Int) (K:Nat):(yaq m e l s K).length<=2*K:=by
 unfold yaq;have:=ye (f:=y5 m e l s) (c:=2) (l:=List.range K) λj _=>ycf m e l s j
 rw [xaU] at this;omega
def ybt (m e l s:Int) (K:Nat):yaq m e l s (K+1)=yaq m e l s K++y5 m e l s K:=zbE _ _
def yb6 (h:L[i]?=some w):zeH w.req.name L < i↔0<=zeH w.req.name (L.take i):=by
 have hm:(zkG L)[i]?=some w.req.name:=by unfold zkG;rw [xal,h];rfl
 unfold zeH;have e:zkG (L.take i)=(zkG L).take i:=by unfold zkG;rw [xbK]
 rw [e];generalize zkG L=M at *;generalize w.req.name=n at *;have key:∀ (M:List ByteArray) (i:Nat),M[i]?=some n->(atL n M < i↔0<=atL n (M.take i)):=by
  intro M
  induction M with
  | nil=>intro i hi;simp at hi
  | cons x M ih=>
   intro i hi;cases i with
   | zero=>
    have:-1<=atL n ([]:List ByteArray):=zr9 n [];simp at hi;subst hi;simp [atL]
   | succ i=>
    have hi':M[i]?=some n:=by simpa using hi
    have ih:=ih i hi';rw [xa3]
    by_cases hx:x=n
    .simp [atL,hx]
    .have h1:=zr9 n M;have h2:=zr9 n (M.take i);have h3:0<=atL n M:=(zg5 n M).2 (xae hi')
     by_cases h0:0<=atL n (M.take i)
     .simp [atL,hx];omega
     .simp [atL,hx];omega
 exact key M i hm
def yQ (h:zfI w=0):zbY w.req=0/\0<=w.ear/\w.ear<=w.req.minute/\w.req.minute<=w.lat/\w.lat<=1439/\1<=w.step/\w.step<=120:=by
 have h1:=zjq (zcC h).1;obtain ⟨a1,a2,a3,a4,a5,a6,a7⟩:=h1;exact ⟨a1,by omega,by omega,by omega,by omega,by omega,by omega⟩
def y4 (h:zfI w=0) (hm:m ∈ zac w):0<=m/\m<=1439:=by
 obtain ⟨_,h1,h2,h3,h4,h5,_⟩:=yQ h;have:=(zvF h5 h2 h3).1 ((zhs _ _).mem_iff.1 hm)
 omega
def ycZ (h:zfI w=0):(zac w).length<=96:=by
 rw [yA];unfold zfI at h
 iterate 8 obtain ⟨_,h⟩:=zi.1 h
 obtain ⟨h,_⟩:=zi.1 h
 by_cases k:96 < (zg2 w.req.minute w.ear w.lat w.step:Int)
 .rw [if_pos k] at h;cases h
 .omega
def yn (h:zav L=0) {a:Wis} (ha:L[i]?=some a):zfI a=0:=by
 have:=((zR h).2 i a ha).1;unfold zcB at this;exact (zi.1 this).1
def yX (L:List Wis) (i:Nat) (m:Int):(zfB L i m).length<=401:=by
 unfold zfB
 split
 .exact zbd _
 .simp
def yaE (L:List Wis) (R:List Res) (f:Nat->Bool):∀ c,((List.range c).foldl (plcF L R f) []).length<=401*c:=by
 intro c
 induction c with
 | zero=>simp
 | succ c ih=>
  rw [xbd,xaP,xbn,xbI];unfold plcF
  split
  .rename_i r hr
   split
   .rw [(zog _ _ _).length_eq,xad];have:=yX L c r.minute;unfold plcF at ih
    omega
   .unfold plcF at ih;omega
  .unfold plcF at ih;omega
def RsOk (L:List Wis) (R:List Res):Prop:=R.length=L.length/\∀ r ∈ R,r.gr=true->0<=r.minute/\r.minute<=1439
def yT (h:zav L=0) (hr:zc8 L R=0):RsOk L R:=by
 obtain ⟨hn,hE,_⟩:=zbZ hr;refine ⟨hn,λr hm hg=>?_⟩
 obtain ⟨i,hi⟩:=xbl.1 hm;obtain ⟨w,hw⟩:=zj (l:=L) (i:=i) (by have:=(xaa.1 hi).1;omega)
 have h1:=hE i w hw;have e:za5 R i=r:=by unfold za5;rw [hi];rfl
 rw [e] at h1;exact y4 (yn h hw) ((zdz h1).2.1 hg)
def wnX (ls:List Lim) (all:List Mov) (k:Ky):Win:=⟨k.1,k.2,match ls[k.1]? with|some l=>zbb l all k.2|none=>0⟩
def xwB (ls:List Lim) (all own:List Mov) (i:Nat) (l:Lim) (x:Int):List Win:=if xrB ls all own l x=true then [⟨i,x,zbb l all x⟩] else []
def xwI (ls:List Lim) (all own:List Mov) (i:Nat):List Win:=match ls[i]? with
 | some l=>(zaq l).flatMap (xwB ls all own i l)
 | none=>[]
def xwK (ls:List Lim) (all own:List Mov) (k:Nat):List Win:=(List.range k).flatMap (xwI ls all own)
def xw_eq (ls:List Lim) (all own:List Mov):xwK ls all own ls.length=(xrW ls all own).map (wnX ls all):=by
 unfold xwK xrW;rw [List.map_flatMap];refine yaJ λi _=>?_
 unfold xwI xrI;cases hl:ls[i]? with
 | none=>rfl
 | some l=>
  simp only [];generalize zaq l=M
  induction M with
  | nil=>rfl
  | cons x M ih=>
   rw [xat,ih,xa2];unfold xwB
   by_cases hx:xrB ls all own l x=true
   .rw [if_pos hx,if_pos hx,xaj,xaj];have:wnX ls all (i,x)=⟨i,x,zbb l all x⟩:=by unfold wnX;simp only [hl]
    rw [this];rfl
   .rw [if_neg hx,if_neg hx];rfl
def yaZ (ls:List Lim) (all own:List Mov) (i:Nat) (l:Lim) (M:List Int):(M.flatMap (xwB ls all own i l)).length<=M.length:=by
 have:=ye (f:=xwB ls all own i l) (c:=1) (l:=M) λx _=>by unfold xwB;split<;>simp
 omega
def yct (h:∀ l ∈ ls,zr l=0) (all own:List Mov) (k:Nat):(xwK ls all own k).length<=k*577440:=by
 have:=ye (f:=xwI ls all own) (c:=577440) (l:=List.range k) λi _=>by
  unfold xwI
  split
  .rename_i l hl;have h1:=yaZ ls all own i l (zaq l);have h2:=yc (h l (xae hl))
   omega
  .simp
 rw [xaU] at this;exact this
def allWs6 (l:List Wis):l.all ((λx=>x.cells.all PV.one) ∘ Wis.pv)=true:=by rw [xaO];intro x _;rfl
def yaQ (l:List Res):l.all ((λx=>x.cells.all PV.one) ∘ Res.pv)=true:=by rw [xaO];intro x _;rfl
def yaB (L:List Wis) (hn:L.length*192<=140737488355328):Pure prog 15 [.sl 18 (L.map Wis.pv)] (.sl 18 (L.map Wis.pv)):=by
 refine pz func15 f15.eq_1 λhw X hX=>?_
 have qe:=@qR;refine gE2 ?_;refine run_ownL 100 65 18 (κ:=Nat) (λk=>⟨[(0,.p (.sl 18 (L.map Wis.pv))),(3,.row 100 (L.take k).length),(4,.p (.i .i64 k))],[(100,.row 65 18 ((L.take k).map Wis.pv) false)],[],false⟩) (λk=>k<=L.length) (λk=>L.length - k) 0 ?_ ?_ ?_
 .refine ⟨gO ?_,gO ?_⟩<;>simp
 .simp
 .intro k hk;refine gH (λhc=>?_) λhc=>?_
  .obtain ⟨w,hx⟩:=zj (i:=k) (l:=L) (by omega)
   have hlt:=zfJ hx;have hkl:(L.take k).length=k:=by rw [xan];omega
   have qe:=aI qR (aI @hx @hkl);refine gE2 ?_;exact ⟨k+1,by omega,by omega,by rw [zE hx];simp [hkl],by rw [zE hx];simp⟩
  .have e:k=L.length:=by omega
   subst e;rw [xah];exact gD2
def ybX (L:List Lim) (hn:L.length*112<=140737488355328):Pure prog 17 [.sl 11 (L.map Lim.pv)] (.sl 11 (L.map Lim.pv)):=by
 refine pz func17 f17.eq_1 λhw X hX=>?_
 have qe:=@qR;refine gE2 ?_;refine run_ownL 100 131 11 (κ:=Nat) (λk=>⟨[(0,.p (.sl 11 (L.map Lim.pv))),(3,.row 100 (L.take k).length),(4,.p (.i .i64 k))],[(100,.row 131 11 ((L.take k).map Lim.pv) false)],[],false⟩) (λk=>k<=L.length) (λk=>L.length - k) 0 ?_ ?_ ?_
 .refine ⟨gO ?_,gO ?_⟩<;>simp
 .simp
 .intro k hk;refine gH (λhc=>?_) λhc=>?_
  .obtain ⟨w,hx⟩:=zj (i:=k) (l:=L) (by omega)
   have hlt:=zfJ hx;have hkl:(L.take k).length=k:=by rw [xan];omega
   have qe:=aI qR (aI @hx @hkl);refine gE2 ?_;exact ⟨k+1,by omega,by omega,by rw [zE hx];simp [hkl],by rw [zE hx];simp⟩
  .have e:k=L.length:=by omega
   subst e;rw [xah];exact gD2
def ybW (L:List Wis) (hn:L.length*192<=140737488355328):Pure prog 18 [.sl 18 (L.map Wis.pv)] (.sl 18 (L.map Wis.pv)):=by
 refine pz func18 f18.eq_1 λhw X hX=>?_
 have qe:=aI qR (aI @allWs6 @zwW);exact gD2
def ybT (L:List Res) (hn:L.length*32<=140737488355328):Pure prog 27 [.sl 3 (L.map Res.pv)] (.sl 3 (L.map Res.pv)):=by
 refine pz func27 f27.eq_1 λhw X hX=>?_
 have qe:=aI qR (aI @yaQ @zwW);exact gD2
def yV (l:List Int):Pure prog 19 [.sl 1 (l.map (.i .i64))] (.i .i64 (zn l)):=by
 refine pz func19 f19.eq_1 λhw X hX=>?_
 simp only [wfs,PV.wf,xaf,maxLen] at hw;refine gE2 ?_;refine zh (κ:=Nat) (λi=>⟨[(0,.p (.sl 1 (l.map (.i .i64)))),(3,.p (.i .i64 i))],[],[],false⟩) (λi=>i<=l.length/\∀ x ∈ l.take i,x=0) (λi=>l.length - i) 0 ?_ ?_ ?_
 .exact sR
 .simp
 .intro i hi;refine gH (λhc=>?_) λhc=>?_
  .obtain ⟨x,hx⟩:=zj (i:=i) (l:=l) (by omega)
   have qe:=@hx;refine gF2 (λhc=>?_) λhc=>?_
   .rw [zbr hi.2 hx hc];exact .refl _
   .exact ⟨i+1,⟨by omega,zb0 hi.2 hx hc⟩,by omega,by simp⟩
  .refine gE2 ?_;have e:i=l.length:=by omega
   subst e;rw [zbj hi.2];exact .refl _
def ybG (s:ByteArray):Pure prog 116 [.s s] (.i .i64 (zo6 s)):=by
 refine pz func116 f116.eq_1 λhw X hX=>?_
 by_cases h1:s=s0
 .have h1':=eq_true h1;have e:zo6 s=0:=yaG (.inl h1);rw [e];have qe:=aI qR (aI @h1' @xaC);have jA:=yF s;exact gD2
 .have h1':=eq_false h1;cases h2:zcs s with
  | true=>
   have h70:=yF s;rw [h2] at h70;have e:zo6 s=0:=yaG (.inr h2);rw [e];have qe:=aI qR (aI @h1' (aI @xax @xaC));have jA:=h70;exact gD2
  | false=>
   have h70:=yF s;rw [h2] at h70;have e:zo6 s=8:=ybf ⟨h1,h2⟩;rw [e];have qe:=aI qR (aI @h1' @xax);have jA:=h70;exact gD2
def yU (n a b:Int):Pure prog 117 [.i .i64 n,.i .i64 a,.i .i64 b] (.i .i64 (rng n a b)):=by
 refine pz func117 f117.eq_1 λhw X hX=>?_
 refine gF2 (λhc=>?_) λhc=>?_
 .rw [ycB (by omega)];exact .refl _
 .rw [zdR.2 (by omega)];exact .refl _
def yz (w:Wis) (hs:1<=w.step/\w.step<=120) (h1:w.ear<=w.req.minute) (h2:w.req.minute<=w.lat) (he:0<=w.ear) (hl:w.lat<=1439):Pure prog 47 [w.pv] (.sl 1 ((zac w).map (.i .i64))):=by
 rw [canW_R hs.1 h1 h2 he hl];have hk:=kS_lt hs.1;have hkb:∀ j:Nat,(j:Int)<=j*w.step:=λj=>by
  have:=Int.mul_le_mul_of_nonneg_left hs.1 (show (0:Int)<=j by omega)
  omega
 refine pz func47 f47.eq_1 λhw X hX=>?_
 have qe:=@qR;refine gE2 ?_;refine run_ownL 100 3 1 (κ:=Nat) (λj=>⟨[(1,.lp 1 0),(3,.row 100 (yaq w.req.minute w.ear w.lat w.step j).length),(4,.p (.i .i64 (j*w.step)))],[(1,.box (w.cells.map .p) false),(100,.row 3 1 ((yaq w.req.minute w.ear w.lat w.step j).map (.i .i64)) false)],[],false⟩) (λj=>j<=kS w.step) (λj=>kS w.step - j) 0 ?_ ?_ ?_
 .refine ⟨gO ?_,gO ?_⟩<;>simp [yaq]
 .simp
 .intro j hj;have hj2:=hk j;have hjb:=hkb j;have hn:=ybt w.req.minute w.ear w.lat w.step j;have hcl:=yce w.req.minute w.ear w.lat w.step j;have hm1:((j+1:Nat):Int)*w.step=j*w.step+w.step:=by push_cast;rw [Int.add_mul];omega
  generalize hd:(j:Int)*w.step=d at *;refine gH (λhc=>?_) λhc=>?_
  .have hjk:j < kS w.step:=hj2.2 hc;have hd0:0<=d:=by omega
   by_cases a1:w.ear<=w.req.minute - d
   .have a1':=eq_true a1
    by_cases a2:0 < d
    .have a2':=eq_true a2
     by_cases a3:w.req.minute+d<=w.lat
     .have a3':=eq_true a3;have e:y5 w.req.minute w.ear w.lat w.step j=[w.req.minute - d,w.req.minute+d]:=by unfold y5;rw [hd,if_pos a1,if_pos ⟨a2,a3⟩];rfl
      rw [e] at hn;have qe:=aI qR (aI @a1' (aI @a2' (aI @a3' @decide_true)));refine gE2 ?_;exact ⟨j+1,by omega,by omega,by rw [hn,hm1];simp,by rw [hn];simp⟩
     .have a3':=eq_false a3;have e:y5 w.req.minute w.ear w.lat w.step j=[w.req.minute - d]:=by unfold y5;rw [hd,if_pos a1,if_neg (λh=>a3 h.2)];rfl
      rw [e] at hn;have qe:=aI qR (aI @a1' (aI @a2' (aI @a3' yDF)));refine gE2 ?_;exact ⟨j+1,by omega,by omega,by rw [hn,hm1];simp,by rw [hn];simp⟩
    .have a2':=eq_false a2;have e:y5 w.req.minute w.ear w.lat w.step j=[w.req.minute - d]:=by unfold y5;rw [hd,if_pos a1,if_neg (λh=>a2 h.1)];rfl
     rw [e] at hn;have qe:=aI qR (aI @a1' (aI @a2' yDF));refine gE2 ?_;exact ⟨j+1,by omega,by omega,by rw [hn,hm1];simp,by rw [hn];simp⟩
   .have a1':=eq_false a1;have a2:0 < d:=by omega
    have a2':=eq_true a2
    by_cases a3:w.req.minute+d<=w.lat
    .have a3':=eq_true a3;have e:y5 w.req.minute w.ear w.lat w.step j=[w.req.minute+d]:=by unfold y5;rw [hd,if_neg a1,if_pos ⟨a2,a3⟩];rfl
     rw [e] at hn;have qe:=aI qR (aI @a1' (aI @a2' (aI @a3' yDF)));refine gE2 ?_;exact ⟨j+1,by omega,by omega,by rw [hn,hm1];simp,by rw [hn];simp⟩
    .have a3':=eq_false a3;have e:y5 w.req.minute w.ear w.lat w.step j=[]:=by unfold y5;rw [hd,if_neg a1,if_neg (λh=>a3 h.2)];rfl
     rw [e,xar] at hn;have qe:=aI qR (aI @a1' (aI @a2' (aI @a3' yDF)));refine gE2 ?_;exact ⟨j+1,by omega,by omega,by rw [hn,hm1];simp,by rw [hn]⟩
  .have e:j=kS w.step:=by
    have:¬j < kS w.step:=λh=>by
     have:=hj2.1 h
     omega
    omega
   subst e;exact gD2
def yaW {e:Int} {r r':List Int} (h:zn r=zn r'):zn (e::r)=zn (e::r'):=by
 by_cases k:e=0
 .rw [zro k,zro k,h]
 .rw [zlL k,zlL k]
def wisE_g (w:Wis):zfI w=zn [zbY w.req,zfA w.req.carrier,zn [zo6 w.req.partner,zo6 w.req.link,rng w.ear 0 1439,rng w.lat 0 1439],if w.req.minute < w.ear\/w.lat < w.req.minute then 11 else 0,rng w.step 1 120,if 96 < (zg2 w.req.minute w.ear w.lat w.step:Int) then 22 else 0,zn [rng w.least 0 1440,rng w.most 0 1440],if w.most < w.least then 11 else 0]:=
 yaW (yaW ((ycq [_,_,_,_] _).symm.trans (yaW (yaW (yaW (yaW (ycq [_,_] _).symm))))))
def yh (w:Wis):Pure prog 34 [w.pv] (.i .i64 (zfI w)):=by
 rw [wisE_g];refine pz func34 f34.eq_1 λhwf X hX=>?_
 have qe:=@qR;repeat' first|refine za (pure20 w.req) ?_|refine gG ?_|show AK _;intro J Z|refine gJ ?_|omega|exact aT
 (refine gC ?_ ?_<;>intro hc<;>try contradiction)
 .rw [zlL hc];have qe:=@qR;exact gD2
 have c1:zbY w.req=0:=hc;rw [zro c1];clear hc;have qe:=@qR;repeat' first|refine za (yF _) ?_|refine gG ?_|show AK _;intro J Z|refine gJ ?_|omega|exact aT
 (refine gC ?_ ?_<;>intro hc<;>try contradiction)
 .rw [zlL (by rw [yW hc];decide),yW hc]
  have qe:=@qR;exact gD2
 have c2:zcs w.req.carrier=true:=hc;rw [zro (yam c2)];clear hc;have qe:=@qR;repeat' first|refine za (ybG _) ?_|refine za (yU _ _ _) ?_|refine za (yV [_,_,_,_]) ?_|refine gG ?_|show AK _;intro J Z|refine gJ ?_|omega|exact aT
 (refine gC ?_ ?_<;>intro hc<;>try contradiction)
 .rw [zlL hc];have qe:=@qR;exact gD2
 have c3:zn [zo6 w.req.partner,zo6 w.req.link,rng w.ear 0 1439,rng w.lat 0 1439]=0:=hc;rw [zro c3];clear hc;obtain ⟨_,q⟩:=zi.1 c3;obtain ⟨_,q⟩:=zi.1 q;obtain ⟨p3,q⟩:=zi.1 q;obtain ⟨p4,_⟩:=zi.1 q;rw [zdR] at p3 p4;have qe:=@qR;repeat' first|refine gG ?_|show AK _;intro J Z|refine gJ ?_|omega|exact aT
 (refine gC ?_ ?_<;>intro hc<;>try contradiction)
 .rw [if_pos hc,zlL (e:=11) (by decide)]
  have qe:=@qR;exact gD2
 have c4:¬(w.req.minute < w.ear\/w.lat < w.req.minute):=by omega
 rw [if_neg c4,zro (e:=0) rfl];clear hc;have qe:=@qR;repeat' first|refine za (yU _ _ _) ?_|refine gG ?_|show AK _;intro J Z|refine gJ ?_|omega|exact aT
 (refine gC ?_ ?_<;>intro hc<;>try contradiction)
 .rw [zlL (show rng w.step 1 120≠0 from λk=>hc (zdR.1 k))]
  have qe:=@qR;exact gD2
 have c5:rng w.step 1 120=0:=zdR.2 hc;rw [zro c5];rw [zdR] at c5;clear hc;have h47:=yz w c5 (by omega) (by omega) p3.1 p4.2
 have hlen:=yA w;rw [<-hlen];have qe:=@qR;repeat' first|refine za h47 ?_|refine gG ?_|show AK _;intro J Z|refine gJ ?_|omega|exact aT
 (refine gC ?_ ?_<;>intro hc<;>try contradiction)
 .rw [if_pos hc,zlL (e:=22) (by decide)]
  have qe:=@qR;exact gD2
 rw [if_neg (by omega),zro (e:=0) rfl]
 clear hc;have qe:=@qR;repeat' first|refine za (yU _ _ _) ?_|refine za (yV [_,_]) ?_|refine gG ?_|show AK _;intro J Z|refine gJ ?_|omega|exact aT
 (refine gC ?_ ?_<;>intro hc<;>try contradiction)
 .rw [zlL hc];have qe:=@qR;exact gD2
 rw [zro hc,zwE];clear hc;have qe:=@qR;repeat' first|refine gG ?_|show AK _;intro J Z|refine gJ ?_|omega|exact aT
 (refine gC ?_ ?_<;>intro hc<;>try contradiction)
 .rw [if_pos hc];have qe:=@qR;exact gD2
 .rw [if_neg (by omega)]
  have qe:=@qR;exact gD2
def yr (L:List Wis) (n:ByteArray):Pure prog 39 [.sl 18 (L.map Wis.pv),.s n] (.i .i64 (zeH n L)):=by
 refine pz func39 f39.eq_1 λhw X hX=>?_
 simp only [wfs,PV.wf,xaf,maxLen] at hw;refine gE2 ?_;refine zh (κ:=Nat) (λi=>⟨[(0,.p (.sl 18 (L.map Wis.pv))),(1,.p (.s n)),(5,.p (.i .i64 i))],[],[],false⟩) (λi=>i<=L.length/\∀ x ∈ (zkG L).take i,x≠n) (λi=>L.length - i) 0 ?_ ?_ ?_
 .exact sR
 .simp
 .intro i hi;refine gH (λhc=>?_) λhc=>?_
  .obtain ⟨x,hx⟩:=zj (i:=i) (l:=L) (by omega)
   have hm:(zkG L)[i]?=some x.req.name:=by unfold zkG;rw [xal,hx];rfl
   have qe:=@hx;refine gF2 (λhc=>?_) λhc=>?_
   .rw [zeH,zr8 hi.2 (by rw [hm,hc])];exact .refl _
   .refine ⟨i+1,⟨by omega,λy hy=>?_⟩,by omega,by simp⟩
    rw [zE hm] at hy
    rcases xaS.1 hy with h|h
    .exact hi.2 y h
    .simp at h;subst h;exact hc
  .refine gE2 ?_;have e:i=(zkG L).length:=by unfold zkG;rw [xaf];omega
   subst e;rw [zeH,zsa (λy hy=>hi.2 y (by rw [xah];exact hy))];exact .refl _
def yd (L:List Wis) (hi:i < L.length):Pure prog 40 [.sl 18 (L.map Wis.pv),.i .i64 i] (.i .i64 (zau L i)):=by
 obtain ⟨w,hw⟩:=zj hi;have e:zau L i=if w.req.link=s0 then -1 else zeH w.req.link L:=by unfold zau zuE;rw [hw]
 rw [e];refine pz func40 f40.eq_1 λhwf X hX=>?_
 by_cases h:w.req.link=s0
 .have h':=eq_true h;rw [if_pos h];have qe:=aI qR (aI @hw @h');have jA:=yr L w.req.link;exact gD2
 .have h':=eq_false h;rw [if_neg h];have qe:=aI qR (aI @hw @h');have jA:=yr L w.req.link;exact gD2
def ybK (L:List Wis) (hi:i < L.length):Pure prog 93 [.sl 18 (L.map Wis.pv),.i .i64 i] (.b (decide (zau L i < 0) || decide ((i:Int) < zau L i))):=by
 refine pz func93 f93.eq_1 λhwf X hX=>?_
 have qe:=@qR;have jA:=yd L hi;exact gD2
def y9 (a b:Wis) (x y:Int) (hx:-10000<=x/\x<=10000) (hy:-10000<=y/\y<=10000) (hk:a.req.kind≠sD):Pure prog 133 [a.pv,b.pv,.i .i64 x,.i .i64 y] (.b (ze8 a b x y)):=by
 have hk':=eq_false hk;have e:ze8 a b x y=(decide (a.least<=y - x) && decide (y - x<=a.most)):=by unfold ze8;rw [if_neg hk]
 rw [e];refine pz func133 f133.eq_1 λhwf X hX=>?_
 have qe:=aI qR @hk';exact gD2
def ybF (a b:Wis) (x y:Int) (hx:-10000<=x/\x<=10000) (hy:-10000<=y/\y<=10000) (hk:a.req.kind=sD->b.req.kind≠sD):Pure prog 133 [a.pv,b.pv,.i .i64 x,.i .i64 y] (.b (ze8 a b x y)):=by
 by_cases h:a.req.kind=sD
 .have h':=eq_true h;have h33:=y9 b a y x hy hx (hk h);have e:ze8 a b x y=ze8 b a y x:=by
   unfold ze8;rw [if_pos h,if_neg (hk h)]
  rw [e];refine pz func133 f133.eq_1 λhwf X hX=>?_
  have qe:=aI qR @h';have jA:=h33;exact gD2
 .exact y9 a b x y hx hy h
def rt1:0+Int.toNat 1*1=1:=rfl
def rt4:0+Int.toNat 0*1=0:=rfl
def yg (w:Wis) (m:Int) (h:zbY w.req=0) (hm:0<=m/\m<=1439):Pure prog 64 [w.pv,.i .i64 m] (.sl 7 ((zbF (w.req.at m)).map Mov.pv)):=by
 have hq:=ybr h hm.1 hm.2;have e:zbF (w.req.at m)=zhk (w.req.at m):=by unfold zbF;rw [if_pos hq]
 rw [e];refine pz func64 f64.eq_1 λhw X hX=>?_
 have qe:=@qR;have jA:=ycH w.req m;have jB:=pure21 (w.req.at m) hq;exact gD2
def yL (L:List Wis) (x y:Int) (j:Nat):Bool:=decide ((zY L j:Int) < x) && decide ((zY L j:Int)≠y)
def yx (h:zav L=0) (hR:RsOk L R) (x y:Int):Pure prog 53 [.sl 18 (L.map Wis.pv),.sl 3 (R.map Res.pv),.i .i64 x,.i .i64 y] (.sl 7 ((zlk L R (yL L x y)).map Mov.pv)):=by
 obtain ⟨hn,hR⟩:=hR;have hn64:=(zR h).1;refine pz func53 f53.eq_1 λhw X hX=>?_
 have qe:=@qR;refine gE2 ?_;refine y8 (κ:=Nat) (λk=>⟨[(0,.p (.sl 18 (L.map Wis.pv))),(1,.p (.sl 3 (R.map Res.pv))),(2,.p (.i .i64 x)),(3,.p (.i .i64 y)),(9,.p (.sl 7 (((List.range k).foldl (plcF L R (yL L x y)) []).map Mov.pv))),(10,.p (.i .i64 k))],[],[],false⟩) (λk=>k<=L.length) (λk=>L.length - k) 0 ?_ ?_ ?_
 .refine .x 9 (.sl 7 []) ?_;exact .cov (sS)
 .simp
 .intro k hk;have hpl:=yaE L R (yL L x y) k;have hnx:(List.range (k+1)).foldl (plcF L R (yL L x y)) []=plcF L R (yL L x y) ((List.range k).foldl (plcF L R (yL L x y)) []) k:=by rw [xbd,xaP];rfl
  have hend:k=L.length->(List.range k).foldl (plcF L R (yL L x y)) []=zlk L R (yL L x y):=λe=>by rw [e];rfl
  generalize (List.range k).foldl (plcF L R (yL L x y)) []=P at *;refine gH (λhc=>?_) λhc=>?_
  .obtain ⟨w,hx⟩:=zj (i:=k) (l:=L) (by omega)
   obtain ⟨r,hr⟩:=zj (i:=k) (l:=R) (by omega)
   have hil:k < L.length:=by omega
   have h40:=yd L hil;have hwq:=(yQ (yn h hx)).1;have hmw:zfB L k r.minute=zbF (w.req.at r.minute):=by unfold zfB;rw [hx]
   have hml:=yX L k r.minute;have hst:plcF L R (yL L x y) P k=if (r.gr && yL L x y k)=true then zhC zjb P (zfB L k r.minute) else P:=by unfold plcF;rw [hr]
   rw [hst] at hnx;clear hst;have qe:=@qR;repeat' first|refine za h40 ?_|refine gG ?_|show AK _;intro J Z|refine gJ ?_|omega|exact aT
   refine yS ⟨[(0,.p (.sl 18 (L.map Wis.pv))),(1,.p (.sl 3 (R.map Res.pv))),(2,.p (.i .i64 x)),(3,.p (.i .i64 y)),(9,.p (.sl 7 (P.map Mov.pv))),(10,.p (.i .i64 k)),(12,.p (.i .i64 (zY L k)))],[],[],false⟩ ?_ ?_
   ·(refine gC ?_ ?_<;>intro hc<;>try contradiction)
    .have hle:(zY L k:Int)=zau L k:=by unfold zY;split<;>omega
     refine gE2 ?_
     all_goals (show Cov _ _;simp only [qS,seval]<;>simp [hle])
    .have hle:(zY L k:Int)=k:=by unfold zY;split<;>omega
     refine gE2 ?_
     all_goals (show Cov _ _;simp only [qS,seval]<;>simp [hle])
   cases hg:r.gr with
   | false=>
    rw [hg] at hnx;simp only [xa4,xaD,if_false] at hnx;have qe:=aI qR (aI @hx (aI @hr @hg));refine gE2 ?_;exact ⟨k+1,by omega,by dsimp only;omega,.cov (by simp only [qS,seval]<;>simp [hnx])⟩
   | true=>
    rw [hg] at hnx;simp only [xaZ,yL] at hnx
    by_cases c3:(zY L k:Int) < x
    .have c3':=eq_true c3
     by_cases c4:(zY L k:Int)=y
     .have c4':=eq_true c4;simp only [c3',c4',decide_true,ne_eq,not_true_eq_false,decide_false,Bool.and_false,xaD,if_false] at hnx;have qe:=aI qR (aI @hx (aI @hr (aI @hg (aI @c3' (aI @c4' (aI @decide_true @xaC))))));refine gE2 ?_;exact ⟨k+1,by omega,by dsimp only;omega,.cov (by simp only [qS,seval]<;>simp [hnx])⟩
     .have c4':=eq_false c4;simp only [c3',c4',decide_true,ne_eq,not_false_eq_true,Bool.and_self,if_true,hmw] at hnx;rw [hmw] at hml;have qe:=aI qR (aI @hx (aI @hr (aI @hg (aI @c3' (aI @c4' (aI @decide_true (aI @decide_false @xax)))))));have jA:=yg w r.minute hwq (hR r (xae hr) hg);have jB:=ya4 P (zbF (w.req.at r.minute)) (by omega);refine gE2 ?_
      exact ⟨k+1,by omega,by dsimp only;omega,.cov (by simp only [qS,seval]<;>simp [hnx])⟩
    .have c3':=eq_false c3;simp only [c3',decide_false,xa4,xaD,if_false] at hnx;have qe:=aI qR (aI @hx (aI @hr (aI @hg (aI @c3' yDF))));refine gE2 ?_;exact ⟨k+1,by omega,by dsimp only;omega,.cov (by simp only [qS,seval]<;>simp [hnx])⟩
  .have e:k=L.length:=by omega
   rw [hend e];have qe:=aI qR (aI @lpN (aI @lpE @lpR));exact gD2
def ybJ (h:zav L=0) (hi:i < L.length) (o:Opt) (ho1:0<=o.1/\o.1<=1439) (ho2:0<=zau L i->0<=o.2/\o.2<=1439):Pure prog 96 [.sl 18 (L.map Wis.pv),.i .i64 i,unP o] (.sl 7 ((yaL L ((i:Int),zau L i) o).map Mov.pv)):=by
 obtain ⟨a,ha⟩:=zj hi;have h40:=yd L hi;have haq:=(yQ (yn h ha)).1;have e1:zfB L i o.1=zbF (a.req.at o.1):=by unfold zfB;rw [ha]
 rcases zcH h ha with hk|⟨k,b,hk⟩
 .have e:yaL L ((i:Int),zau L i) o=zbF (a.req.at o.1):=by
   unfold yaL;rw [if_pos (by simp only;omega),xam,e1]
  rw [e];rw [hk] at h40;refine pz func96 f96.eq_1 λhw X hX=>?_
  obtain ⟨o1,o2⟩:=o;have hf:((0:Int)<=-1)=False:=eq_false (by omega)
  have qe:=aI qR (aI @ha (aI @hf (aI @rt1 @rt4)));have jA:=h40;have jB:=yg a o1 haq ho1;exact gD2
 .have hlab:=hk.lab;have hb:=hk.at_b;have hkl:k < L.length:=(xaa.1 hb).1;have hbq:=(yQ (yn h hb)).1;have e2:zfB L k o.2=zbF (b.req.at o.2):=by unfold zfB;rw [hb]
  have e:yaL L ((i:Int),zau L i) o=zhC zjb (zbF (a.req.at o.1)) (zbF (b.req.at o.2)):=by
   unfold yaL;rw [hlab,if_neg (by simp only;omega),xam,xam,e1,e2]
  rw [e];rw [hlab] at h40;have ho2:=ho2 (by omega)
  have hl1:=zbd (a.req.at o.1);have hl2:=zbd (b.req.at o.2);refine pz func96 f96.eq_1 λhw X hX=>?_
  obtain ⟨o1,o2⟩:=o;have h69:=ya4 (zbF (a.req.at o1)) (zbF (b.req.at o2)) (by have:=zbd (a.req.at o1);have:=zbd (b.req.at o2);omega)
  have hf:((0:Int)<=(k:Int))=True:=eq_true (by omega)
  have qe:=aI qR (aI @ha (aI @hb (aI @hf (aI @rt1 @rt4))));have jA:=h40;have jB:=yg a o1 haq ho1;have jC:=yg b o2 hbq ho2;have jD:=h69;exact gD5
def ybH (ls:List Lim) (oth own:List Mov) (hn:ls.length<=32) (h:∀ l ∈ ls,zr l=0) (hm:oth.length+own.length<=1000000):Pure prog 110 [.sl 11 (ls.map Lim.pv),.sl 7 (oth.map Mov.pv),.sl 7 (own.map Mov.pv)] (.sl 3 (((xrW ls (zhC zjb oth own) own).map (wnX ls (zhC zjb oth own))).map Win.pv)):=by
 have hal:(zhC zjb oth own).length<=1000000:=by rw [(zog _ _ _).length_eq,xad];exact hm
 have h69:=ya4 oth own hm;rw [<-xw_eq];generalize zhC zjb oth own=all at *;refine pz func110 f110.eq_1 λhw X hX=>?_
 have qe:=@qR;have jA:=h69;refine gE2 ?_;refine run_ownL 100 184 3 (κ:=Nat) (λk=>⟨[(0,.p (.sl 11 (ls.map Lim.pv))),(2,.p (.sl 7 (own.map Mov.pv))),(7,.p (.sl 7 (all.map Mov.pv))),(8,.row 100 (xwK ls all own k).length),(9,.p (.i .i64 k))],[(100,.row 184 3 ((xwK ls all own k).map Win.pv) false)],[],false⟩) (λk=>k<=ls.length) (λk=>ls.length - k) 0 ?_ ?_ ?_
 .refine ⟨gO ?_,gO ?_⟩<;>simp [xwK]
 .simp
 .intro k hk;refine gH (λhc=>?_) λhc=>?_
  .obtain ⟨l,hx⟩:=zj (i:=k) (l:=ls) (by omega)
   have h1:=h l (xae hx);have hi:xwI ls all own k=(zaq l).flatMap (xwB ls all own k l):=by rw [xwI,hx]
   have hkl:=yct h all own k;have hwl:=yc h1;have qe:=aI qR @hx;have jA:=ycm l h1;refine gE2 ?_;refine zh (κ:=Nat) (λj=>⟨[(0,.p (.sl 11 (ls.map Lim.pv))),(2,.p (.sl 7 (own.map Mov.pv))),(7,.p (.sl 7 (all.map Mov.pv))),(8,.row 100 (xwK ls all own k++((zaq l).take j).flatMap (xwB ls all own k l)).length),(9,.p (.i .i64 k)),(10,.p (.sl 1 ((zaq l).map (.i .i64)))),(11,.p (.i .i64 j))],[(100,.row 184 3 ((xwK ls all own k++((zaq l).take j).flatMap (xwB ls all own k l)).map Win.pv) false)],[],false⟩) (λj=>j<=(zaq l).length) (λj=>(zaq l).length - j) 0 ?_ ?_ ?_
   .exact sS
   .simp
   .intro j hj;refine gH (λhc=>?_) λhc=>?_
    .obtain ⟨b,hb⟩:=zj (i:=j) (l:=zaq l) (by omega)
     have hbm:=zfn h1 (xae hb);have hnx:=yG (xwB ls all own k l) hb;have hjl:=yaZ ls all own k l ((zaq l).take j);rw [xan] at hjl;have hal2:(xwK ls all own k++((zaq l).take j).flatMap (xwB ls all own k l)).length<=33*577440:=by rw [xad];omega
     have hol:own.length<=1000000:=by omega
     have h37:=ya6 l all b h1 hal (by omega) (by omega)
     have h37o:=ya6 l own b h1 hol (by omega) (by omega)
     by_cases c1:l.most < zbb l all b
     .have c1':=eq_true c1
      by_cases c2:0 < zbb l own b
      .have c2':=eq_true c2;rw [show xwB ls all own k l b=[⟨k,b,zbb l all b⟩] by rw [xwB,if_pos (by unfold xrB;rw [decide_eq_true c1,decide_eq_true c2];rfl)]] at hnx
       have qe:=aI qR (aI @hx (aI @hb (aI @c1' (aI @c2' @decide_true))));have jA:=h37;have jB:=h37o;refine gE2 ?_;exact ⟨j+1,by omega,by omega,⟨by rw [hnx];simp;omega,by simp⟩,by rw [hnx];simp⟩
      .have c2':=eq_false c2;rw [show xwB ls all own k l b=[] by rw [xwB,if_neg (by unfold xrB;rw [decide_eq_false c2,Bool.and_false];decide)],xar] at hnx
       have qe:=aI qR (aI @hx (aI @hb (aI @c1' (aI @c2' yDF))));have jA:=h37;have jB:=h37o;refine gE2 ?_;exact ⟨j+1,by omega,by omega,⟨by rw [hnx],by simp⟩,by rw [hnx]⟩
     .have c1':=eq_false c1;rw [show xwB ls all own k l b=[] by rw [xwB,if_neg (by unfold xrB;rw [decide_eq_false c1,xa4];decide)],xar] at hnx
      have qe:=aI qR (aI @hx (aI @hb (aI @c1' @decide_false)));have jA:=h37;have jB:=nm 182 (.i .i64 0);refine gE2 ?_;exact ⟨j+1,by omega,by omega,⟨by rw [hnx],by simp⟩,by rw [hnx]⟩
    .refine gE2 ?_;have e:j=(zaq l).length:=by omega
     subst e;have e2:xwK ls all own (k+1)=xwK ls all own k++(zaq l).flatMap (xwB ls all own k l):=by rw [xwK,zbE,hi,<-xwK]
     exact ⟨k+1,by omega,by omega,⟨by rw [xah,e2,xad],by simp⟩,by rw [xah,e2,xa6]⟩
  .refine gE2 ?_;have e:k=ls.length:=by omega
   subst e;exact .refl _
def yay (ls:List Lim) (oth own:List Mov) (hn:ls.length<=32) (h:∀ l ∈ ls,zr l=0) (hm:oth.length+own.length<=1000000):Pure prog 95 [.sl 11 (ls.map Lim.pv),.sl 7 (oth.map Mov.pv),.sl 7 (own.map Mov.pv)] (.b (xrW ls (zhC zjb oth own) own).isEmpty):=by
 have h110:=ybH ls oth own hn h hm;refine pz func95 f95.eq_1 λhw X hX=>?_
 cases hW:xrW ls (zhC zjb oth own) own with
 | nil=>
  rw [hW] at h110;have qe:=@qR;have jA:=h110;exact gD2
 | cons w W=>
  rw [hW] at h110;have hW':=eq_false (show ¬(((w::W).length:Int)=0) by rw [xaz];omega)
  have qe:=aI qR (aI @hW' (@List.length_map.{0,0}));have jA:=h110;exact gD2
structure RsN (L:List Wis) (R:List Res):Prop where
 ok:RsOk L R
 nm:∀ i r,R[i]?=some r->r.name=nmW L i
def refu_n (L:List Wis):RsN L (zbU L):=by
 refine ⟨⟨by simp [zbU],λr hr hg=>?_⟩,λi r hr=>?_⟩
 .obtain ⟨w,_,rfl⟩:=xaN.1 hr;cases hg
 .unfold zbU at hr;rw [xal,xab] at hr;obtain ⟨w,hw,rfl⟩:=hr;unfold nmW;rw [hw]
def ya3 (h:RsN L R) (i:Nat) (hm:0<=m/\m<=1439):RsN L (zji R i m):=by
 obtain ⟨⟨h1,h2⟩,h3⟩:=h;cases hr:R[i]? with
 | none=>
  have e:zji R i m=R:=by unfold zji;rw [hr]
  rw [e];exact ⟨⟨h1,h2⟩,h3⟩
 | some r=>
  rw [zpG hr];refine ⟨⟨by simp [h1],λx hx hg=>?_⟩,λj x hx=>?_⟩
  .rcases List.mem_or_eq_of_mem_set hx with hx|rfl
   .exact h2 x hx hg
   .exact hm
  .by_cases e:j=i
   .subst e;rw [xbE (xaa.1 hr).1] at hx;injection hx with hx;rw [<-hx];exact h3 j r hr
   .rw [xb9 (Ne.symm e)] at hx;exact h3 j x hx
def putR_n (h:RsN L R) (u:Unt) (h1:0<=o.1/\o.1<=1439) (h2:0<=u.2->0<=o.2/\o.2<=1439):RsN L (zn9 R u o):=by
 unfold zn9
 split
 .exact ya3 h _ h1
 .exact ya3 (ya3 h _ h1) _ (h2 (by omega))
def ycM (hl:∀ l ∈ ls,zr l=0) (L:List Wis) (R:List Res) (i:Nat) (u:Unt) (o:Opt):(xrW ls (zhC zjb (zlk L R (yL L i (-1))) (yaL L u o)) (yaL L u o)).isEmpty=fitX ls L (zbL L R λj=>decide (zY L j < i)) u o:=by
 have e:yL L i (-1)=λj=>decide (zY L j < i):=by
  funext j
  unfold yL;rw [decide_eq_true (show (zY L j:Int)≠-1 by omega),xbL]
  exact decide_eq_decide.2 (by omega)
 rw [xr_ref hl,e];rfl
def ybL (L:List Wis) (hn:L.length<=64):Pure prog 92 [.sl 18 (L.map Wis.pv)] (.sl 3 ((zbU L).map Res.pv)):=by
 refine pz func92 f92.eq_1 λhw X hX=>?_
 have qe:=@qR;refine gE2 ?_;refine run_ownL 100 165 3 (κ:=Nat) (λk=>⟨[(0,.p (.sl 18 (L.map Wis.pv))),(3,.row 100 (zbU (L.take k)).length),(4,.p (.i .i64 k))],[(100,.row 165 3 ((zbU (L.take k)).map Res.pv) false)],[],false⟩) (λk=>k<=L.length) (λk=>L.length - k) 0 ?_ ?_ ?_
 .refine ⟨gO ?_,gO ?_⟩<;>simp [zbU]
 .simp
 .intro k hk;refine gH (λhc=>?_) λhc=>?_
  .obtain ⟨w,hx⟩:=zj (i:=k) (l:=L) (by omega)
   have hkl:(L.take k).length=k:=by rw [xan];omega
   have hrl:(zbU (L.take k)).length=k:=by unfold zbU;rw [xaf,hkl]
   have hnx:zbU (L.take (k+1))=zbU (L.take k)++[⟨w.req.name,0,false⟩]:=by unfold zbU;rw [zE hx];simp
   have qe:=aI qR (aI @hx (aI @hkl @hrl));refine gE2 ?_;exact ⟨k+1,by omega,by omega,by rw [hnx];simp;exact hrl.symm,by rw [hnx];simp⟩
  .have e:k=L.length:=by omega
   subst e;rw [xah];have hrl:(zbU L).length=L.length:=by unfold zbU;rw [xaf]
   have qe:=aI qR @hrl;exact gD2
def ybI (h:zav L=0) (hR:RsN L R) (hi:i < L.length) (o:Opt):Pure prog 97 [.sl 18 (L.map Wis.pv),.sl 3 (R.map Res.pv),.i .i64 i,unP o] (.sl 3 ((zn9 R ((i:Int),zau L i) o).map Res.pv)):=by
 obtain ⟨⟨hn,_⟩,hnm⟩:=hR;have hn64:=(zR h).1;obtain ⟨a,ha⟩:=zj hi;obtain ⟨r,hr⟩:=zj (l:=R) (i:=i) (by omega)
 have hrn:r.name=a.req.name:=by rw [hnm i r hr];unfold nmW;rw [ha]
 have hrl:i < R.length:=by omega
 have h40:=yd L hi
 rcases zcH h ha with hk|⟨k,b,hk⟩
 .have e:zn9 R ((i:Int),zau L i) o=R.set i ⟨a.req.name,o.1,true⟩:=by
   unfold zn9;rw [if_pos (by simp only;omega),xam,zpG hr,hrn]
  rw [e,xbf];rw [hk] at h40;refine pz func97 f97.eq_1 λhw X hX=>?_
  obtain ⟨o1,o2⟩:=o;have hf:((0:Int)<=-1)=False:=eq_false (by omega)
  have qe:=aI qR (aI @ha (aI @hf (aI @yaQ (aI @zwW (aI @rt1 @rt4)))));have jA:=h40;exact gD2
 .have hlab:=hk.lab;have hb:=hk.at_b;have hkl:k < L.length:=(xaa.1 hb).1;have hne:=hk.ne;obtain ⟨q,hq⟩:=zj (l:=R) (i:=k) (by omega)
  have hqn:q.name=b.req.name:=by rw [hnm k q hq];unfold nmW;rw [hb]
  have e:zn9 R ((i:Int),zau L i) o=(R.set i ⟨a.req.name,o.1,true⟩).set k ⟨b.req.name,o.2,true⟩:=by
   unfold zn9;rw [hlab,if_neg (by simp only;omega),xam,xam,zpG hr,hrn]
   have hq2:(R.set i ⟨a.req.name,o.1,true⟩)[k]?=some q:=by rw [xb9 (Ne.symm hne)];exact hq
   rw [zpG hq2,hqn]
  rw [e,xbf,xbf];rw [hlab] at h40;refine pz func97 f97.eq_1 λhw X hX=>?_
  obtain ⟨o1,o2⟩:=o;have hf:((0:Int)<=(k:Int))=True:=eq_true (by omega)
  have hkr:k < R.length:=by omega
  have qe:=aI qR (aI @ha (aI @hb (aI @hf (aI @yaQ (aI @zwW (aI @rt1 @rt4))))));have jA:=h40;exact gD2
theorem ycz {F:Unt->List Opt} (hF:∀ i,i < L.length->∀ o ∈ F ((i:Int),zau L i),(0<=o.1/\o.1<=1439)/\(0<=zau L i->0<=o.2/\o.2<=1439)):∀ k,k<=L.length->RsN L (zh6 ls L F k)
 | 0,_=>refu_n L
 | k+1,hk=>by
  have ih:=ycz hF k (by omega)
  have e:zh6 ls L F (k+1)=srvI ls L F (zh6 ls L F k) k:=by unfold zh6;rw [xbd,xaP];rfl
  rw [e];unfold srvI
  split
  .split
   .rename_i o ho;have:=hF k (by omega) o (List.mem_of_find?_eq_some ho)
    exact putR_n ih _ this.1 this.2
   .exact ih
  .exact ih
def ycL (n:ByteArray) (L:List Wis):-1<=zeH n L/\zeH n L < L.length:=by
 have h1:=zr9 n (zkG L);have h2:=zr7 n (zkG L);unfold zeH;rw [show (zkG L).length=L.length by unfold zkG;rw [xaf]] at h2
 exact ⟨h1,h2⟩
def ybM (L:List Wis) (hx:L[i]?=some w):Pure prog 91 [.sl 18 (L.map Wis.pv),.i .i64 i] (.i .i64 (zjj L i w)):=by
 have hil:i < L.length:=(xaa.1 hx).1
 obtain ⟨f1,f2⟩:=ycL w.req.link L
 have h39:=yr L w.req.link
 refine pz func91 f91.eq_1 λhwf X hX=>?_
 by_cases c1:w.req.link=s0
 .have c1':=eq_true c1
  have e:zjj L i w=0:=by unfold zjj;rw [if_pos c1]
  rw [e]
  have qe:=aI qR (aI @hx @c1');exact gD2
 .have c1':=eq_false c1
  by_cases c2:zeH w.req.link L < 0
  .have c2':=eq_true c2
   have e:zjj L i w=10:=by
    unfold zjj
    rw [if_neg c1]
    split
    .rw [if_pos c2]
    .rfl
   rw [e]
   have qe:=aI qR (aI @hx (aI @c1' @c2'));have jA:=h39;exact gD2
  .have c2':=eq_false c2
   obtain ⟨k,hk⟩:∃ k:Nat,zeH w.req.link L=(k:Int):=⟨(zeH w.req.link L).toNat,by omega⟩
   obtain ⟨o,ho⟩:=zj (i:=k) (l:=L) (by omega)
   have e:zjj L i w=if (k:Int)=i\/o.req.link≠w.req.name\/o.req.kind=w.req.kind\/¬(o.req.per.fro=w.req.per.fro/\o.req.per.to=w.req.per.to/\o.req.per.days=w.req.per.days) then 32 else 0:=by
    unfold zjj
    rw [if_neg c1,hk,xam,ho]
    simp only []
    rw [if_neg (by omega)]
   rw [hk] at h39 c2'
   have hkl:k < L.length:=by omega
   rw [e]
   by_cases d1:(k:Int)=i
   .have d1':=eq_true d1
    rw [if_pos (.inl d1)]
    have qe:=aI qR (aI @hx (aI @ho (aI @c1' (aI @c2' (aI @d1' @decide_true)))));have jA:=h39;exact gD2
   .have d1':=eq_false d1
    by_cases d2:o.req.link=w.req.name
    .have d2':=eq_true d2
     by_cases d3:w.req.kind=o.req.kind
     .have d3':=eq_true d3
      rw [if_pos (.inr (.inr (.inl d3.symm)))]
      have qe:=aI qR (aI @hx (aI @ho (aI @c1' (aI @c2' (aI @d1' (aI @d2' (aI @d3' (aI @decide_true (aI @decide_false @xaC)))))))));have jA:=h39;exact gD2
     .have d3':=eq_false d3
      by_cases d4:w.req.per.fro=o.req.per.fro/\w.req.per.to=o.req.per.to/\w.req.per.days=o.req.per.days
      .obtain ⟨d5,d6,d7⟩:=d4
       have d5':=eq_true d5
       have d6':=eq_true d6
       have d7':=eq_true d7
       rw [if_neg (by rintro (h|h|h|h)<;>first|exact d1 h|exact h d2|exact d3 h.symm|exact h ⟨d5.symm,d6.symm,d7.symm⟩)]
       have qe:=aI qR (aI @hx (aI @ho (aI @c1' (aI @c2' (aI @d1' (aI @d2' (aI @d3' (aI @d5' (aI @d6' (aI @d7' (aI @decide_true (aI @decide_false (aI @xaC @xax)))))))))))));have jA:=h39;exact gD2
      .have d4':(decide (w.req.per.fro=o.req.per.fro) && (decide (w.req.per.to=o.req.per.to) && decide (w.req.per.days=o.req.per.days)))=false:=by
        rw [<-Bool.decide_and,<-Bool.decide_and];exact decide_eq_false d4
       rw [if_pos (.inr (.inr (.inr λh=>d4 ⟨h.1.symm,h.2.1.symm,h.2.2.symm⟩)))]
       have qe:=aI qR (aI @hx (aI @ho (aI @c1' (aI @c2' (aI @d1' (aI @d2' (aI @d3' (aI @d4' (aI @decide_true (aI @decide_false (aI @xaC @xax)))))))))));have jA:=h39;exact gD2
    .have d2':=eq_false d2
     rw [if_pos (.inr (.inl d2))]
     have qe:=aI qR (aI @hx (aI @ho (aI @c1' (aI @c2' (aI @d1' (aI @d2' (aI @decide_true (aI @decide_false @xax))))))));have jA:=h39;exact gD2
def ybV (L:List Wis):Pure prog 21 [.sl 18 (L.map Wis.pv)] (.i .i64 (zav L)):=by
 refine pz func21 f21.eq_1 λhw X hX=>?_
 simp only [wfs,PV.wf,xaf,maxLen] at hw;refine gF2 (λhc=>?_) λhc=>?_
 .rw [zav,if_pos hc];exact .refl _
 have hsp:zav L=zn [zn (L.mapIdx (zcB L)),zn (L.mapIdx (zjj L))]:=by rw [zav,if_neg (by omega)]
 refine zh (κ:=Nat) (λi=>⟨[(0,.p (.sl 18 (L.map Wis.pv))),(3,.p (.i .i64 i))],[],[],false⟩) (λi=>i<=L.length/\∀ x ∈ (L.mapIdx (zcB L)).take i,x=0) (λi=>L.length - i) 0 ?_ ?_ ?_
 .exact sR
 .simp
 .intro i hi;refine gH (λhc=>?_) λhc=>?_
  .obtain ⟨x,hx⟩:=zj (i:=i) (l:=L) (by omega)
   have he:zcB L i x=zn [zfI x,if 0<=zeH x.req.name (L.take i) then 9 else 0]:=rfl
   have hft:=yb6 hx;have h39:=yr L x.req.name
   by_cases c1:zfI x=0
   .have c1':=eq_true c1
    by_cases c2:zeH x.req.name L < i
    .have c2':=eq_true c2;have hv:zcB L i x=9:=by rw [he,zro c1,zwE,if_pos (hft.1 c2)]
     have hf:zav L=9:=by rw [hsp,zbr hi.2 (zaj hx) (by rw [hv];decide),hv,zlL (e:=9) (by decide)]
     rw [hf];have qe:=aI qR (aI @hx (aI @c1' @c2'));have jA:=yh x;have jB:=h39;exact gD2
    .have c2':=eq_false c2;have hv:zcB L i x=0:=by rw [he,zro c1,zwE,if_neg (λk=>c2 (hft.2 k))]
     have qe:=aI qR (aI @hx (aI @c1' @c2'));have jA:=yh x;have jB:=h39;refine gE2 ?_
     all_goals exact ⟨i+1,⟨by omega,zb0 hi.2 (zaj hx) hv⟩,by omega,by simp⟩
   .have c1':=eq_false c1;have hv:zcB L i x=zfI x:=by rw [he,zlL c1]
    have hf:zav L=zfI x:=by rw [hsp,zbr hi.2 (zaj hx) (by rw [hv];exact c1),hv,zlL c1]
    rw [hf];have qe:=aI qR (aI @hx @c1');have jA:=yh x;exact gD2
  .have ei:i=(L.mapIdx (zcB L)).length:=by simp;omega
   have hA:zn (L.mapIdx (zcB L))=0:=by subst ei;exact zbj hi.2
   rw [zro hA,zwE] at hsp;refine gE2 ?_;refine zh (κ:=Nat) (λi=>⟨[(0,.p (.sl 18 (L.map Wis.pv))),(5,.p (.i .i64 i))],[],[],false⟩) (λi=>i<=L.length/\∀ x ∈ (L.mapIdx (zjj L)).take i,x=0) (λi=>L.length - i) 0 ?_ ?_ ?_
   .exact sR
   .simp
   .clear hi ei;intro i hi;refine gH (λhc=>?_) λhc=>?_
    .obtain ⟨x,hx⟩:=zj (i:=i) (l:=L) (by omega)
     have h91:=ybM L hx
     by_cases c1:zjj L i x=0
     .have c1':=eq_true c1;have qe:=aI qR (aI @hx @c1');have jA:=h91;refine gE2 ?_
      all_goals exact ⟨i+1,⟨by omega,zb0 hi.2 (zaj hx) c1⟩,by omega,by simp⟩
     .have c1':=eq_false c1;have hf:zav L=zjj L i x:=by rw [hsp,zbr hi.2 (zaj hx) c1]
      rw [hf];have qe:=aI qR (aI @hx @c1');have jA:=h91;exact gD2
    .have ei:i=(L.mapIdx (zjj L)).length:=by simp;omega
     have hf:zav L=0:=by rw [hsp];subst ei;exact zbj hi.2
     rw [hf];exact gD2
def bigW (w:Wis):Bool:=((decide ((60:Int) < w.req.carrier.size) || decide ((60:Int) < w.req.partner.size)) || decide ((60:Int) < w.req.link.size)) || !shReq w.req
def yaR (w:Wis):Bool:=!bigW w && (!decide (zfI w=0) || (decide (((zac w).length:Int)<=8) && decide (w.req.per.to - w.req.per.fro < 10)))
def yaA (w:Wis):Pure prog 33 [w.pv] (.b (yaR w)):=by
 have h17:=pure17 w.req;have h34:=yh w;refine pz func33 f33.eq_1 λhwf X hX=>?_
 have hno:bigW w=true->yaR w=false:=λh=>by unfold yaR;rw [h];rfl
 by_cases a1:(60:Int) < w.req.carrier.size
 .have a1':=eq_true a1;rw [hno (by unfold bigW;rw [decide_eq_true a1];simp)]
  have qe:=aI qR (aI @a1' @decide_true);have jA:=nm 113 (.b true);exact gD2
 have a1':=eq_false a1
 by_cases a2:(60:Int) < w.req.partner.size
 .have a2':=eq_true a2;rw [hno (by unfold bigW;rw [decide_eq_true a2];simp)]
  have qe:=aI qR (aI @a1' (aI @a2' yDF));have jA:=nm 113 (.b true);exact gD2
 have a2':=eq_false a2
 by_cases a3:(60:Int) < w.req.link.size
 .have a3':=eq_true a3;rw [hno (by unfold bigW;rw [decide_eq_true a3];simp)]
  have qe:=aI qR (aI @a1' (aI @a2' (aI @a3' yDF)));have jA:=nm 113 (.b true);exact gD2
 have a3':=eq_false a3;cases a4:shReq w.req with
 | false=>
  rw [a4] at h17;rw [hno (by unfold bigW;rw [a4];simp)]
  have qe:=aI qR (aI @a1' (aI @a2' (aI @a3' (aI @decide_true (aI @decide_false @xax)))));have jA:=h17;exact gD2
 | true=>
  rw [a4] at h17;have hb:bigW w=false:=by unfold bigW;rw [decide_eq_false a1,decide_eq_false a2,decide_eq_false a3,a4];rfl
  by_cases c0:zfI w=0
  .have c0':=eq_true c0;obtain ⟨_,f1,f2,f3,f4,f5⟩:=yQ c0;have h47:=yz w f5 f2 f3 f1 f4;have hpr:0<=w.req.per.to/\w.req.per.to<=99999/\0<=w.req.per.fro/\w.req.per.fro<=99999:=by
    have hp:=zaI (zeR (yQ c0).1).1
    omega
   have hs:yaR w=(decide (((zac w).length:Int)<=8) && decide (w.req.per.to - w.req.per.fro < 10)):=by unfold yaR;rw [hb,decide_eq_true c0];rfl
   rw [hs]
   by_cases c1:((zac w).length:Int)<=8
   .have c1':=eq_true c1;rw [decide_eq_true c1,xaZ];have qe:=aI qR (aI @a1' (aI @a2' (aI @a3' (aI @c0' (aI @c1' (aI @decide_true (aI @decide_false @xaC)))))));have jA:=h17;have jB:=h34;have jC:=h47;exact gD5
   .have c1':=eq_false c1;rw [decide_eq_false c1,xa4];have qe:=aI qR (aI @a1' (aI @a2' (aI @a3' (aI @c0' (aI @c1' (aI @decide_true (aI @decide_false @xaC)))))));have jA:=h17;have jB:=h34;have jC:=h47;exact gD5
  .have c0':=eq_false c0;have hs:yaR w=true:=by unfold yaR;rw [hb,decide_eq_false c0];rfl
   rw [hs];have qe:=aI qR (aI @a1' (aI @a2' (aI @a3' (aI @c0' (aI @decide_true (aI @decide_false @xaC))))));have jA:=h17;have jB:=h34;have jC:=nm 47 (.sl 1 []);exact gD5
def longW (L:List Wis) (n:Int):Bool:=(decide (n < L.length) && decide ((L.length:Int)<=64)) || decide ((66:Int) < L.length)
def ybz (L:List Wis) (n:Int):Bool:=!longW L n && L.all yaR
def ybN (L:List Wis) (n:Int):Pure prog 59 [.sl 18 (L.map Wis.pv),.i .i64 n] (.b (ybz L n)):=by
 refine pz func59 f59.eq_1 λhwf X hX=>?_
 simp only [wfs,PV.wf,xaf,maxLen] at hwf;have qe:=@qR;refine gF2 (λhc=>?_) λhc=>?_
 .have:longW L n=true:=by simpa [longW] using hc
  rw [ybz,this];exact .refl _
 have hsh:longW L n=false:=by simpa [longW] using hc
 refine zh (κ:=Nat) (λi=>⟨[(0,.p (.sl 18 (L.map Wis.pv))),(5,.p (.i .i64 i))],[],[],false⟩) (λi=>i<=L.length/\∀ y ∈ L.take i,yaR y=true) (λi=>L.length - i) 0 ?_ ?_ ?_
 .exact sS
 .simp
 .intro i hi;refine gH (λhc=>?_) λhc=>?_
  .obtain ⟨y,hx⟩:=zj (i:=i) (l:=L) (by omega)
   have qe:=aI qR @hx;have jA:=yaA y;refine gF2 (λhc=>?_) λhc=>?_
   .rw [ybz,hsh,ybw hx hc];exact .refl _
   .exact ⟨i+1,⟨by omega,y6 hi.2 hx hc⟩,by omega,by simp⟩
  .have e:i=L.length:=by omega
   subst e;have ha:=ybx hi.2;have qe:=@qR;refine gE2 ?_;rw [ybz,hsh,ha];exact .refl _
def ybY (ls:List Lim) (L:List Wis) (hL:L.length*192<=140737488355328):Pure prog 14 [.sl 11 (ls.map Lim.pv),.sl 18 (L.map Wis.pv)] (.b (yk ls 3 && ybz L 5)):=by
 have h15:=pure15 ls 3;refine pz func14 f14.eq_1 λhwf X hX=>?_
 cases hs:yk ls 3 with
 | true=>
  rw [hs] at h15;have qe:=@qR;have jA:=h15;have jB:=yaB L hL;have jC:=ybN L 5;exact gD5
 | false=>
  rw [hs] at h15;have qe:=@qR;have jA:=h15;have jB:=nm 15 (.sl 18 []);have jC:=nm 59 (.b false);exact gD5
def few_sh (hs:yk ls n=true) (hc:zJ ls=0):zgb ls:=by
 have hl:=(zU hc).2;have key:∀ k,k<=ls.length->(((List.range k).flatMap λi=>match ls[i]? with|some l=>(zaq l).map λx=>(i,x)|none=>[]).length:Int)=yaj ls k:=by
  intro k
  induction k with
  | zero=>intro _;simp [yaj]
  | succ k ih=>
   intro hk;have hx:=xac (l:=ls) (i:=k) (by omega)
   have h3:=y7 (hl _ (xae hx));rw [yD hx,zbE,xad,hx];have:=ih (by omega)
   simp only [xaf]
   omega
 refine zwD ?_;have h2:((winA ls).length:Int)=yaj ls ls.length:=key ls.length (xap _);unfold yk at hs;simp only [xau,decide_eq_true_eq] at hs
 omega
def shw_sh (hs:ybz L n=true):ShW L:=λh w hw=>by
 unfold ybz at hs;rw [xau] at hs;have h1:=xaO.1 hs.2 w hw;obtain ⟨i,hi⟩:=xbl.1 hw;have h0:=yn h hi;unfold yaR at h1;simp only [xau,xbg,xbv,decide_eq_false_iff_not,decide_eq_true_eq] at h1;have:=yA w
 rcases h1.2 with h2|h2
 .exact absurd h0 h2
 .omega
def yck (hs:ybz L n=true):L.length<=66/\(zav L=0->(L.length:Int)<=n):=by
 unfold ybz longW at hs;simp only [xau,xbv,xbo,Bool.and_eq_false_iff,decide_eq_false_iff_not] at hs;refine ⟨by omega,λh=>?_⟩
 have:=(zR h).1
 omega
def yaC (L:List Wis) (R:List Res) (y:Int):zlk L R (yL L L.length y)=zlk L R λj=>decide ((zY L j:Int)≠y):=by
 rw [zjR,zjR]
 congr 1
 unfold zbL;refine zcK λi hi=>?_
 have hi:=xaG.1 hi;have h:zY L i<=i:=by unfold zY;split<;>omega
 have e:yL L L.length y i=decide ((zY L i:Int)≠y):=by
  unfold yL;rw [decide_eq_true (show (zY L i:Int) < (L.length:Int) by omega),xaZ]
 unfold zeA;rw [e]
def yaD (L:List Wis) (R:List Res):zlk L R (yL L L.length (-1))=zlk L R λ_=>true:=by
 rw [yaC];have e:(λj=>decide ((zY L j:Int)≠-1))=λ_=>true:=by
  funext j
  exact decide_eq_true (show (zY L j:Int)≠-1 by omega)
 rw [e]
def yal (hn:L.length<=64) (R:List Res) (f:Nat->Bool):(zlk L R f).length<=25664:=by
 have:=yaE L R f L.length;unfold zlk;omega
def ybO (h:zav L=0) (R:List Res):Pure prog 52 [.sl 18 (L.map Wis.pv),.sl 3 (R.map Res.pv)] (.i .i64 (zc8 L R)):=by
 have hn64:=(zR h).1
 refine pz func52 f52.eq_1 λhw X hX=>?_
 refine gF2 (λhc=>?_) λhc=>?_
 .rw [zc8,if_pos (by omega)];exact .refl _
 have hn:R.length=L.length:=by omega
 have hsp:zc8 L R=zn [zn (R.mapIdx (zkH L)),if (zq L).any (zhp L R)=true then 32 else 0]:=by rw [zc8,if_neg (by omega)]
 refine zh (κ:=Nat) (λi=>⟨[(0,.p (.sl 18 (L.map Wis.pv))),(1,.p (.sl 3 (R.map Res.pv))),(5,.p (.i .i64 i))],[],[],false⟩) (λi=>i<=R.length/\∀ x ∈ (R.mapIdx (zkH L)).take i,x=0) (λi=>R.length - i) 0 ?_ ?_ ?_
 .exact sS
 .simp
 .intro i hi
  refine gH (λhc=>?_) λhc=>?_
  .obtain ⟨r,hr⟩:=zj (i:=i) (l:=R) (by omega)
   obtain ⟨w,hwl⟩:=zj (i:=i) (l:=L) (by omega)
   have he:zkH L i r=zfy w r:=by unfold zkH;rw [hwl]
   obtain ⟨fq,f1,f2,f3,f4,f5⟩:=yQ (yn h hwl)
   have h47:=yz w f5 f2 f3 f1 f4
   have h38:=pure38 (zac w) r.minute
   have stop:∀ {c:Int},zfy w r=c->c≠0->zc8 L R=c:=fun {c} e hc=>by
    rw [<-e,<-he] at hc
    have h1:zn (R.mapIdx (zkH L))=zkH L i r:=zbr hi.2 (zaj hr) hc
    rw [hsp,zlL (by rw [h1];exact hc),h1,he,e]
   have go:zfy w r=0->∀ x ∈ (R.mapIdx (zkH L)).take (i+1),x=0:=λe=>zb0 hi.2 (zaj hr) (by rw [he,e])
   by_cases c1:r.name=w.req.name
   .have c1':=eq_true c1
    cases hg:r.gr with
    | true=>
     by_cases c2:r.minute ∈ zac w
     .have hz:zfy w r=0:=by unfold zfy;simp [hg,c1,c2,zn]
      rw [decide_eq_true c2] at h38
      have qe:=aI qR (aI @hr (aI @hwl (aI @hg (aI @c1' (aI @decide_true @xaC)))));have jA:=h47;have jB:=h38;refine gE2 ?_
      all_goals exact ⟨i+1,⟨by omega,go hz⟩,by omega,by simp⟩
     .have hz:zc8 L R=30:=stop (by unfold zfy;simp [hg,c1,c2,zn]) (by decide)
      rw [decide_eq_false c2] at h38
      have qe:=aI qR (aI @hr (aI @hwl (aI @hg (aI @c1' (aI @decide_true @xax)))));have jA:=h47;have jB:=h38;refine gE2 ?_
      all_goals (rw [hz];exact .refl _)
    | false=>
     by_cases c2:r.minute=0
     .have hz:zfy w r=0:=by unfold zfy;simp [hg,c1,c2,zn]
      have c2':=eq_true c2
      have qe:=aI qR (aI @hr (aI @hwl (aI @hg (aI @c1' (aI @c2' (aI @decide_true @xax))))));have jA:=nm 47 (.sl 1 []);have jB:=nm 46 (.b false);refine gE2 ?_
      all_goals exact ⟨i+1,⟨by omega,go hz⟩,by omega,by simp⟩
     .have hz:zc8 L R=19:=stop (by unfold zfy;simp [hg,c1,c2,zn]) (by decide)
      have c2':=eq_false c2
      have qe:=aI qR (aI @hr (aI @hwl (aI @hg (aI @c1' (aI @c2' (aI @decide_true (aI @decide_false @xax)))))));have jA:=nm 47 (.sl 1 []);have jB:=nm 46 (.b false);refine gE2 ?_
      all_goals (rw [hz];exact .refl _)
   .have c1':=eq_false c1
    have hz:zc8 L R=8:=stop (by unfold zfy;simp [c1,zn]) (by decide)
    have qe:=aI qR (aI @hr (aI @hwl (aI @c1' @decide_false)));refine gE2 ?_
    all_goals (rw [hz];exact .refl _)
  .have e:i=R.length:=by omega
   subst e
   have hall:∀ x ∈ R.mapIdx (zkH L),x=0:=by
    have:=hi.2
    rwa [xas (by simp)] at this
   have h0:zn (R.mapIdx (zkH L))=0:=zbj λx hx=>hall x (xbu hx)
   have hat:∀ (j:Nat) (q:Res) (w:Wis),R[j]?=some q->L[j]?=some w->q.gr=true->q.minute ∈ zac w:=λj q w hq hwl hg=>by
    have:=hall (zkH L j q) (xae (zaj hq))
    unfold zkH at this
    rw [hwl] at this
    exact (zdz this).2.1 hg
   clear hi
   have hbd:(∃ j,j < L.length/\yaf L R j=true)->zc8 L R=32:=λ⟨j,hj,hb⟩=>by
    have:(zq L).any (zhp L R)=true:=by rw [yar h R];exact xaV.2 ⟨j,xaG.2 hj,hb⟩
    rw [hsp,h0,this];rfl
   refine gE2 ?_
   refine zh (κ:=Nat) (λi=>⟨[(0,.p (.sl 18 (L.map Wis.pv))),(1,.p (.sl 3 (R.map Res.pv))),(6,.p (.i .i64 i))],[],[],false⟩) (λi=>i<=R.length/\∀ j,j < i->yaf L R j=false) (λi=>R.length - i) 0 ?_ ?_ ?_
   .exact sS
   .simp
   .intro i hi
    refine gH (λhc=>?_) λhc=>?_
    .obtain ⟨r,hr⟩:=zj (i:=i) (l:=R) (by omega)
     obtain ⟨a,ha⟩:=zj (i:=i) (l:=L) (by omega)
     have hil:i < L.length:=by omega
     have h40:=yd L hil
     have hnxt:yaf L R i=false->∀ j,j < i+1->yaf L R j=false:=λhb j hj=>by
      rcases Nat.lt_or_eq_of_le (show j<=i by omega) with hj|rfl
      .exact hi.2 j hj
      .exact hb
     have hra:=zW hr
     rcases zcH h ha with hk|⟨c,b,hk⟩
     .have hb:yaf L R i=false:=by unfold yaf zhp;rw [hk];simp
      rw [hk] at h40
      have hf:((0:Int)<=-1)=False:=eq_false (by omega)
      have qe:=aI qR (aI @hr (aI @hf @decide_false));have jA:=h40;have jB:=nm 133 (.b false);refine gE2 ?_
      all_goals exact ⟨i+1,⟨by omega,hnxt hb⟩,by omega,by simp⟩
     .have hlab:=hk.lab
      rw [hlab] at h40
      have hcl:c < R.length:=by have:=(xaa.1 hk.at_b).1;omega
      obtain ⟨q,hq⟩:=zj (l:=R) hcl
      have hrq:=zW hq
      have hf:((0:Int)<=(c:Int))=True:=eq_true (by omega)
      have hbq:yaf L R i=((r.gr != q.gr) || (r.gr && !ze8 a b r.minute q.minute)):=by
       unfold yaf zhp zyn grO
       rw [hlab]
       simp only [xam,hra,hrq,ha,hk.at_b,show ¬((c:Int) < 0) by omega,if_false,decide_false,xb5,show (0:Int)<=c by omega,decide_true,xaZ]
      have hb1:=hk.at_b
      cases hg:r.gr<;>cases hg2:q.gr
      .have hb:yaf L R i=false:=by rw [hbq,hg,hg2];rfl
       have qe:=aI qR (aI @hr (aI @hq (aI @hg (aI @hg2 (aI @hf (aI @decide_true (aI @zb2 (aI @zio (aI @xaC @xax)))))))));have jA:=h40;have jB:=nm 133 (.b false);refine gE2 ?_
       all_goals exact ⟨i+1,⟨by omega,hnxt hb⟩,by omega,by simp⟩
      .have hb:=hbd ⟨i,hil,by rw [hbq,hg,hg2];rfl⟩
       have qe:=aI qR (aI @hr (aI @hq (aI @hg (aI @hg2 (aI @hf (aI @decide_true (aI @zb2 (aI @zio (aI @xaC @xax)))))))));have jA:=h40;have jB:=nm 133 (.b false);refine gE2 ?_
       all_goals (rw [hb];exact .refl _)
      .have hb:=hbd ⟨i,hil,by rw [hbq,hg,hg2];rfl⟩
       have qe:=aI qR (aI @hr (aI @hq (aI @hg (aI @hg2 (aI @hf (aI @decide_true (aI @zb2 (aI @zio (aI @xaC @xax)))))))));have jA:=h40;have jB:=nm 133 (.b false);refine gE2 ?_
       all_goals (rw [hb];exact .refl _)
      .have m1:=y4 (yn h ha) (hat i r a hr ha hg)
       have m2:=y4 (yn h hb1) (hat c q b hq hb1 hg2)
       have h33:=ybF a b r.minute q.minute (by omega) (by omega) (λe e2=>hk.kind (e2.trans e.symm))
       cases hp:ze8 a b r.minute q.minute with
       | true=>
        have hb:yaf L R i=false:=by rw [hbq,hg,hg2,hp];rfl
        rw [hp] at h33
        have qe:=aI qR (aI @hr (aI @hq (aI @hg (aI @hg2 (aI @hf (aI @ha (aI @hb1 (aI @decide_true (aI @zb2 (aI @zio (aI @xaC @xax)))))))))));have jA:=h40;have jB:=h33;refine gE2 ?_
        all_goals exact ⟨i+1,⟨by omega,hnxt hb⟩,by omega,by simp⟩
       | false=>
        have hb:=hbd ⟨i,hil,by rw [hbq,hg,hg2,hp];rfl⟩
        rw [hp] at h33
        have qe:=aI qR (aI @hr (aI @hq (aI @hg (aI @hg2 (aI @hf (aI @ha (aI @hb1 (aI @decide_true (aI @zb2 (aI @zio (aI @xaC @xax)))))))))));have jA:=h40;have jB:=h33;refine gE2 ?_
        all_goals (rw [hb];exact .refl _)
    .have e:i=R.length:=by omega
     subst e
     have hb:(zq L).any (zhp L R)=false:=by
      rw [yar h R,Bool.eq_false_iff]
      intro hb
      obtain ⟨j,hj,hb⟩:=xaV.1 hb
      rw [hi.2 j (by rw [hn];exact xaG.1 hj)] at hb;cases hb
     rw [hsp,h0,hb]
     exact gD2
def ym (ls:List Lim) (L:List Wis) (R:List Res):Int:=zn [zJ ls,if zav L=0 then zc8 L R else zav L]
def yaa (h:ym ls L R=0):zJ ls=0/\zav L=0/\zc8 L R=0:=by
 unfold ym at h;obtain ⟨h1,h2⟩:=zi.1 h;have h2:=(zi.1 h2).1
 by_cases hc:zav L=0
 .rw [if_pos hc] at h2;exact ⟨h1,hc,h2⟩
 .rw [if_neg hc] at h2;exact absurd h2 hc
def yaz (ls:List Lim) (L:List Wis) (R:List Res):Pure prog 38 [.sl 11 (ls.map Lim.pv),.sl 18 (L.map Wis.pv),.sl 3 (R.map Res.pv)] (.i .i64 (ym ls L R)):=by
 have h23:=pure23 ls;have h21:=ybV L;have h19:=yV [zJ ls,zav L];refine pz func38 f38.eq_1 λhwf X hX=>?_
 by_cases h1:zJ ls=0
 .by_cases h2:zav L=0
  .have e:ym ls L R=zc8 L R:=by unfold ym;rw [h1,if_pos h2];simp [zn];intro k;exact k.symm
   have h0:=eq_true (show zn [zJ ls,zav L]=0 by rw [h1,h2];rfl)
   rw [e];have qe:=aI qR @h0;have jA:=h23;have jB:=h21;have jC:=h19;have jD:=ybO h2 R;exact gD5
  .have e:ym ls L R=zn [zJ ls,zav L]:=by unfold ym;rw [if_neg h2]
   have h0:=eq_false (show ¬zn [zJ ls,zav L]=0 from λk=>h2 (zi.1 (zi.1 k).2).1)
   rw [e];have qe:=aI qR @h0;have jA:=h23;have jB:=h21;have jC:=h19;exact gD5
 .have e:ym ls L R=zn [zJ ls,zav L]:=by unfold ym;rw [zlL h1,zlL h1]
  have h0:=eq_false (show ¬zn [zJ ls,zav L]=0 from λk=>h1 (zi.1 k).1)
  rw [e];have qe:=aI qR @h0;have jA:=h23;have jB:=h21;have jC:=h19;exact gD5
def ybS (ls:List Lim) (L:List Wis) (R:List Res):Pure prog 29 [.sl 11 (ls.map Lim.pv),.sl 18 (L.map Wis.pv),.sl 3 (R.map Res.pv)] (.i .i64 (zeY ls L R)):=by
 have h38:=yaz ls L R;refine pz func29 f29.eq_1 λhwf X hX=>?_
 by_cases h0:ym ls L R=0
 .obtain ⟨h1,h2,h3⟩:=yaa h0;have h0':=eq_true h0;obtain ⟨hn32,hls⟩:=zU h1;have hn64:=(zR h2).1;have h53:=yx h2 (yT h2 h3) L.length (-1);rw [yaD] at h53;have hpl:=yal hn64 R λ_=>true
  have h59:=pure59 ls (zlk L R λ_=>true) hn32 hls (by omega)
  have ha:=yci hls L R λ_=>true
  have e:zeY ls L R=if exB ls (zy ls ⟨[],[]⟩ (zlk L R λ_=>true) 1)=true then 14 else 0:=by unfold zeY;rw [if_pos h1,if_pos h2,if_pos h3]
  rw [e]
  by_cases hx:ybo ls (zlk L R λ_=>true)=[]
  .rw [if_neg λk=>ha.1 k hx]
   rw [hx] at h59;have qe:=aI qR (aI @h0' (@List.map_nil.{0,0}));have jA:=h38;have jB:=h53;have jC:=h59;exact gD5
  .rw [if_pos (ha.2 hx)];have hp:0 < (ybo ls (zlk L R λ_=>true)).length:=List.length_pos_iff.2 hx
   have hp':((0:Int) < ((ybo ls (zlk L R λ_=>true)).length:Int))=True:=eq_true (by omega)
   have qe:=aI qR (aI @h0' @hp');have jA:=h38;have jB:=h53;have jC:=h59;exact gD5
 .have h0':=eq_false h0;have e:zeY ls L R=ym ls L R:=by
   unfold zeY ym;unfold ym at h0
   by_cases h1:zJ ls=0
   .rw [if_pos h1,h1]
    by_cases h2:zav L=0
    .rw [if_pos h2,if_pos h2]
     by_cases h3:zc8 L R=0
     .rw [h1,if_pos h2,h3] at h0;exact absurd rfl h0
     .rw [if_neg h3];simp [zn]
    .rw [if_neg h2,if_neg h2];simp [zn]
   .rw [if_neg h1,zlL h1]
  rw [e];have qe:=aI qR @h0';have jA:=h38;exact gD2
def yak (R:List Res) (n:Int):Bool:=!decide (n < (R.length:Int)) && R.all λr=>!decide ((60:Int) < r.name.size)
def ybU (R:List Res) (n:Int):Pure prog 25 [.sl 3 (R.map Res.pv),.i .i64 n] (.b (yak R n)):=by
 refine pz func25 f25.eq_1 λhw X hX=>?_
 simp only [wfs,PV.wf,xaf,maxLen] at hw
 by_cases hl:n < (R.length:Int)
 .have hl':=eq_true hl;have e:yak R n=false:=by unfold yak;rw [decide_eq_true hl];rfl
  rw [e];have qe:=aI qR @hl';exact gD2
 .have hl':=eq_false hl;have e:yak R n=R.all λr=>!decide ((60:Int) < r.name.size):=by unfold yak;rw [decide_eq_false hl];rfl
  rw [e];have qe:=aI qR @hl';refine gE2 ?_;refine zh (κ:=Nat) (λi=>⟨[(0,.p (.sl 3 (R.map Res.pv))),(1,.p (.i .i64 n)),(5,.p (.i .i64 i))],[],[],false⟩) (λi=>i<=R.length/\(R.take i).all (λr=>!decide ((60:Int) < r.name.size))=true) (λi=>R.length - i) 0 ?_ ?_ ?_
  .exact sS
  .simp
  .intro i hi;refine gH (λhc=>?_) λhc=>?_
   .obtain ⟨r,hr⟩:=zj (i:=i) (l:=R) (by omega)
    by_cases hc:(60:Int) < r.name.size
    .have hc':=eq_true hc;have e:(R.all λr=>!decide ((60:Int) < r.name.size))=false:=by
      rw [List.all_eq_false];exact ⟨r,xae hr,by simp [hc]⟩
     rw [e];have qe:=aI qR (aI @hr @hc');exact gD2
    .have hc':=eq_false hc;have qe:=aI qR (aI @hr @hc');refine gE2 ?_
     all_goals exact ⟨i+1,⟨by omega,by rw [zE hr,List.all_append,hi.2];simp;omega⟩,by omega,by simp⟩
   .have e:i=R.length:=by omega
    subst e;rw [xah] at hi;rw [hi.2];exact gD2
def ycX (L:List Wis) (u:Unt) (o:Opt):(yaL L u o).length<=802:=by
 unfold yaL;have q1:=yX L u.1.toNat o.1;have q2:=yX L u.2.toNat o.2
 split
 .omega
 .rw [(zog _ _ _).length_eq,xad];omega
def ya0 (h2:zav L=0) (h3:zc8 L R=0) (hi:i < L.length) (ho:o ∈ wdF R ((i:Int),zau L i)):(0<=o.1/\o.1<=1439)/\(0<=zau L i->0<=o.2/\o.2<=1439):=by
 obtain ⟨hn,hE,hB⟩:=zbZ h3;have hR:=(yT h2 h3).2;unfold wdF at ho
 split at ho
 .rename_i hg;rw [xaX] at ho;subst ho;obtain ⟨a,ha⟩:=zj hi;obtain ⟨r,hr⟩:=zj (l:=R) (i:=i) (by omega)
  unfold grB at hg;rw [xam,zW hr] at hg;unfold grO;rw [xam,zW hr];refine ⟨hR r (xae hr) hg,λh0=>?_⟩
  rcases zcH h2 ha with hk|⟨k,b,hk⟩
  .omega
  .have hlab:=hk.lab;rw [hlab] at h0 ⊢;have hkl:=(xaa.1 hk.at_b).1;obtain ⟨q,hq⟩:=zj (l:=R) (i:=k) (by omega)
   rw [if_neg (by omega),xam,zW hq]
   have hbi:yaf L R i=false:=by
    have h5:(List.range L.length).any (yaf L R)=false:=by
     rw [<-yar h2 R,Bool.eq_false_iff];intro hx;obtain ⟨u,hu,hx⟩:=xaV.1 hx;rw [hB u hu] at hx;cases hx
    rw [List.any_eq_false] at h5;simpa using h5 i (xaG.2 hi)
   have hq2:q.gr=true:=by
    cases hq2:q.gr
    .exfalso
     unfold yaf zhp at hbi;rw [hlab] at hbi;simp only [xam,zW hr,zW hq,hg,hq2,show (0:Int)<=k by omega,decide_true,xaZ] at hbi
     cases hbi
    .rfl
   exact hR q (xae hq) hq2
 .cases ho
theorem yav {α:Type}:∀ (A:List α) (x y:α),(A++[x]).set A.length y=A++[y]
 | [],_,_=>rfl
 | a::A,x,y=>by
  have ih:=yav A x y;show a::(A++[x]).set A.length y=a::(A++[y]);rw [ih]
def ybQ (h1:zJ ls=0) (h:zav L=0) (h3:zc8 L R=0):Pure prog 42 [.sl 11 (ls.map Lim.pv),.sl 18 (L.map Wis.pv),.sl 3 (R.map Res.pv)] (.sl 3 ((zh6 ls L (wdF R) L.length).map Res.pv)):=by
 have hn64:=(zR h).1;obtain ⟨hn32,hls⟩:=zU h1;have hn:=(zbZ h3).1;have hsn:=λk hk=>ycz (ls:=ls) (F:=wdF R) (λi hi o ho=>ya0 h h3 hi ho) k hk
 have h92:=ybL L hn64;refine pz func42 f42.eq_1 λhw X hX=>?_
 have qe:=@qR;have jA:=h92;refine gE2 ?_;refine zh (κ:=Nat) (λk=>⟨[(0,.p (.sl 11 (ls.map Lim.pv))),(1,.p (.sl 18 (L.map Wis.pv))),(2,.p (.sl 3 (R.map Res.pv))),(7,.p (.sl 3 ((zh6 ls L (wdF R) k).map Res.pv))),(8,.p (.i .i64 k))],[],[],false⟩) (λk=>k<=L.length) (λk=>L.length - k) 0 ?_ ?_ ?_
 .refine gJ ?_;simp [zh6]
 .simp
 .intro k hk;have hQ:=hsn k hk;have e:zh6 ls L (wdF R) (k+1)=srvI ls L (wdF R) (zh6 ls L (wdF R) k) k:=by unfold zh6;rw [xbd,xaP];rfl
  have hend:k=L.length->zh6 ls L (wdF R) k=zh6 ls L (wdF R) L.length:=λe=>by rw [e]
  generalize zh6 ls L (wdF R) k=Q at *;refine gH (λhc=>?_) λhc=>?_
  .have hil:k < L.length:=by omega
   have h93:=ybK L hil;have h40:=yd L hil;obtain ⟨a,ha⟩:=zj hil;obtain ⟨r,hx⟩:=zj (l:=R) (i:=k) (by omega)
   have hra:=zW hx
   by_cases hu:zau L k < 0\/(k:Int) < zau L k
   .have hu':(decide (zau L k < 0) || decide ((k:Int) < zau L k))=true:=by simpa using hu
    rw [hu'] at h93;unfold srvI at e;rw [if_pos hu] at e;have hgb:grB R ((k:Int),zau L k)=r.gr:=by unfold grB;rw [xam,hra]
    have ewd:wdF R ((k:Int),zau L k)=if r.gr=true then [grO R ((k:Int),zau L k)] else []:=by unfold wdF;rw [hgb]
    rw [ewd] at e;have hor:=λo (ho:o ∈ wdF R ((k:Int),zau L k))=>ya0 h h3 hil ho
    rw [ewd] at hor;cases hg:r.gr with
    | false=>
     rw [hg] at e;simp only [xaD,if_false,List.find?_nil] at e;have qe:=aI qR (aI @hx (aI @hg (aI @xaC @xax)));have jA:=h93;refine gE2 ?_
     all_goals exact ⟨k+1,by omega,by omega,by rw [e];simp⟩
    | true=>
     rw [hg] at e hor;simp only [if_true,List.find?_cons,List.find?_nil] at e hor;obtain ⟨r1,r2⟩:=hor _ (xaX.2 rfl);have h53:=yx h hQ.ok (k:Int) (-1);have h96:=ybJ h hil (grO R ((k:Int),zau L k)) r1 r2;have h95:=yay ls (zlk L Q (yL L k (-1))) (yaL L ((k:Int),zau L k) (grO R ((k:Int),zau L k))) hn32 hls (by have:=yal hn64 Q (yL L k (-1));have:=ycX L ((k:Int),zau L k) (grO R ((k:Int),zau L k));omega)
     rw [ycM hls] at h95;have h97:=ybI h hQ hil (grO R ((k:Int),zau L k));have hgo:grO R ((k:Int),zau L k)=(r.minute,if zau L k < 0 then -1 else (za5 R (zau L k).toNat).minute):=by unfold grO;rw [xam,hra]
     rcases zcH h ha with hk2|⟨c,b,hk2⟩
     .rw [hk2,if_pos (by omega)] at hgo
      rw [hk2] at h40 e h96 h95 h97;rw [hgo] at h96 h95 h97 e;have hf:((0:Int)<=-1)=False:=eq_false (by omega)
      cases hfit:fitX ls L (zbL L Q λj=>decide (zY L j < k)) ((k:Int),-1) (r.minute,-1) with
      | true=>
       rw [hfit] at e h95;simp only [] at e;have qe:=aI qR (aI @hx (aI @hg (aI @hf @xaC)));repeat' first|refine gC ?_ ?_<;>intro hc<;>try contradiction|refine za h93 ?_|refine za h40 ?_|refine za h53 ?_|refine za h96 ?_|refine za h95 ?_|refine za h97 ?_|refine gG ?_|show AK _;intro J Z|refine gJ ?_|omega|exact aT
       all_goals exact ⟨k+1,by omega,by omega,by rw [e];simp⟩
      | false=>
       rw [hfit] at e h95;simp only [] at e;have qe:=aI qR (aI @hx (aI @hg (aI @hf @xaC)));have jA:=h93;have jB:=h40;have jC:=h53;have jD:=h96;have jE:=h95;refine gE5 ?_
       all_goals exact ⟨k+1,by omega,by omega,by rw [e];simp⟩
     .have hlab:=hk2.lab;have hkl:=(xaa.1 hk2.at_b).1;obtain ⟨q,hq⟩:=zj (l:=R) (i:=c) (by omega)
      rw [hlab,if_neg (by omega),xam,zW hq] at hgo
      rw [hlab] at h40 e h96 h95 h97;rw [hgo] at h96 h95 h97 e;have hf:((0:Int)<=(c:Int))=True:=eq_true (by omega)
      cases hfit:fitX ls L (zbL L Q λj=>decide (zY L j < k)) ((k:Int),(c:Int)) (r.minute,q.minute) with
      | true=>
       rw [hfit] at e h95;simp only [] at e;have qe:=aI qR (aI @hx (aI @hq (aI @hg (aI @hf (aI @xaC (aI @rt1 @rt4))))));repeat' first|refine gC ?_ ?_<;>intro hc<;>try contradiction|refine za h93 ?_|refine za h40 ?_|refine za h53 ?_|refine za h96 ?_|refine za h95 ?_|refine za h97 ?_|refine gG ?_|show AK _;intro J Z|refine gJ ?_|omega|exact aT
       all_goals exact ⟨k+1,by omega,by omega,by rw [e];simp⟩
      | false=>
       rw [hfit] at e h95;simp only [] at e;have qe:=aI qR (aI @hx (aI @hq (aI @hg (aI @hf (aI @xaC (aI @rt1 @rt4))))));have jA:=h93;have jB:=h40;have jC:=h53;have jD:=h96;have jE:=h95;refine gE5 ?_
       all_goals exact ⟨k+1,by omega,by omega,by rw [e];simp⟩
   .have hu':(decide (zau L k < 0) || decide ((k:Int) < zau L k))=false:=by simpa using hu
    rw [hu'] at h93;unfold srvI at e;rw [if_neg hu] at e;have qe:=aI qR (aI @hx @xax);have jA:=h93;refine gE2 ?_
    all_goals exact ⟨k+1,by omega,by omega,by rw [e];simp⟩
  .have e2:k=L.length:=by omega
   rw [hend e2];exact gD2
def fitW (h1:zJ ls=0) (hn64:L.length<=64) (R:List Res) (f:Nat->Bool) (w:Wis) (m:Int):Pure prog 95 [.sl 11 (ls.map Lim.pv),.sl 7 ((zlk L R f).map Mov.pv),.sl 7 ((zbF (w.req.at m)).map Mov.pv)] (.b (zst ls (zbL L R f) w m)):=by
 obtain ⟨hn32,hls⟩:=zU h1;have hp:=yal hn64 R f;have hm:=zbd (w.req.at m);have h95:=yay ls (zlk L R f) (zbF (w.req.at m)) hn32 hls (by omega)
 rw [yat hls ((zog zjb _ _).trans ((zgx L R f).append (List.Perm.refl _))) (List.Perm.refl _)] at h95;exact h95
def ybP (h1:zJ ls=0) (h2:zav L=0) (h3:zc8 L R=0) (hwl:L[i]?=some w):Pure prog 43 [.sl 11 (ls.map Lim.pv),.sl 18 (L.map Wis.pv),.sl 3 (R.map Res.pv),.i .i64 i] (.sl 1 ((zo8 ls (zoc L R i) w (zwt w)).map (.i .i64))):=by
 have hn64:=(zR h2).1;have hil:i < L.length:=(xaa.1 hwl).1;obtain ⟨fq,f1,f2,f3,f4,hst⟩:=yQ (yn h2 hwl);have hNl:=zyo hst;have hrem:w.req.minute.tmod w.step=w.req.minute % w.step:=xbV (by omega)
 have hs0:=Int.emod_nonneg w.req.minute (show w.step≠0 by omega)
 have hs1:=Int.emod_lt_of_pos w.req.minute (show 0 < w.step by omega)
 have hne:=eq_false (show ¬w.step=0 by omega)
 have hm0:ze9 w 0=w.req.minute % w.step:=by unfold ze9;simp
 have hm1:∀ j,ze9 w (j+1)=ze9 w j+w.step:=λj=>by unfold ze9;push_cast;rw [Int.add_mul];omega
 have hmp:∀ j,0<=ze9 w j:=λj=>by unfold ze9;have:=Int.mul_nonneg (show 0<=(j:Int) by omega) (show 0<=w.step by omega);omega
 have hNb:zwt w<=1441:=by
  refine xbC λhh=>?_
  have:=(hNl 1440).1 (by omega)
  have h5:∀ j:Nat,(j:Int)<=ze9 w j:=λj=>by
   induction j with
   | zero=>exact hmp 0
   | succ j ih=>rw [hm1];omega
  have:=h5 1440
  omega
 rw [<-hm0] at hrem;have h53:=yx h2 (yT h2 h3) L.length i;rw [yaC] at h53;refine pz func43 f43.eq_1 λhw X hX=>?_
 have qe:=aI qR (aI @hwl (aI @hrem @hne));have jA:=h53;refine gE2 ?_;refine run_ownL 100 3 1 (κ:=Nat) (λj=>⟨[(0,.p (.sl 11 (ls.map Lim.pv))),(1,.p (.sl 18 (L.map Wis.pv))),(3,.p (.i .i64 i)),(9,.row 100 (zo8 ls (zoc L R i) w j).length),(10,.p (.sl 7 ((zlk L R λj=>decide ((zY L j:Int)≠(i:Int))).map Mov.pv))),(11,.p (.i .i64 (ze9 w j)))],[(100,.row 3 1 ((zo8 ls (zoc L R i) w j).map (.i .i64)) false)],[],false⟩) (λj=>j<=zwt w) (λj=>zwt w - j) 0 ?_ ?_ ?_
 .refine ⟨gO ?_,gO ?_⟩<;>simp [zo8]
 .simp
 .intro j hj;have hkl:=zuu ls (zoc L R i) w j;have hjl:=hNl j;have hmpj:=hmp j;refine gH (λhc=>?_) λhc=>?_
  .have hnx:=zqF ls (zoc L R i) w j;have hmj:=hm1 j;have h64:=yg w (ze9 w j) fq (by omega)
   have h95:=fitW h1 hn64 R (λj=>decide ((zY L j:Int)≠(i:Int))) w (ze9 w j)
   rw [show (zbL L R λj=>decide ((zY L j:Int)≠(i:Int)))=zoc L R i from rfl] at h95
   cases hW:zst ls (zoc L R i) w (ze9 w j) with
   | true=>
    rw [hW] at hnx h95;simp only [if_true] at hnx;have hll:(zo8 ls (zoc L R i) w (j+1)).length=(zo8 ls (zoc L R i) w j).length+1:=by rw [hnx];simp
    have qe:=aI qR @hwl;have jA:=h64;have jB:=h95;refine gE2 ?_
    all_goals exact ⟨j+1,by omega,by omega,by simp [hnx,hmj],by simp [hnx]⟩
   | false=>
    rw [hW] at hnx h95;simp only [xaD,if_false,xar] at hnx;have qe:=aI qR @hwl;have jA:=h64;have jB:=h95;refine gE2 ?_
    all_goals exact ⟨j+1,by omega,by omega,by simp [hnx,hmj],by simp [hnx]⟩
  .have e:j=zwt w:=by omega
   subst e;exact gD2
def ybR (h1:zJ ls=0) (h2:zav L=0) (h3:zc8 L R=0) (w:Wis) (hw0:zfI w=0):Pure prog 41 [.sl 11 (ls.map Lim.pv),.sl 18 (L.map Wis.pv),.sl 3 (R.map Res.pv),w.pv] (.sl 3 ((R++[zwl ls L R w]).map Res.pv)):=by
 have hn64:=(zR h2).1;have hn:=(zbZ h3).1;obtain ⟨fq,f1,f2,f3,f4,hst⟩:=yQ hw0;have h53:=yx h2 (yT h2 h3) L.length (-1);rw [yaD] at h53;have h47:=yz w hst f2 f3 f1 f4;have h96:=ycZ hw0;have hrg:=λm (hm:m ∈ zac w)=>y4 hw0 hm
 have hO:zwl ls L R w=match (zac w).find? (zst ls (zbL L R λ_=>true) w) with
  | some m=>⟨w.req.name,m,true⟩
  | none=>⟨w.req.name,0,false⟩:=rfl
 refine pz func41 f41.eq_1 λhw X hX=>?_
 generalize zac w=C at *;have hset:∀ y,(R.map Res.pv++[Res.pv ⟨w.req.name,0,false⟩]).set L.length y=R.map Res.pv++[y]:=λy=>by
  have:=yav (R.map Res.pv) (Res.pv ⟨w.req.name,0,false⟩) y;rw [xaf,hn] at this;exact this
 have qe:=aI qR (aI @yaQ @zwW);have jA:=h53;have jB:=h47;refine gE2 ?_;refine zh (κ:=Nat) (λn=>⟨[(0,.p (.sl 11 (ls.map Lim.pv))),(1,.p (.sl 18 (L.map Wis.pv))),(7,.lp 7 0),(9,.row 13 (R.length+1)),(10,.p (.sl 7 ((zlk L R λ_=>true).map Mov.pv))),(11,.p (.sl 1 (C.map (.i .i64)))),(12,.p (.i .i64 n))],[(7,.box (w.cells.map .p) false),(13,.row 165 3 ((R++[(⟨w.req.name,0,false⟩:Res)]).map Res.pv) false)],[],false⟩) (λn=>n<=C.length/\∀ y ∈ C.take n,zst ls (zbL L R λ_=>true) w y=false) (λn=>C.length - n) 0 ?_ ?_ ?_
 .exact sS
 .simp
 .intro n hnn;obtain ⟨hnl,hno⟩:=hnn;refine gH (λhc=>?_) λhc=>?_
  .obtain ⟨m,hm⟩:=zj (i:=n) (l:=C) (by omega)
   have hmr:=hrg m (xae hm);have h64:=yg w m fq hmr;have h95:=fitW h1 hn64 R (λ_=>true) w m
   cases hW:zst ls (zbL L R λ_=>true) w m with
   | true=>
    rw [hW] at h95;have hR:zwl ls L R w=⟨w.req.name,m,true⟩:=by rw [hO,zrm hno hm hW]
    rw [hR];have qe:=aI qR @hm;have jA:=h64;have jB:=h95;refine gE2 ?_
    all_goals (rw [xa6,xa6];exact ybA (congrArg (PV.sl 3) (hset _)))
   | false=>
    rw [hW] at h95;have qe:=aI qR @hm;have jA:=h64;have jB:=h95;refine gE2 ?_
    all_goals exact ⟨n+1,⟨by omega,zd1 hno hm hW⟩,by omega,by simp⟩
  .have e:n=C.length:=by omega
   subst e;rw [xah] at hno;have hR:zwl ls L R w=⟨w.req.name,0,false⟩:=by rw [hO,List.find?_eq_none.2 λx hx=>by rw [hno x hx];simp]
   rw [hR];exact gD2
def ycA (h:yaR w=true) (h0:zfI w=0):zg2 w.req.minute w.ear w.lat w.step<=12:=by
 unfold yaR at h;simp only [xau,xbg,xbv,decide_eq_false_iff_not,decide_eq_true_eq] at h;have:=yA w
 rcases h.2 with h2|h2
 .exact absurd h0 h2
 .omega
abbrev chgP (R:List Res) (w:Wis) (x:Int):PV:=.agg [.sl 3 (R.map Res.pv),.s w.req.name,.s w.req.carrier,.s w.req.kind,.s w.req.term,.s w.req.partner,.s w.req.link,.i .i64 w.req.per.fro,.i .i64 w.req.per.to,.i .i64 w.req.per.days,.i .i64 w.req.minute,.i .i64 w.req.seats,.i .i64 w.req.size,.i .i64 w.req.noise,.i .i64 w.ear,.i .i64 w.lat,.i .i64 w.step,.i .i64 w.least,.i .i64 w.most,.i .i64 x]
def wdR (ls:List Lim) (L:List Wis) (R:List Res):List Res:=if ym ls L R=0 then zh6 ls L (wdF R) L.length else []
def ycJ (h:zav L=0) (hw:L[i]?=some w):0<=zau L i↔¬w.req.link=s0:=by
 constructor
 .intro h0 e;unfold zau zuE at h0;rw [hw] at h0;simp only [if_pos e] at h0
  omega
 .intro hl
  rcases zcH h hw with h1|⟨k,b,hk⟩
  .exfalso
   have he:=((zR h).2 i w hw).2;unfold zjj at he;rw [if_neg hl] at he;have h2:zeH w.req.link L=-1:=by
    unfold zau zuE at h1;rw [hw] at h1;simp only [if_neg hl] at h1;exact h1
   rw [h2] at he
   split at he
   .rw [if_pos (by omega)] at he;cases he
   .cases he
  .rw [hk.lab];omega
def ybZ (ls:List Lim) (L:List Wis) (R:List Res) (w:Wis) (x:Int) (hn:ls.length*112<=140737488355328) (hL:L.length*192<=140737488355328) (hR:R.length*32<=140737488355328):Pure prog 5 [.sl 11 (ls.map Lim.pv),.sl 18 (L.map Wis.pv),chgP R w x] (.b true):=by
 have h14:=ybY ls L hL
 have h24:=zdC R hR
 have h25:=ybU R 8
 have h33:=yaA w
 refine zqn (cFb func5 f5.eq_1) (by simp) λhwf X hX=>?_
 cases hs:(yk ls 3 && ybz L 5) with
 | false=>
  rw [hs] at h14
  have qe:=aI qR (aI @xaC @xax);have jA:=pure6013;have jB:=h14;have jC:=nm 24 (.sl 3 []);have jD:=nm 25 (.b false);have jE:=nm 33 (.b false);exact gD5
 | true=>
 rw [hs] at h14
 rw [xau] at hs
 cases hr:yak R 8 with
 | false=>
  rw [hr] at h25
  have qe:=aI qR (aI @xaC @xax);have jA:=pure6013;have jB:=h14;have jC:=h24;have jD:=h25;have jE:=nm 33 (.b false);exact gD5
 | true=>
 rw [hr] at h25
 cases hws:yaR w with
 | false=>
  rw [hws] at h33
  have qe:=aI qR (aI @xaC @xax);have jA:=pure6013;have jB:=h14;have jC:=h24;have jD:=h25;have jE:=h33;exact gD5
 | true=>
 rw [hws] at h33
 have hfw:zJ ls=0->zgb ls:=λh=>few_sh hs.1 h
 have hsw:=shw_sh hs.2
 have hw12:zfI w=0->zg2 w.req.minute w.ear w.lat w.step<=12:=λh=>ycA hws h
 have hL5:=(yck hs.2).2
 have h35:=zuk hfw hsw R w hw12
 have h36:Pure prog 36 [.sl 11 (ls.map Lim.pv),.sl 18 (L.map Wis.pv),.sl 3 (R.map Res.pv)] (.tup [.sl 3 ((wdR ls L R).map Res.pv),.i .i64 (ym ls L R)]):=by
  have:=zuj hfw hsw R
  rw [show zn [zJ ls,if zav L=0 then zc8 L R else zav L]=ym ls L R from rfl] at this
  unfold wdR
  by_cases h:ym ls L R=0
  .obtain ⟨a,b,c⟩:=yaa h
   rw [if_pos h,zii (zU a).2 b] at this
   rw [if_pos h];exact this
  .rw [if_neg h] at this
   rw [if_neg h];exact this
 have h37:=zui hfw hsw R x
 have h29:=ybS ls L R
 have h38:=yaz ls L R
 have h15:=yaB L hL
 have h17:=ybX ls hn
 have h18:=ybW L hL
 have h27:=ybT R hR
 have hR8:R.length<=8:=by
  unfold yak at hr
  rw [xau] at hr
  have:=hr.1
  simp only [xbv,decide_eq_false_iff_not] at this
  omega
 have hAl:(ztx ls L R w).length<=9:=by unfold ztx;split<;>simp<;>omega
 have hBl:(wdR ls L R).length<=66:=by
  unfold wdR
  split
  .rename_i h
   have hsl:=(ycz (ls:=ls) (F:=wdF R) (λi hi o ho=>ya0 (yaa h).2.1 (yaa h).2.2 hi ho) L.length (xap _)).ok.1
   have:=(yck hs.2).1
   omega
  .simp
 have hA1:∀ h:zwm ls L R w=0,ztx ls L R w=R++[zwl ls L R w]:=λh=>by unfold ztx;rw [if_pos h]
 have hA0:¬zwm ls L R w=0->ztx ls L R w=[]:=λh=>by unfold ztx;rw [if_neg h]
 have hB1:ym ls L R=0->wdR ls L R=zh6 ls L (wdF R) L.length:=λh=>by unfold wdR;rw [if_pos h]
 have hB0:¬ym ls L R=0->wdR ls L R=[]:=λh=>by unfold wdR;rw [if_neg h]
 have hC1:∀ (i:Nat) (v:Wis),x=i->L[i]?=some v->zo9 ls L R x=0->zo7 ls L R x=zo8 ls (zoc L R i) v (zwt v):=λi v hi hv h=>by unfold zo7;rw [if_pos h,hi,xam,hv]
 have hC0:¬zo9 ls L R x=0->zo7 ls L R x=[]:=λh=>by unfold zo7;rw [if_neg h]
 generalize ztx ls L R w=A at *
 generalize wdR ls L R=B at *
 generalize zo7 ls L R x=C at *
 have qe:=aI qR (aI @xaC @xax);repeat' first|refine gC ?_ ?_<;>intro hc<;>try contradiction|refine za pure6013 ?_|refine zg (λ_=>h14) ?_|refine zg (λ_=>h24) ?_|refine zg (λ_=>h25) ?_|refine zg (λ_=>h33) ?_|refine za h15 ?_|refine za h24 ?_|refine gG ?_|show AK _;intro J Z|refine gJ ?_|omega|exact aT
 refine zh (κ:=Nat) (λk=>⟨[(0,.p (.sl 11 (ls.map Lim.pv))),(1,.p (.sl 18 (L.map Wis.pv))),(5,.lp 5 0),(7,.p (.sl 18 (L.map Wis.pv))),(8,.p (.sl 3 (R.map Res.pv))),(50,.p (.i .i64 L.length)),(51,.p (.i .i64 k))],[(5,.box [.p (.sl 3 (R.map Res.pv)),.p (.s w.req.name),.p (.s w.req.carrier),.p (.s w.req.kind),.p (.s w.req.term),.p (.s w.req.partner),.p (.s w.req.link),.p (.i .i64 w.req.per.fro),.p (.i .i64 w.req.per.to),.p (.i .i64 w.req.per.days),.p (.i .i64 w.req.minute),.p (.i .i64 w.req.seats),.p (.i .i64 w.req.size),.p (.i .i64 w.req.noise),.p (.i .i64 w.ear),.p (.i .i64 w.lat),.p (.i .i64 w.step),.p (.i .i64 w.least),.p (.i .i64 w.most),.p (.i .i64 x)] false)],[],false⟩) (λk=>k<=L.length) (λk=>L.length - k) 0 ?_ ?_ ?_
 .exact sS
 .simp
 .intro k hk
  by_cases hkl:k < L.length
  .have hkl':((k:Int) < (L.length:Int))=True:=eq_true (by omega)
   obtain ⟨v,hx⟩:=zj hkl
   have h34:=yh v
   by_cases c1:zfI v=0
   .have c1':=eq_true c1
    by_cases c2:v.step < 10
    .have c2':=eq_true c2
     have qe:=aI qR (aI @hkl' (aI @hx (aI @c1' (aI @c2' @decide_true))));have jA:=h34;have jB:=pure6013;exact gD2
    .have c2':=eq_false c2
     have qe:=aI qR (aI @hkl' (aI @hx (aI @c1' (aI @c2' yDF))));have jA:=h34;refine gE2 ?_
     all_goals exact ⟨k+1,by omega,by omega,by simp⟩
   .have c1':=eq_false c1
    have qe:=aI qR (aI @hkl' (aI @hx (aI @c1' yDF)));have jA:=h34;refine gE2 ?_
    all_goals exact ⟨k+1,by omega,by omega,by simp⟩
  .have hkl':((k:Int) < (L.length:Int))=False:=eq_false (by omega)
   clear hkl hk
   have qe:=aI qR (aI @hkl' @decide_false);repeat first|refine gG ?_|show AK _;intro J Z|refine gJ ?_|omega|exact aT
   have qe:=@qR;(refine gC ?_ ?_<;>intro hc<;>try contradiction)
   refine zcU ?_
   have qe:=@qR;repeat' first|refine za h17 ?_|refine za h18 ?_|refine za h27 ?_|refine za h35 ?_|refine za h36 ?_|refine za h37 ?_|refine za h38 ?_|refine za h29 ?_|refine za h15 ?_|refine gG ?_|show AK _;intro J Z|refine gJ ?_|omega|exact aT
   refine yS ⟨[(0,.p (.sl 11 (ls.map Lim.pv))),(1,.p (.sl 18 (L.map Wis.pv))),(5,.lp 5 0),(7,.p (.sl 18 (L.map Wis.pv))),(8,.p (.sl 3 (R.map Res.pv))),(10,.p (.sl 3 (A.map Res.pv))),(11,.p (.i .i64 (zwm ls L R w))),(12,.p (.sl 3 (B.map Res.pv))),(13,.p (.i .i64 (ym ls L R))),(14,.p (.sl 1 (C.map (.i .i64)))),(15,.p (.i .i64 (zo9 ls L R x))),(16,.p (.i .i64 (ym ls L R))),(17,.p (.i .i64 (if zeY ls L R=0 then zfI w else zeY ls L R))),(18,.p (.i .i64 (zeY ls L R)))],[(5,.box [.p (.sl 3 (R.map Res.pv)),.p (.s w.req.name),.p (.s w.req.carrier),.p (.s w.req.kind),.p (.s w.req.term),.p (.s w.req.partner),.p (.s w.req.link),.p (.i .i64 w.req.per.fro),.p (.i .i64 w.req.per.to),.p (.i .i64 w.req.per.days),.p (.i .i64 w.req.minute),.p (.i .i64 w.req.seats),.p (.i .i64 w.req.size),.p (.i .i64 w.req.noise),.p (.i .i64 w.ear),.p (.i .i64 w.lat),.p (.i .i64 w.step),.p (.i .i64 w.least),.p (.i .i64 w.most),.p (.i .i64 x)] false)],[],false⟩ ?_ ?_
   .by_cases h0:zeY ls L R=0
    .have h0':=eq_true h0
     have h34:=yh w
     have qe:=aI qR (aI @h0' @decide_true);have jA:=h34;refine gE2 ?_
     all_goals (show Cov _ _;simp only [qS,seval]<;>simp [h0])
    .have h0':=eq_false h0
     have qe:=aI qR (aI @h0' @decide_false);refine gE2 ?_
     all_goals (show Cov _ _;simp only [qS,seval]<;>simp [h0])
   refine zbC (yS ⟨[(0,.p (.sl 11 (ls.map Lim.pv))),(1,.p (.sl 18 (L.map Wis.pv))),(5,.lp 5 0),(7,.p (.sl 18 (L.map Wis.pv))),(8,.p (.sl 3 (R.map Res.pv))),(10,.p (.sl 3 (A.map Res.pv))),(11,.p (.i .i64 (zwm ls L R w))),(12,.p (.sl 3 (B.map Res.pv))),(13,.p (.i .i64 (ym ls L R))),(14,.p (.sl 1 (C.map (.i .i64)))),(15,.p (.i .i64 (zo9 ls L R x))),(16,.p (.i .i64 (ym ls L R))),(17,.p (.i .i64 (zwm ls L R w))),(18,.p (.i .i64 (zeY ls L R)))],[(5,.box [.p (.sl 3 (R.map Res.pv)),.p (.s w.req.name),.p (.s w.req.carrier),.p (.s w.req.kind),.p (.s w.req.term),.p (.s w.req.partner),.p (.s w.req.link),.p (.i .i64 w.req.per.fro),.p (.i .i64 w.req.per.to),.p (.i .i64 w.req.per.days),.p (.i .i64 w.req.minute),.p (.i .i64 w.req.seats),.p (.i .i64 w.req.size),.p (.i .i64 w.req.noise),.p (.i .i64 w.ear),.p (.i .i64 w.lat),.p (.i .i64 w.step),.p (.i .i64 w.least),.p (.i .i64 w.most),.p (.i .i64 x)] false)],[],false⟩ ?_ ?_)
   .have h39:=yr L w.req.name
    by_cases h0:(if zeY ls L R=0 then zfI w else zeY ls L R)=0
    .have h0':=eq_true h0
     have ha:zeY ls L R=0:=Decidable.byContradiction λk=>by rw [if_neg k] at h0;exact k h0
     rw [if_pos ha] at h0
     have hc5:=hL5 (zkA ha).2.1
     have hrv:zwm ls L R w=zn [if 0<=zeH w.req.name L then 9 else 0,if ¬w.req.link=s0 then 32 else 0]:=by
      unfold zwm zxK
      rw [if_pos ha,h0,if_neg (show ¬(L.length:Int)=64 by omega)]
      simp [zn]
     by_cases c1:0<=zeH w.req.name L
     .have c1':=eq_true c1
      have qe:=aI qR (aI @h0' (aI @c1' @decide_true));have jA:=h39;refine gE2 ?_
      all_goals (show Cov _ _;simp only [qS,seval]<;>simp [hrv,c1,zn])
     .have c1':=eq_false c1
      by_cases c2:w.req.link=s0
      .have c2':=eq_true c2
       have qe:=aI qR (aI @h0' (aI @c1' (aI @c2' (aI @decide_true (aI @decide_false @xaC)))));have jA:=h39;refine gE2 ?_
       all_goals (show Cov _ _;simp only [qS,seval]<;>simp [hrv,c1,c2,zn,ha,h0])
      .have c2':=eq_false c2
       have qe:=aI qR (aI @h0' (aI @c1' (aI @c2' (aI @decide_true (aI @decide_false @xax)))));have jA:=h39;refine gE2 ?_
       all_goals (show Cov _ _;simp only [qS,seval]<;>simp [hrv,c1,c2,zn])
    .have h0':=eq_false h0
     have hrv:zwm ls L R w=if zeY ls L R=0 then zfI w else zeY ls L R:=by
      unfold zwm
      by_cases ha:zeY ls L R=0
      .rw [if_pos ha] at h0
       rw [if_pos ha,if_pos ha];unfold zxK;exact zlL h0
      .rw [if_neg ha,if_neg ha]
     have qe:=aI qR (aI @h0' @decide_false);refine gE2 ?_
     all_goals (show Cov _ _;simp only [qS,seval]<;>simp [hrv])
   refine zbC (yS ⟨[(0,.p (.sl 11 (ls.map Lim.pv))),(1,.p (.sl 18 (L.map Wis.pv))),(5,.lp 5 0),(7,.p (.sl 18 (L.map Wis.pv))),(8,.p (.sl 3 (R.map Res.pv))),(10,.p (.sl 3 (A.map Res.pv))),(11,.p (.i .i64 (zwm ls L R w))),(12,.p (.sl 3 (B.map Res.pv))),(13,.p (.i .i64 (ym ls L R))),(14,.p (.sl 1 (C.map (.i .i64)))),(15,.p (.i .i64 (zo9 ls L R x))),(16,.p (.i .i64 (ym ls L R))),(17,.p (.i .i64 (zwm ls L R w))),(18,.p (.i .i64 (zo9 ls L R x)))],[(5,.box [.p (.sl 3 (R.map Res.pv)),.p (.s w.req.name),.p (.s w.req.carrier),.p (.s w.req.kind),.p (.s w.req.term),.p (.s w.req.partner),.p (.s w.req.link),.p (.i .i64 w.req.per.fro),.p (.i .i64 w.req.per.to),.p (.i .i64 w.req.per.days),.p (.i .i64 w.req.minute),.p (.i .i64 w.req.seats),.p (.i .i64 w.req.size),.p (.i .i64 w.req.noise),.p (.i .i64 w.ear),.p (.i .i64 w.lat),.p (.i .i64 w.step),.p (.i .i64 w.least),.p (.i .i64 w.most),.p (.i .i64 x)] false)],[],false⟩ ?_ ?_)
   .by_cases h0:zeY ls L R=0
    .have h0':=eq_true h0
     by_cases c1:x < 0
     .have c1':=eq_true c1
      have e:zo9 ls L R x=10:=by unfold zo9;rw [if_pos h0,if_pos (.inl c1)]
      have qe:=aI qR (aI @h0' (aI @c1' @decide_true));refine gE2 ?_
      all_goals (show Cov _ _;simp only [qS,seval]<;>simp [e])
     .have c1':=eq_false c1
      by_cases c2:(L.length:Int)<=x
      .have c2':=eq_true c2
       have e:zo9 ls L R x=10:=by unfold zo9;rw [if_pos h0,if_pos (.inr c2)]
       have qe:=aI qR (aI @h0' (aI @c1' (aI @c2' yDF)));refine gE2 ?_
       all_goals (show Cov _ _;simp only [qS,seval]<;>simp [e])
      .have c2':=eq_false c2
       obtain ⟨i,hi⟩:∃ i:Nat,x=(i:Int):=⟨x.toNat,by omega⟩
       obtain ⟨v,hv⟩:=zj (i:=i) (l:=L) (by omega)
       have h40:=yd L (show i < L.length by omega)
       rw [<-hi] at h40
       have hsat:=ycJ (zkA h0).2.1 hv
       have e:zo9 ls L R x=if v.req.link=s0 then 0 else 32:=by unfold zo9;rw [if_pos h0,if_neg (by omega),hi,xam,hv]
       by_cases c3:0<=zau L i
       .have c3':=eq_true c3
        rw [if_neg (hsat.1 c3)] at e
        have qe:=aI qR (aI @h0' (aI @c1' (aI @c2' (aI @c3' yDF))));have jA:=h40;refine gE2 ?_
        all_goals (show Cov _ _;simp only [qS,seval]<;>simp [e])
       .have c3':=eq_false c3
        rw [if_pos (Decidable.byContradiction λk=>c3 (hsat.2 k))] at e
        have qe:=aI qR (aI @h0' (aI @c1' (aI @c2' (aI @c3' yDF))));have jA:=h40;refine gE2 ?_
        all_goals (show Cov _ _;simp only [qS,seval]<;>simp [e,h0])
    .have h0':=eq_false h0
     have e:zo9 ls L R x=zeY ls L R:=by unfold zo9;rw [if_neg h0]
     have qe:=aI qR (aI @h0' @decide_false);refine gE2 ?_
     all_goals (show Cov _ _;simp only [qS,seval]<;>simp [e])
   have qe:=@qR;repeat' first|refine gG ?_|show AK _;intro J Z|refine gJ ?_|omega|exact aT
   refine yR ⟨[(0,.p (.sl 11 (ls.map Lim.pv))),(1,.p (.sl 18 (L.map Wis.pv))),(5,.lp 5 0),(7,.p (.sl 18 (L.map Wis.pv))),(8,.p (.sl 3 (R.map Res.pv))),(10,.p (.sl 3 (A.map Res.pv))),(11,.p (.i .i64 (zwm ls L R w))),(12,.p (.sl 3 (B.map Res.pv))),(13,.p (.i .i64 (ym ls L R))),(14,.p (.sl 1 (C.map (.i .i64)))),(15,.p (.i .i64 (zo9 ls L R x))),(16,.p (.i .i64 (ym ls L R))),(17,.p (.i .i64 (zwm ls L R w))),(18,.p (.i .i64 (zo9 ls L R x))),(19,.p (.sl 3 (A.map Res.pv))),(20,.p .nilsl),(21,.p .nilsl)],[(5,.box [.p (.sl 3 (R.map Res.pv)),.p (.s w.req.name),.p (.s w.req.carrier),.p (.s w.req.kind),.p (.s w.req.term),.p (.s w.req.partner),.p (.s w.req.link),.p (.i .i64 w.req.per.fro),.p (.i .i64 w.req.per.to),.p (.i .i64 w.req.per.days),.p (.i .i64 w.req.minute),.p (.i .i64 w.req.seats),.p (.i .i64 w.req.size),.p (.i .i64 w.req.noise),.p (.i .i64 w.ear),.p (.i .i64 w.lat),.p (.i .i64 w.step),.p (.i .i64 w.least),.p (.i .i64 w.most),.p (.i .i64 x)] false)],[],false⟩ ?_ ?_
   .by_cases h0:zwm ls L R w=0
    .have h0':=eq_true h0
     have ha:zeY ls L R=0:=Decidable.byContradiction λk=>by unfold zwm at h0;rw [if_neg k] at h0;exact k h0
     obtain ⟨h1,h2,h3⟩:=zkA ha
     have hw0:zfI w=0:=by
      have:=h0
      unfold zwm zxK at this
      rw [if_pos ha] at this
      exact (zi.1 this).1
     have h41:=ybR h1 h2 h3 w hw0
     rw [<-hA1 h0] at h41
     have qe:=aI qR (aI @h0' @decide_true);have jA:=h41;refine gE2 ?_
     all_goals (show Pubs _ _;exact .cov (by simp only [qS,seval]<;>simp [h0]))
    .have h0':=eq_false h0
     have hz:=hA0 h0
     subst hz
     have qe:=aI qR (aI @h0' @decide_false);refine gE2 ?_
     all_goals (show Pubs _ _;refine .x 19 (.sl 3 []) ?_;exact .cov (sS))
   refine zbC (yR ⟨[(0,.p (.sl 11 (ls.map Lim.pv))),(1,.p (.sl 18 (L.map Wis.pv))),(5,.lp 5 0),(7,.p (.sl 18 (L.map Wis.pv))),(8,.p (.sl 3 (R.map Res.pv))),(10,.p (.sl 3 (A.map Res.pv))),(11,.p (.i .i64 (zwm ls L R w))),(12,.p (.sl 3 (B.map Res.pv))),(13,.p (.i .i64 (ym ls L R))),(14,.p (.sl 1 (C.map (.i .i64)))),(15,.p (.i .i64 (zo9 ls L R x))),(16,.p (.i .i64 (ym ls L R))),(17,.p (.i .i64 (zwm ls L R w))),(18,.p (.i .i64 (zo9 ls L R x))),(19,.p (.sl 3 (A.map Res.pv))),(20,.p (.sl 3 (B.map Res.pv))),(21,.p .nilsl)],[(5,.box [.p (.sl 3 (R.map Res.pv)),.p (.s w.req.name),.p (.s w.req.carrier),.p (.s w.req.kind),.p (.s w.req.term),.p (.s w.req.partner),.p (.s w.req.link),.p (.i .i64 w.req.per.fro),.p (.i .i64 w.req.per.to),.p (.i .i64 w.req.per.days),.p (.i .i64 w.req.minute),.p (.i .i64 w.req.seats),.p (.i .i64 w.req.size),.p (.i .i64 w.req.noise),.p (.i .i64 w.ear),.p (.i .i64 w.lat),.p (.i .i64 w.step),.p (.i .i64 w.least),.p (.i .i64 w.most),.p (.i .i64 x)] false)],[],false⟩ ?_ ?_)
   .by_cases h0:ym ls L R=0
    .have h0':=eq_true h0
     obtain ⟨h1,h2,h3⟩:=yaa h0
     have h42:=ybQ h1 h2 h3
     rw [<-hB1 h0] at h42
     have qe:=aI qR (aI @h0' @decide_true);have jA:=h42;refine gE2 ?_
     all_goals (show Pubs _ _;exact .cov (by simp only [qS,seval]<;>simp [h0]))
    .have h0':=eq_false h0
     have hz:=hB0 h0
     subst hz
     have qe:=aI qR (aI @h0' @decide_false);refine gE2 ?_
     all_goals (show Pubs _ _;refine .x 20 (.sl 3 []) ?_;exact .cov (sS))
   refine zbC (yR ⟨[(0,.p (.sl 11 (ls.map Lim.pv))),(1,.p (.sl 18 (L.map Wis.pv))),(5,.lp 5 0),(7,.p (.sl 18 (L.map Wis.pv))),(8,.p (.sl 3 (R.map Res.pv))),(10,.p (.sl 3 (A.map Res.pv))),(11,.p (.i .i64 (zwm ls L R w))),(12,.p (.sl 3 (B.map Res.pv))),(13,.p (.i .i64 (ym ls L R))),(14,.p (.sl 1 (C.map (.i .i64)))),(15,.p (.i .i64 (zo9 ls L R x))),(16,.p (.i .i64 (ym ls L R))),(17,.p (.i .i64 (zwm ls L R w))),(18,.p (.i .i64 (zo9 ls L R x))),(19,.p (.sl 3 (A.map Res.pv))),(20,.p (.sl 3 (B.map Res.pv))),(21,.p (.sl 1 (C.map (.i .i64))))],[(5,.box [.p (.sl 3 (R.map Res.pv)),.p (.s w.req.name),.p (.s w.req.carrier),.p (.s w.req.kind),.p (.s w.req.term),.p (.s w.req.partner),.p (.s w.req.link),.p (.i .i64 w.req.per.fro),.p (.i .i64 w.req.per.to),.p (.i .i64 w.req.per.days),.p (.i .i64 w.req.minute),.p (.i .i64 w.req.seats),.p (.i .i64 w.req.size),.p (.i .i64 w.req.noise),.p (.i .i64 w.ear),.p (.i .i64 w.lat),.p (.i .i64 w.step),.p (.i .i64 w.least),.p (.i .i64 w.most),.p (.i .i64 x)] false)],[],false⟩ ?_ ?_)
   .by_cases h0:zo9 ls L R x=0
    .have h0':=eq_true h0
     have ha:zeY ls L R=0:=Decidable.byContradiction λk=>by unfold zo9 at h0;rw [if_neg k] at h0;exact k h0
     obtain ⟨h1,h2,h3⟩:=zkA ha
     have hx0:¬(x < 0\/(L.length:Int)<=x):=λk=>by unfold zo9 at h0;rw [if_pos ha,if_pos k] at h0;cases h0
     obtain ⟨i,hi⟩:∃ i:Nat,x=(i:Int):=⟨x.toNat,by omega⟩
     obtain ⟨v,hv⟩:=zj (i:=i) (l:=L) (by omega)
     have h43:=ybP h1 h2 h3 hv
     rw [<-hC1 i v hi hv h0,<-hi] at h43
     have qe:=aI qR (aI @h0' @decide_true);have jA:=h43;refine gE2 ?_
     all_goals (show Pubs _ _;exact .cov (by simp only [qS,seval]<;>simp [h0]))
    .have h0':=eq_false h0
     have hz:=hC0 h0
     subst hz
     have qe:=aI qR (aI @h0' @decide_false);refine gE2 ?_
     all_goals (show Pubs _ _;refine .x 21 (.sl 1 []) ?_;exact .cov (sS))
   have ha1:=zdC A (by omega)
   have ha2:=zie A
   have hb1:=zdC B (by omega)
   have hb2:=zie B
   have hc2:=zA4 C
   have qe:=aI qR (aI @zb2 @decide_true);have jA:=ha1;have jB:=ha2;have jC:=hb1;have jD:=hb2;have jE:=hc2;exact gD5
