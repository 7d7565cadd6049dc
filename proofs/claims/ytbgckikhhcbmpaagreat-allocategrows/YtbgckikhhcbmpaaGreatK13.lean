/- Contracts. No conditions. -/
import Derived.Test.YtbgckikhhcbmpaaGreatK12
set_option linter.all false
set_option maxHeartbeats 8000000
set_option maxRecDepth 100000
namespace Go.Proofs.YtbgckikhhcbmpaaGreat
open Go.RowKit Tryz
variable {g:Bool} {b0:Brd} {c:ByteArray} {M d n:Int} {ls:List Lim} {P:List Mov} {L:List Wis} {w:Wis}
def wdF (R:List Res) (u:Unt):List Opt:=if grB R u=true then [grO R u] else []
def zuj (hw:zJ ls=0->zgb ls) (h12:ShW L) (R0:List Res):Pure prog 36 [.sl 11 (ls.map Lim.pv),.sl 18 (L.map Wis.pv),.sl 3 (R0.map Res.pv)] (.tup [.sl 3 ((if zn [zJ ls,if zav L=0 then zc8 L R0 else zav L]=0 then (zeW ls L (wdF R0) (zq L).length).1 else []).map Res.pv),.i .i64 (zn [zJ ls,if zav L=0 then zc8 L R0 else zav L])]):=by
 have h24:=zfP h12 R0;refine pz func36 f36.eq_1 λhwf X hX=>?_
 by_cases h0:zn [zJ ls,if zav L=0 then zc8 L R0 else zav L]=0
 ·rw [if_pos h0];have h00:=h0;rw [zi,zi] at h00;obtain ⟨h1,h2b,_⟩:=h00;have h2:zav L=0:=by
   by_cases hh:zav L=0
   ·exact hh
   ·rw [if_neg hh] at h2b;exact h2b
  rw [if_pos h2] at h24 h0 ⊢;have h3:zc8 L R0=0:=by rw [if_pos h2] at h2b;exact h2b
  have h0':=eq_true h0;have hl:=(zU h1).2;have hn32:=(zU h1).1;have hn:ls.length<=1000:=by omega
  have hw:=hw h1;have hn64:=(zR h2).1;have hul:=zaY L;have hR0:=(zbZ h3).1;have hrl:(zbU L).length=L.length:=by unfold zbU;rw [xaf]
  have qe:=aI qR (aI @qN (aI @h0' @hrl));repeat' first|refine gC ?_ ?_<;>intro hc<;>try contradiction|refine za (zfs ls) ?_|refine za (h24) ?_|refine za (zaG [_,_]) ?_|refine zf [(400,400)] (znA (L:=L) (by omega)) ?_|refine zf [(7,900),(4,901),(5,902)] (zcx ls) ?_|refine za (zcp L h2) ?_|refine gG ?_|show AK _;intro J Z|refine gJ ?_|omega|exact aT
  refine zcb rfl (zcr L (by omega)) ?_ ?_ [(4,.lp 4 0),(5,.lp 5 0),(9,.lp 9 0),(10,.lp 10 0),(29,.p (.fn (.func 161) [] [.ip (.sl 1 ((zdT L).map (.i .i64))) 0]))] (λk=>[(900,.box [.p (.sl 11 (ls.map Lim.pv)),.lm 901,.lm 902] false),(901,.mp ((zeW ls L (wdF R0) k).2.C.map cE) false),(902,.mp ((zeW ls L (wdF R0) k).2.G.map gE) false),(4,.box [.p (.sl 18 (L.map Wis.pv))] false),(5,.box [.p (.sl 3 (R0.map Res.pv))] false),(9,.box [.row 400 L.length] false),(10,.box [.lp 900 0] false),(400,.row 79 3 ((zeW ls L (wdF R0) k).1.map Res.pv) false)]) (λ_=>[]) ?_ ?_ ?_
  ·intro t ht;obtain ⟨x,_,rfl⟩:=xaN.1 ht;rfl
  ·simp [hX]
  ·simp only [zeW,xbb,xbI,hrl,qS,seval]<;>simp [hrl]
  ·intro k t ht X' ro' hX';simp only [xal,xab] at ht;obtain ⟨u,hx,rfl⟩:=ht;have hxm:=xae hx;have hkl:=(xaa.1 hx).1;have hnx:=zgw (ls:=ls) (F:=wdF R0) hx;obtain ⟨hM,hRl⟩:=zmG hl L (wdF R0) k;have h25:=zce h2 hR0 hxm;unfold zli wdF at hnx
   change _=match zkS ls L u (if grB R0 u=true then [grO R0 u] else []) (zeW ls L (wdF R0) k).2 with|(some o,b)=>(zn9 (zeW ls L (wdF R0) k).1 u o,zy ls b (zan L u o) 1)|(none,b)=>((zeW ls L (wdF R0) k).1,b) at hnx
   change zeW ls L (wdF R0) (k+1)=_ at hnx
   generalize zeW ls L (wdF R0) k=st at hM hRl hnx ⊢;obtain ⟨R,b⟩:=st;simp only at hM hRl hnx;cases hg:grB R0 u with
   | false=>
    rw [hg] at hnx h25;simp only [xaD,if_false,zkS] at hnx;simp only [qS,seval];refine gE2 ?_;intro X1 hX1;have qe:=aI qR @qN;have jA:=h25;have jB:=nm 86 (.b false);have jC:=nm 83 (.b false);refine gE5 ?_;simp [hnx,hRl]
   | true=>
    rw [hg] at hnx h25;simp only [if_true,zkS] at hnx;have h86:=zaR h2 hxm (grO R0 u);have hml:=za1 L u (grO R0 u);have h83:=zbN hl hn hw hM.ok hM.cnt (own:=zan L u (grO R0 u)) (λy hy=>zaH hy) (by omega) (by omega)
    have hrf:=hM.rf hl (zan L u (grO R0 u))
    by_cases hW:rfW ls b (zan L u (grO R0 u))=[]
    ·rw [if_pos hW] at hnx;simp only at hnx;rw [hW] at h83;have h88:=zdP hl hn hw hrf.ok hrf.cnt h86 (λy hy=>zaH hy) (by omega) (t:=1) (by omega)
     obtain ⟨i,r,hr,hc⟩:=zh8 h2 hRl hxm;have h87:=znz hr hc (grO R0 u);rw [hRl] at h87;generalize rfB ls b (zan L u (grO R0 u))=b2 at *;simp only [qS,seval];refine gE2 ?_;intro X1 hX1;have qe:=aI qR @qN;repeat' first|refine gC ?_ ?_<;>intro hc<;>try contradiction|refine za (h25) ?_|refine zg (λ_=>h86) ?_|refine zb8 [] (h83) ?_|refine zf [(900,400)] (h87) ?_|refine zf [] (h88) ?_|refine gG ?_|show AK _;intro J Z|refine gJ ?_|omega|exact aT
     simp [hnx,zib,hRl]
    ·rw [if_neg hW] at hnx;simp only at hnx;have hW':=eq_false (show ¬(((rfW ls b (zan L u (grO R0 u))).length:Int)=0) by
      intro hz;exact hW (xay (by omega)))
     generalize rfB ls b (zan L u (grO R0 u))=b2 at *;simp only [qS,seval];refine gE2 ?_;intro X1 hX1;have qe:=aI qR (aI @qN @hW');repeat' first|refine gC ?_ ?_<;>intro hc<;>try contradiction|refine za (h25) ?_|refine zg (λ_=>h86) ?_|refine zb8 [] (h83) ?_|refine gG ?_|show AK _;intro J Z|refine gJ ?_|omega|exact aT
     simp [hnx,hRl]
  ·simp only [xaf];have hpe:=(zmG hl L (wdF R0) (zq L).length).2;have qe:=@hpe;refine gE2 ?_
   all_goals (rw [h0];exact .refl _)
 ·rw [if_neg h0];have h0':=eq_false h0;have qe:=aI qR @h0';have jA:=zfs ls;have jB:=h24;have jC:=λu1 u2=>zaG [u1,u2];refine gE5 ?_
  all_goals exact zdc (.nilsl _) (.refl _)
def zoW (L:List Wis) (R:List Res):Int:=if zav L=0 then zc8 L R else zav L
def zwQ {R:List Res} (h:zoW L R=0):zav L=0/\zc8 L R=0:=by
 unfold zoW at h
 by_cases h2:zav L=0
 ·rw [if_pos h2] at h;exact ⟨h2,h⟩
 ·rw [if_neg h2] at h;exact absurd h h2
def zjm (L:List Wis) (R:List Res) (i:Nat):Int:=match L[i]? with
 | some w=>if (za5 R i).gr=true then (zbF (w.req.at (za5 R i).minute)).length*zdV ((za5 R i).minute - w.req.minute) else 0
 | none=>0
def zkK (L:List Wis) (R:List Res):Nat->Int
 | 0=>0
 | k+1=>zkK L R k+zjm L R k
def zuh (h12:ShW L) (R:List Res):Pure prog 50 [.sl 18 (L.map Wis.pv),.sl 3 (R.map Res.pv)] (.tup [.i .i64 (if zoW L R=0 then zkK L R L.length else 0),.i .i64 (zoW L R)]):=by
 have h24:Pure prog 124 [.sl 18 (L.map Wis.pv),.sl 3 (R.map Res.pv)] (.i .i64 (zoW L R)):=zfP h12 R;refine pz func50 f50.eq_1 λhw X hX=>?_
 by_cases h0:zoW L R=0
 ·obtain ⟨h2,h3⟩:=zwQ h0;have h0':=eq_true h0;have hn64:=(zR h2).1;obtain ⟨hn,hE,_⟩:=zbZ h3;rw [if_pos h0];have hi:∀ (i:Nat) (w:Wis) (r:Res),L[i]?=some w->R[i]?=some r->r.gr=true->(0<=r.minute/\r.minute<=1439)/\(0<=w.req.minute/\w.req.minute<=1439):=λi w r hwl hr hg=>by
   have h1:=hE i w hwl;rw [zW hr] at h1;exact ⟨zdM (zcC (zfx h2 hwl)).1 ((zdz h1).2.1 hg),zdv (zcC (zfx h2 hwl)).1⟩
  have hb1:∀ i,0<=zjm L R i/\zjm L R i<=1000000:=λi=>by
   unfold zjm;cases hwl:L[i]? with
   | none=>simp
   | some w=>
    simp only []
    split
    ·rename_i hg;obtain ⟨r,hr⟩:=zj (i:=i) (l:=R) (by have:=(xaa.1 hwl).1;omega)
     rw [zW hr] at hg ⊢;obtain ⟨a,b⟩:=hi i w r hwl hr hg;have q1:zdV (r.minute - w.req.minute)<=1439/\0<=zdV (r.minute - w.req.minute):=by unfold zdV;omega
     have hl:=zbd (w.req.at r.minute);have q2:((zbF (w.req.at r.minute)).length:Int)*zdV (r.minute - w.req.minute)<=401*1439:=Int.mul_le_mul (by omega) q1.1 q1.2 (by omega)
     have q3:0<=((zbF (w.req.at r.minute)).length:Int)*zdV (r.minute - w.req.minute):=Int.mul_nonneg (by omega) q1.2
     omega
    ·omega
  have hb:∀ k:Nat,0<=zkK L R k/\zkK L R k<=1000000*k:=λk=>by
   induction k with
   | zero=>simp [zkK]
   | succ k ih=>have:=hb1 k;rw [zkK];omega
  have qe:=aI qR @h0';have jA:=h24;refine gE2 ?_;refine zh (κ:=Nat) (λc=>⟨[(0,.p (.sl 18 (L.map Wis.pv))),(7,.p (.i .i64 (zkK L R c))),(16,.p (.sl 3 (R.map Res.pv))),(17,.p (.i .i64 R.length)),(18,.p (.i .i64 c))],[],[],false⟩) (λc=>c<=R.length) (λc=>R.length - c) 0 ?_ ?_ ?_
  ·refine gJ ?_;simp [zkK]
  ·simp
  ·intro c hc0;have hbc:=hb c;have hbi:=hb1 c;refine gH (λhc=>?_) λhc=>?_
   ·obtain ⟨r,hr⟩:=zj (i:=c) (l:=R) (by omega)
    obtain ⟨w,hwl⟩:=zj (i:=c) (l:=L) (by omega)
    have hdi:zjm L R c=if r.gr=true then (zbF (w.req.at r.minute)).length*zdV (r.minute - w.req.minute) else 0:=by unfold zjm;rw [hwl];simp only [zW hr]
    cases hg:r.gr with
    | false=>
     rw [hg] at hdi;have e:zkK L R (c+1)=zkK L R c:=by rw [zkK,hdi];simp
     have qe:=aI qR (aI @hr @hg);refine gE2 ?_;exact ⟨c+1,by omega,by omega,by simp [e]⟩
    | true=>
     rw [hg,if_pos rfl] at hdi;obtain ⟨a,b⟩:=hi c w r hwl hr hg;have e:zkK L R (c+1)=zkK L R c+(zbF (w.req.at r.minute)).length*zdV (r.minute - w.req.minute):=by rw [zkK,hdi]
     have h27:=zmB w r.minute a b;rw [<-hdi] at h27 e;have qe:=aI qR (aI @hr (aI @hwl @hg));have jA:=h27;refine gE2 ?_;exact ⟨c+1,by omega,by omega,by simp [e]⟩
   ·have e:c=R.length:=by omega
    subst e;refine gE2 ?_
    all_goals (rw [h0,hn];exact .refl _)
 ·have h0':=eq_false h0;rw [if_neg h0];have qe:=aI qR @h0';have jA:=h24;exact gD2
def zt8 (t:Ttl) (w:Wis):Pure prog 129 (t.pv::[.ip w.pv 0]) (.b (decide (t.car=w.req.carrier))):=by
 refine pz func129 f129.eq_1 λhw X hX=>?_
 have qe:=@qR;exact gD2
def zt7 (a b:Ttl):Pure prog 131 [a.pv,b.pv] (.i .i64 (zkL a.car b.car)):=by
 refine pz func131 f131.eq_1 λhw X hX=>?_
 have qe:=@qR;have jA:=λu1 u2=>zqs u1 u2;exact gD2
def zt9 {f:Nat} {caps:List PV} {L:List Ttl} {p:Ttl->Bool} (hf:∀ w ∈ L,Pure prog f (w.pv::caps) (.b (p w))):Pure prog 128 [.sl 4 (L.map Ttl.pv),.fn (.func f) [] caps] (.i .i64 (zdG p L)):=by
 refine pz func128 f128.eq_1 λhw X hX=>?_
 simp only [wfs,PV.wf,xaf,maxLen] at hw;refine gE2 ?_;refine zh (κ:=Nat) (λi=>⟨[(0,.p (.sl 4 (L.map Ttl.pv))),(1,.p (.fn (.func f) [] caps)),(7,.p (.i .i64 L.length)),(8,.p (.i .i64 i))],[],[],false⟩) (λi=>i<=L.length/\∀ y ∈ L.take i,p y=false) (λi=>L.length - i) 0 ?_ ?_ ?_
 ·exact sR
 ·simp
 ·intro i hi;refine gH (λhc=>?_) λhc=>?_
  ·obtain ⟨y,hy⟩:=zj (i:=i) (l:=L) (by omega)
   have qe:=@hy;have jA:=hf y (xae hy);refine gF2 (λhc=>?_) λhc=>?_
   ·rw [zbe hi.2 hy hc];exact .refl _
   ·exact ⟨i+1,⟨by omega,zd1 hi.2 hy (by simpa using hc)⟩,by omega,by simp⟩
  ·refine gE2 ?_;have e:i=L.length:=by omega
   subst e;rw [zct (λy hy=>hi.2 y (by rw [xas (by simp)];exact hy))];exact .refl _
def zwt (w:Wis):Nat:=((1439 - w.req.minute % w.step) / w.step+1).toNat
def ze9 (w:Wis) (j:Nat):Int:=w.req.minute % w.step+j*w.step
def zyo (hs:1<=w.step/\w.step<=120) (j:Nat):j < zwt w↔ze9 w j < 1440:=by
 have h1:=Int.emod_nonneg w.req.minute (show w.step≠0 by omega)
 have h2:=Int.emod_lt_of_pos w.req.minute (show 0 < w.step by omega)
 have h3:0<=(1439 - w.req.minute % w.step) / w.step:=xbh (by omega) (by omega)
 have h4:=Int.le_ediv_iff_mul_le (a:=(j:Int)) (b:=1439 - w.req.minute % w.step) (c:=w.step) (by omega)
 unfold zwt ze9
 constructor
 ·intro h;have:=h4.1 (by omega)
  omega
 ·intro h;have:=h4.2 (by omega)
  omega
def zwu (ls:List Lim) (b0:Brd) (w:Wis) (j:Nat):Brd:=(List.range j).foldl (λb i=>rfB ls b (zbF (w.req.at (ze9 w i)))) b0
def zjX (ls:List Lim) (b0:Brd) (w:Wis) (j:Nat):zwu ls b0 w (j+1)=rfB ls (zwu ls b0 w j) (zbF (w.req.at (ze9 w j))):=by
 unfold zwu;rw [xbd,xaP];rfl
def zBj (hl:∀ l ∈ ls,zr l=0) (h:BdM ls b0 M) (hP:zeV ls b0 P) (w:Wis):∀ j,BdM ls (zwu ls b0 w j) M/\zeV ls (zwu ls b0 w j) P:=by
 intro j
 induction j with
 | zero=>exact ⟨h,hP⟩
 | succ j ih=>rw [zjX];exact ⟨ih.1.rf hl _,zjF hl ih.2 _⟩
def zst (ls:List Lim) (P:List Mov) (w:Wis) (m:Int):Bool:=(xrW ls (P++zbF (w.req.at m)) (zbF (w.req.at m))).isEmpty
def zo8 (ls:List Lim) (P:List Mov) (w:Wis) (j:Nat):List Int:=((List.range j).map (ze9 w)).filter (zst ls P w)
def zqF (ls:List Lim) (P:List Mov) (w:Wis) (j:Nat):zo8 ls P w (j+1)=zo8 ls P w j++if zst ls P w (ze9 w j)=true then [ze9 w j] else []:=by
 unfold zo8;rw [xbd,xa6,xbe,xaj,xaF,xa2,List.filter_nil]
def zuu (ls:List Lim) (P:List Mov) (w:Wis) (j:Nat):(zo8 ls P w j).length<=j:=by
 unfold zo8;have:=xby (zst ls P w) ((List.range j).map (ze9 w));rw [xaf,xaU] at this;exact this
def zoc (L:List Wis) (R:List Res) (i:Nat):List Mov:=zbL L R λj=>decide ((zY L j:Int)≠(i:Int))
def zo9 (ls:List Lim) (L:List Wis) (R:List Res) (x:Int):Int:=if zeY ls L R=0 then if x < 0\/(L.length:Int)<=x then 10 else match L[x.toNat]? with
 | some w=>if w.req.link=s0 then 0 else 32
 | none=>10 else zeY ls L R
def zo7 (ls:List Lim) (L:List Wis) (R:List Res) (x:Int):List Int:=if zo9 ls L R x=0 then match L[x.toNat]? with
 | some w=>zo8 ls (zoc L R x.toNat) w (zwt w)
 | none=>[] else []
def zui (hw:zJ ls=0->zgb ls) (h12:ShW L) (R:List Res) (x:Int):Pure prog 37 [.sl 11 (ls.map Lim.pv),.sl 18 (L.map Wis.pv),.sl 3 (R.map Res.pv),.i .i64 x] (.tup [.sl 1 ((zo7 ls L R x).map (.i .i64)),.i .i64 (zo9 ls L R x)]):=by
 have h48:=zex hw h12 R;refine pz func37 f37.eq_1 λhwf X hX=>?_
 by_cases h0:zeY ls L R=0
 ·obtain ⟨h1,h2,h3⟩:=zkA h0;have h0':=eq_true h0;have hl:=(zU h1).2;have hn32:=(zU h1).1;have hn:ls.length<=1000:=by omega
  have hw:=hw h1;have hn64:=(zR h2).1
  by_cases hx0:x < 0
  ·have hx0':=eq_true hx0;have e:zo9 ls L R x=10:=by unfold zo9;rw [if_pos h0,if_pos (.inl hx0)]
   have e2:zo7 ls L R x=[]:=by unfold zo7;rw [e];rfl
   rw [e,e2];have qe:=aI qR (aI @h0' @hx0');have jA:=h48;refine gE2 ?_
   all_goals exact zdc (.nilsl _) (.refl _)
  have hx0':=eq_false hx0
  by_cases hx1:(L.length:Int)<=x
  ·have hx1':=eq_true hx1;have e:zo9 ls L R x=10:=by unfold zo9;rw [if_pos h0,if_pos (.inr hx1)]
   have e2:zo7 ls L R x=[]:=by unfold zo7;rw [e];rfl
   rw [e,e2];have qe:=aI qR (aI @h0' (aI @hx0' @hx1'));have jA:=h48;refine gE2 ?_
   all_goals exact zdc (.nilsl _) (.refl _)
  have hx1':=eq_false hx1;obtain ⟨i,rfl⟩:∃ i:Nat,x=(i:Int):=⟨x.toNat,by omega⟩
  obtain ⟨w,hwl⟩:=zj (i:=i) (l:=L) (by omega)
  have hil:i < L.length:=by omega
  have eE:zo9 ls L R (i:Int)=if w.req.link=s0 then 0 else 32:=by unfold zo9;rw [if_pos h0,if_neg (by omega),xam,hwl]
  by_cases hk:w.req.link=s0
  ·have hk':=eq_true hk;rw [if_pos hk] at eE;have eR:zo7 ls L R (i:Int)=zo8 ls (zoc L R i) w (zwt w):=by unfold zo7;rw [eE,if_pos rfl,xam,hwl]
   rw [eE,eR];have hlk:zau L i=-1:=by unfold zau zuE;rw [hwl];simp only [if_pos hk]
   have hum:(((i:Int),(-1:Int)):Unt) ∈ zq L:=zdd.2 ⟨i,hil,by rw [hlk],.inl (by omega)⟩
   have h00:=zjg hl hn hw h2 h3 ((i:Int),(-1:Int));have hM:=zqz hl L R ((i:Int),(-1:Int));have hOf:zeV ls (zkI ls L R ((i:Int),(-1:Int))) (zoc L R i):=zqy hl h2 h3 hum;have hz:=zjq (zcC (zfx h2 hwl)).1;have hmn:=zdv (zcC (zfx h2 hwl)).1;have hst:1<=w.step/\w.step<=120:=⟨hz.2.2.2.2.2.1,hz.2.2.2.2.2.2⟩;have hNl:=zyo hst;have hrem:w.req.minute.tmod w.step=w.req.minute % w.step:=xbV (by omega)
   have hs0:=Int.emod_nonneg w.req.minute (show w.step≠0 by omega)
   have hs1:=Int.emod_lt_of_pos w.req.minute (show 0 < w.step by omega)
   have hne:=eq_false (show ¬w.step=0 by omega)
   have hm0:ze9 w 0=w.req.minute % w.step:=by unfold ze9;simp
   have hm1:∀ j,ze9 w (j+1)=ze9 w j+w.step:=λj=>by unfold ze9;push_cast;rw [Int.add_mul];omega
   have hmp:∀ j,0<=ze9 w j:=λj=>by unfold ze9;have:=Int.mul_nonneg (show 0<=(j:Int) by omega) (show 0<=w.step by omega);omega
   have hNb:zwt w<=1441:=by
    refine xbC λhh=>?_
    have:=(hNl 1440).1 (by omega)
    have h5:∀ j:Nat,(j:Int)<=ze9 w j:=λj=>by
     induction j with
     | zero=>exact hmp 0
     | succ j ih=>rw [hm1];omega
    have:=h5 1440
    omega
   generalize zkI ls L R ((i:Int),(-1:Int))=b0 at *;rw [<-hm0] at hrem;have hBj:=zBj hl hM hOf w;have qe:=aI qR (aI @qN (aI @h0' (aI @hx0' (aI @hx1' (aI @hwl (aI @hil (aI @hk' (aI @hrem @hne))))))));have jA:=h48;have jB:SX [] _:=⟨h00⟩;refine gE2 ?_;refine run_ownL 400 3 1 (κ:=Nat) (λj=>⟨[(11,.lp 11 0),(12,.lp 900 0),(13,.row 400 (zo8 ls (zoc L R i) w j).length),(14,.p (.i .i64 (ze9 w j)))],[(900,.box [.p (.sl 11 (ls.map Lim.pv)),.lm 901,.lm 902] false),(901,.mp ((zwu ls b0 w j).C.map cE) false),(902,.mp ((zwu ls b0 w j).G.map gE) false),(11,.box (w.cells.map .p) false),(400,.row 3 1 ((zo8 ls (zoc L R i) w j).map (.i .i64)) false)],[],false⟩) (λj=>j<=zwt w) (λj=>zwt w - j) 0 ?_ ?_ ?_
   ·refine ⟨gO ?_,gO ?_⟩<;>simp [zo8,zwu]
   ·simp
   ·intro j hj;obtain ⟨hbm,hbo⟩:=hBj j;have hkl:=zuu ls (zoc L R i) w j;have hjl:=hNl j;have hmpj:=hmp j;refine gH (λhc=>?_) λhc=>?_
    ·have hnx:=zqF ls (zoc L R i) w j;have hbn:=zjX ls b0 w j;have hmj:=hm1 j;have hml:=zbd (w.req.at (ze9 w j));have h23:=zco w (ze9 w j);have h83:=zbN hl hn hw hbm.ok hbm.cnt (own:=zbF (w.req.at (ze9 w j))) (λy hy=>zit hy) (by omega) (by omega)
     have hrf:=zjE hl hbo (List.Perm.refl (zoc L R i++zbF (w.req.at (ze9 w j))));rw [hrf,<-hbn] at h83;have hof:zst ls (zoc L R i) w (ze9 w j)=(xrW ls (zoc L R i++zbF (w.req.at (ze9 w j))) (zbF (w.req.at (ze9 w j)))).isEmpty:=rfl;cases hW:xrW ls (zoc L R i++zbF (w.req.at (ze9 w j))) (zbF (w.req.at (ze9 w j))) with
     | nil=>
      rw [hW] at hof h83;rw [hof] at hnx;simp only [List.isEmpty_nil,if_true] at hnx;have hll:(zo8 ls (zoc L R i) w (j+1)).length=(zo8 ls (zoc L R i) w j).length+1:=by rw [hnx];simp
      have qe:=aI qR @qN;have jA:=h23;have jB:SX [] _:=⟨h83⟩;refine gE2 ?_;exact ⟨j+1,by omega,by omega,by simp [hnx,hmj],by simp [hnx]⟩
     | cons w0 W=>
      rw [hW] at hof h83;rw [hof] at hnx;simp only [List.isEmpty_cons,xaD,if_false,xar] at hnx;have hW':=eq_false (show ¬(((w0::W).length:Int)=0) by rw [xaz];omega)
      have qe:=aI qR (aI @qN @hW');have jA:=h23;have jB:SX [] _:=⟨h83⟩;refine gE2 ?_;exact ⟨j+1,by omega,by omega,by simp [hnx,hmj],by simp [hnx]⟩
    ·have e:j=zwt w:=by omega
     subst e;exact gD2
  ·have hk':=eq_false hk;rw [if_neg hk] at eE;have eR:zo7 ls L R (i:Int)=[]:=by unfold zo7;rw [eE];rfl
   rw [eE,eR];have qe:=aI qR (aI @h0' (aI @hx0' (aI @hx1' (aI @hwl (aI @hil @hk')))));have jA:=h48;refine gE2 ?_
   all_goals exact zdc (.nilsl _) (.refl _)
 ·have h0':=eq_false h0;have e:zo9 ls L R x=zeY ls L R:=by unfold zo9;rw [if_neg h0]
  have e2:zo7 ls L R x=[]:=by unfold zo7;rw [e,if_neg h0]
  rw [e,e2];have qe:=aI qR @h0';have jA:=h48;refine gE2 ?_
  all_goals exact zdc (.nilsl _) (.refl _)
theorem zpr:∀ {T:List Ttl} {k:Nat} {t:Ttl},zdG (λt=>decide (t.car=c)) T=k->T[k]?=some t->zkT c n g d T=T.set k (zmg c n g d t)
 | [],k,t,_,h=>by simp at h
 | x::r,k,t,h,ht=>by
  by_cases hx:x.car=c
  ·have:zdG (λt=>decide (t.car=c)) (x::r)=(0:Nat):=zbe (i:=0) (x:=x) (by simp) rfl (by simp [hx])
   rw [this] at h;have:k=0:=by omega
   subst this;simp at ht;subst ht;simp [zkT,hx]
  ·rcases zeF (p:=λt:Ttl=>decide (t.car=c)) (l:=x::r) with ⟨hn,_⟩|⟨j,y,hj,hy,hp,hb⟩
   ·omega
   ·cases j with
    | zero=>simp at hy;subst hy;simp at hp;exact absurd hp hx
    | succ j=>
     have hkj:k=j+1:=by omega
     subst hkj;have h2:zdG (λt=>decide (t.car=c)) r=(j:Nat):=zbe (i:=j) (x:=y) (λz hz=>hb z (by simp [hz])) (by simpa using hy) hp
     have ih:=zpr h2 (t:=t) (by simpa using ht)
     simp [zkT,hx,ih]
theorem zmh:∀ {T:List Ttl},(∀ t ∈ T,t.car≠c)->zkT c n g d T=(T++[t0 c]).set T.length (zmg c n g d (t0 c))
 | [],_=>by simp [zkT]
 | x::r,h=>by
  have hx:=h x (by simp)
  have ih:=zmh (T:=r) λt ht=>h t (by simp [ht])
  simp [zkT,hx,ih]
def zjv (L:List Wis) (R:List Res) (i:Nat):Tin:=match L[i]? with
 | some w=>⟨w.req.carrier,(zbF (w.req.at w.req.minute)).length,(za5 R i).gr,zjm L R i⟩
 | none=>⟨s0,0,false,0⟩
def zb5 (L:List Wis) (R:List Res) (c:Nat):List Ttl:=((List.range c).map (zjv L R)).foldl (λT x=>zkT x.car x.n x.g x.d T) []
def zgg (L:List Wis) (R:List Res) (c:Nat):zb5 L R (c+1)=zkT (zjv L R c).car (zjv L R c).n (zjv L R c).g (zjv L R c).d (zb5 L R c):=by
 unfold zb5;rw [xbd,xa6,xaP];rfl
theorem zmi (c:ByteArray) (n:Int) (g:Bool) (d:Int):∀ T:List Ttl,(zkT c n g d T).length<=T.length+1
 | []=>by simp [zkT]
 | x::r=>by
  have:=zmi c n g d r;rw [zkT];split<;>simp<;>omega
def zme (L:List Wis) (R:List Res) (c:Nat):(zb5 L R c).length<=c:=by
 induction c with
 | zero=>simp [zb5]
 | succ c ih=>rw [zgg];have:=zmi (zjv L R c).car (zjv L R c).n (zjv L R c).g (zjv L R c).d (zb5 L R c);omega
theorem zmj {c:ByteArray} {g:Bool} {A B:Int} (hn:0<=n/\n<=401) (hd:0<=d/\d<=1000000) (hA:0<=A) (hB:0<=B):∀ {T:List Ttl},(∀ t ∈ T,(0<=t.asked/\t.asked<=A)/\(0<=t.gr/\t.gr<=A)/\(0<=t.dis/\t.dis<=B))->∀ t ∈ zkT c n g d T,(0<=t.asked/\t.asked<=A+401)/\(0<=t.gr/\t.gr<=A+401)/\(0<=t.dis/\t.dis<=B+1000000)
 | [],_,t,ht=>by
  simp only [zkT,xaX] at ht;subst ht;cases g<;>simp [zmg,t0]<;>omega
 | x::r,h,t,ht=>by
  have hx:=h x (by simp)
  rw [zkT] at ht
  split at ht
  ·rcases xaI.1 ht with rfl|ht
   ·cases g<;>simp [zmg]<;>omega
   ·have:=h t (by simp [ht]);omega
  ·rcases xaI.1 ht with rfl|ht
   ·omega
   ·exact zmj hn hd hA hB (λt ht=>h t (by simp [ht])) t ht
def zug (h12:ShW L) (hL:zav L=0->L.length<=12) (R:List Res):Pure prog 51 [.sl 18 (L.map Wis.pv),.sl 3 (R.map Res.pv)] (.tup [.sl 4 ((if zoW L R=0 then zz (λa b:Ttl=>zkL a.car b.car) (zb5 L R L.length) else []).map Ttl.pv),.i .i64 (zoW L R)]):=by
 have h24:Pure prog 124 [.sl 18 (L.map Wis.pv),.sl 3 (R.map Res.pv)] (.i .i64 (zoW L R)):=zfP h12 R;refine pz func51 f51.eq_1 λhw X hX=>?_
 by_cases h0:zoW L R=0
 ·obtain ⟨h2,h3⟩:=zwQ h0;have h0':=eq_true h0;have hL:=hL h2;obtain ⟨hn,hE,_⟩:=zbZ h3;rw [if_pos h0];have hi:∀ (i:Nat) (w:Wis) (r:Res),L[i]?=some w->R[i]?=some r->r.gr=true->(0<=r.minute/\r.minute<=1439)/\(0<=w.req.minute/\w.req.minute<=1439):=λi w r hwl hr hg=>by
   have h1:=hE i w hwl;rw [zW hr] at h1;exact ⟨zdM (zcC (zfx h2 hwl)).1 ((zdz h1).2.1 hg),zdv (zcC (zfx h2 hwl)).1⟩
  have hb1:∀ i,0<=zjm L R i/\zjm L R i<=1000000:=λi=>by
   unfold zjm;cases hwl:L[i]? with
   | none=>simp
   | some w=>
    simp only []
    split
    ·rename_i hg;obtain ⟨r,hr⟩:=zj (i:=i) (l:=R) (by have:=(xaa.1 hwl).1;omega)
     rw [zW hr] at hg ⊢;obtain ⟨a,b⟩:=hi i w r hwl hr hg;have q1:zdV (r.minute - w.req.minute)<=1439/\0<=zdV (r.minute - w.req.minute):=by unfold zdV;omega
     have hl:=zbd (w.req.at r.minute);have q2:((zbF (w.req.at r.minute)).length:Int)*zdV (r.minute - w.req.minute)<=401*1439:=Int.mul_le_mul (by omega) q1.1 q1.2 (by omega)
     have q3:0<=((zbF (w.req.at r.minute)).length:Int)*zdV (r.minute - w.req.minute):=Int.mul_nonneg (by omega) q1.2
     omega
    ·omega
  have hbt:∀ c:Nat,∀ t ∈ zb5 L R c,(0<=t.asked/\t.asked<=401*c)/\(0<=t.gr/\t.gr<=401*c)/\(0<=t.dis/\t.dis<=1000000*c):=λc=>by
   induction c with
   | zero=>intro t ht;simp [zb5] at ht
   | succ c ih=>
    intro t ht;rw [zgg] at ht;have hn0:0<=(zjv L R c).n/\(zjv L R c).n<=401:=by
     unfold zjv;cases hwl:L[c]? with
     | none=>simp
     | some w=>have:=zbd (w.req.at w.req.minute);simp only [];omega
    have hd0:0<=(zjv L R c).d/\(zjv L R c).d<=1000000:=by
     unfold zjv;cases hwl:L[c]? with
     | none=>simp
     | some w=>exact hb1 c
    have:=zmj hn0 hd0 (show (0:Int)<=401*c by omega) (show (0:Int)<=1000000*c by omega) ih t ht
    omega
  have htl:=zme L R L.length;have h30:=zv3 zt7 (zb5 L R L.length) (by omega)
  have qe:=aI qR (aI @qN @h0');have jA:=h24;refine gE2 ?_;refine run_ownL 400 137 4 (κ:=Nat) (λc=>⟨[(0,.p (.sl 18 (L.map Wis.pv))),(1,.p (.sl 3 (R.map Res.pv))),(7,.row 400 (zb5 L R c).length),(18,.p (.sl 18 (L.map Wis.pv))),(19,.p (.i .i64 L.length)),(20,.p (.i .i64 c))],[(400,.row 137 4 ((zb5 L R c).map Ttl.pv) false)],[],false⟩) (λc=>c<=L.length) (λc=>L.length - c) 0 ?_ ?_ ?_
  ·refine ⟨gO ?_,gO ?_⟩<;>simp [zb5]
  ·simp
  ·intro c hc0;have hcl:=zme L R c;have hbc:=hbt c;refine gH (λhc=>?_) λhc=>?_
   ·obtain ⟨w,hx⟩:=zj (i:=c) (l:=L) (by omega)
    obtain ⟨r,hr⟩:=zj (i:=c) (l:=R) (by omega)
    have hcR:c < R.length:=by omega
    have hnx:=zgg L R c;have hti:zjv L R c=⟨w.req.carrier,(zbF (w.req.at w.req.minute)).length,r.gr,zjm L R c⟩:=by unfold zjv;rw [hx];simp only [zW hr]
    rw [hti] at hnx;simp only at hnx;have hml:=zbd (w.req.at w.req.minute);have h23:=zco w w.req.minute;have h28:=zt9 (f:=129) (caps:=[.ip w.pv 0]) (L:=zb5 L R c) (p:=λt=>decide (t.car=w.req.carrier)) (λt _=>zt8 t w)
    have hfar:r.gr=true->Pure prog 127 [w.pv,.i .i64 r.minute] (.i .i64 (zjm L R c)):=λhg=>by
     obtain ⟨a,b⟩:=hi c w r hx hr hg;have h27:=zmB w r.minute a b;have hdi:zjm L R c=(zbF (w.req.at r.minute)).length*zdV (r.minute - w.req.minute):=by unfold zjm;rw [hx];simp only [zW hr,hg,if_true]
     rw [hdi];exact h27
    have hd1:=hb1 c;generalize hnn:((zbF (w.req.at w.req.minute)).length:Int)=n at *
    rcases zeF (p:=λt:Ttl=>decide (t.car=w.req.carrier)) (l:=zb5 L R c) with ⟨hneg,hno⟩|⟨k,t,hk,hat,hp,_⟩
    ·have hneg':=eq_true hneg;have htn:zb5 L R (c+1)=(zb5 L R c++[t0 w.req.carrier]).set (zb5 L R c).length (zmg w.req.carrier n r.gr (zjm L R c) (t0 w.req.carrier)):=by
      rw [hnx];exact zmh λt ht=>by simpa using hno t ht
     have hat:(zb5 L R c++[t0 w.req.carrier])[(zb5 L R c).length]?=some (t0 w.req.carrier):=by simp
     have hx0:Ttl.pv (t0 w.req.carrier)=.agg [.s w.req.carrier,.i .i64 0,.i .i64 0,.i .i64 0]:=rfl;have hll:(zb5 L R (c+1)).length=(zb5 L R c).length+1:=by rw [htn,xbQ];simp
     have hmp:(zb5 L R c++[t0 w.req.carrier]).map Ttl.pv=(zb5 L R c).map Ttl.pv++[PV.agg [.s w.req.carrier,.i .i64 0,.i .i64 0,.i .i64 0]]:=by rw [xa6];rfl
     have hsm:(zb5 L R (c+1)).map Ttl.pv=((zb5 L R c).map Ttl.pv++[PV.agg [.s w.req.carrier,.i .i64 0,.i .i64 0,.i .i64 0]]).set (zb5 L R c).length (zmg w.req.carrier n r.gr (zjm L R c) (t0 w.req.carrier)).pv:=by rw [htn,xbf,hmp]
     have hg0:((zb5 L R c).map Ttl.pv++[PV.agg [.s w.req.carrier,.i .i64 0,.i .i64 0,.i .i64 0]])[(zb5 L R c).length]?=some (.agg [.s w.req.carrier,.i .i64 0,.i .i64 0,.i .i64 0]):=by
      rw [xaB (by rw [xaf];omega)];simp
     have hgs:∀ a:PV,(((zb5 L R c).map Ttl.pv++[PV.agg [.s w.req.carrier,.i .i64 0,.i .i64 0,.i .i64 0]]).set (zb5 L R c).length a)[(zb5 L R c).length]?=some a:=λa=>by rw [xbE (by rw [xad,xaf];simp)]
     generalize zdG (λt:Ttl=>decide (t.car=w.req.carrier)) (zb5 L R c)=q at *
     generalize hTl:(zb5 L R c).length=tl at *;have hTm:((zb5 L R c).map Ttl.pv).length=tl:=by rw [xaf,hTl]
     generalize (zb5 L R c).map Ttl.pv=TM at *;cases hg:r.gr with
     | false=>
      rw [hg] at hsm;have qe:=aI qR (aI @hx (aI @hr (aI @hg (aI @hcR (aI @hneg' (aI @hnn (aI @hTm (aI @hg0 (aI @hgs (aI @List.set_set.{0} @List.length_set.{0}))))))))));have jA:=h28;have jB:=h23;refine gE2 ?_;exact ⟨c+1,by omega,by omega,by simp [hll],by simp [hsm,zmg,t0]⟩
     | true=>
      rw [hg] at hsm;have h27:=hfar hg;have qe:=aI qR (aI @hx (aI @hr (aI @hg (aI @hcR (aI @hneg' (aI @hnn (aI @hTm (aI @hg0 (aI @hgs (aI @List.set_set.{0} @List.length_set.{0}))))))))));have jA:=h28;have jB:=h23;have jC:=h27;refine gE5 ?_;exact ⟨c+1,by omega,by omega,by simp [hll],by simp [hsm,zmg,t0]⟩
    ·rw [hk] at h28;have hneg':=eq_false (show ¬(k:Int) < 0 by omega)
     have htn:zb5 L R (c+1)=(zb5 L R c).set k (zmg w.req.carrier n r.gr (zjm L R c) t):=by rw [hnx];exact zpr hk hat
     have hcar:t.car=w.req.carrier:=of_decide_eq_true hp;have htb:=hbc t (xae hat);have hkl:=(xaa.1 hat).1;have hll:(zb5 L R (c+1)).length=(zb5 L R c).length:=by rw [htn,xbQ]
     have hgs:∀ a:PV,(((zb5 L R c).map Ttl.pv).set k a)[k]?=some a:=λa=>by rw [xbE (by rw [xaf];exact hkl)]
     have hsm:(zb5 L R (c+1)).map Ttl.pv=((zb5 L R c).map Ttl.pv).set k (zmg w.req.carrier n r.gr (zjm L R c) t).pv:=by rw [htn,xbf]
     cases hg:r.gr with
     | false=>
      rw [hg] at hsm;have qe:=aI qR (aI @hx (aI @hr (aI @hg (aI @hcR (aI @hkl (aI @hneg' (aI @hnn (aI @hat (aI @hgs (aI @List.set_set.{0} @List.length_set.{0}))))))))));have jA:=h28;have jB:=h23;refine gE2 ?_;exact ⟨c+1,by omega,by omega,by simp [hll],by simp [hsm,zmg,hcar]⟩
     | true=>
      rw [hg] at hsm;have h27:=hfar hg;have qe:=aI qR (aI @hx (aI @hr (aI @hg (aI @hcR (aI @hkl (aI @hneg' (aI @hnn (aI @hat (aI @hgs (aI @List.set_set.{0} @List.length_set.{0}))))))))));have jA:=h28;have jB:=h23;have jC:=h27;refine gE5 ?_;exact ⟨c+1,by omega,by omega,by simp [hll],by simp [hsm,zmg,hcar]⟩
   ·have e:c=L.length:=by omega
    subst e;have hsl:(zz (λa b:Ttl=>zkL a.car b.car) (zb5 L R L.length)).length=(zb5 L R L.length).length:=zu _ _
    have qe:=aI qR (aI @qN @hsl);have jA:SX [(900,400)] _:=⟨h30⟩;refine gE2 ?_
    all_goals (rw [h0];exact .refl _)
 ·have h0':=eq_false h0;rw [if_neg h0];have qe:=aI qR @h0';have jA:=h24;refine gE2 ?_
  all_goals exact zdc (.nilsl _) (.refl _)
def zdC (L:List Res) (hn:L.length*32<=140737488355328):Pure prog 24 [.sl 3 (L.map Res.pv)] (.sl 3 (L.map Res.pv)):=by
 refine pz func24 f24.eq_1 λhw X hX=>?_
 have qe:=@qR;refine gE2 ?_;refine run_ownL 100 165 3 (κ:=Nat) (λk=>⟨[(0,.p (.sl 3 (L.map Res.pv))),(3,.row 100 (L.take k).length),(4,.p (.i .i64 k))],[(100,.row 165 3 ((L.take k).map Res.pv) false)],[],false⟩) (λk=>k<=L.length) (λk=>L.length - k) 0 ?_ ?_ ?_
 ·refine ⟨gO ?_,gO ?_⟩<;>simp
 ·simp
 ·intro k hk;refine gH (λhc=>?_) λhc=>?_
  ·obtain ⟨w,hx⟩:=zj (i:=k) (l:=L) (by omega)
   have hlt:=zfJ hx;have hkl:(L.take k).length=k:=by rw [xan];omega
   have qe:=aI qR (aI @hx @hkl);refine gE2 ?_;exact ⟨k+1,by omega,by omega,by rw [zE hx];simp [hkl],by rw [zE hx];simp⟩
  ·have e:k=L.length:=by omega
   subst e;rw [xah];exact gD2
def zie (l:List Res):Pure prog 23 [.sl 3 (l.map Res.pv),.sl 3 (l.map Res.pv)] (.b true):=by
 refine pz func23 f23.eq_1 λhw X hX=>?_
 simp only [wfs,PV.wf,xaf,maxLen] at hw;have qe:=aI @zb2 (aI @zbR (aI @zio @zeB));refine gE2 ?_;refine zh (κ:=Nat) (λi=>⟨[(0,.p (.sl 3 (l.map Res.pv))),(1,.p (.sl 3 (l.map Res.pv))),(5,.p (.i .i64 i))],[],[],false⟩) (λi=>i<=l.length) (λi=>l.length - i) 0 ?_ ?_ ?_
 ·exact sR
 ·simp
 ·intro i hi;refine gH (λhc=>?_) λhc=>?_
  ·obtain ⟨x,hx⟩:=zj (i:=i) (l:=l) (by omega)
   have hb:decide (x.gr=x.gr)=true:=by simp
   have qe:=aI qR (aI @hx (aI @zb2 (aI @zbR (aI @zio (aI @zeB (aI @xaC @hb))))));refine gE2 ?_
   all_goals exact ⟨i+1,by omega,by omega,by simp⟩
  ·exact gD2
def zxK (L:List Wis) (w:Wis):Int:=zn [zfI w,if 0<=zeH w.req.name L then 9 else 0,if ¬w.req.link=s0 then 32 else 0,if (L.length:Int)=64 then 5 else 0]
def zwm (ls:List Lim) (L:List Wis) (R:List Res) (w:Wis):Int:=if zeY ls L R=0 then zxK L w else zeY ls L R
def zwl (ls:List Lim) (L:List Wis) (R:List Res) (w:Wis):Res:=match (zac w).find? (zst ls (zbL L R λ_=>true) w) with
 | some m=>⟨w.req.name,m,true⟩
 | none=>⟨w.req.name,0,false⟩
def ztx (ls:List Lim) (L:List Wis) (R:List Res) (w:Wis):List Res:=if zwm ls L R w=0 then R++[zwl ls L R w] else []
def zrZ (w:Wis):(zac w).length=zg2 w.req.minute w.ear w.lat w.step:=by
 unfold zac;rw [(zhs _ _).length_eq];unfold zkM;rw [xaf,xaU]
def zzT (l:List Res):l.all ((λx=>x.cells.all PV.one) ∘ Res.pv)=true:=by rw [xaO];intro x _;rfl
def zp5 (ls:List Lim) (b0:Brd) (w:Wis) (j:Nat):Brd:=((zac w).take j).foldl (λb m=>rfB ls b (zbF (w.req.at m))) b0
def zjG (ls:List Lim) (b0:Brd) {j:Nat} {m:Int} (h:(zac w)[j]?=some m):zp5 ls b0 w (j+1)=rfB ls (zp5 ls b0 w j) (zbF (w.req.at m)):=by
 unfold zp5;rw [zE h,xaP];rfl
def zAC (hl:∀ l ∈ ls,zr l=0) (h:BdM ls b0 M) (hP:zeV ls b0 P) (w:Wis):∀ j,BdM ls (zp5 ls b0 w j) M/\zeV ls (zp5 ls b0 w j) P:=by
 intro j
 induction j with
 | zero=>exact ⟨h,hP⟩
 | succ j ih=>
  cases hx:(zac w)[j]? with
  | none=>
   have e:zp5 ls b0 w (j+1)=zp5 ls b0 w j:=by unfold zp5;rw [xas (by have:=List.getElem?_eq_none_iff.1 hx;omega),xas (by have:=List.getElem?_eq_none_iff.1 hx;omega)]
   rw [e];exact ih
  | some m=>rw [zjG ls b0 hx];exact ⟨ih.1.rf hl _,zjF hl ih.2 _⟩
theorem zrm {α:Type} {p:α->Bool}:∀ {l:List α} {j:Nat} {x:α},(∀ y ∈ l.take j,p y=false)->l[j]?=some x->p x=true->l.find? p=some x
 | [],j,x,_,h,_=>by simp at h
 | a::l,0,x,_,h,hp=>by simp at h;subst h;rw [List.find?_cons,hp]
 | a::l,j+1,x,hno,h,hp=>by
  have h0:p a=false:=hno a (by rw [xa3];exact xaA ..)
  rw [List.find?_cons,h0];show l.find? p=some x;exact zrm (λy hy=>hno y (by rw [xa3];exact xaH _ hy)) (by simpa using h) hp
def zuk (hw:zJ ls=0→zgb ls) (h12:ShW L) (R:List Res) (w:Wis) (hw12:zfI w=0→zg2 w.req.minute w.ear w.lat w.step≤12):Pure prog 35 [.sl 11 (ls.map Lim.pv),.sl 18 (L.map Wis.pv),.sl 3 (R.map Res.pv),w.pv] (.tup [.sl 3 ((ztx ls L R w).map Res.pv),.i .i64 (zwm ls L R w)]):=by
 have h48:=zex hw h12 R
 refine pz func35 f35.eq_1 fun hwf X hX=>?_
 by_cases h0:zeY ls L R=0
 ·have h0':=eq_true h0
  have eE:zwm ls L R w=zxK L w:=by unfold zwm;rw [if_pos h0]
  by_cases hE:zxK L w=0
  ·rw [eE,hE]
   have eR:ztx ls L R w=R++[zwl ls L R w]:=by unfold ztx;rw [eE,if_pos hE]
   rw [eR]
   obtain ⟨h1,h2,h3⟩:=zkA h0
   have hl:=(zU h1).2
   have hn32:=(zU h1).1
   have hn:ls.length≤1000:=by omega
   have hw:=hw h1
   have hn64:=(zR h2).1
   have hb:=znp ls
   have hRn:=(zbZ h3).1
   have h20:=zmC (R:=R) hRn (by omega)
   have hpl:=zmJ L R
   have hm:=fun x (hx:x ∈ zlk L R fun _=>true)=>zmI hx
   have hE':(zn [zfI w,if 0≤zeH w.req.name L then 9 else 0,if decide (w.req.link=bs [])=false then 32 else 0,if (L.length:Int)=64 then 5 else 0]=0)=True:=by
    have e:(if decide (w.req.link=bs [])=false then (32:Int) else 0)=if ¬w.req.link=s0 then 32 else 0:=by
     by_cases hh:w.req.link=s0<;>simp [show (bs []:ByteArray)=s0 from rfl,hh]
    refine eq_true (Eq.trans ?_ hE)
    unfold zxK
    rw [e]
   have hall:=zsb hl L R (fun _=>true)
   have hBM:=(bdM0 ls).add hl (zlk L R fun _=>true) (t:=1) (by omega)
   have hrO:zwl ls L R w=match (zac w).find? (zst ls (zbL L R fun _=>true) w) with
    | some m=>⟨w.req.name,m,true⟩
    | none=>⟨w.req.name,0,false⟩:=rfl
   have hwe:zfI w=0:=(zi.1 hE).1
   have hwn:=zrZ w
   have hw12:=hw12 hwe
   generalize (zbL L R fun _=>true)=P at *
   generalize (zlk L R fun _=>true)=own at *
   have qe:=aI qR (aI @qN (aI @h0' @hE'));repeat' first|refine gC ?_ ?_<;>intro hc<;>try contradiction|refine za (h48) ?_|refine za (zev w) ?_|refine za (zeu L w.req.name) ?_|refine za (za0 _ _) ?_|refine za (zaG [_,_,_,_]) ?_|refine zf [(7,900),(4,901),(5,902)] (zcx ls) ?_|refine za (h20) ?_|refine gG ?_|show AK _;intro J Z|refine gJ ?_|omega|exact aT
   have hbb:([]:List (Ky × Int))=(⟨[],[]⟩:Brd).C:=rfl
   refine zh (κ:=Nat) (fun k=>⟨[(2,.p (.sl 3 (R.map Res.pv))),(7,.lp 7 0),(53,.p (.sl 7 (own.map Mov.pv))),(54,.p (.i .i64 own.length)),(55,.p (.i .i64 k)),(12,.lp 900 0)],[(900,.box [.p (.sl 11 (ls.map Lim.pv)),.lm 901,.lm 902] false),(901,.mp ((zy ls ⟨[],[]⟩ (own.take k) (1)).C.map cE) false),(902,.mp ((zy ls ⟨[],[]⟩ (own.take k) (1)).G.map gE) false),(7,.box (w.cells.map .p) false)],[],false⟩) (fun k=>k≤own.length) (fun k=>own.length - k) 0 ?_ ?_ ?_
   ·refine gJ ?_;simp [zy]
   ·simp
   ·intro k hk
    refine gH (fun hc=>?_) fun hc=>?_
    ·obtain ⟨x,hx⟩:=zj (i:=k) (l:=own) (by omega)
     obtain ⟨hB,hC⟩:=zbS hl hb (b:=⟨[],[]⟩) (M:=0) zi5 (t:=1) (by omega) own k
     have hnx:=zck ls ⟨[],[]⟩ (1) hx
     have h21:=zeT hl hn hw hB (fun key=>by have:=hC key;omega) x (hm x (xae hx)) (t:=1) (by omega)
     rw [←hnx] at h21
     have qe:=aI qR (aI @qN @hx);have jA:SX [] _:=⟨h21⟩;refine gE2 ?_
     exact ⟨k+1,by omega,by omega,by simp,by simp⟩
    ·have e:k=own.length:=by omega
     subst e
     rw [xah]
     refine zcU ?_
     refine (show Run _ (.seq (.ops false _) _) _ _ from zbC (zar (zbP 5 ?_)))
     simp only [xa3,xbb,xbz,xbw]
     have qe:=@qR;refine gE2 ?_
     refine zxA (n:=(R.length:Int)) (c:=(R.length:Int)+1) (k1:=.i64) (k2:=.i64) (by omega) (by omega) (by omega) ?_
     have hT:List.take R.length (R.map Res.pv)=R.map Res.pv:=xas (by simp)
     have hD:∀ z:PV,List.drop R.length (List.replicate R.length z)=[]:=fun z=>by simp
     have qe:=aI qR (aI @qN (aI @zzT (aI @hT (aI @hD @List.append_nil.{0}))));have jA:=zcW w hwe hw12;refine gE2 ?_
     generalize zy ls ⟨[],[]⟩ own 1=b0 at *
     refine zh (κ:=Nat) (fun j=>⟨[(7,.lp 7 0),(12,.lp 900 0),(15,.row 68 R.length),(16,.lp 16 0),(77,.p (.sl 1 ((zac w).map (.i .i64)))),(78,.p (.i .i64 (zac w).length)),(79,.p (.i .i64 j))],[(900,.box [.p (.sl 11 (ls.map Lim.pv)),.lm 901,.lm 902] false),(901,.mp ((zp5 ls b0 w j).C.map cE) false),(902,.mp ((zp5 ls b0 w j).G.map gE) false),(7,.box (w.cells.map .p) false),(16,.box [.p (.s w.req.name),.p (.i .i64 0),.p (.b false)] false),(68,.row 79 3 (R.map Res.pv) false)],[],false⟩) (fun j=>j≤(zac w).length∧∀ y ∈ (zac w).take j,zst ls P w y=false) (fun j=>(zac w).length - j) 0 ?_ ?_ ?_
     ·refine gJ ?_;simp [zp5]
     ·simp
     ·intro j hj
      obtain ⟨hj,hno⟩:=hj
      obtain ⟨hbm,hbo⟩:=zAC hl hBM hall w j
      refine gH (fun hc=>?_) fun hc=>?_
      ·obtain ⟨m,hx⟩:=zj (i:=j) (l:=zac w) (by omega)
       have hbn:=zjG ls b0 hx
       have hml:=zbd (w.req.at m)
       have h23:=zco w m
       have h83:=zbN hl hn hw hbm.ok hbm.cnt (own:=zbF (w.req.at m)) (fun y hy=>zit hy) (by omega) (by omega)
       have hrf:=zjE hl hbo (List.Perm.refl (P++zbF (w.req.at m)))
       rw [hrf,←hbn] at h83
       have hof:zst ls P w m=(xrW ls (P++zbF (w.req.at m)) (zbF (w.req.at m))).isEmpty:=rfl
       cases hW:xrW ls (P++zbF (w.req.at m)) (zbF (w.req.at m)) with
       | nil=>
        rw [hW] at hof h83
        have hfd:(zac w).find? (zst ls P w)=some m:=zrm hno hx (by rw [hof];rfl)
        have hr:zwl ls L R w=⟨w.req.name,m,true⟩:=by rw [hrO,hfd]
        rw [hr]
        have qe:=aI qR (aI @qN (aI @hx (aI @zzT (aI @zwW (aI @List.map_append.{0,0} (aI @List.map_cons.{0,0} (@List.map_nil.{0,0})))))));have jA:=h23;have jB:SX [] _:=⟨h83⟩;exact gD2
       | cons w0 W=>
        rw [hW] at hof h83
        have hW':=eq_false (show ¬(((w0::W).length:Int)=0) by rw [xaz];omega)
        have qe:=aI qR (aI @qN (aI @hx @hW'));have jA:=h23;have jB:SX [] _:=⟨h83⟩;refine gE2 ?_
        exact ⟨j+1,⟨by omega,zd1 hno hx (by rw [hof];rfl)⟩,by omega,by simp,by simp⟩
      ·have e:j=(zac w).length:=by omega
       subst e
       have hfd:(zac w).find? (zst ls P w)=none:=zgP fun y hy=>hno y (by rw [xah];exact hy)
       have hr:zwl ls L R w=⟨w.req.name,0,false⟩:=by rw [hrO,hfd]
       rw [hr]
       have qe:=aI qR (aI @qN (aI @zzT (aI @zwW (aI @List.map_append.{0,0} (aI @List.map_cons.{0,0} (@List.map_nil.{0,0}))))));exact gD2
  ·have hE':(zn [zfI w,if 0≤zeH w.req.name L then 9 else 0,if decide (w.req.link=bs [])=false then 32 else 0,if (L.length:Int)=64 then 5 else 0]=0)=False:=by
    have e:(if decide (w.req.link=bs [])=false then (32:Int) else 0)=if ¬w.req.link=s0 then 32 else 0:=by
     by_cases hh:w.req.link=s0<;>simp [show (bs []:ByteArray)=s0 from rfl,hh]
    refine eq_false fun k=>hE (Eq.trans ?_ k)
    unfold zxK
    rw [e]
   have eR:ztx ls L R w=[]:=by unfold ztx;rw [eE,if_neg hE]
   have e:(if decide (w.req.link=bs [])=false then (32:Int) else 0)=if ¬w.req.link=s0 then 32 else 0:=by
    by_cases hh:w.req.link=s0<;>simp [show (bs []:ByteArray)=s0 from rfl,hh]
   have eC:zxK L w=zn [zfI w,if 0≤zeH w.req.name L then 9 else 0,if decide (w.req.link=bs [])=false then 32 else 0,if (L.length:Int)=64 then 5 else 0]:=by unfold zxK;rw [e]
   rw [eR,eE,eC]
   have qe:=aI qR (aI @qN (aI @h0' @hE'));have jA:=h48;have jB:=zev w;have jC:=zeu L w.req.name;have jD:=fun u1 u2=>za0 u1 u2;have jE:=fun u1 u2 u3 u4=>zaG [u1,u2,u3,u4];refine gE5 ?_
   all_goals exact zdc (.nilsl _) (.refl _)
 ·have h0':=eq_false h0
  have e:zwm ls L R w=zeY ls L R:=by unfold zwm;rw [if_neg h0]
  have e2:ztx ls L R w=[]:=by unfold ztx;rw [e,if_neg h0]
  rw [e,e2]
  have qe:=aI qR @h0';have jA:=h48;refine gE2 ?_
  all_goals exact zdc (.nilsl _) (.refl _)
def awP:Per:=⟨2,2,127⟩
def awH:Lim:=⟨bs [104,111,117,114],sT,s0,60,60,540,660,awP,1⟩
def awW (n c k l:List UInt8) (m e t:Int):Wis:=⟨⟨bs n,bs c,bs k,s0,s0,bs l,awP,m,0,0,0⟩,e,t,20,30,60⟩
def awA:Wis:=awW [97] [120] [65] [] 610 580 680
def awB:Wis:=awW [98] [121] [65] [] 610 580 680
def awC:Wis:=awW [99] [120] [65] [] 610 580 680
def awL:List Wis:=[awA,awB,awC]
def awN (n:List UInt8) (m:Int):Res:=⟨bs n,m,true⟩
def awO (n:List UInt8):Res:=⟨bs n,0,false⟩
def awR:List Res:=[awN [97] 610,awN [98] 590,awN [99] 670]
def zii (hl:∀ l ∈ ls,zr l=0) (h:zav L=0) (F:Unt->List Opt):(zeW ls L F (zq L).length).1=zh6 ls L F L.length:=by
 have e:zeW ls L F (zq L).length=zih ls L F L.length:=by
  unfold zeW zih;rw [xah,zq,List.foldl_flatMap]
  rfl
 rw [e];exact (zmn hl h F L.length (xap _)).1
def ax1:(zac awA,zfI awA)=([610,590,630,650,670],0):=by kernel_rfl
def ax2:zh6 [awH] awL (zaS awL) 3=awR:=by kernel_rfl
def zCs:(zJ [awH],zav awL,zc8 awL awR)=(0,0,0):=by kernel_rfl
def ax4:(zkK awL awR 3,zoW awL awR)=(80,0):=by kernel_rfl
def ax5:zz (λa b:Ttl=>zkL a.car b.car) (zb5 awL awR 3)=[⟨bs [120],2,2,60⟩,⟨bs [121],1,1,20⟩]:=by kernel_rfl
def zCu:List Res:=[awO [97],awN [98] 610,awN [99] 670]
def ax6:(zeY [awH] awL zCu,zoJ [awH] awL zCu)=(0,some ⟨0,610,-1,[bs [98]]⟩):=by kernel_rfl
def zCt:List Res:=[awN [97] 610,awO [98],awN [99] 670]
def ax7:(zeY [awH] awL zCt,zwe [awH] awL zCt)=(0,some ⟨1,590,-1,[]⟩):=by kernel_rfl
def awP8:List Int:=zo7 [awH] awL awR 0
def ax8:(awP8.length,awP8[27]?,zo9 [awH] awL awR 0)=(66,some 610,0):=by kernel_rfl
def ax9:(zss [awH] awL awR,(zp8 [awH] awL awR).length)=(0,5):=by kernel_rfl
def ax9b:(zp8 [awH] awL awR)[2]?=some ⟨bs [99],590,-1,0,3420,[bs [98]]⟩:=by kernel_rfl
def awQ:List Wis:=[awW [112] [120] [65] [113] 610 590 630,awW [113] [120] [68] [112] 650 630 670]
def ax10:(zh6 [awH] awQ (zaS awQ) 2,zav awQ)=([awN [112] 610,awN [113] 670],0):=by kernel_rfl
def zzQ:Lim:=⟨bs [104,111,117,114],sT,s0,60,60,600,660,awP,0⟩
def ax11:(zh6 [zzQ] awL (wdF awR) 3,zJ [zzQ])=([awO [97],awN [98] 590,awO [99]],0):=by kernel_rfl
def awD:Wis:=awW [100] [120] [65] [] 610 580 680
def ax12:(zwm [awH] awL awR awD,zwl [awH] awL awR awD)=(0,awO [100]):=by kernel_rfl
end Go.Proofs.YtbgckikhhcbmpaaGreat
