/- Contracts of functions, for the claim. No conditions. -/
import Derived.Test.YtbgckikhhcbmpaaGreatK4
import Derived.Test.YtbgckikhhcbmpaaGreatK5
import Derived.Test.YtbgckikhhcbmpaaGreatK8
import Derived.Test.YtbgckikhhcbmpaaGreatK7
set_option linter.all false
set_option maxHeartbeats 8000000
set_option maxRecDepth 100000
namespace Go.Proofs.YtbgckikhhcbmpaaGreat
open Go.RowKit Tryz
abbrev unP (u:Unt):PV:=.agg [.i .i64 u.1,.i .i64 u.2]
abbrev zzZ (u:Unt):List PV:=[unP u]
def zdT (L:List Wis):List Int:=L.map (zuE L)
def zqT (L:List Wis) {i:Nat} (h:i < L.length):(zdT L)[i]?=some (zau L i):=by
 obtain ⟨w,hw⟩:=zj h;unfold zdT zau;rw [xal,hw];rfl
def zmX (L:List Wis):(zdT L).length=L.length:=by unfold zdT;rw [xaf]
def zyw (L:List Wis) (i:Nat):-1<=zau L i/\zau L i<=L.length:=by
 unfold zau
 split
 ·rename_i w hw;unfold zuE
  split
  ·omega
  ·unfold zeH;have h1:=zr9 w.req.link (zkG L);have h2:=zr7 w.req.link (zkG L);have h3:(zkG L).length=L.length:=by unfold zkG;rw [xaf]
   omega
 ·omega
def pmK (L:List Wis) (k:Nat):List (PV × PV):=(List.range k).map λi=>(PV.s (nmW L i),PV.i .i64 (i:Int))
theorem zmQ {n:ByteArray} {v:PV}:∀ {es:List (PV × PV)},(∀ e ∈ es,eqCells [PV.s n] e.1.cells=false)->mput (.s n) v es=es++[(.s n,v)]
 | [],_=>rfl
 | (k,u)::r,h=>by
  have h1:eqCells (PV.s n).cells k.cells=false:=h (k,u) (by simp)
  have ih:=zmQ (n:=n) (v:=v) (es:=r) λe he=>h e (by simp [he])
  simp only [mput,h1,ih,xaA,if_false,xaH]
theorem zmR {n:ByteArray}:∀ {es fs:List (PV × PV)},(∀ e ∈ es,eqCells [PV.s n] e.1.cells=false)->mget (.s n) (es++fs)=mget (.s n) fs
 | [],_,_=>rfl
 | (k,u)::r,fs,h=>by
  have h1:eqCells (PV.s n).cells k.cells=false:=h (k,u) (by simp)
  have ih:=zmR (n:=n) (es:=r) (fs:=fs) λe he=>h e (by simp [he])
  simp only [mget,h1,xaA,if_false,xaH];exact ih
def zA6 {L:List Wis} (h:zav L=0) {k:Nat} {w:Wis} (hw:L[k]?=some w) {m:Nat} (hm:m<=k):∀ e ∈ pmK L m,eqCells [PV.s w.req.name] e.1.cells=false:=by
 intro e he;obtain ⟨i,hi,rfl⟩:=xaM.1 he;have hi:=xaQ.1 hi;have hk:k < L.length:=(xaa.1 hw).1;simp only [PV.cells,eqCells,eqPV,xbN,decide_eq_false_iff_not];intro e;have:nmW L k=w.req.name:=by unfold nmW;rw [hw]
 have:=zBn h hk (j:=i) (by omega) (this.trans e)
 omega
def zA5 {L:List Wis} (h:zav L=0) {k:Nat} {w:Wis} (hw:L[k]?=some w):mput (.s w.req.name) (.i .i64 (k:Int)) (pmK L k)=pmK L (k+1):=by
 rw [zmQ (zA6 h hw (xam _))];unfold pmK;rw [xa7,xa6];have:nmW L k=w.req.name:=by unfold nmW;rw [hw]
 rw [xak,xaC,this]
def zA7 {L:List Wis} (h:zav L=0) {k:Nat} {w:Wis} (hw:L[k]?=some w):mget (.s w.req.name) (pmK L L.length)=some (.i .i64 (k:Int)):=by
 have hk:k < L.length:=(xaa.1 hw).1;have hn:nmW L k=w.req.name:=by unfold nmW;rw [hw]
 have e:pmK L L.length=pmK L k++(PV.s w.req.name,PV.i .i64 (k:Int))::(List.range' (k+1) (L.length - (k+1))).map λi=>(PV.s (nmW L i),PV.i .i64 (i:Int)):=by
  rw [pmK,zft (λi=>(PV.s (nmW L i),PV.i .i64 (i:Int))) hk,hn];rfl
 rw [e,zmR (zA6 h hw (xam _))];simp [mget,PV.cells,eqCells,eqPV]
def zqv (L:List Wis) (n:ByteArray) (k:Nat):keysOk [2] false (.s n) (pmK L k):=by
 have:∀ I:List Nat,keysOk [2] false (.s n) (I.map λi=>(PV.s (nmW L i),PV.i .i64 (i:Int))):=by
  intro I
  induction I with
  | nil=>trivial
  | cons i I ih=>exact ⟨⟨rfl,by simp [PV.cells,eqCellsOk,eqOk]⟩,ih⟩
 exact this _
def zyj {L:List Wis} (h:zav L=0) {w:Wis} (hw:w ∈ L) (hl:w.req.link≠s0):(mget (.s w.req.link) (pmK L L.length)).getD (.i .i64 0)=.i .i64 (zeH w.req.link L):=by
 obtain ⟨i,hi⟩:=xa8 hw;have hlk:zau L i=zeH w.req.link L:=by unfold zau zuE;rw [hi];simp only [if_neg hl]
 have hne:¬zeH w.req.link L < 0:=by
  have he:=((zR h).2 i w hi).2;unfold zjj at he;rw [if_neg hl] at he;intro hlt;have hat:L[(zeH w.req.link L).toNat]?=L[0]?:=by rw [show (zeH w.req.link L).toNat=0 by omega]
  rcases zcH h hi with h1|⟨k,b,hk⟩
  ·split at he
   ·rename_i b hb
    split at he
    ·cases he
    ·rename_i h0
     first|omega|(simp only [not_lt] at h0;omega)|exact h0 hlt
   ·cases he
  ·have:=hk.lab;omega
 have hnm:=zwU (n:=w.req.link) (l:=zkG L) hne;unfold zkG at hnm;rw [xal] at hnm;obtain ⟨b,hb,e⟩:=xab.1 hnm;have hb':L[(zeH w.req.link L).toNat]?=some b:=hb;have:=zA7 h hb';rw [e] at this;rw [this];have:((zeH w.req.link L).toNat:Int)=zeH w.req.link L:=by omega
 simp [this]
def ztS (w:Wis) (M:List (PV × PV)) {r:Int} (hk:keysOk [2] false (.s w.req.link) M) (hr:w.req.link≠s0->(mget (.s w.req.link) M).getD (.i .i64 0)=.i .i64 r):Pure prog 200 ([]++[w.pv]++[.ip (.mp M) 0]) (.i .i64 (if w.req.link=s0 then -1 else r)):=by
 have hk':=eq_true hk;refine pz func200 f200.eq_1 λhw X hX=>?_
 by_cases h:w.req.link=s0
 ·rw [if_pos h];have h':=eq_true h;have qe:=aI qR @h';exact gD0
 ·rw [if_neg h];have hr':=hr h;have h':=eq_false h;have qe:=aI qR (aI @h' (aI @hk' @hr'));exact gD0
def ztT {f:Nat} {caps:List PV} {L:List Wis} {g:Wis->Int} (hf:∀ w ∈ L,Pure prog f ([]++[w.pv]++caps) (.i .i64 (g w))) (hn:L.length<=1000000):Pure prog 199 [.sl 18 (L.map Wis.pv),.fn (.func f) [] caps] (.sl 1 ((L.map g).map (.i .i64))):=by
 refine pz func199 f199.eq_1 λhw X hX=>?_
 repeat' first|refine gC ?_ ?_<;>intro hc<;>try contradiction|refine gG ?_|show AK _;intro J Z|refine gJ ?_|omega|exact aT
 refine run_ownL 400 3 1 (κ:=Nat) (λk=>⟨[(1,.p (.fn (.func f) [] caps)),(5,.row 400 k),(8,.p (.sl 18 (L.map Wis.pv))),(9,.p (.i .i64 L.length)),(10,.p (.i .i64 k))],[(400,.row 3 1 (((L.take k).map g).map (.i .i64)) false)],[],false⟩) (λk=>k<=L.length) (λk=>L.length - k) 0 ?_ ?_ ?_
 ·refine ⟨gO ?_,gO ?_⟩<;>simp
 ·simp
 ·intro k hk;have hkl:(((L.take k).map g).map (PV.i .i64)).length=k:=by simp;omega
  have hkl2:((L.take k).map g).length=k:=by simp;omega
  have hkl3:(L.take k).length=k:=by simp;omega
  repeat first|refine gG ?_|show AK _;intro J Z|refine gJ ?_|omega|exact aT
  (refine gC ?_ ?_<;>intro hc<;>try contradiction)
  ·obtain ⟨x,hx⟩:=zj (i:=k) (l:=L) (by omega)
   have qe:=aI qR (aI @hx (aI @hkl (aI @hkl2 @hkl3)));repeat' first|refine gC ?_ ?_<;>intro hc<;>try contradiction|refine zl (hf x (xae hx)) ?_|refine gG ?_|show AK _;intro J Z|refine gJ ?_|omega|exact aT
   exact ⟨k+1,by omega,by omega,by simp,by simp [zE hx]<;>omega⟩
  ·obtain rfl:k=L.length:=by omega
   have qe:=aI qR (aI @qN (aI @hkl (aI @hkl2 (aI @hkl3 (aI @List.take_length.{0} (aI @rtN @rtR))))));exact gD0
def zmA (L:List Wis) (h:zav L=0):Pure prog 137 [.sl 18 (L.map Wis.pv)] (.sl 1 ((zdT L).map (.i .i64))):=by
 have hn:=(zR h).1;have h99:=ztT (f:=200) (caps:=[.ip (.mp (pmK L L.length)) 0]) (L:=L) (g:=zuE L) (λw hw=>ztS w (pmK L L.length) (zqv L _ _) (λhl=>zyj h hw hl)) (by omega)
 refine pz func137 f137.eq_1 λhw X hX=>?_
 repeat' first|refine gC ?_ ?_<;>intro hc<;>try contradiction|refine gG ?_|show AK _;intro J Z|refine gJ ?_|omega|exact aT
 refine zh (κ:=Nat) (λk=>⟨[(0,.p (.sl 18 (L.map Wis.pv))),(3,.lp 3 0),(7,.p (.sl 18 (L.map Wis.pv))),(8,.p (.i .i64 L.length)),(9,.p (.i .i64 k))],[(3,.box [.lm 6] false),(6,.mp (pmK L k) false)],[],false⟩) (λk=>k<=L.length) (λk=>L.length - k) 0 ?_ ?_ ?_
 ·refine gJ ?_;simp [pmK]
 ·simp
 ·intro k hk
  repeat first|refine gG ?_|show AK _;intro J Z|refine gJ ?_|omega|exact aT
  (refine gC ?_ ?_<;>intro hc<;>try contradiction)
  ·obtain ⟨x,hx⟩:=zj (i:=k) (l:=L) (by omega)
   have hput:=zA5 h hx;have hks:=eq_true (zqv L x.req.name k);have qe:=aI qR (aI @hx (aI @hput @hks));repeat' first|refine gC ?_ ?_<;>intro hc<;>try contradiction|refine gG ?_|show AK _;intro J Z|refine gJ ?_|omega|exact aT
   exact ⟨k+1,by omega,by omega,by simp⟩
  ·obtain rfl:k=L.length:=by omega
   refine zcU ?_;refine (show Run _ (.seq _ _) _ _ from zbC ?_)
   refine (show Run _ (.ops false _) _ _ from zar (zbP 2 ?_))
   simp only [xa2,xbi,xbB,xbH];have qe:=@qR;repeat' first|refine gC ?_ ?_<;>intro hc<;>try contradiction|refine gG ?_|show AK _;intro J Z|refine gJ ?_|omega|exact aT
   refine zag (zaz 21 (.fn (.func 200) [] [.ip (.mp (pmK L L.length)) 0]) (sR) (by first|trivial|simp) (.refl _)) ?_
   rintro _ rfl;refine zw ?_;have qe:=aI qR (aI @qN (aI @rtN @rtR));have jA:=h99;exact gD2
def zcp (L:List Wis) (h:zav L=0):Pure prog 84 [.sl 18 (L.map Wis.pv)] (.fn (.func 161) [] [.ip (.sl 1 ((zdT L).map (.i .i64))) 0]):=by
 refine pz func84 f84.eq_1 λhw X hX=>?_
 have qe:=@qR;have jA:=zmA L h;exact gD2
def zcr (L:List Wis) (hn:L.length<=1000000):zsz prog 161 [.ip (.sl 1 ((zdT L).map (.i .i64))) 0] ((zq L).map zzZ):=by
 refine ziM (cF func161 f161.eq_1) (by simp) λhw X hX=>?_
 simp only [zch];have hl:=zmX L;have qe:=aI qR @hl;repeat' first|refine gC ?_ ?_<;>intro hc<;>try contradiction|refine gG ?_|show AK _;intro J Z|refine gJ ?_|omega|exact aT
 refine zh (κ:=Nat) (λk=>⟨[(0,.yield),(1,.p (.ip (.sl 1 ((zdT L).map (.i .i64))) 0)),(5,.p (.sl 1 ((zdT L).map (.i .i64)))),(6,.p (.i .i64 L.length)),(7,.p (.i .i64 k))],[],((List.range k).flatMap (za7 L)).map zzZ,false⟩) (λk=>k<=L.length) (λk=>L.length - k) 0 ?_ ?_ ?_
 ·simp only [hl,qS,seval]<;>simp
 ·simp
 ·intro k hk
  repeat first|refine gG ?_|show AK _;intro J Z|refine gJ ?_|omega|exact aT
  (refine gC ?_ ?_<;>intro hc<;>try contradiction)
  ·have hx:=zqT L (show k < L.length by omega)
   have hr:=zyw L k;have hs:=zbg (za7 L) (show k < L.length by omega)
   have hnx:(List.range (k+1)).flatMap (za7 L)=(List.range k).flatMap (za7 L)++za7 L k:=zbE _ _
   by_cases hb:zau L k < 0\/(k:Int) < zau L k
   ·have hi:za7 L k=[((k:Int),zau L k)]:=by unfold za7;rw [if_pos hb]
    have hs':(zq L).map zzZ=((List.range k).flatMap (za7 L)).map zzZ++zzZ ((k:Int),zau L k)::((List.range' (k+1) (L.length - (k+1))).flatMap (za7 L)).map zzZ:=by
     rw [zq,hs,hi];simp
    rw [hi] at hnx
    by_cases hb1:zau L k < 0
    ·have hb1':=eq_true hb1;have qe:=aI qR (aI @hx (aI @hb1' @decide_true));repeat' first|refine gC ?_ ?_<;>intro hc<;>try contradiction|(show zp _ _ _ _ (⟨_,.callv,_,_,_⟩::_) _ _;refine ze5 (by first|rfl|(simp (disch:=omega) only [qG,qe,seval]<;>rfl)) (by simp (disch:=omega) only [qS,qe,seval]) (by simp (disch:=omega) only [qS,qe,seval]<;>rfl) (by simp (disch:=omega) only [qS,qe,seval];try trivial) rfl _ (hs') ?_;intro b;(refine zw ?_))|refine gG ?_|show AK _;intro J Z|refine gJ ?_|omega|exact aT
     ·subst hc;exact .inl rfl
     ·subst hc;exact ⟨k+1,by omega,by omega,by simp,by rw [hnx];simp,rfl⟩
    ·have hb1':=eq_false hb1;have hb2':=eq_true (show (k:Int) < zau L k by omega)
     have qe:=aI qR (aI @hx (aI @hb1' (aI @hb2' (aI @decide_true @decide_false))));repeat' first|refine gC ?_ ?_<;>intro hc<;>try contradiction|(show zp _ _ _ _ (⟨_,.callv,_,_,_⟩::_) _ _;refine ze5 (by first|rfl|(simp (disch:=omega) only [qG,qe,seval]<;>rfl)) (by simp (disch:=omega) only [qS,qe,seval]) (by simp (disch:=omega) only [qS,qe,seval]<;>rfl) (by simp (disch:=omega) only [qS,qe,seval];try trivial) rfl _ (hs') ?_;intro b;(refine zw ?_))|refine gG ?_|show AK _;intro J Z|refine gJ ?_|omega|exact aT
     ·subst hc;exact .inl rfl
     ·subst hc;exact ⟨k+1,by omega,by omega,by simp,by rw [hnx];simp,rfl⟩
   ·have hi:za7 L k=[]:=by unfold za7;rw [if_neg hb]
    rw [hi,xat] at hnx;have hb1':=eq_false (show ¬zau L k < 0 by omega)
    have hb2':=eq_false (show ¬(k:Int) < zau L k by omega)
    have qe:=aI qR (aI @hx (aI @hb1' (aI @hb2' @decide_false)));repeat' first|refine gC ?_ ?_<;>intro hc<;>try contradiction|(show zp _ _ _ _ (⟨_,.callv,_,_,_⟩::_) _ _;refine zbn (q:=(.b false)) (by first|rfl|(simp (disch:=omega) only [qG,qe,seval]<;>rfl)) ?_;(try (refine zw ?_)))|refine gG ?_|show AK _;intro J Z|refine gJ ?_|omega|exact aT
    exact ⟨k+1,by omega,by omega,by simp,by rw [hnx]⟩
  ·repeat' first|refine gC ?_ ?_<;>intro hc<;>try contradiction|refine gG ?_|show AK _;intro J Z|refine gJ ?_|omega|exact aT
   have e:k=L.length:=by omega
   subst e;exact .inr rfl
abbrev zsS (x:Nat × Int):List PV:=[.i .i64 (x.1:Int),.i .i64 x.2]
def zeX (u:Unt):List (Nat × Int):=(0,u.1)::if u.2 < 0 then [] else [(1,u.2)]
def zmx (u:Unt):Pure prog 169 [unP u] (.fn (.func 217) [] [.ip (unP u) 0]):=by
 refine pz func169 f169.eq_1 λhw X hX=>?_
 have qe:=@qR;exact gD0
def zm1 (u:Unt) (h:0<=u.1):zsz prog 217 [.ip (unP u) 0] ((zeX u).map zsS):=by
 refine ziM (cF func217 f217.eq_1) (by simp) λhw X hX=>?_
 simp only [zch];have qe:=@qR;repeat' first|refine gC ?_ ?_<;>intro hc<;>try contradiction|refine gG ?_|show AK _;intro J Z|refine gJ ?_|omega|exact aT
 refine zh (κ:=Nat) (λk=>⟨[(0,.yield),(1,.p (.ip (unP u) 0)),(5,.p (unP u)),(6,.p (.i .i64 k))],[],((zeX u).take k).map zsS,false⟩) (λk=>k<=2) (λk=>2 - k) 0 ?_ ?_ ?_
 ·exact sS
 ·simp
 ·intro k hk
  repeat first|refine gG ?_|show AK _;intro J Z|refine gJ ?_|omega|exact aT
  (refine gC ?_ ?_<;>intro hc<;>try contradiction)
  ·rcases (show k=0\/k=1 by omega) with rfl|rfl
   ·have hs':(zeX u).map zsS=((zeX u).take 0).map zsS++zsS (0,u.1)::((zeX u).drop 1).map zsS:=by unfold zeX;simp
    have hb:=eq_true h;have qe:=aI qR (aI @hb @decide_true);repeat' first|refine gC ?_ ?_<;>intro hc<;>try contradiction|(show zp _ _ _ _ (⟨_,.callv,_,_,_⟩::_) _ _;refine ze5 (by first|rfl|(simp (disch:=omega) only [qG,qe,seval]<;>rfl)) (by simp (disch:=omega) only [qS,qe,seval]) (by simp (disch:=omega) only [qS,qe,seval]<;>rfl) (by simp (disch:=omega) only [qS,qe,seval];try trivial) rfl _ (hs') ?_;intro b;(refine zw ?_))|refine gG ?_|show AK _;intro J Z|refine gJ ?_|omega|exact aT
    ·subst hc;exact .inl rfl
    ·subst hc;exact ⟨1,by omega,by omega,by simp,by simp [zeX],rfl⟩
   ·by_cases h2:u.2 < 0
    ·have hb:=eq_false (show ¬0<=u.2 by omega)
     have qe:=aI qR (aI @hb @decide_false);repeat' first|refine gC ?_ ?_<;>intro hc<;>try contradiction|(show zp _ _ _ _ (⟨_,.callv,_,_,_⟩::_) _ _;refine zbn (q:=(.b false)) (by first|rfl|(simp (disch:=omega) only [qG,qe,seval]<;>rfl)) ?_;(try (refine zw ?_)))|refine gG ?_|show AK _;intro J Z|refine gJ ?_|omega|exact aT
     exact ⟨2,by omega,by omega,by simp,by simp [zeX,h2]⟩
    ·have hb:=eq_true (show 0<=u.2 by omega)
     have hs':(zeX u).map zsS=((zeX u).take 1).map zsS++zsS (1,u.2)::[]:=by unfold zeX;rw [if_neg h2];simp
     have qe:=aI qR (aI @hb @decide_true);repeat' first|refine gC ?_ ?_<;>intro hc<;>try contradiction|(show zp _ _ _ _ (⟨_,.callv,_,_,_⟩::_) _ _;refine ze5 (by first|rfl|(simp (disch:=omega) only [qG,qe,seval]<;>rfl)) (by simp (disch:=omega) only [qS,qe,seval]) (by simp (disch:=omega) only [qS,qe,seval]<;>rfl) (by simp (disch:=omega) only [qS,qe,seval];try trivial) rfl _ (hs') ?_;intro b;(refine zw ?_))|refine gG ?_|show AK _;intro J Z|refine gJ ?_|omega|exact aT
     ·subst hc;exact .inl rfl
     ·subst hc;exact ⟨2,by omega,by omega,by simp,by simp [zeX,h2],rfl⟩
  ·repeat' first|refine gC ?_ ?_<;>intro hc<;>try contradiction|refine gG ?_|show AK _;intro J Z|refine gJ ?_|omega|exact aT
   have e:k=2:=by omega
   subst e;exact .inr (by unfold zeX;split<;>simp)
def zuf (w:Wis) (h12:zfI w=0->zg2 w.req.minute w.ear w.lat w.step<=12):Pure prog 62 [w.pv] (.tup [.sl 1 ((if zfI w=0 then zac w else []).map (.i .i64)),.i .i64 (zfI w)]):=by
 refine pz func62 f62.eq_1 λhw X hX=>?_
 by_cases h:zfI w=0
 ·have h':=eq_true h;have qe:=aI qR @h';repeat' first|refine gC ?_ ?_<;>intro hc<;>try contradiction|refine za (zev w) ?_|refine za (zcW w h (h12 h)) ?_|refine gG ?_|show AK _;intro J Z|refine gJ ?_|omega|exact aT
  all_goals first|exact .refl _|(simp only [h];exact .refl _)
 ·have h':=eq_false h;have qe:=aI qR @h';repeat' first|refine gC ?_ ?_<;>intro hc<;>try contradiction|refine za (zev w) ?_|refine gG ?_|show AK _;intro J Z|refine gJ ?_|omega|exact aT
  all_goals exact zdc (.nilsl _) (.refl _)
def zt0 (L:List Int) (m:Int):Pure prog 178 [.sl 1 (L.map (.i .i64)),.i .i64 m] (.i .i64 (zdG (λx=>decide (x=m)) L)):=by
 refine pz func178 f178.eq_1 λhw X hX=>?_
 simp only [wfs,PV.wf,xaf,maxLen] at hw
 repeat' first|refine gC ?_ ?_<;>intro hc<;>try contradiction|refine gG ?_|show AK _;intro J Z|refine gJ ?_|omega|exact aT
 refine zh (κ:=Nat) (λi=>⟨[(0,.p (.sl 1 (L.map (.i .i64)))),(1,.p (.i .i64 m)),(7,.p (.i .i64 L.length)),(8,.p (.i .i64 i))],[],[],false⟩) (λi=>i<=L.length/\∀ y ∈ L.take i,(λx=>decide (x=m)) y=false) (λi=>L.length - i) 0 ?_ ?_ ?_
 ·exact sR
 ·simp
 ·intro i hi
  repeat first|refine gG ?_|show AK _;intro J Z|refine gJ ?_|omega|exact aT
  (refine gC ?_ ?_<;>intro hc<;>try contradiction)
  ·obtain ⟨y,hy⟩:=zj (i:=i) (l:=L) (by omega)
   have qe:=aI qR @hy;repeat' first|refine gC ?_ ?_<;>intro hc<;>try contradiction|refine gG ?_|show AK _;intro J Z|refine gJ ?_|omega|exact aT
   ·rw [zbe hi.2 hy (by simp;omega)];exact .refl _
   ·exact ⟨i+1,⟨by omega,zd1 hi.2 hy (by simp;omega)⟩,by omega,by simp⟩
  ·repeat' first|refine gC ?_ ?_<;>intro hc<;>try contradiction|refine gG ?_|show AK _;intro J Z|refine gJ ?_|omega|exact aT
   have e:i=L.length:=by omega
   subst e;rw [zct (λy hy=>hi.2 y (by rw [xaq (by simp)];exact hy))];exact .refl _
def zid (L:List Int) (m:Int):Pure prog 104 [.sl 1 (L.map (.i .i64)),.i .i64 m] (.b (decide (m ∈ L))):=by
 have hd:decide (0<=zdG (λx=>decide (x=m)) L)=decide (m ∈ L):=by
  rw [zeG,xb2,xbj,decide_eq_true_iff];exact ⟨λ⟨x,h1,h2⟩=>by rw [<-of_decide_eq_true h2];exact h1,λh=>⟨m,h,by simp⟩⟩
 refine pz func104 f104.eq_1 λhw X hX=>?_
 have qe:=aI qR @hd;have jA:=zt0 L m;exact gD2
section
variable {f:Nat} {cs:List PV} {c:OptN->OptN->Int}
def zsk (hf:∀ a b:OptN,Pure prog f ([]++[a.pv,b.pv]++cs) (.i .i64 (c a b))) (hs:SW (zaJ c)) (L:List OptN) (hn:L.length≤1000000):zbk prog 216 [.row 900 L.length,.p (.i .i64 L.length),.p (.fn (.func f) [] cs)] [(900,.row 152 2 (L.map OptN.pv) false)] (.p (.tup [])) [(900,.row 152 2 ((zz c L).map OptN.pv) false)]:=by
 obtain ⟨N,hN⟩:∃ N,L.length=N:=⟨_,rfl⟩
 rw [hN] at hn
 have hsl:=(zu c L).trans hN
 refine zD (cF func216 f216.eq_1) (by simp) (by simp [scPs,scP,zm]) (by simp [scObj]) ⟨rfl,trivial⟩ (by simp [scObj]) (by simp [zcQ,zm,zu]) fun X hX=>?_
 rw [hN]
 unfold zx ghO
 have qe:=aI qR @gLV.eq_2;repeat' first|refine gC ?_ ?_<;>intro hc<;>try contradiction|refine gG ?_|show AK _;intro J Z|refine gJ ?_|omega|exact aT
 refine zh (κ:=List OptN × List OptN) (fun k=>⟨[(0,.row 900 N),(1,.p (.i .i64 N)),(2,.p (.fn (.func f) [] cs)),(6,.p (.i .i64 20)),(7,.p (.i .i64 (k.1.length:Nat))),(8,.p (.i .i64 (k.1.length+20:Nat))),(1000900,.row 900 N)],[(900,.row 152 2 ((k.1++k.2).map OptN.pv) false)],[],false⟩)
  (fun k=>k.1.length+k.2.length=N∧k.1++Wdo c 20 k.2=Wdo c 20 L) (fun k=>k.2.length) ([],L) ?_ ?_ ?_
 ·simp only [qS,Nat.reduceAdd,Nat.reduceMul,Nat.reduceEqDiff,Nat.reduceLeDiff,reduceIte,reduceCtorEq,Nat.reduceBEq,Nat.reduceLT,gLV.eq_2]<;>simp [hN]
 ·exact ⟨by simpa using hN,by simp⟩
 ·intro k hk
  obtain ⟨Pd,R⟩:=k
  simp only at hk
  obtain ⟨k1,k2⟩:=hk
  have hPR:(Pd++R).length=N:=by rw [xad];exact k1
  by_cases h20:20≤R.length
  ·have hge:(((Pd.length+20:Nat):Int)≤N)=True:=eq_true (by omega)
   have hl:(zz c (R.take 20)).length=20:=by rw [zu,xao];omega
   have qe:=aI qR (aI @qN (aI @hge (aI @hPR (aI @rtN @rtR))));repeat' first|refine gC ?_ ?_<;>intro hc<;>try contradiction|refine zf [] (zkD hf (D':=(Pd++zz c (R.take 20))++R.drop 20) Pd (R.take 20) (R.drop 20) hPR (by rw [xap]) (by rw [xaj]) (Pd.length:Nat) (Pd.length+20:Nat) rfl (by rw [xao];omega) hn) ?_|refine gG ?_|show AK _;intro J Z|refine gJ ?_|omega|exact aT
   refine ⟨(Pd++zz c (R.take 20),R.drop 20),⟨?_,?_⟩,?_,?_⟩
   ·simp only [xad,hl,xau];omega
   ·simp only;rw [←k2,zdQ (by decide) h20,xaj]
   ·simp only [xau];omega
   ·refine ⟨⟨?_,?_⟩,rfl,?_⟩
    ·simp only [LV.p.injEq,PV.i.injEq,true_and,xad,hl]
    ·simp only [LV.p.injEq,PV.i.injEq,true_and,xad,hl];omega
    ·simp only [xad,hl,xau];omega
  ·have hge:(((Pd.length+20:Nat):Int)≤N)=False:=eq_false (by omega)
   have hW:Wdo c 20 L=Pd++zz c R:=by rw [←k2,zbT (by omega)]
   have qe:=aI qR (aI @qN (aI @hge (aI @hPR (aI @rtN @rtR))));repeat' first|refine gC ?_ ?_<;>intro hc<;>try contradiction|refine zf [] (zkD hf (D':=Wdo c 20 L) Pd R [] hPR (by simp) (by rw [hW];simp) (Pd.length:Nat) (N:Nat) rfl (by omega) hn) ?_|refine gG ?_|show AK _;intro J Z|refine gJ ?_|omega|exact aT
   refine zh (κ:=Nat) (fun w=>⟨[(0,.row 900 N),(1,.p (.i .i64 N)),(2,.p (.fn (.func f) [] cs)),(6,.p (.i .i64 w)),(1000900,.row 900 N)],[(900,.row 152 2 ((Wdo c w L).map OptN.pv) false)],[],false⟩) (fun w=>20≤w∧w≤2000000) (fun w=>N - w) 20 ?_ ?_ ?_
   ·refine gJ ?_;simp [zfk,hN]
   ·omega
   ·intro w hw
    have hWl:=zfk (c:=c) (w:=w) (by omega) L
    rw [hN] at hWl
    by_cases hwn:w < N
    ·have hwn':((w:Int) < N)=True:=eq_true (by omega)
     have qe:=aI qR (aI @hwn' (aI @hWl (aI @rtN @rtR)));repeat' first|refine gC ?_ ?_<;>intro hc<;>try contradiction|refine gG ?_|show AK _;intro J Z|refine gJ ?_|omega|exact aT
     refine zh (κ:=List OptN × List OptN) (fun k=>⟨[(0,.row 900 N),(1,.p (.i .i64 N)),(2,.p (.fn (.func f) [] cs)),(6,.p (.i .i64 w)),(7,.p (.i .i64 (k.1.length:Nat))),(8,.p (.i .i64 (k.1.length+2*w:Nat))),(1000900,.row 900 N)],[(900,.row 152 2 ((k.1++Wdo c w k.2).map OptN.pv) false)],[],false⟩)
      (fun k=>k.1.length+k.2.length=N∧k.1++Wdo c (2*w) k.2=Wdo c (2*w) L) (fun k=>k.2.length) ([],L) ?_ ?_ ?_
     ·refine gJ ?_;simp [hWl]
     ·exact ⟨by simpa using hN,by simp⟩
     ·intro k hk
      obtain ⟨Pd,R⟩:=k
      simp only at hk
      obtain ⟨k1,k2⟩:=hk
      have hRl:=zfk (c:=c) (w:=w) (by omega) R
      have hPR:(Pd++Wdo c w R).length=N:=by rw [xad,hRl];exact k1
      by_cases h2:2*w≤R.length
      ·have hge:(((Pd.length+2*w:Nat):Int)≤N)=True:=eq_true (by omega)
       have l1:(zz c (R.take w)).length=w:=by rw [zu,xao];omega
       have l2:(zz c ((R.drop w).take w)).length=w:=by rw [zu,xao,xau];omega
       have l3:(zz c (R.take (2*w))).length=2*w:=by rw [zu,xao];omega
       have e1:Wdo c w R=zz c (R.take w)++(zz c ((R.drop w).take w)++Wdo c w (R.drop (2*w))):=by
        rw [zdQ (by omega) (by omega),zdQ (R:=R.drop w) (by omega) (by rw [xau];omega),xbM,show w+w=2*w by omega]
       have e2:mrg (zaJ c) (zz c (R.take w)) (zz c ((R.drop w).take w))=zz c (R.take (2*w)):=by
        have:=zjy hs (R.take (2*w)) w
        rw [List.take_take,xb9 (by omega),List.drop_take,show 2*w - w=w by omega] at this
        exact this
       have qe:=aI qR (aI @qN (aI @hge (aI @hPR (aI @rtN @rtR))));repeat' first|refine gC ?_ ?_<;>intro hc<;>try contradiction|refine zf [] (znw hf hs (w+w) (D':=(Pd++zz c (R.take (2*w)))++Wdo c w (R.drop (2*w))) Pd (zz c (R.take w)) (zz c ((R.drop w).take w)) (Wdo c w (R.drop (2*w))) hPR (by rw [e1]) (by rw [e2,xaj]) (by rw [zaO hs];exact zaU hs _) (by rw [zaO hs];exact zaU hs _) (by omega) (by omega) (by omega) (Pd.length:Nat) (Pd.length+w) (Pd.length+2*w:Nat) rfl (by rw [l1];omega) (by rw [l1,l2];omega) hn) ?_|refine gG ?_|show AK _;intro J Z|refine gJ ?_|omega|exact aT
       refine ⟨(Pd++zz c (R.take (2*w)),R.drop (2*w)),⟨?_,?_⟩,?_,?_⟩
       ·simp only [xad,l3,xau];omega
       ·simp only;rw [←k2,zdQ (by omega) h2,xaj]
       ·simp only [xau];omega
       ·refine ⟨⟨?_,?_⟩,rfl,?_⟩
        ·simp only [LV.p.injEq,PV.i.injEq,true_and,xad,l3]
        ·simp only [LV.p.injEq,PV.i.injEq,true_and,xad,l3];omega
        ·simp only [xad,l3];rw [zfk (by omega),xau];omega
      ·have hge:(((Pd.length+2*w:Nat):Int)≤N)=False:=eq_false (by omega)
       have hW2:Wdo c (2*w) L=Pd++zz c R:=by rw [←k2,zbT (by omega)]
       by_cases h3:w < R.length
       ·have hlt:(((Pd.length:Nat):Int)+(w:Nat) < N)=True:=eq_true (by omega)
        have l1:(zz c (R.take w)).length=w:=by rw [zu,xao];omega
        have l2:(zz c (R.drop w)).length=R.length - w:=by rw [zu,xau]
        have e1:Wdo c w R=zz c (R.take w)++zz c (R.drop w):=by
         rw [zdQ (by omega) (by omega),zbT (R:=R.drop w) (by rw [xau];omega)]
        have qe:=aI qR (aI @qN (aI @hge (aI @hlt (aI @hPR (aI @rtN @rtR)))));repeat' first|refine gC ?_ ?_<;>intro hc<;>try contradiction|refine zf [] (znw hf hs (w+(R.length - w)) (D':=Wdo c (2*w) L) Pd (zz c (R.take w)) (zz c (R.drop w)) [] hPR (by rw [e1];simp) (by rw [hW2,zjy hs];simp) (by rw [zaO hs];exact zaU hs _) (by rw [zaO hs];exact zaU hs _) (by omega) (by omega) (by omega) (Pd.length:Nat) (Pd.length+w) (N:Nat) rfl (by rw [l1];omega) (by rw [l1,l2];omega) hn) ?_|refine gG ?_|show AK _;intro J Z|refine gJ ?_|omega|exact aT
        exact ⟨2*w,by omega,by omega,by simp only [LV.p.injEq,PV.i.injEq,true_and];omega,rfl,by rw [zfk (by omega)];omega⟩
       ·have hlt:(((Pd.length:Nat):Int)+(w:Nat) < N)=False:=eq_false (by omega)
        have e1:Pd++Wdo c w R=Wdo c (2*w) L:=by rw [hW2,zbT (by omega)]
        rw [e1]
        have qe:=aI qR (aI @qN (aI @hge (aI @hlt (aI @hPR (aI @rtN @rtR)))));repeat' first|refine gC ?_ ?_<;>intro hc<;>try contradiction|refine gG ?_|show AK _;intro J Z|refine gJ ?_|omega|exact aT
        exact ⟨2*w,by omega,by omega,by simp only [LV.p.injEq,PV.i.injEq,true_and];omega,rfl,by rw [zfk (by omega)];omega⟩
    ·have hwn':((w:Int) < N)=False:=eq_false (by omega)
     have e:Wdo c w L=zz c L:=zbT (by omega)
     have qe:=aI qR (aI @hwn' (aI @hWl (aI @rtN @rtR)));repeat' first|refine gC ?_ ?_<;>intro hc<;>try contradiction|refine gG ?_|show AK _;intro J Z|refine gJ ?_|omega|exact aT
     rw [e]
     exact .inl (.mk0 (h2:=by simp only [qS,Nat.reduceAdd,Nat.reduceMul,Nat.reduceEqDiff,Nat.reduceLeDiff,reduceIte,reduceCtorEq,Nat.reduceBEq,Nat.reduceLT,keepG.eq_1,keepG.eq_2,gLV.eq_2]<;>simp [hN]))
def zsl (hf:∀ a b:OptN,Pure prog f ([]++[a.pv,b.pv]++cs) (.i .i64 (c a b))) (hs:SW (zaJ c)) (L:List OptN) (hn:L.length<=1000000):zbk prog 167 [.row 900 L.length,.p (.fn (.func f) [] cs)] [(900,.row 152 2 (L.map OptN.pv) false)] (.p (.tup [])) [(900,.row 152 2 ((zz c L).map OptN.pv) false)]:=by
 have hsl:=zu c L;refine zD (cF func167 f167.eq_1) (by simp) (by simp [scPs,scP,zm]) (by simp [scObj]) ⟨rfl,trivial⟩ (by simp [scObj]) (by simp [zcQ,zm,zu]) λX hX=>?_
 unfold zx ghO;have qe:=aI qR (aI @qN (aI @gLV.eq_2 (aI @rtN @rtR)));repeat' first|refine gC ?_ ?_<;>intro hc<;>try contradiction|refine zf [] (zsk hf hs L hn) ?_|refine gG ?_|show AK _;intro J Z|refine gJ ?_|omega|exact aT
 exact .inl (.mk0 (h2:=by simp only [qS,seval,keepG.eq_1,keepG.eq_2,gLV.eq_2]<;>simp))
end
theorem zm3 {α β:Type} {l1:α->α->Bool} {l2:β->β->Bool} {f:α->β} (h:∀ x y,l2 (f x) (f y)=l1 x y) (x:α):∀ out:List α,(insL l1 x out).map f=insL l2 (f x) (out.map f)
 | []=>rfl
 | y::r=>by
  simp only [insL,xak,h]
  split
  ·rfl
  ·rw [xak,zm3 h x r]
def zq3 {α β:Type} {l1:α->α->Bool} {l2:β->β->Bool} {f:α->β} (h:∀ x y,l2 (f x) (f y)=l1 x y) (L:List α):(zcl l1 L).map f=zcl l2 (L.map f):=by
 have:∀ (I:List α) (out:List α),(I.foldl (λout x=>insL l1 x out) out).map f=(I.map f).foldl (λout x=>insL l2 x out) (out.map f):=by
  intro I
  induction I with
  | nil=>intro out;rfl
  | cons x I ih=>intro out;rw [xbm,xak,xbm,ih,zm3 h]
 exact this L []
def znJ {α β:Type} {c:β->β->Int} (hs:SW (zaJ c)) (f:α->β) (L:List α):(zz (λx y=>c (f x) (f y)) L).map f=zz c (L.map f):=by
 have hs1:SW (zaJ λx y=>c (f x) (f y)):=⟨λx y h=>hs.asym _ _ h,λx y z h k=>hs.nt _ _ _ h k⟩
 rw [zz,zz,zd8 hs,zd8 hs1];exact zq3 (l1:=zaJ λx y=>c (f x) (f y)) (l2:=zaJ c) (f:=f) (λ_ _=>rfl) L
def tn1:0+Int.toNat 1*1=1:=rfl
def tn2:0+((1:Int) - 1).toNat*1=0:=rfl
def tn3:0+((1:Int) - 0).toNat*1=1:=rfl
def tn4:0+Int.toNat 0*1=0:=rfl
abbrev OptN.o (x:OptN):Opt:=((x.a.val:Int),(x.b.val:Int))
def zfW (x:OptN):(0<=x.o.1/\x.o.1<=1439)/\(0<=x.o.2/\x.o.2<=1439):=by
 have h1:=x.a.isLt;have h2:=x.b.isLt;show (0<=(x.a.val:Int)/\(x.a.val:Int)<=1439)/\(0<=(x.b.val:Int)/\(x.b.val:Int)<=1439)
 omega
theorem zqA:∀ L:List Opt,(∀ o ∈ L,(0<=o.1/\o.1<=1439)/\(0<=o.2/\o.2<=1439))->∃ P:List OptN,P.map OptN.o=L
 | [],_=>⟨[],rfl⟩
 | o::r,h=>by
  obtain ⟨P,hP⟩:=zqA r λx hx=>h x (by simp [hx])
  obtain ⟨h1,h2⟩:=h o (by simp)
  refine ⟨⟨⟨o.1.toNat,by omega⟩,⟨o.2.toNat,by omega⟩⟩::P,?_⟩
  rw [xak,hP]
  congr 1
  show (((o.1.toNat:Nat):Int),((o.2.toNat:Nat):Int))=o;rw [xbl h1.1,xbl h2.1]
def zdM {w:Wis} (h:zo3 w=0) {m:Int} (hm:m ∈ zac w):0<=m/\m<=1439:=by
 obtain ⟨z1,z2,z3,z4,z5,z6,z7⟩:=zjq h;have:m ∈ zkM w.req.minute w.ear w.lat w.step:=by
  unfold zac zz at hm;have:=(zbG (zaJ (cmpC w.req.minute)) (zkM w.req.minute w.ear w.lat w.step) []).mem_iff.1 hm;simpa using this
 exact zr0 z6 z4 z5 z2 z3 this
def zqu {a b:Wis} {o:Opt} (h:o ∈ zdS a b):o.1 ∈ zac a/\o.2 ∈ zac b/\ze8 a b o.1 o.2=true:=by
 obtain ⟨x,hx,h⟩:=xaz.1 h;obtain ⟨y,hy,h⟩:=xaz.1 h
 split at h
 ·rw [xaW] at h;subst h;exact ⟨hx,hy,by assumption⟩
 ·cases h
def zd5 (a b:Wis) (k:Nat):List Opt:=((zac a).take k).flatMap λx=>(zac b).flatMap λy=>if ze8 a b x y then [(x,y)] else []
def zey (a b:Wis) (x:Int) (e:Nat):List Opt:=((zac b).take e).flatMap λy=>if ze8 a b x y then [(x,y)] else []
def zjQ (a b:Wis) (x:Int) (e:Nat):(zey a b x e).length<=e:=by
 have:∀ I:List Int,(I.flatMap λy=>if ze8 a b x y then [(x,y)] else []).length<=I.length:=by
  intro I
  induction I with
  | nil=>simp
  | cons y I ih=>
   rw [xas,xad,xaw]
   split<;>simp only [xaw,xbD]<;>omega
 have h:=this ((zac b).take e);rw [xao] at h;unfold zey;omega
def zgv (a b:Wis) (k:Nat):(zd5 a b k).length<=k*(zac b).length:=by
 have:∀ I:List Int,(I.flatMap λx=>(zac b).flatMap λy=>if ze8 a b x y then [(x,y)] else []).length<=I.length*(zac b).length:=by
  intro I
  induction I with
  | nil=>simp
  | cons x I ih=>
   rw [xas,xad,xaw,xbW];have:=zjQ a b x (zac b).length;unfold zey at this;rw [xai] at this
   omega
 have h:=this ((zac a).take k);have h2:((zac a).take k).length<=k:=by rw [xao];omega
 have h3:((zac a).take k).length*(zac b).length<=k*(zac b).length:=xbg _ h2;unfold zd5;omega
def zoa {a b:Wis} {k:Nat} {x:Int} (h:(zac a)[k]?=some x):zd5 a b (k+1)=zd5 a b k++zey a b x (zac b).length:=by
 unfold zd5 zey;rw [zE h,xbc,xai];simp
def zob {a b:Wis} {e:Nat} {x y:Int} (h:(zac b)[e]?=some y):zey a b x (e+1)=zey a b x e++if ze8 a b x y then [(x,y)] else []:=by
 unfold zey;rw [zE h,xbc];simp
def zmz {L:List Wis} {i k:Nat} {a b:Wis} (ha:L[i]?=some a) (hb:L[k]?=some b) (o:Opt) (h1:0<=o.1/\o.1<=1439) (h2:0<=o.2/\o.2<=1439) (ma:0<=a.req.minute/\a.req.minute<=1439) (mb:0<=b.req.minute/\b.req.minute<=1439) :
  Pure prog 164 ([]++[unP o]++[.ip (.sl 18 (L.map Wis.pv)) 0,.ip (unP ((i:Int),(k:Int))) 0]) (.i .i64 (farO a b o)):=by
 have hil:i < L.length:=(xaa.1 ha).1;have hkl:k < L.length:=(xaa.1 hb).1;have q1:zdV (o.1 - a.req.minute)<=1439/\0<=zdV (o.1 - a.req.minute):=by unfold zdV;omega
 have q2:zdV (o.2 - b.req.minute)<=1439/\0<=zdV (o.2 - b.req.minute):=by unfold zdV;omega
 refine pz func164 f164.eq_1 λhw X hX=>?_
 have qe:=aI qR (aI @tn1 (aI @ha @hb));repeat' first|refine gC ?_ ?_<;>intro hc<;>try contradiction|refine za (zfO (o.1 - a.req.minute) (by omega) (by omega)) ?_|refine za (zfO (o.2 - b.req.minute) (by omega) (by omega)) ?_|refine gG ?_|show AK _;intro J Z|refine gJ ?_|omega|exact aT
 all_goals exact .refl _
def zt3 {f:Nat} {caps:List PV} {x y:PV} {p q:Int} (hx:Pure prog f ([]++[x]++caps) (.i .i64 p)) (hy:Pure prog f ([]++[y]++caps) (.i .i64 q)) {x1 x2 y1 y2:Int} (ex:x=.agg [.i .i64 x1,.i .i64 x2]) (ey:y=.agg [.i .i64 y1,.i .i64 y2]) :
  Pure prog 168 ([]++[x,y]++[.ip (.fn (.func f) [] caps) 0]) (.i .i64 (zi9 p q)):=by
 subst ex ey;refine pz func168 f168.eq_1 λhw X hX=>?_
 have qe:=@qR;have jA:=hx;have jB:=hy;have jC:=λu1 u2=>zlh u1 u2;exact gD4
def zmy {L:List Wis} {i k:Nat} {a b:Wis} (ha:L[i]?=some a) (hb:L[k]?=some b) (o:Opt) (h1:0<=o.1/\o.1<=1439) (h2:0<=o.2/\o.2<=1439) :
  Pure prog 166 [unP ((i:Int),(k:Int)),.sl 18 (L.map Wis.pv),unP o] (.b (ze8 a b o.1 o.2)):=by
 have hil:i < L.length:=(xaa.1 ha).1;have hkl:k < L.length:=(xaa.1 hb).1;have hk0:=eq_false (show ¬(k:Int) < 0 by omega)
 refine pz func166 f166.eq_1 λhw X hX=>?_
 unfold ze8
 by_cases hD:a.req.kind=sD
 ·rw [if_pos hD];have hD':=eq_true hD
  by_cases hg:b.least<=o.1 - o.2
  ·have hg':=eq_true hg;have qe:=aI qR (aI @tn1 (aI @tn2 (aI @tn3 (aI @tn4 (aI @ha (aI @hb (aI @hD' (aI @hg' @hk0))))))));repeat' first|refine gC ?_ ?_<;>intro hc<;>try contradiction|refine gG ?_|show AK _;intro J Z|refine gJ ?_|omega|exact aT
   all_goals exact zhe (by simp [hg])
  ·have hg':=eq_false hg;have qe:=aI qR (aI @tn1 (aI @tn2 (aI @tn3 (aI @tn4 (aI @ha (aI @hb (aI @hD' (aI @hg' @hk0))))))));repeat' first|refine gC ?_ ?_<;>intro hc<;>try contradiction|refine gG ?_|show AK _;intro J Z|refine gJ ?_|omega|exact aT
   all_goals exact zhe (by simp [hg])
 ·rw [if_neg hD];have hD':=eq_false hD
  by_cases hg:a.least<=o.2 - o.1
  ·have hg':=eq_true hg;have qe:=aI qR (aI @tn1 (aI @tn2 (aI @tn3 (aI @tn4 (aI @ha (aI @hb (aI @hD' (aI @hg' @hk0))))))));repeat' first|refine gC ?_ ?_<;>intro hc<;>try contradiction|refine gG ?_|show AK _;intro J Z|refine gJ ?_|omega|exact aT
   all_goals exact zhe (by simp [hg])
  ·have hg':=eq_false hg;have qe:=aI qR (aI @tn1 (aI @tn2 (aI @tn3 (aI @tn4 (aI @ha (aI @hb (aI @hD' (aI @hg' @hk0))))))));repeat' first|refine gC ?_ ?_<;>intro hc<;>try contradiction|refine gG ?_|show AK _;intro J Z|refine gJ ?_|omega|exact aT
   all_goals exact zhe (by simp [hg])
def zt4 (m:Int):Pure prog 163 [.i .i64 m] (unP (m,-1)):=by
 refine pz func163 f163.eq_1 λhw X hX=>?_
 have qe:=@qR;exact gD0
def zt5 {f:Nat} {caps:List PV} {L:List Int} {g:Int->Opt} (hf:∀ m,Pure prog f ([]++[.i .i64 m]++caps) (unP (g m))) (hn:L.length<=1000000):Pure prog 162 [.sl 1 (L.map (.i .i64)),.fn (.func f) [] caps] (.sl 2 ((L.map g).map unP)):=by
 refine pz func162 f162.eq_1 λhw X hX=>?_
 repeat' first|refine gC ?_ ?_<;>intro hc<;>try contradiction|refine gG ?_|show AK _;intro J Z|refine gJ ?_|omega|exact aT
 refine run_ownL 400 152 2 (κ:=Nat) (λk=>⟨[(1,.p (.fn (.func f) [] caps)),(5,.row 400 k),(8,.p (.sl 1 (L.map (.i .i64)))),(9,.p (.i .i64 L.length)),(10,.p (.i .i64 k))],[(400,.row 152 2 (((L.take k).map g).map unP) false)],[],false⟩) (λk=>k<=L.length) (λk=>L.length - k) 0 ?_ ?_ ?_
 ·refine ⟨gO ?_,gO ?_⟩<;>simp
 ·simp
 ·intro k hk;have hkl:(((L.take k).map g).map unP).length=k:=by simp;omega
  have hkl2:((L.take k).map g).length=k:=by simp;omega
  have hkl3:(L.take k).length=k:=by simp;omega
  repeat first|refine gG ?_|show AK _;intro J Z|refine gJ ?_|omega|exact aT
  (refine gC ?_ ?_<;>intro hc<;>try contradiction)
  ·obtain ⟨x,hx⟩:=zj (i:=k) (l:=L) (by omega)
   have qe:=aI qR (aI @hx (aI @hkl (aI @hkl2 @hkl3)));repeat' first|refine gC ?_ ?_<;>intro hc<;>try contradiction|refine zl (hf x) ?_|refine gG ?_|show AK _;intro J Z|refine gJ ?_|omega|exact aT
   exact ⟨k+1,by omega,by omega,by simp,by simp [zE hx]<;>omega⟩
  ·obtain rfl:k=L.length:=by omega
   have qe:=aI qR (aI @qN (aI @hkl (aI @hkl2 (aI @hkl3 (aI @List.take_length.{0} (aI @rtN @rtR))))));exact gD0
def zqo {L:List Wis} {i:Nat} {a:Wis} (ha:L[i]?=some a) (hA:zfI a=0) (h12:zg2 a.req.minute a.ear a.lat a.step<=12) {x:Int} (hx:x < 0):Pure prog 85 [unP ((i:Int),x),.sl 18 (L.map Wis.pv)] (.sl 2 (((zac a).map λm=>((m,-1):Opt)).map unP)):=by
 have hil:i < L.length:=(xaa.1 ha).1;have hcl:(zac a).length=zg2 a.req.minute a.ear a.lat a.step:=by unfold zac;rw [zu];unfold zkM;rw [xaf,xaS]
 have h62:=zt5 (f:=163) (caps:=[]) (L:=zac a) (g:=λm=>((m,-1):Opt)) (λm=>zt4 m) (by omega)
 have hx':=eq_true hx;refine pz func85 f85.eq_1 λhw X hX=>?_
 have qe:=aI qR (aI @tn1 (aI @ha (aI @hx' @hil)));have jA:=zcW a hA h12;have jB:=h62;exact gD2
def zud {L:List Wis} {i k:Nat} {a b:Wis} (ha:L[i]?=some a) (hb:L[k]?=some b) (hA:zfI a=0) (hB:zfI b=0) (h12:zg2 a.req.minute a.ear a.lat a.step<=12) (h12b:zg2 b.req.minute b.ear b.lat b.step<=12):Pure prog 85 [unP ((i:Int),(k:Int)),.sl 18 (L.map Wis.pv)] (.sl 2 ((zz (zpd a b) (zdS a b)).map unP)):=by
 have hil:i < L.length:=(xaa.1 ha).1;have hkl:k < L.length:=(xaa.1 hb).1;have hcl:(zac a).length=zg2 a.req.minute a.ear a.lat a.step:=by unfold zac;rw [zu];unfold zkM;rw [xaf,xaS]
 have hclb:(zac b).length=zg2 b.req.minute b.ear b.lat b.step:=by unfold zac;rw [zu];unfold zkM;rw [xaf,xaS]
 have hmA:=zdv (zcC hA).1;have hmB:=zdv (zcC hB).1;have hra:∀ m ∈ zac a,0<=m/\m<=1439:=λm hm=>zdM (zcC hA).1 hm
 have hrb:∀ m ∈ zac b,0<=m/\m<=1439:=λm hm=>zdM (zcC hB).1 hm
 have hk0:=eq_false (show ¬(k:Int) < 0 by omega)
 have h22a:=zcW a hA h12;have h22b:=zcW b hB h12b;obtain ⟨P,hP⟩:=zqA (zdS a b) λo ho=>by
  obtain ⟨m1,m2,_⟩:=zqu ho;exact ⟨hra _ m1,hrb _ m2⟩
 have hPp:(zdS a b).map unP=P.map OptN.pv:=by rw [<-hP,List.map_map];rfl
 have hPl:(zdS a b).length=P.length:=by rw [<-hP,xaf]
 have hpk:(zdS a b).length<=200:=by
  have h:=zgv a b (zac a).length;have e:zd5 a b (zac a).length=zdS a b:=by unfold zd5;rw [xai];rfl
  rw [e] at h;have:(zac a).length*(zac b).length<=12*12:=Nat.mul_le_mul (by omega) (by omega)
  omega
 have h67:=zsl (f:=168) (cs:=[.ip (.fn (.func 164) [] [.ip (.sl 18 (L.map Wis.pv)) 0,.ip (unP ((i:Int),(k:Int))) 0]) 0]) (c:=λx y:OptN=>zpd a b x.o y.o)
  (λx y=>zt3 (zmz ha hb x.o (zfW x).1 (zfW x).2 hmA hmB) (zmz ha hb y.o (zfW y).1 (zfW y).2 hmA hmB) rfl rfl)
  ⟨λx y h=>(zl1 a b).asym _ _ h,λx y z h k=>(zl1 a b).nt _ _ _ h k⟩ P (by omega)
 have hso:(zz (λx y:OptN=>zpd a b x.o y.o) P).map OptN.pv=(zz (zpd a b) (zdS a b)).map unP:=by
  rw [<-hP,<-znJ (zl1 a b) OptN.o P,List.map_map];rfl
 have hsl:(zz (zpd a b) (zdS a b)).length=P.length:=by rw [zu,hPl]
 rw [hso,<-hPp] at h67;refine pz func85 f85.eq_1 λhw X hX=>?_
 have qe:=aI qR (aI @tn1 @hk0);repeat first|refine gG ?_|show AK _;intro J Z|refine gJ ?_|omega|exact aT
 have qe:=aI qR (aI @tn1 @hk0);(refine gC ?_ ?_<;>intro hc<;>try contradiction)
 refine zen ?_;refine (show Run _ (.seq (.ops false _) _) _ _ from zbC (zar (zbP 1 ?_)))
 simp only [xa2,xbi,xbB,xbH];have qe:=@qR;repeat' first|refine gC ?_ ?_<;>intro hc<;>try contradiction|refine gG ?_|show AK _;intro J Z|refine gJ ?_|omega|exact aT
 refine zag (zaz 22 (.fn (.func 164) [] [.ip (.sl 18 (L.map Wis.pv)) 0,.ip (unP ((i:Int),(k:Int))) 0]) (sR) (by first|trivial|simp) (.refl _)) ?_
 rintro _ rfl;refine zw ?_;have qe:=aI qR (aI @tn1 (aI @ha (aI @hb @hk0)));repeat' first|refine gC ?_ ?_<;>intro hc<;>try contradiction|refine za (h22a) ?_|refine gG ?_|show AK _;intro J Z|refine gJ ?_|omega|exact aT
 refine run_ownL 400 152 2 (κ:=Nat) (λc=>⟨[(2,.lp 2 0),(3,.lp 3 0),(5,.lp 5 0),(6,.row 400 (zd5 a b c).length),(28,.p (.sl 1 ((zac a).map (.i .i64)))),(29,.p (.i .i64 (zac a).length)),(30,.p (.i .i64 c))],[(2,.box [.p (.i .i64 i),.p (.i .i64 k)] true),(3,.box [.p (.sl 18 (L.map Wis.pv))] true),(5,.box [.p (.fn (.func 164) [] [.ip (.sl 18 (L.map Wis.pv)) 0,.ip (unP ((i:Int),(k:Int))) 0])] false),(400,.row 152 2 ((zd5 a b c).map unP) false)],[],false⟩) (λc=>c<=(zac a).length) (λc=>(zac a).length - c) 0 ?_ ?_ ?_
 ·refine ⟨gO ?_,gO ?_⟩<;>simp [zd5]
 ·simp
 ·intro c hc0;have hpl:=zgv a b c;have hpl2:c*(zac b).length<=12*12:=Nat.mul_le_mul (by omega) (by omega)
  repeat first|refine gG ?_|show AK _;intro J Z|refine gJ ?_|omega|exact aT
  (refine gC ?_ ?_<;>intro hc<;>try contradiction)
  ·obtain ⟨x,hx⟩:=zj (i:=c) (l:=zac a) (by omega)
   have hnx:=zoa (b:=b) hx;have hxr:=hra x (xae hx);generalize hPK:zd5 a b c=PK at *;have qe:=aI qR (aI @tn1 (aI @ha (aI @hb (aI @hkl @hx))));repeat' first|refine gC ?_ ?_<;>intro hc<;>try contradiction|refine za (h22b) ?_|refine gG ?_|show AK _;intro J Z|refine gJ ?_|omega|exact aT
   refine zh (κ:=Nat) (λe=>⟨[(2,.lp 2 0),(3,.lp 3 0),(5,.lp 5 0),(6,.row 400 (PK++zey a b x e).length),(8,.p (.i .i64 x)),(28,.p (.sl 1 ((zac a).map (.i .i64)))),(29,.p (.i .i64 (zac a).length)),(30,.p (.i .i64 c)),(39,.p (.sl 1 ((zac b).map (.i .i64)))),(40,.p (.i .i64 (zac b).length)),(41,.p (.i .i64 e))],[(2,.box [.p (.i .i64 i),.p (.i .i64 k)] true),(3,.box [.p (.sl 18 (L.map Wis.pv))] true),(5,.box [.p (.fn (.func 164) [] [.ip (.sl 18 (L.map Wis.pv)) 0,.ip (unP ((i:Int),(k:Int))) 0])] false),(400,.row 152 2 ((PK++zey a b x e).map unP) false)],[],false⟩) (λe=>e<=(zac b).length) (λe=>(zac b).length - e) 0 ?_ ?_ ?_
   ·refine gJ ?_;simp [zey]
   ·simp
   ·intro e he;have hel:=zjQ a b x e;have hal:(PK++zey a b x e).length<=1000:=by rw [xad];omega
    repeat first|refine gG ?_|show AK _;intro J Z|refine gJ ?_|omega|exact aT
    (refine gC ?_ ?_<;>intro hc<;>try contradiction)
    ·obtain ⟨y,hy⟩:=zj (i:=e) (l:=zac b) (by omega)
     have hyr:=hrb y (xae hy);have hnxe:=zob (a:=a) (b:=b) (x:=x) hy;have h66:=zmy ha hb (x,y) hxr hyr
     by_cases hp:ze8 a b x y=true
     ·rw [if_pos hp] at hnxe;have hll:(PK++zey a b x (e+1)).length=(PK++zey a b x e).length+1:=by rw [hnxe];simp;omega
      have qe:=aI qR (aI @hy @hp);repeat' first|refine gC ?_ ?_<;>intro hc<;>try contradiction|refine za (h66) ?_|refine gG ?_|show AK _;intro J Z|refine gJ ?_|omega|exact aT
      exact ⟨e+1,by omega,by omega,by simp [hnxe]<;>omega,by simp [hnxe]⟩
     ·rw [if_neg hp,xat] at hnxe;rw [xbp] at hp;have qe:=aI qR (aI @hy @hp);repeat' first|refine gC ?_ ?_<;>intro hc<;>try contradiction|refine za (h66) ?_|refine gG ?_|show AK _;intro J Z|refine gJ ?_|omega|exact aT
      exact ⟨e+1,by omega,by omega,by simp [hnxe]<;>omega,by simp [hnxe]⟩
    ·repeat' first|refine gC ?_ ?_<;>intro hc<;>try contradiction|refine gG ?_|show AK _;intro J Z|refine gJ ?_|omega|exact aT
     have ee:e=(zac b).length:=by omega
     subst ee;exact ⟨c+1,by omega,by omega,by simp [hnx],by simp [hnx]⟩
  ·obtain rfl:c=(zac a).length:=by omega
   have e:zd5 a b (zac a).length=zdS a b:=by unfold zd5;rw [xai];rfl
   rw [e];refine zcU ?_;refine (show Run _ (.seq _ _) _ _ from zbC ?_)
   refine (show Run _ (.ops false _) _ _ from zar (zbP 2 ?_))
   simp only [xa2,xbi,xbB,xbH];have qe:=@qR;repeat' first|refine gC ?_ ?_<;>intro hc<;>try contradiction|refine gG ?_|show AK _;intro J Z|refine gJ ?_|omega|exact aT
   refine zag (zaz 59 (.fn (.func 168) [] [.ip (.fn (.func 164) [] [.ip (.sl 18 (L.map Wis.pv)) 0,.ip (unP ((i:Int),(k:Int))) 0]) 0]) (sR) (by first|trivial|simp) (.refl _)) ?_
   rintro _ rfl;refine zw ?_;have qe:=aI qR (aI @qN (aI @hPl (aI @hsl (aI @rtN @rtR))));repeat' first|refine gC ?_ ?_<;>intro hc<;>try contradiction|refine zf [(900,400)] (h67) ?_|refine gG ?_|show AK _;intro J Z|refine gJ ?_|omega|exact aT
   all_goals exact .refl _
def zBd (a b c d:Int):eqCells [PV.i .i64 a,.i .i64 b] [PV.i .i64 c,.i .i64 d]=decide ((c,d)=(a,b)):=by
 simp only [eqCells,eqPV,xbN,xcl];rw [xb2];simp only [xaB,decide_eq_true_eq]
 omega
def zb4 {L:List Wis} (h:zav L=0) {u:Unt} (hu:u ∈ zq L):∃ (i:Nat) (a:Wis),L[i]?=some a/\(u=((i:Int),-1)\/∃ (k:Nat) (b:Wis),LnkTo L i k a b/\i < k/\u=((i:Int),(k:Int))):=by
 obtain ⟨i,hi,rfl,hlk⟩:=zdd.1 hu;obtain ⟨a,ha⟩:=zj hi;refine ⟨i,a,ha,?_⟩
 rcases zcH h ha with hk|⟨k,b,hk⟩
 ·left;rw [hk]
 ·right
  have:=hk.lab;exact ⟨k,b,hk,by omega,by rw [this]⟩
def zW {R:List Res} {i:Nat} {r:Res} (h:R[i]?=some r):za5 R i=r:=by unfold za5;rw [h];rfl
def zsd (l:List Mov):l.all ((λx=>x.cells.all PV.one) ∘ Mov.pv)=true:=by rw [xaL];intro x _;rfl
def ztZ (O:List Opt) (o:Opt):Pure prog 180 [.sl 2 (O.map unP),unP o] (.i .i64 (zdG (λx=>decide (x=o)) O)):=by
 obtain ⟨o1,o2⟩:=o;refine pz func180 f180.eq_1 λhw X hX=>?_
 simp only [wfs,PV.wf,xaf,maxLen] at hw
 repeat' first|refine gC ?_ ?_<;>intro hc<;>try contradiction|refine gG ?_|show AK _;intro J Z|refine gJ ?_|omega|exact aT
 refine zh (κ:=Nat) (λi=>⟨[(0,.p (.sl 2 (O.map unP))),(3,.lp 3 0),(7,.p (.i .i64 O.length)),(8,.p (.i .i64 i))],[(3,.box [.p (.i .i64 o1),.p (.i .i64 o2)] false)],[],false⟩) (λi=>i<=O.length/\∀ y ∈ O.take i,(λx=>decide (x=(o1,o2))) y=false) (λi=>O.length - i) 0 ?_ ?_ ?_
 ·exact sS
 ·simp
 ·intro i hi
  repeat first|refine gG ?_|show AK _;intro J Z|refine gJ ?_|omega|exact aT
  (refine gC ?_ ?_<;>intro hc<;>try contradiction)
  ·obtain ⟨y,hy⟩:=zj (i:=i) (l:=O) (by omega)
   obtain ⟨y1,y2⟩:=y;have hq:=zBd o1 o2 y1 y2
   by_cases hh:((y1,y2):Opt)=(o1,o2)
   ·have hh':decide (((y1,y2):Opt)=(o1,o2))=true:=decide_eq_true hh;rw [hh'] at hq;have qe:=aI qR (aI @hy @hq);repeat' first|refine gC ?_ ?_<;>intro hc<;>try contradiction|refine gG ?_|show AK _;intro J Z|refine gJ ?_|omega|exact aT
    all_goals
     rw [zbe hi.2 hy hh'];exact .refl _
   ·have hh':decide (((y1,y2):Opt)=(o1,o2))=false:=decide_eq_false hh;rw [hh'] at hq;have qe:=aI qR (aI @hy @hq);repeat' first|refine gC ?_ ?_<;>intro hc<;>try contradiction|refine gG ?_|show AK _;intro J Z|refine gJ ?_|omega|exact aT
    exact ⟨i+1,⟨by omega,zd1 hi.2 hy hh'⟩,by omega,by simp⟩
  ·repeat' first|refine gC ?_ ?_<;>intro hc<;>try contradiction|refine gG ?_|show AK _;intro J Z|refine gJ ?_|omega|exact aT
   have e:i=O.length:=by omega
   subst e;rw [zct (λy hy=>hi.2 y (by rw [xaq (by simp)];exact hy))];exact .refl _
def zub {R:List Res} {u:Unt} {i:Nat} {r:Res} (hr:R[i]?=some r) (hu:u=((i:Int),-1)\/∃ (k:Nat) (q:Res),R[k]?=some q/\u=((i:Int),(k:Int))):Pure prog 125 [unP u,.sl 3 (R.map Res.pv)] (.tup [unP (grO R u),.b (grB R u)]):=by
 have hil:i < R.length:=(xaa.1 hr).1;have hra:=zW hr;refine pz func125 f125.eq_1 λhw X hX=>?_
 rcases hu with rfl|⟨k,q,hq,rfl⟩
 ·have hg:grO R ((i:Int),-1)=(r.minute,-1):=by unfold grO;rw [xar,hra];rfl
  have hg2:grB R ((i:Int),-1)=r.gr:=by unfold grB;rw [xar,hra]
  have qe:=aI qR (aI @tn1 (aI @tn4 @hr));repeat' first|refine gC ?_ ?_<;>intro hc<;>try contradiction|refine gG ?_|show AK _;intro J Z|refine gJ ?_|omega|exact aT
  all_goals rw [hg,hg2];exact .refl _
 ·have hkl:k < R.length:=(xaa.1 hq).1;have hrq:=zW hq;have hg:grO R ((i:Int),(k:Int))=(r.minute,q.minute):=by unfold grO;rw [xar,xar,hra,hrq,if_neg (by omega)]
  have hg2:grB R ((i:Int),(k:Int))=r.gr:=by unfold grB;rw [xar,hra]
  have hk0:=eq_true (show (0:Int)<=k by omega)
  have qe:=aI qR (aI @tn1 (aI @tn4 (aI @hr (aI @hq @hk0))));repeat' first|refine gC ?_ ?_<;>intro hc<;>try contradiction|refine gG ?_|show AK _;intro J Z|refine gJ ?_|omega|exact aT
  all_goals rw [hg,hg2];exact .refl _
theorem zpq {α:Type} {p:α->Bool}:∀ {l:List α},(∃ x ∈ l,p x=true)->l.take (zdG p l).toNat=l.takeWhile (λx=>!p x)
 | [],h=>by obtain ⟨x,hx,_⟩:=h;cases hx
 | y::r,h=>by
  have hs:=zeF (p:=p) (l:=y::r)
  rcases hs with ⟨_,hn⟩|⟨k,x,hk,hx,hp,hb⟩
  ·obtain ⟨x,hx,hp⟩:=h;rw [hn x hx] at hp;cases hp
  ·rw [hk,xar];have hlen:∀ (l:List α) (k:Nat) (x:α),l[k]?=some x->p x=true->(∀ y ∈ l.take k,p y=false)->l.take k=l.takeWhile (λx=>!p x):=by
    intro l
    induction l with
    | nil=>intro k x h;simp at h
    | cons z s ih=>
     intro k x hx hp hb;cases k with
     | zero=>
      simp at hx;subst hx;simp [hp]
     | succ k=>
      have hz:=hb z (by simp)
      rw [xa2,List.takeWhile_cons,hz];simp only [xaV,if_true];rw [ih k x (by simpa using hx) hp λy hy=>hb y (by simp [hy])]
   exact hlen _ k x hx hp hb
abbrev ShW (L:List Wis):Prop:=zav L=0->∀ w ∈ L,zg2 w.req.minute w.ear w.lat w.step<=12
def zfx {L:List Wis} (h:zav L=0) {i:Nat} {a:Wis} (ha:L[i]?=some a):zfI a=0:=by
 have:=((zR h).2 i a ha).1;unfold zcB at this;exact fE0 this _ (by simp)
def zjO {L:List Wis} (h:zav L=0) (h12:ShW L) {u:Unt} (hu:u ∈ zq L):Pure prog 85 [unP u,.sl 18 (L.map Wis.pv)] (.sl 2 ((zaS L u).map unP)):=by
 obtain ⟨i,a,ha,rfl|⟨k,b,hk,hik,rfl⟩⟩:=zb4 h hu
 ·have e:zaS L ((i:Int),-1)=(zac a).map λm=>((m,-1):Opt):=by unfold zaS;simp only [xar,ha];rfl
  rw [e];exact zqo ha (zfx h ha) (h12 h a (xae ha)) (by omega)
 ·have e:zaS L ((i:Int),(k:Int))=zz (zpd a b) (zdS a b):=by
   unfold zaS;simp only [xar,ha,hk.at_b,show ¬((k:Int) < 0) by omega,if_false]
  rw [e];exact zud ha hk.at_b (zfx h ha) (zfx h hk.at_b) (h12 h a (xae ha)) (h12 h b (xae hk.at_b))
def zh8 {L:List Wis} (h:zav L=0) {R:List Res} (hn:R.length=L.length) {u:Unt} (hu:u ∈ zq L):∃ (i:Nat) (r:Res),R[i]?=some r/\(u=((i:Int),-1)\/∃ (k:Nat) (q:Res),R[k]?=some q/\u=((i:Int),(k:Int))):=by
 obtain ⟨i,a,ha,hc⟩:=zb4 h hu;obtain ⟨r,hr⟩:=zj (i:=i) (l:=R) (by have:=(xaa.1 ha).1;omega)
 refine ⟨i,r,hr,?_⟩
 rcases hc with rfl|⟨k,b,hk,hik,rfl⟩
 ·exact .inl rfl
 ·obtain ⟨q,hq⟩:=zj (i:=k) (l:=R) (by have:=(xaa.1 hk.at_b).1;omega)
  exact .inr ⟨k,q,hq,rfl⟩
def zce {L:List Wis} (h:zav L=0) {R:List Res} (hn:R.length=L.length) {u:Unt} (hu:u ∈ zq L):Pure prog 125 [unP u,.sl 3 (R.map Res.pv)] (.tup [unP (grO R u),.b (grB R u)]):=by
 obtain ⟨i,r,hr,hc⟩:=zh8 h hn hu;exact zub hr hc
def zfQ {L:List Wis} (h:zav L=0) (h12:ShW L) {R:List Res} (hr:zc8 L R=0) {u:Unt} (hu:u ∈ zq L):Pure prog 107 [unP u,.sl 18 (L.map Wis.pv),.sl 3 (R.map Res.pv)] (.sl 2 ((zad L R u).map unP)):=by
 have h85:=zjO h h12 hu;have h25:=zce h (zbZ hr).1 hu;refine pz func107 f107.eq_1 λhw X hX=>?_
 by_cases hg:grB R u=true
 ·have hmem:=zBw h hr hu hg;have h80:=ztZ (zaS L u) (grO R u);have hp:zad L R u=(zaS L u).take (zdG (λx=>decide (x=grO R u)) (zaS L u)).toNat:=by
   unfold zad;rw [if_pos hg,zpq ⟨grO R u,hmem,by simp⟩]
   congr 1
   funext o
   simp
  have hge:0<=zdG (λx=>decide (x=grO R u)) (zaS L u):=by
   have:=zeG (λx=>decide (x=grO R u)) (zaS L u)
   rw [show (zaS L u).any (λx=>decide (x=grO R u))=true from xbj.2 ⟨_,hmem,by simp⟩] at this
   exact of_decide_eq_true this
  have hle:=zrb (λx=>decide (x=grO R u)) (zaS L u)
  rw [hp];generalize zdG (λx=>decide (x=grO R u)) (zaS L u)=n at *
  have hmx:max 0 n=n:=Int.max_eq_right hge;rw [hg] at h25;have qe:=aI qR @hmx;repeat' first|refine gC ?_ ?_<;>intro hc<;>try contradiction|refine za (h85) ?_|refine za (h25) ?_|refine za (h80) ?_|refine gG ?_|show AK _;intro J Z|refine gJ ?_|omega|exact aT
  all_goals (rw [xbF];exact .refl _)
 ·have hp:zad L R u=zaS L u:=by unfold zad;rw [if_neg hg]
  rw [hp];rw [xbp] at hg;rw [hg] at h25;have qe:=@qR;have jA:=h85;have jB:=h25;exact gD2
def zpa (L:List Wis) (u:Unt) (o:Opt) (k:Nat):List Mov:=((zeX u).take k).flatMap λx=>zfB L x.2.toNat (if x.1=0 then o.1 else o.2)
def zuB (L:List Wis) (u:Unt) (o:Opt):zpa L u o (zeX u).length=zan L u o:=by
 unfold zpa zan zeX;rw [xai]
 by_cases h:u.2 < 0<;>simp [h]
def zis (L:List Wis) (i:Nat) (m:Int):(zfB L i m).length<=401:=by
 unfold zfB;split
 ·exact zbd _
 ·simp
def zuc {L:List Wis} {u:Unt} {i:Nat} {a:Wis} (ha:L[i]?=some a) (hu:u=((i:Int),-1)\/∃ (k:Nat) (b:Wis),L[k]?=some b/\u=((i:Int),(k:Int))) (o:Opt):Pure prog 86 [unP u,.sl 18 (L.map Wis.pv),unP o] (.sl 7 ((zan L u o).map Mov.pv)):=by
 have hil:i < L.length:=(xaa.1 ha).1;have hu1:u.1=(i:Int):=by rcases hu with rfl|⟨k,b,hb,rfl⟩<;>rfl
 refine pz func86 f86.eq_1 λhw X hX=>?_
 repeat' first|refine gC ?_ ?_<;>intro hc<;>try contradiction|refine za (zmx u) ?_|refine gG ?_|show AK _;intro J Z|refine gJ ?_|omega|exact aT
 refine zaB 400 194 7 [(3,.lp 3 0),(4,.lp 4 0),(5,.lp 5 0),(7,.lp 7 0),(11,.p (.fn (.func 217) [] [.ip (unP u) 0]))] [(3,.box [.p (.i .i64 u.1),.p (.i .i64 u.2)] false),(4,.box [.p (.sl 18 (L.map Wis.pv))] false),(5,.box [.p (.i .i64 o.1),.p (.i .i64 o.2)] false),(7,.box [.row 400 0] false)] ?_ ?_
 ·simp only [Own,za9,za3,zcg,zaT,qS,seval]
 refine zcb rfl (zm1 u (by omega)) ?_ ?_ [(3,.lp 3 0),(4,.lp 4 0),(5,.lp 5 0),(7,.lp 7 0),(11,.p (.fn (.func 217) [] [.ip (unP u) 0]))] (λk=>[(3,.box [.p (.i .i64 u.1),.p (.i .i64 u.2)] false),(4,.box [.p (.sl 18 (L.map Wis.pv))] false),(5,.box [.p (.i .i64 o.1),.p (.i .i64 o.2)] false),(7,.box [.row 400 (zpa L u o k).length] false),(400,.row 194 7 ((zpa L u o k).map Mov.pv) false)]) (λ_=>[]) ?_ ?_ ?_
 ·intro t ht;obtain ⟨x,_,rfl⟩:=xaM.1 ht;rfl
 ·simp [hX]
 ·simp only [zpa,xbi,xb4,xbD,xaC,qS,seval]
 ·intro k t ht X' ro' hX';simp only [xal,xab] at ht;obtain ⟨x,hx,rfl⟩:=ht;have hnx:zpa L u o (k+1)=zpa L u o k++zfB L x.2.toNat (if x.1=0 then o.1 else o.2):=by
   unfold zpa;rw [zE hx,xbc];simp
  rcases (show k=0\/k=1 by
   have h1:=(xaa.1 hx).1;unfold zeX at h1;split at h1<;>simp at h1<;>omega) with rfl|rfl
  ·have ex:x=(0,(i:Int)):=by unfold zeX at hx;simp at hx;rw [<-hx,hu1]
   subst ex;have e2:zpa L u o 0=[]:=by unfold zpa;simp
   have e3:zfB L i o.1=zbF (a.req.at o.1):=by unfold zfB;rw [ha]
   rw [e2] at hnx ⊢;simp only [if_true,xar,xaG,e3] at hnx;have hml:=zbd (a.req.at o.1);simp only [qS,seval]
   repeat' first|refine gC ?_ ?_<;>intro hc<;>try contradiction|refine gG ?_|show AK _;intro J Z|refine gJ ?_|omega|exact aT
   intro X1 hX1;have qe:=aI qR (aI @zsd (aI @tn1 (aI @tn4 @ha)));repeat' first|refine gC ?_ ?_<;>intro hc<;>try contradiction|refine za (zco a o.1) ?_|refine gG ?_|show AK _;intro J Z|refine gJ ?_|omega|exact aT
   simp [hnx]
  ·rcases hu with rfl|⟨c,b,hb,rfl⟩
   ·unfold zeX at hx;simp at hx
   ·have hcl:c < L.length:=(xaa.1 hb).1;have ex:x=(1,(c:Int)):=by
     unfold zeX at hx;rw [if_neg (by omega)] at hx
     simp at hx;exact hx.symm
    subst ex;have e2:zpa L ((i:Int),(c:Int)) o 1=zbF (a.req.at o.1):=by unfold zpa zeX zfB;simp [ha]
    have e3:zfB L c o.2=zbF (b.req.at o.2):=by unfold zfB;rw [hb]
    rw [e2] at hnx ⊢;simp only [show ¬((1:Nat)=0) by omega,if_false,xar,e3] at hnx
    have hml:=zbd (a.req.at o.1);have hml2:=zbd (b.req.at o.2);simp only [qS,seval]
    repeat' first|refine gC ?_ ?_<;>intro hc<;>try contradiction|refine gG ?_|show AK _;intro J Z|refine gJ ?_|omega|exact aT
    intro X1 hX1;have qe:=aI qR (aI @zsd (aI @tn1 (aI @tn4 @hb)));repeat' first|refine gC ?_ ?_<;>intro hc<;>try contradiction|refine za (zco b o.2) ?_|refine gG ?_|show AK _;intro J Z|refine gJ ?_|omega|exact aT
    simp [hnx]
 ·simp only [xaf,zuB];exact gD0
def zaR {L:List Wis} (h:zav L=0) {u:Unt} (hu:u ∈ zq L) (o:Opt):Pure prog 86 [unP u,.sl 18 (L.map Wis.pv),unP o] (.sl 7 ((zan L u o).map Mov.pv)):=by
 obtain ⟨i,a,ha,hc⟩:=zb4 h hu;refine zuc ha ?_ o
 rcases hc with rfl|⟨k,b,hk,hik,rfl⟩
 ·exact .inl rfl
 ·exact .inr ⟨k,b,hk.at_b,rfl⟩
def zt6 (w:Wis):Pure prog 154 [w.pv] (Res.pv ⟨w.req.name,0,false⟩):=by
 refine pz func154 f154.eq_1 λhw X hX=>?_
 have qe:=@qR;exact gD0
def zv0 {L:List Wis} (hn:L.length<=1000000):zbk prog 153 [.p (.sl 18 (L.map Wis.pv)),.p (.fn (.func 154) [] [])] [] (.row 400 L.length) [(400,.row 79 3 ((zbU L).map Res.pv) false)]:=by
 have hrl:(zbU L).length=L.length:=by unfold zbU;rw [xaf]
 refine zD (cF func153 f153.eq_1) (by simp) (by simp [scPs,scP]) (by simp [scObj]) trivial (by simp [scObj,scPs,scP,zm]) trivial λX hX=>?_
 unfold zx ghO
 repeat' first|refine gC ?_ ?_<;>intro hc<;>try contradiction|refine gG ?_|show AK _;intro J Z|refine gJ ?_|omega|exact aT
 refine run_ownL 400 79 3 (κ:=Nat) (λk=>⟨[(1,.p (.fn (.func 154) [] [])),(5,.row 400 k),(8,.p (.sl 18 (L.map Wis.pv))),(9,.p (.i .i64 L.length)),(10,.p (.i .i64 k))],[(400,.row 79 3 ((zbU (L.take k)).map Res.pv) false)],[],false⟩) (λk=>k<=L.length) (λk=>L.length - k) 0 ?_ ?_ ?_
 ·refine ⟨gO ?_,gO ?_⟩<;>simp [zbU]
 ·simp
 ·intro k hk;have hkl:(zbU (L.take k)).length=k:=by unfold zbU;simp;omega
  repeat first|refine gG ?_|show AK _;intro J Z|refine gJ ?_|omega|exact aT
  (refine gC ?_ ?_<;>intro hc<;>try contradiction)
  ·obtain ⟨x,hx⟩:=zj (i:=k) (l:=L) (by omega)
   have hnx:zbU (L.take (k+1))=zbU (L.take k)++[⟨x.req.name,0,false⟩]:=by unfold zbU;rw [zE hx,xa6];rfl
   have qe:=aI qR (aI @hx @hkl);repeat' first|refine gC ?_ ?_<;>intro hc<;>try contradiction|refine zl (zt6 x) ?_|refine gG ?_|show AK _;intro J Z|refine gJ ?_|omega|exact aT
   exact ⟨k+1,by omega,by omega,by simp,by simp [hnx]<;>omega⟩
  ·obtain rfl:k=L.length:=by omega
   have qe:=aI qR (aI @qN (aI @hkl (aI @List.take_length.{0} (aI @rtN @rtR))));repeat' first|refine gC ?_ ?_<;>intro hc<;>try contradiction|refine gG ?_|show AK _;intro J Z|refine gJ ?_|omega|exact aT
   all_goals exact .inl (.mk1)
def znA {L:List Wis} (hn:L.length<=1000000):zbk prog 81 [.p (.sl 18 (L.map Wis.pv))] [] (.row 400 L.length) [(400,.row 79 3 ((zbU L).map Res.pv) false)]:=by
 have hrl:(zbU L).length=L.length:=by unfold zbU;rw [xaf]
 refine zD (cF func81 f81.eq_1) (by simp) (by simp [scPs,scP]) (by simp [scObj]) trivial (by simp [scObj,scPs,scP,zm]) trivial λX hX=>?_
 unfold zx ghO;have qe:=aI qR (aI @qN (aI @hrl (aI @rtN @rtR)));repeat' first|refine gC ?_ ?_<;>intro hc<;>try contradiction|refine zf [] (zv0 hn) ?_|refine gG ?_|show AK _;intro J Z|refine gJ ?_|omega|exact aT
 all_goals exact .inl (.mk1)
theorem zea {α β:Type} {f:α->List β} {B:Nat}:∀ {I:List α},(∀ x ∈ I,(f x).length<=B)->(I.flatMap f).length<=I.length*B
 | [],_=>by simp
 | x::I,h=>by
  have h1:=h x (by simp)
  have h2:=zea (f:=f) (B:=B) (I:=I) λy hy=>h y (by simp [hy])
  rw [xas,xad,xaw,xbW];omega
def znn {l:Lim} (h:zr l=0) (d:Int):(zN l d).length<=1440:=by
 have h0:=zaa h;have:zkw l<=1440:=by
  unfold zkw;have h1:0<=l.from_:=xbe (by omega) (by omega)
  have h2:l.to / l.step<=l.to:=xbq _ (by omega)
  omega
 unfold zN
 split
 ·unfold zno;rw [xaf,xaS];exact this
 ·exact xba _
def ziQ (o:Mov) (i:Nat) (l:Lim) (L:List Int):(zfD o i l L).length<=L.length:=by
 unfold zfD;rw [xaf];exact xbC _ _
def znt {ls:List Lim} (hl:∀ l ∈ ls,zr l=0) (o:Mov) (i:Nat) (l:Lim) (e:Nat):(zzR ls o i l e).length<=1440:=by
 refine xaY (ziQ o i l _) ?_;unfold zja;cases hi:ls[i]? with
 | none=>exact xba _
 | some l'=>
  simp only [];rw [zr4 (hl l' (xae hi))];exact znn (hl l' (xae hi)) _
def zvM {ls:List Lim} (hl:∀ l ∈ ls,zr l=0) (o:Mov) (i:Nat):(zsx ls o i).length<=2880:=by
 unfold zsx
 split
 ·split
  ·exact zea (I:=List.range 2) λe _=>znt hl o i _ e
  ·exact xba _
 ·exact xba _
def zns (ls:List Lim) (G:BgM) (o:Mov) (k:Nat):List Ky × BgM:=(List.range k).foldl (zsw ls o) ([],G)
def zpf (ls:List Lim) (o:Mov) (i:Nat) (l:Lim) (st:List Ky × BgM) (e:Nat):List Ky × BgM:=(List.range e).foldl (zwV ls o i l) st
def zvK {ls:List Lim} (hl:∀ l ∈ ls,zr l=0) {G:BgM} (hG:GOk ls G) (o:Mov) (k:Nat):(zns ls G o k).1.length<=2880*k:=by
 rw [zns,(zjc (o:=o) (List.range k) ([],G) hG).1,xaG];have:=zea (f:=zsx ls o) (B:=2880) (I:=List.range k) λi _=>zvM hl o i
 rw [xaS] at this;omega
def zvL {ls:List Lim} (hl:∀ l ∈ ls,zr l=0) (o:Mov) (i:Nat) (l:Lim) {st:List Ky × BgM} (hG:GOk ls st.2) (e:Nat):(zpf ls o i l st e).1.length<=st.1.length+1440*e:=by
 rw [zpf,(zjd (o:=o) (i:=i) (l:=l) (List.range e) st hG).1,xad];have:=zea (f:=zzR ls o i l) (B:=1440) (I:=List.range e) λj _=>znt hl o i l j
 rw [xaS] at this;omega
def zfN (l:Lim) (m:Mov):Pure prog 177 [l.pv,m.pv] (.b (zbI l m.kind m.term)):=by
 by_cases h1:l.kind=sT<;>by_cases h2:l.kind=m.kind<;>by_cases h3:l.term=s0
 all_goals
  have h1':=h1;have h2':=h2;have h3':=h3
 all_goals first|replace h1:=eq_true h1|replace h1:=eq_false h1
 all_goals first|replace h2:=eq_true h2|replace h2:=eq_false h2
 all_goals first|replace h3:=eq_true h3|replace h3:=eq_false h3
 all_goals
  refine pz func177 f177.eq_1 λhw X hX=>?_
  have qe:=aI qR (aI @h1 (aI @h2 @h3));repeat' first|refine gC ?_ ?_<;>intro hc<;>try contradiction|refine gG ?_|show AK _;intro J Z|refine gJ ?_|omega|exact aT
  exact zhe (by simp [zbI,h1',h2',h3'])
def zcx (ls:List Lim):zbk prog 82 [.p (.sl 11 (ls.map Lim.pv))] [] (.lp 7 0) [(7,.box [.p (.sl 11 (ls.map Lim.pv)),.lm 4,.lm 5] false),(4,.mp (([]:List (Ky × Int)).map cE) false),(5,.mp (([]:BgM).map gE) false)]:=by
 refine zD (cF func82 f82.eq_1) (by simp) (by simp [scPs,scP]) (by simp [scObj]) trivial (by simp [scObj,scPs,scP,zm]) trivial λX hX=>?_
 unfold zx ghO;have qe:=aI qR (aI @rtN @rtR);repeat' first|refine gC ?_ ?_<;>intro hc<;>try contradiction|refine gG ?_|show AK _;intro J Z|refine gJ ?_|omega|exact aT
 all_goals exact .inl (.mk1)
def znx {ls:List Lim} (hl:∀ l ∈ ls,zr l=0) (hn:ls.length≤1000) (C:List (Ky × Int)) {G:BgM} (hG:GOk ls G) (o:Mov) (hm:0≤o.moment∧o.moment≤1000000000):zbk prog 155 [.lp 900 0,.p o.pv] [(900,.box [.p (.sl 11 (ls.map Lim.pv)),.lm 901,.lm 902] false),(901,.mp (C.map cE) false),(902,.mp (G.map gE) false)] (.p (.sl 2 ((arn ls G o).1.map kyP))) [(900,.box [.p (.sl 11 (ls.map Lim.pv)),.lm 901,.lm 902] false),(901,.mp (C.map cE) false),(902,.mp ((arn ls G o).2.map gE) false)]:=by
 have hq:o.moment.tdiv 1440=o.moment / 1440:=xbo (by omega)
 refine zD (cF func155 f155.eq_1) (by simp) (by simp [scPs,scP,zm]) (by simp [scObj,scPs,scP,zm]) ⟨rfl,rfl,rfl,trivial⟩ (by simp [scObj,scPs,scP,zm]) (by simp [zcQ,zm]) fun X hX=>?_
 unfold zx ghO
 have qe:=aI qR (aI @gLV.eq_1 @gLV.eq_5);repeat' first|refine gC ?_ ?_<;>intro hc<;>try contradiction|refine gG ?_|show AK _;intro J Z|refine gJ ?_|omega|exact aT
 refine run_ownL 400 171 2 (κ:=Nat) (fun k=>⟨[(0,.lp 900 0),(3,.lp 3 0),(5,.row 400 (zns ls G o k).1.length),(18,.p (.sl 11 (ls.map Lim.pv))),(19,.p (.i .i64 ls.length)),(20,.p (.i .i64 k)),(1000900,.lp 900 0),(1000901,.lm 901),(1000902,.lm 902)],[(900,.box [.p (.sl 11 (ls.map Lim.pv)),.lm 901,.lm 902] false),(901,.mp (C.map cE) false),(902,.mp ((zns ls G o k).2.map gE) false),(3,.box [.p (.i .i64 o.moment),.p (.s o.kind),.p (.s o.term),.p (.i .i64 o.seats),.p (.i .i64 o.size),.p (.i .i64 o.noise),.p (.s o.name)] false),(400,.row 171 2 ((zns ls G o k).1.map kyP) false)],[],false⟩) (fun k=>k≤ls.length) (fun k=>ls.length - k) 0 ?_ ?_ ?_
 ·refine ⟨gO ?_,gO ?_⟩<;>simp [zns]
 ·simp
 ·intro k hk
  have hGk:GOk ls (zns ls G o k).2:=(zjc (o:=o) (List.range k) ([],G) hG).2
  have hkl:=zvK hl hG o k
  repeat first|refine gG ?_|show AK _;intro J Z|refine gJ ?_|omega|exact aT
  (refine gC ?_ ?_<;>intro hc<;>try contradiction)
  ·obtain ⟨l,hx⟩:=zj (i:=k) (l:=ls) (by omega)
   have h1:=hl l (xae hx)
   have h0:=zaa h1
   have hnx:zns ls G o (k+1)=if zbI l o.kind o.term then zpf ls o k l (zns ls G o k) 2 else zns ls G o k:=by
    rw [zns,xa7,xaJ]
    show zsw ls o (zns ls G o k) k=_
    unfold zsw;rw [hx];rfl
   generalize zns ls G o k=st at hGk hkl hnx
   by_cases hct:zbI l o.kind o.term=true
   ·rw [if_pos hct] at hnx
    have qe:=aI qR (aI @hx (aI @hq @hct));repeat' first|refine gC ?_ ?_<;>intro hc<;>try contradiction|refine za (zfN l o) ?_|refine gG ?_|show AK _;intro J Z|refine gJ ?_|omega|exact aT
    refine zh (κ:=Nat) (fun e=>⟨[(0,.lp 900 0),(3,.lp 3 0),(5,.row 400 (zpf ls o k l st e).1.length),(6,.p (.i .i64 k)),(7,.lp 7 0),(18,.p (.sl 11 (ls.map Lim.pv))),(19,.p (.i .i64 ls.length)),(20,.p (.i .i64 k)),(36,.p (.agg [.i .i64 (o.moment / 1440 - 1),.i .i64 (o.moment / 1440)])),(37,.p (.i .i64 e)),(1000900,.lp 900 0),(1000901,.lm 901),(1000902,.lm 902)],[(900,.box [.p (.sl 11 (ls.map Lim.pv)),.lm 901,.lm 902] false),(901,.mp (C.map cE) false),(902,.mp ((zpf ls o k l st e).2.map gE) false),(3,.box [.p (.i .i64 o.moment),.p (.s o.kind),.p (.s o.term),.p (.i .i64 o.seats),.p (.i .i64 o.size),.p (.i .i64 o.noise),.p (.s o.name)] false),(7,.box (l.cells.map .p) false),(400,.row 171 2 ((zpf ls o k l st e).1.map kyP) false)],[],false⟩) (fun e=>e≤2) (fun e=>2 - e) 0 ?_ ?_ ?_
    ·refine gJ ?_;simp [zpf]
    ·simp
    ·intro e he
     have hGe:GOk ls (zpf ls o k l st e).2:=(zjd (o:=o) (i:=k) (l:=l) (List.range e) st hGk).2
     have hel:=zvL hl o k l hGk e
     have hnxe:zpf ls o k l st (e+1)=zwV ls o k l (zpf ls o k l st e) e:=by rw [zpf,xa7,xaJ];rfl
     generalize hse:zpf ls o k l st e=se at hGe hel hnxe
     repeat first|refine gG ?_|show AK _;intro J Z|refine gJ ?_|omega|exact aT
     (refine gC ?_ ?_<;>intro hc<;>try contradiction)
     ·have hid:([.i .i64 (o.moment / 1440 - 1),.i .i64 (o.moment / 1440)]:List PV)[e]?=some (.i .i64 (o.moment / 1440 - 1+e)):=by
       rcases (show e=0∨e=1 by omega) with rfl|rfl<;>simp
      have hB:=(zr6 hGe (k,o.moment / 1440 - 1+e)).1
      rw [zeS hx h1] at hB
      have hBl:=znn h1 (o.moment / 1440 - 1+e)
      unfold zwV at hnxe
      have hgg:=zBz k (o.moment / 1440 - 1+e) se.2
      have hgk:=eq_true (zwz k (o.moment / 1440 - 1+e) se.2)
      cases hkg:ziL (k,o.moment / 1440 - 1+(e:Int)) se.2 with
      | some L'=>
       have hbg:zvH ls se.2 (k,o.moment / 1440 - 1+e)=(L',se.2):=by unfold zvH;rw [hkg]
       rw [hbg] at hB hnxe
       simp only at hB hnxe
       rw [hkg] at hgg
       have qe:=aI qR (aI @hid (aI @Nat.mul_one (aI @hgg @hgk)));repeat' first|refine gC ?_ ?_<;>intro hc<;>try contradiction|refine za (zwq l _) ?_|refine gG ?_|show AK _;intro J Z|refine gJ ?_|omega|exact aT
       refine zh (κ:=Nat) (fun j=>⟨[(0,.lp 900 0),(3,.lp 3 0),(5,.row 400 (se.1++zfD o k l (L'.take j)).length),(6,.p (.i .i64 k)),(7,.lp 7 0),(18,.p (.sl 11 (ls.map Lim.pv))),(19,.p (.i .i64 ls.length)),(20,.p (.i .i64 k)),(36,.p (.agg [.i .i64 (o.moment / 1440 - 1),.i .i64 (o.moment / 1440)])),(37,.p (.i .i64 e)),(66,.p (.sl 1 (L'.map (.i .i64)))),(67,.p (.i .i64 L'.length)),(68,.p (.i .i64 j)),(1000900,.lp 900 0),(1000901,.lm 901),(1000902,.lm 902)],[(900,.box [.p (.sl 11 (ls.map Lim.pv)),.lm 901,.lm 902] false),(901,.mp (C.map cE) false),(902,.mp (se.2.map gE) false),(3,.box [.p (.i .i64 o.moment),.p (.s o.kind),.p (.s o.term),.p (.i .i64 o.seats),.p (.i .i64 o.size),.p (.i .i64 o.noise),.p (.s o.name)] false),(7,.box (l.cells.map .p) false),(400,.row 171 2 ((se.1++zfD o k l (L'.take j)).map kyP) false)],[],false⟩) (fun j=>j≤L'.length) (fun j=>L'.length - j) 0 ?_ ?_ ?_
       ·refine gJ ?_;simp [zfD]
       ·simp
       ·intro j hj
        have hil:=ziQ o k l (L'.take j)
        have hLl:L'.length≤1440:=by rw [hB];exact hBl
        rw [xao] at hil
        have hal:(se.1++zfD o k l (L'.take j)).length≤10000000:=by rw [xad];omega
        repeat first|refine gG ?_|show AK _;intro J Z|refine gJ ?_|omega|exact aT
        (refine gC ?_ ?_<;>intro hc<;>try contradiction)
        ·obtain ⟨b,hb⟩:=zj (i:=j) (l:=L') (by omega)
         have hbm:=zaX h1 (show b ∈ zN l (o.moment / 1440 - 1+e) by rw [←hB];exact xae hb)
         have hpp:=zaI h0.2.2.2.2.2.2.2.1
         have hnxj:zfD o k l (L'.take (j+1))=zfD o k l (L'.take j)++if b≤o.moment∧o.moment < b+l.len then [(k,b)] else []:=by
          unfold zfD
          rw [zE hb,xbk,xa6,xa3,List.filter_nil]
          by_cases hin:b≤o.moment∧o.moment < b+l.len
          ·rw [if_pos hin,if_pos (by simp [hin])];rfl
          ·rw [if_neg hin,if_neg (by simpa using hin)];rfl
         by_cases hin:b≤o.moment∧o.moment < b+l.len
         ·have hb1:=eq_true hin.1
          have hb2:=eq_true hin.2
          rw [if_pos hin] at hnxj
          have hll:(se.1++zfD o k l (L'.take (j+1))).length=(se.1++zfD o k l (L'.take j)).length+1:=by rw [hnxj];simp;omega
          have qe:=aI qR (aI @hb (aI @hb1 @hb2));repeat' first|refine gC ?_ ?_<;>intro hc<;>try contradiction|refine gG ?_|show AK _;intro J Z|refine gJ ?_|omega|exact aT
          exact ⟨j+1,by omega,by omega,by simp [hnxj]<;>omega⟩
         ·rw [if_neg hin,xat] at hnxj
          by_cases h3:b≤o.moment
          ·have hb1:=eq_true h3
           have hb2:=eq_false (show ¬o.moment < b+l.len by omega)
           have qe:=aI qR (aI @hb (aI @hb1 @hb2));repeat' first|refine gC ?_ ?_<;>intro hc<;>try contradiction|refine gG ?_|show AK _;intro J Z|refine gJ ?_|omega|exact aT
           exact ⟨j+1,by omega,by omega,by simp [hnxj]<;>omega⟩
          ·have hb1:=eq_false h3
           have qe:=aI qR (aI @hb @hb1);repeat' first|refine gC ?_ ?_<;>intro hc<;>try contradiction|refine gG ?_|show AK _;intro J Z|refine gJ ?_|omega|exact aT
           exact ⟨j+1,by omega,by omega,by simp [hnxj]<;>omega⟩
        ·repeat' first|refine gC ?_ ?_<;>intro hc<;>try contradiction|refine gG ?_|show AK _;intro J Z|refine gJ ?_|omega|exact aT
         have ej:j=L'.length:=by omega
         subst ej
         rw [xai]
         exact ⟨e+1,by omega,by omega,by simp [hnxe]⟩
      | none=>
       have hbg:zvH ls se.2 (k,o.moment / 1440 - 1+e)=(zr5 l (o.moment / 1440 - 1+e),zjk (k,o.moment / 1440 - 1+(e:Int)) (zr5 l (o.moment / 1440 - 1+e)) se.2):=by
        unfold zvH;rw [hkg];simp only [zja,hx]
       rw [hbg] at hB hnxe
       simp only at hB hnxe
       rw [hkg] at hgg
       have hgp:=zBy k (o.moment / 1440 - 1+e) (zr5 l (o.moment / 1440 - 1+e)) se.2
       have qe:=aI qR (aI @hid (aI @Nat.mul_one (aI @hgg (aI @hgk @hgp))));repeat' first|refine gC ?_ ?_<;>intro hc<;>try contradiction|refine za (zwq l _) ?_|refine gG ?_|show AK _;intro J Z|refine gJ ?_|omega|exact aT
       generalize zr5 l (o.moment / 1440 - 1+e)=L' at hB hnxe
       refine zh (κ:=Nat) (fun j=>⟨[(0,.lp 900 0),(3,.lp 3 0),(5,.row 400 (se.1++zfD o k l (L'.take j)).length),(6,.p (.i .i64 k)),(7,.lp 7 0),(18,.p (.sl 11 (ls.map Lim.pv))),(19,.p (.i .i64 ls.length)),(20,.p (.i .i64 k)),(36,.p (.agg [.i .i64 (o.moment / 1440 - 1),.i .i64 (o.moment / 1440)])),(37,.p (.i .i64 e)),(66,.p (.sl 1 (L'.map (.i .i64)))),(67,.p (.i .i64 L'.length)),(68,.p (.i .i64 j)),(1000900,.lp 900 0),(1000901,.lm 901),(1000902,.lm 902)],[(900,.box [.p (.sl 11 (ls.map Lim.pv)),.lm 901,.lm 902] false),(901,.mp (C.map cE) false),(902,.mp ((zjk (k,o.moment / 1440 - 1+(e:Int)) L' se.2).map gE) false),(3,.box [.p (.i .i64 o.moment),.p (.s o.kind),.p (.s o.term),.p (.i .i64 o.seats),.p (.i .i64 o.size),.p (.i .i64 o.noise),.p (.s o.name)] false),(7,.box (l.cells.map .p) false),(400,.row 171 2 ((se.1++zfD o k l (L'.take j)).map kyP) false)],[],false⟩) (fun j=>j≤L'.length) (fun j=>L'.length - j) 0 ?_ ?_ ?_
       ·refine gJ ?_;simp [zfD]
       ·simp
       ·intro j hj
        have hil:=ziQ o k l (L'.take j)
        have hLl:L'.length≤1440:=by rw [hB];exact hBl
        rw [xao] at hil
        have hal:(se.1++zfD o k l (L'.take j)).length≤10000000:=by rw [xad];omega
        repeat first|refine gG ?_|show AK _;intro J Z|refine gJ ?_|omega|exact aT
        (refine gC ?_ ?_<;>intro hc<;>try contradiction)
        ·obtain ⟨b,hb⟩:=zj (i:=j) (l:=L') (by omega)
         have hbm:=zaX h1 (show b ∈ zN l (o.moment / 1440 - 1+e) by rw [←hB];exact xae hb)
         have hpp:=zaI h0.2.2.2.2.2.2.2.1
         have hnxj:zfD o k l (L'.take (j+1))=zfD o k l (L'.take j)++if b≤o.moment∧o.moment < b+l.len then [(k,b)] else []:=by
          unfold zfD
          rw [zE hb,xbk,xa6,xa3,List.filter_nil]
          by_cases hin:b≤o.moment∧o.moment < b+l.len
          ·rw [if_pos hin,if_pos (by simp [hin])];rfl
          ·rw [if_neg hin,if_neg (by simpa using hin)];rfl
         by_cases hin:b≤o.moment∧o.moment < b+l.len
         ·have hb1:=eq_true hin.1
          have hb2:=eq_true hin.2
          rw [if_pos hin] at hnxj
          have hll:(se.1++zfD o k l (L'.take (j+1))).length=(se.1++zfD o k l (L'.take j)).length+1:=by rw [hnxj];simp;omega
          have qe:=aI qR (aI @hb (aI @hb1 @hb2));repeat' first|refine gC ?_ ?_<;>intro hc<;>try contradiction|refine gG ?_|show AK _;intro J Z|refine gJ ?_|omega|exact aT
          exact ⟨j+1,by omega,by omega,by simp [hnxj]<;>omega⟩
         ·rw [if_neg hin,xat] at hnxj
          by_cases h3:b≤o.moment
          ·have hb1:=eq_true h3
           have hb2:=eq_false (show ¬o.moment < b+l.len by omega)
           have qe:=aI qR (aI @hb (aI @hb1 @hb2));repeat' first|refine gC ?_ ?_<;>intro hc<;>try contradiction|refine gG ?_|show AK _;intro J Z|refine gJ ?_|omega|exact aT
           exact ⟨j+1,by omega,by omega,by simp [hnxj]<;>omega⟩
          ·have hb1:=eq_false h3
           have qe:=aI qR (aI @hb @hb1);repeat' first|refine gC ?_ ?_<;>intro hc<;>try contradiction|refine gG ?_|show AK _;intro J Z|refine gJ ?_|omega|exact aT
           exact ⟨j+1,by omega,by omega,by simp [hnxj]<;>omega⟩
        ·repeat' first|refine gC ?_ ?_<;>intro hc<;>try contradiction|refine gG ?_|show AK _;intro J Z|refine gJ ?_|omega|exact aT
         have ej:j=L'.length:=by omega
         subst ej
         rw [xai]
         exact ⟨e+1,by omega,by omega,by simp [hnxe]⟩
     ·repeat' first|refine gC ?_ ?_<;>intro hc<;>try contradiction|refine gG ?_|show AK _;intro J Z|refine gJ ?_|omega|exact aT
      have ee:e=2:=by omega
      subst ee
      exact ⟨k+1,by omega,by omega,by simp [hnx,hse],by simp [hnx,hse]⟩
   ·rw [if_neg hct] at hnx
    rw [xbp] at hct
    have qe:=aI qR (aI @hx @hct);repeat' first|refine gC ?_ ?_<;>intro hc<;>try contradiction|refine za (zfN l o) ?_|refine gG ?_|show AK _;intro J Z|refine gJ ?_|omega|exact aT
    exact ⟨k+1,by omega,by omega,by simp [hnx],by simp [hnx]⟩
  ·have e:k=ls.length:=by omega
   subst e
   have hE:zns ls G o ls.length=arn ls G o:=rfl
   rw [hE]
   have qe:=aI qR (aI @rtN @rtR);repeat' first|refine gC ?_ ?_<;>intro hc<;>try contradiction|refine gG ?_|show AK _;intro J Z|refine gJ ?_|omega|exact aT
   all_goals exact .inl (.mkP (h2:=by simp only [qS,Nat.reduceAdd,Nat.reduceMul,Nat.reduceEqDiff,Nat.reduceLeDiff,reduceIte,reduceCtorEq,Nat.reduceBEq,Nat.reduceLT,keepG.eq_1,keepG.eq_2,gLV.eq_1,gLV.eq_2,gLV.eq_5]<;>simp))
end Go.Proofs.YtbgckikhhcbmpaaGreat
