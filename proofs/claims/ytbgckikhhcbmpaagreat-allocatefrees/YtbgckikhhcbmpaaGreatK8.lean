/- Contracts. No conditions. -/
import Derived.Test.YtbgckikhhcbmpaaGreatK6
set_option linter.all false
set_option maxHeartbeats 8000000
set_option maxRecDepth 100000
namespace Go.Proofs.YtbgckikhhcbmpaaGreat
open Go.RowKit Tryz
variable {b:Brd} {n:ByteArray} {ls:List Lim} {P:List Mov} {caps:List PV} {R:List Res} {L:List Wis} {N i j k w:Nat} {f g:Nat->Bool} {r:Res} {u:Unt}
section
variable {f:Nat} {c:Mov->Mov->Int}
def zaP (hs:SW (bfC c)) (L:List Mov):zat c L=zcl (bfC c) L:=zd9 hs L
def znB (hf:∀ a b:Mov,Pure prog f [a.pv,b.pv] (.i .i64 (c a b))) {D D':List Mov} (P L S:List Mov) (hN:D.length=N) (hD:D=P++(L++S)) (hD':D'=P++(zat c L++S)) (a b:Int) (ha:a=(P.length:Nat)) (hb:b=(P.length+L.length:Nat)) (hn:N<=1000000) :
  zbk prog 267 [.row 900 N,.p (.i .i64 a),.p (.i .i64 b),.p (.fn (.func f) [] [])] [(900,.row 194 7 (D.map Mov.pv) false)] (.p (.tup [])) [(900,.row 194 7 (D'.map Mov.pv) false)]:=by
 subst ha hb;have hlen:N=P.length+(L.length+S.length):=by rw [<-hN,hD];simp only [xad]
 have hlen':D'.length=N:=by rw [hD',hlen];simp only [xad,zaf]
 have hq:∀ {X:List Mov},X.length=L.length->(P++(X++S)).length=N:=fun {X} h=>by simp only [xad,h];omega
 refine zD (cF func267 f267.eq_1) (by simp) (by simp [scPs,scP,zm,hN]) (by simp [scObj]) ⟨rfl,trivial⟩ (by simp [scObj]) (by simp [zcQ,zm,hN,hlen']) λX hX=>?_
 unfold zx ghO;have qe:=aI qR @gLV.eq_2;refine gE2 ?_;refine zh (κ:=Nat) (λi=>⟨[(0,.row 900 N),(1,.p (.i .i64 (P.length:Nat))),(2,.p (.i .i64 (P.length+L.length:Nat))),(3,.p (.fn (.func f) [] [])),(8,.p (.i .i64 (P.length+i:Nat))),(1000900,.row 900 N)],[(900,.row 194 7 ((P++(zpb c L i++S)).map Mov.pv) false)],[],false⟩) (λi=>1<=i/\(i<=L.length\/i=1)) (λi=>L.length - i) 1 ?_ ?_ ?_
 ·simp only [qS,seval,gLV.eq_2]<;>simp [zB6,hD,hlen]
 ·simp
 ·intro i hi;have hdl:=zi1 (c:=c) hi.2;have hdN:=hq hdl
  by_cases hlt:i < L.length
  ·obtain ⟨x,hx⟩:=zj (i:=i) (l:=L) hlt;have hlt':(((P.length+i:Nat):Int) < (P.length+L.length:Nat))=True:=eq_true (by omega)
   have qe:=aI qR (aI @hdN @hlt');refine gE2 ?_;have hol:=ziy (c:=c) (L:=L) (k:=i) (by omega)
   refine zh (κ:=Nat) (λj=>⟨[(0,.row 900 N),(1,.p (.i .i64 (P.length:Nat))),(2,.p (.i .i64 (P.length+L.length:Nat))),(3,.p (.fn (.func f) [] [])),(8,.p (.i .i64 (P.length+i:Nat))),(9,.p (.i .i64 (P.length+j:Nat))),(1000900,.row 900 N)],[(900,.row 194 7 ((P++(dj (mgC c L i) x (L.drop (i+1)) j++S)).map Mov.pv) false)],[],false⟩) (λj=>j<=i/\zc2 (bfC c) x (mgC c L i) j=zc2 (bfC c) x (mgC c L i) i) (λj=>j) i ?_ ?_ ?_
   ·refine gJ ?_;simp [zvm hx,hdN];exact xb7 (by rw [<-hdN];simp only [xad])
   ·simp
   ·intro j hj;have hjl:(dj (mgC c L i) x (L.drop (i+1)) j).length=L.length:=by rw [zwJ (by omega),hol,xav];omega
    have hjN:=hq hjl;cases j with
    | zero=>
     have i0:(((P.length:Nat):Int) < ((P.length+0:Nat):Int))=False:=eq_false (by omega)
     have qe:=aI qR (aI @i0 (aI @hjN (aI @rtN @rtR)));repeat' first|refine gC ?_ ?_<;>intro hc<;>try contradiction|(show zp _ _ _ _ (⟨_,.callv,_,_,_⟩::_) _ _;refine zbn (q:=(.i .i64 0)) (by first|rfl|(simp (disch:=omega) only [qG,qe,seval]<;>rfl)) ?_;(try (refine zw ?_)))|refine gG ?_|show AK _;intro J Z|refine gJ ?_|omega|exact aT
     exact ⟨i+1,by omega,by omega,by simp only [LV.p.injEq,PV.i.injEq,true_and];omega,by rw [zrE (j:=0) hx hj.2],by rw [zi1 (by omega)];omega⟩
    | succ j=>
     have i0:(((P.length:Nat):Int) < ((P.length+(j+1):Nat):Int))=True:=eq_true (by omega)
     have i1:(((P.length+(j+1):Nat):Int) - 1).toNat=P.length+j:=by omega
     obtain ⟨y,hy⟩:=zj (i:=j) (l:=mgC c L i) (by omega)
     obtain ⟨h1,h2⟩:=dj_at (x:=x) (rest:=L.drop (i+1)) hy;have g1:=zae P (dj (mgC c L i) x (L.drop (i+1)) (j+1)) S (j:=j) (by omega)
     have g2:=zae P (dj (mgC c L i) x (L.drop (i+1)) (j+1)) S (j:=j+1) (by omega)
     rw [h1] at g1;rw [h2] at g2
     by_cases hcc:c x y < 0
     ·have hc':=eq_true hcc;have h3:=zyK hy hcc;have g3:((P++(dj (mgC c L i) x (L.drop (i+1)) (j+1)++S)).set (P.length+(j+1)) y).set (P.length+j) x=P++(dj (mgC c L i) x (L.drop (i+1)) j++S):=by
       rw [za6 _ _ _ _ (by omega),za6 _ _ _ _ (by rw [xbQ];omega),zzm hy]
      have qe:=aI qR (aI @i0 (aI @i1 (aI @g1 (aI @g2 (aI @hjN (aI @hc' (aI @rtN @rtR)))))));have jA:=hf x y;refine gE2 ?_;exact ⟨j,⟨by omega,by rw [<-h3];exact hj.2⟩,by omega,by simp only [LV.p.injEq,PV.i.injEq,true_and];omega,by rw [<-g3,xbf,xbf],by rw [zwJ (by omega),hol,xav];omega⟩
     ·have hc':=eq_false hcc;have h3:=zra hy hcc;have qe:=aI qR (aI @i0 (aI @i1 (aI @g1 (aI @g2 (aI @hjN (aI @hc' (aI @rtN @rtR)))))));have jA:=hf x y;refine gE2 ?_;exact ⟨i+1,by omega,by omega,by simp only [LV.p.injEq,PV.i.injEq,true_and];omega,by rw [zrE hx (h3.symm.trans hj.2)],by rw [zi1 (by omega)];omega⟩
  ·have hlt':(((P.length+i:Nat):Int) < (P.length+L.length:Nat))=False:=eq_false (by omega)
   have qe:=aI qR (aI @hdN (aI @hlt' (aI @rtN @rtR)));refine gE2 ?_;rw [zvp c L (by omega),<-hD']
   exact .inl (.mk0 (h2:=by simp only [qS,seval,keepG.eq_1,keepG.eq_2,gLV.eq_2]<;>simp [hN]))
def Wd (c:Mov->Mov->Int) (w:Nat) (R:List Mov):List Mov:=if h:R.length<=w\/w=0 then zat c R else zat c (R.take w)++Wd c w (R.drop w)
termination_by R.length
decreasing_by simp only [xav];omega
def zcy {R:List Mov} (h:R.length<=w):Wd c w R=zat c R:=by rw [Wd,dif_pos (.inl h)]
def zfl {R:List Mov} (hw:0 < w) (h:w<=R.length):Wd c w R=zat c (R.take w)++Wd c w (R.drop w):=by
 by_cases e:R.length=w
 ·rw [zcy (by omega),xas (by omega),xbD (by omega),zcy (by simp)]
  show _=_++[];rw [xar]
 ·rw [Wd,dif_neg (by omega)]
def zhW (hw:0 < w) (R:List Mov):(Wd c w R).length=R.length:=by
 generalize hn:R.length=n
 induction n using Nat.strongRecOn generalizing R with
 | _ n ih=>
  by_cases h:R.length<=w
  ·rw [zcy h,zaf,hn]
  ·rw [zfl hw (by omega),xad,zaf,ih (R.drop w).length (by rw [xav];omega) _ rfl,xan,xav];omega
def zmp (hs:SW (bfC c)) (R:List Mov) (w:Nat):mrg (bfC c) (zat c (R.take w)) (zat c (R.drop w))=zat c R:=by
 rw [zaP hs,zaP hs,zaP hs,<-zeE hs,xaq]
end
structure Srv where
 Q:List Req
 K:List Wsh
 M:List Mov
def zAc (l:List Lim) (n:Nat) (t:Srv) (w:Wsh):Prop:=64<=((n+t.Q.length:Nat):Int)\/fitR l t.M w.req=false
instance (l:List Lim) (n:Nat) (t:Srv) (w:Wsh):Decidable (zAc l n t w):=by unfold zAc;infer_instance
def bckP (p:Per) (d:Int):Per:=⟨p.fro,d - 1,p.days⟩
def bckD (b:Bk) (n:ByteArray) (d:Int):Prop:=zbx (bckP (zpA b n).req.per d)=0/\¬(zoM (bckP (zpA b n).req.per d)).length=0
instance (b:Bk) (n:ByteArray) (d:Int):Decidable (bckD b n d):=by unfold bckD;infer_instance
def cmpK (x y:Ky):Int:=zn [zi9 x.1 y.1,zi9 x.2 y.2]
def leK (x y:Ky):Bool:=decide (cmpK x y<=0)
def ziH {x y:Ky}:leK x y=true↔x=y\/zkJ x y:=by
 unfold leK cmpK zkJ;rw [decide_eq_true_eq];simp only [zn]
 constructor
 ·intro h
  by_cases h1:zi9 (x.1:Int) y.1=0
  ·rw [if_pos h1] at h;have e1:=(zgZ _ _).1 h1
   by_cases h2:zi9 x.2 y.2=0
   ·left;exact Prod.ext (by omega) ((zgZ _ _).1 h2)
   ·rw [if_neg h2] at h;have:=(zgY x.2 y.2).1 (by omega)
    right;right;omega
  ·rw [if_neg h1] at h;have:=(zgY (x.1:Int) y.1).1 (by omega)
   right;left;omega
 ·rintro (rfl|h|⟨h1,h2⟩)
  ·rw [if_pos ((zgZ _ _).2 rfl),if_pos ((zgZ _ _).2 rfl)];decide
  ·have:=(zgY (x.1:Int) y.1).2 (by omega)
   rw [if_neg (by omega)];omega
  ·rw [if_pos ((zgZ _ _).2 (by omega))]
   have:=(zgY x.2 y.2).2 h2;rw [if_neg (by omega)];omega
def zbO (L:List Ky):List Ky:=L.mergeSort leK
def zpz (L:List Ky):(zbO L).Pairwise λa b=>a=b\/zkJ a b:=by
 refine (List.pairwise_mergeSort (le:=leK) (λa b c h k=>?_) (λa b=>?_) L).imp λh=>ziH.1 h
 ·rw [ziH] at *
  rcases h with rfl|h
  ·exact k
  ·rcases k with rfl|k
   ·exact .inr h
   ·exact .inr (zly _ _ _ h k)
 ·rw [xbg,ziH,ziH]
  by_cases h1:a.1=b.1
  ·by_cases h2:a.2=b.2
   ·exact .inl (.inl (Prod.ext h1 h2))
   ·unfold zkJ;omega
  ·unfold zkJ;omega
def rfW (ls:List Lim) (b:Brd) (own:List Mov):List Ky:=zbu (zbO (rfL ls b own))
def zjE (hl:∀ l ∈ ls,zr l=0) {all own:List Mov} (h:zeV ls b P) (hp:all.Perm (P++own)):rfW ls b own=xrW ls all own:=
 zxI hl h hp (zpz _) (List.mergeSort_perm _ _)
def zfB (L:List Wis) (i:Nat) (m:Int):List Mov:=match L[i]? with|some w=>zbF (w.req.at m)|none=>[]
def zan (L:List Wis) (u:Unt) (o:Opt):List Mov:=zfB L u.1.toNat o.1++if u.2 < 0 then [] else zfB L u.2.toNat o.2
def zbU (L:List Wis):List Res:=L.map λw=>⟨w.req.name,0,false⟩
def zji (R:List Res) (i:Nat) (m:Int):List Res:=match R[i]? with|some r=>R.set i ⟨r.name,m,true⟩|none=>R
def zn9 (R:List Res) (u:Unt) (o:Opt):List Res:=if u.2 < 0 then zji R u.1.toNat o.1 else zji (zji R u.1.toNat o.1) u.2.toNat o.2
def zeA (L:List Wis) (R:List Res) (f:Nat->Bool) (i:Nat):List Mov:=match R[i]? with|some r=>if (r.gr && f i)=true then zfB L i r.minute else []|none=>[]
def zbL (L:List Wis) (R:List Res) (f:Nat->Bool):List Mov:=(List.range L.length).flatMap (zeA L R f)
def zcS (R:List Res) (i:Nat) (m:Int):(zji R i m).length=R.length:=by unfold zji;split<;>simp
def zpG (h:R[i]?=some r) (m:Int):zji R i m=R.set i ⟨r.name,m,true⟩:=by unfold zji;rw [h]
def zpF (h:R[i]?=some r) (m:Int):(zji R i m)[i]?=some ⟨r.name,m,true⟩:=by
 rw [zpG h,xbE (xaa.1 h).1]
def zgj (R:List Res) (h:j≠i) (m:Int):(zji R i m)[j]?=R[j]?:=by
 unfold zji
 split
 ·rw [xb9 (Ne.symm h)]
 ·rfl
def zez (h:∀ i r,R[i]?=some r->r.gr=true->f i=g i):zbL L R f=zbL L R g:=by
 unfold zbL;refine zcK λi _=>?_
 unfold zeA;cases hr:R[i]? with
 | none=>rfl
 | some r=>
  simp only []
  by_cases hg:r.gr=true
  ·rw [h i r hr hg]
  ·rw [xbq] at hg;simp [hg]
def zlj (hi:i < L.length) (hr:R[i]?=some r) (hg:r.gr=false) (hf:f i=true) (m:Int):(zbL L (zji R i m) f).Perm (zbL L R f++zfB L i m):=by
 have hne:∀ (I:List Nat),(∀ k ∈ I,k≠i)->I.flatMap (zeA L (zji R i m) f)=I.flatMap (zeA L R f):=λI hI=>zcK λk hk=>by
  unfold zeA;rw [zgj R (hI k hk)]
 unfold zbL;rw [zbg _ hi,zbg (zeA L R f) hi,hne _ λk hk=>by have:=xaG.1 hk;omega,hne _ λk hk=>by have:=List.mem_range'_1.1 hk;omega]
 have e1:zeA L (zji R i m) f i=zfB L i m:=by
  unfold zeA;rw [zpF hr];simp only [hf,Bool.and_self,if_true]
 have e2:zeA L R f i=[]:=by
  unfold zeA;rw [hr];simp [hg]
 rw [e1,e2,xaL,xak];exact List.perm_append_comm.append_left _
def zyk (h:zav L=0) (hn:R.length=L.length) (hi:i < L.length) (hu:zau L i < 0\/(i:Int) < zau L i) (hg:∀ j r,R[j]?=some r->r.gr=true->zY L j < i) (o:Opt) :
  (zbL L (zn9 R ((i:Int),zau L i) o) λ_=>true).Perm ((zbL L R λ_=>true)++zan L ((i:Int),zau L i) o)/\(zn9 R ((i:Int),zau L i) o).length=L.length /\
  ∀ j r,(zn9 R ((i:Int),zau L i) o)[j]?=some r->r.gr=true->zY L j < i+1:=by
 obtain ⟨a,ha⟩:=zj hi;obtain ⟨r,hr⟩:=zj (l:=R) (i:=i) (by omega)
 have hl1:=zj4 hu;have hg1:r.gr=false:=by
  cases hx:r.gr
  ·rfl
  ·have:=hg i r hr hx;omega
 unfold zn9 zan;simp only [xam]
 rcases zcH h ha with hk|⟨k,b,hk⟩
 ·rw [if_pos (by omega),if_pos (by omega),xar]
  refine ⟨zlj hi hr hg1 rfl _,by rw [zcS,hn],λj x hj hx=>?_⟩
  by_cases e:j=i
  ·subst e;omega
  ·rw [zgj R e] at hj;have:=hg j x hj hx;omega
 ·have hlab:=hk.lab;have hik:i < k:=by omega
  rw [if_neg (by omega),if_neg (by omega),hlab,xam]
  have hkn:=(xaa.1 hk.at_b).1;obtain ⟨r2,hr2⟩:=zj (l:=R) (i:=k) (by omega)
  have hl2:=zqW hk hik;have hg2:r2.gr=false:=by
   cases hx:r2.gr
   ·rfl
   ·have:=hg k r2 hr2 hx;omega
  have hr3:(zji R i o.1)[k]?=some r2:=by rw [zgj R hk.ne,hr2]
  refine ⟨?_,by rw [zcS,zcS,hn],λj x hj hx=>?_⟩
  ·rw [<-xak];exact (zlj hkn hr3 hg2 rfl _).trans ((zlj hi hr hg1 rfl _).append_right _)
  ·by_cases e:j=k
   ·subst e;omega
   ·rw [zgj _ e] at hj
    by_cases e2:j=i
    ·subst e2;omega
    ·rw [zgj R e2] at hj;have:=hg j x hj hx;omega
def zkS (ls:List Lim) (L:List Wis) (u:Unt):List Opt->Brd->Option Opt × Brd
 | [],b=>(none,b)
 | o::r,b=>if rfW ls b (zan L u o)=[] then (some o,rfB ls b (zan L u o)) else zkS ls L u r (rfB ls b (zan L u o))
def zli (ls:List Lim) (L:List Wis) (F:Unt->List Opt) (st:List Res × Brd) (u:Unt):List Res × Brd:=match zkS ls L u (F u) st.2 with
 | (some o,b)=>(zn9 st.1 u o,zy ls b (zan L u o) 1)
 | (none,b)=>(st.1,b)
def zyi (ls:List Lim) (L:List Wis) (F:Unt->List Opt) (st:List Res × Brd) (i:Nat):List Res × Brd:=(za7 L i).foldl (zli ls L F) st
def zih (ls:List Lim) (L:List Wis) (F:Unt->List Opt) (k:Nat):List Res × Brd:=(List.range k).foldl (zyi ls L F) (zbU L,⟨[],[]⟩)
def fitX (ls:List Lim) (L:List Wis) (P:List Mov) (u:Unt) (o:Opt):Bool:=(xrW ls (P++zan L u o) (zan L u o)).isEmpty
def srvI (ls:List Lim) (L:List Wis) (F:Unt->List Opt) (R:List Res) (i:Nat):List Res:=if zau L i < 0\/(i:Int) < zau L i then
  match (F ((i:Int),zau L i)).find? (fitX ls L (zbL L R λj=>decide (zY L j < i)) ((i:Int),zau L i)) with
  | some o=>zn9 R ((i:Int),zau L i) o
  | none=>R
 else R
def zh6 (ls:List Lim) (L:List Wis) (F:Unt->List Opt) (k:Nat):List Res:=(List.range k).foldl (srvI ls L F) (zbU L)
theorem zwg (hl:∀ l ∈ ls,zr l=0) (L:List Wis) (u:Unt):∀ (O:List Opt) (b:Brd),zeV ls b P->(zkS ls L u O b).1=O.find? (fitX ls L P u)/\zeV ls (zkS ls L u O b).2 P
 | [],b,h=>⟨rfl,h⟩
 | o::r,b,h=>by
  have e:=zjE hl h (List.Perm.refl (P++zan L u o));rw [zkS,List.find?_cons];unfold fitX
  by_cases hc:rfW ls b (zan L u o)=[]
  ·rw [if_pos hc];rw [e] at hc;rw [hc];exact ⟨rfl,zjF hl h _⟩
  ·rw [if_neg hc];rw [e] at hc;have hf:(xrW ls (P++zan L u o) (zan L u o)).isEmpty=false:=by
    cases hx:xrW ls (P++zan L u o) (zan L u o) with
    | nil=>exact absurd hx hc
    | cons y z=>rfl
   rw [hf];exact zwg hl L u r _ (zjF hl h _)
def ztB (L:List Wis) (f:Nat->Bool):zbL L (zbU L) f=[]:=by
 unfold zbL;refine List.flatMap_eq_nil_iff.2 λi _=>?_
 unfold zeA zbU;rw [xal];cases L[i]?<;>simp
theorem zmn {ls:List Lim} (hl:∀ l ∈ ls,zr l=0) (h:zav L=0) (F:Unt->List Opt):∀ k,k<=L.length ->
  (zih ls L F k).1=zh6 ls L F k/\(zh6 ls L F k).length=L.length/\zeV ls (zih ls L F k).2 (zbL L (zh6 ls L F k) λ_=>true)/\∀ j r,(zh6 ls L F k)[j]?=some r->r.gr=true->zY L j < k
 | 0,_=>by
  refine ⟨rfl,by simp [zh6,zbU],?_,λj r hj hr=>?_⟩
  ·have:=ztB L λ_=>true
   simp only [zh6,zih,List.range_zero,xbI,this];exact znq ls
  ·simp only [zh6,List.range_zero,xbI,zbU,xal] at hj;cases hw:L[j]? with
   | none=>rw [hw] at hj;cases hj
   | some w=>rw [hw] at hj;rw [<-xa5 hj] at hr;cases hr
 | i+1,hk=>by
  obtain ⟨h1,h2,h3,h4⟩:=zmn hl h F i (by omega)
  have e1:zih ls L F (i+1)=zyi ls L F (zih ls L F i) i:=by unfold zih;rw [xbd,xaP];rfl
  have e2:zh6 ls L F (i+1)=srvI ls L F (zh6 ls L F i) i:=by unfold zh6;rw [xbd,xaP];rfl
  rw [e1,e2];unfold zyi srvI za7
  by_cases hu:zau L i < 0\/(i:Int) < zau L i
  ·rw [if_pos hu,if_pos hu,xbn,xbI];rw [show (zbL L (zh6 ls L F i) λj=>decide (zY L j < i))=zbL L (zh6 ls L F i) λ_=>true from zez λj r hj hr=>decide_eq_true (h4 j r hj hr)]
   obtain ⟨t1,t2⟩:=zwg hl L ((i:Int),zau L i) (F ((i:Int),zau L i)) _ h3;unfold zli;cases hx:zkS ls L ((i:Int),zau L i) (F ((i:Int),zau L i)) (zih ls L F i).2 with
   | mk x b=>
    rw [hx] at t1 t2;simp only at t1 t2;rw [<-t1];cases x with
    | none=>exact ⟨h1,h2,t2,λj r hj hr=>by have:=h4 j r hj hr;omega⟩
    | some o=>
     obtain ⟨p1,p2,p3⟩:=zyk h h2 (show i < L.length by omega) hu h4 o
     simp only;rw [h1];exact ⟨rfl,p2,zim hl (zsf hl t2 _) p1.symm,p3⟩
  ·rw [if_neg hu,if_neg hu,xbI];exact ⟨h1,h2,h3,λj r hj hr=>by have:=h4 j r hj hr;omega⟩
def plcF (L:List Wis) (R:List Res) (f:Nat->Bool) (out:List Mov) (i:Nat):List Mov:=match R[i]? with
 | some r=>if (r.gr && f i)=true then zhC zjb out (zfB L i r.minute) else out
 | none=>out
def zlk (L:List Wis) (R:List Res) (f:Nat->Bool):List Mov:=(List.range L.length).foldl (plcF L R f) []
theorem zjS:∀ (I:List Nat) (F:List Mov),I.foldl (plcF L R f) (zcl zjb F)=zcl zjb (F++I.flatMap (zeA L R f))
 | [],F=>by simp
 | i::I,F=>by
  have e:plcF L R f (zcl zjb F) i=zcl zjb (F++zeA L R f i):=by
   unfold plcF zeA;cases R[i]? with
   | none=>simp
   | some r=>
    simp only []
    split
    ·exact zlA F _
    ·rw [xar]
  rw [xbn,e,zjS I,xat,xak]
def zjR (L:List Wis) (R:List Res) (f:Nat->Bool):zlk L R f=zcl zjb (zbL L R f):=zjS (List.range L.length) []
def zgx (L:List Wis) (R:List Res) (f:Nat->Bool):(zlk L R f).Perm (zbL L R f):=by
 rw [zjR,<-zd9 zee];have:=zog zjb [] (zbL L R f);unfold zhC at this;simpa using this
def za5 (R:List Res) (i:Nat):Res:=(R[i]?).getD ⟨s0,0,false⟩
def grO (R:List Res) (u:Unt):Opt:=((za5 R u.1.toNat).minute,if u.2 < 0 then -1 else (za5 R u.2.toNat).minute)
def grB (R:List Res) (u:Unt):Bool:=(za5 R u.1.toNat).gr
def zyn (L:List Wis) (u:Unt) (o:Opt):Bool:=decide (u.2 < 0) || match L[u.1.toNat]?,L[u.2.toNat]? with
 | some a,some b=>ze8 a b o.1 o.2
 | _,_=>true
def zfy (w:Wis) (x:Res):Int:=zn [if x.name≠w.req.name then 8 else 0,if x.gr=true/\x.minute ∉ zac w then 30 else 0,if x.gr=false/\x.minute≠0 then 19 else 0]
def zkH (L:List Wis) (i:Nat) (x:Res):Int:=match L[i]? with|some w=>zfy w x|none=>0
def zhp (L:List Wis) (R:List Res) (u:Unt):Bool:=decide (0<=u.2) && (((za5 R u.1.toNat).gr != (za5 R u.2.toNat).gr) || ((za5 R u.1.toNat).gr && !zyn L u (grO R u)))
def zc8 (L:List Wis) (R:List Res):Int:=if R.length≠L.length then 2 else zn [zn (R.mapIdx (zkH L)),if (zq L).any (zhp L R)=true then 32 else 0]
def LnkTo.sw {a b:Wis} (h:LnkTo L i k a b):LnkTo L k i b a:=⟨h.at_b,h.at_a,h.ne.symm,h.lba,h.lab,h.kind.symm,h.per.symm⟩
def zbZ (h:zc8 L R=0):R.length=L.length/\(∀ i w,L[i]?=some w->zfy w (za5 R i)=0)/\∀ u ∈ zq L,zhp L R u=false:=by
 unfold zc8 at h
 split at h
 ·cases h
 ·rename_i hn;have hn:R.length=L.length:=by omega
  obtain ⟨h1,h2⟩:=zi.1 h;obtain ⟨h2,_⟩:=zi.1 h2;refine ⟨hn,λi w hw=>?_,λu hu=>?_⟩
  ·obtain ⟨r,hr⟩:=zj (l:=R) (i:=i) (by have:=(xaa.1 hw).1;omega)
   have:=zfY h1 hr;unfold zkH at this;rw [hw] at this;unfold za5;rw [hr];exact this
  ·cases hb:zhp L R u
   ·rfl
   ·rw [if_pos (xaV.2 ⟨u,hu,hb⟩)] at h2;cases h2
def zdz {w:Wis} {x:Res} (h:zfy w x=0):x.name=w.req.name/\(x.gr=true->x.minute ∈ zac w)/\(x.gr=false->x.minute=0):=by
 unfold zfy at h;obtain ⟨h1,h⟩:=zi.1 h;obtain ⟨h2,h⟩:=zi.1 h;obtain ⟨h3,_⟩:=zi.1 h;refine ⟨?_,λhg=>?_,λhg=>?_⟩
 ·refine Decidable.byContradiction λk=>?_
  rw [if_pos k] at h1;cases h1
 ·refine Decidable.byContradiction λk=>?_
  rw [if_pos ⟨hg,k⟩] at h2;cases h2
 ·refine Decidable.byContradiction λk=>?_
  rw [if_pos ⟨hg,k⟩] at h3;cases h3
def zBw (h:zav L=0) (hr:zc8 L R=0) (hu:u ∈ zq L) (hg:grB R u=true):grO R u ∈ zaS L u:=by
 obtain ⟨hn,hE,hB⟩:=zbZ hr;have hb:=hB u hu;obtain ⟨i,hi,rfl,hlk⟩:=zdd.1 hu;obtain ⟨a,ha⟩:=zj hi;have h1:=(zdz (hE i a ha)).2.1 hg;unfold zaS grO;simp only [xam,ha]
 rcases zcH h ha with hk|⟨k,b,hk⟩
 ·rw [if_pos (by omega),if_pos (by omega)]
  exact xaN.2 ⟨_,h1,rfl⟩
 ·have hlab:=hk.lab;rw [if_neg (by omega),if_neg (by omega),hlab,xam]
  simp only [hk.at_b];unfold zhp zyn grO at hb;simp only [xam,hlab,ha,hk.at_b,show ¬((k:Int) < 0) by omega,if_false,decide_false,xb5,show (0:Int)<=k by omega,decide_true,xaZ] at hb
  have hg':(za5 R i).gr=true:=hg;rw [hg'] at hb;cases hg2:(za5 R k).gr
  ·rw [hg2] at hb;simp at hb
  ·rw [hg2] at hb;have hp:ze8 a b (za5 R i).minute (za5 R k).minute=true:=by simpa using hb
   have h2:=(zdz (hE k b hk.at_b)).2.1 hg2;refine (zhs (zpd a b) (zdS a b)).mem_iff.2 ?_;unfold zdS;exact xaw.2 ⟨_,h1,xaw.2 ⟨_,h2,by rw [if_pos hp];simp⟩⟩
theorem zeI {α β:Type} (f g:α->List β):∀ l:List α,(l.flatMap λx=>f x++g x).Perm (l.flatMap f++l.flatMap g)
 | []=>.refl _
 | x::l=>by
  rw [xat,xat,xat,xak,xak];refine List.Perm.append_left _ (((zeI f g l).append_left _).trans ?_);exact List.perm_append_comm_assoc ..
def zqw {h:Nat->Bool} (hd:∀ j,f j=true->g j=true->False) (he:∀ j,h j=(f j || g j)):(zbL L R h).Perm (zbL L R f++zbL L R g):=by
 have e:zbL L R h=(List.range L.length).flatMap λi=>zeA L R f i++zeA L R g i:=by
  unfold zbL;refine zcK λi _=>?_
  unfold zeA;cases R[i]? with
  | none=>rfl
  | some r=>
   simp only [he];cases hf:f i<;>cases hg:g i
   ·simp
   ·simp
   ·simp
   ·exact (hd i hf hg).elim
 rw [e];exact zeI _ _ _
def zmH (h:∀ j,j < L.length->f j=false):zbL L R f=[]:=by
 unfold zbL;refine List.flatMap_eq_nil_iff.2 λi hi=>?_
 unfold zeA;cases R[i]? with
 | none=>rfl
 | some r=>simp [h i (xaG.1 hi)]
def zij (hi:i < L.length) (h:∀ j,j < L.length->f j=true->j=i):zbL L R f=zeA L R f i:=by
 have hne:∀ (I:List Nat),(∀ k ∈ I,k < L.length/\k≠i)->I.flatMap (zeA L R f)=[]:=λI hI=>List.flatMap_eq_nil_iff.2 λk hk=>by
  obtain ⟨h1,h2⟩:=hI k hk;have hf:f k=false:=by
   cases hx:f k
   ·rfl
   ·exact absurd (h k h1 hx) h2
  unfold zeA;cases R[k]? with
  | none=>rfl
  | some r=>simp [hf]
 unfold zbL;rw [zbg _ hi,hne _ λk hk=>by have:=xaG.1 hk;omega,hne _ λk hk=>by have:=List.mem_range'_1.1 hk;omega,xaL,xar]
def unM (L:List Wis) (R:List Res) (u:Unt):List Mov:=if grB R u=true then zan L u (grO R u) else []
def zll (hi:i < R.length) (hf:f i=true):zeA L R f i=if (za5 R i).gr=true then zfB L i (za5 R i).minute else []:=by
 obtain ⟨r,hr⟩:=zj (l:=R) (i:=i) hi;unfold zeA za5;rw [hr];simp [hf]
def zfZ (h:zav L=0) (hj:j < L.length):(zY L j=j/\(zau L j < 0\/(j:Int) < zau L j))\/∃ i a b,LnkTo L j i a b/\i < j/\zY L j=i/\(i:Int) < zau L i:=by
 obtain ⟨a,ha⟩:=zj hj
 rcases zcH h ha with hk|⟨k,b,hk⟩
 ·exact .inl ⟨zj4 (.inl (by omega)),.inl (by omega)⟩
 ·have hne:=hk.ne;have hlab:=hk.lab;have hlba:=hk.lba
  by_cases hjk:j < k
  ·exact .inl ⟨zj4 (.inr (by omega)),.inr (by omega)⟩
  ·exact .inr ⟨k,a,b,hk,by omega,zqW hk.sw (by omega),by omega⟩
def zpl (h:zav L=0) (hr:zc8 L R=0) (hi:i < L.length) (hu:zau L i < 0\/(i:Int) < zau L i):(zbL L R λj=>decide (zY L j=i)).Perm (unM L R ((i:Int),zau L i)):=by
 obtain ⟨hn,hE,hB⟩:=zbZ hr;have hb:=hB _ (zdd.2 ⟨i,hi,rfl,hu⟩);obtain ⟨a,ha⟩:=zj hi
 rcases zcH h ha with hk|⟨k,b,hk⟩
 ·rw [zij hi λj hj hf=>?_,zll (by omega) (decide_eq_true (zj4 hu))]
  ·unfold unM grB grO zan;simp only [xam,show zau L i < 0 by omega,if_true,xar]
   exact .refl _
  ·have hf:=of_decide_eq_true hf
   rcases zfZ h hj with ⟨h1,_⟩|⟨i',a',b',h1,h2,h3,h4⟩
   ·omega
   ·rw [h3] at hf;subst hf;omega
 ·have hlab:=hk.lab;have hne:=hk.ne;have hik:i < k:=by omega
  have hkn:=(xaa.1 hk.at_b).1;have e1:=zij (R:=R) (f:=λj=>decide (j=i)) hi λj _ hf=>of_decide_eq_true hf
  have e2:=zij (R:=R) (f:=λj=>decide (j=k)) hkn λj _ hf=>of_decide_eq_true hf
  have hcong:zbL L R (λj=>decide (zY L j=i))=zbL L R λj=>decide (j=i) || decide (j=k):=by
   refine zez λj r hj _=>?_
   have hjn:j < L.length:=by have:=(xaa.1 hj).1;omega
   rw [<-Bool.decide_or];refine decide_eq_decide.2 ⟨λhf=>?_,λhf=>?_⟩
   ·rcases zfZ h hjn with ⟨h1,_⟩|⟨i',a',b',h1,h2,h3,h4⟩
    ·left;omega
    ·right
     rw [h3] at hf;subst hf;have:=h1.lba
     omega
   ·rcases hf with rfl|rfl
    ·exact zj4 hu
    ·exact zqW hk hik
  rw [hcong];refine (zqw (f:=λj=>decide (j=i)) (g:=λj=>decide (j=k)) (λj h1 h2=>hne (by rw [<-of_decide_eq_true h1,<-of_decide_eq_true h2])) λj=>rfl).trans ?_
  rw [e1,e2,zll (by omega) (by simp),zll (by omega) (by simp)]
  unfold unM grB grO zan;unfold zhp zyn grO at hb;simp only [xam,hlab,ha,hk.at_b,show ¬((k:Int) < 0) by omega,if_false,decide_false,xb5,show (0:Int)<=k by omega,decide_true,xaZ] at hb ⊢
  cases g1:(za5 R i).gr<;>cases g2:(za5 R k).gr
  ·simp
  ·rw [g1,g2] at hb;simp at hb
  ·rw [g1,g2] at hb;simp at hb
  ·simp
theorem zkR (h:zav L=0) (hr:zc8 L R=0):∀ i,i<=L.length->(zbL L R λj=>decide (zY L j < i)).Perm (((List.range i).flatMap (za7 L)).flatMap (unM L R))
 | 0,_=>by rw [zmH λj _=>by simp];simp
 | i+1,hi=>by
  have ih:=zkR h hr i (by omega)
  have e:(zbL L R λj=>decide (zY L j < i+1)).Perm ((zbL L R λj=>decide (zY L j < i))++zbL L R λj=>decide (zY L j=i)):=
   zqw (λj h1 h2=>by have:=of_decide_eq_true h1;have:=of_decide_eq_true h2;omega) λj=>by
    rw [<-Bool.decide_or];exact decide_eq_decide.2 (by omega)
  rw [zbE,xa8];refine e.trans (ih.append ?_)
  by_cases hu:zau L i < 0\/(i:Int) < zau L i
  ·have e2:za7 L i=[((i:Int),zau L i)]:=by unfold za7;rw [if_pos hu]
   rw [e2,xat,xbH,xar];exact zpl h hr (by omega) hu
  ·have e2:za7 L i=[]:=by unfold za7;rw [if_neg hu]
   rw [e2,xbH,zmH λj hj=>decide_eq_false λhf=>?_]
   rcases zfZ h hj with ⟨h1,h2⟩|⟨i',a',b',h1,h2,h3,h4⟩
   ·rw [h1] at hf;subst hf;exact hu h2
   ·rw [h3] at hf;subst hf;exact hu (.inr h4)
def zvO (hu:zau L i < 0\/(i:Int) < zau L i) (hi:i < L.length):∃ k,(zq L)[k]?=some ((i:Int),zau L i)/\(zq L).take k=(List.range i).flatMap (za7 L):=by
 have e2:za7 L i=[((i:Int),zau L i)]:=by unfold za7;rw [if_pos hu]
 have e:zq L=(List.range i).flatMap (za7 L)++(((i:Int),zau L i)::(List.range' (i+1) (L.length - (i+1))).flatMap (za7 L)):=by
  unfold zq;rw [zbg _ hi,e2];rfl
 refine ⟨((List.range i).flatMap (za7 L)).length,?_,?_⟩
 ·rw [e];simp
 ·rw [e,List.take_left]
def zpm (hk:(zq L)[k]?=some u):∃ i,i < L.length/\u=((i:Int),zau L i)/\(zau L i < 0\/(i:Int) < zau L i)/\(zq L).take k=(List.range i).flatMap (za7 L):=by
 obtain ⟨i,hi,rfl,hu⟩:=zdd.1 (xae hk);obtain ⟨k',h1,h2⟩:=zvO hu hi;have hp:=xa1.1 (zjs L);obtain ⟨l1,e1⟩:=xaa.1 hk;obtain ⟨l2,e2⟩:=xaa.1 h1;have:k=k':=by
  rcases Nat.lt_trichotomy k k' with c|c|c
  ·have:=hp k k' l1 l2 c;rw [e1,e2] at this;exact absurd this (by omega)
  ·exact c
  ·have:=hp k' k l2 l1 c;rw [e1,e2] at this;exact absurd this (by omega)
 subst this;exact ⟨i,hi,rfl,hu,h2⟩
def zo2 (h:zav L=0) (hr:zc8 L R=0) (hk:(zq L)[k]?=some u):(((zq L).take k).flatMap (unM L R)).Perm (zbL L R λj=>decide ((zY L j:Int) < u.1)):=by
 obtain ⟨i,hi,rfl,hu,e⟩:=zpm hk;rw [e];have hc:zbL L R (λj=>decide ((zY L j:Int) < (i:Int)))=zbL L R λj=>decide (zY L j < i):=zez λj _ _ _=>decide_eq_decide.2 (by omega)
 show (((List.range i).flatMap (za7 L)).flatMap (unM L R)).Perm (zbL L R λj=>decide ((zY L j:Int) < (i:Int)))
 rw [hc];exact (zkR h hr i (by omega)).symm
def zln (h:zav L=0) (hr:zc8 L R=0) (hu:u ∈ zq L):(((zq L).filter λx=>decide (x≠u)).flatMap (unM L R)).Perm (zbL L R λj=>decide ((zY L j:Int)≠u.1)):=by
 obtain ⟨k,hk⟩:=xbl.1 hu;obtain ⟨i,hi,rfl,hlk,e⟩:=zpm hk;have hall:=zkR h hr L.length (xap _);have e2:zq L=(zq L).take k++((i:Int),zau L i)::(zq L).drop (k+1):=znF hk;have hp:=zjs L;rw [e2] at hp;obtain ⟨p1,p2,p3⟩:=xcq.1 hp;obtain ⟨p4,p5⟩:=xbF.1 p2;have f1:((zq L).take k).filter (λx=>decide (x≠((i:Int),zau L i)))=(zq L).take k:=List.filter_eq_self.2 λx hx=>decide_eq_true λe=>by
  have:=p3 x hx _ xaA;rw [e] at this;exact absurd this (by omega)
 have f2:((zq L).drop (k+1)).filter (λx=>decide (x≠((i:Int),zau L i)))=(zq L).drop (k+1):=List.filter_eq_self.2 λx hx=>decide_eq_true λe=>by
  have:=p4 x hx;rw [e] at this;exact absurd this (by omega)
 have f3:(zq L).filter (λx=>decide (x≠((i:Int),zau L i)))=(zq L).take k++(zq L).drop (k+1):=by
  conv=>lhs;rw [e2]
  rw [xbe,f1,xa2,if_neg (by simp),f2]
 have hle:zbL L R (λj=>decide (zY L j < L.length))=zbL L R λj=>decide (zY L j=i) || decide ((zY L j:Int)≠i):=by
  refine zez λj r hj _=>?_
  have hjn:j < L.length:=by
   have:=(xaa.1 hj).1;have:=(zbZ hr).1
   omega
  rw [<-Bool.decide_or];refine decide_eq_decide.2 ⟨λ_=>by omega,λ_=>?_⟩
  rcases zfZ h hjn with ⟨h1,_⟩|⟨i',a',b',h1,h2,h3,h4⟩<;>omega
 have q1:(zbL L R λj=>decide (zY L j=i) || decide ((zY L j:Int)≠i)).Perm ((zbL L R λj=>decide (zY L j=i))++zbL L R λj=>decide ((zY L j:Int)≠i)):=
  zqw (λj h1 h2=>by have:=of_decide_eq_true h1;have:=of_decide_eq_true h2;omega) λj=>rfl
 have q2:=zpl h hr hi hlk;have q3:((zq L).flatMap (unM L R)).Perm (unM L R ((i:Int),zau L i)++((zq L).take k++(zq L).drop (k+1)).flatMap (unM L R)):=by
  conv=>lhs;rw [e2]
  rw [xa8,xat,xa8];exact (List.perm_append_comm_assoc ..)
 rw [f3];have q4:((zq L).flatMap (unM L R)).Perm (unM L R ((i:Int),zau L i)++zbL L R λj=>decide ((zY L j:Int)≠i)):=
  hall.symm.trans (by rw [hle];exact q1.trans (q2.append_right _))
 exact (List.perm_append_left_iff _).1 (q3.symm.trans q4)
def zad (L:List Wis) (R:List Res) (u:Unt):List Opt:=if grB R u=true then (zaS L u).takeWhile (λo=>decide (o≠grO R u)) else zaS L u
def brO (ls:List Lim) (L:List Wis) (u:Unt) (O:List Opt) (b:Brd):Brd:=O.foldl (λb o=>rfB ls b (zan L u o)) b
def brG (ls:List Lim) (L:List Wis) (R:List Res) (b:Brd) (u:Unt):Brd:=if grB R u=true then zy ls b (zan L u (grO R u)) 1 else b
def brU (ls:List Lim) (L:List Wis) (R:List Res) (b:Brd) (u:Unt):Brd:=brG ls L R (brO ls L u (zad L R u) b) u
def brK (ls:List Lim) (L:List Wis) (R:List Res) (k:Nat):Brd:=((zq L).take k).foldl (brU ls L R) ⟨[],[]⟩
theorem znk (hl:∀ l ∈ ls,zr l=0) (L:List Wis) (u:Unt):∀ (O:List Opt) (b:Brd),zeV ls b P->zeV ls (brO ls L u O b) P
 | [],b,h=>h
 | o::O,b,h=>znk hl L u O _ (zjF hl h _)
def zwR (hl:∀ l ∈ ls,zr l=0) (L:List Wis) (R:List Res) (h:zeV ls b P) (u:Unt):zeV ls (brG ls L R b u) (P++unM L R u):=by
 unfold brG unM
 split
 ·exact zsf hl h _
 ·rw [xar];exact h
theorem zlJ (hl:∀ l ∈ ls,zr l=0) (L:List Wis) (R:List Res) {g:Brd->Unt->Brd} (hg:∀ b P u,zeV ls b P->zeV ls (g b u) (P++unM L R u)):∀ (U:List Unt) (b:Brd) (P:List Mov),zeV ls b P->zeV ls (U.foldl g b) (P++U.flatMap (unM L R))
 | [],b,P,h=>by simpa using h
 | u::U,b,P,h=>by
  rw [xbn,xat,<-xak];exact zlJ hl L R hg U _ _ (hg b P u h)
def zCp (hl:∀ l ∈ ls,zr l=0) (h:zav L=0) (hr:zc8 L R=0) (hk:(zq L)[k]?=some u):zeV ls (brK ls L R k) (zbL L R λj=>decide ((zY L j:Int) < u.1)):=
 zim hl (zlJ hl L R (λb P u hb=>zwR hl L R (znk hl L u _ _ hb) u) ((zq L).take k) _ [] (znq ls)) (by rw [xaL];exact zo2 h hr hk)
def xrA (ls:List Lim) (L:List Wis) (R:List Res) (u:Unt) (o:Opt):List Ky:=xrW ls ((zbL L R λj=>decide ((zY L j:Int) < u.1))++zan L u o) (zan L u o)
def zkY (hl:∀ l ∈ ls,zr l=0) (h:zav L=0) (hr:zc8 L R=0) (hk:(zq L)[k]?=some u) (O:List Opt) (o:Opt):rfW ls (brO ls L u O (brK ls L R k)) (zan L u o)=xrA ls L R u o:=
 zjE hl (znk hl L u O _ (zCp hl h hr hk)) (.refl _)
def zkI (ls:List Lim) (L:List Wis) (R:List Res) (u:Unt):Brd:=((zq L).filter λx=>decide (x≠u)).foldl (brG ls L R) ⟨[],[]⟩
def zqy (hl:∀ l ∈ ls,zr l=0) (h:zav L=0) (hr:zc8 L R=0) (hu:u ∈ zq L):zeV ls (zkI ls L R u) (zbL L R λj=>decide ((zY L j:Int)≠u.1)):=
 zim hl (zlJ hl L R (λb P u hb=>zwR hl L R hb u) _ _ [] (znq ls)) (by rw [xaL];exact zln h hr hu)
def xrO (ls:List Lim) (L:List Wis) (R:List Res) (u:Unt) (o:Opt):List Ky:=xrW ls ((zbL L R λj=>decide ((zY L j:Int)≠u.1))++zan L u o) (zan L u o)
def zmr (hl:∀ l ∈ ls,zr l=0) (h:zav L=0) (hr:zc8 L R=0) (hu:u ∈ zq L) (O:List Opt) (o:Opt):rfW ls (brO ls L u O (zkI ls L R u)) (zan L u o)=xrO ls L R u o:=
 zjE hl (znk hl L u O _ (zqy hl h hr hu)) (.refl _)
def zsb (hl:∀ l ∈ ls,zr l=0) (L:List Wis) (R:List Res) (f:Nat->Bool):zeV ls (zy ls ⟨[],[]⟩ (zlk L R f) 1) (zbL L R f):=
 zim hl (zsf hl (znq ls) (zlk L R f)) (by rw [xaL];exact zgx L R f)
def zrf (ls:List Lim) (L:List Wis) (R:List Res) (k:Ky) (i:Nat):Bool:=match ls[k.1]? with
 | some l=>(za5 R i).gr && (zfB L i (za5 R i).minute).any (inW l k.2)
 | none=>false
def zlF (ls:List Lim) (L:List Wis) (R:List Res) (k:Ky) (f:Nat->Bool):List ByteArray:=((List.range L.length).filter λi=>f i && zrf ls L R k i).map λi=>(za5 R i).name
structure Rsn where
 name:ByteArray
 minute:Int
 other:Int
 lim:Int
 win:Int
 holders:List ByteArray
def zto (ls:List Lim) (L:List Wis) (R:List Res) (u:Unt) (o:Opt) (w:Ky):Rsn:=⟨(za5 R u.1.toNat).name,o.1,o.2,w.1,w.2,zlF ls L R w λj=>decide ((zY L j:Int) < u.1)⟩
def zfz (L:List Wis) (R:List Res):List (Unt × Opt):=(zq L).flatMap λu=>(zad L R u).map λo=>(u,o)
def nmW (L:List Wis) (i:Nat):ByteArray:=match L[i]? with|some w=>w.req.name|none=>s0
def zBn (h:zav L=0) (hi:i < L.length) (hj:j < L.length) (e:nmW L i=nmW L j):i=j:=by
 obtain ⟨a,ha⟩:=zj hi;obtain ⟨b,hb⟩:=zj hj;have h1:=zrj h ha;have h2:=zrj h hb;unfold nmW at e;rw [ha,hb] at e;simp only at e;rw [e] at h1
 omega
def blkP (ls:List Lim) (L:List Wis) (R:List Res) (u:Unt) (W:List Ky):List ByteArray:=((List.range L.length).filter λj=>!decide ((zY L j:Int) < u.1) && !(decide ((j:Int)=u.1) || decide ((j:Int)=u.2)) && W.any λw=>zrf ls L R w j).map λj=>(za5 R j).name
structure Cpl where
 idx:Int
 minute:Int
 other:Int
 blk:List ByteArray
def cpl0:Cpl:=⟨0,0,0,[]⟩
def zoJ (ls:List Lim) (L:List Wis) (R:List Res):Option Cpl:=((zfz L R).find? λx=>(xrA ls L R x.1 x.2).isEmpty).map λx=>⟨x.1.1,x.2.1,x.2.2,blkP ls L R x.1 (xrO ls L R x.1 x.2)⟩
def zwe (ls:List Lim) (L:List Wis) (R:List Res):Option Cpl:=((zfz L R).find? λx=>(xrO ls L R x.1 x.2).isEmpty).map λx=>⟨x.1.1,x.2.1,x.2.2,[]⟩
def ztY {f:Nat} {p:Wis->Bool} (hf:∀ w ∈ L,Pure prog f (w.pv::caps) (.b (p w))):Pure prog 187 [.sl 18 (L.map Wis.pv),.fn (.func f) [] caps] (.i .i64 (zdG p L)):=by
 refine pz func187 f187.eq_1 λhw X hX=>?_
 simp only [wfs,PV.wf,xaf,maxLen] at hw;refine gE2 ?_;refine zh (κ:=Nat) (λi=>⟨[(0,.p (.sl 18 (L.map Wis.pv))),(1,.p (.fn (.func f) [] caps)),(7,.p (.i .i64 L.length)),(8,.p (.i .i64 i))],[],[],false⟩) (λi=>i<=L.length/\∀ y ∈ L.take i,p y=false) (λi=>L.length - i) 0 ?_ ?_ ?_
 ·exact sR
 ·simp
 ·intro i hi;refine gH (λhc=>?_) λhc=>?_
  ·obtain ⟨y,hy⟩:=zj (i:=i) (l:=L) (by omega)
   have qe:=@hy;have jA:=hf y (xae hy);refine gF2 (λhc=>?_) λhc=>?_
   ·rw [zbe hi.2 hy hc];exact .refl _
   ·exact ⟨i+1,⟨by omega,zd1 hi.2 hy (by simpa using hc)⟩,by omega,by simp⟩
  ·refine gE2 ?_;have e:i=L.length:=by omega
   subst e;rw [zct (λy hy=>hi.2 y (by rw [xas (by simp)];exact hy))];exact .refl _
def ztX (w:Wis) (n:ByteArray):Pure prog 188 [w.pv,.ip (.s n) 0] (.b (decide (w.req.name=n))):=by
 refine pz func188 f188.eq_1 λhw X hX=>?_
 exact gD2
def zeu (L:List Wis) (n:ByteArray):Pure prog 119 [.sl 18 (L.map Wis.pv),.s n] (.i .i64 (zeH n L)):=by
 refine pz func119 f119.eq_1 λhw X hX=>?_
 repeat' first|refine gC ?_ ?_<;>intro hc<;>try contradiction|refine zo (ztY (L:=L) (p:=λw=>decide (w.req.name=n)) (λw _=>ztX w n)) ?_|refine gG ?_|show AK _;intro J Z|refine gJ ?_|omega|exact aT
 rw [ziR];exact .refl _
def zfU (L:List Wis):Pure prog 60 [.sl 18 (L.map Wis.pv)] (.i .i64 (zav L)):=by
 refine pz func60 f60.eq_1 fun hw X hX=>?_
 simp only [wfs,PV.wf,xaf,maxLen] at hw
 refine gF2 (fun hc=>?_) fun hc=>?_
 ·rw [zav,if_pos hc];exact .refl _
 have hsp:zav L=zn [zn (L.mapIdx (zcB L)),zn (L.mapIdx (zjj L))]:=by rw [zav,if_neg (by omega)]
 refine zh (κ:=Nat) (fun i=>⟨[(0,.p (.sl 18 (L.map Wis.pv))),(13,.p (.sl 18 (L.map Wis.pv))),(14,.p (.i .i64 L.length)),(15,.p (.i .i64 i))],[],[],false⟩) (fun i=>i≤L.length∧∀ x ∈ (L.mapIdx (zcB L)).take i,x=0) (fun i=>L.length - i) 0 ?_ ?_ ?_
 ·exact sR
 ·simp
 ·intro i hi
  refine gH (fun hc=>?_) fun hc=>?_
  ·obtain ⟨x,hx⟩:=zj (i:=i) (l:=L) (by omega)
   have he:zcB L i x=zn [zfI x,if 0≤zeH x.req.name (L.take i) then 9 else 0]:=rfl
   have h19:=zeu (L.take i) x.req.name
   rw [xbK] at h19
   have qe:=aI qR @hx;have jA:=zev x;have jB:=h19;have jC:=fun u1 u2=>za0 u1 u2;have jD:=fun u1 u2=>zaG [u1,u2];refine gF5 (fun hc=>?_) fun hc=>?_
   ·rw [←he] at hc
    have h1:zn (L.mapIdx (zcB L))=zcB L i x:=zbr hi.2 (zaj hx) hc
    have hf:zav L=zcB L i x:=by rw [hsp,zlL (by rw [h1];exact hc),h1]
    rw [hf,he];exact .refl _
   ·rw [←he] at hc
    exact ⟨i+1,⟨by omega,zb0 hi.2 (zaj hx) hc⟩,by omega,by simp⟩
  ·have e1:zn (L.mapIdx (zcB L))=0:=by
    have e:i=(L.mapIdx (zcB L)).length:=by simp;omega
    subst e;exact zbj hi.2
   rw [zro e1,zwE] at hsp
   refine gE2 ?_
   refine zh (κ:=Nat) (fun i=>⟨[(0,.p (.sl 18 (L.map Wis.pv))),(37,.p (.sl 18 (L.map Wis.pv))),(38,.p (.i .i64 L.length)),(39,.p (.i .i64 i))],[],[],false⟩) (fun i=>i≤L.length∧∀ x ∈ (L.mapIdx (zjj L)).take i,x=0) (fun i=>L.length - i) 0 ?_ ?_ ?_
   ·exact sR
   ·simp
   ·intro i hi
    refine gH (fun hc=>?_) fun hc=>?_
    ·obtain ⟨x,hx⟩:=zj (i:=i) (l:=L) (by omega)
     have hnx:zjj L i x=0→∃ k',(k'≤L.length∧∀ y ∈ (L.mapIdx (zjj L)).take k',y=0)∧L.length - k' < L.length - i∧k'=i+1:=fun h0=>⟨i+1,⟨by omega,zb0 hi.2 (zaj hx) h0⟩,by omega,rfl⟩
     have hst:zjj L i x≠0→zav L=zjj L i x:=fun h0=>by rw [hsp,zbr hi.2 (zaj hx) h0]
     have hlt:=zr7 x.req.link (zkG L)
     rw [show (zkG L).length=L.length from xaf ..] at hlt
     by_cases hs:x.req.link=s0
     ·have hs':=eq_true hs
      have qe:=aI qR (aI @hx @hs');refine gE2 ?_
      obtain ⟨k',a1,a2,rfl⟩:=hnx (by rw [zjj,if_pos hs])
      exact ⟨_,a1,a2,by simp⟩
     ·have hs':=eq_false hs
      by_cases hneg:zeH x.req.link L < 0
      ·have hneg':=eq_true hneg
       have e10:zjj L i x=10:=by
        rw [zjj,if_neg hs]
        split
        ·rw [if_pos hneg]
        ·rfl
       have qe:=aI qR (aI @hx (aI @hs' @hneg'));have jA:=fun u1=>zeu L u1;refine gE2 ?_
       rw [hst (by rw [e10];decide),e10];exact .refl _
      ·have hneg':=eq_false hneg
       obtain ⟨y,hy⟩:=zj (i:=(zeH x.req.link L).toNat) (l:=L) (by unfold zeH at *;omega)
       have ev:zjj L i x=if zeH x.req.link L=i∨y.req.link≠x.req.name∨y.req.kind=x.req.kind∨¬(y.req.per.fro=x.req.per.fro∧y.req.per.to=x.req.per.to∧y.req.per.days=x.req.per.days) then 32 else 0:=by
        rw [zjj,if_neg hs,hy];simp only;rw [if_neg hneg]
       have qe:=aI qR (aI @hx (aI @hs' (aI @hneg' @hy)));have jA:=fun u1=>zeu L u1;refine gF2 (fun hc=>?_) fun hc=>?_
       ·have e32:zjj L i x=32:=by
         rw [ev,if_pos]
         rcases hc with ((h|h)|h)|h
         ·exact .inl h
         ·exact .inr (.inl h)
         ·exact .inr (.inr (.inl h))
         ·exact .inr (.inr (.inr fun k=>h k.1 k.2.1 k.2.2))
        rw [hst (by rw [e32];decide),e32];exact .refl _
       ·obtain ⟨k',a1,a2,rfl⟩:=hnx (by
         rw [ev,if_neg]
         rintro (h|h|h|h)
         ·exact hc.1.1.1 h
         ·exact h hc.1.1.2
         ·exact hc.1.2 h
         ·exact h hc.2)
        exact ⟨_,a1,a2,by simp⟩
    ·have e2:zn (L.mapIdx (zjj L))=0:=by
      have e:i=(L.mapIdx (zjj L)).length:=by simp;omega
      subst e;exact zbj hi.2
     refine gE2 ?_
     rw [hsp,e2];exact .refl _
abbrev unP (u:Unt):PV:=.agg [.i .i64 u.1,.i .i64 u.2]
abbrev zzZ (u:Unt):List PV:=[unP u]
def zdT (L:List Wis):List Int:=L.map (zuE L)
def zqT (L:List Wis) (h:i < L.length):(zdT L)[i]?=some (zau L i):=by
 obtain ⟨w,hw⟩:=zj h;unfold zdT zau;rw [xal,hw];rfl
def zmX (L:List Wis):(zdT L).length=L.length:=by unfold zdT;rw [xaf]
def zyw (L:List Wis) (i:Nat):-1<=zau L i/\zau L i<=L.length:=by
 unfold zau
 split
 ·rename_i w hw;unfold zuE
  split
  ·omega
  ·unfold zeH;have h1:=zr9 w.req.link (zkG L);have h2:=zr7 w.req.link (zkG L);have h3:(zkG L).length=L.length:=by unfold zkG;rw [xaf]
   omega
 ·omega
def pmK (L:List Wis) (k:Nat):List (PV × PV):=(List.range k).map λi=>(PV.s (nmW L i),PV.i .i64 (i:Int))
theorem zmQ {v:PV}:∀ {es:List (PV × PV)},(∀ e ∈ es,eqCells [PV.s n] e.1.cells=false)->mput (.s n) v es=es++[(.s n,v)]
 | [],_=>rfl
 | (k,u)::r,h=>by
  have h1:eqCells (PV.s n).cells k.cells=false:=h (k,u) (by simp)
  have ih:=zmQ (v:=v) (es:=r) λe he=>h e (by simp [he])
  simp only [mput,h1,ih,xaD,if_false,xaM]
theorem zmR:∀ {es fs:List (PV × PV)},(∀ e ∈ es,eqCells [PV.s n] e.1.cells=false)->mget (.s n) (es++fs)=mget (.s n) fs
 | [],_,_=>rfl
 | (k,u)::r,fs,h=>by
  have h1:eqCells (PV.s n).cells k.cells=false:=h (k,u) (by simp)
  have ih:=zmR (es:=r) (fs:=fs) λe he=>h e (by simp [he])
  simp only [mget,h1,xaD,if_false,xaM];exact ih
def zA6 (h:zav L=0) {w:Wis} (hw:L[k]?=some w) {m:Nat} (hm:m<=k):∀ e ∈ pmK L m,eqCells [PV.s w.req.name] e.1.cells=false:=by
 intro e he;obtain ⟨i,hi,rfl⟩:=xaN.1 he;have hi:=xaG.1 hi;have hk:k < L.length:=(xaa.1 hw).1;simp only [PV.cells,eqCells,eqPV,xbL,decide_eq_false_iff_not];intro e;have:nmW L k=w.req.name:=by unfold nmW;rw [hw]
 have:=zBn h hk (j:=i) (by omega) (this.trans e)
 omega
def zA5 (h:zav L=0) {w:Wis} (hw:L[k]?=some w):mput (.s w.req.name) (.i .i64 (k:Int)) (pmK L k)=pmK L (k+1):=by
 rw [zmQ (zA6 h hw (xap _))];unfold pmK;rw [xbd,xa6];have:nmW L k=w.req.name:=by unfold nmW;rw [hw]
 rw [xaj,xaF,this]
def zA7 (h:zav L=0) {w:Wis} (hw:L[k]?=some w):mget (.s w.req.name) (pmK L L.length)=some (.i .i64 (k:Int)):=by
 have hk:k < L.length:=(xaa.1 hw).1;have hn:nmW L k=w.req.name:=by unfold nmW;rw [hw]
 have e:pmK L L.length=pmK L k++(PV.s w.req.name,PV.i .i64 (k:Int))::(List.range' (k+1) (L.length - (k+1))).map λi=>(PV.s (nmW L i),PV.i .i64 (i:Int)):=by
  rw [pmK,zft (λi=>(PV.s (nmW L i),PV.i .i64 (i:Int))) hk,hn];rfl
 rw [e,zmR (zA6 h hw (xap _))];simp [mget,PV.cells,eqCells,eqPV]
def zqv (L:List Wis) (n:ByteArray) (k:Nat):keysOk [2] false (.s n) (pmK L k):=by
 have:∀ I:List Nat,keysOk [2] false (.s n) (I.map λi=>(PV.s (nmW L i),PV.i .i64 (i:Int))):=by
  intro I
  induction I with
  | nil=>trivial
  | cons i I ih=>exact ⟨⟨rfl,by simp [PV.cells,eqCellsOk,eqOk]⟩,ih⟩
 exact this _
def zyj (h:zav L=0) {w:Wis} (hw:w ∈ L) (hl:w.req.link≠s0):(mget (.s w.req.link) (pmK L L.length)).getD (.i .i64 0)=.i .i64 (zeH w.req.link L):=by
 obtain ⟨i,hi⟩:=xa9 hw;have hlk:zau L i=zeH w.req.link L:=by unfold zau zuE;rw [hi];simp only [if_neg hl]
 have hne:¬zeH w.req.link L < 0:=by
  have he:=((zR h).2 i w hi).2;unfold zjj at he;rw [if_neg hl] at he;intro hlt;have hat:L[(zeH w.req.link L).toNat]?=L[0]?:=by rw [show (zeH w.req.link L).toNat=0 by omega]
  rcases zcH h hi with h1|⟨k,b,hk⟩
  ·split at he
   ·rename_i b hb
    split at he
    ·cases he
    ·rename_i h0
     first|omega|(simp only [not_lt] at h0;omega)|exact h0 hlt
   ·cases he
  ·have:=hk.lab;omega
 have hnm:=zwU (n:=w.req.link) (l:=zkG L) hne;unfold zkG at hnm;rw [xal] at hnm;obtain ⟨b,hb,e⟩:=xab.1 hnm;have hb':L[(zeH w.req.link L).toNat]?=some b:=hb;have:=zA7 h hb';rw [e] at this;rw [this];have:((zeH w.req.link L).toNat:Int)=zeH w.req.link L:=by omega
 simp [this]
def ztS (w:Wis) (M:List (PV × PV)) {r:Int} (hk:keysOk [2] false (.s w.req.link) M) (hr:w.req.link≠s0->(mget (.s w.req.link) M).getD (.i .i64 0)=.i .i64 r):Pure prog 200 ([]++[w.pv]++[.ip (.mp M) 0]) (.i .i64 (if w.req.link=s0 then -1 else r)):=by
 have hk':=eq_true hk;refine pz func200 f200.eq_1 λhw X hX=>?_
 by_cases h:w.req.link=s0
 ·rw [if_pos h];have h':=eq_true h;have qe:=aI qR @h';exact gD2
 ·rw [if_neg h];have hr':=hr h;have h':=eq_false h;have qe:=aI qR (aI @h' (aI @hk' @hr'));exact gD2
def ztT {f:Nat} {g:Wis->Int} (hf:∀ w ∈ L,Pure prog f ([]++[w.pv]++caps) (.i .i64 (g w))) (hn:L.length<=1000000):Pure prog 199 [.sl 18 (L.map Wis.pv),.fn (.func f) [] caps] (.sl 1 ((L.map g).map (.i .i64))):=by
 refine pz func199 f199.eq_1 λhw X hX=>?_
 refine gE2 ?_;refine run_ownL 400 3 1 (κ:=Nat) (λk=>⟨[(1,.p (.fn (.func f) [] caps)),(5,.row 400 k),(8,.p (.sl 18 (L.map Wis.pv))),(9,.p (.i .i64 L.length)),(10,.p (.i .i64 k))],[(400,.row 3 1 (((L.take k).map g).map (.i .i64)) false)],[],false⟩) (λk=>k<=L.length) (λk=>L.length - k) 0 ?_ ?_ ?_
 ·refine ⟨gO ?_,gO ?_⟩<;>simp
 ·simp
 ·intro k hk;have hkl:(((L.take k).map g).map (PV.i .i64)).length=k:=by simp;omega
  have hkl2:((L.take k).map g).length=k:=by simp;omega
  have hkl3:(L.take k).length=k:=by simp;omega
  refine gH (λhc=>?_) λhc=>?_
  ·obtain ⟨x,hx⟩:=zj (i:=k) (l:=L) (by omega)
   have qe:=aI qR (aI @hx (aI @hkl (aI @hkl2 @hkl3)));have jA:=hf x (xae hx);refine gE2 ?_;exact ⟨k+1,by omega,by omega,by simp,by simp [zE hx]<;>omega⟩
  ·obtain rfl:k=L.length:=by omega
   have qe:=aI qR (aI @qN (aI @hkl (aI @hkl2 (aI @hkl3 (aI @List.take_length.{0} (aI @rtN @rtR))))));exact gD2
def zmA (L:List Wis) (h:zav L=0):Pure prog 137 [.sl 18 (L.map Wis.pv)] (.sl 1 ((zdT L).map (.i .i64))):=by
 have hn:=(zR h).1;have h99:=ztT (f:=200) (caps:=[.ip (.mp (pmK L L.length)) 0]) (L:=L) (g:=zuE L) (λw hw=>ztS w (pmK L L.length) (zqv L _ _) (λhl=>zyj h hw hl)) (by omega)
 refine pz func137 f137.eq_1 λhw X hX=>?_
 refine gE2 ?_;refine zh (κ:=Nat) (λk=>⟨[(0,.p (.sl 18 (L.map Wis.pv))),(3,.lp 3 0),(7,.p (.sl 18 (L.map Wis.pv))),(8,.p (.i .i64 L.length)),(9,.p (.i .i64 k))],[(3,.box [.lm 6] false),(6,.mp (pmK L k) false)],[],false⟩) (λk=>k<=L.length) (λk=>L.length - k) 0 ?_ ?_ ?_
 ·refine gJ ?_;simp [pmK]
 ·simp
 ·intro k hk;refine gH (λhc=>?_) λhc=>?_
  ·obtain ⟨x,hx⟩:=zj (i:=k) (l:=L) (by omega)
   have hput:=zA5 h hx;have hks:=eq_true (zqv L x.req.name k);have qe:=aI qR (aI @hx (aI @hput @hks));refine gE2 ?_;exact ⟨k+1,by omega,by omega,by simp⟩
  ·obtain rfl:k=L.length:=by omega
   refine zcU ?_;refine (show Run _ (.seq _ _) _ _ from zbC ?_)
   refine (show Run _ (.ops false _) _ _ from zar (zbP 2 ?_))
   simp only [xa3,xbb,xbz,xbw];have qe:=@qR;refine gE2 ?_;refine zag (zaz 21 (.fn (.func 200) [] [.ip (.mp (pmK L L.length)) 0]) (sR) (by first|trivial|simp) (.refl _)) ?_
   rintro _ rfl;refine zw ?_;have qe:=aI qR (aI @qN (aI @rtN @rtR));have jA:=h99;exact gD2
def zcp (L:List Wis) (h:zav L=0):Pure prog 84 [.sl 18 (L.map Wis.pv)] (.fn (.func 161) [] [.ip (.sl 1 ((zdT L).map (.i .i64))) 0]):=by
 refine pz func84 f84.eq_1 λhw X hX=>?_
 have qe:=@qR;have jA:=zmA L h;exact gD2
def zcr (L:List Wis) (hn:L.length<=1000000):zsz prog 161 [.ip (.sl 1 ((zdT L).map (.i .i64))) 0] ((zq L).map zzZ):=by
 refine ziM (cF func161 f161.eq_1) (by simp) λhw X hX=>?_
 simp only [zch];have hl:=zmX L;have qe:=aI qR @hl;refine gE2 ?_;refine zh (κ:=Nat) (λk=>⟨[(0,.yield),(1,.p (.ip (.sl 1 ((zdT L).map (.i .i64))) 0)),(5,.p (.sl 1 ((zdT L).map (.i .i64)))),(6,.p (.i .i64 L.length)),(7,.p (.i .i64 k))],[],((List.range k).flatMap (za7 L)).map zzZ,false⟩) (λk=>k<=L.length) (λk=>L.length - k) 0 ?_ ?_ ?_
 ·simp only [hl,qS,seval]<;>simp
 ·simp
 ·intro k hk;refine gH (λhc=>?_) λhc=>?_
  ·have hx:=zqT L (show k < L.length by omega)
   have hr:=zyw L k;have hs:=zbg (za7 L) (show k < L.length by omega)
   have hnx:(List.range (k+1)).flatMap (za7 L)=(List.range k).flatMap (za7 L)++za7 L k:=zbE _ _
   by_cases hb:zau L k < 0\/(k:Int) < zau L k
   ·have hi:za7 L k=[((k:Int),zau L k)]:=by unfold za7;rw [if_pos hb]
    have hs':(zq L).map zzZ=((List.range k).flatMap (za7 L)).map zzZ++zzZ ((k:Int),zau L k)::((List.range' (k+1) (L.length - (k+1))).flatMap (za7 L)).map zzZ:=by
     rw [zq,hs,hi];simp
    rw [hi] at hnx
    by_cases hb1:zau L k < 0
    ·have hb1':=eq_true hb1;have qe:=aI qR (aI @hx (aI @hb1' @decide_true));repeat' first|refine gC ?_ ?_<;>intro hc<;>try contradiction|(show zp _ _ _ _ (⟨_,.callv,_,_,_⟩::_) _ _;refine ze5 (by first|rfl|(simp (disch:=omega) only [qG,qe,seval]<;>rfl)) (by simp (disch:=omega) only [qS,qe,seval]) (by simp (disch:=omega) only [qS,qe,seval]<;>rfl) (by simp (disch:=omega) only [qS,qe,seval];try trivial) rfl _ (hs') ?_;intro b;(refine zw ?_))|refine gG ?_|show AK _;intro J Z|refine gJ ?_|omega|exact aT
     ·subst hc;exact .inl rfl
     ·subst hc;exact ⟨k+1,by omega,by omega,by simp,by rw [hnx];simp,rfl⟩
    ·have hb1':=eq_false hb1;have hb2':=eq_true (show (k:Int) < zau L k by omega)
     have qe:=aI qR (aI @hx (aI @hb1' (aI @hb2' (aI @decide_true @decide_false))));repeat' first|refine gC ?_ ?_<;>intro hc<;>try contradiction|(show zp _ _ _ _ (⟨_,.callv,_,_,_⟩::_) _ _;refine ze5 (by first|rfl|(simp (disch:=omega) only [qG,qe,seval]<;>rfl)) (by simp (disch:=omega) only [qS,qe,seval]) (by simp (disch:=omega) only [qS,qe,seval]<;>rfl) (by simp (disch:=omega) only [qS,qe,seval];try trivial) rfl _ (hs') ?_;intro b;(refine zw ?_))|refine gG ?_|show AK _;intro J Z|refine gJ ?_|omega|exact aT
     ·subst hc;exact .inl rfl
     ·subst hc;exact ⟨k+1,by omega,by omega,by simp,by rw [hnx];simp,rfl⟩
   ·have hi:za7 L k=[]:=by unfold za7;rw [if_neg hb]
    rw [hi,xar] at hnx;have hb1':=eq_false (show ¬zau L k < 0 by omega)
    have hb2':=eq_false (show ¬(k:Int) < zau L k by omega)
    have qe:=aI qR (aI @hx (aI @hb1' (aI @hb2' @decide_false)));repeat' first|refine gC ?_ ?_<;>intro hc<;>try contradiction|(show zp _ _ _ _ (⟨_,.callv,_,_,_⟩::_) _ _;refine zbn (q:=(.b false)) (by first|rfl|(simp (disch:=omega) only [qG,qe,seval]<;>rfl)) ?_;(try (refine zw ?_)))|refine gG ?_|show AK _;intro J Z|refine gJ ?_|omega|exact aT
    exact ⟨k+1,by omega,by omega,by simp,by rw [hnx]⟩
  ·refine gE2 ?_;have e:k=L.length:=by omega
   subst e;exact .inr rfl
abbrev zsS (x:Nat × Int):List PV:=[.i .i64 (x.1:Int),.i .i64 x.2]
def zeX (u:Unt):List (Nat × Int):=(0,u.1)::if u.2 < 0 then [] else [(1,u.2)]
def zmx (u:Unt):Pure prog 169 [unP u] (.fn (.func 217) [] [.ip (unP u) 0]):=by
 refine pz func169 f169.eq_1 λhw X hX=>?_
 have qe:=@qR;exact gD2
def zm1 (u:Unt) (h:0<=u.1):zsz prog 217 [.ip (unP u) 0] ((zeX u).map zsS):=by
 refine ziM (cF func217 f217.eq_1) (by simp) λhw X hX=>?_
 simp only [zch];have qe:=@qR;refine gE2 ?_;refine zh (κ:=Nat) (λk=>⟨[(0,.yield),(1,.p (.ip (unP u) 0)),(5,.p (unP u)),(6,.p (.i .i64 k))],[],((zeX u).take k).map zsS,false⟩) (λk=>k<=2) (λk=>2 - k) 0 ?_ ?_ ?_
 ·exact sS
 ·simp
 ·intro k hk;refine gH (λhc=>?_) λhc=>?_
  ·rcases (show k=0\/k=1 by omega) with rfl|rfl
   ·have hs':(zeX u).map zsS=((zeX u).take 0).map zsS++zsS (0,u.1)::((zeX u).drop 1).map zsS:=by unfold zeX;simp
    have hb:=eq_true h;have qe:=aI qR (aI @hb @decide_true);repeat' first|refine gC ?_ ?_<;>intro hc<;>try contradiction|(show zp _ _ _ _ (⟨_,.callv,_,_,_⟩::_) _ _;refine ze5 (by first|rfl|(simp (disch:=omega) only [qG,qe,seval]<;>rfl)) (by simp (disch:=omega) only [qS,qe,seval]) (by simp (disch:=omega) only [qS,qe,seval]<;>rfl) (by simp (disch:=omega) only [qS,qe,seval];try trivial) rfl _ (hs') ?_;intro b;(refine zw ?_))|refine gG ?_|show AK _;intro J Z|refine gJ ?_|omega|exact aT
    ·subst hc;exact .inl rfl
    ·subst hc;exact ⟨1,by omega,by omega,by simp,by simp [zeX],rfl⟩
   ·by_cases h2:u.2 < 0
    ·have hb:=eq_false (show ¬0<=u.2 by omega)
     have qe:=aI qR (aI @hb @decide_false);repeat' first|refine gC ?_ ?_<;>intro hc<;>try contradiction|(show zp _ _ _ _ (⟨_,.callv,_,_,_⟩::_) _ _;refine zbn (q:=(.b false)) (by first|rfl|(simp (disch:=omega) only [qG,qe,seval]<;>rfl)) ?_;(try (refine zw ?_)))|refine gG ?_|show AK _;intro J Z|refine gJ ?_|omega|exact aT
     exact ⟨2,by omega,by omega,by simp,by simp [zeX,h2]⟩
    ·have hb:=eq_true (show 0<=u.2 by omega)
     have hs':(zeX u).map zsS=((zeX u).take 1).map zsS++zsS (1,u.2)::[]:=by unfold zeX;rw [if_neg h2];simp
     have qe:=aI qR (aI @hb @decide_true);repeat' first|refine gC ?_ ?_<;>intro hc<;>try contradiction|(show zp _ _ _ _ (⟨_,.callv,_,_,_⟩::_) _ _;refine ze5 (by first|rfl|(simp (disch:=omega) only [qG,qe,seval]<;>rfl)) (by simp (disch:=omega) only [qS,qe,seval]) (by simp (disch:=omega) only [qS,qe,seval]<;>rfl) (by simp (disch:=omega) only [qS,qe,seval];try trivial) rfl _ (hs') ?_;intro b;(refine zw ?_))|refine gG ?_|show AK _;intro J Z|refine gJ ?_|omega|exact aT
     ·subst hc;exact .inl rfl
     ·subst hc;exact ⟨2,by omega,by omega,by simp,by simp [zeX,h2],rfl⟩
  ·refine gE2 ?_;have e:k=2:=by omega
   subst e;exact .inr (by unfold zeX;split<;>simp)
def zuf (w:Wis) (h12:zfI w=0->zg2 w.req.minute w.ear w.lat w.step<=12):Pure prog 62 [w.pv] (.tup [.sl 1 ((if zfI w=0 then zac w else []).map (.i .i64)),.i .i64 (zfI w)]):=by
 refine pz func62 f62.eq_1 λhw X hX=>?_
 by_cases h:zfI w=0
 ·have h':=eq_true h;have qe:=aI qR @h';have jA:=zev w;have jB:=zcW w h (h12 h);refine gE2 ?_
  all_goals first|exact .refl _|(simp only [h];exact .refl _)
 ·have h':=eq_false h;have qe:=aI qR @h';have jA:=zev w;refine gE2 ?_
  all_goals exact zdc (.nilsl _) (.refl _)
def zt0 (L:List Int) (m:Int):Pure prog 178 [.sl 1 (L.map (.i .i64)),.i .i64 m] (.i .i64 (zdG (λx=>decide (x=m)) L)):=by
 refine pz func178 f178.eq_1 λhw X hX=>?_
 simp only [wfs,PV.wf,xaf,maxLen] at hw;refine gE2 ?_;refine zh (κ:=Nat) (λi=>⟨[(0,.p (.sl 1 (L.map (.i .i64)))),(1,.p (.i .i64 m)),(7,.p (.i .i64 L.length)),(8,.p (.i .i64 i))],[],[],false⟩) (λi=>i<=L.length/\∀ y ∈ L.take i,(λx=>decide (x=m)) y=false) (λi=>L.length - i) 0 ?_ ?_ ?_
 ·exact sR
 ·simp
 ·intro i hi;refine gH (λhc=>?_) λhc=>?_
  ·obtain ⟨y,hy⟩:=zj (i:=i) (l:=L) (by omega)
   have qe:=aI qR @hy;refine gF2 (λhc=>?_) λhc=>?_
   ·rw [zbe hi.2 hy (by simp;omega)];exact .refl _
   ·exact ⟨i+1,⟨by omega,zd1 hi.2 hy (by simp;omega)⟩,by omega,by simp⟩
  ·refine gE2 ?_;have e:i=L.length:=by omega
   subst e;rw [zct (λy hy=>hi.2 y (by rw [xas (by simp)];exact hy))];exact .refl _
def zid (L:List Int) (m:Int):Pure prog 104 [.sl 1 (L.map (.i .i64)),.i .i64 m] (.b (decide (m ∈ L))):=by
 have hd:decide (0<=zdG (λx=>decide (x=m)) L)=decide (m ∈ L):=by
  rw [zeG,xbG,xaV,decide_eq_true_iff];exact ⟨λ⟨x,h1,h2⟩=>by rw [<-of_decide_eq_true h2];exact h1,λh=>⟨m,h,by simp⟩⟩
 refine pz func104 f104.eq_1 λhw X hX=>?_
 have qe:=aI qR @hd;have jA:=zt0 L m;exact gD2
section
variable {f:Nat} {cs:List PV} {c:OptN->OptN->Int}
def zaO (hs:SW (zaJ c)) (L:List OptN):zz c L=zcl (zaJ c) L:=zd8 hs L
def zkD (hf:∀ a b:OptN,Pure prog f ([]++[a.pv,b.pv]++cs) (.i .i64 (c a b))) {D D':List OptN} (P L S:List OptN) (hN:D.length=N) (hD:D=P++(L++S)) (hD':D'=P++(zz c L++S)) (a b:Int) (ha:a=(P.length:Nat)) (hb:b=(P.length+L.length:Nat)) (hn:N<=1000000) :
  zbk prog 262 [.row 900 N,.p (.i .i64 a),.p (.i .i64 b),.p (.fn (.func f) [] cs)] [(900,.row 152 2 (D.map OptN.pv) false)] (.p (.tup [])) [(900,.row 152 2 (D'.map OptN.pv) false)]:=by
 subst ha hb;have hlen:N=P.length+(L.length+S.length):=by rw [<-hN,hD];simp only [xad]
 have hlen':D'.length=N:=by rw [hD',hlen];simp only [xad,zu]
 have hq:∀ {X:List OptN},X.length=L.length->(P++(X++S)).length=N:=fun {X} h=>by simp only [xad,h];omega
 refine zD (cF func262 f262.eq_1) (by simp) (by simp [scPs,scP,zm,hN]) (by simp [scObj]) ⟨rfl,trivial⟩ (by simp [scObj]) (by simp [zcQ,zm,hN,hlen']) λX hX=>?_
 unfold zx ghO;have qe:=aI qR @gLV.eq_2;refine gE2 ?_;refine zh (κ:=Nat) (λi=>⟨[(0,.row 900 N),(1,.p (.i .i64 (P.length:Nat))),(2,.p (.i .i64 (P.length+L.length:Nat))),(3,.p (.fn (.func f) [] cs)),(8,.p (.i .i64 (P.length+i:Nat))),(1000900,.row 900 N)],[(900,.row 152 2 ((P++(zeO c L i++S)).map OptN.pv) false)],[],false⟩) (λi=>1<=i/\(i<=L.length\/i=1)) (λi=>L.length - i) 1 ?_ ?_ ?_
 ·simp only [qS,seval,gLV.eq_2]<;>simp [zlX,hD,hlen]
 ·simp
 ·intro i hi;have hdl:=zbs (c:=c) hi.2;have hdN:=hq hdl
  by_cases hlt:i < L.length
  ·obtain ⟨x,hx⟩:=zj (i:=i) (l:=L) hlt;have hlt':(((P.length+i:Nat):Int) < (P.length+L.length:Nat))=True:=eq_true (by omega)
   have qe:=aI qR (aI @hdN @hlt');refine gE2 ?_;have hol:=zdE (c:=c) (L:=L) (k:=i) (by omega)
   refine zh (κ:=Nat) (λj=>⟨[(0,.row 900 N),(1,.p (.i .i64 (P.length:Nat))),(2,.p (.i .i64 (P.length+L.length:Nat))),(3,.p (.fn (.func f) [] cs)),(8,.p (.i .i64 (P.length+i:Nat))),(9,.p (.i .i64 (P.length+j:Nat))),(1000900,.row 900 N)],[(900,.row 152 2 ((P++(djP (zdW c L i) x (L.drop (i+1)) j++S)).map OptN.pv) false)],[],false⟩) (λj=>j<=i/\zaV (zaJ c) x (zdW c L i) j=zaV (zaJ c) x (zdW c L i) i) (λj=>j) i ?_ ?_ ?_
   ·refine gJ ?_;simp [zgU hx,hdN];exact xb7 (by rw [<-hdN];simp only [xad])
   ·simp
   ·intro j hj;have hjl:(djP (zdW c L i) x (L.drop (i+1)) j).length=L.length:=by rw [zfg (by omega),hol,xav];omega
    have hjN:=hq hjl;cases j with
    | zero=>
     have i0:(((P.length:Nat):Int) < ((P.length+0:Nat):Int))=False:=eq_false (by omega)
     have qe:=aI qR (aI @i0 (aI @hjN (aI @rtN @rtR)));repeat' first|refine gC ?_ ?_<;>intro hc<;>try contradiction|(show zp _ _ _ _ (⟨_,.callv,_,_,_⟩::_) _ _;refine zbn (q:=(.i .i64 0)) (by first|rfl|(simp (disch:=omega) only [qG,qe,seval]<;>rfl)) ?_;(try (refine zw ?_)))|refine gG ?_|show AK _;intro J Z|refine gJ ?_|omega|exact aT
     exact ⟨i+1,by omega,by omega,by simp only [LV.p.injEq,PV.i.injEq,true_and];omega,by rw [zdJ (j:=0) hx hj.2],by rw [zbs (by omega)];omega⟩
    | succ j=>
     have i0:(((P.length:Nat):Int) < ((P.length+(j+1):Nat):Int))=True:=eq_true (by omega)
     have i1:(((P.length+(j+1):Nat):Int) - 1).toNat=P.length+j:=by omega
     obtain ⟨y,hy⟩:=zj (i:=j) (l:=zdW c L i) (by omega)
     obtain ⟨h1,h2⟩:=zrF (x:=x) (rest:=L.drop (i+1)) hy;have g1:=zae P (djP (zdW c L i) x (L.drop (i+1)) (j+1)) S (j:=j) (by omega)
     have g2:=zae P (djP (zdW c L i) x (L.drop (i+1)) (j+1)) S (j:=j+1) (by omega)
     rw [h1] at g1;rw [h2] at g2
     by_cases hcc:c x y < 0
     ·have hc':=eq_true hcc;have h3:=ziP hy hcc;have g3:((P++(djP (zdW c L i) x (L.drop (i+1)) (j+1)++S)).set (P.length+(j+1)) y).set (P.length+j) x=P++(djP (zdW c L i) x (L.drop (i+1)) j++S):=by
       rw [za6 _ _ _ _ (by omega),za6 _ _ _ _ (by rw [xbQ];omega),zi0 hy]
      have qe:=aI qR (aI @i0 (aI @i1 (aI @g1 (aI @g2 (aI @hjN (aI @hc' (aI @rtN @rtR)))))));have jA:=hf x y;refine gE2 ?_;exact ⟨j,⟨by omega,by rw [<-h3];exact hj.2⟩,by omega,by simp only [LV.p.injEq,PV.i.injEq,true_and];omega,by rw [<-g3,xbf,xbf],by rw [zfg (by omega),hol,xav];omega⟩
     ·have hc':=eq_false hcc;have h3:=zfc hy hcc;have qe:=aI qR (aI @i0 (aI @i1 (aI @g1 (aI @g2 (aI @hjN (aI @hc' (aI @rtN @rtR)))))));have jA:=hf x y;refine gE2 ?_;exact ⟨i+1,by omega,by omega,by simp only [LV.p.injEq,PV.i.injEq,true_and];omega,by rw [zdJ hx (h3.symm.trans hj.2)],by rw [zbs (by omega)];omega⟩
  ·have hlt':(((P.length+i:Nat):Int) < (P.length+L.length:Nat))=False:=eq_false (by omega)
   have qe:=aI qR (aI @hdN (aI @hlt' (aI @rtN @rtR)));refine gE2 ?_;rw [zgW c L (by omega),<-hD']
   exact .inl (.mk0 (h2:=by simp only [qS,seval,keepG.eq_1,keepG.eq_2,gLV.eq_2]<;>simp [hN]))
def Wdo (c:OptN->OptN->Int) (w:Nat) (R:List OptN):List OptN:=if h:R.length<=w\/w=0 then zz c R else zz c (R.take w)++Wdo c w (R.drop w)
termination_by R.length
decreasing_by simp only [xav];omega
def zbT {R:List OptN} (h:R.length<=w):Wdo c w R=zz c R:=by rw [Wdo,dif_pos (.inl h)]
def zdQ {R:List OptN} (hw:0 < w) (h:w<=R.length):Wdo c w R=zz c (R.take w)++Wdo c w (R.drop w):=by
 by_cases e:R.length=w
 ·rw [zbT (by omega),xas (by omega),xbD (by omega),zbT (by simp)]
  show _=_++[];rw [xar]
 ·rw [Wdo,dif_neg (by omega)]
def zfk (hw:0 < w) (R:List OptN):(Wdo c w R).length=R.length:=by
 generalize hn:R.length=n
 induction n using Nat.strongRecOn generalizing R with
 | _ n ih=>
  by_cases h:R.length<=w
  ·rw [zbT h,zu,hn]
  ·rw [zdQ hw (by omega),xad,zu,ih (R.drop w).length (by rw [xav];omega) _ rfl,xan,xav];omega
def zjy (hs:SW (zaJ c)) (R:List OptN) (w:Nat):mrg (zaJ c) (zz c (R.take w)) (zz c (R.drop w))=zz c R:=by
 rw [zaO hs,zaO hs,zaO hs,<-zeE hs,xaq]
end
end Go.Proofs.YtbgckikhhcbmpaaGreat
