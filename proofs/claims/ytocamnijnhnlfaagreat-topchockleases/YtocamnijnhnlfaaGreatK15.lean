/- Contracts of functions, for the claim. No conditions. -/
import Derived.Test.YtocamnijnhnlfaaGreatK7
import Derived.Test.YtocamnijnhnlfaaGreatK4
import Derived.Test.YtocamnijnhnlfaaGreatK9
import Derived.Test.YtocamnijnhnlfaaGreatK8
import Derived.Test.YtocamnijnhnlfaaGreatK12
import Derived.Test.YtocamnijnhnlfaaGreatK11
import Derived.Test.YtocamnijnhnlfaaGreatK13
import Derived.Test.YtocamnijnhnlfaaGreatK10
import Derived.Test.YtocamnijnhnlfaaGreatK14
set_option linter.all false
set_option maxHeartbeats 8000000
set_option maxRecDepth 100000
namespace Go.Proofs.YtocamnijnhnlfaaGreat
open Go.RowKit Go.Proofs.Tryz
theorem znx {α:Type} (p:α->Bool):∀ l:List α,decide (0<=zct p l)=l.any p
 | []=>rfl
 | x::r=>by
  have ih:=znx p r
  by_cases h:p x=true
  ·simp [zct,h]
  ·simp only [zct,if_neg h,List.any_cons,<-ih];rw [xcn] at h;rw [h,xbJ]
   by_cases h2:zct p r < 0
   ·rw [if_pos h2,decide_eq_false (by omega),decide_eq_false (by omega)]
   ·rw [if_neg h2,decide_eq_true (by omega),decide_eq_true (by omega)]
def zrR {α:Type} (f:α->PV) (l:List α) (a:Option Addr) (c:Nat):PV.rs a l.length c=PV.rs a (l.map f).length c:=by rw [xaf]
def zwQ (a:Option Addr) (n c:Nat):(PV.rs a n c).cells=[.rs a n c]:=rfl
def zAU {cf:Nat} {caps:List PV} (b:Bk) (c n:ByteArray) (e ce:Int) (hb:zeG b) (h:zd2 b c n e≠0):Pure prog 90 [b.pv,.s c,.s n,.i .i64 e,.fn (.func cf) [] caps] (.tup [bk0.pv,.i .i64 (zfT b c n e ce)]):=by
 have hC:zfT b c n e ce≠0:=by rw [zfT,zE h];exact h
 have:=zmW (caps:=caps) (cf:=cf) b c n e ce (b.slots.map Slt.pv) hb (by simp) (λk=>absurd k h)
 rw [if_neg hC] at this;exact zb9 this (zdL _)
def zAT {b:Bk} {c n:ByteArray} {e ce:Int} (h:zd2 b c n e=0):zfT b c n e ce=ce:=by rw [zfT,zt h,z9]
def zDU (a b:Lea):Int:=zeC a.fro b.fro
def zgm (l o:Lea):Bool:=decide (o.fro<=l.to) && decide (l.fro<=o.to)
def zvj (o l:Lea):Pure prog 121 [o.pv,.ip l.pv 0] (.b (zgm l o)):=by
 refine pz func121 f121.eq_1 λhw X hX=>?_
 by_cases h:o.fro<=l.to
 ·have h1:=eq_true h;have e:zgm l o=decide (l.fro<=o.to):=by simp [zgm,h]
  rw [e];have qe:=aI qR (aI @h1 @decide_true);exact gD0
 ·have h1:=eq_false h;have e:zgm l o=false:=by simp [zgm,h]
  rw [e];have qe:=aI qR (aI @h1 @decide_false);exact gD0
def zvi (a b:Lea):Pure prog 124 [a.pv,b.pv] (.i .i64 (zDU a b)):=by
 refine pz func124 f124.eq_1 λhw X hX=>?_
 have qe:=@qR;have jA:=λu1 u2=>zgd u1 u2;exact gD2
def meetL (s:Slt) (l:Lea):Bool:=s.ls.any (zgm l)
def zmU (L:List Lea) (l:Lea):Pure prog 120 [.sl 3 (L.map Lea.pv),.fn (.func 121) [] [.ip l.pv 0]] (.b (L.any (zgm l))):=by
 have h1240:=zva (f:=121) (caps:=[.ip l.pv 0]) (L:=L) (p:=zgm l) λw _=>zvj w l
 have e:=znx (zgm l) L;refine pz func120 f120.eq_1 λhw X hX=>?_
 repeat' first|refine gC ?_ ?_<;>intro hc<;>try contradiction|refine za (h1240) ?_|refine gG ?_|show AK _;intro J Z|refine gJ ?_|omega|exact aT
 rw [e];exact .refl _
def lnE (s:Slt) (l:Lea):Int:=zf [zbw s.raw l,if meetL s l=true then 15 else 0,if 8<=(s.ls.length:Int) then 5 else 0]
def lnL (s:Slt) (l:Lea):List Lea:=zbt zDU (s.ls++[l])
def lnS (s:Slt) (l:Lea):Slt:=⟨s.req,s.holder,lnL s l,s.sh⟩
def ztj (P:List PV) (i0:Nat) (hi:i0 < P.length) (s:Slt) (l:Lea) (hok:zk4 s) (h:lnE s l≠0) (i:HD):ActsE prog 119 [.ep 900 P.length i0 0,.p (.ip l.pv 0)] [(900,.row 89 16 (P.set i0 (slL s i)) false),(901,.hrow 86 3 (s.ls.map Lea.pv) i.1 i.2)] (λ_=>.p (.i .i64 (lnE s l)))
  (λj=>[(900,.row 89 16 (P.set i0 (slL s j)) false),(901,.hrow 86 3 (s.ls.map Lea.pv) j.1 j.2)]):=by
 have hg:=λa=>zdX P i0 a hi
 have hx:(zf [zbw s.raw l,if s.ls.any (zgm l)=true then 15 else 0,if 8<=(s.ls.length:Int) then 5 else 0]=0)=False:=eq_false h
 have hlo:zbw ⟨s.req,s.holder,.rs i.1 s.ls.length i.2,.sl 1 (s.sh.map .s)⟩ l=zbw s.raw l:=rfl;have h1177:=ziG l ⟨s.req,s.holder,.rs i.1 s.ls.length i.2,.sl 1 (s.sh.map .s)⟩;rw [hlo] at h1177;obtain ⟨hok,_⟩:=hok;refine zeE (cF func119 f119.eq_1) (by simp) (by simp [scPs,scP,zp]) (by simp [scObj]) ⟨rfl,rfl,trivial⟩ (λj=>by simp [scObj]) (λj=>by simp [zb1,zp]) λX hX=>?_
 unfold zA ghO;have qe:=aI qR (aI @qN (aI @gLV.eq_2 (aI @gLV.eq_5 (aI @hg @List.length_set.{0}))));repeat' first|refine gG ?_|show AK _;intro J Z|refine gJ ?_|omega|exact aT
 refine zhs 901 (hf:=zmU s.ls l) (hm:=by exact ⟨.inr ⟨zrR _ _ _ _,rfl⟩,.inl rfl,trivial⟩) (hn:=?_)
 have qe:=aI qR (aI @qN (aI @hg (aI @hx (aI @List.length_set.{0} (aI @reN @reR)))));repeat' first|refine gC ?_ ?_<;>intro hc<;>try contradiction|refine za (h1177) ?_|refine za (zaa _ _) ?_|refine za (zO [_,_,_]) ?_|refine gG ?_|show AK _;intro J Z|refine gJ ?_|omega|exact aT
 all_goals exact ⟨i,.inl (.mkE)⟩
def zrO (s:Slt) (l:Lea):(lnL s l).length=s.ls.length+1:=by rw [lnL,zK];simp
def zxe (P:List PV) (i0:Nat) (hi:i0 < P.length) (s:Slt) (l:Lea) (hok:zk4 s) (h:lnE s l=0) (i:HD):ActsE prog 119 [.ep 900 P.length i0 0,.p (.ip l.pv 0)] [(900,.row 89 16 (P.set i0 (slL s i)) false),(901,.hrow 86 3 (s.ls.map Lea.pv) i.1 i.2)] (λ_=>.p (.i .i64 0))
  (λj=>[(900,.row 89 16 (P.set i0 (slX s (.rs j.1 ((lnL s l).map Lea.pv).length j.2) (.sl 1 (s.sh.map .s)))) false),(901,.hrow 86 3 ((lnL s l).map Lea.pv) j.1 j.2)]):=by
 have hg:=λa=>zdX P i0 a hi
 have hx:(zf [zbw s.raw l,if s.ls.any (zgm l)=true then 15 else 0,if 8<=(s.ls.length:Int) then 5 else 0]=0)=True:=eq_true h
 have h8:s.ls.length < 8:=by
  have:=fE0 h (if 8<=(s.ls.length:Int) then 5 else 0) (by simp)
  by_cases h8:8<=(s.ls.length:Int)
  ·rw [if_pos h8] at this;omega
  ·omega
 have hlo:zbw ⟨s.req,s.holder,.rs i.1 s.ls.length i.2,.sl 1 (s.sh.map .s)⟩ l=zbw s.raw l:=rfl;have h1177:=ziG l ⟨s.req,s.holder,.rs i.1 s.ls.length i.2,.sl 1 (s.sh.map .s)⟩;rw [hlo] at h1177;have hsrt:=zxd zvi (s.ls++[l]) (by simp;omega)
 have hln:=zrO s l;rw [lnL] at hln;obtain ⟨hok,_⟩:=hok;refine zeE (cF func119 f119.eq_1) (by simp) (by simp [scPs,scP,zp]) (by simp [scObj]) ⟨rfl,rfl,trivial⟩ (λj=>by simp [scObj]) (λj=>by simp [zb1,zp]) λX hX=>?_
 unfold zA ghO;have qe:=aI qR (aI @qN (aI @gLV.eq_2 (aI @gLV.eq_5 (aI @hg @List.length_set.{0}))));repeat' first|refine gG ?_|show AK _;intro J Z|refine gJ ?_|omega|exact aT
 refine zhs 901 (hf:=zmU s.ls l) (hm:=by exact ⟨.inr ⟨zrR _ _ _ _,rfl⟩,.inl rfl,trivial⟩) (hn:=?_)
 have qe:=aI qR (aI @qN (aI @hg (aI @hx (aI @List.length_set.{0} (aI @reN @reR)))));repeat' first|refine za (h1177) ?_|refine za (zaa _ _) ?_|refine za (zO [_,_,_]) ?_|refine gG ?_|show AK _;intro J Z|refine gJ ?_|omega|exact aT
 have qe:=@hx;(refine gC ?_ ?_<;>intro hc<;>try contradiction)
 refine zmE ?_;refine (show Run _ (.seq (.ops true _) _) _ _ from zeP (zqz Mx.h rfl 8 (by decide) rfl ?_))
 simp only [xby,xcf,xbW,xb3];refine zbQ 7 ?_;simp only [xby,xcf,xbW,xb3];have qe:=aI qR (aI @qN (aI @hg @List.length_set.{0}));repeat' first|refine gC ?_ ?_<;>intro hc<;>try contradiction|refine gG ?_|show AK _;intro J Z|refine gJ ?_|omega|exact aT
 refine zqG 901 s.ls.length (xs:=s.ls.map Lea.pv) (by simp) (h3:=by simp;omega) (h:=?_)
 refine (show zcR _=true/\zj _ _ _ _ _ _ _ from ⟨rfl,?_⟩)
 refine zbc (zew 901 (e:=86) (sz:=3) (xs:=s.ls.map Lea.pv++[l.pv]) rfl (λa0 c0=>[(0,.ep 900 P.length i0 0),(31,.ep 900 P.length i0 0),(38,.p (.rs a0 (s.ls.map Lea.pv++[l.pv]).length c0)),(1000900,.row 900 P.length),(1000901,.any)]) (λa0 c0=>[(900,.row 89 16 (P.set i0 (slL s i)) false)]) λa0 c0=>⟨?_,?_,?_,?_⟩) ?_
 ·exact ⟨.inl rfl,.inl rfl,.inr ⟨_,.inl (.inr ⟨rfl,rfl⟩),rfl⟩,.inl rfl,.inl rfl,trivial⟩
 ·exact ⟨.inl rfl,trivial⟩
 ·simp [scEnv,scP,zp]
 ·simp [scObj,scPs,scP,zp]
 rintro _ ⟨a0,c0,rfl⟩;refine (show zj _ _ _ _ _ (St.mk _ _ [] false) _ from zB ?_)
 have hmp:(s.ls++[l]).map Lea.pv=s.ls.map Lea.pv++[l.pv]:=by simp
 have hml:(s.ls.map Lea.pv++[l.pv]).length=(s.ls++[l]).length:=by simp
 rw [hml];rw [<-hmp];have h1178:=zwY a0 c0 hsrt (by simp [zK]) (args':=[.p (.rs a0 (s.ls++[l]).length c0),.p (.fn (.func 124) [] [])]) ⟨.inr ⟨by rw [xaf],by rw [xaf]⟩,.inl ⟨_,rfl,rfl⟩,trivial⟩
 have hl1:(s.ls++[l]).length=s.ls.length+1:=by simp
 rw [hl1] at h1178 ⊢;have qe:=aI qR (aI @qN (aI @hg (aI @zwQ (aI @zgq (aI @List.set_set.{0} (aI @List.length_set.{0} (aI @reN @reR)))))));repeat' first|refine gC ?_ ?_<;>intro hc<;>try contradiction|refine zo [(900,901)] (h1178) ?_|refine gG ?_|show AK _;intro J Z|refine gJ ?_|omega|exact aT
 simp only [zrO];exact ⟨(a0,c0),.inl (.mkE)⟩
def lnC (b:Bk) (c n:ByteArray) (l:Lea):Int:=zfT b c n (zav l) (lnE (zl b n) l)
def lnB (b:Bk) (c n:ByteArray) (l:Lea):Bk:=if lnC b c n l=0 then zfU b n (lnS (zl b n) l) else bk0
def zzM {b:Bk} {c n:ByteArray} {l:Lea} (h:lnC b c n l≠0):lnB b c n l=bk0:=if_neg h
def zCT (b:Bk) (c n:ByteArray) (l:Lea) (hb:zeG b):Pure prog 90 [b.pv,.s c,.s n,.i .i64 (zav l),.fn (.func 119) [] [.ip l.pv 0]] (.tup [(lnB b c n l).pv,.i .i64 (lnC b c n l)]):=by
 by_cases hown:zd2 b c n (zav l)=0
 ·have hC:lnC b c n l=lnE (zl b n) l:=zAT hown;have hsl:=zCv hown;have hok:=zmD hb hsl;have hi:zD b n < b.slots.length:=(xaa.1 hsl).1;have hi':zD b n < (b.slots.map Slt.pv).length:=by simpa using hi
  by_cases hE:lnE (zl b n) l=0
  ·have hf:=λi=>zxe (b.slots.map Slt.pv) (zD b n) hi' (zl b n) l hok hE i
   rw [show (b.slots.map Slt.pv).length=b.slots.length from xaf ..] at hf
   have h:=znN (cf:=119) (caps:=[.ip l.pv 0]) (λi=>.rs i.1 (zl b n).ls.length i.2) (λ_=>.sl 1 ((zl b n).sh.map .s)) _ (slX (zl b n) (.sl 3 ((lnL (zl b n) l).map Lea.pv)) (.sl 1 ((zl b n).sh.map PV.s))) b c n (zav l) 0 hb (λ_=>⟨rfl,rfl⟩) hown (zh9 (zl b n) hok) hf λj=>.inr ⟨_,_,rfl,rfl,.inl rfl,.inl rfl,.inl rfl,.inl rfl,.inl rfl,.inl rfl,.inl rfl,.inl rfl,.inl rfl,.inl rfl,.inl rfl,.inl rfl,.inl rfl,.inl rfl,.inr ⟨rfl,rfl⟩,.inl rfl,trivial⟩
   rw [if_pos rfl] at h;have hB:lnB b c n l=zfU b n (lnS (zl b n) l):=by rw [lnB,hC,if_pos hE]
   rw [hC,hE,hB,zfU];show Pure _ _ _ (.tup [.agg [.sl 16 ((b.slots.set (zD b n) (lnS (zl b n) l)).map Slt.pv),.sl 14 (b.wait.map Wsh.pv)],.i .i64 0]);rw [xa2];exact h
  ·have hf:=λi=>ztj (b.slots.map Slt.pv) (zD b n) hi' (zl b n) l hok hE i
   rw [show (b.slots.map Slt.pv).length=b.slots.length from xaf ..] at hf
   have h:=znN (cf:=119) (caps:=[.ip l.pv 0]) (λi=>.rs i.1 (zl b n).ls.length i.2) (λ_=>.sl 1 ((zl b n).sh.map .s)) _ (zl b n).pv b c n (zav l) (lnE (zl b n) l) hb (λ_=>⟨rfl,rfl⟩) hown (zh9 (zl b n) hok) hf λj=>.inr ⟨_,_,rfl,rfl,.inl rfl,.inl rfl,.inl rfl,.inl rfl,.inl rfl,.inl rfl,.inl rfl,.inl rfl,.inl rfl,.inl rfl,.inl rfl,.inl rfl,.inl rfl,.inl rfl,.inr ⟨zrR _ _ _ _,rfl⟩,.inl rfl,trivial⟩
   rw [if_neg hE] at h;rw [zzM (by rw [hC];exact hE),hC]
   exact zb9 h (zdL _)
 ·have hC:lnC b c n l≠0:=by rw [lnC,zfT,zE hown];exact hown
  rw [zzM hC];exact zAU b c n (zav l) _ hb hown
def zvt (b:Bk) (c n:ByteArray) (l:Lea) (hb:zeG b):Pure prog 61 [b.pv,.s c,.s n,l.pv] (.tup [(lnB b c n l).pv,.i .i64 (lnC b c n l)]):=by
 have hch:=zCT b c n l hb;refine pz func61 f61.eq_1 λhw X hX=>?_
 have qe:=aI qR @qN;have jA:=zmV l;have jB:=hch;exact gD2
def zvy (b:Bk) (c n:ByteArray) (l:Lea) (hb:zu b=0->zeG b):Pure prog 25 [b.pv,.s c,.s n,l.pv] (.tup [(zpG b (lnB b c n l) (lnC b c n l)).1.pv,.i .i64 (zpG b (lnB b c n l) (lnC b c n l)).2]):=by
 by_cases h:zu b=0
 ·have e1:(zu b=0)=True:=eq_true h;rw [zjr h zzM];refine pz func25 f25.eq_1 λhw X hX=>?_
  have qe:=aI qR (aI @qN @e1);have jA:=zaM b;have jB:=zvt b c n l (hb h);exact gD2
 ·have e1:(zu b=0)=False:=eq_false h;rw [zfV h];refine zb9 (r:=.tup [.agg [.nilsl,.nilsl],.i .i64 (zu b)]) ?_ (zdL _);refine pz func25 f25.eq_1 λhw X hX=>?_
  have qe:=aI qR (aI @qN @e1);have jA:=zaM b;exact gD2
open Go.RowKit Go.Proofs.Tryz Go.ChangeShapes Go.WideShapes Go.ChangeAt
def parU8:zxt prog 6 5=some (false,[.i .u8]):=by kernel_rfl
def fit_at {p:PV} (h:zg7 prog 6 5 p):∃ n:Int,p=.i .u8 n:=by
 obtain ⟨⟨ag,c,l,hp,rfl,hl⟩,hb⟩:=h;rw [parU8] at hp;simp only [xaC,xcl] at hp;obtain ⟨rfl,rfl⟩:=hp
 match l,hl with
 | [_],⟨⟨a,ha⟩,_⟩=>subst ha;exact ⟨a,rfl⟩
def parJ:zxt prog 6 29=some (true,[.i .u16,.i .i8]):=by kernel_rfl
def fit_jny {p:PV} (h:zg7 prog 6 29 p):∃ u o:Int,p=.agg [.i .u16 u,.i .i8 o]:=by
 obtain ⟨⟨ag,c,l,hp,rfl,hl⟩,hb⟩:=h;rw [parJ] at hp;simp only [xaC,xcl] at hp;obtain ⟨rfl,rfl⟩:=hp
 match l,hl with
 | [_,_],⟨⟨a,ha⟩,⟨b,hb⟩,_⟩=>subst ha hb;exact ⟨a,b,rfl⟩
open Go.RowKit Go.Proofs.Tryz
def pure4073 (b:Bk) (hb:zeG b):Pure prog 7 [b.pv] b.pv:=by
 obtain ⟨hs,hn,hw1⟩:=hb;refine pz func7 f7.eq_1 λhw X hX=>?_
 have qe:=@qR;repeat' first|refine gC ?_ ?_<;>intro hc<;>try contradiction|refine gG ?_|show AK _;intro J Z|refine gJ ?_|omega|exact aT
 refine zaf 100 89 16 [(1,.lp 1 0),(2,.lp 2 0),(3,.lp 3 0),(12,.p (.sl 16 (b.slots.map Slt.pv))),(13,.p (.i .i64 b.slots.length)),(14,.p (.i .i64 0))] [(1,.box [.p (.sl 16 (b.slots.map Slt.pv)),.p (.sl 14 (b.wait.map Wsh.pv))] false),(2,.box [.p .nilsl,.p .nilsl] false),(3,.box [.row 100 0,.p .nilsl] false)] ?_ ?_
 ·simp only [Own,zam,zaj,za8,zad,qS,seval]<;>simp
 refine zh (κ:=Nat) (λk=>⟨[(1,.lp 1 0),(2,.lp 2 0),(3,.lp 3 0),(12,.p (.sl 16 (b.slots.map Slt.pv))),(13,.p (.i .i64 b.slots.length)),(14,.p (.i .i64 k))],[(1,.box [.p (.sl 16 (b.slots.map Slt.pv)),.p (.sl 14 (b.wait.map Wsh.pv))] false),(2,.box [.p .nilsl,.p .nilsl] false),(3,.box [.row 100 k,.p .nilsl] false),(100,.row 89 16 ((b.slots.take k).map Slt.pv) false)],[],false⟩) (λk=>k<=b.slots.length) (λk=>b.slots.length - k) 0 ?_ ?_ ?_
 ·exact sS
 ·simp
 ·intro k hk;have hlk:(b.slots.take k).length=k:=by rw [xaj];omega
  repeat first|refine gG ?_|show AK _;intro J Z|refine gJ ?_|omega|exact aT
  (refine gC ?_ ?_<;>intro hc<;>try contradiction)
  ·obtain ⟨s,hx⟩:=zk (i:=k) (l:=b.slots) (by omega)
   obtain ⟨hl1,hl2⟩:=hs s (xae hx);have qe:=aI qR (aI @hx (aI @zD9 @zaC));repeat' first|refine gC ?_ ?_<;>intro hc<;>try contradiction|refine gG ?_|show AK _;intro J Z|refine gJ ?_|omega|exact aT
   refine zaf 101 86 3 [(1,.lp 1 0),(2,.lp 2 0),(3,.lp 3 0),(12,.p (.sl 16 (b.slots.map Slt.pv))),(13,.p (.i .i64 b.slots.length)),(14,.p (.i .i64 k)),(5,.lp 5 0),(6,.lp 6 0),(28,.p (.sl 3 (s.ls.map Lea.pv))),(29,.p (.i .i64 s.ls.length)),(30,.p (.i .i64 0))] [(1,.box [.p (.sl 16 (b.slots.map Slt.pv)),.p (.sl 14 (b.wait.map Wsh.pv))] false),(2,.box [.p .nilsl,.p .nilsl] false),(3,.box [.row 100 k,.p .nilsl] false),(100,.row 89 16 ((b.slots.take k).map Slt.pv) false),(5,.box (s.cells.map .p) false),(6,.box [.p (.s s.req.name),.p (.s s.req.carrier),.p (.s s.req.kind),.p (.s s.req.term),.p (.s s.req.partner),.p (.s s.req.link),.p (.i .i64 s.req.per.fro),.p (.i .i64 s.req.per.to),.p (.i .i64 s.req.per.days),.p (.i .i64 s.req.minute),.p (.i .i64 s.req.seats),.p (.i .i64 s.req.size),.p (.i .i64 s.req.noise),.p (.s s.holder),.row 101 0,.row 22 s.sh.length] false),(22,.row 9 1 (s.sh.map .s) false)] ?_ ?_
   ·simp only [Own,zam,zaj,za8,zad,qS,seval]<;>simp [hlk]
   refine zh (κ:=Nat) (λi=>⟨[(1,.lp 1 0),(2,.lp 2 0),(3,.lp 3 0),(12,.p (.sl 16 (b.slots.map Slt.pv))),(13,.p (.i .i64 b.slots.length)),(14,.p (.i .i64 k)),(5,.lp 5 0),(6,.lp 6 0),(28,.p (.sl 3 (s.ls.map Lea.pv))),(29,.p (.i .i64 s.ls.length)),(30,.p (.i .i64 i))],[(1,.box [.p (.sl 16 (b.slots.map Slt.pv)),.p (.sl 14 (b.wait.map Wsh.pv))] false),(2,.box [.p .nilsl,.p .nilsl] false),(3,.box [.row 100 k,.p .nilsl] false),(100,.row 89 16 ((b.slots.take k).map Slt.pv) false),(5,.box (s.cells.map .p) false),(6,.box [.p (.s s.req.name),.p (.s s.req.carrier),.p (.s s.req.kind),.p (.s s.req.term),.p (.s s.req.partner),.p (.s s.req.link),.p (.i .i64 s.req.per.fro),.p (.i .i64 s.req.per.to),.p (.i .i64 s.req.per.days),.p (.i .i64 s.req.minute),.p (.i .i64 s.req.seats),.p (.i .i64 s.req.size),.p (.i .i64 s.req.noise),.p (.s s.holder),.row 101 i,.row 22 s.sh.length] false),(22,.row 9 1 (s.sh.map .s) false),(101,.row 86 3 ((s.ls.take i).map Lea.pv) false)],[],false⟩) (λi=>i<=s.ls.length) (λi=>s.ls.length - i) 0 ?_ ?_ ?_
   ·refine gJ ?_;simp [hlk]
   ·simp
   ·intro i hi;have hli:(s.ls.take i).length=i:=by rw [xaj];omega
    repeat first|refine gG ?_|show AK _;intro J Z|refine gJ ?_|omega|exact aT
    (refine gC ?_ ?_<;>intro hc<;>try contradiction)
    ·obtain ⟨x,hx2⟩:=zk (i:=i) (l:=s.ls) (by omega)
     have qe:=aI qR (aI @hx2 (aI @hli @hlk));repeat' first|refine gC ?_ ?_<;>intro hc<;>try contradiction|refine gG ?_|show AK _;intro J Z|refine gJ ?_|omega|exact aT
     exact ⟨i+1,by omega,by omega,by simp,⟨rfl,by rw [zM hx2];simp⟩,by simp;omega⟩
    ·have e:i=s.ls.length:=by omega
     subst e;refine zio ?_;refine (show Run _ (.ops false _) _ _ from zeQ (zbQ 3 ?_))
     simp only [xby,xcf,xbW,xb3];have qe:=aI qR (aI @zaC (aI @hlk @List.take_length.{0}));repeat' first|refine gC ?_ ?_<;>intro hc<;>try contradiction|refine gG ?_|show AK _;intro J Z|refine gJ ?_|omega|exact aT
     refine zbc (zgE 43 s.pv (by simp only [qS,seval,zaC]<;>rfl) (by first|trivial|simp) (.refl _)) ?_
     rintro _ rfl;refine zB ?_;have qe:=aI qR @hlk;repeat' first|refine gC ?_ ?_<;>intro hc<;>try contradiction|refine gG ?_|show AK _;intro J Z|refine gJ ?_|omega|exact aT
     exact ⟨k+1,by omega,by omega,by simp,⟨rfl,by rw [zM hx];simp⟩,by simp;omega⟩
  ·have e:k=b.slots.length:=by omega
   subst e;have qe:=aI qR @List.take_length.{0};repeat' first|refine gC ?_ ?_<;>intro hc<;>try contradiction|refine gG ?_|show AK _;intro J Z|refine gJ ?_|omega|exact aT
   refine zaf 102 92 14 [(2,.lp 2 0),(3,.lp 3 0),(49,.p (.sl 14 (b.wait.map Wsh.pv))),(50,.p (.i .i64 b.wait.length)),(51,.p (.i .i64 0))] [(1,.box [.p (.sl 16 (b.slots.map Slt.pv)),.p (.sl 14 (b.wait.map Wsh.pv))] false),(2,.box [.p .nilsl,.p .nilsl] false),(3,.box [.row 100 b.slots.length,.row 102 0] false),(100,.row 89 16 (b.slots.map Slt.pv) false)] ?_ ?_
   ·simp only [Own,zam,zaj,za8,zad,qS,seval]<;>simp
   refine zh (κ:=Nat) (λk=>⟨[(2,.lp 2 0),(3,.lp 3 0),(49,.p (.sl 14 (b.wait.map Wsh.pv))),(50,.p (.i .i64 b.wait.length)),(51,.p (.i .i64 k))],[(1,.box [.p (.sl 16 (b.slots.map Slt.pv)),.p (.sl 14 (b.wait.map Wsh.pv))] false),(2,.box [.p .nilsl,.p .nilsl] false),(3,.box [.row 100 b.slots.length,.row 102 k] false),(100,.row 89 16 (b.slots.map Slt.pv) false),(102,.row 92 14 ((b.wait.take k).map Wsh.pv) false)],[],false⟩) (λk=>k<=b.wait.length) (λk=>b.wait.length - k) 0 ?_ ?_ ?_
   ·exact sS
   ·simp
   ·intro k hk2;have hl2:(b.wait.take k).length=k:=by rw [xaj];omega
    repeat first|refine gG ?_|show AK _;intro J Z|refine gJ ?_|omega|exact aT
    (refine gC ?_ ?_<;>intro hc<;>try contradiction)
    ·obtain ⟨w,hx2⟩:=zk (i:=k) (l:=b.wait) (by omega)
     have qe:=aI qR (aI @hx2 @hl2);repeat' first|refine gC ?_ ?_<;>intro hc<;>try contradiction|refine gG ?_|show AK _;intro J Z|refine gJ ?_|omega|exact aT
     exact ⟨k+1,by omega,by omega,by simp,⟨rfl,by rw [zM hx2];simp⟩,by simp;omega⟩
    ·have e2:k=b.wait.length:=by omega
     subst e2;have qe:=aI qR (aI @zaC @List.take_length.{0});exact gD0
def lsS (s:Slt) (R:List Lea):Slt:=⟨s.req,s.holder,R,s.sh⟩
def lsB (b:Bk) (i:Nat) (s:Slt) (R:List Lea):Bk:=⟨b.slots.set i (lsS s R),b.wait⟩
def zul {s:Slt} {x:Lea} {R:List Lea} (hs:s.ls=x::R) (hx:x.fro<=x.to):zqP s x.fro=0/\zto s x.fro=lsS s R:=by
 have hI:zpI s x.fro=((0:Nat):Int):=by
  show zct (zum x.fro) s.ls=_;rw [hs];exact zaX (x:=x) (λy hy=>by simp at hy) rfl (by simp [zum,hx])
 refine ⟨by rw [zqP,hI,if_neg (by omega)],?_⟩
 have t4:zdQ (x.fro - 1) [x]=[]:=by rw [zdQ,xaH,xbn,xat,zhd,if_neg (by omega)]
 have hL:zun s x.fro=R:=by
  rw [zun,hI,xbz,hs];show ([]:List Lea)++(zdQ (x.fro - 1) [x]++R)=R;rw [t4];rfl
 rw [zto,hL];rfl
def zxx {b:Bk} (h:zu b=0) {i:Nat} {s:Slt} (hs:b.slots[i]?=some s) {e:Int} (he:e=0):zd2 b s.holder s.req.name e=0:=by
 obtain ⟨_,s2,s3⟩:=zf4 h hs;have hv:=zh4 h (xae hs);have hn:zy s.holder=0:=fE0 hv _ (by simp)
 have hf:zdN b.slots s.req.name=0:=by rw [zdN,if_neg s3]
 rw [zd2,s2];exact ze.2 ⟨hn,ze.2 ⟨hf,ze.2 ⟨he,ze.2 ⟨if_pos rfl,rfl⟩⟩⟩⟩
def zyQ {b:Bk} (h:zu b=0) {i:Nat} {s:Slt} (hs:b.slots[i]?=some s) {x:Lea} {R:List Lea} (hl:s.ls=x::R):reC b s.holder s.req.name x.fro=0/\reB b s.holder s.req.name x.fro=lsB b i s R:=by
 obtain ⟨s1,s2,s3⟩:=zf4 h hs;have hv:=zh4 h (xae hs);have hle:=zhp hv (x:=x) (by rw [hl];simp)
 have hx:zav x=0:=fE0 (zeJ hv (i:=0) (x:=x) (by rw [hl];rfl)) _ (by simp)
 have hr:rng x.fro 0 99999=0:=fE0 hx _ (by simp)
 obtain ⟨r1,r2⟩:=zul hl hle;have hC:reC b s.holder s.req.name x.fro=0:=by rw [reC,zfT,s2];exact ze.2 ⟨zxx h hs hr,ze.2 ⟨r1,rfl⟩⟩
 refine ⟨hC,?_⟩;rw [reB,if_pos hC,s2,r2,zfU,s1];rfl
def zCP {b:Bk} {i:Nat} {s:Slt} (hs:b.slots[i]?=some s) (R:List Lea):(lsB b i s R).slots[i]?=some (lsS s R):=by
 rw [lsB];simp only;rw [xbG (xaa.1 hs).1]
def zzJ (b:Bk) (i:Nat) (s:Slt) (R R':List Lea):lsB (lsB b i s R) i (lsS s R) R'=lsB b i s R':=by
 simp only [lsB,lsS,List.set_set]
def lsB_self {b:Bk} {i:Nat} {s:Slt} (hs:b.slots[i]?=some s):lsB b i s s.ls=b:=by
 rw [lsB,show lsS s s.ls=s from rfl,zil hs]
def ls_step {b:Bk} {i:Nat} {s:Slt} (hs:b.slots[i]?=some s) {k:Nat} {x:Lea} (hx:s.ls[k]?=some x) (h:zu (lsB b i s (s.ls.drop k))=0) :
  reC (lsB b i s (s.ls.drop k)) s.holder s.req.name x.fro=0/\reB (lsB b i s (s.ls.drop k)) s.holder s.req.name x.fro=lsB b i s (s.ls.drop (k+1))/\zu (lsB b i s (s.ls.drop (k+1)))=0:=by
 obtain ⟨hk,e⟩:=xaa.1 hx;have hd:s.ls.drop k=x::s.ls.drop (k+1):=by rw [xaM hk,e]
 have h1:=zyQ h (zCP hs (s.ls.drop k)) (x:=x) (R:=s.ls.drop (k+1)) hd;have h2:reB (lsB b i s (s.ls.drop k)) s.holder s.req.name x.fro=lsB b i s (s.ls.drop (k+1)):=h1.2.trans (zzJ b i s _ _);exact ⟨h1.1,h2,by rw [<-h2];exact (zuo h h1.1).1.v⟩
def opr_none (s:Slt) (d:Int):zvH (lsS s []) d=s.holder:=by rw [zxA];rfl
def opr_name {s:Slt} (h:zae s=0) (d:Int):zy (zvH s d)=0:=by
 rw [zxA,opF];cases hf:s.ls.find? (zum d) with
 | none=>exact fE0 h _ (by simp)
 | some x=>
  obtain ⟨i,hi⟩:=xaU.1 (List.mem_of_find?_eq_some hf);have hx:zav x=0:=fE0 (zeJ h hi) _ (by simp)
  exact fE0 hx _ (by simp)
theorem zhN (d:Int):∀ L:List Int,ltL d L=L.filter λx=>decide (x < d)
 | []=>rfl
 | x::L=>by
  have e:ltL d (x::L)=ltI d x++ltL d L:=by simp [ltL]
  rw [e,zhN d L,xaW,ltI]
  by_cases h:x < d
  ·rw [if_pos h,if_pos (decide_eq_true h)];rfl
  ·rw [if_neg h,if_neg (by simp [h])];rfl
def zx1 {b:Bk} (h:zu b=0) {i:Nat} {s:Slt} (hs:b.slots[i]?=some s) {d:Int} (hd:d ∈ zq s.req.per):zmq b s.holder s.req.name d=0:=by
 obtain ⟨_,s2,_⟩:=zf4 h hs;have hm:=zaV hd;have hp:=zY (zaE (zfq h (xae hs))).1;have hr:rng d 0 99999=0:=by rw [zbd];omega
 rw [zmq,zfT,s2];exact ze.2 ⟨zxx h hs hr,ze.2 ⟨by rw [znR,if_neg (by omega)],rfl⟩⟩
def bck_name {b:Bk} (h:zu b=0) {i:Nat} {s:Slt} (hs:b.slots[i]?=some s) (hm:0<=s.req.minute/\s.req.minute<=1439) {d:Int} (hd:d ∈ zq s.req.per) :
  ((mvS (zpR b s.holder s.req.name d).slots).filter (λy=>decide (y.name=s.req.name))).map uOf=slU s.req.name s.req.kind s.req.minute ((zq s.req.per).filter λx=>decide (x < d)):=by
 rw [zwW h (zx1 h hs hd),List.filter_filter];have e:(mvS b.slots).filter (λy=>decide (y.name=s.req.name) && lfB s.req.name d y)=((mvS b.slots).filter (λy=>decide (y.name=s.req.name))).filter (lfB s.req.name d):=by
  rw [List.filter_filter];exact List.filter_congr λy _=>Bool.and_comm _ _
 rw [e,zrE h hs,zaT,List.filter_map,xbS,slU]
 congr 1
 refine List.filter_congr λx hx=>?_
 have em:(za9 s.req x).moment=1440*x+s.req.minute:=rfl;have en:(za9 s.req x).name=s.req.name:=rfl;show lfB s.req.name d (za9 s.req x)=decide (x < d);rw [lfB,en,decide_eq_true (show s.req.name=s.req.name from rfl),xbg,xbJ,em]
 by_cases h:x < d
 ·rw [decide_eq_true h,decide_eq_true (by omega)]
 ·rw [decide_eq_false h,decide_eq_false (by omega)]
def bck_len {b:Bk} (h:zu b=0) {i:Nat} {s:Slt} (hs:b.slots[i]?=some s) {d:Int} (hd:d ∈ zq s.req.per) (h0:(zq s.req.per).filter (λx=>decide (x < d))=[]):(zpR b s.holder s.req.name d).slots.length+1=b.slots.length:=by
 obtain ⟨s1,s2,_⟩:=zf4 h hs;have hi:=(xaa.1 hs).1;rw [<-zqO h,if_pos (zx1 h hs hd),bkY,s2,if_pos (by rw [zhN];exact h0),s1]
 simp only [xad,xaj,xay]
 omega
def ckP:Per:=⟨10,13,127⟩
def ckQ:Req:=⟨np,nab,sA,s0,bs [102,97,114],s0,ckP,600,0,1,0⟩
def ckB1:Bk:=⟨[newS ckQ],[]⟩
def ckL:Lea:=⟨ncd,11,12⟩
def ckB2:Bk:=⟨[⟨ckQ,nab,[ckL],[]⟩],[]⟩
def ckN:List Int:=[15005,16440,17870]
def ck1:(ztl [] bk0 ckQ,zpF [] bk0 ckQ)=(ckB1,0):=by kernel_rfl
def ck2:zpG ckB1 (lnB ckB1 nab np ckL) (lnC ckB1 nab np ckL)=(ckB2,0):=by kernel_rfl
def ck3:(zkZ ckB2 np 12,zpJ ckB2 np 12)=(ncd,0):=by kernel_rfl
def ck4:(zy np,zC ckP,zj1 sA)=(0,0,0):=by kernel_rfl
def ck5:(znz (stU zbj (λ_=>false) (λ_=>3) (slU np sA 600 (zq ckP)) (zpO np ckN)),znF (stU zbj (λ_=>false) (λ_=>3) (slU np sA 600 (zq ckP)) (zpO np ckN)))=(3,4):=by kernel_rfl
def ck6:zq ckP=[10,11,12,13]:=by kernel_rfl
def k1042:Pure prog 24 [.nilsl,nbk,ckQ.pv] (.tup [ckB1.pv,.i .i64 0]):=by
 have h:=zvw [] bk0 ckQ (λ_=>znf rfl (by decide) (by decide))
 rw [show ztl [] bk0 ckQ=ckB1 from congrArg (·.1) ck1,show zpF [] bk0 ckQ=0 from congrArg (·.2) ck1] at h
 exact zza h ⟨.nilsl _,.agg ⟨.nilsl _,.nilsl _,trivial⟩,.refl _,trivial⟩
def k1035:Pure prog 25 [ckB1.pv,.s nab,.s np,ckL.pv] (.tup [ckB2.pv,.i .i64 0]):=by
 have h:=zvy ckB1 nab np ckL (λ_=>znf rfl (by decide) (by decide))
 rw [ck2] at h;exact h
def k1037:Pure prog 9 [ckB2.pv,.s np,.i .i64 12] (.tup [.s ncd,.i .i64 0]):=by
 have h:=zvx ckB2 np 12;rw [show zkZ ckB2 np 12=ncd from congrArg (·.1) ck3,show zpJ ckB2 np 12=0 from congrArg (·.2) ck3] at h
 exact h
def k4038:Pure prog 13 [.s np,.s sA,ckP.pv,.i .i64 600] (.tup [.sl 3 ((slU np sA 600 (zq ckP)).map USl.pv),.i .i64 0]):=
 zmM np sA ckP 600 (congrArg (·.1) ck4) (congrArg (·.2.2) ck4) (congrArg (·.2.1) ck4) (by decide) (by decide)
def k4034:Pure prog 14 [zc6,.sl 3 ((slU np sA 600 (zq ckP)).map USl.pv),.sl 8 ((zha np ckN).map UNt.pv)] (.tup [.agg [.i .i64 3,.i .i64 4],.i .i64 0]):=by
 have hs:=zBx (n:=np) (k:=sA) (m:=600) (D:=zq ckP) (congrArg (·.1) ck4) (congrArg (·.2.2) ck4) (by decide) (by rw [ck6];decide)
 have h := zix (slU np sA 600 (zq ckP)) (zha np ckN) (by rw [zeO, ck6]; decide) (by decide) (λs h => (hs s h).1) (zrz (congrArg (·.1) ck4) (by decide)) zry (by rw [zd7]; decide) (zqc np sA 600 (by rw [ck6]; decide)) (by rw [zd7]; exact (show ckN.Pairwise (· < ·) by decide) |> λh => by rw [ziN, zpO, xbI]; exact h) (λs h => (hs s h).2)
 rw [zd7,show (λs=>(zha np ckN).any (zbK s))=λ_=>false from funext λs=>ziO _ _ s,show znz _=3 from congrArg (·.1) ck5,show znF _=4 from congrArg (·.2) ck5] at h
 exact h
def pure4072:Pure prog 6 [] (.b true):=by
 refine pz func6 f6.eq_1 λhw X hX=>?_
 have qe:=aI qR (aI @zbM (aI @ncd_e (aI @nab_e @decide_true)));repeat' first|refine gC ?_ ?_<;>intro hc<;>try contradiction|refine za (k1042) ?_|refine za (k1035) ?_|refine za (k4038) ?_|refine za (zmK) ?_|refine za (ziw np 15005) ?_|refine za (ziw np 16440) ?_|refine za (ziw np 17870) ?_|refine za (k4034) ?_|refine za (k1037) ?_|refine gG ?_|show AK _;intro J Z|refine gJ ?_|omega|exact aT
 all_goals first|exact zyd (by decide)|decide|exact .refl _
structure CkS (b:Bk) (i:Nat) (s:Slt):Prop where
 ok:zeG b
 v:zu b=0
 at_:b.slots[i]?=some s
 car:zD0 s=true
 per:zC s.req.per=0
 len:(zq s.req.per).length<=14
 ne:zq s.req.per≠[]
 nm:zy s.req.name=0
 lo:60<=s.req.minute
 hi:s.req.minute<=1380
 kd:s.req.kind=sA
def ckS_of {b:Bk} {i:Nat} {s:Slt} (hb:zpH b=true) (hc:zu b=0) (hs:b.slots[i]?=some s) (hcar:zD0 s=true):CkS b i s:=by
 have hm:=xae hs;have hr:=zfq hc hm;have hp:=(zaE hr).1;have hsl:ztn s=true:=by
  simp only [zpH,xam,xaD] at hb;exact hb.2.1 s hm
 have hq:=(zBw hsl).2.2;simp only [zdM,xam,xaY,xaX,decide_eq_false_iff_not,decide_eq_true_eq] at hq;have h14:s.req.per.to - s.req.per.fro < 14:=hq.2.resolve_left λk=>k hp
 have hl:=zbx s.req.per;simp only [zD0,xam,decide_eq_true_eq] at hcar;have hn:zy s.req.name=0:=by
  have h1:zy s.req.name=0:=fE0 hr _ (by simp)
  exact h1
 exact ⟨(sh_ok hb).1,hc,hs,by simp only [zD0,xam,decide_eq_true_eq];exact hcar,hp,by omega,zAH hc hm,hn,hcar.1.2,hcar.2,hcar.1.1⟩
abbrev ckF (s:Slt) (D:List Int):List USl:=slU s.req.name sA s.req.minute D
abbrev ckM (s:Slt) (u o:Int):List Int:=zxI s.req u o
abbrev ckT (s:Slt) (u o:Int):List USl:=zpO s.req.name (ckM s u o)
def rtV (g:USl->Bool) (S F:List USl):PV:=.agg [.i .i64 (znz (stU zbj g (λ_=>3) S F)),.i .i64 (znF (stU zbj g (λ_=>3) S F))]
def movA:zj1 sA=0:=by decide
section
variable {b:Bk} {i:Nat} {s:Slt} (h:CkS b i s) (u o:Int)
include h
def znM {d:Int} (hd:d ∈ zq s.req.per):0<=d/\d<=99999/\s.req.per.fro<=d/\d<=s.req.per.to:=by
 have:=zaV hd;have:=zY h.per
 omega
def ck_F {D:List Int} (hD:∀ d ∈ D,d ∈ zq s.req.per):∀ x ∈ ckF s D,zpS x=0/\0<=x.mom/\x.mom<=143999999:=
 zBx h.nm movA ⟨by have:=h.lo;omega,by have:=h.hi;omega⟩ λd hd=>⟨(znM h (hD d hd)).1,(znM h (hD d hd)).2.1⟩
def zsS:(ckT s u o).length<=14:=xaV (zz6 _ _ _ _) h.len
def zxU:∀ x ∈ zha s.req.name (ckM s u o),Pure prog 135 [x.pv] (.i .i64 0):=zrz h.nm λm hm=>(zz7 h.per h.lo h.hi hm).1
def zDW:(zha s.req.name (ckM s u o)).length<=14:=by
 have:=zsS h u o;rw [zha,xaf];rw [ckT,zpO,xaf] at this;exact this
def ck_ratio {y:Bk} (hv:zu y=0) {D:List Int} (hDs:D.Sublist (zq s.req.per)) (hy:((mvS y.slots).filter λx=>decide (x.name=s.req.name)).map uOf=ckF s D) :
  Pure prog 20 [y.pv,.s s.req.name,.sl 8 ((zha s.req.name (ckM s u o)).map UNt.pv)] (.tup [rtV (λ_=>false) (ckF s D) (ckT s u o),.i .i64 0]):=by
 have hf:=ck_F h (D:=D) λd hd=>hDs.subset hd
 have hl:=zsS h u o;have:=zuD y s.req.name (zha s.req.name (ckM s u o)) hv hy (by rw [zeO];have:=hDs.length_le;have:=h.len;omega) (by have:=zDW h u o;omega) (λx hx=>(hf x hx).1) (zxU h u o) zry (by rw [zd7];exact hl) (zqc _ _ _ ((zbp s.req.per).sublist hDs)) (by rw [zd7];exact zsf _ _ _) (λx hx=>(hf x hx).2)
 rw [zd7,show (λx=>(zha s.req.name (ckM s u o)).any (zbK x))=λ_=>false from funext λx=>ziO _ _ x] at this
 exact this
def ck_slots:Pure prog 13 [.s s.req.name,.s sA,s.req.per.pv,.i .i64 s.req.minute] (.tup [.sl 3 ((ckF s (zq s.req.per)).map USl.pv),.i .i64 0]):=
 zmM _ _ _ _ h.nm movA h.per (by have:=h.lo;omega) (by have:=h.hi;omega)
def ck_whole {a:Int} (ha:a ∈ zq s.req.per) (h20:20<=a):Pure prog 14 [zc6,.sl 3 ((ckF s (zq s.req.per)).map USl.pv),.sl 8 ((zha s.req.name (ckM s u o)++[ztq s.req.name a s.req.per.to (a - 7)]).map UNt.pv)] (.tup [rtV (λ_=>false) (ckF s ((zq s.req.per).filter λx=>decide (x < a))) (ckT s u o),.i .i64 0]):=by
 have hf:=ck_F h (D:=zq s.req.per) λd hd=>hd
 have hl:=zsS h u o;have hnl:=zDW h u o;have hda:=znM h ha;have hp:=zY h.per;have:=zix (ckF s (zq s.req.per)) (zha s.req.name (ckM s u o)++[ztq s.req.name a s.req.per.to (a - 7)]) (by rw [zeO];have:=h.len;omega) (by rw [xad,List.length_singleton];omega) (λx hx=>(hf x hx).1)
  (λx hx=>by
   rcases xaL.1 hx with k|k
   ·exact zxU h u o x k
   ·simp at k;subst k;exact zra _ _ _ _ h.nm (zbd.2 (by omega)) (zbd.2 (by omega)) (by omega) (zbd.2 (by omega)))
  (zvM (by omega) (by omega)) (by rw [zjb];exact hl) (zqc _ _ _ (zbp s.req.per)) (by rw [zjb];exact zsf _ _ _) (λx hx=>(hf x hx).2)
 rw [zjb] at this;have hr:=zpz (n:=s.req.name) (k:=sA) (m:=s.req.minute) (zbp s.req.per) (g:=λx=>(zha s.req.name (ckM s u o)++[ztq s.req.name a s.req.per.to (a - 7)]).any (zbK x)) (D:=a) (λd hd=>zs2 ⟨by have:=h.lo;omega,by have:=h.hi;omega⟩ (znM h hd).2.2.2) (ckT s u o)
 rw [hr.1,hr.2] at this;exact this
end
def rt_none (F:List USl) (s:Slt):rtV (λ_=>false) (ckF s []) F=.agg [.i .i64 0,.i .i64 0]:=rfl
def zBi {b:Bk} (h:zu b=0):zhn b b:=⟨rfl,rfl,h⟩
def keeps_tr {b y z:Bk} (h:zhn b y) (k:zhn y z):zhn b z:=⟨k.r.trans h.r,k.w.trans h.w,k.v⟩
def rt_ints (g:USl->Bool) (S F:List USl):∃ p q:Int,rtV g S F=.agg [.i .i64 p,.i .i64 q]:=⟨_,_,rfl⟩
structure Tmg where
 req:Req
 carrier:ByteArray
 slot:ByteArray
 day:Int
 minute:Int
abbrev Tmg.pv (x:Tmg):PV:=.agg [.s x.req.name,.s x.req.carrier,.s x.req.kind,.s x.req.term,.s x.req.partner,.s x.req.link,.i .i64 x.req.per.fro,.i .i64 x.req.per.to,.i .i64 x.req.per.days,.i .i64 x.req.minute,.i .i64 x.req.seats,.i .i64 x.req.size,.i .i64 x.req.noise,.s x.carrier,.s x.slot,.i .i64 x.day,.i .i64 x.minute]
end Go.Proofs.YtocamnijnhnlfaaGreat
