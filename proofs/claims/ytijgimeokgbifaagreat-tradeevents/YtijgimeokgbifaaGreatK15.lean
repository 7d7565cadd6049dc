/- Contracts of functions, for the claim. No conditions. -/
import Derived.Test.YtijgimeokgbifaaGreatK13
import Derived.Test.YtijgimeokgbifaaGreatK14
import Derived.Test.YtijgimeokgbifaaGreatK12
set_option linter.all false
set_option maxHeartbeats 8000000
set_option maxRecDepth 100000
namespace Go.Proofs.YtijgimeokgbifaaGreat
open Go.RowKit Tryz
def zyl (a b:Lea):Int:=zo7 a.fro b.fro
def ze0 (l o:Lea):Bool:=decide (o.fro<=l.to) && decide (l.fro<=o.to)
def zqZ (o l:Lea):Pure prog 140 [o.pv,.ip l.pv 0] (.b (ze0 l o)):=by
 refine pz func140 f140.eq_1 λhw X hX=>?_
 by_cases h:o.fro<=l.to
 ·have h1:=eq_true h;have e:ze0 l o=decide (l.fro<=o.to):=by simp [ze0,h]
  rw [e];have qe:=aI qR (aI @h1 @decide_true);exact gD0
 ·have h1:=eq_false h;have e:ze0 l o=false:=by simp [ze0,h]
  rw [e];have qe:=aI qR (aI @h1 @decide_false);exact gD0
def zqY (a b:Lea):Pure prog 143 [a.pv,b.pv] (.i .i64 (zyl a b)):=by
 refine pz func143 f143.eq_1 λhw X hX=>?_
 have qe:=@qR;have jA:=λu1 u2=>zi8 u1 u2;exact gD2
def meetL (s:Slt) (l:Lea):Bool:=s.ls.any (ze0 l)
def zkj (L:List Lea) (l:Lea):Pure prog 139 [.sl 3 (L.map Lea.pv),.fn (.func 140) [] [.ip l.pv 0]] (.b (L.any (ze0 l))):=by
 have h1240:=zqR (f:=140) (caps:=[.ip l.pv 0]) (L:=L) (p:=ze0 l) λw _=>zqZ w l
 have e:=zg8 (ze0 l) L;refine pz func139 f139.eq_1 λhw X hX=>?_
 repeat' first|refine gC ?_ ?_<;>intro hc<;>try contradiction|refine za (h1240) ?_|refine gG ?_|show AK _;intro J Z|refine gJ ?_|omega|exact aT
 rw [e];exact .refl _
def lnE (s:Slt) (l:Lea):Int:=zf [zfH s.raw l,if meetL s l=true then 15 else 0,if 8<=(s.ls.length:Int) then 5 else 0]
def lnL (s:Slt) (l:Lea):List Lea:=zbJ zyl (s.ls++[l])
def lnS (s:Slt) (l:Lea):Slt:=⟨s.req,s.holder,lnL s l,s.sh⟩
def zpm (P:List PV) (i0:Nat) (hi:i0 < P.length) (s:Slt) (l:Lea) (hok:zld s) (h:lnE s l≠0) (i:HD):ActsE prog 138 [.ep 900 P.length i0 0,.p (.ip l.pv 0)] [(900,.row 84 16 (P.set i0 (slL s i)) false),(901,.hrow 91 3 (s.ls.map Lea.pv) i.1 i.2)] (λ_=>.p (.i .i64 (lnE s l)))
  (λj=>[(900,.row 84 16 (P.set i0 (slL s j)) false),(901,.hrow 91 3 (s.ls.map Lea.pv) j.1 j.2)]):=by
 have hg:=λa=>zc3 P i0 a hi
 have hx:(zf [zfH s.raw l,if s.ls.any (ze0 l)=true then 15 else 0,if 8<=(s.ls.length:Int) then 5 else 0]=0)=False:=eq_false h
 have hlo:zfH ⟨s.req,s.holder,.rs i.1 s.ls.length i.2,.sl 1 (s.sh.map .s)⟩ l=zfH s.raw l:=rfl;have h1177:=zgI l ⟨s.req,s.holder,.rs i.1 s.ls.length i.2,.sl 1 (s.sh.map .s)⟩;rw [hlo] at h1177;obtain ⟨hok,_⟩:=hok;refine zdE (cF func138 f138.eq_1) (by simp) (by simp [scPs,scP,zj]) (by simp [scObj]) ⟨rfl,rfl,trivial⟩ (λj=>by simp [scObj]) (λj=>by simp [zc1,zj]) λX hX=>?_
 unfold zE ghO;have qe:=aI qR (aI @qN (aI @gLV.eq_2 (aI @gLV.eq_5 (aI @hg @List.length_set.{0}))));repeat' first|refine gG ?_|show AK _;intro J Z|refine gJ ?_|omega|exact aT
 refine zfQ 901 (hf:=zkj s.ls l) (hm:=by exact ⟨.inr ⟨zoh _ _ _ _,rfl⟩,.inl rfl,trivial⟩) (hn:=?_)
 have qe:=aI qR (aI @qN (aI @hg (aI @hx (aI @List.length_set.{0} (aI @reN @reR)))));repeat' first|refine gC ?_ ?_<;>intro hc<;>try contradiction|refine za (h1177) ?_|refine za (zU _ _) ?_|refine za (zw [_,_,_]) ?_|refine gG ?_|show AK _;intro J Z|refine gJ ?_|omega|exact aT
 all_goals exact ⟨i,.inl (.mkE)⟩
def zof (s:Slt) (l:Lea):(lnL s l).length=s.ls.length+1:=by rw [lnL,zH];simp
def zsF (P:List PV) (i0:Nat) (hi:i0 < P.length) (s:Slt) (l:Lea) (hok:zld s) (h:lnE s l=0) (i:HD):ActsE prog 138 [.ep 900 P.length i0 0,.p (.ip l.pv 0)] [(900,.row 84 16 (P.set i0 (slL s i)) false),(901,.hrow 91 3 (s.ls.map Lea.pv) i.1 i.2)] (λ_=>.p (.i .i64 0))
  (λj=>[(900,.row 84 16 (P.set i0 (slX s (.rs j.1 ((lnL s l).map Lea.pv).length j.2) (.sl 1 (s.sh.map .s)))) false),(901,.hrow 91 3 ((lnL s l).map Lea.pv) j.1 j.2)]):=by
 have hg:=λa=>zc3 P i0 a hi
 have hx:(zf [zfH s.raw l,if s.ls.any (ze0 l)=true then 15 else 0,if 8<=(s.ls.length:Int) then 5 else 0]=0)=True:=eq_true h
 have h8:s.ls.length < 8:=by
  have:=fE0 h (if 8<=(s.ls.length:Int) then 5 else 0) (by simp)
  by_cases h8:8<=(s.ls.length:Int)
  ·rw [if_pos h8] at this;omega
  ·omega
 have hlo:zfH ⟨s.req,s.holder,.rs i.1 s.ls.length i.2,.sl 1 (s.sh.map .s)⟩ l=zfH s.raw l:=rfl;have h1177:=zgI l ⟨s.req,s.holder,.rs i.1 s.ls.length i.2,.sl 1 (s.sh.map .s)⟩;rw [hlo] at h1177;have hsrt:=zsE zqY (s.ls++[l]) (by simp;omega)
 have hln:=zof s l;rw [lnL] at hln;obtain ⟨hok,_⟩:=hok;refine zdE (cF func138 f138.eq_1) (by simp) (by simp [scPs,scP,zj]) (by simp [scObj]) ⟨rfl,rfl,trivial⟩ (λj=>by simp [scObj]) (λj=>by simp [zc1,zj]) λX hX=>?_
 unfold zE ghO;have qe:=aI qR (aI @qN (aI @gLV.eq_2 (aI @gLV.eq_5 (aI @hg @List.length_set.{0}))));repeat' first|refine gG ?_|show AK _;intro J Z|refine gJ ?_|omega|exact aT
 refine zfQ 901 (hf:=zkj s.ls l) (hm:=by exact ⟨.inr ⟨zoh _ _ _ _,rfl⟩,.inl rfl,trivial⟩) (hn:=?_)
 have qe:=aI qR (aI @qN (aI @hg (aI @hx (aI @List.length_set.{0} (aI @reN @reR)))));repeat' first|refine za (h1177) ?_|refine za (zU _ _) ?_|refine za (zw [_,_,_]) ?_|refine gG ?_|show AK _;intro J Z|refine gJ ?_|omega|exact aT
 have qe:=@hx;(refine gC ?_ ?_<;>intro hc<;>try contradiction)
 refine zj6 ?_;refine (show Run _ (.seq (.ops true _) _) _ _ from zgx (znd Mx.h rfl 8 (by decide) rfl ?_))
 simp only [xbv,xbM,xbU,xb1];refine zcn 7 ?_;simp only [xbv,xbM,xbU,xb1];have qe:=aI qR (aI @qN (aI @hg @List.length_set.{0}));repeat' first|refine gC ?_ ?_<;>intro hc<;>try contradiction|refine gG ?_|show AK _;intro J Z|refine gJ ?_|omega|exact aT
 refine znl 901 s.ls.length (xs:=s.ls.map Lea.pv) (by simp) (h3:=by simp;omega) (h:=?_)
 refine (show zca _=true/\zh _ _ _ _ _ _ _ from ⟨rfl,?_⟩)
 refine zbL (zdv 901 (e:=91) (sz:=3) (xs:=s.ls.map Lea.pv++[l.pv]) rfl (λa0 c0=>[(0,.ep 900 P.length i0 0),(31,.ep 900 P.length i0 0),(38,.p (.rs a0 (s.ls.map Lea.pv++[l.pv]).length c0)),(1000900,.row 900 P.length),(1000901,.any)]) (λa0 c0=>[(900,.row 84 16 (P.set i0 (slL s i)) false)]) λa0 c0=>⟨?_,?_,?_,?_⟩) ?_
 ·exact ⟨.inl rfl,.inl rfl,.inr ⟨_,.inl (.inr ⟨rfl,rfl⟩),rfl⟩,.inl rfl,.inl rfl,trivial⟩
 ·exact ⟨.inl rfl,trivial⟩
 ·simp [scEnv,scP,zj]
 ·simp [scObj,scPs,scP,zj]
 rintro _ ⟨a0,c0,rfl⟩;refine (show zh _ _ _ _ _ (St.mk _ _ [] false) _ from zF ?_)
 have hmp:(s.ls++[l]).map Lea.pv=s.ls.map Lea.pv++[l.pv]:=by simp
 have hml:(s.ls.map Lea.pv++[l.pv]).length=(s.ls++[l]).length:=by simp
 rw [hml];rw [<-hmp];have h1178:=zss a0 c0 hsrt (by simp [zH]) (args':=[.p (.rs a0 (s.ls++[l]).length c0),.p (.fn (.func 143) [] [])]) ⟨.inr ⟨by rw [xaf],by rw [xaf]⟩,.inl ⟨_,rfl,rfl⟩,trivial⟩
 have hl1:(s.ls++[l]).length=s.ls.length+1:=by simp
 rw [hl1] at h1178 ⊢;have qe:=aI qR (aI @qN (aI @hg (aI @zsj (aI @ze4 (aI @List.set_set.{0} (aI @List.length_set.{0} (aI @reN @reR)))))));repeat' first|refine gC ?_ ?_<;>intro hc<;>try contradiction|refine zl [(900,901)] (h1178) ?_|refine gG ?_|show AK _;intro J Z|refine gJ ?_|omega|exact aT
 simp only [zof];exact ⟨(a0,c0),.inl (.mkE)⟩
def lnC (b:Bk) (c n:ByteArray) (l:Lea):Int:=zfM b c n (zdC l) (lnE (zn b n) l)
def lnB (b:Bk) (c n:ByteArray) (l:Lea):Bk:=if lnC b c n l=0 then zo8 b n (lnS (zn b n) l) else bk0
def zuL {b:Bk} {c n:ByteArray} {l:Lea} (h:lnC b c n l≠0):lnB b c n l=bk0:=if_neg h
def zxr (b:Bk) (c n:ByteArray) (l:Lea) (hb:zfy b):Pure prog 129 [b.pv,.s c,.s n,.i .i64 (zdC l),.fn (.func 138) [] [.ip l.pv 0]] (.tup [(lnB b c n l).pv,.i .i64 (lnC b c n l)]):=by
 by_cases hown:zhn b c n (zdC l)=0
 ·have hC:lnC b c n l=lnE (zn b n) l:=zvL hown;have hsl:=zw9 hown;have hok:=zj5 hb hsl;have hi:zx b n < b.slots.length:=(xaa.1 hsl).1;have hi':zx b n < (b.slots.map Slt.pv).length:=by simpa using hi
  by_cases hE:lnE (zn b n) l=0
  ·have hf:=λi=>zsF (b.slots.map Slt.pv) (zx b n) hi' (zn b n) l hok hE i
   rw [show (b.slots.map Slt.pv).length=b.slots.length from xaf ..] at hf
   have h:=zkZ (cf:=138) (caps:=[.ip l.pv 0]) (λi=>.rs i.1 (zn b n).ls.length i.2) (λ_=>.sl 1 ((zn b n).sh.map .s)) _ (slX (zn b n) (.sl 3 ((lnL (zn b n) l).map Lea.pv)) (.sl 1 ((zn b n).sh.map PV.s))) b c n (zdC l) 0 hb (λ_=>⟨rfl,rfl⟩) hown (zgm (zn b n) hok) hf λj=>.inr ⟨_,_,rfl,rfl,.inl rfl,.inl rfl,.inl rfl,.inl rfl,.inl rfl,.inl rfl,.inl rfl,.inl rfl,.inl rfl,.inl rfl,.inl rfl,.inl rfl,.inl rfl,.inl rfl,.inr ⟨rfl,rfl⟩,.inl rfl,trivial⟩
   rw [if_pos rfl] at h;have hB:lnB b c n l=zo8 b n (lnS (zn b n) l):=by rw [lnB,hC,if_pos hE]
   rw [hC,hE,hB,zo8];show Pure _ _ _ (.tup [.agg [.sl 16 ((b.slots.set (zx b n) (lnS (zn b n) l)).map Slt.pv),.sl 14 (b.wait.map Wsh.pv)],.i .i64 0]);rw [xbb];exact h
  ·have hf:=λi=>zpm (b.slots.map Slt.pv) (zx b n) hi' (zn b n) l hok hE i
   rw [show (b.slots.map Slt.pv).length=b.slots.length from xaf ..] at hf
   have h:=zkZ (cf:=138) (caps:=[.ip l.pv 0]) (λi=>.rs i.1 (zn b n).ls.length i.2) (λ_=>.sl 1 ((zn b n).sh.map .s)) _ (zn b n).pv b c n (zdC l) (lnE (zn b n) l) hb (λ_=>⟨rfl,rfl⟩) hown (zgm (zn b n) hok) hf λj=>.inr ⟨_,_,rfl,rfl,.inl rfl,.inl rfl,.inl rfl,.inl rfl,.inl rfl,.inl rfl,.inl rfl,.inl rfl,.inl rfl,.inl rfl,.inl rfl,.inl rfl,.inl rfl,.inl rfl,.inr ⟨zoh _ _ _ _,rfl⟩,.inl rfl,trivial⟩
   rw [if_neg hE] at h;rw [zuL (by rw [hC];exact hE),hC]
   exact zar h (zbt _)
 ·have hC:lnC b c n l≠0:=by rw [lnC,zfM,za1 hown];exact hown
  rw [zuL hC];exact zvM b c n (zdC l) _ hb hown
def zq7 (b:Bk) (c n:ByteArray) (l:Lea) (hb:zfy b):Pure prog 82 [b.pv,.s c,.s n,l.pv] (.tup [(lnB b c n l).pv,.i .i64 (lnC b c n l)]):=by
 have hch:=zxr b c n l hb;refine pz func82 f82.eq_1 λhw X hX=>?_
 have qe:=aI qR @qN;have jA:=zkk l;have jB:=hch;exact gD2
def zkq (b:Bk) (c n:ByteArray) (l:Lea) (hb:zG b=0->zfy b):Pure prog 35 [b.pv,.s c,.s n,l.pv] (.tup [(zhm b (lnB b c n l) (lnC b c n l)).1.pv,.i .i64 (zhm b (lnB b c n l) (lnC b c n l)).2]):=by
 by_cases h:zG b=0
 ·have e1:(zG b=0)=True:=eq_true h;rw [zhj h zuL];refine pz func35 f35.eq_1 λhw X hX=>?_
  have qe:=aI qR (aI @qN @e1);have jA:=zV b;have jB:=zq7 b c n l (hb h);exact gD2
 ·have e1:(zG b=0)=False:=eq_false h;rw [zeD h];refine zar (r:=.tup [.agg [.nilsl,.nilsl],.i .i64 (zG b)]) ?_ (zbt _);refine pz func35 f35.eq_1 λhw X hX=>?_
  have qe:=aI qR (aI @qN @e1);have jA:=zV b;exact gD2
def txQ (n c:List UInt8) (m:Int):Req:=⟨bs n,bs c,sA,s0,bs [102,97,114],s0,⟨8900,8909,127⟩,m,100,4,0⟩
def txP:Req:=txQ [112] [97,98] 600
def txO:Req:=txQ [113] [99,100] 610
def txR:Req:=txQ [114] [101,102] 620
def txH:List Lim:=[⟨bs [104,111,117,114],sT,s0,60,60,0,1380,⟨8900,8999,127⟩,2⟩]
def txB1:Bk:=⟨[zgP txP],[]⟩
def txB2:Bk:=⟨[zgP txP,zgP txO],[]⟩
def txB3:Bk:=⟨[zgP txP,zgP txO],[⟨txR,5⟩]⟩
def aw1:(zhl txH bk0 txP,zfN txH bk0 txP)=(txB1,0):=by kernel_rfl
def aw2:(zhl txH txB1 txO,zfN txH txB1 txO)=(txB2,0):=by kernel_rfl
def aw3:(zhl txH txB2 txR,zfN txH txB2 txR)=(bk0,14):=by kernel_rfl
def aw4:(zpn txB2 ⟨txR,5⟩,zmE txB2 ⟨txR,5⟩)=(txB3,0):=by kernel_rfl
def aw5:refL txH txB3=[⟨bs [114],0,12816600⟩]:=by kernel_rfl
def txP4:Req:={ txP with per:=⟨8900,8904,127⟩ }
def nab:ByteArray:=bs [97,98]
def ncd:ByteArray:=bs [99,100]
def ngh:ByteArray:=bs [103,104]
def np:ByteArray:=bs [112]
def nq:ByteArray:=bs [113]
def txB6:Bk:=⟨[⟨txP4,nab,[],[]⟩,zgP txO],[⟨txR,5⟩]⟩
def txB7:Bk:=⟨[zgP txO],[⟨txR,5⟩]⟩
def txB8:Bk:=⟨[zgP txO,zgP txR],[]⟩
def txB9:Bk:=⟨[⟨txP,ncd,[],[]⟩,⟨txO,nab,[],[]⟩],[]⟩
def txL:Lea:=⟨ngh,8902,8904⟩
def txL2:Lea:=⟨ngh,8904,8906⟩
def txB11:Bk:=⟨[⟨txP,nab,[txL],[]⟩,zgP txO],[]⟩
def txB16:Bk:=⟨[⟨txP,nab,[⟨ngh,8902,8902⟩],[]⟩,zgP txO],[]⟩
def aw6:zhm txB3 (zvV txB3 nab np 8905) (zpf txB3 nab np 8905)=(txB6,0):=by kernel_rfl
def aw7:zhm txB3 (zvV txB3 nab np 8900) (zpf txB3 nab np 8900)=(txB7,0):=by kernel_rfl
def aw8:(zpp txH txB7,zpo txH txB7,lbE txH txB7)=(txB8,[bs [114]],0):=by kernel_rfl
def aw9:zhm txB2 (zpt txB2 np nq) (zpQ txB2 np nq)=(txB9,0):=by kernel_rfl
def aw10:(zxv txB9 np,zwa txB9 np)=(ncd,0):=by kernel_rfl
def aw11:zhm txB2 (lnB txB2 nab np txL) (lnC txB2 nab np txL)=(txB11,0):=by kernel_rfl
def aw12:zhm txB11 (lnB txB11 nab np txL2) (lnC txB11 nab np txL2)=(bk0,15):=by kernel_rfl
def aw13:zhm txB11 (zpt txB11 np nq) (zpQ txB11 np nq)=(bk0,19):=by kernel_rfl
def aw14:(zjb txB11 np 8904,zpw txB11 np 8904)=(ngh,0):=by kernel_rfl
def aw15:(zjb txB11 np 8905,zpw txB11 np 8905)=(nab,0):=by kernel_rfl
def aw16:zhm txB11 (reB txB11 nab np 8903) (reC txB11 nab np 8903)=(txB16,0):=by kernel_rfl
def aw17:((mvE txB2).length,zG txB2)=(20,0):=by kernel_rfl
def aw5e:lbE txH txB3=0:=by kernel_rfl
def zud {P:Program} {f:FuncId} {ps qs:List PV} {r:PV} (h:Pure P f qs r) (hw:Wks ps qs):Pure P f ps r:=by
 obtain ⟨h1,h2⟩:=hw.at;refine ⟨h.1,λw B vs hB hv=>h.2 w B vs hB ⟨by rw [hv.1,h1],λj v q hj hq=>?_⟩⟩
 have hlt:j < ps.length:=by rw [h1];exact (xaa.1 hq).1
 exact h2 j _ q (xab hlt) hq w B v (hv.2 j v _ hj (xab hlt))
def zaC {b:Bk} (h1:b.slots.all (λs=>decide (s.ls.length<=1000) && decide (s.sh.length<=1000))=true) (h2:b.slots.length<=1000) (h3:b.wait.length<=1000):zfy b:=
 ⟨λs hs=>by have:=xaB.1 h1 s hs;simpa [zld] using this,h2,h3⟩
abbrev nbk:PV:=.agg [.nilsl,.nilsl]
def zyw:Pure prog 26 [.sl 11 (txH.map Lim.pv),nbk,txP.pv] (.tup [txB1.pv,.i .i64 0]):=by
 have h:=zgN txH bk0 txP (λ_=>zaC rfl (by decide) (by decide))
 rw [show zhl txH bk0 txP=txB1 from congrArg (·.1) aw1,show zfN txH bk0 txP=0 from congrArg (·.2) aw1] at h
 exact zud h ⟨.refl _,.agg ⟨.nilsl _,.nilsl _,trivial⟩,.refl _,trivial⟩
def zyv:Pure prog 26 [.sl 11 (txH.map Lim.pv),txB1.pv,txO.pv] (.tup [txB2.pv,.i .i64 0]):=by
 have h:=zgN txH txB1 txO (λ_=>zaC rfl (by decide) (by decide))
 rw [show zhl txH txB1 txO=txB2 from congrArg (·.1) aw2,show zfN txH txB1 txO=0 from congrArg (·.2) aw2] at h
 exact h
def zyu:Pure prog 26 [.sl 11 (txH.map Lim.pv),txB2.pv,txR.pv] (.tup [bk0.pv,.i .i64 14]):=by
 have h:=zgN txH txB2 txR (λ_=>zaC rfl (by decide) (by decide))
 rw [show zhl txH txB2 txR=bk0 from congrArg (·.1) aw3,show zfN txH txB2 txR=14 from congrArg (·.2) aw3] at h
 exact h
def c1018:Pure prog 28 [txB2.pv,(⟨txR,5⟩:Wsh).pv] (.tup [txB3.pv,.i .i64 0]):=by
 have h:=zrh txB2 ⟨txR,5⟩ (λ_=>zaC rfl (by decide) (by decide)) (by decide)
 rw [show zpn txB2 ⟨txR,5⟩=txB3 from congrArg (·.1) aw4,show zmE txB2 ⟨txR,5⟩=0 from congrArg (·.2) aw4] at h
 exact h
def c1022:Pure prog 29 [.sl 11 (txH.map Lim.pv),txB3.pv] (.tup [.sl 3 [.agg [.s (bs [114]),.i .i64 0,.i .i64 12816600]],.i .i64 0]):=by
 have h:=zrf txH txB3;rw [aw5,aw5e] at h;exact h
def zyt:Pure prog 30 [txB3.pv,.s nab,.s np,.i .i64 8905] (.tup [txB6.pv,.i .i64 0]):=by
 have h:=zko txB3 nab np 8905 (λ_=>zaC rfl (by decide) (by decide))
 rw [aw6] at h;exact h
def zys:Pure prog 30 [txB3.pv,.s nab,.s np,.i .i64 8900] (.tup [txB7.pv,.i .i64 0]):=by
 have h:=zko txB3 nab np 8900 (λ_=>zaC rfl (by decide) (by decide))
 rw [aw7] at h;exact h
def c1020:Pure prog 31 [.sl 11 (txH.map Lim.pv),txB7.pv] (.tup [txB8.pv,.sl 1 (([bs [114]]:List ByteArray).map .s),.i .i64 0]):=by
 have h:=zrg txH txB7 (λ_=>zaC rfl (by decide) (by decide))
 rw [show zpp txH txB7=txB8 from congrArg (·.1) aw8,show zpo txH txB7=[bs [114]] from congrArg (·.2.1) aw8,show lbE txH txB7=0 from congrArg (·.2.2) aw8] at h
 exact h
def zyr:Pure prog 33 [txB2.pv,.s np,.s nq] (.tup [txB9.pv,.i .i64 0]):=by
 have h:=zkn txB2 np nq (λ_=>zaC rfl (by decide) (by decide))
 rw [aw9] at h;exact h
def zyq:Pure prog 33 [txB11.pv,.s np,.s nq] (.tup [bk0.pv,.i .i64 19]):=by
 have h:=zkn txB11 np nq (λ_=>zaC rfl (by decide) (by decide))
 rw [aw13] at h;exact h
def zyA:Pure prog 35 [txB2.pv,.s nab,.s np,txL.pv] (.tup [txB11.pv,.i .i64 0]):=by
 have h:=zkq txB2 nab np txL (λ_=>zaC rfl (by decide) (by decide))
 rw [aw11] at h;exact h
def zyz:Pure prog 35 [txB11.pv,.s nab,.s np,txL2.pv] (.tup [bk0.pv,.i .i64 15]):=by
 have h:=zkq txB11 nab np txL2 (λ_=>zaC rfl (by decide) (by decide))
 rw [aw12] at h;exact h
def c1038:Pure prog 37 [txB11.pv,.s nab,.s np,.i .i64 8903] (.tup [txB16.pv,.i .i64 0]):=by
 have h:=zrd txB11 nab np 8903 (λ_=>zaC rfl (by decide) (by decide))
 rw [aw16] at h;exact h
def c1083:Pure prog 34 [txB9.pv,.s np] (.tup [.s ncd,.i .i64 0]):=by
 have h:=zra txB9 np;rw [show zxv txB9 np=ncd from congrArg (·.1) aw10,show zwa txB9 np=0 from congrArg (·.2) aw10] at h
 exact h
def zyy:Pure prog 36 [txB11.pv,.s np,.i .i64 8904] (.tup [.s ngh,.i .i64 0]):=by
 have h:=zkp txB11 np 8904;rw [show zjb txB11 np 8904=ngh from congrArg (·.1) aw14,show zpw txB11 np 8904=0 from congrArg (·.2) aw14] at h
 exact h
def zyx:Pure prog 36 [txB11.pv,.s np,.i .i64 8905] (.tup [.s nab,.i .i64 0]):=by
 have h:=zkp txB11 np 8905;rw [show zjb txB11 np 8905=nab from congrArg (·.1) aw15,show zpw txB11 np 8905=0 from congrArg (·.2) aw15] at h
 exact h
def c1043:Pure prog 38 [txB2.pv] (.tup [.sl 7 ((mvE txB2).map Mov.pv),.i .i64 0]):=by
 have h:=zrc txB2;rw [show zG txB2=0 from congrArg (·.2) aw17] at h
 exact h
def zgM (n c:List UInt8) (m:Int):Pure prog 25 [.s (bs n),.s (bs c),.i .i64 m] (txQ n c m).pv:=by
 refine pz func25 f25.eq_1 λhw X hX=>?_
 have qe:=@qR;exact gD0
def zrb:Pure prog 27 [] (.sl 11 (txH.map Lim.pv)):=by
 refine pz func27 f27.eq_1 λhw X hX=>?_
 have qe:=@qR;exact gD0
def ncd_e:ncd=bs [99,100]:=rfl
def nab_e:nab=bs [97,98]:=rfl
def ngh_e:ngh=bs [103,104]:=rfl
def sl6:txB6.slots=[⟨txP4,nab,[],[]⟩,zgP txO]:=rfl
def sl7:txB7.slots=[zgP txO]:=rfl
def sl8:txB8.slots=[zgP txO,zgP txR]:=rfl
def wl8:txB8.wait=[]:=rfl
def sl16:txB16.slots=[⟨txP,nab,[⟨ngh,8902,8902⟩],[]⟩,zgP txO]:=rfl
def toP4:txP4.per.to=8904:=rfl
def mv20:((mvE txB2).map Mov.pv).length=20:=by rw [xaf];exact congrArg (·.1) aw17
def toN0:Int.toNat 0=0:=rfl
def lN {α:Type} (r:List α):List.append [] r=r:=rfl
def lC {α:Type} (a:α) (l r:List α):List.append (a::l) r=a::List.append l r:=rfl
def cFb {f:Nat} {fn lit:Func} {x:AC × List RV × Nat} (hf:prog.funcs[f]?=some fn) (he:fn=lit) (h:zms prog lit=some x:=by
  (conv=>lhs;simp only [qT,qU,cI,cS,cB,cN,cL,cG,cM,zms,zC,zaH,zby,comp,zaf,zbX,zpx,zfK,zas,GB,Region.binds,mG,mT,Int.reduceNeg,Int.reduceLE,Nat.reduceLeDiff,Nat.reduceLT,and_self,reduceIte,xbE,xcC,xby,Option.bind_none,xaE,xbr,xak,xay,xbp,xcy,xaP,xaQ,xcg,xbO,xb9,Option.all_some,Option.all_none,decide_true,decide_eq_true_eq,xcj,xcD,PV.cells,PV.isAgg,Nat.reduceAdd,Nat.reduceMul,Nat.reducePow,reduceCtorEq,xcB,xcc,xaX,xcb,xco,Array.size_empty,lN,lC])
  try exact rfl) (hn : (fn.name == "runtime.NumGoroutine") = false := by kernel_rfl) : zci prog f = some x := by
 subst he
 unfold zci
 rw [hf]
 show (if _ then _ else _)=_
 rw [hn,if_neg (by simp)]
 exact h
def pure1017:Pure prog 8 [] (.b true):=by
 refine znJ (cFb func8 f8.eq_1) (by simp) λhw X hX=>?_
 have qe:=aI qR (aI @za9 (aI @toN0 (aI @ncd_e (aI @nab_e (aI @ngh_e (aI @sl6 (aI @sl7 (aI @sl8 (aI @wl8 (aI @sl16 (aI @toP4 (aI @mv20 (aI @decide_true @decide_false)))))))))))));repeat' first|refine gC ?_ ?_<;>intro hc<;>try contradiction|refine za (zgM [112] [97,98] 600) ?_|refine za (zgM [114] [101,102] 620) ?_|refine za (zgM [113] [99,100] 610) ?_|refine za (zrb) ?_|refine za (zyw) ?_|refine za (zyv) ?_|refine za (zyu) ?_|refine za (c1018) ?_|refine za (c1022) ?_|refine za (zyt) ?_|refine za (zys) ?_|refine za (c1020) ?_|refine za (zyr) ?_|refine za (c1083) ?_|refine za (zyA) ?_|refine za (zyz) ?_|refine za (zyq) ?_|refine za (zyy) ?_|refine za (zyx) ?_|refine za (c1038) ?_|refine za (c1043) ?_|refine zp (λ_=>zre [bs [114]] [bs [114]]) ?_|refine gG ?_|show AK _;intro J Z|refine gJ ?_|omega|exact aT
 all_goals first|exact weakB (by decide)|decide
end Go.Proofs.YtijgimeokgbifaaGreat
