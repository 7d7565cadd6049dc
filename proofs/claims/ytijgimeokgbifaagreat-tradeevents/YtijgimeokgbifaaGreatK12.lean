/- Contracts of functions, for the claim. No conditions. -/
import Derived.Test.YtijgimeokgbifaaGreatK3
import Derived.Test.YtijgimeokgbifaaGreatK10
import Derived.Test.YtijgimeokgbifaaGreatK11
import Derived.Test.YtijgimeokgbifaaGreatK9
set_option linter.all false
set_option maxHeartbeats 8000000
set_option maxRecDepth 100000
namespace Go.Proofs.YtijgimeokgbifaaGreat
open Go.RowKit Tryz
def weakB {a b:Bool} (h:a=b):Weak (.b a) (.b b):=h ▸ .refl _
def Win.add (k:Int) (w:Win):Win:=⟨w.lim,w.beg,w.cnt+k⟩
def rqI (L:List Req) (but:Int) (i:Nat):List Req:=match L[i]? with|some r=>if (i:Int)=but then [] else [r]|none=>[]
def rqK (L:List Req) (but:Int) (k:Nat):List Req:=(List.range k).flatMap (rqI L but)
def rqW (L:List Req) (but:Int):List Req:=rqK L but L.length
abbrev zv6 (r:Req):List PV:=[r.pv]
def zkJ (L:List Slt) (W:List Wsh) (but:Int) (hn:L.length<=1000000):zpr prog 194 [.ip (.agg [.sl 16 (L.map Slt.pv),.sl 14 (W.map Wsh.pv)]) 0,.ip (.i .i64 but) 0] ((rqW (L.map (·.req)) but).map zv6):=by
 refine zg4 (cF func194 f194.eq_1) (by simp) λhw X hX=>?_
 simp only [zbn]
 repeat' first|refine gC ?_ ?_<;>intro hc<;>try contradiction|refine gG ?_|show AK _;intro J Z|refine gJ ?_|omega|exact aT
 refine zi (κ:=Nat) (λk=>⟨[(0,.yield),(1,.p (.ip (.agg [.sl 16 (L.map Slt.pv),.sl 14 (W.map Wsh.pv)]) 0)),(2,.p (.ip (.i .i64 but) 0)),(7,.p (.sl 16 (L.map Slt.pv))),(8,.p (.i .i64 L.length)),(9,.p (.i .i64 k))],[],(rqK (L.map (·.req)) but k).map zv6,false⟩) (λk=>k<=L.length) (λk=>L.length - k) 0 ?_ ?_ ?_
 ·refine gJ ?_;simp [rqK]
 ·simp
 ·intro k hk
  repeat first|refine gG ?_|show AK _;intro J Z|refine gJ ?_|omega|exact aT
  (refine gC ?_ ?_<;>intro hc<;>try contradiction)
  ·obtain ⟨s,hx⟩:=zm (i:=k) (l:=L) (by omega)
   have hs:=zbk (rqI (L.map (·.req)) but) (show k < (L.map (·.req)).length by simp;omega)
   by_cases hb:(k:Int)=but
   ·have hi:rqI (L.map (·.req)) but k=[]:=by rw [rqI,xah,hx];exact if_pos hb
    have hb':((k:Int)=but)=True:=eq_true hb;have qe:=aI qR (aI @hx (aI @hb' (aI @decide_true @xam)));repeat' first|refine gC ?_ ?_<;>intro hc<;>try contradiction|(show zh _ _ _ _ (⟨_,.callv,_,_,_⟩::_) _ _;refine zbg (q:=(.b false)) (by first|rfl|(simp (disch:=omega) only [qG,qe,seval]<;>rfl)) ?_;(try (refine zF ?_)))|refine gG ?_|show AK _;intro J Z|refine gJ ?_|omega|exact aT
    exact ⟨k+1,by omega,by omega,by simp,by rw [rqK,zac,hi,xat,<-rqK]⟩
   ·have hi:rqI (L.map (·.req)) but k=[s.req]:=by rw [rqI,xah,hx];exact if_neg hb
    have hb':((k:Int)=but)=False:=eq_false hb;have hs':(rqW (L.map (·.req)) but).map zv6=(rqK (L.map (·.req)) but k).map zv6++zv6 s.req::((List.range' (k+1) ((L.map (·.req)).length - (k+1))).flatMap (rqI (L.map (·.req)) but)).map zv6:=by
     rw [rqW,rqK,hs,hi];simp [rqK]
    have qe:=aI qR (aI @hx (aI @hb' (aI @decide_false @xal)));repeat' first|refine gC ?_ ?_<;>intro hc<;>try contradiction|(show zh _ _ _ _ (⟨_,.callv,_,_,_⟩::_) _ _;refine zgv (by first|rfl|(simp (disch:=omega) only [qG,qe,seval]<;>rfl)) (by simp (disch:=omega) only [qS,qe,seval]) (by simp (disch:=omega) only [qS,qe,seval]<;>rfl) (by simp (disch:=omega) only [qS,qe,seval];try trivial) rfl _ (hs') ?_;intro b;(refine zF ?_))|refine gG ?_|show AK _;intro J Z|refine gJ ?_|omega|exact aT
    ·subst hc;exact .inl rfl
    ·subst hc;exact ⟨k+1,by omega,by omega,by simp,by rw [rqK,zac,hi,<-rqK];simp,rfl⟩
  ·repeat' first|refine gC ?_ ?_<;>intro hc<;>try contradiction|refine gG ?_|show AK _;intro J Z|refine gJ ?_|omega|exact aT
   have e:k=L.length:=by omega
   subst e;exact .inr (by rw [rqW];simp)
def zq0 (L:List Slt) (W:List Wsh) (but:Int):Pure prog 119 [.agg [.sl 16 (L.map Slt.pv),.sl 14 (W.map Wsh.pv)],.i .i64 but] (.fn (.func 194) [] [.ip (.agg [.sl 16 (L.map Slt.pv),.sl 14 (W.map Wsh.pv)]) 0,.ip (.i .i64 but) 0]):=by
 refine pz func119 f119.eq_1 λhw X hX=>?_
 exact gD0
def mvF (l:List Req):List Mov:=l.foldl (λout r=>mgR out (zgR r)) []
def zkC {l:List Req} {k:Nat} {r:Req} (h:l[k]?=some r):mvF (l.take (k+1))=mgR (mvF (l.take k)) (zgR r):=by
 rw [zam h,mvF,xa2];rfl
def zgL (L:List Slt) (W:List Wsh) (but:Int) (hn:L.length<=1000000):Pure prog 74 [.agg [.sl 16 (L.map Slt.pv),.sl 14 (W.map Wsh.pv)],.i .i64 but] (.sl 7 ((mvF (rqW (L.map (·.req)) but)).map Mov.pv)):=by
 refine pz func74 f74.eq_1 λhw X hX=>?_
 repeat' first|refine gC ?_ ?_<;>intro hc<;>try contradiction|refine za (zq0 L W but) ?_|refine gG ?_|show AK _;intro J Z|refine gJ ?_|omega|exact aT
 refine zfP 5 [.p .nilsl] [.p (.sl 7 ([]:List PV))] (sR) ⟨.inr ⟨7,rfl,rfl⟩,trivial⟩ ?_;refine zcm rfl (zkJ L W but hn) ?_ ?_ [(2,.lp 2 0),(5,.lp 5 0)] (λk=>[(2,.box [.p (.sl 16 (L.map Slt.pv)),.p (.sl 14 (W.map Wsh.pv))] false),(5,.box [.p (.sl 7 ((mvF ((rqW (L.map (·.req)) but).take k)).map Mov.pv))] false)]) (λ_=>[]) ?_ ?_ ?_
 ·simp
 ·simp [hX]
 ·simp only [St.wr,oset.eq_1,oset.eq_2,qS,seval]<;>rfl
 ·intro k t ht X' ro' hX';simp only [xah,xac] at ht;obtain ⟨r,hr,rfl⟩:=ht;have hnx:=zkC hr;simp only [qS,seval]
  repeat' first|refine gC ?_ ?_<;>intro hc<;>try contradiction|refine gG ?_|show AK _;intro J Z|refine gJ ?_|omega|exact aT
  intro X1 hX1;have qe:=@qR;repeat' first|refine gC ?_ ?_<;>intro hc<;>try contradiction|refine za (zkf r) ?_|refine za (zi1 (mvF ((rqW (L.map (·.req)) but).take k)) (zgR r)) ?_|refine gG ?_|show AK _;intro J Z|refine gJ ?_|omega|exact aT
  rw [hnx]
 ·simp only [xaf];have qe:=@List.take_length.{0};exact gD0
def zeq (l:List Lim) (m:List Mov) (r:Req):Pure prog 116 [.sl 11 (l.map Lim.pv),.sl 7 (m.map Mov.pv),r.pv] (.b (zjz l m r)):=by
 refine pz func116 f116.eq_1 λhw X hX=>?_
 repeat' first|refine gC ?_ ?_<;>intro hc<;>try contradiction|refine za (zw4 l m r) ?_|refine gG ?_|show AK _;intro J Z|refine gJ ?_|omega|exact aT
 have e:(decide (fitC l m r=0) && zjz l m r)=zjz l m r:=by
  rw [zjz,<-Bool.and_assoc,Bool.and_self]
 rw [e];exact .refl _
def mvE (b:Bk):List Mov:=if zG b=0 then mvF (rqW (b.slots.map (·.req)) (-1)) else []
def ziq {b:Bk} (h:zG b=0):b.slots.length<=64/\b.wait.length<=64:=by
 have h1:=fE0 h _ (xar);have h2:=fE0 h (if 64 < (b.wait.length:Int) then 5 else 0) (by simp)
 constructor
 ·by_cases hh:64 < (b.slots.length:Int)
  ·rw [if_pos hh] at h1;omega
  ·omega
 ·by_cases hh:64 < (b.wait.length:Int)
  ·rw [if_pos hh] at h2;omega
  ·omega
def zrc (b:Bk):Pure prog 38 [b.pv] (.tup [.sl 7 ((mvE b).map Mov.pv),.i .i64 (zG b)]):=by
 refine pz func38 f38.eq_1 λhw X hX=>?_
 repeat' first|refine gC ?_ ?_<;>intro hc<;>try contradiction|refine za (zV b) ?_|refine gG ?_|show AK _;intro J Z|refine gJ ?_|omega|exact aT
 ·rw [mvE,if_neg hc];exact zhr (.nilsl _) (.refl _)
 ·have hl:=ziq hc
  repeat' first|refine gC ?_ ?_<;>intro hc<;>try contradiction|refine za (zgL b.slots b.wait (-1) (by omega)) ?_|refine gG ?_|show AK _;intro J Z|refine gJ ?_|omega|exact aT
  rw [mvE,if_pos hc,hc];exact .refl _
def zdK (l:List Slt):(l.map Slt.raw).map (·.req.name)=l.map (·.req.name):=by rw [xbn];rfl
def zwa (b:Bk) (n:ByteArray):Int:=zf [zG b,if atL n (b.slots.map (·.req.name)) < 0 then 10 else 0]
def za7 (b:Bk) (n:ByteArray):Pure prog 81 [.agg [.sl 16 (b.slots.map Slt.pv),.sl 14 (b.wait.map Wsh.pv)],.s n] (.i .i64 (atL n (b.slots.map (·.req.name)))):=by
 have h:=zes (b.slots.map Slt.raw) b.wait n;rw [<-zeI,zdK] at h;exact h
def zY (b:Bk) (n:ByteArray):Pure prog 80 [.agg [.sl 16 (b.slots.map Slt.pv),.sl 14 (b.wait.map Wsh.pv)],.s n] (.i .i64 (if atL n (b.slots.map (·.req.name)) < 0 then 10 else 0)):=by
 have h:=zq6 (b.slots.map Slt.raw) b.wait n;rw [<-zeI,zdK] at h;exact h
def zer (s:Slt) (d:Int):Pure prog 85 [s.pv,.i .i64 d] (.i .i64 (zcX (λl=>decide (l.fro<=d) && decide (d<=l.to)) s.ls)):=by
 refine pz func85 f85.eq_1 λhw X hX=>?_
 simp only [wfs,PV.wf,xaf,maxLen] at hw
 repeat' first|refine gC ?_ ?_<;>intro hc<;>try contradiction|refine gG ?_|show AK _;intro J Z|refine gJ ?_|omega|exact aT
 refine zi (κ:=Nat) (λi=>⟨[(1,.p (.i .i64 d)),(2,.lp 2 0),(5,.p (.i .i64 (-1))),(9,.p (.sl 3 (s.ls.map Lea.pv))),(10,.p (.i .i64 s.ls.length)),(11,.p (.i .i64 i))],[(2,.box (s.cells.map .p) false)],[],false⟩) (λi=>i<=s.ls.length/\∀ y ∈ s.ls.take i,(decide (y.fro<=d) && decide (d<=y.to))=false) (λi=>s.ls.length - i) 0 ?_ ?_ ?_
 ·exact sR
 ·simp
 ·intro i hi
  repeat first|refine gG ?_|show AK _;intro J Z|refine gJ ?_|omega|exact aT
  (refine gC ?_ ?_<;>intro hc<;>try contradiction)
  ·obtain ⟨y,hy⟩:=zm (i:=i) (l:=s.ls) (by omega)
   have qe:=aI qR @hy;repeat' first|refine gC ?_ ?_<;>intro hc<;>try contradiction|refine za (zqW y d) ?_|refine gG ?_|show AK _;intro J Z|refine gJ ?_|omega|exact aT
   ·rw [zdt hi.2 hy (by simpa using hc)];exact .refl _
   ·exact ⟨i+1,⟨by omega,zgq hi.2 hy (by simpa using hc)⟩,by omega,by simp⟩
  ·repeat' first|refine gC ?_ ?_<;>intro hc<;>try contradiction|refine gG ?_|show AK _;intro J Z|refine gJ ?_|omega|exact aT
   rw [zdu (λy hy=>hi.2 y (by rw [xag (by omega)];exact hy))];exact .refl _
theorem zdD (n:ByteArray):∀ l,atL n l < l.length
 | []=>by simp [atL]
 | x::r=>by have:=zdD n r;simp only [atL,xaE];(repeat' split)<;>omega
def zdL {b:Bk} {n:ByteArray} (h:¬atL n (b.slots.map (·.req.name)) < 0):∃ s,b.slots[(atL n (b.slots.map (·.req.name))).toNat]?=some s:=by
 have:=zdD n (b.slots.map (·.req.name));rw [xaf] at this;exact ⟨_,xab (by omega)⟩
def zn (b:Bk) (n:ByteArray):Slt:=(b.slots[(atL n (b.slots.map (·.req.name))).toNat]?).getD ⟨⟨s0,s0,s0,s0,s0,s0,⟨0,0,0⟩,0,0,0,0⟩,s0,[],[]⟩
def zxv (b:Bk) (n:ByteArray):ByteArray:=if zwa b n=0 then (zn b n).holder else s0
def zra (b:Bk) (n:ByteArray):Pure prog 34 [b.pv,.s n] (.tup [.s (zxv b n),.i .i64 (zwa b n)]):=by
 refine pz func34 f34.eq_1 λhw X hX=>?_
 simp only [wfs,PV.wf,xaf,maxLen] at hw;have qe:=@qR;repeat' first|refine gC ?_ ?_<;>intro hc<;>try contradiction|refine za (zV b) ?_|refine za (zY b n) ?_|refine za (zw [_,_]) ?_|refine gG ?_|show AK _;intro J Z|refine gJ ?_|omega|exact aT
 ·have h:¬zwa b n=0:=hc;rw [zxv,if_neg h];exact .refl _
 ·have h:zwa b n=0:=hc;have hu:=fE0 hc (if atL n (b.slots.map (·.req.name)) < 0 then 10 else 0) (by simp)
  have hu':¬atL n (b.slots.map (·.req.name)) < 0:=λe=>by rw [if_pos e] at hu;omega
  obtain ⟨s,hs⟩:=zdL hu';have hlt:=zdD n (b.slots.map (·.req.name));rw [xaf] at hlt;have qe:=aI qR @hs;repeat' first|refine gC ?_ ?_<;>intro hc<;>try contradiction|refine za (za7 b n) ?_|refine gG ?_|show AK _;intro J Z|refine gJ ?_|omega|exact aT
  rw [zxv,if_pos h,h,zn,hs];exact .refl _
def leaI (s:Slt) (d:Int):Int:=zcX (λl=>decide (l.fro<=d) && decide (d<=l.to)) s.ls
theorem zju {α:Type} (p:α->Bool):∀ l,zcX p l < l.length
 | []=>by simp [zcX]
 | x::r=>by have:=zju p r;simp only [zcX,xaE];(repeat' split)<;>omega
def oprE (b:Bk) (n:ByteArray) (d:Int):Int:=zf [zG b,if atL n (b.slots.map (·.req.name)) < 0 then 10 else 0,rng d 0 99999]
def zpv (s:Slt) (d:Int):Int:=if zsZ s.req.per d=0/\zs0 s.req.per d=true then 0 else 30
def oprY (s:Slt) (d:Int):ByteArray:=if leaI s d < 0 then s.holder else ((s.ls[(leaI s d).toNat]?).map Lea.carrier).getD s0
def zpw (b:Bk) (n:ByteArray) (d:Int):Int:=zf [oprE b n d,zpv (zn b n) d]
def zjb (b:Bk) (n:ByteArray) (d:Int):ByteArray:=if zpw b n d=0 then oprY (zn b n) d else s0
def zkp (b:Bk) (n:ByteArray) (d:Int):Pure prog 36 [b.pv,.s n,.i .i64 d] (.tup [.s (zjb b n d),.i .i64 (zpw b n d)]):=by
 refine pz func36 f36.eq_1 λhw X hX=>?_
 simp only [wfs,PV.wf,xaf,maxLen] at hw;have qe:=@qR;repeat' first|refine gC ?_ ?_<;>intro hc<;>try contradiction|refine za (zV b) ?_|refine za (zY b n) ?_|refine za (zb0 d) ?_|refine za (zw [_,_,_]) ?_|refine gG ?_|show AK _;intro J Z|refine gJ ?_|omega|exact aT
 ·have h:¬oprE b n d=0:=hc;have h':zpw b n d=oprE b n d:=by rw [zpw,za1 h]
  have e1:zjb b n d=s0:=by rw [zjb,if_neg (λe=>h (h'.symm.trans e))]
  rw [e1,h'];exact .refl _
 ·have h:oprE b n d=0:=hc;have hu:=fE0 hc (if atL n (b.slots.map (·.req.name)) < 0 then 10 else 0) (by simp)
  have hu':¬atL n (b.slots.map (·.req.name)) < 0:=λe=>by rw [if_pos e] at hu;omega
  obtain ⟨s,hs⟩:=zdL hu';have hlt:=zdD n (b.slots.map (·.req.name));rw [xaf] at hlt;have hso:zn b n=s:=by rw [zn,hs];rfl
  have hC:zpw b n d=zpv s d:=by rw [zpw,za2 h,zfj,hso]
  have hlL:zcX (λl=>decide (l.fro<=d) && decide (d<=l.to)) s.ls < s.ls.length:=zju _ _
  by_cases hle:leaI s d < 0
  ·have hle':zcX (λl=>decide (l.fro<=d) && decide (d<=l.to)) s.ls < 0:=hle
   have qe:=aI qR @hs;repeat' first|refine gC ?_ ?_<;>intro hc<;>try contradiction|refine za (za7 b n) ?_|refine za (zi6 s.req.per d) ?_|refine za (zer s d) ?_|refine gG ?_|show AK _;intro J Z|refine gJ ?_|omega|exact aT
   ·have hx:zpv s d=30:=by rw [zpv,if_neg (λe=>hc.elim (λf=>f e.1) (λf=>by rw [e.2] at f;cases f))]
    have e1:zjb b n d=s0:=by rw [zjb,hC,hx];rfl
    rw [e1,hC,hx];exact .refl _
   ·have hx:zpv s d=0:=by rw [zpv,if_pos (by assumption)]
    have e1:zjb b n d=s.holder:=by rw [zjb,hC,hx,if_pos rfl,hso,oprY,if_pos hle]
    rw [e1,hC,hx];exact .refl _
  ·obtain ⟨y,hy⟩:∃ y,s.ls[(zcX (λl=>decide (l.fro<=d) && decide (d<=l.to)) s.ls).toNat]?=some y:=⟨_,xab (by have:¬zcX (λl=>decide (l.fro<=d) && decide (d<=l.to)) s.ls < 0:=hle;omega)⟩
   have hle':¬zcX (λl=>decide (l.fro<=d) && decide (d<=l.to)) s.ls < 0:=hle
   have qe:=aI qR (aI @hs @hy);repeat' first|refine gC ?_ ?_<;>intro hc<;>try contradiction|refine za (za7 b n) ?_|refine za (zi6 s.req.per d) ?_|refine za (zer s d) ?_|refine gG ?_|show AK _;intro J Z|refine gJ ?_|omega|exact aT
   ·have hx:zpv s d=30:=by rw [zpv,if_neg (λe=>hc.elim (λf=>f e.1) (λf=>by rw [e.2] at f;cases f))]
    have e1:zjb b n d=s0:=by rw [zjb,hC,hx];rfl
    rw [e1,hC,hx];exact .refl _
   ·have hx:zpv s d=0:=by rw [zpv,if_pos (by assumption)]
    have e1:zjb b n d=y.carrier:=by rw [zjb,hC,hx,if_pos rfl,hso,oprY,if_neg hle,show leaI s d=zcX (λl=>decide (l.fro<=d) && decide (d<=l.to)) s.ls from rfl,hy];rfl
    rw [e1,hC,hx];exact .refl _
def zhn (b:Bk) (c n:ByteArray) (a:Int):Int:=zf [zaG c,zfd b.slots n,a,if (zn b n).holder=c then 0 else 31]
abbrev zwL (q:Req):PV:=.agg [.s q.name,.s q.carrier,.s q.kind,.s q.term,.s q.partner,.s q.link,.i .i64 q.per.fro,.i .i64 q.per.to,.i .i64 q.per.days,.i .i64 q.minute,.i .i64 q.seats,.i .i64 q.size,.i .i64 q.noise,.s q.carrier,.nilsl,.nilsl]
def zgP (q:Req):Slt:=⟨q,q.carrier,[],[]⟩
def zmJ (q:Req):Wks (zwL q).cells (zgP q).pv.cells:=
 ⟨.refl _,.refl _,.refl _,.refl _,.refl _,.refl _,.refl _,.refl _,.refl _,.refl _,.refl _,.refl _,.refl _,.refl _,.nilsl _,.nilsl _,trivial⟩
def bk0:Bk:=⟨[],[]⟩
def zbt (e:Int):Wk (.tup [.agg [.nilsl,.nilsl],.i .i64 e]) (.tup [bk0.pv,.i .i64 e]):=.tup ⟨.agg ⟨.nilsl _,.nilsl _,trivial⟩,.refl _,trivial⟩
def zhx (b:Bk) (n:ByteArray):Pure prog 115 [.agg [.sl 16 (b.slots.map Slt.pv),.sl 14 (b.wait.map Wsh.pv)],.s n] (.b (zhw (b.slots.map (·.req.name)) (b.wait.map (·.req.name)) n)):=by
 have h:=zq1 (b.slots.map Slt.raw) b.wait n;rw [<-zeI,zdK] at h;exact h
structure zfy (b:Bk):Prop where
 s:∀ s ∈ b.slots,zld s
 n:b.slots.length<=1000
 w:b.wait.length<=1000
def tkE (b:Bk) (n:ByteArray):Int:=if zhw (b.slots.map (·.req.name)) (b.wait.map (·.req.name)) n=true then 9 else 0
def zoy (b:Bk) (q:Req):Int:=zf [zsh q,tkE b q.name,if 64<=(b.slots.length:Int) then 5 else 0]
def movF (b:Bk) (but:Int):List Mov:=mvF (rqW (b.slots.map (·.req)) but)
def zei (l:List Lim) (b:Bk) (q:Req):Int:=if zoy b q=0 then (if zjz l (movF b (-1)) q=true then 0 else 14) else zoy b q
def zjv (l:List Lim) (b:Bk) (q:Req):Bk:=if zei l b q=0 then ⟨b.slots++[zgP q],b.wait⟩ else bk0
def zq4 (l:List Lim) (b:Bk) (q:Req) (hb:zfy b):Pure prog 72 [b.pv,.sl 11 (l.map Lim.pv),q.pv] (.tup [(zjv l b q).pv,.i .i64 (zei l b q)]):=by
 obtain ⟨hs,hn,hwl⟩:=hb;refine zar (r:=if zei l b q=0 then .tup [.agg [.sl 16 (b.slots.map Slt.pv++[zwL q]),.sl 14 (b.wait.map Wsh.pv)],.i .i64 0] else .tup [.agg [.nilsl,.nilsl],.i .i64 (zei l b q)]) ?_ ?_
 ·refine pz func72 f72.eq_1 λhw X hX=>?_
  have ht:∀ n,(if zhw (b.slots.map (·.req.name)) (b.wait.map (·.req.name)) n=true then (9:Int) else 0)=tkE b n:=λ_=>rfl
  have hm:mvF (rqW (b.slots.map (·.req)) (-1))=movF b (-1):=rfl;have hl:(b.slots.map Slt.pv++[zwL q]).length=b.slots.length+1:=by simp
  have qe:=aI qR (aI @qN (aI @zaz (aI @zay @zah)));repeat' first|refine gC ?_ ?_<;>intro hc<;>try contradiction|refine za (zgG q) ?_|refine za (zhx b q.name) ?_|refine za (zU _ _) ?_|refine za (zw [_,_,_]) ?_|refine za (zgL b.slots b.wait (-1) (by omega)) ?_|refine za (zeq l _ q) ?_|refine zl [(100,200),(7,201)] (zbA b.slots b.wait hs (by omega) (by omega)) ?_|refine gG ?_|show AK _;intro J Z|refine gJ ?_|omega|exact aT
  ·have h:¬zoy b q=0:=hc;rw [zei,if_neg h,if_neg h];exact .refl _
  ·have h:zoy b q=0:=by assumption
   have hf:zjz l (movF b (-1)) q=false:=by simpa [hm] using hc
   rw [zei,if_pos h,hf];exact .refl _
  ·have h:zoy b q=0:=by assumption
   have hf:zjz l (movF b (-1)) q=true:=by simpa [hm] using hc
   rw [zei,if_pos h,hf];exact .refl _
 ·by_cases h:zei l b q=0
  ·rw [if_pos h,zjv,if_pos h,h];refine .tup ⟨.agg ⟨.sl ?_,.refl _,trivial⟩,.refl _,trivial⟩;rw [xaO];exact .app (.refl _) ⟨zmJ q,trivial⟩
  ·rw [if_neg h,zjv,if_neg h];exact zbt _
def zfN (l:List Lim) (b:Bk) (q:Req):Int:=if zf [zZ l,zG b]=0 then zei l b q else zf [zZ l,zG b]
def zhl (l:List Lim) (b:Bk) (q:Req):Bk:=if zfN l b q=0 then zjv l b q else bk0
def zuZ {l:List Lim} {b:Bk} {q:Req} (h:zei l b q≠0):zjv l b q=bk0:=by rw [zjv,if_neg h]
def zgN (l:List Lim) (b:Bk) (q:Req) (hb:zG b=0->zfy b):Pure prog 26 [.sl 11 (l.map Lim.pv),b.pv,q.pv] (.tup [(zhl l b q).pv,.i .i64 (zfN l b q)]):=by
 refine zar (r:=if zf [zZ l,zG b]=0 then .tup [(zjv l b q).pv,.i .i64 (zei l b q)] else .tup [.agg [.nilsl,.nilsl],.i .i64 (zf [zZ l,zG b])]) ?_ ?_
 ·by_cases h:zf [zZ l,zG b]=0
  ·have h1:=h;have e1:(zf [zZ l,zG b]=0)=True:=eq_true h;rw [if_pos h];refine pz func26 f26.eq_1 λhw X hX=>?_
   have hb':=hb (fE0 h _ (by simp))
   have qe:=aI qR (aI @qN @e1);have jA:=zeR l;have jB:=zV b;have jC:=λu1 u2=>zw [u1,u2];have jD:=zq4 l b q hb';exact gD4
  ·have e1:(zf [zZ l,zG b]=0)=False:=eq_false h;rw [if_neg h];refine pz func26 f26.eq_1 λhw X hX=>?_
   have qe:=aI qR (aI @qN @e1);have jA:=zeR l;have jB:=zV b;have jC:=λu1 u2=>zw [u1,u2];exact gD4
 ·by_cases h:zf [zZ l,zG b]=0
  ·rw [if_pos h,zhl,zfN,if_pos h]
   by_cases k:zei l b q=0
   ·rw [if_pos k];exact .refl _
   ·rw [if_neg k,zuZ k];exact .refl _
  ·rw [if_neg h,zhl,zfN,if_neg h,if_neg h];exact zbt _
def zfC (b:Bk) (w:Wsh):Int:=zf [zkY w,tkE b w.req.name,if 64<=(b.wait.length:Int) then 5 else 0]
def zlg (b:Bk) (w:Wsh):Bk:=if zfC b w=0 then ⟨b.slots,zbJ zwc (b.wait++[w])⟩ else bk0
def zq9 (b:Bk) (w:Wsh) (hb:zfy b) (hn:b.wait.length<=11):Pure prog 73 [b.pv,w.pv] (.tup [(zlg b w).pv,.i .i64 (zfC b w)]):=by
 obtain ⟨hs,hn1,hwl⟩:=hb;refine zar (r:=if zfC b w=0 then .tup [.agg [.sl 16 (b.slots.map Slt.pv),.sl 14 ((zbJ zwc (b.wait++[w])).map Wsh.pv)],.i .i64 0] else .tup [.agg [.nilsl,.nilsl],.i .i64 (zfC b w)]) ?_ ?_
 ·refine pz func73 f73.eq_1 λhw X hX=>?_
  have ht:∀ n,(if zhw (b.slots.map (·.req.name)) (b.wait.map (·.req.name)) n=true then (9:Int) else 0)=tkE b n:=λ_=>rfl
  have hA:=λl=>eq_true (zvY l)
  have hm:b.wait.map Wsh.pv++[w.pv]=(b.wait++[w]).map Wsh.pv:=by simp
  have hl:(b.wait++[w]).length=b.wait.length+1:=by simp
  have h1156:=zsH zgK (b.wait++[w]) (by rw [hl];omega)
  rw [hl,<-hm] at h1156;have hsl:(zbJ zwc (b.wait++[w])).length=b.wait.length+1:=by rw [zH];exact hl
  have qe:=aI qR (aI @qN (aI @zaz (aI @zay (aI @zah (aI @hA @hsl)))));repeat' first|refine gC ?_ ?_<;>intro hc<;>try contradiction|refine za (zgJ w) ?_|refine za (zhx b w.req.name) ?_|refine za (zU _ _) ?_|refine za (zw [_,_,_]) ?_|refine zl [(100,200),(7,201)] (zbA b.slots b.wait hs (by omega) (by omega)) ?_|refine zl [(900,201)] (h1156) ?_|refine gG ?_|show AK _;intro J Z|refine gJ ?_|omega|exact aT
  ·have h:¬zfC b w=0:=hc;rw [if_neg h];exact .refl _
  ·have h:zfC b w=0:=hc;rw [if_pos h];exact .refl _
 ·by_cases h:zfC b w=0
  ·rw [if_pos h,zlg,if_pos h,h];exact .refl _
  ·rw [if_neg h,zlg,if_neg h];exact zbt _
def zmE (b:Bk) (w:Wsh):Int:=if zG b=0 then zfC b w else zG b
def zpn (b:Bk) (w:Wsh):Bk:=if zmE b w=0 then zlg b w else bk0
def zrh (b:Bk) (w:Wsh) (hb:zG b=0->zfy b) (hn:b.wait.length<=10):Pure prog 28 [b.pv,w.pv] (.tup [(zpn b w).pv,.i .i64 (zmE b w)]):=by
 refine zar (r:=if zG b=0 then .tup [(zlg b w).pv,.i .i64 (zfC b w)] else .tup [.agg [.nilsl,.nilsl],.i .i64 (zG b)]) ?_ ?_
 ·by_cases h:zG b=0
  ·have e1:(zG b=0)=True:=eq_true h;rw [if_pos h];refine pz func28 f28.eq_1 λhw X hX=>?_
   have qe:=aI qR (aI @qN @e1);have jA:=zV b;have jB:=zq9 b w (hb h) (Nat.le_succ_of_le hn);exact gD2
  ·have e1:(zG b=0)=False:=eq_false h;rw [if_neg h];refine pz func28 f28.eq_1 λhw X hX=>?_
   have qe:=aI qR (aI @qN @e1);have jA:=zV b;exact gD2
 ·by_cases h:zG b=0
  ·rw [if_pos h,zpn,zmE,if_pos h]
   by_cases k:zfC b w=0
   ·rw [if_pos k];exact .refl _
   ·rw [if_neg k,zlg,if_neg k];exact .refl _
  ·rw [if_neg h,zpn,zmE,if_neg h,if_neg h];exact zbt _
def zx (b:Bk) (n:ByteArray):Nat:=(atL n (b.slots.map (·.req.name))).toNat
def zfM (b:Bk) (c n:ByteArray) (e ce:Int):Int:=zf [zhn b c n e,ce]
def zuE (b:Bk) (c n:ByteArray) (e:Int) (h:zf [zaG c,zfd b.slots n,e]≠0):zhn b c n e=zf [zaG c,zfd b.slots n,e]:=by
 simp only [zhn,zf] at h ⊢;(repeat' split)<;>simp_all
def zrl (b:Bk) (c n:ByteArray) (e:Int) (h:zf [zaG c,zfd b.slots n,e]=0):zhn b c n e=if (zn b n).holder=c then 0 else 31:=by
 rw [zhn,za2 (fE0 h _ (by simp)),za2 (fE0 h _ (by simp)),za2 (fE0 h _ (by simp)),zfj]
theorem znu (m:Nat->Nat):∀ l:List PV,rens m (l.map .p)=l.map .p
 | []=>by simp only [xay,rens]
 | x::l=>by simp only [xak,rens,LV.ren,znu m l]
def zkl {cf:Nat} {caps:List PV} (b:Bk) (c n:ByteArray) (e ce:Int) (xs:List PV) (hb:zfy b) (hx:xs.length=b.slots.length)
  (hf:zhn b c n e=0->Acts prog cf ([.ep 900 b.slots.length (zx b n) 0]++caps.map .p) [(900,.row 84 16 (b.slots.map Slt.pv) false)] (.p (.i .i64 ce)) [(900,.row 84 16 xs false)]) :
  Pure prog 129 [b.pv,.s c,.s n,.i .i64 e,.fn (.func cf) [] caps] (if zfM b c n e ce=0 then .tup [.agg [.sl 16 xs,.sl 14 (b.wait.map Wsh.pv)],.i .i64 0] else .tup [.agg [.nilsl,.nilsl],.i .i64 (zfM b c n e ce)]):=by
 obtain ⟨hs,hn,hwl⟩:=hb;refine pz func129 f129.eq_1 λhw X hX=>?_
 have hfd:(if atL n (b.slots.map (·.req.name)) < 0 then (10:Int) else 0)=zfd b.slots n:=rfl
 by_cases hown:zhn b c n e=0
 ·have h3:zf [zaG c,zfd b.slots n,e]=0:=by
   refine xbt λh=>?_
   rw [zuE b c n e h] at hown;exact h hown
  have hat:¬atL n (b.slots.map (·.req.name)) < 0:=λh=>by
   have:=fE0 h3 (zfd b.slots n) (by simp)
   rw [zfd,if_pos h] at this;omega
  obtain ⟨s,hsl⟩:=zdL hat;have hlt:=zdD n (b.slots.map (·.req.name));rw [xaf] at hlt;have hso:zn b n=s:=by rw [zn,hsl];rfl
  have hh:s.holder=c:=by
   rw [zrl b c n e h3,hso] at hown;refine xbt λh=>?_
   rw [if_neg h] at hown;omega
  have hC:zfM b c n e ce=ce:=by rw [zfM,za2 hown,zfj]
  have hf':=hf hown;rw [zx] at hf';have h3t:(zf [zaG c,zfd b.slots n,e]=0)=True:=eq_true h3;have hxt:=hx;have qe:=aI qR (aI @qN (aI @zaz (aI @zay (aI @zah (aI @hfd (aI @h3t (aI @hsl (aI @hh (aI @hx (aI @decide_true (aI @xam (aI @List.append_nil.{0} (aI @List.map_cons.{0,0} (@List.map_nil.{0,0}))))))))))))));repeat' first|refine gC ?_ ?_<;>intro hc<;>try contradiction|refine za (zbv c) ?_|refine za (zY b n) ?_|refine za (zw [_,_,_]) ?_|refine zl [(100,200),(7,201)] (zbA b.slots b.wait hs (by omega) (by omega)) ?_|refine za (za7 b n) ?_|refine gG ?_|show AK _;intro J Z|refine gJ ?_|omega|exact aT
  have qe:=λm=>znu m caps
  refine zeL [(900,200)] (hf:=hf'.toE) (hn:=λ_=>?_)
  have qe:=aI qR (aI @qN (aI @zaz (aI @zay (aI @zah (aI @hx (aI @decide_true @xam))))));repeat' first|refine gC ?_ ?_<;>intro hc<;>try contradiction|refine gG ?_|show AK _;intro J Z|refine gJ ?_|omega|exact aT
  ·have h0:¬ce=0:=hc;rw [hC,if_neg h0];exact .refl _
  ·have h0:ce=0:=hc;rw [hC,if_pos h0];exact .refl _
 ·by_cases h3:zf [zaG c,zfd b.slots n,e]=0
  ·have hat:¬atL n (b.slots.map (·.req.name)) < 0:=λh=>by
    have:=fE0 h3 (zfd b.slots n) (by simp)
    rw [zfd,if_pos h] at this;omega
   obtain ⟨s,hsl⟩:=zdL hat;have hlt:=zdD n (b.slots.map (·.req.name));rw [xaf] at hlt;have hso:zn b n=s:=by rw [zn,hsl];rfl
   have hh:¬s.holder=c:=λh=>hown (by rw [zrl b c n e h3,hso,if_pos h])
   have ho:zhn b c n e=31:=by rw [zrl b c n e h3,hso,if_neg hh]
   have hC:zfM b c n e ce=31:=by rw [zfM,za1 (by rw [ho];omega),ho]
   rw [hC];have h3t:(zf [zaG c,zfd b.slots n,e]=0)=True:=eq_true h3;have hht:(s.holder=c)=False:=eq_false hh;have qe:=aI qR (aI @qN (aI @zaz (aI @zay (aI @zah (aI @hfd (aI @h3t (aI @hsl (aI @hht (aI @decide_true (aI @decide_false (aI @xam @xal)))))))))));repeat' first|refine gC ?_ ?_<;>intro hc<;>try contradiction|refine za (zbv c) ?_|refine za (zY b n) ?_|refine za (zw [_,_,_]) ?_|refine zl [(100,200),(7,201)] (zbA b.slots b.wait hs (by omega) (by omega)) ?_|refine za (za7 b n) ?_|refine gG ?_|show AK _;intro J Z|refine gJ ?_|omega|exact aT
   rw [if_neg (by decide)];exact .refl _
  ·have ho:=zuE b c n e h3;have hC:zfM b c n e ce=zf [zaG c,zfd b.slots n,e]:=by rw [zfM,za1 hown,ho]
   rw [hC,if_neg h3];have h3t:(zf [zaG c,zfd b.slots n,e]=0)=False:=eq_false h3;have qe:=aI qR (aI @qN (aI @hfd @h3t));have jA:=zbv c;have jB:=zY b n;have jC:=λu1 u2 u3=>zw [u1,u2,u3];exact gD4
def za6 {b:Bk} {c n:ByteArray} {e:Int} (hown:zhn b c n e=0):¬atL n (b.slots.map (·.req.name)) < 0/\b.slots[zx b n]?=some (zn b n)/\(zn b n).holder=c/\zf [zaG c,zfd b.slots n,e]=0:=by
 have h3:zf [zaG c,zfd b.slots n,e]=0:=by
  refine xbt λh=>?_
  rw [zuE b c n e h] at hown;exact h hown
 have hat:¬atL n (b.slots.map (·.req.name)) < 0:=λh=>by
  have:=fE0 h3 (zfd b.slots n) (by simp)
  rw [zfd,if_pos h] at this;omega
 obtain ⟨s,hsl⟩:=zdL hat;have hso:zn b n=s:=by rw [zn,hsl];rfl
 refine ⟨hat,by rw [zx,hsl,hso],?_,h3⟩
 rw [zrl b c n e h3] at hown;refine xbt λh=>?_
 rw [if_neg h] at hown;omega
theorem Wkr.set:∀ {ps qs:List PV} (i:Nat) {a c:PV},Wkr ps qs->Wks a.cells c.cells->Wkr (ps.set i a) (qs.set i c)
 | [],[],_,_,_,_,_=>trivial
 | [],_::_,_,_,_,h,_=>h.elim
 | _::_,[],_,_,_,h,_=>h.elim
 | _::_,_::_,0,_,_,h,k=>⟨k,h.2⟩
 | _::_,_::_,i+1,_,_,h,k=>⟨h.1,Wkr.set i h.2 k⟩
def zo8 (b:Bk) (n:ByteArray) (s:Slt):Bk:=⟨b.slots.set (zx b n) s,b.wait⟩
def zk0 {cf:Nat} {caps:List PV} (b:Bk) (c n:ByteArray) (e ce:Int) (s:Slt) (raw:PV) (ys:List PV) (hb:zfy b) (hr:Wks raw.cells s.pv.cells) (hy:ys.length=b.slots.length)
  (hf:zhn b c n e=0->Acts prog cf ([.ep 900 b.slots.length (zx b n) 0]++caps.map .p) [(900,.row 84 16 (b.slots.map Slt.pv) false)] (.p (.i .i64 ce)) [(900,.row 84 16 (if ce=0 then (b.slots.map Slt.pv).set (zx b n) raw else ys) false)]) :
  Pure prog 129 [b.pv,.s c,.s n,.i .i64 e,.fn (.func cf) [] caps] (.tup [(if zfM b c n e ce=0 then zo8 b n s else bk0).pv,.i .i64 (zfM b c n e ce)]):=by
 refine zar (zkl b c n e ce _ hb (by split<;>simp [hy]) hf) ?_
 by_cases h:zfM b c n e ce=0
 ·rw [if_pos h,if_pos h,h];have hce:ce=0:=by
   rw [zfM] at h;exact fE0 h _ (by simp)
  rw [if_pos hce];refine .tup ⟨.agg ⟨.sl ?_,.refl _,trivial⟩,.refl _,trivial⟩;rw [zo8,xbb];exact .set _ (.refl _) hr
 ·rw [if_neg h,if_neg h];exact zbt _
def zc3 (L:List PV) (i:Nat) (a:PV) (h:i < L.length):(L.set i a)[i]?=some a:=by simp [h]
def trS (s:Slt) (to:ByteArray):Slt:=⟨s.req,to,s.ls,[]⟩
abbrev trW (s:Slt) (to:ByteArray):PV:=.agg [.s s.req.name,.s s.req.carrier,.s s.req.kind,.s s.req.term,.s s.req.partner,.s s.req.link,.i .i64 s.req.per.fro,.i .i64 s.req.per.to,.i .i64 s.req.per.days,.i .i64 s.req.minute,.i .i64 s.req.seats,.i .i64 s.req.size,.i .i64 s.req.noise,.s to,.sl 3 (s.ls.map Lea.pv),.nilsl]
def zwf (s:Slt) (to:ByteArray):Wks (trW s to).cells (trS s to).pv.cells:=
 ⟨.refl _,.refl _,.refl _,.refl _,.refl _,.refl _,.refl _,.refl _,.refl _,.refl _,.refl _,.refl _,.refl _,.refl _,.refl _,.nilsl _,trivial⟩
def zhm (b:Bk) (y:Bk) (e:Int):Bk × Int:=if zG b=0 then (if e=0 then y else bk0,e) else (bk0,zG b)
def zhj {b y:Bk} {e:Int} (h:zG b=0) (hy:e≠0->y=bk0):zhm b y e=(y,e):=by
 rw [zhm,if_pos h]
 by_cases k:e=0
 ·rw [if_pos k]
 ·rw [if_neg k,hy k]
def zeD {b y:Bk} {e:Int} (h:¬zG b=0):zhm b y e=(bk0,zG b):=by rw [zhm,if_neg h]
def zcH {b:Bk} {n:ByteArray} (hat:¬atL n (b.slots.map (·.req.name)) < 0):b.slots[zx b n]?=some (zn b n)/\atL n (b.slots.map (·.req.name))=(zx b n:Int)/\zx b n < b.slots.length:=by
 obtain ⟨s,hsl⟩:=zdL hat;have hso:zn b n=s:=by rw [zn,hsl];rfl
 have hlt:=zdD n (b.slots.map (·.req.name));rw [xaf] at hlt;exact ⟨by rw [zx,hsl,hso],by rw [zx];omega,by rw [zx];omega⟩
def zqN (b:Bk) (n:ByteArray) (hat:¬atL n (b.slots.map (·.req.name)) < 0):Pure prog 209 [.s n,.ip (.agg [.sl 16 (b.slots.map Slt.pv),.sl 14 (b.wait.map Wsh.pv)]) 0] (zn b n).pv:=by
 obtain ⟨hsl,hfi,hi⟩:=zcH hat;have hfind:=za7 b n;rw [hfi] at hfind;refine pz func209 f209.eq_1 λhw X hX=>?_
 have qe:=aI qR (aI @qN @hsl);have jA:=hfind;exact gD2
def zqL (s:Slt):Pure prog 211 [s.pv] (.b (decide (0 < (s.ls.length:Int)))):=by
 refine pz func211 f211.eq_1 λhw X hX=>?_
 have qe:=@qR;exact gD0
def zqJ (s:Slt):Pure prog 213 [s.pv] (.s s.holder):=by
 refine pz func213 f213.eq_1 λhw X hX=>?_
 have qe:=@qR;exact gD0
def zqM {f:Nat} {L:List Slt} {p:SlR->Bool} (hf:∀ w ∈ L.map Slt.raw,Pure prog f [w.pv] (.b (p w))):Pure prog 210 [.sl 16 (L.map Slt.pv),.fn (.func f) [] []] (.b (decide (0<=zcX p (L.map Slt.raw)))):=by
 rw [zeI];refine pz func210 f210.eq_1 λhw X hX=>?_
 have jA:=zkh (L:=L.map Slt.raw) (p:=p) hf;exact gD2
def zqO {f:Nat} {caps:List PV} (N:List ByteArray) (g:ByteArray->Slt) (hf:∀ n ∈ N,Pure prog f (.s n::caps) (g n).pv) (hn:N.length<=100000):Pure prog 208 [.sl 1 (N.map .s),.fn (.func f) [] caps] (.sl 16 ((N.map g).map Slt.pv)):=by
 refine pz func208 f208.eq_1 λhw X hX=>?_
 repeat' first|refine gC ?_ ?_<;>intro hc<;>try contradiction|refine gG ?_|show AK _;intro J Z|refine gJ ?_|omega|exact aT
 refine zaO 100 84 16 [(1,.p (.fn (.func f) [] caps)),(5,.row 100 0),(8,.p (.sl 1 (N.map .s))),(9,.p (.i .i64 N.length)),(10,.p (.i .i64 0))] [] ?_ ?_
 ·simp only [Own,zaL,zaA,zbr,zax,qS,seval]
 refine zi (κ:=Nat) (λk=>⟨[(1,.p (.fn (.func f) [] caps)),(5,.row 100 k),(8,.p (.sl 1 (N.map .s))),(9,.p (.i .i64 N.length)),(10,.p (.i .i64 k))],[(100,.row 84 16 (((N.take k).map g).map Slt.pv) false)],[],false⟩) (λk=>k<=N.length) (λk=>N.length - k) 0 ?_ ?_ ?_
 ·exact sS
 ·simp
 ·intro k hk
  repeat first|refine gG ?_|show AK _;intro J Z|refine gJ ?_|omega|exact aT
  (refine gC ?_ ?_<;>intro hc<;>try contradiction)
  ·obtain ⟨x,hx⟩:=zm (i:=k) (l:=N) (by omega)
   have hl:(N.take k).length=k:=by rw [xai];omega
   have qe:=aI qR (aI @hx @hl);repeat' first|refine gC ?_ ?_<;>intro hc<;>try contradiction|refine zk (hf x (xad hx)) ?_|refine gG ?_|show AK _;intro J Z|refine gJ ?_|omega|exact aT
   exact ⟨k+1,by omega,by omega,by simp,by rw [zam hx];simp;omega⟩
  ·obtain rfl:k=N.length:=by omega
   have qe:=aI qR @List.take_length.{0};exact gD0
def zqK {f:Nat} (L:List Slt) (g:Slt->ByteArray) (hf:∀ s ∈ L,Pure prog f [s.pv] (.s (g s))) (hn:L.length<=100000):Pure prog 212 [.sl 16 (L.map Slt.pv),.fn (.func f) [] []] (.sl 1 ((L.map g).map .s)):=by
 refine pz func212 f212.eq_1 λhw X hX=>?_
 repeat' first|refine gC ?_ ?_<;>intro hc<;>try contradiction|refine gG ?_|show AK _;intro J Z|refine gJ ?_|omega|exact aT
 refine zaO 100 9 1 [(1,.p (.fn (.func f) [] [])),(5,.row 100 0),(8,.p (.sl 16 (L.map Slt.pv))),(9,.p (.i .i64 L.length)),(10,.p (.i .i64 0))] [] ?_ ?_
 ·simp only [Own,zaL,zaA,zbr,zax,qS,seval]
 refine zi (κ:=Nat) (λk=>⟨[(1,.p (.fn (.func f) [] [])),(5,.row 100 k),(8,.p (.sl 16 (L.map Slt.pv))),(9,.p (.i .i64 L.length)),(10,.p (.i .i64 k))],[(100,.row 9 1 (((L.take k).map g).map .s) false)],[],false⟩) (λk=>k<=L.length) (λk=>L.length - k) 0 ?_ ?_ ?_
 ·exact sS
 ·simp
 ·intro k hk
  repeat first|refine gG ?_|show AK _;intro J Z|refine gJ ?_|omega|exact aT
  (refine gC ?_ ?_<;>intro hc<;>try contradiction)
  ·obtain ⟨x,hx⟩:=zm (i:=k) (l:=L) (by omega)
   have hl:(L.take k).length=k:=by rw [xai];omega
   have qe:=aI qR (aI @hx @hl);repeat' first|refine gC ?_ ?_<;>intro hc<;>try contradiction|refine zk (hf x (xad hx)) ?_|refine gG ?_|show AK _;intro J Z|refine gJ ?_|omega|exact aT
   exact ⟨k+1,by omega,by omega,by simp,by rw [zam hx];simp;omega⟩
  ·obtain rfl:k=L.length:=by omega
   have qe:=aI qR @List.take_length.{0};exact gD0
def ztT {w:World} {B B':Nat->Prop} {v:Value} {p1 p2 q1 q2:PV} (hB:∀ b,B b->B' b) (h1:∀ v,Rep w B v p1->Rep w B' v q1) (h2:∀ v,Rep w B v p2->Rep w B' v q2) (h:Rep w B v (.ip (.agg [p1,p2]) 0)):Rep w B' v (.ip (.agg [q1,q2]) 0):=by
 cases h with
 | ip u hb hs hc hu=>
  refine .ip u (hB _ hb) hs (λj p hp=>?_) (λj p hp=>?_)
  ·match j,hp with
   | 0,_=>exact hc 0 p1 rfl
   | 1,_=>exact hc 1 p2 rfl
   | j+2,hp=>simp [PV.cells] at hp
  ·match j,hp with
   | 0,hp=>
    simp [PV.cells] at hp;subst hp;exact h1 _ (hu 0 p1 rfl)
   | 1,hp=>
    simp [PV.cells] at hp;subst hp;exact h2 _ (hu 1 p2 rfl)
   | j+2,hp=>simp [PV.cells] at hp
def znU (p q:PV) (but:Int):Pure prog 119 [.agg [p,q],.i .i64 but] (.fn (.func 194) [] [.ip (.agg [p,q]) 0,.ip (.i .i64 but) 0]):=by
 refine pz func119 f119.eq_1 λhw X hX=>?_
 exact gD0
def znK (L:List Slt) (a0:Option Addr) (c0:Nat) (hn:L.length<=1000000):zv4 prog 74 (λw Bx=>Rep w Bx (.slice a0 (L.map Slt.pv).length c0) (.sl 16 (L.map Slt.pv))) [.agg [.rs a0 (L.map Slt.pv).length c0,.nilsl],.i .i64 (-1)] (.sl 7 ((mvF (rqW (L.map (·.req)) (-1))).map Mov.pv)):=by
 refine zqA (cF func74 f74.eq_1) (by simp) λw B Bx hBx hE=>?_
 generalize (L.map Slt.pv).length=n0 at hE ⊢
 repeat' first|refine gC ?_ ?_<;>intro hc<;>try contradiction|refine za (znU (.rs a0 n0 c0) .nilsl (-1)) ?_|refine gG ?_|show AK _;intro J Z|refine gJ ?_|omega|exact aT
 refine zfP 5 [.p .nilsl] [.p (.sl 7 ([]:List PV))] (sR) ⟨.inr ⟨7,rfl,rfl⟩,trivial⟩ ?_;refine zls (Bx:=Bx) (λb hb=>⟨hBx b hb,id,id⟩) (caps0:=[.ip (.agg [.rs a0 n0 c0,.nilsl]) 0,.ip (.i .i64 (-1)) 0]) (caps:=[.ip (.agg [.sl 16 (L.map Slt.pv),.sl 14 (([]:List Wsh).map Wsh.pv)]) 0,.ip (.i .i64 (-1)) 0]) ?_ rfl (zkJ L [] (-1) hn) ?_ ?_ ?_ [(2,.lp 2 0),(5,.lp 5 0)] (λk=>[(2,.box [.p (.rs a0 n0 c0),.p .nilsl] false),(5,.box [.p (.sl 7 ((mvF ((rqW (L.map (·.req)) (-1)).take k)).map Mov.pv))] false)]) (λ_=>[]) (λ_=>True) ?_ trivial ?_ ?_
 ·intro W B1 cs hW hr;have hE':Rep W (λb=>B1 b\/Bx b) (.slice a0 n0 c0) (.sl 16 (L.map Slt.pv)):=hE.mono (λb hb=>.inr hb) hW
  obtain ⟨hl,hc⟩:=hr;refine ⟨hl,λj v p hv hp=>?_⟩
  match j,hp with
  | 0,hp=>
   simp at hp;subst hp;refine ztT (λb hb=>.inl hb) (λv hv=>?_) (λv hv=>?_) (hc 0 v _ hv rfl)
   ·cases hv;exact hE'
   ·cases hv;exact .sl0
  | 1,hp=>
   simp at hp;subst hp;exact (hc 1 v _ hv rfl).mono (λb hb=>.inl hb) λ_ _=>rfl
  | j+2,hp=>simp at hp
 ·intro t ht;obtain ⟨r,_,rfl⟩:=xaT.1 ht
  rfl
 ·simp
 ·simp [zdT]
 ·simp only [St.wr,oset.eq_1,oset.eq_2,qS,seval]<;>rfl
 ·intro k t ht _ X' ro' hX';simp only [xah,xac] at ht;obtain ⟨r,hr,rfl⟩:=ht;have hnx:=zkC hr;simp only [qS,seval]
  repeat' first|refine gC ?_ ?_<;>intro hc<;>try contradiction|refine gG ?_|show AK _;intro J Z|refine gJ ?_|omega|exact aT
  intro X1 hX1;have qe:=@qR;repeat' first|refine gC ?_ ?_<;>intro hc<;>try contradiction|refine za (zkf r) ?_|refine za (zi1 (mvF ((rqW (L.map (·.req)) (-1)).take k)) (zgR r)) ?_|refine gG ?_|show AK _;intro J Z|refine gJ ?_|omega|exact aT
  rw [hnx]
 ·intro _;simp only [xaf];have qe:=@List.take_length.{0};exact gD0
structure Srv where
 Q:List Req
 K:List Wsh
 M:List Mov
def ztr (l:List Lim) (n:Nat) (t:Srv) (w:Wsh):Prop:=64<=((n+t.Q.length:Nat):Int)\/zjz l t.M w.req=false
instance (l:List Lim) (n:Nat) (t:Srv) (w:Wsh):Decidable (ztr l n t w):=by unfold ztr;infer_instance
def srvN (l:List Lim) (n:Nat) (t:Srv) (w:Wsh):Srv:=if ztr l n t w then ⟨t.Q,t.K++[w],t.M⟩ else ⟨t.Q++[w.req],t.K,mgR t.M (zgR w.req)⟩
def srv0 (b:Bk):Srv:=⟨[],[],mvF (rqW (b.slots.map (·.req)) (-1))⟩
def zgu (l:List Lim) (b:Bk) (k:Nat):Srv:=(b.wait.take k).foldl (srvN l b.slots.length) (srv0 b)
def zhA {l:List Lim} {b:Bk} {k:Nat} {w:Wsh} (h:b.wait[k]?=some w):zgu l b (k+1)=srvN l b.slots.length (zgu l b k) w:=by
 rw [zgu,zam h,xa2];rfl
theorem zj2 {l:List Lim} {b:Bk}:∀ {k:Nat},k<=b.wait.length->(zgu l b k).Q.length+(zgu l b k).K.length=k
 | 0,_=>rfl
 | k+1,h=>by
  obtain ⟨w,hw⟩:=zm (i:=k) (l:=b.wait) (by omega)
  have ih:=zj2 (l:=l) (b:=b) (k:=k) (by omega)
  rw [zhA hw,srvN]
  split<;>simp<;>omega
def srvB (l:List Lim) (b:Bk):Bk:=⟨b.slots++(zgu l b b.wait.length).Q.map zgP,(zgu l b b.wait.length).K⟩
def srvW (l:List Lim) (b:Bk):List ByteArray:=(zgu l b b.wait.length).Q.map (·.name)
def zq8 (l:List Lim) (b:Bk) (hb:zfy b):Pure prog 78 [b.pv,.sl 11 (l.map Lim.pv)] (.tup [(srvB l b).pv,.sl 1 ((srvW l b).map .s)]):=by
 obtain ⟨hs,hn1,hwl⟩:=hb;refine zar (r:=.tup [.agg [.sl 16 (b.slots.map Slt.pv++(zgu l b b.wait.length).Q.map zwL),.sl 14 ((zgu l b b.wait.length).K.map Wsh.pv)],.sl 1 ((srvW l b).map .s)]) ?_ ?_
 ·refine pz func78 f78.eq_1 λhw X hX=>?_
  have qe:=aI qR (aI @qN (aI @zaz (aI @zay @zah)));repeat' first|refine gC ?_ ?_<;>intro hc<;>try contradiction|refine zl [(100,200),(7,201)] (zbA b.slots b.wait hs (by omega) (by omega)) ?_|refine gG ?_|show AK _;intro J Z|refine gJ ?_|omega|exact aT
  refine zgw (zhy (k:=200) (e:=84) (sz:=16) (xs:=b.slots.map Slt.pv) (fz:=false) (ps:=λa0 c0=>[.agg [.rs a0 (b.slots.map Slt.pv).length c0,.nilsl],.i .i64 (-1)]) rfl rfl (λa0 c0=>znK b.slots a0 c0 (by omega)) λa0 c0=>⟨.inr ⟨_,_,rfl,rfl,.inr ⟨by show LV.row 200 _=LV.row 200 _;simp,rfl⟩,.inl rfl,trivial⟩,.inl (.inl rfl),trivial⟩) ?_
  rintro _ rfl;refine zF ?_;have qe:=aI qR @qN;repeat' first|refine gC ?_ ?_<;>intro hc<;>try contradiction|refine gG ?_|show AK _;intro J Z|refine gJ ?_|omega|exact aT
  refine zaO 300 73 14 [(1,.p (.sl 11 (l.map Lim.pv))),(4,.lp 4 0),(6,.lp 6 0),(7,.p .nilsl),(8,.p (.sl 7 ((mvF (rqW (b.slots.map (·.req)) (-1))).map Mov.pv))),(19,.p (.sl 14 (b.wait.map Wsh.pv))),(20,.p (.i .i64 b.wait.length)),(21,.p (.i .i64 0))] [(4,.box [.p .nilsl,.p .nilsl] false),(6,.box [.row 200 b.slots.length,.row 300 0] false),(200,.row 84 16 (b.slots.map Slt.pv) false)] ?_ ?_
  ·simp only [Own,zaL,zaA,zbr,zax,qS,seval]<;>simp
  refine zaO 301 9 1 [(1,.p (.sl 11 (l.map Lim.pv))),(4,.lp 4 0),(6,.lp 6 0),(7,.row 301 0),(8,.p (.sl 7 ((mvF (rqW (b.slots.map (·.req)) (-1))).map Mov.pv))),(19,.p (.sl 14 (b.wait.map Wsh.pv))),(20,.p (.i .i64 b.wait.length)),(21,.p (.i .i64 0))] [(4,.box [.p .nilsl,.p .nilsl] false),(6,.box [.row 200 b.slots.length,.row 300 0] false),(200,.row 84 16 (b.slots.map Slt.pv) false),(300,.row 73 14 [] false)] ?_ ?_
  ·simp only [Own,zaL,zaA,zbr,zax,qS,seval]<;>simp
  refine zi (κ:=Nat) (λk=>⟨[(1,.p (.sl 11 (l.map Lim.pv))),(4,.lp 4 0),(6,.lp 6 0),(7,.row 301 (zgu l b k).Q.length),(8,.p (.sl 7 ((zgu l b k).M.map Mov.pv))),(19,.p (.sl 14 (b.wait.map Wsh.pv))),(20,.p (.i .i64 b.wait.length)),(21,.p (.i .i64 k))],[(4,.box [.p .nilsl,.p .nilsl] false),(6,.box [.row 200 (b.slots.length+(zgu l b k).Q.length),.row 300 (zgu l b k).K.length] false),(200,.row 84 16 (b.slots.map Slt.pv++(zgu l b k).Q.map zwL) false),(300,.row 73 14 ((zgu l b k).K.map Wsh.pv) false),(301,.row 9 1 (((zgu l b k).Q.map (·.name)).map .s) false)],[],false⟩) (λk=>k<=b.wait.length) (λk=>b.wait.length - k) 0 ?_ ?_ ?_
  ·refine gJ ?_;simp [zgu,srv0]
  ·simp
  ·intro k hk;have hlen:=zj2 (l:=l) hk
   repeat first|refine gG ?_|show AK _;intro J Z|refine gJ ?_|omega|exact aT
   (refine gC ?_ ?_<;>intro hc<;>try contradiction)
   ·obtain ⟨w,hw⟩:=zm (i:=k) (l:=b.wait) (by omega)
    have hnx:=zhA (l:=l) hw;rw [srvN] at hnx;generalize zgu l b k=t at hlen hnx ⊢
    by_cases h1:64<=((b.slots.length+t.Q.length:Nat):Int)
    ·rw [if_pos (.inl h1)] at hnx;have h1t:=eq_true h1;have qe:=aI qR (aI @hw (aI @h1t (aI @decide_true (aI @List.length_map.{0,0} @List.length_append.{0}))));repeat' first|refine gC ?_ ?_<;>intro hc<;>try contradiction|refine zp (λ_=>zeq l t.M w.req) ?_|refine gG ?_|show AK _;intro J Z|refine gJ ?_|omega|exact aT
     all_goals exact ⟨k+1,by omega,by omega,by rw [hnx];simp⟩
    ·have h1t:=eq_false h1
     by_cases h2:zjz l t.M w.req=false
     ·rw [if_pos (.inr h2)] at hnx;have qe:=aI qR (aI @hw (aI @h1t (aI @h2 (aI @decide_false (aI @xal (aI @List.length_map.{0,0} @List.length_append.{0}))))));repeat' first|refine gC ?_ ?_<;>intro hc<;>try contradiction|refine zp (λ_=>zeq l t.M w.req) ?_|refine gG ?_|show AK _;intro J Z|refine gJ ?_|omega|exact aT
      all_goals exact ⟨k+1,by omega,by omega,by rw [hnx];simp⟩
     ·rw [if_neg (λh=>h.elim h1 h2)] at hnx
      have h2t:zjz l t.M w.req=true:=by simpa using h2
      have qe:=aI qR (aI @hw (aI @h1t (aI @h2t (aI @decide_false (aI @xam (aI @List.length_map.{0,0} @List.length_append.{0}))))));repeat' first|refine gC ?_ ?_<;>intro hc<;>try contradiction|refine zp (λ_=>zeq l t.M w.req) ?_|refine za (zkf w.req) ?_|refine za (zi1 t.M (zgR w.req)) ?_|refine gG ?_|show AK _;intro J Z|refine gJ ?_|omega|exact aT
      all_goals exact ⟨k+1,by omega,by omega,by rw [hnx];simp;omega⟩
   ·have e:k=b.wait.length:=by omega
    subst e;have qe:=aI qR (aI @zah (aI @List.length_map.{0,0} @List.length_append.{0}));exact gD0
 ·refine .tup ⟨.agg ⟨.sl ?_,.refl _,trivial⟩,.refl _,trivial⟩;rw [srvB,xaO,xbn];exact .app (.refl _) (.map λq _=>zmJ q)
def lbE (l:List Lim) (b:Bk):Int:=zf [zZ l,zG b]
def zpp (l:List Lim) (b:Bk):Bk:=if lbE l b=0 then srvB l b else bk0
def zpo (l:List Lim) (b:Bk):List ByteArray:=if lbE l b=0 then srvW l b else []
def zrg (l:List Lim) (b:Bk) (hb:zG b=0->zfy b):Pure prog 31 [.sl 11 (l.map Lim.pv),b.pv] (.tup [(zpp l b).pv,.sl 1 ((zpo l b).map .s),.i .i64 (lbE l b)]):=by
 by_cases h:lbE l b=0
 ·have e1:(zf [zZ l,zG b]=0)=True:=eq_true h;rw [zpp,zpo,if_pos h,if_pos h,h];refine pz func31 f31.eq_1 λhw X hX=>?_
  have qe:=aI qR (aI @qN @e1);repeat' first|refine gC ?_ ?_<;>intro hc<;>try contradiction|refine za (zeR l) ?_|refine za (zV b) ?_|refine za (zw [_,_]) ?_|refine zbM (hf:=zq8 l b (hb (fE0 h _ (by simp)))) (hn:=?_)|refine gG ?_|show AK _;intro J Z|refine gJ ?_|omega|exact aT
  exact .refl _
 ·have e1:(zf [zZ l,zG b]=0)=False:=eq_false h;rw [zpp,zpo,if_neg h,if_neg h];refine zar (r:=.tup [.agg [.nilsl,.nilsl],.nilsl,.i .i64 (lbE l b)]) ?_ (.tup ⟨.agg ⟨.nilsl _,.nilsl _,trivial⟩,.nilsl _,.refl _,trivial⟩);refine pz func31 f31.eq_1 λhw X hX=>?_
  have qe:=aI qR (aI @qN @e1);have jA:=zeR l;have jB:=zV b;have jC:=λu1 u2=>zw [u1,u2];exact gD4
structure Rfs where
 name:ByteArray
 lim:Int
 mom:Int
abbrev Rfs.pv (r:Rfs):PV:=.agg [.s r.name,.i .i64 r.lim,.i .i64 r.mom]
def zpu (f:Mov->List Win) (n:ByteArray):List Mov->List Rfs
 | []=>[]
 | m::r=>match f m with
  | []=>zpu f n r
  | x::_=>[⟨n,x.lim,x.beg⟩]
theorem zkd {f:Mov->List Win} {n:ByteArray} {x:Win} {r:List Win}:∀ {L:List Mov} {i:Nat} {m:Mov},(∀ y ∈ L.take i,f y=[])->L[i]?=some m->f m=x::r->zpu f n L=[⟨n,x.lim,x.beg⟩]
 | [],i,m,_,h,_=>by simp at h
 | y::l,0,m,_,h,hf=>by simp at h;subst h;rw [zpu,hf]
 | y::l,i+1,m,ha,h,hf=>by
  rw [zpu,ha y (by simp)]
  exact zkd (i:=i) (λz hz=>ha z (by simp [hz])) (by simpa using h) hf
theorem zke {f:Mov->List Win} {n:ByteArray}:∀ {L:List Mov},(∀ y ∈ L,f y=[])->zpu f n L=[]
 | [],_=>rfl
 | y::l,ha=>by rw [zpu,ha y (by simp)];exact zke λz hz=>ha z (by simp [hz])
theorem zkc {f:Mov->List Win} {n:ByteArray}:∀ {L:List Mov},(zpu f n L).length<=1
 | []=>by simp [zpu]
 | y::l=>by
  rw [zpu]
  split
  ·exact zkc
  ·simp
def zrx (r:Req):(zgR r).length<=401:=by
 rw [zgR]
 split
 ·rename_i h;have h1:=zcE r.per;have h2:=zaW (zeC h).1;rw [zrw,xaf];omega
 ·simp
def zsr (b:Bk):List Mov:=mvF (rqW (b.slots.map (·.req)) (-1))
def zwF (l:List Lim) (b:Bk) (w:Wsh):List Rfs:=zpu (zl8 l (zsr b)) w.req.name (zgR w.req)
def ziz (l:List Lim) (b:Bk) (k:Nat):List Rfs:=(b.wait.take k).flatMap (zwF l b)
def refL (l:List Lim) (b:Bk):List Rfs:=if lbE l b=0 then b.wait.flatMap (zwF l b) else []
def zhL {l:List Lim} {b:Bk} {k:Nat} {w:Wsh} (h:b.wait[k]?=some w):ziz l b (k+1)=ziz l b k++zwF l b w:=by
 rw [ziz,zam h,xa0];simp [ziz]
theorem zgB (l:List Lim) (b:Bk):∀ k,(ziz l b k).length<=k
 | 0=>by simp [ziz]
 | k+1=>by
  have ih:=zgB l b k
  by_cases h:k < b.wait.length
  ·obtain ⟨w,hw⟩:=zm h;rw [zhL hw,xae];have:(zwF l b w).length<=1:=zkc
   omega
  ·have e:ziz l b (k+1)=ziz l b k:=by rw [ziz,ziz,xag (by omega),xag (by omega)]
   rw [e];omega
def zrf (l:List Lim) (b:Bk):Pure prog 29 [.sl 11 (l.map Lim.pv),b.pv] (.tup [.sl 3 ((refL l b).map Rfs.pv),.i .i64 (lbE l b)]):=by
 by_cases h:lbE l b=0
 ·have e1:(zf [zZ l,zG b]=0)=True:=eq_true h
  have hbl:=ziq (fE0 h (zG b) (by simp))
  rw [refL,if_pos h,h]
  refine pz func29 f29.eq_1 fun hw X hX=>?_
  have hall:mvF (rqW (b.slots.map (·.req)) (-1))=zsr b:=rfl
  have qe:=aI qR (aI @qN (aI @e1 @hall));repeat' first|refine gC ?_ ?_<;>intro hc<;>try contradiction|refine za (zeR l) ?_|refine za (zV b) ?_|refine za (zw [_,_]) ?_|refine za (zgL b.slots b.wait (-1) (by omega)) ?_|refine gG ?_|show AK _;intro J Z|refine gJ ?_|omega|exact aT
  refine zaO 100 81 3 [(0,.p (.sl 11 (l.map Lim.pv))),(7,.row 100 0),(8,.p (.sl 7 ((zsr b).map Mov.pv))),(29,.p (.sl 14 (b.wait.map Wsh.pv))),(30,.p (.i .i64 b.wait.length)),(31,.p (.i .i64 0))] [] ?_ ?_
  ·simp only [Own,zaL,zaA,zbr,zax,qS,Nat.reduceAdd,Nat.reduceMul,Nat.reduceEqDiff,Nat.reduceLeDiff,reduceIte,reduceCtorEq,Nat.reduceBEq,Nat.reduceLT]<;>simp
  refine zi (κ:=Nat) (fun k=>⟨[(0,.p (.sl 11 (l.map Lim.pv))),(7,.row 100 (ziz l b k).length),(8,.p (.sl 7 ((zsr b).map Mov.pv))),(29,.p (.sl 14 (b.wait.map Wsh.pv))),(30,.p (.i .i64 b.wait.length)),(31,.p (.i .i64 k))],[(100,.row 81 3 ((ziz l b k).map Rfs.pv) false)],[],false⟩) (fun k=>k≤b.wait.length) (fun k=>b.wait.length - k) 0 ?_ ?_ ?_
  ·refine gJ ?_;simp [ziz]
  ·simp
  ·intro k hk
   have hkl:=zgB l b k
   repeat first|refine gG ?_|show AK _;intro J Z|refine gJ ?_|omega|exact aT
   (refine gC ?_ ?_<;>intro hc<;>try contradiction)
   ·obtain ⟨w,hw⟩:=zm (i:=k) (l:=b.wait) (by omega)
    have hnx:=zhL (l:=l) hw
    rw [zwF] at hnx
    have hkl1:=zgB l b (k+1)
    have hml:=zrx w.req
    have qe:=aI qR @hw;repeat' first|refine gC ?_ ?_<;>intro hc<;>try contradiction|refine za (zkf w.req) ?_|refine gG ?_|show AK _;intro J Z|refine gJ ?_|omega|exact aT
    refine zi (κ:=Nat) (fun i=>⟨[(0,.p (.sl 11 (l.map Lim.pv))),(7,.row 100 (ziz l b k).length),(8,.p (.sl 7 ((zsr b).map Mov.pv))),(10,.lp 10 0),(29,.p (.sl 14 (b.wait.map Wsh.pv))),(30,.p (.i .i64 b.wait.length)),(31,.p (.i .i64 k)),(41,.p (.sl 7 ((zgR w.req).map Mov.pv))),(42,.p (.i .i64 (zgR w.req).length)),(43,.p (.i .i64 i))],[(10,.box (w.cells.map .p) false),(100,.row 81 3 ((ziz l b k).map Rfs.pv) false)],[],false⟩) (fun i=>i≤(zgR w.req).length∧∀ y ∈ (zgR w.req).take i,zl8 l (zsr b) y=[]) (fun i=>(zgR w.req).length - i) 0 ?_ ?_ ?_
    ·exact sS
    ·simp
    ·intro i hi
     repeat first|refine gG ?_|show AK _;intro J Z|refine gJ ?_|omega|exact aT
     (refine gC ?_ ?_<;>intro hc<;>try contradiction)
     ·obtain ⟨m,hm⟩:=zm (i:=i) (l:=zgR w.req) (by omega)
      rcases hf:zl8 l (zsr b) m with _|⟨x,r⟩
      ·have qe:=aI qR (aI @hm @hf);repeat' first|refine gC ?_ ?_<;>intro hc<;>try contradiction|refine za (zsR l (zsr b) m) ?_|refine gG ?_|show AK _;intro J Z|refine gJ ?_|omega|exact aT
       exact ⟨i+1,⟨by omega,fun y hy=>by
        rw [zam hm,xaD,xaJ] at hy
        rcases hy with hy|rfl
        ·exact hi.2 y hy
        ·exact hf⟩,by omega,rfl⟩
      ·have hR:=zkd (n:=w.req.name) hi.2 hm hf
       have qe:=aI qR (aI @hm @hf);repeat' first|refine gC ?_ ?_<;>intro hc<;>try contradiction|refine za (zsR l (zsr b) m) ?_|refine gG ?_|show AK _;intro J Z|refine gJ ?_|omega|exact aT
       exact ⟨k+1,by omega,by omega,⟨by rw [hnx,hR];simp,rfl⟩,by rw [hnx,hR];simp⟩
     ·have e:i=(zgR w.req).length:=by omega
      rw [e,xas] at hi
      have hR:=zke (n:=w.req.name) hi.2
      have qe:=@qR;repeat' first|refine gC ?_ ?_<;>intro hc<;>try contradiction|refine gG ?_|show AK _;intro J Z|refine gJ ?_|omega|exact aT
      exact ⟨k+1,by omega,by omega,⟨by rw [hnx,hR];simp,rfl⟩,by rw [hnx,hR];simp⟩
   ·have e:k=b.wait.length:=by omega
    subst e
    have qe:=@qR;repeat' first|refine gC ?_ ?_<;>intro hc<;>try contradiction|refine gG ?_|show AK _;intro J Z|refine gJ ?_|omega|exact aT
    rw [ziz,xas];exact .refl _
 ·have e1:(zf [zZ l,zG b]=0)=False:=eq_false h
  rw [refL,if_neg h]
  refine zar (r:=.tup [.nilsl,.i .i64 (lbE l b)]) ?_ (.tup ⟨.nilsl _,.refl _,trivial⟩)
  refine pz func29 f29.eq_1 fun hw X hX=>?_
  have qe:=aI qR (aI @qN @e1);have jA:=zeR l;have jB:=zV b;have jC:=fun u1 u2=>zw [u1,u2];exact gD4
end Go.Proofs.YtijgimeokgbifaaGreat
