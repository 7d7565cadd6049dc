/- Contracts of functions, for the claim. No conditions. -/
import Derived.Test.YtijgimeokgbifaaGreatK3
import Derived.Test.YtijgimeokgbifaaGreatK4
import Derived.Test.YtijgimeokgbifaaGreatK17
import Derived.Test.YtijgimeokgbifaaGreatK18
import Derived.Test.YtijgimeokgbifaaGreatK22
import Derived.Test.YtijgimeokgbifaaGreatK16
import Derived.Test.YtijgimeokgbifaaGreatK20
set_option linter.all false
set_option maxHeartbeats 8000000
set_option maxRecDepth 100000
namespace Go.Proofs.YtijgimeokgbifaaGreat
open Go.RowKit
theorem weakB {a b:Bool} (h:a=b):Weak (.b a) (.b b):=h ▸ .refl _
def Win.add (k:Int) (w:Win):Win:=⟨w.lim,w.beg,w.cnt+k⟩
def rqI (L:List Req) (but:Int) (i:Nat):List Req:=match L[i]? with|some r=>if (i:Int)=but then [] else [r]|none=>[]
def rqK (L:List Req) (but:Int) (k:Nat):List Req:=(List.range k).flatMap (rqI L but)
def rqW (L:List Req) (but:Int):List Req:=rqK L but L.length
abbrev zvY (r:Req):List PV:=[r.pv]
theorem zkJ (L:List Slt) (W:List Wsh) (but:Int) (hn:L.length<=1000000):zpk Tryz.prog 194 [.ip (.agg [.sl 16 (L.map Slt.pv),.sl 14 (W.map Wsh.pv)]) 0,.ip (.i .i64 but) 0] ((rqW (L.map (·.req)) but).map zvY):=by
 refine zg2 (cF Tryz.func194 Tryz.f194.eq_1) (by simp) λhw X hX=>?_
 simp only [zbp]
 repeat' first|refine gC ?_ ?_<;>intro hc<;>try contradiction|refine gG ?_|show AK _;intro K H|refine H _ _ ?_;clear H K|refine gJ ?_;try exact trivial|omega
 refine zj (κ:=Nat) (λk=>⟨[(0,.yield),(1,.p (.ip (.agg [.sl 16 (L.map Slt.pv),.sl 14 (W.map Wsh.pv)]) 0)),(2,.p (.ip (.i .i64 but) 0)),(7,.p (.sl 16 (L.map Slt.pv))),(8,.p (.i .i64 L.length)),(9,.p (.i .i64 k))],[],(rqK (L.map (·.req)) but k).map zvY,false⟩) (λk=>k<=L.length) (λk=>L.length - k) 0 ?_ ?_ ?_
 ·refine gJ ?_;simp [rqK]
 ·simp
 ·intro k hk
  repeat first|refine gG ?_|show AK _;intro K H|refine H _ _ ?_;clear H K|refine gJ ?_;try exact trivial|omega
  (refine gC ?_ ?_<;>intro hc<;>try contradiction)
  ·obtain ⟨s,hx⟩:=zm (i:=k) (l:=L) (by omega)
   have hs:=zbm (rqI (L.map (·.req)) but) (show k < (L.map (·.req)).length by simp;omega)
   by_cases hb:(k:Int)=but
   ·have hi:rqI (L.map (·.req)) but k=[]:=by rw [rqI,List.getElem?_map,hx];exact if_pos hb
    have hb':((k:Int)=but)=True:=eq_true hb
    have qe:=aI qR (aI @hx (aI @hb' (aI @decide_true @Bool.not_true)));repeat' first|refine gC ?_ ?_<;>intro hc<;>try contradiction|(show zi _ _ _ _ (⟨_,.callv,_,_,_⟩::_) _ _;refine zbi (q:=(.b false)) (by first|rfl|(simp (disch:=omega) only [qG,qe,seval]<;>rfl)) ?_;(try (refine zE ?_)))|refine gG ?_|show AK _;intro K H|refine H _ _ ?_;clear H K|refine gJ ?_;try exact trivial|omega
    exact ⟨k+1,by omega,by omega,by simp,by rw [rqK,zab,hi,List.append_nil,<-rqK]⟩
   ·have hi:rqI (L.map (·.req)) but k=[s.req]:=by rw [rqI,List.getElem?_map,hx];exact if_neg hb
    have hb':((k:Int)=but)=False:=eq_false hb
    have hs':(rqW (L.map (·.req)) but).map zvY=(rqK (L.map (·.req)) but k).map zvY++zvY s.req::((List.range' (k+1) ((L.map (·.req)).length - (k+1))).flatMap (rqI (L.map (·.req)) but)).map zvY:=by
     rw [rqW,rqK,hs,hi];simp [rqK]
    have qe:=aI qR (aI @hx (aI @hb' (aI @decide_false @Bool.not_false)));repeat' first|refine gC ?_ ?_<;>intro hc<;>try contradiction|(show zi _ _ _ _ (⟨_,.callv,_,_,_⟩::_) _ _;refine zgv (by first|rfl|(simp (disch:=omega) only [qG,qe,seval]<;>rfl)) (by simp (disch:=omega) only [qS,qe,seval]) (by simp (disch:=omega) only [qS,qe,seval]<;>rfl) (by simp (disch:=omega) only [qS,qe,seval];try trivial) rfl _ (hs') ?_;intro b;(refine zE ?_))|refine gG ?_|show AK _;intro K H|refine H _ _ ?_;clear H K|refine gJ ?_;try exact trivial|omega
    ·subst hc;exact .inl rfl
    ·subst hc;exact ⟨k+1,by omega,by omega,by simp,by rw [rqK,zab,hi,<-rqK];simp,rfl⟩
  ·repeat' first|refine gC ?_ ?_<;>intro hc<;>try contradiction|refine gG ?_|show AK _;intro K H|refine H _ _ ?_;clear H K|refine gJ ?_;try exact trivial|omega
   have e:k=L.length:=by omega
   subst e;exact .inr (by rw [rqW];simp)
theorem zqS (L:List Slt) (W:List Wsh) (but:Int):Pure Tryz.prog 119 [.agg [.sl 16 (L.map Slt.pv),.sl 14 (W.map Wsh.pv)],.i .i64 but] (.fn (.func 194) [] [.ip (.agg [.sl 16 (L.map Slt.pv),.sl 14 (W.map Wsh.pv)]) 0,.ip (.i .i64 but) 0]):=by
 refine zf (cF Tryz.func119 Tryz.f119.eq_1) (by simp) λhw X hX=>?_
 repeat' first|refine gC ?_ ?_<;>intro hc<;>try contradiction|refine gG ?_|show AK _;intro K H|refine H _ _ ?_;clear H K|refine gJ ?_;try exact trivial|omega
 exact .refl _
def mvF (l:List Req):List Mov:=l.foldl (λout r=>mgR out (zgR r)) []
theorem zkC {l:List Req} {k:Nat} {r:Req} (h:l[k]?=some r):mvF (l.take (k+1))=mgR (mvF (l.take k)) (zgR r):=by
 rw [zan h,mvF,List.foldl_append];rfl
theorem zgL (L:List Slt) (W:List Wsh) (but:Int) (hn:L.length<=1000000):Pure Tryz.prog 74 [.agg [.sl 16 (L.map Slt.pv),.sl 14 (W.map Wsh.pv)],.i .i64 but] (.sl 7 ((mvF (rqW (L.map (·.req)) but)).map Mov.pv)):=by
 refine zf (cF Tryz.func74 Tryz.f74.eq_1) (by simp) λhw X hX=>?_
 repeat' first|refine gC ?_ ?_<;>intro hc<;>try contradiction|refine za (zqS L W but) ?_|refine gG ?_|show AK _;intro K H|refine H _ _ ?_;clear H K|refine gJ ?_;try exact trivial|omega
 refine zfP 5 [.p .nilsl] [.p (.sl 7 ([]:List PV))] (sR) ⟨.inr ⟨7,rfl,rfl⟩,trivial⟩ ?_
 refine zco rfl (zkJ L W but hn) ?_ ?_ [(2,.lp 2 0),(5,.lp 5 0)] (λk=>[(2,.box [.p (.sl 16 (L.map Slt.pv)),.p (.sl 14 (W.map Wsh.pv))] false),(5,.box [.p (.sl 7 ((mvF ((rqW (L.map (·.req)) but).take k)).map Mov.pv))] false)]) (λ_=>[]) ?_ ?_ ?_
 ·simp
 ·simp [hX]
 ·simp only [St.wr,oset.eq_1,oset.eq_2,qS,seval]<;>rfl
 ·intro k t ht X' ro' hX'
  simp only [List.getElem?_map,Option.map_eq_some_iff] at ht
  obtain ⟨r,hr,rfl⟩:=ht
  have hnx:=zkC hr
  simp only [qS,seval]
  repeat' first|refine gC ?_ ?_<;>intro hc<;>try contradiction|refine gG ?_|show AK _;intro K H|refine H _ _ ?_;clear H K|refine gJ ?_;try exact trivial|omega
  intro X1 hX1
  have qe:=@qR;repeat' first|refine gC ?_ ?_<;>intro hc<;>try contradiction|refine za (zkf r) ?_|refine za (zi0 (mvF ((rqW (L.map (·.req)) but).take k)) (zgR r)) ?_|refine gG ?_|show AK _;intro K H|refine H _ _ ?_;clear H K|refine gJ ?_;try exact trivial|omega
  rw [hnx]
 ·simp only [List.length_map]
  have qe:=@List.take_length.{0};repeat' first|refine gC ?_ ?_<;>intro hc<;>try contradiction|refine gG ?_|show AK _;intro K H|refine H _ _ ?_;clear H K|refine gJ ?_;try exact trivial|omega
  exact .refl _
theorem zeq (l:List Lim) (m:List Mov) (r:Req):Pure Tryz.prog 116 [.sl 11 (l.map Lim.pv),.sl 7 (m.map Mov.pv),r.pv] (.b (zjz l m r)):=by
 refine zf (cF Tryz.func116 Tryz.f116.eq_1) (by simp) λhw X hX=>?_
 repeat' first|refine gC ?_ ?_<;>intro hc<;>try contradiction|refine za (zwW l m r) ?_|refine gG ?_|show AK _;intro K H|refine H _ _ ?_;clear H K|refine gJ ?_;try exact trivial|omega
 have e:(decide (fitC l m r=0) && zjz l m r)=zjz l m r:=by
  rw [zjz,<-Bool.and_assoc,Bool.and_self]
 rw [e];exact .refl _
def mvE (b:Bk):List Mov:=if zF b=0 then mvF (rqW (b.slots.map (·.req)) (-1)) else []
theorem zin {b:Bk} (h:zF b=0):b.slots.length<=64/\b.wait.length<=64:=by
 have h1:=fE0 h _ (List.mem_cons_self)
 have h2:=fE0 h (if 64 < (b.wait.length:Int) then 5 else 0) (by simp)
 constructor
 ·by_cases hh:64 < (b.slots.length:Int)
  ·rw [if_pos hh] at h1;omega
  ·omega
 ·by_cases hh:64 < (b.wait.length:Int)
  ·rw [if_pos hh] at h2;omega
  ·omega
theorem zq4 (b:Bk):Pure Tryz.prog 38 [b.pv] (.tup [.sl 7 ((mvE b).map Mov.pv),.i .i64 (zF b)]):=by
 refine zf (cF Tryz.func38 Tryz.f38.eq_1) (by simp) λhw X hX=>?_
 repeat' first|refine gC ?_ ?_<;>intro hc<;>try contradiction|refine za (zV b) ?_|refine gG ?_|show AK _;intro K H|refine H _ _ ?_;clear H K|refine gJ ?_;try exact trivial|omega
 ·rw [mvE,if_neg hc];exact zhq (.nilsl _) (.refl _)
 ·have hl:=zin hc
  repeat' first|refine gC ?_ ?_<;>intro hc<;>try contradiction|refine za (zgL b.slots b.wait (-1) (by omega)) ?_|refine gG ?_|show AK _;intro K H|refine H _ _ ?_;clear H K|refine gJ ?_;try exact trivial|omega
  rw [mvE,if_pos hc,hc];exact .refl _
theorem zdL (l:List Slt):(l.map Slt.raw).map (·.req.name)=l.map (·.req.name):=by rw [List.map_map];rfl
def zv2 (b:Bk) (n:ByteArray):Int:=zg [zF b,if atL n (b.slots.map (·.req.name)) < 0 then 10 else 0]
theorem za9 (b:Bk) (n:ByteArray):Pure Tryz.prog 81 [.agg [.sl 16 (b.slots.map Slt.pv),.sl 14 (b.wait.map Wsh.pv)],.s n] (.i .i64 (atL n (b.slots.map (·.req.name)))):=by
 have h:=zes (b.slots.map Slt.raw) b.wait n
 rw [<-zeI,zdL] at h;exact h
theorem zY (b:Bk) (n:ByteArray):Pure Tryz.prog 80 [.agg [.sl 16 (b.slots.map Slt.pv),.sl 14 (b.wait.map Wsh.pv)],.s n] (.i .i64 (if atL n (b.slots.map (·.req.name)) < 0 then 10 else 0)):=by
 have h:=zqY (b.slots.map Slt.raw) b.wait n
 rw [<-zeI,zdL] at h;exact h
theorem zer (s:Slt) (d:Int):Pure Tryz.prog 85 [s.pv,.i .i64 d] (.i .i64 (zcY (λl=>decide (l.fro<=d) && decide (d<=l.to)) s.ls)):=by
 refine zf (cF Tryz.func85 Tryz.f85.eq_1) (by simp) λhw X hX=>?_
 simp only [wfs,PV.wf,List.length_map,maxLen] at hw
 repeat' first|refine gC ?_ ?_<;>intro hc<;>try contradiction|refine gG ?_|show AK _;intro K H|refine H _ _ ?_;clear H K|refine gJ ?_;try exact trivial|omega
 refine zj (κ:=Nat) (λi=>⟨[(1,.p (.i .i64 d)),(2,.lp 2 0),(5,.p (.i .i64 (-1))),(9,.p (.sl 3 (s.ls.map Lea.pv))),(10,.p (.i .i64 s.ls.length)),(11,.p (.i .i64 i))],[(2,.box (s.cells.map .p) false)],[],false⟩) (λi=>i<=s.ls.length/\∀ y ∈ s.ls.take i,(decide (y.fro<=d) && decide (d<=y.to))=false) (λi=>s.ls.length - i) 0 ?_ ?_ ?_
 ·exact sR
 ·simp
 ·intro i hi
  repeat first|refine gG ?_|show AK _;intro K H|refine H _ _ ?_;clear H K|refine gJ ?_;try exact trivial|omega
  (refine gC ?_ ?_<;>intro hc<;>try contradiction)
  ·obtain ⟨y,hy⟩:=zm (i:=i) (l:=s.ls) (by omega)
   have qe:=aI qR @hy;repeat' first|refine gC ?_ ?_<;>intro hc<;>try contradiction|refine za (zqO y d) ?_|refine gG ?_|show AK _;intro K H|refine H _ _ ?_;clear H K|refine gJ ?_;try exact trivial|omega
   ·rw [zdu hi.2 hy (by simpa using hc)];exact .refl _
   ·exact ⟨i+1,⟨by omega,zgq hi.2 hy (by simpa using hc)⟩,by omega,by simp⟩
  ·repeat' first|refine gC ?_ ?_<;>intro hc<;>try contradiction|refine gG ?_|show AK _;intro K H|refine H _ _ ?_;clear H K|refine gJ ?_;try exact trivial|omega
   rw [zdv (λy hy=>hi.2 y (by rw [List.take_of_length_le (by omega)];exact hy))];exact .refl _
theorem zdE (n:ByteArray):∀ l,atL n l < l.length
 | []=>by simp [atL]
 | x::r=>by have:=zdE n r;simp only [atL,List.length_cons];(repeat' split)<;>omega
theorem zdM {b:Bk} {n:ByteArray} (h:¬atL n (b.slots.map (·.req.name)) < 0):∃ s,b.slots[(atL n (b.slots.map (·.req.name))).toNat]?=some s:=by
 have:=zdE n (b.slots.map (·.req.name))
 rw [List.length_map] at this
 exact ⟨_,List.getElem?_eq_getElem (by omega)⟩
def zn (b:Bk) (n:ByteArray):Slt:=(b.slots[(atL n (b.slots.map (·.req.name))).toNat]?).getD ⟨⟨s0,s0,s0,s0,s0,s0,⟨0,0,0⟩,0,0,0,0⟩,s0,[],[]⟩
def zxn (b:Bk) (n:ByteArray):ByteArray:=if zv2 b n=0 then (zn b n).holder else s0
theorem zq2 (b:Bk) (n:ByteArray):Pure Tryz.prog 34 [b.pv,.s n] (.tup [.s (zxn b n),.i .i64 (zv2 b n)]):=by
 refine zf (cF Tryz.func34 Tryz.f34.eq_1) (by simp) λhw X hX=>?_
 simp only [wfs,PV.wf,List.length_map,maxLen] at hw
 have qe:=@qR;repeat' first|refine gC ?_ ?_<;>intro hc<;>try contradiction|refine za (zV b) ?_|refine za (zY b n) ?_|refine za (zw [_,_]) ?_|refine gG ?_|show AK _;intro K H|refine H _ _ ?_;clear H K|refine gJ ?_;try exact trivial|omega
 ·have h:¬zv2 b n=0:=hc
  rw [zxn,if_neg h];exact .refl _
 ·have h:zv2 b n=0:=hc
  have hu:=fE0 hc (if atL n (b.slots.map (·.req.name)) < 0 then 10 else 0) (by simp)
  have hu':¬atL n (b.slots.map (·.req.name)) < 0:=λe=>by rw [if_pos e] at hu;omega
  obtain ⟨s,hs⟩:=zdM hu'
  have hlt:=zdE n (b.slots.map (·.req.name))
  rw [List.length_map] at hlt
  have qe:=aI qR @hs;repeat' first|refine gC ?_ ?_<;>intro hc<;>try contradiction|refine za (za9 b n) ?_|refine gG ?_|show AK _;intro K H|refine H _ _ ?_;clear H K|refine gJ ?_;try exact trivial|omega
  rw [zxn,if_pos h,h,zn,hs];exact .refl _
def leaI (s:Slt) (d:Int):Int:=zcY (λl=>decide (l.fro<=d) && decide (d<=l.to)) s.ls
theorem zju {α:Type} (p:α->Bool):∀ l,zcY p l < l.length
 | []=>by simp [zcY]
 | x::r=>by have:=zju p r;simp only [zcY,List.length_cons];(repeat' split)<;>omega
def oprE (b:Bk) (n:ByteArray) (d:Int):Int:=zg [zF b,if atL n (b.slots.map (·.req.name)) < 0 then 10 else 0,rng d 0 99999]
def zpo (s:Slt) (d:Int):Int:=if zsS s.req.per d=0/\zsT s.req.per d=true then 0 else 30
def oprY (s:Slt) (d:Int):ByteArray:=if leaI s d < 0 then s.holder else ((s.ls[(leaI s d).toNat]?).map Lea.carrier).getD s0
def zpp (b:Bk) (n:ByteArray) (d:Int):Int:=zg [oprE b n d,zpo (zn b n) d]
def zjb (b:Bk) (n:ByteArray) (d:Int):ByteArray:=if zpp b n d=0 then oprY (zn b n) d else s0
theorem zkp (b:Bk) (n:ByteArray) (d:Int):Pure Tryz.prog 36 [b.pv,.s n,.i .i64 d] (.tup [.s (zjb b n d),.i .i64 (zpp b n d)]):=by
 refine zf (cF Tryz.func36 Tryz.f36.eq_1) (by simp) λhw X hX=>?_
 simp only [wfs,PV.wf,List.length_map,maxLen] at hw
 have qe:=@qR;repeat' first|refine gC ?_ ?_<;>intro hc<;>try contradiction|refine za (zV b) ?_|refine za (zY b n) ?_|refine za (zb2 d) ?_|refine za (zw [_,_,_]) ?_|refine gG ?_|show AK _;intro K H|refine H _ _ ?_;clear H K|refine gJ ?_;try exact trivial|omega
 ·have h:¬oprE b n d=0:=hc
  have h':zpp b n d=oprE b n d:=by rw [zpp,za3 h]
  have e1:zjb b n d=s0:=by rw [zjb,if_neg (λe=>h (h'.symm.trans e))]
  rw [e1,h'];exact .refl _
 ·have h:oprE b n d=0:=hc
  have hu:=fE0 hc (if atL n (b.slots.map (·.req.name)) < 0 then 10 else 0) (by simp)
  have hu':¬atL n (b.slots.map (·.req.name)) < 0:=λe=>by rw [if_pos e] at hu;omega
  obtain ⟨s,hs⟩:=zdM hu'
  have hlt:=zdE n (b.slots.map (·.req.name))
  rw [List.length_map] at hlt
  have hso:zn b n=s:=by rw [zn,hs];rfl
  have hC:zpp b n d=zpo s d:=by rw [zpp,za4 h,zfk,hso]
  have hlL:zcY (λl=>decide (l.fro<=d) && decide (d<=l.to)) s.ls < s.ls.length:=zju _ _
  by_cases hle:leaI s d < 0
  ·have hle':zcY (λl=>decide (l.fro<=d) && decide (d<=l.to)) s.ls < 0:=hle
   have qe:=aI qR @hs;repeat' first|refine gC ?_ ?_<;>intro hc<;>try contradiction|refine za (za9 b n) ?_|refine za (zi5 s.req.per d) ?_|refine za (zer s d) ?_|refine gG ?_|show AK _;intro K H|refine H _ _ ?_;clear H K|refine gJ ?_;try exact trivial|omega
   ·have hx:zpo s d=30:=by rw [zpo,if_neg (λe=>hc.elim (λf=>f e.1) (λf=>by rw [e.2] at f;cases f))]
    have e1:zjb b n d=s0:=by rw [zjb,hC,hx];rfl
    rw [e1,hC,hx];exact .refl _
   ·have hx:zpo s d=0:=by rw [zpo,if_pos (by assumption)]
    have e1:zjb b n d=s.holder:=by rw [zjb,hC,hx,if_pos rfl,hso,oprY,if_pos hle]
    rw [e1,hC,hx];exact .refl _
  ·obtain ⟨y,hy⟩:∃ y,s.ls[(zcY (λl=>decide (l.fro<=d) && decide (d<=l.to)) s.ls).toNat]?=some y:=⟨_,List.getElem?_eq_getElem (by have:¬zcY (λl=>decide (l.fro<=d) && decide (d<=l.to)) s.ls < 0:=hle;omega)⟩
   have hle':¬zcY (λl=>decide (l.fro<=d) && decide (d<=l.to)) s.ls < 0:=hle
   have qe:=aI qR (aI @hs @hy);repeat' first|refine gC ?_ ?_<;>intro hc<;>try contradiction|refine za (za9 b n) ?_|refine za (zi5 s.req.per d) ?_|refine za (zer s d) ?_|refine gG ?_|show AK _;intro K H|refine H _ _ ?_;clear H K|refine gJ ?_;try exact trivial|omega
   ·have hx:zpo s d=30:=by rw [zpo,if_neg (λe=>hc.elim (λf=>f e.1) (λf=>by rw [e.2] at f;cases f))]
    have e1:zjb b n d=s0:=by rw [zjb,hC,hx];rfl
    rw [e1,hC,hx];exact .refl _
   ·have hx:zpo s d=0:=by rw [zpo,if_pos (by assumption)]
    have e1:zjb b n d=y.carrier:=by rw [zjb,hC,hx,if_pos rfl,hso,oprY,if_neg hle,show leaI s d=zcY (λl=>decide (l.fro<=d) && decide (d<=l.to)) s.ls from rfl,hy];rfl
    rw [e1,hC,hx];exact .refl _
def zhm (b:Bk) (c n:ByteArray) (a:Int):Int:=zg [zaH c,zfe b.slots n,a,if (zn b n).holder=c then 0 else 31]
abbrev zwD (q:Req):PV:=.agg [.s q.name,.s q.carrier,.s q.kind,.s q.term,.s q.partner,.s q.link,.i .i64 q.per.fro,.i .i64 q.per.to,.i .i64 q.per.days,.i .i64 q.minute,.i .i64 q.seats,.i .i64 q.size,.i .i64 q.noise,.s q.carrier,.nilsl,.nilsl]
def zgP (q:Req):Slt:=⟨q,q.carrier,[],[]⟩
theorem zmG (q:Req):Wks (zwD q).cells (zgP q).pv.cells:=
 ⟨.refl _,.refl _,.refl _,.refl _,.refl _,.refl _,.refl _,.refl _,.refl _,.refl _,.refl _,.refl _,.refl _,.refl _,.nilsl _,.nilsl _,trivial⟩
def bk0:Bk:=⟨[],[]⟩
theorem zbv (e:Int):Wk (.tup [.agg [.nilsl,.nilsl],.i .i64 e]) (.tup [bk0.pv,.i .i64 e]):=.tup ⟨.agg ⟨.nilsl _,.nilsl _,trivial⟩,.refl _,trivial⟩
theorem zhw (b:Bk) (n:ByteArray):Pure Tryz.prog 115 [.agg [.sl 16 (b.slots.map Slt.pv),.sl 14 (b.wait.map Wsh.pv)],.s n] (.b (zhv (b.slots.map (·.req.name)) (b.wait.map (·.req.name)) n)):=by
 have h:=zqT (b.slots.map Slt.raw) b.wait n
 rw [<-zeI,zdL] at h;exact h
structure zfz (b:Bk):Prop where
 s:∀ s ∈ b.slots,zlc s
 n:b.slots.length<=1000
 w:b.wait.length<=1000
def tkE (b:Bk) (n:ByteArray):Int:=if zhv (b.slots.map (·.req.name)) (b.wait.map (·.req.name)) n=true then 9 else 0
def zos (b:Bk) (q:Req):Int:=zg [zsa q,tkE b q.name,if 64<=(b.slots.length:Int) then 5 else 0]
def movF (b:Bk) (but:Int):List Mov:=mvF (rqW (b.slots.map (·.req)) but)
def zei (l:List Lim) (b:Bk) (q:Req):Int:=if zos b q=0 then (if zjz l (movF b (-1)) q=true then 0 else 14) else zos b q
def zjv (l:List Lim) (b:Bk) (q:Req):Bk:=if zei l b q=0 then ⟨b.slots++[zgP q],b.wait⟩ else bk0
theorem zqW (l:List Lim) (b:Bk) (q:Req) (hb:zfz b):Pure Tryz.prog 72 [b.pv,.sl 11 (l.map Lim.pv),q.pv] (.tup [(zjv l b q).pv,.i .i64 (zei l b q)]):=by
 obtain ⟨hs,hn,hwl⟩:=hb
 refine zat (r:=if zei l b q=0 then .tup [.agg [.sl 16 (b.slots.map Slt.pv++[zwD q]),.sl 14 (b.wait.map Wsh.pv)],.i .i64 0] else .tup [.agg [.nilsl,.nilsl],.i .i64 (zei l b q)]) ?_ ?_
 ·refine zf (cF Tryz.func72 Tryz.f72.eq_1) (by simp) λhw X hX=>?_
  have ht:∀ n,(if zhv (b.slots.map (·.req.name)) (b.wait.map (·.req.name)) n=true then (9:Int) else 0)=tkE b n:=λ_=>rfl
  have hm:mvF (rqW (b.slots.map (·.req)) (-1))=movF b (-1):=rfl
  have hl:(b.slots.map Slt.pv++[zwD q]).length=b.slots.length+1:=by simp
  have qe:=aI qR (aI @qN (aI @zaA (aI @zaz @zaf)));repeat' first|refine gC ?_ ?_<;>intro hc<;>try contradiction|refine za (zgG q) ?_|refine za (zhw b q.name) ?_|refine za (zU _ _) ?_|refine za (zw [_,_,_]) ?_|refine za (zgL b.slots b.wait (-1) (by omega)) ?_|refine za (zeq l _ q) ?_|refine zl [(100,200),(7,201)] (zbC b.slots b.wait hs (by omega) (by omega)) ?_|refine gG ?_|show AK _;intro K H|refine H _ _ ?_;clear H K|refine gJ ?_;try exact trivial|omega
  ·have h:¬zos b q=0:=hc
   rw [zei,if_neg h,if_neg h];exact .refl _
  ·rename_i h0
   have h:zos b q=0:=h0
   have hf:zjz l (movF b (-1)) q=false:=by simpa [hm] using hc
   rw [zei,if_pos h,hf];exact .refl _
  ·rename_i h0
   have h:zos b q=0:=h0
   have hf:zjz l (movF b (-1)) q=true:=by simpa [hm] using hc
   rw [zei,if_pos h,hf];exact .refl _
 ·by_cases h:zei l b q=0
  ·rw [if_pos h,zjv,if_pos h,h]
   refine .tup ⟨.agg ⟨.sl ?_,.refl _,trivial⟩,.refl _,trivial⟩
   rw [List.map_append]
   exact .app (.refl _) ⟨zmG q,trivial⟩
  ·rw [if_neg h,zjv,if_neg h];exact zbv _
def zfN (l:List Lim) (b:Bk) (q:Req):Int:=if zg [z3 l,zF b]=0 then zei l b q else zg [z3 l,zF b]
def zhk (l:List Lim) (b:Bk) (q:Req):Bk:=if zfN l b q=0 then zjv l b q else bk0
theorem zuR {l:List Lim} {b:Bk} {q:Req} (h:zei l b q≠0):zjv l b q=bk0:=by rw [zjv,if_neg h]
theorem zgN (l:List Lim) (b:Bk) (q:Req) (hb:zF b=0->zfz b):Pure Tryz.prog 26 [.sl 11 (l.map Lim.pv),b.pv,q.pv] (.tup [(zhk l b q).pv,.i .i64 (zfN l b q)]):=by
 refine zat (r:=if zg [z3 l,zF b]=0 then .tup [(zjv l b q).pv,.i .i64 (zei l b q)] else .tup [.agg [.nilsl,.nilsl],.i .i64 (zg [z3 l,zF b])]) ?_ ?_
 ·by_cases h:zg [z3 l,zF b]=0
  ·have h1:=h
   have e1:(zg [z3 l,zF b]=0)=True:=eq_true h
   rw [if_pos h]
   refine zf (cF Tryz.func26 Tryz.f26.eq_1) (by simp) λhw X hX=>?_
   have hb':=hb (fE0 h _ (by simp))
   have qe:=aI qR (aI @qN @e1);repeat' first|refine gC ?_ ?_<;>intro hc<;>try contradiction|refine za (zeR l) ?_|refine za (zV b) ?_|refine za (zw [_,_]) ?_|refine za (zqW l b q hb') ?_|refine gG ?_|show AK _;intro K H|refine H _ _ ?_;clear H K|refine gJ ?_;try exact trivial|omega
   exact .refl _
  ·have e1:(zg [z3 l,zF b]=0)=False:=eq_false h
   rw [if_neg h]
   refine zf (cF Tryz.func26 Tryz.f26.eq_1) (by simp) λhw X hX=>?_
   have qe:=aI qR (aI @qN @e1);repeat' first|refine gC ?_ ?_<;>intro hc<;>try contradiction|refine za (zeR l) ?_|refine za (zV b) ?_|refine za (zw [_,_]) ?_|refine gG ?_|show AK _;intro K H|refine H _ _ ?_;clear H K|refine gJ ?_;try exact trivial|omega
   exact .refl _
 ·by_cases h:zg [z3 l,zF b]=0
  ·rw [if_pos h,zhk,zfN,if_pos h]
   by_cases k:zei l b q=0
   ·rw [if_pos k];exact .refl _
   ·rw [if_neg k,zuR k];exact .refl _
  ·rw [if_neg h,zhk,zfN,if_neg h,if_neg h];exact zbv _
def zfD (b:Bk) (w:Wsh):Int:=zg [zkX w,tkE b w.req.name,if 64<=(b.wait.length:Int) then 5 else 0]
def zlf (b:Bk) (w:Wsh):Bk:=if zfD b w=0 then ⟨b.slots,zbL zv4 (b.wait++[w])⟩ else bk0
theorem zq1 (b:Bk) (w:Wsh) (hb:zfz b) (hn:b.wait.length<=10):Pure Tryz.prog 73 [b.pv,w.pv] (.tup [(zlf b w).pv,.i .i64 (zfD b w)]):=by
 obtain ⟨hs,hn1,hwl⟩:=hb
 refine zat (r:=if zfD b w=0 then .tup [.agg [.sl 16 (b.slots.map Slt.pv),.sl 14 ((zbL zv4 (b.wait++[w])).map Wsh.pv)],.i .i64 0] else .tup [.agg [.nilsl,.nilsl],.i .i64 (zfD b w)]) ?_ ?_
 ·refine zf (cF Tryz.func73 Tryz.f73.eq_1) (by simp) λhw X hX=>?_
  have ht:∀ n,(if zhv (b.slots.map (·.req.name)) (b.wait.map (·.req.name)) n=true then (9:Int) else 0)=tkE b n:=λ_=>rfl
  have hA:=λl=>eq_true (zvQ l)
  have hm:b.wait.map Wsh.pv++[w.pv]=(b.wait++[w]).map Wsh.pv:=by simp
  have hl:(b.wait++[w]).length=b.wait.length+1:=by simp
  have h1156:=zsA zgK (b.wait++[w]) (by rw [hl];omega)
  rw [hl,<-hm] at h1156
  have hsl:(zbL zv4 (b.wait++[w])).length=b.wait.length+1:=by rw [zG];exact hl
  have qe:=aI qR (aI @qN (aI @zaA (aI @zaz (aI @zaf (aI @hA @hsl)))));repeat' first|refine gC ?_ ?_<;>intro hc<;>try contradiction|refine za (zgJ w) ?_|refine za (zhw b w.req.name) ?_|refine za (zU _ _) ?_|refine za (zw [_,_,_]) ?_|refine zl [(100,200),(7,201)] (zbC b.slots b.wait hs (by omega) (by omega)) ?_|refine zl [(900,201)] (h1156) ?_|refine gG ?_|show AK _;intro K H|refine H _ _ ?_;clear H K|refine gJ ?_;try exact trivial|omega
  ·have h:¬zfD b w=0:=hc
   rw [if_neg h];exact .refl _
  ·have h:zfD b w=0:=hc
   rw [if_pos h];exact .refl _
 ·by_cases h:zfD b w=0
  ·rw [if_pos h,zlf,if_pos h,h];exact .refl _
  ·rw [if_neg h,zlf,if_neg h];exact zbv _
def zmB (b:Bk) (w:Wsh):Int:=if zF b=0 then zfD b w else zF b
def zpg (b:Bk) (w:Wsh):Bk:=if zmB b w=0 then zlf b w else bk0
theorem zq9 (b:Bk) (w:Wsh) (hb:zF b=0->zfz b) (hn:b.wait.length<=10):Pure Tryz.prog 28 [b.pv,w.pv] (.tup [(zpg b w).pv,.i .i64 (zmB b w)]):=by
 refine zat (r:=if zF b=0 then .tup [(zlf b w).pv,.i .i64 (zfD b w)] else .tup [.agg [.nilsl,.nilsl],.i .i64 (zF b)]) ?_ ?_
 ·by_cases h:zF b=0
  ·have e1:(zF b=0)=True:=eq_true h
   rw [if_pos h]
   refine zf (cF Tryz.func28 Tryz.f28.eq_1) (by simp) λhw X hX=>?_
   have qe:=aI qR (aI @qN @e1);repeat' first|refine gC ?_ ?_<;>intro hc<;>try contradiction|refine za (zV b) ?_|refine za (zq1 b w (hb h) hn) ?_|refine gG ?_|show AK _;intro K H|refine H _ _ ?_;clear H K|refine gJ ?_;try exact trivial|omega
   exact .refl _
  ·have e1:(zF b=0)=False:=eq_false h
   rw [if_neg h]
   refine zf (cF Tryz.func28 Tryz.f28.eq_1) (by simp) λhw X hX=>?_
   have qe:=aI qR (aI @qN @e1);repeat' first|refine gC ?_ ?_<;>intro hc<;>try contradiction|refine za (zV b) ?_|refine gG ?_|show AK _;intro K H|refine H _ _ ?_;clear H K|refine gJ ?_;try exact trivial|omega
   exact .refl _
 ·by_cases h:zF b=0
  ·rw [if_pos h,zpg,zmB,if_pos h]
   by_cases k:zfD b w=0
   ·rw [if_pos k];exact .refl _
   ·rw [if_neg k,zlf,if_neg k];exact .refl _
  ·rw [if_neg h,zpg,zmB,if_neg h,if_neg h];exact zbv _
end Go.Proofs.YtijgimeokgbifaaGreat
