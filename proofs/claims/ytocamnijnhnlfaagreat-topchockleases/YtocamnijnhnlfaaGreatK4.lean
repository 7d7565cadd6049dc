/- Contracts of functions, for the claim. No conditions. -/
import Derived.Laws.RangeAny
import Derived.Test.YtocamnijnhnlfaaGreatK3
set_option linter.all false
set_option maxHeartbeats 8000000
set_option maxRecDepth 100000
namespace Go.Proofs.YtocamnijnhnlfaaGreat
open Go.RowKit Tryz
abbrev zmj (s:ByteArray) (i:Nat):Int:=((s[i]?.getD 0).toNat:Int)
def zrQ (c:Int):Bool:=decide (65<=c) && decide (c<=90) || decide (97<=c) && decide (c<=122)
def zeo (i:Nat) (c:Int):Bool:=zrQ c || !(decide (i=0)) && (decide (c=95) || decide (48<=c) && decide (c<=57))
def zan (s:ByteArray):Bool:=!(decide (s.size=0) || decide (24 < s.size)) && (List.range s.size).all λi=>zeo i (zmj s i)
def zgy {s:ByteArray} (h:(s.size:Int)=0\/24 < (s.size:Int)):zan s=false:=by
 have:(decide (s.size=0) || decide (24 < s.size))=true:=by simp only [xaY,decide_eq_true_eq];omega
 simp only [zan,this,xbg,xbj]
def zhR {s:ByteArray} {i:Nat} (h:¬(s.size:Int)=0/\(s.size:Int)<=24) (hi:i<=s.size/\∀ j < i,zeo j (zmj s j)=true) (he:¬i < s.size):zan s=true:=by
 have:(decide (s.size=0) || decide (24 < s.size))=false:=by simp only [xbd,decide_eq_false_iff_not];omega
 simp only [zan,this,xbK,xbh,xaD,xaO];exact λj hj=>hi.2 j (by omega)
def zkf {s:ByteArray} {i:Nat} (hi:i < s.size) (hn:zeo i (zmj s i)=false):zan s=false:=by
 cases h:zan s
 ·rfl
 ·simp only [zan,xam,xaD,xaO] at h;rw [h.2 i hi] at hn;exact hn
def zkz (s:ByteArray) (i:Nat) (h:i < s.size):((Utf8.decode s i).1:Int)=zmj s i/\zmj s i < 128/\(Utf8.decode s i).2=1\/128<=((Utf8.decode s i).1:Int)/\128<=zmj s i/\1<=(Utf8.decode s i).2:=by
 have e:zmj s i=((s[i]'h).toNat:Int):=by simp only [zmj,getElem?_pos s i h,xa1]
 by_cases ha:(s[i]'h).toNat < 128
 ·have:=decode_ascii s i h ha
  left;rw [this,e];simp;omega
 ·have:=decode_high s i h (by omega)
  right;rw [e];omega
def zhv (x:ByteArray):Pure prog 10 [.s x] (.b (zan x)):=by
 refine pz func10 f10.eq_1 λhw X hX=>?_
 simp only [wfs,PV.wf,maxLen] at hw
 repeat' first|refine gC ?_ ?_<;>intro hc<;>try contradiction|refine gG ?_|show AK _;intro J Z|refine gJ ?_|omega|exact aT
 ·rw [zgy hc];exact .refl _
 refine zh (κ:=Nat) (λi=>⟨[(0,.p (.s x)),(3,.p (.i .i64 i))],[],[],false⟩) (λi=>i<=x.size/\∀ j < i,zeo j (zmj x j)=true) (λi=>x.size - i) 0 ?_ ?_ ?_
 ·exact sR
 ·simp
 ·intro i hi
  repeat' first|refine gC ?_ ?_<;>intro hc<;>try contradiction|refine gG ?_|show AK _;intro J Z|refine gJ ?_|omega|exact aT
  ·rw [zkf (i:=i) (by omega)];exact .refl _
   simp only [zeo,zrQ,zmj];simp;omega
  ·refine ⟨i+1,⟨by omega,λj hj=>?_⟩,by omega,by simp⟩
   by_cases e:j=i
   ·subst e;simp only [zeo,zrQ,zmj];simp;omega
   ·exact hi.2 j (by omega)
  ·rw [zhR ‹_› hi (by omega)];exact .refl _
def zbU (x:ByteArray):Pure prog 76 [.s x] (.b (zan x)):=by
 refine pz func76 f76.eq_1 λhw X hX=>?_
 simp only [wfs,PV.wf,maxLen] at hw
 repeat' first|refine gC ?_ ?_<;>intro hc<;>try contradiction|refine gG ?_|show AK _;intro J Z|refine gJ ?_|omega|exact aT
 ·rw [zgy hc];exact .refl _
 refine zh (κ:=Nat) (λi=>⟨[(0,.p (.s x)),(15,.it 15)],[(15,.sit x i)],[],false⟩) (λi=>i<=x.size/\∀ j < i,zeo j (zmj x j)=true) (λi=>x.size - i) 0 ?_ ?_ ?_
 ·exact sR
 ·simp
 ·intro i hi
  by_cases hlt:i < x.size
  ·have qe:=aI @nextV.eq_1 (aI @nextP.eq_1 (aI @hlt @maxLen.eq_1));repeat' first|refine gC ?_ ?_<;>intro hc<;>try contradiction|refine gG ?_|show AK _;intro J Z|refine gJ ?_|omega|exact aT
   ·rw [zkf hlt];exact .refl _;have:=zkz x i hlt;simp only [zeo,zrQ,zmj] at this ⊢;simp;omega
   ·have hd:=zkz x i hlt;have h1:zmj x i < 128/\(Utf8.decode x i).2=1:=by omega
    refine ⟨i+1,⟨by omega,λj hj=>?_⟩,by omega,by rw [h1.2]⟩
    by_cases e:j=i
    ·subst e;simp only [zeo,zrQ,zmj] at hd h1 ⊢;simp;omega
    ·exact hi.2 j (by omega)
  ·have qe:=aI @nextV.eq_1 (aI @nextP.eq_1 (aI @hlt @maxLen.eq_1));repeat' first|refine gC ?_ ?_<;>intro hc<;>try contradiction|refine gG ?_|show AK _;intro J Z|refine gJ ?_|omega|exact aT
   rw [zhR ‹_› hi (by omega)];exact .refl _
def zAI (p:Per) (k:Nat):List (List PV):=if inM p.days ((p.fro+k+5) % 7) then [[.i .i64 (p.fro+k)]] else []
def zpi (p:Per) (n:Nat):List (List PV):=(List.range n).flatMap (zAI p)
def zwA (p:Per):zpi p (p.to - p.fro+1).toNat=(zq p).map λd=>[.i .i64 d]:=by
 simp only [zpi,zAI,zq,List.map_flatMap]
 congr 1;funext k;simp only [zAI];split<;>rfl
def zzS (p:Per) (h:zC p=0):zx5 prog 227 [.ip p.pv 0] ((zq p).map λd=>[.i .i64 d]):=by
 have hp:=zY h;rw [<-zwA];refine zi5 (cF func227 f227.eq_1) (by simp) λhw X hX=>?_
 simp only [zbY]
 repeat' first|refine gC ?_ ?_<;>intro hc<;>try contradiction|refine gG ?_|show AK _;intro J Z|refine gJ ?_|omega|exact aT
 refine zh (κ:=Nat) (λk=>⟨[(0,.yield),(1,.p (.ip p.pv 0)),(3,.p (.i .i64 (p.fro+k)))],[],zpi p k,false⟩) (λk=>k<=(p.to - p.fro+1).toNat) (λk=>(p.to - p.fro+1).toNat - k) 0 ?_ ?_ ?_
 ·refine gJ ?_;simp [zpi]
 ·simp
 ·intro k hk
  repeat' first|refine gC ?_ ?_<;>intro hc<;>try contradiction|refine gG ?_|show AK _;intro J Z|refine gJ ?_|omega|exact aT
  ·have hc':k < (p.to - p.fro+1).toNat:=by omega
   have hs:=zd0 (zAI p) hc'
   by_cases hm:inM p.days ((p.fro+k+5) % 7)=true
   ·simp only [zAI,hm,if_true,List.singleton_append] at hs;have qe:=@hm;repeat' first|refine gC ?_ ?_<;>intro hc<;>try contradiction|refine zdq (hf:=zlv _ (by omega) (by omega)) (hn:=?_)|refine zdq (hf:=ziy _ _ (by omega) (by omega) (by omega) (by omega)) (hn:=?_)|refine gG ?_|show AK _;intro J Z|refine gJ ?_|omega|exact aT
    have qe:=@hm;(show zj _ _ _ _ (⟨_,.callv,_,_,_⟩::_) _ _;refine zin (by first|rfl|(simp (disch:=omega) only [qG,qe,seval]<;>rfl)) (by simp (disch:=omega) only [qS,qe,seval]) (by simp (disch:=omega) only [qS,qe,seval]<;>rfl) (by simp (disch:=omega) only [qS,qe,seval];try trivial) rfl _ (hs) ?_;intro b;(refine zB ?_))
    have qe:=@hm;repeat' first|refine gC ?_ ?_<;>intro hc<;>try contradiction|refine gG ?_|show AK _;intro J Z|refine gJ ?_|omega|exact aT
    ·subst hc;exact .inl rfl
    ·subst hc;refine ⟨k+1,by omega,by omega,by simp;omega,?_,rfl⟩
     simp only [zpi,z8,zAI,hm];simp
   ·simp only [xcn] at hm;have qe:=@hm;repeat' first|refine gC ?_ ?_<;>intro hc<;>try contradiction|refine zdq (hf:=zlv _ (by omega) (by omega)) (hn:=?_)|refine zdq (hf:=ziy _ _ (by omega) (by omega) (by omega) (by omega)) (hn:=?_)|(show zj _ _ _ _ (⟨_,.callv,_,_,_⟩::_) _ _;refine zcf (q:=(.b false)) (by first|rfl|(simp (disch:=omega) only [qG,qe,seval]<;>rfl)) ?_;(try (refine zB ?_)))|refine gG ?_|show AK _;intro J Z|refine gJ ?_|omega|exact aT
    refine ⟨k+1,by omega,by omega,by simp;omega,?_⟩
    simp only [zpi,z8,zAI,hm];simp
  ·repeat' first|refine gC ?_ ?_<;>intro hc<;>try contradiction|refine gG ?_|show AK _;intro J Z|refine gJ ?_|omega|exact aT
   have e:k=(p.to - p.fro+1).toNat:=by omega
   subst e;exact .inr rfl
def zzi (d:Int):Pure prog 185 [.i .i64 d] (.b true):=by
 refine pz func185 f185.eq_1 λhw X hX=>?_
 exact gD0
def zzj (p:Per):Pure prog 184 [p.pv] (.fn (.func 227) [] [.ip p.pv 0]):=by
 refine pz func184 f184.eq_1 λhw X hX=>?_
 exact gD0
def zzk (p:Per) (h:zC p=0):Pure prog 183 [.fn (.func 227) [] [.ip p.pv 0],.fn (.func 185) [] []] (.sl 1 ((zq p).map (.i .i64))):=by
 refine pz func183 f183.eq_1 λhw X hX=>?_
 repeat' first|refine gC ?_ ?_<;>intro hc<;>try contradiction|refine gG ?_|show AK _;intro J Z|refine gJ ?_|omega|exact aT
 have hp:=zY h;have hn:=zbx p;refine zaf 100 3 1 [(3,.lp 3 0),(5,.lp 5 0),(7,.p (.fn (.func 227) [] [.ip p.pv 0]))] [(3,.box [.p (.fn (.func 185) [] [])] false),(5,.box [.row 100 0] false)] ?_ ?_
 ·simp only [Own,zam,zaj,za8,zad,qS,seval]
 refine zeh rfl (zzS p h) ?_ ?_ [(3,.lp 3 0),(5,.lp 5 0),(7,.p (.fn (.func 227) [] [.ip p.pv 0]))] (λk=>[(3,.box [.p (.fn (.func 185) [] [])] false),(5,.box [.row 100 k] false),(100,.row 3 1 (((zq p).take k).map (.i .i64)) false)]) (λ_=>[]) ?_ ?_ ?_
 ·simp
 ·simp [hX]
 ·exact sE
 ·intro k t ht X' ro' hX';simp only [xai,xac] at ht;obtain ⟨d,hd,rfl⟩:=ht;have hl:=zfv hd;have hk:=(xaa.1 hd).1;simp only [qS,seval]
  repeat' first|refine gC ?_ ?_<;>intro hc<;>try contradiction|refine gG ?_|show AK _;intro J Z|refine gJ ?_|omega|exact aT
  intro X1 hX1;have qe:=aI qR (aI @hl (zf2 (PV.i .i64) hd));repeat' first|refine gC ?_ ?_<;>intro hc<;>try contradiction|refine zn (zzi _) ?_|refine gG ?_|show AK _;intro J Z|refine gJ ?_|omega|exact aT
 ·simp only [xaf];have qe:=@List.take_length.{0};exact gD0
def zk5 {a b c d:PV} (h1:Weak a b) (h2:Weak c d):Weak (.tup [a,c]) (.tup [b,d]):=by
 refine .tup rfl λj x y hx hy=>?_
 match j with
 | 0=>simp at hx hy;subst hx;subst hy;exact h1
 | 1=>simp at hx hy;subst hx;subst hy;exact h2
 | j+2=>simp at hx
def zcY (p:Per):List Int:=if zC p=0 then zq p else []
def ziA (p:Per):Pure prog 130 [p.pv] (.tup [.sl 1 ((zcY p).map (.i .i64)),.i .i64 (zC p)]):=by
 refine pz func130 f130.eq_1 λhw X hX=>?_
 repeat' first|refine gC ?_ ?_<;>intro hc<;>try contradiction|refine za (zcB _) ?_|refine za (zzj _) ?_|refine za (zzk p hc) ?_|refine gG ?_|show AK _;intro J Z|refine gJ ?_|omega|exact aT
 ·rw [zcY,if_neg hc];exact zk5 (.nilsl _) (.refl _)
 ·rw [zcY,if_pos hc,hc];exact .refl _
def zsa (p:Per) (d:Int):Int:=zf [zC p,rng d 0 99999]
def zpN (p:Per) (d:Int):Bool:=decide (zsa p d=0) && zz2 p d
def zly (p:Per) (d:Int):Pure prog 32 [p.pv,.i .i64 d] (.tup [.b (zpN p d),.i .i64 (zsa p d)]):=by
 refine pz func32 f32.eq_1 λhw X hX=>?_
 have qe:=@qR;repeat' first|refine gC ?_ ?_<;>intro hc<;>try contradiction|refine za (zcB _) ?_|refine za (zrg _) ?_|refine za (zlw [_,_]) ?_|refine gG ?_|show AK _;intro J Z|refine gJ ?_|omega|exact aT
 ·have:zsa p d≠0:=hc;simp only [zpN,this,decide_false,xbj];exact .refl _
 ·have h0:zsa p d=0:=hc;have h1:=h0;simp only [zsa,ze,zbd] at h1;have hp:=zY h1.1
  repeat' first|refine gC ?_ ?_<;>intro hc<;>try contradiction|refine za (zzf p d (by omega) (by omega) (by omega) (by omega)) ?_|refine gG ?_|show AK _;intro J Z|refine gJ ?_|omega|exact aT
  simp only [zpN,h0,decide_true,xbh];exact .refl _
def ziz (n a b:Int):Pure prog 109 [.i .i64 n,.i .i64 a,.i .i64 b] (.i .i64 (rng n a b)):=by
 refine pz func109 f109.eq_1 λhw X hX=>?_
 repeat' first|refine gC ?_ ?_<;>intro hc<;>try contradiction|refine gG ?_|show AK _;intro J Z|refine gJ ?_|omega|exact aT
 ·rw [rng,if_pos hc];exact .refl _
 ·rw [zbd.2 hc];exact .refl _
def zlz (n:Int):Pure prog 164 [.i .i64 n] (.i .i64 (rng n 0 99999)):=by
 refine pz func164 f164.eq_1 λhw X hX=>?_
 have jA:=λu1 u2 u3=>ziz u1 u2 u3;exact gD2
def zmJ (p:Per):Pure prog 102 [p.pv] (.i .i64 (zC p)):=by
 refine pz func102 f102.eq_1 λhw X hX=>?_
 repeat' first|refine gC ?_ ?_<;>intro hc<;>try contradiction|refine zm (λ_=>zlz _) ?_|refine za (zlz _) ?_|refine za (ziz _ _ _) ?_|refine gG ?_|show AK _;intro J Z|refine gJ ?_|omega|exact aT
 ·rw [show zC p=3 by simp only [zC,zf,rng];(repeat' split)<;>omega];exact .refl _
 ·rw [show zC p=11 by simp only [zC,zf,rng];(repeat' split)<;>omega];exact .refl _
 ·rw [show zC p=4 by simp only [zC,zf,rng];(repeat' split)<;>omega];exact .refl _
 ·rw [show zC p=rng p.days 1 127 by simp only [zC,zf,rng];(repeat' split)<;>omega];exact .refl _
def zzl (d:Int) (h0:0<=d) (h1:d<=99999):Pure prog 63 [.i .i64 d] (.i .i64 ((d+5) % 7)):=by
 refine pz func63 f63.eq_1 λhw X hX=>?_
 repeat' first|refine gC ?_ ?_<;>intro hc<;>try contradiction|refine gG ?_|show AK _;intro J Z|refine gJ ?_|omega|exact aT
 rw [xbF (by omega)]
 exact .refl _
def zrh (m w:Int) (h0:0<=m) (h1:m < 128) (h2:0<=w) (h3:w < 7):Pure prog 62 [.i .i64 m,.i .i64 w] (.b (inM m w)):=by
 refine pz func62 f62.eq_1 λhw X hX=>?_
 repeat' first|refine gC ?_ ?_<;>intro hc<;>try contradiction|refine gG ?_|show AK _;intro J Z|refine gJ ?_|omega|exact aT
 refine zh (κ:=Nat) (λi=>⟨[(0,.p (.i .i64 (m / 2 ^ i))),(1,.p (.i .i64 w)),(5,.p (.i .i64 i))],[],[],false⟩) (λi=>i<=w.toNat) (λi=>w.toNat - i) 0 ?_ ?_ ?_
 ·exact sS
 ·simp
 ·intro i hi;have hq:0<=m / 2 ^ i:=xch h0 (Int.le_of_lt (Int.pow_pos (by decide)))
  have hq2:m / 2 ^ i<=m:=xbY _ h0;have hq3:∀ b,(m / 2 ^ i).tdiv b=(m / 2 ^ i) / b:=λb=>xbf hq
  have hq4:∀ b,(m / 2 ^ i).tmod b=(m / 2 ^ i) % b:=λb=>xbF hq
  have qe:=aI @hq3 @hq4;repeat' first|refine gC ?_ ?_<;>intro hc<;>try contradiction|refine gG ?_|show AK _;intro J Z|refine gJ ?_|omega|exact aT
  ·refine ⟨i+1,by omega,by omega,?_,by simp⟩
   rw [Int.pow_succ,Int.ediv_ediv_of_nonneg (Int.le_of_lt (Int.pow_pos (by decide)))]
  ·have e:i=w.toNat:=by omega
   subst e;exact .refl _
def zzq (p:Per) (d:Int) (h0:0<=d) (h1:d<=99999) (h2:0<=p.days) (h3:p.days < 128):Pure prog 26 [p.pv,.i .i64 d] (.b (zz2 p d)):=by
 refine pz func26 f26.eq_1 λhw X hX=>?_
 have qe:=@qR;repeat' first|refine gC ?_ ?_<;>intro hc<;>try contradiction|refine zm (λ_=>zzl _ h0 h1) ?_|(show zj _ _ _ _ (⟨_,.call 62,_,_,_⟩::_) _ _;refine zcx (hf:=λhc=>(by first|exact zrh p.days ((d+5) % 7) h2 h3 (by omega) (by omega)|(simp only [qH,zbd] at hc;exact zrh p.days ((d+5) % 7) h2 h3 (by omega) (by omega)))) (hn:=?_))|refine gG ?_|show AK _;intro J Z|refine gJ ?_|omega|exact aT
 all_goals exact .refl _
def zsb {p:Per} (k:Nat) (h:k < (p.to - p.fro+1).toNat):zz2 p (p.fro+k)=inM p.days ((p.fro+k+5) % 7):=by
 simp only [zz2,show p.fro<=p.fro+(k:Int) by omega,show p.fro+(k:Int)<=p.to by omega,decide_true,xbh]
def zgS (p:Per) (k:Nat):List Int:=(List.range k).flatMap λ(k:Nat)=>if inM p.days ((p.fro+k+5) % 7) then [p.fro+k] else []
def zsD (p:Per) (n:Nat):(zgS p n).length<=n:=by
 unfold zgS
 induction n with
 | zero=>simp
 | succ n ih=>rw [z8,xad];split<;>simp only [xaK,xbs]<;>omega
def zq6 (p:Per) (h:zC p=0):Pure prog 8 [p.pv] (.sl 1 ((zq p).map (.i .i64))):=by
 have hp:=zY h;refine pz func8 f8.eq_1 λhw X hX=>?_
 repeat' first|refine gC ?_ ?_<;>intro hc<;>try contradiction|refine gG ?_|show AK _;intro J Z|refine gJ ?_|omega|exact aT
 refine zaf 100 3 1 [(1,.lp 1 0),(3,.row 100 0),(4,.p (.i .i64 p.fro))] [(1,.box [.p (.i .i64 p.fro),.p (.i .i64 p.to),.p (.i .i64 p.days)] false)] ?_ ?_
 ·simp only [Own,zam,zaj,za8,zad,qS,seval]
 refine zh (κ:=Nat) (λk=>⟨[(1,.lp 1 0),(3,.row 100 (zgS p k).length),(4,.p (.i .i64 (p.fro+k)))],[(1,.box [.p (.i .i64 p.fro),.p (.i .i64 p.to),.p (.i .i64 p.days)] false),(100,.row 3 1 ((zgS p k).map (.i .i64)) false)],[],false⟩) (λk=>k<=(p.to - p.fro+1).toNat) (λk=>(p.to - p.fro+1).toNat - k) 0 ?_ ?_ ?_
 ·refine gJ ?_;simp [zgS]
 ·simp
 ·intro k hk;have hl:=zsD p k;have qe:=@qR;repeat' first|refine gC ?_ ?_<;>intro hc<;>try contradiction|refine za (zzq p (p.fro+k) (by omega) (by omega) (by omega) (by omega)) ?_|refine gG ?_|show AK _;intro J Z|refine gJ ?_|omega|exact aT
  ·have e:zgS p (k+1)=zgS p k++[p.fro+(k:Int)]:=by
    rw [zsb k (by omega)] at hc;simp only [zgS,z8,hc,if_true]
   refine ⟨k+1,by omega,by omega,⟨by rw [e];simp,by simp;omega⟩,by rw [e];simp⟩
  ·have e:zgS p (k+1)=zgS p k:=by
    rw [zsb k (by omega)] at hc;simp only [zgS,z8,hc];simp
   refine ⟨k+1,by omega,by omega,⟨by rw [e],by simp;omega⟩,by rw [e]⟩
  ·have e:k=(p.to - p.fro+1).toNat:=by omega
   subst e;exact .refl _
abbrev s0:ByteArray:=bs []
abbrev sA:ByteArray:=bs [65]
abbrev sD:ByteArray:=bs [68]
abbrev sT:ByteArray:=bs [84]
structure Lim where
 name:ByteArray
 kind:ByteArray
 term:ByteArray
 len:Int
 step:Int
 fro:Int
 to:Int
 per:Per
 most:Int
abbrev Lim.cells (l:Lim):List PV:=[.s l.name,.s l.kind,.s l.term,.i .i64 l.len,.i .i64 l.step,.i .i64 l.fro,.i .i64 l.to,.i .i64 l.per.fro,.i .i64 l.per.to,.i .i64 l.per.days,.i .i64 l.most]
abbrev Lim.pv (l:Lim):PV:=.agg l.cells
structure Mov where
 moment:Int
 kind:ByteArray
 term:ByteArray
 seats:Int
 size:Int
 noise:Int
 name:ByteArray
abbrev Mov.pv (m:Mov):PV:=.agg [.i .i64 m.moment,.s m.kind,.s m.term,.i .i64 m.seats,.i .i64 m.size,.i .i64 m.noise,.s m.name]
structure Req where
 name:ByteArray
 carrier:ByteArray
 kind:ByteArray
 term:ByteArray
 partner:ByteArray
 link:ByteArray
 per:Per
 minute:Int
 seats:Int
 size:Int
 noise:Int
abbrev Req.pv (r:Req):PV:=.agg [.s r.name,.s r.carrier,.s r.kind,.s r.term,.s r.partner,.s r.link,.i .i64 r.per.fro,.i .i64 r.per.to,.i .i64 r.per.days,.i .i64 r.minute,.i .i64 r.seats,.i .i64 r.size,.i .i64 r.noise]
structure Win where
 lim:Int
 beg:Int
 cnt:Int
abbrev Win.pv (w:Win):PV:=.agg [.i .i64 w.lim,.i .i64 w.beg,.i .i64 w.cnt]
def zaz (k:ByteArray):Int:=if ¬k=sA/\¬k=sD then 13 else 0
def zeX (s:ByteArray):Int:=if ¬s=s0/\zan s=false then 8 else 0
def zy (s:ByteArray):Int:=if zan s=false then 8 else 0
def zoJ (a b c:Int):Int:=zf [rng a 0 999,rng b 0 9,rng c 0 99]
def zcq (m:Mov):Int:=zf [rng m.moment 0 143999999,zaz m.kind,zeX m.term,zoJ m.seats m.size m.noise,zy m.name]
def zbk (r:Req):Int:=zf [zy r.name,zaz r.kind,zeX r.term,zC r.per,rng r.minute 0 1439,zoJ r.seats r.size r.noise]
def zgu (k:ByteArray):Int:=if ¬k=sA/\¬k=sD/\¬k=sT then 13 else 0
def zbE (l:Lim):Int:=zf [zy l.name,zgu l.kind,zeX l.term,rng l.len 1 1440,rng l.step 1 1440,rng l.fro 0 1439,rng l.to 0 1439,if l.to < l.fro then 11 else 0,zC l.per,rng l.most 0 999999999]
def zcg (b:Bool) (e:Int):Pure prog 112 [.b b,.i .i64 e] (.i .i64 (if b then e else 0)):=by
 refine pz func112 f112.eq_1 λhw X hX=>?_
 repeat' first|refine gC ?_ ?_<;>intro hc<;>try contradiction|refine gG ?_|show AK _;intro J Z|refine gJ ?_|omega|exact aT
 all_goals (subst hc;exact .refl _)
def zgc (n a b:Int):Pure prog 168 [.i .i64 n,.i .i64 a,.i .i64 b] (.i .i64 (rng n a b)):=by
 refine pz func168 f168.eq_1 λhw X hX=>?_
 repeat' first|refine gC ?_ ?_<;>intro hc<;>try contradiction|refine za (zcg _ _) ?_|refine gG ?_|show AK _;intro J Z|refine gJ ?_|omega|exact aT
 simp only [rng,xaY,decide_eq_true_eq];exact .refl _
def zch (l:List Int):Pure prog 110 [.sl 1 (l.map (.i .i64))] (.i .i64 (zf l)):=by
 refine pz func110 f110.eq_1 λhw X hX=>?_
 simp only [wfs,PV.wf,xaf,maxLen] at hw
 repeat' first|refine gC ?_ ?_<;>intro hc<;>try contradiction|refine gG ?_|show AK _;intro J Z|refine gJ ?_|omega|exact aT
 refine zh (κ:=Nat) (λi=>⟨[(5,.p (.sl 1 (l.map (.i .i64)))),(6,.p (.i .i64 l.length)),(7,.p (.i .i64 i))],[],[],false⟩) (λi=>i<=l.length/\∀ x ∈ l.take i,x=0) (λi=>l.length - i) 0 ?_ ?_ ?_
 ·exact sR
 ·simp
 ·intro i hi
  repeat first|refine gG ?_|show AK _;intro J Z|refine gJ ?_|omega|exact aT
  (refine gC ?_ ?_<;>intro hc<;>try contradiction)
  ·obtain ⟨x,hx⟩:=zk (i:=i) (l:=l) (by omega)
   have qe:=@hx;repeat' first|refine gC ?_ ?_<;>intro hc<;>try contradiction|refine gG ?_|show AK _;intro J Z|refine gJ ?_|omega|exact aT
   ·rw [zN hi.2 hx hc];exact .refl _
   ·exact ⟨i+1,⟨by omega,zah hi.2 hx hc⟩,by omega,by simp⟩
  ·repeat' first|refine gC ?_ ?_<;>intro hc<;>try contradiction|refine gG ?_|show AK _;intro J Z|refine gJ ?_|omega|exact aT
   have e:i=l.length:=by omega
   subst e;rw [zU hi.2];exact .refl _
def zrk (s:ByteArray):Pure prog 238 [.s s] (.i .i64 (zaz s)):=by
 refine pz func238 f238.eq_1 λhw X hX=>?_
 repeat' first|refine gC ?_ ?_<;>intro hc<;>try contradiction|refine za (zcg _ _) ?_|refine gG ?_|show AK _;intro J Z|refine gJ ?_|omega|exact aT
 simp only [zaz,xam,xaX,decide_eq_false_iff_not,decide_eq_true_eq];exact .refl _
def zeV (s:ByteArray):Pure prog 167 [.s s] (.i .i64 (zeX s)):=by
 refine pz func167 f167.eq_1 λhw X hX=>?_
 repeat' first|refine gC ?_ ?_<;>intro hc<;>try contradiction|refine zm (λ_=>zbU _) ?_|refine za (zcg _ _) ?_|refine gG ?_|show AK _;intro J Z|refine gJ ?_|omega|exact aT
 simp only [zeX,xam,xaX,decide_eq_false_iff_not,decide_eq_true_eq];exact .refl _
def zrj (a b c:Int):Pure prog 239 [.i .i64 a,.i .i64 b,.i .i64 c] (.i .i64 (zoJ a b c)):=by
 refine pz func239 f239.eq_1 λhw X hX=>?_
 have qe:=@qR;have jA:=λu1 u2 u3=>zgc u1 u2 u3;have jB:=λu1 u2 u3=>zch [u1,u2,u3];exact gD2
def zCh (m:Mov):Pure prog 240 [m.pv] (.i .i64 (zcq m)):=by
 refine pz func240 f240.eq_1 λhw X hX=>?_
 have qe:=@qR;have jA:=λu1 u2 u3=>zgc u1 u2 u3;have jB:=λu1=>zrk u1;have jC:=λu1=>zeV u1;have jD:=λu1 u2 u3=>zrj u1 u2 u3;have jE:=λu1=>zbU u1;have jF:=λu1 u2=>zcg u1 u2;have jG:=λu1 u2 u3 u4 u5=>zch [u1,u2,u3,u4,u5];exact gD8
def zxr (r:Req):Pure prog 199 [r.pv] (.i .i64 (zbk r)):=by
 refine pz func199 f199.eq_1 λhw X hX=>?_
 have qe:=@qR;have jA:=λu1 u2 u3=>zgc u1 u2 u3;have jB:=λu1=>zrk u1;have jC:=λu1=>zeV u1;have jD:=zcB r.per;have jE:=λu1 u2 u3=>zrj u1 u2 u3;have jF:=λu1=>zbU u1;have jG:=λu1 u2=>zcg u1 u2;have jH:=λu1 u2 u3 u4 u5 u6=>zch [u1,u2,u3,u4,u5,u6];exact gD8
abbrev zse (s:ByteArray):PV:=.fn (.func 207) [] [.ip (.s s) 0]
def zzh (s:ByteArray):Pure prog 206 [.s s] (zse s):=by
 refine pz func206 f206.eq_1 λhw X hX=>?_
 exact gD0
def zrd (m s:ByteArray):Pure prog 207 [.s m,.ip (.s s) 0] (.b (decide (m=s))):=by
 refine pz func207 f207.eq_1 λhw X hX=>?_
 exact gD0
def zzg (m:ByteArray):Pure prog 208 [.s m] (.b true):=by
 refine pz func208 f208.eq_1 λhw X hX=>?_
 exact gD0
def sDA:(bs [68]=bs [65])=False:=by decide
def sTA:(bs [84]=bs [65])=False:=by decide
def sTD:(bs [84]=bs [68])=False:=by decide
abbrev zCW:PV:=.mp [(.s sA,.agg [zse sA]),(.s sD,.agg [zse sD]),(.s sT,.agg [.fn (.func 208) [] []])]
def zd1:Pure prog 166 [] zCW:=by
 refine pz func166 f166.eq_1 λhw X hX=>?_
 have qe:=aI qR (aI @sDA (aI @sTA @sTD));have jA:=λu1=>zzh u1;exact gD2
def zzo (l:Lim) (n:ByteArray):Pure prog 170 [l.pv,.ip (.s n) 0] (.b (decide (l.name=n))):=by
 refine pz func170 f170.eq_1 λhw X hX=>?_
 exact gD0
def atL (n:ByteArray):List ByteArray->Int
 | []=>-1
 | x::r=>if x=n then 0 else if atL n r < 0 then -1 else atL n r+1
theorem zs3 (n:ByteArray):∀ l,-1<=atL n l
 | []=>by simp [atL]
 | x::r=>by have:=zs3 n r;simp only [atL];(repeat' split)<;>omega
theorem zjt {n:ByteArray}:∀ {l:List ByteArray} {i:Nat},(∀ x ∈ l.take i,x≠n)->l[i]?=some n->atL n l=i
 | [],i,_,h=>by simp at h
 | x::r,0,_,h=>by simp at h;simp [atL,h]
 | x::r,i+1,h,hx=>by
  have h0:x≠n:=h x (by simp)
  have:=zjt (l:=r) (i:=i) (λy hy=>h y (by simp [hy])) (by simpa using hx)
  simp only [atL,if_neg h0,this];rw [if_neg (by omega)];simp
theorem zju {n:ByteArray}:∀ {l:List ByteArray},(∀ x ∈ l,x≠n)->atL n l=-1
 | [],_=>rfl
 | x::r,h=>by
  have h0:x≠n:=h x (by simp)
  have:=zju (l:=r) λy hy=>h y (by simp [hy])
  simp only [atL,if_neg h0,this];rfl
def zzp (l:List Lim) (n:ByteArray):Pure prog 169 [.sl 11 (l.map Lim.pv),.fn (.func 170) [] [.ip (.s n) 0]] (.i .i64 (atL n (l.map Lim.name))):=by
 refine pz func169 f169.eq_1 λhw X hX=>?_
 simp only [wfs,PV.wf,xaf,maxLen] at hw
 repeat' first|refine gC ?_ ?_<;>intro hc<;>try contradiction|refine gG ?_|show AK _;intro J Z|refine gJ ?_|omega|exact aT
 refine zh (κ:=Nat) (λi=>⟨[(0,.p (.sl 11 (l.map Lim.pv))),(1,.p (.fn (.func 170) [] [.ip (.s n) 0])),(7,.p (.i .i64 l.length)),(8,.p (.i .i64 i))],[],[],false⟩) (λi=>i<=l.length/\∀ x ∈ (l.map Lim.name).take i,x≠n) (λi=>l.length - i) 0 ?_ ?_ ?_
 ·exact sR
 ·simp
 ·intro i hi
  repeat first|refine gG ?_|show AK _;intro J Z|refine gJ ?_|omega|exact aT
  (refine gC ?_ ?_<;>intro hc<;>try contradiction)
  ·obtain ⟨x,hx⟩:=zk (i:=i) (l:=l) (by omega)
   have qe:=@hx;repeat' first|refine gC ?_ ?_<;>intro hc<;>try contradiction|refine zn (zzo x n) ?_|refine gG ?_|show AK _;intro J Z|refine gJ ?_|omega|exact aT
   ·rw [zjt hi.2 (by simp [hx,hc])];exact .refl _
   ·refine ⟨i+1,⟨by omega,λy hy=>?_⟩,by omega,by simp⟩
    rw [<-xb2,zf2 _ hx] at hy
    rcases xaL.1 hy with h|h
    ·exact hi.2 y (by rw [<-xb2];exact h)
    ·simp at h;subst h;exact hc
  ·repeat' first|refine gC ?_ ?_<;>intro hc<;>try contradiction|refine gG ?_|show AK _;intro J Z|refine gJ ?_|omega|exact aT
   have e:i=l.length:=by omega
   subst e;rw [zju (λy hy=>hi.2 y (by rw [xal (by simp)];exact hy))];exact .refl _
def zCi (l:List Lim) (n:ByteArray):Pure prog 113 [.sl 11 (l.map Lim.pv),.s n] (.i .i64 (atL n (l.map Lim.name))):=by
 refine pz func113 f113.eq_1 λhw X hX=>?_
 have jA:=zzp l n;exact gD2
def zCj (l:Lim):Pure prog 111 [l.pv] (.i .i64 (zbE l)):=by
 refine pz func111 f111.eq_1 λhw X hX=>?_
 have key:∀ k:Int,zgu l.kind=k->zf [if zan l.name=false then 8 else 0,k,zeX l.term,rng l.len 1 1440,rng l.step 1 1440,rng l.fro 0 1439,rng l.to 0 1439,if l.to < l.fro then 11 else 0,zC l.per,rng l.most 0 999999999]=zbE l:=λk hk=>by subst hk;rfl
 by_cases hA:l.kind=sA
 ·have hA':=eq_true hA;have qe:=aI qR @hA';repeat' first|refine gC ?_ ?_<;>intro hc<;>try contradiction|refine za (zd1) ?_|refine za (zgc _ _ _) ?_|refine za (zeV _) ?_|refine za (zcB l.per) ?_|refine za (zbU _) ?_|refine za (zcg _ _) ?_|refine za (zch [_,_,_,_,_,_,_,_,_,_]) ?_|refine gG ?_|show AK _;intro J Z|refine gJ ?_|omega|exact aT
  rw [<-key 0 (by simp [zgu,hA])];exact .refl _
 have hA':=eq_false hA
 by_cases hD:l.kind=sD
 ·have hD':=eq_true hD;have qe:=aI qR (aI @hA' @hD');repeat' first|refine gC ?_ ?_<;>intro hc<;>try contradiction|refine za (zd1) ?_|refine za (zgc _ _ _) ?_|refine za (zeV _) ?_|refine za (zcB l.per) ?_|refine za (zbU _) ?_|refine za (zcg _ _) ?_|refine za (zch [_,_,_,_,_,_,_,_,_,_]) ?_|refine gG ?_|show AK _;intro J Z|refine gJ ?_|omega|exact aT
  rw [<-key 0 (by simp [zgu,hD])];exact .refl _
 have hD':=eq_false hD
 by_cases hT:l.kind=sT
 ·have hT':=eq_true hT;have qe:=aI qR (aI @hA' (aI @hD' @hT'));repeat' first|refine gC ?_ ?_<;>intro hc<;>try contradiction|refine za (zd1) ?_|refine za (zgc _ _ _) ?_|refine za (zeV _) ?_|refine za (zcB l.per) ?_|refine za (zbU _) ?_|refine za (zcg _ _) ?_|refine za (zch [_,_,_,_,_,_,_,_,_,_]) ?_|refine gG ?_|show AK _;intro J Z|refine gJ ?_|omega|exact aT
  rw [<-key 0 (by simp [zgu,hT])];exact .refl _
 have hT':=eq_false hT;have qe:=aI qR (aI @hA' (aI @hD' @hT'));repeat' first|refine gC ?_ ?_<;>intro hc<;>try contradiction|refine za (zd1) ?_|refine za (zgc _ _ _) ?_|refine za (zeV _) ?_|refine za (zcB l.per) ?_|refine za (zbU _) ?_|refine za (zcg _ _) ?_|refine za (zch [_,_,_,_,_,_,_,_,_,_]) ?_|refine gG ?_|show AK _;intro J Z|refine gJ ?_|omega|exact aT
 rw [<-key 13 (by simp [zgu,hA,hD,hT])];exact .refl _
structure Lea where
 carrier:ByteArray
 fro:Int
 to:Int
abbrev Lea.pv (l:Lea):PV:=.agg [.s l.carrier,.i .i64 l.fro,.i .i64 l.to]
structure SlR where
 req:Req
 holder:ByteArray
 ls:PV
 sh:PV
abbrev SlR.cells (s:SlR):List PV:=[.s s.req.name,.s s.req.carrier,.s s.req.kind,.s s.req.term,.s s.req.partner,.s s.req.link,.i .i64 s.req.per.fro,.i .i64 s.req.per.to,.i .i64 s.req.per.days,.i .i64 s.req.minute,.i .i64 s.req.seats,.i .i64 s.req.size,.i .i64 s.req.noise,.s s.holder,s.ls,s.sh]
abbrev SlR.pv (s:SlR):PV:=.agg s.cells
structure Slt where
 req:Req
 holder:ByteArray
 ls:List Lea
 sh:List ByteArray
abbrev Slt.raw (s:Slt):SlR:=⟨s.req,s.holder,.sl 3 (s.ls.map Lea.pv),.sl 1 (s.sh.map .s)⟩
abbrev Slt.cells (s:Slt):List PV:=[.s s.req.name,.s s.req.carrier,.s s.req.kind,.s s.req.term,.s s.req.partner,.s s.req.link,.i .i64 s.req.per.fro,.i .i64 s.req.per.to,.i .i64 s.req.per.days,.i .i64 s.req.minute,.i .i64 s.req.seats,.i .i64 s.req.size,.i .i64 s.req.noise,.s s.holder,.sl 3 (s.ls.map Lea.pv),.sl 1 (s.sh.map .s)]
abbrev Slt.pv (s:Slt):PV:=.agg s.cells
structure Wsh where
 req:Req
 rank:Int
abbrev Wsh.cells (w:Wsh):List PV:=[.s w.req.name,.s w.req.carrier,.s w.req.kind,.s w.req.term,.s w.req.partner,.s w.req.link,.i .i64 w.req.per.fro,.i .i64 w.req.per.to,.i .i64 w.req.per.days,.i .i64 w.req.minute,.i .i64 w.req.seats,.i .i64 w.req.size,.i .i64 w.req.noise,.i .i64 w.rank]
abbrev Wsh.pv (w:Wsh):PV:=.agg w.cells
structure Bk where
 slots:List Slt
 wait:List Wsh
abbrev Bk.pv (b:Bk):PV:=.agg [.sl 16 (b.slots.map Slt.pv),.sl 14 (b.wait.map Wsh.pv)]
def zgW (r:Req):Int:=zf [zy r.name,zy r.carrier,zy r.partner,zeX r.term,zeX r.link,zaz r.kind,if r.link=r.name then 32 else 0,zC r.per,rng r.minute 0 1439,rng r.seats 0 999,rng r.size 1 9,rng r.noise 0 99]
def zfn (r:Req):Int:=zf [zgW r,if zq r.per=[] then 12 else 0]
def zav (l:Lea):Int:=zf [zy l.carrier,rng l.fro 0 99999,rng l.to 0 99999,if l.to < l.fro then 11 else 0]
def zbw (s:SlR) (l:Lea):Int:=zf [if l.fro < s.req.per.fro\/s.req.per.to < l.to then 30 else 0,if l.carrier=s.holder then 31 else 0]
def za6 (s:Slt) (i:Nat) (l:Lea):Int:=zf [zav l,zbw s.raw l,if 0 < (i:Int)/\l.fro<=((s.ls[i - 1]?).getD l).to then 15 else 0]
def za3 (s:Slt) (i:Nat) (c:ByteArray):Int:=zf [zy c,if c=s.holder then 31 else 0,if 0<=atL c (s.sh.take i) then 9 else 0]
def zae (s:Slt):Int:=zf [zfn s.req,zy s.holder,if 8 < (s.ls.length:Int) then 5 else 0,zf (s.ls.mapIdx (za6 s)),if 4 < (s.sh.length:Int) then 5 else 0,zf (s.sh.mapIdx (za3 s))]
def zfm (w:Wsh):Int:=zf [zfn w.req,rng w.rank 0 999999999]
def zaR (b:Bk) (i:Nat) (s:Slt):Int:=zf [zae s,if 0<=atL s.req.name ((b.slots.take i).map (·.req.name)) then 9 else 0]
theorem fE0:∀ {l:List Int},zf l=0->∀ x ∈ l,x=0
 | [],_,x,hx=>by cases hx
 | e::r,h,x,hx=>by
  by_cases he:e=0
  ·rw [zf,if_pos he] at h
   rcases xaB.1 hx with rfl|hx
   ·exact he
   ·exact fE0 h x hx
  ·rw [zf,if_neg he] at h;exact absurd h he
def zaa (b:Bool) (e:Int):Pure prog 65 [.b b,.i .i64 e] (.i .i64 (if b then e else 0)):=by
 refine pz func65 f65.eq_1 λhw X hX=>?_
 repeat' first|refine gC ?_ ?_<;>intro hc<;>try contradiction|refine gG ?_|show AK _;intro J Z|refine gJ ?_|omega|exact aT
 all_goals (subst hc;exact .refl _)
def zfA (b:Bool) (e:Int):Pure prog 212 [.b b,.i .i64 e] (.i .i64 (if b then e else 0)):=by
 refine pz func212 f212.eq_1 λhw X hX=>?_
 repeat' first|refine gC ?_ ?_<;>intro hc<;>try contradiction|refine gG ?_|show AK _;intro J Z|refine gJ ?_|omega|exact aT
 all_goals (subst hc;exact .refl _)
def zmT (n a b:Int):Pure prog 68 [.i .i64 n,.i .i64 a,.i .i64 b] (.i .i64 (rng n a b)):=by
 refine pz func68 f68.eq_1 λhw X hX=>?_
 repeat' first|refine gC ?_ ?_<;>intro hc<;>try contradiction|refine za (zaa _ _) ?_|refine gG ?_|show AK _;intro J Z|refine gJ ?_|omega|exact aT
 simp only [rng,xaY,decide_eq_true_eq];exact .refl _
def zu1 (n a b:Int):Pure prog 214 [.i .i64 n,.i .i64 a,.i .i64 b] (.i .i64 (rng n a b)):=by
 refine pz func214 f214.eq_1 λhw X hX=>?_
 repeat' first|refine gC ?_ ?_<;>intro hc<;>try contradiction|refine za (zfA _ _) ?_|refine gG ?_|show AK _;intro J Z|refine gJ ?_|omega|exact aT
 simp only [rng,xaY,decide_eq_true_eq];exact .refl _
def zO (l:List Int):Pure prog 27 [.sl 1 (l.map (.i .i64))] (.i .i64 (zf l)):=by
 refine pz func27 f27.eq_1 λhw X hX=>?_
 simp only [wfs,PV.wf,xaf,maxLen] at hw
 repeat' first|refine gC ?_ ?_<;>intro hc<;>try contradiction|refine gG ?_|show AK _;intro J Z|refine gJ ?_|omega|exact aT
 refine zh (κ:=Nat) (λi=>⟨[(5,.p (.sl 1 (l.map (.i .i64)))),(6,.p (.i .i64 l.length)),(7,.p (.i .i64 i))],[],[],false⟩) (λi=>i<=l.length/\∀ x ∈ l.take i,x=0) (λi=>l.length - i) 0 ?_ ?_ ?_
 ·exact sR
 ·simp
 ·intro i hi
  repeat first|refine gG ?_|show AK _;intro J Z|refine gJ ?_|omega|exact aT
  (refine gC ?_ ?_<;>intro hc<;>try contradiction)
  ·obtain ⟨x,hx⟩:=zk (i:=i) (l:=l) (by omega)
   have qe:=@hx;repeat' first|refine gC ?_ ?_<;>intro hc<;>try contradiction|refine gG ?_|show AK _;intro J Z|refine gJ ?_|omega|exact aT
   ·rw [zN hi.2 hx hc];exact .refl _
   ·exact ⟨i+1,⟨by omega,zah hi.2 hx hc⟩,by omega,by simp⟩
  ·repeat' first|refine gC ?_ ?_<;>intro hc<;>try contradiction|refine gG ?_|show AK _;intro J Z|refine gJ ?_|omega|exact aT
   have e:i=l.length:=by omega
   subst e;rw [zU hi.2];exact .refl _
def zu5 (l:List Int):Pure prog 209 [.sl 1 (l.map (.i .i64))] (.i .i64 (zf l)):=by
 refine pz func209 f209.eq_1 λhw X hX=>?_
 simp only [wfs,PV.wf,xaf,maxLen] at hw
 repeat' first|refine gC ?_ ?_<;>intro hc<;>try contradiction|refine gG ?_|show AK _;intro J Z|refine gJ ?_|omega|exact aT
 refine zh (κ:=Nat) (λi=>⟨[(5,.p (.sl 1 (l.map (.i .i64)))),(6,.p (.i .i64 l.length)),(7,.p (.i .i64 i))],[],[],false⟩) (λi=>i<=l.length/\∀ x ∈ l.take i,x=0) (λi=>l.length - i) 0 ?_ ?_ ?_
 ·exact sR
 ·simp
 ·intro i hi
  repeat first|refine gG ?_|show AK _;intro J Z|refine gJ ?_|omega|exact aT
  (refine gC ?_ ?_<;>intro hc<;>try contradiction)
  ·obtain ⟨x,hx⟩:=zk (i:=i) (l:=l) (by omega)
   have qe:=@hx;repeat' first|refine gC ?_ ?_<;>intro hc<;>try contradiction|refine gG ?_|show AK _;intro J Z|refine gJ ?_|omega|exact aT
   ·rw [zN hi.2 hx hc];exact .refl _
   ·exact ⟨i+1,⟨by omega,zah hi.2 hx hc⟩,by omega,by simp⟩
  ·repeat' first|refine gC ?_ ?_<;>intro hc<;>try contradiction|refine gG ?_|show AK _;intro J Z|refine gJ ?_|omega|exact aT
   have e:i=l.length:=by omega
   subst e;rw [zU hi.2];exact .refl _
def zbH (s:ByteArray):Pure prog 94 [.s s] (.i .i64 (zy s)):=by
 refine pz func94 f94.eq_1 λhw X hX=>?_
 repeat' first|refine gC ?_ ?_<;>intro hc<;>try contradiction|refine za (zbU _) ?_|refine za (zaa _ _) ?_|refine gG ?_|show AK _;intro J Z|refine gJ ?_|omega|exact aT
 simp only [zy,xaX];exact .refl _
def zu4 (s:ByteArray):Pure prog 210 [.s s] (.i .i64 (zy s)):=by
 refine pz func210 f210.eq_1 λhw X hX=>?_
 repeat' first|refine gC ?_ ?_<;>intro hc<;>try contradiction|refine za (zbU _) ?_|refine za (zfA _ _) ?_|refine gG ?_|show AK _;intro J Z|refine gJ ?_|omega|exact aT
 simp only [zy,xaX];exact .refl _
def zcC (n:Int):Pure prog 30 [.i .i64 n] (.i .i64 (rng n 0 99999)):=by
 refine pz func30 f30.eq_1 λhw X hX=>?_
 have jA:=λu1 u2 u3=>zmT u1 u2 u3;exact gD2
def zu3 (s:ByteArray):Pure prog 211 [.s s] (.i .i64 (zeX s)):=by
 refine pz func211 f211.eq_1 λhw X hX=>?_
 repeat' first|refine gC ?_ ?_<;>intro hc<;>try contradiction|refine zm (λ_=>zbU _) ?_|refine za (zfA _ _) ?_|refine gG ?_|show AK _;intro J Z|refine gJ ?_|omega|exact aT
 simp only [zeX,xam,xaX,decide_eq_false_iff_not,decide_eq_true_eq];exact .refl _
def zu2 (s:ByteArray):Pure prog 213 [.s s] (.b (decide (s=sA) || decide (s=sD))):=by
 refine pz func213 f213.eq_1 λhw X hX=>?_
 exact gD0
def zo2 (s:ByteArray):(if (decide (s=sA) || decide (s=sD))=false then (13:Int) else 0)=zaz s:=by
 simp only [zaz,xbd,decide_eq_false_iff_not]
def zu9 (r:Req):Pure prog 171 [r.pv] (.i .i64 (zgW r)):=by
 refine pz func171 f171.eq_1 λhw X hX=>?_
 have qe:=@qR;repeat' first|refine gC ?_ ?_<;>intro hc<;>try contradiction|refine za (zu4 _) ?_|refine za (zu3 _) ?_|refine za (zu2 _) ?_|refine za (zfA _ _) ?_|refine za (zcB r.per) ?_|refine za (zu1 _ _ _) ?_|refine za (zu5 [_,_,_,_,_,_,_,_,_,_,_,_]) ?_|refine gG ?_|show AK _;intro J Z|refine gJ ?_|omega|exact aT
 rw [zo2];exact .refl _
def zfB (p:Per):Pure prog 99 [p.pv] (.tup [.i .i64 (zcY p).length,.i .i64 (zC p)]):=by
 refine pz func99 f99.eq_1 λhw X hX=>?_
 have qe:=@List.length_map.{0,0};have jA:=ziA p;exact gD2
def ziE (r:Req):Pure prog 114 [r.pv] (.i .i64 (zfn r)):=by
 refine pz func114 f114.eq_1 λhw X hX=>?_
 have qe:=@qR;repeat' first|refine gC ?_ ?_<;>intro hc<;>try contradiction|refine za (zu9 r) ?_|refine za (zfB r.per) ?_|refine za (zaa _ _) ?_|refine za (zO [_,_]) ?_|refine gG ?_|show AK _;intro J Z|refine gJ ?_|omega|exact aT
 ·rw [show zfn r=zgW r by rw [zfn,zf,if_neg hc]];exact .refl _
 ·have hp:zC r.per=0:=by
   exact fE0 (show zf [zy r.name,zy r.carrier,zy r.partner,zeX r.term,zeX r.link,zaz r.kind,if r.link=r.name then 32 else 0,zC r.per,rng r.minute 0 1439,rng r.seats 0 999,rng r.size 1 9,rng r.noise 0 99]=0 from hc) _ (by simp)
  have e:((zcY r.per).length:Int)=0↔zq r.per=[]:=by rw [zcY,if_pos hp];simp
  rw [show zfn r=zf [zC r.per,if ((zcY r.per).length:Int)=0 then 12 else 0] by
   rw [zfn,hc,hp];simp only [zf,if_true,e]]
  exact .refl _
def zmV (l:Lea):Pure prog 118 [l.pv] (.i .i64 (zav l)):=by
 refine pz func118 f118.eq_1 λhw X hX=>?_
 have qe:=@qR;have jA:=λu1=>zbH u1;have jB:=λu1=>zcC u1;have jC:=λu1 u2=>zaa u1 u2;have jD:=λu1 u2 u3 u4=>zO [u1,u2,u3,u4];exact gD4
def ziG (l:Lea) (s:SlR):Pure prog 122 [l.pv,s.pv] (.i .i64 (zbw s l)):=by
 refine pz func122 f122.eq_1 λhw X hX=>?_
 have qe:=@qR;repeat' first|refine gC ?_ ?_<;>intro hc<;>try contradiction|refine za (zaa _ _) ?_|refine za (zO [_,_]) ?_|refine gG ?_|show AK _;intro J Z|refine gJ ?_|omega|exact aT
 simp only [xaY,decide_eq_true_eq];exact .refl _
def zvf (l:Lea) (d:Int):Pure prog 74 [l.pv,.i .i64 d] (.b (decide (l.fro<=d) && decide (d<=l.to))):=by
 refine pz func74 f74.eq_1 λhw X hX=>?_
 exact gD0
def zrP (l:List Lim) (i:Nat) (x:Lim):Int:=zf [zbE x,if 0<=atL x.name ((l.take i).map Lim.name) then 9 else 0]
def zi1 (l:List Lim):List Int:=l.mapIdx (zrP l)
def zaK (l:List Lim):Int:=if 32 < l.length then 5 else zf (zi1 l)
def zfh (l:List Mov) (i:Nat) (x:Mov):Int:=zf [zcq x,if 0 < (i:Int)/\x.moment < ((l[i - 1]?).getD x).moment then 11 else 0]
def zdd (l:List Mov):List Int:=l.mapIdx (zfh l)
def zR (l:List Mov):Int:=if 30000 < l.length then 5 else zf (zdd l)
def zz {α β:Type} {f:Nat->α->β} {l:List α} {i:Nat} {x:α} (h:l[i]?=some x):(l.mapIdx f)[i]?=some (f i x):=by simp [List.getElem?_mapIdx,h]
def zax {α β:Type} (f:α->β) (l:List α) (i:Nat):(l.map f).take i=(l.take i).map f:=by rw [xb2]
def zrb (l:List Lim):Pure prog 59 [.sl 11 (l.map Lim.pv)] (.i .i64 (zaK l)):=by
 refine pz func59 f59.eq_1 λhw X hX=>?_
 simp only [wfs,PV.wf,xaf,maxLen] at hw
 repeat' first|refine gC ?_ ?_<;>intro hc<;>try contradiction|refine gG ?_|show AK _;intro J Z|refine gJ ?_|omega|exact aT
 ·rw [zaK,if_pos (by omega)];exact .refl _
 refine zh (κ:=Nat) (λi=>⟨[(0,.p (.sl 11 (l.map Lim.pv))),(9,.p (.sl 11 (l.map Lim.pv))),(10,.p (.i .i64 l.length)),(11,.p (.i .i64 i))],[],[],false⟩) (λi=>i<=l.length/\∀ x ∈ (zi1 l).take i,x=0) (λi=>l.length - i) 0 ?_ ?_ ?_
 ·exact sR
 ·simp
 ·intro i hi
  repeat first|refine gG ?_|show AK _;intro J Z|refine gJ ?_|omega|exact aT
  (refine gC ?_ ?_<;>intro hc<;>try contradiction)
  ·obtain ⟨x,hx⟩:=zk (i:=i) (l:=l) (by omega)
   have qe:=aI qR (aI @hx @zax);repeat' first|refine gC ?_ ?_<;>intro hc<;>try contradiction|refine za (zCj x) ?_|refine za (zCi (l.take i) x.name) ?_|refine za (zcg _ _) ?_|refine za (zch [_,_]) ?_|refine gG ?_|show AK _;intro J Z|refine gJ ?_|omega|exact aT
   ·have he:zaK l=zrP l i x:=by unfold zaK;rw [if_neg (by omega)];exact zN hi.2 (zz hx) hc
    rw [he];exact .refl _
   ·exact ⟨i+1,⟨by omega,zah hi.2 (zz hx) hc⟩,by omega,by simp⟩
  ·repeat' first|refine gC ?_ ?_<;>intro hc<;>try contradiction|refine gG ?_|show AK _;intro J Z|refine gJ ?_|omega|exact aT
   have e:i=(zi1 l).length:=by simp [zi1];omega
   subst e;rw [zaK,if_neg (by omega),zU hi.2];exact .refl _
def zjT (l:List Mov):Pure prog 201 [.sl 7 (l.map Mov.pv)] (.i .i64 (zR l)):=by
 refine pz func201 f201.eq_1 λhw X hX=>?_
 simp only [wfs,PV.wf,xaf,maxLen] at hw
 repeat' first|refine gC ?_ ?_<;>intro hc<;>try contradiction|refine gG ?_|show AK _;intro J Z|refine gJ ?_|omega|exact aT
 ·rw [zR,if_pos (by omega)];exact .refl _
 refine zh (κ:=Nat) (λi=>⟨[(0,.p (.sl 7 (l.map Mov.pv))),(9,.p (.sl 7 (l.map Mov.pv))),(10,.p (.i .i64 l.length)),(11,.p (.i .i64 i))],[],[],false⟩) (λi=>i<=l.length/\∀ x ∈ (zdd l).take i,x=0) (λi=>l.length - i) 0 ?_ ?_ ?_
 ·exact sR
 ·simp
 ·intro i hi
  repeat first|refine gG ?_|show AK _;intro J Z|refine gJ ?_|omega|exact aT
  (refine gC ?_ ?_<;>intro hc<;>try contradiction)
  ·obtain ⟨x,hx⟩:=zk (i:=i) (l:=l) (by omega)
   obtain ⟨y,hy⟩:=zk (i:=i - 1) (l:=l) (by omega)
   have e:(max 0 ((i:Int) - 1)).toNat=i - 1:=by omega
   have he:zfh l i x=zf [zcq x,if 0 < (i:Int)/\x.moment < y.moment then 11 else 0]:=by rw [zfh,hy];rfl
   have qe:=aI qR (aI @hx (aI @hy @e));repeat' first|refine gC ?_ ?_<;>intro hc<;>try contradiction|refine za (zCh x) ?_|refine za (zcg _ _) ?_|refine za (zch [_,_]) ?_|refine gG ?_|show AK _;intro J Z|refine gJ ?_|omega|exact aT
   ·rw [<-he] at hc;have hf:zR l=zfh l i x:=by unfold zR;rw [if_neg (by omega)];exact zN hi.2 (zz hx) hc
    rw [hf,he];simp only [xam,decide_eq_true_eq];exact .refl _
   ·rw [<-he] at hc;exact ⟨i+1,⟨by omega,zah hi.2 (zz hx) hc⟩,by omega,by simp⟩
  ·repeat' first|refine gC ?_ ?_<;>intro hc<;>try contradiction|refine gG ?_|show AK _;intro J Z|refine gJ ?_|omega|exact aT
   have e:i=(zdd l).length:=by simp [zdd];omega
   subst e;rw [zR,if_neg (by omega),zU hi.2];exact .refl _
def zCc (l:List Lim) (m:List Mov):Pure prog 216 [.sl 11 (l.map Lim.pv),.sl 7 (m.map Mov.pv)] (.i .i64 (zf [zaK l,zR m])):=by
 refine pz func216 f216.eq_1 λhw X hX=>?_
 have qe:=@qR;have jA:=zrb l;have jB:=zjT m;have jC:=λu1 u2=>zch [u1,u2];exact gD4
def Pure.args {P:Program} {f:FuncId} {args args':List PV} {r:PV} (h:Pure P f args r) (hl:args'.length=args.length) (hw:∀ (j:Nat) (x y:PV),args'[j]?=some x->args[j]?=some y->Weak x y):Pure P f args' r:=
 ⟨h.1,λw B vs hB hr=>h.2 w B vs hB ⟨hr.1.trans hl,λj v p hv hp=>by
  have hj:j < args'.length:=by rw [hl];exact (xaa.1 hp).1
  exact (hw j _ p (xab hj) hp).rep (hr.2 j v _ hv (xab hj))⟩⟩
theorem zgJ {α β:Type} {f:α->List β} {c:Nat}:∀ {l:List α},(∀ x ∈ l,(f x).length<=c)->(l.flatMap f).length<=l.length*c
 | [],_=>by simp
 | x::r,h=>by
  have h1:=h x (by simp)
  have h2:=zgJ (l:=r) λy hy=>h y (by simp [hy])
  simp only [xaH,xad,xaK,Nat.succ_mul];omega
def zl3 {α:Type} {l:List α} {p:α->Bool} {k:Nat} {x:α} (h:l[k]?=some x):(l.take (k+1)).filter p=(l.take k).filter p++(if p x then [x] else []):=by
 rw [xaP,h,xa7];cases hp:p x<;>simp [xaW,hp]
def zvO (x:ByteArray):(x=x)=True:=eq_true rfl
def zaV {p:Per} {d:Int} (h:d ∈ zq p):p.fro<=d/\d<=p.to/\inM p.days ((d+5) % 7)=true:=by
 obtain ⟨k,hk,hd⟩:=xax.1 h
 split at hd
 ·simp at hd;subst hd;have:=xaO.1 hk;exact ⟨by omega,by omega,by assumption⟩
 ·cases hd
def zsc {p:Per} (h:zC p=0) (d:Int):zpN p d=decide (d ∈ zq p):=by
 have hp:=zY h
 by_cases hm:d ∈ zq p
 ·have:=zaV hm;rw [decide_eq_true hm];have he:zsa p d=0:=by rw [zsa];simp only [ze,zbd];exact ⟨by assumption,⟨by omega,by omega⟩,rfl⟩
  simp [zpN,he,zz2,this]
 ·rw [decide_eq_false hm];cases hb:zpN p d
  ·rfl
  ·exfalso;apply hm
   simp only [zpN,zz2,xam,decide_eq_true_eq] at hb;refine xax.2 ⟨(d - p.fro).toNat,xaO.2 (by omega),?_⟩
   rw [xbx (by omega),show p.fro+(d - p.fro)=d by omega,if_pos hb.2.2]
   simp
def zaE {r:Req} (h:zbk r=0):zC r.per=0/\0<=r.minute/\r.minute<=1439:=by
 unfold zbk at h;simp only [ze,zbd] at h;exact ⟨h.2.2.2.1,h.2.2.2.2.1⟩
def za9 (r:Req) (d:Int):Mov:=⟨1440*d+r.minute,r.kind,r.term,r.seats,r.size,r.noise,r.name⟩
def zaT (r:Req):List Mov:=(zq r.per).map (za9 r)
def zCl (r:Req) (h:zbk r=0):Pure prog 200 [r.pv] (.sl 7 ((zaT r).map Mov.pv)):=by
 have hr:=zaE h;have hp:=zY hr.1;have hdl:=zbx r.per;have hdr:zcY r.per=zq r.per:=by rw [zcY,if_pos hr.1]
 refine pz func200 f200.eq_1 λhw X hX=>?_
 have qe:=aI qR @hdr;repeat' first|refine gC ?_ ?_<;>intro hc<;>try contradiction|refine za (ziA r.per) ?_|refine gG ?_|show AK _;intro J Z|refine gJ ?_|omega|exact aT
 refine zaf 100 120 7 [(1,.lp 1 0),(5,.row 100 0),(14,.p (.sl 1 ((zq r.per).map (.i .i64)))),(15,.p (.i .i64 (zq r.per).length)),(16,.p (.i .i64 0))] [(1,.box ([.s r.name,.s r.carrier,.s r.kind,.s r.term,.s r.partner,.s r.link,.i .i64 r.per.fro,.i .i64 r.per.to,.i .i64 r.per.days,.i .i64 r.minute,.i .i64 r.seats,.i .i64 r.size,.i .i64 r.noise].map .p) false)] ?_ ?_
 ·simp only [Own,zam,zaj,za8,zad,qS,seval]
 refine zh (κ:=Nat) (λk=>⟨[(1,.lp 1 0),(5,.row 100 ((zq r.per).take k).length),(14,.p (.sl 1 ((zq r.per).map (.i .i64)))),(15,.p (.i .i64 (zq r.per).length)),(16,.p (.i .i64 k))],[(1,.box ([.s r.name,.s r.carrier,.s r.kind,.s r.term,.s r.partner,.s r.link,.i .i64 r.per.fro,.i .i64 r.per.to,.i .i64 r.per.days,.i .i64 r.minute,.i .i64 r.seats,.i .i64 r.size,.i .i64 r.noise].map .p) false),(100,.row 120 7 ((((zq r.per).take k).map (za9 r)).map Mov.pv) false)],[],false⟩) (λk=>k<=(zq r.per).length) (λk=>(zq r.per).length - k) 0 ?_ ?_ ?_
 ·exact sS
 ·simp
 ·intro k hk
  repeat first|refine gG ?_|show AK _;intro J Z|refine gJ ?_|omega|exact aT
  (refine gC ?_ ?_<;>intro hc<;>try contradiction)
  ·obtain ⟨d,hx⟩:=zk (i:=k) (l:=zq r.per) (by omega)
   have hdm:=zaV (xae hx);have hlt:=zfv hx;have qe:=aI qR @hx;repeat' first|refine gC ?_ ?_<;>intro hc<;>try contradiction|refine gG ?_|show AK _;intro J Z|refine gJ ?_|omega|exact aT
   exact ⟨k+1,by omega,by omega,⟨by rw [xaP,hx,xad];rfl,by simp⟩,by rw [zf2 (za9 r) hx];simp [za9]⟩
  ·repeat' first|refine gC ?_ ?_<;>intro hc<;>try contradiction|refine gG ?_|show AK _;intro J Z|refine gJ ?_|omega|exact aT
   have e:k=(zq r.per).length:=by omega
   subst e;rw [xaG];exact .refl _
def zzG (r:Req):List Mov:=if zbk r=0 then zaT r else []
def zCq (r:Req):Pure prog 160 [r.pv] (.tup [.sl 7 ((zzG r).map Mov.pv),.i .i64 (zbk r)]):=by
 refine pz func160 f160.eq_1 λhw X hX=>?_
 have qe:=@qR;repeat' first|refine gC ?_ ?_<;>intro hc<;>try contradiction|refine za (zxr r) ?_|refine za (zCl r hc) ?_|refine gG ?_|show AK _;intro J Z|refine gJ ?_|omega|exact aT
 ·rw [zzG,if_neg hc];exact zk5 (.nilsl _) (.refl _)
 ·rw [zzG,if_pos hc,hc];exact .refl _
def Req.at (r:Req) (n:Int):Req:={ r with minute:=n }
def zcj (bef:Mov->Mov->Bool) (x:Mov) (out:List Mov):Nat->Nat
 | 0=>0
 | n+1=>match out[n]? with
  | some y=>if bef x y then zcj bef x out n else n+1
  | none=>n+1
def zk1 (bef:Mov->Mov->Bool) (out:List Mov) (x:Mov):List Mov:=out.take (zcj bef x out out.length)++x::out.drop (zcj bef x out out.length)
def zbX (bef:Mov->Mov->Bool) (a b:List Mov):List Mov:=(a++b).foldl (zk1 bef) []
theorem zi6 (bef:Mov->Mov->Bool) (x:Mov) (out:List Mov):∀ n,zcj bef x out n<=n
 | 0=>xah _
 | n+1=>by
  have:=zi6 bef x out n;simp only [zcj];(repeat' split)<;>omega
theorem zi7 (bef:Mov->Mov->Bool) (x:Mov) (out:List Mov):∀ n i,zcj bef x out n<=i->i < n->∃ y,out[i]?=some y/\bef x y=true
 | 0,i,_,h=>by omega
 | n+1,i,h,hi=>by
  simp only [zcj] at h
  split at h
  ·rename_i y hy
   split at h
   ·by_cases e:i=n
    ·subst e;exact ⟨y,hy,by assumption⟩
    ·exact zi7 bef x out n i h (by omega)
   ·omega
  ·omega
theorem ze3 (bef:Mov->Mov->Bool) (x:Mov) (out:List Mov):∀ n k y,zcj bef x out n=k+1->out[k]?=some y->bef x y=false
 | 0,_,_,h,_=>by cases h
 | n+1,k,y,h,hy=>by
  simp only [zcj] at h
  split at h
  ·rename_i z hz
   split at h
   ·exact ze3 bef x out n k y h hy
   ·have e:n=k:=by omega
    subst e;rw [hz] at hy;cases hy;rename_i hb;simpa using hb
  ·rename_i hz;have e:n=k:=by omega
   subst e;rw [hz] at hy;cases hy
def zr3 (bef:Mov->Mov->Bool) (out:List Mov) (x:Mov):(zk1 bef out x).Perm (x::out):=by
 unfold zk1;refine List.perm_middle.trans ?_;rw [xao]
theorem zdC (bef:Mov->Mov->Bool):∀ (l out:List Mov),(l.foldl (zk1 bef) out).Perm (out++l)
 | [],out=>by simp
 | x::l,out=>by
  refine (zdC bef l (zk1 bef out x)).trans ?_;refine ((zr3 bef out x).append_right l).trans ?_;simpa using (List.perm_middle (a:=x) (l₁:=out) (l₂:=l)).symm
def zhK (bef:Mov->Mov->Bool) (a b:List Mov):(zbX bef a b).Perm (a++b):=by
 simpa [zbX] using zdC bef (a++b) []
abbrev zdV (l:List Mov):Prop:=l.Pairwise λx y=>x.moment<=y.moment
def zlX {bef:Mov->Mov->Bool} (h1:∀ a b,bef a b=true->a.moment<=b.moment) (h2:∀ a b,bef a b=false->b.moment<=a.moment) {out:List Mov} (h:zdV out) (x:Mov):zdV (zk1 bef out x):=by
 unfold zk1;generalize hk:zcj bef x out out.length=k;have hkl:=zi6 bef x out out.length;rw [hk] at hkl;have hge:=zi7 bef x out out.length;have hla:=ze3 bef x out out.length;rw [hk] at hge hla;have hs:zdV (out.take k++out.drop k):=by rw [xao];exact h
 have hs:=xbo.1 hs;have hdrop:∀ y ∈ out.drop k,x.moment<=y.moment:=λy hy=>by
  obtain ⟨i,hi⟩:=xaS hy;rw [xaI] at hi;have hlt:=(xaa.1 hi).1;obtain ⟨z,hz,hb⟩:=hge (k+i) (by omega) hlt
  rw [hi] at hz;cases hz;exact h1 _ _ hb
 have htake:∀ y ∈ out.take k,y.moment<=x.moment:=λy hy=>by
  cases k with
  | zero=>simp at hy
  | succ k=>
   obtain ⟨z,hz⟩:∃ z,out[k]?=some z:=⟨_,xab (by omega)⟩
   have hb:=h2 _ _ (hla k z rfl hz);obtain ⟨i,hi⟩:=xaS hy;have hik:i < k+1:=by
    have:=(xaa.1 hi).1;simp only [xaj] at this;omega
   rw [xaF,if_pos hik] at hi
   by_cases e:i=k
   ·subst e;rw [hz] at hi;cases hi;exact hb
   ·have hlt:=(xaa.1 hi).1;have:=xaw.1 h i k hlt (by omega) (by omega)
    rw [xab hlt] at hi;rw [xab (by omega)] at hz
    have e1:=xaN hi;have e2:=xaN hz;rw [e1,e2] at this
    omega
 refine xbo.2 ⟨hs.1,xbp.2 ⟨hdrop,hs.2.1⟩,λa ha b hb=>?_⟩
 rcases xaB.1 hb with rfl|hb
 ·exact htake a ha
 ·exact hs.2.2 a ha b hb
theorem zfj {bef:Mov->Mov->Bool} (h1:∀ a b,bef a b=true->a.moment<=b.moment) (h2:∀ a b,bef a b=false->b.moment<=a.moment):∀ (l out:List Mov),zdV out->zdV (l.foldl (zk1 bef) out)
 | [],_,h=>h
 | x::l,_,h=>zfj h1 h2 l _ (zlX h1 h2 h x)
def zj4 {bef:Mov->Mov->Bool} (h1:∀ a b,bef a b=true->a.moment<=b.moment) (h2:∀ a b,bef a b=false->b.moment<=a.moment) (a b:List Mov):zdV (zbX bef a b):=zfj h1 h2 _ _ List.Pairwise.nil
def zo7 {l:List Int} (h:∀ x ∈ l,x=0):zf l=0:=by
 induction l with
 | nil=>rfl
 | cons x r ih=>exact ze.2 ⟨h x (by simp),ih λy hy=>h y (by simp [hy])⟩
def zh3 {m:List Mov} (hn:m.length<=30000) (hc:∀ x ∈ m,zcq x=0) (hs:zdV m):zR m=0:=by
 rw [zR,if_neg (by omega)]
 refine zo7 λe he=>?_
 obtain ⟨i,hi⟩:=xaS he;simp only [zdd,List.getElem?_mapIdx,xac] at hi;obtain ⟨x,hx,rfl⟩:=hi;refine ze.2 ⟨hc x (xae hx),ze.2 ⟨if_neg λhh=>?_,rfl⟩⟩
 have hlt:=(xaa.1 hx).1;have:=xaw.1 hs (i - 1) i (by omega) hlt (by omega)
 rw [xab (by omega),xa1] at hh
 rw [xab hlt] at hx;rw [xaN hx] at this
 omega
end Go.Proofs.YtocamnijnhnlfaaGreat
