/- Contracts of functions, for the claim. No conditions. -/
import Derived.Test.YtijgimeokgbifaaGreatK7
import Derived.Test.YtijgimeokgbifaaGreatK4
import Derived.Test.YtijgimeokgbifaaGreatK8
import Derived.Test.YtijgimeokgbifaaGreatK5
import Derived.Test.YtijgimeokgbifaaGreatK6
set_option linter.all false
set_option maxHeartbeats 8000000
set_option maxRecDepth 100000
namespace Go.Proofs.YtijgimeokgbifaaGreat
open Go.RowKit Tryz
def zoC (ls:List Lim) (m:List Mov) (r:Req):Bool:=(zrw r).all λo=>!decide (zwD ls m o < 1)
def zk3 (a b:Mov):Bool:=if a.moment=b.moment then (if a.kind=b.kind then Op.bytesLess a.name.toList b.name.toList else Op.bytesLess a.kind.toList b.kind.toList) else decide (a.moment < b.moment)
def zyF (l:List Mov):l.all ((λx=>x.cells.all PV.one) ∘ Mov.pv)=true:=by rw [xaB];intro x _;rfl
abbrev Mov.cells (m:Mov):List PV:=[.i .i64 m.moment,.s m.kind,.s m.term,.i .i64 m.seats,.i .i64 m.size,.i .i64 m.noise,.s m.name]
def zo7 (x y:Int):Int:=if x < y then -1 else if y < x then 1 else 0
def zmH (x y:ByteArray):Int:=if Op.bytesLess x.toList y.toList=true then -1 else if x=y then 0 else 1
def zvJ (a b:Mov):Int:=zf [zo7 a.moment b.moment,zmH a.kind b.kind,zmH a.name b.name]
def zum (x:ByteArray):Pure prog 226 [.s x] (.b false):=by
 refine pz func226 f226.eq_1 λhw X hX=>?_
 have qe:=@zrs;exact gD0
def zi8 (x y:Int):Pure prog 144 [.i .i64 x,.i .i64 y] (.i .i64 (zo7 x y)):=by
 refine pz func144 f144.eq_1 λhw X hX=>?_
 repeat' first|refine gC ?_ ?_<;>intro hc<;>try contradiction|refine za (zi4 _) ?_|refine gG ?_|show AK _;intro J Z|refine gJ ?_|omega|exact aT
 ·rw [zo7,if_pos hc];exact .refl _
 ·rw [zo7,if_neg (by omega),if_pos hc];exact .refl _
 ·rw [zo7,if_neg (by omega),if_neg (by omega)];exact .refl _
def znT (x y:ByteArray):Pure prog 161 [.s x,.s y] (.i .i64 (zmH x y)):=by
 refine pz func161 f161.eq_1 λhw X hX=>?_
 repeat' first|refine gC ?_ ?_<;>intro hc<;>try contradiction|refine za (zum _) ?_|refine gG ?_|show AK _;intro J Z|refine gJ ?_|omega|exact aT
 ·rw [zmH,if_pos hc];exact .refl _
 ·rw [zmH,if_neg (by rw [hc.1];simp),if_neg hc.2];exact .refl _
 ·have h1:=‹Op.bytesLess x.toList y.toList=false›;rw [zmH,if_neg (by rw [h1];simp),if_pos (hc.resolve_left (by rw [h1];simp))];exact .refl _
def znV (l:List Int):Pure prog 160 [.sl 1 (l.map (.i .i64))] (.i .i64 (zf l)):=by
 refine pz func160 f160.eq_1 λhw X hX=>?_
 simp only [wfs,PV.wf,xaf,maxLen] at hw
 repeat' first|refine gC ?_ ?_<;>intro hc<;>try contradiction|refine gG ?_|show AK _;intro J Z|refine gJ ?_|omega|exact aT
 refine zi (κ:=Nat) (λi=>⟨[(3,.p (.i .i64 0)),(6,.p (.sl 1 (l.map (.i .i64)))),(7,.p (.i .i64 l.length)),(8,.p (.i .i64 i))],[],[],false⟩) (λi=>i<=l.length/\∀ x ∈ l.take i,x=0) (λi=>l.length - i) 0 ?_ ?_ ?_
 ·exact sR
 ·simp
 ·intro i hi
  repeat first|refine gG ?_|show AK _;intro J Z|refine gJ ?_|omega|exact aT
  (refine gC ?_ ?_<;>intro hc<;>try contradiction)
  ·obtain ⟨x,hx⟩:=zm (i:=i) (l:=l) (by omega)
   have qe:=@hx;repeat' first|refine gC ?_ ?_<;>intro hc<;>try contradiction|refine gG ?_|show AK _;intro J Z|refine gJ ?_|omega|exact aT
   ·rw [zT hi.2 hx hc];exact .refl _
   ·exact ⟨i+1,⟨by omega,zaB hi.2 hx hc⟩,by omega,by simp⟩
  ·repeat' first|refine gC ?_ ?_<;>intro hc<;>try contradiction|refine gG ?_|show AK _;intro J Z|refine gJ ?_|omega|exact aT
   have e:i=l.length:=by omega
   subst e;rw [z4 hi.2];exact .refl _
def zur (a b:Mov):Pure prog 198 [a.pv,b.pv] (.i .i64 (zvJ a b)):=by
 refine pz func198 f198.eq_1 λhw X hX=>?_
 have qe:=@qR;have jA:=λu1 u2=>zi8 u1 u2;have jB:=λu1 u2=>znT u1 u2;have jC:=λu1 u2 u3=>znV [u1,u2,u3];exact gD4
def zv3 (L:List Mov) (hn:L.length*80<=140737488355328):Acts prog 196 [.p (.sl 7 (L.map Mov.pv))] [] (.row 5 L.length) [(5,.row 140 7 (L.map Mov.pv) false)]:=by
 have hA:=λl=>eq_true (zyF l)
 refine zR (cF func196 f196.eq_1) (by simp) (by simp [scPs,scP]) (by simp [scObj]) trivial (by simp [scObj]) trivial λX hX=>?_
 unfold zE ghO;have qe:=aI qR (aI @hA (aI @rtN @rtR));repeat' first|refine gC ?_ ?_<;>intro hc<;>try contradiction|refine zdP λb hb=>?_|refine gG ?_|show AK _;intro J Z|refine gJ ?_|omega|exact aT
 ·have e:L=[]:=by simpa using hb hc
  subst e;exact .inr ⟨5,140,7,[(2,.row 5 0)],[],by simp only [Own,zaL,zaA,zbr,zax,qS,seval],.mk1⟩
 ·exact .inl .mk1
section
variable {f:Nat} {c:Mov->Mov->Int}
def zpj (hf:∀ a b:Mov,Pure prog f [a.pv,b.pv] (.i .i64 (c a b))) (hs:SW (bfC c)):∀ (n:Nat) {D D':List Mov} {N:Nat} (P A B S:List Mov) (_:D.length=N) (_:D=P++(A++(B++S))) (_:D'=P++(mrg (bfC c) A B++S)) (_:srt (bfC c) A) (_:srt (bfC c) B) (_:0 < A.length) (_:0 < B.length) (_:A.length+B.length=n) (a m b:Int) (_:a=(P.length:Nat)) (_:m=(P.length+A.length:Nat)) (_:b=(P.length+A.length+B.length:Nat)) (_:N<=1000000),
  Acts prog 277 [.row 900 N,.p (.i .i64 a),.p (.i .i64 m),.p (.i .i64 b),.p (.fn (.func f) [] [])] [(900,.row 140 7 (D.map Mov.pv) false)] (.p (.tup [])) [(900,.row 140 7 (D'.map Mov.pv) false)]:=by
 intro n
 induction n using Nat.strongRecOn with
 | _ n ih=>
 intro D D' N P A B S hN hD hD' sA sB hA hB hn2 a m b ha hm hb hn
 by_cases h1A:A.length=1
 ·match A,h1A with
  | [x],_=>exact zsu hf hs P B S x hN hD hD' sB a m b ha (by rw [hm];simp) (by rw [hb];simp) hn
 by_cases h1B:B.length=1
 ·match B,h1B with
  | [y],_=>exact zst hf hs P A S y hN hD hD' sA (by omega) a m b ha hm (by rw [hb];simp) hn
 subst ha hm hb;have hlen:N=P.length+(A.length+(B.length+S.length)):=by rw [<-hN,hD];simp
 have hlen':D'.length=N:=by rw [hD',hlen];simp [zcu];omega
 have hDA:∀ q z,A[q]?=some z->D[P.length+q]?=some z:=λq z hz=>by
  rw [hD,zbm _ _ _ (xaa.1 hz).1,hz]
 have hDB:∀ q y,B[q]?=some y->D[P.length+A.length+q]?=some y:=λq y hy=>by
  have e:D=(P++A)++(B++S):=by rw [hD];simp
  rw [e,<-xae,zbm _ _ _ (xaa.1 hy).1,hy]
 refine zR (cF func277 f277.eq_1) (by simp) (by simp [scPs,scP,zj,hN]) (by simp [scObj]) ⟨rfl,trivial⟩ (by simp [scObj]) (by simp [zc1,zj,hN,hlen']) λX hX=>?_
 unfold zE ghO;have z1:(((P.length+A.length:Nat):Int) - (P.length:Nat)=1)=False:=eq_false (by omega)
 have z2:(((P.length+A.length+B.length:Nat):Int) - (P.length+A.length:Nat)=1)=False:=eq_false (by omega)
 have hmid:=zgU P.length (P.length+A.length+B.length) (by omega)
 obtain ⟨mid,hmd⟩:∃ mid,mid=(P.length+(P.length+A.length+B.length)) / 2:=⟨_,rfl⟩;rw [<-hmd] at hmid;obtain ⟨st,r0,hst⟩:∃ st r0:Nat,(mid < P.length+A.length/\st=mid+(P.length+A.length) - (P.length+A.length+B.length)/\r0=mid)\/(P.length+A.length<=mid/\st=P.length/\r0=P.length+A.length):=by
  by_cases h:mid < P.length+A.length
  ·exact ⟨_,_,.inl ⟨h,rfl,rfl⟩⟩
  ·exact ⟨_,_,.inr ⟨by omega,rfl,rfl⟩⟩
 have qe:=aI qR (aI @gLV.eq_2 @z1);repeat' first|refine gG ?_|show AK _;intro J Z|refine gJ ?_|omega|exact aT
 have qe:=aI qR (aI @gLV.eq_2 @z1);(refine gC ?_ ?_<;>intro hc<;>try contradiction)
 have qe:=aI qR (aI @gLV.eq_2 (aI @z1 @z2));repeat' first|refine gG ?_|show AK _;intro J Z|refine gJ ?_|omega|exact aT
 have qe:=aI qR (aI @gLV.eq_2 @z2);(refine gC ?_ ?_<;>intro hc<;>try contradiction)
 have qe:=aI qR @hmid;repeat' first|refine gG ?_|show AK _;intro J Z|refine gJ ?_|omega|exact aT
 refine zgy ⟨[(0,.row 900 N),(1,.p (.i .i64 (P.length:Nat))),(2,.p (.i .i64 (P.length+A.length:Nat))),(3,.p (.i .i64 (P.length+A.length+B.length:Nat))),(4,.p (.fn (.func f) [] [])),(18,.p (.i .i64 (mid:Nat))),(19,.p (.i .i64 (mid+(P.length+A.length):Nat))),(20,.p (.i .i64 (st:Nat))),(21,.p (.i .i64 (r0:Nat))),(1000900,.row 900 N)],[(900,.row 140 7 (D.map Mov.pv) false)],[],false⟩ ?_ ?_
 ·rcases hst with ⟨g1,g2,g3⟩|⟨g1,g2,g3⟩
  ·have hg:(((mid:Nat):Int) < (P.length+A.length:Nat))=True:=eq_true (by omega)
   have qe:=aI qR (aI @zij @hg);repeat' first|refine gC ?_ ?_<;>intro hc<;>try contradiction|refine gG ?_|show AK _;intro J Z|refine gJ ?_|omega|exact aT
   subst g2 g3
   (repeat' apply And.intro)<;>first|rfl|(simp only [LV.p.injEq,PV.i.injEq,true_and];omega)|(exact xcx hN.symm)|(rw [hN])
  ·have hg:(((mid:Nat):Int) < (P.length+A.length:Nat))=False:=eq_false (by omega)
   have qe:=aI qR (aI @zij @hg);repeat' first|refine gC ?_ ?_<;>intro hc<;>try contradiction|refine gG ?_|show AK _;intro J Z|refine gJ ?_|omega|exact aT
   subst g2 g3
   (repeat' apply And.intro)<;>first|rfl|(simp only [LV.p.injEq,PV.i.injEq,true_and];omega)|(exact xcx hN.symm)|(rw [hN])
 refine Stp.h ?_;have qe:=@qR;repeat' first|refine gC ?_ ?_<;>intro hc<;>try contradiction|refine gG ?_|show AK _;intro J Z|refine gJ ?_|omega|exact aT
 refine zi (κ:=Nat × Nat) (λk=>⟨[(0,.row 900 N),(1,.p (.i .i64 (P.length:Nat))),(2,.p (.i .i64 (P.length+A.length:Nat))),(3,.p (.i .i64 (P.length+A.length+B.length:Nat))),(4,.p (.fn (.func f) [] [])),(18,.p (.i .i64 (mid:Nat))),(19,.p (.i .i64 (mid+(P.length+A.length):Nat))),(20,.p (.i .i64 (k.1:Nat))),(21,.p (.i .i64 (k.2:Nat))),(22,.p (.i .i64 (mid+(P.length+A.length) - 1:Nat))),(1000900,.row 900 N)],[(900,.row 140 7 (D.map Mov.pv) false)],[],false⟩)
  (λk=>st<=k.1/\k.1<=k.2/\k.2<=r0/\(∀ a b,A[k.1 - P.length - 1]?=some a->B[mid - k.1]?=some b->0 < k.1 - P.length->bfC c b a=false)/\(∀ a b,A[k.2 - P.length]?=some a->B[mid - k.2 - 1]?=some b->0 < mid - k.2->bfC c b a=true)) (λk=>k.2 - k.1) (st,r0) ?_ ?_ ?_
 ·simp only [qS,seval];simp only [LV.p.injEq,PV.i.injEq,true_and];omega
 ·refine ⟨xaj _,by simp only;omega,xaj _,λa b h1 h2 h3=>?_,λa b h1 h2 h3=>?_⟩
  ·exfalso
   have h1:=(xaa.1 h1).1;have h2:=(xaa.1 h2).1;simp only at h1 h2 h3
   omega
  ·exfalso
   have h1:=(xaa.1 h1).1;have h2:=(xaa.1 h2).1;simp only at h1 h2 h3
   omega
 ·intro k hk;obtain ⟨s,r⟩:=k;simp only at hk;obtain ⟨k1,k2,k3,k4,k5⟩:=hk;have hm:=zgU s r (by omega)
  by_cases hsr:s < r
  ·have hsr':((s:Int) < r)=True:=eq_true (by omega)
   obtain ⟨v,hv⟩:=zm (i:=(s+r) / 2 - P.length) (l:=A) (by omega)
   obtain ⟨u,hu⟩:=zm (i:=mid - (s+r) / 2 - 1) (l:=B) (by omega)
   have hv2:=hDA _ v hv;have hu2:=hDB _ u hu;rw [show P.length+((s+r) / 2 - P.length)=(s+r) / 2 by omega] at hv2
   have j1:(((mid+(P.length+A.length) - 1:Nat):Int) - (((s+r) / 2:Nat):Int)).toNat=P.length+A.length+(mid - (s+r) / 2 - 1):=by omega
   cases hcc:bfC c u v with
   | false=>
    have hc':=bf_f hcc;have qe:=aI qR (aI @hsr' (aI @hm (aI @hN (aI @j1 (aI @hv2 (aI @hu2 (aI @hc' (aI @rtN @rtR))))))));repeat' first|refine gC ?_ ?_<;>intro hc<;>try contradiction|refine zk (hf u v) ?_|refine gG ?_|show AK _;intro J Z|refine gJ ?_|omega|exact aT
    refine ⟨((s+r) / 2+1,r),⟨by simp only;omega,by simp only;omega,k3,λa b h1 h2 h3=>?_,k5⟩,by simp only;omega,by simp,rfl⟩
    simp only at h1 h2;rw [show (s+r) / 2+1 - P.length - 1=(s+r) / 2 - P.length by omega,hv] at h1
    rw [show mid - ((s+r) / 2+1)=mid - (s+r) / 2 - 1 by omega,hu] at h2
    cases h1;cases h2;exact hcc
   | true=>
    have hc':=bf_t hcc;have qe:=aI qR (aI @hsr' (aI @hm (aI @hN (aI @j1 (aI @hv2 (aI @hu2 (aI @hc' (aI @rtN @rtR))))))));repeat' first|refine gC ?_ ?_<;>intro hc<;>try contradiction|refine zk (hf u v) ?_|refine gG ?_|show AK _;intro J Z|refine gJ ?_|omega|exact aT
    refine ⟨(s,(s+r) / 2),⟨k1,by simp only;omega,by simp only;omega,k4,λa b h1 h2 h3=>?_⟩,by simp only;omega,rfl,rfl⟩
    simp only at h1 h2;rw [hv] at h1;rw [hu] at h2;cases h1;cases h2;exact hcc
  ·have e:s=r:=by omega
   subst e;have hsr':((s:Int) < s)=False:=eq_false (by omega)
   have lA1:(A.take (s - P.length)).length=s - P.length:=by rw [xai];omega
   have lB1:(B.take (mid - s)).length=mid - s:=by rw [xai];omega
   have lA2:(A.drop (s - P.length)).length=P.length+A.length - s:=by rw [xaF];omega
   have lB2:(B.drop (mid - s)).length=P.length+A.length+B.length+s - (mid+(P.length+A.length)):=by rw [xaF];omega
   have hlo:=zuI hs sA sB (s:=s - P.length) (e:=mid - s) (by omega) k4
   have hhi:=zrN hs sA sB (s:=s - P.length) (e:=mid - s) (by omega) k5
   have hspl:=zaP (lt:=bfC c) _ _ _ _ hlo hhi;rw [xaw,xaw] at hspl;have sA1:srt (bfC c) (A.take (s - P.length)):=sA.sublist (List.take_sublist _ _);have sA2:srt (bfC c) (A.drop (s - P.length)):=sA.sublist (List.drop_sublist _ _);have sB1:srt (bfC c) (B.take (mid - s)):=sB.sublist (List.take_sublist _ _);have sB2:srt (bfC c) (B.drop (mid - s)):=sB.sublist (List.drop_sublist _ _);have hD2:D=(P++A.take (s - P.length))++(A.drop (s - P.length)++(B.take (mid - s)++(B.drop (mid - s)++S))):=by
    rw [hD,xau,<-xau (A.take _),xaw,<-xau (B.take _),xaw]
   have lE1:(P++(A.take (s - P.length)++(B.take (mid - s)++(A.drop (s - P.length)++(B.drop (mid - s)++S))))).length=N:=by simp only [xae,lA1,lA2,lB1,lB2];omega
   have lE2:(P++(mrg (bfC c) (A.take (s - P.length)) (B.take (mid - s))++(A.drop (s - P.length)++(B.drop (mid - s)++S)))).length=N:=by simp only [xae,zcu,lA1,lA2,lB1,lB2];omega
   have hE3:D'=(P++mrg (bfC c) (A.take (s - P.length)) (B.take (mid - s)))++(mrg (bfC c) (A.drop (s - P.length)) (B.drop (mid - s))++S):=by rw [hD',hspl];simp only [xau]
   have lM:(P++mrg (bfC c) (A.take (s - P.length)) (B.take (mid - s))).length=mid:=by simp only [xae,zcu,lA1,lB1];omega
   have eEnd:((mid+(P.length+A.length):Nat):Int) - (s:Nat)=((mid+(P.length+A.length) - s:Nat):Int):=by omega
   have qe:=aI qR (aI @hsr' @hN);repeat' first|refine gG ?_|show AK _;intro J Z|refine gJ ?_|omega|exact aT
   have qe:=aI qR @hsr';(refine gC ?_ ?_<;>intro hc<;>try contradiction)
   have qe:=aI qR (aI @hsr' (aI @hN @eEnd));repeat' first|refine gG ?_|show AK _;intro J Z|refine gJ ?_|omega|exact aT
   refine zgy ⟨[(0,.row 900 N),(1,.p (.i .i64 (P.length:Nat))),(2,.p (.i .i64 (P.length+A.length:Nat))),(3,.p (.i .i64 (P.length+A.length+B.length:Nat))),(4,.p (.fn (.func f) [] [])),(18,.p (.i .i64 (mid:Nat))),(20,.p (.i .i64 (s:Nat))),(24,.p (.i .i64 (mid+(P.length+A.length) - s:Nat))),(1000900,.row 900 N)],[(900,.row 140 7 ((P++(A.take (s - P.length)++(B.take (mid - s)++(A.drop (s - P.length)++(B.drop (mid - s)++S))))).map Mov.pv) false)],[],false⟩ ?_ ?_
   ·by_cases h1:s < P.length+A.length/\0 < mid - s
    ·have u1:((s:Int) < (P.length+A.length:Nat))=True:=eq_true (by omega)
     have u2:(((P.length+A.length:Nat):Int) < (mid+(P.length+A.length) - s:Nat))=True:=eq_true (by omega)
     have qe:=aI qR (aI @zij (aI @u1 (aI @u2 (aI @hN @qN))));repeat' first|refine gC ?_ ?_<;>intro hc<;>try contradiction|refine zl [] (zv2 f (D':=(P++(A.take (s - P.length)++(B.take (mid - s)++(A.drop (s - P.length)++(B.drop (mid - s)++S)))))) (P++A.take (s - P.length)) (A.drop (s - P.length)) (B.take (mid - s)) (B.drop (mid - s)++S) hN hD2 (by simp only [xau]) (by omega) (by omega) (s:Nat) (P.length+A.length:Nat) (mid+(P.length+A.length) - s:Nat) (by simp only [xae,lA1];omega) (by simp only [xae,lA1,lA2];omega) (by simp only [xae,lA1,lA2,lB1];omega) hn) ?_|refine gG ?_|show AK _;intro J Z|refine gJ ?_|omega|exact aT
     skip
    ·have hDE:D=(P++(A.take (s - P.length)++(B.take (mid - s)++(A.drop (s - P.length)++(B.drop (mid - s)++S))))):=by
      rw [hD2]
      rcases (show s=P.length+A.length\/mid - s=0 by omega) with e|e
      ·rw [show A.drop (s - P.length)=[] from xbj (by omega)];simp
      ·rw [e];simp
     rw [<-hDE]
     by_cases h2:s < P.length+A.length
     ·have u1:((s:Int) < (P.length+A.length:Nat))=True:=eq_true (by omega)
      have u2:(((P.length+A.length:Nat):Int) < (mid+(P.length+A.length) - s:Nat))=False:=eq_false (by omega)
      have qe:=aI qR (aI @zij (aI @u1 (aI @u2 @hN)));repeat' first|refine gC ?_ ?_<;>intro hc<;>try contradiction|refine gG ?_|show AK _;intro J Z|refine gJ ?_|omega|exact aT
      skip
     ·have u1:((s:Int) < (P.length+A.length:Nat))=False:=eq_false (by omega)
      have qe:=aI qR (aI @zij (aI @u1 @hN));repeat' first|refine gC ?_ ?_<;>intro hc<;>try contradiction|refine gG ?_|show AK _;intro J Z|refine gJ ?_|omega|exact aT
      skip
   refine Stp.h ?_;have qe:=aI qR @hN;repeat' first|refine gG ?_|show AK _;intro J Z|refine gJ ?_|omega|exact aT
   refine zgy ⟨[(0,.row 900 N),(1,.p (.i .i64 (P.length:Nat))),(2,.p (.i .i64 (P.length+A.length:Nat))),(3,.p (.i .i64 (P.length+A.length+B.length:Nat))),(4,.p (.fn (.func f) [] [])),(18,.p (.i .i64 (mid:Nat))),(20,.p (.i .i64 (s:Nat))),(24,.p (.i .i64 (mid+(P.length+A.length) - s:Nat))),(1000900,.row 900 N)],[(900,.row 140 7 ((P++(mrg (bfC c) (A.take (s - P.length)) (B.take (mid - s))++(A.drop (s - P.length)++(B.drop (mid - s)++S)))).map Mov.pv) false)],[],false⟩ ?_ ?_
   ·by_cases h1:P.length < s/\s < mid
    ·have u1:(((P.length:Nat):Int) < (s:Nat))=True:=eq_true (by omega)
     have u2:(((s:Nat):Int) < (mid:Nat))=True:=eq_true (by omega)
     have qe:=aI qR (aI @zij (aI @u1 (aI @u2 (aI @lE1 @qN))));repeat' first|refine gC ?_ ?_<;>intro hc<;>try contradiction|refine zl [] (ih (s - P.length+(mid - s)) (by omega) (D:=(P++(A.take (s - P.length)++(B.take (mid - s)++(A.drop (s - P.length)++(B.drop (mid - s)++S)))))) (D':=(P++(mrg (bfC c) (A.take (s - P.length)) (B.take (mid - s))++(A.drop (s - P.length)++(B.drop (mid - s)++S))))) P (A.take (s - P.length)) (B.take (mid - s)) (A.drop (s - P.length)++(B.drop (mid - s)++S)) lE1 rfl rfl sA1 sB1 (by omega) (by omega) (by omega) (P.length:Nat) (s:Nat) (mid:Nat) rfl (by omega) (by omega) hn) ?_|refine gG ?_|show AK _;intro J Z|refine gJ ?_|omega|exact aT
     simp only [zcu,lA1,lA2,lB1,lB2];omega
    ·have hDE:(P++(A.take (s - P.length)++(B.take (mid - s)++(A.drop (s - P.length)++(B.drop (mid - s)++S)))))=(P++(mrg (bfC c) (A.take (s - P.length)) (B.take (mid - s))++(A.drop (s - P.length)++(B.drop (mid - s)++S)))):=by
      rcases (show s - P.length=0\/mid - s=0 by omega) with e|e
      ·rw [e];simp [zaD]
      ·rw [e];simp [zaU]
     rw [<-hDE]
     by_cases h2:P.length < s
     ·have u1:(((P.length:Nat):Int) < (s:Nat))=True:=eq_true (by omega)
      have u2:(((s:Nat):Int) < (mid:Nat))=False:=eq_false (by omega)
      have qe:=aI qR (aI @zij (aI @u1 (aI @u2 @lE1)));repeat' first|refine gC ?_ ?_<;>intro hc<;>try contradiction|refine gG ?_|show AK _;intro J Z|refine gJ ?_|omega|exact aT
      skip
     ·have u1:(((P.length:Nat):Int) < (s:Nat))=False:=eq_false (by omega)
      have qe:=aI qR (aI @zij (aI @u1 @lE1));repeat' first|refine gC ?_ ?_<;>intro hc<;>try contradiction|refine gG ?_|show AK _;intro J Z|refine gJ ?_|omega|exact aT
      skip
   refine Stp.h ?_;have qe:=aI qR @hN;repeat' first|refine gG ?_|show AK _;intro J Z|refine gJ ?_|omega|exact aT
   by_cases h1:mid < mid+(P.length+A.length) - s/\mid+(P.length+A.length) - s < P.length+A.length+B.length
   ·have u1:(((mid:Nat):Int) < (mid+(P.length+A.length) - s:Nat))=True:=eq_true (by omega)
    have u2:(((mid+(P.length+A.length) - s:Nat):Int) < (P.length+A.length+B.length:Nat))=True:=eq_true (by omega)
    have qe:=aI qR (aI @u1 (aI @u2 (aI @lE2 (aI @qN (aI @rtN @rtR)))));repeat' first|refine gC ?_ ?_<;>intro hc<;>try contradiction|refine zl [] (ih (P.length+A.length - s+(P.length+A.length+B.length+s - (mid+(P.length+A.length)))) (by omega) (D:=(P++(mrg (bfC c) (A.take (s - P.length)) (B.take (mid - s))++(A.drop (s - P.length)++(B.drop (mid - s)++S))))) (D':=D') (P++mrg (bfC c) (A.take (s - P.length)) (B.take (mid - s))) (A.drop (s - P.length)) (B.drop (mid - s)) S lE2 (by simp only [xau]) hE3 sA2 sB2 (by omega) (by omega) (by omega) (mid:Nat) (mid+(P.length+A.length) - s:Nat) (P.length+A.length+B.length:Nat) (by rw [lM]) (by rw [lM,lA2];omega) (by rw [lM,lA2,lB2];omega) hn) ?_|refine gG ?_|show AK _;intro J Z|refine gJ ?_|omega|exact aT
    all_goals first|exact .inl (.mk0 (h2:=by simp only [qS,seval,keepG.eq_1,keepG.eq_2,gLV.eq_2]<;>simp [hN]))
   ·have hDE:(P++(mrg (bfC c) (A.take (s - P.length)) (B.take (mid - s))++(A.drop (s - P.length)++(B.drop (mid - s)++S))))=D':=by
     rw [hE3]
     rcases (show P.length+A.length - s=0\/P.length+A.length+B.length+s - (mid+(P.length+A.length))=0 by omega) with e|e
     ·rw [List.length_eq_zero_iff.1 (lA2.trans e),zaD];simp
     ·rw [List.length_eq_zero_iff.1 (lB2.trans e),zaU];simp
    rw [hDE];rw [hDE] at lE2
    by_cases h2:mid < mid+(P.length+A.length) - s
    ·have u1:(((mid:Nat):Int) < (mid+(P.length+A.length) - s:Nat))=True:=eq_true (by omega)
     have u2:(((mid+(P.length+A.length) - s:Nat):Int) < (P.length+A.length+B.length:Nat))=False:=eq_false (by omega)
     have qe:=aI qR (aI @u1 (aI @u2 (aI @lE2 (aI @rtN @rtR))));repeat' first|refine gC ?_ ?_<;>intro hc<;>try contradiction|refine gG ?_|show AK _;intro J Z|refine gJ ?_|omega|exact aT
     all_goals first|exact .inl (.mk0 (h2:=by simp only [qS,seval,keepG.eq_1,keepG.eq_2,gLV.eq_2]<;>simp [hN]))
    ·have u1:(((mid:Nat):Int) < (mid+(P.length+A.length) - s:Nat))=False:=eq_false (by omega)
     have qe:=aI qR (aI @u1 (aI @lE2 (aI @rtN @rtR)));repeat' first|refine gC ?_ ?_<;>intro hc<;>try contradiction|refine gG ?_|show AK _;intro J Z|refine gJ ?_|omega|exact aT
     all_goals first|exact .inl (.mk0 (h2:=by simp only [qS,seval,keepG.eq_1,keepG.eq_2,gLV.eq_2]<;>simp [hN]))
end
theorem zkH:∀ l:List UInt8,Op.bytesLess l l=false
 | []=>by simp [Op.bytesLess]
 | x::r=>by simp [Op.bytesLess,zkH r]
def zta (x y:Int):zo7 x y=0↔x=y:=by unfold zo7;(repeat' split)<;>omega
def zym (x y:Int):zo7 x y < 0↔x < y:=by unfold zo7;(repeat' split)<;>omega
def zs9 (x y:ByteArray):zmH x y=0↔x=y:=by
 unfold zmH
 split
 ·rename_i h;refine ⟨λh0=>by omega,λe=>?_⟩
  subst e;rw [zkH] at h;cases h
 ·split
  ·rename_i h;exact ⟨λ_=>h,λ_=>rfl⟩
  ·rename_i h;exact ⟨λh0=>by omega,λe=>absurd e h⟩
def zo6 (x y:ByteArray):zmH x y < 0↔Op.bytesLess x.toList y.toList=true:=by
 unfold zmH
 split
 ·rename_i h;exact ⟨λ_=>h,λ_=>by omega⟩
 ·rename_i h;refine ⟨λh0=>?_,λe=>absurd e h⟩
  split at h0<;>omega
def zkW (a b:Mov):zvJ a b < 0↔zk3 a b=true:=by
 unfold zvJ zk3;simp only [zf]
 by_cases h1:a.moment=b.moment
 ·rw [if_pos h1,if_pos ((zta _ _).2 h1)]
  by_cases h2:a.kind=b.kind
  ·rw [if_pos h2,if_pos ((zs9 _ _).2 h2)]
   by_cases h3:zmH a.name b.name=0
   ·rw [if_pos h3,<-zo6,h3]
   ·rw [if_neg h3];exact zo6 _ _
  ·rw [if_neg h2,if_neg (λh=>h2 ((zs9 _ _).1 h))];exact zo6 _ _
 ·rw [if_neg h1,if_neg (λh=>h1 ((zta _ _).1 h)),decide_eq_true_eq];exact zym _ _
def zkX:bfC zvJ=zk3:=by
 funext a b
 show decide (zvJ a b < 0)=zk3 a b
 by_cases h:zvJ a b < 0
 ·rw [decide_eq_true h,(zkW a b).1 h]
 ·rw [decide_eq_false h];exact (Bool.eq_false_iff.2 λh2=>h ((zkW a b).2 h2)).symm
def zll (a b:List Mov):zai zvJ (a++b)=zf5 zk3 a b:=by rw [zai,zkX];rfl
def mgE (a b:List Mov):Int:=zf [zae a,zae b,if 30000 < (a.length:Int)+b.length then 5 else 0]
def mgR (a b:List Mov):List Mov:=if mgE a b=0 then zf5 zk3 a b else []
def zfd (L:List Slt) (n:ByteArray):Int:=if atL n (L.map (·.req.name)) < 0 then 10 else 0
def zre (A B:List ByteArray):Pure prog 32 [.sl 1 (A.map .s),.sl 1 (B.map .s)] (.b (decide (A=B))):=by
 refine pz func32 f32.eq_1 λhw X hX=>?_
 simp only [wfs,PV.wf,xaf,maxLen] at hw
 repeat' first|refine gC ?_ ?_<;>intro hc<;>try contradiction|refine gG ?_|show AK _;intro J Z|refine gJ ?_|omega|exact aT
 ·rw [decide_eq_false (λe=>hc (by rw [e]))];exact .refl _
 have hlen:A.length=B.length:=by omega
 refine zi (κ:=Nat) (λi=>⟨[(0,.p (.sl 1 (A.map .s))),(1,.p (.sl 1 (B.map .s))),(5,.p (.i .i64 i))],[],[],false⟩) (λi=>i<=A.length/\A.take i=B.take i) (λi=>A.length - i) 0 ?_ ?_ ?_
 ·exact sR
 ·simp
 ·intro i hi
  repeat first|refine gG ?_|show AK _;intro J Z|refine gJ ?_|omega|exact aT
  (refine gC ?_ ?_<;>intro hc<;>try contradiction)
  ·obtain ⟨x,hx⟩:=zm (i:=i) (l:=A) (by omega)
   obtain ⟨y,hy⟩:=zm (i:=i) (l:=B) (by omega)
   have qe:=aI @hx @hy;repeat' first|refine gC ?_ ?_<;>intro hc<;>try contradiction|refine gG ?_|show AK _;intro J Z|refine gJ ?_|omega|exact aT
   ·rw [decide_eq_false (λe=>hc (by subst e;rw [hx] at hy;injection hy))];exact .refl _
   ·exact ⟨i+1,⟨by omega,by rw [zam hx,zam hy,hi.2,hc]⟩,by omega,by simp⟩
  ·repeat' first|refine gC ?_ ?_<;>intro hc<;>try contradiction|refine gG ?_|show AK _;intro J Z|refine gJ ?_|omega|exact aT
   have e:i=A.length:=by omega
   have h2:=hi.2;rw [e,xas,hlen,xas] at h2;rw [decide_eq_true h2];exact .refl _
end Go.Proofs.YtijgimeokgbifaaGreat
