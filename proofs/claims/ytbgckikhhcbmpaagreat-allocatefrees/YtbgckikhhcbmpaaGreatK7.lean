/- Contracts. No conditions. -/
import Derived.Test.YtbgckikhhcbmpaaGreatK6
set_option linter.all false
set_option maxHeartbeats 8000000
set_option maxRecDepth 100000
namespace Go.Proofs.YtbgckikhhcbmpaaGreat
open Go.RowKit Tryz
variable {B D D' P S:List OptN} {N k q:Nat} {a b x y:OptN} {lt:OptN->OptN->Bool}
section
variable {f:Nat} {c:Mov->Mov->Int}
def zv8 (hf:∀ a b:Mov,Pure prog f [a.pv,b.pv] (.i .i64 (c a b))) (hs:SW (bfC c)) {D D':List Mov} (P A S:List Mov) (y:Mov) (hN:D.length=N) (hD:D=P++(A++([y]++S))) (hD':D'=P++(mrg (bfC c) A [y]++S)) (sA:srt (bfC c) A) (h1A:1 < A.length) (a m b:Int) (ha:a=(P.length:Nat)) (hm:m=(P.length+A.length:Nat)) (hb:b=(P.length+A.length+1:Nat)) (hn:N<=1000000) :
  zbk prog 268 [.row 900 N,.p (.i .i64 a),.p (.i .i64 m),.p (.i .i64 b),.p (.fn (.func f) [] [])] [(900,.row 194 7 (D.map Mov.pv) false)] (.p (.tup [])) [(900,.row 194 7 (D'.map Mov.pv) false)]:=by
 subst ha hm hb;have hlen:N=P.length+(A.length+(1+S.length)):=by rw [<-hN,hD];simp only [xad,xaz,xbB]
 have hlen':D'.length=N:=by rw [hD',hlen];simp [zbp];omega
 have e0:D=wyD P y A S A.length:=by rw [hD,wyD];simp
 have hyD:D[P.length+A.length]?=some y:=by rw [e0];exact zma (xap _)
 have hDA:∀ q z,A[q]?=some z->D[P.length+q]?=some z:=λq z hz=>by
  rw [hD,zae _ _ _ (xaa.1 hz).1,hz]
 refine zD (cF func268 f268.eq_1) (by simp) (by simp [scPs,scP,zm,hN]) (by simp [scObj]) ⟨rfl,trivial⟩ (by simp [scObj]) (by simp [zcQ,zm,hN,hlen']) λX hX=>?_
 unfold zx ghO;have z1:(((P.length+A.length:Nat):Int) - (P.length:Nat)=1)=False:=eq_false (by omega)
 have z2:(((P.length+A.length+1:Nat):Int) - (P.length+A.length:Nat)=1)=True:=eq_true (by omega)
 have qe:=aI qR (aI @gLV.eq_2 (aI @z1 @z2));refine gE2 ?_;refine zh (κ:=Nat × Nat) (λk=>⟨[(0,.row 900 N),(1,.p (.i .i64 (P.length:Nat))),(2,.p (.i .i64 (P.length+A.length:Nat))),(4,.p (.fn (.func f) [] [])),(14,.p (.i .i64 (k.1:Nat))),(15,.p (.i .i64 (k.2:Nat))),(1000900,.row 900 N)],[(900,.row 194 7 (D.map Mov.pv) false)],[],false⟩)
  (λk=>P.length<=k.1/\k.1<=k.2/\k.2<=P.length+A.length/\(∀ z ∈ A.take (k.1 - P.length),bfC c y z=false)/\∀ z ∈ A.drop (k.2 - P.length),bfC c y z=true) (λk=>k.2 - k.1) (P.length,P.length+A.length) ?_ ?_ ?_
 ·simp only [qS,seval,gLV.eq_2]<;>simp [hN]
 ·refine ⟨by simp,by simp,by simp,?_,?_⟩
  ·simp
  ·simp
 ·intro k hk;obtain ⟨i,j⟩:=k;simp only at hk;obtain ⟨k1,k2,k3,k4,k5⟩:=hk;have hm:=zdo i j (by omega)
  by_cases hij:i < j
  ·have hij':((i:Int) < j)=True:=eq_true (by omega)
   obtain ⟨z,hz⟩:=zj (i:=(i+j) / 2 - P.length) (l:=A) (by omega)
   have hz2:=hDA _ z hz;rw [show P.length+((i+j) / 2 - P.length)=(i+j) / 2 by omega] at hz2
   cases hcc:bfC c y z with
   | false=>
    have hc':=bf_f hcc;have qe:=aI qR (aI @hij' (aI @hm (aI @hN (aI @hyD (aI @hz2 (aI @hc' (aI @rtN @rtR)))))));have jA:=hf y z;refine gE2 ?_;refine ⟨((i+j) / 2+1,j),⟨by simp only;omega,by simp only;omega,k3,λw hw=>?_,k5⟩,by simp only;omega,by simp⟩
    obtain ⟨q,hq,hw⟩:=zcZ hw;have h2:=zmo hs sA (show q<=(i+j) / 2 - P.length by simp only at hq;omega) hw hz
    exact hs.nt _ _ _ hcc h2
   | true=>
    have hc':=bf_t hcc;have qe:=aI qR (aI @hij' (aI @hm (aI @hN (aI @hyD (aI @hz2 (aI @hc' (aI @rtN @rtR)))))));have jA:=hf y z;refine gE2 ?_;refine ⟨(i,(i+j) / 2),⟨k1,by simp only;omega,by simp only;omega,k4,λw hw=>?_⟩,by simp only;omega,by simp⟩
    obtain ⟨q,hq,hw⟩:=zc0 hw;have h2:=zmo hs sA hq hz hw;cases hh:bfC c y w with
    | true=>rfl
    | false=>rw [hs.nt _ _ _ hh h2] at hcc;cases hcc
  ·have e:i=j:=by omega
   subst e;have hij':((i:Int) < i)=False:=eq_false (by omega)
   have hmr:=zux k4 k5;generalize hq:i - P.length=K at k4 k5 hmr;have hi:i=P.length+K:=by omega
   subst hi;have qe:=aI qR (aI @hij' (aI @hN (aI @rtN @rtR)));refine gE2 ?_;refine zh (κ:=Nat) (λq=>⟨[(0,.row 900 N),(14,.p (.i .i64 (P.length+K:Nat))),(17,.p (.i .i64 (P.length+q:Nat))),(1000900,.row 900 N)],[(900,.row 194 7 ((wyD P y A S q).map Mov.pv) false)],[],false⟩) (λq=>K<=q/\q<=A.length) (λq=>q - K) A.length ?_ ?_ ?_
   ·refine gJ ?_;simp [<-e0,hN]
   ·constructor<;>omega
   ·intro q hqK;have hml:(wyD P y A S q).length=N:=by rw [zh0];omega
    by_cases hlt:K < q
    ·obtain ⟨q,rfl⟩:∃ q',q=q'+1:=⟨q - 1,by omega⟩
     obtain ⟨z,hz⟩:=zj (i:=q) (l:=A) (by omega)
     have j1:(((P.length+(q+1):Nat):Int) - 1).toNat=P.length+q:=by omega
     have h1:=zma (P:=P) (S:=S) (x:=y) (B:=A) (q:=q+1) (by omega)
     have h2:=zw1 (P:=P) (S:=S) (x:=y) hz;have h3:=zsB (P:=P) (S:=S) (x:=y) hz;have hlt':(((P.length+K:Nat):Int) < ((P.length+(q+1):Nat):Int))=True:=eq_true (by omega)
     have qe:=aI qR (aI @hml (aI @hlt' (aI @j1 (aI @h1 (aI @h2 (aI @rtN @rtR))))));refine gE2 ?_;exact ⟨q,by constructor<;>omega,by omega,by simp only [LV.p.injEq,PV.i.injEq,true_and];omega,by rw [<-h3,xbf,xbf],by rw [zh0];omega⟩
    ·have e:q=K:=by omega
     subst e;have hlt':(((P.length+q:Nat):Int) < ((P.length+q:Nat):Int))=False:=eq_false (by omega)
     have qe:=aI qR (aI @hml (aI @hlt' (aI @rtN @rtR)));refine gE2 ?_;rw [show wyD P y A S q=D' by rw [hD',hmr,wyD];simp]
     exact .inl (.mk0 (h2:=by simp only [qS,seval,keepG.eq_1,keepG.eq_2,gLV.eq_2]<;>simp [hN]))
end
section
variable {f:Nat} {c:Mov->Mov->Int}
def zsq (hf:∀ a b:Mov,Pure prog f [a.pv,b.pv] (.i .i64 (c a b))) (hs:SW (bfC c)):∀ (n:Nat) {D D':List Mov} {N:Nat} (P A B S:List Mov) (_:D.length=N) (_:D=P++(A++(B++S))) (_:D'=P++(mrg (bfC c) A B++S)) (_:srt (bfC c) A) (_:srt (bfC c) B) (_:0 < A.length) (_:0 < B.length) (_:A.length+B.length=n) (a m b:Int) (_:a=(P.length:Nat)) (_:m=(P.length+A.length:Nat)) (_:b=(P.length+A.length+B.length:Nat)) (_:N<=1000000),
  zbk prog 268 [.row 900 N,.p (.i .i64 a),.p (.i .i64 m),.p (.i .i64 b),.p (.fn (.func f) [] [])] [(900,.row 194 7 (D.map Mov.pv) false)] (.p (.tup [])) [(900,.row 194 7 (D'.map Mov.pv) false)]:=by
 intro n
 induction n using Nat.strongRecOn with
 | _ n ih=>
 intro D D' N P A B S hN hD hD' sA sB hA hB hn2 a m b ha hm hb hn
 by_cases h1A:A.length=1
 ·match A,h1A with
  | [x],_=>exact zv9 hf hs P B S x hN hD hD' sB a m b ha (by rw [hm];simp) (by rw [hb];simp) hn
 by_cases h1B:B.length=1
 ·match B,h1B with
  | [y],_=>exact zv8 hf hs P A S y hN hD hD' sA (by omega) a m b ha hm (by rw [hb];simp) hn
 subst ha hm hb;have hlen:N=P.length+(A.length+(B.length+S.length)):=by rw [<-hN,hD];simp
 have hlen':D'.length=N:=by rw [hD',hlen];simp [zbp];omega
 have hDA:∀ q z,A[q]?=some z->D[P.length+q]?=some z:=λq z hz=>by
  rw [hD,zae _ _ _ (xaa.1 hz).1,hz]
 have hDB:∀ q y,B[q]?=some y->D[P.length+A.length+q]?=some y:=λq y hy=>by
  have e:D=(P++A)++(B++S):=by rw [hD];simp
  rw [e,<-xad,zae _ _ _ (xaa.1 hy).1,hy]
 refine zD (cF func268 f268.eq_1) (by simp) (by simp [scPs,scP,zm,hN]) (by simp [scObj]) ⟨rfl,trivial⟩ (by simp [scObj]) (by simp [zcQ,zm,hN,hlen']) λX hX=>?_
 unfold zx ghO;have z1:(((P.length+A.length:Nat):Int) - (P.length:Nat)=1)=False:=eq_false (by omega)
 have z2:(((P.length+A.length+B.length:Nat):Int) - (P.length+A.length:Nat)=1)=False:=eq_false (by omega)
 have hmid:=zdo P.length (P.length+A.length+B.length) (by omega)
 obtain ⟨mid,hmd⟩:∃ mid,mid=(P.length+(P.length+A.length+B.length)) / 2:=⟨_,rfl⟩;rw [<-hmd] at hmid;obtain ⟨st,r0,hst⟩:∃ st r0:Nat,(mid < P.length+A.length/\st=mid+(P.length+A.length) - (P.length+A.length+B.length)/\r0=mid)\/(P.length+A.length<=mid/\st=P.length/\r0=P.length+A.length):=by
  by_cases h:mid < P.length+A.length
  ·exact ⟨_,_,.inl ⟨h,rfl,rfl⟩⟩
  ·exact ⟨_,_,.inr ⟨by omega,rfl,rfl⟩⟩
 have qe:=aI qR (aI @gLV.eq_2 @z1);repeat' first|refine gG ?_|show AK _;intro J Z|refine gJ ?_|omega|exact aT
 have qe:=aI qR (aI @gLV.eq_2 @z1);(refine gC ?_ ?_<;>intro hc<;>try contradiction)
 have qe:=aI qR (aI @gLV.eq_2 (aI @z1 @z2));repeat' first|refine gG ?_|show AK _;intro J Z|refine gJ ?_|omega|exact aT
 have qe:=aI qR (aI @gLV.eq_2 @z2);(refine gC ?_ ?_<;>intro hc<;>try contradiction)
 have qe:=aI qR @hmid;repeat' first|refine gG ?_|show AK _;intro J Z|refine gJ ?_|omega|exact aT
 refine zdx ⟨[(0,.row 900 N),(1,.p (.i .i64 (P.length:Nat))),(2,.p (.i .i64 (P.length+A.length:Nat))),(3,.p (.i .i64 (P.length+A.length+B.length:Nat))),(4,.p (.fn (.func f) [] [])),(18,.p (.i .i64 (mid:Nat))),(19,.p (.i .i64 (mid+(P.length+A.length):Nat))),(20,.p (.i .i64 (st:Nat))),(21,.p (.i .i64 (r0:Nat))),(1000900,.row 900 N)],[(900,.row 194 7 (D.map Mov.pv) false)],[],false⟩ ?_ ?_
 ·rcases hst with ⟨g1,g2,g3⟩|⟨g1,g2,g3⟩
  ·have hg:(((mid:Nat):Int) < (P.length+A.length:Nat))=True:=eq_true (by omega)
   have qe:=aI qR (aI @zdU @hg);refine gE2 ?_;subst g2 g3
   (repeat' apply And.intro)<;>first|rfl|(simp only [LV.p.injEq,PV.i.injEq,true_and];omega)|(exact xb7 hN.symm)|(rw [hN])
  ·have hg:(((mid:Nat):Int) < (P.length+A.length:Nat))=False:=eq_false (by omega)
   have qe:=aI qR (aI @zdU @hg);refine gE2 ?_;subst g2 g3
   (repeat' apply And.intro)<;>first|rfl|(simp only [LV.p.injEq,PV.i.injEq,true_and];omega)|(exact xb7 hN.symm)|(rw [hN])
 refine Stp.h ?_;have qe:=@qR;refine gE2 ?_;refine zh (κ:=Nat × Nat) (λk=>⟨[(0,.row 900 N),(1,.p (.i .i64 (P.length:Nat))),(2,.p (.i .i64 (P.length+A.length:Nat))),(3,.p (.i .i64 (P.length+A.length+B.length:Nat))),(4,.p (.fn (.func f) [] [])),(18,.p (.i .i64 (mid:Nat))),(19,.p (.i .i64 (mid+(P.length+A.length):Nat))),(20,.p (.i .i64 (k.1:Nat))),(21,.p (.i .i64 (k.2:Nat))),(22,.p (.i .i64 (mid+(P.length+A.length) - 1:Nat))),(1000900,.row 900 N)],[(900,.row 194 7 (D.map Mov.pv) false)],[],false⟩)
  (λk=>st<=k.1/\k.1<=k.2/\k.2<=r0/\(∀ a b,A[k.1 - P.length - 1]?=some a->B[mid - k.1]?=some b->0 < k.1 - P.length->bfC c b a=false)/\(∀ a b,A[k.2 - P.length]?=some a->B[mid - k.2 - 1]?=some b->0 < mid - k.2->bfC c b a=true)) (λk=>k.2 - k.1) (st,r0) ?_ ?_ ?_
 ·simp only [qS,seval];simp only [LV.p.injEq,PV.i.injEq,true_and];omega
 ·refine ⟨xap _,by simp only;omega,xap _,λa b h1 h2 h3=>?_,λa b h1 h2 h3=>?_⟩
  ·exfalso
   have h1:=(xaa.1 h1).1;have h2:=(xaa.1 h2).1;simp only at h1 h2 h3
   omega
  ·exfalso
   have h1:=(xaa.1 h1).1;have h2:=(xaa.1 h2).1;simp only at h1 h2 h3
   omega
 ·intro k hk;obtain ⟨s,r⟩:=k;simp only at hk;obtain ⟨k1,k2,k3,k4,k5⟩:=hk;have hm:=zdo s r (by omega)
  by_cases hsr:s < r
  ·have hsr':((s:Int) < r)=True:=eq_true (by omega)
   obtain ⟨v,hv⟩:=zj (i:=(s+r) / 2 - P.length) (l:=A) (by omega)
   obtain ⟨u,hu⟩:=zj (i:=mid - (s+r) / 2 - 1) (l:=B) (by omega)
   have hv2:=hDA _ v hv;have hu2:=hDB _ u hu;rw [show P.length+((s+r) / 2 - P.length)=(s+r) / 2 by omega] at hv2
   have j1:(((mid+(P.length+A.length) - 1:Nat):Int) - (((s+r) / 2:Nat):Int)).toNat=P.length+A.length+(mid - (s+r) / 2 - 1):=by omega
   cases hcc:bfC c u v with
   | false=>
    have hc':=bf_f hcc;have qe:=aI qR (aI @hsr' (aI @hm (aI @hN (aI @j1 (aI @hv2 (aI @hu2 (aI @hc' (aI @rtN @rtR))))))));have jA:=hf u v;refine gE2 ?_;refine ⟨((s+r) / 2+1,r),⟨by simp only;omega,by simp only;omega,k3,λa b h1 h2 h3=>?_,k5⟩,by simp only;omega,by simp,rfl⟩
    simp only at h1 h2;rw [show (s+r) / 2+1 - P.length - 1=(s+r) / 2 - P.length by omega,hv] at h1
    rw [show mid - ((s+r) / 2+1)=mid - (s+r) / 2 - 1 by omega,hu] at h2
    cases h1;cases h2;exact hcc
   | true=>
    have hc':=bf_t hcc;have qe:=aI qR (aI @hsr' (aI @hm (aI @hN (aI @j1 (aI @hv2 (aI @hu2 (aI @hc' (aI @rtN @rtR))))))));have jA:=hf u v;refine gE2 ?_;refine ⟨(s,(s+r) / 2),⟨k1,by simp only;omega,by simp only;omega,k4,λa b h1 h2 h3=>?_⟩,by simp only;omega,rfl,rfl⟩
    simp only at h1 h2;rw [hv] at h1;rw [hu] at h2;cases h1;cases h2;exact hcc
  ·have e:s=r:=by omega
   subst e;have hsr':((s:Int) < s)=False:=eq_false (by omega)
   have lA1:(A.take (s - P.length)).length=s - P.length:=by rw [xan];omega
   have lB1:(B.take (mid - s)).length=mid - s:=by rw [xan];omega
   have lA2:(A.drop (s - P.length)).length=P.length+A.length - s:=by rw [xav];omega
   have lB2:(B.drop (mid - s)).length=P.length+A.length+B.length+s - (mid+(P.length+A.length)):=by rw [xav];omega
   have hlo:=zqS hs sA sB (s:=s - P.length) (e:=mid - s) (by omega) k4
   have hhi:=zm7 hs sA sB (s:=s - P.length) (e:=mid - s) (by omega) k5
   have hspl:=zah (lt:=bfC c) _ _ _ _ hlo hhi;rw [xaq,xaq] at hspl;have sA1:srt (bfC c) (A.take (s - P.length)):=sA.sublist (List.take_sublist _ _);have sA2:srt (bfC c) (A.drop (s - P.length)):=sA.sublist (List.drop_sublist _ _);have sB1:srt (bfC c) (B.take (mid - s)):=sB.sublist (List.take_sublist _ _);have sB2:srt (bfC c) (B.drop (mid - s)):=sB.sublist (List.drop_sublist _ _);have hD2:D=(P++A.take (s - P.length))++(A.drop (s - P.length)++(B.take (mid - s)++(B.drop (mid - s)++S))):=by
    rw [hD,xak,<-xak (A.take _),xaq,<-xak (B.take _),xaq]
   have lE1:(P++(A.take (s - P.length)++(B.take (mid - s)++(A.drop (s - P.length)++(B.drop (mid - s)++S))))).length=N:=by simp only [xad,lA1,lA2,lB1,lB2];omega
   have lE2:(P++(mrg (bfC c) (A.take (s - P.length)) (B.take (mid - s))++(A.drop (s - P.length)++(B.drop (mid - s)++S)))).length=N:=by simp only [xad,zbp,lA1,lA2,lB1,lB2];omega
   have hE3:D'=(P++mrg (bfC c) (A.take (s - P.length)) (B.take (mid - s)))++(mrg (bfC c) (A.drop (s - P.length)) (B.drop (mid - s))++S):=by rw [hD',hspl];simp only [xak]
   have lM:(P++mrg (bfC c) (A.take (s - P.length)) (B.take (mid - s))).length=mid:=by simp only [xad,zbp,lA1,lB1];omega
   have eEnd:((mid+(P.length+A.length):Nat):Int) - (s:Nat)=((mid+(P.length+A.length) - s:Nat):Int):=by omega
   have qe:=aI qR (aI @hsr' @hN);repeat' first|refine gG ?_|show AK _;intro J Z|refine gJ ?_|omega|exact aT
   have qe:=aI qR @hsr';(refine gC ?_ ?_<;>intro hc<;>try contradiction)
   have qe:=aI qR (aI @hsr' (aI @hN @eEnd));repeat' first|refine gG ?_|show AK _;intro J Z|refine gJ ?_|omega|exact aT
   refine zdx ⟨[(0,.row 900 N),(1,.p (.i .i64 (P.length:Nat))),(2,.p (.i .i64 (P.length+A.length:Nat))),(3,.p (.i .i64 (P.length+A.length+B.length:Nat))),(4,.p (.fn (.func f) [] [])),(18,.p (.i .i64 (mid:Nat))),(20,.p (.i .i64 (s:Nat))),(24,.p (.i .i64 (mid+(P.length+A.length) - s:Nat))),(1000900,.row 900 N)],[(900,.row 194 7 ((P++(A.take (s - P.length)++(B.take (mid - s)++(A.drop (s - P.length)++(B.drop (mid - s)++S))))).map Mov.pv) false)],[],false⟩ ?_ ?_
   ·by_cases h1:s < P.length+A.length/\0 < mid - s
    ·have u1:((s:Int) < (P.length+A.length:Nat))=True:=eq_true (by omega)
     have u2:(((P.length+A.length:Nat):Int) < (mid+(P.length+A.length) - s:Nat))=True:=eq_true (by omega)
     have qe:=aI qR (aI @zdU (aI @u1 (aI @u2 (aI @hN @qN))));repeat' first|refine gC ?_ ?_<;>intro hc<;>try contradiction|refine zf [] (zzW f (D':=(P++(A.take (s - P.length)++(B.take (mid - s)++(A.drop (s - P.length)++(B.drop (mid - s)++S)))))) (P++A.take (s - P.length)) (A.drop (s - P.length)) (B.take (mid - s)) (B.drop (mid - s)++S) hN hD2 (by simp only [xak]) (by omega) (by omega) (s:Nat) (P.length+A.length:Nat) (mid+(P.length+A.length) - s:Nat) (by simp only [xad,lA1];omega) (by simp only [xad,lA1,lA2];omega) (by simp only [xad,lA1,lA2,lB1];omega) hn) ?_|refine gG ?_|show AK _;intro J Z|refine gJ ?_|omega|exact aT
     skip
    ·have hDE:D=(P++(A.take (s - P.length)++(B.take (mid - s)++(A.drop (s - P.length)++(B.drop (mid - s)++S))))):=by
      rw [hD2]
      rcases (show s=P.length+A.length\/mid - s=0 by omega) with e|e
      ·rw [show A.drop (s - P.length)=[] from xbD (by omega)];simp
      ·rw [e];simp
     rw [<-hDE]
     by_cases h2:s < P.length+A.length
     ·have u1:((s:Int) < (P.length+A.length:Nat))=True:=eq_true (by omega)
      have u2:(((P.length+A.length:Nat):Int) < (mid+(P.length+A.length) - s:Nat))=False:=eq_false (by omega)
      have qe:=aI qR (aI @zdU (aI @u1 (aI @u2 @hN)));repeat' first|refine gC ?_ ?_<;>intro hc<;>try contradiction|refine gG ?_|show AK _;intro J Z|refine gJ ?_|omega|exact aT
      skip
     ·have u1:((s:Int) < (P.length+A.length:Nat))=False:=eq_false (by omega)
      have qe:=aI qR (aI @zdU (aI @u1 @hN));repeat' first|refine gC ?_ ?_<;>intro hc<;>try contradiction|refine gG ?_|show AK _;intro J Z|refine gJ ?_|omega|exact aT
      skip
   refine Stp.h ?_;have qe:=aI qR @hN;repeat' first|refine gG ?_|show AK _;intro J Z|refine gJ ?_|omega|exact aT
   refine zdx ⟨[(0,.row 900 N),(1,.p (.i .i64 (P.length:Nat))),(2,.p (.i .i64 (P.length+A.length:Nat))),(3,.p (.i .i64 (P.length+A.length+B.length:Nat))),(4,.p (.fn (.func f) [] [])),(18,.p (.i .i64 (mid:Nat))),(20,.p (.i .i64 (s:Nat))),(24,.p (.i .i64 (mid+(P.length+A.length) - s:Nat))),(1000900,.row 900 N)],[(900,.row 194 7 ((P++(mrg (bfC c) (A.take (s - P.length)) (B.take (mid - s))++(A.drop (s - P.length)++(B.drop (mid - s)++S)))).map Mov.pv) false)],[],false⟩ ?_ ?_
   ·by_cases h1:P.length < s/\s < mid
    ·have u1:(((P.length:Nat):Int) < (s:Nat))=True:=eq_true (by omega)
     have u2:(((s:Nat):Int) < (mid:Nat))=True:=eq_true (by omega)
     have qe:=aI qR (aI @zdU (aI @u1 (aI @u2 (aI @lE1 @qN))));have jA:SX [] _:=⟨ih (s - P.length+(mid - s)) (by omega) (D:=(P++(A.take (s - P.length)++(B.take (mid - s)++(A.drop (s - P.length)++(B.drop (mid - s)++S)))))) (D':=(P++(mrg (bfC c) (A.take (s - P.length)) (B.take (mid - s))++(A.drop (s - P.length)++(B.drop (mid - s)++S))))) P (A.take (s - P.length)) (B.take (mid - s)) (A.drop (s - P.length)++(B.drop (mid - s)++S)) lE1 rfl rfl sA1 sB1 (by omega) (by omega) (by omega) (P.length:Nat) (s:Nat) (mid:Nat) rfl (by omega) (by omega) hn⟩;refine gE2 ?_
     simp only [zbp,lA1,lA2,lB1,lB2];omega
    ·have hDE:(P++(A.take (s - P.length)++(B.take (mid - s)++(A.drop (s - P.length)++(B.drop (mid - s)++S)))))=(P++(mrg (bfC c) (A.take (s - P.length)) (B.take (mid - s))++(A.drop (s - P.length)++(B.drop (mid - s)++S)))):=by
      rcases (show s - P.length=0\/mid - s=0 by omega) with e|e
      ·rw [e];simp [zai]
      ·rw [e];simp [zaE]
     rw [<-hDE]
     by_cases h2:P.length < s
     ·have u1:(((P.length:Nat):Int) < (s:Nat))=True:=eq_true (by omega)
      have u2:(((s:Nat):Int) < (mid:Nat))=False:=eq_false (by omega)
      have qe:=aI qR (aI @zdU (aI @u1 (aI @u2 @lE1)));repeat' first|refine gC ?_ ?_<;>intro hc<;>try contradiction|refine gG ?_|show AK _;intro J Z|refine gJ ?_|omega|exact aT
      skip
     ·have u1:(((P.length:Nat):Int) < (s:Nat))=False:=eq_false (by omega)
      have qe:=aI qR (aI @zdU (aI @u1 @lE1));repeat' first|refine gC ?_ ?_<;>intro hc<;>try contradiction|refine gG ?_|show AK _;intro J Z|refine gJ ?_|omega|exact aT
      skip
   refine Stp.h ?_;have qe:=aI qR @hN;repeat' first|refine gG ?_|show AK _;intro J Z|refine gJ ?_|omega|exact aT
   by_cases h1:mid < mid+(P.length+A.length) - s/\mid+(P.length+A.length) - s < P.length+A.length+B.length
   ·have u1:(((mid:Nat):Int) < (mid+(P.length+A.length) - s:Nat))=True:=eq_true (by omega)
    have u2:(((mid+(P.length+A.length) - s:Nat):Int) < (P.length+A.length+B.length:Nat))=True:=eq_true (by omega)
    have qe:=aI qR (aI @u1 (aI @u2 (aI @lE2 (aI @qN (aI @rtN @rtR)))));have jA:SX [] _:=⟨ih (P.length+A.length - s+(P.length+A.length+B.length+s - (mid+(P.length+A.length)))) (by omega) (D:=(P++(mrg (bfC c) (A.take (s - P.length)) (B.take (mid - s))++(A.drop (s - P.length)++(B.drop (mid - s)++S))))) (D':=D') (P++mrg (bfC c) (A.take (s - P.length)) (B.take (mid - s))) (A.drop (s - P.length)) (B.drop (mid - s)) S lE2 (by simp only [xak]) hE3 sA2 sB2 (by omega) (by omega) (by omega) (mid:Nat) (mid+(P.length+A.length) - s:Nat) (P.length+A.length+B.length:Nat) (by rw [lM]) (by rw [lM,lA2];omega) (by rw [lM,lA2,lB2];omega) hn⟩;refine gE2 ?_
    all_goals first|exact .inl (.mk0 (h2:=by simp only [qS,seval,keepG.eq_1,keepG.eq_2,gLV.eq_2]<;>simp [hN]))
   ·have hDE:(P++(mrg (bfC c) (A.take (s - P.length)) (B.take (mid - s))++(A.drop (s - P.length)++(B.drop (mid - s)++S))))=D':=by
     rw [hE3]
     rcases (show P.length+A.length - s=0\/P.length+A.length+B.length+s - (mid+(P.length+A.length))=0 by omega) with e|e
     ·rw [xcc.1 (lA2.trans e),zai];simp
     ·rw [xcc.1 (lB2.trans e),zaE];simp
    rw [hDE];rw [hDE] at lE2
    by_cases h2:mid < mid+(P.length+A.length) - s
    ·have u1:(((mid:Nat):Int) < (mid+(P.length+A.length) - s:Nat))=True:=eq_true (by omega)
     have u2:(((mid+(P.length+A.length) - s:Nat):Int) < (P.length+A.length+B.length:Nat))=False:=eq_false (by omega)
     have qe:=aI qR (aI @u1 (aI @u2 (aI @lE2 (aI @rtN @rtR))));refine gE2 ?_
     all_goals first|exact .inl (.mk0 (h2:=by simp only [qS,seval,keepG.eq_1,keepG.eq_2,gLV.eq_2]<;>simp [hN]))
    ·have u1:(((mid:Nat):Int) < (mid+(P.length+A.length) - s:Nat))=False:=eq_false (by omega)
     have qe:=aI qR (aI @u1 (aI @lE2 (aI @rtN @rtR)));refine gE2 ?_
     all_goals first|exact .inl (.mk0 (h2:=by simp only [qS,seval,keepG.eq_1,keepG.eq_2,gLV.eq_2]<;>simp [hN]))
end
def zeg (P:List OptN) (x:OptN) (B S:List OptN) (q:Nat):List OptN:=P++(B.take q++(x::(B.drop q++S)))
def zfH (q:Nat):(zeg P x B S q).length=P.length+(B.length+1+S.length):=by
 simp only [zeg,xad,xaz,xan,xav];omega
def zh1 (hq:q<=B.length):(zeg P x B S q)[P.length+q]?=some x:=by
 have hl:(P++B.take q).length=P.length+q:=by simp;omega
 rw [zeg,<-xak,<-hl];have:=zae (P++B.take q) [x] (B.drop q++S) (j:=0) (by simp)
 simpa using this
def zsC (hy:B[q]?=some y):(zeg P x B S q)[P.length+(q+1)]?=some y:=by
 have hq:=(xaa.1 hy).1;have e:zeg P x B S q=(P++(B.take q++[x]))++(B.drop q++S):=by simp [zeg]
 have hl:(P++(B.take q++[x])).length=P.length+(q+1):=by simp;omega
 rw [e,<-hl];have:=zae (P++(B.take q++[x])) (B.drop q) S (j:=0) (by simp;omega)
 rw [xbt] at this;rw [this,xaY,xbt,hy]
def zsD (hy:B[q]?=some y):(zeg P x B S (q+1))[P.length+q]?=some y:=by
 have hq:=(xaa.1 hy).1;have:=zae P (B.take (q+1)) (x::(B.drop (q+1)++S)) (j:=q) (by simp;omega)
 rw [zeg,this,xaQ,if_pos (by omega),hy]
def zhq (hy:B[q]?=some y):zeg P x B S q=(P++B.take q)++([x,y]++(B.drop (q+1)++S))/\zeg P x B S (q+1)=(P++B.take q)++([y,x]++(B.drop (q+1)++S)):=by
 have hq:=(xaa.1 hy).1;refine ⟨?_,?_⟩
 ·rw [zeg,xaE hq,(xaa.1 hy).2];simp
 ·rw [zeg,xaW,hy];simp
def zwZ (hy:B[q]?=some y):((zeg P x B S q).set (P.length+q) y).set (P.length+(q+1)) x=zeg P x B S (q+1):=by
 have hq:=(xaa.1 hy).1;obtain ⟨e1,e2⟩:=zhq (P:=P) (S:=S) (x:=x) hy;have hl:(P++B.take q).length=P.length+q:=by simp;omega
 rw [e1,e2,<-xbA,<-hl];have h1:=za6 (P++B.take q) [x,y] (B.drop (q+1)++S) (j:=0) y (by simp)
 have h2:=za6 (P++B.take q) [y,y] (B.drop (q+1)++S) (j:=1) x (by simp)
 simp only [xbt] at h1;rw [h1];exact h2
def zpi (hy:B[q]?=some y):((zeg P x B S (q+1)).set (P.length+(q+1)) y).set (P.length+q) x=zeg P x B S q:=by
 have hq:=(xaa.1 hy).1;obtain ⟨e1,e2⟩:=zhq (P:=P) (S:=S) (x:=x) hy;have hl:(P++B.take q).length=P.length+q:=by simp;omega
 rw [e1,e2,<-xbA,<-hl];have h1:=za6 (P++B.take q) [y,x] (B.drop (q+1)++S) (j:=1) y (by simp)
 have h2:=za6 (P++B.take q) [y,y] (B.drop (q+1)++S) (j:=0) x (by simp)
 simp only [xbt] at h2;rw [h1];exact h2
def zqK (h1:∀ y ∈ B.take k,lt y x=true) (h2:∀ y ∈ B.drop k,lt y x=false):mrg lt [x] B=B.take k++x::B.drop k:=by
 have:=zah [] [x] (B.take k) (B.drop k) (lt:=lt) (by simp) (λb hb a ha=>by rw [xaX.1 ha];exact h1 b hb)
 rw [xaq,zai] at this;rw [xaL] at this;rw [this];have:=zah [x] [] [] (B.drop k) (lt:=lt) (λa ha b hb=>by rw [xaX.1 ha];exact h2 b hb) (by simp)
 rw [xar,xaL,zaE,zai] at this;rw [this];rfl
def zqJ {A:List OptN} (h1:∀ z ∈ A.take k,lt y z=false) (h2:∀ z ∈ A.drop k,lt y z=true):mrg lt A [y]=A.take k++y::A.drop k:=by
 have:=zah (A.take k) (A.drop k) [] [y] (lt:=lt) (λa ha b hb=>by rw [xaX.1 hb];exact h1 a ha) (by simp)
 rw [xaq,xaL,zaE] at this;rw [this];have:=zah [] (A.drop k) [y] [] (lt:=lt) (by simp) (λb hb a ha=>by rw [xaX.1 hb];exact h2 a ha)
 rw [xar,xaL,zai,zaE] at this;rw [this];rfl
def zh7 (hs:SW lt) {L:List OptN} (h:srt lt L) {i j:Nat} (hij:i<=j) (ha:L[i]?=some a) (hb:L[j]?=some b):lt b a=false:=by
 by_cases e:i=j
 ·subst e;rw [ha] at hb;cases hb;cases hh:lt a a
  ·rfl
  ·rw [<-hs.asym _ _ hh,hh]
 ·have hi:=(xaa.1 ha).1;have hj:=(xaa.1 hb).1;have:=xa1.1 h i j hi hj (by omega)
  rw [xac hi] at ha;rw [xac hj] at hb;rw [xa5 ha,xa5 hb] at this;exact this
section
variable {f:Nat} {cs:List PV} {c:OptN->OptN->Int}
def zzN (h:zaJ c a b=true):(c a b < 0)=True:=eq_true (by simpa [zaJ] using h)
def zzO (h:zaJ c a b=false):(c a b < 0)=False:=eq_false (by simpa [zaJ] using h)
def zsj (hf:∀ a b:OptN,Pure prog f ([]++[a.pv,b.pv]++cs) (.i .i64 (c a b))) (hs:SW (zaJ c)) (P B S:List OptN) (x:OptN) (hN:D.length=N) (hD:D=P++([x]++(B++S))) (hD':D'=P++(mrg (zaJ c) [x] B++S)) (sB:srt (zaJ c) B) (a m b:Int) (ha:a=(P.length:Nat)) (hm:m=(P.length+1:Nat)) (hb:b=(P.length+1+B.length:Nat)) (hn:N<=1000000) :
  zbk prog 263 [.row 900 N,.p (.i .i64 a),.p (.i .i64 m),.p (.i .i64 b),.p (.fn (.func f) [] cs)] [(900,.row 152 2 (D.map OptN.pv) false)] (.p (.tup [])) [(900,.row 152 2 (D'.map OptN.pv) false)]:=by
 subst ha hm hb;have hlen:N=P.length+(1+(B.length+S.length)):=by rw [<-hN,hD];simp only [xad,xaz,xbB]
 have hlen':D'.length=N:=by rw [hD',hlen];simp [zbp];omega
 have e0:D=zeg P x B S 0:=by rw [hD,zeg];simp
 have hx:D[P.length]?=some x:=by rw [e0];exact zh1 (q:=0) (by omega)
 have hDB:∀ q y,B[q]?=some y->D[P.length+1+q]?=some y:=λq y hy=>by
  have hq:=(xaa.1 hy).1;have e:D=(P++[x])++(B++S):=by rw [hD];simp
  have hl:(P++[x]).length=P.length+1:=by simp
  rw [e,<-hl,zae _ _ _ hq,hy]
 refine zD (cF func263 f263.eq_1) (by simp) (by simp [scPs,scP,zm,hN]) (by simp [scObj]) ⟨rfl,trivial⟩ (by simp [scObj]) (by simp [zcQ,zm,hN,hlen']) λX hX=>?_
 unfold zx ghO;have z1:(((P.length+1:Nat):Int) - (P.length:Nat)=1)=True:=eq_true (by omega)
 have qe:=aI qR (aI @gLV.eq_2 @z1);refine gE2 ?_;refine zh (κ:=Nat × Nat) (λk=>⟨[(0,.row 900 N),(1,.p (.i .i64 (P.length:Nat))),(2,.p (.i .i64 (P.length+1:Nat))),(3,.p (.i .i64 (P.length+1+B.length:Nat))),(4,.p (.fn (.func f) [] cs)),(10,.p (.i .i64 (k.1:Nat))),(11,.p (.i .i64 (k.2:Nat))),(1000900,.row 900 N)],[(900,.row 152 2 (D.map OptN.pv) false)],[],false⟩)
  (λk=>P.length+1<=k.1/\k.1<=k.2/\k.2<=P.length+1+B.length/\(∀ y ∈ B.take (k.1 - (P.length+1)),zaJ c y x=true)/\∀ y ∈ B.drop (k.2 - (P.length+1)),zaJ c y x=false) (λk=>k.2 - k.1) (P.length+1,P.length+1+B.length) ?_ ?_ ?_
 ·simp only [qS,seval,gLV.eq_2]<;>simp [hN]
 ·refine ⟨by simp,by simp,by simp,?_,?_⟩
  ·simp
  ·simp
 ·intro k hk;obtain ⟨i,j⟩:=k;simp only at hk;obtain ⟨k1,k2,k3,k4,k5⟩:=hk;have hm:=zdo i j (by omega)
  by_cases hij:i < j
  ·have hij':((i:Int) < j)=True:=eq_true (by omega)
   obtain ⟨y,hy⟩:=zj (i:=(i+j) / 2 - (P.length+1)) (l:=B) (by omega)
   have hy2:=hDB _ y hy;rw [show P.length+1+((i+j) / 2 - (P.length+1))=(i+j) / 2 by omega] at hy2
   cases hcc:zaJ c y x with
   | true=>
    have hc':=zzN hcc;have qe:=aI qR (aI @hij' (aI @hm (aI @hN (aI @hx (aI @hy2 (aI @hc' (aI @rtN @rtR)))))));have jA:=hf y x;refine gE2 ?_;refine ⟨((i+j) / 2+1,j),⟨by simp only;omega,by simp only;omega,k3,λz hz=>?_,k5⟩,by simp only;omega,by simp⟩
    obtain ⟨q,hq,hz⟩:=zcZ hz;cases hh:zaJ c z x with
    | true=>rfl
    | false=>
     have h2:=zh7 hs sB (show q<=(i+j) / 2 - (P.length+1) by simp only at hq;omega) hz hy
     rw [hs.nt _ _ _ h2 hh] at hcc;cases hcc
   | false=>
    have hc':=zzO hcc;have qe:=aI qR (aI @hij' (aI @hm (aI @hN (aI @hx (aI @hy2 (aI @hc' (aI @rtN @rtR)))))));have jA:=hf y x;refine gE2 ?_;refine ⟨(i,(i+j) / 2),⟨k1,by simp only;omega,by simp only;omega,k4,λz hz=>?_⟩,by simp only;omega,by simp⟩
    obtain ⟨q,hq,hz⟩:=zc0 hz;have h2:=zh7 hs sB hq hy hz;exact hs.nt _ _ _ h2 hcc
  ·have e:i=j:=by omega
   subst e;have hij':((i:Int) < i)=False:=eq_false (by omega)
   have hmr:=zqK k4 k5;generalize hq:i - (P.length+1)=K at k4 k5 hmr;have hi:i=P.length+1+K:=by omega
   subst hi;have qe:=aI qR (aI @hij' (aI @hN (aI @rtN @rtR)));refine gE2 ?_;refine zh (κ:=Nat) (λq=>⟨[(0,.row 900 N),(1,.p (.i .i64 (P.length:Nat))),(10,.p (.i .i64 (P.length+1+K:Nat))),(13,.p (.i .i64 (P.length+q:Nat))),(1000900,.row 900 N)],[(900,.row 152 2 ((zeg P x B S q).map OptN.pv) false)],[],false⟩) (λq=>q<=K) (λq=>K - q) 0 ?_ ?_ ?_
   ·refine gJ ?_;simp [<-e0,hN]
   ·simp
   ·intro q hqK;have hml:(zeg P x B S q).length=N:=by rw [zfH];omega
    have j1:(((P.length+q:Nat):Int)+1).toNat=P.length+(q+1):=by omega
    by_cases hlt:q < K
    ·obtain ⟨y,hy⟩:=zj (i:=q) (l:=B) (by omega)
     have h1:=zh1 (P:=P) (S:=S) (x:=x) (B:=B) (q:=q) (by omega)
     have h2:=zsC (P:=P) (S:=S) (x:=x) hy;have h3:=zwZ (P:=P) (S:=S) (x:=x) hy;have hlt':(((P.length+q:Nat):Int) < ((P.length+1+K:Nat):Int) - 1)=True:=eq_true (by omega)
     have qe:=aI qR (aI @hml (aI @hlt' (aI @j1 (aI @h1 (aI @h2 (aI @rtN @rtR))))));refine gE2 ?_;exact ⟨q+1,by omega,by omega,by simp only [LV.p.injEq,PV.i.injEq,true_and];omega,by rw [<-h3,xbf,xbf],by rw [zfH];omega⟩
    ·have e:q=K:=by omega
     subst e;have hlt':(((P.length+q:Nat):Int) < ((P.length+1+q:Nat):Int) - 1)=False:=eq_false (by omega)
     have qe:=aI qR (aI @hml (aI @hlt' (aI @rtN @rtR)));refine gE2 ?_;rw [show zeg P x B S q=D' by rw [hD',hmr,zeg];simp]
     exact .inl (.mk0 (h2:=by simp only [qS,seval,keepG.eq_1,keepG.eq_2,gLV.eq_2]<;>simp [hN]))
end
section
variable {f:Nat} {cs:List PV} {c:OptN->OptN->Int}
def zsi (hf:∀ a b:OptN,Pure prog f ([]++[a.pv,b.pv]++cs) (.i .i64 (c a b))) (hs:SW (zaJ c)) (P A S:List OptN) (y:OptN) (hN:D.length=N) (hD:D=P++(A++([y]++S))) (hD':D'=P++(mrg (zaJ c) A [y]++S)) (sA:srt (zaJ c) A) (h1A:1 < A.length) (a m b:Int) (ha:a=(P.length:Nat)) (hm:m=(P.length+A.length:Nat)) (hb:b=(P.length+A.length+1:Nat)) (hn:N<=1000000) :
  zbk prog 263 [.row 900 N,.p (.i .i64 a),.p (.i .i64 m),.p (.i .i64 b),.p (.fn (.func f) [] cs)] [(900,.row 152 2 (D.map OptN.pv) false)] (.p (.tup [])) [(900,.row 152 2 (D'.map OptN.pv) false)]:=by
 subst ha hm hb;have hlen:N=P.length+(A.length+(1+S.length)):=by rw [<-hN,hD];simp only [xad,xaz,xbB]
 have hlen':D'.length=N:=by rw [hD',hlen];simp [zbp];omega
 have e0:D=zeg P y A S A.length:=by rw [hD,zeg];simp
 have hyD:D[P.length+A.length]?=some y:=by rw [e0];exact zh1 (xap _)
 have hDA:∀ q z,A[q]?=some z->D[P.length+q]?=some z:=λq z hz=>by
  rw [hD,zae _ _ _ (xaa.1 hz).1,hz]
 refine zD (cF func263 f263.eq_1) (by simp) (by simp [scPs,scP,zm,hN]) (by simp [scObj]) ⟨rfl,trivial⟩ (by simp [scObj]) (by simp [zcQ,zm,hN,hlen']) λX hX=>?_
 unfold zx ghO;have z1:(((P.length+A.length:Nat):Int) - (P.length:Nat)=1)=False:=eq_false (by omega)
 have z2:(((P.length+A.length+1:Nat):Int) - (P.length+A.length:Nat)=1)=True:=eq_true (by omega)
 have qe:=aI qR (aI @gLV.eq_2 (aI @z1 @z2));refine gE2 ?_;refine zh (κ:=Nat × Nat) (λk=>⟨[(0,.row 900 N),(1,.p (.i .i64 (P.length:Nat))),(2,.p (.i .i64 (P.length+A.length:Nat))),(4,.p (.fn (.func f) [] cs)),(14,.p (.i .i64 (k.1:Nat))),(15,.p (.i .i64 (k.2:Nat))),(1000900,.row 900 N)],[(900,.row 152 2 (D.map OptN.pv) false)],[],false⟩)
  (λk=>P.length<=k.1/\k.1<=k.2/\k.2<=P.length+A.length/\(∀ z ∈ A.take (k.1 - P.length),zaJ c y z=false)/\∀ z ∈ A.drop (k.2 - P.length),zaJ c y z=true) (λk=>k.2 - k.1) (P.length,P.length+A.length) ?_ ?_ ?_
 ·simp only [qS,seval,gLV.eq_2]<;>simp [hN]
 ·refine ⟨by simp,by simp,by simp,?_,?_⟩
  ·simp
  ·simp
 ·intro k hk;obtain ⟨i,j⟩:=k;simp only at hk;obtain ⟨k1,k2,k3,k4,k5⟩:=hk;have hm:=zdo i j (by omega)
  by_cases hij:i < j
  ·have hij':((i:Int) < j)=True:=eq_true (by omega)
   obtain ⟨z,hz⟩:=zj (i:=(i+j) / 2 - P.length) (l:=A) (by omega)
   have hz2:=hDA _ z hz;rw [show P.length+((i+j) / 2 - P.length)=(i+j) / 2 by omega] at hz2
   cases hcc:zaJ c y z with
   | false=>
    have hc':=zzO hcc;have qe:=aI qR (aI @hij' (aI @hm (aI @hN (aI @hyD (aI @hz2 (aI @hc' (aI @rtN @rtR)))))));have jA:=hf y z;refine gE2 ?_;refine ⟨((i+j) / 2+1,j),⟨by simp only;omega,by simp only;omega,k3,λw hw=>?_,k5⟩,by simp only;omega,by simp⟩
    obtain ⟨q,hq,hw⟩:=zcZ hw;have h2:=zh7 hs sA (show q<=(i+j) / 2 - P.length by simp only at hq;omega) hw hz
    exact hs.nt _ _ _ hcc h2
   | true=>
    have hc':=zzN hcc;have qe:=aI qR (aI @hij' (aI @hm (aI @hN (aI @hyD (aI @hz2 (aI @hc' (aI @rtN @rtR)))))));have jA:=hf y z;refine gE2 ?_;refine ⟨(i,(i+j) / 2),⟨k1,by simp only;omega,by simp only;omega,k4,λw hw=>?_⟩,by simp only;omega,by simp⟩
    obtain ⟨q,hq,hw⟩:=zc0 hw;have h2:=zh7 hs sA hq hz hw;cases hh:zaJ c y w with
    | true=>rfl
    | false=>rw [hs.nt _ _ _ hh h2] at hcc;cases hcc
  ·have e:i=j:=by omega
   subst e;have hij':((i:Int) < i)=False:=eq_false (by omega)
   have hmr:=zqJ k4 k5;generalize hq:i - P.length=K at k4 k5 hmr;have hi:i=P.length+K:=by omega
   subst hi;have qe:=aI qR (aI @hij' (aI @hN (aI @rtN @rtR)));refine gE2 ?_;refine zh (κ:=Nat) (λq=>⟨[(0,.row 900 N),(14,.p (.i .i64 (P.length+K:Nat))),(17,.p (.i .i64 (P.length+q:Nat))),(1000900,.row 900 N)],[(900,.row 152 2 ((zeg P y A S q).map OptN.pv) false)],[],false⟩) (λq=>K<=q/\q<=A.length) (λq=>q - K) A.length ?_ ?_ ?_
   ·refine gJ ?_;simp [<-e0,hN]
   ·constructor<;>omega
   ·intro q hqK;have hml:(zeg P y A S q).length=N:=by rw [zfH];omega
    by_cases hlt:K < q
    ·obtain ⟨q,rfl⟩:∃ q',q=q'+1:=⟨q - 1,by omega⟩
     obtain ⟨z,hz⟩:=zj (i:=q) (l:=A) (by omega)
     have j1:(((P.length+(q+1):Nat):Int) - 1).toNat=P.length+q:=by omega
     have h1:=zh1 (P:=P) (S:=S) (x:=y) (B:=A) (q:=q+1) (by omega)
     have h2:=zsD (P:=P) (S:=S) (x:=y) hz;have h3:=zpi (P:=P) (S:=S) (x:=y) hz;have hlt':(((P.length+K:Nat):Int) < ((P.length+(q+1):Nat):Int))=True:=eq_true (by omega)
     have qe:=aI qR (aI @hml (aI @hlt' (aI @j1 (aI @h1 (aI @h2 (aI @rtN @rtR))))));refine gE2 ?_;exact ⟨q,by constructor<;>omega,by omega,by simp only [LV.p.injEq,PV.i.injEq,true_and];omega,by rw [<-h3,xbf,xbf],by rw [zfH];omega⟩
    ·have e:q=K:=by omega
     subst e;have hlt':(((P.length+q:Nat):Int) < ((P.length+q:Nat):Int))=False:=eq_false (by omega)
     have qe:=aI qR (aI @hml (aI @hlt' (aI @rtN @rtR)));refine gE2 ?_;rw [show zeg P y A S q=D' by rw [hD',hmr,zeg];simp]
     exact .inl (.mk0 (h2:=by simp only [qS,seval,keepG.eq_1,keepG.eq_2,gLV.eq_2]<;>simp [hN]))
end
section
variable {f:Nat} {cs:List PV} {c:OptN->OptN->Int}
def zvS (f:Nat) (cs:List PV) (P X Y S:List OptN) (hN:D.length=N) (hD:D=P++(X++(Y++S))) (hD':D'=P++(Y++(X++S))) (hX:0 < X.length) (hY:0 < Y.length) (a m b:Int) (ha:a=(P.length:Nat)) (hm:m=(P.length+X.length:Nat)) (hb:b=(P.length+X.length+Y.length:Nat)) (hn:N<=1000000) :
  zbk prog 289 [.row 900 N,.p (.i .i64 a),.p (.i .i64 m),.p (.i .i64 b),.p (.fn (.func f) [] cs)] [(900,.row 152 2 (D.map OptN.pv) false)] (.p (.tup [])) [(900,.row 152 2 (D'.map OptN.pv) false)]:=by
 subst ha hm hb;have hlen:N=P.length+(X.length+(Y.length+S.length)):=by rw [<-hN,hD];simp
 have hlen':D'.length=N:=by rw [hD',hlen];simp;omega
 refine zD (cF func289 f289.eq_1) (by simp) (by simp [scPs,scP,zm,hN]) (by simp [scObj]) ⟨rfl,trivial⟩ (by simp [scObj]) (by simp [zcQ,zm,hN,hlen']) λX1 hX1=>?_
 unfold zx ghO;have qe:=aI qR @gLV.eq_2;refine gE2 ?_;refine zh (κ:=List OptN × List OptN × List OptN × List OptN) (λk=>⟨[(0,.row 900 N),(2,.p (.i .i64 (P.length+X.length:Nat))),(4,.p (.fn (.func f) [] cs)),(10,.p (.i .i64 (k.2.1.length:Nat))),(11,.p (.i .i64 (k.2.2.1.length:Nat))),(1000900,.row 900 N)],[(900,.row 152 2 ((k.1++(k.2.1++(k.2.2.1++k.2.2.2))).map OptN.pv) false)],[],false⟩)
  (λk=>k.1.length+k.2.1.length=P.length+X.length/\k.1++(k.2.2.1++(k.2.1++k.2.2.2))=D'/\0 < k.2.1.length/\0 < k.2.2.1.length) (λk=>k.2.1.length+k.2.2.1.length) (P,X,Y,S) ?_ ?_ ?_
 ·simp only [qS,seval,gLV.eq_2]<;>simp [<-hD,hN]<;>omega
 ·exact ⟨rfl,hD'.symm,hX,hY⟩
 ·intro k hk;obtain ⟨P',X',Y',S'⟩:=k;simp only at hk;obtain ⟨k1,k2,k3,k4⟩:=hk;have hE:(P'++(X'++(Y'++S'))).length=N:=by
   have:=congrArg List.length k2;rw [hlen'] at this;simp only [xad] at this ⊢;omega
  have hE2:P'.length+(X'.length+(Y'.length+S'.length))=N:=by
   simpa only [xad] using hE
  by_cases h1:X'.length=Y'.length
  ·have h1':((X'.length:Int)=Y'.length)=True:=eq_true (by omega)
   have h2':((Y'.length:Int)=X'.length)=True:=eq_true (by omega)
   have qe:=aI qR (aI @hE (aI @h1' (aI @h2' (aI @qN (aI @rtN @rtR)))));have jA:SX [] _:=⟨zjf f cs (D':=D') P' X' [] Y' S' hE (by simp) (by rw [<-k2];simp) h1 (((P.length+X.length:Nat):Int) - (X'.length:Nat)) ((P.length+X.length:Nat):Int) (X'.length:Nat) (by omega) (by simp;omega) rfl hn⟩;refine gE2 ?_
   all_goals first|exact .inl (.mk0 (h2:=by simp only [qS,seval,keepG.eq_1,keepG.eq_2,gLV.eq_2]<;>simp [hN]))|skip
  ·have h1':((X'.length:Int)=Y'.length)=False:=eq_false (by omega)
   by_cases h2:Y'.length < X'.length
   ·have h2':((Y'.length:Int) < X'.length)=True:=eq_true (by omega)
    have hl:(X'.take Y'.length).length=Y'.length:=by simp;omega
    have hl2:(X'.drop Y'.length).length=X'.length - Y'.length:=by simp
    have qe:=aI qR (aI @hE (aI @h1' (aI @h2' (aI @qN (aI @rtN @rtR)))));repeat' first|refine gC ?_ ?_<;>intro hc<;>try contradiction|refine zf [] (zjf f cs (D':=P'++(Y'++(X'.drop Y'.length++(X'.take Y'.length++S')))) P' (X'.take Y'.length) (X'.drop Y'.length) Y' S' hE (by rw [<-xak (X'.take _),xaq]) rfl hl (((P.length+X.length:Nat):Int) - (X'.length:Nat)) ((P.length+X.length:Nat):Int) (Y'.length:Nat) (by omega) (by simp only [hl,hl2]<;>omega) (by simp only [hl]) hn) ?_|refine gG ?_|show AK _;intro J Z|refine gJ ?_|omega|exact aT
    refine ⟨(P'++Y',X'.drop Y'.length,X'.take Y'.length,S'),⟨?_,?_,?_,?_⟩,?_,?_⟩
    ·simp only [xad,hl2];omega
    ·show (P'++Y')++(X'.take Y'.length++(X'.drop Y'.length++S'))=D';rw [<-k2,<-xak (X'.take _),xaq,xak]
    ·simp only [hl2];omega
    ·simp only [hl];omega
    ·simp only [hl,hl2];omega
    ·refine ⟨⟨?_,?_⟩,?_,?_⟩
     ·simp only [LV.p.injEq,PV.i.injEq,true_and,hl,hl2]<;>omega
     ·simp only [LV.p.injEq,PV.i.injEq,true_and,hl,hl2]<;>omega
     ·simp only [xak]
     ·simp only [xad,hl,hl2];omega
   ·have h2':((Y'.length:Int) < X'.length)=False:=eq_false (by omega)
    have hl:(Y'.drop (Y'.length - X'.length)).length=X'.length:=by simp;omega
    have hl2:(Y'.take (Y'.length - X'.length)).length=Y'.length - X'.length:=by simp
    have qe:=aI qR (aI @hE (aI @h1' (aI @h2' (aI @qN (aI @rtN @rtR)))));repeat' first|refine gC ?_ ?_<;>intro hc<;>try contradiction|refine zf [] (zjf f cs (D':=P'++(Y'.drop (Y'.length - X'.length)++(Y'.take (Y'.length - X'.length)++(X'++S')))) P' X' (Y'.take (Y'.length - X'.length)) (Y'.drop (Y'.length - X'.length)) S' hE (by rw [<-xak (Y'.take _),xaq]) rfl hl.symm (((P.length+X.length:Nat):Int) - (X'.length:Nat)) (((P.length+X.length:Nat):Int)+(Y'.length:Nat) - (X'.length:Nat)) (X'.length:Nat) (by omega) (by simp only [hl2]<;>omega) rfl hn) ?_|refine gG ?_|show AK _;intro J Z|refine gJ ?_|omega|exact aT
    refine ⟨(P',Y'.drop (Y'.length - X'.length),Y'.take (Y'.length - X'.length),X'++S'),⟨?_,?_,?_,?_⟩,?_,?_⟩
    ·simp only [hl];omega
    ·show P'++(Y'.take (Y'.length - X'.length)++(Y'.drop (Y'.length - X'.length)++(X'++S')))=D';rw [<-k2,<-xak (Y'.take _),xaq]
    ·simp only [hl];omega
    ·simp only [hl2];omega
    ·simp only [hl,hl2];omega
    ·refine ⟨⟨?_,?_⟩,?_,?_⟩
     ·simp only [LV.p.injEq,PV.i.injEq,true_and,hl,hl2]<;>omega
     ·simp only [LV.p.injEq,PV.i.injEq,true_and,hl,hl2]<;>omega
     ·simp only [xak]
     ·simp only [xad,hl,hl2];omega
end
section
variable {f:Nat} {cs:List PV} {c:OptN->OptN->Int}
def znw (hf:∀ a b:OptN,Pure prog f ([]++[a.pv,b.pv]++cs) (.i .i64 (c a b))) (hs:SW (zaJ c)):∀ (n:Nat) {D D':List OptN} {N:Nat} (P A B S:List OptN) (_:D.length=N) (_:D=P++(A++(B++S))) (_:D'=P++(mrg (zaJ c) A B++S)) (_:srt (zaJ c) A) (_:srt (zaJ c) B) (_:0 < A.length) (_:0 < B.length) (_:A.length+B.length=n) (a m b:Int) (_:a=(P.length:Nat)) (_:m=(P.length+A.length:Nat)) (_:b=(P.length+A.length+B.length:Nat)) (_:N<=1000000),
  zbk prog 263 [.row 900 N,.p (.i .i64 a),.p (.i .i64 m),.p (.i .i64 b),.p (.fn (.func f) [] cs)] [(900,.row 152 2 (D.map OptN.pv) false)] (.p (.tup [])) [(900,.row 152 2 (D'.map OptN.pv) false)]:=by
 intro n
 induction n using Nat.strongRecOn with
 | _ n ih=>
 intro D D' N P A B S hN hD hD' sA sB hA hB hn2 a m b ha hm hb hn
 by_cases h1A:A.length=1
 ·match A,h1A with
  | [x],_=>exact zsj hf hs P B S x hN hD hD' sB a m b ha (by rw [hm];simp) (by rw [hb];simp) hn
 by_cases h1B:B.length=1
 ·match B,h1B with
  | [y],_=>exact zsi hf hs P A S y hN hD hD' sA (by omega) a m b ha hm (by rw [hb];simp) hn
 subst ha hm hb;have hlen:N=P.length+(A.length+(B.length+S.length)):=by rw [<-hN,hD];simp
 have hlen':D'.length=N:=by rw [hD',hlen];simp [zbp];omega
 have hDA:∀ q z,A[q]?=some z->D[P.length+q]?=some z:=λq z hz=>by
  rw [hD,zae _ _ _ (xaa.1 hz).1,hz]
 have hDB:∀ q y,B[q]?=some y->D[P.length+A.length+q]?=some y:=λq y hy=>by
  have e:D=(P++A)++(B++S):=by rw [hD];simp
  rw [e,<-xad,zae _ _ _ (xaa.1 hy).1,hy]
 refine zD (cF func263 f263.eq_1) (by simp) (by simp [scPs,scP,zm,hN]) (by simp [scObj]) ⟨rfl,trivial⟩ (by simp [scObj]) (by simp [zcQ,zm,hN,hlen']) λX hX=>?_
 unfold zx ghO;have z1:(((P.length+A.length:Nat):Int) - (P.length:Nat)=1)=False:=eq_false (by omega)
 have z2:(((P.length+A.length+B.length:Nat):Int) - (P.length+A.length:Nat)=1)=False:=eq_false (by omega)
 have hmid:=zdo P.length (P.length+A.length+B.length) (by omega)
 obtain ⟨mid,hmd⟩:∃ mid,mid=(P.length+(P.length+A.length+B.length)) / 2:=⟨_,rfl⟩;rw [<-hmd] at hmid;obtain ⟨st,r0,hst⟩:∃ st r0:Nat,(mid < P.length+A.length/\st=mid+(P.length+A.length) - (P.length+A.length+B.length)/\r0=mid)\/(P.length+A.length<=mid/\st=P.length/\r0=P.length+A.length):=by
  by_cases h:mid < P.length+A.length
  ·exact ⟨_,_,.inl ⟨h,rfl,rfl⟩⟩
  ·exact ⟨_,_,.inr ⟨by omega,rfl,rfl⟩⟩
 have qe:=aI qR (aI @gLV.eq_2 @z1);repeat' first|refine gG ?_|show AK _;intro J Z|refine gJ ?_|omega|exact aT
 have qe:=aI qR (aI @gLV.eq_2 @z1);(refine gC ?_ ?_<;>intro hc<;>try contradiction)
 have qe:=aI qR (aI @gLV.eq_2 (aI @z1 @z2));repeat' first|refine gG ?_|show AK _;intro J Z|refine gJ ?_|omega|exact aT
 have qe:=aI qR (aI @gLV.eq_2 @z2);(refine gC ?_ ?_<;>intro hc<;>try contradiction)
 have qe:=aI qR @hmid;repeat' first|refine gG ?_|show AK _;intro J Z|refine gJ ?_|omega|exact aT
 refine zdx ⟨[(0,.row 900 N),(1,.p (.i .i64 (P.length:Nat))),(2,.p (.i .i64 (P.length+A.length:Nat))),(3,.p (.i .i64 (P.length+A.length+B.length:Nat))),(4,.p (.fn (.func f) [] cs)),(18,.p (.i .i64 (mid:Nat))),(19,.p (.i .i64 (mid+(P.length+A.length):Nat))),(20,.p (.i .i64 (st:Nat))),(21,.p (.i .i64 (r0:Nat))),(1000900,.row 900 N)],[(900,.row 152 2 (D.map OptN.pv) false)],[],false⟩ ?_ ?_
 ·rcases hst with ⟨g1,g2,g3⟩|⟨g1,g2,g3⟩
  ·have hg:(((mid:Nat):Int) < (P.length+A.length:Nat))=True:=eq_true (by omega)
   have qe:=aI qR (aI @zdU @hg);refine gE2 ?_;subst g2 g3
   (repeat' apply And.intro)<;>first|rfl|(simp only [LV.p.injEq,PV.i.injEq,true_and];omega)|(exact xb7 hN.symm)|(rw [hN])
  ·have hg:(((mid:Nat):Int) < (P.length+A.length:Nat))=False:=eq_false (by omega)
   have qe:=aI qR (aI @zdU @hg);refine gE2 ?_;subst g2 g3
   (repeat' apply And.intro)<;>first|rfl|(simp only [LV.p.injEq,PV.i.injEq,true_and];omega)|(exact xb7 hN.symm)|(rw [hN])
 refine Stp.h ?_;have qe:=@qR;refine gE2 ?_;refine zh (κ:=Nat × Nat) (λk=>⟨[(0,.row 900 N),(1,.p (.i .i64 (P.length:Nat))),(2,.p (.i .i64 (P.length+A.length:Nat))),(3,.p (.i .i64 (P.length+A.length+B.length:Nat))),(4,.p (.fn (.func f) [] cs)),(18,.p (.i .i64 (mid:Nat))),(19,.p (.i .i64 (mid+(P.length+A.length):Nat))),(20,.p (.i .i64 (k.1:Nat))),(21,.p (.i .i64 (k.2:Nat))),(22,.p (.i .i64 (mid+(P.length+A.length) - 1:Nat))),(1000900,.row 900 N)],[(900,.row 152 2 (D.map OptN.pv) false)],[],false⟩)
  (λk=>st<=k.1/\k.1<=k.2/\k.2<=r0/\(∀ a b,A[k.1 - P.length - 1]?=some a->B[mid - k.1]?=some b->0 < k.1 - P.length->zaJ c b a=false)/\(∀ a b,A[k.2 - P.length]?=some a->B[mid - k.2 - 1]?=some b->0 < mid - k.2->zaJ c b a=true)) (λk=>k.2 - k.1) (st,r0) ?_ ?_ ?_
 ·simp only [qS,seval];simp only [LV.p.injEq,PV.i.injEq,true_and];omega
 ·refine ⟨xap _,by simp only;omega,xap _,λa b h1 h2 h3=>?_,λa b h1 h2 h3=>?_⟩
  ·exfalso
   have h1:=(xaa.1 h1).1;have h2:=(xaa.1 h2).1;simp only at h1 h2 h3
   omega
  ·exfalso
   have h1:=(xaa.1 h1).1;have h2:=(xaa.1 h2).1;simp only at h1 h2 h3
   omega
 ·intro k hk;obtain ⟨s,r⟩:=k;simp only at hk;obtain ⟨k1,k2,k3,k4,k5⟩:=hk;have hm:=zdo s r (by omega)
  by_cases hsr:s < r
  ·have hsr':((s:Int) < r)=True:=eq_true (by omega)
   obtain ⟨v,hv⟩:=zj (i:=(s+r) / 2 - P.length) (l:=A) (by omega)
   obtain ⟨u,hu⟩:=zj (i:=mid - (s+r) / 2 - 1) (l:=B) (by omega)
   have hv2:=hDA _ v hv;have hu2:=hDB _ u hu;rw [show P.length+((s+r) / 2 - P.length)=(s+r) / 2 by omega] at hv2
   have j1:(((mid+(P.length+A.length) - 1:Nat):Int) - (((s+r) / 2:Nat):Int)).toNat=P.length+A.length+(mid - (s+r) / 2 - 1):=by omega
   cases hcc:zaJ c u v with
   | false=>
    have hc':=zzO hcc;have qe:=aI qR (aI @hsr' (aI @hm (aI @hN (aI @j1 (aI @hv2 (aI @hu2 (aI @hc' (aI @rtN @rtR))))))));have jA:=hf u v;refine gE2 ?_;refine ⟨((s+r) / 2+1,r),⟨by simp only;omega,by simp only;omega,k3,λa b h1 h2 h3=>?_,k5⟩,by simp only;omega,by simp,rfl⟩
    simp only at h1 h2;rw [show (s+r) / 2+1 - P.length - 1=(s+r) / 2 - P.length by omega,hv] at h1
    rw [show mid - ((s+r) / 2+1)=mid - (s+r) / 2 - 1 by omega,hu] at h2
    cases h1;cases h2;exact hcc
   | true=>
    have hc':=zzN hcc;have qe:=aI qR (aI @hsr' (aI @hm (aI @hN (aI @j1 (aI @hv2 (aI @hu2 (aI @hc' (aI @rtN @rtR))))))));have jA:=hf u v;refine gE2 ?_;refine ⟨(s,(s+r) / 2),⟨k1,by simp only;omega,by simp only;omega,k4,λa b h1 h2 h3=>?_⟩,by simp only;omega,rfl,rfl⟩
    simp only at h1 h2;rw [hv] at h1;rw [hu] at h2;cases h1;cases h2;exact hcc
  ·have e:s=r:=by omega
   subst e;have hsr':((s:Int) < s)=False:=eq_false (by omega)
   have lA1:(A.take (s - P.length)).length=s - P.length:=by rw [xan];omega
   have lB1:(B.take (mid - s)).length=mid - s:=by rw [xan];omega
   have lA2:(A.drop (s - P.length)).length=P.length+A.length - s:=by rw [xav];omega
   have lB2:(B.drop (mid - s)).length=P.length+A.length+B.length+s - (mid+(P.length+A.length)):=by rw [xav];omega
   have hlo:=zqS hs sA sB (s:=s - P.length) (e:=mid - s) (by omega) k4
   have hhi:=zm7 hs sA sB (s:=s - P.length) (e:=mid - s) (by omega) k5
   have hspl:=zah (lt:=zaJ c) _ _ _ _ hlo hhi;rw [xaq,xaq] at hspl;have sA1:srt (zaJ c) (A.take (s - P.length)):=sA.sublist (List.take_sublist _ _);have sA2:srt (zaJ c) (A.drop (s - P.length)):=sA.sublist (List.drop_sublist _ _);have sB1:srt (zaJ c) (B.take (mid - s)):=sB.sublist (List.take_sublist _ _);have sB2:srt (zaJ c) (B.drop (mid - s)):=sB.sublist (List.drop_sublist _ _);have hD2:D=(P++A.take (s - P.length))++(A.drop (s - P.length)++(B.take (mid - s)++(B.drop (mid - s)++S))):=by
    rw [hD,xak,<-xak (A.take _),xaq,<-xak (B.take _),xaq]
   have lE1:(P++(A.take (s - P.length)++(B.take (mid - s)++(A.drop (s - P.length)++(B.drop (mid - s)++S))))).length=N:=by simp only [xad,lA1,lA2,lB1,lB2];omega
   have lE2:(P++(mrg (zaJ c) (A.take (s - P.length)) (B.take (mid - s))++(A.drop (s - P.length)++(B.drop (mid - s)++S)))).length=N:=by simp only [xad,zbp,lA1,lA2,lB1,lB2];omega
   have hE3:D'=(P++mrg (zaJ c) (A.take (s - P.length)) (B.take (mid - s)))++(mrg (zaJ c) (A.drop (s - P.length)) (B.drop (mid - s))++S):=by rw [hD',hspl];simp only [xak]
   have lM:(P++mrg (zaJ c) (A.take (s - P.length)) (B.take (mid - s))).length=mid:=by simp only [xad,zbp,lA1,lB1];omega
   have eEnd:((mid+(P.length+A.length):Nat):Int) - (s:Nat)=((mid+(P.length+A.length) - s:Nat):Int):=by omega
   have qe:=aI qR (aI @hsr' @hN);repeat' first|refine gG ?_|show AK _;intro J Z|refine gJ ?_|omega|exact aT
   have qe:=aI qR @hsr';(refine gC ?_ ?_<;>intro hc<;>try contradiction)
   have qe:=aI qR (aI @hsr' (aI @hN @eEnd));repeat' first|refine gG ?_|show AK _;intro J Z|refine gJ ?_|omega|exact aT
   refine zdx ⟨[(0,.row 900 N),(1,.p (.i .i64 (P.length:Nat))),(2,.p (.i .i64 (P.length+A.length:Nat))),(3,.p (.i .i64 (P.length+A.length+B.length:Nat))),(4,.p (.fn (.func f) [] cs)),(18,.p (.i .i64 (mid:Nat))),(20,.p (.i .i64 (s:Nat))),(24,.p (.i .i64 (mid+(P.length+A.length) - s:Nat))),(1000900,.row 900 N)],[(900,.row 152 2 ((P++(A.take (s - P.length)++(B.take (mid - s)++(A.drop (s - P.length)++(B.drop (mid - s)++S))))).map OptN.pv) false)],[],false⟩ ?_ ?_
   ·by_cases h1:s < P.length+A.length/\0 < mid - s
    ·have u1:((s:Int) < (P.length+A.length:Nat))=True:=eq_true (by omega)
     have u2:(((P.length+A.length:Nat):Int) < (mid+(P.length+A.length) - s:Nat))=True:=eq_true (by omega)
     have qe:=aI qR (aI @zdU (aI @u1 (aI @u2 (aI @hN @qN))));repeat' first|refine gC ?_ ?_<;>intro hc<;>try contradiction|refine zf [] (zvS f cs (D':=(P++(A.take (s - P.length)++(B.take (mid - s)++(A.drop (s - P.length)++(B.drop (mid - s)++S)))))) (P++A.take (s - P.length)) (A.drop (s - P.length)) (B.take (mid - s)) (B.drop (mid - s)++S) hN hD2 (by simp only [xak]) (by omega) (by omega) (s:Nat) (P.length+A.length:Nat) (mid+(P.length+A.length) - s:Nat) (by simp only [xad,lA1];omega) (by simp only [xad,lA1,lA2];omega) (by simp only [xad,lA1,lA2,lB1];omega) hn) ?_|refine gG ?_|show AK _;intro J Z|refine gJ ?_|omega|exact aT
     skip
    ·have hDE:D=(P++(A.take (s - P.length)++(B.take (mid - s)++(A.drop (s - P.length)++(B.drop (mid - s)++S))))):=by
      rw [hD2]
      rcases (show s=P.length+A.length\/mid - s=0 by omega) with e|e
      ·rw [show A.drop (s - P.length)=[] from xbD (by omega)];simp
      ·rw [e];simp
     rw [<-hDE]
     by_cases h2:s < P.length+A.length
     ·have u1:((s:Int) < (P.length+A.length:Nat))=True:=eq_true (by omega)
      have u2:(((P.length+A.length:Nat):Int) < (mid+(P.length+A.length) - s:Nat))=False:=eq_false (by omega)
      have qe:=aI qR (aI @zdU (aI @u1 (aI @u2 @hN)));repeat' first|refine gC ?_ ?_<;>intro hc<;>try contradiction|refine gG ?_|show AK _;intro J Z|refine gJ ?_|omega|exact aT
      skip
     ·have u1:((s:Int) < (P.length+A.length:Nat))=False:=eq_false (by omega)
      have qe:=aI qR (aI @zdU (aI @u1 @hN));repeat' first|refine gC ?_ ?_<;>intro hc<;>try contradiction|refine gG ?_|show AK _;intro J Z|refine gJ ?_|omega|exact aT
      skip
   refine Stp.h ?_;have qe:=aI qR @hN;repeat' first|refine gG ?_|show AK _;intro J Z|refine gJ ?_|omega|exact aT
   refine zdx ⟨[(0,.row 900 N),(1,.p (.i .i64 (P.length:Nat))),(2,.p (.i .i64 (P.length+A.length:Nat))),(3,.p (.i .i64 (P.length+A.length+B.length:Nat))),(4,.p (.fn (.func f) [] cs)),(18,.p (.i .i64 (mid:Nat))),(20,.p (.i .i64 (s:Nat))),(24,.p (.i .i64 (mid+(P.length+A.length) - s:Nat))),(1000900,.row 900 N)],[(900,.row 152 2 ((P++(mrg (zaJ c) (A.take (s - P.length)) (B.take (mid - s))++(A.drop (s - P.length)++(B.drop (mid - s)++S)))).map OptN.pv) false)],[],false⟩ ?_ ?_
   ·by_cases h1:P.length < s/\s < mid
    ·have u1:(((P.length:Nat):Int) < (s:Nat))=True:=eq_true (by omega)
     have u2:(((s:Nat):Int) < (mid:Nat))=True:=eq_true (by omega)
     have qe:=aI qR (aI @zdU (aI @u1 (aI @u2 (aI @lE1 @qN))));have jA:SX [] _:=⟨ih (s - P.length+(mid - s)) (by omega) (D:=(P++(A.take (s - P.length)++(B.take (mid - s)++(A.drop (s - P.length)++(B.drop (mid - s)++S)))))) (D':=(P++(mrg (zaJ c) (A.take (s - P.length)) (B.take (mid - s))++(A.drop (s - P.length)++(B.drop (mid - s)++S))))) P (A.take (s - P.length)) (B.take (mid - s)) (A.drop (s - P.length)++(B.drop (mid - s)++S)) lE1 rfl rfl sA1 sB1 (by omega) (by omega) (by omega) (P.length:Nat) (s:Nat) (mid:Nat) rfl (by omega) (by omega) hn⟩;refine gE2 ?_
     simp only [zbp,lA1,lA2,lB1,lB2];omega
    ·have hDE:(P++(A.take (s - P.length)++(B.take (mid - s)++(A.drop (s - P.length)++(B.drop (mid - s)++S)))))=(P++(mrg (zaJ c) (A.take (s - P.length)) (B.take (mid - s))++(A.drop (s - P.length)++(B.drop (mid - s)++S)))):=by
      rcases (show s - P.length=0\/mid - s=0 by omega) with e|e
      ·rw [e];simp [zai]
      ·rw [e];simp [zaE]
     rw [<-hDE]
     by_cases h2:P.length < s
     ·have u1:(((P.length:Nat):Int) < (s:Nat))=True:=eq_true (by omega)
      have u2:(((s:Nat):Int) < (mid:Nat))=False:=eq_false (by omega)
      have qe:=aI qR (aI @zdU (aI @u1 (aI @u2 @lE1)));repeat' first|refine gC ?_ ?_<;>intro hc<;>try contradiction|refine gG ?_|show AK _;intro J Z|refine gJ ?_|omega|exact aT
      skip
     ·have u1:(((P.length:Nat):Int) < (s:Nat))=False:=eq_false (by omega)
      have qe:=aI qR (aI @zdU (aI @u1 @lE1));repeat' first|refine gC ?_ ?_<;>intro hc<;>try contradiction|refine gG ?_|show AK _;intro J Z|refine gJ ?_|omega|exact aT
      skip
   refine Stp.h ?_;have qe:=aI qR @hN;repeat' first|refine gG ?_|show AK _;intro J Z|refine gJ ?_|omega|exact aT
   by_cases h1:mid < mid+(P.length+A.length) - s/\mid+(P.length+A.length) - s < P.length+A.length+B.length
   ·have u1:(((mid:Nat):Int) < (mid+(P.length+A.length) - s:Nat))=True:=eq_true (by omega)
    have u2:(((mid+(P.length+A.length) - s:Nat):Int) < (P.length+A.length+B.length:Nat))=True:=eq_true (by omega)
    have qe:=aI qR (aI @u1 (aI @u2 (aI @lE2 (aI @qN (aI @rtN @rtR)))));have jA:SX [] _:=⟨ih (P.length+A.length - s+(P.length+A.length+B.length+s - (mid+(P.length+A.length)))) (by omega) (D:=(P++(mrg (zaJ c) (A.take (s - P.length)) (B.take (mid - s))++(A.drop (s - P.length)++(B.drop (mid - s)++S))))) (D':=D') (P++mrg (zaJ c) (A.take (s - P.length)) (B.take (mid - s))) (A.drop (s - P.length)) (B.drop (mid - s)) S lE2 (by simp only [xak]) hE3 sA2 sB2 (by omega) (by omega) (by omega) (mid:Nat) (mid+(P.length+A.length) - s:Nat) (P.length+A.length+B.length:Nat) (by rw [lM]) (by rw [lM,lA2];omega) (by rw [lM,lA2,lB2];omega) hn⟩;refine gE2 ?_
    all_goals first|exact .inl (.mk0 (h2:=by simp only [qS,seval,keepG.eq_1,keepG.eq_2,gLV.eq_2]<;>simp [hN]))
   ·have hDE:(P++(mrg (zaJ c) (A.take (s - P.length)) (B.take (mid - s))++(A.drop (s - P.length)++(B.drop (mid - s)++S))))=D':=by
     rw [hE3]
     rcases (show P.length+A.length - s=0\/P.length+A.length+B.length+s - (mid+(P.length+A.length))=0 by omega) with e|e
     ·rw [xcc.1 (lA2.trans e),zai];simp
     ·rw [xcc.1 (lB2.trans e),zaE];simp
    rw [hDE];rw [hDE] at lE2
    by_cases h2:mid < mid+(P.length+A.length) - s
    ·have u1:(((mid:Nat):Int) < (mid+(P.length+A.length) - s:Nat))=True:=eq_true (by omega)
     have u2:(((mid+(P.length+A.length) - s:Nat):Int) < (P.length+A.length+B.length:Nat))=False:=eq_false (by omega)
     have qe:=aI qR (aI @u1 (aI @u2 (aI @lE2 (aI @rtN @rtR))));refine gE2 ?_
     all_goals first|exact .inl (.mk0 (h2:=by simp only [qS,seval,keepG.eq_1,keepG.eq_2,gLV.eq_2]<;>simp [hN]))
    ·have u1:(((mid:Nat):Int) < (mid+(P.length+A.length) - s:Nat))=False:=eq_false (by omega)
     have qe:=aI qR (aI @u1 (aI @lE2 (aI @rtN @rtR)));refine gE2 ?_
     all_goals first|exact .inl (.mk0 (h2:=by simp only [qS,seval,keepG.eq_1,keepG.eq_2,gLV.eq_2]<;>simp [hN]))
end
end Go.Proofs.YtbgckikhhcbmpaaGreat
