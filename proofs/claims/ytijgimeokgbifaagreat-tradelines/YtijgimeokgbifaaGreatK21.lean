/- Contracts of functions, for the claim. No conditions. -/
import Derived.Test.YtijgimeokgbifaaGreatK19
import Derived.Test.YtijgimeokgbifaaGreatK20
import Derived.Test.YtijgimeokgbifaaGreatK11
set_option linter.all false
set_option maxHeartbeats 8000000
set_option maxRecDepth 100000
namespace Go.Proofs.YtijgimeokgbifaaGreat
open Go.RowKit
section
variable {f:Nat} {c:Mov->Mov->Int}
theorem zpc (hf:∀ a b:Mov,Pure Tryz.prog f [a.pv,b.pv] (.i .i64 (c a b))) (hs:SW (bfC c)):∀ (n:Nat) {D D':List Mov} {N:Nat} (P A B S:List Mov) (_:D.length=N) (_:D=P++(A++(B++S))) (_:D'=P++(mrg (bfC c) A B++S)) (_:srt (bfC c) A) (_:srt (bfC c) B) (_:0 < A.length) (_:0 < B.length) (_:A.length+B.length=n) (a m b:Int) (_:a=(P.length:Nat)) (_:m=(P.length+A.length:Nat)) (_:b=(P.length+A.length+B.length:Nat)) (_:N<=1000000),
  Acts Tryz.prog 277 [.row 900 N,.p (.i .i64 a),.p (.i .i64 m),.p (.i .i64 b),.p (.fn (.func f) [] [])] [(900,.row 140 7 (D.map Mov.pv) false)] (.p (.tup [])) [(900,.row 140 7 (D'.map Mov.pv) false)]:=by
 intro n
 induction n using Nat.strongRecOn with
 | _ n ih=>
 intro D D' N P A B S hN hD hD' sA sB hA hB hn2 a m b ha hm hb hn
 by_cases h1A:A.length=1
 ·match A,h1A with
  | [x],_=>exact zsn hf hs P B S x hN hD hD' sB a m b ha (by rw [hm];simp) (by rw [hb];simp) hn
 by_cases h1B:B.length=1
 ·match B,h1B with
  | [y],_=>exact zsm hf hs P A S y hN hD hD' sA (by omega) a m b ha hm (by rw [hb];simp) hn
 subst ha hm hb
 have hlen:N=P.length+(A.length+(B.length+S.length)):=by rw [<-hN,hD];simp
 have hlen':D'.length=N:=by rw [hD',hlen];simp [zcw];omega
 have hDA:∀ q z,A[q]?=some z->D[P.length+q]?=some z:=λq z hz=>by
  rw [hD,zbo _ _ _ (List.getElem?_eq_some_iff.1 hz).1,hz]
 have hDB:∀ q y,B[q]?=some y->D[P.length+A.length+q]?=some y:=λq y hy=>by
  have e:D=(P++A)++(B++S):=by rw [hD];simp
  rw [e,<-List.length_append,zbo _ _ _ (List.getElem?_eq_some_iff.1 hy).1,hy]
 refine zR (cF Tryz.func277 Tryz.f277.eq_1) (by simp) (by simp [scPs,scP,zk,hN]) (by simp [scObj]) ⟨rfl,trivial⟩ (by simp [scObj]) (by simp [zc2,zk,hN,hlen']) λX hX=>?_
 unfold zD ghO
 have z1:(((P.length+A.length:Nat):Int) - (P.length:Nat)=1)=False:=eq_false (by omega)
 have z2:(((P.length+A.length+B.length:Nat):Int) - (P.length+A.length:Nat)=1)=False:=eq_false (by omega)
 have hmid:=zgU P.length (P.length+A.length+B.length) (by omega)
 obtain ⟨mid,hmd⟩:∃ mid,mid=(P.length+(P.length+A.length+B.length)) / 2:=⟨_,rfl⟩
 rw [<-hmd] at hmid
 obtain ⟨st,r0,hst⟩:∃ st r0:Nat,(mid < P.length+A.length/\st=mid+(P.length+A.length) - (P.length+A.length+B.length)/\r0=mid)\/(P.length+A.length<=mid/\st=P.length/\r0=P.length+A.length):=by
  by_cases h:mid < P.length+A.length
  ·exact ⟨_,_,.inl ⟨h,rfl,rfl⟩⟩
  ·exact ⟨_,_,.inr ⟨by omega,rfl,rfl⟩⟩
 have qe:=aI qR (aI @gLV.eq_2 @z1);repeat' first|refine gG ?_|show AK _;intro K H|refine H _ _ ?_;clear H K|refine gJ ?_;try exact trivial|omega
 have qe:=aI qR (aI @gLV.eq_2 @z1);(refine gC ?_ ?_<;>intro hc<;>try contradiction)
 have qe:=aI qR (aI @gLV.eq_2 (aI @z1 @z2));repeat' first|refine gG ?_|show AK _;intro K H|refine H _ _ ?_;clear H K|refine gJ ?_;try exact trivial|omega
 have qe:=aI qR (aI @gLV.eq_2 @z2);(refine gC ?_ ?_<;>intro hc<;>try contradiction)
 have qe:=aI qR @hmid;repeat' first|refine gG ?_|show AK _;intro K H|refine H _ _ ?_;clear H K|refine gJ ?_;try exact trivial|omega
 refine zgy ⟨[(0,.row 900 N),(1,.p (.i .i64 (P.length:Nat))),(2,.p (.i .i64 (P.length+A.length:Nat))),(3,.p (.i .i64 (P.length+A.length+B.length:Nat))),(4,.p (.fn (.func f) [] [])),(18,.p (.i .i64 (mid:Nat))),(19,.p (.i .i64 (mid+(P.length+A.length):Nat))),(20,.p (.i .i64 (st:Nat))),(21,.p (.i .i64 (r0:Nat))),(1000900,.row 900 N)],[(900,.row 140 7 (D.map Mov.pv) false)],[],false⟩ ?_ ?_
 ·rcases hst with ⟨g1,g2,g3⟩|⟨g1,g2,g3⟩
  ·have hg:(((mid:Nat):Int) < (P.length+A.length:Nat))=True:=eq_true (by omega)
   have qe:=aI qR (aI @zih @hg);repeat' first|refine gC ?_ ?_<;>intro hc<;>try contradiction|refine gG ?_|show AK _;intro K H|refine H _ _ ?_;clear H K|refine gJ ?_;try exact trivial|omega
   subst g2 g3
   (repeat' apply And.intro)<;>first|rfl|(simp only [LV.p.injEq,PV.i.injEq,true_and];omega)|(exact Nat.le_of_eq hN.symm)|(rw [hN])
  ·have hg:(((mid:Nat):Int) < (P.length+A.length:Nat))=False:=eq_false (by omega)
   have qe:=aI qR (aI @zih @hg);repeat' first|refine gC ?_ ?_<;>intro hc<;>try contradiction|refine gG ?_|show AK _;intro K H|refine H _ _ ?_;clear H K|refine gJ ?_;try exact trivial|omega
   subst g2 g3
   (repeat' apply And.intro)<;>first|rfl|(simp only [LV.p.injEq,PV.i.injEq,true_and];omega)|(exact Nat.le_of_eq hN.symm)|(rw [hN])
 refine Stp.h ?_
 have qe:=@qR;repeat' first|refine gC ?_ ?_<;>intro hc<;>try contradiction|refine gG ?_|show AK _;intro K H|refine H _ _ ?_;clear H K|refine gJ ?_;try exact trivial|omega
 refine zj (κ:=Nat × Nat) (λk=>⟨[(0,.row 900 N),(1,.p (.i .i64 (P.length:Nat))),(2,.p (.i .i64 (P.length+A.length:Nat))),(3,.p (.i .i64 (P.length+A.length+B.length:Nat))),(4,.p (.fn (.func f) [] [])),(18,.p (.i .i64 (mid:Nat))),(19,.p (.i .i64 (mid+(P.length+A.length):Nat))),(20,.p (.i .i64 (k.1:Nat))),(21,.p (.i .i64 (k.2:Nat))),(22,.p (.i .i64 (mid+(P.length+A.length) - 1:Nat))),(1000900,.row 900 N)],[(900,.row 140 7 (D.map Mov.pv) false)],[],false⟩)
  (λk=>st<=k.1/\k.1<=k.2/\k.2<=r0/\(∀ a b,A[k.1 - P.length - 1]?=some a->B[mid - k.1]?=some b->0 < k.1 - P.length->bfC c b a=false)/\(∀ a b,A[k.2 - P.length]?=some a->B[mid - k.2 - 1]?=some b->0 < mid - k.2->bfC c b a=true)) (λk=>k.2 - k.1) (st,r0) ?_ ?_ ?_
 ·simp only [qS,seval]
  simp only [LV.p.injEq,PV.i.injEq,true_and];omega
 ·refine ⟨Nat.le_refl _,by simp only;omega,Nat.le_refl _,λa b h1 h2 h3=>?_,λa b h1 h2 h3=>?_⟩
  ·exfalso
   have h1:=(List.getElem?_eq_some_iff.1 h1).1
   have h2:=(List.getElem?_eq_some_iff.1 h2).1
   simp only at h1 h2 h3
   omega
  ·exfalso
   have h1:=(List.getElem?_eq_some_iff.1 h1).1
   have h2:=(List.getElem?_eq_some_iff.1 h2).1
   simp only at h1 h2 h3
   omega
 ·intro k hk
  obtain ⟨s,r⟩:=k
  simp only at hk
  obtain ⟨k1,k2,k3,k4,k5⟩:=hk
  have hm:=zgU s r (by omega)
  by_cases hsr:s < r
  ·have hsr':((s:Int) < r)=True:=eq_true (by omega)
   obtain ⟨v,hv⟩:=zm (i:=(s+r) / 2 - P.length) (l:=A) (by omega)
   obtain ⟨u,hu⟩:=zm (i:=mid - (s+r) / 2 - 1) (l:=B) (by omega)
   have hv2:=hDA _ v hv
   have hu2:=hDB _ u hu
   rw [show P.length+((s+r) / 2 - P.length)=(s+r) / 2 by omega] at hv2
   have j1:(((mid+(P.length+A.length) - 1:Nat):Int) - (((s+r) / 2:Nat):Int)).toNat=P.length+A.length+(mid - (s+r) / 2 - 1):=by omega
   cases hcc:bfC c u v with
   | false=>
    have hc':=bf_f hcc
    have qe:=aI qR (aI @hsr' (aI @hm (aI @hN (aI @j1 (aI @hv2 (aI @hu2 (aI @hc' (aI @rtN @rtR))))))));repeat' first|refine gC ?_ ?_<;>intro hc<;>try contradiction|refine zq (hf u v) ?_|refine gG ?_|show AK _;intro K H|refine H _ _ ?_;clear H K|refine gJ ?_;try exact trivial|omega
    refine ⟨((s+r) / 2+1,r),⟨by simp only;omega,by simp only;omega,k3,λa b h1 h2 h3=>?_,k5⟩,by simp only;omega,by simp,rfl⟩
    simp only at h1 h2
    rw [show (s+r) / 2+1 - P.length - 1=(s+r) / 2 - P.length by omega,hv] at h1
    rw [show mid - ((s+r) / 2+1)=mid - (s+r) / 2 - 1 by omega,hu] at h2
    cases h1;cases h2;exact hcc
   | true=>
    have hc':=bf_t hcc
    have qe:=aI qR (aI @hsr' (aI @hm (aI @hN (aI @j1 (aI @hv2 (aI @hu2 (aI @hc' (aI @rtN @rtR))))))));repeat' first|refine gC ?_ ?_<;>intro hc<;>try contradiction|refine zq (hf u v) ?_|refine gG ?_|show AK _;intro K H|refine H _ _ ?_;clear H K|refine gJ ?_;try exact trivial|omega
    refine ⟨(s,(s+r) / 2),⟨k1,by simp only;omega,by simp only;omega,k4,λa b h1 h2 h3=>?_⟩,by simp only;omega,rfl,rfl⟩
    simp only at h1 h2
    rw [hv] at h1
    rw [hu] at h2
    cases h1;cases h2;exact hcc
  ·have e:s=r:=by omega
   subst e
   have hsr':((s:Int) < s)=False:=eq_false (by omega)
   have lA1:(A.take (s - P.length)).length=s - P.length:=by rw [List.length_take];omega
   have lB1:(B.take (mid - s)).length=mid - s:=by rw [List.length_take];omega
   have lA2:(A.drop (s - P.length)).length=P.length+A.length - s:=by rw [List.length_drop];omega
   have lB2:(B.drop (mid - s)).length=P.length+A.length+B.length+s - (mid+(P.length+A.length)):=by rw [List.length_drop];omega
   have hlo:=zuA hs sA sB (s:=s - P.length) (e:=mid - s) (by omega) k4
   have hhi:=zrF hs sA sB (s:=s - P.length) (e:=mid - s) (by omega) k5
   have hspl:=zaQ (lt:=bfC c) _ _ _ _ hlo hhi
   rw [List.take_append_drop,List.take_append_drop] at hspl
   have sA1:srt (bfC c) (A.take (s - P.length)):=sA.sublist (List.take_sublist _ _)
   have sA2:srt (bfC c) (A.drop (s - P.length)):=sA.sublist (List.drop_sublist _ _)
   have sB1:srt (bfC c) (B.take (mid - s)):=sB.sublist (List.take_sublist _ _)
   have sB2:srt (bfC c) (B.drop (mid - s)):=sB.sublist (List.drop_sublist _ _)
   have hD2:D=(P++A.take (s - P.length))++(A.drop (s - P.length)++(B.take (mid - s)++(B.drop (mid - s)++S))):=by
    rw [hD,List.append_assoc,<-List.append_assoc (A.take _),List.take_append_drop,<-List.append_assoc (B.take _),List.take_append_drop]
   have lE1:(P++(A.take (s - P.length)++(B.take (mid - s)++(A.drop (s - P.length)++(B.drop (mid - s)++S))))).length=N:=by simp only [List.length_append,lA1,lA2,lB1,lB2];omega
   have lE2:(P++(mrg (bfC c) (A.take (s - P.length)) (B.take (mid - s))++(A.drop (s - P.length)++(B.drop (mid - s)++S)))).length=N:=by simp only [List.length_append,zcw,lA1,lA2,lB1,lB2];omega
   have hE3:D'=(P++mrg (bfC c) (A.take (s - P.length)) (B.take (mid - s)))++(mrg (bfC c) (A.drop (s - P.length)) (B.drop (mid - s))++S):=by rw [hD',hspl];simp only [List.append_assoc]
   have lM:(P++mrg (bfC c) (A.take (s - P.length)) (B.take (mid - s))).length=mid:=by simp only [List.length_append,zcw,lA1,lB1];omega
   have eEnd:((mid+(P.length+A.length):Nat):Int) - (s:Nat)=((mid+(P.length+A.length) - s:Nat):Int):=by omega
   have qe:=aI qR (aI @hsr' @hN);repeat' first|refine gG ?_|show AK _;intro K H|refine H _ _ ?_;clear H K|refine gJ ?_;try exact trivial|omega
   have qe:=aI qR @hsr';(refine gC ?_ ?_<;>intro hc<;>try contradiction)
   have qe:=aI qR (aI @hsr' (aI @hN @eEnd));repeat' first|refine gG ?_|show AK _;intro K H|refine H _ _ ?_;clear H K|refine gJ ?_;try exact trivial|omega
   refine zgy ⟨[(0,.row 900 N),(1,.p (.i .i64 (P.length:Nat))),(2,.p (.i .i64 (P.length+A.length:Nat))),(3,.p (.i .i64 (P.length+A.length+B.length:Nat))),(4,.p (.fn (.func f) [] [])),(18,.p (.i .i64 (mid:Nat))),(20,.p (.i .i64 (s:Nat))),(24,.p (.i .i64 (mid+(P.length+A.length) - s:Nat))),(1000900,.row 900 N)],[(900,.row 140 7 ((P++(A.take (s - P.length)++(B.take (mid - s)++(A.drop (s - P.length)++(B.drop (mid - s)++S))))).map Mov.pv) false)],[],false⟩ ?_ ?_
   ·by_cases h1:s < P.length+A.length/\0 < mid - s
    ·have u1:((s:Int) < (P.length+A.length:Nat))=True:=eq_true (by omega)
     have u2:(((P.length+A.length:Nat):Int) < (mid+(P.length+A.length) - s:Nat))=True:=eq_true (by omega)
     have qe:=aI qR (aI @zih (aI @u1 (aI @u2 (aI @hN @qN))));repeat' first|refine gC ?_ ?_<;>intro hc<;>try contradiction|refine zl [] (zvU f (D':=(P++(A.take (s - P.length)++(B.take (mid - s)++(A.drop (s - P.length)++(B.drop (mid - s)++S)))))) (P++A.take (s - P.length)) (A.drop (s - P.length)) (B.take (mid - s)) (B.drop (mid - s)++S) hN hD2 (by simp only [List.append_assoc]) (by omega) (by omega) (s:Nat) (P.length+A.length:Nat) (mid+(P.length+A.length) - s:Nat) (by simp only [List.length_append,lA1];omega) (by simp only [List.length_append,lA1,lA2];omega) (by simp only [List.length_append,lA1,lA2,lB1];omega) hn) ?_|refine gG ?_|show AK _;intro K H|refine H _ _ ?_;clear H K|refine gJ ?_;try exact trivial|omega
     skip
    ·have hDE:D=(P++(A.take (s - P.length)++(B.take (mid - s)++(A.drop (s - P.length)++(B.drop (mid - s)++S))))):=by
      rw [hD2]
      rcases (show s=P.length+A.length\/mid - s=0 by omega) with e|e
      ·rw [show A.drop (s - P.length)=[] from List.drop_eq_nil_of_le (by omega)];simp
      ·rw [e];simp
     rw [<-hDE]
     by_cases h2:s < P.length+A.length
     ·have u1:((s:Int) < (P.length+A.length:Nat))=True:=eq_true (by omega)
      have u2:(((P.length+A.length:Nat):Int) < (mid+(P.length+A.length) - s:Nat))=False:=eq_false (by omega)
      have qe:=aI qR (aI @zih (aI @u1 (aI @u2 @hN)));repeat' first|refine gC ?_ ?_<;>intro hc<;>try contradiction|refine gG ?_|show AK _;intro K H|refine H _ _ ?_;clear H K|refine gJ ?_;try exact trivial|omega
      skip
     ·have u1:((s:Int) < (P.length+A.length:Nat))=False:=eq_false (by omega)
      have qe:=aI qR (aI @zih (aI @u1 @hN));repeat' first|refine gC ?_ ?_<;>intro hc<;>try contradiction|refine gG ?_|show AK _;intro K H|refine H _ _ ?_;clear H K|refine gJ ?_;try exact trivial|omega
      skip
   refine Stp.h ?_
   have qe:=aI qR @hN;repeat' first|refine gG ?_|show AK _;intro K H|refine H _ _ ?_;clear H K|refine gJ ?_;try exact trivial|omega
   refine zgy ⟨[(0,.row 900 N),(1,.p (.i .i64 (P.length:Nat))),(2,.p (.i .i64 (P.length+A.length:Nat))),(3,.p (.i .i64 (P.length+A.length+B.length:Nat))),(4,.p (.fn (.func f) [] [])),(18,.p (.i .i64 (mid:Nat))),(20,.p (.i .i64 (s:Nat))),(24,.p (.i .i64 (mid+(P.length+A.length) - s:Nat))),(1000900,.row 900 N)],[(900,.row 140 7 ((P++(mrg (bfC c) (A.take (s - P.length)) (B.take (mid - s))++(A.drop (s - P.length)++(B.drop (mid - s)++S)))).map Mov.pv) false)],[],false⟩ ?_ ?_
   ·by_cases h1:P.length < s/\s < mid
    ·have u1:(((P.length:Nat):Int) < (s:Nat))=True:=eq_true (by omega)
     have u2:(((s:Nat):Int) < (mid:Nat))=True:=eq_true (by omega)
     have qe:=aI qR (aI @zih (aI @u1 (aI @u2 (aI @lE1 @qN))));repeat' first|refine gC ?_ ?_<;>intro hc<;>try contradiction|refine zl [] (ih (s - P.length+(mid - s)) (by omega) (D:=(P++(A.take (s - P.length)++(B.take (mid - s)++(A.drop (s - P.length)++(B.drop (mid - s)++S)))))) (D':=(P++(mrg (bfC c) (A.take (s - P.length)) (B.take (mid - s))++(A.drop (s - P.length)++(B.drop (mid - s)++S))))) P (A.take (s - P.length)) (B.take (mid - s)) (A.drop (s - P.length)++(B.drop (mid - s)++S)) lE1 rfl rfl sA1 sB1 (by omega) (by omega) (by omega) (P.length:Nat) (s:Nat) (mid:Nat) rfl (by omega) (by omega) hn) ?_|refine gG ?_|show AK _;intro K H|refine H _ _ ?_;clear H K|refine gJ ?_;try exact trivial|omega
     simp only [zcw,lA1,lA2,lB1,lB2];omega
    ·have hDE:(P++(A.take (s - P.length)++(B.take (mid - s)++(A.drop (s - P.length)++(B.drop (mid - s)++S)))))=(P++(mrg (bfC c) (A.take (s - P.length)) (B.take (mid - s))++(A.drop (s - P.length)++(B.drop (mid - s)++S)))):=by
      rcases (show s - P.length=0\/mid - s=0 by omega) with e|e
      ·rw [e];simp [zaE]
      ·rw [e];simp [zaV]
     rw [<-hDE]
     by_cases h2:P.length < s
     ·have u1:(((P.length:Nat):Int) < (s:Nat))=True:=eq_true (by omega)
      have u2:(((s:Nat):Int) < (mid:Nat))=False:=eq_false (by omega)
      have qe:=aI qR (aI @zih (aI @u1 (aI @u2 @lE1)));repeat' first|refine gC ?_ ?_<;>intro hc<;>try contradiction|refine gG ?_|show AK _;intro K H|refine H _ _ ?_;clear H K|refine gJ ?_;try exact trivial|omega
      skip
     ·have u1:(((P.length:Nat):Int) < (s:Nat))=False:=eq_false (by omega)
      have qe:=aI qR (aI @zih (aI @u1 @lE1));repeat' first|refine gC ?_ ?_<;>intro hc<;>try contradiction|refine gG ?_|show AK _;intro K H|refine H _ _ ?_;clear H K|refine gJ ?_;try exact trivial|omega
      skip
   refine Stp.h ?_
   have qe:=aI qR @hN;repeat' first|refine gG ?_|show AK _;intro K H|refine H _ _ ?_;clear H K|refine gJ ?_;try exact trivial|omega
   by_cases h1:mid < mid+(P.length+A.length) - s/\mid+(P.length+A.length) - s < P.length+A.length+B.length
   ·have u1:(((mid:Nat):Int) < (mid+(P.length+A.length) - s:Nat))=True:=eq_true (by omega)
    have u2:(((mid+(P.length+A.length) - s:Nat):Int) < (P.length+A.length+B.length:Nat))=True:=eq_true (by omega)
    have qe:=aI qR (aI @u1 (aI @u2 (aI @lE2 (aI @qN (aI @rtN @rtR)))));repeat' first|refine gC ?_ ?_<;>intro hc<;>try contradiction|refine zl [] (ih (P.length+A.length - s+(P.length+A.length+B.length+s - (mid+(P.length+A.length)))) (by omega) (D:=(P++(mrg (bfC c) (A.take (s - P.length)) (B.take (mid - s))++(A.drop (s - P.length)++(B.drop (mid - s)++S))))) (D':=D') (P++mrg (bfC c) (A.take (s - P.length)) (B.take (mid - s))) (A.drop (s - P.length)) (B.drop (mid - s)) S lE2 (by simp only [List.append_assoc]) hE3 sA2 sB2 (by omega) (by omega) (by omega) (mid:Nat) (mid+(P.length+A.length) - s:Nat) (P.length+A.length+B.length:Nat) (by rw [lM]) (by rw [lM,lA2];omega) (by rw [lM,lA2,lB2];omega) hn) ?_|refine gG ?_|show AK _;intro K H|refine H _ _ ?_;clear H K|refine gJ ?_;try exact trivial|omega
    all_goals first|exact .inl (.mk0 (h2:=by simp only [qS,seval,keepG.eq_1,keepG.eq_2,gLV.eq_2]<;>simp [hN]))
   ·have hDE:(P++(mrg (bfC c) (A.take (s - P.length)) (B.take (mid - s))++(A.drop (s - P.length)++(B.drop (mid - s)++S))))=D':=by
     rw [hE3]
     rcases (show P.length+A.length - s=0\/P.length+A.length+B.length+s - (mid+(P.length+A.length))=0 by omega) with e|e
     ·rw [List.length_eq_zero_iff.1 (lA2.trans e),zaE];simp
     ·rw [List.length_eq_zero_iff.1 (lB2.trans e),zaV];simp
    rw [hDE]
    rw [hDE] at lE2
    by_cases h2:mid < mid+(P.length+A.length) - s
    ·have u1:(((mid:Nat):Int) < (mid+(P.length+A.length) - s:Nat))=True:=eq_true (by omega)
     have u2:(((mid+(P.length+A.length) - s:Nat):Int) < (P.length+A.length+B.length:Nat))=False:=eq_false (by omega)
     have qe:=aI qR (aI @u1 (aI @u2 (aI @lE2 (aI @rtN @rtR))));repeat' first|refine gC ?_ ?_<;>intro hc<;>try contradiction|refine gG ?_|show AK _;intro K H|refine H _ _ ?_;clear H K|refine gJ ?_;try exact trivial|omega
     all_goals first|exact .inl (.mk0 (h2:=by simp only [qS,seval,keepG.eq_1,keepG.eq_2,gLV.eq_2]<;>simp [hN]))
    ·have u1:(((mid:Nat):Int) < (mid+(P.length+A.length) - s:Nat))=False:=eq_false (by omega)
     have qe:=aI qR (aI @u1 (aI @lE2 (aI @rtN @rtR)));repeat' first|refine gC ?_ ?_<;>intro hc<;>try contradiction|refine gG ?_|show AK _;intro K H|refine H _ _ ?_;clear H K|refine gJ ?_;try exact trivial|omega
     all_goals first|exact .inl (.mk0 (h2:=by simp only [qS,seval,keepG.eq_1,keepG.eq_2,gLV.eq_2]<;>simp [hN]))
end
end Go.Proofs.YtijgimeokgbifaaGreat
