/- Contracts of functions, for the claim. No conditions. -/
import Derived.Test.YtijgimeokgbifaaGreatK12
import Derived.Test.YtijgimeokgbifaaGreatK11
import Derived.Test.YtijgimeokgbifaaGreatK10
set_option linter.all false
set_option maxHeartbeats 8000000
set_option maxRecDepth 100000
namespace Go.Proofs.YtijgimeokgbifaaGreat
open Go.RowKit
theorem zgU (i j:Nat) (h:i+j < 1000000000):IntKind.i64.wrap ((IntKind.u64.wrap ((i:Int)+j)).fdiv (2 ^ min (Int.toNat 1) IntKind.u64.bits))=(((i+j) / 2:Nat):Int):=by
 rw [IntKind.wrap_u64,show (2:Int) ^ min (Int.toNat 1) IntKind.u64.bits=2 from rfl,Int.fdiv_eq_ediv_of_nonneg _ (by decide)]
 rw [show (((i:Int)+j) % 18446744073709551616 / 2)=(((i+j) / 2:Nat):Int) by omega]
 exact zho (by omega) (by omega)
def wyD (P:List Mov) (x:Mov) (B S:List Mov) (q:Nat):List Mov:=P++(B.take q++(x::(B.drop q++S)))
theorem zgo {P B S:List Mov} {x:Mov} (q:Nat):(wyD P x B S q).length=P.length+(B.length+1+S.length):=by
 simp only [wyD,List.length_append,List.length_cons,List.length_take,List.length_drop];omega
theorem zjZ {P B S:List Mov} {x:Mov} {q:Nat} (hq:q<=B.length):(wyD P x B S q)[P.length+q]?=some x:=by
 have hl:(P++B.take q).length=P.length+q:=by simp;omega
 rw [wyD,<-List.append_assoc,<-hl]
 have:=zbo (P++B.take q) [x] (B.drop q++S) (j:=0) (by simp)
 simpa using this
theorem ztb {P B S:List Mov} {x y:Mov} {q:Nat} (hy:B[q]?=some y):(wyD P x B S q)[P.length+(q+1)]?=some y:=by
 have hq:=(List.getElem?_eq_some_iff.1 hy).1
 have e:wyD P x B S q=(P++(B.take q++[x]))++(B.drop q++S):=by simp [wyD]
 have hl:(P++(B.take q++[x])).length=P.length+(q+1):=by simp;omega
 rw [e,<-hl]
 have:=zbo (P++(B.take q++[x])) (B.drop q) S (j:=0) (by simp;omega)
 rw [Nat.add_zero] at this
 rw [this,List.getElem?_drop,Nat.add_zero,hy]
theorem ztc {P B S:List Mov} {x y:Mov} {q:Nat} (hy:B[q]?=some y):(wyD P x B S (q+1))[P.length+q]?=some y:=by
 have hq:=(List.getElem?_eq_some_iff.1 hy).1
 have:=zbo P (B.take (q+1)) (x::(B.drop (q+1)++S)) (j:=q) (by simp;omega)
 rw [wyD,this,List.getElem?_take,if_pos (by omega),hy]
theorem zhn {P B S:List Mov} {x y:Mov} {q:Nat} (hy:B[q]?=some y):wyD P x B S q=(P++B.take q)++([x,y]++(B.drop (q+1)++S))/\wyD P x B S (q+1)=(P++B.take q)++([y,x]++(B.drop (q+1)++S)):=by
 have hq:=(List.getElem?_eq_some_iff.1 hy).1
 refine ⟨?_,?_⟩
 ·rw [wyD,List.drop_eq_getElem_cons hq,(List.getElem?_eq_some_iff.1 hy).2];simp
 ·rw [wyD,List.take_add_one,hy];simp
theorem zv6 {P B S:List Mov} {x y:Mov} {q:Nat} (hy:B[q]?=some y):((wyD P x B S q).set (P.length+q) y).set (P.length+(q+1)) x=wyD P x B S (q+1):=by
 have hq:=(List.getElem?_eq_some_iff.1 hy).1
 obtain ⟨e1,e2⟩:=zhn (P:=P) (S:=S) (x:=x) hy
 have hl:(P++B.take q).length=P.length+q:=by simp;omega
 rw [e1,e2,<-Nat.add_assoc,<-hl]
 have h1:=zcz (P++B.take q) [x,y] (B.drop (q+1)++S) (j:=0) y (by simp)
 have h2:=zcz (P++B.take q) [y,y] (B.drop (q+1)++S) (j:=1) x (by simp)
 simp only [Nat.add_zero] at h1
 rw [h1];exact h2
theorem zps {P B S:List Mov} {x y:Mov} {q:Nat} (hy:B[q]?=some y):((wyD P x B S (q+1)).set (P.length+(q+1)) y).set (P.length+q) x=wyD P x B S q:=by
 have hq:=(List.getElem?_eq_some_iff.1 hy).1
 obtain ⟨e1,e2⟩:=zhn (P:=P) (S:=S) (x:=x) hy
 have hl:(P++B.take q).length=P.length+q:=by simp;omega
 rw [e1,e2,<-Nat.add_assoc,<-hl]
 have h1:=zcz (P++B.take q) [y,x] (B.drop (q+1)++S) (j:=1) y (by simp)
 have h2:=zcz (P++B.take q) [y,y] (B.drop (q+1)++S) (j:=0) x (by simp)
 simp only [Nat.add_zero] at h2
 rw [h1];exact h2
theorem zrn {lt:Mov->Mov->Bool} {x:Mov} {B:List Mov} {k:Nat} (h1:∀ y ∈ B.take k,lt y x=true) (h2:∀ y ∈ B.drop k,lt y x=false):mrg lt [x] B=B.take k++x::B.drop k:=by
 have:=zaQ [] [x] (B.take k) (B.drop k) (lt:=lt) (by simp) (λb hb a ha=>by rw [List.mem_singleton.1 ha];exact h1 b hb)
 rw [List.take_append_drop,zaE] at this
 rw [List.nil_append] at this
 rw [this]
 have:=zaQ [x] [] [] (B.drop k) (lt:=lt) (λa ha b hb=>by rw [List.mem_singleton.1 ha];exact h2 b hb) (by simp)
 rw [List.append_nil,List.nil_append,zaV,zaE] at this
 rw [this];rfl
theorem zrm {lt:Mov->Mov->Bool} {y:Mov} {A:List Mov} {k:Nat} (h1:∀ z ∈ A.take k,lt y z=false) (h2:∀ z ∈ A.drop k,lt y z=true):mrg lt A [y]=A.take k++y::A.drop k:=by
 have:=zaQ (A.take k) (A.drop k) [] [y] (lt:=lt) (λa ha b hb=>by rw [List.mem_singleton.1 hb];exact h1 a ha) (by simp)
 rw [List.take_append_drop,List.nil_append,zaV] at this
 rw [this]
 have:=zaQ [] (A.drop k) [y] [] (lt:=lt) (by simp) (λb hb a ha=>by rw [List.mem_singleton.1 hb];exact h2 a ha)
 rw [List.append_nil,List.nil_append,zaE,zaV] at this
 rw [this];rfl
theorem zj3 {lt:Mov->Mov->Bool} (hs:SW lt) {L:List Mov} (h:srt lt L) {i j:Nat} {a b:Mov} (hij:i<=j) (ha:L[i]?=some a) (hb:L[j]?=some b):lt b a=false:=by
 by_cases e:i=j
 ·subst e;rw [ha] at hb;cases hb
  cases hh:lt a a
  ·rfl
  ·rw [<-hs.asym _ _ hh,hh]
 ·have hi:=(List.getElem?_eq_some_iff.1 ha).1
  have hj:=(List.getElem?_eq_some_iff.1 hb).1
  have:=List.pairwise_iff_getElem.1 h i j hi hj (by omega)
  rw [List.getElem?_eq_getElem hi] at ha
  rw [List.getElem?_eq_getElem hj] at hb
  rw [Option.some.inj ha,Option.some.inj hb] at this;exact this
theorem zeZ {α:Type} {L:List α} {k:Nat} {a:α} (h:a ∈ L.take k):∃ i,i < k/\L[i]?=some a:=by
 obtain ⟨i,hi⟩:=List.getElem?_of_mem h
 have:=(List.getElem?_eq_some_iff.1 hi).1
 simp only [List.length_take] at this
 rw [List.getElem?_take,if_pos (by omega)] at hi
 exact ⟨i,by omega,hi⟩
theorem ze0 {α:Type} {L:List α} {k:Nat} {a:α} (h:a ∈ L.drop k):∃ i,k<=i/\L[i]?=some a:=by
 obtain ⟨i,hi⟩:=List.getElem?_of_mem h
 rw [List.getElem?_drop] at hi
 exact ⟨k+i,by omega,hi⟩
section
variable {f:Nat} {c:Mov->Mov->Int}
theorem bf_t {a b:Mov} (h:bfC c a b=true):(c a b < 0)=True:=eq_true (by simpa [bfC] using h)
theorem bf_f {a b:Mov} (h:bfC c a b=false):(c a b < 0)=False:=eq_false (by simpa [bfC] using h)
theorem zsn (hf:∀ a b:Mov,Pure Tryz.prog f [a.pv,b.pv] (.i .i64 (c a b))) (hs:SW (bfC c)) {D D':List Mov} {N:Nat} (P B S:List Mov) (x:Mov) (hN:D.length=N) (hD:D=P++([x]++(B++S))) (hD':D'=P++(mrg (bfC c) [x] B++S)) (sB:srt (bfC c) B) (a m b:Int) (ha:a=(P.length:Nat)) (hm:m=(P.length+1:Nat)) (hb:b=(P.length+1+B.length:Nat)) (hn:N<=1000000) :
  Acts Tryz.prog 277 [.row 900 N,.p (.i .i64 a),.p (.i .i64 m),.p (.i .i64 b),.p (.fn (.func f) [] [])] [(900,.row 140 7 (D.map Mov.pv) false)] (.p (.tup [])) [(900,.row 140 7 (D'.map Mov.pv) false)]:=by
 subst ha hm hb
 have hlen:N=P.length+(1+(B.length+S.length)):=by rw [<-hN,hD];simp only [List.length_append,List.length_cons,List.length_nil]
 have hlen':D'.length=N:=by rw [hD',hlen];simp [zcw];omega
 have e0:D=wyD P x B S 0:=by rw [hD,wyD];simp
 have hx:D[P.length]?=some x:=by rw [e0];exact zjZ (q:=0) (by omega)
 have hDB:∀ q y,B[q]?=some y->D[P.length+1+q]?=some y:=λq y hy=>by
  have hq:=(List.getElem?_eq_some_iff.1 hy).1
  have e:D=(P++[x])++(B++S):=by rw [hD];simp
  have hl:(P++[x]).length=P.length+1:=by simp
  rw [e,<-hl,zbo _ _ _ hq,hy]
 refine zR (cF Tryz.func277 Tryz.f277.eq_1) (by simp) (by simp [scPs,scP,zk,hN]) (by simp [scObj]) ⟨rfl,trivial⟩ (by simp [scObj]) (by simp [zc2,zk,hN,hlen']) λX hX=>?_
 unfold zD ghO
 have z1:(((P.length+1:Nat):Int) - (P.length:Nat)=1)=True:=eq_true (by omega)
 have qe:=aI qR (aI @gLV.eq_2 @z1);repeat' first|refine gC ?_ ?_<;>intro hc<;>try contradiction|refine gG ?_|show AK _;intro K H|refine H _ _ ?_;clear H K|refine gJ ?_;try exact trivial|omega
 refine zj (κ:=Nat × Nat) (λk=>⟨[(0,.row 900 N),(1,.p (.i .i64 (P.length:Nat))),(2,.p (.i .i64 (P.length+1:Nat))),(3,.p (.i .i64 (P.length+1+B.length:Nat))),(4,.p (.fn (.func f) [] [])),(10,.p (.i .i64 (k.1:Nat))),(11,.p (.i .i64 (k.2:Nat))),(1000900,.row 900 N)],[(900,.row 140 7 (D.map Mov.pv) false)],[],false⟩)
  (λk=>P.length+1<=k.1/\k.1<=k.2/\k.2<=P.length+1+B.length/\(∀ y ∈ B.take (k.1 - (P.length+1)),bfC c y x=true)/\∀ y ∈ B.drop (k.2 - (P.length+1)),bfC c y x=false) (λk=>k.2 - k.1) (P.length+1,P.length+1+B.length) ?_ ?_ ?_
 ·simp only [qS,seval,gLV.eq_2]<;>simp [hN]
 ·refine ⟨by simp,by simp,by simp,?_,?_⟩
  ·simp
  ·simp
 ·intro k hk
  obtain ⟨i,j⟩:=k
  simp only at hk
  obtain ⟨k1,k2,k3,k4,k5⟩:=hk
  have hm:=zgU i j (by omega)
  by_cases hij:i < j
  ·have hij':((i:Int) < j)=True:=eq_true (by omega)
   obtain ⟨y,hy⟩:=zm (i:=(i+j) / 2 - (P.length+1)) (l:=B) (by omega)
   have hy2:=hDB _ y hy
   rw [show P.length+1+((i+j) / 2 - (P.length+1))=(i+j) / 2 by omega] at hy2
   cases hcc:bfC c y x with
   | true=>
    have hc':=bf_t hcc
    have qe:=aI qR (aI @hij' (aI @hm (aI @hN (aI @hx (aI @hy2 (aI @hc' (aI @rtN @rtR)))))));repeat' first|refine gC ?_ ?_<;>intro hc<;>try contradiction|refine zq (hf y x) ?_|refine gG ?_|show AK _;intro K H|refine H _ _ ?_;clear H K|refine gJ ?_;try exact trivial|omega
    refine ⟨((i+j) / 2+1,j),⟨by simp only;omega,by simp only;omega,k3,λz hz=>?_,k5⟩,by simp only;omega,by simp⟩
    obtain ⟨q,hq,hz⟩:=zeZ hz
    cases hh:bfC c z x with
    | true=>rfl
    | false=>
     have h2:=zj3 hs sB (show q<=(i+j) / 2 - (P.length+1) by simp only at hq;omega) hz hy
     rw [hs.nt _ _ _ h2 hh] at hcc;cases hcc
   | false=>
    have hc':=bf_f hcc
    have qe:=aI qR (aI @hij' (aI @hm (aI @hN (aI @hx (aI @hy2 (aI @hc' (aI @rtN @rtR)))))));repeat' first|refine gC ?_ ?_<;>intro hc<;>try contradiction|refine zq (hf y x) ?_|refine gG ?_|show AK _;intro K H|refine H _ _ ?_;clear H K|refine gJ ?_;try exact trivial|omega
    refine ⟨(i,(i+j) / 2),⟨k1,by simp only;omega,by simp only;omega,k4,λz hz=>?_⟩,by simp only;omega,by simp⟩
    obtain ⟨q,hq,hz⟩:=ze0 hz
    have h2:=zj3 hs sB hq hy hz
    exact hs.nt _ _ _ h2 hcc
  ·have e:i=j:=by omega
   subst e
   have hij':((i:Int) < i)=False:=eq_false (by omega)
   have hmr:=zrn k4 k5
   generalize hq:i - (P.length+1)=K at k4 k5 hmr
   have hi:i=P.length+1+K:=by omega
   subst hi
   have qe:=aI qR (aI @hij' (aI @hN (aI @rtN @rtR)));repeat' first|refine gC ?_ ?_<;>intro hc<;>try contradiction|refine gG ?_|show AK _;intro K H|refine H _ _ ?_;clear H K|refine gJ ?_;try exact trivial|omega
   refine zj (κ:=Nat) (λq=>⟨[(0,.row 900 N),(1,.p (.i .i64 (P.length:Nat))),(10,.p (.i .i64 (P.length+1+K:Nat))),(13,.p (.i .i64 (P.length+q:Nat))),(1000900,.row 900 N)],[(900,.row 140 7 ((wyD P x B S q).map Mov.pv) false)],[],false⟩) (λq=>q<=K) (λq=>K - q) 0 ?_ ?_ ?_
   ·refine gJ ?_;simp [<-e0,hN]
   ·simp
   ·intro q hqK
    have hml:(wyD P x B S q).length=N:=by rw [zgo];omega
    have j1:(((P.length+q:Nat):Int)+1).toNat=P.length+(q+1):=by omega
    by_cases hlt:q < K
    ·obtain ⟨y,hy⟩:=zm (i:=q) (l:=B) (by omega)
     have h1:=zjZ (P:=P) (S:=S) (x:=x) (B:=B) (q:=q) (by omega)
     have h2:=ztb (P:=P) (S:=S) (x:=x) hy
     have h3:=zv6 (P:=P) (S:=S) (x:=x) hy
     have hlt':(((P.length+q:Nat):Int) < ((P.length+1+K:Nat):Int) - 1)=True:=eq_true (by omega)
     have qe:=aI qR (aI @hml (aI @hlt' (aI @j1 (aI @h1 (aI @h2 (aI @rtN @rtR))))));repeat' first|refine gC ?_ ?_<;>intro hc<;>try contradiction|refine gG ?_|show AK _;intro K H|refine H _ _ ?_;clear H K|refine gJ ?_;try exact trivial|omega
     exact ⟨q+1,by omega,by omega,by simp only [LV.p.injEq,PV.i.injEq,true_and];omega,by rw [<-h3,List.map_set,List.map_set],by rw [zgo];omega⟩
    ·have e:q=K:=by omega
     subst e
     have hlt':(((P.length+q:Nat):Int) < ((P.length+1+q:Nat):Int) - 1)=False:=eq_false (by omega)
     have qe:=aI qR (aI @hml (aI @hlt' (aI @rtN @rtR)));repeat' first|refine gC ?_ ?_<;>intro hc<;>try contradiction|refine gG ?_|show AK _;intro K H|refine H _ _ ?_;clear H K|refine gJ ?_;try exact trivial|omega
     rw [show wyD P x B S q=D' by rw [hD',hmr,wyD];simp]
     exact .inl (.mk0 (h2:=by simp only [qS,seval,keepG.eq_1,keepG.eq_2,gLV.eq_2]<;>simp [hN]))
end
section
variable {f:Nat} {c:Mov->Mov->Int}
theorem zsm (hf:∀ a b:Mov,Pure Tryz.prog f [a.pv,b.pv] (.i .i64 (c a b))) (hs:SW (bfC c)) {D D':List Mov} {N:Nat} (P A S:List Mov) (y:Mov) (hN:D.length=N) (hD:D=P++(A++([y]++S))) (hD':D'=P++(mrg (bfC c) A [y]++S)) (sA:srt (bfC c) A) (h1A:1 < A.length) (a m b:Int) (ha:a=(P.length:Nat)) (hm:m=(P.length+A.length:Nat)) (hb:b=(P.length+A.length+1:Nat)) (hn:N<=1000000) :
  Acts Tryz.prog 277 [.row 900 N,.p (.i .i64 a),.p (.i .i64 m),.p (.i .i64 b),.p (.fn (.func f) [] [])] [(900,.row 140 7 (D.map Mov.pv) false)] (.p (.tup [])) [(900,.row 140 7 (D'.map Mov.pv) false)]:=by
 subst ha hm hb
 have hlen:N=P.length+(A.length+(1+S.length)):=by rw [<-hN,hD];simp only [List.length_append,List.length_cons,List.length_nil]
 have hlen':D'.length=N:=by rw [hD',hlen];simp [zcw];omega
 have e0:D=wyD P y A S A.length:=by rw [hD,wyD];simp
 have hyD:D[P.length+A.length]?=some y:=by rw [e0];exact zjZ (Nat.le_refl _)
 have hDA:∀ q z,A[q]?=some z->D[P.length+q]?=some z:=λq z hz=>by
  rw [hD,zbo _ _ _ (List.getElem?_eq_some_iff.1 hz).1,hz]
 refine zR (cF Tryz.func277 Tryz.f277.eq_1) (by simp) (by simp [scPs,scP,zk,hN]) (by simp [scObj]) ⟨rfl,trivial⟩ (by simp [scObj]) (by simp [zc2,zk,hN,hlen']) λX hX=>?_
 unfold zD ghO
 have z1:(((P.length+A.length:Nat):Int) - (P.length:Nat)=1)=False:=eq_false (by omega)
 have z2:(((P.length+A.length+1:Nat):Int) - (P.length+A.length:Nat)=1)=True:=eq_true (by omega)
 have qe:=aI qR (aI @gLV.eq_2 (aI @z1 @z2));repeat' first|refine gC ?_ ?_<;>intro hc<;>try contradiction|refine gG ?_|show AK _;intro K H|refine H _ _ ?_;clear H K|refine gJ ?_;try exact trivial|omega
 refine zj (κ:=Nat × Nat) (λk=>⟨[(0,.row 900 N),(1,.p (.i .i64 (P.length:Nat))),(2,.p (.i .i64 (P.length+A.length:Nat))),(4,.p (.fn (.func f) [] [])),(14,.p (.i .i64 (k.1:Nat))),(15,.p (.i .i64 (k.2:Nat))),(1000900,.row 900 N)],[(900,.row 140 7 (D.map Mov.pv) false)],[],false⟩)
  (λk=>P.length<=k.1/\k.1<=k.2/\k.2<=P.length+A.length/\(∀ z ∈ A.take (k.1 - P.length),bfC c y z=false)/\∀ z ∈ A.drop (k.2 - P.length),bfC c y z=true) (λk=>k.2 - k.1) (P.length,P.length+A.length) ?_ ?_ ?_
 ·simp only [qS,seval,gLV.eq_2]<;>simp [hN]
 ·refine ⟨by simp,by simp,by simp,?_,?_⟩
  ·simp
  ·simp
 ·intro k hk
  obtain ⟨i,j⟩:=k
  simp only at hk
  obtain ⟨k1,k2,k3,k4,k5⟩:=hk
  have hm:=zgU i j (by omega)
  by_cases hij:i < j
  ·have hij':((i:Int) < j)=True:=eq_true (by omega)
   obtain ⟨z,hz⟩:=zm (i:=(i+j) / 2 - P.length) (l:=A) (by omega)
   have hz2:=hDA _ z hz
   rw [show P.length+((i+j) / 2 - P.length)=(i+j) / 2 by omega] at hz2
   cases hcc:bfC c y z with
   | false=>
    have hc':=bf_f hcc
    have qe:=aI qR (aI @hij' (aI @hm (aI @hN (aI @hyD (aI @hz2 (aI @hc' (aI @rtN @rtR)))))));repeat' first|refine gC ?_ ?_<;>intro hc<;>try contradiction|refine zq (hf y z) ?_|refine gG ?_|show AK _;intro K H|refine H _ _ ?_;clear H K|refine gJ ?_;try exact trivial|omega
    refine ⟨((i+j) / 2+1,j),⟨by simp only;omega,by simp only;omega,k3,λw hw=>?_,k5⟩,by simp only;omega,by simp⟩
    obtain ⟨q,hq,hw⟩:=zeZ hw
    have h2:=zj3 hs sA (show q<=(i+j) / 2 - P.length by simp only at hq;omega) hw hz
    exact hs.nt _ _ _ hcc h2
   | true=>
    have hc':=bf_t hcc
    have qe:=aI qR (aI @hij' (aI @hm (aI @hN (aI @hyD (aI @hz2 (aI @hc' (aI @rtN @rtR)))))));repeat' first|refine gC ?_ ?_<;>intro hc<;>try contradiction|refine zq (hf y z) ?_|refine gG ?_|show AK _;intro K H|refine H _ _ ?_;clear H K|refine gJ ?_;try exact trivial|omega
    refine ⟨(i,(i+j) / 2),⟨k1,by simp only;omega,by simp only;omega,k4,λw hw=>?_⟩,by simp only;omega,by simp⟩
    obtain ⟨q,hq,hw⟩:=ze0 hw
    have h2:=zj3 hs sA hq hz hw
    cases hh:bfC c y w with
    | true=>rfl
    | false=>rw [hs.nt _ _ _ hh h2] at hcc;cases hcc
  ·have e:i=j:=by omega
   subst e
   have hij':((i:Int) < i)=False:=eq_false (by omega)
   have hmr:=zrm k4 k5
   generalize hq:i - P.length=K at k4 k5 hmr
   have hi:i=P.length+K:=by omega
   subst hi
   have qe:=aI qR (aI @hij' (aI @hN (aI @rtN @rtR)));repeat' first|refine gC ?_ ?_<;>intro hc<;>try contradiction|refine gG ?_|show AK _;intro K H|refine H _ _ ?_;clear H K|refine gJ ?_;try exact trivial|omega
   refine zj (κ:=Nat) (λq=>⟨[(0,.row 900 N),(14,.p (.i .i64 (P.length+K:Nat))),(17,.p (.i .i64 (P.length+q:Nat))),(1000900,.row 900 N)],[(900,.row 140 7 ((wyD P y A S q).map Mov.pv) false)],[],false⟩) (λq=>K<=q/\q<=A.length) (λq=>q - K) A.length ?_ ?_ ?_
   ·refine gJ ?_;simp [<-e0,hN]
   ·constructor<;>omega
   ·intro q hqK
    have hml:(wyD P y A S q).length=N:=by rw [zgo];omega
    by_cases hlt:K < q
    ·obtain ⟨q,rfl⟩:∃ q',q=q'+1:=⟨q - 1,by omega⟩
     obtain ⟨z,hz⟩:=zm (i:=q) (l:=A) (by omega)
     have j1:(((P.length+(q+1):Nat):Int) - 1).toNat=P.length+q:=by omega
     have h1:=zjZ (P:=P) (S:=S) (x:=y) (B:=A) (q:=q+1) (by omega)
     have h2:=ztc (P:=P) (S:=S) (x:=y) hz
     have h3:=zps (P:=P) (S:=S) (x:=y) hz
     have hlt':(((P.length+K:Nat):Int) < ((P.length+(q+1):Nat):Int))=True:=eq_true (by omega)
     have qe:=aI qR (aI @hml (aI @hlt' (aI @j1 (aI @h1 (aI @h2 (aI @rtN @rtR))))));repeat' first|refine gC ?_ ?_<;>intro hc<;>try contradiction|refine gG ?_|show AK _;intro K H|refine H _ _ ?_;clear H K|refine gJ ?_;try exact trivial|omega
     exact ⟨q,by constructor<;>omega,by omega,by simp only [LV.p.injEq,PV.i.injEq,true_and];omega,by rw [<-h3,List.map_set,List.map_set],by rw [zgo];omega⟩
    ·have e:q=K:=by omega
     subst e
     have hlt':(((P.length+q:Nat):Int) < ((P.length+q:Nat):Int))=False:=eq_false (by omega)
     have qe:=aI qR (aI @hml (aI @hlt' (aI @rtN @rtR)));repeat' first|refine gC ?_ ?_<;>intro hc<;>try contradiction|refine gG ?_|show AK _;intro K H|refine H _ _ ?_;clear H K|refine gJ ?_;try exact trivial|omega
     rw [show wyD P y A S q=D' by rw [hD',hmr,wyD];simp]
     exact .inl (.mk0 (h2:=by simp only [qS,seval,keepG.eq_1,keepG.eq_2,gLV.eq_2]<;>simp [hN]))
end
end Go.Proofs.YtijgimeokgbifaaGreat
