/- Contracts. No conditions. -/
import Derived.Test.YtbgckikhhcbmpaaGreatK5
set_option linter.all false
set_option maxHeartbeats 8000000
set_option maxRecDepth 100000
namespace Go.Proofs.YtbgckikhhcbmpaaGreat
open Go.RowKit Tryz
variable {e l m s:Int} {c:Int->Int->Int} {B D D' P S:List Mov} {cs:List PV} {a b x y:Mov} {lt:Mov->Mov->Bool} {N f i j k q:Nat} {w:Wis}
def zfn {l:Lim} (h:zr l=0) {b:Int} (hb:b ∈ zaq l):0<=b/\b<=143999999:=by
 have hp:=zaI (zaa h).2.2.2.2.2.2.2.1;obtain ⟨n,hn,hb⟩:=xaw.1 hb;have:=zaX h hb
 omega
abbrev fitC (ls:List Lim) (m:List Mov) (r:Req):Int:=zn [bothC ls m,zbY r]
def fitR (ls:List Lim) (m:List Mov) (r:Req):Bool:=decide (fitC ls m r=0) && fitsB ls m r
def zae {α:Type} (P X S:List α) (h:j < X.length):(P++(X++S))[P.length+j]?=X[j]?:=by
 rw [xaB (by omega),xce,xaT h]
def za6 {α:Type} (P X S:List α) (v:α) (h:j < X.length):(P++(X++S)).set (P.length+j) v=P++(X.set j v++S):=by
 rw [xbO _ _ (by omega),xce,List.set_append_left _ _ h]
def swU (U V:List Mov) (i:Nat):List Mov:=V.take i++U.drop i
def swD (P U Q V S:List Mov) (i:Nat):List Mov:=P++(swU U V i++(Q++(swU V U i++S)))
def zde {U V:List Mov} (h:U.length=V.length) (hi:i<=U.length):(swU U V i).length=U.length:=by simp [swU];omega
def zwi {U V:List Mov} (h:U.length=V.length) (hi:i < U.length):(swU U V i)[i]?=U[i]?:=by
 have hl:(V.take i).length=i:=by simp;omega
 rw [swU,xaB (by omega),hl,xcm,xaY,xbt]
def zps {U V:List Mov} (h:U.length=V.length) {v:Mov} (hv:V[i]?=some v):(swU U V i).set i v=swU U V (i+1):=by
 have hi:=(xaa.1 hv).1;have hl:(V.take i).length=i:=by simp;omega
 rw [swU,swU,xbO _ _ (by omega),hl,xcm,xaW,hv,xaE (by omega),List.set_cons_zero]
 simp
def swD_0 (P U Q V S:List Mov):swD P U Q V S 0=P++(U++(Q++(V++S))):=by simp [swD,swU]
def swD_n {U Q V:List Mov} (h:U.length=V.length):swD P U Q V S U.length=P++(V++(Q++(U++S))):=by
 simp only [swD,swU,xbM,xah,xar];rw [h,xah,xbM,xar]
def zpv {U Q V:List Mov} (h:U.length=V.length) (hi:i<=U.length):(swD P U Q V S i).length=P.length+(U.length+(Q.length+(V.length+S.length))):=by
 simp only [swD,xad,zde h hi,zde h.symm (i:=i) (by omega)]
def zw9 {U Q V:List Mov} (h:U.length=V.length) {u:Mov} (hu:U[i]?=some u):(swD P U Q V S i)[P.length+i]?=some u:=by
 have hi:=(xaa.1 hu).1;rw [swD,zae _ _ _ (by rw [zde h (by omega)];exact hi),zwi h hi,hu]
def zw8 {U Q V:List Mov} (h:U.length=V.length) {v:Mov} (hv:V[i]?=some v):(swD P U Q V S i)[P.length+U.length+Q.length+i]?=some v:=by
 have hi:=(xaa.1 hv).1;have e:swD P U Q V S i=(P++(swU U V i++Q))++(swU V U i++S):=by simp [swD]
 have hl:(P++(swU U V i++Q)).length=P.length+U.length+Q.length:=by simp only [xad,zde h (show i<=U.length by omega)];omega
 rw [e,<-hl,zae _ _ _ (by rw [zde h.symm (by omega)];exact hi),zwi h.symm hi,hv]
def zsV {U Q V:List Mov} (h:U.length=V.length) {u v:Mov} (hu:U[i]?=some u) (hv:V[i]?=some v):((swD P U Q V S i).set (P.length+i) v).set (P.length+U.length+Q.length+i) u=swD P U Q V S (i+1):=by
 have hi:=(xaa.1 hu).1;have hj:=(xaa.1 hv).1;rw [swD,za6 _ _ _ _ (by rw [zde h (by omega)];exact hi),zps h hv]
 have e:P++(swU U V (i+1)++(Q++(swU V U i++S)))=(P++(swU U V (i+1)++Q))++(swU V U i++S):=by simp
 have hl:(P++(swU U V (i+1)++Q)).length=P.length+U.length+Q.length:=by simp only [xad,zde h (show i+1<=U.length by omega)];omega
 rw [e,<-hl,za6 _ _ _ _ (by rw [zde h.symm (by omega)];exact hj),zps h.symm hu]
 simp [swD]
def zl9 (f:Nat) (P U Q V S:List Mov) (hN:D.length=N) (hD:D=P++(U++(Q++(V++S)))) (hD':D'=P++(V++(Q++(U++S)))) (h:U.length=V.length) (a b k:Int) (ha:a=P.length) (hb:b=(P.length+U.length+Q.length:Nat)) (hk:k=U.length) (hn:N<=1000000) :
  zbk prog 306 [.row 900 N,.p (.i .i64 a),.p (.i .i64 b),.p (.i .i64 k),.p (.fn (.func f) [] [])] [(900,.row 194 7 (D.map Mov.pv) false)] (.p (.tup [])) [(900,.row 194 7 (D'.map Mov.pv) false)]:=by
 have hlen:D.length=P.length+(U.length+(Q.length+(V.length+S.length))):=by rw [hD];simp
 have hlen':D'.length=N:=by rw [hD',<-hN,hlen];simp;omega
 have e0:D=swD P U Q V S 0:=by rw [swD_0,hD]
 refine zD (cF func306 f306.eq_1) (by simp) (by simp [scPs,scP,zm,hN]) (by simp [scObj]) ⟨rfl,trivial⟩ (by simp [scObj]) (by simp [zcQ,zm,hN,hlen']) λX hX=>?_
 unfold zx ghO;have qe:=aI qR @gLV.eq_2;refine gE2 ?_;refine zh (κ:=Nat) (λi=>⟨[(0,.row 900 N),(1,.p (.i .i64 a)),(2,.p (.i .i64 b)),(3,.p (.i .i64 k)),(10,.p (.i .i64 i)),(1000900,.row 900 N)],[(900,.row 194 7 ((swD P U Q V S i).map Mov.pv) false)],[],false⟩) (λi=>i<=U.length) (λi=>U.length - i) 0 ?_ ?_ ?_
 ·simp only [qS,seval,gLV.eq_2]<;>simp [<-e0,hN]
 ·simp
 ·intro i hi;have hsl:=zpv (P:=P) (Q:=Q) (S:=S) h hi;have hsN:(swD P U Q V S i).length=N:=by omega
  have i1:(a+(i:Int)).toNat=P.length+i:=by omega
  have i2:(b+(i:Int)).toNat=P.length+U.length+Q.length+i:=by omega
  by_cases hlt:i < U.length
  ·obtain ⟨u,hu⟩:=zj (i:=i) (l:=U) hlt;obtain ⟨v,hv⟩:=zj (i:=i) (l:=V) (by omega)
   have h1:=zw9 (P:=P) (Q:=Q) (S:=S) h hu;have h2:=zw8 (P:=P) (Q:=Q) (S:=S) h hv;have hik:((i:Int) < k)=True:=eq_true (by omega)
   have qe:=aI qR (aI @hsN (aI @i1 (aI @i2 (aI @h1 (aI @h2 (aI @hik (aI @rtN @rtR)))))));refine gE2 ?_;exact ⟨i+1,by omega,by omega,by simp,by rw [<-zsV h hu hv,xbf,xbf],by rw [zpv h (by omega)];omega⟩
  ·have hik:((i:Int) < k)=False:=eq_false (by omega)
   have qe:=aI qR (aI @hsN (aI @hik (aI @rtN @rtR)));refine gE2 ?_;have e:i=U.length:=by omega
   subst e;rw [swD_n h,<-hD'];exact .inl (.mk0 (h2:=by simp only [qS,seval,keepG.eq_1,keepG.eq_2,gLV.eq_2]<;>simp [hN]))
def zdo (i j:Nat) (h:i+j < 1000000000):IntKind.i64.wrap ((IntKind.u64.wrap ((i:Int)+j)).fdiv (2 ^ min (Int.toNat 1) IntKind.u64.bits))=(((i+j) / 2:Nat):Int):=by
 rw [IntKind.wrap_u64,show (2:Int) ^ min (Int.toNat 1) IntKind.u64.bits=2 from rfl,Int.fdiv_eq_ediv_of_nonneg _ (by decide)]
 rw [show (((i:Int)+j) % 18446744073709551616 / 2)=(((i+j) / 2:Nat):Int) by omega]
 exact zjo (by omega) (by omega)
def wyD (P:List Mov) (x:Mov) (B S:List Mov) (q:Nat):List Mov:=P++(B.take q++(x::(B.drop q++S)))
def zh0 (q:Nat):(wyD P x B S q).length=P.length+(B.length+1+S.length):=by
 simp only [wyD,xad,xaz,xan,xav];omega
def zma (hq:q<=B.length):(wyD P x B S q)[P.length+q]?=some x:=by
 have hl:(P++B.take q).length=P.length+q:=by simp;omega
 rw [wyD,<-xak,<-hl];have:=zae (P++B.take q) [x] (B.drop q++S) (j:=0) (by simp)
 simpa using this
def zw0 (hy:B[q]?=some y):(wyD P x B S q)[P.length+(q+1)]?=some y:=by
 have hq:=(xaa.1 hy).1;have e:wyD P x B S q=(P++(B.take q++[x]))++(B.drop q++S):=by simp [wyD]
 have hl:(P++(B.take q++[x])).length=P.length+(q+1):=by simp;omega
 rw [e,<-hl];have:=zae (P++(B.take q++[x])) (B.drop q) S (j:=0) (by simp;omega)
 rw [xbt] at this;rw [this,xaY,xbt,hy]
def zw1 (hy:B[q]?=some y):(wyD P x B S (q+1))[P.length+q]?=some y:=by
 have hq:=(xaa.1 hy).1;have:=zae P (B.take (q+1)) (x::(B.drop (q+1)++S)) (j:=q) (by simp;omega)
 rw [wyD,this,xaQ,if_pos (by omega),hy]
def zjn (hy:B[q]?=some y):wyD P x B S q=(P++B.take q)++([x,y]++(B.drop (q+1)++S))/\wyD P x B S (q+1)=(P++B.take q)++([y,x]++(B.drop (q+1)++S)):=by
 have hq:=(xaa.1 hy).1;refine ⟨?_,?_⟩
 ·rw [wyD,xaE hq,(xaa.1 hy).2];simp
 ·rw [wyD,xaW,hy];simp
def zz2 (hy:B[q]?=some y):((wyD P x B S q).set (P.length+q) y).set (P.length+(q+1)) x=wyD P x B S (q+1):=by
 have hq:=(xaa.1 hy).1;obtain ⟨e1,e2⟩:=zjn (P:=P) (S:=S) (x:=x) hy;have hl:(P++B.take q).length=P.length+q:=by simp;omega
 rw [e1,e2,<-xbA,<-hl];have h1:=za6 (P++B.take q) [x,y] (B.drop (q+1)++S) (j:=0) y (by simp)
 have h2:=za6 (P++B.take q) [y,y] (B.drop (q+1)++S) (j:=1) x (by simp)
 simp only [xbt] at h1;rw [h1];exact h2
def zsB (hy:B[q]?=some y):((wyD P x B S (q+1)).set (P.length+(q+1)) y).set (P.length+q) x=wyD P x B S q:=by
 have hq:=(xaa.1 hy).1;obtain ⟨e1,e2⟩:=zjn (P:=P) (S:=S) (x:=x) hy;have hl:(P++B.take q).length=P.length+q:=by simp;omega
 rw [e1,e2,<-xbA,<-hl];have h1:=za6 (P++B.take q) [y,x] (B.drop (q+1)++S) (j:=1) y (by simp)
 have h2:=za6 (P++B.take q) [y,y] (B.drop (q+1)++S) (j:=0) x (by simp)
 simp only [xbt] at h2;rw [h1];exact h2
def zuy (h1:∀ y ∈ B.take k,lt y x=true) (h2:∀ y ∈ B.drop k,lt y x=false):mrg lt [x] B=B.take k++x::B.drop k:=by
 have:=zah [] [x] (B.take k) (B.drop k) (lt:=lt) (by simp) (λb hb a ha=>by rw [xaX.1 ha];exact h1 b hb)
 rw [xaq,zai] at this;rw [xaL] at this;rw [this];have:=zah [x] [] [] (B.drop k) (lt:=lt) (λa ha b hb=>by rw [xaX.1 ha];exact h2 b hb) (by simp)
 rw [xar,xaL,zaE,zai] at this;rw [this];rfl
def zux {A:List Mov} (h1:∀ z ∈ A.take k,lt y z=false) (h2:∀ z ∈ A.drop k,lt y z=true):mrg lt A [y]=A.take k++y::A.drop k:=by
 have:=zah (A.take k) (A.drop k) [] [y] (lt:=lt) (λa ha b hb=>by rw [xaX.1 hb];exact h1 a ha) (by simp)
 rw [xaq,xaL,zaE] at this;rw [this];have:=zah [] (A.drop k) [y] [] (lt:=lt) (by simp) (λb hb a ha=>by rw [xaX.1 hb];exact h2 a ha)
 rw [xar,xaL,zai,zaE] at this;rw [this];rfl
def zmo (hs:SW lt) {L:List Mov} (h:srt lt L) (hij:i<=j) (ha:L[i]?=some a) (hb:L[j]?=some b):lt b a=false:=by
 by_cases e:i=j
 ·subst e;rw [ha] at hb;cases hb;cases hh:lt a a
  ·rfl
  ·rw [<-hs.asym _ _ hh,hh]
 ·have hi:=(xaa.1 ha).1;have hj:=(xaa.1 hb).1;have:=xa1.1 h i j hi hj (by omega)
  rw [xac hi] at ha;rw [xac hj] at hb;rw [xa5 ha,xa5 hb] at this;exact this
def zcZ {α:Type} {L:List α} {a:α} (h:a ∈ L.take k):∃ i,i < k/\L[i]?=some a:=by
 obtain ⟨i,hi⟩:=xa9 h;have:=(xaa.1 hi).1;simp only [xan] at this;rw [xaQ,if_pos (by omega)] at hi
 exact ⟨i,by omega,hi⟩
def zc0 {α:Type} {L:List α} {a:α} (h:a ∈ L.drop k):∃ i,k<=i/\L[i]?=some a:=by
 obtain ⟨i,hi⟩:=xa9 h;rw [xaY] at hi;exact ⟨k+i,by omega,hi⟩
section
variable {f:Nat} {c:Mov->Mov->Int}
def bf_t (h:bfC c a b=true):(c a b < 0)=True:=eq_true (by simpa [bfC] using h)
def bf_f (h:bfC c a b=false):(c a b < 0)=False:=eq_false (by simpa [bfC] using h)
def zv9 (hf:∀ a b:Mov,Pure prog f [a.pv,b.pv] (.i .i64 (c a b))) (hs:SW (bfC c)) (P B S:List Mov) (x:Mov) (hN:D.length=N) (hD:D=P++([x]++(B++S))) (hD':D'=P++(mrg (bfC c) [x] B++S)) (sB:srt (bfC c) B) (a m b:Int) (ha:a=(P.length:Nat)) (hm:m=(P.length+1:Nat)) (hb:b=(P.length+1+B.length:Nat)) (hn:N<=1000000) :
  zbk prog 268 [.row 900 N,.p (.i .i64 a),.p (.i .i64 m),.p (.i .i64 b),.p (.fn (.func f) [] [])] [(900,.row 194 7 (D.map Mov.pv) false)] (.p (.tup [])) [(900,.row 194 7 (D'.map Mov.pv) false)]:=by
 subst ha hm hb;have hlen:N=P.length+(1+(B.length+S.length)):=by rw [<-hN,hD];simp only [xad,xaz,xbB]
 have hlen':D'.length=N:=by rw [hD',hlen];simp [zbp];omega
 have e0:D=wyD P x B S 0:=by rw [hD,wyD];simp
 have hx:D[P.length]?=some x:=by rw [e0];exact zma (q:=0) (by omega)
 have hDB:∀ q y,B[q]?=some y->D[P.length+1+q]?=some y:=λq y hy=>by
  have hq:=(xaa.1 hy).1;have e:D=(P++[x])++(B++S):=by rw [hD];simp
  have hl:(P++[x]).length=P.length+1:=by simp
  rw [e,<-hl,zae _ _ _ hq,hy]
 refine zD (cF func268 f268.eq_1) (by simp) (by simp [scPs,scP,zm,hN]) (by simp [scObj]) ⟨rfl,trivial⟩ (by simp [scObj]) (by simp [zcQ,zm,hN,hlen']) λX hX=>?_
 unfold zx ghO;have z1:(((P.length+1:Nat):Int) - (P.length:Nat)=1)=True:=eq_true (by omega)
 have qe:=aI qR (aI @gLV.eq_2 @z1);refine gE2 ?_;refine zh (κ:=Nat × Nat) (λk=>⟨[(0,.row 900 N),(1,.p (.i .i64 (P.length:Nat))),(2,.p (.i .i64 (P.length+1:Nat))),(3,.p (.i .i64 (P.length+1+B.length:Nat))),(4,.p (.fn (.func f) [] [])),(10,.p (.i .i64 (k.1:Nat))),(11,.p (.i .i64 (k.2:Nat))),(1000900,.row 900 N)],[(900,.row 194 7 (D.map Mov.pv) false)],[],false⟩)
  (λk=>P.length+1<=k.1/\k.1<=k.2/\k.2<=P.length+1+B.length/\(∀ y ∈ B.take (k.1 - (P.length+1)),bfC c y x=true)/\∀ y ∈ B.drop (k.2 - (P.length+1)),bfC c y x=false) (λk=>k.2 - k.1) (P.length+1,P.length+1+B.length) ?_ ?_ ?_
 ·simp only [qS,seval,gLV.eq_2]<;>simp [hN]
 ·refine ⟨by simp,by simp,by simp,?_,?_⟩
  ·simp
  ·simp
 ·intro k hk;obtain ⟨i,j⟩:=k;simp only at hk;obtain ⟨k1,k2,k3,k4,k5⟩:=hk;have hm:=zdo i j (by omega)
  by_cases hij:i < j
  ·have hij':((i:Int) < j)=True:=eq_true (by omega)
   obtain ⟨y,hy⟩:=zj (i:=(i+j) / 2 - (P.length+1)) (l:=B) (by omega)
   have hy2:=hDB _ y hy;rw [show P.length+1+((i+j) / 2 - (P.length+1))=(i+j) / 2 by omega] at hy2
   cases hcc:bfC c y x with
   | true=>
    have hc':=bf_t hcc;have qe:=aI qR (aI @hij' (aI @hm (aI @hN (aI @hx (aI @hy2 (aI @hc' (aI @rtN @rtR)))))));have jA:=hf y x;refine gE2 ?_;refine ⟨((i+j) / 2+1,j),⟨by simp only;omega,by simp only;omega,k3,λz hz=>?_,k5⟩,by simp only;omega,by simp⟩
    obtain ⟨q,hq,hz⟩:=zcZ hz;cases hh:bfC c z x with
    | true=>rfl
    | false=>
     have h2:=zmo hs sB (show q<=(i+j) / 2 - (P.length+1) by simp only at hq;omega) hz hy
     rw [hs.nt _ _ _ h2 hh] at hcc;cases hcc
   | false=>
    have hc':=bf_f hcc;have qe:=aI qR (aI @hij' (aI @hm (aI @hN (aI @hx (aI @hy2 (aI @hc' (aI @rtN @rtR)))))));have jA:=hf y x;refine gE2 ?_;refine ⟨(i,(i+j) / 2),⟨k1,by simp only;omega,by simp only;omega,k4,λz hz=>?_⟩,by simp only;omega,by simp⟩
    obtain ⟨q,hq,hz⟩:=zc0 hz;have h2:=zmo hs sB hq hy hz;exact hs.nt _ _ _ h2 hcc
  ·have e:i=j:=by omega
   subst e;have hij':((i:Int) < i)=False:=eq_false (by omega)
   have hmr:=zuy k4 k5;generalize hq:i - (P.length+1)=K at k4 k5 hmr;have hi:i=P.length+1+K:=by omega
   subst hi;have qe:=aI qR (aI @hij' (aI @hN (aI @rtN @rtR)));refine gE2 ?_;refine zh (κ:=Nat) (λq=>⟨[(0,.row 900 N),(1,.p (.i .i64 (P.length:Nat))),(10,.p (.i .i64 (P.length+1+K:Nat))),(13,.p (.i .i64 (P.length+q:Nat))),(1000900,.row 900 N)],[(900,.row 194 7 ((wyD P x B S q).map Mov.pv) false)],[],false⟩) (λq=>q<=K) (λq=>K - q) 0 ?_ ?_ ?_
   ·refine gJ ?_;simp [<-e0,hN]
   ·simp
   ·intro q hqK;have hml:(wyD P x B S q).length=N:=by rw [zh0];omega
    have j1:(((P.length+q:Nat):Int)+1).toNat=P.length+(q+1):=by omega
    by_cases hlt:q < K
    ·obtain ⟨y,hy⟩:=zj (i:=q) (l:=B) (by omega)
     have h1:=zma (P:=P) (S:=S) (x:=x) (B:=B) (q:=q) (by omega)
     have h2:=zw0 (P:=P) (S:=S) (x:=x) hy;have h3:=zz2 (P:=P) (S:=S) (x:=x) hy;have hlt':(((P.length+q:Nat):Int) < ((P.length+1+K:Nat):Int) - 1)=True:=eq_true (by omega)
     have qe:=aI qR (aI @hml (aI @hlt' (aI @j1 (aI @h1 (aI @h2 (aI @rtN @rtR))))));refine gE2 ?_;exact ⟨q+1,by omega,by omega,by simp only [LV.p.injEq,PV.i.injEq,true_and];omega,by rw [<-h3,xbf,xbf],by rw [zh0];omega⟩
    ·have e:q=K:=by omega
     subst e;have hlt':(((P.length+q:Nat):Int) < ((P.length+1+q:Nat):Int) - 1)=False:=eq_false (by omega)
     have qe:=aI qR (aI @hml (aI @hlt' (aI @rtN @rtR)));refine gE2 ?_;rw [show wyD P x B S q=D' by rw [hD',hmr,wyD];simp]
     exact .inl (.mk0 (h2:=by simp only [qS,seval,keepG.eq_1,keepG.eq_2,gLV.eq_2]<;>simp [hN]))
end
section
variable {f:Nat} {c:Mov->Mov->Int}
def zzW (f:Nat) (P X Y S:List Mov) (hN:D.length=N) (hD:D=P++(X++(Y++S))) (hD':D'=P++(Y++(X++S))) (hX:0 < X.length) (hY:0 < Y.length) (a m b:Int) (ha:a=(P.length:Nat)) (hm:m=(P.length+X.length:Nat)) (hb:b=(P.length+X.length+Y.length:Nat)) (hn:N<=1000000) :
  zbk prog 293 [.row 900 N,.p (.i .i64 a),.p (.i .i64 m),.p (.i .i64 b),.p (.fn (.func f) [] [])] [(900,.row 194 7 (D.map Mov.pv) false)] (.p (.tup [])) [(900,.row 194 7 (D'.map Mov.pv) false)]:=by
 subst ha hm hb;have hlen:N=P.length+(X.length+(Y.length+S.length)):=by rw [<-hN,hD];simp
 have hlen':D'.length=N:=by rw [hD',hlen];simp;omega
 refine zD (cF func293 f293.eq_1) (by simp) (by simp [scPs,scP,zm,hN]) (by simp [scObj]) ⟨rfl,trivial⟩ (by simp [scObj]) (by simp [zcQ,zm,hN,hlen']) λX1 hX1=>?_
 unfold zx ghO;have qe:=aI qR @gLV.eq_2;refine gE2 ?_;refine zh (κ:=List Mov × List Mov × List Mov × List Mov) (λk=>⟨[(0,.row 900 N),(2,.p (.i .i64 (P.length+X.length:Nat))),(4,.p (.fn (.func f) [] [])),(10,.p (.i .i64 (k.2.1.length:Nat))),(11,.p (.i .i64 (k.2.2.1.length:Nat))),(1000900,.row 900 N)],[(900,.row 194 7 ((k.1++(k.2.1++(k.2.2.1++k.2.2.2))).map Mov.pv) false)],[],false⟩)
  (λk=>k.1.length+k.2.1.length=P.length+X.length/\k.1++(k.2.2.1++(k.2.1++k.2.2.2))=D'/\0 < k.2.1.length/\0 < k.2.2.1.length) (λk=>k.2.1.length+k.2.2.1.length) (P,X,Y,S) ?_ ?_ ?_
 ·simp only [qS,seval,gLV.eq_2]<;>simp [<-hD,hN]<;>omega
 ·exact ⟨rfl,hD'.symm,hX,hY⟩
 ·intro k hk;obtain ⟨P',X',Y',S'⟩:=k;simp only at hk;obtain ⟨k1,k2,k3,k4⟩:=hk;have hE:(P'++(X'++(Y'++S'))).length=N:=by
   have:=congrArg List.length k2;rw [hlen'] at this;simp only [xad] at this ⊢;omega
  have hE2:P'.length+(X'.length+(Y'.length+S'.length))=N:=by
   simpa only [xad] using hE
  by_cases h1:X'.length=Y'.length
  ·have h1':((X'.length:Int)=Y'.length)=True:=eq_true (by omega)
   have h2':((Y'.length:Int)=X'.length)=True:=eq_true (by omega)
   have qe:=aI qR (aI @hE (aI @h1' (aI @h2' (aI @qN (aI @rtN @rtR)))));have jA:SX [] _:=⟨zl9 f (D':=D') P' X' [] Y' S' hE (by simp) (by rw [<-k2];simp) h1 (((P.length+X.length:Nat):Int) - (X'.length:Nat)) ((P.length+X.length:Nat):Int) (X'.length:Nat) (by omega) (by simp;omega) rfl hn⟩;refine gE2 ?_
   all_goals first|exact .inl (.mk0 (h2:=by simp only [qS,seval,keepG.eq_1,keepG.eq_2,gLV.eq_2]<;>simp [hN]))|skip
  ·have h1':((X'.length:Int)=Y'.length)=False:=eq_false (by omega)
   by_cases h2:Y'.length < X'.length
   ·have h2':((Y'.length:Int) < X'.length)=True:=eq_true (by omega)
    have hl:(X'.take Y'.length).length=Y'.length:=by simp;omega
    have hl2:(X'.drop Y'.length).length=X'.length - Y'.length:=by simp
    have qe:=aI qR (aI @hE (aI @h1' (aI @h2' (aI @qN (aI @rtN @rtR)))));repeat' first|refine gC ?_ ?_<;>intro hc<;>try contradiction|refine zf [] (zl9 f (D':=P'++(Y'++(X'.drop Y'.length++(X'.take Y'.length++S')))) P' (X'.take Y'.length) (X'.drop Y'.length) Y' S' hE (by rw [<-xak (X'.take _),xaq]) rfl hl (((P.length+X.length:Nat):Int) - (X'.length:Nat)) ((P.length+X.length:Nat):Int) (Y'.length:Nat) (by omega) (by simp only [hl,hl2]<;>omega) (by simp only [hl]) hn) ?_|refine gG ?_|show AK _;intro J Z|refine gJ ?_|omega|exact aT
    refine ⟨(P'++Y',X'.drop Y'.length,X'.take Y'.length,S'),⟨?_,?_,?_,?_⟩,?_,?_⟩
    ·simp only [xad,hl2];omega
    ·show (P'++Y')++(X'.take Y'.length++(X'.drop Y'.length++S'))=D';rw [<-k2,<-xak (X'.take _),xaq,xak]
    ·simp only [hl2];omega
    ·simp only [hl];omega
    ·simp only [hl,hl2];omega
    ·refine ⟨⟨?_,?_⟩,?_,?_⟩
     ·simp only [LV.p.injEq,PV.i.injEq,true_and,hl,hl2]<;>omega
     ·simp only [LV.p.injEq,PV.i.injEq,true_and,hl,hl2]<;>omega
     ·simp only [xak]
     ·simp only [xad,hl,hl2];omega
   ·have h2':((Y'.length:Int) < X'.length)=False:=eq_false (by omega)
    have hl:(Y'.drop (Y'.length - X'.length)).length=X'.length:=by simp;omega
    have hl2:(Y'.take (Y'.length - X'.length)).length=Y'.length - X'.length:=by simp
    have qe:=aI qR (aI @hE (aI @h1' (aI @h2' (aI @qN (aI @rtN @rtR)))));repeat' first|refine gC ?_ ?_<;>intro hc<;>try contradiction|refine zf [] (zl9 f (D':=P'++(Y'.drop (Y'.length - X'.length)++(Y'.take (Y'.length - X'.length)++(X'++S')))) P' X' (Y'.take (Y'.length - X'.length)) (Y'.drop (Y'.length - X'.length)) S' hE (by rw [<-xak (Y'.take _),xaq]) rfl hl.symm (((P.length+X.length:Nat):Int) - (X'.length:Nat)) (((P.length+X.length:Nat):Int)+(Y'.length:Nat) - (X'.length:Nat)) (X'.length:Nat) (by omega) (by simp only [hl2]<;>omega) rfl hn) ?_|refine gG ?_|show AK _;intro J Z|refine gJ ?_|omega|exact aT
    refine ⟨(P',Y'.drop (Y'.length - X'.length),Y'.take (Y'.length - X'.length),X'++S'),⟨?_,?_,?_,?_⟩,?_,?_⟩
    ·simp only [hl];omega
    ·show P'++(Y'.take (Y'.length - X'.length)++(Y'.drop (Y'.length - X'.length)++(X'++S')))=D';rw [<-k2,<-xak (Y'.take _),xaq]
    ·simp only [hl];omega
    ·simp only [hl2];omega
    ·simp only [hl,hl2];omega
    ·refine ⟨⟨?_,?_⟩,?_,?_⟩
     ·simp only [LV.p.injEq,PV.i.injEq,true_and,hl,hl2]<;>omega
     ·simp only [LV.p.injEq,PV.i.injEq,true_and,hl,hl2]<;>omega
     ·simp only [xak]
     ·simp only [xad,hl,hl2];omega
end
structure Rfs where
 name:ByteArray
 lim:Int
 mom:Int
abbrev Rfs.pv (r:Rfs):PV:=.agg [.s r.name,.i .i64 r.lim,.i .i64 r.mom]
def zbd (r:Req):(zbF r).length<=401:=by
 rw [zbF]
 split
 ·rename_i h;have h1:=zeN r.per;have h2:=zaI (zeR h).1;rw [zhk,xaf];omega
 ·simp
structure Exc where
 slots:List ByteArray
 carrier:ByteArray
 slot:ByteArray
 to:ByteArray
 lease:Lea
 day:Int
abbrev Exc.pv (x:Exc):PV:=.agg [.sl 1 (x.slots.map .s),.s x.carrier,.s x.slot,.s x.to,.s x.lease.carrier,.i .i64 x.lease.fro,.i .i64 x.lease.to,.i .i64 x.day]
theorem zeF {α:Type} {p:α->Bool}:∀ {l:List α},(zdG p l < 0/\∀ x ∈ l,p x=false)\/∃ k x,zdG p l=(k:Nat)/\l[k]?=some x/\p x=true/\∀ y ∈ l.take k,p y=false
 | []=>.inl ⟨by simp [zdG],by simp⟩
 | x::r=>by
  by_cases h:p x=true
  ·refine .inr ⟨0,x,?_,rfl,h,by simp⟩
   exact zbe (i:=0) (by simp) rfl h
  ·have h':p x=false:=by simpa using h
   rcases zeF (p:=p) (l:=r) with ⟨h1,h2⟩|⟨k,y,h1,h2,h3,h4⟩
   ·have ha:∀ y ∈ x::r,p y=false:=λy hy=>by
     rcases xaI.1 hy with rfl|hy
     ·exact h'
     ·exact h2 y hy
    exact .inl ⟨by rw [zct ha];omega,ha⟩
   ·refine .inr ⟨k+1,y,?_,by simpa using h2,h3,?_⟩
    ·refine zbe (i:=k+1) (λz hz=>?_) (by simpa using h2) h3
     rw [xa3] at hz
     rcases xaI.1 hz with rfl|hz
     ·exact h'
     ·exact h4 z hz
    ·intro z hz;rw [xa3] at hz
     rcases xaI.1 hz with rfl|hz
     ·exact h'
     ·exact h4 z hz
def zuD {α:Type} {c:α->α->Int} {L:List α} {y:α} (h:y ∈ zdW c L k):y ∈ L:=by
 have:=(zbG (zaJ c) (L.take k) []).mem_iff.1 h;rw [xaL] at this;exact xbu this
abbrev Ttl.pv (t:Ttl):PV:=.agg [.s t.car,.i .i64 t.asked,.i .i64 t.gr,.i .i64 t.dis]
def zv7 (L:List Int) (hf:∀ a ∈ L,∀ b ∈ L,Pure prog f ([]++[.i .i64 a,.i .i64 b]++cs) (.i .i64 (c a b))) (b:Int) (hb:b=L.length) (hn:L.length<=1000000):zbk prog 269 [.row 900 L.length,.p (.i .i64 0),.p (.i .i64 b),.p (.fn (.func f) [] cs)] [(900,.row 3 1 (L.map (.i .i64)) false)] (.p (.tup [])) [(900,.row 3 1 ((zz c L).map (.i .i64)) false)]:=by
 subst hb;refine zD (cF func269 f269.eq_1) (by simp) (by simp [scPs,scP,zm]) (by simp [scObj]) ⟨rfl,trivial⟩ (by simp [scObj]) (by simp [zcQ,zm,zu]) λX hX=>?_
 unfold zx ghO;have qe:=aI qR @gLV.eq_2;refine gE2 ?_;refine zh (κ:=Nat) (λi=>⟨[(0,.row 900 L.length),(1,.p (.i .i64 0)),(2,.p (.i .i64 L.length)),(3,.p (.fn (.func f) [] cs)),(8,.p (.i .i64 i)),(1000900,.row 900 L.length)],[(900,.row 3 1 ((zeO c L i).map (.i .i64)) false)],[],false⟩) (λi=>1<=i/\(i<=L.length\/i=1)) (λi=>L.length - i) 1 ?_ ?_ ?_
 ·simp only [qS,seval,gLV.eq_2]<;>simp [zlX]
 ·simp
 ·intro i hi;have hdl:=zbs (c:=c) hi.2
  by_cases hlt:i < L.length
  ·obtain ⟨x,hx⟩:=zj (i:=i) (l:=L) hlt;have qe:=aI qR @hdl;refine gE2 ?_;have hol:=zdE (c:=c) (L:=L) (k:=i) (by omega)
   refine zh (κ:=Nat) (λj=>⟨[(0,.row 900 L.length),(1,.p (.i .i64 0)),(2,.p (.i .i64 L.length)),(3,.p (.fn (.func f) [] cs)),(8,.p (.i .i64 i)),(9,.p (.i .i64 j)),(1000900,.row 900 L.length)],[(900,.row 3 1 ((djP (zdW c L i) x (L.drop (i+1)) j).map (.i .i64)) false)],[],false⟩) (λj=>j<=i/\zaV (zaJ c) x (zdW c L i) j=zaV (zaJ c) x (zdW c L i) i) (λj=>j) i ?_ ?_ ?_
   ·refine gJ ?_;simp [zgU hx,hdl]
   ·simp
   ·intro j hj;have hjl:(djP (zdW c L i) x (L.drop (i+1)) j).length=L.length:=by rw [zfg (by omega),hol,xav];omega
    cases j with
    | zero=>
     have i0:(0 < ((0:Nat):Int))=False:=eq_false (by omega)
     have qe:=aI qR (aI @i0 (aI @hjl (aI @rtN @rtR)));repeat' first|refine gC ?_ ?_<;>intro hc<;>try contradiction|(show zp _ _ _ _ (⟨_,.callv,_,_,_⟩::_) _ _;refine zbn (q:=(.i .i64 0)) (by first|rfl|(simp (disch:=omega) only [qG,qe,seval]<;>rfl)) ?_;(try (refine zw ?_)))|refine gG ?_|show AK _;intro J Z|refine gJ ?_|omega|exact aT
     exact ⟨i+1,by omega,by omega,by simp,by rw [zdJ (j:=0) hx hj.2],by rw [zbs (by omega)];exact xap _⟩
    | succ j=>
     have i0:(0 < ((j+1:Nat):Int))=True:=eq_true (by omega)
     have i1:((j+1:Nat):Int) - 1=(j:Int):=by omega
     obtain ⟨y,hy⟩:=zj (i:=j) (l:=zdW c L i) (by omega)
     obtain ⟨h1,h2⟩:=zrF (x:=x) (rest:=L.drop (i+1)) hy;have hxm:=xae hx;have hym:=zuD (xae hy)
     by_cases hc:c x y < 0
     ·have hc':=eq_true hc;have h3:=ziP hy hc;have qe:=aI qR (aI @i0 (aI @i1 (aI @h1 (aI @h2 (aI @hjl (aI @hc' (aI @rtN @rtR)))))));have jA:=hf x hxm y hym;refine gE2 ?_;exact ⟨j,⟨by omega,by rw [<-h3];exact hj.2⟩,by omega,rfl,by rw [<-zi0 hy,xbf,xbf],by rw [zfg (by omega),hol,xav];omega⟩
     ·have hc':=eq_false hc;have h3:=zfc hy hc;have qe:=aI qR (aI @i0 (aI @i1 (aI @h1 (aI @h2 (aI @hjl (aI @hc' (aI @rtN @rtR)))))));have jA:=hf x hxm y hym;refine gE2 ?_;exact ⟨i+1,by omega,by omega,by simp,by rw [zdJ hx (h3.symm.trans hj.2)],by rw [zbs (by omega)];exact xap _⟩
  ·have qe:=aI qR (aI @hdl (aI @rtN @rtR));refine gE2 ?_;rw [zgW c L (by omega)]
   exact .inl (.mk0 (h2:=by simp only [qS,seval,keepG.eq_1,keepG.eq_2,gLV.eq_2]<;>simp))
def zvU (L:List Int) (hf:∀ a ∈ L,∀ b ∈ L,Pure prog f ([]++[.i .i64 a,.i .i64 b]++cs) (.i .i64 (c a b))) (v:PV) (hn:L.length<=12):zbk prog 227 [.row 900 L.length,.p (.i .i64 0),.p (.i .i64 L.length),.p v,.p (.fn (.func f) [] cs)] [(900,.row 3 1 (L.map (.i .i64)) false)] (.p (.tup [])) [(900,.row 3 1 ((zz c L).map (.i .i64)) false)]:=by
 have hsl:=zu c L;refine zD (cF func227 f227.eq_1) (by simp) (by simp [scPs,scP,zm]) (by simp [scObj]) ⟨rfl,trivial⟩ (by simp [scObj]) (by simp [zcQ,zm,zu]) λX hX=>?_
 unfold zx ghO;have qe:=aI qR @gLV.eq_2;refine gE2 ?_;refine zh (κ:=Unit) (λ_=>⟨[(0,.row 900 L.length),(1,.p (.i .i64 0)),(2,.p (.i .i64 L.length)),(4,.p (.fn (.func f) [] cs)),(1000900,.row 900 L.length)],[(900,.row 3 1 (L.map (.i .i64)) false)],[],false⟩) (λ_=>True) (λ_=>0) () ?_ ?_ ?_
 ·simp only [qS,seval,gLV.eq_2]<;>simp
 ·trivial
 ·intro _ _;have hle:((L.length:Int) - 0<=12)=True:=eq_true (by omega)
  have hle2:((L.length:Int)<=12)=True:=eq_true (by omega)
  have qe:=aI qR (aI @qN (aI @hle (aI @hle2 (aI @Int.sub_zero (aI @rtN (aI @rtR (aI @zu (@List.length_map.{0,0}))))))));have jA:SX [(900,900)] _:=⟨zv7 L hf L.length rfl (by omega)⟩;refine gE2 ?_
  exact .inl (.mk0 (h2:=by simp only [qS,seval,keepG.eq_1,keepG.eq_2,gLV.eq_2]<;>simp))
def zvW (L:List Int) (hf:∀ a ∈ L,∀ b ∈ L,Pure prog f ([]++[.i .i64 a,.i .i64 b]++cs) (.i .i64 (c a b))) (hn:L.length<=12):zbk prog 191 [.row 900 L.length,.p (.fn (.func f) [] cs)] [(900,.row 3 1 (L.map (.i .i64)) false)] (.p (.tup [])) [(900,.row 3 1 ((zz c L).map (.i .i64)) false)]:=by
 have hsl:=zu c L;refine zD (cF func191 f191.eq_1) (by simp) (by simp [scPs,scP,zm]) (by simp [scObj]) ⟨rfl,trivial⟩ (by simp [scObj]) (by simp [zcQ,zm,zu]) λX hX=>?_
 unfold zx ghO;have hw:IntKind.u64.wrap (L.length:Int)=L.length:=by simp [IntKind.wrap,IntKind.bits,IntKind.signed];omega
 have qe:=aI qR (aI @qN (aI @hw (aI @gLV.eq_2 (aI @rtN (aI @rtR (aI @zu (@List.length_map.{0,0})))))));have jA:=zmF L.length (by omega) (by omega);have jB:SX [(900,900)] _:=⟨zvU L hf .any hn⟩;refine gE2 ?_
 exact .inl (.mk0 (h2:=by simp only [qS,seval,keepG.eq_1,keepG.eq_2,gLV.eq_2]<;>simp))
def zvT {c:Ttl->Ttl->Int} (hf:∀ a b:Ttl,Pure prog f [a.pv,b.pv] (.i .i64 (c a b))) (L:List Ttl) (b:Int) (hb:b=L.length) (hn:L.length<=1000000):zbk prog 228 [.row 900 L.length,.p (.i .i64 0),.p (.i .i64 b),.p (.fn (.func f) [] [])] [(900,.row 137 4 (L.map Ttl.pv) false)] (.p (.tup [])) [(900,.row 137 4 ((zz c L).map Ttl.pv) false)]:=by
 subst hb;refine zD (cF func228 f228.eq_1) (by simp) (by simp [scPs,scP,zm]) (by simp [scObj]) ⟨rfl,trivial⟩ (by simp [scObj]) (by simp [zcQ,zm,zu]) λX hX=>?_
 unfold zx ghO;have qe:=aI qR @gLV.eq_2;refine gE2 ?_;refine zh (κ:=Nat) (λi=>⟨[(0,.row 900 L.length),(1,.p (.i .i64 0)),(2,.p (.i .i64 L.length)),(3,.p (.fn (.func f) [] [])),(8,.p (.i .i64 i)),(1000900,.row 900 L.length)],[(900,.row 137 4 ((zeO c L i).map Ttl.pv) false)],[],false⟩) (λi=>1<=i/\(i<=L.length\/i=1)) (λi=>L.length - i) 1 ?_ ?_ ?_
 ·simp only [qS,seval,gLV.eq_2]<;>simp [zlX]
 ·simp
 ·intro i hi;have hdl:=zbs (c:=c) hi.2
  by_cases hlt:i < L.length
  ·obtain ⟨x,hx⟩:=zj (i:=i) (l:=L) hlt;have qe:=aI qR @hdl;refine gE2 ?_;have hol:=zdE (c:=c) (L:=L) (k:=i) (by omega)
   refine zh (κ:=Nat) (λj=>⟨[(0,.row 900 L.length),(1,.p (.i .i64 0)),(2,.p (.i .i64 L.length)),(3,.p (.fn (.func f) [] [])),(8,.p (.i .i64 i)),(9,.p (.i .i64 j)),(1000900,.row 900 L.length)],[(900,.row 137 4 ((djP (zdW c L i) x (L.drop (i+1)) j).map Ttl.pv) false)],[],false⟩) (λj=>j<=i/\zaV (zaJ c) x (zdW c L i) j=zaV (zaJ c) x (zdW c L i) i) (λj=>j) i ?_ ?_ ?_
   ·refine gJ ?_;simp [zgU hx,hdl]
   ·simp
   ·intro j hj;have hjl:(djP (zdW c L i) x (L.drop (i+1)) j).length=L.length:=by rw [zfg (by omega),hol,xav];omega
    cases j with
    | zero=>
     have i0:(0 < ((0:Nat):Int))=False:=eq_false (by omega)
     have qe:=aI qR (aI @i0 (aI @hjl (aI @rtN @rtR)));repeat' first|refine gC ?_ ?_<;>intro hc<;>try contradiction|(show zp _ _ _ _ (⟨_,.callv,_,_,_⟩::_) _ _;refine zbn (q:=(.i .i64 0)) (by first|rfl|(simp (disch:=omega) only [qG,qe,seval]<;>rfl)) ?_;(try (refine zw ?_)))|refine gG ?_|show AK _;intro J Z|refine gJ ?_|omega|exact aT
     exact ⟨i+1,by omega,by omega,by simp,by rw [zdJ (j:=0) hx hj.2],by rw [zbs (by omega)];exact xap _⟩
    | succ j=>
     have i0:(0 < ((j+1:Nat):Int))=True:=eq_true (by omega)
     have i1:((j+1:Nat):Int) - 1=(j:Int):=by omega
     obtain ⟨y,hy⟩:=zj (i:=j) (l:=zdW c L i) (by omega)
     obtain ⟨h1,h2⟩:=zrF (x:=x) (rest:=L.drop (i+1)) hy
     by_cases hc:c x y < 0
     ·have hc':=eq_true hc;have h3:=ziP hy hc;have qe:=aI qR (aI @i0 (aI @i1 (aI @h1 (aI @h2 (aI @hjl (aI @hc' (aI @rtN @rtR)))))));have jA:=hf x y;refine gE2 ?_;exact ⟨j,⟨by omega,by rw [<-h3];exact hj.2⟩,by omega,rfl,by rw [<-zi0 hy,xbf,xbf],by rw [zfg (by omega),hol,xav];omega⟩
     ·have hc':=eq_false hc;have h3:=zfc hy hc;have qe:=aI qR (aI @i0 (aI @i1 (aI @h1 (aI @h2 (aI @hjl (aI @hc' (aI @rtN @rtR)))))));have jA:=hf x y;refine gE2 ?_;exact ⟨i+1,by omega,by omega,by simp,by rw [zdJ hx (h3.symm.trans hj.2)],by rw [zbs (by omega)];exact xap _⟩
  ·have qe:=aI qR (aI @hdl (aI @rtN @rtR));refine gE2 ?_;rw [zgW c L (by omega)]
   exact .inl (.mk0 (h2:=by simp only [qS,seval,keepG.eq_1,keepG.eq_2,gLV.eq_2]<;>simp))
def zvV {c:Ttl->Ttl->Int} (hf:∀ a b:Ttl,Pure prog f [a.pv,b.pv] (.i .i64 (c a b))) (L:List Ttl) (v:PV) (hn:L.length<=12):zbk prog 194 [.row 900 L.length,.p (.i .i64 0),.p (.i .i64 L.length),.p v,.p (.fn (.func f) [] [])] [(900,.row 137 4 (L.map Ttl.pv) false)] (.p (.tup [])) [(900,.row 137 4 ((zz c L).map Ttl.pv) false)]:=by
 have hsl:=zu c L;refine zD (cF func194 f194.eq_1) (by simp) (by simp [scPs,scP,zm]) (by simp [scObj]) ⟨rfl,trivial⟩ (by simp [scObj]) (by simp [zcQ,zm,zu]) λX hX=>?_
 unfold zx ghO;have qe:=aI qR @gLV.eq_2;refine gE2 ?_;refine zh (κ:=Unit) (λ_=>⟨[(0,.row 900 L.length),(1,.p (.i .i64 0)),(2,.p (.i .i64 L.length)),(4,.p (.fn (.func f) [] [])),(1000900,.row 900 L.length)],[(900,.row 137 4 (L.map Ttl.pv) false)],[],false⟩) (λ_=>True) (λ_=>0) () ?_ ?_ ?_
 ·simp only [qS,seval,gLV.eq_2]<;>simp
 ·trivial
 ·intro _ _;have hle:((L.length:Int) - 0<=12)=True:=eq_true (by omega)
  have hle2:((L.length:Int)<=12)=True:=eq_true (by omega)
  have qe:=aI qR (aI @qN (aI @hle (aI @hle2 (aI @Int.sub_zero (aI @rtN (aI @rtR (aI @zu (@List.length_map.{0,0}))))))));have jA:SX [(900,900)] _:=⟨zvT hf L L.length rfl (by omega)⟩;refine gE2 ?_
  exact .inl (.mk0 (h2:=by simp only [qS,seval,keepG.eq_1,keepG.eq_2,gLV.eq_2]<;>simp))
def zv3 {c:Ttl->Ttl->Int} (hf:∀ a b:Ttl,Pure prog f [a.pv,b.pv] (.i .i64 (c a b))) (L:List Ttl) (hn:L.length<=12):zbk prog 130 [.row 900 L.length,.p (.fn (.func f) [] [])] [(900,.row 137 4 (L.map Ttl.pv) false)] (.p (.tup [])) [(900,.row 137 4 ((zz c L).map Ttl.pv) false)]:=by
 have hsl:=zu c L;refine zD (cF func130 f130.eq_1) (by simp) (by simp [scPs,scP,zm]) (by simp [scObj]) ⟨rfl,trivial⟩ (by simp [scObj]) (by simp [zcQ,zm,zu]) λX hX=>?_
 unfold zx ghO;have hw:IntKind.u64.wrap (L.length:Int)=L.length:=by simp [IntKind.wrap,IntKind.bits,IntKind.signed];omega
 have qe:=aI qR (aI @qN (aI @hw (aI @gLV.eq_2 (aI @rtN (aI @rtR (aI @zu (@List.length_map.{0,0})))))));have jA:=zmF L.length (by omega) (by omega);have jB:SX [(900,900)] _:=⟨zvV hf L .any hn⟩;refine gE2 ?_
 exact .inl (.mk0 (h2:=by simp only [qS,seval,keepG.eq_1,keepG.eq_2,gLV.eq_2]<;>simp))
def unB (s:ByteArray):Bool:=!decide (s=s0) && !zcs s
def zic (s:ByteArray):Pure prog 184 [.s s] (.b (unB s)):=by
 refine pz func184 f184.eq_1 λhw X hX=>?_
 have jA:=zcf s;refine gE2 ?_;exact zhe (by simp [unB])
def zo3 (w:Wis):Int:=zn [zbY w.req,if (!zcs w.req.carrier || unB w.req.partner || unB w.req.link)=true then 8 else 0,rng w.ear 0 1439,rng w.lat 0 1439,if w.req.minute < w.ear\/w.lat < w.req.minute then 11 else 0,rng w.step 1 120]
def wisG (w:Wis):Int:=zn [if 96 < (zg2 w.req.minute w.ear w.lat w.step:Int) then 22 else 0,rng w.least 0 1440,rng w.most 0 1440,if w.most < w.least then 11 else 0]
def zqB (s:ByteArray):zo6 s=if unB s=true then 8 else 0:=by
 unfold zo6 unB
 by_cases h:s=s0
 ·simp [h]
 ·cases h2:zcs s<;>simp [h]
def zpk (w:Wis):zfI w=if zo3 w=0 then wisG w else zo3 w:=by
 unfold zfI zo3 wisG;rw [zqB,zqB];unfold zfA
 by_cases h0:zbY w.req=0<;>cases zcs w.req.carrier<;>cases unB w.req.partner<;>cases unB w.req.link<;>simp only [zn,h0,xaC,xax,Bool.true_or,xb5,Bool.or_true,xcs,if_true,if_false,xaD,reduceCtorEq]<;>(repeat' split)<;>simp_all
def zwP (h0:0<=m) (h1:m<=1439) (h2:0<=e) (h3:l<=1439) (h4:e<=m) (h5:m<=l) (h6:1<=s):(zg2 m e l s:Int)=(m - e).tdiv s+(l - m).tdiv s+1/\0<=(m - e).tdiv s/\(m - e).tdiv s<=1439/\0<=(l - m).tdiv s/\(l - m).tdiv s<=1439/\(m - e).tdiv s=(m - e) / s/\(l - m).tdiv s=(l - m) / s:=by
 have e1:(m - e).tdiv s=(m - e) / s:=xbp (by omega)
 have e2:(l - m).tdiv s=(l - m) / s:=xbp (by omega)
 have p0:0<=(m - e) / s:=xbh (by omega) (by omega)
 have q0:0<=(l - m) / s:=xbh (by omega) (by omega)
 have p1:(m - e) / s<=m - e:=xbr _ (by omega)
 have q1:(l - m) / s<=l - m:=xbr _ (by omega)
 rw [e1,e2];unfold zg2;exact ⟨by omega,p0,by omega,q0,by omega,rfl,rfl⟩
def zjq (h:zo3 w=0):zbY w.req=0/\0<=w.ear/\w.lat<=1439/\w.ear<=w.req.minute/\w.req.minute<=w.lat/\1<=w.step/\w.step<=120:=by
 unfold zo3 at h;obtain ⟨h1,h⟩:=zi.1 h;obtain ⟨_,h⟩:=zi.1 h;obtain ⟨h3,h⟩:=zi.1 h;obtain ⟨h4,h⟩:=zi.1 h;obtain ⟨h5,h⟩:=zi.1 h;obtain ⟨h6,_⟩:=zi.1 h;rw [zdR] at h3 h4 h6;have h5:¬(w.req.minute < w.ear\/w.lat < w.req.minute):=λk=>by rw [if_pos k] at h5;cases h5
 exact ⟨h1,h3.1,h4.2,by omega,by omega,h6.1,h6.2⟩
def zev (w:Wis):Pure prog 118 [w.pv] (.i .i64 (zfI w)):=by
 rw [zpk];have hF:∀ p:Bool,p=(!zcs w.req.carrier || unB w.req.partner || unB w.req.link)->zn [zbY w.req,if p=true then 8 else 0,rng w.ear 0 1439,rng w.lat 0 1439,if (decide (w.req.minute < w.ear) || decide (w.lat < w.req.minute))=true then 11 else 0,rng w.step 1 120]=zo3 w:=by
  rintro _ rfl;simp only [zo3,xbg,decide_eq_true_eq]
 by_cases hz:zo3 w=0
 ·obtain ⟨z1,z2,z3,z4,z5,z6,z7⟩:=zjq hz;have hq:=(zi.1 z1).2;obtain ⟨_,hq⟩:=zi.1 hq;obtain ⟨_,hq⟩:=zi.1 hq;obtain ⟨_,hq⟩:=zi.1 hq;obtain ⟨hq,_⟩:=zi.1 hq;rw [zdR] at hq;obtain ⟨c1,c2,c3,c4,c5,_,_⟩:=zwP hq.1 hq.2 z2 z3 z4 z5 z6;have hb:(!zcs w.req.carrier || unB w.req.partner || unB w.req.link)=false:=by
   have:=(zi.1 (zi.1 hz).2).1;cases h:(!zcs w.req.carrier || unB w.req.partner || unB w.req.link)
   ·rfl
   ·rw [if_pos h] at this;cases this
  simp only [xbo,xb6] at hb;obtain ⟨⟨b1,b2⟩,b3⟩:=hb;have e1:=hF (unB w.req.link) (by rw [b1,b2];rfl)
  rw [b3,if_neg (show ¬(false=true) by decide),hz] at e1
  rw [if_pos hz];refine pz func118 f118.eq_1 λhw X hX=>?_
  have qe:=aI qR (aI @b1 (aI @b2 (aI @b3 @e1)));repeat' first|refine gC ?_ ?_<;>intro hc<;>try contradiction|refine za (zjP _) ?_|refine za (zcf _) ?_|refine zl (zic _) ?_|refine za (za0 _ _) ?_|refine za (zfM _ _ _) ?_|refine za (zaG [_,_,_,_,_,_]) ?_|refine za (zaG [_,_,_,_]) ?_|refine gG ?_|show AK _;intro J Z|refine gJ ?_|omega|exact aT
  all_goals (rw [wisG,c1];exact weakI (by simp))
 ·rw [if_neg hz]
  by_cases b1:zcs w.req.carrier=true
  ·by_cases b2:unB w.req.partner=true
   ·have e1:=hF true (by rw [b1,b2];rfl)
    rw [if_pos rfl] at e1;have z0:=eq_false hz;refine pz func118 f118.eq_1 λhw X hX=>?_
    have qe:=aI qR (aI @b1 (aI @b2 (aI @e1 @z0)));repeat' first|refine gC ?_ ?_<;>intro hc<;>try contradiction|refine za (zjP _) ?_|refine za (zcf _) ?_|refine zl (zic _) ?_|(show zp _ _ _ _ (⟨_,.callv,_,_,_⟩::_) _ _;refine zbn (q:=(.b false)) (by first|rfl|(simp (disch:=omega) only [qG,qe,seval]<;>rfl)) ?_;(try (refine zw ?_)))|refine za (za0 _ _) ?_|refine za (zfM _ _ _) ?_|refine za (zaG [_,_,_,_,_,_]) ?_|refine gG ?_|show AK _;intro J Z|refine gJ ?_|omega|exact aT
    all_goals exact .refl _
   ·rw [xbq] at b2;have e1:=hF (unB w.req.link) (by rw [b1,b2];rfl)
    have z0:=eq_false hz;refine pz func118 f118.eq_1 λhw X hX=>?_
    have qe:=aI qR (aI @b1 (aI @b2 (aI @e1 @z0)));repeat' first|refine gC ?_ ?_<;>intro hc<;>try contradiction|refine za (zjP _) ?_|refine za (zcf _) ?_|refine zl (zic _) ?_|refine za (za0 _ _) ?_|refine za (zfM _ _ _) ?_|refine za (zaG [_,_,_,_,_,_]) ?_|refine gG ?_|show AK _;intro J Z|refine gJ ?_|omega|exact aT
    all_goals exact .refl _
  ·rw [xbq] at b1;have e1:=hF true (by rw [b1];rfl)
   rw [if_pos rfl] at e1;have z0:=eq_false hz;refine pz func118 f118.eq_1 λhw X hX=>?_
   have qe:=aI qR (aI @b1 (aI @e1 @z0));repeat' first|refine gC ?_ ?_<;>intro hc<;>try contradiction|refine za (zjP _) ?_|refine za (zcf _) ?_|(show zp _ _ _ _ (⟨_,.callv,_,_,_⟩::_) _ _;refine zbn (q:=(.b false)) (by first|rfl|(simp (disch:=omega) only [qG,qe,seval]<;>rfl)) ?_;(try (refine zw ?_)))|refine za (za0 _ _) ?_|refine za (zfM _ _ _) ?_|refine za (zaG [_,_,_,_,_,_]) ?_|refine gG ?_|show AK _;intro J Z|refine gJ ?_|omega|exact aT
   all_goals exact .refl _
def zco (w:Wis) (m:Int):Pure prog 123 [w.pv,.i .i64 m] (.sl 7 ((zbF (w.req.at m)).map Mov.pv)):=by
 refine pz func123 f123.eq_1 λhw X hX=>?_
 have qe:=@qR;have jA:=zjP (w.req.at m);exact gD2
def ztV (m a b:Int) (hm:0<=m/\m<=1439) (ha:-10000<=a/\a<=10000) (hb:-10000<=b/\b<=10000):Pure prog 192 ([]++[.i .i64 a,.i .i64 b]++[.ip (.i .i64 m) 0]) (.i .i64 (cmpC m a b)):=by
 refine pz func192 f192.eq_1 λhw X hX=>?_
 have qe:=@qR;repeat' first|refine gC ?_ ?_<;>intro hc<;>try contradiction|refine zcE (hf:=zfO _ (by omega) (by omega)) (hn:=?_)|refine za (zlh _ _) ?_|refine za (zqt [_,_]) ?_|refine gG ?_|show AK _;intro J Z|refine gJ ?_|omega|exact aT
 all_goals exact .refl _
def zr0 (hs:1<=s) (h1:e<=m) (h2:m<=l) (h3:0<=e) (h4:l<=1439) {x:Int} (h:x ∈ zkM m e l s):0<=x/\x<=1439:=by
 have:=(zvF hs h1 h2).1 h
 omega
def zcC (h:zfI w=0):zo3 w=0/\wisG w=0:=by
 rw [zpk] at h
 by_cases h0:zo3 w=0
 ·rw [if_pos h0] at h;exact ⟨h0,h⟩
 ·rw [if_neg h0] at h;exact absurd h h0
def zdv (h:zo3 w=0):0<=w.req.minute/\w.req.minute<=1439:=by
 have:=zjq h;omega
def zcW (w:Wis) (h:zfI w=0) (h12:zg2 w.req.minute w.ear w.lat w.step<=12):Pure prog 122 [w.pv] (.sl 1 ((zac w).map (.i .i64))):=by
 have hF:=(zcC h).1;obtain ⟨z1,z2,z3,z4,z5,z6,z7⟩:=zjq hF;have hmn:=zdv hF;obtain ⟨c1,c2,c3,c4,c5,c6,c7⟩:=zwP hmn.1 hmn.2 z2 z3 z4 z5 z6;have hin:∀ x ∈ zkM w.req.minute w.ear w.lat w.step,0<=x/\x<=1439:=λx hx=>zr0 z6 z4 z5 z2 z3 hx
 have hlen:(zkM w.req.minute w.ear w.lat w.step).length=zg2 w.req.minute w.ear w.lat w.step:=by unfold zkM;rw [xaf,xaU]
 have h91:=zvW (f:=192) (cs:=[.ip (.i .i64 w.req.minute) 0]) (c:=cmpC w.req.minute) (zkM w.req.minute w.ear w.lat w.step) (λa ha b hb=>ztV w.req.minute a b hmn (by have:=hin a ha;omega) (by have:=hin b hb;omega)) (by omega)
 rw [hlen] at h91;have hcl:(zac w).length=zg2 w.req.minute w.ear w.lat w.step:=by unfold zac;rw [zu,hlen]
 change zbk _ _ _ _ _ [(900,.row 3 1 ((zac w).map (.i .i64)) false)] at h91
 have p1:(w.req.minute - w.ear) / w.step*w.step<=w.req.minute - w.ear:=Int.ediv_mul_le _ (by omega)
 have p2:0<=(w.req.minute - w.ear) / w.step*w.step:=Int.mul_nonneg (by omega) (by omega)
 have q1:(w.lat - w.req.minute) / w.step*w.step<=w.lat - w.req.minute:=Int.ediv_mul_le _ (by omega)
 have hA:zkM w.req.minute w.ear w.lat w.step=(List.range (zg2 w.req.minute w.ear w.lat w.step)).map λn:Nat=>w.req.minute - (w.req.minute - w.ear) / w.step*w.step+n*w.step:=rfl
 rw [hA] at h91;generalize zg2 w.req.minute w.ear w.lat w.step=N at *;generalize (w.req.minute - w.ear) / w.step=p at *;generalize (w.lat - w.req.minute) / w.step=q at *;rw [c6,c7] at c1;refine pz func122 f122.eq_1 λhw X hX=>?_
 have qe:=aI qR (aI @c6 @c7);refine gE2 ?_;refine run_ownL 400 3 1 (κ:=Nat) (λk=>⟨[(1,.lp 1 0),(3,.lp 3 0),(4,.row 400 k),(24,.p (.i .i64 N)),(25,.p (.i .i64 k))],[(1,.box (w.cells.map .p) false),(3,.box [.p (.i .i64 w.req.minute)] false),(400,.row 3 1 (((List.range k).map λn:Nat=>w.req.minute - p*w.step+n*w.step).map (.i .i64)) false)],[],false⟩) (λk=>k<=N) (λk=>N - k) 0 ?_ ?_ ?_
 ·refine ⟨gO ?_,gO ?_⟩<;>simp [c1]
 ·simp
 ·intro k hk;have hkl:((List.range k).map λn:Nat=>w.req.minute - p*w.step+n*w.step).length=k:=by simp
  refine gH (λhc=>?_) λhc=>?_
  ·have k1:(k:Int)*w.step<=(p+q)*w.step:=Int.mul_le_mul_of_nonneg_right (by omega) (by omega)
   have k2:0<=(k:Int)*w.step:=Int.mul_nonneg (by omega) (by omega)
   rw [Int.add_mul] at k1;have qe:=aI qR (aI @c6 @hkl);refine gE2 ?_;exact ⟨k+1,by omega,by omega,by simp [xbd]⟩
  ·obtain rfl:k=N:=by omega
   refine zcU ?_;refine (show Run _ (.seq _ _) _ _ from zbC ?_)
   refine (show Run _ (.ops false _) _ _ from zar (zbP 2 ?_))
   simp only [xa3,xbb,xbz,xbw];have qe:=@qR;refine gE2 ?_;refine zag (zaz 50 (.fn (.func 192) [] [.ip (.i .i64 w.req.minute) 0]) (sR) (by first|trivial|simp) (.refl _)) ?_
   rintro _ rfl;refine zw ?_;have qe:=aI qR (aI @qN (aI @hkl (aI @hcl (aI @rtN @rtR))));have jA:SX [(900,400)] _:=⟨h91⟩;exact gD2
structure OptN where
 a:Fin 1440
 b:Fin 1440
variable {Q U V:List OptN} {u v:OptN}
abbrev OptN.pv (o:OptN):PV:=.agg [.i .i64 (o.a.val:Int),.i .i64 (o.b.val:Int)]
def zhr (U V:List OptN) (i:Nat):List OptN:=V.take i++U.drop i
def zjh (P U Q V S:List OptN) (i:Nat):List OptN:=P++(zhr U V i++(Q++(zhr V U i++S)))
def zcm (h:U.length=V.length) (hi:i<=U.length):(zhr U V i).length=U.length:=by simp [zhr];omega
def zpt (h:U.length=V.length) (hi:i < U.length):(zhr U V i)[i]?=U[i]?:=by
 have hl:(V.take i).length=i:=by simp;omega
 rw [zhr,xaB (by omega),hl,xcm,xaY,xbt]
def zmk (h:U.length=V.length) (hv:V[i]?=some v):(zhr U V i).set i v=zhr U V (i+1):=by
 have hi:=(xaa.1 hv).1;have hl:(V.take i).length=i:=by simp;omega
 rw [zhr,zhr,xbO _ _ (by omega),hl,xcm,xaW,hv,xaE (by omega),List.set_cons_zero]
 simp
def zAb (P U Q V S:List OptN):zjh P U Q V S 0=P++(U++(Q++(V++S))):=by simp [zjh,zhr]
def zAa {P S:List OptN} (h:U.length=V.length):zjh P U Q V S U.length=P++(V++(Q++(U++S))):=by
 simp only [zjh,zhr,xbM,xah,xar];rw [h,xah,xbM,xar]
def zml {P S:List OptN} (h:U.length=V.length) (hi:i<=U.length):(zjh P U Q V S i).length=P.length+(U.length+(Q.length+(V.length+S.length))):=by
 simp only [zjh,xad,zcm h hi,zcm h.symm (i:=i) (by omega)]
def zsX {P S:List OptN} (h:U.length=V.length) (hu:U[i]?=some u):(zjh P U Q V S i)[P.length+i]?=some u:=by
 have hi:=(xaa.1 hu).1;rw [zjh,zae _ _ _ (by rw [zcm h (by omega)];exact hi),zpt h hi,hu]
def zsW {P S:List OptN} (h:U.length=V.length) (hv:V[i]?=some v):(zjh P U Q V S i)[P.length+U.length+Q.length+i]?=some v:=by
 have hi:=(xaa.1 hv).1;have e:zjh P U Q V S i=(P++(zhr U V i++Q))++(zhr V U i++S):=by simp [zjh]
 have hl:(P++(zhr U V i++Q)).length=P.length+U.length+Q.length:=by simp only [xad,zcm h (show i<=U.length by omega)];omega
 rw [e,<-hl,zae _ _ _ (by rw [zcm h.symm (by omega)];exact hi),zpt h.symm hi,hv]
def zpu {P S:List OptN} (h:U.length=V.length) (hu:U[i]?=some u) (hv:V[i]?=some v):((zjh P U Q V S i).set (P.length+i) v).set (P.length+U.length+Q.length+i) u=zjh P U Q V S (i+1):=by
 have hi:=(xaa.1 hu).1;have hj:=(xaa.1 hv).1;rw [zjh,za6 _ _ _ _ (by rw [zcm h (by omega)];exact hi),zmk h hv]
 have e:P++(zhr U V (i+1)++(Q++(zhr V U i++S)))=(P++(zhr U V (i+1)++Q))++(zhr V U i++S):=by simp
 have hl:(P++(zhr U V (i+1)++Q)).length=P.length+U.length+Q.length:=by simp only [xad,zcm h (show i+1<=U.length by omega)];omega
 rw [e,<-hl,za6 _ _ _ _ (by rw [zcm h.symm (by omega)];exact hj),zmk h.symm hu]
 simp [zjh]
def zjf (f:Nat) (cs:List PV) {D D':List OptN} (P U Q V S:List OptN) (hN:D.length=N) (hD:D=P++(U++(Q++(V++S)))) (hD':D'=P++(V++(Q++(U++S)))) (h:U.length=V.length) (a b k:Int) (ha:a=P.length) (hb:b=(P.length+U.length+Q.length:Nat)) (hk:k=U.length) (hn:N<=1000000) :
  zbk prog 302 [.row 900 N,.p (.i .i64 a),.p (.i .i64 b),.p (.i .i64 k),.p (.fn (.func f) [] cs)] [(900,.row 152 2 (D.map OptN.pv) false)] (.p (.tup [])) [(900,.row 152 2 (D'.map OptN.pv) false)]:=by
 have hlen:D.length=P.length+(U.length+(Q.length+(V.length+S.length))):=by rw [hD];simp
 have hlen':D'.length=N:=by rw [hD',<-hN,hlen];simp;omega
 have e0:D=zjh P U Q V S 0:=by rw [zAb,hD]
 refine zD (cF func302 f302.eq_1) (by simp) (by simp [scPs,scP,zm,hN]) (by simp [scObj]) ⟨rfl,trivial⟩ (by simp [scObj]) (by simp [zcQ,zm,hN,hlen']) λX hX=>?_
 unfold zx ghO;have qe:=aI qR @gLV.eq_2;refine gE2 ?_;refine zh (κ:=Nat) (λi=>⟨[(0,.row 900 N),(1,.p (.i .i64 a)),(2,.p (.i .i64 b)),(3,.p (.i .i64 k)),(10,.p (.i .i64 i)),(1000900,.row 900 N)],[(900,.row 152 2 ((zjh P U Q V S i).map OptN.pv) false)],[],false⟩) (λi=>i<=U.length) (λi=>U.length - i) 0 ?_ ?_ ?_
 ·simp only [qS,seval,gLV.eq_2]<;>simp [<-e0,hN]
 ·simp
 ·intro i hi;have hsl:=zml (P:=P) (Q:=Q) (S:=S) h hi;have hsN:(zjh P U Q V S i).length=N:=by omega
  have i1:(a+(i:Int)).toNat=P.length+i:=by omega
  have i2:(b+(i:Int)).toNat=P.length+U.length+Q.length+i:=by omega
  by_cases hlt:i < U.length
  ·obtain ⟨u,hu⟩:=zj (i:=i) (l:=U) hlt;obtain ⟨v,hv⟩:=zj (i:=i) (l:=V) (by omega)
   have h1:=zsX (P:=P) (Q:=Q) (S:=S) h hu;have h2:=zsW (P:=P) (Q:=Q) (S:=S) h hv;have hik:((i:Int) < k)=True:=eq_true (by omega)
   have qe:=aI qR (aI @hsN (aI @i1 (aI @i2 (aI @h1 (aI @h2 (aI @hik (aI @rtN @rtR)))))));refine gE2 ?_;exact ⟨i+1,by omega,by omega,by simp,by rw [<-zpu h hu hv,xbf,xbf],by rw [zml h (by omega)];omega⟩
  ·have hik:((i:Int) < k)=False:=eq_false (by omega)
   have qe:=aI qR (aI @hsN (aI @hik (aI @rtN @rtR)));refine gE2 ?_;have e:i=U.length:=by omega
   subst e;rw [zAa h,<-hD'];exact .inl (.mk0 (h2:=by simp only [qS,seval,keepG.eq_1,keepG.eq_2,gLV.eq_2]<;>simp [hN]))
abbrev kyP (k:Ky):PV:=.agg [.i .i64 (k.1:Int),.i .i64 k.2]
abbrev cE (e:Ky × Int):PV × PV:=(kyP e.1,.i .i64 e.2)
abbrev gE (e:Ky × List Int):PV × PV:=(kyP e.1,.sl 1 (e.2.map (.i .i64)))
def zuI (i:Nat) (x:Int) (k:Ky):eqCells [PV.i .i64 (i:Int),.i .i64 x] [PV.i .i64 (k.1:Int),.i .i64 k.2]=decide (k=(i,x)):=by
 simp only [eqCells,eqPV,xbL];rw [<-Bool.decide_and];refine decide_eq_decide.2 ⟨λ⟨a,b⟩=>Prod.ext (by omega) b.symm,λe=>?_⟩
 subst e;exact ⟨rfl,rfl⟩
theorem zCo (i:Nat) (x:Int):∀ C:List (Ky × Int),mget (.agg [.i .i64 (i:Int),.i .i64 x]) (C.map cE)=(ziL (i,x) C).map (.i .i64)
 | []=>rfl
 | e::C=>by
  have:=zuI i x e.1;simp only [xaj,mget,ziL,PV.cells,this,zCo i x C]
  by_cases h:e.1=(i,x)<;>simp [h]
theorem zBz (i:Nat) (x:Int):∀ G:BgM,mget (.agg [.i .i64 (i:Int),.i .i64 x]) (G.map gE)=(ziL (i,x) G).map λL=>.sl 1 (L.map (.i .i64))
 | []=>rfl
 | e::G=>by
  have:=zuI i x e.1;simp only [xaj,mget,ziL,PV.cells,this,zBz i x G]
  by_cases h:e.1=(i,x)<;>simp [h]
theorem zzH (i:Nat) (x v:Int):∀ C:List (Ky × Int),mput (.agg [.i .i64 (i:Int),.i .i64 x]) (.i .i64 v) (C.map cE)=(zjk (i,x) v C).map cE
 | []=>rfl
 | e::C=>by
  have:=zuI i x e.1;simp only [xaj,mput,zjk,PV.cells,this,zzH i x v C]
  by_cases h:e.1=(i,x)<;>simp [h]
theorem zBy (i:Nat) (x:Int) (L:List Int):∀ G:BgM,mput (.agg [.i .i64 (i:Int),.i .i64 x]) (.sl 1 (L.map (.i .i64))) (G.map gE)=(zjk (i,x) L G).map gE
 | []=>rfl
 | e::G=>by
  have:=zuI i x e.1;simp only [xaj,mput,zjk,PV.cells,this,zBy i x L G]
  by_cases h:e.1=(i,x)<;>simp [h]
theorem zr1 (i:Nat) (x:Int):∀ C:List (Ky × Int),keysOk [1,1] true (.agg [.i .i64 (i:Int),.i .i64 x]) (C.map cE)
 | []=>trivial
 | e::C=>⟨⟨rfl,by simp [PV.cells,eqCellsOk,eqOk]⟩,zr1 i x C⟩
theorem zwz (i:Nat) (x:Int):∀ G:BgM,keysOk [1,1] true (.agg [.i .i64 (i:Int),.i .i64 x]) (G.map gE)
 | []=>trivial
 | e::G=>⟨⟨rfl,by simp [PV.cells,eqCellsOk,eqOk]⟩,zwz i x G⟩
def zyA (i:Nat) (x:Int):eqCells (PV.agg [.i .i64 (i:Int),.i .i64 x]).cells (PV.agg [.i .i64 (i:Int),.i .i64 x]).cells=true:=by simp [PV.cells,eqCells,eqPV]
end Go.Proofs.YtbgckikhhcbmpaaGreat
