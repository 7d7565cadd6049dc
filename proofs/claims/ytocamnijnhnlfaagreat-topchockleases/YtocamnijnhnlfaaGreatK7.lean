/- Contracts of functions, for the claim. No conditions. -/
import Derived.Test.YtocamnijnhnlfaaGreatK4
import Derived.Test.YtocamnijnhnlfaaGreatK6
import Derived.Test.YtocamnijnhnlfaaGreatK5
set_option linter.all false
set_option maxHeartbeats 8000000
set_option maxRecDepth 100000
namespace Go.Proofs.YtocamnijnhnlfaaGreat
open Go.RowKit Tryz
def zct {α:Type} (p:α->Bool):List α->Int
 | []=>-1
 | x::r=>if p x=true then 0 else if zct p r < 0 then -1 else zct p r+1
theorem zaX {α:Type} {p:α->Bool}:∀ {l:List α} {i:Nat} {x:α},(∀ y ∈ l.take i,p y=false)->l[i]?=some x->p x=true->zct p l=i
 | [],i,_,_,h,_=>by simp at h
 | x::r,0,y,_,h,hp=>by simp at h;subst h;simp [zct,hp]
 | x::r,i+1,y,h,hx,hp=>by
  have h0:p x=false:=h x (by simp)
  have:=zaX (l:=r) (i:=i) (λy hy=>h y (by simp [hy])) (by simpa using hx) hp
  simp only [zct,h0,this,xaT,if_false];rw [if_neg (by omega)];simp
theorem zbJ {α:Type} {p:α->Bool}:∀ {l:List α},(∀ x ∈ l,p x=false)->zct p l=-1
 | [],_=>rfl
 | x::r,h=>by
  have h0:p x=false:=h x (by simp)
  have:=zbJ (l:=r) λy hy=>h y (by simp [hy])
  simp only [zct,h0,this];rfl
theorem zdB {α:Type} (f:α->ByteArray) (n:ByteArray):∀ l:List α,zct (λx=>decide (f x=n)) l=atL n (l.map f)
 | []=>rfl
 | x::r=>by simp only [zct,xag,atL,zdB f n r,decide_eq_true_eq]
def zM {α:Type} {l:List α} {i:Nat} {x:α} (hx:l[i]?=some x):l.take (i+1)=l.take i++[x]:=by rw [xaP,hx];rfl
def zCL (f:Fn) (k o:Nat):mfK f [] [.lp k o] (some []) (zft [.lp k o])=some (True,.ofV (.fn f [] [.lp k o])):=rfl
def zdU {α:Type} {p:α->Bool} {l:List α} {i:Nat} {x:α} (h:∀ y ∈ l.take i,p y=false) (hx:l[i]?=some x) (hp:p x=false):∀ y ∈ l.take (i+1),p y=false:=λy hy=>by
 rw [zM hx] at hy
 rcases xaL.1 hy with h1|h1
 ·exact h y h1
 ·simp at h1;subst h1;exact hp
def zu8 (L:List ByteArray) (x:ByteArray):Pure prog 182 [.sl 1 (L.map .s),.s x] (.i .i64 (atL x L)):=by
 refine pz func182 f182.eq_1 λhw X hX=>?_
 simp only [wfs,PV.wf,xaf,maxLen] at hw
 repeat' first|refine gC ?_ ?_<;>intro hc<;>try contradiction|refine gG ?_|show AK _;intro J Z|refine gJ ?_|omega|exact aT
 refine zh (κ:=Nat) (λi=>⟨[(0,.p (.sl 1 (L.map .s))),(1,.p (.s x)),(7,.p (.i .i64 L.length)),(8,.p (.i .i64 i))],[],[],false⟩) (λi=>i<=L.length/\∀ y ∈ L.take i,y≠x) (λi=>L.length - i) 0 ?_ ?_ ?_
 ·exact sR
 ·simp
 ·intro i hi
  repeat first|refine gG ?_|show AK _;intro J Z|refine gJ ?_|omega|exact aT
  (refine gC ?_ ?_<;>intro hc<;>try contradiction)
  ·obtain ⟨y,hy⟩:=zk (i:=i) (l:=L) (by omega)
   have qe:=@hy;repeat' first|refine gC ?_ ?_<;>intro hc<;>try contradiction|refine gG ?_|show AK _;intro J Z|refine gJ ?_|omega|exact aT
   ·rw [zjt hi.2 (by rw [hy,hc])];exact .refl _
   ·refine ⟨i+1,⟨by omega,λz hz=>?_⟩,by omega,by simp⟩
    rw [zM hy] at hz
    rcases xaL.1 hz with h|h
    ·exact hi.2 z h
    ·simp at h;subst h;exact λe=>hc e.symm
  ·repeat' first|refine gC ?_ ?_<;>intro hc<;>try contradiction|refine gG ?_|show AK _;intro J Z|refine gJ ?_|omega|exact aT
   have e:i=L.length:=by omega
   subst e;rw [zju (λy hy=>hi.2 y (by rw [xal (by simp)];exact hy))];exact .refl _
def ziD (L:List ByteArray) (x:ByteArray):Pure prog 126 [.sl 1 (L.map .s),.s x] (.b (decide (0<=atL x L))):=by
 refine pz func126 f126.eq_1 λhw X hX=>?_
 have jA:=zu8 L x;exact gD2
def zvh {f:Nat} {caps:List PV} {L:List SlR} {p:SlR->Bool} (hf:∀ w ∈ L,Pure prog f (w.pv::caps) (.b (p w))):Pure prog 69 [.sl 16 (L.map SlR.pv),.fn (.func f) [] caps] (.i .i64 (zct p L)):=by
 refine pz func69 f69.eq_1 λhw X hX=>?_
 simp only [wfs,PV.wf,xaf,maxLen] at hw
 repeat' first|refine gC ?_ ?_<;>intro hc<;>try contradiction|refine gG ?_|show AK _;intro J Z|refine gJ ?_|omega|exact aT
 refine zh (κ:=Nat) (λi=>⟨[(0,.p (.sl 16 (L.map SlR.pv))),(1,.p (.fn (.func f) [] caps)),(7,.p (.i .i64 L.length)),(8,.p (.i .i64 i))],[],[],false⟩) (λi=>i<=L.length/\∀ y ∈ L.take i,p y=false) (λi=>L.length - i) 0 ?_ ?_ ?_
 ·exact sR
 ·simp
 ·intro i hi
  repeat first|refine gG ?_|show AK _;intro J Z|refine gJ ?_|omega|exact aT
  (refine gC ?_ ?_<;>intro hc<;>try contradiction)
  ·obtain ⟨y,hy⟩:=zk (i:=i) (l:=L) (by omega)
   have qe:=@hy;repeat' first|refine gC ?_ ?_<;>intro hc<;>try contradiction|refine zn (hf y (xae hy)) ?_|refine gG ?_|show AK _;intro J Z|refine gJ ?_|omega|exact aT
   ·rw [zaX hi.2 hy hc];exact .refl _
   ·exact ⟨i+1,⟨by omega,zdU hi.2 hy (by simpa using hc)⟩,by omega,by simp⟩
  ·repeat' first|refine gC ?_ ?_<;>intro hc<;>try contradiction|refine gG ?_|show AK _;intro J Z|refine gJ ?_|omega|exact aT
   have e:i=L.length:=by omega
   subst e;rw [zbJ (λy hy=>hi.2 y (by rw [xal (by simp)];exact hy))];exact .refl _
def zva {f:Nat} {caps:List PV} {L:List Lea} {p:Lea->Bool} (hf:∀ w ∈ L,Pure prog f (w.pv::caps) (.b (p w))):Pure prog 179 [.sl 3 (L.map Lea.pv),.fn (.func f) [] caps] (.i .i64 (zct p L)):=by
 refine pz func179 f179.eq_1 λhw X hX=>?_
 simp only [wfs,PV.wf,xaf,maxLen] at hw
 repeat' first|refine gC ?_ ?_<;>intro hc<;>try contradiction|refine gG ?_|show AK _;intro J Z|refine gJ ?_|omega|exact aT
 refine zh (κ:=Nat) (λi=>⟨[(0,.p (.sl 3 (L.map Lea.pv))),(1,.p (.fn (.func f) [] caps)),(7,.p (.i .i64 L.length)),(8,.p (.i .i64 i))],[],[],false⟩) (λi=>i<=L.length/\∀ y ∈ L.take i,p y=false) (λi=>L.length - i) 0 ?_ ?_ ?_
 ·exact sR
 ·simp
 ·intro i hi
  repeat first|refine gG ?_|show AK _;intro J Z|refine gJ ?_|omega|exact aT
  (refine gC ?_ ?_<;>intro hc<;>try contradiction)
  ·obtain ⟨y,hy⟩:=zk (i:=i) (l:=L) (by omega)
   have qe:=@hy;repeat' first|refine gC ?_ ?_<;>intro hc<;>try contradiction|refine zn (hf y (xae hy)) ?_|refine gG ?_|show AK _;intro J Z|refine gJ ?_|omega|exact aT
   ·rw [zaX hi.2 hy hc];exact .refl _
   ·exact ⟨i+1,⟨by omega,zdU hi.2 hy (by simpa using hc)⟩,by omega,by simp⟩
  ·repeat' first|refine gC ?_ ?_<;>intro hc<;>try contradiction|refine gG ?_|show AK _;intro J Z|refine gJ ?_|omega|exact aT
   have e:i=L.length:=by omega
   subst e;rw [zbJ (λy hy=>hi.2 y (by rw [xal (by simp)];exact hy))];exact .refl _
def zu7 {f:Nat} {caps:List PV} {L:List Wsh} {p:Wsh->Bool} (hf:∀ w ∈ L,Pure prog f (w.pv::caps) (.b (p w))):Pure prog 215 [.sl 14 (L.map Wsh.pv),.fn (.func f) [] caps] (.i .i64 (zct p L)):=by
 refine pz func215 f215.eq_1 λhw X hX=>?_
 simp only [wfs,PV.wf,xaf,maxLen] at hw
 repeat' first|refine gC ?_ ?_<;>intro hc<;>try contradiction|refine gG ?_|show AK _;intro J Z|refine gJ ?_|omega|exact aT
 refine zh (κ:=Nat) (λi=>⟨[(0,.p (.sl 14 (L.map Wsh.pv))),(1,.p (.fn (.func f) [] caps)),(7,.p (.i .i64 L.length)),(8,.p (.i .i64 i))],[],[],false⟩) (λi=>i<=L.length/\∀ y ∈ L.take i,p y=false) (λi=>L.length - i) 0 ?_ ?_ ?_
 ·exact sR
 ·simp
 ·intro i hi
  repeat first|refine gG ?_|show AK _;intro J Z|refine gJ ?_|omega|exact aT
  (refine gC ?_ ?_<;>intro hc<;>try contradiction)
  ·obtain ⟨y,hy⟩:=zk (i:=i) (l:=L) (by omega)
   have qe:=@hy;repeat' first|refine gC ?_ ?_<;>intro hc<;>try contradiction|refine zn (hf y (xae hy)) ?_|refine gG ?_|show AK _;intro J Z|refine gJ ?_|omega|exact aT
   ·rw [zaX hi.2 hy hc];exact .refl _
   ·exact ⟨i+1,⟨by omega,zdU hi.2 hy (by simpa using hc)⟩,by omega,by simp⟩
  ·repeat' first|refine gC ?_ ?_<;>intro hc<;>try contradiction|refine gG ?_|show AK _;intro J Z|refine gJ ?_|omega|exact aT
   have e:i=L.length:=by omega
   subst e;rw [zbJ (λy hy=>hi.2 y (by rw [xal (by simp)];exact hy))];exact .refl _
def zvg (s:SlR) (n:ByteArray):Pure prog 70 [s.pv,.ip (.s n) 0] (.b (decide (s.req.name=n))):=by
 refine pz func70 f70.eq_1 λhw X hX=>?_
 exact gD0
def zvb (s:Wsh) (n:ByteArray):Pure prog 173 [s.pv,.ip (.s n) 0] (.b (decide (s.req.name=n))):=by
 refine pz func173 f173.eq_1 λhw X hX=>?_
 exact gD0
def zik (l:List Slt):l.map Slt.pv=(l.map Slt.raw).map SlR.pv:=by rw [xbS];rfl
def zfF (L:List SlR) (W:List Wsh) (n:ByteArray):Pure prog 31 [.agg [.sl 16 (L.map SlR.pv),.sl 14 (W.map Wsh.pv)],.s n] (.i .i64 (atL n (L.map (·.req.name)))):=by
 refine pz func31 f31.eq_1 λhw X hX=>?_
 repeat' first|refine gC ?_ ?_<;>intro hc<;>try contradiction|refine zL (zvh (L:=L) (p:=λw=>decide (w.req.name=n)) (λw _=>zvg w n)) ?_|refine gG ?_|show AK _;intro J Z|refine gJ ?_|omega|exact aT
 rw [zdB];exact .refl _
def zvs (L:List SlR) (W:List Wsh) (n:ByteArray):Pure prog 29 [.agg [.sl 16 (L.map SlR.pv),.sl 14 (W.map Wsh.pv)],.s n] (.i .i64 (if atL n (L.map (·.req.name)) < 0 then 10 else 0)):=by
 refine pz func29 f29.eq_1 λhw X hX=>?_
 have jA:=zfF L W n;have jB:=λu1 u2=>zaa u1 u2;exact gD2
def zvc {f:Nat} {caps:List PV} {L:List Wsh} {p:Wsh->Bool} (hf:∀ w ∈ L,Pure prog f (w.pv::caps) (.b (p w))):Pure prog 172 [.sl 14 (L.map Wsh.pv),.fn (.func f) [] caps] (.b (decide (0<=zct p L))):=by
 refine pz func172 f172.eq_1 λhw X hX=>?_
 have jA:=zu7 (L:=L) (p:=p) hf;exact gD2
def zmw (L:List ByteArray) (W:List ByteArray) (n:ByteArray):Bool:=decide (0<=atL n L) || decide (0<=atL n W)
def zvm (L:List SlR) (W:List Wsh) (n:ByteArray):Pure prog 115 [.agg [.sl 16 (L.map SlR.pv),.sl 14 (W.map Wsh.pv)],.s n] (.b (zmw (L.map (·.req.name)) (W.map (·.req.name)) n)):=by
 refine pz func115 f115.eq_1 λhw X hX=>?_
 have qe:=@zCL;repeat' first|refine gC ?_ ?_<;>intro hc<;>try contradiction|refine zL (zfF L W n) ?_|refine zm (λ_=>zvc (L:=W) (p:=λw=>decide (w.req.name=n)) (λw _=>zvb w n)) ?_|refine gG ?_|show AK _;intro J Z|refine gJ ?_|omega|exact aT
 rw [zdB];exact .refl _
def zmX (w:Wsh):Pure prog 67 [w.pv] (.i .i64 (zfm w)):=by
 refine pz func67 f67.eq_1 λhw X hX=>?_
 have qe:=@qR;have jA:=ziE w.req;have jB:=λu1 u2 u3=>zmT u1 u2 u3;have jC:=λu1 u2=>zO [u1,u2];exact gD4
def ziS (i j:Nat) (h:i+j < 1000000000):IntKind.i64.wrap ((IntKind.u64.wrap ((i:Int)+j)).fdiv (2 ^ min (Int.toNat 1) IntKind.u64.bits))=(((i+j) / 2:Nat):Int):=by
 rw [IntKind.wrap_u64,show (2:Int) ^ min (Int.toNat 1) IntKind.u64.bits=2 from rfl,xcm _ (by decide)]
 rw [show (((i:Int)+j) % 18446744073709551616 / 2)=(((i+j) / 2:Nat):Int) by omega]
 exact zjy (by omega) (by omega)
def wyD (P:List Mov) (x:Mov) (B S:List Mov) (q:Nat):List Mov:=P++(B.take q++(x::(B.drop q++S)))
def zib {P B S:List Mov} {x:Mov} (q:Nat):(wyD P x B S q).length=P.length+(B.length+1+S.length):=by
 simp only [wyD,xad,xaK,xaj,xay];omega
def zmv {P B S:List Mov} {x:Mov} {q:Nat} (hq:q<=B.length):(wyD P x B S q)[P.length+q]?=some x:=by
 have hl:(P++B.take q).length=P.length+q:=by simp;omega
 rw [wyD,<-xau,<-hl];have:=zbW (P++B.take q) [x] (B.drop q++S) (j:=0) (by simp)
 simpa using this
def zx6 {P B S:List Mov} {x y:Mov} {q:Nat} (hy:B[q]?=some y):(wyD P x B S q)[P.length+(q+1)]?=some y:=by
 have hq:=(xaa.1 hy).1;have e:wyD P x B S q=(P++(B.take q++[x]))++(B.drop q++S):=by simp [wyD]
 have hl:(P++(B.take q++[x])).length=P.length+(q+1):=by simp;omega
 rw [e,<-hl];have:=zbW (P++(B.take q++[x])) (B.drop q) S (j:=0) (by simp;omega)
 rw [xbD] at this;rw [this,xaI,xbD,hy]
def zx7 {P B S:List Mov} {x y:Mov} {q:Nat} (hy:B[q]?=some y):(wyD P x B S (q+1))[P.length+q]?=some y:=by
 have hq:=(xaa.1 hy).1;have:=zbW P (B.take (q+1)) (x::(B.drop (q+1)++S)) (j:=q) (by simp;omega)
 rw [wyD,this,xaF,if_pos (by omega),hy]
def zjx {P B S:List Mov} {x y:Mov} {q:Nat} (hy:B[q]?=some y):wyD P x B S q=(P++B.take q)++([x,y]++(B.drop (q+1)++S))/\wyD P x B S (q+1)=(P++B.take q)++([y,x]++(B.drop (q+1)++S)):=by
 have hq:=(xaa.1 hy).1;refine ⟨?_,?_⟩
 ·rw [wyD,xaM hq,(xaa.1 hy).2];simp
 ·rw [wyD,xaP,hy];simp
def zBl {P B S:List Mov} {x y:Mov} {q:Nat} (hy:B[q]?=some y):((wyD P x B S q).set (P.length+q) y).set (P.length+(q+1)) x=wyD P x B S (q+1):=by
 have hq:=(xaa.1 hy).1;obtain ⟨e1,e2⟩:=zjx (P:=P) (S:=S) (x:=x) hy;have hl:(P++B.take q).length=P.length+q:=by simp;omega
 rw [e1,e2,<-xbw,<-hl];have h1:=zdf (P++B.take q) [x,y] (B.drop (q+1)++S) (j:=0) y (by simp)
 have h2:=zdf (P++B.take q) [y,y] (B.drop (q+1)++S) (j:=1) x (by simp)
 simp only [xbD] at h1;rw [h1];exact h2
def zts {P B S:List Mov} {x y:Mov} {q:Nat} (hy:B[q]?=some y):((wyD P x B S (q+1)).set (P.length+(q+1)) y).set (P.length+q) x=wyD P x B S q:=by
 have hq:=(xaa.1 hy).1;obtain ⟨e1,e2⟩:=zjx (P:=P) (S:=S) (x:=x) hy;have hl:(P++B.take q).length=P.length+q:=by simp;omega
 rw [e1,e2,<-xbw,<-hl];have h1:=zdf (P++B.take q) [y,x] (B.drop (q+1)++S) (j:=1) y (by simp)
 have h2:=zdf (P++B.take q) [y,y] (B.drop (q+1)++S) (j:=0) x (by simp)
 simp only [xbD] at h2;rw [h1];exact h2
def zvS {lt:Mov->Mov->Bool} {x:Mov} {B:List Mov} {k:Nat} (h1:∀ y ∈ B.take k,lt y x=true) (h2:∀ y ∈ B.drop k,lt y x=false):mrg lt [x] B=B.take k++x::B.drop k:=by
 have:=zbe [] [x] (B.take k) (B.drop k) (lt:=lt) (by simp) (λb hb a ha=>by rw [xa8.1 ha];exact h1 b hb)
 rw [xao,zaW] at this;rw [xaQ] at this;rw [this];have:=zbe [x] [] [] (B.drop k) (lt:=lt) (λa ha b hb=>by rw [xa8.1 ha];exact h2 b hb) (by simp)
 rw [xat,xaQ,zbo,zaW] at this;rw [this];rfl
def zvR {lt:Mov->Mov->Bool} {y:Mov} {A:List Mov} {k:Nat} (h1:∀ z ∈ A.take k,lt y z=false) (h2:∀ z ∈ A.drop k,lt y z=true):mrg lt A [y]=A.take k++y::A.drop k:=by
 have:=zbe (A.take k) (A.drop k) [] [y] (lt:=lt) (λa ha b hb=>by rw [xa8.1 hb];exact h1 a ha) (by simp)
 rw [xao,xaQ,zbo] at this;rw [this];have:=zbe [] (A.drop k) [y] [] (lt:=lt) (by simp) (λb hb a ha=>by rw [xa8.1 hb];exact h2 a ha)
 rw [xat,xaQ,zaW,zbo] at this;rw [this];rfl
def zmA {lt:Mov->Mov->Bool} (hs:SW lt) {L:List Mov} (h:srt lt L) {i j:Nat} {a b:Mov} (hij:i<=j) (ha:L[i]?=some a) (hb:L[j]?=some b):lt b a=false:=by
 by_cases e:i=j
 ·subst e;rw [ha] at hb;cases hb;cases hh:lt a a
  ·rfl
  ·rw [<-hs.asym _ _ hh,hh]
 ·have hi:=(xaa.1 ha).1;have hj:=(xaa.1 hb).1;have:=xaw.1 h i j hi hj (by omega)
  rw [xab hi] at ha;rw [xab hj] at hb;rw [xaN ha,xaN hb] at this;exact this
def zgk {α:Type} {L:List α} {k:Nat} {a:α} (h:a ∈ L.take k):∃ i,i < k/\L[i]?=some a:=by
 obtain ⟨i,hi⟩:=xaS h;have:=(xaa.1 hi).1;simp only [xaj] at this;rw [xaF,if_pos (by omega)] at hi
 exact ⟨i,by omega,hi⟩
def zgl {α:Type} {L:List α} {k:Nat} {a:α} (h:a ∈ L.drop k):∃ i,k<=i/\L[i]?=some a:=by
 obtain ⟨i,hi⟩:=xaS h;rw [xaI] at hi;exact ⟨k+i,by omega,hi⟩
section
variable {f:Nat} {c:Mov->Mov->Int}
def bf_t {a b:Mov} (h:bfC c a b=true):(c a b < 0)=True:=eq_true (by simpa [bfC] using h)
def bf_f {a b:Mov} (h:bfC c a b=false):(c a b < 0)=False:=eq_false (by simpa [bfC] using h)
def zw4 (hf:∀ a b:Mov,Pure prog f [a.pv,b.pv] (.i .i64 (c a b))) (hs:SW (bfC c)) {D D':List Mov} {N:Nat} (P B S:List Mov) (x:Mov) (hN:D.length=N) (hD:D=P++([x]++(B++S))) (hD':D'=P++(mrg (bfC c) [x] B++S)) (sB:srt (bfC c) B) (a m b:Int) (ha:a=(P.length:Nat)) (hm:m=(P.length+1:Nat)) (hb:b=(P.length+1+B.length:Nat)) (hn:N<=1000000) :
  Acts prog 255 [.row 900 N,.p (.i .i64 a),.p (.i .i64 m),.p (.i .i64 b),.p (.fn (.func f) [] [])] [(900,.row 120 7 (D.map Mov.pv) false)] (.p (.tup [])) [(900,.row 120 7 (D'.map Mov.pv) false)]:=by
 subst ha hm hb;have hlen:N=P.length+(1+(B.length+S.length)):=by rw [<-hN,hD];simp only [xad,xaK,xbs]
 have hlen':D'.length=N:=by rw [hD',hlen];simp [zdc];omega
 have e0:D=wyD P x B S 0:=by rw [hD,wyD];simp
 have hx:D[P.length]?=some x:=by rw [e0];exact zmv (q:=0) (by omega)
 have hDB:∀ q y,B[q]?=some y->D[P.length+1+q]?=some y:=λq y hy=>by
  have hq:=(xaa.1 hy).1;have e:D=(P++[x])++(B++S):=by rw [hD];simp
  have hl:(P++[x]).length=P.length+1:=by simp
  rw [e,<-hl,zbW _ _ _ hq,hy]
 refine zF (cF func255 f255.eq_1) (by simp) (by simp [scPs,scP,zp,hN]) (by simp [scObj]) ⟨rfl,trivial⟩ (by simp [scObj]) (by simp [zb1,zp,hN,hlen']) λX hX=>?_
 unfold zA ghO;have z1:(((P.length+1:Nat):Int) - (P.length:Nat)=1)=True:=eq_true (by omega)
 have qe:=aI qR (aI @gLV.eq_2 @z1);repeat' first|refine gC ?_ ?_<;>intro hc<;>try contradiction|refine gG ?_|show AK _;intro J Z|refine gJ ?_|omega|exact aT
 refine zh (κ:=Nat × Nat) (λk=>⟨[(0,.row 900 N),(1,.p (.i .i64 (P.length:Nat))),(2,.p (.i .i64 (P.length+1:Nat))),(3,.p (.i .i64 (P.length+1+B.length:Nat))),(4,.p (.fn (.func f) [] [])),(10,.p (.i .i64 (k.1:Nat))),(11,.p (.i .i64 (k.2:Nat))),(1000900,.row 900 N)],[(900,.row 120 7 (D.map Mov.pv) false)],[],false⟩)
  (λk=>P.length+1<=k.1/\k.1<=k.2/\k.2<=P.length+1+B.length/\(∀ y ∈ B.take (k.1 - (P.length+1)),bfC c y x=true)/\∀ y ∈ B.drop (k.2 - (P.length+1)),bfC c y x=false) (λk=>k.2 - k.1) (P.length+1,P.length+1+B.length) ?_ ?_ ?_
 ·simp only [qS,seval,gLV.eq_2]<;>simp [hN]
 ·refine ⟨by simp,by simp,by simp,?_,?_⟩
  ·simp
  ·simp
 ·intro k hk;obtain ⟨i,j⟩:=k;simp only at hk;obtain ⟨k1,k2,k3,k4,k5⟩:=hk;have hm:=ziS i j (by omega)
  by_cases hij:i < j
  ·have hij':((i:Int) < j)=True:=eq_true (by omega)
   obtain ⟨y,hy⟩:=zk (i:=(i+j) / 2 - (P.length+1)) (l:=B) (by omega)
   have hy2:=hDB _ y hy;rw [show P.length+1+((i+j) / 2 - (P.length+1))=(i+j) / 2 by omega] at hy2
   cases hcc:bfC c y x with
   | true=>
    have hc':=bf_t hcc;have qe:=aI qR (aI @hij' (aI @hm (aI @hN (aI @hx (aI @hy2 (aI @hc' (aI @rtN @rtR)))))));repeat' first|refine gC ?_ ?_<;>intro hc<;>try contradiction|refine zn (hf y x) ?_|refine gG ?_|show AK _;intro J Z|refine gJ ?_|omega|exact aT
    refine ⟨((i+j) / 2+1,j),⟨by simp only;omega,by simp only;omega,k3,λz hz=>?_,k5⟩,by simp only;omega,by simp⟩
    obtain ⟨q,hq,hz⟩:=zgk hz;cases hh:bfC c z x with
    | true=>rfl
    | false=>
     have h2:=zmA hs sB (show q<=(i+j) / 2 - (P.length+1) by simp only at hq;omega) hz hy
     rw [hs.nt _ _ _ h2 hh] at hcc;cases hcc
   | false=>
    have hc':=bf_f hcc;have qe:=aI qR (aI @hij' (aI @hm (aI @hN (aI @hx (aI @hy2 (aI @hc' (aI @rtN @rtR)))))));repeat' first|refine gC ?_ ?_<;>intro hc<;>try contradiction|refine zn (hf y x) ?_|refine gG ?_|show AK _;intro J Z|refine gJ ?_|omega|exact aT
    refine ⟨(i,(i+j) / 2),⟨k1,by simp only;omega,by simp only;omega,k4,λz hz=>?_⟩,by simp only;omega,by simp⟩
    obtain ⟨q,hq,hz⟩:=zgl hz;have h2:=zmA hs sB hq hy hz;exact hs.nt _ _ _ h2 hcc
  ·have e:i=j:=by omega
   subst e;have hij':((i:Int) < i)=False:=eq_false (by omega)
   have hmr:=zvS k4 k5;generalize hq:i - (P.length+1)=K at k4 k5 hmr;have hi:i=P.length+1+K:=by omega
   subst hi;have qe:=aI qR (aI @hij' (aI @hN (aI @rtN @rtR)));repeat' first|refine gC ?_ ?_<;>intro hc<;>try contradiction|refine gG ?_|show AK _;intro J Z|refine gJ ?_|omega|exact aT
   refine zh (κ:=Nat) (λq=>⟨[(0,.row 900 N),(1,.p (.i .i64 (P.length:Nat))),(10,.p (.i .i64 (P.length+1+K:Nat))),(13,.p (.i .i64 (P.length+q:Nat))),(1000900,.row 900 N)],[(900,.row 120 7 ((wyD P x B S q).map Mov.pv) false)],[],false⟩) (λq=>q<=K) (λq=>K - q) 0 ?_ ?_ ?_
   ·refine gJ ?_;simp [<-e0,hN]
   ·simp
   ·intro q hqK;have hml:(wyD P x B S q).length=N:=by rw [zib];omega
    have j1:(((P.length+q:Nat):Int)+1).toNat=P.length+(q+1):=by omega
    by_cases hlt:q < K
    ·obtain ⟨y,hy⟩:=zk (i:=q) (l:=B) (by omega)
     have h1:=zmv (P:=P) (S:=S) (x:=x) (B:=B) (q:=q) (by omega)
     have h2:=zx6 (P:=P) (S:=S) (x:=x) hy;have h3:=zBl (P:=P) (S:=S) (x:=x) hy;have hlt':(((P.length+q:Nat):Int) < ((P.length+1+K:Nat):Int) - 1)=True:=eq_true (by omega)
     have qe:=aI qR (aI @hml (aI @hlt' (aI @j1 (aI @h1 (aI @h2 (aI @rtN @rtR))))));repeat' first|refine gC ?_ ?_<;>intro hc<;>try contradiction|refine gG ?_|show AK _;intro J Z|refine gJ ?_|omega|exact aT
     exact ⟨q+1,by omega,by omega,by simp only [LV.p.injEq,PV.i.injEq,true_and];omega,by rw [<-h3,xa2,xa2],by rw [zib];omega⟩
    ·have e:q=K:=by omega
     subst e;have hlt':(((P.length+q:Nat):Int) < ((P.length+1+q:Nat):Int) - 1)=False:=eq_false (by omega)
     have qe:=aI qR (aI @hml (aI @hlt' (aI @rtN @rtR)));repeat' first|refine gC ?_ ?_<;>intro hc<;>try contradiction|refine gG ?_|show AK _;intro J Z|refine gJ ?_|omega|exact aT
     rw [show wyD P x B S q=D' by rw [hD',hmr,wyD];simp]
     exact .inl (.mk0 (h2:=by simp only [qS,seval,keepG.eq_1,keepG.eq_2,gLV.eq_2]<;>simp [hN]))
end
section
variable {f:Nat} {c:Mov->Mov->Int}
def zw3 (hf:∀ a b:Mov,Pure prog f [a.pv,b.pv] (.i .i64 (c a b))) (hs:SW (bfC c)) {D D':List Mov} {N:Nat} (P A S:List Mov) (y:Mov) (hN:D.length=N) (hD:D=P++(A++([y]++S))) (hD':D'=P++(mrg (bfC c) A [y]++S)) (sA:srt (bfC c) A) (h1A:1 < A.length) (a m b:Int) (ha:a=(P.length:Nat)) (hm:m=(P.length+A.length:Nat)) (hb:b=(P.length+A.length+1:Nat)) (hn:N<=1000000) :
  Acts prog 255 [.row 900 N,.p (.i .i64 a),.p (.i .i64 m),.p (.i .i64 b),.p (.fn (.func f) [] [])] [(900,.row 120 7 (D.map Mov.pv) false)] (.p (.tup [])) [(900,.row 120 7 (D'.map Mov.pv) false)]:=by
 subst ha hm hb;have hlen:N=P.length+(A.length+(1+S.length)):=by rw [<-hN,hD];simp only [xad,xaK,xbs]
 have hlen':D'.length=N:=by rw [hD',hlen];simp [zdc];omega
 have e0:D=wyD P y A S A.length:=by rw [hD,wyD];simp
 have hyD:D[P.length+A.length]?=some y:=by rw [e0];exact zmv (xah _)
 have hDA:∀ q z,A[q]?=some z->D[P.length+q]?=some z:=λq z hz=>by
  rw [hD,zbW _ _ _ (xaa.1 hz).1,hz]
 refine zF (cF func255 f255.eq_1) (by simp) (by simp [scPs,scP,zp,hN]) (by simp [scObj]) ⟨rfl,trivial⟩ (by simp [scObj]) (by simp [zb1,zp,hN,hlen']) λX hX=>?_
 unfold zA ghO;have z1:(((P.length+A.length:Nat):Int) - (P.length:Nat)=1)=False:=eq_false (by omega)
 have z2:(((P.length+A.length+1:Nat):Int) - (P.length+A.length:Nat)=1)=True:=eq_true (by omega)
 have qe:=aI qR (aI @gLV.eq_2 (aI @z1 @z2));repeat' first|refine gC ?_ ?_<;>intro hc<;>try contradiction|refine gG ?_|show AK _;intro J Z|refine gJ ?_|omega|exact aT
 refine zh (κ:=Nat × Nat) (λk=>⟨[(0,.row 900 N),(1,.p (.i .i64 (P.length:Nat))),(2,.p (.i .i64 (P.length+A.length:Nat))),(4,.p (.fn (.func f) [] [])),(14,.p (.i .i64 (k.1:Nat))),(15,.p (.i .i64 (k.2:Nat))),(1000900,.row 900 N)],[(900,.row 120 7 (D.map Mov.pv) false)],[],false⟩)
  (λk=>P.length<=k.1/\k.1<=k.2/\k.2<=P.length+A.length/\(∀ z ∈ A.take (k.1 - P.length),bfC c y z=false)/\∀ z ∈ A.drop (k.2 - P.length),bfC c y z=true) (λk=>k.2 - k.1) (P.length,P.length+A.length) ?_ ?_ ?_
 ·simp only [qS,seval,gLV.eq_2]<;>simp [hN]
 ·refine ⟨by simp,by simp,by simp,?_,?_⟩
  ·simp
  ·simp
 ·intro k hk;obtain ⟨i,j⟩:=k;simp only at hk;obtain ⟨k1,k2,k3,k4,k5⟩:=hk;have hm:=ziS i j (by omega)
  by_cases hij:i < j
  ·have hij':((i:Int) < j)=True:=eq_true (by omega)
   obtain ⟨z,hz⟩:=zk (i:=(i+j) / 2 - P.length) (l:=A) (by omega)
   have hz2:=hDA _ z hz;rw [show P.length+((i+j) / 2 - P.length)=(i+j) / 2 by omega] at hz2
   cases hcc:bfC c y z with
   | false=>
    have hc':=bf_f hcc;have qe:=aI qR (aI @hij' (aI @hm (aI @hN (aI @hyD (aI @hz2 (aI @hc' (aI @rtN @rtR)))))));repeat' first|refine gC ?_ ?_<;>intro hc<;>try contradiction|refine zn (hf y z) ?_|refine gG ?_|show AK _;intro J Z|refine gJ ?_|omega|exact aT
    refine ⟨((i+j) / 2+1,j),⟨by simp only;omega,by simp only;omega,k3,λw hw=>?_,k5⟩,by simp only;omega,by simp⟩
    obtain ⟨q,hq,hw⟩:=zgk hw;have h2:=zmA hs sA (show q<=(i+j) / 2 - P.length by simp only at hq;omega) hw hz
    exact hs.nt _ _ _ hcc h2
   | true=>
    have hc':=bf_t hcc;have qe:=aI qR (aI @hij' (aI @hm (aI @hN (aI @hyD (aI @hz2 (aI @hc' (aI @rtN @rtR)))))));repeat' first|refine gC ?_ ?_<;>intro hc<;>try contradiction|refine zn (hf y z) ?_|refine gG ?_|show AK _;intro J Z|refine gJ ?_|omega|exact aT
    refine ⟨(i,(i+j) / 2),⟨k1,by simp only;omega,by simp only;omega,k4,λw hw=>?_⟩,by simp only;omega,by simp⟩
    obtain ⟨q,hq,hw⟩:=zgl hw;have h2:=zmA hs sA hq hz hw;cases hh:bfC c y w with
    | true=>rfl
    | false=>rw [hs.nt _ _ _ hh h2] at hcc;cases hcc
  ·have e:i=j:=by omega
   subst e;have hij':((i:Int) < i)=False:=eq_false (by omega)
   have hmr:=zvR k4 k5;generalize hq:i - P.length=K at k4 k5 hmr;have hi:i=P.length+K:=by omega
   subst hi;have qe:=aI qR (aI @hij' (aI @hN (aI @rtN @rtR)));repeat' first|refine gC ?_ ?_<;>intro hc<;>try contradiction|refine gG ?_|show AK _;intro J Z|refine gJ ?_|omega|exact aT
   refine zh (κ:=Nat) (λq=>⟨[(0,.row 900 N),(14,.p (.i .i64 (P.length+K:Nat))),(17,.p (.i .i64 (P.length+q:Nat))),(1000900,.row 900 N)],[(900,.row 120 7 ((wyD P y A S q).map Mov.pv) false)],[],false⟩) (λq=>K<=q/\q<=A.length) (λq=>q - K) A.length ?_ ?_ ?_
   ·refine gJ ?_;simp [<-e0,hN]
   ·constructor<;>omega
   ·intro q hqK;have hml:(wyD P y A S q).length=N:=by rw [zib];omega
    by_cases hlt:K < q
    ·obtain ⟨q,rfl⟩:∃ q',q=q'+1:=⟨q - 1,by omega⟩
     obtain ⟨z,hz⟩:=zk (i:=q) (l:=A) (by omega)
     have j1:(((P.length+(q+1):Nat):Int) - 1).toNat=P.length+q:=by omega
     have h1:=zmv (P:=P) (S:=S) (x:=y) (B:=A) (q:=q+1) (by omega)
     have h2:=zx7 (P:=P) (S:=S) (x:=y) hz;have h3:=zts (P:=P) (S:=S) (x:=y) hz;have hlt':(((P.length+K:Nat):Int) < ((P.length+(q+1):Nat):Int))=True:=eq_true (by omega)
     have qe:=aI qR (aI @hml (aI @hlt' (aI @j1 (aI @h1 (aI @h2 (aI @rtN @rtR))))));repeat' first|refine gC ?_ ?_<;>intro hc<;>try contradiction|refine gG ?_|show AK _;intro J Z|refine gJ ?_|omega|exact aT
     exact ⟨q,by constructor<;>omega,by omega,by simp only [LV.p.injEq,PV.i.injEq,true_and];omega,by rw [<-h3,xa2,xa2],by rw [zib];omega⟩
    ·have e:q=K:=by omega
     subst e;have hlt':(((P.length+q:Nat):Int) < ((P.length+q:Nat):Int))=False:=eq_false (by omega)
     have qe:=aI qR (aI @hml (aI @hlt' (aI @rtN @rtR)));repeat' first|refine gC ?_ ?_<;>intro hc<;>try contradiction|refine gG ?_|show AK _;intro J Z|refine gJ ?_|omega|exact aT
     rw [show wyD P y A S q=D' by rw [hD',hmr,wyD];simp]
     exact .inl (.mk0 (h2:=by simp only [qS,seval,keepG.eq_1,keepG.eq_2,gLV.eq_2]<;>simp [hN]))
end
section
variable {f:Nat} {c:Mov->Mov->Int}
def ztg (hf:∀ a b:Mov,Pure prog f [a.pv,b.pv] (.i .i64 (c a b))) (hs:SW (bfC c)):∀ (n:Nat) {D D':List Mov} {N:Nat} (P A B S:List Mov) (_:D.length=N) (_:D=P++(A++(B++S))) (_:D'=P++(mrg (bfC c) A B++S)) (_:srt (bfC c) A) (_:srt (bfC c) B) (_:0 < A.length) (_:0 < B.length) (_:A.length+B.length=n) (a m b:Int) (_:a=(P.length:Nat)) (_:m=(P.length+A.length:Nat)) (_:b=(P.length+A.length+B.length:Nat)) (_:N<=1000000),
  Acts prog 255 [.row 900 N,.p (.i .i64 a),.p (.i .i64 m),.p (.i .i64 b),.p (.fn (.func f) [] [])] [(900,.row 120 7 (D.map Mov.pv) false)] (.p (.tup [])) [(900,.row 120 7 (D'.map Mov.pv) false)]:=by
 intro n
 induction n using Nat.strongRecOn with
 | _ n ih=>
 intro D D' N P A B S hN hD hD' sA sB hA hB hn2 a m b ha hm hb hn
 by_cases h1A:A.length=1
 ·match A,h1A with
  | [x],_=>exact zw4 hf hs P B S x hN hD hD' sB a m b ha (by rw [hm];simp) (by rw [hb];simp) hn
 by_cases h1B:B.length=1
 ·match B,h1B with
  | [y],_=>exact zw3 hf hs P A S y hN hD hD' sA (by omega) a m b ha hm (by rw [hb];simp) hn
 subst ha hm hb;have hlen:N=P.length+(A.length+(B.length+S.length)):=by rw [<-hN,hD];simp
 have hlen':D'.length=N:=by rw [hD',hlen];simp [zdc];omega
 have hDA:∀ q z,A[q]?=some z->D[P.length+q]?=some z:=λq z hz=>by
  rw [hD,zbW _ _ _ (xaa.1 hz).1,hz]
 have hDB:∀ q y,B[q]?=some y->D[P.length+A.length+q]?=some y:=λq y hy=>by
  have e:D=(P++A)++(B++S):=by rw [hD];simp
  rw [e,<-xad,zbW _ _ _ (xaa.1 hy).1,hy]
 refine zF (cF func255 f255.eq_1) (by simp) (by simp [scPs,scP,zp,hN]) (by simp [scObj]) ⟨rfl,trivial⟩ (by simp [scObj]) (by simp [zb1,zp,hN,hlen']) λX hX=>?_
 unfold zA ghO;have z1:(((P.length+A.length:Nat):Int) - (P.length:Nat)=1)=False:=eq_false (by omega)
 have z2:(((P.length+A.length+B.length:Nat):Int) - (P.length+A.length:Nat)=1)=False:=eq_false (by omega)
 have hmid:=ziS P.length (P.length+A.length+B.length) (by omega)
 obtain ⟨mid,hmd⟩:∃ mid,mid=(P.length+(P.length+A.length+B.length)) / 2:=⟨_,rfl⟩;rw [<-hmd] at hmid;obtain ⟨st,r0,hst⟩:∃ st r0:Nat,(mid < P.length+A.length/\st=mid+(P.length+A.length) - (P.length+A.length+B.length)/\r0=mid)\/(P.length+A.length<=mid/\st=P.length/\r0=P.length+A.length):=by
  by_cases h:mid < P.length+A.length
  ·exact ⟨_,_,.inl ⟨h,rfl,rfl⟩⟩
  ·exact ⟨_,_,.inr ⟨by omega,rfl,rfl⟩⟩
 have qe:=aI qR (aI @gLV.eq_2 @z1);repeat' first|refine gG ?_|show AK _;intro J Z|refine gJ ?_|omega|exact aT
 have qe:=aI qR (aI @gLV.eq_2 @z1);(refine gC ?_ ?_<;>intro hc<;>try contradiction)
 have qe:=aI qR (aI @gLV.eq_2 (aI @z1 @z2));repeat' first|refine gG ?_|show AK _;intro J Z|refine gJ ?_|omega|exact aT
 have qe:=aI qR (aI @gLV.eq_2 @z2);(refine gC ?_ ?_<;>intro hc<;>try contradiction)
 have qe:=aI qR @hmid;repeat' first|refine gG ?_|show AK _;intro J Z|refine gJ ?_|omega|exact aT
 refine ziq ⟨[(0,.row 900 N),(1,.p (.i .i64 (P.length:Nat))),(2,.p (.i .i64 (P.length+A.length:Nat))),(3,.p (.i .i64 (P.length+A.length+B.length:Nat))),(4,.p (.fn (.func f) [] [])),(18,.p (.i .i64 (mid:Nat))),(19,.p (.i .i64 (mid+(P.length+A.length):Nat))),(20,.p (.i .i64 (st:Nat))),(21,.p (.i .i64 (r0:Nat))),(1000900,.row 900 N)],[(900,.row 120 7 (D.map Mov.pv) false)],[],false⟩ ?_ ?_
 ·rcases hst with ⟨g1,g2,g3⟩|⟨g1,g2,g3⟩
  ·have hg:(((mid:Nat):Int) < (P.length+A.length:Nat))=True:=eq_true (by omega)
   have qe:=aI qR (aI @zkC @hg);repeat' first|refine gC ?_ ?_<;>intro hc<;>try contradiction|refine gG ?_|show AK _;intro J Z|refine gJ ?_|omega|exact aT
   subst g2 g3
   (repeat' apply And.intro)<;>first|rfl|(simp only [LV.p.injEq,PV.i.injEq,true_and];omega)|(exact xcr hN.symm)|(rw [hN])
  ·have hg:(((mid:Nat):Int) < (P.length+A.length:Nat))=False:=eq_false (by omega)
   have qe:=aI qR (aI @zkC @hg);repeat' first|refine gC ?_ ?_<;>intro hc<;>try contradiction|refine gG ?_|show AK _;intro J Z|refine gJ ?_|omega|exact aT
   subst g2 g3
   (repeat' apply And.intro)<;>first|rfl|(simp only [LV.p.injEq,PV.i.injEq,true_and];omega)|(exact xcr hN.symm)|(rw [hN])
 refine Stp.h ?_;have qe:=@qR;repeat' first|refine gC ?_ ?_<;>intro hc<;>try contradiction|refine gG ?_|show AK _;intro J Z|refine gJ ?_|omega|exact aT
 refine zh (κ:=Nat × Nat) (λk=>⟨[(0,.row 900 N),(1,.p (.i .i64 (P.length:Nat))),(2,.p (.i .i64 (P.length+A.length:Nat))),(3,.p (.i .i64 (P.length+A.length+B.length:Nat))),(4,.p (.fn (.func f) [] [])),(18,.p (.i .i64 (mid:Nat))),(19,.p (.i .i64 (mid+(P.length+A.length):Nat))),(20,.p (.i .i64 (k.1:Nat))),(21,.p (.i .i64 (k.2:Nat))),(22,.p (.i .i64 (mid+(P.length+A.length) - 1:Nat))),(1000900,.row 900 N)],[(900,.row 120 7 (D.map Mov.pv) false)],[],false⟩)
  (λk=>st<=k.1/\k.1<=k.2/\k.2<=r0/\(∀ a b,A[k.1 - P.length - 1]?=some a->B[mid - k.1]?=some b->0 < k.1 - P.length->bfC c b a=false)/\(∀ a b,A[k.2 - P.length]?=some a->B[mid - k.2 - 1]?=some b->0 < mid - k.2->bfC c b a=true)) (λk=>k.2 - k.1) (st,r0) ?_ ?_ ?_
 ·simp only [qS,seval];simp only [LV.p.injEq,PV.i.injEq,true_and];omega
 ·refine ⟨xah _,by simp only;omega,xah _,λa b h1 h2 h3=>?_,λa b h1 h2 h3=>?_⟩
  ·exfalso
   have h1:=(xaa.1 h1).1;have h2:=(xaa.1 h2).1;simp only at h1 h2 h3
   omega
  ·exfalso
   have h1:=(xaa.1 h1).1;have h2:=(xaa.1 h2).1;simp only at h1 h2 h3
   omega
 ·intro k hk;obtain ⟨s,r⟩:=k;simp only at hk;obtain ⟨k1,k2,k3,k4,k5⟩:=hk;have hm:=ziS s r (by omega)
  by_cases hsr:s < r
  ·have hsr':((s:Int) < r)=True:=eq_true (by omega)
   obtain ⟨v,hv⟩:=zk (i:=(s+r) / 2 - P.length) (l:=A) (by omega)
   obtain ⟨u,hu⟩:=zk (i:=mid - (s+r) / 2 - 1) (l:=B) (by omega)
   have hv2:=hDA _ v hv;have hu2:=hDB _ u hu;rw [show P.length+((s+r) / 2 - P.length)=(s+r) / 2 by omega] at hv2
   have j1:(((mid+(P.length+A.length) - 1:Nat):Int) - (((s+r) / 2:Nat):Int)).toNat=P.length+A.length+(mid - (s+r) / 2 - 1):=by omega
   cases hcc:bfC c u v with
   | false=>
    have hc':=bf_f hcc;have qe:=aI qR (aI @hsr' (aI @hm (aI @hN (aI @j1 (aI @hv2 (aI @hu2 (aI @hc' (aI @rtN @rtR))))))));repeat' first|refine gC ?_ ?_<;>intro hc<;>try contradiction|refine zn (hf u v) ?_|refine gG ?_|show AK _;intro J Z|refine gJ ?_|omega|exact aT
    refine ⟨((s+r) / 2+1,r),⟨by simp only;omega,by simp only;omega,k3,λa b h1 h2 h3=>?_,k5⟩,by simp only;omega,by simp,rfl⟩
    simp only at h1 h2;rw [show (s+r) / 2+1 - P.length - 1=(s+r) / 2 - P.length by omega,hv] at h1
    rw [show mid - ((s+r) / 2+1)=mid - (s+r) / 2 - 1 by omega,hu] at h2
    cases h1;cases h2;exact hcc
   | true=>
    have hc':=bf_t hcc;have qe:=aI qR (aI @hsr' (aI @hm (aI @hN (aI @j1 (aI @hv2 (aI @hu2 (aI @hc' (aI @rtN @rtR))))))));repeat' first|refine gC ?_ ?_<;>intro hc<;>try contradiction|refine zn (hf u v) ?_|refine gG ?_|show AK _;intro J Z|refine gJ ?_|omega|exact aT
    refine ⟨(s,(s+r) / 2),⟨k1,by simp only;omega,by simp only;omega,k4,λa b h1 h2 h3=>?_⟩,by simp only;omega,rfl,rfl⟩
    simp only at h1 h2;rw [hv] at h1;rw [hu] at h2;cases h1;cases h2;exact hcc
  ·have e:s=r:=by omega
   subst e;have hsr':((s:Int) < s)=False:=eq_false (by omega)
   have lA1:(A.take (s - P.length)).length=s - P.length:=by rw [xaj];omega
   have lB1:(B.take (mid - s)).length=mid - s:=by rw [xaj];omega
   have lA2:(A.drop (s - P.length)).length=P.length+A.length - s:=by rw [xay];omega
   have lB2:(B.drop (mid - s)).length=P.length+A.length+B.length+s - (mid+(P.length+A.length)):=by rw [xay];omega
   have hlo:=zzK hs sA sB (s:=s - P.length) (e:=mid - s) (by omega) k4
   have hhi:=zwf hs sA sB (s:=s - P.length) (e:=mid - s) (by omega) k5
   have hspl:=zbe (lt:=bfC c) _ _ _ _ hlo hhi;rw [xao,xao] at hspl;have sA1:srt (bfC c) (A.take (s - P.length)):=sA.sublist (List.take_sublist _ _);have sA2:srt (bfC c) (A.drop (s - P.length)):=sA.sublist (List.drop_sublist _ _);have sB1:srt (bfC c) (B.take (mid - s)):=sB.sublist (List.take_sublist _ _);have sB2:srt (bfC c) (B.drop (mid - s)):=sB.sublist (List.drop_sublist _ _);have hD2:D=(P++A.take (s - P.length))++(A.drop (s - P.length)++(B.take (mid - s)++(B.drop (mid - s)++S))):=by
    rw [hD,xau,<-xau (A.take _),xao,<-xau (B.take _),xao]
   have lE1:(P++(A.take (s - P.length)++(B.take (mid - s)++(A.drop (s - P.length)++(B.drop (mid - s)++S))))).length=N:=by simp only [xad,lA1,lA2,lB1,lB2];omega
   have lE2:(P++(mrg (bfC c) (A.take (s - P.length)) (B.take (mid - s))++(A.drop (s - P.length)++(B.drop (mid - s)++S)))).length=N:=by simp only [xad,zdc,lA1,lA2,lB1,lB2];omega
   have hE3:D'=(P++mrg (bfC c) (A.take (s - P.length)) (B.take (mid - s)))++(mrg (bfC c) (A.drop (s - P.length)) (B.drop (mid - s))++S):=by rw [hD',hspl];simp only [xau]
   have lM:(P++mrg (bfC c) (A.take (s - P.length)) (B.take (mid - s))).length=mid:=by simp only [xad,zdc,lA1,lB1];omega
   have eEnd:((mid+(P.length+A.length):Nat):Int) - (s:Nat)=((mid+(P.length+A.length) - s:Nat):Int):=by omega
   have qe:=aI qR (aI @hsr' @hN);repeat' first|refine gG ?_|show AK _;intro J Z|refine gJ ?_|omega|exact aT
   have qe:=aI qR @hsr';(refine gC ?_ ?_<;>intro hc<;>try contradiction)
   have qe:=aI qR (aI @hsr' (aI @hN @eEnd));repeat' first|refine gG ?_|show AK _;intro J Z|refine gJ ?_|omega|exact aT
   refine ziq ⟨[(0,.row 900 N),(1,.p (.i .i64 (P.length:Nat))),(2,.p (.i .i64 (P.length+A.length:Nat))),(3,.p (.i .i64 (P.length+A.length+B.length:Nat))),(4,.p (.fn (.func f) [] [])),(18,.p (.i .i64 (mid:Nat))),(20,.p (.i .i64 (s:Nat))),(24,.p (.i .i64 (mid+(P.length+A.length) - s:Nat))),(1000900,.row 900 N)],[(900,.row 120 7 ((P++(A.take (s - P.length)++(B.take (mid - s)++(A.drop (s - P.length)++(B.drop (mid - s)++S))))).map Mov.pv) false)],[],false⟩ ?_ ?_
   ·by_cases h1:s < P.length+A.length/\0 < mid - s
    ·have u1:((s:Int) < (P.length+A.length:Nat))=True:=eq_true (by omega)
     have u2:(((P.length+A.length:Nat):Int) < (mid+(P.length+A.length) - s:Nat))=True:=eq_true (by omega)
     have qe:=aI qR (aI @zkC (aI @u1 (aI @u2 (aI @hN @qN))));repeat' first|refine gC ?_ ?_<;>intro hc<;>try contradiction|refine zo [] (zA8 f (D':=(P++(A.take (s - P.length)++(B.take (mid - s)++(A.drop (s - P.length)++(B.drop (mid - s)++S)))))) (P++A.take (s - P.length)) (A.drop (s - P.length)) (B.take (mid - s)) (B.drop (mid - s)++S) hN hD2 (by simp only [xau]) (by omega) (by omega) (s:Nat) (P.length+A.length:Nat) (mid+(P.length+A.length) - s:Nat) (by simp only [xad,lA1];omega) (by simp only [xad,lA1,lA2];omega) (by simp only [xad,lA1,lA2,lB1];omega) hn) ?_|refine gG ?_|show AK _;intro J Z|refine gJ ?_|omega|exact aT
     skip
    ·have hDE:D=(P++(A.take (s - P.length)++(B.take (mid - s)++(A.drop (s - P.length)++(B.drop (mid - s)++S))))):=by
      rw [hD2]
      rcases (show s=P.length+A.length\/mid - s=0 by omega) with e|e
      ·rw [show A.drop (s - P.length)=[] from xbr (by omega)];simp
      ·rw [e];simp
     rw [<-hDE]
     by_cases h2:s < P.length+A.length
     ·have u1:((s:Int) < (P.length+A.length:Nat))=True:=eq_true (by omega)
      have u2:(((P.length+A.length:Nat):Int) < (mid+(P.length+A.length) - s:Nat))=False:=eq_false (by omega)
      have qe:=aI qR (aI @zkC (aI @u1 (aI @u2 @hN)));repeat' first|refine gC ?_ ?_<;>intro hc<;>try contradiction|refine gG ?_|show AK _;intro J Z|refine gJ ?_|omega|exact aT
      skip
     ·have u1:((s:Int) < (P.length+A.length:Nat))=False:=eq_false (by omega)
      have qe:=aI qR (aI @zkC (aI @u1 @hN));repeat' first|refine gC ?_ ?_<;>intro hc<;>try contradiction|refine gG ?_|show AK _;intro J Z|refine gJ ?_|omega|exact aT
      skip
   refine Stp.h ?_;have qe:=aI qR @hN;repeat' first|refine gG ?_|show AK _;intro J Z|refine gJ ?_|omega|exact aT
   refine ziq ⟨[(0,.row 900 N),(1,.p (.i .i64 (P.length:Nat))),(2,.p (.i .i64 (P.length+A.length:Nat))),(3,.p (.i .i64 (P.length+A.length+B.length:Nat))),(4,.p (.fn (.func f) [] [])),(18,.p (.i .i64 (mid:Nat))),(20,.p (.i .i64 (s:Nat))),(24,.p (.i .i64 (mid+(P.length+A.length) - s:Nat))),(1000900,.row 900 N)],[(900,.row 120 7 ((P++(mrg (bfC c) (A.take (s - P.length)) (B.take (mid - s))++(A.drop (s - P.length)++(B.drop (mid - s)++S)))).map Mov.pv) false)],[],false⟩ ?_ ?_
   ·by_cases h1:P.length < s/\s < mid
    ·have u1:(((P.length:Nat):Int) < (s:Nat))=True:=eq_true (by omega)
     have u2:(((s:Nat):Int) < (mid:Nat))=True:=eq_true (by omega)
     have qe:=aI qR (aI @zkC (aI @u1 (aI @u2 (aI @lE1 @qN))));repeat' first|refine gC ?_ ?_<;>intro hc<;>try contradiction|refine zo [] (ih (s - P.length+(mid - s)) (by omega) (D:=(P++(A.take (s - P.length)++(B.take (mid - s)++(A.drop (s - P.length)++(B.drop (mid - s)++S)))))) (D':=(P++(mrg (bfC c) (A.take (s - P.length)) (B.take (mid - s))++(A.drop (s - P.length)++(B.drop (mid - s)++S))))) P (A.take (s - P.length)) (B.take (mid - s)) (A.drop (s - P.length)++(B.drop (mid - s)++S)) lE1 rfl rfl sA1 sB1 (by omega) (by omega) (by omega) (P.length:Nat) (s:Nat) (mid:Nat) rfl (by omega) (by omega) hn) ?_|refine gG ?_|show AK _;intro J Z|refine gJ ?_|omega|exact aT
     simp only [zdc,lA1,lA2,lB1,lB2];omega
    ·have hDE:(P++(A.take (s - P.length)++(B.take (mid - s)++(A.drop (s - P.length)++(B.drop (mid - s)++S)))))=(P++(mrg (bfC c) (A.take (s - P.length)) (B.take (mid - s))++(A.drop (s - P.length)++(B.drop (mid - s)++S)))):=by
      rcases (show s - P.length=0\/mid - s=0 by omega) with e|e
      ·rw [e];simp [zaW]
      ·rw [e];simp [zbo]
     rw [<-hDE]
     by_cases h2:P.length < s
     ·have u1:(((P.length:Nat):Int) < (s:Nat))=True:=eq_true (by omega)
      have u2:(((s:Nat):Int) < (mid:Nat))=False:=eq_false (by omega)
      have qe:=aI qR (aI @zkC (aI @u1 (aI @u2 @lE1)));repeat' first|refine gC ?_ ?_<;>intro hc<;>try contradiction|refine gG ?_|show AK _;intro J Z|refine gJ ?_|omega|exact aT
      skip
     ·have u1:(((P.length:Nat):Int) < (s:Nat))=False:=eq_false (by omega)
      have qe:=aI qR (aI @zkC (aI @u1 @lE1));repeat' first|refine gC ?_ ?_<;>intro hc<;>try contradiction|refine gG ?_|show AK _;intro J Z|refine gJ ?_|omega|exact aT
      skip
   refine Stp.h ?_;have qe:=aI qR @hN;repeat' first|refine gG ?_|show AK _;intro J Z|refine gJ ?_|omega|exact aT
   by_cases h1:mid < mid+(P.length+A.length) - s/\mid+(P.length+A.length) - s < P.length+A.length+B.length
   ·have u1:(((mid:Nat):Int) < (mid+(P.length+A.length) - s:Nat))=True:=eq_true (by omega)
    have u2:(((mid+(P.length+A.length) - s:Nat):Int) < (P.length+A.length+B.length:Nat))=True:=eq_true (by omega)
    have qe:=aI qR (aI @u1 (aI @u2 (aI @lE2 (aI @qN (aI @rtN @rtR)))));repeat' first|refine gC ?_ ?_<;>intro hc<;>try contradiction|refine zo [] (ih (P.length+A.length - s+(P.length+A.length+B.length+s - (mid+(P.length+A.length)))) (by omega) (D:=(P++(mrg (bfC c) (A.take (s - P.length)) (B.take (mid - s))++(A.drop (s - P.length)++(B.drop (mid - s)++S))))) (D':=D') (P++mrg (bfC c) (A.take (s - P.length)) (B.take (mid - s))) (A.drop (s - P.length)) (B.drop (mid - s)) S lE2 (by simp only [xau]) hE3 sA2 sB2 (by omega) (by omega) (by omega) (mid:Nat) (mid+(P.length+A.length) - s:Nat) (P.length+A.length+B.length:Nat) (by rw [lM]) (by rw [lM,lA2];omega) (by rw [lM,lA2,lB2];omega) hn) ?_|refine gG ?_|show AK _;intro J Z|refine gJ ?_|omega|exact aT
    all_goals first|exact .inl (.mk0 (h2:=by simp only [qS,seval,keepG.eq_1,keepG.eq_2,gLV.eq_2]<;>simp [hN]))
   ·have hDE:(P++(mrg (bfC c) (A.take (s - P.length)) (B.take (mid - s))++(A.drop (s - P.length)++(B.drop (mid - s)++S))))=D':=by
     rw [hE3]
     rcases (show P.length+A.length - s=0\/P.length+A.length+B.length+s - (mid+(P.length+A.length))=0 by omega) with e|e
     ·rw [List.length_eq_zero_iff.1 (lA2.trans e),zaW];simp
     ·rw [List.length_eq_zero_iff.1 (lB2.trans e),zbo];simp
    rw [hDE];rw [hDE] at lE2
    by_cases h2:mid < mid+(P.length+A.length) - s
    ·have u1:(((mid:Nat):Int) < (mid+(P.length+A.length) - s:Nat))=True:=eq_true (by omega)
     have u2:(((mid+(P.length+A.length) - s:Nat):Int) < (P.length+A.length+B.length:Nat))=False:=eq_false (by omega)
     have qe:=aI qR (aI @u1 (aI @u2 (aI @lE2 (aI @rtN @rtR))));repeat' first|refine gC ?_ ?_<;>intro hc<;>try contradiction|refine gG ?_|show AK _;intro J Z|refine gJ ?_|omega|exact aT
     all_goals first|exact .inl (.mk0 (h2:=by simp only [qS,seval,keepG.eq_1,keepG.eq_2,gLV.eq_2]<;>simp [hN]))
    ·have u1:(((mid:Nat):Int) < (mid+(P.length+A.length) - s:Nat))=False:=eq_false (by omega)
     have qe:=aI qR (aI @u1 (aI @lE2 (aI @rtN @rtR)));repeat' first|refine gC ?_ ?_<;>intro hc<;>try contradiction|refine gG ?_|show AK _;intro J Z|refine gJ ?_|omega|exact aT
     all_goals first|exact .inl (.mk0 (h2:=by simp only [qS,seval,keepG.eq_1,keepG.eq_2,gLV.eq_2]<;>simp [hN]))
end
section
variable {f:Nat} {c:Mov->Mov->Int}
def za0 (hs:SW (bfC c)) (L:List Mov):zas c L=zcJ (bfC c) L:=zgH hs L
def zn1 (hf:∀ a b:Mov,Pure prog f [a.pv,b.pv] (.i .i64 (c a b))) {D D':List Mov} {N:Nat} (P L S:List Mov) (hN:D.length=N) (hD:D=P++(L++S)) (hD':D'=P++(zas c L++S)) (a b:Int) (ha:a=(P.length:Nat)) (hb:b=(P.length+L.length:Nat)) (hn:N<=1000000) :
  Acts prog 254 [.row 900 N,.p (.i .i64 a),.p (.i .i64 b),.p (.fn (.func f) [] [])] [(900,.row 120 7 (D.map Mov.pv) false)] (.p (.tup [])) [(900,.row 120 7 (D'.map Mov.pv) false)]:=by
 subst ha hb;have hlen:N=P.length+(L.length+S.length):=by rw [<-hN,hD];simp only [xad]
 have hlen':D'.length=N:=by rw [hD',hlen];simp only [xad,zaq]
 have hq:∀ {X:List Mov},X.length=L.length->(P++(X++S)).length=N:=fun {X} h=>by simp only [xad,h];omega
 refine zF (cF func254 f254.eq_1) (by simp) (by simp [scPs,scP,zp,hN]) (by simp [scObj]) ⟨rfl,trivial⟩ (by simp [scObj]) (by simp [zb1,zp,hN,hlen']) λX hX=>?_
 unfold zA ghO;have qe:=aI qR @gLV.eq_2;repeat' first|refine gC ?_ ?_<;>intro hc<;>try contradiction|refine gG ?_|show AK _;intro J Z|refine gJ ?_|omega|exact aT
 refine zh (κ:=Nat) (λi=>⟨[(0,.row 900 N),(1,.p (.i .i64 (P.length:Nat))),(2,.p (.i .i64 (P.length+L.length:Nat))),(3,.p (.fn (.func f) [] [])),(8,.p (.i .i64 (P.length+i:Nat))),(1000900,.row 900 N)],[(900,.row 120 7 ((P++(zpP c L i++S)).map Mov.pv) false)],[],false⟩) (λi=>1<=i/\(i<=L.length\/i=1)) (λi=>L.length - i) 1 ?_ ?_ ?_
 ·simp only [qS,seval,gLV.eq_2]<;>simp [zDH,hD,hlen]
 ·simp
 ·intro i hi;have hdl:=zjm (c:=c) hi.2;have hdN:=hq hdl
  by_cases hlt:i < L.length
  ·obtain ⟨x,hx⟩:=zk (i:=i) (l:=L) hlt;have hlt':(((P.length+i:Nat):Int) < (P.length+L.length:Nat))=True:=eq_true (by omega)
   have qe:=aI qR (aI @hdN @hlt');repeat' first|refine gC ?_ ?_<;>intro hc<;>try contradiction|refine gG ?_|show AK _;intro J Z|refine gJ ?_|omega|exact aT
   have hol:=ziU (c:=c) (L:=L) (k:=i) (by omega)
   refine zh (κ:=Nat) (λj=>⟨[(0,.row 900 N),(1,.p (.i .i64 (P.length:Nat))),(2,.p (.i .i64 (P.length+L.length:Nat))),(3,.p (.fn (.func f) [] [])),(8,.p (.i .i64 (P.length+i:Nat))),(9,.p (.i .i64 (P.length+j:Nat))),(1000900,.row 900 N)],[(900,.row 120 7 ((P++(dj (mgC c L i) x (L.drop (i+1)) j++S)).map Mov.pv) false)],[],false⟩) (λj=>j<=i/\zcj (bfC c) x (mgC c L i) j=zcj (bfC c) x (mgC c L i) i) (λj=>j) i ?_ ?_ ?_
   ·refine gJ ?_;simp [zwy hx,hdN];exact xcr (by rw [<-hdN];simp only [xad])
   ·simp
   ·intro j hj;have hjl:(dj (mgC c L i) x (L.drop (i+1)) j).length=L.length:=by rw [zxP (by omega),hol,xay];omega
    have hjN:=hq hjl;cases j with
    | zero=>
     have i0:(((P.length:Nat):Int) < ((P.length+0:Nat):Int))=False:=eq_false (by omega)
     have qe:=aI qR (aI @i0 (aI @hjN (aI @rtN @rtR)));repeat' first|refine gC ?_ ?_<;>intro hc<;>try contradiction|(show zj _ _ _ _ (⟨_,.callv,_,_,_⟩::_) _ _;refine zcf (q:=(.i .i64 0)) (by first|rfl|(simp (disch:=omega) only [qG,qe,seval]<;>rfl)) ?_;(try (refine zB ?_)))|refine gG ?_|show AK _;intro J Z|refine gJ ?_|omega|exact aT
     exact ⟨i+1,by omega,by omega,by simp only [LV.p.injEq,PV.i.injEq,true_and];omega,by rw [zsA (j:=0) hx hj.2],by rw [zjm (by omega)];omega⟩
    | succ j=>
     have i0:(((P.length:Nat):Int) < ((P.length+(j+1):Nat):Int))=True:=eq_true (by omega)
     have i1:(((P.length+(j+1):Nat):Int) - 1).toNat=P.length+j:=by omega
     obtain ⟨y,hy⟩:=zk (i:=j) (l:=mgC c L i) (by omega)
     obtain ⟨h1,h2⟩:=dj_at (x:=x) (rest:=L.drop (i+1)) hy;have g1:=zbW P (dj (mgC c L i) x (L.drop (i+1)) (j+1)) S (j:=j) (by omega)
     have g2:=zbW P (dj (mgC c L i) x (L.drop (i+1)) (j+1)) S (j:=j+1) (by omega)
     rw [h1] at g1;rw [h2] at g2
     by_cases hcc:c x y < 0
     ·have hc':=eq_true hcc;have h3:=zz0 hy hcc;have g3:((P++(dj (mgC c L i) x (L.drop (i+1)) (j+1)++S)).set (P.length+(j+1)) y).set (P.length+j) x=P++(dj (mgC c L i) x (L.drop (i+1)) j++S):=by
       rw [zdf _ _ _ _ (by omega),zdf _ _ _ _ (by rw [xci];omega),zAF hy]
      have qe:=aI qR (aI @i0 (aI @i1 (aI @g1 (aI @g2 (aI @hjN (aI @hc' (aI @rtN @rtR)))))));repeat' first|refine gC ?_ ?_<;>intro hc<;>try contradiction|refine zn (hf x y) ?_|refine gG ?_|show AK _;intro J Z|refine gJ ?_|omega|exact aT
      exact ⟨j,⟨by omega,by rw [<-h3];exact hj.2⟩,by omega,by simp only [LV.p.injEq,PV.i.injEq,true_and];omega,by rw [<-g3,xa2,xa2],by rw [zxP (by omega),hol,xay];omega⟩
     ·have hc':=eq_false hcc;have h3:=zr5 hy hcc;have qe:=aI qR (aI @i0 (aI @i1 (aI @g1 (aI @g2 (aI @hjN (aI @hc' (aI @rtN @rtR)))))));repeat' first|refine gC ?_ ?_<;>intro hc<;>try contradiction|refine zn (hf x y) ?_|refine gG ?_|show AK _;intro J Z|refine gJ ?_|omega|exact aT
      exact ⟨i+1,by omega,by omega,by simp only [LV.p.injEq,PV.i.injEq,true_and];omega,by rw [zsA hx (h3.symm.trans hj.2)],by rw [zjm (by omega)];omega⟩
  ·have hlt':(((P.length+i:Nat):Int) < (P.length+L.length:Nat))=False:=eq_false (by omega)
   have qe:=aI qR (aI @hdN (aI @hlt' (aI @rtN @rtR)));repeat' first|refine gC ?_ ?_<;>intro hc<;>try contradiction|refine gG ?_|show AK _;intro J Z|refine gJ ?_|omega|exact aT
   rw [zwB c L (by omega),<-hD']
   exact .inl (.mk0 (h2:=by simp only [qS,seval,keepG.eq_1,keepG.eq_2,gLV.eq_2]<;>simp [hN]))
def Wd (c:Mov->Mov->Int) (w:Nat) (R:List Mov):List Mov:=if h:R.length<=w\/w=0 then zas c R else zas c (R.take w)++Wd c w (R.drop w)
termination_by R.length
decreasing_by simp only [xay];omega
def zb7 {w:Nat} {R:List Mov} (h:R.length<=w):Wd c w R=zas c R:=by rw [Wd,dif_pos (.inl h)]
def zfa {w:Nat} {R:List Mov} (hw:0 < w) (h:w<=R.length):Wd c w R=zas c (R.take w)++Wd c w (R.drop w):=by
 by_cases e:R.length=w
 ·rw [zb7 (by omega),xal (by omega),xbr (by omega),zb7 (by simp)]
  show _=_++[];rw [xat]
 ·rw [Wd,dif_neg (by omega)]
def zia {w:Nat} (hw:0 < w) (R:List Mov):(Wd c w R).length=R.length:=by
 generalize hn:R.length=n
 induction n using Nat.strongRecOn generalizing R with
 | _ n ih=>
  by_cases h:R.length<=w
  ·rw [zb7 h,zaq,hn]
  ·rw [zfa hw (by omega),xad,zaq,ih (R.drop w).length (by rw [xay];omega) _ rfl,xaj,xay];omega
def zmB (hs:SW (bfC c)) (R:List Mov) (w:Nat):mrg (bfC c) (zas c (R.take w)) (zas c (R.drop w))=zas c R:=by
 rw [za0 hs,za0 hs,za0 hs,<-zgx hs,xao]
end
end Go.Proofs.YtocamnijnhnlfaaGreat
