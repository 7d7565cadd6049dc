/- Contracts of functions, for the claim. No conditions. -/
import Derived.Test.YtijgimeokgbifaaGreatK3
import Derived.Test.YtijgimeokgbifaaGreatK4
set_option linter.all false
set_option maxHeartbeats 8000000
set_option maxRecDepth 100000
namespace Go.Proofs.YtijgimeokgbifaaGreat
open Go.RowKit Tryz
def zcX {α:Type} (p:α->Bool):List α->Int
 | []=>-1
 | x::r=>if p x=true then 0 else if zcX p r < 0 then -1 else zcX p r+1
theorem zdt {α:Type} {p:α->Bool}:∀ {l:List α} {i:Nat} {x:α},(∀ y ∈ l.take i,p y=false)->l[i]?=some x->p x=true->zcX p l=i
 | [],i,_,_,h,_=>by simp at h
 | x::r,0,y,_,h,hp=>by simp at h;subst h;simp [zcX,hp]
 | x::r,i+1,y,h,hx,hp=>by
  have h0:p x=false:=h x (by simp)
  have:=zdt (l:=r) (i:=i) (λy hy=>h y (by simp [hy])) (by simpa using hx) hp
  simp only [zcX,h0,this,xaX,if_false];rw [if_neg (by omega)];simp
theorem zdu {α:Type} {p:α->Bool}:∀ {l:List α},(∀ x ∈ l,p x=false)->zcX p l=-1
 | [],_=>rfl
 | x::r,h=>by
  have h0:p x=false:=h x (by simp)
  have:=zdu (l:=r) λy hy=>h y (by simp [hy])
  simp only [zcX,h0,this];rfl
theorem zg7 {α:Type} (f:α->ByteArray) (n:ByteArray):∀ l:List α,zcX (λx=>decide (f x=n)) l=atL n (l.map f)
 | []=>rfl
 | x::r=>by simp only [zcX,xak,atL,zg7 f n r,decide_eq_true_eq]
def zam {α:Type} {l:List α} {i:Nat} {x:α} (hx:l[i]?=some x):l.take (i+1)=l.take i++[x]:=by rw [xaK,hx];rfl
def zxk (f:Fn) (k o:Nat):mfK f [] [.lp k o] (some []) (zej [.lp k o])=some (True,.ofV (.fn f [] [.lp k o])):=rfl
def zgq {α:Type} {p:α->Bool} {l:List α} {i:Nat} {x:α} (h:∀ y ∈ l.take i,p y=false) (hx:l[i]?=some x) (hp:p x=false):∀ y ∈ l.take (i+1),p y=false:=λy hy=>by
 rw [zam hx] at hy
 rcases xaD.1 hy with h1|h1
 ·exact h y h1
 ·simp at h1;subst h1;exact hp
def zqP (L:List ByteArray) (x:ByteArray):Pure prog 225 [.sl 1 (L.map .s),.s x] (.i .i64 (atL x L)):=by
 refine pz func225 f225.eq_1 λhw X hX=>?_
 simp only [wfs,PV.wf,xaf,maxLen] at hw
 repeat' first|refine gC ?_ ?_<;>intro hc<;>try contradiction|refine gG ?_|show AK _;intro J Z|refine gJ ?_|omega|exact aT
 refine zi (κ:=Nat) (λi=>⟨[(0,.p (.sl 1 (L.map .s))),(1,.p (.s x)),(7,.p (.i .i64 L.length)),(8,.p (.i .i64 i))],[],[],false⟩) (λi=>i<=L.length/\∀ y ∈ L.take i,y≠x) (λi=>L.length - i) 0 ?_ ?_ ?_
 ·exact sR
 ·simp
 ·intro i hi
  repeat first|refine gG ?_|show AK _;intro J Z|refine gJ ?_|omega|exact aT
  (refine gC ?_ ?_<;>intro hc<;>try contradiction)
  ·obtain ⟨y,hy⟩:=zm (i:=i) (l:=L) (by omega)
   have qe:=@hy;repeat' first|refine gC ?_ ?_<;>intro hc<;>try contradiction|refine gG ?_|show AK _;intro J Z|refine gJ ?_|omega|exact aT
   ·rw [zjU hi.2 (by rw [hy,hc])];exact .refl _
   ·refine ⟨i+1,⟨by omega,λz hz=>?_⟩,by omega,by simp⟩
    rw [zam hy] at hz
    rcases xaD.1 hz with h|h
    ·exact hi.2 z h
    ·simp at h;subst h;exact λe=>hc e.symm
  ·repeat' first|refine gC ?_ ?_<;>intro hc<;>try contradiction|refine gG ?_|show AK _;intro J Z|refine gJ ?_|omega|exact aT
   have e:i=L.length:=by omega
   subst e;rw [zjV (λy hy=>hi.2 y (by rw [xag (by simp)];exact hy))];exact .refl _
def zgF (L:List ByteArray) (x:ByteArray):Pure prog 159 [.sl 1 (L.map .s),.s x] (.b (decide (0<=atL x L))):=by
 refine pz func159 f159.eq_1 λhw X hX=>?_
 have jA:=zqP L x;exact gD2
def zkh {f:Nat} {caps:List PV} {L:List SlR} {p:SlR->Bool} (hf:∀ w ∈ L,Pure prog f (w.pv::caps) (.b (p w))):Pure prog 135 [.sl 16 (L.map SlR.pv),.fn (.func f) [] caps] (.i .i64 (zcX p L)):=by
 refine pz func135 f135.eq_1 λhw X hX=>?_
 simp only [wfs,PV.wf,xaf,maxLen] at hw
 repeat' first|refine gC ?_ ?_<;>intro hc<;>try contradiction|refine gG ?_|show AK _;intro J Z|refine gJ ?_|omega|exact aT
 refine zi (κ:=Nat) (λi=>⟨[(0,.p (.sl 16 (L.map SlR.pv))),(1,.p (.fn (.func f) [] caps)),(7,.p (.i .i64 L.length)),(8,.p (.i .i64 i))],[],[],false⟩) (λi=>i<=L.length/\∀ y ∈ L.take i,p y=false) (λi=>L.length - i) 0 ?_ ?_ ?_
 ·exact sR
 ·simp
 ·intro i hi
  repeat first|refine gG ?_|show AK _;intro J Z|refine gJ ?_|omega|exact aT
  (refine gC ?_ ?_<;>intro hc<;>try contradiction)
  ·obtain ⟨y,hy⟩:=zm (i:=i) (l:=L) (by omega)
   have qe:=@hy;repeat' first|refine gC ?_ ?_<;>intro hc<;>try contradiction|refine zk (hf y (xad hy)) ?_|refine gG ?_|show AK _;intro J Z|refine gJ ?_|omega|exact aT
   ·rw [zdt hi.2 hy hc];exact .refl _
   ·exact ⟨i+1,⟨by omega,zgq hi.2 hy (by simpa using hc)⟩,by omega,by simp⟩
  ·repeat' first|refine gC ?_ ?_<;>intro hc<;>try contradiction|refine gG ?_|show AK _;intro J Z|refine gJ ?_|omega|exact aT
   have e:i=L.length:=by omega
   subst e;rw [zdu (λy hy=>hi.2 y (by rw [xag (by simp)];exact hy))];exact .refl _
def zqR {f:Nat} {caps:List PV} {L:List Lea} {p:Lea->Bool} (hf:∀ w ∈ L,Pure prog f (w.pv::caps) (.b (p w))):Pure prog 214 [.sl 3 (L.map Lea.pv),.fn (.func f) [] caps] (.i .i64 (zcX p L)):=by
 refine pz func214 f214.eq_1 λhw X hX=>?_
 simp only [wfs,PV.wf,xaf,maxLen] at hw
 repeat' first|refine gC ?_ ?_<;>intro hc<;>try contradiction|refine gG ?_|show AK _;intro J Z|refine gJ ?_|omega|exact aT
 refine zi (κ:=Nat) (λi=>⟨[(0,.p (.sl 3 (L.map Lea.pv))),(1,.p (.fn (.func f) [] caps)),(7,.p (.i .i64 L.length)),(8,.p (.i .i64 i))],[],[],false⟩) (λi=>i<=L.length/\∀ y ∈ L.take i,p y=false) (λi=>L.length - i) 0 ?_ ?_ ?_
 ·exact sR
 ·simp
 ·intro i hi
  repeat first|refine gG ?_|show AK _;intro J Z|refine gJ ?_|omega|exact aT
  (refine gC ?_ ?_<;>intro hc<;>try contradiction)
  ·obtain ⟨y,hy⟩:=zm (i:=i) (l:=L) (by omega)
   have qe:=@hy;repeat' first|refine gC ?_ ?_<;>intro hc<;>try contradiction|refine zk (hf y (xad hy)) ?_|refine gG ?_|show AK _;intro J Z|refine gJ ?_|omega|exact aT
   ·rw [zdt hi.2 hy hc];exact .refl _
   ·exact ⟨i+1,⟨by omega,zgq hi.2 hy (by simpa using hc)⟩,by omega,by simp⟩
  ·repeat' first|refine gC ?_ ?_<;>intro hc<;>try contradiction|refine gG ?_|show AK _;intro J Z|refine gJ ?_|omega|exact aT
   have e:i=L.length:=by omega
   subst e;rw [zdu (λy hy=>hi.2 y (by rw [xag (by simp)];exact hy))];exact .refl _
def zqI {f:Nat} {caps:List PV} {L:List Wsh} {p:Wsh->Bool} (hf:∀ w ∈ L,Pure prog f (w.pv::caps) (.b (p w))):Pure prog 239 [.sl 14 (L.map Wsh.pv),.fn (.func f) [] caps] (.i .i64 (zcX p L)):=by
 refine pz func239 f239.eq_1 λhw X hX=>?_
 simp only [wfs,PV.wf,xaf,maxLen] at hw
 repeat' first|refine gC ?_ ?_<;>intro hc<;>try contradiction|refine gG ?_|show AK _;intro J Z|refine gJ ?_|omega|exact aT
 refine zi (κ:=Nat) (λi=>⟨[(0,.p (.sl 14 (L.map Wsh.pv))),(1,.p (.fn (.func f) [] caps)),(7,.p (.i .i64 L.length)),(8,.p (.i .i64 i))],[],[],false⟩) (λi=>i<=L.length/\∀ y ∈ L.take i,p y=false) (λi=>L.length - i) 0 ?_ ?_ ?_
 ·exact sR
 ·simp
 ·intro i hi
  repeat first|refine gG ?_|show AK _;intro J Z|refine gJ ?_|omega|exact aT
  (refine gC ?_ ?_<;>intro hc<;>try contradiction)
  ·obtain ⟨y,hy⟩:=zm (i:=i) (l:=L) (by omega)
   have qe:=@hy;repeat' first|refine gC ?_ ?_<;>intro hc<;>try contradiction|refine zk (hf y (xad hy)) ?_|refine gG ?_|show AK _;intro J Z|refine gJ ?_|omega|exact aT
   ·rw [zdt hi.2 hy hc];exact .refl _
   ·exact ⟨i+1,⟨by omega,zgq hi.2 hy (by simpa using hc)⟩,by omega,by simp⟩
  ·repeat' first|refine gC ?_ ?_<;>intro hc<;>try contradiction|refine gG ?_|show AK _;intro J Z|refine gJ ?_|omega|exact aT
   have e:i=L.length:=by omega
   subst e;rw [zdu (λy hy=>hi.2 y (by rw [xag (by simp)];exact hy))];exact .refl _
def zqX (s:SlR) (n:ByteArray):Pure prog 136 [s.pv,.ip (.s n) 0] (.b (decide (s.req.name=n))):=by
 refine pz func136 f136.eq_1 λhw X hX=>?_
 exact gD0
def zqS (s:Wsh) (n:ByteArray):Pure prog 186 [s.pv,.ip (.s n) 0] (.b (decide (s.req.name=n))):=by
 refine pz func186 f186.eq_1 λhw X hX=>?_
 exact gD0
def zeI (l:List Slt):l.map Slt.pv=(l.map Slt.raw).map SlR.pv:=by rw [xbn];rfl
def zes (L:List SlR) (W:List Wsh) (n:ByteArray):Pure prog 81 [.agg [.sl 16 (L.map SlR.pv),.sl 14 (W.map Wsh.pv)],.s n] (.i .i64 (atL n (L.map (·.req.name)))):=by
 refine pz func81 f81.eq_1 λhw X hX=>?_
 repeat' first|refine gC ?_ ?_<;>intro hc<;>try contradiction|refine zA (zkh (L:=L) (p:=λw=>decide (w.req.name=n)) (λw _=>zqX w n)) ?_|refine gG ?_|show AK _;intro J Z|refine gJ ?_|omega|exact aT
 rw [zg7];exact .refl _
def zq6 (L:List SlR) (W:List Wsh) (n:ByteArray):Pure prog 80 [.agg [.sl 16 (L.map SlR.pv),.sl 14 (W.map Wsh.pv)],.s n] (.i .i64 (if atL n (L.map (·.req.name)) < 0 then 10 else 0)):=by
 refine pz func80 f80.eq_1 λhw X hX=>?_
 have jA:=zes L W n;have jB:=λu1 u2=>zU u1 u2;exact gD2
def zqT {f:Nat} {caps:List PV} {L:List Wsh} {p:Wsh->Bool} (hf:∀ w ∈ L,Pure prog f (w.pv::caps) (.b (p w))):Pure prog 185 [.sl 14 (L.map Wsh.pv),.fn (.func f) [] caps] (.b (decide (0<=zcX p L))):=by
 refine pz func185 f185.eq_1 λhw X hX=>?_
 have jA:=zqI (L:=L) (p:=p) hf;exact gD2
def zhw (L:List ByteArray) (W:List ByteArray) (n:ByteArray):Bool:=decide (0<=atL n L) || decide (0<=atL n W)
def zq1 (L:List SlR) (W:List Wsh) (n:ByteArray):Pure prog 115 [.agg [.sl 16 (L.map SlR.pv),.sl 14 (W.map Wsh.pv)],.s n] (.b (zhw (L.map (·.req.name)) (W.map (·.req.name)) n)):=by
 refine pz func115 f115.eq_1 λhw X hX=>?_
 have qe:=@zxk;repeat' first|refine gC ?_ ?_<;>intro hc<;>try contradiction|refine zA (zes L W n) ?_|refine zp (λ_=>zqT (L:=W) (p:=λw=>decide (w.req.name=n)) (λw _=>zqS w n)) ?_|refine gG ?_|show AK _;intro J Z|refine gJ ?_|omega|exact aT
 rw [zg7];exact .refl _
def zgJ (w:Wsh):Pure prog 93 [w.pv] (.i .i64 (zkY w)):=by
 refine pz func93 f93.eq_1 λhw X hX=>?_
 have qe:=@qR;have jA:=zgG w.req;have jB:=λu1 u2 u3=>zki u1 u2 u3;have jC:=λu1 u2=>zw [u1,u2];exact gD4
section
variable {f:Nat} {c:Mov->Mov->Int}
def zv2 (f:Nat) {D D':List Mov} {N:Nat} (P X Y S:List Mov) (hN:D.length=N) (hD:D=P++(X++(Y++S))) (hD':D'=P++(Y++(X++S))) (hX:0 < X.length) (hY:0 < Y.length) (a m b:Int) (ha:a=(P.length:Nat)) (hm:m=(P.length+X.length:Nat)) (hb:b=(P.length+X.length+Y.length:Nat)) (hn:N<=1000000) :
  Acts prog 285 [.row 900 N,.p (.i .i64 a),.p (.i .i64 m),.p (.i .i64 b),.p (.fn (.func f) [] [])] [(900,.row 140 7 (D.map Mov.pv) false)] (.p (.tup [])) [(900,.row 140 7 (D'.map Mov.pv) false)]:=by
 subst ha hm hb;have hlen:N=P.length+(X.length+(Y.length+S.length)):=by rw [<-hN,hD];simp
 have hlen':D'.length=N:=by rw [hD',hlen];simp;omega
 refine zR (cF func285 f285.eq_1) (by simp) (by simp [scPs,scP,zj,hN]) (by simp [scObj]) ⟨rfl,trivial⟩ (by simp [scObj]) (by simp [zc1,zj,hN,hlen']) λX1 hX1=>?_
 unfold zE ghO;have qe:=aI qR @gLV.eq_2;repeat' first|refine gC ?_ ?_<;>intro hc<;>try contradiction|refine gG ?_|show AK _;intro J Z|refine gJ ?_|omega|exact aT
 refine zi (κ:=List Mov × List Mov × List Mov × List Mov) (λk=>⟨[(0,.row 900 N),(2,.p (.i .i64 (P.length+X.length:Nat))),(4,.p (.fn (.func f) [] [])),(10,.p (.i .i64 (k.2.1.length:Nat))),(11,.p (.i .i64 (k.2.2.1.length:Nat))),(1000900,.row 900 N)],[(900,.row 140 7 ((k.1++(k.2.1++(k.2.2.1++k.2.2.2))).map Mov.pv) false)],[],false⟩)
  (λk=>k.1.length+k.2.1.length=P.length+X.length/\k.1++(k.2.2.1++(k.2.1++k.2.2.2))=D'/\0 < k.2.1.length/\0 < k.2.2.1.length) (λk=>k.2.1.length+k.2.2.1.length) (P,X,Y,S) ?_ ?_ ?_
 ·simp only [qS,seval,gLV.eq_2]<;>simp [<-hD,hN]<;>omega
 ·exact ⟨rfl,hD'.symm,hX,hY⟩
 ·intro k hk;obtain ⟨P',X',Y',S'⟩:=k;simp only at hk;obtain ⟨k1,k2,k3,k4⟩:=hk;have hE:(P'++(X'++(Y'++S'))).length=N:=by
   have:=congrArg List.length k2;rw [hlen'] at this;simp only [xae] at this ⊢;omega
  have hE2:P'.length+(X'.length+(Y'.length+S'.length))=N:=by
   simpa only [xae] using hE
  by_cases h1:X'.length=Y'.length
  ·have h1':((X'.length:Int)=Y'.length)=True:=eq_true (by omega)
   have h2':((Y'.length:Int)=X'.length)=True:=eq_true (by omega)
   have qe:=aI qR (aI @hE (aI @h1' (aI @h2' (aI @qN (aI @rtN @rtR)))));repeat' first|refine gC ?_ ?_<;>intro hc<;>try contradiction|refine zl [] (zjX f (D':=D') P' X' [] Y' S' hE (by simp) (by rw [<-k2];simp) h1 (((P.length+X.length:Nat):Int) - (X'.length:Nat)) ((P.length+X.length:Nat):Int) (X'.length:Nat) (by omega) (by simp;omega) rfl hn) ?_|refine gG ?_|show AK _;intro J Z|refine gJ ?_|omega|exact aT
   all_goals first|exact .inl (.mk0 (h2:=by simp only [qS,seval,keepG.eq_1,keepG.eq_2,gLV.eq_2]<;>simp [hN]))|skip
  ·have h1':((X'.length:Int)=Y'.length)=False:=eq_false (by omega)
   by_cases h2:Y'.length < X'.length
   ·have h2':((Y'.length:Int) < X'.length)=True:=eq_true (by omega)
    have hl:(X'.take Y'.length).length=Y'.length:=by simp;omega
    have hl2:(X'.drop Y'.length).length=X'.length - Y'.length:=by simp
    have qe:=aI qR (aI @hE (aI @h1' (aI @h2' (aI @qN (aI @rtN @rtR)))));repeat' first|refine gC ?_ ?_<;>intro hc<;>try contradiction|refine zl [] (zjX f (D':=P'++(Y'++(X'.drop Y'.length++(X'.take Y'.length++S')))) P' (X'.take Y'.length) (X'.drop Y'.length) Y' S' hE (by rw [<-xau (X'.take _),xaw]) rfl hl (((P.length+X.length:Nat):Int) - (X'.length:Nat)) ((P.length+X.length:Nat):Int) (Y'.length:Nat) (by omega) (by simp only [hl,hl2]<;>omega) (by simp only [hl]) hn) ?_|refine gG ?_|show AK _;intro J Z|refine gJ ?_|omega|exact aT
    refine ⟨(P'++Y',X'.drop Y'.length,X'.take Y'.length,S'),⟨?_,?_,?_,?_⟩,?_,?_⟩
    ·simp only [xae,hl2];omega
    ·show (P'++Y')++(X'.take Y'.length++(X'.drop Y'.length++S'))=D';rw [<-k2,<-xau (X'.take _),xaw,xau]
    ·simp only [hl2];omega
    ·simp only [hl];omega
    ·simp only [hl,hl2];omega
    ·refine ⟨⟨?_,?_⟩,?_,?_⟩
     ·simp only [LV.p.injEq,PV.i.injEq,true_and,hl,hl2]<;>omega
     ·simp only [LV.p.injEq,PV.i.injEq,true_and,hl,hl2]<;>omega
     ·simp only [xau]
     ·simp only [xae,hl,hl2];omega
   ·have h2':((Y'.length:Int) < X'.length)=False:=eq_false (by omega)
    have hl:(Y'.drop (Y'.length - X'.length)).length=X'.length:=by simp;omega
    have hl2:(Y'.take (Y'.length - X'.length)).length=Y'.length - X'.length:=by simp
    have qe:=aI qR (aI @hE (aI @h1' (aI @h2' (aI @qN (aI @rtN @rtR)))));repeat' first|refine gC ?_ ?_<;>intro hc<;>try contradiction|refine zl [] (zjX f (D':=P'++(Y'.drop (Y'.length - X'.length)++(Y'.take (Y'.length - X'.length)++(X'++S')))) P' X' (Y'.take (Y'.length - X'.length)) (Y'.drop (Y'.length - X'.length)) S' hE (by rw [<-xau (Y'.take _),xaw]) rfl hl.symm (((P.length+X.length:Nat):Int) - (X'.length:Nat)) (((P.length+X.length:Nat):Int)+(Y'.length:Nat) - (X'.length:Nat)) (X'.length:Nat) (by omega) (by simp only [hl2]<;>omega) rfl hn) ?_|refine gG ?_|show AK _;intro J Z|refine gJ ?_|omega|exact aT
    refine ⟨(P',Y'.drop (Y'.length - X'.length),Y'.take (Y'.length - X'.length),X'++S'),⟨?_,?_,?_,?_⟩,?_,?_⟩
    ·simp only [hl];omega
    ·show P'++(Y'.take (Y'.length - X'.length)++(Y'.drop (Y'.length - X'.length)++(X'++S')))=D';rw [<-k2,<-xau (Y'.take _),xaw]
    ·simp only [hl];omega
    ·simp only [hl2];omega
    ·simp only [hl,hl2];omega
    ·refine ⟨⟨?_,?_⟩,?_,?_⟩
     ·simp only [LV.p.injEq,PV.i.injEq,true_and,hl,hl2]<;>omega
     ·simp only [LV.p.injEq,PV.i.injEq,true_and,hl,hl2]<;>omega
     ·simp only [xau]
     ·simp only [xae,hl,hl2];omega
end
section
variable {α:Type}
def zbx (bef:α->α->Bool) (x:α) (out:List α):Nat->Nat
 | 0=>0
 | n+1=>match out[n]? with
  | some y=>if bef x y then zbx bef x out n else n+1
  | none=>n+1
def zg6 (bef:α->α->Bool) (out:List α) (x:α):List α:=out.take (zbx bef x out out.length)++x::out.drop (zbx bef x out out.length)
def zl2 (bef:α->α->Bool) (out:List α) (x:α):(zg6 bef out x).Perm (x::out):=by
 unfold zg6;refine List.perm_middle.trans ?_;rw [xaw]
theorem zdc (bef:α->α->Bool):∀ (l out:List α),(l.foldl (zg6 bef) out).Perm (out++l)
 | [],out=>by simp
 | x::l,out=>by
  refine (zdc bef l (zg6 bef out x)).trans ?_;refine ((zl2 bef out x).append_right l).trans ?_;simpa using (List.perm_middle (a:=x) (l₁:=out) (l₂:=l)).symm
def zjT (c:α->α->Int) (x y:α):Bool:=decide (c x y < 0)
def zfB (c:α->α->Int) (L:List α) (k:Nat):List α:=(L.take k).foldl (zg6 (zjT c)) []
def zbJ (c:α->α->Int) (L:List α):List α:=L.foldl (zg6 (zjT c)) []
def zdp {c:α->α->Int} {L:List α} {k:Nat} (h:k<=L.length):(zfB c L k).length=k:=by
 have:=(zdc (zjT c) (L.take k) []).length_eq;rw [zfB,this];simp;omega
def zoa {c:α->α->Int} {L:List α} {k:Nat} {x:α} (h:L[k]?=some x):zfB c L (k+1)=zg6 (zjT c) (zfB c L k) x:=by
 rw [zfB,xaK,h,xa2];rfl
def zH (c:α->α->Int) (L:List α):(zbJ c L).length=L.length:=by
 have:=(zdc (zjT c) L []).length_eq;rw [zbJ,this];simp
def zd0 (c:α->α->Int) (L:List α) (k:Nat):List α:=zfB c L k++L.drop k
def zbT {c:α->α->Int} {L:List α} {k:Nat} (h:k<=L.length\/k=1):(zd0 c L k).length=L.length:=by
 rcases L with _|⟨x,r⟩
 ·rcases h with h|h<;>(try simp at h)<;>subst h<;>simp [zd0,zfB]
 ·rw [zd0,xae,zdp (by rcases h with h|h<;>simp at *<;>omega),xaF]
  rcases h with h|h<;>simp at *<;>omega
def zoU (c:α->α->Int) (L:List α):zd0 c L 1=L:=by
 rcases L with _|⟨x,r⟩<;>simp [zd0,zfB,zg6,zbx]
def zih (c:α->α->Int) (L:List α) {k:Nat} (h:L.length<=k):zd0 c L k=zbJ c L:=by
 rw [zd0,zfB,xag h,xbj h,xat];rfl
def djP (out:List α) (x:α) (rest:List α) (j:Nat):List α:=out.take j++x::(out.drop j++rest)
def zhf {out:List α} {x:α} {rest:List α} {j:Nat} (h:j<=out.length):(djP out x rest j).length=out.length+1+rest.length:=by
 simp [djP];omega
def zie {c:α->α->Int} {L:List α} {i:Nat} {x:α} (h:L[i]?=some x):djP (zfB c L i) x (L.drop (i+1)) i=zd0 c L i:=by
 have hi:=(xaa.1 h).1;have hl:=zdp (c:=c) (L:=L) (k:=i) (by omega)
 rw [djP,zd0,xag (by omega),xbj (by omega),xaP,xaU hi,(xaa.1 h).2]
def zeA {c:α->α->Int} {L:List α} {i j:Nat} {x:α} (h:L[i]?=some x) (hj:j=zbx (zjT c) x (zfB c L i) i):djP (zfB c L i) x (L.drop (i+1)) j=zd0 c L (i+1):=by
 have hi:=(xaa.1 h).1;rw [zd0,zoa h,zg6,zdp (by omega),<-hj,djP];simp
def zs7 {out:List α} {x y:α} {rest:List α} {j:Nat} (h:out[j]?=some y):(djP out x rest (j+1))[j]?=some y/\(djP out x rest (j+1))[j+1]?=some x:=by
 have hj:=(xaa.1 h).1;have hl:(out.take j).length=j:=by simp;omega
 rw [djP,xaK,h,xau];refine ⟨?_,?_⟩
 ·rw [xax (by omega),hl];simp
 ·rw [xax (by omega),hl];simp
def zkS {out:List α} {x y:α} {rest:List α} {j:Nat} (h:out[j]?=some y):((djP out x rest (j+1)).set (j+1) y).set j x=djP out x rest j:=by
 have hj:=(xaa.1 h).1;have hl:(out.take j).length=j:=by simp;omega
 have hd:out.drop j=y::out.drop (j+1):=by rw [xaU hj,(xaa.1 h).2]
 rw [djP,djP,xaK,h,hd,xau,xbJ _ _ (by omega),hl,xbJ _ _ (by omega),hl]
 simp
def zf9 {c:α->α->Int} {x:α} {out:List α} {q:Nat} {y:α} (hy:out[q]?=some y) (hb:¬c x y < 0):zbx (zjT c) x out (q+1)=q+1:=by
 simp only [zbx,hy];rw [if_neg (by simp [zjT];omega)]
def zkL {c:α->α->Int} {x:α} {out:List α} {q:Nat} {y:α} (hy:out[q]?=some y) (hb:c x y < 0):zbx (zjT c) x out (q+1)=zbx (zjT c) x out q:=by
 simp only [zbx,hy];rw [if_pos (by simp [zjT];omega)]
end
def zsw {f:Nat} {c:Lea->Lea->Int} (hf:∀ a b:Lea,Pure prog f [a.pv,b.pv] (.i .i64 (c a b))) (L:List Lea) (b:Int) (hb:b=L.length) (hn:L.length<=1000000):Acts prog 259 [.row 900 L.length,.p (.i .i64 0),.p (.i .i64 b),.p (.fn (.func f) [] [])] [(900,.row 91 3 (L.map Lea.pv) false)] (.p (.tup [])) [(900,.row 91 3 ((zbJ c L).map Lea.pv) false)]:=by
 subst hb;refine zR (cF func259 f259.eq_1) (by simp) (by simp [scPs,scP,zj]) (by simp [scObj]) ⟨rfl,trivial⟩ (by simp [scObj]) (by simp [zc1,zj,zH]) λX hX=>?_
 unfold zE ghO;have qe:=aI qR @gLV.eq_2;repeat' first|refine gC ?_ ?_<;>intro hc<;>try contradiction|refine gG ?_|show AK _;intro J Z|refine gJ ?_|omega|exact aT
 refine zi (κ:=Nat) (λi=>⟨[(0,.row 900 L.length),(1,.p (.i .i64 0)),(2,.p (.i .i64 L.length)),(3,.p (.fn (.func f) [] [])),(8,.p (.i .i64 i)),(1000900,.row 900 L.length)],[(900,.row 91 3 ((zd0 c L i).map Lea.pv) false)],[],false⟩) (λi=>1<=i/\(i<=L.length\/i=1)) (λi=>L.length - i) 1 ?_ ?_ ?_
 ·simp only [qS,seval,gLV.eq_2]<;>simp [zoU]
 ·simp
 ·intro i hi;have hdl:=zbT (c:=c) hi.2
  by_cases hlt:i < L.length
  ·obtain ⟨x,hx⟩:=zm (i:=i) (l:=L) hlt;have qe:=aI qR @hdl;repeat' first|refine gC ?_ ?_<;>intro hc<;>try contradiction|refine gG ?_|show AK _;intro J Z|refine gJ ?_|omega|exact aT
   have hol:=zdp (c:=c) (L:=L) (k:=i) (by omega)
   refine zi (κ:=Nat) (λj=>⟨[(0,.row 900 L.length),(1,.p (.i .i64 0)),(2,.p (.i .i64 L.length)),(3,.p (.fn (.func f) [] [])),(8,.p (.i .i64 i)),(9,.p (.i .i64 j)),(1000900,.row 900 L.length)],[(900,.row 91 3 ((djP (zfB c L i) x (L.drop (i+1)) j).map Lea.pv) false)],[],false⟩) (λj=>j<=i/\zbx (zjT c) x (zfB c L i) j=zbx (zjT c) x (zfB c L i) i) (λj=>j) i ?_ ?_ ?_
   ·refine gJ ?_;simp [zie hx,hdl]
   ·simp
   ·intro j hj;have hjl:(djP (zfB c L i) x (L.drop (i+1)) j).length=L.length:=by rw [zhf (by omega),hol,xaF];omega
    cases j with
    | zero=>
     have i0:(0 < ((0:Nat):Int))=False:=eq_false (by omega)
     have qe:=aI qR (aI @i0 (aI @hjl (aI @rtN @rtR)));repeat' first|refine gC ?_ ?_<;>intro hc<;>try contradiction|(show zh _ _ _ _ (⟨_,.callv,_,_,_⟩::_) _ _;refine zbg (q:=(.i .i64 0)) (by first|rfl|(simp (disch:=omega) only [qG,qe,seval]<;>rfl)) ?_;(try (refine zF ?_)))|refine gG ?_|show AK _;intro J Z|refine gJ ?_|omega|exact aT
     exact ⟨i+1,by omega,by omega,by simp,by rw [zeA (j:=0) hx hj.2],by rw [zbT (by omega)];exact xaj _⟩
    | succ j=>
     have i0:(0 < ((j+1:Nat):Int))=True:=eq_true (by omega)
     have i1:((j+1:Nat):Int) - 1=(j:Int):=by omega
     obtain ⟨y,hy⟩:=zm (i:=j) (l:=zfB c L i) (by omega)
     obtain ⟨h1,h2⟩:=zs7 (x:=x) (rest:=L.drop (i+1)) hy
     by_cases hc:c x y < 0
     ·have hc':=eq_true hc;have h3:=zkL hy hc;have qe:=aI qR (aI @i0 (aI @i1 (aI @h1 (aI @h2 (aI @hjl (aI @hc' (aI @rtN @rtR)))))));repeat' first|refine gC ?_ ?_<;>intro hc<;>try contradiction|refine zk (hf x y) ?_|refine gG ?_|show AK _;intro J Z|refine gJ ?_|omega|exact aT
      exact ⟨j,⟨by omega,by rw [<-h3];exact hj.2⟩,by omega,rfl,by rw [<-zkS hy,xbb,xbb],by rw [zhf (by omega),hol,xaF];omega⟩
     ·have hc':=eq_false hc;have h3:=zf9 hy hc;have qe:=aI qR (aI @i0 (aI @i1 (aI @h1 (aI @h2 (aI @hjl (aI @hc' (aI @rtN @rtR)))))));repeat' first|refine gC ?_ ?_<;>intro hc<;>try contradiction|refine zk (hf x y) ?_|refine gG ?_|show AK _;intro J Z|refine gJ ?_|omega|exact aT
      exact ⟨i+1,by omega,by omega,by simp,by rw [zeA hx (h3.symm.trans hj.2)],by rw [zbT (by omega)];exact xaj _⟩
  ·have qe:=aI qR (aI @hdl (aI @rtN @rtR));repeat' first|refine gC ?_ ?_<;>intro hc<;>try contradiction|refine gG ?_|show AK _;intro J Z|refine gJ ?_|omega|exact aT
   rw [zih c L (by omega)]
   exact .inl (.mk0 (h2:=by simp only [qS,seval,keepG.eq_1,keepG.eq_2,gLV.eq_2]<;>simp))
def zsx {f:Nat} {c:Wsh->Wsh->Int} (hf:∀ a b:Wsh,Pure prog f [a.pv,b.pv] (.i .i64 (c a b))) (L:List Wsh) (b:Int) (hb:b=L.length) (hn:L.length<=1000000):Acts prog 242 [.row 900 L.length,.p (.i .i64 0),.p (.i .i64 b),.p (.fn (.func f) [] [])] [(900,.row 73 14 (L.map Wsh.pv) false)] (.p (.tup [])) [(900,.row 73 14 ((zbJ c L).map Wsh.pv) false)]:=by
 subst hb;refine zR (cF func242 f242.eq_1) (by simp) (by simp [scPs,scP,zj]) (by simp [scObj]) ⟨rfl,trivial⟩ (by simp [scObj]) (by simp [zc1,zj,zH]) λX hX=>?_
 unfold zE ghO;have qe:=aI qR @gLV.eq_2;repeat' first|refine gC ?_ ?_<;>intro hc<;>try contradiction|refine gG ?_|show AK _;intro J Z|refine gJ ?_|omega|exact aT
 refine zi (κ:=Nat) (λi=>⟨[(0,.row 900 L.length),(1,.p (.i .i64 0)),(2,.p (.i .i64 L.length)),(3,.p (.fn (.func f) [] [])),(8,.p (.i .i64 i)),(1000900,.row 900 L.length)],[(900,.row 73 14 ((zd0 c L i).map Wsh.pv) false)],[],false⟩) (λi=>1<=i/\(i<=L.length\/i=1)) (λi=>L.length - i) 1 ?_ ?_ ?_
 ·simp only [qS,seval,gLV.eq_2]<;>simp [zoU]
 ·simp
 ·intro i hi;have hdl:=zbT (c:=c) hi.2
  by_cases hlt:i < L.length
  ·obtain ⟨x,hx⟩:=zm (i:=i) (l:=L) hlt;have qe:=aI qR @hdl;repeat' first|refine gC ?_ ?_<;>intro hc<;>try contradiction|refine gG ?_|show AK _;intro J Z|refine gJ ?_|omega|exact aT
   have hol:=zdp (c:=c) (L:=L) (k:=i) (by omega)
   refine zi (κ:=Nat) (λj=>⟨[(0,.row 900 L.length),(1,.p (.i .i64 0)),(2,.p (.i .i64 L.length)),(3,.p (.fn (.func f) [] [])),(8,.p (.i .i64 i)),(9,.p (.i .i64 j)),(1000900,.row 900 L.length)],[(900,.row 73 14 ((djP (zfB c L i) x (L.drop (i+1)) j).map Wsh.pv) false)],[],false⟩) (λj=>j<=i/\zbx (zjT c) x (zfB c L i) j=zbx (zjT c) x (zfB c L i) i) (λj=>j) i ?_ ?_ ?_
   ·refine gJ ?_;simp [zie hx,hdl]
   ·simp
   ·intro j hj;have hjl:(djP (zfB c L i) x (L.drop (i+1)) j).length=L.length:=by rw [zhf (by omega),hol,xaF];omega
    cases j with
    | zero=>
     have i0:(0 < ((0:Nat):Int))=False:=eq_false (by omega)
     have qe:=aI qR (aI @i0 (aI @hjl (aI @rtN @rtR)));repeat' first|refine gC ?_ ?_<;>intro hc<;>try contradiction|(show zh _ _ _ _ (⟨_,.callv,_,_,_⟩::_) _ _;refine zbg (q:=(.i .i64 0)) (by first|rfl|(simp (disch:=omega) only [qG,qe,seval]<;>rfl)) ?_;(try (refine zF ?_)))|refine gG ?_|show AK _;intro J Z|refine gJ ?_|omega|exact aT
     exact ⟨i+1,by omega,by omega,by simp,by rw [zeA (j:=0) hx hj.2],by rw [zbT (by omega)];exact xaj _⟩
    | succ j=>
     have i0:(0 < ((j+1:Nat):Int))=True:=eq_true (by omega)
     have i1:((j+1:Nat):Int) - 1=(j:Int):=by omega
     obtain ⟨y,hy⟩:=zm (i:=j) (l:=zfB c L i) (by omega)
     obtain ⟨h1,h2⟩:=zs7 (x:=x) (rest:=L.drop (i+1)) hy
     by_cases hc:c x y < 0
     ·have hc':=eq_true hc;have h3:=zkL hy hc;have qe:=aI qR (aI @i0 (aI @i1 (aI @h1 (aI @h2 (aI @hjl (aI @hc' (aI @rtN @rtR)))))));repeat' first|refine gC ?_ ?_<;>intro hc<;>try contradiction|refine zk (hf x y) ?_|refine gG ?_|show AK _;intro J Z|refine gJ ?_|omega|exact aT
      exact ⟨j,⟨by omega,by rw [<-h3];exact hj.2⟩,by omega,rfl,by rw [<-zkS hy,xbb,xbb],by rw [zhf (by omega),hol,xaF];omega⟩
     ·have hc':=eq_false hc;have h3:=zf9 hy hc;have qe:=aI qR (aI @i0 (aI @i1 (aI @h1 (aI @h2 (aI @hjl (aI @hc' (aI @rtN @rtR)))))));repeat' first|refine gC ?_ ?_<;>intro hc<;>try contradiction|refine zk (hf x y) ?_|refine gG ?_|show AK _;intro J Z|refine gJ ?_|omega|exact aT
      exact ⟨i+1,by omega,by omega,by simp,by rw [zeA hx (h3.symm.trans hj.2)],by rw [zbT (by omega)];exact xaj _⟩
  ·have qe:=aI qR (aI @hdl (aI @rtN @rtR));repeat' first|refine gC ?_ ?_<;>intro hc<;>try contradiction|refine gG ?_|show AK _;intro J Z|refine gJ ?_|omega|exact aT
   rw [zih c L (by omega)]
   exact .inl (.mk0 (h2:=by simp only [qS,seval,keepG.eq_1,keepG.eq_2,gLV.eq_2]<;>simp))
end Go.Proofs.YtijgimeokgbifaaGreat
