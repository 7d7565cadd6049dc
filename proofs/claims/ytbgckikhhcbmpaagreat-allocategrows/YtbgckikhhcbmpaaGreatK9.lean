/- Contracts. No conditions. -/
import Derived.Test.YtbgckikhhcbmpaaGreatK7
import Derived.Test.YtbgckikhhcbmpaaGreatK8
set_option linter.all false
set_option maxHeartbeats 8000000
set_option maxRecDepth 100000
namespace Go.Proofs.YtbgckikhhcbmpaaGreat
open Go.RowKit Tryz
variable {x:Int} {caps:List PV} {L:List Wis} {f i k:Nat} {a b:Wis}
section
variable {f:Nat} {cs:List PV} {c:OptN->OptN->Int}
def zsk (hf:∀ a b:OptN,Pure prog f ([]++[a.pv,b.pv]++cs) (.i .i64 (c a b))) (hs:SW (zaJ c)) (L:List OptN) (hn:L.length≤1000000):zbk prog 216 [.row 900 L.length,.p (.i .i64 L.length),.p (.fn (.func f) [] cs)] [(900,.row 152 2 (L.map OptN.pv) false)] (.p (.tup [])) [(900,.row 152 2 ((zz c L).map OptN.pv) false)]:=by
 obtain ⟨N,hN⟩:∃ N,L.length=N:=⟨_,rfl⟩
 rw [hN] at hn
 have hsl:=(zu c L).trans hN
 refine zD (cF func216 f216.eq_1) (by simp) (by simp [scPs,scP,zm]) (by simp [scObj]) ⟨rfl,trivial⟩ (by simp [scObj]) (by simp [zcQ,zm,zu]) fun X hX=>?_
 rw [hN]
 unfold zx ghO
 have qe:=aI qR @gLV.eq_2;refine gE2 ?_
 refine zh (κ:=List OptN × List OptN) (fun k=>⟨[(0,.row 900 N),(1,.p (.i .i64 N)),(2,.p (.fn (.func f) [] cs)),(6,.p (.i .i64 20)),(7,.p (.i .i64 (k.1.length:Nat))),(8,.p (.i .i64 (k.1.length+20:Nat))),(1000900,.row 900 N)],[(900,.row 152 2 ((k.1++k.2).map OptN.pv) false)],[],false⟩)
  (fun k=>k.1.length+k.2.length=N∧k.1++Wdo c 20 k.2=Wdo c 20 L) (fun k=>k.2.length) ([],L) ?_ ?_ ?_
 ·simp only [qS,Nat.reduceAdd,Nat.reduceMul,Nat.reduceEqDiff,Nat.reduceLeDiff,reduceIte,reduceCtorEq,Nat.reduceBEq,Nat.reduceLT,gLV.eq_2]<;>simp [hN]
 ·exact ⟨by simpa using hN,by simp⟩
 ·intro k hk
  obtain ⟨Pd,R⟩:=k
  simp only at hk
  obtain ⟨k1,k2⟩:=hk
  have hPR:(Pd++R).length=N:=by rw [xad];exact k1
  by_cases h20:20≤R.length
  ·have hge:(((Pd.length+20:Nat):Int)≤N)=True:=eq_true (by omega)
   have hl:(zz c (R.take 20)).length=20:=by rw [zu,xan];omega
   have qe:=aI qR (aI @qN (aI @hge (aI @hPR (aI @rtN @rtR))));have jA:SX [] _:=⟨zkD hf (D':=(Pd++zz c (R.take 20))++R.drop 20) Pd (R.take 20) (R.drop 20) hPR (by rw [xaq]) (by rw [xak]) (Pd.length:Nat) (Pd.length+20:Nat) rfl (by rw [xan];omega) hn⟩;refine gE2 ?_
   refine ⟨(Pd++zz c (R.take 20),R.drop 20),⟨?_,?_⟩,?_,?_⟩
   ·simp only [xad,hl,xav];omega
   ·simp only;rw [←k2,zdQ (by decide) h20,xak]
   ·simp only [xav];omega
   ·refine ⟨⟨?_,?_⟩,rfl,?_⟩
    ·simp only [LV.p.injEq,PV.i.injEq,true_and,xad,hl]
    ·simp only [LV.p.injEq,PV.i.injEq,true_and,xad,hl];omega
    ·simp only [xad,hl,xav];omega
  ·have hge:(((Pd.length+20:Nat):Int)≤N)=False:=eq_false (by omega)
   have hW:Wdo c 20 L=Pd++zz c R:=by rw [←k2,zbT (by omega)]
   have qe:=aI qR (aI @qN (aI @hge (aI @hPR (aI @rtN @rtR))));have jA:SX [] _:=⟨zkD hf (D':=Wdo c 20 L) Pd R [] hPR (by simp) (by rw [hW];simp) (Pd.length:Nat) (N:Nat) rfl (by omega) hn⟩;refine gE2 ?_
   refine zh (κ:=Nat) (fun w=>⟨[(0,.row 900 N),(1,.p (.i .i64 N)),(2,.p (.fn (.func f) [] cs)),(6,.p (.i .i64 w)),(1000900,.row 900 N)],[(900,.row 152 2 ((Wdo c w L).map OptN.pv) false)],[],false⟩) (fun w=>20≤w∧w≤2000000) (fun w=>N - w) 20 ?_ ?_ ?_
   ·refine gJ ?_;simp [zfk,hN]
   ·omega
   ·intro w hw
    have hWl:=zfk (c:=c) (w:=w) (by omega) L
    rw [hN] at hWl
    by_cases hwn:w < N
    ·have hwn':((w:Int) < N)=True:=eq_true (by omega)
     have qe:=aI qR (aI @hwn' (aI @hWl (aI @rtN @rtR)));refine gE2 ?_
     refine zh (κ:=List OptN × List OptN) (fun k=>⟨[(0,.row 900 N),(1,.p (.i .i64 N)),(2,.p (.fn (.func f) [] cs)),(6,.p (.i .i64 w)),(7,.p (.i .i64 (k.1.length:Nat))),(8,.p (.i .i64 (k.1.length+2*w:Nat))),(1000900,.row 900 N)],[(900,.row 152 2 ((k.1++Wdo c w k.2).map OptN.pv) false)],[],false⟩)
      (fun k=>k.1.length+k.2.length=N∧k.1++Wdo c (2*w) k.2=Wdo c (2*w) L) (fun k=>k.2.length) ([],L) ?_ ?_ ?_
     ·refine gJ ?_;simp [hWl]
     ·exact ⟨by simpa using hN,by simp⟩
     ·intro k hk
      obtain ⟨Pd,R⟩:=k
      simp only at hk
      obtain ⟨k1,k2⟩:=hk
      have hRl:=zfk (c:=c) (w:=w) (by omega) R
      have hPR:(Pd++Wdo c w R).length=N:=by rw [xad,hRl];exact k1
      by_cases h2:2*w≤R.length
      ·have hge:(((Pd.length+2*w:Nat):Int)≤N)=True:=eq_true (by omega)
       have l1:(zz c (R.take w)).length=w:=by rw [zu,xan];omega
       have l2:(zz c ((R.drop w).take w)).length=w:=by rw [zu,xan,xav];omega
       have l3:(zz c (R.take (2*w))).length=2*w:=by rw [zu,xan];omega
       have e1:Wdo c w R=zz c (R.take w)++(zz c ((R.drop w).take w)++Wdo c w (R.drop (2*w))):=by
        rw [zdQ (by omega) (by omega),zdQ (R:=R.drop w) (by omega) (by rw [xav];omega),xbP,show w+w=2*w by omega]
       have e2:mrg (zaJ c) (zz c (R.take w)) (zz c ((R.drop w).take w))=zz c (R.take (2*w)):=by
        have:=zjy hs (R.take (2*w)) w
        rw [List.take_take,xcb (by omega),List.drop_take,show 2*w - w=w by omega] at this
        exact this
       have qe:=aI qR (aI @qN (aI @hge (aI @hPR (aI @rtN @rtR))));repeat' first|refine gC ?_ ?_<;>intro hc<;>try contradiction|refine zf [] (znw hf hs (w+w) (D':=(Pd++zz c (R.take (2*w)))++Wdo c w (R.drop (2*w))) Pd (zz c (R.take w)) (zz c ((R.drop w).take w)) (Wdo c w (R.drop (2*w))) hPR (by rw [e1]) (by rw [e2,xak]) (by rw [zaO hs];exact zaU hs _) (by rw [zaO hs];exact zaU hs _) (by omega) (by omega) (by omega) (Pd.length:Nat) (Pd.length+w) (Pd.length+2*w:Nat) rfl (by rw [l1];omega) (by rw [l1,l2];omega) hn) ?_|refine gG ?_|show AK _;intro J Z|refine gJ ?_|omega|exact aT
       refine ⟨(Pd++zz c (R.take (2*w)),R.drop (2*w)),⟨?_,?_⟩,?_,?_⟩
       ·simp only [xad,l3,xav];omega
       ·simp only;rw [←k2,zdQ (by omega) h2,xak]
       ·simp only [xav];omega
       ·refine ⟨⟨?_,?_⟩,rfl,?_⟩
        ·simp only [LV.p.injEq,PV.i.injEq,true_and,xad,l3]
        ·simp only [LV.p.injEq,PV.i.injEq,true_and,xad,l3];omega
        ·simp only [xad,l3];rw [zfk (by omega),xav];omega
      ·have hge:(((Pd.length+2*w:Nat):Int)≤N)=False:=eq_false (by omega)
       have hW2:Wdo c (2*w) L=Pd++zz c R:=by rw [←k2,zbT (by omega)]
       by_cases h3:w < R.length
       ·have hlt:(((Pd.length:Nat):Int)+(w:Nat) < N)=True:=eq_true (by omega)
        have l1:(zz c (R.take w)).length=w:=by rw [zu,xan];omega
        have l2:(zz c (R.drop w)).length=R.length - w:=by rw [zu,xav]
        have e1:Wdo c w R=zz c (R.take w)++zz c (R.drop w):=by
         rw [zdQ (by omega) (by omega),zbT (R:=R.drop w) (by rw [xav];omega)]
        have qe:=aI qR (aI @qN (aI @hge (aI @hlt (aI @hPR (aI @rtN @rtR)))));repeat' first|refine gC ?_ ?_<;>intro hc<;>try contradiction|refine zf [] (znw hf hs (w+(R.length - w)) (D':=Wdo c (2*w) L) Pd (zz c (R.take w)) (zz c (R.drop w)) [] hPR (by rw [e1];simp) (by rw [hW2,zjy hs];simp) (by rw [zaO hs];exact zaU hs _) (by rw [zaO hs];exact zaU hs _) (by omega) (by omega) (by omega) (Pd.length:Nat) (Pd.length+w) (N:Nat) rfl (by rw [l1];omega) (by rw [l1,l2];omega) hn) ?_|refine gG ?_|show AK _;intro J Z|refine gJ ?_|omega|exact aT
        exact ⟨2*w,by omega,by omega,by simp only [LV.p.injEq,PV.i.injEq,true_and];omega,rfl,by rw [zfk (by omega)];omega⟩
       ·have hlt:(((Pd.length:Nat):Int)+(w:Nat) < N)=False:=eq_false (by omega)
        have e1:Pd++Wdo c w R=Wdo c (2*w) L:=by rw [hW2,zbT (by omega)]
        rw [e1]
        have qe:=aI qR (aI @qN (aI @hge (aI @hlt (aI @hPR (aI @rtN @rtR)))));refine gE2 ?_
        exact ⟨2*w,by omega,by omega,by simp only [LV.p.injEq,PV.i.injEq,true_and];omega,rfl,by rw [zfk (by omega)];omega⟩
    ·have hwn':((w:Int) < N)=False:=eq_false (by omega)
     have e:Wdo c w L=zz c L:=zbT (by omega)
     have qe:=aI qR (aI @hwn' (aI @hWl (aI @rtN @rtR)));refine gE2 ?_
     rw [e]
     exact .inl (.mk0 (h2:=by simp only [qS,Nat.reduceAdd,Nat.reduceMul,Nat.reduceEqDiff,Nat.reduceLeDiff,reduceIte,reduceCtorEq,Nat.reduceBEq,Nat.reduceLT,keepG.eq_1,keepG.eq_2,gLV.eq_2]<;>simp [hN]))
def zsl (hf:∀ a b:OptN,Pure prog f ([]++[a.pv,b.pv]++cs) (.i .i64 (c a b))) (hs:SW (zaJ c)) (L:List OptN) (hn:L.length<=1000000):zbk prog 167 [.row 900 L.length,.p (.fn (.func f) [] cs)] [(900,.row 152 2 (L.map OptN.pv) false)] (.p (.tup [])) [(900,.row 152 2 ((zz c L).map OptN.pv) false)]:=by
 have hsl:=zu c L;refine zD (cF func167 f167.eq_1) (by simp) (by simp [scPs,scP,zm]) (by simp [scObj]) ⟨rfl,trivial⟩ (by simp [scObj]) (by simp [zcQ,zm,zu]) λX hX=>?_
 unfold zx ghO;have qe:=aI qR (aI @qN (aI @gLV.eq_2 (aI @rtN @rtR)));have jA:SX [] _:=⟨zsk hf hs L hn⟩;refine gE2 ?_;exact .inl (.mk0 (h2:=by simp only [qS,seval,keepG.eq_1,keepG.eq_2,gLV.eq_2]<;>simp))
end
theorem zm3 {α β:Type} {l1:α->α->Bool} {l2:β->β->Bool} {f:α->β} (h:∀ x y,l2 (f x) (f y)=l1 x y) (x:α):∀ out:List α,(insL l1 x out).map f=insL l2 (f x) (out.map f)
 | []=>rfl
 | y::r=>by
  simp only [insL,xaj,h]
  split
  ·rfl
  ·rw [xaj,zm3 h x r]
def zq3 {α β:Type} {l1:α->α->Bool} {l2:β->β->Bool} {f:α->β} (h:∀ x y,l2 (f x) (f y)=l1 x y) (L:List α):(zcl l1 L).map f=zcl l2 (L.map f):=by
 have:∀ (I:List α) (out:List α),(I.foldl (λout x=>insL l1 x out) out).map f=(I.map f).foldl (λout x=>insL l2 x out) (out.map f):=by
  intro I
  induction I with
  | nil=>intro out;rfl
  | cons x I ih=>intro out;rw [xbn,xaj,xbn,ih,zm3 h]
 exact this L []
def znJ {α β:Type} {c:β->β->Int} (hs:SW (zaJ c)) (f:α->β) (L:List α):(zz (λx y=>c (f x) (f y)) L).map f=zz c (L.map f):=by
 have hs1:SW (zaJ λx y=>c (f x) (f y)):=⟨λx y h=>hs.asym _ _ h,λx y z h k=>hs.nt _ _ _ h k⟩
 rw [zz,zz,zd8 hs,zd8 hs1];exact zq3 (l1:=zaJ λx y=>c (f x) (f y)) (l2:=zaJ c) (f:=f) (λ_ _=>rfl) L
def tn1:0+Int.toNat 1*1=1:=rfl
def tn2:0+((1:Int) - 1).toNat*1=0:=rfl
def tn3:0+((1:Int) - 0).toNat*1=1:=rfl
def tn4:0+Int.toNat 0*1=0:=rfl
abbrev OptN.o (x:OptN):Opt:=((x.a.val:Int),(x.b.val:Int))
def zfW (x:OptN):(0<=x.o.1/\x.o.1<=1439)/\(0<=x.o.2/\x.o.2<=1439):=by
 have h1:=x.a.isLt;have h2:=x.b.isLt;show (0<=(x.a.val:Int)/\(x.a.val:Int)<=1439)/\(0<=(x.b.val:Int)/\(x.b.val:Int)<=1439)
 omega
theorem zqA:∀ L:List Opt,(∀ o ∈ L,(0<=o.1/\o.1<=1439)/\(0<=o.2/\o.2<=1439))->∃ P:List OptN,P.map OptN.o=L
 | [],_=>⟨[],rfl⟩
 | o::r,h=>by
  obtain ⟨P,hP⟩:=zqA r λx hx=>h x (by simp [hx])
  obtain ⟨h1,h2⟩:=h o (by simp)
  refine ⟨⟨⟨o.1.toNat,by omega⟩,⟨o.2.toNat,by omega⟩⟩::P,?_⟩
  rw [xaj,hP]
  congr 1
  show (((o.1.toNat:Nat):Int),((o.2.toNat:Nat):Int))=o;rw [xbm h1.1,xbm h2.1]
def zdM {w:Wis} (h:zo3 w=0) {m:Int} (hm:m ∈ zac w):0<=m/\m<=1439:=by
 obtain ⟨z1,z2,z3,z4,z5,z6,z7⟩:=zjq h;have:m ∈ zkM w.req.minute w.ear w.lat w.step:=by
  unfold zac zz at hm;have:=(zbG (zaJ (cmpC w.req.minute)) (zkM w.req.minute w.ear w.lat w.step) []).mem_iff.1 hm;simpa using this
 exact zr0 z6 z4 z5 z2 z3 this
def zqu {o:Opt} (h:o ∈ zdS a b):o.1 ∈ zac a/\o.2 ∈ zac b/\ze8 a b o.1 o.2=true:=by
 obtain ⟨x,hx,h⟩:=xaw.1 h;obtain ⟨y,hy,h⟩:=xaw.1 h
 split at h
 ·rw [xaX] at h;subst h;exact ⟨hx,hy,by assumption⟩
 ·cases h
def zd5 (a b:Wis) (k:Nat):List Opt:=((zac a).take k).flatMap λx=>(zac b).flatMap λy=>if ze8 a b x y then [(x,y)] else []
def zey (a b:Wis) (x:Int) (e:Nat):List Opt:=((zac b).take e).flatMap λy=>if ze8 a b x y then [(x,y)] else []
def zjQ (a b:Wis) (x:Int) (e:Nat):(zey a b x e).length<=e:=by
 have:∀ I:List Int,(I.flatMap λy=>if ze8 a b x y then [(x,y)] else []).length<=I.length:=by
  intro I
  induction I with
  | nil=>simp
  | cons y I ih=>
   rw [xat,xad,xaz]
   split<;>simp only [xaz,xbB]<;>omega
 have h:=this ((zac b).take e);rw [xan] at h;unfold zey;omega
def zgv (a b:Wis) (k:Nat):(zd5 a b k).length<=k*(zac b).length:=by
 have:∀ I:List Int,(I.flatMap λx=>(zac b).flatMap λy=>if ze8 a b x y then [(x,y)] else []).length<=I.length*(zac b).length:=by
  intro I
  induction I with
  | nil=>simp
  | cons x I ih=>
   rw [xat,xad,xaz,xb0];have:=zjQ a b x (zac b).length;unfold zey at this;rw [xah] at this
   omega
 have h:=this ((zac a).take k);have h2:((zac a).take k).length<=k:=by rw [xan];omega
 have h3:((zac a).take k).length*(zac b).length<=k*(zac b).length:=xba _ h2;unfold zd5;omega
def zoa (h:(zac a)[k]?=some x):zd5 a b (k+1)=zd5 a b k++zey a b x (zac b).length:=by
 unfold zd5 zey;rw [zE h,xa8,xah];simp
def zob {e:Nat} {y:Int} (h:(zac b)[e]?=some y):zey a b x (e+1)=zey a b x e++if ze8 a b x y then [(x,y)] else []:=by
 unfold zey;rw [zE h,xa8];simp
def zmz (ha:L[i]?=some a) (hb:L[k]?=some b) (o:Opt) (h1:0<=o.1/\o.1<=1439) (h2:0<=o.2/\o.2<=1439) (ma:0<=a.req.minute/\a.req.minute<=1439) (mb:0<=b.req.minute/\b.req.minute<=1439) :
  Pure prog 164 ([]++[unP o]++[.ip (.sl 18 (L.map Wis.pv)) 0,.ip (unP ((i:Int),(k:Int))) 0]) (.i .i64 (farO a b o)):=by
 have hil:i < L.length:=(xaa.1 ha).1;have hkl:k < L.length:=(xaa.1 hb).1;have q1:zdV (o.1 - a.req.minute)<=1439/\0<=zdV (o.1 - a.req.minute):=by unfold zdV;omega
 have q2:zdV (o.2 - b.req.minute)<=1439/\0<=zdV (o.2 - b.req.minute):=by unfold zdV;omega
 refine pz func164 f164.eq_1 λhw X hX=>?_
 have qe:=aI qR (aI @tn1 (aI @ha @hb));have jA:=zfO (o.1 - a.req.minute) (by omega) (by omega);have jB:=zfO (o.2 - b.req.minute) (by omega) (by omega);exact gD2
def zt3 {x y:PV} {p q:Int} (hx:Pure prog f ([]++[x]++caps) (.i .i64 p)) (hy:Pure prog f ([]++[y]++caps) (.i .i64 q)) {x1 x2 y1 y2:Int} (ex:x=.agg [.i .i64 x1,.i .i64 x2]) (ey:y=.agg [.i .i64 y1,.i .i64 y2]) :
  Pure prog 168 ([]++[x,y]++[.ip (.fn (.func f) [] caps) 0]) (.i .i64 (zi9 p q)):=by
 subst ex ey;refine pz func168 f168.eq_1 λhw X hX=>?_
 have qe:=@qR;have jA:=hx;have jB:=hy;have jC:=λu1 u2=>zlh u1 u2;exact gD5
def zmy (ha:L[i]?=some a) (hb:L[k]?=some b) (o:Opt) (h1:0<=o.1/\o.1<=1439) (h2:0<=o.2/\o.2<=1439) :
  Pure prog 166 [unP ((i:Int),(k:Int)),.sl 18 (L.map Wis.pv),unP o] (.b (ze8 a b o.1 o.2)):=by
 have hil:i < L.length:=(xaa.1 ha).1;have hkl:k < L.length:=(xaa.1 hb).1;have hk0:=eq_false (show ¬(k:Int) < 0 by omega)
 refine pz func166 f166.eq_1 λhw X hX=>?_
 unfold ze8
 by_cases hD:a.req.kind=sD
 ·rw [if_pos hD];have hD':=eq_true hD
  by_cases hg:b.least<=o.1 - o.2
  ·have hg':=eq_true hg;have qe:=aI qR (aI @tn1 (aI @tn2 (aI @tn3 (aI @tn4 (aI @ha (aI @hb (aI @hD' (aI @hg' @hk0))))))));refine gE2 ?_
   all_goals exact zhe (by simp [hg])
  ·have hg':=eq_false hg;have qe:=aI qR (aI @tn1 (aI @tn2 (aI @tn3 (aI @tn4 (aI @ha (aI @hb (aI @hD' (aI @hg' @hk0))))))));refine gE2 ?_
   all_goals exact zhe (by simp [hg])
 ·rw [if_neg hD];have hD':=eq_false hD
  by_cases hg:a.least<=o.2 - o.1
  ·have hg':=eq_true hg;have qe:=aI qR (aI @tn1 (aI @tn2 (aI @tn3 (aI @tn4 (aI @ha (aI @hb (aI @hD' (aI @hg' @hk0))))))));refine gE2 ?_
   all_goals exact zhe (by simp [hg])
  ·have hg':=eq_false hg;have qe:=aI qR (aI @tn1 (aI @tn2 (aI @tn3 (aI @tn4 (aI @ha (aI @hb (aI @hD' (aI @hg' @hk0))))))));refine gE2 ?_
   all_goals exact zhe (by simp [hg])
def zt4 (m:Int):Pure prog 163 [.i .i64 m] (unP (m,-1)):=by
 refine pz func163 f163.eq_1 λhw X hX=>?_
 have qe:=@qR;exact gD2
def zt5 {L:List Int} {g:Int->Opt} (hf:∀ m,Pure prog f ([]++[.i .i64 m]++caps) (unP (g m))) (hn:L.length<=1000000):Pure prog 162 [.sl 1 (L.map (.i .i64)),.fn (.func f) [] caps] (.sl 2 ((L.map g).map unP)):=by
 refine pz func162 f162.eq_1 λhw X hX=>?_
 refine gE2 ?_;refine run_ownL 400 152 2 (κ:=Nat) (λk=>⟨[(1,.p (.fn (.func f) [] caps)),(5,.row 400 k),(8,.p (.sl 1 (L.map (.i .i64)))),(9,.p (.i .i64 L.length)),(10,.p (.i .i64 k))],[(400,.row 152 2 (((L.take k).map g).map unP) false)],[],false⟩) (λk=>k<=L.length) (λk=>L.length - k) 0 ?_ ?_ ?_
 ·refine ⟨gO ?_,gO ?_⟩<;>simp
 ·simp
 ·intro k hk;have hkl:(((L.take k).map g).map unP).length=k:=by simp;omega
  have hkl2:((L.take k).map g).length=k:=by simp;omega
  have hkl3:(L.take k).length=k:=by simp;omega
  refine gH (λhc=>?_) λhc=>?_
  ·obtain ⟨x,hx⟩:=zj (i:=k) (l:=L) (by omega)
   have qe:=aI qR (aI @hx (aI @hkl (aI @hkl2 @hkl3)));have jA:=hf x;refine gE2 ?_;exact ⟨k+1,by omega,by omega,by simp,by simp [zE hx]<;>omega⟩
  ·obtain rfl:k=L.length:=by omega
   have qe:=aI qR (aI @qN (aI @hkl (aI @hkl2 (aI @hkl3 (aI @List.take_length.{0} (aI @rtN @rtR))))));exact gD2
def zqo (ha:L[i]?=some a) (hA:zfI a=0) (h12:zg2 a.req.minute a.ear a.lat a.step<=12) (hx:x < 0):Pure prog 85 [unP ((i:Int),x),.sl 18 (L.map Wis.pv)] (.sl 2 (((zac a).map λm=>((m,-1):Opt)).map unP)):=by
 have hil:i < L.length:=(xaa.1 ha).1;have hcl:(zac a).length=zg2 a.req.minute a.ear a.lat a.step:=by unfold zac;rw [zu];unfold zkM;rw [xaf,xaU]
 have h62:=zt5 (f:=163) (caps:=[]) (L:=zac a) (g:=λm=>((m,-1):Opt)) (λm=>zt4 m) (by omega)
 have hx':=eq_true hx;refine pz func85 f85.eq_1 λhw X hX=>?_
 have qe:=aI qR (aI @tn1 (aI @ha (aI @hx' @hil)));have jA:=zcW a hA h12;have jB:=h62;exact gD2
def zud (ha:L[i]?=some a) (hb:L[k]?=some b) (hA:zfI a=0) (hB:zfI b=0) (h12:zg2 a.req.minute a.ear a.lat a.step<=12) (h12b:zg2 b.req.minute b.ear b.lat b.step<=12):Pure prog 85 [unP ((i:Int),(k:Int)),.sl 18 (L.map Wis.pv)] (.sl 2 ((zz (zpd a b) (zdS a b)).map unP)):=by
 have hil:i < L.length:=(xaa.1 ha).1;have hkl:k < L.length:=(xaa.1 hb).1;have hcl:(zac a).length=zg2 a.req.minute a.ear a.lat a.step:=by unfold zac;rw [zu];unfold zkM;rw [xaf,xaU]
 have hclb:(zac b).length=zg2 b.req.minute b.ear b.lat b.step:=by unfold zac;rw [zu];unfold zkM;rw [xaf,xaU]
 have hmA:=zdv (zcC hA).1;have hmB:=zdv (zcC hB).1;have hra:∀ m ∈ zac a,0<=m/\m<=1439:=λm hm=>zdM (zcC hA).1 hm
 have hrb:∀ m ∈ zac b,0<=m/\m<=1439:=λm hm=>zdM (zcC hB).1 hm
 have hk0:=eq_false (show ¬(k:Int) < 0 by omega)
 have h22a:=zcW a hA h12;have h22b:=zcW b hB h12b;obtain ⟨P,hP⟩:=zqA (zdS a b) λo ho=>by
  obtain ⟨m1,m2,_⟩:=zqu ho;exact ⟨hra _ m1,hrb _ m2⟩
 have hPp:(zdS a b).map unP=P.map OptN.pv:=by rw [<-hP,List.map_map];rfl
 have hPl:(zdS a b).length=P.length:=by rw [<-hP,xaf]
 have hpk:(zdS a b).length<=200:=by
  have h:=zgv a b (zac a).length;have e:zd5 a b (zac a).length=zdS a b:=by unfold zd5;rw [xah];rfl
  rw [e] at h;have:(zac a).length*(zac b).length<=12*12:=Nat.mul_le_mul (by omega) (by omega)
  omega
 have h67:=zsl (f:=168) (cs:=[.ip (.fn (.func 164) [] [.ip (.sl 18 (L.map Wis.pv)) 0,.ip (unP ((i:Int),(k:Int))) 0]) 0]) (c:=λx y:OptN=>zpd a b x.o y.o)
  (λx y=>zt3 (zmz ha hb x.o (zfW x).1 (zfW x).2 hmA hmB) (zmz ha hb y.o (zfW y).1 (zfW y).2 hmA hmB) rfl rfl)
  ⟨λx y h=>(zl1 a b).asym _ _ h,λx y z h k=>(zl1 a b).nt _ _ _ h k⟩ P (by omega)
 have hso:(zz (λx y:OptN=>zpd a b x.o y.o) P).map OptN.pv=(zz (zpd a b) (zdS a b)).map unP:=by
  rw [<-hP,<-znJ (zl1 a b) OptN.o P,List.map_map];rfl
 have hsl:(zz (zpd a b) (zdS a b)).length=P.length:=by rw [zu,hPl]
 rw [hso,<-hPp] at h67;refine pz func85 f85.eq_1 λhw X hX=>?_
 have qe:=aI qR (aI @tn1 @hk0);repeat first|refine gG ?_|show AK _;intro J Z|refine gJ ?_|omega|exact aT
 have qe:=aI qR (aI @tn1 @hk0);(refine gC ?_ ?_<;>intro hc<;>try contradiction)
 refine zen ?_;refine (show Run _ (.seq (.ops false _) _) _ _ from zbC (zar (zbP 1 ?_)))
 simp only [xa3,xbb,xbz,xbw];have qe:=@qR;refine gE2 ?_;refine zag (zaz 22 (.fn (.func 164) [] [.ip (.sl 18 (L.map Wis.pv)) 0,.ip (unP ((i:Int),(k:Int))) 0]) (sR) (by first|trivial|simp) (.refl _)) ?_
 rintro _ rfl;refine zw ?_;have qe:=aI qR (aI @tn1 (aI @ha (aI @hb @hk0)));have jA:=h22a;refine gE2 ?_;refine run_ownL 400 152 2 (κ:=Nat) (λc=>⟨[(2,.lp 2 0),(3,.lp 3 0),(5,.lp 5 0),(6,.row 400 (zd5 a b c).length),(28,.p (.sl 1 ((zac a).map (.i .i64)))),(29,.p (.i .i64 (zac a).length)),(30,.p (.i .i64 c))],[(2,.box [.p (.i .i64 i),.p (.i .i64 k)] true),(3,.box [.p (.sl 18 (L.map Wis.pv))] true),(5,.box [.p (.fn (.func 164) [] [.ip (.sl 18 (L.map Wis.pv)) 0,.ip (unP ((i:Int),(k:Int))) 0])] false),(400,.row 152 2 ((zd5 a b c).map unP) false)],[],false⟩) (λc=>c<=(zac a).length) (λc=>(zac a).length - c) 0 ?_ ?_ ?_
 ·refine ⟨gO ?_,gO ?_⟩<;>simp [zd5]
 ·simp
 ·intro c hc0;have hpl:=zgv a b c;have hpl2:c*(zac b).length<=12*12:=Nat.mul_le_mul (by omega) (by omega)
  refine gH (λhc=>?_) λhc=>?_
  ·obtain ⟨x,hx⟩:=zj (i:=c) (l:=zac a) (by omega)
   have hnx:=zoa (b:=b) hx;have hxr:=hra x (xae hx);generalize hPK:zd5 a b c=PK at *;have qe:=aI qR (aI @tn1 (aI @ha (aI @hb (aI @hkl @hx))));have jA:=h22b;refine gE2 ?_;refine zh (κ:=Nat) (λe=>⟨[(2,.lp 2 0),(3,.lp 3 0),(5,.lp 5 0),(6,.row 400 (PK++zey a b x e).length),(8,.p (.i .i64 x)),(28,.p (.sl 1 ((zac a).map (.i .i64)))),(29,.p (.i .i64 (zac a).length)),(30,.p (.i .i64 c)),(39,.p (.sl 1 ((zac b).map (.i .i64)))),(40,.p (.i .i64 (zac b).length)),(41,.p (.i .i64 e))],[(2,.box [.p (.i .i64 i),.p (.i .i64 k)] true),(3,.box [.p (.sl 18 (L.map Wis.pv))] true),(5,.box [.p (.fn (.func 164) [] [.ip (.sl 18 (L.map Wis.pv)) 0,.ip (unP ((i:Int),(k:Int))) 0])] false),(400,.row 152 2 ((PK++zey a b x e).map unP) false)],[],false⟩) (λe=>e<=(zac b).length) (λe=>(zac b).length - e) 0 ?_ ?_ ?_
   ·refine gJ ?_;simp [zey]
   ·simp
   ·intro e he;have hel:=zjQ a b x e;have hal:(PK++zey a b x e).length<=1000:=by rw [xad];omega
    refine gH (λhc=>?_) λhc=>?_
    ·obtain ⟨y,hy⟩:=zj (i:=e) (l:=zac b) (by omega)
     have hyr:=hrb y (xae hy);have hnxe:=zob (a:=a) (b:=b) (x:=x) hy;have h66:=zmy ha hb (x,y) hxr hyr
     by_cases hp:ze8 a b x y=true
     ·rw [if_pos hp] at hnxe;have hll:(PK++zey a b x (e+1)).length=(PK++zey a b x e).length+1:=by rw [hnxe];simp;omega
      have qe:=aI qR (aI @hy @hp);have jA:=h66;refine gE2 ?_;exact ⟨e+1,by omega,by omega,by simp [hnxe]<;>omega,by simp [hnxe]⟩
     ·rw [if_neg hp,xar] at hnxe;rw [xbq] at hp;have qe:=aI qR (aI @hy @hp);have jA:=h66;refine gE2 ?_;exact ⟨e+1,by omega,by omega,by simp [hnxe]<;>omega,by simp [hnxe]⟩
    ·refine gE2 ?_;have ee:e=(zac b).length:=by omega
     subst ee;exact ⟨c+1,by omega,by omega,by simp [hnx],by simp [hnx]⟩
  ·obtain rfl:c=(zac a).length:=by omega
   have e:zd5 a b (zac a).length=zdS a b:=by unfold zd5;rw [xah];rfl
   rw [e];refine zcU ?_;refine (show Run _ (.seq _ _) _ _ from zbC ?_)
   refine (show Run _ (.ops false _) _ _ from zar (zbP 2 ?_))
   simp only [xa3,xbb,xbz,xbw];have qe:=@qR;refine gE2 ?_;refine zag (zaz 59 (.fn (.func 168) [] [.ip (.fn (.func 164) [] [.ip (.sl 18 (L.map Wis.pv)) 0,.ip (unP ((i:Int),(k:Int))) 0]) 0]) (sR) (by first|trivial|simp) (.refl _)) ?_
   rintro _ rfl;refine zw ?_;have qe:=aI qR (aI @qN (aI @hPl (aI @hsl (aI @rtN @rtR))));have jA:SX [(900,400)] _:=⟨h67⟩;exact gD2
end Go.Proofs.YtbgckikhhcbmpaaGreat
