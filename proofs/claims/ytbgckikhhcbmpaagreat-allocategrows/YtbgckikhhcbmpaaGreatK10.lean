/- Contracts. No conditions. -/
import Derived.Test.YtbgckikhhcbmpaaGreatK9
set_option linter.all false
set_option maxHeartbeats 8000000
set_option maxRecDepth 100000
namespace Go.Proofs.YtbgckikhhcbmpaaGreat
open Go.RowKit Tryz
variable {G:BgM} {t:Int} {l:Lim} {C:List (Ky × Int)} {ls:List Lim} {caps:List PV} {R:List Res} {L:List Wis} {p:Mov->Bool} {f i:Nat} {r:Res} {s:St} {u:Unt} {a:Wis}
section
variable {f:Nat} {c:Mov->Mov->Int}
def zwa (hf:∀ a b:Mov,Pure prog f [a.pv,b.pv] (.i .i64 (c a b))) (hs:SW (bfC c)) (L:List Mov) (hn:L.length≤1000000):zbk prog 226 [.row 900 L.length,.p (.i .i64 L.length),.p (.fn (.func f) [] [])] [(900,.row 194 7 (L.map Mov.pv) false)] (.p (.tup [])) [(900,.row 194 7 ((zat c L).map Mov.pv) false)]:=by
 obtain ⟨N,hN⟩:∃ N,L.length=N:=⟨_,rfl⟩
 rw [hN] at hn
 have hsl:=(zaf c L).trans hN
 refine zD (cF func226 f226.eq_1) (by simp) (by simp [scPs,scP,zm]) (by simp [scObj]) ⟨rfl,trivial⟩ (by simp [scObj]) (by simp [zcQ,zm,zaf]) fun X hX=>?_
 rw [hN]
 unfold zx ghO
 have qe:=aI qR @gLV.eq_2;refine gE2 ?_
 refine zh (κ:=List Mov × List Mov) (fun k=>⟨[(0,.row 900 N),(1,.p (.i .i64 N)),(2,.p (.fn (.func f) [] [])),(6,.p (.i .i64 20)),(7,.p (.i .i64 (k.1.length:Nat))),(8,.p (.i .i64 (k.1.length+20:Nat))),(1000900,.row 900 N)],[(900,.row 194 7 ((k.1++k.2).map Mov.pv) false)],[],false⟩)
  (fun k=>k.1.length+k.2.length=N∧k.1++Wd c 20 k.2=Wd c 20 L) (fun k=>k.2.length) ([],L) ?_ ?_ ?_
 ·simp only [qS,Nat.reduceAdd,Nat.reduceMul,Nat.reduceEqDiff,Nat.reduceLeDiff,reduceIte,reduceCtorEq,Nat.reduceBEq,Nat.reduceLT,gLV.eq_2]<;>simp [hN]
 ·exact ⟨by simpa using hN,by simp⟩
 ·intro k hk
  obtain ⟨Pd,R⟩:=k
  simp only at hk
  obtain ⟨k1,k2⟩:=hk
  have hPR:(Pd++R).length=N:=by rw [xad];exact k1
  by_cases h20:20≤R.length
  ·have hge:(((Pd.length+20:Nat):Int)≤N)=True:=eq_true (by omega)
   have hl:(zat c (R.take 20)).length=20:=by rw [zaf,xan];omega
   have qe:=aI qR (aI @qN (aI @hge (aI @hPR (aI @rtN @rtR))));have jA:SX [] _:=⟨znB hf (D':=(Pd++zat c (R.take 20))++R.drop 20) Pd (R.take 20) (R.drop 20) hPR (by rw [xaq]) (by rw [xak]) (Pd.length:Nat) (Pd.length+20:Nat) rfl (by rw [xan];omega) hn⟩;refine gE2 ?_
   refine ⟨(Pd++zat c (R.take 20),R.drop 20),⟨?_,?_⟩,?_,?_⟩
   ·simp only [xad,hl,xav];omega
   ·simp only;rw [←k2,zfl (by decide) h20,xak]
   ·simp only [xav];omega
   ·refine ⟨⟨?_,?_⟩,rfl,?_⟩
    ·simp only [LV.p.injEq,PV.i.injEq,true_and,xad,hl]
    ·simp only [LV.p.injEq,PV.i.injEq,true_and,xad,hl];omega
    ·simp only [xad,hl,xav];omega
  ·have hge:(((Pd.length+20:Nat):Int)≤N)=False:=eq_false (by omega)
   have hW:Wd c 20 L=Pd++zat c R:=by rw [←k2,zcy (by omega)]
   have qe:=aI qR (aI @qN (aI @hge (aI @hPR (aI @rtN @rtR))));have jA:SX [] _:=⟨znB hf (D':=Wd c 20 L) Pd R [] hPR (by simp) (by rw [hW];simp) (Pd.length:Nat) (N:Nat) rfl (by omega) hn⟩;refine gE2 ?_
   refine zh (κ:=Nat) (fun w=>⟨[(0,.row 900 N),(1,.p (.i .i64 N)),(2,.p (.fn (.func f) [] [])),(6,.p (.i .i64 w)),(1000900,.row 900 N)],[(900,.row 194 7 ((Wd c w L).map Mov.pv) false)],[],false⟩) (fun w=>20≤w∧w≤2000000) (fun w=>N - w) 20 ?_ ?_ ?_
   ·refine gJ ?_;simp [zhW,hN]
   ·omega
   ·intro w hw
    have hWl:=zhW (c:=c) (w:=w) (by omega) L
    rw [hN] at hWl
    by_cases hwn:w < N
    ·have hwn':((w:Int) < N)=True:=eq_true (by omega)
     have qe:=aI qR (aI @hwn' (aI @hWl (aI @rtN @rtR)));refine gE2 ?_
     refine zh (κ:=List Mov × List Mov) (fun k=>⟨[(0,.row 900 N),(1,.p (.i .i64 N)),(2,.p (.fn (.func f) [] [])),(6,.p (.i .i64 w)),(7,.p (.i .i64 (k.1.length:Nat))),(8,.p (.i .i64 (k.1.length+2*w:Nat))),(1000900,.row 900 N)],[(900,.row 194 7 ((k.1++Wd c w k.2).map Mov.pv) false)],[],false⟩)
      (fun k=>k.1.length+k.2.length=N∧k.1++Wd c (2*w) k.2=Wd c (2*w) L) (fun k=>k.2.length) ([],L) ?_ ?_ ?_
     ·refine gJ ?_;simp [hWl]
     ·exact ⟨by simpa using hN,by simp⟩
     ·intro k hk
      obtain ⟨Pd,R⟩:=k
      simp only at hk
      obtain ⟨k1,k2⟩:=hk
      have hRl:=zhW (c:=c) (w:=w) (by omega) R
      have hPR:(Pd++Wd c w R).length=N:=by rw [xad,hRl];exact k1
      by_cases h2:2*w≤R.length
      ·have hge:(((Pd.length+2*w:Nat):Int)≤N)=True:=eq_true (by omega)
       have l1:(zat c (R.take w)).length=w:=by rw [zaf,xan];omega
       have l2:(zat c ((R.drop w).take w)).length=w:=by rw [zaf,xan,xav];omega
       have l3:(zat c (R.take (2*w))).length=2*w:=by rw [zaf,xan];omega
       have e1:Wd c w R=zat c (R.take w)++(zat c ((R.drop w).take w)++Wd c w (R.drop (2*w))):=by
        rw [zfl (by omega) (by omega),zfl (R:=R.drop w) (by omega) (by rw [xav];omega),xbP,show w+w=2*w by omega]
       have e2:mrg (bfC c) (zat c (R.take w)) (zat c ((R.drop w).take w))=zat c (R.take (2*w)):=by
        have:=zmp hs (R.take (2*w)) w
        rw [List.take_take,xcb (by omega),List.drop_take,show 2*w - w=w by omega] at this
        exact this
       have qe:=aI qR (aI @qN (aI @hge (aI @hPR (aI @rtN @rtR))));repeat' first|refine gC ?_ ?_<;>intro hc<;>try contradiction|refine zf [] (zsq hf hs (w+w) (D':=(Pd++zat c (R.take (2*w)))++Wd c w (R.drop (2*w))) Pd (zat c (R.take w)) (zat c ((R.drop w).take w)) (Wd c w (R.drop (2*w))) hPR (by rw [e1]) (by rw [e2,xak]) (by rw [zaP hs];exact zaU hs _) (by rw [zaP hs];exact zaU hs _) (by omega) (by omega) (by omega) (Pd.length:Nat) (Pd.length+w) (Pd.length+2*w:Nat) rfl (by rw [l1];omega) (by rw [l1,l2];omega) hn) ?_|refine gG ?_|show AK _;intro J Z|refine gJ ?_|omega|exact aT
       refine ⟨(Pd++zat c (R.take (2*w)),R.drop (2*w)),⟨?_,?_⟩,?_,?_⟩
       ·simp only [xad,l3,xav];omega
       ·simp only;rw [←k2,zfl (by omega) h2,xak]
       ·simp only [xav];omega
       ·refine ⟨⟨?_,?_⟩,rfl,?_⟩
        ·simp only [LV.p.injEq,PV.i.injEq,true_and,xad,l3]
        ·simp only [LV.p.injEq,PV.i.injEq,true_and,xad,l3];omega
        ·simp only [xad,l3];rw [zhW (by omega),xav];omega
      ·have hge:(((Pd.length+2*w:Nat):Int)≤N)=False:=eq_false (by omega)
       have hW2:Wd c (2*w) L=Pd++zat c R:=by rw [←k2,zcy (by omega)]
       by_cases h3:w < R.length
       ·have hlt:(((Pd.length:Nat):Int)+(w:Nat) < N)=True:=eq_true (by omega)
        have l1:(zat c (R.take w)).length=w:=by rw [zaf,xan];omega
        have l2:(zat c (R.drop w)).length=R.length - w:=by rw [zaf,xav]
        have e1:Wd c w R=zat c (R.take w)++zat c (R.drop w):=by
         rw [zfl (by omega) (by omega),zcy (R:=R.drop w) (by rw [xav];omega)]
        have qe:=aI qR (aI @qN (aI @hge (aI @hlt (aI @hPR (aI @rtN @rtR)))));repeat' first|refine gC ?_ ?_<;>intro hc<;>try contradiction|refine zf [] (zsq hf hs (w+(R.length - w)) (D':=Wd c (2*w) L) Pd (zat c (R.take w)) (zat c (R.drop w)) [] hPR (by rw [e1];simp) (by rw [hW2,zmp hs];simp) (by rw [zaP hs];exact zaU hs _) (by rw [zaP hs];exact zaU hs _) (by omega) (by omega) (by omega) (Pd.length:Nat) (Pd.length+w) (N:Nat) rfl (by rw [l1];omega) (by rw [l1,l2];omega) hn) ?_|refine gG ?_|show AK _;intro J Z|refine gJ ?_|omega|exact aT
        exact ⟨2*w,by omega,by omega,by simp only [LV.p.injEq,PV.i.injEq,true_and];omega,rfl,by rw [zhW (by omega)];omega⟩
       ·have hlt:(((Pd.length:Nat):Int)+(w:Nat) < N)=False:=eq_false (by omega)
        have e1:Pd++Wd c w R=Wd c (2*w) L:=by rw [hW2,zcy (by omega)]
        rw [e1]
        have qe:=aI qR (aI @qN (aI @hge (aI @hlt (aI @hPR (aI @rtN @rtR)))));refine gE2 ?_
        exact ⟨2*w,by omega,by omega,by simp only [LV.p.injEq,PV.i.injEq,true_and];omega,rfl,by rw [zhW (by omega)];omega⟩
    ·have hwn':((w:Int) < N)=False:=eq_false (by omega)
     have e:Wd c w L=zat c L:=zcy (by omega)
     have qe:=aI qR (aI @hwn' (aI @hWl (aI @rtN @rtR)));refine gE2 ?_
     rw [e]
     exact .inl (.mk0 (h2:=by simp only [qS,Nat.reduceAdd,Nat.reduceMul,Nat.reduceEqDiff,Nat.reduceLeDiff,reduceIte,reduceCtorEq,Nat.reduceBEq,Nat.reduceLT,keepG.eq_1,keepG.eq_2,gLV.eq_2]<;>simp [hN]))
def zwb (hf:∀ a b:Mov,Pure prog f [a.pv,b.pv] (.i .i64 (c a b))) (hs:SW (bfC c)) (L:List Mov) (hn:L.length<=1000000):zbk prog 189 [.row 900 L.length,.p (.fn (.func f) [] [])] [(900,.row 194 7 (L.map Mov.pv) false)] (.p (.tup [])) [(900,.row 194 7 ((zat c L).map Mov.pv) false)]:=by
 have hsl:=zaf c L;refine zD (cF func189 f189.eq_1) (by simp) (by simp [scPs,scP,zm]) (by simp [scObj]) ⟨rfl,trivial⟩ (by simp [scObj]) (by simp [zcQ,zm,zaf]) λX hX=>?_
 unfold zx ghO;have qe:=aI qR (aI @qN (aI @gLV.eq_2 (aI @rtN @rtR)));have jA:SX [] _:=⟨zwa hf hs L hn⟩;refine gE2 ?_;exact .inl (.mk0 (h2:=by simp only [qS,seval,keepG.eq_1,keepG.eq_2,gLV.eq_2]<;>simp))
end
def zBd (a b c d:Int):eqCells [PV.i .i64 a,.i .i64 b] [PV.i .i64 c,.i .i64 d]=decide ((c,d)=(a,b)):=by
 simp only [eqCells,eqPV,xbL,xcf];rw [xbG];simp only [xau,decide_eq_true_eq]
 omega
def zb4 (h:zav L=0) (hu:u ∈ zq L):∃ (i:Nat) (a:Wis),L[i]?=some a/\(u=((i:Int),-1)\/∃ (k:Nat) (b:Wis),LnkTo L i k a b/\i < k/\u=((i:Int),(k:Int))):=by
 obtain ⟨i,hi,rfl,hlk⟩:=zdd.1 hu;obtain ⟨a,ha⟩:=zj hi;refine ⟨i,a,ha,?_⟩
 rcases zcH h ha with hk|⟨k,b,hk⟩
 ·left;rw [hk]
 ·right
  have:=hk.lab;exact ⟨k,b,hk,by omega,by rw [this]⟩
def zW (h:R[i]?=some r):za5 R i=r:=by unfold za5;rw [h];rfl
def zsd (l:List Mov):l.all ((λx=>x.cells.all PV.one) ∘ Mov.pv)=true:=by rw [xaO];intro x _;rfl
def ztZ (O:List Opt) (o:Opt):Pure prog 180 [.sl 2 (O.map unP),unP o] (.i .i64 (zdG (λx=>decide (x=o)) O)):=by
 obtain ⟨o1,o2⟩:=o;refine pz func180 f180.eq_1 λhw X hX=>?_
 simp only [wfs,PV.wf,xaf,maxLen] at hw;refine gE2 ?_;refine zh (κ:=Nat) (λi=>⟨[(0,.p (.sl 2 (O.map unP))),(3,.lp 3 0),(7,.p (.i .i64 O.length)),(8,.p (.i .i64 i))],[(3,.box [.p (.i .i64 o1),.p (.i .i64 o2)] false)],[],false⟩) (λi=>i<=O.length/\∀ y ∈ O.take i,(λx=>decide (x=(o1,o2))) y=false) (λi=>O.length - i) 0 ?_ ?_ ?_
 ·exact sS
 ·simp
 ·intro i hi;refine gH (λhc=>?_) λhc=>?_
  ·obtain ⟨y,hy⟩:=zj (i:=i) (l:=O) (by omega)
   obtain ⟨y1,y2⟩:=y;have hq:=zBd o1 o2 y1 y2
   by_cases hh:((y1,y2):Opt)=(o1,o2)
   ·have hh':decide (((y1,y2):Opt)=(o1,o2))=true:=decide_eq_true hh;rw [hh'] at hq;have qe:=aI qR (aI @hy @hq);refine gE2 ?_
    all_goals
     rw [zbe hi.2 hy hh'];exact .refl _
   ·have hh':decide (((y1,y2):Opt)=(o1,o2))=false:=decide_eq_false hh;rw [hh'] at hq;have qe:=aI qR (aI @hy @hq);refine gE2 ?_;exact ⟨i+1,⟨by omega,zd1 hi.2 hy hh'⟩,by omega,by simp⟩
  ·refine gE2 ?_;have e:i=O.length:=by omega
   subst e;rw [zct (λy hy=>hi.2 y (by rw [xas (by simp)];exact hy))];exact .refl _
def zub (hr:R[i]?=some r) (hu:u=((i:Int),-1)\/∃ (k:Nat) (q:Res),R[k]?=some q/\u=((i:Int),(k:Int))):Pure prog 125 [unP u,.sl 3 (R.map Res.pv)] (.tup [unP (grO R u),.b (grB R u)]):=by
 have hil:i < R.length:=(xaa.1 hr).1;have hra:=zW hr;refine pz func125 f125.eq_1 λhw X hX=>?_
 rcases hu with rfl|⟨k,q,hq,rfl⟩
 ·have hg:grO R ((i:Int),-1)=(r.minute,-1):=by unfold grO;rw [xam,hra];rfl
  have hg2:grB R ((i:Int),-1)=r.gr:=by unfold grB;rw [xam,hra]
  have qe:=aI qR (aI @tn1 (aI @tn4 @hr));refine gE2 ?_
  all_goals rw [hg,hg2];exact .refl _
 ·have hkl:k < R.length:=(xaa.1 hq).1;have hrq:=zW hq;have hg:grO R ((i:Int),(k:Int))=(r.minute,q.minute):=by unfold grO;rw [xam,xam,hra,hrq,if_neg (by omega)]
  have hg2:grB R ((i:Int),(k:Int))=r.gr:=by unfold grB;rw [xam,hra]
  have hk0:=eq_true (show (0:Int)<=k by omega)
  have qe:=aI qR (aI @tn1 (aI @tn4 (aI @hr (aI @hq @hk0))));refine gE2 ?_
  all_goals rw [hg,hg2];exact .refl _
theorem zpq {α:Type} {p:α->Bool}:∀ {l:List α},(∃ x ∈ l,p x=true)->l.take (zdG p l).toNat=l.takeWhile (λx=>!p x)
 | [],h=>by obtain ⟨x,hx,_⟩:=h;cases hx
 | y::r,h=>by
  have hs:=zeF (p:=p) (l:=y::r)
  rcases hs with ⟨_,hn⟩|⟨k,x,hk,hx,hp,hb⟩
  ·obtain ⟨x,hx,hp⟩:=h;rw [hn x hx] at hp;cases hp
  ·rw [hk,xam];have hlen:∀ (l:List α) (k:Nat) (x:α),l[k]?=some x->p x=true->(∀ y ∈ l.take k,p y=false)->l.take k=l.takeWhile (λx=>!p x):=by
    intro l
    induction l with
    | nil=>intro k x h;simp at h
    | cons z s ih=>
     intro k x hx hp hb;cases k with
     | zero=>
      simp at hx;subst hx;simp [hp]
     | succ k=>
      have hz:=hb z (by simp)
      rw [xa3,List.takeWhile_cons,hz];simp only [xax,if_true];rw [ih k x (by simpa using hx) hp λy hy=>hb y (by simp [hy])]
   exact hlen _ k x hx hp hb
abbrev ShW (L:List Wis):Prop:=zav L=0->∀ w ∈ L,zg2 w.req.minute w.ear w.lat w.step<=12
def zfx (h:zav L=0) (ha:L[i]?=some a):zfI a=0:=by
 have:=((zR h).2 i a ha).1;unfold zcB at this;exact fE0 this _ (by simp)
def zjO (h:zav L=0) (h12:ShW L) (hu:u ∈ zq L):Pure prog 85 [unP u,.sl 18 (L.map Wis.pv)] (.sl 2 ((zaS L u).map unP)):=by
 obtain ⟨i,a,ha,rfl|⟨k,b,hk,hik,rfl⟩⟩:=zb4 h hu
 ·have e:zaS L ((i:Int),-1)=(zac a).map λm=>((m,-1):Opt):=by unfold zaS;simp only [xam,ha];rfl
  rw [e];exact zqo ha (zfx h ha) (h12 h a (xae ha)) (by omega)
 ·have e:zaS L ((i:Int),(k:Int))=zz (zpd a b) (zdS a b):=by
   unfold zaS;simp only [xam,ha,hk.at_b,show ¬((k:Int) < 0) by omega,if_false]
  rw [e];exact zud ha hk.at_b (zfx h ha) (zfx h hk.at_b) (h12 h a (xae ha)) (h12 h b (xae hk.at_b))
def zh8 (h:zav L=0) (hn:R.length=L.length) (hu:u ∈ zq L):∃ (i:Nat) (r:Res),R[i]?=some r/\(u=((i:Int),-1)\/∃ (k:Nat) (q:Res),R[k]?=some q/\u=((i:Int),(k:Int))):=by
 obtain ⟨i,a,ha,hc⟩:=zb4 h hu;obtain ⟨r,hr⟩:=zj (i:=i) (l:=R) (by have:=(xaa.1 ha).1;omega)
 refine ⟨i,r,hr,?_⟩
 rcases hc with rfl|⟨k,b,hk,hik,rfl⟩
 ·exact .inl rfl
 ·obtain ⟨q,hq⟩:=zj (i:=k) (l:=R) (by have:=(xaa.1 hk.at_b).1;omega)
  exact .inr ⟨k,q,hq,rfl⟩
def zce (h:zav L=0) (hn:R.length=L.length) (hu:u ∈ zq L):Pure prog 125 [unP u,.sl 3 (R.map Res.pv)] (.tup [unP (grO R u),.b (grB R u)]):=by
 obtain ⟨i,r,hr,hc⟩:=zh8 h hn hu;exact zub hr hc
def zfQ (h:zav L=0) (h12:ShW L) (hr:zc8 L R=0) (hu:u ∈ zq L):Pure prog 107 [unP u,.sl 18 (L.map Wis.pv),.sl 3 (R.map Res.pv)] (.sl 2 ((zad L R u).map unP)):=by
 have h85:=zjO h h12 hu;have h25:=zce h (zbZ hr).1 hu;refine pz func107 f107.eq_1 λhw X hX=>?_
 by_cases hg:grB R u=true
 ·have hmem:=zBw h hr hu hg;have h80:=ztZ (zaS L u) (grO R u);have hp:zad L R u=(zaS L u).take (zdG (λx=>decide (x=grO R u)) (zaS L u)).toNat:=by
   unfold zad;rw [if_pos hg,zpq ⟨grO R u,hmem,by simp⟩]
   congr 1
   funext o
   simp
  have hge:0<=zdG (λx=>decide (x=grO R u)) (zaS L u):=by
   have:=zeG (λx=>decide (x=grO R u)) (zaS L u)
   rw [show (zaS L u).any (λx=>decide (x=grO R u))=true from xaV.2 ⟨_,hmem,by simp⟩] at this
   exact of_decide_eq_true this
  have hle:=zrb (λx=>decide (x=grO R u)) (zaS L u)
  rw [hp];generalize zdG (λx=>decide (x=grO R u)) (zaS L u)=n at *
  have hmx:max 0 n=n:=Int.max_eq_right hge;rw [hg] at h25;have qe:=aI qR @hmx;have jA:=h85;have jB:=h25;have jC:=h80;refine gE5 ?_
  all_goals (rw [xbK];exact .refl _)
 ·have hp:zad L R u=zaS L u:=by unfold zad;rw [if_neg hg]
  rw [hp];rw [xbq] at hg;rw [hg] at h25;have qe:=@qR;have jA:=h85;have jB:=h25;exact gD2
def zpa (L:List Wis) (u:Unt) (o:Opt) (k:Nat):List Mov:=((zeX u).take k).flatMap λx=>zfB L x.2.toNat (if x.1=0 then o.1 else o.2)
def zuB (L:List Wis) (u:Unt) (o:Opt):zpa L u o (zeX u).length=zan L u o:=by
 unfold zpa zan zeX;rw [xah]
 by_cases h:u.2 < 0<;>simp [h]
def zis (L:List Wis) (i:Nat) (m:Int):(zfB L i m).length<=401:=by
 unfold zfB;split
 ·exact zbd _
 ·simp
def zuc (ha:L[i]?=some a) (hu:u=((i:Int),-1)\/∃ (k:Nat) (b:Wis),L[k]?=some b/\u=((i:Int),(k:Int))) (o:Opt):Pure prog 86 [unP u,.sl 18 (L.map Wis.pv),unP o] (.sl 7 ((zan L u o).map Mov.pv)):=by
 have hil:i < L.length:=(xaa.1 ha).1;have hu1:u.1=(i:Int):=by rcases hu with rfl|⟨k,b,hb,rfl⟩<;>rfl
 refine pz func86 f86.eq_1 λhw X hX=>?_
 have jA:=zmx u;refine gE2 ?_;refine zaB 400 194 7 [(3,.lp 3 0),(4,.lp 4 0),(5,.lp 5 0),(7,.lp 7 0),(11,.p (.fn (.func 217) [] [.ip (unP u) 0]))] [(3,.box [.p (.i .i64 u.1),.p (.i .i64 u.2)] false),(4,.box [.p (.sl 18 (L.map Wis.pv))] false),(5,.box [.p (.i .i64 o.1),.p (.i .i64 o.2)] false),(7,.box [.row 400 0] false)] ?_ ?_
 ·simp only [Own,za9,za3,zcg,zaT,qS,seval]
 refine zcb rfl (zm1 u (by omega)) ?_ ?_ [(3,.lp 3 0),(4,.lp 4 0),(5,.lp 5 0),(7,.lp 7 0),(11,.p (.fn (.func 217) [] [.ip (unP u) 0]))] (λk=>[(3,.box [.p (.i .i64 u.1),.p (.i .i64 u.2)] false),(4,.box [.p (.sl 18 (L.map Wis.pv))] false),(5,.box [.p (.i .i64 o.1),.p (.i .i64 o.2)] false),(7,.box [.row 400 (zpa L u o k).length] false),(400,.row 194 7 ((zpa L u o k).map Mov.pv) false)]) (λ_=>[]) ?_ ?_ ?_
 ·intro t ht;obtain ⟨x,_,rfl⟩:=xaN.1 ht;rfl
 ·simp [hX]
 ·simp only [zpa,xbb,xbH,xbB,xaF,qS,seval]
 ·intro k t ht X' ro' hX';simp only [xal,xab] at ht;obtain ⟨x,hx,rfl⟩:=ht;have hnx:zpa L u o (k+1)=zpa L u o k++zfB L x.2.toNat (if x.1=0 then o.1 else o.2):=by
   unfold zpa;rw [zE hx,xa8];simp
  rcases (show k=0\/k=1 by
   have h1:=(xaa.1 hx).1;unfold zeX at h1;split at h1<;>simp at h1<;>omega) with rfl|rfl
  ·have ex:x=(0,(i:Int)):=by unfold zeX at hx;simp at hx;rw [<-hx,hu1]
   subst ex;have e2:zpa L u o 0=[]:=by unfold zpa;simp
   have e3:zfB L i o.1=zbF (a.req.at o.1):=by unfold zfB;rw [ha]
   rw [e2] at hnx ⊢;simp only [if_true,xam,xaL,e3] at hnx;have hml:=zbd (a.req.at o.1);simp only [qS,seval];refine gE2 ?_;intro X1 hX1;have qe:=aI qR (aI @zsd (aI @tn1 (aI @tn4 @ha)));have jA:=zco a o.1;refine gE2 ?_;simp [hnx]
  ·rcases hu with rfl|⟨c,b,hb,rfl⟩
   ·unfold zeX at hx;simp at hx
   ·have hcl:c < L.length:=(xaa.1 hb).1;have ex:x=(1,(c:Int)):=by
     unfold zeX at hx;rw [if_neg (by omega)] at hx
     simp at hx;exact hx.symm
    subst ex;have e2:zpa L ((i:Int),(c:Int)) o 1=zbF (a.req.at o.1):=by unfold zpa zeX zfB;simp [ha]
    have e3:zfB L c o.2=zbF (b.req.at o.2):=by unfold zfB;rw [hb]
    rw [e2] at hnx ⊢;simp only [show ¬((1:Nat)=0) by omega,if_false,xam,e3] at hnx
    have hml:=zbd (a.req.at o.1);have hml2:=zbd (b.req.at o.2);simp only [qS,seval];refine gE2 ?_;intro X1 hX1;have qe:=aI qR (aI @zsd (aI @tn1 (aI @tn4 @hb)));have jA:=zco b o.2;refine gE2 ?_;simp [hnx]
 ·simp only [xaf,zuB];exact gD2
def zaR (h:zav L=0) (hu:u ∈ zq L) (o:Opt):Pure prog 86 [unP u,.sl 18 (L.map Wis.pv),unP o] (.sl 7 ((zan L u o).map Mov.pv)):=by
 obtain ⟨i,a,ha,hc⟩:=zb4 h hu;refine zuc ha ?_ o
 rcases hc with rfl|⟨k,b,hk,hik,rfl⟩
 ·exact .inl rfl
 ·exact .inr ⟨k,b,hk.at_b,rfl⟩
def zt6 (w:Wis):Pure prog 154 [w.pv] (Res.pv ⟨w.req.name,0,false⟩):=by
 refine pz func154 f154.eq_1 λhw X hX=>?_
 have qe:=@qR;exact gD2
def zv0 (hn:L.length<=1000000):zbk prog 153 [.p (.sl 18 (L.map Wis.pv)),.p (.fn (.func 154) [] [])] [] (.row 400 L.length) [(400,.row 79 3 ((zbU L).map Res.pv) false)]:=by
 have hrl:(zbU L).length=L.length:=by unfold zbU;rw [xaf]
 refine zD (cF func153 f153.eq_1) (by simp) (by simp [scPs,scP]) (by simp [scObj]) trivial (by simp [scObj,scPs,scP,zm]) trivial λX hX=>?_
 unfold zx ghO;refine gE2 ?_;refine run_ownL 400 79 3 (κ:=Nat) (λk=>⟨[(1,.p (.fn (.func 154) [] [])),(5,.row 400 k),(8,.p (.sl 18 (L.map Wis.pv))),(9,.p (.i .i64 L.length)),(10,.p (.i .i64 k))],[(400,.row 79 3 ((zbU (L.take k)).map Res.pv) false)],[],false⟩) (λk=>k<=L.length) (λk=>L.length - k) 0 ?_ ?_ ?_
 ·refine ⟨gO ?_,gO ?_⟩<;>simp [zbU]
 ·simp
 ·intro k hk;have hkl:(zbU (L.take k)).length=k:=by unfold zbU;simp;omega
  refine gH (λhc=>?_) λhc=>?_
  ·obtain ⟨x,hx⟩:=zj (i:=k) (l:=L) (by omega)
   have hnx:zbU (L.take (k+1))=zbU (L.take k)++[⟨x.req.name,0,false⟩]:=by unfold zbU;rw [zE hx,xa6];rfl
   have qe:=aI qR (aI @hx @hkl);have jA:=zt6 x;refine gE2 ?_;exact ⟨k+1,by omega,by omega,by simp,by simp [hnx]<;>omega⟩
  ·obtain rfl:k=L.length:=by omega
   have qe:=aI qR (aI @qN (aI @hkl (aI @List.take_length.{0} (aI @rtN @rtR))));refine gE2 ?_
   all_goals exact .inl (.mk1)
def znA (hn:L.length<=1000000):zbk prog 81 [.p (.sl 18 (L.map Wis.pv))] [] (.row 400 L.length) [(400,.row 79 3 ((zbU L).map Res.pv) false)]:=by
 have hrl:(zbU L).length=L.length:=by unfold zbU;rw [xaf]
 refine zD (cF func81 f81.eq_1) (by simp) (by simp [scPs,scP]) (by simp [scObj]) trivial (by simp [scObj,scPs,scP,zm]) trivial λX hX=>?_
 unfold zx ghO;have qe:=aI qR (aI @qN (aI @hrl (aI @rtN @rtR)));have jA:SX [] _:=⟨zv0 hn⟩;refine gE2 ?_
 all_goals exact .inl (.mk1)
theorem zea {α β:Type} {f:α->List β} {B:Nat}:∀ {I:List α},(∀ x ∈ I,(f x).length<=B)->(I.flatMap f).length<=I.length*B
 | [],_=>by simp
 | x::I,h=>by
  have h1:=h x (by simp)
  have h2:=zea (f:=f) (B:=B) (I:=I) λy hy=>h y (by simp [hy])
  rw [xat,xad,xaz,xb0];omega
def znn (h:zr l=0) (d:Int):(zN l d).length<=1440:=by
 have h0:=zaa h;have:zkw l<=1440:=by
  unfold zkw;have h1:0<=l.from_:=xbh (by omega) (by omega)
  have h2:l.to / l.step<=l.to:=xbr _ (by omega)
  omega
 unfold zN
 split
 ·unfold zno;rw [xaf,xaU];exact this
 ·exact xbk _
def ziQ (o:Mov) (i:Nat) (l:Lim) (L:List Int):(zfD o i l L).length<=L.length:=by
 unfold zfD;rw [xaf];exact xby _ _
def znt (hl:∀ l ∈ ls,zr l=0) (o:Mov) (i:Nat) (l:Lim) (e:Nat):(zzR ls o i l e).length<=1440:=by
 refine xa0 (ziQ o i l _) ?_;unfold zja;cases hi:ls[i]? with
 | none=>exact xbk _
 | some l'=>
  simp only [];rw [zr4 (hl l' (xae hi))];exact znn (hl l' (xae hi)) _
def zvM (hl:∀ l ∈ ls,zr l=0) (o:Mov) (i:Nat):(zsx ls o i).length<=2880:=by
 unfold zsx
 split
 ·split
  ·exact zea (I:=List.range 2) λe _=>znt hl o i _ e
  ·exact xbk _
 ·exact xbk _
def zns (ls:List Lim) (G:BgM) (o:Mov) (k:Nat):List Ky × BgM:=(List.range k).foldl (zsw ls o) ([],G)
def zpf (ls:List Lim) (o:Mov) (i:Nat) (l:Lim) (st:List Ky × BgM) (e:Nat):List Ky × BgM:=(List.range e).foldl (zwV ls o i l) st
def zvK (hl:∀ l ∈ ls,zr l=0) (hG:GOk ls G) (o:Mov) (k:Nat):(zns ls G o k).1.length<=2880*k:=by
 rw [zns,(zjc (o:=o) (List.range k) ([],G) hG).1,xaL];have:=zea (f:=zsx ls o) (B:=2880) (I:=List.range k) λi _=>zvM hl o i
 rw [xaU] at this;omega
def zvL (hl:∀ l ∈ ls,zr l=0) (o:Mov) (i:Nat) (l:Lim) {st:List Ky × BgM} (hG:GOk ls st.2) (e:Nat):(zpf ls o i l st e).1.length<=st.1.length+1440*e:=by
 rw [zpf,(zjd (o:=o) (i:=i) (l:=l) (List.range e) st hG).1,xad];have:=zea (f:=zzR ls o i l) (B:=1440) (I:=List.range e) λj _=>znt hl o i l j
 rw [xaU] at this;omega
def zfN (l:Lim) (m:Mov):Pure prog 177 [l.pv,m.pv] (.b (zbI l m.kind m.term)):=by
 by_cases h1:l.kind=sT<;>by_cases h2:l.kind=m.kind<;>by_cases h3:l.term=s0
 all_goals
  have h1':=h1;have h2':=h2;have h3':=h3
 all_goals first|replace h1:=eq_true h1|replace h1:=eq_false h1
 all_goals first|replace h2:=eq_true h2|replace h2:=eq_false h2
 all_goals first|replace h3:=eq_true h3|replace h3:=eq_false h3
 all_goals
  refine pz func177 f177.eq_1 λhw X hX=>?_
  have qe:=aI qR (aI @h1 (aI @h2 @h3));refine gE2 ?_;exact zhe (by simp [zbI,h1',h2',h3'])
def zcx (ls:List Lim):zbk prog 82 [.p (.sl 11 (ls.map Lim.pv))] [] (.lp 7 0) [(7,.box [.p (.sl 11 (ls.map Lim.pv)),.lm 4,.lm 5] false),(4,.mp (([]:List (Ky × Int)).map cE) false),(5,.mp (([]:BgM).map gE) false)]:=by
 refine zD (cF func82 f82.eq_1) (by simp) (by simp [scPs,scP]) (by simp [scObj]) trivial (by simp [scObj,scPs,scP,zm]) trivial λX hX=>?_
 unfold zx ghO;have qe:=aI qR (aI @rtN @rtR);refine gE2 ?_
 all_goals exact .inl (.mk1)
def znx (hl:∀ l ∈ ls,zr l=0) (hn:ls.length≤1000) (C:List (Ky × Int)) (hG:GOk ls G) (o:Mov) (hm:0≤o.moment∧o.moment≤1000000000):zbk prog 155 [.lp 900 0,.p o.pv] [(900,.box [.p (.sl 11 (ls.map Lim.pv)),.lm 901,.lm 902] false),(901,.mp (C.map cE) false),(902,.mp (G.map gE) false)] (.p (.sl 2 ((arn ls G o).1.map kyP))) [(900,.box [.p (.sl 11 (ls.map Lim.pv)),.lm 901,.lm 902] false),(901,.mp (C.map cE) false),(902,.mp ((arn ls G o).2.map gE) false)]:=by
 have hq:o.moment.tdiv 1440=o.moment / 1440:=xbp (by omega)
 refine zD (cF func155 f155.eq_1) (by simp) (by simp [scPs,scP,zm]) (by simp [scObj,scPs,scP,zm]) ⟨rfl,rfl,rfl,trivial⟩ (by simp [scObj,scPs,scP,zm]) (by simp [zcQ,zm]) fun X hX=>?_
 unfold zx ghO
 have qe:=aI qR (aI @gLV.eq_1 @gLV.eq_5);refine gE2 ?_
 refine run_ownL 400 171 2 (κ:=Nat) (fun k=>⟨[(0,.lp 900 0),(3,.lp 3 0),(5,.row 400 (zns ls G o k).1.length),(18,.p (.sl 11 (ls.map Lim.pv))),(19,.p (.i .i64 ls.length)),(20,.p (.i .i64 k)),(1000900,.lp 900 0),(1000901,.lm 901),(1000902,.lm 902)],[(900,.box [.p (.sl 11 (ls.map Lim.pv)),.lm 901,.lm 902] false),(901,.mp (C.map cE) false),(902,.mp ((zns ls G o k).2.map gE) false),(3,.box [.p (.i .i64 o.moment),.p (.s o.kind),.p (.s o.term),.p (.i .i64 o.seats),.p (.i .i64 o.size),.p (.i .i64 o.noise),.p (.s o.name)] false),(400,.row 171 2 ((zns ls G o k).1.map kyP) false)],[],false⟩) (fun k=>k≤ls.length) (fun k=>ls.length - k) 0 ?_ ?_ ?_
 ·refine ⟨gO ?_,gO ?_⟩<;>simp [zns]
 ·simp
 ·intro k hk
  have hGk:GOk ls (zns ls G o k).2:=(zjc (o:=o) (List.range k) ([],G) hG).2
  have hkl:=zvK hl hG o k
  refine gH (fun hc=>?_) fun hc=>?_
  ·obtain ⟨l,hx⟩:=zj (i:=k) (l:=ls) (by omega)
   have h1:=hl l (xae hx)
   have h0:=zaa h1
   have hnx:zns ls G o (k+1)=if zbI l o.kind o.term then zpf ls o k l (zns ls G o k) 2 else zns ls G o k:=by
    rw [zns,xbd,xaP]
    show zsw ls o (zns ls G o k) k=_
    unfold zsw;rw [hx];rfl
   generalize zns ls G o k=st at hGk hkl hnx
   by_cases hct:zbI l o.kind o.term=true
   ·rw [if_pos hct] at hnx
    have qe:=aI qR (aI @hx (aI @hq @hct));have jA:=zfN l o;refine gE2 ?_
    refine zh (κ:=Nat) (fun e=>⟨[(0,.lp 900 0),(3,.lp 3 0),(5,.row 400 (zpf ls o k l st e).1.length),(6,.p (.i .i64 k)),(7,.lp 7 0),(18,.p (.sl 11 (ls.map Lim.pv))),(19,.p (.i .i64 ls.length)),(20,.p (.i .i64 k)),(36,.p (.agg [.i .i64 (o.moment / 1440 - 1),.i .i64 (o.moment / 1440)])),(37,.p (.i .i64 e)),(1000900,.lp 900 0),(1000901,.lm 901),(1000902,.lm 902)],[(900,.box [.p (.sl 11 (ls.map Lim.pv)),.lm 901,.lm 902] false),(901,.mp (C.map cE) false),(902,.mp ((zpf ls o k l st e).2.map gE) false),(3,.box [.p (.i .i64 o.moment),.p (.s o.kind),.p (.s o.term),.p (.i .i64 o.seats),.p (.i .i64 o.size),.p (.i .i64 o.noise),.p (.s o.name)] false),(7,.box (l.cells.map .p) false),(400,.row 171 2 ((zpf ls o k l st e).1.map kyP) false)],[],false⟩) (fun e=>e≤2) (fun e=>2 - e) 0 ?_ ?_ ?_
    ·refine gJ ?_;simp [zpf]
    ·simp
    ·intro e he
     have hGe:GOk ls (zpf ls o k l st e).2:=(zjd (o:=o) (i:=k) (l:=l) (List.range e) st hGk).2
     have hel:=zvL hl o k l hGk e
     have hnxe:zpf ls o k l st (e+1)=zwV ls o k l (zpf ls o k l st e) e:=by rw [zpf,xbd,xaP];rfl
     generalize hse:zpf ls o k l st e=se at hGe hel hnxe
     refine gH (fun hc=>?_) fun hc=>?_
     ·have hid:([.i .i64 (o.moment / 1440 - 1),.i .i64 (o.moment / 1440)]:List PV)[e]?=some (.i .i64 (o.moment / 1440 - 1+e)):=by
       rcases (show e=0∨e=1 by omega) with rfl|rfl<;>simp
      have hB:=(zr6 hGe (k,o.moment / 1440 - 1+e)).1
      rw [zeS hx h1] at hB
      have hBl:=znn h1 (o.moment / 1440 - 1+e)
      unfold zwV at hnxe
      have hgg:=zBz k (o.moment / 1440 - 1+e) se.2
      have hgk:=eq_true (zwz k (o.moment / 1440 - 1+e) se.2)
      cases hkg:ziL (k,o.moment / 1440 - 1+(e:Int)) se.2 with
      | some L'=>
       have hbg:zvH ls se.2 (k,o.moment / 1440 - 1+e)=(L',se.2):=by unfold zvH;rw [hkg]
       rw [hbg] at hB hnxe
       simp only at hB hnxe
       rw [hkg] at hgg
       have qe:=aI qR (aI @hid (aI @Nat.mul_one (aI @hgg @hgk)));have jA:=fun u1=>zwq l u1;refine gE2 ?_
       refine zh (κ:=Nat) (fun j=>⟨[(0,.lp 900 0),(3,.lp 3 0),(5,.row 400 (se.1++zfD o k l (L'.take j)).length),(6,.p (.i .i64 k)),(7,.lp 7 0),(18,.p (.sl 11 (ls.map Lim.pv))),(19,.p (.i .i64 ls.length)),(20,.p (.i .i64 k)),(36,.p (.agg [.i .i64 (o.moment / 1440 - 1),.i .i64 (o.moment / 1440)])),(37,.p (.i .i64 e)),(66,.p (.sl 1 (L'.map (.i .i64)))),(67,.p (.i .i64 L'.length)),(68,.p (.i .i64 j)),(1000900,.lp 900 0),(1000901,.lm 901),(1000902,.lm 902)],[(900,.box [.p (.sl 11 (ls.map Lim.pv)),.lm 901,.lm 902] false),(901,.mp (C.map cE) false),(902,.mp (se.2.map gE) false),(3,.box [.p (.i .i64 o.moment),.p (.s o.kind),.p (.s o.term),.p (.i .i64 o.seats),.p (.i .i64 o.size),.p (.i .i64 o.noise),.p (.s o.name)] false),(7,.box (l.cells.map .p) false),(400,.row 171 2 ((se.1++zfD o k l (L'.take j)).map kyP) false)],[],false⟩) (fun j=>j≤L'.length) (fun j=>L'.length - j) 0 ?_ ?_ ?_
       ·refine gJ ?_;simp [zfD]
       ·simp
       ·intro j hj
        have hil:=ziQ o k l (L'.take j)
        have hLl:L'.length≤1440:=by rw [hB];exact hBl
        rw [xan] at hil
        have hal:(se.1++zfD o k l (L'.take j)).length≤10000000:=by rw [xad];omega
        refine gH (fun hc=>?_) fun hc=>?_
        ·obtain ⟨b,hb⟩:=zj (i:=j) (l:=L') (by omega)
         have hbm:=zaX h1 (show b ∈ zN l (o.moment / 1440 - 1+e) by rw [←hB];exact xae hb)
         have hpp:=zaI h0.2.2.2.2.2.2.2.1
         have hnxj:zfD o k l (L'.take (j+1))=zfD o k l (L'.take j)++if b≤o.moment∧o.moment < b+l.len then [(k,b)] else []:=by
          unfold zfD
          rw [zE hb,xbe,xa6,xa2,List.filter_nil]
          by_cases hin:b≤o.moment∧o.moment < b+l.len
          ·rw [if_pos hin,if_pos (by simp [hin])];rfl
          ·rw [if_neg hin,if_neg (by simpa using hin)];rfl
         by_cases hin:b≤o.moment∧o.moment < b+l.len
         ·have hb1:=eq_true hin.1
          have hb2:=eq_true hin.2
          rw [if_pos hin] at hnxj
          have hll:(se.1++zfD o k l (L'.take (j+1))).length=(se.1++zfD o k l (L'.take j)).length+1:=by rw [hnxj];simp;omega
          have qe:=aI qR (aI @hb (aI @hb1 @hb2));refine gE2 ?_
          exact ⟨j+1,by omega,by omega,by simp [hnxj]<;>omega⟩
         ·rw [if_neg hin,xar] at hnxj
          by_cases h3:b≤o.moment
          ·have hb1:=eq_true h3
           have hb2:=eq_false (show ¬o.moment < b+l.len by omega)
           have qe:=aI qR (aI @hb (aI @hb1 @hb2));refine gE2 ?_
           exact ⟨j+1,by omega,by omega,by simp [hnxj]<;>omega⟩
          ·have hb1:=eq_false h3
           have qe:=aI qR (aI @hb @hb1);refine gE2 ?_
           exact ⟨j+1,by omega,by omega,by simp [hnxj]<;>omega⟩
        ·refine gE2 ?_
         have ej:j=L'.length:=by omega
         subst ej
         rw [xah]
         exact ⟨e+1,by omega,by omega,by simp [hnxe]⟩
      | none=>
       have hbg:zvH ls se.2 (k,o.moment / 1440 - 1+e)=(zr5 l (o.moment / 1440 - 1+e),zjk (k,o.moment / 1440 - 1+(e:Int)) (zr5 l (o.moment / 1440 - 1+e)) se.2):=by
        unfold zvH;rw [hkg];simp only [zja,hx]
       rw [hbg] at hB hnxe
       simp only at hB hnxe
       rw [hkg] at hgg
       have hgp:=zBy k (o.moment / 1440 - 1+e) (zr5 l (o.moment / 1440 - 1+e)) se.2
       have qe:=aI qR (aI @hid (aI @Nat.mul_one (aI @hgg (aI @hgk @hgp))));have jA:=fun u1=>zwq l u1;refine gE2 ?_
       generalize zr5 l (o.moment / 1440 - 1+e)=L' at hB hnxe
       refine zh (κ:=Nat) (fun j=>⟨[(0,.lp 900 0),(3,.lp 3 0),(5,.row 400 (se.1++zfD o k l (L'.take j)).length),(6,.p (.i .i64 k)),(7,.lp 7 0),(18,.p (.sl 11 (ls.map Lim.pv))),(19,.p (.i .i64 ls.length)),(20,.p (.i .i64 k)),(36,.p (.agg [.i .i64 (o.moment / 1440 - 1),.i .i64 (o.moment / 1440)])),(37,.p (.i .i64 e)),(66,.p (.sl 1 (L'.map (.i .i64)))),(67,.p (.i .i64 L'.length)),(68,.p (.i .i64 j)),(1000900,.lp 900 0),(1000901,.lm 901),(1000902,.lm 902)],[(900,.box [.p (.sl 11 (ls.map Lim.pv)),.lm 901,.lm 902] false),(901,.mp (C.map cE) false),(902,.mp ((zjk (k,o.moment / 1440 - 1+(e:Int)) L' se.2).map gE) false),(3,.box [.p (.i .i64 o.moment),.p (.s o.kind),.p (.s o.term),.p (.i .i64 o.seats),.p (.i .i64 o.size),.p (.i .i64 o.noise),.p (.s o.name)] false),(7,.box (l.cells.map .p) false),(400,.row 171 2 ((se.1++zfD o k l (L'.take j)).map kyP) false)],[],false⟩) (fun j=>j≤L'.length) (fun j=>L'.length - j) 0 ?_ ?_ ?_
       ·refine gJ ?_;simp [zfD]
       ·simp
       ·intro j hj
        have hil:=ziQ o k l (L'.take j)
        have hLl:L'.length≤1440:=by rw [hB];exact hBl
        rw [xan] at hil
        have hal:(se.1++zfD o k l (L'.take j)).length≤10000000:=by rw [xad];omega
        refine gH (fun hc=>?_) fun hc=>?_
        ·obtain ⟨b,hb⟩:=zj (i:=j) (l:=L') (by omega)
         have hbm:=zaX h1 (show b ∈ zN l (o.moment / 1440 - 1+e) by rw [←hB];exact xae hb)
         have hpp:=zaI h0.2.2.2.2.2.2.2.1
         have hnxj:zfD o k l (L'.take (j+1))=zfD o k l (L'.take j)++if b≤o.moment∧o.moment < b+l.len then [(k,b)] else []:=by
          unfold zfD
          rw [zE hb,xbe,xa6,xa2,List.filter_nil]
          by_cases hin:b≤o.moment∧o.moment < b+l.len
          ·rw [if_pos hin,if_pos (by simp [hin])];rfl
          ·rw [if_neg hin,if_neg (by simpa using hin)];rfl
         by_cases hin:b≤o.moment∧o.moment < b+l.len
         ·have hb1:=eq_true hin.1
          have hb2:=eq_true hin.2
          rw [if_pos hin] at hnxj
          have hll:(se.1++zfD o k l (L'.take (j+1))).length=(se.1++zfD o k l (L'.take j)).length+1:=by rw [hnxj];simp;omega
          have qe:=aI qR (aI @hb (aI @hb1 @hb2));refine gE2 ?_
          exact ⟨j+1,by omega,by omega,by simp [hnxj]<;>omega⟩
         ·rw [if_neg hin,xar] at hnxj
          by_cases h3:b≤o.moment
          ·have hb1:=eq_true h3
           have hb2:=eq_false (show ¬o.moment < b+l.len by omega)
           have qe:=aI qR (aI @hb (aI @hb1 @hb2));refine gE2 ?_
           exact ⟨j+1,by omega,by omega,by simp [hnxj]<;>omega⟩
          ·have hb1:=eq_false h3
           have qe:=aI qR (aI @hb @hb1);refine gE2 ?_
           exact ⟨j+1,by omega,by omega,by simp [hnxj]<;>omega⟩
        ·refine gE2 ?_
         have ej:j=L'.length:=by omega
         subst ej
         rw [xah]
         exact ⟨e+1,by omega,by omega,by simp [hnxe]⟩
     ·refine gE2 ?_
      have ee:e=2:=by omega
      subst ee
      exact ⟨k+1,by omega,by omega,by simp [hnx,hse],by simp [hnx,hse]⟩
   ·rw [if_neg hct] at hnx
    rw [xbq] at hct
    have qe:=aI qR (aI @hx @hct);have jA:=zfN l o;refine gE2 ?_
    exact ⟨k+1,by omega,by omega,by simp [hnx],by simp [hnx]⟩
  ·have e:k=ls.length:=by omega
   subst e
   have hE:zns ls G o ls.length=arn ls G o:=rfl
   rw [hE]
   have qe:=aI qR (aI @rtN @rtR);refine gE2 ?_
   all_goals exact .inl (.mkP (h2:=by simp only [qS,Nat.reduceAdd,Nat.reduceMul,Nat.reduceEqDiff,Nat.reduceLeDiff,reduceIte,reduceCtorEq,Nat.reduceBEq,Nat.reduceLT,keepG.eq_1,keepG.eq_2,gLV.eq_1,gLV.eq_2,gLV.eq_5]<;>simp))
structure SEq (s t:St):Prop where
 g:∀ k,s.get k=t.get k
 l:∀ k,s.look k=t.look k
def zjA {G:Cfg} {Q:zam} {l:List RO} (hm:G.P.follows .mixedOrders=true) (S:(Nat→Bool)→St) (htr:∀ D,(S D).tr=s.tr∧(S D).stop=s.stop) (h0:SEq s (S fun _=>false))
  (hlt:∀ (j:Nat) (o:RO),l[j]?=some o→∀ e ∈ o.after,e < j)
  (hstep:∀ (D:Nat→Bool),(∀ (j:Nat) (o:RO),l[j]?=some o→D j=true→∀ e ∈ o.after,D e=true)→∀ (i:Nat) (o:RO),l[i]?=some o→D i=false→(∀ e ∈ o.after,D e=true)→∃ v wr,zbW G.P (S D) o v wr∧SEq (((S D).wrs wr).set o.dst v) (S fun j=>decide (j=i) || D j))
  (hQ:Q .normal (S fun j=>decide (j < l.length))):Run G (.ops true l) s Q:=by
 intro hG code hc C a w hr
 cases code<;>simp only [zI,xab] at hc
 case region id ops draw=>
  obtain ⟨l',h1,hc⟩:=hc
  injection hc with e1 e2;subst e1;subst e2
  have hb:Below w.heap.size w { w with drawn:=w.drawn+1 }:=⟨rfl,rfl,rfl,xap _,fun _ _=>rfl⟩
  have hr1:=hr.grow hb C.B (fun _ h=>h) (fun b hb=>.inl hb)
  refine wpIn_region_any hm ?_
  obtain ⟨hcl,hcg⟩:=zcj h1
  have hn:l'.length=ops.size:=by rw [←hcl];simp
  have key:∀ (fuel:Nat) (listed:Array Bool) (C:Ctx) (a:Act) (w:World),listed.size=ops.size→ziG listed ops.size≤fuel→(∀ j o,l'[j]?=some o→listed.getD j false=true→∀ e ∈ o.after,listed.getD e false=true)→RelC G.X C (S fun j=>listed.getD j false).get (S fun j=>listed.getD j false).look s.tr s.stop a w→wpAnyIn (za4 G.ro) 0 G.P .any ops (QQ G Q) fuel listed a w:=by
   intro fuel
   induction fuel with
   | zero=>
    intro listed C a w hs hle hdn hrel
    have hall:∀ i,i < ops.size→listed.getD i false=true:=zgF (Nat.le_zero.1 hle)
    have hno:Region.ready .any ops listed=[]:=xb2.2 fun i hi=>by
     obtain ⟨oper,h1,h2,_⟩:=zbo.1 hi
     have hlt:=(xaR.1 h1).1
     have:=hall i hlt
     rw [xag,xai (by omega)] at this h2
     simp only [xa7] at this h2
     rw [this] at h2;cases h2
    have e:(fun j=>listed.getD j false)=fun j=>decide (j < l'.length):=by
     funext j
     by_cases hj:j < ops.size
     ·rw [hall j hj];simp;omega
     ·rw [xag,xbW (by omega)];simp;omega
    refine ⟨hno,S (fun j=>listed.getD j false),C,?_,?_⟩
    ·rw [(htr _).1,(htr _).2];exact hrel
    ·rw [e];exact hQ
   | succ fuel ih=>
    intro listed C a w hs hle hdn hrel
    refine ⟨fun hno=>?_,fun i hi=>?_⟩
    ·have hall:∀ i,i < ops.size→listed.getD i false=true:=by
      intro i
      induction i using Nat.strongRecOn with
      | _ i ihi=>
       intro hi
       refine xbC fun hne=>?_
       have hoper:=xai hi
       obtain ⟨o',hLo,hcx⟩:=hcg i _ (by rw [Array.getElem?_toList];exact hoper)
       have hmem:i ∈ Region.ready .any ops listed:=zbo.2 ⟨_,hoper,by
        rw [xbq,xag] at hne
        rw [xag]
        rw [xai (by omega)] at hne ⊢
        exact hne,(zdO (zas hcx) (listed:=fun e=>listed.getD e false)).2 fun e he=>ihi e (hlt i o' hLo e he) (by have:=hlt i o' hLo e he;omega)⟩
       rw [hno] at hmem;cases hmem
     have e:(fun j=>listed.getD j false)=fun j=>decide (j < l'.length):=by
      funext j
      by_cases hj:j < ops.size
      ·rw [hall j hj];simp;omega
      ·rw [xag,xbW (by omega)];simp;omega
     refine ⟨S (fun j=>listed.getD j false),C,?_,?_⟩
     ·rw [(htr _).1,(htr _).2];exact hrel
     ·rw [e];exact hQ
    ·obtain ⟨oper,g1,g2,g3⟩:=zbo.1 hi
     have hilt:=(xaR.1 g1).1
     have hun:listed.getD i false=false:=by
      rw [xag,xai (by omega)] at g2 ⊢
      exact g2
     obtain ⟨o',hLo,hcx⟩:=hcg i oper (by simpa using g1)
     have haf:=(zdO (zas hcx) (listed:=fun e=>listed.getD e false)).1 g3
     unfold wpOpIn
     rw [g1]
     obtain ⟨v,wr,hsem,heq⟩:=hstep (fun j=>listed.getD j false) hdn i o' hLo hun haf
     have hset:(fun j=>(listed.setIfInBounds i true).getD j false)=fun j=>decide (j=i) || listed.getD j false:=by
      funext j
      rw [zf1 (by omega)]
      by_cases e:j=i
      ·subst e;simp
      ·rw [if_neg e];simp [e]
     refine zcX hsem hcx rfl hG.mok hrel fun C' a' w' h'=>ih (listed.setIfInBounds i true) C' a' w' (by simpa using hs) (by have:=ziF (listed:=listed) hilt hs hun;omega) (fun j o hj hl e he=>?_) ?_
     ·rw [zf1 (by omega)] at hl ⊢
      by_cases e1:e=i
      ·rw [if_pos e1]
      ·rw [if_neg e1]
       by_cases e2:j=i
       ·subst e2
        rw [hLo] at hj;injection hj with hj;subst hj
        exact haf e he
       ·rw [if_neg e2] at hl
        exact hdn j o hj hl e he
     ·rw [hset]
      have e1:(((S fun j=>listed.getD j false).wrs wr).set o'.dst v).get=(S fun j=>decide (j=i) || listed.getD j false).get:=funext heq.g
      have e2:(((S fun j=>listed.getD j false).wrs wr).set o'.dst v).look=(S fun j=>decide (j=i) || listed.getD j false).look:=funext heq.l
      rw [e1,e2] at h'
      exact h'
  refine key ops.size _ C a _ (by simp) (xa0 List.countP_le_length (by simp)) (fun j o _ hl=>?_) ?_
  ·exfalso
   rw [xag] at hl
   by_cases e:j < ops.size
   ·rw [xai (by simpa using e)] at hl;simp at hl
   ·rw [xbW (by simpa using e)] at hl;simp at hl
  ·have e:(fun j=>(Array.replicate ops.size false).getD j false)=fun _=>false:=by
    funext j
    rw [xag]
    by_cases e:j < ops.size
    ·rw [xai (by simpa using e)];simp
    ·rw [xbW (by simpa using e)];simp
   rw [e]
   have e1:s.get=(S fun _=>false).get:=funext h0.g
   have e2:s.look=(S fun _=>false).look:=funext h0.l
   rw [e1,e2] at hr1
   exact hr1
 all_goals first|(cases hc;done)|(obtain ⟨_,_,hc⟩:=hc;cases hc;done)|(split at hc<;>cases hc;done)
def zgb (ls:List Lim):Prop:=∀ W:List Ky,W.Nodup->(∀ k ∈ W,zlB ls k)->W.length<=900000
def zrQ (C:List (Ky × Int)) (i:Nat) (x:Int):(mget (.agg [.i .i64 (i:Int),.i .i64 x]) (C.map cE)).getD (.i .i64 0)=.i .i64 (zbh C (i,x)):=by
 rw [zCo];unfold zbh;cases ziL (i,x) C<;>rfl
def zzy (C:List (Ky × Int)) (i:Nat) (x t:Int) (u:PV):mat (zfa (.agg [.i .i64 (i:Int),.i .i64 x]) (C.map cE)) (.i .i64 (zbh C (i,x)+t)) (mput (.agg [.i .i64 (i:Int),.i .i64 x]) u (C.map cE))=(zf8 t C (i,x)).map cE:=by
 rw [zmU _ _ _ (zyA i x),zzH];rfl
def zyq {α:Type} {W:List α} (h:W.Nodup) (k:Nat):(W.take k).Nodup:=h.sublist (List.take_sublist k W)
def zl6 (hl:∀ l ∈ ls,zr l=0) (hG:GOk ls G) (o:Mov):(arn ls G o).1.Nodup/\∀ k ∈ (arn ls G o).1,zlB ls k:=by
 rw [(znr hG o).1];exact ⟨zkx hl o,λk hk=>by obtain ⟨l,h1,h2,_⟩:=(zg6 hl).1 hk;exact ⟨l,h1,h2⟩⟩
def zzz (hw:zgb ls) (t:Int) {W:List Ky} (h1:(C.map (·.1)).Nodup) (h2:∀ e ∈ C,zlB ls e.1) (h3:∀ k ∈ W,zlB ls k) (k:Nat):((W.take k).foldl (zf8 t) C).length<=900000:=by
 obtain ⟨a,b⟩:=zl8 t (P:=zlB ls) (W.take k) C h1 h2 λk hk=>h3 k (xbu hk)
 have:=hw _ a λk hk=>by obtain ⟨e,he,rfl⟩:=xaN.1 hk;exact b e he
 rwa [xaf] at this
def zhw {P:Program} {o:RO} {T:St->Prop} (h:zF false (λl s' _=>l=[]/\T s') [o] s []):∃ v wr,zbW P s o v wr/\T ((s.wrs wr).set o.dst v):=by
 unfold zF at h;have key:(match zd2 s o with|some (pre,v,wr)=>pre/\zF false (λl s' _=>l=[]/\T s') [] ((s.wrs wr.toList).set o.dst v) (zT false [] s o wr.toList)|none=>False)->∃ v wr,zbW P s o v wr/\T ((s.wrs wr).set o.dst v):=λh=>by
  split at h
  ·rename_i pre v wr he;exact ⟨v,wr.toList,zgh he h.1,h.2.2⟩
  ·exact h.elim
 split at h
 ·exact absurd h.1 (by simp)
 ·exact absurd h.1 (by simp)
 ·exact absurd h.1 (by simp)
 ·exact absurd h.1 (by simp)
 ·exact key h
def zhQ:List RO:=[⟨(some 16),.mv,[.t 0],none,[]⟩,
        ⟨(some 17),.nilchk,[.t 16],none,[0]⟩,
        ⟨(some 18),.fadr 1,[.t 17],none,[1]⟩,
        ⟨(some 19),.load 1 false,[.t 18],none,[2]⟩,
        ⟨(some 20),.load 2 true,[.t 7],none,[]⟩,
        ⟨(some 21),.lkup [1,1] true (.i .i64 0) false,[.t 19,.t 20],none,[3,4]⟩,
        ⟨(some 22),.mv,[.t 2],none,[]⟩,
        ⟨(some 23),.bin .add,[.t 21,.t 22],none,[5,6]⟩,
        ⟨(some 24),.ment [1,1] true (.i .i64 0),[.t 19,.t 20],none,[3,4,0,1,2,3,4,6]⟩,
        ⟨(some 25),.ext 1,[.t 24],none,[8]⟩,
        ⟨none,.mest,[.t 19,.t 25,.t 23],none,[3,9,7,8,0,1,2,3,4,5,6,7,8,9]⟩]
def zz0 (q:LV) (C:List (Ky × Int)) (g b:LObj) (i:Nat) (x t:Int) (E:List (Nat × LV)) (D:Nat->Bool):St:=
 ⟨(16,if D 0=true then .lp 900 0 else zS E 16)::(17,if D 1=true then .lp 900 0 else zS E 17)::(18,if D 2=true then .lp 900 1 else zS E 18)::(19,if D 3=true then .lm 901 else zS E 19)::(20,if D 4=true then .p (.agg [.i .i64 (i:Int),.i .i64 x]) else zS E 20)::(21,if D 5=true then .p (.i .i64 (zbh C (i,x))) else zS E 21)::(22,if D 6=true then .p (.i .i64 t) else zS E 22)::(23,if D 7=true then .p (.i .i64 (zbh C (i,x)+t)) else zS E 23)::(24,if D 8=true then .p (.tup [.i .i64 (zbh C (i,x)),.i .i64 (zfa (.agg [.i .i64 (i:Int),.i .i64 x]) (C.map cE))]) else zS E 24)::(25,if D 9=true then .p (.i .i64 (zfa (.agg [.i .i64 (i:Int),.i .i64 x]) (C.map cE))) else zS E 25)::E,
  [(900,.box [q,.lm 901,.lm 902] false),(901,.mp ((if D 10=true then zf8 t C (i,x) else if D 8=true then zf8 0 C (i,x) else C).map cE) false),(902,g),(4,b),(7,.box [.p (.i .i64 (i:Int)),.p (.i .i64 x)] false)],[],false⟩
def zi4 (C:List (Ky × Int)) (i:Nat) (x:Int):mput (.agg [.i .i64 (i:Int),.i .i64 x]) (.i .i64 (zbh C (i,x))) (C.map cE)=(zf8 0 C (i,x)).map cE:=by rw [zzH,zf8,Int.add_zero]
def cnt_0 (C:List (Ky × Int)) (k:Ky):zbh (zf8 0 C k) k=zbh C k:=by rw [znh,if_pos rfl,Int.add_zero]
def zvz (C:List (Ky × Int)) (i:Nat) (x t:Int):mat (zfa (.agg [.i .i64 (i:Int),.i .i64 x]) (C.map cE)) (.i .i64 (zbh C (i,x)+t)) ((zf8 0 C (i,x)).map cE)=(zf8 t C (i,x)).map cE:=by rw [<-zi4,zzy]
def zCe (C:List (Ky × Int)) (i:Nat) (x:Int):zfa (.agg [.i .i64 (i:Int),.i .i64 x]) (C.map cE) < (zf8 0 C (i,x)).length:=by
 have:=zlt (.agg [.i .i64 (i:Int),.i .i64 x]) (.i .i64 (zbh C (i,x))) (C.map cE)
 rwa [zi4,xaf] at this
def zxB {X:Fx} {Q:zam} {q:LV} {g b:LObj} {x:Int} {E:List (Nat × LV)} (h0:zS E 0=.lp 900 0) (h2:zS E 2=.p (.i .i64 t)) (h7:zS E 7=.lp 7 0) (hl:C.length<=1000000) (hb:-1000000000000<=zbh C (i,x)+t/\zbh C (i,x)+t<=1000000000000)
  (hQ:Q .normal (zz0 q C g b i x t E λ_=>true)):Run ⟨prog,X,none,[]⟩ (.ops true zhQ) ⟨E,[(900,.box [q,.lm 901,.lm 902] false),(901,.mp (C.map cE) false),(902,g),(4,b),(7,.box [.p (.i .i64 (i:Int)),.p (.i .i64 x)] false)],[],false⟩ Q:=by
 have hkk:∀ C':List (Ky × Int),keysOk [1,1] true (.agg [.i .i64 (i:Int),.i .i64 x]) (C'.map cE)=True:=λC'=>eq_true (zr1 i x C')
 have hget:∀ C':List (Ky × Int),(mget (.agg [.i .i64 (i:Int),.i .i64 x]) (C'.map cE)).getD (.i .i64 0)=.i .i64 (zbh C' (i,x)):=λC'=>zrQ C' i x
 have hci:∀ b:Bool,zbh (if b=true then zf8 0 C (i,x) else C) (i,x)=zbh C (i,x):=λb=>by cases b<;>simp [cnt_0]
 have hp0:=zi4 C i x;have hmt:=zvz C i x t;have hlt:=eq_true (zCe C i x);have hwr:IntKind.i64.wrap (zbh C (i,x)+t)=zbh C (i,x)+t:=zjo (by omega) (by omega)
 refine zjA Mx.h (zz0 q C g b i x t E) (λD=>⟨rfl,rfl⟩) ⟨λk=>?_,λk=>rfl⟩ ?_ ?_ ?_
 ·simp only [St.get,zz0,zS,xaD,if_false]
  repeat' split
  all_goals first|rfl|(subst_vars;rfl)
 ·intro j o hj e he
  match j,hj with
  | 0,hj|1,hj|2,hj|3,hj|4,hj|5,hj|6,hj|7,hj|8,hj|9,hj|10,hj=>simp only [zhQ,xbj,xbJ,xaK] at hj;subst hj;simp at he<;>omega
  | j+11,hj=>simp [zhQ] at hj
 ·intro D hdn i' o hj hi haf;refine zhw (T:=λs'=>SEq s' (zz0 q C g b i x t E λj=>decide (j=i') || D j)) ?_
  have h10:∀ e,e < 10->D e=false->D 10=false:=λe he h=>by
   cases hd:D 10 with
   | false=>rfl
   | true=>
    have:=hdn 10 _ rfl hd e (by simp;omega)
    rw [this] at h;cases h
  match i',hj with
  | 0,hj|1,hj|2,hj|3,hj|4,hj|5,hj|6,hj|7,hj|8,hj|9,hj|10,hj=>
   simp only [zhQ,xbj,xbJ,xaK] at hj;subst hj;simp only [xaI,List.not_mem_nil,or_false,forall_eq_or_imp,forall_eq,false_implies,implies_true] at haf
   first|(have h10':=h10 _ (by omega) hi)|(have h10':=hi)
   unfold zz0;simp only [haf,hi,h10',h0,h2,h7,hwr,hkk,hget,hci,hp0,hmt,hlt,qS,seval,qR]
   try refine ⟨by omega,?_⟩
   refine ⟨λk=>?_,λk=>?_⟩
   ·simp only [St.get,zS]
    by_cases hk:16<=k/\k<=25
    ·rcases (show k=16\/k=17\/k=18\/k=19\/k=20\/k=21\/k=22\/k=23\/k=24\/k=25 by omega) with rfl|rfl|rfl|rfl|rfl|rfl|rfl|rfl|rfl|rfl<;>simp [haf,hi]
    ·simp [show k≠16 by omega,show k≠17 by omega,show k≠18 by omega,show k≠19 by omega,show k≠20 by omega,show k≠21 by omega,show k≠22 by omega,show k≠23 by omega,show k≠24 by omega,show k≠25 by omega]
   ·simp [St.look,zm,haf,hi,h10']
  | j+11,hj=>simp [zhQ] at hj
 ·exact hQ
def zeT (hl:∀ l ∈ ls,zr l=0) (hn:ls.length<=1000) (hw:zgb ls) {b:Brd} (hb:zhX ls b) (hc6:∀ k,-1000000000<=zbh b.C k/\zbh b.C k<=1000000000) (o:Mov) (hm:0<=o.moment/\o.moment<=1000000000) (ht:-1<=t/\t<=1):zbk prog 121 [.lp 900 0,.p o.pv,.p (.i .i64 t)] [(900,.box [.p (.sl 11 (ls.map Lim.pv)),.lm 901,.lm 902] false),(901,.mp (b.C.map cE) false),(902,.mp (b.G.map gE) false)] (.p (.tup [])) [(900,.box [.p (.sl 11 (ls.map Lim.pv)),.lm 901,.lm 902] false),(901,.mp ((zpg ls b o t).C.map cE) false),(902,.mp ((zpg ls b o t).G.map gE) false)]:=by
 obtain ⟨hWn,hWw⟩:=zl6 hl hb.1 o;have hWl:=hw _ hWn hWw;have h55:=znx hl hn b.C hb.1 o hm;have hfew:=zzz hw t hb.2 hb.3 hWw;have hcnt:∀ (k:Nat) (j:Ky),zbh (((arn ls b.G o).1.take k).foldl (zf8 t) b.C) j=zbh b.C j+if j ∈ (arn ls b.G o).1.take k then t else 0:=λk j=>zi6 t j _ b.C (zyq hWn k)
 have hres:(zpg ls b o t).C=(arn ls b.G o).1.foldl (zf8 t) b.C:=rfl;have hres2:(zpg ls b o t).G=(arn ls b.G o).2:=rfl;rw [hres,hres2];generalize (arn ls b.G o).2=G' at *;generalize (arn ls b.G o).1=W at *;refine zD (cF func121 f121.eq_1) (by simp) (by simp [scPs,scP,zm]) (by simp [scObj,scPs,scP,zm]) ⟨rfl,rfl,rfl,trivial⟩ (by simp [scObj,scPs,scP,zm]) (by simp [zcQ,zm]) λX hX=>?_
 unfold zx ghO;have qe:=aI qR (aI @qN (aI @gLV.eq_1 @gLV.eq_5));have jA:SX [] _:=⟨h55⟩;refine gE2 ?_;refine zh (κ:=Nat) (λk=>⟨[(0,.lp 900 0),(2,.p (.i .i64 t)),(10,.p (.sl 2 (W.map kyP))),(11,.p (.i .i64 W.length)),(12,.p (.i .i64 k)),(1000900,.lp 900 0),(1000901,.lm 901),(1000902,.lm 902)],[(900,.box [.p (.sl 11 (ls.map Lim.pv)),.lm 901,.lm 902] false),(901,.mp (((W.take k).foldl (zf8 t) b.C).map cE) false),(902,.mp (G'.map gE) false),(4,.box [.p (.i .i64 o.moment),.p (.s o.kind),.p (.s o.term),.p (.i .i64 o.seats),.p (.i .i64 o.size),.p (.i .i64 o.noise),.p (.s o.name)] false)],[],false⟩) (λk=>k<=W.length) (λk=>W.length - k) 0 ?_ ?_ ?_
 ·exact sS
 ·simp
 ·intro k hk;have hfk:=hfew k;have hck:=hcnt k;have hnx:∀ x,W[k]?=some x->(W.take (k+1)).foldl (zf8 t) b.C=zf8 t ((W.take k).foldl (zf8 t) b.C) x:=λx hx=>by rw [zE hx,xaP];rfl
  generalize hD:(W.take k).foldl (zf8 t) b.C=D at *;refine gH (λhc=>?_) λhc=>?_
  ·obtain ⟨w,hx⟩:=zj (i:=k) (l:=W) (by omega)
   have hnw:=hnx w hx;obtain ⟨i,x⟩:=w;have hcw:=hck (i,x);have hcb:=hc6 (i,x);have hrg:-1000000001<=zbh D (i,x)/\zbh D (i,x)<=1000000001:=by split at hcw<;>omega
   refine zen ?_;refine (show Run _ (.seq (.block _ (.seq _ _)) _) _ _ from zbC (zdi (zbC (zar (zw ?_)))))
   simp only [hx,qS,seval,qR,qN];refine ⟨by omega,?_⟩
   show Run _ (.ops true zhQ) _ _;refine zxB (C:=D) (i:=i) (x:=x) (t:=t) ?_ ?_ ?_ (by omega) (by omega) ?_
   ·rfl
   ·rfl
   ·rfl
   unfold zz0;have qe:=aI qR @qN;refine gE2 ?_;exact ⟨k+1,by omega,by omega,by simp,by simp [hnw]⟩
  ·have e:k=W.length:=by omega
   subst e;rw [xah] at hD;rw [hD];have qe:=aI qR (aI @rtN @rtR);refine gE2 ?_
   all_goals exact .inl (.mk0 (h2:=by simp only [qS,seval,keepG.eq_1,keepG.eq_2,gLV.eq_1,gLV.eq_2,gLV.eq_5]<;>simp))
theorem zmL {α β:Type} (f:α->β):∀ (L:List β) (E:List α),L.Perm (E.map f)->∃ E':List α,E'.Perm E/\L=E'.map f
 | [],E,h=>by
  have:E=[]:=by simpa using h.length_eq.symm
  subst this;exact ⟨[],.refl _,rfl⟩
 | x::L,E,h=>by
  obtain ⟨e,he,rfl⟩:=xaN.1 (h.subset (xaA ..));obtain ⟨s,t,rfl⟩:=List.append_of_mem he;have h2:(f e::L).Perm (f e::(s++t).map f):=h.trans (by rw [xa6,xaj,xa6];exact List.perm_middle)
  obtain ⟨E',a,b⟩:=zmL f L (s++t) h2.cons_inv;exact ⟨e::E',(a.cons e).trans List.perm_middle.symm,by rw [b];rfl⟩
theorem zkg {α:Type}:∀ {R:List α} {j:Nat} {e:α},R[j]?=some e->(e::R.eraseIdx j).Perm R
 | [],j,e,h=>by simp at h
 | x::R,0,e,h=>by simp at h;subst h;exact .refl _
 | x::R,j+1,e,h=>by
  have h':R[j]?=some e:=by simpa using h
  exact (List.Perm.swap x e _).trans ((zkg h').cons x)
theorem zqR {α β:Type} (f:α->β):∀ (R:List α) (j:Nat),(R.eraseIdx j).map f=(R.map f).eraseIdx j
 | [],j=>rfl
 | x::R,0=>rfl
 | x::R,j+1=>by
  show f x::(R.eraseIdx j).map f=f x::(R.map f).eraseIdx j;rw [zqR f R j]
section
variable {P:Program} {ts:List (List PV)} {dr:Bool} {K:St->List Ft->Prop} {acc:List Ft} {d:Option Nat} {f:Nat} {args:List AOpd} {gd:Option (Nat × Bool)} {af:List Nat} {r:List RO} {s:St} {vs:List LV} {obj obj':List (Nat × LObj)} {res:LV}
def zb8 (l:List (Nat × Nat)) (hf:zbk P f vs obj res obj') (hn:zF dr (zp P ts dr K) r ((s.wrs (zdb (rn l) obj')).set d (fin gd true (res.ren (rn l)))) (zT dr acc s ⟨d,.call f,args,gd,af⟩ (zdb (rn l) obj')))
  (hc:gOf s gd=some true:=by first|rfl|(simp (disch:=omega) only [qG,qe,seval]<;>rfl))
  (ha:uns (zd s args)=rens (rn l) vs:=by first|exact rnE|fail)
  (hp:zL (zd s args)=true:=by first|exact rnD|fail)
  (h1:lentO s (rn l) obj:=by first|exact rnT|fail)
  (h2:newO s (rn l) obj obj':=by first|exact rnO|fail)
  (h3:(obj'.map λx=>rn l x.1).Nodup:=by first|decide|(simp only [xaj,xaF];decide)|simp):zp P ts dr K (⟨d,.call f,args,gd,af⟩::r) s acc:=
 .inl ⟨_,_,.callS rfl hc ha hp hf (ziE h1 h2 h3),zw hn⟩
end
def zmB (w:Wis) (m:Int) (hm:0<=m/\m<=1439) (hw0:0<=w.req.minute/\w.req.minute<=1439):Pure prog 127 [w.pv,.i .i64 m] (.i .i64 ((zbF (w.req.at m)).length*zdV (m - w.req.minute))):=by
 have hl:=zbd (w.req.at m);have q1:zdV (m - w.req.minute)<=1439/\0<=zdV (m - w.req.minute):=by unfold zdV;omega
 have q2:((zbF (w.req.at m)).length:Int)*zdV (m - w.req.minute)<=401*1439:=Int.mul_le_mul (by omega) q1.1 q1.2 (by omega)
 have q3:0<=((zbF (w.req.at m)).length:Int)*zdV (m - w.req.minute):=Int.mul_nonneg (by omega) q1.2
 have hwr:IntKind.i64.wrap (((zbF (w.req.at m)).length:Int)*max (m - w.req.minute) (-(m - w.req.minute)))=(zbF (w.req.at m)).length*zdV (m - w.req.minute):=zjo (by unfold zdV at *;omega) (by unfold zdV at *;omega)
 refine pz func127 f127.eq_1 λhw X hX=>?_
 have qe:=aI qR @hwr;have jA:=zco w m;have jB:=zfO (m - w.req.minute) (by omega) (by omega);exact gD2
def ztR {L:List Mov} (hf:∀ w ∈ L,Pure prog f (w.pv::caps) (.b (p w))):Pure prog 220 [.sl 7 (L.map Mov.pv),.fn (.func f) [] caps] (.i .i64 (zdG p L)):=by
 refine pz func220 f220.eq_1 λhw X hX=>?_
 simp only [wfs,PV.wf,xaf,maxLen] at hw;refine gE2 ?_;refine zh (κ:=Nat) (λi=>⟨[(0,.p (.sl 7 (L.map Mov.pv))),(1,.p (.fn (.func f) [] caps)),(7,.p (.i .i64 L.length)),(8,.p (.i .i64 i))],[],[],false⟩) (λi=>i<=L.length/\∀ y ∈ L.take i,p y=false) (λi=>L.length - i) 0 ?_ ?_ ?_
 ·exact sR
 ·simp
 ·intro i hi;refine gH (λhc=>?_) λhc=>?_
  ·obtain ⟨y,hy⟩:=zj (i:=i) (l:=L) (by omega)
   have qe:=@hy;have jA:=hf y (xae hy);refine gF2 (λhc=>?_) λhc=>?_
   ·rw [zbe hi.2 hy hc];exact .refl _
   ·exact ⟨i+1,⟨by omega,zd1 hi.2 hy (by simpa using hc)⟩,by omega,by simp⟩
  ·refine gE2 ?_;have e:i=L.length:=by omega
   subst e;rw [zct (λy hy=>hi.2 y (by rw [xas (by simp)];exact hy))];exact .refl _
def zt2 {L:List Mov} (hf:∀ w ∈ L,Pure prog f (w.pv::caps) (.b (p w))):Pure prog 175 [.sl 7 (L.map Mov.pv),.fn (.func f) [] caps] (.b (L.any p)):=by
 have hd:=zeG p L;refine pz func175 f175.eq_1 λhw X hX=>?_
 have qe:=aI qR @hd;have jA:=ztR hf;exact gD2
def zt1 (l:Lim) (i:Nat) (x:Int) (m:Mov) (hx:-1000000000<=x/\x<=1000000000) (hl:0<=l.len/\l.len<=100000):Pure prog 176 (m.pv::[.ip l.pv 0,.ip (kyP (i,x)) 0]) (.b (inW l x m)):=by
 refine pz func176 f176.eq_1 λhw X hX=>?_
 by_cases h1:zbI l m.kind m.term=true
 ·have h77:=zfN l m;rw [h1] at h77
  by_cases h2:x<=m.moment
  ·have h2':=eq_true h2;have qe:=aI qR (aI @h2' @decide_true);have jA:=h77;refine gE2 ?_
   all_goals exact zhe (by unfold inW;rw [h1,decide_eq_true h2];simp)
  ·have h2':=eq_false h2;have qe:=aI qR (aI @h2' @decide_false);have jA:=h77;refine gE2 ?_
   all_goals exact zhe (by unfold inW;rw [h1,decide_eq_false h2];simp)
 ·rw [xbq] at h1;have h77:=zfN l m;rw [h1] at h77;have qe:=@qR;have jA:=h77;refine gE2 ?_
  all_goals exact zhe (by unfold inW;rw [h1];simp)
def zny (hl:∀ l ∈ ls,zr l=0) (C:List (Ky × Int)) (G:BgM) {k:Ky} (hk:ls[k.1]?=some l) (hx:-1000000000<=k.2/\k.2<=1000000000) (w:Wis) (m:Int):zbk prog 103 [.lp 900 0,.p (kyP k),.p w.pv,.p (.i .i64 m)] [(900,.box [.p (.sl 11 (ls.map Lim.pv)),.lm 901,.lm 902] false),(901,.mp (C.map cE) false),(902,.mp (G.map gE) false)] (.p (.b ((zbF (w.req.at m)).any (inW l k.2)))) [(900,.box [.p (.sl 11 (ls.map Lim.pv)),.lm 901,.lm 902] false),(901,.mp (C.map cE) false),(902,.mp (G.map gE) false)]:=by
 obtain ⟨i,x⟩:=k;simp only at hk hx;have hil:i < ls.length:=(xaa.1 hk).1;have h0:=zaa (hl l (xae hk));have h75:=zt2 (f:=176) (caps:=[.ip l.pv 0,.ip (kyP (i,x)) 0]) (L:=zbF (w.req.at m)) (p:=inW l x) (λy _=>zt1 l i x y hx ⟨by omega,by omega⟩)
 refine zD (cF func103 f103.eq_1) (by simp) (by simp [scPs,scP,zm]) (by simp [scObj,scPs,scP,zm]) ⟨rfl,rfl,rfl,trivial⟩ (by simp [scObj,scPs,scP,zm]) (by simp [zcQ,zm]) λX hX=>?_
 unfold zx ghO;have qe:=aI qR @hk;repeat first|refine gG ?_|show AK _;intro J Z|refine gJ ?_|omega|exact aT
 have qe:=@qR;have jA:=zco w m;refine gE2 ?_;refine zag (zaz 21 (.fn (.func 176) [] [.ip l.pv 0,.ip (kyP (i,x)) 0]) (sR) (by first|trivial|simp) (.refl _)) ?_
 rintro _ rfl;refine zw ?_;have qe:=aI qR (aI @gLV.eq_1 (aI @gLV.eq_5 (aI @rtN @rtR)));have jA:=h75;refine gE2 ?_
 all_goals exact .inl (.mkP (h2:=by simp only [qS,seval,keepG.eq_1,keepG.eq_2,gLV.eq_1,gLV.eq_2,gLV.eq_5]<;>simp) (hk:=by intro k hk;cases hk))
def zmD (L:List Wis) (h:zav L=0) (u:Unt):Pure prog 101 [.sl 18 (L.map Wis.pv),unP u] (.fn (.func 174) [] [.ip (.sl 1 ((zdT L).map (.i .i64))) 0,.ip (unP u) 0]):=by
 refine pz func101 f101.eq_1 λhw X hX=>?_
 have qe:=@qR;have jA:=zmA L h;exact gD2
def zmw (L:List Wis) (u:Unt) {j:Nat} (hj:j < L.length):Pure prog 174 ([]++[.i .i64 (j:Int)]++[.ip (.sl 1 ((zdT L).map (.i .i64))) 0,.ip (unP u) 0]) (.b (decide ((zY L j:Int) < u.1))):=by
 have hl:=zmX L;have hx:=zqT L hj;have hll:j < (zdT L).length:=by omega
 refine pz func174 f174.eq_1 λhw X hX=>?_
 by_cases h:0<=zau L j
 ·have h':=eq_true h;have hm:min (j:Int) (zau L j)=zY L j:=by unfold zY;split<;>omega
  have qe:=aI qR (aI @hx (aI @h' (aI @hm @hl)));exact gD2
 ·have h':=eq_false h;have hm:(j:Int)=zY L j:=by unfold zY;rw [if_neg (by omega)]
  have qe:=aI qR (aI @hx (aI @h' @hl));refine gE2 ?_
  all_goals (rw [<-hm];exact .refl _)
def zua (C:List (Ky × Int)) (G:BgM) (hC:∀ e ∈ C,e.1.1 < ls.length):Pure prog 126 [.ip (.agg [.sl 11 (ls.map Lim.pv),.mp (C.map cE),.mp (G.map gE)]) 0] (.b (exB ls ⟨C,G⟩)):=by
 refine pz func126 f126.eq_1 λhw X hX=>?_
 have qe:=@qR;repeat' first|refine gC ?_ ?_<;>intro hc<;>try contradiction|refine gG ?_|show AK _;intro J Z|refine gJ ?_|omega|exact aT
 refine znQ λfs hfs=>?_
 obtain ⟨R0,hR0,rfl⟩:∃ R0:List (Ky × Int),R0.Perm C/\fs=R0.map cE:=by
  rcases hfs with rfl|⟨hp,_⟩
  ·exact ⟨C,.refl _,rfl⟩
  ·exact zmL cE fs C hp
 have qe:=@qR;refine gE2 ?_;refine zh (κ:=List (Ky × Int) × List (Ky × Int) × Option (PV × PV)) (λk=>⟨[(0,.p (.ip (.agg [.sl 11 (ls.map Lim.pv),.mp (C.map cE),.mp (G.map gE)]) 0)),(9,.it 9)],[(9,.mit (k.2.1.map cE) k.2.2)],[],false⟩) (λk=>(k.1++k.2.1).Perm C/\∀ e ∈ k.1,¬zdn ls e.1.1 < e.2) (λk=>k.2.1.length) ([],R0,none) ?_ ?_ ?_
 ·exact sS
 ·exact ⟨hR0,by simp⟩
 ·rintro ⟨O,R,cur⟩ ⟨hk,hno⟩;simp only at hk hno;have qe:=@qR;(repeat' first|refine gC ?_ ?_<;>intro hc<;>try contradiction|refine gG ?_|show AK _;intro J Z|refine gJ ?_|omega|exact aT);refine zpW (λh0=>?_) (λj kv hj=>?_)
  ·have hR:R=[]:=by simpa using h0
   subst hR;rw [xar] at hk;have hres:exB ls ⟨C,G⟩=false:=by
    unfold exB;rw [Bool.eq_false_iff];intro h;obtain ⟨e,he,h⟩:=xaV.1 h;exact hno e (hk.mem_iff.2 he) (of_decide_eq_true h)
   have qe:=@qR;refine gE2 ?_
   all_goals (rw [hres];exact .refl _)
  ·obtain ⟨e,he,rfl⟩:∃ e,R[j]?=some e/\cE e=kv:=by
    rw [xal,xab] at hj;exact hj
   obtain ⟨hjl,hje⟩:=xaa.1 he;have hm:e ∈ C:=hk.subset (xbc _ (xae he));have hil:=hC e hm;obtain ⟨l,hli⟩:=zj (i:=e.1.1) (l:=ls) hil;have hmo:zdn ls e.1.1=l.most:=by unfold zdn;rw [xam,hli]
   have qe:=@qR;(repeat' first|refine gC ?_ ?_<;>intro hc<;>try contradiction|refine gG ?_|show AK _;intro J Z|refine gJ ?_|omega|exact aT);refine znR ?_
   by_cases hlt:l.most < e.2
   ·have hlt':=eq_true hlt;have hres:exB ls ⟨C,G⟩=true:=xaV.2 ⟨e,hm,decide_eq_true (by rw [hmo];exact hlt)⟩
    have qe:=aI qR (aI @hli @hlt');refine gE2 ?_
    all_goals (rw [hres];exact .refl _)
   ·have hlt':=eq_false hlt;have qe:=aI qR (aI @hli @hlt');refine gE2 ?_;refine ⟨(O++[e],R.eraseIdx j,some (cE e)),⟨?_,?_⟩,?_,by simp [zqR]⟩
    ·refine List.Perm.trans ?_ hk;rw [xak];refine List.Perm.append_left O ?_;exact zkg he
    ·intro y hy
     rcases xaS.1 hy with hy|hy
     ·exact hno y hy
     ·rw [xaX] at hy;subst hy;rw [hmo];exact hlt
    ·simp only [List.length_eraseIdx_of_lt hjl];omega
def ztW (a b:Mov):Pure prog 190 [a.pv,b.pv] (.i .i64 (zwL a b)):=by
 refine pz func190 f190.eq_1 λhw X hX=>?_
 have qe:=@qR;have jA:=λu1 u2=>zlh u1 u2;have jB:=λu1 u2=>zqs u1 u2;have jC:=λu1 u2 u3=>zqt [u1,u2,u3];exact gD5
def zo5 (L:List Wis) (R:List Res) (c:Nat):List Mov:=(List.range c).flatMap (zeA L R λ_=>true)
def zup (L:List Wis) (R:List Res) (i:Nat):(zeA L R (λ_=>true) i).length<=401:=by
 unfold zeA
 split
 ·split
  ·exact zis _ _ _
  ·simp
 ·simp
def zik (L:List Wis) (R:List Res) (c:Nat):(zo5 L R c).length<=401*c:=by
 induction c with
 | zero=>simp [zo5]
 | succ c ih=>
  rw [zo5,zbE,<-zo5,xad];have:=zup L R c
  omega
def zmC (hn:R.length=L.length) (hl:L.length<=1000):Pure prog 120 [.sl 18 (L.map Wis.pv),.sl 3 (R.map Res.pv)] (.sl 7 ((zlk L R λ_=>true).map Mov.pv)):=by
 have hpl:=zik L R L.length;have h13:=zwb ztW (by rw [zi8];exact zee) (zo5 L R L.length) (by omega)
 have hso:zat zwL (zo5 L R L.length)=zlk L R λ_=>true:=by
  rw [zjR];show zat zwL (zbL L R λ_=>true)=_
  rw [zaP (by rw [zi8];exact zee),zi8]
 have hsl:(zlk L R λ_=>true).length=(zo5 L R L.length).length:=by rw [<-hso,zaf]
 rw [hso] at h13;refine pz func120 f120.eq_1 λhw X hX=>?_
 refine gE2 ?_;refine run_ownL 400 194 7 (κ:=Nat) (λc=>⟨[(0,.p (.sl 18 (L.map Wis.pv))),(5,.row 400 (zo5 L R c).length),(8,.p (.sl 3 (R.map Res.pv))),(9,.p (.i .i64 R.length)),(10,.p (.i .i64 c))],[(400,.row 194 7 ((zo5 L R c).map Mov.pv) false)],[],false⟩) (λc=>c<=R.length) (λc=>R.length - c) 0 ?_ ?_ ?_
 ·refine ⟨gO ?_,gO ?_⟩<;>simp [zo5]
 ·simp
 ·intro c hc0;have hcl:=zik L R c;refine gH (λhc=>?_) λhc=>?_
  ·obtain ⟨r,hr⟩:=zj (i:=c) (l:=R) (by omega)
   obtain ⟨w,hwl⟩:=zj (i:=c) (l:=L) (by omega)
   have hnx:zo5 L R (c+1)=zo5 L R c++zeA L R (λ_=>true) c:=zbE _ _
   have hmw:zfB L c r.minute=zbF (w.req.at r.minute):=by unfold zfB;rw [hwl]
   unfold zeA at hnx;rw [hr] at hnx;simp only [xbL,hmw] at hnx;have hml:=zbd (w.req.at r.minute);cases hg:r.gr with
   | false=>
    rw [hg] at hnx;simp only [xaD,if_false,xar] at hnx;have qe:=aI qR (aI @hr @hg);refine gE2 ?_;exact ⟨c+1,by omega,by omega,by simp [hnx],by simp [hnx]⟩
   | true=>
    rw [hg] at hnx;simp only [if_true] at hnx;have qe:=aI qR (aI @zsd (aI @hr (aI @hwl @hg)));have jA:=zco w r.minute;refine gE2 ?_;exact ⟨c+1,by omega,by omega,by simp [hnx],by simp [hnx]⟩
  ·have e:c=R.length:=by omega
   subst e;rw [hn];have qe:=aI qR (aI @qN (aI @hsl (aI @rtN @rtR)));have jA:SX [(900,400)] _:=⟨h13⟩;exact gD2
def zAD (n:ByteArray) (m:Int) (g:Bool):eqCells [PV.s n,.i .i64 m,.b g] [PV.s n,.i .i64 m,.b false]=!g:=by
 simp only [eqCells,eqPV,xbL];cases g<;>simp
def ztU (h:zav L=0) (h12:ShW L) (R:List Res):Pure prog 193 [.sl 18 (L.map Wis.pv),.sl 3 (R.map Res.pv)] (.i .i64 (zc8 L R)):=by
 have hn64:=(zR h).1;refine pz func193 f193.eq_1 λhw X hX=>?_
 refine gF2 (λhc=>?_) λhc=>?_
 ·rw [zc8,if_pos (by omega)];exact .refl _
 have hn:R.length=L.length:=by omega
 have hsp:zc8 L R=zn [zn (R.mapIdx (zkH L)),if (zq L).any (zhp L R)=true then 32 else 0]:=by rw [zc8,if_neg (by omega)]
 refine zh (κ:=Nat) (λi=>⟨[(2,.lp 2 0),(3,.lp 3 0),(4,.lp 4 0),(17,.p (.sl 3 (R.map Res.pv))),(18,.p (.i .i64 R.length)),(19,.p (.i .i64 i))],[(2,.box [.p (.sl 18 (L.map Wis.pv))] false),(3,.box [.p (.sl 3 (R.map Res.pv))] false),(4,.box [.p (.i .i64 0)] false)],[],false⟩) (λi=>i<=R.length/\∀ x ∈ (R.mapIdx (zkH L)).take i,x=0) (λi=>R.length - i) 0 ?_ ?_ ?_
 ·exact sS
 ·simp
 ·intro i hi;refine gH (λhc=>?_) λhc=>?_
  ·obtain ⟨r,hr⟩:=zj (i:=i) (l:=R) (by omega)
   obtain ⟨w,hwl⟩:=zj (i:=i) (l:=L) (by omega)
   have hil:i < L.length:=by omega
   have he:zkH L i r=zfy w r:=by unfold zkH;rw [hwl]
   have hq:=zAD r.name r.minute r.gr;have hwe:=zfx h hwl;have hw12:=h12 h w (xae hwl);cases hg:r.gr with
   | true=>
    rw [hg] at hq;have key:zn [if ¬r.name=w.req.name then 8 else 0,if ¬r.minute ∈ zac w then 30 else 0,0]=zfy w r:=by unfold zfy;simp [hg]
    have key2:zn [if decide (r.name=w.req.name)=false then 8 else 0,if decide (r.minute ∈ zac w)=false then 30 else 0,0]=zfy w r:=by unfold zfy;simp [hg]
    have qe:=aI qR (aI @hr (aI @hwl (aI @hg (aI @hq @hil))));have jA:=λu1 u2=>za0 u1 u2;have jB:=zcW w hwe hw12;have jC:=zid (zac w) r.minute;have jD:=λu1 u2 u3=>zaG [u1,u2,u3];refine gF5 (λhc=>?_) λhc=>?_
    ·rw [key,<-he] at hc;have h1:zn (R.mapIdx (zkH L))=zkH L i r:=zbr hi.2 (zaj hr) hc;have hf:zc8 L R=zkH L i r:=by rw [hsp,zlL (by rw [h1];exact hc),h1]
     rw [hf,he,<-key2];exact .refl _
    ·rw [key,<-he] at hc;exact ⟨i+1,⟨by omega,zb0 hi.2 (zaj hr) hc⟩,by omega,by simp⟩
   | false=>
    rw [hg] at hq;have key:zn [if ¬r.name=w.req.name then 8 else 0,0,if ¬r.minute=0 then 19 else 0]=zfy w r:=by unfold zfy;simp [hg]
    have key2:zn [if decide (r.name=w.req.name)=false then 8 else 0,0,if decide (r.minute=0)=false then 19 else 0]=zfy w r:=by unfold zfy;simp [hg]
    have qe:=aI qR (aI @hr (aI @hwl (aI @hg (aI @hq @hil))));have jA:=λu1 u2=>za0 u1 u2;have jB:=zcW w hwe hw12;have jC:=zid (zac w) r.minute;have jD:=λu1 u2 u3=>zaG [u1,u2,u3];refine gF5 (λhc=>?_) λhc=>?_
    ·rw [key,<-he] at hc;have h1:zn (R.mapIdx (zkH L))=zkH L i r:=zbr hi.2 (zaj hr) hc;have hf:zc8 L R=zkH L i r:=by rw [hsp,zlL (by rw [h1];exact hc),h1]
     rw [hf,he,<-key2];exact .refl _
    ·rw [key,<-he] at hc;exact ⟨i+1,⟨by omega,zb0 hi.2 (zaj hr) hc⟩,by omega,by simp⟩
  ·have e:i=R.length:=by omega
   subst e;have hall:∀ x ∈ R.mapIdx (zkH L),x=0:=by
    have:=hi.2
    rwa [xas (by simp)] at this
   have h0:zn (R.mapIdx (zkH L))=0:=zbj λx hx=>hall x (xbu hx)
   have hat:∀ (j:Nat) (q:Res) (w:Wis),R[j]?=some q->L[j]?=some w->q.gr=true->q.minute ∈ zac w:=λj q w hq hwl hg=>by
    have:=hall (zkH L j q) (xae (zaj hq));unfold zkH at this;rw [hwl] at this;exact (zdz this).2.1 hg
   have qe:=@qR;have jA:=zcp L h;refine gE2 ?_;refine zb7 rfl (zcr L (by omega)) ?_ ?_ [(2,.lp 2 0),(3,.lp 3 0),(4,.lp 4 0),(69,.p (.fn (.func 161) [] [.ip (.sl 1 ((zdT L).map (.i .i64))) 0]))] (λ_=>[(2,.box [.p (.sl 18 (L.map Wis.pv))] false),(3,.box [.p (.sl 3 (R.map Res.pv))] false),(4,.box [.p (.i .i64 0)] false)]) (λ_=>[]) (λk=>∀ u ∈ (zq L).take k,zhp L R u=false) ?_ ?_ ?_ ?_
   ·intro t ht;obtain ⟨x,_,rfl⟩:=xaN.1 ht;rfl
   ·simp [hX]
   ·exact sS
   ·simp
   ·intro k t ht hok X' ro' hX';simp only [xal,xab] at ht;obtain ⟨u,hu,rfl⟩:=ht;have hum:=xae hu;obtain ⟨i,a,ha,hcu⟩:=zb4 h hum;have hnxt:zhp L R u=false->∀ x ∈ (zq L).take (k+1),zhp L R x=false:=λhb x hx=>by
     rw [zE hu] at hx
     rcases xaS.1 hx with hx|hx
     ·exact hok x hx
     ·rw [xaX] at hx;rw [hx];exact hb
    have hbad:zhp L R u=true->zc8 L R=32:=λhb=>by
     have:(zq L).any (zhp L R)=true:=xaV.2 ⟨u,hum,hb⟩;rw [hsp,h0,this];rfl
    have h25:=zce h hn hum
    rcases hcu with rfl|⟨c,b,hk,hik,rfl⟩
    ·have hb:zhp L R ((i:Int),-1)=false:=by unfold zhp;simp
     simp only [qS,seval];refine gE2 ?_;intro X1 hX1;have qe:=aI qR @tn1;refine gE2 ?_;exact hnxt hb
    ·have hil:i < R.length:=by have:=(xaa.1 ha).1;omega
     have hcl:c < R.length:=by have:=(xaa.1 hk.at_b).1;omega
     obtain ⟨r,hr⟩:=zj (i:=i) (l:=R) hil;obtain ⟨q,hq⟩:=zj (i:=c) (l:=R) hcl;have hra:=zW hr;have hrq:=zW hq;have hgo:grO R ((i:Int),(c:Int))=(r.minute,q.minute):=by unfold grO;rw [xam,xam,hra,hrq,if_neg (by omega)]
     have hgb:grB R ((i:Int),(c:Int))=r.gr:=by unfold grB;rw [xam,hra]
     have hk0:=eq_false (show ¬(c:Int) < 0 by omega)
     have hbd:zhp L R ((i:Int),(c:Int))=((r.gr != q.gr) || (r.gr && !ze8 a b r.minute q.minute)):=by
      unfold zhp zyn;simp only [xam,hra,hrq,hgo,ha,hk.at_b,show ¬((c:Int) < 0) by omega,decide_false,xb5,show (0:Int)<=c by omega,decide_true,xaZ]
     rw [hgo,hgb] at h25;cases hg:r.gr<;>cases hg2:q.gr
     ·have hb:zhp L R ((i:Int),(c:Int))=false:=by rw [hbd,hg,hg2];rfl
      rw [hg] at h25;simp only [qS,seval];refine gE2 ?_;intro X1 hX1;have qe:=aI qR (aI @tn1 (aI @hk0 (aI @hq @hg2)));have jA:=h25;have jB:=nm 166 (.b false);refine gE2 ?_;exact hnxt hb
     ·have hb:zhp L R ((i:Int),(c:Int))=true:=by rw [hbd,hg,hg2];rfl
      rw [hbad hb];rw [hg] at h25;simp only [qS,seval];refine gE2 ?_;intro X1 hX1;have qe:=aI qR (aI @tn1 (aI @hk0 (aI @hq @hg2)));have jA:=h25;have jB:=nm 166 (.b false);exact gD2
     ·have hb:zhp L R ((i:Int),(c:Int))=true:=by rw [hbd,hg,hg2];rfl
      rw [hbad hb];rw [hg] at h25;simp only [qS,seval];refine gE2 ?_;intro X1 hX1;have qe:=aI qR (aI @tn1 (aI @hk0 (aI @hq @hg2)));have jA:=h25;have jB:=nm 166 (.b false);exact gD2
     ·rw [hg] at h25;have m1:=zdM (zcC (zfx h ha)).1 (hat i r a hr ha hg);have m2:=zdM (zcC (zfx h hk.at_b)).1 (hat c q b hq hk.at_b hg2);have h66:=zmy ha hk.at_b (r.minute,q.minute) m1 m2;cases hp:ze8 a b r.minute q.minute with
      | true=>
       have hb:zhp L R ((i:Int),(c:Int))=false:=by rw [hbd,hg,hg2,hp];rfl
       simp only [hp] at h66;simp only [qS,seval];refine gE2 ?_;intro X1 hX1;have qe:=aI qR (aI @tn1 (aI @hk0 (aI @hq @hg2)));have jA:=h25;have jB:=h66;refine gE2 ?_;exact hnxt hb
      | false=>
       have hb:zhp L R ((i:Int),(c:Int))=true:=by rw [hbd,hg,hg2,hp];rfl
       rw [hbad hb];simp only [hp] at h66;simp only [qS,seval];refine gE2 ?_;intro X1 hX1;have qe:=aI qR (aI @tn1 (aI @hk0 (aI @hq @hg2)));have jA:=h25;have jB:=h66;exact gD2
   ·intro hok;have hb:(zq L).any (zhp L R)=false:=by
     rw [Bool.eq_false_iff];intro hb;obtain ⟨u,hu,hb⟩:=xaV.1 hb;rw [hok u (by rw [xaf,xah];exact hu)] at hb;cases hb
    rw [hsp,h0,hb];exact gD2
def zfP (h12:ShW L) (R:List Res):Pure prog 124 [.sl 18 (L.map Wis.pv),.sl 3 (R.map Res.pv)] (.i .i64 (if zav L=0 then zc8 L R else zav L)):=by
 refine pz func124 f124.eq_1 λhw X hX=>?_
 by_cases h:zav L=0
 ·have h':=eq_true h;have qe:=aI qR @h';have jA:=zfU L;have jB:=ztU h h12 R;exact gD2
 ·have h':=eq_false h;have qe:=aI qR @h';have jA:=zfU L;exact gD2
end Go.Proofs.YtbgckikhhcbmpaaGreat
