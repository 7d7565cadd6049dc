/- For all lists of limits and wishes, and all stated results and reasons, the statement AllocateReasons of chapter 6 returns true. No conditions. -/
import Derived.Test.YtbgckikhhcbmpaaGreatE2
set_option linter.all false
set_option maxHeartbeats 8000000
set_option maxRecDepth 100000
namespace Go.Proofs.YtbgckikhhcbmpaaGreat
open Go.RowKit Go.Proofs.Tryz
variable {ls:List Lim} {R:List Res} {L:List Wis} {k:Nat} {o:Opt} {r:Rsn} {u:Unt}
def pvF (ls:List Lim) (L:List Wis) (R:List Res):List (Unt × Opt)->List Rsn->Nat->Bool × Nat
 | [],_,n=>(true,n)
 | x::p,S,n=>match S[n]? with
  | none=>(false,n)
  | some r=>if mtR ls L R x r=true then pvF ls L R p S (n+1) else (false,n+1)
theorem ybg (ls:List Lim) (L:List Wis) (R:List Res) (S:List Rsn):∀ (p:List (Unt × Opt)) (n:Nat),n<=S.length->((pvF ls L R p S n).1 && decide ((pvF ls L R p S n).2=S.length))=yad ls L R p (S.drop n)
 | [],n,hn=>by
  rw [pvF,xaZ]
  by_cases h:n=S.length
  .rw [decide_eq_true h,h,xbM];rfl
  .rw [decide_eq_false h,xaE (by omega)];rfl
 | x::p,n,hn=>by
  by_cases h:n < S.length
  .rw [xaE h,yad]
   by_cases hm:mtR ls L R x S[n]=true
   .have e:pvF ls L R (x::p) S n=pvF ls L R p S (n+1):=by
     rw [pvF,xac h];show (if mtR ls L R x S[n]=true then _ else _)=_
     rw [if_pos hm]
    rw [e,hm,xaZ];exact ybg ls L R S p (n+1) (by omega)
   .have e:pvF ls L R (x::p) S n=(false,n+1):=by
     rw [pvF,xac h];show (if mtR ls L R x S[n]=true then _ else _)=_
     rw [if_neg hm]
    rw [e,Bool.eq_false_iff.2 hm];rfl
  .have e:pvF ls L R (x::p) S n=(false,n):=by rw [pvF,xck (by omega)]
   rw [e,xbX (by omega)];rfl
def pK (L:List Wis) (R:List Res) (k:Nat):List (Unt × Opt):=((zq L).take k).flatMap λu=>(zad L R u).map λo=>(u,o)
def pT (L:List Wis) (R:List Res) (k:Nat):List (Unt × Opt):=((zq L).drop k).flatMap λu=>(zad L R u).map λo=>(u,o)
def yds (R:List Res) (hx:(zq L)[k]?=some u):(pK L R (k+1)).length=(pK L R k).length+(zad L R u).length:=by
 unfold pK;rw [zE hx,xa8,xad];simp
def ydr (R:List Res) (hx:(zq L)[k]?=some u):pT L R k=((zad L R u).map λo=>(u,o))++pT L R (k+1):=by
 unfold pT;obtain ⟨hk,e⟩:=xaa.1 hx;rw [xaE hk,xat,e]
def mt_one (hr:zc8 L R=0) (c1:r.name=nmW L u.1.toNat) (c2:(r.minute,r.other)=o) {g:Ky} (hg:g ∈ xrA ls L R u o) (hg1:(g.1:Int)=r.lim) (hg2:g.2=r.win):mtR ls L R (u,o) r=decide (r.holders=zlF ls L R g λj=>decide ((zY L j:Int) < u.1)):=by
 subst c2;unfold mtR;rw [yaj hr];simp only [decide_eq_true c1,decide_true,xaZ];rw [xbG,xaV,decide_eq_true_eq]
 constructor
 .rintro ⟨w,_,hw2⟩;rw [xau,xau,decide_eq_true_eq,decide_eq_true_eq,decide_eq_true_eq] at hw2;have e:w=g:=Prod.ext (by have:=hw2.1.1;omega) (by rw [hw2.1.2,hg2])
  rw [<-e];exact hw2.2
 .intro h;exact ⟨g,hg,by rw [decide_eq_true hg1,decide_eq_true hg2,decide_eq_true h];rfl⟩
def ydu (h:¬r.name=nmW L u.1.toNat\/¬(r.minute,r.other)=o\/(xrA ls L R u o).any (kyE r.lim r.win)=false):mtR ls L R (u,o) r=false:=by
 rw [Bool.eq_false_iff];intro hm;unfold mtR at hm;simp only [xau,decide_eq_true_eq] at hm;obtain ⟨⟨⟨h1,h2⟩,h3⟩,h4⟩:=hm
 rcases h with h|h|h
 .exact h h1
 .exact h (by rw [h2,h3])
 .rw [List.any_eq_false] at h;obtain ⟨w,hw,h5⟩:=xaV.1 h4;rw [xau,xau] at h5;exact h w hw (by unfold kyE;rw [h5.1.1,h5.1.2];rfl)
def yc4 (hl:∀ l ∈ ls,zr l=0) (hw:zgb ls) (L:List Wis) (R:List Res) (u:Unt) (o:Opt):(xrA ls L R u o).length<=1000000000:=by
 have h1:=hw (xrA ls L R u o) ((zph hl _ _).imp fun {x y} hxy e=>by rw [e] at hxy;exact ziI _ hxy) λk hk=>by
  unfold xrA at hk;obtain ⟨l,q1,q2,_⟩:=zhY.1 hk;exact ⟨l,q1,q2⟩
 omega
def yb0 (hl:∀ l ∈ ls,zr l=0) (hn:ls.length<=1000) (hw:zgb ls) (h2:zav L=0) (h12:ShW L) (h3:zc8 L R=0) (S:List Rsn) (hS:S.length<=1000000) {q:Bool × Nat} (hq:pvF ls L R (zfz L R) S 0=q):zbk prog 98 [.p (.sl 11 (ls.map Lim.pv)),.p (.sl 18 (L.map Wis.pv)),.p (.sl 3 (R.map Res.pv)),(.fn (.func 142) [] [.lp 911 0,.lp 912 0,.lp 913 0,.lp 910 0,.lp 915 0])] [(910,.box [.p (.sl 18 (L.map Wis.pv))] false),(911,.box [.p (.b true)] false),(912,.box [.p (.i .i64 0)] false),(913,.box [.p (.sl 6 (S.map Rsn.pv))] false),(915,.box [.p (.sl 3 (R.map Res.pv))] false)] (.p (.tup [])) [(910,.box [.p (.sl 18 (L.map Wis.pv))] false),(911,.box [.p (.b q.1)] false),(912,.box [.p (.i .i64 (q.2:Int))] false),(913,.box [.p (.sl 6 (S.map Rsn.pv))] false),(915,.box [.p (.sl 3 (R.map Res.pv))] false)]:=by
 have hn64:=(zR h2).1
 have hul:=zaY L
 have hRn:=(zbZ h3).1
 refine zD (cF func98 f98.eq_1) (by simp) (by simp [scPs,scP,zm]) (by simp [scObj,scPs,scP,zm]) ⟨rfl,rfl,rfl,rfl,rfl,trivial⟩ (by simp [scObj,scPs,scP,zm]) (by simp [zcQ,zm]) λX hX=>?_
 unfold zx ghO
 have qe:=aI qR (aI @qN (aI @gLV.eq_1 @gLV.eq_2));have jA:SX [(7,900),(4,901),(5,902)] _:=⟨zcx ls⟩;have jB:=zcp L h2;refine gE2 ?_
 refine zb7 rfl (zcr L (by omega)) ?_ ?_ [(5,.lp 5 0),(6,.lp 6 0),(7,.lp 7 0),(8,.lp 8 0),(17,.p (.fn (.func 161) [] [.ip (.sl 1 ((zdT L).map (.i .i64))) 0])),(1000910,.lp 910 0),(1000911,.lp 911 0),(1000912,.lp 912 0),(1000913,.lp 913 0),(1000915,.lp 915 0)] (λk=>[(900,.box [.p (.sl 11 (ls.map Lim.pv)),.lm 901,.lm 902] false),(901,.mp ((brK ls L R k).C.map cE) false),(902,.mp ((brK ls L R k).G.map gE) false),(5,.box [.p (.sl 18 (L.map Wis.pv))] false),(6,.box [.p (.sl 3 (R.map Res.pv))] false),(7,.box [(.fn (.func 142) [] [.lp 911 0,.lp 912 0,.lp 913 0,.lp 910 0,.lp 915 0])] false),(8,.box [.lp 900 0] false),(910,.box [.p (.sl 18 (L.map Wis.pv))] false),(911,.box [.p (.b true)] false),(912,.box [.p (.i .i64 ((pK L R k).length:Int))] false),(913,.box [.p (.sl 6 (S.map Rsn.pv))] false),(915,.box [.p (.sl 3 (R.map Res.pv))] false)]) (λ_=>[]) (λk=>(pK L R k).length<=S.length/\pvF ls L R (pT L R k) S (pK L R k).length=q) ?_ ?_ ?_ ?_
 .intro t ht;obtain ⟨x,_,rfl⟩:=xaN.1 ht;rfl
 .simp [hX]
 .simp only [brK,pK,xbb,xbI,xbH,xbB,qS,seval]<;>simp
 .exact ⟨by unfold pK;simp,by rw [<-hq];unfold pK pT zfz;simp⟩
 .intro k t ht hok X' ro' hX'
  simp only [xal,xab] at ht
  obtain ⟨u,hx,rfl⟩:=ht
  obtain ⟨hk1,hk2⟩:=hok
  have hxm:=xae hx
  have hkl:=(xaa.1 hx).1
  have h07:=zfQ h2 h12 h3 hxm
  have hOl:=zdl h2 h12 R hxm
  have hM:=(zzJ hl L R k).mono (show (802*k:Int)<=60000 by omega)
  have hrfe:=λ(O:List Opt) (o:Opt)=>zkY hl h2 h3 hx O o
  have hbn:=zf5 (ls:=ls) (R:=R) hx
  have h25:=zce h2 hRn hxm
  rw [ydr R hx] at hk2
  have hnK:=yds R hx
  simp only [qS,seval]
  refine gE2 ?_
  intro X1 hX1
  have qe:=aI qR @qN;have jA:=h07;refine gE2 ?_
  generalize zad L R u=O at *
  generalize brK ls L R k=b0 at *
  generalize (pK L R k).length=n0 at *
  refine zh (κ:=Nat) (λe=>⟨[(9,.lp 9 0),(5,.lp 5 0),(6,.lp 6 0),(7,.lp 7 0),(8,.lp 8 0),(17,.p (.fn (.func 161) [] [.ip (.sl 1 ((zdT L).map (.i .i64))) 0])),(22,.p (.sl 2 (O.map unP))),(23,.p (.i .i64 O.length)),(24,.p (.i .i64 e)),(1000005,.lp 5 0),(1000006,.lp 6 0),(1000007,.lp 7 0),(1000008,.lp 8 0),(1000017,.p (.fn (.func 161) [] [.ip (.sl 1 ((zdT L).map (.i .i64))) 0])),(2000910,.lp 910 0),(2000911,.lp 911 0),(2000912,.lp 912 0),(2000913,.lp 913 0),(2000915,.lp 915 0)],[(900,.box [.p (.sl 11 (ls.map Lim.pv)),.lm 901,.lm 902] false),(901,.mp ((brO ls L u (O.take e) b0).C.map cE) false),(902,.mp ((brO ls L u (O.take e) b0).G.map gE) false),(5,.box [.p (.sl 18 (L.map Wis.pv))] false),(6,.box [.p (.sl 3 (R.map Res.pv))] false),(7,.box [(.fn (.func 142) [] [.lp 911 0,.lp 912 0,.lp 913 0,.lp 910 0,.lp 915 0])] false),(8,.box [.lp 900 0] false),(910,.box [.p (.sl 18 (L.map Wis.pv))] false),(911,.box [.p (.b true)] false),(912,.box [.p (.i .i64 ((n0+e:Nat):Int))] false),(913,.box [.p (.sl 6 (S.map Rsn.pv))] false),(915,.box [.p (.sl 3 (R.map Res.pv))] false),(9,.box [.p (.i .i64 u.1),.p (.i .i64 u.2)] false)],[],false⟩) (λe=>e<=O.length/\n0+e<=S.length/\pvF ls L R (((O.drop e).map λo=>(u,o))++pT L R (k+1)) S (n0+e)=q) (λe=>O.length - e) 0 ?_ ?_ ?_
  .refine gJ ?_;simp [brO]
  .exact ⟨by omega,hk1,hk2⟩
  .intro e he
   obtain ⟨he,hnS,hP⟩:=he
   refine gH (λhc=>?_) λhc=>?_
   .obtain ⟨o,ho⟩:=zj (i:=e) (l:=O) (by omega)
    have hbe:BdM ls (brO ls L u (O.take e) b0) 100000:=(zhn hl L u _ b0 hM).mono (by omega)
    have hnb:brO ls L u (O.take (e+1)) b0=rfB ls (brO ls L u (O.take e) b0) (zan L u o):=by unfold brO;rw [zE ho,xaP];rfl
    have hrfe:=hrfe (O.take e) o
    obtain ⟨hel,heo⟩:=xaa.1 ho
    rw [xaE hel,heo,xaj,xaM,pvF] at hP
    have hXl:=yc4 hl hw L R u o
    have hmem:=λ(g:Ky) (hg:g ∈ xrA ls L R u o)=>zwY hl hg
    generalize brO ls L u (O.take e) b0=be at *
    by_cases hts:n0+e < S.length
    .obtain ⟨r,hr⟩:=zj hts
     rw [hr] at hP
     simp only [] at hP
     by_cases c1:r.name=nmW L u.1.toNat
     .by_cases c2:(r.minute,r.other)=o
      .cases c3:(xrA ls L R u o).any (kyE r.lim r.win) with
       | false=>
        rw [ydu (.inr (.inr c3)),if_neg (by decide)] at hP
        subst hP
        have h40:=ybW hl hn hw h2 h3 hxm o hbe true S hS hr c1 c2 hrfe hXl c3
        generalize rfB ls be (zan L u o)=b2 at *
        obtain ⟨o1,o2⟩:=o
        have qe:=vv qR @qN @ho @rtN @rtR;repeat' first|refine gC ?_ ?_<;>intro hc<;>try contradiction|refine zay [] (h40) ?_|refine gG ?_|show AK _;intro J Z|refine gJ ?_|omega|exact aT
        all_goals exact .inl (.mk0 (h2:=by simp only [qS,seval,keepG.eq_1,keepG.eq_2,gLV.eq_1,gLV.eq_2,gLV.eq_5]<;>simp))
       | true=>
        obtain ⟨g,hg,hge⟩:=xaV.1 c3
        unfold kyE at hge
        rw [xau,decide_eq_true_eq,decide_eq_true_eq] at hge
        obtain ⟨l,hkl0,hwb⟩:=hmem g hg
        have hm:=mt_one h3 c1 c2 hg hge.1 hge.2
        rw [hm] at hP
        cases hh:decide (r.holders=zlF ls L R g λj=>decide ((zY L j:Int) < u.1)) with
        | false=>
         rw [hh,if_neg (by decide)] at hP
         subst hP
         have h40:=yao hl hn hw h2 h3 hxm o hbe true S hS hr c1 c2 hrfe hXl c3 hge.1 hge.2 hkl0 hwb hh
         generalize rfB ls be (zan L u o)=b2 at *
         obtain ⟨o1,o2⟩:=o
         have qe:=vv qR @qN @ho @rtN @rtR;repeat' first|refine gC ?_ ?_<;>intro hc<;>try contradiction|refine zay [] (h40) ?_|refine gG ?_|show AK _;intro J Z|refine gJ ?_|omega|exact aT
         all_goals exact .inl (.mk0 (h2:=by simp only [qS,seval,keepG.eq_1,keepG.eq_2,gLV.eq_1,gLV.eq_2,gLV.eq_5]<;>simp))
        | true=>
         rw [hh,if_pos rfl] at hP
         have h40:=yao hl hn hw h2 h3 hxm o hbe true S hS hr c1 c2 hrfe hXl c3 hge.1 hge.2 hkl0 hwb hh
         generalize rfB ls be (zan L u o)=b2 at *
         obtain ⟨o1,o2⟩:=o
         have qe:=aI qR (aI @qN @ho);repeat' first|refine gC ?_ ?_<;>intro hc<;>try contradiction|refine zay [] (h40) ?_|refine gG ?_|show AK _;intro J Z|refine gJ ?_|omega|exact aT
         all_goals exact ⟨e+1,⟨by omega,by omega,hP⟩,by omega,by simp,by simp [hnb,Int.add_assoc]⟩
      .rw [ydu (.inr (.inl c2)),if_neg (by decide)] at hP
       subst hP
       have h40:=ybX hl hn hw h2 h3 hxm o hbe true S hS hr c1 c2
       obtain ⟨o1,o2⟩:=o
       have qe:=vv qR @qN @ho @rtN @rtR;repeat' first|refine gC ?_ ?_<;>intro hc<;>try contradiction|refine zay [] (h40) ?_|refine gG ?_|show AK _;intro J Z|refine gJ ?_|omega|exact aT
       all_goals exact .inl (.mk0 (h2:=by simp only [qS,seval,keepG.eq_1,keepG.eq_2,gLV.eq_1,gLV.eq_2,gLV.eq_5]<;>simp))
     .rw [ydu (.inl c1),if_neg (by decide)] at hP
      subst hP
      have h40:=ybY hl hn hw h2 h3 hxm o hbe true S hS hr c1
      obtain ⟨o1,o2⟩:=o
      have qe:=vv qR @qN @ho @rtN @rtR;repeat' first|refine gC ?_ ?_<;>intro hc<;>try contradiction|refine zay [] (h40) ?_|refine gG ?_|show AK _;intro J Z|refine gJ ?_|omega|exact aT
      all_goals exact .inl (.mk0 (h2:=by simp only [qS,seval,keepG.eq_1,keepG.eq_2,gLV.eq_1,gLV.eq_2,gLV.eq_5]<;>simp))
    .rw [xck (by omega)] at hP
     simp only [] at hP
     subst hP
     have h40:=ybZ hl hn hw h2 h3 hxm o hbe true S hS (n:=n0+e) (by omega) (by omega)
     obtain ⟨o1,o2⟩:=o
     have qe:=vv qR @qN @ho @rtN @rtR;repeat' first|refine gC ?_ ?_<;>intro hc<;>try contradiction|refine zay [] (h40) ?_|refine gG ?_|show AK _;intro J Z|refine gJ ?_|omega|exact aT
     all_goals exact .inl (.mk0 (h2:=by simp only [qS,seval,keepG.eq_1,keepG.eq_2,gLV.eq_1,gLV.eq_2,gLV.eq_5]<;>simp))
   .have ee:e=O.length:=by omega
    subst ee
    rw [xbM,xaF,xaL,<-hnK] at hP
    rw [<-hnK] at hnS
    rw [xah,<-hnK]
    have hbO:BdM ls (brO ls L u O b0) 60000:=zhn hl L u _ b0 hM
    cases hg:grB R u with
    | false=>
     rw [hg] at h25
     have e2:brK ls L R (k+1)=brO ls L u O b0:=by rw [hbn];unfold brG;rw [hg];rfl
     have qe:=aI qR @qN;have jA:=h25;refine gE2 ?_
     all_goals exact ⟨by rw [e2];simp,hnS,hP⟩
    | true=>
     rw [hg] at h25
     have e2:brK ls L R (k+1)=zy ls (brO ls L u O b0) (zan L u (grO R u)) 1:=by rw [hbn];unfold brG;rw [hg];rfl
     have hml:=za1 L u (grO R u)
     have h88:=zdP hl hn hw hbO.ok hbO.cnt (zaR h2 hxm (grO R u)) (λy hy=>zaH hy) (by omega) (t:=1) (by omega)
     rw [<-e2] at h88
     have qe:=aI qR @qN;have jA:=h25;have jB:SX [] _:=⟨h88⟩;refine gE2 ?_
     all_goals exact ⟨hnS,hP⟩
 .rintro ⟨hk1,hk2⟩
  simp only [xaf] at hk1 hk2 ⊢
  unfold pT at hk2
  rw [xbM,xbH,pvF] at hk2
  subst hk2
  have qe:=aI @rtN @rtR;refine gE2 ?_
  all_goals exact .inl (.mk0 (h2:=by simp only [qS,seval,keepG.eq_1,keepG.eq_2,gLV.eq_1,gLV.eq_2,gLV.eq_5]<;>simp))
def ycK (ls:List Lim) (L:List Wis) (R:List Res) (S:List Rsn):Int:=if zeY ls L R=0 then if yad ls L R (zfz L R) S=true then 0 else 21 else zeY ls L R
def ycf (hw:zJ ls=0->zgb ls) (h12:ShW L) (R:List Res) (S:List Rsn) (hS:S.length<=1000000):Pure prog 66 [.sl 11 (ls.map Lim.pv),.sl 18 (L.map Wis.pv),.sl 3 (R.map Res.pv),.sl 6 (S.map Rsn.pv)] (.i .i64 (ycK ls L R S)):=by
 have h48:=zex hw h12 R;refine pz func66 f66.eq_1 λhwf X hX=>?_
 by_cases h0:zeY ls L R=0
 .obtain ⟨h1,h2,h3⟩:=zkA h0;have h0':=eq_true h0;have hl:=(zU h1).2;have hn32:=(zU h1).1;have hn:ls.length<=1000:=by omega
  have hw:=hw h1;have hpv:=ybg ls L R S (zfz L R) 0 (by omega)
  rw [xbw] at hpv;obtain ⟨q1,q2,hq⟩:∃ a b,pvF ls L R (zfz L R) S 0=(a,b):=⟨_,_,rfl⟩;rw [hq] at hpv;simp only [] at hpv;have h98:=yb0 hl hn hw h2 h12 h3 S hS hq;have e:ycK ls L R S=if (q1 && decide (q2=S.length))=true then 0 else 21:=by unfold ycK;rw [if_pos h0,hpv]
  rw [e];cases q1 with
  | false=>
   have qe:=aI qR (aI @qN (aI @h0' @xax));have jA:=h48;have jB:SX [(910,5),(911,11),(912,10),(913,7),(915,6)] _:=⟨h98⟩;have jC:=λu1 u2=>za0 u1 u2;exact gD5
  | true=>
   by_cases hc:q2=S.length
   .have hc':=eq_true (show (q2:Int)=(S.length:Int) by omega)
    rw [decide_eq_true hc];have qe:=vv qR @qN @h0' @hc' (aI @decide_true @xaC);have jA:=h48;have jB:SX [(910,5),(911,11),(912,10),(913,7),(915,6)] _:=⟨h98⟩;have jC:=λu1 u2=>za0 u1 u2;exact gD5
   .have hc':=eq_false (show ¬(q2:Int)=(S.length:Int) by omega)
    rw [decide_eq_false hc];have qe:=vv qR @qN @h0' @hc' (aI @decide_false (aI @xaC @xax));have jA:=h48;have jB:SX [(910,5),(911,11),(912,10),(913,7),(915,6)] _:=⟨h98⟩;have jC:=λu1 u2=>za0 u1 u2;exact gD5
 .have h0':=eq_false h0;have e:ycK ls L R S=zeY ls L R:=by unfold ycK;rw [if_neg h0]
  rw [e];have qe:=aI qR @h0';have jA:=h48;exact gD2
abbrev stdP (R:List Res) (S:List Rsn):PV:=.agg [.sl 3 (R.map Res.pv),.sl 6 (S.map Rsn.pv)]
def ycs (h:zav L=0) (R:List Res):(zfz L R).length<=64*9216:=by
 rw [yJ];have:=ya (f:=prI L R) (c:=9216) (l:=List.range L.length) λx hx=>by
  have hx:=xaG.1 hx
  by_cases hu:zau L x < 0\/(x:Int) < zau L x
  .rw [y5 R hu,xaf];exact yD h R (by omega)
  .rw [yah R hu];simp
 rw [xaU] at this;have:=(zR h).1
 omega
def rsA_ln (h:zav L=0) (R:List Res):(rsA ls L R).length<=64*9216:=by
 unfold rsA;have h1:=ya (f:=rsG ls L R) (c:=1) (l:=(zfz L R).takeWhile λx=>!rsP ls L R x) λx _=>zxF ls L R x
 have h2:=(List.takeWhile_prefix (l:=zfz L R) λx=>!rsP ls L R x).length_le
 have h3:=ycs h R
 omega
def ycr (ls:List Lim) (L:List Wis) (R:List Res) (S:List Rsn) (hn:ls.length*112<=140737488355328) (hL:L.length*192<=140737488355328) (hR:R.length*32<=140737488355328):Pure prog 10 [.sl 11 (ls.map Lim.pv),.sl 18 (L.map Wis.pv),stdP R S] (.b true):=by
 have h14:=ycq ls L hL;have h24:=zdC R hR;have h25:=ycm R 8;refine zqn (cFb func10 f10.eq_1) (by simp) λhwf X hX=>?_
 cases hs:(ym ls 3 && ycU L 5) with
 | false=>
  rw [hs] at h14;have qe:=aI qR (aI @xaC @xax);have jA:=pure6013;have jB:=h14;have jC:=nm 24 (.sl 3 []);have jD:=nm 25 (.b false);exact gD5
 | true=>
 rw [hs] at h14;rw [xau] at hs;cases hr:yaY R 8 with
 | false=>
  rw [hr] at h25;have qe:=aI qR (aI @xaC @xax);have jA:=pure6013;have jB:=h14;have jC:=h24;have jD:=h25;exact gD5
 | true=>
 rw [hr] at h25
 by_cases hS:(40:Int) < S.length
 .have hS':=eq_true hS;have qe:=aI qR (aI @hS' (aI @xaC @xax));have jA:=pure6013;have jB:=h14;have jC:=h24;have jD:=h25;exact gD5
 have hS':=eq_false hS;have hfw:zJ ls=0->zgb ls:=λh=>few_sh hs.1 h
 have hsw:=shw_sh hs.2;have h65:=zue hfw hsw R;have h66:=ycf hfw hsw R S (by omega)
 have h29:=yck ls L R;have h15:=yaJ L hL;have h17:=ycp ls hn;have h18:=yco L hL;have h27:=ycl R hR;have qe:=aI qR (aI @hS' (aI @xaC @xax));have jA:=pure6013;have jB:=h14;have jC:=h24;have jD:=h25;refine gE5 ?_;refine zh (κ:=Nat) (λk=>⟨[(0,.p (.sl 11 (ls.map Lim.pv))),(1,.p (.sl 18 (L.map Wis.pv))),(5,.lp 5 0),(41,.p (.sl 6 (S.map Rsn.pv))),(42,.p (.i .i64 S.length)),(43,.p (.i .i64 k))],[(5,.box [.p (.sl 3 (R.map Res.pv)),.p (.sl 6 (S.map Rsn.pv))] false)],[],false⟩) (λk=>k<=S.length/\∀ r ∈ S.take k,r.holders.length<=8) (λk=>S.length - k) 0 ?_ ?_ ?_
 .exact sS
 .simp
 .intro k hk;obtain ⟨hk,hh⟩:=hk
  by_cases hkl:k < S.length
  .have hkl':((k:Int) < (S.length:Int))=True:=eq_true (by omega)
   obtain ⟨r,hx⟩:=zj hkl
   by_cases c1:(60:Int) < r.name.size
   .have c1':=eq_true c1;have qe:=vv qR @hkl' @hx @c1' @decide_true;have jA:=pure6013;exact gD2
   .have c1':=eq_false c1
    by_cases c2:(8:Int) < r.holders.length
    .have c2':=eq_true c2;have qe:=vv qR @hkl' @hx @c1' (aI @c2' yDF);have jA:=pure6013;exact gD2
    .have c2':=eq_false c2;have qe:=vv qR @hkl' @hx @c1' (aI @c2' yDF);refine gE2 ?_
     all_goals exact ⟨k+1,⟨by omega,yU (p:=λy:Rsn=>y.holders.length<=8) hh hx (by omega)⟩,by omega,by simp⟩
  .have hkl':((k:Int) < (S.length:Int))=False:=eq_false (by omega)
   have e:k=S.length:=by omega
   subst e;rw [xah] at hh;have h67:=yce S (by omega) λr hr=>by have:=hh r hr;omega
   have h70:=yZ S (by omega)
   clear hkl hk;have qe:=aI qR (aI @hkl' @decide_false);repeat first|refine gG ?_|show AK _;intro J Z|refine gJ ?_|omega|exact aT
   have qe:=@qR;(refine gC ?_ ?_<;>intro hc<;>try contradiction)
   refine zcU ?_
   by_cases h0:zeY ls L R=0
   .obtain ⟨h1,h2,h3⟩:=zkA h0;have h68:=ycd h1 h2 h3;have h69:=ycc h1 h2 h3 S;have hln:=rsA_ln (ls:=ls) h2 R;have hrl:(zp8 ls L R).length<=64*9216:=by
     unfold zp8
     split
     .exact hln
     .simp
    have h70r:=yZ (zp8 ls L R) (by omega)
    have h71:=yaI (zp8 ls L R);have eR:zp8 ls L R=if rsS ls L R=true then [] else rsA ls L R:=by
     unfold zp8 zss;rw [if_pos h0];cases rsS ls L R<;>rfl
    have eE:zss ls L R=if rsS ls L R=true then 21 else 0:=by unfold zss;rw [if_pos h0]
    have eC:ycK ls L R S=if yad ls L R (zfz L R) S=true then 0 else 21:=by unfold ycK;rw [if_pos h0]
    rw [h0] at h29;rw [<-eR] at h68;rw [eE] at h65;rw [eC] at h66;generalize zp8 ls L R=A at *;cases hb1:rsS ls L R<;>cases hb2:yad ls L R (zfz L R) S
    all_goals rw [hb1] at h65 h68
    all_goals rw [hb2] at h66 h69
    all_goals simp only [if_true,xaD,if_false,xaC,xax] at h65 h66 h68
    all_goals (have qe:=vv qR @zb2 @decide_true @xaC @xax;repeat' first|refine gC ?_ ?_<;>intro hc<;>try contradiction|refine za h15 ?_|refine za h24 ?_|refine za h17 ?_|refine za h18 ?_|refine za h27 ?_|refine za h65 ?_|refine za h67 ?_|refine za h66 ?_|refine za h29 ?_|refine za h68 ?_|refine za h70 ?_|refine za h69 ?_|refine zg (λ_=>h70r) ?_|refine zg (λ_=>h71) ?_|refine gG ?_|show AK _;intro J Z|refine gJ ?_|omega|exact aT)
    all_goals exact .refl _
   .have h0':=eq_false h0;have eR:zp8 ls L R=[]:=by unfold zp8 zss;rw [if_neg h0,if_neg h0]
    have eE:zss ls L R=zeY ls L R:=by unfold zss;rw [if_neg h0]
    have eC:ycK ls L R S=zeY ls L R:=by unfold ycK;rw [if_neg h0]
    rw [eE,eR] at h65;rw [eC] at h66;have h70r:=yZ [] (by simp)
    have qe:=vv qR @h0' @zb2 @decide_true (aI @decide_false (@List.map_nil.{0,0}));repeat' first|refine gC ?_ ?_<;>intro hc<;>try contradiction|refine za h15 ?_|refine za h24 ?_|refine za h17 ?_|refine za h18 ?_|refine za h27 ?_|refine za h65 ?_|refine za h67 ?_|refine za h66 ?_|refine za h29 ?_|refine zg (λ_=>h70r) ?_|refine zg (λ_=>ybl) ?_|refine gG ?_|show AK _;intro J Z|refine gJ ?_|omega|exact aT
    all_goals exact .refl _
open Go.RowKit Go.Proofs.Tryz Go.ChangeShapes Go.WideShapes Go.ChangeAt
def rsnT6:List CP:=[.s,jT,jT,jT,jT,.sl false [.s]]
def yda {n:Nat} {l:List PV} (h:FitAll (Fit (n+1)) rsnT6 l):∃ x:Rsn,.agg l=x.pv:=by
 obtain ⟨v0,r0,e0,g0⟩:=ybI h;obtain ⟨v1,r1,e1,g1⟩:=yz g0;obtain ⟨v2,r2,e2,g2⟩:=yz g1;obtain ⟨v3,r3,e3,g3⟩:=yz g2;obtain ⟨v4,r4,e4,g4⟩:=yz g3;cases r4 with
 | nil=>exact absurd g4 (by simp [FitAll])
 | cons q r=>
  obtain ⟨⟨xs,hq,hx⟩,g5⟩:=g4;have e:=yaS g5;obtain ⟨H,rfl⟩:=yx (f:=PV.s) (xs:=xs) λx h=>by
   obtain ⟨l,rfl,hf⟩:=hx x h
   match l,hf with
   | [_],⟨h1,_⟩=>cases n<;>(obtain ⟨a,rfl⟩:=h1;exact ⟨a,rfl⟩)
  subst e0 e1 e2 e3 e4 e hq;exact ⟨⟨v0,v1,v2,v3,v4,H⟩,rfl⟩
def ycx:ycX prog 6 111=some (true,[.sl true resT6,.sl true rsnT6]):=by kernel_rfl
theorem ycE:(match prog.underlying 111 with
 | some (.struct fs)=>match fs.toList[0]? with
  | some f=>f.offset == 0 && f.type == 28
  | none=>false
 | _=>false)=true:=by kernel_rfl
def ycG {p:PV} (h:yP prog 6 111 p):∃ R S,p=stdP R S/\R.length*32<=140737488355328:=by
 obtain ⟨⟨ag,c,l,hp,rfl,hl⟩,_,hb⟩:=h;rw [ycx] at hp;simp only [xaK,xcf] at hp;obtain ⟨rfl,rfl⟩:=hp
 match l,hl with
 | [q1,q2],⟨⟨xs,hq,hx⟩,⟨ys,hq2,hy⟩,_⟩=>
  subst hq hq2;obtain ⟨R,rfl⟩:=yx (f:=Res.pv) (xs:=xs) λx h=>by
   obtain ⟨l,rfl,hf⟩:=hx x h;exact yde hf
  obtain ⟨S,rfl⟩:=yx (f:=Rsn.pv) (xs:=ys) λx h=>by
   obtain ⟨l,rfl,hf⟩:=hy x h;exact yda hf
  have hR:R.length*32<=140737488355328:=by
   have hf:=ycE
   split at hf
   .rename_i fs hu
    split at hf
    .rename_i f hf0;rw [xau,beq_iff_eq,beq_iff_eq] at hf;have:=hb fs f 79 _ _ _ hu (xae hf0) (by rw [hf.2];exact yb5) rfl (by rw [hf.1];rfl)
     rw [ycP,xaf] at this;unfold reachBytes at this;omega
    .cases hf
   .cases hf
  exact ⟨R,S,rfl,hR⟩
def ya2 (os:Os) (started:os.Started) (H:Type) (enc:TypeId × Value->H):ReturnsInHanded {} Tryz.checked os 10 .any (Rows.allocateReasonsSpec.pre6 enc prog f10 Rows.allocateReasonsRow.domain false) (Rows.allocateReasonsSpec.post enc prog f10 false true false false):=by
 refine returnsInHanded_of_change_shaped (C:=Tryz.checked) own started (by kernel_rfl) func10
  (ChangeSpec.witness6 (enc:=enc) (C:=Tryz.checked) false ⟨#[],#[.slice none 0 0,.slice none 0 0,.agg #[.slice none 0 0,.slice none 0 0]],[]⟩ 8 (by kernel_rfl) (by kernel_rfl) (by kernel_rfl) (by kernel_rfl)) ?_
 intro W base args ds gs before hval hW _ hsz _ _;refine yai (C:=Tryz.checked) (n:=6) (tb:=4) laid (by kernel_rfl) rfl (λH ds hd=>?_) (by kernel_rfl) und4 (by kernel_rfl) (λps hps=>?_) W base args ds gs before hval hW hsz
 .match ds,hd with
  | [_,_,_],_=>rfl
 .match ps,hps with
  | [a0,a1,a2],⟨h0,h1,h2,_⟩=>
   obtain ⟨l,rfl,hn⟩:=ybH h0;obtain ⟨L,rfl,hL⟩:=ycF h1;obtain ⟨R,S,rfl,hR⟩:=ycG h2;exact ycr l L R S hn hL hR
def ydI:(Rows.allocateReasonsRow.inPlace == prog.inPlace 10)=true:=by kernel_rfl
def ydH:(Rows.allocateReasonsRow.unfollowed == prog.unfollowed 10)=true:=by kernel_rfl
def ydG:(Rows.allocateReasonsRow.recurses == prog.recurses 10)=true:=by kernel_rfl
def ydF:(Rows.allocateReasonsRow.named == prog.varsNamed 10)=true:=by kernel_rfl
def ydE:Tryz.checked.prog.funcNamed Rows.allocateReasonsRow.func=some 10:=by kernel_rfl
def ydD:joinedFacts prog 10 f10 Rows.allocateReasonsSpec Rows.allocateReasonsRow=true:=
 ybD (by as_aux_lemma=>kernel_rfl) laid rowed (by as_aux_lemma=>kernel_rfl) ydI ydH ydG ydF (by as_aux_lemma=>kernel_rfl) (by as_aux_lemma=>kernel_rfl) (by as_aux_lemma=>kernel_rfl) (by as_aux_lemma=>kernel_rfl) (by as_aux_lemma=>kernel_rfl)
def ydC:f10.isInstance prog Rows.allocateReasonsRow.origin Rows.allocateReasonsRow.targs:=of_decide_eq_true (by kernel_rfl)
def ydB:f10.isWrapper prog Rows.allocateReasonsRow.wrapper Rows.allocateReasonsRow.mainSum:=by
 unfold Func.isWrapper;first|(rw [if_pos (by decide +kernel)];kernel_rfl)|(rw [if_neg (by decide +kernel)];exact ⟨rfl,rfl⟩)
def yW:Rows.allocateReasonsRow.holds Tryz.pinned (OpenSpec.ofChange Rows.allocateReasonsSpec):=
 OpenClaim.holds_of_wide 10 f10 rfl rfl rfl rfl rfl rfl rfl ⟨rfl,rfl,rfl,rfl,rfl⟩ rfl rfl rfl rfl rfl ydE func10 ydD ydC ydB
  (λos started H enc _=>ya2 os started H enc)
theorem reasons6_proved:Rows.AllocateReasonsSaid:=yW
