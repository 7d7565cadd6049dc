/- Contracts. No conditions. -/
import Derived.Test.YtbgckikhhcbmpaaGreatH0
set_option linter.all false
set_option maxHeartbeats 8000000
set_option maxRecDepth 100000
namespace Go.Proofs.YtbgckikhhcbmpaaGreat
open Go.RowKit Go.Proofs.Tryz
variable {x:ByteArray} {H:List ByteArray} {L M:List Wis} {i j m n:Nat} {o:Opt} {a b w:Wis}
def yb8 (n:ByteArray) (L:List Wis):-1<=zeH n L/\zeH n L < L.length:=by
 have h1:=zr9 n (zkG L);have h2:=zr7 n (zkG L);unfold zeH;rw [show (zkG L).length=L.length by unfold zkG;rw [xaf]] at h2
 exact ⟨h1,h2⟩
def ybd (L:List Wis) (hx:L[i]?=some w):Pure prog 91 [.sl 18 (L.map Wis.pv),.i .i64 i] (.i .i64 (zjj L i w)):=by
 have hil:i < L.length:=(xaa.1 hx).1
 obtain ⟨f1,f2⟩:=yb8 w.req.link L
 have h39:=yi L w.req.link
 refine pz func91 f91.eq_1 λhwf X hX=>?_
 by_cases c1:w.req.link=s0
 .have c1':=eq_true c1
  have e:zjj L i w=0:=by unfold zjj;rw [if_pos c1]
  rw [e]
  have qe:=aI qR (aI @hx @c1');exact gD2
 .have c1':=eq_false c1
  by_cases c2:zeH w.req.link L < 0
  .have c2':=eq_true c2
   have e:zjj L i w=10:=by
    unfold zjj
    rw [if_neg c1]
    split
    .rw [if_pos c2]
    .rfl
   rw [e]
   have qe:=aI qR (aI @hx (aI @c1' @c2'));have jA:=h39;exact gD2
  .have c2':=eq_false c2
   obtain ⟨k,hk⟩:∃ k:Nat,zeH w.req.link L=(k:Int):=⟨(zeH w.req.link L).toNat,by omega⟩
   obtain ⟨o,ho⟩:=zj (i:=k) (l:=L) (by omega)
   have e:zjj L i w=if (k:Int)=i\/o.req.link≠w.req.name\/o.req.kind=w.req.kind\/¬(o.req.per.fro=w.req.per.fro/\o.req.per.to=w.req.per.to/\o.req.per.days=w.req.per.days) then 32 else 0:=by
    unfold zjj
    rw [if_neg c1,hk,xam,ho]
    simp only []
    rw [if_neg (by omega)]
   rw [hk] at h39 c2'
   have hkl:k < L.length:=by omega
   rw [e]
   by_cases d1:(k:Int)=i
   .have d1':=eq_true d1
    rw [if_pos (.inl d1)]
    have qe:=aI qR (aI @hx (aI @ho (aI @c1' (aI @c2' (aI @d1' @decide_true)))));have jA:=h39;exact gD2
   .have d1':=eq_false d1
    by_cases d2:o.req.link=w.req.name
    .have d2':=eq_true d2
     by_cases d3:w.req.kind=o.req.kind
     .have d3':=eq_true d3
      rw [if_pos (.inr (.inr (.inl d3.symm)))]
      have qe:=aI qR (aI @hx (aI @ho (aI @c1' (aI @c2' (aI @d1' (aI @d2' (aI @d3' (aI @decide_true (aI @decide_false @xaC)))))))));have jA:=h39;exact gD2
     .have d3':=eq_false d3
      by_cases d4:w.req.per.fro=o.req.per.fro/\w.req.per.to=o.req.per.to/\w.req.per.days=o.req.per.days
      .obtain ⟨d5,d6,d7⟩:=d4
       have d5':=eq_true d5
       have d6':=eq_true d6
       have d7':=eq_true d7
       rw [if_neg (by rintro (h|h|h|h)<;>first|exact d1 h|exact h d2|exact d3 h.symm|exact h ⟨d5.symm,d6.symm,d7.symm⟩)]
       have qe:=aI qR (aI @hx (aI @ho (aI @c1' (aI @c2' (aI @d1' (aI @d2' (aI @d3' (aI @d5' (aI @d6' (aI @d7' (aI @decide_true (aI @decide_false (aI @xaC @xax)))))))))))));have jA:=h39;exact gD2
      .have d4':(decide (w.req.per.fro=o.req.per.fro) && (decide (w.req.per.to=o.req.per.to) && decide (w.req.per.days=o.req.per.days)))=false:=by
        rw [<-Bool.decide_and,<-Bool.decide_and];exact decide_eq_false d4
       rw [if_pos (.inr (.inr (.inr λh=>d4 ⟨h.1.symm,h.2.1.symm,h.2.2.symm⟩)))]
       have qe:=aI qR (aI @hx (aI @ho (aI @c1' (aI @c2' (aI @d1' (aI @d2' (aI @d3' (aI @d4' (aI @decide_true (aI @decide_false (aI @xaC @xax)))))))))));have jA:=h39;exact gD2
    .have d2':=eq_false d2
     rw [if_pos (.inr (.inl d2))]
     have qe:=aI qR (aI @hx (aI @ho (aI @c1' (aI @c2' (aI @d1' (aI @d2' (aI @decide_true (aI @decide_false @xax))))))));have jA:=h39;exact gD2
def yT (L:List Wis):Pure prog 21 [.sl 18 (L.map Wis.pv)] (.i .i64 (zav L)):=by
 refine pz func21 f21.eq_1 λhw X hX=>?_
 simp only [wfs,PV.wf,xaf,maxLen] at hw;refine gF2 (λhc=>?_) λhc=>?_
 .rw [zav,if_pos hc];exact .refl _
 have hsp:zav L=zn [zn (L.mapIdx (zcB L)),zn (L.mapIdx (zjj L))]:=by rw [zav,if_neg (by omega)]
 refine zh (κ:=Nat) (λi=>⟨[(0,.p (.sl 18 (L.map Wis.pv))),(3,.p (.i .i64 i))],[],[],false⟩) (λi=>i<=L.length/\∀ x ∈ (L.mapIdx (zcB L)).take i,x=0) (λi=>L.length - i) 0 ?_ ?_ ?_
 .exact sR
 .simp
 .intro i hi;refine gH (λhc=>?_) λhc=>?_
  .obtain ⟨x,hx⟩:=zj (i:=i) (l:=L) (by omega)
   have he:zcB L i x=zn [zfI x,if 0<=zeH x.req.name (L.take i) then 9 else 0]:=rfl
   have hft:=ybt hx;have h39:=yi L x.req.name
   by_cases c1:zfI x=0
   .have c1':=eq_true c1
    by_cases c2:zeH x.req.name L < i
    .have c2':=eq_true c2;have hv:zcB L i x=9:=by rw [he,zro c1,zwE,if_pos (hft.1 c2)]
     have hf:zav L=9:=by rw [hsp,zbr hi.2 (zaj hx) (by rw [hv];decide),hv,zlL (e:=9) (by decide)]
     rw [hf];have qe:=aI qR (aI @hx (aI @c1' @c2'));have jA:=yj x;have jB:=h39;exact gD2
    .have c2':=eq_false c2;have hv:zcB L i x=0:=by rw [he,zro c1,zwE,if_neg (λk=>c2 (hft.2 k))]
     have qe:=aI qR (aI @hx (aI @c1' @c2'));have jA:=yj x;have jB:=h39;refine gE2 ?_
     all_goals exact ⟨i+1,⟨by omega,zb0 hi.2 (zaj hx) hv⟩,by omega,by simp⟩
   .have c1':=eq_false c1;have hv:zcB L i x=zfI x:=by rw [he,zlL c1]
    have hf:zav L=zfI x:=by rw [hsp,zbr hi.2 (zaj hx) (by rw [hv];exact c1),hv,zlL c1]
    rw [hf];have qe:=aI qR (aI @hx @c1');have jA:=yj x;exact gD2
  .have ei:i=(L.mapIdx (zcB L)).length:=by simp;omega
   have hA:zn (L.mapIdx (zcB L))=0:=by subst ei;exact zbj hi.2
   rw [zro hA,zwE] at hsp;refine gE2 ?_;refine zh (κ:=Nat) (λi=>⟨[(0,.p (.sl 18 (L.map Wis.pv))),(5,.p (.i .i64 i))],[],[],false⟩) (λi=>i<=L.length/\∀ x ∈ (L.mapIdx (zjj L)).take i,x=0) (λi=>L.length - i) 0 ?_ ?_ ?_
   .exact sR
   .simp
   .clear hi ei;intro i hi;refine gH (λhc=>?_) λhc=>?_
    .obtain ⟨x,hx⟩:=zj (i:=i) (l:=L) (by omega)
     have h91:=ybd L hx
     by_cases c1:zjj L i x=0
     .have c1':=eq_true c1;have qe:=aI qR (aI @hx @c1');have jA:=h91;refine gE2 ?_
      all_goals exact ⟨i+1,⟨by omega,zb0 hi.2 (zaj hx) c1⟩,by omega,by simp⟩
     .have c1':=eq_false c1;have hf:zav L=zjj L i x:=by rw [hsp,zbr hi.2 (zaj hx) c1]
      rw [hf];have qe:=aI qR (aI @hx @c1');have jA:=h91;exact gD2
    .have ei:i=(L.mapIdx (zjj L)).length:=by simp;omega
     have hf:zav L=0:=by rw [hsp];subst ei;exact zbj hi.2
     rw [hf];exact gD2
def bigW (w:Wis):Bool:=((decide ((60:Int) < w.req.carrier.size) || decide ((60:Int) < w.req.partner.size)) || decide ((60:Int) < w.req.link.size)) || !shReq w.req
def yaw (w:Wis):Bool:=!bigW w && (!decide (zfI w=0) || (decide (((zac w).length:Int)<=8) && decide (w.req.per.to - w.req.per.fro < 10)))
def yak (w:Wis):Pure prog 33 [w.pv] (.b (yaw w)):=by
 have h17:=pure17 w.req;have h34:=yj w;refine pz func33 f33.eq_1 λhwf X hX=>?_
 have hno:bigW w=true->yaw w=false:=λh=>by unfold yaw;rw [h];rfl
 by_cases a1:(60:Int) < w.req.carrier.size
 .have a1':=eq_true a1;rw [hno (by unfold bigW;rw [decide_eq_true a1];simp)]
  have qe:=aI qR (aI @a1' @decide_true);have jA:=nm 113 (.b true);exact gD2
 have a1':=eq_false a1
 by_cases a2:(60:Int) < w.req.partner.size
 .have a2':=eq_true a2;rw [hno (by unfold bigW;rw [decide_eq_true a2];simp)]
  have qe:=aI qR (aI @a1' (aI @a2' yDF));have jA:=nm 113 (.b true);exact gD2
 have a2':=eq_false a2
 by_cases a3:(60:Int) < w.req.link.size
 .have a3':=eq_true a3;rw [hno (by unfold bigW;rw [decide_eq_true a3];simp)]
  have qe:=aI qR (aI @a1' (aI @a2' (aI @a3' yDF)));have jA:=nm 113 (.b true);exact gD2
 have a3':=eq_false a3;cases a4:shReq w.req with
 | false=>
  rw [a4] at h17;rw [hno (by unfold bigW;rw [a4];simp)]
  have qe:=aI qR (aI @a1' (aI @a2' (aI @a3' (aI @decide_true (aI @decide_false @xax)))));have jA:=h17;exact gD2
 | true=>
  rw [a4] at h17;have hb:bigW w=false:=by unfold bigW;rw [decide_eq_false a1,decide_eq_false a2,decide_eq_false a3,a4];rfl
  by_cases c0:zfI w=0
  .have c0':=eq_true c0;obtain ⟨_,f1,f2,f3,f4,f5⟩:=ybR c0;have h47:=yaj w f5 f2 f3 f1 f4;have hpr:0<=w.req.per.to/\w.req.per.to<=99999/\0<=w.req.per.fro/\w.req.per.fro<=99999:=by
    have hp:=zaI (zeR (ybR c0).1).1
    omega
   have hs:yaw w=(decide (((zac w).length:Int)<=8) && decide (w.req.per.to - w.req.per.fro < 10)):=by unfold yaw;rw [hb,decide_eq_true c0];rfl
   rw [hs]
   by_cases c1:((zac w).length:Int)<=8
   .have c1':=eq_true c1;rw [decide_eq_true c1,xaZ];have qe:=aI qR (aI @a1' (aI @a2' (aI @a3' (aI @c0' (aI @c1' (aI @decide_true (aI @decide_false @xaC)))))));have jA:=h17;have jB:=h34;have jC:=h47;exact gD5
   .have c1':=eq_false c1;rw [decide_eq_false c1,xa4];have qe:=aI qR (aI @a1' (aI @a2' (aI @a3' (aI @c0' (aI @c1' (aI @decide_true (aI @decide_false @xaC)))))));have jA:=h17;have jB:=h34;have jC:=h47;exact gD5
  .have c0':=eq_false c0;have hs:yaw w=true:=by unfold yaw;rw [hb,decide_eq_false c0];rfl
   rw [hs];have qe:=aI qR (aI @a1' (aI @a2' (aI @a3' (aI @c0' (aI @decide_true (aI @decide_false @xaC))))));have jA:=h17;have jB:=h34;have jC:=nm 47 (.sl 1 []);exact gD5
def longW (L:List Wis) (n:Int):Bool:=(decide (n < L.length) && decide ((L.length:Int)<=64)) || decide ((66:Int) < L.length)
def ya9 (L:List Wis) (n:Int):Bool:=!longW L n && L.all yaw
def ybe (L:List Wis) (n:Int):Pure prog 59 [.sl 18 (L.map Wis.pv),.i .i64 n] (.b (ya9 L n)):=by
 refine pz func59 f59.eq_1 λhwf X hX=>?_
 simp only [wfs,PV.wf,xaf,maxLen] at hwf;have qe:=@qR;refine gF2 (λhc=>?_) λhc=>?_
 .have:longW L n=true:=by simpa [longW] using hc
  rw [ya9,this];exact .refl _
 have hsh:longW L n=false:=by simpa [longW] using hc
 refine zh (κ:=Nat) (λi=>⟨[(0,.p (.sl 18 (L.map Wis.pv))),(5,.p (.i .i64 i))],[],[],false⟩) (λi=>i<=L.length/\∀ y ∈ L.take i,yaw y=true) (λi=>L.length - i) 0 ?_ ?_ ?_
 .exact sS
 .simp
 .intro i hi;refine gH (λhc=>?_) λhc=>?_
  .obtain ⟨y,hx⟩:=zj (i:=i) (l:=L) (by omega)
   have qe:=aI qR @hx;have jA:=yak y;refine gF2 (λhc=>?_) λhc=>?_
   .rw [ya9,hsh,ya7 hx hc];exact .refl _
   .exact ⟨i+1,⟨by omega,yY hi.2 hx hc⟩,by omega,by simp⟩
  .have e:i=L.length:=by omega
   subst e;have ha:=ya8 hi.2;have qe:=@qR;refine gE2 ?_;rw [ya9,hsh,ha];exact .refl _
def ybj (ls:List Lim) (L:List Wis) (hL:L.length*192<=140737488355328):Pure prog 14 [.sl 11 (ls.map Lim.pv),.sl 18 (L.map Wis.pv)] (.b (yc ls 3 && ya9 L 5)):=by
 have h15:=pure15 ls 3;refine pz func14 f14.eq_1 λhwf X hX=>?_
 cases hs:yc ls 3 with
 | true=>
  rw [hs] at h15;have qe:=@qR;have jA:=h15;have jB:=yr L hL;have jC:=ybe L 5;exact gD5
 | false=>
  rw [hs] at h15;have qe:=@qR;have jA:=h15;have jB:=nm 15 (.sl 18 []);have jC:=nm 59 (.b false);exact gD5
def few_sh {ls:List Lim} {n:Int} (hs:yc ls n=true) (hc:zJ ls=0):zgb ls:=by
 have hl:=(zU hc).2;have key:∀ k,k<=ls.length->(((List.range k).flatMap λi=>match ls[i]? with|some l=>(zaq l).map λx=>(i,x)|none=>[]).length:Int)=yaa ls k:=by
  intro k
  induction k with
  | zero=>intro _;simp [yaa]
  | succ k ih=>
   intro hk;have hx:=xac (l:=ls) (i:=k) (by omega)
   have h3:=yZ (hl _ (xae hx));rw [yx hx,zbE,xad,hx];have:=ih (by omega)
   simp only [xaf]
   omega
 refine zwD ?_;have h2:((winA ls).length:Int)=yaa ls ls.length:=key ls.length (xap _);unfold yc at hs;simp only [xau,decide_eq_true_eq] at hs
 omega
def shw_sh {n:Int} (hs:ya9 L n=true):ShW L:=λh w hw=>by
 unfold ya9 at hs;rw [xau] at hs;have h1:=xaO.1 hs.2 w hw;obtain ⟨i,hi⟩:=xbl.1 hw;have h0:=wis_e6 h hi;unfold yaw at h1;simp only [xau,xbg,xbv,decide_eq_false_iff_not,decide_eq_true_eq] at h1;have:=yX w
 rcases h1.2 with h2|h2
 .exact absurd h0 h2
 .omega
def ybf (ls:List Lim) (L:List Wis) (hL:L.length*192<=140737488355328):Pure prog 45 [.sl 11 (ls.map Lim.pv),.sl 18 (L.map Wis.pv)] (.b ((yc ls 3 && ya9 L 5) && (decide (zJ ls=0) && decide (zav L=0)))):=by
 have h14:=ybj ls L hL;refine pz func45 f45.eq_1 λhwf X hX=>?_
 cases hs:(yc ls 3 && ya9 L 5) with
 | false=>
  rw [hs] at h14;have qe:=@qR;have jA:=h14;have jB:=nm 20 (.i .i64 0);have jC:=nm 15 (.sl 18 []);have jD:=nm 21 (.i .i64 0);exact gD5
 | true=>
  rw [hs] at h14
  by_cases c1:zJ ls=0
  .have c1':=eq_true c1;rw [decide_eq_true c1]
   by_cases c2:zav L=0
   .have c2':=eq_true c2;rw [decide_eq_true c2];have qe:=aI qR (aI @c1' (aI @c2' @decide_true));have jA:=h14;have jB:=yaK ls;have jC:=yr L hL;have jD:=yT L;exact gD5
   .have c2':=eq_false c2;rw [decide_eq_false c2];have qe:=aI qR (aI @c1' (aI @c2' yDF));have jA:=h14;have jB:=yaK ls;have jC:=yr L hL;have jD:=yT L;exact gD5
  .have c1':=eq_false c1;rw [decide_eq_false c1];have qe:=aI qR (aI @c1' @decide_false);have jA:=h14;have jB:=yaK ls;have jC:=nm 15 (.sl 18 []);have jD:=nm 21 (.i .i64 0);exact gD5
def yb4 (hk:zau L i=-1) (ho:o ∈ zaS L ((i:Int),zau L i)):o.2=-1:=by
 unfold zaS at ho;simp only [xam,hk] at ho;cases ha:L[i]? with
 | none=>rw [ha] at ho;cases ho
 | some a=>
  rw [ha] at ho;simp only [] at ho;rw [if_pos (by omega)] at ho
  obtain ⟨m,_,rfl⟩:=xaN.1 ho
  rfl
def yab (h:zav L=0) (ha:L[i]?=some a) (ho:o ∈ zaS L ((i:Int),zau L i)):o.1 ∈ zac a/\∀ k b,LnkTo L i k a b->o.2 ∈ zac b/\ze8 a b o.1 o.2=true:=by
 unfold zaS at ho;simp only [xam,ha] at ho
 rcases zcH h ha with hk|⟨k,b,hk⟩
 .rw [if_pos (by omega)] at ho
  obtain ⟨m,hm,rfl⟩:=xaN.1 ho;exact ⟨hm,λk b hk2=>by have:=hk2.lab;omega⟩
 .rw [hk.lab] at ho;simp only [xam,hk.at_b] at ho;rw [if_neg (by omega)] at ho
  have ho:=(zhs _ _).mem_iff.1 ho;obtain ⟨x,hx,ho⟩:=xaw.1 ho;obtain ⟨y,hy,ho⟩:=xaw.1 ho
  split at ho
  .rename_i hp;rw [xaX] at ho;subst ho;refine ⟨hx,λk2 b2 hk2=>?_⟩
   have e1:=hk.lab;have e2:=hk2.lab;have e:k2=k:=by omega
   subst e;have e3:=hk.at_b;rw [hk2.at_b] at e3;injection e3 with e3;subst e3;exact ⟨hy,hp⟩
  .cases ho
section
variable {ls:List Lim} {L:List Wis} {F:Unt->List Opt}
def OwnF (L:List Wis) (F:Unt->List Opt):Prop:=∀ i,i < L.length->(zau L i < 0\/(i:Int) < zau L i)->∀ o ∈ F ((i:Int),zau L i),o ∈ zaS L ((i:Int),zau L i)
def ybp (L:List Wis):OwnF L (zaS L):=λ_ _ _ _ h=>h
theorem yR (ls:List Lim) (L:List Wis) (F:Unt->List Opt):∀ k,(zh6 ls L F k).length=L.length
 | 0=>by unfold zh6 zbU;simp
 | k+1=>by
  rw [yA];unfold srvI
  split
  .split
   .rw [zib];exact yR ls L F k
   .exact yR ls L F k
  .exact yR ls L F k
def yB (ls:List Lim) (L:List Wis) (F:Unt->List Opt):(zh6 ls L F L.length).length=L.length:=yR ls L F L.length
def yaF (h:zav L=0) (hj:j < L.length):za5 (zh6 ls L F L.length) j=yaf L j (zY L j) (yN ls L F (zY L j)):=zW (yz h _ hj)
def gr_is (h:zav L=0) (hO:OwnF L F) (hi:i < L.length) (hu:zau L i < 0\/(i:Int) < zau L i):grB (zh6 ls L F L.length) ((i:Int),zau L i)=(yN ls L F i).isSome/\∀ o,yN ls L F i=some o->grO (zh6 ls L F L.length) ((i:Int),zau L i)=o:=by
 have e:=yaF (ls:=ls) (F:=F) h hi;rw [zj4 hu] at e;refine ⟨?_,λo ho=>?_⟩
 .unfold grB;rw [xam,e];cases yN ls L F i<;>rfl
 .rw [ho] at e;unfold grO;rw [xam,e];obtain ⟨a,ha⟩:=zj hi
  rcases zcH h ha with hk|⟨k,b,hk⟩
  .have ho2:=yb4 hk (hO i hi hu _ (List.mem_of_find?_eq_some ho));rw [hk,if_pos (by omega)]
   unfold yaf;simp only [if_pos];rw [<-ho2]
  .have hlab:=hk.lab;have hkl:=(xaa.1 hk.at_b).1;have hik:i < k:=by omega
   have e2:=yaF (ls:=ls) (F:=F) h hkl;rw [zqW hk hik,ho] at e2;rw [hlab,if_neg (by omega),xam,e2]
   unfold yaf;simp only [if_pos];rw [if_neg (by omega)]
def ybG (h:zav L=0) (hO:OwnF L F):zc8 L (zh6 ls L F L.length)=0:=by
 have hn:=yB ls L F;unfold zc8;rw [if_neg (by omega)]
 have hopt:∀ {i:Nat} {o:Opt},i < L.length->(zau L i < 0\/(i:Int) < zau L i)->yN ls L F i=some o->o ∈ zaS L ((i:Int),zau L i):=λhi hu ho=>hO _ hi hu _ (List.mem_of_find?_eq_some ho)
 have h1:zn ((zh6 ls L F L.length).mapIdx (zkH L))=0:=by
  refine zbj λx hx=>?_
  obtain ⟨j,hj⟩:=xbl.1 (xbu hx);rw [xcp] at hj;obtain ⟨r,hr,rfl⟩:=xab.1 hj;have hjl:j < L.length:=by have:=(xaa.1 hr).1;omega
  obtain ⟨w,hw⟩:=zj hjl;rw [yz h _ hjl] at hr;injection hr with hr;subst hr;have hnm:nmW L j=w.req.name:=by unfold nmW;rw [hw]
  unfold zkH;rw [hw];simp only [];cases hf:yN ls L F (zY L j) with
  | none=>unfold yaf zfy;simp [hnm,zn]
  | some o=>
   have hle:=yn L j;have hld:zau L (zY L j) < 0\/((zY L j:Nat):Int) < zau L (zY L j):=by
    rcases zfZ h hjl with ⟨a,b⟩|⟨i,a,b,hk,hij,hl,hlt⟩
    .rw [a];exact b
    .rw [hl];exact .inr hlt
   have ho:=hopt (by omega) hld hf
   have hm:(if j=zY L j then o.1 else o.2) ∈ zac w:=by
    rcases zfZ h hjl with ⟨a,b⟩|⟨i,a,b,hk,hij,hl,hlt⟩
    .rw [if_pos a.symm];rw [a] at ho;exact (yab h hw ho).1
    .rw [hl,if_neg (by omega)]
     rw [hl] at ho;have hw2:=hk.at_a;rw [hw] at hw2;injection hw2 with hw2;subst hw2;exact ((yab h hk.at_b ho).2 j w hk.sw).1
   unfold yaf zfy;simp [hnm,zn,hm]
 have h2:(zq L).any (zhp L (zh6 ls L F L.length))=false:=by
  rw [Bool.eq_false_iff];intro hx;obtain ⟨u,hu,hb⟩:=xaV.1 hx;obtain ⟨i,hi,rfl,hlk⟩:=zdd.1 hu;obtain ⟨a,ha⟩:=zj hi
  rcases zcH h ha with hk|⟨k,b,hk⟩
  .unfold zhp at hb;rw [hk] at hb;simp at hb
  .have hlab:=hk.lab;have hkl:=(xaa.1 hk.at_b).1;have hik:i < k:=by omega
   obtain ⟨g1,g2⟩:=gr_is (ls:=ls) h hO hi hlk;have e1:=yaF (ls:=ls) (F:=F) h hi;rw [zj4 hlk] at e1;have e2:=yaF (ls:=ls) (F:=F) h hkl;rw [zqW hk hik] at e2;unfold zhp zyn at hb;rw [hlab] at hb g2;simp only [xam,ha,hk.at_b,show ¬((k:Int) < 0) by omega,decide_false,xb5,show (0:Int)<=k by omega,decide_true,xaZ] at hb
   cases hf:yN ls L F i with
   | none=>
    rw [hf] at e1 e2;rw [e1,e2] at hb;simp [yaf] at hb
   | some o=>
    have hp:=((yab h ha (hopt hi hlk hf)).2 k b hk).2;rw [g2 o hf] at hb;rw [hf] at e1 e2;rw [e1,e2] at hb;simp [yaf,hp] at hb
 rw [h1,h2];rfl
def sr_cnt (hl:∀ l ∈ ls,zr l=0) (h:zav L=0) (hO:OwnF L F) {l:Lim} (hn:ls[n]?=some l) {b:Int} (hb:b ∈ zaq l):∀ i,i<=L.length->zbb l (zbL L (zh6 ls L F L.length) λj=>decide (zY L j < i)) b<=l.most:=by
 have h0:=zaa (hl l (xae hn));intro i
 induction i with
 | zero=>
  intro _;rw [zmH λj _=>decide_eq_false (by omega),zbJ (by omega)]
  simp;omega
 | succ i ih=>
  intro hi;have ih:=ih (by omega)
  have hor:=zqw (L:=L) (R:=zh6 ls L F L.length) (f:=λj=>decide (zY L j < i)) (g:=λj=>decide (zY L j=i)) (h:=λj=>decide (zY L j < i+1)) (λj h1 h2=>by
   have h1:=of_decide_eq_true h1;have h2:=of_decide_eq_true h2
   omega) (λj=>by
   by_cases h1:zY L j < i
   .rw [decide_eq_true h1,decide_eq_true (show zY L j < i+1 by omega)];rfl
   .rw [decide_eq_false h1,xb5];exact decide_eq_decide.2 (by omega))
  rw [zng (by omega) hor,zrR (by omega)]
  by_cases hu:zau L i < 0\/(i:Int) < zau L i
  .rw [zng (by omega) (zpl h (ybG (ls:=ls) h hO) (by omega) hu)]
   obtain ⟨g1,g2⟩:=gr_is (ls:=ls) h hO (show i < L.length by omega) hu
   unfold unM;rw [g1];cases hf:yN ls L F i with
   | none=>
    rw [if_neg (by simp),zbJ (by omega) b []]
    simp;exact ih
   | some o=>
    rw [if_pos (show (some o).isSome=true from rfl),g2 o hf]
    have hfit:fitX ls L (zbL L (zh6 ls L F i) λj=>decide (zY L j < i)) ((i:Int),zau L i) o=true:=by
     have:=List.find?_some hf;exact this
    rw [<-yg h F (by omega)] at hfit
    unfold fitX at hfit;rw [List.isEmpty_iff] at hfit
    by_cases hc:0 < zbb l (zan L ((i:Int),zau L i) o) b
    .refine xbC λhh=>?_
     have:((n,b):Ky) ∈ xrW ls ((zbL L (zh6 ls L F L.length) λj=>decide (zY L j < i))++zan L ((i:Int),zau L i) o) (zan L ((i:Int),zau L i) o):=zhY.2 ⟨l,hn,hb,(by show l.most < zbb l (_++_) b;rw [zrR (by omega)];omega),hc⟩
     rw [hfit] at this;cases this
    .omega
  .rw [zmH (f:=λj=>decide (zY L j=i)) λj hj=>decide_eq_false λe=>by
    rcases zfZ h hj with ⟨a,b⟩|⟨i2,a,b,hk,hij,hl2,hlt⟩
    .rw [a] at e;subst e;exact hu b
    .rw [hl2] at e;subst e;exact hu (.inr hlt),zbJ (by omega) b []]
   simp;exact ih
def sr_alc (h1:zJ ls=0) (h:zav L=0) (hO:OwnF L F):zeY ls L (zh6 ls L F L.length)=0:=by
 have hl:=(zU h1).2;unfold zeY;rw [if_pos h1,if_pos h,if_pos (ybG (ls:=ls) h hO)];refine if_neg λhx=>?_
 have hne:=(ybD hl L _ λ_=>true).1 hx
 refine hne (yb9.2 λl hlm b hb=>?_)
 have h0:=zaa (hl l hlm);obtain ⟨n,hn⟩:=xbl.1 hlm;rw [zng (by omega) (zgx L _ _)]
 have:=sr_cnt hl h hO hn hb L.length (xap _);have e:zbL L (zh6 ls L F L.length) (λj=>decide (zY L j < L.length))=zbL L (zh6 ls L F L.length) λ_=>true:=by
  refine zez λi r hr _=>?_
  have hi:=(xaa.1 hr).1;rw [yB ls L F] at hi;have:=yn L i;exact decide_eq_true (by omega)
 rw [e] at this;exact this
end
def fnd_to (hN:NoD H) (e:atL x H=m):H[m]?=some x:=by
 obtain ⟨i,hi⟩:=xbl.1 ((zg5 x H).1 (by omega))
 have:=zyp hN hi;have h2:i=m:=by omega
 rw [<-h2];exact hi
def yaT (h:zav L=0) (hk:LnkTo L i m a b):a.req.link=b.req.name/\a.req.link≠s0:=by
 have e:=hk.lab;unfold zau zuE at e;rw [hk.at_a] at e;simp only at e
 split at e
 .omega
 .rename_i hn;have e2:=fnd_to (zz4 h) e;unfold zkG at e2;rw [xal,hk.at_b] at e2;injection e2 with e2;exact ⟨e2.symm,hn⟩
def ybL (h:zav L=0) (hw:L[i]?=some w) (hn:zau L i < 0):w.req.link=s0:=by
 refine Decidable.byContradiction λhl=>?_
 have he:=((zR h).2 i w hw).2;unfold zjj at he;rw [if_neg hl] at he;have h2:zeH w.req.link L < 0:=by
  unfold zau zuE at hn;rw [hw] at hn;simp only [if_neg hl] at hn;exact hn
 split at he
 .rw [if_pos h2] at he;cases he
 .cases he
def yaH {β:Type} (f:Nat->List β) {k:Nat} (h:k<=n):(List.range n).flatMap f=(List.range k).flatMap f++(List.range' k (n - k)).flatMap f:=by
 have:List.range n=List.range k++List.range' k (n - k):=by
  rw [List.range_eq_range',List.range_eq_range'];have:=List.range'_append (s:=0) (m:=k) (n:=n - k) (step:=1);rw [Nat.one_mul,xb8,show k+(n - k)=n by omega] at this
  exact this.symm
 rw [this,xa8]
def lnk_of (h:zav L=0) (ha:L[i]?=some a) (hb:L[m]?=some b) (h1:a.req.link≠s0) (h2:a.req.link=b.req.name):zau L i=m:=by
 unfold zau zuE;rw [ha];simp only [if_neg h1];rw [h2];exact zrj h hb
def yE (hn:n<=L.length) (hM:M=L.take n):M.length=n:=by rw [hM,xan];omega
def yF (hn:n<=L.length) (hM:M=L.take n) (hj:j < n):M[j]?=L[j]?:=by rw [hM,List.getElem?_take_of_lt hj]
def yD (h:zav L=0) (h':zav M=0) (hn:n<=L.length) (hM:M=L.take n) (hj:j < n):zau M j=zau L j:=by
 have hl:=yE hn hM;have e:=yF hn hM hj;obtain ⟨a,ha⟩:=zj (l:=M) (i:=j) (by omega)
 have ha2:=ha;rw [e] at ha2
 rcases zcH h' ha with hk|⟨k,b,hk⟩
 .have:=ybL h' ha (by omega)
  rw [hk];unfold zau zuE;rw [ha2];simp only [if_pos this]
 .obtain ⟨e1,e2⟩:=yaT h' hk;have hkl:=(xaa.1 hk.at_b).1;have hb:=hk.at_b;rw [yF hn hM (by omega)] at hb
  rw [hk.lab,lnk_of h ha2 hb e2 e1]
def yan (h:zav L=0) (h':zav M=0) (hn:n<=L.length) (hM:M=L.take n) (hj:j < n):zY M j=zY L j:=by unfold zY;rw [yD h h' hn hM hj]
def yb1 (h:zav L=0) (h':zav M=0) (hn:n<=L.length) (hM:M=L.take n) (hj:n<=j) (hjl:j < L.length):n<=zY L j:=by
 refine Nat.le_of_not_lt λhlt=>?_
 rcases zfZ h hjl with ⟨a,b⟩|⟨i,a,b,hk,hij,hl2,hlt2⟩
 .omega
 .rw [hl2] at hlt;have e:=yD h h' hn hM hlt;rw [hk.lba] at e;have hl:=yE hn hM;obtain ⟨c,hc⟩:=zj (l:=M) (i:=i) (by omega)
  rcases zcH h' hc with hq|⟨k,d,hq⟩
  .omega
  .have:=hq.lab;have:=(xaa.1 hq.at_b).1
   omega
def yU (h:zav L=0) (h':zav M=0) (hn:n<=L.length) (hM:M=L.take n) (hj:j < n) (m:Int):zfB M j m=zfB L j m:=by unfold zfB;rw [yF hn hM hj]
def ybI (h:zav L=0) (h':zav M=0) (hn:n<=L.length) (hM:M=L.take n) (hi:i < n):zau L i < n:=by
 have hl:=yE hn hM;rw [<-yD h h' hn hM hi];obtain ⟨c,hc⟩:=zj (l:=M) (i:=i) (by omega)
 rcases zcH h' hc with hq|⟨k,d,hq⟩
 .omega
 .have:=hq.lab;have:=(xaa.1 hq.at_b).1
  omega
def ybm (h:zav L=0) (h':zav M=0) (hn:n<=L.length) (hM:M=L.take n) (hi:i < n) (o:Opt):zan M ((i:Int),zau M i) o=zan L ((i:Int),zau L i) o:=by
 have hk:=ybI h h' hn hM hi;unfold zan;rw [yD h h' hn hM hi,xam,yU h h' hn hM hi]
 split
 .rfl
 .rename_i h0;simp only at h0;rw [yU h h' hn hM (by omega)]
def ybl (h:zav L=0) (h':zav M=0) (hn:n<=L.length) (hM:M=L.take n) (hi:i < n):zaS M ((i:Int),zau M i)=zaS L ((i:Int),zau L i):=by
 have hk:=ybI h h' hn hM hi;unfold zaS;simp only [xam];rw [yD h h' hn hM hi,yF hn hM hi];cases L[i]? with
 | none=>rfl
 | some a=>
  simp only
  split
  .rfl
  .rw [yF hn hM (by omega)]
def yb2 (h:zav L=0) (h':zav M=0) (hn:n<=L.length) (hM:M=L.take n) (ls:List Lim):∀ i,i < n->yN ls M (zaS M) i=yN ls L (zaS L) i:=by
 have hl:=yE hn hM;intro i
 induction i using Nat.strongRecOn with
 | _ i ih=>
  intro hi;have hA:(zbL M (zh6 ls M (zaS M) i) λj=>decide (zY M j < i))=zbL L (zh6 ls L (zaS L) i) λj=>decide (zY L j < i):=by
   rw [<-yg h' (zaS M) (by omega),<-yg h (zaS L) (by omega)]
   unfold zbL;rw [yaH _ (show n<=L.length from hn),hl]
   have hz:(List.range' n (L.length - n)).flatMap (zeA L (zh6 ls L (zaS L) L.length) λj=>decide (zY L j < i))=[]:=by
    refine List.flatMap_eq_nil_iff.2 λj hj=>?_
    have hj:=List.mem_range'_1.1 hj;have:=yb1 h h' hn hM (j:=j) (by omega) (by omega)
    have hf:decide (zY L j < i)=false:=decide_eq_false (by omega)
    unfold zeA;simp only [hf,Bool.and_false,xaD,if_false];cases (zh6 ls L (zaS L) L.length)[j]?<;>rfl
   rw [hz,xar];refine yt λj hj=>?_
   have hj:=xaG.1 hj;have hle:=yan h h' hn hM hj
   by_cases hlt:zY L j < i
   .have e1:=yz (ls:=ls) h' (zaS M) (j:=j) (by omega)
    have e2:=yz (ls:=ls) h (zaS L) (j:=j) (by omega)
    rw [hl] at e1;rw [hle,ih _ hlt (by omega)] at e1
    have hg:yaf M j (zY L j) (yN ls L (zaS L) (zY L j))=yaf L j (zY L j) (yN ls L (zaS L) (zY L j)):=by
     have:nmW M j=nmW L j:=by unfold nmW;rw [yF hn hM hj]
     unfold yaf;rw [this]
    rw [hg] at e1;unfold zeA;simp only [e1,e2,hle,yU h h' hn hM hj]
   .have hf:decide (zY L j < i)=false:=decide_eq_false hlt;have hf2:decide (zY M j < i)=false:=by rw [hle];exact hf
    unfold zeA;simp only [hf,hf2,Bool.and_false,xaD,if_false];cases (zh6 ls M (zaS M) n)[j]?<;>cases (zh6 ls L (zaS L) L.length)[j]?<;>rfl
  unfold yN;rw [hA,ybl h h' hn hM hi]
  congr 1
  funext o
  unfold fitX;rw [ybm h h' hn hM hi]
def yaO (h:zav L=0) (h':zav M=0) (hn:n<=L.length) (hM:M=L.take n) (ls:List Lim):zh6 ls M (zaS M) M.length=(zh6 ls L (zaS L) L.length).take n:=by
 have hl:=yE hn hM;refine xco λj=>?_
 by_cases hj:j < n
 .have hle:=yan h h' hn hM hj;have hlj:=yn L j;rw [List.getElem?_take_of_lt hj,yz h' _ (by omega),yz h _ (by omega),hle,yb2 h h' hn hM ls _ (by omega)]
  have:nmW M j=nmW L j:=by unfold nmW;rw [yF hn hM hj]
  unfold yaf;rw [this]
 .rw [xck (by rw [yB];omega),xck (by rw [xan];omega)]
def yb7 {n:ByteArray} (h:zeH n L < 0):∀ w ∈ L,w.req.name≠n:=λw hw e=>by
 have:0<=atL n (zkG L):=(zg5 _ _).2 (by unfold zkG;exact xaN.2 ⟨w,hw,e⟩)
 unfold zeH at h
 omega
def ybq (h:NoD H) (hx:x ∉ H):NoD (H++[x]):=λi j y hi hj=>by
 have key:∀ {i:Nat} {y:ByteArray},(H++[x])[i]?=some y->(i < H.length/\H[i]?=some y)\/(i=H.length/\y=x):=fun {i y} hi=>by
  by_cases hl:i < H.length
  .rw [xaT hl] at hi;exact .inl ⟨hl,hi⟩
  .rw [xaB (by omega)] at hi
   have hlt:=(xaa.1 hi).1;simp only [xaz,xbB] at hlt;have e:i - H.length=0:=by omega
   rw [e] at hi;simp only [xbJ,xaK] at hi;exact .inr ⟨by omega,hi.symm⟩
 rcases key hi with ⟨a,b⟩|⟨a,b⟩<;>rcases key hj with ⟨c,d⟩|⟨c,d⟩
 .exact h i j y b d
 .exact absurd (xae b) (by rw [d];exact hx)
 .exact absurd (xae d) (by rw [b];exact hx)
 .omega
def y8 (h:zav L=0) (hn:L.length < 64) (hw:zfI w=0) (hl:w.req.link=s0) (hf:zeH w.req.name L < 0):zav (L++[w])=0:=by
 obtain ⟨_,hall⟩:=zR h;have hnd:NoD (zkG (L++[w])):=by
  unfold zkG;rw [xa6];refine ybq (zz4 h) λhx=>?_
  obtain ⟨v,hv,e⟩:=xaN.1 hx;exact yb7 hf v hv e
 unfold zav;rw [if_neg (by simp;omega)]
 refine zi.2 ⟨y4 λi v hv=>?_,zi.2 ⟨y4 λi v hv=>?_,rfl⟩⟩
 .have hc:zfI v=0:=by
   by_cases hi:i < L.length
   .rw [xaT hi] at hv;exact (zi.1 (hall i v hv).1).1
   .rcases xaS.1 (xae hv) with hm|hm
    .obtain ⟨j,hj⟩:=xbl.1 hm;exact (zi.1 (hall j v hj).1).1
    .rw [xaX] at hm;rw [hm];exact hw
  have h2:=zBl hnd (i:=i) (x:=v.req.name) (by unfold zkG;rw [xal,hv];rfl)
  refine zi.2 ⟨hc,zi.2 ⟨if_neg ?_,rfl⟩⟩;unfold zeH zkG;unfold zkG at h2;rw [xbK];exact h2
 .by_cases hi:i < L.length
  .rw [xaT hi] at hv
   rcases zcH h hv with hq|⟨m,b,hq⟩
   .unfold zjj;rw [if_pos (ybL h hv (by omega))]
   .obtain ⟨e1,e2⟩:=yaT h hq;obtain ⟨e3,_⟩:=yaT h hq.sw;have hml:=(xaa.1 hq.at_b).1;have hb:(L++[w])[m]?=some b:=by rw [xaT hml];exact hq.at_b
    have e4:zeH v.req.link (L++[w])=m:=by
     unfold zeH;refine zyp hnd ?_;unfold zkG;rw [xal,hb,e1];rfl
    have hne:=hq.ne;unfold zjj;rw [if_neg e2,e4,xam,hb];simp only;rw [if_neg (by omega),if_neg]
    rintro (k1|k1|k1|k1)
    .omega
    .exact k1 e3
    .exact hq.kind k1
    .exact k1 (by rw [hq.per];exact ⟨rfl,rfl,rfl⟩)
  .rw [xaB (by omega)] at hv
   have hv:=xae hv;rw [xaX] at hv;unfold zjj;rw [hv,if_pos hl]
def ybb (h:zav L=0) (hn:L.length < 64) (hw:zfI w=0) (hl:w.req.link=s0) (hf:zeH w.req.name L < 0) (ls:List Lim):zh6 ls (L++[w]) (zaS (L++[w])) (L++[w]).length=zh6 ls L (zaS L) L.length++[zwl ls L (zh6 ls L (zaS L) L.length) w]:=by
 have h2:=y8 h hn hw hl hf;have hlen:(L++[w]).length=L.length+1:=by simp
 have hpre:=yaO (n:=L.length) h2 h (by omega) (by simp) ls
 have hat:(L++[w])[L.length]?=some w:=by simp
 have hlk:zau (L++[w]) L.length=-1:=by unfold zau zuE;rw [hat];simp only [if_pos hl]
 have hld:zY (L++[w]) L.length=L.length:=zj4 (.inl (by omega))
 have hlast:=yz (ls:=ls) h2 (zaS (L++[w])) (j:=L.length) (by omega)
 rw [hld] at hlast;have hA:(zbL (L++[w]) (zh6 ls (L++[w]) (zaS (L++[w])) L.length) λj=>decide (zY (L++[w]) j < L.length))=zbL L (zh6 ls L (zaS L) L.length) λ_=>true:=by
  rw [<-yg h2 _ (by omega)]
  unfold zbL;rw [yaH _ (show L.length<=(L++[w]).length by omega),hlen,show L.length+1 - L.length=1 by omega]
  have hz:(List.range' L.length 1).flatMap (zeA (L++[w]) (zh6 ls (L++[w]) (zaS (L++[w])) (L.length+1)) λj=>decide (zY (L++[w]) j < L.length))=[]:=by
   refine List.flatMap_eq_nil_iff.2 λj hj=>?_
   have hj:=List.mem_range'_1.1 hj;have e:j=L.length:=by omega
   have hf:decide (zY (L++[w]) j < L.length)=false:=decide_eq_false (by rw [e,hld];omega)
   unfold zeA;simp only [hf,Bool.and_false,xaD,if_false];cases (zh6 ls (L++[w]) (zaS (L++[w])) (L.length+1))[j]?<;>rfl
  rw [hz,xar];refine yt λj hj=>?_
  have hj:=xaG.1 hj;have hle:=yn (L++[w]) j;have ht:decide (zY (L++[w]) j < L.length)=true:=decide_eq_true (by omega)
  have e:=congrArg (λX:List Res=>X[j]?) hpre
  simp only [List.getElem?_take_of_lt hj] at e;unfold zeA zfB;simp only [ht];rw [<-hlen,<-e,xaT hj]
 have hfnd:yN ls (L++[w]) (zaS (L++[w])) L.length=((zac w).find? (zst ls (zbL L (zh6 ls L (zaS L) L.length) λ_=>true) w)).map λm=>(m,-1):=by
  unfold yN;rw [hA,hlk];unfold zaS;simp only [xam,hat];rw [if_pos (by omega),List.find?_map]
  congr 1
  congr 1
  funext m
  unfold fitX zst zan zfB Function.comp;simp only [xam,hat];rw [if_pos (by omega),xar]
 rw [hfnd] at hlast;have hnm:nmW (L++[w]) L.length=w.req.name:=by unfold nmW;rw [hat]
 have hl2:=yB ls (L++[w]) (zaS (L++[w]));refine xco λj=>?_
 have hl1:=yB ls L (zaS L)
 rcases Nat.lt_trichotomy j L.length with hj|hj|hj
 .rw [xaT (by omega),hpre,List.getElem?_take_of_lt hj]
 .subst hj;rw [hlast,xaB (by omega),hl1,xcm]
  unfold zwl yaf;cases (zac w).find? (zst ls (zbL L (zh6 ls L (zaS L) L.length) λ_=>true) w) with
  | none=>simp [hnm]
  | some m=>simp [hnm]
 .rw [xck (by omega),xck (by simp;omega)]
def ybs (h:zav L=0) (hw:L[i]?=some w) (hl:zau L i < 0):za5 (zh6 [] L (zaS L) L.length) i=⟨w.req.name,w.req.minute,true⟩:=by
 have hi:=(xaa.1 hw).1;have e:=yaF (ls:=[]) (F:=zaS L) h hi;rw [zj4 (.inl hl)] at e;rw [e];have hwe:=(zi.1 ((zR h).2 i w hw).1).1;obtain ⟨_,h1,h2,h3,h4,h5,h6⟩:=ybR hwe;have hc:∃ r,zac w=w.req.minute::r:=by
  rw [ybP h5 h2 h3 h1 h4];unfold y9;have hK:0 < kS w.step:=(yb6 h5 0).2 (by simp)
  obtain ⟨K,hK⟩:∃ K,kS w.step=K+1:=⟨kS w.step - 1,by omega⟩
  have e0:yL w.req.minute w.ear w.lat w.step 0=[w.req.minute]:=by unfold yL;simp [h2]
  rw [hK,List.range_succ_eq_map,xat,e0];exact ⟨_,rfl⟩
 obtain ⟨r,hr⟩:=hc;have hf:yN [] L (zaS L) i=some (w.req.minute,-1):=by
  unfold yN zaS;simp only [xam,hw];rw [if_pos hl,hr,xaj,List.find?_cons]
  rfl
 rw [hf];unfold yaf nmW;simp only [hw,if_pos]
def shwi_g (h:yaw w=true) (h0:zfI w=0):zg2 w.req.minute w.ear w.lat w.step<=12:=by
 unfold yaw at h;simp only [xau,xbg,xbv,decide_eq_false_iff_not,decide_eq_true_eq] at h;have:=yX w
 rcases h.2 with h2|h2
 .exact absurd h0 h2
 .omega
def ybE (L:List Wis) (hn:L.length*192<=140737488355328):zbk prog 18 [.p (.sl 18 (L.map Wis.pv))] [] (.row 3 L.length) [(3,.row 61 18 (L.map Wis.pv) false)]:=by
 refine zD (cF func18 f18.eq_1) (by simp) (by simp [scPs,scP]) (by simp [scObj]) trivial (by simp [scObj,scPs,scP,zm]) trivial λX hX=>?_
 unfold zx ghO;have qe:=aI qR (aI @qN (aI @ybQ (aI @zwW (aI @rtN @rtR))));refine gE2 ?_
 all_goals exact .inl (.mk1)
def ybk (ls:List Lim) (L:List Wis) (w:Wis) (hn:ls.length*112<=140737488355328) (hL:L.length*192<=140737488355328):Pure prog 6 [.sl 11 (ls.map Lim.pv),.sl 18 (L.map Wis.pv),w.pv] (.b true):=by
 have h45:=ybf ls L hL;have h33:=yak w;have h34:=yj w;have hy:=yr L hL;have h39:=yi L w.req.name;refine zqn (cFb func6 f6.eq_1) (by simp) λhwf X hX=>?_
 by_cases h4:4 < L.length
 .have h4':((4:Int) < (L.length:Int))=True:=eq_true (by omega)
  have qe:=aI qR (aI @h4' (aI @xaC (aI @xax @decide_true)));repeat' first|refine gC ?_ ?_<;>intro hc<;>try contradiction|refine za pure6013 ?_|refine run_callFX (nm 45 (.b false)) ?_|refine run_callFX (nm 33 (.b false)) ?_|refine run_callFX (nm 34 (.i .i64 0)) ?_|refine run_callFX (nm 15 (.sl 18 [])) ?_|refine run_callFX (nm 39 (.i .i64 0)) ?_|refine gG ?_|show AK _;intro J Z|refine gJ ?_|omega|exact aT
  all_goals exact .refl _
 have h4':((4:Int) < (L.length:Int))=False:=eq_false (by omega)
 cases hv:((yc ls 3 && ya9 L 5) && (decide (zJ ls=0) && decide (zav L=0))) with
 | false=>
  rw [hv] at h45;have qe:=aI qR (aI @h4' (aI @xaC (aI @xax yDF)));repeat' first|refine gC ?_ ?_<;>intro hc<;>try contradiction|refine za pure6013 ?_|refine zg (λ_=>h45) ?_|refine run_callFX (nm 33 (.b false)) ?_|refine run_callFX (nm 34 (.i .i64 0)) ?_|refine run_callFX (nm 15 (.sl 18 [])) ?_|refine run_callFX (nm 39 (.i .i64 0)) ?_|refine gG ?_|show AK _;intro J Z|refine gJ ?_|omega|exact aT
  all_goals exact .refl _
 | true=>
 rw [hv] at h45;simp only [xau,decide_eq_true_eq] at hv;obtain ⟨⟨hs1,hs2⟩,hc1,hc2⟩:=hv;cases hws:yaw w with
 | false=>
  rw [hws] at h33;have qe:=aI qR (aI @h4' (aI @xaC (aI @xax yDF)));repeat' first|refine gC ?_ ?_<;>intro hc<;>try contradiction|refine za pure6013 ?_|refine zg (λ_=>h45) ?_|refine zg (λ_=>h33) ?_|refine run_callFX (nm 34 (.i .i64 0)) ?_|refine run_callFX (nm 15 (.sl 18 [])) ?_|refine run_callFX (nm 39 (.i .i64 0)) ?_|refine gG ?_|show AK _;intro J Z|refine gJ ?_|omega|exact aT
  all_goals exact .refl _
 | true=>
 rw [hws] at h33
 by_cases hwe:zfI w=0
 case neg=>
  have hwe':=eq_false hwe;have qe:=aI qR (aI @h4' (aI @hwe' (aI @xaC (aI @xax yDF))));repeat' first|refine gC ?_ ?_<;>intro hc<;>try contradiction|refine za pure6013 ?_|refine zg (λ_=>h45) ?_|refine zg (λ_=>h33) ?_|refine zg (λ_=>h34) ?_|refine run_callFX (nm 15 (.sl 18 [])) ?_|refine run_callFX (nm 39 (.i .i64 0)) ?_|refine gG ?_|show AK _;intro J Z|refine gJ ?_|omega|exact aT
  all_goals exact .refl _
 have hwe':=eq_true hwe
 by_cases hwl:w.req.link=s0
 case neg=>
  have hwl':=eq_false hwl;have qe:=aI qR (aI @h4' (aI @hwe' (aI @hwl' (aI @xaC (aI @xax yDF)))));repeat' first|refine gC ?_ ?_<;>intro hc<;>try contradiction|refine za pure6013 ?_|refine zg (λ_=>h45) ?_|refine zg (λ_=>h33) ?_|refine zg (λ_=>h34) ?_|refine run_callFX (nm 15 (.sl 18 [])) ?_|refine run_callFX (nm 39 (.i .i64 0)) ?_|refine gG ?_|show AK _;intro J Z|refine gJ ?_|omega|exact aT
  all_goals exact .refl _
 have hwl':=eq_true hwl
 by_cases hwn:0<=zeH w.req.name L
 .have hwn':=eq_true hwn;have qe:=aI qR (aI @h4' (aI @hwe' (aI @hwl' (aI @hwn' (aI @xaC (aI @xax yDF))))));repeat' first|refine gC ?_ ?_<;>intro hc<;>try contradiction|refine za pure6013 ?_|refine zg (λ_=>h45) ?_|refine zg (λ_=>h33) ?_|refine zg (λ_=>h34) ?_|refine zg (λ_=>hy) ?_|refine zg (λ_=>h39) ?_|refine gG ?_|show AK _;intro J Z|refine gJ ?_|omega|exact aT
  all_goals exact .refl _
 have hwn':=eq_false hwn;have hfw:=few_sh hs1 hc1;have hsw:=shw_sh hs2;have hw12:zg2 w.req.minute w.ear w.lat w.step<=12:=shwi_g hws hwe;have hal:=sr_alc (ls:=ls) hc1 hc2 (ybp L);have hRl:=yB ls L (zaS L);have h0:∀ us:List Lim,∀ M:List Wis,zJ us=0->zav M=0->zn [zJ us,zav M]=0:=λus M a b=>zi.2 ⟨a,zi.2 ⟨b,rfl⟩⟩
 have h16:=zmE (ls:=ls) (λ_=>hfw) hsw
 rw [h0 ls L hc1 hc2,if_pos rfl,zii (zU hc1).2 hc2 (zaS L)] at h16;have hpre:∀ k,k<=L.length->zav (L.take k)=0->Pure prog 16 [.sl 11 (ls.map Lim.pv),.sl 18 ((L.map Wis.pv).take k)] (.tup [.sl 3 (((zh6 ls L (zaS L) L.length).take k).map Res.pv),.i .i64 0]):=λk hk hck=>by
  have:=zmE (ls:=ls) (λ_=>hfw) (L:=L.take k) (λ_ v hv=>hsw hc2 v (xbu hv))
  rw [h0 ls _ hc1 hck,if_pos rfl,zii (zU hc1).2 hck (zaS (L.take k)),yaO hc2 hck hk rfl ls,xbK] at this;exact this
 have hck:=y8 hc2 (by omega) hwe hwl (by omega)
 have h16s:=zmE (ls:=ls) (λ_=>hfw) (L:=L++[w]) (λ_ v hv=>by
  rcases xaS.1 hv with h|h
  .exact hsw hc2 v h
  .rw [xaX] at h;rw [h];exact hw12)
 rw [h0 ls _ hc1 hck,if_pos rfl,zii (zU hc1).2 hck (zaS (L++[w])),ybb hc2 (by omega) hwe hwl (by omega) ls,xa6 (f:=Wis.pv)] at h16s
 have h35:=zuk (ls:=ls) (λ_=>hfw) hsw (zh6 ls L (zaS L) L.length) w (λ_=>hw12)
 have hre:zwm ls L (zh6 ls L (zaS L) L.length) w=0:=by
  unfold zwm zxK;rw [if_pos hal];exact zi.2 ⟨hwe,zi.2 ⟨if_neg hwn,zi.2 ⟨if_neg (λk=>k hwl),zi.2 ⟨if_neg (by omega),rfl⟩⟩⟩⟩
 rw [show ztx ls L (zh6 ls L (zaS L) L.length) w=zh6 ls L (zaS L) L.length++[zwl ls L (zh6 ls L (zaS L) L.length) w] by unfold ztx;rw [if_pos hre],hre] at h35
 have hz:zJ []=0:=rfl;have h16f:=zmE (ls:=[]) (λ_ W hn hW=>by
  cases W with
  | nil=>simp
  | cons k W=>obtain ⟨l,a,b⟩:=hW k (by simp);simp at a) hsw
 rw [h0 [] L hz hc2,if_pos rfl,zii (by simp) hc2 (zaS L)] at h16f
 have hFl:=yB [] L (zaS L);have hown:=λi v (hv:L[i]?=some v) hl=>ybs hc2 hv (i:=i) hl
 generalize zh6 [] L (zaS L) L.length=F at *
 replace h16f:Pure prog 16 [.nilsl,.sl 18 (L.map Wis.pv)] (.tup [.sl 3 (F.map Res.pv),.i .i64 0]):=ybY h16f ⟨.nilsl _,.refl _,trivial⟩
 clear hal hre;generalize hAe:zh6 ls L (zaS L) L.length++[zwl ls L (zh6 ls L (zaS L) L.length) w]=A at *;have hAl:A.length=L.length+1:=by rw [<-hAe,xad,hRl];rfl
 clear hAe;generalize zh6 ls L (zaS L) L.length=R at *;have h17:=ybi ls hn;have h18:=yam L hL;have h18a:=ybE L hL;have h27:=ybh R (by omega)
 have hA24:=zdC A (by omega)
 have hA23:=zie A;have qe:=aI qR (aI @h4' (aI @hwe' (aI @hwl' (aI @hwn' (aI @hRl (aI @xaC (aI @xax (aI @zb2 yDF))))))));repeat' first|refine gC ?_ ?_<;>intro hc<;>try contradiction|refine za pure6013 ?_|refine zg (λ_=>h45) ?_|refine zg (λ_=>h33) ?_|refine zg (λ_=>h34) ?_|refine zg (λ_=>hy) ?_|refine zg (λ_=>h39) ?_|refine za hy ?_|refine za h17 ?_|refine za h18 ?_|refine za h16 ?_|refine gG ?_|show AK _;intro J Z|refine gJ ?_|omega|exact aT
 refine zh (κ:=Nat) (λk=>⟨[(0,.p (.sl 11 (ls.map Lim.pv))),(1,.p (.sl 18 (L.map Wis.pv))),(5,.lp 5 0),(7,.p (.sl 18 (L.map Wis.pv))),(8,.p (.sl 3 (R.map Res.pv))),(79,.p (.i .i64 L.length)),(80,.p (.i .i64 k))],[(5,.box [.p (.s w.req.name),.p (.s w.req.carrier),.p (.s w.req.kind),.p (.s w.req.term),.p (.s w.req.partner),.p (.s w.req.link),.p (.i .i64 w.req.per.fro),.p (.i .i64 w.req.per.to),.p (.i .i64 w.req.per.days),.p (.i .i64 w.req.minute),.p (.i .i64 w.req.seats),.p (.i .i64 w.req.size),.p (.i .i64 w.req.noise),.p (.i .i64 w.ear),.p (.i .i64 w.lat),.p (.i .i64 w.step),.p (.i .i64 w.least),.p (.i .i64 w.most)] false)],[],false⟩) (λk=>k<=L.length) (λk=>L.length - k) 0 ?_ ?_ ?_
 .exact sS
 .simp
 .intro k hk
  by_cases hkl:k < L.length
  .have hkl':((k:Int) < (L.length:Int))=True:=eq_true (by omega)
   have h21:=yT (L.take k);rw [xbK] at h21
   by_cases hck:zav (L.take k)=0
   .have hck':=eq_true hck;have h16k:=hpre k (by omega) hck
    have h18k:=yam (L.take k) (by rw [xan];omega)
    have h24k:=zdC (R.take k) (by rw [xan];omega)
    have h24m:=h24k;have h23k:=zie (R.take k);rw [xbK] at h18k;rw [xbK (f:=Res.pv)] at h24k h16k h23k;have qe:=aI qR (aI @hkl' (aI @hck' (aI @List.length_map.{0,0} (aI @xaC (aI @zb2 @decide_true)))));repeat' first|refine gC ?_ ?_<;>intro hc<;>try contradiction|refine za h21 ?_|refine za h17 ?_|refine za h18k ?_|refine za h16k ?_|refine zg (λ_=>h24k) ?_|refine zg (λ_=>h23k) ?_|refine gG ?_|show AK _;intro J Z|refine gJ ?_|omega|exact aT
    all_goals exact ⟨k+1,by omega,by omega,by simp⟩
   .have hck':=eq_false hck;have qe:=aI qR (aI @hkl' (aI @hck' (aI @List.length_map.{0,0} (aI @xaC yDF))));have jA:=h21;refine gE2 ?_
    all_goals exact ⟨k+1,by omega,by omega,by simp⟩
  .have hkl':((k:Int) < (L.length:Int))=False:=eq_false (by omega)
   clear hkl hk hpre;have qe:=aI qR (aI @qN (aI @hkl' (aI @hFl (aI @xaC (aI @zb2 (aI @decide_true (aI @decide_false (aI @rtN @rtR))))))));repeat' first|refine gC ?_ ?_<;>intro hc<;>try contradiction|refine za h17 ?_|refine zf [(3,500)] (h18a) ?_|refine zf [(3,501)] (h18a) ?_|refine zf [(3,502)] (h18a) ?_|refine za h27 ?_|refine zo (h35) ?_|refine zo (h16s) ?_|refine zo (h16f) ?_|refine zg (λ_=>hA24) ?_|refine zg (λ_=>hA23) ?_|refine gG ?_|show AK _;intro J Z|refine gJ ?_|omega|exact aT
   refine zh (κ:=Nat) (λk=>⟨[(0,.p (.sl 11 (ls.map Lim.pv))),(1,.p (.sl 18 (L.map Wis.pv))),(7,.p (.sl 18 (L.map Wis.pv))),(17,.p (.sl 3 (F.map Res.pv))),(165,.p (.i .i64 L.length)),(166,.p (.i .i64 k))],[],[],false⟩) (λk=>k<=L.length) (λk=>L.length - k) 0 ?_ ?_ ?_
   .exact sS
   .simp
   .intro k hk
    by_cases hkl:k < L.length
    .have hkl':((k:Int) < (L.length:Int))=True:=eq_true (by omega)
     obtain ⟨v,hv⟩:=zj hkl;obtain ⟨f,hf⟩:=zj (l:=F) (i:=k) (by omega)
     have h40:=ybg L hkl;have hown:=hown k v hv;rw [zW hf] at hown
     by_cases hl:zau L k < 0
     .have hl':=eq_true hl;have hown:=hown hl;subst hown;have qe:=aI qR (aI @hkl' (aI @hv (aI @hf (aI @hl' (aI @xaC (aI @zb2 yDF))))));have jA:=nm 40 (.i .i64 0);have jB:=h40;refine gE2 ?_
      all_goals exact ⟨k+1,by omega,by omega,by simp⟩
     .have hl':=eq_false hl;cases hg:f.gr with
      | false=>
       have qe:=aI qR (aI @hkl' (aI @hv (aI @hf (aI @hg (aI @hl' (aI @xaC (aI @xax yDF)))))));have jA:=h40;refine gE2 ?_
       all_goals exact ⟨k+1,by omega,by omega,by simp⟩
      | true=>
       have qe:=aI qR (aI @hkl' (aI @hv (aI @hf (aI @hg (aI @hl' (aI @xaC yDF))))));have jA:=nm 40 (.i .i64 0);have jB:=h40;refine gE2 ?_
       all_goals exact ⟨k+1,by omega,by omega,by simp⟩
    .have hkl':((k:Int) < (L.length:Int))=False:=eq_false (by omega)
     have qe:=aI qR (aI @hkl' @decide_false);exact gD2
