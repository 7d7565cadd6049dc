/- For every list of limits and every list of wishes the statement AllocateServes of chapter 6 returns true: Serve returns the allocation or the error of the reference. No conditions. -/
import Derived.Test.YtbgckikhhcbmpaaGreatRows
import Derived.Test.YtbgckikhhcbmpaaGreatS1
set_option linter.all false
set_option maxHeartbeats 8000000
set_option maxRecDepth 100000
namespace Go.Proofs.YtbgckikhhcbmpaaGreat
open Go.RowKit Go.Proofs.Tryz
structure RsN (L:List Wis) (R:List Res):Prop where
 ok:RsOk L R
 nm:∀ i r,R[i]?=some r->r.name=nmW L i
def refu_n (L:List Wis):RsN L (zbU L):=by
 refine ⟨⟨by simp [zbU],λr hr hg=>?_⟩,λi r hr=>?_⟩
 .obtain ⟨w,_,rfl⟩:=xaM.1 hr;cases hg
 .unfold zbU at hr;rw [xal,xab] at hr;obtain ⟨w,hw,rfl⟩:=hr;unfold nmW;rw [hw]
def yaJ {L:List Wis} {R:List Res} (h:RsN L R) (i:Nat) {m:Int} (hm:0<=m/\m<=1439):RsN L (zji R i m):=by
 obtain ⟨⟨h1,h2⟩,h3⟩:=h;cases hr:R[i]? with
 | none=>
  have e:zji R i m=R:=by unfold zji;rw [hr]
  rw [e];exact ⟨⟨h1,h2⟩,h3⟩
 | some r=>
  rw [zpG hr];refine ⟨⟨by simp [h1],λx hx hg=>?_⟩,λj x hx=>?_⟩
  .rcases List.mem_or_eq_of_mem_set hx with hx|rfl
   .exact h2 x hx hg
   .exact hm
  .by_cases e:j=i
   .subst e;rw [xbr (xaa.1 hr).1] at hx;injection hx with hx;rw [<-hx];exact h3 j r hr
   .rw [xbQ (Ne.symm e)] at hx;exact h3 j x hx
def putR_n {L:List Wis} {R:List Res} (h:RsN L R) (u:Unt) {o:Opt} (h1:0<=o.1/\o.1<=1439) (h2:0<=u.2->0<=o.2/\o.2<=1439):RsN L (zn9 R u o):=by
 unfold zn9
 split
 .exact yaJ h _ h1
 .exact yaJ (yaJ h _ h1) _ (h2 (by omega))
def yci {ls:List Lim} (hl:∀ l ∈ ls,zr l=0) (L:List Wis) (R:List Res) (i:Nat) (u:Unt) (o:Opt):(xrW ls (zhC zjb (zlk L R (ye L i (-1))) (yau L u o)) (yau L u o)).isEmpty=fitX ls L (zbL L R λj=>decide (zY L j < i)) u o:=by
 have e:ye L i (-1)=λj=>decide (zY L j < i):=by
  funext j
  unfold ye;rw [decide_eq_true (show (zY L j:Int)≠-1 by omega),xbN]
  exact decide_eq_decide.2 (by omega)
 rw [xr_ref hl,e];rfl
def ybs (L:List Wis) (hn:L.length<=64):Pure prog 92 [.sl 18 (L.map Wis.pv)] (.sl 3 ((zbU L).map Res.pv)):=by
 refine pz func92 f92.eq_1 λhw X hX=>?_
 have qe:=@qR;repeat' first|refine gC ?_ ?_<;>intro hc<;>try contradiction|refine gG ?_|show AK _;intro J Z|refine gJ ?_|omega|exact aT
 refine run_ownL 100 165 3 (κ:=Nat) (λk=>⟨[(0,.p (.sl 18 (L.map Wis.pv))),(3,.row 100 (zbU (L.take k)).length),(4,.p (.i .i64 k))],[(100,.row 165 3 ((zbU (L.take k)).map Res.pv) false)],[],false⟩) (λk=>k<=L.length) (λk=>L.length - k) 0 ?_ ?_ ?_
 .refine ⟨gO ?_,gO ?_⟩<;>simp [zbU]
 .simp
 .intro k hk
  repeat first|refine gG ?_|show AK _;intro J Z|refine gJ ?_|omega|exact aT
  (refine gC ?_ ?_<;>intro hc<;>try contradiction)
  .obtain ⟨w,hx⟩:=zj (i:=k) (l:=L) (by omega)
   have hkl:(L.take k).length=k:=by rw [xao];omega
   have hrl:(zbU (L.take k)).length=k:=by unfold zbU;rw [xaf,hkl]
   have hnx:zbU (L.take (k+1))=zbU (L.take k)++[⟨w.req.name,0,false⟩]:=by unfold zbU;rw [zE hx];simp
   have qe:=aI qR (aI @hx (aI @hkl @hrl));repeat' first|refine gC ?_ ?_<;>intro hc<;>try contradiction|refine gG ?_|show AK _;intro J Z|refine gJ ?_|omega|exact aT
   exact ⟨k+1,by omega,by omega,by rw [hnx];simp;exact hrl.symm,by rw [hnx];simp⟩
  .have e:k=L.length:=by omega
   subst e;rw [xai];have hrl:(zbU L).length=L.length:=by unfold zbU;rw [xaf]
   have qe:=aI qR @hrl;exact gD0
def ybn {L:List Wis} (h:zav L=0) {R:List Res} (hR:RsN L R) {i:Nat} (hi:i < L.length) (o:Opt):Pure prog 97 [.sl 18 (L.map Wis.pv),.sl 3 (R.map Res.pv),.i .i64 i,unP o] (.sl 3 ((zn9 R ((i:Int),zau L i) o).map Res.pv)):=by
 obtain ⟨⟨hn,_⟩,hnm⟩:=hR;have hn64:=(zR h).1;obtain ⟨a,ha⟩:=zj hi;obtain ⟨r,hr⟩:=zj (l:=R) (i:=i) (by omega)
 have hrn:r.name=a.req.name:=by rw [hnm i r hr];unfold nmW;rw [ha]
 have hrl:i < R.length:=by omega
 have h40:=yh L hi
 rcases zcH h ha with hk|⟨k,b,hk⟩
 .have e:zn9 R ((i:Int),zau L i) o=R.set i ⟨a.req.name,o.1,true⟩:=by
   unfold zn9;rw [if_pos (by simp only;omega),xar,zpG hr,hrn]
  rw [e,xa4];rw [hk] at h40;refine pz func97 f97.eq_1 λhw X hX=>?_
  obtain ⟨o1,o2⟩:=o;have hf:((0:Int)<=-1)=False:=eq_false (by omega)
  have qe:=aI qR (aI @ha (aI @hf (aI @ybX (aI @zwW (aI @rt1 @rt4)))));have jA:=h40;exact gD2
 .have hlab:=hk.lab;have hb:=hk.at_b;have hkl:k < L.length:=(xaa.1 hb).1;have hne:=hk.ne;obtain ⟨q,hq⟩:=zj (l:=R) (i:=k) (by omega)
  have hqn:q.name=b.req.name:=by rw [hnm k q hq];unfold nmW;rw [hb]
  have e:zn9 R ((i:Int),zau L i) o=(R.set i ⟨a.req.name,o.1,true⟩).set k ⟨b.req.name,o.2,true⟩:=by
   unfold zn9;rw [hlab,if_neg (by simp only;omega),xar,xar,zpG hr,hrn]
   have hq2:(R.set i ⟨a.req.name,o.1,true⟩)[k]?=some q:=by rw [xbQ (Ne.symm hne)];exact hq
   rw [zpG hq2,hqn]
  rw [e,xa4,xa4];rw [hlab] at h40;refine pz func97 f97.eq_1 λhw X hX=>?_
  obtain ⟨o1,o2⟩:=o;have hf:((0:Int)<=(k:Int))=True:=eq_true (by omega)
  have hkr:k < R.length:=by omega
  have qe:=aI qR (aI @ha (aI @hb (aI @hf (aI @ybX (aI @zwW (aI @rt1 @rt4))))));have jA:=h40;exact gD2
theorem yb3 {ls:List Lim} {L:List Wis} {F:Unt->List Opt} (hF:∀ i,i < L.length->∀ o ∈ F ((i:Int),zau L i),(0<=o.1/\o.1<=1439)/\(0<=zau L i->0<=o.2/\o.2<=1439)):∀ k,k<=L.length->RsN L (zh6 ls L F k)
 | 0,_=>refu_n L
 | k+1,hk=>by
  have ih:=yb3 (ls:=ls) hF k (by omega)
  have e:zh6 ls L F (k+1)=srvI ls L F (zh6 ls L F k) k:=by unfold zh6;rw [xa7,xaJ];rfl
  rw [e];unfold srvI
  split
  .split
   .rename_i o ho;have:=hF k (by omega) o (List.mem_of_find?_eq_some ho)
    exact putR_n ih _ this.1 this.2
   .exact ih
  .exact ih
def yac {L:List Wis} (h:zav L=0) {i:Nat} (hi:i < L.length) {o:Opt} (ho:o ∈ zaS L ((i:Int),zau L i)):(0<=o.1/\o.1<=1439)/\(0<=zau L i->0<=o.2/\o.2<=1439):=by
 obtain ⟨a,ha⟩:=zj hi;unfold zaS at ho;simp only [xar,ha] at ho
 rcases zcH h ha with hk|⟨k,b,hk⟩
 .rw [if_pos (by omega)] at ho
  obtain ⟨m,hm,rfl⟩:=xaM.1 ho;exact ⟨yk (yc h ha) hm,λh0=>by omega⟩
 .rw [hk.lab] at ho ⊢;simp only [xar,hk.at_b] at ho;rw [if_neg (by omega)] at ho
  have ho:=(zhs _ _).mem_iff.1 ho;obtain ⟨x,hx,ho⟩:=xaz.1 ho;obtain ⟨y,hy,ho⟩:=xaz.1 ho
  split at ho
  .rw [xaW] at ho;subst ho;exact ⟨yk (yc h ha) hx,λ_=>yk (yc h hk.at_b) hy⟩
  .cases ho
def yce {L:List Wis} (h:zav L=0) {i:Nat} (hi:i < L.length):(zaS L ((i:Int),zau L i)).length<=9216:=by
 obtain ⟨a,ha⟩:=zj hi;have h1:=yM (yc h ha);unfold zaS;simp only [xar,ha]
 rcases zcH h ha with hk|⟨k,b,hk⟩
 .rw [if_pos (by omega),xaf];omega
 .rw [hk.lab];simp only [xar,hk.at_b];have h2:=yM (yc h hk.at_b);rw [if_neg (by omega),(zhs _ _).length_eq]
  unfold zdS;have:=ya (f:=λx=>(zac b).flatMap λy=>if ze8 a b x y then [(x,y)] else []) (c:=96) (l:=zac a) λx _=>by
   have:=ya (f:=λy=>if ze8 a b x y then [(x,y)] else []) (c:=1) (l:=zac b) λy _=>by split<;>simp
   omega
  omega
def ybx {ls:List Lim} (hl:zJ ls=0) {L:List Wis} (h:zav L=0):Pure prog 22 [.sl 11 (ls.map Lim.pv),.sl 18 (L.map Wis.pv)] (.sl 3 ((zh6 ls L (zaS L) L.length).map Res.pv)):=by
 have hn64:=(zR h).1;have hls:=(zU hl).2;have hn32:=(zU hl).1;have hsn:=λk hk=>yb3 (ls:=ls) (F:=zaS L) (λi hi o ho=>yac h hi ho) k hk
 have h92:=ybs L hn64;refine pz func22 f22.eq_1 λhw X hX=>?_
 have qe:=@qR;repeat' first|refine gC ?_ ?_<;>intro hc<;>try contradiction|refine za h92 ?_|refine gG ?_|show AK _;intro J Z|refine gJ ?_|omega|exact aT
 refine zh (κ:=Nat) (λk=>⟨[(0,.p (.sl 11 (ls.map Lim.pv))),(1,.p (.sl 18 (L.map Wis.pv))),(5,.p (.sl 3 ((zh6 ls L (zaS L) k).map Res.pv))),(6,.p (.i .i64 k))],[],[],false⟩) (λk=>k<=L.length) (λk=>L.length - k) 0 ?_ ?_ ?_
 .refine gJ ?_;simp [zh6]
 .simp
 .intro k hk;have hR:=hsn k hk;have e:zh6 ls L (zaS L) (k+1)=srvI ls L (zaS L) (zh6 ls L (zaS L) k) k:=by unfold zh6;rw [xa7,xaJ];rfl
  have hend:k=L.length->zh6 ls L (zaS L) k=zh6 ls L (zaS L) L.length:=λe=>by rw [e]
  generalize zh6 ls L (zaS L) k=R at *
  repeat first|refine gG ?_|show AK _;intro J Z|refine gJ ?_|omega|exact aT
  (refine gC ?_ ?_<;>intro hc<;>try contradiction)
  .have hil:k < L.length:=by omega
   have h93:=ybr L hil
   by_cases hu:zau L k < 0\/(k:Int) < zau L k
   .have hu':(decide (zau L k < 0) || decide ((k:Int) < zau L k))=true:=by simpa using hu
    rw [hu'] at h93;have h94:=ybq h hil hu;have h53:=ybv h hR.ok (k:Int) (-1);have hor:=λo (ho:o ∈ zaS L ((k:Int),zau L k))=>yac h hil ho
    unfold srvI at e;rw [if_pos hu] at e;have hOl:=yce h hil;have hfr:=λo=>yci hls L R k ((k:Int),zau L k) o
    have hpl:=yaq L R (ye L k (-1)) L.length;have hpe:zlk L R (ye L k (-1))=(List.range L.length).foldl (plcF L R (ye L k (-1))) []:=rfl;rw [<-hpe] at hpl;generalize zaS L ((k:Int),zau L k)=O at *;have qe:=aI qR @xaU;repeat' first|refine gC ?_ ?_<;>intro hc<;>try contradiction|refine za h93 ?_|refine za h94 ?_|refine gG ?_|show AK _;intro J Z|refine gJ ?_|omega|exact aT
    refine zh (κ:=Nat) (λn=>⟨[(0,.p (.sl 11 (ls.map Lim.pv))),(1,.p (.sl 18 (L.map Wis.pv))),(5,.p (.sl 3 (R.map Res.pv))),(6,.p (.i .i64 k)),(7,.p (.sl 2 (O.map unP))),(8,.p (.i .i64 n))],[],[],false⟩) (λn=>n<=O.length/\∀ y ∈ O.take n,fitX ls L (zbL L R λj=>decide (zY L j < k)) ((k:Int),zau L k) y=false) (λn=>O.length - n) 0 ?_ ?_ ?_
    .exact sS
    .simp
    .intro n hn;obtain ⟨hn,hno⟩:=hn
     repeat first|refine gG ?_|show AK _;intro J Z|refine gJ ?_|omega|exact aT
     (refine gC ?_ ?_<;>intro hc<;>try contradiction)
     .obtain ⟨o,ho⟩:=zj (i:=n) (l:=O) (by omega)
      obtain ⟨r1,r2⟩:=hor o (xae ho);have h96:=ybo h hil o r1 r2;have hcl:(yau L ((k:Int),zau L k) o).length<=802:=by
       unfold yau;have q1:=yV L ((k:Int),zau L k).1.toNat o.1;have q2:=yV L ((k:Int),zau L k).2.toNat o.2
       split
       .omega
       .rw [(zog _ _ _).length_eq,xad];omega
      have h95:=ybp ls (zlk L R (ye L k (-1))) (yau L ((k:Int),zau L k) o) hn32 hls (by omega)
      rw [hfr o] at h95;cases hf:fitX ls L (zbL L R λj=>decide (zY L j < k)) ((k:Int),zau L k) o with
      | true=>
       rw [hf] at h95;have h97:=ybn h hR hil o;rw [zrm hno ho hf] at e;simp only [] at e;have qe:=aI qR @ho;repeat' first|refine gC ?_ ?_<;>intro hc<;>try contradiction|refine za h53 ?_|refine za h96 ?_|refine za h95 ?_|refine za h97 ?_|refine gG ?_|show AK _;intro J Z|refine gJ ?_|omega|exact aT
       all_goals exact ⟨k+1,by omega,by omega,by rw [e];simp⟩
      | false=>
       rw [hf] at h95;have qe:=aI qR @ho;repeat' first|refine gC ?_ ?_<;>intro hc<;>try contradiction|refine za h53 ?_|refine za h96 ?_|refine za h95 ?_|refine gG ?_|show AK _;intro J Z|refine gJ ?_|omega|exact aT
       all_goals exact ⟨n+1,⟨by omega,zd1 hno ho hf⟩,by omega,by simp⟩
     .have ee:n=O.length:=by omega
      subst ee;rw [xai] at hno;rw [List.find?_eq_none.2 λx hx=>by rw [hno x hx];simp] at e
      simp only [] at e
      repeat' first|refine gC ?_ ?_<;>intro hc<;>try contradiction|refine gG ?_|show AK _;intro J Z|refine gJ ?_|omega|exact aT
      all_goals exact ⟨k+1,by omega,by omega,by rw [e];simp⟩
   .have hu':(decide (zau L k < 0) || decide ((k:Int) < zau L k))=false:=by simpa using hu
    rw [hu'] at h93;unfold srvI at e;rw [if_neg hu] at e;have qe:=aI qR @xaV;repeat' first|refine gC ?_ ?_<;>intro hc<;>try contradiction|refine za h93 ?_|refine gG ?_|show AK _;intro J Z|refine gJ ?_|omega|exact aT
    all_goals exact ⟨k+1,by omega,by omega,by rw [e];simp⟩
  .have e2:k=L.length:=by omega
   rw [hend e2];exact gD0
def ych (n:ByteArray) (L:List Wis):-1<=zeH n L/\zeH n L < L.length:=by
 have h1:=zr9 n (zkG L);have h2:=zr7 n (zkG L);unfold zeH;rw [show (zkG L).length=L.length by unfold zkG;rw [xaf]] at h2
 exact ⟨h1,h2⟩
def ybt (L:List Wis) {i:Nat} {w:Wis} (hx:L[i]?=some w):Pure prog 91 [.sl 18 (L.map Wis.pv),.i .i64 i] (.i .i64 (zjj L i w)):=by
 have hil:i < L.length:=(xaa.1 hx).1
 obtain ⟨f1,f2⟩:=ych w.req.link L
 have h39:=yx L w.req.link
 refine pz func91 f91.eq_1 λhwf X hX=>?_
 by_cases c1:w.req.link=s0
 .have c1':=eq_true c1
  have e:zjj L i w=0:=by unfold zjj;rw [if_pos c1]
  rw [e]
  have qe:=aI qR (aI @hx @c1');exact gD0
 .have c1':=eq_false c1
  by_cases c2:zeH w.req.link L < 0
  .have c2':=eq_true c2
   have e:zjj L i w=10:=by
    unfold zjj
    rw [if_neg c1]
    split
    .rw [if_pos c2]
    .rfl
   rw [e]
   have qe:=aI qR (aI @hx (aI @c1' @c2'));have jA:=h39;exact gD2
  .have c2':=eq_false c2
   obtain ⟨k,hk⟩:∃ k:Nat,zeH w.req.link L=(k:Int):=⟨(zeH w.req.link L).toNat,by omega⟩
   obtain ⟨o,ho⟩:=zj (i:=k) (l:=L) (by omega)
   have e:zjj L i w=if (k:Int)=i\/o.req.link≠w.req.name\/o.req.kind=w.req.kind\/¬(o.req.per.fro=w.req.per.fro/\o.req.per.to=w.req.per.to/\o.req.per.days=w.req.per.days) then 32 else 0:=by
    unfold zjj
    rw [if_neg c1,hk,xar,ho]
    simp only []
    rw [if_neg (by omega)]
   rw [hk] at h39 c2'
   have hkl:k < L.length:=by omega
   rw [e]
   by_cases d1:(k:Int)=i
   .have d1':=eq_true d1
    rw [if_pos (.inl d1)]
    have qe:=aI qR (aI @hx (aI @ho (aI @c1' (aI @c2' (aI @d1' @decide_true)))));have jA:=h39;exact gD2
   .have d1':=eq_false d1
    by_cases d2:o.req.link=w.req.name
    .have d2':=eq_true d2
     by_cases d3:w.req.kind=o.req.kind
     .have d3':=eq_true d3
      rw [if_pos (.inr (.inr (.inl d3.symm)))]
      have qe:=aI qR (aI @hx (aI @ho (aI @c1' (aI @c2' (aI @d1' (aI @d2' (aI @d3' (aI @decide_true (aI @decide_false @xaU)))))))));have jA:=h39;exact gD2
     .have d3':=eq_false d3
      by_cases d4:w.req.per.fro=o.req.per.fro/\w.req.per.to=o.req.per.to/\w.req.per.days=o.req.per.days
      .obtain ⟨d5,d6,d7⟩:=d4
       have d5':=eq_true d5
       have d6':=eq_true d6
       have d7':=eq_true d7
       rw [if_neg (by rintro (h|h|h|h)<;>first|exact d1 h|exact h d2|exact d3 h.symm|exact h ⟨d5.symm,d6.symm,d7.symm⟩)]
       have qe:=aI qR (aI @hx (aI @ho (aI @c1' (aI @c2' (aI @d1' (aI @d2' (aI @d3' (aI @d5' (aI @d6' (aI @d7' (aI @decide_true (aI @decide_false (aI @xaU @xaV)))))))))))));have jA:=h39;exact gD2
      .have d4':(decide (w.req.per.fro=o.req.per.fro) && (decide (w.req.per.to=o.req.per.to) && decide (w.req.per.days=o.req.per.days)))=false:=by
        rw [<-Bool.decide_and,<-Bool.decide_and];exact decide_eq_false d4
       rw [if_pos (.inr (.inr (.inr λh=>d4 ⟨h.1.symm,h.2.1.symm,h.2.2.symm⟩)))]
       have qe:=aI qR (aI @hx (aI @ho (aI @c1' (aI @c2' (aI @d1' (aI @d2' (aI @d3' (aI @d4' (aI @decide_true (aI @decide_false (aI @xaU @xaV)))))))))));have jA:=h39;exact gD2
    .have d2':=eq_false d2
     rw [if_pos (.inr (.inl d2))]
     have qe:=aI qR (aI @hx (aI @ho (aI @c1' (aI @c2' (aI @d1' (aI @d2' (aI @decide_true (aI @decide_false @xaV))))))));have jA:=h39;exact gD2
def yby (L:List Wis):Pure prog 21 [.sl 18 (L.map Wis.pv)] (.i .i64 (zav L)):=by
 refine pz func21 f21.eq_1 λhw X hX=>?_
 simp only [wfs,PV.wf,xaf,maxLen] at hw
 repeat' first|refine gC ?_ ?_<;>intro hc<;>try contradiction|refine gG ?_|show AK _;intro J Z|refine gJ ?_|omega|exact aT
 .rw [zav,if_pos hc];exact .refl _
 have hsp:zav L=zn [zn (L.mapIdx (zcB L)),zn (L.mapIdx (zjj L))]:=by rw [zav,if_neg (by omega)]
 refine zh (κ:=Nat) (λi=>⟨[(0,.p (.sl 18 (L.map Wis.pv))),(3,.p (.i .i64 i))],[],[],false⟩) (λi=>i<=L.length/\∀ x ∈ (L.mapIdx (zcB L)).take i,x=0) (λi=>L.length - i) 0 ?_ ?_ ?_
 .exact sR
 .simp
 .intro i hi
  repeat first|refine gG ?_|show AK _;intro J Z|refine gJ ?_|omega|exact aT
  (refine gC ?_ ?_<;>intro hc<;>try contradiction)
  .obtain ⟨x,hx⟩:=zj (i:=i) (l:=L) (by omega)
   have he:zcB L i x=zn [zfI x,if 0<=zeH x.req.name (L.take i) then 9 else 0]:=rfl
   have hft:=ybG hx;have h39:=yx L x.req.name
   by_cases c1:zfI x=0
   .have c1':=eq_true c1
    by_cases c2:zeH x.req.name L < i
    .have c2':=eq_true c2;have hv:zcB L i x=9:=by rw [he,zro c1,zwE,if_pos (hft.1 c2)]
     have hf:zav L=9:=by rw [hsp,zbr hi.2 (zaj hx) (by rw [hv];decide),hv,zlL (e:=9) (by decide)]
     rw [hf];have qe:=aI qR (aI @hx (aI @c1' @c2'));have jA:=yz x;have jB:=h39;exact gD2
    .have c2':=eq_false c2;have hv:zcB L i x=0:=by rw [he,zro c1,zwE,if_neg (λk=>c2 (hft.2 k))]
     have qe:=aI qR (aI @hx (aI @c1' @c2'));repeat' first|refine gC ?_ ?_<;>intro hc<;>try contradiction|refine za (yz x) ?_|refine za h39 ?_|refine gG ?_|show AK _;intro J Z|refine gJ ?_|omega|exact aT
     all_goals exact ⟨i+1,⟨by omega,zb0 hi.2 (zaj hx) hv⟩,by omega,by simp⟩
   .have c1':=eq_false c1;have hv:zcB L i x=zfI x:=by rw [he,zlL c1]
    have hf:zav L=zfI x:=by rw [hsp,zbr hi.2 (zaj hx) (by rw [hv];exact c1),hv,zlL c1]
    rw [hf];have qe:=aI qR (aI @hx @c1');have jA:=yz x;exact gD2
  .have ei:i=(L.mapIdx (zcB L)).length:=by simp;omega
   have hA:zn (L.mapIdx (zcB L))=0:=by subst ei;exact zbj hi.2
   rw [zro hA,zwE] at hsp
   repeat' first|refine gC ?_ ?_<;>intro hc<;>try contradiction|refine gG ?_|show AK _;intro J Z|refine gJ ?_|omega|exact aT
   refine zh (κ:=Nat) (λi=>⟨[(0,.p (.sl 18 (L.map Wis.pv))),(5,.p (.i .i64 i))],[],[],false⟩) (λi=>i<=L.length/\∀ x ∈ (L.mapIdx (zjj L)).take i,x=0) (λi=>L.length - i) 0 ?_ ?_ ?_
   .exact sR
   .simp
   .clear hi ei;intro i hi
    repeat first|refine gG ?_|show AK _;intro J Z|refine gJ ?_|omega|exact aT
    (refine gC ?_ ?_<;>intro hc<;>try contradiction)
    .obtain ⟨x,hx⟩:=zj (i:=i) (l:=L) (by omega)
     have h91:=ybt L hx
     by_cases c1:zjj L i x=0
     .have c1':=eq_true c1;have qe:=aI qR (aI @hx @c1');repeat' first|refine gC ?_ ?_<;>intro hc<;>try contradiction|refine za h91 ?_|refine gG ?_|show AK _;intro J Z|refine gJ ?_|omega|exact aT
      all_goals exact ⟨i+1,⟨by omega,zb0 hi.2 (zaj hx) c1⟩,by omega,by simp⟩
     .have c1':=eq_false c1;have hf:zav L=zjj L i x:=by rw [hsp,zbr hi.2 (zaj hx) c1]
      rw [hf];have qe:=aI qR (aI @hx @c1');have jA:=h91;exact gD2
    .have ei:i=(L.mapIdx (zjj L)).length:=by simp;omega
     have hf:zav L=0:=by rw [hsp];subst ei;exact zbj hi.2
     rw [hf];exact gD0
def bigW (w:Wis):Bool:=((decide ((60:Int) < w.req.carrier.size) || decide ((60:Int) < w.req.partner.size)) || decide ((60:Int) < w.req.link.size)) || !shReq w.req
def ybg (w:Wis):Bool:=!bigW w && (!decide (zfI w=0) || (decide (((zac w).length:Int)<=8) && decide (w.req.per.to - w.req.per.fro < 10)))
def ybw (w:Wis):Pure prog 33 [w.pv] (.b (ybg w)):=by
 have h17:=pure17 w.req;have h34:=yz w;refine pz func33 f33.eq_1 λhwf X hX=>?_
 have hno:bigW w=true->ybg w=false:=λh=>by unfold ybg;rw [h];rfl
 by_cases a1:(60:Int) < w.req.carrier.size
 .have a1':=eq_true a1;rw [hno (by unfold bigW;rw [decide_eq_true a1];simp)]
  have qe:=aI qR (aI @a1' @decide_true);repeat' first|refine gC ?_ ?_<;>intro hc<;>try contradiction|(show zp _ _ _ _ (⟨_,.call 113,_,_,_⟩::_) _ _;refine zaQ (q:=(.b true)) (by first|rfl|(simp (disch:=omega) only [qG,qe,seval]<;>rfl)) ?_;(try (refine zw ?_)))|refine gG ?_|show AK _;intro J Z|refine gJ ?_|omega|exact aT
  all_goals exact .refl _
 have a1':=eq_false a1
 by_cases a2:(60:Int) < w.req.partner.size
 .have a2':=eq_true a2;rw [hno (by unfold bigW;rw [decide_eq_true a2];simp)]
  have qe:=aI qR (aI @a1' (aI @a2' yDF));repeat' first|refine gC ?_ ?_<;>intro hc<;>try contradiction|(show zp _ _ _ _ (⟨_,.call 113,_,_,_⟩::_) _ _;refine zaQ (q:=(.b true)) (by first|rfl|(simp (disch:=omega) only [qG,qe,seval]<;>rfl)) ?_;(try (refine zw ?_)))|refine gG ?_|show AK _;intro J Z|refine gJ ?_|omega|exact aT
  all_goals exact .refl _
 have a2':=eq_false a2
 by_cases a3:(60:Int) < w.req.link.size
 .have a3':=eq_true a3;rw [hno (by unfold bigW;rw [decide_eq_true a3];simp)]
  have qe:=aI qR (aI @a1' (aI @a2' (aI @a3' yDF)));repeat' first|refine gC ?_ ?_<;>intro hc<;>try contradiction|(show zp _ _ _ _ (⟨_,.call 113,_,_,_⟩::_) _ _;refine zaQ (q:=(.b true)) (by first|rfl|(simp (disch:=omega) only [qG,qe,seval]<;>rfl)) ?_;(try (refine zw ?_)))|refine gG ?_|show AK _;intro J Z|refine gJ ?_|omega|exact aT
  all_goals exact .refl _
 have a3':=eq_false a3;cases a4:shReq w.req with
 | false=>
  rw [a4] at h17;rw [hno (by unfold bigW;rw [a4];simp)]
  have qe:=aI qR (aI @a1' (aI @a2' (aI @a3' (aI @decide_true (aI @decide_false @xaV)))));have jA:=h17;exact gD2
 | true=>
  rw [a4] at h17;have hb:bigW w=false:=by unfold bigW;rw [decide_eq_false a1,decide_eq_false a2,decide_eq_false a3,a4];rfl
  by_cases c0:zfI w=0
  .have c0':=eq_true c0;obtain ⟨_,f1,f2,f3,f4,f5⟩:=yD c0;have h47:=yn w f5 f2 f3 f1 f4;have hpr:0<=w.req.per.to/\w.req.per.to<=99999/\0<=w.req.per.fro/\w.req.per.fro<=99999:=by
    have hp:=zaI (zeR (yD c0).1).1
    omega
   have hs:ybg w=(decide (((zac w).length:Int)<=8) && decide (w.req.per.to - w.req.per.fro < 10)):=by unfold ybg;rw [hb,decide_eq_true c0];rfl
   rw [hs]
   by_cases c1:((zac w).length:Int)<=8
   .have c1':=eq_true c1;rw [decide_eq_true c1,xbb];have qe:=aI qR (aI @a1' (aI @a2' (aI @a3' (aI @c0' (aI @c1' (aI @decide_true (aI @decide_false @xaU)))))));have jA:=h17;have jB:=h34;have jC:=h47;exact gD4
   .have c1':=eq_false c1;rw [decide_eq_false c1,xa5];have qe:=aI qR (aI @a1' (aI @a2' (aI @a3' (aI @c0' (aI @c1' (aI @decide_true (aI @decide_false @xaU)))))));have jA:=h17;have jB:=h34;have jC:=h47;exact gD4
  .have c0':=eq_false c0;have hs:ybg w=true:=by unfold ybg;rw [hb,decide_eq_false c0];rfl
   rw [hs];have qe:=aI qR (aI @a1' (aI @a2' (aI @a3' (aI @c0' (aI @decide_true (aI @decide_false @xaU))))));repeat' first|refine gC ?_ ?_<;>intro hc<;>try contradiction|refine zg (λ_=>h17) ?_|refine za h34 ?_|(show zp _ _ _ _ (⟨_,.call 47,_,_,_⟩::_) _ _;refine zaQ (q:=(.sl 1 [])) (by first|rfl|(simp (disch:=omega) only [qG,qe,seval]<;>rfl)) ?_;(try (refine zw ?_)))|refine gG ?_|show AK _;intro J Z|refine gJ ?_|omega|exact aT
   all_goals exact .refl _
def longW (L:List Wis) (n:Int):Bool:=(decide (n < L.length) && decide ((L.length:Int)<=64)) || decide ((66:Int) < L.length)
def ybO (L:List Wis) (n:Int):Bool:=!longW L n && L.all ybg
def ybu (L:List Wis) (n:Int):Pure prog 59 [.sl 18 (L.map Wis.pv),.i .i64 n] (.b (ybO L n)):=by
 refine pz func59 f59.eq_1 λhwf X hX=>?_
 simp only [wfs,PV.wf,xaf,maxLen] at hwf;have qe:=@qR;repeat' first|refine gC ?_ ?_<;>intro hc<;>try contradiction|refine gG ?_|show AK _;intro J Z|refine gJ ?_|omega|exact aT
 .have:longW L n=true:=by simpa [longW] using hc
  rw [ybO,this];exact .refl _
 have hsh:longW L n=false:=by simpa [longW] using hc
 refine zh (κ:=Nat) (λi=>⟨[(0,.p (.sl 18 (L.map Wis.pv))),(5,.p (.i .i64 i))],[],[],false⟩) (λi=>i<=L.length/\∀ y ∈ L.take i,ybg y=true) (λi=>L.length - i) 0 ?_ ?_ ?_
 .exact sS
 .simp
 .intro i hi
  repeat first|refine gG ?_|show AK _;intro J Z|refine gJ ?_|omega|exact aT
  (refine gC ?_ ?_<;>intro hc<;>try contradiction)
  .obtain ⟨y,hx⟩:=zj (i:=i) (l:=L) (by omega)
   have qe:=aI qR @hx;repeat' first|refine gC ?_ ?_<;>intro hc<;>try contradiction|refine za (ybw y) ?_|refine gG ?_|show AK _;intro J Z|refine gJ ?_|omega|exact aT
   .rw [ybO,hsh,ybd hx hc];exact .refl _
   .exact ⟨i+1,⟨by omega,yY hi.2 hx hc⟩,by omega,by simp⟩
  .have e:i=L.length:=by omega
   subst e;have ha:=ybe hi.2;have qe:=@qR;repeat' first|refine gC ?_ ?_<;>intro hc<;>try contradiction|refine gG ?_|show AK _;intro J Z|refine gJ ?_|omega|exact aT
   rw [ybO,hsh,ha];exact .refl _
def ybz (ls:List Lim) (L:List Wis) (hL:L.length*192<=140737488355328):Pure prog 14 [.sl 11 (ls.map Lim.pv),.sl 18 (L.map Wis.pv)] (.b (yj ls 3 && ybO L 5)):=by
 have h15:=pure15 ls 3;refine pz func14 f14.eq_1 λhwf X hX=>?_
 cases hs:yj ls 3 with
 | true=>
  rw [hs] at h15;have qe:=@qR;have jA:=h15;have jB:=yT L hL;have jC:=ybu L 5;exact gD4
 | false=>
  rw [hs] at h15;have qe:=@qR;repeat' first|refine gC ?_ ?_<;>intro hc<;>try contradiction|refine za h15 ?_|(show zp _ _ _ _ (⟨_,.call 15,_,_,_⟩::_) _ _;refine zaQ (q:=(.sl 18 [])) (by first|rfl|(simp (disch:=omega) only [qG,qe,seval]<;>rfl)) ?_;(try (refine zw ?_)))|(show zp _ _ _ _ (⟨_,.call 59,_,_,_⟩::_) _ _;refine zaQ (q:=(.b false)) (by first|rfl|(simp (disch:=omega) only [qG,qe,seval]<;>rfl)) ?_;(try (refine zw ?_)))|refine gG ?_|show AK _;intro J Z|refine gJ ?_|omega|exact aT
  all_goals exact .refl _
def few_sh {ls:List Lim} {n:Int} (hs:yj ls n=true) (hc:zJ ls=0):zgb ls:=by
 have hl:=(zU hc).2;have key:∀ k,k<=ls.length->(((List.range k).flatMap λi=>match ls[i]? with|some l=>(zaq l).map λx=>(i,x)|none=>[]).length:Int)=yab ls k:=by
  intro k
  induction k with
  | zero=>intro _;simp [yab]
  | succ k ih=>
   intro hk;have hx:=xac (l:=ls) (i:=k) (by omega)
   have h3:=yZ (hl _ (xae hx));rw [yF hx,zbE,xad,hx];have:=ih (by omega)
   simp only [xaf]
   omega
 refine zwD ?_;have h2:((winA ls).length:Int)=yab ls ls.length:=key ls.length (xam _);unfold yj at hs;simp only [xaB,decide_eq_true_eq] at hs
 omega
def shw_sh {L:List Wis} {n:Int} (hs:ybO L n=true):ShW L:=λh w hw=>by
 unfold ybO at hs;rw [xaB] at hs;have h1:=xaL.1 hs.2 w hw;obtain ⟨i,hi⟩:=xbu.1 hw;have h0:=yc h hi;unfold ybg at h1;simp only [xaB,xbd,xbs,decide_eq_false_iff_not,decide_eq_true_eq] at h1;have:=yW w
 rcases h1.2 with h2|h2
 .exact absurd h0 h2
 .omega
def ybA (ls:List Lim) (L:List Wis) (hn:ls.length*112<=140737488355328) (hL:L.length*192<=140737488355328):Pure prog 3 [.sl 11 (ls.map Lim.pv),.sl 18 (L.map Wis.pv)] (.b true):=by
 have h14:=ybz ls L hL;refine pz func3 f3.eq_1 λhwf X hX=>?_
 cases hs:(yj ls 3 && ybO L 5) with
 | false=>
  rw [hs] at h14;have qe:=aI qR (aI @xaU @xaV);have jA:=pure6013;have jB:=h14;exact gD2
 | true=>
  rw [hs] at h14;rw [xaB] at hs;have h16:=zmE (ls:=ls) (λh=>few_sh hs.1 h) (shw_sh hs.2)
  have h23:=pure23 ls;have h21:=yby L
  by_cases h0:zn [zJ ls,zav L]=0
  .have h0':=eq_true h0;have h1:=(zi.1 h0).1;have h2:=(zi.1 (zi.1 h0).2).1;have hw64:=(zR h2).1;have hl:=(zU h1).2;have e:=zii hl h2 (zaS L);rw [h0,if_pos rfl,e] at h16;have h22:=ybx h1 h2;have hsl:=(yb3 (ls:=ls) (F:=zaS L) (λi hi o ho=>yac h2 hi ho) L.length (xam _)).ok.1
   have h24:=zdC (zh6 ls L (zaS L) L.length) (by omega)
   have hr:=zie (zh6 ls L (zaS L) L.length);have qe:=aI qR (aI @h0' (aI @h0 (aI @xaU (aI @zb2 @decide_true))));repeat' first|refine gC ?_ ?_<;>intro hc<;>try contradiction|refine za pure6013 ?_|refine zg (λ_=>h14) ?_|refine za (yT L hL) ?_|refine za (yap ls hn) ?_|refine za (yao L hL) ?_|refine za h16 ?_|refine za h23 ?_|refine za h21 ?_|refine za (yA [_,_]) ?_|refine za h22 ?_|refine zg (λ_=>h24) ?_|refine zg (λ_=>hr) ?_|refine gG ?_|show AK _;intro J Z|refine gJ ?_|omega|exact aT
   all_goals exact .refl _
  .have h0':=eq_false h0;rw [if_neg h0] at h16;have h24:=zdC [] (by simp)
   have qe:=aI qR (aI @h0' (aI @xaU (aI @zb2 (aI @decide_true (@List.map_nil.{0,0})))));repeat' first|refine gC ?_ ?_<;>intro hc<;>try contradiction|refine za pure6013 ?_|refine zg (λ_=>h14) ?_|refine za (yT L hL) ?_|refine za (yap ls hn) ?_|refine za (yao L hL) ?_|refine za h16 ?_|refine za h23 ?_|refine za h21 ?_|refine za (yA [_,_]) ?_|refine zg (λ_=>h24) ?_|refine zg (λ_=>yaN) ?_|refine gG ?_|show AK _;intro J Z|refine gJ ?_|omega|exact aT
   all_goals exact .refl _
open Go.RowKit Go.Proofs.Tryz Go.ChangeShapes Go.WideShapes Go.ChangeAt
def yaA (os:Os) (started:os.Started) (H:Type) (enc:TypeId × Value->H):ReturnsInHanded {} Tryz.checked os 3 .any (Rows.allocateServesSpec.pre6 enc prog f3 Rows.allocateServesRow.domain false) (Rows.allocateServesSpec.post enc prog f3 false true false false):=by
 refine returnsInHanded_of_change_shaped (C:=Tryz.checked) own started (by kernel_rfl) func3
  (ChangeSpec.witness6 (enc:=enc) (C:=Tryz.checked) false ⟨#[],#[.slice none 0 0,.slice none 0 0],[]⟩ 8 (by kernel_rfl) (by kernel_rfl) (by kernel_rfl) (by kernel_rfl)) ?_
 intro W base args ds gs before hval hW _ hsz _ _;refine y7 (C:=Tryz.checked) (n:=6) (tb:=4) laid (by kernel_rfl) rfl (λH ds hd=>?_) (by kernel_rfl) und4 (by kernel_rfl) (λps hps=>?_) W base args ds gs before hval hW hsz
 .match ds,hd with
  | [_,_],_=>rfl
 .match ps,hps with
  | [a0,a1],⟨h0,h1,_⟩=>
   obtain ⟨l,rfl,hn⟩:=ya3 h0;obtain ⟨L,rfl,hL⟩:=ybH h1;exact ybA l L hn hL
def ycq:(Rows.allocateServesRow.inPlace == prog.inPlace 3)=true:=by kernel_rfl
def ycp:(Rows.allocateServesRow.unfollowed == prog.unfollowed 3)=true:=by kernel_rfl
def yco:(Rows.allocateServesRow.recurses == prog.recurses 3)=true:=by kernel_rfl
def ycn:(Rows.allocateServesRow.named == prog.varsNamed 3)=true:=by kernel_rfl
def ycm:Tryz.checked.prog.funcNamed Rows.allocateServesRow.func=some 3:=by kernel_rfl
def ycl:joinedFacts prog 3 f3 Rows.allocateServesSpec Rows.allocateServesRow=true:=
 ya0 (by as_aux_lemma=>kernel_rfl) laid rowed (by as_aux_lemma=>kernel_rfl) ycq ycp yco ycn (by as_aux_lemma=>kernel_rfl) (by as_aux_lemma=>kernel_rfl) (by as_aux_lemma=>kernel_rfl) (by as_aux_lemma=>kernel_rfl) (by as_aux_lemma=>kernel_rfl)
def yck:f3.isInstance prog Rows.allocateServesRow.origin Rows.allocateServesRow.targs:=of_decide_eq_true (by kernel_rfl)
def ycj:f3.isWrapper prog Rows.allocateServesRow.wrapper Rows.allocateServesRow.mainSum:=by
 unfold Func.isWrapper;first|(rw [if_pos (by decide +kernel)];kernel_rfl)|(rw [if_neg (by decide +kernel)];exact ⟨rfl,rfl⟩)
def y3:Rows.allocateServesRow.holds Tryz.pinned (OpenSpec.ofChange Rows.allocateServesSpec):=
 OpenClaim.holds_of_wide 3 f3 rfl rfl rfl rfl rfl rfl rfl ⟨rfl,rfl,rfl,rfl,rfl⟩ rfl rfl rfl rfl rfl ycm func3 ycl yck ycj
  (λos started H enc _=>yaA os started H enc)
theorem serves6_proved:Rows.AllocateServesSaid:=y3
