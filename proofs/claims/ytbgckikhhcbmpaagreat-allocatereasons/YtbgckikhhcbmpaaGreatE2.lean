/- Contracts. No conditions. -/
import Derived.Test.YtbgckikhhcbmpaaGreatE1
set_option linter.all false
set_option maxHeartbeats 8000000
set_option maxRecDepth 100000
namespace Go.Proofs.YtbgckikhhcbmpaaGreat
open Go.RowKit Go.Proofs.Tryz
variable {w:Ky} {p:List (Unt × Opt)} {W:List Ky} {ls:List Lim} {R:List Res} {s:List Rsn} {L:List Wis} {i k n:Nat} {o:Opt} {r:Rsn} {u:Unt} {x:Unt × Opt}
theorem ybc {α:Type} {p:α->Bool}:∀ {O:List α} {n:Nat} {o:α},(∀ y ∈ O.take n,p y=true)->O[n]?=some o->p o=false->(O.takeWhile p).length=n
 | [],n,o,_,h,_=>by simp at h
 | x::r,0,o,_,h,hp=>by simp at h;subst h;simp [List.takeWhile_cons,hp]
 | x::r,n+1,o,h,ho,hp=>by
  have hx:=h x (by simp)
  rw [List.takeWhile_cons,if_pos hx,xaz,ybc (λy hy=>h y (by rw [xa3];exact xaH _ hy)) (by simpa using ho) hp]
def ybd {α:Type} {p:α->Bool} {O:List α} (h:∀ y ∈ O,p y=true):O.takeWhile p=O:=by
 induction O with
 | nil=>rfl
 | cons x r ih=>rw [List.takeWhile_cons,if_pos (h x (by simp)),ih λy hy=>h y (by simp [hy])]
def ydt (hk:zau L i=-1) (ho:o ∈ zaS L ((i:Int),zau L i)):o.2=-1:=by
 unfold zaS at ho;simp only [xam,hk] at ho;cases ha:L[i]? with
 | none=>rw [ha] at ho;cases ho
 | some a=>
  rw [ha] at ho;simp only [] at ho;rw [if_pos (by omega)] at ho
  obtain ⟨m,_,rfl⟩:=xaN.1 ho
  rfl
def yU {α:Type} {p:α->Prop} {l:List α} {x:α} (h:∀ y ∈ l.take i,p y) (hx:l[i]?=some x) (hp:p x):∀ y ∈ l.take (i+1),p y:=λy hy=>by
 rw [zE hx] at hy
 rcases xaS.1 hy with hy|hy
 .exact h y hy
 .rw [xaX] at hy;rw [hy];exact hp
def yaF (h:zav L=0) (hr:zc8 L R=0) (hi:i < L.length) (hu:zau L i < 0\/(i:Int) < zau L i):Pure prog 109 [.sl 18 (L.map Wis.pv),.sl 3 (R.map Res.pv),.i .i64 i] (.i .i64 (zad L R ((i:Int),zau L i)).length):=by
 have hn:=(zbZ hr).1;have h94:=yY h hi hu;have h40:=ye L hi;have hOl:=y6 h hi;have hO2:=λ(hk:zau L i=-1) o ho=>ydt (o:=o) hk ho
 obtain ⟨a,ha⟩:=zj hi;obtain ⟨r,hx⟩:=zj (l:=R) (i:=i) (by omega)
 have hra:=zW hx;have hgb:grB R ((i:Int),zau L i)=r.gr:=by unfold grB;rw [xam,hra]
 unfold zad;rw [hgb];refine pz func109 f109.eq_1 λhw X hX=>?_
 cases hg:r.gr with
 | false=>
  rw [if_neg (by decide)]
  generalize zaS L ((i:Int),zau L i)=O at *;have qe:=aI qR (aI @hx (aI @hg @xax));have jA:=h94;exact gD2
 | true=>
  rw [if_pos rfl];have hgo:grO R ((i:Int),zau L i)=(r.minute,if zau L i < 0 then -1 else (za5 R (zau L i).toNat).minute):=by unfold grO;rw [xam,hra]
  rcases zcH h ha with hk|⟨k,b,hk⟩
  .have hO2:=hO2 hk;obtain ⟨r0,hr0⟩:=zj (l:=R) (i:=0) (by omega)
   have tm1:Int.toNat (-1)=0:=rfl;rw [hk] at h40 h94 hOl hgo hO2 ⊢;rw [if_pos (by omega)] at hgo
   clear hgb;generalize zaS L ((i:Int),(-1:Int))=O at *;rw [hgo];have qe:=aI qR (aI @hx (aI @hg @xaC));have jA:=h94;refine gE2 ?_;refine zh (κ:=Nat) (λn=>⟨[(0,.p (.sl 18 (L.map Wis.pv))),(1,.p (.sl 3 (R.map Res.pv))),(2,.p (.i .i64 i)),(7,.p (.sl 2 (O.map unP))),(8,.p (.i .i64 n))],[],[],false⟩) (λn=>n<=O.length/\∀ y ∈ O.take n,y≠(r.minute,-1)) (λn=>O.length - n) 0 ?_ ?_ ?_
   .exact sS
   .simp
   .intro n hn;refine gH (λhc=>?_) λhc=>?_
    .obtain ⟨o,ho⟩:=zj (i:=n) (l:=O) (by omega)
     have ho2:=hO2 o (xae ho);have hf:((-1:Int) < 0)=True:=eq_true (by omega)
     by_cases c1:o.1=r.minute
     .have c1':=eq_true c1;have eo:o=(r.minute,-1):=Prod.ext c1 ho2;rw [ybc (λy hy=>decide_eq_true (hn.2 y hy)) ho (decide_eq_false λk=>k eo)]
      have qe:=vv qR @ho @hx @hf (vv @c1' @hr0 @tm1 @decide_true (aI @rt1 @rt4));have jA:=h40;exact gD2
     .have c1':=eq_false c1;have eo:o≠(r.minute,-1):=λk=>c1 (by rw [k])
      have qe:=vv qR @ho @hx @hf (vv @c1' @hr0 @tm1 @decide_true (aI @decide_false (aI @rt1 @rt4)));have jA:=h40;refine gE2 ?_
      all_goals exact ⟨n+1,⟨by omega,yU (p:=λy=>y≠_) hn.2 ho eo⟩,by omega,by simp⟩
    .have e:n=O.length:=by omega
     subst e;rw [xah] at hn;rw [ybd λy hy=>decide_eq_true (hn.2 y hy)]
     exact gD2
  .have hlab:=hk.lab;have hkl:k < R.length:=by have:=(xaa.1 hk.at_b).1;omega
   obtain ⟨q,hq⟩:=zj (l:=R) (i:=k) hkl;rw [hlab] at h40 h94 hOl hgo ⊢;rw [if_neg (by omega),xam,zW hq] at hgo
   clear hO2 hgb;generalize zaS L ((i:Int),(k:Int))=O at *;rw [hgo];have hf:((k:Int) < 0)=False:=eq_false (by omega)
   have qe:=aI qR (aI @hx (aI @hg @xaC));have jA:=h94;refine gE2 ?_;refine zh (κ:=Nat) (λn=>⟨[(0,.p (.sl 18 (L.map Wis.pv))),(1,.p (.sl 3 (R.map Res.pv))),(2,.p (.i .i64 i)),(7,.p (.sl 2 (O.map unP))),(8,.p (.i .i64 n))],[],[],false⟩) (λn=>n<=O.length/\∀ y ∈ O.take n,y≠(r.minute,q.minute)) (λn=>O.length - n) 0 ?_ ?_ ?_
   .exact sS
   .simp
   .intro n hn;refine gH (λhc=>?_) λhc=>?_
    .obtain ⟨o,ho⟩:=zj (i:=n) (l:=O) (by omega)
     by_cases c1:o.1=r.minute
     .have c1':=eq_true c1
      by_cases c2:o.2=q.minute
      .have c2':=eq_true c2;have eo:o=(r.minute,q.minute):=Prod.ext c1 c2;rw [ybc (λy hy=>decide_eq_true (hn.2 y hy)) ho (decide_eq_false λk=>k eo)]
       have qe:=vv qR @ho @hx @hq (vv @hf @c1' @c2' @decide_true (aI @decide_false (aI @rt1 @rt4)));have jA:=h40;exact gD2
      .have c2':=eq_false c2;have eo:o≠(r.minute,q.minute):=λk=>c2 (by rw [k])
       have qe:=vv qR @ho @hx @hq (vv @hf @c1' @c2' @decide_true (aI @decide_false (aI @rt1 @rt4)));have jA:=h40;refine gE2 ?_
       all_goals exact ⟨n+1,⟨by omega,yU (p:=λy=>y≠_) hn.2 ho eo⟩,by omega,by simp⟩
     .have c1':=eq_false c1;have eo:o≠(r.minute,q.minute):=λk=>c1 (by rw [k])
      have qe:=vv qR @ho @hx @hq (vv @hf @c1' @decide_false @rt1 @rt4);have jA:=h40;refine gE2 ?_
      all_goals exact ⟨n+1,⟨by omega,yU (p:=λy=>y≠_) hn.2 ho eo⟩,by omega,by simp⟩
    .have e:n=O.length:=by omega
     subst e;rw [xah] at hn;rw [ybd λy hy=>decide_eq_true (hn.2 y hy)]
     exact gD2
def hdF (L:List Wis) (x y:Int) (j:Nat):Bool:=decide (x<=(zY L j:Int)) && decide ((zY L j:Int) < y)
def hdK (ls:List Lim) (L:List Wis) (R:List Res) (k:Ky) (f:Nat->Bool) (c:Nat):List ByteArray:=((List.range c).filter λi=>f i && zrf ls L R k i).map (nmW L)
def ydw (ls:List Lim) (L:List Wis) (R:List Res) (k:Ky) (f:Nat->Bool) (c:Nat):(hdK ls L R k f c).length<=c:=by
 unfold hdK;rw [xaf];exact xa0 (xby _ _) (by simp)
def ycC (ls:List Lim) (L:List Wis) (R:List Res) (k:Ky) (f:Nat->Bool) (c:Nat):hdK ls L R k f (c+1)=hdK ls L R k f c++if (f c && zrf ls L R k c)=true then [nmW L c] else []:=by
 unfold hdK;rw [xbd,xbe,xa6]
 congr 1
 simp only [xa2,List.filter_nil]
 by_cases hc:(f c && zrf ls L R k c)=true
 .rw [if_pos hc,if_pos hc];rfl
 .rw [if_neg hc,if_neg hc];rfl
def yaE (hls:∀ l ∈ ls,zr l=0) (h:zav L=0) (hr:zc8 L R=0) {k:Ky} {l:Lim} (hk1:ls[k.1]?=some l) (hk2:k.2 ∈ zaq l) (n:Int) (x y:Int):Pure prog 112 [.sl 11 (ls.map Lim.pv),.sl 18 (L.map Wis.pv),.sl 3 (R.map Res.pv),(Win.mk k.1 k.2 n).pv,.i .i64 x,.i .i64 y] (.sl 1 ((yak ls L R k (hdF L x y)).map .s)):=by
 have hn:=(zbZ hr).1;have hn64:=(zR h).1;have hR:=(yV h hr).2;have hlc:=hls l (xae hk1);have hwr:=zfn hlc hk2;have he:yak ls L R k (hdF L x y)=hdK ls L R k (hdF L x y) L.length:=rfl;rw [he];refine pz func112 f112.eq_1 λhw X hX=>?_
 have qe:=@qR;refine gE2 ?_;refine run_ownL 100 9 1 (κ:=Nat) (λc=>⟨[(0,.p (.sl 11 (ls.map Lim.pv))),(1,.p (.sl 18 (L.map Wis.pv))),(2,.p (.sl 3 (R.map Res.pv))),(4,.p (.i .i64 x)),(5,.p (.i .i64 y)),(9,.lp 9 0),(13,.row 100 (hdK ls L R k (hdF L x y) c).length),(14,.p (.i .i64 c))],[(9,.box [.p (.i .i64 (k.1:Int)),.p (.i .i64 k.2),.p (.i .i64 n)] false),(100,.row 9 1 ((hdK ls L R k (hdF L x y) c).map .s) false)],[],false⟩) (λc=>c<=L.length) (λc=>L.length - c) 0 ?_ ?_ ?_
 .refine ⟨gO ?_,gO ?_⟩<;>simp [hdK]
 .simp
 .intro c hc0;have hnx:=ycC ls L R k (hdF L x y) c;have hln:=ydw ls L R k (hdF L x y) c;have hend:c=L.length->hdK ls L R k (hdF L x y) c=hdK ls L R k (hdF L x y) L.length:=λe=>by rw [e]
  generalize hdK ls L R k (hdF L x y) c=P at *;refine gH (λhc=>?_) λhc=>?_
  .have hil:c < L.length:=by omega
   obtain ⟨w,hx⟩:=zj hil;obtain ⟨r,hr1⟩:=zj (i:=c) (l:=R) (by omega)
   have h40:=ye L hil;have hra:=zW hr1;have hnm:nmW L c=w.req.name:=by unfold nmW;rw [hx]
   have hwq:=(yu (yb h hx)).1;have hhas:zrf ls L R k c=(r.gr && decide (0 < zbb l (zbF (w.req.at r.minute)) k.2)):=by
    unfold zrf;simp only [hk1,hra]
    congr 1
    rw [xbG,decide_eq_true_eq,ydx hlc];unfold zfB;rw [hx]
   rw [hhas,hnm] at hnx;clear hhas;have qe:=@qR;repeat' first|refine za h40 ?_|refine gG ?_|show AK _;intro J Z|refine gJ ?_|omega|exact aT
   refine ybf ⟨[(0,.p (.sl 11 (ls.map Lim.pv))),(1,.p (.sl 18 (L.map Wis.pv))),(2,.p (.sl 3 (R.map Res.pv))),(4,.p (.i .i64 x)),(5,.p (.i .i64 y)),(9,.lp 9 0),(13,.row 100 P.length),(14,.p (.i .i64 c)),(16,.p (.i .i64 (zY L c)))],[(9,.box [.p (.i .i64 (k.1:Int)),.p (.i .i64 k.2),.p (.i .i64 n)] false),(100,.row 9 1 (P.map .s) false)],[],false⟩ ?_ ?_
   ·(refine gC ?_ ?_<;>intro hc<;>try contradiction)
    .have hle:(zY L c:Int)=zau L c:=by unfold zY;split<;>omega
     refine gE2 ?_
     all_goals (show Cov _ _;simp only [qS,seval]<;>simp [hle])
    .have hle:(zY L c:Int)=c:=by unfold zY;split<;>omega
     refine gE2 ?_
     all_goals (show Cov _ _;simp only [qS,seval]<;>simp [hle])
   cases hg:r.gr with
   | false=>
    rw [show (hdF L x y c && (r.gr && decide (0 < zbb l (zbF (w.req.at r.minute)) k.2)))=false by rw [hg,xa4,Bool.and_false],if_neg (by decide),xar] at hnx
    have qe:=vv qR @hx @hr1 @hg yDF;have jA:=nm 64 (.sl 7 []);have jB:=nm 182 (.i .i64 0);refine gE2 ?_
    all_goals exact ⟨c+1,by omega,by omega,by simp [hnx],by simp [hnx]⟩
   | true=>
    have hm:=hR r (xae hr1) hg;have hkl:k.1 < ls.length:=(xaa.1 hk1).1
    by_cases c3:x<=(zY L c:Int)
    .have c3':=eq_true c3
     by_cases c4:(zY L c:Int) < y
     .have c4':=eq_true c4;have h64:=yq w r.minute hwq hm;have hml:=zbd (w.req.at r.minute);have h37:=yaK l (zbF (w.req.at r.minute)) k.2 hlc (by omega) (by omega) (by omega)
      by_cases c5:0 < zbb l (zbF (w.req.at r.minute)) k.2
      .have c5':=eq_true c5;rw [show (hdF L x y c && (r.gr && decide (0 < zbb l (zbF (w.req.at r.minute)) k.2)))=true by unfold hdF;rw [decide_eq_true c3,decide_eq_true c4,hg,decide_eq_true c5];rfl,if_pos rfl] at hnx
       have qe:=vv qR @hx @hr1 @hg (vv @c3' @c4' @hk1 @c5' @decide_true);have jA:=h64;have jB:=h37;refine gE2 ?_
       all_goals exact ⟨c+1,by omega,by omega,by simp [hnx],by simp [hnx]⟩
      .have c5':=eq_false c5;rw [show (hdF L x y c && (r.gr && decide (0 < zbb l (zbF (w.req.at r.minute)) k.2)))=false by rw [decide_eq_false c5,Bool.and_false,Bool.and_false],if_neg (by decide),xar] at hnx
       have qe:=vv qR @hx @hr1 @hg (vv @c3' @c4' @hk1 @c5' yDF);have jA:=h64;have jB:=h37;refine gE2 ?_
       all_goals exact ⟨c+1,by omega,by omega,by simp [hnx],by simp [hnx]⟩
     .have c4':=eq_false c4;rw [show (hdF L x y c && (r.gr && decide (0 < zbb l (zbF (w.req.at r.minute)) k.2)))=false by unfold hdF;rw [decide_eq_false c4,Bool.and_false];rfl,if_neg (by decide),xar] at hnx
      have qe:=vv qR @hx @hr1 @hg (aI @c3' (aI @c4' yDF));have jA:=nm 64 (.sl 7 []);have jB:=nm 182 (.i .i64 0);refine gE2 ?_
      all_goals exact ⟨c+1,by omega,by omega,by simp [hnx],by simp [hnx]⟩
    .have c3':=eq_false c3;rw [show (hdF L x y c && (r.gr && decide (0 < zbb l (zbF (w.req.at r.minute)) k.2)))=false by unfold hdF;rw [decide_eq_false c3];rfl,if_neg (by decide),xar] at hnx
     have qe:=vv qR @hx @hr1 @hg (aI @c3' yDF);have jA:=nm 64 (.sl 7 []);have jB:=nm 182 (.i .i64 0);refine gE2 ?_
     all_goals exact ⟨c+1,by omega,by omega,by simp [hnx],by simp [hnx]⟩
  .have e:c=L.length:=by omega
   rw [<-hend e];exact gD2
def prI (L:List Wis) (R:List Res) (i:Nat):List (Unt × Opt):=(za7 L i).flatMap λu=>(zad L R u).map λo=>(u,o)
def yJ (L:List Wis) (R:List Res):zfz L R=(List.range L.length).flatMap (prI L R):=by
 unfold zfz zq;rw [List.flatMap_assoc];rfl
def y5 (R:List Res) (hu:zau L i < 0\/(i:Int) < zau L i):prI L R i=(zad L R ((i:Int),zau L i)).map λo=>(((i:Int),zau L i),o):=by
 unfold prI za7;rw [if_pos hu];simp
def yah (R:List Res) (hu:¬(zau L i < 0\/(i:Int) < zau L i)):prI L R i=[]:=by
 unfold prI za7;rw [if_neg hu];rfl
def yaM (hn:n < (zad L R u).length):∃ o,(zad L R u)[n]?=some o/\(zaS L u)[n]?=some o/\o ∈ zaS L u:=by
 obtain ⟨o,ho⟩:=zj hn;have h:(zaS L u)[n]?=some o:=by
  unfold zad at ho
  split at ho
  .obtain ⟨hl,e⟩:=xaa.1 ho;rw [<-e,xac (xaJ hl (List.takeWhile_prefix _).length_le)]
   congr 1
   exact ((List.takeWhile_prefix _).getElem hl).symm
  .exact ho
 exact ⟨o,ho,h,xae h⟩
def yD (h:zav L=0) (R:List Res) (hi:i < L.length):(zad L R ((i:Int),zau L i)).length<=9216:=by
 have:=y6 h hi;unfold zad
 split
 .exact xa0 (List.takeWhile_prefix _).length_le this
 .exact this
def ydp (L:List Wis) (i:Nat):yQ L i (-1)=λj=>decide ((zY L j:Int) < (i:Int)):=by
 funext j
 unfold yQ;rw [decide_eq_true (show (zY L j:Int)≠-1 by omega),xbL]
def ydK (L:List Wis) (u:Unt) (o:Opt):(ya6 L u o).length<=802:=by
 unfold ya6;have q1:=y8 L u.1.toNat o.1;have q2:=y8 L u.2.toNat o.2
 split
 .omega
 .rw [(zog _ _ _).length_eq,xad];omega
def exA (hl:zJ ls=0) (h:zav L=0) (R:List Res) (i:Nat) (o:Opt) :
  ∃ all,Pure prog 110 [.sl 11 (ls.map Lim.pv),.sl 7 ((zlk L R (yQ L i (-1))).map Mov.pv),.sl 7 ((ya6 L ((i:Int),zau L i) o).map Mov.pv)] (.sl 3 (((xrA ls L R ((i:Int),zau L i) o).map (wnX ls all)).map Win.pv)):=by
 obtain ⟨hn32,hls⟩:=zU hl;have hn64:=(zR h).1;have hp:=ybt hn64 R (yQ L i (-1));have hc:=ydK L ((i:Int),zau L i) o;have h110:=yca ls (zlk L R (yQ L i (-1))) (ya6 L ((i:Int),zau L i) o) hn32 hls (by omega)
 rw [xr_ref hls] at h110;have e:xrW ls (zbL L R (yQ L i (-1))++zan L ((i:Int),zau L i) o) (zan L ((i:Int),zau L i) o)=xrA ls L R ((i:Int),zau L i) o:=by rw [ydp];rfl
 rw [e] at h110;exact ⟨_,h110⟩
def ybG {β:Type} {f:Nat->List β} {p:β->Bool} (h:∀ j,j < i->∀ y ∈ f j,p y=false) (hi:∀ y ∈ f i,p y=false):∀ j,j < i+1->∀ y ∈ f j,p y=false:=λj hj=>by
 rcases Nat.lt_or_eq_of_le (show j<=i by omega) with hj|rfl
 .exact h j hj
 .exact hi
def ydc (h:xrA ls L R u o=w::W):rsG ls L R (u,o)=[zto ls L R u o w]:=by
 unfold rsG;simp only [h]
def rsI (ls:List Lim) (L:List Wis) (R:List Res) (i:Nat):List Rsn:=((List.range i).flatMap (prI L R)).flatMap (rsG ls L R)
def ydb (h:zav L=0) (R:List Res) (hi:i<=L.length):(rsI ls L R i).length<=i*9216:=by
 unfold rsI;rw [List.flatMap_assoc];have:=ya (f:=λx=>(prI L R x).flatMap (rsG ls L R)) (c:=9216) (l:=List.range i) λx hx=>by
  have hx:=xaG.1 hx;have q:=ya (f:=rsG ls L R) (c:=1) (l:=prI L R x) λy _=>zxF ls L R y
  have:(prI L R x).length<=9216:=by
   by_cases hu:zau L x < 0\/(x:Int) < zau L x
   .rw [y5 R hu,xaf];exact yD h R (by omega)
   .rw [yah R hu];simp
  omega
 rw [xaU] at this;exact this
def ycd (h1:zJ ls=0) (h2:zav L=0) (h3:zc8 L R=0):Pure prog 68 [.sl 11 (ls.map Lim.pv),.sl 18 (L.map Wis.pv),.sl 3 (R.map Res.pv)] (.tup [.sl 6 ((if rsS ls L R=true then [] else rsA ls L R).map Rsn.pv),.b (!rsS ls L R)]):=by
 have hn64:=(zR h2).1
 obtain ⟨hn32,hls⟩:=zU h1
 refine pz func68 f68.eq_1 λhw X hX=>?_
 have qe:=@qR;refine gE2 ?_
 refine run_ownL 100 217 6 (κ:=Nat) (λk=>⟨[(0,.p (.sl 11 (ls.map Lim.pv))),(1,.p (.sl 18 (L.map Wis.pv))),(2,.p (.sl 3 (R.map Res.pv))),(8,.row 100 (rsI ls L R k).length),(9,.p (.i .i64 k))],[(100,.row 217 6 ((rsI ls L R k).map Rsn.pv) false)],[],false⟩) (λk=>k<=L.length/\∀ j,j < k->∀ y ∈ prI L R j,(xrA ls L R y.1 y.2).isEmpty=false) (λk=>L.length - k) 0 ?_ ?_ ?_
 .refine ⟨gO ?_,gO ?_⟩<;>simp [rsI]
 .simp
 .intro k hk
  obtain ⟨hk,hno⟩:=hk
  have hkl:=ydb (ls:=ls) h2 R hk
  have hnk:rsI ls L R (k+1)=rsI ls L R k++(prI L R k).flatMap (rsG ls L R):=by unfold rsI;rw [zbE,xa8]
  have hend:k=L.length->rsI ls L R k=rsI ls L R L.length:=λe=>by rw [e]
  generalize rsI ls L R k=P at *
  refine gH (λhc=>?_) λhc=>?_
  .have hil:k < L.length:=by omega
   obtain ⟨w,hx⟩:=zj hil
   have h93:=yaH L hil
   by_cases hu:zau L k < 0\/(k:Int) < zau L k
   .have hu':(decide (zau L k < 0) || decide ((k:Int) < zau L k))=true:=by simpa using hu
    rw [hu'] at h93
    have h94:=yY h2 hil hu
    have h09:=yaF h2 h3 hil hu
    have h53:=y3 h2 (yV h2 h3) k (-1)
    have hOl:=y6 h2 hil
    have hpl:=yD h2 R hil
    have hy:=y5 R hu
    rw [hy] at hnk
    have qe:=aI qR @xaC;have jA:=h93;have jB:=h94;refine gE2 ?_
    refine zh (κ:=Nat) (λn=>⟨[(0,.p (.sl 11 (ls.map Lim.pv))),(1,.p (.sl 18 (L.map Wis.pv))),(2,.p (.sl 3 (R.map Res.pv))),(8,.row 100 (P++rsU ls L R ((k:Int),zau L k) ((zad L R ((k:Int),zau L k)).take n)).length),(9,.p (.i .i64 k)),(10,.p (.sl 2 ((zaS L ((k:Int),zau L k)).map unP))),(11,.p (.i .i64 n))],[(100,.row 217 6 ((P++rsU ls L R ((k:Int),zau L k) ((zad L R ((k:Int),zau L k)).take n)).map Rsn.pv) false)],[],false⟩) (λn=>n<=(zad L R ((k:Int),zau L k)).length/\∀ y ∈ (zad L R ((k:Int),zau L k)).take n,(xrA ls L R ((k:Int),zau L k) y).isEmpty=false) (λn=>(zad L R ((k:Int),zau L k)).length - n) 0 ?_ ?_ ?_
    .refine gJ ?_;simp [rsU]
    .simp
    .intro n hn
     obtain ⟨hn,hnn⟩:=hn
     have hul:=zp4 ls L R ((k:Int),zau L k) ((zad L R ((k:Int),zau L k)).take n)
     rw [xan] at hul
     have qe:=@qR;repeat' first|refine za h09 ?_|refine gG ?_|show AK _;intro J Z|refine gJ ?_|omega|exact aT
     (refine gC ?_ ?_<;>intro hc<;>try contradiction)
     .obtain ⟨o,hpo,ho,hom⟩:=yaM (L:=L) (R:=R) (u:=((k:Int),zau L k)) (n:=n) (by omega)
      obtain ⟨r1,r2⟩:=ybw h2 hil hom
      have hnl:n < (zaS L ((k:Int),zau L k)).length:=(xaa.1 ho).1
      have h96:=yaG h2 hil o r1 r2
      obtain ⟨all,h110⟩:=exA h1 h2 R k o
      have hun:=zts (ls:=ls) (L:=L) (R:=R) (u:=((k:Int),zau L k)) hpo
      cases hf:xrA ls L R ((k:Int),zau L k) o with
      | nil=>
       rw [hf] at h110
       have hS:rsS ls L R=true:=by
        unfold rsS
        rw [xaV]
        refine ⟨(((k:Int),zau L k),o),?_,by unfold rsP;rw [hf];rfl⟩
        rw [yJ]
        exact xaw.2 ⟨k,xaG.2 hil,by rw [hy];exact xaN.2 ⟨o,xae hpo,rfl⟩⟩
       rw [hS,if_pos rfl]
       have qe:=aI qR (aI @ho (@List.map_nil.{0,0}));have jA:=h53;have jB:=h96;have jC:=h110;refine gE5 ?_
       all_goals exact zdc (.nilsl _) (.refl _)
      | cons g W=>
       rw [hf] at h110
       have hgm:g ∈ xrA ls L R ((k:Int),zau L k) o:=by rw [hf];simp
       obtain ⟨l,hg1,hg2,_⟩:=zhY.1 hgm
       have h12:=yaE hls h2 h3 hg1 hg2 (wnX ls all g).cnt 0 k
       have ehd:hdF L 0 k=λj=>decide ((zY L j:Int) < (k:Int)):=by
        funext j;unfold hdF;rw [decide_eq_true (show (0:Int)<=(zY L j:Int) by omega),xaZ]
       rw [ehd,<-yaj h3] at h12
       have hnm:=ycY h3 hil
       have hnw:nmW L k=w.req.name:=by unfold nmW;rw [hx]
       rw [ydc hf] at hun
       have her:zto ls L R ((k:Int),zau L k) o g=⟨w.req.name,o.1,o.2,g.1,g.2,zlF ls L R g λj=>decide ((zY L j:Int) < (k:Int))⟩:=by
        unfold zto;rw [xam,hnm,hnw]
       rw [her] at hun
       have hW':=eq_false (show ¬(((g::W).length:Int)=0) by rw [xaz];omega)
       obtain ⟨o1,o2⟩:=o
       have qe:=vv qR @ho @hx @hW' (aI @List.length_map.{0,0} (aI @rt1 @rt4));have jA:=h53;have jB:=h96;have jC:=h110;have jD:=h12;refine gE5 ?_
       all_goals exact ⟨n+1,⟨by omega,zd1 hnn hpo (by rw [hf];rfl)⟩,by omega,by simp [hun,xbA],by simp [hun];exact ⟨rfl,rfl⟩⟩
     .have e:n=(zad L R ((k:Int),zau L k)).length:=by omega
      subst e
      rw [xah] at hnn ⊢
      have hnk:rsI ls L R (k+1)=P++rsU ls L R ((k:Int),zau L k) (zad L R ((k:Int),zau L k)):=hnk
      refine gE2 ?_
      all_goals exact ⟨k+1,⟨by omega,ybG hno (by
       rw [hy]
       intro y hyy
       obtain ⟨o',ho',rfl⟩:=xaN.1 hyy
       exact hnn o' ho')⟩,by omega,by simp [hnk],by simp [hnk]⟩
   .have hu':(decide (zau L k < 0) || decide ((k:Int) < zau L k))=false:=by simpa using hu
    rw [hu'] at h93
    rw [yah R hu,xbH,xar] at hnk
    have qe:=aI qR @xax;have jA:=h93;refine gE2 ?_
    all_goals exact ⟨k+1,⟨by omega,ybG hno (by rw [yah R hu];simp)⟩,by omega,by simp [hnk],by simp [hnk]⟩
  .have e:k=L.length:=by omega
   have hall:∀ y ∈ zfz L R,rsP ls L R y=false:=λy hy=>by
    rw [yJ] at hy
    obtain ⟨j,hj,hy⟩:=xaw.1 hy
    exact hno j (by rw [e];exact xaG.1 hj) y hy
   have hS:rsS ls L R=false:=by
    unfold rsS
    rw [Bool.eq_false_iff]
    intro h
    obtain ⟨y,hy,h⟩:=xaV.1 h
    rw [hall y hy] at h;cases h
   have hA:rsA ls L R=P:=by
    rw [hend e]
    unfold rsA
    rw [ybd (λy hy=>by rw [hall y hy];rfl),yJ];rfl
   rw [hS,if_neg (by decide),hA]
   exact gD2
def yaL (h:mtR ls L R x r=false):yad ls L R (x::p) (r::s)=false:=by
 rw [yad,h];rfl
def ydm (h:mtR ls L R x r=true):yad ls L R (x::p) (r::s)=yad ls L R p s:=by
 rw [yad,h,xaZ]
def ydn:yad ls L R (x::p) []=false:=rfl
def ydo (s:List Rsn):yad ls L R [] s=decide (s.length=0):=by
 cases s<;>rfl
def prT (L:List Wis) (R:List Res) (i n:Nat):List (Unt × Opt):=(prI L R i).drop n++((List.range L.length).drop (i+1)).flatMap (prI L R)
def yct (h:(prI L R i)[n]?=some x):prT L R i n=x::prT L R i (n+1):=by
 unfold prT;obtain ⟨hn,e⟩:=xaa.1 h;rw [xaE hn,e];rfl
def ybs (L:List Wis) (R:List Res) (i:Nat):prT L R i (prI L R i).length=((List.range L.length).drop (i+1)).flatMap (prI L R):=by
 unfold prT;rw [xbM];rfl
def prT_0 (L:List Wis) (R:List Res) (hi:i < L.length):((List.range L.length).drop i).flatMap (prI L R)=prT L R i 0:=by
 unfold prT;rw [xbw,xaE (by simp [hi]),xat,xct]
def mtW (ls:List Lim) (L:List Wis) (R:List Res) (i:Nat) (r:Rsn) (w:Ky):Bool:=decide ((w.1:Int)=r.lim) && decide (w.2=r.win) && decide (r.holders=yak ls L R w λj=>decide ((zY L j:Int) < (i:Int)))
def mt_eq:mtR ls L R (((i:Int),zau L i),o) r=(decide (r.name=nmW L i) && decide (r.minute=o.1) && decide (r.other=o.2) && (xrA ls L R ((i:Int),zau L i) o).any (mtW ls L R i r)):=by
 unfold mtR;rw [xam];rfl
def ydN (h:W.Pairwise zkJ) (hw:W[k]?=some w) {x:Ky} (hx:x ∈ W.take k):¬((x.1:Int)=w.1/\x.2=w.2):=by
 obtain ⟨j,hj⟩:=xbl.1 hx;rw [xaQ] at hj
 split at hj
 .rename_i hjk;obtain ⟨h1,e1⟩:=xaa.1 hj;obtain ⟨h2,e2⟩:=xaa.1 hw;have:=xa1.1 h j k h1 h2 hjk;rw [e1,e2] at this;unfold zkJ at this
  omega
 .cases hj
def ycR {p:Ky->Bool} (hw:W[k]?=some w):(W.take (k+1)).any p=((W.take k).any p || p w):=by
 rw [zE hw,List.any_append];simp
def ycc (h1:zJ ls=0) (h2:zav L=0) (h3:zc8 L R=0) (S:List Rsn):Pure prog 69 [.sl 11 (ls.map Lim.pv),.sl 18 (L.map Wis.pv),.sl 3 (R.map Res.pv),.sl 6 (S.map Rsn.pv)] (.b (yad ls L R (zfz L R) S)):=by
 have hn64:=(zR h2).1
 obtain ⟨hn32,hls⟩:=zU h1
 refine pz func69 f69.eq_1 λhw X hX=>?_
 simp only [wfs,PV.wf,xaf,maxLen] at hw
 have qe:=@qR;refine gE2 ?_
 refine zh (κ:=Nat × Nat) (λk=>⟨[(0,.p (.sl 11 (ls.map Lim.pv))),(1,.p (.sl 18 (L.map Wis.pv))),(2,.p (.sl 3 (R.map Res.pv))),(3,.p (.sl 6 (S.map Rsn.pv))),(9,.p (.i .i64 k.2)),(10,.p (.i .i64 k.1))],[],[],false⟩) (λk=>k.1<=L.length/\k.2<=S.length/\yad ls L R (zfz L R) S=yad ls L R (((List.range L.length).drop k.1).flatMap (prI L R)) (S.drop k.2)) (λk=>L.length - k.1) (0,0) ?_ ?_ ?_
 .exact sS
 .exact ⟨by omega,by omega,by rw [yJ];rfl⟩
 .rintro ⟨k,t⟩ ⟨hk,ht,hP⟩
  simp only at hk ht hP
  refine gH (λhc=>?_) λhc=>?_
  .have hil:k < L.length:=by omega
   rw [prT_0 L R hil] at hP
   obtain ⟨w,hx⟩:=zj hil
   have h93:=yaH L hil
   by_cases hu:zau L k < 0\/(k:Int) < zau L k
   .have hu':(decide (zau L k < 0) || decide ((k:Int) < zau L k))=true:=by simpa using hu
    rw [hu'] at h93
    have h94:=yY h2 hil hu
    have h09:=yaF h2 h3 hil hu
    have h53:=y3 h2 (yV h2 h3) k (-1)
    have hOl:=y6 h2 hil
    have hpl:=yD h2 R hil
    have hy:=y5 R hu
    have hyl:(prI L R k).length=(zad L R ((k:Int),zau L k)).length:=by rw [hy,xaf]
    have qe:=aI qR @xaC;have jA:=h93;have jB:=h94;refine gE2 ?_
    refine zh (κ:=Nat × Nat) (λn=>⟨[(0,.p (.sl 11 (ls.map Lim.pv))),(1,.p (.sl 18 (L.map Wis.pv))),(2,.p (.sl 3 (R.map Res.pv))),(3,.p (.sl 6 (S.map Rsn.pv))),(9,.p (.i .i64 n.2)),(10,.p (.i .i64 k)),(11,.p (.sl 2 ((zaS L ((k:Int),zau L k)).map unP))),(12,.p (.i .i64 n.1))],[],[],false⟩) (λn=>n.1<=(zad L R ((k:Int),zau L k)).length/\n.2<=S.length/\yad ls L R (zfz L R) S=yad ls L R (prT L R k n.1) (S.drop n.2)) (λn=>(zad L R ((k:Int),zau L k)).length - n.1) (0,t) ?_ ?_ ?_
    .exact sS
    .exact ⟨by omega,ht,hP⟩
    .rintro ⟨n,t⟩ ⟨hn,ht,hP⟩
     simp only at hn ht hP
     have qe:=@qR;repeat' first|refine za h09 ?_|refine gG ?_|show AK _;intro J Z|refine gJ ?_|omega|exact aT
     (refine gC ?_ ?_<;>intro hc<;>try contradiction)
     .obtain ⟨o,hpo,ho,hom⟩:=yaM (L:=L) (R:=R) (u:=((k:Int),zau L k)) (n:=n) (by omega)
      obtain ⟨r1,r2⟩:=ybw h2 hil hom
      have hnl:n < (zaS L ((k:Int),zau L k)).length:=(xaa.1 ho).1
      have hnx:=yct (L:=L) (R:=R) (i:=k) (n:=n) (x:=(((k:Int),zau L k),o)) (by rw [hy,xal,hpo];rfl)
      rw [hnx] at hP
      by_cases hts:t < S.length
      .obtain ⟨r,hr⟩:=zj hts
       rw [xaE hts,(xaa.1 hr).2] at hP
       have hmt:=mt_eq (ls:=ls) (L:=L) (R:=R) (i:=k) (o:=o) (r:=r)
       have hnw:nmW L k=w.req.name:=by unfold nmW;rw [hx]
       rw [hnw] at hmt
       have hts':=eq_false (show ¬(S.length:Int)<=(t:Int) by omega)
       by_cases c1:r.name=w.req.name
       .have c1':=eq_true c1
        by_cases c2:r.minute=o.1
        .have c2':=eq_true c2
         by_cases c3:r.other=o.2
         .have c3':=eq_true c3
          rw [decide_eq_true c1,decide_eq_true c2,decide_eq_true c3,xaZ,xaZ,xaZ] at hmt
          have h96:=yaG h2 hil o r1 r2
          obtain ⟨all,h110⟩:=exA h1 h2 R k o
          have hasc:(xrA ls L R ((k:Int),zau L k) o).Pairwise zkJ:=zph hls _ _
          have hmem:∀ g ∈ xrA ls L R ((k:Int),zau L k) o,∃ l,ls[g.1]?=some l/\g.2 ∈ zaq l:=λg hg=>by
           obtain ⟨l,a,b,_⟩:=zhY.1 hg
           exact ⟨l,a,b⟩
          have hWl:((xrA ls L R ((k:Int),zau L k) o).length:Int)<=33*577440:=by
           have q:=yba (ls:=ls) hls ((zbL L R λj=>decide ((zY L j:Int) < (k:Int)))++zan L ((k:Int),zau L k) o) (zan L ((k:Int),zau L k) o) ls.length
           rw [xw_eq,xaf] at q
           have:(xrA ls L R ((k:Int),zau L k) o).length<=ls.length*577440:=q
           omega
          generalize xrA ls L R ((k:Int),zau L k) o=W at *
          have ehd:hdF L 0 k=λj=>decide ((zY L j:Int) < (k:Int)):=by
           funext j;unfold hdF;rw [decide_eq_true (show (0:Int)<=(zY L j:Int) by omega),xaZ]
          obtain ⟨o1,o2⟩:=o
          simp only at c2 c3 c2' c3'
          have qe:=vv qR @ho @hx @hr (vv @hts' @c1' @c2' @c3' (vv @decide_true @decide_false @xaC @rt1 @rt4));have jA:=h53;have jB:=h96;have jC:=h110;refine gE5 ?_
          refine zh (κ:=Nat) (λe=>⟨[(0,.p (.sl 11 (ls.map Lim.pv))),(1,.p (.sl 18 (L.map Wis.pv))),(2,.p (.sl 3 (R.map Res.pv))),(3,.p (.sl 6 (S.map Rsn.pv))),(9,.p (.i .i64 ((t+1:Nat):Int))),(10,.p (.i .i64 k)),(11,.p (.sl 2 ((zaS L ((k:Int),zau L k)).map unP))),(12,.p (.i .i64 n)),(13,.lp 13 0),(14,.p (.b ((W.take e).any (mtW ls L R k r)))),(15,.p (.sl 3 ((W.map (wnX ls all)).map Win.pv))),(16,.p (.i .i64 e))],[(13,.box [.p (.s r.name),.p (.i .i64 r.minute),.p (.i .i64 r.other),.p (.i .i64 r.lim),.p (.i .i64 r.win),.p (.sl 1 (r.holders.map .s))] false)],[],false⟩) (λe=>e<=W.length) (λe=>W.length - e) 0 ?_ ?_ ?_
          .exact sS
          .simp
          .intro e he
           refine gH (λhc=>?_) λhc=>?_
           .obtain ⟨g,hg⟩:=zj (i:=e) (l:=W) (by simp only [xaf] at *;omega)
            obtain ⟨l,hg1,hg2⟩:=hmem g (xae hg)
            have h12:=yaE hls h2 h3 hg1 hg2 (wnX ls all g).cnt 0 k
            have wl:(wnX ls all g).lim=(g.1:Int):=rfl
            have wb:(wnX ls all g).beg=g.2:=rfl
            rw [ehd] at h12
            have hat:=ycR (p:=mtW ls L R k r) hg
            have h31:=zuo r.holders (yak ls L R g λj=>decide ((zY L j:Int) < (k:Int)))
            by_cases d1:(g.1:Int)=r.lim
            .have d1':=eq_true d1
             by_cases d2:g.2=r.win
             .have d2':=eq_true d2
              have hno:(W.take e).any (mtW ls L R k r)=false:=by
               rw [List.any_eq_false]
               intro x hx2 hm
               unfold mtW at hm
               rw [xau,xau,decide_eq_true_eq,decide_eq_true_eq] at hm
               exact ydN hasc hg hx2 ⟨hm.1.1.trans d1.symm,hm.1.2.trans d2.symm⟩
              rw [hno,xb5,show mtW ls L R k r g=decide (r.holders=yak ls L R g λj=>decide ((zY L j:Int) < (k:Int))) by unfold mtW;rw [decide_eq_true d1,decide_eq_true d2];rfl] at hat
              have qe:=vv qR @hg @wl @wb (aI @d1' (aI @d2' (aI @decide_true (@List.getElem?_map.{0,0}))));have jA:=h12;have jB:=h31;refine gE2 ?_
              all_goals exact ⟨e+1,by omega,by omega,by simp [hat]⟩
             .have d2':=eq_false d2
              rw [show mtW ls L R k r g=false by unfold mtW;rw [decide_eq_false d2,Bool.and_false];rfl,xcs] at hat
              have qe:=vv qR @hg @wl @wb (vv @d1' @d2' @decide_true @decide_false (@List.getElem?_map.{0,0}));refine gE2 ?_
              all_goals exact ⟨e+1,by omega,by omega,by simp [hat]⟩
            .have d1':=eq_false d1
             rw [show mtW ls L R k r g=false by unfold mtW;rw [decide_eq_false d1];rfl,xcs] at hat
             have qe:=vv qR @hg @wl @wb (aI @d1' (aI @decide_false (@List.getElem?_map.{0,0})));have jA:=nm 112 (.sl 1 []);have jB:=nm 77 (.b false);refine gE2 ?_
             all_goals exact ⟨e+1,by omega,by omega,by simp [hat]⟩
           .have ee:e=W.length:=by simp only [xaf] at *;omega
            subst ee
            rw [xah]
            cases hm:W.any (mtW ls L R k r) with
            | true=>
             rw [hm] at hmt
             rw [ydm hmt] at hP
             have qe:=aI qR @xaC;refine gE2 ?_
             all_goals exact ⟨(n+1,t+1),⟨by dsimp only;omega,by dsimp only;omega,hP⟩,by dsimp only;omega,by simp⟩
            | false=>
             rw [hm] at hmt
             rw [yaL hmt] at hP
             rw [hP]
             have qe:=aI qR @xax;exact gD2
         .have c3':=eq_false c3
          rw [decide_eq_false c3,Bool.and_false,xa4] at hmt
          rw [yaL hmt] at hP
          rw [hP]
          obtain ⟨o1,o2⟩:=o
          have qe:=vv qR @ho @hx @hr (vv @hts' @c1' @c2' @c3' (vv @decide_true @decide_false @xaC @xax (aI @rt1 @rt4)));exact gD2
        .have c2':=eq_false c2
         rw [decide_eq_false c2,Bool.and_false,xa4,xa4] at hmt
         rw [yaL hmt] at hP
         rw [hP]
         obtain ⟨o1,o2⟩:=o
         have qe:=vv qR @ho @hx @hr (vv @hts' @c1' @c2' @decide_true (vv @decide_false @xaC @xax @rt1 @rt4));exact gD2
       .have c1':=eq_false c1
        rw [decide_eq_false c1,xa4,xa4,xa4] at hmt
        rw [yaL hmt] at hP
        rw [hP]
        have qe:=vv qR @ho @hx @hr (vv @hts' @c1' @decide_true @decide_false (aI @xaC (aI @xax (aI @rt1 @rt4))));exact gD2
      .have hts':=eq_true (show (S.length:Int)<=(t:Int) by omega)
       rw [xbX (by omega),ydn] at hP
       rw [hP]
       have qe:=aI qR @hts';exact gD2
     .have e:n=(zad L R ((k:Int),zau L k)).length:=by omega
      subst e
      rw [<-hyl,ybs] at hP
      refine gE2 ?_
      all_goals exact ⟨(k+1,t),⟨by dsimp only;omega,ht,hP⟩,by dsimp only;omega,by simp⟩
   .have hu':(decide (zau L k < 0) || decide ((k:Int) < zau L k))=false:=by simpa using hu
    rw [hu'] at h93
    have e0:=ybs L R k
    rw [yah R hu] at e0
    rw [show (([]:List (Unt × Opt)).length)=0 from rfl] at e0
    rw [e0] at hP
    have qe:=aI qR @xax;have jA:=h93;refine gE2 ?_
    all_goals exact ⟨(k+1,t),⟨by dsimp only;omega,ht,hP⟩,by dsimp only;omega,by simp⟩
  .have e:k=L.length:=by omega
   subst e
   rw [xbX (by simp),xbH,ydo,xav] at hP
   rw [hP]
   have ed:decide (S.length - t=0)=decide ((t:Int)=(S.length:Int)):=decide_eq_decide.2 (by omega)
   rw [ed]
   exact gD2
