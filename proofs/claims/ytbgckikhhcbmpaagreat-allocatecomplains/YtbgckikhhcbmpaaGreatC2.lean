/- For all lists of limits, wishes and results the statement AllocateComplains of chapter 6 returns true. No conditions. -/
import Derived.Test.YtbgckikhhcbmpaaGreatC1
set_option linter.all false
set_option maxHeartbeats 8000000
set_option maxRecDepth 100000
namespace Go.Proofs.YtbgckikhhcbmpaaGreat
open Go.RowKit Go.Proofs.Tryz
variable {ls:List Lim} {R:List Res} {L:List Wis}
def enF (ls:List Lim) (L:List Wis) (R:List Res) (i:Nat) (j:Nat) (g:Ky):Bool:=decide (nmW L j ∈ yz ls L R g (hdF L ((i:Int)+1) (L.length:Int)))
def enK (ls:List Lim) (L:List Wis) (R:List Res) (i:Nat) (W:List Ky) (c:Nat):List ByteArray:=((List.range c).filter λj=>W.any (enF ls L R i j)).map (nmW L)
def ydf (ls:List Lim) (L:List Wis) (R:List Res) (i:Nat) (W:List Ky) (c:Nat):(enK ls L R i W c).length<=c:=by
 unfold enK;rw [xaf];exact xa0 (xby _ _) (by simp)
def ycw (ls:List Lim) (L:List Wis) (R:List Res) (i:Nat) (W:List Ky) (c:Nat):enK ls L R i W (c+1)=enK ls L R i W c++if W.any (enF ls L R i c)=true then [nmW L c] else []:=by
 unfold enK;rw [xbd,xbe,xa6]
 congr 1
 simp only [xa2,List.filter_nil]
 by_cases hc:W.any (enF ls L R i c)=true
 .rw [if_pos hc,if_pos hc];rfl
 .rw [if_neg hc,if_neg hc];rfl
def yco {k:Ky} {f g:Nat->Bool} (h:∀ i,i < L.length->f i=g i):yz ls L R k f=yz ls L R k g:=by
 unfold yz
 congr 1
 refine List.filter_congr λi hi=>?_
 rw [h i (xaG.1 hi)]
def ydg {i:Nat} (W:List Ky):enK ls L R i W L.length=blkR ls L R i W:=by
 unfold enK blkR
 congr 1
 refine List.filter_congr λj _=>?_
 congr 1
 funext g
 unfold enF;rw [yco (g:=λj=>decide (i+1<=zY L j)) λj hj=>?_]
 unfold hdF;have h:zY L j<=j:=by unfold zY;split<;>omega
 rw [decide_eq_true (show (zY L j:Int) < (L.length:Int) by omega),xbL]
 exact decide_eq_decide.2 (by omega)
def at_mem (x:ByteArray) (L:List ByteArray):decide (0<=atL x L)=decide (x ∈ L):=by
 refine decide_eq_decide.2 ⟨λh=>?_,λh=>?_⟩
 .refine xbC λhn=>?_
  have:=zsa (n:=x) (l:=L) λy hy e=>hn (e ▸ hy)
  omega
 .obtain ⟨i,hi,hno⟩:∃ i,L[i]?=some x/\∀ y ∈ L.take i,y≠x:=by
   induction L with
   | nil=>cases h
   | cons a r ih=>
    by_cases e:a=x
    .exact ⟨0,by simp [e],by simp⟩
    .obtain ⟨i,h1,h2⟩:=ih (by rcases xaI.1 h with rfl|h;exact absurd rfl e;exact h)
     exact ⟨i+1,by simpa using h1,λy hy=>by
      rw [xa3] at hy
      rcases xaI.1 hy with rfl|hy
      .exact e
      .exact h2 y hy⟩
  rw [zr8 hno hi];omega
def yb7 (h1:zJ ls=0) (h2:zav L=0) (h3:zc8 L R=0):Pure prog 30 [.sl 11 (ls.map Lim.pv),.sl 18 (L.map Wis.pv),.sl 3 (R.map Res.pv)] (.tup [cplP ((zoJ ls L R).getD cpl0),.b (zoJ ls L R).isSome]):=by
 have hn64:=(zR h2).1
 obtain ⟨hn32,hls⟩:=zU h1
 refine pz func30 f30.eq_1 λhw X hX=>?_
 have qe:=@qR;refine gE2 ?_
 refine zh (κ:=Nat) (λk=>⟨[(0,.p (.sl 11 (ls.map Lim.pv))),(1,.p (.sl 18 (L.map Wis.pv))),(2,.p (.sl 3 (R.map Res.pv))),(6,.lp 6 0),(8,.p (.i .i64 k))],[(6,.box [.p (.i .i64 0),.p (.i .i64 0),.p (.i .i64 0),.p .nilsl] false)],[],false⟩) (λk=>k<=L.length/\∀ j,j < k->∀ y ∈ prI L R j,(xrA ls L R y.1 y.2).isEmpty=false) (λk=>L.length - k) 0 ?_ ?_ ?_
 .exact sS
 .simp
 .intro k hk
  obtain ⟨hk,hno⟩:=hk
  refine gH (λhc=>?_) λhc=>?_
  .have hil:k < L.length:=by omega
   have h93:=yaJ L hil
   by_cases hu:zau L k < 0\/(k:Int) < zau L k
   .have hu':(decide (zau L k < 0) || decide ((k:Int) < zau L k))=true:=by simpa using hu
    rw [hu'] at h93
    have h94:=yY h2 hil hu
    have h09:=yaG h2 h3 hil hu
    have h53:=yB h2 (yI h2 h3) k (-1)
    have h53o:=yB h2 (yI h2 h3) L.length k
    have hOl:=y6 h2 hil
    have hpl:=yaM h2 R hil
    have hy:=ybp R hu
    have qe:=aI qR @xaC;have jA:=h93;have jB:=h94;refine gE2 ?_
    refine zh (κ:=Nat) (λn=>⟨[(0,.p (.sl 11 (ls.map Lim.pv))),(1,.p (.sl 18 (L.map Wis.pv))),(2,.p (.sl 3 (R.map Res.pv))),(6,.lp 6 0),(8,.p (.i .i64 k)),(9,.p (.sl 2 ((zaS L ((k:Int),zau L k)).map unP))),(10,.p (.i .i64 n))],[(6,.box [.p (.i .i64 0),.p (.i .i64 0),.p (.i .i64 0),.p .nilsl] false)],[],false⟩) (λn=>n<=(zad L R ((k:Int),zau L k)).length/\∀ y ∈ (zad L R ((k:Int),zau L k)).take n,(xrA ls L R ((k:Int),zau L k) y).isEmpty=false) (λn=>(zad L R ((k:Int),zau L k)).length - n) 0 ?_ ?_ ?_
    .exact sS
    .simp
    .intro n hn
     obtain ⟨hn,hnn⟩:=hn
     have qe:=@qR;repeat' first|refine za h09 ?_|refine gG ?_|show AK _;intro J Z|refine gJ ?_|omega|exact aT
     (refine gC ?_ ?_<;>intro hc<;>try contradiction)
     .obtain ⟨o,hpo,ho,hom⟩:=yaN (L:=L) (R:=R) (u:=((k:Int),zau L k)) (n:=n) (by omega)
      obtain ⟨r1,r2⟩:=ybt h2 hil hom
      have hnl:n < (zaS L ((k:Int),zau L k)).length:=(xaa.1 ho).1
      have h96:=yaH h2 hil o r1 r2
      have h95:=fitA h1 h2 R k o
      cases hf:(xrA ls L R ((k:Int),zau L k) o).isEmpty with
      | true=>
       rw [hf] at h95
       have hS:zoJ ls L R=some ⟨k,o.1,o.2,blkR ls L R k (xrO ls L R ((k:Int),zau L k) o)⟩:=by
        have:=zkc (p:=λx:Unt × Opt=>(xrA ls L R x.1 x.2).isEmpty) (f:=prI L R) (l:=List.range L.length) (k:=k) (u:=k) (by simp [hil]) (λx hx y hyy=>hno x (by
         obtain ⟨q,hq⟩:=xbl.1 hx
         rw [xaQ] at hq
         split at hq
         .rw [List.getElem?_range (by omega)] at hq;injection hq with hq;omega
         .cases hq) y hyy) (e:=n) (o:=(((k:Int),zau L k),o)) (by rw [hy,xal,hpo];rfl) (λy hyy=>by
         rw [hy,<-xbK] at hyy
         obtain ⟨o',ho',rfl⟩:=xaN.1 hyy
         exact hnn o' ho') hf
        unfold zoJ
        rw [y4,this,<-ycC h2 h3 hil hu];rfl
       obtain ⟨all,h110⟩:=exO h1 h2 R k o
       have hmem:∀ g ∈ xrO ls L R ((k:Int),zau L k) o,∃ l,ls[g.1]?=some l/\g.2 ∈ zaq l:=λg hg=>by
        obtain ⟨l,a,b,_⟩:=zhY.1 hg
        exact ⟨l,a,b⟩
       have hWl:((xrO ls L R ((k:Int),zau L k) o).length:Int)<=33*577440:=by
        have q:=ya9 (ls:=ls) hls ((zbL L R λj=>decide ((zY L j:Int)≠(k:Int)))++zan L ((k:Int),zau L k) o) (zan L ((k:Int),zau L k) o) ls.length
        rw [xw_eq,xaf] at q
        have:(xrO ls L R ((k:Int),zau L k) o).length<=ls.length*577440:=q
        omega
       rw [<-ydg] at hS
       rw [hS]
       generalize xrO ls L R ((k:Int),zau L k) o=W at *
       obtain ⟨o1,o2⟩:=o
       have qe:=aI qR (aI @ho (aI @xaC (aI @rt1 @rt4)));have jA:=h53;have jB:=h96;have jC:=h95;have jD:=h53o;have jE:=h110;refine gE5 ?_
       refine run_ownL 300 9 1 (κ:=Nat) (λc=>⟨[(0,.p (.sl 11 (ls.map Lim.pv))),(1,.p (.sl 18 (L.map Wis.pv))),(2,.p (.sl 3 (R.map Res.pv))),(6,.lp 6 0),(8,.p (.i .i64 k)),(12,.lp 12 0),(13,.p (.sl 3 ((W.map (wnX ls all)).map Win.pv))),(14,.p (.i .i64 c))],[(6,.box [.p (.i .i64 0),.p (.i .i64 0),.p (.i .i64 0),.p .nilsl] false),(12,.box [.p (.i .i64 k),.p (.i .i64 o1),.p (.i .i64 o2),.row 300 (enK ls L R k W c).length] false),(300,.row 9 1 ((enK ls L R k W c).map .s) false)],[],false⟩) (λc=>c<=L.length) (λc=>L.length - c) 0 ?_ ?_ ?_
       .refine ⟨gO ?_,gO ?_⟩<;>simp [enK]
       .simp
       .intro c hc0
        have hnx:=ycw ls L R k W c
        have hln:=ydf ls L R k W c
        have hend:c=L.length->enK ls L R k W c=enK ls L R k W L.length:=λe=>by rw [e]
        generalize enK ls L R k W c=P at *
        refine gH (λhc=>?_) λhc=>?_
        .obtain ⟨w,hx⟩:=zj (i:=c) (l:=L) (by omega)
         have hnw:nmW L c=w.req.name:=by unfold nmW;rw [hx]
         refine gE2 ?_
         refine zh (κ:=Nat) (λe=>⟨[(0,.p (.sl 11 (ls.map Lim.pv))),(1,.p (.sl 18 (L.map Wis.pv))),(2,.p (.sl 3 (R.map Res.pv))),(6,.lp 6 0),(8,.p (.i .i64 k)),(12,.lp 12 0),(13,.p (.sl 3 ((W.map (wnX ls all)).map Win.pv))),(14,.p (.i .i64 c)),(15,.p (.b ((W.take e).any (enF ls L R k c)))),(16,.p (.i .i64 e))],[(6,.box [.p (.i .i64 0),.p (.i .i64 0),.p (.i .i64 0),.p .nilsl] false),(12,.box [.p (.i .i64 k),.p (.i .i64 o1),.p (.i .i64 o2),.row 300 P.length] false),(300,.row 9 1 (P.map .s) false)],[],false⟩) (λe=>e<=W.length) (λe=>W.length - e) 0 ?_ ?_ ?_
         .exact sS
         .simp
         .intro e he
          refine gH (λhc=>?_) λhc=>?_
          .obtain ⟨g,hg⟩:=zj (i:=e) (l:=W) (by simp only [xaf] at *;omega)
           have hat:=ycE (p:=enF ls L R k c) hg
           cases han:(W.take e).any (enF ls L R k c) with
           | true=>
            rw [han,Bool.true_or] at hat
            have qe:=aI qR (aI @hg (aI @hx (@List.getElem?_map.{0,0})));have jA:=nm 112 (.sl 1 []);have jB:=nm 111 (.b false);refine gE2 ?_
            all_goals exact ⟨e+1,by omega,by omega,by simp [hat]⟩
           | false=>
            rw [han,xb5] at hat
            obtain ⟨l,hg1,hg2⟩:=hmem g (xae hg)
            have h12:=yb0 hls h2 h3 hg1 hg2 (wnX ls all g).cnt ((k:Int)+1) (L.length:Int)
            have h74:=ycg (yz ls L R g (hdF L ((k:Int)+1) (L.length:Int))) w.req.name
            rw [at_mem,<-hnw,show decide (nmW L c ∈ yz ls L R g (hdF L ((k:Int)+1) (L.length:Int)))=enF ls L R k c g from rfl,<-hat,hnw] at h74
            have qe:=aI qR (aI @hg (aI @hx (@List.getElem?_map.{0,0})));have jA:=h12;have jB:=h74;refine gE2 ?_
            all_goals exact ⟨e+1,by omega,by omega,by simp⟩
          .have ee:e=W.length:=by simp only [xaf] at *;omega
           subst ee
           rw [xah]
           cases han:W.any (enF ls L R k c) with
           | true=>
            rw [han,if_pos rfl,hnw] at hnx
            have qe:=aI qR @hx;refine gE2 ?_
            all_goals exact ⟨c+1,by omega,by omega,by simp [hnx],by simp [hnx]⟩
           | false=>
            rw [han,if_neg (by decide),xar] at hnx
            refine gE2 ?_
            all_goals exact ⟨c+1,by omega,by omega,by simp [hnx],by simp [hnx]⟩
        .have ee:c=L.length:=by omega
         rw [hend ee]
         have qe:=aI qR (aI @zCC @zCv);exact gD2
      | false=>
       rw [hf] at h95
       have qe:=aI qR (aI @ho @xax);have jA:=h53;have jB:=h96;have jC:=h95;refine gE5 ?_
       all_goals exact ⟨n+1,⟨by omega,zd1 hnn hpo hf⟩,by omega,by simp⟩
     .have e:n=(zad L R ((k:Int),zau L k)).length:=by omega
      subst e
      rw [xah] at hnn
      refine gE2 ?_
      all_goals exact ⟨k+1,⟨by omega,yac hno (by
       rw [hy]
       intro y hyy
       obtain ⟨o',ho',rfl⟩:=xaN.1 hyy
       exact hnn o' ho')⟩,by omega,by simp⟩
   .have hu':(decide (zau L k < 0) || decide ((k:Int) < zau L k))=false:=by simpa using hu
    rw [hu'] at h93
    have qe:=aI qR @xax;have jA:=h93;refine gE2 ?_
    all_goals exact ⟨k+1,⟨by omega,yac hno (by rw [ycL R hu];simp)⟩,by omega,by simp⟩
  .have e:k=L.length:=by omega
   subst e
   have hS:zoJ ls L R=none:=by
    unfold zoJ
    rw [y4,Option.map_eq_none_iff,List.find?_eq_none]
    intro y hy
    obtain ⟨j,hj,hy⟩:=xaw.1 hy
    have:=hno j (xaG.1 hj) y hy
    rw [this];simp
   rw [hS]
   refine gE2 ?_
   all_goals exact yW
def yZ (c:Cpl) (e:Int):Pure prog 32 [cplP c,.i .i64 e,.i .i64 e,cplP c] (.b true):=by
 have h31:=zuo c.blk c.blk;rw [decide_eq_true rfl] at h31;refine pz func32 f32.eq_1 λhwf X hX=>?_
 have qe:=aI qR (aI @zb2 @decide_true);have jA:=h31;exact gD2
def yaj (e:Int):Pure prog 32 [cplP cpl0,.i .i64 e,.i .i64 e,.agg [.i .i64 0,.i .i64 0,.i .i64 0,.nilsl]] (.b true):=yc2 (yZ cpl0 e) ⟨.refl _,.refl _,.refl _,.agg ⟨.refl _,.refl _,.refl _,.nilsl _,trivial⟩,trivial⟩
def ycf (ls:List Lim) (L:List Wis) (R:List Res) (hn:ls.length*112<=140737488355328) (hL:L.length*192<=140737488355328) (hR:R.length*32<=140737488355328):Pure prog 4 [.sl 11 (ls.map Lim.pv),.sl 18 (L.map Wis.pv),.sl 3 (R.map Res.pv)] (.b true):=by
 have h14:=yce ls L hL;have h24:=zdC R hR;have h25:=yca R 8;refine zqn (cFb func4 f4.eq_1) (by simp) λhwf X hX=>?_
 cases hs:(ym ls 3 && ycI L 5) with
 | false=>
  rw [hs] at h14;have qe:=aI qR (aI @xaC @xax);have jA:=pure6013;have jB:=h14;have jC:=nm 24 (.sl 3 []);have jD:=nm 25 (.b false);exact gD5
 | true=>
  rw [hs] at h14;rw [xau] at hs;cases hr:yaY R 8 with
  | false=>
   rw [hr] at h25;have qe:=aI qR (aI @xaC @xax);have jA:=pure6013;have jB:=h14;have jC:=h24;have jD:=h25;exact gD5
  | true=>
   rw [hr] at h25;have hfw:zJ ls=0->zgb ls:=λh=>few_sh hs.1 h
   have hsw:=shw_sh hs.2;have h26:=zum hfw hsw R;have h28:=zul hfw hsw R;have h29:=yb8 ls L R;have h15:=yaK L hL;have h17:=ycd ls hn;have h18:=ycc L hL;have h27:=yb9 R hR
   by_cases h0:zeY ls L R=0
   .obtain ⟨h1,h2,h3⟩:=zkA h0;rw [if_pos h0,if_pos h0] at h26 h28;rw [h0] at h29;have h30:=yb7 h1 h2 h3;have h31:=yb6 h1 h2 h3;generalize (zoJ ls L R).getD cpl0=c1 at *;generalize (zwe ls L R).getD cpl0=c2 at *;have h32:=yZ c1 (if (zoJ ls L R).isSome=true then 0 else 7)
    have h33:=yZ c2 (if (zwe ls L R).isSome=true then 0 else 7)
    cases hb1:(zoJ ls L R).isSome<;>cases hb2:(zwe ls L R).isSome
    all_goals rw [hb1] at h26 h30 h32
    all_goals rw [hb2] at h28 h31 h33
    all_goals simp only [if_true,xaD,if_false] at h26 h28 h32 h33
    all_goals (have qe:=aI qR (aI @zb2 (aI @decide_true (aI @xaC @xax)));repeat' first|refine gC ?_ ?_<;>intro hc<;>try contradiction|refine za pure6013 ?_|refine zg (λ_=>h14) ?_|refine zg (λ_=>h24) ?_|refine zg (λ_=>h25) ?_|refine za h15 ?_|refine za h24 ?_|refine za h17 ?_|refine za h18 ?_|refine za h27 ?_|refine za h26 ?_|refine za h28 ?_|refine za h29 ?_|refine za h30 ?_|refine za h31 ?_|refine za h32 ?_|refine zg (λ_=>h33) ?_|refine gG ?_|show AK _;intro J Z|refine gJ ?_|omega|exact aT)
    all_goals exact .refl _
   .have h0':=eq_false h0;rw [if_neg h0,if_neg h0] at h26 h28;have qe:=aI qR (aI @h0' (aI @xaC @xax));repeat' first|refine gC ?_ ?_<;>intro hc<;>try contradiction|refine za pure6013 ?_|refine zg (λ_=>h14) ?_|refine zg (λ_=>h24) ?_|refine zg (λ_=>h25) ?_|refine za h15 ?_|refine za h24 ?_|refine za h17 ?_|refine za h18 ?_|refine za h27 ?_|refine za h26 ?_|refine za h28 ?_|refine za h29 ?_|refine za (yaj (zeY ls L R)) ?_|refine zg (λ_=>yaj (zeY ls L R)) ?_|refine gG ?_|show AK _;intro J Z|refine gJ ?_|omega|exact aT
    all_goals exact .refl _
open Go.RowKit Go.Proofs.Tryz Go.ChangeShapes Go.WideShapes Go.ChangeAt
def ya2 (os:Os) (started:os.Started) (H:Type) (enc:TypeId × Value->H):ReturnsInHanded {} Tryz.checked os 4 .any (Rows.allocateComplainsSpec.pre6 enc prog f4 Rows.allocateComplainsRow.domain false) (Rows.allocateComplainsSpec.post enc prog f4 false true false false):=by
 refine returnsInHanded_of_change_shaped (C:=Tryz.checked) own started (by kernel_rfl) func4
  (ChangeSpec.witness6 (enc:=enc) (C:=Tryz.checked) false ⟨#[],#[.slice none 0 0,.slice none 0 0,.slice none 0 0],[]⟩ 8 (by kernel_rfl) (by kernel_rfl) (by kernel_rfl) (by kernel_rfl)) ?_
 intro W base args ds gs before hval hW _ hsz _ _;refine yak (C:=Tryz.checked) (n:=6) (tb:=4) laid (by kernel_rfl) rfl (λH ds hd=>?_) (by kernel_rfl) und4 (by kernel_rfl) (λps hps=>?_) W base args ds gs before hval hW hsz
 .match ds,hd with
  | [_,_,_],_=>rfl
 .match ps,hps with
  | [a0,a1,a2],⟨h0,h1,h2,_⟩=>
   obtain ⟨l,rfl,hn⟩:=ybD h0;obtain ⟨L,rfl,hL⟩:=ycr h1;obtain ⟨R,rfl,hR⟩:=ycs h2;exact ycf l L R hn hL hR
def ydo:(Rows.allocateComplainsRow.inPlace == prog.inPlace 4)=true:=by kernel_rfl
def ydn:(Rows.allocateComplainsRow.unfollowed == prog.unfollowed 4)=true:=by kernel_rfl
def ydm:(Rows.allocateComplainsRow.recurses == prog.recurses 4)=true:=by kernel_rfl
def ydl:(Rows.allocateComplainsRow.named == prog.varsNamed 4)=true:=by kernel_rfl
def ydk:Tryz.checked.prog.funcNamed Rows.allocateComplainsRow.func=some 4:=by kernel_rfl
def ydj:joinedFacts prog 4 f4 Rows.allocateComplainsSpec Rows.allocateComplainsRow=true:=
 ybA (by as_aux_lemma=>kernel_rfl) laid rowed (by as_aux_lemma=>kernel_rfl) ydo ydn ydm ydl (by as_aux_lemma=>kernel_rfl) (by as_aux_lemma=>kernel_rfl) (by as_aux_lemma=>kernel_rfl) (by as_aux_lemma=>kernel_rfl) (by as_aux_lemma=>kernel_rfl)
def ydi:f4.isInstance prog Rows.allocateComplainsRow.origin Rows.allocateComplainsRow.targs:=of_decide_eq_true (by kernel_rfl)
def ydh:f4.isWrapper prog Rows.allocateComplainsRow.wrapper Rows.allocateComplainsRow.mainSum:=by
 unfold Func.isWrapper;first|(rw [if_pos (by decide +kernel)];kernel_rfl)|(rw [if_neg (by decide +kernel)];exact ⟨rfl,rfl⟩)
def yP:Rows.allocateComplainsRow.holds Tryz.pinned (OpenSpec.ofChange Rows.allocateComplainsSpec):=
 OpenClaim.holds_of_wide 4 f4 rfl rfl rfl rfl rfl rfl rfl ⟨rfl,rfl,rfl,rfl,rfl⟩ rfl rfl rfl rfl rfl ydk func4 ydj ydi ydh
  (λos started H enc _=>ya2 os started H enc)
theorem complains6_proved:Rows.AllocateComplainsSaid:=yP
