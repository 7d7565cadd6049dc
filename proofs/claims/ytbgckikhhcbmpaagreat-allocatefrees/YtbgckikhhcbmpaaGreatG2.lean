/- For all lists of limits and wishes, and every index, the statement AllocateFrees of chapter 6 returns true. No conditions. -/
import Derived.Test.YtbgckikhhcbmpaaGreatG1
set_option linter.all false
set_option maxHeartbeats 8000000
set_option maxRecDepth 100000
namespace Go.Proofs.YtbgckikhhcbmpaaGreat
open Go.RowKit Go.Proofs.Tryz
def wrap_x {x:Int} (h:IntKind.u8.wrap x=x):0<=x/\x<=255/\IntKind.i64.wrap x=x:=by
 simp only [IntKind.wrap,IntKind.bits,IntKind.signed] at h ⊢;simp at h ⊢;omega
def yb2 (ls:List Lim) (L:List Wis) (x:Int) (hn:ls.length*112<=140737488355328) (hL:L.length*192<=140737488355328):Pure prog 7 [.sl 11 (ls.map Lim.pv),.sl 18 (L.map Wis.pv),.i .u8 x] (.b true):=by
 have h45:=ybX ls L hL
 refine zqn (cFb func7 f7.eq_1) (by simp) λhwf X hX=>?_
 obtain ⟨hx0,hx1,hxw⟩:=wrap_x (x:=x) hwf.2.2.1
 by_cases hz:L.length=0
 .have hz':((L.length:Int)=0)=True:=eq_true (by omega)
  have qe:=aI qR (aI @hz' (aI @xaC (aI @xax @decide_true)));have jA:=pure6013;have jB:=nm 45 (.b false);exact gD2
 have hz':((L.length:Int)=0)=False:=eq_false (by omega)
 by_cases h4:4 < L.length
 .have h4':((4:Int) < (L.length:Int))=True:=eq_true (by omega)
  have qe:=aI qR (aI @hz' (aI @h4' (aI @xaC (aI @xax yDF))));have jA:=pure6013;have jB:=nm 45 (.b false);exact gD2
 have h4':((4:Int) < (L.length:Int))=False:=eq_false (by omega)
 cases hv:((yc ls 3 && ybI L 5) && (decide (zJ ls=0) && decide (zav L=0))) with
 | false=>
  rw [hv] at h45
  have qe:=aI qR (aI @hz' (aI @h4' (aI @xaC (aI @xax yDF))));have jA:=pure6013;have jB:=h45;exact gD2
 | true=>
 rw [hv] at h45
 simp only [xau,decide_eq_true_eq] at hv
 obtain ⟨⟨hs1,hs2⟩,hc1,hc2⟩:=hv
 have hrm:x.tmod (L.length:Int)=x % (L.length:Int):=xbV hx0
 have hr0:=Int.emod_nonneg x (show (L.length:Int)≠0 by omega)
 have hr1:=Int.emod_lt_of_pos x (show 0 < (L.length:Int) by omega)
 obtain ⟨i,hi⟩:∃ i:Nat,x % (L.length:Int)=(i:Int):=⟨(x % (L.length:Int)).toNat,by omega⟩
 rw [hi] at hrm hr0 hr1
 have hil:i < L.length:=by omega
 obtain ⟨w,hw⟩:=zj hil
 have h40:=yV L hil
 have hy:=yx L hL
 by_cases hst:w.step < 20
 .have hst':=eq_true hst
  have qe:=aI qR (aI @hz' (aI @h4' (aI @hxw (aI @hrm (aI @hw (aI @hst' (aI @xaC (aI @xax yDF))))))));have jA:=pure6013;have jB:=h45;have jC:=hy;have jD:=nm 40 (.i .i64 0);exact gD5
 have hst':=eq_false hst
 by_cases hk0:0<=zau L i
 .have hk0':=eq_true hk0
  have qe:=aI qR (aI @hz' (aI @h4' (aI @hxw (aI @hrm (aI @hw (aI @hst' (aI @hk0' (aI @xaC (aI @xax yDF)))))))));have jA:=pure6013;have jB:=h45;have jC:=hy;have jD:=h40;exact gD5
 have hk0':=eq_false hk0
 have hlk:zau L i < 0:=by omega
 have hfw:=few_sh hs1 hc1
 have hsw:=shw_sh hs2
 have hwe:=(zi.1 ((zR hc2).2 i w hw).1).1
 have hwl:=ybo hc2 hw hlk
 obtain ⟨hq,f1,f2,f3,f4,f5,f6⟩:=yan hwe
 have hal:=sr_alc (ls:=ls) hc1 hc2 (yb6 L)
 have hRl:=ya7 ls L (zaS L)
 have h16:=zmE (ls:=ls) (λ_=>hfw) hsw
 rw [show zn [zJ ls,zav L]=0 from zi.2 ⟨hc1,zi.2 ⟨hc2,rfl⟩⟩,if_pos rfl,zii (zU hc1).2 hc2 (zaS L)] at h16
 generalize zh6 ls L (zaS L) L.length=R at *
 have hoff:∀ us:List Lim,zeY us L R=0->zo9 us L R (i:Int)=0/\zo7 us L R (i:Int)=zo8 us (zoc L R i) w (zwt w):=λus hu=>by
  have e:zo9 us L R (i:Int)=0:=by
   unfold zo9
   rw [if_pos hu,if_neg (by omega),xam,hw]
   simp only
   rw [if_pos hwl]
  refine ⟨e,?_⟩
  unfold zo7
  rw [if_pos e,xam,hw]
 have halw:=ycK hal
 have h37:=zui (ls:=ls) (λ_=>hfw) hsw R (i:Int)
 rw [(hoff ls hal).1,(hoff ls hal).2] at h37
 have h37w:=zui (ls:=yn ls) (λ_=>ycI hfw) hsw R (i:Int)
 rw [(hoff _ halw).1,(hoff _ halw).2] at h37w
 have hald:=alc_dl hc2 hil hlk hal
 have hchd:=yax hc2 hil hlk
 have hDl:=yS hil
 have hEl:=yS (L:=R) (k:=i) (by omega)
 have hnm:zeH w.req.name (L.eraseIdx i) < 0:=by
  refine Int.lt_of_not_ge λh0=>?_
  obtain ⟨v,hv,e⟩:=xaN.1 ((zg5 _ _).1 h0)
  obtain ⟨j,hj⟩:=xbl.1 hv
  rw [yk] at hj
  have a1:=zrj hc2 hw
  have a2:=zrj hc2 hj
  rw [e,a1] at a2
  exact sg_ne i j (by omega)
 have hswd:ShW (L.eraseIdx i):=λ_ v hv=>hsw hc2 v (List.mem_of_mem_eraseIdx hv)
 have hplc:=ycu hc2 hil hlk (R:=R) hRl
 have hone:∀ m ∈ zac w,zwm ls (L.eraseIdx i) (R.eraseIdx i) (yb7 w m)=0/\∃ q:Res,ztx ls (L.eraseIdx i) (R.eraseIdx i) (yb7 w m)=R.eraseIdx i++[q]/\q.gr=decide (m ∈ zo8 ls (zoc L R i) w (zwt w)):=λm hm=>by
  have hrg:=yK hwe hm
  have e:zwm ls (L.eraseIdx i) (R.eraseIdx i) (yb7 w m)=0:=by
   unfold zwm zxK
   rw [if_pos hald]
   refine zi.2 ⟨one_ok hwe hrg.1 hrg.2,zi.2 ⟨if_neg (show ¬0<=zeH w.req.name _ by omega),zi.2 ⟨if_neg (λk=>k hwl),zi.2 ⟨if_neg (by omega),rfl⟩⟩⟩⟩
  refine ⟨e,zwl ls (L.eraseIdx i) (R.eraseIdx i) (yb7 w m),by unfold ztx;rw [if_pos e],?_⟩
  rw [ycS,hplc,xbG,decide_eq_true_eq,ybk hwe hm]
 have h35:∀ m ∈ zac w,∃ q:Res,Pure prog 35 [.sl 11 (ls.map Lim.pv),.sl 18 ((L.eraseIdx i).map Wis.pv),.sl 3 ((R.eraseIdx i).map Res.pv),.agg [.s w.req.name,.s w.req.carrier,.s w.req.kind,.s w.req.term,.s w.req.partner,.s w.req.link,.i .i64 w.req.per.fro,.i .i64 w.req.per.to,.i .i64 w.req.per.days,.i .i64 m,.i .i64 w.req.seats,.i .i64 w.req.size,.i .i64 w.req.noise,.i .i64 m,.i .i64 m,.i .i64 w.step,.i .i64 w.least,.i .i64 w.most]] (.tup [.sl 3 ((R.eraseIdx i++[q]).map Res.pv),.i .i64 0])/\q.gr=decide (m ∈ zo8 ls (zoc L R i) w (zwt w)):=λm hm=>by
  obtain ⟨e1,q,e2,e3⟩:=hone m hm
  have e4:zg2 m m m w.step=1:=by unfold zg2;simp
  have:=zuk (ls:=ls) (λ_=>hfw) hswd (R.eraseIdx i) (yb7 w m) (λ_=>by show zg2 m m m w.step<=12;omega)
  rw [e1,e2] at this
  exact ⟨q,this,e3⟩
 have hown:(za5 R i).gr=true->(za5 R i).minute ∈ zo8 ls (zoc L R i) w (zwt w):=λhg=>(ybk hwe ((zdz ((zbZ (zkA hal).2.2).2.1 i w hw)).2.1 hg)).2 (yc2 hc2 hil hlk hal hw hg)
 have hwid:∀ m,m ∈ zo8 ls (zoc L R i) w (zwt w)->m ∈ zo8 (yn ls) (zoc L R i) w (zwt w):=λm hm=>yb8 hm
 have hOl:=zuu ls (zoc L R i) w (zwt w)
 have hCl:(zac w).length<=96:=ydl hwe
 have hOn:zwt w<=1440:=Nat.le_of_not_lt λhh=>by
  have a:=(zyo ⟨f5,f6⟩ 1440).1 hh
  unfold ze9 at a
  have b:=Int.emod_nonneg w.req.minute (show w.step≠0 by omega)
  have c:(1440:Int)*1<=(1440:Nat)*w.step:=Int.mul_le_mul_of_nonneg_left f5 (by omega)
  omega
 have h29:=yb0 ls L R
 rw [hal] at h29
 have h47:=yt w ⟨f5,f6⟩ f2 f3 f1 f4
 obtain ⟨r,hr⟩:=zj (l:=R) (i:=i) (by omega)
 rw [zW hr] at hown
 clear hone hplc hoff hald halw hal hnm
 generalize hOe:zo8 ls (zoc L R i) w (zwt w)=O at *
 generalize zo8 (yn ls) (zoc L R i) w (zwt w)=W at *
 generalize hCe:zac w=C at *
 have h17:=yaH ls hn
 have h18:=yaG L hL
 have h24:=zdC R (by omega)
 have h27:=yaF R (by omega)
 have h38:=yaI O r.minute
 have hgd:∀ b:Bool,r.gr=b->(b && !decide (r.minute ∈ O))=false:=λb hb=>by
  cases b with
  | false=>rfl
  | true=>rw [decide_eq_true (hown hb)];rfl
 have hgd:=hgd r.gr rfl
 clear hown
 have qe:=aI qR (aI @hz' (aI @h4' (aI @hxw (aI @hrm (aI @hw (aI @hr (aI @hst' (aI @hk0' (aI @hgd (aI @xaC (aI @xax yDF)))))))))));repeat' first|refine gC ?_ ?_<;>intro hc<;>try contradiction|refine za pure6013 ?_|refine zg (λ_=>h45) ?_|refine za hy ?_|refine zg (λ_=>h40) ?_|refine za h17 ?_|refine za h18 ?_|refine za h16 ?_|refine zg (λ_=>h24) ?_|refine zg (λ_=>h29) ?_|refine za h27 ?_|refine za h37 ?_|refine zg (λ_=>h38) ?_|refine gG ?_|show AK _;intro J Z|refine gJ ?_|omega|exact aT
 refine zaB 300 61 18 [(0,.p (.sl 11 (ls.map Lim.pv))),(1,.p (.sl 18 (L.map Wis.pv))),(7,.p (.i .i64 (i:Int))),(8,.p (.sl 18 (L.map Wis.pv))),(9,.p (.sl 3 (R.map Res.pv))),(11,.p (.sl 1 (O.map (.i .i64)))),(13,.row 300 0),(14,.p .nilsl),(117,.p (.i .i64 L.length)),(118,.p (.i .i64 0))] [] ?_ ?_
 .simp only [Own,za9,za3,zcg,zaT,qS,seval]<;>simp
 refine run_ownL 301 79 3 (κ:=Nat) (λj=>⟨[(0,.p (.sl 11 (ls.map Lim.pv))),(1,.p (.sl 18 (L.map Wis.pv))),(7,.p (.i .i64 (i:Int))),(8,.p (.sl 18 (L.map Wis.pv))),(9,.p (.sl 3 (R.map Res.pv))),(11,.p (.sl 1 (O.map (.i .i64)))),(13,.row 300 ((L.take j).eraseIdx i).length),(14,.row 301 ((L.take j).eraseIdx i).length),(117,.p (.i .i64 L.length)),(118,.p (.i .i64 j))],[(300,.row 61 18 (((L.take j).eraseIdx i).map Wis.pv) false),(301,.row 79 3 (((R.take j).eraseIdx i).map Res.pv) false)],[],false⟩) (λj=>j<=L.length) (λj=>L.length - j) 0 ?_ ?_ ?_
 .refine ⟨gO ?_,gO ?_⟩<;>simp
 .simp
 .intro j hj
  have hel:=ydg hRl i j
  by_cases hjl:j < L.length
  .have hjl':((j:Int) < (L.length:Int))=True:=eq_true (by omega)
   obtain ⟨v,hv⟩:=zj hjl
   obtain ⟨s,hs⟩:=zj (l:=R) (i:=j) (by omega)
   have d1:=ybx (k:=i) hv
   have d2:=ybx (k:=i) hs
   have hll:((L.take j).eraseIdx i).length<=4:=by
    have:=List.length_eraseIdx_le (L.take j) i
    rw [xan] at this;omega
   by_cases hji:j=i
   .have hji':((j:Int)=(i:Int))=True:=eq_true (by omega)
    rw [if_pos hji,xar] at d1 d2
    have qe:=aI qR (aI @hjl' (aI @hji' (aI @decide_true @xaC)));refine gE2 ?_
    all_goals exact ⟨j+1,by omega,by omega,by rw [d1];simp [hel],by rw [d1,d2];simp [hel]⟩
   .have hji':((j:Int)=(i:Int))=False:=eq_false (by omega)
    rw [if_neg hji] at d1 d2
    have qe:=aI qR (aI @hjl' (aI @hji' (aI @hv (aI @hs (aI @hel (aI @decide_true (aI @decide_false @xax)))))));refine gE2 ?_
    all_goals exact ⟨j+1,by omega,by omega,by rw [d1];simp [hel],by rw [d1,d2];simp [hel]⟩
  .have hjl':((j:Int) < (L.length:Int))=False:=eq_false (by omega)
   have ej:j=L.length:=by omega
   subst ej
   rw [xah,xas (l:=R) (by omega)]
   clear hel hj
   generalize L.eraseIdx i=D at *
   generalize R.eraseIdx i=E at *
   refine ze6 (zaz 13 (.sl 18 (D.map Wis.pv)) (sR) (by first|trivial|simp) (.refl _)) ?_
   rintro _ rfl
   refine ze6 (zaz 14 (.sl 3 (E.map Res.pv)) (sR) (by first|trivial|omega|(simp;omega)) (.refl _)) ?_
   rintro _ rfl
   have h18D:=yaG D (by omega)
   have h27E:=yaF E (by omega)
   have qe:=aI qR (aI @hjl' (aI @hw @decide_false));have jA:=h47;refine gE2 ?_
   refine zh (κ:=Nat) (λj=>⟨[(0,.p (.sl 11 (ls.map Lim.pv))),(1,.p (.sl 18 (L.map Wis.pv))),(7,.p (.i .i64 (i:Int))),(8,.p (.sl 18 (L.map Wis.pv))),(9,.p (.sl 3 (R.map Res.pv))),(11,.p (.sl 1 (O.map (.i .i64)))),(13,.p (.sl 18 (D.map Wis.pv))),(14,.p (.sl 3 (E.map Res.pv))),(144,.p (.sl 1 (C.map (.i .i64)))),(145,.p (.i .i64 C.length)),(146,.p (.i .i64 j))],[],[],false⟩) (λj=>j<=C.length) (λj=>C.length - j) 0 ?_ ?_ ?_
   .exact sS
   .simp
   .intro j hj
    by_cases hjc:j < C.length
    .have hjc':((j:Int) < (C.length:Int))=True:=eq_true (by omega)
     obtain ⟨m,hm⟩:=zj hjc
     obtain ⟨q,h35q,hq⟩:=h35 m (xae hm)
     have hAl:(E++[q]).length=L.length:=by simp;omega
     have hAq:(E++[q])[E.length]?=some q:=by simp
     have hidx:(L.length:Int) - 1=((E.length:Nat):Int):=by omega
     generalize E++[q]=A at *
     have h38m:=yaI O m
     by_cases hmO:m ∈ O
     .rw [decide_eq_true hmO] at hq h38m
      have qe:=aI qR (aI @hjc' (aI @hm (aI @hw (aI @hAl (aI @hAq (aI @hidx (aI @hq (aI @zb2 (aI @decide_true (aI @xaC @xax))))))))));have jA:=h17;have jB:=h18D;have jC:=h27E;have jD:=h35q;have jE:=h38m;refine gE5 ?_
      all_goals exact ⟨j+1,by omega,by omega,by simp⟩
     .rw [decide_eq_false hmO] at hq h38m
      have qe:=aI qR (aI @hjc' (aI @hm (aI @hw (aI @hAl (aI @hAq (aI @hidx (aI @hq (aI @zb2 (aI @decide_true (aI @xaC @xax))))))))));have jA:=h17;have jB:=h18D;have jC:=h27E;have jD:=h35q;have jE:=h38m;refine gE5 ?_
      all_goals exact ⟨j+1,by omega,by omega,by simp⟩
    .have hjc':((j:Int) < (C.length:Int))=False:=eq_false (by omega)
     clear hjc hj h35 h47
     have qe:=aI qR (aI @hjc' @decide_false);refine gE2 ?_
     refine run_ownL 302 84 11 (κ:=Nat) (λj=>⟨[(0,.p (.sl 11 (ls.map Lim.pv))),(1,.p (.sl 18 (L.map Wis.pv))),(7,.p (.i .i64 (i:Int))),(8,.p (.sl 18 (L.map Wis.pv))),(9,.p (.sl 3 (R.map Res.pv))),(11,.p (.sl 1 (O.map (.i .i64)))),(13,.p (.sl 18 (D.map Wis.pv))),(14,.p (.sl 3 (E.map Res.pv))),(22,.row 302 (ls.take j).length),(196,.p (.i .i64 ls.length)),(197,.p (.i .i64 j))],[(302,.row 84 11 ((yn (ls.take j)).map Lim.pv) false)],[],false⟩) (λj=>j<=ls.length) (λj=>ls.length - j) 0 ?_ ?_ ?_
     .refine ⟨gO ?_,gO ?_⟩<;>simp [yn]
     .simp
     .intro j hj
      have hwl:(ls.take j).length=j:=by rw [xan];omega
      have hvl:(yn (ls.take j)).length=j:=by unfold yn;rw [xaf];exact hwl
      by_cases hjn:j < ls.length
      .have hjn':((j:Int) < (ls.length:Int))=True:=eq_true (by omega)
       obtain ⟨l,hl⟩:=zj hjn
       have hlm:=zaa ((zU hc1).2 l (xae hl))
       have hnx:=ybK hl
       have hwl2:(ls.take (j+1)).length=j+1:=by rw [xan];omega
       by_cases hmx:l.most < 999999999
       .have hmx':=eq_true hmx
        rw [show yac l={ l with most:=l.most+1 } by unfold yac;rw [if_pos hmx]] at hnx
        have qe:=aI qR (aI @hjn' (aI @hl (aI @hwl (aI @hvl (aI @hmx' @decide_true)))));refine gE2 ?_
        all_goals exact ⟨j+1,by omega,by omega,by rw [hwl2];simp,by rw [hnx];simp [hvl];omega⟩
       .have hmx':=eq_false hmx
        rw [show yac l=l by unfold yac;rw [if_neg hmx]] at hnx
        have qe:=aI qR (aI @hjn' (aI @hl (aI @hwl (aI @hvl (aI @hmx' yDF)))));refine gE2 ?_
        all_goals exact ⟨j+1,by omega,by omega,by rw [hwl2];simp,by rw [hnx];simp [hvl];omega⟩
      .have hjn':((j:Int) < (ls.length:Int))=False:=eq_false (by omega)
       have ej:j=ls.length:=by omega
       subst ej
       rw [xah]
       have hWl:(yn ls).length*112<=140737488355328:=by unfold yn;rw [xaf];exact hn
       have hWe:(yn ls).length=ls.length:=by unfold yn;rw [xaf]
       have h17w:=yaH (yn ls) hWl
       generalize yn ls=V at *
       refine ze6 (zaz 22 (.sl 11 (V.map Lim.pv)) (sR) (by first|trivial|simp [hWe]) (.refl _)) ?_
       rintro _ rfl
       have qe:=aI qR (aI @hjn' @decide_false);have jA:=h17w;have jB:=h18;have jC:=h27;have jD:=h37w;refine gE5 ?_
       refine zh (κ:=Nat) (λj=>⟨[(0,.p (.sl 11 (ls.map Lim.pv))),(1,.p (.sl 18 (L.map Wis.pv))),(11,.p (.sl 1 (O.map (.i .i64)))),(25,.p (.sl 1 (W.map (.i .i64)))),(229,.p (.sl 1 (O.map (.i .i64)))),(230,.p (.i .i64 O.length)),(231,.p (.i .i64 j))],[],[],false⟩) (λj=>j<=O.length) (λj=>O.length - j) 0 ?_ ?_ ?_
       .exact sS
       .simp
       .intro j hj
        by_cases hjo:j < O.length
        .have hjo':((j:Int) < (O.length:Int))=True:=eq_true (by omega)
         obtain ⟨m,hm⟩:=zj hjo
         have h38w:=yaI W m
         rw [decide_eq_true (hwid m (xae hm))] at h38w
         have qe:=aI qR (aI @hjo' (aI @hm (aI @decide_true @xaC)));have jA:=h38w;refine gE2 ?_
         all_goals exact ⟨j+1,by omega,by omega,by simp⟩
        .have hjo':((j:Int) < (O.length:Int))=False:=eq_false (by omega)
         have qe:=aI qR (aI @hjo' @decide_false);exact gD2
open Go.RowKit Go.Proofs.Tryz Go.ChangeShapes Go.WideShapes Go.ChangeAt
def parU8:ycv prog 6 5=some (false,[.i .u8]):=by kernel_rfl
def fit_u8 {p:PV} (h:yL prog 6 5 p):∃ n:Int,p=.i .u8 n:=by
 obtain ⟨⟨ag,c,l,hp,rfl,hl⟩,hb⟩:=h;rw [parU8] at hp;simp only [xaK,xcf] at hp;obtain ⟨rfl,rfl⟩:=hp
 match l,hl with
 | [_],⟨⟨a,ha⟩,_⟩=>subst ha;exact ⟨a,rfl⟩
def yaX (os:Os) (started:os.Started) (H:Type) (enc:TypeId × Value->H):ReturnsInHanded {} Tryz.checked os 7 .any (Rows.allocateFreesSpec.pre6 enc prog f7 Rows.allocateFreesRow.domain false) (Rows.allocateFreesSpec.post enc prog f7 false true false false):=by
 refine returnsInHanded_of_change_shaped (C:=Tryz.checked) own started (by kernel_rfl) func7
  (ChangeSpec.witness6 (enc:=enc) (C:=Tryz.checked) false ⟨#[],#[.slice none 0 0,.slice none 0 0,.int .u8 0],[]⟩ 8 (by kernel_rfl) (by kernel_rfl) (by kernel_rfl) (by kernel_rfl)) ?_
 intro W base args ds gs before hval hW _ hsz _ _;refine yag (C:=Tryz.checked) (n:=6) (tb:=4) laid (by kernel_rfl) rfl (λH ds hd=>?_) (by kernel_rfl) und4 (by kernel_rfl) (λps hps=>?_) W base args ds gs before hval hW hsz
 .match ds,hd with
  | [_,_,_],_=>rfl
 .match ps,hps with
  | [a0,a1,a2],⟨h0,h1,h2,_⟩=>
   obtain ⟨l,rfl,hn⟩:=ybw h0;obtain ⟨L,rfl,hL⟩:=ycf h1;obtain ⟨x,rfl⟩:=fit_u8 h2;exact yb2 l L x hn hL
def ydf:(Rows.allocateFreesRow.inPlace == prog.inPlace 7)=true:=by kernel_rfl
def yde:(Rows.allocateFreesRow.unfollowed == prog.unfollowed 7)=true:=by kernel_rfl
def ydd:(Rows.allocateFreesRow.recurses == prog.recurses 7)=true:=by kernel_rfl
def ydc:(Rows.allocateFreesRow.named == prog.varsNamed 7)=true:=by kernel_rfl
def ydb:Tryz.checked.prog.funcNamed Rows.allocateFreesRow.func=some 7:=by kernel_rfl
def yda:joinedFacts prog 7 f7 Rows.allocateFreesSpec Rows.allocateFreesRow=true:=
 ybt (by as_aux_lemma=>kernel_rfl) laid rowed (by as_aux_lemma=>kernel_rfl) ydf yde ydd ydc (by as_aux_lemma=>kernel_rfl) (by as_aux_lemma=>kernel_rfl) (by as_aux_lemma=>kernel_rfl) (by as_aux_lemma=>kernel_rfl) (by as_aux_lemma=>kernel_rfl)
def yc9:f7.isInstance prog Rows.allocateFreesRow.origin Rows.allocateFreesRow.targs:=of_decide_eq_true (by kernel_rfl)
def yc8:f7.isWrapper prog Rows.allocateFreesRow.wrapper Rows.allocateFreesRow.mainSum:=by
 unfold Func.isWrapper;first|(rw [if_pos (by decide +kernel)];kernel_rfl)|(rw [if_neg (by decide +kernel)];exact ⟨rfl,rfl⟩)
def yau:Rows.allocateFreesRow.holds Tryz.pinned (OpenSpec.ofChange Rows.allocateFreesSpec):=
 OpenClaim.holds_of_wide 7 f7 rfl rfl rfl rfl rfl rfl rfl ⟨rfl,rfl,rfl,rfl,rfl⟩ rfl rfl rfl rfl rfl ydb func7 yda yc9 yc8
  (λos started H enc _=>yaX os started H enc)
theorem frees6_proved:Rows.AllocateFreesSaid:=yau
