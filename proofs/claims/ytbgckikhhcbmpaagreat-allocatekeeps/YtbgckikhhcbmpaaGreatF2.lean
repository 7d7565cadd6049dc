/- For all two lists of limits and all wishes the statement AllocateKeeps of chapter 6 returns true. No conditions. -/
import Derived.Test.YtbgckikhhcbmpaaGreatF1
set_option linter.all false
set_option maxHeartbeats 8000000
set_option maxRecDepth 100000
namespace Go.Proofs.YtbgckikhhcbmpaaGreat
open Go.RowKit Go.Proofs.Tryz
def yb3 (ls os:List Lim) (L:List Wis) (hn:ls.length*112<=140737488355328) (ho:os.length*112<=140737488355328) (hL:L.length*192<=140737488355328):Pure prog 12 [.sl 11 (ls.map Lim.pv),.sl 11 (os.map Lim.pv),.sl 18 (L.map Wis.pv)] (.b true):=by
 have h45:=ybY ls L hL
 have h15:=ycq os 3
 refine zqn (cFb func12 f12.eq_1) (by simp) λhwf X hX=>?_
 cases hv:((yc ls 3 && ya7 L 5) && (decide (zJ ls=0) && decide (zav L=0))) with
 | false=>
  rw [hv] at h45
  have qe:=aI qR (aI @xaC @xax);have jA:=pure6013;have jB:=h45;have jC:=nm 72 (.b false);have jD:=nm 20 (.i .i64 0);exact gD5
 | true=>
 rw [hv] at h45
 simp only [xau,decide_eq_true_eq] at hv
 obtain ⟨⟨hs1,hs2⟩,hc1,hc2⟩:=hv
 cases ho3:yc os 3 with
 | false=>
  rw [ho3] at h15
  have qe:=aI qR (aI @xaC @xax);have jA:=pure6013;have jB:=h45;have jC:=h15;have jD:=nm 20 (.i .i64 0);exact gD5
 | true=>
 rw [ho3] at h15
 have h23:=yah os
 by_cases hco:zJ os=0
 .have hco':=eq_true hco
  have hfw:=ycu hs1 hc1
  have hfo:=ycu ho3 hco
  have hsw:=shw_sh hs2
  have hL5:=(shl_le hs2).2 hc2
  have hal:=yco (ls:=ls) hc1 hc2 (yaK L)
  have hchk:=ybe (ls:=ls) hc2 (yaK L)
  have hRl:=yae ls L (zaS L)
  have h16:=zmE (ls:=ls) (λ_=>hfw) hsw
  rw [show zn [zJ ls,zav L]=0 from zi.2 ⟨hc1,zi.2 ⟨hc2,rfl⟩⟩,if_pos rfl,zii (zU hc1).2 hc2 (zaS L)] at h16
  have hsame:=ycD hal
  generalize zh6 ls L (zaS L) L.length=R at *
  have hle:∀ us:List Lim,zJ us=0->zn [zJ us,if zav L=0 then zc8 L R else zav L]=0:=λus hu=>by
   rw [if_pos hc2]
   exact zi.2 ⟨hu,zi.2 ⟨hchk,rfl⟩⟩
  have h36:=zuj (ls:=ls) (λ_=>hfw) hsw R
  rw [hle ls hc1,if_pos rfl,zii (zU hc1).2 hc2 (wdF R),hsame] at h36
  have h36o:=zuj (ls:=os) (λ_=>hfo) hsw R
  rw [hle os hco,if_pos rfl,zii (zU hco).2 hc2 (wdF R)] at h36o
  have halo:=yco (ls:=os) hco hc2 (ycY hc2 hchk)
  have hBl:=yae os L (wdF R)
  have hmin:=λj hj=>wd_min (ls:=os) hc2 hchk (j:=j) hj
  have hone:=λw hw=>ycb hco hc2 hchk (w:=w) hw
  have hcan:=λw hw=>(zdz ((zbZ hchk).2.1 0 w hw)).2.1
  clear hsame hle
  generalize zh6 os L (wdF R) L.length=B at *
  have h29:=yaF ls L R
  rw [hal] at h29
  have h29o:=yaF os L B
  rw [halo] at h29o
  have h48:=zex (ls:=os) (λ_=>hfo) hsw B
  rw [halo] at h48
  have hy:=yu L hL
  have h17:=yaH ls hn
  have h17o:=yaH os ho
  have h18:=yb1 L hL
  have h24:=zdC R (by omega)
  have h24B:=zdC B (by omega)
  have h27:=yaG R (by omega)
  have h27B:=yaG B (by omega)
  have h2R:=zie R
  clear hal halo hchk
  have qe:=aI qR (aI @hco' (aI @xaC (aI @xax (aI @decide_true @zb2))));repeat' first|refine gC ?_ ?_<;>intro hc<;>try contradiction|refine za pure6013 ?_|refine zg (λ_=>h45) ?_|refine zg (λ_=>h15) ?_|refine zg (λ_=>h23) ?_|refine za hy ?_|refine za h17 ?_|refine za h18 ?_|refine za h16 ?_|refine zg (λ_=>h24) ?_|refine zg (λ_=>h29) ?_|refine za h27 ?_|refine za h36 ?_|refine za h17o ?_|refine za h36o ?_|refine zg (λ_=>h2R) ?_|refine zg (λ_=>h24B) ?_|refine zg (λ_=>h29o) ?_|refine zg (λ_=>h17o) ?_|refine zg (λ_=>h18) ?_|refine zg (λ_=>h27B) ?_|refine zg (λ_=>h48) ?_|refine gG ?_|show AK _;intro J Z|refine gJ ?_|omega|exact aT
  refine zh (κ:=Nat) (λk=>⟨[(0,.p (.sl 11 (ls.map Lim.pv))),(1,.p (.sl 11 (os.map Lim.pv))),(2,.p (.sl 18 (L.map Wis.pv))),(7,.p (.sl 18 (L.map Wis.pv))),(8,.p (.sl 3 (R.map Res.pv))),(12,.p (.sl 3 (B.map Res.pv))),(111,.p (.i .i64 B.length)),(112,.p (.i .i64 k))],[],[],false⟩) (λk=>k<=B.length) (λk=>B.length - k) 0 ?_ ?_ ?_
  .exact sS
  .simp
  .intro k hk
   by_cases hkl:k < B.length
   .have hkl':((k:Int) < (B.length:Int))=True:=eq_true (by omega)
    obtain ⟨b,hb⟩:=zj hkl
    obtain ⟨r,hr⟩:=zj (l:=R) (i:=k) (by omega)
    have hm:=hmin k (by omega)
    rw [zW hb,zW hr] at hm
    cases hg:b.gr with
    | false=>
     have qe:=aI qR (aI @hkl' (aI @hb (aI @hr (aI @hg @decide_true))));refine gE2 ?_
     all_goals exact ⟨k+1,by omega,by omega,by simp⟩
    | true=>
     obtain ⟨h1,h2⟩:=hm hg
     have qe:=aI qR (aI @hkl' (aI @hb (aI @hr (aI @hg (aI @h1 (aI @h2 (aI @zb2 (aI @decide_true (aI @xaC @xax)))))))));refine gE2 ?_
     all_goals exact ⟨k+1,by omega,by omega,by simp⟩
   .have hkl':((k:Int) < (B.length:Int))=False:=eq_false (by omega)
    clear hkl hk hmin
    by_cases h0:L.length=0
    .have h0':((L.length:Int)=0)=True:=eq_true (by omega)
     have hR0:R[0]?=none:=xck (by omega)
     have hE0:(Option.map Res.pv (none:Option Res)).getD PV.any=PV.any:=rfl
     have hac:PV.any.cells=[PV.any]:=rfl
     have hg2:([PV.any]:List PV)[2]?=none:=rfl
     have hnt:∀ d look,zb d look .not [.p .any]=none:=λ_ _=>rfl
     have qe:=aI qR (aI @hkl' (aI @h0' (aI @hR0 (aI @hE0 (aI @hac (aI @hg2 (aI @false_and (aI @hnt yDF))))))));have jA:=nm 40 (.i .i64 0);exact gD2
    .have h0':((L.length:Int)=0)=False:=eq_false (by omega)
     obtain ⟨w,hw⟩:=zj (l:=L) (i:=0) (by omega)
     obtain ⟨r,hr⟩:=zj (l:=R) (i:=0) (by omega)
     obtain ⟨b,hb⟩:=zj (l:=B) (i:=0) (by omega)
     have hone:=hone w hw
     have hcan:=hcan w hw
     rw [zW hr] at hone hcan
     rw [zW hb] at hone
     cases hg:r.gr with
     | false=>
      have qe:=aI qR (aI @hkl' (aI @h0' (aI @hr (aI @hg (aI @decide_true (aI @decide_false @xax))))));have jA:=nm 40 (.i .i64 0);exact gD2
     | true=>
      have h40:=yX L (show 0 < L.length by omega)
      by_cases hk0:0<=zau L 0
      .have hk0':=eq_true hk0
       have qe:=aI qR (aI @hkl' (aI @h0' (aI @hr (aI @hg (aI @hk0' (aI @decide_true (aI @decide_false @xaC)))))));have jA:=h40;exact gD2
      .have hk0':=eq_false hk0
       have hm:=hcan hg
       have hone:=hone (by omega) hg
       have hw0:=(zi.1 ((zR hc2).2 0 w hw).1).1
       have h63:=ybU w r.minute (λ_=>hsw hc2 w (xae hw))
       rw [if_pos ⟨hw0,hm⟩,if_pos hw0,if_pos hm] at h63
       have h57:=pure57 os (zbF (w.req.at r.minute))
       by_cases hE:yc6 os (zbF (w.req.at r.minute))=7
       .have hE':=eq_true hE
        simp only [hE',decide_true] at hone
        have qe:=aI qR (aI @hkl' (aI @h0' (aI @hr (aI @hb (aI @hw (aI @hg (aI @hk0' (aI @hE' (aI @hone (aI @decide_true (aI @decide_false @xaC)))))))))));have jA:=h40;have jB:=h63;have jC:=h17o;have jD:=h57;exact gD5
       .have hE':=eq_false hE
        simp only [hE',decide_false] at hone
        have qe:=aI qR (aI @hkl' (aI @h0' (aI @hr (aI @hb (aI @hw (aI @hg (aI @hk0' (aI @hE' (aI @hone (aI @decide_true (aI @decide_false @xaC)))))))))));have jA:=h40;have jB:=h63;have jC:=h17o;have jD:=h57;exact gD5
 .have hco':=eq_false hco
  have qe:=aI qR (aI @hco' (aI @xaC (aI @xax @decide_false)));have jA:=pure6013;have jB:=h45;have jC:=h15;have jD:=h23;exact gD5
open Go.RowKit Go.Proofs.Tryz Go.ChangeShapes Go.WideShapes Go.ChangeAt
def ya0 (os:Os) (started:os.Started) (H:Type) (enc:TypeId × Value->H):ReturnsInHanded {} Tryz.checked os 12 .any (Rows.allocateKeepsSpec.pre6 enc prog f12 Rows.allocateKeepsRow.domain false) (Rows.allocateKeepsSpec.post enc prog f12 false true false false):=by
 refine returnsInHanded_of_change_shaped (C:=Tryz.checked) own started (by kernel_rfl) func12
  (ChangeSpec.witness6 (enc:=enc) (C:=Tryz.checked) false ⟨#[],#[.slice none 0 0,.slice none 0 0,.slice none 0 0],[]⟩ 8 (by kernel_rfl) (by kernel_rfl) (by kernel_rfl) (by kernel_rfl)) ?_
 intro W base args ds gs before hval hW _ hsz _ _;refine yai (C:=Tryz.checked) (n:=6) (tb:=4) laid (by kernel_rfl) rfl (λH ds hd=>?_) (by kernel_rfl) und4 (by kernel_rfl) (λps hps=>?_) W base args ds gs before hval hW hsz
 .match ds,hd with
  | [_,_,_],_=>rfl
 .match ps,hps with
  | [a0,a1,a2],⟨h0,h1,h2,_⟩=>
   obtain ⟨l,rfl,hn⟩:=yak h0;obtain ⟨o,rfl,ho⟩:=yak h1;obtain ⟨L,rfl,hL⟩:=yce h2;exact yb3 l o L hn ho hL
def yde:(Rows.allocateKeepsRow.inPlace == prog.inPlace 12)=true:=by kernel_rfl
def ydd:(Rows.allocateKeepsRow.unfollowed == prog.unfollowed 12)=true:=by kernel_rfl
def ydc:(Rows.allocateKeepsRow.recurses == prog.recurses 12)=true:=by kernel_rfl
def ydb:(Rows.allocateKeepsRow.named == prog.varsNamed 12)=true:=by kernel_rfl
def yda:Tryz.checked.prog.funcNamed Rows.allocateKeepsRow.func=some 12:=by kernel_rfl
def yc9:joinedFacts prog 12 f12 Rows.allocateKeepsSpec Rows.allocateKeepsRow=true:=
 ybz (by as_aux_lemma=>kernel_rfl) laid rowed (by as_aux_lemma=>kernel_rfl) yde ydd ydc ydb (by as_aux_lemma=>kernel_rfl) (by as_aux_lemma=>kernel_rfl) (by as_aux_lemma=>kernel_rfl) (by as_aux_lemma=>kernel_rfl) (by as_aux_lemma=>kernel_rfl)
def yc8:f12.isInstance prog Rows.allocateKeepsRow.origin Rows.allocateKeepsRow.targs:=of_decide_eq_true (by kernel_rfl)
def yc7:f12.isWrapper prog Rows.allocateKeepsRow.wrapper Rows.allocateKeepsRow.mainSum:=by
 unfold Func.isWrapper;first|(rw [if_pos (by decide +kernel)];kernel_rfl)|(rw [if_neg (by decide +kernel)];exact ⟨rfl,rfl⟩)
def yau:Rows.allocateKeepsRow.holds Tryz.pinned (OpenSpec.ofChange Rows.allocateKeepsSpec):=
 OpenClaim.holds_of_wide 12 f12 rfl rfl rfl rfl rfl rfl rfl ⟨rfl,rfl,rfl,rfl,rfl⟩ rfl rfl rfl rfl rfl yda func12 yc9 yc8 yc7
  (λos started H enc _=>ya0 os started H enc)
theorem keeps6_proved:Rows.AllocateKeepsSaid:=yau
