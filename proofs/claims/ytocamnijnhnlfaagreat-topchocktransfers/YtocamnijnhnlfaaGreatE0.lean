/- The statement TopChockTransfers: the ratio of a slot is the same before and after it was transferred, and what is handed back in time is not due. No conditions. -/
import Derived.Test.YtocamnijnhnlfaaGreatK12
import Derived.Test.YtocamnijnhnlfaaGreatK10
import Derived.Test.YtocamnijnhnlfaaGreatK15
import Derived.Test.YtocamnijnhnlfaaGreatK14
set_option linter.all false
set_option maxHeartbeats 8000000
set_option maxRecDepth 100000
namespace Go.Proofs.YtocamnijnhnlfaaGreat
open Go.RowKit Go.Proofs.Tryz
def yDF:=aI @decide_true @decide_false
def yDT:=aI @decide_true (aI @decide_false @Bool.not_true)
abbrev nzz:ByteArray:=bs [122,122]
abbrev nyy:ByteArray:=bs [121,121]
def allUN0 (l:List UNt):l.all ((λx=>x.cells.all PV.one) ∘ UNt.pv)=true:=xaD.2 λx _=>rfl
def tzL:List ByteArray:=[nzz,nyy]
def yb {D:List Int} (hD:D.Pairwise (· < ·)) {a:Int} (h:D[0]?=some a):D.filter (λx=>decide (x < a))=[]:=by
 refine List.filter_eq_nil_iff.2 λx hx=>?_
 obtain ⟨h0,rfl⟩:=xaa.1 h;obtain ⟨j,hj,rfl⟩:=List.getElem_of_mem hx
 by_cases hj0:j=0
 .subst hj0;simp
 .have:=xaw.1 hD 0 j h0 hj (by omega)
  simp;omega
def wrap_u {u:Int} (h:IntKind.u16.wrap u=u):0<=u/\u<=65535/\IntKind.i64.wrap u=u:=by
 simp only [IntKind.wrap,IntKind.bits,IntKind.signed] at h ⊢;simp at h ⊢;omega
def yd (b:Bk) (at_ u o:Int):Pure prog 4 [b.pv,.i .u8 at_,.agg [.i .u16 u,.i .i8 o]] (.b true):=by
 refine pz func4 f4.eq_1 λhw X hX=>?_
 have hu:=wrap_u (u:=u) hw.2.2.1.1
 by_cases hC:zpH b=true/\zu b=0/\b.slots≠[]
 .obtain ⟨hb,hcv,hne⟩:=hC
  have hlp:0 < b.slots.length:=List.length_pos_iff.2 hne
  obtain ⟨s,hs⟩:=zk (i:=(at_ % b.slots.length).toNat) (l:=b.slots) (by have:=Int.emod_lt_of_pos at_ (show (0:Int) < b.slots.length by omega);have:=Int.emod_nonneg at_ (show (b.slots.length:Int)≠0 by omega);omega)
  have h71:=pure4071 b at_ hb hcv hne hs
  by_cases hcar:zD0 s=true
  .by_cases h20:s.req.per.fro < 20
   .have h20':=eq_true h20
    rw [hcar] at h71
    have qe:=aI qR @h20';have jA:=h71;have jB:=pure4072;exact gD2
   .have h20':=eq_false h20
    have hk:=ckS_of hb hcv hs hcar
    rw [hcar] at h71
    have h73:=pure4073 b hk.ok
    have qe:=aI qR @h20';repeat' first|refine gC ?_ ?_<;>intro hc<;>try contradiction|refine za h71 ?_|refine za h73 ?_|refine gG ?_|show AK _;intro J Z|refine gJ ?_|omega|exact aT
    refine zh (κ:=Nat × Bk) (λk=>⟨[(3,.lp 3 0),(5,.lp 5 0),(7,.lp 7 0),(9,.lp 9 0),(52,.row 52 2),(53,.p (.i .i64 2)),(54,.p (.i .i64 k.1))],[(3,.box [.p (.sl 16 (b.slots.map Slt.pv)),.p (.sl 14 (b.wait.map Wsh.pv))] false),(5,.box [.p (.i .u16 u),.p (.i .i8 o)] false),(7,.box (s.cells.map .p) false),(9,.box [.p (.sl 16 (k.2.slots.map Slt.pv)),.p (.sl 14 (k.2.wait.map Wsh.pv))] false),(52,.row 9 1 (tzL.map .s) false)],[],false⟩) (λk=>k.1<=2/\zhn b k.2/\zeG k.2) (λk=>2 - k.1) (0,b) ?_ ?_ ?_
    .refine gJ ?_;simp [tzL]
    .exact ⟨by omega,zBi hcv,hk.ok⟩
    .rintro ⟨k,y⟩ ⟨hk2,hK,hy⟩
     simp only at hk2 hK hy
     have hl2:tzL.length=2:=rfl
     repeat first|refine gG ?_|show AK _;intro J Z|refine gJ ?_|omega|exact aT
     (refine gC ?_ ?_<;>intro hc<;>try contradiction)
     .obtain ⟨to,hto⟩:=zk (i:=k) (l:=tzL) (by omega)
      obtain ⟨t,ht,hte⟩:=keeps_at hK hs
      have hE:hldE y s.req.name=0:=by
       have:=(zf4 hK.v ht).2.2
       rw [hte] at this
       exact ze.2 ⟨hK.v,ze.2 ⟨if_neg this,rfl⟩⟩
      have h83:=pure1083 y s.req.name
      rw [hE] at h83
      have h62:=pure1062 y (holR y s.req.name) s.req.name to (λ_=>hy)
      rw [zjr hK.v trB_0] at h62
      have hty:=trB_ok hy (holR y s.req.name) s.req.name to
      by_cases htr:trC y (holR y s.req.name) s.req.name to=0
      .have hK2:=keeps_tr hK (tr_keeps hK.v htr).1
       rw [htr] at h62
       generalize trB y (holR y s.req.name) s.req.name to=z at h62 hK2 hty
       have qe:=aI qR (aI @hto @hl2);repeat' first|refine gC ?_ ?_<;>intro hc<;>try contradiction|refine za h83 ?_|refine za h62 ?_|refine gG ?_|show AK _;intro J Z|refine gJ ?_|omega|exact aT
       exact ⟨(k+1,z),⟨by omega,hK2,hty⟩,by simp only [];omega,by simp⟩
      .have htr':=eq_false htr
       have qe:=aI qR (aI @hto (aI @hl2 @htr'));repeat' first|refine gC ?_ ?_<;>intro hc<;>try contradiction|refine za h83 ?_|refine za h62 ?_|refine gG ?_|show AK _;intro J Z|refine gJ ?_|omega|exact aT
       exact ⟨(k+1,y),⟨by omega,hK,hy⟩,by simp only [];omega,by simp⟩
     .have e2:k=2:=by omega
      have hyv:=hK.v
      have hmv:mvS y.slots=mvS b.slots:=by
       have:=keeps_mv hcv hK
       rw [(zA0 hyv).1,(zA0 hcv).1] at this;exact this
      have h74:=pure4074 s.req u o hk.per hk.lo hk.hi
      have qe:=@qR;repeat' first|refine gC ?_ ?_<;>intro hc<;>try contradiction|refine za h74 ?_|refine gG ?_|show AK _;intro J Z|refine gJ ?_|omega|exact aT
      refine zaf 300 58 8 [(3,.lp 3 0),(5,.lp 5 0),(7,.lp 7 0),(9,.lp 9 0),(16,.row 300 0),(88,.p (.sl 1 ((ckM s u o).map (.i .i64)))),(89,.p (.i .i64 (ckM s u o).length)),(90,.p (.i .i64 0))] [(3,.box [.p (.sl 16 (b.slots.map Slt.pv)),.p (.sl 14 (b.wait.map Wsh.pv))] false),(5,.box [.p (.i .u16 u),.p (.i .i8 o)] false),(7,.box (s.cells.map .p) false),(9,.box [.p (.sl 16 (y.slots.map Slt.pv)),.p (.sl 14 (y.wait.map Wsh.pv))] false)] ?_ ?_
      .simp only [Own,zam,zaj,za8,zad,qS,seval]
      have hnl:=zDW hk u o
      rw [zha,xaf] at hnl
      refine zh (κ:=Nat) (λk=>⟨[(3,.lp 3 0),(5,.lp 5 0),(7,.lp 7 0),(9,.lp 9 0),(16,.row 300 k),(88,.p (.sl 1 ((ckM s u o).map (.i .i64)))),(89,.p (.i .i64 (ckM s u o).length)),(90,.p (.i .i64 k))],[(3,.box [.p (.sl 16 (b.slots.map Slt.pv)),.p (.sl 14 (b.wait.map Wsh.pv))] false),(5,.box [.p (.i .u16 u),.p (.i .i8 o)] false),(7,.box (s.cells.map .p) false),(9,.box [.p (.sl 16 (y.slots.map Slt.pv)),.p (.sl 14 (y.wait.map Wsh.pv))] false),(300,.row 58 8 ((zha s.req.name ((ckM s u o).take k)).map UNt.pv) false)],[],false⟩) (λk=>k<=(ckM s u o).length) (λk=>(ckM s u o).length - k) 0 ?_ ?_ ?_
      .refine gJ ?_;simp [zha]
      .simp
      .intro k hk3
       have htl:((ckM s u o).take k).length=k:=by rw [xaj];omega
       have htn:(zha s.req.name ((ckM s u o).take k)).length=k:=by rw [zha,xaf];exact htl
       repeat first|refine gG ?_|show AK _;intro J Z|refine gJ ?_|omega|exact aT
       (refine gC ?_ ?_<;>intro hc<;>try contradiction)
       .obtain ⟨m,hm⟩:=zk (i:=k) (l:=(ckM s u o)) (by omega)
        have hsp:(zha s.req.name ((ckM s u o).take (k+1))).map UNt.pv=(zha s.req.name ((ckM s u o).take k)).map UNt.pv++[(flyN s.req.name m).pv]:=by rw [zM hm,zha,xaZ,xaZ];rfl
        have qe:=aI qR (aI @hm @htn);repeat' first|refine gC ?_ ?_<;>intro hc<;>try contradiction|refine za (ziw s.req.name m) ?_|refine gG ?_|show AK _;intro J Z|refine gJ ?_|omega|exact aT
        exact ⟨k+1,by omega,by omega,by simp,by rw [hsp],by rw [zha,xaf,xaj];omega⟩
       .have e3:k=(ckM s u o).length:=by omega
        subst e3
        rw [xaG]
        have hDp:0 < (zq s.req.per).length:=List.length_pos_iff.2 hk.ne
        have hnm:=zrE hcv hs
        have hum:=uOf_movs s.req
        rw [hk.kd] at hum
        have h77b:=ck_ratio hk u o hcv (xcj _) (by rw [hnm,hum])
        have h77y:=ck_ratio hk u o hyv (xcj _) (by rw [hmv,hnm,hum])
        obtain ⟨p1,q1,e1⟩:=rt_ints (λ_=>false) (ckF s (zq s.req.per)) (ckT s u o)
        rw [e1] at h77b h77y
        obtain ⟨a,ha⟩:=zk (i:=(u % (zq s.req.per).length).toNat) (l:=(zq s.req.per)) (by have:=Int.emod_lt_of_pos u (show (0:Int) < (zq s.req.per).length by omega);have:=Int.emod_nonneg u (show ((zq s.req.per).length:Int)≠0 by omega);omega)
        have hlt:=(xaa.1 ha).1
        have hidx:u.tmod ((zq s.req.per).length:Int)=((u % (zq s.req.per).length).toNat:Int):=by
         rw [xbF hu.1,xbx (Int.emod_nonneg _ (by omega))]
        have ham:=xae ha
        have hday:=znM hk ham
        have h34:=ck_whole hk u o ham (by omega)
        simp only [xaZ,xag,xav] at h34
        have h38:=ck_slots hk
        have h50:=pure1050 b s.holder s.req.name a (λ_=>hk.ok)
        rw [zjr hcv zx2,zx1 hcv hs ham] at h50
        have h67:=zq6 s.req.per hk.per
        have huw:=hu.2.2
        have hlb:=(sh_ok hb).2.1
        have hA:=λl=>eq_true (allUN0 l)
        have hNl:(zha s.req.name (ckM s u o)).length=(ckM s u o).length:=xaf ..
        have hkd:=hk.kd
        obtain ⟨a0,ha0⟩:=zk (i:=0) (l:=(zq s.req.per)) hDp
        by_cases h0:a=a0
        .subst h0
         have hfl:=yb (zbp s.req.per) ha0
         have hlen:=bck_len hcv hs ham hfl
         rw [hfl,rt_none] at h34
         have hz:(((zpR b s.holder s.req.name a).slots.length:Int)=(b.slots.length:Int) - 1)=True:=eq_true (by omega)
         generalize zpR b s.holder s.req.name a=z at h50 hz
         have qe:=aI qR (aI @huw (aI @hidx (aI @ha (aI @ha0 (aI @toN0 (aI @hz (aI @List.length_map.{0,0} (aI @hNl (aI @hA (aI @zbM @decide_true))))))))));repeat' first|refine gC ?_ ?_<;>intro hc<;>try contradiction|refine za h73 ?_|refine zL (h77b) ?_|refine zL (h77y) ?_|refine za h67 ?_|refine za h50 ?_|refine za h38 ?_|refine za zmK ?_|refine zL (h34) ?_|refine zm (λ_=>pure4072) ?_|refine gG ?_|show AK _;intro J Z|refine gJ ?_|omega|exact aT
         all_goals first|exact zyd (by decide)|exact .refl _
        .have h0':=eq_false h0
         have h77z:=ck_ratio hk u o (zD5 hcv (zx1 hcv hs ham)).1 List.filter_sublist (by have:=bck_name hcv hs ⟨by have:=hk.lo;omega,by have:=hk.hi;omega⟩ ham;rw [hkd] at this;exact this)
         obtain ⟨p2,q2,e5⟩:=rt_ints (λ_=>false) (ckF s ((zq s.req.per).filter λx=>decide (x < a))) (ckT s u o)
         rw [e5] at h34 h77z
         generalize zpR b s.holder s.req.name a=z at h50 h77z
         have qe:=aI qR (aI @huw (aI @hidx (aI @ha (aI @ha0 (aI @toN0 (aI @h0' (aI @List.length_map.{0,0} (aI @hNl (aI @hA (aI @zbM @decide_true))))))))));repeat' first|refine gC ?_ ?_<;>intro hc<;>try contradiction|refine za h73 ?_|refine zL (h77b) ?_|refine zL (h77y) ?_|refine zL (h77z) ?_|refine za h67 ?_|refine za h50 ?_|refine za h38 ?_|refine za zmK ?_|refine zL (h34) ?_|refine zm (λ_=>pure4072) ?_|refine gG ?_|show AK _;intro J Z|refine gJ ?_|omega|exact aT
         all_goals first|exact zyd (by decide)|exact .refl _
  .have hcar':zD0 s=false:=by simpa using hcar
   rw [hcar'] at h71
   have qe:=@qR;have jA:=h71;have jB:=pure4072;exact gD2
 .have h71:=zCo b at_ hC
  have qe:=@qR;have jA:=h71;have jB:=pure4072;exact gD2
open Go.RowKit Go.Proofs.Tryz Go.ChangeShapes Go.WideShapes Go.ChangeAt
def yc (os:Os) (started:os.Started) (H:Type) (enc:TypeId × Value->H):ReturnsInHanded {} Tryz.checked os 4 .any (Rows.topChockTransfersSpec.pre6 enc prog f4 Rows.topChockTransfersRow.domain false) (Rows.topChockTransfersSpec.post enc prog f4 false true false false):=by
 refine returnsInHanded_of_change_shaped (C:=Tryz.checked) own started (by kernel_rfl) func4
  (ChangeSpec.witness6 (enc:=enc) (C:=Tryz.checked) false ⟨#[],#[.agg #[.slice none 0 0,.slice none 0 0],.int .u8 0,.agg #[.int .u16 0,.int .i8 0]],[]⟩ 8 (by kernel_rfl) (by kernel_rfl) (by kernel_rfl) (by kernel_rfl)) ?_
 intro W base args ds gs before hval hW _ hsz _ _;refine zxE (C:=Tryz.checked) (n:=6) (tb:=4) laid (by kernel_rfl) rfl (λH ds hd=>?_) (by kernel_rfl) und4 (by kernel_rfl) (λps hps=>?_) W base args ds gs before hval hW hsz
 .match ds,hd with
  | [_,_,_],_=>rfl
 .match ps,hps with
  | [a0,a1,a2],⟨h0,h1,h2,_⟩=>
   obtain ⟨b,rfl⟩:=fit_bk h0;obtain ⟨n,rfl⟩:=fit_at h1;obtain ⟨u,o,rfl⟩:=fit_jny h2;exact yd b n u o
def ym:(Rows.topChockTransfersRow.inPlace == prog.inPlace 4)=true:=by kernel_rfl
def yk:(Rows.topChockTransfersRow.unfollowed == prog.unfollowed 4)=true:=by kernel_rfl
def yj:(Rows.topChockTransfersRow.recurses == prog.recurses 4)=true:=by kernel_rfl
def yi:(Rows.topChockTransfersRow.named == prog.varsNamed 4)=true:=by kernel_rfl
def yh:Tryz.checked.prog.funcNamed Rows.topChockTransfersRow.func=some 4:=by kernel_rfl
def yg:joinedFacts prog 4 f4 Rows.topChockTransfersSpec Rows.topChockTransfersRow=true:=
 zCZ (by as_aux_lemma=>kernel_rfl) laid rowed (by as_aux_lemma=>kernel_rfl) ym yk yj yi (by as_aux_lemma=>kernel_rfl) (by as_aux_lemma=>kernel_rfl) (by as_aux_lemma=>kernel_rfl) (by as_aux_lemma=>kernel_rfl) (by as_aux_lemma=>kernel_rfl)
def yf:f4.isInstance prog Rows.topChockTransfersRow.origin Rows.topChockTransfersRow.targs:=of_decide_eq_true (by kernel_rfl)
def ye:f4.isWrapper prog Rows.topChockTransfersRow.wrapper Rows.topChockTransfersRow.mainSum:=by
 unfold Func.isWrapper;first|(rw [if_pos (by decide +kernel)];kernel_rfl)|(rw [if_neg (by decide +kernel)];exact ⟨rfl,rfl⟩)
def ya:Rows.topChockTransfersRow.holds Tryz.pinned (OpenSpec.ofChange Rows.topChockTransfersSpec):=
 OpenClaim.holds_of_wide 4 f4 rfl rfl rfl rfl rfl rfl rfl ⟨rfl,rfl,rfl,rfl,rfl⟩ rfl rfl rfl rfl rfl yh func4 yg yf ye
  (λos started H enc _=>yc os started H enc)
theorem transfers_proved:Rows.TopChockTransfersSaid:=ya
