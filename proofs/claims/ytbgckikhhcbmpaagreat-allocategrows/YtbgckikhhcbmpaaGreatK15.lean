/- Contracts. No conditions. -/
import Derived.Test.YtbgckikhhcbmpaaGreatK13
import Derived.Test.YtbgckikhhcbmpaaGreatK14
set_option linter.all false
set_option maxHeartbeats 8000000
set_option maxRecDepth 100000
namespace Go.Proofs.YtbgckikhhcbmpaaGreat
open Go.RowKit Tryz
theorem zww {α:Type} [DecidableEq α]:∀ {W A:List α},W.Nodup->(∀ x ∈ W,x ∈ A)->W.length<=A.length
 | [],A,_,_=>by simp
 | x::W,A,h,hs=>by
  obtain ⟨h1,h2⟩:=xbR.1 h;have hx:x ∈ A:=hs x (xaA ..);have ih:=zww (A:=A.erase x) h2 λy hy=>(List.mem_erase_of_ne (λe:y=x=>h1 (by rw [<-e];exact hy))).2 (hs y (xaH _ hy))
  rw [List.length_erase_of_mem hx] at ih;have:0 < A.length:=List.length_pos_of_mem hx;rw [xaz];omega
def winA (ls:List Lim):List Ky:=(List.range ls.length).flatMap λi=>match ls[i]? with|some l=>(zaq l).map λx=>(i,x)|none=>[]
def zwD {ls:List Lim} (h:(winA ls).length<=900000):zgb ls:=λW hn hw=>by
 refine xa0 (zww hn λk hk=>?_) h
 obtain ⟨l,h1,h2⟩:=hw k hk;unfold winA;refine xaw.2 ⟨k.1,xaG.2 (xaa.1 h1).1,?_⟩;rw [h1];exact xaN.2 ⟨k.2,h2,rfl⟩
def zyN:zgb [awH]:=zwD (by rw [show (winA [awH]).length=3 by kernel_rfl];omega)
def fewA2:zgb [zzQ]:=zwD (by rw [show (winA [zzQ]).length=2 by kernel_rfl];omega)
def zwj {L:List Wis} (h:L.all (λw=>decide (zg2 w.req.minute w.ear w.lat w.step<=12))=true):ShW L:=λ_ w hw=>of_decide_eq_true (xaO.1 h w hw)
def shA:ShW awL:=zwj (by kernel_rfl)
def shQ:ShW awQ:=zwj (by kernel_rfl)
def ax_l {x:Lim} (h:zJ [x]=0):∀ l ∈ [x],zr l=0:=(zU h).2
def zu9:Pure prog 62 [awA.pv] (.tup [.sl 1 [.i .i64 610,.i .i64 590,.i .i64 630,.i .i64 650,.i .i64 670],.i .i64 0]):=by
 have h:=zuf awA (λ_=>by decide)
 rw [show zfI awA=0 from congrArg (·.2) ax1,if_pos rfl,show zac awA=[610,590,630,650,670] from congrArg (·.1) ax1] at h
 exact h
def zrn {a b:Int} (h1:a=0) (h2:b=0):zn [a,b]=0:=by rw [zro h1,zwE,h2]
def zvh:Pure prog 16 [.sl 11 [awH.pv],.sl 18 (awL.map Wis.pv)] (.tup [.sl 3 (awR.map Res.pv),.i .i64 0]):=by
 have h:=zmE (ls:=[awH]) (λ_=>zyN) shA
 have hl:zJ [awH]=0:=congrArg (·.1) zCs;have hw:zav awL=0:=congrArg (·.2.1) zCs;rw [zrn hl hw,if_pos rfl,zii (ax_l hl) hw,show zh6 [awH] awL (zaS awL) awL.length=awR from ax2] at h
 exact h
def zu8:Pure prog 65 [.sl 11 [awH.pv],.sl 18 (awL.map Wis.pv),.sl 3 (awR.map Res.pv)] (.tup [.sl 6 ((zp8 [awH] awL awR).map Rsn.pv),.i .i64 0]):=by
 have h:=zue (ls:=[awH]) (λ_=>zyN) shA awR
 rw [show zss [awH] awL awR=0 from congrArg (·.1) ax9] at h
 exact h
def zvb:Pure prog 50 [.sl 18 (awL.map Wis.pv),.sl 3 (awR.map Res.pv)] (.tup [.i .i64 80,.i .i64 0]):=by
 have h:=zuh (L:=awL) shA awR;rw [show zoW awL awR=0 from congrArg (·.2) ax4,if_pos rfl,show zkK awL awR awL.length=80 from congrArg (·.1) ax4] at h
 exact h
def zva:Pure prog 51 [.sl 18 (awL.map Wis.pv),.sl 3 (awR.map Res.pv)] (.tup [.sl 4 [.agg [.s (bs [120]),.i .i64 2,.i .i64 2,.i .i64 60],.agg [.s (bs [121]),.i .i64 1,.i .i64 1,.i .i64 20]],.i .i64 0]):=by
 have h:=zug (L:=awL) shA (λ_=>by decide) awR
 rw [show zoW awL awR=0 from congrArg (·.2) ax4,if_pos rfl,show zb5 awL awR awL.length=zb5 awL awR 3 from rfl,ax5] at h
 exact h
def zvg:Pure prog 26 [.sl 11 [awH.pv],.sl 18 (awL.map Wis.pv),.sl 3 [.agg [.s (bs [97]),.i .i64 0,.b false],(awN [98] 610).pv,(awN [99] 670).pv]] (.tup [.agg [.i .i64 0,.i .i64 610,.i .i64 (-1),.sl 1 [.s (bs [98])]],.i .i64 0]):=by
 have h:=zum (ls:=[awH]) (λ_=>zyN) shA zCu
 rw [show zeY [awH] awL zCu=0 from congrArg (·.1) ax6,if_pos rfl,if_pos rfl,show zoJ [awH] awL zCu=some ⟨0,610,-1,[bs [98]]⟩ from congrArg (·.2) ax6] at h
 exact h
def zvf:Pure prog 28 [.sl 11 [awH.pv],.sl 18 (awL.map Wis.pv),.sl 3 [(awN [97] 610).pv,.agg [.s (bs [98]),.i .i64 0,.b false],(awN [99] 670).pv]] (.tup [.agg [.i .i64 1,.i .i64 590,.i .i64 (-1),.sl 1 []],.i .i64 0]):=by
 have h:=zul (ls:=[awH]) (λ_=>zyN) shA zCt
 rw [show zeY [awH] awL zCt=0 from congrArg (·.1) ax7,if_pos rfl,if_pos rfl,show zwe [awH] awL zCt=some ⟨1,590,-1,[]⟩ from congrArg (·.2) ax7] at h
 exact h
def zvc:Pure prog 37 [.sl 11 [awH.pv],.sl 18 (awL.map Wis.pv),.sl 3 (awR.map Res.pv),.i .i64 0] (.tup [.sl 1 (awP8.map (.i .i64)),.i .i64 0]):=by
 have h:=zui (ls:=[awH]) (λ_=>zyN) shA awR 0
 rw [show zo9 [awH] awL awR 0=0 from congrArg (·.2.2) ax8] at h
 exact h
def znb:Pure prog 16 [.sl 11 [awH.pv],.sl 18 [(awW [112] [120] [65] [113] 610 590 630).pv,(awW [113] [120] [68] [112] 650 630 670).pv]] (.tup [.sl 3 (([awN [112] 610,awN [113] 670]:List Res).map Res.pv),.i .i64 0]):=by
 have h:=zmE (ls:=[awH]) (λ_=>zyN) shQ
 have hl:zJ [awH]=0:=congrArg (·.1) zCs;have hw:zav awQ=0:=congrArg (·.2) ax10;rw [zrn hl hw,if_pos rfl,zii (ax_l hl) hw,show zh6 [awH] awQ (zaS awQ) awQ.length=[awN [112] 610,awN [113] 670] from congrArg (·.1) ax10] at h
 exact h
def zvd:Pure prog 36 [.sl 11 [.agg [.s (bs [104,111,117,114]),.s sT,.s s0,.i .i64 60,.i .i64 60,.i .i64 600,.i .i64 660,.i .i64 2,.i .i64 2,.i .i64 127,.i .i64 0]],.sl 18 (awL.map Wis.pv),.sl 3 (awR.map Res.pv)] (.tup [.sl 3 (([awO [97],awN [98] 590,awO [99]]:List Res).map Res.pv),.i .i64 0]):=by
 have h:=zuj (ls:=[zzQ]) (λ_=>fewA2) shA awR
 have hl:zJ [zzQ]=0:=congrArg (·.2) ax11;have hw:zav awL=0:=congrArg (·.2.1) zCs;have hr:zc8 awL awR=0:=congrArg (·.2.2) zCs;rw [if_pos hw,zrn hl hr,if_pos rfl,zii (ax_l hl) hw,show zh6 [zzQ] awL (wdF awR) awL.length=[awO [97],awN [98] 590,awO [99]] from congrArg (·.1) ax11] at h
 exact h
def zve:Pure prog 35 [.sl 11 [awH.pv],.sl 18 (awL.map Wis.pv),.sl 3 (awR.map Res.pv),awD.pv] (.tup [.sl 3 [(awN [97] 610).pv,(awN [98] 590).pv,(awN [99] 670).pv,.agg [.s (bs [100]),.i .i64 0,.b false]],.i .i64 0]):=by
 have h:=zuk (ls:=[awH]) (λ_=>zyN) shA awR awD (λ_=>by decide)
 have hE:zwm [awH] awL awR awD=0:=congrArg (·.1) ax12;rw [show ztx [awH] awL awR awD=awR++[zwl [awH] awL awR awD] by unfold ztx;rw [if_pos hE],hE,show zwl [awH] awL awR awD=awO [100] from congrArg (·.2) ax12] at h
 exact h
def ziT {s:St} (t:Nat) {q:LV} (h:s.get t=.g true q):zef s λs1=>s1=s.set (some t) q:=λX C a w hM hr=>by
 refine ⟨_,C,rfl,?_⟩;have e:(s.set (some t) q).get=upd s.get t q:=zg9 _ _ _;rw [(zV _ _ _).1,(zV _ _ _).2,e];refine { hr with env:=λu=>?_,envs:=λu=>?_ }
 ·by_cases hu:u=t
  ·subst hu;rw [zk];have:=hr.env u;rw [h] at this;generalize zbz X a u=v at this ⊢;cases this with
   | g h1 h2=>exact h1 rfl
  ·rw [zA _ _ hu];exact hr.env u
 ·by_cases hu:u=t
  ·subst hu;rw [zk];have:=hr.envs u;rw [h] at this;cases this with
   | g h1=>exact h1 rfl
  ·rw [zA _ _ hu];exact hr.envs u
def zfT:Pure prog 74 [] awH.pv:=by
 refine pz func74 f74.eq_1 λhw X hX=>?_
 have qe:=@qR;exact gD2
def zew (n c k l:List UInt8) (m e t:Int):Pure prog 78 [.s (bs n),.s (bs c),.s (bs k),.s (bs l),.i .i64 m,.i .i64 e,.i .i64 t] (awW n c k l m e t).pv:=by
 refine pz func78 f78.eq_1 λhw X hX=>?_
 have qe:=@qR;exact gD2
def zfS:Pure prog 75 [] (.sl 18 (awL.map Wis.pv)):=by
 refine pz func75 f75.eq_1 λhw X hX=>?_
 have qe:=@qR;have jA:=λu1 u2 u3 u4 u5 u6 u7=>zew u1 u2 u3 u4 u5 u6 u7;exact gD2
def zfR (n:List UInt8) (m:Int):Pure prog 76 [.s (bs n),.i .i64 m] (awN n m).pv:=by
 refine pz func76 f76.eq_1 λhw X hX=>?_
 have qe:=@qR;exact gD2
abbrev awG:PV:=.sl 3 [(awN [97] 610).pv,(awN [98] 590).pv,(awN [99] 670).pv]
abbrev awGq:PV:=.sl 3 [(awN [112] 610).pv,(awN [113] 670).pv]
abbrev awGo:PV:=.sl 3 [.agg [.s (bs [97]),.i .i64 0,.b false],(awN [98] 590).pv,.agg [.s (bs [99]),.i .i64 0,.b false]]
def g24:Pure prog 24 [awG] awG:=zdC awR (by decide)
def g24q:Pure prog 24 [awGq] awGq:=zdC [awN [112] 610,awN [113] 670] (by decide)
def g24o:Pure prog 24 [awGo] awGo:=zdC [awO [97],awN [98] 590,awO [99]] (by decide)
def g23:Pure prog 23 [.sl 3 (awR.map Res.pv),awG] (.b true):=zie awR
def g23q:Pure prog 23 [.sl 3 (([awN [112] 610,awN [113] 670]:List Res).map Res.pv),awGq] (.b true):=zie [awN [112] 610,awN [113] 670]
def g23o:Pure prog 23 [.sl 3 (([awO [97],awN [98] 590,awO [99]]:List Res).map Res.pv),awGo] (.b true):=zie [awO [97],awN [98] 590,awO [99]]
def g41:Pure prog 44 [.sl 1 [.i .i64 610,.i .i64 590,.i .i64 630,.i .i64 650,.i .i64 670],.sl 1 [.i .i64 610,.i .i64 590,.i .i64 630,.i .i64 650,.i .i64 670]] (.b true):=zA4 [610,590,630,650,670]
def zuV:Pure prog 77 [.sl 1 [.s (bs [98])],.sl 1 [.s (bs [98])]] (.b true):=zuo [bs [98]] [bs [98]]
def axn5:(zp8 [awH] awL awR).length=5:=congrArg (·.2) ax9
def zvJ:awP8.length=66:=congrArg (·.1) ax8
def ax27:awP8[27]?=some 610:=congrArg (·.2.1) ax8
def z00:(0:Int)+0=0:=rfl
def dtf:decide (true=false)=false:=rfl
def dft:decide (false=true)=false:=rfl
def dtt:decide (true=true)=true:=rfl
def dff:decide (false=false)=true:=rfl
def toN2:Int.toNat 2=2:=rfl
def toN3:Int.toNat 3=3:=rfl
def zsT:Int.toNat 27=27:=rfl
def toN1:Int.toNat 1=1:=rfl
def pure6013:Pure prog 13 [] (.b true):=by
 have h24:=zdC awR (by decide)
 have h24q:=zdC [awN [112] 610,awN [113] 670] (by decide)
 have h24o:=zdC [awO [97],awN [98] 590,awO [99]] (by decide)
 refine zqn (cFb func13 f13.eq_1) (by simp) λhw X hX=>?_
 have qe:=aI qR (aI @z00 (aI @dtf (aI @dft (aI @dtt (aI @dff (aI @zb2 (aI @zbR (aI @decide_true (aI @decide_false (aI @axn5 (aI @ax9b (aI @zvJ (aI @ax27 (aI @toN0 (aI @toN1 (aI @toN2 (aI @toN3 (aI @zsT (aI @List.length_map.{0,0} (aI @List.map_cons.{0,0} (aI @List.map_nil.{0,0} (aI @xaC @xax))))))))))))))))))))));repeat' first|refine gC ?_ ?_<;>intro hc<;>try contradiction|refine za (zfT) ?_|refine za (zfS) ?_|refine za (zfR _ _) ?_|refine za (zew _ _ _ _ _ _ _) ?_|refine za (zu9) ?_|refine zo (zvh) ?_|refine zg (λ_=>g41) ?_|refine zg (λ_=>h24) ?_|refine zg (λ_=>g24) ?_|refine zg (λ_=>g23) ?_|refine zo (zu8) ?_|refine za (zvb) ?_|refine za (zva) ?_|refine zo (zvg) ?_|refine zo (zvf) ?_|refine zo (zvc) ?_|refine zg (λ_=>zuV) ?_|refine zo (znb) ?_|refine zo (zvd) ?_|refine zo (zve) ?_|refine zg (λ_=>h24q) ?_|refine zg (λ_=>g24q) ?_|refine zg (λ_=>g23q) ?_|refine zg (λ_=>h24o) ?_|refine zg (λ_=>g24o) ?_|refine zg (λ_=>g23o) ?_|refine gG ?_|show AK _;intro J Z|refine gJ ?_|omega|exact aT
 refine zag (ziT 57 rfl) ?_;rintro _ rfl;refine zag (zaz 57 awG (sR) (by first|trivial|simp) (.refl _)) ?_
 rintro _ rfl;refine zw ?_;have qe:=aI qR (aI @z00 (aI @dtf (aI @dft (aI @dtt (aI @dff (aI @zb2 (aI @zbR (aI @decide_true (aI @decide_false (aI @axn5 (aI @ax9b (aI @zvJ (aI @ax27 (aI @toN0 (aI @toN1 (aI @toN2 (aI @toN3 (aI @zsT (aI @List.length_map.{0,0} (aI @List.map_cons.{0,0} (aI @List.map_nil.{0,0} (aI @xaC @xax))))))))))))))))))))));repeat' first|refine gC ?_ ?_<;>intro hc<;>try contradiction|refine za (zfT) ?_|refine za (zfS) ?_|refine za (zfR _ _) ?_|refine za (zew _ _ _ _ _ _ _) ?_|refine za (zu9) ?_|refine zo (zvh) ?_|refine zg (λ_=>g41) ?_|refine zg (λ_=>h24) ?_|refine zg (λ_=>g24) ?_|refine zg (λ_=>g23) ?_|refine zo (zu8) ?_|refine za (zvb) ?_|refine za (zva) ?_|refine zo (zvg) ?_|refine zo (zvf) ?_|refine zo (zvc) ?_|refine zg (λ_=>zuV) ?_|refine zo (znb) ?_|refine zo (zvd) ?_|refine zo (zve) ?_|refine zg (λ_=>h24q) ?_|refine zg (λ_=>g24q) ?_|refine zg (λ_=>g23q) ?_|refine zg (λ_=>h24o) ?_|refine zg (λ_=>g24o) ?_|refine zg (λ_=>g23o) ?_|refine gG ?_|show AK _;intro J Z|refine gJ ?_|omega|exact aT
 refine zag (ziT 236 rfl) ?_;rintro _ rfl;refine zag (zaz 236 awGq (sR) (by first|trivial|simp) (.refl _)) ?_
 rintro _ rfl;refine zw ?_;have qe:=aI qR (aI @z00 (aI @dtf (aI @dft (aI @dtt (aI @dff (aI @zb2 (aI @zbR (aI @decide_true (aI @decide_false (aI @axn5 (aI @ax9b (aI @zvJ (aI @ax27 (aI @toN0 (aI @toN1 (aI @toN2 (aI @toN3 (aI @zsT (aI @List.length_map.{0,0} (aI @List.map_cons.{0,0} (aI @List.map_nil.{0,0} (aI @xaC @xax))))))))))))))))))))));repeat' first|refine gC ?_ ?_<;>intro hc<;>try contradiction|refine za (zfT) ?_|refine za (zfS) ?_|refine za (zfR _ _) ?_|refine za (zew _ _ _ _ _ _ _) ?_|refine za (zu9) ?_|refine zo (zvh) ?_|refine zg (λ_=>g41) ?_|refine zg (λ_=>h24) ?_|refine zg (λ_=>g24) ?_|refine zg (λ_=>g23) ?_|refine zo (zu8) ?_|refine za (zvb) ?_|refine za (zva) ?_|refine zo (zvg) ?_|refine zo (zvf) ?_|refine zo (zvc) ?_|refine zg (λ_=>zuV) ?_|refine zo (znb) ?_|refine zo (zvd) ?_|refine zo (zve) ?_|refine zg (λ_=>h24q) ?_|refine zg (λ_=>g24q) ?_|refine zg (λ_=>g23q) ?_|refine zg (λ_=>h24o) ?_|refine zg (λ_=>g24o) ?_|refine zg (λ_=>g23o) ?_|refine gG ?_|show AK _;intro J Z|refine gJ ?_|omega|exact aT
 refine zag (ziT 246 rfl) ?_;rintro _ rfl;refine zag (zaz 246 awGo (sR) (by first|trivial|simp) (.refl _)) ?_
 rintro _ rfl;refine zw ?_;have qe:=aI qR (aI @z00 (aI @dtf (aI @dft (aI @dtt (aI @dff (aI @zb2 (aI @zbR (aI @decide_true (aI @decide_false (aI @axn5 (aI @ax9b (aI @zvJ (aI @ax27 (aI @toN0 (aI @toN1 (aI @toN2 (aI @toN3 (aI @zsT (aI @List.length_map.{0,0} (aI @List.map_cons.{0,0} (aI @List.map_nil.{0,0} (aI @xaC @xax))))))))))))))))))))));repeat' first|refine gC ?_ ?_<;>intro hc<;>try contradiction|refine za (zfT) ?_|refine za (zfS) ?_|refine za (zfR _ _) ?_|refine za (zew _ _ _ _ _ _ _) ?_|refine za (zu9) ?_|refine zo (zvh) ?_|refine zg (λ_=>g41) ?_|refine zg (λ_=>h24) ?_|refine zg (λ_=>g24) ?_|refine zg (λ_=>g23) ?_|refine zo (zu8) ?_|refine za (zvb) ?_|refine za (zva) ?_|refine zo (zvg) ?_|refine zo (zvf) ?_|refine zo (zvc) ?_|refine zg (λ_=>zuV) ?_|refine zo (znb) ?_|refine zo (zvd) ?_|refine zo (zve) ?_|refine zg (λ_=>h24q) ?_|refine zg (λ_=>g24q) ?_|refine zg (λ_=>g23q) ?_|refine zg (λ_=>h24o) ?_|refine zg (λ_=>g24o) ?_|refine zg (λ_=>g23o) ?_|refine gG ?_|show AK _;intro J Z|refine gJ ?_|omega|exact aT
 all_goals first|exact zhe (by decide)|exact .refl _|decide
end Go.Proofs.YtbgckikhhcbmpaaGreat
