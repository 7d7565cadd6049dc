/- For every list of wishes and every number the statement AllocateWishes of chapter 6 returns true. No conditions. -/
import Derived.Test.YtbgckikhhcbmpaaGreatRows
import Derived.Test.YtbgckikhhcbmpaaGreatW0
set_option linter.all false
set_option maxHeartbeats 8000000
set_option maxRecDepth 100000
namespace Go.Proofs.YtbgckikhhcbmpaaGreat
open Go.RowKit Go.Proofs.Tryz Go.ChangeShapes Go.WideShapes Go.ChangeAt
abbrev jT:CP:=.i .i64
def wisT6:List CP:=[.s,.s,.s,.s,.s,.s,jT,jT,jT,jT,jT,jT,jT,jT,jT,jT,jT,jT]
theorem y9 {α:Type} {f:α->PV}:∀ {xs:List PV},(∀ x ∈ xs,∃ a,x=f a)->∃ L:List α,xs=L.map f
 | [],_=>⟨[],rfl⟩
 | x::r,h=>by
  obtain ⟨a,rfl⟩:=h x (by simp)
  obtain ⟨L,rfl⟩:=y9 (xs:=r) λy hy=>h y (by simp [hy])
  exact ⟨a::L,rfl⟩
def fa_s {n:Nat} {cs:List CP} {l:List PV} (h:FitAll (Fit n) (.s::cs) l):∃ (a:ByteArray) (r:List PV),l=.s a::r/\FitAll (Fit n) cs r:=by
 cases l with
 | nil=>exact absurd h (by simp [FitAll])
 | cons x r=>
  obtain ⟨h1,h2⟩:=h;cases n<;>(obtain ⟨a,rfl⟩:=h1;exact ⟨a,r,rfl,h2⟩)
def yV {n:Nat} {cs:List CP} {l:List PV} (h:FitAll (Fit n) (jT::cs) l):∃ (a:Int) (r:List PV),l=.i .i64 a::r/\FitAll (Fit n) cs r:=by
 cases l with
 | nil=>exact absurd h (by simp [FitAll])
 | cons x r=>
  obtain ⟨h1,h2⟩:=h;cases n<;>(obtain ⟨a,rfl⟩:=h1;exact ⟨a,r,rfl,h2⟩)
def fa_nil {n:Nat} {l:List PV} (h:FitAll (Fit n) [] l):l=[]:=by
 cases l with
 | nil=>rfl
 | cons x r=>exact absurd h (by simp [FitAll])
def yaO {n:Nat} {l:List PV} (h:FitAll (Fit n) wisT6 l):∃ x:Wis,.agg l=x.pv:=by
 obtain ⟨v0,r0,e0,g0⟩:=fa_s h;obtain ⟨v1,r1,e1,g1⟩:=fa_s g0;obtain ⟨v2,r2,e2,g2⟩:=fa_s g1;obtain ⟨v3,r3,e3,g3⟩:=fa_s g2;obtain ⟨v4,r4,e4,g4⟩:=fa_s g3;obtain ⟨v5,r5,e5,g5⟩:=fa_s g4;obtain ⟨v6,r6,e6,g6⟩:=yV g5;obtain ⟨v7,r7,e7,g7⟩:=yV g6;obtain ⟨v8,r8,e8,g8⟩:=yV g7;obtain ⟨v9,r9,e9,g9⟩:=yV g8;obtain ⟨v10,r10,e10,g10⟩:=yV g9;obtain ⟨v11,r11,e11,g11⟩:=yV g10;obtain ⟨v12,r12,e12,g12⟩:=yV g11;obtain ⟨v13,r13,e13,g13⟩:=yV g12;obtain ⟨v14,r14,e14,g14⟩:=yV g13;obtain ⟨v15,r15,e15,g15⟩:=yV g14;obtain ⟨v16,r16,e16,g16⟩:=yV g15;obtain ⟨v17,r17,e17,g17⟩:=yV g16;have e:=fa_nil g17;subst e0 e1 e2 e3 e4 e5 e6 e7 e8 e9 e10 e11 e12 e13 e14 e15 e16 e17 e;exact ⟨⟨⟨v0,v1,v2,v3,v4,v5,⟨v6,v7,v8⟩,v9,v10,v11,v12⟩,v13,v14,v15,v16,v17⟩,rfl⟩
def yaw:yaU prog 6 23=some (false,[.sl true wisT6]):=by kernel_rfl
def yal:prog.underlying 23=some (.slice 61):=by kernel_rfl
def yaD:prog.bytesOf 61=192:=by kernel_rfl
def yaz {p:PV} (h:yt prog 6 23 p):∃ L:List Wis,p=.sl 18 (L.map Wis.pv)/\L.length*192<=140737488355328:=by
 obtain ⟨⟨ag,c,l,hp,rfl,hl⟩,hb⟩:=h;rw [yaw] at hp;simp only [xaD,xcl] at hp;obtain ⟨rfl,rfl⟩:=hp
 match l,hl with
 | [q],⟨⟨xs,hq,hx⟩,_⟩=>
  subst hq;obtain ⟨L,rfl⟩:=y9 (f:=Wis.pv) (xs:=xs) λx h=>by
   obtain ⟨l,rfl,hf⟩:=hx x h;exact yaO hf
  refine ⟨L,rfl,?_⟩;have:=hb 61 _ _ yal rfl;rw [yaD,xaf] at this;unfold reachBytes at this;omega
def own:ownKnob prog.godebug=none:=by kernel_rfl
def laid:laidOutB prog=true:=by kernel_rfl
def und4:prog.underlying 4=some .bool:=by kernel_rfl
def yaa {P:Program} {f:FuncId} {fn:Func} {s:ChangeSpec} {c:OpenClaim} (a1:c.wf (OpenSpec.ofChange s)=true) (a2:laidOutB P=true) (a3:mapsRowed P=true)
  (a4:(fn.params.all (P.readableRec ·) && namedTie P c.named s.vars && (c.stops == []) && (P.stops == []) && (c.knobs == []) && (P.stopKnobs == []))=true)
  (b1:(c.inPlace == P.inPlace f)=true) (b2:(c.unfollowed == P.unfollowed f)=true) (b3:(c.recurses == P.recurses f)=true) (b4:(c.named == P.varsNamed f)=true)
  (d1:((c.maps == (fn.params.toList++s.plain.varTypes P).any (P.mapsRec ·)) && (c.ifaces == (fn.params.toList++s.plain.varTypes P).any (P.ifacesRec ·)) && (c.mapsOut == P.mapsAmong fn.resultTypes.toList) &&
 (c.loops == (fn.params.toList++s.plain.varTypes P).any (P.loopsFrom ·)) && (c.wideKeys == (fn.params.toList++s.plain.varTypes P++fn.resultTypes.toList).any (P.wideKeysFrom ·)))=true)
  (d2:(s.vars.all (P.varReadable ·) && fn.resultTypes.all (λt=>P.readableRec t && decide (t < P.types.size)) && (c.ifacesOut == fn.resultTypes.toList.any (P.ifacesRec ·)) && (c.loopsOut == fn.resultTypes.toList.any (P.loopsFrom ·)))=true)
  (d3:((c.plainKeys == P.plainKeys) && c.shortTexts.isNone && P.stopsHeard && P.mayEnter && (c.lifted == P.liftsFinal) && (P.make == some c.make))=true)
  (d4:((c.kinds == (if c.domain.isEmpty then [] else fn.params.toList.map λt=>match P.underlying t with|some (.int k)=>some k|_=>none)) && (c.pinned == c.pinnedBy))=true)
  (d5:((c.veiled == (fn.params.toList++s.plain.varTypes P++fn.resultTypes.toList).any (P.veiledRec ·)) && c.veiledFits P fn.params.toList (fn.params.toList++s.plain.varTypes P++fn.resultTypes.toList))=true):joinedFacts P f fn s c=true:=by
 unfold joinedFacts;simp only [xaB] at a4 d1 d2 d3 d4 d5 ⊢;obtain ⟨⟨⟨⟨⟨a4,a5⟩,a6⟩,a7⟩,a8⟩,a9⟩:=a4;obtain ⟨⟨⟨⟨e1,e2⟩,e3⟩,e4⟩,e5⟩:=d1;obtain ⟨⟨⟨e6,e7⟩,e8⟩,e9⟩:=d2;obtain ⟨⟨⟨⟨⟨f1,f2⟩,f3⟩,f4⟩,f5⟩,f6⟩:=d3;obtain ⟨f7,f8⟩:=d4;obtain ⟨f9,g1⟩:=d5;exact ⟨⟨⟨⟨⟨⟨⟨⟨⟨⟨⟨⟨⟨⟨⟨⟨⟨⟨⟨⟨⟨⟨⟨⟨⟨⟨⟨⟨⟨⟨⟨a1,a2⟩,a3⟩,a4⟩,a5⟩,a6⟩,a7⟩,a8⟩,a9⟩,b1⟩,b2⟩,b3⟩,b4⟩,e1⟩,e2⟩,e3⟩,e4⟩,e5⟩,e6⟩,e7⟩,e8⟩,e9⟩,f1⟩,f2⟩,f3⟩,f4⟩,f5⟩,f6⟩,f7⟩,f8⟩,f9⟩,g1⟩
def rowed:mapsRowed prog=true:=by kernel_rfl
open Go.RowKit Go.Proofs.Tryz
def kS (s:Int):Nat:=(1439 / s+1).toNat
def kS_lt {s:Int} (hs:1<=s) (j:Nat):j < kS s↔(j:Int)*s < 1440:=by
 have h3:0<=1439 / s:=xbe (by omega) (by omega)
 have h4:=Int.le_ediv_iff_mul_le (a:=(j:Int)) (b:=1439) (c:=s) (by omega)
 unfold kS
 constructor
 .intro h;have:=h4.1 (by omega)
  omega
 .intro h;have:=h4.2 (by omega)
  omega
def canW_R {w:Wis} (hs:1<=w.step) (h1:w.ear<=w.req.minute) (h2:w.req.minute<=w.lat) (he:0<=w.ear) (hl:w.lat<=1439):zac w=yF w.req.minute w.ear w.lat w.step (kS w.step):=
 can_eq hs h1 h2 he hl (by
  have:=kS_lt hs (kS w.step)
  omega)
def yL (w:Wis):(zac w).length=zg2 w.req.minute w.ear w.lat w.step:=by
 unfold zac;rw [(zhs _ _).length_eq];unfold zkM;rw [xaf,xaS]
def yaC (m e l s:Int) (j:Nat):(yw m e l s j).length<=2:=by
 unfold yw
 split<;>split<;>simp
def yaB (m e l s:Int) (K:Nat):(yF m e l s K).length<=2*K:=by
 unfold yF;have:=yad (f:=yw m e l s) (c:=2) (l:=List.range K) λj _=>yaC m e l s j
 rw [xaS] at this;omega
def yak (m e l s:Int) (K:Nat):yF m e l s (K+1)=yF m e l s K++yw m e l s K:=zbE _ _
def yay {L:List Wis} {i:Nat} {w:Wis} (h:L[i]?=some w):zeH w.req.name L < i↔0<=zeH w.req.name (L.take i):=by
 have hm:(zkG L)[i]?=some w.req.name:=by unfold zkG;rw [xal,h];rfl
 unfold zeH;have e:zkG (L.take i)=(zkG L).take i:=by unfold zkG;rw [xbF]
 rw [e];generalize zkG L=M at *;generalize w.req.name=n at *;have key:∀ (M:List ByteArray) (i:Nat),M[i]?=some n->(atL n M < i↔0<=atL n (M.take i)):=by
  intro M
  induction M with
  | nil=>intro i hi;simp at hi
  | cons x M ih=>
   intro i hi;cases i with
   | zero=>
    have:-1<=atL n ([]:List ByteArray):=zr9 n [];simp at hi;subst hi;simp [atL]
   | succ i=>
    have hi':M[i]?=some n:=by simpa using hi
    have ih:=ih i hi';rw [xa2]
    by_cases hx:x=n
    .simp [atL,hx]
    .have h1:=zr9 n M;have h2:=zr9 n (M.take i);have h3:0<=atL n M:=(zg5 n M).2 (xae hi')
     by_cases h0:0<=atL n (M.take i)
     .simp [atL,hx];omega
     .simp [atL,hx];omega
 exact key M i hm
def yW {w:Wis} (h:zfI w=0):zbY w.req=0/\0<=w.ear/\w.ear<=w.req.minute/\w.req.minute<=w.lat/\w.lat<=1439/\1<=w.step/\w.step<=120:=by
 have h1:=zjq (zcC h).1;obtain ⟨a1,a2,a3,a4,a5,a6,a7⟩:=h1;exact ⟨a1,by omega,by omega,by omega,by omega,by omega,by omega⟩
def yaj {w:Wis} (h:zfI w=0) {m:Int} (hm:m ∈ zac w):0<=m/\m<=1439:=by
 obtain ⟨_,h1,h2,h3,h4,h5,_⟩:=yW h;have:=(zvF h5 h2 h3).1 ((zhs _ _).mem_iff.1 hm)
 omega
def yJ (l:List Int):Pure prog 19 [.sl 1 (l.map (.i .i64))] (.i .i64 (zn l)):=by
 refine pz func19 f19.eq_1 λhw X hX=>?_
 simp only [wfs,PV.wf,xaf,maxLen] at hw
 repeat' first|refine gC ?_ ?_<;>intro hc<;>try contradiction|refine gG ?_|show AK _;intro J Z|refine gJ ?_|omega|exact aT
 refine zh (κ:=Nat) (λi=>⟨[(0,.p (.sl 1 (l.map (.i .i64)))),(3,.p (.i .i64 i))],[],[],false⟩) (λi=>i<=l.length/\∀ x ∈ l.take i,x=0) (λi=>l.length - i) 0 ?_ ?_ ?_
 .exact sR
 .simp
 .intro i hi
  repeat first|refine gG ?_|show AK _;intro J Z|refine gJ ?_|omega|exact aT
  (refine gC ?_ ?_<;>intro hc<;>try contradiction)
  .obtain ⟨x,hx⟩:=zj (i:=i) (l:=l) (by omega)
   have qe:=@hx;repeat' first|refine gC ?_ ?_<;>intro hc<;>try contradiction|refine gG ?_|show AK _;intro J Z|refine gJ ?_|omega|exact aT
   .rw [zbr hi.2 hx hc];exact .refl _
   .exact ⟨i+1,⟨by omega,zb0 hi.2 hx hc⟩,by omega,by simp⟩
  .repeat' first|refine gC ?_ ?_<;>intro hc<;>try contradiction|refine gG ?_|show AK _;intro J Z|refine gJ ?_|omega|exact aT
   have e:i=l.length:=by omega
   subst e;rw [zbj hi.2];exact .refl _
def yam (s:ByteArray):Pure prog 116 [.s s] (.i .i64 (zo6 s)):=by
 refine pz func116 f116.eq_1 λhw X hX=>?_
 by_cases h1:s=s0
 .have h1':=eq_true h1;have e:zo6 s=0:=y6 (.inl h1);rw [e];have qe:=aI qR (aI @h1' @xaU);have jA:=yr s;exact gD2
 .have h1':=eq_false h1;cases h2:zcs s with
  | true=>
   have h70:=yr s;rw [h2] at h70;have e:zo6 s=0:=y6 (.inr h2);rw [e];have qe:=aI qR (aI @h1' (aI @xaV @xaU));have jA:=h70;exact gD2
  | false=>
   have h70:=yr s;rw [h2] at h70;have e:zo6 s=8:=yaK ⟨h1,h2⟩;rw [e];have qe:=aI qR (aI @h1' @xaV);have jA:=h70;exact gD2
def yu (n a b:Int):Pure prog 117 [.i .i64 n,.i .i64 a,.i .i64 b] (.i .i64 (rng n a b)):=by
 refine pz func117 f117.eq_1 λhw X hX=>?_
 repeat' first|refine gC ?_ ?_<;>intro hc<;>try contradiction|refine gG ?_|show AK _;intro J Z|refine gJ ?_|omega|exact aT
 .rw [rng_3 (by omega)];exact .refl _
 .rw [zdR.2 (by omega)];exact .refl _
def yi (w:Wis) (hs:1<=w.step/\w.step<=120) (h1:w.ear<=w.req.minute) (h2:w.req.minute<=w.lat) (he:0<=w.ear) (hl:w.lat<=1439):Pure prog 47 [w.pv] (.sl 1 ((zac w).map (.i .i64))):=by
 rw [canW_R hs.1 h1 h2 he hl];have hk:=kS_lt hs.1;have hkb:∀ j:Nat,(j:Int)<=j*w.step:=λj=>by
  have:=Int.mul_le_mul_of_nonneg_left hs.1 (show (0:Int)<=j by omega)
  omega
 refine pz func47 f47.eq_1 λhw X hX=>?_
 have qe:=@qR;repeat' first|refine gC ?_ ?_<;>intro hc<;>try contradiction|refine gG ?_|show AK _;intro J Z|refine gJ ?_|omega|exact aT
 refine run_ownL 100 3 1 (κ:=Nat) (λj=>⟨[(1,.lp 1 0),(3,.row 100 (yF w.req.minute w.ear w.lat w.step j).length),(4,.p (.i .i64 (j*w.step)))],[(1,.box (w.cells.map .p) false),(100,.row 3 1 ((yF w.req.minute w.ear w.lat w.step j).map (.i .i64)) false)],[],false⟩) (λj=>j<=kS w.step) (λj=>kS w.step - j) 0 ?_ ?_ ?_
 .refine ⟨gO ?_,gO ?_⟩<;>simp [yF]
 .simp
 .intro j hj;have hj2:=hk j;have hjb:=hkb j;have hn:=yak w.req.minute w.ear w.lat w.step j;have hcl:=yaB w.req.minute w.ear w.lat w.step j;have hm1:((j+1:Nat):Int)*w.step=j*w.step+w.step:=by push_cast;rw [Int.add_mul];omega
  generalize hd:(j:Int)*w.step=d at *
  repeat first|refine gG ?_|show AK _;intro J Z|refine gJ ?_|omega|exact aT
  (refine gC ?_ ?_<;>intro hc<;>try contradiction)
  .have hjk:j < kS w.step:=hj2.2 hc;have hd0:0<=d:=by omega
   by_cases a1:w.ear<=w.req.minute - d
   .have a1':=eq_true a1
    by_cases a2:0 < d
    .have a2':=eq_true a2
     by_cases a3:w.req.minute+d<=w.lat
     .have a3':=eq_true a3;have e:yw w.req.minute w.ear w.lat w.step j=[w.req.minute - d,w.req.minute+d]:=by unfold yw;rw [hd,if_pos a1,if_pos ⟨a2,a3⟩];rfl
      rw [e] at hn;have qe:=aI qR (aI @a1' (aI @a2' (aI @a3' @decide_true)));repeat' first|refine gC ?_ ?_<;>intro hc<;>try contradiction|refine gG ?_|show AK _;intro J Z|refine gJ ?_|omega|exact aT
      exact ⟨j+1,by omega,by omega,by rw [hn,hm1];simp,by rw [hn];simp⟩
     .have a3':=eq_false a3;have e:yw w.req.minute w.ear w.lat w.step j=[w.req.minute - d]:=by unfold yw;rw [hd,if_pos a1,if_neg (λh=>a3 h.2)];rfl
      rw [e] at hn;have qe:=aI qR (aI @a1' (aI @a2' (aI @a3' yDF)));repeat' first|refine gC ?_ ?_<;>intro hc<;>try contradiction|refine gG ?_|show AK _;intro J Z|refine gJ ?_|omega|exact aT
      exact ⟨j+1,by omega,by omega,by rw [hn,hm1];simp,by rw [hn];simp⟩
    .have a2':=eq_false a2;have e:yw w.req.minute w.ear w.lat w.step j=[w.req.minute - d]:=by unfold yw;rw [hd,if_pos a1,if_neg (λh=>a2 h.1)];rfl
     rw [e] at hn;have qe:=aI qR (aI @a1' (aI @a2' yDF));repeat' first|refine gC ?_ ?_<;>intro hc<;>try contradiction|refine gG ?_|show AK _;intro J Z|refine gJ ?_|omega|exact aT
     exact ⟨j+1,by omega,by omega,by rw [hn,hm1];simp,by rw [hn];simp⟩
   .have a1':=eq_false a1;have a2:0 < d:=by omega
    have a2':=eq_true a2
    by_cases a3:w.req.minute+d<=w.lat
    .have a3':=eq_true a3;have e:yw w.req.minute w.ear w.lat w.step j=[w.req.minute+d]:=by unfold yw;rw [hd,if_neg a1,if_pos ⟨a2,a3⟩];rfl
     rw [e] at hn;have qe:=aI qR (aI @a1' (aI @a2' (aI @a3' yDF)));repeat' first|refine gC ?_ ?_<;>intro hc<;>try contradiction|refine gG ?_|show AK _;intro J Z|refine gJ ?_|omega|exact aT
     exact ⟨j+1,by omega,by omega,by rw [hn,hm1];simp,by rw [hn];simp⟩
    .have a3':=eq_false a3;have e:yw w.req.minute w.ear w.lat w.step j=[]:=by unfold yw;rw [hd,if_neg a1,if_neg (λh=>a3 h.2)];rfl
     rw [e,xat] at hn;have qe:=aI qR (aI @a1' (aI @a2' (aI @a3' yDF)));repeat' first|refine gC ?_ ?_<;>intro hc<;>try contradiction|refine gG ?_|show AK _;intro J Z|refine gJ ?_|omega|exact aT
     exact ⟨j+1,by omega,by omega,by rw [hn,hm1];simp,by rw [hn]⟩
  .have e:j=kS w.step:=by
    have:¬j < kS w.step:=λh=>by
     have:=hj2.1 h
     omega
    omega
   subst e;exact gD0
def yS {e:Int} {r r':List Int} (h:zn r=zn r'):zn (e::r)=zn (e::r'):=by
 by_cases k:e=0
 .rw [zro k,zro k,h]
 .rw [zlL k,zlL k]
def wisE_g (w:Wis):zfI w=zn [zbY w.req,zfA w.req.carrier,zn [zo6 w.req.partner,zo6 w.req.link,rng w.ear 0 1439,rng w.lat 0 1439],if w.req.minute < w.ear\/w.lat < w.req.minute then 11 else 0,rng w.step 1 120,if 96 < (zg2 w.req.minute w.ear w.lat w.step:Int) then 22 else 0,zn [rng w.least 0 1440,rng w.most 0 1440],if w.most < w.least then 11 else 0]:=
 yS (yS ((yaM [_,_,_,_] _).symm.trans (yS (yS (yS (yS (yaM [_,_] _).symm))))))
def yc (w:Wis):Pure prog 34 [w.pv] (.i .i64 (zfI w)):=by
 rw [wisE_g];refine pz func34 f34.eq_1 λhwf X hX=>?_
 have qe:=@qR;repeat' first|refine za (pure20 w.req) ?_|refine gG ?_|show AK _;intro J Z|refine gJ ?_|omega|exact aT
 (refine gC ?_ ?_<;>intro hc<;>try contradiction)
 .rw [zlL hc];have qe:=@qR;exact gD0
 have c1:zbY w.req=0:=hc;rw [zro c1];clear hc;have qe:=@qR;repeat' first|refine za (yr _) ?_|refine gG ?_|show AK _;intro J Z|refine gJ ?_|omega|exact aT
 (refine gC ?_ ?_<;>intro hc<;>try contradiction)
 .rw [zlL (by rw [yB hc];decide),yB hc]
  have qe:=@qR;exact gD0
 have c2:zcs w.req.carrier=true:=hc;rw [zro (y7 c2)];clear hc;have qe:=@qR;repeat' first|refine za (yam _) ?_|refine za (yu _ _ _) ?_|refine za (yJ [_,_,_,_]) ?_|refine gG ?_|show AK _;intro J Z|refine gJ ?_|omega|exact aT
 (refine gC ?_ ?_<;>intro hc<;>try contradiction)
 .rw [zlL hc];have qe:=@qR;exact gD0
 have c3:zn [zo6 w.req.partner,zo6 w.req.link,rng w.ear 0 1439,rng w.lat 0 1439]=0:=hc;rw [zro c3];clear hc;obtain ⟨_,q⟩:=zi.1 c3;obtain ⟨_,q⟩:=zi.1 q;obtain ⟨p3,q⟩:=zi.1 q;obtain ⟨p4,_⟩:=zi.1 q;rw [zdR] at p3 p4;have qe:=@qR;repeat' first|refine gG ?_|show AK _;intro J Z|refine gJ ?_|omega|exact aT
 (refine gC ?_ ?_<;>intro hc<;>try contradiction)
 .rw [if_pos hc,zlL (e:=11) (by decide)]
  have qe:=@qR;exact gD0
 have c4:¬(w.req.minute < w.ear\/w.lat < w.req.minute):=by omega
 rw [if_neg c4,zro (e:=0) rfl];clear hc;have qe:=@qR;repeat' first|refine za (yu _ _ _) ?_|refine gG ?_|show AK _;intro J Z|refine gJ ?_|omega|exact aT
 (refine gC ?_ ?_<;>intro hc<;>try contradiction)
 .rw [zlL (show rng w.step 1 120≠0 from λk=>hc (zdR.1 k))]
  have qe:=@qR;exact gD0
 have c5:rng w.step 1 120=0:=zdR.2 hc;rw [zro c5];rw [zdR] at c5;clear hc;have h47:=yi w c5 (by omega) (by omega) p3.1 p4.2
 have hlen:=yL w;rw [<-hlen];have qe:=@qR;repeat' first|refine za h47 ?_|refine gG ?_|show AK _;intro J Z|refine gJ ?_|omega|exact aT
 (refine gC ?_ ?_<;>intro hc<;>try contradiction)
 .rw [if_pos hc,zlL (e:=22) (by decide)]
  have qe:=@qR;exact gD0
 rw [if_neg (by omega),zro (e:=0) rfl]
 clear hc;have qe:=@qR;repeat' first|refine za (yu _ _ _) ?_|refine za (yJ [_,_]) ?_|refine gG ?_|show AK _;intro J Z|refine gJ ?_|omega|exact aT
 (refine gC ?_ ?_<;>intro hc<;>try contradiction)
 .rw [zlL hc];have qe:=@qR;exact gD0
 rw [zro hc,zwE];clear hc;have qe:=@qR;repeat' first|refine gG ?_|show AK _;intro J Z|refine gJ ?_|omega|exact aT
 (refine gC ?_ ?_<;>intro hc<;>try contradiction)
 .rw [if_pos hc];have qe:=@qR;exact gD0
 .rw [if_neg (by omega)]
  have qe:=@qR;exact gD0
def yj (L:List Wis) (n:ByteArray):Pure prog 39 [.sl 18 (L.map Wis.pv),.s n] (.i .i64 (zeH n L)):=by
 refine pz func39 f39.eq_1 λhw X hX=>?_
 simp only [wfs,PV.wf,xaf,maxLen] at hw
 repeat' first|refine gC ?_ ?_<;>intro hc<;>try contradiction|refine gG ?_|show AK _;intro J Z|refine gJ ?_|omega|exact aT
 refine zh (κ:=Nat) (λi=>⟨[(0,.p (.sl 18 (L.map Wis.pv))),(1,.p (.s n)),(5,.p (.i .i64 i))],[],[],false⟩) (λi=>i<=L.length/\∀ x ∈ (zkG L).take i,x≠n) (λi=>L.length - i) 0 ?_ ?_ ?_
 .exact sR
 .simp
 .intro i hi
  repeat first|refine gG ?_|show AK _;intro J Z|refine gJ ?_|omega|exact aT
  (refine gC ?_ ?_<;>intro hc<;>try contradiction)
  .obtain ⟨x,hx⟩:=zj (i:=i) (l:=L) (by omega)
   have hm:(zkG L)[i]?=some x.req.name:=by unfold zkG;rw [xal,hx];rfl
   have qe:=@hx;repeat' first|refine gC ?_ ?_<;>intro hc<;>try contradiction|refine gG ?_|show AK _;intro J Z|refine gJ ?_|omega|exact aT
   .rw [zeH,zr8 hi.2 (by rw [hm,hc])];exact .refl _
   .refine ⟨i+1,⟨by omega,λy hy=>?_⟩,by omega,by simp⟩
    rw [zE hm] at hy
    rcases xaR.1 hy with h|h
    .exact hi.2 y h
    .simp at h;subst h;exact hc
  .repeat' first|refine gC ?_ ?_<;>intro hc<;>try contradiction|refine gG ?_|show AK _;intro J Z|refine gJ ?_|omega|exact aT
   have e:i=(zkG L).length:=by unfold zkG;rw [xaf];omega
   subst e;rw [zeH,zsa (λy hy=>hi.2 y (by rw [xai];exact hy))];exact .refl _
def yaq (L:List Wis) {i:Nat} (hi:i < L.length):Pure prog 40 [.sl 18 (L.map Wis.pv),.i .i64 i] (.i .i64 (zau L i)):=by
 obtain ⟨w,hw⟩:=zj hi;have e:zau L i=if w.req.link=s0 then -1 else zeH w.req.link L:=by unfold zau zuE;rw [hw]
 rw [e];refine pz func40 f40.eq_1 λhwf X hX=>?_
 by_cases h:w.req.link=s0
 .have h':=eq_true h;rw [if_pos h];have qe:=aI qR (aI @hw @h');have jA:=yj L w.req.link;exact gD2
 .have h':=eq_false h;rw [if_neg h];have qe:=aI qR (aI @hw @h');have jA:=yj L w.req.link;exact gD2
def yao (L:List Wis):Pure prog 61 [.sl 18 (L.map Wis.pv)] (.tup [.sl 1 ((if zav L=0 then zdT L else []).map (.i .i64)),.i .i64 (zav L)]):=by
 refine pz func61 f61.eq_1 λhw X hX=>?_
 by_cases h:zav L=0
 .have h':=eq_true h;have qe:=aI qR @h';repeat' first|refine gC ?_ ?_<;>intro hc<;>try contradiction|refine za (zfU L) ?_|refine za (zmA L h) ?_|refine gG ?_|show AK _;intro J Z|refine gJ ?_|omega|exact aT
  all_goals first|exact .refl _|(simp only [h];exact .refl _)
 .have h':=eq_false h;have qe:=aI qR @h';repeat' first|refine gC ?_ ?_<;>intro hc<;>try contradiction|refine za (zfU L) ?_|refine gG ?_|show AK _;intro J Z|refine gJ ?_|omega|exact aT
  all_goals exact zdc (.nilsl _) (.refl _)
def yI (w:Wis) (m:Int) (h12:zfI w=0->zg2 w.req.minute w.ear w.lat w.step<=12):Pure prog 63 [w.pv,.i .i64 m] (.tup [.sl 7 ((if zfI w=0/\m ∈ zac w then zbF (w.req.at m) else []).map Mov.pv),.i .i64 (if zfI w=0 then if m ∈ zac w then 0 else 30 else zfI w)]):=by
 refine pz func63 f63.eq_1 λhw X hX=>?_
 by_cases h:zfI w=0
 .have h':=eq_true h
  by_cases hm:m ∈ zac w
  .have hm':=eq_true hm;have qe:=aI qR (aI @h' (aI @hm' @decide_true));repeat' first|refine gC ?_ ?_<;>intro hc<;>try contradiction|refine za (zev w) ?_|refine za (zcW w h (h12 h)) ?_|refine za (zid (zac w) m) ?_|refine za (zco w m) ?_|refine gG ?_|show AK _;intro J Z|refine gJ ?_|omega|exact aT
   all_goals first|exact .refl _|(simp only [h];exact .refl _)
  .have hm':=eq_false hm;have qe:=aI qR (aI @h' (aI @hm' @decide_false));repeat' first|refine gC ?_ ?_<;>intro hc<;>try contradiction|refine za (zev w) ?_|refine za (zcW w h (h12 h)) ?_|refine za (zid (zac w) m) ?_|refine za (zco w m) ?_|refine gG ?_|show AK _;intro J Z|refine gJ ?_|omega|exact aT
   all_goals exact zdc (.nilsl _) (.refl _)
 .have h':=eq_false h;have qe:=aI qR @h';repeat' first|refine gC ?_ ?_<;>intro hc<;>try contradiction|refine za (zev w) ?_|refine gG ?_|show AK _;intro J Z|refine gJ ?_|omega|exact aT
  all_goals exact zdc (.nilsl _) (.refl _)
def yH (w:Wis) (m:Int) (h:zbY w.req=0) (hm:0<=m/\m<=1439):Pure prog 64 [w.pv,.i .i64 m] (.sl 7 ((zbF (w.req.at m)).map Mov.pv)):=by
 have hq:=yah h hm.1 hm.2;have e:zbF (w.req.at m)=zhk (w.req.at m):=by unfold zbF;rw [if_pos hq]
 rw [e];refine pz func64 f64.eq_1 λhw X hX=>?_
 have qe:=@qR;have jA:=yaS w.req m;have jB:=pure21 (w.req.at m) hq;exact gD2
def allWs6 (l:List Wis):l.all ((λx=>x.cells.all PV.one) ∘ Wis.pv)=true:=by rw [xaL];intro x _;rfl
def yau (L:List Wis) (hn:L.length*192<=140737488355328):Pure prog 15 [.sl 18 (L.map Wis.pv)] (.sl 18 (L.map Wis.pv)):=by
 refine pz func15 f15.eq_1 λhw X hX=>?_
 have qe:=@qR;repeat' first|refine gC ?_ ?_<;>intro hc<;>try contradiction|refine gG ?_|show AK _;intro J Z|refine gJ ?_|omega|exact aT
 refine run_ownL 100 65 18 (κ:=Nat) (λk=>⟨[(0,.p (.sl 18 (L.map Wis.pv))),(3,.row 100 (L.take k).length),(4,.p (.i .i64 k))],[(100,.row 65 18 ((L.take k).map Wis.pv) false)],[],false⟩) (λk=>k<=L.length) (λk=>L.length - k) 0 ?_ ?_ ?_
 .refine ⟨gO ?_,gO ?_⟩<;>simp
 .simp
 .intro k hk
  repeat first|refine gG ?_|show AK _;intro J Z|refine gJ ?_|omega|exact aT
  (refine gC ?_ ?_<;>intro hc<;>try contradiction)
  .obtain ⟨w,hx⟩:=zj (i:=k) (l:=L) (by omega)
   have hlt:=zfJ hx;have hkl:(L.take k).length=k:=by rw [xao];omega
   have qe:=aI qR (aI @hx @hkl);repeat' first|refine gC ?_ ?_<;>intro hc<;>try contradiction|refine gG ?_|show AK _;intro J Z|refine gJ ?_|omega|exact aT
   exact ⟨k+1,by omega,by omega,by rw [zE hx];simp [hkl],by rw [zE hx];simp⟩
  .have e:k=L.length:=by omega
   subst e;rw [xai];exact gD0
def yat (L:List Wis) (hn:L.length*192<=140737488355328):Pure prog 18 [.sl 18 (L.map Wis.pv)] (.sl 18 (L.map Wis.pv)):=by
 refine pz func18 f18.eq_1 λhw X hX=>?_
 have qe:=aI qR (aI @allWs6 @zwW);exact gD0
def yaX (n:ByteArray) (L:List Wis):-1<=zeH n L/\zeH n L < L.length:=by
 have h1:=zr9 n (zkG L);have h2:=zr7 n (zkG L);unfold zeH;rw [show (zkG L).length=L.length by unfold zkG;rw [xaf]] at h2
 exact ⟨h1,h2⟩
def yan (L:List Wis) {i:Nat} {w:Wis} (hx:L[i]?=some w):Pure prog 91 [.sl 18 (L.map Wis.pv),.i .i64 i] (.i .i64 (zjj L i w)):=by
 have hil:i < L.length:=(xaa.1 hx).1
 obtain ⟨f1,f2⟩:=yaX w.req.link L
 have h39:=yj L w.req.link
 refine pz func91 f91.eq_1 λhwf X hX=>?_
 by_cases c1:w.req.link=s0
 .have c1':=eq_true c1
  have e:zjj L i w=0:=by unfold zjj;rw [if_pos c1]
  rw [e]
  have qe:=aI qR (aI @hx @c1');exact gD0
 .have c1':=eq_false c1
  by_cases c2:zeH w.req.link L < 0
  .have c2':=eq_true c2
   have e:zjj L i w=10:=by
    unfold zjj
    rw [if_neg c1]
    split
    .rw [if_pos c2]
    .rfl
   rw [e]
   have qe:=aI qR (aI @hx (aI @c1' @c2'));have jA:=h39;exact gD2
  .have c2':=eq_false c2
   obtain ⟨k,hk⟩:∃ k:Nat,zeH w.req.link L=(k:Int):=⟨(zeH w.req.link L).toNat,by omega⟩
   obtain ⟨o,ho⟩:=zj (i:=k) (l:=L) (by omega)
   have e:zjj L i w=if (k:Int)=i\/o.req.link≠w.req.name\/o.req.kind=w.req.kind\/¬(o.req.per.fro=w.req.per.fro/\o.req.per.to=w.req.per.to/\o.req.per.days=w.req.per.days) then 32 else 0:=by
    unfold zjj
    rw [if_neg c1,hk,xar,ho]
    simp only []
    rw [if_neg (by omega)]
   rw [hk] at h39 c2'
   have hkl:k < L.length:=by omega
   rw [e]
   by_cases d1:(k:Int)=i
   .have d1':=eq_true d1
    rw [if_pos (.inl d1)]
    have qe:=aI qR (aI @hx (aI @ho (aI @c1' (aI @c2' (aI @d1' @decide_true)))));have jA:=h39;exact gD2
   .have d1':=eq_false d1
    by_cases d2:o.req.link=w.req.name
    .have d2':=eq_true d2
     by_cases d3:w.req.kind=o.req.kind
     .have d3':=eq_true d3
      rw [if_pos (.inr (.inr (.inl d3.symm)))]
      have qe:=aI qR (aI @hx (aI @ho (aI @c1' (aI @c2' (aI @d1' (aI @d2' (aI @d3' (aI @decide_true (aI @decide_false @xaU)))))))));have jA:=h39;exact gD2
     .have d3':=eq_false d3
      by_cases d4:w.req.per.fro=o.req.per.fro/\w.req.per.to=o.req.per.to/\w.req.per.days=o.req.per.days
      .obtain ⟨d5,d6,d7⟩:=d4
       have d5':=eq_true d5
       have d6':=eq_true d6
       have d7':=eq_true d7
       rw [if_neg (by rintro (h|h|h|h)<;>first|exact d1 h|exact h d2|exact d3 h.symm|exact h ⟨d5.symm,d6.symm,d7.symm⟩)]
       have qe:=aI qR (aI @hx (aI @ho (aI @c1' (aI @c2' (aI @d1' (aI @d2' (aI @d3' (aI @d5' (aI @d6' (aI @d7' (aI @decide_true (aI @decide_false (aI @xaU @xaV)))))))))))));have jA:=h39;exact gD2
      .have d4':(decide (w.req.per.fro=o.req.per.fro) && (decide (w.req.per.to=o.req.per.to) && decide (w.req.per.days=o.req.per.days)))=false:=by
        rw [<-Bool.decide_and,<-Bool.decide_and];exact decide_eq_false d4
       rw [if_pos (.inr (.inr (.inr λh=>d4 ⟨h.1.symm,h.2.1.symm,h.2.2.symm⟩)))]
       have qe:=aI qR (aI @hx (aI @ho (aI @c1' (aI @c2' (aI @d1' (aI @d2' (aI @d3' (aI @d4' (aI @decide_true (aI @decide_false (aI @xaU @xaV)))))))))));have jA:=h39;exact gD2
    .have d2':=eq_false d2
     rw [if_pos (.inr (.inl d2))]
     have qe:=aI qR (aI @hx (aI @ho (aI @c1' (aI @c2' (aI @d1' (aI @d2' (aI @decide_true (aI @decide_false @xaV))))))));have jA:=h39;exact gD2
def yas (L:List Wis):Pure prog 21 [.sl 18 (L.map Wis.pv)] (.i .i64 (zav L)):=by
 refine pz func21 f21.eq_1 λhw X hX=>?_
 simp only [wfs,PV.wf,xaf,maxLen] at hw
 repeat' first|refine gC ?_ ?_<;>intro hc<;>try contradiction|refine gG ?_|show AK _;intro J Z|refine gJ ?_|omega|exact aT
 .rw [zav,if_pos hc];exact .refl _
 have hsp:zav L=zn [zn (L.mapIdx (zcB L)),zn (L.mapIdx (zjj L))]:=by rw [zav,if_neg (by omega)]
 refine zh (κ:=Nat) (λi=>⟨[(0,.p (.sl 18 (L.map Wis.pv))),(3,.p (.i .i64 i))],[],[],false⟩) (λi=>i<=L.length/\∀ x ∈ (L.mapIdx (zcB L)).take i,x=0) (λi=>L.length - i) 0 ?_ ?_ ?_
 .exact sR
 .simp
 .intro i hi
  repeat first|refine gG ?_|show AK _;intro J Z|refine gJ ?_|omega|exact aT
  (refine gC ?_ ?_<;>intro hc<;>try contradiction)
  .obtain ⟨x,hx⟩:=zj (i:=i) (l:=L) (by omega)
   have he:zcB L i x=zn [zfI x,if 0<=zeH x.req.name (L.take i) then 9 else 0]:=rfl
   have hft:=yay hx;have h39:=yj L x.req.name
   by_cases c1:zfI x=0
   .have c1':=eq_true c1
    by_cases c2:zeH x.req.name L < i
    .have c2':=eq_true c2;have hv:zcB L i x=9:=by rw [he,zro c1,zwE,if_pos (hft.1 c2)]
     have hf:zav L=9:=by rw [hsp,zbr hi.2 (zaj hx) (by rw [hv];decide),hv,zlL (e:=9) (by decide)]
     rw [hf];have qe:=aI qR (aI @hx (aI @c1' @c2'));have jA:=yc x;have jB:=h39;exact gD2
    .have c2':=eq_false c2;have hv:zcB L i x=0:=by rw [he,zro c1,zwE,if_neg (λk=>c2 (hft.2 k))]
     have qe:=aI qR (aI @hx (aI @c1' @c2'));repeat' first|refine gC ?_ ?_<;>intro hc<;>try contradiction|refine za (yc x) ?_|refine za h39 ?_|refine gG ?_|show AK _;intro J Z|refine gJ ?_|omega|exact aT
     all_goals exact ⟨i+1,⟨by omega,zb0 hi.2 (zaj hx) hv⟩,by omega,by simp⟩
   .have c1':=eq_false c1;have hv:zcB L i x=zfI x:=by rw [he,zlL c1]
    have hf:zav L=zfI x:=by rw [hsp,zbr hi.2 (zaj hx) (by rw [hv];exact c1),hv,zlL c1]
    rw [hf];have qe:=aI qR (aI @hx @c1');have jA:=yc x;exact gD2
  .have ei:i=(L.mapIdx (zcB L)).length:=by simp;omega
   have hA:zn (L.mapIdx (zcB L))=0:=by subst ei;exact zbj hi.2
   rw [zro hA,zwE] at hsp
   repeat' first|refine gC ?_ ?_<;>intro hc<;>try contradiction|refine gG ?_|show AK _;intro J Z|refine gJ ?_|omega|exact aT
   refine zh (κ:=Nat) (λi=>⟨[(0,.p (.sl 18 (L.map Wis.pv))),(5,.p (.i .i64 i))],[],[],false⟩) (λi=>i<=L.length/\∀ x ∈ (L.mapIdx (zjj L)).take i,x=0) (λi=>L.length - i) 0 ?_ ?_ ?_
   .exact sR
   .simp
   .clear hi ei;intro i hi
    repeat first|refine gG ?_|show AK _;intro J Z|refine gJ ?_|omega|exact aT
    (refine gC ?_ ?_<;>intro hc<;>try contradiction)
    .obtain ⟨x,hx⟩:=zj (i:=i) (l:=L) (by omega)
     have h91:=yan L hx
     by_cases c1:zjj L i x=0
     .have c1':=eq_true c1;have qe:=aI qR (aI @hx @c1');repeat' first|refine gC ?_ ?_<;>intro hc<;>try contradiction|refine za h91 ?_|refine gG ?_|show AK _;intro J Z|refine gJ ?_|omega|exact aT
      all_goals exact ⟨i+1,⟨by omega,zb0 hi.2 (zaj hx) c1⟩,by omega,by simp⟩
     .have c1':=eq_false c1;have hf:zav L=zjj L i x:=by rw [hsp,zbr hi.2 (zaj hx) c1]
      rw [hf];have qe:=aI qR (aI @hx @c1');have jA:=h91;exact gD2
    .have ei:i=(L.mapIdx (zjj L)).length:=by simp;omega
     have hf:zav L=0:=by rw [hsp];subst ei;exact zbj hi.2
     rw [hf];exact gD0
def bigW (w:Wis):Bool:=((decide ((60:Int) < w.req.carrier.size) || decide ((60:Int) < w.req.partner.size)) || decide ((60:Int) < w.req.link.size)) || !shReq w.req
def yU (w:Wis):Bool:=!bigW w && (!decide (zfI w=0) || (decide (((zac w).length:Int)<=8) && decide (w.req.per.to - w.req.per.fro < 10)))
def yar (w:Wis):Pure prog 33 [w.pv] (.b (yU w)):=by
 have h17:=pure17 w.req;have h34:=yc w;refine pz func33 f33.eq_1 λhwf X hX=>?_
 have hno:bigW w=true->yU w=false:=λh=>by unfold yU;rw [h];rfl
 by_cases a1:(60:Int) < w.req.carrier.size
 .have a1':=eq_true a1;rw [hno (by unfold bigW;rw [decide_eq_true a1];simp)]
  have qe:=aI qR (aI @a1' @decide_true);repeat' first|refine gC ?_ ?_<;>intro hc<;>try contradiction|(show zp _ _ _ _ (⟨_,.call 113,_,_,_⟩::_) _ _;refine zaQ (q:=(.b true)) (by first|rfl|(simp (disch:=omega) only [qG,qe,seval]<;>rfl)) ?_;(try (refine zw ?_)))|refine gG ?_|show AK _;intro J Z|refine gJ ?_|omega|exact aT
  all_goals exact .refl _
 have a1':=eq_false a1
 by_cases a2:(60:Int) < w.req.partner.size
 .have a2':=eq_true a2;rw [hno (by unfold bigW;rw [decide_eq_true a2];simp)]
  have qe:=aI qR (aI @a1' (aI @a2' yDF));repeat' first|refine gC ?_ ?_<;>intro hc<;>try contradiction|(show zp _ _ _ _ (⟨_,.call 113,_,_,_⟩::_) _ _;refine zaQ (q:=(.b true)) (by first|rfl|(simp (disch:=omega) only [qG,qe,seval]<;>rfl)) ?_;(try (refine zw ?_)))|refine gG ?_|show AK _;intro J Z|refine gJ ?_|omega|exact aT
  all_goals exact .refl _
 have a2':=eq_false a2
 by_cases a3:(60:Int) < w.req.link.size
 .have a3':=eq_true a3;rw [hno (by unfold bigW;rw [decide_eq_true a3];simp)]
  have qe:=aI qR (aI @a1' (aI @a2' (aI @a3' yDF)));repeat' first|refine gC ?_ ?_<;>intro hc<;>try contradiction|(show zp _ _ _ _ (⟨_,.call 113,_,_,_⟩::_) _ _;refine zaQ (q:=(.b true)) (by first|rfl|(simp (disch:=omega) only [qG,qe,seval]<;>rfl)) ?_;(try (refine zw ?_)))|refine gG ?_|show AK _;intro J Z|refine gJ ?_|omega|exact aT
  all_goals exact .refl _
 have a3':=eq_false a3;cases a4:shReq w.req with
 | false=>
  rw [a4] at h17;rw [hno (by unfold bigW;rw [a4];simp)]
  have qe:=aI qR (aI @a1' (aI @a2' (aI @a3' (aI @decide_true (aI @decide_false @xaV)))));have jA:=h17;exact gD2
 | true=>
  rw [a4] at h17;have hb:bigW w=false:=by unfold bigW;rw [decide_eq_false a1,decide_eq_false a2,decide_eq_false a3,a4];rfl
  by_cases c0:zfI w=0
  .have c0':=eq_true c0;obtain ⟨_,f1,f2,f3,f4,f5⟩:=yW c0;have h47:=yi w f5 f2 f3 f1 f4;have hpr:0<=w.req.per.to/\w.req.per.to<=99999/\0<=w.req.per.fro/\w.req.per.fro<=99999:=by
    have hp:=zaI (zeR (yW c0).1).1
    omega
   have hs:yU w=(decide (((zac w).length:Int)<=8) && decide (w.req.per.to - w.req.per.fro < 10)):=by unfold yU;rw [hb,decide_eq_true c0];rfl
   rw [hs]
   by_cases c1:((zac w).length:Int)<=8
   .have c1':=eq_true c1;rw [decide_eq_true c1,xbb];have qe:=aI qR (aI @a1' (aI @a2' (aI @a3' (aI @c0' (aI @c1' (aI @decide_true (aI @decide_false @xaU)))))));have jA:=h17;have jB:=h34;have jC:=h47;exact gD4
   .have c1':=eq_false c1;rw [decide_eq_false c1,xa5];have qe:=aI qR (aI @a1' (aI @a2' (aI @a3' (aI @c0' (aI @c1' (aI @decide_true (aI @decide_false @xaU)))))));have jA:=h17;have jB:=h34;have jC:=h47;exact gD4
  .have c0':=eq_false c0;have hs:yU w=true:=by unfold yU;rw [hb,decide_eq_false c0];rfl
   rw [hs];have qe:=aI qR (aI @a1' (aI @a2' (aI @a3' (aI @c0' (aI @decide_true (aI @decide_false @xaU))))));repeat' first|refine gC ?_ ?_<;>intro hc<;>try contradiction|refine zg (λ_=>h17) ?_|refine za h34 ?_|(show zp _ _ _ _ (⟨_,.call 47,_,_,_⟩::_) _ _;refine zaQ (q:=(.sl 1 [])) (by first|rfl|(simp (disch:=omega) only [qG,qe,seval]<;>rfl)) ?_;(try (refine zw ?_)))|refine gG ?_|show AK _;intro J Z|refine gJ ?_|omega|exact aT
   all_goals exact .refl _
def longW (L:List Wis) (n:Int):Bool:=(decide (n < L.length) && decide ((L.length:Int)<=64)) || decide ((66:Int) < L.length)
def yaF (L:List Wis) (n:Int):Bool:=!longW L n && L.all yU
def yap (L:List Wis) (n:Int):Pure prog 59 [.sl 18 (L.map Wis.pv),.i .i64 n] (.b (yaF L n)):=by
 refine pz func59 f59.eq_1 λhwf X hX=>?_
 simp only [wfs,PV.wf,xaf,maxLen] at hwf;have qe:=@qR;repeat' first|refine gC ?_ ?_<;>intro hc<;>try contradiction|refine gG ?_|show AK _;intro J Z|refine gJ ?_|omega|exact aT
 .have:longW L n=true:=by simpa [longW] using hc
  rw [yaF,this];exact .refl _
 have hsh:longW L n=false:=by simpa [longW] using hc
 refine zh (κ:=Nat) (λi=>⟨[(0,.p (.sl 18 (L.map Wis.pv))),(5,.p (.i .i64 i))],[],[],false⟩) (λi=>i<=L.length/\∀ y ∈ L.take i,yU y=true) (λi=>L.length - i) 0 ?_ ?_ ?_
 .exact sS
 .simp
 .intro i hi
  repeat first|refine gG ?_|show AK _;intro J Z|refine gJ ?_|omega|exact aT
  (refine gC ?_ ?_<;>intro hc<;>try contradiction)
  .obtain ⟨y,hx⟩:=zj (i:=i) (l:=L) (by omega)
   have qe:=aI qR @hx;repeat' first|refine gC ?_ ?_<;>intro hc<;>try contradiction|refine za (yar y) ?_|refine gG ?_|show AK _;intro J Z|refine gJ ?_|omega|exact aT
   .rw [yaF,hsh,all_no hx hc];exact .refl _
   .exact ⟨i+1,⟨by omega,yaE hi.2 hx hc⟩,by omega,by simp⟩
  .have e:i=L.length:=by omega
   subst e;have ha:=ya7 hi.2;have qe:=@qR;repeat' first|refine gC ?_ ?_<;>intro hc<;>try contradiction|refine gG ?_|show AK _;intro J Z|refine gJ ?_|omega|exact aT
   rw [yaF,hsh,ha];exact .refl _
def shl_le {L:List Wis} {n:Int} (hs:yaF L n=true):L.length<=66/\(zav L=0->(L.length:Int)<=n):=by
 unfold yaF longW at hs;simp only [xaB,xbs,xbn,Bool.and_eq_false_iff,decide_eq_false_iff_not] at hs;refine ⟨by omega,λh=>?_⟩
 have:=(zR h).1
 omega
def yY {w:Wis} (h:yU w=true) (h0:zfI w=0):zg2 w.req.minute w.ear w.lat w.step<=12:=by
 unfold yU at h;simp only [xaB,xbd,xbs,decide_eq_false_iff_not,decide_eq_true_eq] at h;have:=yL w
 rcases h.2 with h2|h2
 .exact absurd h0 h2
 .omega
def tN0:Int.toNat 0=0:=rfl
def yav (L:List Wis) (m:Int) (hL:L.length*192<=140737488355328):Pure prog 9 [.sl 18 (L.map Wis.pv),.i .i64 m] (.b true):=by
 have h59:=yap L 5
 have h15:=yau L hL
 refine zqn (cFb func9 f9.eq_1) (by simp) λhwf X hX=>?_
 cases hs:yaF L 5 with
 | false=>
  rw [hs] at h59
  have qe:=aI qR (aI @xaU @xaV);have jA:=pure6013;have jB:=h15;have jC:=h59;exact gD4
 | true=>
  rw [hs] at h59
  have hs2:L.all yU=true:=by unfold yaF at hs;rw [xaB] at hs;exact hs.2
  have h21:=yas L
  have h60:=zfU L
  have h61:=yao L
  have h18:=yat L hL
  by_cases hb:zav L=0
  .have hb':=eq_true hb
   have hw64:=(zR hb).1
   have hlk:=zmX L
   rw [if_pos hb] at h61
   have qe:=aI qR (aI @hb' (aI @hb (aI @hlk (aI @List.length_map.{0,0} (aI @xaU (aI @zb2 yDF))))));repeat' first|refine gC ?_ ?_<;>intro hc<;>try contradiction|refine za pure6013 ?_|refine za h15 ?_|refine zg (λ_=>h59) ?_|refine za h21 ?_|refine za h18 ?_|refine za h60 ?_|refine za h61 ?_|refine gG ?_|show AK _;intro J Z|refine gJ ?_|omega|exact aT
   refine zh (κ:=Nat) (λi=>⟨[(0,.p (.sl 18 (L.map Wis.pv))),(1,.p (.i .i64 m)),(5,.p (.sl 18 (L.map Wis.pv))),(6,.p (.i .i64 0)),(7,.p (.sl 1 ((zdT L).map (.i .i64)))),(9,.p (.i .i64 i))],[],[],false⟩) (λi=>i<=L.length) (λi=>L.length - i) 0 ?_ ?_ ?_
   .exact sS
   .simp
   .intro i hi
    by_cases hil:i < L.length
    .have hil':((i:Int) < (L.length:Int))=True:=eq_true (by omega)
     have hx:=zqT L hil
     have hll:i < (zdT L).length:=by omega
     have qe:=aI qR (aI @hil' (aI @hx (aI @zb2 (aI @decide_true @zio))));repeat' first|refine gC ?_ ?_<;>intro hc<;>try contradiction|refine za (yaq L hil) ?_|refine gG ?_|show AK _;intro J Z|refine gJ ?_|omega|exact aT
     all_goals exact ⟨i+1,by omega,by omega,by simp⟩
    .have hil':((i:Int) < (L.length:Int))=False:=eq_false (by omega)
     clear hi hil
     have qe:=aI qR (aI @hil' @decide_false);repeat first|refine gG ?_|show AK _;intro J Z|refine gJ ?_|omega|exact aT
     have qe:=@qR;(refine gC ?_ ?_<;>intro hc<;>try contradiction)
     refine zcU ?_
     by_cases hn0:L=[]
     .subst hn0
      have qe:=aI qR (@List.map_nil.{0,0});have jA:=pure6013;exact gD2
     .obtain ⟨w,hx⟩:=zj (i:=0) (l:=L) (List.length_pos_iff.2 hn0)
      have hlp:0 < L.length:=List.length_pos_iff.2 hn0
      have hl0:=eq_false (show ¬((L.length:Int)=0) by omega)
      have hsw:=xaL.1 hs2 w (xae hx)
      have h12:zfI w=0->zg2 w.req.minute w.ear w.lat w.step<=12:=λh0=>yY hsw h0
      have h62:=zuf w h12
      have h63:=yI w m h12
      have h34:=yc w
      by_cases h0:zfI w=0
      .have h0':=eq_true h0
       obtain ⟨fq,f1,f2,f3,f4,f5⟩:=yW h0
       have h47:=yi w f5 f2 f3 f1 f4
       have h41:=zA4 (zac w)
       have h38:=yaH (zac w) m
       rw [if_pos h0] at h62
       by_cases hm:m ∈ zac w
       .rw [if_pos ⟨h0,hm⟩,if_pos h0,if_pos hm] at h63
        rw [decide_eq_true hm] at h38
        have hmr:=yaj h0 hm
        have h64:=yH w m fq hmr
        have h26:=yaJ (zbF (w.req.at m))
        have qe:=aI qR (aI @hl0 (aI @hx (aI @h0' (aI @h0 (aI @tN0 (aI @xaU (aI @zb2 yDF)))))));have jA:=h62;have jB:=h63;have jC:=h34;have jD:=h47;have jE:=h41;have jF:=h38;have jG:=h64;have jH:=h26;exact gD8
       .rw [if_neg (λk=>hm k.2),if_pos h0,if_neg hm] at h63
        rw [decide_eq_false hm] at h38
        have qe:=aI qR (aI @hl0 (aI @hx (aI @h0' (aI @h0 (aI @tN0 (aI @xaU (aI @xaV (aI @zb2 (aI @decide_true (aI @decide_false (@List.map_nil.{0,0})))))))))));have jA:=h62;have jB:=h63;have jC:=h34;have jD:=h47;have jE:=h41;have jF:=h38;exact gD8
      .have h0':=eq_false h0
       rw [if_neg h0] at h62
       rw [if_neg (λk=>h0 k.1),if_neg h0] at h63
       have qe:=aI qR (aI @hl0 (aI @hx (aI @h0' (aI @tN0 (aI @xaU (aI @xaV (aI @zb2 (aI @decide_true (aI @decide_false (@List.map_nil.{0,0}))))))))));have jA:=h62;have jB:=h63;have jC:=h34;exact gD4
  .have hb':=eq_false hb
   rw [if_neg hb] at h61
   have hx5:=(shl_le hs).1
   have qe:=aI qR (aI @hb' (aI @List.length_map.{0,0} (aI @xaU (aI @xaV (aI @zb2 (aI @decide_true (aI @decide_false (@List.map_nil.{0,0}))))))));repeat' first|refine gC ?_ ?_<;>intro hc<;>try contradiction|refine za pure6013 ?_|refine za h15 ?_|refine zg (λ_=>h59) ?_|refine za h21 ?_|refine za h18 ?_|refine za h60 ?_|refine za h61 ?_|refine gG ?_|show AK _;intro J Z|refine gJ ?_|omega|exact aT
   refine zh (κ:=Nat) (λi=>⟨[(0,.p (.sl 18 (L.map Wis.pv))),(1,.p (.i .i64 m)),(5,.p (.sl 18 (L.map Wis.pv))),(6,.p (.i .i64 (zav L))),(9,.p (.i .i64 0))],[],[],false⟩) (λ_=>True) (λ_=>0) 0 ?_ ?_ ?_
   .exact sS
   .simp
   .intro i hi
    clear hi
    have qe:=aI qR (aI @hb' @decide_false);repeat first|refine gG ?_|show AK _;intro J Z|refine gJ ?_|omega|exact aT
    have qe:=@qR;(refine gC ?_ ?_<;>intro hc<;>try contradiction)
    refine zcU ?_
    by_cases hn0:L=[]
    .subst hn0
     have qe:=aI qR (aI @hb' (@List.map_nil.{0,0}));have jA:=pure6013;exact gD2
    .obtain ⟨w,hx⟩:=zj (i:=0) (l:=L) (List.length_pos_iff.2 hn0)
     have hlp:0 < L.length:=List.length_pos_iff.2 hn0
     have hl0:=eq_false (show ¬((L.length:Int)=0) by omega)
     have hsw:=xaL.1 hs2 w (xae hx)
     have h12:zfI w=0->zg2 w.req.minute w.ear w.lat w.step<=12:=λh0=>yY hsw h0
     have h62:=zuf w h12
     have h63:=yI w m h12
     have h34:=yc w
     by_cases h0:zfI w=0
     .have h0':=eq_true h0
      obtain ⟨fq,f1,f2,f3,f4,f5⟩:=yW h0
      have h47:=yi w f5 f2 f3 f1 f4
      have h41:=zA4 (zac w)
      have h38:=yaH (zac w) m
      rw [if_pos h0] at h62
      by_cases hm:m ∈ zac w
      .rw [if_pos ⟨h0,hm⟩,if_pos h0,if_pos hm] at h63
       rw [decide_eq_true hm] at h38
       have hmr:=yaj h0 hm
       have h64:=yH w m fq hmr
       have h26:=yaJ (zbF (w.req.at m))
       have qe:=aI qR (aI @hb' (aI @hl0 (aI @hx (aI @h0' (aI @h0 (aI @tN0 (aI @xaU (aI @zb2 yDF))))))));have jA:=h62;have jB:=h63;have jC:=h34;have jD:=h47;have jE:=h41;have jF:=h38;have jG:=h64;have jH:=h26;exact gD8
      .rw [if_neg (λk=>hm k.2),if_pos h0,if_neg hm] at h63
       rw [decide_eq_false hm] at h38
       have qe:=aI qR (aI @hb' (aI @hl0 (aI @hx (aI @h0' (aI @h0 (aI @tN0 (aI @xaU (aI @xaV (aI @zb2 (aI @decide_true (aI @decide_false (@List.map_nil.{0,0}))))))))))));have jA:=h62;have jB:=h63;have jC:=h34;have jD:=h47;have jE:=h41;have jF:=h38;exact gD8
     .have h0':=eq_false h0
      rw [if_neg h0] at h62
      rw [if_neg (λk=>h0 k.1),if_neg h0] at h63
      have qe:=aI qR (aI @hb' (aI @hl0 (aI @hx (aI @h0' (aI @tN0 (aI @xaU (aI @xaV (aI @zb2 (aI @decide_true (aI @decide_false (@List.map_nil.{0,0})))))))))));have jA:=h62;have jB:=h63;have jC:=h34;exact gD4
end Go.Proofs.YtbgckikhhcbmpaaGreat
