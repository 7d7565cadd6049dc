/- Contracts. No conditions. -/
import Derived.Test.YtbgckikhhcbmpaaGreatE0
set_option linter.all false
set_option maxHeartbeats 8000000
set_option maxRecDepth 100000
namespace Go.Proofs.YtbgckikhhcbmpaaGreat
open Go.RowKit Go.Proofs.Tryz Go.ChangeShapes Go.WideShapes Go.ChangeAt
variable {b:Brd} {cs:List CP} {W:List Ky} {ls:List Lim} {l:List PV} {R:List Res} {L:List Wis} {i n:Nat} {p:PV} {r:Rsn} {u:Unt} {a w:Wis}
abbrev jT:CP:=.i .i64
def limT6:List CP:=[.s,.s,.s,jT,jT,jT,jT,jT,jT,jT,jT]
def wisT6:List CP:=[.s,.s,.s,.s,.s,.s,jT,jT,jT,jT,jT,jT,jT,jT,jT,jT,jT,jT]
def resT6:List CP:=[.s,jT,.b]
theorem yx {α:Type} {f:α->PV}:∀ {xs:List PV},(∀ x ∈ xs,∃ a,x=f a)->∃ L:List α,xs=L.map f
 | [],_=>⟨[],rfl⟩
 | x::r,h=>by
  obtain ⟨a,rfl⟩:=h x (by simp)
  obtain ⟨L,rfl⟩:=yx (xs:=r) λy hy=>h y (by simp [hy])
  exact ⟨a::L,rfl⟩
def ybI (h:FitAll (Fit n) (.s::cs) l):∃ (a:ByteArray) (r:List PV),l=.s a::r/\FitAll (Fit n) cs r:=by
 cases l with
 | nil=>exact absurd h (by simp [FitAll])
 | cons x r=>
  obtain ⟨h1,h2⟩:=h;cases n<;>(obtain ⟨a,rfl⟩:=h1;exact ⟨a,r,rfl,h2⟩)
def yz (h:FitAll (Fit n) (jT::cs) l):∃ (a:Int) (r:List PV),l=.i .i64 a::r/\FitAll (Fit n) cs r:=by
 cases l with
 | nil=>exact absurd h (by simp [FitAll])
 | cons x r=>
  obtain ⟨h1,h2⟩:=h;cases n<;>(obtain ⟨a,rfl⟩:=h1;exact ⟨a,r,rfl,h2⟩)
def fa_b (h:FitAll (Fit n) (.b::cs) l):∃ (a:Bool) (r:List PV),l=.b a::r/\FitAll (Fit n) cs r:=by
 cases l with
 | nil=>exact absurd h (by simp [FitAll])
 | cons x r=>
  obtain ⟨h1,h2⟩:=h;cases n<;>(obtain ⟨a,rfl⟩:=h1;exact ⟨a,r,rfl,h2⟩)
def yaS (h:FitAll (Fit n) [] l):l=[]:=by
 cases l with
 | nil=>rfl
 | cons x r=>exact absurd h (by simp [FitAll])
def ydv (h:FitAll (Fit n) limT6 l):∃ x:Lim,.agg l=x.pv:=by
 obtain ⟨v0,r0,e0,g0⟩:=ybI h;obtain ⟨v1,r1,e1,g1⟩:=ybI g0;obtain ⟨v2,r2,e2,g2⟩:=ybI g1;obtain ⟨v3,r3,e3,g3⟩:=yz g2;obtain ⟨v4,r4,e4,g4⟩:=yz g3;obtain ⟨v5,r5,e5,g5⟩:=yz g4;obtain ⟨v6,r6,e6,g6⟩:=yz g5;obtain ⟨v7,r7,e7,g7⟩:=yz g6;obtain ⟨v8,r8,e8,g8⟩:=yz g7;obtain ⟨v9,r9,e9,g9⟩:=yz g8;obtain ⟨v10,r10,e10,g10⟩:=yz g9;have e:=yaS g10;subst e0 e1 e2 e3 e4 e5 e6 e7 e8 e9 e10 e;exact ⟨⟨v0,v1,v2,v3,v4,v5,v6,⟨v7,v8,v9⟩,v10⟩,rfl⟩
def yc6 (h:FitAll (Fit n) wisT6 l):∃ x:Wis,.agg l=x.pv:=by
 obtain ⟨v0,r0,e0,g0⟩:=ybI h;obtain ⟨v1,r1,e1,g1⟩:=ybI g0;obtain ⟨v2,r2,e2,g2⟩:=ybI g1;obtain ⟨v3,r3,e3,g3⟩:=ybI g2;obtain ⟨v4,r4,e4,g4⟩:=ybI g3;obtain ⟨v5,r5,e5,g5⟩:=ybI g4;obtain ⟨v6,r6,e6,g6⟩:=yz g5;obtain ⟨v7,r7,e7,g7⟩:=yz g6;obtain ⟨v8,r8,e8,g8⟩:=yz g7;obtain ⟨v9,r9,e9,g9⟩:=yz g8;obtain ⟨v10,r10,e10,g10⟩:=yz g9;obtain ⟨v11,r11,e11,g11⟩:=yz g10;obtain ⟨v12,r12,e12,g12⟩:=yz g11;obtain ⟨v13,r13,e13,g13⟩:=yz g12;obtain ⟨v14,r14,e14,g14⟩:=yz g13;obtain ⟨v15,r15,e15,g15⟩:=yz g14;obtain ⟨v16,r16,e16,g16⟩:=yz g15;obtain ⟨v17,r17,e17,g17⟩:=yz g16;have e:=yaS g17;subst e0 e1 e2 e3 e4 e5 e6 e7 e8 e9 e10 e11 e12 e13 e14 e15 e16 e17 e;exact ⟨⟨⟨v0,v1,v2,v3,v4,v5,⟨v6,v7,v8⟩,v9,v10,v11,v12⟩,v13,v14,v15,v16,v17⟩,rfl⟩
def yde (h:FitAll (Fit n) resT6 l):∃ x:Res,.agg l=x.pv:=by
 obtain ⟨v0,r0,e0,g0⟩:=ybI h;obtain ⟨v1,r1,e1,g1⟩:=yz g0;obtain ⟨v2,r2,e2,g2⟩:=fa_b g1;have e:=yaS g2;subst e0 e1 e2 e;exact ⟨⟨v0,v1,v2⟩,rfl⟩
def ybv:ycX prog 6 22=some (false,[.sl true limT6]):=by kernel_rfl
def ybb:prog.underlying 22=some (.slice 84):=by kernel_rfl
def ybQ:prog.bytesOf 84=112:=by kernel_rfl
def ybH (h:yP prog 6 22 p):∃ L:List Lim,p=.sl 11 (L.map Lim.pv)/\L.length*112<=140737488355328:=by
 obtain ⟨⟨ag,c,l,hp,rfl,hl⟩,hb⟩:=h;rw [ybv] at hp;simp only [xaK,xcf] at hp;obtain ⟨rfl,rfl⟩:=hp
 match l,hl with
 | [q],⟨⟨xs,hq,hx⟩,_⟩=>
  subst hq;obtain ⟨L,rfl⟩:=yx (f:=Lim.pv) (xs:=xs) λx h=>by
   obtain ⟨l,rfl,hf⟩:=hx x h;exact ydv hf
  refine ⟨L,rfl,?_⟩;have:=hb.1 84 _ _ ybb rfl;rw [ybQ,xaf] at this;unfold reachBytes at this;omega
def ycw:ycX prog 6 23=some (false,[.sl true wisT6]):=by kernel_rfl
def yb4:prog.underlying 23=some (.slice 61):=by kernel_rfl
def ycO:prog.bytesOf 61=192:=by kernel_rfl
def ycF (h:yP prog 6 23 p):∃ L:List Wis,p=.sl 18 (L.map Wis.pv)/\L.length*192<=140737488355328:=by
 obtain ⟨⟨ag,c,l,hp,rfl,hl⟩,hb⟩:=h;rw [ycw] at hp;simp only [xaK,xcf] at hp;obtain ⟨rfl,rfl⟩:=hp
 match l,hl with
 | [q],⟨⟨xs,hq,hx⟩,_⟩=>
  subst hq;obtain ⟨L,rfl⟩:=yx (f:=Wis.pv) (xs:=xs) λx h=>by
   obtain ⟨l,rfl,hf⟩:=hx x h;exact yc6 hf
  refine ⟨L,rfl,?_⟩;have:=hb.1 61 _ _ yb4 rfl;rw [ycO,xaf] at this;unfold reachBytes at this;omega
def yb5:prog.underlying 28=some (.slice 79):=by kernel_rfl
def ycP:prog.bytesOf 79=32:=by kernel_rfl
def own:ownKnob prog.godebug=none:=by kernel_rfl
def laid:laidOutB prog=true:=by kernel_rfl
def und4:prog.underlying 4=some .bool:=by kernel_rfl
def ybD {P:Program} {f:FuncId} {fn:Func} {s:ChangeSpec} {c:OpenClaim} (a1:c.wf (OpenSpec.ofChange s)=true) (a2:laidOutB P=true) (a3:mapsRowed P=true)
  (a4:(fn.params.all (P.readableRec ·) && namedTie P c.named s.vars && (c.stops == []) && (P.stops == []) && (c.knobs == []) && (P.stopKnobs == []))=true)
  (b1:(c.inPlace == P.inPlace f)=true) (b2:(c.unfollowed == P.unfollowed f)=true) (b3:(c.recurses == P.recurses f)=true) (b4:(c.named == P.varsNamed f)=true)
  (d1:((c.maps == (fn.params.toList++s.plain.varTypes P).any (P.mapsRec ·)) && (c.ifaces == (fn.params.toList++s.plain.varTypes P).any (P.ifacesRec ·)) && (c.mapsOut == P.mapsAmong fn.resultTypes.toList) &&
 (c.loops == (fn.params.toList++s.plain.varTypes P).any (P.loopsFrom ·)) && (c.wideKeys == (fn.params.toList++s.plain.varTypes P++fn.resultTypes.toList).any (P.wideKeysFrom ·)))=true)
  (d2:(s.vars.all (P.varReadable ·) && fn.resultTypes.all (λt=>P.readableRec t && decide (t < P.types.size)) && (c.ifacesOut == fn.resultTypes.toList.any (P.ifacesRec ·)) && (c.loopsOut == fn.resultTypes.toList.any (P.loopsFrom ·)))=true)
  (d3:((c.plainKeys == P.plainKeys) && c.shortTexts.isNone && P.stopsHeard && P.mayEnter && (c.lifted == P.liftsFinal) && (P.make == some c.make))=true)
  (d4:((c.kinds == (if c.domain.isEmpty then [] else fn.params.toList.map λt=>match P.underlying t with|some (.int k)=>some k|_=>none)) && (c.pinned == c.pinnedBy))=true)
  (d5:((c.veiled == (fn.params.toList++s.plain.varTypes P++fn.resultTypes.toList).any (P.veiledRec ·)) && c.veiledFits P fn.params.toList (fn.params.toList++s.plain.varTypes P++fn.resultTypes.toList))=true):joinedFacts P f fn s c=true:=by
 unfold joinedFacts;simp only [xau] at a4 d1 d2 d3 d4 d5 ⊢;obtain ⟨⟨⟨⟨⟨a4,a5⟩,a6⟩,a7⟩,a8⟩,a9⟩:=a4;obtain ⟨⟨⟨⟨e1,e2⟩,e3⟩,e4⟩,e5⟩:=d1;obtain ⟨⟨⟨e6,e7⟩,e8⟩,e9⟩:=d2;obtain ⟨⟨⟨⟨⟨f1,f2⟩,f3⟩,f4⟩,f5⟩,f6⟩:=d3;obtain ⟨f7,f8⟩:=d4;obtain ⟨f9,g1⟩:=d5;exact ⟨⟨⟨⟨⟨⟨⟨⟨⟨⟨⟨⟨⟨⟨⟨⟨⟨⟨⟨⟨⟨⟨⟨⟨⟨⟨⟨⟨⟨⟨⟨a1,a2⟩,a3⟩,a4⟩,a5⟩,a6⟩,a7⟩,a8⟩,a9⟩,b1⟩,b2⟩,b3⟩,b4⟩,e1⟩,e2⟩,e3⟩,e4⟩,e5⟩,e6⟩,e7⟩,e8⟩,e9⟩,f1⟩,f2⟩,f3⟩,f4⟩,f5⟩,f6⟩,f7⟩,f8⟩,f9⟩,g1⟩
def rowed:mapsRowed prog=true:=by kernel_rfl
open Go.RowKit Go.Proofs.Tryz
def kS (s:Int):Nat:=(1439 / s+1).toNat
def kS_lt {s:Int} (hs:1<=s) (j:Nat):j < kS s↔(j:Int)*s < 1440:=by
 have h3:0<=1439 / s:=xbh (by omega) (by omega)
 have h4:=Int.le_ediv_iff_mul_le (a:=(j:Int)) (b:=1439) (c:=s) (by omega)
 unfold kS
 constructor
 .intro h;have:=h4.1 (by omega)
  omega
 .intro h;have:=h4.2 (by omega)
  omega
def canW_R (hs:1<=w.step) (h1:w.ear<=w.req.minute) (h2:w.req.minute<=w.lat) (he:0<=w.ear) (hl:w.lat<=1439):zac w=yaw w.req.minute w.ear w.lat w.step (kS w.step):=
 can_eq hs h1 h2 he hl (by
  have:=kS_lt hs (kS w.step)
  omega)
def yaa (w:Wis):(zac w).length=zg2 w.req.minute w.ear w.lat w.step:=by
 unfold zac;rw [(zhs _ _).length_eq];unfold zkM;rw [xaf,xaU]
def ycN (m e l s:Int) (j:Nat):(yab m e l s j).length<=2:=by
 unfold yab
 split<;>split<;>simp
def ycM (m e l s:Int) (K:Nat):(yaw m e l s K).length<=2*K:=by
 unfold yaw;have:=ya (f:=yab m e l s) (c:=2) (l:=List.range K) λj _=>ycN m e l s j
 rw [xaU] at this;omega
def ybP (m e l s:Int) (K:Nat):yaw m e l s (K+1)=yaw m e l s K++yab m e l s K:=zbE _ _
def ycD (h:L[i]?=some w):zeH w.req.name L < i↔0<=zeH w.req.name (L.take i):=by
 have hm:(zkG L)[i]?=some w.req.name:=by unfold zkG;rw [xal,h];rfl
 unfold zeH;have e:zkG (L.take i)=(zkG L).take i:=by unfold zkG;rw [xbK]
 rw [e];generalize zkG L=M at *;generalize w.req.name=n at *;have key:∀ (M:List ByteArray) (i:Nat),M[i]?=some n->(atL n M < i↔0<=atL n (M.take i)):=by
  intro M
  induction M with
  | nil=>intro i hi;simp at hi
  | cons x M ih=>
   intro i hi;cases i with
   | zero=>
    have:-1<=atL n ([]:List ByteArray):=zr9 n [];simp at hi;subst hi;simp [atL]
   | succ i=>
    have hi':M[i]?=some n:=by simpa using hi
    have ih:=ih i hi';rw [xa3]
    by_cases hx:x=n
    .simp [atL,hx]
    .have h1:=zr9 n M;have h2:=zr9 n (M.take i);have h3:0<=atL n M:=(zg5 n M).2 (xae hi')
     by_cases h0:0<=atL n (M.take i)
     .simp [atL,hx];omega
     .simp [atL,hx];omega
 exact key M i hm
def yu (h:zfI w=0):zbY w.req=0/\0<=w.ear/\w.ear<=w.req.minute/\w.req.minute<=w.lat/\w.lat<=1439/\1<=w.step/\w.step<=120:=by
 have h1:=zjq (zcC h).1;obtain ⟨a1,a2,a3,a4,a5,a6,a7⟩:=h1;exact ⟨a1,by omega,by omega,by omega,by omega,by omega,by omega⟩
def yf (h:zfI w=0) {m:Int} (hm:m ∈ zac w):0<=m/\m<=1439:=by
 obtain ⟨_,h1,h2,h3,h4,h5,_⟩:=yu h;have:=(zvF h5 h2 h3).1 ((zhs _ _).mem_iff.1 hm)
 omega
def yO (h:zfI w=0):(zac w).length<=96:=by
 rw [yaa];unfold zfI at h
 iterate 8 obtain ⟨_,h⟩:=zi.1 h
 obtain ⟨h,_⟩:=zi.1 h
 by_cases k:96 < (zg2 w.req.minute w.ear w.lat w.step:Int)
 .rw [if_pos k] at h;cases h
 .omega
def yb (h:zav L=0) (ha:L[i]?=some a):zfI a=0:=by
 have:=((zR h).2 i a ha).1;unfold zcB at this;exact (zi.1 this).1
def y8 (L:List Wis) (i:Nat) (m:Int):(zfB L i m).length<=401:=by
 unfold zfB
 split
 .exact zbd _
 .simp
def yaN (L:List Wis) (R:List Res) (f:Nat->Bool):∀ c,((List.range c).foldl (plcF L R f) []).length<=401*c:=by
 intro c
 induction c with
 | zero=>simp
 | succ c ih=>
  rw [xbd,xaP,xbn,xbI];unfold plcF
  split
  .rename_i r hr
   split
   .rw [(zog _ _ _).length_eq,xad];have:=y8 L c r.minute;unfold plcF at ih
    omega
   .unfold plcF at ih;omega
  .unfold plcF at ih;omega
def RsOk (L:List Wis) (R:List Res):Prop:=R.length=L.length/\∀ r ∈ R,r.gr=true->0<=r.minute/\r.minute<=1439
def yV (h:zav L=0) (hr:zc8 L R=0):RsOk L R:=by
 obtain ⟨hn,hE,_⟩:=zbZ hr;refine ⟨hn,λr hm hg=>?_⟩
 obtain ⟨i,hi⟩:=xbl.1 hm;obtain ⟨w,hw⟩:=zj (l:=L) (i:=i) (by have:=(xaa.1 hi).1;omega)
 have h1:=hE i w hw;have e:za5 R i=r:=by unfold za5;rw [hi];rfl
 rw [e] at h1;exact yf (yb h hw) ((zdz h1).2.1 hg)
def wnX (ls:List Lim) (all:List Mov) (k:Ky):Win:=⟨k.1,k.2,match ls[k.1]? with|some l=>zbb l all k.2|none=>0⟩
def xwB (ls:List Lim) (all own:List Mov) (i:Nat) (l:Lim) (x:Int):List Win:=if xrB ls all own l x=true then [⟨i,x,zbb l all x⟩] else []
def xwI (ls:List Lim) (all own:List Mov) (i:Nat):List Win:=match ls[i]? with
 | some l=>(zaq l).flatMap (xwB ls all own i l)
 | none=>[]
def xwK (ls:List Lim) (all own:List Mov) (k:Nat):List Win:=(List.range k).flatMap (xwI ls all own)
def xw_eq (ls:List Lim) (all own:List Mov):xwK ls all own ls.length=(xrW ls all own).map (wnX ls all):=by
 unfold xwK xrW;rw [List.map_flatMap];refine yt λi _=>?_
 unfold xwI xrI;cases hl:ls[i]? with
 | none=>rfl
 | some l=>
  simp only [];generalize zaq l=M
  induction M with
  | nil=>rfl
  | cons x M ih=>
   rw [xat,ih,xa2];unfold xwB
   by_cases hx:xrB ls all own l x=true
   .rw [if_pos hx,if_pos hx,xaj,xaj];have:wnX ls all (i,x)=⟨i,x,zbb l all x⟩:=by unfold wnX;simp only [hl]
    rw [this];rfl
   .rw [if_neg hx,if_neg hx];rfl
def ya9 (ls:List Lim) (all own:List Mov) (i:Nat) (l:Lim) (M:List Int):(M.flatMap (xwB ls all own i l)).length<=M.length:=by
 have:=ya (f:=xwB ls all own i l) (c:=1) (l:=M) λx _=>by unfold xwB;split<;>simp
 omega
def yba (h:∀ l ∈ ls,zr l=0) (all own:List Mov) (k:Nat):(xwK ls all own k).length<=k*577440:=by
 have:=ya (f:=xwI ls all own) (c:=577440) (l:=List.range k) λi _=>by
  unfold xwI
  split
  .rename_i l hl;have h1:=ya9 ls all own i l (zaq l);have h2:=yg (h l (xae hl))
   omega
  .simp
 rw [xaU] at this;exact this
def allWs6 (l:List Wis):l.all ((λx=>x.cells.all PV.one) ∘ Wis.pv)=true:=by rw [xaO];intro x _;rfl
def allRs6 (l:List Res):l.all ((λx=>x.cells.all PV.one) ∘ Res.pv)=true:=by rw [xaO];intro x _;rfl
def yaJ (L:List Wis) (hn:L.length*192<=140737488355328):Pure prog 15 [.sl 18 (L.map Wis.pv)] (.sl 18 (L.map Wis.pv)):=by
 refine pz func15 f15.eq_1 λhw X hX=>?_
 have qe:=@qR;refine gE2 ?_;refine run_ownL 100 65 18 (κ:=Nat) (λk=>⟨[(0,.p (.sl 18 (L.map Wis.pv))),(3,.row 100 (L.take k).length),(4,.p (.i .i64 k))],[(100,.row 65 18 ((L.take k).map Wis.pv) false)],[],false⟩) (λk=>k<=L.length) (λk=>L.length - k) 0 ?_ ?_ ?_
 .refine ⟨gO ?_,gO ?_⟩<;>simp
 .simp
 .intro k hk;refine gH (λhc=>?_) λhc=>?_
  .obtain ⟨w,hx⟩:=zj (i:=k) (l:=L) (by omega)
   have hlt:=zfJ hx;have hkl:(L.take k).length=k:=by rw [xan];omega
   have qe:=aI qR (aI @hx @hkl);refine gE2 ?_;exact ⟨k+1,by omega,by omega,by rw [zE hx];simp [hkl],by rw [zE hx];simp⟩
  .have e:k=L.length:=by omega
   subst e;rw [xah];exact gD2
def ycp (L:List Lim) (hn:L.length*112<=140737488355328):Pure prog 17 [.sl 11 (L.map Lim.pv)] (.sl 11 (L.map Lim.pv)):=by
 refine pz func17 f17.eq_1 λhw X hX=>?_
 have qe:=@qR;refine gE2 ?_;refine run_ownL 100 131 11 (κ:=Nat) (λk=>⟨[(0,.p (.sl 11 (L.map Lim.pv))),(3,.row 100 (L.take k).length),(4,.p (.i .i64 k))],[(100,.row 131 11 ((L.take k).map Lim.pv) false)],[],false⟩) (λk=>k<=L.length) (λk=>L.length - k) 0 ?_ ?_ ?_
 .refine ⟨gO ?_,gO ?_⟩<;>simp
 .simp
 .intro k hk;refine gH (λhc=>?_) λhc=>?_
  .obtain ⟨w,hx⟩:=zj (i:=k) (l:=L) (by omega)
   have hlt:=zfJ hx;have hkl:(L.take k).length=k:=by rw [xan];omega
   have qe:=aI qR (aI @hx @hkl);refine gE2 ?_;exact ⟨k+1,by omega,by omega,by rw [zE hx];simp [hkl],by rw [zE hx];simp⟩
  .have e:k=L.length:=by omega
   subst e;rw [xah];exact gD2
def yZ (L:List Rsn) (hn:L.length*72<=140737488355328):Pure prog 70 [.sl 6 (L.map Rsn.pv)] (.sl 6 (L.map Rsn.pv)):=by
 refine pz func70 f70.eq_1 λhw X hX=>?_
 have qe:=@qR;refine gE2 ?_;refine run_ownL 100 217 6 (κ:=Nat) (λk=>⟨[(0,.p (.sl 6 (L.map Rsn.pv))),(3,.row 100 (L.take k).length),(4,.p (.i .i64 k))],[(100,.row 217 6 ((L.take k).map Rsn.pv) false)],[],false⟩) (λk=>k<=L.length) (λk=>L.length - k) 0 ?_ ?_ ?_
 .refine ⟨gO ?_,gO ?_⟩<;>simp
 .simp
 .intro k hk;refine gH (λhc=>?_) λhc=>?_
  .obtain ⟨w,hx⟩:=zj (i:=k) (l:=L) (by omega)
   have hlt:=zfJ hx;have hkl:(L.take k).length=k:=by rw [xan];omega
   have qe:=aI qR (aI @hx @hkl);refine gE2 ?_;exact ⟨k+1,by omega,by omega,by rw [zE hx];simp [hkl],by rw [zE hx];simp⟩
  .have e:k=L.length:=by omega
   subst e;rw [xah];exact gD2
def yco (L:List Wis) (hn:L.length*192<=140737488355328):Pure prog 18 [.sl 18 (L.map Wis.pv)] (.sl 18 (L.map Wis.pv)):=by
 refine pz func18 f18.eq_1 λhw X hX=>?_
 have qe:=aI qR (aI @allWs6 @zwW);exact gD2
def ycl (L:List Res) (hn:L.length*32<=140737488355328):Pure prog 27 [.sl 3 (L.map Res.pv)] (.sl 3 (L.map Res.pv)):=by
 refine pz func27 f27.eq_1 λhw X hX=>?_
 have qe:=aI qR (aI @allRs6 @zwW);exact gD2
def yaI (l:List Rsn):Pure prog 71 [.sl 6 (l.map Rsn.pv),.sl 6 (l.map Rsn.pv)] (.b true):=by
 refine zqn (cFb func71 f71.eq_1) (by simp) λhw X hX=>?_
 simp only [wfs,PV.wf,xaf,maxLen] at hw;have qe:=aI @zb2 (aI @zbR (aI @zio @zeB));refine gE2 ?_;refine zh (κ:=Nat) (λi=>⟨[(0,.p (.sl 6 (l.map Rsn.pv))),(1,.p (.sl 6 (l.map Rsn.pv))),(5,.p (.i .i64 i))],[],[],false⟩) (λi=>i<=l.length) (λi=>l.length - i) 0 ?_ ?_ ?_
 .exact sR
 .simp
 .intro i hi;refine gH (λhc=>?_) λhc=>?_
  .obtain ⟨x,hx⟩:=zj (i:=i) (l:=l) (by omega)
   have h31:=zuo x.holders x.holders;rw [decide_eq_true rfl] at h31;have qe:=vv qR @hx @zb2 @zbR (aI @zio (aI @zeB @xaC));have jA:=h31;refine gE2 ?_
   all_goals exact ⟨i+1,by omega,by omega,by simp⟩
  .exact gD2
def ybl:Pure prog 71 [.sl 6 [],.nilsl] (.b true):=ydi (yaI []) ⟨.refl _,.nilsl _,trivial⟩
def kyE (a b:Int) (g:Ky):Bool:=decide ((g.1:Int)=a) && decide (g.2=b)
def kyE_eq (a b:Int) (g:Ky):eqCells [PV.i .i64 a,.i .i64 b] [PV.i .i64 (g.1:Int),.i .i64 g.2]=kyE a b g:=by
 simp only [eqCells,eqPV,xbL];unfold kyE;rw [xbG];simp only [xau,decide_eq_true_eq]
 constructor
 .rintro ⟨x,y⟩;exact ⟨x.symm,y.symm⟩
 .rintro ⟨x,y⟩;exact ⟨x.symm,y.symm⟩
def yb7 (W:List Ky) (a b:Int):Pure prog 201 [.sl 2 (W.map kyP),.agg [.i .i64 a,.i .i64 b]] (.i .i64 (zdG (kyE a b) W)):=by
 refine pz func201 f201.eq_1 λhw X hX=>?_
 simp only [wfs,PV.wf,xaf,maxLen] at hw;refine gE2 ?_;refine zh (κ:=Nat) (λi=>⟨[(0,.p (.sl 2 (W.map kyP))),(3,.lp 3 0),(7,.p (.i .i64 W.length)),(8,.p (.i .i64 i))],[(3,.box [.p (.i .i64 a),.p (.i .i64 b)] false)],[],false⟩) (λi=>i<=W.length/\∀ y ∈ W.take i,kyE a b y=false) (λi=>W.length - i) 0 ?_ ?_ ?_
 .exact sS
 .simp
 .intro i hi;refine gH (λhc=>?_) λhc=>?_
  .obtain ⟨y,hy⟩:=zj (i:=i) (l:=W) (by omega)
   have hq:=kyE_eq a b y;cases hh:kyE a b y with
   | true=>
    rw [hh] at hq;have qe:=aI qR (aI @hy @hq);refine gE2 ?_
    all_goals
     rw [zbe hi.2 hy hh];exact .refl _
   | false=>
    rw [hh] at hq;have qe:=aI qR (aI @hy @hq);refine gE2 ?_
    all_goals exact ⟨i+1,⟨by omega,zd1 hi.2 hy hh⟩,by omega,by simp⟩
  .refine gE2 ?_;have e:i=W.length:=by omega
   subst e;rw [zct (λy hy=>hi.2 y (by rw [xas (by simp)];exact hy))];exact .refl _
def yaC (W:List Ky) (a b:Int):Pure prog 143 [.sl 2 (W.map kyP),.agg [.i .i64 a,.i .i64 b]] (.b (W.any (kyE a b))):=by
 have hd:=zeG (kyE a b) W;refine pz func143 f143.eq_1 λhw X hX=>?_
 have qe:=aI qR @hd;have jA:=yb7 W a b;exact gD2
def yb8 (A B:List ByteArray):Pure prog 144 [.sl 1 (A.map .s),.sl 1 (B.map .s)] (.b (decide (A=B))):=by
 refine pz func144 f144.eq_1 λhw X hX=>?_
 simp only [wfs,PV.wf,xaf,maxLen] at hw
 by_cases hl:A.length=B.length
 .have hl':=eq_true (show (A.length:Int)=(B.length:Int) by omega)
  have qe:=aI qR (aI @hl' (aI @decide_true @xaC));refine gE2 ?_;refine zh (κ:=Nat) (λi=>⟨[(0,.p (.sl 1 (A.map .s))),(1,.p (.sl 1 (B.map .s))),(12,.p (.i .i64 A.length)),(13,.p (.i .i64 i))],[],[],false⟩) (λi=>i<=A.length/\A.take i=B.take i) (λi=>A.length - i) 0 ?_ ?_ ?_
  .exact sS
  .simp
  .intro i hi;refine gH (λhc=>?_) λhc=>?_
   .obtain ⟨x,hx⟩:=zj (i:=i) (l:=A) (by omega)
    obtain ⟨y,hy⟩:=zj (i:=i) (l:=B) (by omega)
    by_cases hxy:x=y
    .have hxy':=eq_true hxy;have qe:=vv qR @hx @hy @hxy' (aI @decide_true @xaC);refine gE2 ?_
     all_goals exact ⟨i+1,⟨by omega,by rw [zE hx,zE hy,hi.2,hxy]⟩,by omega,by simp⟩
    .have hxy':=eq_false hxy;have e:decide (A=B)=false:=decide_eq_false λk=>hxy (by rw [k,hy] at hx;injection hx with hx;exact hx.symm)
     rw [e];have qe:=vv qR @hx @hy @hxy' (aI @decide_false @xax);exact gD2
   .have e:i=A.length:=by omega
    subst e;have e:decide (A=B)=true:=decide_eq_true (by
     have:=hi.2;rw [xah,hl,xah] at this;exact this)
    rw [e];exact gD2
 .have hl':=eq_false (show ¬(A.length:Int)=(B.length:Int) by omega)
  have e:decide (A=B)=false:=decide_eq_false λk=>hl (by rw [k])
  rw [e];have qe:=aI qR (aI @hl' (aI @decide_false @xax));exact gD2
def ybZ (hl:∀ l ∈ ls,zr l=0) (hn:ls.length<=1000) (hw:zgb ls) (h2:zav L=0) (hr:zc8 L R=0) (hu:u ∈ zq L) (o:Opt) (hb:BdM ls b 100000) (pr:Bool) (S:List Rsn) (hS:S.length<=1000000) (hr0:S.length<=n) (hn1:n<=1000000):zbk prog 142 [.lp 900 0,.p (unP u),.p (unP o),.lp 911 0,.lp 912 0,.lp 913 0,.lp 910 0,.lp 915 0] [(900,.box [.p (.sl 11 (ls.map Lim.pv)),.lm 901,.lm 902] false),(901,.mp (b.C.map cE) false),(902,.mp (b.G.map gE) false),(910,.box [.p (.sl 18 (L.map Wis.pv))] false),(911,.box [.p (.b pr)] false),(912,.box [.p (.i .i64 (n:Int))] false),(913,.box [.p (.sl 6 (S.map Rsn.pv))] false),(915,.box [.p (.sl 3 (R.map Res.pv))] false)] (.p (.b false)) [(900,.box [.p (.sl 11 (ls.map Lim.pv)),.lm 901,.lm 902] false),(901,.mp (b.C.map cE) false),(902,.mp (b.G.map gE) false),(910,.box [.p (.sl 18 (L.map Wis.pv))] false),(911,.box [.p (.b false)] false),(912,.box [.p (.i .i64 (n:Int))] false),(913,.box [.p (.sl 6 (S.map Rsn.pv))] false),(915,.box [.p (.sl 3 (R.map Res.pv))] false)]:=by
 have hns':=eq_true (show (S.length:Int)<=(n:Int) by omega)
 refine zD (cF func142 f142.eq_1) (by simp) (by simp [scPs,scP,zm]) (by simp [scObj,scPs,scP,zm]) ⟨rfl,rfl,rfl,rfl,rfl,rfl,rfl,rfl,trivial⟩ (by simp [scObj,scPs,scP,zm]) (by simp [zcQ,zm]) λX hX=>?_
 unfold zx ghO;have qe:=vv qR @qN @hns' @gLV.eq_1 (aI @gLV.eq_2 (aI @gLV.eq_5 (aI @rtN @rtR)));refine gE2 ?_
 all_goals exact .inl (.mkP (h2:=by simp only [qS,seval,keepG.eq_1,keepG.eq_2,gLV.eq_1,gLV.eq_2,gLV.eq_5]<;>simp) (hk:=by intro k hk;cases hk))
def ybY (hl:∀ l ∈ ls,zr l=0) (hn:ls.length<=1000) (hw:zgb ls) (h2:zav L=0) (hr:zc8 L R=0) (hu:u ∈ zq L) (o:Opt) (hb:BdM ls b 100000) (pr:Bool) (S:List Rsn) (hS:S.length<=1000000) (hr0:S[n]?=some r) (c1:¬r.name=nmW L u.1.toNat):zbk prog 142 [.lp 900 0,.p (unP u),.p (unP o),.lp 911 0,.lp 912 0,.lp 913 0,.lp 910 0,.lp 915 0] [(900,.box [.p (.sl 11 (ls.map Lim.pv)),.lm 901,.lm 902] false),(901,.mp (b.C.map cE) false),(902,.mp (b.G.map gE) false),(910,.box [.p (.sl 18 (L.map Wis.pv))] false),(911,.box [.p (.b pr)] false),(912,.box [.p (.i .i64 (n:Int))] false),(913,.box [.p (.sl 6 (S.map Rsn.pv))] false),(915,.box [.p (.sl 3 (R.map Res.pv))] false)] (.p (.b false)) [(900,.box [.p (.sl 11 (ls.map Lim.pv)),.lm 901,.lm 902] false),(901,.mp (b.C.map cE) false),(902,.mp (b.G.map gE) false),(910,.box [.p (.sl 18 (L.map Wis.pv))] false),(911,.box [.p (.b false)] false),(912,.box [.p (.i .i64 ((n+1:Nat):Int))] false),(913,.box [.p (.sl 6 (S.map Rsn.pv))] false),(915,.box [.p (.sl 3 (R.map Res.pv))] false)]:=by
 obtain ⟨i,a,ha,hcu⟩:=zb4 h2 hu;have hil:i < L.length:=(xaa.1 ha).1;have hu1:u.1=(i:Int):=by rcases hcu with rfl|⟨k,q,hk,hik,rfl⟩<;>rfl
 have hnw:nmW L u.1.toNat=a.req.name:=by rw [hu1,xam];unfold nmW;rw [ha]
 have hns:n < S.length:=(xaa.1 hr0).1;have hns':=eq_false (show ¬(S.length:Int)<=(n:Int) by omega)
 rw [hnw] at c1;have c1':=eq_false c1;obtain ⟨o1,o2⟩:=o;obtain ⟨u1,u2⟩:=u;simp only at hu1;subst hu1;refine zD (cF func142 f142.eq_1) (by simp) (by simp [scPs,scP,zm]) (by simp [scObj,scPs,scP,zm]) ⟨rfl,rfl,rfl,rfl,rfl,rfl,rfl,rfl,trivial⟩ (by simp [scObj,scPs,scP,zm]) (by simp [zcQ,zm]) λX hX=>?_
 unfold zx ghO;have qe:=vv qR @qN @hns' @hr0 (vv @ha @hil @c1' @tn1 (vv @tn4 @decide_false @xax @gLV.eq_1 (aI @gLV.eq_2 (aI @gLV.eq_5 (aI @rtN @rtR)))));have jA:=nm 86 (.sl 7 []);have jB:=nm 83 (.sl 2 []);have jC:=nm 143 (.b false);refine gE5 ?_
 all_goals exact .inl (.mkP (h2:=by simp only [qS,seval,keepG.eq_1,keepG.eq_2,gLV.eq_1,gLV.eq_2,gLV.eq_5]<;>simp) (hk:=by intro k hk;cases hk))
def ybX (hl:∀ l ∈ ls,zr l=0) (hn:ls.length<=1000) (hw:zgb ls) (h2:zav L=0) (hr:zc8 L R=0) (hu:u ∈ zq L) (o:Opt) (hb:BdM ls b 100000) (pr:Bool) (S:List Rsn) (hS:S.length<=1000000) (hr0:S[n]?=some r) (c1:r.name=nmW L u.1.toNat) (c2:¬(r.minute,r.other)=o):zbk prog 142 [.lp 900 0,.p (unP u),.p (unP o),.lp 911 0,.lp 912 0,.lp 913 0,.lp 910 0,.lp 915 0] [(900,.box [.p (.sl 11 (ls.map Lim.pv)),.lm 901,.lm 902] false),(901,.mp (b.C.map cE) false),(902,.mp (b.G.map gE) false),(910,.box [.p (.sl 18 (L.map Wis.pv))] false),(911,.box [.p (.b pr)] false),(912,.box [.p (.i .i64 (n:Int))] false),(913,.box [.p (.sl 6 (S.map Rsn.pv))] false),(915,.box [.p (.sl 3 (R.map Res.pv))] false)] (.p (.b false)) [(900,.box [.p (.sl 11 (ls.map Lim.pv)),.lm 901,.lm 902] false),(901,.mp (b.C.map cE) false),(902,.mp (b.G.map gE) false),(910,.box [.p (.sl 18 (L.map Wis.pv))] false),(911,.box [.p (.b false)] false),(912,.box [.p (.i .i64 ((n+1:Nat):Int))] false),(913,.box [.p (.sl 6 (S.map Rsn.pv))] false),(915,.box [.p (.sl 3 (R.map Res.pv))] false)]:=by
 obtain ⟨i,a,ha,hcu⟩:=zb4 h2 hu;have hil:i < L.length:=(xaa.1 ha).1;have hu1:u.1=(i:Int):=by rcases hcu with rfl|⟨k,q,hk,hik,rfl⟩<;>rfl
 have hnw:nmW L u.1.toNat=a.req.name:=by rw [hu1,xam];unfold nmW;rw [ha]
 have hns:n < S.length:=(xaa.1 hr0).1;have hns':=eq_false (show ¬(S.length:Int)<=(n:Int) by omega)
 rw [hnw] at c1;have c1':=eq_true c1;obtain ⟨o1,o2⟩:=o;obtain ⟨u1,u2⟩:=u;simp only at hu1;subst hu1;have hq:=zBd r.minute r.other o1 o2;rw [decide_eq_false λk=>c2 k.symm] at hq
 refine zD (cF func142 f142.eq_1) (by simp) (by simp [scPs,scP,zm]) (by simp [scObj,scPs,scP,zm]) ⟨rfl,rfl,rfl,rfl,rfl,rfl,rfl,rfl,trivial⟩ (by simp [scObj,scPs,scP,zm]) (by simp [zcQ,zm]) λX hX=>?_
 unfold zx ghO;have qe:=vv qR @qN @hns' @hr0 (vv @ha @hil @c1' @hq (vv @tn1 @tn4 @decide_true @xaC (vv @xax @gLV.eq_1 @gLV.eq_2 @gLV.eq_5 (aI @rtN @rtR))));have jA:=nm 86 (.sl 7 []);have jB:=nm 83 (.sl 2 []);have jC:=nm 143 (.b false);refine gE5 ?_
 all_goals exact .inl (.mkP (h2:=by simp only [qS,seval,keepG.eq_1,keepG.eq_2,gLV.eq_1,gLV.eq_2,gLV.eq_5]<;>simp) (hk:=by intro k hk;cases hk))
def ybW (hl:∀ l ∈ ls,zr l=0) (hn:ls.length<=1000) (hw:zgb ls) (h2:zav L=0) (hr:zc8 L R=0) (hu:u ∈ zq L) (o:Opt) (hb:BdM ls b 100000) (pr:Bool) (S:List Rsn) (hS:S.length<=1000000) (hr0:S[n]?=some r) (c1:r.name=nmW L u.1.toNat) (c2:(r.minute,r.other)=o) (hx:rfW ls b (zan L u o)=W) (hWl:W.length<=1000000000) (c3:W.any (kyE r.lim r.win)=false):zbk prog 142 [.lp 900 0,.p (unP u),.p (unP o),.lp 911 0,.lp 912 0,.lp 913 0,.lp 910 0,.lp 915 0] [(900,.box [.p (.sl 11 (ls.map Lim.pv)),.lm 901,.lm 902] false),(901,.mp (b.C.map cE) false),(902,.mp (b.G.map gE) false),(910,.box [.p (.sl 18 (L.map Wis.pv))] false),(911,.box [.p (.b pr)] false),(912,.box [.p (.i .i64 (n:Int))] false),(913,.box [.p (.sl 6 (S.map Rsn.pv))] false),(915,.box [.p (.sl 3 (R.map Res.pv))] false)] (.p (.b false)) [(900,.box [.p (.sl 11 (ls.map Lim.pv)),.lm 901,.lm 902] false),(901,.mp ((rfB ls b (zan L u o)).C.map cE) false),(902,.mp ((rfB ls b (zan L u o)).G.map gE) false),(910,.box [.p (.sl 18 (L.map Wis.pv))] false),(911,.box [.p (.b false)] false),(912,.box [.p (.i .i64 ((n+1:Nat):Int))] false),(913,.box [.p (.sl 6 (S.map Rsn.pv))] false),(915,.box [.p (.sl 3 (R.map Res.pv))] false)]:=by
 obtain ⟨i,a,ha,hcu⟩:=zb4 h2 hu;have hil:i < L.length:=(xaa.1 ha).1;have hu1:u.1=(i:Int):=by rcases hcu with rfl|⟨k,q,hk,hik,rfl⟩<;>rfl
 have hnw:nmW L u.1.toNat=a.req.name:=by rw [hu1,xam];unfold nmW;rw [ha]
 have hns:n < S.length:=(xaa.1 hr0).1;have hns':=eq_false (show ¬(S.length:Int)<=(n:Int) by omega)
 rw [hnw] at c1;have c1':=eq_true c1;have h86:=zaR h2 hu o;have hml:=za1 L u o;have h83:=zbN hl hn hw hb.ok hb.cnt (own:=zan L u o) (λy hy=>zaH hy) (by omega) (by omega)
 rw [hx] at h83;have h43:=yaC W r.lim r.win;rw [c3] at h43;generalize rfB ls b (zan L u o)=b2 at *;obtain ⟨o1,o2⟩:=o;obtain ⟨u1,u2⟩:=u;simp only at hu1;subst hu1;have hq:=zBd r.minute r.other o1 o2;rw [decide_eq_true c2.symm] at hq;refine zD (cF func142 f142.eq_1) (by simp) (by simp [scPs,scP,zm]) (by simp [scObj,scPs,scP,zm]) ⟨rfl,rfl,rfl,rfl,rfl,rfl,rfl,rfl,trivial⟩ (by simp [scObj,scPs,scP,zm]) (by simp [zcQ,zm]) λX hX=>?_
 unfold zx ghO;have qe:=vv qR @qN @hns' @hr0 (vv @ha @hil @c1' @hq (vv @tn1 @tn4 @decide_true @xaC (vv @xax @gLV.eq_1 @gLV.eq_2 @gLV.eq_5 (aI @rtN @rtR))));repeat' first|refine gC ?_ ?_<;>intro hc<;>try contradiction|refine zg (λ_=>h86) ?_|refine zb8 [] (h83) ?_|refine zg (λ_=>h43) ?_|refine gG ?_|show AK _;intro J Z|refine gJ ?_|omega|exact aT
 all_goals exact .inl (.mkP (h2:=by simp only [qS,seval,keepG.eq_1,keepG.eq_2,gLV.eq_1,gLV.eq_2,gLV.eq_5]<;>simp) (hk:=by intro k hk;cases hk))
def yao (hl:∀ l ∈ ls,zr l=0) (hn:ls.length<=1000) (hw:zgb ls) (h2:zav L=0) (hr:zc8 L R=0) (hu:u ∈ zq L) (o:Opt) (hb:BdM ls b 100000) (pr:Bool) (S:List Rsn) (hS:S.length<=1000000) (hr0:S[n]?=some r) (c1:r.name=nmW L u.1.toNat) (c2:(r.minute,r.other)=o) (hx:rfW ls b (zan L u o)=W) (hWl:W.length<=1000000000) (c3:W.any (kyE r.lim r.win)=true) {g:Ky} (hg1:(g.1:Int)=r.lim) (hg2:g.2=r.win) {l:Lim} (hk:ls[g.1]?=some l) (hwb:-1000000000<=g.2/\g.2<=1000000000) {hb2:Bool} (hh:decide (r.holders=zlF ls L R g λj=>decide ((zY L j:Int) < u.1))=hb2):zbk prog 142 [.lp 900 0,.p (unP u),.p (unP o),.lp 911 0,.lp 912 0,.lp 913 0,.lp 910 0,.lp 915 0] [(900,.box [.p (.sl 11 (ls.map Lim.pv)),.lm 901,.lm 902] false),(901,.mp (b.C.map cE) false),(902,.mp (b.G.map gE) false),(910,.box [.p (.sl 18 (L.map Wis.pv))] false),(911,.box [.p (.b pr)] false),(912,.box [.p (.i .i64 (n:Int))] false),(913,.box [.p (.sl 6 (S.map Rsn.pv))] false),(915,.box [.p (.sl 3 (R.map Res.pv))] false)] (.p (.b hb2)) [(900,.box [.p (.sl 11 (ls.map Lim.pv)),.lm 901,.lm 902] false),(901,.mp ((rfB ls b (zan L u o)).C.map cE) false),(902,.mp ((rfB ls b (zan L u o)).G.map gE) false),(910,.box [.p (.sl 18 (L.map Wis.pv))] false),(911,.box [.p (.b hb2)] false),(912,.box [.p (.i .i64 ((n+1:Nat):Int))] false),(913,.box [.p (.sl 6 (S.map Rsn.pv))] false),(915,.box [.p (.sl 3 (R.map Res.pv))] false)]:=by
 obtain ⟨i,a,ha,hcu⟩:=zb4 h2 hu;have hil:i < L.length:=(xaa.1 ha).1;have hu1:u.1=(i:Int):=by rcases hcu with rfl|⟨k,q,hk,hik,rfl⟩<;>rfl
 have hnw:nmW L u.1.toNat=a.req.name:=by rw [hu1,xam];unfold nmW;rw [ha]
 have hns:n < S.length:=(xaa.1 hr0).1;have hns':=eq_false (show ¬(S.length:Int)<=(n:Int) by omega)
 rw [hnw] at c1;have c1':=eq_true c1;have hn64:=(zR h2).1;have h86:=zaR h2 hu o;have hml:=za1 L u o;have h83:=zbN hl hn hw hb.ok hb.cnt (own:=zan L u o) (λy hy=>zaH hy) (by omega) (by omega)
 rw [hx] at h83;have h43:=yaC W r.lim r.win;rw [c3] at h43;have h01:=zmD L h2 u;have h41:=zv1 hl (rfB ls b (zan L u o)).C (rfB ls b (zan L u o)).G hk hwb (zbZ hr).1 (by omega) (f:=174) (caps:=[.ip (.sl 1 ((zdT L).map (.i .i64))) 0,.ip (unP u) 0]) (p:=λj=>decide ((zY L j:Int) < u.1)) (λj hj=>zmw L u hj)
 have h44:=yb8 r.holders (zlF ls L R g λj=>decide ((zY L j:Int) < u.1))
 rw [hh] at h44;rw [show kyP g=.agg [.i .i64 r.lim,.i .i64 r.win] by rw [<-hg1,<-hg2]] at h41
 generalize rfB ls b (zan L u o)=b2 at *;generalize zlF ls L R g (λj=>decide ((zY L j:Int) < u.1))=H at *
 obtain ⟨o1,o2⟩:=o;obtain ⟨u1,u2⟩:=u;simp only at hu1;subst hu1;have hq:=zBd r.minute r.other o1 o2;rw [decide_eq_true c2.symm] at hq;refine zD (cF func142 f142.eq_1) (by simp) (by simp [scPs,scP,zm]) (by simp [scObj,scPs,scP,zm]) ⟨rfl,rfl,rfl,rfl,rfl,rfl,rfl,rfl,trivial⟩ (by simp [scObj,scPs,scP,zm]) (by simp [zcQ,zm]) λX hX=>?_
 unfold zx ghO;have qe:=vv qR @qN @hns' @hr0 (vv @ha @hil @c1' @hq (vv @tn1 @tn4 @decide_true @xaC (vv @xax @gLV.eq_1 @gLV.eq_2 @gLV.eq_5 (aI @rtN @rtR))));repeat' first|refine gC ?_ ?_<;>intro hc<;>try contradiction|refine zg (λ_=>h86) ?_|refine zb8 [] (h83) ?_|refine zg (λ_=>h43) ?_|refine za h01 ?_|refine zf [] (h41) ?_|refine za h44 ?_|refine gG ?_|show AK _;intro J Z|refine gJ ?_|omega|exact aT
 all_goals exact .inl (.mkP (h2:=by simp only [qS,seval,keepG.eq_1,keepG.eq_2,gLV.eq_1,gLV.eq_2,gLV.eq_5]<;>simp) (hk:=by intro k hk;cases hk))
def allHs (l:List ByteArray):l.all ((λx=>x.cells.all PV.one) ∘ PV.s)=true:=by rw [xaO];intro x _;rfl
def yce (S:List Rsn) (hn:S.length*72<=140737488355328) (hH:∀ r ∈ S,r.holders.length*16<=140737488355328):Pure prog 67 [.sl 6 (S.map Rsn.pv)] (.sl 6 (S.map Rsn.pv)):=by
 refine pz func67 f67.eq_1 λhw X hX=>?_
 have qe:=@qR;refine gE2 ?_;refine run_ownL 100 113 6 (κ:=Nat) (λk=>⟨[(3,.row 100 (S.take k).length),(6,.p (.sl 6 (S.map Rsn.pv))),(7,.p (.i .i64 S.length)),(8,.p (.i .i64 k))],[(100,.row 113 6 ((S.take k).map Rsn.pv) false)],[],false⟩) (λk=>k<=S.length) (λk=>S.length - k) 0 ?_ ?_ ?_
 .refine ⟨gO ?_,gO ?_⟩<;>simp
 .simp
 .intro k hk;refine gH (λhc=>?_) λhc=>?_
  .obtain ⟨r,hx⟩:=zj (i:=k) (l:=S) (by omega)
   have hlt:=zfJ hx;have hkl:(S.take k).length=k:=by rw [xan];omega
   have hr:=hH r (xae hx);refine zen ?_;refine (show Run _ (.seq (.block 1 (.seq (.ops false _) _)) _) _ _ from zbC (zdi (zbC (zar (zw ?_)))))
   have qe:=aI qR (aI @hx @hkl);(first|refine gG ?_|show AK _;intro J Z|refine gJ ?_|omega|exact aT)
   refine zbC (zar (zbP 4 ?_));simp only [xa3,xbb,xbz,xbw];have qe:=aI qR (aI @hx (aI @hkl @allHs));refine gE2 ?_;refine zag (zaz 15 (.sl 1 (r.holders.map .s)) (sR) (by first|trivial|simp) (.refl _)) ?_
   rintro _ rfl;refine zw ?_;have qe:=aI qR (aI @hx (aI @hkl @allRs));refine gE2 ?_
   all_goals exact ⟨k+1,by omega,by omega,by rw [zE hx];simp [hkl],by rw [zE hx];simp⟩
  .have e:k=S.length:=by omega
   subst e;rw [xah];exact gD2
def y4 (l:List Int):Pure prog 19 [.sl 1 (l.map (.i .i64))] (.i .i64 (zn l)):=by
 refine pz func19 f19.eq_1 λhw X hX=>?_
 simp only [wfs,PV.wf,xaf,maxLen] at hw;refine gE2 ?_;refine zh (κ:=Nat) (λi=>⟨[(0,.p (.sl 1 (l.map (.i .i64)))),(3,.p (.i .i64 i))],[],[],false⟩) (λi=>i<=l.length/\∀ x ∈ l.take i,x=0) (λi=>l.length - i) 0 ?_ ?_ ?_
 .exact sR
 .simp
 .intro i hi;refine gH (λhc=>?_) λhc=>?_
  .obtain ⟨x,hx⟩:=zj (i:=i) (l:=l) (by omega)
   have qe:=@hx;refine gF2 (λhc=>?_) λhc=>?_
   .rw [zbr hi.2 hx hc];exact .refl _
   .exact ⟨i+1,⟨by omega,zb0 hi.2 hx hc⟩,by omega,by simp⟩
  .refine gE2 ?_;have e:i=l.length:=by omega
   subst e;rw [zbj hi.2];exact .refl _
def yb9 (s:ByteArray):Pure prog 116 [.s s] (.i .i64 (zo6 s)):=by
 refine pz func116 f116.eq_1 λhw X hX=>?_
 by_cases h1:s=s0
 .have h1':=eq_true h1;have e:zo6 s=0:=yaP (.inl h1);rw [e];have qe:=aI qR (aI @h1' @xaC);have jA:=yI s;exact gD2
 .have h1':=eq_false h1;cases h2:zcs s with
  | true=>
   have h70:=yI s;rw [h2] at h70;have e:zo6 s=0:=yaP (.inr h2);rw [e];have qe:=aI qR (aI @h1' (aI @xax @xaC));have jA:=h70;exact gD2
  | false=>
   have h70:=yI s;rw [h2] at h70;have e:zo6 s=8:=ybx ⟨h1,h2⟩;rw [e];have qe:=aI qR (aI @h1' @xax);have jA:=h70;exact gD2
def yX (n a b:Int):Pure prog 117 [.i .i64 n,.i .i64 a,.i .i64 b] (.i .i64 (rng n a b)):=by
 refine pz func117 f117.eq_1 λhw X hX=>?_
 refine gF2 (λhc=>?_) λhc=>?_
 .rw [ydd (by omega)];exact .refl _
 .rw [zdR.2 (by omega)];exact .refl _
def yj (w:Wis) (hs:1<=w.step/\w.step<=120) (h1:w.ear<=w.req.minute) (h2:w.req.minute<=w.lat) (he:0<=w.ear) (hl:w.lat<=1439):Pure prog 47 [w.pv] (.sl 1 ((zac w).map (.i .i64))):=by
 rw [canW_R hs.1 h1 h2 he hl];have hk:=kS_lt hs.1;have hkb:∀ j:Nat,(j:Int)<=j*w.step:=λj=>by
  have:=Int.mul_le_mul_of_nonneg_left hs.1 (show (0:Int)<=j by omega)
  omega
 refine pz func47 f47.eq_1 λhw X hX=>?_
 have qe:=@qR;refine gE2 ?_;refine run_ownL 100 3 1 (κ:=Nat) (λj=>⟨[(1,.lp 1 0),(3,.row 100 (yaw w.req.minute w.ear w.lat w.step j).length),(4,.p (.i .i64 (j*w.step)))],[(1,.box (w.cells.map .p) false),(100,.row 3 1 ((yaw w.req.minute w.ear w.lat w.step j).map (.i .i64)) false)],[],false⟩) (λj=>j<=kS w.step) (λj=>kS w.step - j) 0 ?_ ?_ ?_
 .refine ⟨gO ?_,gO ?_⟩<;>simp [yaw]
 .simp
 .intro j hj;have hj2:=hk j;have hjb:=hkb j;have hn:=ybP w.req.minute w.ear w.lat w.step j;have hcl:=ycM w.req.minute w.ear w.lat w.step j;have hm1:((j+1:Nat):Int)*w.step=j*w.step+w.step:=by push_cast;rw [Int.add_mul];omega
  generalize hd:(j:Int)*w.step=d at *;refine gH (λhc=>?_) λhc=>?_
  .have hjk:j < kS w.step:=hj2.2 hc;have hd0:0<=d:=by omega
   by_cases a1:w.ear<=w.req.minute - d
   .have a1':=eq_true a1
    by_cases a2:0 < d
    .have a2':=eq_true a2
     by_cases a3:w.req.minute+d<=w.lat
     .have a3':=eq_true a3;have e:yab w.req.minute w.ear w.lat w.step j=[w.req.minute - d,w.req.minute+d]:=by unfold yab;rw [hd,if_pos a1,if_pos ⟨a2,a3⟩];rfl
      rw [e] at hn;have qe:=vv qR @a1' @a2' @a3' @decide_true;refine gE2 ?_;exact ⟨j+1,by omega,by omega,by rw [hn,hm1];simp,by rw [hn];simp⟩
     .have a3':=eq_false a3;have e:yab w.req.minute w.ear w.lat w.step j=[w.req.minute - d]:=by unfold yab;rw [hd,if_pos a1,if_neg (λh=>a3 h.2)];rfl
      rw [e] at hn;have qe:=vv qR @a1' @a2' @a3' yDF;refine gE2 ?_;exact ⟨j+1,by omega,by omega,by rw [hn,hm1];simp,by rw [hn];simp⟩
    .have a2':=eq_false a2;have e:yab w.req.minute w.ear w.lat w.step j=[w.req.minute - d]:=by unfold yab;rw [hd,if_pos a1,if_neg (λh=>a2 h.1)];rfl
     rw [e] at hn;have qe:=aI qR (aI @a1' (aI @a2' yDF));refine gE2 ?_;exact ⟨j+1,by omega,by omega,by rw [hn,hm1];simp,by rw [hn];simp⟩
   .have a1':=eq_false a1;have a2:0 < d:=by omega
    have a2':=eq_true a2
    by_cases a3:w.req.minute+d<=w.lat
    .have a3':=eq_true a3;have e:yab w.req.minute w.ear w.lat w.step j=[w.req.minute+d]:=by unfold yab;rw [hd,if_neg a1,if_pos ⟨a2,a3⟩];rfl
     rw [e] at hn;have qe:=vv qR @a1' @a2' @a3' yDF;refine gE2 ?_;exact ⟨j+1,by omega,by omega,by rw [hn,hm1];simp,by rw [hn];simp⟩
    .have a3':=eq_false a3;have e:yab w.req.minute w.ear w.lat w.step j=[]:=by unfold yab;rw [hd,if_neg a1,if_neg (λh=>a3 h.2)];rfl
     rw [e,xar] at hn;have qe:=vv qR @a1' @a2' @a3' yDF;refine gE2 ?_;exact ⟨j+1,by omega,by omega,by rw [hn,hm1];simp,by rw [hn]⟩
  .have e:j=kS w.step:=by
    have:¬j < kS w.step:=λh=>by
     have:=hj2.1 h
     omega
    omega
   subst e;exact gD2
def ya5 {e:Int} {r r':List Int} (h:zn r=zn r'):zn (e::r)=zn (e::r'):=by
 by_cases k:e=0
 .rw [zro k,zro k,h]
 .rw [zlL k,zlL k]
def wisE_g (w:Wis):zfI w=zn [zbY w.req,zfA w.req.carrier,zn [zo6 w.req.partner,zo6 w.req.link,rng w.ear 0 1439,rng w.lat 0 1439],if w.req.minute < w.ear\/w.lat < w.req.minute then 11 else 0,rng w.step 1 120,if 96 < (zg2 w.req.minute w.ear w.lat w.step:Int) then 22 else 0,zn [rng w.least 0 1440,rng w.most 0 1440],if w.most < w.least then 11 else 0]:=
 ya5 (ya5 ((yc1 [_,_,_,_] _).symm.trans (ya5 (ya5 (ya5 (ya5 (yc1 [_,_] _).symm))))))
def yC (w:Wis):Pure prog 34 [w.pv] (.i .i64 (zfI w)):=by
 rw [wisE_g];refine pz func34 f34.eq_1 λhwf X hX=>?_
 have qe:=@qR;repeat' first|refine za (pure20 w.req) ?_|refine gG ?_|show AK _;intro J Z|refine gJ ?_|omega|exact aT
 (refine gC ?_ ?_<;>intro hc<;>try contradiction)
 .rw [zlL hc];have qe:=@qR;exact gD2
 have c1:zbY w.req=0:=hc;rw [zro c1];clear hc;have qe:=@qR;repeat' first|refine za (yI _) ?_|refine gG ?_|show AK _;intro J Z|refine gJ ?_|omega|exact aT
 (refine gC ?_ ?_<;>intro hc<;>try contradiction)
 .rw [zlL (by rw [y7 hc];decide),y7 hc]
  have qe:=@qR;exact gD2
 have c2:zcs w.req.carrier=true:=hc;rw [zro (yas c2)];clear hc;have qe:=@qR;repeat' first|refine za (yb9 _) ?_|refine za (yX _ _ _) ?_|refine za (y4 [_,_,_,_]) ?_|refine gG ?_|show AK _;intro J Z|refine gJ ?_|omega|exact aT
 (refine gC ?_ ?_<;>intro hc<;>try contradiction)
 .rw [zlL hc];have qe:=@qR;exact gD2
 have c3:zn [zo6 w.req.partner,zo6 w.req.link,rng w.ear 0 1439,rng w.lat 0 1439]=0:=hc;rw [zro c3];clear hc;obtain ⟨_,q⟩:=zi.1 c3;obtain ⟨_,q⟩:=zi.1 q;obtain ⟨p3,q⟩:=zi.1 q;obtain ⟨p4,_⟩:=zi.1 q;rw [zdR] at p3 p4;have qe:=@qR;repeat' first|refine gG ?_|show AK _;intro J Z|refine gJ ?_|omega|exact aT
 (refine gC ?_ ?_<;>intro hc<;>try contradiction)
 .rw [if_pos hc,zlL (e:=11) (by decide)]
  have qe:=@qR;exact gD2
 have c4:¬(w.req.minute < w.ear\/w.lat < w.req.minute):=by omega
 rw [if_neg c4,zro (e:=0) rfl];clear hc;have qe:=@qR;repeat' first|refine za (yX _ _ _) ?_|refine gG ?_|show AK _;intro J Z|refine gJ ?_|omega|exact aT
 (refine gC ?_ ?_<;>intro hc<;>try contradiction)
 .rw [zlL (show rng w.step 1 120≠0 from λk=>hc (zdR.1 k))]
  have qe:=@qR;exact gD2
 have c5:rng w.step 1 120=0:=zdR.2 hc;rw [zro c5];rw [zdR] at c5;clear hc;have h47:=yj w c5 (by omega) (by omega) p3.1 p4.2
 have hlen:=yaa w;rw [<-hlen];have qe:=@qR;repeat' first|refine za h47 ?_|refine gG ?_|show AK _;intro J Z|refine gJ ?_|omega|exact aT
 (refine gC ?_ ?_<;>intro hc<;>try contradiction)
 .rw [if_pos hc,zlL (e:=22) (by decide)]
  have qe:=@qR;exact gD2
 rw [if_neg (by omega),zro (e:=0) rfl]
 clear hc;have qe:=@qR;repeat' first|refine za (yX _ _ _) ?_|refine za (y4 [_,_]) ?_|refine gG ?_|show AK _;intro J Z|refine gJ ?_|omega|exact aT
 (refine gC ?_ ?_<;>intro hc<;>try contradiction)
 .rw [zlL hc];have qe:=@qR;exact gD2
 rw [zro hc,zwE];clear hc;have qe:=@qR;repeat' first|refine gG ?_|show AK _;intro J Z|refine gJ ?_|omega|exact aT
 (refine gC ?_ ?_<;>intro hc<;>try contradiction)
 .rw [if_pos hc];have qe:=@qR;exact gD2
 .rw [if_neg (by omega)]
  have qe:=@qR;exact gD2
def yB (L:List Wis) (n:ByteArray):Pure prog 39 [.sl 18 (L.map Wis.pv),.s n] (.i .i64 (zeH n L)):=by
 refine pz func39 f39.eq_1 λhw X hX=>?_
 simp only [wfs,PV.wf,xaf,maxLen] at hw;refine gE2 ?_;refine zh (κ:=Nat) (λi=>⟨[(0,.p (.sl 18 (L.map Wis.pv))),(1,.p (.s n)),(5,.p (.i .i64 i))],[],[],false⟩) (λi=>i<=L.length/\∀ x ∈ (zkG L).take i,x≠n) (λi=>L.length - i) 0 ?_ ?_ ?_
 .exact sR
 .simp
 .intro i hi;refine gH (λhc=>?_) λhc=>?_
  .obtain ⟨x,hx⟩:=zj (i:=i) (l:=L) (by omega)
   have hm:(zkG L)[i]?=some x.req.name:=by unfold zkG;rw [xal,hx];rfl
   have qe:=@hx;refine gF2 (λhc=>?_) λhc=>?_
   .rw [zeH,zr8 hi.2 (by rw [hm,hc])];exact .refl _
   .refine ⟨i+1,⟨by omega,λy hy=>?_⟩,by omega,by simp⟩
    rw [zE hm] at hy
    rcases xaS.1 hy with h|h
    .exact hi.2 y h
    .simp at h;subst h;exact hc
  .refine gE2 ?_;have e:i=(zkG L).length:=by unfold zkG;rw [xaf];omega
   subst e;rw [zeH,zsa (λy hy=>hi.2 y (by rw [xah];exact hy))];exact .refl _
def ye (L:List Wis) (hi:i < L.length):Pure prog 40 [.sl 18 (L.map Wis.pv),.i .i64 i] (.i .i64 (zau L i)):=by
 obtain ⟨w,hw⟩:=zj hi;have e:zau L i=if w.req.link=s0 then -1 else zeH w.req.link L:=by unfold zau zuE;rw [hw]
 rw [e];refine pz func40 f40.eq_1 λhwf X hX=>?_
 by_cases h:w.req.link=s0
 .have h':=eq_true h;rw [if_pos h];have qe:=aI qR (aI @hw @h');have jA:=yB L w.req.link;exact gD2
 .have h':=eq_false h;rw [if_neg h];have qe:=aI qR (aI @hw @h');have jA:=yB L w.req.link;exact gD2
def yaH (L:List Wis) (hi:i < L.length):Pure prog 93 [.sl 18 (L.map Wis.pv),.i .i64 i] (.b (decide (zau L i < 0) || decide ((i:Int) < zau L i))):=by
 refine pz func93 f93.eq_1 λhwf X hX=>?_
 have qe:=@qR;have jA:=ye L hi;exact gD2
def yaB (n:Int) (h:-1000000000<=n/\n<=1000000000):Pure prog 173 [.i .i64 n] (.i .i64 (zdV n)):=by
 refine pz func173 f173.eq_1 λhwf X hX=>?_
 have qe:=@qR;refine gF2 (λhc=>?_) λhc=>?_
 .exact weakI (by unfold zdV;omega)
 .exact weakI (by unfold zdV;omega)
def yag (a b:Wis) (x y:Int) (hx:-10000<=x/\x<=10000) (hy:-10000<=y/\y<=10000) (hk:a.req.kind≠sD):Pure prog 133 [a.pv,b.pv,.i .i64 x,.i .i64 y] (.b (ze8 a b x y)):=by
 have hk':=eq_false hk;have e:ze8 a b x y=(decide (a.least<=y - x) && decide (y - x<=a.most)):=by unfold ze8;rw [if_neg hk]
 rw [e];refine pz func133 f133.eq_1 λhwf X hX=>?_
 have qe:=aI qR @hk';exact gD2
def yaD (a b:Wis) (x y:Int) (hx:-10000<=x/\x<=10000) (hy:-10000<=y/\y<=10000) (hk:a.req.kind=sD->b.req.kind≠sD):Pure prog 133 [a.pv,b.pv,.i .i64 x,.i .i64 y] (.b (ze8 a b x y)):=by
 by_cases h:a.req.kind=sD
 .have h':=eq_true h;have h33:=yag b a y x hy hx (hk h);have e:ze8 a b x y=ze8 b a y x:=by
   unfold ze8;rw [if_pos h,if_neg (hk h)]
  rw [e];refine pz func133 f133.eq_1 λhwf X hX=>?_
  have qe:=aI qR @h';have jA:=h33;exact gD2
 .exact yag a b x y hx hy h
def rt1:0+Int.toNat 1*1=1:=rfl
def rt4:0+Int.toNat 0*1=0:=rfl
def yq (w:Wis) (m:Int) (h:zbY w.req=0) (hm:0<=m/\m<=1439):Pure prog 64 [w.pv,.i .i64 m] (.sl 7 ((zbF (w.req.at m)).map Mov.pv)):=by
 have hq:=ybN h hm.1 hm.2;have e:zbF (w.req.at m)=zhk (w.req.at m):=by unfold zbF;rw [if_pos hq]
 rw [e];refine pz func64 f64.eq_1 λhw X hX=>?_
 have qe:=@qR;have jA:=ydl w.req m;have jB:=pure21 (w.req.at m) hq;exact gD2
def yQ (L:List Wis) (x y:Int) (j:Nat):Bool:=decide ((zY L j:Int) < x) && decide ((zY L j:Int)≠y)
def y3 (h:zav L=0) (hR:RsOk L R) (x y:Int):Pure prog 53 [.sl 18 (L.map Wis.pv),.sl 3 (R.map Res.pv),.i .i64 x,.i .i64 y] (.sl 7 ((zlk L R (yQ L x y)).map Mov.pv)):=by
 obtain ⟨hn,hR⟩:=hR;have hn64:=(zR h).1;refine pz func53 f53.eq_1 λhw X hX=>?_
 have qe:=@qR;refine gE2 ?_;refine yaf (κ:=Nat) (λk=>⟨[(0,.p (.sl 18 (L.map Wis.pv))),(1,.p (.sl 3 (R.map Res.pv))),(2,.p (.i .i64 x)),(3,.p (.i .i64 y)),(9,.p (.sl 7 (((List.range k).foldl (plcF L R (yQ L x y)) []).map Mov.pv))),(10,.p (.i .i64 k))],[],[],false⟩) (λk=>k<=L.length) (λk=>L.length - k) 0 ?_ ?_ ?_
 .refine .x 9 (.sl 7 []) ?_;exact .cov (sS)
 .simp
 .intro k hk;have hpl:=yaN L R (yQ L x y) k;have hnx:(List.range (k+1)).foldl (plcF L R (yQ L x y)) []=plcF L R (yQ L x y) ((List.range k).foldl (plcF L R (yQ L x y)) []) k:=by rw [xbd,xaP];rfl
  have hend:k=L.length->(List.range k).foldl (plcF L R (yQ L x y)) []=zlk L R (yQ L x y):=λe=>by rw [e];rfl
  generalize (List.range k).foldl (plcF L R (yQ L x y)) []=P at *;refine gH (λhc=>?_) λhc=>?_
  .obtain ⟨w,hx⟩:=zj (i:=k) (l:=L) (by omega)
   obtain ⟨r,hr⟩:=zj (i:=k) (l:=R) (by omega)
   have hil:k < L.length:=by omega
   have h40:=ye L hil;have hwq:=(yu (yb h hx)).1;have hmw:zfB L k r.minute=zbF (w.req.at r.minute):=by unfold zfB;rw [hx]
   have hml:=y8 L k r.minute;have hst:plcF L R (yQ L x y) P k=if (r.gr && yQ L x y k)=true then zhC zjb P (zfB L k r.minute) else P:=by unfold plcF;rw [hr]
   rw [hst] at hnx;clear hst;have qe:=@qR;repeat' first|refine za h40 ?_|refine gG ?_|show AK _;intro J Z|refine gJ ?_|omega|exact aT
   refine ybf ⟨[(0,.p (.sl 18 (L.map Wis.pv))),(1,.p (.sl 3 (R.map Res.pv))),(2,.p (.i .i64 x)),(3,.p (.i .i64 y)),(9,.p (.sl 7 (P.map Mov.pv))),(10,.p (.i .i64 k)),(12,.p (.i .i64 (zY L k)))],[],[],false⟩ ?_ ?_
   ·(refine gC ?_ ?_<;>intro hc<;>try contradiction)
    .have hle:(zY L k:Int)=zau L k:=by unfold zY;split<;>omega
     refine gE2 ?_
     all_goals (show Cov _ _;simp only [qS,seval]<;>simp [hle])
    .have hle:(zY L k:Int)=k:=by unfold zY;split<;>omega
     refine gE2 ?_
     all_goals (show Cov _ _;simp only [qS,seval]<;>simp [hle])
   cases hg:r.gr with
   | false=>
    rw [hg] at hnx;simp only [xa4,xaD,if_false] at hnx;have qe:=aI qR (aI @hx (aI @hr @hg));refine gE2 ?_;exact ⟨k+1,by omega,by dsimp only;omega,.cov (by simp only [qS,seval]<;>simp [hnx])⟩
   | true=>
    rw [hg] at hnx;simp only [xaZ,yQ] at hnx
    by_cases c3:(zY L k:Int) < x
    .have c3':=eq_true c3
     by_cases c4:(zY L k:Int)=y
     .have c4':=eq_true c4;simp only [c3',c4',decide_true,ne_eq,not_true_eq_false,decide_false,Bool.and_false,xaD,if_false] at hnx;have qe:=vv qR @hx @hr @hg (aI @c3' (aI @c4' (aI @decide_true @xaC)));refine gE2 ?_;exact ⟨k+1,by omega,by dsimp only;omega,.cov (by simp only [qS,seval]<;>simp [hnx])⟩
     .have c4':=eq_false c4;simp only [c3',c4',decide_true,ne_eq,not_false_eq_true,Bool.and_self,if_true,hmw] at hnx;rw [hmw] at hml;have qe:=vv qR @hx @hr @hg (vv @c3' @c4' @decide_true @decide_false @xax);have jA:=yq w r.minute hwq (hR r (xae hr) hg);have jB:=ybh P (zbF (w.req.at r.minute)) (by omega);refine gE2 ?_
      exact ⟨k+1,by omega,by dsimp only;omega,.cov (by simp only [qS,seval]<;>simp [hnx])⟩
    .have c3':=eq_false c3;simp only [c3',decide_false,xa4,xaD,if_false] at hnx;have qe:=vv qR @hx @hr @hg (aI @c3' yDF);refine gE2 ?_;exact ⟨k+1,by omega,by dsimp only;omega,.cov (by simp only [qS,seval]<;>simp [hnx])⟩
  .have e:k=L.length:=by omega
   rw [hend e];have qe:=aI qR (aI @lpN (aI @lpE @lpR));exact gD2
def yaG (h:zav L=0) (hi:i < L.length) (o:Opt) (ho1:0<=o.1/\o.1<=1439) (ho2:0<=zau L i->0<=o.2/\o.2<=1439):Pure prog 96 [.sl 18 (L.map Wis.pv),.i .i64 i,unP o] (.sl 7 ((ya6 L ((i:Int),zau L i) o).map Mov.pv)):=by
 obtain ⟨a,ha⟩:=zj hi;have h40:=ye L hi;have haq:=(yu (yb h ha)).1;have e1:zfB L i o.1=zbF (a.req.at o.1):=by unfold zfB;rw [ha]
 rcases zcH h ha with hk|⟨k,b,hk⟩
 .have e:ya6 L ((i:Int),zau L i) o=zbF (a.req.at o.1):=by
   unfold ya6;rw [if_pos (by simp only;omega),xam,e1]
  rw [e];rw [hk] at h40;refine pz func96 f96.eq_1 λhw X hX=>?_
  obtain ⟨o1,o2⟩:=o;have hf:((0:Int)<=-1)=False:=eq_false (by omega)
  have qe:=vv qR @ha @hf @rt1 @rt4;have jA:=h40;have jB:=yq a o1 haq ho1;exact gD2
 .have hlab:=hk.lab;have hb:=hk.at_b;have hkl:k < L.length:=(xaa.1 hb).1;have hbq:=(yu (yb h hb)).1;have e2:zfB L k o.2=zbF (b.req.at o.2):=by unfold zfB;rw [hb]
  have e:ya6 L ((i:Int),zau L i) o=zhC zjb (zbF (a.req.at o.1)) (zbF (b.req.at o.2)):=by
   unfold ya6;rw [hlab,if_neg (by simp only;omega),xam,xam,e1,e2]
  rw [e];rw [hlab] at h40;have ho2:=ho2 (by omega)
  have hl1:=zbd (a.req.at o.1);have hl2:=zbd (b.req.at o.2);refine pz func96 f96.eq_1 λhw X hX=>?_
  obtain ⟨o1,o2⟩:=o;have h69:=ybh (zbF (a.req.at o1)) (zbF (b.req.at o2)) (by have:=zbd (a.req.at o1);have:=zbd (b.req.at o2);omega)
  have hf:((0:Int)<=(k:Int))=True:=eq_true (by omega)
  have qe:=vv qR @ha @hb @hf (aI @rt1 @rt4);have jA:=h40;have jB:=yq a o1 haq ho1;have jC:=yq b o2 hbq ho2;have jD:=h69;exact gD5
def yca (ls:List Lim) (oth own:List Mov) (hn:ls.length<=32) (h:∀ l ∈ ls,zr l=0) (hm:oth.length+own.length<=1000000):Pure prog 110 [.sl 11 (ls.map Lim.pv),.sl 7 (oth.map Mov.pv),.sl 7 (own.map Mov.pv)] (.sl 3 (((xrW ls (zhC zjb oth own) own).map (wnX ls (zhC zjb oth own))).map Win.pv)):=by
 have hal:(zhC zjb oth own).length<=1000000:=by rw [(zog _ _ _).length_eq,xad];exact hm
 have h69:=ybh oth own hm;rw [<-xw_eq];generalize zhC zjb oth own=all at *;refine pz func110 f110.eq_1 λhw X hX=>?_
 have qe:=@qR;have jA:=h69;refine gE2 ?_;refine run_ownL 100 184 3 (κ:=Nat) (λk=>⟨[(0,.p (.sl 11 (ls.map Lim.pv))),(2,.p (.sl 7 (own.map Mov.pv))),(7,.p (.sl 7 (all.map Mov.pv))),(8,.row 100 (xwK ls all own k).length),(9,.p (.i .i64 k))],[(100,.row 184 3 ((xwK ls all own k).map Win.pv) false)],[],false⟩) (λk=>k<=ls.length) (λk=>ls.length - k) 0 ?_ ?_ ?_
 .refine ⟨gO ?_,gO ?_⟩<;>simp [xwK]
 .simp
 .intro k hk;refine gH (λhc=>?_) λhc=>?_
  .obtain ⟨l,hx⟩:=zj (i:=k) (l:=ls) (by omega)
   have h1:=h l (xae hx);have hi:xwI ls all own k=(zaq l).flatMap (xwB ls all own k l):=by rw [xwI,hx]
   have hkl:=yba h all own k;have hwl:=yg h1;have qe:=aI qR @hx;have jA:=ycW l h1;refine gE2 ?_;refine zh (κ:=Nat) (λj=>⟨[(0,.p (.sl 11 (ls.map Lim.pv))),(2,.p (.sl 7 (own.map Mov.pv))),(7,.p (.sl 7 (all.map Mov.pv))),(8,.row 100 (xwK ls all own k++((zaq l).take j).flatMap (xwB ls all own k l)).length),(9,.p (.i .i64 k)),(10,.p (.sl 1 ((zaq l).map (.i .i64)))),(11,.p (.i .i64 j))],[(100,.row 184 3 ((xwK ls all own k++((zaq l).take j).flatMap (xwB ls all own k l)).map Win.pv) false)],[],false⟩) (λj=>j<=(zaq l).length) (λj=>(zaq l).length - j) 0 ?_ ?_ ?_
   .exact sS
   .simp
   .intro j hj;refine gH (λhc=>?_) λhc=>?_
    .obtain ⟨b,hb⟩:=zj (i:=j) (l:=zaq l) (by omega)
     have hbm:=zfn h1 (xae hb);have hnx:=yi (xwB ls all own k l) hb;have hjl:=ya9 ls all own k l ((zaq l).take j);rw [xan] at hjl;have hal2:(xwK ls all own k++((zaq l).take j).flatMap (xwB ls all own k l)).length<=33*577440:=by rw [xad];omega
     have hol:own.length<=1000000:=by omega
     have h37:=yaK l all b h1 hal (by omega) (by omega)
     have h37o:=yaK l own b h1 hol (by omega) (by omega)
     by_cases c1:l.most < zbb l all b
     .have c1':=eq_true c1
      by_cases c2:0 < zbb l own b
      .have c2':=eq_true c2;rw [show xwB ls all own k l b=[⟨k,b,zbb l all b⟩] by rw [xwB,if_pos (by unfold xrB;rw [decide_eq_true c1,decide_eq_true c2];rfl)]] at hnx
       have qe:=vv qR @hx @hb @c1' (aI @c2' @decide_true);have jA:=h37;have jB:=h37o;refine gE2 ?_;exact ⟨j+1,by omega,by omega,⟨by rw [hnx];simp;omega,by simp⟩,by rw [hnx];simp⟩
      .have c2':=eq_false c2;rw [show xwB ls all own k l b=[] by rw [xwB,if_neg (by unfold xrB;rw [decide_eq_false c2,Bool.and_false];decide)],xar] at hnx
       have qe:=vv qR @hx @hb @c1' (aI @c2' yDF);have jA:=h37;have jB:=h37o;refine gE2 ?_;exact ⟨j+1,by omega,by omega,⟨by rw [hnx],by simp⟩,by rw [hnx]⟩
     .have c1':=eq_false c1;rw [show xwB ls all own k l b=[] by rw [xwB,if_neg (by unfold xrB;rw [decide_eq_false c1,xa4];decide)],xar] at hnx
      have qe:=vv qR @hx @hb @c1' @decide_false;have jA:=h37;have jB:=nm 182 (.i .i64 0);refine gE2 ?_;exact ⟨j+1,by omega,by omega,⟨by rw [hnx],by simp⟩,by rw [hnx]⟩
    .refine gE2 ?_;have e:j=(zaq l).length:=by omega
     subst e;have e2:xwK ls all own (k+1)=xwK ls all own k++(zaq l).flatMap (xwB ls all own k l):=by rw [xwK,zbE,hi,<-xwK]
     exact ⟨k+1,by omega,by omega,⟨by rw [xah,e2,xad],by simp⟩,by rw [xah,e2,xa6]⟩
  .refine gE2 ?_;have e:k=ls.length:=by omega
   subst e;exact .refl _
def gO6 (a b:Wis) (s:Nat) (x y:Int):List Opt:=if farO a b (x,y)=s/\ze8 a b x y=true then [(x,y)] else []
def fO6 (a b:Wis) (s:Nat) (x:Int):List Opt:=(zac b).flatMap (gO6 a b s x)
def hO6 (a b:Wis) (s:Nat):List Opt:=(zac a).flatMap (fO6 a b s)
def ybF (a b:Wis) (s:Nat) (x:Int) (M:List Int):(M.flatMap (gO6 a b s x)).length<=M.length:=by
 have:=ya (f:=gO6 a b s x) (c:=1) (l:=M) λy _=>by unfold gO6;split<;>simp
 omega
def ybJ (a b:Wis) (s:Nat) (M:List Int) (hb:(zac b).length<=96):(M.flatMap (fO6 a b s)).length<=M.length*96:=ya λx _=>by
 have:=ybF a b s x (zac b);unfold fO6;omega
def ydy (a b:Wis) (k:Nat) (ha:(zac a).length<=96) (hb:(zac b).length<=96):((List.range k).flatMap (hO6 a b)).length<=k*9216:=by
 have:=ya (f:=hO6 a b) (c:=9216) (l:=List.range k) λs _=>by
  have:=ybJ a b s (zac a) hb;unfold hO6;omega
 rw [xaU] at this;exact this
def ybj (h:zav L=0) (ha:L[i]?=some a) (hk:zau L i=-1):Pure prog 94 [.sl 18 (L.map Wis.pv),.i .i64 i] (.sl 2 (((zac a).map λm=>((m,-1):Opt)).map unP)):=by
 have hil:i < L.length:=(xaa.1 ha).1;have h40:=ye L hil;have hA:=yb h ha;obtain ⟨_,f1,f2,f3,f4,f5⟩:=yu hA;have h47:=yj a f5 f2 f3 f1 f4;have h96:=yO hA;rw [hk] at h40;generalize zac a=C at *;refine pz func94 f94.eq_1 λhw X hX=>?_
 have qe:=aI qR @ha;have jA:=h40;have jB:=h47;refine gE2 ?_;refine run_ownL 100 148 2 (κ:=Nat) (λj=>⟨[(5,.row 100 (C.take j).length),(7,.p (.sl 1 (C.map (.i .i64)))),(8,.p (.i .i64 j))],[(100,.row 148 2 (((C.take j).map λm=>((m,-1):Opt)).map unP) false)],[],false⟩) (λj=>j<=C.length) (λj=>C.length - j) 0 ?_ ?_ ?_
 .refine ⟨gO ?_,gO ?_⟩<;>simp
 .simp
 .intro j hj;refine gH (λhc=>?_) λhc=>?_
  .obtain ⟨x,hx⟩:=zj (i:=j) (l:=C) (by omega)
   have hlt:=zfJ hx;have hjl:(C.take j).length=j:=by rw [xan];omega
   have qe:=aI qR (aI @hx @hjl);refine gE2 ?_;exact ⟨j+1,by omega,by omega,by rw [zE hx];simp [hjl],by rw [zE hx];simp⟩
  .have e:j=C.length:=by omega
   subst e;rw [xah];exact gD2
def ybk (h:zav L=0) {k:Nat} {b:Wis} (hk:LnkTo L i k a b):Pure prog 94 [.sl 18 (L.map Wis.pv),.i .i64 i] (.sl 2 ((refO a b).map unP)):=by
 have ha:=hk.at_a
 have hb:=hk.at_b
 have hil:i < L.length:=(xaa.1 ha).1
 have hkl:k < L.length:=(xaa.1 hb).1
 have h40:=ye L hil
 have hA:=yb h ha
 have hB:=yb h hb
 obtain ⟨_,f1,f2,f3,f4,f5⟩:=yu hA
 obtain ⟨_,g1,g2,g3,g4,g5⟩:=yu hB
 have h47:=yj a f5 f2 f3 f1 f4
 have h47b:=yj b g5 g2 g3 g1 g4
 have h96:=yO hA
 have h96b:=yO hB
 have hra:=λx (hx:x ∈ zac a)=>yf hA hx
 have hrb:=λx (hx:x ∈ zac b)=>yf hB hx
 have hkd:a.req.kind=sD->b.req.kind≠sD:=λe e2=>hk.kind (e2.trans e.symm)
 have h33:=λx (hx:x ∈ zac a) y (hy:y ∈ zac b)=>yaD a b x y (by have:=hra x hx;omega) (by have:=hrb y hy;omega) hkd
 have e0:refO a b=(List.range 2880).flatMap (hO6 a b):=rfl
 rw [e0]
 have hHl:=λs=>ydy a b s h96 h96b
 have hFl:=λs M=>ybJ a b s M h96b
 have hGl:=λs x M=>ybF a b s x M
 have hHe:∀ s,hO6 a b s=(zac a).flatMap (fO6 a b s):=λs=>rfl
 have hFe:∀ s x,fO6 a b s x=(zac b).flatMap (gO6 a b s x):=λs x=>rfl
 rw [hk.lab] at h40
 have hf:((k:Int) < 0)=False:=eq_false (by omega)
 generalize zac a=A at *
 generalize zac b=B at *
 refine pz func94 f94.eq_1 λhw X hX=>?_
 have qe:=aI qR (aI @ha (aI @hb @hf));have jA:=h40;have jB:=h47;have jC:=h47b;refine gE5 ?_
 refine run_ownL 100 148 2 (κ:=Nat) (λs=>⟨[(0,.p (.sl 18 (L.map Wis.pv))),(1,.p (.i .i64 i)),(5,.row 100 ((List.range s).flatMap (hO6 a b)).length),(6,.p (.i .i64 k)),(7,.p (.sl 1 (A.map (.i .i64)))),(9,.p (.sl 1 (B.map (.i .i64)))),(10,.p (.i .i64 s))],[(100,.row 148 2 (((List.range s).flatMap (hO6 a b)).map unP) false)],[],false⟩) (λs=>s<=2880) (λs=>2880 - s) 0 ?_ ?_ ?_
 .refine ⟨gO ?_,gO ?_⟩<;>simp
 .simp
 .intro s hs
  have hHs:=hHl s
  have hHn:(List.range (s+1)).flatMap (hO6 a b)=(List.range s).flatMap (hO6 a b)++A.flatMap (fO6 a b s):=by rw [zbE,hHe]
  have hHend:s=2880->(List.range s).flatMap (hO6 a b)=(List.range 2880).flatMap (hO6 a b):=λe=>by rw [e]
  generalize (List.range s).flatMap (hO6 a b)=S0 at *
  refine gH (λhc=>?_) λhc=>?_
  .refine gE2 ?_
   refine zh (κ:=Nat) (λn=>⟨[(0,.p (.sl 18 (L.map Wis.pv))),(1,.p (.i .i64 i)),(5,.row 100 (S0++(A.take n).flatMap (fO6 a b s)).length),(6,.p (.i .i64 k)),(7,.p (.sl 1 (A.map (.i .i64)))),(9,.p (.sl 1 (B.map (.i .i64)))),(10,.p (.i .i64 s)),(11,.p (.i .i64 n))],[(100,.row 148 2 ((S0++(A.take n).flatMap (fO6 a b s)).map unP) false)],[],false⟩) (λn=>n<=A.length) (λn=>A.length - n) 0 ?_ ?_ ?_
   .exact sS
   .simp
   .intro n hn
    have hFn:=hFl s (A.take n)
    rw [xan] at hFn
    have hS1:(S0++(A.take n).flatMap (fO6 a b s)).length<=2881*9216:=by rw [xad];omega
    refine gH (λhc=>?_) λhc=>?_
    .obtain ⟨x,hx⟩:=zj (i:=n) (l:=A) (by omega)
     have hxm:=xae hx
     have hxr:=hra x hxm
     have hFx:(A.take (n+1)).flatMap (fO6 a b s)=(A.take n).flatMap (fO6 a b s)++B.flatMap (gO6 a b s x):=by rw [yi _ hx,hFe]
     rw [xad] at hS1
     generalize (A.take n).flatMap (fO6 a b s)=F1 at *
     refine gE2 ?_
     refine zh (κ:=Nat) (λq=>⟨[(0,.p (.sl 18 (L.map Wis.pv))),(1,.p (.i .i64 i)),(5,.row 100 (S0++F1++(B.take q).flatMap (gO6 a b s x)).length),(6,.p (.i .i64 k)),(7,.p (.sl 1 (A.map (.i .i64)))),(9,.p (.sl 1 (B.map (.i .i64)))),(10,.p (.i .i64 s)),(11,.p (.i .i64 n)),(12,.p (.i .i64 q))],[(100,.row 148 2 ((S0++F1++(B.take q).flatMap (gO6 a b s x)).map unP) false)],[],false⟩) (λq=>q<=B.length) (λq=>B.length - q) 0 ?_ ?_ ?_
     .exact sS
     .simp
     .intro q hq
      have hGq:=hGl s x (B.take q)
      rw [xan] at hGq
      have hS2:(S0++F1++(B.take q).flatMap (gO6 a b s x)).length<=2882*9216:=by rw [xad,xad];omega
      refine gH (λhc=>?_) λhc=>?_
      .obtain ⟨y,hy⟩:=zj (i:=q) (l:=B) (by omega)
       have hym:=xae hy
       have hyr:=hrb y hym
       have hGy:(B.take (q+1)).flatMap (gO6 a b s x)=(B.take q).flatMap (gO6 a b s x)++gO6 a b s x y:=yi _ hy
       have h33:=h33 x hxm y hym
       have q1:zdV (x - a.req.minute)<=2000/\0<=zdV (x - a.req.minute):=by unfold zdV;omega
       have q2:zdV (y - b.req.minute)<=2000/\0<=zdV (y - b.req.minute):=by unfold zdV;omega
       have h73:=yaB (x - a.req.minute) (by omega)
       have h73b:=yaB (y - b.req.minute) (by omega)
       have hfo:farO a b (x,y)=zdV (x - a.req.minute)+zdV (y - b.req.minute):=rfl
       by_cases c1:farO a b (x,y)=s
       .have c1':(zdV (x - a.req.minute)+zdV (y - b.req.minute)=(s:Int))=True:=eq_true (by rw [<-hfo];exact c1)
        cases c2:ze8 a b x y with
        | true=>
         rw [c2] at h33
         rw [show gO6 a b s x y=[(x,y)] by unfold gO6;rw [if_pos ⟨c1,c2⟩]] at hGy
         have qe:=vv qR @ha @hb @hx (aI @hy (aI @c1' @decide_true));have jA:=h73;have jB:=h73b;have jC:=h33;refine gE5 ?_
         exact ⟨q+1,by omega,by omega,by rw [hGy];simp;omega,by rw [hGy];simp⟩
        | false=>
         rw [c2] at h33
         rw [show gO6 a b s x y=[] by unfold gO6;rw [if_neg (by rw [c2];simp)],xar] at hGy
         have qe:=vv qR @ha @hb @hx (aI @hy (aI @c1' @decide_true));have jA:=h73;have jB:=h73b;have jC:=h33;refine gE5 ?_
         exact ⟨q+1,by omega,by omega,by rw [hGy];simp,by rw [hGy]⟩
       .have c1':(zdV (x - a.req.minute)+zdV (y - b.req.minute)=(s:Int))=False:=eq_false (by rw [<-hfo];exact c1)
        rw [show gO6 a b s x y=[] by unfold gO6;rw [if_neg (λe=>c1 e.1)],xar] at hGy
        have qe:=vv qR @ha @hb @hx (aI @hy (aI @c1' @decide_false));have jA:=h73;have jB:=h73b;have jC:=nm 133 (.b false);refine gE5 ?_
        exact ⟨q+1,by omega,by omega,by rw [hGy];simp,by rw [hGy]⟩
      .have e:q=B.length:=by omega
       subst e
       refine gE2 ?_
       exact ⟨n+1,by omega,by omega,by rw [xah,hFx];simp [xbA],by rw [xah,hFx,xak]⟩
    .have e:n=A.length:=by omega
     subst e
     refine gE2 ?_
     exact ⟨s+1,by omega,by omega,by rw [xah,hHn];simp,by rw [xah,hHn]⟩
  .have e:s=2880:=by omega
   rw [hHend e]
   exact gD2
def yY (h:zav L=0) (hi:i < L.length) (hu:zau L i < 0\/(i:Int) < zau L i):Pure prog 94 [.sl 18 (L.map Wis.pv),.i .i64 i] (.sl 2 ((zaS L ((i:Int),zau L i)).map unP)):=by
 obtain ⟨a,ha⟩:=zj hi
 rcases zcH h ha with hk|⟨k,b,hk⟩
 .have e:zaS L ((i:Int),zau L i)=(zac a).map λm=>((m,-1):Opt):=by
   unfold zaS;simp only [xam,ha];rw [if_pos (by omega)]
  rw [e];exact ybj h ha hk
 .have hlab:=hk.lab;have hA:=yb h hk.at_a;have hB:=yb h hk.at_b;have e:zaS L ((i:Int),zau L i)=zz (zpd a b) (zdS a b):=by
   unfold zaS;rw [hlab];simp only [xam,hk.at_a,hk.at_b];rw [if_neg (by omega)]
  rw [e,ydf λx hx y hy=>by
   have h1:=yf hA hx;have h2:=yf hB hy;obtain ⟨_,f1,f2,f3,f4,_⟩:=yu hA;obtain ⟨_,g1,g2,g3,g4,_⟩:=yu hB;unfold farO zdV;simp only
   omega]
  exact ybk h hk
structure RsN (L:List Wis) (R:List Res):Prop where
 ok:RsOk L R
 nm:∀ i r,R[i]?=some r->r.name=nmW L i
def ybw (h:zav L=0) (hi:i < L.length) {o:Opt} (ho:o ∈ zaS L ((i:Int),zau L i)):(0<=o.1/\o.1<=1439)/\(0<=zau L i->0<=o.2/\o.2<=1439):=by
 obtain ⟨a,ha⟩:=zj hi;unfold zaS at ho;simp only [xam,ha] at ho
 rcases zcH h ha with hk|⟨k,b,hk⟩
 .rw [if_pos (by omega)] at ho
  obtain ⟨m,hm,rfl⟩:=xaN.1 ho;exact ⟨yf (yb h ha) hm,λh0=>by omega⟩
 .rw [hk.lab] at ho ⊢;simp only [xam,hk.at_b] at ho;rw [if_neg (by omega)] at ho
  have ho:=(zhs _ _).mem_iff.1 ho;obtain ⟨x,hx,ho⟩:=xaw.1 ho;obtain ⟨y,hy,ho⟩:=xaw.1 ho
  split at ho
  .rw [xaX] at ho;subst ho;exact ⟨yf (yb h ha) hx,λ_=>yf (yb h hk.at_b) hy⟩
  .cases ho
def y6 (h:zav L=0) (hi:i < L.length):(zaS L ((i:Int),zau L i)).length<=9216:=by
 obtain ⟨a,ha⟩:=zj hi;have h1:=yO (yb h ha);unfold zaS;simp only [xam,ha]
 rcases zcH h ha with hk|⟨k,b,hk⟩
 .rw [if_pos (by omega),xaf];omega
 .rw [hk.lab];simp only [xam,hk.at_b];have h2:=yO (yb h hk.at_b);rw [if_neg (by omega),(zhs _ _).length_eq]
  unfold zdS;have:=ya (f:=λx=>(zac b).flatMap λy=>if ze8 a b x y then [(x,y)] else []) (c:=96) (l:=zac a) λx _=>by
   have:=ya (f:=λy=>if ze8 a b x y then [(x,y)] else []) (c:=1) (l:=zac b) λy _=>by split<;>simp
   omega
  omega
def ydz (n:ByteArray) (L:List Wis):-1<=zeH n L/\zeH n L < L.length:=by
 have h1:=zr9 n (zkG L);have h2:=zr7 n (zkG L);unfold zeH;rw [show (zkG L).length=L.length by unfold zkG;rw [xaf]] at h2
 exact ⟨h1,h2⟩
def ycb (L:List Wis) (hx:L[i]?=some w):Pure prog 91 [.sl 18 (L.map Wis.pv),.i .i64 i] (.i .i64 (zjj L i w)):=by
 have hil:i < L.length:=(xaa.1 hx).1
 obtain ⟨f1,f2⟩:=ydz w.req.link L
 have h39:=yB L w.req.link
 refine pz func91 f91.eq_1 λhwf X hX=>?_
 by_cases c1:w.req.link=s0
 .have c1':=eq_true c1
  have e:zjj L i w=0:=by unfold zjj;rw [if_pos c1]
  rw [e]
  have qe:=aI qR (aI @hx @c1');exact gD2
 .have c1':=eq_false c1
  by_cases c2:zeH w.req.link L < 0
  .have c2':=eq_true c2
   have e:zjj L i w=10:=by
    unfold zjj
    rw [if_neg c1]
    split
    .rw [if_pos c2]
    .rfl
   rw [e]
   have qe:=aI qR (aI @hx (aI @c1' @c2'));have jA:=h39;exact gD2
  .have c2':=eq_false c2
   obtain ⟨k,hk⟩:∃ k:Nat,zeH w.req.link L=(k:Int):=⟨(zeH w.req.link L).toNat,by omega⟩
   obtain ⟨o,ho⟩:=zj (i:=k) (l:=L) (by omega)
   have e:zjj L i w=if (k:Int)=i\/o.req.link≠w.req.name\/o.req.kind=w.req.kind\/¬(o.req.per.fro=w.req.per.fro/\o.req.per.to=w.req.per.to/\o.req.per.days=w.req.per.days) then 32 else 0:=by
    unfold zjj
    rw [if_neg c1,hk,xam,ho]
    simp only []
    rw [if_neg (by omega)]
   rw [hk] at h39 c2'
   have hkl:k < L.length:=by omega
   rw [e]
   by_cases d1:(k:Int)=i
   .have d1':=eq_true d1
    rw [if_pos (.inl d1)]
    have qe:=vv qR @hx @ho @c1' (aI @c2' (aI @d1' @decide_true));have jA:=h39;exact gD2
   .have d1':=eq_false d1
    by_cases d2:o.req.link=w.req.name
    .have d2':=eq_true d2
     by_cases d3:w.req.kind=o.req.kind
     .have d3':=eq_true d3
      rw [if_pos (.inr (.inr (.inl d3.symm)))]
      have qe:=vv qR @hx @ho @c1' (vv @c2' @d1' @d2' @d3' (aI @decide_true (aI @decide_false @xaC)));have jA:=h39;exact gD2
     .have d3':=eq_false d3
      by_cases d4:w.req.per.fro=o.req.per.fro/\w.req.per.to=o.req.per.to/\w.req.per.days=o.req.per.days
      .obtain ⟨d5,d6,d7⟩:=d4
       have d5':=eq_true d5
       have d6':=eq_true d6
       have d7':=eq_true d7
       rw [if_neg (by rintro (h|h|h|h)<;>first|exact d1 h|exact h d2|exact d3 h.symm|exact h ⟨d5.symm,d6.symm,d7.symm⟩)]
       have qe:=vv qR @hx @ho @c1' (vv @c2' @d1' @d2' @d3' (vv @d5' @d6' @d7' @decide_true (aI @decide_false (aI @xaC @xax))));have jA:=h39;exact gD2
      .have d4':(decide (w.req.per.fro=o.req.per.fro) && (decide (w.req.per.to=o.req.per.to) && decide (w.req.per.days=o.req.per.days)))=false:=by
        rw [<-Bool.decide_and,<-Bool.decide_and];exact decide_eq_false d4
       rw [if_pos (.inr (.inr (.inr λh=>d4 ⟨h.1.symm,h.2.1.symm,h.2.2.symm⟩)))]
       have qe:=vv qR @hx @ho @c1' (vv @c2' @d1' @d2' @d3' (vv @d4' @decide_true @decide_false @xaC @xax));have jA:=h39;exact gD2
    .have d2':=eq_false d2
     rw [if_pos (.inr (.inl d2))]
     have qe:=vv qR @hx @ho @c1' (vv @c2' @d1' @d2' @decide_true (aI @decide_false @xax));have jA:=h39;exact gD2
def ycn (L:List Wis):Pure prog 21 [.sl 18 (L.map Wis.pv)] (.i .i64 (zav L)):=by
 refine pz func21 f21.eq_1 λhw X hX=>?_
 simp only [wfs,PV.wf,xaf,maxLen] at hw;refine gF2 (λhc=>?_) λhc=>?_
 .rw [zav,if_pos hc];exact .refl _
 have hsp:zav L=zn [zn (L.mapIdx (zcB L)),zn (L.mapIdx (zjj L))]:=by rw [zav,if_neg (by omega)]
 refine zh (κ:=Nat) (λi=>⟨[(0,.p (.sl 18 (L.map Wis.pv))),(3,.p (.i .i64 i))],[],[],false⟩) (λi=>i<=L.length/\∀ x ∈ (L.mapIdx (zcB L)).take i,x=0) (λi=>L.length - i) 0 ?_ ?_ ?_
 .exact sR
 .simp
 .intro i hi;refine gH (λhc=>?_) λhc=>?_
  .obtain ⟨x,hx⟩:=zj (i:=i) (l:=L) (by omega)
   have he:zcB L i x=zn [zfI x,if 0<=zeH x.req.name (L.take i) then 9 else 0]:=rfl
   have hft:=ycD hx;have h39:=yB L x.req.name
   by_cases c1:zfI x=0
   .have c1':=eq_true c1
    by_cases c2:zeH x.req.name L < i
    .have c2':=eq_true c2;have hv:zcB L i x=9:=by rw [he,zro c1,zwE,if_pos (hft.1 c2)]
     have hf:zav L=9:=by rw [hsp,zbr hi.2 (zaj hx) (by rw [hv];decide),hv,zlL (e:=9) (by decide)]
     rw [hf];have qe:=aI qR (aI @hx (aI @c1' @c2'));have jA:=yC x;have jB:=h39;exact gD2
    .have c2':=eq_false c2;have hv:zcB L i x=0:=by rw [he,zro c1,zwE,if_neg (λk=>c2 (hft.2 k))]
     have qe:=aI qR (aI @hx (aI @c1' @c2'));have jA:=yC x;have jB:=h39;refine gE2 ?_
     all_goals exact ⟨i+1,⟨by omega,zb0 hi.2 (zaj hx) hv⟩,by omega,by simp⟩
   .have c1':=eq_false c1;have hv:zcB L i x=zfI x:=by rw [he,zlL c1]
    have hf:zav L=zfI x:=by rw [hsp,zbr hi.2 (zaj hx) (by rw [hv];exact c1),hv,zlL c1]
    rw [hf];have qe:=aI qR (aI @hx @c1');have jA:=yC x;exact gD2
  .have ei:i=(L.mapIdx (zcB L)).length:=by simp;omega
   have hA:zn (L.mapIdx (zcB L))=0:=by subst ei;exact zbj hi.2
   rw [zro hA,zwE] at hsp;refine gE2 ?_;refine zh (κ:=Nat) (λi=>⟨[(0,.p (.sl 18 (L.map Wis.pv))),(5,.p (.i .i64 i))],[],[],false⟩) (λi=>i<=L.length/\∀ x ∈ (L.mapIdx (zjj L)).take i,x=0) (λi=>L.length - i) 0 ?_ ?_ ?_
   .exact sR
   .simp
   .clear hi ei;intro i hi;refine gH (λhc=>?_) λhc=>?_
    .obtain ⟨x,hx⟩:=zj (i:=i) (l:=L) (by omega)
     have h91:=ycb L hx
     by_cases c1:zjj L i x=0
     .have c1':=eq_true c1;have qe:=aI qR (aI @hx @c1');have jA:=h91;refine gE2 ?_
      all_goals exact ⟨i+1,⟨by omega,zb0 hi.2 (zaj hx) c1⟩,by omega,by simp⟩
     .have c1':=eq_false c1;have hf:zav L=zjj L i x:=by rw [hsp,zbr hi.2 (zaj hx) c1]
      rw [hf];have qe:=aI qR (aI @hx @c1');have jA:=h91;exact gD2
    .have ei:i=(L.mapIdx (zjj L)).length:=by simp;omega
     have hf:zav L=0:=by rw [hsp];subst ei;exact zbj hi.2
     rw [hf];exact gD2
def bigW (w:Wis):Bool:=((decide ((60:Int) < w.req.carrier.size) || decide ((60:Int) < w.req.partner.size)) || decide ((60:Int) < w.req.link.size)) || !shReq w.req
def yb2 (w:Wis):Bool:=!bigW w && (!decide (zfI w=0) || (decide (((zac w).length:Int)<=8) && decide (w.req.per.to - w.req.per.fro < 10)))
def ycj (w:Wis):Pure prog 33 [w.pv] (.b (yb2 w)):=by
 have h17:=pure17 w.req;have h34:=yC w;refine pz func33 f33.eq_1 λhwf X hX=>?_
 have hno:bigW w=true->yb2 w=false:=λh=>by unfold yb2;rw [h];rfl
 by_cases a1:(60:Int) < w.req.carrier.size
 .have a1':=eq_true a1;rw [hno (by unfold bigW;rw [decide_eq_true a1];simp)]
  have qe:=aI qR (aI @a1' @decide_true);have jA:=nm 113 (.b true);exact gD2
 have a1':=eq_false a1
 by_cases a2:(60:Int) < w.req.partner.size
 .have a2':=eq_true a2;rw [hno (by unfold bigW;rw [decide_eq_true a2];simp)]
  have qe:=aI qR (aI @a1' (aI @a2' yDF));have jA:=nm 113 (.b true);exact gD2
 have a2':=eq_false a2
 by_cases a3:(60:Int) < w.req.link.size
 .have a3':=eq_true a3;rw [hno (by unfold bigW;rw [decide_eq_true a3];simp)]
  have qe:=vv qR @a1' @a2' @a3' yDF;have jA:=nm 113 (.b true);exact gD2
 have a3':=eq_false a3;cases a4:shReq w.req with
 | false=>
  rw [a4] at h17;rw [hno (by unfold bigW;rw [a4];simp)]
  have qe:=vv qR @a1' @a2' @a3' (aI @decide_true (aI @decide_false @xax));have jA:=h17;exact gD2
 | true=>
  rw [a4] at h17;have hb:bigW w=false:=by unfold bigW;rw [decide_eq_false a1,decide_eq_false a2,decide_eq_false a3,a4];rfl
  by_cases c0:zfI w=0
  .have c0':=eq_true c0;obtain ⟨_,f1,f2,f3,f4,f5⟩:=yu c0;have h47:=yj w f5 f2 f3 f1 f4;have hpr:0<=w.req.per.to/\w.req.per.to<=99999/\0<=w.req.per.fro/\w.req.per.fro<=99999:=by
    have hp:=zaI (zeR (yu c0).1).1
    omega
   have hs:yb2 w=(decide (((zac w).length:Int)<=8) && decide (w.req.per.to - w.req.per.fro < 10)):=by unfold yb2;rw [hb,decide_eq_true c0];rfl
   rw [hs]
   by_cases c1:((zac w).length:Int)<=8
   .have c1':=eq_true c1;rw [decide_eq_true c1,xaZ];have qe:=vv qR @a1' @a2' @a3' (vv @c0' @c1' @decide_true @decide_false @xaC);have jA:=h17;have jB:=h34;have jC:=h47;exact gD5
   .have c1':=eq_false c1;rw [decide_eq_false c1,xa4];have qe:=vv qR @a1' @a2' @a3' (vv @c0' @c1' @decide_true @decide_false @xaC);have jA:=h17;have jB:=h34;have jC:=h47;exact gD5
  .have c0':=eq_false c0;have hs:yb2 w=true:=by unfold yb2;rw [hb,decide_eq_false c0];rfl
   rw [hs];have qe:=vv qR @a1' @a2' @a3' (aI @c0' (aI @decide_true (aI @decide_false @xaC)));have jA:=h17;have jB:=h34;have jC:=nm 47 (.sl 1 []);exact gD5
def longW (L:List Wis) (n:Int):Bool:=(decide (n < L.length) && decide ((L.length:Int)<=64)) || decide ((66:Int) < L.length)
def ycU (L:List Wis) (n:Int):Bool:=!longW L n && L.all yb2
def ycg (L:List Wis) (n:Int):Pure prog 59 [.sl 18 (L.map Wis.pv),.i .i64 n] (.b (ycU L n)):=by
 refine pz func59 f59.eq_1 λhwf X hX=>?_
 simp only [wfs,PV.wf,xaf,maxLen] at hwf;have qe:=@qR;refine gF2 (λhc=>?_) λhc=>?_
 .have:longW L n=true:=by simpa [longW] using hc
  rw [ycU,this];exact .refl _
 have hsh:longW L n=false:=by simpa [longW] using hc
 refine zh (κ:=Nat) (λi=>⟨[(0,.p (.sl 18 (L.map Wis.pv))),(5,.p (.i .i64 i))],[],[],false⟩) (λi=>i<=L.length/\∀ y ∈ L.take i,yb2 y=true) (λi=>L.length - i) 0 ?_ ?_ ?_
 .exact sS
 .simp
 .intro i hi;refine gH (λhc=>?_) λhc=>?_
  .obtain ⟨y,hx⟩:=zj (i:=i) (l:=L) (by omega)
   have qe:=aI qR @hx;have jA:=ycj y;refine gF2 (λhc=>?_) λhc=>?_
   .rw [ycU,hsh,ybU hx hc];exact .refl _
   .exact ⟨i+1,⟨by omega,yac hi.2 hx hc⟩,by omega,by simp⟩
  .have e:i=L.length:=by omega
   subst e;have ha:=ybV hi.2;have qe:=@qR;refine gE2 ?_;rw [ycU,hsh,ha];exact .refl _
def ycq (ls:List Lim) (L:List Wis) (hL:L.length*192<=140737488355328):Pure prog 14 [.sl 11 (ls.map Lim.pv),.sl 18 (L.map Wis.pv)] (.b (ym ls 3 && ycU L 5)):=by
 have h15:=pure15 ls 3;refine pz func14 f14.eq_1 λhwf X hX=>?_
 cases hs:ym ls 3 with
 | true=>
  rw [hs] at h15;have qe:=@qR;have jA:=h15;have jB:=yaJ L hL;have jC:=ycg L 5;exact gD5
 | false=>
  rw [hs] at h15;have qe:=@qR;have jA:=h15;have jB:=nm 15 (.sl 18 []);have jC:=nm 59 (.b false);exact gD5
def few_sh {n:Int} (hs:ym ls n=true) (hc:zJ ls=0):zgb ls:=by
 have hl:=(zU hc).2;have key:∀ k,k<=ls.length->(((List.range k).flatMap λi=>match ls[i]? with|some l=>(zaq l).map λx=>(i,x)|none=>[]).length:Int)=yar ls k:=by
  intro k
  induction k with
  | zero=>intro _;simp [yar]
  | succ k ih=>
   intro hk;have hx:=xac (l:=ls) (i:=k) (by omega)
   have h3:=yae (hl _ (xae hx));rw [yG hx,zbE,xad,hx];have:=ih (by omega)
   simp only [xaf]
   omega
 refine zwD ?_;have h2:((winA ls).length:Int)=yar ls ls.length:=key ls.length (xap _);unfold ym at hs;simp only [xau,decide_eq_true_eq] at hs
 omega
def shw_sh {n:Int} (hs:ycU L n=true):ShW L:=λh w hw=>by
 unfold ycU at hs;rw [xau] at hs;have h1:=xaO.1 hs.2 w hw;obtain ⟨i,hi⟩:=xbl.1 hw;have h0:=yb h hi;unfold yb2 at h1;simp only [xau,xbg,xbv,decide_eq_false_iff_not,decide_eq_true_eq] at h1;have:=yaa w
 rcases h1.2 with h2|h2
 .exact absurd h0 h2
 .omega
def ycu (L:List Wis) (R:List Res) (y:Int):zlk L R (yQ L L.length y)=zlk L R λj=>decide ((zY L j:Int)≠y):=by
 rw [zjR,zjR]
 congr 1
 unfold zbL;refine zcK λi hi=>?_
 have hi:=xaG.1 hi;have h:zY L i<=i:=by unfold zY;split<;>omega
 have e:yQ L L.length y i=decide ((zY L i:Int)≠y):=by
  unfold yQ;rw [decide_eq_true (show (zY L i:Int) < (L.length:Int) by omega),xaZ]
 unfold zeA;rw [e]
def ycv (L:List Wis) (R:List Res):zlk L R (yQ L L.length (-1))=zlk L R λ_=>true:=by
 rw [ycu];have e:(λj=>decide ((zY L j:Int)≠-1))=λ_=>true:=by
  funext j
  exact decide_eq_true (show (zY L j:Int)≠-1 by omega)
 rw [e]
def ybt (hn:L.length<=64) (R:List Res) (f:Nat->Bool):(zlk L R f).length<=25664:=by
 have:=yaN L R f L.length;unfold zlk;omega
def ych (h:zav L=0) (R:List Res):Pure prog 52 [.sl 18 (L.map Wis.pv),.sl 3 (R.map Res.pv)] (.i .i64 (zc8 L R)):=by
 have hn64:=(zR h).1
 refine pz func52 f52.eq_1 λhw X hX=>?_
 refine gF2 (λhc=>?_) λhc=>?_
 .rw [zc8,if_pos (by omega)];exact .refl _
 have hn:R.length=L.length:=by omega
 have hsp:zc8 L R=zn [zn (R.mapIdx (zkH L)),if (zq L).any (zhp L R)=true then 32 else 0]:=by rw [zc8,if_neg (by omega)]
 refine zh (κ:=Nat) (λi=>⟨[(0,.p (.sl 18 (L.map Wis.pv))),(1,.p (.sl 3 (R.map Res.pv))),(5,.p (.i .i64 i))],[],[],false⟩) (λi=>i<=R.length/\∀ x ∈ (R.mapIdx (zkH L)).take i,x=0) (λi=>R.length - i) 0 ?_ ?_ ?_
 .exact sS
 .simp
 .intro i hi
  refine gH (λhc=>?_) λhc=>?_
  .obtain ⟨r,hr⟩:=zj (i:=i) (l:=R) (by omega)
   obtain ⟨w,hwl⟩:=zj (i:=i) (l:=L) (by omega)
   have he:zkH L i r=zfy w r:=by unfold zkH;rw [hwl]
   obtain ⟨fq,f1,f2,f3,f4,f5⟩:=yu (yb h hwl)
   have h47:=yj w f5 f2 f3 f1 f4
   have h38:=pure38 (zac w) r.minute
   have stop:∀ {c:Int},zfy w r=c->c≠0->zc8 L R=c:=fun {c} e hc=>by
    rw [<-e,<-he] at hc
    have h1:zn (R.mapIdx (zkH L))=zkH L i r:=zbr hi.2 (zaj hr) hc
    rw [hsp,zlL (by rw [h1];exact hc),h1,he,e]
   have go:zfy w r=0->∀ x ∈ (R.mapIdx (zkH L)).take (i+1),x=0:=λe=>zb0 hi.2 (zaj hr) (by rw [he,e])
   by_cases c1:r.name=w.req.name
   .have c1':=eq_true c1
    cases hg:r.gr with
    | true=>
     by_cases c2:r.minute ∈ zac w
     .have hz:zfy w r=0:=by unfold zfy;simp [hg,c1,c2,zn]
      rw [decide_eq_true c2] at h38
      have qe:=vv qR @hr @hwl @hg (aI @c1' (aI @decide_true @xaC));have jA:=h47;have jB:=h38;refine gE2 ?_
      all_goals exact ⟨i+1,⟨by omega,go hz⟩,by omega,by simp⟩
     .have hz:zc8 L R=30:=stop (by unfold zfy;simp [hg,c1,c2,zn]) (by decide)
      rw [decide_eq_false c2] at h38
      have qe:=vv qR @hr @hwl @hg (aI @c1' (aI @decide_true @xax));have jA:=h47;have jB:=h38;refine gE2 ?_
      all_goals (rw [hz];exact .refl _)
    | false=>
     by_cases c2:r.minute=0
     .have hz:zfy w r=0:=by unfold zfy;simp [hg,c1,c2,zn]
      have c2':=eq_true c2
      have qe:=vv qR @hr @hwl @hg (aI @c1' (aI @c2' (aI @decide_true @xax)));have jA:=nm 47 (.sl 1 []);have jB:=nm 46 (.b false);refine gE2 ?_
      all_goals exact ⟨i+1,⟨by omega,go hz⟩,by omega,by simp⟩
     .have hz:zc8 L R=19:=stop (by unfold zfy;simp [hg,c1,c2,zn]) (by decide)
      have c2':=eq_false c2
      have qe:=vv qR @hr @hwl @hg (vv @c1' @c2' @decide_true @decide_false @xax);have jA:=nm 47 (.sl 1 []);have jB:=nm 46 (.b false);refine gE2 ?_
      all_goals (rw [hz];exact .refl _)
   .have c1':=eq_false c1
    have hz:zc8 L R=8:=stop (by unfold zfy;simp [c1,zn]) (by decide)
    have qe:=vv qR @hr @hwl @c1' @decide_false;refine gE2 ?_
    all_goals (rw [hz];exact .refl _)
  .have e:i=R.length:=by omega
   subst e
   have hall:∀ x ∈ R.mapIdx (zkH L),x=0:=by
    have:=hi.2
    rwa [xas (by simp)] at this
   have h0:zn (R.mapIdx (zkH L))=0:=zbj λx hx=>hall x (xbu hx)
   have hat:∀ (j:Nat) (q:Res) (w:Wis),R[j]?=some q->L[j]?=some w->q.gr=true->q.minute ∈ zac w:=λj q w hq hwl hg=>by
    have:=hall (zkH L j q) (xae (zaj hq))
    unfold zkH at this
    rw [hwl] at this
    exact (zdz this).2.1 hg
   clear hi
   have hbd:(∃ j,j < L.length/\yaX L R j=true)->zc8 L R=32:=λ⟨j,hj,hb⟩=>by
    have:(zq L).any (zhp L R)=true:=by rw [ybT h R];exact xaV.2 ⟨j,xaG.2 hj,hb⟩
    rw [hsp,h0,this];rfl
   refine gE2 ?_
   refine zh (κ:=Nat) (λi=>⟨[(0,.p (.sl 18 (L.map Wis.pv))),(1,.p (.sl 3 (R.map Res.pv))),(6,.p (.i .i64 i))],[],[],false⟩) (λi=>i<=R.length/\∀ j,j < i->yaX L R j=false) (λi=>R.length - i) 0 ?_ ?_ ?_
   .exact sS
   .simp
   .intro i hi
    refine gH (λhc=>?_) λhc=>?_
    .obtain ⟨r,hr⟩:=zj (i:=i) (l:=R) (by omega)
     obtain ⟨a,ha⟩:=zj (i:=i) (l:=L) (by omega)
     have hil:i < L.length:=by omega
     have h40:=ye L hil
     have hnxt:yaX L R i=false->∀ j,j < i+1->yaX L R j=false:=λhb j hj=>by
      rcases Nat.lt_or_eq_of_le (show j<=i by omega) with hj|rfl
      .exact hi.2 j hj
      .exact hb
     have hra:=zW hr
     rcases zcH h ha with hk|⟨c,b,hk⟩
     .have hb:yaX L R i=false:=by unfold yaX zhp;rw [hk];simp
      rw [hk] at h40
      have hf:((0:Int)<=-1)=False:=eq_false (by omega)
      have qe:=aI qR (aI @hr (aI @hf @decide_false));have jA:=h40;have jB:=nm 133 (.b false);refine gE2 ?_
      all_goals exact ⟨i+1,⟨by omega,hnxt hb⟩,by omega,by simp⟩
     .have hlab:=hk.lab
      rw [hlab] at h40
      have hcl:c < R.length:=by have:=(xaa.1 hk.at_b).1;omega
      obtain ⟨q,hq⟩:=zj (l:=R) hcl
      have hrq:=zW hq
      have hf:((0:Int)<=(c:Int))=True:=eq_true (by omega)
      have hbq:yaX L R i=((r.gr != q.gr) || (r.gr && !ze8 a b r.minute q.minute)):=by
       unfold yaX zhp zyn grO
       rw [hlab]
       simp only [xam,hra,hrq,ha,hk.at_b,show ¬((c:Int) < 0) by omega,if_false,decide_false,xb5,show (0:Int)<=c by omega,decide_true,xaZ]
      have hb1:=hk.at_b
      cases hg:r.gr<;>cases hg2:q.gr
      .have hb:yaX L R i=false:=by rw [hbq,hg,hg2];rfl
       have qe:=vv qR @hr @hq @hg (vv @hg2 @hf @decide_true @zb2 (aI @zio (aI @xaC @xax)));have jA:=h40;have jB:=nm 133 (.b false);refine gE2 ?_
       all_goals exact ⟨i+1,⟨by omega,hnxt hb⟩,by omega,by simp⟩
      .have hb:=hbd ⟨i,hil,by rw [hbq,hg,hg2];rfl⟩
       have qe:=vv qR @hr @hq @hg (vv @hg2 @hf @decide_true @zb2 (aI @zio (aI @xaC @xax)));have jA:=h40;have jB:=nm 133 (.b false);refine gE2 ?_
       all_goals (rw [hb];exact .refl _)
      .have hb:=hbd ⟨i,hil,by rw [hbq,hg,hg2];rfl⟩
       have qe:=vv qR @hr @hq @hg (vv @hg2 @hf @decide_true @zb2 (aI @zio (aI @xaC @xax)));have jA:=h40;have jB:=nm 133 (.b false);refine gE2 ?_
       all_goals (rw [hb];exact .refl _)
      .have m1:=yf (yb h ha) (hat i r a hr ha hg)
       have m2:=yf (yb h hb1) (hat c q b hq hb1 hg2)
       have h33:=yaD a b r.minute q.minute (by omega) (by omega) (λe e2=>hk.kind (e2.trans e.symm))
       cases hp:ze8 a b r.minute q.minute with
       | true=>
        have hb:yaX L R i=false:=by rw [hbq,hg,hg2,hp];rfl
        rw [hp] at h33
        have qe:=vv qR @hr @hq @hg (vv @hg2 @hf @ha @hb1 (vv @decide_true @zb2 @zio @xaC @xax));have jA:=h40;have jB:=h33;refine gE2 ?_
        all_goals exact ⟨i+1,⟨by omega,hnxt hb⟩,by omega,by simp⟩
       | false=>
        have hb:=hbd ⟨i,hil,by rw [hbq,hg,hg2,hp];rfl⟩
        rw [hp] at h33
        have qe:=vv qR @hr @hq @hg (vv @hg2 @hf @ha @hb1 (vv @decide_true @zb2 @zio @xaC @xax));have jA:=h40;have jB:=h33;refine gE2 ?_
        all_goals (rw [hb];exact .refl _)
    .have e:i=R.length:=by omega
     subst e
     have hb:(zq L).any (zhp L R)=false:=by
      rw [ybT h R,Bool.eq_false_iff]
      intro hb
      obtain ⟨j,hj,hb⟩:=xaV.1 hb
      rw [hi.2 j (by rw [hn];exact xaG.1 hj)] at hb;cases hb
     rw [hsp,h0,hb]
     exact gD2
def ya1 (ls:List Lim) (L:List Wis) (R:List Res):Int:=zn [zJ ls,if zav L=0 then zc8 L R else zav L]
def lstE_0 (h:ya1 ls L R=0):zJ ls=0/\zav L=0/\zc8 L R=0:=by
 unfold ya1 at h;obtain ⟨h1,h2⟩:=zi.1 h;have h2:=(zi.1 h2).1
 by_cases hc:zav L=0
 .rw [if_pos hc] at h2;exact ⟨h1,hc,h2⟩
 .rw [if_neg hc] at h2;exact absurd h2 hc
def yci (ls:List Lim) (L:List Wis) (R:List Res):Pure prog 38 [.sl 11 (ls.map Lim.pv),.sl 18 (L.map Wis.pv),.sl 3 (R.map Res.pv)] (.i .i64 (ya1 ls L R)):=by
 have h23:=pure23 ls;have h21:=ycn L;have h19:=y4 [zJ ls,zav L];refine pz func38 f38.eq_1 λhwf X hX=>?_
 by_cases h1:zJ ls=0
 .by_cases h2:zav L=0
  .have e:ya1 ls L R=zc8 L R:=by unfold ya1;rw [h1,if_pos h2];simp [zn];intro k;exact k.symm
   have h0:=eq_true (show zn [zJ ls,zav L]=0 by rw [h1,h2];rfl)
   rw [e];have qe:=aI qR @h0;have jA:=h23;have jB:=h21;have jC:=h19;have jD:=ych h2 R;exact gD5
  .have e:ya1 ls L R=zn [zJ ls,zav L]:=by unfold ya1;rw [if_neg h2]
   have h0:=eq_false (show ¬zn [zJ ls,zav L]=0 from λk=>h2 (zi.1 (zi.1 k).2).1)
   rw [e];have qe:=aI qR @h0;have jA:=h23;have jB:=h21;have jC:=h19;exact gD5
 .have e:ya1 ls L R=zn [zJ ls,zav L]:=by unfold ya1;rw [zlL h1,zlL h1]
  have h0:=eq_false (show ¬zn [zJ ls,zav L]=0 from λk=>h1 (zi.1 k).1)
  rw [e];have qe:=aI qR @h0;have jA:=h23;have jB:=h21;have jC:=h19;exact gD5
def yck (ls:List Lim) (L:List Wis) (R:List Res):Pure prog 29 [.sl 11 (ls.map Lim.pv),.sl 18 (L.map Wis.pv),.sl 3 (R.map Res.pv)] (.i .i64 (zeY ls L R)):=by
 have h38:=yci ls L R;refine pz func29 f29.eq_1 λhwf X hX=>?_
 by_cases h0:ya1 ls L R=0
 .obtain ⟨h1,h2,h3⟩:=lstE_0 h0;have h0':=eq_true h0;obtain ⟨hn32,hls⟩:=zU h1;have hn64:=(zR h2).1;have h53:=y3 h2 (yV h2 h3) L.length (-1);rw [ycv] at h53;have hpl:=ybt hn64 R λ_=>true
  have h59:=pure59 ls (zlk L R λ_=>true) hn32 hls (by omega)
  have ha:=ycS hls L R λ_=>true
  have e:zeY ls L R=if exB ls (zy ls ⟨[],[]⟩ (zlk L R λ_=>true) 1)=true then 14 else 0:=by unfold zeY;rw [if_pos h1,if_pos h2,if_pos h3]
  rw [e]
  by_cases hx:ybK ls (zlk L R λ_=>true)=[]
  .rw [if_neg λk=>ha.1 k hx]
   rw [hx] at h59;have qe:=aI qR (aI @h0' (@List.map_nil.{0,0}));have jA:=h38;have jB:=h53;have jC:=h59;exact gD5
  .rw [if_pos (ha.2 hx)];have hp:0 < (ybK ls (zlk L R λ_=>true)).length:=List.length_pos_iff.2 hx
   have hp':((0:Int) < ((ybK ls (zlk L R λ_=>true)).length:Int))=True:=eq_true (by omega)
   have qe:=aI qR (aI @h0' @hp');have jA:=h38;have jB:=h53;have jC:=h59;exact gD5
 .have h0':=eq_false h0;have e:zeY ls L R=ya1 ls L R:=by
   unfold zeY ya1;unfold ya1 at h0
   by_cases h1:zJ ls=0
   .rw [if_pos h1,h1]
    by_cases h2:zav L=0
    .rw [if_pos h2,if_pos h2]
     by_cases h3:zc8 L R=0
     .rw [h1,if_pos h2,h3] at h0;exact absurd rfl h0
     .rw [if_neg h3];simp [zn]
    .rw [if_neg h2,if_neg h2];simp [zn]
   .rw [if_neg h1,zlL h1]
  rw [e];have qe:=aI qR @h0';have jA:=h38;exact gD2
def yaY (R:List Res) (n:Int):Bool:=!decide (n < (R.length:Int)) && R.all λr=>!decide ((60:Int) < r.name.size)
def ycm (R:List Res) (n:Int):Pure prog 25 [.sl 3 (R.map Res.pv),.i .i64 n] (.b (yaY R n)):=by
 refine pz func25 f25.eq_1 λhw X hX=>?_
 simp only [wfs,PV.wf,xaf,maxLen] at hw
 by_cases hl:n < (R.length:Int)
 .have hl':=eq_true hl;have e:yaY R n=false:=by unfold yaY;rw [decide_eq_true hl];rfl
  rw [e];have qe:=aI qR @hl';exact gD2
 .have hl':=eq_false hl;have e:yaY R n=R.all λr=>!decide ((60:Int) < r.name.size):=by unfold yaY;rw [decide_eq_false hl];rfl
  rw [e];have qe:=aI qR @hl';refine gE2 ?_;refine zh (κ:=Nat) (λi=>⟨[(0,.p (.sl 3 (R.map Res.pv))),(1,.p (.i .i64 n)),(5,.p (.i .i64 i))],[],[],false⟩) (λi=>i<=R.length/\(R.take i).all (λr=>!decide ((60:Int) < r.name.size))=true) (λi=>R.length - i) 0 ?_ ?_ ?_
  .exact sS
  .simp
  .intro i hi;refine gH (λhc=>?_) λhc=>?_
   .obtain ⟨r,hr⟩:=zj (i:=i) (l:=R) (by omega)
    by_cases hc:(60:Int) < r.name.size
    .have hc':=eq_true hc;have e:(R.all λr=>!decide ((60:Int) < r.name.size))=false:=by
      rw [List.all_eq_false];exact ⟨r,xae hr,by simp [hc]⟩
     rw [e];have qe:=aI qR (aI @hr @hc');exact gD2
    .have hc':=eq_false hc;have qe:=aI qR (aI @hr @hc');refine gE2 ?_
     all_goals exact ⟨i+1,⟨by omega,by rw [zE hr,List.all_append,hi.2];simp;omega⟩,by omega,by simp⟩
   .have e:i=R.length:=by omega
    subst e;rw [xah] at hi;rw [hi.2];exact gD2
