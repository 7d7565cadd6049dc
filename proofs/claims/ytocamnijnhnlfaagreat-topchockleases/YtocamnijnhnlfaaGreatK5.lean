/- Contracts of functions, for the claim. No conditions. -/
import Derived.Test.YtocamnijnhnlfaaGreatK4
import Derived.Test.YtocamnijnhnlfaaGreatK3
set_option linter.all false
set_option maxHeartbeats 8000000
set_option maxRecDepth 100000
namespace Go.Proofs.YtocamnijnhnlfaaGreat
open Go.RowKit Tryz
def zdH {l:Lim} (h:zbE l=0):1<=l.len/\l.len<=1440/\1<=l.step/\l.step<=1440/\0<=l.fro/\l.fro<=l.to/\l.to<=1439/\zC l.per=0/\0<=l.most/\l.most<=999999999:=by
 unfold zbE at h;simp only [ze,zbd,ze2 (show (11:Int)≠0 by decide)] at h
 omega
def zCg (l:Lim) (d:Int):Pure prog 257 [l.pv,.i .i64 d] (.b (zpN l.per d)):=by
 refine pz func257 f257.eq_1 λhw X hX=>?_
 repeat' first|refine gC ?_ ?_<;>intro hc<;>try contradiction|refine za (zly l.per d) ?_|refine gG ?_|show AK _;intro J Z|refine gJ ?_|omega|exact aT
 have:(decide (zsa l.per d=0) && zpN l.per d)=zpN l.per d:=by simp only [zpN];cases decide (zsa l.per d=0)<;>rfl
 rw [this];exact .refl _
def Lim.from_ (l:Lim):Int:=(l.fro+l.step - 1) / l.step
def zpx (l:Lim):Nat:=(max 0 (l.to / l.step - l.from_+1)).toNat
def zpw (l:Lim) (d:Int):Bool:=!(decide (d < l.per.fro) || decide (l.per.to < d) || !zpN l.per d)
def zD4 (l:Lim) (d:Int) (n:Nat):Int:=1440*d+l.step*(l.from_+n)
def zwV (l:Lim) (d:Int) (k:Nat):List Int:=(List.range k).map (zD4 l d)
def z7 (l:Lim) (d:Int):List Int:=if zpw l d then zwV l d (zpx l) else []
abbrev zBd (d:Int):List PV:=[.i .i64 d]
def zlI {α:Type} (f:Nat->α) (k:Nat):(List.range (k+1)).map f=(List.range k).map f++[f k]:=by
 rw [xbt];simp
def zjZ {α:Type} (f:Nat->α) {k n:Nat} (h:k < n):(List.range n).map f=(List.range k).map f++f k::(List.range' (k+1) (n - (k+1))).map f:=by
 have:=zd0 (λk=>[f k]) h
 simpa [List.flatMap_singleton',<-List.map_eq_flatMap] using this
def zkO {l:Lim} (h:zbE l=0) {n:Nat} (hn:n < zpx l):0<=l.from_/\l.from_<=1440/\0<=l.step*(l.from_+n)/\l.step*(l.from_+n)<=l.to/\l.fro<=l.step*(l.from_+n):=by
 have hl:=zdH h;have h1:0<=l.from_:=xch (by omega) (by omega)
 have h2:l.from_<=l.fro+l.step - 1:=xbY _ (by omega)
 have h3:(l.from_+n)<=l.to / l.step:=by unfold zpx at hn;omega
 have h4:l.step*(l.from_+n)<=l.step*(l.to / l.step):=Int.mul_le_mul_of_nonneg_left h3 (by omega)
 have h5:l.step*(l.to / l.step)<=l.to:=Int.mul_ediv_self_le (by omega)
 have h6:l.fro+l.step - 1 < l.step*l.from_+l.step:=Int.lt_mul_ediv_self_add (by omega)
 have h7:l.step*l.from_<=l.step*(l.from_+n):=Int.mul_le_mul_of_nonneg_left (by omega) (by omega)
 have h8:0<=l.step*(l.from_+n):=Int.mul_nonneg (by omega) (by omega)
 have h9:l.from_<=1440:=by
  have:l.from_<=l.to / l.step:=by omega
  have:l.to / l.step<=l.to:=xbY _ (by omega)
  omega
 omega
def zzT (l:Lim) (d:Int) (h:zbE l=0):zx5 prog 256 [.ip (.i .i64 d) 0,.ip l.pv 0] ((z7 l d).map zBd):=by
 have hl:=zdH h;have hp:=zY hl.2.2.2.2.2.2.2.1;refine zi5 (cF func256 f256.eq_1) (by simp) λhw X hX=>?_
 simp only [zbY]
 repeat' first|refine gC ?_ ?_<;>intro hc<;>try contradiction|refine zm (λ_=>zCg l d) ?_|refine gG ?_|show AK _;intro J Z|refine gJ ?_|omega|exact aT
 ·refine .inr ?_;have:zpw l d=false:=by simp only [zpw,xcg,xaY,decide_eq_true_eq,xaX];exact hc
  simp [z7,this]
 have hbo:zpw l d=true:=by simp only [zpw,xaX,xbd,decide_eq_false_iff_not,xcg];exact ⟨⟨by omega,by omega⟩,hc.2⟩
 have hq1:(l.fro+l.step - 1).tdiv l.step=l.from_:=xbf (by omega)
 have hq2:l.to.tdiv l.step=l.to / l.step:=xbf (by omega)
 have hb1:0<=l.from_:=xch (by omega) (by omega)
 have hb2:l.from_<=l.fro+l.step - 1:=xbY _ (by omega)
 have hb3:0<=l.to / l.step:=xch (by omega) (by omega)
 have hb4:l.to / l.step<=l.to:=xbY _ (by omega)
 have hN:max 0 (l.to / l.step - l.from_+1)=(zpx l:Int):=by unfold zpx;omega
 rw [z7,if_pos hbo];simp (disch:=omega) only [hq1,hq2,hN,qS,seval];refine zh (κ:=Nat) (λk=>⟨[(0,.yield),(1,.p (.ip (.i .i64 d) 0)),(2,.p (.ip l.pv 0)),(4,.p (.i .i64 l.from_)),(41,.p (.i .i64 (zpx l))),(42,.p (.i .i64 k))],[],(zwV l d k).map zBd,false⟩) (λk=>k<=zpx l) (λk=>zpx l - k) 0 ?_ ?_ ?_
 ·refine gJ ?_;simp [zwV]
 ·simp
 ·intro k hk
  repeat' first|refine gC ?_ ?_<;>intro hc<;>try contradiction|refine gG ?_|show AK _;intro J Z|refine gJ ?_|omega|exact aT
  ·have hb:=zkO h (n:=k) (by omega)
   have hs:=zjZ (zD4 l d) (show k < zpx l by omega)
   have hs':(zwV l d (zpx l)).map zBd=(zwV l d k).map zBd++zBd (zD4 l d k)::((List.range' (k+1) (zpx l - (k+1))).map (zD4 l d)).map zBd:=by simp only [zwV,hs,xaZ,xag]
   repeat' first|refine gC ?_ ?_<;>intro hc<;>try contradiction|(show zj _ _ _ _ (⟨_,.callv,_,_,_⟩::_) _ _;refine zin (by first|rfl|(simp (disch:=omega) only [qG,seval]<;>rfl)) (by simp (disch:=omega) only [qS,seval]) (by simp (disch:=omega) only [qS,seval]<;>rfl) (by simp (disch:=omega) only [qS,seval];try trivial) rfl _ (hs') ?_;intro b;(refine zB ?_))|refine gG ?_|show AK _;intro J Z|refine gJ ?_|omega|exact aT
   ·subst hc;exact .inl rfl
   ·subst hc;exact ⟨k+1,by omega,by omega,by simp,by simp [zwV,zlI],rfl⟩
  ·repeat' first|refine gC ?_ ?_<;>intro hc<;>try contradiction|refine gG ?_|show AK _;intro J Z|refine gJ ?_|omega|exact aT
   have e:k=zpx l:=by omega
   subst e;exact .inr rfl
def zCf (l:Lim) (d:Int):Pure prog 244 [l.pv,.i .i64 d] (.fn (.func 256) [] [.ip (.i .i64 d) 0,.ip l.pv 0]):=by
 refine pz func244 f244.eq_1 λhw X hX=>?_
 exact gD0
def zar (l:Lim) (k t:ByteArray):Bool:=(decide (l.kind=sT) || decide (l.kind=k)) && (decide (l.term=s0) || decide (l.term=t))
def zCX {l:Lim} (h:zbE l=0):l.kind=sA\/l.kind=sD\/l.kind=sT:=by
 unfold zbE at h;simp only [ze] at h;have:=h.2.1;unfold zgu at this
 by_cases hA:l.kind=sA
 ·exact .inl hA
 by_cases hD:l.kind=sD
 ·exact .inr (.inl hD)
 by_cases hT:l.kind=sT
 ·exact .inr (.inr hT)
 rw [if_pos ⟨hA,hD,hT⟩] at this;exact absurd this (by decide)
def zri (l:Lim) (k t:ByteArray) (h:zbE l=0):Pure prog 242 [l.pv,.s k,.s t] (.b (zar l k t)):=by
 refine pz func242 f242.eq_1 λhw X hX=>?_
 rcases zCX h with hk|hk|hk
 ·have hA':(l.kind=sA)=True:=eq_true hk;have qe:=aI qR @hA';repeat' first|refine gC ?_ ?_<;>intro hc<;>try contradiction|refine za (zd1) ?_|refine zn (zrd k sA) ?_|refine gG ?_|show AK _;intro J Z|refine gJ ?_|omega|exact aT
  rw [zar,hk,show (decide (sA=sT) || decide (sA=k))=decide (k=sA) by rw [show decide (sA=sT)=false by decide,xbJ];exact decide_eq_decide.2 eq_comm];exact .refl _
 ·have hA':(l.kind=sA)=False:=eq_false (by rw [hk];decide)
  have hD':(l.kind=sD)=True:=eq_true hk;have qe:=aI qR (aI @hA' @hD');repeat' first|refine gC ?_ ?_<;>intro hc<;>try contradiction|refine za (zd1) ?_|refine zn (zrd k sD) ?_|refine gG ?_|show AK _;intro J Z|refine gJ ?_|omega|exact aT
  rw [zar,hk,show (decide (sD=sT) || decide (sD=k))=decide (k=sD) by rw [show decide (sD=sT)=false by decide,xbJ];exact decide_eq_decide.2 eq_comm];exact .refl _
 ·have hA':(l.kind=sA)=False:=eq_false (by rw [hk];decide)
  have hD':(l.kind=sD)=False:=eq_false (by rw [hk];decide)
  have hT':(l.kind=sT)=True:=eq_true hk;have qe:=aI qR (aI @hA' (aI @hD' @hT'));repeat' first|refine gC ?_ ?_<;>intro hc<;>try contradiction|refine za (zd1) ?_|refine zn (zzg k) ?_|refine gG ?_|show AK _;intro J Z|refine gJ ?_|omega|exact aT
  rw [zar,hk,show (decide (sT=sT) || decide (sT=k))=true by rw [decide_eq_true rfl,Bool.true_or],xbh];exact .refl _
def zsW:PV.any.cells=[.any]:=rfl
def zbM (x:Int):(decide (x=x))=true:=decide_eq_true rfl
def zlx (x:Int):Pure prog 181 [.i .i64 x] (.b false):=by
 refine pz func181 f181.eq_1 λhw X hX=>?_
 have qe:=@zbM;exact gD0
def zrc (x:Int):Pure prog 267 [.i .i64 x] (.b false):=by
 refine pz func267 f267.eq_1 λhw X hX=>?_
 have qe:=@zbM;exact gD0
def zzd (a b:Int):Pure prog 266 [.i .i64 a,.i .i64 b] (.b (decide (a < b))):=by
 refine pz func266 f266.eq_1 λhw X hX=>?_
 have jA:=λu1=>zlx u1;have jB:=λu1=>zlx u1;exact gD2
def zf3 (l:List Int):Prop:=∀ (i j:Nat) (x y:Int),i<=j->l[i]?=some x->l[j]?=some y->x<=y
def ltN (l:List Int) (x:Int):Nat:=(l.filter λy=>decide (y < x)).length
def zCO {l:List Int} {x:Int} {i:Nat} (h1:∀ y ∈ l.take i,y < x) (h2:∀ y ∈ l.drop i,x<=y) (hi:i<=l.length):ltN l x=i:=by
 conv=>lhs;rw [<-xao i l]
 rw [ltN,xa7,xad,List.filter_eq_self.2 (λy hy=>by simpa using h1 y hy),List.filter_eq_nil_iff.2 (λy hy=>by have:=h2 y hy;simp;omega)]
 simp;omega
def zze (l:List Int) (x:Int) (hs:zf3 l) (hn:l.length<=1000000):Pure prog 263 [.sl 1 (l.map (.i .i64)),.i .i64 x] (.tup [.i .i64 (ltN l x),.any]):=by
 refine pz func263 f263.eq_1 λhw X hX=>?_
 simp only [wfs,PV.wf,xaf,maxLen] at hw
 repeat' first|refine gC ?_ ?_<;>intro hc<;>try contradiction|refine gG ?_|show AK _;intro J Z|refine gJ ?_|omega|exact aT
 refine zh (κ:=Nat × Nat) (λk=>⟨[(0,.p (.sl 1 (l.map (.i .i64)))),(1,.p (.i .i64 x)),(6,.p (.i .i64 l.length)),(7,.p (.i .i64 k.1)),(8,.p (.i .i64 k.2))],[],[],false⟩) (λk=>k.1<=k.2/\k.2<=l.length/\(∀ y ∈ l.take k.1,y < x)/\∀ y ∈ l.drop k.2,x<=y) (λk=>k.2 - k.1) (0,l.length) ?_ ?_ ?_
 ·exact sS
 ·simp
 ·intro k hk;obtain ⟨i,j⟩:=k;simp only at hk;have hm:IntKind.i64.wrap ((IntKind.u64.wrap ((i:Int)+j)).fdiv (2 ^ min (Int.toNat 1) IntKind.u64.bits))=(((i+j) / 2:Nat):Int):=by
   rw [IntKind.wrap_u64,show (2:Int) ^ min (Int.toNat 1) IntKind.u64.bits=2 from rfl,xcm _ (by decide)]
   rw [show (((i:Int)+j) % 18446744073709551616 / 2)=(((i+j) / 2:Nat):Int) by omega]
   exact zjy (by omega) (by omega)
  by_cases hij:i < j
  ·obtain ⟨y,hy⟩:=zk (i:=(i+j) / 2) (l:=l) (by omega)
   have qe:=aI @hm @hy;repeat' first|refine gC ?_ ?_<;>intro hc<;>try contradiction|refine za (zzd _ _) ?_|refine gG ?_|show AK _;intro J Z|refine gJ ?_|omega|exact aT
   ·refine ⟨((i+j) / 2+1,j),⟨by simp only;omega,hk.2.1,λz hz=>?_,hk.2.2.2⟩,by simp only;omega,by simp,rfl⟩
    obtain ⟨q,hq⟩:=xaS hz;rw [xaF] at hq
    split at hq
    ·have:=hs q ((i+j) / 2) z y (by omega) hq hy;omega
    ·cases hq
   ·refine ⟨(i,(i+j) / 2),⟨by simp only;omega,by simp only;omega,hk.2.2.1,λz hz=>?_⟩,by simp only;omega,rfl,rfl⟩
    obtain ⟨q,hq⟩:=xaS hz;rw [xaI] at hq;have:=hs ((i+j) / 2) _ y z (by omega) hy hq;omega
  ·have e:i=j:=by omega
   subst e;have hres:=zCO hk.2.2.1 hk.2.2.2 hk.2.1
   by_cases hil:i < l.length
   ·obtain ⟨y,hy⟩:=zk (i:=i) (l:=l) hil;have hil':((i:Int) < l.length)=True:=eq_true (by omega)
    by_cases hyx:y=x
    ·have hyx':(y=x)=True:=eq_true hyx;have qe:=aI @hm (aI @hy (aI @hil' @hyx'));repeat' first|refine gC ?_ ?_<;>intro hc<;>try contradiction|refine zm (λ_=>zrc _) ?_|refine gG ?_|show AK _;intro J Z|refine gJ ?_|omega|exact aT
     rw [hres];exact zk5 (.refl _) (.any _)
    ·have hyx':(y=x)=False:=eq_false hyx;have qe:=aI @hm (aI @hy (aI @hil' @hyx'));repeat' first|refine gC ?_ ?_<;>intro hc<;>try contradiction|refine zm (λ_=>zrc _) ?_|refine gG ?_|show AK _;intro J Z|refine gJ ?_|omega|exact aT
     rw [hres];exact zk5 (.refl _) (.any _)
   ·have hil':((i:Int) < l.length)=False:=eq_false (by omega)
    have hy:l[i]?=none:=xbA (by omega)
    have qe:=aI @hm (aI @hil' (aI @hy @zsW));repeat' first|refine gC ?_ ?_<;>intro hc<;>try contradiction|(show zj _ _ _ _ (⟨_,.call _,_,_,_⟩::_) _ _;refine zcx (hf:=λhc=>(by first|exact (absurd hc xb1:Pure prog 267 _ (.b false))|(simp only [qH,zbd] at hc;exact (absurd hc xb1:Pure prog 267 _ (.b false))))) (hn:=?_))|refine gG ?_|show AK _;intro J Z|refine gJ ?_|omega|exact aT
    rw [hres];exact zk5 (.refl _) (.any _)
def zzn (l:List Int) (x:Int) (hs:zf3 l) (hn:l.length<=1000000):Pure prog 258 [.sl 1 (l.map (.i .i64)),.i .i64 x] (.i .i64 (ltN l x)):=by
 refine pz func258 f258.eq_1 λhw X hX=>?_
 have jA:=zze l x hs hn;exact gD2
def cntW (l:List Int) (b len:Int):Int:=(ltN l (b+len):Int) - ltN l b
def zxD (l:List Int) (x:Int):ltN l x<=l.length:=xa6 _ _
def zCd (l:List Int) (b len:Int) (hs:zf3 l) (hn:l.length<=1000000) (h0:-1000000<=b) (h1:b<=1000000000) (h2:0<=len) (h3:len<=10000):Pure prog 245 [.sl 1 (l.map (.i .i64)),.i .i64 b,.i .i64 len] (.i .i64 (cntW l b len)):=by
 refine pz func245 f245.eq_1 λhw X hX=>?_
 have e1:=zxD l (b+len);have e2:=zxD l b;have jA:=λu1=>zzn l u1 hs hn;exact gD2
abbrev zhj (k:ByteArray × ByteArray):PV:=.agg [.s k.1,.s k.2]
abbrev zme (l:Lim) (k:ByteArray × ByteArray):PV × PV:=(zhj k,.b (zar l k.1 k.2))
def ofL (l:Lim) (m:List Mov):List Int:=(m.filter λx=>zar l x.kind x.term).map Mov.moment
def zxL (a b:ByteArray × ByteArray):eqCells (zhj a).cells (zhj b).cells=(decide (a.1=b.1) && decide (a.2=b.2)):=by
 simp only [PV.cells,eqCells,eqPV,xbR]
theorem znm (l:Lim) (k:ByteArray × ByteArray):∀ (es:List (ByteArray × ByteArray)),mget (zhj k) (es.map (zme l))=none\/mget (zhj k) (es.map (zme l))=some (.b (zar l k.1 k.2))
 | []=>.inl rfl
 | e::r=>by
  simp only [xag,mget,zxL]
  split
  ·rename_i h;simp only [xam,decide_eq_true_eq] at h
   right;rw [h.1,h.2]
  ·exact znm l k r
theorem znl (l:Lim) (k:ByteArray × ByteArray):∀ (es:List (ByteArray × ByteArray)),∃ es':List (ByteArray × ByteArray),mput (zhj k) (.b (zar l k.1 k.2)) (es.map (zme l))=es'.map (zme l)
 | []=>⟨[k],rfl⟩
 | e::r=>by
  simp only [xag,mput,zxL]
  split
  ·exact ⟨k::r,rfl⟩
  ·obtain ⟨es',h⟩:=znl l k r;exact ⟨e::es',by rw [h];rfl⟩
theorem zhQ (l:Lim) (k:ByteArray × ByteArray):∀ (es:List (ByteArray × ByteArray)),keysOk [2,2] true (zhj k) (es.map (zme l))
 | []=>trivial
 | e::r=>⟨⟨rfl,by simp [PV.cells,eqCellsOk,eqOk]⟩,zhQ l k r⟩
def zvL {l:Lim} {m:List Mov} {i:Nat} {x:Mov} (hx:m[i]?=some x):ofL l (m.take (i+1))=ofL l (m.take i)++if zar l x.kind x.term then [x.moment] else []:=by
 rw [ofL,xaP,hx,xa7,xaZ]
 congr 1
 cases hh:zar l x.kind x.term<;>simp [xaW,hh]
def zCe (l:Lim) (m:List Mov) (h:zbE l=0) (hn:m.length<=1000000):Pure prog 243 [l.pv,.sl 7 (m.map Mov.pv)] (.sl 1 ((ofL l m).map (.i .i64))):=by
 refine pz func243 f243.eq_1 λhw X hX=>?_
 simp only [wfs,PV.wf,xaf,maxLen] at hw
 repeat' first|refine gC ?_ ?_<;>intro hc<;>try contradiction|refine gG ?_|show AK _;intro J Z|refine gJ ?_|omega|exact aT
 refine zaf 100 3 1 [(2,.lp 2 0),(5,.row 100 0),(6,.lm 12),(13,.p (.sl 7 (m.map Mov.pv))),(14,.p (.i .i64 m.length)),(15,.p (.i .i64 0))] [(2,.box (l.cells.map .p) false),(12,.mp [] false)] ?_ ?_
 ·simp only [Own,zam,zaj,za8,zad,qS,seval]
 refine zh (κ:=Nat × List (ByteArray × ByteArray)) (λk=>⟨[(2,.lp 2 0),(5,.row 100 (ofL l (m.take k.1)).length),(6,.lm 12),(13,.p (.sl 7 (m.map Mov.pv))),(14,.p (.i .i64 m.length)),(15,.p (.i .i64 k.1))],[(2,.box (l.cells.map .p) false),(12,.mp (k.2.map (zme l)) false),(100,.row 3 1 ((ofL l (m.take k.1)).map (.i .i64)) false)],[],false⟩) (λk=>k.1<=m.length) (λk=>m.length - k.1) (0,[]) ?_ ?_ ?_
 ·refine gJ ?_;simp [ofL]
 ·simp
 ·intro k hk;obtain ⟨i,es⟩:=k;simp only at hk;have hl:(ofL l (m.take i)).length<=i:=by
   simp only [ofL,xaf];exact xaV (xa6 _ _) (by simp;omega)
  repeat first|refine gG ?_|show AK _;intro J Z|refine gJ ?_|omega|exact aT
  (refine gC ?_ ?_<;>intro hc<;>try contradiction)
  ·obtain ⟨x,hx⟩:=zk (i:=i) (l:=m) (by omega)
   have hko:keysOk [2,2] true (.agg [.s x.kind,.s x.term]) (es.map (zme l))=True:=eq_true (zhQ l (x.kind,x.term) es);obtain ⟨es',hput⟩:=znl l (x.kind,x.term) es;simp only [zhj] at hput;have hnx:=zvL (l:=l) hx
   rcases znm l (x.kind,x.term) es with hg|hg
   ·simp only [zhj] at hg;have qe:=aI qR (aI @hx (aI @hko (aI @hg @hput)));repeat' first|refine gC ?_ ?_<;>intro hc<;>try contradiction|refine za (zri l x.kind x.term h) ?_|refine gG ?_|show AK _;intro J Z|refine gJ ?_|omega|exact aT
    ·rw [hc,if_pos rfl] at hnx;exact ⟨(i+1,es'),by simp only;omega,by simp only;omega,⟨by simp only [hnx];simp,by simp⟩,rfl,by simp only [hnx];simp⟩
    ·rw [hc] at hnx;exact ⟨(i+1,es'),by simp only;omega,by simp only;omega,⟨by simp only [hnx];simp,by simp⟩,rfl,by simp only [hnx];simp⟩
   ·simp only [zhj] at hg;have qe:=aI qR (aI @hx (aI @hko @hg));repeat' first|refine gC ?_ ?_<;>intro hc<;>try contradiction|refine gG ?_|show AK _;intro J Z|refine gJ ?_|omega|exact aT
    ·rw [hc,if_pos rfl] at hnx;exact ⟨(i+1,es),by simp only;omega,by simp only;omega,⟨by simp only [hnx];simp,by simp⟩,rfl,by simp only [hnx];simp⟩
    ·rw [hc] at hnx;exact ⟨(i+1,es),by simp only;omega,by simp only;omega,⟨by simp only [hnx];simp,by simp⟩,rfl,by simp only [hnx];simp⟩
  ·repeat' first|refine gC ?_ ?_<;>intro hc<;>try contradiction|refine gG ?_|show AK _;intro J Z|refine gJ ?_|omega|exact aT
   have e:i=m.length:=by omega
   subst e;rw [xaG];exact .refl _
def znB {l:List Int} (h:zf l=0) {x:Int} (hx:x ∈ l):x=0:=by
 induction l with
 | nil=>cases hx
 | cons e r ih=>
  obtain ⟨h1,h2⟩:=ze.1 h
  rcases xaB.1 hx with h|h
  ·rw [h];exact h1
  ·exact ih h2 h
def zgf {l:List Int} (h:l.Pairwise (·<=·)):zf3 l:=by
 intro i j x y hij hx hy;obtain ⟨hi,rfl⟩:=xaa.1 hx;obtain ⟨hj,rfl⟩:=xaa.1 hy
 rcases Nat.lt_or_eq_of_le hij with h1|h1
 ·exact xaw.1 h i j hi hj h1
 ·subst h1;exact Int.le_refl _
def zla {l:List Int} (h:∀ (i:Nat) (x y:Int),l[i]?=some x->l[i+1]?=some y->x<=y):l.Pairwise (·<=·):=by
 refine xaw.2 λi j hi hj hij=>?_
 obtain ⟨k,rfl⟩:∃ k,j=i+1+k:=⟨j - i - 1,by omega⟩
 clear hij
 induction k with
 | zero=>exact h i _ _ (xab hi) (xab hj)
 | succ k ih=>exact Int.le_trans (ih (by omega)) (h (i+1+k) _ _ (xab (by omega)) (xab hj))
def zaJ {m:List Mov} (h:zR m=0):m.length<=30000/\(∀ x ∈ m,zcq x=0)/\(m.map Mov.moment).Pairwise (·<=·):=by
 unfold zR at h
 split at h
 ·cases h
 ·have key:∀ (i:Nat) (x:Mov),m[i]?=some x->zfh m i x=0:=λi x hx=>znB h (xae (zz hx))
  refine ⟨by omega,λx hx=>?_,zla λi x y hx hy=>?_⟩
  ·obtain ⟨i,hi⟩:=xaS hx;exact (ze.1 (key i x hi)).1
  ·simp only [xai,xac] at hx hy;obtain ⟨a,ha,rfl⟩:=hx;obtain ⟨b,hb,rfl⟩:=hy;have h1:=(ze.1 (ze.1 (key (i+1) b hb)).2).1;simp only [xbq,ha,xa1] at h1;rw [ze2 (by decide)] at h1
   omega
def zoG {l:Lim} {m:List Mov} (h:zR m=0):zf3 (ofL l m):=by
 refine zgf ?_;have:=(zaJ h).2.2;rw [xbI] at this;rw [ofL,xbI];exact this.filter _
def zzB {l:Lim} {m:List Mov}:(ofL l m).length<=m.length:=by
 simp only [ofL,xaf];exact xa6 _ _
def zmp {l:Lim} (h:zbE l=0) (d:Int):(z7 l d).length<=1440:=by
 have hl:=zdH h;have h1:0<=l.from_:=xch (by omega) (by omega)
 have h2:l.to / l.step<=l.to:=xbY _ (by omega)
 unfold z7 zwV zpx
 split
 ·simp;omega
 ·simp
def zmo {l:Lim} (h:zbE l=0) {d b:Int} (hb:b ∈ z7 l d):1440*d<=b/\b<=1440*d+1439/\l.per.fro<=d/\d<=l.per.to:=by
 have hl:=zdH h;unfold z7 zwV at hb
 split at hb
 ·rename_i ho;simp only [zpw,xaX,xbd,decide_eq_false_iff_not] at ho;obtain ⟨n,hn,rfl⟩:=xa3.1 hb;have:=zkO h (xaO.1 hn);unfold zD4
  omega
 ·cases hb
def zcp (l:Lim) (m:List Mov) (b:Int):Int:=cntW (ofL l m) b l.len
def zlu {l:Lim} {m:List Mov} (h1:zbE l=0) (h2:zR m=0) (b:Int) (hb0:-1000000<=b) (hb1:b<=1000000000):Pure prog 245 [.sl 1 ((ofL l m).map (.i .i64)),.i .i64 b,.i .i64 l.len] (.i .i64 (zcp l m b)):=by
 have hl:=zdH h1;have hm:=zaJ h2;have:=zzB (l:=l) (m:=m);exact zCd _ _ _ (zoG h2) (by omega) hb0 hb1 (by omega) (by omega)
def arB (m:List Mov) (o:Mov) (i:Nat) (l:Lim) (b:Int):List Win:=if b<=o.moment/\o.moment < b+l.len then [⟨i,b,zcp l m b⟩] else []
def arD (m:List Mov) (o:Mov) (i:Nat) (l:Lim) (d:Int):List Win:=(z7 l d).flatMap (arB m o i l)
def arX (m:List Mov) (o:Mov) (i:Nat) (l:Lim) (e:Nat):List Win:=arD m o i l (o.moment / 1440 - 1+e)
def arL (m:List Mov) (o:Mov) (i:Nat) (l:Lim):List Win:=if zar l o.kind o.term then (List.range 2).flatMap (arX m o i l) else []
def arI (ls:List Lim) (m:List Mov) (o:Mov) (i:Nat):List Win:=match ls[i]? with|some l=>arL m o i l|none=>[]
def arK (ls:List Lim) (m:List Mov) (o:Mov) (k:Nat):List Win:=(List.range k).flatMap (arI ls m o)
def arW (ls:List Lim) (m:List Mov) (o:Mov):List Win:=arK ls m o ls.length
def evB (m:List Mov) (l:Lim) (d b:Int):List (Nat × Nat):=if zcp l m b < l.most then [] else if max 0 (b - 1440*d) < min 1440 (b+l.len - 1440*d) then [((max 0 (b - 1440*d)).toNat,(min 1440 (b+l.len - 1440*d)).toNat)] else []
def evX (m:List Mov) (l:Lim) (d:Int) (e:Nat):List (Nat × Nat):=(z7 l (d - 1+e)).flatMap (evB m l d)
def evD (m:List Mov) (l:Lim) (d:Int):List (Nat × Nat):=(List.range 2).flatMap (evX m l d)
def evL (m:List Mov) (r:Req) (l:Lim):List (Nat × Nat):=if zar l r.kind r.term then (zq r.per).flatMap (evD m l) else []
def evI (ls:List Lim) (m:List Mov) (r:Req) (i:Nat):List (Nat × Nat):=match ls[i]? with|some l=>evL m r l|none=>[]
def egK (ls:List Lim) (m:List Mov) (r:Req) (k:Nat):List (Nat × Nat):=(List.range k).flatMap (evI ls m r)
def evA (ls:List Lim) (m:List Mov) (r:Req):List (Nat × Nat):=egK ls m r ls.length
def zDc {m:List Mov} {l:Lim} {d b:Int} {e:Nat × Nat} (h:e ∈ evB m l d b):e.1 < e.2/\e.2<=1440:=by
 unfold evB at h
 split at h
 ·cases h
 ·split at h
  ·simp only [xa8] at h;subst h;simp only;omega
  ·cases h
def zDd {ls:List Lim} {m:List Mov} {r:Req} {e:Nat × Nat} (h:e ∈ evA ls m r):e.1 < e.2/\e.2<=1440:=by
 obtain ⟨i,_,h⟩:=xax.1 h;unfold evI at h
 split at h
 ·unfold evL at h
  split at h
  ·obtain ⟨d,_,h⟩:=xax.1 h;obtain ⟨x,_,h⟩:=xax.1 h;obtain ⟨b,_,h⟩:=xax.1 h;exact zDc h
  ·cases h
 ·cases h
def zAc {ls:List Lim} (hn:ls.length<=32) (h:∀ l ∈ ls,zbE l=0) (m:List Mov) {r:Req} (hr:zC r.per=0):(evA ls m r).length<=40000000:=by
 have hp:=zY hr;have hd:=zbx r.per;have h1:(evA ls m r).length<=(List.range ls.length).length*1154880:=zgJ λi _=>by
  unfold evI
  split
  ·rename_i l hl;unfold evL
   split
   ·have h2:((zq r.per).flatMap (evD m l)).length<=(zq r.per).length*2880:=zgJ λd _=>by
     have h3:(evD m l d).length<=(List.range 2).length*1440:=zgJ λe _=>by
      have h4:(evX m l d e).length<=(z7 l (d - 1+e)).length*1:=zgJ λb _=>by unfold evB;(repeat' split)<;>simp
      have:=zmp (h l (xae hl)) (d - 1+e)
      omega
     simpa using h3
    omega
   ·simp
  ·simp
 simp only [List.length_range] at h1
 omega
def zA6 (E:List Int) (e:Nat × Nat):List Int:=(E.set e.1 (E[e.1]?.getD 0+1)).set e.2 (E[e.2]?.getD 0 - 1)
def edg (evs:List (Nat × Nat)):List Int:=evs.foldl zA6 (List.replicate 1441 0)
def znE (evs:List (Nat × Nat)) (e:Nat × Nat):edg (evs++[e])=zA6 (edg evs) e:=by rw [edg,xa4];rfl
theorem zki {α β:Type} (P:Nat->β->Prop) (f:β->α->β) (hs:∀ n b a,P n b->P (n+1) (f b a)):∀ (l:List α) (n:Nat) (b:β),P n b->P (n+l.length) (l.foldl f b)
 | [],n,b,h=>h
 | a::r,n,b,h=>by rw [xbi,xaK,show n+(r.length+1)=(n+1)+r.length by omega];exact zki P f hs r (n+1) _ (hs n b a h)
def zsw (evs:List (Nat × Nat)):(edg evs).length=1441/\∀ (i:Nat) (x:Int),(edg evs)[i]?=some x->-(evs.length:Int)<=x/\x<=evs.length:=by
 have:=zki (λn (E:List Int)=>E.length=1441/\∀ (i:Nat) (x:Int),E[i]?=some x->-(n:Int)<=x/\x<=n) zA6 (λn E e h=>by
  obtain ⟨h1,h2⟩:=h;refine ⟨by simp [zA6,h1],λi x hx=>?_⟩
  have hg:∀ j:Nat,-(n:Int)<=E[j]?.getD 0/\E[j]?.getD 0<=n:=λj=>by
   cases hj:E[j]? with
   | none=>simp
   | some y=>exact h2 j y hj
  have h3:=hg e.1;have h4:=hg e.2;simp only [zA6,List.getElem?_set,xci] at hx
  split at hx
  ·split at hx
   ·injection hx with hx;omega
   ·cases hx
  ·split at hx
   ·split at hx
    ·injection hx with hx;omega
    ·cases hx
   ·have:=h2 i x hx;omega) evs 0 (List.replicate 1441 0) ⟨by simp,λi x hx=>by
  rw [List.getElem?_replicate] at hx
  split at hx
  ·injection hx with hx;subst hx;simp
  ·cases hx⟩
 simpa [edg] using this
def zku (evs:List (Nat × Nat)) {i:Nat} (hi:i<=1440):∃ x,(edg evs)[i]?=some x/\-(evs.length:Int)<=x/\x<=evs.length:=by
 have h:=zsw evs;have hi:i < (edg evs).length:=by rw [h.1];omega
 exact ⟨_,xab hi,h.2 i _ (xab hi)⟩
def zg9 (E:List Int) (i:Nat):Int:=(E.take i).foldl (·+·) 0
def zge {E:List Int} {i:Nat} {x:Int} (h:E[i]?=some x):zg9 E (i+1)=zg9 E i+x:=by rw [zg9,xaP,h,xa4];rfl
def zm6 {E:List Int} {j:Nat} {x y:Int} (h:E[j]?=some x) (i:Nat):zg9 (E.set j y) i=zg9 E i+if j < i then y - x else 0:=by
 have hj:=(xaa.1 h).1
 induction i with
 | zero=>simp [zg9]
 | succ i ih=>
  by_cases hi:i < E.length
  ·rw [zge (x:=((E.set j y)[i]?).getD 0) (by rw [xab (by simpa using hi)];rfl),zge (xab hi),ih,List.getElem?_set]
   by_cases hij:j=i
   ·subst hij;rw [if_pos rfl,if_pos hj,if_neg (by omega),if_pos (by omega)]
    have:E[j]=x:=by rw [xab hj] at h;injection h
    rw [this];simp;omega
   ·rw [if_neg hij,xab hi]
    by_cases h1:j < i
    ·rw [if_pos h1,if_pos (by omega)];simp;omega
    ·rw [if_neg h1,if_neg (by omega)];simp
  ·have e1:zg9 (E.set j y) (i+1)=zg9 (E.set j y) i:=by rw [zg9,zg9,xal (by simp;omega),xal (by simp;omega)]
   have e2:zg9 E (i+1)=zg9 E i:=by rw [zg9,zg9,xal (by omega),xal (by omega)]
   rw [e1,e2,ih]
   by_cases h1:j < i
   ·rw [if_pos h1,if_pos (by omega)]
   ·omega
def zxF (i:Nat) (e:Nat × Nat):Bool:=decide (e.1<=i) && decide (i < e.2)
def zm7 {evs : List (Nat × Nat)} (h : ∀ e ∈ evs, e.1 < e.2 ∧ e.2 ≤ 1440) {i : Nat} (hi : i < 1440) : zg9 (edg evs) (i + 1) = ((evs.filter (zxF i)).length : Int) := by
  have key : ∀ n, n ≤ evs.length → zg9 (edg (evs.take n)) (i + 1) = (((evs.take n).filter (zxF i)).length : Int) := by
    intro n
    induction n with
    | zero => intro _; simp only [List.take_zero, edg, List.foldl_nil, List.filter_nil, List.length_nil, zg9]
              rw [List.take_replicate]
              generalize min (i + 1) 1441 = q
              induction q with
              | zero => rfl
              | succ q ih => rw [List.replicate_succ', List.foldl_append, ih]; rfl
    | succ n ih =>
      intro hn
      have ih := ih (by omega)
      have hx := List.getElem?_eq_getElem (l := evs) (i := n) (by omega)
      have he := h _ (List.mem_of_getElem? hx)
      rw [zl3 hx, List.take_add_one, hx, Option.toList_some, znE, zA6]
      obtain ⟨x, hx1, _⟩ := zku (evs.take n) (i := evs[n].1) (by omega)
      obtain ⟨y, hy1, _⟩ := zku (evs.take n) (i := evs[n].2) (by omega)
      have hne : ((edg (evs.take n)).set evs[n].1 (x + 1))[evs[n].2]? = some y := by rw [List.getElem?_set_ne (by omega)]; exact hy1
      rw [hx1, hy1, Option.getD_some, Option.getD_some, zm6 hne, zm6 hx1, ih, List.length_append]
      simp only [zxF]
      by_cases h1 : evs[n].1 ≤ i
      · by_cases h2 : i < evs[n].2
        · simp only [h1, h2, decide_true, Bool.true_and, if_true, List.length_cons, List.length_nil, if_pos (show evs[n].1 < i + 1 by omega), if_neg (show ¬ evs[n].2 < i + 1 by omega)]; omega
        · simp only [h1, h2, decide_true, decide_false, Bool.and_false, Bool.false_eq_true, if_false, List.length_nil, if_pos (show evs[n].1 < i + 1 by omega), if_pos (show evs[n].2 < i + 1 by omega)]; omega
      · simp only [h1, decide_false, Bool.false_and, Bool.false_eq_true, if_false, List.length_nil, if_neg (show ¬ evs[n].1 < i + 1 by omega), if_neg (show ¬ evs[n].2 < i + 1 by omega)]; omega
  have := key evs.length (Nat.le_refl _)
  rwa [List.take_length] at this
def zxn (evs:List (Nat × Nat)) (i:Nat):Bool:=evs.any (zxF i)
def zvz {evs:List (Nat × Nat)} (h:∀ e ∈ evs,e.1 < e.2/\e.2<=1440) {i:Nat} (hi:i < 1440):decide (0 < zg9 (edg evs) (i+1))=zxn evs i:=by
 rw [zm7 h hi,zxn];rw [xbV,decide_eq_true_eq,xbv]
 constructor
 ·intro hp;obtain ⟨e,he⟩:=List.exists_mem_of_length_pos (show 0 < (evs.filter (zxF i)).length by omega)
  exact ⟨e,(xbM.1 he).1,(xbM.1 he).2⟩
 ·rintro ⟨e,he,hh⟩;have:=List.length_pos_of_mem (xbM.2 ⟨he,hh⟩)
  omega
def zzu {evs:List (Nat × Nat)} (h:∀ e ∈ evs,e.1 < e.2/\e.2<=1440) {i:Nat} (hi:i<=1440):0<=zg9 (edg evs) i/\zg9 (edg evs) i<=evs.length:=by
 cases i with
 | zero=>simp [zg9]
 | succ i=>
  rw [zm7 h (by omega)]
  have:=xa6 (zxF i) evs
  omega
def zkY (evs:List (Nat × Nat)) (k:Nat):List Bool:=(List.range 1440).map λj=>decide (j < k) && zxn evs j
def zcE (evs:List (Nat × Nat)) (k:Nat):(zkY evs k).length=1440:=by simp [zkY]
def ziM {evs:List (Nat × Nat)} {k j:Nat} (hj:j < 1440):(zkY evs k)[j]?=some (decide (j < k) && zxn evs j):=by
 rw [zkY,xai,xco hj];rfl
def zvF (evs:List (Nat × Nat)) {k:Nat} (hk:k < 1440):(zkY evs k).set k (zxn evs k)=zkY evs (k+1):=by
 refine xbT λj=>?_
 rw [List.getElem?_set]
 by_cases hj:j < 1440
 ·rw [ziM hj,ziM hj,zcE]
  by_cases e:k=j
  ·subst e;rw [if_pos rfl,if_pos hk];simp
  ·rw [if_neg e];have:(decide (j < k))=decide (j < k+1):=decide_eq_decide.2 (by omega)
   rw [this]
 ·rw [if_neg (by omega),xbA (by rw [zcE];omega),xbA (by rw [zcE];omega)]
def zCx (evs:List (Nat × Nat)):zkY evs 0=List.replicate 1440 false:=by
 refine xbT λj=>?_
 by_cases hj:j < 1440
 ·rw [ziM hj,List.getElem?_replicate,if_pos hj];simp
 ·rw [xbA (by rw [zcE];omega),xbA (by simp;omega)]
def zqu {G:Cfg} {c:AC} {s:St} {Q Q':zZ} (hm:∀ e s1,Q e s1->Q' e s1) (h:Run G c s Q):Run G c s Q':=λhG code hc C a w hr=>
 wpIn_mono (h hG code hc C a w hr) λe a1 w1 hq=>by
  obtain ⟨s1,C1,h1,h2⟩:=hq;exact ⟨s1,C1,h1,by cases e<;>first|exact hm _ _ h2|exact h2⟩
def cutS (s':St):zZ
 | .normal,s=>Cov s s'
 | _,_=>False
def zkC (s s':St):cutS s' .normal s=Cov s s':=rfl
def ziq {G:Cfg} {x y:AC} {s:St} {Q:zZ} (s':St) (h1:Run G x s (cutS s')) (h2:Run G y s' Q):Run G x s (seqK G y Q):=
 zqu (λe s1 h=>by
  cases e with
  | normal=>exact zmF s' h h2
  | exit i=>exact h.elim
  | ret=>exact h.elim) h1
def zbp (p:Per):(zq p).Pairwise λa b=>a < b:=by
 unfold zq;generalize (p.to - p.fro+1).toNat=n
 induction n with
 | zero=>simp
 | succ n ih=>
  rw [xbt,xbc,xbo];refine ⟨ih,?_,?_⟩
  ·simp only [xaH,xbn,xat];split<;>simp
  ·intro a ha b hb;obtain ⟨k,hk,ha⟩:=xax.1 ha;have hk:=xaO.1 hk;simp only [xaH,xbn,xat] at hb
   split at ha
   ·split at hb
    ·simp at ha hb;omega
    ·cases hb
   ·cases ha
def zfK {r:Req} {o:Mov} (h:o ∈ zaT r):∃ d,d ∈ zq r.per/\o=za9 r d:=by
 obtain ⟨d,hd,rfl⟩:=xa3.1 h;exact ⟨d,hd,rfl⟩
def zkI {r:Req} (h:zbk r=0) {d:Int} (hd:d ∈ zq r.per):zcq (za9 r d)=0:=by
 have hp:=zY (zaE h).1;have hm:=zaE h;have hdm:=zaV hd;unfold zbk at h;unfold zcq;simp only [ze,zbd] at h ⊢;simp only [za9];refine ⟨by omega,?_⟩
 simp only [h,true_and,and_true]
end Go.Proofs.YtocamnijnhnlfaaGreat
