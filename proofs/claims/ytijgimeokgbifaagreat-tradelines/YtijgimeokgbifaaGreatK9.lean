/- Contracts of functions, for the claim. No conditions. -/
import Derived.Test.YtijgimeokgbifaaGreatK6
set_option linter.all false
set_option maxHeartbeats 8000000
set_option maxRecDepth 100000
namespace Go.Proofs.YtijgimeokgbifaaGreat
open Go.RowKit
theorem zcd {l:Lim} (h:zaS l=0):1<=l.len/\l.len<=1440/\1<=l.step/\l.step<=1440/\0<=l.fro/\l.fro<=l.to/\l.to<=1439/\zau l.per=0/\0<=l.most/\l.most<=999999999:=by
 unfold zaS at h
 simp only [zp,zdm,zg3 (show (11:Int)≠0 by decide)] at h
 omega
theorem zwS (l:Lim) (d:Int):Pure Tryz.prog 257 [l.pv,.i .i64 d] (.b (zsT l.per d)):=by
 refine zf (cF Tryz.func257 Tryz.f257.eq_1) (by simp) λhw X hX=>?_
 repeat' first|refine gC ?_ ?_<;>intro hc<;>try contradiction|refine za (zi5 l.per d) ?_|refine gG ?_|show AK _;intro K H|refine H _ _ ?_;clear H K|refine gJ ?_;try exact trivial|omega
 have:(decide (zsS l.per d=0) && zsT l.per d)=zsT l.per d:=by simp only [zsT];cases decide (zsS l.per d=0)<;>rfl
 rw [this];exact .refl _
def Lim.from_ (l:Lim):Int:=(l.fro+l.step - 1) / l.step
def zmv (l:Lim):Nat:=(max 0 (l.to / l.step - l.from_+1)).toNat
def zmu (l:Lim) (d:Int):Bool:=!(decide (d < l.per.fro) || decide (l.per.to < d) || !zsT l.per d)
def zyu (l:Lim) (d:Int) (n:Nat):Int:=1440*d+l.step*(l.from_+n)
def zsg (l:Lim) (d:Int) (k:Nat):List Int:=(List.range k).map (zyu l d)
def zL (l:Lim) (d:Int):List Int:=if zmu l d then zsg l d (zmv l) else []
abbrev zvZ (d:Int):List PV:=[.i .i64 d]
theorem zjf {α:Type} (f:Nat->α) (k:Nat):(List.range (k+1)).map f=(List.range k).map f++[f k]:=by
 rw [List.range_succ];simp
theorem zhS {α:Type} (f:Nat->α) {k n:Nat} (h:k < n):(List.range n).map f=(List.range k).map f++f k::(List.range' (k+1) (n - (k+1))).map f:=by
 have:=zbm (λk=>[f k]) h
 simpa [List.flatMap_singleton',<-List.map_eq_flatMap] using this
theorem zir {l:Lim} (h:zaS l=0) {n:Nat} (hn:n < zmv l):0<=l.from_/\l.from_<=1440/\0<=l.step*(l.from_+n)/\l.step*(l.from_+n)<=l.to/\l.fro<=l.step*(l.from_+n):=by
 have hl:=zcd h
 have h1:0<=l.from_:=Int.ediv_nonneg (by omega) (by omega)
 have h2:l.from_<=l.fro+l.step - 1:=Int.ediv_le_self _ (by omega)
 have h3:(l.from_+n)<=l.to / l.step:=by unfold zmv at hn;omega
 have h4:l.step*(l.from_+n)<=l.step*(l.to / l.step):=Int.mul_le_mul_of_nonneg_left h3 (by omega)
 have h5:l.step*(l.to / l.step)<=l.to:=Int.mul_ediv_self_le (by omega)
 have h6:l.fro+l.step - 1 < l.step*l.from_+l.step:=Int.lt_mul_ediv_self_add (by omega)
 have h7:l.step*l.from_<=l.step*(l.from_+n):=Int.mul_le_mul_of_nonneg_left (by omega) (by omega)
 have h8:0<=l.step*(l.from_+n):=Int.mul_nonneg (by omega) (by omega)
 have h9:l.from_<=1440:=by
  have:l.from_<=l.to / l.step:=by omega
  have:l.to / l.step<=l.to:=Int.ediv_le_self _ (by omega)
  omega
 omega
theorem zoi (l:Lim) (d:Int) (h:zaS l=0):zpk Tryz.prog 256 [.ip (.i .i64 d) 0,.ip l.pv 0] ((zL l d).map zvZ):=by
 have hl:=zcd h
 have hp:=zaY hl.2.2.2.2.2.2.2.1
 refine zg2 (cF Tryz.func256 Tryz.f256.eq_1) (by simp) λhw X hX=>?_
 simp only [zbp]
 repeat' first|refine gC ?_ ?_<;>intro hc<;>try contradiction|refine zM (λ_=>zwS l d) ?_|refine gG ?_|show AK _;intro K H|refine H _ _ ?_;clear H K|refine gJ ?_;try exact trivial|omega
 ·refine .inr ?_
  have:zmu l d=false:=by simp only [zmu,Bool.not_eq_false',Bool.or_eq_true,decide_eq_true_eq,Bool.not_eq_true'];exact hc
  simp [zL,this]
 have hbo:zmu l d=true:=by simp only [zmu,Bool.not_eq_true',Bool.or_eq_false_iff,decide_eq_false_iff_not,Bool.not_eq_false'];exact ⟨⟨by omega,by omega⟩,hc.2⟩
 have hq1:(l.fro+l.step - 1).tdiv l.step=l.from_:=Int.tdiv_eq_ediv_of_nonneg (by omega)
 have hq2:l.to.tdiv l.step=l.to / l.step:=Int.tdiv_eq_ediv_of_nonneg (by omega)
 have hb1:0<=l.from_:=Int.ediv_nonneg (by omega) (by omega)
 have hb2:l.from_<=l.fro+l.step - 1:=Int.ediv_le_self _ (by omega)
 have hb3:0<=l.to / l.step:=Int.ediv_nonneg (by omega) (by omega)
 have hb4:l.to / l.step<=l.to:=Int.ediv_le_self _ (by omega)
 have hN:max 0 (l.to / l.step - l.from_+1)=(zmv l:Int):=by unfold zmv;omega
 rw [zL,if_pos hbo]
 simp (disch:=omega) only [hq1,hq2,hN,qS,seval]
 refine zj (κ:=Nat) (λk=>⟨[(0,.yield),(1,.p (.ip (.i .i64 d) 0)),(2,.p (.ip l.pv 0)),(4,.p (.i .i64 l.from_)),(41,.p (.i .i64 (zmv l))),(42,.p (.i .i64 k))],[],(zsg l d k).map zvZ,false⟩) (λk=>k<=zmv l) (λk=>zmv l - k) 0 ?_ ?_ ?_
 ·refine gJ ?_;simp [zsg]
 ·simp
 ·intro k hk
  repeat' first|refine gC ?_ ?_<;>intro hc<;>try contradiction|refine gG ?_|show AK _;intro K H|refine H _ _ ?_;clear H K|refine gJ ?_;try exact trivial|omega
  ·have hb:=zir h (n:=k) (by omega)
   have hs:=zhS (zyu l d) (show k < zmv l by omega)
   have hs':(zsg l d (zmv l)).map zvZ=(zsg l d k).map zvZ++zvZ (zyu l d k)::((List.range' (k+1) (zmv l - (k+1))).map (zyu l d)).map zvZ:=by simp only [zsg,hs,List.map_append,List.map_cons]
   repeat' first|refine gC ?_ ?_<;>intro hc<;>try contradiction|(show zi _ _ _ _ (⟨_,.callv,_,_,_⟩::_) _ _;refine zgv (by first|rfl|(simp (disch:=omega) only [qG,seval]<;>rfl)) (by simp (disch:=omega) only [qS,seval]) (by simp (disch:=omega) only [qS,seval]<;>rfl) (by simp (disch:=omega) only [qS,seval];try trivial) rfl _ (hs') ?_;intro b;(refine zE ?_))|refine gG ?_|show AK _;intro K H|refine H _ _ ?_;clear H K|refine gJ ?_;try exact trivial|omega
   ·subst hc;exact .inl rfl
   ·subst hc;exact ⟨k+1,by omega,by omega,by simp,by simp [zsg,zjf],rfl⟩
  ·repeat' first|refine gC ?_ ?_<;>intro hc<;>try contradiction|refine gG ?_|show AK _;intro K H|refine H _ _ ?_;clear H K|refine gJ ?_;try exact trivial|omega
   have e:k=zmv l:=by omega
   subst e;exact .inr rfl
theorem znG (l:Lim) (d:Int):Pure Tryz.prog 206 [l.pv,.i .i64 d] (.fn (.func 256) [] [.ip (.i .i64 d) 0,.ip l.pv 0]):=by
 refine zf (cF Tryz.func206 Tryz.f206.eq_1) (by simp) λhw X hX=>?_
 repeat' first|refine gC ?_ ?_<;>intro hc<;>try contradiction|refine gG ?_|show AK _;intro K H|refine H _ _ ?_;clear H K|refine gJ ?_;try exact trivial|omega
 exact .refl _
theorem zlh {α:Type} {l:List α} {j:Nat} {x:α} (h:l[j]?=some x):l=l.take j++x::l.drop (j+1):=by
 obtain ⟨hj,rfl⟩:=List.getElem?_eq_some_iff.1 h
 rw [<-List.drop_eq_getElem_cons hj,List.take_append_drop]
def zac (l:Lim) (k t:ByteArray):Bool:=(decide (l.kind=sT) || decide (l.kind=k)) && (decide (l.term=s0) || decide (l.term=t))
theorem zxl {l:Lim} (h:zaS l=0):l.kind=sA\/l.kind=sD\/l.kind=sT:=by
 unfold zaS at h
 simp only [zp] at h
 have:=h.2.1
 unfold zjk at this
 by_cases hA:l.kind=sA
 ·exact .inl hA
 by_cases hD:l.kind=sD
 ·exact .inr (.inl hD)
 by_cases hT:l.kind=sT
 ·exact .inr (.inr hT)
 rw [if_pos ⟨hA,hD,hT⟩] at this;exact absurd this (by decide)
theorem zi4 (l:Lim) (k t:ByteArray) (h:zaS l=0):Pure Tryz.prog 204 [l.pv,.s k,.s t] (.b (zac l k t)):=by
 refine zf (cF Tryz.func204 Tryz.f204.eq_1) (by simp) λhw X hX=>?_
 rcases zxl h with hk|hk|hk
 ·have hA':(l.kind=sA)=True:=eq_true hk
  have qe:=aI qR @hA';repeat' first|refine gC ?_ ?_<;>intro hc<;>try contradiction|refine za (zc7) ?_|refine zq (znI k sA) ?_|refine gG ?_|show AK _;intro K H|refine H _ _ ?_;clear H K|refine gJ ?_;try exact trivial|omega
  rw [zac,hk,show (decide (sA=sT) || decide (sA=k))=decide (k=sA) by rw [show decide (sA=sT)=false by decide,Bool.false_or];exact decide_eq_decide.2 eq_comm];exact .refl _
 ·have hA':(l.kind=sA)=False:=eq_false (by rw [hk];decide)
  have hD':(l.kind=sD)=True:=eq_true hk
  have qe:=aI qR (aI @hA' @hD');repeat' first|refine gC ?_ ?_<;>intro hc<;>try contradiction|refine za (zc7) ?_|refine zq (znI k sD) ?_|refine gG ?_|show AK _;intro K H|refine H _ _ ?_;clear H K|refine gJ ?_;try exact trivial|omega
  rw [zac,hk,show (decide (sD=sT) || decide (sD=k))=decide (k=sD) by rw [show decide (sD=sT)=false by decide,Bool.false_or];exact decide_eq_decide.2 eq_comm];exact .refl _
 ·have hA':(l.kind=sA)=False:=eq_false (by rw [hk];decide)
  have hD':(l.kind=sD)=False:=eq_false (by rw [hk];decide)
  have hT':(l.kind=sT)=True:=eq_true hk
  have qe:=aI qR (aI @hA' (aI @hD' @hT'));repeat' first|refine gC ?_ ?_<;>intro hc<;>try contradiction|refine za (zc7) ?_|refine zq (zt9 k) ?_|refine gG ?_|show AK _;intro K H|refine H _ _ ?_;clear H K|refine gJ ?_;try exact trivial|omega
  rw [zac,hk,show (decide (sT=sT) || decide (sT=k))=true by rw [decide_eq_true rfl,Bool.true_or],Bool.true_and];exact .refl _
abbrev zfJ (k:ByteArray × ByteArray):PV:=.agg [.s k.1,.s k.2]
abbrev zjM (l:Lim) (k:ByteArray × ByteArray):PV × PV:=(zfJ k,.b (zac l k.1 k.2))
def ofL (l:Lim) (m:List Mov):List Int:=(m.filter λx=>zac l x.kind x.term).map Mov.moment
theorem zsW (a b:ByteArray × ByteArray):eqCells (zfJ a).cells (zfJ b).cells=(decide (a.1=b.1) && decide (a.2=b.2)):=by
 simp only [PV.cells,eqCells,eqPV,Bool.and_true]
theorem zkE (l:Lim) (k:ByteArray × ByteArray):∀ (es:List (ByteArray × ByteArray)),mget (zfJ k) (es.map (zjM l))=none\/mget (zfJ k) (es.map (zjM l))=some (.b (zac l k.1 k.2))
 | []=>.inl rfl
 | e::r=>by
  simp only [List.map_cons,mget,zsW]
  split
  ·rename_i h
   simp only [Bool.and_eq_true,decide_eq_true_eq] at h
   right;rw [h.1,h.2]
  ·exact zkE l k r
theorem zkD (l:Lim) (k:ByteArray × ByteArray):∀ (es:List (ByteArray × ByteArray)),∃ es':List (ByteArray × ByteArray),mput (zfJ k) (.b (zac l k.1 k.2)) (es.map (zjM l))=es'.map (zjM l)
 | []=>⟨[k],rfl⟩
 | e::r=>by
  simp only [List.map_cons,mput,zsW]
  split
  ·exact ⟨k::r,rfl⟩
  ·obtain ⟨es',h⟩:=zkD l k r
   exact ⟨e::es',by rw [h];rfl⟩
theorem zf8 (l:Lim) (k:ByteArray × ByteArray):∀ (es:List (ByteArray × ByteArray)),keysOk [2,2] true (zfJ k) (es.map (zjM l))
 | []=>trivial
 | e::r=>⟨⟨rfl,by simp [PV.cells,eqCellsOk,eqOk]⟩,zf8 l k r⟩
theorem zri {l:Lim} {m:List Mov} {i:Nat} {x:Mov} (hx:m[i]?=some x):ofL l (m.take (i+1))=ofL l (m.take i)++if zac l x.kind x.term then [x.moment] else []:=by
 rw [ofL,List.take_add_one,hx,List.filter_append,List.map_append]
 congr 1
 cases hh:zac l x.kind x.term<;>simp [List.filter_cons,hh]
theorem zsH (l:Lim) (m:List Mov) (h:zaS l=0) (hn:m.length<=1000000):Pure Tryz.prog 205 [l.pv,.sl 7 (m.map Mov.pv)] (.sl 1 ((ofL l m).map (.i .i64))):=by
 refine zf (cF Tryz.func205 Tryz.f205.eq_1) (by simp) λhw X hX=>?_
 simp only [wfs,PV.wf,List.length_map,maxLen] at hw
 repeat' first|refine gC ?_ ?_<;>intro hc<;>try contradiction|refine gG ?_|show AK _;intro K H|refine H _ _ ?_;clear H K|refine gJ ?_;try exact trivial|omega
 refine zaP 100 3 1 [(2,.lp 2 0),(5,.row 100 0),(6,.lm 12),(13,.p (.sl 7 (m.map Mov.pv))),(14,.p (.i .i64 m.length)),(15,.p (.i .i64 0))] [(2,.box (l.cells.map .p) false),(12,.mp [] false)] ?_ ?_
 ·simp only [Own,zaM,zaB,zbt,zay,qS,seval]
 refine zj (κ:=Nat × List (ByteArray × ByteArray)) (λk=>⟨[(2,.lp 2 0),(5,.row 100 (ofL l (m.take k.1)).length),(6,.lm 12),(13,.p (.sl 7 (m.map Mov.pv))),(14,.p (.i .i64 m.length)),(15,.p (.i .i64 k.1))],[(2,.box (l.cells.map .p) false),(12,.mp (k.2.map (zjM l)) false),(100,.row 3 1 ((ofL l (m.take k.1)).map (.i .i64)) false)],[],false⟩) (λk=>k.1<=m.length) (λk=>m.length - k.1) (0,[]) ?_ ?_ ?_
 ·refine gJ ?_;simp [ofL]
 ·simp
 ·intro k hk
  obtain ⟨i,es⟩:=k
  simp only at hk
  have hl:(ofL l (m.take i)).length<=i:=by
   simp only [ofL,List.length_map];exact Nat.le_trans (List.length_filter_le _ _) (by simp;omega)
  repeat first|refine gG ?_|show AK _;intro K H|refine H _ _ ?_;clear H K|refine gJ ?_;try exact trivial|omega
  (refine gC ?_ ?_<;>intro hc<;>try contradiction)
  ·obtain ⟨x,hx⟩:=zm (i:=i) (l:=m) (by omega)
   have hko:keysOk [2,2] true (.agg [.s x.kind,.s x.term]) (es.map (zjM l))=True:=eq_true (zf8 l (x.kind,x.term) es)
   obtain ⟨es',hput⟩:=zkD l (x.kind,x.term) es
   simp only [zfJ] at hput
   have hnx:=zri (l:=l) hx
   rcases zkE l (x.kind,x.term) es with hg|hg
   ·simp only [zfJ] at hg
    have qe:=aI qR (aI @hx (aI @hko (aI @hg @hput)));repeat' first|refine gC ?_ ?_<;>intro hc<;>try contradiction|refine za (zi4 l x.kind x.term h) ?_|refine gG ?_|show AK _;intro K H|refine H _ _ ?_;clear H K|refine gJ ?_;try exact trivial|omega
    ·rw [hc,if_pos rfl] at hnx
     exact ⟨(i+1,es'),by simp only;omega,by simp only;omega,⟨by simp only [hnx];simp,by simp⟩,rfl,by simp only [hnx];simp⟩
    ·rw [hc] at hnx
     exact ⟨(i+1,es'),by simp only;omega,by simp only;omega,⟨by simp only [hnx];simp,by simp⟩,rfl,by simp only [hnx];simp⟩
   ·simp only [zfJ] at hg
    have qe:=aI qR (aI @hx (aI @hko @hg));repeat' first|refine gC ?_ ?_<;>intro hc<;>try contradiction|refine gG ?_|show AK _;intro K H|refine H _ _ ?_;clear H K|refine gJ ?_;try exact trivial|omega
    ·rw [hc,if_pos rfl] at hnx
     exact ⟨(i+1,es),by simp only;omega,by simp only;omega,⟨by simp only [hnx];simp,by simp⟩,rfl,by simp only [hnx];simp⟩
    ·rw [hc] at hnx
     exact ⟨(i+1,es),by simp only;omega,by simp only;omega,⟨by simp only [hnx];simp,by simp⟩,rfl,by simp only [hnx];simp⟩
  ·repeat' first|refine gC ?_ ?_<;>intro hc<;>try contradiction|refine gG ?_|show AK _;intro K H|refine H _ _ ?_;clear H K|refine gJ ?_;try exact trivial|omega
   have e:i=m.length:=by omega
   subst e;rw [List.take_length];exact .refl _
end Go.Proofs.YtijgimeokgbifaaGreat
