/- Contracts of functions that the proof uses, shared by the claims of this seat; no statement of its own. Part 71. No conditions. -/
import Derived.ProofKit
import Derived.OpenShut
import Derived.Carry
import Derived.OpenVars
import Derived.HandedShaped
import Derived.KernelRfl
import Derived.Laws.RangeAny
import Derived.Test.YtahmdjadnlpjoaaGreatX0
set_option linter.all false
set_option maxHeartbeats 8000000
namespace Go.Proofs.YtahmdjadnlpjoaaGreat
open Go.RowKit
set_option maxRecDepth 100000
set_option linter.unusedVariables false
set_option linter.unusedSimpArgs false
set_option maxHeartbeats 2000000
theorem allI (L:List Int):L.all ((fun x=>x.cells.all PV.one) ∘ PV.i IntKind.i64)=true:=by rw [List.all_eq_true];intro x _;rfl
def ya7 (l:Lim) (d:Int) (k:Nat):List Int:=(List.range k).flatMap fun (j:Nat)=>if (l.fro+j) % l.step=0 then [1440*d+(l.fro+j)] else []
theorem yN (l:Lim) (d:Int) (k:Nat):ya7 l d (k+1)=ya7 l d k++if (l.fro+k) % l.step=0 then [1440*d+(l.fro+k)] else []:=by rw [ya7,zab,←ya7]
theorem ybE (l:Lim) (d:Int) (k:Nat):(ya7 l d k).length≤k:=by
 induction k with
 | zero=>simp [ya7]
 | succ k ih=>rw [yN,List.length_append];split<;>simp<;>omega
theorem ycT {x s:Int} (hs:0 < s):(x+s - 1) / s=if x % s=0 then x / s else x / s+1:=by
 have h1:=Int.mul_ediv_add_emod x s
 have h2:=Int.emod_nonneg x (show s≠0 by omega)
 have h3:=Int.emod_lt_of_pos x hs
 split
 ·rename_i h
  rw [show x+s - 1=(s - 1)+s*(x / s) by omega,Int.add_mul_ediv_left _ _ (by omega),Int.ediv_eq_zero_of_lt (by omega) (by omega)];omega
 ·rename_i h
  rw [show x+s - 1=(x % s - 1)+s*(x / s+1) by rw [Int.mul_add];omega,Int.add_mul_ediv_left _ _ (by omega),Int.ediv_eq_zero_of_lt (by omega) (by omega)];omega
theorem ycv {l:Lim} (h:0 < l.step) (d:Int) (k:Nat):ya7 l d k=(List.range ((l.fro+k+l.step - 1) / l.step - l.from_).toNat).map (begV l d)∧l.from_≤(l.fro+k+l.step - 1) / l.step:=by
 induction k with
 | zero=>simp [ya7,Lim.from_]
 | succ k ih=>
  obtain ⟨ih,hge⟩:=ih
  have hn:(l.fro+(k+1:Nat)+l.step - 1) / l.step=(l.fro+k) / l.step+1:=by
   rw [show l.fro+((k+1:Nat):Int)+l.step - 1=l.fro+k+1*l.step by omega,Int.add_mul_ediv_right _ _ (by omega)]
  rw [hn,yN,ih]
  have hc:=ycT (x:=l.fro+k) h
  rw [hc] at hge ⊢
  by_cases hm:(l.fro+k) % l.step=0
  ·rw [if_pos hm] at hge
   rw [if_pos hm,if_pos hm]
   have e:((l.fro+k) / l.step+1 - l.from_).toNat=((l.fro+k) / l.step - l.from_).toNat+1:=by omega
   refine ⟨?_,by omega⟩
   rw [e,mrange_next,begV,Int.toNat_of_nonneg (by omega),show l.from_+((l.fro+k) / l.step - l.from_)=(l.fro+k) / l.step by omega]
   have:=Int.mul_ediv_add_emod (l.fro+k) l.step
   rw [show l.step*((l.fro+k) / l.step)=l.fro+k by omega]
  ·rw [if_neg hm] at hge
   rw [if_neg hm,if_neg hm]
   exact ⟨by simp,hge⟩
theorem ycu {l:Lim} (h:zaS l=0) (d:Int):ya7 l d (l.to - l.fro+1).toNat=begK l d (begN l):=by
 have hl:=chkLim_0 h
 rw [(ycv (l:=l) (by omega) d _).1,begK,begN]
 have e:(l.fro+((l.to - l.fro+1).toNat:Nat)+l.step - 1) / l.step=l.to / l.step+1:=by
  rw [show l.fro+(((l.to - l.fro+1).toNat:Nat):Int)+l.step - 1=l.to+1*l.step by omega,Int.add_mul_ediv_right _ _ (by omega)]
 rw [e,show (l.to / l.step+1 - l.from_).toNat=(max 0 (l.to / l.step - l.from_+1)).toNat by omega]
theorem pure36 (l:Lim) (d:Int) (h:zaS l=0) (h0:0≤d) (h1:d≤99999):Pure Tryz.prog 223 [l.pv,.i .i64 d] (.sl 1 ((begK l d (begN l)).map (.i .i64))):=by
 have hl:=chkLim_0 h
 refine zf (cF Tryz.func223 Tryz.f223.eq_1) (by simp) fun hw X hX=>?_
 repeat' first|refine gC (fun hc=>?_) (fun hc=>?_)<;>try contradiction|refine gG ?_|show AK _;intro K H|refine H _ _ ?_;clear H K|refine gJ ?_;try exact trivial|omega
 refine zaO 100 3 1 [(1,.p (.i .i64 d)),(2,.lp 2 0),(5,.row 100 0),(6,.p (.i .i64 l.fro))] [(2,.box (l.cells.map .p) false)] ?_ ?_
 ·simp only [Own,zaL,zaB,zbt,zay,qS,Nat.reduceAdd,Nat.reduceMul,Nat.reduceEqDiff,Nat.reduceLeDiff,reduceIte,reduceCtorEq,Nat.reduceBEq,Nat.reduceLT]
 refine zk (κ:=Nat) (fun k=>⟨[(1,.p (.i .i64 d)),(2,.lp 2 0),(5,.row 100 (ya7 l d k).length),(6,.p (.i .i64 (l.fro+k)))],[(2,.box (l.cells.map .p) false),(100,.row 3 1 ((ya7 l d k).map (.i .i64)) false)],[],false⟩) (fun k=>k≤(l.to - l.fro+1).toNat) (fun k=>(l.to - l.fro+1).toNat - k) 0 ?_ ?_ ?_
 ·refine gJ ?_;simp [ya7]
 ·simp
 ·intro k hk
  have hll:=ybE l d k
  have hq:(l.fro+k).tmod l.step=(l.fro+k) % l.step:=Int.tmod_eq_emod_of_nonneg (by omega)
  have hnx:=yN l d k
  have qe:=aI qR @hq;repeat' first|refine gC (fun hc=>?_) (fun hc=>?_)<;>try contradiction|refine gG ?_|show AK _;intro K H|refine H _ _ ?_;clear H K|refine gJ ?_;try exact trivial|omega
  ·rw [if_pos hc] at hnx
   exact ⟨k+1,by omega,by omega,⟨by rw [hnx];simp,by simp;omega⟩,by rw [hnx];simp⟩
  ·rw [if_neg hc,List.append_nil] at hnx
   exact ⟨k+1,by omega,by omega,⟨by rw [hnx],by simp;omega⟩,by rw [hnx]⟩
  ·have e:k=(l.to - l.fro+1).toNat:=by omega
   subst e;rw [ycu h];exact .refl _
theorem yak {p:Per} (h:zau p=0) (d:Int):hasB p d=decide (d ∈ zY p):=by
 have hp:=zaX h
 by_cases hm:d ∈ zY p
 ·have:=daysL_mem hm
  rw [decide_eq_true hm]
  have he:hasE p d=0:=by rw [hasE];simp only [zq,rng_0];exact ⟨by assumption,⟨by omega,by omega⟩,rfl⟩
  simp [hasB,he,hasD,this]
 ·rw [decide_eq_false hm]
  cases hb:hasB p d
  ·rfl
  ·exfalso;apply hm
   simp only [hasB,hasD,Bool.and_eq_true,decide_eq_true_eq] at hb
   refine List.mem_flatMap.2 ⟨(d - p.fro).toNat,List.mem_range.2 (by omega),?_⟩
   rw [Int.toNat_of_nonneg (by omega),show p.fro+(d - p.fro)=d by omega,if_pos hb.2.2]
   simp
theorem yr {α β:Type} {f g:α→List β}:∀ {l:List α},(∀ x ∈ l,f x=g x)→l.flatMap f=l.flatMap g
 | [],_=>rfl
 | x::r,h=>by rw [List.flatMap_cons,List.flatMap_cons,h x (by simp),yr fun y hy=>h y (by simp [hy])]
theorem yaD {l:Lim} (h:zaS l=0) (d:Int):zM l d=if d ∈ zY l.per then begK l d (begN l) else []:=by
 have hl:=chkLim_0 h
 have hb:=yak hl.2.2.2.2.2.2.2.1 d
 by_cases hm:d ∈ zY l.per
 ·have hd:=daysL_mem hm
  rw [zM,if_pos hm,if_pos]
  rw [decide_eq_true hm] at hb
  simp only [begOk,hb,Bool.not_true,Bool.or_false,Bool.not_eq_true',Bool.or_eq_false_iff,decide_eq_false_iff_not];omega
 ·rw [zM,if_neg hm,if_neg]
  rw [decide_eq_false hm] at hb
  simp [begOk,hb]
theorem yaW {l:Lim} (h:zaS l=0):ya l=(zY l.per).flatMap fun d=>begK l d (begN l):=by
 have hl:=chkLim_0 h
 have hp:=hl.2.2.2.2.2.2.2.1
 unfold ya winK winN zY
 rw [List.flatMap_assoc]
 refine yr fun k hk=>?_
 have hk:=List.mem_range.1 hk
 rw [yaD h]
 have hb:=yak hp (l.per.fro+k)
 have hpp:=zaX hp
 have he:hasE l.per (l.per.fro+k)=0:=by rw [hasE];simp only [zq,rng_0];exact ⟨by assumption,⟨by omega,by omega⟩,rfl⟩
 have hi:hasB l.per (l.per.fro+k)=inM l.per.days ((l.per.fro+k+5) % 7):=by
  simp only [hasB,he,hasD,decide_true,Bool.true_and,show l.per.fro≤l.per.fro+(k:Int) by omega,show l.per.fro+(k:Int)≤l.per.to by omega]
 rw [hi] at hb
 rw [hb]
 simp only [decide_eq_true_eq]
 split<;>simp
theorem pure39 (l:Lim) (h:zaS l=0):Pure Tryz.prog 152 [l.pv] (.sl 1 ((ya l).map (.i .i64))):=by
 have hl:=chkLim_0 h
 have hpp:=zaX hl.2.2.2.2.2.2.2.1
 have hdl:=daysL_len l.per
 refine zf (cF Tryz.func152 Tryz.f152.eq_1) (by simp) fun hw X hX=>?_
 repeat' first|refine gC (fun hc=>?_) (fun hc=>?_)<;>try contradiction|refine za (yae l.per hl.2.2.2.2.2.2.2.1) ?_|refine gG ?_|show AK _;intro K H|refine H _ _ ?_;clear H K|refine gJ ?_;try exact trivial|omega
 refine zaO 100 3 1 [(1,.lp 1 0),(3,.p (.sl 1 ((zY l.per).map (.i .i64)))),(4,.row 100 0),(5,.p (.i .i64 0))] [(1,.box (l.cells.map .p) false)] ?_ ?_
 ·simp only [Own,zaL,zaB,zbt,zay,qS,Nat.reduceAdd,Nat.reduceMul,Nat.reduceEqDiff,Nat.reduceLeDiff,reduceIte,reduceCtorEq,Nat.reduceBEq,Nat.reduceLT]
 refine zk (κ:=Nat) (fun k=>⟨[(1,.lp 1 0),(3,.p (.sl 1 ((zY l.per).map (.i .i64)))),(4,.row 100 (((zY l.per).take k).flatMap fun d=>begK l d (begN l)).length),(5,.p (.i .i64 k))],[(1,.box (l.cells.map .p) false),(100,.row 3 1 ((((zY l.per).take k).flatMap fun d=>begK l d (begN l)).map (.i .i64)) false)],[],false⟩) (fun k=>k≤(zY l.per).length) (fun k=>(zY l.per).length - k) 0 ?_ ?_ ?_
 ·exact sS
 ·simp
 ·intro k hk
  repeat first|refine gG ?_|show AK _;intro K H|refine H _ _ ?_;clear H K|refine gJ ?_;try exact trivial|omega
  (refine gC (fun hc=>?_) (fun hc=>?_)<;>try contradiction)
  ·obtain ⟨d,hd⟩:=zn (i:=k) (l:=zY l.per) (by omega)
   have hdm:=daysL_mem (List.mem_of_getElem? hd)
   have hnx:=flat_take (fun d=>begK l d (begN l)) hd
   have hbn:begN l≤1440:=by
    have h1:0≤l.from_:=Int.ediv_nonneg (by omega) (by omega)
    have h2:l.to / l.step≤l.to:=Int.ediv_le_self _ (by omega)
    unfold begN;omega
   have hfl:(((zY l.per).take k).flatMap fun d=>begK l d (begN l)).length≤((zY l.per).take k).length*1440:=by
    exact flat_le fun d _=>by simp only [begK,List.length_map,List.length_range];exact hbn
   have hbl:(begK l d (begN l)).length≤1440:=by simp only [begK,List.length_map,List.length_range];exact hbn
   simp only [List.length_take] at hfl
   have qe:=aI qR (aI @hd @allI);repeat' first|refine gC (fun hc=>?_) (fun hc=>?_)<;>try contradiction|refine za (pure36 l d h (by omega) (by omega)) ?_|refine gG ?_|show AK _;intro K H|refine H _ _ ?_;clear H K|refine gJ ?_;try exact trivial|omega
   exact ⟨k+1,by omega,by omega,⟨by rw [hnx,List.length_append],by simp⟩,by rw [hnx,List.map_append]⟩
  ·repeat' first|refine gC (fun hc=>?_) (fun hc=>?_)<;>try contradiction|refine gG ?_|show AK _;intro K H|refine H _ _ ?_;clear H K|refine gJ ?_;try exact trivial|omega
   have e:k=(zY l.per).length:=by omega
   subst e;rw [List.take_length,yaW h];exact .refl _
set_option maxRecDepth 100000
set_option linter.unusedVariables false
set_option linter.unusedSimpArgs false
set_option maxHeartbeats 2000000
theorem yb9 (l:Lim) (m:Mov):Pure Tryz.prog 140 [l.pv,m.pv] (.b (zac l m.kind m.term)):=by
 refine zf (cF Tryz.func140 Tryz.f140.eq_1) (by simp) fun hw X hX=>?_
 repeat' first|refine gC (fun hc=>?_) (fun hc=>?_)<;>try contradiction|refine gG ?_|show AK _;intro K H|refine H _ _ ?_;clear H K|refine gJ ?_;try exact trivial|omega
 exact .refl _
theorem ybf (l:Lim) (b x:Int) (h0:0≤b) (h1:b≤1000000000) (h2:1≤l.len) (h3:l.len≤1440):Pure Tryz.prog 139 [l.pv,.i .i64 b,.i .i64 x] (.b (decide (b≤x) && decide (x < b+l.len))):=by
 refine zf (cF Tryz.func139 Tryz.f139.eq_1) (by simp) fun hw X hX=>?_
 repeat' first|refine gC (fun hc=>?_) (fun hc=>?_)<;>try contradiction|refine gG ?_|show AK _;intro K H|refine H _ _ ?_;clear H K|refine gJ ?_;try exact trivial|omega
 exact .refl _
def inW (l:Lim) (b:Int) (x:Mov):Bool:=zac l x.kind x.term && (decide (b≤x.moment) && decide (x.moment < b+l.len))
theorem yY {l:Lim} (h:0≤l.len) (b:Int):∀ m:List Mov,zbs l m b=((m.filter (inW l b)).length:Int)
 | []=>by simp [zbs,cntW,ofL,ltN]
 | x::r=>by
  have ih:=yY h b r
  simp only [zbs,cntW,ofL,List.filter_cons,inW] at ih ⊢
  by_cases hc:zac l x.kind x.term=true
  ·simp only [hc,if_true,List.map_cons,ltN,List.filter_cons,Bool.true_and,decide_eq_true_eq,Bool.and_eq_true] at ih ⊢
   (repeat' split)<;>(try simp only [List.length_cons])<;>omega
  ·simp only [Bool.not_eq_true] at hc
   simp only [hc,Bool.false_eq_true,if_false,Bool.false_and]
   exact ih
theorem pure37 (l:Lim) (m:List Mov) (b:Int) (h:zaS l=0) (hm:m.length≤1000000) (h0:0≤b) (h1:b≤1000000000):Pure Tryz.prog 153 [l.pv,.sl 7 (m.map Mov.pv),.i .i64 b] (.i .i64 (zbs l m b)):=by
 have hl:=chkLim_0 h
 rw [yY (by omega)]
 refine zf (cF Tryz.func153 Tryz.f153.eq_1) (by simp) fun hw X hX=>?_
 repeat' first|refine gC (fun hc=>?_) (fun hc=>?_)<;>try contradiction|refine gG ?_|show AK _;intro K H|refine H _ _ ?_;clear H K|refine gJ ?_;try exact trivial|omega
 refine zk (κ:=Nat) (fun k=>⟨[(1,.p (.sl 7 (m.map Mov.pv))),(2,.p (.i .i64 b)),(3,.lp 3 0),(7,.p (.i .i64 ((m.take k).filter (inW l b)).length)),(8,.p (.i .i64 k))],[(3,.box (l.cells.map .p) false)],[],false⟩) (fun k=>k≤m.length) (fun k=>m.length - k) 0 ?_ ?_ ?_
 ·exact sS
 ·simp
 ·intro k hk
  have hfl:=filter_tlen (p:=inW l b) (l:=m) (k:=k)
  repeat first|refine gG ?_|show AK _;intro K H|refine H _ _ ?_;clear H K|refine gJ ?_;try exact trivial|omega
  (refine gC (fun hc=>?_) (fun hc=>?_)<;>try contradiction)
  ·obtain ⟨x,hx⟩:=zn (i:=k) (l:=m) (by omega)
   have hnx:=filter_take (p:=inW l b) hx
   have qe:=aI qR @hx;repeat' first|refine gC (fun hc=>?_) (fun hc=>?_)<;>try contradiction|refine za (yb9 l x) ?_|(show zj _ _ _ _ (⟨_,.call 139,_,_,_⟩::_) _ _;refine zbj (hf:=fun hc=>(by first|exact ybf l b x.moment (by omega) (by omega) (by omega) (by omega)|(simp only [qH,rng_0] at hc;exact ybf l b x.moment (by omega) (by omega) (by omega) (by omega)))) (hn:=?_))|refine gG ?_|show AK _;intro K H|refine H _ _ ?_;clear H K|refine gJ ?_;try exact trivial|omega
   ·have hi:inW l b x=true:=by simp only [inW,Bool.and_eq_true,decide_eq_true_eq];exact hc
    rw [hi,if_pos rfl] at hnx
    exact ⟨k+1,by omega,by omega,by rw [hnx];simp,by simp⟩
   ·have hi:inW l b x=false:=by
     cases hh:inW l b x
     ·rfl
     ·simp only [inW,Bool.and_eq_true,decide_eq_true_eq] at hh
      have:=hc hh.1 hh.2.1
      omega
    rw [hi] at hnx
    exact ⟨k+1,by omega,by omega,by rw [hnx];simp,by simp⟩
  ·repeat' first|refine gC (fun hc=>?_) (fun hc=>?_)<;>try contradiction|refine gG ?_|show AK _;intro K H|refine H _ _ ?_;clear H K|refine gJ ?_;try exact trivial|omega
   have e:k=m.length:=by omega
   subst e;rw [List.take_length];exact .refl _
theorem yM {l:Lim} (h:zaS l=0):(ya l).length≤577440:=by
 have hp:=zaX (chkLim_0 h).2.2.2.2.2.2.2.1
 have h1:(ya l).length≤(List.range (winN l)).length*1440:=flat_le fun k _=>beginsL_len h _
 simp only [List.length_range] at h1
 unfold winN at h1
 omega
def badLim (l:Lim):Bool:=((decide ((40:Int) < l.name.size) || decide ((40:Int) < l.kind.size)) || decide ((40:Int) < l.term.size)) || !fewB l.per 24
theorem yaS {x:Lim} (h:(((40:Int) < x.name.size∨(40:Int) < x.kind.size)∨(40:Int) < x.term.size)∨fewB x.per 24=false):badLim x=true:=by
 simp only [badLim,Bool.or_eq_true,decide_eq_true_eq,Bool.not_eq_true'];exact h
theorem yaT {x:Lim} (h:(((x.name.size:Int)≤40∧(x.kind.size:Int)≤40)∧(x.term.size:Int)≤40)∧fewB x.per 24=true):badLim x=false:=by
 simp only [badLim,Bool.or_eq_false_iff,decide_eq_false_iff_not,Bool.not_eq_false',Int.not_lt];exact h
def ycC (x:Lim):Int:=if zaS x=0 then (begN x:Int)*(zY x.per).length else 0
def ya5 (l:List Lim) (k:Nat):Int:=(l.take k).foldl (fun a x=>a+ycC x) 0
def longL (l:List Lim) (n:Int):Bool:=(decide (n < l.length) && decide ((l.length:Int)≤32)) || decide (34 < (l.length:Int))
def yE (l:List Lim) (n:Int):Bool:=!longL l n && ((l.all fun x=>!badLim x) && decide (ya5 l l.length≤400))
theorem yad {l:List Lim} {k:Nat} {x:Lim} (h:l[k]?=some x):ya5 l (k+1)=ya5 l k+ycC x:=by
 rw [ya5,List.take_add_one,h,List.foldl_append];rfl
theorem yby {l:Lim} (h:zaS l=0):begN l≤1440:=by
 have hl:=chkLim_0 h
 have h1:0≤l.from_:=Int.ediv_nonneg (by omega) (by omega)
 have h2:l.to / l.step≤l.to:=Int.ediv_le_self _ (by omega)
 unfold begN;omega
theorem ybn (x:Lim):0≤ycC x∧ycC x≤577440:=by
 unfold ycC
 split
 ·rename_i h
  have h1:=yby h
  have hp:=zaX (chkLim_0 h).2.2.2.2.2.2.2.1
  have h2:=daysL_len x.per
  have h3:(zY x.per).length≤401:=by omega
  have h4:begN x*(zY x.per).length≤1440*401:=Nat.mul_le_mul h1 h3
  omega
 ·omega
theorem ycp (l:List Lim) (k:Nat):0≤ya5 l k∧ya5 l k≤k*577440:=by
 induction k with
 | zero=>simp [ya5]
 | succ k ih=>
  by_cases hk:k < l.length
  ·rw [yad (List.getElem?_eq_getElem hk)]
   have:=ybn l[k]
   omega
  ·have:ya5 l (k+1)=ya5 l k:=by rw [ya5,ya5,List.take_of_length_le (by omega),List.take_of_length_le (by omega)]
   omega
theorem pure15 (l:List Lim) (n:Int):Pure Tryz.prog 112 [.sl 11 (l.map Lim.pv),.i .i64 n] (.b (yE l n)):=by
 refine zf (cF Tryz.func112 Tryz.f112.eq_1) (by simp) fun hw X hX=>?_
 simp only [wfs,PV.wf,List.length_map,maxLen] at hw
 repeat' first|refine gC (fun hc=>?_) (fun hc=>?_)<;>try contradiction|refine gG ?_|show AK _;intro K H|refine H _ _ ?_;clear H K|refine gJ ?_;try exact trivial|omega
 ·have:longL l n=true:=by simpa [longL] using hc
  rw [yE,this];exact .refl _
 have hsh:longL l n=false:=by simpa [longL] using hc
 have h34:l.length≤34:=by omega
 refine zk (κ:=Nat) (fun i=>⟨[(0,.p (.sl 11 (l.map Lim.pv))),(5,.p (.i .i64 (ya5 l i))),(6,.p (.i .i64 i))],[],[],false⟩) (fun i=>i≤l.length∧∀ x ∈ l.take i,(!badLim x)=true) (fun i=>l.length - i) 0 ?_ ?_ ?_
 ·simp only [qS,Nat.reduceAdd,Nat.reduceMul,Nat.reduceEqDiff,Nat.reduceLeDiff,reduceIte,reduceCtorEq,Nat.reduceBEq,Nat.reduceLT]<;>exact ⟨rfl,rfl⟩
 ·simp
 ·intro i hi
  have hsb:=ycp l i
  repeat first|refine gG ?_|show AK _;intro K H|refine H _ _ ?_;clear H K|refine gJ ?_;try exact trivial|omega
  (refine gC (fun hc=>?_) (fun hc=>?_)<;>try contradiction)
  ·obtain ⟨x,hx⟩:=zn (i:=i) (l:=l) (by omega)
   have hsn:=yad hx
   have hlb:=ybn x
   by_cases h0:zaS x=0
   ·have h0':=eq_true h0
    have hlx:=chkLim_0 h0
    have hbn:=yby h0
    have hdn:=daysL_len x.per
    have hpp:=zaX hlx.2.2.2.2.2.2.2.1
    rw [ycC,if_pos h0] at hsn hlb
    have qe:=aI qR (aI @hx @h0');repeat' first|refine gC (fun hc=>?_) (fun hc=>?_)<;>try contradiction|refine za (ybg x) ?_|refine za (pure76 x h0) ?_|refine za (yae x.per hlx.2.2.2.2.2.2.2.1) ?_|refine zN (fun _=>yca x.per 24) ?_|refine gG ?_|show AK _;intro K H|refine H _ _ ?_;clear H K|refine gJ ?_;try exact trivial|omega
    ·rw [yE,hsh,yT hx (by rw [yaS hc];rfl)];exact .refl _
    ·exact ⟨i+1,⟨by omega,fun y hy=>by simpa using yn (p:=fun x=>!badLim x) (fun y hy=>by simpa using hi.2 y hy) hx (by rw [yaT (by assumption)];rfl) y hy⟩,by omega,by rw [hsn],by simp⟩
   ·have h0':=eq_false h0
    rw [ycC,if_neg h0] at hsn hlb
    have qe:=aI qR (aI @hx @h0');repeat' first|refine gC (fun hc=>?_) (fun hc=>?_)<;>try contradiction|refine za (ybg x) ?_|refine zN (fun _=>yca x.per 24) ?_|refine gG ?_|show AK _;intro K H|refine H _ _ ?_;clear H K|refine gJ ?_;try exact trivial|omega
    ·rw [yE,hsh,yT hx (by rw [yaS hc];rfl)];exact .refl _
    ·exact ⟨i+1,⟨by omega,fun y hy=>by simpa using yn (p:=fun x=>!badLim x) (fun y hy=>by simpa using hi.2 y hy) hx (by rw [yaT (by assumption)];rfl) y hy⟩,by omega,by rw [hsn,Int.add_zero],by simp⟩
  ·repeat' first|refine gC (fun hc=>?_) (fun hc=>?_)<;>try contradiction|refine gG ?_|show AK _;intro K H|refine H _ _ ?_;clear H K|refine gJ ?_;try exact trivial|omega
   have e:i=l.length:=by omega
   subst e
   rw [yE,hsh,yD hi.2];exact .refl _
set_option maxRecDepth 100000
set_option linter.unusedVariables false
set_option linter.unusedSimpArgs false
set_option maxHeartbeats 2000000
theorem yaY {ls:List Lim} {W:List Win} {k:Nat} {w:Win} (h:W[k]?=some w):roomK ls (W.take (k+1))=roomStep ls (roomK ls (W.take k)) w:=by
 rw [roomK,List.take_add_one,h,List.foldl_append];rfl
theorem ybt {l:Lim} {m:List Mov} (h2:zad m=0) (b:Int):-30000≤zbs l m b∧zbs l m b≤30000:=by
 have hm:=zaR h2
 have h1:=ofL_len (l:=l) (m:=m)
 have h3:=ltN_le (ofL l m) b
 have h4:=ltN_le (ofL l m) (b+l.len)
 unfold zbs cntW
 omega
set_option maxRecDepth 100000
set_option linter.unusedVariables false
set_option linter.unusedSimpArgs false
set_option maxHeartbeats 2000000
theorem ybh (r:Req) (h:chkReq r=0):Pure Tryz.prog 97 [r.pv] (.sl 7 ((movsL r).map Mov.pv)):=by
 have hr:=chkReq_0 h
 have hp:=zaX hr.1
 have hdl:=daysL_len r.per
 refine zf (cF Tryz.func97 Tryz.f97.eq_1) (by simp) fun hw X hX=>?_
 have qe:=@qR;repeat' first|refine gC (fun hc=>?_) (fun hc=>?_)<;>try contradiction|refine za (yae r.per hr.1) ?_|refine gG ?_|show AK _;intro K H|refine H _ _ ?_;clear H K|refine gJ ?_;try exact trivial|omega
 refine zaO 100 180 7 [(1,.lp 1 0),(3,.p (.sl 1 ((zY r.per).map (.i .i64)))),(4,.row 100 0),(5,.p (.i .i64 0))] [(1,.box ([.s r.name,.s r.carrier,.s r.kind,.s r.term,.s r.partner,.s r.link,.i .i64 r.per.fro,.i .i64 r.per.to,.i .i64 r.per.days,.i .i64 r.minute,.i .i64 r.seats,.i .i64 r.size,.i .i64 r.noise].map .p) false)] ?_ ?_
 ·simp only [Own,zaL,zaB,zbt,zay,qS,Nat.reduceAdd,Nat.reduceMul,Nat.reduceEqDiff,Nat.reduceLeDiff,reduceIte,reduceCtorEq,Nat.reduceBEq,Nat.reduceLT]
 refine zk (κ:=Nat) (fun k=>⟨[(1,.lp 1 0),(3,.p (.sl 1 ((zY r.per).map (.i .i64)))),(4,.row 100 ((zY r.per).take k).length),(5,.p (.i .i64 k))],[(1,.box ([.s r.name,.s r.carrier,.s r.kind,.s r.term,.s r.partner,.s r.link,.i .i64 r.per.fro,.i .i64 r.per.to,.i .i64 r.per.days,.i .i64 r.minute,.i .i64 r.seats,.i .i64 r.size,.i .i64 r.noise].map .p) false),(100,.row 180 7 ((((zY r.per).take k).map (movOf r)).map Mov.pv) false)],[],false⟩) (fun k=>k≤(zY r.per).length) (fun k=>(zY r.per).length - k) 0 ?_ ?_ ?_
 ·exact sS
 ·simp
 ·intro k hk
  repeat first|refine gG ?_|show AK _;intro K H|refine H _ _ ?_;clear H K|refine gJ ?_;try exact trivial|omega
  (refine gC (fun hc=>?_) (fun hc=>?_)<;>try contradiction)
  ·obtain ⟨d,hx⟩:=zn (i:=k) (l:=zY r.per) (by omega)
   have hdm:=daysL_mem (List.mem_of_getElem? hx)
   have hlt:=take_len hx
   have qe:=aI qR @hx;repeat' first|refine gC (fun hc=>?_) (fun hc=>?_)<;>try contradiction|refine gG ?_|show AK _;intro K H|refine H _ _ ?_;clear H K|refine gJ ?_;try exact trivial|omega
   exact ⟨k+1,by omega,by omega,⟨by rw [List.take_add_one,hx,List.length_append];rfl,by simp⟩,by rw [take_snoc (movOf r) hx];simp [movOf]⟩
  ·repeat' first|refine gC (fun hc=>?_) (fun hc=>?_)<;>try contradiction|refine gG ?_|show AK _;intro K H|refine H _ _ ?_;clear H K|refine gJ ?_;try exact trivial|omega
   have e:k=(zY r.per).length:=by omega
   subst e;rw [List.take_length];exact .refl _
def wiL (m:List Mov) (o:Mov) (i:Nat) (l:Lim):List Win:=if zac l o.kind o.term then (ya l).flatMap (arB m o i l) else []
def wiI (ls:List Lim) (m:List Mov) (o:Mov) (i:Nat):List Win:=match ls[i]? with|some l=>wiL m o i l|none=>[]
def wiK (ls:List Lim) (m:List Mov) (o:Mov) (k:Nat):List Win:=(List.range k).flatMap (wiI ls m o)
def wiW (ls:List Lim) (m:List Mov) (o:Mov):List Win:=wiK ls m o ls.length
theorem ycj {l:Lim} (h:zaS l=0) (m:List Mov) (o:Mov) (i:Nat):(wiL m o i l).length≤577440:=by
 unfold wiL
 split
 ·have h1:((ya l).flatMap (arB m o i l)).length≤(ya l).length*1:=flat_le fun b _=>by unfold arB;split<;>simp
  have:=yM h
  omega
 ·simp
theorem yck {ls:List Lim} (h:∀ l ∈ ls,zaS l=0) (m:List Mov) (o:Mov) (k:Nat):(wiK ls m o k).length≤k*577440:=by
 have h1:(wiK ls m o k).length≤(List.range k).length*577440:=flat_le fun i _=>by
  unfold wiI
  split
  ·rename_i l hl;exact ycj (h l (List.mem_of_getElem? hl)) m o i
  ·simp
 simpa using h1
theorem ybk (ls:List Lim) (m:List Mov) (o:Mov) (hn:ls.length≤32) (h:∀ l ∈ ls,zaS l=0) (hm:m.length≤1000000):Pure Tryz.prog 194 [.sl 11 (ls.map Lim.pv),.sl 7 (m.map Mov.pv),o.pv] (.sl 3 ((wiW ls m o).map Win.pv)):=by
 refine zf (cF Tryz.func194 Tryz.f194.eq_1) (by simp) fun hw X hX=>?_
 repeat' first|refine gC (fun hc=>?_) (fun hc=>?_)<;>try contradiction|refine gG ?_|show AK _;intro K H|refine H _ _ ?_;clear H K|refine gJ ?_;try exact trivial|omega
 refine zaO 100 194 3 [(0,.p (.sl 11 (ls.map Lim.pv))),(1,.p (.sl 7 (m.map Mov.pv))),(5,.lp 5 0),(7,.row 100 0),(8,.p (.i .i64 0))] [(5,.box ([.i .i64 o.moment,.s o.kind,.s o.term,.i .i64 o.seats,.i .i64 o.size,.i .i64 o.noise,.s o.name].map .p) false)] ?_ ?_
 ·simp only [Own,zaL,zaB,zbt,zay,qS,Nat.reduceAdd,Nat.reduceMul,Nat.reduceEqDiff,Nat.reduceLeDiff,reduceIte,reduceCtorEq,Nat.reduceBEq,Nat.reduceLT]
 refine zk (κ:=Nat) (fun k=>⟨[(0,.p (.sl 11 (ls.map Lim.pv))),(1,.p (.sl 7 (m.map Mov.pv))),(5,.lp 5 0),(7,.row 100 (wiK ls m o k).length),(8,.p (.i .i64 k))],[(5,.box ([.i .i64 o.moment,.s o.kind,.s o.term,.i .i64 o.seats,.i .i64 o.size,.i .i64 o.noise,.s o.name].map .p) false),(100,.row 194 3 ((wiK ls m o k).map Win.pv) false)],[],false⟩) (fun k=>k≤ls.length) (fun k=>ls.length - k) 0 ?_ ?_ ?_
 ·refine gJ ?_;simp [wiK]
 ·simp
 ·intro k hk
  repeat first|refine gG ?_|show AK _;intro K H|refine H _ _ ?_;clear H K|refine gJ ?_;try exact trivial|omega
  (refine gC (fun hc=>?_) (fun hc=>?_)<;>try contradiction)
  ·obtain ⟨l,hx⟩:=zn (i:=k) (l:=ls) (by omega)
   have h1:=h l (List.mem_of_getElem? hx)
   have hlm:=chkLim_0 h1
   have hi:wiI ls m o k=wiL m o k l:=by rw [wiI,hx]
   have hkl:=yck h m o k
   have hwl:=yM h1
   have qe:=aI qR @hx;repeat' first|refine gC (fun hc=>?_) (fun hc=>?_)<;>try contradiction|refine za (yb9 l o) ?_|refine za (pure39 l h1) ?_|refine gG ?_|show AK _;intro K H|refine H _ _ ?_;clear H K|refine gJ ?_;try exact trivial|omega
   ·have ha:wiL m o k l=[]:=by rw [wiL,hc];rfl
    have e2:wiK ls m o (k+1)=wiK ls m o k:=by rw [wiK,zab,hi,ha,List.append_nil,←wiK]
    exact ⟨k+1,by omega,by omega,⟨by rw [e2],by simp⟩,by rw [e2]⟩
   ·have ha:wiL m o k l=(ya l).flatMap (arB m o k l):=by rw [wiL,if_pos (by assumption)]
    refine zk (κ:=Nat) (fun j=>⟨[(0,.p (.sl 11 (ls.map Lim.pv))),(1,.p (.sl 7 (m.map Mov.pv))),(5,.lp 5 0),(7,.row 100 (wiK ls m o k++((ya l).take j).flatMap (arB m o k l)).length),(8,.p (.i .i64 k)),(9,.p (.sl 1 ((ya l).map (.i .i64)))),(10,.p (.i .i64 j))],[(5,.box ([.i .i64 o.moment,.s o.kind,.s o.term,.i .i64 o.seats,.i .i64 o.size,.i .i64 o.noise,.s o.name].map .p) false),(100,.row 194 3 ((wiK ls m o k++((ya l).take j).flatMap (arB m o k l)).map Win.pv) false)],[],false⟩) (fun j=>j≤(ya l).length) (fun j=>(ya l).length - j) 0 ?_ ?_ ?_
    ·exact sS
    ·simp
    ·intro j hj
     repeat first|refine gG ?_|show AK _;intro K H|refine H _ _ ?_;clear H K|refine gJ ?_;try exact trivial|omega
     (refine gC (fun hc=>?_) (fun hc=>?_)<;>try contradiction)
     ·obtain ⟨b,hb⟩:=zn (i:=j) (l:=ya l) (by omega)
      have hbm:=yac h1 (List.mem_of_getElem? hb)
      have hnx:=flat_take (arB m o k l) hb
      have hjl:(((ya l).take j).flatMap (arB m o k l)).length≤((ya l).take j).length*1:=flat_le fun b _=>by unfold arB;split<;>simp
      simp only [List.length_take] at hjl
      have hal:(wiK ls m o k++((ya l).take j).flatMap (arB m o k l)).length≤33*577440:=by rw [List.length_append];omega
      have qe:=aI qR (aI @hx @hb);repeat' first|refine gC (fun hc=>?_) (fun hc=>?_)<;>try contradiction|refine za (pure37 l m b h1 hm (by omega) (by omega)) ?_|refine za (ybf l b o.moment (by omega) (by omega) (by omega) (by omega)) ?_|refine gG ?_|show AK _;intro K H|refine H _ _ ?_;clear H K|refine gJ ?_;try exact trivial|omega
      ·rw [show arB m o k l b=[⟨k,b,zbs l m b⟩] by rw [arB,if_pos hc]] at hnx
       exact ⟨j+1,by omega,by omega,⟨by rw [hnx];simp;omega,by simp⟩,by rw [hnx];simp⟩
      ·rw [show arB m o k l b=[] by rw [arB,if_neg (fun e=>by have:=hc e.1;omega)],List.append_nil] at hnx
       exact ⟨j+1,by omega,by omega,⟨by rw [hnx],by simp⟩,by rw [hnx]⟩
     ·repeat' first|refine gC (fun hc=>?_) (fun hc=>?_)<;>try contradiction|refine gG ?_|show AK _;intro K H|refine H _ _ ?_;clear H K|refine gJ ?_;try exact trivial|omega
      have e:j=(ya l).length:=by omega
      subst e
      have e2:wiK ls m o (k+1)=wiK ls m o k++(ya l).flatMap (arB m o k l):=by rw [wiK,zab,hi,ha,←wiK]
      exact ⟨k+1,by omega,by omega,⟨by rw [List.take_length,e2,List.length_append],by simp⟩,by rw [List.take_length,e2,List.map_append]⟩
  ·repeat' first|refine gC (fun hc=>?_) (fun hc=>?_)<;>try contradiction|refine gG ?_|show AK _;intro K H|refine H _ _ ?_;clear H K|refine gJ ?_;try exact trivial|omega
   have e:k=ls.length:=by omega
   subst e;exact .refl _
set_option maxRecDepth 100000
set_option linter.unusedVariables false
set_option linter.unusedSimpArgs false
set_option maxHeartbeats 2000000
def yQ {α:Type} (f:Int→List α) (a:Int) (n:Nat):List α:=(List.range n).flatMap fun (k:Nat)=>f (a+k)
theorem yao {α:Type} (f:Int→List α) (a:Int) (n k:Nat):yQ f a (n+k)=yQ f a n++yQ f (a+n) k:=by
 unfold yQ
 rw [List.range_add,List.flatMap_append,List.flatMap_map]
 congr 1
 exact yr fun i _=>by rw [show a+((n+i:Nat):Int)=a+n+i by omega]
theorem yan {α:Type} {f:Int→List α} {a:Int} {n:Nat} (h:∀ d,a≤d→d < a+n→f d=[]):yQ f a n=[]:=by
 unfold yQ
 rw [List.flatMap_eq_nil_iff]
 intro k hk
 have:=List.mem_range.1 hk
 exact h _ (by omega) (by omega)
theorem yam {α:Type} {f:Int→List α} {a b a1 b1:Int} (h1:a≤a1) (h2:a1≤b1) (h3:b1≤b) (hl:∀ d,a≤d→d < a1→f d=[]) (hr:∀ d,b1≤d→d < b→f d=[]):yQ f a (b - a).toNat=yQ f a1 (b1 - a1).toNat:=by
 rw [show (b - a).toNat=(a1 - a).toNat+((b1 - a1).toNat+(b - b1).toNat) by omega,yao,yao,yan (a:=a) (fun d h h'=>hl d h (by omega)),yan (a:=a+((a1 - a).toNat:Int)+((b1 - a1).toNat:Int)) (fun d h h'=>hr d (by omega) (by omega)),List.append_nil,List.nil_append,show a+((a1 - a).toNat:Int)=a1 by omega]
theorem ycW {m:List Mov} {o:Mov} {i:Nat} {l:Lim} (h:zaS l=0) {d:Int} (hd:d < o.moment / 1440 - 1∨o.moment / 1440 < d∨d < l.per.fro∨l.per.to < d):arD m o i l d=[]:=by
 unfold arD
 rw [List.flatMap_eq_nil_iff]
 intro b hb
 have hm:=beginsL_mem h hb
 have hl:=chkLim_0 h
 unfold arB
 rw [if_neg]
 intro hin
 omega
theorem wiL_eq {l:Lim} (h:zaS l=0) (m:List Mov) (o:Mov) (i:Nat):wiL m o i l=arL m o i l:=by
 unfold wiL arL
 split
 ·have hl:=chkLim_0 h
  have hp:=zaX hl.2.2.2.2.2.2.2.1
  have e1:(ya l).flatMap (arB m o i l)=yQ (arD m o i l) l.per.fro (l.per.to+1 - l.per.fro).toNat:=by
   unfold ya winK winN yQ
   rw [List.flatMap_assoc,show l.per.to+1 - l.per.fro=l.per.to - l.per.fro+1 by omega]
   rfl
  have e2:(List.range 2).flatMap (arX m o i l)=yQ (arD m o i l) (o.moment / 1440 - 1) (o.moment / 1440+1 - (o.moment / 1440 - 1)).toNat:=by
   rw [show (o.moment / 1440+1 - (o.moment / 1440 - 1)).toNat=2 by omega]
   rfl
  rw [e1,e2]
  have hN:∀ d,(d < o.moment / 1440 - 1∨o.moment / 1440 < d∨d < l.per.fro∨l.per.to < d)→arD m o i l d=[]:=fun d hd=>ycW h hd
  generalize o.moment / 1440=D at hN ⊢
  rw [←yam (f:=arD m o i l) (a:=min l.per.fro (D - 1)) (b:=max (l.per.to+1) (D+1)) (by omega) (by omega) (by omega) (fun d h1 h2=>hN d (by omega)) (fun d h1 h2=>hN d (by omega))]
  rw [←yam (f:=arD m o i l) (a:=min l.per.fro (D - 1)) (b:=max (l.per.to+1) (D+1)) (a1:=D - 1) (b1:=D+1) (by omega) (by omega) (by omega) (fun d h1 h2=>hN d (by omega)) (fun d h1 h2=>hN d (by omega))]
 ·rfl
theorem yb6 {ls:List Lim} (h:∀ l ∈ ls,zaS l=0) (m:List Mov) (o:Mov):wiW ls m o=arW ls m o:=by
 unfold wiW wiK arW arK
 refine yr fun i _=>?_
 unfold wiI arI
 cases hl:ls[i]? with
 | none=>rfl
 | some l=>exact wiL_eq (h l (List.mem_of_getElem? hl)) m o i
theorem pure46 (ls:List Lim) (m:List Mov) (o:Mov) (h0:bothC ls m=0):Pure Tryz.prog 219 [.sl 11 (ls.map Lim.pv),.sl 7 (m.map Mov.pv),o.pv] (.i .i64 (roomL ls m o)):=by
 have h1:=h0
 simp only [zq] at h1
 have hl:=chkLims_0 h1.1
 have hm:=zaR h1.2.1
 have p103:=ybk ls m o hl.1 hl.2 (by omega)
 rw [yb6 hl.2] at p103
 have hwn:=arW_len (m:=m) (o:=o) hl.1 hl.2
 refine zf (cF Tryz.func219 Tryz.f219.eq_1) (by simp) fun hw X hX=>?_
 repeat' first|refine gC (fun hc=>?_) (fun hc=>?_)<;>try contradiction|refine za (p103) ?_|refine gG ?_|show AK _;intro K H|refine H _ _ ?_;clear H K|refine gJ ?_;try exact trivial|omega
 refine zk (κ:=Nat) (fun k=>⟨[(0,.p (.sl 11 (ls.map Lim.pv))),(7,.p (.i .i64 (roomK ls ((arW ls m o).take k)))),(8,.p (.sl 3 ((arW ls m o).map Win.pv))),(9,.p (.i .i64 k))],[],[],false⟩) (fun k=>k≤(arW ls m o).length) (fun k=>(arW ls m o).length - k) 0 ?_ ?_ ?_
 ·simp only [qS,Nat.reduceAdd,Nat.reduceMul,Nat.reduceEqDiff,Nat.reduceLeDiff,reduceIte,reduceCtorEq,Nat.reduceBEq,Nat.reduceLT]<;>exact ⟨rfl,rfl⟩
 ·simp
 ·intro k hk
  repeat first|refine gG ?_|show AK _;intro K H|refine H _ _ ?_;clear H K|refine gJ ?_;try exact trivial|omega
  (refine gC (fun hc=>?_) (fun hc=>?_)<;>try contradiction)
  ·obtain ⟨w,hy⟩:=zn (i:=k) (l:=arW ls m o) (by omega)
   have hnx:=yaY (ls:=ls) hy
   obtain ⟨i,l,hwi,hli,hwc,_⟩:=arW_at (List.mem_of_getElem? hy)
   have hil:=(List.getElem?_eq_some_iff.1 hli).1
   have hlm:=chkLim_0 (hl.2 l (List.mem_of_getElem? hli))
   have hcb:=ybt (l:=l) h1.2.1 w.beg
   have hma:mostAt ls w.lim=l.most:=by rw [mostAt,hwi,Int.toNat_natCast,hli]
   have qe:=aI qR (aI @hy (aI @hwi @hli));repeat' first|refine gC (fun hc=>?_) (fun hc=>?_)<;>try contradiction|refine gG ?_|show AK _;intro K H|refine H _ _ ?_;clear H K|refine gJ ?_;try exact trivial|omega
   exact ⟨k+1,by omega,by omega,by rw [hnx,roomStep,hma],by simp⟩
  ·repeat' first|refine gC (fun hc=>?_) (fun hc=>?_)<;>try contradiction|refine gG ?_|show AK _;intro K H|refine H _ _ ?_;clear H K|refine gJ ?_;try exact trivial|omega
   have e:k=(arW ls m o).length:=by omega
   subst e;rw [List.take_length];exact .refl _
theorem pure47 (ls:List Lim) (m:List Mov) (o:Mov) (h0:bothC ls m=0):Pure Tryz.prog 120 [.sl 11 (ls.map Lim.pv),.sl 7 (m.map Mov.pv),o.pv] (.sl 3 ((fullL ls m o).map Win.pv)):=by
 have h1:=h0
 simp only [zq] at h1
 have hl:=chkLims_0 h1.1
 have hm:=zaR h1.2.1
 have p103:=ybk ls m o hl.1 hl.2 (by omega)
 rw [yb6 hl.2] at p103
 have hwn:=arW_len (m:=m) (o:=o) hl.1 hl.2
 refine zf (cF Tryz.func120 Tryz.f120.eq_1) (by simp) fun hw X hX=>?_
 repeat' first|refine gC (fun hc=>?_) (fun hc=>?_)<;>try contradiction|refine za (p103) ?_|refine gG ?_|show AK _;intro K H|refine H _ _ ?_;clear H K|refine gJ ?_;try exact trivial|omega
 refine zaO 100 194 3 [(0,.p (.sl 11 (ls.map Lim.pv))),(7,.p (.sl 3 ((arW ls m o).map Win.pv))),(8,.row 100 0),(9,.p (.i .i64 0))] [] ?_ ?_
 ·simp only [Own,zaL,zaB,zbt,zay,qS,Nat.reduceAdd,Nat.reduceMul,Nat.reduceEqDiff,Nat.reduceLeDiff,reduceIte,reduceCtorEq,Nat.reduceBEq,Nat.reduceLT]
 refine zk (κ:=Nat) (fun k=>⟨[(0,.p (.sl 11 (ls.map Lim.pv))),(7,.p (.sl 3 ((arW ls m o).map Win.pv))),(8,.row 100 (((arW ls m o).take k).filter fun w=>decide (mostAt ls w.lim≤w.cnt)).length),(9,.p (.i .i64 k))],[(100,.row 194 3 ((((arW ls m o).take k).filter fun w=>decide (mostAt ls w.lim≤w.cnt)).map Win.pv) false)],[],false⟩) (fun k=>k≤(arW ls m o).length) (fun k=>(arW ls m o).length - k) 0 ?_ ?_ ?_
 ·exact sS
 ·simp
 ·intro k hk
  repeat first|refine gG ?_|show AK _;intro K H|refine H _ _ ?_;clear H K|refine gJ ?_;try exact trivial|omega
  (refine gC (fun hc=>?_) (fun hc=>?_)<;>try contradiction)
  ·obtain ⟨w,hy⟩:=zn (i:=k) (l:=arW ls m o) (by omega)
   obtain ⟨i,l,hwi,hli,hwc,_⟩:=arW_at (List.mem_of_getElem? hy)
   have hil:=(List.getElem?_eq_some_iff.1 hli).1
   have hma:mostAt ls w.lim=l.most:=by rw [mostAt,hwi,Int.toNat_natCast,hli]
   have hnx:=filter_take (p:=fun w=>decide (mostAt ls w.lim≤w.cnt)) hy
   have hfl:=filter_tlen (p:=fun w=>decide (mostAt ls w.lim≤w.cnt)) (l:=arW ls m o) (k:=k)
   have qe:=aI qR (aI @hy (aI @hwi @hli));repeat' first|refine gC (fun hc=>?_) (fun hc=>?_)<;>try contradiction|refine gG ?_|show AK _;intro K H|refine H _ _ ?_;clear H K|refine gJ ?_;try exact trivial|omega
   ·rw [if_pos (by rw [hma];exact decide_eq_true hc)] at hnx
    exact ⟨k+1,by omega,by omega,⟨by rw [hnx];simp,by simp⟩,by rw [hnx];simp⟩
   ·rw [if_neg (by rw [hma,decide_eq_true_eq];omega),List.append_nil] at hnx
    exact ⟨k+1,by omega,by omega,⟨by rw [hnx],by simp⟩,by rw [hnx]⟩
  ·repeat' first|refine gC (fun hc=>?_) (fun hc=>?_)<;>try contradiction|refine gG ?_|show AK _;intro K H|refine H _ _ ?_;clear H K|refine gJ ?_;try exact trivial|omega
   have e:k=(arW ls m o).length:=by omega
   subst e;rw [List.take_length];exact .refl _
theorem pure54 (ls:List Lim) (m:List Mov) (r:Req) (h0:bothC ls m=0) (hr:chkReq r=0):Pure Tryz.prog 143 [.sl 11 (ls.map Lim.pv),.sl 7 (m.map Mov.pv),r.pv] (.b (fitsB ls m r)):=by
 have hp:=zaX (chkReq_0 hr).1
 have hdl:=daysL_len r.per
 have hml:(movsL r).length≤1000:=by rw [movsL,List.length_map];omega
 refine zf (cF Tryz.func143 Tryz.f143.eq_1) (by simp) fun hw X hX=>?_
 have qe:=@qR;repeat' first|refine gC (fun hc=>?_) (fun hc=>?_)<;>try contradiction|refine za (ybh r hr) ?_|refine gG ?_|show AK _;intro K H|refine H _ _ ?_;clear H K|refine gJ ?_;try exact trivial|omega
 refine zk (κ:=Nat) (fun k=>⟨[(0,.p (.sl 11 (ls.map Lim.pv))),(1,.p (.sl 7 (m.map Mov.pv))),(7,.p (.sl 7 ((movsL r).map Mov.pv))),(8,.p (.i .i64 k))],[],[],false⟩) (fun k=>k≤(movsL r).length∧∀ o ∈ (movsL r).take k,(!decide (roomL ls m o < 1))=true) (fun k=>(movsL r).length - k) 0 ?_ ?_ ?_
 ·exact sR
 ·simp
 ·intro k hk
  repeat first|refine gG ?_|show AK _;intro K H|refine H _ _ ?_;clear H K|refine gJ ?_;try exact trivial|omega
  (refine gC (fun hc=>?_) (fun hc=>?_)<;>try contradiction)
  ·obtain ⟨o,hx⟩:=zn (i:=k) (l:=movsL r) (by omega)
   have qe:=aI qR @hx;repeat' first|refine gC (fun hc=>?_) (fun hc=>?_)<;>try contradiction|refine za (pure46 ls m o h0) ?_|refine gG ?_|show AK _;intro K H|refine H _ _ ?_;clear H K|refine gJ ?_;try exact trivial|omega
   ·rw [fitsB,yT hx (by simpa using hc)];exact .refl _
   ·exact ⟨k+1,⟨by omega,fun y hy=>by simpa using yn hk.2 hx (by simpa using hc) y hy⟩,by omega,by simp⟩
  ·repeat' first|refine gC (fun hc=>?_) (fun hc=>?_)<;>try contradiction|refine gG ?_|show AK _;intro K H|refine H _ _ ?_;clear H K|refine gJ ?_;try exact trivial|omega
   have e:k=(movsL r).length:=by omega
   subst e;rw [fitsB,yD hk.2];exact .refl _
set_option maxRecDepth 100000
set_option linter.unusedVariables false
set_option linter.unusedSimpArgs false
set_option maxHeartbeats 2000000
abbrev yu (l:List Mov):Prop:=l.Pairwise fun x y=>x.moment≤y.moment
theorem yaw {bef:Mov→Mov→Bool} (h1:∀ a b,bef a b=true→a.moment≤b.moment) (h2:∀ a b,bef a b=false→b.moment≤a.moment) {out:List Mov} (h:yu out) (x:Mov):yu (insM bef out x):=by
 unfold insM
 generalize hk:insAt bef x out out.length=k
 have hkl:=insAt_le bef x out out.length
 rw [hk] at hkl
 have hge:=insAt_ge bef x out out.length
 have hla:=insAt_last bef x out out.length
 rw [hk] at hge hla
 have hs:yu (out.take k++out.drop k):=by rw [List.take_append_drop];exact h
 have hs:=List.pairwise_append.1 hs
 have hdrop:∀ y ∈ out.drop k,x.moment≤y.moment:=fun y hy=>by
  obtain ⟨i,hi⟩:=List.getElem?_of_mem hy
  rw [List.getElem?_drop] at hi
  have hlt:=(List.getElem?_eq_some_iff.1 hi).1
  obtain ⟨z,hz,hb⟩:=hge (k+i) (by omega) hlt
  rw [hi] at hz;cases hz
  exact h1 _ _ hb
 have htake:∀ y ∈ out.take k,y.moment≤x.moment:=fun y hy=>by
  cases k with
  | zero=>simp at hy
  | succ k=>
   obtain ⟨z,hz⟩:∃ z,out[k]?=some z:=⟨_,List.getElem?_eq_getElem (by omega)⟩
   have hb:=h2 _ _ (hla k z rfl hz)
   obtain ⟨i,hi⟩:=List.getElem?_of_mem hy
   have hik:i < k+1:=by
    have:=(List.getElem?_eq_some_iff.1 hi).1
    simp only [List.length_take] at this;omega
   rw [List.getElem?_take,if_pos hik] at hi
   by_cases e:i=k
   ·subst e;rw [hz] at hi;cases hi;exact hb
   ·have hlt:=(List.getElem?_eq_some_iff.1 hi).1
    have:=List.pairwise_iff_getElem.1 h i k hlt (by omega) (by omega)
    rw [List.getElem?_eq_getElem hlt] at hi
    rw [List.getElem?_eq_getElem (by omega)] at hz
    have e1:=Option.some.inj hi
    have e2:=Option.some.inj hz
    rw [e1,e2] at this
    omega
 refine List.pairwise_append.2 ⟨hs.1,List.pairwise_cons.2 ⟨hdrop,hs.2.1⟩,fun a ha b hb=>?_⟩
 rcases List.mem_cons.1 hb with rfl|hb
 ·exact htake a ha
 ·exact hs.2.2 a ha b hb
theorem yF {bef:Mov→Mov→Bool} (h1:∀ a b,bef a b=true→a.moment≤b.moment) (h2:∀ a b,bef a b=false→b.moment≤a.moment):∀ (l out:List Mov),yu out→yu (l.foldl (insM bef) out)
 | [],_,h=>h
 | x::l,_,h=>yF h1 h2 l _ (yaw h1 h2 h x)
theorem yag {bef:Mov→Mov→Bool} (h1:∀ a b,bef a b=true→a.moment≤b.moment) (h2:∀ a b,bef a b=false→b.moment≤a.moment) (a b:List Mov):yu (mergeM bef a b):=yF h1 h2 _ _ List.Pairwise.nil
theorem ya4 {l:List Int} (h:∀ x ∈ l,x=0):zg l=0:=by
 induction l with
 | nil=>rfl
 | cons x r ih=>exact zq.2 ⟨h x (by simp),ih fun y hy=>h y (by simp [hy])⟩
theorem yZ {m:List Mov} (hn:m.length≤30000) (hc:∀ x ∈ m,chkMov x=0) (hs:yu m):zad m=0:=by
 rw [zad,if_neg (by omega)]
 refine ya4 fun e he=>?_
 obtain ⟨i,hi⟩:=List.getElem?_of_mem he
 simp only [movErrs,List.getElem?_mapIdx,Option.map_eq_some_iff] at hi
 obtain ⟨x,hx,rfl⟩:=hi
 refine zq.2 ⟨hc x (List.mem_of_getElem? hx),zq.2 ⟨if_neg fun hh=>?_,rfl⟩⟩
 have hlt:=(List.getElem?_eq_some_iff.1 hx).1
 have:=List.pairwise_iff_getElem.1 hs (i - 1) i (by omega) hlt (by omega)
 rw [List.getElem?_eq_getElem (by omega),Option.getD_some] at hh
 rw [List.getElem?_eq_getElem hlt] at hx
 rw [Option.some.inj hx] at this
 omega
set_option maxRecDepth 100000
set_option linter.unusedVariables false
set_option linter.unusedSimpArgs false
set_option maxHeartbeats 4000000
def mgK (l:List Mov) (k:Nat):List Mov:=(l.take k).foldl (insM befM) []
theorem yau {l:List Mov} {k:Nat} (h:k≤l.length):(mgK l k).length=k:=by
 have:=(foldl_perm befM (l.take k) []).length_eq
 rw [mgK,this];simp;omega
theorem ybU {l:List Mov} {k:Nat} {x:Mov} (h:l[k]?=some x):mgK l (k+1)=insM befM (mgK l k) x:=by
 rw [mgK,List.take_add_one,h,List.foldl_append];rfl
theorem allTk {l:List PV} {n:Nat} (h:l.all (fun x=>x.cells.all PV.one)=true):(l.take n).all (fun x=>x.cells.all PV.one)=true:=by rw [List.all_eq_true] at h ⊢;exact fun x hx=>h x (List.mem_of_mem_take hx)
theorem allDr {l:List PV} {n:Nat} (h:l.all (fun x=>x.cells.all PV.one)=true):(l.drop n).all (fun x=>x.cells.all PV.one)=true:=by rw [List.all_eq_true] at h ⊢;exact fun x hx=>h x (List.mem_of_mem_drop hx)
theorem ycm {a b:PV} (h:a=b):Weak a b:=h ▸ .refl _
theorem ybj (a b:Mov):Pure Tryz.prog 169 [a.pv,b.pv] (.b (befM a b)):=by
 refine zf (cF Tryz.func169 Tryz.f169.eq_1) (by simp) fun hw X hX=>?_
 by_cases h1:a.moment=b.moment
 ·by_cases h2:a.kind=b.kind
  ·have h1':=eq_true h1
   have h2':=eq_true h2
   have qe:=aI @h1' @h2';repeat' first|refine gC (fun hc=>?_) (fun hc=>?_)<;>try contradiction|refine gG ?_|show AK _;intro K H|refine H _ _ ?_;clear H K|refine gJ ?_;try exact trivial|omega
   rw [befM,if_pos h1,if_pos h2];exact .refl _
  ·have h1':=eq_true h1
   have h2':=eq_false h2
   have qe:=aI @h1' @h2';repeat' first|refine gC (fun hc=>?_) (fun hc=>?_)<;>try contradiction|refine gG ?_|show AK _;intro K H|refine H _ _ ?_;clear H K|refine gJ ?_;try exact trivial|omega
   rw [befM,if_pos h1,if_neg h2];exact .refl _
 ·have h1':=eq_false h1
  have qe:=@h1';repeat' first|refine gC (fun hc=>?_) (fun hc=>?_)<;>try contradiction|refine gG ?_|show AK _;intro K H|refine H _ _ ?_;clear H K|refine gJ ?_;try exact trivial|omega
  rw [befM,if_neg h1];exact .refl _
theorem ybZ {x:Mov} {out:List Mov} {q:Nat} {y:Mov} (hy:out[q]?=some y) (hb:befM x y=false):insAt befM x out (q+1)=q+1:=by
 simp only [insAt,hy];rw [if_neg (by simp [hb])]
theorem ins_go {x:Mov} {out:List Mov} {q:Nat} {y:Mov} (hy:out[q]?=some y) (hb:befM x y=true):insAt befM x out (q+1)=insAt befM x out q:=by
 simp only [insAt,hy];rw [if_pos hb]
theorem ycd {l:List Mov} {k q:Nat} {x:Mov} (hx:l[k]?=some x) (h:q=insAt befM x (mgK l k) k):((mgK l k).map Mov.pv).take q++x.pv::((mgK l k).map Mov.pv).drop q=(mgK l (k+1)).map Mov.pv:=by
 have hk:k≤l.length:=Nat.le_of_lt (List.getElem?_eq_some_iff.1 hx).1
 rw [ybU hx,insM,yau hk,←h];simp
theorem mgT {l:List Mov} {k q:Nat} (hk:k≤l.length) (hq:q≤k):(((mgK l k).map Mov.pv).take q).length=q∧(((mgK l k).map Mov.pv).drop q).length=k - q∧((((mgK l k).map Mov.pv).take q).all (fun x=>x.cells.all PV.one)=true)=True∧((((mgK l k).map Mov.pv).drop q).all (fun x=>x.cells.all PV.one)=true)=True:=by
 have h:=yau hk
 have ha:((mgK l k).map Mov.pv).all (fun x=>x.cells.all PV.one)=true:=by rw [List.all_map];exact allMv _
 exact ⟨by simp;omega,by simp;omega,eq_true (allTk ha),eq_true (allDr ha)⟩
theorem pure69 (a b:List Mov) (hn:a.length+b.length≤1000000):Pure Tryz.prog 96 [.sl 7 (a.map Mov.pv),.sl 7 (b.map Mov.pv)] (.sl 7 ((mergeM befM a b).map Mov.pv)):=by
 refine zf (cF Tryz.func96 Tryz.f96.eq_1) (by simp) fun hw X hX=>?_
 have hl:(a++b).length=a.length+b.length:=List.length_append
 have hA:=fun l=>eq_true (allMv l)
 have qe:=aI qR @hA;repeat' first|refine gC (fun hc=>?_) (fun hc=>?_)<;>try contradiction|refine gG ?_|show AK _;intro K H|refine H _ _ ?_;clear H K|refine gJ ?_;try exact trivial|omega
 refine ybd (κ:=Nat) (fun k=>⟨[(5,.p (.sl 7 ((a++b).map Mov.pv))),(6,.p (.sl 7 ((mgK (a++b) k).map Mov.pv))),(7,.p (.i .i64 k))],[],[],false⟩) (fun k=>k≤(a++b).length) (fun k=>(a++b).length - k) 0 ?_ ?_ ?_
 ·refine .x 5 (.sl 7 ((a++b).map Mov.pv)) ?_ (hw:=ycm (by simp))
  refine .x 6 (.sl 7 []) ?_
  exact .cov (by simp only [qS,Nat.reduceAdd,Nat.reduceMul,Nat.reduceEqDiff,Nat.reduceLeDiff,reduceIte,reduceCtorEq,Nat.reduceBEq,Nat.reduceLT]<;>simp [mgK])
 ·simp
 ·intro k hk
  have hkl:=yau hk
  by_cases hlt:k < (a++b).length
  ·obtain ⟨x,hx⟩:=zn (i:=k) (l:=a++b) (by omega)
   have qe:=aI qR (aI @hA (aI @hx (aI @hkl @hl)));repeat' first|refine gC (fun hc=>?_) (fun hc=>?_)<;>try contradiction|refine gG ?_|show AK _;intro K H|refine H _ _ ?_;clear H K|refine gJ ?_;try exact trivial|omega
   refine zk (κ:=Nat) (fun q=>⟨[(5,.p (.sl 7 ((a++b).map Mov.pv))),(6,.p (.sl 7 ((mgK (a++b) k).map Mov.pv))),(7,.p (.i .i64 k)),(8,.p (.i .i64 q))],[],[],false⟩) (fun q=>q≤k∧insAt befM x (mgK (a++b) k) q=insAt befM x (mgK (a++b) k) k) (fun q=>q) k ?_ ?_ ?_
   ·exact sS
   ·simp
   ·intro q hq
    cases q with
    | zero=>
     obtain ⟨hT1,hT2,hT3,hT4⟩:=mgT (l:=a++b) (k:=k) (q:=0) (by omega) (by omega)
     have i0:(0 < ((0:Nat):Int))=False:=eq_false (by omega)
     have qe:=aI qR (aI @hA (aI @hx (aI @i0 (aI @hT1 (aI @hT2 (aI @hT3 (aI @hT4 (aI @hkl (aI @hl (aI @lpN (aI @lpE @lpR)))))))))));repeat' first|refine gC (fun hc=>?_) (fun hc=>?_)<;>try contradiction|(show zj _ _ _ _ (⟨_,.call _,_,_,_⟩::_) _ _;refine zbj (hf:=fun hc=>(by first|exact (absurd hc (by decide):Pure Tryz.prog 169 _ (.b false))|(simp only [qH,rng_0] at hc;exact (absurd hc (by decide):Pure Tryz.prog 169 _ (.b false))))) (hn:=?_))|refine gG ?_|show AK _;intro K H|refine H _ _ ?_;clear H K|refine gJ ?_;try exact trivial|omega
     refine ⟨k+1,by omega,by dsimp only;omega,.x 6 (.sl 7 ((mgK (a++b) (k+1)).map Mov.pv)) ?_ (hw:=ycm (by rw [←ycd hx (show 0=_ from hq.2)];simp))⟩
     exact .cov (sS)
    | succ q=>
     obtain ⟨y,hy⟩:=zn (i:=q) (l:=mgK (a++b) k) (by omega)
     have i0:(0 < ((q+1:Nat):Int))=True:=eq_true (by omega)
     have i1:((q+1:Nat):Int) - 1=(q:Int):=by omega
     obtain ⟨hT1,hT2,hT3,hT4⟩:=mgT (l:=a++b) (k:=k) (q:=q+1) (by omega) (by omega)
     cases hb:befM x y with
     | true=>
      have h0:=ins_go hy hb
      have qe:=aI qR (aI @hA (aI @hx (aI @hy (aI @hb (aI @i0 (aI @i1 (aI @hT1 (aI @hT2 (aI @hT3 (aI @hT4 (aI @hkl (aI @hl (aI @lpN (aI @lpE @lpR))))))))))))));repeat' first|refine gC (fun hc=>?_) (fun hc=>?_)<;>try contradiction|refine zN (fun _=>ybj x y) ?_|refine gG ?_|show AK _;intro K H|refine H _ _ ?_;clear H K|refine gJ ?_;try exact trivial|omega
      exact ⟨q,⟨by omega,by rw [←h0];exact hq.2⟩,by omega,rfl⟩
     | false=>
      have h0:=ybZ hy hb
      have qe:=aI qR (aI @hA (aI @hx (aI @hy (aI @hb (aI @i0 (aI @i1 (aI @hT1 (aI @hT2 (aI @hT3 (aI @hT4 (aI @hkl (aI @hl (aI @lpN (aI @lpE @lpR))))))))))))));repeat' first|refine gC (fun hc=>?_) (fun hc=>?_)<;>try contradiction|refine zN (fun _=>ybj x y) ?_|refine gG ?_|show AK _;intro K H|refine H _ _ ?_;clear H K|refine gJ ?_;try exact trivial|omega
      refine ⟨k+1,by omega,by dsimp only;omega,.x 6 (.sl 7 ((mgK (a++b) (k+1)).map Mov.pv)) ?_ (hw:=ycm (by rw [←ycd hx (h0.symm.trans hq.2)];simp))⟩
      exact .cov (sS)
  ·have qe:=aI qR (aI @hA (aI @hkl (aI @hl (aI @lpN (aI @lpE @lpR)))));repeat' first|refine gC (fun hc=>?_) (fun hc=>?_)<;>try contradiction|refine gG ?_|show AK _;intro K H|refine H _ _ ?_;clear H K|refine gJ ?_;try exact trivial|omega
   have e:k=(a++b).length:=by omega
   have e2:mgK (a++b) (a++b).length=mergeM befM a b:=by rw [mgK,List.take_length];rfl
   subst e;rw [e2];exact .refl _
set_option maxRecDepth 100000
set_option linter.unusedVariables false
set_option linter.unusedSimpArgs false
set_option maxHeartbeats 2000000
theorem bef1 {a b:Mov} (h:befM a b=true):a.moment≤b.moment:=by
 unfold befM at h;split at h
 ·omega
 ·simp only [decide_eq_true_eq] at h;omega
theorem bef0 {a b:Mov} (h:befM a b=false):b.moment≤a.moment:=by
 unfold befM at h;split at h
 ·omega
 ·simp only [decide_eq_false_iff_not] at h;omega
theorem ybV {a b:List Mov} (ha:∀ x ∈ a,chkMov x=0) (hb:∀ x ∈ b,chkMov x=0) (hn:a.length+b.length≤30000):zad (mergeM befM a b)=0∧(mergeM befM a b).length=a.length+b.length:=by
 have hp:=merge_perm befM a b
 have hlen:(mergeM befM a b).length=a.length+b.length:=by rw [hp.length_eq,List.length_append]
 refine ⟨yZ (by omega) (fun x hx=>?_) (yag (fun _ _ h=>bef1 h) (fun _ _ h=>bef0 h) a b),hlen⟩
 rcases List.mem_append.1 (hp.mem_iff.1 hx) with h|h
 ·exact ha x h
 ·exact hb x h
end Go.Proofs.YtahmdjadnlpjoaaGreat
