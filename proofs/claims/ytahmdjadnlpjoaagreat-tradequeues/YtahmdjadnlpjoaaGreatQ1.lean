/- Contracts of functions that the proof uses, shared by the claims of this seat; no statement of its own. Part 71. No conditions. -/
import Derived.ProofKit
import Derived.OpenShut
import Derived.Carry
import Derived.OpenVars
import Derived.HandedShaped
import Derived.KernelRfl
import Derived.Laws.RangeAny
import Derived.Test.YtahmdjadnlpjoaaGreatRows
import Derived.Test.YtahmdjadnlpjoaaGreatQ0
set_option linter.all false
set_option maxHeartbeats 8000000
namespace Go.Proofs.YtahmdjadnlpjoaaGreat
open Go.RowKit
set_option maxRecDepth 100000
set_option linter.unusedVariables false
set_option linter.unusedSimpArgs false
set_option maxHeartbeats 2000000
theorem ybs (l:Lim) (m:Mov):Pure Tryz.prog 140 [l.pv,m.pv] (.b (zac l m.kind m.term)):=by
 refine zf (cF Tryz.func140 Tryz.f140.eq_1) (by simp) fun hw X hX=>?_
 repeat' first|refine gC (fun hc=>?_) (fun hc=>?_)<;>try contradiction|refine gG ?_|show AK _;intro K H|refine H _ _ ?_;clear H K|refine gJ ?_;try exact trivial|omega
 exact .refl _
theorem yck (l:Lim) (b x:Int) (h0:0≤b) (h1:b≤1000000000) (h2:1≤l.len) (h3:l.len≤1440):Pure Tryz.prog 139 [l.pv,.i .i64 b,.i .i64 x] (.b (decide (b≤x) && decide (x < b+l.len))):=by
 refine zf (cF Tryz.func139 Tryz.f139.eq_1) (by simp) fun hw X hX=>?_
 repeat' first|refine gC (fun hc=>?_) (fun hc=>?_)<;>try contradiction|refine gG ?_|show AK _;intro K H|refine H _ _ ?_;clear H K|refine gJ ?_;try exact trivial|omega
 exact .refl _
def inW (l:Lim) (b:Int) (x:Mov):Bool:=zac l x.kind x.term && (decide (b≤x.moment) && decide (x.moment < b+l.len))
theorem yc {l:Lim} (h:0≤l.len) (b:Int):∀ m:List Mov,zbs l m b=((m.filter (inW l b)).length:Int)
 | []=>by simp [zbs,cntW,ofL,ltN]
 | x::r=>by
  have ih:=yc h b r
  simp only [zbs,cntW,ofL,List.filter_cons,inW] at ih ⊢
  by_cases hc:zac l x.kind x.term=true
  ·simp only [hc,if_true,List.map_cons,ltN,List.filter_cons,Bool.true_and,decide_eq_true_eq,Bool.and_eq_true] at ih ⊢
   (repeat' split)<;>(try simp only [List.length_cons])<;>omega
  ·simp only [Bool.not_eq_true] at hc
   simp only [hc,Bool.false_eq_true,if_false,Bool.false_and]
   exact ih
def badLim (l:Lim):Bool:=((decide ((40:Int) < l.name.size) || decide ((40:Int) < l.kind.size)) || decide ((40:Int) < l.term.size)) || !fewB l.per 24
theorem ya4 {x:Lim} (h:(((40:Int) < x.name.size∨(40:Int) < x.kind.size)∨(40:Int) < x.term.size)∨fewB x.per 24=false):badLim x=true:=by
 simp only [badLim,Bool.or_eq_true,decide_eq_true_eq,Bool.not_eq_true'];exact h
theorem ya5 {x:Lim} (h:(((x.name.size:Int)≤40∧(x.kind.size:Int)≤40)∧(x.term.size:Int)≤40)∧fewB x.per 24=true):badLim x=false:=by
 simp only [badLim,Bool.or_eq_false_iff,decide_eq_false_iff_not,Bool.not_eq_false',Int.not_lt];exact h
def ycG (x:Lim):Int:=if zaS x=0 then (begN x:Int)*(zY x.per).length else 0
def ybh (l:List Lim) (k:Nat):Int:=(l.take k).foldl (fun a x=>a+ycG x) 0
def longL (l:List Lim) (n:Int):Bool:=(decide (n < l.length) && decide ((l.length:Int)≤32)) || decide (34 < (l.length:Int))
def yG (l:List Lim) (n:Int):Bool:=!longL l n && ((l.all fun x=>!badLim x) && decide (ybh l l.length≤400))
theorem yab {l:List Lim} {k:Nat} {x:Lim} (h:l[k]?=some x):ybh l (k+1)=ybh l k+ycG x:=by
 rw [ybh,List.take_add_one,h,List.foldl_append];rfl
theorem ybP {l:Lim} (h:zaS l=0):begN l≤1440:=by
 have hl:=chkLim_0 h
 have h1:0≤l.from_:=Int.ediv_nonneg (by omega) (by omega)
 have h2:l.to / l.step≤l.to:=Int.ediv_le_self _ (by omega)
 unfold begN;omega
theorem ybx (x:Lim):0≤ycG x∧ycG x≤577440:=by
 unfold ycG
 split
 ·rename_i h
  have h1:=ybP h
  have hp:=zaX (chkLim_0 h).2.2.2.2.2.2.2.1
  have h2:=daysL_len x.per
  have h3:(zY x.per).length≤401:=by omega
  have h4:begN x*(zY x.per).length≤1440*401:=Nat.mul_le_mul h1 h3
  omega
 ·omega
theorem ycw (l:List Lim) (k:Nat):0≤ybh l k∧ybh l k≤k*577440:=by
 induction k with
 | zero=>simp [ybh]
 | succ k ih=>
  by_cases hk:k < l.length
  ·rw [yab (List.getElem?_eq_getElem hk)]
   have:=ybx l[k]
   omega
  ·have:ybh l (k+1)=ybh l k:=by rw [ybh,ybh,List.take_of_length_le (by omega),List.take_of_length_le (by omega)]
   omega
theorem pure15 (l:List Lim) (n:Int):Pure Tryz.prog 112 [.sl 11 (l.map Lim.pv),.i .i64 n] (.b (yG l n)):=by
 refine zf (cF Tryz.func112 Tryz.f112.eq_1) (by simp) fun hw X hX=>?_
 simp only [wfs,PV.wf,List.length_map,maxLen] at hw
 repeat' first|refine gC (fun hc=>?_) (fun hc=>?_)<;>try contradiction|refine gG ?_|show AK _;intro K H|refine H _ _ ?_;clear H K|refine gJ ?_;try exact trivial|omega
 ·have:longL l n=true:=by simpa [longL] using hc
  rw [yG,this];exact .refl _
 have hsh:longL l n=false:=by simpa [longL] using hc
 have h34:l.length≤34:=by omega
 refine zk (κ:=Nat) (fun i=>⟨[(0,.p (.sl 11 (l.map Lim.pv))),(5,.p (.i .i64 (ybh l i))),(6,.p (.i .i64 i))],[],[],false⟩) (fun i=>i≤l.length∧∀ x ∈ l.take i,(!badLim x)=true) (fun i=>l.length - i) 0 ?_ ?_ ?_
 ·simp only [qS,Nat.reduceAdd,Nat.reduceMul,Nat.reduceEqDiff,Nat.reduceLeDiff,reduceIte,reduceCtorEq,Nat.reduceBEq,Nat.reduceLT]<;>exact ⟨rfl,rfl⟩
 ·simp
 ·intro i hi
  have hsb:=ycw l i
  repeat first|refine gG ?_|show AK _;intro K H|refine H _ _ ?_;clear H K|refine gJ ?_;try exact trivial|omega
  (refine gC (fun hc=>?_) (fun hc=>?_)<;>try contradiction)
  ·obtain ⟨x,hx⟩:=zn (i:=i) (l:=l) (by omega)
   have hsn:=yab hx
   have hlb:=ybx x
   by_cases h0:zaS x=0
   ·have h0':=eq_true h0
    have hlx:=chkLim_0 h0
    have hbn:=ybP h0
    have hdn:=daysL_len x.per
    have hpp:=zaX hlx.2.2.2.2.2.2.2.1
    rw [ycG,if_pos h0] at hsn hlb
    have qe:=aI qR (aI @hx @h0');repeat' first|refine gC (fun hc=>?_) (fun hc=>?_)<;>try contradiction|refine za (ybt x) ?_|refine za (pure76 x h0) ?_|refine za (yaL x.per hlx.2.2.2.2.2.2.2.1) ?_|refine zN (fun _=>ycl x.per 24) ?_|refine gG ?_|show AK _;intro K H|refine H _ _ ?_;clear H K|refine gJ ?_;try exact trivial|omega
    ·rw [yG,hsh,y2 hx (by rw [ya4 hc];rfl)];exact .refl _
    ·exact ⟨i+1,⟨by omega,fun y hy=>by simpa using yt (p:=fun x=>!badLim x) (fun y hy=>by simpa using hi.2 y hy) hx (by rw [ya5 (by assumption)];rfl) y hy⟩,by omega,by rw [hsn],by simp⟩
   ·have h0':=eq_false h0
    rw [ycG,if_neg h0] at hsn hlb
    have qe:=aI qR (aI @hx @h0');repeat' first|refine gC (fun hc=>?_) (fun hc=>?_)<;>try contradiction|refine za (ybt x) ?_|refine zN (fun _=>ycl x.per 24) ?_|refine gG ?_|show AK _;intro K H|refine H _ _ ?_;clear H K|refine gJ ?_;try exact trivial|omega
    ·rw [yG,hsh,y2 hx (by rw [ya4 hc];rfl)];exact .refl _
    ·exact ⟨i+1,⟨by omega,fun y hy=>by simpa using yt (p:=fun x=>!badLim x) (fun y hy=>by simpa using hi.2 y hy) hx (by rw [ya5 (by assumption)];rfl) y hy⟩,by omega,by rw [hsn,Int.add_zero],by simp⟩
  ·repeat' first|refine gC (fun hc=>?_) (fun hc=>?_)<;>try contradiction|refine gG ?_|show AK _;intro K H|refine H _ _ ?_;clear H K|refine gJ ?_;try exact trivial|omega
   have e:i=l.length:=by omega
   subst e
   rw [yG,hsh,yT hi.2];exact .refl _
set_option maxRecDepth 100000
set_option linter.unusedVariables false
set_option linter.unusedSimpArgs false
set_option maxHeartbeats 2000000
theorem pure21 (r:Req) (h:chkReq r=0):Pure Tryz.prog 97 [r.pv] (.sl 7 ((movsL r).map Mov.pv)):=by
 have hr:=chkReq_0 h
 have hp:=zaX hr.1
 have hdl:=daysL_len r.per
 refine zf (cF Tryz.func97 Tryz.f97.eq_1) (by simp) fun hw X hX=>?_
 have qe:=@qR;repeat' first|refine gC (fun hc=>?_) (fun hc=>?_)<;>try contradiction|refine za (yaL r.per hr.1) ?_|refine gG ?_|show AK _;intro K H|refine H _ _ ?_;clear H K|refine gJ ?_;try exact trivial|omega
 refine zaO 100 180 7 [(1,.lp 1 0),(3,.p (.sl 1 ((zY r.per).map (.i .i64)))),(4,.row 100 0),(5,.p (.i .i64 0))] [(1,.box ([.s r.name,.s r.carrier,.s r.kind,.s r.term,.s r.partner,.s r.link,.i .i64 r.per.fro,.i .i64 r.per.to,.i .i64 r.per.days,.i .i64 r.minute,.i .i64 r.seats,.i .i64 r.size,.i .i64 r.noise].map .p) false)] ?_ ?_
 ·simp only [Own,zaL,zaB,zbt,zay,qS,Nat.reduceAdd,Nat.reduceMul,Nat.reduceEqDiff,Nat.reduceLeDiff,reduceIte,reduceCtorEq,Nat.reduceBEq,Nat.reduceLT]
 refine zk (κ:=Nat) (fun k=>⟨[(1,.lp 1 0),(3,.p (.sl 1 ((zY r.per).map (.i .i64)))),(4,.row 100 ((zY r.per).take k).length),(5,.p (.i .i64 k))],[(1,.box ([.s r.name,.s r.carrier,.s r.kind,.s r.term,.s r.partner,.s r.link,.i .i64 r.per.fro,.i .i64 r.per.to,.i .i64 r.per.days,.i .i64 r.minute,.i .i64 r.seats,.i .i64 r.size,.i .i64 r.noise].map .p) false),(100,.row 180 7 ((((zY r.per).take k).map (movOf r)).map Mov.pv) false)],[],false⟩) (fun k=>k≤(zY r.per).length) (fun k=>(zY r.per).length - k) 0 ?_ ?_ ?_
 ·exact sS
 ·simp
 ·intro k hk
  repeat first|refine gG ?_|show AK _;intro K H|refine H _ _ ?_;clear H K|refine gJ ?_;try exact trivial|omega
  (refine gC (fun hc=>?_) (fun hc=>?_)<;>try contradiction)
  ·obtain ⟨d,hx⟩:=zn (i:=k) (l:=zY r.per) (by omega)
   have hdm:=daysL_mem (List.mem_of_getElem? hx)
   have hlt:=take_len hx
   have qe:=aI qR @hx;repeat' first|refine gC (fun hc=>?_) (fun hc=>?_)<;>try contradiction|refine gG ?_|show AK _;intro K H|refine H _ _ ?_;clear H K|refine gJ ?_;try exact trivial|omega
   exact ⟨k+1,by omega,by omega,⟨by rw [List.take_add_one,hx,List.length_append];rfl,by simp⟩,by rw [take_snoc (movOf r) hx];simp [movOf]⟩
  ·repeat' first|refine gC (fun hc=>?_) (fun hc=>?_)<;>try contradiction|refine gG ?_|show AK _;intro K H|refine H _ _ ?_;clear H K|refine gJ ?_;try exact trivial|omega
   have e:k=(zY r.per).length:=by omega
   subst e;rw [List.take_length];exact .refl _
set_option maxRecDepth 100000
set_option linter.unusedVariables false
set_option linter.unusedSimpArgs false
set_option maxHeartbeats 2000000
abbrev yu (l:List Mov):Prop:=l.Pairwise fun x y=>x.moment≤y.moment
theorem yay {bef:Mov→Mov→Bool} (h1:∀ a b,bef a b=true→a.moment≤b.moment) (h2:∀ a b,bef a b=false→b.moment≤a.moment) {out:List Mov} (h:yu out) (x:Mov):yu (insM bef out x):=by
 unfold insM
 generalize hk:insAt bef x out out.length=k
 have hkl:=insAt_le bef x out out.length
 rw [hk] at hkl
 have hge:=insAt_ge bef x out out.length
 have hla:=insAt_last bef x out out.length
 rw [hk] at hge hla
 have hs:yu (out.take k++out.drop k):=by rw [List.take_append_drop];exact h
 have hs:=List.pairwise_append.1 hs
 have hdrop:∀ y ∈ out.drop k,x.moment≤y.moment:=fun y hy=>by
  obtain ⟨i,hi⟩:=List.getElem?_of_mem hy
  rw [List.getElem?_drop] at hi
  have hlt:=(List.getElem?_eq_some_iff.1 hi).1
  obtain ⟨z,hz,hb⟩:=hge (k+i) (by omega) hlt
  rw [hi] at hz;cases hz
  exact h1 _ _ hb
 have htake:∀ y ∈ out.take k,y.moment≤x.moment:=fun y hy=>by
  cases k with
  | zero=>simp at hy
  | succ k=>
   obtain ⟨z,hz⟩:∃ z,out[k]?=some z:=⟨_,List.getElem?_eq_getElem (by omega)⟩
   have hb:=h2 _ _ (hla k z rfl hz)
   obtain ⟨i,hi⟩:=List.getElem?_of_mem hy
   have hik:i < k+1:=by
    have:=(List.getElem?_eq_some_iff.1 hi).1
    simp only [List.length_take] at this;omega
   rw [List.getElem?_take,if_pos hik] at hi
   by_cases e:i=k
   ·subst e;rw [hz] at hi;cases hi;exact hb
   ·have hlt:=(List.getElem?_eq_some_iff.1 hi).1
    have:=List.pairwise_iff_getElem.1 h i k hlt (by omega) (by omega)
    rw [List.getElem?_eq_getElem hlt] at hi
    rw [List.getElem?_eq_getElem (by omega)] at hz
    have e1:=Option.some.inj hi
    have e2:=Option.some.inj hz
    rw [e1,e2] at this
    omega
 refine List.pairwise_append.2 ⟨hs.1,List.pairwise_cons.2 ⟨hdrop,hs.2.1⟩,fun a ha b hb=>?_⟩
 rcases List.mem_cons.1 hb with rfl|hb
 ·exact htake a ha
 ·exact hs.2.2 a ha b hb
theorem yI {bef:Mov→Mov→Bool} (h1:∀ a b,bef a b=true→a.moment≤b.moment) (h2:∀ a b,bef a b=false→b.moment≤a.moment):∀ (l out:List Mov),yu out→yu (l.foldl (insM bef) out)
 | [],_,h=>h
 | x::l,_,h=>yI h1 h2 l _ (yay h1 h2 h x)
theorem yaf {bef:Mov→Mov→Bool} (h1:∀ a b,bef a b=true→a.moment≤b.moment) (h2:∀ a b,bef a b=false→b.moment≤a.moment) (a b:List Mov):yu (mergeM bef a b):=yI h1 h2 _ _ List.Pairwise.nil
theorem ybf {l:List Int} (h:∀ x ∈ l,x=0):zg l=0:=by
 induction l with
 | nil=>rfl
 | cons x r ih=>exact zq.2 ⟨h x (by simp),ih fun y hy=>h y (by simp [hy])⟩
theorem yZ {m:List Mov} (hn:m.length≤30000) (hc:∀ x ∈ m,chkMov x=0) (hs:yu m):zad m=0:=by
 rw [zad,if_neg (by omega)]
 refine ybf fun e he=>?_
 obtain ⟨i,hi⟩:=List.getElem?_of_mem he
 simp only [movErrs,List.getElem?_mapIdx,Option.map_eq_some_iff] at hi
 obtain ⟨x,hx,rfl⟩:=hi
 refine zq.2 ⟨hc x (List.mem_of_getElem? hx),zq.2 ⟨if_neg fun hh=>?_,rfl⟩⟩
 have hlt:=(List.getElem?_eq_some_iff.1 hx).1
 have:=List.pairwise_iff_getElem.1 hs (i - 1) i (by omega) hlt (by omega)
 rw [List.getElem?_eq_getElem (by omega),Option.getD_some] at hh
 rw [List.getElem?_eq_getElem hlt] at hx
 rw [Option.some.inj hx] at this
 omega
theorem ycb {l:Lim} (h:0≤l.len) {a b:List Mov} (hp:a.Perm b) (w:Int):zbs l a w=zbs l b w:=by
 rw [yc h,yc h,(hp.filter _).length_eq]
theorem ycS {l:Lim} (h:0≤l.len) (a b:List Mov) (w:Int):zbs l (a++b) w=zbs l a w+zbs l b w:=by
 rw [yc h,yc h,yc h,List.filter_append,List.length_append];omega
set_option maxRecDepth 100000
set_option linter.unusedVariables false
set_option linter.unusedSimpArgs false
set_option maxHeartbeats 2000000
theorem yn (ls:List Lim):∀ (W:List Win) (a:Int),(W.foldl (roomStep ls) a≤a∧∀ w ∈ W,W.foldl (roomStep ls) a≤max 0 (mostAt ls w.lim - w.cnt))∧(W.foldl (roomStep ls) a=a∨∃ w ∈ W,W.foldl (roomStep ls) a=max 0 (mostAt ls w.lim - w.cnt))
 | [],a=>⟨⟨Int.le_refl _,fun w hw=>by cases hw⟩,.inl rfl⟩
 | x::r,a=>by
  obtain ⟨⟨h1,h2⟩,h3⟩:=yn ls r (roomStep ls a x)
  rw [List.foldl_cons]
  have e:roomStep ls a x=min a (max 0 (mostAt ls x.lim - x.cnt)):=rfl
  refine ⟨⟨by omega,fun w hw=>?_⟩,?_⟩
  ·rcases List.mem_cons.1 hw with rfl|hw
   ·omega
   ·exact h2 w hw
  ·rcases h3 with h3|⟨w,hw,h3⟩
   ·by_cases c:a≤max 0 (mostAt ls x.lim - x.cnt)
    ·exact .inl (by omega)
    ·exact .inr ⟨x,by simp,by omega⟩
   ·exact .inr ⟨w,by simp [hw],h3⟩
theorem ybB {ls:List Lim} {m:List Mov} {o:Mov}:roomL ls m o=0↔fullL ls m o≠[]:=by
 obtain ⟨⟨a1,a2⟩,a3⟩:=yn ls (arW ls m o) 999999999
 have e1:roomL ls m o=(arW ls m o).foldl (roomStep ls) 999999999:=rfl
 rw [←e1] at a1 a2 a3
 constructor
 ·intro h hn
  obtain ⟨w,hw,a3⟩:=a3.resolve_left (by omega)
  have:w ∈ fullL ls m o:=List.mem_filter.2 ⟨hw,by simp only [decide_eq_true_eq];omega⟩
  rw [hn] at this;cases this
 ·intro h
  obtain ⟨w,hw⟩:=List.exists_mem_of_ne_nil _ h
  have hw:=List.mem_filter.1 hw
  have:=a2 w hw.1
  simp only [decide_eq_true_eq] at hw
  rcases a3 with a3|⟨v,_,a3⟩<;>omega
set_option maxRecDepth 100000
set_option linter.unusedVariables false
set_option linter.unusedSimpArgs false
set_option maxHeartbeats 2000000
theorem ych {l:Lim} (h:zaS l=0) {b:Int} (hb:b ∈ yb l):b ∈ zM l (b / 1440):=by
 rw [yV h,List.mem_flatMap] at hb
 obtain ⟨d,hd,hb⟩:=hb
 have hb2:b ∈ zM l d:=by rw [yw h,if_pos hd];exact hb
 have:=beginsL_mem h hb2
 rw [show b / 1440=d by omega];exact hb2
theorem ycg {l:Lim} (h:zaS l=0) {b d:Int} (hb:b ∈ zM l d):b ∈ yb l:=by
 rw [yw h] at hb
 split at hb
 ·rename_i hd
  rw [yV h,List.mem_flatMap];exact ⟨d,hd,hb⟩
 ·cases hb
theorem ar_mem {ls:List Lim} {m:List Mov} {o:Mov} {i:Nat} {l:Lim} {b:Int} (hi:ls[i]?=some l) (h:zaS l=0) (hb:b ∈ yb l) (hw:inW l b o=true):(⟨i,b,zbs l m b⟩:Win) ∈ arW ls m o:=by
 have hl:=chkLim_0 h
 have hlt:=(List.getElem?_eq_some_iff.1 hi).1
 simp only [inW,Bool.and_eq_true,decide_eq_true_eq] at hw
 have hd:=ych h hb
 unfold arW arK
 refine List.mem_flatMap.2 ⟨i,List.mem_range.2 hlt,?_⟩
 unfold arI
 rw [hi]
 simp only
 unfold arL
 rw [if_pos hw.1]
 refine List.mem_flatMap.2 ⟨(b / 1440 - o.moment / 1440+1).toNat,List.mem_range.2 (by omega),?_⟩
 unfold arX arD
 refine List.mem_flatMap.2 ⟨b,?_,?_⟩
 ·rw [show o.moment / 1440 - 1+((b / 1440 - o.moment / 1440+1).toNat:Int)=b / 1440 by omega];exact hd
 ·unfold arB;rw [if_pos hw.2];simp
set_option maxRecDepth 100000
set_option linter.unusedVariables false
set_option linter.unusedSimpArgs false
set_option maxHeartbeats 2000000
theorem bef1 {a b:Mov} (h:befM a b=true):a.moment≤b.moment:=by
 unfold befM at h;split at h
 ·omega
 ·simp only [decide_eq_true_eq] at h;omega
theorem bef0 {a b:Mov} (h:befM a b=false):b.moment≤a.moment:=by
 unfold befM at h;split at h
 ·omega
 ·simp only [decide_eq_false_iff_not] at h;omega
theorem yb7 {a b:List Mov} (ha:∀ x ∈ a,chkMov x=0) (hb:∀ x ∈ b,chkMov x=0) (hn:a.length+b.length≤30000):zad (mergeM befM a b)=0∧(mergeM befM a b).length=a.length+b.length:=by
 have hp:=merge_perm befM a b
 have hlen:(mergeM befM a b).length=a.length+b.length:=by rw [hp.length_eq,List.length_append]
 refine ⟨yZ (by omega) (fun x hx=>?_) (yaf (fun _ _ h=>bef1 h) (fun _ _ h=>bef0 h) a b),hlen⟩
 rcases List.mem_append.1 (hp.mem_iff.1 hx) with h|h
 ·exact ha x h
 ·exact hb x h
theorem ybV {ls:List Lim} {m:List Mov} {o:Mov}:0≤roomL ls m o∧roomL ls m o≤999999999:=by
 obtain ⟨⟨a1,a2⟩,a3⟩:=yn ls (arW ls m o) 999999999
 have e1:roomL ls m o=(arW ls m o).foldl (roomStep ls) 999999999:=rfl
 rw [←e1] at a1 a2 a3
 rcases a3 with a3|⟨w,_,a3⟩<;>omega
set_option maxRecDepth 100000
set_option linter.unusedVariables false
set_option linter.unusedSimpArgs false
set_option maxHeartbeats 4000000
theorem yf (l:List Int):Pure Tryz.prog 36 [.sl 1 (l.map (.i .i64))] (.i .i64 (zg l)):=by
 refine zf (cF Tryz.func36 Tryz.f36.eq_1) (by simp) fun hw X hX=>?_
 simp only [wfs,PV.wf,List.length_map,maxLen] at hw
 repeat' first|refine gC (fun hc=>?_) (fun hc=>?_)<;>try contradiction|refine gG ?_|show AK _;intro K H|refine H _ _ ?_;clear H K|refine gJ ?_;try exact trivial|omega
 refine zk (κ:=Nat) (fun i=>⟨[(0,.p (.sl 1 (l.map (.i .i64)))),(3,.p (.i .i64 i))],[],[],false⟩) (fun i=>i≤l.length∧∀ x ∈ l.take i,x=0) (fun i=>l.length - i) 0 ?_ ?_ ?_
 ·exact sR
 ·simp
 ·intro i hi
  repeat first|refine gG ?_|show AK _;intro K H|refine H _ _ ?_;clear H K|refine gJ ?_;try exact trivial|omega
  (refine gC (fun hc=>?_) (fun hc=>?_)<;>try contradiction)
  ·obtain ⟨x,hx⟩:=zn (i:=i) (l:=l) (by omega)
   have qe:=@hx;repeat' first|refine gC (fun hc=>?_) (fun hc=>?_)<;>try contradiction|refine gG ?_|show AK _;intro K H|refine H _ _ ?_;clear H K|refine gJ ?_;try exact trivial|omega
   ·rw [zV hi.2 hx hc];exact .refl _
   ·exact ⟨i+1,⟨by omega,zaC hi.2 hx hc⟩,by omega,by simp⟩
  ·repeat' first|refine gC (fun hc=>?_) (fun hc=>?_)<;>try contradiction|refine gG ?_|show AK _;intro K H|refine H _ _ ?_;clear H K|refine gJ ?_;try exact trivial|omega
   have e:i=l.length:=by omega
   subst e
   rw [z4 hi.2];exact .refl _
theorem yN (L:List ByteArray) (x:ByteArray):Pure Tryz.prog 81 [.sl 1 (L.map .s),.s x] (.b (decide (0≤atL x L))):=by
 refine zf (cF Tryz.func81 Tryz.f81.eq_1) (by simp) fun hw X hX=>?_
 simp only [wfs,PV.wf,List.length_map,maxLen] at hw
 repeat' first|refine gC (fun hc=>?_) (fun hc=>?_)<;>try contradiction|refine gG ?_|show AK _;intro K H|refine H _ _ ?_;clear H K|refine gJ ?_;try exact trivial|omega
 refine zk (κ:=Nat) (fun i=>⟨[(0,.p (.sl 1 (L.map .s))),(1,.p (.s x)),(5,.p (.i .i64 i))],[],[],false⟩) (fun i=>i≤L.length∧∀ y ∈ L.take i,y≠x) (fun i=>L.length - i) 0 ?_ ?_ ?_
 ·exact sR
 ·simp
 ·intro i hi
  repeat first|refine gG ?_|show AK _;intro K H|refine H _ _ ?_;clear H K|refine gJ ?_;try exact trivial|omega
  (refine gC (fun hc=>?_) (fun hc=>?_)<;>try contradiction)
  ·obtain ⟨y,hy⟩:=zn (i:=i) (l:=L) (by omega)
   have qe:=@hy;repeat' first|refine gC (fun hc=>?_) (fun hc=>?_)<;>try contradiction|refine gG ?_|show AK _;intro K H|refine H _ _ ?_;clear H K|refine gJ ?_;try exact trivial|omega
   ·rw [atL_hit hi.2 (by rw [hy,hc]),decide_eq_true (by omega)];exact .refl _
   ·refine ⟨i+1,⟨by omega,fun z hz=>?_⟩,by omega,by simp⟩
    rw [zan hy] at hz
    rcases List.mem_append.1 hz with h|h
    ·exact hi.2 z h
    ·simp at h;subst h;exact hc
  ·repeat' first|refine gC (fun hc=>?_) (fun hc=>?_)<;>try contradiction|refine gG ?_|show AK _;intro K H|refine H _ _ ?_;clear H K|refine gJ ?_;try exact trivial|omega
   have e:i=L.length:=by omega
   subst e
   rw [atL_end (fun y hy=>hi.2 y (by rw [List.take_of_length_le (by simp)];exact hy))];exact .refl _
theorem yd (L:List Slt) (n:ByteArray):Pure Tryz.prog 79 [.sl 16 (L.map Slt.pv),.s n] (.i .i64 (atL n (L.map (·.req.name)))):=by
 refine zf (cF Tryz.func79 Tryz.f79.eq_1) (by simp) fun hw X hX=>?_
 simp only [wfs,PV.wf,List.length_map,maxLen] at hw
 rw [←idxF_atL]
 repeat' first|refine gC (fun hc=>?_) (fun hc=>?_)<;>try contradiction|refine gG ?_|show AK _;intro K H|refine H _ _ ?_;clear H K|refine gJ ?_;try exact trivial|omega
 refine zk (κ:=Nat) (fun i=>⟨[(0,.p (.sl 16 (L.map Slt.pv))),(1,.p (.s n)),(5,.p (.i .i64 i))],[],[],false⟩) (fun i=>i≤L.length∧∀ y ∈ L.take i,decide (y.req.name=n)=false) (fun i=>L.length - i) 0 ?_ ?_ ?_
 ·exact sR
 ·simp
 ·intro i hi
  repeat first|refine gG ?_|show AK _;intro K H|refine H _ _ ?_;clear H K|refine gJ ?_;try exact trivial|omega
  (refine gC (fun hc=>?_) (fun hc=>?_)<;>try contradiction)
  ·obtain ⟨y,hy⟩:=zn (i:=i) (l:=L) (by omega)
   have qe:=@hy;repeat' first|refine gC (fun hc=>?_) (fun hc=>?_)<;>try contradiction|refine gG ?_|show AK _;intro K H|refine H _ _ ?_;clear H K|refine gJ ?_;try exact trivial|omega
   ·rw [idxF_hit hi.2 hy (by simpa using hc)];exact .refl _
   ·exact ⟨i+1,⟨by omega,take_no hi.2 hy (by simpa using hc)⟩,by omega,by simp⟩
  ·repeat' first|refine gC (fun hc=>?_) (fun hc=>?_)<;>try contradiction|refine gG ?_|show AK _;intro K H|refine H _ _ ?_;clear H K|refine gJ ?_;try exact trivial|omega
   have e:i=L.length:=by omega
   subst e
   rw [idxF_end (fun y hy=>hi.2 y (by rw [List.take_of_length_le (by simp)];exact hy))];exact .refl _
theorem yg (L:List Wsh) (n:ByteArray):Pure Tryz.prog 55 [.sl 14 (L.map Wsh.pv),.s n] (.i .i64 (atL n (L.map (·.req.name)))):=by
 refine zf (cF Tryz.func55 Tryz.f55.eq_1) (by simp) fun hw X hX=>?_
 simp only [wfs,PV.wf,List.length_map,maxLen] at hw
 rw [←idxF_atL]
 repeat' first|refine gC (fun hc=>?_) (fun hc=>?_)<;>try contradiction|refine gG ?_|show AK _;intro K H|refine H _ _ ?_;clear H K|refine gJ ?_;try exact trivial|omega
 refine zk (κ:=Nat) (fun i=>⟨[(0,.p (.sl 14 (L.map Wsh.pv))),(1,.p (.s n)),(5,.p (.i .i64 i))],[],[],false⟩) (fun i=>i≤L.length∧∀ y ∈ L.take i,decide (y.req.name=n)=false) (fun i=>L.length - i) 0 ?_ ?_ ?_
 ·exact sR
 ·simp
 ·intro i hi
  repeat first|refine gG ?_|show AK _;intro K H|refine H _ _ ?_;clear H K|refine gJ ?_;try exact trivial|omega
  (refine gC (fun hc=>?_) (fun hc=>?_)<;>try contradiction)
  ·obtain ⟨y,hy⟩:=zn (i:=i) (l:=L) (by omega)
   have qe:=@hy;repeat' first|refine gC (fun hc=>?_) (fun hc=>?_)<;>try contradiction|refine gG ?_|show AK _;intro K H|refine H _ _ ?_;clear H K|refine gJ ?_;try exact trivial|omega
   ·rw [idxF_hit hi.2 hy (by simpa using hc)];exact .refl _
   ·exact ⟨i+1,⟨by omega,take_no hi.2 hy (by simpa using hc)⟩,by omega,by simp⟩
  ·repeat' first|refine gC (fun hc=>?_) (fun hc=>?_)<;>try contradiction|refine gG ?_|show AK _;intro K H|refine H _ _ ?_;clear H K|refine gJ ?_;try exact trivial|omega
   have e:i=L.length:=by omega
   subst e
   rw [idxF_end (fun y hy=>hi.2 y (by rw [List.take_of_length_le (by simp)];exact hy))];exact .refl _
theorem yo (s:ByteArray):Pure Tryz.prog 107 [.s s] (.i .i64 (zaH s)):=by
 refine zf (cF Tryz.func107 Tryz.f107.eq_1) (by simp) fun hw X hX=>?_
 repeat' first|refine gC (fun hc=>?_) (fun hc=>?_)<;>try contradiction|refine za (yW _) ?_|refine gG ?_|show AK _;intro K H|refine H _ _ ?_;clear H K|refine gJ ?_;try exact trivial|omega
 ·rw [zaH,if_pos hc];exact .refl _
 ·rw [zaH,if_neg (by rw [hc];simp)];exact .refl _
theorem yM (l:Lea):Pure Tryz.prog 108 [l.pv] (.i .i64 (chkLea l)):=by
 refine zf (cF Tryz.func108 Tryz.f108.eq_1) (by simp) fun hw X hX=>?_
 have hsp:chkLea l=zg ([zaH l.carrier,rng l.fro 0 99999,rng l.to 0 99999]++[if l.to < l.fro then 11 else 0]):=rfl
 rw [fE_app,fE_one] at hsp
 have qe:=@qR;repeat' first|refine gC (fun hc=>?_) (fun hc=>?_)<;>try contradiction|refine za (yo _) ?_|refine za (yat _) ?_|refine za (yf [_,_,_]) ?_|refine gG ?_|show AK _;intro K H|refine H _ _ ?_;clear H K|refine gJ ?_;try exact trivial|omega
 ·rw [hsp,if_pos hc.1,if_pos hc.2];exact .refl _
 ·by_cases h:zg [zaH l.carrier,rng l.fro 0 99999,rng l.to 0 99999]=0
  ·have:=hc h
   rw [hsp,if_pos h,if_neg (by omega),h];exact .refl _
  ·rw [hsp,if_neg h];exact .refl _
theorem yL (s:Slt) (l:Lea):Pure Tryz.prog 109 [s.pv,l.pv] (.i .i64 (leaOf s.raw l)):=by
 refine zf (cF Tryz.func109 Tryz.f109.eq_1) (by simp) fun hw X hX=>?_
 have qe:=@qR;repeat' first|refine gC (fun hc=>?_) (fun hc=>?_)<;>try contradiction|refine gG ?_|show AK _;intro K H|refine H _ _ ?_;clear H K|refine gJ ?_;try exact trivial|omega
 ·rw [leaOf,za2 (by rw [if_pos hc];omega),if_pos hc];exact .refl _
 ·rw [leaOf,za3 (if_neg (by simp only;omega)),fE_one,if_pos hc];exact .refl _
 ·rw [leaOf,za3 (if_neg (by simp only;omega)),fE_one,if_neg hc];exact .refl _
theorem ybW (s:ByteArray):Pure Tryz.prog 206 [.s s] (.b (decide (s=s0) || isName s)):=by
 refine zf (cF Tryz.func206 Tryz.f206.eq_1) (by simp) fun hw X hX=>?_
 repeat' first|refine gC (fun hc=>?_) (fun hc=>?_)<;>try contradiction|refine zN (fun _=>yW _) ?_|refine gG ?_|show AK _;intro K H|refine H _ _ ?_;clear H K|refine gJ ?_;try exact trivial|omega
 exact .refl _
theorem ycp {a b c t l:ByteArray} (h:(((isName a=false∨isName b=false)∨isName c=false)∨¬t=s0∧isName t=false)∨¬l=s0∧isName l=false):zg [zaH a,zaH b,zaH c,optE t,optE l]=8:=by
 simp only [zg,zaH,optE]
 (repeat' split)<;>simp_all
theorem five_0 {a b c t l:ByteArray} (h:(((¬isName a=false∧isName b=true)∧isName c=true)∧(t=s0∨isName t=true))∧(l=s0∨isName l=true)):zg [zaH a,zaH b,zaH c,optE t,optE l]=0:=by
 simp only [zg,zaH,optE]
 (repeat' split)<;>simp_all
theorem ybX (r:Req):Pure Tryz.prog 126 [r.pv] (.i .i64 (chkRq r)):=by
 refine zf (cF Tryz.func126 Tryz.f126.eq_1) (by simp) fun hw X hX=>?_
 have hsp:chkRq r=zg ([zaH r.name,zaH r.carrier,zaH r.partner,optE r.term,optE r.link]++[flightE r.kind,if r.link=r.name then 32 else 0,zau r.per,rng r.minute 0 1439,rng r.seats 0 999,rng r.size 1 9,rng r.noise 0 99]):=rfl
 rw [fE_app] at hsp
 have qe:=@qR;repeat' first|refine gC (fun hc=>?_) (fun hc=>?_)<;>try contradiction|refine zN (fun _=>yW _) ?_|refine za (yW _) ?_|refine zN (fun _=>ybW _) ?_|refine za (yO r.per) ?_|refine za (y4 _ _ _) ?_|refine za (yf [_,_,_,_]) ?_|refine gG ?_|show AK _;intro K H|refine H _ _ ?_;clear H K|refine gJ ?_;try exact trivial|omega
 ·rw [hsp,if_neg (by rw [ycp hc];omega),ycp hc];exact .refl _
 all_goals rw [if_pos (five_0 (by assumption))] at hsp
 ·rw [hsp,za2 (by rw [flightE,if_pos hc];omega),flightE,if_pos hc];exact .refl _
 all_goals rw [za3 (show flightE r.kind=0 by rw [flightE,if_neg (fun e=>e.2 ((by assumption:¬r.kind=bs [65]→r.kind=bs [68]) e.1))])] at hsp
 ·rw [hsp,za2 (by rw [if_pos hc];omega),if_pos hc];exact .refl _
 all_goals rw [za3 (if_neg (by assumption))] at hsp
 ·rw [hsp,za2 hc];exact .refl _
 ·rw [hsp,za3 hc];exact .refl _
theorem yad {r:Req} (h:chkRq r=0):zau r.per=0:=fE0 (show zg [zaH r.name,zaH r.carrier,zaH r.partner,optE r.term,optE r.link,flightE r.kind,if r.link=r.name then 32 else 0,zau r.per,rng r.minute 0 1439,rng r.seats 0 999,rng r.size 1 9,rng r.noise 0 99]=0 from h) _ (by simp)
theorem yaO (r:Req):Pure Tryz.prog 53 [r.pv] (.i .i64 (chkQ r)):=by
 refine zf (cF Tryz.func53 Tryz.f53.eq_1) (by simp) fun hw X hX=>?_
 have qe:=aI qR (@List.length_map.{0,0});repeat' first|refine gC (fun hc=>?_) (fun hc=>?_)<;>try contradiction|refine za (ybX r) ?_|(show zj _ _ _ _ (⟨_,.call 47,_,_,_⟩::_) _ _;refine zbj (hf:=fun hc=>(by first|exact yaL r.per (yad (by simpa using hc))|(simp only [qH,rng_0] at hc;exact yaL r.per (yad (by simpa using hc))))) (hn:=?_))|refine gG ?_|show AK _;intro K H|refine H _ _ ?_;clear H K|refine gJ ?_;try exact trivial|omega
 ·have h2:zY r.per=[]:=by simpa using hc.2
  rw [chkQ,hc.1,za3 rfl,fE_one,if_pos h2];exact .refl _
 ·by_cases h:chkRq r=0
  ·have h2:¬zY r.per=[]:=by simpa using hc h
   rw [show chkQ r=0 by rw [chkQ,za3 h,fE_one,if_neg h2],h];exact .refl _
  ·rw [chkQ,za2 h];exact .refl _
theorem yp (w:Wsh):Pure Tryz.prog 54 [w.pv] (.i .i64 (chkWsh w)):=by
 refine zf (cF Tryz.func54 Tryz.f54.eq_1) (by simp) fun hw X hX=>?_
 have qe:=@qR;repeat' first|refine gC (fun hc=>?_) (fun hc=>?_)<;>try contradiction|refine za (yaO w.req) ?_|refine za (y4 _ _ _) ?_|refine za (yf [_,_]) ?_|refine gG ?_|show AK _;intro K H|refine H _ _ ?_;clear H K|refine gJ ?_;try exact trivial|omega
 exact .refl _
set_option maxRecDepth 100000
set_option linter.unusedVariables false
set_option linter.unusedSimpArgs false
set_option maxHeartbeats 4000000
def ye (a b:Wsh):Bool:=decide (a.rank < b.rank) || (decide (a.rank=b.rank) && Op.bytesLess a.req.name.toList b.req.name.toList)
theorem yaM (a b:Wsh):Pure Tryz.prog 95 [a.pv,b.pv] (.b (ye a b)):=by
 refine zf (cF Tryz.func95 Tryz.f95.eq_1) (by simp) fun hw X hX=>?_
 rw [ye]
 rcases Int.lt_trichotomy a.rank b.rank with h|h|h
 ·have h1:(a.rank < b.rank)=True:=eq_true h
  have h2:(a.rank=b.rank)=False:=eq_false (by omega)
  have qe:=aI @h1 (aI @h2 (aI @decide_true @decide_false));repeat' first|refine gC (fun hc=>?_) (fun hc=>?_)<;>try contradiction|refine gG ?_|show AK _;intro K H|refine H _ _ ?_;clear H K|refine gJ ?_;try exact trivial|omega
  all_goals simp only [h1,h2,decide_true,decide_false,Bool.true_or]
  all_goals exact .refl _
 ·have h1:(a.rank < b.rank)=False:=eq_false (by omega)
  have h2:(a.rank=b.rank)=True:=eq_true h
  have qe:=aI @h1 (aI @h2 (aI @decide_true @decide_false));repeat' first|refine gC (fun hc=>?_) (fun hc=>?_)<;>try contradiction|refine gG ?_|show AK _;intro K H|refine H _ _ ?_;clear H K|refine gJ ?_;try exact trivial|omega
  all_goals simp only [h1,h2,decide_true,decide_false,Bool.false_or,Bool.true_and]
  all_goals exact .refl _
 ·have h1:(a.rank < b.rank)=False:=eq_false (by omega)
  have h2:(a.rank=b.rank)=False:=eq_false (by omega)
  have qe:=aI @h1 (aI @h2 (aI @decide_true @decide_false));repeat' first|refine gC (fun hc=>?_) (fun hc=>?_)<;>try contradiction|refine gG ?_|show AK _;intro K H|refine H _ _ ?_;clear H K|refine gJ ?_;try exact trivial|omega
  all_goals simp only [h1,h2,decide_true,decide_false,Bool.false_or,Bool.false_and]
  all_goals exact .refl _
set_option maxRecDepth 100000
set_option linter.unusedVariables false
set_option linter.unusedSimpArgs false
set_option maxHeartbeats 8000000
section
variable {α:Type}
theorem yai (bef:α→α→Bool) (x:α) (out:List α):∀ n,zbB bef x out n≤n
 | 0=>Nat.le_refl _
 | n+1=>by
  have:=yai bef x out n
  simp only [zbB];(repeat' split)<;>omega
theorem yaj (bef:α→α→Bool) (x:α) (out:List α):∀ n i,zbB bef x out n≤i→i < n→∃ y,out[i]?=some y∧bef x y=true
 | 0,i,_,h=>by omega
 | n+1,i,h,hi=>by
  simp only [zbB] at h
  split at h
  ·rename_i y hy
   split at h
   ·by_cases e:i=n
    ·subst e;exact ⟨y,hy,by assumption⟩
    ·exact yaj bef x out n i h (by omega)
   ·omega
  ·omega
theorem yQ (bef:α→α→Bool) (x:α) (out:List α):∀ n k y,zbB bef x out n=k+1→out[k]?=some y→bef x y=false
 | 0,_,_,h,_=>by cases h
 | n+1,k,y,h,hy=>by
  simp only [zbB] at h
  split at h
  ·rename_i z hz
   split at h
   ·exact yQ bef x out n k y h hy
   ·have e:n=k:=by omega
    subst e
    rw [hz] at hy
    cases hy
    rename_i hb
    simpa using hb
  ·rename_i hz
   have e:n=k:=by omega
   subst e
   rw [hz] at hy;cases hy
end
set_option maxRecDepth 100000
set_option linter.unusedVariables false
set_option linter.unusedSimpArgs false
set_option maxHeartbeats 4000000
def mvS (l:List Slt):List Mov:=l.foldl (fun out s=>mergeM befM out (movsL s.req)) []
theorem yb6 {l:List Slt} {k:Nat} {s:Slt} (h:l[k]?=some s):mvS (l.take (k+1))=mergeM befM (mvS (l.take k)) (movsL s.req):=by
 rw [zan h,mvS,List.foldl_append];rfl
set_option maxRecDepth 100000
set_option linter.unusedVariables false
set_option linter.unusedSimpArgs false
set_option maxHeartbeats 8000000
def ya3 (q:Req):Bool:=decide ((q.name.size:Int)≤40) && decide ((q.carrier.size:Int)≤40) && decide ((q.kind.size:Int)≤40) && decide ((q.term.size:Int)≤40) && decide ((q.partner.size:Int)≤40) && decide ((q.link.size:Int)≤40)
theorem y6 (q:Req):Pure Tryz.prog 51 [q.pv] (.b (ya3 q)):=by
 refine zf (cF Tryz.func51 Tryz.f51.eq_1) (by simp) fun hw X hX=>?_
 have qe:=@qR;repeat' first|refine gC (fun hc=>?_) (fun hc=>?_)<;>try contradiction|refine gG ?_|show AK _;intro K H|refine H _ _ ?_;clear H K|refine gJ ?_;try exact trivial|omega
 exact .refl _
def shortB (q:Req):Bool:=ya3 q && (!decide (zau q.per=0) || decide (q.per.to - q.per.fro < 14))
theorem yaN (q:Req):Pure Tryz.prog 85 [q.pv] (.b (shortB q)):=by
 refine zf (cF Tryz.func85 Tryz.f85.eq_1) (by simp) fun hw X hX=>?_
 by_cases hb:ya3 q=true
 ·by_cases hp:zau q.per=0
  ·have h1:=zaX hp
   have e:shortB q=decide (q.per.to - q.per.fro < 14):=by simp [shortB,hb,hp]
   rw [e]
   have qe:=aI qR (aI @hb (aI @hp (aI @decide_true @Bool.not_true)));repeat' first|refine gC (fun hc=>?_) (fun hc=>?_)<;>try contradiction|refine za (y6 q) ?_|refine zN (fun _=>yO q.per) ?_|refine gG ?_|show AK _;intro K H|refine H _ _ ?_;clear H K|refine gJ ?_;try exact trivial|omega
   exact .refl _
  ·have hpf:=eq_false hp
   have e:shortB q=true:=by simp [shortB,hb,hp]
   rw [e]
   have qe:=aI qR (aI @hb (aI @hpf (aI @decide_false @Bool.not_false)));repeat' first|refine gC (fun hc=>?_) (fun hc=>?_)<;>try contradiction|refine za (y6 q) ?_|refine zN (fun _=>yO q.per) ?_|refine gG ?_|show AK _;intro K H|refine H _ _ ?_;clear H K|refine gJ ?_;try exact trivial|omega
   exact .refl _
 ·have hbf:ya3 q=false:=by simpa using hb
  have e:shortB q=false:=by simp [shortB,hbf]
  rw [e]
  have qe:=aI qR @hbf;repeat' first|refine gC (fun hc=>?_) (fun hc=>?_)<;>try contradiction|refine za (y6 q) ?_|refine zN (fun _=>yO q.per) ?_|refine gG ?_|show AK _;intro K H|refine H _ _ ?_;clear H K|refine gJ ?_;try exact trivial|omega
  exact .refl _
set_option maxRecDepth 100000
set_option linter.unusedVariables false
set_option linter.unusedSimpArgs false
set_option maxHeartbeats 8000000
theorem ybY (s:Slt):Pure Tryz.prog 124 [s.pv,s.pv] (.b true):=by
 refine zf (cF Tryz.func124 Tryz.f124.eq_1) (by simp) fun hw X hX=>?_
 have hwl:s.ls.length≤maxLen:=by
  simp only [wfs,PV.wf,List.length_map] at hw
  omega
 simp only [maxLen] at hwl
 have qe:=aI qR (aI @zbb (aI @decide_true @Bool.not_true));repeat' first|refine gC (fun hc=>?_) (fun hc=>?_)<;>try contradiction|refine zN (fun _=>pure1031 s.sh s.sh) ?_|refine gG ?_|show AK _;intro K H|refine H _ _ ?_;clear H K|refine gJ ?_;try exact trivial|omega
 refine zk (κ:=Nat) (fun k=>⟨[(2,.lp 2 0),(3,.lp 3 0),(5,.p (.i .i64 k))],[(2,.box (s.cells.map .p) false),(3,.box (s.cells.map .p) false)],[],false⟩) (fun k=>k≤s.ls.length) (fun k=>s.ls.length - k) 0 ?_ ?_ ?_
 ·exact sS
 ·simp
 ·intro k hk
  repeat first|refine gG ?_|show AK _;intro K H|refine H _ _ ?_;clear H K|refine gJ ?_;try exact trivial|omega
  (refine gC (fun hc=>?_) (fun hc=>?_)<;>try contradiction)
  ·obtain ⟨x,hx⟩:=zn (i:=k) (l:=s.ls) (by omega)
   have qe:=aI qR (aI @hx (aI @zbb (aI @decide_true (aI @Bool.not_true @Bool.and_self))));repeat' first|refine gC (fun hc=>?_) (fun hc=>?_)<;>try contradiction|refine gG ?_|show AK _;intro K H|refine H _ _ ?_;clear H K|refine gJ ?_;try exact trivial|omega
   exact ⟨k+1,by omega,by omega,by simp⟩
  ·have qe:=@qR;repeat' first|refine gC (fun hc=>?_) (fun hc=>?_)<;>try contradiction|refine gG ?_|show AK _;intro K H|refine H _ _ ?_;clear H K|refine gJ ?_;try exact trivial|omega
   exact .refl _
theorem yaP (b:Bk):Pure Tryz.prog 49 [b.pv,b.pv] (.b true):=by
 refine zf (cF Tryz.func49 Tryz.f49.eq_1) (by simp) fun hw X hX=>?_
 have hwl:b.slots.length≤maxLen∧b.wait.length≤maxLen:=by
  simp only [wfs,PV.wf,List.length_map] at hw
  omega
 simp only [maxLen] at hwl
 have qe:=aI qR (aI @zbb (aI @decide_true @Bool.not_true));repeat' first|refine gC (fun hc=>?_) (fun hc=>?_)<;>try contradiction|refine gG ?_|show AK _;intro K H|refine H _ _ ?_;clear H K|refine gJ ?_;try exact trivial|omega
 refine zk (κ:=Nat) (fun k=>⟨[(2,.lp 2 0),(3,.lp 3 0),(5,.p (.i .i64 k))],[(2,.box [.p (.sl 16 (b.slots.map Slt.pv)),.p (.sl 14 (b.wait.map Wsh.pv))] false),(3,.box [.p (.sl 16 (b.slots.map Slt.pv)),.p (.sl 14 (b.wait.map Wsh.pv))] false)],[],false⟩) (fun k=>k≤b.slots.length) (fun k=>b.slots.length - k) 0 ?_ ?_ ?_
 ·exact sS
 ·simp
 ·intro k hk
  repeat first|refine gG ?_|show AK _;intro K H|refine H _ _ ?_;clear H K|refine gJ ?_;try exact trivial|omega
  (refine gC (fun hc=>?_) (fun hc=>?_)<;>try contradiction)
  ·obtain ⟨x,hx⟩:=zn (i:=k) (l:=b.slots) (by omega)
   have qe:=aI qR (aI @hx (aI @zbb (aI @decide_true @Bool.not_true)));repeat' first|refine gC (fun hc=>?_) (fun hc=>?_)<;>try contradiction|refine za (ybY x) ?_|refine gG ?_|show AK _;intro K H|refine H _ _ ?_;clear H K|refine gJ ?_;try exact trivial|omega
   all_goals exact ⟨k+1,by omega,by omega,by simp⟩
  ·have qe:=@qR;repeat' first|refine gC (fun hc=>?_) (fun hc=>?_)<;>try contradiction|refine gG ?_|show AK _;intro K H|refine H _ _ ?_;clear H K|refine gJ ?_;try exact trivial|omega
   refine zk (κ:=Nat) (fun k=>⟨[(2,.lp 2 0),(3,.lp 3 0),(6,.p (.i .i64 k))],[(2,.box [.p (.sl 16 (b.slots.map Slt.pv)),.p (.sl 14 (b.wait.map Wsh.pv))] false),(3,.box [.p (.sl 16 (b.slots.map Slt.pv)),.p (.sl 14 (b.wait.map Wsh.pv))] false)],[],false⟩) (fun k=>k≤b.wait.length) (fun k=>b.wait.length - k) 0 ?_ ?_ ?_
   ·exact sS
   ·simp
   ·intro k hk
    repeat first|refine gG ?_|show AK _;intro K H|refine H _ _ ?_;clear H K|refine gJ ?_;try exact trivial|omega
    (refine gC (fun hc=>?_) (fun hc=>?_)<;>try contradiction)
    ·obtain ⟨x,hx⟩:=zn (i:=k) (l:=b.wait) (by omega)
     have qe:=aI qR (aI @hx (aI @zbb (aI @decide_true (aI @Bool.not_true @Bool.and_self))));repeat' first|refine gC (fun hc=>?_) (fun hc=>?_)<;>try contradiction|refine gG ?_|show AK _;intro K H|refine H _ _ ?_;clear H K|refine gJ ?_;try exact trivial|omega
     all_goals exact ⟨k+1,by omega,by omega,by simp⟩
    ·have qe:=@qR;repeat' first|refine gC (fun hc=>?_) (fun hc=>?_)<;>try contradiction|refine gG ?_|show AK _;intro K H|refine H _ _ ?_;clear H K|refine gJ ?_;try exact trivial|omega
     all_goals exact .refl _
set_option maxRecDepth 100000
set_option linter.unusedVariables false
set_option linter.unusedSimpArgs false
set_option maxHeartbeats 8000000
theorem y7 (b:Bk) (hb:BkOk b):Pure Tryz.prog 50 [b.pv] b.pv:=by
 obtain ⟨hs,hn,hw1⟩:=hb
 refine zf (cF Tryz.func50 Tryz.f50.eq_1) (by simp) fun hw X hX=>?_
 have qe:=@qR;repeat' first|refine gC (fun hc=>?_) (fun hc=>?_)<;>try contradiction|refine gG ?_|show AK _;intro K H|refine H _ _ ?_;clear H K|refine gJ ?_;try exact trivial|omega
 refine zaO 100 33 16 [(1,.lp 1 0),(2,.lp 2 0),(3,.lp 3 0),(12,.p (.sl 16 (b.slots.map Slt.pv))),(13,.p (.i .i64 b.slots.length)),(14,.p (.i .i64 0))] [(1,.box [.p (.sl 16 (b.slots.map Slt.pv)),.p (.sl 14 (b.wait.map Wsh.pv))] false),(2,.box [.p .nilsl,.p .nilsl] false),(3,.box [.row 100 0,.p .nilsl] false)] ?_ ?_
 ·simp only [Own,zaL,zaB,zbt,zay,qS,Nat.reduceAdd,Nat.reduceMul,Nat.reduceEqDiff,Nat.reduceLeDiff,reduceIte,reduceCtorEq,Nat.reduceBEq,Nat.reduceLT]<;>simp
 refine zk (κ:=Nat) (fun k=>⟨[(1,.lp 1 0),(2,.lp 2 0),(3,.lp 3 0),(12,.p (.sl 16 (b.slots.map Slt.pv))),(13,.p (.i .i64 b.slots.length)),(14,.p (.i .i64 k))],[(1,.box [.p (.sl 16 (b.slots.map Slt.pv)),.p (.sl 14 (b.wait.map Wsh.pv))] false),(2,.box [.p .nilsl,.p .nilsl] false),(3,.box [.row 100 k,.p .nilsl] false),(100,.row 33 16 ((b.slots.take k).map Slt.pv) false)],[],false⟩) (fun k=>k≤b.slots.length) (fun k=>b.slots.length - k) 0 ?_ ?_ ?_
 ·exact sS
 ·simp
 ·intro k hk
  have hlk:(b.slots.take k).length=k:=by rw [List.length_take];omega
  repeat first|refine gG ?_|show AK _;intro K H|refine H _ _ ?_;clear H K|refine gJ ?_;try exact trivial|omega
  (refine gC (fun hc=>?_) (fun hc=>?_)<;>try contradiction)
  ·obtain ⟨s,hx⟩:=zn (i:=k) (l:=b.slots) (by omega)
   obtain ⟨hl1,hl2⟩:=hs s (List.mem_of_getElem? hx)
   have qe:=aI qR @hx;repeat' first|refine gC (fun hc=>?_) (fun hc=>?_)<;>try contradiction|refine gG ?_|show AK _;intro K H|refine H _ _ ?_;clear H K|refine gJ ?_;try exact trivial|omega
   refine zaO 101 97 3 [(1,.lp 1 0),(2,.lp 2 0),(3,.lp 3 0),(12,.p (.sl 16 (b.slots.map Slt.pv))),(13,.p (.i .i64 b.slots.length)),(14,.p (.i .i64 k)),(5,.lp 5 0),(6,.lp 6 0),(26,.p (.sl 3 (s.ls.map Lea.pv))),(27,.p (.i .i64 s.ls.length)),(28,.p (.i .i64 0))] [(1,.box [.p (.sl 16 (b.slots.map Slt.pv)),.p (.sl 14 (b.wait.map Wsh.pv))] false),(2,.box [.p .nilsl,.p .nilsl] false),(3,.box [.row 100 k,.p .nilsl] false),(100,.row 33 16 ((b.slots.take k).map Slt.pv) false),(5,.box (s.cells.map .p) false),(6,.box [.p (.s s.req.name),.p (.s s.req.carrier),.p (.s s.req.kind),.p (.s s.req.term),.p (.s s.req.partner),.p (.s s.req.link),.p (.i .i64 s.req.per.fro),.p (.i .i64 s.req.per.to),.p (.i .i64 s.req.per.days),.p (.i .i64 s.req.minute),.p (.i .i64 s.req.seats),.p (.i .i64 s.req.size),.p (.i .i64 s.req.noise),.p (.s s.holder),.row 101 0,.p (.sl 1 (s.sh.map .s))] false)] ?_ ?_
   ·simp only [Own,zaL,zaB,zbt,zay,qS,Nat.reduceAdd,Nat.reduceMul,Nat.reduceEqDiff,Nat.reduceLeDiff,reduceIte,reduceCtorEq,Nat.reduceBEq,Nat.reduceLT]<;>simp [hlk]
   refine zk (κ:=Nat) (fun i=>⟨[(1,.lp 1 0),(2,.lp 2 0),(3,.lp 3 0),(12,.p (.sl 16 (b.slots.map Slt.pv))),(13,.p (.i .i64 b.slots.length)),(14,.p (.i .i64 k)),(5,.lp 5 0),(6,.lp 6 0),(26,.p (.sl 3 (s.ls.map Lea.pv))),(27,.p (.i .i64 s.ls.length)),(28,.p (.i .i64 i))],[(1,.box [.p (.sl 16 (b.slots.map Slt.pv)),.p (.sl 14 (b.wait.map Wsh.pv))] false),(2,.box [.p .nilsl,.p .nilsl] false),(3,.box [.row 100 k,.p .nilsl] false),(100,.row 33 16 ((b.slots.take k).map Slt.pv) false),(5,.box (s.cells.map .p) false),(6,.box [.p (.s s.req.name),.p (.s s.req.carrier),.p (.s s.req.kind),.p (.s s.req.term),.p (.s s.req.partner),.p (.s s.req.link),.p (.i .i64 s.req.per.fro),.p (.i .i64 s.req.per.to),.p (.i .i64 s.req.per.days),.p (.i .i64 s.req.minute),.p (.i .i64 s.req.seats),.p (.i .i64 s.req.size),.p (.i .i64 s.req.noise),.p (.s s.holder),.row 101 i,.p (.sl 1 (s.sh.map .s))] false),(101,.row 97 3 ((s.ls.take i).map Lea.pv) false)],[],false⟩) (fun i=>i≤s.ls.length) (fun i=>s.ls.length - i) 0 ?_ ?_ ?_
   ·refine gJ ?_;simp [hlk]
   ·simp
   ·intro i hi
    have hli:(s.ls.take i).length=i:=by rw [List.length_take];omega
    repeat first|refine gG ?_|show AK _;intro K H|refine H _ _ ?_;clear H K|refine gJ ?_;try exact trivial|omega
    (refine gC (fun hc=>?_) (fun hc=>?_)<;>try contradiction)
    ·obtain ⟨x,hx2⟩:=zn (i:=i) (l:=s.ls) (by omega)
     have qe:=aI qR (aI @hx2 (aI @hli @hlk));repeat' first|refine gC (fun hc=>?_) (fun hc=>?_)<;>try contradiction|refine gG ?_|show AK _;intro K H|refine H _ _ ?_;clear H K|refine gJ ?_;try exact trivial|omega
     exact ⟨i+1,by omega,by omega,by simp,⟨rfl,by rw [zan hx2];simp⟩,by simp;omega⟩
    ·have e:i=s.ls.length:=by omega
     subst e
     refine run_exit ?_
     refine (show Run _ (.ops false _) _ _ from run_region (run_partN 3 ?_))
     simp only [List.take_succ_cons,List.take_zero,List.drop_succ_cons,List.drop_zero]
     have qe:=aI qR (aI @zaf (aI @hlk @List.take_length.{0}));repeat' first|refine gC (fun hc=>?_) (fun hc=>?_)<;>try contradiction|refine gG ?_|show AK _;intro K H|refine H _ _ ?_;clear H K|refine gJ ?_;try exact trivial|omega
     refine zbO (yal 41 s.pv (by simp only [qS,Nat.reduceAdd,Nat.reduceMul,Nat.reduceEqDiff,Nat.reduceLeDiff,reduceIte,reduceCtorEq,Nat.reduceBEq,Nat.reduceLT,zaf]<;>rfl) (by first|trivial|simp) (.refl _)) ?_
     rintro _ rfl
     refine zE ?_
     have qe:=aI qR @hlk;repeat' first|refine gC (fun hc=>?_) (fun hc=>?_)<;>try contradiction|refine gG ?_|show AK _;intro K H|refine H _ _ ?_;clear H K|refine gJ ?_;try exact trivial|omega
     exact ⟨k+1,by omega,by omega,by simp,⟨rfl,by rw [zan hx];simp⟩,by simp;omega⟩
  ·have e:k=b.slots.length:=by omega
   subst e
   have qe:=aI qR @List.take_length.{0};repeat' first|refine gC (fun hc=>?_) (fun hc=>?_)<;>try contradiction|refine gG ?_|show AK _;intro K H|refine H _ _ ?_;clear H K|refine gJ ?_;try exact trivial|omega
   refine zaO 102 66 14 [(2,.lp 2 0),(3,.lp 3 0),(47,.p (.sl 14 (b.wait.map Wsh.pv))),(48,.p (.i .i64 b.wait.length)),(49,.p (.i .i64 0))] [(1,.box [.p (.sl 16 (b.slots.map Slt.pv)),.p (.sl 14 (b.wait.map Wsh.pv))] false),(2,.box [.p .nilsl,.p .nilsl] false),(3,.box [.row 100 b.slots.length,.row 102 0] false),(100,.row 33 16 (b.slots.map Slt.pv) false)] ?_ ?_
   ·simp only [Own,zaL,zaB,zbt,zay,qS,Nat.reduceAdd,Nat.reduceMul,Nat.reduceEqDiff,Nat.reduceLeDiff,reduceIte,reduceCtorEq,Nat.reduceBEq,Nat.reduceLT]<;>simp
   refine zk (κ:=Nat) (fun k=>⟨[(2,.lp 2 0),(3,.lp 3 0),(47,.p (.sl 14 (b.wait.map Wsh.pv))),(48,.p (.i .i64 b.wait.length)),(49,.p (.i .i64 k))],[(1,.box [.p (.sl 16 (b.slots.map Slt.pv)),.p (.sl 14 (b.wait.map Wsh.pv))] false),(2,.box [.p .nilsl,.p .nilsl] false),(3,.box [.row 100 b.slots.length,.row 102 k] false),(100,.row 33 16 (b.slots.map Slt.pv) false),(102,.row 66 14 ((b.wait.take k).map Wsh.pv) false)],[],false⟩) (fun k=>k≤b.wait.length) (fun k=>b.wait.length - k) 0 ?_ ?_ ?_
   ·exact sS
   ·simp
   ·intro k hk2
    have hl2:(b.wait.take k).length=k:=by rw [List.length_take];omega
    repeat first|refine gG ?_|show AK _;intro K H|refine H _ _ ?_;clear H K|refine gJ ?_;try exact trivial|omega
    (refine gC (fun hc=>?_) (fun hc=>?_)<;>try contradiction)
    ·obtain ⟨w,hx2⟩:=zn (i:=k) (l:=b.wait) (by omega)
     have qe:=aI qR (aI @hx2 @hl2);repeat' first|refine gC (fun hc=>?_) (fun hc=>?_)<;>try contradiction|refine gG ?_|show AK _;intro K H|refine H _ _ ?_;clear H K|refine gJ ?_;try exact trivial|omega
     exact ⟨k+1,by omega,by omega,by simp,⟨rfl,by rw [zan hx2];simp⟩,by simp;omega⟩
    ·have e2:k=b.wait.length:=by omega
     subst e2
     have qe:=aI qR (aI @zaf @List.take_length.{0});repeat' first|refine gC (fun hc=>?_) (fun hc=>?_)<;>try contradiction|refine gG ?_|show AK _;intro K H|refine H _ _ ?_;clear H K|refine gJ ?_;try exact trivial|omega
     exact .refl _
set_option maxRecDepth 100000
set_option linter.unusedVariables false
set_option linter.unusedSimpArgs false
set_option maxHeartbeats 8000000
theorem ybJ {q:Req} (h:chkRq q=0):chkReq q=0:=by
 have a:=fE0 h
 have h1:zaH q.name=0:=a _ (by simp)
 have h2:optE q.term=0:=a _ (by simp)
 have h3:flightE q.kind=0:=a _ (by simp)
 have h4:zau q.per=0:=a _ (by simp)
 have h5:rng q.minute 0 1439=0:=a _ (by simp)
 have h6:=rng_0.1 (a (rng q.seats 0 999) (by simp))
 have h7:=rng_0.1 (a (rng q.size 1 9) (by simp))
 have h8:=rng_0.1 (a (rng q.noise 0 99) (by simp))
 rw [chkReq,za3 h1,za3 h3,za3 h2,za3 h4,za3 h5,fE_one]
 exact ybw (by omega)
theorem yB {q:Req} (h:chkQ q=0):chkReq q=0:=ybJ (fE0 h _ (by simp))
end Go.Proofs.YtahmdjadnlpjoaaGreat
namespace Go.Proofs.YtahmdjadnlpjoaaGreat
open Go.RowKit Go.ChangeShapes Go.WideShapes Go.ChangeAt
set_option maxRecDepth 100000
set_option linter.unusedVariables false
set_option linter.unusedSimpArgs false
set_option maxHeartbeats 4000000
abbrev jT:CP:=.i .i64
theorem own:ownKnob Tryz.prog.godebug=none:=by kernel_rfl
theorem laid:laidOutB Tryz.prog=true:=by kernel_rfl
theorem und4:Tryz.prog.underlying 4=some .bool:=by kernel_rfl
abbrev zs:Value:=.string ⟨#[]⟩
theorem ybz {P:Program} {f:FuncId} {fn:Func} {s:ChangeSpec} {c:OpenClaim} (a1:c.wf (OpenSpec.ofChange s)=true) (a2:laidOutB P=true) (a3:mapsRowed P=true)
  (a4:(fn.params.all (P.readableRec ·) && namedTie P c.named s.vars && (c.stops == []) && (P.stops == []) && (c.knobs == []) && (P.stopKnobs == []))=true)
  (b1:(c.inPlace == P.inPlace f)=true) (b2:(c.unfollowed == P.unfollowed f)=true) (b3:(c.recurses == P.recurses f)=true) (b4:(c.named == P.varsNamed f)=true)
  (d1:((c.maps == (fn.params.toList++s.plain.varTypes P).any (P.mapsRec ·)) && (c.ifaces == (fn.params.toList++s.plain.varTypes P).any (P.ifacesRec ·)) && (c.mapsOut == P.mapsAmong fn.resultTypes.toList) &&
 (c.loops == (fn.params.toList++s.plain.varTypes P).any (P.loopsFrom ·)) && (c.wideKeys == (fn.params.toList++s.plain.varTypes P++fn.resultTypes.toList).any (P.wideKeysFrom ·)))=true)
  (d2:(s.vars.all (P.varReadable ·) && fn.resultTypes.all (fun t=>P.readableRec t && decide (t < P.types.size)) && (c.ifacesOut == fn.resultTypes.toList.any (P.ifacesRec ·)) && (c.loopsOut == fn.resultTypes.toList.any (P.loopsFrom ·)))=true)
  (d3:((c.plainKeys == P.plainKeys) && c.shortTexts.isNone && P.stopsHeard && P.mayEnter && (c.lifted == P.liftsFinal) && (P.make == some c.make))=true)
  (d4:((c.kinds == (if c.domain.isEmpty then [] else fn.params.toList.map fun t=>match P.underlying t with|some (.int k)=>some k|_=>none)) && (c.pinned == c.pinnedBy))=true)
  (d5:((c.veiled == (fn.params.toList++s.plain.varTypes P++fn.resultTypes.toList).any (P.veiledRec ·)) && c.veiledFits P fn.params.toList (fn.params.toList++s.plain.varTypes P++fn.resultTypes.toList))=true):joinedFacts P f fn s c=true:=by
 unfold joinedFacts
 simp only [Bool.and_eq_true] at a4 d1 d2 d3 d4 d5 ⊢
 obtain ⟨⟨⟨⟨⟨a4,a5⟩,a6⟩,a7⟩,a8⟩,a9⟩:=a4
 obtain ⟨⟨⟨⟨e1,e2⟩,e3⟩,e4⟩,e5⟩:=d1
 obtain ⟨⟨⟨e6,e7⟩,e8⟩,e9⟩:=d2
 obtain ⟨⟨⟨⟨⟨f1,f2⟩,f3⟩,f4⟩,f5⟩,f6⟩:=d3
 obtain ⟨f7,f8⟩:=d4
 obtain ⟨f9,g1⟩:=d5
 exact ⟨⟨⟨⟨⟨⟨⟨⟨⟨⟨⟨⟨⟨⟨⟨⟨⟨⟨⟨⟨⟨⟨⟨⟨⟨⟨⟨⟨⟨⟨⟨a1,a2⟩,a3⟩,a4⟩,a5⟩,a6⟩,a7⟩,a8⟩,a9⟩,b1⟩,b2⟩,b3⟩,b4⟩,e1⟩,e2⟩,e3⟩,e4⟩,e5⟩,e6⟩,e7⟩,e8⟩,e9⟩,f1⟩,f2⟩,f3⟩,f4⟩,f5⟩,f6⟩,f7⟩,f8⟩,f9⟩,g1⟩
theorem rowed:mapsRowed Tryz.prog=true:=by kernel_rfl
end Go.Proofs.YtahmdjadnlpjoaaGreat
namespace Go.Proofs.YtahmdjadnlpjoaaGreat
open Go.RowKit
set_option maxRecDepth 100000
set_option linter.unusedVariables false
set_option linter.unusedSimpArgs false
set_option maxHeartbeats 2000000
theorem ybG {l:Lim} (h:0≤l.len) (m o:List Mov) (b:Int):zbs l (mergeM befM m o) b=zbs l m b+zbs l o b:=by
 rw [ycb h (merge_perm befM m o),ycS h]
end Go.Proofs.YtahmdjadnlpjoaaGreat
