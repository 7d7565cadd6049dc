/- Contracts of functions that the proof uses, shared by the claims of this seat; no statement of its own. Part 34. No conditions. -/
import Derived.Test.YtahmdjadnlpjoaaGreatK13
import Derived.Test.YtahmdjadnlpjoaaGreatK15
import Derived.Test.YtahmdjadnlpjoaaGreatK6
set_option linter.all false
set_option maxHeartbeats 8000000
namespace Go.Proofs.YtahmdjadnlpjoaaGreat
open Go.RowKit
set_option maxRecDepth 100000
set_option linter.unusedVariables false
set_option linter.unusedSimpArgs false
set_option maxHeartbeats 2000000
def fitsB (ls:List Lim) (m:List Mov) (r:Req):Bool:=(movsL r).all fun o=>!decide (roomL ls m o < 1)
set_option maxRecDepth 100000
set_option linter.unusedVariables false
set_option linter.unusedSimpArgs false
set_option maxHeartbeats 4000000
theorem roomK_lt {ls:List Lim}:∀ {W:List Win} {a:Int},1≤a→(W.foldl (roomStep ls) a < 1↔∃ w ∈ W,mostAt ls w.lim≤w.cnt)
 | [],a,h=>by simp;omega
 | w::r,a,h=>by
  rw [List.foldl_cons]
  by_cases hw:mostAt ls w.lim≤w.cnt
  ·refine iff_of_true ?_ ⟨w,by simp,hw⟩
   have key:∀ (r:List Win) (b:Int),b < 1→r.foldl (roomStep ls) b < 1:=by
    intro r
    induction r with
    | nil=>intro b hb;exact hb
    | cons x r ih=>intro b hb;rw [List.foldl_cons];refine ih _ ?_;unfold roomStep;omega
   exact key r _ (by unfold roomStep;omega)
  ·rw [roomK_lt (W:=r) (a:=roomStep ls a w) (by unfold roomStep;omega)]
   constructor
   ·rintro ⟨x,hx,hh⟩;exact ⟨x,by simp [hx],hh⟩
   ·rintro ⟨x,hx,hh⟩
    rcases List.mem_cons.1 hx with rfl|hx
    ·exact absurd hh hw
    ·exact ⟨x,hx,hh⟩
theorem room_lt {ls:List Lim} {m:List Mov} {o:Mov}:roomL ls m o < 1↔∃ w ∈ arW ls m o,mostAt ls w.lim≤w.cnt:=roomK_lt (by decide)
theorem arW_in {ls:List Lim} {m:List Mov} {o:Mov} {i:Nat} {l:Lim} {e:Nat} {b:Int} (hl:ls[i]?=some l) (hc:zac l o.kind o.term=true) (he:e < 2) (hb:b ∈ zM l (o.moment / 1440 - 1+e)) (h1:b≤o.moment) (h2:o.moment < b+l.len):(⟨i,b,zbs l m b⟩:Win) ∈ arW ls m o:=by
 refine List.mem_flatMap.2 ⟨i,List.mem_range.2 (List.getElem?_eq_some_iff.1 hl).1,?_⟩
 rw [arI,hl]
 simp only [arL,hc,if_true]
 refine List.mem_flatMap.2 ⟨e,List.mem_range.2 he,List.mem_flatMap.2 ⟨b,hb,?_⟩⟩
 rw [arB,if_pos ⟨h1,h2⟩];simp
theorem evA_at {ls:List Lim} {m:List Mov} {r:Req} {v:Nat × Nat} (h:v ∈ evA ls m r):∃ (i:Nat) (l:Lim) (d:Int) (e:Nat) (b:Int),ls[i]?=some l∧zac l r.kind r.term=true∧d ∈ zY r.per∧e < 2∧b ∈ zM l (d - 1+e)∧l.most≤zbs l m b∧(v.1:Int)=max 0 (b - 1440*d)∧(v.2:Int)=min 1440 (b+l.len - 1440*d)∧v.1 < v.2:=by
 obtain ⟨i,_,h⟩:=List.mem_flatMap.1 h
 unfold evI at h
 split at h
 ·rename_i l hl
  unfold evL at h
  split at h
  ·rename_i hc
   obtain ⟨d,hd,h⟩:=List.mem_flatMap.1 h
   obtain ⟨e,he,h⟩:=List.mem_flatMap.1 h
   obtain ⟨b,hb,h⟩:=List.mem_flatMap.1 h
   unfold evB at h
   split at h
   ·cases h
   ·split at h
    ·simp only [List.mem_singleton] at h;subst h
     exact ⟨i,l,d,e,b,hl,hc,hd,List.mem_range.1 he,hb,by omega,by simp only;omega,by simp only;omega,by simp only;omega⟩
    ·cases h
  ·cases h
 ·cases h
theorem evA_in {ls:List Lim} {m:List Mov} {r:Req} {i:Nat} {l:Lim} {d:Int} {e:Nat} {b:Int} (hl:ls[i]?=some l) (hc:zac l r.kind r.term=true) (hd:d ∈ zY r.per) (he:e < 2) (hb:b ∈ zM l (d - 1+e)) (hm:l.most≤zbs l m b) (hlt:max 0 (b - 1440*d) < min 1440 (b+l.len - 1440*d)):((max 0 (b - 1440*d)).toNat,(min 1440 (b+l.len - 1440*d)).toNat) ∈ evA ls m r:=by
 refine List.mem_flatMap.2 ⟨i,List.mem_range.2 (List.getElem?_eq_some_iff.1 hl).1,?_⟩
 rw [evI,hl]
 simp only [evL,hc,if_true]
 refine List.mem_flatMap.2 ⟨d,hd,List.mem_flatMap.2 ⟨e,List.mem_range.2 he,List.mem_flatMap.2 ⟨b,hb,?_⟩⟩⟩
 rw [evB,if_neg (by omega),if_pos hlt];simp
theorem ref_fits {ls:List Lim} {m:List Mov} {r:Req} {n:Int} (h0:0≤n) (h1:n < 1440):(!refV (evA ls m r) n.toNat)=fitsB ls m (r.at n):=by
 rw [Bool.eq_iff_iff,Bool.not_eq_true',←Bool.not_eq_true,refV,List.any_eq_true,fitsB,List.all_eq_true]
 constructor
 ·intro h o ho
  obtain ⟨d,hd,rfl⟩:=List.mem_map.1 ho
  simp only [Bool.not_eq_true',decide_eq_false_iff_not]
  intro hlt
  obtain ⟨w,hw,hf⟩:=room_lt.1 hlt
  obtain ⟨i,l,hwi,hli,hwc,hcl,hb1,hb2,e,he,hbb⟩:=arW_at hw
  have hma:mostAt ls w.lim=l.most:=by rw [mostAt,hwi,Int.toNat_natCast,hli]
  have hD:(movOf (r.at n) d).moment / 1440=d:=by simp only [movOf,Req.at];omega
  have hM:(movOf (r.at n) d).moment=1440*d+n:=rfl
  rw [hD] at hbb
  rw [hM] at hb1 hb2
  refine h ⟨_,evA_in (m:=m) (r:=r) hli hcl hd he hbb (by omega) (by omega),?_⟩
  simp only [hitN,Bool.and_eq_true,decide_eq_true_eq];omega
 ·rintro h ⟨v,hv,hh⟩
  obtain ⟨i,l,d,e,b,hli,hcl,hd,he,hbb,hm,hv1,hv2,hv3⟩:=evA_at hv
  simp only [hitN,Bool.and_eq_true,decide_eq_true_eq] at hh
  have hD:(movOf (r.at n) d).moment / 1440=d:=by simp only [movOf,Req.at];omega
  have hM:(movOf (r.at n) d).moment=1440*d+n:=rfl
  have:=h (movOf (r.at n) d) (List.mem_map.2 ⟨d,hd,rfl⟩)
  simp only [Bool.not_eq_true',decide_eq_false_iff_not] at this
  refine this (room_lt.2 ⟨_,arW_in (m:=m) (o:=movOf (r.at n) d) hli hcl he (by rw [hD];exact hbb) (by rw [hM];omega) (by rw [hM];omega),?_⟩)
  simp only [mostAt,Int.toNat_natCast,hli];exact hm
theorem outK_full {P:List (Nat × Nat)} {j:Nat} (hj:j < 1440):(outK P 1440)[j]?=some (refV P j):=by rw [outK_at hj,decide_eq_true hj,Bool.true_and]
theorem pureOpen (ls:List Lim) (m:List Mov) (r:Req) (n:Int) (h0:0≤n) (h1:n < 1440):Pure Tryz.prog 132 [.ip (.agg ((outK (evA ls m r) 1440).map PV.b)) 0,.i .i64 n] (.b (fitsB ls m (r.at n))):=by
 have:=pure105 (outK (evA ls m r) 1440) (outK_len _ _) n.toNat _ (outK_full (by omega))
 rw [ref_fits h0 h1,Int.toNat_of_nonneg h0] at this
 exact this
theorem at_self (r:Req):r.at r.minute=r:=rfl
abbrev fitC (ls:List Lim) (m:List Mov) (r:Req):Int:=zg [bothC ls m,chkReq r]
def fitR (ls:List Lim) (m:List Mov) (r:Req):Bool:=decide (fitC ls m r=0) && fitsB ls m r
theorem pure51 (ls:List Lim) (m:List Mov) (r:Req):Pure Tryz.prog 56 [.sl 11 (ls.map Lim.pv),.sl 7 (m.map Mov.pv),r.pv] (.tup [.b (fitR ls m r),.i .i64 (fitC ls m r)]):=by
 refine zf (cF Tryz.func56 Tryz.f56.eq_1) (by simp) fun hw X hX=>?_
 have qe:=@qR;repeat' first|refine gC (fun hc=>?_) (fun hc=>?_)<;>try contradiction|refine za (pure97 ls m) ?_|refine za (pure79 r) ?_|refine za (zbx [_,_]) ?_|refine gG ?_|show AK _;intro K H|refine H _ _ ?_;clear H K|refine gJ ?_;try exact trivial|omega
 ·have e:fitR ls m r=false:=by unfold fitR;rw [decide_eq_false hc,Bool.false_and]
  rw [e];exact .refl _
 ·have h1:bothC ls m=0∧chkReq r=0∧True:=⟨(zq.1 hc).1,(zq.1 (zq.1 hc).2).1,trivial⟩
  have h2:=chkReq_0 h1.2.1
  have h0:fitC ls m r=0:=hc
  have qe:=@qR;repeat' first|refine gC (fun hc=>?_) (fun hc=>?_)<;>try contradiction|refine za (pure104 ls m r h1.1 h1.2.1) ?_|refine za (pureOpen ls m r r.minute h2.2.1 (by omega)) ?_|refine gG ?_|show AK _;intro K H|refine H _ _ ?_;clear H K|refine gJ ?_;try exact trivial|omega
  have e:fitR ls m r=fitsB ls m r:=by unfold fitR;rw [decide_eq_true h0,Bool.true_and]
  rw [e,h0,at_self];exact .refl _
set_option maxRecDepth 100000
set_option linter.unusedVariables false
set_option linter.unusedSimpArgs false
set_option maxHeartbeats 2000000
def insAt (bef:Mov→Mov→Bool) (x:Mov) (out:List Mov):Nat→Nat
 | 0=>0
 | n+1=>match out[n]? with
  | some y=>if bef x y then insAt bef x out n else n+1
  | none=>n+1
def insM (bef:Mov→Mov→Bool) (out:List Mov) (x:Mov):List Mov:=out.take (insAt bef x out out.length)++x::out.drop (insAt bef x out out.length)
def mergeM (bef:Mov→Mov→Bool) (a b:List Mov):List Mov:=(a++b).foldl (insM bef) []
theorem insAt_le (bef:Mov→Mov→Bool) (x:Mov) (out:List Mov):∀ n,insAt bef x out n≤n
 | 0=>Nat.le_refl _
 | n+1=>by
  have:=insAt_le bef x out n
  simp only [insAt];(repeat' split)<;>omega
theorem insAt_ge (bef:Mov→Mov→Bool) (x:Mov) (out:List Mov):∀ n i,insAt bef x out n≤i→i < n→∃ y,out[i]?=some y∧bef x y=true
 | 0,i,_,h=>by omega
 | n+1,i,h,hi=>by
  simp only [insAt] at h
  split at h
  ·rename_i y hy
   split at h
   ·by_cases e:i=n
    ·subst e;exact ⟨y,hy,by assumption⟩
    ·exact insAt_ge bef x out n i h (by omega)
   ·omega
  ·omega
theorem insAt_last (bef:Mov→Mov→Bool) (x:Mov) (out:List Mov):∀ n k y,insAt bef x out n=k+1→out[k]?=some y→bef x y=false
 | 0,_,_,h,_=>by cases h
 | n+1,k,y,h,hy=>by
  simp only [insAt] at h
  split at h
  ·rename_i z hz
   split at h
   ·exact insAt_last bef x out n k y h hy
   ·have e:n=k:=by omega
    subst e
    rw [hz] at hy
    cases hy
    rename_i hb
    simpa using hb
  ·rename_i hz
   have e:n=k:=by omega
   subst e
   rw [hz] at hy;cases hy
theorem insM_perm (bef:Mov→Mov→Bool) (out:List Mov) (x:Mov):(insM bef out x).Perm (x::out):=by
 unfold insM
 refine List.perm_middle.trans ?_
 rw [List.take_append_drop]
theorem foldl_perm (bef:Mov→Mov→Bool):∀ (l out:List Mov),(l.foldl (insM bef) out).Perm (out++l)
 | [],out=>by simp
 | x::l,out=>by
  refine (foldl_perm bef l (insM bef out x)).trans ?_
  refine ((insM_perm bef out x).append_right l).trans ?_
  simpa using (List.perm_middle (a:=x) (l₁:=out) (l₂:=l)).symm
theorem merge_perm (bef:Mov→Mov→Bool) (a b:List Mov):(mergeM bef a b).Perm (a++b):=by
 simpa [mergeM] using foldl_perm bef (a++b) []
set_option maxRecDepth 100000
set_option linter.unusedVariables false
set_option linter.unusedSimpArgs false
set_option maxHeartbeats 2000000
def Win.add (k:Int) (w:Win):Win:=⟨w.lim,w.beg,w.cnt+k⟩
set_option maxRecDepth 100000
set_option linter.unusedVariables false
set_option linter.unusedSimpArgs false
set_option maxHeartbeats 4000000
def befM (a b:Mov):Bool:=if a.moment=b.moment then (if a.kind=b.kind then Op.bytesLess a.name.toList b.name.toList else Op.bytesLess a.kind.toList b.kind.toList) else decide (a.moment < b.moment)
theorem allMv (l:List Mov):l.all ((fun x=>x.cells.all PV.one) ∘ Mov.pv)=true:=by rw [List.all_eq_true];intro x _;rfl
abbrev Mov.cells (m:Mov):List PV:=[.i .i64 m.moment,.s m.kind,.s m.term,.i .i64 m.seats,.i .i64 m.size,.i .i64 m.noise,.s m.name]
set_option maxRecDepth 100000
set_option linter.unusedVariables false
set_option linter.unusedSimpArgs false
set_option maxHeartbeats 4000000
def cmpI (x y:Int):Int:=if x < y then -1 else if y < x then 1 else 0
def cmpS (x y:ByteArray):Int:=if Op.bytesLess x.toList y.toList=true then -1 else if x=y then 0 else 1
def cmpM (a b:Mov):Int:=zg [cmpI a.moment b.moment,cmpS a.kind b.kind,cmpS a.name b.name]
theorem pure143 (x:ByteArray):Pure Tryz.prog 243 [.s x] (.b false):=by
 refine zf (cF Tryz.func243 Tryz.f243.eq_1) (by simp) fun hw X hX=>?_
 have qe:=@neS_self;repeat' first|refine gC (fun hc=>?_) (fun hc=>?_)<;>try contradiction|refine gG ?_|show AK _;intro K H|refine H _ _ ?_;clear H K|refine gJ ?_;try exact trivial|omega
 exact .refl _
theorem pure116 (x y:Int):Pure Tryz.prog 176 [.i .i64 x,.i .i64 y] (.i .i64 (cmpI x y)):=by
 refine zf (cF Tryz.func176 Tryz.f176.eq_1) (by simp) fun hw X hX=>?_
 repeat' first|refine gC (fun hc=>?_) (fun hc=>?_)<;>try contradiction|refine za (pure142 _) ?_|refine gG ?_|show AK _;intro K H|refine H _ _ ?_;clear H K|refine gJ ?_;try exact trivial|omega
 ·rw [cmpI,if_pos hc];exact .refl _
 ·rw [cmpI,if_neg (by omega),if_pos hc];exact .refl _
 ·rw [cmpI,if_neg (by omega),if_neg (by omega)];exact .refl _
theorem pure117 (x y:ByteArray):Pure Tryz.prog 177 [.s x,.s y] (.i .i64 (cmpS x y)):=by
 refine zf (cF Tryz.func177 Tryz.f177.eq_1) (by simp) fun hw X hX=>?_
 repeat' first|refine gC (fun hc=>?_) (fun hc=>?_)<;>try contradiction|refine za (pure143 _) ?_|refine gG ?_|show AK _;intro K H|refine H _ _ ?_;clear H K|refine gJ ?_;try exact trivial|omega
 ·rw [cmpS,if_pos hc];exact .refl _
 ·rw [cmpS,if_neg (by rw [hc.1];simp),if_neg hc.2];exact .refl _
 ·rename_i h1
  rw [cmpS,if_neg (by rw [h1];simp),if_pos (hc.resolve_left (by rw [h1];simp))];exact .refl _
theorem pure115 (l:List Int):Pure Tryz.prog 175 [.sl 1 (l.map (.i .i64))] (.i .i64 (zg l)):=by
 refine zf (cF Tryz.func175 Tryz.f175.eq_1) (by simp) fun hw X hX=>?_
 simp only [wfs,PV.wf,List.length_map,maxLen] at hw
 repeat' first|refine gC (fun hc=>?_) (fun hc=>?_)<;>try contradiction|refine gG ?_|show AK _;intro K H|refine H _ _ ?_;clear H K|refine gJ ?_;try exact trivial|omega
 refine zk (κ:=Nat) (fun i=>⟨[(3,.p (.i .i64 0)),(6,.p (.sl 1 (l.map (.i .i64)))),(7,.p (.i .i64 l.length)),(8,.p (.i .i64 i))],[],[],false⟩) (fun i=>i≤l.length∧∀ x ∈ l.take i,x=0) (fun i=>l.length - i) 0 ?_ ?_ ?_
 ·exact sR
 ·simp
 ·intro i hi
  repeat first|refine gG ?_|show AK _;intro K H|refine H _ _ ?_;clear H K|refine gJ ?_;try exact trivial|omega
  (refine gC (fun hc=>?_) (fun hc=>?_)<;>try contradiction)
  ·obtain ⟨x,hx⟩:=zn (i:=i) (l:=l) (by omega)
   have qe:=@hx;repeat' first|refine gC (fun hc=>?_) (fun hc=>?_)<;>try contradiction|refine gG ?_|show AK _;intro K H|refine H _ _ ?_;clear H K|refine gJ ?_;try exact trivial|omega
   ·rw [zV hi.2 hx hc];exact .refl _
   ·exact ⟨i+1,⟨by omega,zaC hi.2 hx hc⟩,by omega,by simp⟩
  ·repeat' first|refine gC (fun hc=>?_) (fun hc=>?_)<;>try contradiction|refine gG ?_|show AK _;intro K H|refine H _ _ ?_;clear H K|refine gJ ?_;try exact trivial|omega
   have e:i=l.length:=by omega
   subst e
   rw [z4 hi.2];exact .refl _
theorem pure114 (a b:Mov):Pure Tryz.prog 231 [a.pv,b.pv] (.i .i64 (cmpM a b)):=by
 refine zf (cF Tryz.func231 Tryz.f231.eq_1) (by simp) fun hw X hX=>?_
 have qe:=@qR;repeat' first|refine gC (fun hc=>?_) (fun hc=>?_)<;>try contradiction|refine za (pure116 _ _) ?_|refine za (pure117 _ _) ?_|refine za (pure115 [_,_,_]) ?_|refine gG ?_|show AK _;intro K H|refine H _ _ ?_;clear H K|refine gJ ?_;try exact trivial|omega
 exact .refl _
theorem acts112 (L:List Mov) (hn:L.length*80≤140737488355328):Acts Tryz.prog 229 [.p (.sl 7 (L.map Mov.pv))] [] (.row 5 L.length) [(5,.row 180 7 (L.map Mov.pv) false)]:=by
 have hA:=fun l=>eq_true (allMv l)
 refine zS (cF Tryz.func229 Tryz.f229.eq_1) (by simp) (by simp [scPs,scP]) (by simp [scObj]) trivial (by simp [scObj]) trivial fun X hX=>?_
 unfold zD ghO
 have qe:=aI qR (aI @hA (aI @rtN @rtR));repeat' first|refine gC (fun hc=>?_) (fun hc=>?_)<;>try contradiction|refine run_isnilX fun b hb=>?_|refine gG ?_|show AK _;intro K H|refine H _ _ ?_;clear H K|refine gJ ?_;try exact trivial|omega
 ·have e:L=[]:=by simpa using hb hc
  subst e
  exact .inr ⟨5,180,7,[(2,.row 5 0)],[],by simp only [Own,zaL,zaB,zbt,zay,qS,Nat.reduceAdd,Nat.reduceMul,Nat.reduceEqDiff,Nat.reduceLeDiff,reduceIte,reduceCtorEq,Nat.reduceBEq,Nat.reduceLT],.mk1⟩
 ·exact .inl .mk1
end Go.Proofs.YtahmdjadnlpjoaaGreat
