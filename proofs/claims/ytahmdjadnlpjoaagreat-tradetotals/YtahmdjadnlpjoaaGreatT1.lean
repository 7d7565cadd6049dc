/- Contracts of functions that the proof uses, shared by the claims of this seat; no statement of its own. Part 71. No conditions. -/
import Derived.ProofKit
import Derived.OpenShut
import Derived.Carry
import Derived.OpenVars
import Derived.HandedShaped
import Derived.KernelRfl
import Derived.Laws.RangeAny
import Derived.Test.YtahmdjadnlpjoaaGreatRows
import Derived.Test.YtahmdjadnlpjoaaGreatT0
set_option linter.all false
set_option maxHeartbeats 8000000
namespace Go.Proofs.YtahmdjadnlpjoaaGreat
open Go.RowKit
set_option maxRecDepth 100000
set_option linter.unusedVariables false
set_option linter.unusedSimpArgs false
set_option maxHeartbeats 4000000
def yaB (a b:Wsh):Bool:=decide (a.rank < b.rank) || (decide (a.rank=b.rank) && Op.bytesLess a.req.name.toList b.req.name.toList)
theorem yaT (a b:Wsh):Pure Tryz.prog 95 [a.pv,b.pv] (.b (yaB a b)):=by
 refine zf (cF Tryz.func95 Tryz.f95.eq_1) (by simp) fun hw X hX=>?_
 rw [yaB]
 rcases Int.lt_trichotomy a.rank b.rank with h|h|h
 ·have h1:(a.rank < b.rank)=True:=eq_true h
  have h2:(a.rank=b.rank)=False:=eq_false (by omega)
  have qe:=aI @h1 (aI @h2 (aI @decide_true @decide_false));repeat' first|refine gC (fun hc=>?_) (fun hc=>?_)<;>try contradiction|refine gG ?_|show AK _;intro K H|refine H _ _ ?_;clear H K|refine gJ ?_;try exact trivial|omega
  all_goals simp only [h1,h2,decide_true,decide_false,Bool.true_or]
  all_goals exact .refl _
 ·have h1:(a.rank < b.rank)=False:=eq_false (by omega)
  have h2:(a.rank=b.rank)=True:=eq_true h
  have qe:=aI @h1 (aI @h2 (aI @decide_true @decide_false));repeat' first|refine gC (fun hc=>?_) (fun hc=>?_)<;>try contradiction|refine gG ?_|show AK _;intro K H|refine H _ _ ?_;clear H K|refine gJ ?_;try exact trivial|omega
  all_goals simp only [h1,h2,decide_true,decide_false,Bool.false_or,Bool.true_and]
  all_goals exact .refl _
 ·have h1:(a.rank < b.rank)=False:=eq_false (by omega)
  have h2:(a.rank=b.rank)=False:=eq_false (by omega)
  have qe:=aI @h1 (aI @h2 (aI @decide_true @decide_false));repeat' first|refine gC (fun hc=>?_) (fun hc=>?_)<;>try contradiction|refine gG ?_|show AK _;intro K H|refine H _ _ ?_;clear H K|refine gJ ?_;try exact trivial|omega
  all_goals simp only [h1,h2,decide_true,decide_false,Bool.false_or,Bool.false_and]
  all_goals exact .refl _
set_option maxRecDepth 100000
set_option linter.unusedVariables false
set_option linter.unusedSimpArgs false
set_option maxHeartbeats 8000000
section
variable {α:Type}
theorem yaq (bef:α→α→Bool) (x:α) (out:List α):∀ n,zbB bef x out n≤n
 | 0=>Nat.le_refl _
 | n+1=>by
  have:=yaq bef x out n
  simp only [zbB];(repeat' split)<;>omega
theorem yar (bef:α→α→Bool) (x:α) (out:List α):∀ n i,zbB bef x out n≤i→i < n→∃ y,out[i]?=some y∧bef x y=true
 | 0,i,_,h=>by omega
 | n+1,i,h,hi=>by
  simp only [zbB] at h
  split at h
  ·rename_i y hy
   split at h
   ·by_cases e:i=n
    ·subst e;exact ⟨y,hy,by assumption⟩
    ·exact yar bef x out n i h (by omega)
   ·omega
  ·omega
theorem yW (bef:α→α→Bool) (x:α) (out:List α):∀ n k y,zbB bef x out n=k+1→out[k]?=some y→bef x y=false
 | 0,_,_,h,_=>by cases h
 | n+1,k,y,h,hy=>by
  simp only [zbB] at h
  split at h
  ·rename_i z hz
   split at h
   ·exact yW bef x out n k y h hy
   ·have e:n=k:=by omega
    subst e
    rw [hz] at hy
    cases hy
    rename_i hb
    simpa using hb
  ·rename_i hz
   have e:n=k:=by omega
   subst e
   rw [hz] at hy;cases hy
end
set_option maxRecDepth 100000
set_option linter.unusedVariables false
set_option linter.unusedSimpArgs false
set_option maxHeartbeats 8000000
def trE (s:Slt) (to:ByteArray):Int:=zg [if to=s.holder then 31 else 0,if 0 < (s.ls.length:Int) then 19 else 0]
theorem ycd (L:List Slt) (i:Nat) (s:Slt) (to:ByteArray) (hs:L[i]?=some s):Acts Tryz.prog 222 [.ep 900 L.length i 0,.p (.ip (.s to) 0)] [(900,.row 59 16 (L.map Slt.pv) false)] (.p (.i .i64 (trE s to)))
  [(900,.row 59 16 (if trE s to=0 then (L.map Slt.pv).set i (trW s to) else L.map Slt.pv) false)]:=by
 have hi:i < L.length:=(List.getElem?_eq_some_iff.1 hs).1
 have hi':i < (L.map Slt.pv).length:=by simpa using hi
 have hg:=fun a=>set_get (L.map Slt.pv) i a hi'
 by_cases h:trE s to=0
 ·rw [if_pos h]
  have h1:(zg [if to=s.holder then 31 else 0,if 0 < (s.ls.length:Int) then 19 else 0]=0)=True:=eq_true h
  refine zS (cF Tryz.func222 Tryz.f222.eq_1) (by simp) (by simp [scPs,scP,zl]) (by simp [scObj]) ⟨rfl,trivial⟩ (by simp [scObj]) (by simp [FolL,zl]) fun X hX=>?_
  unfold zD ghO
  have qe:=aI qR (aI @qN (aI @gLV.eq_2 (aI @hs (aI @h1 (aI @hg (aI @List.set_set.{0} (aI @List.length_set.{0} (aI @rtN @rtR))))))));repeat' first|refine gC (fun hc=>?_) (fun hc=>?_)<;>try contradiction|refine za (zW _ _) ?_|refine za (zz [_,_]) ?_|refine gG ?_|show AK _;intro K H|refine H _ _ ?_;clear H K|refine gJ ?_;try exact trivial|omega
  rw [h]
  exact .inl (.mk1 (h2:=by simp only [qS,Nat.reduceAdd,Nat.reduceMul,Nat.reduceEqDiff,Nat.reduceLeDiff,reduceIte,reduceCtorEq,Nat.reduceBEq,Nat.reduceLT,keepG.eq_1,keepG.eq_2,gLV.eq_2]<;>simp))
 ·rw [if_neg h]
  have h1:(zg [if to=s.holder then 31 else 0,if 0 < (s.ls.length:Int) then 19 else 0]=0)=False:=eq_false h
  refine zS (cF Tryz.func222 Tryz.f222.eq_1) (by simp) (by simp [scPs,scP,zl]) (by simp [scObj]) ⟨rfl,trivial⟩ (by simp [scObj]) (by simp [FolL,zl]) fun X hX=>?_
  unfold zD ghO
  have qe:=aI qR (aI @qN (aI @gLV.eq_2 (aI @hs (aI @h1 (aI @hg (aI @List.set_set.{0} (aI @List.length_set.{0} (aI @rtN @rtR))))))));repeat' first|refine gC (fun hc=>?_) (fun hc=>?_)<;>try contradiction|refine za (zW _ _) ?_|refine za (zz [_,_]) ?_|refine gG ?_|show AK _;intro K H|refine H _ _ ?_;clear H K|refine gJ ?_;try exact trivial|omega
  exact .inl (.mk1 (h2:=by simp only [qS,Nat.reduceAdd,Nat.reduceMul,Nat.reduceEqDiff,Nat.reduceLeDiff,reduceIte,reduceCtorEq,Nat.reduceBEq,Nat.reduceLT,keepG.eq_1,keepG.eq_2,gLV.eq_2]<;>simp))
def trC (b:Bk) (c n to:ByteArray):Int:=chgC b c n (zaH to) (trE (zo b n) to)
def trB (b:Bk) (c n to:ByteArray):Bk:=if trC b c n to=0 then chgB b n (trS (zo b n) to) else bk0
theorem ybQ (b:Bk) (c n to:ByteArray) (hb:BkOk b):Pure Tryz.prog 149 [b.pv,.s c,.s n,.s to] (.tup [(trB b c n to).pv,.i .i64 (trC b c n to)]):=by
 have hch:=changedP (caps:=[.ip (.s to) 0]) b c n (zaH to) (trE (zo b n) to) (trS (zo b n) to) (trW (zo b n) to) (b.slots.map Slt.pv) hb (wk_trW _ _) (by simp) fun h=>ycd b.slots (zA b n) (zo b n) to (za8 h).2.1
 refine zf (cF Tryz.func149 Tryz.f149.eq_1) (by simp) fun hw X hX=>?_
 have qe:=aI qR @qN;repeat' first|refine gC (fun hc=>?_) (fun hc=>?_)<;>try contradiction|refine za (zby to) ?_|refine zam (hch) ?_|refine gG ?_|show AK _;intro K H|refine H _ _ ?_;clear H K|refine gJ ?_;try exact trivial|omega
 exact .refl _
theorem trB_0 {b:Bk} {c n to:ByteArray} (h:trC b c n to≠0):trB b c n to=bk0:=if_neg h
theorem ybV (b:Bk) (c n to:ByteArray) (hb:zG b=0→BkOk b):Pure Tryz.prog 71 [b.pv,.s c,.s n,.s to] (.tup [(BkTo b (trB b c n to) (trC b c n to)).1.pv,.i .i64 (BkTo b (trB b c n to) (trC b c n to)).2]):=by
 by_cases h:zG b=0
 ·have e1:(zG b=0)=True:=eq_true h
  rw [bkTo_ok h trB_0]
  refine zf (cF Tryz.func71 Tryz.f71.eq_1) (by simp) fun hw X hX=>?_
  have qe:=aI qR (aI @qN @e1);repeat' first|refine gC (fun hc=>?_) (fun hc=>?_)<;>try contradiction|refine za (zX b) ?_|refine za (ybQ b c n to (hb h)) ?_|refine gG ?_|show AK _;intro K H|refine H _ _ ?_;clear H K|refine gJ ?_;try exact trivial|omega
  exact .refl _
 ·have e1:(zG b=0)=False:=eq_false h
  rw [bkTo_bad h]
  refine zat (r:=.tup [.agg [.nilsl,.nilsl],.i .i64 (zG b)]) ?_ (zbw _)
  refine zf (cF Tryz.func71 Tryz.f71.eq_1) (by simp) fun hw X hX=>?_
  have qe:=aI qR (aI @qN @e1);repeat' first|refine gC (fun hc=>?_) (fun hc=>?_)<;>try contradiction|refine za (zX b) ?_|refine gG ?_|show AK _;intro K H|refine H _ _ ?_;clear H K|refine gJ ?_;try exact trivial|omega
  exact .refl _
set_option maxRecDepth 100000
set_option linter.unusedVariables false
set_option linter.unusedSimpArgs false
set_option maxHeartbeats 8000000
def yaF (N:List ByteArray):Int:=zg [if (N.length:Int) < 2 then 16 else 0,if 8 < (N.length:Int) then 5 else 0]
def yt (b:Bk) (N:List ByteArray) (i:Nat) (n:ByteArray):Int:=zg [unkE b n,if 0≤atL n (N.take i) then 9 else 0]
def yk (b:Bk) (N:List ByteArray):Int:=zg [yaF N,zg (N.mapIdx (yt b N)),passE b N]
def yh (b:Bk) (N:List ByteArray):Bk:=if yk b N=0 then passB b N else bk0
theorem ybl {b:Bk} {N:List ByteArray} (h:yk b N≠0):yh b N=bk0:=if_neg h
theorem y9 {b:Bk} {N:List ByteArray} (h:∀ x ∈ N.mapIdx (yt b N),x=0):∀ n ∈ N,¬atL n (b.slots.map (·.req.name)) < 0:=fun n hn=>by
 obtain ⟨i,hi⟩:=List.getElem?_of_mem hn
 have h1:=h (yt b N i n) (List.mem_of_getElem? (zI hi))
 exact unk_0 (fE0 h1 _ (by simp))
theorem ybR (b:Bk) (N:List ByteArray) (hb:BkOk b) (hn:N.length≤1000):Pure Tryz.prog 148 [b.pv,.sl 1 (N.map .s)] (.tup [(yh b N).pv,.i .i64 (yk b N)]):=by
 by_cases h:yaF N=0
 ·have h1:(zg [if (N.length:Int) < 2 then 16 else 0,if 8 < (N.length:Int) then 5 else 0]=0)=True:=eq_true h
  have hC:yk b N=zg [zg (N.mapIdx (yt b N)),passE b N]:=za3 h
  by_cases hX:zg (N.mapIdx (yt b N))=0
  ·have hp:=pure1214 b N hb
   have hC2:yk b N=passE b N:=by rw [hC,za3 hX,fE_one]
   have hB:yh b N=passB b N:=by
    rw [yh,hC2];split
    ·rfl
    ·rename_i k;rw [passB_0 k]
   rw [hB,hC2]
   refine zf (cF Tryz.func148 Tryz.f148.eq_1) (by simp) fun hw X hX'=>?_
   have qe:=aI qR (aI @qN @h1);repeat' first|refine gC (fun hc=>?_) (fun hc=>?_)<;>try contradiction|refine za (zW _ _) ?_|refine za (zz [_,_]) ?_|refine gG ?_|show AK _;intro K H|refine H _ _ ?_;clear H K|refine gJ ?_;try exact trivial|omega
   refine zk (κ:=Nat) (fun k=>⟨[(1,.p (.sl 1 (N.map .s))),(2,.lp 2 0),(4,.lp 4 0),(5,.p (.i .i64 0)),(24,.p (.sl 1 (N.map .s))),(25,.p (.i .i64 N.length)),(26,.p (.i .i64 k))],[(2,.box [.p (.sl 16 (b.slots.map Slt.pv)),.p (.sl 14 (b.wait.map Wsh.pv))] false),(4,.box [.p .nilsl,.p .nilsl] false)],[],false⟩) (fun k=>k≤N.length∧∀ x ∈ (N.mapIdx (yt b N)).take k,x=0) (fun k=>N.length - k) 0 ?_ ?_ ?_
   ·exact sS
   ·simp
   ·intro k hk
    repeat first|refine gG ?_|show AK _;intro K H|refine H _ _ ?_;clear H K|refine gJ ?_;try exact trivial|omega
    (refine gC (fun hc=>?_) (fun hc=>?_)<;>try contradiction)
    ·obtain ⟨x,hx⟩:=zn (i:=k) (l:=N) (by omega)
     have hxE:yt b N k x=0:=fE0 hX _ (List.mem_of_getElem? (zI hx))
     have hxt:(zg [if atL x (b.slots.map (·.req.name)) < 0 then 10 else 0,if 0≤atL x (N.take k) then 9 else 0]=0)=True:=eq_true hxE
     have qe:=aI qR (aI @hx (aI @take_map (aI @hxt @decide_true)));repeat' first|refine gC (fun hc=>?_) (fun hc=>?_)<;>try contradiction|refine za (zZ b x) ?_|refine za (pure1213 (N.take k) x) ?_|refine za (zW _ _) ?_|refine za (zz [_,_]) ?_|refine gG ?_|show AK _;intro K H|refine H _ _ ?_;clear H K|refine gJ ?_;try exact trivial|omega
     all_goals exact ⟨k+1,⟨by omega,zaC hk.2 (zI hx) hxE⟩,by omega,by simp⟩
    ·have hA:∀ x ∈ N.mapIdx (yt b N),x=0:=fun x hx=>by
      have e:k=(N.mapIdx (yt b N)).length:=by simp;omega
      rw [e,List.take_length] at hk
      exact hk.2 x hx
     have hp':=hp (y9 hA) hn
     have qe:=aI qR @qN;repeat' first|refine gC (fun hc=>?_) (fun hc=>?_)<;>try contradiction|refine zam (hp') ?_|refine gG ?_|show AK _;intro K H|refine H _ _ ?_;clear H K|refine gJ ?_;try exact trivial|omega
     exact .refl _
  ·have hC2:yk b N=zg (N.mapIdx (yt b N)):=by rw [hC,za2 hX]
   have hB:yh b N=bk0:=by rw [yh,hC2,if_neg hX]
   rw [hB,hC2]
   refine zat (r:=.tup [.agg [.nilsl,.nilsl],.i .i64 (zg (N.mapIdx (yt b N)))]) ?_ (zbw _)
   refine zf (cF Tryz.func148 Tryz.f148.eq_1) (by simp) fun hw X hX'=>?_
   have qe:=aI qR (aI @qN @h1);repeat' first|refine gC (fun hc=>?_) (fun hc=>?_)<;>try contradiction|refine za (zW _ _) ?_|refine za (zz [_,_]) ?_|refine gG ?_|show AK _;intro K H|refine H _ _ ?_;clear H K|refine gJ ?_;try exact trivial|omega
   refine zk (κ:=Nat) (fun k=>⟨[(1,.p (.sl 1 (N.map .s))),(2,.lp 2 0),(4,.lp 4 0),(5,.p (.i .i64 0)),(24,.p (.sl 1 (N.map .s))),(25,.p (.i .i64 N.length)),(26,.p (.i .i64 k))],[(2,.box [.p (.sl 16 (b.slots.map Slt.pv)),.p (.sl 14 (b.wait.map Wsh.pv))] false),(4,.box [.p .nilsl,.p .nilsl] false)],[],false⟩) (fun k=>k≤N.length∧∀ x ∈ (N.mapIdx (yt b N)).take k,x=0) (fun k=>N.length - k) 0 ?_ ?_ ?_
   ·exact sS
   ·simp
   ·intro k hk
    repeat first|refine gG ?_|show AK _;intro K H|refine H _ _ ?_;clear H K|refine gJ ?_;try exact trivial|omega
    (refine gC (fun hc=>?_) (fun hc=>?_)<;>try contradiction)
    ·obtain ⟨x,hx⟩:=zn (i:=k) (l:=N) (by omega)
     by_cases hxE:yt b N k x=0
     ·have hxt:(zg [if atL x (b.slots.map (·.req.name)) < 0 then 10 else 0,if 0≤atL x (N.take k) then 9 else 0]=0)=True:=eq_true hxE
      have qe:=aI qR (aI @hx (aI @take_map (aI @hxt @decide_true)));repeat' first|refine gC (fun hc=>?_) (fun hc=>?_)<;>try contradiction|refine za (zZ b x) ?_|refine za (pure1213 (N.take k) x) ?_|refine za (zW _ _) ?_|refine za (zz [_,_]) ?_|refine gG ?_|show AK _;intro K H|refine H _ _ ?_;clear H K|refine gJ ?_;try exact trivial|omega
      all_goals exact ⟨k+1,⟨by omega,zaC hk.2 (zI hx) hxE⟩,by omega,by simp⟩
     ·have hxt:(zg [if atL x (b.slots.map (·.req.name)) < 0 then 10 else 0,if 0≤atL x (N.take k) then 9 else 0]=0)=False:=eq_false hxE
      rw [zV hk.2 (zI hx) hxE]
      have qe:=aI qR (aI @hx (aI @take_map (aI @hxt @decide_false)));repeat' first|refine gC (fun hc=>?_) (fun hc=>?_)<;>try contradiction|refine za (zZ b x) ?_|refine za (pure1213 (N.take k) x) ?_|refine za (zW _ _) ?_|refine za (zz [_,_]) ?_|refine gG ?_|show AK _;intro K H|refine H _ _ ?_;clear H K|refine gJ ?_;try exact trivial|omega
      all_goals exact .refl _
    ·refine absurd ?_ hX
     have e:k=(N.mapIdx (yt b N)).length:=by simp;omega
     subst e;exact z4 hk.2
 ·have h1:(zg [if (N.length:Int) < 2 then 16 else 0,if 8 < (N.length:Int) then 5 else 0]=0)=False:=eq_false h
  have hC2:yk b N=yaF N:=za2 h
  have hB:yh b N=bk0:=by rw [yh,hC2,if_neg h]
  rw [hB,hC2]
  refine zat (r:=.tup [.agg [.nilsl,.nilsl],.i .i64 (yaF N)]) ?_ (zbw _)
  refine zf (cF Tryz.func148 Tryz.f148.eq_1) (by simp) fun hw X hX'=>?_
  have qe:=aI qR (aI @qN @h1);repeat' first|refine gC (fun hc=>?_) (fun hc=>?_)<;>try contradiction|refine za (zW _ _) ?_|refine za (zz [_,_]) ?_|refine gG ?_|show AK _;intro K H|refine H _ _ ?_;clear H K|refine gJ ?_;try exact trivial|omega
  exact .refl _
theorem ybW (b:Bk) (N:List ByteArray) (hb:zG b=0→BkOk b) (hn:N.length≤1000):Pure Tryz.prog 70 [b.pv,.sl 1 (N.map .s)] (.tup [(BkTo b (yh b N) (yk b N)).1.pv,.i .i64 (BkTo b (yh b N) (yk b N)).2]):=by
 by_cases h:zG b=0
 ·have e1:(zG b=0)=True:=eq_true h
  rw [bkTo_ok h ybl]
  refine zf (cF Tryz.func70 Tryz.f70.eq_1) (by simp) fun hw X hX=>?_
  have qe:=aI qR (aI @qN @e1);repeat' first|refine gC (fun hc=>?_) (fun hc=>?_)<;>try contradiction|refine za (zX b) ?_|refine za (ybR b N (hb h) hn) ?_|refine gG ?_|show AK _;intro K H|refine H _ _ ?_;clear H K|refine gJ ?_;try exact trivial|omega
  exact .refl _
 ·have e1:(zG b=0)=False:=eq_false h
  rw [bkTo_bad h]
  refine zat (r:=.tup [.agg [.nilsl,.nilsl],.i .i64 (zG b)]) ?_ (zbw _)
  refine zf (cF Tryz.func70 Tryz.f70.eq_1) (by simp) fun hw X hX=>?_
  have qe:=aI qR (aI @qN @e1);repeat' first|refine gC (fun hc=>?_) (fun hc=>?_)<;>try contradiction|refine za (zX b) ?_|refine gG ?_|show AK _;intro K H|refine H _ _ ?_;clear H K|refine gJ ?_;try exact trivial|omega
  exact .refl _
set_option maxRecDepth 100000
set_option linter.unusedVariables false
set_option linter.unusedSimpArgs false
set_option maxHeartbeats 8000000
abbrev slS (s:Slt) (i:Option Addr × Nat):PV:=slX s (.sl 3 (s.ls.map Lea.pv)) (.rs i.1 s.sh.length i.2)
theorem yab (s:Slt) (h:SlOk s):ActsE Tryz.prog 247 [.p s.pv] [] (fun i=>.p (slS s i)) (fun i:Option Addr × Nat=>[(105,.hrow 9 1 (s.sh.map .s) i.1 i.2)]):=by
 obtain ⟨h1,h2⟩:=h
 refine actsE_by (cF Tryz.func247 Tryz.f247.eq_1) (by simp) (by simp [scPs,scP]) (by simp [scObj]) trivial (fun i=>by simp [scObj]) (fun i=>by simp [FolL]) fun X hX=>?_
 unfold zD ghO
 refine run_seq (run_cut ⟨[(1,.lp 1 0),(2,.lp 2 0)],[(1,.box [.p (.s s.req.name),.p (.s s.req.carrier),.p (.s s.req.kind),.p (.s s.req.term),.p (.s s.req.partner),.p (.s s.req.link),.p (.i .i64 s.req.per.fro),.p (.i .i64 s.req.per.to),.p (.i .i64 s.req.per.days),.p (.i .i64 s.req.minute),.p (.i .i64 s.req.seats),.p (.i .i64 s.req.size),.p (.i .i64 s.req.noise),.p (.s s.holder),.p (.sl 3 (s.ls.map Lea.pv)),.p (.sl 1 (s.sh.map .s))] false),(2,.box [.p (.s (bs [])),.p (.s (bs [])),.p (.s (bs [])),.p (.s (bs [])),.p (.s (bs [])),.p (.s (bs [])),.p (.i .i64 0),.p (.i .i64 0),.p (.i .i64 0),.p (.i .i64 0),.p (.i .i64 0),.p (.i .i64 0),.p (.i .i64 0),.p (.s (bs [])),.p .nilsl,.p .nilsl] false)],[],false⟩ ?_ (run_seq (run_cut ⟨[(1,.lp 1 0),(2,.lp 2 0)],[(1,.box [.p (.s s.req.name),.p (.s s.req.carrier),.p (.s s.req.kind),.p (.s s.req.term),.p (.s s.req.partner),.p (.s s.req.link),.p (.i .i64 s.req.per.fro),.p (.i .i64 s.req.per.to),.p (.i .i64 s.req.per.days),.p (.i .i64 s.req.minute),.p (.i .i64 s.req.seats),.p (.i .i64 s.req.size),.p (.i .i64 s.req.noise),.p (.s s.holder),.row 206 s.ls.length,.row 105 s.sh.length] false),(2,.box [.p (.s (bs [])),.p (.s (bs [])),.p (.s (bs [])),.p (.s (bs [])),.p (.s (bs [])),.p (.s (bs [])),.p (.i .i64 0),.p (.i .i64 0),.p (.i .i64 0),.p (.i .i64 0),.p (.i .i64 0),.p (.i .i64 0),.p (.i .i64 0),.p (.s (bs [])),.p .nilsl,.p .nilsl] false),(206,.row 102 3 (s.ls.map Lea.pv) false),(105,.row 9 1 (s.sh.map .s) false)],[],false⟩ ?_ ?_)))
 ·have qe:=@qR;repeat' first|refine gC (fun hc=>?_) (fun hc=>?_)<;>try contradiction|refine gG ?_|show AK _;intro K H|refine H _ _ ?_;clear H K|refine gJ ?_;try exact trivial|omega
  all_goals (show Cov _ _;simp only [qS,Nat.reduceAdd,Nat.reduceMul,Nat.reduceEqDiff,Nat.reduceLeDiff,reduceIte,reduceCtorEq,Nat.reduceBEq,Nat.reduceLT]<;>simp)
 ·have qe:=aI qR (aI @qN (aI @zaf (aI @List.map_nil.{0,0} @List.append_nil.{0})));repeat' first|refine gC (fun hc=>?_) (fun hc=>?_)<;>try contradiction|refine zm [(5,206)] (acts1228 s.ls (by omega)) ?_|refine zm [(5,105)] (acts1229 s.sh (by omega)) ?_|refine gG ?_|show AK _;intro K H|refine H _ _ ?_;clear H K|refine gJ ?_;try exact trivial|omega
  all_goals (show Cov _ _;simp only [qS,Nat.reduceAdd,Nat.reduceMul,Nat.reduceEqDiff,Nat.reduceLeDiff,reduceIte,reduceCtorEq,Nat.reduceBEq,Nat.reduceLT]<;>simp)
 refine run_ghostR (ghost_pin 105 (e:=9) (sz:=1) (xs:=s.sh.map .s) rfl (fun a0 c0=>[(1,.lp 1 0),(2,.lp 2 0)]) (fun a0 c0=>[(1,.box [.p (.s s.req.name),.p (.s s.req.carrier),.p (.s s.req.kind),.p (.s s.req.term),.p (.s s.req.partner),.p (.s s.req.link),.p (.i .i64 s.req.per.fro),.p (.i .i64 s.req.per.to),.p (.i .i64 s.req.per.days),.p (.i .i64 s.req.minute),.p (.i .i64 s.req.seats),.p (.i .i64 s.req.size),.p (.i .i64 s.req.noise),.p (.s s.holder),.row 206 s.ls.length,.p (.rs a0 (s.sh.map PV.s).length c0)] false),(2,.box [.p (.s (bs [])),.p (.s (bs [])),.p (.s (bs [])),.p (.s (bs [])),.p (.s (bs [])),.p (.s (bs [])),.p (.i .i64 0),.p (.i .i64 0),.p (.i .i64 0),.p (.i .i64 0),.p (.i .i64 0),.p (.i .i64 0),.p (.i .i64 0),.p (.s (bs [])),.p .nilsl,.p .nilsl] false),(206,.row 102 3 (s.ls.map Lea.pv) false)]) fun a0 c0=>⟨⟨.inl rfl,.inl rfl,trivial⟩,⟨.inr ⟨_,rfl,_,_,_,rfl,rfl,.inl rfl,.inl rfl,.inl rfl,.inl rfl,.inl rfl,.inl rfl,.inl rfl,.inl rfl,.inl rfl,.inl rfl,.inl rfl,.inl rfl,.inl rfl,.inl rfl,.inl rfl,.inr ⟨by show LV.row 105 _=LV.row 105 _;simp,rfl⟩,trivial⟩,.inl rfl,.inl rfl,trivial⟩,by simp [scEnv,scP,zl],by simp [scObj,scPs,scP,zl]⟩) ?_
 rintro _ ⟨a0,c0,rfl⟩
 refine (show Run _ _ (St.mk _ _ [] false) _ from ?_)
 have qe:=aI qR (aI @zaf (aI @reN (aI @reR (@List.length_map.{0,0}))));repeat' first|refine gC (fun hc=>?_) (fun hc=>?_)<;>try contradiction|refine gG ?_|show AK _;intro K H|refine H _ _ ?_;clear H K|refine gJ ?_;try exact trivial|omega
 exact ⟨(a0,c0),.inl (.mkP)⟩
set_option maxRecDepth 100000
set_option linter.unusedVariables false
set_option linter.unusedSimpArgs false
set_option maxHeartbeats 8000000
def shE (s:Slt) (to:ByteArray):Int:=zg [if to=s.holder then 31 else 0,if 0≤atL to s.sh then 9 else 0,if 4≤(s.sh.length:Int) then 5 else 0]
def shS (s:Slt) (to:ByteArray):Slt:=⟨s.req,s.holder,s.ls,s.sh++[to]⟩
theorem ybE (P:List PV) (i0:Nat) (hi:i0 < P.length) (s:Slt) (to:ByteArray) (hok:SlOk s) (h:shE s to≠0) (i:HD):ActsE Tryz.prog 220 [.ep 900 P.length i0 0,.p (.ip (.s to) 0)] [(900,.row 59 16 (P.set i0 (slS s i)) false),(901,.hrow 9 1 (s.sh.map .s) i.1 i.2)] (fun _=>.p (.i .i64 (shE s to)))
  (fun j=>[(900,.row 59 16 (P.set i0 (slS s j)) false),(901,.hrow 9 1 (s.sh.map .s) j.1 j.2)]):=by
 have hg:=fun a=>set_get P i0 a hi
 have hx:(zg [if to=s.holder then 31 else 0,if 0≤atL to s.sh then 9 else 0,if 4≤(s.sh.length:Int) then 5 else 0]=0)=False:=eq_false h
 obtain ⟨_,hok⟩:=hok
 refine actsE_by (cF Tryz.func220 Tryz.f220.eq_1) (by simp) (by simp [scPs,scP,zl]) (by simp [scObj]) ⟨rfl,rfl,trivial⟩ (fun j=>by simp [scObj]) (fun j=>by simp [FolL,zl]) fun X hX=>?_
 unfold zD ghO
 have qe:=aI qR (aI @qN (aI @gLV.eq_2 (aI @gLV.eq_5 (aI @hg (aI @hx @List.length_set.{0})))));repeat' first|refine gC (fun hc=>?_) (fun hc=>?_)<;>try contradiction|refine za (zW _ _) ?_|refine za (zz [_,_,_]) ?_|refine gG ?_|show AK _;intro K H|refine H _ _ ?_;clear H K|refine gJ ?_;try exact trivial|omega
 refine run_callHX 901 (hf:=pure1213 s.sh to) (hm:=by exact ⟨.inr ⟨len_rs _ _ _ _,rfl⟩,.inl rfl,trivial⟩) (hn:=?_)
 have qe:=aI qR (aI @qN (aI @hg (aI @hx (aI @List.length_set.{0} (aI @reN @reR)))));repeat' first|refine gC (fun hc=>?_) (fun hc=>?_)<;>try contradiction|refine za (zW _ _) ?_|refine za (zz [_,_,_]) ?_|refine gG ?_|show AK _;intro K H|refine H _ _ ?_;clear H K|refine gJ ?_;try exact trivial|omega
 all_goals exact ⟨i,.inl (.mkE)⟩
theorem yce (P:List PV) (i0:Nat) (hi:i0 < P.length) (s:Slt) (to:ByteArray) (hok:SlOk s) (h:shE s to=0) (i:HD):ActsE Tryz.prog 220 [.ep 900 P.length i0 0,.p (.ip (.s to) 0)] [(900,.row 59 16 (P.set i0 (slS s i)) false),(901,.hrow 9 1 (s.sh.map .s) i.1 i.2)] (fun _=>.p (.i .i64 0))
  (fun j=>[(900,.row 59 16 (P.set i0 (slX s (.sl 3 (s.ls.map Lea.pv)) (.rs j.1 (s.sh.map PV.s++[PV.s to]).length j.2))) false),(901,.hrow 9 1 (s.sh.map PV.s++[PV.s to]) j.1 j.2)]):=by
 have hg:=fun a=>set_get P i0 a hi
 have hx:(zg [if to=s.holder then 31 else 0,if 0≤atL to s.sh then 9 else 0,if 4≤(s.sh.length:Int) then 5 else 0]=0)=True:=eq_true h
 obtain ⟨_,hok⟩:=hok
 refine actsE_by (cF Tryz.func220 Tryz.f220.eq_1) (by simp) (by simp [scPs,scP,zl]) (by simp [scObj]) ⟨rfl,rfl,trivial⟩ (fun j=>by simp [scObj]) (fun j=>by simp [FolL,zl]) fun X hX=>?_
 unfold zD ghO
 have qe:=aI qR (aI @qN (aI @gLV.eq_2 (aI @gLV.eq_5 (aI @hg (aI @hx @List.length_set.{0})))));repeat' first|refine za (zW _ _) ?_|refine za (zz [_,_,_]) ?_|refine gG ?_|show AK _;intro K H|refine H _ _ ?_;clear H K|refine gJ ?_;try exact trivial|omega
 refine run_callHX 901 (hf:=pure1213 s.sh to) (hm:=by exact ⟨.inr ⟨len_rs _ _ _ _,rfl⟩,.inl rfl,trivial⟩) (hn:=?_)
 have qe:=aI qR (aI @qN (aI @hg (aI @hx @List.length_set.{0})));repeat' first|refine za (zW _ _) ?_|refine za (zz [_,_,_]) ?_|refine gG ?_|show AK _;intro K H|refine H _ _ ?_;clear H K|refine gJ ?_;try exact trivial|omega
 have qe:=@hx;(refine gC (fun hc=>?_) (fun hc=>?_)<;>try contradiction)
 refine run_skip ?_
 refine (show Run _ (.seq (.ops true _) _) _ _ from run_seq (run_drawB Mx.h rfl 8 (by decide) rfl ?_))
 simp only [List.take_succ_cons,List.take_zero,List.drop_succ_cons,List.drop_zero]
 refine run_partN 7 ?_
 simp only [List.take_succ_cons,List.take_zero,List.drop_succ_cons,List.drop_zero]
 have qe:=aI qR (aI @qN (aI @hg @List.length_set.{0}));repeat' first|refine gC (fun hc=>?_) (fun hc=>?_)<;>try contradiction|refine gG ?_|show AK _;intro K H|refine H _ _ ?_;clear H K|refine gJ ?_;try exact trivial|omega
 refine run_appHX 901 s.sh.length (xs:=s.sh.map PV.s) (by simp) (h3:=by simp;omega) (h:=?_)
 refine (show drawOkF _=true∧zj _ _ _ _ _ _ _ from ⟨rfl,?_⟩)
 refine zbO (ghost_pin 901 (e:=9) (sz:=1) (xs:=s.sh.map PV.s++[PV.s to]) rfl (fun a0 c0=>[(31,.ep 900 P.length i0 0),(38,.p (.rs a0 (s.sh.map PV.s++[PV.s to]).length c0)),(1000900,.row 900 P.length),(1000901,.any)]) (fun a0 c0=>[(900,.row 59 16 (P.set i0 (slS s i)) false)]) fun a0 c0=>⟨?_,?_,?_,?_⟩) ?_
 ·exact ⟨.inl rfl,.inr ⟨_,.inl (.inr ⟨rfl,rfl⟩),rfl⟩,.inl rfl,.inl rfl,trivial⟩
 ·exact ⟨.inl rfl,trivial⟩
 ·simp [scEnv,scP,zl]
 ·simp [scObj,scPs,scP,zl]
 rintro _ ⟨a0,c0,rfl⟩
 refine (show zj _ _ _ _ _ (St.mk _ _ [] false) _ from zE ?_)
 have qe:=aI qR (aI @qN (aI @hg (aI @cells_rs (aI @List.set_set.{0} (aI @List.length_set.{0} (aI @reN @reR))))));repeat' first|refine gC (fun hc=>?_) (fun hc=>?_)<;>try contradiction|refine gG ?_|show AK _;intro K H|refine H _ _ ?_;clear H K|refine gJ ?_;try exact trivial|omega
 exact ⟨(a0,c0),.inl (.mkE)⟩
def shC (b:Bk) (c n to:ByteArray):Int:=chgC b c n (zaH to) (shE (zo b n) to)
def shB (b:Bk) (c n to:ByteArray):Bk:=if shC b c n to=0 then chgB b n (shS (zo b n) to) else bk0
theorem ybM {b:Bk} {c n to:ByteArray} (h:shC b c n to≠0):shB b c n to=bk0:=if_neg h
theorem ycq (b:Bk) (c n to:ByteArray) (hb:BkOk b):Pure Tryz.prog 195 [b.pv,.s c,.s n,.i .i64 (zaH to),.fn (.func 220) [] [.ip (.s to) 0]] (.tup [(shB b c n to).pv,.i .i64 (shC b c n to)]):=by
 by_cases hown:ownE b c n (zaH to)=0
 ·have hC:shC b c n to=shE (zo b n) to:=chg_own hown
  have hsl:=own_of hown
  have hok:=slotOk hb hsl
  have hi:zA b n < b.slots.length:=(List.getElem?_eq_some_iff.1 hsl).1
  have hi':zA b n < (b.slots.map Slt.pv).length:=by simpa using hi
  by_cases hE:shE (zo b n) to=0
  ·have hf:=fun i=>yce (b.slots.map Slt.pv) (zA b n) hi' (zo b n) to hok hE i
   rw [show (b.slots.map Slt.pv).length=b.slots.length from List.length_map ..] at hf
   have h:=changedX (cf:=220) (caps:=[.ip (.s to) 0]) (fun _=>.sl 3 ((zo b n).ls.map Lea.pv)) (fun i=>.rs i.1 (zo b n).sh.length i.2) _ (slX (zo b n) (.sl 3 ((zo b n).ls.map Lea.pv)) (.sl 1 ((zo b n).sh.map PV.s++[PV.s to]))) b c n (zaH to) 0 hb (fun _=>⟨rfl,rfl⟩) hown (yab (zo b n) hok) hf fun j=>.inr ⟨_,_,rfl,rfl,.inl rfl,.inl rfl,.inl rfl,.inl rfl,.inl rfl,.inl rfl,.inl rfl,.inl rfl,.inl rfl,.inl rfl,.inl rfl,.inl rfl,.inl rfl,.inl rfl,.inl rfl,.inr ⟨rfl,rfl⟩,trivial⟩
   rw [if_pos rfl] at h
   have hB:shB b c n to=chgB b n (shS (zo b n) to):=by rw [shB,hC,if_pos hE]
   rw [hC,hE,hB,chgB]
   show Pure _ _ _ (.tup [.agg [.sl 16 ((b.slots.set (zA b n) (shS (zo b n) to)).map Slt.pv),.sl 14 (b.wait.map Wsh.pv)],.i .i64 0])
   rw [List.map_set]
   show Pure _ _ _ (.tup [.agg [.sl 16 ((b.slots.map Slt.pv).set (zA b n) (slX (zo b n) (.sl 3 ((zo b n).ls.map Lea.pv)) (.sl 1 (((zo b n).sh++[to]).map PV.s)))),.sl 14 (b.wait.map Wsh.pv)],.i .i64 0])
   rw [List.map_append]
   exact h
  ·have hf:=fun i=>ybE (b.slots.map Slt.pv) (zA b n) hi' (zo b n) to hok hE i
   rw [show (b.slots.map Slt.pv).length=b.slots.length from List.length_map ..] at hf
   have h:=changedX (cf:=220) (caps:=[.ip (.s to) 0]) (fun _=>.sl 3 ((zo b n).ls.map Lea.pv)) (fun i=>.rs i.1 (zo b n).sh.length i.2) _ (zo b n).pv b c n (zaH to) (shE (zo b n) to) hb (fun _=>⟨rfl,rfl⟩) hown (yab (zo b n) hok) hf fun j=>.inr ⟨_,_,rfl,rfl,.inl rfl,.inl rfl,.inl rfl,.inl rfl,.inl rfl,.inl rfl,.inl rfl,.inl rfl,.inl rfl,.inl rfl,.inl rfl,.inl rfl,.inl rfl,.inl rfl,.inl rfl,.inr ⟨len_rs _ _ _ _,rfl⟩,trivial⟩
   rw [if_neg hE] at h
   rw [ybM (by rw [hC];exact hE),hC]
   exact zat h (zbw _)
 ·have hC:shC b c n to≠0:=by rw [shC,chgC,za2 hown];exact hown
  rw [ybM hC]
  exact chg_not b c n (zaH to) _ hb hown
theorem ybS (b:Bk) (c n to:ByteArray) (hb:BkOk b):Pure Tryz.prog 146 [b.pv,.s c,.s n,.s to] (.tup [(shB b c n to).pv,.i .i64 (shC b c n to)]):=by
 have hch:=ycq b c n to hb
 refine zf (cF Tryz.func146 Tryz.f146.eq_1) (by simp) fun hw X hX=>?_
 have qe:=aI qR @qN;repeat' first|refine gC (fun hc=>?_) (fun hc=>?_)<;>try contradiction|refine za (zby to) ?_|refine zam (hch) ?_|refine gG ?_|show AK _;intro K H|refine H _ _ ?_;clear H K|refine gJ ?_;try exact trivial|omega
 exact .refl _
theorem ybY (b:Bk) (c n to:ByteArray) (hb:zG b=0→BkOk b):Pure Tryz.prog 64 [b.pv,.s c,.s n,.s to] (.tup [(BkTo b (shB b c n to) (shC b c n to)).1.pv,.i .i64 (BkTo b (shB b c n to) (shC b c n to)).2]):=by
 by_cases h:zG b=0
 ·have e1:(zG b=0)=True:=eq_true h
  rw [bkTo_ok h ybM]
  refine zf (cF Tryz.func64 Tryz.f64.eq_1) (by simp) fun hw X hX=>?_
  have qe:=aI qR (aI @qN @e1);repeat' first|refine gC (fun hc=>?_) (fun hc=>?_)<;>try contradiction|refine za (zX b) ?_|refine za (ybS b c n to (hb h)) ?_|refine gG ?_|show AK _;intro K H|refine H _ _ ?_;clear H K|refine gJ ?_;try exact trivial|omega
  exact .refl _
 ·have e1:(zG b=0)=False:=eq_false h
  rw [bkTo_bad h]
  refine zat (r:=.tup [.agg [.nilsl,.nilsl],.i .i64 (zG b)]) ?_ (zbw _)
  refine zf (cF Tryz.func64 Tryz.f64.eq_1) (by simp) fun hw X hX=>?_
  have qe:=aI qR (aI @qN @e1);repeat' first|refine gC (fun hc=>?_) (fun hc=>?_)<;>try contradiction|refine za (zX b) ?_|refine gG ?_|show AK _;intro K H|refine H _ _ ?_;clear H K|refine gJ ?_;try exact trivial|omega
  exact .refl _
set_option maxRecDepth 100000
set_option linter.unusedVariables false
set_option linter.unusedSimpArgs false
set_option maxHeartbeats 8000000
def ya2 (q:Req):Bool:=decide ((q.name.size:Int)≤40) && decide ((q.carrier.size:Int)≤40) && decide ((q.kind.size:Int)≤40) && decide ((q.term.size:Int)≤40) && decide ((q.partner.size:Int)≤40) && decide ((q.link.size:Int)≤40)
theorem yai (q:Req):Pure Tryz.prog 51 [q.pv] (.b (ya2 q)):=by
 refine zf (cF Tryz.func51 Tryz.f51.eq_1) (by simp) fun hw X hX=>?_
 have qe:=@qR;repeat' first|refine gC (fun hc=>?_) (fun hc=>?_)<;>try contradiction|refine gG ?_|show AK _;intro K H|refine H _ _ ?_;clear H K|refine gJ ?_;try exact trivial|omega
 exact .refl _
def shortB (q:Req):Bool:=ya2 q && (!decide (zau q.per=0) || decide (q.per.to - q.per.fro < 14))
theorem yaU (q:Req):Pure Tryz.prog 85 [q.pv] (.b (shortB q)):=by
 refine zf (cF Tryz.func85 Tryz.f85.eq_1) (by simp) fun hw X hX=>?_
 by_cases hb:ya2 q=true
 ·by_cases hp:zau q.per=0
  ·have h1:=zaX hp
   have e:shortB q=decide (q.per.to - q.per.fro < 14):=by simp [shortB,hb,hp]
   rw [e]
   have qe:=aI qR (aI @hb (aI @hp (aI @decide_true @Bool.not_true)));repeat' first|refine gC (fun hc=>?_) (fun hc=>?_)<;>try contradiction|refine za (yai q) ?_|refine zN (fun _=>yaR q.per) ?_|refine gG ?_|show AK _;intro K H|refine H _ _ ?_;clear H K|refine gJ ?_;try exact trivial|omega
   exact .refl _
  ·have hpf:=eq_false hp
   have e:shortB q=true:=by simp [shortB,hb,hp]
   rw [e]
   have qe:=aI qR (aI @hb (aI @hpf (aI @decide_false @Bool.not_false)));repeat' first|refine gC (fun hc=>?_) (fun hc=>?_)<;>try contradiction|refine za (yai q) ?_|refine zN (fun _=>yaR q.per) ?_|refine gG ?_|show AK _;intro K H|refine H _ _ ?_;clear H K|refine gJ ?_;try exact trivial|omega
   exact .refl _
 ·have hbf:ya2 q=false:=by simpa using hb
  have e:shortB q=false:=by simp [shortB,hbf]
  rw [e]
  have qe:=aI qR @hbf;repeat' first|refine gC (fun hc=>?_) (fun hc=>?_)<;>try contradiction|refine za (yai q) ?_|refine zN (fun _=>yaR q.per) ?_|refine gG ?_|show AK _;intro K H|refine H _ _ ?_;clear H K|refine gJ ?_;try exact trivial|omega
  exact .refl _
set_option maxRecDepth 100000
set_option linter.unusedVariables false
set_option linter.unusedSimpArgs false
set_option maxHeartbeats 8000000
theorem ybZ (b:Bk) (hb:BkOk b):Pure Tryz.prog 50 [b.pv] b.pv:=by
 obtain ⟨hs,hn,hw1⟩:=hb
 refine zf (cF Tryz.func50 Tryz.f50.eq_1) (by simp) fun hw X hX=>?_
 have qe:=@qR;repeat' first|refine gC (fun hc=>?_) (fun hc=>?_)<;>try contradiction|refine gG ?_|show AK _;intro K H|refine H _ _ ?_;clear H K|refine gJ ?_;try exact trivial|omega
 refine zaO 100 33 16 [(1,.lp 1 0),(2,.lp 2 0),(3,.lp 3 0),(12,.p (.sl 16 (b.slots.map Slt.pv))),(13,.p (.i .i64 b.slots.length)),(14,.p (.i .i64 0))] [(1,.box [.p (.sl 16 (b.slots.map Slt.pv)),.p (.sl 14 (b.wait.map Wsh.pv))] false),(2,.box [.p .nilsl,.p .nilsl] false),(3,.box [.row 100 0,.p .nilsl] false)] ?_ ?_
 ·simp only [Own,zaL,zaB,zbt,zay,qS,Nat.reduceAdd,Nat.reduceMul,Nat.reduceEqDiff,Nat.reduceLeDiff,reduceIte,reduceCtorEq,Nat.reduceBEq,Nat.reduceLT]<;>simp
 refine zk (κ:=Nat) (fun k=>⟨[(1,.lp 1 0),(2,.lp 2 0),(3,.lp 3 0),(12,.p (.sl 16 (b.slots.map Slt.pv))),(13,.p (.i .i64 b.slots.length)),(14,.p (.i .i64 k))],[(1,.box [.p (.sl 16 (b.slots.map Slt.pv)),.p (.sl 14 (b.wait.map Wsh.pv))] false),(2,.box [.p .nilsl,.p .nilsl] false),(3,.box [.row 100 k,.p .nilsl] false),(100,.row 33 16 ((b.slots.take k).map Slt.pv) false)],[],false⟩) (fun k=>k≤b.slots.length) (fun k=>b.slots.length - k) 0 ?_ ?_ ?_
 ·exact sS
 ·simp
 ·intro k hk
  have hlk:(b.slots.take k).length=k:=by rw [List.length_take];omega
  repeat first|refine gG ?_|show AK _;intro K H|refine H _ _ ?_;clear H K|refine gJ ?_;try exact trivial|omega
  (refine gC (fun hc=>?_) (fun hc=>?_)<;>try contradiction)
  ·obtain ⟨s,hx⟩:=zn (i:=k) (l:=b.slots) (by omega)
   obtain ⟨hl1,hl2⟩:=hs s (List.mem_of_getElem? hx)
   have qe:=aI qR @hx;repeat' first|refine gC (fun hc=>?_) (fun hc=>?_)<;>try contradiction|refine gG ?_|show AK _;intro K H|refine H _ _ ?_;clear H K|refine gJ ?_;try exact trivial|omega
   refine zaO 101 97 3 [(1,.lp 1 0),(2,.lp 2 0),(3,.lp 3 0),(12,.p (.sl 16 (b.slots.map Slt.pv))),(13,.p (.i .i64 b.slots.length)),(14,.p (.i .i64 k)),(5,.lp 5 0),(6,.lp 6 0),(26,.p (.sl 3 (s.ls.map Lea.pv))),(27,.p (.i .i64 s.ls.length)),(28,.p (.i .i64 0))] [(1,.box [.p (.sl 16 (b.slots.map Slt.pv)),.p (.sl 14 (b.wait.map Wsh.pv))] false),(2,.box [.p .nilsl,.p .nilsl] false),(3,.box [.row 100 k,.p .nilsl] false),(100,.row 33 16 ((b.slots.take k).map Slt.pv) false),(5,.box (s.cells.map .p) false),(6,.box [.p (.s s.req.name),.p (.s s.req.carrier),.p (.s s.req.kind),.p (.s s.req.term),.p (.s s.req.partner),.p (.s s.req.link),.p (.i .i64 s.req.per.fro),.p (.i .i64 s.req.per.to),.p (.i .i64 s.req.per.days),.p (.i .i64 s.req.minute),.p (.i .i64 s.req.seats),.p (.i .i64 s.req.size),.p (.i .i64 s.req.noise),.p (.s s.holder),.row 101 0,.p (.sl 1 (s.sh.map .s))] false)] ?_ ?_
   ·simp only [Own,zaL,zaB,zbt,zay,qS,Nat.reduceAdd,Nat.reduceMul,Nat.reduceEqDiff,Nat.reduceLeDiff,reduceIte,reduceCtorEq,Nat.reduceBEq,Nat.reduceLT]<;>simp [hlk]
   refine zk (κ:=Nat) (fun i=>⟨[(1,.lp 1 0),(2,.lp 2 0),(3,.lp 3 0),(12,.p (.sl 16 (b.slots.map Slt.pv))),(13,.p (.i .i64 b.slots.length)),(14,.p (.i .i64 k)),(5,.lp 5 0),(6,.lp 6 0),(26,.p (.sl 3 (s.ls.map Lea.pv))),(27,.p (.i .i64 s.ls.length)),(28,.p (.i .i64 i))],[(1,.box [.p (.sl 16 (b.slots.map Slt.pv)),.p (.sl 14 (b.wait.map Wsh.pv))] false),(2,.box [.p .nilsl,.p .nilsl] false),(3,.box [.row 100 k,.p .nilsl] false),(100,.row 33 16 ((b.slots.take k).map Slt.pv) false),(5,.box (s.cells.map .p) false),(6,.box [.p (.s s.req.name),.p (.s s.req.carrier),.p (.s s.req.kind),.p (.s s.req.term),.p (.s s.req.partner),.p (.s s.req.link),.p (.i .i64 s.req.per.fro),.p (.i .i64 s.req.per.to),.p (.i .i64 s.req.per.days),.p (.i .i64 s.req.minute),.p (.i .i64 s.req.seats),.p (.i .i64 s.req.size),.p (.i .i64 s.req.noise),.p (.s s.holder),.row 101 i,.p (.sl 1 (s.sh.map .s))] false),(101,.row 97 3 ((s.ls.take i).map Lea.pv) false)],[],false⟩) (fun i=>i≤s.ls.length) (fun i=>s.ls.length - i) 0 ?_ ?_ ?_
   ·refine gJ ?_;simp [hlk]
   ·simp
   ·intro i hi
    have hli:(s.ls.take i).length=i:=by rw [List.length_take];omega
    repeat first|refine gG ?_|show AK _;intro K H|refine H _ _ ?_;clear H K|refine gJ ?_;try exact trivial|omega
    (refine gC (fun hc=>?_) (fun hc=>?_)<;>try contradiction)
    ·obtain ⟨x,hx2⟩:=zn (i:=i) (l:=s.ls) (by omega)
     have qe:=aI qR (aI @hx2 (aI @hli @hlk));repeat' first|refine gC (fun hc=>?_) (fun hc=>?_)<;>try contradiction|refine gG ?_|show AK _;intro K H|refine H _ _ ?_;clear H K|refine gJ ?_;try exact trivial|omega
     exact ⟨i+1,by omega,by omega,by simp,⟨rfl,by rw [zan hx2];simp⟩,by simp;omega⟩
    ·have e:i=s.ls.length:=by omega
     subst e
     refine run_exit ?_
     refine (show Run _ (.ops false _) _ _ from run_region (run_partN 3 ?_))
     simp only [List.take_succ_cons,List.take_zero,List.drop_succ_cons,List.drop_zero]
     have qe:=aI qR (aI @zaf (aI @hlk @List.take_length.{0}));repeat' first|refine gC (fun hc=>?_) (fun hc=>?_)<;>try contradiction|refine gG ?_|show AK _;intro K H|refine H _ _ ?_;clear H K|refine gJ ?_;try exact trivial|omega
     refine zbO (yaw 41 s.pv (by simp only [qS,Nat.reduceAdd,Nat.reduceMul,Nat.reduceEqDiff,Nat.reduceLeDiff,reduceIte,reduceCtorEq,Nat.reduceBEq,Nat.reduceLT,zaf]<;>rfl) (by first|trivial|simp) (.refl _)) ?_
     rintro _ rfl
     refine zE ?_
     have qe:=aI qR @hlk;repeat' first|refine gC (fun hc=>?_) (fun hc=>?_)<;>try contradiction|refine gG ?_|show AK _;intro K H|refine H _ _ ?_;clear H K|refine gJ ?_;try exact trivial|omega
     exact ⟨k+1,by omega,by omega,by simp,⟨rfl,by rw [zan hx];simp⟩,by simp;omega⟩
  ·have e:k=b.slots.length:=by omega
   subst e
   have qe:=aI qR @List.take_length.{0};repeat' first|refine gC (fun hc=>?_) (fun hc=>?_)<;>try contradiction|refine gG ?_|show AK _;intro K H|refine H _ _ ?_;clear H K|refine gJ ?_;try exact trivial|omega
   refine zaO 102 66 14 [(2,.lp 2 0),(3,.lp 3 0),(47,.p (.sl 14 (b.wait.map Wsh.pv))),(48,.p (.i .i64 b.wait.length)),(49,.p (.i .i64 0))] [(1,.box [.p (.sl 16 (b.slots.map Slt.pv)),.p (.sl 14 (b.wait.map Wsh.pv))] false),(2,.box [.p .nilsl,.p .nilsl] false),(3,.box [.row 100 b.slots.length,.row 102 0] false),(100,.row 33 16 (b.slots.map Slt.pv) false)] ?_ ?_
   ·simp only [Own,zaL,zaB,zbt,zay,qS,Nat.reduceAdd,Nat.reduceMul,Nat.reduceEqDiff,Nat.reduceLeDiff,reduceIte,reduceCtorEq,Nat.reduceBEq,Nat.reduceLT]<;>simp
   refine zk (κ:=Nat) (fun k=>⟨[(2,.lp 2 0),(3,.lp 3 0),(47,.p (.sl 14 (b.wait.map Wsh.pv))),(48,.p (.i .i64 b.wait.length)),(49,.p (.i .i64 k))],[(1,.box [.p (.sl 16 (b.slots.map Slt.pv)),.p (.sl 14 (b.wait.map Wsh.pv))] false),(2,.box [.p .nilsl,.p .nilsl] false),(3,.box [.row 100 b.slots.length,.row 102 k] false),(100,.row 33 16 (b.slots.map Slt.pv) false),(102,.row 66 14 ((b.wait.take k).map Wsh.pv) false)],[],false⟩) (fun k=>k≤b.wait.length) (fun k=>b.wait.length - k) 0 ?_ ?_ ?_
   ·exact sS
   ·simp
   ·intro k hk2
    have hl2:(b.wait.take k).length=k:=by rw [List.length_take];omega
    repeat first|refine gG ?_|show AK _;intro K H|refine H _ _ ?_;clear H K|refine gJ ?_;try exact trivial|omega
    (refine gC (fun hc=>?_) (fun hc=>?_)<;>try contradiction)
    ·obtain ⟨w,hx2⟩:=zn (i:=k) (l:=b.wait) (by omega)
     have qe:=aI qR (aI @hx2 @hl2);repeat' first|refine gC (fun hc=>?_) (fun hc=>?_)<;>try contradiction|refine gG ?_|show AK _;intro K H|refine H _ _ ?_;clear H K|refine gJ ?_;try exact trivial|omega
     exact ⟨k+1,by omega,by omega,by simp,⟨rfl,by rw [zan hx2];simp⟩,by simp;omega⟩
    ·have e2:k=b.wait.length:=by omega
     subst e2
     have qe:=aI qR (aI @zaf @List.take_length.{0});repeat' first|refine gC (fun hc=>?_) (fun hc=>?_)<;>try contradiction|refine gG ?_|show AK _;intro K H|refine H _ _ ?_;clear H K|refine gJ ?_;try exact trivial|omega
     exact .refl _
end Go.Proofs.YtahmdjadnlpjoaaGreat
namespace Go.Proofs.YtahmdjadnlpjoaaGreat
open Go.RowKit Go.ChangeShapes Go.WideShapes Go.ChangeAt
set_option maxRecDepth 100000
set_option linter.unusedVariables false
set_option linter.unusedSimpArgs false
set_option maxHeartbeats 4000000
abbrev jT:CP:=.i .i64
theorem own:ownKnob Tryz.prog.godebug=none:=by kernel_rfl
theorem laid:laidOutB Tryz.prog=true:=by kernel_rfl
theorem und4:Tryz.prog.underlying 4=some .bool:=by kernel_rfl
abbrev zs:Value:=.string ⟨#[]⟩
abbrev zi:Value:=.int .i64 0
theorem ybt {P:Program} {f:FuncId} {fn:Func} {s:ChangeSpec} {c:OpenClaim} (a1:c.wf (OpenSpec.ofChange s)=true) (a2:laidOutB P=true) (a3:mapsRowed P=true)
  (a4:(fn.params.all (P.readableRec ·) && namedTie P c.named s.vars && (c.stops == []) && (P.stops == []) && (c.knobs == []) && (P.stopKnobs == []))=true)
  (b1:(c.inPlace == P.inPlace f)=true) (b2:(c.unfollowed == P.unfollowed f)=true) (b3:(c.recurses == P.recurses f)=true) (b4:(c.named == P.varsNamed f)=true)
  (d1:((c.maps == (fn.params.toList++s.plain.varTypes P).any (P.mapsRec ·)) && (c.ifaces == (fn.params.toList++s.plain.varTypes P).any (P.ifacesRec ·)) && (c.mapsOut == P.mapsAmong fn.resultTypes.toList) &&
 (c.loops == (fn.params.toList++s.plain.varTypes P).any (P.loopsFrom ·)) && (c.wideKeys == (fn.params.toList++s.plain.varTypes P++fn.resultTypes.toList).any (P.wideKeysFrom ·)))=true)
  (d2:(s.vars.all (P.varReadable ·) && fn.resultTypes.all (fun t=>P.readableRec t && decide (t < P.types.size)) && (c.ifacesOut == fn.resultTypes.toList.any (P.ifacesRec ·)) && (c.loopsOut == fn.resultTypes.toList.any (P.loopsFrom ·)))=true)
  (d3:((c.plainKeys == P.plainKeys) && c.shortTexts.isNone && P.stopsHeard && P.mayEnter && (c.lifted == P.liftsFinal) && (P.make == some c.make))=true)
  (d4:((c.kinds == (if c.domain.isEmpty then [] else fn.params.toList.map fun t=>match P.underlying t with|some (.int k)=>some k|_=>none)) && (c.pinned == c.pinnedBy))=true)
  (d5:((c.veiled == (fn.params.toList++s.plain.varTypes P++fn.resultTypes.toList).any (P.veiledRec ·)) && c.veiledFits P fn.params.toList (fn.params.toList++s.plain.varTypes P++fn.resultTypes.toList))=true):joinedFacts P f fn s c=true:=by
 unfold joinedFacts
 simp only [Bool.and_eq_true] at a4 d1 d2 d3 d4 d5 ⊢
 obtain ⟨⟨⟨⟨⟨a4,a5⟩,a6⟩,a7⟩,a8⟩,a9⟩:=a4
 obtain ⟨⟨⟨⟨e1,e2⟩,e3⟩,e4⟩,e5⟩:=d1
 obtain ⟨⟨⟨e6,e7⟩,e8⟩,e9⟩:=d2
 obtain ⟨⟨⟨⟨⟨f1,f2⟩,f3⟩,f4⟩,f5⟩,f6⟩:=d3
 obtain ⟨f7,f8⟩:=d4
 obtain ⟨f9,g1⟩:=d5
 exact ⟨⟨⟨⟨⟨⟨⟨⟨⟨⟨⟨⟨⟨⟨⟨⟨⟨⟨⟨⟨⟨⟨⟨⟨⟨⟨⟨⟨⟨⟨⟨a1,a2⟩,a3⟩,a4⟩,a5⟩,a6⟩,a7⟩,a8⟩,a9⟩,b1⟩,b2⟩,b3⟩,b4⟩,e1⟩,e2⟩,e3⟩,e4⟩,e5⟩,e6⟩,e7⟩,e8⟩,e9⟩,f1⟩,f2⟩,f3⟩,f4⟩,f5⟩,f6⟩,f7⟩,f8⟩,f9⟩,g1⟩
theorem rowed:mapsRowed Tryz.prog=true:=by kernel_rfl
end Go.Proofs.YtahmdjadnlpjoaaGreat
namespace Go.Proofs.YtahmdjadnlpjoaaGreat
open Go.RowKit
set_option maxRecDepth 100000
set_option linter.unusedVariables false
set_option linter.unusedSimpArgs false
set_option maxHeartbeats 8000000
structure Exc where
 slots:List ByteArray
 carrier:ByteArray
 slot:ByteArray
 to:ByteArray
 lease:Lea
 day:Int
abbrev Exc.pv (x:Exc):PV:=.agg [.sl 1 (x.slots.map .s),.s x.carrier,.s x.slot,.s x.to,.s x.lease.carrier,.i .i64 x.lease.fro,.i .i64 x.lease.to,.i .i64 x.day]
def bigX (x:Exc):Bool:=(((decide ((10:Int) < x.slots.length) || decide ((40:Int) < x.carrier.size)) || decide ((40:Int) < x.slot.size)) || decide ((40:Int) < x.to.size)) || decide ((40:Int) < x.lease.carrier.size)
def yT (s:ByteArray):Bool:=!decide ((40:Int) < s.size)
def ym (x:Exc):Bool:=!bigX x && x.slots.all yT
theorem yP (x:Exc):Pure Tryz.prog 45 [x.pv] (.b (ym x)):=by
 refine zf (cF Tryz.func45 Tryz.f45.eq_1) (by simp) fun hw X hX=>?_
 simp only [wfs,PV.wf,List.length_map,maxLen] at hw
 have qe:=@qR;repeat' first|refine gC (fun hc=>?_) (fun hc=>?_)<;>try contradiction|refine gG ?_|show AK _;intro K H|refine H _ _ ?_;clear H K|refine gJ ?_;try exact trivial|omega
 ·have:bigX x=true:=by simpa [bigX] using hc
  rw [ym,this];exact .refl _
 have hsh:bigX x=false:=by simpa [bigX] using hc
 refine zk (κ:=Nat) (fun i=>⟨[(35,.p (.sl 1 (x.slots.map .s))),(36,.p (.i .i64 x.slots.length)),(37,.p (.i .i64 i))],[],[],false⟩) (fun i=>i≤x.slots.length∧∀ y ∈ x.slots.take i,yT y=true) (fun i=>x.slots.length - i) 0 ?_ ?_ ?_
 ·exact sS
 ·simp
 ·intro i hi
  repeat first|refine gG ?_|show AK _;intro K H|refine H _ _ ?_;clear H K|refine gJ ?_;try exact trivial|omega
  (refine gC (fun hc=>?_) (fun hc=>?_)<;>try contradiction)
  ·obtain ⟨y,hx⟩:=zn (i:=i) (l:=x.slots) (by omega)
   have qe:=aI qR @hx;repeat' first|refine gC (fun hc=>?_) (fun hc=>?_)<;>try contradiction|refine gG ?_|show AK _;intro K H|refine H _ _ ?_;clear H K|refine gJ ?_;try exact trivial|omega
   ·rw [ym,hsh,yaA hx (by rw [yT,decide_eq_true hc];rfl)];exact .refl _
   ·exact ⟨i+1,⟨by omega,yE hi.2 hx (by rw [yT,decide_eq_false (by omega)];rfl)⟩,by omega,by simp⟩
  ·have qe:=@qR;repeat' first|refine gC (fun hc=>?_) (fun hc=>?_)<;>try contradiction|refine gG ?_|show AK _;intro K H|refine H _ _ ?_;clear H K|refine gJ ?_;try exact trivial|omega
   have e:i=x.slots.length:=by omega
   subst e
   rw [ym,hsh,y6 hi.2];exact .refl _
def nthW (l:List ByteArray) (i:Nat):ByteArray:=(l[i]?).getD s0
theorem two0 (l:List ByteArray):(l.map PV.s++[PV.s (bs []),PV.s (bs [])])[0]?=some (PV.s (nthW l 0)):=by
 rcases l with _|⟨a,r⟩<;>rfl
theorem two1 (l:List ByteArray):(l.map PV.s++[PV.s (bs []),PV.s (bs [])])[1]?=some (PV.s (nthW l 1)):=by
 rcases l with _|⟨a,_|⟨b,r⟩⟩<;>rfl
theorem ybX (x:Exc) (hn:x.slots.length≤1000):Pure Tryz.prog 68 [x.pv] (.tup [.s (nthW x.slots 0),.s (nthW x.slots 1)]):=by
 refine zf (cF Tryz.func68 Tryz.f68.eq_1) (by simp) fun hw X hX=>?_
 have h0:=two0 x.slots
 have h1:=two1 x.slots
 have e0:(0:Int).toNat=0:=rfl
 have e1:(1:Int).toNat=1:=rfl
 have qe:=aI qR (aI @allSt (aI @zaf (aI @h0 (aI @h1 (aI @e0 @e1)))));repeat' first|refine gC (fun hc=>?_) (fun hc=>?_)<;>try contradiction|refine gG ?_|show AK _;intro K H|refine H _ _ ?_;clear H K|refine gJ ?_;try exact trivial|omega
 all_goals exact .refl _
def bigS (s:Slt):Bool:=((!shortB s.req || decide ((40:Int) < s.holder.size)) || (decide ((4:Int) < s.ls.length) && !decide ((s.ls.length:Int)=9))) || decide ((5:Int) < s.sh.length)
def yb3 (l:Lea):Bool:=yT l.carrier
def ybK (s:Slt):Bool:=!bigS s && (s.ls.all yb3 && s.sh.all yT)
theorem ybU (s:Slt):Pure Tryz.prog 16 [s.pv] (.b (ybK s)):=by
 refine zf (cF Tryz.func16 Tryz.f16.eq_1) (by simp) fun hw X hX=>?_
 simp only [wfs,PV.wf,List.length_map,maxLen] at hw
 have qe:=@qR;repeat' first|refine gC (fun hc=>?_) (fun hc=>?_)<;>try contradiction|refine za (yaU s.req) ?_|refine gG ?_|show AK _;intro K H|refine H _ _ ?_;clear H K|refine gJ ?_;try exact trivial|omega
 ·have:bigS s=true:=by simpa [bigS] using hc
  rw [ybK,this];exact .refl _
 have hsh:bigS s=false:=by simpa [bigS] using hc
 refine zk (κ:=Nat) (fun i=>⟨[(1,.lp 1 0),(3,.p (.i .i64 i))],[(1,.box (s.cells.map .p) false)],[],false⟩) (fun i=>i≤s.ls.length∧∀ y ∈ s.ls.take i,yb3 y=true) (fun i=>s.ls.length - i) 0 ?_ ?_ ?_
 ·exact sS
 ·simp
 ·intro i hi
  repeat first|refine gG ?_|show AK _;intro K H|refine H _ _ ?_;clear H K|refine gJ ?_;try exact trivial|omega
  (refine gC (fun hc=>?_) (fun hc=>?_)<;>try contradiction)
  ·obtain ⟨y,hx⟩:=zn (i:=i) (l:=s.ls) (by omega)
   have qe:=aI qR @hx;repeat' first|refine gC (fun hc=>?_) (fun hc=>?_)<;>try contradiction|refine gG ?_|show AK _;intro K H|refine H _ _ ?_;clear H K|refine gJ ?_;try exact trivial|omega
   ·rw [ybK,hsh,yaA hx (by rw [yb3,yT,decide_eq_true hc];rfl)];exact .refl _
   ·exact ⟨i+1,⟨by omega,yE hi.2 hx (by rw [yb3,yT,decide_eq_false (by omega)];rfl)⟩,by omega,by simp⟩
  ·have e:i=s.ls.length:=by omega
   subst e
   have ha:=y6 hi.2
   have qe:=@qR;repeat' first|refine gC (fun hc=>?_) (fun hc=>?_)<;>try contradiction|refine gG ?_|show AK _;intro K H|refine H _ _ ?_;clear H K|refine gJ ?_;try exact trivial|omega
   refine zk (κ:=Nat) (fun i=>⟨[(1,.lp 1 0),(4,.p (.i .i64 i))],[(1,.box (s.cells.map .p) false)],[],false⟩) (fun i=>i≤s.sh.length∧∀ y ∈ s.sh.take i,yT y=true) (fun i=>s.sh.length - i) 0 ?_ ?_ ?_
   ·exact sS
   ·simp
   ·intro i hi
    repeat first|refine gG ?_|show AK _;intro K H|refine H _ _ ?_;clear H K|refine gJ ?_;try exact trivial|omega
    (refine gC (fun hc=>?_) (fun hc=>?_)<;>try contradiction)
    ·obtain ⟨y,hx⟩:=zn (i:=i) (l:=s.sh) (by omega)
     have qe:=aI qR @hx;repeat' first|refine gC (fun hc=>?_) (fun hc=>?_)<;>try contradiction|refine gG ?_|show AK _;intro K H|refine H _ _ ?_;clear H K|refine gJ ?_;try exact trivial|omega
     ·rw [ybK,hsh,ha,yaA hx (by rw [yT,decide_eq_true hc];rfl)];exact .refl _
     ·exact ⟨i+1,⟨by omega,yE hi.2 hx (by rw [yT,decide_eq_false (by omega)];rfl)⟩,by omega,by simp⟩
    ·have qe:=@qR;repeat' first|refine gC (fun hc=>?_) (fun hc=>?_)<;>try contradiction|refine gG ?_|show AK _;intro K H|refine H _ _ ?_;clear H K|refine gJ ?_;try exact trivial|omega
     have e:i=s.sh.length:=by omega
     subst e
     rw [ybK,hsh,ha,y6 hi.2];exact .refl _
def bigB (b:Bk):Bool:=(decide ((5:Int) < b.slots.length) && !decide ((b.slots.length:Int)=65)) || (decide ((5:Int) < b.wait.length) && !decide ((b.wait.length:Int)=65))
def okWs (w:Wsh):Bool:=shortB w.req
def ybL (b:Bk):Bool:=!bigB b && (b.slots.all ybK && b.wait.all okWs)
theorem yQ (b:Bk):Pure Tryz.prog 15 [b.pv] (.b (ybL b)):=by
 refine zf (cF Tryz.func15 Tryz.f15.eq_1) (by simp) fun hw X hX=>?_
 simp only [wfs,PV.wf,List.length_map,maxLen] at hw
 have qe:=@qR;repeat' first|refine gC (fun hc=>?_) (fun hc=>?_)<;>try contradiction|refine gG ?_|show AK _;intro K H|refine H _ _ ?_;clear H K|refine gJ ?_;try exact trivial|omega
 ·have:bigB b=true:=by simpa [bigB] using hc
  rw [ybL,this];exact .refl _
 have hsh:bigB b=false:=by simpa [bigB] using hc
 refine zk (κ:=Nat) (fun i=>⟨[(1,.lp 1 0),(3,.p (.i .i64 i))],[(1,.box [.p (.sl 16 (b.slots.map Slt.pv)),.p (.sl 14 (b.wait.map Wsh.pv))] false)],[],false⟩) (fun i=>i≤b.slots.length∧∀ y ∈ b.slots.take i,ybK y=true) (fun i=>b.slots.length - i) 0 ?_ ?_ ?_
 ·exact sS
 ·simp
 ·intro i hi
  repeat first|refine gG ?_|show AK _;intro K H|refine H _ _ ?_;clear H K|refine gJ ?_;try exact trivial|omega
  (refine gC (fun hc=>?_) (fun hc=>?_)<;>try contradiction)
  ·obtain ⟨y,hx⟩:=zn (i:=i) (l:=b.slots) (by omega)
   have qe:=aI qR @hx;repeat' first|refine gC (fun hc=>?_) (fun hc=>?_)<;>try contradiction|refine za (ybU y) ?_|refine gG ?_|show AK _;intro K H|refine H _ _ ?_;clear H K|refine gJ ?_;try exact trivial|omega
   ·rw [ybL,hsh,yaA hx hc];exact .refl _
   ·exact ⟨i+1,⟨by omega,yE hi.2 hx hc⟩,by omega,by simp⟩
  ·have e:i=b.slots.length:=by omega
   subst e
   have ha:=y6 hi.2
   have qe:=@qR;repeat' first|refine gC (fun hc=>?_) (fun hc=>?_)<;>try contradiction|refine gG ?_|show AK _;intro K H|refine H _ _ ?_;clear H K|refine gJ ?_;try exact trivial|omega
   refine zk (κ:=Nat) (fun i=>⟨[(1,.lp 1 0),(4,.p (.i .i64 i))],[(1,.box [.p (.sl 16 (b.slots.map Slt.pv)),.p (.sl 14 (b.wait.map Wsh.pv))] false)],[],false⟩) (fun i=>i≤b.wait.length∧∀ y ∈ b.wait.take i,okWs y=true) (fun i=>b.wait.length - i) 0 ?_ ?_ ?_
   ·exact sS
   ·simp
   ·intro i hi
    repeat first|refine gG ?_|show AK _;intro K H|refine H _ _ ?_;clear H K|refine gJ ?_;try exact trivial|omega
    (refine gC (fun hc=>?_) (fun hc=>?_)<;>try contradiction)
    ·obtain ⟨y,hx⟩:=zn (i:=i) (l:=b.wait) (by omega)
     have qe:=aI qR @hx;repeat' first|refine gC (fun hc=>?_) (fun hc=>?_)<;>try contradiction|refine za (yaU y.req) ?_|refine gG ?_|show AK _;intro K H|refine H _ _ ?_;clear H K|refine gJ ?_;try exact trivial|omega
     ·rw [ybL,hsh,ha,yaA hx (by rw [okWs];exact hc)];exact .refl _
     ·exact ⟨i+1,⟨by omega,yE hi.2 hx (by rw [okWs];exact hc)⟩,by omega,by simp⟩
    ·have qe:=@qR;repeat' first|refine gC (fun hc=>?_) (fun hc=>?_)<;>try contradiction|refine gG ?_|show AK _;intro K H|refine H _ _ ?_;clear H K|refine gJ ?_;try exact trivial|omega
     have e:i=b.wait.length:=by omega
     subst e
     rw [ybL,hsh,ha,y6 hi.2];exact .refl _
end Go.Proofs.YtahmdjadnlpjoaaGreat
