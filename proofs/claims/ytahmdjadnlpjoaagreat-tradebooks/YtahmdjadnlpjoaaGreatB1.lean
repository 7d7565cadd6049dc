/- Contracts of functions that the proof uses, shared by the claims of this seat; no statement of its own. Part 71. No conditions. -/
import Derived.ProofKit
import Derived.OpenShut
import Derived.Carry
import Derived.OpenVars
import Derived.HandedShaped
import Derived.KernelRfl
import Derived.Laws.RangeAny
import Derived.Test.YtahmdjadnlpjoaaGreatRows
import Derived.Test.YtahmdjadnlpjoaaGreatB0
set_option linter.all false
set_option maxHeartbeats 8000000
namespace Go.Proofs.YtahmdjadnlpjoaaGreat
open Go.RowKit
set_option maxRecDepth 100000
set_option linter.unusedVariables false
set_option linter.unusedSimpArgs false
set_option maxHeartbeats 4000000
def mgK (l:List Mov) (k:Nat):List Mov:=(l.take k).foldl (insM befM) []
theorem mgK_len {l:List Mov} {k:Nat} (h:k≤l.length):(mgK l k).length=k:=by
 have:=(foldl_perm befM (l.take k) []).length_eq
 rw [mgK,this];simp;omega
theorem mgK_next {l:List Mov} {k:Nat} {x:Mov} (h:l[k]?=some x):mgK l (k+1)=insM befM (mgK l k) x:=by
 rw [mgK,List.take_add_one,h,List.foldl_append];rfl
theorem allTk {l:List PV} {n:Nat} (h:l.all (fun x=>x.cells.all PV.one)=true):(l.take n).all (fun x=>x.cells.all PV.one)=true:=by rw [List.all_eq_true] at h ⊢;exact fun x hx=>h x (List.mem_of_mem_take hx)
theorem allDr {l:List PV} {n:Nat} (h:l.all (fun x=>x.cells.all PV.one)=true):(l.drop n).all (fun x=>x.cells.all PV.one)=true:=by rw [List.all_eq_true] at h ⊢;exact fun x hx=>h x (List.mem_of_mem_drop hx)
theorem weakE {a b:PV} (h:a=b):Weak a b:=h ▸ .refl _
theorem pure121 (a b:Mov):Pure Tryz.prog 169 [a.pv,b.pv] (.b (befM a b)):=by
 refine zf (cF Tryz.func169 Tryz.f169.eq_1) (by simp) fun hw X hX=>?_
 by_cases h1:a.moment=b.moment
 ·by_cases h2:a.kind=b.kind
  ·have h1':=eq_true h1
   have h2':=eq_true h2
   have qe:=aI @h1' @h2';repeat' first|refine gC (fun hc=>?_) (fun hc=>?_)<;>try contradiction|refine gG ?_|show AK _;intro K H|refine H _ _ ?_;clear H K|refine gJ ?_;try exact trivial|omega
   rw [befM,if_pos h1,if_pos h2];exact .refl _
  ·have h1':=eq_true h1
   have h2':=eq_false h2
   have qe:=aI @h1' @h2';repeat' first|refine gC (fun hc=>?_) (fun hc=>?_)<;>try contradiction|refine gG ?_|show AK _;intro K H|refine H _ _ ?_;clear H K|refine gJ ?_;try exact trivial|omega
   rw [befM,if_pos h1,if_neg h2];exact .refl _
 ·have h1':=eq_false h1
  have qe:=@h1';repeat' first|refine gC (fun hc=>?_) (fun hc=>?_)<;>try contradiction|refine gG ?_|show AK _;intro K H|refine H _ _ ?_;clear H K|refine gJ ?_;try exact trivial|omega
  rw [befM,if_neg h1];exact .refl _
theorem ins_stop {x:Mov} {out:List Mov} {q:Nat} {y:Mov} (hy:out[q]?=some y) (hb:befM x y=false):insAt befM x out (q+1)=q+1:=by
 simp only [insAt,hy];rw [if_neg (by simp [hb])]
theorem ins_go {x:Mov} {out:List Mov} {q:Nat} {y:Mov} (hy:out[q]?=some y) (hb:befM x y=true):insAt befM x out (q+1)=insAt befM x out q:=by
 simp only [insAt,hy];rw [if_pos hb]
theorem ins_pv {l:List Mov} {k q:Nat} {x:Mov} (hx:l[k]?=some x) (h:q=insAt befM x (mgK l k) k):((mgK l k).map Mov.pv).take q++x.pv::((mgK l k).map Mov.pv).drop q=(mgK l (k+1)).map Mov.pv:=by
 have hk:k≤l.length:=Nat.le_of_lt (List.getElem?_eq_some_iff.1 hx).1
 rw [mgK_next hx,insM,mgK_len hk,←h];simp
theorem mgT {l:List Mov} {k q:Nat} (hk:k≤l.length) (hq:q≤k):(((mgK l k).map Mov.pv).take q).length=q∧(((mgK l k).map Mov.pv).drop q).length=k - q∧((((mgK l k).map Mov.pv).take q).all (fun x=>x.cells.all PV.one)=true)=True∧((((mgK l k).map Mov.pv).drop q).all (fun x=>x.cells.all PV.one)=true)=True:=by
 have h:=mgK_len hk
 have ha:((mgK l k).map Mov.pv).all (fun x=>x.cells.all PV.one)=true:=by rw [List.all_map];exact allMv _
 exact ⟨by simp;omega,by simp;omega,eq_true (allTk ha),eq_true (allDr ha)⟩
theorem pure69 (a b:List Mov) (hn:a.length+b.length≤1000000):Pure Tryz.prog 96 [.sl 7 (a.map Mov.pv),.sl 7 (b.map Mov.pv)] (.sl 7 ((mergeM befM a b).map Mov.pv)):=by
 refine zf (cF Tryz.func96 Tryz.f96.eq_1) (by simp) fun hw X hX=>?_
 have hl:(a++b).length=a.length+b.length:=List.length_append
 have hA:=fun l=>eq_true (allMv l)
 have qe:=aI qR @hA;repeat' first|refine gC (fun hc=>?_) (fun hc=>?_)<;>try contradiction|refine gG ?_|show AK _;intro K H|refine H _ _ ?_;clear H K|refine gJ ?_;try exact trivial|omega
 refine run_loopP (κ:=Nat) (fun k=>⟨[(5,.p (.sl 7 ((a++b).map Mov.pv))),(6,.p (.sl 7 ((mgK (a++b) k).map Mov.pv))),(7,.p (.i .i64 k))],[],[],false⟩) (fun k=>k≤(a++b).length) (fun k=>(a++b).length - k) 0 ?_ ?_ ?_
 ·refine .x 5 (.sl 7 ((a++b).map Mov.pv)) ?_ (hw:=weakE (by simp))
  refine .x 6 (.sl 7 []) ?_
  exact .cov (by simp only [qS,Nat.reduceAdd,Nat.reduceMul,Nat.reduceEqDiff,Nat.reduceLeDiff,reduceIte,reduceCtorEq,Nat.reduceBEq,Nat.reduceLT]<;>simp [mgK])
 ·simp
 ·intro k hk
  have hkl:=mgK_len hk
  by_cases hlt:k < (a++b).length
  ·obtain ⟨x,hx⟩:=zn (i:=k) (l:=a++b) (by omega)
   have qe:=aI qR (aI @hA (aI @hx (aI @hkl @hl)));repeat' first|refine gC (fun hc=>?_) (fun hc=>?_)<;>try contradiction|refine gG ?_|show AK _;intro K H|refine H _ _ ?_;clear H K|refine gJ ?_;try exact trivial|omega
   refine zk (κ:=Nat) (fun q=>⟨[(5,.p (.sl 7 ((a++b).map Mov.pv))),(6,.p (.sl 7 ((mgK (a++b) k).map Mov.pv))),(7,.p (.i .i64 k)),(8,.p (.i .i64 q))],[],[],false⟩) (fun q=>q≤k∧insAt befM x (mgK (a++b) k) q=insAt befM x (mgK (a++b) k) k) (fun q=>q) k ?_ ?_ ?_
   ·exact sS
   ·simp
   ·intro q hq
    cases q with
    | zero=>
     obtain ⟨hT1,hT2,hT3,hT4⟩:=mgT (l:=a++b) (k:=k) (q:=0) (by omega) (by omega)
     have i0:(0 < ((0:Nat):Int))=False:=eq_false (by omega)
     have qe:=aI qR (aI @hA (aI @hx (aI @i0 (aI @hT1 (aI @hT2 (aI @hT3 (aI @hT4 (aI @hkl (aI @hl (aI @lpN (aI @lpE @lpR)))))))))));repeat' first|refine gC (fun hc=>?_) (fun hc=>?_)<;>try contradiction|(show zj _ _ _ _ (⟨_,.call _,_,_,_⟩::_) _ _;refine zbj (hf:=fun hc=>(by first|exact (absurd hc (by decide):Pure Tryz.prog 169 _ (.b false))|(simp only [qH,rng_0] at hc;exact (absurd hc (by decide):Pure Tryz.prog 169 _ (.b false))))) (hn:=?_))|refine gG ?_|show AK _;intro K H|refine H _ _ ?_;clear H K|refine gJ ?_;try exact trivial|omega
     refine ⟨k+1,by omega,by dsimp only;omega,.x 6 (.sl 7 ((mgK (a++b) (k+1)).map Mov.pv)) ?_ (hw:=weakE (by rw [←ins_pv hx (show 0=_ from hq.2)];simp))⟩
     exact .cov (sS)
    | succ q=>
     obtain ⟨y,hy⟩:=zn (i:=q) (l:=mgK (a++b) k) (by omega)
     have i0:(0 < ((q+1:Nat):Int))=True:=eq_true (by omega)
     have i1:((q+1:Nat):Int) - 1=(q:Int):=by omega
     obtain ⟨hT1,hT2,hT3,hT4⟩:=mgT (l:=a++b) (k:=k) (q:=q+1) (by omega) (by omega)
     cases hb:befM x y with
     | true=>
      have h0:=ins_go hy hb
      have qe:=aI qR (aI @hA (aI @hx (aI @hy (aI @hb (aI @i0 (aI @i1 (aI @hT1 (aI @hT2 (aI @hT3 (aI @hT4 (aI @hkl (aI @hl (aI @lpN (aI @lpE @lpR))))))))))))));repeat' first|refine gC (fun hc=>?_) (fun hc=>?_)<;>try contradiction|refine zN (fun _=>pure121 x y) ?_|refine gG ?_|show AK _;intro K H|refine H _ _ ?_;clear H K|refine gJ ?_;try exact trivial|omega
      exact ⟨q,⟨by omega,by rw [←h0];exact hq.2⟩,by omega,rfl⟩
     | false=>
      have h0:=ins_stop hy hb
      have qe:=aI qR (aI @hA (aI @hx (aI @hy (aI @hb (aI @i0 (aI @i1 (aI @hT1 (aI @hT2 (aI @hT3 (aI @hT4 (aI @hkl (aI @hl (aI @lpN (aI @lpE @lpR))))))))))))));repeat' first|refine gC (fun hc=>?_) (fun hc=>?_)<;>try contradiction|refine zN (fun _=>pure121 x y) ?_|refine gG ?_|show AK _;intro K H|refine H _ _ ?_;clear H K|refine gJ ?_;try exact trivial|omega
      refine ⟨k+1,by omega,by dsimp only;omega,.x 6 (.sl 7 ((mgK (a++b) (k+1)).map Mov.pv)) ?_ (hw:=weakE (by rw [←ins_pv hx (h0.symm.trans hq.2)];simp))⟩
      exact .cov (sS)
  ·have qe:=aI qR (aI @hA (aI @hkl (aI @hl (aI @lpN (aI @lpE @lpR)))));repeat' first|refine gC (fun hc=>?_) (fun hc=>?_)<;>try contradiction|refine gG ?_|show AK _;intro K H|refine H _ _ ?_;clear H K|refine gJ ?_;try exact trivial|omega
   have e:k=(a++b).length:=by omega
   have e2:mgK (a++b) (a++b).length=mergeM befM a b:=by rw [mgK,List.take_length];rfl
   subst e;rw [e2];exact .refl _
set_option maxRecDepth 100000
set_option linter.unusedVariables false
set_option linter.unusedSimpArgs false
set_option maxHeartbeats 2000000
theorem bef1 {a b:Mov} (h:befM a b=true):a.moment≤b.moment:=by
 unfold befM at h;split at h
 ·omega
 ·simp only [decide_eq_true_eq] at h;omega
theorem bef0 {a b:Mov} (h:befM a b=false):b.moment≤a.moment:=by
 unfold befM at h;split at h
 ·omega
 ·simp only [decide_eq_false_iff_not] at h;omega
theorem merge_ok {a b:List Mov} (ha:∀ x ∈ a,chkMov x=0) (hb:∀ x ∈ b,chkMov x=0) (hn:a.length+b.length≤30000):zad (mergeM befM a b)=0∧(mergeM befM a b).length=a.length+b.length:=by
 have hp:=merge_perm befM a b
 have hlen:(mergeM befM a b).length=a.length+b.length:=by rw [hp.length_eq,List.length_append]
 refine ⟨chkMovs_of (by omega) (fun x hx=>?_) (merge_sorted (fun _ _ h=>bef1 h) (fun _ _ h=>bef0 h) a b),hlen⟩
 rcases List.mem_append.1 (hp.mem_iff.1 hx) with h|h
 ·exact ha x h
 ·exact hb x h
set_option maxRecDepth 100000
set_option linter.unusedVariables false
set_option linter.unusedSimpArgs false
set_option maxHeartbeats 4000000
theorem pure1024 (l:List Int):Pure Tryz.prog 36 [.sl 1 (l.map (.i .i64))] (.i .i64 (zg l)):=by
 refine zf (cF Tryz.func36 Tryz.f36.eq_1) (by simp) fun hw X hX=>?_
 simp only [wfs,PV.wf,List.length_map,maxLen] at hw
 repeat' first|refine gC (fun hc=>?_) (fun hc=>?_)<;>try contradiction|refine gG ?_|show AK _;intro K H|refine H _ _ ?_;clear H K|refine gJ ?_;try exact trivial|omega
 refine zk (κ:=Nat) (fun i=>⟨[(0,.p (.sl 1 (l.map (.i .i64)))),(3,.p (.i .i64 i))],[],[],false⟩) (fun i=>i≤l.length∧∀ x ∈ l.take i,x=0) (fun i=>l.length - i) 0 ?_ ?_ ?_
 ·exact sR
 ·simp
 ·intro i hi
  repeat first|refine gG ?_|show AK _;intro K H|refine H _ _ ?_;clear H K|refine gJ ?_;try exact trivial|omega
  (refine gC (fun hc=>?_) (fun hc=>?_)<;>try contradiction)
  ·obtain ⟨x,hx⟩:=zn (i:=i) (l:=l) (by omega)
   have qe:=@hx;repeat' first|refine gC (fun hc=>?_) (fun hc=>?_)<;>try contradiction|refine gG ?_|show AK _;intro K H|refine H _ _ ?_;clear H K|refine gJ ?_;try exact trivial|omega
   ·rw [zV hi.2 hx hc];exact .refl _
   ·exact ⟨i+1,⟨by omega,zaC hi.2 hx hc⟩,by omega,by simp⟩
  ·repeat' first|refine gC (fun hc=>?_) (fun hc=>?_)<;>try contradiction|refine gG ?_|show AK _;intro K H|refine H _ _ ?_;clear H K|refine gJ ?_;try exact trivial|omega
   have e:i=l.length:=by omega
   subst e
   rw [z4 hi.2];exact .refl _
theorem pure1074 (L:List ByteArray) (x:ByteArray):Pure Tryz.prog 81 [.sl 1 (L.map .s),.s x] (.b (decide (0≤atL x L))):=by
 refine zf (cF Tryz.func81 Tryz.f81.eq_1) (by simp) fun hw X hX=>?_
 simp only [wfs,PV.wf,List.length_map,maxLen] at hw
 repeat' first|refine gC (fun hc=>?_) (fun hc=>?_)<;>try contradiction|refine gG ?_|show AK _;intro K H|refine H _ _ ?_;clear H K|refine gJ ?_;try exact trivial|omega
 refine zk (κ:=Nat) (fun i=>⟨[(0,.p (.sl 1 (L.map .s))),(1,.p (.s x)),(5,.p (.i .i64 i))],[],[],false⟩) (fun i=>i≤L.length∧∀ y ∈ L.take i,y≠x) (fun i=>L.length - i) 0 ?_ ?_ ?_
 ·exact sR
 ·simp
 ·intro i hi
  repeat first|refine gG ?_|show AK _;intro K H|refine H _ _ ?_;clear H K|refine gJ ?_;try exact trivial|omega
  (refine gC (fun hc=>?_) (fun hc=>?_)<;>try contradiction)
  ·obtain ⟨y,hy⟩:=zn (i:=i) (l:=L) (by omega)
   have qe:=@hy;repeat' first|refine gC (fun hc=>?_) (fun hc=>?_)<;>try contradiction|refine gG ?_|show AK _;intro K H|refine H _ _ ?_;clear H K|refine gJ ?_;try exact trivial|omega
   ·rw [atL_hit hi.2 (by rw [hy,hc]),decide_eq_true (by omega)];exact .refl _
   ·refine ⟨i+1,⟨by omega,fun z hz=>?_⟩,by omega,by simp⟩
    rw [zan hy] at hz
    rcases List.mem_append.1 hz with h|h
    ·exact hi.2 z h
    ·simp at h;subst h;exact hc
  ·repeat' first|refine gC (fun hc=>?_) (fun hc=>?_)<;>try contradiction|refine gG ?_|show AK _;intro K H|refine H _ _ ?_;clear H K|refine gJ ?_;try exact trivial|omega
   have e:i=L.length:=by omega
   subst e
   rw [atL_end (fun y hy=>hi.2 y (by rw [List.take_of_length_le (by simp)];exact hy))];exact .refl _
theorem pure1071 (L:List Slt) (n:ByteArray):Pure Tryz.prog 79 [.sl 16 (L.map Slt.pv),.s n] (.i .i64 (atL n (L.map (·.req.name)))):=by
 refine zf (cF Tryz.func79 Tryz.f79.eq_1) (by simp) fun hw X hX=>?_
 simp only [wfs,PV.wf,List.length_map,maxLen] at hw
 rw [←idxF_atL]
 repeat' first|refine gC (fun hc=>?_) (fun hc=>?_)<;>try contradiction|refine gG ?_|show AK _;intro K H|refine H _ _ ?_;clear H K|refine gJ ?_;try exact trivial|omega
 refine zk (κ:=Nat) (fun i=>⟨[(0,.p (.sl 16 (L.map Slt.pv))),(1,.p (.s n)),(5,.p (.i .i64 i))],[],[],false⟩) (fun i=>i≤L.length∧∀ y ∈ L.take i,decide (y.req.name=n)=false) (fun i=>L.length - i) 0 ?_ ?_ ?_
 ·exact sR
 ·simp
 ·intro i hi
  repeat first|refine gG ?_|show AK _;intro K H|refine H _ _ ?_;clear H K|refine gJ ?_;try exact trivial|omega
  (refine gC (fun hc=>?_) (fun hc=>?_)<;>try contradiction)
  ·obtain ⟨y,hy⟩:=zn (i:=i) (l:=L) (by omega)
   have qe:=@hy;repeat' first|refine gC (fun hc=>?_) (fun hc=>?_)<;>try contradiction|refine gG ?_|show AK _;intro K H|refine H _ _ ?_;clear H K|refine gJ ?_;try exact trivial|omega
   ·rw [idxF_hit hi.2 hy (by simpa using hc)];exact .refl _
   ·exact ⟨i+1,⟨by omega,take_no hi.2 hy (by simpa using hc)⟩,by omega,by simp⟩
  ·repeat' first|refine gC (fun hc=>?_) (fun hc=>?_)<;>try contradiction|refine gG ?_|show AK _;intro K H|refine H _ _ ?_;clear H K|refine gJ ?_;try exact trivial|omega
   have e:i=L.length:=by omega
   subst e
   rw [idxF_end (fun y hy=>hi.2 y (by rw [List.take_of_length_le (by simp)];exact hy))];exact .refl _
theorem pure1046 (L:List Wsh) (n:ByteArray):Pure Tryz.prog 55 [.sl 14 (L.map Wsh.pv),.s n] (.i .i64 (atL n (L.map (·.req.name)))):=by
 refine zf (cF Tryz.func55 Tryz.f55.eq_1) (by simp) fun hw X hX=>?_
 simp only [wfs,PV.wf,List.length_map,maxLen] at hw
 rw [←idxF_atL]
 repeat' first|refine gC (fun hc=>?_) (fun hc=>?_)<;>try contradiction|refine gG ?_|show AK _;intro K H|refine H _ _ ?_;clear H K|refine gJ ?_;try exact trivial|omega
 refine zk (κ:=Nat) (fun i=>⟨[(0,.p (.sl 14 (L.map Wsh.pv))),(1,.p (.s n)),(5,.p (.i .i64 i))],[],[],false⟩) (fun i=>i≤L.length∧∀ y ∈ L.take i,decide (y.req.name=n)=false) (fun i=>L.length - i) 0 ?_ ?_ ?_
 ·exact sR
 ·simp
 ·intro i hi
  repeat first|refine gG ?_|show AK _;intro K H|refine H _ _ ?_;clear H K|refine gJ ?_;try exact trivial|omega
  (refine gC (fun hc=>?_) (fun hc=>?_)<;>try contradiction)
  ·obtain ⟨y,hy⟩:=zn (i:=i) (l:=L) (by omega)
   have qe:=@hy;repeat' first|refine gC (fun hc=>?_) (fun hc=>?_)<;>try contradiction|refine gG ?_|show AK _;intro K H|refine H _ _ ?_;clear H K|refine gJ ?_;try exact trivial|omega
   ·rw [idxF_hit hi.2 hy (by simpa using hc)];exact .refl _
   ·exact ⟨i+1,⟨by omega,take_no hi.2 hy (by simpa using hc)⟩,by omega,by simp⟩
  ·repeat' first|refine gC (fun hc=>?_) (fun hc=>?_)<;>try contradiction|refine gG ?_|show AK _;intro K H|refine H _ _ ?_;clear H K|refine gJ ?_;try exact trivial|omega
   have e:i=L.length:=by omega
   subst e
   rw [idxF_end (fun y hy=>hi.2 y (by rw [List.take_of_length_le (by simp)];exact hy))];exact .refl _
theorem pure1133 (s:ByteArray):Pure Tryz.prog 107 [.s s] (.i .i64 (zaH s)):=by
 refine zf (cF Tryz.func107 Tryz.f107.eq_1) (by simp) fun hw X hX=>?_
 repeat' first|refine gC (fun hc=>?_) (fun hc=>?_)<;>try contradiction|refine za (pure70 _) ?_|refine gG ?_|show AK _;intro K H|refine H _ _ ?_;clear H K|refine gJ ?_;try exact trivial|omega
 ·rw [zaH,if_pos hc];exact .refl _
 ·rw [zaH,if_neg (by rw [hc];simp)];exact .refl _
theorem pure1131 (l:Lea):Pure Tryz.prog 108 [l.pv] (.i .i64 (chkLea l)):=by
 refine zf (cF Tryz.func108 Tryz.f108.eq_1) (by simp) fun hw X hX=>?_
 have hsp:chkLea l=zg ([zaH l.carrier,rng l.fro 0 99999,rng l.to 0 99999]++[if l.to < l.fro then 11 else 0]):=rfl
 rw [fE_app,fE_one] at hsp
 have qe:=@qR;repeat' first|refine gC (fun hc=>?_) (fun hc=>?_)<;>try contradiction|refine za (pure1133 _) ?_|refine za (pure127 _) ?_|refine za (pure1024 [_,_,_]) ?_|refine gG ?_|show AK _;intro K H|refine H _ _ ?_;clear H K|refine gJ ?_;try exact trivial|omega
 ·rw [hsp,if_pos hc.1,if_pos hc.2];exact .refl _
 ·by_cases h:zg [zaH l.carrier,rng l.fro 0 99999,rng l.to 0 99999]=0
  ·have:=hc h
   rw [hsp,if_pos h,if_neg (by omega),h];exact .refl _
  ·rw [hsp,if_neg h];exact .refl _
theorem pure1132 (s:Slt) (l:Lea):Pure Tryz.prog 109 [s.pv,l.pv] (.i .i64 (leaOf s.raw l)):=by
 refine zf (cF Tryz.func109 Tryz.f109.eq_1) (by simp) fun hw X hX=>?_
 have qe:=@qR;repeat' first|refine gC (fun hc=>?_) (fun hc=>?_)<;>try contradiction|refine gG ?_|show AK _;intro K H|refine H _ _ ?_;clear H K|refine gJ ?_;try exact trivial|omega
 ·rw [leaOf,za2 (by rw [if_pos hc];omega),if_pos hc];exact .refl _
 ·rw [leaOf,za3 (if_neg (by simp only;omega)),fE_one,if_pos hc];exact .refl _
 ·rw [leaOf,za3 (if_neg (by simp only;omega)),fE_one,if_neg hc];exact .refl _
theorem pure1195 (s:ByteArray):Pure Tryz.prog 206 [.s s] (.b (decide (s=s0) || isName s)):=by
 refine zf (cF Tryz.func206 Tryz.f206.eq_1) (by simp) fun hw X hX=>?_
 repeat' first|refine gC (fun hc=>?_) (fun hc=>?_)<;>try contradiction|refine zN (fun _=>pure70 _) ?_|refine gG ?_|show AK _;intro K H|refine H _ _ ?_;clear H K|refine gJ ?_;try exact trivial|omega
 exact .refl _
theorem five_8 {a b c t l:ByteArray} (h:(((isName a=false∨isName b=false)∨isName c=false)∨¬t=s0∧isName t=false)∨¬l=s0∧isName l=false):zg [zaH a,zaH b,zaH c,optE t,optE l]=8:=by
 simp only [zg,zaH,optE]
 (repeat' split)<;>simp_all
theorem five_0 {a b c t l:ByteArray} (h:(((¬isName a=false∧isName b=true)∧isName c=true)∧(t=s0∨isName t=true))∧(l=s0∨isName l=true)):zg [zaH a,zaH b,zaH c,optE t,optE l]=0:=by
 simp only [zg,zaH,optE]
 (repeat' split)<;>simp_all
theorem pure1109 (r:Req):Pure Tryz.prog 126 [r.pv] (.i .i64 (chkRq r)):=by
 refine zf (cF Tryz.func126 Tryz.f126.eq_1) (by simp) fun hw X hX=>?_
 have hsp:chkRq r=zg ([zaH r.name,zaH r.carrier,zaH r.partner,optE r.term,optE r.link]++[flightE r.kind,if r.link=r.name then 32 else 0,zau r.per,rng r.minute 0 1439,rng r.seats 0 999,rng r.size 1 9,rng r.noise 0 99]):=rfl
 rw [fE_app] at hsp
 have qe:=@qR;repeat' first|refine gC (fun hc=>?_) (fun hc=>?_)<;>try contradiction|refine zN (fun _=>pure70 _) ?_|refine za (pure70 _) ?_|refine zN (fun _=>pure1195 _) ?_|refine za (pure82 r.per) ?_|refine za (pure128 _ _ _) ?_|refine za (pure1024 [_,_,_,_]) ?_|refine gG ?_|show AK _;intro K H|refine H _ _ ?_;clear H K|refine gJ ?_;try exact trivial|omega
 ·rw [hsp,if_neg (by rw [five_8 hc];omega),five_8 hc];exact .refl _
 all_goals rw [if_pos (five_0 (by assumption))] at hsp
 ·rw [hsp,za2 (by rw [flightE,if_pos hc];omega),flightE,if_pos hc];exact .refl _
 all_goals rw [za3 (show flightE r.kind=0 by rw [flightE,if_neg (fun e=>e.2 ((by assumption:¬r.kind=bs [65]→r.kind=bs [68]) e.1))])] at hsp
 ·rw [hsp,za2 (by rw [if_pos hc];omega),if_pos hc];exact .refl _
 all_goals rw [za3 (if_neg (by assumption))] at hsp
 ·rw [hsp,za2 hc];exact .refl _
 ·rw [hsp,za3 hc];exact .refl _
theorem per_of_rq {r:Req} (h:chkRq r=0):zau r.per=0:=fE0 (show zg [zaH r.name,zaH r.carrier,zaH r.partner,optE r.term,optE r.link,flightE r.kind,if r.link=r.name then 32 else 0,zau r.per,rng r.minute 0 1439,rng r.seats 0 999,rng r.size 1 9,rng r.noise 0 99]=0 from h) _ (by simp)
theorem pure1044 (r:Req):Pure Tryz.prog 53 [r.pv] (.i .i64 (chkQ r)):=by
 refine zf (cF Tryz.func53 Tryz.f53.eq_1) (by simp) fun hw X hX=>?_
 have qe:=aI qR (@List.length_map.{0,0});repeat' first|refine gC (fun hc=>?_) (fun hc=>?_)<;>try contradiction|refine za (pure1109 r) ?_|(show zj _ _ _ _ (⟨_,.call 47,_,_,_⟩::_) _ _;refine zbj (hf:=fun hc=>(by first|exact pure67 r.per (per_of_rq (by simpa using hc))|(simp only [qH,rng_0] at hc;exact pure67 r.per (per_of_rq (by simpa using hc))))) (hn:=?_))|refine gG ?_|show AK _;intro K H|refine H _ _ ?_;clear H K|refine gJ ?_;try exact trivial|omega
 ·have h2:zY r.per=[]:=by simpa using hc.2
  rw [chkQ,hc.1,za3 rfl,fE_one,if_pos h2];exact .refl _
 ·by_cases h:chkRq r=0
  ·have h2:¬zY r.per=[]:=by simpa using hc h
   rw [show chkQ r=0 by rw [chkQ,za3 h,fE_one,if_neg h2],h];exact .refl _
  ·rw [chkQ,za2 h];exact .refl _
theorem pure1045 (w:Wsh):Pure Tryz.prog 54 [w.pv] (.i .i64 (chkWsh w)):=by
 refine zf (cF Tryz.func54 Tryz.f54.eq_1) (by simp) fun hw X hX=>?_
 have qe:=@qR;repeat' first|refine gC (fun hc=>?_) (fun hc=>?_)<;>try contradiction|refine za (pure1044 w.req) ?_|refine za (pure128 _ _ _) ?_|refine za (pure1024 [_,_]) ?_|refine gG ?_|show AK _;intro K H|refine H _ _ ?_;clear H K|refine gJ ?_;try exact trivial|omega
 exact .refl _
set_option maxRecDepth 100000
set_option linter.unusedVariables false
set_option linter.unusedSimpArgs false
set_option maxHeartbeats 4000000
def fndI (L:List Slt) (n:ByteArray):Int:=if atL n (L.map (·.req.name)) < 0 then 0 else atL n (L.map (·.req.name))
theorem pure1137 (b:Bk) (n:ByteArray):Pure Tryz.prog 98 [b.pv,.s n] (.tup [.i .i64 (fndI b.slots n),.i .i64 (fndE b.slots n)]):=by
 refine zf (cF Tryz.func98 Tryz.f98.eq_1) (by simp) fun hw X hX=>?_
 repeat' first|refine gC (fun hc=>?_) (fun hc=>?_)<;>try contradiction|refine za (pure1071 b.slots n) ?_|refine gG ?_|show AK _;intro K H|refine H _ _ ?_;clear H K|refine gJ ?_;try exact trivial|omega
 ·rw [fndI,fndE,if_pos hc,if_pos hc];exact .refl _
 ·rw [fndI,fndE,if_neg (by omega),if_neg (by omega)];exact .refl _
def aheadB (a b:Wsh):Bool:=decide (a.rank < b.rank) || (decide (a.rank=b.rank) && Op.bytesLess a.req.name.toList b.req.name.toList)
theorem pure1093 (a b:Wsh):Pure Tryz.prog 95 [a.pv,b.pv] (.b (aheadB a b)):=by
 refine zf (cF Tryz.func95 Tryz.f95.eq_1) (by simp) fun hw X hX=>?_
 rw [aheadB]
 rcases Int.lt_trichotomy a.rank b.rank with h|h|h
 ·have h1:(a.rank < b.rank)=True:=eq_true h
  have h2:(a.rank=b.rank)=False:=eq_false (by omega)
  have qe:=aI @h1 (aI @h2 (aI @decide_true @decide_false));repeat' first|refine gC (fun hc=>?_) (fun hc=>?_)<;>try contradiction|refine gG ?_|show AK _;intro K H|refine H _ _ ?_;clear H K|refine gJ ?_;try exact trivial|omega
  all_goals simp only [h1,h2,decide_true,decide_false,Bool.true_or]
  all_goals exact .refl _
 ·have h1:(a.rank < b.rank)=False:=eq_false (by omega)
  have h2:(a.rank=b.rank)=True:=eq_true h
  have qe:=aI @h1 (aI @h2 (aI @decide_true @decide_false));repeat' first|refine gC (fun hc=>?_) (fun hc=>?_)<;>try contradiction|refine gG ?_|show AK _;intro K H|refine H _ _ ?_;clear H K|refine gJ ?_;try exact trivial|omega
  all_goals simp only [h1,h2,decide_true,decide_false,Bool.false_or,Bool.true_and]
  all_goals exact .refl _
 ·have h1:(a.rank < b.rank)=False:=eq_false (by omega)
  have h2:(a.rank=b.rank)=False:=eq_false (by omega)
  have qe:=aI @h1 (aI @h2 (aI @decide_true @decide_false));repeat' first|refine gC (fun hc=>?_) (fun hc=>?_)<;>try contradiction|refine gG ?_|show AK _;intro K H|refine H _ _ ?_;clear H K|refine gJ ?_;try exact trivial|omega
  all_goals simp only [h1,h2,decide_true,decide_false,Bool.false_or,Bool.false_and]
  all_goals exact .refl _
set_option maxRecDepth 100000
set_option linter.unusedVariables false
set_option linter.unusedSimpArgs false
set_option maxHeartbeats 4000000
def mvS (l:List Slt):List Mov:=l.foldl (fun out s=>mergeM befM out (movsL s.req)) []
theorem mvS_next {l:List Slt} {k:Nat} {s:Slt} (h:l[k]?=some s):mvS (l.take (k+1))=mergeM befM (mvS (l.take k)) (movsL s.req):=by
 rw [zan h,mvS,List.foldl_append];rfl
theorem pure1068 (L:List Slt) (h:∀ s ∈ L,chkReq s.req=0) (hb:∀ s ∈ L,(movsL s.req).length≤1000) (hn:L.length≤900):Pure Tryz.prog 23 [.sl 16 (L.map Slt.pv)] (.sl 7 ((mvS L).map Mov.pv)):=by
 refine zf (cF Tryz.func23 Tryz.f23.eq_1) (by simp) fun hw X hX=>?_
 repeat' first|refine gC (fun hc=>?_) (fun hc=>?_)<;>try contradiction|refine gG ?_|show AK _;intro K H|refine H _ _ ?_;clear H K|refine gJ ?_;try exact trivial|omega
 refine run_pubX 3 (.sl 7 ([]:List PV)) ?_
 refine zk (κ:=Nat) (fun k=>⟨[(0,.p (.sl 16 (L.map Slt.pv))),(3,.p (.sl 7 ((mvS (L.take k)).map Mov.pv))),(4,.p (.i .i64 k))],[],[],false⟩) (fun k=>k≤L.length∧(mvS (L.take k)).length≤1000*k) (fun k=>L.length - k) 0 ?_ ?_ ?_
 ·simp only [frzs,St.wrs,qS,Nat.reduceAdd,Nat.reduceMul,Nat.reduceEqDiff,Nat.reduceLeDiff,reduceIte,reduceCtorEq,Nat.reduceBEq,Nat.reduceLT]<;>simp [mvS]
 ·simp [mvS]
 ·intro k hk
  repeat first|refine gG ?_|show AK _;intro K H|refine H _ _ ?_;clear H K|refine gJ ?_;try exact trivial|omega
  (refine gC (fun hc=>?_) (fun hc=>?_)<;>try contradiction)
  ·obtain ⟨s,hx⟩:=zn (i:=k) (l:=L) (by omega)
   have hm:=List.mem_of_getElem? hx
   have hl:=hb s hm
   have hnx:=mvS_next hx
   have qe:=aI qR @hx;repeat' first|refine gC (fun hc=>?_) (fun hc=>?_)<;>try contradiction|refine za (pure21 s.req (h s hm)) ?_|refine za (pure69 (mvS (L.take k)) (movsL s.req) (by omega)) ?_|refine gG ?_|show AK _;intro K H|refine H _ _ ?_;clear H K|refine gJ ?_;try exact trivial|omega
   refine ⟨k+1,⟨by omega,?_⟩,by omega,⟨by rw [hnx],by simp⟩⟩
   rw [hnx,(merge_perm befM _ _).length_eq,List.length_append];omega
  ·repeat' first|refine gC (fun hc=>?_) (fun hc=>?_)<;>try contradiction|refine gG ?_|show AK _;intro K H|refine H _ _ ?_;clear H K|refine gJ ?_;try exact trivial|omega
   have e:k=L.length:=by omega
   subst e;rw [List.take_length];exact .refl _
set_option maxRecDepth 100000
set_option linter.unusedVariables false
set_option linter.unusedSimpArgs false
set_option maxHeartbeats 8000000
def briefB (q:Req):Bool:=decide ((q.name.size:Int)≤40) && decide ((q.carrier.size:Int)≤40) && decide ((q.kind.size:Int)≤40) && decide ((q.term.size:Int)≤40) && decide ((q.partner.size:Int)≤40) && decide ((q.link.size:Int)≤40)
theorem pure1041 (q:Req):Pure Tryz.prog 51 [q.pv] (.b (briefB q)):=by
 refine zf (cF Tryz.func51 Tryz.f51.eq_1) (by simp) fun hw X hX=>?_
 have qe:=@qR;repeat' first|refine gC (fun hc=>?_) (fun hc=>?_)<;>try contradiction|refine gG ?_|show AK _;intro K H|refine H _ _ ?_;clear H K|refine gJ ?_;try exact trivial|omega
 exact .refl _
def shortB (q:Req):Bool:=briefB q && (!decide (zau q.per=0) || decide (q.per.to - q.per.fro < 14))
theorem pure1080 (q:Req):Pure Tryz.prog 85 [q.pv] (.b (shortB q)):=by
 refine zf (cF Tryz.func85 Tryz.f85.eq_1) (by simp) fun hw X hX=>?_
 by_cases hb:briefB q=true
 ·by_cases hp:zau q.per=0
  ·have h1:=zaX hp
   have e:shortB q=decide (q.per.to - q.per.fro < 14):=by simp [shortB,hb,hp]
   rw [e]
   have qe:=aI qR (aI @hb (aI @hp (aI @decide_true @Bool.not_true)));repeat' first|refine gC (fun hc=>?_) (fun hc=>?_)<;>try contradiction|refine za (pure1041 q) ?_|refine zN (fun _=>pure82 q.per) ?_|refine gG ?_|show AK _;intro K H|refine H _ _ ?_;clear H K|refine gJ ?_;try exact trivial|omega
   exact .refl _
  ·have hpf:=eq_false hp
   have e:shortB q=true:=by simp [shortB,hb,hp]
   rw [e]
   have qe:=aI qR (aI @hb (aI @hpf (aI @decide_false @Bool.not_false)));repeat' first|refine gC (fun hc=>?_) (fun hc=>?_)<;>try contradiction|refine za (pure1041 q) ?_|refine zN (fun _=>pure82 q.per) ?_|refine gG ?_|show AK _;intro K H|refine H _ _ ?_;clear H K|refine gJ ?_;try exact trivial|omega
   exact .refl _
 ·have hbf:briefB q=false:=by simpa using hb
  have e:shortB q=false:=by simp [shortB,hbf]
  rw [e]
  have qe:=aI qR @hbf;repeat' first|refine gC (fun hc=>?_) (fun hc=>?_)<;>try contradiction|refine za (pure1041 q) ?_|refine zN (fun _=>pure82 q.per) ?_|refine gG ?_|show AK _;intro K H|refine H _ _ ?_;clear H K|refine gJ ?_;try exact trivial|omega
  exact .refl _
set_option maxRecDepth 100000
set_option linter.unusedVariables false
set_option linter.unusedSimpArgs false
set_option maxHeartbeats 8000000
theorem chkRq_req {q:Req} (h:chkRq q=0):chkReq q=0:=by
 have a:=fE0 h
 have h1:zaH q.name=0:=a _ (by simp)
 have h2:optE q.term=0:=a _ (by simp)
 have h3:flightE q.kind=0:=a _ (by simp)
 have h4:zau q.per=0:=a _ (by simp)
 have h5:rng q.minute 0 1439=0:=a _ (by simp)
 have h6:=rng_0.1 (a (rng q.seats 0 999) (by simp))
 have h7:=rng_0.1 (a (rng q.size 1 9) (by simp))
 have h8:=rng_0.1 (a (rng q.noise 0 99) (by simp))
 rw [chkReq,za3 h1,za3 h3,za3 h2,za3 h4,za3 h5,fE_one]
 exact loadE_0 (by omega)
theorem chkQ_req {q:Req} (h:chkQ q=0):chkReq q=0:=chkRq_req (fE0 h _ (by simp))
end Go.Proofs.YtahmdjadnlpjoaaGreat
namespace Go.Proofs.YtahmdjadnlpjoaaGreat
open Go.RowKit Go.ChangeShapes Go.WideShapes Go.ChangeAt
set_option maxRecDepth 100000
set_option linter.unusedVariables false
set_option linter.unusedSimpArgs false
set_option maxHeartbeats 4000000
abbrev jT:CP:=.i .i64
theorem own:ownKnob Tryz.prog.godebug=none:=by kernel_rfl
theorem laid:laidOutB Tryz.prog=true:=by kernel_rfl
theorem und4:Tryz.prog.underlying 4=some .bool:=by kernel_rfl
abbrev zs:Value:=.string ⟨#[]⟩
abbrev zi:Value:=.int .i64 0
theorem joined_of {P:Program} {f:FuncId} {fn:Func} {s:ChangeSpec} {c:OpenClaim} (a1:c.wf (OpenSpec.ofChange s)=true) (a2:laidOutB P=true) (a3:mapsRowed P=true)
  (a4:(fn.params.all (P.readableRec ·) && namedTie P c.named s.vars && (c.stops == []) && (P.stops == []) && (c.knobs == []) && (P.stopKnobs == []))=true)
  (b1:(c.inPlace == P.inPlace f)=true) (b2:(c.unfollowed == P.unfollowed f)=true) (b3:(c.recurses == P.recurses f)=true) (b4:(c.named == P.varsNamed f)=true)
  (d1:((c.maps == (fn.params.toList++s.plain.varTypes P).any (P.mapsRec ·)) && (c.ifaces == (fn.params.toList++s.plain.varTypes P).any (P.ifacesRec ·)) && (c.mapsOut == P.mapsAmong fn.resultTypes.toList) &&
 (c.loops == (fn.params.toList++s.plain.varTypes P).any (P.loopsFrom ·)) && (c.wideKeys == (fn.params.toList++s.plain.varTypes P++fn.resultTypes.toList).any (P.wideKeysFrom ·)))=true)
  (d2:(s.vars.all (P.varReadable ·) && fn.resultTypes.all (fun t=>P.readableRec t && decide (t < P.types.size)) && (c.ifacesOut == fn.resultTypes.toList.any (P.ifacesRec ·)) && (c.loopsOut == fn.resultTypes.toList.any (P.loopsFrom ·)))=true)
  (d3:((c.plainKeys == P.plainKeys) && c.shortTexts.isNone && P.stopsHeard && P.mayEnter && (c.lifted == P.liftsFinal) && (P.make == some c.make))=true)
  (d4:((c.kinds == (if c.domain.isEmpty then [] else fn.params.toList.map fun t=>match P.underlying t with|some (.int k)=>some k|_=>none)) && (c.pinned == c.pinnedBy))=true)
  (d5:((c.veiled == (fn.params.toList++s.plain.varTypes P++fn.resultTypes.toList).any (P.veiledRec ·)) && c.veiledFits P fn.params.toList (fn.params.toList++s.plain.varTypes P++fn.resultTypes.toList))=true):joinedFacts P f fn s c=true:=by
 unfold joinedFacts
 simp only [Bool.and_eq_true] at a4 d1 d2 d3 d4 d5 ⊢
 obtain ⟨⟨⟨⟨⟨a4,a5⟩,a6⟩,a7⟩,a8⟩,a9⟩:=a4
 obtain ⟨⟨⟨⟨e1,e2⟩,e3⟩,e4⟩,e5⟩:=d1
 obtain ⟨⟨⟨e6,e7⟩,e8⟩,e9⟩:=d2
 obtain ⟨⟨⟨⟨⟨f1,f2⟩,f3⟩,f4⟩,f5⟩,f6⟩:=d3
 obtain ⟨f7,f8⟩:=d4
 obtain ⟨f9,g1⟩:=d5
 exact ⟨⟨⟨⟨⟨⟨⟨⟨⟨⟨⟨⟨⟨⟨⟨⟨⟨⟨⟨⟨⟨⟨⟨⟨⟨⟨⟨⟨⟨⟨⟨a1,a2⟩,a3⟩,a4⟩,a5⟩,a6⟩,a7⟩,a8⟩,a9⟩,b1⟩,b2⟩,b3⟩,b4⟩,e1⟩,e2⟩,e3⟩,e4⟩,e5⟩,e6⟩,e7⟩,e8⟩,e9⟩,f1⟩,f2⟩,f3⟩,f4⟩,f5⟩,f6⟩,f7⟩,f8⟩,f9⟩,g1⟩
theorem rowed:mapsRowed Tryz.prog=true:=by kernel_rfl
end Go.Proofs.YtahmdjadnlpjoaaGreat
namespace Go.Proofs.YtahmdjadnlpjoaaGreat
open Go.RowKit
set_option maxRecDepth 100000
set_option linter.unusedVariables false
set_option linter.unusedSimpArgs false
set_option maxHeartbeats 2000000
theorem days_sorted (p:Per):(zY p).Pairwise fun a b=>a < b:=by
 unfold zY
 generalize (p.to - p.fro+1).toNat=n
 induction n with
 | zero=>simp
 | succ n ih=>
  rw [List.range_succ,List.flatMap_append,List.pairwise_append]
  refine ⟨ih,?_,?_⟩
  ·simp only [List.flatMap_cons,List.flatMap_nil,List.append_nil];split<;>simp
  ·intro a ha b hb
   obtain ⟨k,hk,ha⟩:=List.mem_flatMap.1 ha
   have hk:=List.mem_range.1 hk
   simp only [List.flatMap_cons,List.flatMap_nil,List.append_nil] at hb
   split at ha
   ·split at hb
    ·simp at ha hb;omega
    ·cases hb
   ·cases ha
theorem movs_mem {r:Req} {o:Mov} (h:o ∈ movsL r):∃ d,d ∈ zY r.per∧o=movOf r d:=by
 obtain ⟨d,hd,rfl⟩:=List.mem_map.1 h;exact ⟨d,hd,rfl⟩
theorem chkReq_parts {r:Req} (h:chkReq r=0) {d:Int} (hd:d ∈ zY r.per):chkMov (movOf r d)=0:=by
 have hp:=zaX (chkReq_0 h).1
 have hm:=chkReq_0 h
 have hdm:=daysL_mem hd
 unfold chkReq at h
 unfold chkMov
 simp only [zq,rng_0] at h ⊢
 simp only [movOf]
 refine ⟨by omega,?_⟩
 simp only [h,true_and,and_true]
set_option maxRecDepth 100000
set_option linter.unusedVariables false
set_option linter.unusedSimpArgs false
set_option maxHeartbeats 8000000
structure Exc where
 slots:List ByteArray
 carrier:ByteArray
 slot:ByteArray
 to:ByteArray
 lease:Lea
 day:Int
abbrev Exc.pv (x:Exc):PV:=.agg [.sl 1 (x.slots.map .s),.s x.carrier,.s x.slot,.s x.to,.s x.lease.carrier,.i .i64 x.lease.fro,.i .i64 x.lease.to,.i .i64 x.day]
def okW40 (s:ByteArray):Bool:=!decide ((40:Int) < s.size)
def bigS (s:Slt):Bool:=((!shortB s.req || decide ((40:Int) < s.holder.size)) || (decide ((4:Int) < s.ls.length) && !decide ((s.ls.length:Int)=9))) || decide ((5:Int) < s.sh.length)
def okL40 (l:Lea):Bool:=okW40 l.carrier
def shSl (s:Slt):Bool:=!bigS s && (s.ls.all okL40 && s.sh.all okW40)
theorem pure1098 (s:Slt):Pure Tryz.prog 16 [s.pv] (.b (shSl s)):=by
 refine zf (cF Tryz.func16 Tryz.f16.eq_1) (by simp) fun hw X hX=>?_
 simp only [wfs,PV.wf,List.length_map,maxLen] at hw
 have qe:=@qR;repeat' first|refine gC (fun hc=>?_) (fun hc=>?_)<;>try contradiction|refine za (pure1080 s.req) ?_|refine gG ?_|show AK _;intro K H|refine H _ _ ?_;clear H K|refine gJ ?_;try exact trivial|omega
 ·have:bigS s=true:=by simpa [bigS] using hc
  rw [shSl,this];exact .refl _
 have hsh:bigS s=false:=by simpa [bigS] using hc
 refine zk (κ:=Nat) (fun i=>⟨[(1,.lp 1 0),(3,.p (.i .i64 i))],[(1,.box (s.cells.map .p) false)],[],false⟩) (fun i=>i≤s.ls.length∧∀ y ∈ s.ls.take i,okL40 y=true) (fun i=>s.ls.length - i) 0 ?_ ?_ ?_
 ·exact sS
 ·simp
 ·intro i hi
  repeat first|refine gG ?_|show AK _;intro K H|refine H _ _ ?_;clear H K|refine gJ ?_;try exact trivial|omega
  (refine gC (fun hc=>?_) (fun hc=>?_)<;>try contradiction)
  ·obtain ⟨y,hx⟩:=zn (i:=i) (l:=s.ls) (by omega)
   have qe:=aI qR @hx;repeat' first|refine gC (fun hc=>?_) (fun hc=>?_)<;>try contradiction|refine gG ?_|show AK _;intro K H|refine H _ _ ?_;clear H K|refine gJ ?_;try exact trivial|omega
   ·rw [shSl,hsh,all_no hx (by rw [okL40,okW40,decide_eq_true hc];rfl)];exact .refl _
   ·exact ⟨i+1,⟨by omega,all_next hi.2 hx (by rw [okL40,okW40,decide_eq_false (by omega)];rfl)⟩,by omega,by simp⟩
  ·have e:i=s.ls.length:=by omega
   subst e
   have ha:=all_end hi.2
   have qe:=@qR;repeat' first|refine gC (fun hc=>?_) (fun hc=>?_)<;>try contradiction|refine gG ?_|show AK _;intro K H|refine H _ _ ?_;clear H K|refine gJ ?_;try exact trivial|omega
   refine zk (κ:=Nat) (fun i=>⟨[(1,.lp 1 0),(4,.p (.i .i64 i))],[(1,.box (s.cells.map .p) false)],[],false⟩) (fun i=>i≤s.sh.length∧∀ y ∈ s.sh.take i,okW40 y=true) (fun i=>s.sh.length - i) 0 ?_ ?_ ?_
   ·exact sS
   ·simp
   ·intro i hi
    repeat first|refine gG ?_|show AK _;intro K H|refine H _ _ ?_;clear H K|refine gJ ?_;try exact trivial|omega
    (refine gC (fun hc=>?_) (fun hc=>?_)<;>try contradiction)
    ·obtain ⟨y,hx⟩:=zn (i:=i) (l:=s.sh) (by omega)
     have qe:=aI qR @hx;repeat' first|refine gC (fun hc=>?_) (fun hc=>?_)<;>try contradiction|refine gG ?_|show AK _;intro K H|refine H _ _ ?_;clear H K|refine gJ ?_;try exact trivial|omega
     ·rw [shSl,hsh,ha,all_no hx (by rw [okW40,decide_eq_true hc];rfl)];exact .refl _
     ·exact ⟨i+1,⟨by omega,all_next hi.2 hx (by rw [okW40,decide_eq_false (by omega)];rfl)⟩,by omega,by simp⟩
    ·have qe:=@qR;repeat' first|refine gC (fun hc=>?_) (fun hc=>?_)<;>try contradiction|refine gG ?_|show AK _;intro K H|refine H _ _ ?_;clear H K|refine gJ ?_;try exact trivial|omega
     have e:i=s.sh.length:=by omega
     subst e
     rw [shSl,hsh,ha,all_end hi.2];exact .refl _
def bigB (b:Bk):Bool:=(decide ((5:Int) < b.slots.length) && !decide ((b.slots.length:Int)=65)) || (decide ((5:Int) < b.wait.length) && !decide ((b.wait.length:Int)=65))
def okWs (w:Wsh):Bool:=shortB w.req
def shBk (b:Bk):Bool:=!bigB b && (b.slots.all shSl && b.wait.all okWs)
theorem pure1033 (b:Bk):Pure Tryz.prog 15 [b.pv] (.b (shBk b)):=by
 refine zf (cF Tryz.func15 Tryz.f15.eq_1) (by simp) fun hw X hX=>?_
 simp only [wfs,PV.wf,List.length_map,maxLen] at hw
 have qe:=@qR;repeat' first|refine gC (fun hc=>?_) (fun hc=>?_)<;>try contradiction|refine gG ?_|show AK _;intro K H|refine H _ _ ?_;clear H K|refine gJ ?_;try exact trivial|omega
 ·have:bigB b=true:=by simpa [bigB] using hc
  rw [shBk,this];exact .refl _
 have hsh:bigB b=false:=by simpa [bigB] using hc
 refine zk (κ:=Nat) (fun i=>⟨[(1,.lp 1 0),(3,.p (.i .i64 i))],[(1,.box [.p (.sl 16 (b.slots.map Slt.pv)),.p (.sl 14 (b.wait.map Wsh.pv))] false)],[],false⟩) (fun i=>i≤b.slots.length∧∀ y ∈ b.slots.take i,shSl y=true) (fun i=>b.slots.length - i) 0 ?_ ?_ ?_
 ·exact sS
 ·simp
 ·intro i hi
  repeat first|refine gG ?_|show AK _;intro K H|refine H _ _ ?_;clear H K|refine gJ ?_;try exact trivial|omega
  (refine gC (fun hc=>?_) (fun hc=>?_)<;>try contradiction)
  ·obtain ⟨y,hx⟩:=zn (i:=i) (l:=b.slots) (by omega)
   have qe:=aI qR @hx;repeat' first|refine gC (fun hc=>?_) (fun hc=>?_)<;>try contradiction|refine za (pure1098 y) ?_|refine gG ?_|show AK _;intro K H|refine H _ _ ?_;clear H K|refine gJ ?_;try exact trivial|omega
   ·rw [shBk,hsh,all_no hx hc];exact .refl _
   ·exact ⟨i+1,⟨by omega,all_next hi.2 hx hc⟩,by omega,by simp⟩
  ·have e:i=b.slots.length:=by omega
   subst e
   have ha:=all_end hi.2
   have qe:=@qR;repeat' first|refine gC (fun hc=>?_) (fun hc=>?_)<;>try contradiction|refine gG ?_|show AK _;intro K H|refine H _ _ ?_;clear H K|refine gJ ?_;try exact trivial|omega
   refine zk (κ:=Nat) (fun i=>⟨[(1,.lp 1 0),(4,.p (.i .i64 i))],[(1,.box [.p (.sl 16 (b.slots.map Slt.pv)),.p (.sl 14 (b.wait.map Wsh.pv))] false)],[],false⟩) (fun i=>i≤b.wait.length∧∀ y ∈ b.wait.take i,okWs y=true) (fun i=>b.wait.length - i) 0 ?_ ?_ ?_
   ·exact sS
   ·simp
   ·intro i hi
    repeat first|refine gG ?_|show AK _;intro K H|refine H _ _ ?_;clear H K|refine gJ ?_;try exact trivial|omega
    (refine gC (fun hc=>?_) (fun hc=>?_)<;>try contradiction)
    ·obtain ⟨y,hx⟩:=zn (i:=i) (l:=b.wait) (by omega)
     have qe:=aI qR @hx;repeat' first|refine gC (fun hc=>?_) (fun hc=>?_)<;>try contradiction|refine za (pure1080 y.req) ?_|refine gG ?_|show AK _;intro K H|refine H _ _ ?_;clear H K|refine gJ ?_;try exact trivial|omega
     ·rw [shBk,hsh,ha,all_no hx (by rw [okWs];exact hc)];exact .refl _
     ·exact ⟨i+1,⟨by omega,all_next hi.2 hx (by rw [okWs];exact hc)⟩,by omega,by simp⟩
    ·have qe:=@qR;repeat' first|refine gC (fun hc=>?_) (fun hc=>?_)<;>try contradiction|refine gG ?_|show AK _;intro K H|refine H _ _ ?_;clear H K|refine gJ ?_;try exact trivial|omega
     have e:i=b.wait.length:=by omega
     subst e
     rw [shBk,hsh,ha,all_end hi.2];exact .refl _
set_option maxRecDepth 100000
set_option linter.unusedVariables false
set_option linter.unusedSimpArgs false
set_option maxHeartbeats 8000000
theorem fE_snoc (l:List Int) (x:Int):zg (l++[x])=if zg l=0 then x else zg l:=by rw [fE_app,fE_one]
theorem fE_pre {l:List Int} {i:Nat} (h:zg (l.take i)≠0):zg l=zg (l.take i):=by
 have:=fE_app (l.take i) (l.drop i)
 rw [List.take_append_drop,if_neg h] at this;exact this
theorem fE_all {l:List Int} {i:Nat} {e a:Int} (he:e=zg (a::l.take i)) (h:i < l.length→e≠0):e=zg (a::l):=by
 by_cases hi:i < l.length
 ·have h1:=h hi
  rw [he] at h1 ⊢
  exact (fE_pre (l:=a::l) (i:=i+1) h1).symm
 ·rw [he,List.take_of_length_le (by omega)]
theorem fE_step {l:List Int} {i:Nat} {a e x:Int} (he:e=zg (a::l.take i)) (h0:e=0) (hx:l[i]?=some x):x=zg (a::l.take (i+1)):=by
 rw [zan hx]
 have:=fE_snoc (a::l.take i) x
 rw [←he,if_pos h0] at this;exact this.symm
def chkS1 (s:Slt):Int:=zg [chkQ s.req,zaH s.holder,if 8 < (s.ls.length:Int) then 5 else 0]
def chkS2 (s:Slt):Int:=zg (chkS1 s::s.ls.mapIdx (leaErr s))
def chkS3 (s:Slt):Int:=zg [chkS2 s,if 4 < (s.sh.length:Int) then 5 else 0]
theorem fE_out (a:Int) (l:List Int):zg [a,zg l]=zg (a::l):=by
 by_cases h:a=0
 ·rw [za3 h,za3 h,fE_one]
 ·rw [za2 h,za2 h]
theorem fE_cat (l r:List Int):zg (zg l::r)=zg (l++r):=by
 rw [fE_app]
 by_cases h:zg l=0
 ·rw [za3 h,if_pos h]
 ·rw [za2 h,if_neg h]
theorem chkS_all (s:Slt):chkSlt s=zg (chkS3 s::s.sh.mapIdx (shaErr s)):=by
 rw [chkS3,fE_cat,List.cons_append,List.cons_append,List.nil_append,chkS2,fE_cat,List.cons_append,chkS1,fE_cat,chkSlt]
 rw [fE_app [_,_,_]]
 have e:zg [zg (s.ls.mapIdx (leaErr s)),if 4 < (s.sh.length:Int) then 5 else 0,zg (s.sh.mapIdx (shaErr s))]=zg (s.ls.mapIdx (leaErr s)++(if 4 < (s.sh.length:Int) then 5 else 0)::s.sh.mapIdx (shaErr s)):=by
  rw [fE_cat,fE_app,fE_app (s.ls.mapIdx (leaErr s)),fE_out]
 rw [←e]
 exact fE_app [_,_,_] [_,_,_]
abbrev stS (s:Slt) (e:Int):St:=⟨[(1,.lp 1 0),(3,.p (.i .i64 e))],[(1,.box (s.cells.map .p) false)],[],false⟩
theorem pure1092 (s:Slt):Pure Tryz.prog 27 [s.pv] (.i .i64 (chkSlt s)):=by
 refine zf (cF Tryz.func27 Tryz.f27.eq_1) (by simp) fun hw X hX=>?_
 simp only [wfs,PV.wf,List.length_map,maxLen] at hw
 have hS1:chkS1 s=if zg [chkQ s.req,zaH s.holder]=0 then (if 8 < (s.ls.length:Int) then 5 else 0) else zg [chkQ s.req,zaH s.holder]:=fE_snoc [_,_] _
 have hS3:chkS3 s=if chkS2 s=0 then (if 4 < (s.sh.length:Int) then 5 else 0) else chkS2 s:=by
  have:=fE_snoc [chkS2 s] (if 4 < (s.sh.length:Int) then 5 else 0)
  rw [fE_one] at this;exact this
 have qe:=@qR;repeat' first|refine za (pure1044 s.req) ?_|refine za (pure1133 s.holder) ?_|refine za (pure1024 [_,_]) ?_|refine gG ?_|show AK _;intro K H|refine H _ _ ?_;clear H K|refine gJ ?_;try exact trivial|omega
 refine run_cut (stS s (chkS1 s)) ?_ ?_
 ·(refine gC (fun hc=>?_) (fun hc=>?_)<;>try contradiction)
  ·rw [hS1,if_pos hc.1,if_pos hc.2]
   repeat' first|refine gC (fun hc=>?_) (fun hc=>?_)<;>try contradiction|refine gG ?_|show AK _;intro K H|refine H _ _ ?_;clear H K|refine gJ ?_;try exact trivial|omega
   all_goals (show Cov _ _;simp only [qS,Nat.reduceAdd,Nat.reduceMul,Nat.reduceEqDiff,Nat.reduceLeDiff,reduceIte,reduceCtorEq,Nat.reduceBEq,Nat.reduceLT]<;>simp)
  ·have e:chkS1 s=zg [chkQ s.req,zaH s.holder]:=by
    rw [hS1];split
    ·rename_i h;rw [if_neg (by have:=hc h;omega),h]
    ·rfl
   rw [e]
   repeat' first|refine gC (fun hc=>?_) (fun hc=>?_)<;>try contradiction|refine gG ?_|show AK _;intro K H|refine H _ _ ?_;clear H K|refine gJ ?_;try exact trivial|omega
   all_goals (show Cov _ _;simp only [qS,Nat.reduceAdd,Nat.reduceMul,Nat.reduceEqDiff,Nat.reduceLeDiff,reduceIte,reduceCtorEq,Nat.reduceBEq,Nat.reduceLT]<;>simp)
 refine run_seq (run_cut (stS s (chkS2 s)) ?_ ?_)
 ·repeat' first|refine gC (fun hc=>?_) (fun hc=>?_)<;>try contradiction|refine gG ?_|show AK _;intro K H|refine H _ _ ?_;clear H K|refine gJ ?_;try exact trivial|omega
  refine zk (κ:=Nat × Int) (fun k=>⟨[(1,.lp 1 0),(3,.p (.i .i64 k.2)),(4,.p (.i .i64 k.1))],[(1,.box (s.cells.map .p) false)],[],false⟩) (fun k=>k.1≤s.ls.length∧k.2=zg (chkS1 s::(s.ls.mapIdx (leaErr s)).take k.1)) (fun k=>s.ls.length - k.1) (0,chkS1 s) ?_ ?_ ?_
  ·exact sS
  ·simp [fE_one]
  ·rintro ⟨i,e⟩ ⟨hi,he⟩
   simp only at hi he
   repeat first|refine gG ?_|show AK _;intro K H|refine H _ _ ?_;clear H K|refine gJ ?_;try exact trivial|omega
   (refine gC (fun hc=>?_) (fun hc=>?_)<;>try contradiction)
   ·obtain ⟨h1,h2⟩:=hc
    obtain ⟨x,hx⟩:=zn (i:=i) (l:=s.ls) (by omega)
    obtain ⟨y,hy⟩:=zn (i:=i - 1) (l:=s.ls) (by omega)
    have e1:((i:Int) - 1).toNat=i - 1:=by omega
    have hl:leaErr s i x=if zg [chkLea x,leaOf s.raw x]=0 then (if 0 < (i:Int)∧x.fro≤y.to then 15 else 0) else zg [chkLea x,leaOf s.raw x]:=by
     rw [leaErr,hy];exact fE_snoc [_,_] _
    have hn:=fE_step he h2 (zI (f:=leaErr s) hx)
    by_cases c1:zg [chkLea x,leaOf s.raw x]=0
    ·have c1':=eq_true c1
     rw [if_pos c1] at hl
     by_cases c2:0 < (i:Int)
     ·have c2':=eq_true c2
      by_cases c3:x.fro≤y.to
      ·have c3':=eq_true c3
       rw [if_pos ⟨c2,c3⟩] at hl
       rw [hl] at hn
       have qe:=aI qR (aI @hx (aI @hy (aI @e1 (aI @c1' (aI @c2' (aI @c3' @decide_true))))));repeat' first|refine gC (fun hc=>?_) (fun hc=>?_)<;>try contradiction|refine za (pure1131 x) ?_|refine za (pure1132 s x) ?_|refine za (pure1024 [_,_]) ?_|refine gG ?_|show AK _;intro K H|refine H _ _ ?_;clear H K|refine gJ ?_;try exact trivial|omega
       all_goals exact ⟨(i+1,15),⟨by omega,hn⟩,by simp;omega,by simp⟩
      ·have c3':=eq_false c3
       rw [if_neg (fun k=>c3 k.2)] at hl
       rw [hl] at hn
       have qe:=aI qR (aI @hx (aI @hy (aI @e1 (aI @c1' (aI @c2' (aI @c3' (aI @decide_true @decide_false)))))));repeat' first|refine gC (fun hc=>?_) (fun hc=>?_)<;>try contradiction|refine za (pure1131 x) ?_|refine za (pure1132 s x) ?_|refine za (pure1024 [_,_]) ?_|refine gG ?_|show AK _;intro K H|refine H _ _ ?_;clear H K|refine gJ ?_;try exact trivial|omega
       all_goals exact ⟨(i+1,zg [chkLea x,leaOf s.raw x]),⟨by omega,by rw [c1];exact hn⟩,by simp;omega,by simp⟩
     ·have c2':=eq_false c2
      rw [if_neg (fun k=>c2 k.1)] at hl
      rw [hl] at hn
      have qe:=aI qR (aI @hx (aI @hy (aI @e1 (aI @c1' (aI @c2' (aI @decide_true @decide_false))))));repeat' first|refine gC (fun hc=>?_) (fun hc=>?_)<;>try contradiction|refine za (pure1131 x) ?_|refine za (pure1132 s x) ?_|refine za (pure1024 [_,_]) ?_|refine gG ?_|show AK _;intro K H|refine H _ _ ?_;clear H K|refine gJ ?_;try exact trivial|omega
      all_goals exact ⟨(i+1,zg [chkLea x,leaOf s.raw x]),⟨by omega,by rw [c1];exact hn⟩,by simp;omega,by simp⟩
    ·have c1':=eq_false c1
     rw [if_neg c1] at hl
     rw [hl] at hn
     have qe:=aI qR (aI @hx (aI @hy (aI @e1 (aI @c1' @decide_false))));repeat' first|refine gC (fun hc=>?_) (fun hc=>?_)<;>try contradiction|refine za (pure1131 x) ?_|refine za (pure1132 s x) ?_|refine za (pure1024 [_,_]) ?_|refine gG ?_|show AK _;intro K H|refine H _ _ ?_;clear H K|refine gJ ?_;try exact trivial|omega
     all_goals exact ⟨(i+1,zg [chkLea x,leaOf s.raw x]),⟨by omega,hn⟩,by simp;omega,by simp⟩
   ·have hf:=fE_all he (fun h=>hc (by simpa using h))
    repeat' first|refine gC (fun hc=>?_) (fun hc=>?_)<;>try contradiction|refine gG ?_|show AK _;intro K H|refine H _ _ ?_;clear H K|refine gJ ?_;try exact trivial|omega
    all_goals (show Cov _ _;simp only [qS,Nat.reduceAdd,Nat.reduceMul,Nat.reduceEqDiff,Nat.reduceLeDiff,reduceIte,reduceCtorEq,Nat.reduceBEq,Nat.reduceLT,hf]<;>simp [chkS2])
 repeat' first|refine gG ?_|show AK _;intro K H|refine H _ _ ?_;clear H K|refine gJ ?_;try exact trivial|omega
 refine run_cut (stS s (chkS3 s)) ?_ ?_
 ·(refine gC (fun hc=>?_) (fun hc=>?_)<;>try contradiction)
  ·rw [hS3,if_pos hc.1,if_pos hc.2]
   repeat' first|refine gC (fun hc=>?_) (fun hc=>?_)<;>try contradiction|refine gG ?_|show AK _;intro K H|refine H _ _ ?_;clear H K|refine gJ ?_;try exact trivial|omega
   all_goals (show Cov _ _;simp only [qS,Nat.reduceAdd,Nat.reduceMul,Nat.reduceEqDiff,Nat.reduceLeDiff,reduceIte,reduceCtorEq,Nat.reduceBEq,Nat.reduceLT]<;>simp)
  ·have e:chkS3 s=chkS2 s:=by
    rw [hS3];split
    ·rename_i h;rw [if_neg (by have:=hc h;omega),h]
    ·rfl
   rw [e]
   repeat' first|refine gC (fun hc=>?_) (fun hc=>?_)<;>try contradiction|refine gG ?_|show AK _;intro K H|refine H _ _ ?_;clear H K|refine gJ ?_;try exact trivial|omega
   all_goals (show Cov _ _;simp only [qS,Nat.reduceAdd,Nat.reduceMul,Nat.reduceEqDiff,Nat.reduceLeDiff,reduceIte,reduceCtorEq,Nat.reduceBEq,Nat.reduceLT]<;>simp)
 repeat' first|refine gC (fun hc=>?_) (fun hc=>?_)<;>try contradiction|refine gG ?_|show AK _;intro K H|refine H _ _ ?_;clear H K|refine gJ ?_;try exact trivial|omega
 refine zk (κ:=Nat × Int) (fun k=>⟨[(1,.lp 1 0),(3,.p (.i .i64 k.2)),(5,.p (.i .i64 k.1))],[(1,.box (s.cells.map .p) false)],[],false⟩) (fun k=>k.1≤s.sh.length∧k.2=zg (chkS3 s::(s.sh.mapIdx (shaErr s)).take k.1)) (fun k=>s.sh.length - k.1) (0,chkS3 s) ?_ ?_ ?_
 ·exact sS
 ·simp [fE_one]
 ·rintro ⟨i,e⟩ ⟨hi,he⟩
  simp only at hi he
  repeat first|refine gG ?_|show AK _;intro K H|refine H _ _ ?_;clear H K|refine gJ ?_;try exact trivial|omega
  (refine gC (fun hc=>?_) (fun hc=>?_)<;>try contradiction)
  ·obtain ⟨h1,h2⟩:=hc
   obtain ⟨x,hx⟩:=zn (i:=i) (l:=s.sh) (by omega)
   have hn:=fE_step he h2 (zI (f:=shaErr s) hx)
   have e31:((31:Int)=0)=False:=eq_false (by omega)
   by_cases d1:zaH x=0
   ·have d1':=eq_true d1
    by_cases d2:x=s.holder
    ·have d2':=eq_true d2
     have hv:shaErr s i x=31:=by rw [shaErr,za3 d1,if_pos d2,za2 (by omega)]
     rw [hv] at hn
     have qe:=aI qR (aI @hx (aI @take_map (aI @d1' (aI @d2' (aI @e31 (aI @decide_true @decide_false))))));repeat' first|refine gC (fun hc=>?_) (fun hc=>?_)<;>try contradiction|refine za (pure1133 x) ?_|refine zN (fun _=>pure1074 (s.sh.take i) x) ?_|refine gG ?_|show AK _;intro K H|refine H _ _ ?_;clear H K|refine gJ ?_;try exact trivial|omega
     all_goals exact ⟨(i+1,31),⟨by omega,hn⟩,by simp;omega,by simp⟩
    ·have d2':=eq_false d2
     by_cases d3:0≤atL x (s.sh.take i)
     ·have d3':=eq_true d3
      have hv:shaErr s i x=9:=by rw [shaErr,za3 d1,if_neg d2,za3 rfl,fE_one,if_pos d3]
      rw [hv] at hn
      have qe:=aI qR (aI @hx (aI @take_map (aI @d1' (aI @d2' (aI @d3' (aI @decide_true @decide_false))))));repeat' first|refine gC (fun hc=>?_) (fun hc=>?_)<;>try contradiction|refine za (pure1133 x) ?_|refine zN (fun _=>pure1074 (s.sh.take i) x) ?_|refine gG ?_|show AK _;intro K H|refine H _ _ ?_;clear H K|refine gJ ?_;try exact trivial|omega
      all_goals exact ⟨(i+1,9),⟨by omega,hn⟩,by simp;omega,by simp⟩
     ·have d3':=eq_false d3
      have hv:shaErr s i x=0:=by rw [shaErr,za3 d1,if_neg d2,za3 rfl,fE_one,if_neg d3]
      rw [hv] at hn
      have qe:=aI qR (aI @hx (aI @take_map (aI @d1' (aI @d2' (aI @d3' (aI @decide_true @decide_false))))));repeat' first|refine gC (fun hc=>?_) (fun hc=>?_)<;>try contradiction|refine za (pure1133 x) ?_|refine zN (fun _=>pure1074 (s.sh.take i) x) ?_|refine gG ?_|show AK _;intro K H|refine H _ _ ?_;clear H K|refine gJ ?_;try exact trivial|omega
      all_goals exact ⟨(i+1,zaH x),⟨by omega,by rw [d1];exact hn⟩,by simp;omega,by simp⟩
   ·have d1':=eq_false d1
    have hv:shaErr s i x=zaH x:=by rw [shaErr,za2 d1]
    rw [hv] at hn
    have qe:=aI qR (aI @hx (aI @take_map (aI @d1' @decide_false)));repeat' first|refine gC (fun hc=>?_) (fun hc=>?_)<;>try contradiction|refine za (pure1133 x) ?_|refine zN (fun _=>pure1074 (s.sh.take i) x) ?_|refine gG ?_|show AK _;intro K H|refine H _ _ ?_;clear H K|refine gJ ?_;try exact trivial|omega
    all_goals exact ⟨(i+1,zaH x),⟨by omega,hn⟩,by simp;omega,by simp⟩
  ·have hf:=fE_all he (fun h=>hc (by simpa using h))
   rw [chkS_all,←hf]
   repeat' first|refine gC (fun hc=>?_) (fun hc=>?_)<;>try contradiction|refine gG ?_|show AK _;intro K H|refine H _ _ ?_;clear H K|refine gJ ?_;try exact trivial|omega
   all_goals exact .refl _
end Go.Proofs.YtahmdjadnlpjoaaGreat
