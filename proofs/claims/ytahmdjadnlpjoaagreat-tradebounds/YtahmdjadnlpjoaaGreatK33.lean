/- Contracts of functions that the proof uses, shared by the claims of this seat; no statement of its own. Part 61. No conditions. -/
import Derived.Test.YtahmdjadnlpjoaaGreatK32
set_option linter.all false
set_option maxHeartbeats 8000000
namespace Go.Proofs.YtahmdjadnlpjoaaGreat
open Go.RowKit
set_option maxRecDepth 100000
set_option linter.unusedVariables false
set_option linter.unusedSimpArgs false
set_option maxHeartbeats 8000000
structure Rfs where
 name:ByteArray
 lim:Int
 mom:Int
abbrev Rfs.pv (r:Rfs):PV:=.agg [.s r.name,.i .i64 r.lim,.i .i64 r.mom]
def refM (f:Mov→List Win) (n:ByteArray):List Mov→List Rfs
 | []=>[]
 | m::r=>match f m with
  | []=>refM f n r
  | x::_=>[⟨n,x.lim,x.beg⟩]
theorem refM_hit {f:Mov→List Win} {n:ByteArray} {x:Win} {r:List Win}:∀ {L:List Mov} {i:Nat} {m:Mov},(∀ y ∈ L.take i,f y=[])→L[i]?=some m→f m=x::r→refM f n L=[⟨n,x.lim,x.beg⟩]
 | [],i,m,_,h,_=>by simp at h
 | y::l,0,m,_,h,hf=>by simp at h;subst h;rw [refM,hf]
 | y::l,i+1,m,ha,h,hf=>by
  rw [refM,ha y (by simp)]
  exact refM_hit (i:=i) (fun z hz=>ha z (by simp [hz])) (by simpa using h) hf
theorem refM_end {f:Mov→List Win} {n:ByteArray}:∀ {L:List Mov},(∀ y ∈ L,f y=[])→refM f n L=[]
 | [],_=>rfl
 | y::l,ha=>by rw [refM,ha y (by simp)];exact refM_end fun z hz=>ha z (by simp [hz])
theorem refM_len {f:Mov→List Win} {n:ByteArray}:∀ {L:List Mov},(refM f n L).length≤1
 | []=>by simp [refM]
 | y::l=>by
  rw [refM]
  split
  ·exact refM_len
  ·simp
theorem movR_len (r:Req):(movR r).length≤401:=by
 rw [movR]
 split
 ·rename_i h
  have h1:=daysL_len r.per
  have h2:=zaX (chkReq_0 h).1
  rw [movsL,List.length_map];omega
 ·simp
def allM (b:Bk):List Mov:=mvF (rqW (b.slots.map (·.req)) (-1))
def refW (l:List Lim) (b:Bk) (w:Wsh):List Rfs:=refM (fullR l (allM b)) w.req.name (movR w.req)
def refK (l:List Lim) (b:Bk) (k:Nat):List Rfs:=(b.wait.take k).flatMap (refW l b)
def refL (l:List Lim) (b:Bk):List Rfs:=if lbE l b=0 then b.wait.flatMap (refW l b) else []
theorem refK_next {l:List Lim} {b:Bk} {k:Nat} {w:Wsh} (h:b.wait[k]?=some w):refK l b (k+1)=refK l b k++refW l b w:=by
 rw [refK,zan h,List.flatMap_append];simp [refK]
theorem refK_len (l:List Lim) (b:Bk):∀ k,(refK l b k).length≤k
 | 0=>by simp [refK]
 | k+1=>by
  have ih:=refK_len l b k
  by_cases h:k < b.wait.length
  ·obtain ⟨w,hw⟩:=zn h
   rw [refK_next hw,List.length_append]
   have:(refW l b w).length≤1:=refM_len
   omega
  ·have e:refK l b (k+1)=refK l b k:=by rw [refK,refK,List.take_of_length_le (by omega),List.take_of_length_le (by omega)]
   rw [e];omega
theorem pure1022 (l:List Lim) (b:Bk):Pure Tryz.prog 35 [.sl 11 (l.map Lim.pv),b.pv] (.tup [.sl 3 ((refL l b).map Rfs.pv),.i .i64 (lbE l b)]):=by
 by_cases h:lbE l b=0
 ·have e1:(zg [z3 l,zG b]=0)=True:=eq_true h
  have hbl:=chkBk_len (fE0 h (zG b) (by simp))
  rw [refL,if_pos h,h]
  refine zf (cF Tryz.func35 Tryz.f35.eq_1) (by simp) fun hw X hX=>?_
  have hall:mvF (rqW (b.slots.map (·.req)) (-1))=allM b:=rfl
  have qe:=aI qR (aI @qN (aI @e1 @hall));repeat' first|refine gC (fun hc=>?_) (fun hc=>?_)<;>try contradiction|refine za (pure22 l) ?_|refine za (zX b) ?_|refine za (zz [_,_]) ?_|refine za (pure1089 b.slots b.wait (-1) (by omega)) ?_|refine gG ?_|show AK _;intro K H|refine H _ _ ?_;clear H K|refine gJ ?_;try exact trivial|omega
  refine zaO 100 90 3 [(0,.p (.sl 11 (l.map Lim.pv))),(7,.row 100 0),(8,.p (.sl 7 ((allM b).map Mov.pv))),(29,.p (.sl 14 (b.wait.map Wsh.pv))),(30,.p (.i .i64 b.wait.length)),(31,.p (.i .i64 0))] [] ?_ ?_
  ·simp only [Own,zaL,zaB,zbt,zay,qS,Nat.reduceAdd,Nat.reduceMul,Nat.reduceEqDiff,Nat.reduceLeDiff,reduceIte,reduceCtorEq,Nat.reduceBEq,Nat.reduceLT]<;>simp
  refine zk (κ:=Nat) (fun k=>⟨[(0,.p (.sl 11 (l.map Lim.pv))),(7,.row 100 (refK l b k).length),(8,.p (.sl 7 ((allM b).map Mov.pv))),(29,.p (.sl 14 (b.wait.map Wsh.pv))),(30,.p (.i .i64 b.wait.length)),(31,.p (.i .i64 k))],[(100,.row 90 3 ((refK l b k).map Rfs.pv) false)],[],false⟩) (fun k=>k≤b.wait.length) (fun k=>b.wait.length - k) 0 ?_ ?_ ?_
  ·refine gJ ?_;simp [refK]
  ·simp
  ·intro k hk
   have hkl:=refK_len l b k
   repeat first|refine gG ?_|show AK _;intro K H|refine H _ _ ?_;clear H K|refine gJ ?_;try exact trivial|omega
   (refine gC (fun hc=>?_) (fun hc=>?_)<;>try contradiction)
   ·obtain ⟨w,hw⟩:=zn (i:=k) (l:=b.wait) (by omega)
    have hnx:=refK_next (l:=l) hw
    rw [refW] at hnx
    have hkl1:=refK_len l b (k+1)
    have hml:=movR_len w.req
    have qe:=aI qR @hw;repeat' first|refine gC (fun hc=>?_) (fun hc=>?_)<;>try contradiction|refine za (pure19 w.req) ?_|refine gG ?_|show AK _;intro K H|refine H _ _ ?_;clear H K|refine gJ ?_;try exact trivial|omega
    refine zk (κ:=Nat) (fun i=>⟨[(0,.p (.sl 11 (l.map Lim.pv))),(7,.row 100 (refK l b k).length),(8,.p (.sl 7 ((allM b).map Mov.pv))),(10,.lp 10 0),(29,.p (.sl 14 (b.wait.map Wsh.pv))),(30,.p (.i .i64 b.wait.length)),(31,.p (.i .i64 k)),(41,.p (.sl 7 ((movR w.req).map Mov.pv))),(42,.p (.i .i64 (movR w.req).length)),(43,.p (.i .i64 i))],[(10,.box (w.cells.map .p) false),(100,.row 90 3 ((refK l b k).map Rfs.pv) false)],[],false⟩) (fun i=>i≤(movR w.req).length∧∀ y ∈ (movR w.req).take i,fullR l (allM b) y=[]) (fun i=>(movR w.req).length - i) 0 ?_ ?_ ?_
    ·exact sS
    ·simp
    ·intro i hi
     repeat first|refine gG ?_|show AK _;intro K H|refine H _ _ ?_;clear H K|refine gJ ?_;try exact trivial|omega
     (refine gC (fun hc=>?_) (fun hc=>?_)<;>try contradiction)
     ·obtain ⟨m,hm⟩:=zn (i:=i) (l:=movR w.req) (by omega)
      rcases hf:fullR l (allM b) m with _|⟨x,r⟩
      ·have qe:=aI qR (aI @hm @hf);repeat' first|refine gC (fun hc=>?_) (fun hc=>?_)<;>try contradiction|refine za (pure44 l (allM b) m) ?_|refine gG ?_|show AK _;intro K H|refine H _ _ ?_;clear H K|refine gJ ?_;try exact trivial|omega
       exact ⟨i+1,⟨by omega,fun y hy=>by
        rw [zan hm,List.mem_append,List.mem_singleton] at hy
        rcases hy with hy|rfl
        ·exact hi.2 y hy
        ·exact hf⟩,by omega,rfl⟩
      ·have hR:=refM_hit (n:=w.req.name) hi.2 hm hf
       have qe:=aI qR (aI @hm @hf);repeat' first|refine gC (fun hc=>?_) (fun hc=>?_)<;>try contradiction|refine za (pure44 l (allM b) m) ?_|refine gG ?_|show AK _;intro K H|refine H _ _ ?_;clear H K|refine gJ ?_;try exact trivial|omega
       exact ⟨k+1,by omega,by omega,⟨by rw [hnx,hR];simp,rfl⟩,by rw [hnx,hR];simp⟩
     ·have e:i=(movR w.req).length:=by omega
      rw [e,List.take_length] at hi
      have hR:=refM_end (n:=w.req.name) hi.2
      have qe:=@qR;repeat' first|refine gC (fun hc=>?_) (fun hc=>?_)<;>try contradiction|refine gG ?_|show AK _;intro K H|refine H _ _ ?_;clear H K|refine gJ ?_;try exact trivial|omega
      exact ⟨k+1,by omega,by omega,⟨by rw [hnx,hR];simp,rfl⟩,by rw [hnx,hR];simp⟩
   ·have e:k=b.wait.length:=by omega
    subst e
    have qe:=@qR;repeat' first|refine gC (fun hc=>?_) (fun hc=>?_)<;>try contradiction|refine gG ?_|show AK _;intro K H|refine H _ _ ?_;clear H K|refine gJ ?_;try exact trivial|omega
    rw [refK,List.take_length];exact .refl _
 ·have e1:(zg [z3 l,zG b]=0)=False:=eq_false h
  rw [refL,if_neg h]
  refine zat (r:=.tup [.nilsl,.i .i64 (lbE l b)]) ?_ (.tup ⟨.nilsl _,.refl _,trivial⟩)
  refine zf (cF Tryz.func35 Tryz.f35.eq_1) (by simp) fun hw X hX=>?_
  have qe:=aI qR (aI @qN @e1);repeat' first|refine gC (fun hc=>?_) (fun hc=>?_)<;>try contradiction|refine za (pure22 l) ?_|refine za (zX b) ?_|refine za (zz [_,_]) ?_|refine gG ?_|show AK _;intro K H|refine H _ _ ?_;clear H K|refine gJ ?_;try exact trivial|omega
  exact .refl _
end Go.Proofs.YtahmdjadnlpjoaaGreat
