/- Contracts of functions that the proof uses, shared by the claims of this seat; no statement of its own. Part 53. No conditions. -/
import Derived.Test.YtahmdjadnlpjoaaGreatK27
import Derived.Test.YtahmdjadnlpjoaaGreatK8
import Derived.Test.YtahmdjadnlpjoaaGreatK16
import Derived.Test.YtahmdjadnlpjoaaGreatK25
import Derived.Test.YtahmdjadnlpjoaaGreatK26
set_option linter.all false
set_option maxHeartbeats 8000000
namespace Go.Proofs.YtahmdjadnlpjoaaGreat
open Go.RowKit
set_option maxRecDepth 100000
set_option linter.unusedVariables false
set_option linter.unusedSimpArgs false
set_option maxHeartbeats 8000000
theorem pure1287 (n:Int) (h0:0≤n) (h1:n < 256):Pure Tryz.prog 296 [.i .u64 n] .any:=by
 refine zf (cF Tryz.func296 Tryz.f296.eq_1) (by simp) fun hw X hX=>?_
 have hw8:IntKind.u8.wrap n=n:=by simp [IntKind.wrap,IntKind.bits,IntKind.signed];omega
 repeat' first|refine gC (fun hc=>?_) (fun hc=>?_)<;>try contradiction|refine gG ?_|show AK _;intro K H|refine H _ _ ?_;clear H K|refine gJ ?_;try exact trivial|omega
 refine ⟨⟨by rw [hw8];exact h0,by rw [hw8];exact Int.lt_of_lt_of_le h1 (by decide +kernel)⟩,?_⟩
 repeat' first|refine gC (fun hc=>?_) (fun hc=>?_)<;>try contradiction|refine gG ?_|show AK _;intro K H|refine H _ _ ?_;clear H K|refine gJ ?_;try exact trivial|omega
 exact .any _
theorem pure1231 (n:Int) (h0:0≤n) (h1:n < 256):Pure Tryz.prog 251 [.i .u64 n] .any:=by
 refine zf (cF Tryz.func251 Tryz.f251.eq_1) (by simp) fun hw X hX=>?_
 repeat' first|refine gC (fun hc=>?_) (fun hc=>?_)<;>try contradiction|refine za (pure1287 n h0 h1) ?_|refine gG ?_|show AK _;intro K H|refine H _ _ ?_;clear H K|refine gJ ?_;try exact trivial|omega
 exact .refl _
theorem acts1241 {f:Nat} {c:Lea→Lea→Int} (hf:∀ a b:Lea,Pure Tryz.prog f [a.pv,b.pv] (.i .i64 (c a b))) (L:List Lea) (v:PV) (hn:L.length≤12):Acts Tryz.prog 257 [.row 900 L.length,.p (.i .i64 0),.p (.i .i64 L.length),.p v,.p (.fn (.func f) [] [])] [(900,.row 102 3 (L.map Lea.pv) false)] (.p (.tup [])) [(900,.row 102 3 ((zbM c L).map Lea.pv) false)]:=by
 have hsl:=zH c L
 refine zS (cF Tryz.func257 Tryz.f257.eq_1) (by simp) (by simp [scPs,scP,zl]) (by simp [scObj]) ⟨rfl,trivial⟩ (by simp [scObj]) (by simp [FolL,zl,zH]) fun X hX=>?_
 unfold zD ghO
 have qe:=aI qR @gLV.eq_2;repeat' first|refine gC (fun hc=>?_) (fun hc=>?_)<;>try contradiction|refine gG ?_|show AK _;intro K H|refine H _ _ ?_;clear H K|refine gJ ?_;try exact trivial|omega
 refine zk (κ:=Unit) (fun _=>⟨[(0,.row 900 L.length),(1,.p (.i .i64 0)),(2,.p (.i .i64 L.length)),(4,.p (.fn (.func f) [] [])),(1000900,.row 900 L.length)],[(900,.row 102 3 (L.map Lea.pv) false)],[],false⟩) (fun _=>True) (fun _=>0) () ?_ ?_ ?_
 ·simp only [qS,Nat.reduceAdd,Nat.reduceMul,Nat.reduceEqDiff,Nat.reduceLeDiff,reduceIte,reduceCtorEq,Nat.reduceBEq,Nat.reduceLT,gLV.eq_2]<;>simp
 ·trivial
 ·intro _ _
  have hle:((L.length:Int) - 0≤12)=True:=eq_true (by omega)
  have hle2:((L.length:Int)≤12)=True:=eq_true (by omega)
  have qe:=aI qR (aI @qN (aI @hle (aI @hle2 (aI @Int.sub_zero (aI @rtN (aI @rtR (aI @zH (@List.length_map.{0,0}))))))));repeat' first|refine gC (fun hc=>?_) (fun hc=>?_)<;>try contradiction|refine zm [(900,900)] (acts1289 hf L L.length rfl (by omega)) ?_|refine gG ?_|show AK _;intro K H|refine H _ _ ?_;clear H K|refine gJ ?_;try exact trivial|omega
  exact .inl (.mk0 (h2:=by simp only [qS,Nat.reduceAdd,Nat.reduceMul,Nat.reduceEqDiff,Nat.reduceLeDiff,reduceIte,reduceCtorEq,Nat.reduceBEq,Nat.reduceLT,keepG.eq_1,keepG.eq_2,gLV.eq_2]<;>simp))
theorem acts1178 {f:Nat} {c:Lea→Lea→Int} (hf:∀ a b:Lea,Pure Tryz.prog f [a.pv,b.pv] (.i .i64 (c a b))) (L:List Lea) (hn:L.length≤12):Acts Tryz.prog 199 [.row 900 L.length,.p (.fn (.func f) [] [])] [(900,.row 102 3 (L.map Lea.pv) false)] (.p (.tup [])) [(900,.row 102 3 ((zbM c L).map Lea.pv) false)]:=by
 have hsl:=zH c L
 refine zS (cF Tryz.func199 Tryz.f199.eq_1) (by simp) (by simp [scPs,scP,zl]) (by simp [scObj]) ⟨rfl,trivial⟩ (by simp [scObj]) (by simp [FolL,zl,zH]) fun X hX=>?_
 unfold zD ghO
 have hw:IntKind.u64.wrap (L.length:Int)=L.length:=by simp [IntKind.wrap,IntKind.bits,IntKind.signed];omega
 have qe:=aI qR (aI @qN (aI @hw (aI @gLV.eq_2 (aI @rtN (aI @rtR (aI @zH (@List.length_map.{0,0})))))));repeat' first|refine gC (fun hc=>?_) (fun hc=>?_)<;>try contradiction|refine za (pure1231 L.length (by omega) (by omega)) ?_|refine zm [(900,900)] (acts1241 hf L .any hn) ?_|refine gG ?_|show AK _;intro K H|refine H _ _ ?_;clear H K|refine gJ ?_;try exact trivial|omega
 exact .inl (.mk0 (h2:=by simp only [qS,Nat.reduceAdd,Nat.reduceMul,Nat.reduceEqDiff,Nat.reduceLeDiff,reduceIte,reduceCtorEq,Nat.reduceBEq,Nat.reduceLT,keepG.eq_1,keepG.eq_2,gLV.eq_2]<;>simp))
theorem acts1230 {f:Nat} {c:Wsh→Wsh→Int} (hf:∀ a b:Wsh,Pure Tryz.prog f [a.pv,b.pv] (.i .i64 (c a b))) (L:List Wsh) (v:PV) (hn:L.length≤12):Acts Tryz.prog 250 [.row 900 L.length,.p (.i .i64 0),.p (.i .i64 L.length),.p v,.p (.fn (.func f) [] [])] [(900,.row 71 14 (L.map Wsh.pv) false)] (.p (.tup [])) [(900,.row 71 14 ((zbM c L).map Wsh.pv) false)]:=by
 have hsl:=zH c L
 refine zS (cF Tryz.func250 Tryz.f250.eq_1) (by simp) (by simp [scPs,scP,zl]) (by simp [scObj]) ⟨rfl,trivial⟩ (by simp [scObj]) (by simp [FolL,zl,zH]) fun X hX=>?_
 unfold zD ghO
 have qe:=aI qR @gLV.eq_2;repeat' first|refine gC (fun hc=>?_) (fun hc=>?_)<;>try contradiction|refine gG ?_|show AK _;intro K H|refine H _ _ ?_;clear H K|refine gJ ?_;try exact trivial|omega
 refine zk (κ:=Unit) (fun _=>⟨[(0,.row 900 L.length),(1,.p (.i .i64 0)),(2,.p (.i .i64 L.length)),(4,.p (.fn (.func f) [] [])),(1000900,.row 900 L.length)],[(900,.row 71 14 (L.map Wsh.pv) false)],[],false⟩) (fun _=>True) (fun _=>0) () ?_ ?_ ?_
 ·simp only [qS,Nat.reduceAdd,Nat.reduceMul,Nat.reduceEqDiff,Nat.reduceLeDiff,reduceIte,reduceCtorEq,Nat.reduceBEq,Nat.reduceLT,gLV.eq_2]<;>simp
 ·trivial
 ·intro _ _
  have hle:((L.length:Int) - 0≤12)=True:=eq_true (by omega)
  have hle2:((L.length:Int)≤12)=True:=eq_true (by omega)
  have qe:=aI qR (aI @qN (aI @hle (aI @hle2 (aI @Int.sub_zero (aI @rtN (aI @rtR (aI @zH (@List.length_map.{0,0}))))))));repeat' first|refine gC (fun hc=>?_) (fun hc=>?_)<;>try contradiction|refine zm [(900,900)] (acts1278 hf L L.length rfl (by omega)) ?_|refine gG ?_|show AK _;intro K H|refine H _ _ ?_;clear H K|refine gJ ?_;try exact trivial|omega
  exact .inl (.mk0 (h2:=by simp only [qS,Nat.reduceAdd,Nat.reduceMul,Nat.reduceEqDiff,Nat.reduceLeDiff,reduceIte,reduceCtorEq,Nat.reduceBEq,Nat.reduceLT,keepG.eq_1,keepG.eq_2,gLV.eq_2]<;>simp))
theorem acts1156 {f:Nat} {c:Wsh→Wsh→Int} (hf:∀ a b:Wsh,Pure Tryz.prog f [a.pv,b.pv] (.i .i64 (c a b))) (L:List Wsh) (hn:L.length≤12):Acts Tryz.prog 182 [.row 900 L.length,.p (.fn (.func f) [] [])] [(900,.row 71 14 (L.map Wsh.pv) false)] (.p (.tup [])) [(900,.row 71 14 ((zbM c L).map Wsh.pv) false)]:=by
 have hsl:=zH c L
 refine zS (cF Tryz.func182 Tryz.f182.eq_1) (by simp) (by simp [scPs,scP,zl]) (by simp [scObj]) ⟨rfl,trivial⟩ (by simp [scObj]) (by simp [FolL,zl,zH]) fun X hX=>?_
 unfold zD ghO
 have hw:IntKind.u64.wrap (L.length:Int)=L.length:=by simp [IntKind.wrap,IntKind.bits,IntKind.signed];omega
 have qe:=aI qR (aI @qN (aI @hw (aI @gLV.eq_2 (aI @rtN (aI @rtR (aI @zH (@List.length_map.{0,0})))))));repeat' first|refine gC (fun hc=>?_) (fun hc=>?_)<;>try contradiction|refine za (pure1231 L.length (by omega) (by omega)) ?_|refine zm [(900,900)] (acts1230 hf L .any hn) ?_|refine gG ?_|show AK _;intro K H|refine H _ _ ?_;clear H K|refine gJ ?_;try exact trivial|omega
 exact .inl (.mk0 (h2:=by simp only [qS,Nat.reduceAdd,Nat.reduceMul,Nat.reduceEqDiff,Nat.reduceLeDiff,reduceIte,reduceCtorEq,Nat.reduceBEq,Nat.reduceLT,keepG.eq_1,keepG.eq_2,gLV.eq_2]<;>simp))
set_option maxRecDepth 100000
set_option linter.unusedVariables false
set_option linter.unusedSimpArgs false
set_option maxHeartbeats 4000000
theorem allLe (l:List Lea):l.all ((fun x=>x.cells.all PV.one) ∘ Lea.pv)=true:=by rw [List.all_eq_true];intro x _;rfl
theorem allSt (l:List ByteArray):l.all ((fun x=>x.cells.all PV.one) ∘ PV.s)=true:=by rw [List.all_eq_true];intro x _;rfl
theorem acts1228 (L:List Lea) (hn:L.length*32≤140737488355328):Acts Tryz.prog 248 [.p (.sl 3 (L.map Lea.pv))] [] (.row 5 L.length) [(5,.row 102 3 (L.map Lea.pv) false)]:=by
 have hA:=fun l=>eq_true (allLe l)
 refine zS (cF Tryz.func248 Tryz.f248.eq_1) (by simp) (by simp [scPs,scP]) (by simp [scObj]) trivial (by simp [scObj]) trivial fun X hX=>?_
 unfold zD ghO
 have qe:=aI qR (aI @hA (aI @rtN @rtR));repeat' first|refine gC (fun hc=>?_) (fun hc=>?_)<;>try contradiction|refine run_isnilX fun b hb=>?_|refine gG ?_|show AK _;intro K H|refine H _ _ ?_;clear H K|refine gJ ?_;try exact trivial|omega
 ·have e:L=[]:=by simpa using hb hc
  subst e
  exact .inr ⟨5,102,3,[(2,.row 5 0)],[],by simp only [Own,zaL,zaB,zbt,zay,qS,Nat.reduceAdd,Nat.reduceMul,Nat.reduceEqDiff,Nat.reduceLeDiff,reduceIte,reduceCtorEq,Nat.reduceBEq,Nat.reduceLT],.mk1⟩
 ·exact .inl .mk1
theorem acts1229 (L:List ByteArray) (hn:L.length*16≤140737488355328):Acts Tryz.prog 249 [.p (.sl 1 (L.map .s))] [] (.row 5 L.length) [(5,.row 9 1 (L.map .s) false)]:=by
 have hA:=fun l=>eq_true (allSt l)
 refine zS (cF Tryz.func249 Tryz.f249.eq_1) (by simp) (by simp [scPs,scP]) (by simp [scObj]) trivial (by simp [scObj]) trivial fun X hX=>?_
 unfold zD ghO
 have qe:=aI qR (aI @hA (aI @rtN @rtR));repeat' first|refine gC (fun hc=>?_) (fun hc=>?_)<;>try contradiction|refine run_isnilX fun b hb=>?_|refine gG ?_|show AK _;intro K H|refine H _ _ ?_;clear H K|refine gJ ?_;try exact trivial|omega
 ·have e:L=[]:=by simpa using hb hc
  subst e
  exact .inr ⟨5,9,1,[(2,.row 5 0)],[],by simp only [Own,zaL,zaB,zbt,zay,qS,Nat.reduceAdd,Nat.reduceMul,Nat.reduceEqDiff,Nat.reduceLeDiff,reduceIte,reduceCtorEq,Nat.reduceBEq,Nat.reduceLT],.mk1⟩
 ·exact .inl .mk1
def cutE (d:Int) (l:Lea):Lea:=⟨l.carrier,l.fro,min l.to d⟩
def cutI (d:Int) (l:Lea):List Lea:=if l.to≤d∨l.fro≤min l.to d then [cutE d l] else []
def cutL (d:Int) (L:List Lea):List Lea:=L.flatMap (cutI d)
theorem cutL_next {d:Int} {L:List Lea} {k:Nat} {x:Lea} (h:L[k]?=some x):cutL d (L.take (k+1))=cutL d (L.take k)++cutI d x:=by
 rw [zan h,cutL,List.flatMap_append];simp [cutL]
theorem cutL_len (d:Int) (L:List Lea):(cutL d L).length≤L.length:=by
 induction L with
 | nil=>simp [cutL]
 | cons x r ih=>
  have:(cutI d x).length≤1:=by unfold cutI;split<;>simp
  simp only [cutL,List.flatMap_cons,List.length_append,List.length_cons] at ih ⊢;omega
theorem pure1193 (L:List Lea) (d:Int) (hn:L.length≤1000000):Pure Tryz.prog 205 [.sl 3 (L.map Lea.pv),.i .i64 d] (.sl 3 ((cutL d L).map Lea.pv)):=by
 refine zf (cF Tryz.func205 Tryz.f205.eq_1) (by simp) fun hw X hX=>?_
 repeat' first|refine gC (fun hc=>?_) (fun hc=>?_)<;>try contradiction|refine gG ?_|show AK _;intro K H|refine H _ _ ?_;clear H K|refine gJ ?_;try exact trivial|omega
 refine zaO 100 102 3 [(1,.p (.i .i64 d)),(5,.row 100 0),(9,.p (.sl 3 (L.map Lea.pv))),(10,.p (.i .i64 L.length)),(11,.p (.i .i64 0))] [] ?_ ?_
 ·simp only [Own,zaL,zaB,zbt,zay,qS,Nat.reduceAdd,Nat.reduceMul,Nat.reduceEqDiff,Nat.reduceLeDiff,reduceIte,reduceCtorEq,Nat.reduceBEq,Nat.reduceLT]
 refine zk (κ:=Nat) (fun k=>⟨[(1,.p (.i .i64 d)),(5,.row 100 (cutL d (L.take k)).length),(9,.p (.sl 3 (L.map Lea.pv))),(10,.p (.i .i64 L.length)),(11,.p (.i .i64 k))],[(100,.row 102 3 ((cutL d (L.take k)).map Lea.pv) false)],[],false⟩) (fun k=>k≤L.length) (fun k=>L.length - k) 0 ?_ ?_ ?_
 ·refine gJ ?_;simp [cutL]
 ·simp
 ·intro k hk
  have hl:(cutL d (L.take k)).length≤k:=by have:=cutL_len d (L.take k);rw [List.length_take] at this;omega
  repeat first|refine gG ?_|show AK _;intro K H|refine H _ _ ?_;clear H K|refine gJ ?_;try exact trivial|omega
  (refine gC (fun hc=>?_) (fun hc=>?_)<;>try contradiction)
  ·obtain ⟨x,hx⟩:=zn (i:=k) (l:=L) (by omega)
   have hnx:=cutL_next (d:=d) hx
   have qe:=aI qR @hx;repeat' first|refine gC (fun hc=>?_) (fun hc=>?_)<;>try contradiction|refine gG ?_|show AK _;intro K H|refine H _ _ ?_;clear H K|refine gJ ?_;try exact trivial|omega
   ·have hi:cutI d x=[cutE d x]:=by rw [cutI,if_pos (by omega)]
    rw [hi] at hnx
    exact ⟨k+1,by omega,by omega,⟨by rw [hnx];simp,by simp⟩,by rw [hnx];simp [cutE]⟩
   ·have hi:cutI d x=[]:=by rw [cutI,if_neg (by omega)]
    rw [hi,List.append_nil] at hnx
    exact ⟨k+1,by omega,by omega,⟨by rw [hnx],by simp⟩,by rw [hnx]⟩
  ·repeat' first|refine gC (fun hc=>?_) (fun hc=>?_)<;>try contradiction|refine gG ?_|show AK _;intro K H|refine H _ _ ?_;clear H K|refine gJ ?_;try exact trivial|omega
   have e:k=L.length:=by omega
   subst e;rw [List.take_length];exact .refl _
set_option maxRecDepth 100000
set_option linter.unusedVariables false
set_option linter.unusedSimpArgs false
set_option maxHeartbeats 4000000
def ownE (b:Bk) (c n:ByteArray) (a:Int):Int:=zg [zaH c,fndE b.slots n,a,if (zo b n).holder=c then 0 else 31]
end Go.Proofs.YtahmdjadnlpjoaaGreat
