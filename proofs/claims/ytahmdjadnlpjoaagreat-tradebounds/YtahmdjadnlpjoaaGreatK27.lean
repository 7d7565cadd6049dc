/- Contracts of functions that the proof uses, shared by the claims of this seat; no statement of its own. Part 50. No conditions. -/
import Derived.Test.YtahmdjadnlpjoaaGreatK13
set_option linter.all false
set_option maxHeartbeats 8000000
namespace Go.Proofs.YtahmdjadnlpjoaaGreat
open Go.RowKit
set_option maxRecDepth 100000
set_option linter.unusedVariables false
set_option linter.unusedSimpArgs false
set_option maxHeartbeats 8000000
section
variable {α:Type}
def zbB (bef:α→α→Bool) (x:α) (out:List α):Nat→Nat
 | 0=>0
 | n+1=>match out[n]? with
  | some y=>if bef x y then zbB bef x out n else n+1
  | none=>n+1
def insMP (bef:α→α→Bool) (out:List α) (x:α):List α:=out.take (zbB bef x out out.length)++x::out.drop (zbB bef x out out.length)
theorem insM_permP (bef:α→α→Bool) (out:List α) (x:α):(insMP bef out x).Perm (x::out):=by
 unfold insMP
 refine List.perm_middle.trans ?_
 rw [List.take_append_drop]
theorem foldl_permP (bef:α→α→Bool):∀ (l out:List α),(l.foldl (insMP bef) out).Perm (out++l)
 | [],out=>by simp
 | x::l,out=>by
  refine (foldl_permP bef l (insMP bef out x)).trans ?_
  refine ((insM_permP bef out x).append_right l).trans ?_
  simpa using (List.perm_middle (a:=x) (l₁:=out) (l₂:=l)).symm
def bfCP (c:α→α→Int) (x y:α):Bool:=decide (c x y < 0)
def mgCP (c:α→α→Int) (L:List α) (k:Nat):List α:=(L.take k).foldl (insMP (bfCP c)) []
def zbM (c:α→α→Int) (L:List α):List α:=L.foldl (insMP (bfCP c)) []
theorem mgC_lenP {c:α→α→Int} {L:List α} {k:Nat} (h:k≤L.length):(mgCP c L k).length=k:=by
 have:=(foldl_permP (bfCP c) (L.take k) []).length_eq
 rw [mgCP,this];simp;omega
theorem mgC_nextP {c:α→α→Int} {L:List α} {k:Nat} {x:α} (h:L[k]?=some x):mgCP c L (k+1)=insMP (bfCP c) (mgCP c L k) x:=by
 rw [mgCP,List.take_add_one,h,List.foldl_append];rfl
theorem zH (c:α→α→Int) (L:List α):(zbM c L).length=L.length:=by
 have:=(foldl_permP (bfCP c) L []).length_eq
 rw [zbM,this];simp
def datCP (c:α→α→Int) (L:List α) (k:Nat):List α:=mgCP c L k++L.drop k
theorem zbV {c:α→α→Int} {L:List α} {k:Nat} (h:k≤L.length∨k=1):(datCP c L k).length=L.length:=by
 rcases L with _|⟨x,r⟩
 ·rcases h with h|h<;>(try simp at h)<;>subst h<;>simp [datCP,mgCP]
 ·rw [datCP,List.length_append,mgC_lenP (by rcases h with h|h<;>simp at *<;>omega),List.length_drop]
  rcases h with h|h<;>simp at *<;>omega
theorem datC_1P (c:α→α→Int) (L:List α):datCP c L 1=L:=by
 rcases L with _|⟨x,r⟩<;>simp [datCP,mgCP,insMP,zbB]
theorem datC_endP (c:α→α→Int) (L:List α) {k:Nat} (h:L.length≤k):datCP c L k=zbM c L:=by
 rw [datCP,mgCP,List.take_of_length_le h,List.drop_eq_nil_of_le h,List.append_nil];rfl
def djP (out:List α) (x:α) (rest:List α) (j:Nat):List α:=out.take j++x::(out.drop j++rest)
theorem dj_lenP {out:List α} {x:α} {rest:List α} {j:Nat} (h:j≤out.length):(djP out x rest j).length=out.length+1+rest.length:=by
 simp [djP];omega
theorem dj_startP {c:α→α→Int} {L:List α} {i:Nat} {x:α} (h:L[i]?=some x):djP (mgCP c L i) x (L.drop (i+1)) i=datCP c L i:=by
 have hi:=(List.getElem?_eq_some_iff.1 h).1
 have hl:=mgC_lenP (c:=c) (L:=L) (k:=i) (by omega)
 rw [djP,datCP,List.take_of_length_le (by omega),List.drop_eq_nil_of_le (by omega),List.nil_append,List.drop_eq_getElem_cons hi,(List.getElem?_eq_some_iff.1 h).2]
theorem dj_stopP {c:α→α→Int} {L:List α} {i j:Nat} {x:α} (h:L[i]?=some x) (hj:j=zbB (bfCP c) x (mgCP c L i) i):djP (mgCP c L i) x (L.drop (i+1)) j=datCP c L (i+1):=by
 have hi:=(List.getElem?_eq_some_iff.1 h).1
 rw [datCP,mgC_nextP h,insMP,mgC_lenP (by omega),←hj,djP];simp
theorem dj_atP {out:List α} {x y:α} {rest:List α} {j:Nat} (h:out[j]?=some y):(djP out x rest (j+1))[j]?=some y∧(djP out x rest (j+1))[j+1]?=some x:=by
 have hj:=(List.getElem?_eq_some_iff.1 h).1
 have hl:(out.take j).length=j:=by simp;omega
 rw [djP,List.take_add_one,h,List.append_assoc]
 refine ⟨?_,?_⟩
 ·rw [List.getElem?_append_right (by omega),hl];simp
 ·rw [List.getElem?_append_right (by omega),hl];simp
theorem dj_swapP {out:List α} {x y:α} {rest:List α} {j:Nat} (h:out[j]?=some y):((djP out x rest (j+1)).set (j+1) y).set j x=djP out x rest j:=by
 have hj:=(List.getElem?_eq_some_iff.1 h).1
 have hl:(out.take j).length=j:=by simp;omega
 have hd:out.drop j=y::out.drop (j+1):=by rw [List.drop_eq_getElem_cons hj,(List.getElem?_eq_some_iff.1 h).2]
 rw [djP,djP,List.take_add_one,h,hd,List.append_assoc,List.set_append_right _ _ (by omega),hl,List.set_append_right _ _ (by omega),hl]
 simp
theorem insC_stopP {c:α→α→Int} {x:α} {out:List α} {q:Nat} {y:α} (hy:out[q]?=some y) (hb:¬c x y < 0):zbB (bfCP c) x out (q+1)=q+1:=by
 simp only [zbB,hy];rw [if_neg (by simp [bfCP];omega)]
theorem insC_goP {c:α→α→Int} {x:α} {out:List α} {q:Nat} {y:α} (hy:out[q]?=some y) (hb:c x y < 0):zbB (bfCP c) x out (q+1)=zbB (bfCP c) x out q:=by
 simp only [zbB,hy];rw [if_pos (by simp [bfCP];omega)]
end
theorem acts1289 {f:Nat} {c:Lea→Lea→Int} (hf:∀ a b:Lea,Pure Tryz.prog f [a.pv,b.pv] (.i .i64 (c a b))) (L:List Lea) (b:Int) (hb:b=L.length) (hn:L.length≤1000000):Acts Tryz.prog 297 [.row 900 L.length,.p (.i .i64 0),.p (.i .i64 b),.p (.fn (.func f) [] [])] [(900,.row 102 3 (L.map Lea.pv) false)] (.p (.tup [])) [(900,.row 102 3 ((zbM c L).map Lea.pv) false)]:=by
 subst hb
 refine zS (cF Tryz.func297 Tryz.f297.eq_1) (by simp) (by simp [scPs,scP,zl]) (by simp [scObj]) ⟨rfl,trivial⟩ (by simp [scObj]) (by simp [FolL,zl,zH]) fun X hX=>?_
 unfold zD ghO
 have qe:=aI qR @gLV.eq_2;repeat' first|refine gC (fun hc=>?_) (fun hc=>?_)<;>try contradiction|refine gG ?_|show AK _;intro K H|refine H _ _ ?_;clear H K|refine gJ ?_;try exact trivial|omega
 refine zk (κ:=Nat) (fun i=>⟨[(0,.row 900 L.length),(1,.p (.i .i64 0)),(2,.p (.i .i64 L.length)),(3,.p (.fn (.func f) [] [])),(8,.p (.i .i64 i)),(1000900,.row 900 L.length)],[(900,.row 102 3 ((datCP c L i).map Lea.pv) false)],[],false⟩) (fun i=>1≤i∧(i≤L.length∨i=1)) (fun i=>L.length - i) 1 ?_ ?_ ?_
 ·simp only [qS,Nat.reduceAdd,Nat.reduceMul,Nat.reduceEqDiff,Nat.reduceLeDiff,reduceIte,reduceCtorEq,Nat.reduceBEq,Nat.reduceLT,gLV.eq_2]<;>simp [datC_1P]
 ·simp
 ·intro i hi
  have hdl:=zbV (c:=c) hi.2
  by_cases hlt:i < L.length
  ·obtain ⟨x,hx⟩:=zn (i:=i) (l:=L) hlt
   have qe:=aI qR @hdl;repeat' first|refine gC (fun hc=>?_) (fun hc=>?_)<;>try contradiction|refine gG ?_|show AK _;intro K H|refine H _ _ ?_;clear H K|refine gJ ?_;try exact trivial|omega
   have hol:=mgC_lenP (c:=c) (L:=L) (k:=i) (by omega)
   refine zk (κ:=Nat) (fun j=>⟨[(0,.row 900 L.length),(1,.p (.i .i64 0)),(2,.p (.i .i64 L.length)),(3,.p (.fn (.func f) [] [])),(8,.p (.i .i64 i)),(9,.p (.i .i64 j)),(1000900,.row 900 L.length)],[(900,.row 102 3 ((djP (mgCP c L i) x (L.drop (i+1)) j).map Lea.pv) false)],[],false⟩) (fun j=>j≤i∧zbB (bfCP c) x (mgCP c L i) j=zbB (bfCP c) x (mgCP c L i) i) (fun j=>j) i ?_ ?_ ?_
   ·refine gJ ?_;simp [dj_startP hx,hdl]
   ·simp
   ·intro j hj
    have hjl:(djP (mgCP c L i) x (L.drop (i+1)) j).length=L.length:=by rw [dj_lenP (by omega),hol,List.length_drop];omega
    cases j with
    | zero=>
     have i0:(0 < ((0:Nat):Int))=False:=eq_false (by omega)
     have qe:=aI qR (aI @i0 (aI @hjl (aI @rtN @rtR)));repeat' first|refine gC (fun hc=>?_) (fun hc=>?_)<;>try contradiction|(show zj _ _ _ _ (⟨_,.callv,_,_,_⟩::_) _ _;refine zbi (q:=(.i .i64 0)) (by first|rfl|(simp (disch:=omega) only [qG,qe,Nat.reduceAdd,Nat.reduceMul,Nat.reduceEqDiff,Nat.reduceLeDiff,reduceIte,reduceCtorEq,Nat.reduceBEq,Nat.reduceLT]<;>rfl)) ?_;(try (refine zE ?_)))|refine gG ?_|show AK _;intro K H|refine H _ _ ?_;clear H K|refine gJ ?_;try exact trivial|omega
     exact ⟨i+1,by omega,by omega,by simp,by rw [dj_stopP (j:=0) hx hj.2],by rw [zbV (by omega)];exact Nat.le_refl _⟩
    | succ j=>
     have i0:(0 < ((j+1:Nat):Int))=True:=eq_true (by omega)
     have i1:((j+1:Nat):Int) - 1=(j:Int):=by omega
     obtain ⟨y,hy⟩:=zn (i:=j) (l:=mgCP c L i) (by omega)
     obtain ⟨h1,h2⟩:=dj_atP (x:=x) (rest:=L.drop (i+1)) hy
     by_cases hc:c x y < 0
     ·have hc':=eq_true hc
      have h3:=insC_goP hy hc
      have qe:=aI qR (aI @i0 (aI @i1 (aI @h1 (aI @h2 (aI @hjl (aI @hc' (aI @rtN @rtR)))))));repeat' first|refine gC (fun hc=>?_) (fun hc=>?_)<;>try contradiction|refine zr (hf x y) ?_|refine gG ?_|show AK _;intro K H|refine H _ _ ?_;clear H K|refine gJ ?_;try exact trivial|omega
      exact ⟨j,⟨by omega,by rw [←h3];exact hj.2⟩,by omega,rfl,by rw [←dj_swapP hy,List.map_set,List.map_set],by rw [dj_lenP (by omega),hol,List.length_drop];omega⟩
     ·have hc':=eq_false hc
      have h3:=insC_stopP hy hc
      have qe:=aI qR (aI @i0 (aI @i1 (aI @h1 (aI @h2 (aI @hjl (aI @hc' (aI @rtN @rtR)))))));repeat' first|refine gC (fun hc=>?_) (fun hc=>?_)<;>try contradiction|refine zr (hf x y) ?_|refine gG ?_|show AK _;intro K H|refine H _ _ ?_;clear H K|refine gJ ?_;try exact trivial|omega
      exact ⟨i+1,by omega,by omega,by simp,by rw [dj_stopP hx (h3.symm.trans hj.2)],by rw [zbV (by omega)];exact Nat.le_refl _⟩
  ·have qe:=aI qR (aI @hdl (aI @rtN @rtR));repeat' first|refine gC (fun hc=>?_) (fun hc=>?_)<;>try contradiction|refine gG ?_|show AK _;intro K H|refine H _ _ ?_;clear H K|refine gJ ?_;try exact trivial|omega
   rw [datC_endP c L (by omega)]
   exact .inl (.mk0 (h2:=by simp only [qS,Nat.reduceAdd,Nat.reduceMul,Nat.reduceEqDiff,Nat.reduceLeDiff,reduceIte,reduceCtorEq,Nat.reduceBEq,Nat.reduceLT,keepG.eq_1,keepG.eq_2,gLV.eq_2]<;>simp))
theorem acts1278 {f:Nat} {c:Wsh→Wsh→Int} (hf:∀ a b:Wsh,Pure Tryz.prog f [a.pv,b.pv] (.i .i64 (c a b))) (L:List Wsh) (b:Int) (hb:b=L.length) (hn:L.length≤1000000):Acts Tryz.prog 287 [.row 900 L.length,.p (.i .i64 0),.p (.i .i64 b),.p (.fn (.func f) [] [])] [(900,.row 71 14 (L.map Wsh.pv) false)] (.p (.tup [])) [(900,.row 71 14 ((zbM c L).map Wsh.pv) false)]:=by
 subst hb
 refine zS (cF Tryz.func287 Tryz.f287.eq_1) (by simp) (by simp [scPs,scP,zl]) (by simp [scObj]) ⟨rfl,trivial⟩ (by simp [scObj]) (by simp [FolL,zl,zH]) fun X hX=>?_
 unfold zD ghO
 have qe:=aI qR @gLV.eq_2;repeat' first|refine gC (fun hc=>?_) (fun hc=>?_)<;>try contradiction|refine gG ?_|show AK _;intro K H|refine H _ _ ?_;clear H K|refine gJ ?_;try exact trivial|omega
 refine zk (κ:=Nat) (fun i=>⟨[(0,.row 900 L.length),(1,.p (.i .i64 0)),(2,.p (.i .i64 L.length)),(3,.p (.fn (.func f) [] [])),(8,.p (.i .i64 i)),(1000900,.row 900 L.length)],[(900,.row 71 14 ((datCP c L i).map Wsh.pv) false)],[],false⟩) (fun i=>1≤i∧(i≤L.length∨i=1)) (fun i=>L.length - i) 1 ?_ ?_ ?_
 ·simp only [qS,Nat.reduceAdd,Nat.reduceMul,Nat.reduceEqDiff,Nat.reduceLeDiff,reduceIte,reduceCtorEq,Nat.reduceBEq,Nat.reduceLT,gLV.eq_2]<;>simp [datC_1P]
 ·simp
 ·intro i hi
  have hdl:=zbV (c:=c) hi.2
  by_cases hlt:i < L.length
  ·obtain ⟨x,hx⟩:=zn (i:=i) (l:=L) hlt
   have qe:=aI qR @hdl;repeat' first|refine gC (fun hc=>?_) (fun hc=>?_)<;>try contradiction|refine gG ?_|show AK _;intro K H|refine H _ _ ?_;clear H K|refine gJ ?_;try exact trivial|omega
   have hol:=mgC_lenP (c:=c) (L:=L) (k:=i) (by omega)
   refine zk (κ:=Nat) (fun j=>⟨[(0,.row 900 L.length),(1,.p (.i .i64 0)),(2,.p (.i .i64 L.length)),(3,.p (.fn (.func f) [] [])),(8,.p (.i .i64 i)),(9,.p (.i .i64 j)),(1000900,.row 900 L.length)],[(900,.row 71 14 ((djP (mgCP c L i) x (L.drop (i+1)) j).map Wsh.pv) false)],[],false⟩) (fun j=>j≤i∧zbB (bfCP c) x (mgCP c L i) j=zbB (bfCP c) x (mgCP c L i) i) (fun j=>j) i ?_ ?_ ?_
   ·refine gJ ?_;simp [dj_startP hx,hdl]
   ·simp
   ·intro j hj
    have hjl:(djP (mgCP c L i) x (L.drop (i+1)) j).length=L.length:=by rw [dj_lenP (by omega),hol,List.length_drop];omega
    cases j with
    | zero=>
     have i0:(0 < ((0:Nat):Int))=False:=eq_false (by omega)
     have qe:=aI qR (aI @i0 (aI @hjl (aI @rtN @rtR)));repeat' first|refine gC (fun hc=>?_) (fun hc=>?_)<;>try contradiction|(show zj _ _ _ _ (⟨_,.callv,_,_,_⟩::_) _ _;refine zbi (q:=(.i .i64 0)) (by first|rfl|(simp (disch:=omega) only [qG,qe,Nat.reduceAdd,Nat.reduceMul,Nat.reduceEqDiff,Nat.reduceLeDiff,reduceIte,reduceCtorEq,Nat.reduceBEq,Nat.reduceLT]<;>rfl)) ?_;(try (refine zE ?_)))|refine gG ?_|show AK _;intro K H|refine H _ _ ?_;clear H K|refine gJ ?_;try exact trivial|omega
     exact ⟨i+1,by omega,by omega,by simp,by rw [dj_stopP (j:=0) hx hj.2],by rw [zbV (by omega)];exact Nat.le_refl _⟩
    | succ j=>
     have i0:(0 < ((j+1:Nat):Int))=True:=eq_true (by omega)
     have i1:((j+1:Nat):Int) - 1=(j:Int):=by omega
     obtain ⟨y,hy⟩:=zn (i:=j) (l:=mgCP c L i) (by omega)
     obtain ⟨h1,h2⟩:=dj_atP (x:=x) (rest:=L.drop (i+1)) hy
     by_cases hc:c x y < 0
     ·have hc':=eq_true hc
      have h3:=insC_goP hy hc
      have qe:=aI qR (aI @i0 (aI @i1 (aI @h1 (aI @h2 (aI @hjl (aI @hc' (aI @rtN @rtR)))))));repeat' first|refine gC (fun hc=>?_) (fun hc=>?_)<;>try contradiction|refine zr (hf x y) ?_|refine gG ?_|show AK _;intro K H|refine H _ _ ?_;clear H K|refine gJ ?_;try exact trivial|omega
      exact ⟨j,⟨by omega,by rw [←h3];exact hj.2⟩,by omega,rfl,by rw [←dj_swapP hy,List.map_set,List.map_set],by rw [dj_lenP (by omega),hol,List.length_drop];omega⟩
     ·have hc':=eq_false hc
      have h3:=insC_stopP hy hc
      have qe:=aI qR (aI @i0 (aI @i1 (aI @h1 (aI @h2 (aI @hjl (aI @hc' (aI @rtN @rtR)))))));repeat' first|refine gC (fun hc=>?_) (fun hc=>?_)<;>try contradiction|refine zr (hf x y) ?_|refine gG ?_|show AK _;intro K H|refine H _ _ ?_;clear H K|refine gJ ?_;try exact trivial|omega
      exact ⟨i+1,by omega,by omega,by simp,by rw [dj_stopP hx (h3.symm.trans hj.2)],by rw [zbV (by omega)];exact Nat.le_refl _⟩
  ·have qe:=aI qR (aI @hdl (aI @rtN @rtR));repeat' first|refine gC (fun hc=>?_) (fun hc=>?_)<;>try contradiction|refine gG ?_|show AK _;intro K H|refine H _ _ ?_;clear H K|refine gJ ?_;try exact trivial|omega
   rw [datC_endP c L (by omega)]
   exact .inl (.mk0 (h2:=by simp only [qS,Nat.reduceAdd,Nat.reduceMul,Nat.reduceEqDiff,Nat.reduceLeDiff,reduceIte,reduceCtorEq,Nat.reduceBEq,Nat.reduceLT,keepG.eq_1,keepG.eq_2,gLV.eq_2]<;>simp))
end Go.Proofs.YtahmdjadnlpjoaaGreat
