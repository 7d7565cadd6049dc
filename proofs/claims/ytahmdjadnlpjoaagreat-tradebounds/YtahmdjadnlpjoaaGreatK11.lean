/- Contracts of functions that the proof uses, shared by the claims of this seat; no statement of its own. Part 23. No conditions. -/
import Derived.Test.YtahmdjadnlpjoaaGreatK10
import Derived.Test.YtahmdjadnlpjoaaGreatK9
import Derived.Test.YtahmdjadnlpjoaaGreatK3
import Derived.Test.YtahmdjadnlpjoaaGreatK4
set_option linter.all false
set_option maxHeartbeats 8000000
namespace Go.Proofs.YtahmdjadnlpjoaaGreat
open Go.RowKit
set_option maxRecDepth 100000
set_option linter.unusedVariables false
set_option linter.unusedSimpArgs false
set_option maxHeartbeats 2000000
theorem beginsL_mem {l:Lim} (h:zaS l=0) {d b:Int} (hb:b ∈ zM l d):1440*d≤b∧b≤1440*d+1439∧l.per.fro≤d∧d≤l.per.to:=by
 have hl:=chkLim_0 h
 unfold zM begK at hb
 split at hb
 ·rename_i ho
  simp only [begOk,Bool.not_eq_true',Bool.or_eq_false_iff,decide_eq_false_iff_not] at ho
  obtain ⟨n,hn,rfl⟩:=List.mem_map.1 hb
  have:=beg_bound h (List.mem_range.1 hn)
  unfold begV
  omega
 ·cases hb
def zbs (l:Lim) (m:List Mov) (b:Int):Int:=cntW (ofL l m) b l.len
theorem zbF {l:Lim} {m:List Mov} (h1:zaS l=0) (h2:zad m=0) (b:Int) (hb0:-1000000≤b) (hb1:b≤1000000000):Pure Tryz.prog 138 [.sl 1 ((ofL l m).map (.i .i64)),.i .i64 b,.i .i64 l.len] (.i .i64 (zbs l m b)):=by
 have hl:=chkLim_0 h1
 have hm:=zaR h2
 have:=ofL_len (l:=l) (m:=m)
 exact pure93 _ _ _ (ofL_sorted h2) (by omega) hb0 hb1 (by omega) (by omega)
set_option maxRecDepth 100000
set_option linter.unusedVariables false
set_option linter.unusedSimpArgs false
set_option maxHeartbeats 2000000
abbrev tupW (w:Win):List PV:=[w.pv]
theorem flat_take {α β:Type} {l:List α} {j:Nat} {x:α} (f:α→List β) (h:l[j]?=some x):(l.take (j+1)).flatMap f=(l.take j).flatMap f++f x:=by
 rw [List.take_add_one,h];simp
theorem flat_split {α β:Type} {l:List α} {j:Nat} {x:α} (f:α→List β) (h:l[j]?=some x):l.flatMap f=(l.take j).flatMap f++(f x++(l.drop (j+1)).flatMap f):=by
 conv=>lhs;rw [take_split h]
 simp
set_option maxRecDepth 100000
set_option linter.unusedVariables false
set_option linter.unusedSimpArgs false
set_option maxHeartbeats 2000000
abbrev bothC (ls:List Lim) (m:List Mov):Int:=zg [z3 ls,zad m]
theorem chkLims_0 {ls:List Lim} (h:z3 ls=0):ls.length≤32∧∀ l ∈ ls,zaS l=0:=by
 unfold z3 at h
 split at h
 ·cases h
 ·refine ⟨by omega,fun l hl=>?_⟩
  obtain ⟨i,hi⟩:=List.getElem?_of_mem hl
  exact (zq.1 (firstE_0 h (List.mem_of_getElem? (zI (f:=limErr ls) hi)))).1
set_option maxRecDepth 100000
set_option linter.unusedVariables false
set_option linter.unusedSimpArgs false
set_option maxHeartbeats 2000000
theorem weakB {a b:Bool} (h:a=b):Weak (.b a) (.b b):=h ▸ .refl _
set_option maxRecDepth 100000
set_option linter.unusedVariables false
set_option linter.unusedSimpArgs false
set_option maxHeartbeats 2000000
theorem Pure.args {P:Program} {f:FuncId} {args args':List PV} {r:PV} (h:Pure P f args r) (hl:args'.length=args.length) (hw:∀ (j:Nat) (x y:PV),args'[j]?=some x→args[j]?=some y→Weak x y):Pure P f args' r:=
 ⟨h.1,fun w B vs hB hr=>h.2 w B vs hB ⟨hr.1.trans hl,fun j v p hv hp=>by
  have hj:j < args'.length:=by rw [hl];exact (List.getElem?_eq_some_iff.1 hp).1
  exact (hw j _ p (List.getElem?_eq_getElem hj) hp).rep (hr.2 j v _ hv (List.getElem?_eq_getElem hj))⟩⟩
theorem flat_le {α β:Type} {f:α→List β} {c:Nat}:∀ {l:List α},(∀ x ∈ l,(f x).length≤c)→(l.flatMap f).length≤l.length*c
 | [],_=>by simp
 | x::r,h=>by
  have h1:=h x (by simp)
  have h2:=flat_le (l:=r) fun y hy=>h y (by simp [hy])
  simp only [List.flatMap_cons,List.length_append,List.length_cons,Nat.succ_mul];omega
theorem filter_take {α:Type} {l:List α} {p:α→Bool} {k:Nat} {x:α} (h:l[k]?=some x):(l.take (k+1)).filter p=(l.take k).filter p++(if p x then [x] else []):=by
 rw [List.take_add_one,h,List.filter_append]
 cases hp:p x<;>simp [List.filter_cons,hp]
theorem filter_tlen {α:Type} {l:List α} {p:α→Bool} {k:Nat}:((l.take k).filter p).length≤l.length:=by
 have:=List.length_filter_le p (l.take k)
 simp only [List.length_take] at this;omega
theorem neS_self (x:ByteArray):(x=x)=True:=eq_true rfl
theorem daysL_mem {p:Per} {d:Int} (h:d ∈ zY p):p.fro≤d∧d≤p.to∧inM p.days ((d+5) % 7)=true:=by
 obtain ⟨k,hk,hd⟩:=List.mem_flatMap.1 h
 split at hd
 ·simp at hd;subst hd
  have:=List.mem_range.1 hk
  exact ⟨by omega,by omega,by assumption⟩
 ·cases hd
set_option maxRecDepth 100000
set_option linter.unusedVariables false
set_option linter.unusedSimpArgs false
set_option maxHeartbeats 2000000
theorem pure138 {f:Nat} {caps:List PV} {L:List Win} (hit:Iter Tryz.prog f caps (L.map tupW)) (hn:L.length≤1000000):Pure Tryz.prog 254 [.nilsl,.fn (.func f) [] caps] (.sl 3 (L.map Win.pv)):=by
 refine zf (cF Tryz.func254 Tryz.f254.eq_1) (by simp) fun hw X hX=>?_
 repeat' first|refine gC (fun hc=>?_) (fun hc=>?_)<;>try contradiction|refine gG ?_|show AK _;intro K H|refine H _ _ ?_;clear H K|refine gJ ?_;try exact trivial|omega
 refine zaO 100 142 3 [(2,.lp 2 0),(6,.p (.fn (.func f) [] caps))] [(2,.box [.row 100 0] false)] ?_ ?_
 ·simp only [Own,zaL,zaB,zbt,zay,qS,Nat.reduceAdd,Nat.reduceMul,Nat.reduceEqDiff,Nat.reduceLeDiff,reduceIte,reduceCtorEq,Nat.reduceBEq,Nat.reduceLT]
 refine run_rfunc rfl hit ?_ ?_ [(2,.lp 2 0),(6,.p (.fn (.func f) [] caps))] (fun k=>[(2,.box [.row 100 k] false),(100,.row 142 3 ((L.take k).map Win.pv) false)]) (fun _=>[]) ?_ ?_ ?_
 ·simp
 ·simp [hX]
 ·exact sE
 ·intro k t ht X' ro' hX'
  simp only [List.getElem?_map,Option.map_eq_some_iff] at ht
  obtain ⟨w,hy,rfl⟩:=ht
  have hlt:=take_len hy
  have hk:=(List.getElem?_eq_some_iff.1 hy).1
  simp only [qS,Nat.reduceAdd,Nat.reduceMul,Nat.reduceEqDiff,Nat.reduceLeDiff,reduceIte,reduceCtorEq,Nat.reduceBEq,Nat.reduceLT]
  have qe:=@qR;repeat' first|refine gC (fun hc=>?_) (fun hc=>?_)<;>try contradiction|refine gG ?_|show AK _;intro K H|refine H _ _ ?_;clear H K|refine gJ ?_;try exact trivial|omega
  intro X1 hX1
  have qe:=aI qR (aI @hlt (take_snoc Win.pv hy));repeat' first|refine gC (fun hc=>?_) (fun hc=>?_)<;>try contradiction|refine gG ?_|show AK _;intro K H|refine H _ _ ?_;clear H K|refine gJ ?_;try exact trivial|omega
 ·simp only [List.length_map]
  have qe:=@List.take_length.{0};repeat' first|refine gC (fun hc=>?_) (fun hc=>?_)<;>try contradiction|refine gG ?_|show AK _;intro K H|refine H _ _ ?_;clear H K|refine gJ ?_;try exact trivial|omega
  exact .refl _
theorem pure101 {f:Nat} {caps:List PV} {L:List Win} (hit:Iter Tryz.prog f caps (L.map tupW)) (hn:L.length≤1000000):Pure Tryz.prog 190 [.fn (.func f) [] caps] (.sl 3 (L.map Win.pv)):=by
 refine zf (cF Tryz.func190 Tryz.f190.eq_1) (by simp) fun hw X hX=>?_
 repeat' first|refine gC (fun hc=>?_) (fun hc=>?_)<;>try contradiction|refine za (pure138 hit hn) ?_|refine gG ?_|show AK _;intro K H|refine H _ _ ?_;clear H K|refine gJ ?_;try exact trivial|omega
 exact .refl _
theorem pure102 (ls:List Lim) (m:List Mov) (o:Mov):Pure Tryz.prog 191 [.sl 11 (ls.map Lim.pv),.sl 7 (m.map Mov.pv),o.pv] (.fn (.func 255) [] [.ip (.sl 11 (ls.map Lim.pv)) 0,.ip o.pv 0,.ip (.sl 7 (m.map Mov.pv)) 0]):=by
 refine zf (cF Tryz.func191 Tryz.f191.eq_1) (by simp) fun hw X hX=>?_
 repeat' first|refine gC (fun hc=>?_) (fun hc=>?_)<;>try contradiction|refine gG ?_|show AK _;intro K H|refine H _ _ ?_;clear H K|refine gJ ?_;try exact trivial|omega
 exact .refl _
end Go.Proofs.YtahmdjadnlpjoaaGreat
