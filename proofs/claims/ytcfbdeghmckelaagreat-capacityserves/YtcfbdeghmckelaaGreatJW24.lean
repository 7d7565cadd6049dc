/- Contracts of functions that the proof uses, shared by the claims of this seat; no statement of its own. Part 29. No conditions. -/
import Derived.Test.YtcfbdeghmckelaaGreatJW23
set_option linter.all false
namespace Go.Proofs.YtcfbdeghmckelaaGreat
open Go.RowKit
set_option maxRecDepth 100000
set_option linter.unusedVariables false
set_option linter.unusedSimpArgs false
set_option maxHeartbeats 8000000
def p1 (ls : List Lim) (m : List Mov) (r : Req) (k : Nat) (l : Lim) (q : Nat) : List (Nat × Nat) := egK ls m r k ++ ((daysL r.per).take q).flatMap (evD m l)
def p2 (ls : List Lim) (m : List Mov) (r : Req) (k : Nat) (l : Lim) (q : Nat) (d : Int) (e : Nat) : List (Nat × Nat) := p1 ls m r k l q ++ (List.range e).flatMap (evX m l d)
def p3 (ls : List Lim) (m : List Mov) (r : Req) (k : Nat) (l : Lim) (q : Nat) (d : Int) (e i : Nat) : List (Nat × Nat) := p2 ls m r k l q d e ++ ((beginsL l (d - 1 + e)).take i).flatMap (evB m l d)
theorem take_flat_le {α β : Type} (f : α → List β) (l : List α) (i : Nat) : ((l.take i).flatMap f).length ≤ (l.flatMap f).length := by
  conv => rhs; rw [← List.take_append_drop i l, List.flatMap_append, List.length_append]
  omega
theorem range_flat_le {β : Type} (f : Nat → List β) {i n : Nat} (h : i ≤ n) : ((List.range i).flatMap f).length ≤ ((List.range n).flatMap f).length := by
  have := take_flat_le f (List.range n) i
  rwa [List.take_range, Nat.min_eq_left h] at this
theorem p3_next {ls : List Lim} {m : List Mov} {r : Req} {k : Nat} {l : Lim} {q : Nat} {d : Int} {e i : Nat} {b : Int} (h : (beginsL l (d - 1 + e))[i]? = some b) : p3 ls m r k l q d e (i + 1) = p3 ls m r k l q d e i ++ evB m l d b := by
  rw [p3, flat_take (evB m l d) h, ← List.append_assoc]; rfl
theorem p3_end {ls : List Lim} {m : List Mov} {r : Req} {k : Nat} {l : Lim} {q : Nat} {d : Int} {e : Nat} : p3 ls m r k l q d e (beginsL l (d - 1 + e)).length = p2 ls m r k l q d (e + 1) := by
  rw [p3, List.take_length, p2, p2, range_next, List.append_assoc]; rfl
theorem p2_end {ls : List Lim} {m : List Mov} {r : Req} {k : Nat} {l : Lim} {q : Nat} {d : Int} (h : (daysL r.per)[q]? = some d) : p2 ls m r k l q d 2 = p1 ls m r k l (q + 1) := by
  rw [p2, p1, p1, flat_take (evD m l) h, ← List.append_assoc]; rfl
theorem p1_end {ls : List Lim} {m : List Mov} {r : Req} {k : Nat} {l : Lim} (h : ls[k]? = some l) (hc : countsL l r.kind r.term = true) : p1 ls m r k l (daysL r.per).length = egK ls m r (k + 1) := by
  rw [p1, List.take_length, egK, egK, range_next, evI, h]
  simp only [evL, hc, if_true]
theorem p1_skip {ls : List Lim} {m : List Mov} {r : Req} {k : Nat} {l : Lim} (h : ls[k]? = some l) (hc : countsL l r.kind r.term = false) : egK ls m r (k + 1) = egK ls m r k := by
  rw [egK, egK, range_next, evI, h]
  simp [evL, hc]
theorem p3_len {ls : List Lim} {m : List Mov} {r : Req} {k : Nat} {l : Lim} {q : Nat} {d : Int} {e i : Nat} (h : ls[k]? = some l) (hc : countsL l r.kind r.term = true) (hq : (daysL r.per)[q]? = some d) (he : e < 2) (hA : (evA ls m r).length ≤ 40000000) : (p3 ls m r k l q d e i).length ≤ 40000000 := by
  have hk := (List.getElem?_eq_some_iff.1 h).1
  have h1 : (p3 ls m r k l q d e i).length ≤ (p3 ls m r k l q d e (beginsL l (d - 1 + e)).length).length := by
    rw [p3, p3, List.take_length, List.length_append, List.length_append]
    have := take_flat_le (evB m l d) (beginsL l (d - 1 + e)) i
    omega
  rw [p3_end] at h1
  have h2 : (p2 ls m r k l q d (e + 1)).length ≤ (p2 ls m r k l q d 2).length := by
    rw [p2, p2, List.length_append, List.length_append]
    have := range_flat_le (evX m l d) (show e + 1 ≤ 2 by omega)
    omega
  rw [p2_end hq] at h2
  have h3 : (p1 ls m r k l (q + 1)).length ≤ (p1 ls m r k l (daysL r.per).length).length := by
    rw [p1, p1, List.take_length, List.length_append, List.length_append]
    have := take_flat_le (evD m l) (daysL r.per) (q + 1)
    omega
  rw [p1_end h hc] at h3
  have h4 : (egK ls m r (k + 1)).length ≤ (evA ls m r).length := range_flat_le (evI ls m r) (by omega)
  omega
def lstP (l : Lim) (m : List Mov) (a : Int × Int) (L : List Int) : Int × Int := L.foldl (fun _ b => (b, cntAll l m b)) a
theorem lstP_next {l : Lim} {m : List Mov} {a : Int × Int} {L : List Int} {i : Nat} {b : Int} (h : L[i]? = some b) : lstP l m a (L.take (i + 1)) = (b, cntAll l m b) := by
  rw [lstP, List.take_add_one, h, List.foldl_append]; rfl
def okP (l : Lim) (m : List Mov) (a : Int × Int) : Prop := a.1 = -1 ∨ a.2 = cntAll l m a.1
theorem lstP_ok {l : Lim} {m : List Mov} {a : Int × Int} (h : okP l m a) : ∀ L, okP l m (lstP l m a L) := by
  intro L
  induction L generalizing a with
  | nil => exact h
  | cons b r ih => exact ih (a := (b, cntAll l m b)) (.inr rfl)
theorem go_map {α : Type} (look : Nat → Option LObj) (n : Nat) (f : α → PV) : ∀ L : List α, toPV.go look (n + 1) (L.map fun x => LV.p (f x)) = some (True, L.map f, [])
  | [] => by simp [toPV.go]
  | x :: r => by simp only [List.map_cons, toPV.go, toPV, go_map look n f r, true_and, List.append_nil]
theorem box_map {L : List Bool} (h : L.length = 1440) : boxPV (L.map PV.b) = .agg (L.map PV.b) := by
  match L with
  | [] => rfl
  | [x] => simp at h
  | _ :: _ :: _ => rfl
abbrev Req.cells (r : Req) : List PV := [.s r.name, .s r.carrier, .s r.kind, .s r.term, .s r.partner, .s r.link, .i .i64 r.per.fro, .i .i64 r.per.to, .i .i64 r.per.days, .i .i64 r.minute, .i .i64 r.seats, .i .i64 r.size, .i .i64 r.noise]
def edgO (P : List (Nat × Nat)) : List LV := (edg P).map fun x => LV.p (PV.i .i64 x)
def outO (P : List (Nat × Nat)) (k : Nat) : List LV := (outK P k).map fun b => LV.p (PV.b b)
theorem scs_map {α : Type} (look : Nat → Option LObj) (f : α → PV) : ∀ L : List α, scPs look (L.map fun x => LV.p (f x)) = True
  | [] => by simp [scPs]
  | x :: r => by simp only [List.map_cons, scPs, scP, scs_map look f r, and_self]
theorem scE (look : Nat → Option LObj) (P : List (Nat × Nat)) : scPs look (edgO P) = True := scs_map look _ _
theorem scO (look : Nat → Option LObj) (P : List (Nat × Nat)) (k : Nat) : scPs look (outO P k) = True := scs_map look _ _
theorem edgO_len (P : List (Nat × Nat)) : (edgO P).length = 1441 := by rw [edgO, List.length_map, (edg_inv P).1]
theorem outO_len (P : List (Nat × Nat)) (k : Nat) : (outO P k).length = 1440 := by rw [outO, List.length_map, outK_len]
theorem edgO_0 : edgO [] = List.replicate 1441 (LV.p (PV.i .i64 0)) := by rw [edgO, edg, List.foldl_nil, List.map_replicate]
theorem outO_0 (P : List (Nat × Nat)) : outO P 0 = List.replicate 1440 (LV.p (PV.b false)) := by rw [outO, outK_0, List.map_replicate]
theorem edgO_at {P : List (Nat × Nat)} {i : Nat} {x : Int} (h : (edg P)[i]? = some x) : (edgO P)[i]? = some (LV.p (PV.i .i64 x)) := by rw [edgO, List.getElem?_map, h]; rfl
theorem edgO_next {P : List (Nat × Nat)} {f t : Nat} {x y : Int} (hx : (edg P)[f]? = some x) (hy : (edg P)[t]? = some y) : ((edgO P).set f (LV.p (PV.i .i64 (x + 1)))).set t (LV.p (PV.i .i64 (y - 1))) = edgO (P ++ [(f, t)]) := by
  rw [edgO, edgO, edg_snoc, addE, hx, hy, List.map_set, List.map_set]; rfl
theorem outO_next (P : List (Nat × Nat)) {k : Nat} (hk : k < 1440) : (outO P k).set k (LV.p (PV.b (refV P k))) = outO P (k + 1) := by
  rw [outO, outO, ← outK_set P hk, List.map_set]
theorem goO (look : Nat → Option LObj) (n : Nat) (P : List (Nat × Nat)) (k : Nat) : toPV.go look (n + 1) (outO P k) = some (True, (outK P k).map PV.b, []) := go_map look n PV.b (outK P k)
theorem boxO (P : List (Nat × Nat)) (k : Nat) : boxPV ((outK P k).map PV.b) = .agg ((outK P k).map PV.b) := box_map (outK_len P k)
def ac104 : AC := .seq (.ops false [⟨some 5,.box,[.t 2],none,[]⟩,⟨some 6,.mv,[.c .nilp],none,[]⟩]) (.seq (.ops false [⟨some 7,.alloc (List.replicate 1441 (.i .i64 0)),[],none,[]⟩]) (.seq (.ops false [⟨some 26,.fadr 6,[.t 5],none,[]⟩,⟨some 27,.load 3 true,[.t 26],none,[0]⟩,⟨some 28,.call 126,[.t 27],none,[1]⟩,⟨some 25,.mv,[.t 28],none,[2]⟩,⟨some 29,.ext 0,[.t 25],none,[3]⟩,⟨some 30,.ext 1,[.t 25],none,[3]⟩,⟨some 8,.mv,[.t 29],none,[4,2,0,1,2,3,4]⟩,⟨some 9,.mv,[.t 30],none,[5,6,0,1,2,3,4,5,6]⟩]) (.seq (.seq (.ops false [⟨some 31,.mv,[.t 0],none,[]⟩,⟨some 32,.len false,[.t 31],none,[0]⟩,⟨some 33,.mv,[.c (.i .i64 0)],none,[]⟩]) (.block 0 (.loop (.seq (.ops false [⟨some 34,.bin .lss,[.t 33,.t 32],none,[]⟩]) (.seq (.cond (.t 34) .skip (.exit 0)) (.seq (.block 1 (.seq (.ops false [⟨some 35,.iadrS 11,[.t 31,.t 33],none,[]⟩,⟨some 36,.load 11 true,[.t 35],none,[0]⟩,⟨some 11,.alloc [(.s (bs [])),(.s (bs [])),(.s (bs [])),(.i .i64 0),(.i .i64 0),(.i .i64 0),(.i .i64 0),(.i .i64 0),(.i .i64 0),(.i .i64 0),(.i .i64 0)],[],none,[]⟩,⟨none,.store 11,[.t 11,.t 36],none,[2,1,0,1,2]⟩]) (.seq (.seq (.ops false [⟨some 37,.load 11 true,[.t 11],none,[]⟩,⟨some 38,.fadr 2,[.t 5],none,[]⟩,⟨some 39,.load 1 false,[.t 38],none,[1]⟩,⟨some 40,.fadr 3,[.t 5],none,[]⟩,⟨some 41,.load 1 false,[.t 40],none,[3]⟩,⟨some 42,.call 135,[.t 37,.t 39,.t 41],none,[0,2,4]⟩,⟨some 43,.not,[.t 42],none,[5]⟩]) (.cond (.t 43) (.exit 1) .skip)) (.seq (.ops false [⟨some 44,.load 11 true,[.t 11],none,[]⟩,⟨some 45,.mv,[.t 1],none,[]⟩,⟨some 46,.call 92,[.t 44,.t 45],none,[0,1]⟩,⟨some 12,.alloc [.nilsl],[],none,[]⟩,⟨none,.store 1,[.t 12,.t 46],none,[3,2,2,0,1,2,3]⟩]) (.seq (.ops false [⟨some 47,.build [(.i .i64 0),(.i .i64 0),(.i .i64 0)] [(1,1)],[.c (.i .i64 (-1))],none,[]⟩,⟨some 13,.alloc [(.i .i64 0),(.i .i64 0),(.i .i64 0)],[],none,[]⟩,⟨none,.store 3,[.t 13,.t 47],none,[1,0,0,1]⟩]) (.seq (.ops false [⟨some 48,.mv,[.t 8],none,[]⟩,⟨some 49,.len false,[.t 48],none,[0]⟩,⟨some 50,.mv,[.c (.i .i64 0)],none,[]⟩]) (.block 2 (.loop (.seq (.ops false [⟨some 51,.bin .lss,[.t 50,.t 49],none,[]⟩]) (.seq (.cond (.t 51) .skip (.exit 2)) (.seq (.block 3 (.seq (.ops false [⟨some 52,.iadrS 1,[.t 48,.t 50],none,[]⟩,⟨some 53,.load 1 false,[.t 52],none,[0]⟩,⟨some 15,.alloc [(.i .i64 0)],[],none,[]⟩,⟨none,.store 1,[.t 15,.t 53],none,[2,1,0,1,2]⟩]) (.seq (.ops false [⟨some 54,.load 1 false,[.t 15],none,[]⟩,⟨some 55,.bin .sub,[.t 54,.c (.i .i64 1)],none,[0]⟩,⟨some 56,.load 1 false,[.t 15],none,[]⟩,⟨some 57,.build [(.i .i64 0),(.i .i64 0)] [(0,1),(1,1)],[.t 55,.t 56],none,[1,2]⟩,⟨some 58,.mv,[.c (.i .i64 0)],none,[]⟩]) (.block 4 (.loop (.seq (.ops false [⟨some 59,.bin .lss,[.t 58,.c (.i .i64 2)],none,[]⟩]) (.seq (.cond (.t 59) .skip (.exit 4)) (.seq (.block 5 (.seq (.ops false [⟨some 60,.idxA 2 1 false,[.t 57,.t 58],none,[]⟩,⟨some 17,.mv,[.t 60],none,[0,0]⟩]) (.seq (.ops false [⟨some 61,.load 11 true,[.t 11],none,[]⟩,⟨some 62,.mv,[.t 17],none,[]⟩,⟨some 63,.call 91,[.t 61,.t 62],none,[0,1]⟩]) (.block 6 (.rfunc (.t 63) [64] (.ops false [⟨some 18,.mv,[.t 64],none,[]⟩]) (.block 7 (.seq (.ops false [⟨some 65,.mv,[.t 18],none,[]⟩,⟨some 66,.fadr 2,[.t 13],none,[]⟩,⟨some 67,.load 1 false,[.t 66],none,[1]⟩,⟨some 68,.build [(.i .i64 0),(.i .i64 0),(.i .i64 0)] [(1,1),(2,1)],[.t 65,.t 67],none,[0,2]⟩,⟨some 19,.alloc [(.i .i64 0),(.i .i64 0),(.i .i64 0)],[],none,[]⟩,⟨none,.store 3,[.t 19,.t 68],none,[4,3,0,1,2,3,4]⟩]) (.seq (.seq (.ops false [⟨some 69,.load 3 true,[.t 13],none,[]⟩,⟨some 70,.load 3 true,[.t 19],none,[]⟩,⟨some 71,.eq true [1,1,1] true,[.t 69,.t 70],none,[0,1]⟩]) (.cond (.t 71) (.seq (.ops false [⟨some 72,.load 1 false,[.t 12],none,[]⟩,⟨some 73,.mv,[.t 18],none,[]⟩,⟨some 74,.fadr 3,[.t 11],none,[]⟩,⟨some 75,.load 1 false,[.t 74],none,[2]⟩,⟨some 76,.call 93,[.t 72,.t 73,.t 75],none,[0,1,3]⟩,⟨some 77,.fadr 2,[.t 19],none,[0,1,2,3,4]⟩,⟨none,.store 1,[.t 77,.t 76],none,[5,4,4,0,1,2,3,4]⟩]) (.ops false [⟨some 78,.load 3 true,[.t 19],none,[]⟩,⟨none,.store 3,[.t 13,.t 78],none,[0,0]⟩])) .skip)) (.seq (.seq (.ops false [⟨some 79,.fadr 2,[.t 19],none,[]⟩,⟨some 80,.load 1 false,[.t 79],none,[0]⟩,⟨some 81,.fadr 10,[.t 11],none,[]⟩,⟨some 82,.load 1 false,[.t 81],none,[2]⟩,⟨some 83,.bin .lss,[.t 80,.t 82],none,[1,3]⟩]) (.cond (.t 83) (.exit 7) .skip)) (.seq (.ops true [⟨some 84,.mv,[.t 18],none,[]⟩,⟨some 85,.load 1 false,[.t 15],none,[]⟩,⟨some 86,.bin .mul,[.c (.i .i64 1440),.t 85],none,[1]⟩,⟨some 87,.bin .sub,[.t 84,.t 86],none,[0,2]⟩,⟨some 88,.mx,[.c (.i .i64 0),.t 87],none,[3]⟩,⟨some 89,.mv,[.t 18],none,[]⟩,⟨some 90,.fadr 3,[.t 11],none,[]⟩,⟨some 91,.load 1 false,[.t 90],none,[6]⟩,⟨some 92,.bin .add,[.t 89,.t 91],none,[5,7]⟩,⟨some 93,.load 1 false,[.t 15],none,[]⟩,⟨some 94,.bin .mul,[.c (.i .i64 1440),.t 93],none,[9]⟩,⟨some 95,.bin .sub,[.t 92,.t 94],none,[8,10]⟩,⟨some 96,.mn,[.c (.i .i64 1440),.t 95],none,[11]⟩,⟨some 20,.mv,[.t 88],none,[4,0,1,2,3,4]⟩,⟨some 21,.mv,[.t 96],none,[12,13,0,1,2,3,4,5,6,7,8,9,10,11,12,13]⟩]) (.seq (.ops false [⟨some 97,.mv,[.t 20],none,[]⟩,⟨some 98,.mv,[.t 21],none,[]⟩,⟨some 99,.bin .lss,[.t 97,.t 98],none,[0,1]⟩]) (.cond (.t 99) (.seq (.ops false [⟨some 100,.mv,[.t 20],none,[]⟩,⟨some 101,.iadrA 1441 1,[.t 7,.t 100],none,[0]⟩,⟨some 102,.load 1 false,[.t 101],none,[1]⟩,⟨some 103,.bin .add,[.t 102,.c (.i .i64 1)],none,[2]⟩,⟨some 104,.iadrA 1441 1,[.t 7,.t 100],none,[0,0,1,2,3]⟩,⟨none,.store 1,[.t 104,.t 103],none,[4,3,0,1,2,3]⟩]) (.ops false [⟨some 105,.mv,[.t 21],none,[]⟩,⟨some 106,.iadrA 1441 1,[.t 7,.t 105],none,[0]⟩,⟨some 107,.load 1 false,[.t 106],none,[1]⟩,⟨some 108,.bin .sub,[.t 107,.c (.i .i64 1)],none,[2]⟩,⟨some 109,.iadrA 1441 1,[.t 7,.t 105],none,[0,0,1,2,3]⟩,⟨none,.store 1,[.t 109,.t 108],none,[4,3,0,1,2,3]⟩])) .skip)))))))))))) (.ops false [⟨some 110,.bin .add,[.t 58,.c (.i .i64 1)],none,[]⟩,⟨some 58,.mv,[.t 110],none,[0]⟩]))))))))) (.ops false [⟨some 111,.bin .add,[.t 50,.c (.i .i64 1)],none,[]⟩,⟨some 50,.mv,[.t 111],none,[0]⟩])))))))))))) (.ops false [⟨some 112,.bin .add,[.t 33,.c (.i .i64 1)],none,[]⟩,⟨some 33,.mv,[.t 112],none,[0]⟩]))))))) (.seq (.ops false [⟨some 113,.alloc (List.replicate 1440 (.b false)),[],none,[]⟩,⟨some 22,.mv,[.t 113],none,[0,0]⟩,⟨some 23,.mv,[.c (.i .i64 0)],none,[1,0,1]⟩]) (.seq (.seq (.ops false [⟨some 114,.mv,[.c (.i .i64 0)],none,[]⟩]) (.block 8 (.loop (.seq (.ops false [⟨some 115,.bin .lss,[.t 114,.c (.i .i64 1440)],none,[]⟩]) (.seq (.cond (.t 115) .skip (.exit 8)) (.seq (.block 9 (.seq (.ops false [⟨some 116,.mv,[.t 114],none,[]⟩,⟨some 24,.mv,[.t 116],none,[0,0]⟩]) (.seq (.ops false [⟨some 117,.mv,[.t 23],none,[]⟩,⟨some 118,.mv,[.t 24],none,[]⟩,⟨some 119,.iadrA 1441 1,[.t 7,.t 118],none,[1]⟩,⟨some 120,.load 1 false,[.t 119],none,[2]⟩,⟨some 121,.bin .add,[.t 117,.t 120],none,[0,3]⟩,⟨some 23,.mv,[.t 121],none,[4,0,1,2,3,4]⟩]) (.ops false [⟨some 122,.mv,[.t 22],none,[]⟩,⟨some 123,.mv,[.t 24],none,[]⟩,⟨some 124,.mv,[.t 23],none,[]⟩,⟨some 125,.bin .gtr,[.t 124,.c (.i .i64 0)],none,[2]⟩,⟨some 126,.nilchk,[.t 122],none,[0]⟩,⟨some 127,.iadrA 1440 1,[.t 126,.t 123],none,[4,1,0,1,2,3]⟩,⟨none,.store 1,[.t 127,.t 125],none,[5,3,0,1,2,3]⟩])))) (.ops false [⟨some 128,.bin .add,[.t 114,.c (.i .i64 1)],none,[]⟩,⟨some 114,.mv,[.t 128],none,[0]⟩]))))))) (.seq (.ops false [⟨some 129,.mv,[.t 22],none,[]⟩,⟨some 6,.mv,[.t 129],none,[0,0]⟩]) .ret))))))
def rs104 : List RV := [.tmp 6]
theorem fact104 : compF Tryz.prog 104 = some (ac104,rs104,130) := by kernel_rfl
def ac105 : AC := .seq (.ops false [⟨some 4,.mv,[.c (.b false)],none,[]⟩]) (.seq (.ops false [⟨some 5,.mv,[.t 0],none,[]⟩,⟨some 6,.mv,[.t 1],none,[]⟩,⟨some 7,.nilchk,[.t 5],none,[0]⟩,⟨some 8,.iadrA 1440 1,[.t 7,.t 6],none,[2,1]⟩,⟨some 9,.load 1 false,[.t 8],none,[3]⟩,⟨some 10,.not,[.t 9],none,[4]⟩,⟨some 4,.mv,[.t 10],none,[5,0,1,2,3,4,5]⟩]) .ret)
def rs105 : List RV := [.tmp 4]
theorem fact105 : compF Tryz.prog 105 = some (ac105,rs105,11) := by kernel_rfl
theorem pure105 (L : List Bool) (hL : L.length = 1440) (i : Nat) (x : Bool) (hx : L[i]? = some x) : Pure Tryz.prog 105 [.ip (.agg (L.map PV.b)) 0, .i .i64 i] (.b (!x)) := by
  have hi := (List.getElem?_eq_some_iff.1 hx).1
  rw [hL] at hi
  have hi' : (i + 1 ≤ 1440) = True := eq_true (by omega)
  refine pure_by fact105 (by simp) fun hw X hX => ?_
  unfold ac105 rs105
  have qe := And.intro qR (And.intro @hx (And.intro @hL (And.intro @hi' (And.intro @Nat.zero_add (And.intro @Nat.mul_one @and_false))))); repeat' first | (show Run _ (.cond _ _ _) _ _; refine run_condX (fun hc => ?_) (fun hc => ?_) <;> (try simp only [qH, rng_0] at hc) <;> try contradiction) | (first | refine Stp.h ?_ | (show ∀ K : St → List Ft → Prop, _; intro K hK) | (show runS _ _ _ _ _; first | refine qY (hq := ?_) | refine qZ (hq := ?_)) | (refine hK _ _ ?_; clear hK K) | (refine hK _ _ rfl ?_; clear hK K) | (refine qZ (hq := ?_); try exact trivial) | omega)
  exact .refl _
theorem pure104 (ls : List Lim) (m : List Mov) (r : Req) (h0 : bothC ls m = 0) (hr : chkReq r = 0) : Pure Tryz.prog 104 [.sl 11 (ls.map Lim.pv), .sl 7 (m.map Mov.pv), r.pv] (.ip (.agg ((outK (evA ls m r) 1440).map PV.b)) 0) := by
  have hr0 := chkReq_0 hr
  have hp := chkPer_0 hr0.1
  have hdl := daysL_len r.per
  have hdr : daysR r.per = daysL r.per := by rw [daysR, if_pos hr0.1]
  have hb := h0
  simp only [firstE_cons] at hb
  have hls := chkLims_0 hb.1
  have hmm := chkMovs_0 hb.2.1
  have hA := evA_len hls.1 hls.2 m hr0.1
  refine pure_by fact104 (by simp) fun hw X hX => ?_
  unfold ac104 rs104
  have qe := And.intro @hdr (@List.map_replicate.{0, 0}); repeat' first | (show Run _ (.cond _ _ _) _ _; refine run_condX (fun hc => ?_) (fun hc => ?_) <;> (try simp only [qH, rng_0] at hc) <;> try contradiction) | (show RunOps _ _ _ _ (⟨_, .call 126, _, _, _⟩ :: _) _ _; refine run_callX (hf := pure126 r.per) (hn := ?_)) | (first | refine Stp.h ?_ | (show ∀ K : St → List Ft → Prop, _; intro K hK) | (show runS _ _ _ _ _; first | refine qY (hq := ?_) | refine qZ (hq := ?_)) | (refine hK _ _ ?_; clear hK K) | (refine hK _ _ rfl ?_; clear hK K) | (refine qZ (hq := ?_); try exact trivial) | omega)
  refine run_loop (κ := Nat) (fun k => ⟨[(1, .p (.sl 7 (m.map Mov.pv))), (5, .lp 5 0), (7, .lp 7 0), (8, .p (.sl 1 ((daysL r.per).map (.i .i64)))), (31, .p (.sl 11 (ls.map Lim.pv))), (32, .p (.i .i64 ls.length)), (33, .p (.i .i64 k))], [(5, .box (r.cells.map .p) false), (7, .box (edgO (egK ls m r k)) false)], [], false⟩) (fun k => k ≤ ls.length) (fun k => ls.length - k) 0 ?_ ?_ ?_
  · simp only [qS, Nat.reduceAdd, Nat.reduceMul, Nat.reduceEqDiff, Nat.reduceLeDiff, reduceIte, reduceCtorEq, Nat.reduceBEq, Nat.reduceLT, scE]
    exact ⟨rfl, by rw [← edgO_0]; rfl⟩
  · simp
  · intro k hk
    have qe := @scE; repeat (first | refine Stp.h ?_ | (show ∀ K : St → List Ft → Prop, _; intro K hK) | (show runS _ _ _ _ _; first | refine qY (hq := ?_) | refine qZ (hq := ?_)) | (refine hK _ _ ?_; clear hK K) | (refine hK _ _ rfl ?_; clear hK K) | (refine qZ (hq := ?_); try exact trivial) | omega)
    have qe := @scE; (show Run _ (.cond _ _ _) _ _; refine run_condX (fun hc => ?_) (fun hc => ?_) <;> (try simp only [qH, rng_0] at hc) <;> try contradiction)
    · obtain ⟨l, hx⟩ := some_at (i := k) (l := ls) (by omega)
      have h1 := hls.2 l (List.mem_of_getElem? hx)
      have hlm := chkLim_0 h1
      have qe := And.intro @scE (And.intro qR @hx); repeat' first | (show Run _ (.cond _ _ _) _ _; refine run_condX (fun hc => ?_) (fun hc => ?_) <;> (try simp only [qH, rng_0] at hc) <;> try contradiction) | (show RunOps _ _ _ _ (⟨_, .call 135, _, _, _⟩ :: _) _ _; refine run_callX (hf := pure135 l r.kind r.term h1) (hn := ?_)) | (show RunOps _ _ _ _ (⟨_, .call 92, _, _, _⟩ :: _) _ _; refine run_callX (hf := pure92 l m h1 (by omega)) (hn := ?_)) | (first | refine Stp.h ?_ | (show ∀ K : St → List Ft → Prop, _; intro K hK) | (show runS _ _ _ _ _; first | refine qY (hq := ?_) | refine qZ (hq := ?_)) | (refine hK _ _ ?_; clear hK K) | (refine hK _ _ rfl ?_; clear hK K) | (refine qZ (hq := ?_); try exact trivial) | omega)
      · exact ⟨k + 1, by omega, by omega, by simp, by rw [p1_skip hx hc]⟩
      · have hcl : countsL l r.kind r.term = true := hc
        refine run_loop (κ := Nat × Int × Int) (fun q => ⟨[(1, .p (.sl 7 (m.map Mov.pv))), (5, .lp 5 0), (7, .lp 7 0), (8, .p (.sl 1 ((daysL r.per).map (.i .i64)))), (11, .lp 11 0), (12, .lp 12 0), (13, .lp 13 0), (31, .p (.sl 11 (ls.map Lim.pv))), (32, .p (.i .i64 ls.length)), (33, .p (.i .i64 k)), (48, .p (.sl 1 ((daysL r.per).map (.i .i64)))), (49, .p (.i .i64 (daysL r.per).length)), (50, .p (.i .i64 q.1))], [(5, .box (r.cells.map .p) false), (7, .box (edgO (p1 ls m r k l q.1)) false), (11, .box (l.cells.map .p) false), (12, .box [.p (.sl 1 ((ofL l m).map (.i .i64)))] false), (13, .box [.p (.i .i64 0), .p (.i .i64 q.2.1), .p (.i .i64 q.2.2)] false)], [], false⟩) (fun q => q.1 ≤ (daysL r.per).length ∧ okP l m q.2) (fun q => (daysL r.per).length - q.1) (0, -1, 0) ?_ ?_ ?_
        · simp only [qS, Nat.reduceAdd, Nat.reduceMul, Nat.reduceEqDiff, Nat.reduceLeDiff, reduceIte, reduceCtorEq, Nat.reduceBEq, Nat.reduceLT, scE]
          (repeat' apply And.intro) <;> first | rfl | (simp [p1]; done)
        · exact ⟨by simp, .inl rfl⟩
        · intro q hq
          obtain ⟨q, a⟩ := q
          simp only at hq
          have qe := @scE; repeat (first | refine Stp.h ?_ | (show ∀ K : St → List Ft → Prop, _; intro K hK) | (show runS _ _ _ _ _; first | refine qY (hq := ?_) | refine qZ (hq := ?_)) | (refine hK _ _ ?_; clear hK K) | (refine hK _ _ rfl ?_; clear hK K) | (refine qZ (hq := ?_); try exact trivial) | omega)
          have qe := @scE; (show Run _ (.cond _ _ _) _ _; refine run_condX (fun hc => ?_) (fun hc => ?_) <;> (try simp only [qH, rng_0] at hc) <;> try contradiction)
          · obtain ⟨d, hd⟩ := some_at (i := q) (l := daysL r.per) (by omega)
            have hdm := daysL_mem (List.mem_of_getElem? hd)
            have qe := And.intro @scE (And.intro qR @hd); repeat' first | (show Run _ (.cond _ _ _) _ _; refine run_condX (fun hc => ?_) (fun hc => ?_) <;> (try simp only [qH, rng_0] at hc) <;> try contradiction) | (first | refine Stp.h ?_ | (show ∀ K : St → List Ft → Prop, _; intro K hK) | (show runS _ _ _ _ _; first | refine qY (hq := ?_) | refine qZ (hq := ?_)) | (refine hK _ _ ?_; clear hK K) | (refine hK _ _ rfl ?_; clear hK K) | (refine qZ (hq := ?_); try exact trivial) | omega)
            refine run_loop (κ := Nat × Int × Int) (fun e => ⟨[(1, .p (.sl 7 (m.map Mov.pv))), (5, .lp 5 0), (7, .lp 7 0), (8, .p (.sl 1 ((daysL r.per).map (.i .i64)))), (11, .lp 11 0), (12, .lp 12 0), (13, .lp 13 0), (15, .lp 15 0), (31, .p (.sl 11 (ls.map Lim.pv))), (32, .p (.i .i64 ls.length)), (33, .p (.i .i64 k)), (48, .p (.sl 1 ((daysL r.per).map (.i .i64)))), (49, .p (.i .i64 (daysL r.per).length)), (50, .p (.i .i64 q)), (57, .p (.agg [.i .i64 (d - 1), .i .i64 d])), (58, .p (.i .i64 e.1))], [(5, .box (r.cells.map .p) false), (7, .box (edgO (p2 ls m r k l q d e.1)) false), (11, .box (l.cells.map .p) false), (12, .box [.p (.sl 1 ((ofL l m).map (.i .i64)))] false), (13, .box [.p (.i .i64 0), .p (.i .i64 e.2.1), .p (.i .i64 e.2.2)] false), (15, .box [.p (.i .i64 d)] false)], [], false⟩) (fun e => e.1 ≤ 2 ∧ okP l m e.2) (fun e => 2 - e.1) (0, a) ?_ ?_ ?_
            · simp only [qS, Nat.reduceAdd, Nat.reduceMul, Nat.reduceEqDiff, Nat.reduceLeDiff, reduceIte, reduceCtorEq, Nat.reduceBEq, Nat.reduceLT, scE]
              (repeat' apply And.intro) <;> first | rfl | (simp [p2]; done)
            · exact ⟨by simp, hq.2⟩
            · intro e he
              obtain ⟨e, c⟩ := e
              simp only at he
              have qe := @scE; repeat (first | refine Stp.h ?_ | (show ∀ K : St → List Ft → Prop, _; intro K hK) | (show runS _ _ _ _ _; first | refine qY (hq := ?_) | refine qZ (hq := ?_)) | (refine hK _ _ ?_; clear hK K) | (refine hK _ _ rfl ?_; clear hK K) | (refine qZ (hq := ?_); try exact trivial) | omega)
              have qe := @scE; (show Run _ (.cond _ _ _) _ _; refine run_condX (fun hc => ?_) (fun hc => ?_) <;> (try simp only [qH, rng_0] at hc) <;> try contradiction)
              · have hid : ([.i .i64 (d - 1), .i .i64 d] : List PV)[e]? = some (.i .i64 (d - 1 + e)) := by
                  rcases (show e = 0 ∨ e = 1 by omega) with rfl | rfl <;> simp
                have qe := And.intro @scE (And.intro qR (And.intro @hid @Nat.mul_one)); repeat' first | (show Run _ (.cond _ _ _) _ _; refine run_condX (fun hc => ?_) (fun hc => ?_) <;> (try simp only [qH, rng_0] at hc) <;> try contradiction) | (show RunOps _ _ _ _ (⟨_, .call 91, _, _, _⟩ :: _) _ _; refine run_callX (hf := pure91 l (d - 1 + e)) (hn := ?_)) | (first | refine Stp.h ?_ | (show ∀ K : St → List Ft → Prop, _; intro K hK) | (show runS _ _ _ _ _; first | refine qY (hq := ?_) | refine qZ (hq := ?_)) | (refine hK _ _ ?_; clear hK K) | (refine hK _ _ rfl ?_; clear hK K) | (refine qZ (hq := ?_); try exact trivial) | omega)
                refine run_rfunc rfl (iter134 l (d - 1 + e) h1) ?_ ?_ [(1, .p (.sl 7 (m.map Mov.pv))), (5, .lp 5 0), (7, .lp 7 0), (8, .p (.sl 1 ((daysL r.per).map (.i .i64)))), (11, .lp 11 0), (12, .lp 12 0), (13, .lp 13 0), (15, .lp 15 0), (31, .p (.sl 11 (ls.map Lim.pv))), (32, .p (.i .i64 ls.length)), (33, .p (.i .i64 k)), (48, .p (.sl 1 ((daysL r.per).map (.i .i64)))), (49, .p (.i .i64 (daysL r.per).length)), (50, .p (.i .i64 q)), (57, .p (.agg [.i .i64 (d - 1), .i .i64 d])), (58, .p (.i .i64 e))] (fun i => [(5, .box (r.cells.map .p) false), (7, .box (edgO (p3 ls m r k l q d e i)) false), (11, .box (l.cells.map .p) false), (12, .box [.p (.sl 1 ((ofL l m).map (.i .i64)))] false), (13, .box [.p (.i .i64 0), .p (.i .i64 (lstP l m c ((beginsL l (d - 1 + e)).take i)).1), .p (.i .i64 (lstP l m c ((beginsL l (d - 1 + e)).take i)).2)] false), (15, .box [.p (.i .i64 d)] false)]) (fun _ => []) ?_ ?_ ?_
                · simp
                · simp [hX]
                · simp only [qS, Nat.reduceAdd, Nat.reduceMul, Nat.reduceEqDiff, Nat.reduceLeDiff, reduceIte, reduceCtorEq, Nat.reduceBEq, Nat.reduceLT, scE]
                  exact ⟨by simp [p3], rfl⟩
                · intro i t ht X' ro' hX'
                  simp only [List.getElem?_map, Option.map_eq_some_iff] at ht
                  obtain ⟨b, hbb, rfl⟩ := ht
                  have hbm := beginsL_mem h1 (List.mem_of_getElem? hbb)
                  have hpp := chkPer_0 hlm.2.2.2.2.2.2.2.1
                  have hnx := p3_next (ls := ls) (m := m) (r := r) (k := k) (q := q) hbb
                  have hln := lstP_next (l := l) (m := m) (a := c) hbb
                  have hlo := lstP_ok he.2 ((beginsL l (d - 1 + e)).take i)
                  have hPl := p3_len (i := i) hx hcl hd (show e < 2 by omega) hA
                  simp only [qS, Nat.reduceAdd, Nat.reduceMul, Nat.reduceEqDiff, Nat.reduceLeDiff, reduceIte, reduceCtorEq, Nat.reduceBEq, Nat.reduceLT, scE]
                  have qe := @scE; repeat' first | (show Run _ (.cond _ _ _) _ _; refine run_condX (fun hc => ?_) (fun hc => ?_) <;> (try simp only [qH, rng_0] at hc) <;> try contradiction) | (first | refine Stp.h ?_ | (show ∀ K : St → List Ft → Prop, _; intro K hK) | (show runS _ _ _ _ _; first | refine qY (hq := ?_) | refine qZ (hq := ?_)) | (refine hK _ _ ?_; clear hK K) | (refine hK _ _ rfl ?_; clear hK K) | (refine qZ (hq := ?_); try exact trivial) | omega)
                  intro X1 hX1
                  generalize lstP l m c ((beginsL l (d - 1 + e)).take i) = a' at hlo ⊢
                  obtain ⟨lb, lc⟩ := a'
                  simp only [okP] at hlo
                  have key : (lb = b ∧ lc = cntAll l m b) ∨ ¬ lb = b := by
                    by_cases h : lb = b
                    · refine .inl ⟨h, ?_⟩
                      rcases hlo with h2 | h2
                      · omega
                      · rw [h2, h]
                    · exact .inr h
                  by_cases hcm : cntAll l m b < l.most
                  · have hcm' := eq_true hcm
                    have hev : evB m l d b = [] := by rw [evB, if_pos hcm]
                    rcases key with ⟨h1, h2⟩ | hlb
                    · subst h1; subst h2
                      have qe := And.intro @scE (And.intro qR (And.intro @dec_self @hcm')); repeat' first | (show Run _ (.cond _ _ _) _ _; refine run_condX (fun hc => ?_) (fun hc => ?_) <;> (try simp only [qH, rng_0] at hc) <;> try contradiction) | (first | refine Stp.h ?_ | (show ∀ K : St → List Ft → Prop, _; intro K hK) | (show runS _ _ _ _ _; first | refine qY (hq := ?_) | refine qZ (hq := ?_)) | (refine hK _ _ ?_; clear hK K) | (refine hK _ _ rfl ?_; clear hK K) | (refine qZ (hq := ?_); try exact trivial) | omega)
                      rw [hln, hnx, hev, List.append_nil]; exact ⟨rfl, rfl⟩
                    · have hlb' := eq_false hlb
                      have qe := And.intro @scE (And.intro qR (And.intro @dec_self (And.intro @hcm' @hlb'))); repeat' first | (show Run _ (.cond _ _ _) _ _; refine run_condX (fun hc => ?_) (fun hc => ?_) <;> (try simp only [qH, rng_0] at hc) <;> try contradiction) | (show RunOps _ _ _ _ (⟨_, .call _, _, _, _⟩ :: _) _ _; refine run_callX (hf := pureCnt h1 hb.2.1 b (by omega) (by omega)) (hn := ?_)) | (first | refine Stp.h ?_ | (show ∀ K : St → List Ft → Prop, _; intro K hK) | (show runS _ _ _ _ _; first | refine qY (hq := ?_) | refine qZ (hq := ?_)) | (refine hK _ _ ?_; clear hK K) | (refine hK _ _ rfl ?_; clear hK K) | (refine qZ (hq := ?_); try exact trivial) | omega)
                      rw [hln, hnx, hev, List.append_nil]; exact ⟨rfl, rfl⟩
                  · have hcm' := eq_false hcm
                    by_cases hft : max 0 (b - 1440 * d) < min 1440 (b + l.len - 1440 * d)
                    · obtain ⟨f, hf⟩ : ∃ f : Nat, max 0 (b - 1440 * d) = f := ⟨(max 0 (b - 1440 * d)).toNat, by omega⟩
                      obtain ⟨t, ht⟩ : ∃ t : Nat, min 1440 (b + l.len - 1440 * d) = t := ⟨(min 1440 (b + l.len - 1440 * d)).toNat, by omega⟩
                      have hev : evB m l d b = [(f, t)] := by rw [evB, if_neg hcm, if_pos hft, hf, ht]; simp
                      have hb12 : f < t ∧ t ≤ 1440 := by omega
                      have hftc : ((f : Int) < t) = True := eq_true (by omega)
                      obtain ⟨x, hx1, hx2⟩ := edg_at (p3 ls m r k l q d e i) (i := f) (by omega)
                      obtain ⟨y, hy1, hy2⟩ := edg_at (p3 ls m r k l q d e i) (i := t) (by omega)
                      have hxo := edgO_at hx1
                      have hyo : ∀ v, ((edgO (p3 ls m r k l q d e i)).set f v)[t]? = some (LV.p (PV.i .i64 y)) := fun v => by rw [List.getElem?_set_ne (by omega)]; exact edgO_at hy1
                      rcases key with ⟨h1, h2⟩ | hlb
                      · subst h1; subst h2
                        have qe := And.intro @scE (And.intro qR (And.intro @dec_self (And.intro @hcm' (And.intro @hf (And.intro @ht (And.intro @hftc (And.intro @hxo (And.intro @hyo (And.intro @edgO_len (And.intro @Nat.zero_add @Nat.mul_one)))))))))); repeat' first | (show Run _ (.cond _ _ _) _ _; refine run_condX (fun hc => ?_) (fun hc => ?_) <;> (try simp only [qH, rng_0] at hc) <;> try contradiction) | (first | refine Stp.h ?_ | (show ∀ K : St → List Ft → Prop, _; intro K hK) | (show runS _ _ _ _ _; first | refine qY (hq := ?_) | refine qZ (hq := ?_)) | (refine hK _ _ ?_; clear hK K) | (refine hK _ _ rfl ?_; clear hK K) | (refine qZ (hq := ?_); try exact trivial) | omega)
                        rw [hln, hnx, hev, edgO_next hx1 hy1]; exact ⟨rfl, rfl⟩
                      · have hlb' := eq_false hlb
                        have qe := And.intro @scE (And.intro qR (And.intro @dec_self (And.intro @hcm' (And.intro @hlb' (And.intro @hf (And.intro @ht (And.intro @hftc (And.intro @hxo (And.intro @hyo (And.intro @edgO_len (And.intro @Nat.zero_add @Nat.mul_one))))))))))); repeat' first | (show Run _ (.cond _ _ _) _ _; refine run_condX (fun hc => ?_) (fun hc => ?_) <;> (try simp only [qH, rng_0] at hc) <;> try contradiction) | (show RunOps _ _ _ _ (⟨_, .call _, _, _, _⟩ :: _) _ _; refine run_callX (hf := pureCnt h1 hb.2.1 b (by omega) (by omega)) (hn := ?_)) | (first | refine Stp.h ?_ | (show ∀ K : St → List Ft → Prop, _; intro K hK) | (show runS _ _ _ _ _; first | refine qY (hq := ?_) | refine qZ (hq := ?_)) | (refine hK _ _ ?_; clear hK K) | (refine hK _ _ rfl ?_; clear hK K) | (refine qZ (hq := ?_); try exact trivial) | omega)
                        rw [hln, hnx, hev, edgO_next hx1 hy1]; exact ⟨rfl, rfl⟩
                    · have hft' := eq_false hft
                      have hev : evB m l d b = [] := by rw [evB, if_neg hcm, if_neg hft]
                      rcases key with ⟨h1, h2⟩ | hlb
                      · subst h1; subst h2
                        have qe := And.intro @scE (And.intro qR (And.intro @dec_self (And.intro @hcm' @hft'))); repeat' first | (show Run _ (.cond _ _ _) _ _; refine run_condX (fun hc => ?_) (fun hc => ?_) <;> (try simp only [qH, rng_0] at hc) <;> try contradiction) | (first | refine Stp.h ?_ | (show ∀ K : St → List Ft → Prop, _; intro K hK) | (show runS _ _ _ _ _; first | refine qY (hq := ?_) | refine qZ (hq := ?_)) | (refine hK _ _ ?_; clear hK K) | (refine hK _ _ rfl ?_; clear hK K) | (refine qZ (hq := ?_); try exact trivial) | omega)
                        rw [hln, hnx, hev, List.append_nil]; exact ⟨rfl, rfl⟩
                      · have hlb' := eq_false hlb
                        have qe := And.intro @scE (And.intro qR (And.intro @dec_self (And.intro @hcm' (And.intro @hlb' @hft')))); repeat' first | (show Run _ (.cond _ _ _) _ _; refine run_condX (fun hc => ?_) (fun hc => ?_) <;> (try simp only [qH, rng_0] at hc) <;> try contradiction) | (show RunOps _ _ _ _ (⟨_, .call _, _, _, _⟩ :: _) _ _; refine run_callX (hf := pureCnt h1 hb.2.1 b (by omega) (by omega)) (hn := ?_)) | (first | refine Stp.h ?_ | (show ∀ K : St → List Ft → Prop, _; intro K hK) | (show runS _ _ _ _ _; first | refine qY (hq := ?_) | refine qZ (hq := ?_)) | (refine hK _ _ ?_; clear hK K) | (refine hK _ _ rfl ?_; clear hK K) | (refine qZ (hq := ?_); try exact trivial) | omega)
                        rw [hln, hnx, hev, List.append_nil]; exact ⟨rfl, rfl⟩
                · simp only [List.length_map, p3_end]
                  have qe := And.intro @scE @List.take_length.{0}; repeat' first | (show Run _ (.cond _ _ _) _ _; refine run_condX (fun hc => ?_) (fun hc => ?_) <;> (try simp only [qH, rng_0] at hc) <;> try contradiction) | (first | refine Stp.h ?_ | (show ∀ K : St → List Ft → Prop, _; intro K hK) | (show runS _ _ _ _ _; first | refine qY (hq := ?_) | refine qZ (hq := ?_)) | (refine hK _ _ ?_; clear hK K) | (refine hK _ _ rfl ?_; clear hK K) | (refine qZ (hq := ?_); try exact trivial) | omega)
                  refine ⟨(e + 1, lstP l m c (beginsL l (d - 1 + e))), ⟨by simp only; omega, lstP_ok he.2 _⟩, by simp only; omega, ?_⟩
                  simp
              · have qe := @scE; repeat' first | (show Run _ (.cond _ _ _) _ _; refine run_condX (fun hc => ?_) (fun hc => ?_) <;> (try simp only [qH, rng_0] at hc) <;> try contradiction) | (first | refine Stp.h ?_ | (show ∀ K : St → List Ft → Prop, _; intro K hK) | (show runS _ _ _ _ _; first | refine qY (hq := ?_) | refine qZ (hq := ?_)) | (refine hK _ _ ?_; clear hK K) | (refine hK _ _ rfl ?_; clear hK K) | (refine qZ (hq := ?_); try exact trivial) | omega)
                have ee : e = 2 := by omega
                subst ee
                refine ⟨(q + 1, c), ⟨by simp only; omega, he.2⟩, by simp only; omega, ?_⟩
                simp [p2_end hd]
          · have qe := @scE; repeat' first | (show Run _ (.cond _ _ _) _ _; refine run_condX (fun hc => ?_) (fun hc => ?_) <;> (try simp only [qH, rng_0] at hc) <;> try contradiction) | (first | refine Stp.h ?_ | (show ∀ K : St → List Ft → Prop, _; intro K hK) | (show runS _ _ _ _ _; first | refine qY (hq := ?_) | refine qZ (hq := ?_)) | (refine hK _ _ ?_; clear hK K) | (refine hK _ _ rfl ?_; clear hK K) | (refine qZ (hq := ?_); try exact trivial) | omega)
            have eq : q = (daysL r.per).length := by omega
            subst eq
            refine ⟨k + 1, by omega, by omega, by simp, ?_⟩
            rw [p1_end hx hcl]
    · have qe := And.intro @scE (And.intro @scO (@List.map_replicate.{0, 0})); repeat' first | (show Run _ (.cond _ _ _) _ _; refine run_condX (fun hc => ?_) (fun hc => ?_) <;> (try simp only [qH, rng_0] at hc) <;> try contradiction) | (first | refine Stp.h ?_ | (show ∀ K : St → List Ft → Prop, _; intro K hK) | (show runS _ _ _ _ _; first | refine qY (hq := ?_) | refine qZ (hq := ?_)) | (refine hK _ _ ?_; clear hK K) | (refine hK _ _ rfl ?_; clear hK K) | (refine qZ (hq := ?_); try exact trivial) | omega)
      have e : k = ls.length := by omega
      subst e
      refine run_loop (κ := Nat) (fun i => ⟨[(7, .lp 7 0), (22, .lp 113 0), (23, .p (.i .i64 (preS (edg (evA ls m r)) i))), (114, .p (.i .i64 i))], [(7, .box (edgO (evA ls m r)) false), (113, .box (outO (evA ls m r) i) false)], [], false⟩) (fun i => i ≤ 1440) (fun i => 1440 - i) 0 ?_ ?_ ?_
      · simp only [qS, Nat.reduceAdd, Nat.reduceMul, Nat.reduceEqDiff, Nat.reduceLeDiff, reduceIte, reduceCtorEq, Nat.reduceBEq, Nat.reduceLT, scE, scO]
        exact ⟨⟨rfl, rfl⟩, rfl, by rw [outO_0]⟩
      · simp
      · intro i hi
        have hevo : ∀ e ∈ evA ls m r, e.1 < e.2 ∧ e.2 ≤ 1440 := fun e he => evA_ok he
        have hbd := preS_bd hevo (i := i) (by omega)
        have qe := And.intro @scE @scO; repeat (first | refine Stp.h ?_ | (show ∀ K : St → List Ft → Prop, _; intro K hK) | (show runS _ _ _ _ _; first | refine qY (hq := ?_) | refine qZ (hq := ?_)) | (refine hK _ _ ?_; clear hK K) | (refine hK _ _ rfl ?_; clear hK K) | (refine qZ (hq := ?_); try exact trivial) | omega)
        have qe := And.intro @scE @scO; (show Run _ (.cond _ _ _) _ _; refine run_condX (fun hc => ?_) (fun hc => ?_) <;> (try simp only [qH, rng_0] at hc) <;> try contradiction)
        · obtain ⟨x, hx1, hx2⟩ := edg_at (evA ls m r) (i := i) (by omega)
          have hxo := edgO_at hx1
          have hpn := preS_next hx1
          have hpp := preS_pos hevo (i := i) (by omega)
          have hon := outO_next (evA ls m r) (k := i) (by omega)
          rw [hpn] at hpp
          have qe := And.intro @scE (And.intro @scO (And.intro @hxo (And.intro @hpp (And.intro @edgO_len (And.intro @outO_len (And.intro @hon (And.intro @Nat.zero_add @Nat.mul_one))))))); repeat' first | (show Run _ (.cond _ _ _) _ _; refine run_condX (fun hc => ?_) (fun hc => ?_) <;> (try simp only [qH, rng_0] at hc) <;> try contradiction) | (first | refine Stp.h ?_ | (show ∀ K : St → List Ft → Prop, _; intro K hK) | (show runS _ _ _ _ _; first | refine qY (hq := ?_) | refine qZ (hq := ?_)) | (refine hK _ _ ?_; clear hK K) | (refine hK _ _ rfl ?_; clear hK K) | (refine qZ (hq := ?_); try exact trivial) | omega)
          exact ⟨i + 1, by omega, by omega, by rw [hpn]; simp, rfl⟩
        · have qe := And.intro @scE (And.intro @scO (And.intro @goO @boxO)); repeat' first | (show Run _ (.cond _ _ _) _ _; refine run_condX (fun hc => ?_) (fun hc => ?_) <;> (try simp only [qH, rng_0] at hc) <;> try contradiction) | (first | refine Stp.h ?_ | (show ∀ K : St → List Ft → Prop, _; intro K hK) | (show runS _ _ _ _ _; first | refine qY (hq := ?_) | refine qZ (hq := ?_)) | (refine hK _ _ ?_; clear hK K) | (refine hK _ _ rfl ?_; clear hK K) | (refine qZ (hq := ?_); try exact trivial) | omega)
          have e : i = 1440 := by omega
          subst e
          exact .refl _
end Go.Proofs.YtcfbdeghmckelaaGreat
