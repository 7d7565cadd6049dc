/- The statement CapacityChanges is proved: Put, Without, Merge and Dropped return the results or the errors of the reference. No conditions. -/
import Derived.Test.YtcfbdeghmckelaaGreatJR3
import Derived.Test.YtcfbdeghmckelaaGreatJA1
import Derived.Test.YtcfbdeghmckelaaGreatJW32
import Derived.Test.YtcfbdeghmckelaaGreatJP6
import Derived.Test.YtcfbdeghmckelaaGreatJL0
set_option linter.all false
namespace Go.Proofs.YtcfbdeghmckelaaGreat
open Go.RowKit Go.ChangeShapes Go.WideShapes Go.ChangeAt
set_option maxRecDepth 100000
set_option linter.unusedVariables false
set_option linter.unusedSimpArgs false
set_option maxHeartbeats 4000000
theorem filter_at (n : ByteArray) : ∀ l : List Lim, (l.map Lim.name).Nodup → 0 ≤ atL n (l.map Lim.name) → l.filter (fun x => !decide (x.name = n)) = l.take (atL n (l.map Lim.name)).toNat ++ l.drop ((atL n (l.map Lim.name)).toNat + 1)
  | [], _, h => by simp [atL] at h
  | x :: r, hd, h => by
    rw [List.map_cons, List.nodup_cons] at hd
    by_cases hx : x.name = n
    · have h0 : atL n ((x :: r).map Lim.name) = 0 := by simp [atL, hx]
      rw [h0, List.filter_cons_of_neg (by simp [hx])]
      show _ = [] ++ r
      rw [List.nil_append, List.filter_eq_self]
      intro y hy
      simp only [Bool.not_eq_true', decide_eq_false_iff_not]
      intro e
      exact hd.1 (List.mem_map.2 ⟨y, hy, by rw [e, hx]⟩)
    · have h0 : atL n ((x :: r).map Lim.name) = if atL n (r.map Lim.name) < 0 then -1 else atL n (r.map Lim.name) + 1 := by simp [atL, hx]
      rw [h0] at h
      have h1 : 0 ≤ atL n (r.map Lim.name) := by split at h <;> omega
      have ih := filter_at n r hd.2 h1
      rw [h0, if_neg (by omega), List.filter_cons_of_pos (by simp [hx]), ih]
      have e : (atL n (r.map Lim.name) + 1).toNat = (atL n (r.map Lim.name)).toNat + 1 := by omega
      rw [e]; rfl
theorem put_len {l : List Lim} {x : Lim} (h0 : firstE [chkLims l, chkLim x] = 0) (hl : l.length ≤ 32) : (32 < ((putL l x).length : Int)) ↔ putE l x = 5 := by
  rw [putL, putE, if_pos h0]
  by_cases h1 : 0 ≤ atL x.name (l.map Lim.name)
  · rw [if_pos h1, if_pos h1, List.length_set]; omega
  · rw [if_neg h1, if_neg h1]
    by_cases h2 : (l.length : Int) = 32
    · rw [if_pos h2]; simp; omega
    · rw [if_neg h2]; simp; omega
theorem put_ok {l : List Lim} {x : Lim} (h0 : firstE [chkLims l, chkLim x] = 0) (h5 : putE l x ≠ 5) : putE l x = 0 ∧ putR l x = putL l x := by
  have h : putE l x = 0 := by
    rw [putE, if_pos h0] at h5 ⊢
    (repeat' split) <;> first | rfl | (rename_i h1 h2; rw [if_neg h1, if_pos h2] at h5; exact absurd rfl h5)
  exact ⟨h, by rw [putR, if_pos h]⟩
theorem put_lb {l : List Lim} {x : Lim} : (putR l x).length ≤ 33 := by
  rw [putR]
  split
  · rename_i h
    have h0 : firstE [chkLims l, chkLim x] = 0 := by
      rw [putE] at h
      split at h
      · assumption
      · exact h
    have hl := (chkLims_0 (firstE_cons.1 h0).1).1
    rw [putL]
    split
    · rw [List.length_set]; omega
    · simp; omega
  · simp
theorem wout_lb {l : List Lim} {n : ByteArray} : (woutR l n).length ≤ 32 := by
  rw [woutR]
  split
  · rename_i h
    have hl := (chkLims_0 (firstE_cons.1 h).1).1
    have := List.length_filter_le (fun x : Lim => !decide (x.name = n)) l
    omega
  · simp
def chgPV (x : Lim) (n : ByteArray) (o : List Mov) : PV := .agg [.s x.name, .s x.kind, .s x.term, .i .i64 x.len, .i .i64 x.step, .i .i64 x.fro, .i .i64 x.to, .i .i64 x.per.fro, .i .i64 x.per.to, .i .i64 x.per.days, .i .i64 x.most, .s n, .sl 7 (o.map Mov.pv)]
theorem par117 : parP Tryz.prog 4 117 = some (true, [.s, .s, .s, iT, iT, iT, iT, iT, iT, iT, iT, .s, .sl true movT]) := by kernel_rfl
theorem fit_chg {p : PV} (h : FitPar Tryz.prog 4 117 p) : ∃ x n o, p = chgPV x n o := by
  obtain ⟨⟨ag, c, l, hp, rfl, hl⟩, hb⟩ := h
  rw [par117] at hp
  simp only [Option.some.injEq, Prod.mk.injEq] at hp
  obtain ⟨rfl, rfl⟩ := hp
  match l, hl with
  | [_, _, _, _, _, _, _, _, _, _, _, _, _], ⟨⟨a, ha⟩, ⟨b, hb⟩, ⟨c, hc⟩, ⟨d, hd⟩, ⟨e, he⟩, ⟨f, hf⟩, ⟨g, hg⟩, ⟨i, hi⟩, ⟨j, hj⟩, ⟨k, hk⟩, ⟨m, hm⟩, ⟨n, hn⟩, ⟨xs, hq, hx⟩, _⟩ =>
    subst ha hb hc hd he hf hg hi hj hk hm hn hq
    obtain ⟨L, rfl⟩ := list_of (f := Mov.pv) (xs := xs) fun x h => by
      obtain ⟨l, rfl, hf⟩ := hx x h
      exact mov_of hf
    exact ⟨⟨a, b, c, d, e, f, g, ⟨i, j, k⟩, m⟩, n, L, rfl⟩
def ac13 : AC := .seq (.ops false [⟨some 5,.box,[.t 2],none,[]⟩,⟨some 6,.mv,[.c (.b false)],none,[]⟩]) (.seq (.ops false [⟨some 26,.mv,[.t 0],none,[]⟩,⟨some 27,.call 14,[.t 26],none,[0]⟩,⟨some 7,.mv,[.t 27],none,[1,1,0,1]⟩]) (.seq (.seq (.ops false [⟨some 28,.mv,[.t 7],none,[]⟩,⟨some 29,.call 15,[.t 28,.c (.i .i64 6)],none,[0]⟩,⟨some 30,.not,[.t 29],none,[1]⟩,⟨some 31,.mv,[.t 30],none,[2,1]⟩,⟨some 32,.fadr 0,[.t 5],some (31,false),[3]⟩,⟨some 33,.load 11 true,[.t 32],some (31,false),[4,3]⟩,⟨some 34,.bslice 48 11 (.agg [(.s (bs [])),(.s (bs [])),(.s (bs [])),(.i .i64 0),(.i .i64 0),(.i .i64 0),(.i .i64 0),(.i .i64 0),(.i .i64 0),(.i .i64 0),(.i .i64 0)]) 1 [0],[.t 33],some (31,false),[5,3]⟩,⟨some 35,.call 15,[.t 34,.c (.i .i64 1)],some (31,false),[6,3,3]⟩,⟨some 36,.not,[.t 35],some (31,false),[7,3]⟩,⟨some 37,.pick,[.t 31,.c (.b true),.t 36],none,[3,8]⟩,⟨some 38,.mv,[.t 37],none,[9,7]⟩,⟨some 39,.mv,[.t 1],some (38,false),[10]⟩,⟨some 40,.call 16,[.t 39,.c (.i .i64 10)],some (38,false),[11,10,10]⟩,⟨some 41,.not,[.t 40],some (38,false),[12,10]⟩,⟨some 42,.pick,[.t 38,.c (.b true),.t 41],none,[10,13]⟩,⟨some 43,.mv,[.t 42],none,[14,12]⟩,⟨some 44,.fadr 12,[.t 5],some (43,false),[15]⟩,⟨some 45,.load 1 false,[.t 44],some (43,false),[16,15]⟩,⟨some 46,.call 16,[.t 45,.c (.i .i64 10)],some (43,false),[17,15,15]⟩,⟨some 47,.not,[.t 46],some (43,false),[18,15]⟩,⟨some 48,.pick,[.t 43,.c (.b true),.t 47],none,[15,19]⟩,⟨some 49,.mv,[.t 48],none,[20,18]⟩,⟨some 50,.fadr 11,[.t 5],some (49,false),[21]⟩,⟨some 51,.load 1 false,[.t 50],some (49,false),[22,21]⟩,⟨some 52,.len true,[.t 51],some (49,false),[23,21]⟩,⟨some 53,.bin .gtr,[.t 52,.c (.i .i64 40)],some (49,false),[24,21]⟩,⟨some 54,.pick,[.t 49,.c (.b true),.t 53],none,[21,25]⟩]) (.cond (.t 54) (.seq (.ops false [⟨some 55,.call 18,[],none,[]⟩,⟨some 6,.mv,[.t 55],none,[0,0,0]⟩]) .ret) .skip)) (.seq (.ops false [⟨some 57,.mv,[.t 0],none,[]⟩,⟨some 58,.fadr 0,[.t 5],none,[]⟩,⟨some 59,.load 11 true,[.t 58],none,[1]⟩,⟨some 60,.call 63,[.t 57,.t 59],none,[0,2]⟩,⟨some 56,.mv,[.t 60],none,[3]⟩,⟨some 61,.ext 0,[.t 56],none,[4]⟩,⟨some 62,.ext 1,[.t 56],none,[4]⟩,⟨some 8,.mv,[.t 61],none,[5,3,0,1,2,3,4,5]⟩,⟨some 9,.mv,[.t 62],none,[6,7,0,1,2,3,4,5,6,7]⟩]) (.seq (.ops false [⟨some 64,.mv,[.t 0],none,[]⟩,⟨some 65,.fadr 11,[.t 5],none,[]⟩,⟨some 66,.load 1 false,[.t 65],none,[1]⟩,⟨some 67,.call 64,[.t 64,.t 66],none,[0,2]⟩,⟨some 63,.mv,[.t 67],none,[3]⟩,⟨some 68,.ext 0,[.t 63],none,[4]⟩,⟨some 69,.ext 1,[.t 63],none,[4]⟩,⟨some 10,.mv,[.t 68],none,[5,3,0,1,2,3,4,5]⟩,⟨some 11,.mv,[.t 69],none,[6,7,0,1,2,3,4,5,6,7]⟩]) (.seq (.ops false [⟨some 71,.mv,[.t 1],none,[]⟩,⟨some 72,.fadr 12,[.t 5],none,[]⟩,⟨some 73,.load 1 false,[.t 72],none,[1]⟩,⟨some 74,.call 66,[.t 71,.t 73],none,[0,2]⟩,⟨some 70,.mv,[.t 74],none,[3]⟩,⟨some 75,.ext 0,[.t 70],none,[4]⟩,⟨some 76,.ext 1,[.t 70],none,[4]⟩,⟨some 12,.mv,[.t 75],none,[5,3,0,1,2,3,4,5]⟩,⟨some 13,.mv,[.t 76],none,[6,7,0,1,2,3,4,5,6,7]⟩]) (.seq (.ops false [⟨some 78,.mv,[.t 1],none,[]⟩,⟨some 79,.fadr 11,[.t 5],none,[]⟩,⟨some 80,.load 1 false,[.t 79],none,[1]⟩,⟨some 81,.call 68,[.t 78,.t 80],none,[0,2]⟩,⟨some 77,.mv,[.t 81],none,[3]⟩,⟨some 82,.ext 0,[.t 77],none,[4]⟩,⟨some 83,.ext 1,[.t 77],none,[4]⟩,⟨some 14,.mv,[.t 82],none,[5,3,0,1,2,3,4,5]⟩,⟨some 15,.mv,[.t 83],none,[6,7,0,1,2,3,4,5,6,7]⟩]) (.seq (.ops false [⟨some 84,.fadr 11,[.t 5],none,[]⟩,⟨some 85,.load 1 false,[.t 84],none,[0]⟩,⟨some 86,.call 70,[.t 85],none,[1]⟩,⟨some 87,.not,[.t 86],none,[2]⟩,⟨some 88,.call 32,[.t 87,.c (.i .i64 8)],none,[3,2]⟩,⟨some 16,.mv,[.t 88],none,[4,4,0,1,2,3,4]⟩]) (.seq (.ops true [⟨some 89,.mv,[.t 7],none,[]⟩,⟨some 90,.call 23,[.t 89],none,[0]⟩,⟨some 91,.fadr 0,[.t 5],none,[]⟩,⟨some 92,.load 11 true,[.t 91],none,[2]⟩,⟨some 93,.call 31,[.t 92],none,[3,1]⟩,⟨some 94,.bslice 3 1 (.i .i64 0) 2 [0,1],[.t 90,.t 93],none,[1,4]⟩,⟨some 95,.call 34,[.t 94],none,[5,4]⟩,⟨some 17,.mv,[.t 95],none,[6,6,0,1,2,3,4,5,6]⟩]) (.seq (.ops false [⟨some 96,.mv,[.t 7],none,[]⟩,⟨some 97,.call 23,[.t 96],none,[0]⟩,⟨some 98,.mv,[.t 16],none,[]⟩,⟨some 99,.bslice 3 1 (.i .i64 0) 2 [0,1],[.t 97,.t 98],none,[1,2]⟩,⟨some 100,.call 34,[.t 99],none,[3,1]⟩,⟨some 18,.mv,[.t 100],none,[4,4,0,1,2,3,4]⟩]) (.seq (.ops true [⟨some 101,.mv,[.t 1],none,[]⟩,⟨some 102,.call 25,[.t 101],none,[0]⟩,⟨some 103,.fadr 12,[.t 5],none,[]⟩,⟨some 104,.load 1 false,[.t 103],none,[2]⟩,⟨some 105,.call 25,[.t 104],none,[3,1]⟩,⟨some 106,.bslice 3 1 (.i .i64 0) 2 [0,1],[.t 102,.t 105],none,[1,4]⟩,⟨some 107,.call 34,[.t 106],none,[5,4]⟩,⟨some 19,.mv,[.t 107],none,[6,6,0,1,2,3,4,5,6]⟩]) (.seq (.ops false [⟨some 108,.mv,[.t 1],none,[]⟩,⟨some 109,.call 25,[.t 108],none,[0]⟩,⟨some 110,.mv,[.t 16],none,[]⟩,⟨some 111,.bslice 3 1 (.i .i64 0) 2 [0,1],[.t 109,.t 110],none,[1,2]⟩,⟨some 112,.call 34,[.t 111],none,[3,1]⟩,⟨some 20,.mv,[.t 112],none,[4,4,0,1,2,3,4]⟩]) (.seq (.ops false [⟨some 21,.mv,[.c .nilsl],none,[]⟩,⟨some 22,.mv,[.c .nilsl],none,[0]⟩]) (.seq (.ops false [⟨some 23,.mv,[.c .nilsl],none,[]⟩,⟨some 24,.mv,[.c .nilsl],none,[0]⟩]) (.seq (.seq (.ops false [⟨some 113,.mv,[.t 17],none,[]⟩,⟨some 114,.bin .eql,[.t 113,.c (.i .i64 0)],none,[0]⟩]) (.cond (.t 114) (.seq (.ops false [⟨some 115,.mv,[.t 7],none,[]⟩,⟨some 116,.fadr 0,[.t 5],none,[]⟩,⟨some 117,.load 11 true,[.t 116],none,[1]⟩,⟨some 118,.call 71,[.t 115,.t 117],none,[0,2]⟩,⟨some 21,.mv,[.t 118],none,[3,3,0,1,2,3]⟩]) (.seq (.ops false [⟨some 119,.mv,[.t 21],none,[]⟩,⟨some 120,.len false,[.t 119],none,[0]⟩,⟨some 121,.bin .gtr,[.t 120,.c (.i .i64 32)],none,[1]⟩]) (.cond (.t 121) (.ops false [⟨some 21,.mv,[.c .nilsl],none,[]⟩,⟨some 17,.mv,[.c (.i .i64 5)],none,[0,0]⟩]) .skip))) .skip)) (.seq (.seq (.ops false [⟨some 122,.mv,[.t 18],none,[]⟩,⟨some 123,.bin .eql,[.t 122,.c (.i .i64 0)],none,[0]⟩]) (.cond (.t 123) (.seq (.ops false [⟨some 124,.mv,[.t 7],none,[]⟩,⟨some 125,.fadr 11,[.t 5],none,[]⟩,⟨some 126,.load 1 false,[.t 125],none,[1]⟩,⟨some 127,.call 72,[.t 124,.t 126],none,[0,2]⟩,⟨some 25,.mv,[.t 127],none,[3,3,0,1,2,3]⟩]) (.seq (.ops false [⟨some 128,.mv,[.t 25],none,[]⟩,⟨some 129,.bin .lss,[.t 128,.c (.i .i64 0)],none,[0]⟩,⟨some 130,.call 32,[.t 129,.c (.i .i64 10)],none,[1]⟩,⟨some 18,.mv,[.t 130],none,[2,2,0,1,2]⟩]) (.seq (.ops false [⟨some 131,.mv,[.t 18],none,[]⟩,⟨some 132,.bin .eql,[.t 131,.c (.i .i64 0)],none,[0]⟩]) (.cond (.t 132) (.ops false [⟨some 133,.mv,[.t 7],none,[]⟩,⟨some 134,.mv,[.t 25],none,[]⟩,⟨some 135,.call 73,[.t 133,.t 134],none,[0,1]⟩,⟨some 22,.mv,[.t 135],none,[2,2,0,1,2]⟩]) .skip)))) .skip)) (.seq (.seq (.ops false [⟨some 136,.mv,[.t 19],none,[]⟩,⟨some 137,.bin .eql,[.t 136,.c (.i .i64 0)],none,[0]⟩]) (.cond (.t 137) (.ops false [⟨some 138,.mv,[.t 1],none,[]⟩,⟨some 139,.fadr 12,[.t 5],none,[]⟩,⟨some 140,.load 1 false,[.t 139],none,[1]⟩,⟨some 141,.call 69,[.t 138,.t 140],none,[0,2]⟩,⟨some 23,.mv,[.t 141],none,[3,3,0,1,2,3]⟩]) .skip)) (.seq (.seq (.ops false [⟨some 142,.mv,[.t 20],none,[]⟩,⟨some 143,.bin .eql,[.t 142,.c (.i .i64 0)],none,[0]⟩]) (.cond (.t 143) (.ops false [⟨some 144,.mv,[.t 1],none,[]⟩,⟨some 145,.fadr 11,[.t 5],none,[]⟩,⟨some 146,.load 1 false,[.t 145],none,[1]⟩,⟨some 147,.call 74,[.t 144,.t 146],none,[0,2]⟩,⟨some 24,.mv,[.t 147],none,[3,3,0,1,2,3]⟩]) .skip)) (.seq (.ops false [⟨some 148,.mv,[.t 9],none,[]⟩,⟨some 149,.mv,[.t 17],none,[]⟩,⟨some 150,.bin .eql,[.t 148,.t 149],none,[0,1]⟩,⟨some 151,.mv,[.t 150],none,[2]⟩,⟨some 152,.mv,[.t 8],some (151,true),[3]⟩,⟨some 153,.call 14,[.t 152],some (151,true),[4,3,3]⟩,⟨some 154,.mv,[.t 21],some (151,true),[3]⟩,⟨some 155,.call 65,[.t 153,.t 154],some (151,true),[5,6,5,3]⟩,⟨some 156,.pick,[.t 151,.t 155,.c (.b false)],none,[3,7]⟩,⟨some 157,.mv,[.t 156],none,[8,7]⟩,⟨some 158,.mv,[.t 11],some (157,true),[9]⟩,⟨some 159,.mv,[.t 18],some (157,true),[9]⟩,⟨some 160,.bin .eql,[.t 158,.t 159],some (157,true),[10,11,9]⟩,⟨some 161,.pick,[.t 157,.t 160,.c (.b false)],none,[9,12]⟩,⟨some 162,.mv,[.t 161],none,[13,9]⟩,⟨some 163,.mv,[.t 10],some (162,true),[14]⟩,⟨some 164,.call 14,[.t 163],some (162,true),[15,14,14]⟩,⟨some 165,.mv,[.t 22],some (162,true),[14]⟩,⟨some 166,.call 65,[.t 164,.t 165],some (162,true),[16,17,16,14]⟩,⟨some 167,.pick,[.t 162,.t 166,.c (.b false)],none,[14,18]⟩,⟨some 168,.mv,[.t 167],none,[19,18]⟩,⟨some 169,.mv,[.t 13],some (168,true),[20]⟩,⟨some 170,.mv,[.t 19],some (168,true),[20]⟩,⟨some 171,.bin .eql,[.t 169,.t 170],some (168,true),[21,22,20]⟩,⟨some 172,.pick,[.t 168,.t 171,.c (.b false)],none,[20,23]⟩,⟨some 173,.mv,[.t 172],none,[24,20]⟩,⟨some 174,.mv,[.t 12],some (173,true),[25]⟩,⟨some 175,.mv,[.t 23],some (173,true),[25]⟩,⟨some 176,.call 26,[.t 174,.t 175],some (173,true),[26,27,25,25]⟩,⟨some 177,.pick,[.t 173,.t 176,.c (.b false)],none,[25,28]⟩,⟨some 178,.mv,[.t 177],none,[29,28]⟩,⟨some 179,.mv,[.t 15],some (178,true),[30]⟩,⟨some 180,.mv,[.t 20],some (178,true),[30]⟩,⟨some 181,.bin .eql,[.t 179,.t 180],some (178,true),[31,32,30]⟩,⟨some 182,.pick,[.t 178,.t 181,.c (.b false)],none,[30,33]⟩,⟨some 183,.mv,[.t 182],none,[34,30]⟩,⟨some 184,.mv,[.t 14],some (183,true),[35]⟩,⟨some 185,.mv,[.t 24],some (183,true),[35]⟩,⟨some 186,.call 26,[.t 184,.t 185],some (183,true),[36,37,35,35]⟩,⟨some 187,.pick,[.t 183,.t 186,.c (.b false)],none,[35,38]⟩,⟨some 188,.mv,[.t 187],none,[39,38]⟩,⟨some 189,.call 18,[],some (188,true),[40,40]⟩,⟨some 190,.pick,[.t 188,.t 189,.c (.b false)],none,[40,41]⟩,⟨some 6,.mv,[.t 190],none,[42,41,0,1,2,3,4,5,6,7,8,9,10,11,12,13,14,15,16,17,18,19,20,21,22,23,24,25,26,27,28,29,30,31,32,33,34,35,36,37,38,39,40,41,42]⟩]) .ret))))))))))))))))))
def rs13 : List RV := [.tmp 6]
theorem fact13 : compF Tryz.prog 13 = some (ac13,rs13,191) := by kernel_rfl
theorem pure13 (l : List Lim) (m : List Mov) (x : Lim) (n : ByteArray) (o : List Mov) (hn : l.length * 112 ≤ 140737488355328) : Pure Tryz.prog 13 [.sl 11 (l.map Lim.pv), .sl 7 (m.map Mov.pv), chgPV x n o] (.b true) := by
  refine pure_by fact13 (by simp [chgPV]) fun hw X hX => ?_
  unfold ac13 rs13 chgPV
  cases hs : shLims l 6 with
  | false =>
    have qe := And.intro qR @hs; repeat' first | (show RunOps _ _ _ _ (⟨_, .call 14, _, _, _⟩ :: _) _ _; refine run_callX (hf := pure14 l hn) (hn := ?_)) | (first | refine Stp.h ?_ | (show ∀ K : St → List Ft → Prop, _; intro K hK) | (show runS _ _ _ _ _; first | refine qY (hq := ?_) | refine qZ (hq := ?_)) | (refine hK _ _ ?_; clear hK K) | (refine hK _ _ rfl ?_; clear hK K) | (refine qZ (hq := ?_); try exact trivial) | omega)
    refine run_callP 4 (c := true) (pure15 l 6) rfl (ht := by simp (disch := omega) only [qS, Nat.reduceAdd, Nat.reduceMul, Nat.reduceEqDiff, Nat.reduceLeDiff, reduceIte, reduceCtorEq, Nat.reduceBEq, Nat.reduceLT, qe] <;> rfl) (hp := fun _ => by simp (disch := omega) only [qS, Nat.reduceAdd, Nat.reduceMul, Nat.reduceEqDiff, Nat.reduceLeDiff, reduceIte, reduceCtorEq, Nat.reduceBEq, Nat.reduceLT, qe]) (.inl rfl) ?_
    dsimp only [List.take, List.drop]
    have qe := And.intro qR @hs; (first | refine Stp.h ?_ | (show ∀ K : St → List Ft → Prop, _; intro K hK) | (show runS _ _ _ _ _; first | refine qY (hq := ?_) | refine qZ (hq := ?_)) | (refine hK _ _ ?_; clear hK K) | (refine hK _ _ rfl ?_; clear hK K) | (refine qZ (hq := ?_); try exact trivial) | omega)
    refine run_callF (.b true) (by simp (disch := omega) only [qG, qe] <;> rfl) ?_
    refine run_callF (.b true) (by simp (disch := omega) only [qG, qe] <;> rfl) ?_
    refine run_ops ?_
    have qe := And.intro qR @hs; repeat' first | (show Run _ (.cond _ _ _) _ _; refine run_condX (fun hc => ?_) (fun hc => ?_) <;> (try simp only [qH, rng_0] at hc) <;> try contradiction) | (show RunOps _ _ _ _ (⟨_, .call 16, _, _, _⟩ :: _) _ _; refine run_callGX (hf := fun hc => (by first | exact pure16 m 10 | (simp only [qH, rng_0] at hc; exact pure16 m 10))) (hn := ?_)) | (show RunOps _ _ _ _ (⟨_, .call 16, _, _, _⟩ :: _) _ _; refine run_callGX (hf := fun hc => (by first | exact pure16 o 10 | (simp only [qH, rng_0] at hc; exact pure16 o 10))) (hn := ?_)) | (show RunOps _ _ _ _ (⟨_, .call 18, _, _, _⟩ :: _) _ _; refine run_callX (hf := pure18) (hn := ?_)) | (first | refine Stp.h ?_ | (show ∀ K : St → List Ft → Prop, _; intro K hK) | (show runS _ _ _ _ _; first | refine qY (hq := ?_) | refine qZ (hq := ?_)) | (refine hK _ _ ?_; clear hK K) | (refine hK _ _ rfl ?_; clear hK K) | (refine qZ (hq := ?_); try exact trivial) | omega)
    all_goals first | exact .refl _
  | true =>
    have qe := And.intro qR @hs; repeat' first | (show RunOps _ _ _ _ (⟨_, .call 14, _, _, _⟩ :: _) _ _; refine run_callX (hf := pure14 l hn) (hn := ?_)) | (show RunOps _ _ _ _ (⟨_, .call 15, _, _, _⟩ :: _) _ _; refine run_callX (hf := pure15 l 6) (hn := ?_)) | (show RunOps _ _ _ _ (⟨_, .call 15, _, _, _⟩ :: _) _ _; refine run_callX (hf := pure15 [x] 1) (hn := ?_)) | (show RunOps _ _ _ _ (⟨_, .call 16, _, _, _⟩ :: _) _ _; refine run_callGX (hf := fun hc => (by first | exact pure16 m 10 | (simp only [qH, rng_0] at hc; exact pure16 m 10))) (hn := ?_)) | (show RunOps _ _ _ _ (⟨_, .call 16, _, _, _⟩ :: _) _ _; refine run_callGX (hf := fun hc => (by first | exact pure16 o 10 | (simp only [qH, rng_0] at hc; exact pure16 o 10))) (hn := ?_)) | (first | refine Stp.h ?_ | (show ∀ K : St → List Ft → Prop, _; intro K hK) | (show runS _ _ _ _ _; first | refine qY (hq := ?_) | refine qZ (hq := ?_)) | (refine hK _ _ ?_; clear hK K) | (refine hK _ _ rfl ?_; clear hK K) | (refine qZ (hq := ?_); try exact trivial) | omega)
    (show Run _ (.cond _ _ _) _ _; refine run_condX (fun hc => ?_) (fun hc => ?_) <;> (try simp only [qH, rng_0] at hc) <;> try contradiction)
    · have qe := @qR; repeat' first | (show Run _ (.cond _ _ _) _ _; refine run_condX (fun hc => ?_) (fun hc => ?_) <;> (try simp only [qH, rng_0] at hc) <;> try contradiction) | (show RunOps _ _ _ _ (⟨_, .call 18, _, _, _⟩ :: _) _ _; refine run_callX (hf := pure18) (hn := ?_)) | (first | refine Stp.h ?_ | (show ∀ K : St → List Ft → Prop, _; intro K hK) | (show runS _ _ _ _ _; first | refine qY (hq := ?_) | refine qZ (hq := ?_)) | (refine hK _ _ ?_; clear hK K) | (refine hK _ _ rfl ?_; clear hK K) | (refine qZ (hq := ?_); try exact trivial) | omega)
      exact .refl _
    · simp only [shMovs, Bool.and_eq_true, Bool.not_eq_true', Bool.or_eq_false_iff, Bool.and_eq_false_iff, decide_eq_false_iff_not] at hc
      have hll : l.length ≤ 34 := by
        simp only [shLims, longL, Bool.and_eq_true, Bool.not_eq_true', Bool.or_eq_false_iff, decide_eq_false_iff_not] at hs; omega
      have hm : m.length ≤ 10 ∨ 30000 < m.length := by omega
      have ho : o.length ≤ 10 ∨ 30000 < o.length := by omega
      have hmg : mgE m o = 0 → m.length + o.length ≤ 20 := fun h => by
        have := (chkMovs_0 (firstE_cons.1 h).1).1
        have := (chkMovs_0 (firstE_cons.1 (firstE_cons.1 h).2).1).1
        omega
      have hfou : drE m n = firstE [chkMovs m, if isName n = false then 8 else 0] := rfl
      have hthr : mgE m o = firstE [chkMovs m, chkMovs o] := by
        by_cases h1 : chkMovs m = 0
        · by_cases h2 : chkMovs o = 0
          · have := (chkMovs_0 h1).1
            have := (chkMovs_0 h2).1
            have hz : (if 30000 < (m.length : Int) + o.length then (5 : Int) else 0) = 0 := if_neg (by omega)
            simp [mgE, firstE, h1, h2, hz]
          · simp only [mgE, firstE, h1, if_neg h2]
        · simp only [mgE, firstE, if_neg h1]
      have qe := @qR; repeat' first | (show RunOps _ _ _ _ (⟨_, .call 63, _, _, _⟩ :: _) _ _; refine run_callX (hf := pure63 l x) (hn := ?_)) | (show RunOps _ _ _ _ (⟨_, .call 64, _, _, _⟩ :: _) _ _; refine run_callX (hf := pure64 l n (by omega)) (hn := ?_)) | (show RunOps _ _ _ _ (⟨_, .call 66, _, _, _⟩ :: _) _ _; refine run_callX (hf := pure66 m o hmg) (hn := ?_)) | (show RunOps _ _ _ _ (⟨_, .call 68, _, _, _⟩ :: _) _ _; refine run_callX (hf := pure68 m n) (hn := ?_)) | (show RunOps _ _ _ _ (⟨_, .call 70, _, _, _⟩ :: _) _ _; refine run_callX (hf := pure70 n) (hn := ?_)) | (show RunOps _ _ _ _ (⟨_, .call 32, _, _, _⟩ :: _) _ _; refine run_callX (hf := pure32 _ _) (hn := ?_)) | (show RunOps _ _ _ _ (⟨_, .call 23, _, _, _⟩ :: _) _ _; refine run_callX (hf := pure23 l) (hn := ?_)) | (show RunOps _ _ _ _ (⟨_, .call 31, _, _, _⟩ :: _) _ _; refine run_callX (hf := pure31 x) (hn := ?_)) | (show RunOps _ _ _ _ (⟨_, .call 34, _, _, _⟩ :: _) _ _; refine run_callX (hf := pure34 [_, _]) (hn := ?_)) | (show RunOps _ _ _ _ (⟨_, .call 25, _, _, _⟩ :: _) _ _; refine run_callX (hf := pure25 m) (hn := ?_)) | (show RunOps _ _ _ _ (⟨_, .call 25, _, _, _⟩ :: _) _ _; refine run_callX (hf := pure25 o) (hn := ?_)) | (first | refine Stp.h ?_ | (show ∀ K : St → List Ft → Prop, _; intro K hK) | (show runS _ _ _ _ _; first | refine qY (hq := ?_) | refine qZ (hq := ?_)) | (refine hK _ _ ?_; clear hK K) | (refine hK _ _ rfl ?_; clear hK K) | (refine qZ (hq := ?_); try exact trivial) | omega)
      refine run_cutP ⟨[(1, .p (.sl 7 ((m).map Mov.pv))), (5, .lp 5 0), (7, .p (.sl 11 ((l).map Lim.pv))), (8, .p (.sl 11 ((putR l x).map Lim.pv))), (9, .p (.i .i64 (putE l x))), (10, .p (.sl 11 ((woutR l n).map Lim.pv))), (11, .p (.i .i64 (woutE l n))), (12, .p (.sl 7 ((mgR m o).map Mov.pv))), (13, .p (.i .i64 (mgE m o))), (14, .p (.sl 7 ((drR m n).map Mov.pv))), (15, .p (.i .i64 (drE m n))), (17, .p (.i .i64 (putE l x))), (18, .p (.i .i64 (firstE [chkLims l, if isName n = false then 8 else 0]))), (19, .p (.i .i64 (firstE [chkMovs m, chkMovs o]))), (20, .p (.i .i64 (firstE [chkMovs m, if isName n = false then 8 else 0]))), (21, .p (.sl 11 ((putR l x).map Lim.pv))), (22, .p .nilsl), (23, .p .nilsl), (24, .p .nilsl)], [(5, .box [.p (.s x.name), .p (.s x.kind), .p (.s x.term), .p (.i .i64 x.len), .p (.i .i64 x.step), .p (.i .i64 x.fro), .p (.i .i64 x.to), .p (.i .i64 x.per.fro), .p (.i .i64 x.per.to), .p (.i .i64 x.per.days), .p (.i .i64 x.most), .p (.s n), .p (.sl 7 (o.map Mov.pv))] false)], [], false⟩ ?_ ?_
      · by_cases h1 : firstE [chkLims l, chkLim x] = 0
        · have h1' := eq_true h1
          have hl32 := (chkLims_0 (firstE_cons.1 h1).1).1
          have hpl := put_len h1 hl32
          by_cases h5 : putE l x = 5
          · have hp' := eq_true (hpl.2 h5)
            have qe := And.intro qR (And.intro @cutPn (And.intro @h1' @hp')); repeat' first | (show Run _ (.cond _ _ _) _ _; refine run_condX (fun hc => ?_) (fun hc => ?_) <;> (try simp only [qH, rng_0] at hc) <;> try contradiction) | (show RunOps _ _ _ _ (⟨_, .call 71, _, _, _⟩ :: _) _ _; refine run_callX (hf := pure71 l x (by omega)) (hn := ?_)) | (first | refine Stp.h ?_ | (show ∀ K : St → List Ft → Prop, _; intro K hK) | (show runS _ _ _ _ _; first | refine qY (hq := ?_) | refine qZ (hq := ?_)) | (refine hK _ _ ?_; clear hK K) | (refine hK _ _ rfl ?_; clear hK K) | (refine qZ (hq := ?_); try exact trivial) | omega)
            have hR : putR l x = [] := by rw [putR, if_neg (by rw [h5]; decide)]
            all_goals (rw [hR, h5]; first | (refine .cov ?_; simp only [qS, Nat.reduceAdd, Nat.reduceMul, Nat.reduceEqDiff, Nat.reduceLeDiff, reduceIte, reduceCtorEq, Nat.reduceBEq, Nat.reduceLT]; done) | (refine Pubs.x 21 (.sl 11 []) ?_; refine .cov ?_; simp only [qS, Nat.reduceAdd, Nat.reduceMul, Nat.reduceEqDiff, Nat.reduceLeDiff, reduceIte, reduceCtorEq, Nat.reduceBEq, Nat.reduceLT]; done))
          · have hp' : (32 < ((putL l x).length : Int)) = False := eq_false fun h => h5 (hpl.1 h)
            obtain ⟨hE, hR⟩ := put_ok h1 h5
            have qe := And.intro qR (And.intro @cutPn (And.intro @h1' @hp')); repeat' first | (show Run _ (.cond _ _ _) _ _; refine run_condX (fun hc => ?_) (fun hc => ?_) <;> (try simp only [qH, rng_0] at hc) <;> try contradiction) | (show RunOps _ _ _ _ (⟨_, .call 71, _, _, _⟩ :: _) _ _; refine run_callX (hf := pure71 l x (by omega)) (hn := ?_)) | (first | refine Stp.h ?_ | (show ∀ K : St → List Ft → Prop, _; intro K hK) | (show runS _ _ _ _ _; first | refine qY (hq := ?_) | refine qZ (hq := ?_)) | (refine hK _ _ ?_; clear hK K) | (refine hK _ _ rfl ?_; clear hK K) | (refine qZ (hq := ?_); try exact trivial) | omega)
            all_goals (rw [hR, hE, h1]; first | (refine .cov ?_; simp only [qS, Nat.reduceAdd, Nat.reduceMul, Nat.reduceEqDiff, Nat.reduceLeDiff, reduceIte, reduceCtorEq, Nat.reduceBEq, Nat.reduceLT]; done) | (refine Pubs.x 21 (.sl 11 []) ?_; refine .cov ?_; simp only [qS, Nat.reduceAdd, Nat.reduceMul, Nat.reduceEqDiff, Nat.reduceLeDiff, reduceIte, reduceCtorEq, Nat.reduceBEq, Nat.reduceLT]; done))
        · have h1' := eq_false h1
          have qe := And.intro qR (And.intro @cutPn @h1'); repeat' first | (show Run _ (.cond _ _ _) _ _; refine run_condX (fun hc => ?_) (fun hc => ?_) <;> (try simp only [qH, rng_0] at hc) <;> try contradiction) | (show RunOps _ _ _ _ (⟨_, .call 71, _, _, _⟩ :: _) _ _; refine run_callX (hf := pure71 l x (by omega)) (hn := ?_)) | (first | refine Stp.h ?_ | (show ∀ K : St → List Ft → Prop, _; intro K hK) | (show runS _ _ _ _ _; first | refine qY (hq := ?_) | refine qZ (hq := ?_)) | (refine hK _ _ ?_; clear hK K) | (refine hK _ _ rfl ?_; clear hK K) | (refine qZ (hq := ?_); try exact trivial) | omega)
          have hE : putE l x = firstE [chkLims l, chkLim x] := by rw [putE, if_neg h1]
          have hR : putR l x = [] := by rw [putR, if_neg (by rw [hE]; exact h1)]
          all_goals (rw [hR, hE]; first | (refine .cov ?_; simp only [qS, Nat.reduceAdd, Nat.reduceMul, Nat.reduceEqDiff, Nat.reduceLeDiff, reduceIte, reduceCtorEq, Nat.reduceBEq, Nat.reduceLT]; done) | (refine Pubs.x 21 (.sl 11 []) ?_; refine .cov ?_; simp only [qS, Nat.reduceAdd, Nat.reduceMul, Nat.reduceEqDiff, Nat.reduceLeDiff, reduceIte, reduceCtorEq, Nat.reduceBEq, Nat.reduceLT]; done))
      refine Stp.h ?_
      refine run_cutP ⟨[(1, .p (.sl 7 ((m).map Mov.pv))), (5, .lp 5 0), (7, .p (.sl 11 ((l).map Lim.pv))), (8, .p (.sl 11 ((putR l x).map Lim.pv))), (9, .p (.i .i64 (putE l x))), (10, .p (.sl 11 ((woutR l n).map Lim.pv))), (11, .p (.i .i64 (woutE l n))), (12, .p (.sl 7 ((mgR m o).map Mov.pv))), (13, .p (.i .i64 (mgE m o))), (14, .p (.sl 7 ((drR m n).map Mov.pv))), (15, .p (.i .i64 (drE m n))), (17, .p (.i .i64 (putE l x))), (18, .p (.i .i64 (woutE l n))), (19, .p (.i .i64 (firstE [chkMovs m, chkMovs o]))), (20, .p (.i .i64 (firstE [chkMovs m, if isName n = false then 8 else 0]))), (21, .p (.sl 11 ((putR l x).map Lim.pv))), (22, .p (.sl 11 ((woutR l n).map Lim.pv))), (23, .p .nilsl), (24, .p .nilsl)], [(5, .box [.p (.s x.name), .p (.s x.kind), .p (.s x.term), .p (.i .i64 x.len), .p (.i .i64 x.step), .p (.i .i64 x.fro), .p (.i .i64 x.to), .p (.i .i64 x.per.fro), .p (.i .i64 x.per.to), .p (.i .i64 x.per.days), .p (.i .i64 x.most), .p (.s n), .p (.sl 7 (o.map Mov.pv))] false)], [], false⟩ ?_ ?_
      · have e2 : woutE l n = firstE [chkLims l, if isName n = false then 8 else 0, if atL n (l.map Lim.name) < 0 then 10 else 0] := rfl
        by_cases h2 : firstE [chkLims l, if isName n = false then 8 else 0] = 0
        · have h2' := eq_true h2
          have hck := (firstE_cons.1 h2).1
          have hnm := (firstE_cons.1 (firstE_cons.1 h2).2).1
          have hlt := atL_lt n (l.map Lim.name)
          rw [List.length_map] at hlt
          by_cases h3 : 0 ≤ atL n (l.map Lim.name)
          · obtain ⟨k, hk⟩ : ∃ k : Nat, atL n (l.map Lim.name) = (k : Int) := ⟨(atL n (l.map Lim.name)).toNat, by omega⟩
            have h3' : ((k : Int) < 0) = False := eq_false (by omega)
            have hE : woutE l n = 0 := by rw [e2]; exact firstE_cons.2 ⟨hck, firstE_cons.2 ⟨hnm, firstE_cons.2 ⟨if_neg (by omega), rfl⟩⟩⟩
            have hR : woutR l n = l.take k ++ l.drop (k + 1) := by
              rw [woutR, if_pos hE, filter_at n l (chkLims_iff.1 hck).2.2 h3, hk]; rfl
            have qe := And.intro qR (And.intro @cutPn (And.intro @h2' (And.intro @hk @h3'))); repeat' first | (show Run _ (.cond _ _ _) _ _; refine run_condX (fun hc => ?_) (fun hc => ?_) <;> (try simp only [qH, rng_0] at hc) <;> try contradiction) | (show RunOps _ _ _ _ (⟨_, .call 72, _, _, _⟩ :: _) _ _; refine run_callX (hf := pure72 l n) (hn := ?_)) | (show RunOps _ _ _ _ (⟨_, .call 32, _, _, _⟩ :: _) _ _; refine run_callX (hf := pure32 _ _) (hn := ?_)) | (show RunOps _ _ _ _ (⟨_, .call 73, _, _, _⟩ :: _) _ _; refine run_callX (hf := pure73 l k (by omega) (by omega)) (hn := ?_)) | (first | refine Stp.h ?_ | (show ∀ K : St → List Ft → Prop, _; intro K hK) | (show runS _ _ _ _ _; first | refine qY (hq := ?_) | refine qZ (hq := ?_)) | (refine hK _ _ ?_; clear hK K) | (refine hK _ _ rfl ?_; clear hK K) | (refine qZ (hq := ?_); try exact trivial) | omega)
            all_goals (rw [hR, hE]; first | (refine .cov ?_; simp only [qS, Nat.reduceAdd, Nat.reduceMul, Nat.reduceEqDiff, Nat.reduceLeDiff, reduceIte, reduceCtorEq, Nat.reduceBEq, Nat.reduceLT]; done) | (refine Pubs.x 22 (.sl 11 []) ?_; refine .cov ?_; simp only [qS, Nat.reduceAdd, Nat.reduceMul, Nat.reduceEqDiff, Nat.reduceLeDiff, reduceIte, reduceCtorEq, Nat.reduceBEq, Nat.reduceLT]; done))
          · have h3' : (atL n (l.map Lim.name) < 0) = True := eq_true (by omega)
            have hE : woutE l n = 10 := by
              have hz : (if atL n (l.map Lim.name) < 0 then (10 : Int) else 0) = 10 := if_pos (by omega)
              rw [e2]; simp only [firstE, hck, hnm, hz]; first | rfl | simp
            have hR : woutR l n = [] := by rw [woutR, if_neg (by rw [hE]; decide)]
            have qe := And.intro qR (And.intro @cutPn (And.intro @h2' @h3')); repeat' first | (show Run _ (.cond _ _ _) _ _; refine run_condX (fun hc => ?_) (fun hc => ?_) <;> (try simp only [qH, rng_0] at hc) <;> try contradiction) | (show RunOps _ _ _ _ (⟨_, .call 72, _, _, _⟩ :: _) _ _; refine run_callX (hf := pure72 l n) (hn := ?_)) | (show RunOps _ _ _ _ (⟨_, .call 32, _, _, _⟩ :: _) _ _; refine run_callX (hf := pure32 _ _) (hn := ?_)) | (first | refine Stp.h ?_ | (show ∀ K : St → List Ft → Prop, _; intro K hK) | (show runS _ _ _ _ _; first | refine qY (hq := ?_) | refine qZ (hq := ?_)) | (refine hK _ _ ?_; clear hK K) | (refine hK _ _ rfl ?_; clear hK K) | (refine qZ (hq := ?_); try exact trivial) | omega)
            all_goals (rw [hR, hE]; first | (refine .cov ?_; simp only [qS, Nat.reduceAdd, Nat.reduceMul, Nat.reduceEqDiff, Nat.reduceLeDiff, reduceIte, reduceCtorEq, Nat.reduceBEq, Nat.reduceLT]; done) | (refine Pubs.x 22 (.sl 11 []) ?_; refine .cov ?_; simp only [qS, Nat.reduceAdd, Nat.reduceMul, Nat.reduceEqDiff, Nat.reduceLeDiff, reduceIte, reduceCtorEq, Nat.reduceBEq, Nat.reduceLT]; done))
        · have h2' := eq_false h2
          have hE : woutE l n = firstE [chkLims l, if isName n = false then 8 else 0] := by
            rw [e2]
            by_cases hck : chkLims l = 0
            · by_cases hnm : (if isName n = false then (8 : Int) else 0) = 0
              · exact absurd (firstE_cons.2 ⟨hck, firstE_cons.2 ⟨hnm, rfl⟩⟩) h2
              · simp only [firstE, if_neg hnm]
            · simp only [firstE, if_neg hck]
          have hR : woutR l n = [] := by rw [woutR, if_neg (by rw [hE]; exact h2)]
          have qe := And.intro qR (And.intro @cutPn @h2'); repeat' first | (show Run _ (.cond _ _ _) _ _; refine run_condX (fun hc => ?_) (fun hc => ?_) <;> (try simp only [qH, rng_0] at hc) <;> try contradiction) | (show RunOps _ _ _ _ (⟨_, .call 72, _, _, _⟩ :: _) _ _; refine run_callX (hf := pure72 l n) (hn := ?_)) | (show RunOps _ _ _ _ (⟨_, .call 32, _, _, _⟩ :: _) _ _; refine run_callX (hf := pure32 _ _) (hn := ?_)) | (first | refine Stp.h ?_ | (show ∀ K : St → List Ft → Prop, _; intro K hK) | (show runS _ _ _ _ _; first | refine qY (hq := ?_) | refine qZ (hq := ?_)) | (refine hK _ _ ?_; clear hK K) | (refine hK _ _ rfl ?_; clear hK K) | (refine qZ (hq := ?_); try exact trivial) | omega)
          all_goals (rw [hR, hE]; first | (refine .cov ?_; simp only [qS, Nat.reduceAdd, Nat.reduceMul, Nat.reduceEqDiff, Nat.reduceLeDiff, reduceIte, reduceCtorEq, Nat.reduceBEq, Nat.reduceLT]; done) | (refine Pubs.x 22 (.sl 11 []) ?_; refine .cov ?_; simp only [qS, Nat.reduceAdd, Nat.reduceMul, Nat.reduceEqDiff, Nat.reduceLeDiff, reduceIte, reduceCtorEq, Nat.reduceBEq, Nat.reduceLT]; done))
      refine Stp.h ?_
      refine run_cutP ⟨[(1, .p (.sl 7 ((m).map Mov.pv))), (5, .lp 5 0), (7, .p (.sl 11 ((l).map Lim.pv))), (8, .p (.sl 11 ((putR l x).map Lim.pv))), (9, .p (.i .i64 (putE l x))), (10, .p (.sl 11 ((woutR l n).map Lim.pv))), (11, .p (.i .i64 (woutE l n))), (12, .p (.sl 7 ((mgR m o).map Mov.pv))), (13, .p (.i .i64 (mgE m o))), (14, .p (.sl 7 ((drR m n).map Mov.pv))), (15, .p (.i .i64 (drE m n))), (17, .p (.i .i64 (putE l x))), (18, .p (.i .i64 (woutE l n))), (19, .p (.i .i64 (firstE [chkMovs m, chkMovs o]))), (20, .p (.i .i64 (firstE [chkMovs m, if isName n = false then 8 else 0]))), (21, .p (.sl 11 ((putR l x).map Lim.pv))), (22, .p (.sl 11 ((woutR l n).map Lim.pv))), (23, .p (.sl 7 ((mgR m o).map Mov.pv))), (24, .p .nilsl)], [(5, .box [.p (.s x.name), .p (.s x.kind), .p (.s x.term), .p (.i .i64 x.len), .p (.i .i64 x.step), .p (.i .i64 x.fro), .p (.i .i64 x.to), .p (.i .i64 x.per.fro), .p (.i .i64 x.per.to), .p (.i .i64 x.per.days), .p (.i .i64 x.most), .p (.s n), .p (.sl 7 (o.map Mov.pv))] false)], [], false⟩ ?_ ?_
      · by_cases h3 : firstE [chkMovs m, chkMovs o] = 0
        · have h3' := eq_true h3
          have := (chkMovs_0 (firstE_cons.1 h3).1).1
          have := (chkMovs_0 (firstE_cons.1 (firstE_cons.1 h3).2).1).1
          have hR : mgR m o = mergeM befM m o := by rw [mgR, if_pos (by rw [hthr]; exact h3)]
          have qe := And.intro qR (And.intro @cutPn @h3'); repeat' first | (show Run _ (.cond _ _ _) _ _; refine run_condX (fun hc => ?_) (fun hc => ?_) <;> (try simp only [qH, rng_0] at hc) <;> try contradiction) | (show RunOps _ _ _ _ (⟨_, .call 69, _, _, _⟩ :: _) _ _; refine run_callX (hf := pure69 m o (by omega)) (hn := ?_)) | (first | refine Stp.h ?_ | (show ∀ K : St → List Ft → Prop, _; intro K hK) | (show runS _ _ _ _ _; first | refine qY (hq := ?_) | refine qZ (hq := ?_)) | (refine hK _ _ ?_; clear hK K) | (refine hK _ _ rfl ?_; clear hK K) | (refine qZ (hq := ?_); try exact trivial) | omega)
          all_goals (rw [hR]; first | (refine .cov ?_; simp only [qS, Nat.reduceAdd, Nat.reduceMul, Nat.reduceEqDiff, Nat.reduceLeDiff, reduceIte, reduceCtorEq, Nat.reduceBEq, Nat.reduceLT]; done) | (refine Pubs.x 23 (.sl 7 []) ?_; refine .cov ?_; simp only [qS, Nat.reduceAdd, Nat.reduceMul, Nat.reduceEqDiff, Nat.reduceLeDiff, reduceIte, reduceCtorEq, Nat.reduceBEq, Nat.reduceLT]; done))
        · have h3' := eq_false h3
          have hR : mgR m o = [] := by rw [mgR, if_neg (by rw [hthr]; exact h3)]
          have qe := And.intro qR (And.intro @cutPn @h3'); repeat' first | (show Run _ (.cond _ _ _) _ _; refine run_condX (fun hc => ?_) (fun hc => ?_) <;> (try simp only [qH, rng_0] at hc) <;> try contradiction) | (first | refine Stp.h ?_ | (show ∀ K : St → List Ft → Prop, _; intro K hK) | (show runS _ _ _ _ _; first | refine qY (hq := ?_) | refine qZ (hq := ?_)) | (refine hK _ _ ?_; clear hK K) | (refine hK _ _ rfl ?_; clear hK K) | (refine qZ (hq := ?_); try exact trivial) | omega)
          all_goals (rw [hR]; first | (refine .cov ?_; simp only [qS, Nat.reduceAdd, Nat.reduceMul, Nat.reduceEqDiff, Nat.reduceLeDiff, reduceIte, reduceCtorEq, Nat.reduceBEq, Nat.reduceLT]; done) | (refine Pubs.x 23 (.sl 7 []) ?_; refine .cov ?_; simp only [qS, Nat.reduceAdd, Nat.reduceMul, Nat.reduceEqDiff, Nat.reduceLeDiff, reduceIte, reduceCtorEq, Nat.reduceBEq, Nat.reduceLT]; done))
      refine Stp.h ?_
      refine run_cutP ⟨[(1, .p (.sl 7 ((m).map Mov.pv))), (5, .lp 5 0), (7, .p (.sl 11 ((l).map Lim.pv))), (8, .p (.sl 11 ((putR l x).map Lim.pv))), (9, .p (.i .i64 (putE l x))), (10, .p (.sl 11 ((woutR l n).map Lim.pv))), (11, .p (.i .i64 (woutE l n))), (12, .p (.sl 7 ((mgR m o).map Mov.pv))), (13, .p (.i .i64 (mgE m o))), (14, .p (.sl 7 ((drR m n).map Mov.pv))), (15, .p (.i .i64 (drE m n))), (17, .p (.i .i64 (putE l x))), (18, .p (.i .i64 (woutE l n))), (19, .p (.i .i64 (firstE [chkMovs m, chkMovs o]))), (20, .p (.i .i64 (firstE [chkMovs m, if isName n = false then 8 else 0]))), (21, .p (.sl 11 ((putR l x).map Lim.pv))), (22, .p (.sl 11 ((woutR l n).map Lim.pv))), (23, .p (.sl 7 ((mgR m o).map Mov.pv))), (24, .p (.sl 7 ((drR m n).map Mov.pv)))], [(5, .box [.p (.s x.name), .p (.s x.kind), .p (.s x.term), .p (.i .i64 x.len), .p (.i .i64 x.step), .p (.i .i64 x.fro), .p (.i .i64 x.to), .p (.i .i64 x.per.fro), .p (.i .i64 x.per.to), .p (.i .i64 x.per.days), .p (.i .i64 x.most), .p (.s n), .p (.sl 7 (o.map Mov.pv))] false)], [], false⟩ ?_ ?_
      · by_cases h4 : firstE [chkMovs m, if isName n = false then 8 else 0] = 0
        · have h4' := eq_true h4
          have := (chkMovs_0 (firstE_cons.1 h4).1).1
          have hR : drR m n = m.filter (fun y => !decide (y.name = n)) := by rw [drR, if_pos (by rw [hfou]; exact h4)]
          have qe := And.intro qR (And.intro @cutPn @h4'); repeat' first | (show Run _ (.cond _ _ _) _ _; refine run_condX (fun hc => ?_) (fun hc => ?_) <;> (try simp only [qH, rng_0] at hc) <;> try contradiction) | (show RunOps _ _ _ _ (⟨_, .call 74, _, _, _⟩ :: _) _ _; refine run_callX (hf := pure74 m n (by omega)) (hn := ?_)) | (first | refine Stp.h ?_ | (show ∀ K : St → List Ft → Prop, _; intro K hK) | (show runS _ _ _ _ _; first | refine qY (hq := ?_) | refine qZ (hq := ?_)) | (refine hK _ _ ?_; clear hK K) | (refine hK _ _ rfl ?_; clear hK K) | (refine qZ (hq := ?_); try exact trivial) | omega)
          all_goals (rw [hR]; first | (refine .cov ?_; simp only [qS, Nat.reduceAdd, Nat.reduceMul, Nat.reduceEqDiff, Nat.reduceLeDiff, reduceIte, reduceCtorEq, Nat.reduceBEq, Nat.reduceLT]; done) | (refine Pubs.x 24 (.sl 7 []) ?_; refine .cov ?_; simp only [qS, Nat.reduceAdd, Nat.reduceMul, Nat.reduceEqDiff, Nat.reduceLeDiff, reduceIte, reduceCtorEq, Nat.reduceBEq, Nat.reduceLT]; done))
        · have h4' := eq_false h4
          have hR : drR m n = [] := by rw [drR, if_neg (by rw [hfou]; exact h4)]
          have qe := And.intro qR (And.intro @cutPn @h4'); repeat' first | (show Run _ (.cond _ _ _) _ _; refine run_condX (fun hc => ?_) (fun hc => ?_) <;> (try simp only [qH, rng_0] at hc) <;> try contradiction) | (first | refine Stp.h ?_ | (show ∀ K : St → List Ft → Prop, _; intro K hK) | (show runS _ _ _ _ _; first | refine qY (hq := ?_) | refine qZ (hq := ?_)) | (refine hK _ _ ?_; clear hK K) | (refine hK _ _ rfl ?_; clear hK K) | (refine qZ (hq := ?_); try exact trivial) | omega)
          all_goals (rw [hR]; first | (refine .cov ?_; simp only [qS, Nat.reduceAdd, Nat.reduceMul, Nat.reduceEqDiff, Nat.reduceLeDiff, reduceIte, reduceCtorEq, Nat.reduceBEq, Nat.reduceLT]; done) | (refine Pubs.x 24 (.sl 7 []) ?_; refine .cov ?_; simp only [qS, Nat.reduceAdd, Nat.reduceMul, Nat.reduceEqDiff, Nat.reduceLeDiff, reduceIte, reduceCtorEq, Nat.reduceBEq, Nat.reduceLT]; done))
      have qe := And.intro qR (And.intro @hthr (And.intro @hfou @dec_self)); repeat' first | (show Run _ (.cond _ _ _) _ _; refine run_condX (fun hc => ?_) (fun hc => ?_) <;> (try simp only [qH, rng_0] at hc) <;> try contradiction) | (show RunOps _ _ _ _ (⟨_, .call 14, _, _, _⟩ :: _) _ _; refine run_callGX (hf := fun hc => (by first | exact pure14 (putR l x) (by have := put_lb (l := l) (x := x); omega) | (simp only [qH, rng_0] at hc; exact pure14 (putR l x) (by have := put_lb (l := l) (x := x); omega)))) (hn := ?_)) | (show RunOps _ _ _ _ (⟨_, .call 65, _, _, _⟩ :: _) _ _; refine run_callGX (hf := fun hc => (by first | exact pure65 (putR l x) | (simp only [qH, rng_0] at hc; exact pure65 (putR l x)))) (hn := ?_)) | (show RunOps _ _ _ _ (⟨_, .call 14, _, _, _⟩ :: _) _ _; refine run_callGX (hf := fun hc => (by first | exact pure14 (woutR l n) (by have := wout_lb (l := l) (n := n); omega) | (simp only [qH, rng_0] at hc; exact pure14 (woutR l n) (by have := wout_lb (l := l) (n := n); omega)))) (hn := ?_)) | (show RunOps _ _ _ _ (⟨_, .call 65, _, _, _⟩ :: _) _ _; refine run_callGX (hf := fun hc => (by first | exact pure65 (woutR l n) | (simp only [qH, rng_0] at hc; exact pure65 (woutR l n)))) (hn := ?_)) | (show RunOps _ _ _ _ (⟨_, .call 26, _, _, _⟩ :: _) _ _; refine run_callGX (hf := fun hc => (by first | exact pure26 (mgR m o) | (simp only [qH, rng_0] at hc; exact pure26 (mgR m o)))) (hn := ?_)) | (show RunOps _ _ _ _ (⟨_, .call 26, _, _, _⟩ :: _) _ _; refine run_callGX (hf := fun hc => (by first | exact pure26 (drR m n) | (simp only [qH, rng_0] at hc; exact pure26 (drR m n)))) (hn := ?_)) | (show RunOps _ _ _ _ (⟨_, .call 18, _, _, _⟩ :: _) _ _; refine run_callGX (hf := fun hc => (by first | exact pure18 | (simp only [qH, rng_0] at hc; exact pure18))) (hn := ?_)) | (first | refine Stp.h ?_ | (show ∀ K : St → List Ft → Prop, _; intro K hK) | (show runS _ _ _ _ _; first | refine qY (hq := ?_) | refine qZ (hq := ?_)) | (refine hK _ _ ?_; clear hK K) | (refine hK _ _ rfl ?_; clear hK K) | (refine qZ (hq := ?_); try exact trivial) | omega)
      all_goals first | exact .refl _
theorem lifted13 (os : Os) (started : os.Started) (H : Type) (enc : TypeId × Value → H) : ReturnsInHanded {} Tryz.checked os 13 .any (Rows.capacityChangesSpec.pre6 enc Tryz.prog Tryz.f13 Rows.capacityChangesRow.domain false) (Rows.capacityChangesSpec.post enc Tryz.prog Tryz.f13 false true false false) := by
  refine returnsInHanded_of_change_shaped (C := Tryz.checked) own started (by kernel_rfl) Tryz.func13
    (ChangeSpec.witness6 (enc := enc) (C := Tryz.checked) false ⟨#[], #[.slice none 0 0, .slice none 0 0, .agg #[zs, zs, zs, zi, zi, zi, zi, zi, zi, zi, zi, zs, .slice none 0 0]], []⟩ 8 (by kernel_rfl) (by kernel_rfl) (by kernel_rfl) (by kernel_rfl)) ?_
  intro W base args ds gs before hval hW _ hsz _ _
  refine law_contract (C := Tryz.checked) (n := 4) (tb := 4) laid (by kernel_rfl) rfl (fun H ds hd => ?_) (by kernel_rfl) und4 (by kernel_rfl) (fun ps hps => ?_) W base args ds gs before hval hW hsz
  · match ds, hd with
    | [_, _, _], _ => rfl
  · match ps, hps with
    | [p0, p1, p2], ⟨h0, h1, h2, _⟩ =>
      obtain ⟨l, rfl, hl⟩ := fit_lims h0
      obtain ⟨m, rfl⟩ := fit_movs h1
      obtain ⟨c, cn, co, rfl⟩ := fit_chg h2
      exact pure13 l m c cn co hl
theorem changes_over : Rows.capacityChangesRow.holds Tryz.pinned (OpenSpec.ofChange Rows.capacityChangesSpec) :=
  OpenClaim.holds_of_wide 13 Tryz.f13 rfl rfl rfl rfl rfl rfl rfl ⟨rfl, rfl, rfl, rfl, rfl⟩ rfl rfl rfl rfl rfl (by kernel_rfl) Tryz.func13 (by kernel_rfl)
    (of_decide_eq_true (by kernel_rfl)) (by unfold Func.isWrapper; first | (rw [if_pos (by decide +kernel)]; kernel_rfl) | (rw [if_neg (by decide +kernel)]; exact ⟨rfl, rfl⟩))
    (fun os started H enc _ => lifted13 os started H enc)
theorem changes_proved : Rows.CapacityChangesSaid := changes_over
end Go.Proofs.YtcfbdeghmckelaaGreat
