/- Contracts of functions that the proof uses, shared by the claims of this seat; no statement of its own. Part 17. No conditions. -/
import Derived.Test.YtahmdjadnlpjoaaGreatK7
import Derived.Test.YtahmdjadnlpjoaaGreatK9
set_option linter.all false
set_option maxHeartbeats 8000000
namespace Go.Proofs.YtahmdjadnlpjoaaGreat
open Go.RowKit
set_option maxRecDepth 100000
set_option linter.unusedVariables false
set_option linter.unusedSimpArgs false
set_option maxHeartbeats 2000000
theorem cells_any:PV.any.cells=[.any]:=rfl
theorem zbb (x:Int):(decide (x=x))=true:=decide_eq_true rfl
theorem pure142 (x:Int):Pure Tryz.prog 242 [.i .i64 x] (.b false):=by
 refine zf (cF Tryz.func242 Tryz.f242.eq_1) (by simp) fun hw X hX=>?_
 have qe:=@zbb;repeat' first|refine gC (fun hc=>?_) (fun hc=>?_)<;>try contradiction|refine gG ?_|show AK _;intro K H|refine H _ _ ?_;clear H K|refine gJ ?_;try exact trivial|omega
 exact .refl _
theorem pure164 (x:Int):Pure Tryz.prog 307 [.i .i64 x] (.b false):=by
 refine zf (cF Tryz.func307 Tryz.f307.eq_1) (by simp) fun hw X hX=>?_
 have qe:=@zbb;repeat' first|refine gC (fun hc=>?_) (fun hc=>?_)<;>try contradiction|refine gG ?_|show AK _;intro K H|refine H _ _ ?_;clear H K|refine gJ ?_;try exact trivial|omega
 exact .refl _
theorem pure163 (a b:Int):Pure Tryz.prog 306 [.i .i64 a,.i .i64 b] (.b (decide (a < b))):=by
 refine zf (cF Tryz.func306 Tryz.f306.eq_1) (by simp) fun hw X hX=>?_
 repeat' first|refine gC (fun hc=>?_) (fun hc=>?_)<;>try contradiction|refine za (pure142 _) ?_|refine zN (fun _=>pure142 _) ?_|refine gG ?_|show AK _;intro K H|refine H _ _ ?_;clear H K|refine gJ ?_;try exact trivial|omega
 exact .refl _
def sortedI (l:List Int):Prop:=∀ (i j:Nat) (x y:Int),i≤j→l[i]?=some x→l[j]?=some y→x≤y
def ltN (l:List Int) (x:Int):Nat:=(l.filter fun y=>decide (y < x)).length
theorem ltN_at {l:List Int} {x:Int} {i:Nat} (h1:∀ y ∈ l.take i,y < x) (h2:∀ y ∈ l.drop i,x≤y) (hi:i≤l.length):ltN l x=i:=by
 conv=>lhs;rw [←List.take_append_drop i l]
 rw [ltN,List.filter_append,List.length_append,List.filter_eq_self.2 (fun y hy=>by simpa using h1 y hy),List.filter_eq_nil_iff.2 (fun y hy=>by have:=h2 y hy;simp;omega)]
 simp;omega
theorem pure157 (l:List Int) (x:Int) (hs:sortedI l) (hn:l.length≤1000000):Pure Tryz.prog 265 [.sl 1 (l.map (.i .i64)),.i .i64 x] (.tup [.i .i64 (ltN l x),.any]):=by
 refine zf (cF Tryz.func265 Tryz.f265.eq_1) (by simp) fun hw X hX=>?_
 simp only [wfs,PV.wf,List.length_map,maxLen] at hw
 repeat' first|refine gC (fun hc=>?_) (fun hc=>?_)<;>try contradiction|refine gG ?_|show AK _;intro K H|refine H _ _ ?_;clear H K|refine gJ ?_;try exact trivial|omega
 refine zk (κ:=Nat × Nat) (fun k=>⟨[(0,.p (.sl 1 (l.map (.i .i64)))),(1,.p (.i .i64 x)),(6,.p (.i .i64 l.length)),(7,.p (.i .i64 k.1)),(8,.p (.i .i64 k.2))],[],[],false⟩) (fun k=>k.1≤k.2∧k.2≤l.length∧(∀ y ∈ l.take k.1,y < x)∧∀ y ∈ l.drop k.2,x≤y) (fun k=>k.2 - k.1) (0,l.length) ?_ ?_ ?_
 ·exact sS
 ·simp
 ·intro k hk
  obtain ⟨i,j⟩:=k
  simp only at hk
  have hm:IntKind.i64.wrap ((IntKind.u64.wrap ((i:Int)+j)).fdiv (2 ^ min (Int.toNat 1) IntKind.u64.bits))=(((i+j) / 2:Nat):Int):=by
   rw [IntKind.wrap_u64,show (2:Int) ^ min (Int.toNat 1) IntKind.u64.bits=2 from rfl,Int.fdiv_eq_ediv_of_nonneg _ (by decide)]
   rw [show (((i:Int)+j) % 18446744073709551616 / 2)=(((i+j) / 2:Nat):Int) by omega]
   exact wrap64 (by omega) (by omega)
  by_cases hij:i < j
  ·obtain ⟨y,hy⟩:=zn (i:=(i+j) / 2) (l:=l) (by omega)
   have qe:=aI @hm @hy;repeat' first|refine gC (fun hc=>?_) (fun hc=>?_)<;>try contradiction|refine za (pure163 _ _) ?_|refine gG ?_|show AK _;intro K H|refine H _ _ ?_;clear H K|refine gJ ?_;try exact trivial|omega
   ·refine ⟨((i+j) / 2+1,j),⟨by simp only;omega,hk.2.1,fun z hz=>?_,hk.2.2.2⟩,by simp only;omega,by simp,rfl⟩
    obtain ⟨q,hq⟩:=List.getElem?_of_mem hz
    rw [List.getElem?_take] at hq
    split at hq
    ·have:=hs q ((i+j) / 2) z y (by omega) hq hy;omega
    ·cases hq
   ·refine ⟨(i,(i+j) / 2),⟨by simp only;omega,by simp only;omega,hk.2.2.1,fun z hz=>?_⟩,by simp only;omega,rfl,rfl⟩
    obtain ⟨q,hq⟩:=List.getElem?_of_mem hz
    rw [List.getElem?_drop] at hq
    have:=hs ((i+j) / 2) _ y z (by omega) hy hq;omega
  ·have e:i=j:=by omega
   subst e
   have hres:=ltN_at hk.2.2.1 hk.2.2.2 hk.2.1
   by_cases hil:i < l.length
   ·obtain ⟨y,hy⟩:=zn (i:=i) (l:=l) hil
    have hil':((i:Int) < l.length)=True:=eq_true (by omega)
    by_cases hyx:y=x
    ·have hyx':(y=x)=True:=eq_true hyx
     have qe:=aI @hm (aI @hy (aI @hil' @hyx'));repeat' first|refine gC (fun hc=>?_) (fun hc=>?_)<;>try contradiction|refine zN (fun _=>pure164 _) ?_|refine gG ?_|show AK _;intro K H|refine H _ _ ?_;clear H K|refine gJ ?_;try exact trivial|omega
     rw [hres];exact weak2 (.refl _) (.any _)
    ·have hyx':(y=x)=False:=eq_false hyx
     have qe:=aI @hm (aI @hy (aI @hil' @hyx'));repeat' first|refine gC (fun hc=>?_) (fun hc=>?_)<;>try contradiction|refine zN (fun _=>pure164 _) ?_|refine gG ?_|show AK _;intro K H|refine H _ _ ?_;clear H K|refine gJ ?_;try exact trivial|omega
     rw [hres];exact weak2 (.refl _) (.any _)
   ·have hil':((i:Int) < l.length)=False:=eq_false (by omega)
    have hy:l[i]?=none:=List.getElem?_eq_none (by omega)
    have qe:=aI @hm (aI @hil' (aI @hy @cells_any));repeat' first|refine gC (fun hc=>?_) (fun hc=>?_)<;>try contradiction|(show zj _ _ _ _ (⟨_,.call _,_,_,_⟩::_) _ _;refine zbj (hf:=fun hc=>(by first|exact (absurd hc Bool.false_ne_true:Pure Tryz.prog 307 _ (.b false))|(simp only [qH,rng_0] at hc;exact (absurd hc Bool.false_ne_true:Pure Tryz.prog 307 _ (.b false))))) (hn:=?_))|refine gG ?_|show AK _;intro K H|refine H _ _ ?_;clear H K|refine gJ ?_;try exact trivial|omega
    rw [hres];exact weak2 (.refl _) (.any _)
theorem pure136 (l:List Int) (x:Int) (hs:sortedI l) (hn:l.length≤1000000):Pure Tryz.prog 215 [.sl 1 (l.map (.i .i64)),.i .i64 x] (.i .i64 (ltN l x)):=by
 refine zf (cF Tryz.func215 Tryz.f215.eq_1) (by simp) fun hw X hX=>?_
 repeat' first|refine gC (fun hc=>?_) (fun hc=>?_)<;>try contradiction|refine za (pure157 l x hs hn) ?_|refine gG ?_|show AK _;intro K H|refine H _ _ ?_;clear H K|refine gJ ?_;try exact trivial|omega
 exact .refl _
def cntW (l:List Int) (b len:Int):Int:=(ltN l (b+len):Int) - ltN l b
theorem ltN_le (l:List Int) (x:Int):ltN l x≤l.length:=List.length_filter_le _ _
theorem pure93 (l:List Int) (b len:Int) (hs:sortedI l) (hn:l.length≤1000000) (h0:-1000000≤b) (h1:b≤1000000000) (h2:0≤len) (h3:len≤10000):Pure Tryz.prog 138 [.sl 1 (l.map (.i .i64)),.i .i64 b,.i .i64 len] (.i .i64 (cntW l b len)):=by
 refine zf (cF Tryz.func138 Tryz.f138.eq_1) (by simp) fun hw X hX=>?_
 have e1:=ltN_le l (b+len)
 have e2:=ltN_le l b
 repeat' first|refine gC (fun hc=>?_) (fun hc=>?_)<;>try contradiction|refine za (pure136 l _ hs hn) ?_|refine gG ?_|show AK _;intro K H|refine H _ _ ?_;clear H K|refine gJ ?_;try exact trivial|omega
 exact .refl _
set_option maxRecDepth 100000
set_option linter.unusedVariables false
set_option linter.unusedSimpArgs false
set_option maxHeartbeats 2000000
abbrev keyPV (k:ByteArray × ByteArray):PV:=.agg [.s k.1,.s k.2]
abbrev entPV (l:Lim) (k:ByteArray × ByteArray):PV × PV:=(keyPV k,.b (zac l k.1 k.2))
def ofL (l:Lim) (m:List Mov):List Int:=(m.filter fun x=>zac l x.kind x.term).map Mov.moment
theorem eq_key (a b:ByteArray × ByteArray):eqCells (keyPV a).cells (keyPV b).cells=(decide (a.1=b.1) && decide (a.2=b.2)):=by
 simp only [PV.cells,eqCells,eqPV,Bool.and_true]
theorem mget_ent (l:Lim) (k:ByteArray × ByteArray):∀ (es:List (ByteArray × ByteArray)),mget (keyPV k) (es.map (entPV l))=none∨mget (keyPV k) (es.map (entPV l))=some (.b (zac l k.1 k.2))
 | []=>.inl rfl
 | e::r=>by
  simp only [List.map_cons,mget,eq_key]
  split
  ·rename_i h
   simp only [Bool.and_eq_true,decide_eq_true_eq] at h
   right;rw [h.1,h.2]
  ·exact mget_ent l k r
theorem mput_ent (l:Lim) (k:ByteArray × ByteArray):∀ (es:List (ByteArray × ByteArray)),∃ es':List (ByteArray × ByteArray),mput (keyPV k) (.b (zac l k.1 k.2)) (es.map (entPV l))=es'.map (entPV l)
 | []=>⟨[k],rfl⟩
 | e::r=>by
  simp only [List.map_cons,mput,eq_key]
  split
  ·exact ⟨k::r,rfl⟩
  ·obtain ⟨es',h⟩:=mput_ent l k r
   exact ⟨e::es',by rw [h];rfl⟩
theorem keysOk_ent (l:Lim) (k:ByteArray × ByteArray):∀ (es:List (ByteArray × ByteArray)),keysOk [2,2] true (keyPV k) (es.map (entPV l))
 | []=>trivial
 | e::r=>⟨⟨rfl,by simp [PV.cells,eqCellsOk,eqOk]⟩,keysOk_ent l k r⟩
theorem ofL_next {l:Lim} {m:List Mov} {i:Nat} {x:Mov} (hx:m[i]?=some x):ofL l (m.take (i+1))=ofL l (m.take i)++if zac l x.kind x.term then [x.moment] else []:=by
 rw [ofL,List.take_add_one,hx,List.filter_append,List.map_append]
 congr 1
 cases hh:zac l x.kind x.term<;>simp [List.filter_cons,hh]
theorem pure92 (l:Lim) (m:List Mov) (h:zaS l=0) (hn:m.length≤1000000):Pure Tryz.prog 137 [l.pv,.sl 7 (m.map Mov.pv)] (.sl 1 ((ofL l m).map (.i .i64))):=by
 refine zf (cF Tryz.func137 Tryz.f137.eq_1) (by simp) fun hw X hX=>?_
 simp only [wfs,PV.wf,List.length_map,maxLen] at hw
 repeat' first|refine gC (fun hc=>?_) (fun hc=>?_)<;>try contradiction|refine gG ?_|show AK _;intro K H|refine H _ _ ?_;clear H K|refine gJ ?_;try exact trivial|omega
 refine zaO 100 3 1 [(2,.lp 2 0),(5,.row 100 0),(6,.lm 12),(13,.p (.sl 7 (m.map Mov.pv))),(14,.p (.i .i64 m.length)),(15,.p (.i .i64 0))] [(2,.box (l.cells.map .p) false),(12,.mp [] false)] ?_ ?_
 ·simp only [Own,zaL,zaB,zbt,zay,qS,Nat.reduceAdd,Nat.reduceMul,Nat.reduceEqDiff,Nat.reduceLeDiff,reduceIte,reduceCtorEq,Nat.reduceBEq,Nat.reduceLT]
 refine zk (κ:=Nat × List (ByteArray × ByteArray)) (fun k=>⟨[(2,.lp 2 0),(5,.row 100 (ofL l (m.take k.1)).length),(6,.lm 12),(13,.p (.sl 7 (m.map Mov.pv))),(14,.p (.i .i64 m.length)),(15,.p (.i .i64 k.1))],[(2,.box (l.cells.map .p) false),(12,.mp (k.2.map (entPV l)) false),(100,.row 3 1 ((ofL l (m.take k.1)).map (.i .i64)) false)],[],false⟩) (fun k=>k.1≤m.length) (fun k=>m.length - k.1) (0,[]) ?_ ?_ ?_
 ·refine gJ ?_;simp [ofL]
 ·simp
 ·intro k hk
  obtain ⟨i,es⟩:=k
  simp only at hk
  have hl:(ofL l (m.take i)).length≤i:=by
   simp only [ofL,List.length_map];exact Nat.le_trans (List.length_filter_le _ _) (by simp;omega)
  repeat first|refine gG ?_|show AK _;intro K H|refine H _ _ ?_;clear H K|refine gJ ?_;try exact trivial|omega
  (refine gC (fun hc=>?_) (fun hc=>?_)<;>try contradiction)
  ·obtain ⟨x,hx⟩:=zn (i:=i) (l:=m) (by omega)
   have hko:keysOk [2,2] true (.agg [.s x.kind,.s x.term]) (es.map (entPV l))=True:=eq_true (keysOk_ent l (x.kind,x.term) es)
   obtain ⟨es',hput⟩:=mput_ent l (x.kind,x.term) es
   simp only [keyPV] at hput
   have hnx:=ofL_next (l:=l) hx
   rcases mget_ent l (x.kind,x.term) es with hg|hg
   ·simp only [keyPV] at hg
    have qe:=aI qR (aI @hx (aI @hko (aI @hg @hput)));repeat' first|refine gC (fun hc=>?_) (fun hc=>?_)<;>try contradiction|refine za (pure135 l x.kind x.term h) ?_|refine gG ?_|show AK _;intro K H|refine H _ _ ?_;clear H K|refine gJ ?_;try exact trivial|omega
    ·rw [hc,if_pos rfl] at hnx
     exact ⟨(i+1,es'),by simp only;omega,by simp only;omega,⟨by simp only [hnx];simp,by simp⟩,rfl,by simp only [hnx];simp⟩
    ·rw [hc] at hnx
     exact ⟨(i+1,es'),by simp only;omega,by simp only;omega,⟨by simp only [hnx];simp,by simp⟩,rfl,by simp only [hnx];simp⟩
   ·simp only [keyPV] at hg
    have qe:=aI qR (aI @hx (aI @hko @hg));repeat' first|refine gC (fun hc=>?_) (fun hc=>?_)<;>try contradiction|refine gG ?_|show AK _;intro K H|refine H _ _ ?_;clear H K|refine gJ ?_;try exact trivial|omega
    ·rw [hc,if_pos rfl] at hnx
     exact ⟨(i+1,es),by simp only;omega,by simp only;omega,⟨by simp only [hnx];simp,by simp⟩,rfl,by simp only [hnx];simp⟩
    ·rw [hc] at hnx
     exact ⟨(i+1,es),by simp only;omega,by simp only;omega,⟨by simp only [hnx];simp,by simp⟩,rfl,by simp only [hnx];simp⟩
  ·repeat' first|refine gC (fun hc=>?_) (fun hc=>?_)<;>try contradiction|refine gG ?_|show AK _;intro K H|refine H _ _ ?_;clear H K|refine gJ ?_;try exact trivial|omega
   have e:i=m.length:=by omega
   subst e;rw [List.take_length];exact .refl _
set_option maxRecDepth 100000
set_option linter.unusedVariables false
set_option linter.unusedSimpArgs false
set_option maxHeartbeats 2000000
theorem firstE_0 {l:List Int} (h:zg l=0) {x:Int} (hx:x ∈ l):x=0:=by
 induction l with
 | nil=>cases hx
 | cons e r ih=>
  obtain ⟨h1,h2⟩:=zq.1 h
  rcases List.mem_cons.1 hx with h|h
  ·rw [h];exact h1
  ·exact ih h2 h
theorem pairwise_sorted {l:List Int} (h:l.Pairwise (·≤·)):sortedI l:=by
 intro i j x y hij hx hy
 obtain ⟨hi,rfl⟩:=List.getElem?_eq_some_iff.1 hx
 obtain ⟨hj,rfl⟩:=List.getElem?_eq_some_iff.1 hy
 rcases Nat.lt_or_eq_of_le hij with h1|h1
 ·exact List.pairwise_iff_getElem.1 h i j hi hj h1
 ·subst h1;exact Int.le_refl _
theorem step_sorted {l:List Int} (h:∀ (i:Nat) (x y:Int),l[i]?=some x→l[i+1]?=some y→x≤y):l.Pairwise (·≤·):=by
 refine List.pairwise_iff_getElem.2 fun i j hi hj hij=>?_
 obtain ⟨k,rfl⟩:∃ k,j=i+1+k:=⟨j - i - 1,by omega⟩
 clear hij
 induction k with
 | zero=>exact h i _ _ (List.getElem?_eq_getElem hi) (List.getElem?_eq_getElem hj)
 | succ k ih=>exact Int.le_trans (ih (by omega)) (h (i+1+k) _ _ (List.getElem?_eq_getElem (by omega)) (List.getElem?_eq_getElem hj))
theorem zaR {m:List Mov} (h:zad m=0):m.length≤30000∧(∀ x ∈ m,chkMov x=0)∧(m.map Mov.moment).Pairwise (·≤·):=by
 unfold zad at h
 split at h
 ·cases h
 ·have key:∀ (i:Nat) (x:Mov),m[i]?=some x→movErr m i x=0:=fun i x hx=>firstE_0 h (List.mem_of_getElem? (zI hx))
  refine ⟨by omega,fun x hx=>?_,step_sorted fun i x y hx hy=>?_⟩
  ·obtain ⟨i,hi⟩:=List.getElem?_of_mem hx
   exact (zq.1 (key i x hi)).1
  ·simp only [List.getElem?_map,Option.map_eq_some_iff] at hx hy
   obtain ⟨a,ha,rfl⟩:=hx
   obtain ⟨b,hb,rfl⟩:=hy
   have h1:=(zq.1 (zq.1 (key (i+1) b hb)).2).1
   simp only [Nat.add_sub_cancel,ha,Option.getD_some] at h1
   rw [ite_eq0 (by decide)] at h1
   omega
theorem ofL_sorted {l:Lim} {m:List Mov} (h:zad m=0):sortedI (ofL l m):=by
 refine pairwise_sorted ?_
 have:=(zaR h).2.2
 rw [List.pairwise_map] at this
 rw [ofL,List.pairwise_map]
 exact this.filter _
theorem ofL_len {l:Lim} {m:List Mov}:(ofL l m).length≤m.length:=by
 simp only [ofL,List.length_map];exact List.length_filter_le _ _
theorem beginsL_len {l:Lim} (h:zaS l=0) (d:Int):(zM l d).length≤1440:=by
 have hl:=chkLim_0 h
 have h1:0≤l.from_:=Int.ediv_nonneg (by omega) (by omega)
 have h2:l.to / l.step≤l.to:=Int.ediv_le_self _ (by omega)
 unfold zM begK begN
 split
 ·simp;omega
 ·simp
end Go.Proofs.YtahmdjadnlpjoaaGreat
