/- Contracts of functions that the proof uses, shared by the claims of this seat; no statement of its own. Part 55. No conditions. -/
import Derived.Test.YtahmdjadnlpjoaaGreatK28
import Derived.Test.YtahmdjadnlpjoaaGreatK25
set_option linter.all false
set_option maxHeartbeats 8000000
namespace Go.Proofs.YtahmdjadnlpjoaaGreat
open Go.RowKit
set_option maxRecDepth 100000
set_option linter.unusedVariables false
set_option linter.unusedSimpArgs false
set_option maxHeartbeats 4000000
def SlOk (s:Slt):Prop:=s.ls.length≤1000∧s.sh.length≤1000
theorem zaf (k n:Nat) (r:List LV):allP (.row k n::r)=none:=rfl
theorem pure1227 (s:Slt) (h:SlOk s):Pure Tryz.prog 247 [s.pv] s.pv:=by
 obtain ⟨h1,h2⟩:=h
 refine zf (cF Tryz.func247 Tryz.f247.eq_1) (by simp) fun hw X hX=>?_
 have qe:=aI qR (aI @qN @zaf);repeat' first|refine gC (fun hc=>?_) (fun hc=>?_)<;>try contradiction|refine zm [(5,105)] (acts1228 s.ls (by omega)) ?_|refine zm [(5,106)] (acts1229 s.sh (by omega)) ?_|refine gG ?_|show AK _;intro K H|refine H _ _ ?_;clear H K|refine gJ ?_;try exact trivial|omega
 exact .refl _
theorem acts1226 (L:List Slt) (hs:∀ s ∈ L,SlOk s) (hn:L.length≤1000000):Acts Tryz.prog 246 [.p (.sl 16 (L.map Slt.pv)),.p (.fn (.func 247) [] [])] [] (.row 100 L.length) [(100,.row 59 16 (L.map Slt.pv) false)]:=by
 refine zS (cF Tryz.func246 Tryz.f246.eq_1) (by simp) (by simp [scPs,scP]) (by simp [scObj]) trivial (by simp [scObj]) trivial fun X hX=>?_
 unfold zD ghO
 have qe:=aI qR (aI @List.map_nil.{0,0} @List.append_nil.{0});repeat' first|refine gC (fun hc=>?_) (fun hc=>?_)<;>try contradiction|refine gG ?_|show AK _;intro K H|refine H _ _ ?_;clear H K|refine gJ ?_;try exact trivial|omega
 refine zaO 100 59 16 [(1,.p (.fn (.func 247) [] [])),(5,.row 100 0),(8,.p (.sl 16 (L.map Slt.pv))),(9,.p (.i .i64 L.length)),(10,.p (.i .i64 0))] [] ?_ ?_
 ·simp only [Own,zaL,zaB,zbt,zay,qS,Nat.reduceAdd,Nat.reduceMul,Nat.reduceEqDiff,Nat.reduceLeDiff,reduceIte,reduceCtorEq,Nat.reduceBEq,Nat.reduceLT]
 refine zk (κ:=Nat) (fun k=>⟨[(1,.p (.fn (.func 247) [] [])),(5,.row 100 k),(8,.p (.sl 16 (L.map Slt.pv))),(9,.p (.i .i64 L.length)),(10,.p (.i .i64 k))],[(100,.row 59 16 ((L.take k).map Slt.pv) false)],[],false⟩) (fun k=>k≤L.length) (fun k=>L.length - k) 0 ?_ ?_ ?_
 ·exact sS
 ·simp
 ·intro k hk
  repeat first|refine gG ?_|show AK _;intro K H|refine H _ _ ?_;clear H K|refine gJ ?_;try exact trivial|omega
  (refine gC (fun hc=>?_) (fun hc=>?_)<;>try contradiction)
  ·obtain ⟨x,hx⟩:=zn (i:=k) (l:=L) (by omega)
   have hl:(L.take k).length=k:=by rw [List.length_take];omega
   have qe:=aI qR (aI @hx @hl);repeat' first|refine gC (fun hc=>?_) (fun hc=>?_)<;>try contradiction|refine zr (pure1227 x (hs x (List.mem_of_getElem? hx))) ?_|refine gG ?_|show AK _;intro K H|refine H _ _ ?_;clear H K|refine gJ ?_;try exact trivial|omega
   exact ⟨k+1,by omega,by omega,by simp,by rw [zan hx];simp;omega⟩
  ·obtain rfl:k=L.length:=by omega
   have qe:=aI qR (aI @rtN (aI @rtR @List.take_length.{0}));repeat' first|refine gC (fun hc=>?_) (fun hc=>?_)<;>try contradiction|refine gG ?_|show AK _;intro K H|refine H _ _ ?_;clear H K|refine gJ ?_;try exact trivial|omega
   exact .inl .mk1
theorem allWs (l:List Wsh):l.all ((fun x=>x.cells.all PV.one) ∘ Wsh.pv)=true:=by rw [List.all_eq_true];intro x _;rfl
theorem zbD (L:List Slt) (W:List Wsh) (hs:∀ s ∈ L,SlOk s) (hn:L.length≤1000000) (hW:W.length≤1000000) :
  Acts Tryz.prog 181 [.p (.agg [.sl 16 (L.map Slt.pv),.sl 14 (W.map Wsh.pv)])] [] (.agg [.row 100 L.length,.row 7 W.length]) [(100,.row 59 16 (L.map Slt.pv) false),(7,.row 71 14 (W.map Wsh.pv) false)]:=by
 have hA:=fun l=>eq_true (allWs l)
 have hT:List.take W.length (W.map Wsh.pv)=W.map Wsh.pv:=by rw [List.take_of_length_le];simp
 have hD:∀ x:PV,List.drop W.length (List.replicate W.length x)=[]:=fun x=>by simp
 refine zS (cF Tryz.func181 Tryz.f181.eq_1) (by simp) (by simp [scPs,scP]) (by simp [scObj]) trivial (by simp [scObj]) trivial fun X hX=>?_
 unfold zD ghO
 have qe:=aI qR (aI @hA (aI @hT (aI @hD (aI @Nat.min_self (aI @qN (aI @zaf (aI @rtN (aI @rtR (aI @List.map_nil.{0,0} @List.append_nil.{0})))))))));repeat' first|refine gC (fun hc=>?_) (fun hc=>?_)<;>try contradiction|refine run_callSP [(100,100)] (acts1226 L hs hn) ?_|refine gG ?_|show AK _;intro K H|refine H _ _ ?_;clear H K|refine gJ ?_;try exact trivial|omega
 refine run_partN 1 ?_
 have qe:=@qR;repeat' first|refine gC (fun hc=>?_) (fun hc=>?_)<;>try contradiction|refine gG ?_|show AK _;intro K H|refine H _ _ ?_;clear H K|refine gJ ?_;try exact trivial|omega
 refine run_buildL (us:=[.row 100 L.length,.row 7 W.length]) (zs:=[.row 100 L.length,.row 7 W.length]) (sE) (sE) (by simp only [fillLOk]<;>simp [LV.cells,LV.known,qS,Nat.reduceAdd,Nat.reduceMul,Nat.reduceEqDiff,Nat.reduceLeDiff,reduceIte,reduceCtorEq,Nat.reduceBEq,Nat.reduceLT]) rfl (zE ?_)
 have qe:=aI qR (aI @hT (aI @hD (aI @List.append_nil.{0} (aI @rtN (aI @rtR (aI @zaf (@List.length_map.{0,0})))))));repeat' first|refine gC (fun hc=>?_) (fun hc=>?_)<;>try contradiction|refine gG ?_|show AK _;intro K H|refine H _ _ ?_;clear H K|refine gJ ?_;try exact trivial|omega
 exact .inl .mk
set_option maxRecDepth 100000
set_option linter.unusedVariables false
set_option linter.unusedSimpArgs false
set_option maxHeartbeats 4000000
abbrev rawS (q:Req):PV:=.agg [.s q.name,.s q.carrier,.s q.kind,.s q.term,.s q.partner,.s q.link,.i .i64 q.per.fro,.i .i64 q.per.to,.i .i64 q.per.days,.i .i64 q.minute,.i .i64 q.seats,.i .i64 q.size,.i .i64 q.noise,.s q.carrier,.nilsl,.nilsl]
def newS (q:Req):Slt:=⟨q,q.carrier,[],[]⟩
theorem wk_newS (q:Req):Wks (rawS q).cells (newS q).pv.cells:=
 ⟨.refl _,.refl _,.refl _,.refl _,.refl _,.refl _,.refl _,.refl _,.refl _,.refl _,.refl _,.refl _,.refl _,.refl _,.nilsl _,.nilsl _,trivial⟩
def bk0:Bk:=⟨[],[]⟩
theorem zbw (e:Int):Wk (.tup [.agg [.nilsl,.nilsl],.i .i64 e]) (.tup [bk0.pv,.i .i64 e]):=.tup ⟨.agg ⟨.nilsl _,.nilsl _,trivial⟩,.refl _,trivial⟩
theorem taken1154 (b:Bk) (n:ByteArray):Pure Tryz.prog 180 [.agg [.sl 16 (b.slots.map Slt.pv),.sl 14 (b.wait.map Wsh.pv)],.s n] (.b (takenB (b.slots.map (·.req.name)) (b.wait.map (·.req.name)) n)):=by
 have h:=pure1154 (b.slots.map Slt.raw) b.wait n
 rw [←slt_raw,slot_names] at h;exact h
structure BkOk (b:Bk):Prop where
 s:∀ s ∈ b.slots,SlOk s
 n:b.slots.length≤1000
 w:b.wait.length≤1000
def tkE (b:Bk) (n:ByteArray):Int:=if takenB (b.slots.map (·.req.name)) (b.wait.map (·.req.name)) n=true then 9 else 0
def holdE (b:Bk) (q:Req):Int:=zg [chkQ q,tkE b q.name,if 64≤(b.slots.length:Int) then 5 else 0]
def movF (b:Bk) (but:Int):List Mov:=mvF (rqW (b.slots.map (·.req)) but)
def holdC (l:List Lim) (b:Bk) (q:Req):Int:=if holdE b q=0 then (if fitR l (movF b (-1)) q=true then 0 else 14) else holdE b q
def holdB (l:List Lim) (b:Bk) (q:Req):Bk:=if holdC l b q=0 then ⟨b.slots++[newS q],b.wait⟩ else bk0
theorem pure1108 (l:List Lim) (b:Bk) (q:Req) (hb:BkOk b):Pure Tryz.prog 125 [b.pv,.sl 11 (l.map Lim.pv),q.pv] (.tup [(holdB l b q).pv,.i .i64 (holdC l b q)]):=by
 obtain ⟨hs,hn,hwl⟩:=hb
 refine zat (r:=if holdC l b q=0 then .tup [.agg [.sl 16 (b.slots.map Slt.pv++[rawS q]),.sl 14 (b.wait.map Wsh.pv)],.i .i64 0] else .tup [.agg [.nilsl,.nilsl],.i .i64 (holdC l b q)]) ?_ ?_
 ·refine zf (cF Tryz.func125 Tryz.f125.eq_1) (by simp) fun hw X hX=>?_
  have ht:∀ n,(if takenB (b.slots.map (·.req.name)) (b.wait.map (·.req.name)) n=true then (9:Int) else 0)=tkE b n:=fun _=>rfl
  have hm:mvF (rqW (b.slots.map (·.req)) (-1))=movF b (-1):=rfl
  have hl:(b.slots.map Slt.pv++[rawS q]).length=b.slots.length+1:=by simp
  have qe:=aI qR (aI @qN (aI @zaA (aI @zaz @zaf)));repeat' first|refine gC (fun hc=>?_) (fun hc=>?_)<;>try contradiction|refine za (pure1194 q) ?_|refine za (taken1154 b q.name) ?_|refine za (zW _ _) ?_|refine za (zz [_,_,_]) ?_|refine za (pure1089 b.slots b.wait (-1) (by omega)) ?_|refine za (pure1159 l _ q) ?_|refine zm [(100,200),(7,201)] (zbD b.slots b.wait hs (by omega) (by omega)) ?_|refine gG ?_|show AK _;intro K H|refine H _ _ ?_;clear H K|refine gJ ?_;try exact trivial|omega
  ·have h:¬holdE b q=0:=hc
   rw [holdC,if_neg h,if_neg h];exact .refl _
  ·rename_i h0
   have h:holdE b q=0:=h0
   have hf:fitR l (movF b (-1)) q=false:=by simpa [hm] using hc
   rw [holdC,if_pos h,hf];exact .refl _
  ·rename_i h0
   have h:holdE b q=0:=h0
   have hf:fitR l (movF b (-1)) q=true:=by simpa [hm] using hc
   rw [holdC,if_pos h,hf];exact .refl _
 ·by_cases h:holdC l b q=0
  ·rw [if_pos h,holdB,if_pos h,h]
   refine .tup ⟨.agg ⟨.sl ?_,.refl _,trivial⟩,.refl _,trivial⟩
   rw [List.map_append]
   exact .app (.refl _) ⟨wk_newS q,trivial⟩
  ·rw [if_neg h,holdB,if_neg h];exact zbw _
def HoldC (l:List Lim) (b:Bk) (q:Req):Int:=if zg [z3 l,zG b]=0 then holdC l b q else zg [z3 l,zG b]
def HoldB (l:List Lim) (b:Bk) (q:Req):Bk:=if HoldC l b q=0 then holdB l b q else bk0
theorem holdB_0 {l:List Lim} {b:Bk} {q:Req} (h:holdC l b q≠0):holdB l b q=bk0:=by rw [holdB,if_neg h]
theorem pure1042 (l:List Lim) (b:Bk) (q:Req) (hb:zG b=0→BkOk b):Pure Tryz.prog 52 [.sl 11 (l.map Lim.pv),b.pv,q.pv] (.tup [(HoldB l b q).pv,.i .i64 (HoldC l b q)]):=by
 refine zat (r:=if zg [z3 l,zG b]=0 then .tup [(holdB l b q).pv,.i .i64 (holdC l b q)] else .tup [.agg [.nilsl,.nilsl],.i .i64 (zg [z3 l,zG b])]) ?_ ?_
 ·by_cases h:zg [z3 l,zG b]=0
  ·have h1:=h
   have e1:(zg [z3 l,zG b]=0)=True:=eq_true h
   rw [if_pos h]
   refine zf (cF Tryz.func52 Tryz.f52.eq_1) (by simp) fun hw X hX=>?_
   have hb':=hb (fE0 h _ (by simp))
   have qe:=aI qR (aI @qN @e1);repeat' first|refine gC (fun hc=>?_) (fun hc=>?_)<;>try contradiction|refine za (pure22 l) ?_|refine za (zX b) ?_|refine za (zz [_,_]) ?_|refine za (pure1108 l b q hb') ?_|refine gG ?_|show AK _;intro K H|refine H _ _ ?_;clear H K|refine gJ ?_;try exact trivial|omega
   exact .refl _
  ·have e1:(zg [z3 l,zG b]=0)=False:=eq_false h
   rw [if_neg h]
   refine zf (cF Tryz.func52 Tryz.f52.eq_1) (by simp) fun hw X hX=>?_
   have qe:=aI qR (aI @qN @e1);repeat' first|refine gC (fun hc=>?_) (fun hc=>?_)<;>try contradiction|refine za (pure22 l) ?_|refine za (zX b) ?_|refine za (zz [_,_]) ?_|refine gG ?_|show AK _;intro K H|refine H _ _ ?_;clear H K|refine gJ ?_;try exact trivial|omega
   exact .refl _
 ·by_cases h:zg [z3 l,zG b]=0
  ·rw [if_pos h,HoldB,HoldC,if_pos h]
   by_cases k:holdC l b q=0
   ·rw [if_pos k];exact .refl _
   ·rw [if_neg k,holdB_0 k];exact .refl _
  ·rw [if_neg h,HoldB,HoldC,if_neg h,if_neg h];exact zbw _
def waitE (b:Bk) (w:Wsh):Int:=zg [chkWsh w,tkE b w.req.name,if 64≤(b.wait.length:Int) then 5 else 0]
def waitB (b:Bk) (w:Wsh):Bk:=if waitE b w=0 then ⟨b.slots,zbM cmpW (b.wait++[w])⟩ else bk0
theorem pure1085 (b:Bk) (w:Wsh) (hb:BkOk b) (hn:b.wait.length≤10):Pure Tryz.prog 113 [b.pv,w.pv] (.tup [(waitB b w).pv,.i .i64 (waitE b w)]):=by
 obtain ⟨hs,hn1,hwl⟩:=hb
 refine zat (r:=if waitE b w=0 then .tup [.agg [.sl 16 (b.slots.map Slt.pv),.sl 14 ((zbM cmpW (b.wait++[w])).map Wsh.pv)],.i .i64 0] else .tup [.agg [.nilsl,.nilsl],.i .i64 (waitE b w)]) ?_ ?_
 ·refine zf (cF Tryz.func113 Tryz.f113.eq_1) (by simp) fun hw X hX=>?_
  have ht:∀ n,(if takenB (b.slots.map (·.req.name)) (b.wait.map (·.req.name)) n=true then (9:Int) else 0)=tkE b n:=fun _=>rfl
  have hA:=fun l=>eq_true (allWs l)
  have hm:b.wait.map Wsh.pv++[w.pv]=(b.wait++[w]).map Wsh.pv:=by simp
  have hl:(b.wait++[w]).length=b.wait.length+1:=by simp
  have h1156:=acts1156 pure1152 (b.wait++[w]) (by rw [hl];omega)
  rw [hl,←hm] at h1156
  have hsl:(zbM cmpW (b.wait++[w])).length=b.wait.length+1:=by rw [zH];exact hl
  have qe:=aI qR (aI @qN (aI @zaA (aI @zaz (aI @zaf (aI @hA @hsl)))));repeat' first|refine gC (fun hc=>?_) (fun hc=>?_)<;>try contradiction|refine za (pure1153 w) ?_|refine za (taken1154 b w.req.name) ?_|refine za (zW _ _) ?_|refine za (zz [_,_,_]) ?_|refine zm [(100,200),(7,201)] (zbD b.slots b.wait hs (by omega) (by omega)) ?_|refine zm [(900,201)] (h1156) ?_|refine gG ?_|show AK _;intro K H|refine H _ _ ?_;clear H K|refine gJ ?_;try exact trivial|omega
  ·have h:¬waitE b w=0:=hc
   rw [if_neg h];exact .refl _
  ·have h:waitE b w=0:=hc
   rw [if_pos h];exact .refl _
 ·by_cases h:waitE b w=0
  ·rw [if_pos h,waitB,if_pos h,h];exact .refl _
  ·rw [if_neg h,waitB,if_neg h];exact zbw _
def WaitC (b:Bk) (w:Wsh):Int:=if zG b=0 then waitE b w else zG b
def WaitB (b:Bk) (w:Wsh):Bk:=if WaitC b w=0 then waitB b w else bk0
theorem pure1018 (b:Bk) (w:Wsh) (hb:zG b=0→BkOk b) (hn:b.wait.length≤10):Pure Tryz.prog 32 [b.pv,w.pv] (.tup [(WaitB b w).pv,.i .i64 (WaitC b w)]):=by
 refine zat (r:=if zG b=0 then .tup [(waitB b w).pv,.i .i64 (waitE b w)] else .tup [.agg [.nilsl,.nilsl],.i .i64 (zG b)]) ?_ ?_
 ·by_cases h:zG b=0
  ·have e1:(zG b=0)=True:=eq_true h
   rw [if_pos h]
   refine zf (cF Tryz.func32 Tryz.f32.eq_1) (by simp) fun hw X hX=>?_
   have qe:=aI qR (aI @qN @e1);repeat' first|refine gC (fun hc=>?_) (fun hc=>?_)<;>try contradiction|refine za (zX b) ?_|refine za (pure1085 b w (hb h) hn) ?_|refine gG ?_|show AK _;intro K H|refine H _ _ ?_;clear H K|refine gJ ?_;try exact trivial|omega
   exact .refl _
  ·have e1:(zG b=0)=False:=eq_false h
   rw [if_neg h]
   refine zf (cF Tryz.func32 Tryz.f32.eq_1) (by simp) fun hw X hX=>?_
   have qe:=aI qR (aI @qN @e1);repeat' first|refine gC (fun hc=>?_) (fun hc=>?_)<;>try contradiction|refine za (zX b) ?_|refine gG ?_|show AK _;intro K H|refine H _ _ ?_;clear H K|refine gJ ?_;try exact trivial|omega
   exact .refl _
 ·by_cases h:zG b=0
  ·rw [if_pos h,WaitB,WaitC,if_pos h]
   by_cases k:waitE b w=0
   ·rw [if_pos k];exact .refl _
   ·rw [if_neg k,waitB,if_neg k];exact .refl _
  ·rw [if_neg h,WaitB,WaitC,if_neg h,if_neg h];exact zbw _
end Go.Proofs.YtahmdjadnlpjoaaGreat
