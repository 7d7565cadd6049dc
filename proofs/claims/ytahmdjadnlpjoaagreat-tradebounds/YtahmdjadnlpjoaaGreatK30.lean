/- Contracts of functions that the proof uses, shared by the claims of this seat; no statement of its own. Part 58. No conditions. -/
import Derived.Test.YtahmdjadnlpjoaaGreatK28
import Derived.Test.YtahmdjadnlpjoaaGreatK29
set_option linter.all false
set_option maxHeartbeats 8000000
namespace Go.Proofs.YtahmdjadnlpjoaaGreat
open Go.RowKit
set_option maxRecDepth 100000
set_option linter.unusedVariables false
set_option linter.unusedSimpArgs false
set_option maxHeartbeats 8000000
def zA (b:Bk) (n:ByteArray):Nat:=(atL n (b.slots.map (·.req.name))).toNat
def chgC (b:Bk) (c n:ByteArray) (e ce:Int):Int:=zg [ownE b c n e,ce]
theorem own_3 (b:Bk) (c n:ByteArray) (e:Int) (h:zg [zaH c,fndE b.slots n,e]≠0):ownE b c n e=zg [zaH c,fndE b.slots n,e]:=by
 simp only [ownE,zg] at h ⊢;(repeat' split)<;>simp_all
theorem own_4 (b:Bk) (c n:ByteArray) (e:Int) (h:zg [zaH c,fndE b.slots n,e]=0):ownE b c n e=if (zo b n).holder=c then 0 else 31:=by
 rw [ownE,za3 (fE0 h _ (by simp)),za3 (fE0 h _ (by simp)),za3 (fE0 h _ (by simp)),fE_one]
theorem rens_p (m:Nat→Nat):∀ l:List PV,rens m (l.map .p)=l.map .p
 | []=>by simp only [List.map_nil,rens]
 | x::l=>by simp only [List.map_cons,rens,LV.ren,rens_p m l]
theorem pure1172 {cf:Nat} {caps:List PV} (b:Bk) (c n:ByteArray) (e ce:Int) (xs:List PV) (hb:BkOk b) (hx:xs.length=b.slots.length)
  (hf:ownE b c n e=0→Acts Tryz.prog cf ([.ep 900 b.slots.length (zA b n) 0]++caps.map .p) [(900,.row 59 16 (b.slots.map Slt.pv) false)] (.p (.i .i64 ce)) [(900,.row 59 16 xs false)]) :
  Pure Tryz.prog 195 [b.pv,.s c,.s n,.i .i64 e,.fn (.func cf) [] caps] (if chgC b c n e ce=0 then .tup [.agg [.sl 16 xs,.sl 14 (b.wait.map Wsh.pv)],.i .i64 0] else .tup [.agg [.nilsl,.nilsl],.i .i64 (chgC b c n e ce)]):=by
 obtain ⟨hs,hn,hwl⟩:=hb
 refine zf (cF Tryz.func195 Tryz.f195.eq_1) (by simp) fun hw X hX=>?_
 have hfd:(if atL n (b.slots.map (·.req.name)) < 0 then (10:Int) else 0)=fndE b.slots n:=rfl
 by_cases hown:ownE b c n e=0
 ·have h3:zg [zaH c,fndE b.slots n,e]=0:=by
   refine Classical.byContradiction fun h=>?_
   rw [own_3 b c n e h] at hown;exact h hown
  have hat:¬atL n (b.slots.map (·.req.name)) < 0:=fun h=>by
   have:=fE0 h3 (fndE b.slots n) (by simp)
   rw [fndE,if_pos h] at this;omega
  obtain ⟨s,hsl⟩:=slot_at hat
  have hlt:=atL_lt n (b.slots.map (·.req.name))
  rw [List.length_map] at hlt
  have hso:zo b n=s:=by rw [zo,hsl];rfl
  have hh:s.holder=c:=by
   rw [own_4 b c n e h3,hso] at hown
   refine Classical.byContradiction fun h=>?_
   rw [if_neg h] at hown;omega
  have hC:chgC b c n e ce=ce:=by rw [chgC,za3 hown,fE_one]
  have hf':=hf hown
  rw [zA] at hf'
  have h3t:(zg [zaH c,fndE b.slots n,e]=0)=True:=eq_true h3
  have hxt:=hx
  have qe:=aI qR (aI @qN (aI @zaA (aI @zaz (aI @zaf (aI @hfd (aI @h3t (aI @hsl (aI @hh (aI @hx (aI @decide_true (aI @Bool.not_true (aI @List.append_nil.{0} (aI @List.map_cons.{0,0} (@List.map_nil.{0,0}))))))))))))));repeat' first|refine gC (fun hc=>?_) (fun hc=>?_)<;>try contradiction|refine za (zby c) ?_|refine za (zZ b n) ?_|refine za (zz [_,_,_]) ?_|refine zm [(100,200),(7,201)] (zbD b.slots b.wait hs (by omega) (by omega)) ?_|refine za (za9 b n) ?_|refine gG ?_|show AK _;intro K H|refine H _ _ ?_;clear H K|refine gJ ?_;try exact trivial|omega
  have qe:=fun m=>rens_p m caps
  refine run_callEVX [(900,200)] (hf:=hf'.toE) (hn:=fun _=>?_)
  have qe:=aI qR (aI @qN (aI @zaA (aI @zaz (aI @zaf (aI @hx (aI @decide_true @Bool.not_true))))));repeat' first|refine gC (fun hc=>?_) (fun hc=>?_)<;>try contradiction|refine gG ?_|show AK _;intro K H|refine H _ _ ?_;clear H K|refine gJ ?_;try exact trivial|omega
  ·have h0:¬ce=0:=hc
   rw [hC,if_neg h0];exact .refl _
  ·have h0:ce=0:=hc
   rw [hC,if_pos h0];exact .refl _
 ·by_cases h3:zg [zaH c,fndE b.slots n,e]=0
  ·have hat:¬atL n (b.slots.map (·.req.name)) < 0:=fun h=>by
    have:=fE0 h3 (fndE b.slots n) (by simp)
    rw [fndE,if_pos h] at this;omega
   obtain ⟨s,hsl⟩:=slot_at hat
   have hlt:=atL_lt n (b.slots.map (·.req.name))
   rw [List.length_map] at hlt
   have hso:zo b n=s:=by rw [zo,hsl];rfl
   have hh:¬s.holder=c:=fun h=>hown (by rw [own_4 b c n e h3,hso,if_pos h])
   have ho:ownE b c n e=31:=by rw [own_4 b c n e h3,hso,if_neg hh]
   have hC:chgC b c n e ce=31:=by rw [chgC,za2 (by rw [ho];omega),ho]
   rw [hC]
   have h3t:(zg [zaH c,fndE b.slots n,e]=0)=True:=eq_true h3
   have hht:(s.holder=c)=False:=eq_false hh
   have qe:=aI qR (aI @qN (aI @zaA (aI @zaz (aI @zaf (aI @hfd (aI @h3t (aI @hsl (aI @hht (aI @decide_true (aI @decide_false (aI @Bool.not_true @Bool.not_false)))))))))));repeat' first|refine gC (fun hc=>?_) (fun hc=>?_)<;>try contradiction|refine za (zby c) ?_|refine za (zZ b n) ?_|refine za (zz [_,_,_]) ?_|refine zm [(100,200),(7,201)] (zbD b.slots b.wait hs (by omega) (by omega)) ?_|refine za (za9 b n) ?_|refine gG ?_|show AK _;intro K H|refine H _ _ ?_;clear H K|refine gJ ?_;try exact trivial|omega
   rw [if_neg (by decide)];exact .refl _
  ·have ho:=own_3 b c n e h3
   have hC:chgC b c n e ce=zg [zaH c,fndE b.slots n,e]:=by rw [chgC,za2 hown,ho]
   rw [hC,if_neg h3]
   have h3t:(zg [zaH c,fndE b.slots n,e]=0)=False:=eq_false h3
   have qe:=aI qR (aI @qN (aI @hfd @h3t));repeat' first|refine gC (fun hc=>?_) (fun hc=>?_)<;>try contradiction|refine za (zby c) ?_|refine za (zZ b n) ?_|refine za (zz [_,_,_]) ?_|refine gG ?_|show AK _;intro K H|refine H _ _ ?_;clear H K|refine gJ ?_;try exact trivial|omega
   exact .refl _
set_option maxRecDepth 100000
set_option linter.unusedVariables false
set_option linter.unusedSimpArgs false
set_option maxHeartbeats 8000000
theorem za8 {b:Bk} {c n:ByteArray} {e:Int} (hown:ownE b c n e=0):¬atL n (b.slots.map (·.req.name)) < 0∧b.slots[zA b n]?=some (zo b n)∧(zo b n).holder=c∧zg [zaH c,fndE b.slots n,e]=0:=by
 have h3:zg [zaH c,fndE b.slots n,e]=0:=by
  refine Classical.byContradiction fun h=>?_
  rw [own_3 b c n e h] at hown;exact h hown
 have hat:¬atL n (b.slots.map (·.req.name)) < 0:=fun h=>by
  have:=fE0 h3 (fndE b.slots n) (by simp)
  rw [fndE,if_pos h] at this;omega
 obtain ⟨s,hsl⟩:=slot_at hat
 have hso:zo b n=s:=by rw [zo,hsl];rfl
 refine ⟨hat,by rw [zA,hsl,hso],?_,h3⟩
 rw [own_4 b c n e h3] at hown
 refine Classical.byContradiction fun h=>?_
 rw [if_neg h] at hown;omega
theorem Wkr.set:∀ {ps qs:List PV} (i:Nat) {a c:PV},Wkr ps qs→Wks a.cells c.cells→Wkr (ps.set i a) (qs.set i c)
 | [],[],_,_,_,_,_=>trivial
 | [],_::_,_,_,_,h,_=>h.elim
 | _::_,[],_,_,_,h,_=>h.elim
 | _::_,_::_,0,_,_,h,k=>⟨k,h.2⟩
 | _::_,_::_,i+1,_,_,h,k=>⟨h.1,Wkr.set i h.2 k⟩
def chgB (b:Bk) (n:ByteArray) (s:Slt):Bk:=⟨b.slots.set (zA b n) s,b.wait⟩
theorem changedP {cf:Nat} {caps:List PV} (b:Bk) (c n:ByteArray) (e ce:Int) (s:Slt) (raw:PV) (ys:List PV) (hb:BkOk b) (hr:Wks raw.cells s.pv.cells) (hy:ys.length=b.slots.length)
  (hf:ownE b c n e=0→Acts Tryz.prog cf ([.ep 900 b.slots.length (zA b n) 0]++caps.map .p) [(900,.row 59 16 (b.slots.map Slt.pv) false)] (.p (.i .i64 ce)) [(900,.row 59 16 (if ce=0 then (b.slots.map Slt.pv).set (zA b n) raw else ys) false)]) :
  Pure Tryz.prog 195 [b.pv,.s c,.s n,.i .i64 e,.fn (.func cf) [] caps] (.tup [(if chgC b c n e ce=0 then chgB b n s else bk0).pv,.i .i64 (chgC b c n e ce)]):=by
 refine zat (pure1172 b c n e ce _ hb (by split<;>simp [hy]) hf) ?_
 by_cases h:chgC b c n e ce=0
 ·rw [if_pos h,if_pos h,h]
  have hce:ce=0:=by
   rw [chgC] at h
   exact fE0 h _ (by simp)
  rw [if_pos hce]
  refine .tup ⟨.agg ⟨.sl ?_,.refl _,trivial⟩,.refl _,trivial⟩
  rw [chgB,List.map_set]
  exact .set _ (.refl _) hr
 ·rw [if_neg h,if_neg h];exact zbw _
theorem set_get (L:List PV) (i:Nat) (a:PV) (h:i < L.length):(L.set i a)[i]?=some a:=by simp [h]
def trS (s:Slt) (to:ByteArray):Slt:=⟨s.req,to,s.ls,[]⟩
abbrev trW (s:Slt) (to:ByteArray):PV:=.agg [.s s.req.name,.s s.req.carrier,.s s.req.kind,.s s.req.term,.s s.req.partner,.s s.req.link,.i .i64 s.req.per.fro,.i .i64 s.req.per.to,.i .i64 s.req.per.days,.i .i64 s.req.minute,.i .i64 s.req.seats,.i .i64 s.req.size,.i .i64 s.req.noise,.s to,.sl 3 (s.ls.map Lea.pv),.nilsl]
theorem wk_trW (s:Slt) (to:ByteArray):Wks (trW s to).cells (trS s to).pv.cells:=
 ⟨.refl _,.refl _,.refl _,.refl _,.refl _,.refl _,.refl _,.refl _,.refl _,.refl _,.refl _,.refl _,.refl _,.refl _,.refl _,.nilsl _,trivial⟩
def BkTo (b:Bk) (y:Bk) (e:Int):Bk × Int:=if zG b=0 then (if e=0 then y else bk0,e) else (bk0,zG b)
theorem bkTo_ok {b y:Bk} {e:Int} (h:zG b=0) (hy:e≠0→y=bk0):BkTo b y e=(y,e):=by
 rw [BkTo,if_pos h]
 by_cases k:e=0
 ·rw [if_pos k]
 ·rw [if_neg k,hy k]
theorem bkTo_bad {b y:Bk} {e:Int} (h:¬zG b=0):BkTo b y e=(bk0,zG b):=by rw [BkTo,if_neg h]
set_option maxRecDepth 100000
set_option linter.unusedVariables false
set_option linter.unusedSimpArgs false
set_option maxHeartbeats 8000000
theorem slot_found {b:Bk} {n:ByteArray} (hat:¬atL n (b.slots.map (·.req.name)) < 0):b.slots[zA b n]?=some (zo b n)∧atL n (b.slots.map (·.req.name))=(zA b n:Int)∧zA b n < b.slots.length:=by
 obtain ⟨s,hsl⟩:=slot_at hat
 have hso:zo b n=s:=by rw [zo,hsl];rfl
 have hlt:=atL_lt n (b.slots.map (·.req.name))
 rw [List.length_map] at hlt
 exact ⟨by rw [zA,hsl,hso],by rw [zA];omega,by rw [zA];omega⟩
theorem pure1258 (b:Bk) (n:ByteArray) (hat:¬atL n (b.slots.map (·.req.name)) < 0):Pure Tryz.prog 267 [.s n,.ip (.agg [.sl 16 (b.slots.map Slt.pv),.sl 14 (b.wait.map Wsh.pv)]) 0] (zo b n).pv:=by
 obtain ⟨hsl,hfi,hi⟩:=slot_found hat
 have hfind:=za9 b n
 rw [hfi] at hfind
 refine zf (cF Tryz.func267 Tryz.f267.eq_1) (by simp) fun hw X hX=>?_
 have qe:=aI qR (aI @qN @hsl);repeat' first|refine gC (fun hc=>?_) (fun hc=>?_)<;>try contradiction|refine za (hfind) ?_|refine gG ?_|show AK _;intro K H|refine H _ _ ?_;clear H K|refine gJ ?_;try exact trivial|omega
 exact .refl _
theorem pure1260 (s:Slt):Pure Tryz.prog 269 [s.pv] (.b (decide (0 < (s.ls.length:Int)))):=by
 refine zf (cF Tryz.func269 Tryz.f269.eq_1) (by simp) fun hw X hX=>?_
 have qe:=@qR;repeat' first|refine gC (fun hc=>?_) (fun hc=>?_)<;>try contradiction|refine gG ?_|show AK _;intro K H|refine H _ _ ?_;clear H K|refine gJ ?_;try exact trivial|omega
 exact .refl _
theorem pure1262 (s:Slt):Pure Tryz.prog 271 [s.pv] (.s s.holder):=by
 refine zf (cF Tryz.func271 Tryz.f271.eq_1) (by simp) fun hw X hX=>?_
 have qe:=@qR;repeat' first|refine gC (fun hc=>?_) (fun hc=>?_)<;>try contradiction|refine gG ?_|show AK _;intro K H|refine H _ _ ?_;clear H K|refine gJ ?_;try exact trivial|omega
 exact .refl _
theorem pure1259 {f:Nat} {L:List Slt} {p:SlR→Bool} (hf:∀ w ∈ L.map Slt.raw,Pure Tryz.prog f [w.pv] (.b (p w))):Pure Tryz.prog 268 [.sl 16 (L.map Slt.pv),.fn (.func f) [] []] (.b (decide (0≤idxF p (L.map Slt.raw)))):=by
 rw [slt_raw]
 refine zf (cF Tryz.func268 Tryz.f268.eq_1) (by simp) fun hw X hX=>?_
 repeat' first|refine gC (fun hc=>?_) (fun hc=>?_)<;>try contradiction|refine za (pure1184 (L:=L.map Slt.raw) (p:=p) hf) ?_|refine gG ?_|show AK _;intro K H|refine H _ _ ?_;clear H K|refine gJ ?_;try exact trivial|omega
 exact .refl _
theorem pure1257 {f:Nat} {caps:List PV} (N:List ByteArray) (g:ByteArray→Slt) (hf:∀ n ∈ N,Pure Tryz.prog f (.s n::caps) (g n).pv) (hn:N.length≤100000):Pure Tryz.prog 266 [.sl 1 (N.map .s),.fn (.func f) [] caps] (.sl 16 ((N.map g).map Slt.pv)):=by
 refine zf (cF Tryz.func266 Tryz.f266.eq_1) (by simp) fun hw X hX=>?_
 repeat' first|refine gC (fun hc=>?_) (fun hc=>?_)<;>try contradiction|refine gG ?_|show AK _;intro K H|refine H _ _ ?_;clear H K|refine gJ ?_;try exact trivial|omega
 refine zaO 100 59 16 [(1,.p (.fn (.func f) [] caps)),(5,.row 100 0),(8,.p (.sl 1 (N.map .s))),(9,.p (.i .i64 N.length)),(10,.p (.i .i64 0))] [] ?_ ?_
 ·simp only [Own,zaL,zaB,zbt,zay,qS,Nat.reduceAdd,Nat.reduceMul,Nat.reduceEqDiff,Nat.reduceLeDiff,reduceIte,reduceCtorEq,Nat.reduceBEq,Nat.reduceLT]
 refine zk (κ:=Nat) (fun k=>⟨[(1,.p (.fn (.func f) [] caps)),(5,.row 100 k),(8,.p (.sl 1 (N.map .s))),(9,.p (.i .i64 N.length)),(10,.p (.i .i64 k))],[(100,.row 59 16 (((N.take k).map g).map Slt.pv) false)],[],false⟩) (fun k=>k≤N.length) (fun k=>N.length - k) 0 ?_ ?_ ?_
 ·exact sS
 ·simp
 ·intro k hk
  repeat first|refine gG ?_|show AK _;intro K H|refine H _ _ ?_;clear H K|refine gJ ?_;try exact trivial|omega
  (refine gC (fun hc=>?_) (fun hc=>?_)<;>try contradiction)
  ·obtain ⟨x,hx⟩:=zn (i:=k) (l:=N) (by omega)
   have hl:(N.take k).length=k:=by rw [List.length_take];omega
   have qe:=aI qR (aI @hx @hl);repeat' first|refine gC (fun hc=>?_) (fun hc=>?_)<;>try contradiction|refine zr (hf x (List.mem_of_getElem? hx)) ?_|refine gG ?_|show AK _;intro K H|refine H _ _ ?_;clear H K|refine gJ ?_;try exact trivial|omega
   exact ⟨k+1,by omega,by omega,by simp,by rw [zan hx];simp;omega⟩
  ·obtain rfl:k=N.length:=by omega
   have qe:=aI qR @List.take_length.{0};repeat' first|refine gC (fun hc=>?_) (fun hc=>?_)<;>try contradiction|refine gG ?_|show AK _;intro K H|refine H _ _ ?_;clear H K|refine gJ ?_;try exact trivial|omega
   exact .refl _
theorem pure1261 {f:Nat} (L:List Slt) (g:Slt→ByteArray) (hf:∀ s ∈ L,Pure Tryz.prog f [s.pv] (.s (g s))) (hn:L.length≤100000):Pure Tryz.prog 270 [.sl 16 (L.map Slt.pv),.fn (.func f) [] []] (.sl 1 ((L.map g).map .s)):=by
 refine zf (cF Tryz.func270 Tryz.f270.eq_1) (by simp) fun hw X hX=>?_
 repeat' first|refine gC (fun hc=>?_) (fun hc=>?_)<;>try contradiction|refine gG ?_|show AK _;intro K H|refine H _ _ ?_;clear H K|refine gJ ?_;try exact trivial|omega
 refine zaO 100 9 1 [(1,.p (.fn (.func f) [] [])),(5,.row 100 0),(8,.p (.sl 16 (L.map Slt.pv))),(9,.p (.i .i64 L.length)),(10,.p (.i .i64 0))] [] ?_ ?_
 ·simp only [Own,zaL,zaB,zbt,zay,qS,Nat.reduceAdd,Nat.reduceMul,Nat.reduceEqDiff,Nat.reduceLeDiff,reduceIte,reduceCtorEq,Nat.reduceBEq,Nat.reduceLT]
 refine zk (κ:=Nat) (fun k=>⟨[(1,.p (.fn (.func f) [] [])),(5,.row 100 k),(8,.p (.sl 16 (L.map Slt.pv))),(9,.p (.i .i64 L.length)),(10,.p (.i .i64 k))],[(100,.row 9 1 (((L.take k).map g).map .s) false)],[],false⟩) (fun k=>k≤L.length) (fun k=>L.length - k) 0 ?_ ?_ ?_
 ·exact sS
 ·simp
 ·intro k hk
  repeat first|refine gG ?_|show AK _;intro K H|refine H _ _ ?_;clear H K|refine gJ ?_;try exact trivial|omega
  (refine gC (fun hc=>?_) (fun hc=>?_)<;>try contradiction)
  ·obtain ⟨x,hx⟩:=zn (i:=k) (l:=L) (by omega)
   have hl:(L.take k).length=k:=by rw [List.length_take];omega
   have qe:=aI qR (aI @hx @hl);repeat' first|refine gC (fun hc=>?_) (fun hc=>?_)<;>try contradiction|refine zr (hf x (List.mem_of_getElem? hx)) ?_|refine gG ?_|show AK _;intro K H|refine H _ _ ?_;clear H K|refine gJ ?_;try exact trivial|omega
   exact ⟨k+1,by omega,by omega,by simp,by rw [zan hx];simp;omega⟩
  ·obtain rfl:k=L.length:=by omega
   have qe:=aI qR @List.take_length.{0};repeat' first|refine gC (fun hc=>?_) (fun hc=>?_)<;>try contradiction|refine gG ?_|show AK _;intro K H|refine H _ _ ?_;clear H K|refine gJ ?_;try exact trivial|omega
   exact .refl _
end Go.Proofs.YtahmdjadnlpjoaaGreat
