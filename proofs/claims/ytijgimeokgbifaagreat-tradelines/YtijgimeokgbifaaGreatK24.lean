/- Contracts of functions, for the claim. No conditions. -/
import Derived.Test.YtijgimeokgbifaaGreatK23
set_option linter.all false
set_option maxHeartbeats 8000000
set_option maxRecDepth 100000
namespace Go.Proofs.YtijgimeokgbifaaGreat
open Go.RowKit
def zx (b:Bk) (n:ByteArray):Nat:=(atL n (b.slots.map (·.req.name))).toNat
def zfM (b:Bk) (c n:ByteArray) (e ce:Int):Int:=zg [zhm b c n e,ce]
theorem zuw (b:Bk) (c n:ByteArray) (e:Int) (h:zg [zaH c,zfe b.slots n,e]≠0):zhm b c n e=zg [zaH c,zfe b.slots n,e]:=by
 simp only [zhm,zg] at h ⊢;(repeat' split)<;>simp_all
theorem zrd (b:Bk) (c n:ByteArray) (e:Int) (h:zg [zaH c,zfe b.slots n,e]=0):zhm b c n e=if (zn b n).holder=c then 0 else 31:=by
 rw [zhm,za4 (fE0 h _ (by simp)),za4 (fE0 h _ (by simp)),za4 (fE0 h _ (by simp)),zfk]
theorem znq (m:Nat->Nat):∀ l:List PV,rens m (l.map .p)=l.map .p
 | []=>by simp only [List.map_nil,rens]
 | x::l=>by simp only [List.map_cons,rens,LV.ren,znq m l]
theorem zkl {cf:Nat} {caps:List PV} (b:Bk) (c n:ByteArray) (e ce:Int) (xs:List PV) (hb:zfz b) (hx:xs.length=b.slots.length)
  (hf:zhm b c n e=0->Acts Tryz.prog cf ([.ep 900 b.slots.length (zx b n) 0]++caps.map .p) [(900,.row 84 16 (b.slots.map Slt.pv) false)] (.p (.i .i64 ce)) [(900,.row 84 16 xs false)]) :
  Pure Tryz.prog 129 [b.pv,.s c,.s n,.i .i64 e,.fn (.func cf) [] caps] (if zfM b c n e ce=0 then .tup [.agg [.sl 16 xs,.sl 14 (b.wait.map Wsh.pv)],.i .i64 0] else .tup [.agg [.nilsl,.nilsl],.i .i64 (zfM b c n e ce)]):=by
 obtain ⟨hs,hn,hwl⟩:=hb
 refine zf (cF Tryz.func129 Tryz.f129.eq_1) (by simp) λhw X hX=>?_
 have hfd:(if atL n (b.slots.map (·.req.name)) < 0 then (10:Int) else 0)=zfe b.slots n:=rfl
 by_cases hown:zhm b c n e=0
 ·have h3:zg [zaH c,zfe b.slots n,e]=0:=by
   refine Classical.byContradiction λh=>?_
   rw [zuw b c n e h] at hown;exact h hown
  have hat:¬atL n (b.slots.map (·.req.name)) < 0:=λh=>by
   have:=fE0 h3 (zfe b.slots n) (by simp)
   rw [zfe,if_pos h] at this;omega
  obtain ⟨s,hsl⟩:=zdM hat
  have hlt:=zdE n (b.slots.map (·.req.name))
  rw [List.length_map] at hlt
  have hso:zn b n=s:=by rw [zn,hsl];rfl
  have hh:s.holder=c:=by
   rw [zrd b c n e h3,hso] at hown
   refine Classical.byContradiction λh=>?_
   rw [if_neg h] at hown;omega
  have hC:zfM b c n e ce=ce:=by rw [zfM,za4 hown,zfk]
  have hf':=hf hown
  rw [zx] at hf'
  have h3t:(zg [zaH c,zfe b.slots n,e]=0)=True:=eq_true h3
  have hxt:=hx
  have qe:=aI qR (aI @qN (aI @zaA (aI @zaz (aI @zaf (aI @hfd (aI @h3t (aI @hsl (aI @hh (aI @hx (aI @decide_true (aI @Bool.not_true (aI @List.append_nil.{0} (aI @List.map_cons.{0,0} (@List.map_nil.{0,0}))))))))))))));repeat' first|refine gC ?_ ?_<;>intro hc<;>try contradiction|refine za (zbx c) ?_|refine za (zY b n) ?_|refine za (zw [_,_,_]) ?_|refine zl [(100,200),(7,201)] (zbC b.slots b.wait hs (by omega) (by omega)) ?_|refine za (za9 b n) ?_|refine gG ?_|show AK _;intro K H|refine H _ _ ?_;clear H K|refine gJ ?_;try exact trivial|omega
  have qe:=λm=>znq m caps
  refine zeL [(900,200)] (hf:=hf'.toE) (hn:=λ_=>?_)
  have qe:=aI qR (aI @qN (aI @zaA (aI @zaz (aI @zaf (aI @hx (aI @decide_true @Bool.not_true))))));repeat' first|refine gC ?_ ?_<;>intro hc<;>try contradiction|refine gG ?_|show AK _;intro K H|refine H _ _ ?_;clear H K|refine gJ ?_;try exact trivial|omega
  ·have h0:¬ce=0:=hc
   rw [hC,if_neg h0];exact .refl _
  ·have h0:ce=0:=hc
   rw [hC,if_pos h0];exact .refl _
 ·by_cases h3:zg [zaH c,zfe b.slots n,e]=0
  ·have hat:¬atL n (b.slots.map (·.req.name)) < 0:=λh=>by
    have:=fE0 h3 (zfe b.slots n) (by simp)
    rw [zfe,if_pos h] at this;omega
   obtain ⟨s,hsl⟩:=zdM hat
   have hlt:=zdE n (b.slots.map (·.req.name))
   rw [List.length_map] at hlt
   have hso:zn b n=s:=by rw [zn,hsl];rfl
   have hh:¬s.holder=c:=λh=>hown (by rw [zrd b c n e h3,hso,if_pos h])
   have ho:zhm b c n e=31:=by rw [zrd b c n e h3,hso,if_neg hh]
   have hC:zfM b c n e ce=31:=by rw [zfM,za3 (by rw [ho];omega),ho]
   rw [hC]
   have h3t:(zg [zaH c,zfe b.slots n,e]=0)=True:=eq_true h3
   have hht:(s.holder=c)=False:=eq_false hh
   have qe:=aI qR (aI @qN (aI @zaA (aI @zaz (aI @zaf (aI @hfd (aI @h3t (aI @hsl (aI @hht (aI @decide_true (aI @decide_false (aI @Bool.not_true @Bool.not_false)))))))))));repeat' first|refine gC ?_ ?_<;>intro hc<;>try contradiction|refine za (zbx c) ?_|refine za (zY b n) ?_|refine za (zw [_,_,_]) ?_|refine zl [(100,200),(7,201)] (zbC b.slots b.wait hs (by omega) (by omega)) ?_|refine za (za9 b n) ?_|refine gG ?_|show AK _;intro K H|refine H _ _ ?_;clear H K|refine gJ ?_;try exact trivial|omega
   rw [if_neg (by decide)];exact .refl _
  ·have ho:=zuw b c n e h3
   have hC:zfM b c n e ce=zg [zaH c,zfe b.slots n,e]:=by rw [zfM,za3 hown,ho]
   rw [hC,if_neg h3]
   have h3t:(zg [zaH c,zfe b.slots n,e]=0)=False:=eq_false h3
   have qe:=aI qR (aI @qN (aI @hfd @h3t));repeat' first|refine gC ?_ ?_<;>intro hc<;>try contradiction|refine za (zbx c) ?_|refine za (zY b n) ?_|refine za (zw [_,_,_]) ?_|refine gG ?_|show AK _;intro K H|refine H _ _ ?_;clear H K|refine gJ ?_;try exact trivial|omega
   exact .refl _
theorem za8 {b:Bk} {c n:ByteArray} {e:Int} (hown:zhm b c n e=0):¬atL n (b.slots.map (·.req.name)) < 0/\b.slots[zx b n]?=some (zn b n)/\(zn b n).holder=c/\zg [zaH c,zfe b.slots n,e]=0:=by
 have h3:zg [zaH c,zfe b.slots n,e]=0:=by
  refine Classical.byContradiction λh=>?_
  rw [zuw b c n e h] at hown;exact h hown
 have hat:¬atL n (b.slots.map (·.req.name)) < 0:=λh=>by
  have:=fE0 h3 (zfe b.slots n) (by simp)
  rw [zfe,if_pos h] at this;omega
 obtain ⟨s,hsl⟩:=zdM hat
 have hso:zn b n=s:=by rw [zn,hsl];rfl
 refine ⟨hat,by rw [zx,hsl,hso],?_,h3⟩
 rw [zrd b c n e h3] at hown
 refine Classical.byContradiction λh=>?_
 rw [if_neg h] at hown;omega
theorem Wkr.set:∀ {ps qs:List PV} (i:Nat) {a c:PV},Wkr ps qs->Wks a.cells c.cells->Wkr (ps.set i a) (qs.set i c)
 | [],[],_,_,_,_,_=>trivial
 | [],_::_,_,_,_,h,_=>h.elim
 | _::_,[],_,_,_,h,_=>h.elim
 | _::_,_::_,0,_,_,h,k=>⟨k,h.2⟩
 | _::_,_::_,i+1,_,_,h,k=>⟨h.1,Wkr.set i h.2 k⟩
def zo1 (b:Bk) (n:ByteArray) (s:Slt):Bk:=⟨b.slots.set (zx b n) s,b.wait⟩
theorem zkZ {cf:Nat} {caps:List PV} (b:Bk) (c n:ByteArray) (e ce:Int) (s:Slt) (raw:PV) (ys:List PV) (hb:zfz b) (hr:Wks raw.cells s.pv.cells) (hy:ys.length=b.slots.length)
  (hf:zhm b c n e=0->Acts Tryz.prog cf ([.ep 900 b.slots.length (zx b n) 0]++caps.map .p) [(900,.row 84 16 (b.slots.map Slt.pv) false)] (.p (.i .i64 ce)) [(900,.row 84 16 (if ce=0 then (b.slots.map Slt.pv).set (zx b n) raw else ys) false)]) :
  Pure Tryz.prog 129 [b.pv,.s c,.s n,.i .i64 e,.fn (.func cf) [] caps] (.tup [(if zfM b c n e ce=0 then zo1 b n s else bk0).pv,.i .i64 (zfM b c n e ce)]):=by
 refine zat (zkl b c n e ce _ hb (by split<;>simp [hy]) hf) ?_
 by_cases h:zfM b c n e ce=0
 ·rw [if_pos h,if_pos h,h]
  have hce:ce=0:=by
   rw [zfM] at h
   exact fE0 h _ (by simp)
  rw [if_pos hce]
  refine .tup ⟨.agg ⟨.sl ?_,.refl _,trivial⟩,.refl _,trivial⟩
  rw [zo1,List.map_set]
  exact .set _ (.refl _) hr
 ·rw [if_neg h,if_neg h];exact zbv _
theorem zc4 (L:List PV) (i:Nat) (a:PV) (h:i < L.length):(L.set i a)[i]?=some a:=by simp [h]
def trS (s:Slt) (to:ByteArray):Slt:=⟨s.req,to,s.ls,[]⟩
abbrev trW (s:Slt) (to:ByteArray):PV:=.agg [.s s.req.name,.s s.req.carrier,.s s.req.kind,.s s.req.term,.s s.req.partner,.s s.req.link,.i .i64 s.req.per.fro,.i .i64 s.req.per.to,.i .i64 s.req.per.days,.i .i64 s.req.minute,.i .i64 s.req.seats,.i .i64 s.req.size,.i .i64 s.req.noise,.s to,.sl 3 (s.ls.map Lea.pv),.nilsl]
theorem zv7 (s:Slt) (to:ByteArray):Wks (trW s to).cells (trS s to).pv.cells:=
 ⟨.refl _,.refl _,.refl _,.refl _,.refl _,.refl _,.refl _,.refl _,.refl _,.refl _,.refl _,.refl _,.refl _,.refl _,.refl _,.nilsl _,trivial⟩
def zhl (b:Bk) (y:Bk) (e:Int):Bk × Int:=if zF b=0 then (if e=0 then y else bk0,e) else (bk0,zF b)
theorem zhi {b y:Bk} {e:Int} (h:zF b=0) (hy:e≠0->y=bk0):zhl b y e=(y,e):=by
 rw [zhl,if_pos h]
 by_cases k:e=0
 ·rw [if_pos k]
 ·rw [if_neg k,hy k]
theorem zeD {b y:Bk} {e:Int} (h:¬zF b=0):zhl b y e=(bk0,zF b):=by rw [zhl,if_neg h]
theorem zcJ {b:Bk} {n:ByteArray} (hat:¬atL n (b.slots.map (·.req.name)) < 0):b.slots[zx b n]?=some (zn b n)/\atL n (b.slots.map (·.req.name))=(zx b n:Int)/\zx b n < b.slots.length:=by
 obtain ⟨s,hsl⟩:=zdM hat
 have hso:zn b n=s:=by rw [zn,hsl];rfl
 have hlt:=zdE n (b.slots.map (·.req.name))
 rw [List.length_map] at hlt
 exact ⟨by rw [zx,hsl,hso],by rw [zx];omega,by rw [zx];omega⟩
theorem zqF (b:Bk) (n:ByteArray) (hat:¬atL n (b.slots.map (·.req.name)) < 0):Pure Tryz.prog 209 [.s n,.ip (.agg [.sl 16 (b.slots.map Slt.pv),.sl 14 (b.wait.map Wsh.pv)]) 0] (zn b n).pv:=by
 obtain ⟨hsl,hfi,hi⟩:=zcJ hat
 have hfind:=za9 b n
 rw [hfi] at hfind
 refine zf (cF Tryz.func209 Tryz.f209.eq_1) (by simp) λhw X hX=>?_
 have qe:=aI qR (aI @qN @hsl);repeat' first|refine gC ?_ ?_<;>intro hc<;>try contradiction|refine za (hfind) ?_|refine gG ?_|show AK _;intro K H|refine H _ _ ?_;clear H K|refine gJ ?_;try exact trivial|omega
 exact .refl _
theorem zqD (s:Slt):Pure Tryz.prog 211 [s.pv] (.b (decide (0 < (s.ls.length:Int)))):=by
 refine zf (cF Tryz.func211 Tryz.f211.eq_1) (by simp) λhw X hX=>?_
 have qe:=@qR;repeat' first|refine gC ?_ ?_<;>intro hc<;>try contradiction|refine gG ?_|show AK _;intro K H|refine H _ _ ?_;clear H K|refine gJ ?_;try exact trivial|omega
 exact .refl _
theorem zqB (s:Slt):Pure Tryz.prog 213 [s.pv] (.s s.holder):=by
 refine zf (cF Tryz.func213 Tryz.f213.eq_1) (by simp) λhw X hX=>?_
 have qe:=@qR;repeat' first|refine gC ?_ ?_<;>intro hc<;>try contradiction|refine gG ?_|show AK _;intro K H|refine H _ _ ?_;clear H K|refine gJ ?_;try exact trivial|omega
 exact .refl _
theorem zqE {f:Nat} {L:List Slt} {p:SlR->Bool} (hf:∀ w ∈ L.map Slt.raw,Pure Tryz.prog f [w.pv] (.b (p w))):Pure Tryz.prog 210 [.sl 16 (L.map Slt.pv),.fn (.func f) [] []] (.b (decide (0<=zcY p (L.map Slt.raw)))):=by
 rw [zeI]
 refine zf (cF Tryz.func210 Tryz.f210.eq_1) (by simp) λhw X hX=>?_
 repeat' first|refine gC ?_ ?_<;>intro hc<;>try contradiction|refine za (zkh (L:=L.map Slt.raw) (p:=p) hf) ?_|refine gG ?_|show AK _;intro K H|refine H _ _ ?_;clear H K|refine gJ ?_;try exact trivial|omega
 exact .refl _
theorem zqG {f:Nat} {caps:List PV} (N:List ByteArray) (g:ByteArray->Slt) (hf:∀ n ∈ N,Pure Tryz.prog f (.s n::caps) (g n).pv) (hn:N.length<=100000):Pure Tryz.prog 208 [.sl 1 (N.map .s),.fn (.func f) [] caps] (.sl 16 ((N.map g).map Slt.pv)):=by
 refine zf (cF Tryz.func208 Tryz.f208.eq_1) (by simp) λhw X hX=>?_
 repeat' first|refine gC ?_ ?_<;>intro hc<;>try contradiction|refine gG ?_|show AK _;intro K H|refine H _ _ ?_;clear H K|refine gJ ?_;try exact trivial|omega
 refine zaP 100 84 16 [(1,.p (.fn (.func f) [] caps)),(5,.row 100 0),(8,.p (.sl 1 (N.map .s))),(9,.p (.i .i64 N.length)),(10,.p (.i .i64 0))] [] ?_ ?_
 ·simp only [Own,zaM,zaB,zbt,zay,qS,seval]
 refine zj (κ:=Nat) (λk=>⟨[(1,.p (.fn (.func f) [] caps)),(5,.row 100 k),(8,.p (.sl 1 (N.map .s))),(9,.p (.i .i64 N.length)),(10,.p (.i .i64 k))],[(100,.row 84 16 (((N.take k).map g).map Slt.pv) false)],[],false⟩) (λk=>k<=N.length) (λk=>N.length - k) 0 ?_ ?_ ?_
 ·exact sS
 ·simp
 ·intro k hk
  repeat first|refine gG ?_|show AK _;intro K H|refine H _ _ ?_;clear H K|refine gJ ?_;try exact trivial|omega
  (refine gC ?_ ?_<;>intro hc<;>try contradiction)
  ·obtain ⟨x,hx⟩:=zm (i:=k) (l:=N) (by omega)
   have hl:(N.take k).length=k:=by rw [List.length_take];omega
   have qe:=aI qR (aI @hx @hl);repeat' first|refine gC ?_ ?_<;>intro hc<;>try contradiction|refine zq (hf x (List.mem_of_getElem? hx)) ?_|refine gG ?_|show AK _;intro K H|refine H _ _ ?_;clear H K|refine gJ ?_;try exact trivial|omega
   exact ⟨k+1,by omega,by omega,by simp,by rw [zan hx];simp;omega⟩
  ·obtain rfl:k=N.length:=by omega
   have qe:=aI qR @List.take_length.{0};repeat' first|refine gC ?_ ?_<;>intro hc<;>try contradiction|refine gG ?_|show AK _;intro K H|refine H _ _ ?_;clear H K|refine gJ ?_;try exact trivial|omega
   exact .refl _
theorem zqC {f:Nat} (L:List Slt) (g:Slt->ByteArray) (hf:∀ s ∈ L,Pure Tryz.prog f [s.pv] (.s (g s))) (hn:L.length<=100000):Pure Tryz.prog 212 [.sl 16 (L.map Slt.pv),.fn (.func f) [] []] (.sl 1 ((L.map g).map .s)):=by
 refine zf (cF Tryz.func212 Tryz.f212.eq_1) (by simp) λhw X hX=>?_
 repeat' first|refine gC ?_ ?_<;>intro hc<;>try contradiction|refine gG ?_|show AK _;intro K H|refine H _ _ ?_;clear H K|refine gJ ?_;try exact trivial|omega
 refine zaP 100 9 1 [(1,.p (.fn (.func f) [] [])),(5,.row 100 0),(8,.p (.sl 16 (L.map Slt.pv))),(9,.p (.i .i64 L.length)),(10,.p (.i .i64 0))] [] ?_ ?_
 ·simp only [Own,zaM,zaB,zbt,zay,qS,seval]
 refine zj (κ:=Nat) (λk=>⟨[(1,.p (.fn (.func f) [] [])),(5,.row 100 k),(8,.p (.sl 16 (L.map Slt.pv))),(9,.p (.i .i64 L.length)),(10,.p (.i .i64 k))],[(100,.row 9 1 (((L.take k).map g).map .s) false)],[],false⟩) (λk=>k<=L.length) (λk=>L.length - k) 0 ?_ ?_ ?_
 ·exact sS
 ·simp
 ·intro k hk
  repeat first|refine gG ?_|show AK _;intro K H|refine H _ _ ?_;clear H K|refine gJ ?_;try exact trivial|omega
  (refine gC ?_ ?_<;>intro hc<;>try contradiction)
  ·obtain ⟨x,hx⟩:=zm (i:=k) (l:=L) (by omega)
   have hl:(L.take k).length=k:=by rw [List.length_take];omega
   have qe:=aI qR (aI @hx @hl);repeat' first|refine gC ?_ ?_<;>intro hc<;>try contradiction|refine zq (hf x (List.mem_of_getElem? hx)) ?_|refine gG ?_|show AK _;intro K H|refine H _ _ ?_;clear H K|refine gJ ?_;try exact trivial|omega
   exact ⟨k+1,by omega,by omega,by simp,by rw [zan hx];simp;omega⟩
  ·obtain rfl:k=L.length:=by omega
   have qe:=aI qR @List.take_length.{0};repeat' first|refine gC ?_ ?_<;>intro hc<;>try contradiction|refine gG ?_|show AK _;intro K H|refine H _ _ ?_;clear H K|refine gJ ?_;try exact trivial|omega
   exact .refl _
end Go.Proofs.YtijgimeokgbifaaGreat
