/- Contracts of functions, for the claim. No conditions. -/
import Derived.Test.YtijgimeokgbifaaGreatK6
set_option linter.all false
set_option maxHeartbeats 8000000
set_option maxRecDepth 100000
namespace Go.Proofs.YtijgimeokgbifaaGreat
open Go.RowKit
def zcY {α:Type} (p:α->Bool):List α->Int
 | []=>-1
 | x::r=>if p x=true then 0 else if zcY p r < 0 then -1 else zcY p r+1
theorem zdu {α:Type} {p:α->Bool}:∀ {l:List α} {i:Nat} {x:α},(∀ y ∈ l.take i,p y=false)->l[i]?=some x->p x=true->zcY p l=i
 | [],i,_,_,h,_=>by simp at h
 | x::r,0,y,_,h,hp=>by simp at h;subst h;simp [zcY,hp]
 | x::r,i+1,y,h,hx,hp=>by
  have h0:p x=false:=h x (by simp)
  have:=zdu (l:=r) (i:=i) (λy hy=>h y (by simp [hy])) (by simpa using hx) hp
  simp only [zcY,h0,this,Bool.false_eq_true,if_false];rw [if_neg (by omega)];simp
theorem zdv {α:Type} {p:α->Bool}:∀ {l:List α},(∀ x ∈ l,p x=false)->zcY p l=-1
 | [],_=>rfl
 | x::r,h=>by
  have h0:p x=false:=h x (by simp)
  have:=zdv (l:=r) λy hy=>h y (by simp [hy])
  simp only [zcY,h0,this];rfl
theorem zg5 {α:Type} (f:α->ByteArray) (n:ByteArray):∀ l:List α,zcY (λx=>decide (f x=n)) l=atL n (l.map f)
 | []=>rfl
 | x::r=>by simp only [zcY,List.map_cons,atL,zg5 f n r,decide_eq_true_eq]
theorem zan {α:Type} {l:List α} {i:Nat} {x:α} (hx:l[i]?=some x):l.take (i+1)=l.take i++[x]:=by rw [List.take_add_one,hx];rfl
theorem zxc (f:Fn) (k o:Nat):mfK f [] [.lp k o] (some []) (zej [.lp k o])=some (True,.ofV (.fn f [] [.lp k o])):=rfl
theorem zgq {α:Type} {p:α->Bool} {l:List α} {i:Nat} {x:α} (h:∀ y ∈ l.take i,p y=false) (hx:l[i]?=some x) (hp:p x=false):∀ y ∈ l.take (i+1),p y=false:=λy hy=>by
 rw [zan hx] at hy
 rcases List.mem_append.1 hy with h1|h1
 ·exact h y h1
 ·simp at h1;subst h1;exact hp
theorem zqH (L:List ByteArray) (x:ByteArray):Pure Tryz.prog 225 [.sl 1 (L.map .s),.s x] (.i .i64 (atL x L)):=by
 refine zf (cF Tryz.func225 Tryz.f225.eq_1) (by simp) λhw X hX=>?_
 simp only [wfs,PV.wf,List.length_map,maxLen] at hw
 repeat' first|refine gC ?_ ?_<;>intro hc<;>try contradiction|refine gG ?_|show AK _;intro K H|refine H _ _ ?_;clear H K|refine gJ ?_;try exact trivial|omega
 refine zj (κ:=Nat) (λi=>⟨[(0,.p (.sl 1 (L.map .s))),(1,.p (.s x)),(7,.p (.i .i64 L.length)),(8,.p (.i .i64 i))],[],[],false⟩) (λi=>i<=L.length/\∀ y ∈ L.take i,y≠x) (λi=>L.length - i) 0 ?_ ?_ ?_
 ·exact sR
 ·simp
 ·intro i hi
  repeat first|refine gG ?_|show AK _;intro K H|refine H _ _ ?_;clear H K|refine gJ ?_;try exact trivial|omega
  (refine gC ?_ ?_<;>intro hc<;>try contradiction)
  ·obtain ⟨y,hy⟩:=zm (i:=i) (l:=L) (by omega)
   have qe:=@hy;repeat' first|refine gC ?_ ?_<;>intro hc<;>try contradiction|refine gG ?_|show AK _;intro K H|refine H _ _ ?_;clear H K|refine gJ ?_;try exact trivial|omega
   ·rw [zjU hi.2 (by rw [hy,hc])];exact .refl _
   ·refine ⟨i+1,⟨by omega,λz hz=>?_⟩,by omega,by simp⟩
    rw [zan hy] at hz
    rcases List.mem_append.1 hz with h|h
    ·exact hi.2 z h
    ·simp at h;subst h;exact λe=>hc e.symm
  ·repeat' first|refine gC ?_ ?_<;>intro hc<;>try contradiction|refine gG ?_|show AK _;intro K H|refine H _ _ ?_;clear H K|refine gJ ?_;try exact trivial|omega
   have e:i=L.length:=by omega
   subst e
   rw [zjV (λy hy=>hi.2 y (by rw [List.take_of_length_le (by simp)];exact hy))];exact .refl _
theorem zgF (L:List ByteArray) (x:ByteArray):Pure Tryz.prog 159 [.sl 1 (L.map .s),.s x] (.b (decide (0<=atL x L))):=by
 refine zf (cF Tryz.func159 Tryz.f159.eq_1) (by simp) λhw X hX=>?_
 repeat' first|refine gC ?_ ?_<;>intro hc<;>try contradiction|refine za (zqH L x) ?_|refine gG ?_|show AK _;intro K H|refine H _ _ ?_;clear H K|refine gJ ?_;try exact trivial|omega
 exact .refl _
theorem zkh {f:Nat} {caps:List PV} {L:List SlR} {p:SlR->Bool} (hf:∀ w ∈ L,Pure Tryz.prog f (w.pv::caps) (.b (p w))):Pure Tryz.prog 135 [.sl 16 (L.map SlR.pv),.fn (.func f) [] caps] (.i .i64 (zcY p L)):=by
 refine zf (cF Tryz.func135 Tryz.f135.eq_1) (by simp) λhw X hX=>?_
 simp only [wfs,PV.wf,List.length_map,maxLen] at hw
 repeat' first|refine gC ?_ ?_<;>intro hc<;>try contradiction|refine gG ?_|show AK _;intro K H|refine H _ _ ?_;clear H K|refine gJ ?_;try exact trivial|omega
 refine zj (κ:=Nat) (λi=>⟨[(0,.p (.sl 16 (L.map SlR.pv))),(1,.p (.fn (.func f) [] caps)),(7,.p (.i .i64 L.length)),(8,.p (.i .i64 i))],[],[],false⟩) (λi=>i<=L.length/\∀ y ∈ L.take i,p y=false) (λi=>L.length - i) 0 ?_ ?_ ?_
 ·exact sR
 ·simp
 ·intro i hi
  repeat first|refine gG ?_|show AK _;intro K H|refine H _ _ ?_;clear H K|refine gJ ?_;try exact trivial|omega
  (refine gC ?_ ?_<;>intro hc<;>try contradiction)
  ·obtain ⟨y,hy⟩:=zm (i:=i) (l:=L) (by omega)
   have qe:=@hy;repeat' first|refine gC ?_ ?_<;>intro hc<;>try contradiction|refine zq (hf y (List.mem_of_getElem? hy)) ?_|refine gG ?_|show AK _;intro K H|refine H _ _ ?_;clear H K|refine gJ ?_;try exact trivial|omega
   ·rw [zdu hi.2 hy hc];exact .refl _
   ·exact ⟨i+1,⟨by omega,zgq hi.2 hy (by simpa using hc)⟩,by omega,by simp⟩
  ·repeat' first|refine gC ?_ ?_<;>intro hc<;>try contradiction|refine gG ?_|show AK _;intro K H|refine H _ _ ?_;clear H K|refine gJ ?_;try exact trivial|omega
   have e:i=L.length:=by omega
   subst e
   rw [zdv (λy hy=>hi.2 y (by rw [List.take_of_length_le (by simp)];exact hy))];exact .refl _
theorem zqJ {f:Nat} {caps:List PV} {L:List Lea} {p:Lea->Bool} (hf:∀ w ∈ L,Pure Tryz.prog f (w.pv::caps) (.b (p w))):Pure Tryz.prog 214 [.sl 3 (L.map Lea.pv),.fn (.func f) [] caps] (.i .i64 (zcY p L)):=by
 refine zf (cF Tryz.func214 Tryz.f214.eq_1) (by simp) λhw X hX=>?_
 simp only [wfs,PV.wf,List.length_map,maxLen] at hw
 repeat' first|refine gC ?_ ?_<;>intro hc<;>try contradiction|refine gG ?_|show AK _;intro K H|refine H _ _ ?_;clear H K|refine gJ ?_;try exact trivial|omega
 refine zj (κ:=Nat) (λi=>⟨[(0,.p (.sl 3 (L.map Lea.pv))),(1,.p (.fn (.func f) [] caps)),(7,.p (.i .i64 L.length)),(8,.p (.i .i64 i))],[],[],false⟩) (λi=>i<=L.length/\∀ y ∈ L.take i,p y=false) (λi=>L.length - i) 0 ?_ ?_ ?_
 ·exact sR
 ·simp
 ·intro i hi
  repeat first|refine gG ?_|show AK _;intro K H|refine H _ _ ?_;clear H K|refine gJ ?_;try exact trivial|omega
  (refine gC ?_ ?_<;>intro hc<;>try contradiction)
  ·obtain ⟨y,hy⟩:=zm (i:=i) (l:=L) (by omega)
   have qe:=@hy;repeat' first|refine gC ?_ ?_<;>intro hc<;>try contradiction|refine zq (hf y (List.mem_of_getElem? hy)) ?_|refine gG ?_|show AK _;intro K H|refine H _ _ ?_;clear H K|refine gJ ?_;try exact trivial|omega
   ·rw [zdu hi.2 hy hc];exact .refl _
   ·exact ⟨i+1,⟨by omega,zgq hi.2 hy (by simpa using hc)⟩,by omega,by simp⟩
  ·repeat' first|refine gC ?_ ?_<;>intro hc<;>try contradiction|refine gG ?_|show AK _;intro K H|refine H _ _ ?_;clear H K|refine gJ ?_;try exact trivial|omega
   have e:i=L.length:=by omega
   subst e
   rw [zdv (λy hy=>hi.2 y (by rw [List.take_of_length_le (by simp)];exact hy))];exact .refl _
theorem zqA {f:Nat} {caps:List PV} {L:List Wsh} {p:Wsh->Bool} (hf:∀ w ∈ L,Pure Tryz.prog f (w.pv::caps) (.b (p w))):Pure Tryz.prog 239 [.sl 14 (L.map Wsh.pv),.fn (.func f) [] caps] (.i .i64 (zcY p L)):=by
 refine zf (cF Tryz.func239 Tryz.f239.eq_1) (by simp) λhw X hX=>?_
 simp only [wfs,PV.wf,List.length_map,maxLen] at hw
 repeat' first|refine gC ?_ ?_<;>intro hc<;>try contradiction|refine gG ?_|show AK _;intro K H|refine H _ _ ?_;clear H K|refine gJ ?_;try exact trivial|omega
 refine zj (κ:=Nat) (λi=>⟨[(0,.p (.sl 14 (L.map Wsh.pv))),(1,.p (.fn (.func f) [] caps)),(7,.p (.i .i64 L.length)),(8,.p (.i .i64 i))],[],[],false⟩) (λi=>i<=L.length/\∀ y ∈ L.take i,p y=false) (λi=>L.length - i) 0 ?_ ?_ ?_
 ·exact sR
 ·simp
 ·intro i hi
  repeat first|refine gG ?_|show AK _;intro K H|refine H _ _ ?_;clear H K|refine gJ ?_;try exact trivial|omega
  (refine gC ?_ ?_<;>intro hc<;>try contradiction)
  ·obtain ⟨y,hy⟩:=zm (i:=i) (l:=L) (by omega)
   have qe:=@hy;repeat' first|refine gC ?_ ?_<;>intro hc<;>try contradiction|refine zq (hf y (List.mem_of_getElem? hy)) ?_|refine gG ?_|show AK _;intro K H|refine H _ _ ?_;clear H K|refine gJ ?_;try exact trivial|omega
   ·rw [zdu hi.2 hy hc];exact .refl _
   ·exact ⟨i+1,⟨by omega,zgq hi.2 hy (by simpa using hc)⟩,by omega,by simp⟩
  ·repeat' first|refine gC ?_ ?_<;>intro hc<;>try contradiction|refine gG ?_|show AK _;intro K H|refine H _ _ ?_;clear H K|refine gJ ?_;try exact trivial|omega
   have e:i=L.length:=by omega
   subst e
   rw [zdv (λy hy=>hi.2 y (by rw [List.take_of_length_le (by simp)];exact hy))];exact .refl _
theorem zqP (s:SlR) (n:ByteArray):Pure Tryz.prog 136 [s.pv,.ip (.s n) 0] (.b (decide (s.req.name=n))):=by
 refine zf (cF Tryz.func136 Tryz.f136.eq_1) (by simp) λhw X hX=>?_
 repeat' first|refine gC ?_ ?_<;>intro hc<;>try contradiction|refine gG ?_|show AK _;intro K H|refine H _ _ ?_;clear H K|refine gJ ?_;try exact trivial|omega
 exact .refl _
theorem zqK (s:Wsh) (n:ByteArray):Pure Tryz.prog 186 [s.pv,.ip (.s n) 0] (.b (decide (s.req.name=n))):=by
 refine zf (cF Tryz.func186 Tryz.f186.eq_1) (by simp) λhw X hX=>?_
 repeat' first|refine gC ?_ ?_<;>intro hc<;>try contradiction|refine gG ?_|show AK _;intro K H|refine H _ _ ?_;clear H K|refine gJ ?_;try exact trivial|omega
 exact .refl _
theorem zeI (l:List Slt):l.map Slt.pv=(l.map Slt.raw).map SlR.pv:=by rw [List.map_map];rfl
theorem zes (L:List SlR) (W:List Wsh) (n:ByteArray):Pure Tryz.prog 81 [.agg [.sl 16 (L.map SlR.pv),.sl 14 (W.map Wsh.pv)],.s n] (.i .i64 (atL n (L.map (·.req.name)))):=by
 refine zf (cF Tryz.func81 Tryz.f81.eq_1) (by simp) λhw X hX=>?_
 repeat' first|refine gC ?_ ?_<;>intro hc<;>try contradiction|refine zam (zkh (L:=L) (p:=λw=>decide (w.req.name=n)) (λw _=>zqP w n)) ?_|refine gG ?_|show AK _;intro K H|refine H _ _ ?_;clear H K|refine gJ ?_;try exact trivial|omega
 rw [zg5];exact .refl _
theorem zqY (L:List SlR) (W:List Wsh) (n:ByteArray):Pure Tryz.prog 80 [.agg [.sl 16 (L.map SlR.pv),.sl 14 (W.map Wsh.pv)],.s n] (.i .i64 (if atL n (L.map (·.req.name)) < 0 then 10 else 0)):=by
 refine zf (cF Tryz.func80 Tryz.f80.eq_1) (by simp) λhw X hX=>?_
 repeat' first|refine gC ?_ ?_<;>intro hc<;>try contradiction|refine za (zes L W n) ?_|refine za (zU _ _) ?_|refine gG ?_|show AK _;intro K H|refine H _ _ ?_;clear H K|refine gJ ?_;try exact trivial|omega
 exact .refl _
theorem zqL {f:Nat} {caps:List PV} {L:List Wsh} {p:Wsh->Bool} (hf:∀ w ∈ L,Pure Tryz.prog f (w.pv::caps) (.b (p w))):Pure Tryz.prog 185 [.sl 14 (L.map Wsh.pv),.fn (.func f) [] caps] (.b (decide (0<=zcY p L))):=by
 refine zf (cF Tryz.func185 Tryz.f185.eq_1) (by simp) λhw X hX=>?_
 repeat' first|refine gC ?_ ?_<;>intro hc<;>try contradiction|refine za (zqA (L:=L) (p:=p) hf) ?_|refine gG ?_|show AK _;intro K H|refine H _ _ ?_;clear H K|refine gJ ?_;try exact trivial|omega
 exact .refl _
def zhv (L:List ByteArray) (W:List ByteArray) (n:ByteArray):Bool:=decide (0<=atL n L) || decide (0<=atL n W)
theorem zqT (L:List SlR) (W:List Wsh) (n:ByteArray):Pure Tryz.prog 115 [.agg [.sl 16 (L.map SlR.pv),.sl 14 (W.map Wsh.pv)],.s n] (.b (zhv (L.map (·.req.name)) (W.map (·.req.name)) n)):=by
 refine zf (cF Tryz.func115 Tryz.f115.eq_1) (by simp) λhw X hX=>?_
 have qe:=@zxc;repeat' first|refine gC ?_ ?_<;>intro hc<;>try contradiction|refine zam (zes L W n) ?_|refine zM (λ_=>zqL (L:=W) (p:=λw=>decide (w.req.name=n)) (λw _=>zqK w n)) ?_|refine gG ?_|show AK _;intro K H|refine H _ _ ?_;clear H K|refine gJ ?_;try exact trivial|omega
 rw [zg5];exact .refl _
theorem zgJ (w:Wsh):Pure Tryz.prog 93 [w.pv] (.i .i64 (zkX w)):=by
 refine zf (cF Tryz.func93 Tryz.f93.eq_1) (by simp) λhw X hX=>?_
 have qe:=@qR;repeat' first|refine gC ?_ ?_<;>intro hc<;>try contradiction|refine za (zgG w.req) ?_|refine za (zki _ _ _) ?_|refine za (zw [_,_]) ?_|refine gG ?_|show AK _;intro K H|refine H _ _ ?_;clear H K|refine gJ ?_;try exact trivial|omega
 exact .refl _
end Go.Proofs.YtijgimeokgbifaaGreat
