/- Contracts of functions that the proof uses, shared by the claims of this seat; no statement of its own. Part 11. No conditions. -/
import Derived.Test.YtahmdjadnlpjoaaGreatK7
set_option linter.all false
set_option maxHeartbeats 8000000
namespace Go.Proofs.YtahmdjadnlpjoaaGreat
open Go.RowKit
set_option maxRecDepth 100000
set_option linter.unusedVariables false
set_option linter.unusedSimpArgs false
set_option maxHeartbeats 4000000
def idxF {α:Type} (p:α→Bool):List α→Int
 | []=>-1
 | x::r=>if p x=true then 0 else if idxF p r < 0 then -1 else idxF p r+1
theorem idxF_hit {α:Type} {p:α→Bool}:∀ {l:List α} {i:Nat} {x:α},(∀ y ∈ l.take i,p y=false)→l[i]?=some x→p x=true→idxF p l=i
 | [],i,_,_,h,_=>by simp at h
 | x::r,0,y,_,h,hp=>by simp at h;subst h;simp [idxF,hp]
 | x::r,i+1,y,h,hx,hp=>by
  have h0:p x=false:=h x (by simp)
  have:=idxF_hit (l:=r) (i:=i) (fun y hy=>h y (by simp [hy])) (by simpa using hx) hp
  simp only [idxF,h0,this,Bool.false_eq_true,if_false];rw [if_neg (by omega)];simp
theorem idxF_end {α:Type} {p:α→Bool}:∀ {l:List α},(∀ x ∈ l,p x=false)→idxF p l=-1
 | [],_=>rfl
 | x::r,h=>by
  have h0:p x=false:=h x (by simp)
  have:=idxF_end (l:=r) fun y hy=>h y (by simp [hy])
  simp only [idxF,h0,this];rfl
theorem idxF_atL {α:Type} (f:α→ByteArray) (n:ByteArray):∀ l:List α,idxF (fun x=>decide (f x=n)) l=atL n (l.map f)
 | []=>rfl
 | x::r=>by simp only [idxF,List.map_cons,atL,idxF_atL f n r,decide_eq_true_eq]
theorem zan {α:Type} {l:List α} {i:Nat} {x:α} (hx:l[i]?=some x):l.take (i+1)=l.take i++[x]:=by rw [List.take_add_one,hx];rfl
theorem mfk_lp (f:Fn) (k o:Nat):mfK f [] [.lp k o] (some []) (allP [.lp k o])=some (True,.ofV (.fn f [] [.lp k o])):=rfl
theorem take_no {α:Type} {p:α→Bool} {l:List α} {i:Nat} {x:α} (h:∀ y ∈ l.take i,p y=false) (hx:l[i]?=some x) (hp:p x=false):∀ y ∈ l.take (i+1),p y=false:=fun y hy=>by
 rw [zan hx] at hy
 rcases List.mem_append.1 hy with h1|h1
 ·exact h y h1
 ·simp at h1;subst h1;exact hp
theorem pure1256 (L:List ByteArray) (x:ByteArray):Pure Tryz.prog 173 [.sl 1 (L.map .s),.s x] (.i .i64 (atL x L)):=by
 refine zf (cF Tryz.func173 Tryz.f173.eq_1) (by simp) fun hw X hX=>?_
 simp only [wfs,PV.wf,List.length_map,maxLen] at hw
 repeat' first|refine gC (fun hc=>?_) (fun hc=>?_)<;>try contradiction|refine gG ?_|show AK _;intro K H|refine H _ _ ?_;clear H K|refine gJ ?_;try exact trivial|omega
 refine zk (κ:=Nat) (fun i=>⟨[(0,.p (.sl 1 (L.map .s))),(1,.p (.s x)),(7,.p (.i .i64 L.length)),(8,.p (.i .i64 i))],[],[],false⟩) (fun i=>i≤L.length∧∀ y ∈ L.take i,y≠x) (fun i=>L.length - i) 0 ?_ ?_ ?_
 ·exact sR
 ·simp
 ·intro i hi
  repeat first|refine gG ?_|show AK _;intro K H|refine H _ _ ?_;clear H K|refine gJ ?_;try exact trivial|omega
  (refine gC (fun hc=>?_) (fun hc=>?_)<;>try contradiction)
  ·obtain ⟨y,hy⟩:=zn (i:=i) (l:=L) (by omega)
   have qe:=@hy;repeat' first|refine gC (fun hc=>?_) (fun hc=>?_)<;>try contradiction|refine gG ?_|show AK _;intro K H|refine H _ _ ?_;clear H K|refine gJ ?_;try exact trivial|omega
   ·rw [atL_hit hi.2 (by rw [hy,hc])];exact .refl _
   ·refine ⟨i+1,⟨by omega,fun z hz=>?_⟩,by omega,by simp⟩
    rw [zan hy] at hz
    rcases List.mem_append.1 hz with h|h
    ·exact hi.2 z h
    ·simp at h;subst h;exact fun e=>hc e.symm
  ·repeat' first|refine gC (fun hc=>?_) (fun hc=>?_)<;>try contradiction|refine gG ?_|show AK _;intro K H|refine H _ _ ?_;clear H K|refine gJ ?_;try exact trivial|omega
   have e:i=L.length:=by omega
   subst e
   rw [atL_end (fun y hy=>hi.2 y (by rw [List.take_of_length_le (by simp)];exact hy))];exact .refl _
theorem pure1213 (L:List ByteArray) (x:ByteArray):Pure Tryz.prog 106 [.sl 1 (L.map .s),.s x] (.b (decide (0≤atL x L))):=by
 refine zf (cF Tryz.func106 Tryz.f106.eq_1) (by simp) fun hw X hX=>?_
 repeat' first|refine gC (fun hc=>?_) (fun hc=>?_)<;>try contradiction|refine za (pure1256 L x) ?_|refine gG ?_|show AK _;intro K H|refine H _ _ ?_;clear H K|refine gJ ?_;try exact trivial|omega
 exact .refl _
theorem pure1184 {f:Nat} {caps:List PV} {L:List SlR} {p:SlR→Bool} (hf:∀ w ∈ L,Pure Tryz.prog f (w.pv::caps) (.b (p w))):Pure Tryz.prog 161 [.sl 16 (L.map SlR.pv),.fn (.func f) [] caps] (.i .i64 (idxF p L)):=by
 refine zf (cF Tryz.func161 Tryz.f161.eq_1) (by simp) fun hw X hX=>?_
 simp only [wfs,PV.wf,List.length_map,maxLen] at hw
 repeat' first|refine gC (fun hc=>?_) (fun hc=>?_)<;>try contradiction|refine gG ?_|show AK _;intro K H|refine H _ _ ?_;clear H K|refine gJ ?_;try exact trivial|omega
 refine zk (κ:=Nat) (fun i=>⟨[(0,.p (.sl 16 (L.map SlR.pv))),(1,.p (.fn (.func f) [] caps)),(7,.p (.i .i64 L.length)),(8,.p (.i .i64 i))],[],[],false⟩) (fun i=>i≤L.length∧∀ y ∈ L.take i,p y=false) (fun i=>L.length - i) 0 ?_ ?_ ?_
 ·exact sR
 ·simp
 ·intro i hi
  repeat first|refine gG ?_|show AK _;intro K H|refine H _ _ ?_;clear H K|refine gJ ?_;try exact trivial|omega
  (refine gC (fun hc=>?_) (fun hc=>?_)<;>try contradiction)
  ·obtain ⟨y,hy⟩:=zn (i:=i) (l:=L) (by omega)
   have qe:=@hy;repeat' first|refine gC (fun hc=>?_) (fun hc=>?_)<;>try contradiction|refine zr (hf y (List.mem_of_getElem? hy)) ?_|refine gG ?_|show AK _;intro K H|refine H _ _ ?_;clear H K|refine gJ ?_;try exact trivial|omega
   ·rw [idxF_hit hi.2 hy hc];exact .refl _
   ·exact ⟨i+1,⟨by omega,take_no hi.2 hy (by simpa using hc)⟩,by omega,by simp⟩
  ·repeat' first|refine gC (fun hc=>?_) (fun hc=>?_)<;>try contradiction|refine gG ?_|show AK _;intro K H|refine H _ _ ?_;clear H K|refine gJ ?_;try exact trivial|omega
   have e:i=L.length:=by omega
   subst e
   rw [idxF_end (fun y hy=>hi.2 y (by rw [List.take_of_length_le (by simp)];exact hy))];exact .refl _
theorem pure1240 {f:Nat} {caps:List PV} {L:List Lea} {p:Lea→Bool} (hf:∀ w ∈ L,Pure Tryz.prog f (w.pv::caps) (.b (p w))):Pure Tryz.prog 256 [.sl 3 (L.map Lea.pv),.fn (.func f) [] caps] (.i .i64 (idxF p L)):=by
 refine zf (cF Tryz.func256 Tryz.f256.eq_1) (by simp) fun hw X hX=>?_
 simp only [wfs,PV.wf,List.length_map,maxLen] at hw
 repeat' first|refine gC (fun hc=>?_) (fun hc=>?_)<;>try contradiction|refine gG ?_|show AK _;intro K H|refine H _ _ ?_;clear H K|refine gJ ?_;try exact trivial|omega
 refine zk (κ:=Nat) (fun i=>⟨[(0,.p (.sl 3 (L.map Lea.pv))),(1,.p (.fn (.func f) [] caps)),(7,.p (.i .i64 L.length)),(8,.p (.i .i64 i))],[],[],false⟩) (fun i=>i≤L.length∧∀ y ∈ L.take i,p y=false) (fun i=>L.length - i) 0 ?_ ?_ ?_
 ·exact sR
 ·simp
 ·intro i hi
  repeat first|refine gG ?_|show AK _;intro K H|refine H _ _ ?_;clear H K|refine gJ ?_;try exact trivial|omega
  (refine gC (fun hc=>?_) (fun hc=>?_)<;>try contradiction)
  ·obtain ⟨y,hy⟩:=zn (i:=i) (l:=L) (by omega)
   have qe:=@hy;repeat' first|refine gC (fun hc=>?_) (fun hc=>?_)<;>try contradiction|refine zr (hf y (List.mem_of_getElem? hy)) ?_|refine gG ?_|show AK _;intro K H|refine H _ _ ?_;clear H K|refine gJ ?_;try exact trivial|omega
   ·rw [idxF_hit hi.2 hy hc];exact .refl _
   ·exact ⟨i+1,⟨by omega,take_no hi.2 hy (by simpa using hc)⟩,by omega,by simp⟩
  ·repeat' first|refine gC (fun hc=>?_) (fun hc=>?_)<;>try contradiction|refine gG ?_|show AK _;intro K H|refine H _ _ ?_;clear H K|refine gJ ?_;try exact trivial|omega
   have e:i=L.length:=by omega
   subst e
   rw [idxF_end (fun y hy=>hi.2 y (by rw [List.take_of_length_le (by simp)];exact hy))];exact .refl _
theorem pure1277 {f:Nat} {caps:List PV} {L:List Wsh} {p:Wsh→Bool} (hf:∀ w ∈ L,Pure Tryz.prog f (w.pv::caps) (.b (p w))):Pure Tryz.prog 286 [.sl 14 (L.map Wsh.pv),.fn (.func f) [] caps] (.i .i64 (idxF p L)):=by
 refine zf (cF Tryz.func286 Tryz.f286.eq_1) (by simp) fun hw X hX=>?_
 simp only [wfs,PV.wf,List.length_map,maxLen] at hw
 repeat' first|refine gC (fun hc=>?_) (fun hc=>?_)<;>try contradiction|refine gG ?_|show AK _;intro K H|refine H _ _ ?_;clear H K|refine gJ ?_;try exact trivial|omega
 refine zk (κ:=Nat) (fun i=>⟨[(0,.p (.sl 14 (L.map Wsh.pv))),(1,.p (.fn (.func f) [] caps)),(7,.p (.i .i64 L.length)),(8,.p (.i .i64 i))],[],[],false⟩) (fun i=>i≤L.length∧∀ y ∈ L.take i,p y=false) (fun i=>L.length - i) 0 ?_ ?_ ?_
 ·exact sR
 ·simp
 ·intro i hi
  repeat first|refine gG ?_|show AK _;intro K H|refine H _ _ ?_;clear H K|refine gJ ?_;try exact trivial|omega
  (refine gC (fun hc=>?_) (fun hc=>?_)<;>try contradiction)
  ·obtain ⟨y,hy⟩:=zn (i:=i) (l:=L) (by omega)
   have qe:=@hy;repeat' first|refine gC (fun hc=>?_) (fun hc=>?_)<;>try contradiction|refine zr (hf y (List.mem_of_getElem? hy)) ?_|refine gG ?_|show AK _;intro K H|refine H _ _ ?_;clear H K|refine gJ ?_;try exact trivial|omega
   ·rw [idxF_hit hi.2 hy hc];exact .refl _
   ·exact ⟨i+1,⟨by omega,take_no hi.2 hy (by simpa using hc)⟩,by omega,by simp⟩
  ·repeat' first|refine gC (fun hc=>?_) (fun hc=>?_)<;>try contradiction|refine gG ?_|show AK _;intro K H|refine H _ _ ?_;clear H K|refine gJ ?_;try exact trivial|omega
   have e:i=L.length:=by omega
   subst e
   rw [idxF_end (fun y hy=>hi.2 y (by rw [List.take_of_length_le (by simp)];exact hy))];exact .refl _
theorem pure1185 (s:SlR) (n:ByteArray):Pure Tryz.prog 162 [s.pv,.ip (.s n) 0] (.b (decide (s.req.name=n))):=by
 refine zf (cF Tryz.func162 Tryz.f162.eq_1) (by simp) fun hw X hX=>?_
 repeat' first|refine gC (fun hc=>?_) (fun hc=>?_)<;>try contradiction|refine gG ?_|show AK _;intro K H|refine H _ _ ?_;clear H K|refine gJ ?_;try exact trivial|omega
 exact .refl _
theorem pure1225 (s:Wsh) (n:ByteArray):Pure Tryz.prog 245 [s.pv,.ip (.s n) 0] (.b (decide (s.req.name=n))):=by
 refine zf (cF Tryz.func245 Tryz.f245.eq_1) (by simp) fun hw X hX=>?_
 repeat' first|refine gC (fun hc=>?_) (fun hc=>?_)<;>try contradiction|refine gG ?_|show AK _;intro K H|refine H _ _ ?_;clear H K|refine gJ ?_;try exact trivial|omega
 exact .refl _
theorem slt_raw (l:List Slt):l.map Slt.pv=(l.map Slt.raw).map SlR.pv:=by rw [List.map_map];rfl
theorem pure1103 (L:List SlR) (W:List Wsh) (n:ByteArray):Pure Tryz.prog 91 [.agg [.sl 16 (L.map SlR.pv),.sl 14 (W.map Wsh.pv)],.s n] (.i .i64 (atL n (L.map (·.req.name)))):=by
 refine zf (cF Tryz.func91 Tryz.f91.eq_1) (by simp) fun hw X hX=>?_
 repeat' first|refine gC (fun hc=>?_) (fun hc=>?_)<;>try contradiction|refine zam (pure1184 (L:=L) (p:=fun w=>decide (w.req.name=n)) (fun w _=>pure1185 w n)) ?_|refine gG ?_|show AK _;intro K H|refine H _ _ ?_;clear H K|refine gJ ?_;try exact trivial|omega
 rw [idxF_atL];exact .refl _
theorem pure1101 (L:List SlR) (W:List Wsh) (n:ByteArray):Pure Tryz.prog 90 [.agg [.sl 16 (L.map SlR.pv),.sl 14 (W.map Wsh.pv)],.s n] (.i .i64 (if atL n (L.map (·.req.name)) < 0 then 10 else 0)):=by
 refine zf (cF Tryz.func90 Tryz.f90.eq_1) (by simp) fun hw X hX=>?_
 repeat' first|refine gC (fun hc=>?_) (fun hc=>?_)<;>try contradiction|refine za (pure1103 L W n) ?_|refine za (zW _ _) ?_|refine gG ?_|show AK _;intro K H|refine H _ _ ?_;clear H K|refine gJ ?_;try exact trivial|omega
 exact .refl _
theorem pure1224 {f:Nat} {caps:List PV} {L:List Wsh} {p:Wsh→Bool} (hf:∀ w ∈ L,Pure Tryz.prog f (w.pv::caps) (.b (p w))):Pure Tryz.prog 244 [.sl 14 (L.map Wsh.pv),.fn (.func f) [] caps] (.b (decide (0≤idxF p L))):=by
 refine zf (cF Tryz.func244 Tryz.f244.eq_1) (by simp) fun hw X hX=>?_
 repeat' first|refine gC (fun hc=>?_) (fun hc=>?_)<;>try contradiction|refine za (pure1277 (L:=L) (p:=p) hf) ?_|refine gG ?_|show AK _;intro K H|refine H _ _ ?_;clear H K|refine gJ ?_;try exact trivial|omega
 exact .refl _
def takenB (L:List ByteArray) (W:List ByteArray) (n:ByteArray):Bool:=decide (0≤atL n L) || decide (0≤atL n W)
theorem pure1154 (L:List SlR) (W:List Wsh) (n:ByteArray):Pure Tryz.prog 180 [.agg [.sl 16 (L.map SlR.pv),.sl 14 (W.map Wsh.pv)],.s n] (.b (takenB (L.map (·.req.name)) (W.map (·.req.name)) n)):=by
 refine zf (cF Tryz.func180 Tryz.f180.eq_1) (by simp) fun hw X hX=>?_
 have qe:=@mfk_lp;repeat' first|refine gC (fun hc=>?_) (fun hc=>?_)<;>try contradiction|refine zam (pure1103 L W n) ?_|refine zN (fun _=>pure1224 (L:=W) (p:=fun w=>decide (w.req.name=n)) (fun w _=>pure1225 w n)) ?_|refine gG ?_|show AK _;intro K H|refine H _ _ ?_;clear H K|refine gJ ?_;try exact trivial|omega
 rw [idxF_atL];exact .refl _
theorem pure1153 (w:Wsh):Pure Tryz.prog 111 [w.pv] (.i .i64 (chkWsh w)):=by
 refine zf (cF Tryz.func111 Tryz.f111.eq_1) (by simp) fun hw X hX=>?_
 have qe:=@qR;repeat' first|refine gC (fun hc=>?_) (fun hc=>?_)<;>try contradiction|refine za (pure1194 w.req) ?_|refine za (pure1183 _ _ _) ?_|refine za (zz [_,_]) ?_|refine gG ?_|show AK _;intro K H|refine H _ _ ?_;clear H K|refine gJ ?_;try exact trivial|omega
 exact .refl _
end Go.Proofs.YtahmdjadnlpjoaaGreat
