/- Contracts of functions that the proof uses, shared by the claims of this seat; no statement of its own. Part 49. No conditions. -/
import Derived.Test.YtahmdjadnlpjoaaGreatK8
import Derived.Test.YtahmdjadnlpjoaaGreatK13
set_option linter.all false
set_option maxHeartbeats 8000000
namespace Go.Proofs.YtahmdjadnlpjoaaGreat
open Go.RowKit
set_option maxRecDepth 100000
set_option linter.unusedVariables false
set_option linter.unusedSimpArgs false
set_option maxHeartbeats 4000000
def fndE (L:List Slt) (n:ByteArray):Int:=if atL n (L.map (·.req.name)) < 0 then 10 else 0
theorem pure1031 (A B:List ByteArray):Pure Tryz.prog 43 [.sl 1 (A.map .s),.sl 1 (B.map .s)] (.b (decide (A=B))):=by
 refine zf (cF Tryz.func43 Tryz.f43.eq_1) (by simp) fun hw X hX=>?_
 simp only [wfs,PV.wf,List.length_map,maxLen] at hw
 repeat' first|refine gC (fun hc=>?_) (fun hc=>?_)<;>try contradiction|refine gG ?_|show AK _;intro K H|refine H _ _ ?_;clear H K|refine gJ ?_;try exact trivial|omega
 ·rw [decide_eq_false (fun e=>hc (by rw [e]))];exact .refl _
 have hlen:A.length=B.length:=by omega
 refine zk (κ:=Nat) (fun i=>⟨[(0,.p (.sl 1 (A.map .s))),(1,.p (.sl 1 (B.map .s))),(5,.p (.i .i64 i))],[],[],false⟩) (fun i=>i≤A.length∧A.take i=B.take i) (fun i=>A.length - i) 0 ?_ ?_ ?_
 ·exact sR
 ·simp
 ·intro i hi
  repeat first|refine gG ?_|show AK _;intro K H|refine H _ _ ?_;clear H K|refine gJ ?_;try exact trivial|omega
  (refine gC (fun hc=>?_) (fun hc=>?_)<;>try contradiction)
  ·obtain ⟨x,hx⟩:=zn (i:=i) (l:=A) (by omega)
   obtain ⟨y,hy⟩:=zn (i:=i) (l:=B) (by omega)
   have qe:=aI @hx @hy;repeat' first|refine gC (fun hc=>?_) (fun hc=>?_)<;>try contradiction|refine gG ?_|show AK _;intro K H|refine H _ _ ?_;clear H K|refine gJ ?_;try exact trivial|omega
   ·rw [decide_eq_false (fun e=>hc (by subst e;rw [hx] at hy;injection hy))];exact .refl _
   ·exact ⟨i+1,⟨by omega,by rw [zan hx,zan hy,hi.2,hc]⟩,by omega,by simp⟩
  ·repeat' first|refine gC (fun hc=>?_) (fun hc=>?_)<;>try contradiction|refine gG ?_|show AK _;intro K H|refine H _ _ ?_;clear H K|refine gJ ?_;try exact trivial|omega
   have e:i=A.length:=by omega
   have h2:=hi.2
   rw [e,List.take_length,hlen,List.take_length] at h2
   rw [decide_eq_true h2];exact .refl _
end Go.Proofs.YtahmdjadnlpjoaaGreat
