/- Contracts of functions that the proof uses, shared by the claims of this seat; no statement of its own. Part 63. No conditions. -/
import Derived.Test.YtahmdjadnlpjoaaGreatK30
import Derived.Test.YtahmdjadnlpjoaaGreatK34
set_option linter.all false
set_option maxHeartbeats 8000000
namespace Go.Proofs.YtahmdjadnlpjoaaGreat
open Go.RowKit
set_option maxRecDepth 100000
set_option linter.unusedVariables false
set_option linter.unusedSimpArgs false
set_option maxHeartbeats 8000000
theorem own_of {b:Bk} {c n:ByteArray} {e:Int} (h:ownE b c n e=0):b.slots[zA b n]?=some (zo b n):=(za8 h).2.1
theorem findX (b:Bk) (n:ByteArray) (i0:Nat) (s:Slt) (p q:PV) (h0:b.slots[i0]?=some s):Pure Tryz.prog 91 [.agg [.sl 16 ((b.slots.map Slt.pv).set i0 (slX s p q)),.sl 14 (b.wait.map Wsh.pv)],.s n] (.i .i64 (atL n (b.slots.map (·.req.name)))):=by
 have h:=pure1103 ((b.slots.map Slt.raw).set i0 ⟨s.req,s.holder,p,q⟩) b.wait n
 have e1:((b.slots.map Slt.raw).set i0 ⟨s.req,s.holder,p,q⟩).map SlR.pv=(b.slots.map Slt.pv).set i0 (slX s p q):=by
  rw [List.map_set,slt_raw]
 have e2:((b.slots.map Slt.raw).set i0 ⟨s.req,s.holder,p,q⟩).map (·.req.name)=b.slots.map (·.req.name):=by
  obtain ⟨hi,he⟩:=List.getElem?_eq_some_iff.1 h0
  rw [List.map_set,List.map_map]
  refine List.ext_getElem (by simp) fun j h1 h3=>?_
  rw [List.getElem_set]
  split
  ·rename_i e;subst e;simp [he]
  ·simp
 rw [e1,e2] at h;exact h
theorem changedX {cf e sz:Nat} {caps:List PV} {xs xs':List PV} (p q:HD→PV) (raw:HD→PV) (fin:PV) (b:Bk) (c n:ByteArray) (er ce:Int) (hb:BkOk b) (h1:∀ i,(p i).one=true∧(q i).one=true)
  (hown:ownE b c n er=0) (hcl:ActsE Tryz.prog 247 [.p (zo b n).pv] [] (fun i=>.p (slX (zo b n) (p i) (q i))) (fun i=>[(105,.hrow e sz xs i.1 i.2)]))
  (hf:∀ i:HD,ActsE Tryz.prog cf ([.ep 900 b.slots.length (zA b n) 0]++caps.map .p) [(900,.row 59 16 ((b.slots.map Slt.pv).set (zA b n) (slX (zo b n) (p i) (q i))) false),(901,.hrow e sz xs i.1 i.2)] (fun _=>.p (.i .i64 ce))
   (fun j=>[(900,.row 59 16 ((b.slots.map Slt.pv).set (zA b n) (raw j)) false),(901,.hrow e sz xs' j.1 j.2)]))
  (hm:∀ j:HD,Mlt (.rs j.1 xs'.length j.2) (.sl sz xs') (raw j) fin) :
  Pure Tryz.prog 195 [b.pv,.s c,.s n,.i .i64 er,.fn (.func cf) [] caps] (if ce=0 then .tup [.agg [.sl 16 ((b.slots.map Slt.pv).set (zA b n) fin),.sl 14 (b.wait.map Wsh.pv)],.i .i64 0] else .tup [.agg [.nilsl,.nilsl],.i .i64 ce]):=by
 obtain ⟨hat,hsl,hh,h3⟩:=za8 hown
 obtain ⟨hs,hn,hwl⟩:=hb
 obtain ⟨_,hfi,hi⟩:=slot_found hat
 refine zf (cF Tryz.func195 Tryz.f195.eq_1) (by simp) fun hw X hX=>?_
 have hfd:(if atL n (b.slots.map (·.req.name)) < 0 then (10:Int) else 0)=fndE b.slots n:=rfl
 have h3t:(zg [zaH c,fndE b.slots n,er]=0)=True:=eq_true h3
 have hcln:=actsE1155X p q b.slots b.wait (zA b n) (zo b n) hsl hs (by omega) (by omega) h1 hcl
 have qe:=aI qR (aI @qN (aI @hfd (aI @h3t (aI @decide_true (aI @Bool.not_true (aI @List.append_nil.{0} (aI @List.map_cons.{0,0} (@List.map_nil.{0,0}))))))));repeat' first|refine gC (fun hc=>?_) (fun hc=>?_)<;>try contradiction|refine za (zby c) ?_|refine za (zZ b n) ?_|refine za (zz [_,_,_]) ?_|refine gG ?_|show AK _;intro K H|refine H _ _ ?_;clear H K|refine gJ ?_;try exact trivial|omega
 refine run_callEX [(100,200),(7,201),(305,305)] (hf:=hcln) (hn:=fun i=>?_)
 have hfx:=findX b n (zA b n) (zo b n) (p i) (q i) hsl
 rw [hfi] at hfx
 have hg:=fun a=>set_get (b.slots.map Slt.pv) (zA b n) a (by simpa using hi)
 have qe:=aI qR (aI @qN (aI @zaA (aI @zaz (aI @zaf (aI @lo_hrow (aI @hg (aI @hh (aI @List.length_set.{0} (aI @List.length_map.{0,0} (aI @decide_true @Bool.not_true))))))))));repeat' first|refine gC (fun hc=>?_) (fun hc=>?_)<;>try contradiction|refine za (hfx) ?_|refine gG ?_|show AK _;intro K H|refine H _ _ ?_;clear H K|refine gJ ?_;try exact trivial|omega
 have qe:=fun m=>rens_p m caps
 refine run_callEVP [(900,200),(901,305)] (hf:=hf i) (hn:=fun j=>?_)
 have hjm:=mltRow_set (hm j) (b.slots.map Slt.pv) (zA b n)
 refine zbO (ghost_melt 305 (e:=e) (sz:=sz) (xs:=xs') (a0:=j.1) (c0:=j.2) [(45,.p (.i .i64 ce)),(10,.lp 10 0),(13,.lp 13 0)] [(10,.box [.p .nilsl,.p .nilsl] false),(13,.box [.row 200 b.slots.length,.row 201 b.wait.length] false),(200,.row 59 16 ((b.slots.map Slt.pv).set (zA b n) fin) false),(201,.row 71 14 (b.wait.map Wsh.pv) false)] rfl ⟨⟨.inl rfl,.inl rfl,.inl rfl,trivial⟩,⟨.inl rfl,.inl rfl,.inr ⟨_,rfl,_,_,_,_,_,rfl,rfl,hjm⟩,.inl rfl,trivial⟩,by simp [scEnv,scP,zl],by simp [scObj,scPs,scP,zl]⟩) ?_
 rintro _ rfl
 refine (show zj _ _ _ _ _ (St.mk _ _ [] false) _ from zE ?_)
 by_cases hce:ce=0
 ·have hct:=eq_true hce
  have qe:=aI qR (aI @qN (aI @zaA (aI @zaz (aI @zaf (aI @hct (aI @List.length_set.{0} (aI @List.length_map.{0,0} (aI @decide_true @Bool.not_true))))))));repeat' first|refine gC (fun hc=>?_) (fun hc=>?_)<;>try contradiction|refine gG ?_|show AK _;intro K H|refine H _ _ ?_;clear H K|refine gJ ?_;try exact trivial|omega
  exact .refl _
 ·have hct:=eq_false hce
  have qe:=aI qR (aI @qN (aI @zaA (aI @zaz (aI @zaf (aI @hct (aI @List.length_set.{0} (aI @List.length_map.{0,0} (aI @decide_false @Bool.not_false))))))));repeat' first|refine gC (fun hc=>?_) (fun hc=>?_)<;>try contradiction|refine gG ?_|show AK _;intro K H|refine H _ _ ?_;clear H K|refine gJ ?_;try exact trivial|omega
  exact .refl _
end Go.Proofs.YtahmdjadnlpjoaaGreat
