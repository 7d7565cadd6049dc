/- Contracts of functions that the proof uses, shared by the claims of this seat; no statement of its own. Part 66. No conditions. -/
import Derived.Test.YtahmdjadnlpjoaaGreatK37
set_option linter.all false
set_option maxHeartbeats 8000000
namespace Go.Proofs.YtahmdjadnlpjoaaGreat
open Go.RowKit
set_option maxRecDepth 100000
set_option linter.unusedVariables false
set_option linter.unusedSimpArgs false
set_option maxHeartbeats 8000000
def bckE (s:Slt) (d:Int):Int:=if s.req.per.to < d then 30 else 0
def bckP (p:Per) (d:Int):Per:=⟨p.fro,d - 1,p.days⟩
def bckS (s:Slt) (d:Int):Slt:=⟨{ s.req with per:=bckP s.req.per d },s.holder,cutL (d - 1) s.ls,s.sh⟩
theorem acts1206 (L:List Slt) (i:Nat) (s:Slt) (d:Int) (hs:L[i]?=some s) (hok:SlOk s) (hd:0≤d∧d≤99999):Acts Tryz.prog 216 [.ep 900 L.length i 0,.p (.ip (.i .i64 d) 0)] [(900,.row 59 16 (L.map Slt.pv) false)] (.p (.i .i64 (bckE s d)))
  [(900,.row 59 16 (if bckE s d=0 then (L.map Slt.pv).set i (bckS s d).pv else L.map Slt.pv) false)]:=by
 have hi:i < L.length:=(List.getElem?_eq_some_iff.1 hs).1
 have hi':i < (L.map Slt.pv).length:=by simpa using hi
 have hg:=fun a=>set_get (L.map Slt.pv) i a hi'
 obtain ⟨hl,_⟩:=hok
 obtain ⟨hd0,hd1⟩:=hd
 by_cases h:s.req.per.to < d
 ·have hE:bckE s d=30:=if_pos h
  rw [hE,if_neg (by decide)]
  have h1:=eq_true h
  refine zS (cF Tryz.func216 Tryz.f216.eq_1) (by simp) (by simp [scPs,scP,zl]) (by simp [scObj]) ⟨rfl,trivial⟩ (by simp [scObj]) (by simp [FolL,zl]) fun X hX=>?_
  unfold zD ghO
  have qe:=aI qR (aI @qN (aI @gLV.eq_2 (aI @hs (aI @h1 (aI @rtN (aI @rtR @decide_true))))));repeat' first|refine gC (fun hc=>?_) (fun hc=>?_)<;>try contradiction|refine gG ?_|show AK _;intro K H|refine H _ _ ?_;clear H K|refine gJ ?_;try exact trivial|omega
  all_goals exact .inl (.mk1 (h2:=by simp only [qS,Nat.reduceAdd,Nat.reduceMul,Nat.reduceEqDiff,Nat.reduceLeDiff,reduceIte,reduceCtorEq,Nat.reduceBEq,Nat.reduceLT,keepG.eq_1,keepG.eq_2,gLV.eq_2]<;>simp))
 ·have hE:bckE s d=0:=if_neg h
  rw [hE,if_pos rfl]
  have h1:=eq_false h
  refine zS (cF Tryz.func216 Tryz.f216.eq_1) (by simp) (by simp [scPs,scP,zl]) (by simp [scObj]) ⟨rfl,trivial⟩ (by simp [scObj]) (by simp [FolL,zl]) fun X hX=>?_
  unfold zD ghO
  have qe:=aI qR (aI @qN (aI @gLV.eq_2 (aI @hs (aI @hg (aI @h1 (aI @List.set_set.{0} (aI @List.length_set.{0} (aI @rtN (aI @rtR @decide_false)))))))));repeat' first|refine gC (fun hc=>?_) (fun hc=>?_)<;>try contradiction|refine za (pure1193 s.ls (d - 1) (by omega)) ?_|refine gG ?_|show AK _;intro K H|refine H _ _ ?_;clear H K|refine gJ ?_;try exact trivial|omega
  all_goals exact .inl (.mk1 (h2:=by simp only [qS,Nat.reduceAdd,Nat.reduceMul,Nat.reduceEqDiff,Nat.reduceLeDiff,reduceIte,reduceCtorEq,Nat.reduceBEq,Nat.reduceLT,keepG.eq_1,keepG.eq_2,gLV.eq_2]<;>simp))
theorem acts1206b (L:List Slt) (i:Nat) (s:Slt) (d:Int) (hs:L[i]?=some s) (hok:SlOk s) (hd:0≤d∧d≤99999) (h:bckE s d=0):Acts Tryz.prog 216 [.ep 900 L.length i 0,.lp 1 0] [(900,.row 59 16 (L.map Slt.pv) false),(1,.box [.p (.i .i64 d)] false)] (.p (.i .i64 0))
  [(900,.row 59 16 ((L.map Slt.pv).set i (bckS s d).pv) false),(1,.box [.p (.i .i64 d)] false)]:=by
 have hi:i < L.length:=(List.getElem?_eq_some_iff.1 hs).1
 have hi':i < (L.map Slt.pv).length:=by simpa using hi
 have hg:=fun a=>set_get (L.map Slt.pv) i a hi'
 obtain ⟨hl,_⟩:=hok
 obtain ⟨hd0,hd1⟩:=hd
 have h':¬s.req.per.to < d:=fun k=>by rw [bckE,if_pos k] at h;omega
 have h1:=eq_false h'
 refine zS (cF Tryz.func216 Tryz.f216.eq_1) (by simp) (by simp [scPs,scP,zl]) (by simp [scObj,scPs,scP]) ⟨rfl,rfl,trivial⟩ (by simp [scObj,scPs,scP]) (by simp [FolL,zl]) fun X hX=>?_
 unfold zD ghO
 have qe:=aI qR (aI @qN (aI @gLV.eq_1 (aI @gLV.eq_2 (aI @hs (aI @hg (aI @h1 (aI @List.set_set.{0} (aI @List.length_set.{0} (aI @rtN (aI @rtR @decide_false))))))))));repeat' first|refine gC (fun hc=>?_) (fun hc=>?_)<;>try contradiction|refine za (pure1193 s.ls (d - 1) (by omega)) ?_|refine gG ?_|show AK _;intro K H|refine H _ _ ?_;clear H K|refine gJ ?_;try exact trivial|omega
 all_goals exact .inl (.mk1 (h2:=by simp only [qS,Nat.reduceAdd,Nat.reduceMul,Nat.reduceEqDiff,Nat.reduceLeDiff,reduceIte,reduceCtorEq,Nat.reduceBEq,Nat.reduceLT,keepG.eq_1,keepG.eq_2,gLV.eq_1,gLV.eq_2]<;>simp))
def bckC (b:Bk) (c n:ByteArray) (d:Int):Int:=chgC b c n (rng d 0 99999) (bckE (zo b n) d)
def bckO (b:Bk) (n:ByteArray) (d:Int):Bk:=chgB b n (bckS (zo b n) d)
theorem acts1172 (b:Bk) (c n:ByteArray) (d:Int) (hb:BkOk b) (h:bckC b c n d=0):Acts Tryz.prog 195 [.p b.pv,.p (.s c),.p (.s n),.p (.i .i64 (rng d 0 99999)),.fn (.func 216) [] [.lp 1 0]] [(1,.box [.p (.i .i64 d)] false)] (.tup [.agg [.row 200 (bckO b n d).slots.length,.row 201 (bckO b n d).wait.length],.p (.i .i64 0)])
  [(1,.box [.p (.i .i64 d)] false),(200,.row 59 16 ((bckO b n d).slots.map Slt.pv) false),(201,.row 71 14 ((bckO b n d).wait.map Wsh.pv) false)]:=by
 have hown:ownE b c n (rng d 0 99999)=0:=fE0 h _ (by simp)
 have hce:bckE (zo b n) d=0:=fE0 h _ (by simp)
 obtain ⟨hat,hsl,hh,h3⟩:=za8 hown
 have hso:=slotOk hb hsl
 have hcl:=acts1206b b.slots (zA b n) (zo b n) d hsl hso (rng_in (own_e hown)) hce
 obtain ⟨hs,hn,hwl⟩:=hb
 have hlt:=atL_lt n (b.slots.map (·.req.name))
 rw [List.length_map] at hlt
 have hfd:(if atL n (b.slots.map (·.req.name)) < 0 then (10:Int) else 0)=fndE b.slots n:=rfl
 have h3t:(zg [zaH c,fndE b.slots n,rng d 0 99999]=0)=True:=eq_true h3
 have hlen:(bckO b n d).slots.length=b.slots.length:=by rw [bckO,chgB];simp
 have hmap:(bckO b n d).slots.map Slt.pv=(b.slots.map Slt.pv).set (zA b n) (bckS (zo b n) d).pv:=by rw [bckO,chgB,List.map_set]
 have hwt:(bckO b n d).wait=b.wait:=rfl
 rw [zA] at hcl hsl hmap
 generalize zo b n=s at hcl hsl hmap hh
 rw [hlen,hmap,hwt]
 refine zS (cF Tryz.func195 Tryz.f195.eq_1) (by simp) (by simp [scPs,scP,zl]) (by simp [scObj,scPs,scP]) ⟨rfl,trivial⟩ (by simp [scObj,scPs,scP]) (by simp [FolL,zl]) fun X hX=>?_
 unfold zD ghO
 have qe:=aI qR (aI @qN (aI @gLV.eq_1 (aI @zaA (aI @zaz (aI @zaf (aI @hfd (aI @h3t (aI @hsl (aI @hh (aI @decide_true (aI @Bool.not_true (aI @List.append_nil.{0} (aI @rtN @rtR)))))))))))));repeat' first|refine gC (fun hc=>?_) (fun hc=>?_)<;>try contradiction|refine za (zby c) ?_|refine za (zZ b n) ?_|refine za (zz [_,_,_]) ?_|refine zm [(100,200),(7,201)] (zbD b.slots b.wait hs (by omega) (by omega)) ?_|refine za (za9 b n) ?_|refine gG ?_|show AK _;intro K H|refine H _ _ ?_;clear H K|refine gJ ?_;try exact trivial|omega
 refine run_callSVX [(900,200),(1,1)] (hf:=hcl) (hn:=?_)
 have qe:=aI qR (aI @qN (aI @gLV.eq_1 (aI @zaA (aI @zaz (aI @zaf (aI @List.length_set.{0} (aI @List.length_map.{0,0} (aI @rtN @rtR))))))));repeat' first|refine gC (fun hc=>?_) (fun hc=>?_)<;>try contradiction|refine gG ?_|show AK _;intro K H|refine H _ _ ?_;clear H K|refine gJ ?_;try exact trivial|omega
 exact .inl (.mkT (h2:=by simp only [qS,Nat.reduceAdd,Nat.reduceMul,Nat.reduceEqDiff,Nat.reduceLeDiff,reduceIte,reduceCtorEq,Nat.reduceBEq,Nat.reduceLT,keepG.eq_1,keepG.eq_2,gLV.eq_1,gLV.eq_2]<;>simp))
def bckD (b:Bk) (n:ByteArray) (d:Int):Prop:=zau (bckP (zo b n).req.per d)=0∧¬(daysR (bckP (zo b n).req.per d)).length=0
instance (b:Bk) (n:ByteArray) (d:Int):Decidable (bckD b n d):=by unfold bckD;infer_instance
def bckY (b:Bk) (n:ByteArray) (d:Int):Bk:=if bckD b n d then bckO b n d else ⟨(bckO b n d).slots.take (zA b n)++(bckO b n d).slots.drop (zA b n+1),b.wait⟩
def bckB (b:Bk) (c n:ByteArray) (d:Int):Bk:=if bckC b c n d=0 then bckY b n d else bk0
theorem bckB_0 {b:Bk} {c n:ByteArray} {d:Int} (h:bckC b c n d≠0):bckB b c n d=bk0:=if_neg h
theorem names_set (L:List Slt) (i:Nat) (s s':Slt) (h:L[i]?=some s) (h2:s'.req.name=s.req.name):(L.set i s').map (·.req.name)=L.map (·.req.name):=by
 obtain ⟨hi,he⟩:=List.getElem?_eq_some_iff.1 h
 rw [List.map_set,h2,←he]
 refine List.ext_getElem (by simp) fun j h1 h3=>?_
 rw [List.getElem_set]
 split
 ·rename_i e;subst e;simp
 ·rfl
theorem pure1124 (b:Bk) (c n:ByteArray) (d:Int) (hb:BkOk b):Pure Tryz.prog 141 [b.pv,.s c,.s n,.i .i64 d] (.tup [(bckB b c n d).pv,.i .i64 (bckC b c n d)]):=by
 by_cases h:bckC b c n d=0
 ·have hch:=acts1172 b c n d hb h
  have hown:ownE b c n (rng d 0 99999)=0:=fE0 h _ (by simp)
  obtain ⟨hat,hsl,hh,h3⟩:=za8 hown
  obtain ⟨hs,hn,hwl⟩:=hb
  have hlt:=atL_lt n (b.slots.map (·.req.name))
  rw [List.length_map] at hlt
  have hlen:(bckO b n d).slots.length=b.slots.length:=by rw [bckO,chgB];simp
  have hnm:(bckO b n d).slots.map (·.req.name)=b.slots.map (·.req.name):=names_set _ _ _ _ hsl rfl
  have hfi:atL n (b.slots.map (·.req.name))=(zA b n:Int):=by rw [zA];omega
  have hi:zA b n < (bckO b n d).slots.length:=by rw [hlen];omega
  have hg:(bckO b n d).slots[zA b n]?=some (bckS (zo b n) d):=by
   rw [bckO,chgB];exact List.getElem?_set_self (by omega)
  have hbB:bckB b c n d=bckY b n d:=if_pos h
  rw [hbB,h]
  generalize hO:bckO b n d=O at hch hlen hnm hi hg
  have hfind:=za9 O n
  rw [hnm,hfi] at hfind
  by_cases hD:bckD b n d
  ·have hY:bckY b n d=O:=by rw [bckY,if_pos hD,hO]
   rw [hY]
   obtain ⟨d1,d2⟩:=hD
   have e1:=eq_true d1
   have e2:(((daysR (bckP (zo b n).req.per d)).length:Int)=0)=False:=eq_false (by omega)
   refine zf (cF Tryz.func141 Tryz.f141.eq_1) (by simp) fun hw X hX=>?_
   have qe:=aI qR (aI @qN (aI @zaA (aI @zaz (aI @zaf (aI @hg (aI @d1 (aI @e2 (aI @decide_true @decide_false))))))));repeat' first|refine gC (fun hc=>?_) (fun hc=>?_)<;>try contradiction|refine za (pure1102 d) ?_|refine zm [(1,7),(200,300),(201,301)] (hch) ?_|refine za (hfind) ?_|refine za (pure1207 (bckP (zo b n).req.per d)) ?_|refine gG ?_|show AK _;intro K H|refine H _ _ ?_;clear H K|refine gJ ?_;try exact trivial|omega
   exact .refl _
  ·have hY:bckY b n d=⟨O.slots.take (zA b n)++O.slots.drop (zA b n+1),b.wait⟩:=by rw [bckY,if_neg hD,hO]
   have hwO:O.wait=b.wait:=by rw [←hO];rfl
   rw [hY,←hwO]
   refine zf (cF Tryz.func141 Tryz.f141.eq_1) (by simp) fun hw X hX=>?_
   by_cases d1:zau (bckP (zo b n).req.per d)=0
   ·have d2:(daysR (bckP (zo b n).req.per d)).length=0:=Classical.byContradiction fun h=>hD ⟨d1,h⟩
    have e2:(((daysR (bckP (zo b n).req.per d)).length:Int)=0)=True:=eq_true (by omega)
    have qe:=aI qR (aI @qN (aI @zaA (aI @zaz (aI @zaf (aI @hg (aI @d1 (aI @e2 (aI @decide_true @decide_false))))))));repeat' first|refine gC (fun hc=>?_) (fun hc=>?_)<;>try contradiction|refine za (pure1102 d) ?_|refine zm [(1,7),(200,300),(201,301)] (hch) ?_|refine za (hfind) ?_|refine za (pure1207 (bckP (zo b n).req.per d)) ?_|refine gG ?_|show AK _;intro K H|refine H _ _ ?_;clear H K|refine gJ ?_;try exact trivial|omega
    have hxl:(O.slots.map Slt.pv).length=O.slots.length:=by simp
    have hoa:oneAll (O.slots.map Slt.pv)=true:=by
     simp only [oneAll,List.all_map,List.all_eq_true];intro x _;rfl
    refine zbO (ghost_pin 300 rfl (fun a0 c0=>[(50,.p (.rs a0 (O.slots.map Slt.pv).length c0)),(51,.p (.i .i64 (zA b n))),(53,.p (.i .i64 ((zA b n:Int)+1))),(10,.lp 10 0),(8,.lp 8 0)]) (fun a0 c0=>[(10,.box [.p (.rs a0 (O.slots.map Slt.pv).length c0),.row 301 O.wait.length] false),(301,.row 71 14 (O.wait.map Wsh.pv) false),(8,.box [.p .nilsl,.p .nilsl] false)]) fun a0 c0=>⟨?_,?_,?_,?_⟩) ?_
    ·exact ⟨.inr ⟨.rs a0 _ c0,.inl (.inr ⟨by show LV.row 300 _=LV.row 300 _;rw [hxl],rfl⟩),rfl⟩,.inl rfl,.inl rfl,.inl rfl,.inl rfl,trivial⟩
    ·exact ⟨.inr ⟨_,rfl,_,_,_,rfl,rfl,.inr ⟨by show LV.row 300 _=LV.row 300 _;rw [hxl],rfl⟩,.inl rfl,trivial⟩,.inl rfl,.inl rfl,trivial⟩
    ·simp [scEnv,scP,zl]
    ·simp [scObj,scPs,scP,zl]
    rintro _ ⟨a0,c0,rfl⟩
    refine (show zj _ _ _ _ _ (St.mk _ _ [] false) _ from ?_)
    have h1208:=acts1208 (O.slots.map Slt.pv) (zA b n) a0 c0 (by rw [hxl];exact hi) hoa
    refine run_callSP [(900,300)] (hf:=h1208) (hn:=?_)
    refine run_partN 1 ?_
    have qe:=aI qR (aI @rn.eq_1 @rn.eq_2);repeat' first|refine gC (fun hc=>?_) (fun hc=>?_)<;>try contradiction|refine gG ?_|show AK _;intro K H|refine H _ _ ?_;clear H K|refine gJ ?_;try exact trivial|omega
    have hl2:(List.take (zA b n) (O.slots.map Slt.pv)++List.drop (zA b n+1) (O.slots.map Slt.pv)).length=O.slots.length - 1:=by simp;omega
    have htk:(List.take (zA b n) (O.slots.map Slt.pv)++List.drop (zA b n+1) (O.slots.map Slt.pv)++[zsl]).take (O.slots.length - 1)=(O.slots.take (zA b n)++O.slots.drop (zA b n+1)).map Slt.pv:=by
     rw [List.take_append_of_le_length (by omega),List.take_of_length_le (by omega)];simp
    refine zbO (ghost_meltB 300 (O.slots.length - 1) (e:=59) (sz:=16) (c0:=c0) (xs:=List.take (zA b n) (O.slots.map Slt.pv)++List.drop (zA b n+1) (O.slots.map Slt.pv)++[zsl]) (a0:=a0) [(54,.p (.sl 16 ((O.slots.take (zA b n)++O.slots.drop (zA b n+1)).map Slt.pv))),(55,.lp 10 0),(10,.lp 10 0),(8,.lp 8 0)] [(10,.box [.p (.rs a0 O.slots.length c0),.row 301 O.wait.length] false),(301,.row 71 14 (O.wait.map Wsh.pv) false),(8,.box [.p .nilsl,.p .nilsl] false)] rfl (by rw [List.length_append,hl2];omega) ⟨?_,?_,?_,?_⟩) ?_
    ·exact ⟨.inr ⟨_,_,rfl,rfl,by rw [←htk];exact .inl (.inr ⟨rfl,rfl⟩)⟩,.inl rfl,.inl rfl,.inl rfl,trivial⟩
    ·exact ⟨.inl rfl,.inl rfl,.inl rfl,trivial⟩
    ·simp [scEnv,scP,zl]
    ·simp [scObj,scPs,scP,zl]
    rintro _ rfl
    refine (show zj _ _ _ _ _ (St.mk _ _ [] false) _ from zE ?_)
    have qe:=aI qR @zaf;repeat' first|refine gC (fun hc=>?_) (fun hc=>?_)<;>try contradiction|refine gG ?_|show AK _;intro K H|refine H _ _ ?_;clear H K|refine gJ ?_;try exact trivial|omega
    exact .refl _
   ·have d1f:=eq_false d1
    have qe:=aI qR (aI @qN (aI @zaA (aI @zaz (aI @zaf (aI @hg (aI @d1f (aI @decide_true @decide_false)))))));repeat' first|refine gC (fun hc=>?_) (fun hc=>?_)<;>try contradiction|refine za (pure1102 d) ?_|refine zm [(1,7),(200,300),(201,301)] (hch) ?_|refine za (hfind) ?_|refine za (pure1207 (bckP (zo b n).req.per d)) ?_|refine gG ?_|show AK _;intro K H|refine H _ _ ?_;clear H K|refine gJ ?_;try exact trivial|omega
    have hxl:(O.slots.map Slt.pv).length=O.slots.length:=by simp
    have hoa:oneAll (O.slots.map Slt.pv)=true:=by
     simp only [oneAll,List.all_map,List.all_eq_true];intro x _;rfl
    refine zbO (ghost_pin 300 rfl (fun a0 c0=>[(50,.p (.rs a0 (O.slots.map Slt.pv).length c0)),(51,.p (.i .i64 (zA b n))),(53,.p (.i .i64 ((zA b n:Int)+1))),(10,.lp 10 0),(8,.lp 8 0)]) (fun a0 c0=>[(10,.box [.p (.rs a0 (O.slots.map Slt.pv).length c0),.row 301 O.wait.length] false),(301,.row 71 14 (O.wait.map Wsh.pv) false),(8,.box [.p .nilsl,.p .nilsl] false)]) fun a0 c0=>⟨?_,?_,?_,?_⟩) ?_
    ·exact ⟨.inr ⟨.rs a0 _ c0,.inl (.inr ⟨by show LV.row 300 _=LV.row 300 _;rw [hxl],rfl⟩),rfl⟩,.inl rfl,.inl rfl,.inl rfl,.inl rfl,trivial⟩
    ·exact ⟨.inr ⟨_,rfl,_,_,_,rfl,rfl,.inr ⟨by show LV.row 300 _=LV.row 300 _;rw [hxl],rfl⟩,.inl rfl,trivial⟩,.inl rfl,.inl rfl,trivial⟩
    ·simp [scEnv,scP,zl]
    ·simp [scObj,scPs,scP,zl]
    rintro _ ⟨a0,c0,rfl⟩
    refine (show zj _ _ _ _ _ (St.mk _ _ [] false) _ from ?_)
    have h1208:=acts1208 (O.slots.map Slt.pv) (zA b n) a0 c0 (by rw [hxl];exact hi) hoa
    refine run_callSP [(900,300)] (hf:=h1208) (hn:=?_)
    refine run_partN 1 ?_
    have qe:=aI qR (aI @rn.eq_1 @rn.eq_2);repeat' first|refine gC (fun hc=>?_) (fun hc=>?_)<;>try contradiction|refine gG ?_|show AK _;intro K H|refine H _ _ ?_;clear H K|refine gJ ?_;try exact trivial|omega
    have hl2:(List.take (zA b n) (O.slots.map Slt.pv)++List.drop (zA b n+1) (O.slots.map Slt.pv)).length=O.slots.length - 1:=by simp;omega
    have htk:(List.take (zA b n) (O.slots.map Slt.pv)++List.drop (zA b n+1) (O.slots.map Slt.pv)++[zsl]).take (O.slots.length - 1)=(O.slots.take (zA b n)++O.slots.drop (zA b n+1)).map Slt.pv:=by
     rw [List.take_append_of_le_length (by omega),List.take_of_length_le (by omega)];simp
    refine zbO (ghost_meltB 300 (O.slots.length - 1) (e:=59) (sz:=16) (c0:=c0) (xs:=List.take (zA b n) (O.slots.map Slt.pv)++List.drop (zA b n+1) (O.slots.map Slt.pv)++[zsl]) (a0:=a0) [(54,.p (.sl 16 ((O.slots.take (zA b n)++O.slots.drop (zA b n+1)).map Slt.pv))),(55,.lp 10 0),(10,.lp 10 0),(8,.lp 8 0)] [(10,.box [.p (.rs a0 O.slots.length c0),.row 301 O.wait.length] false),(301,.row 71 14 (O.wait.map Wsh.pv) false),(8,.box [.p .nilsl,.p .nilsl] false)] rfl (by rw [List.length_append,hl2];omega) ⟨?_,?_,?_,?_⟩) ?_
    ·exact ⟨.inr ⟨_,_,rfl,rfl,by rw [←htk];exact .inl (.inr ⟨rfl,rfl⟩)⟩,.inl rfl,.inl rfl,.inl rfl,trivial⟩
    ·exact ⟨.inl rfl,.inl rfl,.inl rfl,trivial⟩
    ·simp [scEnv,scP,zl]
    ·simp [scObj,scPs,scP,zl]
    rintro _ rfl
    refine (show zj _ _ _ _ _ (St.mk _ _ [] false) _ from zE ?_)
    have qe:=aI qR @zaf;repeat' first|refine gC (fun hc=>?_) (fun hc=>?_)<;>try contradiction|refine gG ?_|show AK _;intro K H|refine H _ _ ?_;clear H K|refine gJ ?_;try exact trivial|omega
    exact .refl _
 ·have hch:=changedP (caps:=[.ip (.i .i64 d) 0]) b c n (rng d 0 99999) (bckE (zo b n) d) (bckS (zo b n) d) (bckS (zo b n) d).pv (b.slots.map Slt.pv) hb (.refl _) (by simp) fun h=>acts1206 b.slots (zA b n) (zo b n) d (za8 h).2.1 (slotOk hb (za8 h).2.1) (rng_in (own_e h))
  rw [←bckC,if_neg h] at hch
  rw [bckB_0 h]
  have e1:=eq_false h
  refine zat (r:=.tup [.agg [.nilsl,.nilsl],.i .i64 (bckC b c n d)]) ?_ (zbw _)
  refine zf (cF Tryz.func141 Tryz.f141.eq_1) (by simp) fun hw X hX=>?_
  have qe:=aI qR (aI @qN @e1);repeat' first|refine gC (fun hc=>?_) (fun hc=>?_)<;>try contradiction|refine za (pure1102 d) ?_|refine zam (hch) ?_|refine gG ?_|show AK _;intro K H|refine H _ _ ?_;clear H K|refine gJ ?_;try exact trivial|omega
  exact .refl _
theorem pure1050 (b:Bk) (c n:ByteArray) (d:Int) (hb:zG b=0→BkOk b):Pure Tryz.prog 59 [b.pv,.s c,.s n,.i .i64 d] (.tup [(BkTo b (bckB b c n d) (bckC b c n d)).1.pv,.i .i64 (BkTo b (bckB b c n d) (bckC b c n d)).2]):=by
 by_cases h:zG b=0
 ·have e1:(zG b=0)=True:=eq_true h
  rw [bkTo_ok h bckB_0]
  refine zf (cF Tryz.func59 Tryz.f59.eq_1) (by simp) fun hw X hX=>?_
  have qe:=aI qR (aI @qN @e1);repeat' first|refine gC (fun hc=>?_) (fun hc=>?_)<;>try contradiction|refine za (zX b) ?_|refine za (pure1124 b c n d (hb h)) ?_|refine gG ?_|show AK _;intro K H|refine H _ _ ?_;clear H K|refine gJ ?_;try exact trivial|omega
  exact .refl _
 ·have e1:(zG b=0)=False:=eq_false h
  rw [bkTo_bad h]
  refine zat (r:=.tup [.agg [.nilsl,.nilsl],.i .i64 (zG b)]) ?_ (zbw _)
  refine zf (cF Tryz.func59 Tryz.f59.eq_1) (by simp) fun hw X hX=>?_
  have qe:=aI qR (aI @qN @e1);repeat' first|refine gC (fun hc=>?_) (fun hc=>?_)<;>try contradiction|refine za (zX b) ?_|refine gG ?_|show AK _;intro K H|refine H _ _ ?_;clear H K|refine gJ ?_;try exact trivial|omega
  exact .refl _
end Go.Proofs.YtahmdjadnlpjoaaGreat
