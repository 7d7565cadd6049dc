/- Contracts of functions that the proof uses, shared by the claims of this seat; no statement of its own. Part 68. No conditions. -/
import Derived.Test.YtahmdjadnlpjoaaGreatK30
import Derived.Test.YtahmdjadnlpjoaaGreatK33
import Derived.Test.YtahmdjadnlpjoaaGreatK31
import Derived.Test.YtahmdjadnlpjoaaGreatK35
import Derived.Test.YtahmdjadnlpjoaaGreatK37
set_option linter.all false
set_option maxHeartbeats 8000000
namespace Go.Proofs.YtahmdjadnlpjoaaGreat
open Go.RowKit
set_option maxRecDepth 100000
set_option linter.unusedVariables false
set_option linter.unusedSimpArgs false
set_option maxHeartbeats 8000000
theorem len_rs {α:Type} (f:α→PV) (l:List α) (a:Option Addr) (c:Nat):PV.rs a l.length c=PV.rs a (l.map f).length c:=by rw [List.length_map]
theorem cells_rs (a:Option Addr) (n c:Nat):(PV.rs a n c).cells=[.rs a n c]:=rfl
theorem chg_not {cf:Nat} {caps:List PV} (b:Bk) (c n:ByteArray) (e ce:Int) (hb:BkOk b) (h:ownE b c n e≠0):Pure Tryz.prog 195 [b.pv,.s c,.s n,.i .i64 e,.fn (.func cf) [] caps] (.tup [bk0.pv,.i .i64 (chgC b c n e ce)]):=by
 have hC:chgC b c n e ce≠0:=by rw [chgC,za2 h];exact h
 have:=pure1172 (caps:=caps) (cf:=cf) b c n e ce (b.slots.map Slt.pv) hb (by simp) (fun k=>absurd k h)
 rw [if_neg hC] at this
 exact zat this (zbw _)
theorem chg_own {b:Bk} {c n:ByteArray} {e ce:Int} (h:ownE b c n e=0):chgC b c n e ce=ce:=by rw [chgC,za3 h,fE_one]
set_option maxRecDepth 100000
set_option linter.unusedVariables false
set_option linter.unusedSimpArgs false
set_option maxHeartbeats 8000000
def cmpLe (a b:Lea):Int:=cmpI a.fro b.fro
def meetB (l o:Lea):Bool:=decide (o.fro≤l.to) && decide (l.fro≤o.to)
theorem pure1176 (o l:Lea):Pure Tryz.prog 198 [o.pv,.ip l.pv 0] (.b (meetB l o)):=by
 refine zf (cF Tryz.func198 Tryz.f198.eq_1) (by simp) fun hw X hX=>?_
 by_cases h:o.fro≤l.to
 ·have h1:=eq_true h
  have e:meetB l o=decide (l.fro≤o.to):=by simp [meetB,h]
  rw [e]
  have qe:=aI qR (aI @h1 @decide_true);repeat' first|refine gC (fun hc=>?_) (fun hc=>?_)<;>try contradiction|refine gG ?_|show AK _;intro K H|refine H _ _ ?_;clear H K|refine gJ ?_;try exact trivial|omega
  exact .refl _
 ·have h1:=eq_false h
  have e:meetB l o=false:=by simp [meetB,h]
  rw [e]
  have qe:=aI qR (aI @h1 @decide_false);repeat' first|refine gC (fun hc=>?_) (fun hc=>?_)<;>try contradiction|refine gG ?_|show AK _;intro K H|refine H _ _ ?_;clear H K|refine gJ ?_;try exact trivial|omega
  exact .refl _
theorem pure1179 (a b:Lea):Pure Tryz.prog 200 [a.pv,b.pv] (.i .i64 (cmpLe a b)):=by
 refine zf (cF Tryz.func200 Tryz.f200.eq_1) (by simp) fun hw X hX=>?_
 have qe:=@qR;repeat' first|refine gC (fun hc=>?_) (fun hc=>?_)<;>try contradiction|refine za (pure116 _ _) ?_|refine gG ?_|show AK _;intro K H|refine H _ _ ?_;clear H K|refine gJ ?_;try exact trivial|omega
 exact .refl _
def meetL (s:Slt) (l:Lea):Bool:=s.ls.any (meetB l)
theorem pure1175 (L:List Lea) (l:Lea):Pure Tryz.prog 197 [.sl 3 (L.map Lea.pv),.fn (.func 198) [] [.ip l.pv 0]] (.b (L.any (meetB l))):=by
 have h1240:=pure1240 (f:=198) (caps:=[.ip l.pv 0]) (L:=L) (p:=meetB l) fun w _=>pure1176 w l
 have e:=idxF_any (meetB l) L
 refine zf (cF Tryz.func197 Tryz.f197.eq_1) (by simp) fun hw X hX=>?_
 repeat' first|refine gC (fun hc=>?_) (fun hc=>?_)<;>try contradiction|refine za (h1240) ?_|refine gG ?_|show AK _;intro K H|refine H _ _ ?_;clear H K|refine gJ ?_;try exact trivial|omega
 rw [e];exact .refl _
def lnE (s:Slt) (l:Lea):Int:=zg [leaOf s.raw l,if meetL s l=true then 15 else 0,if 8≤(s.ls.length:Int) then 5 else 0]
def lnL (s:Slt) (l:Lea):List Lea:=zbM cmpLe (s.ls++[l])
def lnS (s:Slt) (l:Lea):Slt:=⟨s.req,s.holder,lnL s l,s.sh⟩
theorem acts1174e (P:List PV) (i0:Nat) (hi:i0 < P.length) (s:Slt) (l:Lea) (hok:SlOk s) (h:lnE s l≠0) (i:HD):ActsE Tryz.prog 196 [.ep 900 P.length i0 0,.p (.ip l.pv 0)] [(900,.row 59 16 (P.set i0 (slL s i)) false),(901,.hrow 102 3 (s.ls.map Lea.pv) i.1 i.2)] (fun _=>.p (.i .i64 (lnE s l)))
  (fun j=>[(900,.row 59 16 (P.set i0 (slL s j)) false),(901,.hrow 102 3 (s.ls.map Lea.pv) j.1 j.2)]):=by
 have hg:=fun a=>set_get P i0 a hi
 have hx:(zg [leaOf s.raw l,if s.ls.any (meetB l)=true then 15 else 0,if 8≤(s.ls.length:Int) then 5 else 0]=0)=False:=eq_false h
 have hlo:leaOf ⟨s.req,s.holder,.rs i.1 s.ls.length i.2,.sl 1 (s.sh.map .s)⟩ l=leaOf s.raw l:=rfl
 have h1177:=pure1177 l ⟨s.req,s.holder,.rs i.1 s.ls.length i.2,.sl 1 (s.sh.map .s)⟩
 rw [hlo] at h1177
 obtain ⟨hok,_⟩:=hok
 refine actsE_by (cF Tryz.func196 Tryz.f196.eq_1) (by simp) (by simp [scPs,scP,zl]) (by simp [scObj]) ⟨rfl,rfl,trivial⟩ (fun j=>by simp [scObj]) (fun j=>by simp [FolL,zl]) fun X hX=>?_
 unfold zD ghO
 have qe:=aI qR (aI @qN (aI @gLV.eq_2 (aI @gLV.eq_5 (aI @hg @List.length_set.{0}))));repeat' first|refine gG ?_|show AK _;intro K H|refine H _ _ ?_;clear H K|refine gJ ?_;try exact trivial|omega
 refine run_callHX 901 (hf:=pure1175 s.ls l) (hm:=by exact ⟨.inr ⟨len_rs _ _ _ _,rfl⟩,.inl rfl,trivial⟩) (hn:=?_)
 have qe:=aI qR (aI @qN (aI @hg (aI @hx (aI @List.length_set.{0} (aI @reN @reR)))));repeat' first|refine gC (fun hc=>?_) (fun hc=>?_)<;>try contradiction|refine za (h1177) ?_|refine za (zW _ _) ?_|refine za (zz [_,_,_]) ?_|refine gG ?_|show AK _;intro K H|refine H _ _ ?_;clear H K|refine gJ ?_;try exact trivial|omega
 all_goals exact ⟨i,.inl (.mkE)⟩
theorem lnL_len (s:Slt) (l:Lea):(lnL s l).length=s.ls.length+1:=by rw [lnL,zH];simp
theorem acts1174 (P:List PV) (i0:Nat) (hi:i0 < P.length) (s:Slt) (l:Lea) (hok:SlOk s) (h:lnE s l=0) (i:HD):ActsE Tryz.prog 196 [.ep 900 P.length i0 0,.p (.ip l.pv 0)] [(900,.row 59 16 (P.set i0 (slL s i)) false),(901,.hrow 102 3 (s.ls.map Lea.pv) i.1 i.2)] (fun _=>.p (.i .i64 0))
  (fun j=>[(900,.row 59 16 (P.set i0 (slX s (.rs j.1 ((lnL s l).map Lea.pv).length j.2) (.sl 1 (s.sh.map .s)))) false),(901,.hrow 102 3 ((lnL s l).map Lea.pv) j.1 j.2)]):=by
 have hg:=fun a=>set_get P i0 a hi
 have hx:(zg [leaOf s.raw l,if s.ls.any (meetB l)=true then 15 else 0,if 8≤(s.ls.length:Int) then 5 else 0]=0)=True:=eq_true h
 have h8:s.ls.length < 8:=by
  have:=fE0 h (if 8≤(s.ls.length:Int) then 5 else 0) (by simp)
  by_cases h8:8≤(s.ls.length:Int)
  ·rw [if_pos h8] at this;omega
  ·omega
 have hlo:leaOf ⟨s.req,s.holder,.rs i.1 s.ls.length i.2,.sl 1 (s.sh.map .s)⟩ l=leaOf s.raw l:=rfl
 have h1177:=pure1177 l ⟨s.req,s.holder,.rs i.1 s.ls.length i.2,.sl 1 (s.sh.map .s)⟩
 rw [hlo] at h1177
 have hsrt:=acts1178 pure1179 (s.ls++[l]) (by simp;omega)
 have hln:=lnL_len s l
 rw [lnL] at hln
 obtain ⟨hok,_⟩:=hok
 refine actsE_by (cF Tryz.func196 Tryz.f196.eq_1) (by simp) (by simp [scPs,scP,zl]) (by simp [scObj]) ⟨rfl,rfl,trivial⟩ (fun j=>by simp [scObj]) (fun j=>by simp [FolL,zl]) fun X hX=>?_
 unfold zD ghO
 have qe:=aI qR (aI @qN (aI @gLV.eq_2 (aI @gLV.eq_5 (aI @hg @List.length_set.{0}))));repeat' first|refine gG ?_|show AK _;intro K H|refine H _ _ ?_;clear H K|refine gJ ?_;try exact trivial|omega
 refine run_callHX 901 (hf:=pure1175 s.ls l) (hm:=by exact ⟨.inr ⟨len_rs _ _ _ _,rfl⟩,.inl rfl,trivial⟩) (hn:=?_)
 have qe:=aI qR (aI @qN (aI @hg (aI @hx (aI @List.length_set.{0} (aI @reN @reR)))));repeat' first|refine za (h1177) ?_|refine za (zW _ _) ?_|refine za (zz [_,_,_]) ?_|refine gG ?_|show AK _;intro K H|refine H _ _ ?_;clear H K|refine gJ ?_;try exact trivial|omega
 have qe:=@hx;(refine gC (fun hc=>?_) (fun hc=>?_)<;>try contradiction)
 refine run_skip ?_
 refine (show Run _ (.seq (.ops true _) _) _ _ from run_seq (run_drawB Mx.h rfl 8 (by decide) rfl ?_))
 simp only [List.take_succ_cons,List.take_zero,List.drop_succ_cons,List.drop_zero]
 refine run_partN 7 ?_
 simp only [List.take_succ_cons,List.take_zero,List.drop_succ_cons,List.drop_zero]
 have qe:=aI qR (aI @qN (aI @hg @List.length_set.{0}));repeat' first|refine gC (fun hc=>?_) (fun hc=>?_)<;>try contradiction|refine gG ?_|show AK _;intro K H|refine H _ _ ?_;clear H K|refine gJ ?_;try exact trivial|omega
 refine run_appHX 901 s.ls.length (xs:=s.ls.map Lea.pv) (by simp) (h3:=by simp;omega) (h:=?_)
 refine (show drawOkF _=true∧zj _ _ _ _ _ _ _ from ⟨rfl,?_⟩)
 refine zbO (ghost_pin 901 (e:=102) (sz:=3) (xs:=s.ls.map Lea.pv++[l.pv]) rfl (fun a0 c0=>[(0,.ep 900 P.length i0 0),(31,.ep 900 P.length i0 0),(38,.p (.rs a0 (s.ls.map Lea.pv++[l.pv]).length c0)),(1000900,.row 900 P.length),(1000901,.any)]) (fun a0 c0=>[(900,.row 59 16 (P.set i0 (slL s i)) false)]) fun a0 c0=>⟨?_,?_,?_,?_⟩) ?_
 ·exact ⟨.inl rfl,.inl rfl,.inr ⟨_,.inl (.inr ⟨rfl,rfl⟩),rfl⟩,.inl rfl,.inl rfl,trivial⟩
 ·exact ⟨.inl rfl,trivial⟩
 ·simp [scEnv,scP,zl]
 ·simp [scObj,scPs,scP,zl]
 rintro _ ⟨a0,c0,rfl⟩
 refine (show zj _ _ _ _ _ (St.mk _ _ [] false) _ from zE ?_)
 have hmp:(s.ls++[l]).map Lea.pv=s.ls.map Lea.pv++[l.pv]:=by simp
 have hml:(s.ls.map Lea.pv++[l.pv]).length=(s.ls++[l]).length:=by simp
 rw [hml]
 rw [←hmp]
 have h1178:=acts_pin a0 c0 hsrt (by simp [zH]) (args':=[.p (.rs a0 (s.ls++[l]).length c0),.p (.fn (.func 200) [] [])]) ⟨.inr ⟨by rw [List.length_map],by rw [List.length_map]⟩,.inl ⟨_,rfl,rfl⟩,trivial⟩
 have hl1:(s.ls++[l]).length=s.ls.length+1:=by simp
 rw [hl1] at h1178 ⊢
 have qe:=aI qR (aI @qN (aI @hg (aI @cells_rs (aI @lo_hrow (aI @List.set_set.{0} (aI @List.length_set.{0} (aI @reN @reR)))))));repeat' first|refine gC (fun hc=>?_) (fun hc=>?_)<;>try contradiction|refine zm [(900,901)] (h1178) ?_|refine gG ?_|show AK _;intro K H|refine H _ _ ?_;clear H K|refine gJ ?_;try exact trivial|omega
 simp only [lnL_len]
 exact ⟨(a0,c0),.inl (.mkE)⟩
def lnC (b:Bk) (c n:ByteArray) (l:Lea):Int:=chgC b c n (chkLea l) (lnE (zo b n) l)
def lnB (b:Bk) (c n:ByteArray) (l:Lea):Bk:=if lnC b c n l=0 then chgB b n (lnS (zo b n) l) else bk0
theorem lnB_0 {b:Bk} {c n:ByteArray} {l:Lea} (h:lnC b c n l≠0):lnB b c n l=bk0:=if_neg h
theorem lend_c (b:Bk) (c n:ByteArray) (l:Lea) (hb:BkOk b):Pure Tryz.prog 195 [b.pv,.s c,.s n,.i .i64 (chkLea l),.fn (.func 196) [] [.ip l.pv 0]] (.tup [(lnB b c n l).pv,.i .i64 (lnC b c n l)]):=by
 by_cases hown:ownE b c n (chkLea l)=0
 ·have hC:lnC b c n l=lnE (zo b n) l:=chg_own hown
  have hsl:=own_of hown
  have hok:=slotOk hb hsl
  have hi:zA b n < b.slots.length:=(List.getElem?_eq_some_iff.1 hsl).1
  have hi':zA b n < (b.slots.map Slt.pv).length:=by simpa using hi
  by_cases hE:lnE (zo b n) l=0
  ·have hf:=fun i=>acts1174 (b.slots.map Slt.pv) (zA b n) hi' (zo b n) l hok hE i
   rw [show (b.slots.map Slt.pv).length=b.slots.length from List.length_map ..] at hf
   have h:=changedX (cf:=196) (caps:=[.ip l.pv 0]) (fun i=>.rs i.1 (zo b n).ls.length i.2) (fun _=>.sl 1 ((zo b n).sh.map .s)) _ (slX (zo b n) (.sl 3 ((lnL (zo b n) l).map Lea.pv)) (.sl 1 ((zo b n).sh.map PV.s))) b c n (chkLea l) 0 hb (fun _=>⟨rfl,rfl⟩) hown (actsE1227L (zo b n) hok) hf fun j=>.inr ⟨_,_,rfl,rfl,.inl rfl,.inl rfl,.inl rfl,.inl rfl,.inl rfl,.inl rfl,.inl rfl,.inl rfl,.inl rfl,.inl rfl,.inl rfl,.inl rfl,.inl rfl,.inl rfl,.inr ⟨rfl,rfl⟩,.inl rfl,trivial⟩
   rw [if_pos rfl] at h
   have hB:lnB b c n l=chgB b n (lnS (zo b n) l):=by rw [lnB,hC,if_pos hE]
   rw [hC,hE,hB,chgB]
   show Pure _ _ _ (.tup [.agg [.sl 16 ((b.slots.set (zA b n) (lnS (zo b n) l)).map Slt.pv),.sl 14 (b.wait.map Wsh.pv)],.i .i64 0])
   rw [List.map_set]
   exact h
  ·have hf:=fun i=>acts1174e (b.slots.map Slt.pv) (zA b n) hi' (zo b n) l hok hE i
   rw [show (b.slots.map Slt.pv).length=b.slots.length from List.length_map ..] at hf
   have h:=changedX (cf:=196) (caps:=[.ip l.pv 0]) (fun i=>.rs i.1 (zo b n).ls.length i.2) (fun _=>.sl 1 ((zo b n).sh.map .s)) _ (zo b n).pv b c n (chkLea l) (lnE (zo b n) l) hb (fun _=>⟨rfl,rfl⟩) hown (actsE1227L (zo b n) hok) hf fun j=>.inr ⟨_,_,rfl,rfl,.inl rfl,.inl rfl,.inl rfl,.inl rfl,.inl rfl,.inl rfl,.inl rfl,.inl rfl,.inl rfl,.inl rfl,.inl rfl,.inl rfl,.inl rfl,.inl rfl,.inr ⟨len_rs _ _ _ _,rfl⟩,.inl rfl,trivial⟩
   rw [if_neg hE] at h
   rw [lnB_0 (by rw [hC];exact hE),hC]
   exact zat h (zbw _)
 ·have hC:lnC b c n l≠0:=by rw [lnC,chgC,za2 hown];exact hown
  rw [lnB_0 hC]
  exact chg_not b c n (chkLea l) _ hb hown
theorem pure1099 (b:Bk) (c n:ByteArray) (l:Lea) (hb:BkOk b):Pure Tryz.prog 121 [b.pv,.s c,.s n,l.pv] (.tup [(lnB b c n l).pv,.i .i64 (lnC b c n l)]):=by
 have hch:=lend_c b c n l hb
 refine zf (cF Tryz.func121 Tryz.f121.eq_1) (by simp) fun hw X hX=>?_
 have qe:=aI qR @qN;repeat' first|refine gC (fun hc=>?_) (fun hc=>?_)<;>try contradiction|refine za (pure1173 l) ?_|refine zam (hch) ?_|refine gG ?_|show AK _;intro K H|refine H _ _ ?_;clear H K|refine gJ ?_;try exact trivial|omega
 exact .refl _
theorem pure1035 (b:Bk) (c n:ByteArray) (l:Lea) (hb:zG b=0→BkOk b):Pure Tryz.prog 46 [b.pv,.s c,.s n,l.pv] (.tup [(BkTo b (lnB b c n l) (lnC b c n l)).1.pv,.i .i64 (BkTo b (lnB b c n l) (lnC b c n l)).2]):=by
 by_cases h:zG b=0
 ·have e1:(zG b=0)=True:=eq_true h
  rw [bkTo_ok h lnB_0]
  refine zf (cF Tryz.func46 Tryz.f46.eq_1) (by simp) fun hw X hX=>?_
  have qe:=aI qR (aI @qN @e1);repeat' first|refine gC (fun hc=>?_) (fun hc=>?_)<;>try contradiction|refine za (zX b) ?_|refine za (pure1099 b c n l (hb h)) ?_|refine gG ?_|show AK _;intro K H|refine H _ _ ?_;clear H K|refine gJ ?_;try exact trivial|omega
  exact .refl _
 ·have e1:(zG b=0)=False:=eq_false h
  rw [bkTo_bad h]
  refine zat (r:=.tup [.agg [.nilsl,.nilsl],.i .i64 (zG b)]) ?_ (zbw _)
  refine zf (cF Tryz.func46 Tryz.f46.eq_1) (by simp) fun hw X hX=>?_
  have qe:=aI qR (aI @qN @e1);repeat' first|refine gC (fun hc=>?_) (fun hc=>?_)<;>try contradiction|refine za (zX b) ?_|refine gG ?_|show AK _;intro K H|refine H _ _ ?_;clear H K|refine gJ ?_;try exact trivial|omega
  exact .refl _
end Go.Proofs.YtahmdjadnlpjoaaGreat
