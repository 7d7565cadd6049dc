/- Contracts of functions, for the claim. No conditions. -/
import Derived.Test.YtijgimeokgbifaaGreatK25
import Derived.Test.YtijgimeokgbifaaGreatK27
import Derived.Test.YtijgimeokgbifaaGreatK29
set_option linter.all false
set_option maxHeartbeats 8000000
set_option maxRecDepth 100000
namespace Go.Proofs.YtijgimeokgbifaaGreat
open Go.RowKit
def zyd (a b:Lea):Int:=zo0 a.fro b.fro
def ze1 (l o:Lea):Bool:=decide (o.fro<=l.to) && decide (l.fro<=o.to)
theorem zqR (o l:Lea):Pure Tryz.prog 140 [o.pv,.ip l.pv 0] (.b (ze1 l o)):=by
 refine zf (cF Tryz.func140 Tryz.f140.eq_1) (by simp) λhw X hX=>?_
 by_cases h:o.fro<=l.to
 ·have h1:=eq_true h
  have e:ze1 l o=decide (l.fro<=o.to):=by simp [ze1,h]
  rw [e]
  have qe:=aI qR (aI @h1 @decide_true);repeat' first|refine gC ?_ ?_<;>intro hc<;>try contradiction|refine gG ?_|show AK _;intro K H|refine H _ _ ?_;clear H K|refine gJ ?_;try exact trivial|omega
  exact .refl _
 ·have h1:=eq_false h
  have e:ze1 l o=false:=by simp [ze1,h]
  rw [e]
  have qe:=aI qR (aI @h1 @decide_false);repeat' first|refine gC ?_ ?_<;>intro hc<;>try contradiction|refine gG ?_|show AK _;intro K H|refine H _ _ ?_;clear H K|refine gJ ?_;try exact trivial|omega
  exact .refl _
theorem zqQ (a b:Lea):Pure Tryz.prog 143 [a.pv,b.pv] (.i .i64 (zyd a b)):=by
 refine zf (cF Tryz.func143 Tryz.f143.eq_1) (by simp) λhw X hX=>?_
 have qe:=@qR;repeat' first|refine gC ?_ ?_<;>intro hc<;>try contradiction|refine za (zi7 _ _) ?_|refine gG ?_|show AK _;intro K H|refine H _ _ ?_;clear H K|refine gJ ?_;try exact trivial|omega
 exact .refl _
def meetL (s:Slt) (l:Lea):Bool:=s.ls.any (ze1 l)
theorem zkj (L:List Lea) (l:Lea):Pure Tryz.prog 139 [.sl 3 (L.map Lea.pv),.fn (.func 140) [] [.ip l.pv 0]] (.b (L.any (ze1 l))):=by
 have h1240:=zqJ (f:=140) (caps:=[.ip l.pv 0]) (L:=L) (p:=ze1 l) λw _=>zqR w l
 have e:=zg6 (ze1 l) L
 refine zf (cF Tryz.func139 Tryz.f139.eq_1) (by simp) λhw X hX=>?_
 repeat' first|refine gC ?_ ?_<;>intro hc<;>try contradiction|refine za (h1240) ?_|refine gG ?_|show AK _;intro K H|refine H _ _ ?_;clear H K|refine gJ ?_;try exact trivial|omega
 rw [e];exact .refl _
def lnE (s:Slt) (l:Lea):Int:=zg [zfI s.raw l,if meetL s l=true then 15 else 0,if 8<=(s.ls.length:Int) then 5 else 0]
def lnL (s:Slt) (l:Lea):List Lea:=zbL zyd (s.ls++[l])
def lnS (s:Slt) (l:Lea):Slt:=⟨s.req,s.holder,lnL s l,s.sh⟩
theorem zpf (P:List PV) (i0:Nat) (hi:i0 < P.length) (s:Slt) (l:Lea) (hok:zlc s) (h:lnE s l≠0) (i:HD):ActsE Tryz.prog 138 [.ep 900 P.length i0 0,.p (.ip l.pv 0)] [(900,.row 84 16 (P.set i0 (slL s i)) false),(901,.hrow 91 3 (s.ls.map Lea.pv) i.1 i.2)] (λ_=>.p (.i .i64 (lnE s l)))
  (λj=>[(900,.row 84 16 (P.set i0 (slL s j)) false),(901,.hrow 91 3 (s.ls.map Lea.pv) j.1 j.2)]):=by
 have hg:=λa=>zc4 P i0 a hi
 have hx:(zg [zfI s.raw l,if s.ls.any (ze1 l)=true then 15 else 0,if 8<=(s.ls.length:Int) then 5 else 0]=0)=False:=eq_false h
 have hlo:zfI ⟨s.req,s.holder,.rs i.1 s.ls.length i.2,.sl 1 (s.sh.map .s)⟩ l=zfI s.raw l:=rfl
 have h1177:=zgI l ⟨s.req,s.holder,.rs i.1 s.ls.length i.2,.sl 1 (s.sh.map .s)⟩
 rw [hlo] at h1177
 obtain ⟨hok,_⟩:=hok
 refine zdF (cF Tryz.func138 Tryz.f138.eq_1) (by simp) (by simp [scPs,scP,zk]) (by simp [scObj]) ⟨rfl,rfl,trivial⟩ (λj=>by simp [scObj]) (λj=>by simp [zc2,zk]) λX hX=>?_
 unfold zD ghO
 have qe:=aI qR (aI @qN (aI @gLV.eq_2 (aI @gLV.eq_5 (aI @hg @List.length_set.{0}))));repeat' first|refine gG ?_|show AK _;intro K H|refine H _ _ ?_;clear H K|refine gJ ?_;try exact trivial|omega
 refine zfQ 901 (hf:=zkj s.ls l) (hm:=by exact ⟨.inr ⟨zob _ _ _ _,rfl⟩,.inl rfl,trivial⟩) (hn:=?_)
 have qe:=aI qR (aI @qN (aI @hg (aI @hx (aI @List.length_set.{0} (aI @reN @reR)))));repeat' first|refine gC ?_ ?_<;>intro hc<;>try contradiction|refine za (h1177) ?_|refine za (zU _ _) ?_|refine za (zw [_,_,_]) ?_|refine gG ?_|show AK _;intro K H|refine H _ _ ?_;clear H K|refine gJ ?_;try exact trivial|omega
 all_goals exact ⟨i,.inl (.mkE)⟩
theorem zn9 (s:Slt) (l:Lea):(lnL s l).length=s.ls.length+1:=by rw [lnL,zG];simp
theorem zsy (P:List PV) (i0:Nat) (hi:i0 < P.length) (s:Slt) (l:Lea) (hok:zlc s) (h:lnE s l=0) (i:HD):ActsE Tryz.prog 138 [.ep 900 P.length i0 0,.p (.ip l.pv 0)] [(900,.row 84 16 (P.set i0 (slL s i)) false),(901,.hrow 91 3 (s.ls.map Lea.pv) i.1 i.2)] (λ_=>.p (.i .i64 0))
  (λj=>[(900,.row 84 16 (P.set i0 (slX s (.rs j.1 ((lnL s l).map Lea.pv).length j.2) (.sl 1 (s.sh.map .s)))) false),(901,.hrow 91 3 ((lnL s l).map Lea.pv) j.1 j.2)]):=by
 have hg:=λa=>zc4 P i0 a hi
 have hx:(zg [zfI s.raw l,if s.ls.any (ze1 l)=true then 15 else 0,if 8<=(s.ls.length:Int) then 5 else 0]=0)=True:=eq_true h
 have h8:s.ls.length < 8:=by
  have:=fE0 h (if 8<=(s.ls.length:Int) then 5 else 0) (by simp)
  by_cases h8:8<=(s.ls.length:Int)
  ·rw [if_pos h8] at this;omega
  ·omega
 have hlo:zfI ⟨s.req,s.holder,.rs i.1 s.ls.length i.2,.sl 1 (s.sh.map .s)⟩ l=zfI s.raw l:=rfl
 have h1177:=zgI l ⟨s.req,s.holder,.rs i.1 s.ls.length i.2,.sl 1 (s.sh.map .s)⟩
 rw [hlo] at h1177
 have hsrt:=zsx zqQ (s.ls++[l]) (by simp;omega)
 have hln:=zn9 s l
 rw [lnL] at hln
 obtain ⟨hok,_⟩:=hok
 refine zdF (cF Tryz.func138 Tryz.f138.eq_1) (by simp) (by simp [scPs,scP,zk]) (by simp [scObj]) ⟨rfl,rfl,trivial⟩ (λj=>by simp [scObj]) (λj=>by simp [zc2,zk]) λX hX=>?_
 unfold zD ghO
 have qe:=aI qR (aI @qN (aI @gLV.eq_2 (aI @gLV.eq_5 (aI @hg @List.length_set.{0}))));repeat' first|refine gG ?_|show AK _;intro K H|refine H _ _ ?_;clear H K|refine gJ ?_;try exact trivial|omega
 refine zfQ 901 (hf:=zkj s.ls l) (hm:=by exact ⟨.inr ⟨zob _ _ _ _,rfl⟩,.inl rfl,trivial⟩) (hn:=?_)
 have qe:=aI qR (aI @qN (aI @hg (aI @hx (aI @List.length_set.{0} (aI @reN @reR)))));repeat' first|refine za (h1177) ?_|refine za (zU _ _) ?_|refine za (zw [_,_,_]) ?_|refine gG ?_|show AK _;intro K H|refine H _ _ ?_;clear H K|refine gJ ?_;try exact trivial|omega
 have qe:=@hx;(refine gC ?_ ?_<;>intro hc<;>try contradiction)
 refine zj6 ?_
 refine (show Run _ (.seq (.ops true _) _) _ _ from zgx (zm9 Mx.h rfl 8 (by decide) rfl ?_))
 simp only [List.take_succ_cons,List.take_zero,List.drop_succ_cons,List.drop_zero]
 refine zcp 7 ?_
 simp only [List.take_succ_cons,List.take_zero,List.drop_succ_cons,List.drop_zero]
 have qe:=aI qR (aI @qN (aI @hg @List.length_set.{0}));repeat' first|refine gC ?_ ?_<;>intro hc<;>try contradiction|refine gG ?_|show AK _;intro K H|refine H _ _ ?_;clear H K|refine gJ ?_;try exact trivial|omega
 refine znh 901 s.ls.length (xs:=s.ls.map Lea.pv) (by simp) (h3:=by simp;omega) (h:=?_)
 refine (show zcc _=true/\zi _ _ _ _ _ _ _ from ⟨rfl,?_⟩)
 refine zbN (zdw 901 (e:=91) (sz:=3) (xs:=s.ls.map Lea.pv++[l.pv]) rfl (λa0 c0=>[(0,.ep 900 P.length i0 0),(31,.ep 900 P.length i0 0),(38,.p (.rs a0 (s.ls.map Lea.pv++[l.pv]).length c0)),(1000900,.row 900 P.length),(1000901,.any)]) (λa0 c0=>[(900,.row 84 16 (P.set i0 (slL s i)) false)]) λa0 c0=>⟨?_,?_,?_,?_⟩) ?_
 ·exact ⟨.inl rfl,.inl rfl,.inr ⟨_,.inl (.inr ⟨rfl,rfl⟩),rfl⟩,.inl rfl,.inl rfl,trivial⟩
 ·exact ⟨.inl rfl,trivial⟩
 ·simp [scEnv,scP,zk]
 ·simp [scObj,scPs,scP,zk]
 rintro _ ⟨a0,c0,rfl⟩
 refine (show zi _ _ _ _ _ (St.mk _ _ [] false) _ from zE ?_)
 have hmp:(s.ls++[l]).map Lea.pv=s.ls.map Lea.pv++[l.pv]:=by simp
 have hml:(s.ls.map Lea.pv++[l.pv]).length=(s.ls++[l]).length:=by simp
 rw [hml]
 rw [<-hmp]
 have h1178:=zsk a0 c0 hsrt (by simp [zG]) (args':=[.p (.rs a0 (s.ls++[l]).length c0),.p (.fn (.func 143) [] [])]) ⟨.inr ⟨by rw [List.length_map],by rw [List.length_map]⟩,.inl ⟨_,rfl,rfl⟩,trivial⟩
 have hl1:(s.ls++[l]).length=s.ls.length+1:=by simp
 rw [hl1] at h1178 ⊢
 have qe:=aI qR (aI @qN (aI @hg (aI @zsc (aI @ze5 (aI @List.set_set.{0} (aI @List.length_set.{0} (aI @reN @reR)))))));repeat' first|refine gC ?_ ?_<;>intro hc<;>try contradiction|refine zl [(900,901)] (h1178) ?_|refine gG ?_|show AK _;intro K H|refine H _ _ ?_;clear H K|refine gJ ?_;try exact trivial|omega
 simp only [zn9]
 exact ⟨(a0,c0),.inl (.mkE)⟩
def lnC (b:Bk) (c n:ByteArray) (l:Lea):Int:=zfM b c n (zdD l) (lnE (zn b n) l)
def lnB (b:Bk) (c n:ByteArray) (l:Lea):Bk:=if lnC b c n l=0 then zo1 b n (lnS (zn b n) l) else bk0
theorem zuD {b:Bk} {c n:ByteArray} {l:Lea} (h:lnC b c n l≠0):lnB b c n l=bk0:=if_neg h
theorem zxj (b:Bk) (c n:ByteArray) (l:Lea) (hb:zfz b):Pure Tryz.prog 129 [b.pv,.s c,.s n,.i .i64 (zdD l),.fn (.func 138) [] [.ip l.pv 0]] (.tup [(lnB b c n l).pv,.i .i64 (lnC b c n l)]):=by
 by_cases hown:zhm b c n (zdD l)=0
 ·have hC:lnC b c n l=lnE (zn b n) l:=zvD hown
  have hsl:=zw1 hown
  have hok:=zj5 hb hsl
  have hi:zx b n < b.slots.length:=(List.getElem?_eq_some_iff.1 hsl).1
  have hi':zx b n < (b.slots.map Slt.pv).length:=by simpa using hi
  by_cases hE:lnE (zn b n) l=0
  ·have hf:=λi=>zsy (b.slots.map Slt.pv) (zx b n) hi' (zn b n) l hok hE i
   rw [show (b.slots.map Slt.pv).length=b.slots.length from List.length_map ..] at hf
   have h:=zkY (cf:=138) (caps:=[.ip l.pv 0]) (λi=>.rs i.1 (zn b n).ls.length i.2) (λ_=>.sl 1 ((zn b n).sh.map .s)) _ (slX (zn b n) (.sl 3 ((lnL (zn b n) l).map Lea.pv)) (.sl 1 ((zn b n).sh.map PV.s))) b c n (zdD l) 0 hb (λ_=>⟨rfl,rfl⟩) hown (zgm (zn b n) hok) hf λj=>.inr ⟨_,_,rfl,rfl,.inl rfl,.inl rfl,.inl rfl,.inl rfl,.inl rfl,.inl rfl,.inl rfl,.inl rfl,.inl rfl,.inl rfl,.inl rfl,.inl rfl,.inl rfl,.inl rfl,.inr ⟨rfl,rfl⟩,.inl rfl,trivial⟩
   rw [if_pos rfl] at h
   have hB:lnB b c n l=zo1 b n (lnS (zn b n) l):=by rw [lnB,hC,if_pos hE]
   rw [hC,hE,hB,zo1]
   show Pure _ _ _ (.tup [.agg [.sl 16 ((b.slots.set (zx b n) (lnS (zn b n) l)).map Slt.pv),.sl 14 (b.wait.map Wsh.pv)],.i .i64 0])
   rw [List.map_set]
   exact h
  ·have hf:=λi=>zpf (b.slots.map Slt.pv) (zx b n) hi' (zn b n) l hok hE i
   rw [show (b.slots.map Slt.pv).length=b.slots.length from List.length_map ..] at hf
   have h:=zkY (cf:=138) (caps:=[.ip l.pv 0]) (λi=>.rs i.1 (zn b n).ls.length i.2) (λ_=>.sl 1 ((zn b n).sh.map .s)) _ (zn b n).pv b c n (zdD l) (lnE (zn b n) l) hb (λ_=>⟨rfl,rfl⟩) hown (zgm (zn b n) hok) hf λj=>.inr ⟨_,_,rfl,rfl,.inl rfl,.inl rfl,.inl rfl,.inl rfl,.inl rfl,.inl rfl,.inl rfl,.inl rfl,.inl rfl,.inl rfl,.inl rfl,.inl rfl,.inl rfl,.inl rfl,.inr ⟨zob _ _ _ _,rfl⟩,.inl rfl,trivial⟩
   rw [if_neg hE] at h
   rw [zuD (by rw [hC];exact hE),hC]
   exact zat h (zbv _)
 ·have hC:lnC b c n l≠0:=by rw [lnC,zfM,za3 hown];exact hown
  rw [zuD hC]
  exact zvE b c n (zdD l) _ hb hown
theorem zqZ (b:Bk) (c n:ByteArray) (l:Lea) (hb:zfz b):Pure Tryz.prog 82 [b.pv,.s c,.s n,l.pv] (.tup [(lnB b c n l).pv,.i .i64 (lnC b c n l)]):=by
 have hch:=zxj b c n l hb
 refine zf (cF Tryz.func82 Tryz.f82.eq_1) (by simp) λhw X hX=>?_
 have qe:=aI qR @qN;repeat' first|refine gC ?_ ?_<;>intro hc<;>try contradiction|refine za (zkk l) ?_|refine zam (hch) ?_|refine gG ?_|show AK _;intro K H|refine H _ _ ?_;clear H K|refine gJ ?_;try exact trivial|omega
 exact .refl _
theorem zkq (b:Bk) (c n:ByteArray) (l:Lea) (hb:zF b=0->zfz b):Pure Tryz.prog 35 [b.pv,.s c,.s n,l.pv] (.tup [(zhl b (lnB b c n l) (lnC b c n l)).1.pv,.i .i64 (zhl b (lnB b c n l) (lnC b c n l)).2]):=by
 by_cases h:zF b=0
 ·have e1:(zF b=0)=True:=eq_true h
  rw [zhi h zuD]
  refine zf (cF Tryz.func35 Tryz.f35.eq_1) (by simp) λhw X hX=>?_
  have qe:=aI qR (aI @qN @e1);repeat' first|refine gC ?_ ?_<;>intro hc<;>try contradiction|refine za (zV b) ?_|refine za (zqZ b c n l (hb h)) ?_|refine gG ?_|show AK _;intro K H|refine H _ _ ?_;clear H K|refine gJ ?_;try exact trivial|omega
  exact .refl _
 ·have e1:(zF b=0)=False:=eq_false h
  rw [zeD h]
  refine zat (r:=.tup [.agg [.nilsl,.nilsl],.i .i64 (zF b)]) ?_ (zbv _)
  refine zf (cF Tryz.func35 Tryz.f35.eq_1) (by simp) λhw X hX=>?_
  have qe:=aI qR (aI @qN @e1);repeat' first|refine gC ?_ ?_<;>intro hc<;>try contradiction|refine za (zV b) ?_|refine gG ?_|show AK _;intro K H|refine H _ _ ?_;clear H K|refine gJ ?_;try exact trivial|omega
  exact .refl _
end Go.Proofs.YtijgimeokgbifaaGreat
