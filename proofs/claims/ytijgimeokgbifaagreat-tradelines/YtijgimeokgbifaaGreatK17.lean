/- Contracts of functions, for the claim. No conditions. -/
import Derived.Test.YtijgimeokgbifaaGreatK15
import Derived.Test.YtijgimeokgbifaaGreatK16
import Derived.Test.YtijgimeokgbifaaGreatK7
set_option linter.all false
set_option maxHeartbeats 8000000
set_option maxRecDepth 100000
namespace Go.Proofs.YtijgimeokgbifaaGreat
open Go.RowKit
theorem zj9 {ls:List Lim}:∀ {W:List Win} {a:Int},1<=a->(W.foldl (zb1 ls) a < 1↔∃ w ∈ W,zcx ls w.lim<=w.cnt)
 | [],a,h=>by simp;omega
 | w::r,a,h=>by
  rw [List.foldl_cons]
  by_cases hw:zcx ls w.lim<=w.cnt
  ·refine iff_of_true ?_ ⟨w,by simp,hw⟩
   have key:∀ (r:List Win) (b:Int),b < 1->r.foldl (zb1 ls) b < 1:=by
    intro r
    induction r with
    | nil=>intro b hb;exact hb
    | cons x r ih=>intro b hb;rw [List.foldl_cons];refine ih _ ?_;unfold zb1;omega
   exact key r _ (by unfold zb1;omega)
  ·rw [zj9 (W:=r) (a:=zb1 ls a w) (by unfold zb1;omega)]
   constructor
   ·rintro ⟨x,hx,hh⟩;exact ⟨x,by simp [hx],hh⟩
   ·rintro ⟨x,hx,hh⟩
    rcases List.mem_cons.1 hx with rfl|hx
    ·exact absurd hh hw
    ·exact ⟨x,hx,hh⟩
theorem znl {ls:List Lim} {m:List Mov} {o:Mov}:zwv ls m o < 1↔∃ w ∈ arW ls m o,zcx ls w.lim<=w.cnt:=zj9 (by decide)
theorem zyw {ls:List Lim} {m:List Mov} {o:Mov} {i:Nat} {l:Lim} {e:Nat} {b:Int} (hl:ls[i]?=some l) (hc:zac l o.kind o.term=true) (he:e < 2) (hb:b ∈ zL l (o.moment / 1440 - 1+e)) (h1:b<=o.moment) (h2:o.moment < b+l.len):(⟨i,b,zbs l m b⟩:Win) ∈ arW ls m o:=by
 refine List.mem_flatMap.2 ⟨i,List.mem_range.2 (List.getElem?_eq_some_iff.1 hl).1,?_⟩
 rw [arI,hl]
 simp only [arL,hc,if_true]
 refine List.mem_flatMap.2 ⟨e,List.mem_range.2 he,List.mem_flatMap.2 ⟨b,hb,?_⟩⟩
 rw [arB,if_pos ⟨h1,h2⟩];simp
theorem zxy {ls:List Lim} {m:List Mov} {r:Req} {v:Nat × Nat} (h:v ∈ evA ls m r):∃ (i:Nat) (l:Lim) (d:Int) (e:Nat) (b:Int),ls[i]?=some l/\zac l r.kind r.term=true/\d ∈ zW r.per/\e < 2/\b ∈ zL l (d - 1+e)/\l.most<=zbs l m b/\(v.1:Int)=max 0 (b - 1440*d)/\(v.2:Int)=min 1440 (b+l.len - 1440*d)/\v.1 < v.2:=by
 obtain ⟨i,_,h⟩:=List.mem_flatMap.1 h
 unfold evI at h
 split at h
 ·rename_i l hl
  unfold evL at h
  split at h
  ·rename_i hc
   obtain ⟨d,hd,h⟩:=List.mem_flatMap.1 h
   obtain ⟨e,he,h⟩:=List.mem_flatMap.1 h
   obtain ⟨b,hb,h⟩:=List.mem_flatMap.1 h
   unfold evB at h
   split at h
   ·cases h
   ·split at h
    ·simp only [List.mem_singleton] at h;subst h
     exact ⟨i,l,d,e,b,hl,hc,hd,List.mem_range.1 he,hb,by omega,by simp only;omega,by simp only;omega,by simp only;omega⟩
    ·cases h
  ·cases h
 ·cases h
theorem zxx {ls:List Lim} {m:List Mov} {r:Req} {i:Nat} {l:Lim} {d:Int} {e:Nat} {b:Int} (hl:ls[i]?=some l) (hc:zac l r.kind r.term=true) (hd:d ∈ zW r.per) (he:e < 2) (hb:b ∈ zL l (d - 1+e)) (hm:l.most<=zbs l m b) (hlt:max 0 (b - 1440*d) < min 1440 (b+l.len - 1440*d)):((max 0 (b - 1440*d)).toNat,(min 1440 (b+l.len - 1440*d)).toNat) ∈ evA ls m r:=by
 refine List.mem_flatMap.2 ⟨i,List.mem_range.2 (List.getElem?_eq_some_iff.1 hl).1,?_⟩
 rw [evI,hl]
 simp only [evL,hc,if_true]
 refine List.mem_flatMap.2 ⟨d,hd,List.mem_flatMap.2 ⟨e,List.mem_range.2 he,List.mem_flatMap.2 ⟨b,hb,?_⟩⟩⟩
 rw [evB,if_neg (by omega),if_pos hlt];simp
theorem zqe {ls:List Lim} {m:List Mov} {r:Req} {n:Int} (h0:0<=n) (h1:n < 1440):(!zsE (evA ls m r) n.toNat)=zow ls m (r.at n):=by
 rw [Bool.eq_iff_iff,Bool.not_eq_true',<-Bool.not_eq_true,zsE,List.any_eq_true,zow,List.all_eq_true]
 constructor
 ·intro h o ho
  obtain ⟨d,hd,rfl⟩:=List.mem_map.1 ho
  simp only [Bool.not_eq_true',decide_eq_false_iff_not]
  intro hlt
  obtain ⟨w,hw,hf⟩:=znl.1 hlt
  obtain ⟨i,l,hwi,hli,hwc,hcl,hb1,hb2,e,he,hbb⟩:=zs9 hw
  have hma:zcx ls w.lim=l.most:=by rw [zcx,hwi,Int.toNat_natCast,hli]
  have hD:(zeh (r.at n) d).moment / 1440=d:=by simp only [zeh,Req.at];omega
  have hM:(zeh (r.at n) d).moment=1440*d+n:=rfl
  rw [hD] at hbb
  rw [hM] at hb1 hb2
  refine h ⟨_,zxx (m:=m) (r:=r) hli hcl hd he hbb (by omega) (by omega),?_⟩
  simp only [zsR,Bool.and_eq_true,decide_eq_true_eq];omega
 ·rintro h ⟨v,hv,hh⟩
  obtain ⟨i,l,d,e,b,hli,hcl,hd,he,hbb,hm,hv1,hv2,hv3⟩:=zxy hv
  simp only [zsR,Bool.and_eq_true,decide_eq_true_eq] at hh
  have hD:(zeh (r.at n) d).moment / 1440=d:=by simp only [zeh,Req.at];omega
  have hM:(zeh (r.at n) d).moment=1440*d+n:=rfl
  have:=h (zeh (r.at n) d) (List.mem_map.2 ⟨d,hd,rfl⟩)
  simp only [Bool.not_eq_true',decide_eq_false_iff_not] at this
  refine this (znl.2 ⟨_,zyw (m:=m) (o:=zeh (r.at n) d) hli hcl he (by rw [hD];exact hbb) (by rw [hM];omega) (by rw [hM];omega),?_⟩)
  simp only [zcx,Int.toNat_natCast,hli];exact hm
theorem znT {P:List (Nat × Nat)} {j:Nat} (hj:j < 1440):(ziz P 1440)[j]?=some (zsE P j):=by rw [zgO hj,decide_eq_true hj,Bool.true_and]
theorem zqt (ls:List Lim) (m:List Mov) (r:Req) (n:Int) (h0:0<=n) (h1:n < 1440):Pure Tryz.prog 241 [.ip (.agg ((ziz (evA ls m r) 1440).map PV.b)) 0,.i .i64 n] (.b (zow ls m (r.at n))):=by
 have:=zuk (ziz (evA ls m r) 1440) (zb4 _ _) n.toNat _ (znT (by omega))
 rw [zqe h0 h1,Int.toNat_of_nonneg h0] at this
 exact this
theorem zvO (r:Req):r.at r.minute=r:=rfl
abbrev fitC (ls:List Lim) (m:List Mov) (r:Req):Int:=zg [zo6 ls m,zdC r]
def zjz (ls:List Lim) (m:List Mov) (r:Req):Bool:=decide (fitC ls m r=0) && zow ls m r
theorem zwW (ls:List Lim) (m:List Mov) (r:Req):Pure Tryz.prog 187 [.sl 11 (ls.map Lim.pv),.sl 7 (m.map Mov.pv),r.pv] (.tup [.b (zjz ls m r),.i .i64 (fitC ls m r)]):=by
 refine zf (cF Tryz.func187 Tryz.f187.eq_1) (by simp) λhw X hX=>?_
 have qe:=@qR;repeat' first|refine gC ?_ ?_<;>intro hc<;>try contradiction|refine za (zsG ls m) ?_|refine za (zsJ r) ?_|refine za (zbw [_,_]) ?_|refine gG ?_|show AK _;intro K H|refine H _ _ ?_;clear H K|refine gJ ?_;try exact trivial|omega
 ·have e:zjz ls m r=false:=by unfold zjz;rw [decide_eq_false hc,Bool.false_and]
  rw [e];exact .refl _
 ·have h1:zo6 ls m=0/\zdC r=0/\True:=⟨(zp.1 hc).1,(zp.1 (zp.1 hc).2).1,trivial⟩
  have h2:=zeC h1.2.1
  have h0:fitC ls m r=0:=hc
  have qe:=@qR;repeat' first|refine gC ?_ ?_<;>intro hc<;>try contradiction|refine za (zul ls m r h1.1 h1.2.1) ?_|refine za (zqt ls m r r.minute h2.2.1 (by omega)) ?_|refine gG ?_|show AK _;intro K H|refine H _ _ ?_;clear H K|refine gJ ?_;try exact trivial|omega
  have e:zjz ls m r=zow ls m r:=by unfold zjz;rw [decide_eq_true h0,Bool.true_and]
  rw [e,h0,zvO];exact .refl _
theorem zvR (l:List Lea):l.all ((λx=>x.cells.all PV.one) ∘ Lea.pv)=true:=by rw [List.all_eq_true];intro x _;rfl
theorem allSt (l:List ByteArray):l.all ((λx=>x.cells.all PV.one) ∘ PV.s)=true:=by rw [List.all_eq_true];intro x _;rfl
theorem zla (L:List Lea) (hn:L.length*32<=140737488355328):Acts Tryz.prog 190 [.p (.sl 3 (L.map Lea.pv))] [] (.row 5 L.length) [(5,.row 91 3 (L.map Lea.pv) false)]:=by
 have hA:=λl=>eq_true (zvR l)
 refine zR (cF Tryz.func190 Tryz.f190.eq_1) (by simp) (by simp [scPs,scP]) (by simp [scObj]) trivial (by simp [scObj]) trivial λX hX=>?_
 unfold zD ghO
 have qe:=aI qR (aI @hA (aI @rtN @rtR));repeat' first|refine gC ?_ ?_<;>intro hc<;>try contradiction|refine zdQ λb hb=>?_|refine gG ?_|show AK _;intro K H|refine H _ _ ?_;clear H K|refine gJ ?_;try exact trivial|omega
 ·have e:L=[]:=by simpa using hb hc
  subst e
  exact .inr ⟨5,91,3,[(2,.row 5 0)],[],by simp only [Own,zaM,zaB,zbt,zay,qS,seval],.mk1⟩
 ·exact .inl .mk1
theorem zk9 (L:List ByteArray) (hn:L.length*16<=140737488355328):Acts Tryz.prog 191 [.p (.sl 1 (L.map .s))] [] (.row 5 L.length) [(5,.row 9 1 (L.map .s) false)]:=by
 have hA:=λl=>eq_true (allSt l)
 refine zR (cF Tryz.func191 Tryz.f191.eq_1) (by simp) (by simp [scPs,scP]) (by simp [scObj]) trivial (by simp [scObj]) trivial λX hX=>?_
 unfold zD ghO
 have qe:=aI qR (aI @hA (aI @rtN @rtR));repeat' first|refine gC ?_ ?_<;>intro hc<;>try contradiction|refine zdQ λb hb=>?_|refine gG ?_|show AK _;intro K H|refine H _ _ ?_;clear H K|refine gJ ?_;try exact trivial|omega
 ·have e:L=[]:=by simpa using hb hc
  subst e
  exact .inr ⟨5,9,1,[(2,.row 5 0)],[],by simp only [Own,zaM,zaB,zbt,zay,qS,seval],.mk1⟩
 ·exact .inl .mk1
def cutE (d:Int) (l:Lea):Lea:=⟨l.carrier,l.fro,min l.to d⟩
def zs1 (d:Int) (l:Lea):List Lea:=if l.to<=d\/l.fro<=min l.to d then [cutE d l] else []
def zhh (d:Int) (L:List Lea):List Lea:=L.flatMap (zs1 d)
theorem zoR {d:Int} {L:List Lea} {k:Nat} {x:Lea} (h:L[k]?=some x):zhh d (L.take (k+1))=zhh d (L.take k)++zs1 d x:=by
 rw [zan h,zhh,List.flatMap_append];simp [zhh]
theorem zkT (d:Int) (L:List Lea):(zhh d L).length<=L.length:=by
 induction L with
 | nil=>simp [zhh]
 | cons x r ih=>
  have:(zs1 d x).length<=1:=by unfold zs1;split<;>simp
  simp only [zhh,List.flatMap_cons,List.length_append,List.length_cons] at ih ⊢;omega
theorem zgH (L:List Lea) (d:Int) (hn:L.length<=1000000):Pure Tryz.prog 131 [.sl 3 (L.map Lea.pv),.i .i64 d] (.sl 3 ((zhh d L).map Lea.pv)):=by
 refine zf (cF Tryz.func131 Tryz.f131.eq_1) (by simp) λhw X hX=>?_
 repeat' first|refine gC ?_ ?_<;>intro hc<;>try contradiction|refine gG ?_|show AK _;intro K H|refine H _ _ ?_;clear H K|refine gJ ?_;try exact trivial|omega
 refine zaP 100 91 3 [(1,.p (.i .i64 d)),(5,.row 100 0),(9,.p (.sl 3 (L.map Lea.pv))),(10,.p (.i .i64 L.length)),(11,.p (.i .i64 0))] [] ?_ ?_
 ·simp only [Own,zaM,zaB,zbt,zay,qS,seval]
 refine zj (κ:=Nat) (λk=>⟨[(1,.p (.i .i64 d)),(5,.row 100 (zhh d (L.take k)).length),(9,.p (.sl 3 (L.map Lea.pv))),(10,.p (.i .i64 L.length)),(11,.p (.i .i64 k))],[(100,.row 91 3 ((zhh d (L.take k)).map Lea.pv) false)],[],false⟩) (λk=>k<=L.length) (λk=>L.length - k) 0 ?_ ?_ ?_
 ·refine gJ ?_;simp [zhh]
 ·simp
 ·intro k hk
  have hl:(zhh d (L.take k)).length<=k:=by have:=zkT d (L.take k);rw [List.length_take] at this;omega
  repeat first|refine gG ?_|show AK _;intro K H|refine H _ _ ?_;clear H K|refine gJ ?_;try exact trivial|omega
  (refine gC ?_ ?_<;>intro hc<;>try contradiction)
  ·obtain ⟨x,hx⟩:=zm (i:=k) (l:=L) (by omega)
   have hnx:=zoR (d:=d) hx
   have qe:=aI qR @hx;repeat' first|refine gC ?_ ?_<;>intro hc<;>try contradiction|refine gG ?_|show AK _;intro K H|refine H _ _ ?_;clear H K|refine gJ ?_;try exact trivial|omega
   ·have hi:zs1 d x=[cutE d x]:=by rw [zs1,if_pos (by omega)]
    rw [hi] at hnx
    exact ⟨k+1,by omega,by omega,⟨by rw [hnx];simp,by simp⟩,by rw [hnx];simp [cutE]⟩
   ·have hi:zs1 d x=[]:=by rw [zs1,if_neg (by omega)]
    rw [hi,List.append_nil] at hnx
    exact ⟨k+1,by omega,by omega,⟨by rw [hnx],by simp⟩,by rw [hnx]⟩
  ·repeat' first|refine gC ?_ ?_<;>intro hc<;>try contradiction|refine gG ?_|show AK _;intro K H|refine H _ _ ?_;clear H K|refine gJ ?_;try exact trivial|omega
   have e:k=L.length:=by omega
   subst e;rw [List.take_length];exact .refl _
def zlc (s:Slt):Prop:=s.ls.length<=1000/\s.sh.length<=1000
theorem zaf (k n:Nat) (r:List LV):zej (.row k n::r)=none:=rfl
theorem zgE (s:Slt) (h:zlc s):Pure Tryz.prog 189 [s.pv] s.pv:=by
 obtain ⟨h1,h2⟩:=h
 refine zf (cF Tryz.func189 Tryz.f189.eq_1) (by simp) λhw X hX=>?_
 have qe:=aI qR (aI @qN @zaf);repeat' first|refine gC ?_ ?_<;>intro hc<;>try contradiction|refine zl [(5,105)] (zla s.ls (by omega)) ?_|refine zl [(5,106)] (zk9 s.sh (by omega)) ?_|refine gG ?_|show AK _;intro K H|refine H _ _ ?_;clear H K|refine gJ ?_;try exact trivial|omega
 exact .refl _
theorem zsu (L:List Slt) (hs:∀ s ∈ L,zlc s) (hn:L.length<=1000000):Acts Tryz.prog 188 [.p (.sl 16 (L.map Slt.pv)),.p (.fn (.func 189) [] [])] [] (.row 100 L.length) [(100,.row 84 16 (L.map Slt.pv) false)]:=by
 refine zR (cF Tryz.func188 Tryz.f188.eq_1) (by simp) (by simp [scPs,scP]) (by simp [scObj]) trivial (by simp [scObj]) trivial λX hX=>?_
 unfold zD ghO
 have qe:=aI qR (aI @List.map_nil.{0,0} @List.append_nil.{0});repeat' first|refine gC ?_ ?_<;>intro hc<;>try contradiction|refine gG ?_|show AK _;intro K H|refine H _ _ ?_;clear H K|refine gJ ?_;try exact trivial|omega
 refine zaP 100 84 16 [(1,.p (.fn (.func 189) [] [])),(5,.row 100 0),(8,.p (.sl 16 (L.map Slt.pv))),(9,.p (.i .i64 L.length)),(10,.p (.i .i64 0))] [] ?_ ?_
 ·simp only [Own,zaM,zaB,zbt,zay,qS,seval]
 refine zj (κ:=Nat) (λk=>⟨[(1,.p (.fn (.func 189) [] [])),(5,.row 100 k),(8,.p (.sl 16 (L.map Slt.pv))),(9,.p (.i .i64 L.length)),(10,.p (.i .i64 k))],[(100,.row 84 16 ((L.take k).map Slt.pv) false)],[],false⟩) (λk=>k<=L.length) (λk=>L.length - k) 0 ?_ ?_ ?_
 ·exact sS
 ·simp
 ·intro k hk
  repeat first|refine gG ?_|show AK _;intro K H|refine H _ _ ?_;clear H K|refine gJ ?_;try exact trivial|omega
  (refine gC ?_ ?_<;>intro hc<;>try contradiction)
  ·obtain ⟨x,hx⟩:=zm (i:=k) (l:=L) (by omega)
   have hl:(L.take k).length=k:=by rw [List.length_take];omega
   have qe:=aI qR (aI @hx @hl);repeat' first|refine gC ?_ ?_<;>intro hc<;>try contradiction|refine zq (zgE x (hs x (List.mem_of_getElem? hx))) ?_|refine gG ?_|show AK _;intro K H|refine H _ _ ?_;clear H K|refine gJ ?_;try exact trivial|omega
   exact ⟨k+1,by omega,by omega,by simp,by rw [zan hx];simp;omega⟩
  ·obtain rfl:k=L.length:=by omega
   have qe:=aI qR (aI @rtN (aI @rtR @List.take_length.{0}));repeat' first|refine gC ?_ ?_<;>intro hc<;>try contradiction|refine gG ?_|show AK _;intro K H|refine H _ _ ?_;clear H K|refine gJ ?_;try exact trivial|omega
   exact .inl .mk1
theorem zvQ (l:List Wsh):l.all ((λx=>x.cells.all PV.one) ∘ Wsh.pv)=true:=by rw [List.all_eq_true];intro x _;rfl
theorem zbC (L:List Slt) (W:List Wsh) (hs:∀ s ∈ L,zlc s) (hn:L.length<=1000000) (hW:W.length<=1000000) :
  Acts Tryz.prog 117 [.p (.agg [.sl 16 (L.map Slt.pv),.sl 14 (W.map Wsh.pv)])] [] (.agg [.row 100 L.length,.row 7 W.length]) [(100,.row 84 16 (L.map Slt.pv) false),(7,.row 73 14 (W.map Wsh.pv) false)]:=by
 have hA:=λl=>eq_true (zvQ l)
 have hT:List.take W.length (W.map Wsh.pv)=W.map Wsh.pv:=by rw [List.take_of_length_le];simp
 have hD:∀ x:PV,List.drop W.length (List.replicate W.length x)=[]:=λx=>by simp
 refine zR (cF Tryz.func117 Tryz.f117.eq_1) (by simp) (by simp [scPs,scP]) (by simp [scObj]) trivial (by simp [scObj]) trivial λX hX=>?_
 unfold zD ghO
 have qe:=aI qR (aI @hA (aI @hT (aI @hD (aI @Nat.min_self (aI @qN (aI @zaf (aI @rtN (aI @rtR (aI @List.map_nil.{0,0} @List.append_nil.{0})))))))));repeat' first|refine gC ?_ ?_<;>intro hc<;>try contradiction|refine zdR [(100,100)] (zsu L hs hn) ?_|refine gG ?_|show AK _;intro K H|refine H _ _ ?_;clear H K|refine gJ ?_;try exact trivial|omega
 refine zcp 1 ?_
 have qe:=@qR;repeat' first|refine gC ?_ ?_<;>intro hc<;>try contradiction|refine gG ?_|show AK _;intro K H|refine H _ _ ?_;clear H K|refine gJ ?_;try exact trivial|omega
 refine zfS (us:=[.row 100 L.length,.row 7 W.length]) (zs:=[.row 100 L.length,.row 7 W.length]) (sE) (sE) (by simp only [fillLOk]<;>simp [LV.cells,LV.known,qS,seval]) rfl (zE ?_)
 have qe:=aI qR (aI @hT (aI @hD (aI @List.append_nil.{0} (aI @rtN (aI @rtR (aI @zaf (@List.length_map.{0,0})))))));repeat' first|refine gC ?_ ?_<;>intro hc<;>try contradiction|refine gG ?_|show AK _;intro K H|refine H _ _ ?_;clear H K|refine gJ ?_;try exact trivial|omega
 exact .inl .mk
end Go.Proofs.YtijgimeokgbifaaGreat
