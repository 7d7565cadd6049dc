/- Contracts of functions, for the claim. No conditions. -/
import Derived.Test.YtijgimeokgbifaaGreatK24
import Derived.Test.YtijgimeokgbifaaGreatK26
set_option linter.all false
set_option maxHeartbeats 8000000
set_option maxRecDepth 100000
namespace Go.Proofs.YtijgimeokgbifaaGreat
open Go.RowKit
abbrev slX (s:Slt) (p q:PV):PV:=.agg [.s s.req.name,.s s.req.carrier,.s s.req.kind,.s s.req.term,.s s.req.partner,.s s.req.link,.i .i64 s.req.per.fro,.i .i64 s.req.per.to,.i .i64 s.req.per.days,.i .i64 s.req.minute,.i .i64 s.req.seats,.i .i64 s.req.size,.i .i64 s.req.noise,.s s.holder,p,q]
abbrev slL (s:Slt) (i:Option Addr × Nat):PV:=slX s (.rs i.1 s.ls.length i.2) (.sl 1 (s.sh.map .s))
theorem zgm (s:Slt) (h:zlc s):ActsE Tryz.prog 189 [.p s.pv] [] (λi=>.p (slL s i)) (λi:Option Addr × Nat=>[(105,.hrow 91 3 (s.ls.map Lea.pv) i.1 i.2)]):=by
 obtain ⟨h1,h2⟩:=h
 refine zdF (cF Tryz.func189 Tryz.f189.eq_1) (by simp) (by simp [scPs,scP]) (by simp [scObj]) trivial (λi=>by simp [scObj]) (λi=>by simp [zc2]) λX hX=>?_
 unfold zD ghO
 refine zgx (zna ⟨[(1,.lp 1 0),(2,.lp 2 0)],[(1,.box [.p (.s s.req.name),.p (.s s.req.carrier),.p (.s s.req.kind),.p (.s s.req.term),.p (.s s.req.partner),.p (.s s.req.link),.p (.i .i64 s.req.per.fro),.p (.i .i64 s.req.per.to),.p (.i .i64 s.req.per.days),.p (.i .i64 s.req.minute),.p (.i .i64 s.req.seats),.p (.i .i64 s.req.size),.p (.i .i64 s.req.noise),.p (.s s.holder),.p (.sl 3 (s.ls.map Lea.pv)),.p (.sl 1 (s.sh.map .s))] false),(2,.box [.p (.s (bs [])),.p (.s (bs [])),.p (.s (bs [])),.p (.s (bs [])),.p (.s (bs [])),.p (.s (bs [])),.p (.i .i64 0),.p (.i .i64 0),.p (.i .i64 0),.p (.i .i64 0),.p (.i .i64 0),.p (.i .i64 0),.p (.i .i64 0),.p (.s (bs [])),.p .nilsl,.p .nilsl] false)],[],false⟩ ?_ (zgx (zna ⟨[(1,.lp 1 0),(2,.lp 2 0)],[(1,.box [.p (.s s.req.name),.p (.s s.req.carrier),.p (.s s.req.kind),.p (.s s.req.term),.p (.s s.req.partner),.p (.s s.req.link),.p (.i .i64 s.req.per.fro),.p (.i .i64 s.req.per.to),.p (.i .i64 s.req.per.days),.p (.i .i64 s.req.minute),.p (.i .i64 s.req.seats),.p (.i .i64 s.req.size),.p (.i .i64 s.req.noise),.p (.s s.holder),.row 105 s.ls.length,.row 106 s.sh.length] false),(2,.box [.p (.s (bs [])),.p (.s (bs [])),.p (.s (bs [])),.p (.s (bs [])),.p (.s (bs [])),.p (.s (bs [])),.p (.i .i64 0),.p (.i .i64 0),.p (.i .i64 0),.p (.i .i64 0),.p (.i .i64 0),.p (.i .i64 0),.p (.i .i64 0),.p (.s (bs [])),.p .nilsl,.p .nilsl] false),(105,.row 91 3 (s.ls.map Lea.pv) false),(106,.row 9 1 (s.sh.map .s) false)],[],false⟩ ?_ ?_)))
 ·have qe:=@qR;repeat' first|refine gC ?_ ?_<;>intro hc<;>try contradiction|refine gG ?_|show AK _;intro K H|refine H _ _ ?_;clear H K|refine gJ ?_;try exact trivial|omega
  all_goals (show Cov _ _;simp only [qS,seval]<;>simp)
 ·have qe:=aI qR (aI @qN (aI @zaf (aI @List.map_nil.{0,0} @List.append_nil.{0})));repeat' first|refine gC ?_ ?_<;>intro hc<;>try contradiction|refine zl [(5,105)] (zla s.ls (by omega)) ?_|refine zl [(5,106)] (zk9 s.sh (by omega)) ?_|refine gG ?_|show AK _;intro K H|refine H _ _ ?_;clear H K|refine gJ ?_;try exact trivial|omega
  all_goals (show Cov _ _;simp only [qS,seval]<;>simp)
 refine zlu (zdw 105 (e:=91) (sz:=3) (xs:=s.ls.map Lea.pv) rfl (λa0 c0=>[(1,.lp 1 0),(2,.lp 2 0)]) (λa0 c0=>[(1,.box [.p (.s s.req.name),.p (.s s.req.carrier),.p (.s s.req.kind),.p (.s s.req.term),.p (.s s.req.partner),.p (.s s.req.link),.p (.i .i64 s.req.per.fro),.p (.i .i64 s.req.per.to),.p (.i .i64 s.req.per.days),.p (.i .i64 s.req.minute),.p (.i .i64 s.req.seats),.p (.i .i64 s.req.size),.p (.i .i64 s.req.noise),.p (.s s.holder),.p (.rs a0 (s.ls.map Lea.pv).length c0),.row 106 s.sh.length] false),(2,.box [.p (.s (bs [])),.p (.s (bs [])),.p (.s (bs [])),.p (.s (bs [])),.p (.s (bs [])),.p (.s (bs [])),.p (.i .i64 0),.p (.i .i64 0),.p (.i .i64 0),.p (.i .i64 0),.p (.i .i64 0),.p (.i .i64 0),.p (.i .i64 0),.p (.s (bs [])),.p .nilsl,.p .nilsl] false),(106,.row 9 1 (s.sh.map .s) false)]) λa0 c0=>⟨⟨.inl rfl,.inl rfl,trivial⟩,⟨.inr ⟨_,rfl,_,_,_,rfl,rfl,.inl rfl,.inl rfl,.inl rfl,.inl rfl,.inl rfl,.inl rfl,.inl rfl,.inl rfl,.inl rfl,.inl rfl,.inl rfl,.inl rfl,.inl rfl,.inl rfl,.inr ⟨by show LV.row 105 _=LV.row 105 _;simp,rfl⟩,.inl rfl,trivial⟩,.inl rfl,.inl rfl,trivial⟩,by simp [scEnv,scP,zk],by simp [scObj,scPs,scP,zk]⟩) ?_
 rintro _ ⟨a0,c0,rfl⟩
 refine (show Run _ _ (St.mk _ _ [] false) _ from ?_)
 have qe:=aI qR (aI @zaf (aI @reN (aI @reR (@List.length_map.{0,0}))));repeat' first|refine gC ?_ ?_<;>intro hc<;>try contradiction|refine gG ?_|show AK _;intro K H|refine H _ _ ?_;clear H K|refine gJ ?_;try exact trivial|omega
 exact ⟨(a0,c0),.inl (.mkP)⟩
theorem zpH {L:List Slt} {k:Nat} {x:Slt} (h:L[k]?=some x) (v:PV):((L.take (k+1)).map Slt.pv).set k v=(L.take k).map Slt.pv++[v]:=by
 have hk:k < L.length:=(List.getElem?_eq_some_iff.1 h).1
 rw [zan h,List.map_append,List.map_singleton,List.set_append_right _ _ (by simp;omega)]
 simp [Nat.min_eq_left (Nat.le_of_lt hk)]
theorem zmK {L:List Slt} {k i0:Nat} {x:Slt} (hi:i0 < k) (h:L[k]?=some x) (v:PV):((L.take (k+1)).map Slt.pv).set i0 v=((L.take k).map Slt.pv).set i0 v++[x.pv]:=by
 have hk:k < L.length:=(List.getElem?_eq_some_iff.1 h).1
 rw [zan h,List.map_append,List.map_singleton,List.set_append_left _ _ (by simp;omega)]
theorem zmz {e sz:Nat} {xs:List PV} (p q:HD->PV) (L:List Slt) (i0:Nat) (s:Slt) (h0:L[i0]?=some s) (hs:∀ s ∈ L,zlc s) (hn:L.length<=1000000) (h1:∀ i,(p i).one=true/\(q i).one=true)
  (hf:ActsE Tryz.prog 189 [.p s.pv] [] (λi=>.p (slX s (p i) (q i))) (λi=>[(105,.hrow e sz xs i.1 i.2)])) :
  ActsE Tryz.prog 188 [.p (.sl 16 (L.map Slt.pv)),.p (.fn (.func 189) [] [])] [] (λ_=>.row 100 L.length) (λi=>[(100,.row 84 16 ((L.map Slt.pv).set i0 (slX s (p i) (q i))) false),(305,.hrow e sz xs i.1 i.2)]):=by
 have hi0:i0 < L.length:=(List.getElem?_eq_some_iff.1 h0).1
 refine zdF (cF Tryz.func188 Tryz.f188.eq_1) (by simp) (by simp [scPs,scP]) (by simp [scObj]) trivial (λi=>by simp [scObj]) (λi=>by simp [zc2]) λX hX=>?_
 unfold zD ghO
 have qe:=aI qR (aI @List.map_nil.{0,0} @List.append_nil.{0});repeat' first|refine gC ?_ ?_<;>intro hc<;>try contradiction|refine gG ?_|show AK _;intro K H|refine H _ _ ?_;clear H K|refine gJ ?_;try exact trivial|omega
 refine zaP 100 84 16 [(1,.p (.fn (.func 189) [] [])),(5,.row 100 0),(8,.p (.sl 16 (L.map Slt.pv))),(9,.p (.i .i64 L.length)),(10,.p (.i .i64 0))] [] ?_ ?_
 ·simp only [Own,zaM,zaB,zbt,zay,qS,seval]
 refine zm6 (λk=>⟨[(1,.p (.fn (.func 189) [] [])),(5,.row 100 k),(8,.p (.sl 16 (L.map Slt.pv))),(9,.p (.i .i64 L.length)),(10,.p (.i .i64 k))],[(100,.row 84 16 ((L.take k).map Slt.pv) false)],[],false⟩)
  (λk i=>⟨[(1,.p (.fn (.func 189) [] [])),(5,.row 100 k),(8,.p (.sl 16 (L.map Slt.pv))),(9,.p (.i .i64 L.length)),(10,.p (.i .i64 k))],[(100,.row 84 16 (((L.take k).map Slt.pv).set i0 (slX s (p i) (q i))) false),(305,.hrow e sz xs i.1 i.2)],[],false⟩) L.length i0 hi0 ?_ (λk hk=>?_) ?_ (λk i hk hkn=>?_) (λi=>?_)
 ·exact sS
 ·obtain ⟨x,hx⟩:=zm (i:=k) (l:=L) (by omega)
  have hl:(L.take k).length=k:=by rw [List.length_take];omega
  have hlt:=eq_true (show (k:Int) < (L.length:Int) by omega)
  have qe:=aI qR (aI @hx (aI @hl (aI @hlt (aI @decide_true @nk_n))));repeat' first|refine gC ?_ ?_<;>intro hc<;>try contradiction|refine zq (zgE x (hs x (List.mem_of_getElem? hx))) ?_|refine gG ?_|show AK _;intro K H|refine H _ _ ?_;clear H K|refine gJ ?_;try exact trivial|omega
  exact ⟨rfl,by rw [zan hx];simp,by simp;omega⟩
 ·have hl:(L.take i0).length=i0:=by rw [List.length_take];omega
  have hlt:=eq_true (show (i0:Int) < (L.length:Int) by omega)
  have qe:=aI qR (aI @h0 (aI @hl (aI @hlt (aI @decide_true @nk_n))));repeat' first|refine gC ?_ ?_<;>intro hc<;>try contradiction|refine gG ?_|show AK _;intro K H|refine H _ _ ?_;clear H K|refine gJ ?_;try exact trivial|omega
  refine zeL [(105,305)] (hf:=hf) (hn:=λi=>?_)
  obtain ⟨h1a,h1b⟩:=h1 i
  have qe:=aI qR (aI @qN (aI @hl (aI @ze5 (aI @h1a (aI @h1b @nk_n)))));repeat' first|refine gC ?_ ?_<;>intro hc<;>try contradiction|refine gG ?_|show AK _;intro K H|refine H _ _ ?_;clear H K|refine gJ ?_;try exact trivial|omega
  exact ⟨i,rfl,⟨by rw [zpH h0],rfl⟩,by simp;omega,by simp [scObj]⟩
 ·obtain ⟨x,hx⟩:=zm (i:=k) (l:=L) (by omega)
  have hl:(L.take k).length=k:=by rw [List.length_take];omega
  have hlt:=eq_true (show (k:Int) < (L.length:Int) by omega)
  have qe:=aI qR (aI @hx (aI @hl (aI @hlt (aI @decide_true (aI @List.length_set.{0} @nk_n)))));repeat' first|refine gC ?_ ?_<;>intro hc<;>try contradiction|refine zq (zgE x (hs x (List.mem_of_getElem? hx))) ?_|refine gG ?_|show AK _;intro K H|refine H _ _ ?_;clear H K|refine gJ ?_;try exact trivial|omega
  exact ⟨rfl,by rw [zmK hk hx],by simp;omega,by simp [scObj]⟩
 ·have hlt:=eq_false (show ¬(L.length:Int) < (L.length:Int) by omega)
  have qe:=aI qR (aI @hlt (aI @decide_false (aI @nk_e (aI @reN (aI @reR (aI @List.take_length.{0} @List.length_set.{0}))))));repeat' first|refine gC ?_ ?_<;>intro hc<;>try contradiction|refine gG ?_|show AK _;intro K H|refine H _ _ ?_;clear H K|refine gJ ?_;try exact trivial|omega
  exact ⟨i,.inl .mkE⟩
theorem zmA {e sz:Nat} {xs:List PV} (p q:HD->PV) (L:List Slt) (W:List Wsh) (i0:Nat) (s:Slt) (h0:L[i0]?=some s) (hs:∀ s ∈ L,zlc s) (hn:L.length<=1000000) (hW:W.length<=1000000) (h1:∀ i,(p i).one=true/\(q i).one=true)
  (hf:ActsE Tryz.prog 189 [.p s.pv] [] (λi=>.p (slX s (p i) (q i))) (λi=>[(105,.hrow e sz xs i.1 i.2)])) :
  ActsE Tryz.prog 117 [.p (.agg [.sl 16 (L.map Slt.pv),.sl 14 (W.map Wsh.pv)])] [] (λ_=>.agg [.row 100 L.length,.row 7 W.length]) (λi=>[(100,.row 84 16 ((L.map Slt.pv).set i0 (slX s (p i) (q i))) false),(7,.row 73 14 (W.map Wsh.pv) false),(305,.hrow e sz xs i.1 i.2)]):=by
 have hA:=λl=>eq_true (zvQ l)
 have hT:List.take W.length (W.map Wsh.pv)=W.map Wsh.pv:=by rw [List.take_of_length_le];simp
 have hD:∀ x:PV,List.drop W.length (List.replicate W.length x)=[]:=λx=>by simp
 refine zdF (cF Tryz.func117 Tryz.f117.eq_1) (by simp) (by simp [scPs,scP]) (by simp [scObj]) trivial (λi=>by simp [scObj]) (λi=>by simp [zc2]) λX hX=>?_
 unfold zD ghO
 have qe:=aI qR (aI @hA (aI @hT (aI @hD (aI @Nat.min_self (aI @qN (aI @zaf (aI @rtN (aI @rtR (aI @List.map_nil.{0,0} @List.append_nil.{0})))))))));repeat' first|refine gC ?_ ?_<;>intro hc<;>try contradiction|refine gG ?_|show AK _;intro K H|refine H _ _ ?_;clear H K|refine gJ ?_;try exact trivial|omega
 refine zlx [(100,100),(305,305)] (hf:=zmz p q L i0 s h0 hs hn h1 hf) (hn:=λi=>?_)
 refine zcp 1 ?_
 have qe:=aI qR (aI @qN @ze5);repeat' first|refine gC ?_ ?_<;>intro hc<;>try contradiction|refine gG ?_|show AK _;intro K H|refine H _ _ ?_;clear H K|refine gJ ?_;try exact trivial|omega
 refine zfS (us:=[.row 100 L.length,.row 7 W.length]) (zs:=[.row 100 L.length,.row 7 W.length]) (sE) (sE) (by simp only [fillLOk]<;>simp [LV.cells,LV.known,za7,rn,rens,LV.ren,LObj.ren,qS,seval]) rfl (zE ?_)
 have qe:=aI qR (aI @qN (aI @ze5 (aI @hT (aI @hD (aI @List.append_nil.{0} (aI @reN (aI @reR (aI @zaf (aI @List.length_map.{0,0} @List.length_set.{0})))))))));repeat' first|refine gC ?_ ?_<;>intro hc<;>try contradiction|refine gG ?_|show AK _;intro K H|refine H _ _ ?_;clear H K|refine gJ ?_;try exact trivial|omega
 all_goals exact ⟨i,.inl .mk⟩
theorem zw1 {b:Bk} {c n:ByteArray} {e:Int} (h:zhm b c n e=0):b.slots[zx b n]?=some (zn b n):=(za8 h).2.1
theorem findX (b:Bk) (n:ByteArray) (i0:Nat) (s:Slt) (p q:PV) (h0:b.slots[i0]?=some s):Pure Tryz.prog 81 [.agg [.sl 16 ((b.slots.map Slt.pv).set i0 (slX s p q)),.sl 14 (b.wait.map Wsh.pv)],.s n] (.i .i64 (atL n (b.slots.map (·.req.name)))):=by
 have h:=zes ((b.slots.map Slt.raw).set i0 ⟨s.req,s.holder,p,q⟩) b.wait n
 have e1:((b.slots.map Slt.raw).set i0 ⟨s.req,s.holder,p,q⟩).map SlR.pv=(b.slots.map Slt.pv).set i0 (slX s p q):=by
  rw [List.map_set,zeI]
 have e2:((b.slots.map Slt.raw).set i0 ⟨s.req,s.holder,p,q⟩).map (·.req.name)=b.slots.map (·.req.name):=by
  obtain ⟨hi,he⟩:=List.getElem?_eq_some_iff.1 h0
  rw [List.map_set,List.map_map]
  refine List.ext_getElem (by simp) λj h1 h3=>?_
  rw [List.getElem_set]
  split
  ·rename_i e;subst e;simp [he]
  ·simp
 rw [e1,e2] at h;exact h
theorem zkY {cf e sz:Nat} {caps:List PV} {xs xs':List PV} (p q:HD->PV) (raw:HD->PV) (fin:PV) (b:Bk) (c n:ByteArray) (er ce:Int) (hb:zfz b) (h1:∀ i,(p i).one=true/\(q i).one=true)
  (hown:zhm b c n er=0) (hcl:ActsE Tryz.prog 189 [.p (zn b n).pv] [] (λi=>.p (slX (zn b n) (p i) (q i))) (λi=>[(105,.hrow e sz xs i.1 i.2)]))
  (hf:∀ i:HD,ActsE Tryz.prog cf ([.ep 900 b.slots.length (zx b n) 0]++caps.map .p) [(900,.row 84 16 ((b.slots.map Slt.pv).set (zx b n) (slX (zn b n) (p i) (q i))) false),(901,.hrow e sz xs i.1 i.2)] (λ_=>.p (.i .i64 ce))
   (λj=>[(900,.row 84 16 ((b.slots.map Slt.pv).set (zx b n) (raw j)) false),(901,.hrow e sz xs' j.1 j.2)]))
  (hm:∀ j:HD,Mlt (.rs j.1 xs'.length j.2) (.sl sz xs') (raw j) fin) :
  Pure Tryz.prog 129 [b.pv,.s c,.s n,.i .i64 er,.fn (.func cf) [] caps] (if ce=0 then .tup [.agg [.sl 16 ((b.slots.map Slt.pv).set (zx b n) fin),.sl 14 (b.wait.map Wsh.pv)],.i .i64 0] else .tup [.agg [.nilsl,.nilsl],.i .i64 ce]):=by
 obtain ⟨hat,hsl,hh,h3⟩:=za8 hown
 obtain ⟨hs,hn,hwl⟩:=hb
 obtain ⟨_,hfi,hi⟩:=zcJ hat
 refine zf (cF Tryz.func129 Tryz.f129.eq_1) (by simp) λhw X hX=>?_
 have hfd:(if atL n (b.slots.map (·.req.name)) < 0 then (10:Int) else 0)=zfe b.slots n:=rfl
 have h3t:(zg [zaH c,zfe b.slots n,er]=0)=True:=eq_true h3
 have hcln:=zmA p q b.slots b.wait (zx b n) (zn b n) hsl hs (by omega) (by omega) h1 hcl
 have qe:=aI qR (aI @qN (aI @hfd (aI @h3t (aI @decide_true (aI @Bool.not_true (aI @List.append_nil.{0} (aI @List.map_cons.{0,0} (@List.map_nil.{0,0}))))))));repeat' first|refine gC ?_ ?_<;>intro hc<;>try contradiction|refine za (zbx c) ?_|refine za (zY b n) ?_|refine za (zw [_,_,_]) ?_|refine gG ?_|show AK _;intro K H|refine H _ _ ?_;clear H K|refine gJ ?_;try exact trivial|omega
 refine zlw [(100,200),(7,201),(305,305)] (hf:=hcln) (hn:=λi=>?_)
 have hfx:=findX b n (zx b n) (zn b n) (p i) (q i) hsl
 rw [hfi] at hfx
 have hg:=λa=>zc4 (b.slots.map Slt.pv) (zx b n) a (by simpa using hi)
 have qe:=aI qR (aI @qN (aI @zaA (aI @zaz (aI @zaf (aI @ze5 (aI @hg (aI @hh (aI @List.length_set.{0} (aI @List.length_map.{0,0} (aI @decide_true @Bool.not_true))))))))));repeat' first|refine gC ?_ ?_<;>intro hc<;>try contradiction|refine za (hfx) ?_|refine gG ?_|show AK _;intro K H|refine H _ _ ?_;clear H K|refine gJ ?_;try exact trivial|omega
 have qe:=λm=>znq m caps
 refine ziJ [(900,200),(901,305)] (hf:=hf i) (hn:=λj=>?_)
 have hjm:=zf0 (hm j) (b.slots.map Slt.pv) (zx b n)
 refine zbN (zl5 305 (e:=e) (sz:=sz) (xs:=xs') (a0:=j.1) (c0:=j.2) [(45,.p (.i .i64 ce)),(10,.lp 10 0),(13,.lp 13 0)] [(10,.box [.p .nilsl,.p .nilsl] false),(13,.box [.row 200 b.slots.length,.row 201 b.wait.length] false),(200,.row 84 16 ((b.slots.map Slt.pv).set (zx b n) fin) false),(201,.row 73 14 (b.wait.map Wsh.pv) false)] rfl ⟨⟨.inl rfl,.inl rfl,.inl rfl,trivial⟩,⟨.inl rfl,.inl rfl,.inr ⟨_,rfl,_,_,_,_,_,rfl,rfl,hjm⟩,.inl rfl,trivial⟩,by simp [scEnv,scP,zk],by simp [scObj,scPs,scP,zk]⟩) ?_
 rintro _ rfl
 refine (show zi _ _ _ _ _ (St.mk _ _ [] false) _ from zE ?_)
 by_cases hce:ce=0
 ·have hct:=eq_true hce
  have qe:=aI qR (aI @qN (aI @zaA (aI @zaz (aI @zaf (aI @hct (aI @List.length_set.{0} (aI @List.length_map.{0,0} (aI @decide_true @Bool.not_true))))))));repeat' first|refine gC ?_ ?_<;>intro hc<;>try contradiction|refine gG ?_|show AK _;intro K H|refine H _ _ ?_;clear H K|refine gJ ?_;try exact trivial|omega
  exact .refl _
 ·have hct:=eq_false hce
  have qe:=aI qR (aI @qN (aI @zaA (aI @zaz (aI @zaf (aI @hct (aI @List.length_set.{0} (aI @List.length_map.{0,0} (aI @decide_false @Bool.not_false))))))));repeat' first|refine gC ?_ ?_<;>intro hc<;>try contradiction|refine gG ?_|show AK _;intro K H|refine H _ _ ?_;clear H K|refine gJ ?_;try exact trivial|omega
  exact .refl _
theorem zob {α:Type} (f:α->PV) (l:List α) (a:Option Addr) (c:Nat):PV.rs a l.length c=PV.rs a (l.map f).length c:=by rw [List.length_map]
theorem zsc (a:Option Addr) (n c:Nat):(PV.rs a n c).cells=[.rs a n c]:=rfl
theorem zvE {cf:Nat} {caps:List PV} (b:Bk) (c n:ByteArray) (e ce:Int) (hb:zfz b) (h:zhm b c n e≠0):Pure Tryz.prog 129 [b.pv,.s c,.s n,.i .i64 e,.fn (.func cf) [] caps] (.tup [bk0.pv,.i .i64 (zfM b c n e ce)]):=by
 have hC:zfM b c n e ce≠0:=by rw [zfM,za3 h];exact h
 have:=zkl (caps:=caps) (cf:=cf) b c n e ce (b.slots.map Slt.pv) hb (by simp) (λk=>absurd k h)
 rw [if_neg hC] at this
 exact zat this (zbv _)
theorem zvD {b:Bk} {c n:ByteArray} {e ce:Int} (h:zhm b c n e=0):zfM b c n e ce=ce:=by rw [zfM,za4 h,zfk]
end Go.Proofs.YtijgimeokgbifaaGreat
