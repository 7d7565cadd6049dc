/- Contracts of functions, for the claim. No conditions. -/
import Derived.Test.YtijgimeokgbifaaGreatK8
import Derived.Test.YtijgimeokgbifaaGreatK9
import Derived.Test.YtijgimeokgbifaaGreatK4
import Derived.Test.YtijgimeokgbifaaGreatK7
import Derived.Test.YtijgimeokgbifaaGreatK5
set_option linter.all false
set_option maxHeartbeats 8000000
set_option maxRecDepth 100000
namespace Go.Proofs.YtijgimeokgbifaaGreat
open Go.RowKit Tryz
theorem zj9 {ls:List Lim}:∀ {W:List Win} {a:Int},1<=a->(W.foldl (zbZ ls) a < 1↔∃ w ∈ W,zcv ls w.lim<=w.cnt)
 | [],a,h=>by simp;omega
 | w::r,a,h=>by
  rw [xbu]
  by_cases hw:zcv ls w.lim<=w.cnt
  ·refine iff_of_true ?_ ⟨w,by simp,hw⟩
   have key:∀ (r:List Win) (b:Int),b < 1->r.foldl (zbZ ls) b < 1:=by
    intro r
    induction r with
    | nil=>intro b hb;exact hb
    | cons x r ih=>intro b hb;rw [xbu];refine ih _ ?_;unfold zbZ;omega
   exact key r _ (by unfold zbZ;omega)
  ·rw [zj9 (W:=r) (a:=zbZ ls a w) (by unfold zbZ;omega)]
   constructor
   ·rintro ⟨x,hx,hh⟩;exact ⟨x,by simp [hx],hh⟩
   ·rintro ⟨x,hx,hh⟩
    rcases xaA.1 hx with rfl|hx
    ·exact absurd hh hw
    ·exact ⟨x,hx,hh⟩
def znp {ls:List Lim} {m:List Mov} {o:Mov}:zwD ls m o < 1↔∃ w ∈ arW ls m o,zcv ls w.lim<=w.cnt:=zj9 (by decide)
def zyE {ls:List Lim} {m:List Mov} {o:Mov} {i:Nat} {l:Lim} {e:Nat} {b:Int} (hl:ls[i]?=some l) (hc:zad l o.kind o.term=true) (he:e < 2) (hb:b ∈ zM l (o.moment / 1440 - 1+e)) (h1:b<=o.moment) (h2:o.moment < b+l.len):(⟨i,b,zbq l m b⟩:Win) ∈ arW ls m o:=by
 refine xaC.2 ⟨i,xaV.2 (xaa.1 hl).1,?_⟩;rw [arI,hl];simp only [arL,hc,if_true];refine xaC.2 ⟨e,xaV.2 he,xaC.2 ⟨b,hb,?_⟩⟩;rw [arB,if_pos ⟨h1,h2⟩];simp
def zxG {ls:List Lim} {m:List Mov} {r:Req} {v:Nat × Nat} (h:v ∈ evA ls m r):∃ (i:Nat) (l:Lim) (d:Int) (e:Nat) (b:Int),ls[i]?=some l/\zad l r.kind r.term=true/\d ∈ zW r.per/\e < 2/\b ∈ zM l (d - 1+e)/\l.most<=zbq l m b/\(v.1:Int)=max 0 (b - 1440*d)/\(v.2:Int)=min 1440 (b+l.len - 1440*d)/\v.1 < v.2:=by
 obtain ⟨i,_,h⟩:=xaC.1 h;unfold evI at h
 split at h
 ·rename_i l hl;unfold evL at h
  split at h
  ·rename_i hc;obtain ⟨d,hd,h⟩:=xaC.1 h;obtain ⟨e,he,h⟩:=xaC.1 h;obtain ⟨b,hb,h⟩:=xaC.1 h;unfold evB at h
   split at h
   ·cases h
   ·split at h
    ·simp only [xaJ] at h;subst h;exact ⟨i,l,d,e,b,hl,hc,hd,xaV.1 he,hb,by omega,by simp only;omega,by simp only;omega,by simp only;omega⟩
    ·cases h
  ·cases h
 ·cases h
def zxF {ls:List Lim} {m:List Mov} {r:Req} {i:Nat} {l:Lim} {d:Int} {e:Nat} {b:Int} (hl:ls[i]?=some l) (hc:zad l r.kind r.term=true) (hd:d ∈ zW r.per) (he:e < 2) (hb:b ∈ zM l (d - 1+e)) (hm:l.most<=zbq l m b) (hlt:max 0 (b - 1440*d) < min 1440 (b+l.len - 1440*d)):((max 0 (b - 1440*d)).toNat,(min 1440 (b+l.len - 1440*d)).toNat) ∈ evA ls m r:=by
 refine xaC.2 ⟨i,xaV.2 (xaa.1 hl).1,?_⟩;rw [evI,hl];simp only [evL,hc,if_true];refine xaC.2 ⟨d,hd,xaC.2 ⟨e,xaV.2 he,xaC.2 ⟨b,hb,?_⟩⟩⟩;rw [evB,if_neg (by omega),if_pos hlt];simp
def zqm {ls:List Lim} {m:List Mov} {r:Req} {n:Int} (h0:0<=n) (h1:n < 1440):(!zsL (evA ls m r) n.toNat)=zoC ls m (r.at n):=by
 rw [xb3,xa6,<-Bool.not_eq_true,zsL,xbl,zoC,xaB]
 constructor
 ·intro h o ho;obtain ⟨d,hd,rfl⟩:=xaT.1 ho;simp only [xa6,decide_eq_false_iff_not];intro hlt;obtain ⟨w,hw,hf⟩:=znp.1 hlt;obtain ⟨i,l,hwi,hli,hwc,hcl,hb1,hb2,e,he,hbb⟩:=ztg hw;have hma:zcv ls w.lim=l.most:=by rw [zcv,hwi,xbS,hli]
  have hD:(zeh (r.at n) d).moment / 1440=d:=by simp only [zeh,Req.at];omega
  have hM:(zeh (r.at n) d).moment=1440*d+n:=rfl;rw [hD] at hbb;rw [hM] at hb1 hb2;refine h ⟨_,zxF (m:=m) (r:=r) hli hcl hd he hbb (by omega) (by omega),?_⟩
  simp only [zsY,xap,decide_eq_true_eq];omega
 ·rintro h ⟨v,hv,hh⟩;obtain ⟨i,l,d,e,b,hli,hcl,hd,he,hbb,hm,hv1,hv2,hv3⟩:=zxG hv;simp only [zsY,xap,decide_eq_true_eq] at hh;have hD:(zeh (r.at n) d).moment / 1440=d:=by simp only [zeh,Req.at];omega
  have hM:(zeh (r.at n) d).moment=1440*d+n:=rfl;have:=h (zeh (r.at n) d) (xaT.2 ⟨d,hd,rfl⟩);simp only [xa6,decide_eq_false_iff_not] at this;refine this (znp.2 ⟨_,zyE (m:=m) (o:=zeh (r.at n) d) hli hcl he (by rw [hD];exact hbb) (by rw [hM];omega) (by rw [hM];omega),?_⟩)
  simp only [zcv,xbS,hli];exact hm
def znZ {P:List (Nat × Nat)} {j:Nat} (hj:j < 1440):(ziB P 1440)[j]?=some (zsL P j):=by rw [zgO hj,decide_eq_true hj,xbo]
def zqB (ls:List Lim) (m:List Mov) (r:Req) (n:Int) (h0:0<=n) (h1:n < 1440):Pure prog 241 [.ip (.agg ((ziB (evA ls m r) 1440).map PV.b)) 0,.i .i64 n] (.b (zoC ls m (r.at n))):=by
 have:=zus (ziB (evA ls m r) 1440) (zb2 _ _) n.toNat _ (znZ (by omega))
 rw [zqm h0 h1,xbT h0] at this;exact this
def zvW (r:Req):r.at r.minute=r:=rfl
abbrev fitC (ls:List Lim) (m:List Mov) (r:Req):Int:=zf [zpd ls m,zdB r]
def zjz (ls:List Lim) (m:List Mov) (r:Req):Bool:=decide (fitC ls m r=0) && zoC ls m r
def zw4 (ls:List Lim) (m:List Mov) (r:Req):Pure prog 187 [.sl 11 (ls.map Lim.pv),.sl 7 (m.map Mov.pv),r.pv] (.tup [.b (zjz ls m r),.i .i64 (fitC ls m r)]):=by
 refine pz func187 f187.eq_1 λhw X hX=>?_
 have qe:=@qR;repeat' first|refine gC ?_ ?_<;>intro hc<;>try contradiction|refine za (zsN ls m) ?_|refine za (zsQ r) ?_|refine za (zbu [_,_]) ?_|refine gG ?_|show AK _;intro J Z|refine gJ ?_|omega|exact aT
 ·have e:zjz ls m r=false:=by unfold zjz;rw [decide_eq_false hc,xbs]
  rw [e];exact .refl _
 ·have h1:zpd ls m=0/\zdB r=0/\True:=⟨(zq.1 hc).1,(zq.1 (zq.1 hc).2).1,trivial⟩;have h2:=zeC h1.2.1;have h0:fitC ls m r=0:=hc;have qe:=@qR;repeat' first|refine gC ?_ ?_<;>intro hc<;>try contradiction|refine za (zut ls m r h1.1 h1.2.1) ?_|refine za (zqB ls m r r.minute h2.2.1 (by omega)) ?_|refine gG ?_|show AK _;intro J Z|refine gJ ?_|omega|exact aT
  have e:zjz ls m r=zoC ls m r:=by unfold zjz;rw [decide_eq_true h0,xbo]
  rw [e,h0,zvW];exact .refl _
theorem zhZ:∀ l:List UInt8,Op.bytesLess l l=false
 | []=>by simp [Op.bytesLess]
 | x::r=>by simp [Op.bytesLess,zhZ r]
theorem zjS:∀ x y:List UInt8,Op.bytesLess x y=true->Op.bytesLess y x=false
 | _,[],h=>by simp [Op.bytesLess] at h
 | [],_::_,_=>rfl
 | a::x,b::y,h=>by
  simp only [Op.bytesLess,xa3,xap,decide_eq_true_eq,beq_iff_eq,xbd,xbY,decide_eq_false_iff_not] at h ⊢;rw [UInt8.lt_iff_toNat_lt] at h ⊢
  rcases h with h|⟨h1,h2⟩
  ·exact ⟨by omega,.inl (by simp only [beq_eq_false_iff_ne];rintro rfl;omega)⟩
  ·subst h1;exact ⟨by omega,.inr (zjS x y h2)⟩
theorem zvR:∀ x y z:List UInt8,Op.bytesLess x y=false->Op.bytesLess y z=false->Op.bytesLess x z=false
 | _,_,[],_,_=>by simp [Op.bytesLess]
 | [],[],_::_,_,h=>h
 | [],_::_,_::_,h,_=>by simp [Op.bytesLess] at h
 | _::_,[],_::_,_,h=>by simp [Op.bytesLess] at h
 | a::x,b::y,c::z,h,k=>by
  simp only [Op.bytesLess,xbd,xbY,decide_eq_false_iff_not,beq_eq_false_iff_ne,UInt8.lt_iff_toNat_lt] at h k ⊢;refine ⟨by omega,?_⟩
  by_cases e:a=c
  ·subst e;have e2:a=b:=UInt8.toNat_inj.1 (by omega)
   subst e2;exact .inr (zvR x y z (h.2.resolve_left (by simp)) (k.2.resolve_left (by simp)))
  ·exact .inl e
theorem ztd:∀ x y:List UInt8,Op.bytesLess x y=false->Op.bytesLess y x=false->x=y
 | [],[],_,_=>rfl
 | [],_::_,h,_=>by simp [Op.bytesLess] at h
 | _::_,[],_,h=>by simp [Op.bytesLess] at h
 | a::x,b::y,h,k=>by
  simp only [Op.bytesLess,xbd,xbY,decide_eq_false_iff_not,beq_eq_false_iff_ne,UInt8.lt_iff_toNat_lt] at h k;have e2:a=b:=UInt8.toNat_inj.1 (by omega)
  subst e2;rw [ztd x y (h.2.resolve_left (by simp)) (k.2.resolve_left (by simp))]
def ba_eq {x y:ByteArray} (h:x.toList=y.toList):x=y:=by
 have:=zbz x y;rw [h,beq_self_eq_true] at this;exact of_decide_eq_true this.symm
def zyD {x y:ByteArray} (h:Op.bytesLess x.toList y.toList=false) (k:Op.bytesLess y.toList x.toList=false):x=y:=ba_eq (ztd _ _ h k)
def zvT:SW zk3 where
 asym:=λa b h=>by
  unfold zk3 at h ⊢
  by_cases h1:a.moment=b.moment
  ·rw [if_pos h1] at h;rw [if_pos h1.symm]
   by_cases h2:a.kind=b.kind
   ·rw [if_pos h2] at h;rw [if_pos h2.symm];exact zjS _ _ h
   ·rw [if_neg h2] at h;rw [if_neg (Ne.symm h2)];exact zjS _ _ h
  ·rw [if_neg h1] at h;rw [if_neg (Ne.symm h1)];simp only [decide_eq_true_eq,decide_eq_false_iff_not] at h ⊢;omega
 nt:=λa b c h k=>by
  have key:∀ x y:Mov,zk3 x y=false->y.moment<=x.moment/\(x.moment=y.moment->Op.bytesLess x.kind.toList y.kind.toList=false/\(x.kind=y.kind->Op.bytesLess x.name.toList y.name.toList=false)):=λx y h=>by
   unfold zk3 at h
   by_cases h1:x.moment=y.moment
   ·rw [if_pos h1] at h;refine ⟨by omega,λ_=>?_⟩
    by_cases h2:x.kind=y.kind
    ·rw [if_pos h2] at h;exact ⟨by rw [h2];exact zhZ _,λ_=>h⟩
    ·rw [if_neg h2] at h;exact ⟨h,λe=>absurd e h2⟩
   ·rw [if_neg h1] at h;simp only [decide_eq_false_iff_not] at h;exact ⟨by omega,λe=>absurd e h1⟩
  obtain ⟨a1,a2⟩:=key a b h;obtain ⟨b1,b2⟩:=key b c k;unfold zk3
  by_cases h1:a.moment=c.moment
  ·rw [if_pos h1];obtain ⟨a3,a4⟩:=a2 (by omega)
   obtain ⟨b3,b4⟩:=b2 (by omega)
   by_cases h2:a.kind=c.kind
   ·rw [if_pos h2];have e:a.kind=b.kind:=zyD a3 (by rw [h2];exact b3)
    exact zvR _ _ _ (a4 e) (b4 (e.symm.trans h2))
   ·rw [if_neg h2];exact zvR _ _ _ a3 b3
  ·rw [if_neg h1];simp only [decide_eq_false_iff_not];omega
section
variable {f:Nat} {c:Mov->Mov->Int}
def zsv (hf:∀ a b:Mov,Pure prog f [a.pv,b.pv] (.i .i64 (c a b))) (hs:SW (bfC c)) (L:List Mov) (hn:L.length≤1000000):Acts prog 252 [.row 900 L.length,.p (.i .i64 L.length),.p (.fn (.func f) [] [])] [(900,.row 140 7 (L.map Mov.pv) false)] (.p (.tup [])) [(900,.row 140 7 ((zai c L).map Mov.pv) false)]:=by
 obtain ⟨N,hN⟩:∃ N,L.length=N:=⟨_,rfl⟩
 rw [hN] at hn
 have hsl:=(zab c L).trans hN
 refine zR (cF func252 f252.eq_1) (by simp) (by simp [scPs,scP,zj]) (by simp [scObj]) ⟨rfl,trivial⟩ (by simp [scObj]) (by simp [zc1,zj,zab]) fun X hX=>?_
 rw [hN]
 unfold zE ghO
 have qe:=aI qR @gLV.eq_2;repeat' first|refine gC ?_ ?_<;>intro hc<;>try contradiction|refine gG ?_|show AK _;intro J Z|refine gJ ?_|omega|exact aT
 refine zi (κ:=List Mov × List Mov) (fun k=>⟨[(0,.row 900 N),(1,.p (.i .i64 N)),(2,.p (.fn (.func f) [] [])),(6,.p (.i .i64 20)),(7,.p (.i .i64 (k.1.length:Nat))),(8,.p (.i .i64 (k.1.length+20:Nat))),(1000900,.row 900 N)],[(900,.row 140 7 ((k.1++k.2).map Mov.pv) false)],[],false⟩)
  (fun k=>k.1.length+k.2.length=N∧k.1++Wd c 20 k.2=Wd c 20 L) (fun k=>k.2.length) ([],L) ?_ ?_ ?_
 ·simp only [qS,Nat.reduceAdd,Nat.reduceMul,Nat.reduceEqDiff,Nat.reduceLeDiff,reduceIte,reduceCtorEq,Nat.reduceBEq,Nat.reduceLT,gLV.eq_2]<;>simp [hN]
 ·exact ⟨by simpa using hN,by simp⟩
 ·intro k hk
  obtain ⟨Pd,R⟩:=k
  simp only at hk
  obtain ⟨k1,k2⟩:=hk
  have hPR:(Pd++R).length=N:=by rw [xae];exact k1
  by_cases h20:20≤R.length
  ·have hge:(((Pd.length+20:Nat):Int)≤N)=True:=eq_true (by omega)
   have hl:(zai c (R.take 20)).length=20:=by rw [zab,xai];omega
   have qe:=aI qR (aI @qN (aI @hge (aI @hPR (aI @rtN @rtR))));repeat' first|refine gC ?_ ?_<;>intro hc<;>try contradiction|refine zl [] (zk9 hf (D':=(Pd++zai c (R.take 20))++R.drop 20) Pd (R.take 20) (R.drop 20) hPR (by rw [xaw]) (by rw [xau]) (Pd.length:Nat) (Pd.length+20:Nat) rfl (by rw [xai];omega) hn) ?_|refine gG ?_|show AK _;intro J Z|refine gJ ?_|omega|exact aT
   refine ⟨(Pd++zai c (R.take 20),R.drop 20),⟨?_,?_⟩,?_,?_⟩
   ·simp only [xae,hl,xaF];omega
   ·simp only;rw [←k2,zd3 (by decide) h20,xau]
   ·simp only [xaF];omega
   ·refine ⟨⟨?_,?_⟩,rfl,?_⟩
    ·simp only [LV.p.injEq,PV.i.injEq,true_and,xae,hl]
    ·simp only [LV.p.injEq,PV.i.injEq,true_and,xae,hl];omega
    ·simp only [xae,hl,xaF];omega
  ·have hge:(((Pd.length+20:Nat):Int)≤N)=False:=eq_false (by omega)
   have hW:Wd c 20 L=Pd++zai c R:=by rw [←k2,zbB (by omega)]
   have qe:=aI qR (aI @qN (aI @hge (aI @hPR (aI @rtN @rtR))));repeat' first|refine gC ?_ ?_<;>intro hc<;>try contradiction|refine zl [] (zk9 hf (D':=Wd c 20 L) Pd R [] hPR (by simp) (by rw [hW];simp) (Pd.length:Nat) (N:Nat) rfl (by omega) hn) ?_|refine gG ?_|show AK _;intro J Z|refine gJ ?_|omega|exact aT
   refine zi (κ:=Nat) (fun w=>⟨[(0,.row 900 N),(1,.p (.i .i64 N)),(2,.p (.fn (.func f) [] [])),(6,.p (.i .i64 w)),(1000900,.row 900 N)],[(900,.row 140 7 ((Wd c w L).map Mov.pv) false)],[],false⟩) (fun w=>20≤w∧w≤2000000) (fun w=>N - w) 20 ?_ ?_ ?_
   ·refine gJ ?_;simp [zgn,hN]
   ·omega
   ·intro w hw
    have hWl:=zgn (c:=c) (w:=w) (by omega) L
    rw [hN] at hWl
    by_cases hwn:w < N
    ·have hwn':((w:Int) < N)=True:=eq_true (by omega)
     have qe:=aI qR (aI @hwn' (aI @hWl (aI @rtN @rtR)));repeat' first|refine gC ?_ ?_<;>intro hc<;>try contradiction|refine gG ?_|show AK _;intro J Z|refine gJ ?_|omega|exact aT
     refine zi (κ:=List Mov × List Mov) (fun k=>⟨[(0,.row 900 N),(1,.p (.i .i64 N)),(2,.p (.fn (.func f) [] [])),(6,.p (.i .i64 w)),(7,.p (.i .i64 (k.1.length:Nat))),(8,.p (.i .i64 (k.1.length+2*w:Nat))),(1000900,.row 900 N)],[(900,.row 140 7 ((k.1++Wd c w k.2).map Mov.pv) false)],[],false⟩)
      (fun k=>k.1.length+k.2.length=N∧k.1++Wd c (2*w) k.2=Wd c (2*w) L) (fun k=>k.2.length) ([],L) ?_ ?_ ?_
     ·refine gJ ?_;simp [hWl]
     ·exact ⟨by simpa using hN,by simp⟩
     ·intro k hk
      obtain ⟨Pd,R⟩:=k
      simp only at hk
      obtain ⟨k1,k2⟩:=hk
      have hRl:=zgn (c:=c) (w:=w) (by omega) R
      have hPR:(Pd++Wd c w R).length=N:=by rw [xae,hRl];exact k1
      by_cases h2:2*w≤R.length
      ·have hge:(((Pd.length+2*w:Nat):Int)≤N)=True:=eq_true (by omega)
       have l1:(zai c (R.take w)).length=w:=by rw [zab,xai];omega
       have l2:(zai c ((R.drop w).take w)).length=w:=by rw [zab,xai,xaF];omega
       have l3:(zai c (R.take (2*w))).length=2*w:=by rw [zab,xai];omega
       have e1:Wd c w R=zai c (R.take w)++(zai c ((R.drop w).take w)++Wd c w (R.drop (2*w))):=by
        rw [zd3 (by omega) (by omega),zd3 (R:=R.drop w) (by omega) (by rw [xaF];omega),xbL,show w+w=2*w by omega]
       have e2:mrg (bfC c) (zai c (R.take w)) (zai c ((R.drop w).take w))=zai c (R.take (2*w)):=by
        have:=zj4 hs (R.take (2*w)) w
        rw [List.take_take,xbw (by omega),List.drop_take,show 2*w - w=w by omega] at this
        exact this
       have qe:=aI qR (aI @qN (aI @hge (aI @hPR (aI @rtN @rtR))));repeat' first|refine gC ?_ ?_<;>intro hc<;>try contradiction|refine zl [] (zpj hf hs (w+w) (D':=(Pd++zai c (R.take (2*w)))++Wd c w (R.drop (2*w))) Pd (zai c (R.take w)) (zai c ((R.drop w).take w)) (Wd c w (R.drop (2*w))) hPR (by rw [e1]) (by rw [e2,xau]) (by rw [zaF hs];exact zcz hs _) (by rw [zaF hs];exact zcz hs _) (by omega) (by omega) (by omega) (Pd.length:Nat) (Pd.length+w) (Pd.length+2*w:Nat) rfl (by rw [l1];omega) (by rw [l1,l2];omega) hn) ?_|refine gG ?_|show AK _;intro J Z|refine gJ ?_|omega|exact aT
       refine ⟨(Pd++zai c (R.take (2*w)),R.drop (2*w)),⟨?_,?_⟩,?_,?_⟩
       ·simp only [xae,l3,xaF];omega
       ·simp only;rw [←k2,zd3 (by omega) h2,xau]
       ·simp only [xaF];omega
       ·refine ⟨⟨?_,?_⟩,rfl,?_⟩
        ·simp only [LV.p.injEq,PV.i.injEq,true_and,xae,l3]
        ·simp only [LV.p.injEq,PV.i.injEq,true_and,xae,l3];omega
        ·simp only [xae,l3];rw [zgn (by omega),xaF];omega
      ·have hge:(((Pd.length+2*w:Nat):Int)≤N)=False:=eq_false (by omega)
       have hW2:Wd c (2*w) L=Pd++zai c R:=by rw [←k2,zbB (by omega)]
       by_cases h3:w < R.length
       ·have hlt:(((Pd.length:Nat):Int)+(w:Nat) < N)=True:=eq_true (by omega)
        have l1:(zai c (R.take w)).length=w:=by rw [zab,xai];omega
        have l2:(zai c (R.drop w)).length=R.length - w:=by rw [zab,xaF]
        have e1:Wd c w R=zai c (R.take w)++zai c (R.drop w):=by
         rw [zd3 (by omega) (by omega),zbB (R:=R.drop w) (by rw [xaF];omega)]
        have qe:=aI qR (aI @qN (aI @hge (aI @hlt (aI @hPR (aI @rtN @rtR)))));repeat' first|refine gC ?_ ?_<;>intro hc<;>try contradiction|refine zl [] (zpj hf hs (w+(R.length - w)) (D':=Wd c (2*w) L) Pd (zai c (R.take w)) (zai c (R.drop w)) [] hPR (by rw [e1];simp) (by rw [hW2,zj4 hs];simp) (by rw [zaF hs];exact zcz hs _) (by rw [zaF hs];exact zcz hs _) (by omega) (by omega) (by omega) (Pd.length:Nat) (Pd.length+w) (N:Nat) rfl (by rw [l1];omega) (by rw [l1,l2];omega) hn) ?_|refine gG ?_|show AK _;intro J Z|refine gJ ?_|omega|exact aT
        exact ⟨2*w,by omega,by omega,by simp only [LV.p.injEq,PV.i.injEq,true_and];omega,rfl,by rw [zgn (by omega)];omega⟩
       ·have hlt:(((Pd.length:Nat):Int)+(w:Nat) < N)=False:=eq_false (by omega)
        have e1:Pd++Wd c w R=Wd c (2*w) L:=by rw [hW2,zbB (by omega)]
        rw [e1]
        have qe:=aI qR (aI @qN (aI @hge (aI @hlt (aI @hPR (aI @rtN @rtR)))));repeat' first|refine gC ?_ ?_<;>intro hc<;>try contradiction|refine gG ?_|show AK _;intro J Z|refine gJ ?_|omega|exact aT
        exact ⟨2*w,by omega,by omega,by simp only [LV.p.injEq,PV.i.injEq,true_and];omega,rfl,by rw [zgn (by omega)];omega⟩
    ·have hwn':((w:Int) < N)=False:=eq_false (by omega)
     have e:Wd c w L=zai c L:=zbB (by omega)
     have qe:=aI qR (aI @hwn' (aI @hWl (aI @rtN @rtR)));repeat' first|refine gC ?_ ?_<;>intro hc<;>try contradiction|refine gG ?_|show AK _;intro J Z|refine gJ ?_|omega|exact aT
     rw [e]
     exact .inl (.mk0 (h2:=by simp only [qS,Nat.reduceAdd,Nat.reduceMul,Nat.reduceEqDiff,Nat.reduceLeDiff,reduceIte,reduceCtorEq,Nat.reduceBEq,Nat.reduceLT,keepG.eq_1,keepG.eq_2,gLV.eq_2]<;>simp [hN]))
def zsI (hf:∀ a b:Mov,Pure prog f [a.pv,b.pv] (.i .i64 (c a b))) (hs:SW (bfC c)) (L:List Mov) (hn:L.length<=1000000):Acts prog 197 [.row 900 L.length,.p (.fn (.func f) [] [])] [(900,.row 140 7 (L.map Mov.pv) false)] (.p (.tup [])) [(900,.row 140 7 ((zai c L).map Mov.pv) false)]:=by
 have hsl:=zab c L;refine zR (cF func197 f197.eq_1) (by simp) (by simp [scPs,scP,zj]) (by simp [scObj]) ⟨rfl,trivial⟩ (by simp [scObj]) (by simp [zc1,zj,zab]) λX hX=>?_
 unfold zE ghO;have qe:=aI qR (aI @qN (aI @gLV.eq_2 (aI @rtN @rtR)));repeat' first|refine gC ?_ ?_<;>intro hc<;>try contradiction|refine zl [] (zsv hf hs L hn) ?_|refine gG ?_|show AK _;intro J Z|refine gJ ?_|omega|exact aT
 exact .inl (.mk0 (h2:=by simp only [qS,seval,keepG.eq_1,keepG.eq_2,gLV.eq_2]<;>simp))
end
def zi1 (a b:List Mov):Pure prog 120 [.sl 7 (a.map Mov.pv),.sl 7 (b.map Mov.pv)] (.tup [.sl 7 ((mgR a b).map Mov.pv),.i .i64 (mgE a b)]):=by
 refine pz func120 f120.eq_1 λhw X hX=>?_
 have he:(if decide (30000 < (a.length:Int)+b.length)=true then (5:Int) else 0)=(if 30000 < (a.length:Int)+b.length then 5 else 0):=by simp
 have hA:=λl=>eq_true (zyF l)
 by_cases h0:mgE a b=0
 ·have h0':=eq_true h0;have hl:a.length+b.length<=1000000:=by
   have h1:=(zaQ (zq.1 h0).1).1;have h2:=(zaQ (zq.1 (zq.1 h0).2).1).1
   omega
  have hlen:(a++b).length=a.length+b.length:=xae;have h113:Acts prog 197 [.row 900 (a.length+b.length),.p (.fn (.func 198) [] [])] [(900,.row 140 7 (a.map Mov.pv++b.map Mov.pv) false)] (.p (.tup [])) [(900,.row 140 7 ((zf5 zk3 a b).map Mov.pv) false)]:=by
   have:=zsI zur (by rw [zkX];exact zvT) (a++b) (by omega)
   rw [hlen,xaO,zll] at this;exact this
  have hml:(zf5 zk3 a b).length=a.length+b.length:=by rw [(zlQ zk3 a b).length_eq,hlen]
  have h0b:(zf [zae a,zae b,if 30000 < (a.length:Int)+b.length then 5 else 0]=0)=True:=h0'
  have qe:=aI qR (aI @qN (aI @hA (aI @he (aI @hml @h0b))));repeat' first|refine gC ?_ ?_<;>intro hc<;>try contradiction|refine za (zhR a) ?_|refine za (zhR b) ?_|refine za (zbN _ _) ?_|refine za (zbu [_,_,_]) ?_|refine zl [(5,25)] (zv3 a (by omega)) ?_|refine zl [(900,25)] (h113) ?_|refine gG ?_|show AK _;intro J Z|refine gJ ?_|omega|exact aT
  all_goals first|(rw [mgR,if_pos h0,h0];exact .refl _)
 ·have h0':=eq_false h0;have key:zf [zae a,zae b,if 30000 < IntKind.i64.wrap ((a.length:Int)+b.length) then 5 else 0]=mgE a b:=by
   by_cases h1:zae a=0
   ·by_cases h2:zae b=0
    ·rw [zhp (by have:=(zaQ h1).1;omega) (by have:=(zaQ h1).1;have:=(zaQ h2).1;omega)];rfl
    ·simp [mgE,zf,h1,h2]
   ·simp [mgE,zf,h1]
  have qe:=aI qR @he;repeat' first|refine gC ?_ ?_<;>intro hc<;>try contradiction|refine za (zhR a) ?_|refine za (zhR b) ?_|refine za (zbN _ _) ?_|refine za (zbu [_,_,_]) ?_|refine gG ?_|show AK _;intro J Z|refine gJ ?_|omega|exact aT
  all_goals first|(rw [key] at hc;exact absurd hc h0)|(rw [key,mgR,if_neg h0];exact zhr (.nilsl _) (.refl _))
def zqH (n:Int) (h0:0<=n) (h1:n < 256):Pure prog 251 [.i .u64 n] .any:=by
 refine pz func251 f251.eq_1 λhw X hX=>?_
 have hw8:IntKind.u8.wrap n=n:=by simp [IntKind.wrap,IntKind.bits,IntKind.signed];omega
 repeat' first|refine gC ?_ ?_<;>intro hc<;>try contradiction|refine gG ?_|show AK _;intro J Z|refine gJ ?_|omega|exact aT
 refine ⟨⟨by rw [hw8];exact h0,by rw [hw8];exact Int.lt_of_lt_of_le h1 (by decide +kernel)⟩,?_⟩
 repeat' first|refine gC ?_ ?_<;>intro hc<;>try contradiction|refine gG ?_|show AK _;intro J Z|refine gJ ?_|omega|exact aT
 exact .any _
def zkg (n:Int) (h0:0<=n) (h1:n < 256):Pure prog 193 [.i .u64 n] .any:=by
 refine pz func193 f193.eq_1 λhw X hX=>?_
 have jA:=zqH n h0 h1;exact gD2
def zsz {f:Nat} {c:Lea->Lea->Int} (hf:∀ a b:Lea,Pure prog f [a.pv,b.pv] (.i .i64 (c a b))) (L:List Lea) (v:PV) (hn:L.length<=12):Acts prog 215 [.row 900 L.length,.p (.i .i64 0),.p (.i .i64 L.length),.p v,.p (.fn (.func f) [] [])] [(900,.row 91 3 (L.map Lea.pv) false)] (.p (.tup [])) [(900,.row 91 3 ((zbJ c L).map Lea.pv) false)]:=by
 have hsl:=zH c L;refine zR (cF func215 f215.eq_1) (by simp) (by simp [scPs,scP,zj]) (by simp [scObj]) ⟨rfl,trivial⟩ (by simp [scObj]) (by simp [zc1,zj,zH]) λX hX=>?_
 unfold zE ghO;have qe:=aI qR @gLV.eq_2;repeat' first|refine gC ?_ ?_<;>intro hc<;>try contradiction|refine gG ?_|show AK _;intro J Z|refine gJ ?_|omega|exact aT
 refine zi (κ:=Unit) (λ_=>⟨[(0,.row 900 L.length),(1,.p (.i .i64 0)),(2,.p (.i .i64 L.length)),(4,.p (.fn (.func f) [] [])),(1000900,.row 900 L.length)],[(900,.row 91 3 (L.map Lea.pv) false)],[],false⟩) (λ_=>True) (λ_=>0) () ?_ ?_ ?_
 ·simp only [qS,seval,gLV.eq_2]<;>simp
 ·trivial
 ·intro _ _;have hle:((L.length:Int) - 0<=12)=True:=eq_true (by omega)
  have hle2:((L.length:Int)<=12)=True:=eq_true (by omega)
  have qe:=aI qR (aI @qN (aI @hle (aI @hle2 (aI @Int.sub_zero (aI @rtN (aI @rtR (aI @zH (@List.length_map.{0,0}))))))));repeat' first|refine gC ?_ ?_<;>intro hc<;>try contradiction|refine zl [(900,900)] (zsw hf L L.length rfl (by omega)) ?_|refine gG ?_|show AK _;intro J Z|refine gJ ?_|omega|exact aT
  exact .inl (.mk0 (h2:=by simp only [qS,seval,keepG.eq_1,keepG.eq_2,gLV.eq_2]<;>simp))
def zsE {f:Nat} {c:Lea->Lea->Int} (hf:∀ a b:Lea,Pure prog f [a.pv,b.pv] (.i .i64 (c a b))) (L:List Lea) (hn:L.length<=12):Acts prog 142 [.row 900 L.length,.p (.fn (.func f) [] [])] [(900,.row 91 3 (L.map Lea.pv) false)] (.p (.tup [])) [(900,.row 91 3 ((zbJ c L).map Lea.pv) false)]:=by
 have hsl:=zH c L;refine zR (cF func142 f142.eq_1) (by simp) (by simp [scPs,scP,zj]) (by simp [scObj]) ⟨rfl,trivial⟩ (by simp [scObj]) (by simp [zc1,zj,zH]) λX hX=>?_
 unfold zE ghO;have hw:IntKind.u64.wrap (L.length:Int)=L.length:=by simp [IntKind.wrap,IntKind.bits,IntKind.signed];omega
 have qe:=aI qR (aI @qN (aI @hw (aI @gLV.eq_2 (aI @rtN (aI @rtR (aI @zH (@List.length_map.{0,0})))))));repeat' first|refine gC ?_ ?_<;>intro hc<;>try contradiction|refine za (zkg L.length (by omega) (by omega)) ?_|refine zl [(900,900)] (zsz hf L .any hn) ?_|refine gG ?_|show AK _;intro J Z|refine gJ ?_|omega|exact aT
 exact .inl (.mk0 (h2:=by simp only [qS,seval,keepG.eq_1,keepG.eq_2,gLV.eq_2]<;>simp))
def zsA {f:Nat} {c:Wsh->Wsh->Int} (hf:∀ a b:Wsh,Pure prog f [a.pv,b.pv] (.i .i64 (c a b))) (L:List Wsh) (v:PV) (hn:L.length<=12):Acts prog 192 [.row 900 L.length,.p (.i .i64 0),.p (.i .i64 L.length),.p v,.p (.fn (.func f) [] [])] [(900,.row 73 14 (L.map Wsh.pv) false)] (.p (.tup [])) [(900,.row 73 14 ((zbJ c L).map Wsh.pv) false)]:=by
 have hsl:=zH c L;refine zR (cF func192 f192.eq_1) (by simp) (by simp [scPs,scP,zj]) (by simp [scObj]) ⟨rfl,trivial⟩ (by simp [scObj]) (by simp [zc1,zj,zH]) λX hX=>?_
 unfold zE ghO;have qe:=aI qR @gLV.eq_2;repeat' first|refine gC ?_ ?_<;>intro hc<;>try contradiction|refine gG ?_|show AK _;intro J Z|refine gJ ?_|omega|exact aT
 refine zi (κ:=Unit) (λ_=>⟨[(0,.row 900 L.length),(1,.p (.i .i64 0)),(2,.p (.i .i64 L.length)),(4,.p (.fn (.func f) [] [])),(1000900,.row 900 L.length)],[(900,.row 73 14 (L.map Wsh.pv) false)],[],false⟩) (λ_=>True) (λ_=>0) () ?_ ?_ ?_
 ·simp only [qS,seval,gLV.eq_2]<;>simp
 ·trivial
 ·intro _ _;have hle:((L.length:Int) - 0<=12)=True:=eq_true (by omega)
  have hle2:((L.length:Int)<=12)=True:=eq_true (by omega)
  have qe:=aI qR (aI @qN (aI @hle (aI @hle2 (aI @Int.sub_zero (aI @rtN (aI @rtR (aI @zH (@List.length_map.{0,0}))))))));repeat' first|refine gC ?_ ?_<;>intro hc<;>try contradiction|refine zl [(900,900)] (zsx hf L L.length rfl (by omega)) ?_|refine gG ?_|show AK _;intro J Z|refine gJ ?_|omega|exact aT
  exact .inl (.mk0 (h2:=by simp only [qS,seval,keepG.eq_1,keepG.eq_2,gLV.eq_2]<;>simp))
def zsH {f:Nat} {c:Wsh->Wsh->Int} (hf:∀ a b:Wsh,Pure prog f [a.pv,b.pv] (.i .i64 (c a b))) (L:List Wsh) (hn:L.length<=12):Acts prog 118 [.row 900 L.length,.p (.fn (.func f) [] [])] [(900,.row 73 14 (L.map Wsh.pv) false)] (.p (.tup [])) [(900,.row 73 14 ((zbJ c L).map Wsh.pv) false)]:=by
 have hsl:=zH c L;refine zR (cF func118 f118.eq_1) (by simp) (by simp [scPs,scP,zj]) (by simp [scObj]) ⟨rfl,trivial⟩ (by simp [scObj]) (by simp [zc1,zj,zH]) λX hX=>?_
 unfold zE ghO;have hw:IntKind.u64.wrap (L.length:Int)=L.length:=by simp [IntKind.wrap,IntKind.bits,IntKind.signed];omega
 have qe:=aI qR (aI @qN (aI @hw (aI @gLV.eq_2 (aI @rtN (aI @rtR (aI @zH (@List.length_map.{0,0})))))));repeat' first|refine gC ?_ ?_<;>intro hc<;>try contradiction|refine za (zkg L.length (by omega) (by omega)) ?_|refine zl [(900,900)] (zsA hf L .any hn) ?_|refine gG ?_|show AK _;intro J Z|refine gJ ?_|omega|exact aT
 exact .inl (.mk0 (h2:=by simp only [qS,seval,keepG.eq_1,keepG.eq_2,gLV.eq_2]<;>simp))
end Go.Proofs.YtijgimeokgbifaaGreat
