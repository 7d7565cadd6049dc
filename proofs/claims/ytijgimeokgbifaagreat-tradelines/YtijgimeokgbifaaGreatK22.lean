/- Contracts of functions, for the claim. No conditions. -/
import Derived.Test.YtijgimeokgbifaaGreatK16
import Derived.Test.YtijgimeokgbifaaGreatK12
import Derived.Test.YtijgimeokgbifaaGreatK21
import Derived.Test.YtijgimeokgbifaaGreatK13
set_option linter.all false
set_option maxHeartbeats 8000000
set_option maxRecDepth 100000
namespace Go.Proofs.YtijgimeokgbifaaGreat
open Go.RowKit
theorem zhX:∀ l:List UInt8,Op.bytesLess l l=false
 | []=>by simp [Op.bytesLess]
 | x::r=>by simp [Op.bytesLess,zhX r]
theorem zjS:∀ x y:List UInt8,Op.bytesLess x y=true->Op.bytesLess y x=false
 | _,[],h=>by simp [Op.bytesLess] at h
 | [],_::_,_=>rfl
 | a::x,b::y,h=>by
  simp only [Op.bytesLess,Bool.or_eq_true,Bool.and_eq_true,decide_eq_true_eq,beq_iff_eq,Bool.or_eq_false_iff,Bool.and_eq_false_iff,decide_eq_false_iff_not] at h ⊢
  rw [UInt8.lt_iff_toNat_lt] at h ⊢
  rcases h with h|⟨h1,h2⟩
  ·exact ⟨by omega,.inl (by simp only [beq_eq_false_iff_ne];rintro rfl;omega)⟩
  ·subst h1;exact ⟨by omega,.inr (zjS x y h2)⟩
theorem zvJ:∀ x y z:List UInt8,Op.bytesLess x y=false->Op.bytesLess y z=false->Op.bytesLess x z=false
 | _,_,[],_,_=>by simp [Op.bytesLess]
 | [],[],_::_,_,h=>h
 | [],_::_,_::_,h,_=>by simp [Op.bytesLess] at h
 | _::_,[],_::_,_,h=>by simp [Op.bytesLess] at h
 | a::x,b::y,c::z,h,k=>by
  simp only [Op.bytesLess,Bool.or_eq_false_iff,Bool.and_eq_false_iff,decide_eq_false_iff_not,beq_eq_false_iff_ne,UInt8.lt_iff_toNat_lt] at h k ⊢
  refine ⟨by omega,?_⟩
  by_cases e:a=c
  ·subst e
   have e2:a=b:=UInt8.toNat_inj.1 (by omega)
   subst e2
   exact .inr (zvJ x y z (h.2.resolve_left (by simp)) (k.2.resolve_left (by simp)))
  ·exact .inl e
theorem zs6:∀ x y:List UInt8,Op.bytesLess x y=false->Op.bytesLess y x=false->x=y
 | [],[],_,_=>rfl
 | [],_::_,h,_=>by simp [Op.bytesLess] at h
 | _::_,[],_,h=>by simp [Op.bytesLess] at h
 | a::x,b::y,h,k=>by
  simp only [Op.bytesLess,Bool.or_eq_false_iff,Bool.and_eq_false_iff,decide_eq_false_iff_not,beq_eq_false_iff_ne,UInt8.lt_iff_toNat_lt] at h k
  have e2:a=b:=UInt8.toNat_inj.1 (by omega)
  subst e2
  rw [zs6 x y (h.2.resolve_left (by simp)) (k.2.resolve_left (by simp))]
theorem ba_eq {x y:ByteArray} (h:x.toList=y.toList):x=y:=by
 have:=zbB x y
 rw [h,beq_self_eq_true] at this
 exact of_decide_eq_true this.symm
theorem zyv {x y:ByteArray} (h:Op.bytesLess x.toList y.toList=false) (k:Op.bytesLess y.toList x.toList=false):x=y:=ba_eq (zs6 _ _ h k)
theorem zvL:SW zk2 where
 asym:=λa b h=>by
  unfold zk2 at h ⊢
  by_cases h1:a.moment=b.moment
  ·rw [if_pos h1] at h;rw [if_pos h1.symm]
   by_cases h2:a.kind=b.kind
   ·rw [if_pos h2] at h;rw [if_pos h2.symm];exact zjS _ _ h
   ·rw [if_neg h2] at h;rw [if_neg (Ne.symm h2)];exact zjS _ _ h
  ·rw [if_neg h1] at h;rw [if_neg (Ne.symm h1)]
   simp only [decide_eq_true_eq,decide_eq_false_iff_not] at h ⊢;omega
 nt:=λa b c h k=>by
  have key:∀ x y:Mov,zk2 x y=false->y.moment<=x.moment/\(x.moment=y.moment->Op.bytesLess x.kind.toList y.kind.toList=false/\(x.kind=y.kind->Op.bytesLess x.name.toList y.name.toList=false)):=λx y h=>by
   unfold zk2 at h
   by_cases h1:x.moment=y.moment
   ·rw [if_pos h1] at h
    refine ⟨by omega,λ_=>?_⟩
    by_cases h2:x.kind=y.kind
    ·rw [if_pos h2] at h;exact ⟨by rw [h2];exact zhX _,λ_=>h⟩
    ·rw [if_neg h2] at h;exact ⟨h,λe=>absurd e h2⟩
   ·rw [if_neg h1] at h
    simp only [decide_eq_false_iff_not] at h
    exact ⟨by omega,λe=>absurd e h1⟩
  obtain ⟨a1,a2⟩:=key a b h
  obtain ⟨b1,b2⟩:=key b c k
  unfold zk2
  by_cases h1:a.moment=c.moment
  ·rw [if_pos h1]
   obtain ⟨a3,a4⟩:=a2 (by omega)
   obtain ⟨b3,b4⟩:=b2 (by omega)
   by_cases h2:a.kind=c.kind
   ·rw [if_pos h2]
    have e:a.kind=b.kind:=zyv a3 (by rw [h2];exact b3)
    exact zvJ _ _ _ (a4 e) (b4 (e.symm.trans h2))
   ·rw [if_neg h2];exact zvJ _ _ _ a3 b3
  ·rw [if_neg h1];simp only [decide_eq_false_iff_not];omega
section
variable {f:Nat} {c:Mov->Mov->Int}
theorem zso (hf:∀ a b:Mov,Pure Tryz.prog f [a.pv,b.pv] (.i .i64 (c a b))) (hs:SW (bfC c)) (L:List Mov) (hn:L.length≤1000000):Acts Tryz.prog 252 [.row 900 L.length,.p (.i .i64 L.length),.p (.fn (.func f) [] [])] [(900,.row 140 7 (L.map Mov.pv) false)] (.p (.tup [])) [(900,.row 140 7 ((zag c L).map Mov.pv) false)]:=by
 obtain ⟨N,hN⟩:∃ N,L.length=N:=⟨_,rfl⟩
 rw [hN] at hn
 have hsl:=(zaa c L).trans hN
 refine zR (cF Tryz.func252 Tryz.f252.eq_1) (by simp) (by simp [scPs,scP,zk]) (by simp [scObj]) ⟨rfl,trivial⟩ (by simp [scObj]) (by simp [zc2,zk,zaa]) fun X hX=>?_
 rw [hN]
 unfold zD ghO
 have qe:=aI qR @gLV.eq_2;repeat' first|refine gC ?_ ?_<;>intro hc<;>try contradiction|refine gG ?_|show AK _;intro K H|refine H _ _ ?_;clear H K|refine gJ ?_;try exact trivial|omega
 refine zj (κ:=List Mov × List Mov) (fun k=>⟨[(0,.row 900 N),(1,.p (.i .i64 N)),(2,.p (.fn (.func f) [] [])),(6,.p (.i .i64 20)),(7,.p (.i .i64 (k.1.length:Nat))),(8,.p (.i .i64 (k.1.length+20:Nat))),(1000900,.row 900 N)],[(900,.row 140 7 ((k.1++k.2).map Mov.pv) false)],[],false⟩)
  (fun k=>k.1.length+k.2.length=N∧k.1++Wd c 20 k.2=Wd c 20 L) (fun k=>k.2.length) ([],L) ?_ ?_ ?_
 ·simp only [qS,Nat.reduceAdd,Nat.reduceMul,Nat.reduceEqDiff,Nat.reduceLeDiff,reduceIte,reduceCtorEq,Nat.reduceBEq,Nat.reduceLT,gLV.eq_2]<;>simp [hN]
 ·exact ⟨by simpa using hN,by simp⟩
 ·intro k hk
  obtain ⟨Pd,R⟩:=k
  simp only at hk
  obtain ⟨k1,k2⟩:=hk
  have hPR:(Pd++R).length=N:=by rw [List.length_append];exact k1
  by_cases h20:20≤R.length
  ·have hge:(((Pd.length+20:Nat):Int)≤N)=True:=eq_true (by omega)
   have hl:(zag c (R.take 20)).length=20:=by rw [zaa,List.length_take];omega
   have qe:=aI qR (aI @qN (aI @hge (aI @hPR (aI @rtN @rtR))));repeat' first|refine gC ?_ ?_<;>intro hc<;>try contradiction|refine zl [] (zk8 hf (D':=(Pd++zag c (R.take 20))++R.drop 20) Pd (R.take 20) (R.drop 20) hPR (by rw [List.take_append_drop]) (by rw [List.append_assoc]) (Pd.length:Nat) (Pd.length+20:Nat) rfl (by rw [List.length_take];omega) hn) ?_|refine gG ?_|show AK _;intro K H|refine H _ _ ?_;clear H K|refine gJ ?_;try exact trivial|omega
   refine ⟨(Pd++zag c (R.take 20),R.drop 20),⟨?_,?_⟩,?_,?_⟩
   ·simp only [List.length_append,hl,List.length_drop];omega
   ·simp only;rw [←k2,zd3 (by decide) h20,List.append_assoc]
   ·simp only [List.length_drop];omega
   ·refine ⟨⟨?_,?_⟩,rfl,?_⟩
    ·simp only [LV.p.injEq,PV.i.injEq,true_and,List.length_append,hl]
    ·simp only [LV.p.injEq,PV.i.injEq,true_and,List.length_append,hl];omega
    ·simp only [List.length_append,hl,List.length_drop];omega
  ·have hge:(((Pd.length+20:Nat):Int)≤N)=False:=eq_false (by omega)
   have hW:Wd c 20 L=Pd++zag c R:=by rw [←k2,zbD (by omega)]
   have qe:=aI qR (aI @qN (aI @hge (aI @hPR (aI @rtN @rtR))));repeat' first|refine gC ?_ ?_<;>intro hc<;>try contradiction|refine zl [] (zk8 hf (D':=Wd c 20 L) Pd R [] hPR (by simp) (by rw [hW];simp) (Pd.length:Nat) (N:Nat) rfl (by omega) hn) ?_|refine gG ?_|show AK _;intro K H|refine H _ _ ?_;clear H K|refine gJ ?_;try exact trivial|omega
   refine zj (κ:=Nat) (fun w=>⟨[(0,.row 900 N),(1,.p (.i .i64 N)),(2,.p (.fn (.func f) [] [])),(6,.p (.i .i64 w)),(1000900,.row 900 N)],[(900,.row 140 7 ((Wd c w L).map Mov.pv) false)],[],false⟩) (fun w=>20≤w∧w≤2000000) (fun w=>N - w) 20 ?_ ?_ ?_
   ·refine gJ ?_;simp [zgn,hN]
   ·omega
   ·intro w hw
    have hWl:=zgn (c:=c) (w:=w) (by omega) L
    rw [hN] at hWl
    by_cases hwn:w < N
    ·have hwn':((w:Int) < N)=True:=eq_true (by omega)
     have qe:=aI qR (aI @hwn' (aI @hWl (aI @rtN @rtR)));repeat' first|refine gC ?_ ?_<;>intro hc<;>try contradiction|refine gG ?_|show AK _;intro K H|refine H _ _ ?_;clear H K|refine gJ ?_;try exact trivial|omega
     refine zj (κ:=List Mov × List Mov) (fun k=>⟨[(0,.row 900 N),(1,.p (.i .i64 N)),(2,.p (.fn (.func f) [] [])),(6,.p (.i .i64 w)),(7,.p (.i .i64 (k.1.length:Nat))),(8,.p (.i .i64 (k.1.length+2*w:Nat))),(1000900,.row 900 N)],[(900,.row 140 7 ((k.1++Wd c w k.2).map Mov.pv) false)],[],false⟩)
      (fun k=>k.1.length+k.2.length=N∧k.1++Wd c (2*w) k.2=Wd c (2*w) L) (fun k=>k.2.length) ([],L) ?_ ?_ ?_
     ·refine gJ ?_;simp [hWl]
     ·exact ⟨by simpa using hN,by simp⟩
     ·intro k hk
      obtain ⟨Pd,R⟩:=k
      simp only at hk
      obtain ⟨k1,k2⟩:=hk
      have hRl:=zgn (c:=c) (w:=w) (by omega) R
      have hPR:(Pd++Wd c w R).length=N:=by rw [List.length_append,hRl];exact k1
      by_cases h2:2*w≤R.length
      ·have hge:(((Pd.length+2*w:Nat):Int)≤N)=True:=eq_true (by omega)
       have l1:(zag c (R.take w)).length=w:=by rw [zaa,List.length_take];omega
       have l2:(zag c ((R.drop w).take w)).length=w:=by rw [zaa,List.length_take,List.length_drop];omega
       have l3:(zag c (R.take (2*w))).length=2*w:=by rw [zaa,List.length_take];omega
       have e1:Wd c w R=zag c (R.take w)++(zag c ((R.drop w).take w)++Wd c w (R.drop (2*w))):=by
        rw [zd3 (by omega) (by omega),zd3 (R:=R.drop w) (by omega) (by rw [List.length_drop];omega),List.drop_drop,show w+w=2*w by omega]
       have e2:mrg (bfC c) (zag c (R.take w)) (zag c ((R.drop w).take w))=zag c (R.take (2*w)):=by
        have:=zj4 hs (R.take (2*w)) w
        rw [List.take_take,Nat.min_eq_left (by omega),List.drop_take,show 2*w - w=w by omega] at this
        exact this
       have qe:=aI qR (aI @qN (aI @hge (aI @hPR (aI @rtN @rtR))));repeat' first|refine gC ?_ ?_<;>intro hc<;>try contradiction|refine zl [] (zpc hf hs (w+w) (D':=(Pd++zag c (R.take (2*w)))++Wd c w (R.drop (2*w))) Pd (zag c (R.take w)) (zag c ((R.drop w).take w)) (Wd c w (R.drop (2*w))) hPR (by rw [e1]) (by rw [e2,List.append_assoc]) (by rw [zaG hs];exact zcB hs _) (by rw [zaG hs];exact zcB hs _) (by omega) (by omega) (by omega) (Pd.length:Nat) (Pd.length+w) (Pd.length+2*w:Nat) rfl (by rw [l1];omega) (by rw [l1,l2];omega) hn) ?_|refine gG ?_|show AK _;intro K H|refine H _ _ ?_;clear H K|refine gJ ?_;try exact trivial|omega
       refine ⟨(Pd++zag c (R.take (2*w)),R.drop (2*w)),⟨?_,?_⟩,?_,?_⟩
       ·simp only [List.length_append,l3,List.length_drop];omega
       ·simp only;rw [←k2,zd3 (by omega) h2,List.append_assoc]
       ·simp only [List.length_drop];omega
       ·refine ⟨⟨?_,?_⟩,rfl,?_⟩
        ·simp only [LV.p.injEq,PV.i.injEq,true_and,List.length_append,l3]
        ·simp only [LV.p.injEq,PV.i.injEq,true_and,List.length_append,l3];omega
        ·simp only [List.length_append,l3];rw [zgn (by omega),List.length_drop];omega
      ·have hge:(((Pd.length+2*w:Nat):Int)≤N)=False:=eq_false (by omega)
       have hW2:Wd c (2*w) L=Pd++zag c R:=by rw [←k2,zbD (by omega)]
       by_cases h3:w < R.length
       ·have hlt:(((Pd.length:Nat):Int)+(w:Nat) < N)=True:=eq_true (by omega)
        have l1:(zag c (R.take w)).length=w:=by rw [zaa,List.length_take];omega
        have l2:(zag c (R.drop w)).length=R.length - w:=by rw [zaa,List.length_drop]
        have e1:Wd c w R=zag c (R.take w)++zag c (R.drop w):=by
         rw [zd3 (by omega) (by omega),zbD (R:=R.drop w) (by rw [List.length_drop];omega)]
        have qe:=aI qR (aI @qN (aI @hge (aI @hlt (aI @hPR (aI @rtN @rtR)))));repeat' first|refine gC ?_ ?_<;>intro hc<;>try contradiction|refine zl [] (zpc hf hs (w+(R.length - w)) (D':=Wd c (2*w) L) Pd (zag c (R.take w)) (zag c (R.drop w)) [] hPR (by rw [e1];simp) (by rw [hW2,zj4 hs];simp) (by rw [zaG hs];exact zcB hs _) (by rw [zaG hs];exact zcB hs _) (by omega) (by omega) (by omega) (Pd.length:Nat) (Pd.length+w) (N:Nat) rfl (by rw [l1];omega) (by rw [l1,l2];omega) hn) ?_|refine gG ?_|show AK _;intro K H|refine H _ _ ?_;clear H K|refine gJ ?_;try exact trivial|omega
        exact ⟨2*w,by omega,by omega,by simp only [LV.p.injEq,PV.i.injEq,true_and];omega,rfl,by rw [zgn (by omega)];omega⟩
       ·have hlt:(((Pd.length:Nat):Int)+(w:Nat) < N)=False:=eq_false (by omega)
        have e1:Pd++Wd c w R=Wd c (2*w) L:=by rw [hW2,zbD (by omega)]
        rw [e1]
        have qe:=aI qR (aI @qN (aI @hge (aI @hlt (aI @hPR (aI @rtN @rtR)))));repeat' first|refine gC ?_ ?_<;>intro hc<;>try contradiction|refine gG ?_|show AK _;intro K H|refine H _ _ ?_;clear H K|refine gJ ?_;try exact trivial|omega
        exact ⟨2*w,by omega,by omega,by simp only [LV.p.injEq,PV.i.injEq,true_and];omega,rfl,by rw [zgn (by omega)];omega⟩
    ·have hwn':((w:Int) < N)=False:=eq_false (by omega)
     have e:Wd c w L=zag c L:=zbD (by omega)
     have qe:=aI qR (aI @hwn' (aI @hWl (aI @rtN @rtR)));repeat' first|refine gC ?_ ?_<;>intro hc<;>try contradiction|refine gG ?_|show AK _;intro K H|refine H _ _ ?_;clear H K|refine gJ ?_;try exact trivial|omega
     rw [e]
     exact .inl (.mk0 (h2:=by simp only [qS,Nat.reduceAdd,Nat.reduceMul,Nat.reduceEqDiff,Nat.reduceLeDiff,reduceIte,reduceCtorEq,Nat.reduceBEq,Nat.reduceLT,keepG.eq_1,keepG.eq_2,gLV.eq_2]<;>simp [hN]))
theorem zsB (hf:∀ a b:Mov,Pure Tryz.prog f [a.pv,b.pv] (.i .i64 (c a b))) (hs:SW (bfC c)) (L:List Mov) (hn:L.length<=1000000):Acts Tryz.prog 197 [.row 900 L.length,.p (.fn (.func f) [] [])] [(900,.row 140 7 (L.map Mov.pv) false)] (.p (.tup [])) [(900,.row 140 7 ((zag c L).map Mov.pv) false)]:=by
 have hsl:=zaa c L
 refine zR (cF Tryz.func197 Tryz.f197.eq_1) (by simp) (by simp [scPs,scP,zk]) (by simp [scObj]) ⟨rfl,trivial⟩ (by simp [scObj]) (by simp [zc2,zk,zaa]) λX hX=>?_
 unfold zD ghO
 have qe:=aI qR (aI @qN (aI @gLV.eq_2 (aI @rtN @rtR)));repeat' first|refine gC ?_ ?_<;>intro hc<;>try contradiction|refine zl [] (zso hf hs L hn) ?_|refine gG ?_|show AK _;intro K H|refine H _ _ ?_;clear H K|refine gJ ?_;try exact trivial|omega
 exact .inl (.mk0 (h2:=by simp only [qS,seval,keepG.eq_1,keepG.eq_2,gLV.eq_2]<;>simp))
end
theorem zi0 (a b:List Mov):Pure Tryz.prog 120 [.sl 7 (a.map Mov.pv),.sl 7 (b.map Mov.pv)] (.tup [.sl 7 ((mgR a b).map Mov.pv),.i .i64 (mgE a b)]):=by
 refine zf (cF Tryz.func120 Tryz.f120.eq_1) (by simp) λhw X hX=>?_
 have he:(if decide (30000 < (a.length:Int)+b.length)=true then (5:Int) else 0)=(if 30000 < (a.length:Int)+b.length then 5 else 0):=by simp
 have hA:=λl=>eq_true (zyx l)
 by_cases h0:mgE a b=0
 ·have h0':=eq_true h0
  have hl:a.length+b.length<=1000000:=by
   have h1:=(zaR (zp.1 h0).1).1
   have h2:=(zaR (zp.1 (zp.1 h0).2).1).1
   omega
  have hlen:(a++b).length=a.length+b.length:=List.length_append
  have h113:Acts Tryz.prog 197 [.row 900 (a.length+b.length),.p (.fn (.func 198) [] [])] [(900,.row 140 7 (a.map Mov.pv++b.map Mov.pv) false)] (.p (.tup [])) [(900,.row 140 7 ((zf5 zk2 a b).map Mov.pv) false)]:=by
   have:=zsB zuj (by rw [zkW];exact zvL) (a++b) (by omega)
   rw [hlen,List.map_append,zlk] at this;exact this
  have hml:(zf5 zk2 a b).length=a.length+b.length:=by rw [(zlO zk2 a b).length_eq,hlen]
  have h0b:(zg [zad a,zad b,if 30000 < (a.length:Int)+b.length then 5 else 0]=0)=True:=h0'
  have qe:=aI qR (aI @qN (aI @hA (aI @he (aI @hml @h0b))));repeat' first|refine gC ?_ ?_<;>intro hc<;>try contradiction|refine za (zhP a) ?_|refine za (zhP b) ?_|refine za (zbP _ _) ?_|refine za (zbw [_,_,_]) ?_|refine zl [(5,25)] (zvV a (by omega)) ?_|refine zl [(900,25)] (h113) ?_|refine gG ?_|show AK _;intro K H|refine H _ _ ?_;clear H K|refine gJ ?_;try exact trivial|omega
  all_goals first|(rw [mgR,if_pos h0,h0];exact .refl _)
 ·have h0':=eq_false h0
  have key:zg [zad a,zad b,if 30000 < IntKind.i64.wrap ((a.length:Int)+b.length) then 5 else 0]=mgE a b:=by
   by_cases h1:zad a=0
   ·by_cases h2:zad b=0
    ·rw [zho (by have:=(zaR h1).1;omega) (by have:=(zaR h1).1;have:=(zaR h2).1;omega)];rfl
    ·simp [mgE,zg,h1,h2]
   ·simp [mgE,zg,h1]
  have qe:=aI qR @he;repeat' first|refine gC ?_ ?_<;>intro hc<;>try contradiction|refine za (zhP a) ?_|refine za (zhP b) ?_|refine za (zbP _ _) ?_|refine za (zbw [_,_,_]) ?_|refine gG ?_|show AK _;intro K H|refine H _ _ ?_;clear H K|refine gJ ?_;try exact trivial|omega
  all_goals first|(rw [key] at hc;exact absurd hc h0)|(rw [key,mgR,if_neg h0];exact zhq (.nilsl _) (.refl _))
end Go.Proofs.YtijgimeokgbifaaGreat
