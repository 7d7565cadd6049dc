/- Contracts of functions, for the claim. No conditions. -/
import Derived.Test.YtijgimeokgbifaaGreatK3
set_option linter.all false
set_option maxHeartbeats 8000000
set_option maxRecDepth 100000
namespace Go.Proofs.YtijgimeokgbifaaGreat
open Go.RowKit
def zvt (p:Per) (k:Nat):List (List PV):=if inM p.days ((p.fro+k+5) % 7) then [[.i .i64 (p.fro+k)]] else []
def zmj (p:Per) (n:Nat):List (List PV):=(List.range n).flatMap (zvt p)
theorem zrY (p:Per):zmj p (p.to - p.fro+1).toNat=(zW p).map λd=>[.i .i64 d]:=by
 simp only [zmj,zvt,zW,List.map_flatMap]
 congr 1;funext k;simp only [zvt];split<;>rfl
theorem zuI (p:Per) (h:zau p=0):zpk Tryz.prog 278 [.ip p.pv 0] ((zW p).map λd=>[.i .i64 d]):=by
 have hp:=zaY h
 rw [<-zrY]
 refine zg2 (cF Tryz.func278 Tryz.f278.eq_1) (by simp) λhw X hX=>?_
 simp only [zbp]
 repeat' first|refine gC ?_ ?_<;>intro hc<;>try contradiction|refine gG ?_|show AK _;intro K H|refine H _ _ ?_;clear H K|refine gJ ?_;try exact trivial|omega
 refine zj (κ:=Nat) (λk=>⟨[(0,.yield),(1,.p (.ip p.pv 0)),(3,.p (.i .i64 (p.fro+k)))],[],zmj p k,false⟩) (λk=>k<=(p.to - p.fro+1).toNat) (λk=>(p.to - p.fro+1).toNat - k) 0 ?_ ?_ ?_
 ·refine gJ ?_;simp [zmj]
 ·simp
 ·intro k hk
  repeat' first|refine gC ?_ ?_<;>intro hc<;>try contradiction|refine gG ?_|show AK _;intro K H|refine H _ _ ?_;clear H K|refine gJ ?_;try exact trivial|omega
  ·have hc':k < (p.to - p.fro+1).toNat:=by omega
   have hs:=zbm (zvt p) hc'
   by_cases hm:inM p.days ((p.fro+k+5) % 7)=true
   ·simp only [zvt,hm,if_true,List.singleton_append] at hs
    have qe:=@hm;repeat' first|refine gC ?_ ?_<;>intro hc<;>try contradiction|refine zbO (hf:=zi1 _ (by omega) (by omega)) (hn:=?_)|refine zbO (hf:=zgD _ _ (by omega) (by omega) (by omega) (by omega)) (hn:=?_)|refine gG ?_|show AK _;intro K H|refine H _ _ ?_;clear H K|refine gJ ?_;try exact trivial|omega
    have qe:=@hm;(show zi _ _ _ _ (⟨_,.callv,_,_,_⟩::_) _ _;refine zgv (by first|rfl|(simp (disch:=omega) only [qG,qe,seval]<;>rfl)) (by simp (disch:=omega) only [qS,qe,seval]) (by simp (disch:=omega) only [qS,qe,seval]<;>rfl) (by simp (disch:=omega) only [qS,qe,seval];try trivial) rfl _ (hs) ?_;intro b;(refine zE ?_))
    have qe:=@hm;repeat' first|refine gC ?_ ?_<;>intro hc<;>try contradiction|refine gG ?_|show AK _;intro K H|refine H _ _ ?_;clear H K|refine gJ ?_;try exact trivial|omega
    ·subst hc;exact .inl rfl
    ·subst hc;refine ⟨k+1,by omega,by omega,by simp;omega,?_,rfl⟩
     simp only [zmj,zab,zvt,hm];simp
   ·simp only [Bool.not_eq_true] at hm
    have qe:=@hm;repeat' first|refine gC ?_ ?_<;>intro hc<;>try contradiction|refine zbO (hf:=zi1 _ (by omega) (by omega)) (hn:=?_)|refine zbO (hf:=zgD _ _ (by omega) (by omega) (by omega) (by omega)) (hn:=?_)|(show zi _ _ _ _ (⟨_,.callv,_,_,_⟩::_) _ _;refine zbi (q:=(.b false)) (by first|rfl|(simp (disch:=omega) only [qG,qe,seval]<;>rfl)) ?_;(try (refine zE ?_)))|refine gG ?_|show AK _;intro K H|refine H _ _ ?_;clear H K|refine gJ ?_;try exact trivial|omega
    refine ⟨k+1,by omega,by omega,by simp;omega,?_⟩
    simp only [zmj,zab,zvt,hm];simp
  ·repeat' first|refine gC ?_ ?_<;>intro hc<;>try contradiction|refine gG ?_|show AK _;intro K H|refine H _ _ ?_;clear H K|refine gJ ?_;try exact trivial|omega
   have e:k=(p.to - p.fro+1).toNat:=by omega
   subst e;exact .inr rfl
theorem zub (d:Int):Pure Tryz.prog 255 [.i .i64 d] (.b true):=by
 refine zf (cF Tryz.func255 Tryz.f255.eq_1) (by simp) λhw X hX=>?_
 repeat' first|refine gC ?_ ?_<;>intro hc<;>try contradiction|refine gG ?_|show AK _;intro K H|refine H _ _ ?_;clear H K|refine gJ ?_;try exact trivial|omega
 exact .refl _
theorem zuc (p:Per):Pure Tryz.prog 254 [p.pv] (.fn (.func 278) [] [.ip p.pv 0]):=by
 refine zf (cF Tryz.func254 Tryz.f254.eq_1) (by simp) λhw X hX=>?_
 repeat' first|refine gC ?_ ?_<;>intro hc<;>try contradiction|refine gG ?_|show AK _;intro K H|refine H _ _ ?_;clear H K|refine gJ ?_;try exact trivial|omega
 exact .refl _
theorem zud (p:Per) (h:zau p=0):Pure Tryz.prog 253 [.fn (.func 278) [] [.ip p.pv 0],.fn (.func 255) [] []] (.sl 1 ((zW p).map (.i .i64))):=by
 refine zf (cF Tryz.func253 Tryz.f253.eq_1) (by simp) λhw X hX=>?_
 repeat' first|refine gC ?_ ?_<;>intro hc<;>try contradiction|refine gG ?_|show AK _;intro K H|refine H _ _ ?_;clear H K|refine gJ ?_;try exact trivial|omega
 have hp:=zaY h
 have hn:=zcG p
 refine zaP 100 3 1 [(3,.lp 3 0),(5,.lp 5 0),(7,.p (.fn (.func 278) [] [.ip p.pv 0]))] [(3,.box [.p (.fn (.func 255) [] [])] false),(5,.box [.row 100 0] false)] ?_ ?_
 ·simp only [Own,zaM,zaB,zbt,zay,qS,seval]
 refine zco rfl (zuI p h) ?_ ?_ [(3,.lp 3 0),(5,.lp 5 0),(7,.p (.fn (.func 278) [] [.ip p.pv 0]))] (λk=>[(3,.box [.p (.fn (.func 255) [] [])] false),(5,.box [.row 100 k] false),(100,.row 3 1 (((zW p).take k).map (.i .i64)) false)]) (λ_=>[]) ?_ ?_ ?_
 ·simp
 ·simp [hX]
 ·exact sE
 ·intro k t ht X' ro' hX'
  simp only [List.getElem?_map,Option.map_eq_some_iff] at ht
  obtain ⟨d,hd,rfl⟩:=ht
  have hl:=zgr hd
  have hk:=(List.getElem?_eq_some_iff.1 hd).1
  simp only [qS,seval]
  repeat' first|refine gC ?_ ?_<;>intro hc<;>try contradiction|refine gG ?_|show AK _;intro K H|refine H _ _ ?_;clear H K|refine gJ ?_;try exact trivial|omega
  intro X1 hX1
  have qe:=aI qR (aI @hl (zdh (PV.i .i64) hd));repeat' first|refine gC ?_ ?_<;>intro hc<;>try contradiction|refine zq (zub _) ?_|refine gG ?_|show AK _;intro K H|refine H _ _ ?_;clear H K|refine gJ ?_;try exact trivial|omega
 ·simp only [List.length_map]
  have qe:=@List.take_length.{0};repeat' first|refine gC ?_ ?_<;>intro hc<;>try contradiction|refine gG ?_|show AK _;intro K H|refine H _ _ ?_;clear H K|refine gJ ?_;try exact trivial|omega
  exact .refl _
theorem zhq {a b c d:PV} (h1:Weak a b) (h2:Weak c d):Weak (.tup [a,c]) (.tup [b,d]):=by
 refine .tup rfl λj x y hx hy=>?_
 match j with
 | 0=>simp at hx hy;subst hx;subst hy;exact h1
 | 1=>simp at hx hy;subst hx;subst hy;exact h2
 | j+2=>simp at hx
def zdg (p:Per):List Int:=if zau p=0 then zW p else []
theorem zi6 (p:Per):Pure Tryz.prog 201 [p.pv] (.tup [.sl 1 ((zdg p).map (.i .i64)),.i .i64 (zau p)]):=by
 refine zf (cF Tryz.func201 Tryz.f201.eq_1) (by simp) λhw X hX=>?_
 repeat' first|refine gC ?_ ?_<;>intro hc<;>try contradiction|refine za (zcu _) ?_|refine za (zuc _) ?_|refine za (zud p hc) ?_|refine gG ?_|show AK _;intro K H|refine H _ _ ?_;clear H K|refine gJ ?_;try exact trivial|omega
 ·rw [zdg,if_neg hc];exact zhq (.nilsl _) (.refl _)
 ·rw [zdg,if_pos hc,hc];exact .refl _
def zsS (p:Per) (d:Int):Int:=zg [zau p,rng d 0 99999]
def zsT (p:Per) (d:Int):Bool:=decide (zsS p d=0) && hasD p d
theorem zi5 (p:Per) (d:Int):Pure Tryz.prog 84 [p.pv,.i .i64 d] (.tup [.b (zsT p d),.i .i64 (zsS p d)]):=by
 refine zf (cF Tryz.func84 Tryz.f84.eq_1) (by simp) λhw X hX=>?_
 have qe:=@qR;repeat' first|refine gC ?_ ?_<;>intro hc<;>try contradiction|refine za (zcu _) ?_|refine za (znL _) ?_|refine za (zi2 [_,_]) ?_|refine gG ?_|show AK _;intro K H|refine H _ _ ?_;clear H K|refine gJ ?_;try exact trivial|omega
 ·have:zsS p d≠0:=hc
  simp only [zsT,this,decide_false,Bool.false_and];exact .refl _
 ·have h0:zsS p d=0:=hc
  have h1:=h0
  simp only [zsS,zp,zdm] at h1
  have hp:=zaY h1.1
  repeat' first|refine gC ?_ ?_<;>intro hc<;>try contradiction|refine za (zt8 p d (by omega) (by omega) (by omega) (by omega)) ?_|refine gG ?_|show AK _;intro K H|refine H _ _ ?_;clear H K|refine gJ ?_;try exact trivial|omega
  simp only [zsT,h0,decide_true,Bool.true_and];exact .refl _
theorem Pure.args {P:Program} {f:FuncId} {args args':List PV} {r:PV} (h:Pure P f args r) (hl:args'.length=args.length) (hw:∀ (j:Nat) (x y:PV),args'[j]?=some x->args[j]?=some y->Weak x y):Pure P f args' r:=
 ⟨h.1,λw B vs hB hr=>h.2 w B vs hB ⟨hr.1.trans hl,λj v p hv hp=>by
  have hj:j < args'.length:=by rw [hl];exact (List.getElem?_eq_some_iff.1 hp).1
  exact (hw j _ p (List.getElem?_eq_getElem hj) hp).rep (hr.2 j v _ hv (List.getElem?_eq_getElem hj))⟩⟩
theorem zcF {α β:Type} {f:α->List β} {c:Nat}:∀ {l:List α},(∀ x ∈ l,(f x).length<=c)->(l.flatMap f).length<=l.length*c
 | [],_=>by simp
 | x::r,h=>by
  have h1:=h x (by simp)
  have h2:=zcF (l:=r) λy hy=>h y (by simp [hy])
  simp only [List.flatMap_cons,List.length_append,List.length_cons,Nat.succ_mul];omega
theorem zfh {α:Type} {l:List α} {p:α->Bool} {k:Nat} {x:α} (h:l[k]?=some x):(l.take (k+1)).filter p=(l.take k).filter p++(if p x then [x] else []):=by
 rw [List.take_add_one,h,List.filter_append]
 cases hp:p x<;>simp [List.filter_cons,hp]
theorem zjB {α:Type} {l:List α} {p:α->Bool} {k:Nat}:((l.take k).filter p).length<=l.length:=by
 have:=List.length_filter_le p (l.take k)
 simp only [List.length_take] at this;omega
theorem zrk (x:ByteArray):(x=x)=True:=eq_true rfl
theorem zie {p:Per} {d:Int} (h:d ∈ zW p):p.fro<=d/\d<=p.to/\inM p.days ((d+5) % 7)=true:=by
 obtain ⟨k,hk,hd⟩:=List.mem_flatMap.1 h
 split at hd
 ·simp at hd;subst hd
  have:=List.mem_range.1 hk
  exact ⟨by omega,by omega,by assumption⟩
 ·cases hd
end Go.Proofs.YtijgimeokgbifaaGreat
