/- Contracts of functions, for the claim. No conditions. -/
import Derived.Test.YtijgimeokgbifaaGreatK6
set_option linter.all false
set_option maxHeartbeats 8000000
set_option maxRecDepth 100000
namespace Go.Proofs.YtijgimeokgbifaaGreat
open Go.RowKit
theorem zo3:PV.any.cells=[.any]:=rfl
theorem zbb (x:Int):(decide (x=x))=true:=decide_eq_true rfl
theorem zi3 (x:Int):Pure Tryz.prog 216 [.i .i64 x] (.b false):=by
 refine zf (cF Tryz.func216 Tryz.f216.eq_1) (by simp) λhw X hX=>?_
 have qe:=@zbb;repeat' first|refine gC ?_ ?_<;>intro hc<;>try contradiction|refine gG ?_|show AK _;intro K H|refine H _ _ ?_;clear H K|refine gJ ?_;try exact trivial|omega
 exact .refl _
theorem znH (x:Int):Pure Tryz.prog 287 [.i .i64 x] (.b false):=by
 refine zf (cF Tryz.func287 Tryz.f287.eq_1) (by simp) λhw X hX=>?_
 have qe:=@zbb;repeat' first|refine gC ?_ ?_<;>intro hc<;>try contradiction|refine gG ?_|show AK _;intro K H|refine H _ _ ?_;clear H K|refine gJ ?_;try exact trivial|omega
 exact .refl _
theorem zt6 (a b:Int):Pure Tryz.prog 286 [.i .i64 a,.i .i64 b] (.b (decide (a < b))):=by
 refine zf (cF Tryz.func286 Tryz.f286.eq_1) (by simp) λhw X hX=>?_
 repeat' first|refine gC ?_ ?_<;>intro hc<;>try contradiction|refine za (zi3 _) ?_|refine zM (λ_=>zi3 _) ?_|refine gG ?_|show AK _;intro K H|refine H _ _ ?_;clear H K|refine gJ ?_;try exact trivial|omega
 exact .refl _
def zeH (l:List Int):Prop:=∀ (i j:Nat) (x y:Int),i<=j->l[i]?=some x->l[j]?=some y->x<=y
def ltN (l:List Int) (x:Int):Nat:=(l.filter λy=>decide (y < x)).length
theorem zxf {l:List Int} {x:Int} {i:Nat} (h1:∀ y ∈ l.take i,y < x) (h2:∀ y ∈ l.drop i,x<=y) (hi:i<=l.length):ltN l x=i:=by
 conv=>lhs;rw [<-List.take_append_drop i l]
 rw [ltN,List.filter_append,List.length_append,List.filter_eq_self.2 (λy hy=>by simpa using h1 y hy),List.filter_eq_nil_iff.2 (λy hy=>by have:=h2 y hy;simp;omega)]
 simp;omega
theorem zt7 (l:List Int) (x:Int) (hs:zeH l) (hn:l.length<=1000000):Pure Tryz.prog 279 [.sl 1 (l.map (.i .i64)),.i .i64 x] (.tup [.i .i64 (ltN l x),.any]):=by
 refine zf (cF Tryz.func279 Tryz.f279.eq_1) (by simp) λhw X hX=>?_
 simp only [wfs,PV.wf,List.length_map,maxLen] at hw
 repeat' first|refine gC ?_ ?_<;>intro hc<;>try contradiction|refine gG ?_|show AK _;intro K H|refine H _ _ ?_;clear H K|refine gJ ?_;try exact trivial|omega
 refine zj (κ:=Nat × Nat) (λk=>⟨[(0,.p (.sl 1 (l.map (.i .i64)))),(1,.p (.i .i64 x)),(6,.p (.i .i64 l.length)),(7,.p (.i .i64 k.1)),(8,.p (.i .i64 k.2))],[],[],false⟩) (λk=>k.1<=k.2/\k.2<=l.length/\(∀ y ∈ l.take k.1,y < x)/\∀ y ∈ l.drop k.2,x<=y) (λk=>k.2 - k.1) (0,l.length) ?_ ?_ ?_
 ·exact sS
 ·simp
 ·intro k hk
  obtain ⟨i,j⟩:=k
  simp only at hk
  have hm:IntKind.i64.wrap ((IntKind.u64.wrap ((i:Int)+j)).fdiv (2 ^ min (Int.toNat 1) IntKind.u64.bits))=(((i+j) / 2:Nat):Int):=by
   rw [IntKind.wrap_u64,show (2:Int) ^ min (Int.toNat 1) IntKind.u64.bits=2 from rfl,Int.fdiv_eq_ediv_of_nonneg _ (by decide)]
   rw [show (((i:Int)+j) % 18446744073709551616 / 2)=(((i+j) / 2:Nat):Int) by omega]
   exact zho (by omega) (by omega)
  by_cases hij:i < j
  ·obtain ⟨y,hy⟩:=zm (i:=(i+j) / 2) (l:=l) (by omega)
   have qe:=aI @hm @hy;repeat' first|refine gC ?_ ?_<;>intro hc<;>try contradiction|refine za (zt6 _ _) ?_|refine gG ?_|show AK _;intro K H|refine H _ _ ?_;clear H K|refine gJ ?_;try exact trivial|omega
   ·refine ⟨((i+j) / 2+1,j),⟨by simp only;omega,hk.2.1,λz hz=>?_,hk.2.2.2⟩,by simp only;omega,by simp,rfl⟩
    obtain ⟨q,hq⟩:=List.getElem?_of_mem hz
    rw [List.getElem?_take] at hq
    split at hq
    ·have:=hs q ((i+j) / 2) z y (by omega) hq hy;omega
    ·cases hq
   ·refine ⟨(i,(i+j) / 2),⟨by simp only;omega,by simp only;omega,hk.2.2.1,λz hz=>?_⟩,by simp only;omega,rfl,rfl⟩
    obtain ⟨q,hq⟩:=List.getElem?_of_mem hz
    rw [List.getElem?_drop] at hq
    have:=hs ((i+j) / 2) _ y z (by omega) hy hq;omega
  ·have e:i=j:=by omega
   subst e
   have hres:=zxf hk.2.2.1 hk.2.2.2 hk.2.1
   by_cases hil:i < l.length
   ·obtain ⟨y,hy⟩:=zm (i:=i) (l:=l) hil
    have hil':((i:Int) < l.length)=True:=eq_true (by omega)
    by_cases hyx:y=x
    ·have hyx':(y=x)=True:=eq_true hyx
     have qe:=aI @hm (aI @hy (aI @hil' @hyx'));repeat' first|refine gC ?_ ?_<;>intro hc<;>try contradiction|refine zM (λ_=>znH _) ?_|refine gG ?_|show AK _;intro K H|refine H _ _ ?_;clear H K|refine gJ ?_;try exact trivial|omega
     rw [hres];exact zhq (.refl _) (.any _)
    ·have hyx':(y=x)=False:=eq_false hyx
     have qe:=aI @hm (aI @hy (aI @hil' @hyx'));repeat' first|refine gC ?_ ?_<;>intro hc<;>try contradiction|refine zM (λ_=>znH _) ?_|refine gG ?_|show AK _;intro K H|refine H _ _ ?_;clear H K|refine gJ ?_;try exact trivial|omega
     rw [hres];exact zhq (.refl _) (.any _)
   ·have hil':((i:Int) < l.length)=False:=eq_false (by omega)
    have hy:l[i]?=none:=List.getElem?_eq_none (by omega)
    have qe:=aI @hm (aI @hil' (aI @hy @zo3));repeat' first|refine gC ?_ ?_<;>intro hc<;>try contradiction|(show zi _ _ _ _ (⟨_,.call _,_,_,_⟩::_) _ _;refine zbj (hf:=λhc=>(by first|exact (absurd hc Bool.false_ne_true:Pure Tryz.prog 287 _ (.b false))|(simp only [qH,zdm] at hc;exact (absurd hc Bool.false_ne_true:Pure Tryz.prog 287 _ (.b false))))) (hn:=?_))|refine gG ?_|show AK _;intro K H|refine H _ _ ?_;clear H K|refine gJ ?_;try exact trivial|omega
    rw [hres];exact zhq (.refl _) (.any _)
theorem zug (l:List Int) (x:Int) (hs:zeH l) (hn:l.length<=1000000):Pure Tryz.prog 258 [.sl 1 (l.map (.i .i64)),.i .i64 x] (.i .i64 (ltN l x)):=by
 refine zf (cF Tryz.func258 Tryz.f258.eq_1) (by simp) λhw X hX=>?_
 repeat' first|refine gC ?_ ?_<;>intro hc<;>try contradiction|refine za (zt7 l x hs hn) ?_|refine gG ?_|show AK _;intro K H|refine H _ _ ?_;clear H K|refine gJ ?_;try exact trivial|omega
 exact .refl _
def cntW (l:List Int) (b len:Int):Int:=(ltN l (b+len):Int) - ltN l b
theorem zsQ (l:List Int) (x:Int):ltN l x<=l.length:=List.length_filter_le _ _
theorem zwR (l:List Int) (b len:Int) (hs:zeH l) (hn:l.length<=1000000) (h0:-1000000<=b) (h1:b<=1000000000) (h2:0<=len) (h3:len<=10000):Pure Tryz.prog 207 [.sl 1 (l.map (.i .i64)),.i .i64 b,.i .i64 len] (.i .i64 (cntW l b len)):=by
 refine zf (cF Tryz.func207 Tryz.f207.eq_1) (by simp) λhw X hX=>?_
 have e1:=zsQ l (b+len)
 have e2:=zsQ l b
 repeat' first|refine gC ?_ ?_<;>intro hc<;>try contradiction|refine za (zug l _ hs hn) ?_|refine gG ?_|show AK _;intro K H|refine H _ _ ?_;clear H K|refine gJ ?_;try exact trivial|omega
 exact .refl _
theorem zbo {α:Type} (P X S:List α) {j:Nat} (h:j < X.length):(P++(X++S))[P.length+j]?=X[j]?:=by
 rw [List.getElem?_append_right (by omega),Nat.add_sub_cancel_left,List.getElem?_append_left h]
theorem zcz {α:Type} (P X S:List α) {j:Nat} (v:α) (h:j < X.length):(P++(X++S)).set (P.length+j) v=P++(X.set j v++S):=by
 rw [List.set_append_right _ _ (by omega),Nat.add_sub_cancel_left,List.set_append_left _ _ h]
def swU (U V:List Mov) (i:Nat):List Mov:=V.take i++U.drop i
def swD (P U Q V S:List Mov) (i:Nat):List Mov:=P++(swU U V i++(Q++(swU V U i++S)))
theorem zcm {U V:List Mov} (h:U.length=V.length) {i:Nat} (hi:i<=U.length):(swU U V i).length=U.length:=by simp [swU];omega
theorem zsD {U V:List Mov} (h:U.length=V.length) {i:Nat} (hi:i < U.length):(swU U V i)[i]?=U[i]?:=by
 have hl:(V.take i).length=i:=by simp;omega
 rw [swU,List.getElem?_append_right (by omega),hl,Nat.sub_self,List.getElem?_drop,Nat.add_zero]
theorem zmL {U V:List Mov} (h:U.length=V.length) {i:Nat} {v:Mov} (hv:V[i]?=some v):(swU U V i).set i v=swU U V (i+1):=by
 have hi:=(List.getElem?_eq_some_iff.1 hv).1
 have hl:(V.take i).length=i:=by simp;omega
 rw [swU,swU,List.set_append_right _ _ (by omega),hl,Nat.sub_self,List.take_add_one,hv,List.drop_eq_getElem_cons (by omega),List.set_cons_zero]
 simp
theorem swD_0 (P U Q V S:List Mov):swD P U Q V S 0=P++(U++(Q++(V++S))):=by simp [swD,swU]
theorem swD_n {P U Q V S:List Mov} (h:U.length=V.length):swD P U Q V S U.length=P++(V++(Q++(U++S))):=by
 simp only [swD,swU,List.drop_length,List.take_length,List.append_nil]
 rw [h,List.take_length,List.drop_length,List.append_nil]
theorem zmM {P U Q V S:List Mov} (h:U.length=V.length) {i:Nat} (hi:i<=U.length):(swD P U Q V S i).length=P.length+(U.length+(Q.length+(V.length+S.length))):=by
 simp only [swD,List.length_append,zcm h hi,zcm h.symm (i:=i) (by omega)]
theorem ztj {P U Q V S:List Mov} (h:U.length=V.length) {i:Nat} {u:Mov} (hu:U[i]?=some u):(swD P U Q V S i)[P.length+i]?=some u:=by
 have hi:=(List.getElem?_eq_some_iff.1 hu).1
 rw [swD,zbo _ _ _ (by rw [zcm h (by omega)];exact hi),zsD h hi,hu]
theorem zti {P U Q V S:List Mov} (h:U.length=V.length) {i:Nat} {v:Mov} (hv:V[i]?=some v):(swD P U Q V S i)[P.length+U.length+Q.length+i]?=some v:=by
 have hi:=(List.getElem?_eq_some_iff.1 hv).1
 have e:swD P U Q V S i=(P++(swU U V i++Q))++(swU V U i++S):=by simp [swD]
 have hl:(P++(swU U V i++Q)).length=P.length+U.length+Q.length:=by simp only [List.length_append,zcm h (show i<=U.length by omega)];omega
 rw [e,<-hl,zbo _ _ _ (by rw [zcm h.symm (by omega)];exact hi),zsD h.symm hi,hv]
theorem zpJ {P U Q V S:List Mov} (h:U.length=V.length) {i:Nat} {u v:Mov} (hu:U[i]?=some u) (hv:V[i]?=some v):((swD P U Q V S i).set (P.length+i) v).set (P.length+U.length+Q.length+i) u=swD P U Q V S (i+1):=by
 have hi:=(List.getElem?_eq_some_iff.1 hu).1
 have hj:=(List.getElem?_eq_some_iff.1 hv).1
 rw [swD,zcz _ _ _ _ (by rw [zcm h (by omega)];exact hi),zmL h hv]
 have e:P++(swU U V (i+1)++(Q++(swU V U i++S)))=(P++(swU U V (i+1)++Q))++(swU V U i++S):=by simp
 have hl:(P++(swU U V (i+1)++Q)).length=P.length+U.length+Q.length:=by simp only [List.length_append,zcm h (show i+1<=U.length by omega)];omega
 rw [e,<-hl,zcz _ _ _ _ (by rw [zcm h.symm (by omega)];exact hj),zmL h.symm hu]
 simp [swD]
theorem zjX (f:Nat) {D D':List Mov} {N:Nat} (P U Q V S:List Mov) (hN:D.length=N) (hD:D=P++(U++(Q++(V++S)))) (hD':D'=P++(V++(Q++(U++S)))) (h:U.length=V.length) (a b k:Int) (ha:a=P.length) (hb:b=(P.length+U.length+Q.length:Nat)) (hk:k=U.length) (hn:N<=1000000) :
  Acts Tryz.prog 289 [.row 900 N,.p (.i .i64 a),.p (.i .i64 b),.p (.i .i64 k),.p (.fn (.func f) [] [])] [(900,.row 140 7 (D.map Mov.pv) false)] (.p (.tup [])) [(900,.row 140 7 (D'.map Mov.pv) false)]:=by
 have hlen:D.length=P.length+(U.length+(Q.length+(V.length+S.length))):=by rw [hD];simp
 have hlen':D'.length=N:=by rw [hD',<-hN,hlen];simp;omega
 have e0:D=swD P U Q V S 0:=by rw [swD_0,hD]
 refine zR (cF Tryz.func289 Tryz.f289.eq_1) (by simp) (by simp [scPs,scP,zk,hN]) (by simp [scObj]) ⟨rfl,trivial⟩ (by simp [scObj]) (by simp [zc2,zk,hN,hlen']) λX hX=>?_
 unfold zD ghO
 have qe:=aI qR @gLV.eq_2;repeat' first|refine gC ?_ ?_<;>intro hc<;>try contradiction|refine gG ?_|show AK _;intro K H|refine H _ _ ?_;clear H K|refine gJ ?_;try exact trivial|omega
 refine zj (κ:=Nat) (λi=>⟨[(0,.row 900 N),(1,.p (.i .i64 a)),(2,.p (.i .i64 b)),(3,.p (.i .i64 k)),(10,.p (.i .i64 i)),(1000900,.row 900 N)],[(900,.row 140 7 ((swD P U Q V S i).map Mov.pv) false)],[],false⟩) (λi=>i<=U.length) (λi=>U.length - i) 0 ?_ ?_ ?_
 ·simp only [qS,seval,gLV.eq_2]<;>simp [<-e0,hN]
 ·simp
 ·intro i hi
  have hsl:=zmM (P:=P) (Q:=Q) (S:=S) h hi
  have hsN:(swD P U Q V S i).length=N:=by omega
  have i1:(a+(i:Int)).toNat=P.length+i:=by omega
  have i2:(b+(i:Int)).toNat=P.length+U.length+Q.length+i:=by omega
  by_cases hlt:i < U.length
  ·obtain ⟨u,hu⟩:=zm (i:=i) (l:=U) hlt
   obtain ⟨v,hv⟩:=zm (i:=i) (l:=V) (by omega)
   have h1:=ztj (P:=P) (Q:=Q) (S:=S) h hu
   have h2:=zti (P:=P) (Q:=Q) (S:=S) h hv
   have hik:((i:Int) < k)=True:=eq_true (by omega)
   have qe:=aI qR (aI @hsN (aI @i1 (aI @i2 (aI @h1 (aI @h2 (aI @hik (aI @rtN @rtR)))))));repeat' first|refine gC ?_ ?_<;>intro hc<;>try contradiction|refine gG ?_|show AK _;intro K H|refine H _ _ ?_;clear H K|refine gJ ?_;try exact trivial|omega
   exact ⟨i+1,by omega,by omega,by simp,by rw [<-zpJ h hu hv,List.map_set,List.map_set],by rw [zmM h (by omega)];omega⟩
  ·have hik:((i:Int) < k)=False:=eq_false (by omega)
   have qe:=aI qR (aI @hsN (aI @hik (aI @rtN @rtR)));repeat' first|refine gC ?_ ?_<;>intro hc<;>try contradiction|refine gG ?_|show AK _;intro K H|refine H _ _ ?_;clear H K|refine gJ ?_;try exact trivial|omega
   have e:i=U.length:=by omega
   subst e
   rw [swD_n h,<-hD']
   exact .inl (.mk0 (h2:=by simp only [qS,seval,keepG.eq_1,keepG.eq_2,gLV.eq_2]<;>simp [hN]))
end Go.Proofs.YtijgimeokgbifaaGreat
