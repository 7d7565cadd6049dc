/- Contracts of functions that the proof uses, shared by the claims of this seat; no statement of its own. Part 39. No conditions. -/
import Derived.Test.YtahmdjadnlpjoaaGreatK7
import Derived.Test.YtahmdjadnlpjoaaGreatK16
import Derived.Test.YtahmdjadnlpjoaaGreatK18
set_option linter.all false
set_option maxHeartbeats 8000000
namespace Go.Proofs.YtahmdjadnlpjoaaGreat
open Go.RowKit
set_option maxRecDepth 100000
set_option linter.unusedVariables false
set_option linter.unusedSimpArgs false
set_option maxHeartbeats 8000000
theorem zbo {α:Type} (P X S:List α) {j:Nat} (h:j < X.length):(P++(X++S))[P.length+j]?=X[j]?:=by
 rw [List.getElem?_append_right (by omega),Nat.add_sub_cancel_left,List.getElem?_append_left h]
theorem mid_set {α:Type} (P X S:List α) {j:Nat} (v:α) (h:j < X.length):(P++(X++S)).set (P.length+j) v=P++(X.set j v++S):=by
 rw [List.set_append_right _ _ (by omega),Nat.add_sub_cancel_left,List.set_append_left _ _ h]
def swU (U V:List Mov) (i:Nat):List Mov:=V.take i++U.drop i
def swD (P U Q V S:List Mov) (i:Nat):List Mov:=P++(swU U V i++(Q++(swU V U i++S)))
theorem swU_len {U V:List Mov} (h:U.length=V.length) {i:Nat} (hi:i≤U.length):(swU U V i).length=U.length:=by simp [swU];omega
theorem swU_at {U V:List Mov} (h:U.length=V.length) {i:Nat} (hi:i < U.length):(swU U V i)[i]?=U[i]?:=by
 have hl:(V.take i).length=i:=by simp;omega
 rw [swU,List.getElem?_append_right (by omega),hl,Nat.sub_self,List.getElem?_drop,Nat.add_zero]
theorem swU_set {U V:List Mov} (h:U.length=V.length) {i:Nat} {v:Mov} (hv:V[i]?=some v):(swU U V i).set i v=swU U V (i+1):=by
 have hi:=(List.getElem?_eq_some_iff.1 hv).1
 have hl:(V.take i).length=i:=by simp;omega
 rw [swU,swU,List.set_append_right _ _ (by omega),hl,Nat.sub_self,List.take_add_one,hv,List.drop_eq_getElem_cons (by omega),List.set_cons_zero]
 simp
theorem swD_0 (P U Q V S:List Mov):swD P U Q V S 0=P++(U++(Q++(V++S))):=by simp [swD,swU]
theorem swD_n {P U Q V S:List Mov} (h:U.length=V.length):swD P U Q V S U.length=P++(V++(Q++(U++S))):=by
 simp only [swD,swU,List.drop_length,List.take_length,List.append_nil]
 rw [h,List.take_length,List.drop_length,List.append_nil]
theorem swD_len {P U Q V S:List Mov} (h:U.length=V.length) {i:Nat} (hi:i≤U.length):(swD P U Q V S i).length=P.length+(U.length+(Q.length+(V.length+S.length))):=by
 simp only [swD,List.length_append,swU_len h hi,swU_len h.symm (i:=i) (by omega)]
theorem swD_at1 {P U Q V S:List Mov} (h:U.length=V.length) {i:Nat} {u:Mov} (hu:U[i]?=some u):(swD P U Q V S i)[P.length+i]?=some u:=by
 have hi:=(List.getElem?_eq_some_iff.1 hu).1
 rw [swD,zbo _ _ _ (by rw [swU_len h (by omega)];exact hi),swU_at h hi,hu]
theorem swD_at2 {P U Q V S:List Mov} (h:U.length=V.length) {i:Nat} {v:Mov} (hv:V[i]?=some v):(swD P U Q V S i)[P.length+U.length+Q.length+i]?=some v:=by
 have hi:=(List.getElem?_eq_some_iff.1 hv).1
 have e:swD P U Q V S i=(P++(swU U V i++Q))++(swU V U i++S):=by simp [swD]
 have hl:(P++(swU U V i++Q)).length=P.length+U.length+Q.length:=by simp only [List.length_append,swU_len h (show i≤U.length by omega)];omega
 rw [e,←hl,zbo _ _ _ (by rw [swU_len h.symm (by omega)];exact hi),swU_at h.symm hi,hv]
theorem swD_next {P U Q V S:List Mov} (h:U.length=V.length) {i:Nat} {u v:Mov} (hu:U[i]?=some u) (hv:V[i]?=some v):((swD P U Q V S i).set (P.length+i) v).set (P.length+U.length+Q.length+i) u=swD P U Q V S (i+1):=by
 have hi:=(List.getElem?_eq_some_iff.1 hu).1
 have hj:=(List.getElem?_eq_some_iff.1 hv).1
 rw [swD,mid_set _ _ _ _ (by rw [swU_len h (by omega)];exact hi),swU_set h hv]
 have e:P++(swU U V (i+1)++(Q++(swU V U i++S)))=(P++(swU U V (i+1)++Q))++(swU V U i++S):=by simp
 have hl:(P++(swU U V (i+1)++Q)).length=P.length+U.length+Q.length:=by simp only [List.length_append,swU_len h (show i+1≤U.length by omega)];omega
 rw [e,←hl,mid_set _ _ _ _ (by rw [swU_len h.symm (by omega)];exact hj),swU_set h.symm hu]
 simp [swD]
theorem acts166 (f:Nat) {D D':List Mov} {N:Nat} (P U Q V S:List Mov) (hN:D.length=N) (hD:D=P++(U++(Q++(V++S)))) (hD':D'=P++(V++(Q++(U++S)))) (h:U.length=V.length) (a b k:Int) (ha:a=P.length) (hb:b=(P.length+U.length+Q.length:Nat)) (hk:k=U.length) (hn:N≤1000000) :
  Acts Tryz.prog 321 [.row 900 N,.p (.i .i64 a),.p (.i .i64 b),.p (.i .i64 k),.p (.fn (.func f) [] [])] [(900,.row 180 7 (D.map Mov.pv) false)] (.p (.tup [])) [(900,.row 180 7 (D'.map Mov.pv) false)]:=by
 have hlen:D.length=P.length+(U.length+(Q.length+(V.length+S.length))):=by rw [hD];simp
 have hlen':D'.length=N:=by rw [hD',←hN,hlen];simp;omega
 have e0:D=swD P U Q V S 0:=by rw [swD_0,hD]
 refine zS (cF Tryz.func321 Tryz.f321.eq_1) (by simp) (by simp [scPs,scP,zl,hN]) (by simp [scObj]) ⟨rfl,trivial⟩ (by simp [scObj]) (by simp [FolL,zl,hN,hlen']) fun X hX=>?_
 unfold zD ghO
 have qe:=aI qR @gLV.eq_2;repeat' first|refine gC (fun hc=>?_) (fun hc=>?_)<;>try contradiction|refine gG ?_|show AK _;intro K H|refine H _ _ ?_;clear H K|refine gJ ?_;try exact trivial|omega
 refine zk (κ:=Nat) (fun i=>⟨[(0,.row 900 N),(1,.p (.i .i64 a)),(2,.p (.i .i64 b)),(3,.p (.i .i64 k)),(10,.p (.i .i64 i)),(1000900,.row 900 N)],[(900,.row 180 7 ((swD P U Q V S i).map Mov.pv) false)],[],false⟩) (fun i=>i≤U.length) (fun i=>U.length - i) 0 ?_ ?_ ?_
 ·simp only [qS,Nat.reduceAdd,Nat.reduceMul,Nat.reduceEqDiff,Nat.reduceLeDiff,reduceIte,reduceCtorEq,Nat.reduceBEq,Nat.reduceLT,gLV.eq_2]<;>simp [←e0,hN]
 ·simp
 ·intro i hi
  have hsl:=swD_len (P:=P) (Q:=Q) (S:=S) h hi
  have hsN:(swD P U Q V S i).length=N:=by omega
  have i1:(a+(i:Int)).toNat=P.length+i:=by omega
  have i2:(b+(i:Int)).toNat=P.length+U.length+Q.length+i:=by omega
  by_cases hlt:i < U.length
  ·obtain ⟨u,hu⟩:=zn (i:=i) (l:=U) hlt
   obtain ⟨v,hv⟩:=zn (i:=i) (l:=V) (by omega)
   have h1:=swD_at1 (P:=P) (Q:=Q) (S:=S) h hu
   have h2:=swD_at2 (P:=P) (Q:=Q) (S:=S) h hv
   have hik:((i:Int) < k)=True:=eq_true (by omega)
   have qe:=aI qR (aI @hsN (aI @i1 (aI @i2 (aI @h1 (aI @h2 (aI @hik (aI @rtN @rtR)))))));repeat' first|refine gC (fun hc=>?_) (fun hc=>?_)<;>try contradiction|refine gG ?_|show AK _;intro K H|refine H _ _ ?_;clear H K|refine gJ ?_;try exact trivial|omega
   exact ⟨i+1,by omega,by omega,by simp,by rw [←swD_next h hu hv,List.map_set,List.map_set],by rw [swD_len h (by omega)];omega⟩
  ·have hik:((i:Int) < k)=False:=eq_false (by omega)
   have qe:=aI qR (aI @hsN (aI @hik (aI @rtN @rtR)));repeat' first|refine gC (fun hc=>?_) (fun hc=>?_)<;>try contradiction|refine gG ?_|show AK _;intro K H|refine H _ _ ?_;clear H K|refine gJ ?_;try exact trivial|omega
   have e:i=U.length:=by omega
   subst e
   rw [swD_n h,←hD']
   exact .inl (.mk0 (h2:=by simp only [qS,Nat.reduceAdd,Nat.reduceMul,Nat.reduceEqDiff,Nat.reduceLeDiff,reduceIte,reduceCtorEq,Nat.reduceBEq,Nat.reduceLT,keepG.eq_1,keepG.eq_2,gLV.eq_2]<;>simp [hN]))
set_option maxRecDepth 100000
set_option linter.unusedVariables false
set_option linter.unusedSimpArgs false
set_option maxHeartbeats 8000000
theorem less_irrL:∀ l:List UInt8,Op.bytesLess l l=false
 | []=>by simp [Op.bytesLess]
 | x::r=>by simp [Op.bytesLess,less_irrL r]
theorem bl_asym:∀ x y:List UInt8,Op.bytesLess x y=true→Op.bytesLess y x=false
 | _,[],h=>by simp [Op.bytesLess] at h
 | [],_::_,_=>rfl
 | a::x,b::y,h=>by
  simp only [Op.bytesLess,Bool.or_eq_true,Bool.and_eq_true,decide_eq_true_eq,beq_iff_eq,Bool.or_eq_false_iff,Bool.and_eq_false_iff,decide_eq_false_iff_not] at h ⊢
  rw [UInt8.lt_iff_toNat_lt] at h ⊢
  rcases h with h|⟨h1,h2⟩
  ·exact ⟨by omega,.inl (by simp only [beq_eq_false_iff_ne];rintro rfl;omega)⟩
  ·subst h1;exact ⟨by omega,.inr (bl_asym x y h2)⟩
theorem bl_nt:∀ x y z:List UInt8,Op.bytesLess x y=false→Op.bytesLess y z=false→Op.bytesLess x z=false
 | _,_,[],_,_=>by simp [Op.bytesLess]
 | [],[],_::_,_,h=>h
 | [],_::_,_::_,h,_=>by simp [Op.bytesLess] at h
 | _::_,[],_::_,_,h=>by simp [Op.bytesLess] at h
 | a::x,b::y,c::z,h,k=>by
  simp only [Op.bytesLess,Bool.or_eq_false_iff,Bool.and_eq_false_iff,decide_eq_false_iff_not,beq_eq_false_iff_ne,UInt8.lt_iff_toNat_lt] at h k ⊢
  refine ⟨by omega,?_⟩
  by_cases e:a=c
  ·subst e
   have e2:a=b:=UInt8.toNat_inj.1 (by omega)
   subst e2
   exact .inr (bl_nt x y z (h.2.resolve_left (by simp)) (k.2.resolve_left (by simp)))
  ·exact .inl e
theorem bl_tri:∀ x y:List UInt8,Op.bytesLess x y=false→Op.bytesLess y x=false→x=y
 | [],[],_,_=>rfl
 | [],_::_,h,_=>by simp [Op.bytesLess] at h
 | _::_,[],_,h=>by simp [Op.bytesLess] at h
 | a::x,b::y,h,k=>by
  simp only [Op.bytesLess,Bool.or_eq_false_iff,Bool.and_eq_false_iff,decide_eq_false_iff_not,beq_eq_false_iff_ne,UInt8.lt_iff_toNat_lt] at h k
  have e2:a=b:=UInt8.toNat_inj.1 (by omega)
  subst e2
  rw [bl_tri x y (h.2.resolve_left (by simp)) (k.2.resolve_left (by simp))]
theorem ba_eq {x y:ByteArray} (h:x.toList=y.toList):x=y:=by
 have:=zbC x y
 rw [h,beq_self_eq_true] at this
 exact of_decide_eq_true this.symm
theorem ba_tri {x y:ByteArray} (h:Op.bytesLess x.toList y.toList=false) (k:Op.bytesLess y.toList x.toList=false):x=y:=ba_eq (bl_tri _ _ h k)
theorem befM_sw:SW befM where
 asym:=fun a b h=>by
  unfold befM at h ⊢
  by_cases h1:a.moment=b.moment
  ·rw [if_pos h1] at h;rw [if_pos h1.symm]
   by_cases h2:a.kind=b.kind
   ·rw [if_pos h2] at h;rw [if_pos h2.symm];exact bl_asym _ _ h
   ·rw [if_neg h2] at h;rw [if_neg (Ne.symm h2)];exact bl_asym _ _ h
  ·rw [if_neg h1] at h;rw [if_neg (Ne.symm h1)]
   simp only [decide_eq_true_eq,decide_eq_false_iff_not] at h ⊢;omega
 nt:=fun a b c h k=>by
  have key:∀ x y:Mov,befM x y=false→y.moment≤x.moment∧(x.moment=y.moment→Op.bytesLess x.kind.toList y.kind.toList=false∧(x.kind=y.kind→Op.bytesLess x.name.toList y.name.toList=false)):=fun x y h=>by
   unfold befM at h
   by_cases h1:x.moment=y.moment
   ·rw [if_pos h1] at h
    refine ⟨by omega,fun _=>?_⟩
    by_cases h2:x.kind=y.kind
    ·rw [if_pos h2] at h;exact ⟨by rw [h2];exact less_irrL _,fun _=>h⟩
    ·rw [if_neg h2] at h;exact ⟨h,fun e=>absurd e h2⟩
   ·rw [if_neg h1] at h
    simp only [decide_eq_false_iff_not] at h
    exact ⟨by omega,fun e=>absurd e h1⟩
  obtain ⟨a1,a2⟩:=key a b h
  obtain ⟨b1,b2⟩:=key b c k
  unfold befM
  by_cases h1:a.moment=c.moment
  ·rw [if_pos h1]
   obtain ⟨a3,a4⟩:=a2 (by omega)
   obtain ⟨b3,b4⟩:=b2 (by omega)
   by_cases h2:a.kind=c.kind
   ·rw [if_pos h2]
    have e:a.kind=b.kind:=ba_tri a3 (by rw [h2];exact b3)
    exact bl_nt _ _ _ (a4 e) (b4 (e.symm.trans h2))
   ·rw [if_neg h2];exact bl_nt _ _ _ a3 b3
  ·rw [if_neg h1];simp only [decide_eq_false_iff_not];omega
end Go.Proofs.YtahmdjadnlpjoaaGreat
