/- Contracts of functions that the proof uses, shared by the claims of this seat; no statement of its own. Part 71. No conditions. -/
import Derived.Test.YtahmdjadnlpjoaaGreatH0
set_option linter.all false
set_option maxHeartbeats 8000000
set_option maxRecDepth 100000
namespace Go.Proofs.YtahmdjadnlpjoaaGreat
open Go.RowKit
def ydP (ls:List Lim) (m:List Mov):Int:=if bothC ls m=0 then (match yK ls m with|[]=>7|_::_=>0) else bothC ls m
def firR (ls:List Lim) (m:List Mov):Win:=if bothC ls m=0 then (match yK ls m with|[]=>⟨0,0,0⟩|w::_=>w) else ⟨0,0,0⟩
theorem pure57 (ls:List Lim) (m:List Mov):Pure Tryz.prog 77 [.sl 11 (ls.map Lim.pv),.sl 7 (m.map Mov.pv)] (.tup [(firR ls m).pv,.i .i64 (ydP ls m)]):=by
 refine zf (cF Tryz.func77 Tryz.f77.eq_1) (by simp) λhw X hX=>?_
 have qe:=@qR;repeat' first|refine gC ?_ ?_<;>intro hc<;>try contradiction|refine za (pure97 ls m) ?_|refine gG ?_|show AK _;intro K H|refine H _ _ ?_;clear H K|refine gJ ?_;try exact trivial|omega
 .rw [ydP,if_neg hc,firR,if_neg hc];exact .refl _
 .have h0:=hc
  have h1:=hc
  simp only [zq] at h1
  have hl:=chkLims_0 h1.1
  have qe:=@qR;repeat' first|refine gC ?_ ?_<;>intro hc<;>try contradiction|refine za (ydC ls m) ?_|refine gG ?_|show AK _;intro K H|refine H _ _ ?_;clear H K|refine gJ ?_;try exact trivial|omega
  refine run_rfuncI rfl (ydM ls m (by omega) hl.2 h1.2.1) ?_ ?_ [(4,.lp 4 0),(5,.lp 5 0)] (λk=>[(4,.box [.p (.i .i64 0),.p (.i .i64 0),.p (.i .i64 0)] false),(5,.box [.p (.i .i64 0)] false)]) (λ_=>[]) (λk=>k=0) ?_ ?_ ?_ ?_
  .simp
  .simp [hX]
  .exact sE
  .rfl
  .intro k t ht hok X' ro' hX'
   subst hok
   simp only [List.getElem?_map,Option.map_eq_some_iff] at ht
   obtain ⟨w,hy,rfl⟩:=ht
   simp only [qS,seval]
   have qe:=@qR;repeat' first|refine gC ?_ ?_<;>intro hc<;>try contradiction|refine gG ?_|show AK _;intro K H|refine H _ _ ?_;clear H K|refine gJ ?_;try exact trivial|omega
   intro X1 hX1
   have qe:=@qR;repeat' first|refine gC ?_ ?_<;>intro hc<;>try contradiction|refine gG ?_|show AK _;intro K H|refine H _ _ ?_;clear H K|refine gJ ?_;try exact trivial|omega
   cases he:yK ls m with
   | nil=>rw [he] at hy;cases hy
   | cons a r=>
    rw [he] at hy
    injection hy with hy
    subst hy
    rw [ydP,if_pos h0,firR,if_pos h0,he];exact .refl _
  .intro hok
   have he:yK ls m=[]:=List.eq_nil_of_length_eq_zero (by simpa using hok)
   have qe:=@qR;repeat' first|refine gC ?_ ?_<;>intro hc<;>try contradiction|refine gG ?_|show AK _;intro K H|refine H _ _ ?_;clear H K|refine gJ ?_;try exact trivial|omega
   rw [ydP,if_pos h0,firR,if_pos h0,he];exact .refl _
theorem pure81 (s:ByteArray):Pure Tryz.prog 192 [.s s] (.b (decide (s=s0) || isName s)):=by
 refine zf (cF Tryz.func192 Tryz.f192.eq_1) (by simp) λhw X hX=>?_
 repeat' first|refine gC ?_ ?_<;>intro hc<;>try contradiction|refine zN (λ_=>yai _) ?_|refine gG ?_|show AK _;intro K H|refine H _ _ ?_;clear H K|refine gJ ?_;try exact trivial|omega
 exact .refl _
theorem pure33 (n a b:Int):Pure Tryz.prog 193 [.i .i64 n,.i .i64 a,.i .i64 b] (.b (decide (n < a) || decide (b < n))):=by
 refine zf (cF Tryz.func193 Tryz.f193.eq_1) (by simp) λhw X hX=>?_
 repeat' first|refine gC ?_ ?_<;>intro hc<;>try contradiction|refine gG ?_|show AK _;intro K H|refine H _ _ ?_;clear H K|refine gJ ?_;try exact trivial|omega
 exact .refl _
theorem yj {e:Int} {r:List Int} (h:e=0):zg (e::r)=zg r:=by rw [zg,if_pos h]
theorem y9 {e:Int} {r:List Int} (h:e≠0):zg (e::r)=e:=by rw [zg,if_neg h]
theorem rng_3 {n a b:Int} (h:n < a\/b < n):rng n a b=3:=by rw [rng,if_pos h]
theorem ydF {s:ByteArray} (h:isName s=true):zaH s=0:=by rw [zaH,if_neg (by simp [h])]
theorem ydE {s:ByteArray} (h:isName s=false):zaH s=8:=by rw [zaH,if_pos h]
theorem optE_0 {s:ByteArray} (h:s=s0\/isName s=true):optE s=0:=by rw [optE,if_neg];rintro ⟨h1,h2⟩;rcases h with h|h<;>simp_all
theorem optE_8 {s:ByteArray} (h:¬s=s0/\isName s=false):optE s=8:=by rw [optE,if_pos h]
theorem yaV {e k:Int} {r:List Int} (h:e=k) (hk:k≠0):zg (e::r)=k:=by rw [y9 (by rw [h];exact hk),h]
theorem yca {a b c:Int} (h:0<=a/\a<=999/\0<=b/\b<=9/\0<=c/\c<=99):loadE a b c=0:=by rw [loadE];simp only [zg,rng];(repeat' split)<;>omega
theorem weakI {a b:Int} (h:a=b):Weak (.i .i64 a) (.i .i64 b):=h ▸ .refl _
theorem ydL {k:ByteArray} (h:¬k=sA/\¬k=sD->k=sT):kindE k=0:=by rw [kindE,if_neg];rintro ⟨h1,h2,h3⟩;exact h3 (h ⟨h1,h2⟩)
theorem ycZ {k:ByteArray} (h:(¬k=sA/\¬k=sD)/\¬k=sT):kindE k=13:=by rw [kindE,if_pos ⟨h.1.1,h.1.2,h.2⟩]
theorem ycf {k:ByteArray} (h:¬k=sA->k=sD):flightE k=0:=by rw [flightE,if_neg];rintro ⟨h1,h2⟩;exact h2 (h h1)
theorem ybL {k:ByteArray} (h:¬k=sA/\¬k=sD):flightE k=13:=by rw [flightE,if_pos h]
theorem yb3 (l:Lim):Pure Tryz.prog 118 [l.pv] (.i .i64 (zaS l)):=by
 refine zf (cF Tryz.func118 Tryz.f118.eq_1) (by simp) λhw X hX=>?_
 repeat' first|refine gC ?_ ?_<;>intro hc<;>try contradiction|refine za (yai _) ?_|refine za (pure81 _) ?_|refine zN (λ_=>pure33 _ _ _) ?_|refine za (y6 l.per) ?_|refine gG ?_|show AK _;intro K H|refine H _ _ ?_;clear H K|refine gJ ?_;try exact trivial|omega
 all_goals (refine weakI (Eq.symm ?_);rw [zaS];(repeat refine Eq.trans (yj (by first|exact ydF (by assumption)|exact ydL (by assumption)|exact ycf (by assumption)|exact optE_0 (by assumption)|exact rng_0.2 (by omega)|exact yca (by omega)|exact if_neg (by omega)|assumption)) ?_);first|rfl|exact yaV (by first|exact ydE (by assumption)|exact ycZ (by assumption)|exact ybL (by assumption)|exact optE_8 (by assumption)|exact rng_3 (by omega)|exact if_pos (by omega)|rfl) (by first|decide|assumption)|(simp only [zg,rng,loadE];(repeat' split)<;>omega))
theorem pure72 (l:List Lim) (n:ByteArray):Pure Tryz.prog 119 [.sl 11 (l.map Lim.pv),.s n] (.i .i64 (atL n (l.map Lim.name))):=by
 refine zf (cF Tryz.func119 Tryz.f119.eq_1) (by simp) λhw X hX=>?_
 simp only [wfs,PV.wf,List.length_map,maxLen] at hw
 repeat' first|refine gC ?_ ?_<;>intro hc<;>try contradiction|refine gG ?_|show AK _;intro K H|refine H _ _ ?_;clear H K|refine gJ ?_;try exact trivial|omega
 refine zk (κ:=Nat) (λi=>⟨[(0,.p (.sl 11 (l.map Lim.pv))),(1,.p (.s n)),(5,.p (.i .i64 i))],[],[],false⟩) (λi=>i<=l.length/\∀ x ∈ (l.map Lim.name).take i,x≠n) (λi=>l.length - i) 0 ?_ ?_ ?_
 .exact sR
 .simp
 .intro i hi
  repeat first|refine gG ?_|show AK _;intro K H|refine H _ _ ?_;clear H K|refine gJ ?_;try exact trivial|omega
  (refine gC ?_ ?_<;>intro hc<;>try contradiction)
  .obtain ⟨x,hx⟩:=zn (i:=i) (l:=l) (by omega)
   have qe:=@hx;repeat' first|refine gC ?_ ?_<;>intro hc<;>try contradiction|refine gG ?_|show AK _;intro K H|refine H _ _ ?_;clear H K|refine gJ ?_;try exact trivial|omega
   .rw [atL_hit hi.2 (by simp [hx,hc])];exact .refl _
   .refine ⟨i+1,⟨by omega,λy hy=>?_⟩,by omega,by simp⟩
    rw [<-List.map_take,take_snoc _ hx] at hy
    rcases List.mem_append.1 hy with h|h
    .exact hi.2 y (by rw [<-List.map_take];exact h)
    .simp at h;subst h;exact hc
  .repeat' first|refine gC ?_ ?_<;>intro hc<;>try contradiction|refine gG ?_|show AK _;intro K H|refine H _ _ ?_;clear H K|refine gJ ?_;try exact trivial|omega
   have e:i=l.length:=by omega
   subst e
   rw [atL_end (λy hy=>hi.2 y (by rw [List.take_of_length_le (by simp)];exact hy))];exact .refl _
theorem pure23 (l:List Lim):Pure Tryz.prog 37 [.sl 11 (l.map Lim.pv)] (.i .i64 (z3 l)):=by
 refine zf (cF Tryz.func37 Tryz.f37.eq_1) (by simp) λhw X hX=>?_
 simp only [wfs,PV.wf,List.length_map,maxLen] at hw
 repeat' first|refine gC ?_ ?_<;>intro hc<;>try contradiction|refine gG ?_|show AK _;intro K H|refine H _ _ ?_;clear H K|refine gJ ?_;try exact trivial|omega
 .rw [z3,if_pos (by omega)];exact .refl _
 refine zk (κ:=Nat) (λi=>⟨[(0,.p (.sl 11 (l.map Lim.pv))),(3,.p (.i .i64 i))],[],[],false⟩) (λi=>i<=l.length/\∀ x ∈ (limErrs l).take i,x=0) (λi=>l.length - i) 0 ?_ ?_ ?_
 .exact sR
 .simp
 .intro i hi
  repeat first|refine gG ?_|show AK _;intro K H|refine H _ _ ?_;clear H K|refine gJ ?_;try exact trivial|omega
  (refine gC ?_ ?_<;>intro hc<;>try contradiction)
  .obtain ⟨x,hx⟩:=zn (i:=i) (l:=l) (by omega)
   have key:∀ e:Int,limErr l i x=e->e≠0->z3 l=e:=λe he h0=>by subst he;unfold z3;rw [if_neg (by omega)];exact zV hi.2 (zI hx) h0
   have qe:=aI qR (aI @hx @take_map);repeat' first|refine gC ?_ ?_<;>intro hc<;>try contradiction|refine za (yb3 x) ?_|refine za (pure72 (l.take i) x.name) ?_|refine gG ?_|show AK _;intro K H|refine H _ _ ?_;clear H K|refine gJ ?_;try exact trivial|omega
   .rw [key (zaS x) (by rw [limErr,y9 hc]) hc];exact .refl _
   .rw [key 9 (by rw [limErr,yj (by assumption),yaV (if_pos hc) (by decide)]) (by decide)];exact .refl _
   .exact ⟨i+1,⟨by omega,zaC hi.2 (zI hx) (by rw [limErr,yj (by assumption),yj (if_neg (by omega)),ybM])⟩,by omega,by simp⟩
  .repeat' first|refine gC ?_ ?_<;>intro hc<;>try contradiction|refine gG ?_|show AK _;intro K H|refine H _ _ ?_;clear H K|refine gJ ?_;try exact trivial|omega
   have e:i=(limErrs l).length:=by simp [limErrs];omega
   subst e
   rw [z3,if_neg (by omega),z4 hi.2];exact .refl _
def fewB (p:Per) (n:Int):Bool:=!decide (zau p=0) || decide (p.to - p.fro < n)
theorem ydd (p:Per) (n:Int):Pure Tryz.prog 178 [p.pv,.i .i64 n] (.b (fewB p n)):=by
 refine zf (cF Tryz.func178 Tryz.f178.eq_1) (by simp) λhw X hX=>?_
 by_cases h:zau p=0
 .have hp:=zaX h
  have h':=eq_true h
  have qe:=@h';repeat' first|refine gC ?_ ?_<;>intro hc<;>try contradiction|refine za (y6 p) ?_|refine gG ?_|show AK _;intro K H|refine H _ _ ?_;clear H K|refine gJ ?_;try exact trivial|omega
  simp only [fewB,h',decide_true,Bool.not_true,Bool.false_or];exact .refl _
 .have h':=eq_false h
  have qe:=@h';repeat' first|refine gC ?_ ?_<;>intro hc<;>try contradiction|refine za (y6 p) ?_|refine gG ?_|show AK _;intro K H|refine H _ _ ?_;clear H K|refine gJ ?_;try exact trivial|omega
  simp only [fewB,h',decide_false,Bool.not_false,Bool.true_or];exact .refl _
theorem pure76 (l:Lim) (h:zaS l=0):Pure Tryz.prog 179 [l.pv] (.i .i64 (begN l)):=by
 have hl:=chkLim_0 h
 have hq1:(l.fro+l.step - 1).tdiv l.step=l.from_:=Int.tdiv_eq_ediv_of_nonneg (by omega)
 have hq2:l.to.tdiv l.step=l.to / l.step:=Int.tdiv_eq_ediv_of_nonneg (by omega)
 have hb1:0<=l.from_:=Int.ediv_nonneg (by omega) (by omega)
 have hb2:l.from_<=l.fro+l.step - 1:=Int.ediv_le_self _ (by omega)
 have hb3:0<=l.to / l.step:=Int.ediv_nonneg (by omega) (by omega)
 have hb4:l.to / l.step<=l.to:=Int.ediv_le_self _ (by omega)
 have hN:l.to / l.step - l.from_+1=(begN l:Int):=by
  unfold begN
  have:(l.fro - 1) / l.step<=l.to / l.step:=Int.ediv_le_ediv (by omega) (by omega)
  have e:l.from_=(l.fro - 1) / l.step+1:=by unfold Lim.from_;rw [show l.fro+l.step - 1=l.fro - 1+1*l.step by omega,Int.add_mul_ediv_right _ _ (by omega)]
  omega
 refine zf (cF Tryz.func179 Tryz.f179.eq_1) (by simp) λhw X hX=>?_
 have qe:=aI @hq1 @hq2;repeat' first|refine gC ?_ ?_<;>intro hc<;>try contradiction|refine gG ?_|show AK _;intro K H|refine H _ _ ?_;clear H K|refine gJ ?_;try exact trivial|omega
 rw [hN];exact .refl _
theorem yap {α:Type} {l:List α} {p:α->Bool} {i:Nat} {x:α} (hx:l[i]?=some x) (hp:p x=false):l.all p=false:=by
 cases h:l.all p
 .rfl
 .rw [List.all_eq_true] at h;rw [h x (List.mem_of_getElem? hx)] at hp;exact hp
theorem yz {α:Type} {l:List α} {p:α->Bool} {i:Nat} {x:α} (h:∀ y ∈ l.take i,p y=true) (hx:l[i]?=some x) (hp:p x=true):∀ y ∈ l.take (i+1),p y=true:=by
 intro y hy
 rw [List.take_add_one,hx] at hy
 rcases List.mem_append.1 hy with hy|hy
 .exact h y hy
 .simp at hy;subst hy;exact hp
theorem yaf {α:Type} {l:List α} {p:α->Bool} (h:∀ y ∈ l.take l.length,p y=true):l.all p=true:=by
 rw [List.take_length] at h;rw [List.all_eq_true];exact h
theorem allI (L:List Int):L.all ((λx=>x.cells.all PV.one) ∘ PV.i IntKind.i64)=true:=by rw [List.all_eq_true];intro x _;rfl
theorem yaX (x:ByteArray):(decide (x=x))=true:=decide_eq_true rfl
theorem yb7 (x:Int):(x=x)=True:=eq_true rfl
theorem pure26 (l:List Mov):Pure Tryz.prog 29 [.sl 7 (l.map Mov.pv),.sl 7 (l.map Mov.pv)] (.b true):=by
 refine zf (cF Tryz.func29 Tryz.f29.eq_1) (by simp) λhw X hX=>?_
 simp only [wfs,PV.wf,List.length_map,maxLen] at hw
 have qe:=aI @zbb (aI @yaX (aI @yb7 @neS_self));repeat' first|refine gC ?_ ?_<;>intro hc<;>try contradiction|refine gG ?_|show AK _;intro K H|refine H _ _ ?_;clear H K|refine gJ ?_;try exact trivial|omega
 refine zk (κ:=Nat) (λi=>⟨[(0,.p (.sl 7 (l.map Mov.pv))),(1,.p (.sl 7 (l.map Mov.pv))),(5,.p (.i .i64 i))],[],[],false⟩) (λi=>i<=l.length) (λi=>l.length - i) 0 ?_ ?_ ?_
 .exact sR
 .simp
 .intro i hi
  repeat first|refine gG ?_|show AK _;intro K H|refine H _ _ ?_;clear H K|refine gJ ?_;try exact trivial|omega
  (refine gC ?_ ?_<;>intro hc<;>try contradiction)
  .obtain ⟨x,hx⟩:=zn (i:=i) (l:=l) (by omega)
   have qe:=aI @hx (aI @zbb (aI @yaX (aI @yb7 @neS_self)));repeat' first|refine gC ?_ ?_<;>intro hc<;>try contradiction|refine gG ?_|show AK _;intro K H|refine H _ _ ?_;clear H K|refine gJ ?_;try exact trivial|omega
   exact ⟨i+1,by omega,by omega,by simp⟩
  .repeat' first|refine gC ?_ ?_<;>intro hc<;>try contradiction|refine gG ?_|show AK _;intro K H|refine H _ _ ?_;clear H K|refine gJ ?_;try exact trivial|omega
   exact .refl _
def ybR (l:Lim) (d:Int) (k:Nat):List Int:=(List.range k).flatMap λ(j:Nat)=>if (l.fro+j) % l.step=0 then [1440*d+(l.fro+j)] else []
theorem y5 (l:Lim) (d:Int) (k:Nat):ybR l d (k+1)=ybR l d k++if (l.fro+k) % l.step=0 then [1440*d+(l.fro+k)] else []:=by rw [ybR,zab,<-ybR]
theorem ycF (l:Lim) (d:Int) (k:Nat):(ybR l d k).length<=k:=by
 induction k with
 | zero=>simp [ybR]
 | succ k ih=>rw [y5,List.length_append];split<;>simp<;>omega
theorem yd2 {x s:Int} (hs:0 < s):(x+s - 1) / s=if x % s=0 then x / s else x / s+1:=by
 have h1:=Int.mul_ediv_add_emod x s
 have h2:=Int.emod_nonneg x (show s≠0 by omega)
 have h3:=Int.emod_lt_of_pos x hs
 split
 .rename_i h
  rw [show x+s - 1=(s - 1)+s*(x / s) by omega,Int.add_mul_ediv_left _ _ (by omega),Int.ediv_eq_zero_of_lt (by omega) (by omega)];omega
 .rename_i h
  rw [show x+s - 1=(x % s - 1)+s*(x / s+1) by rw [Int.mul_add];omega,Int.add_mul_ediv_left _ _ (by omega),Int.ediv_eq_zero_of_lt (by omega) (by omega)];omega
theorem ydz {l:Lim} (h:0 < l.step) (d:Int) (k:Nat):ybR l d k=(List.range ((l.fro+k+l.step - 1) / l.step - l.from_).toNat).map (begV l d)/\l.from_<=(l.fro+k+l.step - 1) / l.step:=by
 induction k with
 | zero=>simp [ybR,Lim.from_]
 | succ k ih=>
  obtain ⟨ih,hge⟩:=ih
  have hn:(l.fro+(k+1:Nat)+l.step - 1) / l.step=(l.fro+k) / l.step+1:=by
   rw [show l.fro+((k+1:Nat):Int)+l.step - 1=l.fro+k+1*l.step by omega,Int.add_mul_ediv_right _ _ (by omega)]
  rw [hn,y5,ih]
  have hc:=yd2 (x:=l.fro+k) h
  rw [hc] at hge ⊢
  by_cases hm:(l.fro+k) % l.step=0
  .rw [if_pos hm] at hge
   rw [if_pos hm,if_pos hm]
   have e:((l.fro+k) / l.step+1 - l.from_).toNat=((l.fro+k) / l.step - l.from_).toNat+1:=by omega
   refine ⟨?_,by omega⟩
   rw [e,mrange_next,begV,Int.toNat_of_nonneg (by omega),show l.from_+((l.fro+k) / l.step - l.from_)=(l.fro+k) / l.step by omega]
   have:=Int.mul_ediv_add_emod (l.fro+k) l.step
   rw [show l.step*((l.fro+k) / l.step)=l.fro+k by omega]
  .rw [if_neg hm] at hge
   rw [if_neg hm,if_neg hm]
   exact ⟨by simp,hge⟩
theorem ydy {l:Lim} (h:zaS l=0) (d:Int):ybR l d (l.to - l.fro+1).toNat=begK l d (begN l):=by
 have hl:=chkLim_0 h
 rw [(ydz (l:=l) (by omega) d _).1,begK,begN]
 have e:(l.fro+((l.to - l.fro+1).toNat:Nat)+l.step - 1) / l.step=l.to / l.step+1:=by
  rw [show l.fro+(((l.to - l.fro+1).toNat:Nat):Int)+l.step - 1=l.to+1*l.step by omega,Int.add_mul_ediv_right _ _ (by omega)]
 rw [e,show (l.to / l.step+1 - l.from_).toNat=(max 0 (l.to / l.step - l.from_+1)).toNat by omega]
theorem pure36 (l:Lim) (d:Int) (h:zaS l=0) (h0:0<=d) (h1:d<=99999):Pure Tryz.prog 223 [l.pv,.i .i64 d] (.sl 1 ((begK l d (begN l)).map (.i .i64))):=by
 have hl:=chkLim_0 h
 refine zf (cF Tryz.func223 Tryz.f223.eq_1) (by simp) λhw X hX=>?_
 repeat' first|refine gC ?_ ?_<;>intro hc<;>try contradiction|refine gG ?_|show AK _;intro K H|refine H _ _ ?_;clear H K|refine gJ ?_;try exact trivial|omega
 refine zaO 100 3 1 [(1,.p (.i .i64 d)),(2,.lp 2 0),(5,.row 100 0),(6,.p (.i .i64 l.fro))] [(2,.box (l.cells.map .p) false)] ?_ ?_
 .simp only [Own,zaL,zaB,zbt,zay,qS,seval]
 refine zk (κ:=Nat) (λk=>⟨[(1,.p (.i .i64 d)),(2,.lp 2 0),(5,.row 100 (ybR l d k).length),(6,.p (.i .i64 (l.fro+k)))],[(2,.box (l.cells.map .p) false),(100,.row 3 1 ((ybR l d k).map (.i .i64)) false)],[],false⟩) (λk=>k<=(l.to - l.fro+1).toNat) (λk=>(l.to - l.fro+1).toNat - k) 0 ?_ ?_ ?_
 .refine gJ ?_;simp [ybR]
 .simp
 .intro k hk
  have hll:=ycF l d k
  have hq:(l.fro+k).tmod l.step=(l.fro+k) % l.step:=Int.tmod_eq_emod_of_nonneg (by omega)
  have hnx:=y5 l d k
  have qe:=aI qR @hq;repeat' first|refine gC ?_ ?_<;>intro hc<;>try contradiction|refine gG ?_|show AK _;intro K H|refine H _ _ ?_;clear H K|refine gJ ?_;try exact trivial|omega
  .rw [if_pos hc] at hnx
   exact ⟨k+1,by omega,by omega,⟨by rw [hnx];simp,by simp;omega⟩,by rw [hnx];simp⟩
  .rw [if_neg hc,List.append_nil] at hnx
   exact ⟨k+1,by omega,by omega,⟨by rw [hnx],by simp;omega⟩,by rw [hnx]⟩
  .have e:k=(l.to - l.fro+1).toNat:=by omega
   subst e;rw [ydy h];exact .refl _
theorem yaT {p:Per} (h:zau p=0) (d:Int):hasB p d=decide (d ∈ zY p):=by
 have hp:=zaX h
 by_cases hm:d ∈ zY p
 .have:=daysL_mem hm
  rw [decide_eq_true hm]
  have he:hasE p d=0:=by rw [hasE];simp only [zq,rng_0];exact ⟨by assumption,⟨by omega,by omega⟩,rfl⟩
  simp [hasB,he,hasD,this]
 .rw [decide_eq_false hm]
  cases hb:hasB p d
  .rfl
  .exfalso;apply hm
   simp only [hasB,hasD,Bool.and_eq_true,decide_eq_true_eq] at hb
   refine List.mem_flatMap.2 ⟨(d - p.fro).toNat,List.mem_range.2 (by omega),?_⟩
   rw [Int.toNat_of_nonneg (by omega),show p.fro+(d - p.fro)=d by omega,if_pos hb.2.2]
   simp
theorem yu {α β:Type} {f g:α->List β}:∀ {l:List α},(∀ x ∈ l,f x=g x)->l.flatMap f=l.flatMap g
 | [],_=>rfl
 | x::r,h=>by rw [List.flatMap_cons,List.flatMap_cons,h x (by simp),yu λy hy=>h y (by simp [hy])]
theorem yF {l:Lim} (h:zaS l=0) (d:Int):zM l d=if d ∈ zY l.per then begK l d (begN l) else []:=by
 have hl:=chkLim_0 h
 have hb:=yaT hl.2.2.2.2.2.2.2.1 d
 by_cases hm:d ∈ zY l.per
 .have hd:=daysL_mem hm
  rw [zM,if_pos hm,if_pos]
  rw [decide_eq_true hm] at hb
  simp only [begOk,hb,Bool.not_true,Bool.or_false,Bool.not_eq_true',Bool.or_eq_false_iff,decide_eq_false_iff_not];omega
 .rw [zM,if_neg hm,if_neg]
  rw [decide_eq_false hm] at hb
  simp [begOk,hb]
theorem yL {l:Lim} (h:zaS l=0):ya l=(zY l.per).flatMap λd=>begK l d (begN l):=by
 have hl:=chkLim_0 h
 have hp:=hl.2.2.2.2.2.2.2.1
 unfold ya ycv ybi zY
 rw [List.flatMap_assoc]
 refine yu λk hk=>?_
 have hk:=List.mem_range.1 hk
 rw [yF h]
 have hb:=yaT hp (l.per.fro+k)
 have hpp:=zaX hp
 have he:hasE l.per (l.per.fro+k)=0:=by rw [hasE];simp only [zq,rng_0];exact ⟨by assumption,⟨by omega,by omega⟩,rfl⟩
 have hi:hasB l.per (l.per.fro+k)=inM l.per.days ((l.per.fro+k+5) % 7):=by
  simp only [hasB,he,hasD,decide_true,Bool.true_and,show l.per.fro<=l.per.fro+(k:Int) by omega,show l.per.fro+(k:Int)<=l.per.to by omega]
 rw [hi] at hb
 rw [hb]
 simp only [decide_eq_true_eq]
 split<;>simp
theorem pure39 (l:Lim) (h:zaS l=0):Pure Tryz.prog 152 [l.pv] (.sl 1 ((ya l).map (.i .i64))):=by
 have hl:=chkLim_0 h
 have hpp:=zaX hl.2.2.2.2.2.2.2.1
 have hdl:=daysL_len l.per
 refine zf (cF Tryz.func152 Tryz.f152.eq_1) (by simp) λhw X hX=>?_
 repeat' first|refine gC ?_ ?_<;>intro hc<;>try contradiction|refine za (yaN l.per hl.2.2.2.2.2.2.2.1) ?_|refine gG ?_|show AK _;intro K H|refine H _ _ ?_;clear H K|refine gJ ?_;try exact trivial|omega
 refine zaO 100 3 1 [(1,.lp 1 0),(3,.p (.sl 1 ((zY l.per).map (.i .i64)))),(4,.row 100 0),(5,.p (.i .i64 0))] [(1,.box (l.cells.map .p) false)] ?_ ?_
 .simp only [Own,zaL,zaB,zbt,zay,qS,seval]
 refine zk (κ:=Nat) (λk=>⟨[(1,.lp 1 0),(3,.p (.sl 1 ((zY l.per).map (.i .i64)))),(4,.row 100 (((zY l.per).take k).flatMap λd=>begK l d (begN l)).length),(5,.p (.i .i64 k))],[(1,.box (l.cells.map .p) false),(100,.row 3 1 ((((zY l.per).take k).flatMap λd=>begK l d (begN l)).map (.i .i64)) false)],[],false⟩) (λk=>k<=(zY l.per).length) (λk=>(zY l.per).length - k) 0 ?_ ?_ ?_
 .exact sS
 .simp
 .intro k hk
  repeat first|refine gG ?_|show AK _;intro K H|refine H _ _ ?_;clear H K|refine gJ ?_;try exact trivial|omega
  (refine gC ?_ ?_<;>intro hc<;>try contradiction)
  .obtain ⟨d,hd⟩:=zn (i:=k) (l:=zY l.per) (by omega)
   have hdm:=daysL_mem (List.mem_of_getElem? hd)
   have hnx:=flat_take (λd=>begK l d (begN l)) hd
   have hbn:begN l<=1440:=by
    have h1:0<=l.from_:=Int.ediv_nonneg (by omega) (by omega)
    have h2:l.to / l.step<=l.to:=Int.ediv_le_self _ (by omega)
    unfold begN;omega
   have hfl:(((zY l.per).take k).flatMap λd=>begK l d (begN l)).length<=((zY l.per).take k).length*1440:=by
    exact flat_le λd _=>by simp only [begK,List.length_map,List.length_range];exact hbn
   have hbl:(begK l d (begN l)).length<=1440:=by simp only [begK,List.length_map,List.length_range];exact hbn
   simp only [List.length_take] at hfl
   have qe:=aI qR (aI @hd @allI);repeat' first|refine gC ?_ ?_<;>intro hc<;>try contradiction|refine za (pure36 l d h (by omega) (by omega)) ?_|refine gG ?_|show AK _;intro K H|refine H _ _ ?_;clear H K|refine gJ ?_;try exact trivial|omega
   exact ⟨k+1,by omega,by omega,⟨by rw [hnx,List.length_append],by simp⟩,by rw [hnx,List.map_append]⟩
  .repeat' first|refine gC ?_ ?_<;>intro hc<;>try contradiction|refine gG ?_|show AK _;intro K H|refine H _ _ ?_;clear H K|refine gJ ?_;try exact trivial|omega
   have e:k=(zY l.per).length:=by omega
   subst e;rw [List.take_length,yL h];exact .refl _
theorem pure95 (l:Lim) (m:Mov):Pure Tryz.prog 140 [l.pv,m.pv] (.b (zac l m.kind m.term)):=by
 refine zf (cF Tryz.func140 Tryz.f140.eq_1) (by simp) λhw X hX=>?_
 repeat' first|refine gC ?_ ?_<;>intro hc<;>try contradiction|refine gG ?_|show AK _;intro K H|refine H _ _ ?_;clear H K|refine gJ ?_;try exact trivial|omega
 exact .refl _
theorem ydc (l:Lim) (b x:Int) (h0:0<=b) (h1:b<=1000000000) (h2:1<=l.len) (h3:l.len<=1440):Pure Tryz.prog 139 [l.pv,.i .i64 b,.i .i64 x] (.b (decide (b<=x) && decide (x < b+l.len))):=by
 refine zf (cF Tryz.func139 Tryz.f139.eq_1) (by simp) λhw X hX=>?_
 repeat' first|refine gC ?_ ?_<;>intro hc<;>try contradiction|refine gG ?_|show AK _;intro K H|refine H _ _ ?_;clear H K|refine gJ ?_;try exact trivial|omega
 exact .refl _
def inW (l:Lim) (b:Int) (x:Mov):Bool:=zac l x.kind x.term && (decide (b<=x.moment) && decide (x.moment < b+l.len))
theorem yb {l:Lim} (h:0<=l.len) (b:Int):∀ m:List Mov,zbs l m b=((m.filter (inW l b)).length:Int)
 | []=>by simp [zbs,cntW,ofL,ltN]
 | x::r=>by
  have ih:=yb h b r
  simp only [zbs,cntW,ofL,List.filter_cons,inW] at ih ⊢
  by_cases hc:zac l x.kind x.term=true
  .simp only [hc,if_true,List.map_cons,ltN,List.filter_cons,Bool.true_and,decide_eq_true_eq,Bool.and_eq_true] at ih ⊢
   (repeat' split)<;>(try simp only [List.length_cons])<;>omega
  .simp only [Bool.not_eq_true] at hc
   simp only [hc,Bool.false_eq_true,if_false,Bool.false_and]
   exact ih
theorem pure37 (l:Lim) (m:List Mov) (b:Int) (h:zaS l=0) (hm:m.length<=1000000) (h0:0<=b) (h1:b<=1000000000):Pure Tryz.prog 153 [l.pv,.sl 7 (m.map Mov.pv),.i .i64 b] (.i .i64 (zbs l m b)):=by
 have hl:=chkLim_0 h
 rw [yb (by omega)]
 refine zf (cF Tryz.func153 Tryz.f153.eq_1) (by simp) λhw X hX=>?_
 repeat' first|refine gC ?_ ?_<;>intro hc<;>try contradiction|refine gG ?_|show AK _;intro K H|refine H _ _ ?_;clear H K|refine gJ ?_;try exact trivial|omega
 refine zk (κ:=Nat) (λk=>⟨[(1,.p (.sl 7 (m.map Mov.pv))),(2,.p (.i .i64 b)),(3,.lp 3 0),(7,.p (.i .i64 ((m.take k).filter (inW l b)).length)),(8,.p (.i .i64 k))],[(3,.box (l.cells.map .p) false)],[],false⟩) (λk=>k<=m.length) (λk=>m.length - k) 0 ?_ ?_ ?_
 .exact sS
 .simp
 .intro k hk
  have hfl:=filter_tlen (p:=inW l b) (l:=m) (k:=k)
  repeat first|refine gG ?_|show AK _;intro K H|refine H _ _ ?_;clear H K|refine gJ ?_;try exact trivial|omega
  (refine gC ?_ ?_<;>intro hc<;>try contradiction)
  .obtain ⟨x,hx⟩:=zn (i:=k) (l:=m) (by omega)
   have hnx:=filter_take (p:=inW l b) hx
   have qe:=aI qR @hx;repeat' first|refine gC ?_ ?_<;>intro hc<;>try contradiction|refine za (pure95 l x) ?_|(show zj _ _ _ _ (⟨_,.call 139,_,_,_⟩::_) _ _;refine zbj (hf:=λhc=>(by first|exact ydc l b x.moment (by omega) (by omega) (by omega) (by omega)|(simp only [qH,rng_0] at hc;exact ydc l b x.moment (by omega) (by omega) (by omega) (by omega)))) (hn:=?_))|refine gG ?_|show AK _;intro K H|refine H _ _ ?_;clear H K|refine gJ ?_;try exact trivial|omega
   .have hi:inW l b x=true:=by simp only [inW,Bool.and_eq_true,decide_eq_true_eq];exact hc
    rw [hi,if_pos rfl] at hnx
    exact ⟨k+1,by omega,by omega,by rw [hnx];simp,by simp⟩
   .have hi:inW l b x=false:=by
     cases hh:inW l b x
     .rfl
     .simp only [inW,Bool.and_eq_true,decide_eq_true_eq] at hh
      have:=hc hh.1 hh.2.1
      omega
    rw [hi] at hnx
    exact ⟨k+1,by omega,by omega,by rw [hnx];simp,by simp⟩
  .repeat' first|refine gC ?_ ?_<;>intro hc<;>try contradiction|refine gG ?_|show AK _;intro K H|refine H _ _ ?_;clear H K|refine gJ ?_;try exact trivial|omega
   have e:k=m.length:=by omega
   subst e;rw [List.take_length];exact .refl _
theorem y4 {l:Lim} (h:zaS l=0):(ya l).length<=577440:=by
 have hp:=zaX (chkLim_0 h).2.2.2.2.2.2.2.1
 have h1:(ya l).length<=(List.range (ybi l)).length*1440:=flat_le λk _=>beginsL_len h _
 simp only [List.length_range] at h1
 unfold ybi at h1
 omega
theorem yc4 {l:Lim} (h:zaS l=0) (m:List Mov) (i:Nat):(yc5 m i l).length<=577440:=by
 have h1:(yc5 m i l).length<=(ya l).length*1:=flat_le λb _=>by unfold yR;split<;>simp
 have:=y4 h
 omega
theorem yc6 {ls:List Lim} (h:∀ l ∈ ls,zaS l=0) (m:List Mov) (k:Nat):(yaa ls m k).length<=k*577440:=by
 have h1:(yaa ls m k).length<=(List.range k).length*577440:=flat_le λi _=>by
  unfold ycj
  split
  .rename_i l hl;exact yc4 (h l (List.mem_of_getElem? hl)) m i
  .simp
 simpa using h1
theorem pure59 (ls:List Lim) (m:List Mov) (hn:ls.length<=32) (h:∀ l ∈ ls,zaS l=0) (hm:m.length<=1000000):Pure Tryz.prog 76 [.sl 11 (ls.map Lim.pv),.sl 7 (m.map Mov.pv)] (.sl 3 ((yK ls m).map Win.pv)):=by
 refine zf (cF Tryz.func76 Tryz.f76.eq_1) (by simp) λhw X hX=>?_
 repeat' first|refine gC ?_ ?_<;>intro hc<;>try contradiction|refine gG ?_|show AK _;intro K H|refine H _ _ ?_;clear H K|refine gJ ?_;try exact trivial|omega
 refine zaO 100 194 3 [(0,.p (.sl 11 (ls.map Lim.pv))),(1,.p (.sl 7 (m.map Mov.pv))),(5,.row 100 0),(6,.p (.i .i64 0))] [] ?_ ?_
 .simp only [Own,zaL,zaB,zbt,zay,qS,seval]
 refine zk (κ:=Nat) (λk=>⟨[(0,.p (.sl 11 (ls.map Lim.pv))),(1,.p (.sl 7 (m.map Mov.pv))),(5,.row 100 (yaa ls m k).length),(6,.p (.i .i64 k))],[(100,.row 194 3 ((yaa ls m k).map Win.pv) false)],[],false⟩) (λk=>k<=ls.length) (λk=>ls.length - k) 0 ?_ ?_ ?_
 .refine gJ ?_;simp [yaa]
 .simp
 .intro k hk
  repeat first|refine gG ?_|show AK _;intro K H|refine H _ _ ?_;clear H K|refine gJ ?_;try exact trivial|omega
  (refine gC ?_ ?_<;>intro hc<;>try contradiction)
  .obtain ⟨l,hx⟩:=zn (i:=k) (l:=ls) (by omega)
   have h1:=h l (List.mem_of_getElem? hx)
   have hi:ycj ls m k=yc5 m k l:=by rw [ycj,hx]
   have hkl:=yc6 h m k
   have hwl:=y4 h1
   have qe:=aI qR @hx;repeat' first|refine gC ?_ ?_<;>intro hc<;>try contradiction|refine za (pure39 l h1) ?_|refine gG ?_|show AK _;intro K H|refine H _ _ ?_;clear H K|refine gJ ?_;try exact trivial|omega
   refine zk (κ:=Nat) (λj=>⟨[(0,.p (.sl 11 (ls.map Lim.pv))),(1,.p (.sl 7 (m.map Mov.pv))),(5,.row 100 (yaa ls m k++((ya l).take j).flatMap (yR m k l)).length),(6,.p (.i .i64 k)),(7,.p (.sl 1 ((ya l).map (.i .i64)))),(8,.p (.i .i64 j))],[(100,.row 194 3 ((yaa ls m k++((ya l).take j).flatMap (yR m k l)).map Win.pv) false)],[],false⟩) (λj=>j<=(ya l).length) (λj=>(ya l).length - j) 0 ?_ ?_ ?_
   .exact sS
   .simp
   .intro j hj
    repeat first|refine gG ?_|show AK _;intro K H|refine H _ _ ?_;clear H K|refine gJ ?_;try exact trivial|omega
    (refine gC ?_ ?_<;>intro hc<;>try contradiction)
    .obtain ⟨b,hb⟩:=zn (i:=j) (l:=ya l) (by omega)
     have hbm:=yS h1 (List.mem_of_getElem? hb)
     have hnx:=flat_take (yR m k l) hb
     have hjl:(((ya l).take j).flatMap (yR m k l)).length<=((ya l).take j).length*1:=flat_le λb _=>by unfold yR;split<;>simp
     simp only [List.length_take] at hjl
     have hal:(yaa ls m k++((ya l).take j).flatMap (yR m k l)).length<=33*577440:=by rw [List.length_append];omega
     have qe:=aI qR (aI @hx @hb);repeat' first|refine gC ?_ ?_<;>intro hc<;>try contradiction|refine za (pure37 l m b h1 hm (by omega) (by omega)) ?_|refine gG ?_|show AK _;intro K H|refine H _ _ ?_;clear H K|refine gJ ?_;try exact trivial|omega
     .rw [show yR m k l b=[⟨k,b,zbs l m b⟩] by rw [yR,if_pos hc]] at hnx
      exact ⟨j+1,by omega,by omega,⟨by rw [hnx];simp;omega,by simp⟩,by rw [hnx];simp⟩
     .rw [show yR m k l b=[] by rw [yR,if_neg (by omega)],List.append_nil] at hnx
      exact ⟨j+1,by omega,by omega,⟨by rw [hnx],by simp⟩,by rw [hnx]⟩
    .repeat' first|refine gC ?_ ?_<;>intro hc<;>try contradiction|refine gG ?_|show AK _;intro K H|refine H _ _ ?_;clear H K|refine gJ ?_;try exact trivial|omega
     have e:j=(ya l).length:=by omega
     subst e
     have e2:yaa ls m (k+1)=yaa ls m k++(ya l).flatMap (yR m k l):=by rw [yaa,zab,hi,yc5,<-yaa]
     exact ⟨k+1,by omega,by omega,⟨by rw [List.take_length,e2,List.length_append],by simp⟩,by rw [List.take_length,e2,List.map_append]⟩
  .repeat' first|refine gC ?_ ?_<;>intro hc<;>try contradiction|refine gG ?_|show AK _;intro K H|refine H _ _ ?_;clear H K|refine gJ ?_;try exact trivial|omega
   have e:k=ls.length:=by omega
   subst e;exact .refl _
def badLim (l:Lim):Bool:=((decide ((40:Int) < l.name.size) || decide ((40:Int) < l.kind.size)) || decide ((40:Int) < l.term.size)) || !fewB l.per 24
theorem ybD {x:Lim} (h:(((40:Int) < x.name.size\/(40:Int) < x.kind.size)\/(40:Int) < x.term.size)\/fewB x.per 24=false):badLim x=true:=by
 simp only [badLim,Bool.or_eq_true,decide_eq_true_eq,Bool.not_eq_true'];exact h
theorem ybE {x:Lim} (h:(((x.name.size:Int)<=40/\(x.kind.size:Int)<=40)/\(x.term.size:Int)<=40)/\fewB x.per 24=true):badLim x=false:=by
 simp only [badLim,Bool.or_eq_false_iff,decide_eq_false_iff_not,Bool.not_eq_false',Int.not_lt];exact h
def ydH (x:Lim):Int:=if zaS x=0 then (begN x:Int)*(zY x.per).length else 0
def ybQ (l:List Lim) (k:Nat):Int:=(l.take k).foldl (λa x=>a+ydH x) 0
def longL (l:List Lim) (n:Int):Bool:=(decide (n < l.length) && decide ((l.length:Int)<=32)) || decide (34 < (l.length:Int))
def yT (l:List Lim) (n:Int):Bool:=!longL l n && ((l.all λx=>!badLim x) && decide (ybQ l l.length<=400))
theorem yaJ {l:List Lim} {k:Nat} {x:Lim} (h:l[k]?=some x):ybQ l (k+1)=ybQ l k+ydH x:=by
 rw [ybQ,List.take_add_one,h,List.foldl_append];rfl
theorem yct {l:Lim} (h:zaS l=0):begN l<=1440:=by
 have hl:=chkLim_0 h
 have h1:0<=l.from_:=Int.ediv_nonneg (by omega) (by omega)
 have h2:l.to / l.step<=l.to:=Int.ediv_le_self _ (by omega)
 unfold begN;omega
theorem ycb (x:Lim):0<=ydH x/\ydH x<=577440:=by
 unfold ydH
 split
 .rename_i h
  have h1:=yct h
  have hp:=zaX (chkLim_0 h).2.2.2.2.2.2.2.1
  have h2:=daysL_len x.per
  have h3:(zY x.per).length<=401:=by omega
  have h4:begN x*(zY x.per).length<=1440*401:=Nat.mul_le_mul h1 h3
  omega
 .omega
theorem ydq (l:List Lim) (k:Nat):0<=ybQ l k/\ybQ l k<=k*577440:=by
 induction k with
 | zero=>simp [ybQ]
 | succ k ih=>
  by_cases hk:k < l.length
  .rw [yaJ (List.getElem?_eq_getElem hk)]
   have:=ycb l[k]
   omega
  .have:ybQ l (k+1)=ybQ l k:=by rw [ybQ,ybQ,List.take_of_length_le (by omega),List.take_of_length_le (by omega)]
   omega
theorem pure15 (l:List Lim) (n:Int):Pure Tryz.prog 112 [.sl 11 (l.map Lim.pv),.i .i64 n] (.b (yT l n)):=by
 refine zf (cF Tryz.func112 Tryz.f112.eq_1) (by simp) λhw X hX=>?_
 simp only [wfs,PV.wf,List.length_map,maxLen] at hw
 repeat' first|refine gC ?_ ?_<;>intro hc<;>try contradiction|refine gG ?_|show AK _;intro K H|refine H _ _ ?_;clear H K|refine gJ ?_;try exact trivial|omega
 .have:longL l n=true:=by simpa [longL] using hc
  rw [yT,this];exact .refl _
 have hsh:longL l n=false:=by simpa [longL] using hc
 have h34:l.length<=34:=by omega
 refine zk (κ:=Nat) (λi=>⟨[(0,.p (.sl 11 (l.map Lim.pv))),(5,.p (.i .i64 (ybQ l i))),(6,.p (.i .i64 i))],[],[],false⟩) (λi=>i<=l.length/\∀ x ∈ l.take i,(!badLim x)=true) (λi=>l.length - i) 0 ?_ ?_ ?_
 .simp only [qS,seval]<;>first|exact ⟨rfl,rfl⟩|rfl
 .simp
 .intro i hi
  have hsb:=ydq l i
  repeat first|refine gG ?_|show AK _;intro K H|refine H _ _ ?_;clear H K|refine gJ ?_;try exact trivial|omega
  (refine gC ?_ ?_<;>intro hc<;>try contradiction)
  .obtain ⟨x,hx⟩:=zn (i:=i) (l:=l) (by omega)
   have hsn:=yaJ hx
   have hlb:=ycb x
   by_cases h0:zaS x=0
   .have h0':=eq_true h0
    have hlx:=chkLim_0 h0
    have hbn:=yct h0
    have hdn:=daysL_len x.per
    have hpp:=zaX hlx.2.2.2.2.2.2.2.1
    rw [ydH,if_pos h0] at hsn hlb
    have qe:=aI qR (aI @hx @h0');repeat' first|refine gC ?_ ?_<;>intro hc<;>try contradiction|refine za (yb3 x) ?_|refine za (pure76 x h0) ?_|refine za (yaN x.per hlx.2.2.2.2.2.2.2.1) ?_|refine zN (λ_=>ydd x.per 24) ?_|refine gG ?_|show AK _;intro K H|refine H _ _ ?_;clear H K|refine gJ ?_;try exact trivial|omega
    .rw [yT,hsh,yap hx (by rw [ybD hc];rfl)];exact .refl _
    .exact ⟨i+1,⟨by omega,λy hy=>by simpa using yz (p:=λx=>!badLim x) (λy hy=>by simpa using hi.2 y hy) hx (by rw [ybE (by assumption)];rfl) y hy⟩,by omega,by rw [hsn],by simp⟩
   .have h0':=eq_false h0
    rw [ydH,if_neg h0] at hsn hlb
    have qe:=aI qR (aI @hx @h0');repeat' first|refine gC ?_ ?_<;>intro hc<;>try contradiction|refine za (yb3 x) ?_|refine zN (λ_=>ydd x.per 24) ?_|refine gG ?_|show AK _;intro K H|refine H _ _ ?_;clear H K|refine gJ ?_;try exact trivial|omega
    .rw [yT,hsh,yap hx (by rw [ybD hc];rfl)];exact .refl _
    .exact ⟨i+1,⟨by omega,λy hy=>by simpa using yz (p:=λx=>!badLim x) (λy hy=>by simpa using hi.2 y hy) hx (by rw [ybE (by assumption)];rfl) y hy⟩,by omega,by rw [hsn,Int.add_zero],by simp⟩
  .repeat' first|refine gC ?_ ?_<;>intro hc<;>try contradiction|refine gG ?_|show AK _;intro K H|refine H _ _ ?_;clear H K|refine gJ ?_;try exact trivial|omega
   have e:i=l.length:=by omega
   subst e
   rw [yT,hsh,yaf hi.2];exact .refl _
theorem pure21 (r:Req) (h:chkReq r=0):Pure Tryz.prog 97 [r.pv] (.sl 7 ((movsL r).map Mov.pv)):=by
 have hr:=chkReq_0 h
 have hp:=zaX hr.1
 have hdl:=daysL_len r.per
 refine zf (cF Tryz.func97 Tryz.f97.eq_1) (by simp) λhw X hX=>?_
 have qe:=@qR;repeat' first|refine gC ?_ ?_<;>intro hc<;>try contradiction|refine za (yaN r.per hr.1) ?_|refine gG ?_|show AK _;intro K H|refine H _ _ ?_;clear H K|refine gJ ?_;try exact trivial|omega
 refine zaO 100 180 7 [(1,.lp 1 0),(3,.p (.sl 1 ((zY r.per).map (.i .i64)))),(4,.row 100 0),(5,.p (.i .i64 0))] [(1,.box ([.s r.name,.s r.carrier,.s r.kind,.s r.term,.s r.partner,.s r.link,.i .i64 r.per.fro,.i .i64 r.per.to,.i .i64 r.per.days,.i .i64 r.minute,.i .i64 r.seats,.i .i64 r.size,.i .i64 r.noise].map .p) false)] ?_ ?_
 .simp only [Own,zaL,zaB,zbt,zay,qS,seval]
 refine zk (κ:=Nat) (λk=>⟨[(1,.lp 1 0),(3,.p (.sl 1 ((zY r.per).map (.i .i64)))),(4,.row 100 ((zY r.per).take k).length),(5,.p (.i .i64 k))],[(1,.box ([.s r.name,.s r.carrier,.s r.kind,.s r.term,.s r.partner,.s r.link,.i .i64 r.per.fro,.i .i64 r.per.to,.i .i64 r.per.days,.i .i64 r.minute,.i .i64 r.seats,.i .i64 r.size,.i .i64 r.noise].map .p) false),(100,.row 180 7 ((((zY r.per).take k).map (movOf r)).map Mov.pv) false)],[],false⟩) (λk=>k<=(zY r.per).length) (λk=>(zY r.per).length - k) 0 ?_ ?_ ?_
 .exact sS
 .simp
 .intro k hk
  repeat first|refine gG ?_|show AK _;intro K H|refine H _ _ ?_;clear H K|refine gJ ?_;try exact trivial|omega
  (refine gC ?_ ?_<;>intro hc<;>try contradiction)
  .obtain ⟨d,hx⟩:=zn (i:=k) (l:=zY r.per) (by omega)
   have hdm:=daysL_mem (List.mem_of_getElem? hx)
   have hlt:=take_len hx
   have qe:=aI qR @hx;repeat' first|refine gC ?_ ?_<;>intro hc<;>try contradiction|refine gG ?_|show AK _;intro K H|refine H _ _ ?_;clear H K|refine gJ ?_;try exact trivial|omega
   exact ⟨k+1,by omega,by omega,⟨by rw [List.take_add_one,hx,List.length_append];rfl,by simp⟩,by rw [take_snoc (movOf r) hx];simp [movOf]⟩
  .repeat' first|refine gC ?_ ?_<;>intro hc<;>try contradiction|refine gG ?_|show AK _;intro K H|refine H _ _ ?_;clear H K|refine gJ ?_;try exact trivial|omega
   have e:k=(zY r.per).length:=by omega
   subst e;rw [List.take_length];exact .refl _
abbrev yC (l:List Mov):Prop:=l.Pairwise λx y=>x.moment<=y.moment
theorem ybc {bef:Mov->Mov->Bool} (h1:∀ a b,bef a b=true->a.moment<=b.moment) (h2:∀ a b,bef a b=false->b.moment<=a.moment) {out:List Mov} (h:yC out) (x:Mov):yC (insM bef out x):=by
 unfold insM
 generalize hk:insAt bef x out out.length=k
 have hkl:=insAt_le bef x out out.length
 rw [hk] at hkl
 have hge:=insAt_ge bef x out out.length
 have hla:=insAt_last bef x out out.length
 rw [hk] at hge hla
 have hs:yC (out.take k++out.drop k):=by rw [List.take_append_drop];exact h
 have hs:=List.pairwise_append.1 hs
 have hdrop:∀ y ∈ out.drop k,x.moment<=y.moment:=λy hy=>by
  obtain ⟨i,hi⟩:=List.getElem?_of_mem hy
  rw [List.getElem?_drop] at hi
  have hlt:=(List.getElem?_eq_some_iff.1 hi).1
  obtain ⟨z,hz,hb⟩:=hge (k+i) (by omega) hlt
  rw [hi] at hz;cases hz
  exact h1 _ _ hb
 have htake:∀ y ∈ out.take k,y.moment<=x.moment:=λy hy=>by
  cases k with
  | zero=>simp at hy
  | succ k=>
   obtain ⟨z,hz⟩:∃ z,out[k]?=some z:=⟨_,List.getElem?_eq_getElem (by omega)⟩
   have hb:=h2 _ _ (hla k z rfl hz)
   obtain ⟨i,hi⟩:=List.getElem?_of_mem hy
   have hik:i < k+1:=by
    have:=(List.getElem?_eq_some_iff.1 hi).1
    simp only [List.length_take] at this;omega
   rw [List.getElem?_take,if_pos hik] at hi
   by_cases e:i=k
   .subst e;rw [hz] at hi;cases hi;exact hb
   .have hlt:=(List.getElem?_eq_some_iff.1 hi).1
    have:=List.pairwise_iff_getElem.1 h i k hlt (by omega) (by omega)
    rw [List.getElem?_eq_getElem hlt] at hi
    rw [List.getElem?_eq_getElem (by omega)] at hz
    have e1:=Option.some.inj hi
    have e2:=Option.some.inj hz
    rw [e1,e2] at this
    omega
 refine List.pairwise_append.2 ⟨hs.1,List.pairwise_cons.2 ⟨hdrop,hs.2.1⟩,λa ha b hb=>?_⟩
 rcases List.mem_cons.1 hb with rfl|hb
 .exact htake a ha
 .exact hs.2.2 a ha b hb
theorem yU {bef:Mov->Mov->Bool} (h1:∀ a b,bef a b=true->a.moment<=b.moment) (h2:∀ a b,bef a b=false->b.moment<=a.moment):∀ (l out:List Mov),yC out->yC (l.foldl (insM bef) out)
 | [],_,h=>h
 | x::l,_,h=>yU h1 h2 l _ (ybc h1 h2 h x)
theorem yaQ {bef:Mov->Mov->Bool} (h1:∀ a b,bef a b=true->a.moment<=b.moment) (h2:∀ a b,bef a b=false->b.moment<=a.moment) (a b:List Mov):yC (mergeM bef a b):=yU h1 h2 _ _ List.Pairwise.nil
theorem ybN {l:List Int} (h:∀ x ∈ l,x=0):zg l=0:=by
 induction l with
 | nil=>rfl
 | cons x r ih=>exact zq.2 ⟨h x (by simp),ih λy hy=>h y (by simp [hy])⟩
theorem yan {m:List Mov} (hn:m.length<=30000) (hc:∀ x ∈ m,chkMov x=0) (hs:yC m):zad m=0:=by
 rw [zad,if_neg (by omega)]
 refine ybN λe he=>?_
 obtain ⟨i,hi⟩:=List.getElem?_of_mem he
 simp only [movErrs,List.getElem?_mapIdx,Option.map_eq_some_iff] at hi
 obtain ⟨x,hx,rfl⟩:=hi
 refine zq.2 ⟨hc x (List.mem_of_getElem? hx),zq.2 ⟨if_neg λhh=>?_,rfl⟩⟩
 have hlt:=(List.getElem?_eq_some_iff.1 hx).1
 have:=List.pairwise_iff_getElem.1 hs (i - 1) i (by omega) hlt (by omega)
 rw [List.getElem?_eq_getElem (by omega),Option.getD_some] at hh
 rw [List.getElem?_eq_getElem hlt] at hx
 rw [Option.some.inj hx] at this
 omega
theorem ybz {l:Lim} (h:0<=l.len) {a b:List Mov} (hp:a.Perm b) (w:Int):zbs l a w=zbs l b w:=by
 rw [yb h,yb h,(hp.filter _).length_eq]
theorem yE {l:Lim} (h:0<=l.len) (a b:List Mov) (w:Int):zbs l (a++b) w=zbs l a w+zbs l b w:=by
 rw [yb h,yb h,yb h,List.filter_append,List.length_append];omega
theorem yM (ls:List Lim):∀ (W:List Win) (a:Int),(W.foldl (roomStep ls) a<=a/\∀ w ∈ W,W.foldl (roomStep ls) a<=max 0 (mostAt ls w.lim - w.cnt))/\(W.foldl (roomStep ls) a=a\/∃ w ∈ W,W.foldl (roomStep ls) a=max 0 (mostAt ls w.lim - w.cnt))
 | [],a=>⟨⟨Int.le_refl _,λw hw=>by cases hw⟩,.inl rfl⟩
 | x::r,a=>by
  obtain ⟨⟨h1,h2⟩,h3⟩:=yM ls r (roomStep ls a x)
  rw [List.foldl_cons]
  have e:roomStep ls a x=min a (max 0 (mostAt ls x.lim - x.cnt)):=rfl
  refine ⟨⟨by omega,λw hw=>?_⟩,?_⟩
  .rcases List.mem_cons.1 hw with rfl|hw
   .omega
   .exact h2 w hw
  .rcases h3 with h3|⟨w,hw,h3⟩
   .by_cases c:a<=max 0 (mostAt ls x.lim - x.cnt)
    .exact .inl (by omega)
    .exact .inr ⟨x,by simp,by omega⟩
   .exact .inr ⟨w,by simp [hw],h3⟩
theorem win_at {l:Lim} (h:zaS l=0) {b:Int} (hb:b ∈ ya l):b ∈ zM l (b / 1440):=by
 rw [yL h,List.mem_flatMap] at hb
 obtain ⟨d,hd,hb⟩:=hb
 have hb2:b ∈ zM l d:=by rw [yF h,if_pos hd];exact hb
 have:=beginsL_mem h hb2
 rw [show b / 1440=d by omega];exact hb2
theorem win_of {l:Lim} (h:zaS l=0) {b d:Int} (hb:b ∈ zM l d):b ∈ ya l:=by
 rw [yF h] at hb
 split at hb
 .rename_i hd
  rw [yL h,List.mem_flatMap];exact ⟨d,hd,hb⟩
 .cases hb
theorem ydl {ls:List Lim} {m:List Mov} {o:Mov} {i:Nat} {l:Lim} {b:Int} (hi:ls[i]?=some l) (h:zaS l=0) (hb:b ∈ ya l) (hw:inW l b o=true):(⟨i,b,zbs l m b⟩:Win) ∈ arW ls m o:=by
 have hl:=chkLim_0 h
 have hlt:=(List.getElem?_eq_some_iff.1 hi).1
 simp only [inW,Bool.and_eq_true,decide_eq_true_eq] at hw
 have hd:=win_at h hb
 unfold arW arK
 refine List.mem_flatMap.2 ⟨i,List.mem_range.2 hlt,?_⟩
 unfold arI
 rw [hi]
 simp only
 unfold arL
 rw [if_pos hw.1]
 refine List.mem_flatMap.2 ⟨(b / 1440 - o.moment / 1440+1).toNat,List.mem_range.2 (by omega),?_⟩
 unfold arX arD
 refine List.mem_flatMap.2 ⟨b,?_,?_⟩
 .rw [show o.moment / 1440 - 1+((b / 1440 - o.moment / 1440+1).toNat:Int)=b / 1440 by omega];exact hd
 .unfold arB;rw [if_pos hw.2];simp
