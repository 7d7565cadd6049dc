/- Contracts of functions that the proof uses, shared by the claims of this seat; no statement of its own. Part 72. No conditions. -/
import Derived.Test.YtahmdjadnlpjoaaGreatRows
import Derived.Test.YtahmdjadnlpjoaaGreatH1
set_option linter.all false
set_option maxHeartbeats 8000000
set_option maxRecDepth 100000
namespace Go.Proofs.YtahmdjadnlpjoaaGreat
open Go.RowKit
def mgK (l:List Mov) (k:Nat):List Mov:=(l.take k).foldl (insM befM) []
theorem ya9 {l:List Mov} {k:Nat} (h:k<=l.length):(mgK l k).length=k:=by
 have:=(foldl_perm befM (l.take k) []).length_eq
 rw [mgK,this];simp;omega
theorem ycV {l:List Mov} {k:Nat} {x:Mov} (h:l[k]?=some x):mgK l (k+1)=insM befM (mgK l k) x:=by
 rw [mgK,List.take_add_one,h,List.foldl_append];rfl
theorem allTk {l:List PV} {n:Nat} (h:l.all (λx=>x.cells.all PV.one)=true):(l.take n).all (λx=>x.cells.all PV.one)=true:=by rw [List.all_eq_true] at h ⊢;exact λx hx=>h x (List.mem_of_mem_take hx)
theorem allDr {l:List PV} {n:Nat} (h:l.all (λx=>x.cells.all PV.one)=true):(l.drop n).all (λx=>x.cells.all PV.one)=true:=by rw [List.all_eq_true] at h ⊢;exact λx hx=>h x (List.mem_of_mem_drop hx)
theorem ydo {a b:PV} (h:a=b):Weak a b:=h ▸ .refl _
theorem yb5 (a b:Mov):Pure Tryz.prog 169 [a.pv,b.pv] (.b (befM a b)):=by
 refine zf (cF Tryz.func169 Tryz.f169.eq_1) (by simp) λhw X hX=>?_
 by_cases h1:a.moment=b.moment
 .by_cases h2:a.kind=b.kind
  .have h1':=eq_true h1
   have h2':=eq_true h2
   have qe:=aI @h1' @h2';repeat' first|refine gC ?_ ?_<;>intro hc<;>try contradiction|refine gG ?_|show AK _;intro K H|refine H _ _ ?_;clear H K|refine gJ ?_;try exact trivial|omega
   rw [befM,if_pos h1,if_pos h2];exact .refl _
  .have h1':=eq_true h1
   have h2':=eq_false h2
   have qe:=aI @h1' @h2';repeat' first|refine gC ?_ ?_<;>intro hc<;>try contradiction|refine gG ?_|show AK _;intro K H|refine H _ _ ?_;clear H K|refine gJ ?_;try exact trivial|omega
   rw [befM,if_pos h1,if_neg h2];exact .refl _
 .have h1':=eq_false h1
  have qe:=@h1';repeat' first|refine gC ?_ ?_<;>intro hc<;>try contradiction|refine gG ?_|show AK _;intro K H|refine H _ _ ?_;clear H K|refine gJ ?_;try exact trivial|omega
  rw [befM,if_neg h1];exact .refl _
theorem yc1 {x:Mov} {out:List Mov} {q:Nat} {y:Mov} (hy:out[q]?=some y) (hb:befM x y=false):insAt befM x out (q+1)=q+1:=by
 simp only [insAt,hy];rw [if_neg (by simp [hb])]
theorem ins_go {x:Mov} {out:List Mov} {q:Nat} {y:Mov} (hy:out[q]?=some y) (hb:befM x y=true):insAt befM x out (q+1)=insAt befM x out q:=by
 simp only [insAt,hy];rw [if_pos hb]
theorem ydf {l:List Mov} {k q:Nat} {x:Mov} (hx:l[k]?=some x) (h:q=insAt befM x (mgK l k) k):((mgK l k).map Mov.pv).take q++x.pv::((mgK l k).map Mov.pv).drop q=(mgK l (k+1)).map Mov.pv:=by
 have hk:k<=l.length:=Nat.le_of_lt (List.getElem?_eq_some_iff.1 hx).1
 rw [ycV hx,insM,ya9 hk,<-h];simp
theorem mgT {l:List Mov} {k q:Nat} (hk:k<=l.length) (hq:q<=k):(((mgK l k).map Mov.pv).take q).length=q/\(((mgK l k).map Mov.pv).drop q).length=k - q/\((((mgK l k).map Mov.pv).take q).all (λx=>x.cells.all PV.one)=true)=True/\((((mgK l k).map Mov.pv).drop q).all (λx=>x.cells.all PV.one)=true)=True:=by
 have h:=ya9 hk
 have ha:((mgK l k).map Mov.pv).all (λx=>x.cells.all PV.one)=true:=by rw [List.all_map];exact allMv _
 exact ⟨by simp;omega,by simp;omega,eq_true (allTk ha),eq_true (allDr ha)⟩
theorem pure69 (a b:List Mov) (hn:a.length+b.length<=1000000):Pure Tryz.prog 96 [.sl 7 (a.map Mov.pv),.sl 7 (b.map Mov.pv)] (.sl 7 ((mergeM befM a b).map Mov.pv)):=by
 refine zf (cF Tryz.func96 Tryz.f96.eq_1) (by simp) λhw X hX=>?_
 have hl:(a++b).length=a.length+b.length:=List.length_append
 have hA:=λl=>eq_true (allMv l)
 have qe:=aI qR @hA;repeat' first|refine gC ?_ ?_<;>intro hc<;>try contradiction|refine gG ?_|show AK _;intro K H|refine H _ _ ?_;clear H K|refine gJ ?_;try exact trivial|omega
 refine ybY (κ:=Nat) (λk=>⟨[(5,.p (.sl 7 ((a++b).map Mov.pv))),(6,.p (.sl 7 ((mgK (a++b) k).map Mov.pv))),(7,.p (.i .i64 k))],[],[],false⟩) (λk=>k<=(a++b).length) (λk=>(a++b).length - k) 0 ?_ ?_ ?_
 .refine .x 5 (.sl 7 ((a++b).map Mov.pv)) ?_ (hw:=ydo (by simp))
  refine .x 6 (.sl 7 []) ?_
  exact .cov (by simp only [qS,seval]<;>simp [mgK])
 .simp
 .intro k hk
  have hkl:=ya9 hk
  by_cases hlt:k < (a++b).length
  .obtain ⟨x,hx⟩:=zn (i:=k) (l:=a++b) (by omega)
   have qe:=aI qR (aI @hA (aI @hx (aI @hkl @hl)));repeat' first|refine gC ?_ ?_<;>intro hc<;>try contradiction|refine gG ?_|show AK _;intro K H|refine H _ _ ?_;clear H K|refine gJ ?_;try exact trivial|omega
   refine zk (κ:=Nat) (λq=>⟨[(5,.p (.sl 7 ((a++b).map Mov.pv))),(6,.p (.sl 7 ((mgK (a++b) k).map Mov.pv))),(7,.p (.i .i64 k)),(8,.p (.i .i64 q))],[],[],false⟩) (λq=>q<=k/\insAt befM x (mgK (a++b) k) q=insAt befM x (mgK (a++b) k) k) (λq=>q) k ?_ ?_ ?_
   .exact sS
   .simp
   .intro q hq
    cases q with
    | zero=>
     obtain ⟨hT1,hT2,hT3,hT4⟩:=mgT (l:=a++b) (k:=k) (q:=0) (by omega) (by omega)
     have i0:(0 < ((0:Nat):Int))=False:=eq_false (by omega)
     have qe:=aI qR (aI @hA (aI @hx (aI @i0 (aI @hT1 (aI @hT2 (aI @hT3 (aI @hT4 (aI @hkl (aI @hl (aI @lpN (aI @lpE @lpR)))))))))));repeat' first|refine gC ?_ ?_<;>intro hc<;>try contradiction|(show zj _ _ _ _ (⟨_,.call _,_,_,_⟩::_) _ _;refine zbj (hf:=λhc=>(by first|exact (absurd hc (by decide):Pure Tryz.prog 169 _ (.b false))|(simp only [qH,rng_0] at hc;exact (absurd hc (by decide):Pure Tryz.prog 169 _ (.b false))))) (hn:=?_))|refine gG ?_|show AK _;intro K H|refine H _ _ ?_;clear H K|refine gJ ?_;try exact trivial|omega
     refine ⟨k+1,by omega,by dsimp only;omega,.x 6 (.sl 7 ((mgK (a++b) (k+1)).map Mov.pv)) ?_ (hw:=ydo (by rw [<-ydf hx (show 0=_ from hq.2)];simp))⟩
     exact .cov (sS)
    | succ q=>
     obtain ⟨y,hy⟩:=zn (i:=q) (l:=mgK (a++b) k) (by omega)
     have i0:(0 < ((q+1:Nat):Int))=True:=eq_true (by omega)
     have i1:((q+1:Nat):Int) - 1=(q:Int):=by omega
     obtain ⟨hT1,hT2,hT3,hT4⟩:=mgT (l:=a++b) (k:=k) (q:=q+1) (by omega) (by omega)
     cases hb:befM x y with
     | true=>
      have h0:=ins_go hy hb
      have qe:=aI qR (aI @hA (aI @hx (aI @hy (aI @hb (aI @i0 (aI @i1 (aI @hT1 (aI @hT2 (aI @hT3 (aI @hT4 (aI @hkl (aI @hl (aI @lpN (aI @lpE @lpR))))))))))))));repeat' first|refine gC ?_ ?_<;>intro hc<;>try contradiction|refine zN (λ_=>yb5 x y) ?_|refine gG ?_|show AK _;intro K H|refine H _ _ ?_;clear H K|refine gJ ?_;try exact trivial|omega
      exact ⟨q,⟨by omega,by rw [<-h0];exact hq.2⟩,by omega,rfl⟩
     | false=>
      have h0:=yc1 hy hb
      have qe:=aI qR (aI @hA (aI @hx (aI @hy (aI @hb (aI @i0 (aI @i1 (aI @hT1 (aI @hT2 (aI @hT3 (aI @hT4 (aI @hkl (aI @hl (aI @lpN (aI @lpE @lpR))))))))))))));repeat' first|refine gC ?_ ?_<;>intro hc<;>try contradiction|refine zN (λ_=>yb5 x y) ?_|refine gG ?_|show AK _;intro K H|refine H _ _ ?_;clear H K|refine gJ ?_;try exact trivial|omega
      refine ⟨k+1,by omega,by dsimp only;omega,.x 6 (.sl 7 ((mgK (a++b) (k+1)).map Mov.pv)) ?_ (hw:=ydo (by rw [<-ydf hx (h0.symm.trans hq.2)];simp))⟩
      exact .cov (sS)
  .have qe:=aI qR (aI @hA (aI @hkl (aI @hl (aI @lpN (aI @lpE @lpR)))));repeat' first|refine gC ?_ ?_<;>intro hc<;>try contradiction|refine gG ?_|show AK _;intro K H|refine H _ _ ?_;clear H K|refine gJ ?_;try exact trivial|omega
   have e:k=(a++b).length:=by omega
   have e2:mgK (a++b) (a++b).length=mergeM befM a b:=by rw [mgK,List.take_length];rfl
   subst e;rw [e2];exact .refl _
theorem bef1 {a b:Mov} (h:befM a b=true):a.moment<=b.moment:=by
 unfold befM at h;split at h
 .omega
 .simp only [decide_eq_true_eq] at h;omega
theorem bef0 {a b:Mov} (h:befM a b=false):b.moment<=a.moment:=by
 unfold befM at h;split at h
 .omega
 .simp only [decide_eq_false_iff_not] at h;omega
theorem ycW {a b:List Mov} (ha:∀ x ∈ a,chkMov x=0) (hb:∀ x ∈ b,chkMov x=0) (hn:a.length+b.length<=30000):zad (mergeM befM a b)=0/\(mergeM befM a b).length=a.length+b.length:=by
 have hp:=merge_perm befM a b
 have hlen:(mergeM befM a b).length=a.length+b.length:=by rw [hp.length_eq,List.length_append]
 refine ⟨yan (by omega) (λx hx=>?_) (yaQ (λ_ _ h=>bef1 h) (λ_ _ h=>bef0 h) a b),hlen⟩
 rcases List.mem_append.1 (hp.mem_iff.1 hx) with h|h
 .exact ha x h
 .exact hb x h
theorem ye (l:List Int):Pure Tryz.prog 36 [.sl 1 (l.map (.i .i64))] (.i .i64 (zg l)):=by
 refine zf (cF Tryz.func36 Tryz.f36.eq_1) (by simp) λhw X hX=>?_
 simp only [wfs,PV.wf,List.length_map,maxLen] at hw
 repeat' first|refine gC ?_ ?_<;>intro hc<;>try contradiction|refine gG ?_|show AK _;intro K H|refine H _ _ ?_;clear H K|refine gJ ?_;try exact trivial|omega
 refine zk (κ:=Nat) (λi=>⟨[(0,.p (.sl 1 (l.map (.i .i64)))),(3,.p (.i .i64 i))],[],[],false⟩) (λi=>i<=l.length/\∀ x ∈ l.take i,x=0) (λi=>l.length - i) 0 ?_ ?_ ?_
 .exact sR
 .simp
 .intro i hi
  repeat first|refine gG ?_|show AK _;intro K H|refine H _ _ ?_;clear H K|refine gJ ?_;try exact trivial|omega
  (refine gC ?_ ?_<;>intro hc<;>try contradiction)
  .obtain ⟨x,hx⟩:=zn (i:=i) (l:=l) (by omega)
   have qe:=@hx;repeat' first|refine gC ?_ ?_<;>intro hc<;>try contradiction|refine gG ?_|show AK _;intro K H|refine H _ _ ?_;clear H K|refine gJ ?_;try exact trivial|omega
   .rw [zV hi.2 hx hc];exact .refl _
   .exact ⟨i+1,⟨by omega,zaC hi.2 hx hc⟩,by omega,by simp⟩
  .repeat' first|refine gC ?_ ?_<;>intro hc<;>try contradiction|refine gG ?_|show AK _;intro K H|refine H _ _ ?_;clear H K|refine gJ ?_;try exact trivial|omega
   have e:i=l.length:=by omega
   subst e
   rw [z4 hi.2];exact .refl _
theorem yY (L:List ByteArray) (x:ByteArray):Pure Tryz.prog 81 [.sl 1 (L.map .s),.s x] (.b (decide (0<=atL x L))):=by
 refine zf (cF Tryz.func81 Tryz.f81.eq_1) (by simp) λhw X hX=>?_
 simp only [wfs,PV.wf,List.length_map,maxLen] at hw
 repeat' first|refine gC ?_ ?_<;>intro hc<;>try contradiction|refine gG ?_|show AK _;intro K H|refine H _ _ ?_;clear H K|refine gJ ?_;try exact trivial|omega
 refine zk (κ:=Nat) (λi=>⟨[(0,.p (.sl 1 (L.map .s))),(1,.p (.s x)),(5,.p (.i .i64 i))],[],[],false⟩) (λi=>i<=L.length/\∀ y ∈ L.take i,y≠x) (λi=>L.length - i) 0 ?_ ?_ ?_
 .exact sR
 .simp
 .intro i hi
  repeat first|refine gG ?_|show AK _;intro K H|refine H _ _ ?_;clear H K|refine gJ ?_;try exact trivial|omega
  (refine gC ?_ ?_<;>intro hc<;>try contradiction)
  .obtain ⟨y,hy⟩:=zn (i:=i) (l:=L) (by omega)
   have qe:=@hy;repeat' first|refine gC ?_ ?_<;>intro hc<;>try contradiction|refine gG ?_|show AK _;intro K H|refine H _ _ ?_;clear H K|refine gJ ?_;try exact trivial|omega
   .rw [atL_hit hi.2 (by rw [hy,hc]),decide_eq_true (by omega)];exact .refl _
   .refine ⟨i+1,⟨by omega,λz hz=>?_⟩,by omega,by simp⟩
    rw [zan hy] at hz
    rcases List.mem_append.1 hz with h|h
    .exact hi.2 z h
    .simp at h;subst h;exact hc
  .repeat' first|refine gC ?_ ?_<;>intro hc<;>try contradiction|refine gG ?_|show AK _;intro K H|refine H _ _ ?_;clear H K|refine gJ ?_;try exact trivial|omega
   have e:i=L.length:=by omega
   subst e
   rw [atL_end (λy hy=>hi.2 y (by rw [List.take_of_length_le (by simp)];exact hy))];exact .refl _
theorem yd (L:List Slt) (n:ByteArray):Pure Tryz.prog 79 [.sl 16 (L.map Slt.pv),.s n] (.i .i64 (atL n (L.map (·.req.name)))):=by
 refine zf (cF Tryz.func79 Tryz.f79.eq_1) (by simp) λhw X hX=>?_
 simp only [wfs,PV.wf,List.length_map,maxLen] at hw
 rw [<-idxF_atL]
 repeat' first|refine gC ?_ ?_<;>intro hc<;>try contradiction|refine gG ?_|show AK _;intro K H|refine H _ _ ?_;clear H K|refine gJ ?_;try exact trivial|omega
 refine zk (κ:=Nat) (λi=>⟨[(0,.p (.sl 16 (L.map Slt.pv))),(1,.p (.s n)),(5,.p (.i .i64 i))],[],[],false⟩) (λi=>i<=L.length/\∀ y ∈ L.take i,decide (y.req.name=n)=false) (λi=>L.length - i) 0 ?_ ?_ ?_
 .exact sR
 .simp
 .intro i hi
  repeat first|refine gG ?_|show AK _;intro K H|refine H _ _ ?_;clear H K|refine gJ ?_;try exact trivial|omega
  (refine gC ?_ ?_<;>intro hc<;>try contradiction)
  .obtain ⟨y,hy⟩:=zn (i:=i) (l:=L) (by omega)
   have qe:=@hy;repeat' first|refine gC ?_ ?_<;>intro hc<;>try contradiction|refine gG ?_|show AK _;intro K H|refine H _ _ ?_;clear H K|refine gJ ?_;try exact trivial|omega
   .rw [idxF_hit hi.2 hy (by simpa using hc)];exact .refl _
   .exact ⟨i+1,⟨by omega,take_no hi.2 hy (by simpa using hc)⟩,by omega,by simp⟩
  .repeat' first|refine gC ?_ ?_<;>intro hc<;>try contradiction|refine gG ?_|show AK _;intro K H|refine H _ _ ?_;clear H K|refine gJ ?_;try exact trivial|omega
   have e:i=L.length:=by omega
   subst e
   rw [idxF_end (λy hy=>hi.2 y (by rw [List.take_of_length_le (by simp)];exact hy))];exact .refl _
theorem yp (L:List Wsh) (n:ByteArray):Pure Tryz.prog 55 [.sl 14 (L.map Wsh.pv),.s n] (.i .i64 (atL n (L.map (·.req.name)))):=by
 refine zf (cF Tryz.func55 Tryz.f55.eq_1) (by simp) λhw X hX=>?_
 simp only [wfs,PV.wf,List.length_map,maxLen] at hw
 rw [<-idxF_atL]
 repeat' first|refine gC ?_ ?_<;>intro hc<;>try contradiction|refine gG ?_|show AK _;intro K H|refine H _ _ ?_;clear H K|refine gJ ?_;try exact trivial|omega
 refine zk (κ:=Nat) (λi=>⟨[(0,.p (.sl 14 (L.map Wsh.pv))),(1,.p (.s n)),(5,.p (.i .i64 i))],[],[],false⟩) (λi=>i<=L.length/\∀ y ∈ L.take i,decide (y.req.name=n)=false) (λi=>L.length - i) 0 ?_ ?_ ?_
 .exact sR
 .simp
 .intro i hi
  repeat first|refine gG ?_|show AK _;intro K H|refine H _ _ ?_;clear H K|refine gJ ?_;try exact trivial|omega
  (refine gC ?_ ?_<;>intro hc<;>try contradiction)
  .obtain ⟨y,hy⟩:=zn (i:=i) (l:=L) (by omega)
   have qe:=@hy;repeat' first|refine gC ?_ ?_<;>intro hc<;>try contradiction|refine gG ?_|show AK _;intro K H|refine H _ _ ?_;clear H K|refine gJ ?_;try exact trivial|omega
   .rw [idxF_hit hi.2 hy (by simpa using hc)];exact .refl _
   .exact ⟨i+1,⟨by omega,take_no hi.2 hy (by simpa using hc)⟩,by omega,by simp⟩
  .repeat' first|refine gC ?_ ?_<;>intro hc<;>try contradiction|refine gG ?_|show AK _;intro K H|refine H _ _ ?_;clear H K|refine gJ ?_;try exact trivial|omega
   have e:i=L.length:=by omega
   subst e
   rw [idxF_end (λy hy=>hi.2 y (by rw [List.take_of_length_le (by simp)];exact hy))];exact .refl _
theorem yo (s:ByteArray):Pure Tryz.prog 107 [.s s] (.i .i64 (zaH s)):=by
 refine zf (cF Tryz.func107 Tryz.f107.eq_1) (by simp) λhw X hX=>?_
 repeat' first|refine gC ?_ ?_<;>intro hc<;>try contradiction|refine za (yai _) ?_|refine gG ?_|show AK _;intro K H|refine H _ _ ?_;clear H K|refine gJ ?_;try exact trivial|omega
 .rw [zaH,if_pos hc];exact .refl _
 .rw [zaH,if_neg (by rw [hc];simp)];exact .refl _
theorem yX (l:Lea):Pure Tryz.prog 108 [l.pv] (.i .i64 (chkLea l)):=by
 refine zf (cF Tryz.func108 Tryz.f108.eq_1) (by simp) λhw X hX=>?_
 have hsp:chkLea l=zg ([zaH l.carrier,rng l.fro 0 99999,rng l.to 0 99999]++[if l.to < l.fro then 11 else 0]):=rfl
 rw [fE_app,fE_one] at hsp
 have qe:=@qR;repeat' first|refine gC ?_ ?_<;>intro hc<;>try contradiction|refine za (yo _) ?_|refine za (ya6 _) ?_|refine za (ye [_,_,_]) ?_|refine gG ?_|show AK _;intro K H|refine H _ _ ?_;clear H K|refine gJ ?_;try exact trivial|omega
 .rw [hsp,if_pos hc.1,if_pos hc.2];exact .refl _
 .by_cases h:zg [zaH l.carrier,rng l.fro 0 99999,rng l.to 0 99999]=0
  .have:=hc h
   rw [hsp,if_pos h,if_neg (by omega),h];exact .refl _
  .rw [hsp,if_neg h];exact .refl _
theorem yW (s:Slt) (l:Lea):Pure Tryz.prog 109 [s.pv,l.pv] (.i .i64 (leaOf s.raw l)):=by
 refine zf (cF Tryz.func109 Tryz.f109.eq_1) (by simp) λhw X hX=>?_
 have qe:=@qR;repeat' first|refine gC ?_ ?_<;>intro hc<;>try contradiction|refine gG ?_|show AK _;intro K H|refine H _ _ ?_;clear H K|refine gJ ?_;try exact trivial|omega
 .rw [leaOf,za2 (by rw [if_pos hc];omega),if_pos hc];exact .refl _
 .rw [leaOf,za3 (if_neg (by simp only;omega)),fE_one,if_pos hc];exact .refl _
 .rw [leaOf,za3 (if_neg (by simp only;omega)),fE_one,if_neg hc];exact .refl _
theorem ycG (s:ByteArray):Pure Tryz.prog 206 [.s s] (.b (decide (s=s0) || isName s)):=by
 refine zf (cF Tryz.func206 Tryz.f206.eq_1) (by simp) λhw X hX=>?_
 repeat' first|refine gC ?_ ?_<;>intro hc<;>try contradiction|refine zN (λ_=>yai _) ?_|refine gG ?_|show AK _;intro K H|refine H _ _ ?_;clear H K|refine gJ ?_;try exact trivial|omega
 exact .refl _
theorem ydg {a b c t l:ByteArray} (h:(((isName a=false\/isName b=false)\/isName c=false)\/¬t=s0/\isName t=false)\/¬l=s0/\isName l=false):zg [zaH a,zaH b,zaH c,optE t,optE l]=8:=by
 simp only [zg,zaH,optE]
 (repeat' split)<;>simp_all
theorem five_0 {a b c t l:ByteArray} (h:(((¬isName a=false/\isName b=true)/\isName c=true)/\(t=s0\/isName t=true))/\(l=s0\/isName l=true)):zg [zaH a,zaH b,zaH c,optE t,optE l]=0:=by
 simp only [zg,zaH,optE]
 (repeat' split)<;>simp_all
theorem ycI (r:Req):Pure Tryz.prog 126 [r.pv] (.i .i64 (chkRq r)):=by
 refine zf (cF Tryz.func126 Tryz.f126.eq_1) (by simp) λhw X hX=>?_
 have hsp:chkRq r=zg ([zaH r.name,zaH r.carrier,zaH r.partner,optE r.term,optE r.link]++[flightE r.kind,if r.link=r.name then 32 else 0,zau r.per,rng r.minute 0 1439,rng r.seats 0 999,rng r.size 1 9,rng r.noise 0 99]):=rfl
 rw [fE_app] at hsp
 have qe:=@qR;repeat' first|refine gC ?_ ?_<;>intro hc<;>try contradiction|refine zN (λ_=>yai _) ?_|refine za (yai _) ?_|refine zN (λ_=>ycG _) ?_|refine za (y6 r.per) ?_|refine za (yaq _ _ _) ?_|refine za (ye [_,_,_,_]) ?_|refine gG ?_|show AK _;intro K H|refine H _ _ ?_;clear H K|refine gJ ?_;try exact trivial|omega
 .rw [hsp,if_neg (by rw [ydg hc];omega),ydg hc];exact .refl _
 all_goals rw [if_pos (five_0 (by assumption))] at hsp
 .rw [hsp,za2 (by rw [flightE,if_pos hc];omega),flightE,if_pos hc];exact .refl _
 all_goals rw [za3 (show flightE r.kind=0 by rw [flightE,if_neg (λe=>e.2 ((by assumption:¬r.kind=bs [65]->r.kind=bs [68]) e.1))])] at hsp
 .rw [hsp,za2 (by rw [if_pos hc];omega),if_pos hc];exact .refl _
 all_goals rw [za3 (if_neg (by assumption))] at hsp
 .rw [hsp,za2 hc];exact .refl _
 .rw [hsp,za3 hc];exact .refl _
theorem yaO {r:Req} (h:chkRq r=0):zau r.per=0:=fE0 (show zg [zaH r.name,zaH r.carrier,zaH r.partner,optE r.term,optE r.link,flightE r.kind,if r.link=r.name then 32 else 0,zau r.per,rng r.minute 0 1439,rng r.seats 0 999,rng r.size 1 9,rng r.noise 0 99]=0 from h) _ (by simp)
theorem ybo (r:Req):Pure Tryz.prog 53 [r.pv] (.i .i64 (chkQ r)):=by
 refine zf (cF Tryz.func53 Tryz.f53.eq_1) (by simp) λhw X hX=>?_
 have qe:=aI qR (@List.length_map.{0,0});repeat' first|refine gC ?_ ?_<;>intro hc<;>try contradiction|refine za (ycI r) ?_|(show zj _ _ _ _ (⟨_,.call 47,_,_,_⟩::_) _ _;refine zbj (hf:=λhc=>(by first|exact yaN r.per (yaO (by simpa using hc))|(simp only [qH,rng_0] at hc;exact yaN r.per (yaO (by simpa using hc))))) (hn:=?_))|refine gG ?_|show AK _;intro K H|refine H _ _ ?_;clear H K|refine gJ ?_;try exact trivial|omega
 .have h2:zY r.per=[]:=by simpa using hc.2
  rw [chkQ,hc.1,za3 rfl,fE_one,if_pos h2];exact .refl _
 .by_cases h:chkRq r=0
  .have h2:¬zY r.per=[]:=by simpa using hc h
   rw [show chkQ r=0 by rw [chkQ,za3 h,fE_one,if_neg h2],h];exact .refl _
  .rw [chkQ,za2 h];exact .refl _
theorem yq (w:Wsh):Pure Tryz.prog 54 [w.pv] (.i .i64 (chkWsh w)):=by
 refine zf (cF Tryz.func54 Tryz.f54.eq_1) (by simp) λhw X hX=>?_
 have qe:=@qR;repeat' first|refine gC ?_ ?_<;>intro hc<;>try contradiction|refine za (ybo w.req) ?_|refine za (yaq _ _ _) ?_|refine za (ye [_,_]) ?_|refine gG ?_|show AK _;intro K H|refine H _ _ ?_;clear H K|refine gJ ?_;try exact trivial|omega
 exact .refl _
def yA (a b:Wsh):Bool:=decide (a.rank < b.rank) || (decide (a.rank=b.rank) && Op.bytesLess a.req.name.toList b.req.name.toList)
theorem ybm (a b:Wsh):Pure Tryz.prog 95 [a.pv,b.pv] (.b (yA a b)):=by
 refine zf (cF Tryz.func95 Tryz.f95.eq_1) (by simp) λhw X hX=>?_
 rw [yA]
 rcases Int.lt_trichotomy a.rank b.rank with h|h|h
 .have h1:(a.rank < b.rank)=True:=eq_true h
  have h2:(a.rank=b.rank)=False:=eq_false (by omega)
  have qe:=aI @h1 (aI @h2 yDF);repeat' first|refine gC ?_ ?_<;>intro hc<;>try contradiction|refine gG ?_|show AK _;intro K H|refine H _ _ ?_;clear H K|refine gJ ?_;try exact trivial|omega
  all_goals simp only [h1,h2,decide_true,decide_false,Bool.true_or]
  all_goals exact .refl _
 .have h1:(a.rank < b.rank)=False:=eq_false (by omega)
  have h2:(a.rank=b.rank)=True:=eq_true h
  have qe:=aI @h1 (aI @h2 yDF);repeat' first|refine gC ?_ ?_<;>intro hc<;>try contradiction|refine gG ?_|show AK _;intro K H|refine H _ _ ?_;clear H K|refine gJ ?_;try exact trivial|omega
  all_goals simp only [h1,h2,decide_true,decide_false,Bool.false_or,Bool.true_and]
  all_goals exact .refl _
 .have h1:(a.rank < b.rank)=False:=eq_false (by omega)
  have h2:(a.rank=b.rank)=False:=eq_false (by omega)
  have qe:=aI @h1 (aI @h2 yDF);repeat' first|refine gC ?_ ?_<;>intro hc<;>try contradiction|refine gG ?_|show AK _;intro K H|refine H _ _ ?_;clear H K|refine gJ ?_;try exact trivial|omega
  all_goals simp only [h1,h2,decide_true,decide_false,Bool.false_or,Bool.false_and]
  all_goals exact .refl _
def mvS (l:List Slt):List Mov:=l.foldl (λout s=>mergeM befM out (movsL s.req)) []
theorem ybu {l:List Slt} {k:Nat} {s:Slt} (h:l[k]?=some s):mvS (l.take (k+1))=mergeM befM (mvS (l.take k)) (movsL s.req):=by
 rw [zan h,mvS,List.foldl_append];rfl
theorem ycM (L:List Slt) (h:∀ s ∈ L,chkReq s.req=0) (hb:∀ s ∈ L,(movsL s.req).length<=1000) (hn:L.length<=900):Pure Tryz.prog 23 [.sl 16 (L.map Slt.pv)] (.sl 7 ((mvS L).map Mov.pv)):=by
 refine zf (cF Tryz.func23 Tryz.f23.eq_1) (by simp) λhw X hX=>?_
 repeat' first|refine gC ?_ ?_<;>intro hc<;>try contradiction|refine gG ?_|show AK _;intro K H|refine H _ _ ?_;clear H K|refine gJ ?_;try exact trivial|omega
 refine ycC 3 (.sl 7 ([]:List PV)) ?_
 refine zk (κ:=Nat) (λk=>⟨[(0,.p (.sl 16 (L.map Slt.pv))),(3,.p (.sl 7 ((mvS (L.take k)).map Mov.pv))),(4,.p (.i .i64 k))],[],[],false⟩) (λk=>k<=L.length/\(mvS (L.take k)).length<=1000*k) (λk=>L.length - k) 0 ?_ ?_ ?_
 .simp only [frzs,St.wrs,qS,seval]<;>simp [mvS]
 .simp [mvS]
 .intro k hk
  repeat first|refine gG ?_|show AK _;intro K H|refine H _ _ ?_;clear H K|refine gJ ?_;try exact trivial|omega
  (refine gC ?_ ?_<;>intro hc<;>try contradiction)
  .obtain ⟨s,hx⟩:=zn (i:=k) (l:=L) (by omega)
   have hm:=List.mem_of_getElem? hx
   have hl:=hb s hm
   have hnx:=ybu hx
   have qe:=aI qR @hx;repeat' first|refine gC ?_ ?_<;>intro hc<;>try contradiction|refine za (pure21 s.req (h s hm)) ?_|refine za (pure69 (mvS (L.take k)) (movsL s.req) (by omega)) ?_|refine gG ?_|show AK _;intro K H|refine H _ _ ?_;clear H K|refine gJ ?_;try exact trivial|omega
   refine ⟨k+1,⟨by omega,?_⟩,by omega,⟨by rw [hnx],by simp⟩⟩
   rw [hnx,(merge_perm befM _ _).length_eq,List.length_append];omega
  .repeat' first|refine gC ?_ ?_<;>intro hc<;>try contradiction|refine gG ?_|show AK _;intro K H|refine H _ _ ?_;clear H K|refine gJ ?_;try exact trivial|omega
   have e:k=L.length:=by omega
   subst e;rw [List.take_length];exact .refl _
def rtQ (q:Req) (m:Int):Req:={ q with minute:=m }
def rtS (s:Slt) (m:Int):Slt:=⟨rtQ s.req m,s.holder,s.ls,s.sh⟩
def rtE (l:List Lim) (b:Bk) (n:ByteArray) (s:Slt) (m:Int):Int:=if fitR l (movF b (atL n (b.slots.map (·.req.name)))) (rtQ s.req m)=true then 0 else 14
theorem yda (l:List Lim) (b:Bk) (n:ByteArray) (i:Nat) (s:Slt) (m:Int) (hb:BkOk b) (hs:b.slots[i]?=some s):Acts Tryz.prog 218 [.ep 900 b.slots.length i 0,.p (.ip (.i .i64 m) 0),.p (.ip (.sl 11 (l.map Lim.pv)) 0),.p (.ip (.agg [.sl 16 (b.slots.map Slt.pv),.sl 14 (b.wait.map Wsh.pv)]) 0),.p (.ip (.s n) 0)] [(900,.row 59 16 (b.slots.map Slt.pv) false)] (.p (.i .i64 (rtE l b n s m)))
  [(900,.row 59 16 ((b.slots.map Slt.pv).set i (rtS s m).pv) false)]:=by
 obtain ⟨hs1,hn,hwl⟩:=hb
 have hi:i < b.slots.length:=(List.getElem?_eq_some_iff.1 hs).1
 have hi':i < (b.slots.map Slt.pv).length:=by simpa using hi
 have hg:=λa=>set_get (b.slots.map Slt.pv) i a hi'
 have hE:(if fitR l (mvF (rqW (b.slots.map (·.req)) (atL n (b.slots.map (·.req.name))))) (rtQ s.req m)=false then (14:Int) else 0)=rtE l b n s m:=by
  rw [rtE,movF];cases fitR l (mvF (rqW (b.slots.map (·.req)) (atL n (b.slots.map (·.req.name))))) (rtQ s.req m)<;>rfl
 refine zS (cF Tryz.func218 Tryz.f218.eq_1) (by simp) (by simp [scPs,scP,zl]) (by simp [scObj]) ⟨rfl,trivial⟩ (by simp [scObj]) (by simp [FolL,zl]) λX hX=>?_
 unfold zD ghO
 have qe:=aI qR (aI @qN (aI @gLV.eq_2 (aI @hs (aI @hg (aI @hE (aI @List.set_set.{0} (aI @List.length_set.{0} (aI @rtN @rtR))))))));repeat' first|refine gC ?_ ?_<;>intro hc<;>try contradiction|refine za (za9 b n) ?_|refine zbP (hf:=pure1089 b.slots b.wait _ (by omega)) (hn:=?_)|refine za (pure1159 l _ (rtQ s.req m)) ?_|refine za (zW _ _) ?_|refine gG ?_|show AK _;intro K H|refine H _ _ ?_;clear H K|refine gJ ?_;try exact trivial|omega
 exact .inl (.mk1 (h2:=by simp only [qS,seval,keepG.eq_1,keepG.eq_2,gLV.eq_2]<;>simp))
def rtC (l:List Lim) (b:Bk) (c n:ByteArray) (m:Int):Int:=chgC b c n (rng m 0 1439) (rtE l b n (zo b n) m)
def rtB (l:List Lim) (b:Bk) (c n:ByteArray) (m:Int):Bk:=if rtC l b c n m=0 then chgB b n (rtS (zo b n) m) else bk0
theorem ycH (l:List Lim) (b:Bk) (c n:ByteArray) (m:Int) (hb:BkOk b):Pure Tryz.prog 142 [b.pv,.sl 11 (l.map Lim.pv),.s c,.s n,.i .i64 m] (.tup [(rtB l b c n m).pv,.i .i64 (rtC l b c n m)]):=by
 have hch:=changedP (caps:=[.ip (.i .i64 m) 0,.ip (.sl 11 (l.map Lim.pv)) 0,.ip (.agg [.sl 16 (b.slots.map Slt.pv),.sl 14 (b.wait.map Wsh.pv)]) 0,.ip (.s n) 0]) b c n (rng m 0 1439) (rtE l b n (zo b n) m) (rtS (zo b n) m) (rtS (zo b n) m).pv ((b.slots.map Slt.pv).set (zA b n) (rtS (zo b n) m).pv) hb (.refl _) (by simp) λh=>by
  rw [ite_self];exact yda l b n (zA b n) (zo b n) m hb (za8 h).2.1
 refine zf (cF Tryz.func142 Tryz.f142.eq_1) (by simp) λhw X hX=>?_
 have qe:=aI qR @qN;repeat' first|refine gC ?_ ?_<;>intro hc<;>try contradiction|refine za (pure1183 m 0 1439) ?_|refine zam (hch) ?_|refine gG ?_|show AK _;intro K H|refine H _ _ ?_;clear H K|refine gJ ?_;try exact trivial|omega
 exact .refl _
def ybP (e0:Int) (y:Bk) (e:Int):Bk × Int:=if e0=0 then (if e=0 then y else bk0,e) else (bk0,e0)
theorem yaF {e0:Int} {y:Bk} {e:Int} (h:e0=0) (hy:e≠0->y=bk0):ybP e0 y e=(y,e):=by
 rw [ybP,if_pos h]
 by_cases k:e=0
 .rw [if_pos k]
 .rw [if_neg k,hy k]
theorem ycr {e0:Int} {y:Bk} {e:Int} (h:¬e0=0):ybP e0 y e=(bk0,e0):=by rw [ybP,if_neg h]
theorem ydw {l:List Lim} {b:Bk} {c n:ByteArray} {m:Int} (h:rtC l b c n m≠0):rtB l b c n m=bk0:=if_neg h
theorem ybn (l:List Lim) (b:Bk) (c n:ByteArray) (m:Int) (hb:zG b=0->BkOk b):Pure Tryz.prog 60 [.sl 11 (l.map Lim.pv),b.pv,.s c,.s n,.i .i64 m] (.tup [(ybP (zg [z3 l,zG b]) (rtB l b c n m) (rtC l b c n m)).1.pv,.i .i64 (ybP (zg [z3 l,zG b]) (rtB l b c n m) (rtC l b c n m)).2]):=by
 by_cases h:zg [z3 l,zG b]=0
 .have e1:(zg [z3 l,zG b]=0)=True:=eq_true h
  rw [yaF h ydw]
  refine zf (cF Tryz.func60 Tryz.f60.eq_1) (by simp) λhw X hX=>?_
  have qe:=aI qR (aI @qN @e1);repeat' first|refine gC ?_ ?_<;>intro hc<;>try contradiction|refine za (pure22 l) ?_|refine za (zX b) ?_|refine za (zz [_,_]) ?_|refine zbP (hf:=ycH l b c n m (hb (fE0 h _ (by simp)))) (hn:=?_)|refine gG ?_|show AK _;intro K H|refine H _ _ ?_;clear H K|refine gJ ?_;try exact trivial|omega
  exact .refl _
 .have e1:(zg [z3 l,zG b]=0)=False:=eq_false h
  rw [ycr h]
  refine zat (r:=.tup [.agg [.nilsl,.nilsl],.i .i64 (zg [z3 l,zG b])]) ?_ (zbw _)
  refine zf (cF Tryz.func60 Tryz.f60.eq_1) (by simp) λhw X hX=>?_
  have qe:=aI qR (aI @qN @e1);repeat' first|refine gC ?_ ?_<;>intro hc<;>try contradiction|refine za (pure22 l) ?_|refine za (zX b) ?_|refine za (zz [_,_]) ?_|refine gG ?_|show AK _;intro K H|refine H _ _ ?_;clear H K|refine gJ ?_;try exact trivial|omega
  exact .refl _
def ybB (q:Req):Bool:=decide ((q.name.size:Int)<=40) && decide ((q.carrier.size:Int)<=40) && decide ((q.kind.size:Int)<=40) && decide ((q.term.size:Int)<=40) && decide ((q.partner.size:Int)<=40) && decide ((q.link.size:Int)<=40)
theorem yat (q:Req):Pure Tryz.prog 51 [q.pv] (.b (ybB q)):=by
 refine zf (cF Tryz.func51 Tryz.f51.eq_1) (by simp) λhw X hX=>?_
 have qe:=@qR;repeat' first|refine gC ?_ ?_<;>intro hc<;>try contradiction|refine gG ?_|show AK _;intro K H|refine H _ _ ?_;clear H K|refine gJ ?_;try exact trivial|omega
 exact .refl _
def shortB (q:Req):Bool:=ybB q && (!decide (zau q.per=0) || decide (q.per.to - q.per.fro < 14))
theorem yas (q:Req):Pure Tryz.prog 85 [q.pv] (.b (shortB q)):=by
 refine zf (cF Tryz.func85 Tryz.f85.eq_1) (by simp) λhw X hX=>?_
 by_cases hb:ybB q=true
 .by_cases hp:zau q.per=0
  .have h1:=zaX hp
   have e:shortB q=decide (q.per.to - q.per.fro < 14):=by simp [shortB,hb,hp]
   rw [e]
   have qe:=aI qR (aI @hb (aI @hp (aI @decide_true @Bool.not_true)));repeat' first|refine gC ?_ ?_<;>intro hc<;>try contradiction|refine za (yat q) ?_|refine zN (λ_=>y6 q.per) ?_|refine gG ?_|show AK _;intro K H|refine H _ _ ?_;clear H K|refine gJ ?_;try exact trivial|omega
   exact .refl _
  .have hpf:=eq_false hp
   have e:shortB q=true:=by simp [shortB,hb,hp]
   rw [e]
   have qe:=aI qR (aI @hb (aI @hpf (aI @decide_false @Bool.not_false)));repeat' first|refine gC ?_ ?_<;>intro hc<;>try contradiction|refine za (yat q) ?_|refine zN (λ_=>y6 q.per) ?_|refine gG ?_|show AK _;intro K H|refine H _ _ ?_;clear H K|refine gJ ?_;try exact trivial|omega
   exact .refl _
 .have hbf:ybB q=false:=by simpa using hb
  have e:shortB q=false:=by simp [shortB,hbf]
  rw [e]
  have qe:=aI qR @hbf;repeat' first|refine gC ?_ ?_<;>intro hc<;>try contradiction|refine za (yat q) ?_|refine zN (λ_=>y6 q.per) ?_|refine gG ?_|show AK _;intro K H|refine H _ _ ?_;clear H K|refine gJ ?_;try exact trivial|omega
  exact .refl _
theorem yg (q:Req):Pure Tryz.prog 31 [q.pv] (.b (shortB q)):=by
 refine zf (cF Tryz.func31 Tryz.f31.eq_1) (by simp) λhw X hX=>?_
 have qe:=@qR;repeat' first|refine gC ?_ ?_<;>intro hc<;>try contradiction|refine za (yas q) ?_|refine gG ?_|show AK _;intro K H|refine H _ _ ?_;clear H K|refine gJ ?_;try exact trivial|omega
 exact .refl _
theorem ycJ (s:Slt):Pure Tryz.prog 124 [s.pv,s.pv] (.b true):=by
 refine zf (cF Tryz.func124 Tryz.f124.eq_1) (by simp) λhw X hX=>?_
 have hwl:s.ls.length<=maxLen:=by
  simp only [wfs,PV.wf,List.length_map] at hw
  omega
 simp only [maxLen] at hwl
 have qe:=aI qR (aI @zbb (aI @decide_true @Bool.not_true));repeat' first|refine gC ?_ ?_<;>intro hc<;>try contradiction|refine zN (λ_=>pure1031 s.sh s.sh) ?_|refine gG ?_|show AK _;intro K H|refine H _ _ ?_;clear H K|refine gJ ?_;try exact trivial|omega
 refine zk (κ:=Nat) (λk=>⟨[(2,.lp 2 0),(3,.lp 3 0),(5,.p (.i .i64 k))],[(2,.box (s.cells.map .p) false),(3,.box (s.cells.map .p) false)],[],false⟩) (λk=>k<=s.ls.length) (λk=>s.ls.length - k) 0 ?_ ?_ ?_
 .exact sS
 .simp
 .intro k hk
  repeat first|refine gG ?_|show AK _;intro K H|refine H _ _ ?_;clear H K|refine gJ ?_;try exact trivial|omega
  (refine gC ?_ ?_<;>intro hc<;>try contradiction)
  .obtain ⟨x,hx⟩:=zn (i:=k) (l:=s.ls) (by omega)
   have qe:=aI qR (aI @hx (aI @zbb (aI @decide_true (aI @Bool.not_true @Bool.and_self))));repeat' first|refine gC ?_ ?_<;>intro hc<;>try contradiction|refine gG ?_|show AK _;intro K H|refine H _ _ ?_;clear H K|refine gJ ?_;try exact trivial|omega
   exact ⟨k+1,by omega,by omega,by simp⟩
  .have qe:=@qR;repeat' first|refine gC ?_ ?_<;>intro hc<;>try contradiction|refine gG ?_|show AK _;intro K H|refine H _ _ ?_;clear H K|refine gJ ?_;try exact trivial|omega
   exact .refl _
theorem ybp (b:Bk):Pure Tryz.prog 49 [b.pv,b.pv] (.b true):=by
 refine zf (cF Tryz.func49 Tryz.f49.eq_1) (by simp) λhw X hX=>?_
 have hwl:b.slots.length<=maxLen/\b.wait.length<=maxLen:=by
  simp only [wfs,PV.wf,List.length_map] at hw
  omega
 simp only [maxLen] at hwl
 have qe:=aI qR (aI @zbb (aI @decide_true @Bool.not_true));repeat' first|refine gC ?_ ?_<;>intro hc<;>try contradiction|refine gG ?_|show AK _;intro K H|refine H _ _ ?_;clear H K|refine gJ ?_;try exact trivial|omega
 refine zk (κ:=Nat) (λk=>⟨[(2,.lp 2 0),(3,.lp 3 0),(5,.p (.i .i64 k))],[(2,.box [.p (.sl 16 (b.slots.map Slt.pv)),.p (.sl 14 (b.wait.map Wsh.pv))] false),(3,.box [.p (.sl 16 (b.slots.map Slt.pv)),.p (.sl 14 (b.wait.map Wsh.pv))] false)],[],false⟩) (λk=>k<=b.slots.length) (λk=>b.slots.length - k) 0 ?_ ?_ ?_
 .exact sS
 .simp
 .intro k hk
  repeat first|refine gG ?_|show AK _;intro K H|refine H _ _ ?_;clear H K|refine gJ ?_;try exact trivial|omega
  (refine gC ?_ ?_<;>intro hc<;>try contradiction)
  .obtain ⟨x,hx⟩:=zn (i:=k) (l:=b.slots) (by omega)
   have qe:=aI qR (aI @hx (aI @zbb (aI @decide_true @Bool.not_true)));repeat' first|refine gC ?_ ?_<;>intro hc<;>try contradiction|refine za (ycJ x) ?_|refine gG ?_|show AK _;intro K H|refine H _ _ ?_;clear H K|refine gJ ?_;try exact trivial|omega
   all_goals exact ⟨k+1,by omega,by omega,by simp⟩
  .have qe:=@qR;repeat' first|refine gC ?_ ?_<;>intro hc<;>try contradiction|refine gG ?_|show AK _;intro K H|refine H _ _ ?_;clear H K|refine gJ ?_;try exact trivial|omega
   refine zk (κ:=Nat) (λk=>⟨[(2,.lp 2 0),(3,.lp 3 0),(6,.p (.i .i64 k))],[(2,.box [.p (.sl 16 (b.slots.map Slt.pv)),.p (.sl 14 (b.wait.map Wsh.pv))] false),(3,.box [.p (.sl 16 (b.slots.map Slt.pv)),.p (.sl 14 (b.wait.map Wsh.pv))] false)],[],false⟩) (λk=>k<=b.wait.length) (λk=>b.wait.length - k) 0 ?_ ?_ ?_
   .exact sS
   .simp
   .intro k hk
    repeat first|refine gG ?_|show AK _;intro K H|refine H _ _ ?_;clear H K|refine gJ ?_;try exact trivial|omega
    (refine gC ?_ ?_<;>intro hc<;>try contradiction)
    .obtain ⟨x,hx⟩:=zn (i:=k) (l:=b.wait) (by omega)
     have qe:=aI qR (aI @hx (aI @zbb (aI @decide_true (aI @Bool.not_true @Bool.and_self))));repeat' first|refine gC ?_ ?_<;>intro hc<;>try contradiction|refine gG ?_|show AK _;intro K H|refine H _ _ ?_;clear H K|refine gJ ?_;try exact trivial|omega
     all_goals exact ⟨k+1,by omega,by omega,by simp⟩
    .have qe:=@qR;repeat' first|refine gC ?_ ?_<;>intro hc<;>try contradiction|refine gG ?_|show AK _;intro K H|refine H _ _ ?_;clear H K|refine gJ ?_;try exact trivial|omega
     all_goals exact .refl _
theorem yZ (b:Bk) (hb:BkOk b):Pure Tryz.prog 50 [b.pv] b.pv:=by
 obtain ⟨hs,hn,hw1⟩:=hb
 refine zf (cF Tryz.func50 Tryz.f50.eq_1) (by simp) λhw X hX=>?_
 have qe:=@qR;repeat' first|refine gC ?_ ?_<;>intro hc<;>try contradiction|refine gG ?_|show AK _;intro K H|refine H _ _ ?_;clear H K|refine gJ ?_;try exact trivial|omega
 refine zaO 100 33 16 [(1,.lp 1 0),(2,.lp 2 0),(3,.lp 3 0),(12,.p (.sl 16 (b.slots.map Slt.pv))),(13,.p (.i .i64 b.slots.length)),(14,.p (.i .i64 0))] [(1,.box [.p (.sl 16 (b.slots.map Slt.pv)),.p (.sl 14 (b.wait.map Wsh.pv))] false),(2,.box [.p .nilsl,.p .nilsl] false),(3,.box [.row 100 0,.p .nilsl] false)] ?_ ?_
 .simp only [Own,zaL,zaB,zbt,zay,qS,seval]<;>simp
 refine zk (κ:=Nat) (λk=>⟨[(1,.lp 1 0),(2,.lp 2 0),(3,.lp 3 0),(12,.p (.sl 16 (b.slots.map Slt.pv))),(13,.p (.i .i64 b.slots.length)),(14,.p (.i .i64 k))],[(1,.box [.p (.sl 16 (b.slots.map Slt.pv)),.p (.sl 14 (b.wait.map Wsh.pv))] false),(2,.box [.p .nilsl,.p .nilsl] false),(3,.box [.row 100 k,.p .nilsl] false),(100,.row 33 16 ((b.slots.take k).map Slt.pv) false)],[],false⟩) (λk=>k<=b.slots.length) (λk=>b.slots.length - k) 0 ?_ ?_ ?_
 .exact sS
 .simp
 .intro k hk
  have hlk:(b.slots.take k).length=k:=by rw [List.length_take];omega
  repeat first|refine gG ?_|show AK _;intro K H|refine H _ _ ?_;clear H K|refine gJ ?_;try exact trivial|omega
  (refine gC ?_ ?_<;>intro hc<;>try contradiction)
  .obtain ⟨s,hx⟩:=zn (i:=k) (l:=b.slots) (by omega)
   obtain ⟨hl1,hl2⟩:=hs s (List.mem_of_getElem? hx)
   have qe:=aI qR @hx;repeat' first|refine gC ?_ ?_<;>intro hc<;>try contradiction|refine gG ?_|show AK _;intro K H|refine H _ _ ?_;clear H K|refine gJ ?_;try exact trivial|omega
   refine zaO 101 97 3 [(1,.lp 1 0),(2,.lp 2 0),(3,.lp 3 0),(12,.p (.sl 16 (b.slots.map Slt.pv))),(13,.p (.i .i64 b.slots.length)),(14,.p (.i .i64 k)),(5,.lp 5 0),(6,.lp 6 0),(26,.p (.sl 3 (s.ls.map Lea.pv))),(27,.p (.i .i64 s.ls.length)),(28,.p (.i .i64 0))] [(1,.box [.p (.sl 16 (b.slots.map Slt.pv)),.p (.sl 14 (b.wait.map Wsh.pv))] false),(2,.box [.p .nilsl,.p .nilsl] false),(3,.box [.row 100 k,.p .nilsl] false),(100,.row 33 16 ((b.slots.take k).map Slt.pv) false),(5,.box (s.cells.map .p) false),(6,.box [.p (.s s.req.name),.p (.s s.req.carrier),.p (.s s.req.kind),.p (.s s.req.term),.p (.s s.req.partner),.p (.s s.req.link),.p (.i .i64 s.req.per.fro),.p (.i .i64 s.req.per.to),.p (.i .i64 s.req.per.days),.p (.i .i64 s.req.minute),.p (.i .i64 s.req.seats),.p (.i .i64 s.req.size),.p (.i .i64 s.req.noise),.p (.s s.holder),.row 101 0,.p (.sl 1 (s.sh.map .s))] false)] ?_ ?_
   .simp only [Own,zaL,zaB,zbt,zay,qS,seval]<;>simp [hlk]
   refine zk (κ:=Nat) (λi=>⟨[(1,.lp 1 0),(2,.lp 2 0),(3,.lp 3 0),(12,.p (.sl 16 (b.slots.map Slt.pv))),(13,.p (.i .i64 b.slots.length)),(14,.p (.i .i64 k)),(5,.lp 5 0),(6,.lp 6 0),(26,.p (.sl 3 (s.ls.map Lea.pv))),(27,.p (.i .i64 s.ls.length)),(28,.p (.i .i64 i))],[(1,.box [.p (.sl 16 (b.slots.map Slt.pv)),.p (.sl 14 (b.wait.map Wsh.pv))] false),(2,.box [.p .nilsl,.p .nilsl] false),(3,.box [.row 100 k,.p .nilsl] false),(100,.row 33 16 ((b.slots.take k).map Slt.pv) false),(5,.box (s.cells.map .p) false),(6,.box [.p (.s s.req.name),.p (.s s.req.carrier),.p (.s s.req.kind),.p (.s s.req.term),.p (.s s.req.partner),.p (.s s.req.link),.p (.i .i64 s.req.per.fro),.p (.i .i64 s.req.per.to),.p (.i .i64 s.req.per.days),.p (.i .i64 s.req.minute),.p (.i .i64 s.req.seats),.p (.i .i64 s.req.size),.p (.i .i64 s.req.noise),.p (.s s.holder),.row 101 i,.p (.sl 1 (s.sh.map .s))] false),(101,.row 97 3 ((s.ls.take i).map Lea.pv) false)],[],false⟩) (λi=>i<=s.ls.length) (λi=>s.ls.length - i) 0 ?_ ?_ ?_
   .refine gJ ?_;simp [hlk]
   .simp
   .intro i hi
    have hli:(s.ls.take i).length=i:=by rw [List.length_take];omega
    repeat first|refine gG ?_|show AK _;intro K H|refine H _ _ ?_;clear H K|refine gJ ?_;try exact trivial|omega
    (refine gC ?_ ?_<;>intro hc<;>try contradiction)
    .obtain ⟨x,hx2⟩:=zn (i:=i) (l:=s.ls) (by omega)
     have qe:=aI qR (aI @hx2 (aI @hli @hlk));repeat' first|refine gC ?_ ?_<;>intro hc<;>try contradiction|refine gG ?_|show AK _;intro K H|refine H _ _ ?_;clear H K|refine gJ ?_;try exact trivial|omega
     exact ⟨i+1,by omega,by omega,by simp,⟨rfl,by rw [zan hx2];simp⟩,by simp;omega⟩
    .have e:i=s.ls.length:=by omega
     subst e
     refine run_exit ?_
     refine (show Run _ (.ops false _) _ _ from run_region (run_partN 3 ?_))
     simp only [List.take_succ_cons,List.take_zero,List.drop_succ_cons,List.drop_zero]
     have qe:=aI qR (aI @zaf (aI @hlk @List.take_length.{0}));repeat' first|refine gC ?_ ?_<;>intro hc<;>try contradiction|refine gG ?_|show AK _;intro K H|refine H _ _ ?_;clear H K|refine gJ ?_;try exact trivial|omega
     refine zbO (yaU 41 s.pv (by simp only [qS,seval,zaf]<;>rfl) (by first|trivial|simp) (.refl _)) ?_
     rintro _ rfl
     refine zE ?_
     have qe:=aI qR @hlk;repeat' first|refine gC ?_ ?_<;>intro hc<;>try contradiction|refine gG ?_|show AK _;intro K H|refine H _ _ ?_;clear H K|refine gJ ?_;try exact trivial|omega
     exact ⟨k+1,by omega,by omega,by simp,⟨rfl,by rw [zan hx];simp⟩,by simp;omega⟩
  .have e:k=b.slots.length:=by omega
   subst e
   have qe:=aI qR @List.take_length.{0};repeat' first|refine gC ?_ ?_<;>intro hc<;>try contradiction|refine gG ?_|show AK _;intro K H|refine H _ _ ?_;clear H K|refine gJ ?_;try exact trivial|omega
   refine zaO 102 66 14 [(2,.lp 2 0),(3,.lp 3 0),(47,.p (.sl 14 (b.wait.map Wsh.pv))),(48,.p (.i .i64 b.wait.length)),(49,.p (.i .i64 0))] [(1,.box [.p (.sl 16 (b.slots.map Slt.pv)),.p (.sl 14 (b.wait.map Wsh.pv))] false),(2,.box [.p .nilsl,.p .nilsl] false),(3,.box [.row 100 b.slots.length,.row 102 0] false),(100,.row 33 16 (b.slots.map Slt.pv) false)] ?_ ?_
   .simp only [Own,zaL,zaB,zbt,zay,qS,seval]<;>simp
   refine zk (κ:=Nat) (λk=>⟨[(2,.lp 2 0),(3,.lp 3 0),(47,.p (.sl 14 (b.wait.map Wsh.pv))),(48,.p (.i .i64 b.wait.length)),(49,.p (.i .i64 k))],[(1,.box [.p (.sl 16 (b.slots.map Slt.pv)),.p (.sl 14 (b.wait.map Wsh.pv))] false),(2,.box [.p .nilsl,.p .nilsl] false),(3,.box [.row 100 b.slots.length,.row 102 k] false),(100,.row 33 16 (b.slots.map Slt.pv) false),(102,.row 66 14 ((b.wait.take k).map Wsh.pv) false)],[],false⟩) (λk=>k<=b.wait.length) (λk=>b.wait.length - k) 0 ?_ ?_ ?_
   .exact sS
   .simp
   .intro k hk2
    have hl2:(b.wait.take k).length=k:=by rw [List.length_take];omega
    repeat first|refine gG ?_|show AK _;intro K H|refine H _ _ ?_;clear H K|refine gJ ?_;try exact trivial|omega
    (refine gC ?_ ?_<;>intro hc<;>try contradiction)
    .obtain ⟨w,hx2⟩:=zn (i:=k) (l:=b.wait) (by omega)
     have qe:=aI qR (aI @hx2 @hl2);repeat' first|refine gC ?_ ?_<;>intro hc<;>try contradiction|refine gG ?_|show AK _;intro K H|refine H _ _ ?_;clear H K|refine gJ ?_;try exact trivial|omega
     exact ⟨k+1,by omega,by omega,by simp,⟨rfl,by rw [zan hx2];simp⟩,by simp;omega⟩
    .have e2:k=b.wait.length:=by omega
     subst e2
     have qe:=aI qR (aI @zaf @List.take_length.{0});repeat' first|refine gC ?_ ?_<;>intro hc<;>try contradiction|refine gG ?_|show AK _;intro K H|refine H _ _ ?_;clear H K|refine gJ ?_;try exact trivial|omega
     exact .refl _
theorem yco {q:Req} (h:chkRq q=0):chkReq q=0:=by
 have a:=fE0 h
 have h1:zaH q.name=0:=a _ (by simp)
 have h2:optE q.term=0:=a _ (by simp)
 have h3:flightE q.kind=0:=a _ (by simp)
 have h4:zau q.per=0:=a _ (by simp)
 have h5:rng q.minute 0 1439=0:=a _ (by simp)
 have h6:=rng_0.1 (a (rng q.seats 0 999) (by simp))
 have h7:=rng_0.1 (a (rng q.size 1 9) (by simp))
 have h8:=rng_0.1 (a (rng q.noise 0 99) (by simp))
 rw [chkReq,za3 h1,za3 h3,za3 h2,za3 h4,za3 h5,fE_one]
 exact yca (by omega)
theorem yw {q:Req} (h:chkQ q=0):chkReq q=0:=yco (fE0 h _ (by simp))
open Go.RowKit Go.ChangeShapes Go.WideShapes Go.ChangeAt
abbrev jT:CP:=.i .i64
theorem own:ownKnob Tryz.prog.godebug=none:=by kernel_rfl
theorem laid:laidOutB Tryz.prog=true:=by kernel_rfl
theorem und4:Tryz.prog.underlying 4=some .bool:=by kernel_rfl
abbrev zs:Value:=.string ⟨#[]⟩
abbrev zi:Value:=.int .i64 0
theorem ycc {P:Program} {f:FuncId} {fn:Func} {s:ChangeSpec} {c:OpenClaim} (a1:c.wf (OpenSpec.ofChange s)=true) (a2:laidOutB P=true) (a3:mapsRowed P=true)
  (a4:(fn.params.all (P.readableRec ·) && namedTie P c.named s.vars && (c.stops == []) && (P.stops == []) && (c.knobs == []) && (P.stopKnobs == []))=true)
  (b1:(c.inPlace == P.inPlace f)=true) (b2:(c.unfollowed == P.unfollowed f)=true) (b3:(c.recurses == P.recurses f)=true) (b4:(c.named == P.varsNamed f)=true)
  (d1:((c.maps == (fn.params.toList++s.plain.varTypes P).any (P.mapsRec ·)) && (c.ifaces == (fn.params.toList++s.plain.varTypes P).any (P.ifacesRec ·)) && (c.mapsOut == P.mapsAmong fn.resultTypes.toList) &&
 (c.loops == (fn.params.toList++s.plain.varTypes P).any (P.loopsFrom ·)) && (c.wideKeys == (fn.params.toList++s.plain.varTypes P++fn.resultTypes.toList).any (P.wideKeysFrom ·)))=true)
  (d2:(s.vars.all (P.varReadable ·) && fn.resultTypes.all (λt=>P.readableRec t && decide (t < P.types.size)) && (c.ifacesOut == fn.resultTypes.toList.any (P.ifacesRec ·)) && (c.loopsOut == fn.resultTypes.toList.any (P.loopsFrom ·)))=true)
  (d3:((c.plainKeys == P.plainKeys) && c.shortTexts.isNone && P.stopsHeard && P.mayEnter && (c.lifted == P.liftsFinal) && (P.make == some c.make))=true)
  (d4:((c.kinds == (if c.domain.isEmpty then [] else fn.params.toList.map λt=>match P.underlying t with|some (.int k)=>some k|_=>none)) && (c.pinned == c.pinnedBy))=true)
  (d5:((c.veiled == (fn.params.toList++s.plain.varTypes P++fn.resultTypes.toList).any (P.veiledRec ·)) && c.veiledFits P fn.params.toList (fn.params.toList++s.plain.varTypes P++fn.resultTypes.toList))=true):joinedFacts P f fn s c=true:=by
 unfold joinedFacts
 simp only [Bool.and_eq_true] at a4 d1 d2 d3 d4 d5 ⊢
 obtain ⟨⟨⟨⟨⟨a4,a5⟩,a6⟩,a7⟩,a8⟩,a9⟩:=a4
 obtain ⟨⟨⟨⟨e1,e2⟩,e3⟩,e4⟩,e5⟩:=d1
 obtain ⟨⟨⟨e6,e7⟩,e8⟩,e9⟩:=d2
 obtain ⟨⟨⟨⟨⟨f1,f2⟩,f3⟩,f4⟩,f5⟩,f6⟩:=d3
 obtain ⟨f7,f8⟩:=d4
 obtain ⟨f9,g1⟩:=d5
 exact ⟨⟨⟨⟨⟨⟨⟨⟨⟨⟨⟨⟨⟨⟨⟨⟨⟨⟨⟨⟨⟨⟨⟨⟨⟨⟨⟨⟨⟨⟨⟨a1,a2⟩,a3⟩,a4⟩,a5⟩,a6⟩,a7⟩,a8⟩,a9⟩,b1⟩,b2⟩,b3⟩,b4⟩,e1⟩,e2⟩,e3⟩,e4⟩,e5⟩,e6⟩,e7⟩,e8⟩,e9⟩,f1⟩,f2⟩,f3⟩,f4⟩,f5⟩,f6⟩,f7⟩,f8⟩,f9⟩,g1⟩
theorem rowed:mapsRowed Tryz.prog=true:=by kernel_rfl
open Go.RowKit
theorem yaY {l:Lim} (h:0<=l.len) (m o:List Mov) (b:Int):zbs l (mergeM befM m o) b=zbs l m b+zbs l o b:=by
 rw [ybz h (merge_perm befM m o),yE h]
theorem ycm {l:Lim} (h:0<=l.len) (m:List Mov) (b:Int):0<=zbs l m b/\zbs l m b<=m.length:=by
 rw [yb h]
 have:=List.length_filter_le (inW l b) m
 omega
theorem yab (p:Per):(zY p).Pairwise λa b=>a < b:=by
 unfold zY
 generalize (p.to - p.fro+1).toNat=n
 induction n with
 | zero=>simp
 | succ n ih=>
  rw [List.range_succ,List.flatMap_append,List.pairwise_append]
  refine ⟨ih,?_,?_⟩
  .simp only [List.flatMap_cons,List.flatMap_nil,List.append_nil];split<;>simp
  .intro a ha b hb
   obtain ⟨k,hk,ha⟩:=List.mem_flatMap.1 ha
   have hk:=List.mem_range.1 hk
   simp only [List.flatMap_cons,List.flatMap_nil,List.append_nil] at hb
   split at ha
   .split at hb
    .simp at ha hb;omega
    .cases hb
   .cases ha
theorem ybw {r:Req} {o:Mov} (h:o ∈ movsL r):∃ d,d ∈ zY r.per/\o=movOf r d:=by
 obtain ⟨d,hd,rfl⟩:=List.mem_map.1 h;exact ⟨d,hd,rfl⟩
theorem ya0 {r:Req} (h:chkReq r=0) {d:Int} (hd:d ∈ zY r.per):chkMov (movOf r d)=0:=by
 have hp:=zaX (chkReq_0 h).1
 have hm:=chkReq_0 h
 have hdm:=daysL_mem hd
 unfold chkReq at h
 unfold chkMov
 simp only [zq,rng_0] at h ⊢
 simp only [movOf]
 refine ⟨by omega,?_⟩
 simp only [h,true_and,and_true]
theorem yb6 {l:Lim} (h:zaS l=0) (r:Req) (b:Int):zbs l (movsL r) b<=1:=by
 have hl:=chkLim_0 h
 rw [yb (by omega)]
 have hs:((movsL r).filter (inW l b)).Pairwise λx y=>x.moment+1440<=y.moment:=by
  refine List.Pairwise.filter _ ?_
  unfold movsL
  refine (List.pairwise_map).2 ((yab r.per).imp fun {a b} hab=>?_)
  simp only [movOf];omega
 have hm:∀ x ∈ (movsL r).filter (inW l b),b<=x.moment/\x.moment < b+l.len:=λx hx=>by
  have:=(List.mem_filter.1 hx).2
  simp only [inW,Bool.and_eq_true,decide_eq_true_eq] at this;exact this.2
 revert hs hm
 generalize (movsL r).filter (inW l b)=L
 intro hs hm
 match L,hs,hm with
 | [],_,_=>simp
 | [_],_,_=>simp
 | x::y::L,hs,hm=>
  have h1:=(List.pairwise_cons.1 hs).1 y (by simp)
  have h2:=hm x (by simp)
  have h3:=hm y (by simp)
  omega
theorem own_in {l:Lim} (h:zaS l=0) {r:Req} {b:Int} (hc:0 < zbs l (movsL r) b):∃ o ∈ movsL r,inW l b o=true:=by
 have hl:=chkLim_0 h
 rw [yb (by omega)] at hc
 obtain ⟨o,ho⟩:=List.exists_mem_of_length_pos (l:=(movsL r).filter (inW l b)) (by omega)
 have:=List.mem_filter.1 ho
 exact ⟨o,this.1,this.2⟩
theorem ycg {ls:List Lim} {m:List Mov} {r:Req} (hf:fitsB ls m r=true) {o:Mov} (ho:o ∈ movsL r):1<=roomL ls m o:=by
 have:=List.all_eq_true.1 hf o ho
 simp only [Bool.not_eq_true',decide_eq_false_iff_not] at this;omega
theorem yaA {ls:List Lim} {m:List Mov} {r:Req} (hl:∀ l ∈ ls,zaS l=0) (hf:fitsB ls m r=true):yK ls (mergeM befM m (movsL r))=yK ls m:=by
 unfold yK yaa
 refine yu λi _=>?_
 unfold ycj
 split
 .rename_i l hi
  have hm:=List.mem_of_getElem? hi
  have hlm:=hl l hm
  have hll:=chkLim_0 hlm
  unfold yc5
  refine yu λb hb=>?_
  unfold yR
  rw [yaY (by omega)]
  have h1:=yb6 hlm r b
  have h0:=(ycm (l:=l) (by omega) (movsL r) b).1
  by_cases hz:zbs l (movsL r) b=0
  .rw [hz,Int.add_zero]
  .obtain ⟨o,ho,hw⟩:=own_in (r:=r) (b:=b) hlm (by omega)
   have hr:=ycg hf ho
   have ha:=ydl (m:=m) hi hlm hb hw
   have c:=(yM ls (arW ls m o) 999999999).1.2 _ ha
   have e:mostAt ls (i:Int)=l.most:=by simp only [mostAt,Int.toNat_natCast,hi]
   have e1:roomL ls m o=(arW ls m o).foldl (roomStep ls) 999999999:=rfl
   rw [<-e1] at c
   simp only [e] at c
   rw [if_neg (by omega),if_neg (by omega)]
 .rfl
