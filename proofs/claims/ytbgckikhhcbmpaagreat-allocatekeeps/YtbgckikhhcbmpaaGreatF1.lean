/- Contracts. No conditions. -/
import Derived.Test.YtbgckikhhcbmpaaGreatRows
import Derived.Test.YtbgckikhhcbmpaaGreatF0
set_option linter.all false
set_option maxHeartbeats 8000000
set_option maxRecDepth 100000
namespace Go.Proofs.YtbgckikhhcbmpaaGreat
open Go.RowKit Go.Proofs.Tryz
variable {e m s:Int} {cs:List CP} {ls:List Lim} {out:List Mov} {l:List PV} {R:List Res} {L:List Wis} {x y:Mov} {K i j k n q:Nat} {o:Opt} {p:PV} {a b w:Wis}
def mgK (l:List Mov) (k:Nat):List Mov:=(l.take k).foldl (zov zjb) []
def yas {l:List Mov} (h:k<=l.length):(mgK l k).length=k:=by
 have:=(zdH zjb (l.take k) []).length_eq;rw [mgK,this];simp;omega
def yb8 {l:List Mov} (h:l[k]?=some x):mgK l (k+1)=zov zjb (mgK l k) x:=by
 rw [mgK,xaW,h,xaP];rfl
def allMv (l:List Mov):l.all ((λx=>x.cells.all PV.one) ∘ Mov.pv)=true:=by rw [xaO];intro x _;rfl
def allTk (h:l.all (λx=>x.cells.all PV.one)=true):(l.take n).all (λx=>x.cells.all PV.one)=true:=by rw [xaO] at h ⊢;exact λx hx=>h x (xbu hx)
def allDr (h:l.all (λx=>x.cells.all PV.one)=true):(l.drop n).all (λx=>x.cells.all PV.one)=true:=by rw [xaO] at h ⊢;exact λx hx=>h x (List.mem_of_mem_drop hx)
def ycC {a b:PV} (h:a=b):Weak a b:=h ▸ .refl _
def ybp (a b:Mov):Pure prog 197 [a.pv,b.pv] (.b (zjb a b)):=by
 refine pz func197 f197.eq_1 λhw X hX=>?_
 by_cases h1:a.moment=b.moment
 .by_cases h2:a.kind=b.kind
  .have h1':=eq_true h1;have h2':=eq_true h2;have qe:=aI @h1' @h2';refine gE2 ?_;rw [zjb,if_pos h1,if_pos h2];exact .refl _
  .have h1':=eq_true h1;have h2':=eq_false h2;have qe:=aI @h1' @h2';refine gE2 ?_;rw [zjb,if_pos h1,if_neg h2];exact .refl _
 .have h1':=eq_false h1;have qe:=@h1';refine gE2 ?_;rw [zjb,if_neg h1];exact .refl _
def ycc (hy:out[q]?=some y) (hb:zjb x y=false):zc2 zjb x out (q+1)=q+1:=by
 simp only [zc2,hy];rw [if_neg (by simp [hb])]
def ins_go (hy:out[q]?=some y) (hb:zjb x y=true):zc2 zjb x out (q+1)=zc2 zjb x out q:=by
 simp only [zc2,hy];rw [if_pos hb]
def yct {l:List Mov} (hx:l[k]?=some x) (h:q=zc2 zjb x (mgK l k) k):((mgK l k).map Mov.pv).take q++x.pv::((mgK l k).map Mov.pv).drop q=(mgK l (k+1)).map Mov.pv:=by
 have hk:k<=l.length:=Nat.le_of_lt (xaa.1 hx).1;rw [yb8 hx,zov,yas hk,<-h];simp
def mgT {l:List Mov} (hk:k<=l.length) (hq:q<=k):(((mgK l k).map Mov.pv).take q).length=q/\(((mgK l k).map Mov.pv).drop q).length=k - q/\((((mgK l k).map Mov.pv).take q).all (λx=>x.cells.all PV.one)=true)=True/\((((mgK l k).map Mov.pv).drop q).all (λx=>x.cells.all PV.one)=true)=True:=by
 have h:=yas hk;have ha:((mgK l k).map Mov.pv).all (λx=>x.cells.all PV.one)=true:=by rw [List.all_map];exact allMv _
 exact ⟨by simp;omega,by simp;omega,eq_true (allTk ha),eq_true (allDr ha)⟩
def pure69 (a b:List Mov) (hn:a.length+b.length<=1000000):Pure prog 134 [.sl 7 (a.map Mov.pv),.sl 7 (b.map Mov.pv)] (.sl 7 ((zhC zjb a b).map Mov.pv)):=by
 refine pz func134 f134.eq_1 λhw X hX=>?_
 have hl:(a++b).length=a.length+b.length:=xad;have hA:=λl=>eq_true (allMv l)
 have qe:=aI qR @hA;refine gE2 ?_;refine yaf (κ:=Nat) (λk=>⟨[(5,.p (.sl 7 ((a++b).map Mov.pv))),(6,.p (.sl 7 ((mgK (a++b) k).map Mov.pv))),(7,.p (.i .i64 k))],[],[],false⟩) (λk=>k<=(a++b).length) (λk=>(a++b).length - k) 0 ?_ ?_ ?_
 .refine .x 5 (.sl 7 ((a++b).map Mov.pv)) ?_ (hw:=ycC (by simp))
  refine .x 6 (.sl 7 []) ?_;exact .cov (by simp only [qS,seval]<;>simp [mgK])
 .simp
 .intro k hk;have hkl:=yas hk
  by_cases hlt:k < (a++b).length
  .obtain ⟨x,hx⟩:=zj (i:=k) (l:=a++b) (by omega)
   have qe:=aI qR (aI @hA (aI @hx (aI @hkl @hl)));refine gE2 ?_;refine zh (κ:=Nat) (λq=>⟨[(5,.p (.sl 7 ((a++b).map Mov.pv))),(6,.p (.sl 7 ((mgK (a++b) k).map Mov.pv))),(7,.p (.i .i64 k)),(8,.p (.i .i64 q))],[],[],false⟩) (λq=>q<=k/\zc2 zjb x (mgK (a++b) k) q=zc2 zjb x (mgK (a++b) k) k) (λq=>q) k ?_ ?_ ?_
   .exact sS
   .simp
   .intro q hq;cases q with
    | zero=>
     obtain ⟨hT1,hT2,hT3,hT4⟩:=mgT (l:=a++b) (k:=k) (q:=0) (by omega) (by omega)
     have i0:(0 < ((0:Nat):Int))=False:=eq_false (by omega)
     have qe:=aI qR (aI @hA (aI @hx (aI @i0 (aI @hT1 (aI @hT2 (aI @hT3 (aI @hT4 (aI @hkl (aI @hl (aI @lpN (aI @lpE @lpR)))))))))));repeat' first|refine gC ?_ ?_<;>intro hc<;>try contradiction|(show zp _ _ _ _ (⟨_,.call _,_,_,_⟩::_) _ _;refine zkX (hf:=λhc=>(by first|exact (absurd hc (by decide):Pure prog 197 _ (.b false))|(simp only [qH,zdR] at hc;exact (absurd hc (by decide):Pure prog 197 _ (.b false))))) (hn:=?_))|refine gG ?_|show AK _;intro J Z|refine gJ ?_|omega|exact aT
     refine ⟨k+1,by omega,by dsimp only;omega,.x 6 (.sl 7 ((mgK (a++b) (k+1)).map Mov.pv)) ?_ (hw:=ycC (by rw [<-yct hx (show 0=_ from hq.2)];simp))⟩
     exact .cov (sS)
    | succ q=>
     obtain ⟨y,hy⟩:=zj (i:=q) (l:=mgK (a++b) k) (by omega)
     have i0:(0 < ((q+1:Nat):Int))=True:=eq_true (by omega)
     have i1:((q+1:Nat):Int) - 1=(q:Int):=by omega
     obtain ⟨hT1,hT2,hT3,hT4⟩:=mgT (l:=a++b) (k:=k) (q:=q+1) (by omega) (by omega)
     cases hb:zjb x y with
     | true=>
      have h0:=ins_go hy hb;have qe:=aI qR (aI @hA (aI @hx (aI @hy (aI @hb (aI @i0 (aI @i1 (aI @hT1 (aI @hT2 (aI @hT3 (aI @hT4 (aI @hkl (aI @hl (aI @lpN (aI @lpE @lpR))))))))))))));have jA:=ybp x y;refine gE2 ?_;exact ⟨q,⟨by omega,by rw [<-h0];exact hq.2⟩,by omega,rfl⟩
     | false=>
      have h0:=ycc hy hb;have qe:=aI qR (aI @hA (aI @hx (aI @hy (aI @hb (aI @i0 (aI @i1 (aI @hT1 (aI @hT2 (aI @hT3 (aI @hT4 (aI @hkl (aI @hl (aI @lpN (aI @lpE @lpR))))))))))))));have jA:=ybp x y;refine gE2 ?_;refine ⟨k+1,by omega,by dsimp only;omega,.x 6 (.sl 7 ((mgK (a++b) (k+1)).map Mov.pv)) ?_ (hw:=ycC (by rw [<-yct hx (h0.symm.trans hq.2)];simp))⟩
      exact .cov (sS)
  .have qe:=aI qR (aI @hA (aI @hkl (aI @hl (aI @lpN (aI @lpE @lpR)))));refine gE2 ?_;have e:k=(a++b).length:=by omega
   have e2:mgK (a++b) (a++b).length=zhC zjb a b:=by rw [mgK,xah];rfl
   subst e;rw [e2];exact .refl _
theorem ycx:∀ (a b:List Int),zn (a++b)=if zn a=0 then zn b else zn a
 | [],b=>by simp [zn]
 | x::r,b=>by
  by_cases h:x=0
  .simp only [xaM,zn,if_pos h,ycx r b]
  .simp only [xaM,zn,if_neg h]
def ybf {α:Type} {c:α->α->Int} (hs:SW (zaJ c)) (L:List α):srt (zaJ c) (zz c L):=by rw [zz,zd8 hs];exact zaU hs L
def y8 (m e l s:Int) (j:Nat):List Int:=(if e<=m - j*s then [m - j*s] else [])++(if 0 < (j:Int)*s/\m+j*s<=l then [m+j*s] else [])
def yaz (m e l s:Int) (K:Nat):List Int:=(List.range K).flatMap (y8 m e l s)
def ltC (m a b:Int):Prop:=zdV (a - m) < zdV (b - m)\/(zdV (a - m)=zdV (b - m)/\a < b)
def ybD (m a b:Int):cmpC m a b < 0↔ltC m a b:=by
 unfold cmpC ltC;simp only [zn]
 by_cases h:zdV (a - m)=zdV (b - m)
 .rw [if_pos ((zgZ _ _).2 h)]
  by_cases h2:zi9 a b=0
  .rw [if_pos h2];have:=(zgZ _ _).1 h2;omega
  .rw [if_neg h2,zgY];omega
 .rw [if_neg λk=>h ((zgZ _ _).1 k),zgY];omega
def ybu (m a:Int):¬ltC m a a:=by unfold ltC;omega
def ycs (m a b c:Int) (h:ltC m a b) (k:ltC m b c):ltC m a c:=by unfold ltC at *;omega
def yx {l:Int} (hs:1<=s) {x:Int}:x ∈ y8 m e l s j↔(x=m - j*s/\e<=x)\/(x=m+j*s/\0 < (j:Int)*s/\x<=l):=by
 unfold y8;rw [xaS]
 constructor
 .rintro (h|h)
  .split at h
   .simp at h;subst h;exact .inl ⟨rfl,by assumption⟩
   .simp at h
  .split at h
   .rename_i h2;simp at h;subst h;exact .inr ⟨rfl,h2.1,h2.2⟩
   .simp at h
 .rintro (⟨rfl,h⟩|⟨rfl,h1,h2⟩)
  .left;rw [if_pos h];simp
  .right;rw [if_pos ⟨h1,h2⟩];simp
def yz {d:Int} (h:0<=d):zdV (m - d - m)=d/\zdV (m+d - m)=d:=by unfold zdV;omega
def yaS {l:Int} (hs:1<=s) {x:Int} (h:x ∈ y8 m e l s j):zdV (x - m)=j*s:=by
 have hj:0<=(j:Int)*s:=Int.mul_nonneg (by omega) (by omega)
 rcases (yx hs).1 h with ⟨rfl,_⟩|⟨rfl,_⟩
 .exact (yz hj).1
 .exact (yz hj).2
theorem yaR {l:Int} (hs:1<=s):∀ K,(yaz m e l s K).Pairwise (ltC m)
 | 0=>by simp [yaz]
 | K+1=>by
  rw [yaz,zbE,<-yaz];refine xcq.2 ⟨yaR hs K,?_,λa ha b hb=>?_⟩
  .unfold y8
   split<;>split<;>simp
   rename_i h1 h2
   right
   have hj:0<=(K:Int)*s:=by omega
   exact ⟨by rw [(yz hj).1,(yz hj).2],by omega⟩
  .obtain ⟨j,hj,ha⟩:=xaw.1 ha;have hj:j < K:=by simpa using hj
   left
   rw [yaS hs ha,yaS hs hb];exact Int.mul_lt_mul_of_pos_right (by omega) (by omega)
def ya6 {l:Int} (hs:1<=s):(zkM m e l s).Nodup:=by
 unfold zkM;refine xca.2 (List.nodup_range.imp fun {a b} h k=>h ?_)
 have:(a:Int)*s=b*s:=by omega
 have:=Int.eq_of_mul_eq_mul_right (show s≠0 by omega) this
 omega
def ycj {l:Int} (hs:1<=s) (h1:e<=m) (h2:m<=l) (he:0<=e) (hl:l<=1439) (hK:1440<=(K:Int)*s) {x:Int}:x ∈ yaz m e l s K↔e<=x/\x<=l/\∃ k:Int,x=m+k*s:=by
 unfold yaz;rw [xaw]
 constructor
 .rintro ⟨j,hj,hx⟩;have hj0:0<=(j:Int)*s:=Int.mul_nonneg (by omega) (by omega)
  rcases (yx hs).1 hx with ⟨rfl,h⟩|⟨rfl,h,h3⟩
  .exact ⟨h,by omega,-(j:Int),by rw [Int.neg_mul];omega⟩
  .exact ⟨by omega,h3,j,rfl⟩
 .rintro ⟨g1,g2,k,rfl⟩;have lt_of:∀ j:Nat,(j:Int)*s<=1439->j < K:=λj hj=>by
   refine Decidable.byContradiction λhk=>?_
   have:(K:Int)*s<=j*s:=Int.mul_le_mul_of_nonneg_right (by omega) (by omega)
   omega
  by_cases hk:0 < k
  .have e1:((k.toNat:Nat):Int)=k:=xbm (by omega)
   have hp:0 < k*s:=Int.mul_pos hk (by omega)
   exact ⟨k.toNat,xaG.2 (lt_of _ (by rw [e1];omega)),(yx hs).2 (.inr ⟨by rw [e1],by rw [e1];exact hp,g2⟩)⟩
  .have e1:(((-k).toNat:Nat):Int)=-k:=xbm (by omega)
   have e2:(-k)*s=-(k*s):=Int.neg_mul ..;exact ⟨(-k).toNat,xaG.2 (lt_of _ (by rw [e1,e2];omega)),(yx hs).2 (.inl ⟨by rw [e1,e2];omega,g1⟩)⟩
def ydf (m:Int):SW (zaJ (cmpC m)) where
 asym x y h:=by
  simp only [zaJ,decide_eq_true_eq,decide_eq_false_iff_not,ybD] at h ⊢;exact λk=>ybu m x (ycs m _ _ _ h k)
 nt x y z h k:=by
  simp only [zaJ,decide_eq_false_iff_not,ybD] at h k ⊢;unfold ltC at *;omega
def can_eq {l:Int} (hs:1<=s) (h1:e<=m) (h2:m<=l) (he:0<=e) (hl:l<=1439) (hK:1440<=(K:Int)*s):zz (cmpC m) (zkM m e l s)=yaz m e l s K:=by
 have hp:=zhs (cmpC m) (zkM m e l s);have hnd:(zz (cmpC m) (zkM m e l s)).Nodup:=hp.symm.nodup (ya6 hs);have hsr:=ybf (ydf m) (zkM m e l s);refine zpx (ybu m) (ycs m) ?_ (yaR hs K) λx=>?_
 .refine (hsr.and hnd).imp fun {a b} h=>?_
  have h3:=h.1;simp only [zaJ,decide_eq_false_iff_not,ybD] at h3;have h4:=h.2;unfold ltC zdV at *;omega
 .rw [hp.mem_iff,zvF hs h1 h2,ycj hs h1 h2 he hl hK]
section
variable {α:Type}
end
theorem y6 {α β:Type} {f g:α->List β}:∀ {L:List α},(∀ x ∈ L,f x=g x)->L.flatMap f=L.flatMap g
 | [],_=>rfl
 | x::L,h=>by rw [xat,xat,h x (by simp),y6 λy hy=>h y (by simp [hy])]
def ycw (l r:List Int):zn (zn l::r)=zn (l++r):=by
 rw [ycx]
 by_cases h:zn l=0
 .rw [zro h,if_pos h]
 .rw [zlL h,if_neg h]
def yax {m:List Mov}:yw ls m=[]↔∀ l ∈ ls,∀ b ∈ zaq l,zbb l m b<=l.most:=by
 unfold yw yn
 constructor
 .intro h l hm b hb;obtain ⟨i,hi⟩:=xbl.1 hm;have hlt:=(xaa.1 hi).1;have h1:=List.flatMap_eq_nil_iff.1 h i (xaG.2 hlt);rw [ya5,hi] at h1;have h2:=List.flatMap_eq_nil_iff.1 h1 b hb;rw [yk] at h2
  split at h2
  .cases h2
  .omega
 .intro h;refine List.flatMap_eq_nil_iff.2 λi _=>?_
  unfold ya5;split
  .rename_i l hi;refine List.flatMap_eq_nil_iff.2 λb hb=>?_
   have:=h l (xae hi) b hb;rw [yk,if_neg (by omega)]
  .rfl
theorem yaP {β:Type} {k:Ky} {v:β}:∀ {E:List (Ky × β)},ziL k E=some v->(k,v) ∈ E
 | [],h=>by cases h
 | x::E,h=>by
  rw [ziL] at h
  split at h
  .rename_i e;injection h with h;subst e;subst h;exact xaA
  .exact xaH _ (yaP h)
theorem yby {β:Type} {k:Ky} {v:β}:∀ {E:List (Ky × β)},(E.map (·.1)).Nodup->(k,v) ∈ E->ziL k E=some v
 | [],_,h=>by cases h
 | x::E,hn,h=>by
  obtain ⟨h1,h2⟩:=xbR.1 hn;rw [ziL]
  rcases xaI.1 h with rfl|h
  .rw [if_pos rfl]
  .rw [if_neg λe=>h1 (xaN.2 ⟨(k,v),h,e.symm⟩)];exact yby h2 h
def exB_eq (hl:∀ l ∈ ls,zr l=0) {b:Brd} {P:List Mov} (h:zeV ls b P):exB ls b=true↔yw ls P≠[]:=by
 unfold exB;rw [xaV]
 constructor
 .rintro ⟨e,he,hx⟩;obtain ⟨l,k1,k2⟩:=h.1.w e he;have hc:=h.2 e.1 l k1 k2;have hg:ziL e.1 b.C=some e.2:=yby h.1.n he;rw [zbh,hg] at hc;have hc:e.2=zbb l P e.1.2:=hc;have hm:zdn ls (e.1.1:Int)=l.most:=by simp only [zdn,xam,k1]
  have hx:=of_decide_eq_true hx;refine List.ne_nil_of_mem (a:=(⟨e.1.1,e.1.2,zbb l P e.1.2⟩:Win)) ?_;unfold yw yn;refine xaw.2 ⟨e.1.1,xaG.2 (xaa.1 k1).1,?_⟩;unfold ya5;rw [k1];simp only;unfold ybB;refine xaw.2 ⟨e.1.2,k2,?_⟩;unfold yk;rw [if_pos (by omega)];simp
 .intro hne;obtain ⟨w,hw⟩:=List.exists_mem_of_ne_nil _ hne;unfold yw yn at hw;obtain ⟨i,_,hw⟩:=xaw.1 hw;unfold ya5 at hw;cases hi:ls[i]? with
  | none=>rw [hi] at hw;cases hw
  | some l=>
   rw [hi] at hw;simp only at hw;unfold ybB at hw;obtain ⟨x,hx,hw⟩:=xaw.1 hw;unfold yk at hw;have h0:=zaa (hl l (xae hi))
   split at hw
   .rename_i hlt;have hc:=h.2 (i,x) l hi hx;have hm:zdn ls (i:Int)=l.most:=by simp only [zdn,xam,hi]
    cases hg:ziL (i,x) b.C with
    | none=>
     rw [zbh,hg] at hc;have hc:0=zbb l P x:=hc
     omega
    | some n=>
     rw [zbh,hg] at hc;have hc:n=zbb l P x:=hc;refine ⟨((i,x),n),yaP hg,decide_eq_true ?_⟩;show zdn ls (i:Int) < n
     omega
   .cases hw
def yan (L:List Wis) (R:List Res) (i:Nat):Bool:=zhp L R ((i:Int),zau L i)
def yba (h:zav L=0) (hw:L[i]?=some w):zbY w.req=0:=by
 have:=((zR h).2 i w hw).1;unfold zcB zfI at this;exact (zi.1 (zi.1 this).1).1
def yaC (h:zav L=0) (hw:L[i]?=some w):w.req.kind=sA\/w.req.kind=sD:=by
 have:=yba h hw;unfold zbY at this;have:=(zi.1 (zi.1 this).2).1;unfold zgM at this
 by_cases h1:w.req.kind=sA
 .exact .inl h1
 .by_cases h2:w.req.kind=sD
  .exact .inr h2
  .rw [if_pos ⟨h1,h2⟩] at this;cases this
def ybq (h:zav L=0) (hk:LnkTo L i k a b) (x y:Int):ze8 a b x y=ze8 b a y x:=by
 have ka:=yaC h hk.at_a;have kb:=yaC h hk.at_b;have hne:=hk.kind;have hAD:sA≠sD:=by decide
 unfold ze8
 rcases ka with ka|ka<;>rcases kb with kb|kb
 .exact absurd (kb.trans ka.symm) hne
 .rw [if_neg (by rw [ka];exact hAD),if_pos kb]
 .rw [if_pos ka,if_neg (by rw [kb];exact hAD)]
 .exact absurd (kb.trans ka.symm) hne
def ydh (h:zav L=0) (R:List Res) (hk:LnkTo L i k a b):yan L R i=yan L R k:=by
 unfold yan zhp zyn grO;rw [hk.lab,hk.lba];simp only [xam,hk.at_a,hk.at_b,show ¬((k:Int) < 0) by omega,show ¬((i:Int) < 0) by omega,if_false,decide_false,xb5,show (0:Int)<=k by omega,show (0:Int)<=i by omega,decide_true,xaZ]
 rw [ybq h hk];cases (za5 R i).gr<;>cases (za5 R k).gr<;>simp
def yaA (h:zav L=0) (R:List Res):(zq L).any (zhp L R)=(List.range L.length).any (yan L R):=by
 rw [xbG,xaV,xaV]
 constructor
 .rintro ⟨u,hu,hb⟩;obtain ⟨i,hi,rfl,_⟩:=zdd.1 hu;exact ⟨i,xaG.2 hi,hb⟩
 .rintro ⟨i,hi,hb⟩;have hi:=xaG.1 hi;obtain ⟨a,ha⟩:=zj hi
  rcases zcH h ha with hk|⟨k,b,hk⟩
  .exact ⟨_,zdd.2 ⟨i,hi,rfl,.inl (by omega)⟩,hb⟩
  .by_cases hik:i < k
   .exact ⟨_,zdd.2 ⟨i,hi,rfl,.inr (by rw [hk.lab];omega)⟩,hb⟩
   .have hne:=hk.ne;rw [ydh h R hk] at hb;exact ⟨_,zdd.2 ⟨k,(xaa.1 hk.at_b).1,rfl,.inr (by rw [hk.lba];omega)⟩,hb⟩
def ycg (hl:∀ l ∈ ls,zr l=0) {a b:List Mov} (hp:a.Perm b):yw ls a=yw ls b:=by
 unfold yw yn;refine zcK λi _=>?_
 unfold ya5;cases hi:ls[i]? with
 | none=>rfl
 | some l=>
  have h0:=zaa (hl l (xae hi));simp only [];unfold ybB;refine zcK λx _=>?_
  unfold yk;rw [zng (by omega) hp]
def y9 (hl:∀ l ∈ ls,zr l=0) (L:List Wis) (R:List Res) (f:Nat->Bool):exB ls (zy ls ⟨[],[]⟩ (zlk L R f) 1)=true↔yw ls (zlk L R f)≠[]:=by
 rw [exB_eq hl (zsb hl L R f),ycg hl (zgx L R f)]
def nm_res (hr:zc8 L R=0) (hi:i < L.length):(za5 R i).name=nmW L i:=by
 obtain ⟨w,hw⟩:=zj hi;have:=(zdz ((zbZ hr).2.1 i w hw)).1;unfold nmW;rw [hw];exact this
open Go.RowKit Go.Proofs.Tryz Go.ChangeShapes Go.WideShapes Go.ChangeAt
abbrev jT:CP:=.i .i64
def limT6:List CP:=[.s,.s,.s,jT,jT,jT,jT,jT,jT,jT,jT]
def wisT6:List CP:=[.s,.s,.s,.s,.s,.s,jT,jT,jT,jT,jT,jT,jT,jT,jT,jT,jT,jT]
theorem yat {α:Type} {f:α->PV}:∀ {xs:List PV},(∀ x ∈ xs,∃ a,x=f a)->∃ L:List α,xs=L.map f
 | [],_=>⟨[],rfl⟩
 | x::r,h=>by
  obtain ⟨a,rfl⟩:=h x (by simp)
  obtain ⟨L,rfl⟩:=yat (xs:=r) λy hy=>h y (by simp [hy])
  exact ⟨a::L,rfl⟩
def ycf (h:FitAll (Fit n) (.s::cs) l):∃ (a:ByteArray) (r:List PV),l=.s a::r/\FitAll (Fit n) cs r:=by
 cases l with
 | nil=>exact absurd h (by simp [FitAll])
 | cons x r=>
  obtain ⟨h1,h2⟩:=h;cases n<;>(obtain ⟨a,rfl⟩:=h1;exact ⟨a,r,rfl,h2⟩)
def yS (h:FitAll (Fit n) (jT::cs) l):∃ (a:Int) (r:List PV),l=.i .i64 a::r/\FitAll (Fit n) cs r:=by
 cases l with
 | nil=>exact absurd h (by simp [FitAll])
 | cons x r=>
  obtain ⟨h1,h2⟩:=h;cases n<;>(obtain ⟨a,rfl⟩:=h1;exact ⟨a,r,rfl,h2⟩)
def ycv (h:FitAll (Fit n) [] l):l=[]:=by
 cases l with
 | nil=>rfl
 | cons x r=>exact absurd h (by simp [FitAll])
def yc2 (h:FitAll (Fit n) limT6 l):∃ x:Lim,.agg l=x.pv:=by
 obtain ⟨v0,r0,e0,g0⟩:=ycf h;obtain ⟨v1,r1,e1,g1⟩:=ycf g0;obtain ⟨v2,r2,e2,g2⟩:=ycf g1;obtain ⟨v3,r3,e3,g3⟩:=yS g2;obtain ⟨v4,r4,e4,g4⟩:=yS g3;obtain ⟨v5,r5,e5,g5⟩:=yS g4;obtain ⟨v6,r6,e6,g6⟩:=yS g5;obtain ⟨v7,r7,e7,g7⟩:=yS g6;obtain ⟨v8,r8,e8,g8⟩:=yS g7;obtain ⟨v9,r9,e9,g9⟩:=yS g8;obtain ⟨v10,r10,e10,g10⟩:=yS g9;have e:=ycv g10;subst e0 e1 e2 e3 e4 e5 e6 e7 e8 e9 e10 e;exact ⟨⟨v0,v1,v2,v3,v4,v5,v6,⟨v7,v8,v9⟩,v10⟩,rfl⟩
def ycA (h:FitAll (Fit n) wisT6 l):∃ x:Wis,.agg l=x.pv:=by
 obtain ⟨v0,r0,e0,g0⟩:=ycf h;obtain ⟨v1,r1,e1,g1⟩:=ycf g0;obtain ⟨v2,r2,e2,g2⟩:=ycf g1;obtain ⟨v3,r3,e3,g3⟩:=ycf g2;obtain ⟨v4,r4,e4,g4⟩:=ycf g3;obtain ⟨v5,r5,e5,g5⟩:=ycf g4;obtain ⟨v6,r6,e6,g6⟩:=yS g5;obtain ⟨v7,r7,e7,g7⟩:=yS g6;obtain ⟨v8,r8,e8,g8⟩:=yS g7;obtain ⟨v9,r9,e9,g9⟩:=yS g8;obtain ⟨v10,r10,e10,g10⟩:=yS g9;obtain ⟨v11,r11,e11,g11⟩:=yS g10;obtain ⟨v12,r12,e12,g12⟩:=yS g11;obtain ⟨v13,r13,e13,g13⟩:=yS g12;obtain ⟨v14,r14,e14,g14⟩:=yS g13;obtain ⟨v15,r15,e15,g15⟩:=yS g14;obtain ⟨v16,r16,e16,g16⟩:=yS g15;obtain ⟨v17,r17,e17,g17⟩:=yS g16;have e:=ycv g17;subst e0 e1 e2 e3 e4 e5 e6 e7 e8 e9 e10 e11 e12 e13 e14 e15 e16 e17 e;exact ⟨⟨⟨v0,v1,v2,v3,v4,v5,⟨v6,v7,v8⟩,v9,v10,v11,v12⟩,v13,v14,v15,v16,v17⟩,rfl⟩
def ybr:ycX prog 6 22=some (false,[.sl true limT6]):=by kernel_rfl
def ybc:prog.underlying 22=some (.slice 84):=by kernel_rfl
def ybH:prog.bytesOf 84=112:=by kernel_rfl
def yak (h:yT prog 6 22 p):∃ L:List Lim,p=.sl 11 (L.map Lim.pv)/\L.length*112<=140737488355328:=by
 obtain ⟨⟨ag,c,l,hp,rfl,hl⟩,hb⟩:=h;rw [ybr] at hp;simp only [xaK,xcf] at hp;obtain ⟨rfl,rfl⟩:=hp
 match l,hl with
 | [q],⟨⟨xs,hq,hx⟩,_⟩=>
  subst hq;obtain ⟨L,rfl⟩:=yat (f:=Lim.pv) (xs:=xs) λx h=>by
   obtain ⟨l,rfl,hf⟩:=hx x h;exact yc2 hf
  refine ⟨L,rfl,?_⟩;have:=hb.1 84 _ _ ybc rfl;rw [ybH,xaf] at this;unfold reachBytes at this;omega
def yb6:ycX prog 6 23=some (false,[.sl true wisT6]):=by kernel_rfl
def ybO:prog.underlying 23=some (.slice 61):=by kernel_rfl
def ycm:prog.bytesOf 61=192:=by kernel_rfl
def yce (h:yT prog 6 23 p):∃ L:List Wis,p=.sl 18 (L.map Wis.pv)/\L.length*192<=140737488355328:=by
 obtain ⟨⟨ag,c,l,hp,rfl,hl⟩,hb⟩:=h;rw [yb6] at hp;simp only [xaK,xcf] at hp;obtain ⟨rfl,rfl⟩:=hp
 match l,hl with
 | [q],⟨⟨xs,hq,hx⟩,_⟩=>
  subst hq;obtain ⟨L,rfl⟩:=yat (f:=Wis.pv) (xs:=xs) λx h=>by
   obtain ⟨l,rfl,hf⟩:=hx x h;exact ycA hf
  refine ⟨L,rfl,?_⟩;have:=hb.1 61 _ _ ybO rfl;rw [ycm,xaf] at this;unfold reachBytes at this;omega
def own:ownKnob prog.godebug=none:=by kernel_rfl
def laid:laidOutB prog=true:=by kernel_rfl
def und4:prog.underlying 4=some .bool:=by kernel_rfl
def ybz {P:Program} {f:FuncId} {fn:Func} {s:ChangeSpec} {c:OpenClaim} (a1:c.wf (OpenSpec.ofChange s)=true) (a2:laidOutB P=true) (a3:mapsRowed P=true)
  (a4:(fn.params.all (P.readableRec ·) && namedTie P c.named s.vars && (c.stops == []) && (P.stops == []) && (c.knobs == []) && (P.stopKnobs == []))=true)
  (b1:(c.inPlace == P.inPlace f)=true) (b2:(c.unfollowed == P.unfollowed f)=true) (b3:(c.recurses == P.recurses f)=true) (b4:(c.named == P.varsNamed f)=true)
  (d1:((c.maps == (fn.params.toList++s.plain.varTypes P).any (P.mapsRec ·)) && (c.ifaces == (fn.params.toList++s.plain.varTypes P).any (P.ifacesRec ·)) && (c.mapsOut == P.mapsAmong fn.resultTypes.toList) &&
 (c.loops == (fn.params.toList++s.plain.varTypes P).any (P.loopsFrom ·)) && (c.wideKeys == (fn.params.toList++s.plain.varTypes P++fn.resultTypes.toList).any (P.wideKeysFrom ·)))=true)
  (d2:(s.vars.all (P.varReadable ·) && fn.resultTypes.all (λt=>P.readableRec t && decide (t < P.types.size)) && (c.ifacesOut == fn.resultTypes.toList.any (P.ifacesRec ·)) && (c.loopsOut == fn.resultTypes.toList.any (P.loopsFrom ·)))=true)
  (d3:((c.plainKeys == P.plainKeys) && c.shortTexts.isNone && P.stopsHeard && P.mayEnter && (c.lifted == P.liftsFinal) && (P.make == some c.make))=true)
  (d4:((c.kinds == (if c.domain.isEmpty then [] else fn.params.toList.map λt=>match P.underlying t with|some (.int k)=>some k|_=>none)) && (c.pinned == c.pinnedBy))=true)
  (d5:((c.veiled == (fn.params.toList++s.plain.varTypes P++fn.resultTypes.toList).any (P.veiledRec ·)) && c.veiledFits P fn.params.toList (fn.params.toList++s.plain.varTypes P++fn.resultTypes.toList))=true):joinedFacts P f fn s c=true:=by
 unfold joinedFacts;simp only [xau] at a4 d1 d2 d3 d4 d5 ⊢;obtain ⟨⟨⟨⟨⟨a4,a5⟩,a6⟩,a7⟩,a8⟩,a9⟩:=a4;obtain ⟨⟨⟨⟨e1,e2⟩,e3⟩,e4⟩,e5⟩:=d1;obtain ⟨⟨⟨e6,e7⟩,e8⟩,e9⟩:=d2;obtain ⟨⟨⟨⟨⟨f1,f2⟩,f3⟩,f4⟩,f5⟩,f6⟩:=d3;obtain ⟨f7,f8⟩:=d4;obtain ⟨f9,g1⟩:=d5;exact ⟨⟨⟨⟨⟨⟨⟨⟨⟨⟨⟨⟨⟨⟨⟨⟨⟨⟨⟨⟨⟨⟨⟨⟨⟨⟨⟨⟨⟨⟨⟨a1,a2⟩,a3⟩,a4⟩,a5⟩,a6⟩,a7⟩,a8⟩,a9⟩,b1⟩,b2⟩,b3⟩,b4⟩,e1⟩,e2⟩,e3⟩,e4⟩,e5⟩,e6⟩,e7⟩,e8⟩,e9⟩,f1⟩,f2⟩,f3⟩,f4⟩,f5⟩,f6⟩,f7⟩,f8⟩,f9⟩,g1⟩
def rowed:mapsRowed prog=true:=by kernel_rfl
open Go.RowKit Go.Proofs.Tryz
def kS (s:Int):Nat:=(1439 / s+1).toNat
def kS_lt (hs:1<=s) (j:Nat):j < kS s↔(j:Int)*s < 1440:=by
 have h3:0<=1439 / s:=xbh (by omega) (by omega)
 have h4:=Int.le_ediv_iff_mul_le (a:=(j:Int)) (b:=1439) (c:=s) (by omega)
 unfold kS
 constructor
 .intro h;have:=h4.1 (by omega)
  omega
 .intro h;have:=h4.2 (by omega)
  omega
def canW_R (hs:1<=w.step) (h1:w.ear<=w.req.minute) (h2:w.req.minute<=w.lat) (he:0<=w.ear) (hl:w.lat<=1439):zac w=yaz w.req.minute w.ear w.lat w.step (kS w.step):=
 can_eq hs h1 h2 he hl (by
  have:=kS_lt hs (kS w.step)
  omega)
def yaQ (w:Wis):(zac w).length=zg2 w.req.minute w.ear w.lat w.step:=by
 unfold zac;rw [(zhs _ _).length_eq];unfold zkM;rw [xaf,xaU]
def ycl (m e l s:Int) (j:Nat):(y8 m e l s j).length<=2:=by
 unfold y8
 split<;>split<;>simp
def yck (m e l s:Int) (K:Nat):(yaz m e l s K).length<=2*K:=by
 unfold yaz;have:=yg (f:=y8 m e l s) (c:=2) (l:=List.range K) λj _=>ycl m e l s j
 rw [xaU] at this;omega
def ybG (m e l s:Int) (K:Nat):yaz m e l s (K+1)=yaz m e l s K++y8 m e l s K:=zbE _ _
def ycd (h:L[i]?=some w):zeH w.req.name L < i↔0<=zeH w.req.name (L.take i):=by
 have hm:(zkG L)[i]?=some w.req.name:=by unfold zkG;rw [xal,h];rfl
 unfold zeH;have e:zkG (L.take i)=(zkG L).take i:=by unfold zkG;rw [xbK]
 rw [e];generalize zkG L=M at *;generalize w.req.name=n at *;have key:∀ (M:List ByteArray) (i:Nat),M[i]?=some n->(atL n M < i↔0<=atL n (M.take i)):=by
  intro M
  induction M with
  | nil=>intro i hi;simp at hi
  | cons x M ih=>
   intro i hi;cases i with
   | zero=>
    have:-1<=atL n ([]:List ByteArray):=zr9 n [];simp at hi;subst hi;simp [atL]
   | succ i=>
    have hi':M[i]?=some n:=by simpa using hi
    have ih:=ih i hi';rw [xa3]
    by_cases hx:x=n
    .simp [atL,hx]
    .have h1:=zr9 n M;have h2:=zr9 n (M.take i);have h3:0<=atL n M:=(zg5 n M).2 (xae hi')
     by_cases h0:0<=atL n (M.take i)
     .simp [atL,hx];omega
     .simp [atL,hx];omega
 exact key M i hm
def ybb (h:zfI w=0):zbY w.req=0/\0<=w.ear/\w.ear<=w.req.minute/\w.req.minute<=w.lat/\w.lat<=1439/\1<=w.step/\w.step<=120:=by
 have h1:=zjq (zcC h).1;obtain ⟨a1,a2,a3,a4,a5,a6,a7⟩:=h1;exact ⟨a1,by omega,by omega,by omega,by omega,by omega,by omega⟩
def y7 (h:zfI w=0) (hm:m ∈ zac w):0<=m/\m<=1439:=by
 obtain ⟨_,h1,h2,h3,h4,h5,_⟩:=ybb h;have:=(zvF h5 h2 h3).1 ((zhs _ _).mem_iff.1 hm)
 omega
def yN (h:zav L=0) (ha:L[i]?=some a):zfI a=0:=by
 have:=((zR h).2 i a ha).1;unfold zcB at this;exact (zi.1 this).1
def ybt (L:List Wis) (i:Nat) (m:Int):(zfB L i m).length<=401:=by
 unfold zfB
 split
 .exact zbd _
 .simp
def yaI (L:List Wis) (R:List Res) (f:Nat->Bool):∀ c,((List.range c).foldl (plcF L R f) []).length<=401*c:=by
 intro c
 induction c with
 | zero=>simp
 | succ c ih=>
  rw [xbd,xaP,xbn,xbI];unfold plcF
  split
  .rename_i r hr
   split
   .rw [(zog _ _ _).length_eq,xad];have:=ybt L c r.minute;unfold plcF at ih
    omega
   .unfold plcF at ih;omega
  .unfold plcF at ih;omega
def RsOk (L:List Wis) (R:List Res):Prop:=R.length=L.length/\∀ r ∈ R,r.gr=true->0<=r.minute/\r.minute<=1439
def ycG (h:zav L=0) (hr:zc8 L R=0):RsOk L R:=by
 obtain ⟨hn,hE,_⟩:=zbZ hr;refine ⟨hn,λr hm hg=>?_⟩
 obtain ⟨i,hi⟩:=xbl.1 hm;obtain ⟨w,hw⟩:=zj (l:=L) (i:=i) (by have:=(xaa.1 hi).1;omega)
 have h1:=hE i w hw;have e:za5 R i=r:=by unfold za5;rw [hi];rfl
 rw [e] at h1;exact y7 (yN h hw) ((zdz h1).2.1 hg)
def yZ (l:List Int):Pure prog 19 [.sl 1 (l.map (.i .i64))] (.i .i64 (zn l)):=by
 refine pz func19 f19.eq_1 λhw X hX=>?_
 simp only [wfs,PV.wf,xaf,maxLen] at hw;refine gE2 ?_;refine zh (κ:=Nat) (λi=>⟨[(0,.p (.sl 1 (l.map (.i .i64)))),(3,.p (.i .i64 i))],[],[],false⟩) (λi=>i<=l.length/\∀ x ∈ l.take i,x=0) (λi=>l.length - i) 0 ?_ ?_ ?_
 .exact sR
 .simp
 .intro i hi;refine gH (λhc=>?_) λhc=>?_
  .obtain ⟨x,hx⟩:=zj (i:=i) (l:=l) (by omega)
   have qe:=@hx;refine gF2 (λhc=>?_) λhc=>?_
   .rw [zbr hi.2 hx hc];exact .refl _
   .exact ⟨i+1,⟨by omega,zb0 hi.2 hx hc⟩,by omega,by simp⟩
  .refine gE2 ?_;have e:i=l.length:=by omega
   subst e;rw [zbj hi.2];exact .refl _
def ybR (s:ByteArray):Pure prog 116 [.s s] (.i .i64 (zo6 s)):=by
 refine pz func116 f116.eq_1 λhw X hX=>?_
 by_cases h1:s=s0
 .have h1':=eq_true h1;have e:zo6 s=0:=yaL (.inl h1);rw [e];have qe:=aI qR (aI @h1' @xaC);have jA:=yF s;exact gD2
 .have h1':=eq_false h1;cases h2:zcs s with
  | true=>
   have h70:=yF s;rw [h2] at h70;have e:zo6 s=0:=yaL (.inr h2);rw [e];have qe:=aI qR (aI @h1' (aI @xax @xaC));have jA:=h70;exact gD2
  | false=>
   have h70:=yF s;rw [h2] at h70;have e:zo6 s=8:=ybs ⟨h1,h2⟩;rw [e];have qe:=aI qR (aI @h1' @xax);have jA:=h70;exact gD2
def yV (n a b:Int):Pure prog 117 [.i .i64 n,.i .i64 a,.i .i64 b] (.i .i64 (rng n a b)):=by
 refine pz func117 f117.eq_1 λhw X hX=>?_
 refine gF2 (λhc=>?_) λhc=>?_
 .rw [ycH (by omega)];exact .refl _
 .rw [zdR.2 (by omega)];exact .refl _
def yW (w:Wis) (hs:1<=w.step/\w.step<=120) (h1:w.ear<=w.req.minute) (h2:w.req.minute<=w.lat) (he:0<=w.ear) (hl:w.lat<=1439):Pure prog 47 [w.pv] (.sl 1 ((zac w).map (.i .i64))):=by
 rw [canW_R hs.1 h1 h2 he hl];have hk:=kS_lt hs.1;have hkb:∀ j:Nat,(j:Int)<=j*w.step:=λj=>by
  have:=Int.mul_le_mul_of_nonneg_left hs.1 (show (0:Int)<=j by omega)
  omega
 refine pz func47 f47.eq_1 λhw X hX=>?_
 have qe:=@qR;refine gE2 ?_;refine run_ownL 100 3 1 (κ:=Nat) (λj=>⟨[(1,.lp 1 0),(3,.row 100 (yaz w.req.minute w.ear w.lat w.step j).length),(4,.p (.i .i64 (j*w.step)))],[(1,.box (w.cells.map .p) false),(100,.row 3 1 ((yaz w.req.minute w.ear w.lat w.step j).map (.i .i64)) false)],[],false⟩) (λj=>j<=kS w.step) (λj=>kS w.step - j) 0 ?_ ?_ ?_
 .refine ⟨gO ?_,gO ?_⟩<;>simp [yaz]
 .simp
 .intro j hj;have hj2:=hk j;have hjb:=hkb j;have hn:=ybG w.req.minute w.ear w.lat w.step j;have hcl:=yck w.req.minute w.ear w.lat w.step j;have hm1:((j+1:Nat):Int)*w.step=j*w.step+w.step:=by push_cast;rw [Int.add_mul];omega
  generalize hd:(j:Int)*w.step=d at *;refine gH (λhc=>?_) λhc=>?_
  .have hjk:j < kS w.step:=hj2.2 hc;have hd0:0<=d:=by omega
   by_cases a1:w.ear<=w.req.minute - d
   .have a1':=eq_true a1
    by_cases a2:0 < d
    .have a2':=eq_true a2
     by_cases a3:w.req.minute+d<=w.lat
     .have a3':=eq_true a3;have e:y8 w.req.minute w.ear w.lat w.step j=[w.req.minute - d,w.req.minute+d]:=by unfold y8;rw [hd,if_pos a1,if_pos ⟨a2,a3⟩];rfl
      rw [e] at hn;have qe:=aI qR (aI @a1' (aI @a2' (aI @a3' @decide_true)));refine gE2 ?_;exact ⟨j+1,by omega,by omega,by rw [hn,hm1];simp,by rw [hn];simp⟩
     .have a3':=eq_false a3;have e:y8 w.req.minute w.ear w.lat w.step j=[w.req.minute - d]:=by unfold y8;rw [hd,if_pos a1,if_neg (λh=>a3 h.2)];rfl
      rw [e] at hn;have qe:=aI qR (aI @a1' (aI @a2' (aI @a3' yDF)));refine gE2 ?_;exact ⟨j+1,by omega,by omega,by rw [hn,hm1];simp,by rw [hn];simp⟩
    .have a2':=eq_false a2;have e:y8 w.req.minute w.ear w.lat w.step j=[w.req.minute - d]:=by unfold y8;rw [hd,if_pos a1,if_neg (λh=>a2 h.1)];rfl
     rw [e] at hn;have qe:=aI qR (aI @a1' (aI @a2' yDF));refine gE2 ?_;exact ⟨j+1,by omega,by omega,by rw [hn,hm1];simp,by rw [hn];simp⟩
   .have a1':=eq_false a1;have a2:0 < d:=by omega
    have a2':=eq_true a2
    by_cases a3:w.req.minute+d<=w.lat
    .have a3':=eq_true a3;have e:y8 w.req.minute w.ear w.lat w.step j=[w.req.minute+d]:=by unfold y8;rw [hd,if_neg a1,if_pos ⟨a2,a3⟩];rfl
     rw [e] at hn;have qe:=aI qR (aI @a1' (aI @a2' (aI @a3' yDF)));refine gE2 ?_;exact ⟨j+1,by omega,by omega,by rw [hn,hm1];simp,by rw [hn];simp⟩
    .have a3':=eq_false a3;have e:y8 w.req.minute w.ear w.lat w.step j=[]:=by unfold y8;rw [hd,if_neg a1,if_neg (λh=>a3 h.2)];rfl
     rw [e,xar] at hn;have qe:=aI qR (aI @a1' (aI @a2' (aI @a3' yDF)));refine gE2 ?_;exact ⟨j+1,by omega,by omega,by rw [hn,hm1];simp,by rw [hn]⟩
  .have e:j=kS w.step:=by
    have:¬j < kS w.step:=λh=>by
     have:=hj2.1 h
     omega
    omega
   subst e;exact gD2
def ya4 {r r':List Int} (h:zn r=zn r'):zn (e::r)=zn (e::r'):=by
 by_cases k:e=0
 .rw [zro k,zro k,h]
 .rw [zlL k,zlL k]
def wisE_g (w:Wis):zfI w=zn [zbY w.req,zfA w.req.carrier,zn [zo6 w.req.partner,zo6 w.req.link,rng w.ear 0 1439,rng w.lat 0 1439],if w.req.minute < w.ear\/w.lat < w.req.minute then 11 else 0,rng w.step 1 120,if 96 < (zg2 w.req.minute w.ear w.lat w.step:Int) then 22 else 0,zn [rng w.least 0 1440,rng w.most 0 1440],if w.most < w.least then 11 else 0]:=
 ya4 (ya4 ((ycw [_,_,_,_] _).symm.trans (ya4 (ya4 (ya4 (ya4 (ycw [_,_] _).symm))))))
def yt (w:Wis):Pure prog 34 [w.pv] (.i .i64 (zfI w)):=by
 rw [wisE_g];refine pz func34 f34.eq_1 λhwf X hX=>?_
 have qe:=@qR;repeat' first|refine za (pure20 w.req) ?_|refine gG ?_|show AK _;intro J Z|refine gJ ?_|omega|exact aT
 (refine gC ?_ ?_<;>intro hc<;>try contradiction)
 .rw [zlL hc];have qe:=@qR;exact gD2
 have c1:zbY w.req=0:=hc;rw [zro c1];clear hc;have qe:=@qR;repeat' first|refine za (yF _) ?_|refine gG ?_|show AK _;intro J Z|refine gJ ?_|omega|exact aT
 (refine gC ?_ ?_<;>intro hc<;>try contradiction)
 .rw [zlL (by rw [y3 hc];decide),y3 hc]
  have qe:=@qR;exact gD2
 have c2:zcs w.req.carrier=true:=hc;rw [zro (yar c2)];clear hc;have qe:=@qR;repeat' first|refine za (ybR _) ?_|refine za (yV _ _ _) ?_|refine za (yZ [_,_,_,_]) ?_|refine gG ?_|show AK _;intro J Z|refine gJ ?_|omega|exact aT
 (refine gC ?_ ?_<;>intro hc<;>try contradiction)
 .rw [zlL hc];have qe:=@qR;exact gD2
 have c3:zn [zo6 w.req.partner,zo6 w.req.link,rng w.ear 0 1439,rng w.lat 0 1439]=0:=hc;rw [zro c3];clear hc;obtain ⟨_,q⟩:=zi.1 c3;obtain ⟨_,q⟩:=zi.1 q;obtain ⟨p3,q⟩:=zi.1 q;obtain ⟨p4,_⟩:=zi.1 q;rw [zdR] at p3 p4;have qe:=@qR;repeat' first|refine gG ?_|show AK _;intro J Z|refine gJ ?_|omega|exact aT
 (refine gC ?_ ?_<;>intro hc<;>try contradiction)
 .rw [if_pos hc,zlL (e:=11) (by decide)]
  have qe:=@qR;exact gD2
 have c4:¬(w.req.minute < w.ear\/w.lat < w.req.minute):=by omega
 rw [if_neg c4,zro (e:=0) rfl];clear hc;have qe:=@qR;repeat' first|refine za (yV _ _ _) ?_|refine gG ?_|show AK _;intro J Z|refine gJ ?_|omega|exact aT
 (refine gC ?_ ?_<;>intro hc<;>try contradiction)
 .rw [zlL (show rng w.step 1 120≠0 from λk=>hc (zdR.1 k))]
  have qe:=@qR;exact gD2
 have c5:rng w.step 1 120=0:=zdR.2 hc;rw [zro c5];rw [zdR] at c5;clear hc;have h47:=yW w c5 (by omega) (by omega) p3.1 p4.2
 have hlen:=yaQ w;rw [<-hlen];have qe:=@qR;repeat' first|refine za h47 ?_|refine gG ?_|show AK _;intro J Z|refine gJ ?_|omega|exact aT
 (refine gC ?_ ?_<;>intro hc<;>try contradiction)
 .rw [if_pos hc,zlL (e:=22) (by decide)]
  have qe:=@qR;exact gD2
 rw [if_neg (by omega),zro (e:=0) rfl]
 clear hc;have qe:=@qR;repeat' first|refine za (yV _ _ _) ?_|refine za (yZ [_,_]) ?_|refine gG ?_|show AK _;intro J Z|refine gJ ?_|omega|exact aT
 (refine gC ?_ ?_<;>intro hc<;>try contradiction)
 .rw [zlL hc];have qe:=@qR;exact gD2
 rw [zro hc,zwE];clear hc;have qe:=@qR;repeat' first|refine gG ?_|show AK _;intro J Z|refine gJ ?_|omega|exact aT
 (refine gC ?_ ?_<;>intro hc<;>try contradiction)
 .rw [if_pos hc];have qe:=@qR;exact gD2
 .rw [if_neg (by omega)]
  have qe:=@qR;exact gD2
def yr (L:List Wis) (n:ByteArray):Pure prog 39 [.sl 18 (L.map Wis.pv),.s n] (.i .i64 (zeH n L)):=by
 refine pz func39 f39.eq_1 λhw X hX=>?_
 simp only [wfs,PV.wf,xaf,maxLen] at hw;refine gE2 ?_;refine zh (κ:=Nat) (λi=>⟨[(0,.p (.sl 18 (L.map Wis.pv))),(1,.p (.s n)),(5,.p (.i .i64 i))],[],[],false⟩) (λi=>i<=L.length/\∀ x ∈ (zkG L).take i,x≠n) (λi=>L.length - i) 0 ?_ ?_ ?_
 .exact sR
 .simp
 .intro i hi;refine gH (λhc=>?_) λhc=>?_
  .obtain ⟨x,hx⟩:=zj (i:=i) (l:=L) (by omega)
   have hm:(zkG L)[i]?=some x.req.name:=by unfold zkG;rw [xal,hx];rfl
   have qe:=@hx;refine gF2 (λhc=>?_) λhc=>?_
   .rw [zeH,zr8 hi.2 (by rw [hm,hc])];exact .refl _
   .refine ⟨i+1,⟨by omega,λy hy=>?_⟩,by omega,by simp⟩
    rw [zE hm] at hy
    rcases xaS.1 hy with h|h
    .exact hi.2 y h
    .simp at h;subst h;exact hc
  .refine gE2 ?_;have e:i=(zkG L).length:=by unfold zkG;rw [xaf];omega
   subst e;rw [zeH,zsa (λy hy=>hi.2 y (by rw [xah];exact hy))];exact .refl _
def yX (L:List Wis) (hi:i < L.length):Pure prog 40 [.sl 18 (L.map Wis.pv),.i .i64 i] (.i .i64 (zau L i)):=by
 obtain ⟨w,hw⟩:=zj hi;have e:zau L i=if w.req.link=s0 then -1 else zeH w.req.link L:=by unfold zau zuE;rw [hw]
 rw [e];refine pz func40 f40.eq_1 λhwf X hX=>?_
 by_cases h:w.req.link=s0
 .have h':=eq_true h;rw [if_pos h];have qe:=aI qR (aI @hw @h');have jA:=yr L w.req.link;exact gD2
 .have h':=eq_false h;rw [if_neg h];have qe:=aI qR (aI @hw @h');have jA:=yr L w.req.link;exact gD2
def yag (a b:Wis) (x y:Int) (hx:-10000<=x/\x<=10000) (hy:-10000<=y/\y<=10000) (hk:a.req.kind≠sD):Pure prog 133 [a.pv,b.pv,.i .i64 x,.i .i64 y] (.b (ze8 a b x y)):=by
 have hk':=eq_false hk;have e:ze8 a b x y=(decide (a.least<=y - x) && decide (y - x<=a.most)):=by unfold ze8;rw [if_neg hk]
 rw [e];refine pz func133 f133.eq_1 λhwf X hX=>?_
 have qe:=aI qR @hk';exact gD2
def ybQ (a b:Wis) (x y:Int) (hx:-10000<=x/\x<=10000) (hy:-10000<=y/\y<=10000) (hk:a.req.kind=sD->b.req.kind≠sD):Pure prog 133 [a.pv,b.pv,.i .i64 x,.i .i64 y] (.b (ze8 a b x y)):=by
 by_cases h:a.req.kind=sD
 .have h':=eq_true h;have h33:=yag b a y x hy hx (hk h);have e:ze8 a b x y=ze8 b a y x:=by
   unfold ze8;rw [if_pos h,if_neg (hk h)]
  rw [e];refine pz func133 f133.eq_1 λhwf X hX=>?_
  have qe:=aI qR @h';have jA:=h33;exact gD2
 .exact yag a b x y hx hy h
def ybU (w:Wis) (m:Int) (h12:zfI w=0->zg2 w.req.minute w.ear w.lat w.step<=12):Pure prog 63 [w.pv,.i .i64 m] (.tup [.sl 7 ((if zfI w=0/\m ∈ zac w then zbF (w.req.at m) else []).map Mov.pv),.i .i64 (if zfI w=0 then if m ∈ zac w then 0 else 30 else zfI w)]):=by
 refine pz func63 f63.eq_1 λhw X hX=>?_
 by_cases h:zfI w=0
 .have h':=eq_true h
  by_cases hm:m ∈ zac w
  .have hm':=eq_true hm;have qe:=aI qR (aI @h' (aI @hm' @decide_true));have jA:=zev w;have jB:=zcW w h (h12 h);have jC:=zid (zac w) m;have jD:=zco w m;refine gE5 ?_
   all_goals first|exact .refl _|(simp only [h];exact .refl _)
  .have hm':=eq_false hm;have qe:=aI qR (aI @h' (aI @hm' @decide_false));have jA:=zev w;have jB:=zcW w h (h12 h);have jC:=zid (zac w) m;have jD:=zco w m;refine gE5 ?_
   all_goals exact zdc (.nilsl _) (.refl _)
 .have h':=eq_false h;have qe:=aI qR @h';have jA:=zev w;refine gE2 ?_
  all_goals exact zdc (.nilsl _) (.refl _)
def ybT (w:Wis) (m:Int) (h:zbY w.req=0) (hm:0<=m/\m<=1439):Pure prog 64 [w.pv,.i .i64 m] (.sl 7 ((zbF (w.req.at m)).map Mov.pv)):=by
 have hq:=yam h hm.1 hm.2;have e:zbF (w.req.at m)=zhk (w.req.at m):=by unfold zbF;rw [if_pos hq]
 rw [e];refine pz func64 f64.eq_1 λhw X hX=>?_
 have qe:=@qR;have jA:=ycU w.req m;have jB:=pure21 (w.req.at m) hq;exact gD2
def yao (L:List Wis) (x y:Int) (j:Nat):Bool:=decide ((zY L j:Int) < x) && decide ((zY L j:Int)≠y)
def ybW (h:zav L=0) (hR:RsOk L R) (x y:Int):Pure prog 53 [.sl 18 (L.map Wis.pv),.sl 3 (R.map Res.pv),.i .i64 x,.i .i64 y] (.sl 7 ((zlk L R (yao L x y)).map Mov.pv)):=by
 obtain ⟨hn,hR⟩:=hR;have hn64:=(zR h).1;refine pz func53 f53.eq_1 λhw X hX=>?_
 have qe:=@qR;refine gE2 ?_;refine yaf (κ:=Nat) (λk=>⟨[(0,.p (.sl 18 (L.map Wis.pv))),(1,.p (.sl 3 (R.map Res.pv))),(2,.p (.i .i64 x)),(3,.p (.i .i64 y)),(9,.p (.sl 7 (((List.range k).foldl (plcF L R (yao L x y)) []).map Mov.pv))),(10,.p (.i .i64 k))],[],[],false⟩) (λk=>k<=L.length) (λk=>L.length - k) 0 ?_ ?_ ?_
 .refine .x 9 (.sl 7 []) ?_;exact .cov (sS)
 .simp
 .intro k hk;have hpl:=yaI L R (yao L x y) k;have hnx:(List.range (k+1)).foldl (plcF L R (yao L x y)) []=plcF L R (yao L x y) ((List.range k).foldl (plcF L R (yao L x y)) []) k:=by rw [xbd,xaP];rfl
  have hend:k=L.length->(List.range k).foldl (plcF L R (yao L x y)) []=zlk L R (yao L x y):=λe=>by rw [e];rfl
  generalize (List.range k).foldl (plcF L R (yao L x y)) []=P at *;refine gH (λhc=>?_) λhc=>?_
  .obtain ⟨w,hx⟩:=zj (i:=k) (l:=L) (by omega)
   obtain ⟨r,hr⟩:=zj (i:=k) (l:=R) (by omega)
   have hil:k < L.length:=by omega
   have h40:=yX L hil;have hwq:=(ybb (yN h hx)).1;have hmw:zfB L k r.minute=zbF (w.req.at r.minute):=by unfold zfB;rw [hx]
   have hml:=ybt L k r.minute;have hst:plcF L R (yao L x y) P k=if (r.gr && yao L x y k)=true then zhC zjb P (zfB L k r.minute) else P:=by unfold plcF;rw [hr]
   rw [hst] at hnx;clear hst;have qe:=@qR;repeat' first|refine za h40 ?_|refine gG ?_|show AK _;intro J Z|refine gJ ?_|omega|exact aT
   refine ycF ⟨[(0,.p (.sl 18 (L.map Wis.pv))),(1,.p (.sl 3 (R.map Res.pv))),(2,.p (.i .i64 x)),(3,.p (.i .i64 y)),(9,.p (.sl 7 (P.map Mov.pv))),(10,.p (.i .i64 k)),(12,.p (.i .i64 (zY L k)))],[],[],false⟩ ?_ ?_
   ·(refine gC ?_ ?_<;>intro hc<;>try contradiction)
    .have hle:(zY L k:Int)=zau L k:=by unfold zY;split<;>omega
     refine gE2 ?_
     all_goals (show Cov _ _;simp only [qS,seval]<;>simp [hle])
    .have hle:(zY L k:Int)=k:=by unfold zY;split<;>omega
     refine gE2 ?_
     all_goals (show Cov _ _;simp only [qS,seval]<;>simp [hle])
   cases hg:r.gr with
   | false=>
    rw [hg] at hnx;simp only [xa4,xaD,if_false] at hnx;have qe:=aI qR (aI @hx (aI @hr @hg));refine gE2 ?_;exact ⟨k+1,by omega,by dsimp only;omega,.cov (by simp only [qS,seval]<;>simp [hnx])⟩
   | true=>
    rw [hg] at hnx;simp only [xaZ,yao] at hnx
    by_cases c3:(zY L k:Int) < x
    .have c3':=eq_true c3
     by_cases c4:(zY L k:Int)=y
     .have c4':=eq_true c4;simp only [c3',c4',decide_true,ne_eq,not_true_eq_false,decide_false,Bool.and_false,xaD,if_false] at hnx;have qe:=aI qR (aI @hx (aI @hr (aI @hg (aI @c3' (aI @c4' (aI @decide_true @xaC))))));refine gE2 ?_;exact ⟨k+1,by omega,by dsimp only;omega,.cov (by simp only [qS,seval]<;>simp [hnx])⟩
     .have c4':=eq_false c4;simp only [c3',c4',decide_true,ne_eq,not_false_eq_true,Bool.and_self,if_true,hmw] at hnx;rw [hmw] at hml;have qe:=aI qR (aI @hx (aI @hr (aI @hg (aI @c3' (aI @c4' (aI @decide_true (aI @decide_false @xax)))))));have jA:=ybT w r.minute hwq (hR r (xae hr) hg);have jB:=pure69 P (zbF (w.req.at r.minute)) (by omega);refine gE2 ?_
      exact ⟨k+1,by omega,by dsimp only;omega,.cov (by simp only [qS,seval]<;>simp [hnx])⟩
    .have c3':=eq_false c3;simp only [c3',decide_false,xa4,xaD,if_false] at hnx;have qe:=aI qR (aI @hx (aI @hr (aI @hg (aI @c3' yDF))));refine gE2 ?_;exact ⟨k+1,by omega,by dsimp only;omega,.cov (by simp only [qS,seval]<;>simp [hnx])⟩
  .have e:k=L.length:=by omega
   rw [hend e];have qe:=aI qR (aI @lpN (aI @lpE @lpR));exact gD2
def allWs6 (l:List Wis):l.all ((λx=>x.cells.all PV.one) ∘ Wis.pv)=true:=by rw [xaO];intro x _;rfl
def allRs6 (l:List Res):l.all ((λx=>x.cells.all PV.one) ∘ Res.pv)=true:=by rw [xaO];intro x _;rfl
def yu (L:List Wis) (hn:L.length*192<=140737488355328):Pure prog 15 [.sl 18 (L.map Wis.pv)] (.sl 18 (L.map Wis.pv)):=by
 refine pz func15 f15.eq_1 λhw X hX=>?_
 have qe:=@qR;refine gE2 ?_;refine run_ownL 100 65 18 (κ:=Nat) (λk=>⟨[(0,.p (.sl 18 (L.map Wis.pv))),(3,.row 100 (L.take k).length),(4,.p (.i .i64 k))],[(100,.row 65 18 ((L.take k).map Wis.pv) false)],[],false⟩) (λk=>k<=L.length) (λk=>L.length - k) 0 ?_ ?_ ?_
 .refine ⟨gO ?_,gO ?_⟩<;>simp
 .simp
 .intro k hk;refine gH (λhc=>?_) λhc=>?_
  .obtain ⟨w,hx⟩:=zj (i:=k) (l:=L) (by omega)
   have hlt:=zfJ hx;have hkl:(L.take k).length=k:=by rw [xan];omega
   have qe:=aI qR (aI @hx @hkl);refine gE2 ?_;exact ⟨k+1,by omega,by omega,by rw [zE hx];simp [hkl],by rw [zE hx];simp⟩
  .have e:k=L.length:=by omega
   subst e;rw [xah];exact gD2
def yaH (L:List Lim) (hn:L.length*112<=140737488355328):Pure prog 17 [.sl 11 (L.map Lim.pv)] (.sl 11 (L.map Lim.pv)):=by
 refine pz func17 f17.eq_1 λhw X hX=>?_
 have qe:=@qR;refine gE2 ?_;refine run_ownL 100 131 11 (κ:=Nat) (λk=>⟨[(0,.p (.sl 11 (L.map Lim.pv))),(3,.row 100 (L.take k).length),(4,.p (.i .i64 k))],[(100,.row 131 11 ((L.take k).map Lim.pv) false)],[],false⟩) (λk=>k<=L.length) (λk=>L.length - k) 0 ?_ ?_ ?_
 .refine ⟨gO ?_,gO ?_⟩<;>simp
 .simp
 .intro k hk;refine gH (λhc=>?_) λhc=>?_
  .obtain ⟨w,hx⟩:=zj (i:=k) (l:=L) (by omega)
   have hlt:=zfJ hx;have hkl:(L.take k).length=k:=by rw [xan];omega
   have qe:=aI qR (aI @hx @hkl);refine gE2 ?_;exact ⟨k+1,by omega,by omega,by rw [zE hx];simp [hkl],by rw [zE hx];simp⟩
  .have e:k=L.length:=by omega
   subst e;rw [xah];exact gD2
def yb1 (L:List Wis) (hn:L.length*192<=140737488355328):Pure prog 18 [.sl 18 (L.map Wis.pv)] (.sl 18 (L.map Wis.pv)):=by
 refine pz func18 f18.eq_1 λhw X hX=>?_
 have qe:=aI qR (aI @allWs6 @zwW);exact gD2
def yaG (L:List Res) (hn:L.length*32<=140737488355328):Pure prog 27 [.sl 3 (L.map Res.pv)] (.sl 3 (L.map Res.pv)):=by
 refine pz func27 f27.eq_1 λhw X hX=>?_
 have qe:=aI qR (aI @allRs6 @zwW);exact gD2
structure RsN (L:List Wis) (R:List Res):Prop where
 ok:RsOk L R
 nm:∀ i r,R[i]?=some r->r.name=nmW L i
def ycL {x:Int} (h1:j≠i) (h2:0<=x->j≠x.toNat):(zn9 R ((i:Int),x) o)[j]?=R[j]?:=by
 unfold zn9
 split
 .rw [xam,zgj _ h1]
 .rename_i hx;rw [zgj _ (h2 (by simp only at hx;omega)),xam,zgj _ h1]
def yC (ls:List Lim) (L:List Wis) (F:Unt->List Opt) (k:Nat):zh6 ls L F (k+1)=srvI ls L F (zh6 ls L F k) k:=by unfold zh6;rw [xbd,xaP];rfl
def yad (h:zav L=0) (F:Unt->List Opt) (hk:k < L.length) (hj:zY L j≠k):(zh6 ls L F (k+1))[j]?=(zh6 ls L F k)[j]?:=by
 rw [yC];unfold srvI
 split
 .rename_i hu
  split
  .refine ycL (λe=>hj (by rw [e];exact zj4 hu)) λh0 e=>?_
   obtain ⟨a,ha⟩:=zj hk
   rcases zcH h ha with h1|⟨c,b,hc⟩
   .omega
   .have hl:=hc.lab;rw [hl,xam] at e;exact hj (by rw [e];exact zqW hc (by omega))
  .rfl
 .rfl
theorem yi (h:zav L=0) (F:Unt->List Opt):∀ d,zY L j+1+d<=L.length->(zh6 ls L F (zY L j+1+d))[j]?=(zh6 ls L F (zY L j+1))[j]?
 | 0,_=>rfl
 | d+1,hd=>by
  rw [show zY L j+1+(d+1)=(zY L j+1+d)+1 by omega,yad h F (by omega) (by omega)]
  exact yi h F d (by omega)
theorem yO (h:zav L=0) (F:Unt->List Opt):∀ k,k<=zY L j->k<=L.length->(zh6 ls L F k)[j]?=(zbU L)[j]?
 | 0,_,_=>rfl
 | k+1,hk,hn=>by
  rw [yad h F (by omega) (by omega)]
  exact yO h F k (by omega) (by omega)
def yf (L:List Wis) (j:Nat):zY L j<=j:=by unfold zY;split<;>omega
def y5 (ls:List Lim) (L:List Wis) (F:Unt->List Opt) (i:Nat):Option Opt:=(F ((i:Int),zau L i)).find? (fitX ls L (zbL L (zh6 ls L F i) λj=>decide (zY L j < i)) ((i:Int),zau L i))
def ya9 (L:List Wis) (j i:Nat):Option Opt->Res
 | some o=>⟨nmW L j,if j=i then o.1 else o.2,true⟩
 | none=>⟨nmW L j,0,false⟩
def ycI (hj:j < L.length):(zbU L)[j]?=some ⟨nmW L j,0,false⟩:=by
 obtain ⟨w,hw⟩:=zj hj;unfold zbU nmW;rw [xal,hw];rfl
def ybd (h:zav L=0) (F:Unt->List Opt) (hj:j < L.length):(zh6 ls L F L.length)[j]?=some (ya9 L j (zY L j) (y5 ls L F (zY L j))):=by
 have hle:=yf L j;have e1:=yi (ls:=ls) h F (j:=j) (L.length - (zY L j+1)) (by omega)
 rw [show zY L j+1+(L.length - (zY L j+1))=L.length by omega] at e1
 rw [e1,yC];have e0:=yO (ls:=ls) h F (j:=j) (zY L j) (xap _) (by omega)
 rw [ycI hj] at e0;have hi:zY L j < L.length:=by omega
 have hlead:zau L (zY L j) < 0\/((zY L j:Nat):Int) < zau L (zY L j):=by
  rcases zfZ h hj with ⟨a,b⟩|⟨i,a,b,hk,hij,hl,hlt⟩
  .rw [a];exact b
  .rw [hl];exact .inr hlt
 have hwho:=zfZ h hj;unfold srvI;rw [if_pos hlead];show (match y5 ls L F (zY L j) with|some o=>zn9 (zh6 ls L F (zY L j)) (((zY L j:Nat):Int),zau L (zY L j)) o|none=>zh6 ls L F (zY L j))[j]?=_
 cases y5 ls L F (zY L j) with
 | none=>simp only [];rw [e0];rfl
 | some o=>
  simp only [];unfold ya9;simp only []
  rcases hwho with ⟨a,b⟩|⟨i,a,b,hk,hij,hl,hlt⟩
  .rw [if_pos a.symm];generalize zY L j=i at *;subst a;unfold zn9
   split
   .rw [xam,zpF e0]
   .rename_i hx;simp only at hx;rw [xam,zgj _ (by simp only;omega),zpF e0]
  .rw [hl] at e0 ⊢;have hlb:=hk.lba;rw [if_neg (by omega)]
   unfold zn9;rw [hlb];rw [if_neg (by simp only;omega),xam,xam]
   rw [zpF (by rw [zgj _ (by omega)];exact e0)]
def yac (h:zav L=0) (F:Unt->List Opt) (hi:i<=L.length):(zbL L (zh6 ls L F L.length) λj=>decide (zY L j < i))=zbL L (zh6 ls L F i) λj=>decide (zY L j < i):=by
 unfold zbL;refine y6 λj hj=>?_
 have hj:=xaG.1 hj
 by_cases hl:zY L j < i
 .have hle:=yf L j;have e1:=yi (ls:=ls) h F (j:=j) (L.length - (zY L j+1)) (by omega)
  have e2:=yi (ls:=ls) h F (j:=j) (i - (zY L j+1)) (by omega)
  rw [show zY L j+1+(L.length - (zY L j+1))=L.length by omega] at e1
  rw [show zY L j+1+(i - (zY L j+1))=i by omega] at e2
  unfold zeA;rw [e1,e2]
 .have hf:decide (zY L j < i)=false:=decide_eq_false hl;unfold zeA;simp only [hf,Bool.and_false,xaD,if_false];cases (zh6 ls L F L.length)[j]?<;>cases (zh6 ls L F i)[j]?<;>rfl
def yc5 (n:ByteArray) (L:List Wis):-1<=zeH n L/\zeH n L < L.length:=by
 have h1:=zr9 n (zkG L);have h2:=zr7 n (zkG L);unfold zeH;rw [show (zkG L).length=L.length by unfold zkG;rw [xaf]] at h2
 exact ⟨h1,h2⟩
def ybS (L:List Wis) (hx:L[i]?=some w):Pure prog 91 [.sl 18 (L.map Wis.pv),.i .i64 i] (.i .i64 (zjj L i w)):=by
 have hil:i < L.length:=(xaa.1 hx).1
 obtain ⟨f1,f2⟩:=yc5 w.req.link L
 have h39:=yr L w.req.link
 refine pz func91 f91.eq_1 λhwf X hX=>?_
 by_cases c1:w.req.link=s0
 .have c1':=eq_true c1
  have e:zjj L i w=0:=by unfold zjj;rw [if_pos c1]
  rw [e]
  have qe:=aI qR (aI @hx @c1');exact gD2
 .have c1':=eq_false c1
  by_cases c2:zeH w.req.link L < 0
  .have c2':=eq_true c2
   have e:zjj L i w=10:=by
    unfold zjj
    rw [if_neg c1]
    split
    .rw [if_pos c2]
    .rfl
   rw [e]
   have qe:=aI qR (aI @hx (aI @c1' @c2'));have jA:=h39;exact gD2
  .have c2':=eq_false c2
   obtain ⟨k,hk⟩:∃ k:Nat,zeH w.req.link L=(k:Int):=⟨(zeH w.req.link L).toNat,by omega⟩
   obtain ⟨o,ho⟩:=zj (i:=k) (l:=L) (by omega)
   have e:zjj L i w=if (k:Int)=i\/o.req.link≠w.req.name\/o.req.kind=w.req.kind\/¬(o.req.per.fro=w.req.per.fro/\o.req.per.to=w.req.per.to/\o.req.per.days=w.req.per.days) then 32 else 0:=by
    unfold zjj
    rw [if_neg c1,hk,xam,ho]
    simp only []
    rw [if_neg (by omega)]
   rw [hk] at h39 c2'
   have hkl:k < L.length:=by omega
   rw [e]
   by_cases d1:(k:Int)=i
   .have d1':=eq_true d1
    rw [if_pos (.inl d1)]
    have qe:=aI qR (aI @hx (aI @ho (aI @c1' (aI @c2' (aI @d1' @decide_true)))));have jA:=h39;exact gD2
   .have d1':=eq_false d1
    by_cases d2:o.req.link=w.req.name
    .have d2':=eq_true d2
     by_cases d3:w.req.kind=o.req.kind
     .have d3':=eq_true d3
      rw [if_pos (.inr (.inr (.inl d3.symm)))]
      have qe:=aI qR (aI @hx (aI @ho (aI @c1' (aI @c2' (aI @d1' (aI @d2' (aI @d3' (aI @decide_true (aI @decide_false @xaC)))))))));have jA:=h39;exact gD2
     .have d3':=eq_false d3
      by_cases d4:w.req.per.fro=o.req.per.fro/\w.req.per.to=o.req.per.to/\w.req.per.days=o.req.per.days
      .obtain ⟨d5,d6,d7⟩:=d4
       have d5':=eq_true d5
       have d6':=eq_true d6
       have d7':=eq_true d7
       rw [if_neg (by rintro (h|h|h|h)<;>first|exact d1 h|exact h d2|exact d3 h.symm|exact h ⟨d5.symm,d6.symm,d7.symm⟩)]
       have qe:=aI qR (aI @hx (aI @ho (aI @c1' (aI @c2' (aI @d1' (aI @d2' (aI @d3' (aI @d5' (aI @d6' (aI @d7' (aI @decide_true (aI @decide_false (aI @xaC @xax)))))))))))));have jA:=h39;exact gD2
      .have d4':(decide (w.req.per.fro=o.req.per.fro) && (decide (w.req.per.to=o.req.per.to) && decide (w.req.per.days=o.req.per.days)))=false:=by
        rw [<-Bool.decide_and,<-Bool.decide_and];exact decide_eq_false d4
       rw [if_pos (.inr (.inr (.inr λh=>d4 ⟨h.1.symm,h.2.1.symm,h.2.2.symm⟩)))]
       have qe:=aI qR (aI @hx (aI @ho (aI @c1' (aI @c2' (aI @d1' (aI @d2' (aI @d3' (aI @d4' (aI @decide_true (aI @decide_false (aI @xaC @xax)))))))))));have jA:=h39;exact gD2
    .have d2':=eq_false d2
     rw [if_pos (.inr (.inl d2))]
     have qe:=aI qR (aI @hx (aI @ho (aI @c1' (aI @c2' (aI @d1' (aI @d2' (aI @decide_true (aI @decide_false @xax))))))));have jA:=h39;exact gD2
def yY (L:List Wis):Pure prog 21 [.sl 18 (L.map Wis.pv)] (.i .i64 (zav L)):=by
 refine pz func21 f21.eq_1 λhw X hX=>?_
 simp only [wfs,PV.wf,xaf,maxLen] at hw;refine gF2 (λhc=>?_) λhc=>?_
 .rw [zav,if_pos hc];exact .refl _
 have hsp:zav L=zn [zn (L.mapIdx (zcB L)),zn (L.mapIdx (zjj L))]:=by rw [zav,if_neg (by omega)]
 refine zh (κ:=Nat) (λi=>⟨[(0,.p (.sl 18 (L.map Wis.pv))),(3,.p (.i .i64 i))],[],[],false⟩) (λi=>i<=L.length/\∀ x ∈ (L.mapIdx (zcB L)).take i,x=0) (λi=>L.length - i) 0 ?_ ?_ ?_
 .exact sR
 .simp
 .intro i hi;refine gH (λhc=>?_) λhc=>?_
  .obtain ⟨x,hx⟩:=zj (i:=i) (l:=L) (by omega)
   have he:zcB L i x=zn [zfI x,if 0<=zeH x.req.name (L.take i) then 9 else 0]:=rfl
   have hft:=ycd hx;have h39:=yr L x.req.name
   by_cases c1:zfI x=0
   .have c1':=eq_true c1
    by_cases c2:zeH x.req.name L < i
    .have c2':=eq_true c2;have hv:zcB L i x=9:=by rw [he,zro c1,zwE,if_pos (hft.1 c2)]
     have hf:zav L=9:=by rw [hsp,zbr hi.2 (zaj hx) (by rw [hv];decide),hv,zlL (e:=9) (by decide)]
     rw [hf];have qe:=aI qR (aI @hx (aI @c1' @c2'));have jA:=yt x;have jB:=h39;exact gD2
    .have c2':=eq_false c2;have hv:zcB L i x=0:=by rw [he,zro c1,zwE,if_neg (λk=>c2 (hft.2 k))]
     have qe:=aI qR (aI @hx (aI @c1' @c2'));have jA:=yt x;have jB:=h39;refine gE2 ?_
     all_goals exact ⟨i+1,⟨by omega,zb0 hi.2 (zaj hx) hv⟩,by omega,by simp⟩
   .have c1':=eq_false c1;have hv:zcB L i x=zfI x:=by rw [he,zlL c1]
    have hf:zav L=zfI x:=by rw [hsp,zbr hi.2 (zaj hx) (by rw [hv];exact c1),hv,zlL c1]
    rw [hf];have qe:=aI qR (aI @hx @c1');have jA:=yt x;exact gD2
  .have ei:i=(L.mapIdx (zcB L)).length:=by simp;omega
   have hA:zn (L.mapIdx (zcB L))=0:=by subst ei;exact zbj hi.2
   rw [zro hA,zwE] at hsp;refine gE2 ?_;refine zh (κ:=Nat) (λi=>⟨[(0,.p (.sl 18 (L.map Wis.pv))),(5,.p (.i .i64 i))],[],[],false⟩) (λi=>i<=L.length/\∀ x ∈ (L.mapIdx (zjj L)).take i,x=0) (λi=>L.length - i) 0 ?_ ?_ ?_
   .exact sR
   .simp
   .clear hi ei;intro i hi;refine gH (λhc=>?_) λhc=>?_
    .obtain ⟨x,hx⟩:=zj (i:=i) (l:=L) (by omega)
     have h91:=ybS L hx
     by_cases c1:zjj L i x=0
     .have c1':=eq_true c1;have qe:=aI qR (aI @hx @c1');have jA:=h91;refine gE2 ?_
      all_goals exact ⟨i+1,⟨by omega,zb0 hi.2 (zaj hx) c1⟩,by omega,by simp⟩
     .have c1':=eq_false c1;have hf:zav L=zjj L i x:=by rw [hsp,zbr hi.2 (zaj hx) c1]
      rw [hf];have qe:=aI qR (aI @hx @c1');have jA:=h91;exact gD2
    .have ei:i=(L.mapIdx (zjj L)).length:=by simp;omega
     have hf:zav L=0:=by rw [hsp];subst ei;exact zbj hi.2
     rw [hf];exact gD2
def bigW (w:Wis):Bool:=((decide ((60:Int) < w.req.carrier.size) || decide ((60:Int) < w.req.partner.size)) || decide ((60:Int) < w.req.link.size)) || !shReq w.req
def ybN (w:Wis):Bool:=!bigW w && (!decide (zfI w=0) || (decide (((zac w).length:Int)<=8) && decide (w.req.per.to - w.req.per.fro < 10)))
def yb0 (w:Wis):Pure prog 33 [w.pv] (.b (ybN w)):=by
 have h17:=pure17 w.req;have h34:=yt w;refine pz func33 f33.eq_1 λhwf X hX=>?_
 have hno:bigW w=true->ybN w=false:=λh=>by unfold ybN;rw [h];rfl
 by_cases a1:(60:Int) < w.req.carrier.size
 .have a1':=eq_true a1;rw [hno (by unfold bigW;rw [decide_eq_true a1];simp)]
  have qe:=aI qR (aI @a1' @decide_true);have jA:=nm 113 (.b true);exact gD2
 have a1':=eq_false a1
 by_cases a2:(60:Int) < w.req.partner.size
 .have a2':=eq_true a2;rw [hno (by unfold bigW;rw [decide_eq_true a2];simp)]
  have qe:=aI qR (aI @a1' (aI @a2' yDF));have jA:=nm 113 (.b true);exact gD2
 have a2':=eq_false a2
 by_cases a3:(60:Int) < w.req.link.size
 .have a3':=eq_true a3;rw [hno (by unfold bigW;rw [decide_eq_true a3];simp)]
  have qe:=aI qR (aI @a1' (aI @a2' (aI @a3' yDF)));have jA:=nm 113 (.b true);exact gD2
 have a3':=eq_false a3;cases a4:shReq w.req with
 | false=>
  rw [a4] at h17;rw [hno (by unfold bigW;rw [a4];simp)]
  have qe:=aI qR (aI @a1' (aI @a2' (aI @a3' (aI @decide_true (aI @decide_false @xax)))));have jA:=h17;exact gD2
 | true=>
  rw [a4] at h17;have hb:bigW w=false:=by unfold bigW;rw [decide_eq_false a1,decide_eq_false a2,decide_eq_false a3,a4];rfl
  by_cases c0:zfI w=0
  .have c0':=eq_true c0;obtain ⟨_,f1,f2,f3,f4,f5⟩:=ybb c0;have h47:=yW w f5 f2 f3 f1 f4;have hpr:0<=w.req.per.to/\w.req.per.to<=99999/\0<=w.req.per.fro/\w.req.per.fro<=99999:=by
    have hp:=zaI (zeR (ybb c0).1).1
    omega
   have hs:ybN w=(decide (((zac w).length:Int)<=8) && decide (w.req.per.to - w.req.per.fro < 10)):=by unfold ybN;rw [hb,decide_eq_true c0];rfl
   rw [hs]
   by_cases c1:((zac w).length:Int)<=8
   .have c1':=eq_true c1;rw [decide_eq_true c1,xaZ];have qe:=aI qR (aI @a1' (aI @a2' (aI @a3' (aI @c0' (aI @c1' (aI @decide_true (aI @decide_false @xaC)))))));have jA:=h17;have jB:=h34;have jC:=h47;exact gD5
   .have c1':=eq_false c1;rw [decide_eq_false c1,xa4];have qe:=aI qR (aI @a1' (aI @a2' (aI @a3' (aI @c0' (aI @c1' (aI @decide_true (aI @decide_false @xaC)))))));have jA:=h17;have jB:=h34;have jC:=h47;exact gD5
  .have c0':=eq_false c0;have hs:ybN w=true:=by unfold ybN;rw [hb,decide_eq_false c0];rfl
   rw [hs];have qe:=aI qR (aI @a1' (aI @a2' (aI @a3' (aI @c0' (aI @decide_true (aI @decide_false @xaC))))));have jA:=h17;have jB:=h34;have jC:=nm 47 (.sl 1 []);exact gD5
def longW (L:List Wis) (n:Int):Bool:=(decide (n < L.length) && decide ((L.length:Int)<=64)) || decide ((66:Int) < L.length)
def ya7 (L:List Wis) (n:Int):Bool:=!longW L n && L.all ybN
def ybV (L:List Wis) (n:Int):Pure prog 59 [.sl 18 (L.map Wis.pv),.i .i64 n] (.b (ya7 L n)):=by
 refine pz func59 f59.eq_1 λhwf X hX=>?_
 simp only [wfs,PV.wf,xaf,maxLen] at hwf;have qe:=@qR;refine gF2 (λhc=>?_) λhc=>?_
 .have:longW L n=true:=by simpa [longW] using hc
  rw [ya7,this];exact .refl _
 have hsh:longW L n=false:=by simpa [longW] using hc
 refine zh (κ:=Nat) (λi=>⟨[(0,.p (.sl 18 (L.map Wis.pv))),(5,.p (.i .i64 i))],[],[],false⟩) (λi=>i<=L.length/\∀ y ∈ L.take i,ybN y=true) (λi=>L.length - i) 0 ?_ ?_ ?_
 .exact sS
 .simp
 .intro i hi;refine gH (λhc=>?_) λhc=>?_
  .obtain ⟨y,hx⟩:=zj (i:=i) (l:=L) (by omega)
   have qe:=aI qR @hx;have jA:=yb0 y;refine gF2 (λhc=>?_) λhc=>?_
   .rw [ya7,hsh,ybJ hx hc];exact .refl _
   .exact ⟨i+1,⟨by omega,yaa hi.2 hx hc⟩,by omega,by simp⟩
  .have e:i=L.length:=by omega
   subst e;have ha:=ybK hi.2;have qe:=@qR;refine gE2 ?_;rw [ya7,hsh,ha];exact .refl _
def yb2 (ls:List Lim) (L:List Wis) (hL:L.length*192<=140737488355328):Pure prog 14 [.sl 11 (ls.map Lim.pv),.sl 18 (L.map Wis.pv)] (.b (yc ls 3 && ya7 L 5)):=by
 have h15:=ycq ls 3;refine pz func14 f14.eq_1 λhwf X hX=>?_
 cases hs:yc ls 3 with
 | true=>
  rw [hs] at h15;have qe:=@qR;have jA:=h15;have jB:=yu L hL;have jC:=ybV L 5;exact gD5
 | false=>
  rw [hs] at h15;have qe:=@qR;have jA:=h15;have jB:=nm 15 (.sl 18 []);have jC:=nm 59 (.b false);exact gD5
def ycu {n:Int} (hs:yc ls n=true) (hc:zJ ls=0):zgb ls:=by
 have hl:=(zU hc).2;have key:∀ k,k<=ls.length->(((List.range k).flatMap λi=>match ls[i]? with|some l=>(zaq l).map λx=>(i,x)|none=>[]).length:Int)=yap ls k:=by
  intro k
  induction k with
  | zero=>intro _;simp [yap]
  | succ k ih=>
   intro hk;have hx:=xac (l:=ls) (i:=k) (by omega)
   have h3:=yab (hl _ (xae hx));rw [yB hx,zbE,xad,hx];have:=ih (by omega)
   simp only [xaf]
   omega
 refine zwD ?_;have h2:((winA ls).length:Int)=yap ls ls.length:=key ls.length (xap _);unfold yc at hs;simp only [xau,decide_eq_true_eq] at hs
 omega
def shw_sh {n:Int} (hs:ya7 L n=true):ShW L:=λh w hw=>by
 unfold ya7 at hs;rw [xau] at hs;have h1:=xaO.1 hs.2 w hw;obtain ⟨i,hi⟩:=xbl.1 hw;have h0:=yN h hi;unfold ybN at h1;simp only [xau,xbg,xbv,decide_eq_false_iff_not,decide_eq_true_eq] at h1;have:=yaQ w
 rcases h1.2 with h2|h2
 .exact absurd h0 h2
 .omega
def shl_le {n:Int} (hs:ya7 L n=true):L.length<=66/\(zav L=0->(L.length:Int)<=n):=by
 unfold ya7 longW at hs;simp only [xau,xbv,xbo,Bool.and_eq_false_iff,decide_eq_false_iff_not] at hs;refine ⟨by omega,λh=>?_⟩
 have:=(zR h).1
 omega
def ybY (ls:List Lim) (L:List Wis) (hL:L.length*192<=140737488355328):Pure prog 45 [.sl 11 (ls.map Lim.pv),.sl 18 (L.map Wis.pv)] (.b ((yc ls 3 && ya7 L 5) && (decide (zJ ls=0) && decide (zav L=0)))):=by
 have h14:=yb2 ls L hL;refine pz func45 f45.eq_1 λhwf X hX=>?_
 cases hs:(yc ls 3 && ya7 L 5) with
 | false=>
  rw [hs] at h14;have qe:=@qR;have jA:=h14;have jB:=nm 20 (.i .i64 0);have jC:=nm 15 (.sl 18 []);have jD:=nm 21 (.i .i64 0);exact gD5
 | true=>
  rw [hs] at h14
  by_cases c1:zJ ls=0
  .have c1':=eq_true c1;rw [decide_eq_true c1]
   by_cases c2:zav L=0
   .have c2':=eq_true c2;rw [decide_eq_true c2];have qe:=aI qR (aI @c1' (aI @c2' @decide_true));have jA:=h14;have jB:=yah ls;have jC:=yu L hL;have jD:=yY L;exact gD5
   .have c2':=eq_false c2;rw [decide_eq_false c2];have qe:=aI qR (aI @c1' (aI @c2' yDF));have jA:=h14;have jB:=yah ls;have jC:=yu L hL;have jD:=yY L;exact gD5
  .have c1':=eq_false c1;rw [decide_eq_false c1];have qe:=aI qR (aI @c1' @decide_false);have jA:=h14;have jB:=yah ls;have jC:=nm 15 (.sl 18 []);have jD:=nm 21 (.i .i64 0);exact gD5
def yb4 (L:List Wis) (R:List Res) (y:Int):zlk L R (yao L L.length y)=zlk L R λj=>decide ((zY L j:Int)≠y):=by
 rw [zjR,zjR]
 congr 1
 unfold zbL;refine zcK λi hi=>?_
 have hi:=xaG.1 hi;have h:zY L i<=i:=by unfold zY;split<;>omega
 have e:yao L L.length y i=decide ((zY L i:Int)≠y):=by
  unfold yao;rw [decide_eq_true (show (zY L i:Int) < (L.length:Int) by omega),xaZ]
 unfold zeA;rw [e]
def yb5 (L:List Wis) (R:List Res):zlk L R (yao L L.length (-1))=zlk L R λ_=>true:=by
 rw [yb4];have e:(λj=>decide ((zY L j:Int)≠-1))=λ_=>true:=by
  funext j
  exact decide_eq_true (show (zY L j:Int)≠-1 by omega)
 rw [e]
def ycV (hn:L.length<=64) (R:List Res) (f:Nat->Bool):(zlk L R f).length<=25664:=by
 have:=yaI L R f L.length;unfold zlk;omega
def ybX (h:zav L=0) (R:List Res):Pure prog 52 [.sl 18 (L.map Wis.pv),.sl 3 (R.map Res.pv)] (.i .i64 (zc8 L R)):=by
 have hn64:=(zR h).1
 refine pz func52 f52.eq_1 λhw X hX=>?_
 refine gF2 (λhc=>?_) λhc=>?_
 .rw [zc8,if_pos (by omega)];exact .refl _
 have hn:R.length=L.length:=by omega
 have hsp:zc8 L R=zn [zn (R.mapIdx (zkH L)),if (zq L).any (zhp L R)=true then 32 else 0]:=by rw [zc8,if_neg (by omega)]
 refine zh (κ:=Nat) (λi=>⟨[(0,.p (.sl 18 (L.map Wis.pv))),(1,.p (.sl 3 (R.map Res.pv))),(5,.p (.i .i64 i))],[],[],false⟩) (λi=>i<=R.length/\∀ x ∈ (R.mapIdx (zkH L)).take i,x=0) (λi=>R.length - i) 0 ?_ ?_ ?_
 .exact sS
 .simp
 .intro i hi
  refine gH (λhc=>?_) λhc=>?_
  .obtain ⟨r,hr⟩:=zj (i:=i) (l:=R) (by omega)
   obtain ⟨w,hwl⟩:=zj (i:=i) (l:=L) (by omega)
   have he:zkH L i r=zfy w r:=by unfold zkH;rw [hwl]
   obtain ⟨fq,f1,f2,f3,f4,f5⟩:=ybb (yN h hwl)
   have h47:=yW w f5 f2 f3 f1 f4
   have h38:=pure38 (zac w) r.minute
   have stop:∀ {c:Int},zfy w r=c->c≠0->zc8 L R=c:=fun {c} e hc=>by
    rw [<-e,<-he] at hc
    have h1:zn (R.mapIdx (zkH L))=zkH L i r:=zbr hi.2 (zaj hr) hc
    rw [hsp,zlL (by rw [h1];exact hc),h1,he,e]
   have go:zfy w r=0->∀ x ∈ (R.mapIdx (zkH L)).take (i+1),x=0:=λe=>zb0 hi.2 (zaj hr) (by rw [he,e])
   by_cases c1:r.name=w.req.name
   .have c1':=eq_true c1
    cases hg:r.gr with
    | true=>
     by_cases c2:r.minute ∈ zac w
     .have hz:zfy w r=0:=by unfold zfy;simp [hg,c1,c2,zn]
      rw [decide_eq_true c2] at h38
      have qe:=aI qR (aI @hr (aI @hwl (aI @hg (aI @c1' (aI @decide_true @xaC)))));have jA:=h47;have jB:=h38;refine gE2 ?_
      all_goals exact ⟨i+1,⟨by omega,go hz⟩,by omega,by simp⟩
     .have hz:zc8 L R=30:=stop (by unfold zfy;simp [hg,c1,c2,zn]) (by decide)
      rw [decide_eq_false c2] at h38
      have qe:=aI qR (aI @hr (aI @hwl (aI @hg (aI @c1' (aI @decide_true @xax)))));have jA:=h47;have jB:=h38;refine gE2 ?_
      all_goals (rw [hz];exact .refl _)
    | false=>
     by_cases c2:r.minute=0
     .have hz:zfy w r=0:=by unfold zfy;simp [hg,c1,c2,zn]
      have c2':=eq_true c2
      have qe:=aI qR (aI @hr (aI @hwl (aI @hg (aI @c1' (aI @c2' (aI @decide_true @xax))))));have jA:=nm 47 (.sl 1 []);have jB:=nm 46 (.b false);refine gE2 ?_
      all_goals exact ⟨i+1,⟨by omega,go hz⟩,by omega,by simp⟩
     .have hz:zc8 L R=19:=stop (by unfold zfy;simp [hg,c1,c2,zn]) (by decide)
      have c2':=eq_false c2
      have qe:=aI qR (aI @hr (aI @hwl (aI @hg (aI @c1' (aI @c2' (aI @decide_true (aI @decide_false @xax)))))));have jA:=nm 47 (.sl 1 []);have jB:=nm 46 (.b false);refine gE2 ?_
      all_goals (rw [hz];exact .refl _)
   .have c1':=eq_false c1
    have hz:zc8 L R=8:=stop (by unfold zfy;simp [c1,zn]) (by decide)
    have qe:=aI qR (aI @hr (aI @hwl (aI @c1' @decide_false)));refine gE2 ?_
    all_goals (rw [hz];exact .refl _)
  .have e:i=R.length:=by omega
   subst e
   have hall:∀ x ∈ R.mapIdx (zkH L),x=0:=by
    have:=hi.2
    rwa [xas (by simp)] at this
   have h0:zn (R.mapIdx (zkH L))=0:=zbj λx hx=>hall x (xbu hx)
   have hat:∀ (j:Nat) (q:Res) (w:Wis),R[j]?=some q->L[j]?=some w->q.gr=true->q.minute ∈ zac w:=λj q w hq hwl hg=>by
    have:=hall (zkH L j q) (xae (zaj hq))
    unfold zkH at this
    rw [hwl] at this
    exact (zdz this).2.1 hg
   clear hi
   have hbd:(∃ j,j < L.length/\yan L R j=true)->zc8 L R=32:=λ⟨j,hj,hb⟩=>by
    have:(zq L).any (zhp L R)=true:=by rw [yaA h R];exact xaV.2 ⟨j,xaG.2 hj,hb⟩
    rw [hsp,h0,this];rfl
   refine gE2 ?_
   refine zh (κ:=Nat) (λi=>⟨[(0,.p (.sl 18 (L.map Wis.pv))),(1,.p (.sl 3 (R.map Res.pv))),(6,.p (.i .i64 i))],[],[],false⟩) (λi=>i<=R.length/\∀ j,j < i->yan L R j=false) (λi=>R.length - i) 0 ?_ ?_ ?_
   .exact sS
   .simp
   .intro i hi
    refine gH (λhc=>?_) λhc=>?_
    .obtain ⟨r,hr⟩:=zj (i:=i) (l:=R) (by omega)
     obtain ⟨a,ha⟩:=zj (i:=i) (l:=L) (by omega)
     have hil:i < L.length:=by omega
     have h40:=yX L hil
     have hnxt:yan L R i=false->∀ j,j < i+1->yan L R j=false:=λhb j hj=>by
      rcases Nat.lt_or_eq_of_le (show j<=i by omega) with hj|rfl
      .exact hi.2 j hj
      .exact hb
     have hra:=zW hr
     rcases zcH h ha with hk|⟨c,b,hk⟩
     .have hb:yan L R i=false:=by unfold yan zhp;rw [hk];simp
      rw [hk] at h40
      have hf:((0:Int)<=-1)=False:=eq_false (by omega)
      have qe:=aI qR (aI @hr (aI @hf @decide_false));have jA:=h40;have jB:=nm 133 (.b false);refine gE2 ?_
      all_goals exact ⟨i+1,⟨by omega,hnxt hb⟩,by omega,by simp⟩
     .have hlab:=hk.lab
      rw [hlab] at h40
      have hcl:c < R.length:=by have:=(xaa.1 hk.at_b).1;omega
      obtain ⟨q,hq⟩:=zj (l:=R) hcl
      have hrq:=zW hq
      have hf:((0:Int)<=(c:Int))=True:=eq_true (by omega)
      have hbq:yan L R i=((r.gr != q.gr) || (r.gr && !ze8 a b r.minute q.minute)):=by
       unfold yan zhp zyn grO
       rw [hlab]
       simp only [xam,hra,hrq,ha,hk.at_b,show ¬((c:Int) < 0) by omega,if_false,decide_false,xb5,show (0:Int)<=c by omega,decide_true,xaZ]
      have hb1:=hk.at_b
      cases hg:r.gr<;>cases hg2:q.gr
      .have hb:yan L R i=false:=by rw [hbq,hg,hg2];rfl
       have qe:=aI qR (aI @hr (aI @hq (aI @hg (aI @hg2 (aI @hf (aI @decide_true (aI @zb2 (aI @zio (aI @xaC @xax)))))))));have jA:=h40;have jB:=nm 133 (.b false);refine gE2 ?_
       all_goals exact ⟨i+1,⟨by omega,hnxt hb⟩,by omega,by simp⟩
      .have hb:=hbd ⟨i,hil,by rw [hbq,hg,hg2];rfl⟩
       have qe:=aI qR (aI @hr (aI @hq (aI @hg (aI @hg2 (aI @hf (aI @decide_true (aI @zb2 (aI @zio (aI @xaC @xax)))))))));have jA:=h40;have jB:=nm 133 (.b false);refine gE2 ?_
       all_goals (rw [hb];exact .refl _)
      .have hb:=hbd ⟨i,hil,by rw [hbq,hg,hg2];rfl⟩
       have qe:=aI qR (aI @hr (aI @hq (aI @hg (aI @hg2 (aI @hf (aI @decide_true (aI @zb2 (aI @zio (aI @xaC @xax)))))))));have jA:=h40;have jB:=nm 133 (.b false);refine gE2 ?_
       all_goals (rw [hb];exact .refl _)
      .have m1:=y7 (yN h ha) (hat i r a hr ha hg)
       have m2:=y7 (yN h hb1) (hat c q b hq hb1 hg2)
       have h33:=ybQ a b r.minute q.minute (by omega) (by omega) (λe e2=>hk.kind (e2.trans e.symm))
       cases hp:ze8 a b r.minute q.minute with
       | true=>
        have hb:yan L R i=false:=by rw [hbq,hg,hg2,hp];rfl
        rw [hp] at h33
        have qe:=aI qR (aI @hr (aI @hq (aI @hg (aI @hg2 (aI @hf (aI @ha (aI @hb1 (aI @decide_true (aI @zb2 (aI @zio (aI @xaC @xax)))))))))));have jA:=h40;have jB:=h33;refine gE2 ?_
        all_goals exact ⟨i+1,⟨by omega,hnxt hb⟩,by omega,by simp⟩
       | false=>
        have hb:=hbd ⟨i,hil,by rw [hbq,hg,hg2,hp];rfl⟩
        rw [hp] at h33
        have qe:=aI qR (aI @hr (aI @hq (aI @hg (aI @hg2 (aI @hf (aI @ha (aI @hb1 (aI @decide_true (aI @zb2 (aI @zio (aI @xaC @xax)))))))))));have jA:=h40;have jB:=h33;refine gE2 ?_
        all_goals (rw [hb];exact .refl _)
    .have e:i=R.length:=by omega
     subst e
     have hb:(zq L).any (zhp L R)=false:=by
      rw [yaA h R,Bool.eq_false_iff]
      intro hb
      obtain ⟨j,hj,hb⟩:=xaV.1 hb
      rw [hi.2 j (by rw [hn];exact xaG.1 hj)] at hb;cases hb
     rw [hsp,h0,hb]
     exact gD2
def yaZ (ls:List Lim) (L:List Wis) (R:List Res):Int:=zn [zJ ls,if zav L=0 then zc8 L R else zav L]
def lstE_0 (h:yaZ ls L R=0):zJ ls=0/\zav L=0/\zc8 L R=0:=by
 unfold yaZ at h;obtain ⟨h1,h2⟩:=zi.1 h;have h2:=(zi.1 h2).1
 by_cases hc:zav L=0
 .rw [if_pos hc] at h2;exact ⟨h1,hc,h2⟩
 .rw [if_neg hc] at h2;exact absurd h2 hc
def ybZ (ls:List Lim) (L:List Wis) (R:List Res):Pure prog 38 [.sl 11 (ls.map Lim.pv),.sl 18 (L.map Wis.pv),.sl 3 (R.map Res.pv)] (.i .i64 (yaZ ls L R)):=by
 have h23:=yah ls;have h21:=yY L;have h19:=yZ [zJ ls,zav L];refine pz func38 f38.eq_1 λhwf X hX=>?_
 by_cases h1:zJ ls=0
 .by_cases h2:zav L=0
  .have e:yaZ ls L R=zc8 L R:=by unfold yaZ;rw [h1,if_pos h2];simp [zn];intro k;exact k.symm
   have h0:=eq_true (show zn [zJ ls,zav L]=0 by rw [h1,h2];rfl)
   rw [e];have qe:=aI qR @h0;have jA:=h23;have jB:=h21;have jC:=h19;have jD:=ybX h2 R;exact gD5
  .have e:yaZ ls L R=zn [zJ ls,zav L]:=by unfold yaZ;rw [if_neg h2]
   have h0:=eq_false (show ¬zn [zJ ls,zav L]=0 from λk=>h2 (zi.1 (zi.1 k).2).1)
   rw [e];have qe:=aI qR @h0;have jA:=h23;have jB:=h21;have jC:=h19;exact gD5
 .have e:yaZ ls L R=zn [zJ ls,zav L]:=by unfold yaZ;rw [zlL h1,zlL h1]
  have h0:=eq_false (show ¬zn [zJ ls,zav L]=0 from λk=>h1 (zi.1 k).1)
  rw [e];have qe:=aI qR @h0;have jA:=h23;have jB:=h21;have jC:=h19;exact gD5
def yaF (ls:List Lim) (L:List Wis) (R:List Res):Pure prog 29 [.sl 11 (ls.map Lim.pv),.sl 18 (L.map Wis.pv),.sl 3 (R.map Res.pv)] (.i .i64 (zeY ls L R)):=by
 have h38:=ybZ ls L R;refine pz func29 f29.eq_1 λhwf X hX=>?_
 by_cases h0:yaZ ls L R=0
 .obtain ⟨h1,h2,h3⟩:=lstE_0 h0;have h0':=eq_true h0;obtain ⟨hn32,hls⟩:=zU h1;have hn64:=(zR h2).1;have h53:=ybW h2 (ycG h2 h3) L.length (-1);rw [yb5] at h53;have hpl:=ycV hn64 R λ_=>true
  have h59:=pure59 ls (zlk L R λ_=>true) hn32 hls (by omega)
  have ha:=y9 hls L R λ_=>true
  have e:zeY ls L R=if exB ls (zy ls ⟨[],[]⟩ (zlk L R λ_=>true) 1)=true then 14 else 0:=by unfold zeY;rw [if_pos h1,if_pos h2,if_pos h3]
  rw [e]
  by_cases hx:yw ls (zlk L R λ_=>true)=[]
  .rw [if_neg λk=>ha.1 k hx]
   rw [hx] at h59;have qe:=aI qR (aI @h0' (@List.map_nil.{0,0}));have jA:=h38;have jB:=h53;have jC:=h59;exact gD5
  .rw [if_pos (ha.2 hx)];have hp:0 < (yw ls (zlk L R λ_=>true)).length:=List.length_pos_iff.2 hx
   have hp':((0:Int) < ((yw ls (zlk L R λ_=>true)).length:Int))=True:=eq_true (by omega)
   have qe:=aI qR (aI @h0' @hp');have jA:=h38;have jB:=h53;have jC:=h59;exact gD5
 .have h0':=eq_false h0;have e:zeY ls L R=yaZ ls L R:=by
   unfold zeY yaZ;unfold yaZ at h0
   by_cases h1:zJ ls=0
   .rw [if_pos h1,h1]
    by_cases h2:zav L=0
    .rw [if_pos h2,if_pos h2]
     by_cases h3:zc8 L R=0
     .rw [h1,if_pos h2,h3] at h0;exact absurd rfl h0
     .rw [if_neg h3];simp [zn]
    .rw [if_neg h2,if_neg h2];simp [zn]
   .rw [if_neg h1,zlL h1]
  rw [e];have qe:=aI qR @h0';have jA:=h38;exact gD2
def ycZ (hk:zau L i=-1) (ho:o ∈ zaS L ((i:Int),zau L i)):o.2=-1:=by
 unfold zaS at ho;simp only [xam,hk] at ho;cases ha:L[i]? with
 | none=>rw [ha] at ho;cases ho
 | some a=>
  rw [ha] at ho;simp only [] at ho;rw [if_pos (by omega)] at ho
  obtain ⟨m,_,rfl⟩:=xaN.1 ho
  rfl
def yaq (h:zav L=0) (ha:L[i]?=some a) (ho:o ∈ zaS L ((i:Int),zau L i)):o.1 ∈ zac a/\∀ k b,LnkTo L i k a b->o.2 ∈ zac b/\ze8 a b o.1 o.2=true:=by
 unfold zaS at ho;simp only [xam,ha] at ho
 rcases zcH h ha with hk|⟨k,b,hk⟩
 .rw [if_pos (by omega)] at ho
  obtain ⟨m,hm,rfl⟩:=xaN.1 ho;exact ⟨hm,λk b hk2=>by have:=hk2.lab;omega⟩
 .rw [hk.lab] at ho;simp only [xam,hk.at_b] at ho;rw [if_neg (by omega)] at ho
  have ho:=(zhs _ _).mem_iff.1 ho;obtain ⟨x,hx,ho⟩:=xaw.1 ho;obtain ⟨y,hy,ho⟩:=xaw.1 ho
  split at ho
  .rename_i hp;rw [xaX] at ho;subst ho;refine ⟨hx,λk2 b2 hk2=>?_⟩
   have e1:=hk.lab;have e2:=hk2.lab;have e:k2=k:=by omega
   subst e;have e3:=hk.at_b;rw [hk2.at_b] at e3;injection e3 with e3;subst e3;exact ⟨hy,hp⟩
  .cases ho
section
variable {ls:List Lim} {L:List Wis} {F:Unt->List Opt}
def OwnF (L:List Wis) (F:Unt->List Opt):Prop:=∀ i,i < L.length->(zau L i < 0\/(i:Int) < zau L i)->∀ o ∈ F ((i:Int),zau L i),o ∈ zaS L ((i:Int),zau L i)
def yaK (L:List Wis):OwnF L (zaS L):=λ_ _ _ _ h=>h
theorem yU (ls:List Lim) (L:List Wis) (F:Unt->List Opt):∀ k,(zh6 ls L F k).length=L.length
 | 0=>by unfold zh6 zbU;simp
 | k+1=>by
  rw [yC];unfold srvI
  split
  .split
   .rw [zib];exact yU ls L F k
   .exact yU ls L F k
  .exact yU ls L F k
def yae (ls:List Lim) (L:List Wis) (F:Unt->List Opt):(zh6 ls L F L.length).length=L.length:=yU ls L F L.length
def yaV (h:zav L=0) (hj:j < L.length):za5 (zh6 ls L F L.length) j=ya9 L j (zY L j) (y5 ls L F (zY L j)):=zW (ybd h _ hj)
def gr_is (h:zav L=0) (hO:OwnF L F) (hi:i < L.length) (hu:zau L i < 0\/(i:Int) < zau L i):grB (zh6 ls L F L.length) ((i:Int),zau L i)=(y5 ls L F i).isSome/\∀ o,y5 ls L F i=some o->grO (zh6 ls L F L.length) ((i:Int),zau L i)=o:=by
 have e:=yaV (ls:=ls) (F:=F) h hi;rw [zj4 hu] at e;refine ⟨?_,λo ho=>?_⟩
 .unfold grB;rw [xam,e];cases y5 ls L F i<;>rfl
 .rw [ho] at e;unfold grO;rw [xam,e];obtain ⟨a,ha⟩:=zj hi
  rcases zcH h ha with hk|⟨k,b,hk⟩
  .have ho2:=ycZ hk (hO i hi hu _ (List.mem_of_find?_eq_some ho));rw [hk,if_pos (by omega)]
   unfold ya9;simp only [if_pos];rw [<-ho2]
  .have hlab:=hk.lab;have hkl:=(xaa.1 hk.at_b).1;have hik:i < k:=by omega
   have e2:=yaV (ls:=ls) (F:=F) h hkl;rw [zqW hk hik,ho] at e2;rw [hlab,if_neg (by omega),xam,e2]
   unfold ya9;simp only [if_pos];rw [if_neg (by omega)]
def ybe (h:zav L=0) (hO:OwnF L F):zc8 L (zh6 ls L F L.length)=0:=by
 have hn:=yae ls L F;unfold zc8;rw [if_neg (by omega)]
 have hopt:∀ {i:Nat} {o:Opt},i < L.length->(zau L i < 0\/(i:Int) < zau L i)->y5 ls L F i=some o->o ∈ zaS L ((i:Int),zau L i):=λhi hu ho=>hO _ hi hu _ (List.mem_of_find?_eq_some ho)
 have h1:zn ((zh6 ls L F L.length).mapIdx (zkH L))=0:=by
  refine zbj λx hx=>?_
  obtain ⟨j,hj⟩:=xbl.1 (xbu hx);rw [xcp] at hj;obtain ⟨r,hr,rfl⟩:=xab.1 hj;have hjl:j < L.length:=by have:=(xaa.1 hr).1;omega
  obtain ⟨w,hw⟩:=zj hjl;rw [ybd h _ hjl] at hr;injection hr with hr;subst hr;have hnm:nmW L j=w.req.name:=by unfold nmW;rw [hw]
  unfold zkH;rw [hw];simp only [];cases hf:y5 ls L F (zY L j) with
  | none=>unfold ya9 zfy;simp [hnm,zn]
  | some o=>
   have hle:=yf L j;have hld:zau L (zY L j) < 0\/((zY L j:Nat):Int) < zau L (zY L j):=by
    rcases zfZ h hjl with ⟨a,b⟩|⟨i,a,b,hk,hij,hl,hlt⟩
    .rw [a];exact b
    .rw [hl];exact .inr hlt
   have ho:=hopt (by omega) hld hf
   have hm:(if j=zY L j then o.1 else o.2) ∈ zac w:=by
    rcases zfZ h hjl with ⟨a,b⟩|⟨i,a,b,hk,hij,hl,hlt⟩
    .rw [if_pos a.symm];rw [a] at ho;exact (yaq h hw ho).1
    .rw [hl,if_neg (by omega)]
     rw [hl] at ho;have hw2:=hk.at_a;rw [hw] at hw2;injection hw2 with hw2;subst hw2;exact ((yaq h hk.at_b ho).2 j w hk.sw).1
   unfold ya9 zfy;simp [hnm,zn,hm]
 have h2:(zq L).any (zhp L (zh6 ls L F L.length))=false:=by
  rw [Bool.eq_false_iff];intro hx;obtain ⟨u,hu,hb⟩:=xaV.1 hx;obtain ⟨i,hi,rfl,hlk⟩:=zdd.1 hu;obtain ⟨a,ha⟩:=zj hi
  rcases zcH h ha with hk|⟨k,b,hk⟩
  .unfold zhp at hb;rw [hk] at hb;simp at hb
  .have hlab:=hk.lab;have hkl:=(xaa.1 hk.at_b).1;have hik:i < k:=by omega
   obtain ⟨g1,g2⟩:=gr_is (ls:=ls) h hO hi hlk;have e1:=yaV (ls:=ls) (F:=F) h hi;rw [zj4 hlk] at e1;have e2:=yaV (ls:=ls) (F:=F) h hkl;rw [zqW hk hik] at e2;unfold zhp zyn at hb;rw [hlab] at hb g2;simp only [xam,ha,hk.at_b,show ¬((k:Int) < 0) by omega,decide_false,xb5,show (0:Int)<=k by omega,decide_true,xaZ] at hb
   cases hf:y5 ls L F i with
   | none=>
    rw [hf] at e1 e2;rw [e1,e2] at hb;simp [ya9] at hb
   | some o=>
    have hp:=((yaq h ha (hopt hi hlk hf)).2 k b hk).2;rw [g2 o hf] at hb;rw [hf] at e1 e2;rw [e1,e2] at hb;simp [ya9,hp] at hb
 rw [h1,h2];rfl
def sr_cnt (hl:∀ l ∈ ls,zr l=0) (h:zav L=0) (hO:OwnF L F) {l:Lim} (hn:ls[n]?=some l) {b:Int} (hb:b ∈ zaq l):∀ i,i<=L.length->zbb l (zbL L (zh6 ls L F L.length) λj=>decide (zY L j < i)) b<=l.most:=by
 have h0:=zaa (hl l (xae hn));intro i
 induction i with
 | zero=>
  intro _;rw [zmH λj _=>decide_eq_false (by omega),zbJ (by omega)]
  simp;omega
 | succ i ih=>
  intro hi;have ih:=ih (by omega)
  have hor:=zqw (L:=L) (R:=zh6 ls L F L.length) (f:=λj=>decide (zY L j < i)) (g:=λj=>decide (zY L j=i)) (h:=λj=>decide (zY L j < i+1)) (λj h1 h2=>by
   have h1:=of_decide_eq_true h1;have h2:=of_decide_eq_true h2
   omega) (λj=>by
   by_cases h1:zY L j < i
   .rw [decide_eq_true h1,decide_eq_true (show zY L j < i+1 by omega)];rfl
   .rw [decide_eq_false h1,xb5];exact decide_eq_decide.2 (by omega))
  rw [zng (by omega) hor,zrR (by omega)]
  by_cases hu:zau L i < 0\/(i:Int) < zau L i
  .rw [zng (by omega) (zpl h (ybe (ls:=ls) h hO) (by omega) hu)]
   obtain ⟨g1,g2⟩:=gr_is (ls:=ls) h hO (show i < L.length by omega) hu
   unfold unM;rw [g1];cases hf:y5 ls L F i with
   | none=>
    rw [if_neg (by simp),zbJ (by omega) b []]
    simp;exact ih
   | some o=>
    rw [if_pos (show (some o).isSome=true from rfl),g2 o hf]
    have hfit:fitX ls L (zbL L (zh6 ls L F i) λj=>decide (zY L j < i)) ((i:Int),zau L i) o=true:=by
     have:=List.find?_some hf;exact this
    rw [<-yac h F (by omega)] at hfit
    unfold fitX at hfit;rw [List.isEmpty_iff] at hfit
    by_cases hc:0 < zbb l (zan L ((i:Int),zau L i) o) b
    .refine xbC λhh=>?_
     have:((n,b):Ky) ∈ xrW ls ((zbL L (zh6 ls L F L.length) λj=>decide (zY L j < i))++zan L ((i:Int),zau L i) o) (zan L ((i:Int),zau L i) o):=zhY.2 ⟨l,hn,hb,(by show l.most < zbb l (_++_) b;rw [zrR (by omega)];omega),hc⟩
     rw [hfit] at this;cases this
    .omega
  .rw [zmH (f:=λj=>decide (zY L j=i)) λj hj=>decide_eq_false λe=>by
    rcases zfZ h hj with ⟨a,b⟩|⟨i2,a,b,hk,hij,hl2,hlt⟩
    .rw [a] at e;subst e;exact hu b
    .rw [hl2] at e;subst e;exact hu (.inr hlt),zbJ (by omega) b []]
   simp;exact ih
def yco (h1:zJ ls=0) (h:zav L=0) (hO:OwnF L F):zeY ls L (zh6 ls L F L.length)=0:=by
 have hl:=(zU h1).2;unfold zeY;rw [if_pos h1,if_pos h,if_pos (ybe (ls:=ls) h hO)];refine if_neg λhx=>?_
 have hne:=(y9 hl L _ λ_=>true).1 hx
 refine hne (yax.2 λl hlm b hb=>?_)
 have h0:=zaa (hl l hlm);obtain ⟨n,hn⟩:=xbl.1 hlm;rw [zng (by omega) (zgx L _ _)]
 have:=sr_cnt hl h hO hn hb L.length (xap _);have e:zbL L (zh6 ls L F L.length) (λj=>decide (zY L j < L.length))=zbL L (zh6 ls L F L.length) λ_=>true:=by
  refine zez λi r hr _=>?_
  have hi:=(xaa.1 hr).1;rw [yae ls L F] at hi;have:=yf L i;exact decide_eq_true (by omega)
 rw [e] at this;exact this
end
def ycY (h:zav L=0) (hr:zc8 L R=0):OwnF L (wdF R):=λi hi hu o ho=>by
 unfold wdF at ho
 split at ho
 .rename_i hg;rw [xaX] at ho;subst ho;exact zBw h hr (zdd.2 ⟨i,hi,rfl,hu⟩) hg
 .cases ho
def wd_has (h:y5 ls L (wdF R) i=some o):grB R ((i:Int),zau L i)=true/\o=grO R ((i:Int),zau L i):=by
 have:=List.mem_of_find?_eq_some h;unfold wdF at this
 split at this
 .rename_i hg;exact ⟨hg,xaX.1 this⟩
 .cases this
def wd_min (h:zav L=0) (hr:zc8 L R=0) (hj:j < L.length) (hg:(za5 (zh6 ls L (wdF R) L.length) j).gr=true):(za5 R j).gr=true/\(za5 (zh6 ls L (wdF R) L.length) j).minute=(za5 R j).minute:=by
 have e:=yaV (ls:=ls) (F:=wdF R) h hj;have hle:=yf L j;rw [e] at hg ⊢;cases hf:y5 ls L (wdF R) (zY L j) with
 | none=>rw [hf] at hg;cases hg
 | some o=>
  obtain ⟨g1,g2⟩:=wd_has hf;unfold ya9;simp only []
  rcases zfZ h hj with ⟨a,b⟩|⟨i,a,b,hk,hij,hl,hlt⟩
  .rw [if_pos a.symm];rw [a] at g1 g2;unfold grB at g1;rw [xam] at g1;refine ⟨g1,?_⟩;rw [g2];unfold grO;rw [xam]
  .rw [if_neg (by omega)]
   rw [hl] at g1 g2;have hlb:=hk.lba;have hbad:yan L R i=false:=by
    have h5:(List.range L.length).any (yan L R)=false:=by
     rw [<-yaA h R,Bool.eq_false_iff];intro hx;obtain ⟨u,hu,hx⟩:=xaV.1 hx;rw [(zbZ hr).2.2 u hu] at hx;cases hx
    rw [List.any_eq_false] at h5;simpa using h5 i (xaG.2 (by omega))
   unfold grB at g1;unfold grO at g2;rw [xam] at g1;rw [hlb,if_neg (by omega),xam,xam] at g2
   refine ⟨?_,by rw [g2]⟩
   cases hq:(za5 R j).gr
   .exfalso
    unfold yan zhp at hbad;rw [hlb] at hbad;simp only [xam,g1,hq,show (0:Int)<=j by omega,decide_true,xaZ] at hbad
    cases hbad
   .rfl
def ydi (hx:zeY ls L R=0) {l:Lim} (hlm:l ∈ ls) {b:Int} (hb:b ∈ zaq l):zbb l (zbL L R λ_=>true) b<=l.most:=by
 obtain ⟨h1,h2,h3⟩:=zkA hx;have hl:=(zU h1).2;have h0:=zaa (hl l hlm);unfold zeY at hx;rw [if_pos h1,if_pos h2,if_pos h3] at hx;have hn:yw ls (zlk L R λ_=>true)=[]:=xbC λk=>by
  rw [if_pos ((y9 hl L R λ_=>true).2 k)] at hx;cases hx
 have:=yax.1 hn l hlm b hb;rw [zng (by omega) (zgx L R _)] at this
 exact this
def wd_fit (hx:zeY ls L R=0) (hi:i < L.length) (hu:zau L i < 0\/(i:Int) < zau L i) (hg:grB R ((i:Int),zau L i)=true) (hs:∀ j,j < L.length->zY L j < i->(zh6 ls L (wdF R) L.length)[j]?=R[j]?):y5 ls L (wdF R) i=some (grO R ((i:Int),zau L i)):=by
 obtain ⟨h1,h,h3⟩:=zkA hx;have hl:=(zU h1).2;have hA:(zbL L (zh6 ls L (wdF R) i) λj=>decide (zY L j < i))=zbL L R λj=>decide (zY L j < i):=by
  rw [<-yac h (wdF R) (Nat.le_of_lt hi)];unfold zbL;refine y6 λj hj=>?_
  have hj:=xaG.1 hj
  by_cases hlt:zY L j < i
  .unfold zeA;rw [hs j hj hlt]
  .have hf:decide (zY L j < i)=false:=decide_eq_false hlt;unfold zeA;simp only [hf,Bool.and_false,xaD,if_false];cases (zh6 ls L (wdF R) L.length)[j]?<;>cases R[j]?<;>rfl
 have hfit:fitX ls L (zbL L R λj=>decide (zY L j < i)) ((i:Int),zau L i) (grO R ((i:Int),zau L i))=true:=by
  unfold fitX;rw [List.isEmpty_iff];cases hW:xrW ls ((zbL L R λj=>decide (zY L j < i))++zan L ((i:Int),zau L i) (grO R ((i:Int),zau L i))) (zan L ((i:Int),zau L i) (grO R ((i:Int),zau L i))) with
  | nil=>rfl
  | cons w W=>
   exfalso
   have hw:w ∈ xrW ls ((zbL L R λj=>decide (zY L j < i))++zan L ((i:Int),zau L i) (grO R ((i:Int),zau L i))) (zan L ((i:Int),zau L i) (grO R ((i:Int),zau L i))):=by rw [hW];simp
   obtain ⟨l,a,b,c,d⟩:=zhY.1 hw;have hlm:=xae a;have h0:=zaa (hl l hlm);have ht:=ydi hx hlm b;have o1:=zqw (L:=L) (R:=R) (f:=λj=>decide (zY L j < i)) (g:=λj=>decide (i<=zY L j)) (h:=λ_=>true) (λj h1 h2=>by
    have h1:=of_decide_eq_true h1;have h2:=of_decide_eq_true h2
    omega) (λj=>by
    by_cases h1:zY L j < i
    .rw [decide_eq_true h1];rfl
    .rw [decide_eq_true (show i<=zY L j by omega),Bool.or_true])
   have o2:=zqw (L:=L) (R:=R) (f:=λj=>decide (zY L j=i)) (g:=λj=>decide (i < zY L j)) (h:=λj=>decide (i<=zY L j)) (λj h1 h2=>by
    have h1:=of_decide_eq_true h1;have h2:=of_decide_eq_true h2
    omega) (λj=>by
    by_cases h1:zY L j=i
    .rw [decide_eq_true h1,decide_eq_true (show i<=zY L j by omega)];rfl
    .rw [decide_eq_false h1,xb5];exact decide_eq_decide.2 (by omega))
   rw [zng (by omega) o1,zrR (by omega),zng (by omega) o2,zrR (by omega),zng (by omega) (zpl h h3 hi hu)] at ht
   unfold unM at ht;rw [if_pos hg] at ht;rw [zrR (by omega)] at c
   have:=zbJ (l:=l) (by omega) w.2 (zbL L R λj=>decide (i < zY L j))
   omega
 unfold y5;rw [hA];unfold wdF;rw [if_pos hg,List.find?_cons,hfit]
def ycD (hx:zeY ls L R=0):zh6 ls L (wdF R) L.length=R:=by
 obtain ⟨h1,h,hr⟩:=zkA hx;obtain ⟨hn,hE,hB⟩:=zbZ hr;have key:∀ i,i<=L.length->∀ j,j < L.length->zY L j < i->(zh6 ls L (wdF R) L.length)[j]?=R[j]?:=by
  intro i
  induction i with
  | zero=>intro _ j _ hj;omega
  | succ i ih=>
   intro hi j hj hlt;have ih:=ih (by omega)
   by_cases hl:zY L j < i
   .exact ih j hj hl
   .have hli:zY L j=i:=by omega
    obtain ⟨r,hr1⟩:=zj (l:=R) (i:=j) (by omega)
    obtain ⟨w,hw⟩:=zj hj;have hra:=zW hr1;have hnm:=nm_res hr hj;rw [hra] at hnm;have hE1:=hE j w hw;rw [hra] at hE1;have hz:=(zdz hE1).2.2;have hu:zau L i < 0\/(i:Int) < zau L i:=by
     rcases zfZ h hj with ⟨a,b⟩|⟨i2,a,b,hk,hij,hl2,hlt2⟩
     .rw [a] at hli;subst hli;exact b
     .rw [hl2] at hli;subst hli;exact .inr hlt2
    have hbu:=hB _ (zdd.2 ⟨i,by omega,rfl,hu⟩)
    rw [ybd h _ hj,hr1,hli]
    congr 1
    have hgo:r.gr=grB R ((i:Int),zau L i)/\(r.gr=true->r.minute=if j=i then (grO R ((i:Int),zau L i)).1 else (grO R ((i:Int),zau L i)).2):=by
     unfold grB grO;rw [xam]
     rcases zfZ h hj with ⟨a,b⟩|⟨i2,a,b,hk,hij,hl2,hlt2⟩
     .have e:j=i:=by omega
      subst e;rw [hra,if_pos rfl];exact ⟨rfl,λ_=>rfl⟩
     .have e:i2=i:=by omega
      subst e;have hlb:=hk.lba;rw [hlb,if_neg (by omega),if_neg (by omega),xam,hra]
      refine ⟨?_,λ_=>rfl⟩
      unfold zhp at hbu;rw [hlb] at hbu;simp only [xam,hra,show (0:Int)<=j by omega,decide_true,xaZ,xbo] at hbu
      have hb1:=hbu.1
      revert hb1
      cases r.gr<;>cases (za5 R i2).gr<;>simp
    cases hg:grB R ((i:Int),zau L i) with
    | true=>
     rw [wd_fit hx (by omega) hu hg ih]
     rw [hg] at hgo;have hm:=hgo.2 hgo.1;unfold ya9;simp only [];rw [<-hm,<-hnm,<-hgo.1]
    | false=>
     have hf:y5 ls L (wdF R) i=none:=by
      unfold y5 wdF;rw [if_neg (by rw [hg];decide)];rfl
     rw [hf];rw [hg] at hgo;unfold ya9;simp only [];rw [<-hnm,<-hz hgo.1,<-hgo.1]
 refine xco λj=>?_
 by_cases hj:j < L.length
 .exact key L.length (xap _) j hj (by have:=yf L j;omega)
 .rw [xck (by rw [yae ls L (wdF R)];omega),xck (by omega)]
def yc1 {r:Req} (h:zbY r=0):zfi (zbF r)=0:=by
 have hp:=zaI (zeR h).1;unfold zbF;rw [if_pos h];refine zoT ?_ (λx hx=>?_) ?_
 .have:=zeN r.per;simp only [zhk,xaf];omega
 .obtain ⟨d,hd,rfl⟩:=zuA hx;exact zks h hd
 .unfold zhk;refine (xca).2 ((zlW r.per).imp fun {a b} hab=>?_)
  simp only [zj0];omega
def ycz (hl:∀ l ∈ ls,zr l=0) (m:List Mov):(xrW ls m m).isEmpty=true↔yw ls m=[]:=by
 rw [List.isEmpty_iff,yax]
 constructor
 .intro h l hm b hb;obtain ⟨n,hn⟩:=xbl.1 hm;have h0:=zaa (hl l hm);refine xbC λk=>?_
  have:((n,b):Ky) ∈ xrW ls m m:=zhY.2 ⟨l,hn,hb,(by show l.most < zbb l m b;omega),(by show 0 < zbb l m b;omega)⟩
  rw [h] at this;cases this
 .intro h;cases hW:xrW ls m m with
  | nil=>rfl
  | cons w W=>
   exfalso
   have hw:w ∈ xrW ls m m:=by rw [hW];simp
   obtain ⟨l,a,b,c,d⟩:=zhY.1 hw;have:=h l (xae a) w.2 b
   omega
def ycb {os:List Lim} (h1:zJ os=0) (h:zav L=0) (hr:zc8 L R=0) (hw:L[0]?=some w) (hk:zau L 0 < 0) (hg:(za5 R 0).gr=true) :
  (za5 (zh6 os L (wdF R) L.length) 0).gr=decide (yc6 os (zbF (w.req.at (za5 R 0).minute))=7):=by
 have hn:0 < L.length:=(xaa.1 hw).1;have hl:=(zU h1).2;have e:=yaV (ls:=os) (F:=wdF R) h hn;have hle:=yf L 0;rw [show zY L 0=0 by omega] at e
 rw [e];have hm:=(zdz ((zbZ hr).2.1 0 w hw)).2.1 hg;have hwe:=(zi.1 ((zR h).2 0 w hw).1).1;have hrg:=y7 hwe hm;have hq:=yam (yba h hw) hrg.1 hrg.2;have hp:zbL L (zh6 os L (wdF R) 0) (λj=>decide (zY L j < 0))=[]:=zmH λj _=>decide_eq_false (by omega)
 have ho:zan L (((0:Nat):Int),zau L 0) (grO R (((0:Nat):Int),zau L 0))=zbF (w.req.at (za5 R 0).minute):=by
  unfold zan zfB grO;simp only [xam,hw,if_pos hk,xar]
 have hF:wdF R (((0:Nat):Int),zau L 0)=[grO R (((0:Nat):Int),zau L 0)]:=by
  unfold wdF;rw [if_pos (show grB R (((0:Nat):Int),zau L 0)=true from hg)]
 have hb:bothC os (zbF (w.req.at (za5 R 0).minute))=0:=zi.2 ⟨h1,zi.2 ⟨yc1 hq,rfl⟩⟩;have hf:fitX os L (zbL L (zh6 os L (wdF R) 0) λj=>decide (zY L j < 0)) (((0:Nat):Int),zau L 0) (grO R (((0:Nat):Int),zau L 0))=(xrW os (zbF (w.req.at (za5 R 0).minute)) (zbF (w.req.at (za5 R 0).minute))).isEmpty:=by
  unfold fitX;rw [hp,ho,xaL]
 have hx:=ycz hl (zbF (w.req.at (za5 R 0).minute));have hfnd:y5 os L (wdF R) 0=if (xrW os (zbF (w.req.at (za5 R 0).minute)) (zbF (w.req.at (za5 R 0).minute))).isEmpty=true then some (grO R (((0:Nat):Int),zau L 0)) else none:=by
  unfold y5;rw [hF,List.find?_cons,hf];cases (xrW os (zbF (w.req.at (za5 R 0).minute)) (zbF (w.req.at (za5 R 0).minute))).isEmpty<;>rfl
 unfold yc6;rw [if_pos hb,hfnd]
 by_cases hE:yw os (zbF (w.req.at (za5 R 0).minute))=[]
 .rw [if_pos (hx.2 hE),hE];rfl
 .rw [if_neg (λk=>hE (hx.1 k))]
  cases hc:yw os (zbF (w.req.at (za5 R 0).minute)) with
  | nil=>exact absurd hc hE
  | cons a r=>rfl
