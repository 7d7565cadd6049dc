/- Contracts of functions, for the claim. No conditions. -/
import Derived.Test.YtijgimeokgbifaaGreatRows
import Derived.Test.YtijgimeokgbifaaGreatB1
set_option linter.all false
set_option maxHeartbeats 8000000
set_option maxRecDepth 100000
namespace Go.Proofs.YtijgimeokgbifaaGreat
open Go.RowKit Go.Proofs.Tryz
theorem yex {n:ByteArray}:∀ {l:List ByteArray},¬atL n l < 0->l[(atL n l).toNat]?=some n
 | [],h=>absurd (show atL n [] < 0 by simp [atL]) h
 | x::r,h=>by
  simp only [atL] at h ⊢
  split
  .rename_i e;simp [e]
  .rename_i e;rw [if_neg e] at h
   split
   .rename_i k;rw [if_pos k] at h;omega
   .rename_i k;have h2:=yex (l:=r) k;have h3:(atL n r+1).toNat=(atL n r).toNat+1:=by omega
    rw [h3];simpa using h2
def yaz {b:Bk} {n:ByteArray} (h:¬atL n (b.slots.map (·.req.name)) < 0):(b.slots.map (·.req.name))[zx b n]?=some n:=yex h
def yaY {b:Bk} {n m:ByteArray} (h:¬atL n (b.slots.map (·.req.name)) < 0) (k:¬atL m (b.slots.map (·.req.name)) < 0):zx b n=zx b m↔n=m:=
 ⟨λe=>by have h1:=yaz h;have h2:=yaz k;rw [e,h2] at h1;exact (xaM h1).symm,λe=>by rw [e]⟩
theorem ya2 (b:Bk) (N:List ByteArray):∀ k,(zrj b N k).length=b.slots.length
 | 0=>rfl
 | k+1=>by simp [zrj,ya2 b N k]
def ybI (b:Bk) (N:List ByteArray) (hb:zfy b) (hN:∀ n ∈ N,¬atL n (b.slots.map (·.req.name)) < 0) (hn:N.length<=1000) :
  Pure prog 110 [b.pv,.sl 1 ((N.map λn=>(zx b n:Int)).map (.i .i64))] (.tup [(zlM b N).pv,.i .i64 (zeg b N)]):=by
 obtain ⟨hs,hn1,hwl⟩:=hb
 have hok:zfy b:=⟨hs,hn1,hwl⟩
 refine zar (r:=if zeg b N=0 then .tup [.agg [.sl 16 ((zrj b N N.length).map Slt.pv),.sl 14 (b.wait.map Wsh.pv)],.i .i64 0] else .tup [.agg [.nilsl,.nilsl],.i .i64 (zeg b N)]) ?_ ?_
 .refine pz func110 f110.eq_1 λhw X hX=>?_
  generalize hA:(N.map λn=>(zx b n:Int))=A
  have hAl:A.length=N.length:=by rw [<-hA,xaf]
  have hAt:∀ {i:Nat} {x:ByteArray},N[i]?=some x->A[i]?=some (zx b x:Int):=λh=>by rw [<-hA,xah,h];rfl
  generalize hH:zeT b N=Hs
  have hHl:Hs.length=N.length:=by rw [<-hH,zeT];simp
  have hHt:∀ {i:Nat} {x:ByteArray},N[i]?=some x->Hs[i]?=some (zn b x).holder:=λh=>by rw [<-hH,zeT];simp [h]
  have qe:=@qR;repeat' first|refine gC ?_ ?_<;>intro hc<;>try contradiction|refine gG ?_|show AK _;intro J Z|refine gJ ?_|omega|exact aT
  refine zi (κ:=Nat) (λi=>⟨[(1,.p (.sl 1 (A.map (.i .i64)))),(2,.lp 2 0),(4,.lp 4 0),(6,.p .nilsl),(7,.p (.i .i64 i))],[(2,.box [.p (.sl 16 (b.slots.map Slt.pv)),.p (.sl 14 (b.wait.map Wsh.pv))] false),(4,.box [.p .nilsl,.p .nilsl] false)],[],false⟩) (λi=>i<=N.length/\∀ s ∈ (N.map (zn b)).take i,decide (0 < (s.ls.length:Int))=false) (λi=>N.length - i) 0 ?_ ?_ ?_
  .exact sS
  .simp
  .intro i hi
   repeat first|refine gG ?_|show AK _;intro J Z|refine gJ ?_|omega|exact aT
   (refine gC ?_ ?_<;>intro hc<;>try contradiction)
   .obtain ⟨x,hx⟩:=zm (i:=i) (l:=N) (by omega)
    obtain ⟨hsl,hfi,hlt⟩:=zcH (hN x (xad hx))
    have ha:=hAt hx
    have hm:(N.map (zn b))[i]?=some (zn b x):=by rw [xah,hx];rfl
    have qe:=aI qR (aI @ha (aI @hsl @hAl));repeat' first|refine gC ?_ ?_<;>intro hc<;>try contradiction|refine gG ?_|show AK _;intro J Z|refine gJ ?_|omega|exact aT
    .have hp:zku b N=true:=by rw [zku,xbl];exact ⟨_,xad hm,decide_eq_true hc⟩
     have e:zeg b N=19:=by rw [zeg,za1 (by rw [if_pos hp];omega),if_pos hp]
     rw [e,if_neg (by omega)];exact .refl _
    .exact ⟨i+1,⟨by omega,zgq hi.2 hm (decide_eq_false (by omega))⟩,by omega,by simp⟩
   .have e:i=N.length:=by omega
    subst e
    have hp:zku b N=false:=by
     rw [zku,xcm];intro s hs
     have:=hi.2 s (by rw [xag (by simp)];exact hs)
     rw [this];exact xbi
    have hE:zeg b N=zf (Hs.mapIdx (zs5 Hs)):=by rw [zeg,if_neg (by rw [hp];exact xbi),za2 rfl,zfj,hH]
    have qe:=@qR;repeat' first|refine gC ?_ ?_<;>intro hc<;>try contradiction|refine gG ?_|show AK _;intro J Z|refine gJ ?_|omega|exact aT
    refine zaO 100 9 1 [(1,.p (.sl 1 (A.map (.i .i64)))),(2,.lp 2 0),(4,.lp 4 0),(6,.row 100 0),(8,.p (.i .i64 0))] [(2,.box [.p (.sl 16 (b.slots.map Slt.pv)),.p (.sl 14 (b.wait.map Wsh.pv))] false),(4,.box [.p .nilsl,.p .nilsl] false)] ?_ ?_
    .simp only [Own,zaL,zaA,zbr,zax,qS,seval]
    refine zi (κ:=Nat) (λi=>⟨[(1,.p (.sl 1 (A.map (.i .i64)))),(2,.lp 2 0),(4,.lp 4 0),(6,.row 100 (Hs.take i).length),(8,.p (.i .i64 i))],[(2,.box [.p (.sl 16 (b.slots.map Slt.pv)),.p (.sl 14 (b.wait.map Wsh.pv))] false),(4,.box [.p .nilsl,.p .nilsl] false),(100,.row 9 1 ((Hs.take i).map .s) false)],[],false⟩) (λi=>i<=N.length/\∀ x ∈ (Hs.mapIdx (zs5 Hs)).take i,x=0) (λi=>N.length - i) 0 ?_ ?_ ?_
    .exact sS
    .simp
    .intro i hi
     repeat first|refine gG ?_|show AK _;intro J Z|refine gJ ?_|omega|exact aT
     (refine gC ?_ ?_<;>intro hc<;>try contradiction)
     .obtain ⟨x,hx⟩:=zm (i:=i) (l:=N) (by omega)
      obtain ⟨hsl,hfi,hlt⟩:=zcH (hN x (xad hx))
      have ha:=hAt hx
      have hh:=hHt hx
      have hlt2:=zgr hh
      by_cases hd:0<=atL (zn b x).holder (Hs.take i)
      .have hdE:zs5 Hs i (zn b x).holder=31:=if_pos hd
       have hF:zeg b N=31:=by rw [hE,zT hi.2 (zI hh) (by rw [hdE];decide),hdE]
       have hd':=eq_true hd
       rw [hF,if_neg (by omega)]
       have qe:=aI qR (aI @ha (aI @hsl (aI @hAl (aI @hd' @decide_true))));have jA:=yu (Hs.take i) (zn b x).holder;exact gD2
      .have hdE:zs5 Hs i (zn b x).holder=0:=if_neg hd
       have hd':=eq_false hd
       have qe:=aI qR (aI @ha (aI @hsl (aI @hAl (aI @hd' @decide_false))));repeat' first|refine gC ?_ ?_<;>intro hc<;>try contradiction|refine za (yu (Hs.take i) (zn b x).holder) ?_|refine gG ?_|show AK _;intro J Z|refine gJ ?_|omega|exact aT
       all_goals exact ⟨i+1,⟨by omega,zaB hi.2 (zI hh) hdE⟩,by omega,⟨by rw [zam hh,xae];rfl,by simp⟩,by rw [zam hh,xaO];rfl⟩
     .have hF:zeg b N=0:=by
       have e:i=(Hs.mapIdx (zs5 Hs)).length:=by simp;omega
       rw [hE];subst e;exact z4 hi.2
      have e2:Hs.take i=Hs:=xag (by omega)
      rw [hF,if_pos rfl,e2]
      have qe:=@qR;repeat' first|refine gC ?_ ?_<;>intro hc<;>try contradiction|refine gG ?_|show AK _;intro J Z|refine gJ ?_|omega|exact aT
      refine zi (κ:=Nat) (λk=>⟨[(1,.p (.sl 1 (A.map (.i .i64)))),(2,.lp 2 0),(4,.lp 4 0),(6,.row 100 Hs.length),(9,.lp 9 0),(10,.p (.i .i64 k))],[(2,.box [.p (.sl 16 (b.slots.map Slt.pv)),.p (.sl 14 (b.wait.map Wsh.pv))] false),(4,.box [.p .nilsl,.p .nilsl] false),(9,.box [.p (.sl 16 ((zrj b N k).map Slt.pv)),.p (.sl 14 (b.wait.map Wsh.pv))] false),(100,.row 9 1 (Hs.map .s) false)],[],false⟩) (λk=>k<=N.length) (λk=>N.length - k) 0 ?_ ?_ ?_
      .refine gJ ?_;simp [zrj]
      .simp
      .intro k hk
       repeat first|refine gG ?_|show AK _;intro J Z|refine gJ ?_|omega|exact aT
       (refine gC ?_ ?_<;>intro hc<;>try contradiction)
       .obtain ⟨x,hx⟩:=zm (i:=k) (l:=N) (by omega)
        obtain ⟨hsl,hfi,hlt⟩:=zcH (hN x (xad hx))
        have ha:=hAt hx
        have hnx:nth N k=x:=by rw [nth,hx];rfl
        have hjl:(k+N.length - 1) % N.length < Hs.length:=by rw [hHl];exact Nat.mod_lt _ (by omega)
        obtain ⟨y,hy⟩:=zm (i:=(k+N.length - 1) % N.length) (l:=Hs) hjl
        have hny:nth (zeT b N) ((k+N.length - 1) % N.length)=y:=by rw [hH,nth,hy];rfl
        have hr:((k:Int)+(N.length:Int) - 1).tmod (N.length:Int)=(((k+N.length - 1) % N.length:Nat):Int):=by
         rw [show ((k:Int)+(N.length:Int) - 1)=((k+N.length - 1:Nat):Int) by omega];exact (Int.ofNat_tmod _ _).symm
        have hpl:=ya2 b N k
        have hP:Pure prog 108 [(⟨zrj b N k,b.wait⟩:Bk).pv,.i .i64 (zx b x),trW (zn b x) y] (setB ⟨zrj b N k,b.wait⟩ (zx b x) (trS (zn b x) y)).pv:=
         zud (yF ⟨zrj b N k,b.wait⟩ (zx b x) (trS (zn b x) y) (by simp only [hpl];exact hlt) (by simp only [hpl];exact hn1)) ⟨.refl _,.refl _,.agg (zwf _ y),trivial⟩
        have hnx1:zrj b N (k+1)=(zrj b N k).set (zx b x) (trS (zn b x) y):=by rw [zrj,hnx,hny]
        have qe:=aI qR (aI @ha (aI @hsl (aI @hy (aI @hr @hAl))));repeat' first|refine gC ?_ ?_<;>intro hc<;>try contradiction|refine za hP ?_|refine gG ?_|show AK _;intro J Z|refine gJ ?_|omega|exact aT
        all_goals exact ⟨k+1,by omega,by omega,by simp,by rw [hnx1];rfl⟩
       .have e:k=N.length:=by omega
        subst e
        have qe:=@qR;exact gD0
 .by_cases h:zeg b N=0
  .rw [if_pos h,zlM,if_pos h,h];exact .refl _
  .rw [if_neg h,zlM,if_neg h];exact zbt _
theorem yA (n:ByteArray):∀ l:List ByteArray,0<=atL n l↔n ∈ l
 | []=>by simp [atL]
 | x::r=>by
  have ih:=yA n r;have:=ztf n r;simp only [atL,xaA]
  by_cases h:x=n
  .rw [if_pos h];exact ⟨λ_=>.inl h.symm,λ_=>by omega⟩
  .rw [if_neg h]
   by_cases h2:atL n r < 0
   .rw [if_pos h2];exact ⟨λh3=>by omega,λh3=>h3.elim (λe=>absurd e.symm h) λe=>by have:=ih.2 e;omega⟩
   .rw [if_neg h2];exact ⟨λ_=>.inr (ih.1 (by omega)),λ_=>by omega⟩
def ybo {b:Bk} {n:ByteArray} (h:¬atL n (b.slots.map (·.req.name)) < 0):zfd b.slots n=0/\ycb b.slots n=(zx b n:Int):=by
 rw [zfd,if_neg h,ycb,if_neg h,zx];exact ⟨rfl,by omega⟩
def ycK {b:Bk} {n:ByteArray} (h:atL n (b.slots.map (·.req.name)) < 0):zfd b.slots n=10/\ycb b.slots n=0:=by
 rw [zfd,if_pos h,ycb,if_pos h];exact ⟨rfl,rfl⟩
def ydA (b:Bk) (o t:ByteArray) (hb:zfy b):Pure prog 57 [b.pv,.s o,.s t] (.tup [(zpt b o t).pv,.i .i64 (zpQ b o t)]):=by
 refine zar (r:=if zwk b o t=0 then .tup [(zlM b [o,t]).pv,.i .i64 (zeg b [o,t])] else .tup [.agg [.nilsl,.nilsl],.i .i64 (zwk b o t)]) ?_ ?_
 .refine pz func57 f57.eq_1 λhw X hX=>?_
  have e10:((10:Int)=0)=False:=eq_false (by omega)
  by_cases ho:atL o (b.slots.map (·.req.name)) < 0
  .obtain ⟨f1,f2⟩:=ycK ho;have hF:zwk b o t=10:=by rw [zwk,za1 (by rw [unkE,if_pos ho];omega),unkE,if_pos ho]
   rw [hF,if_neg (by omega)]
   have qe:=aI qR (aI @f1 (aI @f2 (aI @e10 (aI @decide_false @xal))));have jA:=yk b o;have jB:=yk b t;exact gD2
  .obtain ⟨f1,f2⟩:=ybo ho;have u1:unkE b o=0:=if_neg ho
   by_cases ht:atL t (b.slots.map (·.req.name)) < 0
   .obtain ⟨g1,g2⟩:=ycK ht;have hF:zwk b o t=10:=by rw [zwk,za2 u1,za1 (by rw [unkE,if_pos ht];omega),unkE,if_pos ht]
    rw [hF,if_neg (by omega)]
    have qe:=aI qR (aI @f1 (aI @f2 (aI @g1 (aI @g2 (aI @e10 (aI @za9 (aI @decide_true (aI @xam (aI @decide_false @xal)))))))));have jA:=yk b o;have jB:=yk b t;exact gD2
   .obtain ⟨g1,g2⟩:=ybo ht;have u2:unkE b t=0:=if_neg ht
    by_cases hot:o=t
    .have hF:zwk b o t=9:=by rw [zwk,za2 u1,za2 u2,zfj,if_pos hot]
     have hi:((zx b o:Int)=(zx b t:Int))=True:=eq_true (by rw [hot])
     rw [hF,if_neg (by omega)]
     have qe:=aI qR (aI @f1 (aI @f2 (aI @g1 (aI @g2 (aI @hi (aI @za9 (aI @decide_true (aI @xam (aI @decide_false @xal)))))))));have jA:=yk b o;have jB:=yk b t;exact gD2
    .have hF:zwk b o t=0:=by rw [zwk,za2 u1,za2 u2,zfj,if_neg hot]
     have hi:((zx b o:Int)=(zx b t:Int))=False:=eq_false (λk=>hot ((yaY ho ht).1 (by omega)))
     have hp:=ybI b [o,t] hb (λn hn=>by
      simp only [xaA,List.not_mem_nil,or_false] at hn
      rcases hn with rfl|rfl
      .exact ho
      .exact ht) (by simp)
     simp only [xak,xay] at hp;rw [hF,if_pos rfl];have qe:=aI qR (aI @f1 (aI @f2 (aI @g1 (aI @g2 (aI @hi (aI @za9 (aI @decide_true (aI @xam (aI @decide_false @xal)))))))));have jA:=yk b o;have jB:=yk b t;have jC:=hp;exact gD4
 .by_cases h:zwk b o t=0
  .have hC:zpQ b o t=zeg b [o,t]:=if_pos h;have hB:zpt b o t=zlM b [o,t]:=by
    rw [zpt,hC];split
    .rfl
    .rename_i k;rw [zuA k]
   rw [hB,hC,if_pos h];exact .refl _
  .have hC:zpQ b o t=zwk b o t:=if_neg h;have hB:zpt b o t=bk0:=by rw [zpt,hC,if_neg h]
   rw [hB,hC,if_neg h];exact zbt _
def yag (b:Bk) (N:List ByteArray):Int:=zf (N.mapIdx (yz b N))
def ydz (b:Bk) (N:List ByteArray) (hb:zfy b) (hn:N.length<=1000):Pure prog 58 [b.pv,.sl 1 (N.map .s)] (.tup [(yQ b N).pv,.i .i64 (yah b N)]):=by
 refine zar (r:=if zf [yW N,yag b N]=0 then .tup [(zlM b N).pv,.i .i64 (zeg b N)] else .tup [.agg [.nilsl,.nilsl],.i .i64 (zf [yW N,yag b N])]) ?_ ?_
 .refine pz func58 f58.eq_1 λhw X hX=>?_
  by_cases h2:(N.length:Int) < 2
  .have hF:yW N=16:=by rw [yW,za1 (by rw [if_pos h2];omega),if_pos h2]
   have h2':=eq_true h2;rw [za1 (by rw [hF];omega),hF,if_neg (by omega)]
   have qe:=aI qR (aI @h2' @decide_true);exact gD0
  have h2':=eq_false h2
  by_cases h8:8 < (N.length:Int)
  .have hF:yW N=5:=by rw [yW,za2 (if_neg h2),zfj,if_pos h8]
   have h8':=eq_true h8;rw [za1 (by rw [hF];omega),hF,if_neg (by omega)]
   have qe:=aI qR (aI @h2' (aI @h8' yDF));exact gD0
  have h8':=eq_false h8;have hF:yW N=0:=by rw [yW,za2 (if_neg h2),zfj,if_neg h8]
  rw [za2 hF,zfj];generalize hA:(N.map λn=>(zx b n:Int))=A
  have hAl:A.length=N.length:=by rw [<-hA,xaf]
  have qe:=aI qR (aI @h2' (aI @h8' @decide_false));repeat' first|refine gC ?_ ?_<;>intro hc<;>try contradiction|refine gG ?_|show AK _;intro J Z|refine gJ ?_|omega|exact aT
  refine zaO 100 3 1 [(1,.p (.sl 1 (N.map .s))),(2,.lp 2 0),(4,.lp 4 0),(6,.row 100 0),(7,.p (.i .i64 0))] [(2,.box [.p (.sl 16 (b.slots.map Slt.pv)),.p (.sl 14 (b.wait.map Wsh.pv))] false),(4,.box [.p .nilsl,.p .nilsl] false)] ?_ ?_
  .simp only [Own,zaL,zaA,zbr,zax,qS,seval]
  refine zi (κ:=Nat) (λi=>⟨[(1,.p (.sl 1 (N.map .s))),(2,.lp 2 0),(4,.lp 4 0),(6,.row 100 i),(7,.p (.i .i64 i))],[(2,.box [.p (.sl 16 (b.slots.map Slt.pv)),.p (.sl 14 (b.wait.map Wsh.pv))] false),(4,.box [.p .nilsl,.p .nilsl] false),(100,.row 3 1 ((A.take i).map (.i .i64)) false)],[],false⟩) (λi=>i<=N.length/\∀ x ∈ (N.mapIdx (yz b N)).take i,x=0) (λi=>N.length - i) 0 ?_ ?_ ?_
  .exact sS
  .simp
  .intro i hi;have hlA:(A.take i).length=i:=by rw [xai];omega
   repeat first|refine gG ?_|show AK _;intro J Z|refine gJ ?_|omega|exact aT
   (refine gC ?_ ?_<;>intro hc<;>try contradiction)
   .obtain ⟨x,hx⟩:=zm (i:=i) (l:=N) (by omega)
    have hAx:A[i]?=some (zx b x:Int):=by rw [<-hA,xah,hx];rfl
    have hmx:=zI (f:=yz b N) hx;have e10:((10:Int)=0)=False:=eq_false (by omega)
    have e9:((9:Int)=0)=False:=eq_false (by omega)
    by_cases ho:atL x (b.slots.map (·.req.name)) < 0
    .obtain ⟨f1,f2⟩:=ycK ho;have hX1:yz b N i x=10:=by rw [yz,za1 (by rw [unkE,if_pos ho];omega),unkE,if_pos ho]
     have hY:yag b N=10:=by rw [yag,zT hi.2 hmx (by rw [hX1];decide),hX1]
     rw [hY,if_neg (by omega)]
     have qe:=aI qR (aI @hx (aI @f1 (aI @f2 (aI @e10 (aI @decide_false @xal)))));repeat' first|refine gC ?_ ?_<;>intro hc<;>try contradiction|refine za (yk b x) ?_|(show zh _ _ _ _ (⟨_,.call 111,_,_,_⟩::_) _ _;refine ya (q:=.b false) (by first|rfl|(simp (disch:=omega) only [qG,qe,seval]<;>rfl)) ?_;(try (refine zF ?_)))|refine gG ?_|show AK _;intro J Z|refine gJ ?_|omega|exact aT
     all_goals exact .refl _
    .obtain ⟨f1,f2⟩:=ybo ho;have u1:unkE b x=0:=if_neg ho;have hkn:∀ n ∈ N.take i,¬atL n (b.slots.map (·.req.name)) < 0:=λn hn=>by
      obtain ⟨j,hj⟩:=xaZ hn;have hjl:=(xaa.1 hj).1;rw [xai] at hjl;rw [xbm (by omega)] at hj
      have h1:yz b N j n=0:=hi.2 _ (xad (i:=j) (by rw [xbm (by omega)];exact zI hj))
      exact zwg (fE0 h1 _ (by simp))
     have hmem:(zx b x:Int) ∈ A.take i↔0<=atL x (N.take i):=by
      rw [<-hA,<-xbk]
      constructor
      .intro k;obtain ⟨n,hn,e⟩:=xaT.1 k;have:=(yaY (hkn n hn) ho).1 (by omega)
       subst this;exact (yA _ _).2 hn
      .intro k;exact xaT.2 ⟨x,(yA _ _).1 k,rfl⟩
     by_cases hd:0<=atL x (N.take i)
     .have hX1:yz b N i x=9:=by rw [yz,za2 u1,zfj,if_pos hd]
      have hY:yag b N=9:=by rw [yag,zT hi.2 hmx (by rw [hX1];decide),hX1]
      have hm:=eq_true (hmem.2 hd);rw [hY,if_neg (by omega)]
      have qe:=aI qR (aI @hx (aI @f1 (aI @f2 (aI @e9 (aI @hm (aI @hlA (aI @za9 (aI @decide_true (aI @xam (aI @decide_false @xal))))))))));have jA:=yk b x;have jB:=yem (A.take i) (zx b x);exact gD2
     .have hX1:yz b N i x=0:=by rw [yz,za2 u1,zfj,if_neg hd]
      have hm:=eq_false (λk=>hd (hmem.1 k))
      have qe:=aI qR (aI @hx (aI @f1 (aI @f2 (aI @hm (aI @hlA (aI @za9 (aI @decide_true (aI @xam (aI @decide_false @xal)))))))));repeat' first|refine gC ?_ ?_<;>intro hc<;>try contradiction|refine za (yk b x) ?_|refine zp (λ_=>yem (A.take i) (zx b x)) ?_|refine gG ?_|show AK _;intro J Z|refine gJ ?_|omega|exact aT
      all_goals exact ⟨i+1,⟨by omega,zaB hi.2 hmx hX1⟩,by omega,by simp,by rw [zam hAx,xaO];exact ⟨rfl,by rw [xae,hlA];exact xaj _⟩⟩
   .have e:i=N.length:=by omega
    subst e;have hY:yag b N=0:=by
     have e:N.length=(N.mapIdx (yz b N)).length:=by simp
     rw [yag];rw [e] at hi;exact z4 hi.2
    have hk:∀ n ∈ N,¬atL n (b.slots.map (·.req.name)) < 0:=yaA (λx hx=>hi.2 x (by rw [xag (by simp)];exact hx))
    have hp:=ybI b N hb hk hn;rw [hA] at hp;have hA2:A.take N.length=A:=xag (by omega)
    rw [hY,if_pos rfl,hA2];have qe:=aI qR @hAl;have jA:=hp;exact gD2
 .have hC:yah b N=if zf [yW N,yag b N]=0 then zeg b N else zf [yW N,yag b N]:=by
   rw [yah];exact yau [yW N,yag b N] (zeg b N)
  by_cases h:zf [yW N,yag b N]=0
  .rw [if_pos h] at hC ⊢;have hB:yQ b N=zlM b N:=by
    rw [yQ,hC];split
    .rfl
    .rename_i k;rw [zuA k]
   rw [hB,hC];exact .refl _
  .rw [if_neg h] at hC ⊢;have hB:yQ b N=bk0:=by rw [yQ,hC,if_neg h]
   rw [hB,hC];exact zbt _
def yb3 {a b:Wsh}:yg a b=false↔zwc b a<=0:=by
 rw [yg,zwc]
 rcases Int.lt_trichotomy a.rank b.rank with k|k|k
 .have e:zo7 b.rank a.rank=1:=by rw [zo7,if_neg (by omega),if_pos k]
  rw [e,za1 (by omega),decide_eq_true k,xcE]
  exact ⟨λh=>(by cases h),λh=>(by omega)⟩
 .have e:zo7 b.rank a.rank=0:=by rw [zo7,if_neg (by omega),if_neg (by omega)]
  have k1:¬a.rank < b.rank:=by omega
  rw [za2 e,zfj,decide_eq_false k1,decide_eq_true k,xcf,xbo]
  constructor
  .intro h
   by_cases q:a.req.name=b.req.name
   .rw [(zs9 _ _).2 q.symm];omega
   .have h2:Op.bytesLess b.req.name.toList a.req.name.toList=true:=by
     by_cases r:Op.bytesLess b.req.name.toList a.req.name.toList=true
     .exact r
     .exact absurd (zyD h (by simpa using r)) q
    have:=(zo6 _ _).2 h2;omega
  .intro h;cases q:Op.bytesLess a.req.name.toList b.req.name.toList
   .rfl
   .exfalso
    rcases Int.lt_or_eq_of_le h with h|h
    .have h1:=(zo6 _ _).1 h;rw [zjS _ _ q] at h1;cases h1
    .have h1:=(zs9 _ _).1 h;rw [h1,zkH] at q;cases q
 .have e:zo7 b.rank a.rank=-1:=if_pos k;have k1:¬a.rank < b.rank:=by omega
  have k2:¬a.rank=b.rank:=by omega
  rw [e,za1 (by omega),decide_eq_false k1,decide_eq_false k2,xcf,xbs]
  exact ⟨λ_=>by omega,λ_=>rfl⟩
def ydJ (b:Bk):Pure prog 15 [b.pv] (.i .i64 (zG b)):=by
 refine pz func15 f15.eq_1 λhw X hX=>?_
 by_cases h64:(64:Int) < b.slots.length
 .have e:zG b=5:=by rw [zG,if_pos h64,za1 (by omega)]
  have h64':=eq_true h64
  rw [e]
  have qe:=aI qR (aI @h64' @decide_true);exact gD0
 have h64':=eq_false h64
 have hE:zG b=zf [zf (b.slots.mapIdx (zeJ b)),if 64 < (b.wait.length:Int) then 5 else 0,zf (b.wait.mapIdx (zd5 b))]:=by rw [zG,if_neg h64,za2 rfl]
 have qe:=aI qR (aI @h64' @decide_false);repeat' first|refine gC ?_ ?_<;>intro hc<;>try contradiction|refine gG ?_|show AK _;intro J Z|refine gJ ?_|omega|exact aT
 refine zi (κ:=Nat) (λi=>⟨[(1,.lp 1 0),(3,.p (.i .i64 i))],[(1,.box [.p (.sl 16 (b.slots.map Slt.pv)),.p (.sl 14 (b.wait.map Wsh.pv))] false)],[],false⟩) (λi=>i<=b.slots.length/\∀ x ∈ (b.slots.mapIdx (zeJ b)).take i,x=0) (λi=>b.slots.length - i) 0 ?_ ?_ ?_
 .exact sS
 .simp
 .intro i hi
  repeat first|refine gG ?_|show AK _;intro J Z|refine gJ ?_|omega|exact aT
  (refine gC ?_ ?_<;>intro hc<;>try contradiction)
  .obtain ⟨s,hs⟩:=zm (i:=i) (l:=b.slots) (by omega)
   have e9:((9:Int)=0)=False:=eq_false (by omega)
   by_cases c1:zin s=0
   .have c1':=eq_true c1
    by_cases c2:0<=atL s.req.name ((b.slots.take i).map (·.req.name))
    .have c2':=eq_true c2
     have hv:zeJ b i s=9:=by rw [zeJ,za2 c1,zfj,if_pos c2]
     have e:zG b=9:=by rw [hE,zT hi.2 (zI hs) (by rw [hv];decide),hv,za1 (by omega)]
     rw [e]
     have qe:=aI qR (aI @hs (aI @zel (aI @c1' (aI @c2' (aI @e9 yDF)))));have jA:=yaM s;have jB:=yf (b.slots.take i) s.req.name;exact gD2
    .have c2':=eq_false c2
     have hv:zeJ b i s=0:=by rw [zeJ,za2 c1,zfj,if_neg c2]
     have qe:=aI qR (aI @hs (aI @zel (aI @c1' (aI @c2' yDF))));repeat' first|refine gC ?_ ?_<;>intro hc<;>try contradiction|refine za (yaM s) ?_|refine zp (λ_=>yf (b.slots.take i) s.req.name) ?_|refine gG ?_|show AK _;intro J Z|refine gJ ?_|omega|exact aT
     all_goals exact ⟨i+1,⟨by omega,zaB hi.2 (zI hs) hv⟩,by omega,by simp⟩
   .have c1':=eq_false c1
    have hv:zeJ b i s=zin s:=by rw [zeJ,za1 c1]
    have e:zG b=zin s:=by rw [hE,zT hi.2 (zI hs) (by rw [hv];exact c1),hv,za1 c1]
    rw [e]
    have qe:=aI qR (aI @hs (aI @zel (aI @c1' @decide_false)));have jA:=yaM s;have jB:=yf (b.slots.take i) s.req.name;exact gD2
  .have ei:i=(b.slots.mapIdx (zeJ b)).length:=by simp;omega
   have hA:zf (b.slots.mapIdx (zeJ b))=0:=by subst ei;exact z4 hi.2
   rw [za2 hA] at hE
   by_cases h65:(64:Int) < b.wait.length
   .have e:zG b=5:=by rw [hE,if_pos h65,za1 (by omega)]
    have h65':=eq_true h65
    rw [e]
    have qe:=aI qR (aI @h65' @decide_true);exact gD0
   have h65':=eq_false h65
   rw [if_neg h65,za2 rfl,zfj] at hE
   have qe:=aI qR (aI @h65' @decide_false);repeat' first|refine gC ?_ ?_<;>intro hc<;>try contradiction|refine gG ?_|show AK _;intro J Z|refine gJ ?_|omega|exact aT
   refine zi (κ:=Nat) (λi=>⟨[(1,.lp 1 0),(5,.p (.i .i64 i))],[(1,.box [.p (.sl 16 (b.slots.map Slt.pv)),.p (.sl 14 (b.wait.map Wsh.pv))] false)],[],false⟩) (λi=>i<=b.wait.length/\∀ x ∈ (b.wait.mapIdx (zd5 b)).take i,x=0) (λi=>b.wait.length - i) 0 ?_ ?_ ?_
   .exact sS
   .simp
   .clear hi ei
    intro i hi
    repeat first|refine gG ?_|show AK _;intro J Z|refine gJ ?_|omega|exact aT
    (refine gC ?_ ?_<;>intro hc<;>try contradiction)
    .obtain ⟨w,hx⟩:=zm (i:=i) (l:=b.wait) (by omega)
     have e9:((9:Int)=0)=False:=eq_false (by omega)
     have e11:((11:Int)=0)=False:=eq_false (by omega)
     have hr:∀ e,zd5 b i w=e->e≠0->zG b=e:=λe hv he=>by rw [hE,zT hi.2 (zI hx) (by rw [hv];exact he),hv]
     have hn9:∀ q:0<=atL w.req.name (b.slots.map (·.req.name))\/0<=atL w.req.name ((b.wait.take i).map (·.req.name)),0<=atL w.req.name (b.slots.map (·.req.name)++(b.wait.take i).map (·.req.name)):=λq=>(yA _ _).2 (by
      rcases q with q|q
      .exact xa9 _ ((yA _ _).1 q)
      .exact xaY _ ((yA _ _).1 q))
     by_cases d1:zkY w=0
     .have d1':=eq_true d1
      by_cases d2:0<=atL w.req.name (b.slots.map (·.req.name))
      .have d2':=eq_true d2
       rw [hr 9 (by rw [zd5,za2 d1,if_pos (hn9 (.inl d2)),za1 (by omega)]) (by omega)]
       have qe:=aI qR (aI @hx (aI @zel (aI @d1' (aI @d2' (aI @e9 yDF)))));repeat' first|refine gC ?_ ?_<;>intro hc<;>try contradiction|refine za (yq w) ?_|refine zp (λ_=>yf b.slots w.req.name) ?_|refine zp (λ_=>yh (b.wait.take i) w.req.name) ?_|(show zh _ _ _ _ (⟨_,.call 49,_,_,_⟩::_) _ _;refine ya (q:=.b false) (by first|rfl|(simp (disch:=omega) only [qG,qe,seval]<;>rfl)) ?_;(try (refine zF ?_)))|refine gG ?_|show AK _;intro J Z|refine gJ ?_|omega|exact aT
       all_goals exact .refl _
      have d2':=eq_false d2
      by_cases d3:0<=atL w.req.name ((b.wait.take i).map (·.req.name))
      .have d3':=eq_true d3
       rw [hr 9 (by rw [zd5,za2 d1,if_pos (hn9 (.inr d3)),za1 (by omega)]) (by omega)]
       have qe:=aI qR (aI @hx (aI @zel (aI @d1' (aI @d2' (aI @d3' (aI @e9 yDF))))));repeat' first|refine gC ?_ ?_<;>intro hc<;>try contradiction|refine za (yq w) ?_|refine zp (λ_=>yf b.slots w.req.name) ?_|refine zp (λ_=>yh (b.wait.take i) w.req.name) ?_|(show zh _ _ _ _ (⟨_,.call 49,_,_,_⟩::_) _ _;refine ya (q:=.b false) (by first|rfl|(simp (disch:=omega) only [qG,qe,seval]<;>rfl)) ?_;(try (refine zF ?_)))|refine gG ?_|show AK _;intro J Z|refine gJ ?_|omega|exact aT
       all_goals exact .refl _
      have d3':=eq_false d3
      have hno:¬0<=atL w.req.name (b.slots.map (·.req.name)++(b.wait.take i).map (·.req.name)):=λq=>by
       rcases xaD.1 ((yA _ _).1 q) with q|q
       .exact d2 ((yA _ _).2 q)
       .exact d3 ((yA _ _).2 q)
      by_cases d4:0 < (i:Int)
      .have d4':=eq_true d4
       obtain ⟨p,hp⟩:=zm (i:=i - 1) (l:=b.wait) (by omega)
       have e1:((i:Int) - 1).toNat=i - 1:=by omega
       cases d5:yg p w with
       | true=>
        have hc5:¬zwc w p<=0:=λq=>by rw [yb3.2 q] at d5;cases d5
        have hv:zd5 b i w=0:=by rw [zd5,za2 d1,if_neg hno,za2 rfl,zfj,hp];exact if_neg λq=>hc5 q.2
        have qe:=aI qR (aI @hx (aI @hp (aI @e1 (aI @zel (aI @d1' (aI @d2' (aI @d3' (aI @d4' (aI @d5 (aI @decide_true (aI @decide_false @xam)))))))))));repeat' first|refine gC ?_ ?_<;>intro hc<;>try contradiction|refine za (yq w) ?_|refine zp (λ_=>yf b.slots w.req.name) ?_|refine zp (λ_=>yh (b.wait.take i) w.req.name) ?_|refine zp (λ_=>yak p w) ?_|refine gG ?_|show AK _;intro J Z|refine gJ ?_|omega|exact aT
        all_goals exact ⟨i+1,⟨by omega,zaB hi.2 (zI hx) hv⟩,by omega,by simp⟩
       | false=>
        rw [hr 11 (by rw [zd5,za2 d1,if_neg hno,za2 rfl,zfj,hp];exact if_pos ⟨d4,yb3.1 d5⟩) (by omega)]
        have qe:=aI qR (aI @hx (aI @hp (aI @e1 (aI @zel (aI @d1' (aI @d2' (aI @d3' (aI @d4' (aI @d5 (aI @e11 (aI @decide_true (aI @decide_false @xal))))))))))));have jA:=yq w;have jB:=yf b.slots w.req.name;have jC:=yh (b.wait.take i) w.req.name;have jD:=yak p w;exact gD4
      .have d4':=eq_false d4
       have hv:zd5 b i w=0:=by rw [zd5,za2 d1,if_neg hno,za2 rfl,zfj];exact if_neg λq=>d4 q.1
       have qe:=aI qR (aI @hx (aI @zel (aI @d1' (aI @d2' (aI @d3' (aI @d4' yDF))))));repeat' first|refine gC ?_ ?_<;>intro hc<;>try contradiction|refine za (yq w) ?_|refine zp (λ_=>yf b.slots w.req.name) ?_|refine zp (λ_=>yh (b.wait.take i) w.req.name) ?_|(show zh _ _ _ _ (⟨_,.call 49,_,_,_⟩::_) _ _;refine ya (q:=.b false) (by first|rfl|(simp (disch:=omega) only [qG,qe,seval]<;>rfl)) ?_;(try (refine zF ?_)))|refine gG ?_|show AK _;intro J Z|refine gJ ?_|omega|exact aT
       all_goals exact ⟨i+1,⟨by omega,zaB hi.2 (zI hx) hv⟩,by omega,by simp⟩
     .have d1':=eq_false d1
      rw [hr (zkY w) (by rw [zd5,za1 d1]) d1]
      have qe:=aI qR (aI @hx (aI @zel (aI @d1' @decide_false)));repeat' first|refine gC ?_ ?_<;>intro hc<;>try contradiction|refine za (yq w) ?_|refine zp (λ_=>yf b.slots w.req.name) ?_|refine zp (λ_=>yh (b.wait.take i) w.req.name) ?_|(show zh _ _ _ _ (⟨_,.call 49,_,_,_⟩::_) _ _;refine ya (q:=.b false) (by first|rfl|(simp (disch:=omega) only [qG,qe,seval]<;>rfl)) ?_;(try (refine zF ?_)))|refine gG ?_|show AK _;intro J Z|refine gJ ?_|omega|exact aT
      all_goals exact .refl _
    .have ei:i=(b.wait.mapIdx (zd5 b)).length:=by simp;omega
     have hZ:zf (b.wait.mapIdx (zd5 b))=0:=by subst ei;exact z4 hi.2
     rw [hE,hZ]
     have qe:=@qR;exact gD0
def sl_sh {s:Slt} (h:yc5 s=true):s.ls.length<=9/\s.sh.length<=5/\shortB s.req=true:=by
 simp only [yc5,xap,xa6,bigS,xbd,xbY,decide_eq_false_iff_not,xb7,decide_eq_true_eq] at h;obtain ⟨⟨⟨⟨h1,_⟩,h2⟩,h3⟩,_⟩:=h;exact ⟨by omega,by omega,h1⟩
def sh_ok {b:Bk} (h:yck b=true):zfy b/\b.slots.length<=65/\b.wait.length<=65:=by
 simp only [yck,xap,xa6,bigB,xbd,xbY,decide_eq_false_iff_not,xb7,decide_eq_true_eq,xaB] at h;obtain ⟨⟨h1,h2⟩,h3,_⟩:=h;exact ⟨⟨λs hs=>by have:=sl_sh (h3 s hs);exact ⟨by omega,by omega⟩,by omega,by omega⟩,by omega,by omega⟩
open Go.RowKit Go.Proofs.Tryz Go.ChangeShapes Go.WideShapes Go.ChangeAt
theorem y4 {α:Type} {f:α->PV}:∀ {xs:List PV},(∀ x ∈ xs,∃ a,x=f a)->∃ L:List α,xs=L.map f
 | [],_=>⟨[],rfl⟩
 | x::r,h=>by
  obtain ⟨a,rfl⟩:=h x (by simp)
  obtain ⟨L,rfl⟩:=y4 (xs:=r) λy hy=>h y (by simp [hy])
  exact ⟨a::L,rfl⟩
def leaT:List CP:=[.s,jT,jT]
def sltT:List CP:=[.s,.s,.s,.s,.s,.s,jT,jT,jT,jT,jT,jT,jT,.s,.sl true leaT,.sl false [.s]]
def wshT:List CP:=[.s,.s,.s,.s,.s,.s,jT,jT,jT,jT,jT,jT,jT,jT]
def lea_of {n:Nat} {l:List PV} (h:FitAll (Fit n) leaT l):∃ L:Lea,.agg l=L.pv:=by
 cases n<;>(match l,h with
  | [_,_,_],⟨⟨a,ha⟩,⟨b,hb⟩,⟨c,hc⟩,_⟩=>subst ha hb hc;exact ⟨⟨a,b,c⟩,rfl⟩)
def ye7 {n:Nat} {p:PV} (h:Fit (n+1) (.sl true leaT) p):∃ L:List Lea,p=.sl 3 (L.map Lea.pv):=by
 obtain ⟨xs,rfl,hx⟩:=h;obtain ⟨L,rfl⟩:=y4 (f:=Lea.pv) (xs:=xs) λx h=>by
  obtain ⟨l,rfl,hf⟩:=hx x h;exact lea_of hf
 exact ⟨L,rfl⟩
def ycn {n:Nat} {p:PV} (h:Fit (n+1) (.sl false [.s]) p):∃ L:List ByteArray,p=.sl 1 (L.map .s):=by
 obtain ⟨xs,rfl,hx⟩:=h;obtain ⟨L,rfl⟩:=y4 (f:=PV.s) (xs:=xs) λx h=>by
  obtain ⟨l,rfl,hf⟩:=hx x h
  match l,hf with
  | [_],⟨h1,_⟩=>
   cases n<;>(obtain ⟨a,rfl⟩:=h1;exact ⟨a,rfl⟩)
 exact ⟨L,rfl⟩
def slt_of {n:Nat} {l:List PV} (h:FitAll (Fit (n+1)) sltT l):∃ s:Slt,.agg l=s.pv:=by
 match l,h with
 | [_,_,_,_,_,_,_,_,_,_,_,_,_,_,_,_],⟨⟨a,ha⟩,⟨b,hb⟩,⟨c,hc⟩,⟨d,hd⟩,⟨e,he⟩,⟨f,hf⟩,⟨g,hg⟩,⟨i,hi⟩,⟨j,hj⟩,⟨k,hk⟩,⟨m,hm⟩,⟨o,ho⟩,⟨q,hq⟩,⟨r,hr⟩,h1,h2,_⟩=>
  subst ha hb hc hd he hf hg hi hj hk hm ho hq hr;obtain ⟨L,rfl⟩:=ye7 h1;obtain ⟨S,rfl⟩:=ycn h2;exact ⟨⟨⟨a,b,c,d,e,f,⟨g,i,j⟩,k,m,o,q⟩,r,L,S⟩,rfl⟩
def wsh_of {n:Nat} {l:List PV} (h:FitAll (Fit n) wshT l):∃ w:Wsh,.agg l=w.pv:=by
 cases n<;>(match l,h with
  | [_,_,_,_,_,_,_,_,_,_,_,_,_,_],⟨⟨a,ha⟩,⟨b,hb⟩,⟨c,hc⟩,⟨d,hd⟩,⟨e,he⟩,⟨f,hf⟩,⟨g,hg⟩,⟨i,hi⟩,⟨j,hj⟩,⟨k,hk⟩,⟨m,hm⟩,⟨o,ho⟩,⟨q,hq⟩,⟨r,hr⟩,_⟩=>
   subst ha hb hc hd he hf hg hi hj hk hm ho hq hr;exact ⟨⟨⟨a,b,c,d,e,f,⟨g,i,j⟩,k,m,o,q⟩,r⟩,rfl⟩)
def parB:yep prog 6 26=some (true,[.sl true sltT,.sl true wshT]):=by kernel_rfl
def fit_bk {p:PV} (h:yax prog 6 26 p):∃ b:Bk,p=b.pv:=by
 obtain ⟨⟨ag,c,l,hp,rfl,hl⟩,hb⟩:=h;rw [parB] at hp;simp only [xaR,xcq] at hp;obtain ⟨rfl,rfl⟩:=hp
 match l,hl with
 | [_,_],⟨⟨xs,rfl,hx⟩,⟨ys,rfl,hy⟩,_⟩=>
  obtain ⟨L,rfl⟩:=y4 (f:=Slt.pv) (xs:=xs) λx h=>by
   obtain ⟨l,rfl,hf⟩:=hx x h;exact slt_of hf
  obtain ⟨W,rfl⟩:=y4 (f:=Wsh.pv) (xs:=ys) λx h=>by
   obtain ⟨l,rfl,hf⟩:=hy x h;exact wsh_of hf
  exact ⟨⟨L,W⟩,rfl⟩
open Go.RowKit Go.Proofs.Tryz
def ybO (B W:Bk) (e:Int) (hB:zfy B) (h0:e=0->W=B) (h1:e≠0->B=bk0):Pure prog 17 [B.pv,.i .i64 e,W.pv,.i .i64 e] (.b true):=by
 refine pz func17 f17.eq_1 λhw X hX=>?_
 by_cases h:e=0
 .have h':=eq_true h;rw [h0 h];have qe:=aI qR (aI @h' (aI @za9 (aI @decide_true @xam)));have jA:=ybM B hB;have jB:=ybN B;exact gD2
 .have h':=eq_false h;have hs:Pure prog 21 [bk0.pv,.agg [.nilsl,.nilsl]] (.b true):=zud (ybN bk0) ⟨.refl _,.agg ⟨.nilsl _,.nilsl _,trivial⟩,trivial⟩;have hb:=h1 h;subst hb;have qe:=aI qR (aI @h' (aI @za9 (aI @decide_true (aI @decide_false @xal))));have jA:=ybM bk0 hB;have jB:=hs;exact gD2
def yK:zfy bk0:=⟨λs h=>(by cases h),by simp [bk0],by simp [bk0]⟩
def yaH {b:Bk} {n:ByteArray} {s:Slt} (hb:zfy b) (hs:zld s):zfy (zo8 b n s):=by
 refine ⟨λx hx=>?_,by simpa [zo8] using hb.n,hb.w⟩
 rcases List.mem_or_eq_of_mem_set hx with h|rfl
 .exact hb.s x h
 .exact hs
def y7 {b:Bk} {n:ByteArray} (hb:zfy b):zld (zn b n):=by
 rw [zn];cases h:b.slots[(atL n (b.slots.map (·.req.name))).toNat]? with
 | none=>exact ⟨by simp,by simp⟩
 | some s=>exact hb.s s (xad h)
theorem yeo {b:Bk} (hb:zfy b) (N:List ByteArray):∀ k,zfy ⟨zrj b N k,b.wait⟩
 | 0=>hb
 | k+1=>by
  have ih:=yeo hb N k;refine ⟨λx hx=>?_,by simpa [zrj] using ih.n,hb.w⟩
  rcases List.mem_or_eq_of_mem_set hx with h|rfl
  .exact ih.s x h
  .exact ⟨(y7 hb).1,by simp [trS]⟩
def ycB {b:Bk} (hb:zfy b) (N:List ByteArray):zfy (zlM b N):=by
 rw [zlM];split
 .exact yeo hb N _
 .exact yK
def swp_ok {b:Bk} (hb:zfy b) (o t:ByteArray):zfy (zpt b o t):=by
 rw [zpt];split
 .exact ycB hb _
 .exact yK
def rng_ok {b:Bk} (hb:zfy b) (N:List ByteArray):zfy (yQ b N):=by
 rw [yQ];split
 .exact ycB hb _
 .exact yK
def trB_ok {b:Bk} (hb:zfy b) (c n to:ByteArray):zfy (trB b c n to):=by
 rw [trB];split
 .exact yaH hb ⟨(y7 hb).1,by simp [trS]⟩
 .exact yK
def ydB (b:Bk) (c n to:ByteArray) (hb:zfy b) (hs:∀ s ∈ b.slots,s.sh.length<=4):Pure prog 60 [b.pv,.s c,.s n,.s to] (.tup [(shB b c n to).pv,.i .i64 (shC b c n to)]):=by
 refine zar (r:=if shC b c n to=0 then .tup [(zo8 b n (shS (zn b n) to)).pv,.i .i64 0] else .tup [.agg [.nilsl,.nilsl],.i .i64 (shC b c n to)]) ?_ ?_
 .refine pz func60 f60.eq_1 λhw X hX=>?_
  by_cases hown:zhn b c n (zaG to)=0
  .obtain ⟨h1,h2,h3,h4⟩:=za6 hown;obtain ⟨hI,hlt⟩:=yac hown;have hC:shC b c n to=shE (zn b n) to:=by rw [shC,zfM,za2 hown,zfj]
   have hsl:=hs _ (xad h2);generalize hso:zn b n=s at h2 h3 hC hsl;have ht0:=eq_true hown
   by_cases ht:to=c
   .have e:shC b c n to=31:=by rw [hC,shE,za1 (by rw [if_pos (ht.trans h3.symm)];omega),if_pos (ht.trans h3.symm)]
    have ht':=eq_true ht;rw [e,if_neg (by omega)]
    have qe:=aI qR (aI @hI (aI @h2 (aI @ht0 (aI @ht' (aI @decide_true (aI @decide_false @za9))))));have jA:=yd to;have jB:=yc b c n (zaG to);have jC:=yu s.sh to;exact gD4
   .have ht':=eq_false ht;have hE:shE s to=zf [if 0<=atL to s.sh then 9 else 0,if 4<=(s.sh.length:Int) then 5 else 0]:=by rw [shE,za2 (if_neg (λk=>ht (k.trans h3)))]
    by_cases hl:0<=atL to s.sh
    .have e:shC b c n to=9:=by rw [hC,hE,if_pos hl,za1 (by omega)]
     have hl':=eq_true hl;rw [e,if_neg (by omega)]
     have qe:=aI qR (aI @hI (aI @h2 (aI @ht0 (aI @ht' (aI @hl' (aI @decide_true (aI @decide_false @za9)))))));have jA:=yd to;have jB:=yc b c n (zaG to);have jC:=yu s.sh to;exact gD4
    .have hl':=eq_false hl
     by_cases h4l:s.sh.length=4
     .have e:shC b c n to=5:=by rw [hC,hE,if_neg hl,za2 rfl,if_pos (by omega),zfj]
      have h4':((s.sh.length:Int)=4)=True:=eq_true (by omega)
      rw [e,if_neg (by omega)]
      have qe:=aI qR (aI @hI (aI @h2 (aI @ht0 (aI @ht' (aI @hl' (aI @h4' (aI @decide_true (aI @decide_false @za9))))))));have jA:=yd to;have jB:=yc b c n (zaG to);have jC:=yu s.sh to;exact gD4
     .have e:shC b c n to=0:=by rw [hC,hE,if_neg hl,za2 rfl,if_neg (by omega),zfj]
      have h4':((s.sh.length:Int)=4)=False:=eq_false (by omega)
      have eA:(s.sh++[to]).map PV.s=s.sh.map PV.s++[PV.s to]:=by simp
      have hP:Pure prog 108 [b.pv,.i .i64 (zx b n),slX s (.sl 3 (s.ls.map Lea.pv)) (.sl 1 (s.sh.map PV.s++[PV.s to]))] (setB b (zx b n) (shS s to)).pv:=by
       rw [<-eA];exact yF b (zx b n) (shS s to) hlt hb.n
      have hA:=eq_true (allSt s.sh);rw [e,if_pos rfl];have qe:=aI qR (aI @hI (aI @h2 (aI @ht0 (aI @ht' (aI @hl' (aI @h4' (aI @hA (aI @zah (aI @decide_true (aI @decide_false @za9))))))))));repeat' first|refine gC ?_ ?_<;>intro hc<;>try contradiction|refine za (yd to) ?_|refine za (yc b c n (zaG to)) ?_|refine zp (λ_=>yu s.sh to) ?_|refine zA (hP) ?_|refine gG ?_|show AK _;intro J Z|refine gJ ?_|omega|exact aT
      all_goals first|exact .refl _
  .have e:shC b c n to=zhn b c n (zaG to):=by rw [shC,zfM,za1 hown]
   have ht0:=eq_false hown;rw [e,if_neg hown]
   rcases hsx:b.slots[(yaV b c n).toNat]? with _|sx
   .have qe:=aI qR (aI @ht0 (aI @hsx (aI @decide_false @xal)));repeat' first|refine gC ?_ ?_<;>intro hc<;>try contradiction|refine za (yd to) ?_|refine za (yc b c n (zaG to)) ?_|(show zh _ _ _ _ (⟨_,.call 103,_,_,_⟩::_) _ _;refine ya (q:=.b false) (by first|rfl|(simp (disch:=omega) only [qG,qe,seval]<;>rfl)) ?_;(try (refine zF ?_)))|refine gG ?_|show AK _;intro J Z|refine gJ ?_|omega|exact aT
    all_goals exact .refl _
   .have qe:=aI qR (aI @ht0 (aI @hsx (aI @decide_false @xal)));repeat' first|refine gC ?_ ?_<;>intro hc<;>try contradiction|refine za (yd to) ?_|refine za (yc b c n (zaG to)) ?_|(show zh _ _ _ _ (⟨_,.call 103,_,_,_⟩::_) _ _;refine ya (q:=.b false) (by first|rfl|(simp (disch:=omega) only [qG,qe,seval]<;>rfl)) ?_;(try (refine zF ?_)))|refine gG ?_|show AK _;intro J Z|refine gJ ?_|omega|exact aT
    all_goals exact .refl _
 .by_cases h:shC b c n to=0
  .rw [if_pos h,shB,if_pos h,h];exact .refl _
  .rw [if_neg h,yc6 h];exact zbt _
def yea {α:Type} {p:α->Bool} {l:List α} {k:Nat} {x:α} (h:l[k]?=some x):(l.take (k+1)).any p=((l.take k).any p || p x):=by
 rw [zam h,List.any_append];simp
def rcI (d:Int) (l:Lea):List Lea:=if yai d l=true then (if l.fro<=d - 1 then [⟨l.carrier,l.fro,d - 1⟩] else []) else if l.fro<=l.to then [l] else []
def rcL (d:Int) (L:List Lea):List Lea:=L.flatMap (rcI d)
def ydb {d:Int} {L:List Lea} {k:Nat} {x:Lea} (h:L[k]?=some x):rcL d (L.take (k+1))=rcL d (L.take k)++rcI d x:=by
 rw [zam h,rcL,xa0];simp [rcL]
def yeT (d:Int) (L:List Lea):(rcL d L).length<=L.length:=by
 induction L with
 | nil=>simp [rcL]
 | cons x r ih=>
  have:(rcI d x).length<=1:=by unfold rcI;(repeat' split)<;>simp
  simp only [rcL,xaz,xae,xaE] at ih ⊢;omega
def rcE (b:Bk) (c n:ByteArray) (d:Int):Int:=zf [zhn b c n (rng d 0 99999),if (zn b n).ls.any (yai d)=true then 0 else 7]
def rcS (s:Slt) (d:Int):Slt:=⟨s.req,s.holder,rcL d s.ls,s.sh⟩
def ydC (b:Bk) (c n:ByteArray) (d:Int) (hb:zfy b):Pure prog 55 [b.pv,.s c,.s n,.i .i64 d] (.tup [(if rcE b c n d=0 then zo8 b n (rcS (zn b n) d) else bk0).pv,.i .i64 (rcE b c n d)]):=by
 refine zar (r:=if rcE b c n d=0 then .tup [(zo8 b n (rcS (zn b n) d)).pv,.i .i64 0] else .tup [.agg [.nilsl,.nilsl],.i .i64 (rcE b c n d)]) ?_ ?_
 .refine pz func55 f55.eq_1 λhw X hX=>?_
  by_cases hown:zhn b c n (rng d 0 99999)=0
  .obtain ⟨h1,h2,h3,h4⟩:=za6 hown
   obtain ⟨hI,hlt⟩:=yac hown
   have hd:=znr (zuD hown)
   have hC:rcE b c n d=if (zn b n).ls.any (yai d)=true then 0 else 7:=by rw [rcE,za2 hown,zfj]
   have hsl:=(hb.s _ (xad h2)).1
   rw [hC]
   generalize hso:zn b n=s at h2 h3 hC hsl
   have ht0:=eq_true hown
   have qe:=aI qR (aI @hI (aI @h2 (aI @ht0 (aI @decide_true (aI @decide_false @za9)))));repeat' first|refine gC ?_ ?_<;>intro hc<;>try contradiction|refine za (yM d) ?_|refine za (yc b c n (rng d 0 99999)) ?_|refine gG ?_|show AK _;intro J Z|refine gJ ?_|omega|exact aT
   refine zaO 100 103 3 [(3,.p (.i .i64 d)),(4,.lp 4 0),(8,.lp 8 0),(10,.p (.i .i64 (zx b n))),(12,.lp 12 0),(13,.row 100 0),(14,.p (.b false)),(15,.p (.i .i64 0))] [(4,.box [.p (.sl 16 (b.slots.map Slt.pv)),.p (.sl 14 (b.wait.map Wsh.pv))] false),(8,.box [.p .nilsl,.p .nilsl] false),(12,.box (s.cells.map .p) false)] ?_ ?_
   .simp only [Own,zaL,zaA,zbr,zax,qS,seval]
   refine zi (κ:=Nat) (λk=>⟨[(3,.p (.i .i64 d)),(4,.lp 4 0),(8,.lp 8 0),(10,.p (.i .i64 (zx b n))),(12,.lp 12 0),(13,.row 100 (rcL d (s.ls.take k)).length),(14,.p (.b ((s.ls.take k).any (yai d)))),(15,.p (.i .i64 k))],[(4,.box [.p (.sl 16 (b.slots.map Slt.pv)),.p (.sl 14 (b.wait.map Wsh.pv))] false),(8,.box [.p .nilsl,.p .nilsl] false),(12,.box (s.cells.map .p) false),(100,.row 103 3 ((rcL d (s.ls.take k)).map Lea.pv) false)],[],false⟩) (λk=>k<=s.ls.length) (λk=>s.ls.length - k) 0 ?_ ?_ ?_
   .refine gJ ?_;simp [rcL]
   .simp
   .intro k hk
    have hl:(rcL d (s.ls.take k)).length<=k:=by have:=yeT d (s.ls.take k);rw [xai] at this;omega
    repeat first|refine gG ?_|show AK _;intro J Z|refine gJ ?_|omega|exact aT
    (refine gC ?_ ?_<;>intro hc<;>try contradiction)
    .obtain ⟨x,hx⟩:=zm (i:=k) (l:=s.ls) (by omega)
     have hnx:=ydb (d:=d) hx
     have han:=yea (p:=yai d) hx
     by_cases h5:x.fro<=d
     .have h5':=eq_true h5
      by_cases h6:d<=x.to
      .have h6':=eq_true h6
       have hp:yai d x=true:=by simp [yai,h5,h6]
       rw [rcI,if_pos hp] at hnx
       rw [hp,Bool.or_true] at han
       have qe:=aI qR (aI @hx (aI @h5' (aI @h6' @decide_true)));repeat' first|refine gC ?_ ?_<;>intro hc<;>try contradiction|refine gG ?_|show AK _;intro J Z|refine gJ ?_|omega|exact aT
       .rw [if_pos (by omega)] at hnx
        exact ⟨k+1,by omega,by omega,⟨by rw [hnx];simp,by rw [han],by simp⟩,by rw [hnx];simp⟩
       .rw [if_neg (by omega),xat] at hnx
        exact ⟨k+1,by omega,by omega,⟨by rw [hnx],by rw [han],by simp⟩,by rw [hnx]⟩
      .have h6':=eq_false h6
       have hp:yai d x=false:=by simp [yai,h5,h6]
       rw [rcI,if_neg (by rw [hp];exact xbi)] at hnx
       rw [hp,Bool.or_false] at han
       have qe:=aI qR (aI @hx (aI @h5' (aI @h6' yDF)));repeat' first|refine gC ?_ ?_<;>intro hc<;>try contradiction|refine gG ?_|show AK _;intro J Z|refine gJ ?_|omega|exact aT
       .rw [if_pos (by omega)] at hnx
        exact ⟨k+1,by omega,by omega,⟨by rw [hnx];simp,by rw [han],by simp⟩,by rw [hnx];simp⟩
       .rw [if_neg (by omega),xat] at hnx
        exact ⟨k+1,by omega,by omega,⟨by rw [hnx],by rw [han],by simp⟩,by rw [hnx]⟩
     .have h5':=eq_false h5
      have hp:yai d x=false:=by simp [yai,h5]
      rw [rcI,if_neg (by rw [hp];exact xbi)] at hnx
      rw [hp,Bool.or_false] at han
      have qe:=aI qR (aI @hx (aI @h5' yDF));repeat' first|refine gC ?_ ?_<;>intro hc<;>try contradiction|refine gG ?_|show AK _;intro J Z|refine gJ ?_|omega|exact aT
      .rw [if_pos (by omega)] at hnx
       exact ⟨k+1,by omega,by omega,⟨by rw [hnx];simp,by rw [han],by simp⟩,by rw [hnx];simp⟩
      .rw [if_neg (by omega),xat] at hnx
       exact ⟨k+1,by omega,by omega,⟨by rw [hnx],by rw [han],by simp⟩,by rw [hnx]⟩
    .have e:k=s.ls.length:=by omega
     subst e
     rw [xas] at hl ⊢
     by_cases hf:s.ls.any (yai d)=true
     .have hP:=yF b (zx b n) (rcS s d) hlt hb.n
      rw [if_pos hf]
      have qe:=aI qR (aI @h2 (aI @hf @zah));repeat' first|refine gC ?_ ?_<;>intro hc<;>try contradiction|refine zA (hP) ?_|refine gG ?_|show AK _;intro J Z|refine gJ ?_|omega|exact aT
      all_goals first|exact .refl _
     .have hf':s.ls.any (yai d)=false:=by simpa using hf
      rw [if_neg hf]
      have qe:=aI qR @hf';exact gD0
  .have e:rcE b c n d=zhn b c n (rng d 0 99999):=by rw [rcE,za1 hown]
   have ht0:=eq_false hown
   rw [e,if_neg hown]
   have qe:=aI qR (aI @ht0 (aI @decide_false @xal));have jA:=yM d;have jB:=yc b c n (rng d 0 99999);exact gD2
 .by_cases h:rcE b c n d=0
  .rw [if_pos h,if_pos h,h];exact .refl _
  .rw [if_neg h,if_neg h];exact zbt _
section
variable {α:Type}
def inF (bf:α->α->Bool) (l:α) (q:Bool × List α) (x:α):Bool × List α:=if q.1=false/\bf l x=true then (true,q.2++[l]++[x]) else (q.1,q.2++[x])
def inK (bf:α->α->Bool) (l:α) (L:List α):Bool × List α:=L.foldl (inF bf l) (false,[])
def ybX {bf:α->α->Bool} {l:α} {L:List α} {k:Nat} {x:α} (h:L[k]?=some x):inK bf l (L.take (k+1))=inF bf l (inK bf l (L.take k)) x:=by
 rw [zam h,inK,xa2];rfl
theorem ybn (bf:α->α->Bool) (l:α):∀ (L:List α) (q:Bool × List α),(L.foldl (inF bf l) q).2.length+(if (L.foldl (inF bf l) q).1=true then 0 else 1)=q.2.length+L.length+(if q.1=true then 0 else 1)
 | [],q=>rfl
 | x::r,q=>by
  rw [xbu,ybn bf l r,inF]
  by_cases k:q.1=false/\bf l x=true
  .rw [if_pos k,k.1];simp;omega
  .rw [if_neg k];simp only [xae,xaE,xbr];omega
def inR (bf:α->α->Bool) (l:α) (L:List α):List α:=if (inK bf l L).1=true then (inK bf l L).2 else (inK bf l L).2++[l]
def ycH (bf:α->α->Bool) (l:α) (L:List α):(inR bf l L).length=L.length+1:=by
 have h:(inK bf l L).2.length+(if (inK bf l L).1=true then 0 else 1)=0+L.length+1:=ybn bf l L (false,[])
 rw [inR]
 split
 .rename_i k;rw [if_pos k] at h;omega
 .rename_i k;rw [if_neg k] at h;simp;omega
def ycI (bf:α->α->Bool) (l:α) (L:List α):(inK bf l L).2.length<=L.length+1:=by
 have h:(inK bf l L).2.length+(if (inK bf l L).1=true then 0 else 1)=0+L.length+1:=ybn bf l L (false,[])
 omega
end
def ycg (l x:Lea):Bool:=decide (l.fro < x.fro)
def lnRS (s:Slt) (l:Lea):Slt:=⟨s.req,s.holder,inR ycg l s.ls,s.sh⟩
def ydD (b:Bk) (c n:ByteArray) (l:Lea) (hb:zfy b):Pure prog 61 [b.pv,.s c,.s n,l.pv] (.tup [(if lnC b c n l=0 then zo8 b n (lnRS (zn b n) l) else bk0).pv,.i .i64 (lnC b c n l)]):=by
 refine zar (r:=if lnC b c n l=0 then .tup [(zo8 b n (lnRS (zn b n) l)).pv,.i .i64 0] else .tup [.agg [.nilsl,.nilsl],.i .i64 (lnC b c n l)]) ?_ ?_
 .refine pz func61 f61.eq_1 λhw X hX=>?_
  by_cases hown:zhn b c n (zdC l)=0
  .obtain ⟨h1,h2,h3,h4⟩:=za6 hown
   obtain ⟨hI,hlt⟩:=yac hown
   have hC:lnC b c n l=lnE (zn b n) l:=by rw [lnC,zfM,za2 hown,zfj]
   have hsl:=(hb.s _ (xad h2)).1
   rw [hC]
   generalize hso:zn b n=s at h2 h3 hC hsl
   have ht0:=eq_true hown
   by_cases hlo:zfH s.raw l=0
   .have hlo':=eq_true hlo
    have hlE:lnE s l=zf [if meetL s l=true then 15 else 0,if 8<=(s.ls.length:Int) then 5 else 0]:=by rw [lnE,za2 hlo]
    have qe:=aI qR (aI @hI (aI @h2 (aI @ht0 (aI @hlo' (aI @decide_true (aI @decide_false (aI @xam @za9)))))));repeat' first|refine gC ?_ ?_<;>intro hc<;>try contradiction|refine za (yN l) ?_|refine za (yc b c n (zdC l)) ?_|refine za (yT s l) ?_|refine gG ?_|show AK _;intro J Z|refine gJ ?_|omega|exact aT
    refine zaO 900 103 3 [(4,.lp 4 0),(7,.lp 7 0),(8,.lp 8 0),(10,.p (.i .i64 (zx b n))),(12,.lp 12 0),(13,.row 900 0),(14,.p (.b false)),(15,.p (.i .i64 0))] [(4,.box [.p (.sl 16 (b.slots.map Slt.pv)),.p (.sl 14 (b.wait.map Wsh.pv))] false),(7,.box [.p (.s l.carrier),.p (.i .i64 l.fro),.p (.i .i64 l.to)] false),(8,.box [.p .nilsl,.p .nilsl] false),(12,.box (s.cells.map .p) false)] ?_ ?_
    .simp only [Own,zaL,zaA,zbr,zax,qS,seval]
    refine zi (κ:=Nat) (λk=>⟨[(4,.lp 4 0),(7,.lp 7 0),(8,.lp 8 0),(10,.p (.i .i64 (zx b n))),(12,.lp 12 0),(13,.row 900 (inK ycg l (s.ls.take k)).2.length),(14,.p (.b (inK ycg l (s.ls.take k)).1)),(15,.p (.i .i64 k))],[(4,.box [.p (.sl 16 (b.slots.map Slt.pv)),.p (.sl 14 (b.wait.map Wsh.pv))] false),(7,.box [.p (.s l.carrier),.p (.i .i64 l.fro),.p (.i .i64 l.to)] false),(8,.box [.p .nilsl,.p .nilsl] false),(12,.box (s.cells.map .p) false),(900,.row 103 3 ((inK ycg l (s.ls.take k)).2.map Lea.pv) false)],[],false⟩) (λk=>k<=s.ls.length/\∀ y ∈ s.ls.take k,ze0 l y=false) (λk=>s.ls.length - k) 0 ?_ ?_ ?_
    .refine gJ ?_;simp [inK]
    .simp
    .intro k hk
     have hl:(inK ycg l (s.ls.take k)).2.length<=k+1:=by have:=ycI ycg l (s.ls.take k);rw [xai] at this;omega
     repeat first|refine gG ?_|show AK _;intro J Z|refine gJ ?_|omega|exact aT
     (refine gC ?_ ?_<;>intro hc<;>try contradiction)
     .obtain ⟨x,hx⟩:=zm (i:=k) (l:=s.ls) (by omega)
      have hnx:=ybX (bf:=ycg) (l:=l) hx
      generalize hq:inK ycg l (s.ls.take k)=q at hnx hl
      by_cases hm:ze0 l x=true
      .have hL:lnE s l=15:=by
        have:meetL s l=true:=by rw [meetL,xbl];exact ⟨x,xad hx,hm⟩
        rw [hlE,if_pos this,za1 (by omega)]
       rw [hL,if_neg (by omega)]
       simp only [ze0,xap,decide_eq_true_eq] at hm
       have h5:=eq_true hm.1
       have h6:=eq_true hm.2
       have qe:=aI qR (aI @hx (aI @h5 (aI @h6 @decide_true)));exact gD0
      .have hm':ze0 l x=false:=by simpa using hm
       have hnt:=zgq hk.2 hx hm'
       obtain ⟨q1,q2⟩:=q
       simp only at hl hnx
       by_cases h5:x.fro<=l.to
       .have h6:¬l.fro<=x.to:=λk=>hm (by simp [ze0,h5,k])
        have h5':=eq_true h5
        have h6':=eq_false h6
        cases q1 with
        | true=>
         rw [inF,if_neg (by simp)] at hnx
         have qe:=aI qR (aI @hx (aI @h5' (aI @h6' (aI @decide_true (aI @decide_false @xam)))));repeat' first|refine gC ?_ ?_<;>intro hc<;>try contradiction|refine gG ?_|show AK _;intro J Z|refine gJ ?_|omega|exact aT
         all_goals exact ⟨k+1,⟨by omega,hnt⟩,by omega,⟨by rw [hnx];simp,by rw [hnx],by simp⟩,by rw [hnx];simp⟩
        | false=>
         by_cases h7:l.fro < x.fro
         .have h7':=eq_true h7
          rw [inF,if_pos ⟨rfl,decide_eq_true h7⟩] at hnx
          have qe:=aI qR (aI @hx (aI @h5' (aI @h6' (aI @h7' (aI @decide_true (aI @decide_false @xal))))));repeat' first|refine gC ?_ ?_<;>intro hc<;>try contradiction|refine gG ?_|show AK _;intro J Z|refine gJ ?_|omega|exact aT
          all_goals exact ⟨k+1,⟨by omega,hnt⟩,by omega,⟨by rw [hnx];simp,by rw [hnx],by simp⟩,by rw [hnx];simp⟩
         .have h7':=eq_false h7
          rw [inF,if_neg (λk=>h7 (of_decide_eq_true k.2))] at hnx
          have qe:=aI qR (aI @hx (aI @h5' (aI @h6' (aI @h7' (aI @decide_true (aI @decide_false @xal))))));repeat' first|refine gC ?_ ?_<;>intro hc<;>try contradiction|refine gG ?_|show AK _;intro J Z|refine gJ ?_|omega|exact aT
          all_goals exact ⟨k+1,⟨by omega,hnt⟩,by omega,⟨by rw [hnx];simp,by rw [hnx],by simp⟩,by rw [hnx];simp⟩
       .have h5':=eq_false h5
        cases q1 with
        | true=>
         rw [inF,if_neg (by simp)] at hnx
         have qe:=aI qR (aI @hx (aI @h5' (aI @decide_true (aI @decide_false @xam))));repeat' first|refine gC ?_ ?_<;>intro hc<;>try contradiction|refine gG ?_|show AK _;intro J Z|refine gJ ?_|omega|exact aT
         all_goals exact ⟨k+1,⟨by omega,hnt⟩,by omega,⟨by rw [hnx];simp,by rw [hnx],by simp⟩,by rw [hnx];simp⟩
        | false=>
         by_cases h7:l.fro < x.fro
         .have h7':=eq_true h7
          rw [inF,if_pos ⟨rfl,decide_eq_true h7⟩] at hnx
          have qe:=aI qR (aI @hx (aI @h5' (aI @h7' (aI @decide_true (aI @decide_false @xal)))));repeat' first|refine gC ?_ ?_<;>intro hc<;>try contradiction|refine gG ?_|show AK _;intro J Z|refine gJ ?_|omega|exact aT
          all_goals exact ⟨k+1,⟨by omega,hnt⟩,by omega,⟨by rw [hnx];simp,by rw [hnx],by simp⟩,by rw [hnx];simp⟩
         .have h7':=eq_false h7
          rw [inF,if_neg (λk=>h7 (of_decide_eq_true k.2))] at hnx
          have qe:=aI qR (aI @hx (aI @h5' (aI @h7' (aI @decide_true (aI @decide_false @xal)))));repeat' first|refine gC ?_ ?_<;>intro hc<;>try contradiction|refine gG ?_|show AK _;intro J Z|refine gJ ?_|omega|exact aT
          all_goals exact ⟨k+1,⟨by omega,hnt⟩,by omega,⟨by rw [hnx];simp,by rw [hnx],by simp⟩,by rw [hnx];simp⟩
     .have e:k=s.ls.length:=by omega
      subst e
      have hmL:meetL s l=false:=by
       rw [meetL,xcm];intro y hy
       have:=hk.2 y (by rw [xas];exact hy)
       rw [this];exact xbi
      have hE8:lnE s l=if 8<=(s.ls.length:Int) then 5 else 0:=by rw [hlE,if_neg (by rw [hmL];exact xbi),za2 rfl,zfj]
      have hlR:=ycH ycg l s.ls
      have hP:=yF b (zx b n) (lnRS s l) hlt hb.n
      have hRS:lnRS s l=⟨s.req,s.holder,inR ycg l s.ls,s.sh⟩:=rfl
      rw [xas] at hl ⊢
      rw [hE8]
      rw [hRS] at hP
      generalize hq:inK ycg l s.ls=q at hl
      have hlr:inR ycg l s.ls=if q.1=true then q.2 else q.2++[l]:=by rw [inR,hq]
      obtain ⟨q1,q2⟩:=q
      simp only at hl hlr
      by_cases h8:8<=(s.ls.length:Int)
      .rw [if_pos h8,if_neg (by omega)]
       cases q1 with
       | true=>
        rw [if_pos rfl] at hlr
        rw [hlr] at hlR
        have h9:((8:Int) < q2.length)=True:=eq_true (by omega)
        have qe:=aI qR (aI @h9 (aI @decide_true @xam));exact gD0
       | false=>
        rw [if_neg (by simp)] at hlr
        rw [hlr,xae,xbI] at hlR
        have h9:((8:Int) < (q2.length:Int)+1)=True:=eq_true (by omega)
        have h9':((8:Int) < ((q2.length+1:Nat):Int))=True:=eq_true (by omega)
        have qe:=aI qR (aI @h9 (aI @h9' (aI @decide_true @xal)));exact gD0
      .rw [if_neg h8,if_pos rfl]
       cases q1 with
       | true=>
        rw [if_pos rfl] at hlr
        rw [hlr] at hlR
        have h9:((8:Int) < q2.length)=False:=eq_false (by omega)
        rw [hlr] at hP
        rw [hRS,hlr]
        have qe:=aI qR (aI @h2 (aI @h9 (aI @zah (aI @decide_false @xam))));repeat' first|refine gC ?_ ?_<;>intro hc<;>try contradiction|refine zA (hP) ?_|refine gG ?_|show AK _;intro J Z|refine gJ ?_|omega|exact aT
        all_goals first|exact .refl _
       | false=>
        rw [if_neg (by simp)] at hlr
        rw [hlr,xae,xbI] at hlR
        have h9:((8:Int) < (q2.length:Int)+1)=False:=eq_false (by omega)
        have h9':((8:Int) < ((q2.length+1:Nat):Int))=False:=eq_false (by omega)
        have eA:(q2++[l]).map Lea.pv=q2.map Lea.pv++[l.pv]:=by simp
        have hP2:Pure prog 108 [b.pv,.i .i64 (zx b n),slX s (.sl 3 (q2.map Lea.pv++[l.pv])) (.sl 1 (s.sh.map .s))] (setB b (zx b n) ⟨s.req,s.holder,q2++[l],s.sh⟩).pv:=by
         rw [<-eA];exact yF b (zx b n) ⟨s.req,s.holder,q2++[l],s.sh⟩ hlt hb.n
        rw [hRS,hlr]
        have qe:=aI qR (aI @h2 (aI @h9 (aI @h9' (aI @zah (aI @decide_false @xal)))));repeat' first|refine gC ?_ ?_<;>intro hc<;>try contradiction|refine zA (hP2) ?_|refine gG ?_|show AK _;intro J Z|refine gJ ?_|omega|exact aT
        all_goals first|exact .refl _
   .have hlo':=eq_false hlo
    have hL:lnE s l=zfH s.raw l:=by rw [lnE,za1 hlo]
    rw [hL,if_neg hlo]
    have qe:=aI qR (aI @hI (aI @h2 (aI @ht0 (aI @hlo' (aI @decide_true (aI @decide_false (aI @xal @za9)))))));have jA:=yN l;have jB:=yc b c n (zdC l);have jC:=yT s l;exact gD4
  .have e:lnC b c n l=zhn b c n (zdC l):=by rw [lnC,zfM,za1 hown]
   have ht0:=eq_false hown
   rw [e,if_neg hown]
   have qe:=aI qR (aI @ht0 (aI @decide_false @xal));have jA:=yN l;have jB:=yc b c n (zdC l);exact gD2
 .by_cases h:lnC b c n l=0
  .rw [if_pos h,if_pos h,h];exact .refl _
  .rw [if_neg h,if_neg h];exact zbt _
theorem ycv {α:Type} {R:α->α->Prop} (tr:∀ a b c,R a b->R b c->R a c):∀ {L:List α},(∀ i x y,L[i]?=some x->L[i+1]?=some y->R x y)->L.Pairwise R
 | [],_=>.nil
 | [x],_=>by simp
 | x::y::r,h=>by
  have ih:(y::r).Pairwise R:=ycv tr λi a b h1 h2=>h (i+1) a b (by simpa using h1) (by simpa using h2)
  refine xbg.2 ⟨λz hz=>?_,ih⟩
  have hxy:=h 0 x y rfl rfl
  rcases xaA.1 hz with rfl|hz
  .exact hxy
  .exact tr _ _ _ hxy (xcd ih hz)
def leLt (a b:Lea):Prop:=a.fro<=a.to/\a.to < b.fro/\b.fro<=b.to
def ycS {l:Lea} (h:zdC l=0):l.fro<=l.to:=by
 have:=fE0 h (if l.to < l.fro then 11 else 0) (by simp)
 by_cases k:l.to < l.fro
 .rw [if_pos k] at this;omega
 .omega
def ycp {s:Slt} (h:zin s=0) {i:Nat} {x:Lea} (hx:s.ls[i]?=some x):zcY s i x=0:=yaQ (fE0 h (zf (s.ls.mapIdx (zcY s))) (by simp)) hx
def ybA {s:Slt} (h:zin s=0) {x:Lea} (hx:x ∈ s.ls):x.fro<=x.to:=by
 obtain ⟨i,hi⟩:=xaN.1 hx;exact ycS (fE0 (ycp h hi) _ (by simp))
def yeh {s:Slt} (h:zin s=0):s.ls.Pairwise leLt:=by
 refine ycv (λa b c h1 h2=>?_) λi x y hx hy=>?_
 .simp only [leLt] at *;omega
 .have h1:=ybA h (xad hx);have h2:=ybA h (xad hy);have:=fE0 (ycp h hy) (if 0 < ((i+1:Nat):Int)/\y.fro<=((s.ls[i+1 - 1]?).getD y).to then 15 else 0) (by simp)
  have e:(s.ls[i+1 - 1]?).getD y=x:=by rw [xbC,hx];rfl
  rw [e] at this
  by_cases k:0 < ((i+1:Nat):Int)/\y.fro<=x.to
  .rw [if_pos k] at this;omega
  .exact ⟨h1,by omega,h2⟩
theorem ya7 {α:Type} {p:α->Bool}:∀ {l:List α},(zcX p l < 0/\∀ x ∈ l,p x=false)\/∃ k x,zcX p l=(k:Nat)/\l[k]?=some x/\p x=true/\∀ y ∈ l.take k,p y=false
 | []=>.inl ⟨by simp [zcX],by simp⟩
 | x::r=>by
  by_cases h:p x=true
  .refine .inr ⟨0,x,?_,rfl,h,by simp⟩
   exact zdt (i:=0) (by simp) rfl h
  .have h':p x=false:=by simpa using h
   rcases ya7 (p:=p) (l:=r) with ⟨h1,h2⟩|⟨k,y,h1,h2,h3,h4⟩
   .have ha:∀ y ∈ x::r,p y=false:=λy hy=>by
     rcases xaA.1 hy with rfl|hy
     .exact h'
     .exact h2 y hy
    exact .inl ⟨by rw [zdu ha];omega,ha⟩
   .refine .inr ⟨k+1,y,?_,by simpa using h2,h3,?_⟩
    .refine zdt (i:=k+1) (λz hz=>?_) (by simpa using h2) h3
     rw [xbv] at hz
     rcases xaA.1 hz with rfl|hz
     .exact h'
     .exact h4 z hz
    .intro z hz;rw [xbv] at hz
     rcases xaA.1 hz with rfl|hz
     .exact h'
     .exact h4 z hz
def yeU {d:Int} {x:Lea} (h:yai d x=false) (hx:x.fro<=x.to):rcI d x=[x]:=by
 rw [rcI,if_neg (by rw [h];exact xbi),if_pos hx]
theorem ycu {d:Int}:∀ {L:List Lea},(∀ x ∈ L,yai d x=false/\x.fro<=x.to)->rcL d L=L
 | [],_=>rfl
 | x::r,h=>by
  have h1:=h x (by simp)
  have ih:rcL d r=r:=ycu λy hy=>h y (by simp [hy])
  rw [rcL,xaz,yeU h1.1 h1.2];rw [rcL] at ih;rw [ih];rfl
def yei {s:Slt} (h:zin s=0) (d:Int):(if s.ls.any (yai d)=true then 0 else 7)=zv9 s d/\(s.ls.any (yai d)=true->rcL d s.ls=recL s d):=by
 have hI:ztU s d=zcX (yai d) s.ls:=rfl
 rcases ya7 (p:=yai d) (l:=s.ls) with ⟨h1,h2⟩|⟨k,x,h1,h2,h3,h4⟩
 .have ha:s.ls.any (yai d)=false:=by
   rw [xcm];intro y hy;rw [h2 y hy];exact xbi
  rw [ha,zv9,hI,if_pos h1];exact ⟨rfl,λk=>by cases k⟩
 .have ha:s.ls.any (yai d)=true:=by rw [xbl];exact ⟨x,xad h2,h3⟩
  rw [ha,if_pos rfl,zv9,hI,h1,if_neg (by omega)]
  refine ⟨rfl,λ_=>?_⟩
  have hk:k < s.ls.length:=(xaa.1 h2).1;have hp:=yeh h;have hspl:s.ls=s.ls.take k++x::s.ls.drop (k+1):=by
   have:=xaw k s.ls;rw [xaU hk] at this;have e:s.ls[k]=x:=by rw [xab hk] at h2;exact xaM h2
   rw [e] at this;exact this.symm
  have hdx:=h3;simp only [yai,xap,decide_eq_true_eq] at hdx;have hle:∀ y ∈ s.ls,y.fro<=y.to:=λy hy=>ybA h hy
  have hA:rcL d (s.ls.take k)=s.ls.take k:=ycu λy hy=>⟨h4 y hy,hle y (xbf hy)⟩
  have hB:rcL d (s.ls.drop (k+1))=s.ls.drop (k+1):=by
   refine ycu λy hy=>⟨?_,hle y (xbA hy)⟩
   rw [hspl] at hp;have h5:=(xba.1 hp).2.1;have h6:=xcd h5 hy;simp only [leLt] at h6;simp only [yai,xbY,decide_eq_false_iff_not]
   omega
  have hC:zhi (d - 1) ((s.ls.take (k+1)).drop k)=rcI d x:=by
   have e:(s.ls.take (k+1)).drop k=[x]:=by
    rw [zam h2,xbF (by rw [xai];omega),xbj (by rw [xai];omega)];rfl
   rw [e,zhi,xaz,xbq,xat,zs8,rcI,if_pos h3];have hm:min x.to (d - 1)=d - 1:=by omega
   rw [cutE,hm]
   by_cases h7:x.fro<=d - 1
   .rw [if_pos (.inr h7),if_pos h7]
   .rw [if_neg (by omega),if_neg h7]
  rw [recL,hI,h1,xbS,hC]
  conv=>lhs;rw [hspl]
  rw [rcL,xa0,xaz];rw [rcL] at hA hB;rw [hA,hB]
def ycG {α:Type} {bef:α->α->Bool} {x:α} {A B:List α} (hA:∀ y ∈ A,bef x y=false) (hB:∀ y ∈ B,bef x y=true):zg6 bef (A++B) x=A++x::B:=by
 have hle:=ya5 bef x (A++B) (A++B).length;have h1:zbx bef x (A++B) (A++B).length=A.length:=by
  generalize hn:zbx bef x (A++B) (A++B).length=n at hle
  rcases xcp n A.length with h|h|h
  .obtain ⟨y,hy,hb⟩:=ya6 bef x (A++B) (A++B).length n (by omega) (by rw [xae];omega)
   rw [xaH h] at hy;rw [hA y (xad hy)] at hb;cases hb
  .exact h
  .obtain ⟨k,rfl⟩:∃ k,n=k+1:=⟨n - 1,by omega⟩
   rw [xae] at hle;obtain ⟨y,hy⟩:=zm (i:=k - A.length) (l:=B) (by omega)
   have hy':(A++B)[k]?=some y:=by rw [xax (by omega)];exact hy
   have:=yar bef x (A++B) _ k y hn hy';rw [hB y (xad hy)] at this;cases this
 rw [zg6,h1];simp
theorem ybi {α:Type} {c:α->α->Int}:∀ (L out:List α),(out++L).Pairwise (λa b=>¬c b a < 0)->L.foldl (zg6 (zjT c)) out=out++L
 | [],out,_=>by simp
 | x::r,out,h=>by
  have hx:zg6 (zjT c) out x=out++[x]:=by
   have:=ycG (bef:=zjT c) (x:=x) (A:=out) (B:=[]) (λy hy=>decide_eq_false ((xba.1 h).2.2 y hy x (by simp))) (by simp)
   rwa [xat] at this
  rw [xbu,hx,ybi r (out++[x]) (by rw [xau];exact h),xau];rfl
theorem ybW {α:Type} (bf:α->α->Bool) (l:α):∀ (B:List α) (out:List α),B.foldl (inF bf l) (true,out)=(true,out++B)
 | [],out=>by simp
 | x::r,out=>by
  rw [xbu,inF,if_neg (by simp),ybW bf l r];simp
theorem ybY {α:Type} (bf:α->α->Bool) (l:α):∀ (A:List α) (out:List α),(∀ y ∈ A,bf l y=false)->A.foldl (inF bf l) (false,out)=(false,out++A)
 | [],out,_=>by simp
 | x::r,out,h=>by
  rw [xbu,inF,if_neg (λk=>by have:=h x (by simp);rw [this] at k;cases k.2),ybY bf l r _ (λy hy=>h y (by simp [hy]))];simp
def yet {α:Type} {bf:α->α->Bool} {l:α} {A B:List α} (hA:∀ y ∈ A,bf l y=false) (hB:∀ y ∈ B,bf l y=true):inR bf l (A++B)=A++l::B:=by
 rw [inR,inK,xa2,ybY bf l A [] hA,xaP];cases B with
 | nil=>simp
 | cons x r=>
  have e:inF bf l (false,A) x=(true,A++[l]++[x]):=if_pos ⟨rfl,hB x (by simp)⟩
  rw [xbu,e,ybW];simp
theorem ybz {α:Type} {f:α->Int} {v:Int}:∀ {L:List α},L.Pairwise (λa b=>f a < f b)->∃ A B,L=A++B/\(∀ y ∈ A,¬v < f y)/\∀ y ∈ B,v < f y
 | [],_=>⟨[],[],rfl,by simp,by simp⟩
 | x::r,h=>by
  by_cases k:v < f x
  .exact ⟨[],x::r,rfl,by simp,λy hy=>by
    rcases xaA.1 hy with rfl|hy
    .exact k
    .have:=xcd h hy;omega⟩
  .obtain ⟨A,B,rfl,h1,h2⟩:=ybz (v:=v) (xbg.1 h).2;exact ⟨x::A,B,rfl,λy hy=>by
    rcases xaA.1 hy with rfl|hy
    .exact k
    .exact h1 y hy,h2⟩
def len_eq {s:Slt} (h:zin s=0) (l:Lea):inR ycg l s.ls=lnL s l:=by
 have hp:s.ls.Pairwise (λa b=>a.fro < b.fro):=(yeh h).imp fun {a b} k=>by simp only [leLt] at k;omega
 obtain ⟨A,B,e,hA,hB⟩:=ybz (v:=l.fro) hp;have hc:∀ a b:Lea,zyl a b < 0↔a.fro < b.fro:=λa b=>by
  simp only [zyl,zo7];(repeat' split)<;>omega
 have hs:zbJ zyl s.ls=s.ls:=by
  have:=ybi (c:=zyl) s.ls [] (by rw [xaP];exact hp.imp fun {a b} k=>by rw [hc];omega)
  rwa [xaP] at this
 rw [lnL,zbJ,xa2];rw [zbJ] at hs;rw [hs,e,yet (λy hy=>decide_eq_false (hA y hy)) (λy hy=>decide_eq_true (hB y hy))]
 exact (ycG (λy hy=>decide_eq_false (by rw [hc];exact hA y hy)) (λy hy=>decide_eq_true (by rw [hc];exact hB y hy))).symm
def yeg {s:Slt} (h:zin s=0):s.sh.length<=4:=by
 have:=fE0 h (if 4 < (s.sh.length:Int) then 5 else 0) (by simp)
 by_cases k:4 < (s.sh.length:Int)
 .rw [if_pos k] at this;omega
 .omega
def yD {b:Bk} (h:zG b=0) {c n:ByteArray} {e:Int} (ho:zhn b c n e=0):zin (zn b n)=0:=ycV h (xad (za6 ho).2.1)
def ref_ln {b:Bk} (h:zG b=0) (c n:ByteArray) (l:Lea):(if lnC b c n l=0 then zo8 b n (lnRS (zn b n) l) else bk0)=lnB b c n l:=by
 rw [lnB]
 split
 .rename_i k;have ho:zhn b c n (zdC l)=0:=fE0 k _ (by simp)
  rw [lnRS,lnS,len_eq (yD h ho)]
 .rfl
def yct {b:Bk} (h:zG b=0) (c n:ByteArray) (d:Int):rcE b c n d=reC b c n d:=by
 rw [rcE,reC,zfM]
 by_cases ho:zhn b c n (rng d 0 99999)=0
 .rw [(yei (yD h ho) d).1]
 .rw [za1 ho,za1 ho]
def ref_rc {b:Bk} (h:zG b=0) (c n:ByteArray) (d:Int):(if rcE b c n d=0 then zo8 b n (rcS (zn b n) d) else bk0)=reB b c n d:=by
 rw [yct h,reB]
 split
 .rename_i k;have ho:zhn b c n (rng d 0 99999)=0:=fE0 k _ (by simp)
  have hr:zv9 (zn b n) d=0:=fE0 k _ (by simp)
  obtain ⟨h1,h2⟩:=yei (yD h ho) d;have ha:(zn b n).ls.any (yai d)=true:=by
   by_cases q:(zn b n).ls.any (yai d)=true
   .exact q
   .rw [if_neg q] at h1;omega
  rw [rcS,zv8,h2 ha]
 .rfl
def lnB_ok {b:Bk} (hb:zfy b) (h:zG b=0) (c n:ByteArray) (l:Lea):zfy (lnB b c n l):=by
 rw [lnB];split
 .rename_i k;have ho:zhn b c n (zdC l)=0:=fE0 k _ (by simp)
  have h8:=fE0 (yD h ho) (if 8 < ((zn b n).ls.length:Int) then 5 else 0) (by simp)
  have h9:(zn b n).ls.length<=8:=by
   by_cases q:8 < ((zn b n).ls.length:Int)
   .rw [if_pos q] at h8;omega
   .omega
  exact yaH hb ⟨by simp only [lnS,zof];omega,(y7 hb).2⟩
 .exact yK
def yeS (s:Slt) (d:Int):(recL s d).length<=s.ls.length+1:=by
 rw [recL,xae,xae];have h1:=zkU (d - 1) ((s.ls.take ((ztU s d).toNat+1)).drop (ztU s d).toNat);simp only [xaF,xai] at h1 ⊢
 omega
def reB_ok {b:Bk} (hb:zfy b) (h:zG b=0) (c n:ByteArray) (d:Int):zfy (reB b c n d):=by
 rw [reB];split
 .rename_i k;have ho:zhn b c n (rng d 0 99999)=0:=fE0 k _ (by simp)
  have h8:=fE0 (yD h ho) (if 8 < ((zn b n).ls.length:Int) then 5 else 0) (by simp)
  have h9:(zn b n).ls.length<=8:=by
   by_cases q:8 < ((zn b n).ls.length:Int)
   .rw [if_pos q] at h8;omega
   .omega
  have:=yeS (zn b n) d;exact yaH hb ⟨by simp only [zv8];omega,(y7 hb).2⟩
 .exact yK
def shB_ok {b:Bk} (hb:zfy b) (h:zG b=0) (c n to:ByteArray):zfy (shB b c n to):=by
 rw [shB];split
 .rename_i k;have ho:zhn b c n (zaG to)=0:=fE0 k _ (by simp)
  have:=yeg (yD h ho);exact yaH hb ⟨(y7 hb).1,by simp only [shS,xae,xbI];omega⟩
 .exact yK
def ltI (d x:Int):List Int:=if x < d then [x] else []
def ltL (d:Int) (L:List Int):List Int:=L.flatMap (ltI d)
def ydS {d:Int} {L:List Int} {k:Nat} {x:Int} (h:L[k]?=some x):ltL d (L.take (k+1))=ltL d (L.take k)++ltI d x:=by
 rw [zam h,ltL,xa0];simp [ltL]
def ye4 (d:Int) (L:List Int):(ltL d L).length<=L.length:=by
 induction L with
 | nil=>simp [ltL]
 | cons x r ih=>
  have:(ltI d x).length<=1:=by unfold ltI;split<;>simp
  simp only [ltL,xaz,xae,xaE] at ih ⊢;omega
def bkI (d:Int) (l:Lea):List Lea:=if l.fro < d then [cutE (d - 1) l] else []
def bkL (d:Int) (L:List Lea):List Lea:=L.flatMap (bkI d)
def yd7 {d:Int} {L:List Lea} {k:Nat} {x:Lea} (h:L[k]?=some x):bkL d (L.take (k+1))=bkL d (L.take k)++bkI d x:=by
 rw [zam h,bkL,xa0];simp [bkL]
def yfs (d:Int) (L:List Lea):(bkL d L).length<=L.length:=by
 induction L with
 | nil=>simp [bkL]
 | cons x r ih=>
  have:(bkI d x).length<=1:=by unfold bkI;split<;>simp
  simp only [bkL,xaz,xae,xaE] at ih ⊢;omega
def bkS (s:Slt) (d:Int):Slt:=⟨{ s.req with per:=zpy s.req.per d },s.holder,bkL d s.ls,s.sh⟩
def bkY (b:Bk) (n:ByteArray) (d:Int):Bk:=if ltL d (zW (zn b n).req.per)=[] then ⟨b.slots.take (zx b n)++b.slots.drop (zx b n+1),b.wait⟩ else zo8 b n (bkS (zn b n) d)
def ycW (d:Nat) (look:Nat->Option LObj) (n:Int):zb d look (.bin .gtr) [.p (.i .i64 n),.p .any]=none:=rfl
def any_7:(PV.any.cells[7]?).getD .any=.any:=rfl
def ydE (b:Bk) (c n:ByteArray) (d:Int) (hb:zfy b) (hpr:∀ s ∈ b.slots,zat s.req.per=0):Pure prog 54 [b.pv,.s c,.s n,.i .i64 d] (.tup [(if zpf b c n d=0 then bkY b n d else bk0).pv,.i .i64 (zpf b c n d)]):=by
 refine zar (r:=if zpf b c n d=0 then .tup [(bkY b n d).pv,.i .i64 0] else .tup [.agg [.nilsl,.nilsl],.i .i64 (zpf b c n d)]) ?_ ?_
 .refine pz func54 f54.eq_1 λhw X hX=>?_
  by_cases hown:zhn b c n (rng d 0 99999)=0
  .obtain ⟨h1,h2,h3,h4⟩:=za6 hown
   obtain ⟨hI,hlt⟩:=yac hown
   have hd:=znr (zuD hown)
   have hC:zpf b c n d=zsp (zn b n) d:=by rw [zpf,zfM,za2 hown,zfj]
   have hsl:=(hb.s _ (xad h2)).1
   have hp:=hpr _ (xad h2)
   have hbn:=hb.n
   rw [hC,bkY]
   generalize hso:zn b n=s at h2 h3 hC hsl hp
   have ht0:=eq_true hown
   by_cases hto:s.req.per.to < d
   .have hto':=eq_true hto
    rw [zsp,if_pos hto,if_neg (by omega)]
    have qe:=aI qR (aI @hI (aI @h2 (aI @ht0 (aI @hto' (aI @decide_true (aI @decide_false (aI @xal @za9)))))));have jA:=yM d;have jB:=yc b c n (rng d 0 99999);exact gD2
   have hto':=eq_false hto
   rw [zsp,if_neg hto,if_pos rfl]
   have h67:=yaC s.req.per hp
   have hDl:=zcE s.req.per
   have hper:=zaW hp
   generalize hD:zW s.req.per=D at h67 hDl
   have qe:=aI qR (aI @hI (aI @h2 (aI @ht0 (aI @hto' (aI @decide_true (aI @decide_false (aI @xam @za9)))))));repeat' first|refine gC ?_ ?_<;>intro hc<;>try contradiction|refine za (yM d) ?_|refine za (yc b c n (rng d 0 99999)) ?_|refine za h67 ?_|refine gG ?_|show AK _;intro J Z|refine gJ ?_|omega|exact aT
   refine zaO 900 3 1 [(3,.p (.i .i64 d)),(4,.lp 4 0),(8,.lp 8 0),(10,.p (.i .i64 (zx b n))),(12,.lp 12 0),(13,.row 900 0),(14,.p (.sl 1 (D.map (.i .i64)))),(15,.p (.i .i64 0))] [(4,.box [.p (.sl 16 (b.slots.map Slt.pv)),.p (.sl 14 (b.wait.map Wsh.pv))] false),(8,.box [.p .nilsl,.p .nilsl] false),(12,.box (s.cells.map .p) false)] ?_ ?_
   .simp only [Own,zaL,zaA,zbr,zax,qS,seval]
   refine zi (κ:=Nat) (λk=>⟨[(3,.p (.i .i64 d)),(4,.lp 4 0),(8,.lp 8 0),(10,.p (.i .i64 (zx b n))),(12,.lp 12 0),(13,.row 900 (ltL d (D.take k)).length),(14,.p (.sl 1 (D.map (.i .i64)))),(15,.p (.i .i64 k))],[(4,.box [.p (.sl 16 (b.slots.map Slt.pv)),.p (.sl 14 (b.wait.map Wsh.pv))] false),(8,.box [.p .nilsl,.p .nilsl] false),(12,.box (s.cells.map .p) false),(900,.row 3 1 ((ltL d (D.take k)).map (.i .i64)) false)],[],false⟩) (λk=>k<=D.length) (λk=>D.length - k) 0 ?_ ?_ ?_
   .refine gJ ?_;simp [ltL]
   .simp
   .intro k hk
    have hl:(ltL d (D.take k)).length<=k:=by have:=ye4 d (D.take k);rw [xai] at this;omega
    repeat first|refine gG ?_|show AK _;intro J Z|refine gJ ?_|omega|exact aT
    (refine gC ?_ ?_<;>intro hc<;>try contradiction)
    .obtain ⟨x,hx⟩:=zm (i:=k) (l:=D) (by omega)
     have hnx:=ydS (d:=d) hx
     have qe:=aI qR @hx;repeat' first|refine gC ?_ ?_<;>intro hc<;>try contradiction|refine gG ?_|show AK _;intro J Z|refine gJ ?_|omega|exact aT
     .rw [ltI,if_pos hc] at hnx
      exact ⟨k+1,by omega,by omega,⟨by rw [hnx];simp,by simp⟩,by rw [hnx];simp⟩
     .rw [ltI,if_neg (by omega),xat] at hnx
      exact ⟨k+1,by omega,by omega,⟨by rw [hnx],by simp⟩,by rw [hnx]⟩
    .have e:k=D.length:=by omega
     subst e
     rw [xas] at hl ⊢
     by_cases hf:ltL d D=[]
     .have hT:∀ k,(b.slots.map Slt.pv).take k=(b.slots.take k).map Slt.pv:=λk=>by rw [xbk]
      have hDr:∀ k,(b.slots.map Slt.pv).drop k=(b.slots.drop k).map Slt.pv:=λk=>by rw [List.map_drop]
      have hA:=λl=>eq_true (yeb l)
      have hk1:((zx b n:Int)+1).toNat=zx b n+1:=by omega
      have hlen:(b.slots.take (zx b n)).length=zx b n:=by rw [xai];omega
      have hlenD:(b.slots.drop (zx b n+1)).length=b.slots.length - (zx b n+1):=by rw [xaF]
      rw [hf,if_pos rfl]
      have hr:(⟨b.slots.take (zx b n)++b.slots.drop (zx b n+1),b.wait⟩:Bk).pv=.agg [.sl 16 ((b.slots.take (zx b n)).map Slt.pv++(b.slots.drop (zx b n+1)).map Slt.pv),.sl 14 (b.wait.map Wsh.pv)]:=by
       show (PV.agg [.sl 16 ((b.slots.take (zx b n)++b.slots.drop (zx b n+1)).map Slt.pv),.sl 14 (b.wait.map Wsh.pv)])=_
       rw [xaO]
      rw [hr]
      have qe:=aI qR (aI @hT (aI @hDr (aI @hA (aI @hk1 (aI @hlen @zah)))));repeat' first|refine gC ?_ ?_<;>intro hc<;>try contradiction|refine gG ?_|show AK _;intro J Z|refine gJ ?_|omega|exact aT
      all_goals first|exact .refl _
     .have hf':(((ltL d D).length:Int)=0)=False:=eq_false (λk=>hf (xaq (by omega)))
      have hP:=yF b (zx b n) (bkS s d) hlt hbn
      rw [if_neg hf]
      have qe:=aI qR (aI @hf' @decide_false);repeat' first|refine gC ?_ ?_<;>intro hc<;>try contradiction|refine gG ?_|show AK _;intro J Z|refine gJ ?_|omega|exact aT
      refine zaO 901 103 3 [(3,.p (.i .i64 d)),(4,.lp 4 0),(8,.lp 8 0),(10,.p (.i .i64 (zx b n))),(12,.lp 12 0),(16,.row 901 0),(17,.p (.i .i64 0))] [(4,.box [.p (.sl 16 (b.slots.map Slt.pv)),.p (.sl 14 (b.wait.map Wsh.pv))] false),(8,.box [.p .nilsl,.p .nilsl] false),(12,.box ((⟨{ s.req with per:=zpy s.req.per d },s.holder,s.ls,s.sh⟩:Slt).cells.map .p) false)] ?_ ?_
      .simp only [Own,zaL,zaA,zbr,zax,qS,seval,zpy]
      refine zi (κ:=Nat) (λk=>⟨[(3,.p (.i .i64 d)),(4,.lp 4 0),(8,.lp 8 0),(10,.p (.i .i64 (zx b n))),(12,.lp 12 0),(16,.row 901 (bkL d (s.ls.take k)).length),(17,.p (.i .i64 k))],[(4,.box [.p (.sl 16 (b.slots.map Slt.pv)),.p (.sl 14 (b.wait.map Wsh.pv))] false),(8,.box [.p .nilsl,.p .nilsl] false),(12,.box ((⟨{ s.req with per:=zpy s.req.per d },s.holder,s.ls,s.sh⟩:Slt).cells.map .p) false),(901,.row 103 3 ((bkL d (s.ls.take k)).map Lea.pv) false)],[],false⟩) (λk=>k<=s.ls.length) (λk=>s.ls.length - k) 0 ?_ ?_ ?_
      .refine gJ ?_;simp [bkL]
      .simp
      .intro k hk
       have hl2:(bkL d (s.ls.take k)).length<=k:=by have:=yfs d (s.ls.take k);rw [xai] at this;omega
       repeat first|refine gG ?_|show AK _;intro J Z|refine gJ ?_|omega|exact aT
       (refine gC ?_ ?_<;>intro hc<;>try contradiction)
       .obtain ⟨x,hx⟩:=zm (i:=k) (l:=s.ls) (by omega)
        have hnx:=yd7 (d:=d) hx
        have qe:=aI qR @hx;repeat' first|refine gC ?_ ?_<;>intro hc<;>try contradiction|refine gG ?_|show AK _;intro J Z|refine gJ ?_|omega|exact aT
        .rw [bkI,if_pos hc] at hnx
         exact ⟨k+1,by omega,by omega,⟨by rw [hnx];simp,by simp⟩,by rw [hnx];simp [cutE]⟩
        .rw [bkI,if_neg (by omega),xat] at hnx
         exact ⟨k+1,by omega,by omega,⟨by rw [hnx],by simp⟩,by rw [hnx]⟩
       .have e:k=s.ls.length:=by omega
        subst e
        rw [xas] at hl2 ⊢
        have qe:=aI qR (aI @h2 @zah);repeat' first|refine gC ?_ ?_<;>intro hc<;>try contradiction|refine zA (hP) ?_|refine gG ?_|show AK _;intro J Z|refine gJ ?_|omega|exact aT
        all_goals first|exact .refl _
  .have e:zpf b c n d=zhn b c n (rng d 0 99999):=by rw [zpf,zfM,za1 hown]
   have ht0:=eq_false hown
   rw [e,if_neg hown]
   rcases hsx:b.slots[(yaV b c n).toNat]? with _|sx
   .have qe:=aI qR (aI @ht0 (aI @hsx (aI @ycW (aI @any_7 (aI @false_and (aI @ifF (aI @decide_false @xal)))))));have jA:=yM d;have jB:=yc b c n (rng d 0 99999);exact gD2
   .have qe:=aI qR (aI @ht0 (aI @hsx (aI @decide_false @xal)));have jA:=yM d;have jB:=yc b c n (rng d 0 99999);exact gD2
 .by_cases h:zpf b c n d=0
  .rw [if_pos h,if_pos h,h];exact .refl _
  .rw [if_neg h,if_neg h];exact zbt _
def ye5 (d:Int) (A B:List Int):ltL d (A++B)=ltL d A++ltL d B:=by simp [ltL]
def yfm (p:Per) (d:Int) (hd:d<=p.to):ltL d (zW p)=zW (zpy p d):=by
 have key:∀ N:Nat,ltL d ((List.range N).flatMap λ(k:Nat)=>if inM p.days ((p.fro+k+5) % 7) then [p.fro+k] else [])=(List.range (min N (d - p.fro).toNat)).flatMap λ(k:Nat)=>if inM p.days ((p.fro+k+5) % 7) then [p.fro+k] else []:=by
  intro N
  induction N with
  | zero=>simp [ltL]
  | succ N ih=>
   rw [xa7,xa0,ye5,ih];simp only [xaz,xbq,xat]
   by_cases h:N < (d - p.fro).toNat
   .rw [xbw (by omega),xbw (by omega),xa7,xa0]
    simp only [xaz,xbq,xat]
    congr 1
    split
    .simp only [ltL,xaz,xbq,xat,ltI];rw [if_pos (by omega)]
    .rfl
   .rw [xcu (by omega),xcu (by omega)]
    have:ltL d (if inM p.days ((p.fro+(N:Int)+5) % 7) then [p.fro+(N:Int)] else [])=[]:=by
     split
     .simp only [ltL,xaz,xbq,xat,ltI];rw [if_neg (by omega)]
     .rfl
    rw [this,xat]
 unfold zW;rw [key];simp only [zpy]
 congr 2
 omega
theorem yew {d:Int}:∀ {L:List Lea},(∀ x ∈ L,x.fro<=x.to)->bkL d L=zhi (d - 1) L
 | [],_=>rfl
 | x::r,h=>by
  have h1:=h x (by simp)
  have ih:bkL d r=zhi (d - 1) r:=yew λy hy=>h y (by simp [hy])
  have e:bkI d x=zs8 (d - 1) x:=by
   rw [bkI,zs8]
   by_cases k:x.fro < d
   .rw [if_pos k,if_pos (by omega)]
   .rw [if_neg k,if_neg (by omega)]
  rw [bkL,zhi] at ih ⊢;rw [xaz,xaz,e,ih]
def yft {p:Per} {d:Int} (hp:zat p=0) (hd:d<=p.to) (hf:p.fro < d):zat (zpy p d)=0:=by
 have h:=zaW hp;unfold zat;simp only [zq,zdl,zg5 (show (11:Int)≠0 by decide),zg5 (show (4:Int)≠0 by decide),zpy]
 refine ⟨by omega,by omega,by omega,by omega,by omega,rfl⟩
def yd8 {b:Bk} {n:ByteArray} {d:Int} (hp:zat (zn b n).req.per=0) (hd:d<=(zn b n).req.per.to):bckD b n d↔¬ltL d (zW (zn b n).req.per)=[]:=by
 rw [bckD,yfm _ _ hd]
 constructor
 .rintro ⟨h1,h2⟩ h3;rw [zdf,if_pos h1,h3] at h2;exact h2 rfl
 .intro h;have hf:(zn b n).req.per.fro < d:=by
   apply xbt;intro k
   apply h
   have e:(d - 1 - (zn b n).req.per.fro+1).toNat=0:=by omega
   unfold zW;simp only [zpy];rw [e];rfl
  have h1:=yft hp hd hf;refine ⟨h1,λk=>h ?_⟩
  rw [zdf,if_pos h1] at k;exact xaq k
def ref_bk {b:Bk} (h:zG b=0) (c n:ByteArray) (d:Int):(if zpf b c n d=0 then bkY b n d else bk0)=zvV b c n d:=by
 rw [zvV]
 split
 .rename_i k;have ho:zhn b c n (rng d 0 99999)=0:=fE0 k _ (by simp)
  have he:zsp (zn b n) d=0:=fE0 k _ (by simp)
  have hto:¬(zn b n).req.per.to < d:=λq=>by rw [zsp,if_pos q] at he;omega
  obtain ⟨h1,h2,h3,h4⟩:=za6 ho;have hp:=(zeC (yX h (xad h2))).1;have hD:=yd8 (b:=b) (n:=n) (d:=d) hp (by omega)
  rw [bkY,zwd]
  by_cases hl:ltL d (zW (zn b n).req.per)=[]
  .rw [if_pos hl,if_neg (λq=>hD.1 q hl),zhk,zo8]
   simp only;rw [List.take_set_of_le (xaj _),List.drop_set_of_lt (Nat.lt_succ_self _)]
  .rw [if_neg hl,if_pos (hD.2 hl),zhk];have:bkS (zn b n) d=zvU (zn b n) d:=by rw [bkS,zvU,yew (λx hx=>ybA (yD h ho) hx)]
   rw [this]
 .rfl
def ycM {l:List Lim} {m:List Mov} {r:Req} (hl:zZ l=0) (hm:zae m=0) (hr:zdB r=0):zjz l m r=zoC l m r:=by
 have:fitC l m r=0:=by
  unfold fitC;refine zq.2 ⟨?_,zq.2 ⟨hr,rfl⟩⟩;exact zq.2 ⟨hl,zq.2 ⟨hm,rfl⟩⟩
 rw [zjz,this];simp
def ycU {l:List Lim} {m:List Mov} (hl:zZ l=0) (hm:zae m=0):zpd l m=0:=zq.2 ⟨hl,zq.2 ⟨hm,rfl⟩⟩
def ye3 {b:Bk} (h:zG b=0):movF b (-1)=mvS b.slots:=by
 have:=(yfr h).1;rw [mvE,if_pos h] at this;exact this
def ybj {b:Bk} (h:∀ s ∈ b.slots,zdB s.req=0) (hn:b.slots.length<=64):movF b (-1)=mvS b.slots/\zae (mvS b.slots)=0/\(mvS b.slots).length<=401*b.slots.length:=by
 have:=ycC h (by omega) b.slots.length (xaj _)
 rw [xas] at this;have e:(b.slots.map (·.req)).take b.slots.length=b.slots.map (·.req):=xag (by simp)
 rw [e] at this;rw [movF,ycs];exact this
def ybL (l:List Lim) (b:Bk) (q:Req) (hok:zfy b) (hl:zZ l=0) (hc:∀ s ∈ b.slots,zdB s.req=0) (hn64:b.slots.length<=64):Pure prog 51 [.sl 11 (l.map Lim.pv),b.pv,q.pv] (.tup [(zjv l b q).pv,.i .i64 (zei l b q)]):=by
 refine zar (r:=if zei l b q=0 then .tup [.agg [.sl 16 (b.slots.map Slt.pv++[zwL q]),.sl 14 (b.wait.map Wsh.pv)],.i .i64 0] else .tup [.agg [.nilsl,.nilsl],.i .i64 (zei l b q)]) ?_ ?_
 .refine pz func51 f51.eq_1 λhw X hX=>?_
  have ht:tkE b q.name=if zhw (b.slots.map (·.req.name)) (b.wait.map (·.req.name)) q.name=true then 9 else 0:=rfl
  have e9:((9:Int)=0)=False:=eq_false (by omega)
  have e5:((5:Int)=0)=False:=eq_false (by omega)
  have e14:((14:Int)=0)=False:=eq_false (by omega)
  by_cases hq:zsh q=0
  .have hq':=eq_true hq;have hE:zoy b q=zf [tkE b q.name,if 64<=(b.slots.length:Int) then 5 else 0]:=za2 hq
   by_cases h1:0<=atL q.name (b.slots.map (·.req.name))
   .have h1':=eq_true h1;have hT:tkE b q.name=9:=by rw [ht,zhw,decide_eq_true h1,xcE,if_pos rfl]
    have hC:zei l b q=9:=by rw [zei,hE,hT,za1 (by omega),if_neg (by omega)]
    rw [hC,if_neg (by omega)]
    have qe:=aI qR (aI @hq (aI @hq' (aI @h1' (aI @e9 (aI @za9 (aI @decide_true (aI @decide_false @xal)))))));repeat' first|refine gC ?_ ?_<;>intro hc<;>try contradiction|refine za (yG q) ?_|refine zp (λ_=>yf b.slots q.name) ?_|refine zp (λ_=>yh b.wait q.name) ?_|(show zh _ _ _ _ (⟨_,.call 106,_,_,_⟩::_) _ _;refine ya (q:=.sl 7 []) (by first|rfl|(simp (disch:=omega) only [qG,qe,seval]<;>rfl)) ?_;(try (refine zF ?_)))|(show zh _ _ _ _ (⟨_,.call 105,_,_,_⟩::_) _ _;refine ya (q:=.b false) (by first|rfl|(simp (disch:=omega) only [qG,qe,seval]<;>rfl)) ?_;(try (refine zF ?_)))|refine gG ?_|show AK _;intro J Z|refine gJ ?_|omega|exact aT
    all_goals exact .refl _
   .have h1':=eq_false h1
    by_cases h2:0<=atL q.name (b.wait.map (·.req.name))
    .have h2':=eq_true h2;have hT:tkE b q.name=9:=by rw [ht,zhw,decide_eq_true h2,Bool.or_true,if_pos rfl]
     have hC:zei l b q=9:=by rw [zei,hE,hT,za1 (by omega),if_neg (by omega)]
     rw [hC,if_neg (by omega)]
     have qe:=aI qR (aI @hq (aI @hq' (aI @h1' (aI @h2' (aI @e9 (aI @za9 (aI @decide_true (aI @decide_false @xal))))))));repeat' first|refine gC ?_ ?_<;>intro hc<;>try contradiction|refine za (yG q) ?_|refine zp (λ_=>yf b.slots q.name) ?_|refine zp (λ_=>yh b.wait q.name) ?_|(show zh _ _ _ _ (⟨_,.call 106,_,_,_⟩::_) _ _;refine ya (q:=.sl 7 []) (by first|rfl|(simp (disch:=omega) only [qG,qe,seval]<;>rfl)) ?_;(try (refine zF ?_)))|(show zh _ _ _ _ (⟨_,.call 105,_,_,_⟩::_) _ _;refine ya (q:=.b false) (by first|rfl|(simp (disch:=omega) only [qG,qe,seval]<;>rfl)) ?_;(try (refine zF ?_)))|refine gG ?_|show AK _;intro J Z|refine gJ ?_|omega|exact aT
     all_goals exact .refl _
    .have h2':=eq_false h2;have hT:tkE b q.name=0:=by rw [ht,zhw,decide_eq_false h1,decide_eq_false h2];rfl
     by_cases h64:b.slots.length=64
     .have hC:zei l b q=5:=by
       have h5:zoy b q=5:=by rw [hE,hT,za2 rfl,zfj,if_pos (by omega)]
       rw [zei,h5,if_neg (by omega)]
      have h64':((b.slots.length:Int)=64)=True:=eq_true (by omega)
      rw [hC,if_neg (by omega)]
      have qe:=aI qR (aI @hq (aI @hq' (aI @h1' (aI @h2' (aI @h64' (aI @e5 (aI @za9 (aI @decide_true (aI @decide_false @xal)))))))));repeat' first|refine gC ?_ ?_<;>intro hc<;>try contradiction|refine za (yG q) ?_|refine zp (λ_=>yf b.slots q.name) ?_|refine zp (λ_=>yh b.wait q.name) ?_|(show zh _ _ _ _ (⟨_,.call 106,_,_,_⟩::_) _ _;refine ya (q:=.sl 7 []) (by first|rfl|(simp (disch:=omega) only [qG,qe,seval]<;>rfl)) ?_;(try (refine zF ?_)))|(show zh _ _ _ _ (⟨_,.call 105,_,_,_⟩::_) _ _;refine ya (q:=.b false) (by first|rfl|(simp (disch:=omega) only [qG,qe,seval]<;>rfl)) ?_;(try (refine zF ?_)))|refine gG ?_|show AK _;intro J Z|refine gJ ?_|omega|exact aT
      all_goals exact .refl _
     .have h64':((b.slots.length:Int)=64)=False:=eq_false (by omega)
      have hHE:zoy b q=0:=by rw [hE,hT,za2 rfl,zfj,if_neg (by omega)]
      obtain ⟨m1,m2,m3⟩:=ybj hc hn64;have hr:=yaa hq;have hR:=ybK b.slots hc (λs hs=>by have:=(yal (hc s hs)).2;omega) (by omega)
      have hF:=yel l (mvS b.slots) q (ycU hl m2) hr;have hfr:zjz l (movF b (-1)) q=zoC l (mvS b.slots) q:=by rw [m1,ycM hl m2 hr]
      by_cases hf:zoC l (mvS b.slots) q=true
      .have hC:zei l b q=0:=by rw [zei,if_pos hHE,hfr,if_pos hf]
       have hA:=eq_true (yeb b.slots);rw [hC,if_pos rfl];have qe:=aI qR (aI @hq (aI @hq' (aI @h1' (aI @h2' (aI @h64' (aI @hf (aI @hA (aI @zah (aI @za9 (aI @decide_true (aI @decide_false @xam)))))))))));repeat' first|refine gC ?_ ?_<;>intro hc<;>try contradiction|refine za (yG q) ?_|refine zp (λ_=>yf b.slots q.name) ?_|refine zp (λ_=>yh b.wait q.name) ?_|refine zp (λ_=>hR) ?_|refine zp (λ_=>hF) ?_|refine gG ?_|show AK _;intro J Z|refine gJ ?_|omega|exact aT
       all_goals first|exact .refl _
      .have hf':zoC l (mvS b.slots) q=false:=by simpa using hf
       have hC:zei l b q=14:=by rw [zei,if_pos hHE,hfr,if_neg hf]
       rw [hC,if_neg (by omega)]
       have qe:=aI qR (aI @hq (aI @hq' (aI @h1' (aI @h2' (aI @h64' (aI @hf' (aI @e14 (aI @za9 (aI @decide_true (aI @decide_false @xal))))))))));have jA:=yG q;have jB:=yf b.slots q.name;have jC:=yh b.wait q.name;have jD:=hR;have jE:=hF;exact gD8
  .have hq':=eq_false hq;have hHE:zoy b q=zsh q:=za1 hq;have hC:zei l b q=zsh q:=by rw [zei,hHE,if_neg hq]
   rw [hC,if_neg hq];have qe:=aI qR (aI @hq' (aI @decide_false @xal));repeat' first|refine gC ?_ ?_<;>intro hc<;>try contradiction|refine za (yG q) ?_|(show zh _ _ _ _ (⟨_,.call 46,_,_,_⟩::_) _ _;refine ya (q:=.i .i64 0) (by first|rfl|(simp (disch:=omega) only [qG,qe,seval]<;>rfl)) ?_;(try (refine zF ?_)))|(show zh _ _ _ _ (⟨_,.call 48,_,_,_⟩::_) _ _;refine ya (q:=.i .i64 0) (by first|rfl|(simp (disch:=omega) only [qG,qe,seval]<;>rfl)) ?_;(try (refine zF ?_)))|(show zh _ _ _ _ (⟨_,.call 106,_,_,_⟩::_) _ _;refine ya (q:=.sl 7 []) (by first|rfl|(simp (disch:=omega) only [qG,qe,seval]<;>rfl)) ?_;(try (refine zF ?_)))|(show zh _ _ _ _ (⟨_,.call 105,_,_,_⟩::_) _ _;refine ya (q:=.b false) (by first|rfl|(simp (disch:=omega) only [qG,qe,seval]<;>rfl)) ?_;(try (refine zF ?_)))|refine gG ?_|show AK _;intro J Z|refine gJ ?_|omega|exact aT
   all_goals exact .refl _
 .by_cases h:zei l b q=0
  .rw [if_pos h,zjv,if_pos h,h];refine .tup ⟨.agg ⟨.sl ?_,.refl _,trivial⟩,.refl _,trivial⟩;rw [xaO];exact .app (.refl _) ⟨zmJ q,trivial⟩
  .rw [if_neg h,zjv,if_neg h];exact zbt _
def yeN (L:List Req) (i:Nat) (hi:i < L.length):rqW L (i:Int)=L.take i++L.drop (i+1):=by
 have key:∀ k,k<=L.length->rqK L (i:Int) k=if k<=i then L.take k else L.take i++(L.take k).drop (i+1):=by
  intro k
  induction k with
  | zero=>intro _;rw [if_pos (by omega)];rfl
  | succ k ih=>
   intro hk;have h:=ih (by omega)
   have hx:L[k]?=some L[k]:=xab (by omega)
   have hstep:rqK L (i:Int) (k+1)=rqK L (i:Int) k++(if (k:Int)=(i:Int) then [] else [L[k]]):=by
    rw [rqK,xa7,xa0,<-rqK,xaz,xbq,rqI,hx,xat]
   rw [hstep,h]
   rcases xcp k i with h1|h1|h1
   .rw [if_pos (by omega),if_neg (by omega),if_pos (by omega),zam hx]
   .subst h1;rw [if_pos (xaj _),if_pos rfl,if_neg (by omega),xat,xbj (by rw [xai];omega),xat]
   .rw [if_neg (by omega),if_neg (by omega),if_neg (by omega),zam hx,xbF (by rw [xai];omega),xau]
 rw [rqW,key _ (xaj _),if_neg (by omega),xas]
def yaF {q:Req} {m:Int} (h:zdB q=0) (hm:rng m 0 1439=0):zdB (rtQ q m)=0:=by
 unfold zdB at h ⊢;simp only [zq] at h ⊢;simp only [rtQ];simp only [h,hm,true_and,and_true]
def yaI (b:Bk) (i:Nat):List Slt:=b.slots.take i++b.slots.drop (i+1)
def ybu {b:Bk} {i:Nat} {s:Slt} (h:s ∈ yaI b i):s ∈ b.slots:=by
 rcases xaD.1 h with h|h
 .exact xbf h
 .exact xbA h
def yd6 {b:Bk} (h:zG b=0) {i:Nat} (hi:i < b.slots.length):movF b i=mvS (yaI b i)/\zae (mvS (yaI b i))=0/\(yaI b i).length<=64:=by
 have hn:=ziq h;have hl:(yaI b i).length<=64:=by rw [yaI,xae,xai,xaF];omega
 have:=ycC (L:=yaI b i) (λs hs=>yX h (ybu hs)) (by omega) (yaI b i).length (xaj _)
 rw [xas] at this;obtain ⟨e1,e2,_⟩:=this;refine ⟨?_,e2,hl⟩;rw [movF,yeN _ i (by rw [xaf];exact hi),<-e1]
 congr 1
 have e:((yaI b i).map (·.req)).take (yaI b i).length=(yaI b i).map (·.req):=xag (by simp)
 rw [e,yaI,xaO,xbk,List.map_drop]
def ydF (l:List Lim) (b:Bk) (c n:ByteArray) (m:Int) (hok:zfy b) (hl:zZ l=0) (hc:zG b=0):Pure prog 56 [.sl 11 (l.map Lim.pv),b.pv,.s c,.s n,.i .i64 m] (.tup [(rtB l b c n m).pv,.i .i64 (rtC l b c n m)]):=by
 refine zar (r:=if rtC l b c n m=0 then .tup [(zo8 b n (rtS (zn b n) m)).pv,.i .i64 0] else .tup [.agg [.nilsl,.nilsl],.i .i64 (rtC l b c n m)]) ?_ ?_
 .refine pz func56 f56.eq_1 λhw X hX=>?_
  by_cases hown:zhn b c n (rng m 0 1439)=0
  .obtain ⟨h1,h2,h3,h4⟩:=za6 hown;obtain ⟨hI,hlt⟩:=yac hown;have hm0:=zuD hown;have hr:=yX hc (xad h2);have hC:rtC l b c n m=rtE l b n (zn b n) m:=by rw [rtC,zfM,za2 hown,zfj]
   have hat:atL n (b.slots.map (·.req.name))=(zx b n:Int):=by rw [zx];omega
   obtain ⟨m1,m2,m3⟩:=yd6 hc hlt;generalize hso:zn b n=s at h2 h3 hC hr;have hE:rtE l b n s m=if zoC l (mvS (yaI b (zx b n))) (rtQ s.req m)=true then 0 else 14:=by
    rw [rtE,hat,m1,ycM hl m2 (yaF hr hm0)]
   have ht0:=eq_true hown;have hR:=ybK (yaI b (zx b n)) (λs hs=>yX hc (ybu hs)) (λs hs=>by have:=(yal (yX hc (ybu hs))).2;omega) (by omega)
   have hF:=yel l (mvS (yaI b (zx b n))) (rtQ s.req m) (ycU hl m2) (yaF hr hm0);have hT:∀ k,(b.slots.map Slt.pv).take k=(b.slots.take k).map Slt.pv:=λk=>by rw [xbk]
   have hD:∀ k,(b.slots.map Slt.pv).drop k=(b.slots.drop k).map Slt.pv:=λk=>by rw [List.map_drop]
   have hA:=λl=>eq_true (yeb l)
   have hk1:((zx b n:Int)+1).toNat=zx b n+1:=by omega
   have hn1:=hok.n;have hP:=yF b (zx b n) (rtS s m) hlt hok.n;have hlen:(b.slots.take (zx b n)).length=zx b n:=by rw [xai];omega
   have hlenD:(b.slots.drop (zx b n+1)).length=b.slots.length - (zx b n+1):=by rw [xaF]
   rw [yaI,xaO] at hR;rw [hC,hE]
   by_cases hf:zoC l (mvS (yaI b (zx b n))) (rtQ s.req m)=true
   .rw [if_pos hf,if_pos rfl];rw [yaI] at hf hF;have qe:=aI qR (aI @hI (aI @h2 (aI @ht0 (aI @hT (aI @hD (aI @hA (aI @hf (aI @hk1 (aI @hlen (aI @zah (aI @decide_true (aI @decide_false (aI @xam @za9)))))))))))));repeat' first|refine gC ?_ ?_<;>intro hc<;>try contradiction|refine za (yZ _ _ _) ?_|refine za (yc b c n (rng m 0 1439)) ?_|refine zA (hR) ?_|refine za hF ?_|refine za hP ?_|refine gG ?_|show AK _;intro J Z|refine gJ ?_|omega|exact aT
    all_goals first|exact .refl _
   .have hf':zoC l (mvS (yaI b (zx b n))) (rtQ s.req m)=false:=by simpa using hf
    rw [if_neg hf,if_neg (by omega)]
    rw [yaI] at hf' hF;have qe:=aI qR (aI @hI (aI @h2 (aI @ht0 (aI @hT (aI @hD (aI @hA (aI @hf' (aI @hk1 (aI @hlen (aI @zah (aI @decide_true (aI @decide_false (aI @xam (aI @xal @za9))))))))))))));repeat' first|refine gC ?_ ?_<;>intro hc<;>try contradiction|refine za (yZ _ _ _) ?_|refine za (yc b c n (rng m 0 1439)) ?_|refine zA (hR) ?_|refine za hF ?_|refine za hP ?_|refine gG ?_|show AK _;intro J Z|refine gJ ?_|omega|exact aT
    all_goals first|exact .refl _
  .have e:rtC l b c n m=zhn b c n (rng m 0 1439):=by rw [rtC,zfM,za1 hown]
   have ht0:=eq_false hown;rw [e,if_neg hown];have qe:=aI qR (aI @ht0 (aI @decide_false @xal));have jA:=λu1 u2 u3=>yZ u1 u2 u3;have jB:=yc b c n (rng m 0 1439);exact gD2
 .by_cases h:rtC l b c n m=0
  .rw [if_pos h,rtB,if_pos h,h];exact .refl _
  .rw [if_neg h,rtB,if_neg h];exact zbt _
structure Tmg where
 req:Req
 carrier:ByteArray
 slot:ByteArray
 day:Int
 minute:Int
abbrev Tmg.pv (x:Tmg):PV:=.agg [.s x.req.name,.s x.req.carrier,.s x.req.kind,.s x.req.term,.s x.req.partner,.s x.req.link,.i .i64 x.req.per.fro,.i .i64 x.req.per.to,.i .i64 x.req.per.days,.i .i64 x.req.minute,.i .i64 x.req.seats,.i .i64 x.req.size,.i .i64 x.req.noise,.s x.carrier,.s x.slot,.i .i64 x.day,.i .i64 x.minute]
def ydX {l:List Lim} {b:Bk} {q:Req} (hb:zfy b) (h:b.slots.length<=65):zfy (zjv l b q):=by
 rw [zjv];split
 .refine ⟨λs hs=>?_,by simp only [xae,xbI];omega,hb.w⟩
  rcases xaD.1 hs with hs|hs
  .exact hb.s s hs
  .rw [xaJ.1 hs];exact ⟨by simp [zgP],by simp [zgP]⟩
 .exact yK
def rtB_ok {l:List Lim} {b:Bk} {c n:ByteArray} {m:Int} (hb:zfy b):zfy (rtB l b c n m):=by
 rw [rtB];split
 .exact yaH hb ⟨(y7 hb).1,(y7 hb).2⟩
 .exact yK
def yfu {b:Bk} {c n:ByteArray} {d:Int} (hb:zfy b):zfy (zvV b c n d):=by
 rw [zvV];split
 .have ho:zfy (zhk b n d):=yaH hb ⟨by have:=zkU (d - 1) (zn b n).ls;have:=(y7 (n:=n) hb).1;simp only [zvU];omega,(y7 hb).2⟩
  rw [zwd];split
  .exact ho
  .refine ⟨λs hs=>?_,?_,hb.w⟩
   .rcases xaD.1 hs with hs|hs
    .exact ho.s s (xbf hs)
    .exact ho.s s (xbA hs)
   .have:=ho.n;simp only [xae,xai,xaF];omega
 .exact yK
def same0 (e:Int) (h:¬e=0):Pure prog 17 [bk0.pv,.i .i64 e,.agg [.nilsl,.nilsl],.i .i64 e] (.b true):=zud (ybO bk0 bk0 e yK (λ_=>rfl) (λ_=>rfl)) ⟨.refl _,.refl _,.agg ⟨.nilsl _,.nilsl _,trivial⟩,.refl _,trivial⟩
open Go.RowKit Go.Proofs.Tryz Go.ChangeShapes Go.WideShapes Go.ChangeAt
def limT:List CP:=[.s,.s,.s,jT,jT,jT,jT,jT,jT,jT,jT]
def lim_of {l:List PV} (h:FitAll (Fit 5) limT l):∃ L:Lim,l=L.cells:=by
 match l,h with
 | [_,_,_,_,_,_,_,_,_,_,_],⟨⟨a,ha⟩,⟨b,hb⟩,⟨c,hc⟩,⟨d,hd⟩,⟨e,he⟩,⟨f,hf⟩,⟨g,hg⟩,⟨i,hi⟩,⟨j,hj⟩,⟨k,hk⟩,⟨m,hm⟩,_⟩=>
  subst ha hb hc hd he hf hg hi hj hk hm;exact ⟨⟨a,b,c,d,e,f,g,⟨i,j,k⟩,m⟩,rfl⟩
def par22:yep prog 6 22=some (false,[.sl true limT]):=by kernel_rfl
def und22:prog.underlying 22=some (.slice 109):=by kernel_rfl
def byt46:prog.bytesOf 109=112:=by kernel_rfl
def ydY {p:PV} (h:yax prog 6 22 p):∃ L:List Lim,p=.sl 11 (L.map Lim.pv)/\L.length*112<=140737488355328:=by
 obtain ⟨⟨ag,c,l,hp,rfl,hl⟩,hb⟩:=h;rw [par22] at hp;simp only [xaR,xcq] at hp;obtain ⟨rfl,rfl⟩:=hp
 match l,hl with
 | [q],⟨⟨xs,hq,hx⟩,_⟩=>
  subst hq;obtain ⟨L,rfl⟩:=y4 (f:=Lim.pv) (xs:=xs) λx h=>by
   obtain ⟨l,rfl,hf⟩:=hx x h;obtain ⟨L,rfl⟩:=lim_of hf;exact ⟨L,rfl⟩
  refine ⟨L,rfl,?_⟩;have:=hb 109 _ _ und22 rfl;rw [byt46,xaf] at this;unfold reachBytes at this;omega
