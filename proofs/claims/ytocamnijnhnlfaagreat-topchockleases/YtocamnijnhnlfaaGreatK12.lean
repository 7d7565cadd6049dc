/- Contracts of functions, for the claim. No conditions. -/
import Derived.Test.YtocamnijnhnlfaaGreatK9
import Derived.Test.YtocamnijnhnlfaaGreatK10
import Derived.Test.YtocamnijnhnlfaaGreatK11
import Derived.Test.YtocamnijnhnlfaaGreatK8
set_option linter.all false
set_option maxHeartbeats 8000000
set_option maxRecDepth 100000
namespace Go.Proofs.YtocamnijnhnlfaaGreat
open Go.RowKit Go.Proofs.Tryz
def zhq {b:Bk} {n:ByteArray} (hat:¬atL n (b.slots.map (·.req.name)) < 0):b.slots[zD b n]?=some (zl b n)/\atL n (b.slots.map (·.req.name))=(zD b n:Int)/\zD b n < b.slots.length:=by
 obtain ⟨s,hsl⟩:=zdW hat;have hso:zl b n=s:=by rw [zl,hsl];rfl
 have hlt:=zeD n (b.slots.map (·.req.name));rw [xaf] at hlt;exact ⟨by rw [zD,hsl,hso],by rw [zD];omega,by rw [zD];omega⟩
structure Srv where
 Q:List Req
 K:List Wsh
 M:List Mov
def zBu (l:List Lim) (n:Nat) (t:Srv) (w:Wsh):Prop:=64<=((n+t.Q.length:Nat):Int)\/zo4 l t.M w.req=false
instance (l:List Lim) (n:Nat) (t:Srv) (w:Wsh):Decidable (zBu l n t w):=by unfold zBu;infer_instance
def zCv {b:Bk} {c n:ByteArray} {e:Int} (h:zd2 b c n e=0):b.slots[zD b n]?=some (zl b n):=(zab h).2.1
def findX (b:Bk) (n:ByteArray) (i0:Nat) (s:Slt) (p q:PV) (h0:b.slots[i0]?=some s):Pure prog 31 [.agg [.sl 16 ((b.slots.map Slt.pv).set i0 (slX s p q)),.sl 14 (b.wait.map Wsh.pv)],.s n] (.i .i64 (atL n (b.slots.map (·.req.name)))):=by
 have h:=zfF ((b.slots.map Slt.raw).set i0 ⟨s.req,s.holder,p,q⟩) b.wait n;have e1:((b.slots.map Slt.raw).set i0 ⟨s.req,s.holder,p,q⟩).map SlR.pv=(b.slots.map Slt.pv).set i0 (slX s p q):=by
  rw [xa2,zik]
 have e2:((b.slots.map Slt.raw).set i0 ⟨s.req,s.holder,p,q⟩).map (·.req.name)=b.slots.map (·.req.name):=by
  obtain ⟨hi,he⟩:=xaa.1 h0;rw [xa2,xbS];refine List.ext_getElem (by simp) λj h1 h3=>?_
  rw [List.getElem_set]
  split
  ·rename_i e;subst e;simp [he]
  ·simp
 rw [e1,e2] at h;exact h
def znN {cf e sz:Nat} {caps:List PV} {xs xs':List PV} (p q:HD->PV) (raw:HD->PV) (fin:PV) (b:Bk) (c n:ByteArray) (er ce:Int) (hb:zeG b) (h1:∀ i,(p i).one=true/\(q i).one=true)
  (hown:zd2 b c n er=0) (hcl:ActsE prog 176 [.p (zl b n).pv] [] (λi=>.p (slX (zl b n) (p i) (q i))) (λi=>[(105,.hrow e sz xs i.1 i.2)]))
  (hf:∀ i:HD,ActsE prog cf ([.ep 900 b.slots.length (zD b n) 0]++caps.map .p) [(900,.row 89 16 ((b.slots.map Slt.pv).set (zD b n) (slX (zl b n) (p i) (q i))) false),(901,.hrow e sz xs i.1 i.2)] (λ_=>.p (.i .i64 ce))
   (λj=>[(900,.row 89 16 ((b.slots.map Slt.pv).set (zD b n) (raw j)) false),(901,.hrow e sz xs' j.1 j.2)]))
  (hm:∀ j:HD,Mlt (.rs j.1 xs'.length j.2) (.sl sz xs') (raw j) fin) :
  Pure prog 90 [b.pv,.s c,.s n,.i .i64 er,.fn (.func cf) [] caps] (if ce=0 then .tup [.agg [.sl 16 ((b.slots.map Slt.pv).set (zD b n) fin),.sl 14 (b.wait.map Wsh.pv)],.i .i64 0] else .tup [.agg [.nilsl,.nilsl],.i .i64 ce]):=by
 obtain ⟨hat,hsl,hh,h3⟩:=zab hown;obtain ⟨hs,hn,hwl⟩:=hb;obtain ⟨_,hfi,hi⟩:=zhq hat;refine pz func90 f90.eq_1 λhw X hX=>?_
 have hfd:(if atL n (b.slots.map (·.req.name)) < 0 then (10:Int) else 0)=zdN b.slots n:=rfl
 have h3t:(zf [zy c,zdN b.slots n,er]=0)=True:=eq_true h3;have hcln:=zpE p q b.slots b.wait (zD b n) (zl b n) hsl hs (by omega) (by omega) h1 hcl
 have qe:=aI qR (aI @qN (aI @hfd (aI @h3t (aI @decide_true (aI @xbg (aI @List.append_nil.{0} (aI @List.map_cons.{0,0} (@List.map_nil.{0,0}))))))));repeat' first|refine gC ?_ ?_<;>intro hc<;>try contradiction|refine za (zbH c) ?_|refine za (zaZ b n) ?_|refine za (zO [_,_,_]) ?_|refine gG ?_|show AK _;intro J Z|refine gJ ?_|omega|exact aT
 refine zop [(100,200),(7,201),(305,305)] (hf:=hcln) (hn:=λi=>?_)
 have hfx:=findX b n (zD b n) (zl b n) (p i) (q i) hsl;rw [hfi] at hfx;have hg:=λa=>zdX (b.slots.map Slt.pv) (zD b n) a (by simpa using hi)
 have qe:=aI qR (aI @qN (aI @zbA (aI @zbz (aI @zaC (aI @zgq (aI @hg (aI @hh (aI @List.length_set.{0} (aI @List.length_map.{0,0} (aI @decide_true @xbg))))))))));repeat' first|refine gC ?_ ?_<;>intro hc<;>try contradiction|refine za (hfx) ?_|refine gG ?_|show AK _;intro J Z|refine gJ ?_|omega|exact aT
 have qe:=λm=>zqN m caps
 refine zle [(900,200),(901,305)] (hf:=hf i) (hn:=λj=>?_)
 have hjm:=zhE (hm j) (b.slots.map Slt.pv) (zD b n);refine zbc (zoZ 305 (e:=e) (sz:=sz) (xs:=xs') (a0:=j.1) (c0:=j.2) [(45,.p (.i .i64 ce)),(10,.lp 10 0),(13,.lp 13 0)] [(10,.box [.p .nilsl,.p .nilsl] false),(13,.box [.row 200 b.slots.length,.row 201 b.wait.length] false),(200,.row 89 16 ((b.slots.map Slt.pv).set (zD b n) fin) false),(201,.row 92 14 (b.wait.map Wsh.pv) false)] rfl ⟨⟨.inl rfl,.inl rfl,.inl rfl,trivial⟩,⟨.inl rfl,.inl rfl,.inr ⟨_,rfl,_,_,_,_,_,rfl,rfl,hjm⟩,.inl rfl,trivial⟩,by simp [scEnv,scP,zp],by simp [scObj,scPs,scP,zp]⟩) ?_
 rintro _ rfl;refine (show zj _ _ _ _ _ (St.mk _ _ [] false) _ from zB ?_)
 by_cases hce:ce=0
 ·have hct:=eq_true hce;have qe:=aI qR (aI @qN (aI @zbA (aI @zbz (aI @zaC (aI @hct (aI @List.length_set.{0} (aI @List.length_map.{0,0} (aI @decide_true @xbg))))))));exact gD0
 ·have hct:=eq_false hce;have qe:=aI qR (aI @qN (aI @zbA (aI @zbz (aI @zaC (aI @hct (aI @List.length_set.{0} (aI @List.length_map.{0,0} (aI @decide_false @xbK))))))));exact gD0
theorem zbr (n:ByteArray):∀ l:List ByteArray,0<=atL n l↔n ∈ l
 | []=>by simp [atL]
 | x::r=>by
  have ih:=zbr n r;have:=zs3 n r;simp only [atL,xaB]
  by_cases h:x=n
  ·rw [if_pos h];exact ⟨λ_=>.inl h.symm,λ_=>by omega⟩
  ·rw [if_neg h]
   by_cases h2:atL n r < 0
   ·rw [if_pos h2];exact ⟨λh3=>by omega,λh3=>h3.elim (λe=>absurd e.symm h) λe=>by have:=ih.2 e;omega⟩
   ·rw [if_neg h2];exact ⟨λ_=>.inr (ih.1 (by omega)),λ_=>by omega⟩
def zz5 {b:Bk} {n:ByteArray} (h:¬atL n (b.slots.map (·.req.name)) < 0):zdN b.slots n=0/\fndI b.slots n=(zD b n:Int):=by
 rw [zdN,if_neg h,fndI,if_neg h,zD];exact ⟨rfl,by omega⟩
def zjw {a b:Wsh}:zdS a b=false↔zgV b a<=0:=by
 rw [zdS,zgV]
 rcases Int.lt_trichotomy a.rank b.rank with k|k|k
 ·have e:zeC b.rank a.rank=1:=by rw [zeC,if_neg (by omega),if_pos k]
  rw [e,zE (by omega),decide_eq_true k,Bool.true_or]
  exact ⟨λh=>(by cases h),λh=>(by omega)⟩
 ·have e:zeC b.rank a.rank=0:=by rw [zeC,if_neg (by omega),if_neg (by omega)]
  have k1:¬a.rank < b.rank:=by omega
  rw [zt e,z9,decide_eq_false k1,decide_eq_true k,xbJ,xbh]
  constructor
  ·intro h
   by_cases q:a.req.name=b.req.name
   ·rw [(zkG _ _).2 q.symm];omega
   ·have h2:Op.bytesLess b.req.name.toList a.req.name.toList=true:=by
     by_cases r:Op.bytesLess b.req.name.toList a.req.name.toList=true
     ·exact r
     ·exact absurd (znS h (by simpa using r)) q
    have:=(zdR _ _).2 h2;omega
  ·intro h;cases q:Op.bytesLess a.req.name.toList b.req.name.toList
   ·rfl
   ·exfalso
    rcases Int.lt_or_eq_of_le h with h|h
    ·have h1:=(zdR _ _).1 h;rw [zg1 _ _ q] at h1;cases h1
    ·have h1:=(zkG _ _).1 h;rw [h1,zi2] at q;cases q
 ·have e:zeC b.rank a.rank=-1:=if_pos k;have k1:¬a.rank < b.rank:=by omega
  have k2:¬a.rank=b.rank:=by omega
  rw [e,zE (by omega),decide_eq_false k1,decide_eq_false k2,xbJ,xbj]
  exact ⟨λ_=>by omega,λ_=>rfl⟩
def zm5 (b:Bk):Pure prog 23 [b.pv] (.i .i64 (zu b)):=by
 refine pz func23 f23.eq_1 fun hw X hX=>?_
 by_cases h64:(64:Int) < b.slots.length
 ·have e:zu b=5:=by rw [zu,if_pos h64,zE (by omega)]
  have h64':=eq_true h64
  rw [e]
  have qe:=aI qR (aI @h64' @decide_true);exact gD0
 have h64':=eq_false h64
 have hE:zu b=zf [zf (b.slots.mapIdx (zaR b)),if 64 < (b.wait.length:Int) then 5 else 0,zf (b.wait.mapIdx (zap b))]:=by rw [zu,if_neg h64,zt rfl]
 have qe:=aI qR (aI @h64' @decide_false);repeat' first|refine gC ?_ ?_<;>intro hc<;>try contradiction|refine gG ?_|show AK _;intro J Z|refine gJ ?_|omega|exact aT
 refine zh (κ:=Nat) (fun i=>⟨[(1,.lp 1 0),(3,.p (.i .i64 i))],[(1,.box [.p (.sl 16 (b.slots.map Slt.pv)),.p (.sl 14 (b.wait.map Wsh.pv))] false)],[],false⟩) (fun i=>i≤b.slots.length∧∀ x ∈ (b.slots.mapIdx (zaR b)).take i,x=0) (fun i=>b.slots.length - i) 0 ?_ ?_ ?_
 ·exact sS
 ·simp
 ·intro i hi
  repeat first|refine gG ?_|show AK _;intro J Z|refine gJ ?_|omega|exact aT
  (refine gC ?_ ?_<;>intro hc<;>try contradiction)
  ·obtain ⟨s,hs⟩:=zk (i:=i) (l:=b.slots) (by omega)
   have e9:((9:Int)=0)=False:=eq_false (by omega)
   by_cases c1:zae s=0
   ·have c1':=eq_true c1
    by_cases c2:0≤atL s.req.name ((b.slots.take i).map (·.req.name))
    ·have c2':=eq_true c2
     have hv:zaR b i s=9:=by rw [zaR,zt c1,z9,if_pos c2]
     have e:zu b=9:=by rw [hE,zN hi.2 (zz hs) (by rw [hv];decide),hv,zE (by omega)]
     rw [e]
     have qe:=aI qR (aI @hs (aI @zax (aI @c1' (aI @c2' (aI @e9 (aI @decide_true @decide_false))))));have jA:=ziI s;have jB:=zbI (b.slots.take i) s.req.name;exact gD2
    ·have c2':=eq_false c2
     have hv:zaR b i s=0:=by rw [zaR,zt c1,z9,if_neg c2]
     have qe:=aI qR (aI @hs (aI @zax (aI @c1' (aI @c2' (aI @decide_true @decide_false)))));repeat' first|refine gC ?_ ?_<;>intro hc<;>try contradiction|refine za (ziI s) ?_|refine zm (fun _=>zbI (b.slots.take i) s.req.name) ?_|refine gG ?_|show AK _;intro J Z|refine gJ ?_|omega|exact aT
     all_goals exact ⟨i+1,⟨by omega,zah hi.2 (zz hs) hv⟩,by omega,by simp⟩
   ·have c1':=eq_false c1
    have hv:zaR b i s=zae s:=by rw [zaR,zE c1]
    have e:zu b=zae s:=by rw [hE,zN hi.2 (zz hs) (by rw [hv];exact c1),hv,zE c1]
    rw [e]
    have qe:=aI qR (aI @hs (aI @zax (aI @c1' @decide_false)));have jA:=ziI s;have jB:=zbI (b.slots.take i) s.req.name;exact gD2
  ·have ei:i=(b.slots.mapIdx (zaR b)).length:=by simp;omega
   have hA:zf (b.slots.mapIdx (zaR b))=0:=by subst ei;exact zU hi.2
   rw [zt hA] at hE
   by_cases h65:(64:Int) < b.wait.length
   ·have e:zu b=5:=by rw [hE,if_pos h65,zE (by omega)]
    have h65':=eq_true h65
    rw [e]
    have qe:=aI qR (aI @h65' @decide_true);exact gD0
   have h65':=eq_false h65
   rw [if_neg h65,zt rfl,z9] at hE
   have qe:=aI qR (aI @h65' @decide_false);repeat' first|refine gC ?_ ?_<;>intro hc<;>try contradiction|refine gG ?_|show AK _;intro J Z|refine gJ ?_|omega|exact aT
   refine zh (κ:=Nat) (fun i=>⟨[(1,.lp 1 0),(5,.p (.i .i64 i))],[(1,.box [.p (.sl 16 (b.slots.map Slt.pv)),.p (.sl 14 (b.wait.map Wsh.pv))] false)],[],false⟩) (fun i=>i≤b.wait.length∧∀ x ∈ (b.wait.mapIdx (zap b)).take i,x=0) (fun i=>b.wait.length - i) 0 ?_ ?_ ?_
   ·exact sS
   ·simp
   ·clear hi ei
    intro i hi
    repeat first|refine gG ?_|show AK _;intro J Z|refine gJ ?_|omega|exact aT
    (refine gC ?_ ?_<;>intro hc<;>try contradiction)
    ·obtain ⟨w,hx⟩:=zk (i:=i) (l:=b.wait) (by omega)
     have e9:((9:Int)=0)=False:=eq_false (by omega)
     have e11:((11:Int)=0)=False:=eq_false (by omega)
     have hr:∀ e,zap b i w=e→e≠0→zu b=e:=fun e hv he=>by rw [hE,zN hi.2 (zz hx) (by rw [hv];exact he),hv]
     have hn9:∀ q:0≤atL w.req.name (b.slots.map (·.req.name))∨0≤atL w.req.name ((b.wait.take i).map (·.req.name)),0≤atL w.req.name (b.slots.map (·.req.name)++(b.wait.take i).map (·.req.name)):=fun q=>(zbr _ _).2 (by
      rcases q with q|q
      ·exact xa9 _ ((zbr _ _).1 q)
      ·exact xa0 _ ((zbr _ _).1 q))
     by_cases d1:zfm w=0
     ·have d1':=eq_true d1
      by_cases d2:0≤atL w.req.name (b.slots.map (·.req.name))
      ·have d2':=eq_true d2
       rw [hr 9 (by rw [zap,zt d1,if_pos (hn9 (.inl d2)),zE (by omega)]) (by omega)]
       have qe:=aI qR (aI @hx (aI @zax (aI @d1' (aI @d2' (aI @e9 (aI @decide_true @decide_false))))));repeat' first|refine gC ?_ ?_<;>intro hc<;>try contradiction|refine za (zdw w) ?_|refine zm (fun _=>zbI b.slots w.req.name) ?_|refine zm (fun _=>zdv (b.wait.take i) w.req.name) ?_|(show zj _ _ _ _ (⟨_,.call 58,_,_,_⟩::_) _ _;refine zbR (q:=.b false) (by first|rfl|(simp (disch:=omega) only [qG,qe,Nat.reduceAdd,Nat.reduceMul,Nat.reduceEqDiff,Nat.reduceLeDiff,reduceIte,reduceCtorEq,Nat.reduceBEq,Nat.reduceLT]<;>rfl)) ?_;(try (refine zB ?_)))|refine gG ?_|show AK _;intro J Z|refine gJ ?_|omega|exact aT
       all_goals exact .refl _
      have d2':=eq_false d2
      by_cases d3:0≤atL w.req.name ((b.wait.take i).map (·.req.name))
      ·have d3':=eq_true d3
       rw [hr 9 (by rw [zap,zt d1,if_pos (hn9 (.inr d3)),zE (by omega)]) (by omega)]
       have qe:=aI qR (aI @hx (aI @zax (aI @d1' (aI @d2' (aI @d3' (aI @e9 (aI @decide_true @decide_false)))))));repeat' first|refine gC ?_ ?_<;>intro hc<;>try contradiction|refine za (zdw w) ?_|refine zm (fun _=>zbI b.slots w.req.name) ?_|refine zm (fun _=>zdv (b.wait.take i) w.req.name) ?_|(show zj _ _ _ _ (⟨_,.call 58,_,_,_⟩::_) _ _;refine zbR (q:=.b false) (by first|rfl|(simp (disch:=omega) only [qG,qe,Nat.reduceAdd,Nat.reduceMul,Nat.reduceEqDiff,Nat.reduceLeDiff,reduceIte,reduceCtorEq,Nat.reduceBEq,Nat.reduceLT]<;>rfl)) ?_;(try (refine zB ?_)))|refine gG ?_|show AK _;intro J Z|refine gJ ?_|omega|exact aT
       all_goals exact .refl _
      have d3':=eq_false d3
      have hno:¬0≤atL w.req.name (b.slots.map (·.req.name)++(b.wait.take i).map (·.req.name)):=fun q=>by
       rcases xaL.1 ((zbr _ _).1 q) with q|q
       ·exact d2 ((zbr _ _).2 q)
       ·exact d3 ((zbr _ _).2 q)
      by_cases d4:0 < (i:Int)
      ·have d4':=eq_true d4
       obtain ⟨p,hp⟩:=zk (i:=i - 1) (l:=b.wait) (by omega)
       have e1:((i:Int) - 1).toNat=i - 1:=by omega
       cases d5:zdS p w with
       | true=>
        have hc5:¬zgV w p≤0:=fun q=>by rw [zjw.2 q] at d5;cases d5
        have hv:zap b i w=0:=by rw [zap,zt d1,if_neg hno,zt rfl,z9,hp];exact if_neg fun q=>hc5 q.2
        have qe:=aI qR (aI @hx (aI @hp (aI @e1 (aI @zax (aI @d1' (aI @d2' (aI @d3' (aI @d4' (aI @d5 (aI @decide_true (aI @decide_false @xbg)))))))))));repeat' first|refine gC ?_ ?_<;>intro hc<;>try contradiction|refine za (zdw w) ?_|refine zm (fun _=>zbI b.slots w.req.name) ?_|refine zm (fun _=>zdv (b.wait.take i) w.req.name) ?_|refine zm (fun _=>zm0 p w) ?_|refine gG ?_|show AK _;intro J Z|refine gJ ?_|omega|exact aT
        all_goals exact ⟨i+1,⟨by omega,zah hi.2 (zz hx) hv⟩,by omega,by simp⟩
       | false=>
        rw [hr 11 (by rw [zap,zt d1,if_neg hno,zt rfl,z9,hp];exact if_pos ⟨d4,zjw.1 d5⟩) (by omega)]
        have qe:=aI qR (aI @hx (aI @hp (aI @e1 (aI @zax (aI @d1' (aI @d2' (aI @d3' (aI @d4' (aI @d5 (aI @e11 (aI @decide_true (aI @decide_false @xbK))))))))))));have jA:=zdw w;have jB:=zbI b.slots w.req.name;have jC:=zdv (b.wait.take i) w.req.name;have jD:=zm0 p w;exact gD4
      ·have d4':=eq_false d4
       have hv:zap b i w=0:=by rw [zap,zt d1,if_neg hno,zt rfl,z9];exact if_neg fun q=>d4 q.1
       have qe:=aI qR (aI @hx (aI @zax (aI @d1' (aI @d2' (aI @d3' (aI @d4' (aI @decide_true @decide_false)))))));repeat' first|refine gC ?_ ?_<;>intro hc<;>try contradiction|refine za (zdw w) ?_|refine zm (fun _=>zbI b.slots w.req.name) ?_|refine zm (fun _=>zdv (b.wait.take i) w.req.name) ?_|(show zj _ _ _ _ (⟨_,.call 58,_,_,_⟩::_) _ _;refine zbR (q:=.b false) (by first|rfl|(simp (disch:=omega) only [qG,qe,Nat.reduceAdd,Nat.reduceMul,Nat.reduceEqDiff,Nat.reduceLeDiff,reduceIte,reduceCtorEq,Nat.reduceBEq,Nat.reduceLT]<;>rfl)) ?_;(try (refine zB ?_)))|refine gG ?_|show AK _;intro J Z|refine gJ ?_|omega|exact aT
       all_goals exact ⟨i+1,⟨by omega,zah hi.2 (zz hx) hv⟩,by omega,by simp⟩
     ·have d1':=eq_false d1
      rw [hr (zfm w) (by rw [zap,zE d1]) d1]
      have qe:=aI qR (aI @hx (aI @zax (aI @d1' @decide_false)));repeat' first|refine gC ?_ ?_<;>intro hc<;>try contradiction|refine za (zdw w) ?_|refine zm (fun _=>zbI b.slots w.req.name) ?_|refine zm (fun _=>zdv (b.wait.take i) w.req.name) ?_|(show zj _ _ _ _ (⟨_,.call 58,_,_,_⟩::_) _ _;refine zbR (q:=.b false) (by first|rfl|(simp (disch:=omega) only [qG,qe,Nat.reduceAdd,Nat.reduceMul,Nat.reduceEqDiff,Nat.reduceLeDiff,reduceIte,reduceCtorEq,Nat.reduceBEq,Nat.reduceLT]<;>rfl)) ?_;(try (refine zB ?_)))|refine gG ?_|show AK _;intro J Z|refine gJ ?_|omega|exact aT
      all_goals exact .refl _
    ·have ei:i=(b.wait.mapIdx (zap b)).length:=by simp;omega
     have hZ:zf (b.wait.mapIdx (zap b))=0:=by subst ei;exact zU hi.2
     rw [hE,hZ]
     have qe:=@qR;exact gD0
def zBw {s:Slt} (h:ztn s=true):s.ls.length<=9/\s.sh.length<=5/\zdM s.req=true:=by
 simp only [ztn,xam,xaX,zD2,xbd,xb0,decide_eq_false_iff_not,xcg,decide_eq_true_eq] at h;obtain ⟨⟨⟨⟨h1,_⟩,h2⟩,h3⟩,_⟩:=h;exact ⟨by omega,by omega,h1⟩
def sh_ok {b:Bk} (h:zpH b=true):zeG b/\b.slots.length<=65/\b.wait.length<=65:=by
 simp only [zpH,xam,xaX,zD3,xbd,xb0,decide_eq_false_iff_not,xcg,decide_eq_true_eq,xaD] at h;obtain ⟨⟨h1,h2⟩,h3,_⟩:=h;exact ⟨⟨λs hs=>by have:=zBw (h3 s hs);exact ⟨by omega,by omega⟩,by omega,by omega⟩,by omega,by omega⟩
def zxz {b:Bk} (h:zu b=0) (n:ByteArray) (d:Int):zpJ b n d=zBf b n d/\zkZ b n d=rOpR b n d:=by
 have e1:zBg b n d=zf [zdN b.slots n,rng d 0 99999]:=by rw [zBg,zt h];rfl
 have e:zpJ b n d=zBf b n d:=by
  rw [zpJ,zBf,e1]
  by_cases h2:zdN b.slots n=0
  ·rw [zt h2,z9,zt h2]
   by_cases h3:rng d 0 99999=0
   ·have hat:¬atL n (b.slots.map (·.req.name)) < 0:=λk=>by rw [zdN,if_pos k] at h2;omega
    obtain ⟨s,hs⟩:=zdW hat;have hso:zl b n=s:=by rw [zl,hs];rfl
    have hp:=(zaE (zfq h (xae hs))).1;rw [zt h3,z9,zt h3,z9,hso,zrv,zsc hp,zsa];have hE:zf [zC s.req.per,rng d 0 99999]=0:=ze.2 ⟨hp,ze.2 ⟨h3,rfl⟩⟩
    by_cases hm:d ∈ zq s.req.per
    ·rw [if_pos hm,if_pos ⟨hE,decide_eq_true hm⟩]
    ·rw [if_neg hm,if_neg (λk=>hm (of_decide_eq_true k.2))]
   ·rw [zE h3,zE h3]
  ·rw [zE (show zf [zdN b.slots n,rng d 0 99999]≠0 by rw [zE h2];exact h2),zE h2,zE h2]
 exact ⟨e,by rw [zkZ,rOpR,e]⟩
abbrev USl.cells (s:USl):List PV:=[.s s.name,.i .i64 s.mom,.s s.kind]
abbrev USl.pv (s:USl):PV:=.agg s.cells
abbrev UNt.cells (n:UNt):List PV:=[.s n.kind,.s n.name,.i .i64 n.mom,.s n.move,.i .i64 n.fro,.i .i64 n.to,.s n.cause,.i .i64 n.told]
abbrev UNt.pv (n:UNt):PV:=.agg n.cells
abbrev ruleCs:List PV:=[.i .i64 30,.i .i64 30,.i .i64 7,.i .i64 80,.nilsl,.i .i64 10,.i .i64 3]
abbrev zc6:PV:=.agg ruleCs
abbrev zfN:ByteArray:=bs [102,108,121]
abbrev zke:ByteArray:=bs [98,97,99,107]
abbrev zpM:ByteArray:=bs [99,97,110,99,101,108]
abbrev zpL:ByteArray:=bs [119,101,97,116,104,101,114]
def zcA (b:Bool) (e:Int):Pure prog 75 [.b b,.i .i64 e] (.i .i64 (if b then e else 0)):=by
 refine pz func75 f75.eq_1 λhw X hX=>?_
 repeat' first|refine gC ?_ ?_<;>intro hc<;>try contradiction|refine gG ?_|show AK _;intro J Z|refine gJ ?_|omega|exact aT
 all_goals (subst hc;exact .refl _)
def zbG (l:List Int):Pure prog 34 [.sl 1 (l.map (.i .i64))] (.i .i64 (zf l)):=by
 refine pz func34 f34.eq_1 λhw X hX=>?_
 simp only [wfs,PV.wf,xaf,maxLen] at hw
 repeat' first|refine gC ?_ ?_<;>intro hc<;>try contradiction|refine gG ?_|show AK _;intro J Z|refine gJ ?_|omega|exact aT
 refine zh (κ:=Nat) (λi=>⟨[(5,.p (.sl 1 (l.map (.i .i64)))),(6,.p (.i .i64 l.length)),(7,.p (.i .i64 i))],[],[],false⟩) (λi=>i<=l.length/\∀ x ∈ l.take i,x=0) (λi=>l.length - i) 0 ?_ ?_ ?_
 ·exact sR
 ·simp
 ·intro i hi
  repeat first|refine gG ?_|show AK _;intro J Z|refine gJ ?_|omega|exact aT
  (refine gC ?_ ?_<;>intro hc<;>try contradiction)
  ·obtain ⟨x,hx⟩:=zk (i:=i) (l:=l) (by omega)
   have qe:=@hx;repeat' first|refine gC ?_ ?_<;>intro hc<;>try contradiction|refine gG ?_|show AK _;intro J Z|refine gJ ?_|omega|exact aT
   ·rw [zN hi.2 hx hc];exact .refl _
   ·exact ⟨i+1,⟨by omega,zah hi.2 hx hc⟩,by omega,by simp⟩
  ·repeat' first|refine gC ?_ ?_<;>intro hc<;>try contradiction|refine gG ?_|show AK _;intro J Z|refine gJ ?_|omega|exact aT
   have e:i=l.length:=by omega
   subst e;rw [zU hi.2];exact .refl _
def zcz (n a b:Int):Pure prog 38 [.i .i64 n,.i .i64 a,.i .i64 b] (.i .i64 (rng n a b)):=by
 refine pz func38 f38.eq_1 λhw X hX=>?_
 repeat' first|refine gC ?_ ?_<;>intro hc<;>try contradiction|refine za (zcA _ _) ?_|refine gG ?_|show AK _;intro J Z|refine gJ ?_|omega|exact aT
 simp only [rng,xaY,decide_eq_true_eq];exact .refl _
def zfz (s:ByteArray):Pure prog 35 [.s s] (.i .i64 (zy s)):=by
 refine pz func35 f35.eq_1 λhw X hX=>?_
 repeat' first|refine gC ?_ ?_<;>intro hc<;>try contradiction|refine za (zbU _) ?_|refine za (zcA _ _) ?_|refine gG ?_|show AK _;intro J Z|refine gJ ?_|omega|exact aT
 simp only [zy,xaX];exact .refl _
def zj1 (k:ByteArray):Int:=if !decide (k=sA) && !decide (k=sD) then 13 else 0
def zfy (k:ByteArray):Pure prog 36 [.s k] (.i .i64 (zj1 k)):=by
 refine pz func36 f36.eq_1 λhw X hX=>?_
 repeat' first|refine gC ?_ ?_<;>intro hc<;>try contradiction|refine za (zcA _ _) ?_|refine gG ?_|show AK _;intro J Z|refine gJ ?_|omega|exact aT
 refine zBo ?_;simp [zj1]
def zu0:Pure prog 80 [zc6] (.i .i64 0):=by
 have r1:rng 30 0 720=0:=by decide
 have r2:rng 7 0 365=0:=by decide
 have r3:rng 80 1 100=0:=by decide
 have r4:rng 10 0 720=0:=by decide
 have r5:rng 3 1 512=0:=by decide
 have f5:zf [0,0,0,0,0]=0:=by decide
 have f2:zf [0,0]=0:=by decide
 refine pz func80 f80.eq_1 λhw X hX=>?_
 have qe:=aI qR (aI @r1 (aI @r2 (aI @r3 (aI @r4 (aI @r5 (aI @f5 @f2))))));repeat' first|refine gC ?_ ?_<;>intro hc<;>try contradiction|refine za (zcz _ _ _) ?_|refine za (zcA _ _) ?_|refine za (zbG [_,_,_,_,_]) ?_|refine gG ?_|show AK _;intro J Z|refine gJ ?_|omega|exact aT
 refine zh (κ:=Unit) (λ_=>⟨[(1,.lp 1 0),(30,.p .nilsl),(31,.p (.i .i64 0)),(32,.p (.i .i64 0))],[(1,.box (ruleCs.map .p) false)],[],false⟩) (λ_=>True) (λ_=>0) () ?_ ?_ ?_
 ·exact sS
 ·trivial
 ·intro _ _;have qe:=aI qR (aI @r4 (aI @r5 @f2));have jA:=λu1 u2 u3=>zcz u1 u2 u3;have jB:=λu1 u2=>zbG [u1,u2];exact gD2
def zpS (s:USl):Int:=zf [zy s.name,rng s.mom 0 143999999,zj1 s.kind]
def zuZ (s:USl):Pure prog 133 [s.pv] (.i .i64 (zpS s)):=by
 refine pz func133 f133.eq_1 λhw X hX=>?_
 have qe:=@qR;have jA:=λu1=>zfz u1;have jB:=λu1 u2 u3=>zcz u1 u2 u3;have jC:=λu1=>zfy u1;have jD:=λu1 u2 u3=>zbG [u1,u2,u3];exact gD4
def zuX {f:Nat} (L:List USl) (g:USl->Int) (hf:∀ s ∈ L,Pure prog f [s.pv] (.i .i64 (g s))) (hn:L.length<=100000):Pure prog 132 [.sl 3 (L.map USl.pv),.fn (.func f) [] []] (.sl 1 ((L.map g).map (.i .i64))):=by
 refine pz func132 f132.eq_1 λhw X hX=>?_
 repeat' first|refine gC ?_ ?_<;>intro hc<;>try contradiction|refine gG ?_|show AK _;intro J Z|refine gJ ?_|omega|exact aT
 refine zaf 100 50 1 [(1,.p (.fn (.func f) [] [])),(5,.row 100 0),(8,.p (.sl 3 (L.map USl.pv))),(9,.p (.i .i64 L.length)),(10,.p (.i .i64 0))] [] ?_ ?_
 ·simp only [Own,zam,zaj,za8,zad,qS,seval]
 refine zh (κ:=Nat) (λk=>⟨[(1,.p (.fn (.func f) [] [])),(5,.row 100 k),(8,.p (.sl 3 (L.map USl.pv))),(9,.p (.i .i64 L.length)),(10,.p (.i .i64 k))],[(100,.row 50 1 (((L.take k).map g).map (.i .i64)) false)],[],false⟩) (λk=>k<=L.length) (λk=>L.length - k) 0 ?_ ?_ ?_
 ·exact sS
 ·simp
 ·intro k hk
  repeat first|refine gG ?_|show AK _;intro J Z|refine gJ ?_|omega|exact aT
  (refine gC ?_ ?_<;>intro hc<;>try contradiction)
  ·obtain ⟨x,hx⟩:=zk (i:=k) (l:=L) (by omega)
   have hl:(L.take k).length=k:=by rw [xaj];omega
   have qe:=aI qR (aI @hx @hl);repeat' first|refine gC ?_ ?_<;>intro hc<;>try contradiction|refine zn (hf x (xae hx)) ?_|refine gG ?_|show AK _;intro J Z|refine gJ ?_|omega|exact aT
   exact ⟨k+1,by omega,by omega,by simp,by rw [zM hx];simp;omega⟩
  ·obtain rfl:k=L.length:=by omega
   have qe:=aI qR @List.take_length.{0};exact gD0
def zuV {f:Nat} (L:List UNt) (g:UNt->Int) (hf:∀ s ∈ L,Pure prog f [s.pv] (.i .i64 (g s))) (hn:L.length<=100000):Pure prog 134 [.sl 8 (L.map UNt.pv),.fn (.func f) [] []] (.sl 1 ((L.map g).map (.i .i64))):=by
 refine pz func134 f134.eq_1 λhw X hX=>?_
 repeat' first|refine gC ?_ ?_<;>intro hc<;>try contradiction|refine gG ?_|show AK _;intro J Z|refine gJ ?_|omega|exact aT
 refine zaf 100 50 1 [(1,.p (.fn (.func f) [] [])),(5,.row 100 0),(8,.p (.sl 8 (L.map UNt.pv))),(9,.p (.i .i64 L.length)),(10,.p (.i .i64 0))] [] ?_ ?_
 ·simp only [Own,zam,zaj,za8,zad,qS,seval]
 refine zh (κ:=Nat) (λk=>⟨[(1,.p (.fn (.func f) [] [])),(5,.row 100 k),(8,.p (.sl 8 (L.map UNt.pv))),(9,.p (.i .i64 L.length)),(10,.p (.i .i64 k))],[(100,.row 50 1 (((L.take k).map g).map (.i .i64)) false)],[],false⟩) (λk=>k<=L.length) (λk=>L.length - k) 0 ?_ ?_ ?_
 ·exact sS
 ·simp
 ·intro k hk
  repeat first|refine gG ?_|show AK _;intro J Z|refine gJ ?_|omega|exact aT
  (refine gC ?_ ?_<;>intro hc<;>try contradiction)
  ·obtain ⟨x,hx⟩:=zk (i:=k) (l:=L) (by omega)
   have hl:(L.take k).length=k:=by rw [xaj];omega
   have qe:=aI qR (aI @hx @hl);repeat' first|refine gC ?_ ?_<;>intro hc<;>try contradiction|refine zn (hf x (xae hx)) ?_|refine gG ?_|show AK _;intro J Z|refine gJ ?_|omega|exact aT
   exact ⟨k+1,by omega,by omega,by simp,by rw [zM hx];simp;omega⟩
  ·obtain rfl:k=L.length:=by omega
   have qe:=aI qR @List.take_length.{0};exact gD0
def zuT {f:Nat} (L:List UNt) (p:UNt->Bool) (hf:∀ s ∈ L,Pure prog f [s.pv] (.b (p s))) (hn:L.length<=100000):Pure prog 143 [.sl 8 (L.map UNt.pv),.fn (.func f) [] []] (.sl 8 ((L.filter p).map UNt.pv)):=by
 refine pz func143 f143.eq_1 λhw X hX=>?_
 repeat' first|refine gC ?_ ?_<;>intro hc<;>try contradiction|refine gG ?_|show AK _;intro J Z|refine gJ ?_|omega|exact aT
 refine zaf 100 58 8 [(1,.p (.fn (.func f) [] [])),(5,.row 100 0),(8,.p (.sl 8 (L.map UNt.pv))),(9,.p (.i .i64 L.length)),(10,.p (.i .i64 0))] [] ?_ ?_
 ·simp only [Own,zam,zaj,za8,zad,qS,seval]
 refine zh (κ:=Nat) (λk=>⟨[(1,.p (.fn (.func f) [] [])),(5,.row 100 ((L.take k).filter p).length),(8,.p (.sl 8 (L.map UNt.pv))),(9,.p (.i .i64 L.length)),(10,.p (.i .i64 k))],[(100,.row 58 8 (((L.take k).filter p).map UNt.pv) false)],[],false⟩) (λk=>k<=L.length) (λk=>L.length - k) 0 ?_ ?_ ?_
 ·exact sS
 ·simp
 ·intro k hk;have hlf:((L.take k).filter p).length<=100000:=by have:=xa6 p (L.take k);rw [xaj] at this;omega
  repeat first|refine gG ?_|show AK _;intro J Z|refine gJ ?_|omega|exact aT
  (refine gC ?_ ?_<;>intro hc<;>try contradiction)
  ·obtain ⟨x,hx⟩:=zk (i:=k) (l:=L) (by omega)
   have hnx:(L.take (k+1)).filter p=(L.take k).filter p++(if p x=true then [x] else []):=by rw [zM hx,xa7,xaW,List.filter_nil]
   have qe:=aI qR @hx;repeat' first|refine gC ?_ ?_<;>intro hc<;>try contradiction|refine zn (hf x (xae hx)) ?_|refine gG ?_|show AK _;intro J Z|refine gJ ?_|omega|exact aT
   ·exact ⟨k+1,by omega,by omega,by rw [hnx,if_pos hc];simp,by rw [hnx,if_pos hc];simp⟩
   ·exact ⟨k+1,by omega,by omega,by rw [hnx,if_neg (by simp [hc])];simp,by rw [hnx,if_neg (by simp [hc])];simp⟩
  ·obtain rfl:k=L.length:=by omega
   have qe:=aI qR @List.take_length.{0};exact gD0
def zuY (L:List USl) (hn:L.length<=512):Pure prog 81 [.sl 3 (L.map USl.pv)] (.i .i64 (zf (L.map zpS))):=by
 have hm:=zuX L zpS (λs _=>zuZ s) (by omega)
 refine pz func81 f81.eq_1 λhw X hX=>?_
 have hle:(512 < (L.length:Int))=False:=eq_false (by omega)
 have qe:=aI qR (aI @List.length_map.{0,0} @hle);have jA:=hm;have jB:=zbG (L.map zpS);exact gD2
def zuW (L:List UNt) (g:UNt->Int) (hg:∀ n ∈ L,Pure prog 135 [n.pv] (.i .i64 (g n))) (hn:L.length<=512):Pure prog 82 [.sl 8 (L.map UNt.pv)] (.i .i64 (zf (L.map g))):=by
 have hm:=zuV L g hg (by omega)
 refine pz func82 f82.eq_1 λhw X hX=>?_
 have hle:(512 < (L.length:Int))=False:=eq_false (by omega)
 have qe:=aI qR (aI @List.length_map.{0,0} @hle);have jA:=hm;have jB:=zbG (L.map g);exact gD2
def zBa (f:Nat) (cs:List PV) (L:List USl):Prop:=∀ (i j:Nat) (x y:USl),i < j->L[i]?=some x->L[j]?=some y->∃ c:Int,0<=c/\Pure prog f ([]++[y.pv,x.pv]++cs) (.i .i64 c)
def zzO (n:Nat) (hn:n<=14):∃ v:PV,(12 < n->v=.i .i64 4)/\Pure prog 88 [.i .u64 n] v:=by
 by_cases h:n<=12
 ·exact ⟨.any,λk=>absurd h (by omega),ziB n (by omega) (by omega)⟩
 ·have key:∀ m:Int,m=13\/m=14->Pure prog 157 [.i .u64 m] (.i .i64 4):=λm hm=>by
   rcases hm with rfl|rfl
   ·refine pz func157 f157.eq_1 λhw X hX=>?_
    have qe:=aI qR @qN;exact gD0
   ·refine pz func157 f157.eq_1 λhw X hX=>?_
    have qe:=aI qR @qN;exact gD0
  refine ⟨.i .i64 4,λ_=>rfl,?_⟩
  have h':=key n (by omega)
  refine pz func88 f88.eq_1 λhw X hX=>?_
  have qe:=aI qR @qN;have jA:=h';exact gD2
def zta {f:Nat} {cs:List PV} (L:List USl) (b:Int) (hb:b=L.length) (hn:L.length<=1000000) (hs:zBa f cs L):Acts prog 229 [.row 900 L.length,.p (.i .i64 0),.p (.i .i64 b),.p (.fn (.func f) [] cs)] [(900,.row 55 3 (L.map USl.pv) false)] (.p (.tup [])) [(900,.row 55 3 (L.map USl.pv) false)]:=by
 subst hb;refine zF (cF func229 f229.eq_1) (by simp) (by simp [scPs,scP,zp]) (by simp [scObj]) ⟨rfl,trivial⟩ (by simp [scObj]) (by simp [zb1,zp]) λX hX=>?_
 unfold zA ghO;have qe:=aI qR @gLV.eq_2;repeat' first|refine gC ?_ ?_<;>intro hc<;>try contradiction|refine gG ?_|show AK _;intro J Z|refine gJ ?_|omega|exact aT
 refine zh (κ:=Nat) (λi=>⟨[(0,.row 900 L.length),(1,.p (.i .i64 0)),(2,.p (.i .i64 L.length)),(3,.p (.fn (.func f) [] cs)),(8,.p (.i .i64 i)),(1000900,.row 900 L.length)],[(900,.row 55 3 (L.map USl.pv) false)],[],false⟩) (λi=>1<=i/\(i<=L.length\/i=1)) (λi=>L.length - i) 1 ?_ ?_ ?_
 ·simp only [qS,seval,gLV.eq_2]<;>simp
 ·simp
 ·intro i hi
  by_cases hlt:i < L.length
  ·obtain ⟨y,hy⟩:=zk (i:=i) (l:=L) hlt;obtain ⟨x,hx⟩:=zk (i:=i - 1) (l:=L) (by omega)
   obtain ⟨c,h0,hf⟩:=hs (i - 1) i x y (by omega) hx hy
   have i0:(0 < (i:Int))=True:=eq_true (by omega)
   have i1:(i:Int) - 1=((i - 1:Nat):Int):=by omega
   have hc':(c < 0)=False:=eq_false (by omega)
   have qe:=@qR;repeat' first|refine gC ?_ ?_<;>intro hc<;>try contradiction|refine gG ?_|show AK _;intro J Z|refine gJ ?_|omega|exact aT
   refine zh (κ:=Unit) (λ_=>⟨[(0,.row 900 L.length),(1,.p (.i .i64 0)),(2,.p (.i .i64 L.length)),(3,.p (.fn (.func f) [] cs)),(8,.p (.i .i64 i)),(9,.p (.i .i64 i)),(1000900,.row 900 L.length)],[(900,.row 55 3 (L.map USl.pv) false)],[],false⟩) (λ_=>True) (λ_=>0) () ?_ ?_ ?_
   ·exact sS
   ·trivial
   ·intro _ _;have qe:=aI qR (aI @i0 (aI @i1 (aI @hx (aI @hy (aI @hc' (aI @rtN @rtR))))));repeat' first|refine gC ?_ ?_<;>intro hc<;>try contradiction|refine zn (hf) ?_|refine gG ?_|show AK _;intro J Z|refine gJ ?_|omega|exact aT
    all_goals exact ⟨i+1,by omega,by omega,by simp⟩
  ·have qe:=aI qR (aI @rtN @rtR);repeat' first|refine gC ?_ ?_<;>intro hc<;>try contradiction|refine gG ?_|show AK _;intro J Z|refine gJ ?_|omega|exact aT
   all_goals exact .inl (.mk0 (h2:=by simp only [qS,seval,keepG.eq_1,keepG.eq_2,gLV.eq_1,gLV.eq_2]<;>simp))
def zkV {f:Nat} {cs:List PV} (L:List USl) (i j:Nat) (x y:USl) (hi:L[i]?=some x) (hj:L[j]?=some y) (sw:Int) {c:Int} (h0:0<=c) (hf:Pure prog f ([]++[y.pv,x.pv]++cs) (.i .i64 c)):Acts prog 261 [.row 900 L.length,.p (.i .i64 i),.p (.i .i64 j),.lp 901 0,.p (.fn (.func f) [] cs)] [(900,.row 55 3 (L.map USl.pv) false),(901,.box [.p (.i .i64 sw)] false)] (.p (.tup [.i .i64 i,.i .i64 j])) [(900,.row 55 3 (L.map USl.pv) false),(901,.box [.p (.i .i64 sw)] false)]:=by
 have hc':(c < 0)=False:=eq_false (by omega)
 have li:=(xaa.1 hi).1;have lj:=(xaa.1 hj).1;refine zF (cF func261 f261.eq_1) (by simp) (by simp [scPs,scP,zp]) (by simp [scObj,scPs,scP]) ⟨rfl,rfl,trivial⟩ (by simp [scObj,scPs,scP]) (by simp [zb1,zp]) λX hX=>?_
 unfold zA ghO;have qe:=aI qR (aI @hi (aI @hj (aI @hc' (aI @gLV.eq_1 (aI @gLV.eq_2 (aI @rtN @rtR))))));repeat' first|refine gC ?_ ?_<;>intro hc<;>try contradiction|refine zn (hf) ?_|refine gG ?_|show AK _;intro J Z|refine gJ ?_|omega|exact aT
 all_goals exact .inl (.mkP (hk:=λk h=>by cases h) (h2:=by simp only [qS,seval,keepG.eq_1,keepG.eq_2,gLV.eq_1,gLV.eq_2]<;>simp))
def zs7 {f:Nat} {cs:List PV} (L:List USl) (i j k:Nat) (h1:i < j) (h2:j < k) (h3:k < L.length) (hs:zBa f cs L) (sw:Int):Acts prog 253 [.row 900 L.length,.p (.i .i64 i),.p (.i .i64 j),.p (.i .i64 k),.lp 901 0,.p (.fn (.func f) [] cs)] [(900,.row 55 3 (L.map USl.pv) false),(901,.box [.p (.i .i64 sw)] false)] (.p (.i .i64 j)) [(900,.row 55 3 (L.map USl.pv) false),(901,.box [.p (.i .i64 sw)] false)]:=by
 obtain ⟨x,hx⟩:=zk (i:=i) (l:=L) (by omega)
 obtain ⟨y,hy⟩:=zk (i:=j) (l:=L) (by omega)
 obtain ⟨z,hz⟩:=zk (i:=k) (l:=L) (by omega)
 obtain ⟨c1,p1,f1⟩:=hs i j x y h1 hx hy;obtain ⟨c2,p2,f2⟩:=hs j k y z h2 hy hz;refine zF (cF func253 f253.eq_1) (by simp) (by simp [scPs,scP,zp]) (by simp [scObj,scPs,scP]) ⟨rfl,rfl,trivial⟩ (by simp [scObj,scPs,scP]) (by simp [zb1,zp]) λX hX=>?_
 unfold zA ghO;have qe:=aI qR (aI @qN (aI @gLV.eq_1 (aI @gLV.eq_2 (aI @rtN @rtR))));repeat' first|refine gC ?_ ?_<;>intro hc<;>try contradiction|refine zo [] (zkV L i j x y hx hy sw p1 f1) ?_|refine zo [] (zkV L j k y z hy hz sw p2 f2) ?_|refine gG ?_|show AK _;intro J Z|refine gJ ?_|omega|exact aT
 all_goals exact .inl (.mk1 (h2:=by simp only [qS,seval,keepG.eq_1,keepG.eq_2,gLV.eq_1,gLV.eq_2]<;>simp))
def zs9 {f:Nat} {cs:List PV} (L:List USl) (h13:13<=L.length) (h14:L.length<=14) (hs:zBa f cs L):Acts prog 232 [.row 900 L.length,.p (.i .i64 0),.p (.i .i64 L.length),.p (.fn (.func f) [] cs)] [(900,.row 55 3 (L.map USl.pv) false)] (.p (.tup [.i .i64 6,.i .i64 1])) [(900,.row 55 3 (L.map USl.pv) false)]:=by
 have hq:((L.length:Int) - 0).tdiv 4=3:=by rw [xbf (by omega)];omega
 have hq2:(L.length:Int).tdiv 4=3:=by rw [xbf (by omega)];omega
 have g8:(8<=(L.length:Int))=True:=eq_true (by omega)
 have g50:(50<=(L.length:Int))=False:=eq_false (by omega)
 have e3:(3:Int)=((3:Nat):Int):=rfl;refine zF (cF func232 f232.eq_1) (by simp) (by simp [scPs,scP,zp]) (by simp [scObj]) ⟨rfl,trivial⟩ (by simp [scObj]) (by simp [zb1,zp]) λX hX=>?_
 unfold zA ghO;have qe:=aI qR (aI @qN (aI @hq (aI @hq2 (aI @g8 (aI @g50 (aI @Int.sub_zero (aI @Int.zero_add (aI @gLV.eq_1 (aI @gLV.eq_2 (aI @rtN @rtR))))))))));repeat' first|refine gC ?_ ?_<;>intro hc<;>try contradiction|refine zo [(901,11)] (zs7 L 3 6 9 (by omega) (by omega) (by omega) hs 0) ?_|refine gG ?_|show AK _;intro J Z|refine gJ ?_|omega|exact aT
 all_goals exact .inl (.mkP (hk:=λk h=>by cases h) (h2:=by simp only [qS,seval,keepG.eq_1,keepG.eq_2,gLV.eq_1,gLV.eq_2]<;>simp))
def zs8 {f:Nat} {cs:List PV} (L:List USl) (h2:2<=L.length) (hn:L.length<=1000000) (hs:zBa f cs L):Acts prog 234 [.row 900 L.length,.p (.i .i64 0),.p (.i .i64 L.length),.p (.fn (.func f) [] cs)] [(900,.row 55 3 (L.map USl.pv) false)] (.p (.b true)) [(900,.row 55 3 (L.map USl.pv) false)]:=by
 refine zF (cF func234 f234.eq_1) (by simp) (by simp [scPs,scP,zp]) (by simp [scObj]) ⟨rfl,trivial⟩ (by simp [scObj]) (by simp [zb1,zp]) λX hX=>?_
 unfold zA ghO;have qe:=aI qR (aI @qN (aI @Int.zero_add @gLV.eq_2));repeat' first|refine gC ?_ ?_<;>intro hc<;>try contradiction|refine gG ?_|show AK _;intro J Z|refine gJ ?_|omega|exact aT
 refine zh (κ:=Unit) (λ_=>⟨[(0,.row 900 L.length),(1,.p (.i .i64 0)),(2,.p (.i .i64 L.length)),(3,.p (.fn (.func f) [] cs)),(9,.p (.i .i64 1)),(10,.p (.i .i64 0)),(1000900,.row 900 L.length)],[(900,.row 55 3 (L.map USl.pv) false)],[],false⟩) (λ_=>True) (λ_=>0) () ?_ ?_ ?_
 ·simp only [qS,seval,gLV.eq_2]<;>simp
 ·trivial
 ·intro _ _;have qe:=aI qR @qN;repeat' first|refine gC ?_ ?_<;>intro hc<;>try contradiction|refine gG ?_|show AK _;intro J Z|refine gJ ?_|omega|exact aT
  refine zh (κ:=Nat) (λi=>⟨[(0,.row 900 L.length),(1,.p (.i .i64 0)),(2,.p (.i .i64 L.length)),(3,.p (.fn (.func f) [] cs)),(9,.p (.i .i64 i)),(10,.p (.i .i64 0)),(1000900,.row 900 L.length)],[(900,.row 55 3 (L.map USl.pv) false)],[],false⟩) (λi=>1<=i/\i<=L.length) (λi=>L.length - i) 1 ?_ ?_ ?_
  ·exact sS
  ·simp;omega
  ·intro i hi
   by_cases hlt:i < L.length
   ·obtain ⟨y,hy⟩:=zk (i:=i) (l:=L) hlt;obtain ⟨x,hx⟩:=zk (i:=i - 1) (l:=L) (by omega)
    obtain ⟨c,h0,hf⟩:=hs (i - 1) i x y (by omega) hx hy
    have i0:((i:Int) < L.length)=True:=eq_true (by omega)
    have i1:(i:Int) - 1=((i - 1:Nat):Int):=by omega
    have hc':(c < 0)=False:=eq_false (by omega)
    have qe:=aI qR (aI @i0 (aI @i1 (aI @hx (aI @hy (aI @hc' (aI @rtN @rtR))))));repeat' first|refine gC ?_ ?_<;>intro hc<;>try contradiction|refine zn (hf) ?_|refine gG ?_|show AK _;intro J Z|refine gJ ?_|omega|exact aT
    all_goals exact ⟨i+1,by omega,by omega,by simp⟩
   ·have i0:((i:Int) < L.length)=False:=eq_false (by omega)
    have i2:((i:Int)=L.length)=True:=eq_true (by omega)
    have qe:=aI qR (aI @i0 (aI @i2 (aI @rtN @rtR)));repeat' first|refine gC ?_ ?_<;>intro hc<;>try contradiction|(show zj _ _ _ _ (⟨_,.callv,_,_,_⟩::_) _ _;refine zcf (q:=(.i .i64 0)) (by first|rfl|(simp (disch:=omega) only [qG,qe,seval]<;>rfl)) ?_;(try (refine zB ?_)))|refine gG ?_|show AK _;intro J Z|refine gJ ?_|omega|exact aT
    all_goals exact .inl (.mk1 (h2:=by simp only [qS,seval,keepG.eq_1,keepG.eq_2,gLV.eq_1,gLV.eq_2]<;>simp))
def ztb {f:Nat} {cs:List PV} (L:List USl) (v:PV) (hv:12 < L.length->v=.i .i64 4) (hn:L.length<=14) (hs:zBa f cs L):Acts prog 192 [.row 900 L.length,.p (.i .i64 0),.p (.i .i64 L.length),.p v,.p (.fn (.func f) [] cs)] [(900,.row 55 3 (L.map USl.pv) false)] (.p (.tup [])) [(900,.row 55 3 (L.map USl.pv) false)]:=by
 by_cases h12:L.length<=12
 ·have hle:((L.length:Int) - 0<=12)=True:=eq_true (by omega)
  have hle2:((L.length:Int)<=12)=True:=eq_true (by omega)
  refine zF (cF func192 f192.eq_1) (by simp) (by simp [scPs,scP,zp]) (by simp [scObj]) ⟨rfl,trivial⟩ (by simp [scObj]) (by simp [zb1,zp]) λX hX=>?_
  unfold zA ghO;have qe:=aI qR @gLV.eq_2;repeat' first|refine gC ?_ ?_<;>intro hc<;>try contradiction|refine gG ?_|show AK _;intro J Z|refine gJ ?_|omega|exact aT
  refine zh (κ:=Unit) (λ_=>⟨[(0,.row 900 L.length),(1,.p (.i .i64 0)),(2,.p (.i .i64 L.length)),(4,.p (.fn (.func f) [] cs)),(1000900,.row 900 L.length)],[(900,.row 55 3 (L.map USl.pv) false)],[],false⟩) (λ_=>True) (λ_=>0) () ?_ ?_ ?_
  ·simp only [qS,seval,gLV.eq_2]<;>simp
  ·trivial
  ·intro _ _;have qe:=aI qR (aI @qN (aI @hle (aI @hle2 (aI @Int.sub_zero (aI @rtN (aI @rtR (@List.length_map.{0,0})))))));repeat' first|refine gC ?_ ?_<;>intro hc<;>try contradiction|refine zo [(900,900)] (zta L L.length rfl (by omega) hs) ?_|refine gG ?_|show AK _;intro J Z|refine gJ ?_|omega|exact aT
   all_goals exact .inl (.mk0 (h2:=by simp only [qS,seval,keepG.eq_1,keepG.eq_2,gLV.eq_1,gLV.eq_2]<;>simp))
 ·have hle:((L.length:Int) - 0<=12)=False:=eq_false (by omega)
  have hle2:((L.length:Int)<=12)=False:=eq_false (by omega)
  obtain rfl:=hv (by omega)
  refine zF (cF func192 f192.eq_1) (by simp) (by simp [scPs,scP,zp]) (by simp [scObj]) ⟨rfl,trivial⟩ (by simp [scObj]) (by simp [zb1,zp]) λX hX=>?_
  unfold zA ghO;have qe:=aI qR @gLV.eq_2;repeat' first|refine gC ?_ ?_<;>intro hc<;>try contradiction|refine gG ?_|show AK _;intro J Z|refine gJ ?_|omega|exact aT
  refine zh (κ:=Unit) (λ_=>⟨[(0,.row 900 L.length),(1,.p (.i .i64 0)),(2,.p (.i .i64 L.length)),(3,.p (.i .i64 4)),(4,.p (.fn (.func f) [] cs)),(10,.p (.b true)),(11,.p (.b true)),(1000900,.row 900 L.length)],[(900,.row 55 3 (L.map USl.pv) false)],[],false⟩) (λ_=>True) (λ_=>0) () ?_ ?_ ?_
  ·simp only [qS,seval,gLV.eq_2]<;>simp
  ·trivial
  ·intro _ _;have qe:=aI qR (aI @qN (aI @hle (aI @hle2 (aI @Int.sub_zero (aI @rtN (aI @rtR (aI @List.length_map.{0,0} (aI @decide_false @decide_true))))))));repeat' first|refine gC ?_ ?_<;>intro hc<;>try contradiction|refine zo [(900,900)] (zs9 L (by omega) (by omega) hs) ?_|refine zo [(900,900)] (zs8 L (by omega) (by omega) hs) ?_|refine gG ?_|show AK _;intro J Z|refine gJ ?_|omega|exact aT
   all_goals exact .inl (.mk0 (h2:=by simp only [qS,seval,keepG.eq_1,keepG.eq_2,gLV.eq_1,gLV.eq_2]<;>simp))
def ztc {f:Nat} {cs:List PV} (L:List USl) (hn:L.length<=14) (hs:zBa f cs L):Acts prog 146 [.row 900 L.length,.p (.fn (.func f) [] cs)] [(900,.row 55 3 (L.map USl.pv) false)] (.p (.tup [])) [(900,.row 55 3 (L.map USl.pv) false)]:=by
 have hw:IntKind.u64.wrap (L.length:Int)=L.length:=by simp [IntKind.wrap,IntKind.bits,IntKind.signed];omega
 obtain ⟨v,hv,hp⟩:=zzO L.length hn;refine zF (cF func146 f146.eq_1) (by simp) (by simp [scPs,scP,zp]) (by simp [scObj]) ⟨rfl,trivial⟩ (by simp [scObj]) (by simp [zb1,zp]) λX hX=>?_
 unfold zA ghO;have qe:=aI qR (aI @qN (aI @hw (aI @gLV.eq_2 (aI @rtN (aI @rtR (@List.length_map.{0,0}))))));repeat' first|refine gC ?_ ?_<;>intro hc<;>try contradiction|refine za (hp) ?_|refine zo [(900,900)] (ztb L v hv hn hs) ?_|refine gG ?_|show AK _;intro J Z|refine gJ ?_|omega|exact aT
 all_goals exact .inl (.mk0 (h2:=by simp only [qS,seval,keepG.eq_1,keepG.eq_2,gLV.eq_1,gLV.eq_2]<;>simp))
theorem zq4 {α:Type} {R:α->α->Prop} (tr:∀ a b c,R a b->R b c->R a c):∀ {L:List α},(∀ i x y,L[i]?=some x->L[i+1]?=some y->R x y)->L.Pairwise R
 | [],_=>.nil
 | [x],_=>by simp
 | x::y::r,h=>by
  have ih:(y::r).Pairwise R:=zq4 tr λi a b h1 h2=>h (i+1) a b (by simpa using h1) (by simpa using h2)
  refine xbp.2 ⟨λz hz=>?_,ih⟩
  have hxy:=h 0 x y rfl rfl
  rcases xaB.1 hz with rfl|hz
  ·exact hxy
  ·exact tr _ _ _ hxy (List.rel_of_pairwise_cons ih hz)
def ztp (a b:Lea):Prop:=a.fro<=a.to/\a.to < b.fro/\b.fro<=b.to
def zkJ {l:Lea} (h:zav l=0):l.fro<=l.to:=by
 have:=fE0 h (if l.to < l.fro then 11 else 0) (by simp)
 by_cases k:l.to < l.fro
 ·rw [if_pos k] at this;omega
 ·omega
def zeJ {s:Slt} (h:zae s=0) {i:Nat} {x:Lea} (hx:s.ls[i]?=some x):za6 s i x=0:=ziW (fE0 h (zf (s.ls.mapIdx (za6 s))) (by simp)) hx
def zhp {s:Slt} (h:zae s=0) {x:Lea} (hx:x ∈ s.ls):x.fro<=x.to:=by
 obtain ⟨i,hi⟩:=xaU.1 hx;exact zkJ (fE0 (zeJ h hi) _ (by simp))
def zxm {s:Slt} (h:zae s=0):s.ls.Pairwise ztp:=by
 refine zq4 (λa b c h1 h2=>?_) λi x y hx hy=>?_
 ·simp only [ztp] at *;omega
 ·have h1:=zhp h (xae hx);have h2:=zhp h (xae hy);have:=fE0 (zeJ h hy) (if 0 < ((i+1:Nat):Int)/\y.fro<=((s.ls[i+1 - 1]?).getD y).to then 15 else 0) (by simp)
  have e:(s.ls[i+1 - 1]?).getD y=x:=by rw [xbq,hx];rfl
  rw [e] at this
  by_cases k:0 < ((i+1:Nat):Int)/\y.fro<=x.to
  ·rw [if_pos k] at this;omega
  ·exact ⟨h1,by omega,h2⟩
theorem zgC {α:Type} {p:α->Bool}:∀ {l:List α},(zct p l < 0/\∀ x ∈ l,p x=false)\/∃ k x,zct p l=(k:Nat)/\l[k]?=some x/\p x=true/\∀ y ∈ l.take k,p y=false
 | []=>.inl ⟨by simp [zct],by simp⟩
 | x::r=>by
  by_cases h:p x=true
  ·refine .inr ⟨0,x,?_,rfl,h,by simp⟩
   exact zaX (i:=0) (by simp) rfl h
  ·have h':p x=false:=by simpa using h
   rcases zgC (p:=p) (l:=r) with ⟨h1,h2⟩|⟨k,y,h1,h2,h3,h4⟩
   ·have ha:∀ y ∈ x::r,p y=false:=λy hy=>by
     rcases xaB.1 hy with rfl|hy
     ·exact h'
     ·exact h2 y hy
    exact .inl ⟨by rw [zbJ ha];omega,ha⟩
   ·refine .inr ⟨k+1,y,?_,by simpa using h2,h3,?_⟩
    ·refine zaX (i:=k+1) (λz hz=>?_) (by simpa using h2) h3
     rw [xby] at hz
     rcases xaB.1 hz with rfl|hz
     ·exact h'
     ·exact h4 z hz
    ·intro z hz;rw [xby] at hz
     rcases xaB.1 hz with rfl|hz
     ·exact h'
     ·exact h4 z hz
def zx0:zeG bk0:=⟨λs h=>(by cases h),by simp [bk0],by simp [bk0]⟩
def zxV {b:Bk} {n:ByteArray} {s:Slt} (hb:zeG b) (hs:zk4 s):zeG (zfU b n s):=by
 refine ⟨λx hx=>?_,by simpa [zfU] using hb.n,hb.w⟩
 rcases xb4 hx with h|rfl
 ·exact hb.s x h
 ·exact hs
def zxl {b:Bk} {n:ByteArray} (hb:zeG b):zk4 (zl b n):=by
 rw [zl];cases h:b.slots[(atL n (b.slots.map (·.req.name))).toNat]? with
 | none=>exact ⟨by simp,by simp⟩
 | some s=>exact hb.s s (xae h)
def trB_ok {b:Bk} (hb:zeG b) (c n to:ByteArray):zeG (trB b c n to):=by
 rw [trB];split
 ·exact zxV hb ⟨(zxl hb).1,by simp [trS]⟩
 ·exact zx0
def zda {b:Bk} (h:zu b=0) {c n:ByteArray} {e:Int} (ho:zd2 b c n e=0):zae (zl b n)=0:=zh4 h (xae (zab ho).2.1)
def zyR (s:Slt) (d:Int):(zun s d).length<=s.ls.length+1:=by
 rw [zun,xad,xad];have h1:=zfR (d - 1) ((s.ls.take ((zpI s d).toNat+1)).drop (zpI s d).toNat);simp only [xay,xaj] at h1 ⊢
 omega
def reB_ok {b:Bk} (hb:zeG b) (h:zu b=0) (c n:ByteArray) (d:Int):zeG (reB b c n d):=by
 rw [reB];split
 ·rename_i k;have ho:zd2 b c n (rng d 0 99999)=0:=fE0 k _ (by simp)
  have h8:=fE0 (zda h ho) (if 8 < ((zl b n).ls.length:Int) then 5 else 0) (by simp)
  have h9:(zl b n).ls.length<=8:=by
   by_cases q:8 < ((zl b n).ls.length:Int)
   ·rw [if_pos q] at h8;omega
   ·omega
  have:=zyR (zl b n) d;exact zxV hb ⟨by simp only [zto];omega,(zxl hb).2⟩
 ·exact zx0
end Go.Proofs.YtocamnijnhnlfaaGreat
