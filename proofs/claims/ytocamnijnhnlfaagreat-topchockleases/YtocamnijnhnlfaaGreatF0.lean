/- The statement TopChockLeases: the use of a leased slot counts for the slot, whoever its operator is. No conditions. -/
import Derived.Test.YtocamnijnhnlfaaGreatK12
import Derived.Test.YtocamnijnhnlfaaGreatK10
import Derived.Test.YtocamnijnhnlfaaGreatK15
import Derived.Test.YtocamnijnhnlfaaGreatK14
set_option linter.all false
set_option maxHeartbeats 8000000
set_option maxRecDepth 100000
namespace Go.Proofs.YtocamnijnhnlfaaGreat
open Go.RowKit Go.Proofs.Tryz
def yDF:=aI @decide_true @decide_false
def yDT:=aI @decide_true (aI @decide_false @Bool.not_true)
def ckO (s:Slt) (D:List Int):List USl:=D.map λd=>⟨zvH s d,1440*d+s.req.minute,sA⟩
def ckG (s:Slt) (L:List Int):List USl:=L.map λm=>⟨zvH s (m / 1440),m,sA⟩
def yf (s:Slt) (L:List Int):List UNt:=L.map λm=>flyN (zvH s (m / 1440)) m
def yb (s:Slt) (L:List Int):zb0 (yf s L)=ckG s L:=by
 rw [zb0,yf,List.filter_map,ckG,xbS];have:((λx:UNt=>decide (x.kind=zfN)) ∘ λm:Int=>flyN (zvH s (m / 1440)) m)=λ_=>true:=by
  funext m;exact decide_eq_true (show zfN=zfN from rfl)
 rw [this,List.filter_eq_self.2 (λ_ _=>rfl)];rfl
def yo (s:Slt) (L:List Int) (x:USl):(yf s L).any (zbK x)=false:=by
 rw [List.any_eq_false];intro y hy;obtain ⟨m,_,rfl⟩:=xa3.1 hy;have:decide (zfN=zke)=false:=by decide
 simp [zbK,this]
def two_ok {s:Slt} {L:List Int}:∀ x ∈ yf s L,zBh x:=λx hx=>by
 obtain ⟨m,_,rfl⟩:=xa3.1 hx;exact ⟨⟨show (0:Int)<=0 by decide,show (0:Int)<=99999 by decide⟩,show zfN≠zpL by decide,show zfN≠zpM by decide⟩
theorem ye {α:Type} [DecidableEq α]:∀ {A B:List α},A.Nodup->(∀ x ∈ A,x ∈ B)->A.length<=B.length
 | [],B,_,_=>by simp
 | a::A,B,h,hs=>by
  obtain ⟨h1,h2⟩:=xct.1 h;have ha:=hs a (by simp)
  have:=ye (A:=A) (B:=B.erase a) h2 λx hx=>(List.mem_erase_of_ne (λe=>h1 (by rw [<-e];exact hx))).2 (hs x (by simp [hx]))
  rw [List.length_erase_of_mem ha] at this;have:=List.length_pos_of_mem ha;simp only [xaK];omega
theorem yh:∀ (l:List (ByteArray × Int)) (E:List Ent),∀ x ∈ (l.foldl (λes x=>za2 x.1 x.2 es) E).map (·.1),x ∈ E.map (·.1)\/x ∈ l.map (·.1)
 | [],E,x,h=>.inl h
 | y::l,E,x,h=>by
  rcases yh l _ x h with k|k
  .by_cases hy:y.1 ∈ E.map (·.1)
   .rw [(ziv y.1 y.2 E).1 hy] at k;exact .inl k
   .rw [(ziv y.1 y.2 E).2 hy] at k
    rcases xaL.1 k with k|k
    .exact .inl k
    .exact .inr (by rw [xag];exact xaB.2 (.inl (by simpa using k)))
  .exact .inr (by rw [xag];exact xaJ _ k)
def opr_in (s:Slt) (d:Int):zvH s d ∈ s.holder::s.ls.map (·.carrier):=by
 rw [zxA,opF];cases hf:s.ls.find? (zum d) with
 | none=>simp
 | some x=>exact xaJ _ (xca (List.mem_of_find?_eq_some hf))
def yr {s:Slt} (D:List Int) (T:List Int):∀ x ∈ (zfI (ckO s D) T).map (·.1),x ∈ s.holder::s.ls.map (·.carrier):=λx hx=>by
 obtain ⟨y,hy,rfl⟩:=xa3.1 hx;have:=(List.of_mem_zip hy).1;rw [ckO,xbS] at this;obtain ⟨d,_,e⟩:=xa3.1 this;have h:=opr_in s d;rw [<-e];exact h
def yk {s:Slt} (hs:zae s=0) (D:List Int) (T:List Int):(zho (zfI (ckO s D) T)).length<=12:=by
 have h8:(if 8 < (s.ls.length:Int) then (5:Int) else 0)=0:=fE0 hs _ (by simp)
 have hl:s.ls.length<=8:=by
  refine Decidable.byContradiction λk=>?_
  rw [if_pos (by omega)] at h8;cases h8
 have:=ye (zpY (zfI (ckO s D) T)) (B:=s.holder::s.ls.map (·.carrier)) λx hx=>by
  rcases yh _ _ x hx with k|k
  .simp at k
  .exact yr D T x k
 rw [xaf] at this;simp at this;omega
def sumW (R:List URw):Int × Int:=R.foldl (λa r=>(a.1+r.fl,a.2+r.du)) (0,0)
theorem yc:∀ (E:List Ent) (a b:Int),(E.map rwE).foldl (λa r=>(a.1+r.fl,a.2+r.du)) (a,b)=(a+(zkX E).1,b+(zkX E).2)
 | [],a,b=>by simp [zkX]
 | e::E,a,b=>by
  rw [xag,xbi,yc E];simp only [zkX,rwE];refine Prod.ext ?_ ?_<;>simp only []<;>omega
def yp {S:List USl} {T:List Int} (h:T.length=S.length):sumW (zyM S T)=(znz T,znF T):=by
 obtain ⟨E',hp,hE⟩:=zfg rwE (zyM S T) (zho (zfI S T)) (by rw [zyM];exact zcv _ _)
 have hz:(zfI S T).map (·.2)=T:=by rw [zfI];exact List.map_snd_zip (by rw [xaf];omega)
 rw [sumW,hE,yc,zBs hp,tab_sum,hz];simp
def yu (s:Slt):ziN (ckO s (zq s.req.per)):=by
 rw [ziN,ckO,xbI];refine (zbp s.req.per).imp fun {x y} k=>?_
 simp only [];omega
def yw (s:Slt) (u o:Int):ziN (ckG s (ckM s u o)):=by
 have:=zsf (r:=s.req) u o s.req.name;rw [ziN,zpO,xbI] at this;rw [ziN,ckG,xbI];exact this
section
variable {b:Bk} {i:Nat} {s:Slt} (h:CkS b i s) (u o:Int)
include h
def yx:znz (stU zbj (λ_=>false) (λ_=>3) (ckO s (zq s.req.per)) (ckG s (ckM s u o)))=znz (stU zbj (λ_=>false) (λ_=>3) (ckF s (zq s.req.per)) (ckT s u o)) /\
  znF (stU zbj (λ_=>false) (λ_=>3) (ckO s (zq s.req.per)) (ckG s (ckM s u o)))=znF (stU zbj (λ_=>false) (λ_=>3) (ckF s (zq s.req.per)) (ckT s u o)) /\
  znF (stU zbj (λ_=>false) (λ_=>3) (ckF s (zq s.req.per)) (ckT s u o))=((zq s.req.per).length:Nat):=by
 have m1:(ckO s (zq s.req.per)).map (·.mom)=(zq s.req.per).map λd=>1440*d+s.req.minute:=by rw [ckO,xbS];rfl
 have h1:=zxp (g:=λ_=>false) (zr6 (F:=ckG s (ckM s u o)) (zbp s.req.per) m1)
 have h2:=zxp (g:=λ_=>false) (zr6 (F:=ckT s u o) (zbp s.req.per) (zqe s.req.name sA s.req.minute (zq s.req.per)))
 rw [h1.1,h1.2,h2.1,h2.2];have ft:∀ {α:Type} (l:List α),l.filter (λ_=>true)=l:=λl=>List.filter_eq_self.2 λ_ _=>rfl
 simp only [xbK,xbh,zoc,zeO,ft];refine ⟨?_,by rw [ckO,xaf],trivial⟩
 rw [ckO,List.filter_map,xaf]
 congr 2
 refine List.filter_congr λd hd=>?_
 show (ckG s (ckM s u o)).any (zbB zbj ⟨zvH s d,1440*d+s.req.minute,sA⟩)=(ckT s u o).any (zbB zbj ⟨s.req.name,1440*d+s.req.minute,sA⟩);rw [ckG,ckT,zpO,List.any_map,List.any_map];have ha:∀ (L:List Int) (p q:Int->Bool),(∀ x ∈ L,p x=q x)->L.any p=L.any q:=λL p q hpq=>by
  induction L with
  | nil=>rfl
  | cons x L ih=>rw [List.any_cons,List.any_cons,hpq x (by simp),ih λy hy=>hpq y (by simp [hy])]
 refine ha _ _ _ λm hm=>?_
 show zbB zbj ⟨zvH s d,1440*d+s.req.minute,sA⟩ ⟨zvH s (m / 1440),m,sA⟩=zbB zbj ⟨s.req.name,1440*d+s.req.minute,sA⟩ ⟨s.req.name,m,sA⟩;obtain ⟨d',hd',rfl⟩:=zwh hm;have ho:=tm31 (o:=o);have hlo:=h.lo;have hhi:=h.hi;have e:(1440*d'+s.req.minute+o.tmod 31) / 1440=d':=by omega
 rw [e];simp only [zbB,zbj,decide_true,xbh]
 by_cases hq:d'=d
 .subst hq;simp
 .by_cases k1:1440*d+s.req.minute - 30<=1440*d'+s.req.minute+o.tmod 31
  .have k2:¬1440*d'+s.req.minute+o.tmod 31<=1440*d+s.req.minute+30:=by omega
   simp [k2]
  .simp [k1]
def ck_O:∀ x ∈ ckO s (zq s.req.per),zpS x=0/\0<=x.mom/\x.mom<=143999999:=λx hx=>by
 obtain ⟨d,hd,rfl⟩:=xa3.1 hx;have hda:=znM h hd;have hlo:=h.lo;have hhi:=h.hi;refine ⟨?_,by simp only [];omega,by simp only [];omega⟩
 rw [zpS];exact ze.2 ⟨opr_name (zh4 h.v (xae h.at_)) d,ze.2 ⟨zbd.2 (by simp only [];omega),ze.2 ⟨movA,rfl⟩⟩⟩
def yj:∀ x ∈ yf s (ckM s u o),Pure prog 135 [x.pv] (.i .i64 0):=λx hx=>by
 obtain ⟨m,hm,rfl⟩:=xa3.1 hx;exact zq9 _ m (opr_name (zh4 h.v (xae h.at_)) _) (zz7 h.per h.lo h.hi hm).1
def yt:∃ R:List URw,sumW R=(znz (stU zbj (λ_=>false) (λ_=>3) (ckF s (zq s.req.per)) (ckT s u o)),znF (stU zbj (λ_=>false) (λ_=>3) (ckF s (zq s.req.per)) (ckT s u o)))/\(∀ r ∈ R,0<=r.fl/\r.fl<=100/\0<=r.du/\r.du<=100)/\R.length<=12 /\
  Pure prog 16 [zc6,.sl 3 ((ckO s (zq s.req.per)).map USl.pv),.sl 8 ((yf s (ckM s u o)).map UNt.pv)] (.tup [.sl 4 (R.map URw.pv),.i .i64 0]):=by
 have hO:=ck_O h;have hl:(ckO s (zq s.req.per)).length=(zq s.req.per).length:=by rw [ckO,xaf]
 have h14:=h.len;have hg:(ckG s (ckM s u o)).length<=14:=by
  have:=zsS h u o;rw [ckT,zpO,xaf] at this;rw [ckG,xaf];exact this
 have ef:(λx=>(yf s (ckM s u o)).any (zbK x))=λ_=>false:=funext λx=>yo _ _ x
 have hst:(stU zbj (λ_=>false) (λ_=>3) (ckO s (zq s.req.per)) (ckG s (ckM s u o))).length=(ckO s (zq s.req.per)).length:=by rw [<-zp7,zij]
 have:=pure4040 (ckO s (zq s.req.per)) (yf s (ckM s u o)) (by omega) (by rw [yf,xaf];rw [ckG,xaf] at hg;omega) (λx hx=>(hO x hx).1) (yj h u o) two_ok (by rw [yb];exact hg) (yu s) (by rw [yb];exact yw s u o) (λx hx=>(hO x hx).2)
  (by rw [yb,ef];exact yk (zh4 h.v (xae h.at_)) _ _)
 rw [yb,ef] at this;have h2:=yx h u o;refine ⟨_,by rw [yp hst,h2.1,h2.2.1],λr hr=>?_,?_,this⟩
 .have hm:=(zcv zpp _).subset hr;obtain ⟨e,he,rfl⟩:=xa3.1 hm;have hb:=zpZ _ [] 0 (by omega) (by simp) e he
  have hnl:(zfI (ckO s (zq s.req.per)) (stU zbj (λ_=>false) (λ_=>3) (ckO s (zq s.req.per)) (ckG s (ckM s u o)))).length<=14:=by
   rw [zfI,List.length_zip,xaf];omega
  simp only [rwE];omega
 .rw [zyM,zK,xaf];exact yk (zh4 h.v (xae h.at_)) _ _
end
def yn {b:Bk} (h:zu b=0) {i:Nat} {s:Slt} (hs:b.slots[i]?=some s) (d:Int):zan (zvH s d)=true:=by
 have h1:=opr_name (zh4 h (xae hs)) d;rw [zy] at h1;cases hi:zan (zvH s d)
 .rw [hi,if_pos rfl] at h1;cases h1
 .rfl
def yg (R:List URw) (k:Nat):Int × Int:=(R.take k).foldl (λa r=>(a.1+r.fl,a.2+r.du)) (0,0)
def yd {R:List URw} {k:Nat} {r:URw} (h:R[k]?=some r):yg R (k+1)=((yg R k).1+r.fl,(yg R k).2+r.du):=by
 rw [yg,zM h,xa4];rfl
theorem ym {R:List URw} (h:∀ r ∈ R,0<=r.fl/\r.fl<=100/\0<=r.du/\r.du<=100):∀ k,k<=R.length->0<=(yg R k).1/\(yg R k).1<=100*k/\0<=(yg R k).2/\(yg R k).2<=100*k
 | 0,_=>by simp [yg]
 | k+1,hk=>by
  obtain ⟨r,hr⟩:=zk (i:=k) (l:=R) (by omega)
  have:=ym h k (by omega)
  have:=h r (xae hr);rw [yd hr];simp only [];omega
def allUN (l:List UNt):l.all ((λx=>x.cells.all PV.one) ∘ UNt.pv)=true:=xaD.2 λx _=>rfl
def yq (b:Bk) (at_ u o:Int):Pure prog 3 [b.pv,.i .u8 at_,.agg [.i .u16 u,.i .i8 o]] (.b true):=by
 refine pz func3 f3.eq_1 λhw X hX=>?_
 by_cases hC:zpH b=true/\zu b=0/\b.slots≠[]
 .obtain ⟨hb,hcv,hne⟩:=hC
  have hlp:0 < b.slots.length:=List.length_pos_iff.2 hne
  obtain ⟨i,hi⟩:∃ i,i=(at_ % b.slots.length).toNat:=⟨_,rfl⟩
  obtain ⟨s,hs⟩:=zk (i:=i) (l:=b.slots) (by have:=Int.emod_lt_of_pos at_ (show (0:Int) < b.slots.length by omega);have:=Int.emod_nonneg at_ (show (b.slots.length:Int)≠0 by omega);omega)
  have h71:=pure4071 b at_ hb hcv hne (by rw [<-hi];exact hs)
  by_cases hcar:zD0 s=true
  .have hk:=ckS_of hb hcv hs hcar
   rw [hcar] at h71
   have h73:=pure4073 b hk.ok
   have h67:=zq6 s.req.per hk.per
   have h14:=hk.len
   have hls:s.ls.length<=8:=by
    have h8:(if 8 < (s.ls.length:Int) then (5:Int) else 0)=0:=fE0 (zh4 hcv (xae hs)) _ (by simp)
    refine Decidable.byContradiction λk=>?_
    rw [if_pos (by omega)] at h8;cases h8
   have hlo:=hk.lo
   have hhi:=hk.hi
   have hfl:∀ L:List Int,(ckF s L).length=L.length:=λL=>zeO ..
   have hol:∀ L:List Int,(ckO s L).length=L.length:=λL=>xaf ..
   have hnl:∀ L:List Int,(zha s.req.name L).length=L.length:=λL=>xaf ..
   have hgl:∀ L:List Int,(yf s L).length=L.length:=λL=>xaf ..
   have qe:=@qR;repeat' first|refine gC ?_ ?_<;>intro hc<;>try contradiction|refine za h71 ?_|refine za h73 ?_|refine za h67 ?_|refine gG ?_|show AK _;intro J Z|refine gJ ?_|omega|exact aT
   refine zaf 300 55 3 [(5,.lp 5 0),(7,.lp 7 0),(9,.lp 9 0),(10,.row 300 0),(11,.p .nilsl),(12,.p .nilsl),(13,.p .nilsl),(53,.p (.sl 1 ((zq s.req.per).map (.i .i64)))),(54,.p (.i .i64 (zq s.req.per).length)),(55,.p (.i .i64 0))] [(5,.box [.p (.i .u16 u),.p (.i .i8 o)] false),(7,.box (s.cells.map .p) false),(9,.box [.p (.sl 16 (b.slots.map Slt.pv)),.p (.sl 14 (b.wait.map Wsh.pv))] false)] ?_ ?_
   .simp only [Own,zam,zaj,za8,zad,qS,seval]
   refine zaf 301 55 3 [(5,.lp 5 0),(7,.lp 7 0),(9,.lp 9 0),(10,.row 300 0),(11,.row 301 0),(12,.p .nilsl),(13,.p .nilsl),(53,.p (.sl 1 ((zq s.req.per).map (.i .i64)))),(54,.p (.i .i64 (zq s.req.per).length)),(55,.p (.i .i64 0))] [(5,.box [.p (.i .u16 u),.p (.i .i8 o)] false),(7,.box (s.cells.map .p) false),(9,.box [.p (.sl 16 (b.slots.map Slt.pv)),.p (.sl 14 (b.wait.map Wsh.pv))] false),(300,.row 55 3 [] false)] ?_ ?_
   .simp only [Own,zam,zaj,za8,zad,qS,seval]
   refine zh (κ:=Nat) (λk=>⟨[(5,.lp 5 0),(7,.lp 7 0),(9,.lp 9 0),(10,.row 300 k),(11,.row 301 k),(12,.p .nilsl),(13,.p .nilsl),(53,.p (.sl 1 ((zq s.req.per).map (.i .i64)))),(54,.p (.i .i64 (zq s.req.per).length)),(55,.p (.i .i64 k))],[(5,.box [.p (.i .u16 u),.p (.i .i8 o)] false),(7,.box (s.cells.map .p) false),(9,.box [.p (.sl 16 (b.slots.map Slt.pv)),.p (.sl 14 (b.wait.map Wsh.pv))] false),(300,.row 55 3 ((ckF s ((zq s.req.per).take k)).map USl.pv) false),(301,.row 55 3 ((ckO s ((zq s.req.per).take k)).map USl.pv) false)],[],false⟩) (λk=>k<=(zq s.req.per).length) (λk=>(zq s.req.per).length - k) 0 ?_ ?_ ?_
   .refine gJ ?_;simp [slU,ckO]
   .simp
   .intro k hk1
    have htl:((zq s.req.per).take k).length=k:=by rw [xaj];omega
    have ht1:(ckF s ((zq s.req.per).take k)).length=k:=by rw [hfl];exact htl
    have ht2:(ckO s ((zq s.req.per).take k)).length=k:=by rw [hol];exact htl
    repeat first|refine gG ?_|show AK _;intro J Z|refine gJ ?_|omega|exact aT
    (refine gC ?_ ?_<;>intro hc<;>try contradiction)
    .obtain ⟨d,hd⟩:=zk (i:=k) (l:=(zq s.req.per)) (by omega)
     have hdm:=znM hk (xae hd)
     have hop:=opr_day hcv hs (xae hd)
     have h37:=zvx b s.req.name d
     rw [hop.1,hop.2] at h37
     have h70:=zhv (zvH s d)
     rw [yn hcv hs] at h70
     have hs1:(ckF s ((zq s.req.per).take (k+1))).map USl.pv=(ckF s ((zq s.req.per).take k)).map USl.pv++[.agg [.s s.req.name,.i .i64 (1440*d+s.req.minute),.s sA]]:=by rw [zM hd,ckF,slU,xaZ,xaZ];rfl
     have hs2:(ckO s ((zq s.req.per).take (k+1))).map USl.pv=(ckO s ((zq s.req.per).take k)).map USl.pv++[.agg [.s (zvH s d),.i .i64 (1440*d+s.req.minute),.s sA]]:=by rw [zM hd,ckO,xaZ,xaZ];rfl
     have qe:=aI qR (aI @hd (aI @ht1 @ht2));repeat' first|refine gC ?_ ?_<;>intro hc<;>try contradiction|refine za h37 ?_|refine zm (λ_=>h70) ?_|refine gG ?_|show AK _;intro J Z|refine gJ ?_|omega|exact aT
     exact ⟨k+1,by omega,by omega,by simp,⟨by rw [hs1],by rw [hs2]⟩,by simp [hfl,hol];omega⟩
    .have e1:k=(zq s.req.per).length:=by omega
     subst e1
     rw [xaG]
     have h74:=pure4074 s.req u o hk.per hk.lo hk.hi
     have qe:=@qR;repeat' first|refine gC ?_ ?_<;>intro hc<;>try contradiction|refine za h74 ?_|refine gG ?_|show AK _;intro J Z|refine gJ ?_|omega|exact aT
     refine zaf 302 58 8 [(5,.lp 5 0),(7,.lp 7 0),(9,.lp 9 0),(10,.row 300 (zq s.req.per).length),(11,.row 301 (zq s.req.per).length),(12,.row 302 0),(13,.p .nilsl),(106,.p (.sl 1 ((ckM s u o).map (.i .i64)))),(107,.p (.i .i64 (ckM s u o).length)),(108,.p (.i .i64 0))] [(5,.box [.p (.i .u16 u),.p (.i .i8 o)] false),(7,.box (s.cells.map .p) false),(9,.box [.p (.sl 16 (b.slots.map Slt.pv)),.p (.sl 14 (b.wait.map Wsh.pv))] false),(300,.row 55 3 ((ckF s (zq s.req.per)).map USl.pv) false),(301,.row 55 3 ((ckO s (zq s.req.per)).map USl.pv) false)] ?_ ?_
     .simp only [Own,zam,zaj,za8,zad,qS,seval]<;>simp [hfl,hol]
     refine zaf 303 58 8 [(5,.lp 5 0),(7,.lp 7 0),(9,.lp 9 0),(10,.row 300 (zq s.req.per).length),(11,.row 301 (zq s.req.per).length),(12,.row 302 0),(13,.row 303 0),(106,.p (.sl 1 ((ckM s u o).map (.i .i64)))),(107,.p (.i .i64 (ckM s u o).length)),(108,.p (.i .i64 0))] [(5,.box [.p (.i .u16 u),.p (.i .i8 o)] false),(7,.box (s.cells.map .p) false),(9,.box [.p (.sl 16 (b.slots.map Slt.pv)),.p (.sl 14 (b.wait.map Wsh.pv))] false),(300,.row 55 3 ((ckF s (zq s.req.per)).map USl.pv) false),(301,.row 55 3 ((ckO s (zq s.req.per)).map USl.pv) false),(302,.row 58 8 [] false)] ?_ ?_
     .simp only [Own,zam,zaj,za8,zad,qS,seval]<;>simp [hfl,hol]
     have hml:(ckM s u o).length<=14:=by have:=zDW hk u o;rw [hnl] at this;exact this
     refine zh (κ:=Nat) (λk=>⟨[(5,.lp 5 0),(7,.lp 7 0),(9,.lp 9 0),(10,.row 300 (zq s.req.per).length),(11,.row 301 (zq s.req.per).length),(12,.row 302 k),(13,.row 303 k),(106,.p (.sl 1 ((ckM s u o).map (.i .i64)))),(107,.p (.i .i64 (ckM s u o).length)),(108,.p (.i .i64 k))],[(5,.box [.p (.i .u16 u),.p (.i .i8 o)] false),(7,.box (s.cells.map .p) false),(9,.box [.p (.sl 16 (b.slots.map Slt.pv)),.p (.sl 14 (b.wait.map Wsh.pv))] false),(300,.row 55 3 ((ckF s (zq s.req.per)).map USl.pv) false),(301,.row 55 3 ((ckO s (zq s.req.per)).map USl.pv) false),(302,.row 58 8 ((zha s.req.name ((ckM s u o).take k)).map UNt.pv) false),(303,.row 58 8 ((yf s ((ckM s u o).take k)).map UNt.pv) false)],[],false⟩) (λk=>k<=(ckM s u o).length) (λk=>(ckM s u o).length - k) 0 ?_ ?_ ?_
     .refine gJ ?_;simp [zha,yf,hfl,hol]
     .simp
     .intro k hk2
      have htl2:((ckM s u o).take k).length=k:=by rw [xaj];omega
      have ht3:(zha s.req.name ((ckM s u o).take k)).length=k:=by rw [hnl];exact htl2
      have ht4:(yf s ((ckM s u o).take k)).length=k:=by rw [hgl];exact htl2
      repeat first|refine gG ?_|show AK _;intro J Z|refine gJ ?_|omega|exact aT
      (refine gC ?_ ?_<;>intro hc<;>try contradiction)
      .obtain ⟨m,hm⟩:=zk (i:=k) (l:=(ckM s u o)) (by omega)
       have hmb:=zz7 hk.per hk.lo hk.hi (xae hm)
       have hmr:=zbd.1 hmb.1
       have hdv:m.tdiv 1440=m / 1440:=xbf hmr.1
       have hop:=opr_day hcv hs hmb.2
       have h37:=zvx b s.req.name (m / 1440)
       rw [hop.1,hop.2] at h37
       have h70:=zhv (zvH s (m / 1440))
       rw [yn hcv hs] at h70
       have hs3:(zha s.req.name ((ckM s u o).take (k+1))).map UNt.pv=(zha s.req.name ((ckM s u o).take k)).map UNt.pv++[(flyN s.req.name m).pv]:=by rw [zM hm,zha,xaZ,xaZ];rfl
       have hs4:(yf s ((ckM s u o).take (k+1))).map UNt.pv=(yf s ((ckM s u o).take k)).map UNt.pv++[(flyN (zvH s (m / 1440)) m).pv]:=by rw [zM hm,yf,xaZ,xaZ];rfl
       have qe:=aI qR (aI @hm (aI @hdv (aI @ht3 @ht4)));repeat' first|refine gC ?_ ?_<;>intro hc<;>try contradiction|refine za h37 ?_|refine zm (λ_=>h70) ?_|refine za (ziw s.req.name m) ?_|refine za (ziw (zvH s (m / 1440)) m) ?_|refine gG ?_|show AK _;intro J Z|refine gJ ?_|omega|exact aT
       exact ⟨k+1,by omega,by omega,by simp,⟨by rw [hs3],by rw [hs4]⟩,by simp [hfl,hol,hnl,hgl];omega⟩
      .have e2:k=(ckM s u o).length:=by omega
       subst e2
       rw [xaG]
       have h38:=ck_slots hk
       have hf:=ck_F hk (D:=(zq s.req.per)) λd hd=>hd
       have h34:=zix (ckF s (zq s.req.per)) (zha s.req.name (ckM s u o)) (by rw [hfl];omega) (by rw [hnl];omega) (λx hx=>(hf x hx).1) (zxU hk u o) zry (by rw [zd7];exact zsS hk u o) (zqc _ _ _ (zbp s.req.per)) (by rw [zd7];exact zsf _ _ _) (λx hx=>(hf x hx).2)
       rw [zd7,show (λx=>(zha s.req.name (ckM s u o)).any (zbK x))=λ_=>false from funext λx=>ziO _ _ x] at h34
       obtain ⟨R,hR,hRb,hRl,h40⟩:=yt hk u o
       have hdue:=(yx hk u o).2.2
       rw [hdue] at hR h34
       generalize znz (stU zbj (λ_=>false) (λ_=>3) (ckF s (zq s.req.per)) (ckT s u o))=p at hR h34
       have hAU:=λl=>eq_true (allUN l)
       have qe:=aI qR (aI @hfl (aI @hol (aI @hnl (aI @hgl (aI @List.length_map.{0,0} (aI @zbM @decide_true))))));repeat' first|refine gC ?_ ?_<;>intro hc<;>try contradiction|refine za h38 ?_|refine za zmK ?_|refine za h34 ?_|refine zL (h40) ?_|refine gG ?_|show AK _;intro J Z|refine gJ ?_|omega|exact aT
       refine zh (κ:=Nat) (λk=>⟨[(7,.lp 7 0),(9,.lp 9 0),(10,.row 300 (zq s.req.per).length),(22,.p (.sl 3 ((ckF s (zq s.req.per)).map USl.pv))),(24,.lp 24 0),(28,.lp 28 0),(188,.p (.sl 4 (R.map URw.pv))),(189,.p (.i .i64 R.length)),(190,.p (.i .i64 k))],[(7,.box (s.cells.map .p) false),(9,.box [.p (.sl 16 (b.slots.map Slt.pv)),.p (.sl 14 (b.wait.map Wsh.pv))] false),(300,.row 55 3 ((ckF s (zq s.req.per)).map USl.pv) false),(24,.box [.p (.i .i64 p),.p (.i .i64 (zq s.req.per).length)] false),(28,.box [.p (.i .i64 (yg R k).1),.p (.i .i64 (yg R k).2)] false)],[],false⟩) (λk=>k<=R.length) (λk=>R.length - k) 0 ?_ ?_ ?_
       .refine gJ ?_;simp [yg,hfl]
       .simp
       .intro k hk3
        have hsb:=ym hRb k hk3
        repeat first|refine gG ?_|show AK _;intro J Z|refine gJ ?_|omega|exact aT
        (refine gC ?_ ?_<;>intro hc<;>try contradiction)
        .obtain ⟨r,hr⟩:=zk (i:=k) (l:=R) (by omega)
         have hrb:=hRb r (xae hr)
         have hsn:=yd hr
         have qe:=aI qR @hr;repeat' first|refine gC ?_ ?_<;>intro hc<;>try contradiction|refine gG ?_|show AK _;intro J Z|refine gJ ?_|omega|exact aT
         exact ⟨k+1,by omega,by omega,by simp,by rw [hsn],by simp [hfl]⟩
        .have e3:k=R.length:=by omega
         subst e3
         have hsR:yg R R.length=(p,((zq s.req.per).length:Int)):=by rw [yg,xaG];exact hR
         rw [hsR]
         have qe:=aI qR (aI @hfl (aI @List.length_map.{0,0} (aI @zbM @decide_true)));repeat' first|refine gC ?_ ?_<;>intro hc<;>try contradiction|refine gG ?_|show AK _;intro J Z|refine gJ ?_|omega|exact aT
         refine zh (κ:=Nat) (λk=>⟨[(7,.lp 7 0),(9,.lp 9 0),(10,.row 300 (zq s.req.per).length),(22,.p (.sl 3 ((ckF s (zq s.req.per)).map USl.pv))),(219,.p (.sl 3 (s.ls.map Lea.pv))),(220,.p (.i .i64 s.ls.length)),(221,.p (.i .i64 k))],[(7,.box (s.cells.map .p) false),(9,.box [.p (.sl 16 ((lsB b i s (s.ls.drop k)).slots.map Slt.pv)),.p (.sl 14 ((lsB b i s (s.ls.drop k)).wait.map Wsh.pv))] false),(300,.row 55 3 ((ckF s (zq s.req.per)).map USl.pv) false)],[],false⟩) (λk=>k<=s.ls.length/\zu (lsB b i s (s.ls.drop k))=0/\zeG (lsB b i s (s.ls.drop k))) (λk=>s.ls.length - k) 0 ?_ ?_ ?_
         .refine gJ ?_;simp [lsB_self hs,hfl]
         .exact ⟨by omega,by rw [xb3,lsB_self hs];exact hcv,by rw [xb3,lsB_self hs];exact hk.ok⟩
         .rintro k ⟨hk4,hv,hy⟩
          repeat first|refine gG ?_|show AK _;intro J Z|refine gJ ?_|omega|exact aT
          (refine gC ?_ ?_<;>intro hc<;>try contradiction)
          .obtain ⟨x,hx⟩:=zk (i:=k) (l:=s.ls) (by omega)
           obtain ⟨l1,l2,l3⟩:=ls_step hs hx hv
           have h138:=pure1038 (lsB b i s (s.ls.drop k)) s.holder s.req.name x.fro (λ_=>hy)
           rw [zjr hv reB_0,l1,l2] at h138
           have hy2:=reB_ok hy hv s.holder s.req.name x.fro
           rw [l2] at hy2
           have qe:=aI qR @hx;repeat' first|refine gC ?_ ?_<;>intro hc<;>try contradiction|refine za h138 ?_|refine gG ?_|show AK _;intro J Z|refine gJ ?_|omega|exact aT
           exact ⟨k+1,⟨by omega,l3,hy2⟩,by omega,by simp [hfl]⟩
          .have e4:k=s.ls.length:=by omega
           subst e4
           rw [List.drop_length] at hv
           rw [List.drop_length]
           have qe:=@qR;repeat' first|refine gC ?_ ?_<;>intro hc<;>try contradiction|refine za h67 ?_|refine gG ?_|show AK _;intro J Z|refine gJ ?_|omega|exact aT
           refine zh (κ:=Nat) (λk=>⟨[(7,.lp 7 0),(9,.lp 9 0),(10,.row 300 (zq s.req.per).length),(22,.p (.sl 3 ((ckF s (zq s.req.per)).map USl.pv))),(244,.p (.sl 1 ((zq s.req.per).map (.i .i64)))),(245,.p (.i .i64 (zq s.req.per).length)),(246,.p (.i .i64 k))],[(7,.box (s.cells.map .p) false),(9,.box [.p (.sl 16 ((lsB b i s []).slots.map Slt.pv)),.p (.sl 14 ((lsB b i s []).wait.map Wsh.pv))] false),(300,.row 55 3 ((ckF s (zq s.req.per)).map USl.pv) false)],[],false⟩) (λk=>k<=(zq s.req.per).length) (λk=>(zq s.req.per).length - k) 0 ?_ ?_ ?_
           .refine gJ ?_;simp [hfl]
           .simp
           .intro k hk5
            repeat first|refine gG ?_|show AK _;intro J Z|refine gJ ?_|omega|exact aT
            (refine gC ?_ ?_<;>intro hc<;>try contradiction)
            .obtain ⟨d,hd⟩:=zk (i:=k) (l:=(zq s.req.per)) (by omega)
             have hop:zpJ (lsB b i s []) s.req.name d=0/\zkZ (lsB b i s []) s.req.name d=zvH (lsS s []) d:=opr_day hv (zCP hs []) (xae hd)
             have h37:=zvx (lsB b i s []) s.req.name d
             rw [hop.1,hop.2,opr_none] at h37
             have hF:(ckF s (zq s.req.per))[k]?=some ⟨s.req.name,1440*d+s.req.minute,sA⟩:=by rw [ckF,slU,xai,hd];rfl
             have qe:=aI qR (aI @hd (aI @hF (aI @hfl (aI @List.length_map.{0,0} (aI @zbM @decide_true)))));repeat' first|refine gC ?_ ?_<;>intro hc<;>try contradiction|refine za h37 ?_|refine gG ?_|show AK _;intro J Z|refine gJ ?_|omega|exact aT
             exact ⟨k+1,by omega,by omega,by simp [hfl]⟩
            .have e5:k=(zq s.req.per).length:=by omega
             subst e5
             have qe:=@qR;have jA:=pure4072;exact gD2
  .have hcar':zD0 s=false:=by simpa using hcar
   rw [hcar'] at h71
   have qe:=@qR;have jA:=h71;have jB:=pure4072;exact gD2
 .have h71:=zCo b at_ hC
  have qe:=@qR;have jA:=h71;have jB:=pure4072;exact gD2
open Go.RowKit Go.Proofs.Tryz Go.ChangeShapes Go.WideShapes Go.ChangeAt
def yi (os:Os) (started:os.Started) (H:Type) (enc:TypeId × Value->H):ReturnsInHanded {} Tryz.checked os 3 .any (Rows.topChockLeasesSpec.pre6 enc prog f3 Rows.topChockLeasesRow.domain false) (Rows.topChockLeasesSpec.post enc prog f3 false true false false):=by
 refine returnsInHanded_of_change_shaped (C:=Tryz.checked) own started (by kernel_rfl) func3
  (ChangeSpec.witness6 (enc:=enc) (C:=Tryz.checked) false ⟨#[],#[.agg #[.slice none 0 0,.slice none 0 0],.int .u8 0,.agg #[.int .u16 0,.int .i8 0]],[]⟩ 8 (by kernel_rfl) (by kernel_rfl) (by kernel_rfl) (by kernel_rfl)) ?_
 intro W base args ds gs before hval hW _ hsz _ _;refine zxE (C:=Tryz.checked) (n:=6) (tb:=4) laid (by kernel_rfl) rfl (λH ds hd=>?_) (by kernel_rfl) und4 (by kernel_rfl) (λps hps=>?_) W base args ds gs before hval hW hsz
 .match ds,hd with
  | [_,_,_],_=>rfl
 .match ps,hps with
  | [a0,a1,a2],⟨h0,h1,h2,_⟩=>
   obtain ⟨b,rfl⟩:=fit_bk h0;obtain ⟨n,rfl⟩:=fit_at h1;obtain ⟨u,o,rfl⟩:=fit_jny h2;exact yq b n u o
def yG:(Rows.topChockLeasesRow.inPlace == prog.inPlace 3)=true:=by kernel_rfl
def yF:(Rows.topChockLeasesRow.unfollowed == prog.unfollowed 3)=true:=by kernel_rfl
def yE:(Rows.topChockLeasesRow.recurses == prog.recurses 3)=true:=by kernel_rfl
def yD:(Rows.topChockLeasesRow.named == prog.varsNamed 3)=true:=by kernel_rfl
def yC:Tryz.checked.prog.funcNamed Rows.topChockLeasesRow.func=some 3:=by kernel_rfl
def yB:joinedFacts prog 3 f3 Rows.topChockLeasesSpec Rows.topChockLeasesRow=true:=
 zCZ (by as_aux_lemma=>kernel_rfl) laid rowed (by as_aux_lemma=>kernel_rfl) yG yF yE yD (by as_aux_lemma=>kernel_rfl) (by as_aux_lemma=>kernel_rfl) (by as_aux_lemma=>kernel_rfl) (by as_aux_lemma=>kernel_rfl) (by as_aux_lemma=>kernel_rfl)
def yA:f3.isInstance prog Rows.topChockLeasesRow.origin Rows.topChockLeasesRow.targs:=of_decide_eq_true (by kernel_rfl)
def yz:f3.isWrapper prog Rows.topChockLeasesRow.wrapper Rows.topChockLeasesRow.mainSum:=by
 unfold Func.isWrapper;first|(rw [if_pos (by decide +kernel)];kernel_rfl)|(rw [if_neg (by decide +kernel)];exact ⟨rfl,rfl⟩)
def ya:Rows.topChockLeasesRow.holds Tryz.pinned (OpenSpec.ofChange Rows.topChockLeasesSpec):=
 OpenClaim.holds_of_wide 3 f3 rfl rfl rfl rfl rfl rfl rfl ⟨rfl,rfl,rfl,rfl,rfl⟩ rfl rfl rfl rfl rfl yC func3 yB yA yz
  (λos started H enc _=>yi os started H enc)
theorem chockleases_proved:Rows.TopChockLeasesSaid:=ya
