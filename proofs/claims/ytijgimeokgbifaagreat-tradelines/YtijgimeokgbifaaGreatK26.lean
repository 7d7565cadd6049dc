/- Contracts of functions, for the claim. No conditions. -/
import Derived.Test.YtijgimeokgbifaaGreatK23
set_option linter.all false
set_option maxHeartbeats 8000000
set_option maxRecDepth 100000
namespace Go.Proofs.YtijgimeokgbifaaGreat
open Go.RowKit
theorem ztL {w:World} {B B':Nat->Prop} {v:Value} {p1 p2 q1 q2:PV} (hB:∀ b,B b->B' b) (h1:∀ v,Rep w B v p1->Rep w B' v q1) (h2:∀ v,Rep w B v p2->Rep w B' v q2) (h:Rep w B v (.ip (.agg [p1,p2]) 0)):Rep w B' v (.ip (.agg [q1,q2]) 0):=by
 cases h with
 | ip u hb hs hc hu=>
  refine .ip u (hB _ hb) hs (λj p hp=>?_) (λj p hp=>?_)
  ·match j,hp with
   | 0,_=>exact hc 0 p1 rfl
   | 1,_=>exact hc 1 p2 rfl
   | j+2,hp=>simp [PV.cells] at hp
  ·match j,hp with
   | 0,hp=>
    simp [PV.cells] at hp;subst hp
    exact h1 _ (hu 0 p1 rfl)
   | 1,hp=>
    simp [PV.cells] at hp;subst hp
    exact h2 _ (hu 1 p2 rfl)
   | j+2,hp=>simp [PV.cells] at hp
theorem znP (p q:PV) (but:Int):Pure Tryz.prog 119 [.agg [p,q],.i .i64 but] (.fn (.func 194) [] [.ip (.agg [p,q]) 0,.ip (.i .i64 but) 0]):=by
 refine zf (cF Tryz.func119 Tryz.f119.eq_1) (by simp) λhw X hX=>?_
 repeat' first|refine gC ?_ ?_<;>intro hc<;>try contradiction|refine gG ?_|show AK _;intro K H|refine H _ _ ?_;clear H K|refine gJ ?_;try exact trivial|omega
 exact .refl _
theorem znF (L:List Slt) (a0:Option Addr) (c0:Nat) (hn:L.length<=1000000):zvW Tryz.prog 74 (λw Bx=>Rep w Bx (.slice a0 (L.map Slt.pv).length c0) (.sl 16 (L.map Slt.pv))) [.agg [.rs a0 (L.map Slt.pv).length c0,.nilsl],.i .i64 (-1)] (.sl 7 ((mvF (rqW (L.map (·.req)) (-1))).map Mov.pv)):=by
 refine zqs (cF Tryz.func74 Tryz.f74.eq_1) (by simp) λw B Bx hBx hE=>?_
 generalize (L.map Slt.pv).length=n0 at hE ⊢
 repeat' first|refine gC ?_ ?_<;>intro hc<;>try contradiction|refine za (znP (.rs a0 n0 c0) .nilsl (-1)) ?_|refine gG ?_|show AK _;intro K H|refine H _ _ ?_;clear H K|refine gJ ?_;try exact trivial|omega
 refine zfP 5 [.p .nilsl] [.p (.sl 7 ([]:List PV))] (sR) ⟨.inr ⟨7,rfl,rfl⟩,trivial⟩ ?_
 refine zlr (Bx:=Bx) (λb hb=>⟨hBx b hb,id,id⟩) (caps0:=[.ip (.agg [.rs a0 n0 c0,.nilsl]) 0,.ip (.i .i64 (-1)) 0]) (caps:=[.ip (.agg [.sl 16 (L.map Slt.pv),.sl 14 (([]:List Wsh).map Wsh.pv)]) 0,.ip (.i .i64 (-1)) 0]) ?_ rfl (zkJ L [] (-1) hn) ?_ ?_ ?_ [(2,.lp 2 0),(5,.lp 5 0)] (λk=>[(2,.box [.p (.rs a0 n0 c0),.p .nilsl] false),(5,.box [.p (.sl 7 ((mvF ((rqW (L.map (·.req)) (-1)).take k)).map Mov.pv))] false)]) (λ_=>[]) (λ_=>True) ?_ trivial ?_ ?_
 ·intro W B1 cs hW hr
  have hE':Rep W (λb=>B1 b\/Bx b) (.slice a0 n0 c0) (.sl 16 (L.map Slt.pv)):=hE.mono (λb hb=>.inr hb) hW
  obtain ⟨hl,hc⟩:=hr
  refine ⟨hl,λj v p hv hp=>?_⟩
  match j,hp with
  | 0,hp=>
   simp at hp;subst hp
   refine ztL (λb hb=>.inl hb) (λv hv=>?_) (λv hv=>?_) (hc 0 v _ hv rfl)
   ·cases hv;exact hE'
   ·cases hv;exact .sl0
  | 1,hp=>
   simp at hp;subst hp
   exact (hc 1 v _ hv rfl).mono (λb hb=>.inl hb) λ_ _=>rfl
  | j+2,hp=>simp at hp
 ·intro t ht
  obtain ⟨r,_,rfl⟩:=List.mem_map.1 ht
  rfl
 ·simp
 ·simp [zeT]
 ·simp only [St.wr,oset.eq_1,oset.eq_2,qS,seval]<;>rfl
 ·intro k t ht _ X' ro' hX'
  simp only [List.getElem?_map,Option.map_eq_some_iff] at ht
  obtain ⟨r,hr,rfl⟩:=ht
  have hnx:=zkC hr
  simp only [qS,seval]
  repeat' first|refine gC ?_ ?_<;>intro hc<;>try contradiction|refine gG ?_|show AK _;intro K H|refine H _ _ ?_;clear H K|refine gJ ?_;try exact trivial|omega
  intro X1 hX1
  have qe:=@qR;repeat' first|refine gC ?_ ?_<;>intro hc<;>try contradiction|refine za (zkf r) ?_|refine za (zi0 (mvF ((rqW (L.map (·.req)) (-1)).take k)) (zgR r)) ?_|refine gG ?_|show AK _;intro K H|refine H _ _ ?_;clear H K|refine gJ ?_;try exact trivial|omega
  rw [hnx]
 ·intro _
  simp only [List.length_map]
  have qe:=@List.take_length.{0};repeat' first|refine gC ?_ ?_<;>intro hc<;>try contradiction|refine gG ?_|show AK _;intro K H|refine H _ _ ?_;clear H K|refine gJ ?_;try exact trivial|omega
  exact .refl _
structure Srv where
 Q:List Req
 K:List Wsh
 M:List Mov
def ztk (l:List Lim) (n:Nat) (t:Srv) (w:Wsh):Prop:=64<=((n+t.Q.length:Nat):Int)\/zjz l t.M w.req=false
instance (l:List Lim) (n:Nat) (t:Srv) (w:Wsh):Decidable (ztk l n t w):=by unfold ztk;infer_instance
def srvN (l:List Lim) (n:Nat) (t:Srv) (w:Wsh):Srv:=if ztk l n t w then ⟨t.Q,t.K++[w],t.M⟩ else ⟨t.Q++[w.req],t.K,mgR t.M (zgR w.req)⟩
def srv0 (b:Bk):Srv:=⟨[],[],mvF (rqW (b.slots.map (·.req)) (-1))⟩
def zgu (l:List Lim) (b:Bk) (k:Nat):Srv:=(b.wait.take k).foldl (srvN l b.slots.length) (srv0 b)
theorem zhz {l:List Lim} {b:Bk} {k:Nat} {w:Wsh} (h:b.wait[k]?=some w):zgu l b (k+1)=srvN l b.slots.length (zgu l b k) w:=by
 rw [zgu,zan h,List.foldl_append];rfl
theorem zj2 {l:List Lim} {b:Bk}:∀ {k:Nat},k<=b.wait.length->(zgu l b k).Q.length+(zgu l b k).K.length=k
 | 0,_=>rfl
 | k+1,h=>by
  obtain ⟨w,hw⟩:=zm (i:=k) (l:=b.wait) (by omega)
  have ih:=zj2 (l:=l) (b:=b) (k:=k) (by omega)
  rw [zhz hw,srvN]
  split<;>simp<;>omega
def srvB (l:List Lim) (b:Bk):Bk:=⟨b.slots++(zgu l b b.wait.length).Q.map zgP,(zgu l b b.wait.length).K⟩
def srvW (l:List Lim) (b:Bk):List ByteArray:=(zgu l b b.wait.length).Q.map (·.name)
theorem zq0 (l:List Lim) (b:Bk) (hb:zfz b):Pure Tryz.prog 78 [b.pv,.sl 11 (l.map Lim.pv)] (.tup [(srvB l b).pv,.sl 1 ((srvW l b).map .s)]):=by
 obtain ⟨hs,hn1,hwl⟩:=hb
 refine zat (r:=.tup [.agg [.sl 16 (b.slots.map Slt.pv++(zgu l b b.wait.length).Q.map zwD),.sl 14 ((zgu l b b.wait.length).K.map Wsh.pv)],.sl 1 ((srvW l b).map .s)]) ?_ ?_
 ·refine zf (cF Tryz.func78 Tryz.f78.eq_1) (by simp) λhw X hX=>?_
  have qe:=aI qR (aI @qN (aI @zaA (aI @zaz @zaf)));repeat' first|refine gC ?_ ?_<;>intro hc<;>try contradiction|refine zl [(100,200),(7,201)] (zbC b.slots b.wait hs (by omega) (by omega)) ?_|refine gG ?_|show AK _;intro K H|refine H _ _ ?_;clear H K|refine gJ ?_;try exact trivial|omega
  refine zgw (zhx (k:=200) (e:=84) (sz:=16) (xs:=b.slots.map Slt.pv) (fz:=false) (ps:=λa0 c0=>[.agg [.rs a0 (b.slots.map Slt.pv).length c0,.nilsl],.i .i64 (-1)]) rfl rfl (λa0 c0=>znF b.slots a0 c0 (by omega)) λa0 c0=>⟨.inr ⟨_,_,rfl,rfl,.inr ⟨by show LV.row 200 _=LV.row 200 _;simp,rfl⟩,.inl rfl,trivial⟩,.inl (.inl rfl),trivial⟩) ?_
  rintro _ rfl
  refine zE ?_
  have qe:=aI qR @qN;repeat' first|refine gC ?_ ?_<;>intro hc<;>try contradiction|refine gG ?_|show AK _;intro K H|refine H _ _ ?_;clear H K|refine gJ ?_;try exact trivial|omega
  refine zaP 300 73 14 [(1,.p (.sl 11 (l.map Lim.pv))),(4,.lp 4 0),(6,.lp 6 0),(7,.p .nilsl),(8,.p (.sl 7 ((mvF (rqW (b.slots.map (·.req)) (-1))).map Mov.pv))),(19,.p (.sl 14 (b.wait.map Wsh.pv))),(20,.p (.i .i64 b.wait.length)),(21,.p (.i .i64 0))] [(4,.box [.p .nilsl,.p .nilsl] false),(6,.box [.row 200 b.slots.length,.row 300 0] false),(200,.row 84 16 (b.slots.map Slt.pv) false)] ?_ ?_
  ·simp only [Own,zaM,zaB,zbt,zay,qS,seval]<;>simp
  refine zaP 301 9 1 [(1,.p (.sl 11 (l.map Lim.pv))),(4,.lp 4 0),(6,.lp 6 0),(7,.row 301 0),(8,.p (.sl 7 ((mvF (rqW (b.slots.map (·.req)) (-1))).map Mov.pv))),(19,.p (.sl 14 (b.wait.map Wsh.pv))),(20,.p (.i .i64 b.wait.length)),(21,.p (.i .i64 0))] [(4,.box [.p .nilsl,.p .nilsl] false),(6,.box [.row 200 b.slots.length,.row 300 0] false),(200,.row 84 16 (b.slots.map Slt.pv) false),(300,.row 73 14 [] false)] ?_ ?_
  ·simp only [Own,zaM,zaB,zbt,zay,qS,seval]<;>simp
  refine zj (κ:=Nat) (λk=>⟨[(1,.p (.sl 11 (l.map Lim.pv))),(4,.lp 4 0),(6,.lp 6 0),(7,.row 301 (zgu l b k).Q.length),(8,.p (.sl 7 ((zgu l b k).M.map Mov.pv))),(19,.p (.sl 14 (b.wait.map Wsh.pv))),(20,.p (.i .i64 b.wait.length)),(21,.p (.i .i64 k))],[(4,.box [.p .nilsl,.p .nilsl] false),(6,.box [.row 200 (b.slots.length+(zgu l b k).Q.length),.row 300 (zgu l b k).K.length] false),(200,.row 84 16 (b.slots.map Slt.pv++(zgu l b k).Q.map zwD) false),(300,.row 73 14 ((zgu l b k).K.map Wsh.pv) false),(301,.row 9 1 (((zgu l b k).Q.map (·.name)).map .s) false)],[],false⟩) (λk=>k<=b.wait.length) (λk=>b.wait.length - k) 0 ?_ ?_ ?_
  ·refine gJ ?_;simp [zgu,srv0]
  ·simp
  ·intro k hk
   have hlen:=zj2 (l:=l) hk
   repeat first|refine gG ?_|show AK _;intro K H|refine H _ _ ?_;clear H K|refine gJ ?_;try exact trivial|omega
   (refine gC ?_ ?_<;>intro hc<;>try contradiction)
   ·obtain ⟨w,hw⟩:=zm (i:=k) (l:=b.wait) (by omega)
    have hnx:=zhz (l:=l) hw
    rw [srvN] at hnx
    generalize zgu l b k=t at hlen hnx ⊢
    by_cases h1:64<=((b.slots.length+t.Q.length:Nat):Int)
    ·rw [if_pos (.inl h1)] at hnx
     have h1t:=eq_true h1
     have qe:=aI qR (aI @hw (aI @h1t (aI @decide_true (aI @List.length_map.{0,0} @List.length_append.{0}))));repeat' first|refine gC ?_ ?_<;>intro hc<;>try contradiction|refine zM (λ_=>zeq l t.M w.req) ?_|refine gG ?_|show AK _;intro K H|refine H _ _ ?_;clear H K|refine gJ ?_;try exact trivial|omega
     all_goals exact ⟨k+1,by omega,by omega,by rw [hnx];simp⟩
    ·have h1t:=eq_false h1
     by_cases h2:zjz l t.M w.req=false
     ·rw [if_pos (.inr h2)] at hnx
      have qe:=aI qR (aI @hw (aI @h1t (aI @h2 (aI @decide_false (aI @Bool.not_false (aI @List.length_map.{0,0} @List.length_append.{0}))))));repeat' first|refine gC ?_ ?_<;>intro hc<;>try contradiction|refine zM (λ_=>zeq l t.M w.req) ?_|refine gG ?_|show AK _;intro K H|refine H _ _ ?_;clear H K|refine gJ ?_;try exact trivial|omega
      all_goals exact ⟨k+1,by omega,by omega,by rw [hnx];simp⟩
     ·rw [if_neg (λh=>h.elim h1 h2)] at hnx
      have h2t:zjz l t.M w.req=true:=by simpa using h2
      have qe:=aI qR (aI @hw (aI @h1t (aI @h2t (aI @decide_false (aI @Bool.not_true (aI @List.length_map.{0,0} @List.length_append.{0}))))));repeat' first|refine gC ?_ ?_<;>intro hc<;>try contradiction|refine zM (λ_=>zeq l t.M w.req) ?_|refine za (zkf w.req) ?_|refine za (zi0 t.M (zgR w.req)) ?_|refine gG ?_|show AK _;intro K H|refine H _ _ ?_;clear H K|refine gJ ?_;try exact trivial|omega
      all_goals exact ⟨k+1,by omega,by omega,by rw [hnx];simp;omega⟩
   ·have e:k=b.wait.length:=by omega
    subst e
    have qe:=aI qR (aI @zaf (aI @List.length_map.{0,0} @List.length_append.{0}));repeat' first|refine gC ?_ ?_<;>intro hc<;>try contradiction|refine gG ?_|show AK _;intro K H|refine H _ _ ?_;clear H K|refine gJ ?_;try exact trivial|omega
    exact .refl _
 ·refine .tup ⟨.agg ⟨.sl ?_,.refl _,trivial⟩,.refl _,trivial⟩
  rw [srvB,List.map_append,List.map_map]
  exact .app (.refl _) (.map λq _=>zmG q)
def lbE (l:List Lim) (b:Bk):Int:=zg [z3 l,zF b]
def zpi (l:List Lim) (b:Bk):Bk:=if lbE l b=0 then srvB l b else bk0
def zph (l:List Lim) (b:Bk):List ByteArray:=if lbE l b=0 then srvW l b else []
theorem zq8 (l:List Lim) (b:Bk) (hb:zF b=0->zfz b):Pure Tryz.prog 31 [.sl 11 (l.map Lim.pv),b.pv] (.tup [(zpi l b).pv,.sl 1 ((zph l b).map .s),.i .i64 (lbE l b)]):=by
 by_cases h:lbE l b=0
 ·have e1:(zg [z3 l,zF b]=0)=True:=eq_true h
  rw [zpi,zph,if_pos h,if_pos h,h]
  refine zf (cF Tryz.func31 Tryz.f31.eq_1) (by simp) λhw X hX=>?_
  have qe:=aI qR (aI @qN @e1);repeat' first|refine gC ?_ ?_<;>intro hc<;>try contradiction|refine za (zeR l) ?_|refine za (zV b) ?_|refine za (zw [_,_]) ?_|refine zbO (hf:=zq0 l b (hb (fE0 h _ (by simp)))) (hn:=?_)|refine gG ?_|show AK _;intro K H|refine H _ _ ?_;clear H K|refine gJ ?_;try exact trivial|omega
  exact .refl _
 ·have e1:(zg [z3 l,zF b]=0)=False:=eq_false h
  rw [zpi,zph,if_neg h,if_neg h]
  refine zat (r:=.tup [.agg [.nilsl,.nilsl],.nilsl,.i .i64 (lbE l b)]) ?_ (.tup ⟨.agg ⟨.nilsl _,.nilsl _,trivial⟩,.nilsl _,.refl _,trivial⟩)
  refine zf (cF Tryz.func31 Tryz.f31.eq_1) (by simp) λhw X hX=>?_
  have qe:=aI qR (aI @qN @e1);repeat' first|refine gC ?_ ?_<;>intro hc<;>try contradiction|refine za (zeR l) ?_|refine za (zV b) ?_|refine za (zw [_,_]) ?_|refine gG ?_|show AK _;intro K H|refine H _ _ ?_;clear H K|refine gJ ?_;try exact trivial|omega
  exact .refl _
structure Rfs where
 name:ByteArray
 lim:Int
 mom:Int
abbrev Rfs.pv (r:Rfs):PV:=.agg [.s r.name,.i .i64 r.lim,.i .i64 r.mom]
def zpn (f:Mov->List Win) (n:ByteArray):List Mov->List Rfs
 | []=>[]
 | m::r=>match f m with
  | []=>zpn f n r
  | x::_=>[⟨n,x.lim,x.beg⟩]
theorem zkd {f:Mov->List Win} {n:ByteArray} {x:Win} {r:List Win}:∀ {L:List Mov} {i:Nat} {m:Mov},(∀ y ∈ L.take i,f y=[])->L[i]?=some m->f m=x::r->zpn f n L=[⟨n,x.lim,x.beg⟩]
 | [],i,m,_,h,_=>by simp at h
 | y::l,0,m,_,h,hf=>by simp at h;subst h;rw [zpn,hf]
 | y::l,i+1,m,ha,h,hf=>by
  rw [zpn,ha y (by simp)]
  exact zkd (i:=i) (λz hz=>ha z (by simp [hz])) (by simpa using h) hf
theorem zke {f:Mov->List Win} {n:ByteArray}:∀ {L:List Mov},(∀ y ∈ L,f y=[])->zpn f n L=[]
 | [],_=>rfl
 | y::l,ha=>by rw [zpn,ha y (by simp)];exact zke λz hz=>ha z (by simp [hz])
theorem zkc {f:Mov->List Win} {n:ByteArray}:∀ {L:List Mov},(zpn f n L).length<=1
 | []=>by simp [zpn]
 | y::l=>by
  rw [zpn]
  split
  ·exact zkc
  ·simp
theorem zrp (r:Req):(zgR r).length<=401:=by
 rw [zgR]
 split
 ·rename_i h
  have h1:=zcG r.per
  have h2:=zaY (zeC h).1
  rw [zro,List.length_map];omega
 ·simp
def zsj (b:Bk):List Mov:=mvF (rqW (b.slots.map (·.req)) (-1))
def zwx (l:List Lim) (b:Bk) (w:Wsh):List Rfs:=zpn (zl6 l (zsj b)) w.req.name (zgR w.req)
def zix (l:List Lim) (b:Bk) (k:Nat):List Rfs:=(b.wait.take k).flatMap (zwx l b)
def refL (l:List Lim) (b:Bk):List Rfs:=if lbE l b=0 then b.wait.flatMap (zwx l b) else []
theorem zhK {l:List Lim} {b:Bk} {k:Nat} {w:Wsh} (h:b.wait[k]?=some w):zix l b (k+1)=zix l b k++zwx l b w:=by
 rw [zix,zan h,List.flatMap_append];simp [zix]
theorem zgB (l:List Lim) (b:Bk):∀ k,(zix l b k).length<=k
 | 0=>by simp [zix]
 | k+1=>by
  have ih:=zgB l b k
  by_cases h:k < b.wait.length
  ·obtain ⟨w,hw⟩:=zm h
   rw [zhK hw,List.length_append]
   have:(zwx l b w).length<=1:=zkc
   omega
  ·have e:zix l b (k+1)=zix l b k:=by rw [zix,zix,List.take_of_length_le (by omega),List.take_of_length_le (by omega)]
   rw [e];omega
theorem zq7 (l:List Lim) (b:Bk):Pure Tryz.prog 29 [.sl 11 (l.map Lim.pv),b.pv] (.tup [.sl 3 ((refL l b).map Rfs.pv),.i .i64 (lbE l b)]):=by
 by_cases h:lbE l b=0
 ·have e1:(zg [z3 l,zF b]=0)=True:=eq_true h
  have hbl:=zin (fE0 h (zF b) (by simp))
  rw [refL,if_pos h,h]
  refine zf (cF Tryz.func29 Tryz.f29.eq_1) (by simp) fun hw X hX=>?_
  have hall:mvF (rqW (b.slots.map (·.req)) (-1))=zsj b:=rfl
  have qe:=aI qR (aI @qN (aI @e1 @hall));repeat' first|refine gC ?_ ?_<;>intro hc<;>try contradiction|refine za (zeR l) ?_|refine za (zV b) ?_|refine za (zw [_,_]) ?_|refine za (zgL b.slots b.wait (-1) (by omega)) ?_|refine gG ?_|show AK _;intro K H|refine H _ _ ?_;clear H K|refine gJ ?_;try exact trivial|omega
  refine zaP 100 81 3 [(0,.p (.sl 11 (l.map Lim.pv))),(7,.row 100 0),(8,.p (.sl 7 ((zsj b).map Mov.pv))),(29,.p (.sl 14 (b.wait.map Wsh.pv))),(30,.p (.i .i64 b.wait.length)),(31,.p (.i .i64 0))] [] ?_ ?_
  ·simp only [Own,zaM,zaB,zbt,zay,qS,Nat.reduceAdd,Nat.reduceMul,Nat.reduceEqDiff,Nat.reduceLeDiff,reduceIte,reduceCtorEq,Nat.reduceBEq,Nat.reduceLT]<;>simp
  refine zj (κ:=Nat) (fun k=>⟨[(0,.p (.sl 11 (l.map Lim.pv))),(7,.row 100 (zix l b k).length),(8,.p (.sl 7 ((zsj b).map Mov.pv))),(29,.p (.sl 14 (b.wait.map Wsh.pv))),(30,.p (.i .i64 b.wait.length)),(31,.p (.i .i64 k))],[(100,.row 81 3 ((zix l b k).map Rfs.pv) false)],[],false⟩) (fun k=>k≤b.wait.length) (fun k=>b.wait.length - k) 0 ?_ ?_ ?_
  ·refine gJ ?_;simp [zix]
  ·simp
  ·intro k hk
   have hkl:=zgB l b k
   repeat first|refine gG ?_|show AK _;intro K H|refine H _ _ ?_;clear H K|refine gJ ?_;try exact trivial|omega
   (refine gC ?_ ?_<;>intro hc<;>try contradiction)
   ·obtain ⟨w,hw⟩:=zm (i:=k) (l:=b.wait) (by omega)
    have hnx:=zhK (l:=l) hw
    rw [zwx] at hnx
    have hkl1:=zgB l b (k+1)
    have hml:=zrp w.req
    have qe:=aI qR @hw;repeat' first|refine gC ?_ ?_<;>intro hc<;>try contradiction|refine za (zkf w.req) ?_|refine gG ?_|show AK _;intro K H|refine H _ _ ?_;clear H K|refine gJ ?_;try exact trivial|omega
    refine zj (κ:=Nat) (fun i=>⟨[(0,.p (.sl 11 (l.map Lim.pv))),(7,.row 100 (zix l b k).length),(8,.p (.sl 7 ((zsj b).map Mov.pv))),(10,.lp 10 0),(29,.p (.sl 14 (b.wait.map Wsh.pv))),(30,.p (.i .i64 b.wait.length)),(31,.p (.i .i64 k)),(41,.p (.sl 7 ((zgR w.req).map Mov.pv))),(42,.p (.i .i64 (zgR w.req).length)),(43,.p (.i .i64 i))],[(10,.box (w.cells.map .p) false),(100,.row 81 3 ((zix l b k).map Rfs.pv) false)],[],false⟩) (fun i=>i≤(zgR w.req).length∧∀ y ∈ (zgR w.req).take i,zl6 l (zsj b) y=[]) (fun i=>(zgR w.req).length - i) 0 ?_ ?_ ?_
    ·exact sS
    ·simp
    ·intro i hi
     repeat first|refine gG ?_|show AK _;intro K H|refine H _ _ ?_;clear H K|refine gJ ?_;try exact trivial|omega
     (refine gC ?_ ?_<;>intro hc<;>try contradiction)
     ·obtain ⟨m,hm⟩:=zm (i:=i) (l:=zgR w.req) (by omega)
      rcases hf:zl6 l (zsj b) m with _|⟨x,r⟩
      ·have qe:=aI qR (aI @hm @hf);repeat' first|refine gC ?_ ?_<;>intro hc<;>try contradiction|refine za (zsK l (zsj b) m) ?_|refine gG ?_|show AK _;intro K H|refine H _ _ ?_;clear H K|refine gJ ?_;try exact trivial|omega
       exact ⟨i+1,⟨by omega,fun y hy=>by
        rw [zan hm,List.mem_append,List.mem_singleton] at hy
        rcases hy with hy|rfl
        ·exact hi.2 y hy
        ·exact hf⟩,by omega,rfl⟩
      ·have hR:=zkd (n:=w.req.name) hi.2 hm hf
       have qe:=aI qR (aI @hm @hf);repeat' first|refine gC ?_ ?_<;>intro hc<;>try contradiction|refine za (zsK l (zsj b) m) ?_|refine gG ?_|show AK _;intro K H|refine H _ _ ?_;clear H K|refine gJ ?_;try exact trivial|omega
       exact ⟨k+1,by omega,by omega,⟨by rw [hnx,hR];simp,rfl⟩,by rw [hnx,hR];simp⟩
     ·have e:i=(zgR w.req).length:=by omega
      rw [e,List.take_length] at hi
      have hR:=zke (n:=w.req.name) hi.2
      have qe:=@qR;repeat' first|refine gC ?_ ?_<;>intro hc<;>try contradiction|refine gG ?_|show AK _;intro K H|refine H _ _ ?_;clear H K|refine gJ ?_;try exact trivial|omega
      exact ⟨k+1,by omega,by omega,⟨by rw [hnx,hR];simp,rfl⟩,by rw [hnx,hR];simp⟩
   ·have e:k=b.wait.length:=by omega
    subst e
    have qe:=@qR;repeat' first|refine gC ?_ ?_<;>intro hc<;>try contradiction|refine gG ?_|show AK _;intro K H|refine H _ _ ?_;clear H K|refine gJ ?_;try exact trivial|omega
    rw [zix,List.take_length];exact .refl _
 ·have e1:(zg [z3 l,zF b]=0)=False:=eq_false h
  rw [refL,if_neg h]
  refine zat (r:=.tup [.nilsl,.i .i64 (lbE l b)]) ?_ (.tup ⟨.nilsl _,.refl _,trivial⟩)
  refine zf (cF Tryz.func29 Tryz.f29.eq_1) (by simp) fun hw X hX=>?_
  have qe:=aI qR (aI @qN @e1);repeat' first|refine gC ?_ ?_<;>intro hc<;>try contradiction|refine za (zeR l) ?_|refine za (zV b) ?_|refine za (zw [_,_]) ?_|refine gG ?_|show AK _;intro K H|refine H _ _ ?_;clear H K|refine gJ ?_;try exact trivial|omega
  exact .refl _
end Go.Proofs.YtijgimeokgbifaaGreat
