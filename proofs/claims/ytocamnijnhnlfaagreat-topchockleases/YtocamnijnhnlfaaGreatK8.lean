/- Contracts of functions, for the claim. No conditions. -/
import Derived.Test.YtocamnijnhnlfaaGreatK3
import Derived.Test.YtocamnijnhnlfaaGreatK5
import Derived.Test.YtocamnijnhnlfaaGreatK4
import Derived.Test.YtocamnijnhnlfaaGreatK6
set_option linter.all false
set_option maxHeartbeats 8000000
set_option maxRecDepth 100000
namespace Go.Proofs.YtocamnijnhnlfaaGreat
open Go.RowKit Tryz
def zkl {α β:Type} {l:List α} {j:Nat} {x:α} (f:α->List β) (h:l[j]?=some x):(l.take (j+1)).flatMap f=(l.take j).flatMap f++f x:=by
 rw [xaP,h];simp
abbrev zAZ (ls:List Lim) (m:List Mov):Int:=zf [zaK ls,zR m]
def zsU {ls:List Lim} (h:zaK ls=0):ls.length<=32/\∀ l ∈ ls,zbE l=0:=by
 unfold zaK at h
 split at h
 ·cases h
 ·refine ⟨by omega,λl hl=>?_⟩
  obtain ⟨i,hi⟩:=xaS hl;exact (ze.1 (znB h (xae (zz (f:=zrP ls) hi)))).1
def zgi (ls:List Lim) (i:Int):Int:=match ls[i.toNat]? with|some l=>l.most|none=>0
def zcy (ls:List Lim) (a:Int) (w:Win):Int:=min a (max 0 (zgi ls w.lim - w.cnt))
def roomK (ls:List Lim) (W:List Win):Int:=W.foldl (zcy ls) 999999999
def zBQ (ls:List Lim) (m:List Mov) (o:Mov):Int:=roomK ls (arW ls m o)
def zD7 {ls:List Lim} {m:List Mov} {o:Mov} {w:Win} (hw:w ∈ arW ls m o):∃ (i:Nat) (l:Lim),w.lim=i/\ls[i]?=some l/\w.cnt=zcp l m w.beg/\zar l o.kind o.term=true/\w.beg<=o.moment/\o.moment < w.beg+l.len/\∃ e:Nat,e < 2/\w.beg ∈ z7 l (o.moment / 1440 - 1+e):=by
 obtain ⟨i,hi,hw⟩:=xax.1 hw;unfold arI at hw
 split at hw
 ·rename_i l hl;unfold arL at hw
  split at hw
  ·rename_i hc;obtain ⟨e,he,hw⟩:=xax.1 hw;obtain ⟨b,hb,hw⟩:=xax.1 hw;unfold arB at hw
   split at hw
   ·rename_i hin;simp only [xa8] at hw;subst hw;exact ⟨i,l,rfl,hl,rfl,hc,hin.1,hin.2,e,xaO.1 he,hb⟩
   ·cases hw
  ·cases hw
 ·cases hw
def p1 (ls:List Lim) (m:List Mov) (r:Req) (k:Nat) (l:Lim) (q:Nat):List (Nat × Nat):=egK ls m r k++((zq r.per).take q).flatMap (evD m l)
def p2 (ls:List Lim) (m:List Mov) (r:Req) (k:Nat) (l:Lim) (q:Nat) (d:Int) (e:Nat):List (Nat × Nat):=p1 ls m r k l q++(List.range e).flatMap (evX m l d)
def p3 (ls:List Lim) (m:List Mov) (r:Req) (k:Nat) (l:Lim) (q:Nat) (d:Int) (e i:Nat):List (Nat × Nat):=p2 ls m r k l q d e++((z7 l (d - 1+e)).take i).flatMap (evB m l d)
def zc1 {α β:Type} (f:α->List β) (l:List α) (i:Nat):((l.take i).flatMap f).length<=(l.flatMap f).length:=by
 conv=>rhs;rw [<-xao i l,xbc,xad]
 omega
def zem {β:Type} (f:Nat->List β) {i n:Nat} (h:i<=n):((List.range i).flatMap f).length<=((List.range n).flatMap f).length:=by
 have:=zc1 f (List.range n) i
 rwa [List.take_range,xbu h] at this
def zzy {ls:List Lim} {m:List Mov} {r:Req} {k:Nat} {l:Lim} {q:Nat} {d:Int} {e i:Nat} {b:Int} (h:(z7 l (d - 1+e))[i]?=some b):p3 ls m r k l q d e (i+1)=p3 ls m r k l q d e i++evB m l d b:=by
 rw [p3,zkl (evB m l d) h,<-xau];rfl
def zxu {ls:List Lim} {m:List Mov} {r:Req} {k:Nat} {l:Lim} {q:Nat} {d:Int} {e:Nat}:p3 ls m r k l q d e (z7 l (d - 1+e)).length=p2 ls m r k l q d (e+1):=by
 rw [p3,xaG,p2,p2,z8,xau];rfl
def zxv {ls:List Lim} {m:List Mov} {r:Req} {k:Nat} {l:Lim} {q:Nat} {d:Int} (h:(zq r.per)[q]?=some d):p2 ls m r k l q d 2=p1 ls m r k l (q+1):=by
 rw [p2,p1,p1,zkl (evD m l) h,<-xau];rfl
def zxw {ls:List Lim} {m:List Mov} {r:Req} {k:Nat} {l:Lim} (h:ls[k]?=some l) (hc:zar l r.kind r.term=true):p1 ls m r k l (zq r.per).length=egK ls m r (k+1):=by
 rw [p1,xaG,egK,egK,z8,evI,h];simp only [evL,hc,if_true]
def zzz {ls:List Lim} {m:List Mov} {r:Req} {k:Nat} {l:Lim} (h:ls[k]?=some l) (hc:zar l r.kind r.term=false):egK ls m r (k+1)=egK ls m r k:=by
 rw [egK,egK,z8,evI,h];simp [evL,hc]
def zCu {ls:List Lim} {m:List Mov} {r:Req} {k:Nat} {l:Lim} {q:Nat} {d:Int} {e i:Nat} (h:ls[k]?=some l) (hc:zar l r.kind r.term=true) (hq:(zq r.per)[q]?=some d) (he:e < 2) (hA:(evA ls m r).length<=40000000):(p3 ls m r k l q d e i).length<=40000000:=by
 have hk:=(xaa.1 h).1;have h1:(p3 ls m r k l q d e i).length<=(p3 ls m r k l q d e (z7 l (d - 1+e)).length).length:=by
  rw [p3,p3,xaG,xad,xad];have:=zc1 (evB m l d) (z7 l (d - 1+e)) i
  omega
 rw [zxu] at h1;have h2:(p2 ls m r k l q d (e+1)).length<=(p2 ls m r k l q d 2).length:=by
  rw [p2,p2,xad,xad];have:=zem (evX m l d) (show e+1<=2 by omega)
  omega
 rw [zxv hq] at h2;have h3:(p1 ls m r k l (q+1)).length<=(p1 ls m r k l (zq r.per).length).length:=by
  rw [p1,p1,xaG,xad,xad];have:=zc1 (evD m l) (zq r.per) (q+1)
  omega
 rw [zxw h hc] at h3;have h4:(egK ls m r (k+1)).length<=(evA ls m r).length:=zem (evI ls m r) (by omega)
 omega
def zzI (l:Lim) (m:List Mov) (a:Int × Int) (L:List Int):Int × Int:=L.foldl (λ_ b=>(b,zcp l m b)) a
def zrM {l:Lim} {m:List Mov} {a:Int × Int} {L:List Int} {i:Nat} {b:Int} (h:L[i]?=some b):zzI l m a (L.take (i+1))=(b,zcp l m b):=by
 rw [zzI,xaP,h,xa4];rfl
def okP (l:Lim) (m:List Mov) (a:Int × Int):Prop:=a.1=-1\/a.2=zcp l m a.1
def zrL {l:Lim} {m:List Mov} {a:Int × Int} (h:okP l m a):∀ L,okP l m (zzI l m a L):=by
 intro L
 induction L generalizing a with
 | nil=>exact h
 | cons b r ih=>exact ih (a:=(b,zcp l m b)) (.inr rfl)
theorem zxG {α:Type} (look:Nat->Option LObj) (n:Nat) (f:α->PV):∀ L:List α,toPV.go look (n+1) (L.map λx=>LV.p (f x))=some (True,L.map f,[])
 | []=>by simp [toPV.go]
 | x::r=>by simp only [xag,toPV.go,toPV,zxG look n f r,true_and,xat]
def zAY {L:List Bool} (h:L.length=1440):boxPV (L.map PV.b)=.agg (L.map PV.b):=by
 match L with
 | []=>rfl
 | [x]=>simp at h
 | _::_::_=>rfl
abbrev Req.cells (r:Req):List PV:=[.s r.name,.s r.carrier,.s r.kind,.s r.term,.s r.partner,.s r.link,.i .i64 r.per.fro,.i .i64 r.per.to,.i .i64 r.per.days,.i .i64 r.minute,.i .i64 r.seats,.i .i64 r.size,.i .i64 r.noise]
def zkw (P:List (Nat × Nat)):List LV:=(edg P).map λx=>LV.p (PV.i .i64 x)
def zrr (P:List (Nat × Nat)) (k:Nat):List LV:=(zkY P k).map λb=>LV.p (PV.b b)
theorem zlb {α:Type} (look:Nat->Option LObj) (f:α->PV):∀ L:List α,scPs look (L.map λx=>LV.p (f x))=True
 | []=>by simp [scPs]
 | x::r=>by simp only [xag,scPs,scP,zlb look f r,and_self]
def scE (look:Nat->Option LObj) (P:List (Nat × Nat)):scPs look (zkw P)=True:=zlb look _ _
def scO (look:Nat->Option LObj) (P:List (Nat × Nat)) (k:Nat):scPs look (zrr P k)=True:=zlb look _ _
def zji (P:List (Nat × Nat)):(zkw P).length=1441:=by rw [zkw,xaf,(zsw P).1]
def zvE (P:List (Nat × Nat)) (k:Nat):(zrr P k).length=1440:=by rw [zrr,xaf,zcE]
def zDC:zkw []=List.replicate 1441 (LV.p (PV.i .i64 0)):=by rw [zkw,edg,List.foldl_nil,List.map_replicate]
def zCw (P:List (Nat × Nat)):zrr P 0=List.replicate 1440 (LV.p (PV.b false)):=by rw [zrr,zCx,List.map_replicate]
def zmf {P:List (Nat × Nat)} {i:Nat} {x:Int} (h:(edg P)[i]?=some x):(zkw P)[i]?=some (LV.p (PV.i .i64 x)):=by rw [zkw,xai,h];rfl
def zkv {P:List (Nat × Nat)} {f t:Nat} {x y:Int} (hx:(edg P)[f]?=some x) (hy:(edg P)[t]?=some y):((zkw P).set f (LV.p (PV.i .i64 (x+1)))).set t (LV.p (PV.i .i64 (y - 1)))=zkw (P++[(f,t)]):=by
 rw [zkw,zkw,znE,zA6,hx,hy,xa2,xa2];rfl
def zrq (P:List (Nat × Nat)) {k:Nat} (hk:k < 1440):(zrr P k).set k (LV.p (PV.b (zxn P k)))=zrr P (k+1):=by
 rw [zrr,zrr,<-zvF P hk,xa2]
def goO (look:Nat->Option LObj) (n:Nat) (P:List (Nat × Nat)) (k:Nat):toPV.go look (n+1) (zrr P k)=some (True,(zkY P k).map PV.b,[]):=zxG look n PV.b (zkY P k)
def boxO (P:List (Nat × Nat)) (k:Nat):boxPV ((zkY P k).map PV.b)=.agg ((zkY P k).map PV.b):=zAY (zcE P k)
def zzs (L:List Bool) (hL:L.length=1440) (i:Nat) (x:Bool) (hx:L[i]?=some x):Pure prog 218 [.ip (.agg (L.map PV.b)) 0,.i .i64 i] (.b (!x)):=by
 have hi:=(xaa.1 hx).1;rw [hL] at hi;have hi':(i+1<=1440)=True:=eq_true (by omega)
 refine pz func218 f218.eq_1 λhw X hX=>?_
 have qe:=aI qR (aI @hx (aI @hL (aI @hi' (aI @xbN (aI @Nat.mul_one @and_false)))));exact gD0
def zzt (ls:List Lim) (m:List Mov) (r:Req) (h0:zAZ ls m=0) (hr:zbk r=0):Pure prog 217 [.sl 11 (ls.map Lim.pv),.sl 7 (m.map Mov.pv),r.pv] (.ip (.agg ((zkY (evA ls m r) 1440).map PV.b)) 0):=by
 have hr0:=zaE hr
 have hp:=zY hr0.1
 have hdl:=zbx r.per
 have hdr:zcY r.per=zq r.per:=by rw [zcY,if_pos hr0.1]
 have hb:=h0
 simp only [ze] at hb
 have hls:=zsU hb.1
 have hmm:=zaJ hb.2.1
 have hA:=zAc hls.1 hls.2 m hr0.1
 refine pz func217 f217.eq_1 fun hw X hX=>?_
 have qe:=aI @hdr (@List.map_replicate.{0,0});repeat' first|refine gC ?_ ?_<;>intro hc<;>try contradiction|refine za (ziA r.per) ?_|refine gG ?_|show AK _;intro J Z|refine gJ ?_|omega|exact aT
 refine zh (κ:=Nat) (fun k=>⟨[(1,.p (.sl 7 (m.map Mov.pv))),(5,.lp 5 0),(7,.lp 7 0),(8,.p (.sl 1 ((zq r.per).map (.i .i64)))),(31,.p (.sl 11 (ls.map Lim.pv))),(32,.p (.i .i64 ls.length)),(33,.p (.i .i64 k))],[(5,.box (r.cells.map .p) false),(7,.box (zkw (egK ls m r k)) false)],[],false⟩) (fun k=>k≤ls.length) (fun k=>ls.length - k) 0 ?_ ?_ ?_
 ·simp only [qS,Nat.reduceAdd,Nat.reduceMul,Nat.reduceEqDiff,Nat.reduceLeDiff,reduceIte,reduceCtorEq,Nat.reduceBEq,Nat.reduceLT,scE]
  exact ⟨rfl,by rw [←zDC];rfl⟩
 ·simp
 ·intro k hk
  have qe:=@scE;repeat first|refine gG ?_|show AK _;intro J Z|refine gJ ?_|omega|exact aT
  have qe:=@scE;(refine gC ?_ ?_<;>intro hc<;>try contradiction)
  ·obtain ⟨l,hx⟩:=zk (i:=k) (l:=ls) (by omega)
   have h1:=hls.2 l (xae hx)
   have hlm:=zdH h1
   have qe:=aI @scE (aI qR @hx);repeat' first|refine gC ?_ ?_<;>intro hc<;>try contradiction|refine za (zri l r.kind r.term h1) ?_|refine za (zCe l m h1 (by omega)) ?_|refine gG ?_|show AK _;intro J Z|refine gJ ?_|omega|exact aT
   ·exact ⟨k+1,by omega,by omega,by simp,by rw [zzz hx hc]⟩
   ·have hcl:zar l r.kind r.term=true:=hc
    refine zh (κ:=Nat × Int × Int) (fun q=>⟨[(1,.p (.sl 7 (m.map Mov.pv))),(5,.lp 5 0),(7,.lp 7 0),(8,.p (.sl 1 ((zq r.per).map (.i .i64)))),(11,.lp 11 0),(12,.lp 12 0),(13,.lp 13 0),(31,.p (.sl 11 (ls.map Lim.pv))),(32,.p (.i .i64 ls.length)),(33,.p (.i .i64 k)),(48,.p (.sl 1 ((zq r.per).map (.i .i64)))),(49,.p (.i .i64 (zq r.per).length)),(50,.p (.i .i64 q.1))],[(5,.box (r.cells.map .p) false),(7,.box (zkw (p1 ls m r k l q.1)) false),(11,.box (l.cells.map .p) false),(12,.box [.p (.sl 1 ((ofL l m).map (.i .i64)))] false),(13,.box [.p (.i .i64 0),.p (.i .i64 q.2.1),.p (.i .i64 q.2.2)] false)],[],false⟩) (fun q=>q.1≤(zq r.per).length∧okP l m q.2) (fun q=>(zq r.per).length - q.1) (0,-1,0) ?_ ?_ ?_
    ·simp only [qS,Nat.reduceAdd,Nat.reduceMul,Nat.reduceEqDiff,Nat.reduceLeDiff,reduceIte,reduceCtorEq,Nat.reduceBEq,Nat.reduceLT,scE]
     (repeat' apply And.intro)<;>first|rfl|(simp [p1];done)
    ·exact ⟨by simp,.inl rfl⟩
    ·intro q hq
     obtain ⟨q,a⟩:=q
     simp only at hq
     have qe:=@scE;repeat first|refine gG ?_|show AK _;intro J Z|refine gJ ?_|omega|exact aT
     have qe:=@scE;(refine gC ?_ ?_<;>intro hc<;>try contradiction)
     ·obtain ⟨d,hd⟩:=zk (i:=q) (l:=zq r.per) (by omega)
      have hdm:=zaV (xae hd)
      have qe:=aI @scE (aI qR @hd);repeat' first|refine gC ?_ ?_<;>intro hc<;>try contradiction|refine gG ?_|show AK _;intro J Z|refine gJ ?_|omega|exact aT
      refine zh (κ:=Nat × Int × Int) (fun e=>⟨[(1,.p (.sl 7 (m.map Mov.pv))),(5,.lp 5 0),(7,.lp 7 0),(8,.p (.sl 1 ((zq r.per).map (.i .i64)))),(11,.lp 11 0),(12,.lp 12 0),(13,.lp 13 0),(15,.lp 15 0),(31,.p (.sl 11 (ls.map Lim.pv))),(32,.p (.i .i64 ls.length)),(33,.p (.i .i64 k)),(48,.p (.sl 1 ((zq r.per).map (.i .i64)))),(49,.p (.i .i64 (zq r.per).length)),(50,.p (.i .i64 q)),(57,.p (.agg [.i .i64 (d - 1),.i .i64 d])),(58,.p (.i .i64 e.1))],[(5,.box (r.cells.map .p) false),(7,.box (zkw (p2 ls m r k l q d e.1)) false),(11,.box (l.cells.map .p) false),(12,.box [.p (.sl 1 ((ofL l m).map (.i .i64)))] false),(13,.box [.p (.i .i64 0),.p (.i .i64 e.2.1),.p (.i .i64 e.2.2)] false),(15,.box [.p (.i .i64 d)] false)],[],false⟩) (fun e=>e.1≤2∧okP l m e.2) (fun e=>2 - e.1) (0,a) ?_ ?_ ?_
      ·simp only [qS,Nat.reduceAdd,Nat.reduceMul,Nat.reduceEqDiff,Nat.reduceLeDiff,reduceIte,reduceCtorEq,Nat.reduceBEq,Nat.reduceLT,scE]
       (repeat' apply And.intro)<;>first|rfl|(simp [p2];done)
      ·exact ⟨by simp,hq.2⟩
      ·intro e he
       obtain ⟨e,c⟩:=e
       simp only at he
       have qe:=@scE;repeat first|refine gG ?_|show AK _;intro J Z|refine gJ ?_|omega|exact aT
       have qe:=@scE;(refine gC ?_ ?_<;>intro hc<;>try contradiction)
       ·have hid:([.i .i64 (d - 1),.i .i64 d]:List PV)[e]?=some (.i .i64 (d - 1+e)):=by
         rcases (show e=0∨e=1 by omega) with rfl|rfl<;>simp
        have qe:=aI @scE (aI qR (aI @hid @Nat.mul_one));repeat' first|refine gC ?_ ?_<;>intro hc<;>try contradiction|refine za (zCf l (d - 1+e)) ?_|refine gG ?_|show AK _;intro J Z|refine gJ ?_|omega|exact aT
        refine zeh rfl (zzT l (d - 1+e) h1) ?_ ?_ [(1,.p (.sl 7 (m.map Mov.pv))),(5,.lp 5 0),(7,.lp 7 0),(8,.p (.sl 1 ((zq r.per).map (.i .i64)))),(11,.lp 11 0),(12,.lp 12 0),(13,.lp 13 0),(15,.lp 15 0),(31,.p (.sl 11 (ls.map Lim.pv))),(32,.p (.i .i64 ls.length)),(33,.p (.i .i64 k)),(48,.p (.sl 1 ((zq r.per).map (.i .i64)))),(49,.p (.i .i64 (zq r.per).length)),(50,.p (.i .i64 q)),(57,.p (.agg [.i .i64 (d - 1),.i .i64 d])),(58,.p (.i .i64 e))] (fun i=>[(5,.box (r.cells.map .p) false),(7,.box (zkw (p3 ls m r k l q d e i)) false),(11,.box (l.cells.map .p) false),(12,.box [.p (.sl 1 ((ofL l m).map (.i .i64)))] false),(13,.box [.p (.i .i64 0),.p (.i .i64 (zzI l m c ((z7 l (d - 1+e)).take i)).1),.p (.i .i64 (zzI l m c ((z7 l (d - 1+e)).take i)).2)] false),(15,.box [.p (.i .i64 d)] false)]) (fun _=>[]) ?_ ?_ ?_
        ·simp
        ·simp [hX]
        ·simp only [qS,Nat.reduceAdd,Nat.reduceMul,Nat.reduceEqDiff,Nat.reduceLeDiff,reduceIte,reduceCtorEq,Nat.reduceBEq,Nat.reduceLT,scE]
         exact ⟨by simp [p3],rfl⟩
        ·intro i t ht X' ro' hX'
         simp only [xai,xac] at ht
         obtain ⟨b,hbb,rfl⟩:=ht
         have hbm:=zmo h1 (xae hbb)
         have hpp:=zY hlm.2.2.2.2.2.2.2.1
         have hnx:=zzy (ls:=ls) (m:=m) (r:=r) (k:=k) (q:=q) hbb
         have hln:=zrM (l:=l) (m:=m) (a:=c) hbb
         have hlo:=zrL he.2 ((z7 l (d - 1+e)).take i)
         have hPl:=zCu (i:=i) hx hcl hd (show e < 2 by omega) hA
         simp only [qS,Nat.reduceAdd,Nat.reduceMul,Nat.reduceEqDiff,Nat.reduceLeDiff,reduceIte,reduceCtorEq,Nat.reduceBEq,Nat.reduceLT,scE]
         have qe:=@scE;repeat' first|refine gC ?_ ?_<;>intro hc<;>try contradiction|refine gG ?_|show AK _;intro J Z|refine gJ ?_|omega|exact aT
         intro X1 hX1
         generalize zzI l m c ((z7 l (d - 1+e)).take i)=a' at hlo ⊢
         obtain ⟨lb,lc⟩:=a'
         simp only [okP] at hlo
         have key:(lb=b∧lc=zcp l m b)∨¬lb=b:=by
          by_cases h:lb=b
          ·refine .inl ⟨h,?_⟩
           rcases hlo with h2|h2
           ·omega
           ·rw [h2,h]
          ·exact .inr h
         by_cases hcm:zcp l m b < l.most
         ·have hcm':=eq_true hcm
          have hev:evB m l d b=[]:=by rw [evB,if_pos hcm]
          rcases key with ⟨h1,h2⟩|hlb
          ·subst h1;subst h2
           have qe:=aI @scE (aI qR (aI @zbM @hcm'));repeat' first|refine gC ?_ ?_<;>intro hc<;>try contradiction|refine gG ?_|show AK _;intro J Z|refine gJ ?_|omega|exact aT
           rw [hln,hnx,hev,xat];exact ⟨rfl,rfl⟩
          ·have hlb':=eq_false hlb
           have qe:=aI @scE (aI qR (aI @zbM (aI @hcm' @hlb')));repeat' first|refine gC ?_ ?_<;>intro hc<;>try contradiction|refine za (zlu h1 hb.2.1 b (by omega) (by omega)) ?_|refine gG ?_|show AK _;intro J Z|refine gJ ?_|omega|exact aT
           rw [hln,hnx,hev,xat];exact ⟨rfl,rfl⟩
         ·have hcm':=eq_false hcm
          by_cases hft:max 0 (b - 1440*d) < min 1440 (b+l.len - 1440*d)
          ·obtain ⟨f,hf⟩:∃ f:Nat,max 0 (b - 1440*d)=f:=⟨(max 0 (b - 1440*d)).toNat,by omega⟩
           obtain ⟨t,ht⟩:∃ t:Nat,min 1440 (b+l.len - 1440*d)=t:=⟨(min 1440 (b+l.len - 1440*d)).toNat,by omega⟩
           have hev:evB m l d b=[(f,t)]:=by rw [evB,if_neg hcm,if_pos hft,hf,ht];simp
           have hb12:f < t∧t≤1440:=by omega
           have hftc:((f:Int) < t)=True:=eq_true (by omega)
           obtain ⟨x,hx1,hx2⟩:=zku (p3 ls m r k l q d e i) (i:=f) (by omega)
           obtain ⟨y,hy1,hy2⟩:=zku (p3 ls m r k l q d e i) (i:=t) (by omega)
           have hxo:=zmf hx1
           have hyo:∀ v,((zkw (p3 ls m r k l q d e i)).set f v)[t]?=some (LV.p (PV.i .i64 y)):=fun v=>by rw [xbQ (by omega)];exact zmf hy1
           rcases key with ⟨h1,h2⟩|hlb
           ·subst h1;subst h2
            have qe:=aI @scE (aI qR (aI @zbM (aI @hcm' (aI @hf (aI @ht (aI @hftc (aI @hxo (aI @hyo (aI @zji (aI @xbN @Nat.mul_one))))))))));repeat' first|refine gC ?_ ?_<;>intro hc<;>try contradiction|refine gG ?_|show AK _;intro J Z|refine gJ ?_|omega|exact aT
            rw [hln,hnx,hev,zkv hx1 hy1];exact ⟨rfl,rfl⟩
           ·have hlb':=eq_false hlb
            have qe:=aI @scE (aI qR (aI @zbM (aI @hcm' (aI @hlb' (aI @hf (aI @ht (aI @hftc (aI @hxo (aI @hyo (aI @zji (aI @xbN @Nat.mul_one)))))))))));repeat' first|refine gC ?_ ?_<;>intro hc<;>try contradiction|refine za (zlu h1 hb.2.1 b (by omega) (by omega)) ?_|refine gG ?_|show AK _;intro J Z|refine gJ ?_|omega|exact aT
            rw [hln,hnx,hev,zkv hx1 hy1];exact ⟨rfl,rfl⟩
          ·have hft':=eq_false hft
           have hev:evB m l d b=[]:=by rw [evB,if_neg hcm,if_neg hft]
           rcases key with ⟨h1,h2⟩|hlb
           ·subst h1;subst h2
            have qe:=aI @scE (aI qR (aI @zbM (aI @hcm' @hft')));repeat' first|refine gC ?_ ?_<;>intro hc<;>try contradiction|refine gG ?_|show AK _;intro J Z|refine gJ ?_|omega|exact aT
            rw [hln,hnx,hev,xat];exact ⟨rfl,rfl⟩
           ·have hlb':=eq_false hlb
            have qe:=aI @scE (aI qR (aI @zbM (aI @hcm' (aI @hlb' @hft'))));repeat' first|refine gC ?_ ?_<;>intro hc<;>try contradiction|refine za (zlu h1 hb.2.1 b (by omega) (by omega)) ?_|refine gG ?_|show AK _;intro J Z|refine gJ ?_|omega|exact aT
            rw [hln,hnx,hev,xat];exact ⟨rfl,rfl⟩
        ·simp only [xaf,zxu]
         have qe:=aI @scE @List.take_length.{0};repeat' first|refine gC ?_ ?_<;>intro hc<;>try contradiction|refine gG ?_|show AK _;intro J Z|refine gJ ?_|omega|exact aT
         refine ⟨(e+1,zzI l m c (z7 l (d - 1+e))),⟨by simp only;omega,zrL he.2 _⟩,by simp only;omega,?_⟩
         simp
       ·have qe:=@scE;repeat' first|refine gC ?_ ?_<;>intro hc<;>try contradiction|refine gG ?_|show AK _;intro J Z|refine gJ ?_|omega|exact aT
        have ee:e=2:=by omega
        subst ee
        refine ⟨(q+1,c),⟨by simp only;omega,he.2⟩,by simp only;omega,?_⟩
        simp [zxv hd]
     ·have qe:=@scE;repeat' first|refine gC ?_ ?_<;>intro hc<;>try contradiction|refine gG ?_|show AK _;intro J Z|refine gJ ?_|omega|exact aT
      have eq:q=(zq r.per).length:=by omega
      subst eq
      refine ⟨k+1,by omega,by omega,by simp,?_⟩
      rw [zxw hx hcl]
  ·have qe:=aI @scE (aI @scO (@List.map_replicate.{0,0}));repeat' first|refine gC ?_ ?_<;>intro hc<;>try contradiction|refine gG ?_|show AK _;intro J Z|refine gJ ?_|omega|exact aT
   have e:k=ls.length:=by omega
   subst e
   refine zh (κ:=Nat) (fun i=>⟨[(7,.lp 7 0),(22,.lp 113 0),(23,.p (.i .i64 (zg9 (edg (evA ls m r)) i))),(114,.p (.i .i64 i))],[(7,.box (zkw (evA ls m r)) false),(113,.box (zrr (evA ls m r) i) false)],[],false⟩) (fun i=>i≤1440) (fun i=>1440 - i) 0 ?_ ?_ ?_
   ·simp only [qS,Nat.reduceAdd,Nat.reduceMul,Nat.reduceEqDiff,Nat.reduceLeDiff,reduceIte,reduceCtorEq,Nat.reduceBEq,Nat.reduceLT,scE,scO]
    exact ⟨⟨rfl,rfl⟩,rfl,by rw [zCw]⟩
   ·simp
   ·intro i hi
    have hevo:∀ e ∈ evA ls m r,e.1 < e.2∧e.2≤1440:=fun e he=>zDd he
    have hbd:=zzu hevo (i:=i) (by omega)
    have qe:=aI @scE @scO;repeat first|refine gG ?_|show AK _;intro J Z|refine gJ ?_|omega|exact aT
    have qe:=aI @scE @scO;(refine gC ?_ ?_<;>intro hc<;>try contradiction)
    ·obtain ⟨x,hx1,hx2⟩:=zku (evA ls m r) (i:=i) (by omega)
     have hxo:=zmf hx1
     have hpn:=zge hx1
     have hpp:=zvz hevo (i:=i) (by omega)
     have hon:=zrq (evA ls m r) (k:=i) (by omega)
     rw [hpn] at hpp
     have qe:=aI @scE (aI @scO (aI @hxo (aI @hpp (aI @zji (aI @zvE (aI @hon (aI @xbN @Nat.mul_one)))))));repeat' first|refine gC ?_ ?_<;>intro hc<;>try contradiction|refine gG ?_|show AK _;intro J Z|refine gJ ?_|omega|exact aT
     exact ⟨i+1,by omega,by omega,by rw [hpn];simp,rfl⟩
    ·have qe:=aI @scE (aI @scO (aI @goO @boxO));repeat' first|refine gC ?_ ?_<;>intro hc<;>try contradiction|refine gG ?_|show AK _;intro J Z|refine gJ ?_|omega|exact aT
     have e:i=1440:=by omega
     subst e
     exact .refl _
def zsi (ls:List Lim) (m:List Mov) (r:Req):Bool:=(zaT r).all λo=>!decide (zBQ ls m o < 1)
def Win.add (k:Int) (w:Win):Win:=⟨w.lim,w.beg,w.cnt+k⟩
def zdK (a b:Mov):Bool:=if a.moment=b.moment then (if a.kind=b.kind then Op.bytesLess a.name.toList b.name.toList else Op.bytesLess a.kind.toList b.kind.toList) else decide (a.moment < b.moment)
def zEa (l:List Mov):l.all ((λx=>x.cells.all PV.one) ∘ Mov.pv)=true:=by rw [xaD];intro x _;rfl
abbrev Mov.cells (m:Mov):List PV:=[.i .i64 m.moment,.s m.kind,.s m.term,.i .i64 m.seats,.i .i64 m.size,.i .i64 m.noise,.s m.name]
def zeC (x y:Int):Int:=if x < y then -1 else if y < x then 1 else 0
def zk3 (x y:ByteArray):Int:=if Op.bytesLess x.toList y.toList=true then -1 else if x=y then 0 else 1
def zAS (a b:Mov):Int:=zf [zeC a.moment b.moment,zk3 a.kind b.kind,zk3 a.name b.name]
def zzm (x:ByteArray):Pure prog 89 [.s x] (.b false):=by
 refine pz func89 f89.eq_1 λhw X hX=>?_
 have qe:=@zvO;exact gD0
def zgd (x y:Int):Pure prog 125 [.i .i64 x,.i .i64 y] (.i .i64 (zeC x y)):=by
 refine pz func125 f125.eq_1 λhw X hX=>?_
 repeat' first|refine gC ?_ ?_<;>intro hc<;>try contradiction|refine za (zlx _) ?_|refine gG ?_|show AK _;intro J Z|refine gJ ?_|omega|exact aT
 ·rw [zeC,if_pos hc];exact .refl _
 ·rw [zeC,if_neg (by omega),if_pos hc];exact .refl _
 ·rw [zeC,if_neg (by omega),if_neg (by omega)];exact .refl _
def ziH (x y:ByteArray):Pure prog 46 [.s x,.s y] (.i .i64 (zk3 x y)):=by
 refine pz func46 f46.eq_1 λhw X hX=>?_
 repeat' first|refine gC ?_ ?_<;>intro hc<;>try contradiction|refine za (zzm _) ?_|refine gG ?_|show AK _;intro J Z|refine gJ ?_|omega|exact aT
 ·rw [zk3,if_pos hc];exact .refl _
 ·rw [zk3,if_neg (by rw [hc.1];simp),if_neg hc.2];exact .refl _
 ·have h1:=‹Op.bytesLess x.toList y.toList=false›;rw [zk3,if_neg (by rw [h1];simp),if_pos (hc.resolve_left (by rw [h1];simp))];exact .refl _
def zlA (l:List Int):Pure prog 127 [.sl 1 (l.map (.i .i64))] (.i .i64 (zf l)):=by
 refine pz func127 f127.eq_1 λhw X hX=>?_
 simp only [wfs,PV.wf,xaf,maxLen] at hw
 repeat' first|refine gC ?_ ?_<;>intro hc<;>try contradiction|refine gG ?_|show AK _;intro J Z|refine gJ ?_|omega|exact aT
 refine zh (κ:=Nat) (λi=>⟨[(3,.p (.i .i64 0)),(6,.p (.sl 1 (l.map (.i .i64)))),(7,.p (.i .i64 l.length)),(8,.p (.i .i64 i))],[],[],false⟩) (λi=>i<=l.length/\∀ x ∈ l.take i,x=0) (λi=>l.length - i) 0 ?_ ?_ ?_
 ·exact sR
 ·simp
 ·intro i hi
  repeat first|refine gG ?_|show AK _;intro J Z|refine gJ ?_|omega|exact aT
  (refine gC ?_ ?_<;>intro hc<;>try contradiction)
  ·obtain ⟨x,hx⟩:=zk (i:=i) (l:=l) (by omega)
   have qe:=@hx;repeat' first|refine gC ?_ ?_<;>intro hc<;>try contradiction|refine gG ?_|show AK _;intro J Z|refine gJ ?_|omega|exact aT
   ·rw [zN hi.2 hx hc];exact .refl _
   ·exact ⟨i+1,⟨by omega,zah hi.2 hx hc⟩,by omega,by simp⟩
  ·repeat' first|refine gC ?_ ?_<;>intro hc<;>try contradiction|refine gG ?_|show AK _;intro J Z|refine gJ ?_|omega|exact aT
   have e:i=l.length:=by omega
   subst e;rw [zU hi.2];exact .refl _
def zzr (a b:Mov):Pure prog 204 [a.pv,b.pv] (.i .i64 (zAS a b)):=by
 refine pz func204 f204.eq_1 λhw X hX=>?_
 have qe:=@qR;have jA:=λu1 u2=>zgd u1 u2;have jB:=λu1 u2=>ziH u1 u2;have jC:=λu1 u2 u3=>zlA [u1,u2,u3];exact gD4
def zA9 (L:List Mov) (hn:L.length*80<=140737488355328):Acts prog 202 [.p (.sl 7 (L.map Mov.pv))] [] (.row 5 L.length) [(5,.row 120 7 (L.map Mov.pv) false)]:=by
 have hA:=λl=>eq_true (zEa l)
 refine zF (cF func202 f202.eq_1) (by simp) (by simp [scPs,scP]) (by simp [scObj]) trivial (by simp [scObj]) trivial λX hX=>?_
 unfold zA ghO;have qe:=aI qR (aI @hA (aI @rtN @rtR));repeat' first|refine gC ?_ ?_<;>intro hc<;>try contradiction|refine zeR λb hb=>?_|refine gG ?_|show AK _;intro J Z|refine gJ ?_|omega|exact aT
 ·have e:L=[]:=by simpa using hb hc
  subst e;exact .inr ⟨5,120,7,[(2,.row 5 0)],[],by simp only [Own,zam,zaj,za8,zad,qS,seval],.mk1⟩
 ·exact .inl .mk1
theorem zi2:∀ l:List UInt8,Op.bytesLess l l=false
 | []=>by simp [Op.bytesLess]
 | x::r=>by simp [Op.bytesLess,zi2 r]
def zxT (x y:Int):zeC x y=0↔x=y:=by unfold zeC;(repeat' split)<;>omega
def zDV (x y:Int):zeC x y < 0↔x < y:=by unfold zeC;(repeat' split)<;>omega
def zkG (x y:ByteArray):zk3 x y=0↔x=y:=by
 unfold zk3
 split
 ·rename_i h;refine ⟨λh0=>by omega,λe=>?_⟩
  subst e;rw [zi2] at h;cases h
 ·split
  ·rename_i h;exact ⟨λ_=>h,λ_=>rfl⟩
  ·rename_i h;exact ⟨λh0=>by omega,λe=>absurd e h⟩
def zdR (x y:ByteArray):zk3 x y < 0↔Op.bytesLess x.toList y.toList=true:=by
 unfold zk3
 split
 ·rename_i h;exact ⟨λ_=>h,λ_=>by omega⟩
 ·rename_i h;refine ⟨λh0=>?_,λe=>absurd e h⟩
  split at h0<;>omega
def znK (a b:Mov):zAS a b < 0↔zdK a b=true:=by
 unfold zAS zdK;simp only [zf]
 by_cases h1:a.moment=b.moment
 ·rw [if_pos h1,if_pos ((zxT _ _).2 h1)]
  by_cases h2:a.kind=b.kind
  ·rw [if_pos h2,if_pos ((zkG _ _).2 h2)]
   by_cases h3:zk3 a.name b.name=0
   ·rw [if_pos h3,<-zdR,h3]
   ·rw [if_neg h3];exact zdR _ _
  ·rw [if_neg h2,if_neg (λh=>h2 ((zkG _ _).1 h))];exact zdR _ _
 ·rw [if_neg h1,if_neg (λh=>h1 ((zxT _ _).1 h)),decide_eq_true_eq];exact zDV _ _
def znL:bfC zAS=zdK:=by
 funext a b
 show decide (zAS a b < 0)=zdK a b
 by_cases h:zAS a b < 0
 ·rw [decide_eq_true h,(znK a b).1 h]
 ·rw [decide_eq_false h];exact (Bool.eq_false_iff.2 λh2=>h ((znK a b).2 h2)).symm
def zoa (a b:List Mov):zas zAS (a++b)=zbX zdK a b:=by rw [zas,znL];rfl
def mgE (a b:List Mov):Int:=zf [zR a,zR b,if 30000 < (a.length:Int)+b.length then 5 else 0]
def mgR (a b:List Mov):List Mov:=if mgE a b=0 then zbX zdK a b else []
def zdN (L:List Slt) (n:ByteArray):Int:=if atL n (L.map (·.req.name)) < 0 then 10 else 0
def fndI (L:List Slt) (n:ByteArray):Int:=if atL n (L.map (·.req.name)) < 0 then 0 else atL n (L.map (·.req.name))
def zdS (a b:Wsh):Bool:=decide (a.rank < b.rank) || (decide (a.rank=b.rank) && Op.bytesLess a.req.name.toList b.req.name.toList)
def zm0 (a b:Wsh):Pure prog 58 [a.pv,b.pv] (.b (zdS a b)):=by
 refine pz func58 f58.eq_1 λhw X hX=>?_
 rw [zdS]
 rcases Int.lt_trichotomy a.rank b.rank with h|h|h
 ·have h1:(a.rank < b.rank)=True:=eq_true h;have h2:(a.rank=b.rank)=False:=eq_false (by omega)
  have qe:=aI @h1 (aI @h2 (aI @decide_true @decide_false));repeat' first|refine gC ?_ ?_<;>intro hc<;>try contradiction|refine gG ?_|show AK _;intro J Z|refine gJ ?_|omega|exact aT
  all_goals simp only [h1,h2,decide_true,decide_false,Bool.true_or]
  all_goals exact .refl _
 ·have h1:(a.rank < b.rank)=False:=eq_false (by omega)
  have h2:(a.rank=b.rank)=True:=eq_true h;have qe:=aI @h1 (aI @h2 (aI @decide_true @decide_false));repeat' first|refine gC ?_ ?_<;>intro hc<;>try contradiction|refine gG ?_|show AK _;intro J Z|refine gJ ?_|omega|exact aT
  all_goals simp only [h1,h2,decide_true,decide_false,xbJ,xbh]
  all_goals exact .refl _
 ·have h1:(a.rank < b.rank)=False:=eq_false (by omega)
  have h2:(a.rank=b.rank)=False:=eq_false (by omega)
  have qe:=aI @h1 (aI @h2 (aI @decide_true @decide_false));repeat' first|refine gC ?_ ?_<;>intro hc<;>try contradiction|refine gG ?_|show AK _;intro J Z|refine gJ ?_|omega|exact aT
  all_goals simp only [h1,h2,decide_true,decide_false,xbJ,xbj]
  all_goals exact .refl _
def zu6 (n:Int) (h0:0<=n) (h1:n < 256):Pure prog 157 [.i .u64 n] .any:=by
 refine pz func157 f157.eq_1 λhw X hX=>?_
 have hw8:IntKind.u8.wrap n=n:=by simp [IntKind.wrap,IntKind.bits,IntKind.signed];omega
 repeat' first|refine gC ?_ ?_<;>intro hc<;>try contradiction|refine gG ?_|show AK _;intro J Z|refine gJ ?_|omega|exact aT
 refine ⟨⟨by rw [hw8];exact h0,by rw [hw8];exact Int.lt_of_lt_of_le h1 (by decide +kernel)⟩,?_⟩
 repeat' first|refine gC ?_ ?_<;>intro hc<;>try contradiction|refine gG ?_|show AK _;intro J Z|refine gJ ?_|omega|exact aT
 exact .any _
def ziB (n:Int) (h0:0<=n) (h1:n < 256):Pure prog 88 [.i .u64 n] .any:=by
 refine pz func88 f88.eq_1 λhw X hX=>?_
 have jA:=zu6 n h0 h1;exact gD2
def zw8 {f:Nat} {c:Lea->Lea->Int} (hf:∀ a b:Lea,Pure prog f [a.pv,b.pv] (.i .i64 (c a b))) (L:List Lea) (v:PV) (hn:L.length<=12):Acts prog 180 [.row 900 L.length,.p (.i .i64 0),.p (.i .i64 L.length),.p v,.p (.fn (.func f) [] [])] [(900,.row 86 3 (L.map Lea.pv) false)] (.p (.tup [])) [(900,.row 86 3 ((zbt c L).map Lea.pv) false)]:=by
 have hsl:=zK c L;refine zF (cF func180 f180.eq_1) (by simp) (by simp [scPs,scP,zp]) (by simp [scObj]) ⟨rfl,trivial⟩ (by simp [scObj]) (by simp [zb1,zp,zK]) λX hX=>?_
 unfold zA ghO;have qe:=aI qR @gLV.eq_2;repeat' first|refine gC ?_ ?_<;>intro hc<;>try contradiction|refine gG ?_|show AK _;intro J Z|refine gJ ?_|omega|exact aT
 refine zh (κ:=Unit) (λ_=>⟨[(0,.row 900 L.length),(1,.p (.i .i64 0)),(2,.p (.i .i64 L.length)),(4,.p (.fn (.func f) [] [])),(1000900,.row 900 L.length)],[(900,.row 86 3 (L.map Lea.pv) false)],[],false⟩) (λ_=>True) (λ_=>0) () ?_ ?_ ?_
 ·simp only [qS,seval,gLV.eq_2]<;>simp
 ·trivial
 ·intro _ _;have hle:((L.length:Int) - 0<=12)=True:=eq_true (by omega)
  have hle2:((L.length:Int)<=12)=True:=eq_true (by omega)
  have qe:=aI qR (aI @qN (aI @hle (aI @hle2 (aI @Int.sub_zero (aI @rtN (aI @rtR (aI @zK (@List.length_map.{0,0}))))))));repeat' first|refine gC ?_ ?_<;>intro hc<;>try contradiction|refine zo [(900,900)] (zw6 hf L L.length rfl (by omega)) ?_|refine gG ?_|show AK _;intro J Z|refine gJ ?_|omega|exact aT
  exact .inl (.mk0 (h2:=by simp only [qS,seval,keepG.eq_1,keepG.eq_2,gLV.eq_2]<;>simp))
def zxd {f:Nat} {c:Lea->Lea->Int} (hf:∀ a b:Lea,Pure prog f [a.pv,b.pv] (.i .i64 (c a b))) (L:List Lea) (hn:L.length<=12):Acts prog 123 [.row 900 L.length,.p (.fn (.func f) [] [])] [(900,.row 86 3 (L.map Lea.pv) false)] (.p (.tup [])) [(900,.row 86 3 ((zbt c L).map Lea.pv) false)]:=by
 have hsl:=zK c L;refine zF (cF func123 f123.eq_1) (by simp) (by simp [scPs,scP,zp]) (by simp [scObj]) ⟨rfl,trivial⟩ (by simp [scObj]) (by simp [zb1,zp,zK]) λX hX=>?_
 unfold zA ghO;have hw:IntKind.u64.wrap (L.length:Int)=L.length:=by simp [IntKind.wrap,IntKind.bits,IntKind.signed];omega
 have qe:=aI qR (aI @qN (aI @hw (aI @gLV.eq_2 (aI @rtN (aI @rtR (aI @zK (@List.length_map.{0,0})))))));repeat' first|refine gC ?_ ?_<;>intro hc<;>try contradiction|refine za (ziB L.length (by omega) (by omega)) ?_|refine zo [(900,900)] (zw8 hf L .any hn) ?_|refine gG ?_|show AK _;intro J Z|refine gJ ?_|omega|exact aT
 exact .inl (.mk0 (h2:=by simp only [qS,seval,keepG.eq_1,keepG.eq_2,gLV.eq_2]<;>simp))
end Go.Proofs.YtocamnijnhnlfaaGreat
