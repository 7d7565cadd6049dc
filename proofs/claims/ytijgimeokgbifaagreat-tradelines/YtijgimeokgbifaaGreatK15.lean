/- Contracts of functions, for the claim. No conditions. -/
import Derived.Test.YtijgimeokgbifaaGreatK11
import Derived.Test.YtijgimeokgbifaaGreatK14
set_option linter.all false
set_option maxHeartbeats 8000000
set_option maxRecDepth 100000
namespace Go.Proofs.YtijgimeokgbifaaGreat
open Go.RowKit
def p1 (ls:List Lim) (m:List Mov) (r:Req) (k:Nat) (l:Lim) (q:Nat):List (Nat × Nat):=egK ls m r k++((zW r.per).take q).flatMap (evD m l)
def p2 (ls:List Lim) (m:List Mov) (r:Req) (k:Nat) (l:Lim) (q:Nat) (d:Int) (e:Nat):List (Nat × Nat):=p1 ls m r k l q++(List.range e).flatMap (evX m l d)
def p3 (ls:List Lim) (m:List Mov) (r:Req) (k:Nat) (l:Lim) (q:Nat) (d:Int) (e i:Nat):List (Nat × Nat):=p2 ls m r k l q d e++((zL l (d - 1+e)).take i).flatMap (evB m l d)
theorem zcl {α β:Type} (f:α->List β) (l:List α) (i:Nat):((l.take i).flatMap f).length<=(l.flatMap f).length:=by
 conv=>rhs;rw [<-List.take_append_drop i l,List.flatMap_append,List.length_append]
 omega
theorem zdo {β:Type} (f:Nat->List β) {i n:Nat} (h:i<=n):((List.range i).flatMap f).length<=((List.range n).flatMap f).length:=by
 have:=zcl f (List.range n) i
 rwa [List.take_range,Nat.min_eq_left h] at this
theorem zut {ls:List Lim} {m:List Mov} {r:Req} {k:Nat} {l:Lim} {q:Nat} {d:Int} {e i:Nat} {b:Int} (h:(zL l (d - 1+e))[i]?=some b):p3 ls m r k l q d e (i+1)=p3 ls m r k l q d e i++evB m l d b:=by
 rw [p3,zff (evB m l d) h,<-List.append_assoc];rfl
theorem zsL {ls:List Lim} {m:List Mov} {r:Req} {k:Nat} {l:Lim} {q:Nat} {d:Int} {e:Nat}:p3 ls m r k l q d e (zL l (d - 1+e)).length=p2 ls m r k l q d (e+1):=by
 rw [p3,List.take_length,p2,p2,zab,List.append_assoc];rfl
theorem zsM {ls:List Lim} {m:List Mov} {r:Req} {k:Nat} {l:Lim} {q:Nat} {d:Int} (h:(zW r.per)[q]?=some d):p2 ls m r k l q d 2=p1 ls m r k l (q+1):=by
 rw [p2,p1,p1,zff (evD m l) h,<-List.append_assoc];rfl
theorem zsN {ls:List Lim} {m:List Mov} {r:Req} {k:Nat} {l:Lim} (h:ls[k]?=some l) (hc:zac l r.kind r.term=true):p1 ls m r k l (zW r.per).length=egK ls m r (k+1):=by
 rw [p1,List.take_length,egK,egK,zab,evI,h]
 simp only [evL,hc,if_true]
theorem zuu {ls:List Lim} {m:List Mov} {r:Req} {k:Nat} {l:Lim} (h:ls[k]?=some l) (hc:zac l r.kind r.term=false):egK ls m r (k+1)=egK ls m r k:=by
 rw [egK,egK,zab,evI,h]
 simp [evL,hc]
theorem zw0 {ls:List Lim} {m:List Mov} {r:Req} {k:Nat} {l:Lim} {q:Nat} {d:Int} {e i:Nat} (h:ls[k]?=some l) (hc:zac l r.kind r.term=true) (hq:(zW r.per)[q]?=some d) (he:e < 2) (hA:(evA ls m r).length<=40000000):(p3 ls m r k l q d e i).length<=40000000:=by
 have hk:=(List.getElem?_eq_some_iff.1 h).1
 have h1:(p3 ls m r k l q d e i).length<=(p3 ls m r k l q d e (zL l (d - 1+e)).length).length:=by
  rw [p3,p3,List.take_length,List.length_append,List.length_append]
  have:=zcl (evB m l d) (zL l (d - 1+e)) i
  omega
 rw [zsL] at h1
 have h2:(p2 ls m r k l q d (e+1)).length<=(p2 ls m r k l q d 2).length:=by
  rw [p2,p2,List.length_append,List.length_append]
  have:=zdo (evX m l d) (show e+1<=2 by omega)
  omega
 rw [zsM hq] at h2
 have h3:(p1 ls m r k l (q+1)).length<=(p1 ls m r k l (zW r.per).length).length:=by
  rw [p1,p1,List.take_length,List.length_append,List.length_append]
  have:=zcl (evD m l) (zW r.per) (q+1)
  omega
 rw [zsN h hc] at h3
 have h4:(egK ls m r (k+1)).length<=(evA ls m r).length:=zdo (evI ls m r) (by omega)
 omega
def zuz (l:Lim) (m:List Mov) (a:Int × Int) (L:List Int):Int × Int:=L.foldl (λ_ b=>(b,zbs l m b)) a
theorem zn8 {l:Lim} {m:List Mov} {a:Int × Int} {L:List Int} {i:Nat} {b:Int} (h:L[i]?=some b):zuz l m a (L.take (i+1))=(b,zbs l m b):=by
 rw [zuz,List.take_add_one,h,List.foldl_append];rfl
def okP (l:Lim) (m:List Mov) (a:Int × Int):Prop:=a.1=-1\/a.2=zbs l m a.1
theorem zn7 {l:Lim} {m:List Mov} {a:Int × Int} (h:okP l m a):∀ L,okP l m (zuz l m a L):=by
 intro L
 induction L generalizing a with
 | nil=>exact h
 | cons b r ih=>exact ih (a:=(b,zbs l m b)) (.inr rfl)
theorem zsU {α:Type} (look:Nat->Option LObj) (n:Nat) (f:α->PV):∀ L:List α,toPV.go look (n+1) (L.map λx=>LV.p (f x))=some (True,L.map f,[])
 | []=>by simp [toPV.go]
 | x::r=>by simp only [List.map_cons,toPV.go,toPV,zsU look n f r,true_and,List.append_nil]
theorem zvI {L:List Bool} (h:L.length=1440):boxPV (L.map PV.b)=.agg (L.map PV.b):=by
 match L with
 | []=>rfl
 | [x]=>simp at h
 | _::_::_=>rfl
abbrev Req.cells (r:Req):List PV:=[.s r.name,.s r.carrier,.s r.kind,.s r.term,.s r.partner,.s r.link,.i .i64 r.per.fro,.i .i64 r.per.to,.i .i64 r.per.days,.i .i64 r.minute,.i .i64 r.seats,.i .i64 r.size,.i .i64 r.noise]
def zia (P:List (Nat × Nat)):List LV:=(edg P).map λx=>LV.p (PV.i .i64 x)
def znS (P:List (Nat × Nat)) (k:Nat):List LV:=(ziz P k).map λb=>LV.p (PV.b b)
theorem ziG {α:Type} (look:Nat->Option LObj) (f:α->PV):∀ L:List α,scPs look (L.map λx=>LV.p (f x))=True
 | []=>by simp [scPs]
 | x::r=>by simp only [List.map_cons,scPs,scP,ziG look f r,and_self]
theorem scE (look:Nat->Option LObj) (P:List (Nat × Nat)):scPs look (zia P)=True:=ziG look _ _
theorem scO (look:Nat->Option LObj) (P:List (Nat × Nat)) (k:Nat):scPs look (znS P k)=True:=ziG look _ _
theorem zhb (P:List (Nat × Nat)):(zia P).length=1441:=by rw [zia,List.length_map,(zoH P).1]
theorem zre (P:List (Nat × Nat)) (k:Nat):(znS P k).length=1440:=by rw [znS,List.length_map,zb4]
theorem zxV:zia []=List.replicate 1441 (LV.p (PV.i .i64 0)):=by rw [zia,edg,List.foldl_nil,List.map_replicate]
theorem zw2 (P:List (Nat × Nat)):znS P 0=List.replicate 1440 (LV.p (PV.b false)):=by rw [znS,zw3,List.map_replicate]
theorem zjN {P:List (Nat × Nat)} {i:Nat} {x:Int} (h:(edg P)[i]?=some x):(zia P)[i]?=some (LV.p (PV.i .i64 x)):=by rw [zia,List.getElem?_map,h];rfl
theorem zh9 {P:List (Nat × Nat)} {f t:Nat} {x y:Int} (hx:(edg P)[f]?=some x) (hy:(edg P)[t]?=some y):((zia P).set f (LV.p (PV.i .i64 (x+1)))).set t (LV.p (PV.i .i64 (y - 1)))=zia (P++[(f,t)]):=by
 rw [zia,zia,zkQ,zvS,hx,hy,List.map_set,List.map_set];rfl
theorem znR (P:List (Nat × Nat)) {k:Nat} (hk:k < 1440):(znS P k).set k (LV.p (PV.b (zsE P k)))=znS P (k+1):=by
 rw [znS,znS,<-zrf P hk,List.map_set]
theorem goO (look:Nat->Option LObj) (n:Nat) (P:List (Nat × Nat)) (k:Nat):toPV.go look (n+1) (znS P k)=some (True,(ziz P k).map PV.b,[]):=zsU look n PV.b (ziz P k)
theorem boxO (P:List (Nat × Nat)) (k:Nat):boxPV ((ziz P k).map PV.b)=.agg ((ziz P k).map PV.b):=zvI (zb4 P k)
theorem zuk (L:List Bool) (hL:L.length=1440) (i:Nat) (x:Bool) (hx:L[i]?=some x):Pure Tryz.prog 241 [.ip (.agg (L.map PV.b)) 0,.i .i64 i] (.b (!x)):=by
 have hi:=(List.getElem?_eq_some_iff.1 hx).1
 rw [hL] at hi
 have hi':(i+1<=1440)=True:=eq_true (by omega)
 refine zf (cF Tryz.func241 Tryz.f241.eq_1) (by simp) λhw X hX=>?_
 have qe:=aI qR (aI @hx (aI @hL (aI @hi' (aI @Nat.zero_add (aI @Nat.mul_one @and_false)))));repeat' first|refine gC ?_ ?_<;>intro hc<;>try contradiction|refine gG ?_|show AK _;intro K H|refine H _ _ ?_;clear H K|refine gJ ?_;try exact trivial|omega
 exact .refl _
theorem zul (ls:List Lim) (m:List Mov) (r:Req) (h0:zo6 ls m=0) (hr:zdC r=0):Pure Tryz.prog 240 [.sl 11 (ls.map Lim.pv),.sl 7 (m.map Mov.pv),r.pv] (.ip (.agg ((ziz (evA ls m r) 1440).map PV.b)) 0):=by
 have hr0:=zeC hr
 have hp:=zaY hr0.1
 have hdl:=zcG r.per
 have hdr:zdg r.per=zW r.per:=by rw [zdg,if_pos hr0.1]
 have hb:=h0
 simp only [zp] at hb
 have hls:=zim hb.1
 have hmm:=zaR hb.2.1
 have hA:=zuZ hls.1 hls.2 m hr0.1
 refine zf (cF Tryz.func240 Tryz.f240.eq_1) (by simp) fun hw X hX=>?_
 have qe:=aI @hdr (@List.map_replicate.{0,0});repeat' first|refine gC ?_ ?_<;>intro hc<;>try contradiction|refine za (zi6 r.per) ?_|refine gG ?_|show AK _;intro K H|refine H _ _ ?_;clear H K|refine gJ ?_;try exact trivial|omega
 refine zj (κ:=Nat) (fun k=>⟨[(1,.p (.sl 7 (m.map Mov.pv))),(5,.lp 5 0),(7,.lp 7 0),(8,.p (.sl 1 ((zW r.per).map (.i .i64)))),(31,.p (.sl 11 (ls.map Lim.pv))),(32,.p (.i .i64 ls.length)),(33,.p (.i .i64 k))],[(5,.box (r.cells.map .p) false),(7,.box (zia (egK ls m r k)) false)],[],false⟩) (fun k=>k≤ls.length) (fun k=>ls.length - k) 0 ?_ ?_ ?_
 ·simp only [qS,Nat.reduceAdd,Nat.reduceMul,Nat.reduceEqDiff,Nat.reduceLeDiff,reduceIte,reduceCtorEq,Nat.reduceBEq,Nat.reduceLT,scE]
  exact ⟨rfl,by rw [←zxV];rfl⟩
 ·simp
 ·intro k hk
  have qe:=@scE;repeat first|refine gG ?_|show AK _;intro K H|refine H _ _ ?_;clear H K|refine gJ ?_;try exact trivial|omega
  have qe:=@scE;(refine gC ?_ ?_<;>intro hc<;>try contradiction)
  ·obtain ⟨l,hx⟩:=zm (i:=k) (l:=ls) (by omega)
   have h1:=hls.2 l (List.mem_of_getElem? hx)
   have hlm:=zcd h1
   have qe:=aI @scE (aI qR @hx);repeat' first|refine gC ?_ ?_<;>intro hc<;>try contradiction|refine za (zi4 l r.kind r.term h1) ?_|refine za (zsH l m h1 (by omega)) ?_|refine gG ?_|show AK _;intro K H|refine H _ _ ?_;clear H K|refine gJ ?_;try exact trivial|omega
   ·exact ⟨k+1,by omega,by omega,by simp,by rw [zuu hx hc]⟩
   ·have hcl:zac l r.kind r.term=true:=hc
    refine zj (κ:=Nat × Int × Int) (fun q=>⟨[(1,.p (.sl 7 (m.map Mov.pv))),(5,.lp 5 0),(7,.lp 7 0),(8,.p (.sl 1 ((zW r.per).map (.i .i64)))),(11,.lp 11 0),(12,.lp 12 0),(13,.lp 13 0),(31,.p (.sl 11 (ls.map Lim.pv))),(32,.p (.i .i64 ls.length)),(33,.p (.i .i64 k)),(48,.p (.sl 1 ((zW r.per).map (.i .i64)))),(49,.p (.i .i64 (zW r.per).length)),(50,.p (.i .i64 q.1))],[(5,.box (r.cells.map .p) false),(7,.box (zia (p1 ls m r k l q.1)) false),(11,.box (l.cells.map .p) false),(12,.box [.p (.sl 1 ((ofL l m).map (.i .i64)))] false),(13,.box [.p (.i .i64 0),.p (.i .i64 q.2.1),.p (.i .i64 q.2.2)] false)],[],false⟩) (fun q=>q.1≤(zW r.per).length∧okP l m q.2) (fun q=>(zW r.per).length - q.1) (0,-1,0) ?_ ?_ ?_
    ·simp only [qS,Nat.reduceAdd,Nat.reduceMul,Nat.reduceEqDiff,Nat.reduceLeDiff,reduceIte,reduceCtorEq,Nat.reduceBEq,Nat.reduceLT,scE]
     (repeat' apply And.intro)<;>first|rfl|(simp [p1];done)
    ·exact ⟨by simp,.inl rfl⟩
    ·intro q hq
     obtain ⟨q,a⟩:=q
     simp only at hq
     have qe:=@scE;repeat first|refine gG ?_|show AK _;intro K H|refine H _ _ ?_;clear H K|refine gJ ?_;try exact trivial|omega
     have qe:=@scE;(refine gC ?_ ?_<;>intro hc<;>try contradiction)
     ·obtain ⟨d,hd⟩:=zm (i:=q) (l:=zW r.per) (by omega)
      have hdm:=zie (List.mem_of_getElem? hd)
      have qe:=aI @scE (aI qR @hd);repeat' first|refine gC ?_ ?_<;>intro hc<;>try contradiction|refine gG ?_|show AK _;intro K H|refine H _ _ ?_;clear H K|refine gJ ?_;try exact trivial|omega
      refine zj (κ:=Nat × Int × Int) (fun e=>⟨[(1,.p (.sl 7 (m.map Mov.pv))),(5,.lp 5 0),(7,.lp 7 0),(8,.p (.sl 1 ((zW r.per).map (.i .i64)))),(11,.lp 11 0),(12,.lp 12 0),(13,.lp 13 0),(15,.lp 15 0),(31,.p (.sl 11 (ls.map Lim.pv))),(32,.p (.i .i64 ls.length)),(33,.p (.i .i64 k)),(48,.p (.sl 1 ((zW r.per).map (.i .i64)))),(49,.p (.i .i64 (zW r.per).length)),(50,.p (.i .i64 q)),(57,.p (.agg [.i .i64 (d - 1),.i .i64 d])),(58,.p (.i .i64 e.1))],[(5,.box (r.cells.map .p) false),(7,.box (zia (p2 ls m r k l q d e.1)) false),(11,.box (l.cells.map .p) false),(12,.box [.p (.sl 1 ((ofL l m).map (.i .i64)))] false),(13,.box [.p (.i .i64 0),.p (.i .i64 e.2.1),.p (.i .i64 e.2.2)] false),(15,.box [.p (.i .i64 d)] false)],[],false⟩) (fun e=>e.1≤2∧okP l m e.2) (fun e=>2 - e.1) (0,a) ?_ ?_ ?_
      ·simp only [qS,Nat.reduceAdd,Nat.reduceMul,Nat.reduceEqDiff,Nat.reduceLeDiff,reduceIte,reduceCtorEq,Nat.reduceBEq,Nat.reduceLT,scE]
       (repeat' apply And.intro)<;>first|rfl|(simp [p2];done)
      ·exact ⟨by simp,hq.2⟩
      ·intro e he
       obtain ⟨e,c⟩:=e
       simp only at he
       have qe:=@scE;repeat first|refine gG ?_|show AK _;intro K H|refine H _ _ ?_;clear H K|refine gJ ?_;try exact trivial|omega
       have qe:=@scE;(refine gC ?_ ?_<;>intro hc<;>try contradiction)
       ·have hid:([.i .i64 (d - 1),.i .i64 d]:List PV)[e]?=some (.i .i64 (d - 1+e)):=by
         rcases (show e=0∨e=1 by omega) with rfl|rfl<;>simp
        have qe:=aI @scE (aI qR (aI @hid @Nat.mul_one));repeat' first|refine gC ?_ ?_<;>intro hc<;>try contradiction|refine za (znG l (d - 1+e)) ?_|refine gG ?_|show AK _;intro K H|refine H _ _ ?_;clear H K|refine gJ ?_;try exact trivial|omega
        refine zco rfl (zoi l (d - 1+e) h1) ?_ ?_ [(1,.p (.sl 7 (m.map Mov.pv))),(5,.lp 5 0),(7,.lp 7 0),(8,.p (.sl 1 ((zW r.per).map (.i .i64)))),(11,.lp 11 0),(12,.lp 12 0),(13,.lp 13 0),(15,.lp 15 0),(31,.p (.sl 11 (ls.map Lim.pv))),(32,.p (.i .i64 ls.length)),(33,.p (.i .i64 k)),(48,.p (.sl 1 ((zW r.per).map (.i .i64)))),(49,.p (.i .i64 (zW r.per).length)),(50,.p (.i .i64 q)),(57,.p (.agg [.i .i64 (d - 1),.i .i64 d])),(58,.p (.i .i64 e))] (fun i=>[(5,.box (r.cells.map .p) false),(7,.box (zia (p3 ls m r k l q d e i)) false),(11,.box (l.cells.map .p) false),(12,.box [.p (.sl 1 ((ofL l m).map (.i .i64)))] false),(13,.box [.p (.i .i64 0),.p (.i .i64 (zuz l m c ((zL l (d - 1+e)).take i)).1),.p (.i .i64 (zuz l m c ((zL l (d - 1+e)).take i)).2)] false),(15,.box [.p (.i .i64 d)] false)]) (fun _=>[]) ?_ ?_ ?_
        ·simp
        ·simp [hX]
        ·simp only [qS,Nat.reduceAdd,Nat.reduceMul,Nat.reduceEqDiff,Nat.reduceLeDiff,reduceIte,reduceCtorEq,Nat.reduceBEq,Nat.reduceLT,scE]
         exact ⟨by simp [p3],rfl⟩
        ·intro i t ht X' ro' hX'
         simp only [List.getElem?_map,Option.map_eq_some_iff] at ht
         obtain ⟨b,hbb,rfl⟩:=ht
         have hbm:=zfs h1 (List.mem_of_getElem? hbb)
         have hpp:=zaY hlm.2.2.2.2.2.2.2.1
         have hnx:=zut (ls:=ls) (m:=m) (r:=r) (k:=k) (q:=q) hbb
         have hln:=zn8 (l:=l) (m:=m) (a:=c) hbb
         have hlo:=zn7 he.2 ((zL l (d - 1+e)).take i)
         have hPl:=zw0 (i:=i) hx hcl hd (show e < 2 by omega) hA
         simp only [qS,Nat.reduceAdd,Nat.reduceMul,Nat.reduceEqDiff,Nat.reduceLeDiff,reduceIte,reduceCtorEq,Nat.reduceBEq,Nat.reduceLT,scE]
         have qe:=@scE;repeat' first|refine gC ?_ ?_<;>intro hc<;>try contradiction|refine gG ?_|show AK _;intro K H|refine H _ _ ?_;clear H K|refine gJ ?_;try exact trivial|omega
         intro X1 hX1
         generalize zuz l m c ((zL l (d - 1+e)).take i)=a' at hlo ⊢
         obtain ⟨lb,lc⟩:=a'
         simp only [okP] at hlo
         have key:(lb=b∧lc=zbs l m b)∨¬lb=b:=by
          by_cases h:lb=b
          ·refine .inl ⟨h,?_⟩
           rcases hlo with h2|h2
           ·omega
           ·rw [h2,h]
          ·exact .inr h
         by_cases hcm:zbs l m b < l.most
         ·have hcm':=eq_true hcm
          have hev:evB m l d b=[]:=by rw [evB,if_pos hcm]
          rcases key with ⟨h1,h2⟩|hlb
          ·subst h1;subst h2
           have qe:=aI @scE (aI qR (aI @zbb @hcm'));repeat' first|refine gC ?_ ?_<;>intro hc<;>try contradiction|refine gG ?_|show AK _;intro K H|refine H _ _ ?_;clear H K|refine gJ ?_;try exact trivial|omega
           rw [hln,hnx,hev,List.append_nil];exact ⟨rfl,rfl⟩
          ·have hlb':=eq_false hlb
           have qe:=aI @scE (aI qR (aI @zbb (aI @hcm' @hlb')));repeat' first|refine gC ?_ ?_<;>intro hc<;>try contradiction|refine za (zbE h1 hb.2.1 b (by omega) (by omega)) ?_|refine gG ?_|show AK _;intro K H|refine H _ _ ?_;clear H K|refine gJ ?_;try exact trivial|omega
           rw [hln,hnx,hev,List.append_nil];exact ⟨rfl,rfl⟩
         ·have hcm':=eq_false hcm
          by_cases hft:max 0 (b - 1440*d) < min 1440 (b+l.len - 1440*d)
          ·obtain ⟨f,hf⟩:∃ f:Nat,max 0 (b - 1440*d)=f:=⟨(max 0 (b - 1440*d)).toNat,by omega⟩
           obtain ⟨t,ht⟩:∃ t:Nat,min 1440 (b+l.len - 1440*d)=t:=⟨(min 1440 (b+l.len - 1440*d)).toNat,by omega⟩
           have hev:evB m l d b=[(f,t)]:=by rw [evB,if_neg hcm,if_pos hft,hf,ht];simp
           have hb12:f < t∧t≤1440:=by omega
           have hftc:((f:Int) < t)=True:=eq_true (by omega)
           obtain ⟨x,hx1,hx2⟩:=zh8 (p3 ls m r k l q d e i) (i:=f) (by omega)
           obtain ⟨y,hy1,hy2⟩:=zh8 (p3 ls m r k l q d e i) (i:=t) (by omega)
           have hxo:=zjN hx1
           have hyo:∀ v,((zia (p3 ls m r k l q d e i)).set f v)[t]?=some (LV.p (PV.i .i64 y)):=fun v=>by rw [List.getElem?_set_ne (by omega)];exact zjN hy1
           rcases key with ⟨h1,h2⟩|hlb
           ·subst h1;subst h2
            have qe:=aI @scE (aI qR (aI @zbb (aI @hcm' (aI @hf (aI @ht (aI @hftc (aI @hxo (aI @hyo (aI @zhb (aI @Nat.zero_add @Nat.mul_one))))))))));repeat' first|refine gC ?_ ?_<;>intro hc<;>try contradiction|refine gG ?_|show AK _;intro K H|refine H _ _ ?_;clear H K|refine gJ ?_;try exact trivial|omega
            rw [hln,hnx,hev,zh9 hx1 hy1];exact ⟨rfl,rfl⟩
           ·have hlb':=eq_false hlb
            have qe:=aI @scE (aI qR (aI @zbb (aI @hcm' (aI @hlb' (aI @hf (aI @ht (aI @hftc (aI @hxo (aI @hyo (aI @zhb (aI @Nat.zero_add @Nat.mul_one)))))))))));repeat' first|refine gC ?_ ?_<;>intro hc<;>try contradiction|refine za (zbE h1 hb.2.1 b (by omega) (by omega)) ?_|refine gG ?_|show AK _;intro K H|refine H _ _ ?_;clear H K|refine gJ ?_;try exact trivial|omega
            rw [hln,hnx,hev,zh9 hx1 hy1];exact ⟨rfl,rfl⟩
          ·have hft':=eq_false hft
           have hev:evB m l d b=[]:=by rw [evB,if_neg hcm,if_neg hft]
           rcases key with ⟨h1,h2⟩|hlb
           ·subst h1;subst h2
            have qe:=aI @scE (aI qR (aI @zbb (aI @hcm' @hft')));repeat' first|refine gC ?_ ?_<;>intro hc<;>try contradiction|refine gG ?_|show AK _;intro K H|refine H _ _ ?_;clear H K|refine gJ ?_;try exact trivial|omega
            rw [hln,hnx,hev,List.append_nil];exact ⟨rfl,rfl⟩
           ·have hlb':=eq_false hlb
            have qe:=aI @scE (aI qR (aI @zbb (aI @hcm' (aI @hlb' @hft'))));repeat' first|refine gC ?_ ?_<;>intro hc<;>try contradiction|refine za (zbE h1 hb.2.1 b (by omega) (by omega)) ?_|refine gG ?_|show AK _;intro K H|refine H _ _ ?_;clear H K|refine gJ ?_;try exact trivial|omega
            rw [hln,hnx,hev,List.append_nil];exact ⟨rfl,rfl⟩
        ·simp only [List.length_map,zsL]
         have qe:=aI @scE @List.take_length.{0};repeat' first|refine gC ?_ ?_<;>intro hc<;>try contradiction|refine gG ?_|show AK _;intro K H|refine H _ _ ?_;clear H K|refine gJ ?_;try exact trivial|omega
         refine ⟨(e+1,zuz l m c (zL l (d - 1+e))),⟨by simp only;omega,zn7 he.2 _⟩,by simp only;omega,?_⟩
         simp
       ·have qe:=@scE;repeat' first|refine gC ?_ ?_<;>intro hc<;>try contradiction|refine gG ?_|show AK _;intro K H|refine H _ _ ?_;clear H K|refine gJ ?_;try exact trivial|omega
        have ee:e=2:=by omega
        subst ee
        refine ⟨(q+1,c),⟨by simp only;omega,he.2⟩,by simp only;omega,?_⟩
        simp [zsM hd]
     ·have qe:=@scE;repeat' first|refine gC ?_ ?_<;>intro hc<;>try contradiction|refine gG ?_|show AK _;intro K H|refine H _ _ ?_;clear H K|refine gJ ?_;try exact trivial|omega
      have eq:q=(zW r.per).length:=by omega
      subst eq
      refine ⟨k+1,by omega,by omega,by simp,?_⟩
      rw [zsN hx hcl]
  ·have qe:=aI @scE (aI @scO (@List.map_replicate.{0,0}));repeat' first|refine gC ?_ ?_<;>intro hc<;>try contradiction|refine gG ?_|show AK _;intro K H|refine H _ _ ?_;clear H K|refine gJ ?_;try exact trivial|omega
   have e:k=ls.length:=by omega
   subst e
   refine zj (κ:=Nat) (fun i=>⟨[(7,.lp 7 0),(22,.lp 113 0),(23,.p (.i .i64 (zfB (edg (evA ls m r)) i))),(114,.p (.i .i64 i))],[(7,.box (zia (evA ls m r)) false),(113,.box (znS (evA ls m r) i) false)],[],false⟩) (fun i=>i≤1440) (fun i=>1440 - i) 0 ?_ ?_ ?_
   ·simp only [qS,Nat.reduceAdd,Nat.reduceMul,Nat.reduceEqDiff,Nat.reduceLeDiff,reduceIte,reduceCtorEq,Nat.reduceBEq,Nat.reduceLT,scE,scO]
    exact ⟨⟨rfl,rfl⟩,rfl,by rw [zw2]⟩
   ·simp
   ·intro i hi
    have hevo:∀ e ∈ evA ls m r,e.1 < e.2∧e.2≤1440:=fun e he=>zxw he
    have hbd:=zup hevo (i:=i) (by omega)
    have qe:=aI @scE @scO;repeat first|refine gG ?_|show AK _;intro K H|refine H _ _ ?_;clear H K|refine gJ ?_;try exact trivial|omega
    have qe:=aI @scE @scO;(refine gC ?_ ?_<;>intro hc<;>try contradiction)
    ·obtain ⟨x,hx1,hx2⟩:=zh8 (evA ls m r) (i:=i) (by omega)
     have hxo:=zjN hx1
     have hpn:=zeS hx1
     have hpp:=zra hevo (i:=i) (by omega)
     have hon:=znR (evA ls m r) (k:=i) (by omega)
     rw [hpn] at hpp
     have qe:=aI @scE (aI @scO (aI @hxo (aI @hpp (aI @zhb (aI @zre (aI @hon (aI @Nat.zero_add @Nat.mul_one)))))));repeat' first|refine gC ?_ ?_<;>intro hc<;>try contradiction|refine gG ?_|show AK _;intro K H|refine H _ _ ?_;clear H K|refine gJ ?_;try exact trivial|omega
     exact ⟨i+1,by omega,by omega,by rw [hpn];simp,rfl⟩
    ·have qe:=aI @scE (aI @scO (aI @goO @boxO));repeat' first|refine gC ?_ ?_<;>intro hc<;>try contradiction|refine gG ?_|show AK _;intro K H|refine H _ _ ?_;clear H K|refine gJ ?_;try exact trivial|omega
     have e:i=1440:=by omega
     subst e
     exact .refl _
end Go.Proofs.YtijgimeokgbifaaGreat
