/- Contracts of functions that the proof uses, shared by the claims of this seat; no statement of its own. Part 26. No conditions. -/
import Derived.Test.YtahmdjadnlpjoaaGreatK11
import Derived.Test.YtahmdjadnlpjoaaGreatK12
import Derived.Test.YtahmdjadnlpjoaaGreatK7
set_option linter.all false
set_option maxHeartbeats 8000000
namespace Go.Proofs.YtahmdjadnlpjoaaGreat
open Go.RowKit
set_option maxRecDepth 100000
set_option linter.unusedVariables false
set_option linter.unusedSimpArgs false
set_option maxHeartbeats 2000000
def mostAt (ls:List Lim) (i:Int):Int:=match ls[i.toNat]? with|some l=>l.most|none=>0
def roomStep (ls:List Lim) (a:Int) (w:Win):Int:=min a (max 0 (mostAt ls w.lim - w.cnt))
def roomK (ls:List Lim) (W:List Win):Int:=W.foldl (roomStep ls) 999999999
def roomL (ls:List Lim) (m:List Mov) (o:Mov):Int:=roomK ls (arW ls m o)
theorem arW_at {ls:List Lim} {m:List Mov} {o:Mov} {w:Win} (hw:w ∈ arW ls m o):∃ (i:Nat) (l:Lim),w.lim=i∧ls[i]?=some l∧w.cnt=zbs l m w.beg∧zac l o.kind o.term=true∧w.beg≤o.moment∧o.moment < w.beg+l.len∧∃ e:Nat,e < 2∧w.beg ∈ zM l (o.moment / 1440 - 1+e):=by
 obtain ⟨i,hi,hw⟩:=List.mem_flatMap.1 hw
 unfold arI at hw
 split at hw
 ·rename_i l hl
  unfold arL at hw
  split at hw
  ·rename_i hc
   obtain ⟨e,he,hw⟩:=List.mem_flatMap.1 hw
   obtain ⟨b,hb,hw⟩:=List.mem_flatMap.1 hw
   unfold arB at hw
   split at hw
   ·rename_i hin
    simp only [List.mem_singleton] at hw
    subst hw
    exact ⟨i,l,rfl,hl,rfl,hc,hin.1,hin.2,e,List.mem_range.1 he,hb⟩
   ·cases hw
  ·cases hw
 ·cases hw
theorem arW_len {ls:List Lim} {m:List Mov} {o:Mov} (hn:ls.length≤32) (h:∀ l ∈ ls,zaS l=0):(arW ls m o).length≤92160:=by
 have h1:(arW ls m o).length≤(List.range ls.length).length*2880:=by
  refine flat_le fun i _=>?_
  unfold arI
  split
  ·rename_i l hl
   unfold arL
   split
   ·have h2:((List.range 2).flatMap (arX m o i l)).length≤(List.range 2).length*1440:=by
     refine flat_le fun e _=>?_
     have h3:=beginsL_len (h l (List.mem_of_getElem? hl)) (o.moment / 1440 - 1+e)
     have h4:(arD m o i l (o.moment / 1440 - 1+e)).length≤(zM l (o.moment / 1440 - 1+e)).length*1:=by
      refine flat_le fun b _=>?_
      unfold arB;split<;>simp
     unfold arX;omega
    simp only [List.length_range] at h2;omega
   ·simp
  ·simp
 simp only [List.length_range] at h1;omega
abbrev roomC (ls:List Lim) (m:List Mov) (o:Mov):Int:=zg [bothC ls m,chkMov o]
theorem pure99 (ls:List Lim) (w:Win) (i:Nat) (l:Lim) (hwi:w.lim=i) (hli:ls[i]?=some l):Pure Tryz.prog 188 [w.pv,.ip (.sl 11 (ls.map Lim.pv)) 0] (.b (decide (l.most≤w.cnt))):=by
 have hil:=(List.getElem?_eq_some_iff.1 hli).1
 refine zf (cF Tryz.func188 Tryz.f188.eq_1) (by simp) fun hw X hX=>?_
 have qe:=aI qR (aI @hwi @hli);repeat' first|refine gC (fun hc=>?_) (fun hc=>?_)<;>try contradiction|refine gG ?_|show AK _;intro K H|refine H _ _ ?_;clear H K|refine gJ ?_;try exact trivial|omega
 exact .refl _
theorem pure100 {f:Nat} {caps:List PV} {L:List Win} {p:Win→Bool} (hf:∀ w ∈ L,Pure Tryz.prog f (w.pv::caps) (.b (p w))) (hn:L.length≤1000000):Pure Tryz.prog 189 [.sl 3 (L.map Win.pv),.fn (.func f) [] caps] (.sl 3 ((L.filter p).map Win.pv)):=by
 refine zf (cF Tryz.func189 Tryz.f189.eq_1) (by simp) fun hw X hX=>?_
 repeat' first|refine gC (fun hc=>?_) (fun hc=>?_)<;>try contradiction|refine gG ?_|show AK _;intro K H|refine H _ _ ?_;clear H K|refine gJ ?_;try exact trivial|omega
 refine zaO 100 142 3 [(1,.p (.fn (.func f) [] caps)),(5,.row 100 0),(8,.p (.sl 3 (L.map Win.pv))),(9,.p (.i .i64 L.length)),(10,.p (.i .i64 0))] [] ?_ ?_
 ·simp only [Own,zaL,zaB,zbt,zay,qS,Nat.reduceAdd,Nat.reduceMul,Nat.reduceEqDiff,Nat.reduceLeDiff,reduceIte,reduceCtorEq,Nat.reduceBEq,Nat.reduceLT]
 refine zk (κ:=Nat) (fun k=>⟨[(1,.p (.fn (.func f) [] caps)),(5,.row 100 ((L.take k).filter p).length),(8,.p (.sl 3 (L.map Win.pv))),(9,.p (.i .i64 L.length)),(10,.p (.i .i64 k))],[(100,.row 142 3 (((L.take k).filter p).map Win.pv) false)],[],false⟩) (fun k=>k≤L.length) (fun k=>L.length - k) 0 ?_ ?_ ?_
 ·exact sS
 ·simp
 ·intro k hk
  repeat first|refine gG ?_|show AK _;intro K H|refine H _ _ ?_;clear H K|refine gJ ?_;try exact trivial|omega
  (refine gC (fun hc=>?_) (fun hc=>?_)<;>try contradiction)
  ·obtain ⟨w,hx⟩:=zn (i:=k) (l:=L) (by omega)
   have hnx:=filter_take (p:=p) hx
   have hfl:=filter_tlen (p:=p) (l:=L) (k:=k)
   have qe:=aI qR @hx;repeat' first|refine gC (fun hc=>?_) (fun hc=>?_)<;>try contradiction|refine zr (hf w (List.mem_of_getElem? hx)) ?_|refine gG ?_|show AK _;intro K H|refine H _ _ ?_;clear H K|refine gJ ?_;try exact trivial|omega
   ·rw [hc,if_pos rfl] at hnx
    exact ⟨k+1,by omega,by omega,⟨by rw [hnx];simp,by simp⟩,by rw [hnx];simp⟩
   ·rw [hc] at hnx
    exact ⟨k+1,by omega,by omega,⟨by rw [hnx];simp,by simp⟩,by rw [hnx];simp⟩
  ·repeat' first|refine gC (fun hc=>?_) (fun hc=>?_)<;>try contradiction|refine gG ?_|show AK _;intro K H|refine H _ _ ?_;clear H K|refine gJ ?_;try exact trivial|omega
   have e:k=L.length:=by omega
   subst e;rw [List.take_length];exact .refl _
def fullL (ls:List Lim) (m:List Mov) (o:Mov):List Win:=(arW ls m o).filter fun w=>decide (mostAt ls w.lim≤w.cnt)
def fullR (ls:List Lim) (m:List Mov) (o:Mov):List Win:=if roomC ls m o=0 then fullL ls m o else []
theorem fullR_p {ls:List Lim} {m:List Mov} {o:Mov} (h:roomC ls m o=0):fullR ls m o=fullL ls m o:=if_pos h
theorem fullR_n {ls:List Lim} {m:List Mov} {o:Mov} (h:¬roomC ls m o=0):fullR ls m o=[]:=if_neg h
theorem pure44 (ls:List Lim) (m:List Mov) (o:Mov):Pure Tryz.prog 117 [.sl 11 (ls.map Lim.pv),.sl 7 (m.map Mov.pv),o.pv] (.tup [.sl 3 ((fullR ls m o).map Win.pv),.i .i64 (roomC ls m o)]):=by
 refine zf (cF Tryz.func117 Tryz.f117.eq_1) (by simp) fun hw X hX=>?_
 have qe:=@qR;repeat' first|refine gC (fun hc=>?_) (fun hc=>?_)<;>try contradiction|refine za (pure97 ls m) ?_|refine za (pure87 o) ?_|refine za (zbx [_,_]) ?_|refine gG ?_|show AK _;intro K H|refine H _ _ ?_;clear H K|refine gJ ?_;try exact trivial|omega
 ·rw [fullR_n hc];exact weak2 (.nilsl _) (.refl _)
 ·have h0:=hc
  have h1:bothC ls m=0∧chkMov o=0∧True:=⟨(zq.1 hc).1,(zq.1 (zq.1 hc).2).1,trivial⟩
  have h2:=h1.1
  simp only [zq] at h2
  have hl:=chkLims_0 h2.1
  have hn:=arW_len (m:=m) (o:=o) hl.1 hl.2
  have hff:∀ w ∈ arW ls m o,Pure Tryz.prog 188 (w.pv::[.ip (.sl 11 (ls.map Lim.pv)) 0]) (.b (decide (mostAt ls w.lim≤w.cnt))):=fun w hw=>by
   obtain ⟨i,l,hwi,hli,_⟩:=arW_at hw
   have:=pure99 ls w i l hwi hli
   rw [show mostAt ls w.lim=l.most by rw [mostAt,hwi,Int.toNat_natCast,hli]];exact this
  have qe:=@qR;repeat' first|refine gC (fun hc=>?_) (fun hc=>?_)<;>try contradiction|refine za (pure102 ls m o) ?_|refine za (pure101 (iter139 ls m o (by omega) hl.2 h2.2.1 h1.2.1) (by omega)) ?_|refine zam (pure100 hff (by omega)) ?_|refine gG ?_|show AK _;intro K H|refine H _ _ ?_;clear H K|refine gJ ?_;try exact trivial|omega
  rw [fullR_p h0,roomC,h0];exact .refl _
set_option maxRecDepth 100000
set_option linter.unusedVariables false
set_option linter.unusedSimpArgs false
set_option maxHeartbeats 2000000
theorem chkReq_0 {r:Req} (h:chkReq r=0):zau r.per=0∧0≤r.minute∧r.minute≤1439:=by
 unfold chkReq at h
 simp only [zq,rng_0] at h
 exact ⟨h.2.2.2.1,h.2.2.2.2.1⟩
def movOf (r:Req) (d:Int):Mov:=⟨1440*d+r.minute,r.kind,r.term,r.seats,r.size,r.noise,r.name⟩
def movsL (r:Req):List Mov:=(zY r.per).map (movOf r)
theorem pure80 (r:Req) (h:chkReq r=0):Pure Tryz.prog 186 [r.pv] (.sl 7 ((movsL r).map Mov.pv)):=by
 have hr:=chkReq_0 h
 have hp:=zaX hr.1
 have hdl:=daysL_len r.per
 have hdr:daysR r.per=zY r.per:=by rw [daysR,if_pos hr.1]
 refine zf (cF Tryz.func186 Tryz.f186.eq_1) (by simp) fun hw X hX=>?_
 have qe:=aI qR @hdr;repeat' first|refine gC (fun hc=>?_) (fun hc=>?_)<;>try contradiction|refine za (pure126 r.per) ?_|refine gG ?_|show AK _;intro K H|refine H _ _ ?_;clear H K|refine gJ ?_;try exact trivial|omega
 refine zaO 100 180 7 [(1,.lp 1 0),(5,.row 100 0),(14,.p (.sl 1 ((zY r.per).map (.i .i64)))),(15,.p (.i .i64 (zY r.per).length)),(16,.p (.i .i64 0))] [(1,.box ([.s r.name,.s r.carrier,.s r.kind,.s r.term,.s r.partner,.s r.link,.i .i64 r.per.fro,.i .i64 r.per.to,.i .i64 r.per.days,.i .i64 r.minute,.i .i64 r.seats,.i .i64 r.size,.i .i64 r.noise].map .p) false)] ?_ ?_
 ·simp only [Own,zaL,zaB,zbt,zay,qS,Nat.reduceAdd,Nat.reduceMul,Nat.reduceEqDiff,Nat.reduceLeDiff,reduceIte,reduceCtorEq,Nat.reduceBEq,Nat.reduceLT]
 refine zk (κ:=Nat) (fun k=>⟨[(1,.lp 1 0),(5,.row 100 ((zY r.per).take k).length),(14,.p (.sl 1 ((zY r.per).map (.i .i64)))),(15,.p (.i .i64 (zY r.per).length)),(16,.p (.i .i64 k))],[(1,.box ([.s r.name,.s r.carrier,.s r.kind,.s r.term,.s r.partner,.s r.link,.i .i64 r.per.fro,.i .i64 r.per.to,.i .i64 r.per.days,.i .i64 r.minute,.i .i64 r.seats,.i .i64 r.size,.i .i64 r.noise].map .p) false),(100,.row 180 7 ((((zY r.per).take k).map (movOf r)).map Mov.pv) false)],[],false⟩) (fun k=>k≤(zY r.per).length) (fun k=>(zY r.per).length - k) 0 ?_ ?_ ?_
 ·exact sS
 ·simp
 ·intro k hk
  repeat first|refine gG ?_|show AK _;intro K H|refine H _ _ ?_;clear H K|refine gJ ?_;try exact trivial|omega
  (refine gC (fun hc=>?_) (fun hc=>?_)<;>try contradiction)
  ·obtain ⟨d,hx⟩:=zn (i:=k) (l:=zY r.per) (by omega)
   have hdm:=daysL_mem (List.mem_of_getElem? hx)
   have hlt:=take_len hx
   have qe:=aI qR @hx;repeat' first|refine gC (fun hc=>?_) (fun hc=>?_)<;>try contradiction|refine gG ?_|show AK _;intro K H|refine H _ _ ?_;clear H K|refine gJ ?_;try exact trivial|omega
   exact ⟨k+1,by omega,by omega,⟨by rw [List.take_add_one,hx,List.length_append];rfl,by simp⟩,by rw [take_snoc (movOf r) hx];simp [movOf]⟩
  ·repeat' first|refine gC (fun hc=>?_) (fun hc=>?_)<;>try contradiction|refine gG ?_|show AK _;intro K H|refine H _ _ ?_;clear H K|refine gJ ?_;try exact trivial|omega
   have e:k=(zY r.per).length:=by omega
   subst e;rw [List.take_length];exact .refl _
def movR (r:Req):List Mov:=if chkReq r=0 then movsL r else []
theorem pure19 (r:Req):Pure Tryz.prog 116 [r.pv] (.tup [.sl 7 ((movR r).map Mov.pv),.i .i64 (chkReq r)]):=by
 refine zf (cF Tryz.func116 Tryz.f116.eq_1) (by simp) fun hw X hX=>?_
 have qe:=@qR;repeat' first|refine gC (fun hc=>?_) (fun hc=>?_)<;>try contradiction|refine za (pure79 r) ?_|refine za (pure80 r hc) ?_|refine gG ?_|show AK _;intro K H|refine H _ _ ?_;clear H K|refine gJ ?_;try exact trivial|omega
 ·rw [movR,if_neg hc];exact weak2 (.nilsl _) (.refl _)
 ·rw [movR,if_pos hc,hc];exact .refl _
def Req.at (r:Req) (n:Int):Req:={ r with minute:=n }
end Go.Proofs.YtahmdjadnlpjoaaGreat
